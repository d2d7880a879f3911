/-
  Hosts: Learn. No condition.
-/
import Derived.Test.YtjkhmbigoloeiaaNk7
set_option linter.unusedVariables false
set_option linter.unusedSimpArgs false
set_option maxRecDepth 20000
namespace Go.Proofs.Ytjkhmbigoloeiaa.Oct
open Go.RowKit Base
attribute [local irreducible] Ys Yc Ht HtS HtIn Wl Wd W Mem pf dpf Wa Wo

/-- What is known behind Learn. -/
structure Lrn (xs X : List (Int × Host)) (a : Int) (v : Host) : Prop where
  srt : Srt LO.int X
  mem : (a, v) ∈ X
  sub : ∀ p ∈ X, p = (a, v) ∨ p ∈ xs
  len : X.length = bif hasK xs a then xs.length else min (xs.length + 1) 256
theorem lrn_put {xs : List (Int × Host)} {a : Int} {v : Host} (hs : Srt LO.int xs) (h256 : xs.length ≤ 256) (h : (putR 256 xs a != 0) = false) : Lrn xs (putX LO.int 256 xs a v) a v := by
  unfold putR at h
  have e : putX LO.int 256 xs a v = putK LO.int xs a v := by
    unfold putX
    cases hh : hasK xs a
    · rw [hh] at h
      cases hf : (decide (((xs.length : Nat) : Int) ≥ 256))
      · rfl
      · rw [hf] at h; cases h
    · rfl
  refine ⟨srt_putX hs, by rw [e, mem_putK hs]; exact .inl rfl, fun p hp => ?_, ?_⟩
  · rw [e, mem_putK hs] at hp; exact hp.imp_right And.left
  · rw [e, putK_len hs]
    cases hh : hasK xs a
    · rw [hh] at h
      cases hf : (decide (((xs.length : Nat) : Int) ≥ 256))
      · have := of_decide_eq_false hf; simp only [cond_false]; omega
      · rw [hf] at h; cases h
    · rfl
theorem lrn_drop {xs : List (Int × Host)} {a b : Int} {v : Host} (hs : Srt LO.int xs) (h256 : xs.length ≤ 256) (h : (putR 256 xs a != 0) = true) (hb : putX LO.int 256 xs a v ≠ [] → hasK (putX LO.int 256 xs a v) b = true) : Lrn xs (putX LO.int 256 (dropK (putX LO.int 256 xs a v) b) a v) a v := by
  have hh : hasK xs a = false := by
    unfold putR at h
    cases hh : hasK xs a
    · rfl
    · rw [hh] at h; cases h
  have hf : xs.length = 256 := by
    unfold putR at h
    rw [hh] at h
    cases hf : (decide (((xs.length : Nat) : Int) ≥ 256))
    · rw [hf] at h; cases h
    · have := of_decide_eq_true hf; omega
  have e : putX LO.int 256 xs a v = xs := by unfold putX; rw [hh, decide_eq_true (by omega)]; rfl
  rw [e] at hb ⊢
  have hb := hb (fun e => by rw [e] at hf; cases hf)
  have hd : Srt LO.int (dropK xs b) := srt_dropK hs
  have hl : (dropK xs b).length = 255 := by rw [dropK_len hs, hb]; simp [hf]
  have hn : hasK (dropK xs b) a = false := hasK_not.2 fun p hp => hasK_not.1 hh p (mem_dropK.1 hp).1
  have e2 : putX LO.int 256 (dropK xs b) a v = putK LO.int (dropK xs b) a v := by unfold putX; rw [hn, decide_eq_false (by omega)]; rfl
  refine ⟨srt_putX hd, by rw [e2, mem_putK hd]; exact .inl rfl, fun p hp => ?_, ?_⟩
  · rw [e2, mem_putK hd] at hp; exact hp.imp_right fun h => (mem_dropK.1 h.1).1
  · rw [e2, putK_len hd, hn, hh]; simp only [cond_false]; omega
theorem learn_c (xs : List (Int × Host)) (hs : List Hd) (g h : FS) (a m0 m1 m2 m3 m4 m5 : Int) (n tb c : Nat) (M : List Nat) (w : World) (hl : Mem w M [g.seg 142 (mm prH xs), [cb tb [Value.slice g.a xs.length g.cap, Value.int .i64 256, Value.func (.func 37) #[] #[]] 138], h.seg 101 (mm hd hs), [cb c [Value.pointer (some ⟨tb, 0, none⟩), Value.slice h.a hs.length h.cap] 96]] w) (ok : g.ok 8 xs.length) (okh : h.ok 7 hs.length) (hs_ : Srt LO.int xs) (h256 : xs.length ≤ 256) (hn : hs.length ≤ 500) (hall : ∀ x ∈ hs, x.dst = a) (hnow : n ≤ 1000000) : Calls Try.prog 16 #[Value.pointer (some ⟨c, 0, none⟩), Value.int .u32 a, Value.agg ([Value.int .u8 m0, Value.int .u8 m1, Value.int .u8 m2, Value.int .u8 m3, Value.int .u8 m4, Value.int .u8 m5]).toArray, Value.int .u64 ((n : Nat) : Int)] w (RetM w (fun q : List (Int × Host) × FS × FS × FS => Lrn xs q.1 a (⟨m0, m1, m2, m3, m4, m5, ((n + 300 : Nat) : Int)⟩ : Host) ∧ q.2.1.ok 8 q.1.length ∧ q.2.2.1.ok 7 0 ∧ q.2.2.2.ok 6 (hs.map Hd.pk).length) (fun q => .slice q.2.2.2.a (hs.map Hd.pk).length q.2.2.2.cap) M (fun q => [q.2.1.seg 142 (mm prH q.1), [cb tb [Value.slice q.2.1.a q.1.length q.2.1.cap, Value.int .i64 256, Value.func (.func 37) #[] #[]] 138], q.2.2.1.seg 101 (mm hd []), q.2.2.2.seg 47 (mm pk (hs.map Hd.pk)), [cb c [Value.pointer (some ⟨tb, 0, none⟩), Value.slice q.2.2.1.a 0 q.2.2.1.cap] 96]])) := by
  refine calls_W (M := M) (LL := [g.seg 142 (mm prH xs), [cb tb [Value.slice g.a xs.length g.cap, Value.int .i64 256, Value.func (.func 37) #[] #[]] 138], h.seg 101 (mm hd hs), [cb c [Value.pointer (some ⟨tb, 0, none⟩), Value.slice h.a hs.length h.cap] 96]]) (n := 51) Try.func16 rfl rfl (by simp) (hl) ?_
  refine W.seq (fun K1 hK1 => ?_)
  refine W.region ?_
  refine Wl.ht rfl (Ht.box (v := Value.int .u32 a) (cs := [Value.int .u32 a]) rfl rfl (by kernel_rfl) rfl) (fun p5 => ?_)
  refine Wl.ht rfl (Ht.box (v := Value.agg ([Value.int .u8 m0, Value.int .u8 m1, Value.int .u8 m2, Value.int .u8 m3, Value.int .u8 m4, Value.int .u8 m5]).toArray) (cs := [Value.int .u8 m0, Value.int .u8 m1, Value.int .u8 m2, Value.int .u8 m3, Value.int .u8 m4, Value.int .u8 m5]) rfl rfl (by kernel_rfl) rfl) (fun p6 => ?_)
  refine Wl.ht rfl (Ht.alloc (z := Value.slice none 0 0) (cs := [Value.slice none 0 0]) rfl rfl Try.zeroValue36 rfl) (fun p8 => ?_)
  refine Wl.nil ?_
  refine hK1 _ _ _ ?_
  refine W.prune' [0, 3, 5, 6, 8] [Value.pointer (some ⟨c, 0, none⟩), Value.int .u64 ((n : Nat) : Int), Value.pointer (some ⟨p5, 0, none⟩), Value.pointer (some ⟨p6, 0, none⟩), Value.pointer (some ⟨p8, 0, none⟩)] (by kernel_rfl) (fun f2 => ?_)
  refine W.seq (fun K3 hK3 => ?_)
  refine W.region ?_
  refine Wl.ys (v := Value.agg ([Value.int .u8 m0, Value.int .u8 m1, Value.int .u8 m2, Value.int .u8 m3, Value.int .u8 m4, Value.int .u8 m5]).toArray) rfl rfl (Ys.loadN (b := p6) (o' := 0) (i := 1) (j := 0) (cs := [Value.int .u8 m0, Value.int .u8 m1, Value.int .u8 m2, Value.int .u8 m3, Value.int .u8 m4, Value.int .u8 m5]) (vs := [Value.int .u8 m0, Value.int .u8 m1, Value.int .u8 m2, Value.int .u8 m3, Value.int .u8 m4, Value.int .u8 m5]) rfl (by kernel_rfl) Try.isAgg23 Try.sizeOf23 rfl rfl rfl rfl) ?_
  refine Wl.run 1 (by kernel_rfl) ?_
  refine Wl.ys (v := Value.int .u64 ((n + 300 : Nat) : Int)) rfl rfl ((Ys.pure (v := .int .u64 (iadd .u64 ((n : Nat) : Int) ((300 : Nat) : Int))) (fun _ => by kernel_rfl)).conseq (int_congr (iadd_natu rfl (by show _ < 18446744073709551616; omega)))) ?_
  refine Wl.run 1 (by kernel_rfl) ?_
  refine Wl.ht rfl (Ht.alloc (z := Value.agg ([Value.int .u8 0, Value.int .u8 0, Value.int .u8 0, Value.int .u8 0, Value.int .u8 0, Value.int .u8 0, Value.int .u64 0]).toArray) (cs := [Value.int .u8 0, Value.int .u8 0, Value.int .u8 0, Value.int .u8 0, Value.int .u8 0, Value.int .u8 0, Value.int .u64 0]) rfl rfl Try.zeroValue92 rfl) (fun p9 => ?_)
  refine Wl.ht rfl (Ht.storeN (b := p9) (o' := 0) (i := 0) (j := 0) (cs := [Value.int .u8 0, Value.int .u8 0, Value.int .u8 0, Value.int .u8 0, Value.int .u8 0, Value.int .u8 0, Value.int .u64 0]) (vs := [Value.int .u8 m0, Value.int .u8 m1, Value.int .u8 m2, Value.int .u8 m3, Value.int .u8 m4, Value.int .u8 m5, Value.int .u64 ((n + 300 : Nat) : Int)]) (cs' := [Value.int .u8 m0, Value.int .u8 m1, Value.int .u8 m2, Value.int .u8 m3, Value.int .u8 m4, Value.int .u8 m5, Value.int .u64 ((n + 300 : Nat) : Int)]) (LL' := [[cb p9 [Value.int .u8 m0, Value.int .u8 m1, Value.int .u8 m2, Value.int .u8 m3, Value.int .u8 m4, Value.int .u8 m5, Value.int .u64 ((n + 300 : Nat) : Int)] 92], [cb p8 [Value.slice none 0 0] 36], [cb p6 [Value.int .u8 m0, Value.int .u8 m1, Value.int .u8 m2, Value.int .u8 m3, Value.int .u8 m4, Value.int .u8 m5] 23], [cb p5 [Value.int .u32 a] 25], g.seg 142 (mm prH xs), [cb tb [Value.slice g.a xs.length g.cap, Value.int .i64 256, Value.func (.func 37) #[] #[]] 138], h.seg 101 (mm hd hs), [cb c [Value.pointer (some ⟨tb, 0, none⟩), Value.slice h.a hs.length h.cap] 96]]) rfl rfl (by kernel_rfl) (by kernel_rfl) Try.sizeOf92 (by simp [Value.oneCell']) rfl rfl (by simp) rfl rfl) (fun _ => ?_)
  refine Wl.nil ?_
  refine hK3 _ _ _ ?_
  refine W.pick (LL' := [[cb p9 [Value.int .u8 m0, Value.int .u8 m1, Value.int .u8 m2, Value.int .u8 m3, Value.int .u8 m4, Value.int .u8 m5, Value.int .u64 ((n + 300 : Nat) : Int)] 92], [cb p8 [Value.slice none 0 0] 36], [cb p5 [Value.int .u32 a] 25], g.seg 142 (mm prH xs), [cb tb [Value.slice g.a xs.length g.cap, Value.int .i64 256, Value.func (.func 37) #[] #[]] 138], h.seg 101 (mm hd hs), [cb c [Value.pointer (some ⟨tb, 0, none⟩), Value.slice h.a hs.length h.cap] 96]]) [0, 1, 3, 4, 5, 6, 7] (by decide) rfl ?_
  refine W.prune' [0, 3, 5, 8, 9] [Value.pointer (some ⟨c, 0, none⟩), Value.int .u64 ((n : Nat) : Int), Value.pointer (some ⟨p5, 0, none⟩), Value.pointer (some ⟨p8, 0, none⟩), Value.pointer (some ⟨p9, 0, none⟩)] (by kernel_rfl) (fun f4 => ?_)
  refine W.seq (fun K5 hK5 => ?_)
  refine W.seq (fun K6 hK6 => ?_)
  refine W.region ?_
  refine Wl.run 1 (by kernel_rfl) ?_
  refine Wl.ys (v := Value.int .u64 ((n + 300 : Nat) : Int)) rfl rfl (Ys.load (b := p9) (o' := 6) (i := 0) (j := 0) (cs := [Value.int .u8 m0, Value.int .u8 m1, Value.int .u8 m2, Value.int .u8 m3, Value.int .u8 m4, Value.int .u8 m5, Value.int .u64 ((n + 300 : Nat) : Int)]) (v := Value.int .u64 ((n + 300 : Nat) : Int)) rfl (by kernel_rfl) Try.isAgg39 rfl rfl rfl) ?_
  refine Wl.run 2 (by kernel_rfl) ?_
  refine Wl.nil ?_
  refine hK6 _ _ _ ?_
  refine W.prune' [0, 5, 8, 9, 17] [Value.pointer (some ⟨c, 0, none⟩), Value.pointer (some ⟨p5, 0, none⟩), Value.pointer (some ⟨p8, 0, none⟩), Value.pointer (some ⟨p9, 0, none⟩), Value.bool (decide (((n + 300 : Nat) : Int) < ((n : Nat) : Int)))] (by kernel_rfl) (fun f7 => ?_)
  refine W.cond (decide (((n + 300 : Nat) : Int) < ((n : Nat) : Int))) (by kernel_rfl) (fun h8 => ?_) (fun h9 => ?_)
  · have qh8 := h8; try simp only [Bool.and_eq_true, Bool.or_eq_true, Bool.not_eq_true', Bool.not_eq_false', Bool.and_eq_false_iff, Bool.or_eq_false_iff, decide_eq_true_eq, decide_eq_false_iff_not, beq_iff_eq, bne_iff_ne, beq_eq_false_iff_ne, bne_eq_false_iff_eq] at qh8
    (exfalso; omega)
  · have qh9 := h9; try simp only [Bool.and_eq_true, Bool.or_eq_true, Bool.not_eq_true', Bool.not_eq_false', Bool.and_eq_false_iff, Bool.or_eq_false_iff, decide_eq_true_eq, decide_eq_false_iff_not, beq_iff_eq, bne_iff_ne, beq_eq_false_iff_ne, bne_eq_false_iff_eq] at qh9
    refine W.skip' ?_
    refine hK5 _ _ _ ?_
    refine W.prune' [0, 5, 8, 9] [Value.pointer (some ⟨c, 0, none⟩), Value.pointer (some ⟨p5, 0, none⟩), Value.pointer (some ⟨p8, 0, none⟩), Value.pointer (some ⟨p9, 0, none⟩)] (by kernel_rfl) (fun f10 => ?_)
    refine W.seq (fun K11 hK11 => ?_)
    refine W.seq (fun K12 hK12 => ?_)
    refine W.draws [(0, true), (1, true), (2, true), (3, true), (4, true), (5, false), (6, false), (7, false)] [0, 1, 2, 3, 4] (Mem w M [[cb p9 [Value.int .u8 m0, Value.int .u8 m1, Value.int .u8 m2, Value.int .u8 m3, Value.int .u8 m4, Value.int .u8 m5, Value.int .u64 ((n + 300 : Nat) : Int)] 92], [cb p8 [Value.slice none 0 0] 36], [cb p5 [Value.int .u32 a] 25], h.seg 101 (mm hd hs), [cb c [Value.pointer (some ⟨tb, 0, none⟩), Value.slice h.a hs.length h.cap] 96]]) (by kernel_rfl) (by kernel_rfl) (by kernel_rfl) rfl (by kernel_rfl) (fun _ _ h_ => h_.drawn _) (fun _ h_ => h_.pick [0, 1, 2, 5, 6] (by decide) rfl) ?_
    refine Wd.run 3 (by kernel_rfl) ?_
    refine Wd.ys (v := Value.pointer (some ⟨tb, 0, none⟩)) rfl rfl rfl (Ys.load (b := c) (o' := 0) (i := 4) (j := 0) (cs := [Value.pointer (some ⟨tb, 0, none⟩), Value.slice h.a hs.length h.cap]) (v := Value.pointer (some ⟨tb, 0, none⟩)) rfl (by kernel_rfl) Try.isAgg89 rfl rfl rfl) ?_
    refine Wd.ys (v := Value.int .u32 a) rfl rfl rfl (Ys.load (b := p5) (o' := 0) (i := 2) (j := 0) (cs := [Value.int .u32 a]) (v := Value.int .u32 a) rfl (by kernel_rfl) Try.isAgg25 rfl rfl rfl) ?_
    refine Wd.yc (v := Value.agg ([Value.int .u8 m0, Value.int .u8 m1, Value.int .u8 m2, Value.int .u8 m3, Value.int .u8 m4, Value.int .u8 m5, Value.int .u64 ((n + 300 : Nat) : Int)]).toArray) rfl rfl rfl (Ys.yc (Ys.loadN (b := p9) (o' := 0) (i := 0) (j := 0) (cs := [Value.int .u8 m0, Value.int .u8 m1, Value.int .u8 m2, Value.int .u8 m3, Value.int .u8 m4, Value.int .u8 m5, Value.int .u64 ((n + 300 : Nat) : Int)]) (vs := [Value.int .u8 m0, Value.int .u8 m1, Value.int .u8 m2, Value.int .u8 m3, Value.int .u8 m4, Value.int .u8 m5, Value.int .u64 ((n + 300 : Nat) : Int)]) rfl (by kernel_rfl) Try.isAgg92 Try.sizeOf92 rfl rfl rfl rfl)) (.inr fun _ h_ => h_.pick [0, 1, 2, 5, 6] (by decide) rfl) ?_
    obtain ⟨Z15, hZ16⟩ : ∃ Z, putX LO.int 256 xs a (⟨m0, m1, m2, m3, m4, m5, ((n + 300 : Nat) : Int)⟩ : Host) = Z := ⟨_, rfl⟩
    have hsZ15 : Srt LO.int Z15 := hZ16 ▸ srt_putX hs_
    have hlZ15 : Z15.length ≤ xs.length + 1 := hZ16 ▸ putX_len hs_
    refine Wd.htS rfl rfl (HtS.call (β := FS) (k := 43) (args := #[Value.pointer (some ⟨tb, 0, none⟩), Value.int .u32 a, Value.agg ([Value.int .u8 m0, Value.int .u8 m1, Value.int .u8 m2, Value.int .u8 m3, Value.int .u8 m4, Value.int .u8 m5, Value.int .u64 ((n + 300 : Nat) : Int)]).toArray]) (Lin := [g.seg 142 (mm prH xs), [cb tb [Value.slice g.a xs.length g.cap, Value.int .i64 256, Value.func (.func 37) #[] #[]] 138]]) (Lk := [[cb p9 [Value.int .u8 m0, Value.int .u8 m1, Value.int .u8 m2, Value.int .u8 m3, Value.int .u8 m4, Value.int .u8 m5, Value.int .u64 ((n + 300 : Nat) : Int)] 92], [cb p8 [Value.slice none 0 0] 36], [cb p5 [Value.int .u32 a] 25], h.seg 101 (mm hd hs), [cb c [Value.pointer (some ⟨tb, 0, none⟩), Value.slice h.a hs.length h.cap] 96]]) (Lo := fun g13 => [g13.seg 142 (mm prH Z15), [cb tb [Value.slice g13.a Z15.length g13.cap, Value.int .i64 256, Value.func (.func 37) #[] #[]] 138], [cb p9 [Value.int .u8 m0, Value.int .u8 m1, Value.int .u8 m2, Value.int .u8 m3, Value.int .u8 m4, Value.int .u8 m5, Value.int .u64 ((n + 300 : Nat) : Int)] 92], [cb p8 [Value.slice none 0 0] 36], [cb p5 [Value.int .u32 a] 25], h.seg 101 (mm hd hs), [cb c [Value.pointer (some ⟨tb, 0, none⟩), Value.slice h.a hs.length h.cap] 96]]) [3, 4] [0, 1, 2, 5, 6] rfl (fun _ => by kernel_rfl) (by decide) rfl rfl rfl (fun w_ hm_ hl_ => (hZ16 ▸ putH_c xs g 256 tb _ a (⟨m0, m1, m2, m3, m4, m5, ((n + 300 : Nat) : Int)⟩ : Host) _ hl_ ok (by first | omega | (simp; done)) hs_)) (fun _ => rfl)) (.inr fun _ _ h_ => h_.pick [2, 3, 4, 5, 6] (by decide) rfl) (fun g13 ok14 => ?_)
    refine Wd.yc (v := Value.bool ((putR 256 xs a) != 0)) rfl rfl rfl (Ys.yc (Ys.pure (fun _ => by kernel_rfl))) (.inr fun _ h_ => h_.pick [2, 3, 4, 5, 6] (by decide) rfl) ?_
    refine Wd.nil ?_
    refine hK12 _ _ _ ?_
    refine W.prune' [0, 5, 8, 9, 26] [Value.pointer (some ⟨c, 0, none⟩), Value.pointer (some ⟨p5, 0, none⟩), Value.pointer (some ⟨p8, 0, none⟩), Value.pointer (some ⟨p9, 0, none⟩), Value.bool ((putR 256 xs a) != 0)] (by kernel_rfl) (fun f18 => ?_)
    refine W.cond ((putR 256 xs a) != 0) (by kernel_rfl) (fun h19 => ?_) (fun h20 => ?_)
    · have qh19 := h19; try simp only [Bool.and_eq_true, Bool.or_eq_true, Bool.not_eq_true', Bool.not_eq_false', Bool.and_eq_false_iff, Bool.or_eq_false_iff, decide_eq_true_eq, decide_eq_false_iff_not, beq_iff_eq, bne_iff_ne, beq_eq_false_iff_ne, bne_eq_false_iff_eq] at qh19
      refine W.seq (fun K21 hK21 => ?_)
      refine W.draws [(0, true), (1, true), (2, true), (3, true), (4, false), (5, false), (6, false)] [0, 1, 2, 3] (Mem w M [[cb p9 [Value.int .u8 m0, Value.int .u8 m1, Value.int .u8 m2, Value.int .u8 m3, Value.int .u8 m4, Value.int .u8 m5, Value.int .u64 ((n + 300 : Nat) : Int)] 92], [cb p8 [Value.slice none 0 0] 36], [cb p5 [Value.int .u32 a] 25], h.seg 101 (mm hd hs), [cb c [Value.pointer (some ⟨tb, 0, none⟩), Value.slice h.a hs.length h.cap] 96]]) (by kernel_rfl) (by kernel_rfl) (by kernel_rfl) rfl (by kernel_rfl) (fun _ _ h_ => h_.drawn _) (fun _ h_ => h_.pick [2, 3, 4, 5, 6] (by decide) rfl) ?_
      refine Wd.run 3 (by kernel_rfl) ?_
      refine Wd.ys (v := Value.pointer (some ⟨tb, 0, none⟩)) rfl rfl rfl (Ys.load (b := c) (o' := 0) (i := 4) (j := 0) (cs := [Value.pointer (some ⟨tb, 0, none⟩), Value.slice h.a hs.length h.cap]) (v := Value.pointer (some ⟨tb, 0, none⟩)) rfl (by kernel_rfl) Try.isAgg89 rfl rfl rfl) ?_
      refine Wd.yc (v := Value.pointer (some ⟨c, 0, none⟩)) rfl rfl rfl (Ys.yc (Ys.pure (fun _ => by kernel_rfl))) (.inr fun _ h_ => h_.pick [2, 3, 4, 5, 6] (by decide) rfl) ?_
      refine Wd.htS rfl rfl (HtS.call (β := Int) (k := 45) (args := #[Value.pointer (some ⟨c, 0, none⟩)]) (Lin := []) (Lk := [g13.seg 142 (mm prH Z15), [cb tb [Value.slice g13.a Z15.length g13.cap, Value.int .i64 256, Value.func (.func 37) #[] #[]] 138], [cb p9 [Value.int .u8 m0, Value.int .u8 m1, Value.int .u8 m2, Value.int .u8 m3, Value.int .u8 m4, Value.int .u8 m5, Value.int .u64 ((n + 300 : Nat) : Int)] 92], [cb p8 [Value.slice none 0 0] 36], [cb p5 [Value.int .u32 a] 25], h.seg 101 (mm hd hs), [cb c [Value.pointer (some ⟨tb, 0, none⟩), Value.slice h.a hs.length h.cap] 96]]) (Mi := []) (Lo := fun b22 => [g13.seg 142 (mm prH Z15), [cb tb [Value.slice g13.a Z15.length g13.cap, Value.int .i64 256, Value.func (.func 37) #[] #[]] 138], [cb p9 [Value.int .u8 m0, Value.int .u8 m1, Value.int .u8 m2, Value.int .u8 m3, Value.int .u8 m4, Value.int .u8 m5, Value.int .u64 ((n + 300 : Nat) : Int)] 92], [cb p8 [Value.slice none 0 0] 36], [cb p5 [Value.int .u32 a] 25], h.seg 101 (mm hd hs), [cb c [Value.pointer (some ⟨tb, 0, none⟩), Value.slice h.a hs.length h.cap] 96]]) [] [0, 1, 2, 3, 4, 5, 6] rfl (fun _ => by kernel_rfl) (by decide) rfl rfl rfl (fun w_ hm_ hl_ => (first_c Z15 g13.a g13.cap 256 tb h.a hs.length h.cap c _ (At.lit0 (i := 1) (j := 0) (t := 138) (b := tb) hm_ rfl rfl) (FS.at (i := 0) (t := 142) hm_ rfl (FS.nil_cs ok14 (prH_zlen _))) (by first | omega | (simp; done)) hsZ15 (At.lit0 (i := 6) (j := 0) (t := 96) (b := c) hm_ rfl rfl))) (fun _ => rfl)) (.inr fun _ _ h_ => h_.pick [2, 3, 4, 5, 6] (by decide) rfl) (fun b22 hb23 => ?_)
      obtain ⟨Z27, hZ28⟩ : ∃ Z, dropK Z15 b22 = Z := ⟨_, rfl⟩
      have hsZ27 : Srt LO.int Z27 := hZ28 ▸ srt_dropK hsZ15
      have hlZ27 : Z27.length ≤ Z15.length := hZ28 ▸ dropK_le hsZ15
      refine Wd.htS rfl rfl (HtS.call (β := FS) (k := 44) (args := #[Value.pointer (some ⟨tb, 0, none⟩), Value.int .u32 b22]) (Lin := [g13.seg 142 (mm prH Z15), [cb tb [Value.slice g13.a Z15.length g13.cap, Value.int .i64 256, Value.func (.func 37) #[] #[]] 138]]) (Lk := [[cb p9 [Value.int .u8 m0, Value.int .u8 m1, Value.int .u8 m2, Value.int .u8 m3, Value.int .u8 m4, Value.int .u8 m5, Value.int .u64 ((n + 300 : Nat) : Int)] 92], [cb p8 [Value.slice none 0 0] 36], [cb p5 [Value.int .u32 a] 25], h.seg 101 (mm hd hs), [cb c [Value.pointer (some ⟨tb, 0, none⟩), Value.slice h.a hs.length h.cap] 96]]) (Lo := fun g25 => [g25.seg 142 (mm prH Z27), [cb tb [Value.slice g25.a Z27.length g25.cap, Value.int .i64 256, Value.func (.func 37) #[] #[]] 138], [cb p9 [Value.int .u8 m0, Value.int .u8 m1, Value.int .u8 m2, Value.int .u8 m3, Value.int .u8 m4, Value.int .u8 m5, Value.int .u64 ((n + 300 : Nat) : Int)] 92], [cb p8 [Value.slice none 0 0] 36], [cb p5 [Value.int .u32 a] 25], h.seg 101 (mm hd hs), [cb c [Value.pointer (some ⟨tb, 0, none⟩), Value.slice h.a hs.length h.cap] 96]]) [0, 1] [2, 3, 4, 5, 6] rfl (fun _ => by kernel_rfl) (by decide) rfl rfl rfl (fun w_ hm_ hl_ => (hZ28 ▸ dropH_c Z15 g13 256 tb _ b22 _ hl_ ok14 (by first | omega | (simp; done)) hsZ15)) (fun _ => rfl)) (.inr fun _ _ h_ => h_.pick [2, 3, 4, 5, 6] (by decide) rfl) (fun g25 ok26 => ?_)
      refine Wd.nil ?_
      refine hK21 _ _ _ ?_
      refine W.prune' [0, 5, 8, 9] [Value.pointer (some ⟨c, 0, none⟩), Value.pointer (some ⟨p5, 0, none⟩), Value.pointer (some ⟨p8, 0, none⟩), Value.pointer (some ⟨p9, 0, none⟩)] (by kernel_rfl) (fun f30 => ?_)
      refine W.draws [(0, true), (1, true), (2, true), (3, true), (4, true), (5, false), (6, false)] [0, 1, 2, 3, 4] (Mem w M [[cb p9 [Value.int .u8 m0, Value.int .u8 m1, Value.int .u8 m2, Value.int .u8 m3, Value.int .u8 m4, Value.int .u8 m5, Value.int .u64 ((n + 300 : Nat) : Int)] 92], [cb p8 [Value.slice none 0 0] 36], [cb p5 [Value.int .u32 a] 25], h.seg 101 (mm hd hs), [cb c [Value.pointer (some ⟨tb, 0, none⟩), Value.slice h.a hs.length h.cap] 96]]) (by kernel_rfl) (by kernel_rfl) (by kernel_rfl) rfl (by kernel_rfl) (fun _ _ h_ => h_.drawn _) (fun _ h_ => h_.pick [2, 3, 4, 5, 6] (by decide) rfl) ?_
      refine Wd.run 3 (by kernel_rfl) ?_
      refine Wd.ys (v := Value.pointer (some ⟨tb, 0, none⟩)) rfl rfl rfl (Ys.load (b := c) (o' := 0) (i := 4) (j := 0) (cs := [Value.pointer (some ⟨tb, 0, none⟩), Value.slice h.a hs.length h.cap]) (v := Value.pointer (some ⟨tb, 0, none⟩)) rfl (by kernel_rfl) Try.isAgg89 rfl rfl rfl) ?_
      refine Wd.ys (v := Value.int .u32 a) rfl rfl rfl (Ys.load (b := p5) (o' := 0) (i := 2) (j := 0) (cs := [Value.int .u32 a]) (v := Value.int .u32 a) rfl (by kernel_rfl) Try.isAgg25 rfl rfl rfl) ?_
      refine Wd.yc (v := Value.agg ([Value.int .u8 m0, Value.int .u8 m1, Value.int .u8 m2, Value.int .u8 m3, Value.int .u8 m4, Value.int .u8 m5, Value.int .u64 ((n + 300 : Nat) : Int)]).toArray) rfl rfl rfl (Ys.yc (Ys.loadN (b := p9) (o' := 0) (i := 2) (j := 0) (cs := [Value.int .u8 m0, Value.int .u8 m1, Value.int .u8 m2, Value.int .u8 m3, Value.int .u8 m4, Value.int .u8 m5, Value.int .u64 ((n + 300 : Nat) : Int)]) (vs := [Value.int .u8 m0, Value.int .u8 m1, Value.int .u8 m2, Value.int .u8 m3, Value.int .u8 m4, Value.int .u8 m5, Value.int .u64 ((n + 300 : Nat) : Int)]) rfl (by kernel_rfl) Try.isAgg92 Try.sizeOf92 rfl rfl rfl rfl)) (.inr fun _ h_ => h_.pick [2, 3, 4, 5, 6] (by decide) rfl) ?_
      obtain ⟨Z33, hZ34⟩ : ∃ Z, putX LO.int 256 Z27 a (⟨m0, m1, m2, m3, m4, m5, ((n + 300 : Nat) : Int)⟩ : Host) = Z := ⟨_, rfl⟩
      have hsZ33 : Srt LO.int Z33 := hZ34 ▸ srt_putX hsZ27
      have hlZ33 : Z33.length ≤ Z27.length + 1 := hZ34 ▸ putX_len hsZ27
      refine Wd.htS rfl rfl (HtS.call (β := FS) (k := 43) (args := #[Value.pointer (some ⟨tb, 0, none⟩), Value.int .u32 a, Value.agg ([Value.int .u8 m0, Value.int .u8 m1, Value.int .u8 m2, Value.int .u8 m3, Value.int .u8 m4, Value.int .u8 m5, Value.int .u64 ((n + 300 : Nat) : Int)]).toArray]) (Lin := [g25.seg 142 (mm prH Z27), [cb tb [Value.slice g25.a Z27.length g25.cap, Value.int .i64 256, Value.func (.func 37) #[] #[]] 138]]) (Lk := [[cb p9 [Value.int .u8 m0, Value.int .u8 m1, Value.int .u8 m2, Value.int .u8 m3, Value.int .u8 m4, Value.int .u8 m5, Value.int .u64 ((n + 300 : Nat) : Int)] 92], [cb p8 [Value.slice none 0 0] 36], [cb p5 [Value.int .u32 a] 25], h.seg 101 (mm hd hs), [cb c [Value.pointer (some ⟨tb, 0, none⟩), Value.slice h.a hs.length h.cap] 96]]) (Lo := fun g31 => [g31.seg 142 (mm prH Z33), [cb tb [Value.slice g31.a Z33.length g31.cap, Value.int .i64 256, Value.func (.func 37) #[] #[]] 138], [cb p9 [Value.int .u8 m0, Value.int .u8 m1, Value.int .u8 m2, Value.int .u8 m3, Value.int .u8 m4, Value.int .u8 m5, Value.int .u64 ((n + 300 : Nat) : Int)] 92], [cb p8 [Value.slice none 0 0] 36], [cb p5 [Value.int .u32 a] 25], h.seg 101 (mm hd hs), [cb c [Value.pointer (some ⟨tb, 0, none⟩), Value.slice h.a hs.length h.cap] 96]]) [0, 1] [2, 3, 4, 5, 6] rfl (fun _ => by kernel_rfl) (by decide) rfl rfl rfl (fun w_ hm_ hl_ => (hZ34 ▸ putH_c Z27 g25 256 tb _ a (⟨m0, m1, m2, m3, m4, m5, ((n + 300 : Nat) : Int)⟩ : Host) _ hl_ ok26 (by first | omega | (simp; done)) hsZ27)) (fun _ => rfl)) (.inr fun _ _ h_ => h_.pick [2, 3, 4, 5, 6] (by decide) rfl) (fun g31 ok32 => ?_)
      refine Wd.nil ?_
      refine hK11 _ _ _ ?_
      refine W.pick (LL' := [g31.seg 142 (mm prH Z33), [cb tb [Value.slice g31.a Z33.length g31.cap, Value.int .i64 256, Value.func (.func 37) #[] #[]] 138], [cb p8 [Value.slice none 0 0] 36], [cb p5 [Value.int .u32 a] 25], h.seg 101 (mm hd hs), [cb c [Value.pointer (some ⟨tb, 0, none⟩), Value.slice h.a hs.length h.cap] 96]]) [0, 1, 3, 4, 5, 6] (by decide) rfl ?_
      refine W.prune' [0, 5, 8] [Value.pointer (some ⟨c, 0, none⟩), Value.pointer (some ⟨p5, 0, none⟩), Value.pointer (some ⟨p8, 0, none⟩)] (by kernel_rfl) (fun f36 => ?_)
      refine W.seq (fun K37 hK37 => ?_)
      refine W.region ?_
      refine Wl.run 4 (by kernel_rfl) ?_
      refine Wl.ys (v := Value.slice h.a hs.length h.cap) rfl rfl (Ys.load (b := c) (o' := 1) (i := 5) (j := 0) (cs := [Value.pointer (some ⟨tb, 0, none⟩), Value.slice h.a hs.length h.cap]) (v := Value.slice h.a hs.length h.cap) rfl (by kernel_rfl) Try.isAgg94 rfl rfl rfl) ?_
      refine Wl.run 1 (by kernel_rfl) ?_
      refine Wl.htS rfl (HtS.call (β := FS × FS) (k := 46) (args := #[Value.slice h.a hs.length h.cap, Value.func (.func 47) #[] #[Value.pointer (some ⟨p5, 0, none⟩), Value.pointer (some ⟨p8, 0, none⟩)]]) (Lin := [h.seg 101 (mm hd hs), [cb p8 [Value.slice none 0 0] 36], [cb p5 [Value.int .u32 a] 25]]) (Lk := [g31.seg 142 (mm prH Z33), [cb tb [Value.slice g31.a Z33.length g31.cap, Value.int .i64 256, Value.func (.func 37) #[] #[]] 138], [cb c [Value.pointer (some ⟨tb, 0, none⟩), Value.slice h.a hs.length h.cap] 96]]) (Lo := fun q42 => [q42.1.seg 101 (mm hd []), q42.2.seg 47 (mm pk (([] : List Pk) ++ hs.map Hd.pk)), [cb p8 [Value.slice q42.2.a ((([] : List Pk) ++ hs.map Hd.pk).length) q42.2.cap] 36], [cb p5 [Value.int .u32 a] 25], g31.seg 142 (mm prH Z33), [cb tb [Value.slice g31.a Z33.length g31.cap, Value.int .i64 256, Value.func (.func 37) #[] #[]] 138], [cb c [Value.pointer (some ⟨tb, 0, none⟩), Value.slice h.a hs.length h.cap] 96]]) [4, 2, 3] [0, 1, 5] rfl (fun _ => by kernel_rfl) (by decide) rfl rfl rfl (fun w_ hm_ hl_ => (delLearn_c hs h ([] : List Pk) FS.nul a p5 p8 _ _ (Mem.flat (LL' := [h.seg 101 (mm hd hs), FS.nul.seg 47 (mm pk []), [cb p8 [Value.slice none 0 0] 36], [cb p5 [Value.int .u32 a] 25]]) (by simp [FS.seg, FS.nul]) hl_) (FS.nul_ok _) okh (by simp; done) (by omega) hall)) (fun _ => rfl)) (fun q42 hx44 => ?_)
      obtain ⟨h38, g39⟩ := q42
      dsimp only at hx44
      obtain ⟨okh40, okg41⟩ := hx44
      refine Wl.castL (LL' := [h38.seg 101 (mm hd []), g39.seg 47 (mm pk (([] : List Pk) ++ hs.map Hd.pk)), [cb p8 [Value.slice g39.a ((([] : List Pk) ++ hs.map Hd.pk).length) g39.cap] 36], [cb p5 [Value.int .u32 a] 25], g31.seg 142 (mm prH Z33), [cb tb [Value.slice g31.a Z33.length g31.cap, Value.int .i64 256, Value.func (.func 37) #[] #[]] 138], [cb c [Value.pointer (some ⟨tb, 0, none⟩), Value.slice h.a hs.length h.cap] 96]]) rfl ?_
      refine Wl.run 2 (by kernel_rfl) ?_
      refine Wl.ht rfl (Ht.store (b := c) (o' := 1) (i := 6) (j := 0) (cs := [Value.pointer (some ⟨tb, 0, none⟩), Value.slice h.a hs.length h.cap]) (cs' := [Value.pointer (some ⟨tb, 0, none⟩), Value.slice h38.a 0 h38.cap]) (v := Value.slice h38.a 0 h38.cap) (LL' := [h38.seg 101 (mm hd []), g39.seg 47 (mm pk (([] : List Pk) ++ hs.map Hd.pk)), [cb p8 [Value.slice g39.a ((([] : List Pk) ++ hs.map Hd.pk).length) g39.cap] 36], [cb p5 [Value.int .u32 a] 25], g31.seg 142 (mm prH Z33), [cb tb [Value.slice g31.a Z33.length g31.cap, Value.int .i64 256, Value.func (.func 37) #[] #[]] 138], [cb c [Value.pointer (some ⟨tb, 0, none⟩), Value.slice h38.a 0 h38.cap] 96]]) rfl rfl (by kernel_rfl) (by kernel_rfl) Try.sizeOf94 rfl rfl rfl (by simp) rfl rfl) (fun _ => ?_)
      refine Wl.nil ?_
      refine hK37 _ _ _ ?_
      refine W.pick (LL' := [h38.seg 101 (mm hd []), g39.seg 47 (mm pk (([] : List Pk) ++ hs.map Hd.pk)), [cb p8 [Value.slice g39.a ((([] : List Pk) ++ hs.map Hd.pk).length) g39.cap] 36], g31.seg 142 (mm prH Z33), [cb tb [Value.slice g31.a Z33.length g31.cap, Value.int .i64 256, Value.func (.func 37) #[] #[]] 138], [cb c [Value.pointer (some ⟨tb, 0, none⟩), Value.slice h38.a 0 h38.cap] 96]]) [0, 1, 2, 4, 5, 6] (by decide) rfl ?_
      refine W.prune' [8] [Value.pointer (some ⟨p8, 0, none⟩)] (by kernel_rfl) (fun f45 => ?_)
      refine W.seq (fun K46 hK46 => ?_)
      refine W.region ?_
      refine Wl.ys (v := Value.slice g39.a ((([] : List Pk) ++ hs.map Hd.pk).length) g39.cap) rfl rfl (Ys.load (b := p8) (o' := 0) (i := 2) (j := 0) (cs := [Value.slice g39.a ((([] : List Pk) ++ hs.map Hd.pk).length) g39.cap]) (v := Value.slice g39.a ((([] : List Pk) ++ hs.map Hd.pk).length) g39.cap) rfl (by kernel_rfl) Try.isAgg36 rfl rfl rfl) ?_
      refine Wl.ht rfl (Ht.store (b := p8) (o' := 0) (i := 2) (j := 0) (cs := [Value.slice g39.a ((([] : List Pk) ++ hs.map Hd.pk).length) g39.cap]) (cs' := [Value.slice g39.a ((([] : List Pk) ++ hs.map Hd.pk).length) g39.cap]) (v := Value.slice g39.a ((([] : List Pk) ++ hs.map Hd.pk).length) g39.cap) (LL' := [h38.seg 101 (mm hd []), g39.seg 47 (mm pk (([] : List Pk) ++ hs.map Hd.pk)), [cb p8 [Value.slice g39.a ((([] : List Pk) ++ hs.map Hd.pk).length) g39.cap] 36], g31.seg 142 (mm prH Z33), [cb tb [Value.slice g31.a Z33.length g31.cap, Value.int .i64 256, Value.func (.func 37) #[] #[]] 138], [cb c [Value.pointer (some ⟨tb, 0, none⟩), Value.slice h38.a 0 h38.cap] 96]]) rfl rfl (by kernel_rfl) (by kernel_rfl) Try.sizeOf36 rfl rfl rfl (by simp) rfl rfl) (fun _ => ?_)
      refine Wl.nil ?_
      refine hK46 _ _ _ ?_
      refine W.prune' [8] [Value.pointer (some ⟨p8, 0, none⟩)] (by kernel_rfl) (fun f47 => ?_)
      refine W.ret ?_
      show ∀ w_, _ → bodyPostM (fence none) 0 Try.prog Try.f16 _ Exit.ret _ w_
      exact fun w_ hS_ => fin_ret (ret1 rfl (RV.cell1 (b := p8) (o' := 0) (i := 2) (j := 0) (cs := [Value.slice g39.a ((([] : List Pk) ++ hs.map Hd.pk).length) g39.cap]) (v := Value.slice g39.a ((([] : List Pk) ++ hs.map Hd.pk).length) g39.cap) (by kernel_rfl) Try.isAgg36 rfl rfl rfl) hS_ ⟨(Z33, g31, h38, g39), ⟨(by rw [← hZ34, ← hZ28, ← hZ16]; exact lrn_drop hs_ h256 h19 (by rw [hZ16]; exact hb23)), ok32, okh40, okg41⟩, rfl, (hS_.pick [3, 4, 0, 1, 5] (by decide) rfl)⟩)
    · have qh20 := h20; try simp only [Bool.and_eq_true, Bool.or_eq_true, Bool.not_eq_true', Bool.not_eq_false', Bool.and_eq_false_iff, Bool.or_eq_false_iff, decide_eq_true_eq, decide_eq_false_iff_not, beq_iff_eq, bne_iff_ne, beq_eq_false_iff_ne, bne_eq_false_iff_eq] at qh20
      refine W.skip' ?_
      refine hK11 _ _ _ ?_
      refine W.pick (LL' := [g13.seg 142 (mm prH Z15), [cb tb [Value.slice g13.a Z15.length g13.cap, Value.int .i64 256, Value.func (.func 37) #[] #[]] 138], [cb p8 [Value.slice none 0 0] 36], [cb p5 [Value.int .u32 a] 25], h.seg 101 (mm hd hs), [cb c [Value.pointer (some ⟨tb, 0, none⟩), Value.slice h.a hs.length h.cap] 96]]) [0, 1, 3, 4, 5, 6] (by decide) rfl ?_
      refine W.prune' [0, 5, 8] [Value.pointer (some ⟨c, 0, none⟩), Value.pointer (some ⟨p5, 0, none⟩), Value.pointer (some ⟨p8, 0, none⟩)] (by kernel_rfl) (fun f48 => ?_)
      refine W.seq (fun K49 hK49 => ?_)
      refine W.region ?_
      refine Wl.run 4 (by kernel_rfl) ?_
      refine Wl.ys (v := Value.slice h.a hs.length h.cap) rfl rfl (Ys.load (b := c) (o' := 1) (i := 5) (j := 0) (cs := [Value.pointer (some ⟨tb, 0, none⟩), Value.slice h.a hs.length h.cap]) (v := Value.slice h.a hs.length h.cap) rfl (by kernel_rfl) Try.isAgg94 rfl rfl rfl) ?_
      refine Wl.run 1 (by kernel_rfl) ?_
      refine Wl.htS rfl (HtS.call (β := FS × FS) (k := 46) (args := #[Value.slice h.a hs.length h.cap, Value.func (.func 47) #[] #[Value.pointer (some ⟨p5, 0, none⟩), Value.pointer (some ⟨p8, 0, none⟩)]]) (Lin := [h.seg 101 (mm hd hs), [cb p8 [Value.slice none 0 0] 36], [cb p5 [Value.int .u32 a] 25]]) (Lk := [g13.seg 142 (mm prH Z15), [cb tb [Value.slice g13.a Z15.length g13.cap, Value.int .i64 256, Value.func (.func 37) #[] #[]] 138], [cb c [Value.pointer (some ⟨tb, 0, none⟩), Value.slice h.a hs.length h.cap] 96]]) (Lo := fun q54 => [q54.1.seg 101 (mm hd []), q54.2.seg 47 (mm pk (([] : List Pk) ++ hs.map Hd.pk)), [cb p8 [Value.slice q54.2.a ((([] : List Pk) ++ hs.map Hd.pk).length) q54.2.cap] 36], [cb p5 [Value.int .u32 a] 25], g13.seg 142 (mm prH Z15), [cb tb [Value.slice g13.a Z15.length g13.cap, Value.int .i64 256, Value.func (.func 37) #[] #[]] 138], [cb c [Value.pointer (some ⟨tb, 0, none⟩), Value.slice h.a hs.length h.cap] 96]]) [4, 2, 3] [0, 1, 5] rfl (fun _ => by kernel_rfl) (by decide) rfl rfl rfl (fun w_ hm_ hl_ => (delLearn_c hs h ([] : List Pk) FS.nul a p5 p8 _ _ (Mem.flat (LL' := [h.seg 101 (mm hd hs), FS.nul.seg 47 (mm pk []), [cb p8 [Value.slice none 0 0] 36], [cb p5 [Value.int .u32 a] 25]]) (by simp [FS.seg, FS.nul]) hl_) (FS.nul_ok _) okh (by simp; done) (by omega) hall)) (fun _ => rfl)) (fun q54 hx56 => ?_)
      obtain ⟨h50, g51⟩ := q54
      dsimp only at hx56
      obtain ⟨okh52, okg53⟩ := hx56
      refine Wl.castL (LL' := [h50.seg 101 (mm hd []), g51.seg 47 (mm pk (([] : List Pk) ++ hs.map Hd.pk)), [cb p8 [Value.slice g51.a ((([] : List Pk) ++ hs.map Hd.pk).length) g51.cap] 36], [cb p5 [Value.int .u32 a] 25], g13.seg 142 (mm prH Z15), [cb tb [Value.slice g13.a Z15.length g13.cap, Value.int .i64 256, Value.func (.func 37) #[] #[]] 138], [cb c [Value.pointer (some ⟨tb, 0, none⟩), Value.slice h.a hs.length h.cap] 96]]) rfl ?_
      refine Wl.run 2 (by kernel_rfl) ?_
      refine Wl.ht rfl (Ht.store (b := c) (o' := 1) (i := 6) (j := 0) (cs := [Value.pointer (some ⟨tb, 0, none⟩), Value.slice h.a hs.length h.cap]) (cs' := [Value.pointer (some ⟨tb, 0, none⟩), Value.slice h50.a 0 h50.cap]) (v := Value.slice h50.a 0 h50.cap) (LL' := [h50.seg 101 (mm hd []), g51.seg 47 (mm pk (([] : List Pk) ++ hs.map Hd.pk)), [cb p8 [Value.slice g51.a ((([] : List Pk) ++ hs.map Hd.pk).length) g51.cap] 36], [cb p5 [Value.int .u32 a] 25], g13.seg 142 (mm prH Z15), [cb tb [Value.slice g13.a Z15.length g13.cap, Value.int .i64 256, Value.func (.func 37) #[] #[]] 138], [cb c [Value.pointer (some ⟨tb, 0, none⟩), Value.slice h50.a 0 h50.cap] 96]]) rfl rfl (by kernel_rfl) (by kernel_rfl) Try.sizeOf94 rfl rfl rfl (by simp) rfl rfl) (fun _ => ?_)
      refine Wl.nil ?_
      refine hK49 _ _ _ ?_
      refine W.pick (LL' := [h50.seg 101 (mm hd []), g51.seg 47 (mm pk (([] : List Pk) ++ hs.map Hd.pk)), [cb p8 [Value.slice g51.a ((([] : List Pk) ++ hs.map Hd.pk).length) g51.cap] 36], g13.seg 142 (mm prH Z15), [cb tb [Value.slice g13.a Z15.length g13.cap, Value.int .i64 256, Value.func (.func 37) #[] #[]] 138], [cb c [Value.pointer (some ⟨tb, 0, none⟩), Value.slice h50.a 0 h50.cap] 96]]) [0, 1, 2, 4, 5, 6] (by decide) rfl ?_
      refine W.prune' [8] [Value.pointer (some ⟨p8, 0, none⟩)] (by kernel_rfl) (fun f57 => ?_)
      refine W.seq (fun K58 hK58 => ?_)
      refine W.region ?_
      refine Wl.ys (v := Value.slice g51.a ((([] : List Pk) ++ hs.map Hd.pk).length) g51.cap) rfl rfl (Ys.load (b := p8) (o' := 0) (i := 2) (j := 0) (cs := [Value.slice g51.a ((([] : List Pk) ++ hs.map Hd.pk).length) g51.cap]) (v := Value.slice g51.a ((([] : List Pk) ++ hs.map Hd.pk).length) g51.cap) rfl (by kernel_rfl) Try.isAgg36 rfl rfl rfl) ?_
      refine Wl.ht rfl (Ht.store (b := p8) (o' := 0) (i := 2) (j := 0) (cs := [Value.slice g51.a ((([] : List Pk) ++ hs.map Hd.pk).length) g51.cap]) (cs' := [Value.slice g51.a ((([] : List Pk) ++ hs.map Hd.pk).length) g51.cap]) (v := Value.slice g51.a ((([] : List Pk) ++ hs.map Hd.pk).length) g51.cap) (LL' := [h50.seg 101 (mm hd []), g51.seg 47 (mm pk (([] : List Pk) ++ hs.map Hd.pk)), [cb p8 [Value.slice g51.a ((([] : List Pk) ++ hs.map Hd.pk).length) g51.cap] 36], g13.seg 142 (mm prH Z15), [cb tb [Value.slice g13.a Z15.length g13.cap, Value.int .i64 256, Value.func (.func 37) #[] #[]] 138], [cb c [Value.pointer (some ⟨tb, 0, none⟩), Value.slice h50.a 0 h50.cap] 96]]) rfl rfl (by kernel_rfl) (by kernel_rfl) Try.sizeOf36 rfl rfl rfl (by simp) rfl rfl) (fun _ => ?_)
      refine Wl.nil ?_
      refine hK58 _ _ _ ?_
      refine W.prune' [8] [Value.pointer (some ⟨p8, 0, none⟩)] (by kernel_rfl) (fun f59 => ?_)
      refine W.ret ?_
      show ∀ w_, _ → bodyPostM (fence none) 0 Try.prog Try.f16 _ Exit.ret _ w_
      exact fun w_ hS_ => fin_ret (ret1 rfl (RV.cell1 (b := p8) (o' := 0) (i := 2) (j := 0) (cs := [Value.slice g51.a ((([] : List Pk) ++ hs.map Hd.pk).length) g51.cap]) (v := Value.slice g51.a ((([] : List Pk) ++ hs.map Hd.pk).length) g51.cap) (by kernel_rfl) Try.isAgg36 rfl rfl rfl) hS_ ⟨(Z15, g13, h50, g51), ⟨(by rw [← hZ16]; exact lrn_put hs_ h256 h20), ok14, okh52, okg53⟩, rfl, (hS_.pick [3, 4, 0, 1, 5] (by decide) rfl)⟩)

end Go.Proofs.Ytjkhmbigoloeiaa.Oct
