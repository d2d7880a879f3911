import Derived.Test.YtejeafjkhomdoaaKTr2
set_option linter.unusedVariables false
set_option linter.unusedSimpArgs false
set_option maxRecDepth 20000
namespace Go.Proofs.Ytejeafjkhomdoaa.Oct
open Go.RowKit Base
attribute [local irreducible] Ys Yc Ht HtIn Wl Wd W Mem pf dpf Wa Wo
def w2 (xs : List UInt8) (k : Nat) : Nat := 256 * (xs.getD k 0).toNat + (xs.getD (k + 1) 0).toNat
theorem w2_lt (xs : List UInt8) (k : Nat) : w2 xs k < 65536 := by
  unfold w2; have := UInt8.toNat_lt (xs.getD k 0); have := UInt8.toNat_lt (xs.getD (k + 1) 0); omega
theorem bv_w2 {xs : List UInt8} {k : Nat} (h : k + 2 ≤ xs.length) : bv ((xs.drop k).take 2) = w2 xs k := by
  have e : (xs.drop k).take 2 = [xs.getD k 0, xs.getD (k + 1) 0] := by
    apply List.ext_getElem?
    intro j
    rcases j with _ | _ | j
    · simp [List.getElem?_take, List.getElem?_drop, List.getElem?_eq_getElem (show k < xs.length by omega)]
    · simp [List.getElem?_take, List.getElem?_drop, List.getElem?_eq_getElem (show k + 1 < xs.length by omega)]
    · simp; omega
  rw [e]; unfold w2; simp [bv]; omega
theorem numk2_c (X : List UInt8) (a : Option Addr) (len cap : Nat) (bad : Bool) (b j k : Nat) (w : World) (hl : Mem w [b] [[cb b [.slice a len cap, .bool bad] 126]] w) (hat : At w a (byc (X.drop j))) (hn : len = X.length - j) (hjk : j + k ≤ X.length) (hcap : len ≤ cap) (hy : X.length ≤ 70368744177664) (hk8 : k ≤ 8) (h2 : k = 2 := by rfl) :
    Calls Try.prog 46 #[.pointer (some ⟨b, 0, none⟩), .int .i64 ((k : Nat) : Int)] w (RetM w (fun x : EV => View x.a (X.drop (j + k)) a (X.drop j) ∧ X.length - (j + k) ≤ x.cap) (fun x => .int .u64 ((w2 X j : Nat) : Int)) [b] (fun x => [[cb b [.slice x.a (X.length - (j + k)) x.cap, .bool bad] 126]])) := by
  have h := numk_c X a len cap bad b j k w hl hat hn hjk hcap hy hk8
  subst h2
  rw [bv_w2 hjk] at h
  exact h
theorem bnd_ok {n k : Nat} (h : (bnd n k != 0) = false) : k ≤ n ∧ n ≤ 1480 := by
  unfold bnd at h
  split at h
  · cases h
  · split at h
    · cases h
    · omega
def uR (s d : Nat) (xs : List UInt8) : Int := if xs.length < 8 then 10 else if 1480 < xs.length then 14 else if w2 xs 4 < 8 ∨ xs.length < w2 xs 4 then 11 else if w2 xs 6 ≠ 0 ∧ cks (psh s d 17 (w2 xs 4) ++ xs.take (w2 xs 4)) ≠ 0 then 12 else 0
def ug (s d : Nat) (xs : List UInt8) : Bool := decide (uR s d xs = 0)
def uF (s d : Nat) (xs : List UInt8) (k : Nat) : Nat := bif ug s d xs then w2 xs k else 0
def uP (s d : Nat) (xs : List UInt8) : Bool := ug s d xs && decide (w2 xs 6 = 0)
def uD (s d : Nat) (xs : List UInt8) : List UInt8 := bif ug s d xs then (xs.drop 8).take (w2 xs 4 - 8) else []
theorem uR_bnd {s d : Nat} {xs : List UInt8} (h : (bnd xs.length 8 != 0) = true) : uR s d xs = bnd xs.length 8 := by
  unfold uR bnd at *
  split
  · rfl
  · split
    · rfl
    · rename_i h1 h2; rw [if_neg h1, if_neg h2] at h; cases h
theorem p67 (xs : List UInt8) : ((((xs.getD 6 0).toNat : Nat) : Int) == 0 && (((xs.getD 7 0).toNat : Nat) : Int) == 0) = decide (w2 xs 6 = 0) := by
  rw [Bool.eq_iff_iff, Bool.and_eq_true, beq_iff_eq, beq_iff_eq, decide_eq_true_eq]
  show _ ↔ 256 * (xs.getD 6 0).toNat + (xs.getD 7 0).toNat = 0
  omega
theorem z60 (n : Nat) : (((n : Nat) : Int) == 0) = decide (n = 0) := by by_cases h : n = 0 <;> simp [h]
set_option maxHeartbeats 1000000 in
theorem rudp_c (s d : Nat) (xs : List UInt8) (a : Option Addr) (cap : Nat) (w : World) (hat : At w a (byc xs)) (hs : s < 4294967296) (hd : d < 4294967296) (hl : xs.length ≤ 100000) (hlc : xs.length ≤ cap) : Calls Try.prog 23 #[Value.int .u32 ((s : Nat) : Int), Value.int .u32 ((d : Nat) : Int), Value.slice a xs.length cap] w (RetM w (fun g : FS => g.ok 1 (uD s d xs).length) (fun g => .tuple #[.agg [.int .u16 ((uF s d xs 0 : Nat) : Int), .int .u16 ((uF s d xs 2 : Nat) : Int), .bool (uP s d xs), .slice g.a (uD s d xs).length g.cap].toArray, .int .i64 (uR s d xs)]) [] (fun g => [g.seg 5 (byc (uD s d xs))])) := by
  have hw4 := w2_lt xs 4; have hw6 := w2_lt xs 6
  refine calls_W (M := []) (LL := []) (n := 67) Try.func23 rfl rfl (by simp) (Mem.refl _) ?_
  refine W.seq (fun K1 hK1 => ?_)
  refine W.region ?_
  refine Wl.ht rfl (Ht.alloc (z := Value.agg ([Value.int .u16 0, Value.int .u16 0, Value.bool false, Value.slice none 0 0]).toArray) (cs := [Value.int .u16 0, Value.int .u16 0, Value.bool false, Value.slice none 0 0]) rfl rfl Try.zeroValue56 rfl) (fun p6 => ?_)
  refine Wl.run 1 (by kernel_rfl) ?_
  refine Wl.nil ?_
  refine hK1 _ _ _ ?_
  refine W.prune' [0, 1, 2, 6] [nV .u32 s, nV .u32 d, Value.slice a xs.length cap, Value.pointer (some ⟨p6, 0, none⟩)] (by kernel_rfl) (fun f2 => ?_)
  refine W.seq (fun K3 hK3 => ?_)
  refine W.seq (fun K4 hK4 => ?_)
  refine W.region ?_
  refine Wl.run 1 (by kernel_rfl) ?_
  refine Wl.yc (v := Value.int .i64 (bnd xs.length 8)) rfl rfl (Yc.call (k := 44) (args := #[Value.slice a xs.length cap, Value.int .i64 8]) (fun _ => by kernel_rfl) (fun w_ hm_ => bounds_c a xs.length cap 8 _ (by omega) (by omega))) ?_
  refine Wl.run 1 (by kernel_rfl) ?_
  refine Wl.nil ?_
  refine hK4 _ _ _ ?_
  refine W.prune' [0, 1, 2, 6, 8] [nV .u32 s, nV .u32 d, Value.slice a xs.length cap, Value.pointer (some ⟨p6, 0, none⟩), Value.int .i64 (bnd xs.length 8)] (by kernel_rfl) (fun f5 => ?_)
  refine W.seq (fun K6 hK6 => ?_)
  refine W.region ?_
  refine Wl.run 2 (by kernel_rfl) ?_
  refine Wl.nil ?_
  refine hK6 _ _ _ ?_
  refine W.prune' [0, 1, 2, 6, 8, 14] [nV .u32 s, nV .u32 d, Value.slice a xs.length cap, Value.pointer (some ⟨p6, 0, none⟩), Value.int .i64 (bnd xs.length 8), Value.bool ((bnd xs.length 8) != 0)] (by kernel_rfl) (fun f7 => ?_)
  refine W.cond ((bnd xs.length 8) != 0) (by kernel_rfl) (fun h8 => ?_) (fun h9 => ?_)
  · have qh8 := h8; try simp only [Bool.and_eq_true, Bool.or_eq_true, Bool.not_eq_true', Bool.not_eq_false', Bool.and_eq_false_iff, Bool.or_eq_false_iff, decide_eq_true_eq, decide_eq_false_iff_not, beq_iff_eq, bne_iff_ne, beq_eq_false_iff_ne, bne_eq_false_iff_eq] at qh8
    refine W.seq (fun K10 hK10 => ?_)
    refine W.region ?_
    refine Wl.ys (v := Value.agg ([Value.int .u16 0, Value.int .u16 0, Value.bool false, Value.slice none 0 0]).toArray) rfl rfl (Ys.loadN (b := p6) (o' := 0) (i := 0) (j := 0) (cs := [Value.int .u16 0, Value.int .u16 0, Value.bool false, Value.slice none 0 0]) (vs := [Value.int .u16 0, Value.int .u16 0, Value.bool false, Value.slice none 0 0]) rfl (by kernel_rfl) Try.isAgg56 Try.sizeOf56 rfl rfl rfl rfl) ?_
    refine Wl.run 1 (by kernel_rfl) ?_
    refine Wl.ht rfl (Ht.storeN (b := p6) (o' := 0) (i := 0) (j := 0) (cs := [Value.int .u16 0, Value.int .u16 0, Value.bool false, Value.slice none 0 0]) (vs := [Value.int .u16 0, Value.int .u16 0, Value.bool false, Value.slice none 0 0]) (cs' := [Value.int .u16 0, Value.int .u16 0, Value.bool false, Value.slice none 0 0]) (LL' := [[cb p6 [Value.int .u16 0, Value.int .u16 0, Value.bool false, Value.slice none 0 0] 56]]) rfl rfl (by kernel_rfl) (by kernel_rfl) Try.sizeOf56 (by simp [Value.oneCell']) rfl rfl (by simp) rfl rfl) (fun _ => ?_)
    refine Wl.run 1 (by kernel_rfl) ?_
    refine Wl.nil ?_
    refine hK10 _ _ _ ?_
    refine W.prune' [6, 7] [Value.pointer (some ⟨p6, 0, none⟩), Value.int .i64 (bnd xs.length 8)] (by kernel_rfl) (fun f11 => ?_)
    refine W.ret ?_
    have hR : uR s d xs = bnd xs.length 8 := uR_bnd h8
    have hG : ug s d xs = false := by unfold ug; rw [hR]; exact decide_eq_false (by simpa using h8)
    have hD : uD s d xs = [] := by unfold uD; rw [hG]; rfl
    show ∀ w_, _ → bodyPostM (fence none) 0 Try.prog Try.f23 _ Exit.ret _ w_
    exact fun w_ hS_ => fin_ret (ret2 rfl (RV.cellN (b := p6) (o' := 0) (i := 0) (j := 0) (cs := [Value.int .u16 0, Value.int .u16 0, Value.bool false, Value.slice none 0 0]) (vs := [Value.int .u16 0, Value.int .u16 0, Value.bool false, Value.slice none 0 0]) (by kernel_rfl) Try.isAgg56 Try.sizeOf56 rfl rfl rfl rfl) (RV.tmp (v := Value.int .i64 (bnd xs.length 8)) (by kernel_rfl)) hS_ ⟨FS.nul, (by rw [hD]; exact FS.nul_ok 1), congrArg Ending.returned ((by simp only [uF, uP, hG, cond_false, Bool.false_and, hR, hD]; rfl)), (Mem.cast (by rw [hD]; rfl) (Mem.push (hS_.pick [] (by decide) rfl)))⟩)
  · have qh9 := h9; try simp only [Bool.and_eq_true, Bool.or_eq_true, Bool.not_eq_true', Bool.not_eq_false', Bool.and_eq_false_iff, Bool.or_eq_false_iff, decide_eq_true_eq, decide_eq_false_iff_not, beq_iff_eq, bne_iff_ne, beq_eq_false_iff_ne, bne_eq_false_iff_eq] at qh9
    refine W.skip' ?_
    refine hK3 _ _ _ ?_
    refine W.prune' [0, 1, 2, 6] [nV .u32 s, nV .u32 d, Value.slice a xs.length cap, Value.pointer (some ⟨p6, 0, none⟩)] (by kernel_rfl) (fun f12 => ?_)
    refine W.seq (fun K13 hK13 => ?_)
    have hb_ := bnd_ok h9
    refine W.region ?_
    refine Wl.run 1 (by kernel_rfl) ?_
    refine Wl.ht rfl (Ht.call (β := NE) (k := 45) (args := #[Value.slice a xs.length cap]) (Lin := []) (Lk := [[cb p6 [Value.int .u16 0, Value.int .u16 0, Value.bool false, Value.slice none 0 0] 56]]) (Mi := []) (Lo := fun ne14 => [[cb ne14.b [Value.slice ne14.g.a xs.length ne14.g.cap, Value.bool false] 126], ne14.g.seg 5 (mc b8 xs), [cb p6 [Value.int .u16 0, Value.int .u16 0, Value.bool false, Value.slice none 0 0] 56]]) [] [0] rfl (fun _ => by kernel_rfl) (by decide) rfl rfl rfl (fun w_ hm_ hl_ => (neweyen_c xs a xs.length cap _ rfl (hat.mem0 hm_) (by first | omega | (simp; omega)))) (fun _ => rfl)) (fun x17 => ?_)
    obtain ⟨ne14, ok15⟩ := x17
    refine Wl.castL (LL' := [[cb ne14.b [Value.slice ne14.g.a xs.length ne14.g.cap, Value.bool false] 126], ne14.g.seg 5 (mc b8 xs), [cb p6 [Value.int .u16 0, Value.int .u16 0, Value.bool false, Value.slice none 0 0] 56]]) rfl ?_
    refine Wl.run 1 (by kernel_rfl) ?_
    refine Wl.nil ?_
    refine hK13 _ _ _ ?_
    refine W.prune' [0, 1, 2, 6, 9] [nV .u32 s, nV .u32 d, Value.slice a xs.length cap, Value.pointer (some ⟨p6, 0, none⟩), Value.pointer (some ⟨ne14.b, 0, none⟩)] (by kernel_rfl) (fun f18 => ?_)
    refine W.seq (fun K19 hK19 => ?_)
    refine W.region ?_
    refine Wl.run 1 (by kernel_rfl) ?_
    refine Wl.ht rfl (Ht.call (β := EV) (k := 46) (args := #[Value.pointer (some ⟨ne14.b, 0, none⟩), Value.int .i64 2]) (Lin := [[cb ne14.b [Value.slice ne14.g.a xs.length ne14.g.cap, Value.bool false] 126]]) (Lk := [ne14.g.seg 5 (mc b8 xs), [cb p6 [Value.int .u16 0, Value.int .u16 0, Value.bool false, Value.slice none 0 0] 56]]) (Mi := [ne14.b]) (Lo := fun ev20 => [[cb ne14.b [Value.slice ev20.a (xs.length - 2) ev20.cap, Value.bool false] 126], ne14.g.seg 5 (mc b8 xs), [cb p6 [Value.int .u16 0, Value.int .u16 0, Value.bool false, Value.slice none 0 0] 56]]) [0] [1, 2] rfl (fun _ => by kernel_rfl) (by decide) rfl rfl rfl (fun w_ hm_ hl_ => (numk2_c xs ne14.g.a xs.length ne14.g.cap false ne14.b 0 2 _ hl_ (by rw [List.drop_zero]; exact (FS.at (i := 1) (t := 5) hm_ rfl (FS.nil_cs ok15 (mc_len1 _)))) (by first | rfl | omega) (by omega) (ok15.le) (by omega) (by decide))) (fun _ => rfl)) (fun x25 => ?_)
    obtain ⟨ev20, hv22, hc23⟩ := x25
    refine Wl.castL (LL' := [[cb ne14.b [Value.slice ev20.a (xs.length - 2) ev20.cap, Value.bool false] 126], ne14.g.seg 5 (mc b8 xs), [cb p6 [Value.int .u16 0, Value.int .u16 0, Value.bool false, Value.slice none 0 0] 56]]) rfl ?_
    refine Wl.ys (v := nV .u16 ((w2 xs 0) % 65536)) rfl rfl ((Ys.pure (v := .int .u16 (icnv .u16 ((w2 xs 0 : Nat) : Int))) (fun _ => by kernel_rfl)).conseq (int_congr (icnv_mod rfl _))) ?_
    refine Wl.run 1 (by kernel_rfl) ?_
    refine Wl.ht rfl (Ht.call (β := EV) (k := 46) (args := #[Value.pointer (some ⟨ne14.b, 0, none⟩), Value.int .i64 2]) (Lin := [[cb ne14.b [Value.slice ev20.a (xs.length - 2) ev20.cap, Value.bool false] 126]]) (Lk := [ne14.g.seg 5 (mc b8 xs), [cb p6 [Value.int .u16 0, Value.int .u16 0, Value.bool false, Value.slice none 0 0] 56]]) (Mi := [ne14.b]) (Lo := fun ev26 => [[cb ne14.b [Value.slice ev26.a (xs.length - 4) ev26.cap, Value.bool false] 126], ne14.g.seg 5 (mc b8 xs), [cb p6 [Value.int .u16 0, Value.int .u16 0, Value.bool false, Value.slice none 0 0] 56]]) [0] [1, 2] rfl (fun _ => by kernel_rfl) (by decide) rfl rfl rfl (fun w_ hm_ hl_ => (numk2_c xs ev20.a (xs.length - 2) ev20.cap false ne14.b 2 2 _ hl_ (hv22 _ (by rw [List.drop_zero]; exact (FS.at (i := 1) (t := 5) hm_ rfl (FS.nil_cs ok15 (mc_len1 _))))) (by first | rfl | omega) (by omega) (by omega) (by omega) (by decide))) (fun _ => rfl)) (fun x31 => ?_)
    obtain ⟨ev26, hv28, hc29⟩ := x31
    refine Wl.castL (LL' := [[cb ne14.b [Value.slice ev26.a (xs.length - 4) ev26.cap, Value.bool false] 126], ne14.g.seg 5 (mc b8 xs), [cb p6 [Value.int .u16 0, Value.int .u16 0, Value.bool false, Value.slice none 0 0] 56]]) rfl ?_
    refine Wl.ys (v := nV .u16 ((w2 xs 2) % 65536)) rfl rfl ((Ys.pure (v := .int .u16 (icnv .u16 ((w2 xs 2 : Nat) : Int))) (fun _ => by kernel_rfl)).conseq (int_congr (icnv_mod rfl _))) ?_
    refine Wl.run 1 (by kernel_rfl) ?_
    refine Wl.ht rfl (Ht.store (b := p6) (o' := 0) (i := 2) (j := 0) (cs := [Value.int .u16 0, Value.int .u16 0, Value.bool false, Value.slice none 0 0]) (cs' := [nV .u16 ((w2 xs 0) % 65536), Value.int .u16 0, Value.bool false, Value.slice none 0 0]) (v := nV .u16 ((w2 xs 0) % 65536)) (LL' := [[cb ne14.b [Value.slice ev26.a (xs.length - 4) ev26.cap, Value.bool false] 126], ne14.g.seg 5 (mc b8 xs), [cb p6 [nV .u16 ((w2 xs 0) % 65536), Value.int .u16 0, Value.bool false, Value.slice none 0 0] 56]]) rfl rfl (by kernel_rfl) (by kernel_rfl) Try.sizeOf22 rfl rfl rfl (by simp) rfl rfl) (fun _ => ?_)
    refine Wl.run 1 (by kernel_rfl) ?_
    refine Wl.ht rfl (Ht.store (b := p6) (o' := 1) (i := 2) (j := 0) (cs := [nV .u16 ((w2 xs 0) % 65536), Value.int .u16 0, Value.bool false, Value.slice none 0 0]) (cs' := [nV .u16 ((w2 xs 0) % 65536), nV .u16 ((w2 xs 2) % 65536), Value.bool false, Value.slice none 0 0]) (v := nV .u16 ((w2 xs 2) % 65536)) (LL' := [[cb ne14.b [Value.slice ev26.a (xs.length - 4) ev26.cap, Value.bool false] 126], ne14.g.seg 5 (mc b8 xs), [cb p6 [nV .u16 ((w2 xs 0) % 65536), nV .u16 ((w2 xs 2) % 65536), Value.bool false, Value.slice none 0 0] 56]]) rfl rfl (by kernel_rfl) (by kernel_rfl) Try.sizeOf22 rfl rfl rfl (by simp) rfl rfl) (fun _ => ?_)
    refine Wl.nil ?_
    refine hK19 _ _ _ ?_
    refine W.prune' [0, 1, 2, 6, 9] [nV .u32 s, nV .u32 d, Value.slice a xs.length cap, Value.pointer (some ⟨p6, 0, none⟩), Value.pointer (some ⟨ne14.b, 0, none⟩)] (by kernel_rfl) (fun f32 => ?_)
    refine W.seq (fun K33 hK33 => ?_)
    refine W.region ?_
    refine Wl.run 1 (by kernel_rfl) ?_
    refine Wl.ht rfl (Ht.call (β := EV) (k := 46) (args := #[Value.pointer (some ⟨ne14.b, 0, none⟩), Value.int .i64 2]) (Lin := [[cb ne14.b [Value.slice ev26.a (xs.length - 4) ev26.cap, Value.bool false] 126]]) (Lk := [ne14.g.seg 5 (mc b8 xs), [cb p6 [nV .u16 ((w2 xs 0) % 65536), nV .u16 ((w2 xs 2) % 65536), Value.bool false, Value.slice none 0 0] 56]]) (Mi := [ne14.b]) (Lo := fun ev34 => [[cb ne14.b [Value.slice ev34.a (xs.length - 6) ev34.cap, Value.bool false] 126], ne14.g.seg 5 (mc b8 xs), [cb p6 [nV .u16 ((w2 xs 0) % 65536), nV .u16 ((w2 xs 2) % 65536), Value.bool false, Value.slice none 0 0] 56]]) [0] [1, 2] rfl (fun _ => by kernel_rfl) (by decide) rfl rfl rfl (fun w_ hm_ hl_ => (numk2_c xs ev26.a (xs.length - 4) ev26.cap false ne14.b 4 2 _ hl_ (hv28 _ (hv22 _ (by rw [List.drop_zero]; exact (FS.at (i := 1) (t := 5) hm_ rfl (FS.nil_cs ok15 (mc_len1 _)))))) (by first | rfl | omega) (by omega) (by omega) (by omega) (by decide))) (fun _ => rfl)) (fun x39 => ?_)
    obtain ⟨ev34, hv36, hc37⟩ := x39
    refine Wl.castL (LL' := [[cb ne14.b [Value.slice ev34.a (xs.length - 6) ev34.cap, Value.bool false] 126], ne14.g.seg 5 (mc b8 xs), [cb p6 [nV .u16 ((w2 xs 0) % 65536), nV .u16 ((w2 xs 2) % 65536), Value.bool false, Value.slice none 0 0] 56]]) rfl ?_
    refine Wl.ys (v := nV .i64 (w2 xs 4)) rfl rfl ((Ys.pure (v := .int .i64 (icnv .i64 ((w2 xs 4 : Nat) : Int))) (fun _ => by kernel_rfl)).conseq (int_congr (wrap_i64 (by omega) (by omega)))) ?_
    refine Wl.run 1 (by kernel_rfl) ?_
    refine Wl.nil ?_
    refine hK33 _ _ _ ?_
    refine W.prune' [0, 1, 2, 6, 9, 10] [nV .u32 s, nV .u32 d, Value.slice a xs.length cap, Value.pointer (some ⟨p6, 0, none⟩), Value.pointer (some ⟨ne14.b, 0, none⟩), nV .i64 (w2 xs 4)] (by kernel_rfl) (fun f40 => ?_)
    refine W.seq (fun K41 hK41 => ?_)
    refine W.region ?_
    refine Wl.run 1 (by kernel_rfl) ?_
    refine Wl.ht rfl (Ht.call (β := EV) (k := 46) (args := #[Value.pointer (some ⟨ne14.b, 0, none⟩), Value.int .i64 2]) (Lin := [[cb ne14.b [Value.slice ev34.a (xs.length - 6) ev34.cap, Value.bool false] 126]]) (Lk := [ne14.g.seg 5 (mc b8 xs), [cb p6 [nV .u16 ((w2 xs 0) % 65536), nV .u16 ((w2 xs 2) % 65536), Value.bool false, Value.slice none 0 0] 56]]) (Mi := [ne14.b]) (Lo := fun ev42 => [[cb ne14.b [Value.slice ev42.a (xs.length - 8) ev42.cap, Value.bool false] 126], ne14.g.seg 5 (mc b8 xs), [cb p6 [nV .u16 ((w2 xs 0) % 65536), nV .u16 ((w2 xs 2) % 65536), Value.bool false, Value.slice none 0 0] 56]]) [0] [1, 2] rfl (fun _ => by kernel_rfl) (by decide) rfl rfl rfl (fun w_ hm_ hl_ => (numk2_c xs ev34.a (xs.length - 6) ev34.cap false ne14.b 6 2 _ hl_ (hv36 _ (hv28 _ (hv22 _ (by rw [List.drop_zero]; exact (FS.at (i := 1) (t := 5) hm_ rfl (FS.nil_cs ok15 (mc_len1 _))))))) (by first | rfl | omega) (by omega) (by omega) (by omega) (by decide))) (fun _ => rfl)) (fun x47 => ?_)
    obtain ⟨ev42, hv44, hc45⟩ := x47
    refine Wl.castL (LL' := [[cb ne14.b [Value.slice ev42.a (xs.length - 8) ev42.cap, Value.bool false] 126], ne14.g.seg 5 (mc b8 xs), [cb p6 [nV .u16 ((w2 xs 0) % 65536), nV .u16 ((w2 xs 2) % 65536), Value.bool false, Value.slice none 0 0] 56]]) rfl ?_
    refine Wl.run 2 (by kernel_rfl) ?_
    refine Wl.ht rfl (Ht.store (b := p6) (o' := 2) (i := 2) (j := 0) (cs := [nV .u16 ((w2 xs 0) % 65536), nV .u16 ((w2 xs 2) % 65536), Value.bool false, Value.slice none 0 0]) (cs' := [nV .u16 ((w2 xs 0) % 65536), nV .u16 ((w2 xs 2) % 65536), Value.bool (((w2 xs 6 : Nat) : Int) == 0), Value.slice none 0 0]) (v := Value.bool (((w2 xs 6 : Nat) : Int) == 0)) (LL' := [[cb ne14.b [Value.slice ev42.a (xs.length - 8) ev42.cap, Value.bool false] 126], ne14.g.seg 5 (mc b8 xs), [cb p6 [nV .u16 ((w2 xs 0) % 65536), nV .u16 ((w2 xs 2) % 65536), Value.bool (((w2 xs 6 : Nat) : Int) == 0), Value.slice none 0 0] 56]]) rfl rfl (by kernel_rfl) (by kernel_rfl) Try.sizeOf4 rfl rfl rfl (by simp) rfl rfl) (fun _ => ?_)
    refine Wl.nil ?_
    refine hK41 _ _ _ ?_
    refine W.prune' [0, 1, 2, 6, 9, 10] [nV .u32 s, nV .u32 d, Value.slice a xs.length cap, Value.pointer (some ⟨p6, 0, none⟩), Value.pointer (some ⟨ne14.b, 0, none⟩), nV .i64 (w2 xs 4)] (by kernel_rfl) (fun f48 => ?_)
    refine W.seq (fun K49 hK49 => ?_)
    refine W.block ?_
    refine W.seq (fun K50 hK50 => ?_)
    refine W.region ?_
    refine Wl.run 3 (by kernel_rfl) ?_
    refine Wl.guard (v := nV .i64 (w2 xs 4)) (!(decide (((w2 xs 4 : Nat) : Int) < 8))) rfl (wantF rfl (by kernel_rfl)) rfl (fun hg51 => ?_) ?_
    · have qhg51 := hg51; try simp only [Bool.and_eq_true, Bool.or_eq_true, Bool.not_eq_true', Bool.not_eq_false', Bool.and_eq_false_iff, Bool.or_eq_false_iff, decide_eq_true_eq, decide_eq_false_iff_not, beq_iff_eq, bne_iff_ne, beq_eq_false_iff_ne, bne_eq_false_iff_eq] at qhg51
      exact Ys.pure (fun _ => by kernel_rfl)
    refine Wl.guard (v := Value.slice a xs.length cap) (!(decide (((w2 xs 4 : Nat) : Int) < 8))) rfl (wantF rfl (by kernel_rfl)) rfl (fun hg52 => ?_) ?_
    · have qhg52 := hg52; try simp only [Bool.and_eq_true, Bool.or_eq_true, Bool.not_eq_true', Bool.not_eq_false', Bool.and_eq_false_iff, Bool.or_eq_false_iff, decide_eq_true_eq, decide_eq_false_iff_not, beq_iff_eq, bne_iff_ne, beq_eq_false_iff_ne, bne_eq_false_iff_eq] at qhg52
      exact Ys.pure (fun _ => by kernel_rfl)
    refine Wl.guard (v := nV .i64 xs.length) (!(decide (((w2 xs 4 : Nat) : Int) < 8))) rfl (wantF rfl (by kernel_rfl)) rfl (fun hg53 => ?_) ?_
    · have qhg53 := hg53; try simp only [Bool.and_eq_true, Bool.or_eq_true, Bool.not_eq_true', Bool.not_eq_false', Bool.and_eq_false_iff, Bool.or_eq_false_iff, decide_eq_true_eq, decide_eq_false_iff_not, beq_iff_eq, bne_iff_ne, beq_eq_false_iff_ne, bne_eq_false_iff_eq] at qhg53
      refine Ys.at (t := 39) (v0 := Value.slice a xs.length cap) (lz (g := !(decide (((w2 xs 4 : Nat) : Int) < 8))) (u := undef) hg53 (by kernel_rfl)) ?_
      exact Ys.pure (fun _ => by kernel_rfl)
    refine Wl.guard (v := Value.bool (decide (((w2 xs 4 : Nat) : Int) > ((xs.length : Nat) : Int)))) (!(decide (((w2 xs 4 : Nat) : Int) < 8))) rfl (wantF rfl (by kernel_rfl)) rfl (fun hg54 => ?_) ?_
    · have qhg54 := hg54; try simp only [Bool.and_eq_true, Bool.or_eq_true, Bool.not_eq_true', Bool.not_eq_false', Bool.and_eq_false_iff, Bool.or_eq_false_iff, decide_eq_true_eq, decide_eq_false_iff_not, beq_iff_eq, bne_iff_ne, beq_eq_false_iff_ne, bne_eq_false_iff_eq] at qhg54
      refine Ys.at (t := 38) (v0 := nV .i64 (w2 xs 4)) (lz (g := !(decide (((w2 xs 4 : Nat) : Int) < 8))) (u := undef) hg54 (by kernel_rfl)) ?_
      refine Ys.at (t := 40) (v0 := nV .i64 xs.length) (lz (g := !(decide (((w2 xs 4 : Nat) : Int) < 8))) (u := undef) hg54 (by kernel_rfl)) ?_
      exact Ys.pure (fun _ => by kernel_rfl)
    refine Wl.ys (v := Value.bool ((decide (((w2 xs 4 : Nat) : Int) < 8)) || (decide (((w2 xs 4 : Nat) : Int) > ((xs.length : Nat) : Int))))) rfl rfl (Ys.or' (e := decide (((w2 xs 4 : Nat) : Int) < 8)) (b := decide (((w2 xs 4 : Nat) : Int) > ((xs.length : Nat) : Int))) rfl (by kernel_rfl) (by kernel_rfl) (by kernel_rfl)) ?_
    refine Wl.run 1 (by kernel_rfl) ?_
    refine Wl.nil ?_
    refine hK50 _ _ _ ?_
    refine W.prune' [0, 1, 2, 6, 9, 10, 34] [nV .u32 s, nV .u32 d, Value.slice a xs.length cap, Value.pointer (some ⟨p6, 0, none⟩), Value.pointer (some ⟨ne14.b, 0, none⟩), nV .i64 (w2 xs 4), Value.bool ((decide (((w2 xs 4 : Nat) : Int) < 8)) || (decide (((w2 xs 4 : Nat) : Int) > ((xs.length : Nat) : Int))))] (by kernel_rfl) (fun f55 => ?_)
    refine W.cond ((decide (((w2 xs 4 : Nat) : Int) < 8)) || (decide (((w2 xs 4 : Nat) : Int) > ((xs.length : Nat) : Int)))) (by kernel_rfl) (fun h56 => ?_) (fun h57 => ?_)
    · have qh56 := h56; try simp only [Bool.and_eq_true, Bool.or_eq_true, Bool.not_eq_true', Bool.not_eq_false', Bool.and_eq_false_iff, Bool.or_eq_false_iff, decide_eq_true_eq, decide_eq_false_iff_not, beq_iff_eq, bne_iff_ne, beq_eq_false_iff_ne, bne_eq_false_iff_eq] at qh56
      refine W.seq (fun K58 hK58 => ?_)
      refine W.region ?_
      refine Wl.run 1 (by kernel_rfl) ?_
      refine Wl.ht rfl (Ht.storeN (b := p6) (o' := 0) (i := 2) (j := 0) (cs := [nV .u16 ((w2 xs 0) % 65536), nV .u16 ((w2 xs 2) % 65536), Value.bool (((w2 xs 6 : Nat) : Int) == 0), Value.slice none 0 0]) (vs := [Value.int .u16 0, Value.int .u16 0, Value.bool false, Value.slice none 0 0]) (cs' := [Value.int .u16 0, Value.int .u16 0, Value.bool false, Value.slice none 0 0]) (LL' := [[cb ne14.b [Value.slice ev42.a (xs.length - 8) ev42.cap, Value.bool false] 126], ne14.g.seg 5 (mc b8 xs), [cb p6 [Value.int .u16 0, Value.int .u16 0, Value.bool false, Value.slice none 0 0] 56]]) rfl rfl (by kernel_rfl) (by kernel_rfl) Try.sizeOf56 (by simp [Value.oneCell']) rfl rfl (by simp) rfl rfl) (fun _ => ?_)
      refine Wl.run 1 (by kernel_rfl) ?_
      refine Wl.nil ?_
      refine hK58 _ _ _ ?_
      refine W.pick (LL' := [[cb p6 [Value.int .u16 0, Value.int .u16 0, Value.bool false, Value.slice none 0 0] 56]]) [2] (by decide) rfl ?_
      refine W.prune' [6, 7] [Value.pointer (some ⟨p6, 0, none⟩), Value.int .i64 11] (by kernel_rfl) (fun f59 => ?_)
      refine W.ret ?_
      have hR : uR s d xs = 11 := by unfold uR; rw [if_neg (by omega), if_neg (by omega), if_pos (by omega)]
      have hG : ug s d xs = false := by unfold ug; rw [hR]; rfl
      have hD : uD s d xs = [] := by unfold uD; rw [hG]; rfl
      show ∀ w_, _ → bodyPostM (fence none) 0 Try.prog Try.f23 _ Exit.ret _ w_
      exact fun w_ hS_ => fin_ret (ret2 rfl (RV.cellN (b := p6) (o' := 0) (i := 0) (j := 0) (cs := [Value.int .u16 0, Value.int .u16 0, Value.bool false, Value.slice none 0 0]) (vs := [Value.int .u16 0, Value.int .u16 0, Value.bool false, Value.slice none 0 0]) (by kernel_rfl) Try.isAgg56 Try.sizeOf56 rfl rfl rfl rfl) (RV.tmp (v := Value.int .i64 11) (by kernel_rfl)) hS_ ⟨FS.nul, (by rw [hD]; exact FS.nul_ok 1), congrArg Ending.returned ((by simp only [uF, uP, hG, cond_false, Bool.false_and, hR, hD]; rfl)), (Mem.cast (by rw [hD]; rfl) (Mem.push (hS_.pick [] (by decide) rfl)))⟩)
    · have qh57 := h57; try simp only [Bool.and_eq_true, Bool.or_eq_true, Bool.not_eq_true', Bool.not_eq_false', Bool.and_eq_false_iff, Bool.or_eq_false_iff, decide_eq_true_eq, decide_eq_false_iff_not, beq_iff_eq, bne_iff_ne, beq_eq_false_iff_ne, bne_eq_false_iff_eq] at qh57
      refine W.seq (fun K60 hK60 => ?_)
      refine W.draws [(0, false), (1, false), (2, false), (3, false), (4, true), (5, true), (6, true), (8, true), (9, true), (10, true), (7, false), (11, false), (12, false), (13, false), (14, false), (15, false)] [4, 5, 6, 8, 9, 10] (Mem w [] [[cb ne14.b [Value.slice ev42.a (xs.length - 8) ev42.cap, Value.bool false] 126], ne14.g.seg 5 (mc b8 xs), [cb p6 [nV .u16 ((w2 xs 0) % 65536), nV .u16 ((w2 xs 2) % 65536), Value.bool (((w2 xs 6 : Nat) : Int) == 0), Value.slice none 0 0] 56]]) (by kernel_rfl) (by kernel_rfl) (by kernel_rfl) rfl (by kernel_rfl) (fun _ _ h_ => h_.drawn _) (fun _ h_ => h_) ?_
      refine Wd.yc (v := Value.pointer (some ⟨p6, 2, none⟩)) rfl rfl rfl (Ys.yc (Ys.pure (fun _ => by kernel_rfl))) (.inr fun _ h_ => h_) ?_
      refine Wd.yc (v := Value.bool (((w2 xs 6 : Nat) : Int) == 0)) rfl rfl rfl (Ys.yc (Ys.load (b := p6) (o' := 2) (i := 2) (j := 0) (cs := [nV .u16 ((w2 xs 0) % 65536), nV .u16 ((w2 xs 2) % 65536), Value.bool (((w2 xs 6 : Nat) : Int) == 0), Value.slice none 0 0]) (v := Value.bool (((w2 xs 6 : Nat) : Int) == 0)) rfl (by kernel_rfl) Try.isAgg4 rfl rfl rfl)) (.inr fun _ h_ => h_) ?_
      refine Wd.yc (v := Value.bool (!(((w2 xs 6 : Nat) : Int) == 0))) rfl rfl rfl (Ys.yc (Ys.pure (fun _ => by kernel_rfl))) (.inr fun _ h_ => h_) ?_
      refine Wd.yc (v := Value.bool (!(((w2 xs 6 : Nat) : Int) == 0))) rfl rfl rfl (Ys.yc (Ys.pure (fun _ => by kernel_rfl))) (.inr fun _ h_ => h_) ?_
      refine Wd.guard (v := nV .u32 s) (!(((w2 xs 6 : Nat) : Int) == 0)) rfl (wantT rfl (by kernel_rfl)) rfl (fun hg61 => ?_) ?_
      · have qhg61 := hg61; try simp only [Bool.and_eq_true, Bool.or_eq_true, Bool.not_eq_true', Bool.not_eq_false', Bool.and_eq_false_iff, Bool.or_eq_false_iff, decide_eq_true_eq, decide_eq_false_iff_not, beq_iff_eq, bne_iff_ne, beq_eq_false_iff_ne, bne_eq_false_iff_eq] at qhg61
        exact Ys.pure (fun _ => by kernel_rfl)
      refine Wd.guard (v := nV .u32 d) (!(((w2 xs 6 : Nat) : Int) == 0)) rfl (wantT rfl (by kernel_rfl)) rfl (fun hg62 => ?_) ?_
      · have qhg62 := hg62; try simp only [Bool.and_eq_true, Bool.or_eq_true, Bool.not_eq_true', Bool.not_eq_false', Bool.and_eq_false_iff, Bool.or_eq_false_iff, decide_eq_true_eq, decide_eq_false_iff_not, beq_iff_eq, bne_iff_ne, beq_eq_false_iff_ne, bne_eq_false_iff_eq] at qhg62
        exact Ys.pure (fun _ => by kernel_rfl)
      refine Wd.guard (v := nV .i64 (w2 xs 4)) (!(((w2 xs 6 : Nat) : Int) == 0)) rfl (wantT rfl (by kernel_rfl)) rfl (fun hg63 => ?_) ?_
      · have qhg63 := hg63; try simp only [Bool.and_eq_true, Bool.or_eq_true, Bool.not_eq_true', Bool.not_eq_false', Bool.and_eq_false_iff, Bool.or_eq_false_iff, decide_eq_true_eq, decide_eq_false_iff_not, beq_iff_eq, bne_iff_ne, beq_eq_false_iff_ne, bne_eq_false_iff_eq] at qhg63
        exact Ys.pure (fun _ => by kernel_rfl)
      refine Wd.guard (v := Value.slice a xs.length cap) (!(((w2 xs 6 : Nat) : Int) == 0)) rfl (wantT rfl (by kernel_rfl)) rfl (fun hg64 => ?_) ?_
      · have qhg64 := hg64; try simp only [Bool.and_eq_true, Bool.or_eq_true, Bool.not_eq_true', Bool.not_eq_false', Bool.and_eq_false_iff, Bool.or_eq_false_iff, decide_eq_true_eq, decide_eq_false_iff_not, beq_iff_eq, bne_iff_ne, beq_eq_false_iff_ne, bne_eq_false_iff_eq] at qhg64
        exact Ys.pure (fun _ => by kernel_rfl)
      refine Wd.guard (v := nV .i64 (w2 xs 4)) (!(((w2 xs 6 : Nat) : Int) == 0)) rfl (wantT rfl (by kernel_rfl)) rfl (fun hg65 => ?_) ?_
      · have qhg65 := hg65; try simp only [Bool.and_eq_true, Bool.or_eq_true, Bool.not_eq_true', Bool.not_eq_false', Bool.and_eq_false_iff, Bool.or_eq_false_iff, decide_eq_true_eq, decide_eq_false_iff_not, beq_iff_eq, bne_iff_ne, beq_eq_false_iff_ne, bne_eq_false_iff_eq] at qhg65
        exact Ys.pure (fun _ => by kernel_rfl)
      refine Wd.guard (v := Value.slice a (w2 xs 4) cap) (!(((w2 xs 6 : Nat) : Int) == 0)) rfl (wantT rfl (by kernel_rfl)) rfl (fun hg66 => ?_) ?_
      · have qhg66 := hg66; try simp only [Bool.and_eq_true, Bool.or_eq_true, Bool.not_eq_true', Bool.not_eq_false', Bool.and_eq_false_iff, Bool.or_eq_false_iff, decide_eq_true_eq, decide_eq_false_iff_not, beq_iff_eq, bne_iff_ne, beq_eq_false_iff_ne, bne_eq_false_iff_eq] at qhg66
        refine Ys.at (t := 53) (v0 := Value.slice a xs.length cap) (lz (g := !(((w2 xs 6 : Nat) : Int) == 0)) (u := undef) hg66 (by kernel_rfl)) ?_
        refine Ys.at (t := 54) (v0 := nV .i64 (w2 xs 4)) (lz (g := !(((w2 xs 6 : Nat) : Int) == 0)) (u := undef) hg66 (by kernel_rfl)) ?_
        exact Ys.sliceH (a := a) (len := xs.length) (cap := cap) (sz := 1) (k := .i64) (i := ((w2 xs 4 : Nat) : Int)) rfl (by kernel_rfl) (by kernel_rfl) Try.runUnderlying25 Try.sizeOf5 (by omega) (by omega)
      refine Wd.split (!(((w2 xs 6 : Nat) : Int) == 0)) (fun h67 => ?_) (fun h68 => ?_)
      · have qh67 := h67; try simp only [Bool.and_eq_true, Bool.or_eq_true, Bool.not_eq_true', Bool.not_eq_false', Bool.and_eq_false_iff, Bool.or_eq_false_iff, decide_eq_true_eq, decide_eq_false_iff_not, beq_iff_eq, bne_iff_ne, beq_eq_false_iff_ne, bne_eq_false_iff_eq] at qh67
        refine Wd.at 47 (v0 := .bool true) (boolv (e := !(((w2 xs 6 : Nat) : Int) == 0)) (by kernel_rfl) h67) ?_
        refine Wd.at 48 (v0 := .bool true) (boolv (e := !(((w2 xs 6 : Nat) : Int) == 0)) (by kernel_rfl) h67) ?_
        refine Wd.at 49 (v0 := nV .u32 s) (lz (g := !(((w2 xs 6 : Nat) : Int) == 0)) (u := undef) h67 (by kernel_rfl)) ?_
        refine Wd.at 50 (v0 := nV .u32 d) (lz (g := !(((w2 xs 6 : Nat) : Int) == 0)) (u := undef) h67 (by kernel_rfl)) ?_
        refine Wd.at 51 (v0 := nV .i64 (w2 xs 4)) (lz (g := !(((w2 xs 6 : Nat) : Int) == 0)) (u := undef) h67 (by kernel_rfl)) ?_
        refine Wd.at 53 (v0 := Value.slice a xs.length cap) (lz (g := !(((w2 xs 6 : Nat) : Int) == 0)) (u := undef) h67 (by kernel_rfl)) ?_
        refine Wd.at 54 (v0 := nV .i64 (w2 xs 4)) (lz (g := !(((w2 xs 6 : Nat) : Int) == 0)) (u := undef) h67 (by kernel_rfl)) ?_
        refine Wd.at 55 (v0 := Value.slice a (w2 xs 4) cap) (lz (g := !(((w2 xs 6 : Nat) : Int) == 0)) (u := undef) h67 (by kernel_rfl)) ?_
        refine Wd.htw rfl (by kernel_rfl) (Ht.call (β := FS) (k := 48) (args := #[nV .u32 s, nV .u32 d, Value.int .u8 17, nV .i64 (w2 xs 4)]) (Lin := []) (Lk := [[cb ne14.b [Value.slice ev42.a (xs.length - 8) ev42.cap, Value.bool false] 126], ne14.g.seg 5 (mc b8 xs), [cb p6 [nV .u16 ((w2 xs 0) % 65536), nV .u16 ((w2 xs 2) % 65536), Value.bool (((w2 xs 6 : Nat) : Int) == 0), Value.slice none 0 0] 56]]) (Mi := []) (Lo := fun g69 => [g69.seg 5 (mc b8 (psh s d (17 : UInt8) (w2 xs 4))), [cb ne14.b [Value.slice ev42.a (xs.length - 8) ev42.cap, Value.bool false] 126], ne14.g.seg 5 (mc b8 xs), [cb p6 [nV .u16 ((w2 xs 0) % 65536), nV .u16 ((w2 xs 2) % 65536), Value.bool (((w2 xs 6 : Nat) : Int) == 0), Value.slice none 0 0] 56]]) [] [0, 1, 2] rfl (fun _ => by kernel_rfl) (by decide) rfl rfl rfl (fun w_ hm_ hl_ => (pseudo_c s d (17 : UInt8) (w2 xs 4) _ (by omega) (by omega) (by omega))) (fun _ => rfl)) (.inr fun _ _ h_ => h_.pick [1, 2, 3] (by decide) rfl) (fun x71 => ?_)
        obtain ⟨g69, ok70⟩ := x71
        refine Wd.castL (LL' := [g69.seg 5 (mc b8 (psh s d (17 : UInt8) (w2 xs 4))), [cb ne14.b [Value.slice ev42.a (xs.length - 8) ev42.cap, Value.bool false] 126], ne14.g.seg 5 (mc b8 xs), [cb p6 [nV .u16 ((w2 xs 0) % 65536), nV .u16 ((w2 xs 2) % 65536), Value.bool (((w2 xs 6 : Nat) : Int) == 0), Value.slice none 0 0] 56]]) rfl ?_
        refine Wd.htw rfl (by kernel_rfl) (Ht.made (mk := fun b_ => .slice (some ⟨b_, 0, none⟩) 2 2) (t := 25) (cs := [Value.slice g69.a 12 g69.cap, Value.slice a (w2 xs 4) cap]) rfl (fun _ => by kernel_rfl)) (.inr fun _ _ h_ => h_.pick [2, 3, 4] (by decide) rfl) (fun p56 => ?_)
        refine Wd.guardc (v := Value.bool (((cks ((psh s d (17 : UInt8) (w2 xs 4)) ++ (xs.take (w2 xs 4))) : Nat) : Int) == 0)) (true) rfl (by kernel_rfl) rfl (fun _ => Yc.call (k := 47) (args := #[Value.slice (some ⟨p56, 0, none⟩) 2 2]) (fun _ => by kernel_rfl) (fun w_ hm_ => (rightn_c [⟨g69.a, (psh s d (17 : UInt8) (w2 xs 4)), g69.cap⟩, ⟨a, (xs.take (w2 xs 4)), cap⟩] ((psh s d (17 : UInt8) (w2 xs 4)) ++ (xs.take (w2 xs 4))) (some ⟨p56, 0, none⟩) 2 2 (12 + (w2 xs 4)) _ rfl (by simp [jn]) (by simp [be_len, psh_len]; try omega) (by first | exact At.lit0 (i := 0) (j := 0) (t := 25) (b := p56) hm_ rfl rfl | (rw [show mc slv ([⟨g69.a, (psh s d (17 : UInt8) (w2 xs 4)), g69.cap⟩, ⟨a, (xs.take (w2 xs 4)), cap⟩] : List SV) = [Value.slice g69.a 12 g69.cap, Value.slice a (w2 xs 4) cap] by (simp [mc, be_len, psh_len]; try omega)]; exact At.lit0 (i := 0) (j := 0) (t := 25) (b := p56) hm_ rfl rfl)) (List.forall_mem_cons.2 ⟨(FS.at (i := 1) (t := 5) hm_ rfl (FS.nil_cs ok70 (by rw [mc_len, psh_len]))), (List.forall_mem_cons.2 ⟨((hat.mem0 hm_).mtake (w2 xs 4)), (fun _ h => by cases h)⟩)⟩) (by first | omega | (simp [be_len, psh_len]; omega)) (by simp) (by simp)))) (.inr fun _ h_ => h_.pick [2, 3, 4] (by decide) rfl) ?_
        refine Wd.guardc (v := Value.bool (!(((cks ((psh s d (17 : UInt8) (w2 xs 4)) ++ (xs.take (w2 xs 4))) : Nat) : Int) == 0))) (true) rfl (by kernel_rfl) rfl (fun _ => Ys.yc (Ys.pure (fun _ => by kernel_rfl))) (.inr fun _ h_ => h_.pick [2, 3, 4] (by decide) rfl) ?_
        refine Wd.yc (v := Value.bool (!(((cks ((psh s d (17 : UInt8) (w2 xs 4)) ++ (xs.take (w2 xs 4))) : Nat) : Int) == 0))) rfl rfl rfl (Ys.yc (Ys.pure (fun _ => by kernel_rfl))) (.inr fun _ h_ => h_.pick [2, 3, 4] (by decide) rfl) ?_
        refine Wd.yc (v := Value.bool (!(((cks ((psh s d (17 : UInt8) (w2 xs 4)) ++ (xs.take (w2 xs 4))) : Nat) : Int) == 0))) rfl rfl rfl (Ys.yc (Ys.pure (fun _ => by kernel_rfl))) (.inr fun _ h_ => h_.pick [2, 3, 4] (by decide) rfl) ?_
        refine Wd.nil ?_
        refine hK60 _ _ _ ?_
        refine W.pick (LL' := [[cb ne14.b [Value.slice ev42.a (xs.length - 8) ev42.cap, Value.bool false] 126], ne14.g.seg 5 (mc b8 xs), [cb p6 [nV .u16 ((w2 xs 0) % 65536), nV .u16 ((w2 xs 2) % 65536), Value.bool (((w2 xs 6 : Nat) : Int) == 0), Value.slice none 0 0] 56]]) [2, 3, 4] (by decide) rfl ?_
        refine W.prune' [6, 9, 10, 44] [Value.pointer (some ⟨p6, 0, none⟩), Value.pointer (some ⟨ne14.b, 0, none⟩), nV .i64 (w2 xs 4), Value.bool (!(((cks ((psh s d (17 : UInt8) (w2 xs 4)) ++ (xs.take (w2 xs 4))) : Nat) : Int) == 0))] (by kernel_rfl) (fun f72 => ?_)
        refine W.cond (!(((cks ((psh s d (17 : UInt8) (w2 xs 4)) ++ (xs.take (w2 xs 4))) : Nat) : Int) == 0)) (by kernel_rfl) (fun h73 => ?_) (fun h74 => ?_)
        · have qh73 := h73; try simp only [Bool.and_eq_true, Bool.or_eq_true, Bool.not_eq_true', Bool.not_eq_false', Bool.and_eq_false_iff, Bool.or_eq_false_iff, decide_eq_true_eq, decide_eq_false_iff_not, beq_iff_eq, bne_iff_ne, beq_eq_false_iff_ne, bne_eq_false_iff_eq] at qh73
          refine W.seq (fun K75 hK75 => ?_)
          refine W.region ?_
          refine Wl.run 1 (by kernel_rfl) ?_
          refine Wl.ht rfl (Ht.storeN (b := p6) (o' := 0) (i := 2) (j := 0) (cs := [nV .u16 ((w2 xs 0) % 65536), nV .u16 ((w2 xs 2) % 65536), Value.bool (((w2 xs 6 : Nat) : Int) == 0), Value.slice none 0 0]) (vs := [Value.int .u16 0, Value.int .u16 0, Value.bool false, Value.slice none 0 0]) (cs' := [Value.int .u16 0, Value.int .u16 0, Value.bool false, Value.slice none 0 0]) (LL' := [[cb ne14.b [Value.slice ev42.a (xs.length - 8) ev42.cap, Value.bool false] 126], ne14.g.seg 5 (mc b8 xs), [cb p6 [Value.int .u16 0, Value.int .u16 0, Value.bool false, Value.slice none 0 0] 56]]) rfl rfl (by kernel_rfl) (by kernel_rfl) Try.sizeOf56 (by simp [Value.oneCell']) rfl rfl (by simp) rfl rfl) (fun _ => ?_)
          refine Wl.run 1 (by kernel_rfl) ?_
          refine Wl.nil ?_
          refine hK75 _ _ _ ?_
          refine W.pick (LL' := [[cb p6 [Value.int .u16 0, Value.int .u16 0, Value.bool false, Value.slice none 0 0] 56]]) [2] (by decide) rfl ?_
          refine W.prune' [6, 7] [Value.pointer (some ⟨p6, 0, none⟩), Value.int .i64 12] (by kernel_rfl) (fun f76 => ?_)
          refine W.ret ?_
          have hlast : (w2 xs 6 ≠ 0 ∧ cks (psh s d 17 (w2 xs 4) ++ xs.take (w2 xs 4)) ≠ 0) := by have zh67 := h67; simp at zh67; have zh73 := h73; simp at zh73; omega
          have hR : uR s d xs = 12 := by unfold uR; rw [if_neg (by omega), if_neg (by omega), if_neg (by omega), if_pos hlast]
          have hG : ug s d xs = false := by unfold ug; rw [hR]; rfl
          have hD : uD s d xs = [] := by unfold uD; rw [hG]; rfl
          show ∀ w_, _ → bodyPostM (fence none) 0 Try.prog Try.f23 _ Exit.ret _ w_
          exact fun w_ hS_ => fin_ret (ret2 rfl (RV.cellN (b := p6) (o' := 0) (i := 0) (j := 0) (cs := [Value.int .u16 0, Value.int .u16 0, Value.bool false, Value.slice none 0 0]) (vs := [Value.int .u16 0, Value.int .u16 0, Value.bool false, Value.slice none 0 0]) (by kernel_rfl) Try.isAgg56 Try.sizeOf56 rfl rfl rfl rfl) (RV.tmp (v := Value.int .i64 12) (by kernel_rfl)) hS_ ⟨FS.nul, (by rw [hD]; exact FS.nul_ok 1), congrArg Ending.returned ((by simp only [uF, uP, hG, cond_false, Bool.false_and, hR, hD]; rfl)), (Mem.cast (by rw [hD]; rfl) (Mem.push (hS_.pick [] (by decide) rfl)))⟩)
        · have qh74 := h74; try simp only [Bool.and_eq_true, Bool.or_eq_true, Bool.not_eq_true', Bool.not_eq_false', Bool.and_eq_false_iff, Bool.or_eq_false_iff, decide_eq_true_eq, decide_eq_false_iff_not, beq_iff_eq, bne_iff_ne, beq_eq_false_iff_ne, bne_eq_false_iff_eq] at qh74
          refine W.skip' ?_
          refine hK49 _ _ _ ?_
          refine W.prune' [6, 9, 10] [Value.pointer (some ⟨p6, 0, none⟩), Value.pointer (some ⟨ne14.b, 0, none⟩), nV .i64 (w2 xs 4)] (by kernel_rfl) (fun f77 => ?_)
          refine W.seq (fun K78 hK78 => ?_)
          refine W.region ?_
          refine Wl.run 2 (by kernel_rfl) ?_
          refine Wl.ys (v := Value.int .i64 (((w2 xs 4 : Nat) : Int) - 8)) rfl rfl ((Ys.pure (v := .int .i64 (isub .i64 ((w2 xs 4 : Nat) : Int) 8)) (fun _ => by kernel_rfl)).conseq (int_congr (isub_eq rfl (by omega) (by omega)))) ?_
          refine Wl.ht rfl (Ht.call (β := EG) (k := 49) (args := #[Value.pointer (some ⟨ne14.b, 0, none⟩), Value.int .i64 (((w2 xs 4 : Nat) : Int) - 8)]) (Lin := [[cb ne14.b [Value.slice ev42.a (xs.length - 8) ev42.cap, Value.bool false] 126]]) (Lk := [ne14.g.seg 5 (mc b8 xs), [cb p6 [nV .u16 ((w2 xs 0) % 65536), nV .u16 ((w2 xs 2) % 65536), Value.bool (((w2 xs 6 : Nat) : Int) == 0), Value.slice none 0 0] 56]]) (Mi := [ne14.b]) (Lo := fun eg79 => [[cb ne14.b [Value.slice eg79.a ((eRest (xs.drop 8) (((w2 xs 4 : Nat) : Int) - 8)).length) eg79.cap, Value.bool (eBad (xs.drop 8) false (((w2 xs 4 : Nat) : Int) - 8))] 126], eg79.g.seg 5 (mc b8 (eOut (xs.drop 8) (((w2 xs 4 : Nat) : Int) - 8))), ne14.g.seg 5 (mc b8 xs), [cb p6 [nV .u16 ((w2 xs 0) % 65536), nV .u16 ((w2 xs 2) % 65536), Value.bool (((w2 xs 6 : Nat) : Int) == 0), Value.slice none 0 0] 56]]) [0] [1, 2] rfl (fun _ => by kernel_rfl) (by decide) rfl rfl rfl (fun w_ hm_ hl_ => (bytesn_c (xs.drop 8) ev42.a (xs.length - 8) ev42.cap false ne14.b (((w2 xs 4 : Nat) : Int) - 8) _ (by first | rfl | (rw [List.length_take]; omega) | (rw [List.length_take, List.length_drop]; omega) | (simp [be_len, psh_len]; done) | (simp [be_len, psh_len]; omega)) hl_ (hv44 _ (hv36 _ (hv28 _ (hv22 _ (by rw [List.drop_zero]; exact (FS.at (i := 1) (t := 5) hm_ rfl (FS.nil_cs ok15 (mc_len1 _)))))))) (by first | omega | (simp; omega)) (by first | omega | (simp; omega)))) (fun _ => rfl)) (fun x84 => ?_)
          obtain ⟨eg79, ok80, hv81, hc82⟩ := x84
          refine Wl.castL (LL' := [[cb ne14.b [Value.slice eg79.a ((eRest (xs.drop 8) (((w2 xs 4 : Nat) : Int) - 8)).length) eg79.cap, Value.bool (eBad (xs.drop 8) false (((w2 xs 4 : Nat) : Int) - 8))] 126], eg79.g.seg 5 (mc b8 (eOut (xs.drop 8) (((w2 xs 4 : Nat) : Int) - 8))), ne14.g.seg 5 (mc b8 xs), [cb p6 [nV .u16 ((w2 xs 0) % 65536), nV .u16 ((w2 xs 2) % 65536), Value.bool (((w2 xs 6 : Nat) : Int) == 0), Value.slice none 0 0] 56]]) rfl ?_
          refine Wl.run 1 (by kernel_rfl) ?_
          refine Wl.ht rfl (Ht.store (b := p6) (o' := 3) (i := 3) (j := 0) (cs := [nV .u16 ((w2 xs 0) % 65536), nV .u16 ((w2 xs 2) % 65536), Value.bool (((w2 xs 6 : Nat) : Int) == 0), Value.slice none 0 0]) (cs' := [nV .u16 ((w2 xs 0) % 65536), nV .u16 ((w2 xs 2) % 65536), Value.bool (((w2 xs 6 : Nat) : Int) == 0), Value.slice eg79.g.a ((eOut (xs.drop 8) (((w2 xs 4 : Nat) : Int) - 8)).length) eg79.g.cap]) (v := Value.slice eg79.g.a ((eOut (xs.drop 8) (((w2 xs 4 : Nat) : Int) - 8)).length) eg79.g.cap) (LL' := [[cb ne14.b [Value.slice eg79.a ((eRest (xs.drop 8) (((w2 xs 4 : Nat) : Int) - 8)).length) eg79.cap, Value.bool (eBad (xs.drop 8) false (((w2 xs 4 : Nat) : Int) - 8))] 126], eg79.g.seg 5 (mc b8 (eOut (xs.drop 8) (((w2 xs 4 : Nat) : Int) - 8))), ne14.g.seg 5 (mc b8 xs), [cb p6 [nV .u16 ((w2 xs 0) % 65536), nV .u16 ((w2 xs 2) % 65536), Value.bool (((w2 xs 6 : Nat) : Int) == 0), Value.slice eg79.g.a ((eOut (xs.drop 8) (((w2 xs 4 : Nat) : Int) - 8)).length) eg79.g.cap] 56]]) rfl rfl (by kernel_rfl) (by kernel_rfl) Try.sizeOf25 rfl rfl rfl (by simp) rfl rfl) (fun _ => ?_)
          refine Wl.nil ?_
          refine hK78 _ _ _ ?_
          refine W.pick (LL' := [eg79.g.seg 5 (mc b8 (eOut (xs.drop 8) (((w2 xs 4 : Nat) : Int) - 8))), [cb p6 [nV .u16 ((w2 xs 0) % 65536), nV .u16 ((w2 xs 2) % 65536), Value.bool (((w2 xs 6 : Nat) : Int) == 0), Value.slice eg79.g.a ((eOut (xs.drop 8) (((w2 xs 4 : Nat) : Int) - 8)).length) eg79.g.cap] 56]]) [1, 3] (by decide) rfl ?_
          refine W.prune' [6] [Value.pointer (some ⟨p6, 0, none⟩)] (by kernel_rfl) (fun f85 => ?_)
          refine W.seq (fun K86 hK86 => ?_)
          refine W.region ?_
          refine Wl.ys (v := Value.agg ([nV .u16 ((w2 xs 0) % 65536), nV .u16 ((w2 xs 2) % 65536), Value.bool (((w2 xs 6 : Nat) : Int) == 0), Value.slice eg79.g.a ((eOut (xs.drop 8) (((w2 xs 4 : Nat) : Int) - 8)).length) eg79.g.cap]).toArray) rfl rfl (Ys.loadN (b := p6) (o' := 0) (i := 1) (j := 0) (cs := [nV .u16 ((w2 xs 0) % 65536), nV .u16 ((w2 xs 2) % 65536), Value.bool (((w2 xs 6 : Nat) : Int) == 0), Value.slice eg79.g.a ((eOut (xs.drop 8) (((w2 xs 4 : Nat) : Int) - 8)).length) eg79.g.cap]) (vs := [nV .u16 ((w2 xs 0) % 65536), nV .u16 ((w2 xs 2) % 65536), Value.bool (((w2 xs 6 : Nat) : Int) == 0), Value.slice eg79.g.a ((eOut (xs.drop 8) (((w2 xs 4 : Nat) : Int) - 8)).length) eg79.g.cap]) rfl (by kernel_rfl) Try.isAgg56 Try.sizeOf56 rfl rfl rfl rfl) ?_
          refine Wl.ht rfl (Ht.storeN (b := p6) (o' := 0) (i := 1) (j := 0) (cs := [nV .u16 ((w2 xs 0) % 65536), nV .u16 ((w2 xs 2) % 65536), Value.bool (((w2 xs 6 : Nat) : Int) == 0), Value.slice eg79.g.a ((eOut (xs.drop 8) (((w2 xs 4 : Nat) : Int) - 8)).length) eg79.g.cap]) (vs := [nV .u16 ((w2 xs 0) % 65536), nV .u16 ((w2 xs 2) % 65536), Value.bool (((w2 xs 6 : Nat) : Int) == 0), Value.slice eg79.g.a ((eOut (xs.drop 8) (((w2 xs 4 : Nat) : Int) - 8)).length) eg79.g.cap]) (cs' := [nV .u16 ((w2 xs 0) % 65536), nV .u16 ((w2 xs 2) % 65536), Value.bool (((w2 xs 6 : Nat) : Int) == 0), Value.slice eg79.g.a ((eOut (xs.drop 8) (((w2 xs 4 : Nat) : Int) - 8)).length) eg79.g.cap]) (LL' := [eg79.g.seg 5 (mc b8 (eOut (xs.drop 8) (((w2 xs 4 : Nat) : Int) - 8))), [cb p6 [nV .u16 ((w2 xs 0) % 65536), nV .u16 ((w2 xs 2) % 65536), Value.bool (((w2 xs 6 : Nat) : Int) == 0), Value.slice eg79.g.a ((eOut (xs.drop 8) (((w2 xs 4 : Nat) : Int) - 8)).length) eg79.g.cap] 56]]) rfl rfl (by kernel_rfl) (by kernel_rfl) Try.sizeOf56 (by simp [Value.oneCell']) rfl rfl (by simp) rfl rfl) (fun _ => ?_)
          refine Wl.run 1 (by kernel_rfl) ?_
          refine Wl.nil ?_
          refine hK86 _ _ _ ?_
          refine W.prune' [6, 7] [Value.pointer (some ⟨p6, 0, none⟩), Value.int .i64 0] (by kernel_rfl) (fun f87 => ?_)
          refine W.ret ?_
          have hlast : ¬ (w2 xs 6 ≠ 0 ∧ cks (psh s d 17 (w2 xs 4) ++ xs.take (w2 xs 4)) ≠ 0) := by have zh67 := h67; simp at zh67; have zh74 := h74; simp at zh74; omega
          have hR : uR s d xs = 0 := by unfold uR; rw [if_neg (by omega), if_neg (by omega), if_neg (by omega), if_neg hlast]
          have hG : ug s d xs = true := by unfold ug; rw [hR]; rfl
          have hD : uD s d xs = eOut (xs.drop 8) (((w2 xs 4 : Nat) : Int) - 8) := by unfold uD; rw [hG]; show (xs.drop 8).take (w2 xs 4 - 8) = _; rw [show ((w2 xs 4 : Nat) : Int) - 8 = ((w2 xs 4 - 8 : Nat) : Int) by omega, eOut_k (by omega)]
          have hDl : (uD s d xs).length = (eOut (xs.drop 8) (((w2 xs 4 : Nat) : Int) - 8)).length := by rw [hD]; try (rw [List.length_take, List.length_drop]; omega)
          show ∀ w_, _ → bodyPostM (fence none) 0 Try.prog Try.f23 _ Exit.ret _ w_
          exact fun w_ hS_ => fin_ret (ret2 rfl (RV.cellN (b := p6) (o' := 0) (i := 1) (j := 0) (cs := [nV .u16 ((w2 xs 0) % 65536), nV .u16 ((w2 xs 2) % 65536), Value.bool (((w2 xs 6 : Nat) : Int) == 0), Value.slice eg79.g.a ((eOut (xs.drop 8) (((w2 xs 4 : Nat) : Int) - 8)).length) eg79.g.cap]) (vs := [nV .u16 ((w2 xs 0) % 65536), nV .u16 ((w2 xs 2) % 65536), Value.bool (((w2 xs 6 : Nat) : Int) == 0), Value.slice eg79.g.a ((eOut (xs.drop 8) (((w2 xs 4 : Nat) : Int) - 8)).length) eg79.g.cap]) (by kernel_rfl) Try.isAgg56 Try.sizeOf56 rfl rfl rfl rfl) (RV.tmp (v := Value.int .i64 0) (by kernel_rfl)) hS_ ⟨eg79.g, (by rw [hDl]; exact ok80), congrArg Ending.returned ((by rw [hDl]; (try rw [p67]); simp only [uF, uP, hG, cond_true, Bool.true_and, hR, z60, Nat.mod_eq_of_lt (w2_lt xs _)]; try rfl)), (Mem.cast (by rw [hD]; rfl) (hS_.pick [0] (by decide) rfl))⟩)
      · have qh68 := h68; try simp only [Bool.and_eq_true, Bool.or_eq_true, Bool.not_eq_true', Bool.not_eq_false', Bool.and_eq_false_iff, Bool.or_eq_false_iff, decide_eq_true_eq, decide_eq_false_iff_not, beq_iff_eq, bne_iff_ne, beq_eq_false_iff_ne, bne_eq_false_iff_eq] at qh68
        refine Wd.at 47 (v0 := .bool false) (boolv (e := !(((w2 xs 6 : Nat) : Int) == 0)) (by kernel_rfl) h68) ?_
        refine Wd.at 48 (v0 := .bool false) (boolv (e := !(((w2 xs 6 : Nat) : Int) == 0)) (by kernel_rfl) h68) ?_
        refine Wd.skipc rfl (by kernel_rfl) rfl (.inr fun _ h_ => h_) ?_
        refine Wd.skipc rfl (by kernel_rfl) rfl (.inr fun _ h_ => h_) ?_
        refine Wd.skipc rfl (by kernel_rfl) rfl (.inr fun _ h_ => h_) ?_
        refine Wd.skipc rfl (by kernel_rfl) rfl (.inr fun _ h_ => h_) ?_
        refine Wd.yc (v := Value.bool false) rfl rfl rfl (Ys.yc (Ys.pure (fun _ => by kernel_rfl))) (.inr fun _ h_ => h_) ?_
        refine Wd.yc (v := Value.bool false) rfl rfl rfl (Ys.yc (Ys.pure (fun _ => by kernel_rfl))) (.inr fun _ h_ => h_) ?_
        refine Wd.nil ?_
        refine hK60 _ _ _ ?_
        refine W.prune' [6, 9, 10, 44] [Value.pointer (some ⟨p6, 0, none⟩), Value.pointer (some ⟨ne14.b, 0, none⟩), nV .i64 (w2 xs 4), Value.bool false] (by kernel_rfl) (fun f88 => ?_)
        refine W.condF (by kernel_rfl) ?_
        refine W.skip' ?_
        refine hK49 _ _ _ ?_
        refine W.prune' [6, 9, 10] [Value.pointer (some ⟨p6, 0, none⟩), Value.pointer (some ⟨ne14.b, 0, none⟩), nV .i64 (w2 xs 4)] (by kernel_rfl) (fun f89 => ?_)
        refine W.seq (fun K90 hK90 => ?_)
        refine W.region ?_
        refine Wl.run 2 (by kernel_rfl) ?_
        refine Wl.ys (v := Value.int .i64 (((w2 xs 4 : Nat) : Int) - 8)) rfl rfl ((Ys.pure (v := .int .i64 (isub .i64 ((w2 xs 4 : Nat) : Int) 8)) (fun _ => by kernel_rfl)).conseq (int_congr (isub_eq rfl (by omega) (by omega)))) ?_
        refine Wl.ht rfl (Ht.call (β := EG) (k := 49) (args := #[Value.pointer (some ⟨ne14.b, 0, none⟩), Value.int .i64 (((w2 xs 4 : Nat) : Int) - 8)]) (Lin := [[cb ne14.b [Value.slice ev42.a (xs.length - 8) ev42.cap, Value.bool false] 126]]) (Lk := [ne14.g.seg 5 (mc b8 xs), [cb p6 [nV .u16 ((w2 xs 0) % 65536), nV .u16 ((w2 xs 2) % 65536), Value.bool (((w2 xs 6 : Nat) : Int) == 0), Value.slice none 0 0] 56]]) (Mi := [ne14.b]) (Lo := fun eg91 => [[cb ne14.b [Value.slice eg91.a ((eRest (xs.drop 8) (((w2 xs 4 : Nat) : Int) - 8)).length) eg91.cap, Value.bool (eBad (xs.drop 8) false (((w2 xs 4 : Nat) : Int) - 8))] 126], eg91.g.seg 5 (mc b8 (eOut (xs.drop 8) (((w2 xs 4 : Nat) : Int) - 8))), ne14.g.seg 5 (mc b8 xs), [cb p6 [nV .u16 ((w2 xs 0) % 65536), nV .u16 ((w2 xs 2) % 65536), Value.bool (((w2 xs 6 : Nat) : Int) == 0), Value.slice none 0 0] 56]]) [0] [1, 2] rfl (fun _ => by kernel_rfl) (by decide) rfl rfl rfl (fun w_ hm_ hl_ => (bytesn_c (xs.drop 8) ev42.a (xs.length - 8) ev42.cap false ne14.b (((w2 xs 4 : Nat) : Int) - 8) _ (by first | rfl | (rw [List.length_take]; omega) | (rw [List.length_take, List.length_drop]; omega) | (simp [be_len, psh_len]; done) | (simp [be_len, psh_len]; omega)) hl_ (hv44 _ (hv36 _ (hv28 _ (hv22 _ (by rw [List.drop_zero]; exact (FS.at (i := 1) (t := 5) hm_ rfl (FS.nil_cs ok15 (mc_len1 _)))))))) (by first | omega | (simp; omega)) (by first | omega | (simp; omega)))) (fun _ => rfl)) (fun x96 => ?_)
        obtain ⟨eg91, ok92, hv93, hc94⟩ := x96
        refine Wl.castL (LL' := [[cb ne14.b [Value.slice eg91.a ((eRest (xs.drop 8) (((w2 xs 4 : Nat) : Int) - 8)).length) eg91.cap, Value.bool (eBad (xs.drop 8) false (((w2 xs 4 : Nat) : Int) - 8))] 126], eg91.g.seg 5 (mc b8 (eOut (xs.drop 8) (((w2 xs 4 : Nat) : Int) - 8))), ne14.g.seg 5 (mc b8 xs), [cb p6 [nV .u16 ((w2 xs 0) % 65536), nV .u16 ((w2 xs 2) % 65536), Value.bool (((w2 xs 6 : Nat) : Int) == 0), Value.slice none 0 0] 56]]) rfl ?_
        refine Wl.run 1 (by kernel_rfl) ?_
        refine Wl.ht rfl (Ht.store (b := p6) (o' := 3) (i := 3) (j := 0) (cs := [nV .u16 ((w2 xs 0) % 65536), nV .u16 ((w2 xs 2) % 65536), Value.bool (((w2 xs 6 : Nat) : Int) == 0), Value.slice none 0 0]) (cs' := [nV .u16 ((w2 xs 0) % 65536), nV .u16 ((w2 xs 2) % 65536), Value.bool (((w2 xs 6 : Nat) : Int) == 0), Value.slice eg91.g.a ((eOut (xs.drop 8) (((w2 xs 4 : Nat) : Int) - 8)).length) eg91.g.cap]) (v := Value.slice eg91.g.a ((eOut (xs.drop 8) (((w2 xs 4 : Nat) : Int) - 8)).length) eg91.g.cap) (LL' := [[cb ne14.b [Value.slice eg91.a ((eRest (xs.drop 8) (((w2 xs 4 : Nat) : Int) - 8)).length) eg91.cap, Value.bool (eBad (xs.drop 8) false (((w2 xs 4 : Nat) : Int) - 8))] 126], eg91.g.seg 5 (mc b8 (eOut (xs.drop 8) (((w2 xs 4 : Nat) : Int) - 8))), ne14.g.seg 5 (mc b8 xs), [cb p6 [nV .u16 ((w2 xs 0) % 65536), nV .u16 ((w2 xs 2) % 65536), Value.bool (((w2 xs 6 : Nat) : Int) == 0), Value.slice eg91.g.a ((eOut (xs.drop 8) (((w2 xs 4 : Nat) : Int) - 8)).length) eg91.g.cap] 56]]) rfl rfl (by kernel_rfl) (by kernel_rfl) Try.sizeOf25 rfl rfl rfl (by simp) rfl rfl) (fun _ => ?_)
        refine Wl.nil ?_
        refine hK90 _ _ _ ?_
        refine W.pick (LL' := [eg91.g.seg 5 (mc b8 (eOut (xs.drop 8) (((w2 xs 4 : Nat) : Int) - 8))), [cb p6 [nV .u16 ((w2 xs 0) % 65536), nV .u16 ((w2 xs 2) % 65536), Value.bool (((w2 xs 6 : Nat) : Int) == 0), Value.slice eg91.g.a ((eOut (xs.drop 8) (((w2 xs 4 : Nat) : Int) - 8)).length) eg91.g.cap] 56]]) [1, 3] (by decide) rfl ?_
        refine W.prune' [6] [Value.pointer (some ⟨p6, 0, none⟩)] (by kernel_rfl) (fun f97 => ?_)
        refine W.seq (fun K98 hK98 => ?_)
        refine W.region ?_
        refine Wl.ys (v := Value.agg ([nV .u16 ((w2 xs 0) % 65536), nV .u16 ((w2 xs 2) % 65536), Value.bool (((w2 xs 6 : Nat) : Int) == 0), Value.slice eg91.g.a ((eOut (xs.drop 8) (((w2 xs 4 : Nat) : Int) - 8)).length) eg91.g.cap]).toArray) rfl rfl (Ys.loadN (b := p6) (o' := 0) (i := 1) (j := 0) (cs := [nV .u16 ((w2 xs 0) % 65536), nV .u16 ((w2 xs 2) % 65536), Value.bool (((w2 xs 6 : Nat) : Int) == 0), Value.slice eg91.g.a ((eOut (xs.drop 8) (((w2 xs 4 : Nat) : Int) - 8)).length) eg91.g.cap]) (vs := [nV .u16 ((w2 xs 0) % 65536), nV .u16 ((w2 xs 2) % 65536), Value.bool (((w2 xs 6 : Nat) : Int) == 0), Value.slice eg91.g.a ((eOut (xs.drop 8) (((w2 xs 4 : Nat) : Int) - 8)).length) eg91.g.cap]) rfl (by kernel_rfl) Try.isAgg56 Try.sizeOf56 rfl rfl rfl rfl) ?_
        refine Wl.ht rfl (Ht.storeN (b := p6) (o' := 0) (i := 1) (j := 0) (cs := [nV .u16 ((w2 xs 0) % 65536), nV .u16 ((w2 xs 2) % 65536), Value.bool (((w2 xs 6 : Nat) : Int) == 0), Value.slice eg91.g.a ((eOut (xs.drop 8) (((w2 xs 4 : Nat) : Int) - 8)).length) eg91.g.cap]) (vs := [nV .u16 ((w2 xs 0) % 65536), nV .u16 ((w2 xs 2) % 65536), Value.bool (((w2 xs 6 : Nat) : Int) == 0), Value.slice eg91.g.a ((eOut (xs.drop 8) (((w2 xs 4 : Nat) : Int) - 8)).length) eg91.g.cap]) (cs' := [nV .u16 ((w2 xs 0) % 65536), nV .u16 ((w2 xs 2) % 65536), Value.bool (((w2 xs 6 : Nat) : Int) == 0), Value.slice eg91.g.a ((eOut (xs.drop 8) (((w2 xs 4 : Nat) : Int) - 8)).length) eg91.g.cap]) (LL' := [eg91.g.seg 5 (mc b8 (eOut (xs.drop 8) (((w2 xs 4 : Nat) : Int) - 8))), [cb p6 [nV .u16 ((w2 xs 0) % 65536), nV .u16 ((w2 xs 2) % 65536), Value.bool (((w2 xs 6 : Nat) : Int) == 0), Value.slice eg91.g.a ((eOut (xs.drop 8) (((w2 xs 4 : Nat) : Int) - 8)).length) eg91.g.cap] 56]]) rfl rfl (by kernel_rfl) (by kernel_rfl) Try.sizeOf56 (by simp [Value.oneCell']) rfl rfl (by simp) rfl rfl) (fun _ => ?_)
        refine Wl.run 1 (by kernel_rfl) ?_
        refine Wl.nil ?_
        refine hK98 _ _ _ ?_
        refine W.prune' [6, 7] [Value.pointer (some ⟨p6, 0, none⟩), Value.int .i64 0] (by kernel_rfl) (fun f99 => ?_)
        refine W.ret ?_
        have hlast : ¬ (w2 xs 6 ≠ 0 ∧ cks (psh s d 17 (w2 xs 4) ++ xs.take (w2 xs 4)) ≠ 0) := by have zh68 := h68; simp at zh68; omega
        have hR : uR s d xs = 0 := by unfold uR; rw [if_neg (by omega), if_neg (by omega), if_neg (by omega), if_neg hlast]
        have hG : ug s d xs = true := by unfold ug; rw [hR]; rfl
        have hD : uD s d xs = eOut (xs.drop 8) (((w2 xs 4 : Nat) : Int) - 8) := by unfold uD; rw [hG]; show (xs.drop 8).take (w2 xs 4 - 8) = _; rw [show ((w2 xs 4 : Nat) : Int) - 8 = ((w2 xs 4 - 8 : Nat) : Int) by omega, eOut_k (by omega)]
        have hDl : (uD s d xs).length = (eOut (xs.drop 8) (((w2 xs 4 : Nat) : Int) - 8)).length := by rw [hD]; try (rw [List.length_take, List.length_drop]; omega)
        show ∀ w_, _ → bodyPostM (fence none) 0 Try.prog Try.f23 _ Exit.ret _ w_
        exact fun w_ hS_ => fin_ret (ret2 rfl (RV.cellN (b := p6) (o' := 0) (i := 1) (j := 0) (cs := [nV .u16 ((w2 xs 0) % 65536), nV .u16 ((w2 xs 2) % 65536), Value.bool (((w2 xs 6 : Nat) : Int) == 0), Value.slice eg91.g.a ((eOut (xs.drop 8) (((w2 xs 4 : Nat) : Int) - 8)).length) eg91.g.cap]) (vs := [nV .u16 ((w2 xs 0) % 65536), nV .u16 ((w2 xs 2) % 65536), Value.bool (((w2 xs 6 : Nat) : Int) == 0), Value.slice eg91.g.a ((eOut (xs.drop 8) (((w2 xs 4 : Nat) : Int) - 8)).length) eg91.g.cap]) (by kernel_rfl) Try.isAgg56 Try.sizeOf56 rfl rfl rfl rfl) (RV.tmp (v := Value.int .i64 0) (by kernel_rfl)) hS_ ⟨eg91.g, (by rw [hDl]; exact ok92), congrArg Ending.returned ((by rw [hDl]; (try rw [p67]); simp only [uF, uP, hG, cond_true, Bool.true_and, hR, z60, Nat.mod_eq_of_lt (w2_lt xs _)]; try rfl)), (Mem.cast (by rw [hD]; rfl) (hS_.pick [0] (by decide) rfl))⟩)
end Go.Proofs.Ytejeafjkhomdoaa.Oct
