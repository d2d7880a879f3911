import Derived.Test.YtejeafjkhomdoaaKTr2
set_option linter.unusedVariables false
set_option linter.unusedSimpArgs false
set_option maxRecDepth 20000
namespace Go.Proofs.Ytejeafjkhomdoaa.Oct
open Go.RowKit Base
attribute [local irreducible] Ys Yc Ht HtS HtIn Wl Wd W Mem pf dpf Wa Wo
def w2 (xs : List UInt8) (k : Nat) : Nat := 256 * (xs.getD k 0).toNat + (xs.getD (k + 1) 0).toNat
theorem w2_lt (xs : List UInt8) (k : Nat) : w2 xs k < 65536 := by
  unfold w2; have := UInt8.toNat_lt (xs.getD k 0); have := UInt8.toNat_lt (xs.getD (k + 1) 0); omega
theorem bv_w2 {xs : List UInt8} {k : Nat} (h : k + 2 ≤ xs.length) : bv ((xs.drop k).take 2) = w2 xs k := by
  have e : (xs.drop k).take 2 = [xs.getD k 0, xs.getD (k + 1) 0] := by
    apply List.ext_getElem?
    intro j
    rcases j with _ | _ | j
    · simp [List.getElem?_take, List.getElem?_drop, List.getElem?_eq_getElem (show k < xs.length by omega)]
    · simp [List.getElem?_take, List.getElem?_drop, List.getElem?_eq_getElem (show k + 1 < xs.length by omega)]
    · simp; omega
  rw [e]; unfold w2; simp [bv]; omega
theorem numk2_c (X : List UInt8) (a : Option Addr) (len cap : Nat) (bad : Bool) (b j k : Nat) (w : World) (hl : Mem w [b] [[cb b [.slice a len cap, .bool bad] 126]] w) (hat : At w a (byc (X.drop j))) (hn : len = X.length - j) (hjk : j + k ≤ X.length) (hcap : len ≤ cap) (hy : X.length ≤ 70368744177664) (hk8 : k ≤ 8) (h2 : k = 2 := by rfl) :
    Calls Try.prog 46 #[.pointer (some ⟨b, 0, none⟩), .int .i64 (k : Int)] w (RetM w (fun x : EV => View x.a (X.drop (j + k)) a (X.drop j) ∧ X.length - (j + k) ≤ x.cap) (fun x => .int .u64 (w2 X j : Int)) [b] (fun x => [[cb b [.slice x.a (X.length - (j + k)) x.cap, .bool bad] 126]])) := by
  have h := numk_c X a len cap bad b j k w hl hat hn hjk hcap hy hk8
  subst h2
  rw [bv_w2 hjk] at h
  exact h
theorem bnd_ok {n k : Nat} (h : (bnd n k != 0) = false) : k ≤ n ∧ n ≤ 1480 := by
  unfold bnd at h
  split at h
  · cases h
  · split at h
    · cases h
    · omega
def uR (s d : Nat) (xs : List UInt8) : Int := if xs.length < 8 then 10 else if 1480 < xs.length then 14 else if w2 xs 4 < 8 ∨ xs.length < w2 xs 4 then 11 else if w2 xs 6 ≠ 0 ∧ cks (psh s d 17 (w2 xs 4) ++ xs.take (w2 xs 4)) ≠ 0 then 12 else 0
def ug (s d : Nat) (xs : List UInt8) : Bool := decide (uR s d xs = 0)
def uF (s d : Nat) (xs : List UInt8) (k : Nat) : Nat := bif ug s d xs then w2 xs k else 0
def uP (s d : Nat) (xs : List UInt8) : Bool := ug s d xs && decide (w2 xs 6 = 0)
def uD (s d : Nat) (xs : List UInt8) : List UInt8 := bif ug s d xs then (xs.drop 8).take (w2 xs 4 - 8) else []
theorem uR_bnd {s d : Nat} {xs : List UInt8} (h : (bnd xs.length 8 != 0) = true) : uR s d xs = bnd xs.length 8 := by
  unfold uR bnd at *
  split
  · rfl
  · split
    · rfl
    · rename_i h1 h2; rw [if_neg h1, if_neg h2] at h; cases h
theorem p67 (xs : List UInt8) : ((((xs.getD 6 0).toNat : Nat) : Int) == 0 && ((xs.getD 7 0).toNat : Int) == 0) = decide (w2 xs 6 = 0) := by
  rw [Bool.eq_iff_iff, Bool.and_eq_true, beq_iff_eq, beq_iff_eq, decide_eq_true_eq]
  show _ ↔ 256 * (xs.getD 6 0).toNat + (xs.getD 7 0).toNat = 0
  omega
theorem z60 (n : Nat) : (((n : Nat) : Int) == 0) = decide (n = 0) := by by_cases h : n = 0 <;> simp [h]
abbrev cTr3_1030_0 (p6 : Nat) (xs : List UInt8) : List Blk := [cb p6 [nV .u16 ((w2 xs 0) % 65536), nV .u16 ((w2 xs 2) % 65536), bV (((w2 xs 6 : Nat) : Int) == 0), Value.slice none 0 0] 56]
abbrev cTr3_1030_1 (p6 : Nat) : List Blk := [cb p6 zl5 56]
abbrev cTr3_1030_2 (p6 : Nat) (xs : List UInt8) : List Blk := [cb p6 [nV .u16 ((w2 xs 0) % 65536), nV .u16 ((w2 xs 2) % 65536), bV false, Value.slice none 0 0] 56]
set_option maxHeartbeats 1000000 in
theorem rudp_c (s d : Nat) (xs : List UInt8) (a : Option Addr) (cap : Nat) (w : World) (hat : At w a (byc xs)) (hs : s < 4294967296) (hd : d < 4294967296) (hl : xs.length ≤ 100000) (hlc : xs.length ≤ cap) : Calls Try.prog 23 #[nV .u32 s, nV .u32 d, Value.slice a xs.length cap] w (RetM w (fun g : FS => g.ok 1 (uD s d xs).length) (fun g => .tuple #[.agg [.int .u16 ((uF s d xs 0 : Nat) : Int), .int .u16 ((uF s d xs 2 : Nat) : Int), .bool (uP s d xs), .slice g.a (uD s d xs).length g.cap].toArray, .int .i64 (uR s d xs)]) [] (fun g => [g.seg 5 (byc (uD s d xs))])) := by
 have hw4 := w2_lt xs 4; have hw6 := w2_lt xs 6
 refine calls_W (M := []) (LL := []) (n := 67) Try.func23 rfl rfl ma10 (Mem.refl _) (W.seq (fun K1 hK1 => ?_))
 refine W.region (Wl.ht rfl (Ht.alloc (z := aV zl5) (cs := zl5) rfl rfl Try.zeroValue56 rfl) (fun p6 => ?_))
 refine Wl.run 1 ma0 (Wl.nil (hK1 _ _ _ (W.seq (fun K2 hK2 => W.seq (fun K3 hK3 => ?_)))))
 refine W.region (Wl.run 1 ma0 (Wl.yc (v := iV .i64 (bnd xs.length 8)) rfl rfl (Yc.call (fun _ => kr) (fun w_ hm_ => bounds_c a xs.length cap 8 _ ma1 ma1)) (Wl.run 1 ma0 (Wl.nil ?_))))
 refine hK3 _ _ _ (W.seq (fun K4 hK4 => ?_))
 refine W.region (Wl.run 2 ma0 (Wl.nil (hK4 _ _ _ ?_)))
 refine W.cond ((bnd xs.length 8) != 0) ma0 (fun h5 => ?_) (fun h6 => ?_)
 ·have qh5 := h5; try simp only [zA] at qh5
  refine W.seq (fun K7 hK7 => W.region (Wl.ys rfl rfl (Ys.loadN (b := p6) (o' := 0) (i := 0) (j := 0) (vs := zl5) rfl ma0 Try.isAgg56 Try.sizeOf56 rfl rfl rfl rfl) (Wl.run 1 ma0 (Wl.ht rfl (Ht.storeN (b := p6) (o' := 0) (i := 0) (j := 0) (vs := zl5) (LL' := [cTr3_1030_1 p6]) rfl rfl ma0 ma0 Try.sizeOf56 ma9 rfl rfl ma10 rfl rfl) (fun _ => ?_)))))
  refine Wl.run 1 ma0 (Wl.nil (hK7 _ _ _ (W.prune' [6, 7] [pV p6 0, iV .i64 (bnd xs.length 8)] ma0 (fun f8 => W.ret ?_))))
  have hR : uR s d xs = bnd xs.length 8 := uR_bnd h5
  have hG : ug s d xs = false := by unfold ug; rw [hR]; exact decide_eq_false (by simpa using h5)
  have hD : uD s d xs = [] := by unfold uD; rw [hG]; rfl
  show ∀ w_, _ → bodyPostM (fence none) 0 Try.prog Try.f23 _ Exit.ret _ w_
  exact fun w_ hS_ => fin_ret (ret2 rfl (RV.cellN (b := p6) (o' := 0) (i := 0) (j := 0) (cs := zl5) (vs := zl5) ma0 Try.isAgg56 Try.sizeOf56 rfl rfl rfl rfl) (RV.tmp (v := iV .i64 (bnd xs.length 8)) ma0) hS_ ⟨FS.nul, (by rw [hD]; exact FS.nul_ok 1), congrArg Ending.returned ((by simp only [uF, uP, hG, cond_false, Bool.false_and, hR, hD]; rfl)), (Mem.cast (by rw [hD]; rfl) (Mem.push (hS_.pick [] ma2 rfl)))⟩)
 ·have qh6 := h6; try simp only [zA] at qh6
  refine W.skip' (hK2 _ _ _ (W.seq (fun K9 hK9 => ?_)))
  have hb_ := bnd_ok h6
  refine W.region (Wl.run 1 ma0 (Wl.htS rfl (HtS.call (β := NE) (k := 45) (args := #[Value.slice a xs.length cap]) (Lin := []) (Lk := [cTr3_1030_1 p6]) (Mi := []) (Lo := fun ne10 => [[cb ne10.b [Value.slice ne10.g.a xs.length ne10.g.cap, bV false] 126], ne10.g.seg 5 (mc b8 xs), cTr3_1030_1 p6]) [] [0] rfl (fun _ => kr) ma2 rfl rfl rfl (fun w_ hm_ hl_ => (neweyen_c xs a xs.length cap _ rfl (hat.mem0 hm_) ma8)) (fun _ => rfl)) (fun ne10 ok11 => Wl.run 1 ma0 (Wl.nil ?_))))
  refine hK9 _ _ _ (W.seq (fun K14 hK14 => ?_))
  refine W.region (Wl.run 1 ma0 (Wl.htS rfl (HtS.call (β := EV) (k := 46) (args := #[Value.pointer (some ⟨ne10.b, 0, none⟩), iV .i64 2]) (Lin := [[cb ne10.b [Value.slice ne10.g.a xs.length ne10.g.cap, bV false] 126]]) (Lk := [ne10.g.seg 5 (mc b8 xs), cTr3_1030_1 p6]) (Mi := [ne10.b]) (Lo := fun ev15 => [[cb ne10.b [Value.slice ev15.a (xs.length - 2) ev15.cap, bV false] 126], ne10.g.seg 5 (mc b8 xs), cTr3_1030_1 p6]) [0] [1, 2] rfl (fun _ => kr) ma2 rfl rfl rfl (fun w_ hm_ hl_ => (numk2_c xs ne10.g.a xs.length ne10.g.cap false ne10.b 0 2 _ hl_ (by rw [List.drop_zero]; exact (FS.at (i := 1) (t := 5) hm_ rfl (FS.nil_cs ok11 (mc_len1 _)))) ma22 ma1 (ok11.le) ma1 ma2)) (fun _ => rfl)) (fun ev15 hx21 => ?_)))
  obtain ⟨hv17, hc18⟩ := hx21
  refine Wl.ys (v := nV .u16 ((w2 xs 0) % 65536)) rfl rfl ((Ys.pure (v := .int .u16 (icnv .u16 ((w2 xs 0 : Nat) : Int))) (fun _ => kr)).conseq (int_congr (icnv_mod rfl _))) (Wl.run 1 ma0 (Wl.htS rfl (HtS.call (β := EV) (k := 46) (args := #[Value.pointer (some ⟨ne10.b, 0, none⟩), iV .i64 2]) (Lin := [[cb ne10.b [Value.slice ev15.a (xs.length - 2) ev15.cap, bV false] 126]]) (Lk := [ne10.g.seg 5 (mc b8 xs), cTr3_1030_1 p6]) (Mi := [ne10.b]) (Lo := fun ev22 => [[cb ne10.b [Value.slice ev22.a (xs.length - 4) ev22.cap, bV false] 126], ne10.g.seg 5 (mc b8 xs), cTr3_1030_1 p6]) [0] [1, 2] rfl (fun _ => kr) ma2 rfl rfl rfl (fun w_ hm_ hl_ => (numk2_c xs ev15.a (xs.length - 2) ev15.cap false ne10.b 2 2 _ hl_ (hv17 _ (by rw [List.drop_zero]; exact (FS.at (i := 1) (t := 5) hm_ rfl (FS.nil_cs ok11 (mc_len1 _))))) ma22 ma1 ma1 ma1 ma2)) (fun _ => rfl)) (fun ev22 hx28 => ?_)))
  obtain ⟨hv24, hc25⟩ := hx28
  refine Wl.ys (v := nV .u16 ((w2 xs 2) % 65536)) rfl rfl ((Ys.pure (v := .int .u16 (icnv .u16 ((w2 xs 2 : Nat) : Int))) (fun _ => kr)).conseq (int_congr (icnv_mod rfl _))) (Wl.run 1 ma0 (Wl.ht rfl (Ht.store (b := p6) (o' := 0) (i := 2) (j := 0) (v := nV .u16 ((w2 xs 0) % 65536)) (LL' := [[cb ne10.b [Value.slice ev22.a (xs.length - 4) ev22.cap, bV false] 126], ne10.g.seg 5 (mc b8 xs), [cb p6 [nV .u16 ((w2 xs 0) % 65536), iV .u16 0, bV false, Value.slice none 0 0] 56]]) rfl rfl ma0 ma0 Try.sizeOf22 rfl rfl rfl ma10 rfl rfl) (fun _ => Wl.run 1 ma0 (Wl.ht rfl (Ht.store (b := p6) (o' := 1) (i := 2) (j := 0) (v := nV .u16 ((w2 xs 2) % 65536)) (LL' := [[cb ne10.b [Value.slice ev22.a (xs.length - 4) ev22.cap, bV false] 126], ne10.g.seg 5 (mc b8 xs), cTr3_1030_2 p6 xs]) rfl rfl ma0 ma0 Try.sizeOf22 rfl rfl rfl ma10 rfl rfl) (fun _ => ?_)))))
  refine Wl.nil (hK14 _ _ _ (W.prune' [0, 1, 2, 6, 9] [nV .u32 s, nV .u32 d, Value.slice a xs.length cap, pV p6 0, Value.pointer (some ⟨ne10.b, 0, none⟩)] ma0 (fun f29 => W.seq (fun K30 hK30 => W.region ?_))))
  refine Wl.run 1 ma0 (Wl.htS rfl (HtS.call (β := EV) (k := 46) (args := #[Value.pointer (some ⟨ne10.b, 0, none⟩), iV .i64 2]) (Lin := [[cb ne10.b [Value.slice ev22.a (xs.length - 4) ev22.cap, bV false] 126]]) (Lk := [ne10.g.seg 5 (mc b8 xs), cTr3_1030_2 p6 xs]) (Mi := [ne10.b]) (Lo := fun ev31 => [[cb ne10.b [Value.slice ev31.a (xs.length - 6) ev31.cap, bV false] 126], ne10.g.seg 5 (mc b8 xs), cTr3_1030_2 p6 xs]) [0] [1, 2] rfl (fun _ => kr) ma2 rfl rfl rfl (fun w_ hm_ hl_ => (numk2_c xs ev22.a (xs.length - 4) ev22.cap false ne10.b 4 2 _ hl_ (hv24 _ (hv17 _ (by rw [List.drop_zero]; exact (FS.at (i := 1) (t := 5) hm_ rfl (FS.nil_cs ok11 (mc_len1 _)))))) ma22 ma1 ma1 ma1 ma2)) (fun _ => rfl)) (fun ev31 hx37 => ?_))
  obtain ⟨hv33, hc34⟩ := hx37
  refine Wl.ys (v := nV .i64 (w2 xs 4)) rfl rfl ((Ys.pure (v := .int .i64 (icnv .i64 ((w2 xs 4 : Nat) : Int))) (fun _ => kr)).conseq (int_congr (wrap_i64 ma1 ma1))) (Wl.run 1 ma0 (Wl.nil (hK30 _ _ _ (W.seq (fun K38 hK38 => ?_)))))
  refine W.region (Wl.run 1 ma0 (Wl.htS rfl (HtS.call (β := EV) (k := 46) (args := #[Value.pointer (some ⟨ne10.b, 0, none⟩), iV .i64 2]) (Lin := [[cb ne10.b [Value.slice ev31.a (xs.length - 6) ev31.cap, bV false] 126]]) (Lk := [ne10.g.seg 5 (mc b8 xs), cTr3_1030_2 p6 xs]) (Mi := [ne10.b]) (Lo := fun ev39 => [[cb ne10.b [Value.slice ev39.a (xs.length - 8) ev39.cap, bV false] 126], ne10.g.seg 5 (mc b8 xs), cTr3_1030_2 p6 xs]) [0] [1, 2] rfl (fun _ => kr) ma2 rfl rfl rfl (fun w_ hm_ hl_ => (numk2_c xs ev31.a (xs.length - 6) ev31.cap false ne10.b 6 2 _ hl_ (hv33 _ (hv24 _ (hv17 _ (by rw [List.drop_zero]; exact (FS.at (i := 1) (t := 5) hm_ rfl (FS.nil_cs ok11 (mc_len1 _))))))) ma22 ma1 ma1 ma1 ma2)) (fun _ => rfl)) (fun ev39 hx45 => ?_)))
  obtain ⟨hv41, hc42⟩ := hx45
  refine Wl.run 2 ma0 (Wl.ht rfl (Ht.store (b := p6) (o' := 2) (i := 2) (j := 0) (v := bV (((w2 xs 6 : Nat) : Int) == 0)) (LL' := [[cb ne10.b [Value.slice ev39.a (xs.length - 8) ev39.cap, bV false] 126], ne10.g.seg 5 (mc b8 xs), cTr3_1030_0 p6 xs]) rfl rfl ma0 ma0 Try.sizeOf4 rfl rfl rfl ma10 rfl rfl) (fun _ => ?_))
  refine Wl.nil (hK38 _ _ _ (W.seq (fun K46 hK46 => W.block (W.seq (fun K47 hK47 => ?_)))))
  refine W.region (Wl.run 3 ma0 ?_)
  refine Wl.guard (v := nV .i64 (w2 xs 4)) (!(decide (((w2 xs 4 : Nat) : Int) < 8))) rfl (wantF rfl ma0) rfl (fun hg48 => ?_) ?_
  ·exact Ys.pure (fun _ => kr)
  refine Wl.guard (v := Value.slice a xs.length cap) (!(decide (((w2 xs 4 : Nat) : Int) < 8))) rfl (wantF rfl ma0) rfl (fun hg49 => ?_) ?_
  ·exact Ys.pure (fun _ => kr)
  refine Wl.guard (v := nV .i64 xs.length) (!(decide (((w2 xs 4 : Nat) : Int) < 8))) rfl (wantF rfl ma0) rfl (fun hg50 => ?_) ?_
  ·have qhg50 := hg50; try simp only [zA] at qhg50
   refine Ys.at (t := 39) (v0 := Value.slice a xs.length cap) (lz (g := !(decide (((w2 xs 4 : Nat) : Int) < 8))) (u := undef) hg50 ma0) ?_
   exact Ys.pure (fun _ => kr)
  refine Wl.guard (v := bV (decide (((w2 xs 4 : Nat) : Int) > (xs.length : Int)))) (!(decide (((w2 xs 4 : Nat) : Int) < 8))) rfl (wantF rfl ma0) rfl (fun hg51 => ?_) ?_
  ·have qhg51 := hg51; try simp only [zA] at qhg51
   refine Ys.at (t := 38) (v0 := nV .i64 (w2 xs 4)) (lz (g := !(decide (((w2 xs 4 : Nat) : Int) < 8))) (u := undef) hg51 ma0) (Ys.at (t := 40) (v0 := nV .i64 xs.length) (lz (g := !(decide (((w2 xs 4 : Nat) : Int) < 8))) (u := undef) hg51 ma0) ?_)
   exact Ys.pure (fun _ => kr)
  refine Wl.ys (v := bV ((decide (((w2 xs 4 : Nat) : Int) < 8)) || (decide (((w2 xs 4 : Nat) : Int) > (xs.length : Int))))) rfl rfl (Ys.or' (e := decide (((w2 xs 4 : Nat) : Int) < 8)) (b := decide (((w2 xs 4 : Nat) : Int) > (xs.length : Int))) rfl ma0 ma0 ma0) (Wl.run 1 ma0 (Wl.nil (hK47 _ _ _ (W.prune' [0, 1, 2, 6, 9, 10, 34] [nV .u32 s, nV .u32 d, Value.slice a xs.length cap, pV p6 0, Value.pointer (some ⟨ne10.b, 0, none⟩), nV .i64 (w2 xs 4), bV ((decide (((w2 xs 4 : Nat) : Int) < 8)) || (decide (((w2 xs 4 : Nat) : Int) > (xs.length : Int))))] ma0 (fun f52 => ?_)))))
  refine W.cond ((decide (((w2 xs 4 : Nat) : Int) < 8)) || (decide (((w2 xs 4 : Nat) : Int) > (xs.length : Int)))) ma0 (fun h53 => ?_) (fun h54 => ?_)
  ·have qh53 := h53; try simp only [zA] at qh53
   refine W.seq (fun K55 hK55 => W.region (Wl.run 1 ma0 (Wl.ht rfl (Ht.storeN (b := p6) (o' := 0) (i := 2) (j := 0) (vs := zl5) (LL' := [[cb ne10.b [Value.slice ev39.a (xs.length - 8) ev39.cap, bV false] 126], ne10.g.seg 5 (mc b8 xs), cTr3_1030_1 p6]) rfl rfl ma0 ma0 Try.sizeOf56 ma9 rfl rfl ma10 rfl rfl) (fun _ => Wl.run 1 ma0 ?_))))
   refine Wl.nil (hK55 _ _ _ (W.ret ?_))
   have hR : uR s d xs = 11 := by unfold uR; rw [if_neg ma1, if_neg ma1, if_pos ma1]
   have hG : ug s d xs = false := by unfold ug; rw [hR]; rfl
   have hD : uD s d xs = [] := by unfold uD; rw [hG]; rfl
   show ∀ w_, _ → bodyPostM (fence none) 0 Try.prog Try.f23 _ Exit.ret _ w_
   exact fun w_ hS_ => fin_ret (ret2 rfl (RV.cellN (b := p6) (o' := 0) (i := 2) (j := 0) (cs := zl5) (vs := zl5) ma0 Try.isAgg56 Try.sizeOf56 rfl rfl rfl rfl) (RV.tmp (v := iV .i64 11) ma0) hS_ ⟨FS.nul, (by rw [hD]; exact FS.nul_ok 1), congrArg Ending.returned ((by simp only [uF, uP, hG, cond_false, Bool.false_and, hR, hD]; rfl)), (Mem.cast (by rw [hD]; rfl) (Mem.push (hS_.pick [] ma2 rfl)))⟩)
  ·have qh54 := h54; try simp only [zA] at qh54
   refine W.seq (fun K56 hK56 => W.draws [(0, false), (1, false), (2, false), (3, false), (4, true), (5, true), (6, true), (8, true), (9, true), (10, true), (7, false), (11, false), (12, false), (13, false), (14, false), (15, false)] [4, 5, 6, 8, 9, 10] (Mem w [] [[cb ne10.b [Value.slice ev39.a (xs.length - 8) ev39.cap, bV false] 126], ne10.g.seg 5 (mc b8 xs), cTr3_1030_0 p6 xs]) ma0 ma0 ma0 rfl ma0 (fun _ _ h_ => h_.drawn _) (fun _ h_ => h_) (Wd.yc (v := pV p6 2) rfl rfl rfl (Ys.yc (Ys.pure (fun _ => kr))) (.inr fun _ h_ => h_) (Wd.yc (v := bV (((w2 xs 6 : Nat) : Int) == 0)) rfl rfl rfl (Ys.yc (Ys.l1 p6 2 2 0 Try.isAgg4)) (.inr fun _ h_ => h_) (Wd.yc (v := bV (!(((w2 xs 6 : Nat) : Int) == 0))) rfl rfl rfl (Ys.yc (Ys.pure (fun _ => kr))) (.inr fun _ h_ => h_) ?_))))
   refine Wd.yc (v := bV (!(((w2 xs 6 : Nat) : Int) == 0))) rfl rfl rfl (Ys.yc (Ys.pure (fun _ => kr))) (.inr fun _ h_ => h_) ?_
   refine Wd.guard (v := nV .u32 s) (!(((w2 xs 6 : Nat) : Int) == 0)) rfl (wantT rfl ma0) rfl (fun hg57 => ?_) ?_
   ·exact Ys.pure (fun _ => kr)
   refine Wd.guard (v := nV .u32 d) (!(((w2 xs 6 : Nat) : Int) == 0)) rfl (wantT rfl ma0) rfl (fun hg58 => ?_) ?_
   ·exact Ys.pure (fun _ => kr)
   refine Wd.guard (v := nV .i64 (w2 xs 4)) (!(((w2 xs 6 : Nat) : Int) == 0)) rfl (wantT rfl ma0) rfl (fun hg59 => ?_) ?_
   ·exact Ys.pure (fun _ => kr)
   refine Wd.guard (v := Value.slice a xs.length cap) (!(((w2 xs 6 : Nat) : Int) == 0)) rfl (wantT rfl ma0) rfl (fun hg60 => ?_) ?_
   ·exact Ys.pure (fun _ => kr)
   refine Wd.guard (v := nV .i64 (w2 xs 4)) (!(((w2 xs 6 : Nat) : Int) == 0)) rfl (wantT rfl ma0) rfl (fun hg61 => ?_) ?_
   ·exact Ys.pure (fun _ => kr)
   refine Wd.guard (v := Value.slice a (w2 xs 4) cap) (!(((w2 xs 6 : Nat) : Int) == 0)) rfl (wantT rfl ma0) rfl (fun hg62 => ?_) ?_
   ·have qhg62 := hg62; try simp only [zA] at qhg62
    refine Ys.at (t := 53) (v0 := Value.slice a xs.length cap) (lz (g := !(((w2 xs 6 : Nat) : Int) == 0)) (u := undef) hg62 ma0) (Ys.at (t := 54) (v0 := nV .i64 (w2 xs 4)) (lz (g := !(((w2 xs 6 : Nat) : Int) == 0)) (u := undef) hg62 ma0) ?_)
    exact Ys.sliceH (a := a) (len := xs.length) (cap := cap) (sz := 1) (k := .i64) (i := ((w2 xs 4 : Nat) : Int)) rfl ma0 ma0 Try.runUnderlying25 Try.sizeOf5 ma1 ma1
   refine Wd.split (!(((w2 xs 6 : Nat) : Int) == 0)) (fun h63 => ?_) (fun h64 => ?_)
   ·have qh63 := h63; try simp only [zA] at qh63
    refine Wd.at 47 (v0 := .bool true) (boolv (e := !(((w2 xs 6 : Nat) : Int) == 0)) ma0 h63) (Wd.at 48 (v0 := .bool true) (boolv (e := !(((w2 xs 6 : Nat) : Int) == 0)) ma0 h63) (Wd.at 49 (v0 := nV .u32 s) (lz (g := !(((w2 xs 6 : Nat) : Int) == 0)) (u := undef) h63 ma0) (Wd.at 50 (v0 := nV .u32 d) (lz (g := !(((w2 xs 6 : Nat) : Int) == 0)) (u := undef) h63 ma0) (Wd.at 51 (v0 := nV .i64 (w2 xs 4)) (lz (g := !(((w2 xs 6 : Nat) : Int) == 0)) (u := undef) h63 ma0) ?_))))
    refine Wd.at 53 (v0 := Value.slice a xs.length cap) (lz (g := !(((w2 xs 6 : Nat) : Int) == 0)) (u := undef) h63 ma0) (Wd.at 54 (v0 := nV .i64 (w2 xs 4)) (lz (g := !(((w2 xs 6 : Nat) : Int) == 0)) (u := undef) h63 ma0) (Wd.at 55 (v0 := Value.slice a (w2 xs 4) cap) (lz (g := !(((w2 xs 6 : Nat) : Int) == 0)) (u := undef) h63 ma0) (Wd.htwS rfl ma0 (HtS.call (β := FS) (k := 48) (args := #[nV .u32 s, nV .u32 d, iV .u8 17, nV .i64 (w2 xs 4)]) (Lin := []) (Lk := [[cb ne10.b [Value.slice ev39.a (xs.length - 8) ev39.cap, bV false] 126], ne10.g.seg 5 (mc b8 xs), cTr3_1030_0 p6 xs]) (Mi := []) (Lo := fun g65 => [g65.seg 5 (mc b8 (psh s d (17 : UInt8) (w2 xs 4))), [cb ne10.b [Value.slice ev39.a (xs.length - 8) ev39.cap, bV false] 126], ne10.g.seg 5 (mc b8 xs), cTr3_1030_0 p6 xs]) [] [0, 1, 2] rfl (fun _ => kr) ma2 rfl rfl rfl (fun w_ hm_ hl_ => (pseudo_c s d (17 : UInt8) (w2 xs 4) _ ma1 ma1 ma1)) (fun _ => rfl)) (.inr fun _ _ h_ => h_.pick [1, 2, 3] ma2 rfl) (fun g65 ok66 => Wd.htw rfl ma0 (Ht.made (mk := fun b_ => .slice (some ⟨b_, 0, none⟩) 2 2) (t := 25) (cs := [sV g65 12, Value.slice a (w2 xs 4) cap]) rfl (fun _ => kr)) (.inr fun _ _ h_ => h_.pick [2, 3, 4] ma2 rfl) (fun p56 => ?_)))))
    refine Wd.guardc (v := bV (((cks ((psh s d (17 : UInt8) (w2 xs 4)) ++ (xs.take (w2 xs 4))) : Nat) : Int) == 0)) (true) rfl ma0 rfl (fun _ => Yc.call (fun _ => kr) (fun w_ hm_ => (rightn_c [⟨g65.a, (psh s d (17 : UInt8) (w2 xs 4)), g65.cap⟩, ⟨a, (xs.take (w2 xs 4)), cap⟩] ((psh s d (17 : UInt8) (w2 xs 4)) ++ (xs.take (w2 xs 4))) (some ⟨p56, 0, none⟩) 2 2 (12 + (w2 xs 4)) _ rfl (by simp [jn]) (by simp [be_len, psh_len]; try omega) (by first | exact At.lit0 (i := 0) (j := 0) (t := 25) (b := p56) hm_ rfl rfl | (rw [show mc slv ([⟨g65.a, (psh s d (17 : UInt8) (w2 xs 4)), g65.cap⟩, ⟨a, (xs.take (w2 xs 4)), cap⟩] : List SV) = [sV g65 12, Value.slice a (w2 xs 4) cap] by (simp [mc, be_len, psh_len]; try omega)]; exact At.lit0 (i := 0) (j := 0) (t := 25) (b := p56) hm_ rfl rfl)) (List.forall_mem_cons.2 ⟨(FS.at (i := 1) (t := 5) hm_ rfl (FS.nil_cs ok66 (by rw [mc_len, psh_len]))), (List.forall_mem_cons.2 ⟨((hat.mem0 hm_).mtake (w2 xs 4)), (fun _ h => by cases h)⟩)⟩) ma28 ma10 ma10))) (.inr fun _ h_ => h_.pick [2, 3, 4] ma2 rfl) (Wd.guardc (v := bV (!(((cks ((psh s d (17 : UInt8) (w2 xs 4)) ++ (xs.take (w2 xs 4))) : Nat) : Int) == 0))) (true) rfl ma0 rfl (fun _ => Ys.yc (Ys.pure (fun _ => kr))) (.inr fun _ h_ => h_.pick [2, 3, 4] ma2 rfl) (Wd.yc (v := bV (!(((cks ((psh s d (17 : UInt8) (w2 xs 4)) ++ (xs.take (w2 xs 4))) : Nat) : Int) == 0))) rfl rfl rfl (Ys.yc (Ys.pure (fun _ => kr))) (.inr fun _ h_ => h_.pick [2, 3, 4] ma2 rfl) (Wd.yc (v := bV (!(((cks ((psh s d (17 : UInt8) (w2 xs 4)) ++ (xs.take (w2 xs 4))) : Nat) : Int) == 0))) rfl rfl rfl (Ys.yc (Ys.pure (fun _ => kr))) (.inr fun _ h_ => h_.pick [2, 3, 4] ma2 rfl) (Wd.nil ?_))))
    refine hK56 _ _ _ (W.pick (LL' := [[cb ne10.b [Value.slice ev39.a (xs.length - 8) ev39.cap, bV false] 126], ne10.g.seg 5 (mc b8 xs), cTr3_1030_0 p6 xs]) [2, 3, 4] ma2 rfl (W.prune' [6, 9, 10, 44] [pV p6 0, Value.pointer (some ⟨ne10.b, 0, none⟩), nV .i64 (w2 xs 4), bV (!(((cks ((psh s d (17 : UInt8) (w2 xs 4)) ++ (xs.take (w2 xs 4))) : Nat) : Int) == 0))] ma0 (fun f68 => ?_)))
    refine W.cond (!(((cks ((psh s d (17 : UInt8) (w2 xs 4)) ++ (xs.take (w2 xs 4))) : Nat) : Int) == 0)) ma0 (fun h69 => ?_) (fun h70 => ?_)
    ·have qh69 := h69; try simp only [zA] at qh69
     refine W.seq (fun K71 hK71 => W.region (Wl.run 1 ma0 (Wl.ht rfl (Ht.storeN (b := p6) (o' := 0) (i := 2) (j := 0) (vs := zl5) (LL' := [[cb ne10.b [Value.slice ev39.a (xs.length - 8) ev39.cap, bV false] 126], ne10.g.seg 5 (mc b8 xs), cTr3_1030_1 p6]) rfl rfl ma0 ma0 Try.sizeOf56 ma9 rfl rfl ma10 rfl rfl) (fun _ => Wl.run 1 ma0 ?_))))
     refine Wl.nil (hK71 _ _ _ (W.ret ?_))
     have hlast : (w2 xs 6 ≠ 0 ∧ cks (psh s d 17 (w2 xs 4) ++ xs.take (w2 xs 4)) ≠ 0) := by have zh63 := h63; simp at zh63; have zh69 := h69; simp at zh69; omega
     have hR : uR s d xs = 12 := by unfold uR; rw [if_neg ma1, if_neg ma1, if_neg ma1, if_pos hlast]
     have hG : ug s d xs = false := by unfold ug; rw [hR]; rfl
     have hD : uD s d xs = [] := by unfold uD; rw [hG]; rfl
     show ∀ w_, _ → bodyPostM (fence none) 0 Try.prog Try.f23 _ Exit.ret _ w_
     exact fun w_ hS_ => fin_ret (ret2 rfl (RV.cellN (b := p6) (o' := 0) (i := 2) (j := 0) (cs := zl5) (vs := zl5) ma0 Try.isAgg56 Try.sizeOf56 rfl rfl rfl rfl) (RV.tmp (v := iV .i64 12) ma0) hS_ ⟨FS.nul, (by rw [hD]; exact FS.nul_ok 1), congrArg Ending.returned ((by simp only [uF, uP, hG, cond_false, Bool.false_and, hR, hD]; rfl)), (Mem.cast (by rw [hD]; rfl) (Mem.push (hS_.pick [] ma2 rfl)))⟩)
    ·have qh70 := h70; try simp only [zA] at qh70
     refine W.skip' (hK46 _ _ _ (W.seq (fun K72 hK72 => W.region (Wl.run 2 ma0 ?_))))
     refine Wl.ys (v := iV .i64 (((w2 xs 4 : Nat) : Int) - 8)) rfl rfl ((Ys.pure (v := .int .i64 (isub .i64 ((w2 xs 4 : Nat) : Int) 8)) (fun _ => kr)).conseq (int_congr (isub_eq rfl ma1 ma1))) (Wl.htS rfl (HtS.call (β := EG) (k := 49) (args := #[Value.pointer (some ⟨ne10.b, 0, none⟩), iV .i64 (((w2 xs 4 : Nat) : Int) - 8)]) (Lin := [[cb ne10.b [Value.slice ev39.a (xs.length - 8) ev39.cap, bV false] 126]]) (Lk := [ne10.g.seg 5 (mc b8 xs), cTr3_1030_0 p6 xs]) (Mi := [ne10.b]) (Lo := fun eg73 => [[cb ne10.b [Value.slice eg73.a ((eRest (xs.drop 8) (((w2 xs 4 : Nat) : Int) - 8)).length) eg73.cap, bV (eBad (xs.drop 8) false (((w2 xs 4 : Nat) : Int) - 8))] 126], eg73.g.seg 5 (mc b8 (eOut (xs.drop 8) (((w2 xs 4 : Nat) : Int) - 8))), ne10.g.seg 5 (mc b8 xs), cTr3_1030_0 p6 xs]) [0] [1, 2] rfl (fun _ => kr) ma2 rfl rfl rfl (fun w_ hm_ hl_ => (bytesn_c (xs.drop 8) ev39.a (xs.length - 8) ev39.cap false ne10.b (((w2 xs 4 : Nat) : Int) - 8) _ ma14 hl_ (hv41 _ (hv33 _ (hv24 _ (hv17 _ (by rw [List.drop_zero]; exact (FS.at (i := 1) (t := 5) hm_ rfl (FS.nil_cs ok11 (mc_len1 _)))))))) ma8 ma8)) (fun _ => rfl)) (fun eg73 hx79 => ?_))
     obtain ⟨ok74, hv75, hc76⟩ := hx79
     refine Wl.run 1 ma0 (Wl.ht rfl (Ht.store (b := p6) (o' := 3) (i := 3) (j := 0) (v := Value.slice eg73.g.a ((eOut (xs.drop 8) (((w2 xs 4 : Nat) : Int) - 8)).length) eg73.g.cap) (LL' := [[cb ne10.b [Value.slice eg73.a ((eRest (xs.drop 8) (((w2 xs 4 : Nat) : Int) - 8)).length) eg73.cap, bV (eBad (xs.drop 8) false (((w2 xs 4 : Nat) : Int) - 8))] 126], eg73.g.seg 5 (mc b8 (eOut (xs.drop 8) (((w2 xs 4 : Nat) : Int) - 8))), ne10.g.seg 5 (mc b8 xs), [cb p6 [nV .u16 ((w2 xs 0) % 65536), nV .u16 ((w2 xs 2) % 65536), bV (((w2 xs 6 : Nat) : Int) == 0), Value.slice eg73.g.a ((eOut (xs.drop 8) (((w2 xs 4 : Nat) : Int) - 8)).length) eg73.g.cap] 56]]) rfl rfl ma0 ma0 Try.sizeOf25 rfl rfl rfl ma10 rfl rfl) (fun _ => ?_))
     refine Wl.nil (hK72 _ _ _ (W.seq (fun K80 hK80 => W.region (Wl.ys rfl rfl (Ys.loadN (b := p6) (o' := 0) (i := 3) (j := 0) (vs := [nV .u16 ((w2 xs 0) % 65536), nV .u16 ((w2 xs 2) % 65536), bV (((w2 xs 6 : Nat) : Int) == 0), Value.slice eg73.g.a ((eOut (xs.drop 8) (((w2 xs 4 : Nat) : Int) - 8)).length) eg73.g.cap]) rfl ma0 Try.isAgg56 Try.sizeOf56 rfl rfl rfl rfl) ?_))))
     refine Wl.ht rfl (Ht.storeN (b := p6) (o' := 0) (i := 3) (j := 0) (vs := [nV .u16 ((w2 xs 0) % 65536), nV .u16 ((w2 xs 2) % 65536), bV (((w2 xs 6 : Nat) : Int) == 0), Value.slice eg73.g.a ((eOut (xs.drop 8) (((w2 xs 4 : Nat) : Int) - 8)).length) eg73.g.cap]) (LL' := [[cb ne10.b [Value.slice eg73.a ((eRest (xs.drop 8) (((w2 xs 4 : Nat) : Int) - 8)).length) eg73.cap, bV (eBad (xs.drop 8) false (((w2 xs 4 : Nat) : Int) - 8))] 126], eg73.g.seg 5 (mc b8 (eOut (xs.drop 8) (((w2 xs 4 : Nat) : Int) - 8))), ne10.g.seg 5 (mc b8 xs), [cb p6 [nV .u16 ((w2 xs 0) % 65536), nV .u16 ((w2 xs 2) % 65536), bV (((w2 xs 6 : Nat) : Int) == 0), Value.slice eg73.g.a ((eOut (xs.drop 8) (((w2 xs 4 : Nat) : Int) - 8)).length) eg73.g.cap] 56]]) rfl rfl ma0 ma0 Try.sizeOf56 ma9 rfl rfl ma10 rfl rfl) (fun _ => Wl.run 1 ma0 (Wl.nil (hK80 _ _ _ (W.ret ?_))))
     have hlast : ¬ (w2 xs 6 ≠ 0 ∧ cks (psh s d 17 (w2 xs 4) ++ xs.take (w2 xs 4)) ≠ 0) := by have zh63 := h63; simp at zh63; have zh70 := h70; simp at zh70; omega
     have hR : uR s d xs = 0 := by unfold uR; rw [if_neg ma1, if_neg ma1, if_neg ma1, if_neg hlast]
     have hG : ug s d xs = true := by unfold ug; rw [hR]; rfl
     have hD : uD s d xs = eOut (xs.drop 8) (((w2 xs 4 : Nat) : Int) - 8) := by unfold uD; rw [hG]; show (xs.drop 8).take (w2 xs 4 - 8) = _; rw [show ((w2 xs 4 : Nat) : Int) - 8 = ((w2 xs 4 - 8 : Nat) : Int) by omega, eOut_k ma1]
     have hDl : (uD s d xs).length = (eOut (xs.drop 8) (((w2 xs 4 : Nat) : Int) - 8)).length := by rw [hD]; try (rw [List.length_take, List.length_drop]; omega)
     show ∀ w_, _ → bodyPostM (fence none) 0 Try.prog Try.f23 _ Exit.ret _ w_
     exact fun w_ hS_ => fin_ret (ret2 rfl (RV.cellN (b := p6) (o' := 0) (i := 3) (j := 0) (cs := [nV .u16 ((w2 xs 0) % 65536), nV .u16 ((w2 xs 2) % 65536), bV (((w2 xs 6 : Nat) : Int) == 0), Value.slice eg73.g.a ((eOut (xs.drop 8) (((w2 xs 4 : Nat) : Int) - 8)).length) eg73.g.cap]) (vs := [nV .u16 ((w2 xs 0) % 65536), nV .u16 ((w2 xs 2) % 65536), bV (((w2 xs 6 : Nat) : Int) == 0), Value.slice eg73.g.a ((eOut (xs.drop 8) (((w2 xs 4 : Nat) : Int) - 8)).length) eg73.g.cap]) ma0 Try.isAgg56 Try.sizeOf56 rfl rfl rfl rfl) (RV.tmp (v := iV .i64 0) ma0) hS_ ⟨eg73.g, (by rw [hDl]; exact ok74), congrArg Ending.returned ((by rw [hDl]; (try rw [p67]); simp only [uF, uP, hG, cond_true, Bool.true_and, hR, z60, Nat.mod_eq_of_lt (w2_lt xs _)]; try rfl)), (Mem.cast (by rw [hD]; rfl) (hS_.pick [1] ma2 rfl))⟩)
   ·have qh64 := h64; try simp only [zA] at qh64
    refine Wd.at 47 (v0 := .bool false) (boolv (e := !(((w2 xs 6 : Nat) : Int) == 0)) ma0 h64) (Wd.at 48 (v0 := .bool false) (boolv (e := !(((w2 xs 6 : Nat) : Int) == 0)) ma0 h64) (Wd.skipc rfl ma0 rfl (.inr fun _ h_ => h_) (Wd.skipc rfl ma0 rfl (.inr fun _ h_ => h_) (Wd.skipc rfl ma0 rfl (.inr fun _ h_ => h_) ?_))))
    refine Wd.skipc rfl ma0 rfl (.inr fun _ h_ => h_) (Wd.yc (v := bV false) rfl rfl rfl (Ys.yc (Ys.pure (fun _ => kr))) (.inr fun _ h_ => h_) (Wd.yc (v := bV false) rfl rfl rfl (Ys.yc (Ys.pure (fun _ => kr))) (.inr fun _ h_ => h_) (Wd.nil (hK56 _ _ _ ?_))))
    refine W.prune' [6, 9, 10, 44] [pV p6 0, Value.pointer (some ⟨ne10.b, 0, none⟩), nV .i64 (w2 xs 4), bV false] ma0 (fun f81 => W.condF ma0 (W.skip' (hK46 _ _ _ (W.seq (fun K82 hK82 => ?_)))))
    refine W.region (Wl.run 2 ma0 (Wl.ys (v := iV .i64 (((w2 xs 4 : Nat) : Int) - 8)) rfl rfl ((Ys.pure (v := .int .i64 (isub .i64 ((w2 xs 4 : Nat) : Int) 8)) (fun _ => kr)).conseq (int_congr (isub_eq rfl ma1 ma1))) (Wl.htS rfl (HtS.call (β := EG) (k := 49) (args := #[Value.pointer (some ⟨ne10.b, 0, none⟩), iV .i64 (((w2 xs 4 : Nat) : Int) - 8)]) (Lin := [[cb ne10.b [Value.slice ev39.a (xs.length - 8) ev39.cap, bV false] 126]]) (Lk := [ne10.g.seg 5 (mc b8 xs), cTr3_1030_0 p6 xs]) (Mi := [ne10.b]) (Lo := fun eg83 => [[cb ne10.b [Value.slice eg83.a ((eRest (xs.drop 8) (((w2 xs 4 : Nat) : Int) - 8)).length) eg83.cap, bV (eBad (xs.drop 8) false (((w2 xs 4 : Nat) : Int) - 8))] 126], eg83.g.seg 5 (mc b8 (eOut (xs.drop 8) (((w2 xs 4 : Nat) : Int) - 8))), ne10.g.seg 5 (mc b8 xs), cTr3_1030_0 p6 xs]) [0] [1, 2] rfl (fun _ => kr) ma2 rfl rfl rfl (fun w_ hm_ hl_ => (bytesn_c (xs.drop 8) ev39.a (xs.length - 8) ev39.cap false ne10.b (((w2 xs 4 : Nat) : Int) - 8) _ ma14 hl_ (hv41 _ (hv33 _ (hv24 _ (hv17 _ (by rw [List.drop_zero]; exact (FS.at (i := 1) (t := 5) hm_ rfl (FS.nil_cs ok11 (mc_len1 _)))))))) ma8 ma8)) (fun _ => rfl)) (fun eg83 hx89 => ?_))))
    obtain ⟨ok84, hv85, hc86⟩ := hx89
    refine Wl.run 1 ma0 (Wl.ht rfl (Ht.store (b := p6) (o' := 3) (i := 3) (j := 0) (v := Value.slice eg83.g.a ((eOut (xs.drop 8) (((w2 xs 4 : Nat) : Int) - 8)).length) eg83.g.cap) (LL' := [[cb ne10.b [Value.slice eg83.a ((eRest (xs.drop 8) (((w2 xs 4 : Nat) : Int) - 8)).length) eg83.cap, bV (eBad (xs.drop 8) false (((w2 xs 4 : Nat) : Int) - 8))] 126], eg83.g.seg 5 (mc b8 (eOut (xs.drop 8) (((w2 xs 4 : Nat) : Int) - 8))), ne10.g.seg 5 (mc b8 xs), [cb p6 [nV .u16 ((w2 xs 0) % 65536), nV .u16 ((w2 xs 2) % 65536), bV (((w2 xs 6 : Nat) : Int) == 0), Value.slice eg83.g.a ((eOut (xs.drop 8) (((w2 xs 4 : Nat) : Int) - 8)).length) eg83.g.cap] 56]]) rfl rfl ma0 ma0 Try.sizeOf25 rfl rfl rfl ma10 rfl rfl) (fun _ => ?_))
    refine Wl.nil (hK82 _ _ _ (W.seq (fun K90 hK90 => W.region (Wl.ys rfl rfl (Ys.loadN (b := p6) (o' := 0) (i := 3) (j := 0) (vs := [nV .u16 ((w2 xs 0) % 65536), nV .u16 ((w2 xs 2) % 65536), bV (((w2 xs 6 : Nat) : Int) == 0), Value.slice eg83.g.a ((eOut (xs.drop 8) (((w2 xs 4 : Nat) : Int) - 8)).length) eg83.g.cap]) rfl ma0 Try.isAgg56 Try.sizeOf56 rfl rfl rfl rfl) ?_))))
    refine Wl.ht rfl (Ht.storeN (b := p6) (o' := 0) (i := 3) (j := 0) (vs := [nV .u16 ((w2 xs 0) % 65536), nV .u16 ((w2 xs 2) % 65536), bV (((w2 xs 6 : Nat) : Int) == 0), Value.slice eg83.g.a ((eOut (xs.drop 8) (((w2 xs 4 : Nat) : Int) - 8)).length) eg83.g.cap]) (LL' := [[cb ne10.b [Value.slice eg83.a ((eRest (xs.drop 8) (((w2 xs 4 : Nat) : Int) - 8)).length) eg83.cap, bV (eBad (xs.drop 8) false (((w2 xs 4 : Nat) : Int) - 8))] 126], eg83.g.seg 5 (mc b8 (eOut (xs.drop 8) (((w2 xs 4 : Nat) : Int) - 8))), ne10.g.seg 5 (mc b8 xs), [cb p6 [nV .u16 ((w2 xs 0) % 65536), nV .u16 ((w2 xs 2) % 65536), bV (((w2 xs 6 : Nat) : Int) == 0), Value.slice eg83.g.a ((eOut (xs.drop 8) (((w2 xs 4 : Nat) : Int) - 8)).length) eg83.g.cap] 56]]) rfl rfl ma0 ma0 Try.sizeOf56 ma9 rfl rfl ma10 rfl rfl) (fun _ => Wl.run 1 ma0 (Wl.nil (hK90 _ _ _ (W.ret ?_))))
    have hlast : ¬ (w2 xs 6 ≠ 0 ∧ cks (psh s d 17 (w2 xs 4) ++ xs.take (w2 xs 4)) ≠ 0) := by have zh64 := h64; simp at zh64; omega
    have hR : uR s d xs = 0 := by unfold uR; rw [if_neg ma1, if_neg ma1, if_neg ma1, if_neg hlast]
    have hG : ug s d xs = true := by unfold ug; rw [hR]; rfl
    have hD : uD s d xs = eOut (xs.drop 8) (((w2 xs 4 : Nat) : Int) - 8) := by unfold uD; rw [hG]; show (xs.drop 8).take (w2 xs 4 - 8) = _; rw [show ((w2 xs 4 : Nat) : Int) - 8 = ((w2 xs 4 - 8 : Nat) : Int) by omega, eOut_k ma1]
    have hDl : (uD s d xs).length = (eOut (xs.drop 8) (((w2 xs 4 : Nat) : Int) - 8)).length := by rw [hD]; try (rw [List.length_take, List.length_drop]; omega)
    show ∀ w_, _ → bodyPostM (fence none) 0 Try.prog Try.f23 _ Exit.ret _ w_
    exact fun w_ hS_ => fin_ret (ret2 rfl (RV.cellN (b := p6) (o' := 0) (i := 3) (j := 0) (cs := [nV .u16 ((w2 xs 0) % 65536), nV .u16 ((w2 xs 2) % 65536), bV (((w2 xs 6 : Nat) : Int) == 0), Value.slice eg83.g.a ((eOut (xs.drop 8) (((w2 xs 4 : Nat) : Int) - 8)).length) eg83.g.cap]) (vs := [nV .u16 ((w2 xs 0) % 65536), nV .u16 ((w2 xs 2) % 65536), bV (((w2 xs 6 : Nat) : Int) == 0), Value.slice eg83.g.a ((eOut (xs.drop 8) (((w2 xs 4 : Nat) : Int) - 8)).length) eg83.g.cap]) ma0 Try.isAgg56 Try.sizeOf56 rfl rfl rfl rfl) (RV.tmp (v := iV .i64 0) ma0) hS_ ⟨eg83.g, (by rw [hDl]; exact ok84), congrArg Ending.returned ((by rw [hDl]; (try rw [p67]); simp only [uF, uP, hG, cond_true, Bool.true_and, hR, z60, Nat.mod_eq_of_lt (w2_lt xs _)]; try rfl)), (Mem.cast (by rw [hD]; rfl) (hS_.pick [1] ma2 rfl))⟩)
end Go.Proofs.Ytejeafjkhomdoaa.Oct
