import Derived.Test.YtmonlaoaengfdaaGreatDoorM22
set_option linter.unusedVariables false
set_option linter.unusedSimpArgs false
set_option maxRecDepth 20000
namespace Go.Proofs.YtmonlaoaengfdaaGreatDoor.Oct
open Go.RowKit Base
attribute [local irreducible] Ys Yc Ht HtS HtIn Wl Wd W Mem pf dpf Wa Wo
def w2 (xs : List UInt8) (k : Nat) : Nat := 256 * (xs.getD k 0).toNat + (xs.getD (k + 1) 0).toNat
theorem w2_lt (xs : List UInt8) (k : Nat) : w2 xs k < 65536 := by
  unfold w2; have := UInt8.toNat_lt (xs.getD k 0); have := UInt8.toNat_lt (xs.getD (k + 1) 0); omega
theorem bv_w2 {xs : List UInt8} {k : Nat} (h : k + 2 ≤ xs.length) : bv ((xs.drop k).take 2) = w2 xs k := by
  have e : (xs.drop k).take 2 = [xs.getD k 0, xs.getD (k + 1) 0] := by
    apply List.ext_getElem?
    intro j
    rcases j with _ | _ | j
    · simp [List.getElem?_take, List.getElem?_drop, List.getElem?_eq_getElem (show k < xs.length by omega)]
    · simp [List.getElem?_take, List.getElem?_drop, List.getElem?_eq_getElem (show k + 1 < xs.length by omega)]
    · simp; omega
  rw [e]; unfold w2; simp [bv]; omega
theorem numk2_c (X : List UInt8) (a : Option Addr) (len cap : Nat) (bad : Bool) (b j k : Nat) (w : World) (hl : Mem w [b] [[cb b [.slice a len cap, .bool bad] 283]] w) (hat : At w a (byc (X.drop j))) (hn : len = X.length - j) (hjk : j + k ≤ X.length) (hcap : len ≤ cap) (hy : X.length ≤ 70368744177664) (hk8 : k ≤ 8) (h2 : k = 2 := by rfl) :
    Calls Tryz.prog 132 #[.pointer (some ⟨b, 0, none⟩), .int .i64 (k : Int)] w (RetM w (fun x : EV => View x.a (X.drop (j + k)) a (X.drop j) ∧ X.length - (j + k) ≤ x.cap) (fun x => .int .u64 (w2 X j : Int)) [b] (fun x => [[cb b [.slice x.a (X.length - (j + k)) x.cap, .bool bad] 283]])) := by
  have h := numk_c X a len cap bad b j k w hl hat hn hjk hcap hy hk8
  subst h2
  rw [bv_w2 hjk] at h
  exact h
theorem bnd_ok {n k : Nat} (h : (bnd n k != 0) = false) : k ≤ n ∧ n ≤ 1480 := by
  unfold bnd at h
  split at h
  · cases h
  · split at h
    · cases h
    · omega
def uR (s d : Nat) (xs : List UInt8) : Int := if xs.length < 8 then 10 else if 1480 < xs.length then 14 else if w2 xs 4 < 8 ∨ xs.length < w2 xs 4 then 11 else if w2 xs 6 ≠ 0 ∧ cks (psh s d 17 (w2 xs 4) ++ xs.take (w2 xs 4)) ≠ 0 then 12 else 0
def ug (s d : Nat) (xs : List UInt8) : Bool := decide (uR s d xs = 0)
def uF (s d : Nat) (xs : List UInt8) (k : Nat) : Nat := bif ug s d xs then w2 xs k else 0
def uP (s d : Nat) (xs : List UInt8) : Bool := ug s d xs && decide (w2 xs 6 = 0)
def uD (s d : Nat) (xs : List UInt8) : List UInt8 := bif ug s d xs then (xs.drop 8).take (w2 xs 4 - 8) else []
theorem uR_bnd {s d : Nat} {xs : List UInt8} (h : (bnd xs.length 8 != 0) = true) : uR s d xs = bnd xs.length 8 := by
  unfold uR bnd at *
  split
  · rfl
  · split
    · rfl
    · rename_i h1 h2; rw [if_neg h1, if_neg h2] at h; cases h
theorem p67 (xs : List UInt8) : ((((xs.getD 6 0).toNat : Nat) : Int) == 0 && ((xs.getD 7 0).toNat : Int) == 0) = decide (w2 xs 6 = 0) := by
  rw [Bool.eq_iff_iff, Bool.and_eq_true, beq_iff_eq, beq_iff_eq, decide_eq_true_eq]
  show _ ↔ 256 * (xs.getD 6 0).toNat + (xs.getD 7 0).toNat = 0
  omega
theorem z60 (n : Nat) : (((n : Nat) : Int) == 0) = decide (n = 0) := by by_cases h : n = 0 <;> simp [h]
abbrev cTr3_1719_0 (p6 : Nat) (xs : List UInt8) : List Blk := [cb p6 [nV .u16 ((w2 xs 0) % 65536), nV .u16 ((w2 xs 2) % 65536), bV (((w2 xs 6 : Nat) : Int) == 0), Value.slice none 0 0] 124]
abbrev cTr3_1719_1 (p6 : Nat) : List Blk := [cb p6 zl2 124]
abbrev cTr3_1719_2 (eg83 : EG) (p6 : Nat) (xs : List UInt8) : List Blk := [cb p6 [nV .u16 ((w2 xs 0) % 65536), nV .u16 ((w2 xs 2) % 65536), bV (((w2 xs 6 : Nat) : Int) == 0), Value.slice eg83.g.a ((eOut (xs.drop 8) (((w2 xs 4 : Nat) : Int) - 8)).length) eg83.g.cap] 124]
abbrev cTr3_1719_3 (eg96 : EG) (p6 : Nat) (xs : List UInt8) : List Blk := [cb p6 [nV .u16 ((w2 xs 0) % 65536), nV .u16 ((w2 xs 2) % 65536), bV (((w2 xs 6 : Nat) : Int) == 0), Value.slice eg96.g.a ((eOut (xs.drop 8) (((w2 xs 4 : Nat) : Int) - 8)).length) eg96.g.cap] 124]
abbrev cTr3_1719_4 (p6 : Nat) (xs : List UInt8) : List Blk := [cb p6 [nV .u16 ((w2 xs 0) % 65536), nV .u16 ((w2 xs 2) % 65536), bV false, Value.slice none 0 0] 124]
abbrev dTr3_1719_0 (ev45 : EV) (xs : List UInt8) : List Value := [Value.slice ev45.a (xs.length - 8) ev45.cap, bV false]
abbrev dTr3_1719_1  : List Value := zl2
set_option maxHeartbeats 1000000 in
theorem rudp_c (s d : Nat) (xs : List UInt8) (a : Option Addr) (cap : Nat) (w : World) (hat : At w a (byc xs)) (hs : s < 4294967296) (hd : d < 4294967296) (hl : xs.length ≤ 100000) (hlc : xs.length ≤ cap) : Calls Tryz.prog 85 #[nV .u32 s, nV .u32 d, Value.slice a xs.length cap] w (RetM w (fun g : FS => g.ok 1 (uD s d xs).length) (fun g => .tuple #[.agg [.int .u16 ((uF s d xs 0 : Nat) : Int), .int .u16 ((uF s d xs 2 : Nat) : Int), .bool (uP s d xs), .slice g.a (uD s d xs).length g.cap].toArray, .int .i64 (uR s d xs)]) [] (fun g => [g.seg 5 (byc (uD s d xs))])) := by
 have hw4 := w2_lt xs 4; have hw6 := w2_lt xs 6
 refine calls_W (M := []) (LL := []) (n := 67) Tryz.func85 rfl rfl ma6 (Mem.refl _) (W.seq (fun K1 hK1 => ?_))
 refine W.region (Wl.ht rfl (Ht.alloc (z := aV dTr3_1719_1) (cs := dTr3_1719_1) rfl rfl Tryz.zeroValue124 rfl) (fun p6 => ?_))
 refine Wl.run 1 ma0 (Wl.nil (hK1 _ _ _ (W.prune' [0, 1, 2, 6] [nV .u32 s, nV .u32 d, Value.slice a xs.length cap, pV p6 0] ma0 (fun f2 => W.seq (fun K3 hK3 => ?_)))))
 refine W.seq (fun K4 hK4 => W.region (Wl.run 1 ma0 (Wl.yc (v := iV .i64 (bnd xs.length 8)) rfl rfl (Yc.call (fun _ => kr) (fun w_ hm_ => bounds_c a xs.length cap 8 _ ma1 ma1)) (Wl.run 1 ma0 ?_))))
 refine Wl.nil (hK4 _ _ _ (W.prune' [0, 1, 2, 6, 8] [nV .u32 s, nV .u32 d, Value.slice a xs.length cap, pV p6 0, iV .i64 (bnd xs.length 8)] ma0 (fun f5 => W.seq (fun K6 hK6 => W.region ?_))))
 refine Wl.run 2 ma0 (Wl.nil (hK6 _ _ _ (W.prune' [0, 1, 2, 6, 8, 14] [nV .u32 s, nV .u32 d, Value.slice a xs.length cap, pV p6 0, iV .i64 (bnd xs.length 8), bV ((bnd xs.length 8) != 0)] ma0 (fun f7 => ?_))))
 refine W.cond ((bnd xs.length 8) != 0) ma0 (fun h8 => ?_) (fun h9 => ?_)
 ·have qh8 := h8; try simp only [zA] at qh8
  refine W.seq (fun K10 hK10 => W.region (Wl.ys rfl rfl (Ys.loadN (b := p6) (o' := 0) (i := 0) (j := 0) (vs := dTr3_1719_1) rfl ma0 Tryz.isAgg124 Tryz.sizeOf124 rfl rfl rfl rfl) (Wl.run 1 ma0 (Wl.ht rfl (Ht.storeN (b := p6) (o' := 0) (i := 0) (j := 0) (vs := dTr3_1719_1) (LL' := [cTr3_1719_1 p6]) rfl rfl ma0 ma0 Tryz.sizeOf124 ma7 rfl rfl ma6 rfl rfl) (fun _ => ?_)))))
  refine Wl.run 1 ma0 (Wl.nil (hK10 _ _ _ (W.prune' [6, 7] [pV p6 0, iV .i64 (bnd xs.length 8)] ma0 (fun f11 => W.ret ?_))))
  have hR : uR s d xs = bnd xs.length 8 := uR_bnd h8
  have hG : ug s d xs = false := by unfold ug; rw [hR]; exact decide_eq_false (by simpa using h8)
  have hD : uD s d xs = [] := by unfold uD; rw [hG]; rfl
  show ∀ w_, _ → bodyPostM (fence none) 0 Tryz.prog Tryz.f85 _ Exit.ret _ w_
  exact fun w_ hS_ => fin_ret (ret2 rfl (RV.cellN (b := p6) (o' := 0) (i := 0) (j := 0) (cs := zl2) (vs := zl2) ma0 Tryz.isAgg124 Tryz.sizeOf124 rfl rfl rfl rfl) (RV.tmp (v := iV .i64 (bnd xs.length 8)) ma0) hS_ ⟨FS.nul, (by rw [hD]; exact FS.nul_ok 1), congrArg Ending.returned ((by simp only [uF, uP, hG, cond_false, Bool.false_and, hR, hD]; rfl)), (Mem.cast (by rw [hD]; rfl) (Mem.push (hS_.pick [] ma2 rfl)))⟩)
 ·have qh9 := h9; try simp only [zA] at qh9
  refine W.skip' (hK3 _ _ _ (W.prune' [0, 1, 2, 6] [nV .u32 s, nV .u32 d, Value.slice a xs.length cap, pV p6 0] ma0 (fun f12 => W.seq (fun K13 hK13 => ?_))))
  have hb_ := bnd_ok h9
  refine W.region (Wl.run 1 ma0 (Wl.htS rfl (HtS.call (β := NE) (k := 131) (args := #[Value.slice a xs.length cap]) (Lin := []) (Lk := [cTr3_1719_1 p6]) (Mi := []) (Lo := fun ne14 => [[cb ne14.b [Value.slice ne14.g.a xs.length ne14.g.cap, bV false] 283], ne14.g.seg 5 (mc b8 xs), cTr3_1719_1 p6]) [] [0] rfl (fun _ => kr) ma2 rfl rfl rfl (fun w_ hm_ hl_ => (neweyen_c xs a xs.length cap _ rfl (hat.mem0 hm_) ma11)) (fun _ => rfl)) (fun ne14 ok15 => Wl.run 1 ma0 (Wl.nil ?_))))
  refine hK13 _ _ _ (W.prune' [0, 1, 2, 6, 9] [nV .u32 s, nV .u32 d, Value.slice a xs.length cap, pV p6 0, Value.pointer (some ⟨ne14.b, 0, none⟩)] ma0 (fun f18 => ?_))
  refine W.seq (fun K19 hK19 => W.region (Wl.run 1 ma0 (Wl.htS rfl (HtS.call (β := EV) (k := 132) (args := #[Value.pointer (some ⟨ne14.b, 0, none⟩), iV .i64 2]) (Lin := [[cb ne14.b [Value.slice ne14.g.a xs.length ne14.g.cap, bV false] 283]]) (Lk := [ne14.g.seg 5 (mc b8 xs), cTr3_1719_1 p6]) (Mi := [ne14.b]) (Lo := fun ev20 => [[cb ne14.b [Value.slice ev20.a (xs.length - 2) ev20.cap, bV false] 283], ne14.g.seg 5 (mc b8 xs), cTr3_1719_1 p6]) [0] [1, 2] rfl (fun _ => kr) ma2 rfl rfl rfl (fun w_ hm_ hl_ => (numk2_c xs ne14.g.a xs.length ne14.g.cap false ne14.b 0 2 _ hl_ (by rw [List.drop_zero]; exact (FS.at (i := 1) (t := 5) hm_ rfl (FS.nil_cs ok15 (mc_len1 _)))) (by first | rfl | omega) ma1 (ok15.le) ma1 ma2)) (fun _ => rfl)) (fun ev20 hx26 => ?_))))
  obtain ⟨hv22, hc23⟩ := hx26
  refine Wl.ys (v := nV .u16 ((w2 xs 0) % 65536)) rfl rfl ((Ys.pure (v := .int .u16 (icnv .u16 ((w2 xs 0 : Nat) : Int))) (fun _ => kr)).conseq (int_congr (icnv_mod rfl _))) (Wl.run 1 ma0 (Wl.htS rfl (HtS.call (β := EV) (k := 132) (args := #[Value.pointer (some ⟨ne14.b, 0, none⟩), iV .i64 2]) (Lin := [[cb ne14.b [Value.slice ev20.a (xs.length - 2) ev20.cap, bV false] 283]]) (Lk := [ne14.g.seg 5 (mc b8 xs), cTr3_1719_1 p6]) (Mi := [ne14.b]) (Lo := fun ev27 => [[cb ne14.b [Value.slice ev27.a (xs.length - 4) ev27.cap, bV false] 283], ne14.g.seg 5 (mc b8 xs), cTr3_1719_1 p6]) [0] [1, 2] rfl (fun _ => kr) ma2 rfl rfl rfl (fun w_ hm_ hl_ => (numk2_c xs ev20.a (xs.length - 2) ev20.cap false ne14.b 2 2 _ hl_ (hv22 _ (by rw [List.drop_zero]; exact (FS.at (i := 1) (t := 5) hm_ rfl (FS.nil_cs ok15 (mc_len1 _))))) (by first | rfl | omega) ma1 ma1 ma1 ma2)) (fun _ => rfl)) (fun ev27 hx33 => ?_)))
  obtain ⟨hv29, hc30⟩ := hx33
  refine Wl.ys (v := nV .u16 ((w2 xs 2) % 65536)) rfl rfl ((Ys.pure (v := .int .u16 (icnv .u16 ((w2 xs 2 : Nat) : Int))) (fun _ => kr)).conseq (int_congr (icnv_mod rfl _))) (Wl.run 1 ma0 (Wl.ht rfl (Ht.store (b := p6) (o' := 0) (i := 2) (j := 0) (v := nV .u16 ((w2 xs 0) % 65536)) (LL' := [[cb ne14.b [Value.slice ev27.a (xs.length - 4) ev27.cap, bV false] 283], ne14.g.seg 5 (mc b8 xs), [cb p6 [nV .u16 ((w2 xs 0) % 65536), iV .u16 0, bV false, Value.slice none 0 0] 124]]) rfl rfl ma0 ma0 Tryz.sizeOf22 rfl rfl rfl ma6 rfl rfl) (fun _ => Wl.run 1 ma0 (Wl.ht rfl (Ht.store (b := p6) (o' := 1) (i := 2) (j := 0) (v := nV .u16 ((w2 xs 2) % 65536)) (LL' := [[cb ne14.b [Value.slice ev27.a (xs.length - 4) ev27.cap, bV false] 283], ne14.g.seg 5 (mc b8 xs), cTr3_1719_4 p6 xs]) rfl rfl ma0 ma0 Tryz.sizeOf22 rfl rfl rfl ma6 rfl rfl) (fun _ => ?_)))))
  refine Wl.nil (hK19 _ _ _ (W.prune' [0, 1, 2, 6, 9] [nV .u32 s, nV .u32 d, Value.slice a xs.length cap, pV p6 0, Value.pointer (some ⟨ne14.b, 0, none⟩)] ma0 (fun f34 => W.seq (fun K35 hK35 => W.region ?_))))
  refine Wl.run 1 ma0 (Wl.htS rfl (HtS.call (β := EV) (k := 132) (args := #[Value.pointer (some ⟨ne14.b, 0, none⟩), iV .i64 2]) (Lin := [[cb ne14.b [Value.slice ev27.a (xs.length - 4) ev27.cap, bV false] 283]]) (Lk := [ne14.g.seg 5 (mc b8 xs), cTr3_1719_4 p6 xs]) (Mi := [ne14.b]) (Lo := fun ev36 => [[cb ne14.b [Value.slice ev36.a (xs.length - 6) ev36.cap, bV false] 283], ne14.g.seg 5 (mc b8 xs), cTr3_1719_4 p6 xs]) [0] [1, 2] rfl (fun _ => kr) ma2 rfl rfl rfl (fun w_ hm_ hl_ => (numk2_c xs ev27.a (xs.length - 4) ev27.cap false ne14.b 4 2 _ hl_ (hv29 _ (hv22 _ (by rw [List.drop_zero]; exact (FS.at (i := 1) (t := 5) hm_ rfl (FS.nil_cs ok15 (mc_len1 _)))))) (by first | rfl | omega) ma1 ma1 ma1 ma2)) (fun _ => rfl)) (fun ev36 hx42 => ?_))
  obtain ⟨hv38, hc39⟩ := hx42
  refine Wl.ys (v := nV .i64 (w2 xs 4)) rfl rfl ((Ys.pure (v := .int .i64 (icnv .i64 ((w2 xs 4 : Nat) : Int))) (fun _ => kr)).conseq (int_congr (wrap_i64 ma1 ma1))) (Wl.run 1 ma0 (Wl.nil (hK35 _ _ _ (W.prune' [0, 1, 2, 6, 9, 10] [nV .u32 s, nV .u32 d, Value.slice a xs.length cap, pV p6 0, Value.pointer (some ⟨ne14.b, 0, none⟩), nV .i64 (w2 xs 4)] ma0 (fun f43 => ?_)))))
  refine W.seq (fun K44 hK44 => W.region (Wl.run 1 ma0 (Wl.htS rfl (HtS.call (β := EV) (k := 132) (args := #[Value.pointer (some ⟨ne14.b, 0, none⟩), iV .i64 2]) (Lin := [[cb ne14.b [Value.slice ev36.a (xs.length - 6) ev36.cap, bV false] 283]]) (Lk := [ne14.g.seg 5 (mc b8 xs), cTr3_1719_4 p6 xs]) (Mi := [ne14.b]) (Lo := fun ev45 => [[cb ne14.b (dTr3_1719_0 ev45 xs) 283], ne14.g.seg 5 (mc b8 xs), cTr3_1719_4 p6 xs]) [0] [1, 2] rfl (fun _ => kr) ma2 rfl rfl rfl (fun w_ hm_ hl_ => (numk2_c xs ev36.a (xs.length - 6) ev36.cap false ne14.b 6 2 _ hl_ (hv38 _ (hv29 _ (hv22 _ (by rw [List.drop_zero]; exact (FS.at (i := 1) (t := 5) hm_ rfl (FS.nil_cs ok15 (mc_len1 _))))))) (by first | rfl | omega) ma1 ma1 ma1 ma2)) (fun _ => rfl)) (fun ev45 hx51 => ?_))))
  obtain ⟨hv47, hc48⟩ := hx51
  refine Wl.run 2 ma0 (Wl.ht rfl (Ht.store (b := p6) (o' := 2) (i := 2) (j := 0) (v := bV (((w2 xs 6 : Nat) : Int) == 0)) (LL' := [[cb ne14.b (dTr3_1719_0 ev45 xs) 283], ne14.g.seg 5 (mc b8 xs), cTr3_1719_0 p6 xs]) rfl rfl ma0 ma0 Tryz.sizeOf4 rfl rfl rfl ma6 rfl rfl) (fun _ => ?_))
  refine Wl.nil (hK44 _ _ _ (W.prune' [0, 1, 2, 6, 9, 10] [nV .u32 s, nV .u32 d, Value.slice a xs.length cap, pV p6 0, Value.pointer (some ⟨ne14.b, 0, none⟩), nV .i64 (w2 xs 4)] ma0 (fun f52 => W.seq (fun K53 hK53 => W.block ?_))))
  refine W.seq (fun K54 hK54 => W.region (Wl.run 3 ma0 ?_))
  refine Wl.guard (v := nV .i64 (w2 xs 4)) (!(decide (((w2 xs 4 : Nat) : Int) < 8))) rfl (wantF rfl ma0) rfl (fun hg55 => ?_) ?_
  ·exact Ys.pure (fun _ => kr)
  refine Wl.guard (v := Value.slice a xs.length cap) (!(decide (((w2 xs 4 : Nat) : Int) < 8))) rfl (wantF rfl ma0) rfl (fun hg56 => ?_) ?_
  ·exact Ys.pure (fun _ => kr)
  refine Wl.guard (v := nV .i64 xs.length) (!(decide (((w2 xs 4 : Nat) : Int) < 8))) rfl (wantF rfl ma0) rfl (fun hg57 => ?_) ?_
  ·have qhg57 := hg57; try simp only [zA] at qhg57
   refine Ys.at (t := 39) (v0 := Value.slice a xs.length cap) (lz (g := !(decide (((w2 xs 4 : Nat) : Int) < 8))) (u := undef) hg57 ma0) ?_
   exact Ys.pure (fun _ => kr)
  refine Wl.guard (v := bV (decide (((w2 xs 4 : Nat) : Int) > (xs.length : Int)))) (!(decide (((w2 xs 4 : Nat) : Int) < 8))) rfl (wantF rfl ma0) rfl (fun hg58 => ?_) ?_
  ·have qhg58 := hg58; try simp only [zA] at qhg58
   refine Ys.at (t := 38) (v0 := nV .i64 (w2 xs 4)) (lz (g := !(decide (((w2 xs 4 : Nat) : Int) < 8))) (u := undef) hg58 ma0) (Ys.at (t := 40) (v0 := nV .i64 xs.length) (lz (g := !(decide (((w2 xs 4 : Nat) : Int) < 8))) (u := undef) hg58 ma0) ?_)
   exact Ys.pure (fun _ => kr)
  refine Wl.ys (v := bV ((decide (((w2 xs 4 : Nat) : Int) < 8)) || (decide (((w2 xs 4 : Nat) : Int) > (xs.length : Int))))) rfl rfl (Ys.or' (e := decide (((w2 xs 4 : Nat) : Int) < 8)) (b := decide (((w2 xs 4 : Nat) : Int) > (xs.length : Int))) rfl ma0 ma0 ma0) (Wl.run 1 ma0 (Wl.nil (hK54 _ _ _ (W.prune' [0, 1, 2, 6, 9, 10, 34] [nV .u32 s, nV .u32 d, Value.slice a xs.length cap, pV p6 0, Value.pointer (some ⟨ne14.b, 0, none⟩), nV .i64 (w2 xs 4), bV ((decide (((w2 xs 4 : Nat) : Int) < 8)) || (decide (((w2 xs 4 : Nat) : Int) > (xs.length : Int))))] ma0 (fun f59 => ?_)))))
  refine W.cond ((decide (((w2 xs 4 : Nat) : Int) < 8)) || (decide (((w2 xs 4 : Nat) : Int) > (xs.length : Int)))) ma0 (fun h60 => ?_) (fun h61 => ?_)
  ·have qh60 := h60; try simp only [zA] at qh60
   refine W.seq (fun K62 hK62 => W.region (Wl.run 1 ma0 (Wl.ht rfl (Ht.storeN (b := p6) (o' := 0) (i := 2) (j := 0) (vs := dTr3_1719_1) (LL' := [[cb ne14.b (dTr3_1719_0 ev45 xs) 283], ne14.g.seg 5 (mc b8 xs), cTr3_1719_1 p6]) rfl rfl ma0 ma0 Tryz.sizeOf124 ma7 rfl rfl ma6 rfl rfl) (fun _ => Wl.run 1 ma0 ?_))))
   refine Wl.nil (hK62 _ _ _ (W.pick (LL' := [cTr3_1719_1 p6]) [2] ma2 rfl (W.prune' [6, 7] [pV p6 0, iV .i64 11] ma0 (fun f63 => W.ret ?_))))
   have hR : uR s d xs = 11 := by unfold uR; rw [if_neg ma1, if_neg ma1, if_pos ma1]
   have hG : ug s d xs = false := by unfold ug; rw [hR]; rfl
   have hD : uD s d xs = [] := by unfold uD; rw [hG]; rfl
   show ∀ w_, _ → bodyPostM (fence none) 0 Tryz.prog Tryz.f85 _ Exit.ret _ w_
   exact fun w_ hS_ => fin_ret (ret2 rfl (RV.cellN (b := p6) (o' := 0) (i := 0) (j := 0) (cs := zl2) (vs := zl2) ma0 Tryz.isAgg124 Tryz.sizeOf124 rfl rfl rfl rfl) (RV.tmp (v := iV .i64 11) ma0) hS_ ⟨FS.nul, (by rw [hD]; exact FS.nul_ok 1), congrArg Ending.returned ((by simp only [uF, uP, hG, cond_false, Bool.false_and, hR, hD]; rfl)), (Mem.cast (by rw [hD]; rfl) (Mem.push (hS_.pick [] ma2 rfl)))⟩)
  ·have qh61 := h61; try simp only [zA] at qh61
   refine W.seq (fun K64 hK64 => W.draws [(0, false), (1, false), (2, false), (3, false), (4, true), (5, true), (6, true), (8, true), (9, true), (10, true), (7, false), (11, false), (12, false), (13, false), (14, false), (15, false)] [4, 5, 6, 8, 9, 10] (Mem w [] [[cb ne14.b (dTr3_1719_0 ev45 xs) 283], ne14.g.seg 5 (mc b8 xs), cTr3_1719_0 p6 xs]) ma0 ma0 ma0 rfl ma0 (fun _ _ h_ => h_.drawn _) (fun _ h_ => h_) (Wd.yc (v := pV p6 2) rfl rfl rfl (Ys.yc (Ys.pure (fun _ => kr))) (.inr fun _ h_ => h_) (Wd.yc (v := bV (((w2 xs 6 : Nat) : Int) == 0)) rfl rfl rfl (Ys.yc (Ys.l1 p6 2 2 0 Tryz.isAgg4)) (.inr fun _ h_ => h_) (Wd.yc (v := bV (!(((w2 xs 6 : Nat) : Int) == 0))) rfl rfl rfl (Ys.yc (Ys.pure (fun _ => kr))) (.inr fun _ h_ => h_) ?_))))
   refine Wd.yc (v := bV (!(((w2 xs 6 : Nat) : Int) == 0))) rfl rfl rfl (Ys.yc (Ys.pure (fun _ => kr))) (.inr fun _ h_ => h_) ?_
   refine Wd.guard (v := nV .u32 s) (!(((w2 xs 6 : Nat) : Int) == 0)) rfl (wantT rfl ma0) rfl (fun hg65 => ?_) ?_
   ·exact Ys.pure (fun _ => kr)
   refine Wd.guard (v := nV .u32 d) (!(((w2 xs 6 : Nat) : Int) == 0)) rfl (wantT rfl ma0) rfl (fun hg66 => ?_) ?_
   ·exact Ys.pure (fun _ => kr)
   refine Wd.guard (v := nV .i64 (w2 xs 4)) (!(((w2 xs 6 : Nat) : Int) == 0)) rfl (wantT rfl ma0) rfl (fun hg67 => ?_) ?_
   ·exact Ys.pure (fun _ => kr)
   refine Wd.guard (v := Value.slice a xs.length cap) (!(((w2 xs 6 : Nat) : Int) == 0)) rfl (wantT rfl ma0) rfl (fun hg68 => ?_) ?_
   ·exact Ys.pure (fun _ => kr)
   refine Wd.guard (v := nV .i64 (w2 xs 4)) (!(((w2 xs 6 : Nat) : Int) == 0)) rfl (wantT rfl ma0) rfl (fun hg69 => ?_) ?_
   ·exact Ys.pure (fun _ => kr)
   refine Wd.guard (v := Value.slice a (w2 xs 4) cap) (!(((w2 xs 6 : Nat) : Int) == 0)) rfl (wantT rfl ma0) rfl (fun hg70 => ?_) ?_
   ·have qhg70 := hg70; try simp only [zA] at qhg70
    refine Ys.at (t := 53) (v0 := Value.slice a xs.length cap) (lz (g := !(((w2 xs 6 : Nat) : Int) == 0)) (u := undef) hg70 ma0) (Ys.at (t := 54) (v0 := nV .i64 (w2 xs 4)) (lz (g := !(((w2 xs 6 : Nat) : Int) == 0)) (u := undef) hg70 ma0) ?_)
    exact Ys.sliceH (a := a) (len := xs.length) (cap := cap) (sz := 1) (k := .i64) (i := ((w2 xs 4 : Nat) : Int)) rfl ma0 ma0 Tryz.runUnderlying38 Tryz.sizeOf5 ma1 ma1
   refine Wd.split (!(((w2 xs 6 : Nat) : Int) == 0)) (fun h71 => ?_) (fun h72 => ?_)
   ·have qh71 := h71; try simp only [zA] at qh71
    refine Wd.at 47 (v0 := .bool true) (boolv (e := !(((w2 xs 6 : Nat) : Int) == 0)) ma0 h71) (Wd.at 48 (v0 := .bool true) (boolv (e := !(((w2 xs 6 : Nat) : Int) == 0)) ma0 h71) (Wd.at 49 (v0 := nV .u32 s) (lz (g := !(((w2 xs 6 : Nat) : Int) == 0)) (u := undef) h71 ma0) (Wd.at 50 (v0 := nV .u32 d) (lz (g := !(((w2 xs 6 : Nat) : Int) == 0)) (u := undef) h71 ma0) (Wd.at 51 (v0 := nV .i64 (w2 xs 4)) (lz (g := !(((w2 xs 6 : Nat) : Int) == 0)) (u := undef) h71 ma0) ?_))))
    refine Wd.at 53 (v0 := Value.slice a xs.length cap) (lz (g := !(((w2 xs 6 : Nat) : Int) == 0)) (u := undef) h71 ma0) (Wd.at 54 (v0 := nV .i64 (w2 xs 4)) (lz (g := !(((w2 xs 6 : Nat) : Int) == 0)) (u := undef) h71 ma0) (Wd.at 55 (v0 := Value.slice a (w2 xs 4) cap) (lz (g := !(((w2 xs 6 : Nat) : Int) == 0)) (u := undef) h71 ma0) (Wd.htwS rfl ma0 (HtS.call (β := FS) (k := 134) (args := #[nV .u32 s, nV .u32 d, iV .u8 17, nV .i64 (w2 xs 4)]) (Lin := []) (Lk := [[cb ne14.b (dTr3_1719_0 ev45 xs) 283], ne14.g.seg 5 (mc b8 xs), cTr3_1719_0 p6 xs]) (Mi := []) (Lo := fun g73 => [g73.seg 5 (mc b8 (psh s d (17 : UInt8) (w2 xs 4))), [cb ne14.b (dTr3_1719_0 ev45 xs) 283], ne14.g.seg 5 (mc b8 xs), cTr3_1719_0 p6 xs]) [] [0, 1, 2] rfl (fun _ => kr) ma2 rfl rfl rfl (fun w_ hm_ hl_ => (pseudo_c s d (17 : UInt8) (w2 xs 4) _ ma1 ma1 ma1)) (fun _ => rfl)) (.inr fun _ _ h_ => h_.pick [1, 2, 3] ma2 rfl) (fun g73 ok74 => Wd.htw rfl ma0 (Ht.made (mk := fun b_ => .slice (some ⟨b_, 0, none⟩) 2 2) (t := 38) (cs := [sV g73 12, Value.slice a (w2 xs 4) cap]) rfl (fun _ => kr)) (.inr fun _ _ h_ => h_.pick [2, 3, 4] ma2 rfl) (fun p56 => ?_)))))
    refine Wd.guardc (v := bV (((cks ((psh s d (17 : UInt8) (w2 xs 4)) ++ (xs.take (w2 xs 4))) : Nat) : Int) == 0)) (true) rfl ma0 rfl (fun _ => Yc.call (fun _ => kr) (fun w_ hm_ => (rightn_c [⟨g73.a, (psh s d (17 : UInt8) (w2 xs 4)), g73.cap⟩, ⟨a, (xs.take (w2 xs 4)), cap⟩] ((psh s d (17 : UInt8) (w2 xs 4)) ++ (xs.take (w2 xs 4))) (some ⟨p56, 0, none⟩) 2 2 (12 + (w2 xs 4)) _ rfl (by simp [jn]) (by simp [be_len, psh_len]; try omega) (by first | exact At.lit0 (i := 0) (j := 0) (t := 38) (b := p56) hm_ rfl rfl | (rw [show mc slv ([⟨g73.a, (psh s d (17 : UInt8) (w2 xs 4)), g73.cap⟩, ⟨a, (xs.take (w2 xs 4)), cap⟩] : List SV) = [sV g73 12, Value.slice a (w2 xs 4) cap] by (simp [mc, be_len, psh_len]; try omega)]; exact At.lit0 (i := 0) (j := 0) (t := 38) (b := p56) hm_ rfl rfl)) (List.forall_mem_cons.2 ⟨(FS.at (i := 1) (t := 5) hm_ rfl (FS.nil_cs ok74 (by rw [mc_len, psh_len]))), (List.forall_mem_cons.2 ⟨((hat.mem0 hm_).mtake (w2 xs 4)), (fun _ h => by cases h)⟩)⟩) (by first | omega | (simp [be_len, psh_len]; omega)) ma6 ma6))) (.inr fun _ h_ => h_.pick [2, 3, 4] ma2 rfl) (Wd.guardc (v := bV (!(((cks ((psh s d (17 : UInt8) (w2 xs 4)) ++ (xs.take (w2 xs 4))) : Nat) : Int) == 0))) (true) rfl ma0 rfl (fun _ => Ys.yc (Ys.pure (fun _ => kr))) (.inr fun _ h_ => h_.pick [2, 3, 4] ma2 rfl) (Wd.yc (v := bV (!(((cks ((psh s d (17 : UInt8) (w2 xs 4)) ++ (xs.take (w2 xs 4))) : Nat) : Int) == 0))) rfl rfl rfl (Ys.yc (Ys.pure (fun _ => kr))) (.inr fun _ h_ => h_.pick [2, 3, 4] ma2 rfl) (Wd.yc (v := bV (!(((cks ((psh s d (17 : UInt8) (w2 xs 4)) ++ (xs.take (w2 xs 4))) : Nat) : Int) == 0))) rfl rfl rfl (Ys.yc (Ys.pure (fun _ => kr))) (.inr fun _ h_ => h_.pick [2, 3, 4] ma2 rfl) (Wd.nil ?_))))
    refine hK64 _ _ _ (W.pick (LL' := [[cb ne14.b (dTr3_1719_0 ev45 xs) 283], ne14.g.seg 5 (mc b8 xs), cTr3_1719_0 p6 xs]) [2, 3, 4] ma2 rfl (W.prune' [6, 9, 10, 44] [pV p6 0, Value.pointer (some ⟨ne14.b, 0, none⟩), nV .i64 (w2 xs 4), bV (!(((cks ((psh s d (17 : UInt8) (w2 xs 4)) ++ (xs.take (w2 xs 4))) : Nat) : Int) == 0))] ma0 (fun f76 => ?_)))
    refine W.cond (!(((cks ((psh s d (17 : UInt8) (w2 xs 4)) ++ (xs.take (w2 xs 4))) : Nat) : Int) == 0)) ma0 (fun h77 => ?_) (fun h78 => ?_)
    ·have qh77 := h77; try simp only [zA] at qh77
     refine W.seq (fun K79 hK79 => W.region (Wl.run 1 ma0 (Wl.ht rfl (Ht.storeN (b := p6) (o' := 0) (i := 2) (j := 0) (vs := dTr3_1719_1) (LL' := [[cb ne14.b (dTr3_1719_0 ev45 xs) 283], ne14.g.seg 5 (mc b8 xs), cTr3_1719_1 p6]) rfl rfl ma0 ma0 Tryz.sizeOf124 ma7 rfl rfl ma6 rfl rfl) (fun _ => Wl.run 1 ma0 ?_))))
     refine Wl.nil (hK79 _ _ _ (W.pick (LL' := [cTr3_1719_1 p6]) [2] ma2 rfl (W.prune' [6, 7] [pV p6 0, iV .i64 12] ma0 (fun f80 => W.ret ?_))))
     have hlast : (w2 xs 6 ≠ 0 ∧ cks (psh s d 17 (w2 xs 4) ++ xs.take (w2 xs 4)) ≠ 0) := by have zh71 := h71; simp at zh71; have zh77 := h77; simp at zh77; omega
     have hR : uR s d xs = 12 := by unfold uR; rw [if_neg ma1, if_neg ma1, if_neg ma1, if_pos hlast]
     have hG : ug s d xs = false := by unfold ug; rw [hR]; rfl
     have hD : uD s d xs = [] := by unfold uD; rw [hG]; rfl
     show ∀ w_, _ → bodyPostM (fence none) 0 Tryz.prog Tryz.f85 _ Exit.ret _ w_
     exact fun w_ hS_ => fin_ret (ret2 rfl (RV.cellN (b := p6) (o' := 0) (i := 0) (j := 0) (cs := zl2) (vs := zl2) ma0 Tryz.isAgg124 Tryz.sizeOf124 rfl rfl rfl rfl) (RV.tmp (v := iV .i64 12) ma0) hS_ ⟨FS.nul, (by rw [hD]; exact FS.nul_ok 1), congrArg Ending.returned ((by simp only [uF, uP, hG, cond_false, Bool.false_and, hR, hD]; rfl)), (Mem.cast (by rw [hD]; rfl) (Mem.push (hS_.pick [] ma2 rfl)))⟩)
    ·have qh78 := h78; try simp only [zA] at qh78
     refine W.skip' (hK53 _ _ _ (W.prune' [6, 9, 10] [pV p6 0, Value.pointer (some ⟨ne14.b, 0, none⟩), nV .i64 (w2 xs 4)] ma0 (fun f81 => W.seq (fun K82 hK82 => W.region ?_))))
     refine Wl.run 2 ma0 (Wl.ys (v := iV .i64 (((w2 xs 4 : Nat) : Int) - 8)) rfl rfl ((Ys.pure (v := .int .i64 (isub .i64 ((w2 xs 4 : Nat) : Int) 8)) (fun _ => kr)).conseq (int_congr (isub_eq rfl ma1 ma1))) (Wl.htS rfl (HtS.call (β := EG) (k := 135) (args := #[Value.pointer (some ⟨ne14.b, 0, none⟩), iV .i64 (((w2 xs 4 : Nat) : Int) - 8)]) (Lin := [[cb ne14.b (dTr3_1719_0 ev45 xs) 283]]) (Lk := [ne14.g.seg 5 (mc b8 xs), cTr3_1719_0 p6 xs]) (Mi := [ne14.b]) (Lo := fun eg83 => [[cb ne14.b [Value.slice eg83.a ((eRest (xs.drop 8) (((w2 xs 4 : Nat) : Int) - 8)).length) eg83.cap, bV (eBad (xs.drop 8) false (((w2 xs 4 : Nat) : Int) - 8))] 283], eg83.g.seg 5 (mc b8 (eOut (xs.drop 8) (((w2 xs 4 : Nat) : Int) - 8))), ne14.g.seg 5 (mc b8 xs), cTr3_1719_0 p6 xs]) [0] [1, 2] rfl (fun _ => kr) ma2 rfl rfl rfl (fun w_ hm_ hl_ => (bytesn_c (xs.drop 8) ev45.a (xs.length - 8) ev45.cap false ne14.b (((w2 xs 4 : Nat) : Int) - 8) _ (by first | rfl | (rw [List.length_take]; omega) | (rw [List.length_take, List.length_drop]; omega) | (simp [be_len, psh_len]; done) | (simp [be_len, psh_len]; omega)) hl_ (hv47 _ (hv38 _ (hv29 _ (hv22 _ (by rw [List.drop_zero]; exact (FS.at (i := 1) (t := 5) hm_ rfl (FS.nil_cs ok15 (mc_len1 _)))))))) ma11 ma11)) (fun _ => rfl)) (fun eg83 hx89 => ?_)))
     obtain ⟨ok84, hv85, hc86⟩ := hx89
     refine Wl.run 1 ma0 (Wl.ht rfl (Ht.store (b := p6) (o' := 3) (i := 3) (j := 0) (v := Value.slice eg83.g.a ((eOut (xs.drop 8) (((w2 xs 4 : Nat) : Int) - 8)).length) eg83.g.cap) (LL' := [[cb ne14.b [Value.slice eg83.a ((eRest (xs.drop 8) (((w2 xs 4 : Nat) : Int) - 8)).length) eg83.cap, bV (eBad (xs.drop 8) false (((w2 xs 4 : Nat) : Int) - 8))] 283], eg83.g.seg 5 (mc b8 (eOut (xs.drop 8) (((w2 xs 4 : Nat) : Int) - 8))), ne14.g.seg 5 (mc b8 xs), cTr3_1719_2 eg83 p6 xs]) rfl rfl ma0 ma0 Tryz.sizeOf38 rfl rfl rfl ma6 rfl rfl) (fun _ => ?_))
     refine Wl.nil (hK82 _ _ _ (W.pick (LL' := [eg83.g.seg 5 (mc b8 (eOut (xs.drop 8) (((w2 xs 4 : Nat) : Int) - 8))), cTr3_1719_2 eg83 p6 xs]) [1, 3] ma2 rfl (W.prune' [6] [pV p6 0] ma0 (fun f90 => W.seq (fun K91 hK91 => ?_)))))
     refine W.region (Wl.ys rfl rfl (Ys.loadN (b := p6) (o' := 0) (i := 1) (j := 0) (vs := [nV .u16 ((w2 xs 0) % 65536), nV .u16 ((w2 xs 2) % 65536), bV (((w2 xs 6 : Nat) : Int) == 0), Value.slice eg83.g.a ((eOut (xs.drop 8) (((w2 xs 4 : Nat) : Int) - 8)).length) eg83.g.cap]) rfl ma0 Tryz.isAgg124 Tryz.sizeOf124 rfl rfl rfl rfl) (Wl.ht rfl (Ht.storeN (b := p6) (o' := 0) (i := 1) (j := 0) (vs := [nV .u16 ((w2 xs 0) % 65536), nV .u16 ((w2 xs 2) % 65536), bV (((w2 xs 6 : Nat) : Int) == 0), Value.slice eg83.g.a ((eOut (xs.drop 8) (((w2 xs 4 : Nat) : Int) - 8)).length) eg83.g.cap]) (LL' := [eg83.g.seg 5 (mc b8 (eOut (xs.drop 8) (((w2 xs 4 : Nat) : Int) - 8))), cTr3_1719_2 eg83 p6 xs]) rfl rfl ma0 ma0 Tryz.sizeOf124 ma7 rfl rfl ma6 rfl rfl) (fun _ => Wl.run 1 ma0 (Wl.nil ?_))))
     refine hK91 _ _ _ (W.prune' [6, 7] [pV p6 0, iV .i64 0] ma0 (fun f92 => ?_))
     refine W.ret ?_
     have hlast : ¬ (w2 xs 6 ≠ 0 ∧ cks (psh s d 17 (w2 xs 4) ++ xs.take (w2 xs 4)) ≠ 0) := by have zh71 := h71; simp at zh71; have zh78 := h78; simp at zh78; omega
     have hR : uR s d xs = 0 := by unfold uR; rw [if_neg ma1, if_neg ma1, if_neg ma1, if_neg hlast]
     have hG : ug s d xs = true := by unfold ug; rw [hR]; rfl
     have hD : uD s d xs = eOut (xs.drop 8) (((w2 xs 4 : Nat) : Int) - 8) := by unfold uD; rw [hG]; show (xs.drop 8).take (w2 xs 4 - 8) = _; rw [show ((w2 xs 4 : Nat) : Int) - 8 = ((w2 xs 4 - 8 : Nat) : Int) by omega, eOut_k ma1]
     have hDl : (uD s d xs).length = (eOut (xs.drop 8) (((w2 xs 4 : Nat) : Int) - 8)).length := by rw [hD]; try (rw [List.length_take, List.length_drop]; omega)
     show ∀ w_, _ → bodyPostM (fence none) 0 Tryz.prog Tryz.f85 _ Exit.ret _ w_
     exact fun w_ hS_ => fin_ret (ret2 rfl (RV.cellN (b := p6) (o' := 0) (i := 1) (j := 0) (cs := [nV .u16 ((w2 xs 0) % 65536), nV .u16 ((w2 xs 2) % 65536), bV (((w2 xs 6 : Nat) : Int) == 0), Value.slice eg83.g.a ((eOut (xs.drop 8) (((w2 xs 4 : Nat) : Int) - 8)).length) eg83.g.cap]) (vs := [nV .u16 ((w2 xs 0) % 65536), nV .u16 ((w2 xs 2) % 65536), bV (((w2 xs 6 : Nat) : Int) == 0), Value.slice eg83.g.a ((eOut (xs.drop 8) (((w2 xs 4 : Nat) : Int) - 8)).length) eg83.g.cap]) ma0 Tryz.isAgg124 Tryz.sizeOf124 rfl rfl rfl rfl) (RV.tmp (v := iV .i64 0) ma0) hS_ ⟨eg83.g, (by rw [hDl]; exact ok84), congrArg Ending.returned ((by rw [hDl]; (try rw [p67]); simp only [uF, uP, hG, cond_true, Bool.true_and, hR, z60, Nat.mod_eq_of_lt (w2_lt xs _)]; try rfl)), (Mem.cast (by rw [hD]; rfl) (hS_.pick [0] ma2 rfl))⟩)
   ·have qh72 := h72; try simp only [zA] at qh72
    refine Wd.at 47 (v0 := .bool false) (boolv (e := !(((w2 xs 6 : Nat) : Int) == 0)) ma0 h72) (Wd.at 48 (v0 := .bool false) (boolv (e := !(((w2 xs 6 : Nat) : Int) == 0)) ma0 h72) (Wd.skipc rfl ma0 rfl (.inr fun _ h_ => h_) (Wd.skipc rfl ma0 rfl (.inr fun _ h_ => h_) (Wd.skipc rfl ma0 rfl (.inr fun _ h_ => h_) ?_))))
    refine Wd.skipc rfl ma0 rfl (.inr fun _ h_ => h_) (Wd.yc (v := bV false) rfl rfl rfl (Ys.yc (Ys.pure (fun _ => kr))) (.inr fun _ h_ => h_) (Wd.yc (v := bV false) rfl rfl rfl (Ys.yc (Ys.pure (fun _ => kr))) (.inr fun _ h_ => h_) (Wd.nil (hK64 _ _ _ ?_))))
    refine W.prune' [6, 9, 10, 44] [pV p6 0, Value.pointer (some ⟨ne14.b, 0, none⟩), nV .i64 (w2 xs 4), bV false] ma0 (fun f93 => W.condF ma0 (W.skip' (hK53 _ _ _ (W.prune' [6, 9, 10] [pV p6 0, Value.pointer (some ⟨ne14.b, 0, none⟩), nV .i64 (w2 xs 4)] ma0 (fun f94 => ?_)))))
    refine W.seq (fun K95 hK95 => W.region (Wl.run 2 ma0 (Wl.ys (v := iV .i64 (((w2 xs 4 : Nat) : Int) - 8)) rfl rfl ((Ys.pure (v := .int .i64 (isub .i64 ((w2 xs 4 : Nat) : Int) 8)) (fun _ => kr)).conseq (int_congr (isub_eq rfl ma1 ma1))) (Wl.htS rfl (HtS.call (β := EG) (k := 135) (args := #[Value.pointer (some ⟨ne14.b, 0, none⟩), iV .i64 (((w2 xs 4 : Nat) : Int) - 8)]) (Lin := [[cb ne14.b (dTr3_1719_0 ev45 xs) 283]]) (Lk := [ne14.g.seg 5 (mc b8 xs), cTr3_1719_0 p6 xs]) (Mi := [ne14.b]) (Lo := fun eg96 => [[cb ne14.b [Value.slice eg96.a ((eRest (xs.drop 8) (((w2 xs 4 : Nat) : Int) - 8)).length) eg96.cap, bV (eBad (xs.drop 8) false (((w2 xs 4 : Nat) : Int) - 8))] 283], eg96.g.seg 5 (mc b8 (eOut (xs.drop 8) (((w2 xs 4 : Nat) : Int) - 8))), ne14.g.seg 5 (mc b8 xs), cTr3_1719_0 p6 xs]) [0] [1, 2] rfl (fun _ => kr) ma2 rfl rfl rfl (fun w_ hm_ hl_ => (bytesn_c (xs.drop 8) ev45.a (xs.length - 8) ev45.cap false ne14.b (((w2 xs 4 : Nat) : Int) - 8) _ (by first | rfl | (rw [List.length_take]; omega) | (rw [List.length_take, List.length_drop]; omega) | (simp [be_len, psh_len]; done) | (simp [be_len, psh_len]; omega)) hl_ (hv47 _ (hv38 _ (hv29 _ (hv22 _ (by rw [List.drop_zero]; exact (FS.at (i := 1) (t := 5) hm_ rfl (FS.nil_cs ok15 (mc_len1 _)))))))) ma11 ma11)) (fun _ => rfl)) (fun eg96 hx102 => ?_)))))
    obtain ⟨ok97, hv98, hc99⟩ := hx102
    refine Wl.run 1 ma0 (Wl.ht rfl (Ht.store (b := p6) (o' := 3) (i := 3) (j := 0) (v := Value.slice eg96.g.a ((eOut (xs.drop 8) (((w2 xs 4 : Nat) : Int) - 8)).length) eg96.g.cap) (LL' := [[cb ne14.b [Value.slice eg96.a ((eRest (xs.drop 8) (((w2 xs 4 : Nat) : Int) - 8)).length) eg96.cap, bV (eBad (xs.drop 8) false (((w2 xs 4 : Nat) : Int) - 8))] 283], eg96.g.seg 5 (mc b8 (eOut (xs.drop 8) (((w2 xs 4 : Nat) : Int) - 8))), ne14.g.seg 5 (mc b8 xs), cTr3_1719_3 eg96 p6 xs]) rfl rfl ma0 ma0 Tryz.sizeOf38 rfl rfl rfl ma6 rfl rfl) (fun _ => ?_))
    refine Wl.nil (hK95 _ _ _ (W.pick (LL' := [eg96.g.seg 5 (mc b8 (eOut (xs.drop 8) (((w2 xs 4 : Nat) : Int) - 8))), cTr3_1719_3 eg96 p6 xs]) [1, 3] ma2 rfl (W.prune' [6] [pV p6 0] ma0 (fun f103 => W.seq (fun K104 hK104 => ?_)))))
    refine W.region (Wl.ys rfl rfl (Ys.loadN (b := p6) (o' := 0) (i := 1) (j := 0) (vs := [nV .u16 ((w2 xs 0) % 65536), nV .u16 ((w2 xs 2) % 65536), bV (((w2 xs 6 : Nat) : Int) == 0), Value.slice eg96.g.a ((eOut (xs.drop 8) (((w2 xs 4 : Nat) : Int) - 8)).length) eg96.g.cap]) rfl ma0 Tryz.isAgg124 Tryz.sizeOf124 rfl rfl rfl rfl) (Wl.ht rfl (Ht.storeN (b := p6) (o' := 0) (i := 1) (j := 0) (vs := [nV .u16 ((w2 xs 0) % 65536), nV .u16 ((w2 xs 2) % 65536), bV (((w2 xs 6 : Nat) : Int) == 0), Value.slice eg96.g.a ((eOut (xs.drop 8) (((w2 xs 4 : Nat) : Int) - 8)).length) eg96.g.cap]) (LL' := [eg96.g.seg 5 (mc b8 (eOut (xs.drop 8) (((w2 xs 4 : Nat) : Int) - 8))), cTr3_1719_3 eg96 p6 xs]) rfl rfl ma0 ma0 Tryz.sizeOf124 ma7 rfl rfl ma6 rfl rfl) (fun _ => Wl.run 1 ma0 (Wl.nil ?_))))
    refine hK104 _ _ _ (W.prune' [6, 7] [pV p6 0, iV .i64 0] ma0 (fun f105 => ?_))
    refine W.ret ?_
    have hlast : ¬ (w2 xs 6 ≠ 0 ∧ cks (psh s d 17 (w2 xs 4) ++ xs.take (w2 xs 4)) ≠ 0) := by have zh72 := h72; simp at zh72; omega
    have hR : uR s d xs = 0 := by unfold uR; rw [if_neg ma1, if_neg ma1, if_neg ma1, if_neg hlast]
    have hG : ug s d xs = true := by unfold ug; rw [hR]; rfl
    have hD : uD s d xs = eOut (xs.drop 8) (((w2 xs 4 : Nat) : Int) - 8) := by unfold uD; rw [hG]; show (xs.drop 8).take (w2 xs 4 - 8) = _; rw [show ((w2 xs 4 : Nat) : Int) - 8 = ((w2 xs 4 - 8 : Nat) : Int) by omega, eOut_k ma1]
    have hDl : (uD s d xs).length = (eOut (xs.drop 8) (((w2 xs 4 : Nat) : Int) - 8)).length := by rw [hD]; try (rw [List.length_take, List.length_drop]; omega)
    show ∀ w_, _ → bodyPostM (fence none) 0 Tryz.prog Tryz.f85 _ Exit.ret _ w_
    exact fun w_ hS_ => fin_ret (ret2 rfl (RV.cellN (b := p6) (o' := 0) (i := 1) (j := 0) (cs := [nV .u16 ((w2 xs 0) % 65536), nV .u16 ((w2 xs 2) % 65536), bV (((w2 xs 6 : Nat) : Int) == 0), Value.slice eg96.g.a ((eOut (xs.drop 8) (((w2 xs 4 : Nat) : Int) - 8)).length) eg96.g.cap]) (vs := [nV .u16 ((w2 xs 0) % 65536), nV .u16 ((w2 xs 2) % 65536), bV (((w2 xs 6 : Nat) : Int) == 0), Value.slice eg96.g.a ((eOut (xs.drop 8) (((w2 xs 4 : Nat) : Int) - 8)).length) eg96.g.cap]) ma0 Tryz.isAgg124 Tryz.sizeOf124 rfl rfl rfl rfl) (RV.tmp (v := iV .i64 0) ma0) hS_ ⟨eg96.g, (by rw [hDl]; exact ok97), congrArg Ending.returned ((by rw [hDl]; (try rw [p67]); simp only [uF, uP, hG, cond_true, Bool.true_and, hR, z60, Nat.mod_eq_of_lt (w2_lt xs _)]; try rfl)), (Mem.cast (by rw [hD]; rfl) (hS_.pick [0] ma2 rfl))⟩)
abbrev cTr3_1720_0 (p6 : Nat) : List Blk := [cb p6 zl2 124]
abbrev dTr3_1720_0 (xs : List UInt8) : Bool := ((((xs.getD 6 0).toNat : Int) == 0) && ((((xs.getD 7 0).toNat : Nat) : Int) == 0))
abbrev dTr3_1720_1  : List Value := zl2
abbrev dTr3_1720_2 (g63 : FS) (xs : List UInt8) : List Value := [nV .u16 ((256 * ((xs.getD 0 0).toNat)) + ((xs.getD 1 0).toNat)), nV .u16 ((256 * ((xs.getD 2 0).toNat)) + ((xs.getD 3 0).toNat)), bV (dTr3_1720_0 xs), sV g63 (((256 * ((xs.getD 4 0).toNat)) + ((xs.getD 5 0).toNat)) - 8)]
set_option maxHeartbeats 1000000 in
theorem rrudp_c (s d : Nat) (xs : List UInt8) (a : Option Addr) (cap : Nat) (w : World) (hat : At w a (byc xs)) (hs : s < 4294967296) (hd : d < 4294967296) (hl : xs.length ≤ 100000) (hlc : xs.length ≤ cap) : Calls Tryz.prog 51 #[nV .u32 s, nV .u32 d, Value.slice a xs.length cap] w (RetM w (fun g : FS => g.ok 1 (uD s d xs).length) (fun g => .tuple #[.agg [.int .u16 ((uF s d xs 0 : Nat) : Int), .int .u16 ((uF s d xs 2 : Nat) : Int), .bool (uP s d xs), .slice g.a (uD s d xs).length g.cap].toArray, .int .i64 (uR s d xs)]) [] (fun g => [g.seg 5 (byc (uD s d xs))])) := by
 have hw4 : w2 xs 4 = 256 * (xs.getD 4 0).toNat + (xs.getD 5 0).toNat := rfl
 refine calls_W (M := []) (LL := []) (n := 86) Tryz.func51 rfl rfl ma6 (Mem.refl _) (W.seq (fun K1 hK1 => ?_))
 refine W.region (Wl.ht rfl (Ht.alloc (z := aV dTr3_1720_1) (cs := dTr3_1720_1) rfl rfl Tryz.zeroValue124 rfl) (fun p6 => ?_))
 refine Wl.run 1 ma0 (Wl.nil (hK1 _ _ _ (W.prune' [0, 1, 2, 6] [nV .u32 s, nV .u32 d, Value.slice a xs.length cap, pV p6 0] ma0 (fun f2 => W.seq (fun K3 hK3 => ?_)))))
 refine W.seq (fun K4 hK4 => W.region (Wl.run 3 ma0 (Wl.nil (hK4 _ _ _ ?_))))
 refine W.prune' [0, 1, 2, 6, 12] [nV .u32 s, nV .u32 d, Value.slice a xs.length cap, pV p6 0, bV (decide (((xs.length : Nat) : Int) < 8))] ma0 (fun f5 => ?_)
 refine W.cond (decide (((xs.length : Nat) : Int) < 8)) ma0 (fun h6 => ?_) (fun h7 => ?_)
 ·have qh6 := h6; try simp only [zA] at qh6
  refine W.seq (fun K8 hK8 => W.region (Wl.run 1 ma0 (Wl.ht rfl (Ht.storeN (b := p6) (o' := 0) (i := 0) (j := 0) (vs := dTr3_1720_1) (LL' := [cTr3_1720_0 p6]) rfl rfl ma0 ma0 Tryz.sizeOf124 ma7 rfl rfl ma6 rfl rfl) (fun _ => Wl.run 1 ma0 ?_))))
  refine Wl.nil (hK8 _ _ _ (W.prune' [6, 7] [pV p6 0, iV .i64 10] ma0 (fun f9 => W.ret ?_)))
  have hR : uR s d xs = 10 := by unfold uR; rw [if_pos ma1]
  have hG : ug s d xs = false := by unfold ug; rw [hR]; rfl
  have hD : uD s d xs = [] := by unfold uD; rw [hG]; rfl
  show ∀ w_, _ → bodyPostM (fence none) 0 Tryz.prog Tryz.f51 _ Exit.ret _ w_
  exact fun w_ hS_ => fin_ret (ret2 rfl (RV.cellN (b := p6) (o' := 0) (i := 0) (j := 0) (cs := zl2) (vs := zl2) ma0 Tryz.isAgg124 Tryz.sizeOf124 rfl rfl rfl rfl) (RV.tmp (v := iV .i64 10) ma0) hS_ ⟨FS.nul, (by rw [hD]; exact FS.nul_ok 1), congrArg Ending.returned ((by simp only [uF, uP, hG, cond_false, Bool.false_and, hR, hD]; rfl)), (Mem.cast (by rw [hD]; rfl) (Mem.push (hS_.pick [] ma2 rfl)))⟩)
 ·have qh7 := h7; try simp only [zA] at qh7
  refine W.skip' (hK3 _ _ _ (W.prune' [0, 1, 2, 6] [nV .u32 s, nV .u32 d, Value.slice a xs.length cap, pV p6 0] ma0 (fun f10 => W.seq (fun K11 hK11 => W.seq (fun K12 hK12 => ?_)))))
  refine W.region (Wl.run 3 ma0 (Wl.nil (hK12 _ _ _ (W.prune' [0, 1, 2, 6, 16] [nV .u32 s, nV .u32 d, Value.slice a xs.length cap, pV p6 0, bV (decide (((xs.length : Nat) : Int) > 1480))] ma0 (fun f13 => ?_)))))
  refine W.cond (decide (((xs.length : Nat) : Int) > 1480)) ma0 (fun h14 => ?_) (fun h15 => ?_)
  ·have qh14 := h14; try simp only [zA] at qh14
   refine W.seq (fun K16 hK16 => W.region (Wl.run 1 ma0 (Wl.ht rfl (Ht.storeN (b := p6) (o' := 0) (i := 0) (j := 0) (vs := dTr3_1720_1) (LL' := [cTr3_1720_0 p6]) rfl rfl ma0 ma0 Tryz.sizeOf124 ma7 rfl rfl ma6 rfl rfl) (fun _ => Wl.run 1 ma0 ?_))))
   refine Wl.nil (hK16 _ _ _ (W.prune' [6, 7] [pV p6 0, iV .i64 14] ma0 (fun f17 => W.ret ?_)))
   have hR : uR s d xs = 14 := by unfold uR; rw [if_neg ma1, if_pos ma1]
   have hG : ug s d xs = false := by unfold ug; rw [hR]; rfl
   have hD : uD s d xs = [] := by unfold uD; rw [hG]; rfl
   show ∀ w_, _ → bodyPostM (fence none) 0 Tryz.prog Tryz.f51 _ Exit.ret _ w_
   exact fun w_ hS_ => fin_ret (ret2 rfl (RV.cellN (b := p6) (o' := 0) (i := 0) (j := 0) (cs := zl2) (vs := zl2) ma0 Tryz.isAgg124 Tryz.sizeOf124 rfl rfl rfl rfl) (RV.tmp (v := iV .i64 14) ma0) hS_ ⟨FS.nul, (by rw [hD]; exact FS.nul_ok 1), congrArg Ending.returned ((by simp only [uF, uP, hG, cond_false, Bool.false_and, hR, hD]; rfl)), (Mem.cast (by rw [hD]; rfl) (Mem.push (hS_.pick [] ma2 rfl)))⟩)
  ·have qh15 := h15; try simp only [zA] at qh15
   refine W.skip' (hK11 _ _ _ (W.prune' [0, 1, 2, 6] [nV .u32 s, nV .u32 d, Value.slice a xs.length cap, pV p6 0] ma0 (fun f18 => W.seq (fun K19 hK19 => W.draws [(0, true), (1, true), (2, true), (3, true), (4, true), (5, false), (6, false), (7, false), (8, false), (9, false), (10, false)] [0, 1, 2, 3, 4] (Mem w [] [cTr3_1720_0 p6]) ma0 ma0 ma0 rfl ma0 (fun _ _ h_ => h_.drawn _) (fun _ h_ => h_) ?_))))
   refine Wd.run 1 ma0 (Wd.ys (v := Value.pointer (some (ela a 4))) rfl rfl rfl (Ys.byMem fun w_ h_ => Ys.indexAddr (k := .i64) (a := a) (len := xs.length) (cap := cap) (i := 4) (sz := 1) rfl ma0 ma0 Tryz.runUnderlying38 Tryz.sizeOf5 ma1 ma1 ((hat.mem0 h_).here ma14)) (Wd.ys (v := nV .u8 ((xs.getD 4 0).toNat)) rfl rfl rfl (Ys.ld (a := ela a 4) rfl ma0 Tryz.isAgg5 (fun w_ h_ => (hat.mem0 h_).ld (mc_get 0 ma11))) ?_))
   have hb20 : (xs.getD 4 0).toNat < 256 := UInt8.toNat_lt _
   refine Wd.ys (v := nV .i64 ((xs.getD 4 0).toNat)) rfl rfl rfl ((Ys.pure (v := .int .i64 (icnv .i64 ((xs.getD 4 0).toNat : Int))) (fun _ => kr)).conseq (int_congr (wrap_i64 ma1 ma1))) (Wd.ys (v := nV .i64 (256 * ((xs.getD 4 0).toNat))) rfl rfl rfl ((Ys.pure (v := .int .i64 (imul .i64 256 ((xs.getD 4 0).toNat : Int))) (fun _ => kr)).conseq (int_congr (imul_eq (by first | omega | rfl | (push_cast; rfl)) ma1 ma1))) (Wd.yc (v := Value.slice a xs.length cap) rfl rfl rfl (Ys.yc (Ys.pure (fun _ => kr))) (.inr fun _ h_ => h_) (Wd.yc (v := Value.pointer (some (ela a 5))) rfl rfl rfl (Ys.yc (Ys.byMem fun w_ h_ => Ys.indexAddr (k := .i64) (a := a) (len := xs.length) (cap := cap) (i := 5) (sz := 1) rfl ma0 ma0 Tryz.runUnderlying38 Tryz.sizeOf5 ma1 ma1 ((hat.mem0 h_).here ma14))) (.inr fun _ h_ => h_) (Wd.yc (v := nV .u8 ((xs.getD 5 0).toNat)) rfl rfl rfl (Ys.yc (Ys.ld (a := ela a 5) rfl ma0 Tryz.isAgg5 (fun w_ h_ => (hat.mem0 h_).ld (mc_get 0 ma11)))) (.inr fun _ h_ => h_) ?_))))
   have hb21 : (xs.getD 5 0).toNat < 256 := UInt8.toNat_lt _
   refine Wd.yc (v := nV .i64 ((xs.getD 5 0).toNat)) rfl rfl rfl (Ys.yc ((Ys.pure (v := .int .i64 (icnv .i64 ((xs.getD 5 0).toNat : Int))) (fun _ => kr)).conseq (int_congr (wrap_i64 ma1 ma1)))) (.inr fun _ h_ => h_) (Wd.yc (v := nV .i64 ((256 * ((xs.getD 4 0).toNat)) + ((xs.getD 5 0).toNat))) rfl rfl rfl (Ys.yc ((Ys.pure (v := .int .i64 (iadd .i64 ((256 * ((xs.getD 4 0).toNat) : Nat) : Int) ((xs.getD 5 0).toNat : Int))) (fun _ => kr)).conseq (int_congr (iadd_eq ma1 ma1 ma1)))) (.inr fun _ h_ => h_) (Wd.yc (v := nV .i64 ((256 * ((xs.getD 4 0).toNat)) + ((xs.getD 5 0).toNat))) rfl rfl rfl (Ys.yc (Ys.pure (fun _ => kr))) (.inl ma0) (Wd.nil (hK19 _ _ _ ?_))))
   refine W.prune' [0, 1, 2, 6, 8] [nV .u32 s, nV .u32 d, Value.slice a xs.length cap, pV p6 0, nV .i64 ((256 * ((xs.getD 4 0).toNat)) + ((xs.getD 5 0).toNat))] ma0 (fun f22 => W.seq (fun K23 hK23 => ?_))
   refine W.seq (fun K24 hK24 => W.region (Wl.run 3 ma0 ?_))
   refine Wl.guard (v := nV .i64 ((256 * ((xs.getD 4 0).toNat)) + ((xs.getD 5 0).toNat))) (!(decide ((((256 * ((xs.getD 4 0).toNat)) + ((xs.getD 5 0).toNat) : Nat) : Int) < 8))) rfl (wantF rfl ma0) rfl (fun hg25 => ?_) ?_
   ·exact Ys.pure (fun _ => kr)
   refine Wl.guard (v := Value.slice a xs.length cap) (!(decide ((((256 * ((xs.getD 4 0).toNat)) + ((xs.getD 5 0).toNat) : Nat) : Int) < 8))) rfl (wantF rfl ma0) rfl (fun hg26 => ?_) ?_
   ·exact Ys.pure (fun _ => kr)
   refine Wl.guard (v := nV .i64 xs.length) (!(decide ((((256 * ((xs.getD 4 0).toNat)) + ((xs.getD 5 0).toNat) : Nat) : Int) < 8))) rfl (wantF rfl ma0) rfl (fun hg27 => ?_) ?_
   ·have qhg27 := hg27; try simp only [zA] at qhg27
    refine Ys.at (t := 32) (v0 := Value.slice a xs.length cap) (lz (g := !(decide ((((256 * ((xs.getD 4 0).toNat)) + ((xs.getD 5 0).toNat) : Nat) : Int) < 8))) (u := undef) hg27 ma0) ?_
    exact Ys.pure (fun _ => kr)
   refine Wl.guard (v := bV (decide ((((256 * ((xs.getD 4 0).toNat)) + ((xs.getD 5 0).toNat) : Nat) : Int) > (xs.length : Int)))) (!(decide ((((256 * ((xs.getD 4 0).toNat)) + ((xs.getD 5 0).toNat) : Nat) : Int) < 8))) rfl (wantF rfl ma0) rfl (fun hg28 => ?_) ?_
   ·have qhg28 := hg28; try simp only [zA] at qhg28
    refine Ys.at (t := 31) (v0 := nV .i64 ((256 * ((xs.getD 4 0).toNat)) + ((xs.getD 5 0).toNat))) (lz (g := !(decide ((((256 * ((xs.getD 4 0).toNat)) + ((xs.getD 5 0).toNat) : Nat) : Int) < 8))) (u := undef) hg28 ma0) (Ys.at (t := 33) (v0 := nV .i64 xs.length) (lz (g := !(decide ((((256 * ((xs.getD 4 0).toNat)) + ((xs.getD 5 0).toNat) : Nat) : Int) < 8))) (u := undef) hg28 ma0) ?_)
    exact Ys.pure (fun _ => kr)
   refine Wl.ys (v := bV ((decide ((((256 * ((xs.getD 4 0).toNat)) + ((xs.getD 5 0).toNat) : Nat) : Int) < 8)) || (decide ((((256 * ((xs.getD 4 0).toNat)) + ((xs.getD 5 0).toNat) : Nat) : Int) > (xs.length : Int))))) rfl rfl (Ys.or' (e := decide ((((256 * ((xs.getD 4 0).toNat)) + ((xs.getD 5 0).toNat) : Nat) : Int) < 8)) (b := decide ((((256 * ((xs.getD 4 0).toNat)) + ((xs.getD 5 0).toNat) : Nat) : Int) > (xs.length : Int))) rfl ma0 ma0 ma0) (Wl.nil (hK24 _ _ _ (W.prune' [0, 1, 2, 6, 8, 35] [nV .u32 s, nV .u32 d, Value.slice a xs.length cap, pV p6 0, nV .i64 ((256 * ((xs.getD 4 0).toNat)) + ((xs.getD 5 0).toNat)), bV ((decide ((((256 * ((xs.getD 4 0).toNat)) + ((xs.getD 5 0).toNat) : Nat) : Int) < 8)) || (decide ((((256 * ((xs.getD 4 0).toNat)) + ((xs.getD 5 0).toNat) : Nat) : Int) > (xs.length : Int))))] ma0 (fun f29 => ?_))))
   refine W.cond ((decide ((((256 * ((xs.getD 4 0).toNat)) + ((xs.getD 5 0).toNat) : Nat) : Int) < 8)) || (decide ((((256 * ((xs.getD 4 0).toNat)) + ((xs.getD 5 0).toNat) : Nat) : Int) > (xs.length : Int)))) ma0 (fun h30 => ?_) (fun h31 => ?_)
   ·have qh30 := h30; try simp only [zA] at qh30
    refine W.seq (fun K32 hK32 => W.region (Wl.run 1 ma0 (Wl.ht rfl (Ht.storeN (b := p6) (o' := 0) (i := 0) (j := 0) (vs := dTr3_1720_1) (LL' := [cTr3_1720_0 p6]) rfl rfl ma0 ma0 Tryz.sizeOf124 ma7 rfl rfl ma6 rfl rfl) (fun _ => Wl.run 1 ma0 ?_))))
    refine Wl.nil (hK32 _ _ _ (W.prune' [6, 7] [pV p6 0, iV .i64 11] ma0 (fun f33 => W.ret ?_)))
    have hR : uR s d xs = 11 := by unfold uR; rw [if_neg ma1, if_neg ma1, if_pos ma1]
    have hG : ug s d xs = false := by unfold ug; rw [hR]; rfl
    have hD : uD s d xs = [] := by unfold uD; rw [hG]; rfl
    show ∀ w_, _ → bodyPostM (fence none) 0 Tryz.prog Tryz.f51 _ Exit.ret _ w_
    exact fun w_ hS_ => fin_ret (ret2 rfl (RV.cellN (b := p6) (o' := 0) (i := 0) (j := 0) (cs := zl2) (vs := zl2) ma0 Tryz.isAgg124 Tryz.sizeOf124 rfl rfl rfl rfl) (RV.tmp (v := iV .i64 11) ma0) hS_ ⟨FS.nul, (by rw [hD]; exact FS.nul_ok 1), congrArg Ending.returned ((by simp only [uF, uP, hG, cond_false, Bool.false_and, hR, hD]; rfl)), (Mem.cast (by rw [hD]; rfl) (Mem.push (hS_.pick [] ma2 rfl)))⟩)
   ·have qh31 := h31; try simp only [zA] at qh31
    refine W.skip' (hK23 _ _ _ (W.prune' [0, 1, 2, 6, 8] [nV .u32 s, nV .u32 d, Value.slice a xs.length cap, pV p6 0, nV .i64 ((256 * ((xs.getD 4 0).toNat)) + ((xs.getD 5 0).toNat))] ma0 (fun f34 => W.seq (fun K35 hK35 => W.region ?_))))
    refine Wl.run 1 ma0 (Wl.ys (v := Value.pointer (some (ela a 6))) rfl rfl (Ys.byMem fun w_ h_ => Ys.indexAddr (k := .i64) (a := a) (len := xs.length) (cap := cap) (i := 6) (sz := 1) rfl ma0 ma0 Tryz.runUnderlying38 Tryz.sizeOf5 ma1 ma1 ((hat.mem0 h_).here ma14)) (Wl.ys (v := nV .u8 ((xs.getD 6 0).toNat)) rfl rfl (Ys.ld (a := ela a 6) rfl ma0 Tryz.isAgg5 (fun w_ h_ => (hat.mem0 h_).ld (mc_get 0 ma11))) ?_))
    have hb36 : (xs.getD 6 0).toNat < 256 := UInt8.toNat_lt _
    refine Wl.run 2 ma0 ?_
    refine Wl.guard (v := Value.slice a xs.length cap) ((((xs.getD 6 0).toNat : Nat) : Int) == 0) rfl (wantT rfl ma0) rfl (fun hg37 => ?_) ?_
    ·exact Ys.pure (fun _ => kr)
    refine Wl.guard (v := Value.pointer (some (ela a 7))) ((((xs.getD 6 0).toNat : Nat) : Int) == 0) rfl (wantT rfl ma0) rfl (fun hg38 => ?_) ?_
    ·have qhg38 := hg38; try simp only [zA] at qhg38
     refine Ys.at (t := 42) (v0 := Value.slice a xs.length cap) (lz (g := ((xs.getD 6 0).toNat : Int) == 0) (u := undef) hg38 ma0) ?_
     exact Ys.byMem fun w_ h_ => Ys.indexAddr (k := .i64) (a := a) (len := xs.length) (cap := cap) (i := 7) (sz := 1) rfl ma0 ma0 Tryz.runUnderlying38 Tryz.sizeOf5 ma1 ma1 ((hat.mem0 h_).here ma14)
    refine Wl.guard (v := nV .u8 ((xs.getD 7 0).toNat)) ((((xs.getD 6 0).toNat : Nat) : Int) == 0) rfl (wantT rfl ma0) rfl (fun hg39 => ?_) ?_
    ·have qhg39 := hg39; try simp only [zA] at qhg39
     refine Ys.at (t := 43) (v0 := Value.pointer (some (ela a 7))) (lz (g := ((xs.getD 6 0).toNat : Int) == 0) (u := undef) hg39 ma0) ?_
     exact Ys.ld (a := ela a 7) rfl ma0 Tryz.isAgg5 (fun w_ h_ => (hat.mem0 h_).ld (mc_get 0 ma11))
    refine Wl.guard (v := bV ((((xs.getD 7 0).toNat : Nat) : Int) == 0)) ((((xs.getD 6 0).toNat : Nat) : Int) == 0) rfl (wantT rfl ma0) rfl (fun hg40 => ?_) ?_
    ·refine Ys.at (t := 44) (v0 := nV .u8 ((xs.getD 7 0).toNat)) (lz (g := ((xs.getD 6 0).toNat : Int) == 0) (u := undef) hg40 ma0) ?_
     exact Ys.pure (fun _ => kr)
    refine Wl.ys (v := bV (dTr3_1720_0 xs)) rfl rfl (Ys.and (e := ((xs.getD 6 0).toNat : Int) == 0) (b := ((xs.getD 7 0).toNat : Int) == 0) rfl ma0 ma0 ma0) (Wl.run 1 ma0 (Wl.nil (hK35 _ _ _ (W.prune' [0, 1, 2, 6, 8, 9] [nV .u32 s, nV .u32 d, Value.slice a xs.length cap, pV p6 0, nV .i64 ((256 * ((xs.getD 4 0).toNat)) + ((xs.getD 5 0).toNat)), bV (dTr3_1720_0 xs)] ma0 (fun f41 => ?_)))))
    refine W.seq (fun K42 hK42 => W.seq (fun K43 hK43 => ?_))
    refine W.region (Wl.run 3 ma0 ?_)
    refine Wl.guard (v := nV .u32 s) (!(dTr3_1720_0 xs)) rfl (wantT rfl ma0) rfl (fun hg44 => ?_) ?_
    ·exact Ys.pure (fun _ => kr)
    refine Wl.guard (v := nV .u32 d) (!(dTr3_1720_0 xs)) rfl (wantT rfl ma0) rfl (fun hg45 => ?_) ?_
    ·exact Ys.pure (fun _ => kr)
    refine Wl.guard (v := Value.slice a xs.length cap) (!(dTr3_1720_0 xs)) rfl (wantT rfl ma0) rfl (fun hg46 => ?_) ?_
    ·exact Ys.pure (fun _ => kr)
    refine Wl.guard (v := nV .i64 ((256 * ((xs.getD 4 0).toNat)) + ((xs.getD 5 0).toNat))) (!(dTr3_1720_0 xs)) rfl (wantT rfl ma0) rfl (fun hg47 => ?_) ?_
    ·exact Ys.pure (fun _ => kr)
    refine Wl.guard (v := Value.slice a ((256 * ((xs.getD 4 0).toNat)) + ((xs.getD 5 0).toNat)) cap) (!(dTr3_1720_0 xs)) rfl (wantT rfl ma0) rfl (fun hg48 => ?_) ?_
    ·have qhg48 := hg48; try simp only [zA] at qhg48
     refine Ys.at (t := 52) (v0 := Value.slice a xs.length cap) (lz (g := !(dTr3_1720_0 xs)) (u := undef) hg48 ma0) (Ys.at (t := 53) (v0 := nV .i64 ((256 * ((xs.getD 4 0).toNat)) + ((xs.getD 5 0).toNat))) (lz (g := !(dTr3_1720_0 xs)) (u := undef) hg48 ma0) ?_)
     exact Ys.sliceH (a := a) (len := xs.length) (cap := cap) (sz := 1) (k := .i64) (i := (((256 * ((xs.getD 4 0).toNat)) + ((xs.getD 5 0).toNat) : Nat) : Int)) rfl ma0 ma0 Tryz.runUnderlying38 Tryz.sizeOf5 ma1 ma1
    have hk50 := cks_le ((psh s d (17 : UInt8) (xs.take ((256 * ((xs.getD 4 0).toNat)) + ((xs.getD 5 0).toNat))).length ++ (xs.take ((256 * ((xs.getD 4 0).toNat)) + ((xs.getD 5 0).toNat)))))
    refine Wl.guardc (v := nV .u16 (cks (psh s d (17 : UInt8) (xs.take ((256 * ((xs.getD 4 0).toNat)) + ((xs.getD 5 0).toNat))).length ++ (xs.take ((256 * ((xs.getD 4 0).toNat)) + ((xs.getD 5 0).toNat)))))) (!(dTr3_1720_0 xs)) rfl (wantT rfl ma0) rfl (fun hg49 => ?_) ?_
    ·have qhg49 := hg49; try simp only [zA] at qhg49
     refine Yc.at (t := 50) (v0 := nV .u32 s) (lz (g := !(dTr3_1720_0 xs)) (u := undef) hg49 ma0) (Yc.at (t := 51) (v0 := nV .u32 d) (lz (g := !(dTr3_1720_0 xs)) (u := undef) hg49 ma0) (Yc.at (t := 54) (v0 := Value.slice a ((256 * ((xs.getD 4 0).toNat)) + ((xs.getD 5 0).toNat)) cap) (lz (g := !(dTr3_1720_0 xs)) (u := undef) hg49 ma0) ?_))
     exact Yc.call (fun _ => kr) (fun w_ hm_ => (dsumn_c s d (17 : UInt8) (xs.take ((256 * ((xs.getD 4 0).toNat)) + ((xs.getD 5 0).toNat))) a ((256 * ((xs.getD 4 0).toNat)) + ((xs.getD 5 0).toNat)) cap _ (by first | rfl | (rw [List.length_take]; omega) | (simp [be_len, be_len, psh_len]; done) | (simp [be_len, be_len, psh_len]; omega)) ((hat.mem0 hm_).mtake ((256 * ((xs.getD 4 0).toNat)) + ((xs.getD 5 0).toNat))) ma1 ma1 (by first | omega | (simp [be_len, be_len, psh_len]; omega)) ma11))
    refine Wl.guard (v := bV (((cks (psh s d (17 : UInt8) (xs.take ((256 * ((xs.getD 4 0).toNat)) + ((xs.getD 5 0).toNat))).length ++ (xs.take ((256 * ((xs.getD 4 0).toNat)) + ((xs.getD 5 0).toNat)))) : Nat) : Int) != 0)) (!(dTr3_1720_0 xs)) rfl (wantT rfl ma0) rfl (fun hg51 => ?_) ?_
    ·refine Ys.at (t := 55) (v0 := nV .u16 (cks (psh s d (17 : UInt8) (xs.take ((256 * ((xs.getD 4 0).toNat)) + ((xs.getD 5 0).toNat))).length ++ (xs.take ((256 * ((xs.getD 4 0).toNat)) + ((xs.getD 5 0).toNat)))))) (lz (g := !(dTr3_1720_0 xs)) (u := undef) hg51 ma0) ?_
     exact Ys.pure (fun _ => kr)
    refine Wl.ys (v := bV ((!(dTr3_1720_0 xs)) && (((cks (psh s d (17 : UInt8) (xs.take ((256 * ((xs.getD 4 0).toNat)) + ((xs.getD 5 0).toNat))).length ++ (xs.take ((256 * ((xs.getD 4 0).toNat)) + ((xs.getD 5 0).toNat)))) : Nat) : Int) != 0))) rfl rfl (Ys.and (e := !(dTr3_1720_0 xs)) (b := (cks (psh s d (17 : UInt8) (xs.take ((256 * ((xs.getD 4 0).toNat)) + ((xs.getD 5 0).toNat))).length ++ (xs.take ((256 * ((xs.getD 4 0).toNat)) + ((xs.getD 5 0).toNat)))) : Int) != 0) rfl ma0 ma0 ma0) (Wl.nil (hK43 _ _ _ (W.prune' [2, 6, 8, 9, 57] [Value.slice a xs.length cap, pV p6 0, nV .i64 ((256 * ((xs.getD 4 0).toNat)) + ((xs.getD 5 0).toNat)), bV (dTr3_1720_0 xs), bV ((!(dTr3_1720_0 xs)) && (((cks (psh s d (17 : UInt8) (xs.take ((256 * ((xs.getD 4 0).toNat)) + ((xs.getD 5 0).toNat))).length ++ (xs.take ((256 * ((xs.getD 4 0).toNat)) + ((xs.getD 5 0).toNat)))) : Nat) : Int) != 0))] ma0 (fun f52 => ?_))))
    refine W.cond ((!((((xs.getD 6 0).toNat : Int) == 0) && ((((xs.getD 7 0).toNat : Nat) : Int) == 0))) && (((cks (psh s d (17 : UInt8) (xs.take ((256 * ((xs.getD 4 0).toNat)) + ((xs.getD 5 0).toNat))).length ++ (xs.take ((256 * ((xs.getD 4 0).toNat)) + ((xs.getD 5 0).toNat)))) : Nat) : Int) != 0)) ma0 (fun h53 => ?_) (fun h54 => ?_)
    ·have qh53 := h53; try simp only [zA] at qh53
     refine W.seq (fun K55 hK55 => W.region (Wl.run 1 ma0 (Wl.ht rfl (Ht.storeN (b := p6) (o' := 0) (i := 0) (j := 0) (vs := dTr3_1720_1) (LL' := [cTr3_1720_0 p6]) rfl rfl ma0 ma0 Tryz.sizeOf124 ma7 rfl rfl ma6 rfl rfl) (fun _ => Wl.run 1 ma0 ?_))))
     refine Wl.nil (hK55 _ _ _ (W.prune' [6, 7] [pV p6 0, iV .i64 12] ma0 (fun f56 => W.ret ?_)))
     have htk : (xs.take (w2 xs 4)).length = w2 xs 4 := by rw [List.length_take]; omega
     have hlast : (w2 xs 6 ≠ 0 ∧ cks (psh s d 17 (w2 xs 4) ++ xs.take (w2 xs 4)) ≠ 0) := by have z_ := h53; rw [p67] at z_; rw [show cks (psh s d 17 (xs.take (256 * (xs.getD 4 0).toNat + (xs.getD 5 0).toNat)).length ++ xs.take (256 * (xs.getD 4 0).toNat + (xs.getD 5 0).toNat)) = cks (psh s d 17 (w2 xs 4) ++ xs.take (w2 xs 4)) from congrArg (fun q => cks (psh s d 17 q ++ xs.take (w2 xs 4))) htk] at z_; revert z_; generalize cks (psh s d 17 (w2 xs 4) ++ xs.take (w2 xs 4)) = c_; intro z_; by_cases h6 : w2 xs 6 = 0 <;> simp [h6] at z_ ⊢ <;> omega
     have hR : uR s d xs = 12 := by unfold uR; rw [if_neg ma1, if_neg ma1, if_neg ma1, if_pos hlast]
     have hG : ug s d xs = false := by unfold ug; rw [hR]; rfl
     have hD : uD s d xs = [] := by unfold uD; rw [hG]; rfl
     show ∀ w_, _ → bodyPostM (fence none) 0 Tryz.prog Tryz.f51 _ Exit.ret _ w_
     exact fun w_ hS_ => fin_ret (ret2 rfl (RV.cellN (b := p6) (o' := 0) (i := 0) (j := 0) (cs := zl2) (vs := zl2) ma0 Tryz.isAgg124 Tryz.sizeOf124 rfl rfl rfl rfl) (RV.tmp (v := iV .i64 12) ma0) hS_ ⟨FS.nul, (by rw [hD]; exact FS.nul_ok 1), congrArg Ending.returned ((by simp only [uF, uP, hG, cond_false, Bool.false_and, hR, hD]; rfl)), (Mem.cast (by rw [hD]; rfl) (Mem.push (hS_.pick [] ma2 rfl)))⟩)
    ·have qh54 := h54; try simp only [zA] at qh54
     refine W.skip' (hK42 _ _ _ (W.prune' [2, 6, 8, 9] [Value.slice a xs.length cap, pV p6 0, nV .i64 ((256 * ((xs.getD 4 0).toNat)) + ((xs.getD 5 0).toNat)), bV (dTr3_1720_0 xs)] ma0 (fun f57 => W.seq (fun K58 hK58 => W.draws [(0, true), (1, true), (2, true), (3, true), (4, true), (5, true), (6, true), (7, true), (8, true), (9, true), (10, true), (11, true), (12, true), (13, true), (14, true), (15, true), (16, true), (17, true), (18, true), (19, true), (20, true), (22, true), (23, true), (24, true), (21, false), (25, false), (26, false), (27, false), (28, false)] [0, 1, 2, 3, 4, 5, 6, 7, 8, 9, 10, 11, 12, 13, 14, 15, 16, 17, 18, 19, 20, 22, 23, 24] (Mem w [] [cTr3_1720_0 p6]) ma0 ma0 ma0 rfl ma0 (fun _ _ h_ => h_.drawn _) (fun _ h_ => h_) ?_))))
     refine Wd.run 1 ma0 (Wd.ys (v := Value.pointer (some (ela a 0))) rfl rfl rfl (Ys.byMem fun w_ h_ => Ys.indexAddr (k := .i64) (a := a) (len := xs.length) (cap := cap) (i := 0) (sz := 1) rfl ma0 ma0 Tryz.runUnderlying38 Tryz.sizeOf5 ma1 ma1 ((hat.mem0 h_).here ma14)) (Wd.ys (v := nV .u8 ((xs.getD 0 0).toNat)) rfl rfl rfl (Ys.ld (a := ela a 0) rfl ma0 Tryz.isAgg5 (fun w_ h_ => (hat.mem0 h_).ld (mc_get 0 ma11))) ?_))
     have hb59 : (xs.getD 0 0).toNat < 256 := UInt8.toNat_lt _
     refine Wd.ys (v := nV .u16 ((xs.getD 0 0).toNat)) rfl rfl rfl ((Ys.pure (v := .int .u16 (icnv .u16 ((xs.getD 0 0).toNat : Int))) (fun _ => kr)).conseq (int_congr (wrap_u16 ma1 ma1))) (Wd.ys (v := nV .u16 (256 * ((xs.getD 0 0).toNat))) rfl rfl rfl ((Ys.pure (v := .int .u16 (imul .u16 ((256 : Nat) : Int) ((xs.getD 0 0).toNat : Int))) (fun _ => kr)).conseq (int_congr (imul_natu rfl ma27))) (Wd.run 1 ma0 (Wd.ys (v := Value.pointer (some (ela a 1))) rfl rfl rfl (Ys.byMem fun w_ h_ => Ys.indexAddr (k := .i64) (a := a) (len := xs.length) (cap := cap) (i := 1) (sz := 1) rfl ma0 ma0 Tryz.runUnderlying38 Tryz.sizeOf5 ma1 ma1 ((hat.mem0 h_).here ma14)) (Wd.ys (v := nV .u8 ((xs.getD 1 0).toNat)) rfl rfl rfl (Ys.ld (a := ela a 1) rfl ma0 Tryz.isAgg5 (fun w_ h_ => (hat.mem0 h_).ld (mc_get 0 ma11))) ?_))))
     have hb60 : (xs.getD 1 0).toNat < 256 := UInt8.toNat_lt _
     refine Wd.ys (v := nV .u16 ((xs.getD 1 0).toNat)) rfl rfl rfl ((Ys.pure (v := .int .u16 (icnv .u16 ((xs.getD 1 0).toNat : Int))) (fun _ => kr)).conseq (int_congr (wrap_u16 ma1 ma1))) (Wd.ys (v := nV .u16 ((256 * ((xs.getD 0 0).toNat)) + ((xs.getD 1 0).toNat))) rfl rfl rfl ((Ys.pure (v := .int .u16 (iadd .u16 ((256 * ((xs.getD 0 0).toNat) : Nat) : Int) ((xs.getD 1 0).toNat : Int))) (fun _ => kr)).conseq (int_congr (iadd_natu rfl ma27))) (Wd.run 1 ma0 (Wd.ys (v := Value.pointer (some (ela a 2))) rfl rfl rfl (Ys.byMem fun w_ h_ => Ys.indexAddr (k := .i64) (a := a) (len := xs.length) (cap := cap) (i := 2) (sz := 1) rfl ma0 ma0 Tryz.runUnderlying38 Tryz.sizeOf5 ma1 ma1 ((hat.mem0 h_).here ma14)) (Wd.ys (v := nV .u8 ((xs.getD 2 0).toNat)) rfl rfl rfl (Ys.ld (a := ela a 2) rfl ma0 Tryz.isAgg5 (fun w_ h_ => (hat.mem0 h_).ld (mc_get 0 ma11))) ?_))))
     have hb61 : (xs.getD 2 0).toNat < 256 := UInt8.toNat_lt _
     refine Wd.ys (v := nV .u16 ((xs.getD 2 0).toNat)) rfl rfl rfl ((Ys.pure (v := .int .u16 (icnv .u16 ((xs.getD 2 0).toNat : Int))) (fun _ => kr)).conseq (int_congr (wrap_u16 ma1 ma1))) (Wd.ys (v := nV .u16 (256 * ((xs.getD 2 0).toNat))) rfl rfl rfl ((Ys.pure (v := .int .u16 (imul .u16 ((256 : Nat) : Int) ((xs.getD 2 0).toNat : Int))) (fun _ => kr)).conseq (int_congr (imul_natu rfl ma27))) (Wd.run 1 ma0 (Wd.ys (v := Value.pointer (some (ela a 3))) rfl rfl rfl (Ys.byMem fun w_ h_ => Ys.indexAddr (k := .i64) (a := a) (len := xs.length) (cap := cap) (i := 3) (sz := 1) rfl ma0 ma0 Tryz.runUnderlying38 Tryz.sizeOf5 ma1 ma1 ((hat.mem0 h_).here ma14)) (Wd.ys (v := nV .u8 ((xs.getD 3 0).toNat)) rfl rfl rfl (Ys.ld (a := ela a 3) rfl ma0 Tryz.isAgg5 (fun w_ h_ => (hat.mem0 h_).ld (mc_get 0 ma11))) ?_))))
     have hb62 : (xs.getD 3 0).toNat < 256 := UInt8.toNat_lt _
     refine Wd.ys (v := nV .u16 ((xs.getD 3 0).toNat)) rfl rfl rfl ((Ys.pure (v := .int .u16 (icnv .u16 ((xs.getD 3 0).toNat : Int))) (fun _ => kr)).conseq (int_congr (wrap_u16 ma1 ma1))) (Wd.ys (v := nV .u16 ((256 * ((xs.getD 2 0).toNat)) + ((xs.getD 3 0).toNat))) rfl rfl rfl ((Ys.pure (v := .int .u16 (iadd .u16 ((256 * ((xs.getD 2 0).toNat) : Nat) : Int) ((xs.getD 3 0).toNat : Int))) (fun _ => kr)).conseq (int_congr (iadd_natu rfl ma27))) (Wd.run 3 ma0 (Wd.ys (v := Value.slice (sla a cap 8 1) (((256 * ((xs.getD 4 0).toNat)) + ((xs.getD 5 0).toNat)) - 8) (cap - 8)) rfl rfl rfl (Ys.sliceLH (a := a) (len := xs.length) (cap := cap) (sz := 1) (k := .i64) (i := 8) (k' := .i64) (j := (((256 * ((xs.getD 4 0).toNat)) + ((xs.getD 5 0).toNat) : Nat) : Int)) rfl ma0 ma0 ma0 Tryz.runUnderlying38 Tryz.sizeOf5 ma1 ma1 ma1) (Wd.ht rfl rfl (Ht.made (mk := fun b_ => .slice (some ⟨b_, 0, none⟩) 0 0) (t := 5) (cs := []) rfl (fun _ => kr)) (.inr fun _ _ h_ => h_.pick [1] ma2 rfl) (fun p80 => ?_)))))
     refine Wd.htS rfl rfl (HtS.append (eu := 5) (xv := Value.slice (sla a cap 8 1) (((256 * ((xs.getD 4 0).toNat)) + ((xs.getD 5 0).toNat)) - 8) (cap - 8)) (i := 0) (g := (FS.mk false p80 0 [])) (e := 5) (ii := (Tryz.prog.info? 5).getD default) (z := iV .u8 0) (sz := 1) (bytes := 1) (nn := 0) (m := ((256 * ((xs.getD 4 0).toNat)) + ((xs.getD 5 0).toNat)) - 8) (k := ((256 * ((xs.getD 4 0).toNat)) + ((xs.getD 5 0).toNat)) - 8) (xs := mc b8 []) (news := mc b8 ((xs.drop 8).take (((256 * ((xs.getD 4 0).toNat)) + ((xs.getD 5 0).toNat)) - 8))) (cs' := mc b8 ((xs.drop 8).take (((256 * ((xs.getD 4 0).toNat)) + ((xs.getD 5 0).toNat)) - 8))) (Lo := fun g63 => [g63.seg 5 (mc b8 ((xs.drop 8).take (((256 * ((xs.getD 4 0).toNat)) + ((xs.getD 5 0).toNat)) - 8))), cTr3_1720_0 p6]) rfl rfl ma0 ma0 ma0 ma0 ma0 ma0 ma0 ma0 ma0 rfl (FS.lit_ok ma2) (by first | rfl | simp [mc, be_len, psh_len]) (fun _ => rfl) (Src.at (a := sla a cap 8 1) ma4 (fun w_ h_ => (((hat.mem0 h_).mdrop cap 8 ma1).mtake (((256 * ((xs.getD 4 0).toNat)) + ((xs.getD 5 0).toNat)) - 8)))) ma4 (mc_one (fun _ => rfl) _) ma5 ma8 ma5 rfl (fun _ => rfl)) (.inr fun _ _ h_ => h_.pick [1] ma2 rfl) (fun g63 hx68 => ?_)
     obtain ⟨ok64, hn65, hn66⟩ := hx68
     refine Wd.yc (v := aV (dTr3_1720_2 g63 xs)) rfl rfl rfl (Ys.yc (Ys.pure (fun _ => kr))) (.inr fun _ h_ => h_.pick [1] ma2 rfl) (Wd.ht rfl rfl (Ht.storeN (b := p6) (o' := 0) (i := 1) (j := 0) (vs := (dTr3_1720_2 g63 xs)) (LL' := [g63.seg 5 (mc b8 ((xs.drop 8).take (((256 * ((xs.getD 4 0).toNat)) + ((xs.getD 5 0).toNat)) - 8))), [cb p6 (dTr3_1720_2 g63 xs) 124]]) rfl rfl ma0 ma0 Tryz.sizeOf124 ma7 rfl rfl ma6 rfl rfl) (.inl ma0) (fun _ => ?_))
     refine Wd.yc (v := iV .i64 0) rfl rfl rfl (Ys.yc (Ys.pure (fun _ => kr))) (.inl ma0) (Wd.nil (hK58 _ _ _ (W.prune' [6, 7] [pV p6 0, iV .i64 0] ma0 (fun f69 => W.ret ?_))))
     have htk : (xs.take (w2 xs 4)).length = w2 xs 4 := by rw [List.length_take]; omega
     have hlast : ¬ (w2 xs 6 ≠ 0 ∧ cks (psh s d 17 (w2 xs 4) ++ xs.take (w2 xs 4)) ≠ 0) := by have z_ := h54; rw [p67] at z_; rw [show cks (psh s d 17 (xs.take (256 * (xs.getD 4 0).toNat + (xs.getD 5 0).toNat)).length ++ xs.take (256 * (xs.getD 4 0).toNat + (xs.getD 5 0).toNat)) = cks (psh s d 17 (w2 xs 4) ++ xs.take (w2 xs 4)) from congrArg (fun q => cks (psh s d 17 q ++ xs.take (w2 xs 4))) htk] at z_; revert z_; generalize cks (psh s d 17 (w2 xs 4) ++ xs.take (w2 xs 4)) = c_; intro z_; by_cases h6 : w2 xs 6 = 0 <;> simp [h6] at z_ ⊢ <;> omega
     have hR : uR s d xs = 0 := by unfold uR; rw [if_neg ma1, if_neg ma1, if_neg ma1, if_neg hlast]
     have hG : ug s d xs = true := by unfold ug; rw [hR]; rfl
     have hD : uD s d xs = (xs.drop 8).take (((256 * ((xs.getD 4 0).toNat)) + ((xs.getD 5 0).toNat)) - 8) := by unfold uD; rw [hG]; rfl
     have hDl : (uD s d xs).length = ((256 * ((xs.getD 4 0).toNat)) + ((xs.getD 5 0).toNat)) - 8 := by rw [hD]; try (rw [List.length_take, List.length_drop]; omega)
     show ∀ w_, _ → bodyPostM (fence none) 0 Tryz.prog Tryz.f51 _ Exit.ret _ w_
     exact fun w_ hS_ => fin_ret (ret2 rfl (RV.cellN (b := p6) (o' := 0) (i := 1) (j := 0) (cs := [nV .u16 ((256 * ((xs.getD 0 0).toNat)) + ((xs.getD 1 0).toNat)), nV .u16 ((256 * ((xs.getD 2 0).toNat)) + ((xs.getD 3 0).toNat)), bV ((((xs.getD 6 0).toNat : Int) == 0) && ((((xs.getD 7 0).toNat : Nat) : Int) == 0)), sV g63 (((256 * ((xs.getD 4 0).toNat)) + ((xs.getD 5 0).toNat)) - 8)]) (vs := [nV .u16 ((256 * ((xs.getD 0 0).toNat)) + ((xs.getD 1 0).toNat)), nV .u16 ((256 * ((xs.getD 2 0).toNat)) + ((xs.getD 3 0).toNat)), bV ((((xs.getD 6 0).toNat : Int) == 0) && ((((xs.getD 7 0).toNat : Nat) : Int) == 0)), sV g63 (((256 * ((xs.getD 4 0).toNat)) + ((xs.getD 5 0).toNat)) - 8)]) ma0 Tryz.isAgg124 Tryz.sizeOf124 rfl rfl rfl rfl) (RV.tmp (v := iV .i64 0) ma0) hS_ ⟨g63, (by rw [hDl]; exact ok64), congrArg Ending.returned ((by rw [hDl]; (try rw [p67]); simp only [uF, uP, hG, cond_true, Bool.true_and, hR, z60, Nat.mod_eq_of_lt (w2_lt xs _)]; try rfl)), (Mem.cast (by rw [hD]; rfl) (hS_.pick [0] ma2 rfl))⟩)
end Go.Proofs.YtmonlaoaengfdaaGreatDoor.Oct
