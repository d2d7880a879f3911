import Derived.Test.YtejeafjkhomdoaaKOct13
set_option linter.unusedVariables false
set_option linter.unusedSimpArgs false
set_option maxRecDepth 20000
namespace Go.Proofs.Ytejeafjkhomdoaa.Oct
open Go.RowKit Base
attribute [local irreducible] Ys Yc Ht HtS HtIn Wl Wd W Mem pf dpf
abbrev c2 (p : Nat × Nat) : List Value := [n16 p.1, n16 p.2]
def upl (n : Nat) (ls : List (Nat × Nat)) : Nat := ls.foldl (fun n p => upc n p.1 p.2) n
theorem upl_step {n : Nat} {ls : List (Nat × Nat)} {k : Nat} (h : k < ls.length) : upl n (ls.take (k + 1)) = upc (upl n (ls.take k)) (ls.getD k default).1 (ls.getD k default).2 := by
  unfold upl; rw [List.take_add_one, List.foldl_append]; simp [h]
theorem upl_lt {n : Nat} (hn : n < 65536) (ls : List (Nat × Nat)) : upl n ls < 65536 := by
  unfold upl
  induction ls generalizing n with
  | nil => exact hn
  | cons p ls ih => exact ih (show upc n p.1 p.2 < 65536 from by have := upc_le n p.1 p.2; omega)
theorem ls_in {ls : List (Nat × Nat)} {k : Nat} (hb : ∀ p ∈ ls, p.1 < 65536 ∧ p.2 < 65536) (h : k < ls.length) : (ls.getD k default).1 < 65536 ∧ (ls.getD k default).2 < 65536 := by
  rw [List.getD_eq_getElem?_getD, List.getElem?_eq_getElem h]; exact hb _ (List.getElem_mem h)
theorem update_c (n : Nat) (ls : List (Nat × Nat)) (a : Option Addr) (cap : Nat) (w : World) (hat : At w a (mm c2 ls)) (hn : n < 65536) (hb : ∀ p ∈ ls, p.1 < 65536 ∧ p.2 < 65536) (hl : ls.length ≤ 9223372036854775807) : Calls Try.prog 70 #[nV .u16 n, Value.slice a ls.length cap] w (Ret w (.int .u16 (upl n ls : Int))) := by
 refine calls_W (M := []) (LL := []) (n := 29) Try.func70 rfl rfl ma10 (Mem.refl _) (W.seq (fun K1 hK1 => ?_))
 refine W.region (Wl.run 1 ma0 (Wl.nil (hK1 _ _ _ (W.seq (fun K2 hK2 => ?_)))))
 refine W.seq (fun K3 hK3 => W.region (Wl.run 3 ma0 (Wl.nil (hK3 _ _ _ ?_))))
 refine W.block (W.loop1 [0, 7, 8, 9] (fun (k : Nat) => [nV .u16 (upl n (ls.take k)), Value.slice a ls.length cap, nV .i64 ls.length, nV .i64 k]) (fun (k : Nat) => k ≤ ls.length) (fun (k : Nat) => []) (fun (k : Nat) => ls.length - k) 0 ma0 ma26 (by rfl) (fun k f5 J4 hp6 hJ4 => ?_))
 have hk := hp6
 have hul := upl_lt hn (ls.take k); have hfl := fd_le (65535 - upl n (ls.take k) + (65535 - (ls.getD k default).1) + (ls.getD k default).2)
 refine W.seq (fun K7 hK7 => W.region (Wl.run 1 ma0 (Wl.nil (hK7 _ _ _ ?_))))
 refine W.seq (fun K8 hK8 => ?_)
 refine W.cond (decide (((k : Nat) : Int) < (ls.length : Int))) ma0 (fun h9 => ?_) (fun h10 => ?_)
 ·have qh9 := h9; try simp only [zA] at qh9
  refine W.skip' (hK8 _ _ _ (W.seq (fun K11 hK11 => W.block (W.seq (fun K12 hK12 => ?_)))))
  refine W.region (Wl.ys (v := Value.pointer (some (ela a (k * 2)))) rfl rfl (Ys.byMem fun w_ h_ => Ys.indexAddr (k := .i64) (a := a) (len := ls.length) (cap := cap) (i := (k : Int)) (sz := 2) rfl ma0 ma0 Try.runUnderlying117 Try.sizeOf120 ma1 ma1 ((hat.mem0 h_).here (by rw [mm_len (g := c2) (sz := 2) (fun _ => rfl)]; first | omega | (simp; omega)))) (Wl.ys (v := aV [nV .u16 ((ls.getD k default).1), nV .u16 ((ls.getD k default).2)]) rfl rfl (Ys.ldN (a := ela a (k * 2)) (vs := [nV .u16 ((ls.getD k default).1), nV .u16 ((ls.getD k default).2)]) rfl ma0 Try.isAgg120 Try.sizeOf120 rfl (fun w_ h_ => (hat.mem0 h_).ldN (mm_get (g := c2) (sz := 2) (fun _ => rfl) default (xs := ls) (k := k) ma1))) ?_))
  have hb13 := ls_in hb (k := k) ma1
  refine Wl.ht rfl (Ht.alloc (z := aV [iV .u16 0, iV .u16 0]) (cs := [iV .u16 0, iV .u16 0]) rfl rfl Try.zeroValue120 rfl) (fun p6 => Wl.ht rfl (Ht.storeN (b := p6) (o' := 0) (i := 0) (j := 0) (vs := [nV .u16 ((ls.getD k default).1), nV .u16 ((ls.getD k default).2)]) (LL' := [[cb p6 [nV .u16 ((ls.getD k default).1), nV .u16 ((ls.getD k default).2)] 120]]) rfl rfl ma0 ma0 Try.sizeOf120 ma9 rfl rfl ma10 rfl rfl) (fun _ => ?_))
  refine Wl.nil (hK12 _ _ _ (W.region (Wl.run 1 ma0 (Wl.ys (v := nV .u16 (65535 - (upl n (ls.take k)))) rfl rfl ((Ys.pure (v := .int .u16 (bxor .u16 ((65535 : Nat) : Int) (upl n (ls.take k) : Int))) (fun _ => kr)).conseq (int_congr (bnot_nat rfl ma20 65535 rfl))) ?_))))
  refine Wl.ys (v := nV .u64 (65535 - (upl n (ls.take k)))) rfl rfl ((Ys.pure (v := .int .u64 (icnv .u64 ((65535 - (upl n (ls.take k)) : Nat) : Int))) (fun _ => kr)).conseq (int_congr (wrap_u64 ma1 ma1))) (Wl.run 1 ma0 (Wl.ys rfl rfl (Ys.l1 p6 0 0 0 Try.isAgg22) (Wl.ys (v := nV .u16 (65535 - ((ls.getD k default).1))) rfl rfl ((Ys.pure (v := .int .u16 (bxor .u16 ((65535 : Nat) : Int) ((ls.getD k default).1 : Int))) (fun _ => kr)).conseq (int_congr (bnot_nat rfl ma20 65535 rfl))) (Wl.ys (v := nV .u64 (65535 - ((ls.getD k default).1))) rfl rfl ((Ys.pure (v := .int .u64 (icnv .u64 ((65535 - ((ls.getD k default).1) : Nat) : Int))) (fun _ => kr)).conseq (int_congr (wrap_u64 ma1 ma1))) ?_))))
  refine Wl.ys (v := nV .u64 ((65535 - (upl n (ls.take k))) + (65535 - ((ls.getD k default).1)))) rfl rfl ((Ys.pure (v := .int .u64 (iadd .u64 ((65535 - (upl n (ls.take k)) : Nat) : Int) ((65535 - ((ls.getD k default).1) : Nat) : Int))) (fun _ => kr)).conseq (int_congr (iadd_natu rfl ma27))) (Wl.run 1 ma0 (Wl.ys rfl rfl (Ys.l1 p6 1 0 0 Try.isAgg22) (Wl.ys (v := nV .u64 ((ls.getD k default).2)) rfl rfl ((Ys.pure (v := .int .u64 (icnv .u64 ((ls.getD k default).2 : Int))) (fun _ => kr)).conseq (int_congr (wrap_u64 ma1 ma1))) (Wl.ys (v := nV .u64 (((65535 - (upl n (ls.take k))) + (65535 - ((ls.getD k default).1))) + ((ls.getD k default).2))) rfl rfl ((Ys.pure (v := .int .u64 (iadd .u64 (((65535 - (upl n (ls.take k))) + (65535 - ((ls.getD k default).1)) : Nat) : Int) ((ls.getD k default).2 : Int))) (fun _ => kr)).conseq (int_congr (iadd_natu rfl ma27))) ?_))))
  refine Wl.yc (v := nV .u16 (fd (((65535 - (upl n (ls.take k))) + (65535 - ((ls.getD k default).1))) + ((ls.getD k default).2)))) rfl rfl (Yc.call (fun _ => kr) (fun w_ hm_ => fold_c (((65535 - (upl n (ls.take k))) + (65535 - ((ls.getD k default).1))) + ((ls.getD k default).2)) _ ma1)) (Wl.ys (v := nV .u16 (65535 - (fd (((65535 - (upl n (ls.take k))) + (65535 - ((ls.getD k default).1))) + ((ls.getD k default).2))))) rfl rfl ((Ys.pure (v := .int .u16 (bxor .u16 ((65535 : Nat) : Int) (fd (((65535 - (upl n (ls.take k))) + (65535 - ((ls.getD k default).1))) + ((ls.getD k default).2)) : Int))) (fun _ => kr)).conseq (int_congr (bnot_nat rfl ma20 65535 rfl))) (Wl.run 1 ma0 (Wl.nil (hK11 _ _ _ ?_))))
  refine W.pick (LL' := []) [] ma2 rfl (W.prune' [0, 7, 8, 9] [nV .u16 (65535 - (fd (((65535 - (upl n (ls.take k))) + (65535 - ((ls.getD k default).1))) + ((ls.getD k default).2)))), Value.slice a ls.length cap, nV .i64 ls.length, nV .i64 k] ma0 (fun f14 => ?_))
  refine W.region (Wl.ys (v := nV .i64 (k + 1)) rfl rfl ((Ys.pure (v := .int .i64 (iadd .i64 (k : Int) 1)) (fun _ => kr)).conseq (int_congr (iadd_eq ma1 ma1 ma1))) (Wl.run 1 ma0 (Wl.nil ?_)))
  refine fun w_ h_ => hJ4 (k + 1) _ w_ ma1 ma26 ?_ h_
  refine Eq.trans (b := ([nV .u16 (65535 - (fd (((65535 - (upl n (ls.take k))) + (65535 - ((ls.getD k default).1))) + ((ls.getD k default).2)))), Value.slice a ls.length cap, nV .i64 ls.length, nV .i64 (k + 1)] : List Value)) ma0 (by rw [upl_step ma1]; try rfl)
 ·have qh10 := h10; try simp only [zA] at qh10
  refine W.exit (hK2 _ _ _ (W.seq (fun K15 hK15 => W.region (Wl.run 2 ma0 ?_))))
  refine Wl.nil (hK15 _ _ _ (W.ret ?_))
  show ∀ w_, _ → bodyPostM (fence none) 0 Try.prog Try.f70 _ Exit.ret _ w_
  exact fun w_ hS_ => fin_ret (ret1 rfl (RV.tmp (v := nV .u16 (upl n (ls.take k))) ma0) hS_ ⟨by clear hK1 hK2 hK3 hJ4 hK7 hK8 hK15; refine congrArg Ending.returned ?_; exact int_congr (by rw [List.take_of_length_le ma1]), hS_.below⟩)
theorem updaten_c (n : Nat) (ls : List (Nat × Nat)) (a : Option Addr) (len cap : Nat) (w : World) (hlen : len = ls.length) (hat : At w a (mm c2 ls)) (hn : n < 65536) (hb : ∀ p ∈ ls, p.1 < 65536 ∧ p.2 < 65536) (hl : ls.length ≤ 9223372036854775807) :
    Calls Try.prog 70 #[.int .u16 (n : Int), .slice a len cap] w (Ret w (.int .u16 (upl n ls : Int))) := by
  subst hlen; exact update_c n ls a cap w hat hn hb hl
end Go.Proofs.Ytejeafjkhomdoaa.Oct
