/-
  SumUpdates. No condition.
-/
import Derived.Test.YtegeijaicjackaaOct14
set_option linter.unusedVariables false
set_option linter.unusedSimpArgs false
set_option maxRecDepth 20000
namespace Go.Proofs.Ytegeijaicjackaa.Oct
open Go.RowKit Base
attribute [local irreducible] Ys Yc Ht HtIn Wl Wd W Mem pf dpf

/-- Two numbers of two bytes. -/
abbrev c2 (p : Nat × Nat) : List Value := [n16 p.1, n16 p.2]
/-- A check sum behind some changes. -/
def upl (n : Nat) (ls : List (Nat × Nat)) : Nat := ls.foldl (fun n p => upc n p.1 p.2) n
theorem upl_step {n : Nat} {ls : List (Nat × Nat)} {k : Nat} (h : k < ls.length) : upl n (ls.take (k + 1)) = upc (upl n (ls.take k)) (ls.getD k default).1 (ls.getD k default).2 := by
  unfold upl; rw [List.take_add_one, List.foldl_append]; simp [h]
theorem upl_lt {n : Nat} (hn : n < 65536) (ls : List (Nat × Nat)) : upl n ls < 65536 := by
  unfold upl
  induction ls generalizing n with
  | nil => exact hn
  | cons p ls ih => exact ih (show upc n p.1 p.2 < 65536 from by have := upc_le n p.1 p.2; omega)
theorem ls_in {ls : List (Nat × Nat)} {k : Nat} (hb : ∀ p ∈ ls, p.1 < 65536 ∧ p.2 < 65536) (h : k < ls.length) : (ls.getD k default).1 < 65536 ∧ (ls.getD k default).2 < 65536 := by
  rw [List.getD_eq_getElem?_getD, List.getElem?_eq_getElem h]; exact hb _ (List.getElem_mem h)
theorem update_c (n : Nat) (ls : List (Nat × Nat)) (a : Option Addr) (cap : Nat) (w : World) (hat : At w a (mm c2 ls)) (hn : n < 65536) (hb : ∀ p ∈ ls, p.1 < 65536 ∧ p.2 < 65536) (hl : ls.length ≤ 9223372036854775807) : Calls Try.prog 31 #[Value.int .u16 ((n : Nat) : Int), Value.slice a ls.length cap] w (Ret w (.int .u16 ((upl n ls : Nat) : Int))) := by
  refine calls_W (M := []) (LL := []) (n := 29) Try.func31 rfl rfl (by simp) (Mem.refl _) ?_
  refine W.seq (fun K1 hK1 => ?_)
  refine W.region ?_
  refine Wl.run 1 (by kernel_rfl) ?_
  refine Wl.nil ?_
  refine hK1 _ _ _ ?_
  refine W.seq (fun K2 hK2 => ?_)
  refine W.seq (fun K3 hK3 => ?_)
  refine W.region ?_
  refine Wl.run 3 (by kernel_rfl) ?_
  refine Wl.nil ?_
  refine hK3 _ _ _ ?_
  refine W.prune' [0, 7, 8, 9] [Value.int .u16 ((n : Nat) : Int), Value.slice a ls.length cap, Value.int .i64 ((ls.length : Nat) : Int), Value.int .i64 0] (by kernel_rfl) (fun f4 => ?_)
  refine W.block ?_
  refine W.loop1 [0, 7, 8, 9] (fun (k : Nat) => [Value.int .u16 ((upl n (ls.take k) : Nat) : Int), Value.slice a ls.length cap, Value.int .i64 ((ls.length : Nat) : Int), Value.int .i64 ((k : Nat) : Int)]) (fun (k : Nat) => k ≤ ls.length) (fun (k : Nat) => []) (fun (k : Nat) => ls.length - k) 0 (by kernel_rfl) (by first | omega | trivial | simp) (by rfl) (fun k f6 J5 hp7 hJ5 => ?_)
  have hk := hp7
  have hul := upl_lt hn (ls.take k); have hfl := fd_le (65535 - upl n (ls.take k) + (65535 - (ls.getD k default).1) + (ls.getD k default).2)
  refine W.seq (fun K8 hK8 => ?_)
  refine W.region ?_
  refine Wl.run 1 (by kernel_rfl) ?_
  refine Wl.nil ?_
  refine hK8 _ _ _ ?_
  refine W.seq (fun K9 hK9 => ?_)
  refine W.cond (decide (((k : Nat) : Int) < ((ls.length : Nat) : Int))) (by kernel_rfl) (fun h10 => ?_) (fun h11 => ?_)
  · have qh10 := h10; try simp only [Bool.and_eq_true, Bool.or_eq_true, Bool.not_eq_true', Bool.not_eq_false', Bool.and_eq_false_iff, Bool.or_eq_false_iff, decide_eq_true_eq, decide_eq_false_iff_not, beq_iff_eq, bne_iff_ne, beq_eq_false_iff_ne, bne_eq_false_iff_eq] at qh10
    refine W.skip' ?_
    refine hK9 _ _ _ ?_
    refine W.prune' [0, 7, 8, 9] [Value.int .u16 ((upl n (ls.take k) : Nat) : Int), Value.slice a ls.length cap, Value.int .i64 ((ls.length : Nat) : Int), Value.int .i64 ((k : Nat) : Int)] (by kernel_rfl) (fun f12 => ?_)
    refine W.seq (fun K13 hK13 => ?_)
    refine W.block ?_
    refine W.seq (fun K14 hK14 => ?_)
    refine W.region ?_
    refine Wl.ys (v := Value.pointer (some (ela a (k * 2)))) rfl rfl (Ys.byMem fun w_ h_ => Ys.indexAddr (k := .i64) (a := a) (len := ls.length) (cap := cap) (i := ((k : Nat) : Int)) (sz := 2) rfl (by kernel_rfl) (by kernel_rfl) Try.runUnderlying50 Try.sizeOf51 (by omega) (by omega) ((hat.mem0 h_).here (by rw [mm_len (g := c2) (sz := 2) (fun _ => rfl)]; first | omega | (simp; omega)))) ?_
    refine Wl.ys (v := Value.agg ([Value.int .u16 (((ls.getD k default).1 : Nat) : Int), Value.int .u16 (((ls.getD k default).2 : Nat) : Int)]).toArray) rfl rfl (Ys.ldN (a := ela a (k * 2)) (vs := [Value.int .u16 (((ls.getD k default).1 : Nat) : Int), Value.int .u16 (((ls.getD k default).2 : Nat) : Int)]) rfl (by kernel_rfl) Try.isAgg51 Try.sizeOf51 rfl (fun w_ h_ => (hat.mem0 h_).ldN (mm_get (g := c2) (sz := 2) (fun _ => rfl) default (xs := ls) (k := k) (by omega)))) ?_
    have hb15 := ls_in hb (k := k) (by omega)
    refine Wl.ht rfl (Ht.alloc (z := Value.agg ([Value.int .u16 0, Value.int .u16 0]).toArray) (cs := [Value.int .u16 0, Value.int .u16 0]) rfl rfl Try.zeroValue51 rfl) (fun p6 => ?_)
    refine Wl.ht rfl (Ht.storeN (b := p6) (o' := 0) (i := 0) (j := 0) (cs := [Value.int .u16 0, Value.int .u16 0]) (vs := [Value.int .u16 (((ls.getD k default).1 : Nat) : Int), Value.int .u16 (((ls.getD k default).2 : Nat) : Int)]) (cs' := [Value.int .u16 (((ls.getD k default).1 : Nat) : Int), Value.int .u16 (((ls.getD k default).2 : Nat) : Int)]) (LL' := [[cb p6 [Value.int .u16 (((ls.getD k default).1 : Nat) : Int), Value.int .u16 (((ls.getD k default).2 : Nat) : Int)] 51]]) rfl rfl (by kernel_rfl) (by kernel_rfl) Try.sizeOf51 (by simp [Value.oneCell']) rfl rfl (by simp) rfl rfl) (fun _ => ?_)
    refine Wl.nil ?_
    refine hK14 _ _ _ ?_
    refine W.prune' [0, 6, 7, 8, 9] [Value.int .u16 ((upl n (ls.take k) : Nat) : Int), Value.pointer (some ⟨p6, 0, none⟩), Value.slice a ls.length cap, Value.int .i64 ((ls.length : Nat) : Int), Value.int .i64 ((k : Nat) : Int)] (by kernel_rfl) (fun f16 => ?_)
    refine W.region ?_
    refine Wl.run 1 (by kernel_rfl) ?_
    refine Wl.ys (v := Value.int .u16 ((65535 - (upl n (ls.take k)) : Nat) : Int)) rfl rfl ((Ys.pure (v := .int .u16 (bxor .u16 ((65535 : Nat) : Int) ((upl n (ls.take k) : Nat) : Int))) (fun _ => by kernel_rfl)).conseq (int_congr (bnot_nat rfl (by show _ < 65536; omega) 65535 rfl))) ?_
    refine Wl.ys (v := Value.int .u64 ((65535 - (upl n (ls.take k)) : Nat) : Int)) rfl rfl ((Ys.pure (v := .int .u64 (icnv .u64 ((65535 - (upl n (ls.take k)) : Nat) : Int))) (fun _ => by kernel_rfl)).conseq (int_congr (wrap_u64 (by omega) (by omega)))) ?_
    refine Wl.run 1 (by kernel_rfl) ?_
    refine Wl.ys (v := Value.int .u16 (((ls.getD k default).1 : Nat) : Int)) rfl rfl (Ys.load (b := p6) (o' := 0) (i := 0) (j := 0) (cs := [Value.int .u16 (((ls.getD k default).1 : Nat) : Int), Value.int .u16 (((ls.getD k default).2 : Nat) : Int)]) (v := Value.int .u16 (((ls.getD k default).1 : Nat) : Int)) rfl (by kernel_rfl) Try.isAgg27 rfl rfl rfl) ?_
    refine Wl.ys (v := Value.int .u16 ((65535 - ((ls.getD k default).1) : Nat) : Int)) rfl rfl ((Ys.pure (v := .int .u16 (bxor .u16 ((65535 : Nat) : Int) (((ls.getD k default).1 : Nat) : Int))) (fun _ => by kernel_rfl)).conseq (int_congr (bnot_nat rfl (by show _ < 65536; omega) 65535 rfl))) ?_
    refine Wl.ys (v := Value.int .u64 ((65535 - ((ls.getD k default).1) : Nat) : Int)) rfl rfl ((Ys.pure (v := .int .u64 (icnv .u64 ((65535 - ((ls.getD k default).1) : Nat) : Int))) (fun _ => by kernel_rfl)).conseq (int_congr (wrap_u64 (by omega) (by omega)))) ?_
    refine Wl.ys (v := Value.int .u64 (((65535 - (upl n (ls.take k))) + (65535 - ((ls.getD k default).1)) : Nat) : Int)) rfl rfl ((Ys.pure (v := .int .u64 (iadd .u64 ((65535 - (upl n (ls.take k)) : Nat) : Int) ((65535 - ((ls.getD k default).1) : Nat) : Int))) (fun _ => by kernel_rfl)).conseq (int_congr (iadd_natu rfl (by show _ < 18446744073709551616; omega)))) ?_
    refine Wl.run 1 (by kernel_rfl) ?_
    refine Wl.ys (v := Value.int .u16 (((ls.getD k default).2 : Nat) : Int)) rfl rfl (Ys.load (b := p6) (o' := 1) (i := 0) (j := 0) (cs := [Value.int .u16 (((ls.getD k default).1 : Nat) : Int), Value.int .u16 (((ls.getD k default).2 : Nat) : Int)]) (v := Value.int .u16 (((ls.getD k default).2 : Nat) : Int)) rfl (by kernel_rfl) Try.isAgg27 rfl rfl rfl) ?_
    refine Wl.ys (v := Value.int .u64 (((ls.getD k default).2 : Nat) : Int)) rfl rfl ((Ys.pure (v := .int .u64 (icnv .u64 (((ls.getD k default).2 : Nat) : Int))) (fun _ => by kernel_rfl)).conseq (int_congr (wrap_u64 (by omega) (by omega)))) ?_
    refine Wl.ys (v := Value.int .u64 ((((65535 - (upl n (ls.take k))) + (65535 - ((ls.getD k default).1))) + ((ls.getD k default).2) : Nat) : Int)) rfl rfl ((Ys.pure (v := .int .u64 (iadd .u64 (((65535 - (upl n (ls.take k))) + (65535 - ((ls.getD k default).1)) : Nat) : Int) (((ls.getD k default).2 : Nat) : Int))) (fun _ => by kernel_rfl)).conseq (int_congr (iadd_natu rfl (by show _ < 18446744073709551616; omega)))) ?_
    refine Wl.yc (v := Value.int .u16 ((fd (((65535 - (upl n (ls.take k))) + (65535 - ((ls.getD k default).1))) + ((ls.getD k default).2)) : Nat) : Int)) rfl rfl (Yc.call (k := 39) (args := #[Value.int .u64 ((((65535 - (upl n (ls.take k))) + (65535 - ((ls.getD k default).1))) + ((ls.getD k default).2) : Nat) : Int)]) (fun _ => by kernel_rfl) (fun w_ hm_ => fold_c (((65535 - (upl n (ls.take k))) + (65535 - ((ls.getD k default).1))) + ((ls.getD k default).2)) _ (by omega))) ?_
    refine Wl.ys (v := Value.int .u16 ((65535 - (fd (((65535 - (upl n (ls.take k))) + (65535 - ((ls.getD k default).1))) + ((ls.getD k default).2))) : Nat) : Int)) rfl rfl ((Ys.pure (v := .int .u16 (bxor .u16 ((65535 : Nat) : Int) ((fd (((65535 - (upl n (ls.take k))) + (65535 - ((ls.getD k default).1))) + ((ls.getD k default).2)) : Nat) : Int))) (fun _ => by kernel_rfl)).conseq (int_congr (bnot_nat rfl (by show _ < 65536; omega) 65535 rfl))) ?_
    refine Wl.run 1 (by kernel_rfl) ?_
    refine Wl.nil ?_
    refine hK13 _ _ _ ?_
    refine W.pick (LL' := []) [] (by decide) rfl ?_
    refine W.prune' [0, 7, 8, 9] [Value.int .u16 ((65535 - (fd (((65535 - (upl n (ls.take k))) + (65535 - ((ls.getD k default).1))) + ((ls.getD k default).2))) : Nat) : Int), Value.slice a ls.length cap, Value.int .i64 ((ls.length : Nat) : Int), Value.int .i64 ((k : Nat) : Int)] (by kernel_rfl) (fun f17 => ?_)
    refine W.region ?_
    refine Wl.ys (v := Value.int .i64 ((k + 1 : Nat) : Int)) rfl rfl ((Ys.pure (v := .int .i64 (iadd .i64 ((k : Nat) : Int) 1)) (fun _ => by kernel_rfl)).conseq (int_congr (iadd_eq (by omega) (by omega) (by omega)))) ?_
    refine Wl.run 1 (by kernel_rfl) ?_
    refine Wl.nil ?_
    refine fun w_ h_ => hJ5 (k + 1) _ w_ (by omega) (by first | omega | trivial | simp) ?_ h_
    refine Eq.trans (b := ([Value.int .u16 ((65535 - (fd (((65535 - (upl n (ls.take k))) + (65535 - ((ls.getD k default).1))) + ((ls.getD k default).2))) : Nat) : Int), Value.slice a ls.length cap, Value.int .i64 ((ls.length : Nat) : Int), Value.int .i64 ((k + 1 : Nat) : Int)] : List Value)) (by kernel_rfl) (by rw [upl_step (by omega)]; try rfl)
  · have qh11 := h11; try simp only [Bool.and_eq_true, Bool.or_eq_true, Bool.not_eq_true', Bool.not_eq_false', Bool.and_eq_false_iff, Bool.or_eq_false_iff, decide_eq_true_eq, decide_eq_false_iff_not, beq_iff_eq, bne_iff_ne, beq_eq_false_iff_ne, bne_eq_false_iff_eq] at qh11
    refine W.exit ?_
    refine hK2 _ _ _ ?_
    refine W.prune' [0] [Value.int .u16 ((upl n (ls.take k) : Nat) : Int)] (by kernel_rfl) (fun f18 => ?_)
    refine W.seq (fun K19 hK19 => ?_)
    refine W.region ?_
    refine Wl.run 2 (by kernel_rfl) ?_
    refine Wl.nil ?_
    refine hK19 _ _ _ ?_
    refine W.prune' [4] [Value.int .u16 ((upl n (ls.take k) : Nat) : Int)] (by kernel_rfl) (fun f20 => ?_)
    refine W.ret ?_
    show ∀ w_, _ → bodyPostM (fence none) 0 Try.prog Try.f31 _ Exit.ret _ w_
    exact fun w_ hS_ => fin_ret (ret1 rfl (RV.tmp (v := Value.int .u16 ((upl n (ls.take k) : Nat) : Int)) (by kernel_rfl)) hS_ ⟨by clear hK1 hK2 hK3 hJ5 hK8 hK9 hK19; refine congrArg Ending.returned ?_; exact int_congr (by rw [List.take_of_length_le (by omega)]), hS_.below⟩)

theorem updaten_c (n : Nat) (ls : List (Nat × Nat)) (a : Option Addr) (len cap : Nat) (w : World) (hlen : len = ls.length) (hat : At w a (mm c2 ls)) (hn : n < 65536) (hb : ∀ p ∈ ls, p.1 < 65536 ∧ p.2 < 65536) (hl : ls.length ≤ 9223372036854775807) :
    Calls Try.prog 31 #[.int .u16 ((n : Nat) : Int), .slice a len cap] w (Ret w (.int .u16 ((upl n ls : Nat) : Int))) := by
  subst hlen; exact update_c n ls a cap w hat hn hb hl

theorem sumupdates_c (n : Nat) (ls : List (Nat × Nat)) (a : Option Addr) (cap : Nat) (w : World) (hat : At w a (mm c2 ls)) (hn : n < 65536) (hb : ∀ p ∈ ls, p.1 < 65536 ∧ p.2 < 65536) (hl : ls.length ≤ 9223372036854775807) : Calls Try.prog 10 #[Value.int .u16 ((n : Nat) : Int), Value.slice a ls.length cap] w (Ret w (.bool true)) := by
  refine calls_W (M := []) (LL := []) (n := 38) Try.func10 rfl rfl (by simp) (Mem.refl _) ?_
  refine W.seq (fun K1 hK1 => ?_)
  refine W.region ?_
  refine Wl.run 1 (by kernel_rfl) ?_
  refine Wl.nil ?_
  refine hK1 _ _ _ ?_
  refine W.seq (fun K2 hK2 => ?_)
  refine W.seq (fun K3 hK3 => ?_)
  refine W.region ?_
  refine Wl.yc (v := Value.bool true) rfl rfl (Yc.call (k := 25) (args := #[]) (fun _ => by kernel_rfl) (fun w_ hm_ => speaks2_c _)) ?_
  refine Wl.run 1 (by kernel_rfl) ?_
  refine Wl.nil ?_
  refine hK3 _ _ _ ?_
  refine W.prune' [0, 1, 9] [Value.int .u16 ((n : Nat) : Int), Value.slice a ls.length cap, Value.bool false] (by kernel_rfl) (fun f4 => ?_)
  refine W.condF (by kernel_rfl) ?_
  refine W.skip' ?_
  refine hK2 _ _ _ ?_
  refine W.prune' [0, 1] [Value.int .u16 ((n : Nat) : Int), Value.slice a ls.length cap] (by kernel_rfl) (fun f5 => ?_)
  refine W.seq (fun K6 hK6 => ?_)
  refine W.seq (fun K7 hK7 => ?_)
  refine W.region ?_
  refine Wl.run 3 (by kernel_rfl) ?_
  refine Wl.nil ?_
  refine hK7 _ _ _ ?_
  refine W.prune' [0, 1, 12] [Value.int .u16 ((n : Nat) : Int), Value.slice a ls.length cap, Value.bool (decide (((ls.length : Nat) : Int) > 1000))] (by kernel_rfl) (fun f8 => ?_)
  refine W.cond (decide (((ls.length : Nat) : Int) > 1000)) (by kernel_rfl) (fun h9 => ?_) (fun h10 => ?_)
  · have qh9 := h9; try simp only [Bool.and_eq_true, Bool.or_eq_true, Bool.not_eq_true', Bool.not_eq_false', Bool.and_eq_false_iff, Bool.or_eq_false_iff, decide_eq_true_eq, decide_eq_false_iff_not, beq_iff_eq, bne_iff_ne, beq_eq_false_iff_ne, bne_eq_false_iff_eq] at qh9
    refine W.seq (fun K11 hK11 => ?_)
    refine W.region ?_
    refine Wl.run 1 (by kernel_rfl) ?_
    refine Wl.nil ?_
    refine hK11 _ _ _ ?_
    refine W.ret ?_
    show ∀ w_, _ → bodyPostM (fence none) 0 Try.prog Try.f10 _ Exit.ret _ w_
    exact fun w_ hS_ => fin_ret (ret1 rfl (RV.tmp (v := Value.bool true) (by kernel_rfl)) hS_ ⟨rfl, hS_.below⟩)
  · have qh10 := h10; try simp only [Bool.and_eq_true, Bool.or_eq_true, Bool.not_eq_true', Bool.not_eq_false', Bool.and_eq_false_iff, Bool.or_eq_false_iff, decide_eq_true_eq, decide_eq_false_iff_not, beq_iff_eq, bne_iff_ne, beq_eq_false_iff_ne, bne_eq_false_iff_eq] at qh10
    refine W.skip' ?_
    refine hK6 _ _ _ ?_
    refine W.prune' [0, 1] [Value.int .u16 ((n : Nat) : Int), Value.slice a ls.length cap] (by kernel_rfl) (fun f12 => ?_)
    refine W.seq (fun K13 hK13 => ?_)
    refine W.region ?_
    refine Wl.run 2 (by kernel_rfl) ?_
    refine Wl.nil ?_
    refine hK13 _ _ _ ?_
    refine W.prune' [0, 1, 5] [Value.int .u16 ((n : Nat) : Int), Value.slice a ls.length cap, Value.int .u16 ((n : Nat) : Int)] (by kernel_rfl) (fun f14 => ?_)
    refine W.seq (fun K15 hK15 => ?_)
    refine W.seq (fun K16 hK16 => ?_)
    refine W.region ?_
    refine Wl.run 3 (by kernel_rfl) ?_
    refine Wl.nil ?_
    refine hK16 _ _ _ ?_
    refine W.prune' [0, 1, 5, 14, 15, 16] [Value.int .u16 ((n : Nat) : Int), Value.slice a ls.length cap, Value.int .u16 ((n : Nat) : Int), Value.slice a ls.length cap, Value.int .i64 ((ls.length : Nat) : Int), Value.int .i64 0] (by kernel_rfl) (fun f17 => ?_)
    refine W.block ?_
    refine W.loop1 [0, 1, 5, 14, 15, 16] (fun (k : Nat) => [Value.int .u16 ((n : Nat) : Int), Value.slice a ls.length cap, Value.int .u16 ((upl n (ls.take k) : Nat) : Int), Value.slice a ls.length cap, Value.int .i64 ((ls.length : Nat) : Int), Value.int .i64 ((k : Nat) : Int)]) (fun (k : Nat) => k ≤ ls.length) (fun (k : Nat) => []) (fun (k : Nat) => ls.length - k) 0 (by kernel_rfl) (by first | omega | trivial | simp) (by rfl) (fun k f19 J18 hp20 hJ18 => ?_)
    have hk := hp20
    have hul := upl_lt hn (ls.take k); have hfl := fd_le (65535 - upl n (ls.take k) + (65535 - (ls.getD k default).1) + (ls.getD k default).2)
    refine W.seq (fun K21 hK21 => ?_)
    refine W.region ?_
    refine Wl.run 1 (by kernel_rfl) ?_
    refine Wl.nil ?_
    refine hK21 _ _ _ ?_
    refine W.seq (fun K22 hK22 => ?_)
    refine W.cond (decide (((k : Nat) : Int) < ((ls.length : Nat) : Int))) (by kernel_rfl) (fun h23 => ?_) (fun h24 => ?_)
    · have qh23 := h23; try simp only [Bool.and_eq_true, Bool.or_eq_true, Bool.not_eq_true', Bool.not_eq_false', Bool.and_eq_false_iff, Bool.or_eq_false_iff, decide_eq_true_eq, decide_eq_false_iff_not, beq_iff_eq, bne_iff_ne, beq_eq_false_iff_ne, bne_eq_false_iff_eq] at qh23
      refine W.skip' ?_
      refine hK22 _ _ _ ?_
      refine W.prune' [0, 1, 5, 14, 15, 16] [Value.int .u16 ((n : Nat) : Int), Value.slice a ls.length cap, Value.int .u16 ((upl n (ls.take k) : Nat) : Int), Value.slice a ls.length cap, Value.int .i64 ((ls.length : Nat) : Int), Value.int .i64 ((k : Nat) : Int)] (by kernel_rfl) (fun f25 => ?_)
      refine W.seq (fun K26 hK26 => ?_)
      refine W.block ?_
      refine W.seq (fun K27 hK27 => ?_)
      refine W.region ?_
      refine Wl.ys (v := Value.pointer (some (ela a (k * 2)))) rfl rfl (Ys.byMem fun w_ h_ => Ys.indexAddr (k := .i64) (a := a) (len := ls.length) (cap := cap) (i := ((k : Nat) : Int)) (sz := 2) rfl (by kernel_rfl) (by kernel_rfl) Try.runUnderlying50 Try.sizeOf51 (by omega) (by omega) ((hat.mem0 h_).here (by rw [mm_len (g := c2) (sz := 2) (fun _ => rfl)]; first | omega | (simp; omega)))) ?_
      refine Wl.ys (v := Value.agg ([Value.int .u16 (((ls.getD k default).1 : Nat) : Int), Value.int .u16 (((ls.getD k default).2 : Nat) : Int)]).toArray) rfl rfl (Ys.ldN (a := ela a (k * 2)) (vs := [Value.int .u16 (((ls.getD k default).1 : Nat) : Int), Value.int .u16 (((ls.getD k default).2 : Nat) : Int)]) rfl (by kernel_rfl) Try.isAgg51 Try.sizeOf51 rfl (fun w_ h_ => (hat.mem0 h_).ldN (mm_get (g := c2) (sz := 2) (fun _ => rfl) default (xs := ls) (k := k) (by omega)))) ?_
      have hb28 := ls_in hb (k := k) (by omega)
      refine Wl.ht rfl (Ht.alloc (z := Value.agg ([Value.int .u16 0, Value.int .u16 0]).toArray) (cs := [Value.int .u16 0, Value.int .u16 0]) rfl rfl Try.zeroValue51 rfl) (fun p7 => ?_)
      refine Wl.ht rfl (Ht.storeN (b := p7) (o' := 0) (i := 0) (j := 0) (cs := [Value.int .u16 0, Value.int .u16 0]) (vs := [Value.int .u16 (((ls.getD k default).1 : Nat) : Int), Value.int .u16 (((ls.getD k default).2 : Nat) : Int)]) (cs' := [Value.int .u16 (((ls.getD k default).1 : Nat) : Int), Value.int .u16 (((ls.getD k default).2 : Nat) : Int)]) (LL' := [[cb p7 [Value.int .u16 (((ls.getD k default).1 : Nat) : Int), Value.int .u16 (((ls.getD k default).2 : Nat) : Int)] 51]]) rfl rfl (by kernel_rfl) (by kernel_rfl) Try.sizeOf51 (by simp [Value.oneCell']) rfl rfl (by simp) rfl rfl) (fun _ => ?_)
      refine Wl.nil ?_
      refine hK27 _ _ _ ?_
      refine W.prune' [0, 1, 5, 7, 14, 15, 16] [Value.int .u16 ((n : Nat) : Int), Value.slice a ls.length cap, Value.int .u16 ((upl n (ls.take k) : Nat) : Int), Value.pointer (some ⟨p7, 0, none⟩), Value.slice a ls.length cap, Value.int .i64 ((ls.length : Nat) : Int), Value.int .i64 ((k : Nat) : Int)] (by kernel_rfl) (fun f29 => ?_)
      refine W.region ?_
      refine Wl.run 2 (by kernel_rfl) ?_
      refine Wl.ys (v := Value.int .u16 (((ls.getD k default).1 : Nat) : Int)) rfl rfl (Ys.load (b := p7) (o' := 0) (i := 0) (j := 0) (cs := [Value.int .u16 (((ls.getD k default).1 : Nat) : Int), Value.int .u16 (((ls.getD k default).2 : Nat) : Int)]) (v := Value.int .u16 (((ls.getD k default).1 : Nat) : Int)) rfl (by kernel_rfl) Try.isAgg27 rfl rfl rfl) ?_
      refine Wl.run 1 (by kernel_rfl) ?_
      refine Wl.ys (v := Value.int .u16 (((ls.getD k default).2 : Nat) : Int)) rfl rfl (Ys.load (b := p7) (o' := 1) (i := 0) (j := 0) (cs := [Value.int .u16 (((ls.getD k default).1 : Nat) : Int), Value.int .u16 (((ls.getD k default).2 : Nat) : Int)]) (v := Value.int .u16 (((ls.getD k default).2 : Nat) : Int)) rfl (by kernel_rfl) Try.isAgg27 rfl rfl rfl) ?_
      refine Wl.yc (v := Value.int .u16 ((upc (upl n (ls.take k)) ((ls.getD k default).1) ((ls.getD k default).2) : Nat) : Int)) rfl rfl (Yc.call (k := 30) (args := #[Value.int .u16 ((upl n (ls.take k) : Nat) : Int), Value.int .u16 (((ls.getD k default).1 : Nat) : Int), Value.int .u16 (((ls.getD k default).2 : Nat) : Int)]) (fun _ => by kernel_rfl) (fun w_ hm_ => (rupd_c (upl n (ls.take k)) ((ls.getD k default).1) ((ls.getD k default).2) _ (by omega) (by omega) (by omega)))) ?_
      refine Wl.run 1 (by kernel_rfl) ?_
      refine Wl.nil ?_
      refine hK26 _ _ _ ?_
      refine W.pick (LL' := []) [] (by decide) rfl ?_
      refine W.prune' [0, 1, 5, 14, 15, 16] [Value.int .u16 ((n : Nat) : Int), Value.slice a ls.length cap, Value.int .u16 ((upc (upl n (ls.take k)) ((ls.getD k default).1) ((ls.getD k default).2) : Nat) : Int), Value.slice a ls.length cap, Value.int .i64 ((ls.length : Nat) : Int), Value.int .i64 ((k : Nat) : Int)] (by kernel_rfl) (fun f30 => ?_)
      refine W.region ?_
      refine Wl.ys (v := Value.int .i64 ((k + 1 : Nat) : Int)) rfl rfl ((Ys.pure (v := .int .i64 (iadd .i64 ((k : Nat) : Int) 1)) (fun _ => by kernel_rfl)).conseq (int_congr (iadd_eq (by omega) (by omega) (by omega)))) ?_
      refine Wl.run 1 (by kernel_rfl) ?_
      refine Wl.nil ?_
      refine fun w_ h_ => hJ18 (k + 1) _ w_ (by omega) (by first | omega | trivial | simp) ?_ h_
      refine Eq.trans (b := ([Value.int .u16 ((n : Nat) : Int), Value.slice a ls.length cap, Value.int .u16 ((upc (upl n (ls.take k)) ((ls.getD k default).1) ((ls.getD k default).2) : Nat) : Int), Value.slice a ls.length cap, Value.int .i64 ((ls.length : Nat) : Int), Value.int .i64 ((k + 1 : Nat) : Int)] : List Value)) (by kernel_rfl) (by rw [upl_step (by omega)]; try rfl)
    · have qh24 := h24; try simp only [Bool.and_eq_true, Bool.or_eq_true, Bool.not_eq_true', Bool.not_eq_false', Bool.and_eq_false_iff, Bool.or_eq_false_iff, decide_eq_true_eq, decide_eq_false_iff_not, beq_iff_eq, bne_iff_ne, beq_eq_false_iff_ne, bne_eq_false_iff_eq] at qh24
      refine W.exit ?_
      refine hK15 _ _ _ ?_
      refine W.prune' [0, 1, 5] [Value.int .u16 ((n : Nat) : Int), Value.slice a ls.length cap, Value.int .u16 ((upl n (ls.take k) : Nat) : Int)] (by kernel_rfl) (fun f31 => ?_)
      refine W.seq (fun K32 hK32 => ?_)
      have hul := upl_lt hn (ls.take k); have hul2 := upl_lt hn ls
      refine W.region ?_
      refine Wl.run 2 (by kernel_rfl) ?_
      refine Wl.yc (v := Value.int .u16 ((upl n ls : Nat) : Int)) rfl rfl (Yc.call (k := 31) (args := #[Value.int .u16 ((n : Nat) : Int), Value.slice a ls.length cap]) (fun _ => by kernel_rfl) (fun w_ hm_ => (updaten_c n ls a ls.length cap _ rfl (hat.mem0 hm_) (by omega) hb (by omega)))) ?_
      refine Wl.run 3 (by kernel_rfl) ?_
      refine Wl.guard (v := Value.int .u16 ((n : Nat) : Int)) (((upl n ls : Nat) : Int) == ((upl n (ls.take k) : Nat) : Int)) rfl (wantT rfl (by kernel_rfl)) rfl (fun hg33 => ?_) ?_
      · have qhg33 := hg33; try simp only [Bool.and_eq_true, Bool.or_eq_true, Bool.not_eq_true', Bool.not_eq_false', Bool.and_eq_false_iff, Bool.or_eq_false_iff, decide_eq_true_eq, decide_eq_false_iff_not, beq_iff_eq, bne_iff_ne, beq_eq_false_iff_ne, bne_eq_false_iff_eq] at qhg33
        exact Ys.pure (fun _ => by kernel_rfl)
      refine Wl.guardc (v := Value.int .u16 ((upl n [] : Nat) : Int)) (((upl n ls : Nat) : Int) == ((upl n (ls.take k) : Nat) : Int)) rfl (wantT rfl (by kernel_rfl)) rfl (fun hg34 => ?_) ?_
      · have qhg34 := hg34; try simp only [Bool.and_eq_true, Bool.or_eq_true, Bool.not_eq_true', Bool.not_eq_false', Bool.and_eq_false_iff, Bool.or_eq_false_iff, decide_eq_true_eq, decide_eq_false_iff_not, beq_iff_eq, bne_iff_ne, beq_eq_false_iff_ne, bne_eq_false_iff_eq] at qhg34
        refine Yc.at (t := 33) (v0 := Value.int .u16 ((n : Nat) : Int)) (lz (g := ((upl n ls : Nat) : Int) == ((upl n (ls.take k) : Nat) : Int)) (u := undef) hg34 (by kernel_rfl)) ?_
        exact Yc.call (k := 31) (args := #[Value.int .u16 ((n : Nat) : Int), Value.slice none 0 0]) (fun _ => by kernel_rfl) (fun w_ hm_ => (updaten_c n [] none 0 0 _ rfl (At.nil _ _) (by omega) (fun _ h => by cases h) (by decide)))
      refine Wl.guard (v := Value.int .u16 ((n : Nat) : Int)) (((upl n ls : Nat) : Int) == ((upl n (ls.take k) : Nat) : Int)) rfl (wantT rfl (by kernel_rfl)) rfl (fun hg35 => ?_) ?_
      · have qhg35 := hg35; try simp only [Bool.and_eq_true, Bool.or_eq_true, Bool.not_eq_true', Bool.not_eq_false', Bool.and_eq_false_iff, Bool.or_eq_false_iff, decide_eq_true_eq, decide_eq_false_iff_not, beq_iff_eq, bne_iff_ne, beq_eq_false_iff_ne, bne_eq_false_iff_eq] at qhg35
        exact Ys.pure (fun _ => by kernel_rfl)
      refine Wl.guard (v := Value.bool (((upl n [] : Nat) : Int) == ((n : Nat) : Int))) (((upl n ls : Nat) : Int) == ((upl n (ls.take k) : Nat) : Int)) rfl (wantT rfl (by kernel_rfl)) rfl (fun hg36 => ?_) ?_
      · have qhg36 := hg36; try simp only [Bool.and_eq_true, Bool.or_eq_true, Bool.not_eq_true', Bool.not_eq_false', Bool.and_eq_false_iff, Bool.or_eq_false_iff, decide_eq_true_eq, decide_eq_false_iff_not, beq_iff_eq, bne_iff_ne, beq_eq_false_iff_ne, bne_eq_false_iff_eq] at qhg36
        refine Ys.at (t := 34) (v0 := Value.int .u16 ((upl n [] : Nat) : Int)) (lz (g := ((upl n ls : Nat) : Int) == ((upl n (ls.take k) : Nat) : Int)) (u := undef) hg36 (by kernel_rfl)) ?_
        refine Ys.at (t := 35) (v0 := Value.int .u16 ((n : Nat) : Int)) (lz (g := ((upl n ls : Nat) : Int) == ((upl n (ls.take k) : Nat) : Int)) (u := undef) hg36 (by kernel_rfl)) ?_
        exact Ys.pure (fun _ => by kernel_rfl)
      refine Wl.ys (v := Value.bool ((((upl n ls : Nat) : Int) == ((upl n (ls.take k) : Nat) : Int)) && (((upl n [] : Nat) : Int) == ((n : Nat) : Int)))) rfl rfl (Ys.and (e := ((upl n ls : Nat) : Int) == ((upl n (ls.take k) : Nat) : Int)) (b := ((upl n [] : Nat) : Int) == ((n : Nat) : Int)) rfl (by kernel_rfl) (by kernel_rfl) (by kernel_rfl)) ?_
      refine Wl.run 1 (by kernel_rfl) ?_
      refine Wl.nil ?_
      refine hK32 _ _ _ ?_
      refine W.prune' [4] [Value.bool ((((upl n ls : Nat) : Int) == ((upl n (ls.take k) : Nat) : Int)) && (((upl n [] : Nat) : Int) == ((n : Nat) : Int)))] (by kernel_rfl) (fun f37 => ?_)
      refine W.ret ?_
      show ∀ w_, _ → bodyPostM (fence none) 0 Try.prog Try.f10 _ Exit.ret _ w_
      exact fun w_ hS_ => fin_ret (ret1 rfl (RV.tmp (v := Value.bool ((((upl n ls : Nat) : Int) == ((upl n (ls.take k) : Nat) : Int)) && (((upl n [] : Nat) : Int) == ((n : Nat) : Int)))) (by kernel_rfl)) hS_ ⟨by clear hK1 hK2 hK3 hK6 hK7 hK13 hK15 hK16 hJ18 hK21 hK22 hK32; refine congrArg Ending.returned ?_; exact bool_congr (by rw [List.take_of_length_le (by omega)]; simp [upl]), hS_.below⟩)

end Go.Proofs.Ytegeijaicjackaa.Oct
