import Derived.Test.YtejeafjkhomdoaaKFl5
import Derived.Test.YtejeafjkhomdoaaKVK
set_option linter.unusedVariables false
set_option linter.unusedSimpArgs false
set_option maxRecDepth 20000
namespace Go.Proofs.Ytejeafjkhomdoaa.Oct
open Go.RowKit Base
attribute [local irreducible] Ys Yc Ht HtIn Wl Wd W Mem pf dpf Wa Wo
def cmpN (x y : Nat) : Int := bif decide (((x : Nat) : Int) < ((y : Nat) : Int)) then -1 else bif decide (((x : Nat) : Int) > ((y : Nat) : Int)) then 1 else 0
def or2 (x y : Int) : Int := bif x != 0 then x else y
def or5 (a b c d e : Int) : Int := or2 a (or2 b (or2 c (or2 d (or2 e 0))))
theorem nanb_c (a : UInt8) (w : World) : Calls Try.prog 60 #[Value.int .u8 ((a.toNat : Nat) : Int)] w (Ret w (.bool false)) := by
  refine calls_W (M := []) (LL := []) (n := 6) Try.func60 rfl rfl (by simp) (Mem.refl _) ?_
  refine W.seq (fun K1 hK1 => ?_)
  refine W.region ?_
  refine Wl.run 1 (by kernel_rfl) ?_
  refine Wl.nil ?_
  refine hK1 _ _ _ ?_
  refine W.seq (fun K2 hK2 => ?_)
  refine W.region ?_
  refine Wl.run 4 (by kernel_rfl) ?_
  refine Wl.nil ?_
  refine hK2 _ _ _ ?_
  refine W.prune' [2] [Value.bool (((a.toNat : Nat) : Int) != ((a.toNat : Nat) : Int))] (by kernel_rfl) (fun f3 => ?_)
  refine W.ret ?_
  show ∀ w_, _ → bodyPostM (fence none) 0 Try.prog Try.f60 _ Exit.ret _ w_
  exact fun w_ hS_ => fin_ret (ret1 rfl (RV.tmp (v := Value.bool (((a.toNat : Nat) : Int) != ((a.toNat : Nat) : Int))) (by kernel_rfl)) hS_ ⟨by clear hK1 hK2; refine congrArg Ending.returned ?_; exact bool_congr (by simp), hS_.below⟩)
theorem cmpb_c (a c : UInt8) (w : World) : Calls Try.prog 31 #[Value.int .u8 ((a.toNat : Nat) : Int), Value.int .u8 ((c.toNat : Nat) : Int)] w (Ret w (.int .i64 (cmpN a.toNat c.toNat))) := by
  refine calls_W (M := []) (LL := []) (n := 20) Try.func31 rfl rfl (by simp) (Mem.refl _) ?_
  refine W.seq (fun K1 hK1 => ?_)
  refine W.region ?_
  refine Wl.run 1 (by kernel_rfl) ?_
  refine Wl.nil ?_
  refine hK1 _ _ _ ?_
  refine W.seq (fun K2 hK2 => ?_)
  refine W.region ?_
  refine Wl.run 1 (by kernel_rfl) ?_
  refine Wl.yc (v := Value.bool false) rfl rfl (Yc.call (k := 60) (args := #[Value.int .u8 ((a.toNat : Nat) : Int)]) (fun _ => by kernel_rfl) (fun w_ hm_ => (nanb_c a _))) ?_
  refine Wl.run 1 (by kernel_rfl) ?_
  refine Wl.nil ?_
  refine hK2 _ _ _ ?_
  refine W.prune' [0, 1, 5] [Value.int .u8 ((a.toNat : Nat) : Int), Value.int .u8 ((c.toNat : Nat) : Int), Value.bool false] (by kernel_rfl) (fun f3 => ?_)
  refine W.seq (fun K4 hK4 => ?_)
  refine W.region ?_
  refine Wl.run 1 (by kernel_rfl) ?_
  refine Wl.yc (v := Value.bool false) rfl rfl (Yc.call (k := 60) (args := #[Value.int .u8 ((c.toNat : Nat) : Int)]) (fun _ => by kernel_rfl) (fun w_ hm_ => (nanb_c c _))) ?_
  refine Wl.run 1 (by kernel_rfl) ?_
  refine Wl.nil ?_
  refine hK4 _ _ _ ?_
  refine W.prune' [0, 1, 5, 6] [Value.int .u8 ((a.toNat : Nat) : Int), Value.int .u8 ((c.toNat : Nat) : Int), Value.bool false, Value.bool false] (by kernel_rfl) (fun f5 => ?_)
  refine W.seq (fun K6 hK6 => ?_)
  refine W.seq (fun K7 hK7 => ?_)
  refine W.region ?_
  refine Wl.run 1 (by kernel_rfl) ?_
  refine Wl.nil ?_
  refine hK7 _ _ _ ?_
  refine W.condF (by kernel_rfl) ?_
  refine W.skip' ?_
  refine hK6 _ _ _ ?_
  refine W.prune' [0, 1, 6] [Value.int .u8 ((a.toNat : Nat) : Int), Value.int .u8 ((c.toNat : Nat) : Int), Value.bool false] (by kernel_rfl) (fun f8 => ?_)
  refine W.seq (fun K9 hK9 => ?_)
  refine W.seq (fun K10 hK10 => ?_)
  refine W.region ?_
  refine Wl.run 1 (by kernel_rfl) ?_
  refine Wl.nil ?_
  refine hK10 _ _ _ ?_
  refine W.condF (by kernel_rfl) ?_
  refine W.skip' ?_
  refine hK9 _ _ _ ?_
  refine W.prune' [0, 1] [Value.int .u8 ((a.toNat : Nat) : Int), Value.int .u8 ((c.toNat : Nat) : Int)] (by kernel_rfl) (fun f11 => ?_)
  refine W.seq (fun K12 hK12 => ?_)
  refine W.seq (fun K13 hK13 => ?_)
  refine W.region ?_
  refine Wl.run 3 (by kernel_rfl) ?_
  refine Wl.nil ?_
  refine hK13 _ _ _ ?_
  refine W.prune' [0, 1, 16] [Value.int .u8 ((a.toNat : Nat) : Int), Value.int .u8 ((c.toNat : Nat) : Int), Value.bool (decide (((a.toNat : Nat) : Int) < ((c.toNat : Nat) : Int)))] (by kernel_rfl) (fun f14 => ?_)
  refine W.cond (decide (((a.toNat : Nat) : Int) < ((c.toNat : Nat) : Int))) (by kernel_rfl) (fun h15 => ?_) (fun h16 => ?_)
  · have qh15 := h15; try simp only [Bool.and_eq_true, Bool.or_eq_true, Bool.not_eq_true', Bool.not_eq_false', Bool.and_eq_false_iff, Bool.or_eq_false_iff, decide_eq_true_eq, decide_eq_false_iff_not, beq_iff_eq, bne_iff_ne, beq_eq_false_iff_ne, bne_eq_false_iff_eq] at qh15
    refine W.seq (fun K17 hK17 => ?_)
    refine W.region ?_
    refine Wl.run 1 (by kernel_rfl) ?_
    refine Wl.nil ?_
    refine hK17 _ _ _ ?_
    refine W.ret ?_
    show ∀ w_, _ → bodyPostM (fence none) 0 Try.prog Try.f31 _ Exit.ret _ w_
    exact fun w_ hS_ => fin_ret (ret1 rfl (RV.tmp (v := Value.int .i64 (-1)) (by kernel_rfl)) hS_ ⟨by clear hK1 hK2 hK4 hK6 hK7 hK9 hK10 hK12 hK13 hK17; refine congrArg Ending.returned ?_; simp only [cmpN, h15, cond_true, cond_false]; try rfl, hS_.below⟩)
  · have qh16 := h16; try simp only [Bool.and_eq_true, Bool.or_eq_true, Bool.not_eq_true', Bool.not_eq_false', Bool.and_eq_false_iff, Bool.or_eq_false_iff, decide_eq_true_eq, decide_eq_false_iff_not, beq_iff_eq, bne_iff_ne, beq_eq_false_iff_ne, bne_eq_false_iff_eq] at qh16
    refine W.skip' ?_
    refine hK12 _ _ _ ?_
    refine W.prune' [0, 1] [Value.int .u8 ((a.toNat : Nat) : Int), Value.int .u8 ((c.toNat : Nat) : Int)] (by kernel_rfl) (fun f18 => ?_)
    refine W.seq (fun K19 hK19 => ?_)
    refine W.seq (fun K20 hK20 => ?_)
    refine W.region ?_
    refine Wl.run 3 (by kernel_rfl) ?_
    refine Wl.nil ?_
    refine hK20 _ _ _ ?_
    refine W.prune' [19] [Value.bool (decide (((a.toNat : Nat) : Int) > ((c.toNat : Nat) : Int)))] (by kernel_rfl) (fun f21 => ?_)
    refine W.cond (decide (((a.toNat : Nat) : Int) > ((c.toNat : Nat) : Int))) (by kernel_rfl) (fun h22 => ?_) (fun h23 => ?_)
    · have qh22 := h22; try simp only [Bool.and_eq_true, Bool.or_eq_true, Bool.not_eq_true', Bool.not_eq_false', Bool.and_eq_false_iff, Bool.or_eq_false_iff, decide_eq_true_eq, decide_eq_false_iff_not, beq_iff_eq, bne_iff_ne, beq_eq_false_iff_ne, bne_eq_false_iff_eq] at qh22
      refine W.seq (fun K24 hK24 => ?_)
      refine W.region ?_
      refine Wl.run 1 (by kernel_rfl) ?_
      refine Wl.nil ?_
      refine hK24 _ _ _ ?_
      refine W.ret ?_
      show ∀ w_, _ → bodyPostM (fence none) 0 Try.prog Try.f31 _ Exit.ret _ w_
      exact fun w_ hS_ => fin_ret (ret1 rfl (RV.tmp (v := Value.int .i64 1) (by kernel_rfl)) hS_ ⟨by clear hK1 hK2 hK4 hK6 hK7 hK9 hK10 hK12 hK13 hK19 hK20 hK24; refine congrArg Ending.returned ?_; simp only [cmpN, h16, h22, cond_true, cond_false]; try rfl, hS_.below⟩)
    · have qh23 := h23; try simp only [Bool.and_eq_true, Bool.or_eq_true, Bool.not_eq_true', Bool.not_eq_false', Bool.and_eq_false_iff, Bool.or_eq_false_iff, decide_eq_true_eq, decide_eq_false_iff_not, beq_iff_eq, bne_iff_ne, beq_eq_false_iff_ne, bne_eq_false_iff_eq] at qh23
      refine W.skip' ?_
      refine hK19 _ _ _ ?_
      refine W.prune' [] [] (by kernel_rfl) (fun f25 => ?_)
      refine W.seq (fun K26 hK26 => ?_)
      refine W.region ?_
      refine Wl.run 1 (by kernel_rfl) ?_
      refine Wl.nil ?_
      refine hK26 _ _ _ ?_
      refine W.ret ?_
      show ∀ w_, _ → bodyPostM (fence none) 0 Try.prog Try.f31 _ Exit.ret _ w_
      exact fun w_ hS_ => fin_ret (ret1 rfl (RV.tmp (v := Value.int .i64 0) (by kernel_rfl)) hS_ ⟨by clear hK1 hK2 hK4 hK6 hK7 hK9 hK10 hK12 hK13 hK19 hK20 hK26; refine congrArg Ending.returned ?_; simp only [cmpN, h16, h23, cond_true, cond_false]; try rfl, hS_.below⟩)
theorem nana_c (a : Nat) (w : World) : Calls Try.prog 61 #[Value.int .u32 ((a : Nat) : Int)] w (Ret w (.bool false)) := by
  refine calls_W (M := []) (LL := []) (n := 6) Try.func61 rfl rfl (by simp) (Mem.refl _) ?_
  refine W.seq (fun K1 hK1 => ?_)
  refine W.region ?_
  refine Wl.run 1 (by kernel_rfl) ?_
  refine Wl.nil ?_
  refine hK1 _ _ _ ?_
  refine W.seq (fun K2 hK2 => ?_)
  refine W.region ?_
  refine Wl.run 4 (by kernel_rfl) ?_
  refine Wl.nil ?_
  refine hK2 _ _ _ ?_
  refine W.prune' [2] [Value.bool (((a : Nat) : Int) != ((a : Nat) : Int))] (by kernel_rfl) (fun f3 => ?_)
  refine W.ret ?_
  show ∀ w_, _ → bodyPostM (fence none) 0 Try.prog Try.f61 _ Exit.ret _ w_
  exact fun w_ hS_ => fin_ret (ret1 rfl (RV.tmp (v := Value.bool (((a : Nat) : Int) != ((a : Nat) : Int))) (by kernel_rfl)) hS_ ⟨by clear hK1 hK2; refine congrArg Ending.returned ?_; exact bool_congr (by simp), hS_.below⟩)
theorem cmpa_c (a c : Nat) (w : World) : Calls Try.prog 32 #[Value.int .u32 ((a : Nat) : Int), Value.int .u32 ((c : Nat) : Int)] w (Ret w (.int .i64 (cmpN a c))) := by
  refine calls_W (M := []) (LL := []) (n := 20) Try.func32 rfl rfl (by simp) (Mem.refl _) ?_
  refine W.seq (fun K1 hK1 => ?_)
  refine W.region ?_
  refine Wl.run 1 (by kernel_rfl) ?_
  refine Wl.nil ?_
  refine hK1 _ _ _ ?_
  refine W.seq (fun K2 hK2 => ?_)
  refine W.region ?_
  refine Wl.run 1 (by kernel_rfl) ?_
  refine Wl.yc (v := Value.bool false) rfl rfl (Yc.call (k := 61) (args := #[Value.int .u32 ((a : Nat) : Int)]) (fun _ => by kernel_rfl) (fun w_ hm_ => (nana_c a _))) ?_
  refine Wl.run 1 (by kernel_rfl) ?_
  refine Wl.nil ?_
  refine hK2 _ _ _ ?_
  refine W.prune' [0, 1, 5] [Value.int .u32 ((a : Nat) : Int), Value.int .u32 ((c : Nat) : Int), Value.bool false] (by kernel_rfl) (fun f3 => ?_)
  refine W.seq (fun K4 hK4 => ?_)
  refine W.region ?_
  refine Wl.run 1 (by kernel_rfl) ?_
  refine Wl.yc (v := Value.bool false) rfl rfl (Yc.call (k := 61) (args := #[Value.int .u32 ((c : Nat) : Int)]) (fun _ => by kernel_rfl) (fun w_ hm_ => (nana_c c _))) ?_
  refine Wl.run 1 (by kernel_rfl) ?_
  refine Wl.nil ?_
  refine hK4 _ _ _ ?_
  refine W.prune' [0, 1, 5, 6] [Value.int .u32 ((a : Nat) : Int), Value.int .u32 ((c : Nat) : Int), Value.bool false, Value.bool false] (by kernel_rfl) (fun f5 => ?_)
  refine W.seq (fun K6 hK6 => ?_)
  refine W.seq (fun K7 hK7 => ?_)
  refine W.region ?_
  refine Wl.run 1 (by kernel_rfl) ?_
  refine Wl.nil ?_
  refine hK7 _ _ _ ?_
  refine W.condF (by kernel_rfl) ?_
  refine W.skip' ?_
  refine hK6 _ _ _ ?_
  refine W.prune' [0, 1, 6] [Value.int .u32 ((a : Nat) : Int), Value.int .u32 ((c : Nat) : Int), Value.bool false] (by kernel_rfl) (fun f8 => ?_)
  refine W.seq (fun K9 hK9 => ?_)
  refine W.seq (fun K10 hK10 => ?_)
  refine W.region ?_
  refine Wl.run 1 (by kernel_rfl) ?_
  refine Wl.nil ?_
  refine hK10 _ _ _ ?_
  refine W.condF (by kernel_rfl) ?_
  refine W.skip' ?_
  refine hK9 _ _ _ ?_
  refine W.prune' [0, 1] [Value.int .u32 ((a : Nat) : Int), Value.int .u32 ((c : Nat) : Int)] (by kernel_rfl) (fun f11 => ?_)
  refine W.seq (fun K12 hK12 => ?_)
  refine W.seq (fun K13 hK13 => ?_)
  refine W.region ?_
  refine Wl.run 3 (by kernel_rfl) ?_
  refine Wl.nil ?_
  refine hK13 _ _ _ ?_
  refine W.prune' [0, 1, 16] [Value.int .u32 ((a : Nat) : Int), Value.int .u32 ((c : Nat) : Int), Value.bool (decide (((a : Nat) : Int) < ((c : Nat) : Int)))] (by kernel_rfl) (fun f14 => ?_)
  refine W.cond (decide (((a : Nat) : Int) < ((c : Nat) : Int))) (by kernel_rfl) (fun h15 => ?_) (fun h16 => ?_)
  · have qh15 := h15; try simp only [Bool.and_eq_true, Bool.or_eq_true, Bool.not_eq_true', Bool.not_eq_false', Bool.and_eq_false_iff, Bool.or_eq_false_iff, decide_eq_true_eq, decide_eq_false_iff_not, beq_iff_eq, bne_iff_ne, beq_eq_false_iff_ne, bne_eq_false_iff_eq] at qh15
    refine W.seq (fun K17 hK17 => ?_)
    refine W.region ?_
    refine Wl.run 1 (by kernel_rfl) ?_
    refine Wl.nil ?_
    refine hK17 _ _ _ ?_
    refine W.ret ?_
    show ∀ w_, _ → bodyPostM (fence none) 0 Try.prog Try.f32 _ Exit.ret _ w_
    exact fun w_ hS_ => fin_ret (ret1 rfl (RV.tmp (v := Value.int .i64 (-1)) (by kernel_rfl)) hS_ ⟨by clear hK1 hK2 hK4 hK6 hK7 hK9 hK10 hK12 hK13 hK17; refine congrArg Ending.returned ?_; simp only [cmpN, h15, cond_true, cond_false]; try rfl, hS_.below⟩)
  · have qh16 := h16; try simp only [Bool.and_eq_true, Bool.or_eq_true, Bool.not_eq_true', Bool.not_eq_false', Bool.and_eq_false_iff, Bool.or_eq_false_iff, decide_eq_true_eq, decide_eq_false_iff_not, beq_iff_eq, bne_iff_ne, beq_eq_false_iff_ne, bne_eq_false_iff_eq] at qh16
    refine W.skip' ?_
    refine hK12 _ _ _ ?_
    refine W.prune' [0, 1] [Value.int .u32 ((a : Nat) : Int), Value.int .u32 ((c : Nat) : Int)] (by kernel_rfl) (fun f18 => ?_)
    refine W.seq (fun K19 hK19 => ?_)
    refine W.seq (fun K20 hK20 => ?_)
    refine W.region ?_
    refine Wl.run 3 (by kernel_rfl) ?_
    refine Wl.nil ?_
    refine hK20 _ _ _ ?_
    refine W.prune' [19] [Value.bool (decide (((a : Nat) : Int) > ((c : Nat) : Int)))] (by kernel_rfl) (fun f21 => ?_)
    refine W.cond (decide (((a : Nat) : Int) > ((c : Nat) : Int))) (by kernel_rfl) (fun h22 => ?_) (fun h23 => ?_)
    · have qh22 := h22; try simp only [Bool.and_eq_true, Bool.or_eq_true, Bool.not_eq_true', Bool.not_eq_false', Bool.and_eq_false_iff, Bool.or_eq_false_iff, decide_eq_true_eq, decide_eq_false_iff_not, beq_iff_eq, bne_iff_ne, beq_eq_false_iff_ne, bne_eq_false_iff_eq] at qh22
      refine W.seq (fun K24 hK24 => ?_)
      refine W.region ?_
      refine Wl.run 1 (by kernel_rfl) ?_
      refine Wl.nil ?_
      refine hK24 _ _ _ ?_
      refine W.ret ?_
      show ∀ w_, _ → bodyPostM (fence none) 0 Try.prog Try.f32 _ Exit.ret _ w_
      exact fun w_ hS_ => fin_ret (ret1 rfl (RV.tmp (v := Value.int .i64 1) (by kernel_rfl)) hS_ ⟨by clear hK1 hK2 hK4 hK6 hK7 hK9 hK10 hK12 hK13 hK19 hK20 hK24; refine congrArg Ending.returned ?_; simp only [cmpN, h16, h22, cond_true, cond_false]; try rfl, hS_.below⟩)
    · have qh23 := h23; try simp only [Bool.and_eq_true, Bool.or_eq_true, Bool.not_eq_true', Bool.not_eq_false', Bool.and_eq_false_iff, Bool.or_eq_false_iff, decide_eq_true_eq, decide_eq_false_iff_not, beq_iff_eq, bne_iff_ne, beq_eq_false_iff_ne, bne_eq_false_iff_eq] at qh23
      refine W.skip' ?_
      refine hK19 _ _ _ ?_
      refine W.prune' [] [] (by kernel_rfl) (fun f25 => ?_)
      refine W.seq (fun K26 hK26 => ?_)
      refine W.region ?_
      refine Wl.run 1 (by kernel_rfl) ?_
      refine Wl.nil ?_
      refine hK26 _ _ _ ?_
      refine W.ret ?_
      show ∀ w_, _ → bodyPostM (fence none) 0 Try.prog Try.f32 _ Exit.ret _ w_
      exact fun w_ hS_ => fin_ret (ret1 rfl (RV.tmp (v := Value.int .i64 0) (by kernel_rfl)) hS_ ⟨by clear hK1 hK2 hK4 hK6 hK7 hK9 hK10 hK12 hK13 hK19 hK20 hK26; refine congrArg Ending.returned ?_; simp only [cmpN, h16, h23, cond_true, cond_false]; try rfl, hS_.below⟩)
theorem nanw_c (a : Nat) (w : World) : Calls Try.prog 62 #[Value.int .u16 ((a : Nat) : Int)] w (Ret w (.bool false)) := by
  refine calls_W (M := []) (LL := []) (n := 6) Try.func62 rfl rfl (by simp) (Mem.refl _) ?_
  refine W.seq (fun K1 hK1 => ?_)
  refine W.region ?_
  refine Wl.run 1 (by kernel_rfl) ?_
  refine Wl.nil ?_
  refine hK1 _ _ _ ?_
  refine W.seq (fun K2 hK2 => ?_)
  refine W.region ?_
  refine Wl.run 4 (by kernel_rfl) ?_
  refine Wl.nil ?_
  refine hK2 _ _ _ ?_
  refine W.prune' [2] [Value.bool (((a : Nat) : Int) != ((a : Nat) : Int))] (by kernel_rfl) (fun f3 => ?_)
  refine W.ret ?_
  show ∀ w_, _ → bodyPostM (fence none) 0 Try.prog Try.f62 _ Exit.ret _ w_
  exact fun w_ hS_ => fin_ret (ret1 rfl (RV.tmp (v := Value.bool (((a : Nat) : Int) != ((a : Nat) : Int))) (by kernel_rfl)) hS_ ⟨by clear hK1 hK2; refine congrArg Ending.returned ?_; exact bool_congr (by simp), hS_.below⟩)
theorem cmpw_c (a c : Nat) (w : World) : Calls Try.prog 33 #[Value.int .u16 ((a : Nat) : Int), Value.int .u16 ((c : Nat) : Int)] w (Ret w (.int .i64 (cmpN a c))) := by
  refine calls_W (M := []) (LL := []) (n := 20) Try.func33 rfl rfl (by simp) (Mem.refl _) ?_
  refine W.seq (fun K1 hK1 => ?_)
  refine W.region ?_
  refine Wl.run 1 (by kernel_rfl) ?_
  refine Wl.nil ?_
  refine hK1 _ _ _ ?_
  refine W.seq (fun K2 hK2 => ?_)
  refine W.region ?_
  refine Wl.run 1 (by kernel_rfl) ?_
  refine Wl.yc (v := Value.bool false) rfl rfl (Yc.call (k := 62) (args := #[Value.int .u16 ((a : Nat) : Int)]) (fun _ => by kernel_rfl) (fun w_ hm_ => (nanw_c a _))) ?_
  refine Wl.run 1 (by kernel_rfl) ?_
  refine Wl.nil ?_
  refine hK2 _ _ _ ?_
  refine W.prune' [0, 1, 5] [Value.int .u16 ((a : Nat) : Int), Value.int .u16 ((c : Nat) : Int), Value.bool false] (by kernel_rfl) (fun f3 => ?_)
  refine W.seq (fun K4 hK4 => ?_)
  refine W.region ?_
  refine Wl.run 1 (by kernel_rfl) ?_
  refine Wl.yc (v := Value.bool false) rfl rfl (Yc.call (k := 62) (args := #[Value.int .u16 ((c : Nat) : Int)]) (fun _ => by kernel_rfl) (fun w_ hm_ => (nanw_c c _))) ?_
  refine Wl.run 1 (by kernel_rfl) ?_
  refine Wl.nil ?_
  refine hK4 _ _ _ ?_
  refine W.prune' [0, 1, 5, 6] [Value.int .u16 ((a : Nat) : Int), Value.int .u16 ((c : Nat) : Int), Value.bool false, Value.bool false] (by kernel_rfl) (fun f5 => ?_)
  refine W.seq (fun K6 hK6 => ?_)
  refine W.seq (fun K7 hK7 => ?_)
  refine W.region ?_
  refine Wl.run 1 (by kernel_rfl) ?_
  refine Wl.nil ?_
  refine hK7 _ _ _ ?_
  refine W.condF (by kernel_rfl) ?_
  refine W.skip' ?_
  refine hK6 _ _ _ ?_
  refine W.prune' [0, 1, 6] [Value.int .u16 ((a : Nat) : Int), Value.int .u16 ((c : Nat) : Int), Value.bool false] (by kernel_rfl) (fun f8 => ?_)
  refine W.seq (fun K9 hK9 => ?_)
  refine W.seq (fun K10 hK10 => ?_)
  refine W.region ?_
  refine Wl.run 1 (by kernel_rfl) ?_
  refine Wl.nil ?_
  refine hK10 _ _ _ ?_
  refine W.condF (by kernel_rfl) ?_
  refine W.skip' ?_
  refine hK9 _ _ _ ?_
  refine W.prune' [0, 1] [Value.int .u16 ((a : Nat) : Int), Value.int .u16 ((c : Nat) : Int)] (by kernel_rfl) (fun f11 => ?_)
  refine W.seq (fun K12 hK12 => ?_)
  refine W.seq (fun K13 hK13 => ?_)
  refine W.region ?_
  refine Wl.run 3 (by kernel_rfl) ?_
  refine Wl.nil ?_
  refine hK13 _ _ _ ?_
  refine W.prune' [0, 1, 16] [Value.int .u16 ((a : Nat) : Int), Value.int .u16 ((c : Nat) : Int), Value.bool (decide (((a : Nat) : Int) < ((c : Nat) : Int)))] (by kernel_rfl) (fun f14 => ?_)
  refine W.cond (decide (((a : Nat) : Int) < ((c : Nat) : Int))) (by kernel_rfl) (fun h15 => ?_) (fun h16 => ?_)
  · have qh15 := h15; try simp only [Bool.and_eq_true, Bool.or_eq_true, Bool.not_eq_true', Bool.not_eq_false', Bool.and_eq_false_iff, Bool.or_eq_false_iff, decide_eq_true_eq, decide_eq_false_iff_not, beq_iff_eq, bne_iff_ne, beq_eq_false_iff_ne, bne_eq_false_iff_eq] at qh15
    refine W.seq (fun K17 hK17 => ?_)
    refine W.region ?_
    refine Wl.run 1 (by kernel_rfl) ?_
    refine Wl.nil ?_
    refine hK17 _ _ _ ?_
    refine W.ret ?_
    show ∀ w_, _ → bodyPostM (fence none) 0 Try.prog Try.f33 _ Exit.ret _ w_
    exact fun w_ hS_ => fin_ret (ret1 rfl (RV.tmp (v := Value.int .i64 (-1)) (by kernel_rfl)) hS_ ⟨by clear hK1 hK2 hK4 hK6 hK7 hK9 hK10 hK12 hK13 hK17; refine congrArg Ending.returned ?_; simp only [cmpN, h15, cond_true, cond_false]; try rfl, hS_.below⟩)
  · have qh16 := h16; try simp only [Bool.and_eq_true, Bool.or_eq_true, Bool.not_eq_true', Bool.not_eq_false', Bool.and_eq_false_iff, Bool.or_eq_false_iff, decide_eq_true_eq, decide_eq_false_iff_not, beq_iff_eq, bne_iff_ne, beq_eq_false_iff_ne, bne_eq_false_iff_eq] at qh16
    refine W.skip' ?_
    refine hK12 _ _ _ ?_
    refine W.prune' [0, 1] [Value.int .u16 ((a : Nat) : Int), Value.int .u16 ((c : Nat) : Int)] (by kernel_rfl) (fun f18 => ?_)
    refine W.seq (fun K19 hK19 => ?_)
    refine W.seq (fun K20 hK20 => ?_)
    refine W.region ?_
    refine Wl.run 3 (by kernel_rfl) ?_
    refine Wl.nil ?_
    refine hK20 _ _ _ ?_
    refine W.prune' [19] [Value.bool (decide (((a : Nat) : Int) > ((c : Nat) : Int)))] (by kernel_rfl) (fun f21 => ?_)
    refine W.cond (decide (((a : Nat) : Int) > ((c : Nat) : Int))) (by kernel_rfl) (fun h22 => ?_) (fun h23 => ?_)
    · have qh22 := h22; try simp only [Bool.and_eq_true, Bool.or_eq_true, Bool.not_eq_true', Bool.not_eq_false', Bool.and_eq_false_iff, Bool.or_eq_false_iff, decide_eq_true_eq, decide_eq_false_iff_not, beq_iff_eq, bne_iff_ne, beq_eq_false_iff_ne, bne_eq_false_iff_eq] at qh22
      refine W.seq (fun K24 hK24 => ?_)
      refine W.region ?_
      refine Wl.run 1 (by kernel_rfl) ?_
      refine Wl.nil ?_
      refine hK24 _ _ _ ?_
      refine W.ret ?_
      show ∀ w_, _ → bodyPostM (fence none) 0 Try.prog Try.f33 _ Exit.ret _ w_
      exact fun w_ hS_ => fin_ret (ret1 rfl (RV.tmp (v := Value.int .i64 1) (by kernel_rfl)) hS_ ⟨by clear hK1 hK2 hK4 hK6 hK7 hK9 hK10 hK12 hK13 hK19 hK20 hK24; refine congrArg Ending.returned ?_; simp only [cmpN, h16, h22, cond_true, cond_false]; try rfl, hS_.below⟩)
    · have qh23 := h23; try simp only [Bool.and_eq_true, Bool.or_eq_true, Bool.not_eq_true', Bool.not_eq_false', Bool.and_eq_false_iff, Bool.or_eq_false_iff, decide_eq_true_eq, decide_eq_false_iff_not, beq_iff_eq, bne_iff_ne, beq_eq_false_iff_ne, bne_eq_false_iff_eq] at qh23
      refine W.skip' ?_
      refine hK19 _ _ _ ?_
      refine W.prune' [] [] (by kernel_rfl) (fun f25 => ?_)
      refine W.seq (fun K26 hK26 => ?_)
      refine W.region ?_
      refine Wl.run 1 (by kernel_rfl) ?_
      refine Wl.nil ?_
      refine hK26 _ _ _ ?_
      refine W.ret ?_
      show ∀ w_, _ → bodyPostM (fence none) 0 Try.prog Try.f33 _ Exit.ret _ w_
      exact fun w_ hS_ => fin_ret (ret1 rfl (RV.tmp (v := Value.int .i64 0) (by kernel_rfl)) hS_ ⟨by clear hK1 hK2 hK4 hK6 hK7 hK9 hK10 hK12 hK13 hK19 hK20 hK26; refine congrArg Ending.returned ?_; simp only [cmpN, h16, h23, cond_true, cond_false]; try rfl, hS_.below⟩)
theorem or5_c (v0 v1 v2 v3 v4 : Int) (a : Option Addr) (cap : Nat) (w : World) (hat : At w a [.int .i64 v0, .int .i64 v1, .int .i64 v2, .int .i64 v3, .int .i64 v4]) : Calls Try.prog 30 #[Value.slice a 5 cap] w (Ret w (.int .i64 (or5 v0 v1 v2 v3 v4))) := by
  refine calls_W (M := []) (LL := []) (n := 18) Try.func30 rfl rfl (by simp) (Mem.refl _) ?_
  refine W.seq (fun K1 hK1 => ?_)
  refine W.region ?_
  refine Wl.run 1 (by kernel_rfl) ?_
  refine Wl.nil ?_
  refine hK1 _ _ _ ?_
  refine W.seq (fun K2 hK2 => ?_)
  refine W.region ?_
  refine Wl.run 1 (by kernel_rfl) ?_
  refine Wl.nil ?_
  refine hK2 _ _ _ ?_
  refine W.seq (fun K3 hK3 => ?_)
  refine W.seq (fun K4 hK4 => ?_)
  refine W.region ?_
  refine Wl.run 3 (by kernel_rfl) ?_
  refine Wl.nil ?_
  refine hK4 _ _ _ ?_
  refine W.prune' [3, 6, 7, 8] [Value.int .i64 0, Value.slice a 5 cap, Value.int .i64 5, Value.int .i64 0] (by kernel_rfl) (fun f5 => ?_)
  refine W.block ?_
  refine W.rounds 6 ?_
  refine Wr.step (fun J6 hJ6 => ?_)
  refine W.seq (fun K7 hK7 => ?_)
  refine W.region ?_
  refine Wl.run 1 (by kernel_rfl) ?_
  refine Wl.nil ?_
  refine hK7 _ _ _ ?_
  refine W.seq (fun K8 hK8 => ?_)
  refine W.condT (by kernel_rfl) ?_
  refine W.skip' ?_
  refine hK8 _ _ _ ?_
  refine W.prune' [3, 6, 7, 8] [Value.int .i64 0, Value.slice a 5 cap, Value.int .i64 5, Value.int .i64 0] (by kernel_rfl) (fun f9 => ?_)
  refine W.seq (fun K10 hK10 => ?_)
  refine W.block ?_
  refine W.seq (fun K11 hK11 => ?_)
  refine W.region ?_
  refine Wl.ys (v := Value.pointer (some (ela a 0))) rfl rfl (Ys.byMem fun w_ h_ => Ys.indexAddr (k := .i64) (a := a) (len := 5) (cap := cap) (i := 0) (sz := 1) rfl (by kernel_rfl) (by kernel_rfl) Try.runUnderlying110 Try.sizeOf3 (by omega) (by omega) ((hat.mem0 h_).here (by first | (simp; done) | (simp; omega)))) ?_
  refine Wl.ys (v := Value.int .i64 v0) rfl rfl (Ys.ld (a := ela a 0) rfl (by kernel_rfl) Try.isAgg3 (fun w_ h_ => (hat.mem0 h_).ld (v := Value.int .i64 v0) rfl)) ?_
  refine Wl.run 1 (by kernel_rfl) ?_
  refine Wl.nil ?_
  refine hK11 _ _ _ ?_
  refine W.prune' [3, 5, 6, 7, 8] [Value.int .i64 0, Value.int .i64 v0, Value.slice a 5 cap, Value.int .i64 5, Value.int .i64 0] (by kernel_rfl) (fun f12 => ?_)
  refine W.seq (fun K13 hK13 => ?_)
  refine W.region ?_
  refine Wl.run 3 (by kernel_rfl) ?_
  refine Wl.nil ?_
  refine hK13 _ _ _ ?_
  refine W.prune' [3, 5, 6, 7, 8, 14] [Value.int .i64 0, Value.int .i64 v0, Value.slice a 5 cap, Value.int .i64 5, Value.int .i64 0, Value.bool (v0 != 0)] (by kernel_rfl) (fun f14 => ?_)
  refine W.cond (v0 != 0) (by kernel_rfl) (fun h15 => ?_) (fun h16 => ?_)
  · have qh15 := h15; try simp only [Bool.and_eq_true, Bool.or_eq_true, Bool.not_eq_true', Bool.not_eq_false', Bool.and_eq_false_iff, Bool.or_eq_false_iff, decide_eq_true_eq, decide_eq_false_iff_not, beq_iff_eq, bne_iff_ne, beq_eq_false_iff_ne, bne_eq_false_iff_eq] at qh15
    refine W.seq (fun K17 hK17 => ?_)
    refine W.region ?_
    refine Wl.run 2 (by kernel_rfl) ?_
    refine Wl.nil ?_
    refine hK17 _ _ _ ?_
    refine W.prune' [2] [Value.int .i64 v0] (by kernel_rfl) (fun f18 => ?_)
    refine W.ret ?_
    show ∀ w_, _ → bodyPostM (fence none) 0 Try.prog Try.f30 _ Exit.ret _ w_
    exact fun w_ hS_ => fin_ret (ret1 rfl (RV.tmp (v := Value.int .i64 v0) (by kernel_rfl)) hS_ ⟨by clear hK1 hK2 hK3 hK4 hJ6 hK7 hK8 hK10 hK11 hK13 hK17; refine congrArg Ending.returned ?_; simp only [or5, or2, h15, cond_true, cond_false]; try rfl, hS_.below⟩)
  · have qh16 := h16; try simp only [Bool.and_eq_true, Bool.or_eq_true, Bool.not_eq_true', Bool.not_eq_false', Bool.and_eq_false_iff, Bool.or_eq_false_iff, decide_eq_true_eq, decide_eq_false_iff_not, beq_iff_eq, bne_iff_ne, beq_eq_false_iff_ne, bne_eq_false_iff_eq] at qh16
    refine W.skip' ?_
    refine hK10 _ _ _ ?_
    refine W.prune' [3, 6, 7, 8] [Value.int .i64 0, Value.slice a 5 cap, Value.int .i64 5, Value.int .i64 0] (by kernel_rfl) (fun f19 => ?_)
    refine W.region ?_
    refine Wl.run 2 (by kernel_rfl) ?_
    refine Wl.nil ?_
    refine hJ6 _ _ _ ?_
    refine Wr.step (fun J20 hJ20 => ?_)
    refine W.prune' [3, 6, 7, 8] [Value.int .i64 0, Value.slice a 5 cap, Value.int .i64 5, Value.int .i64 1] (by kernel_rfl) (fun f21 => ?_)
    refine W.seq (fun K22 hK22 => ?_)
    refine W.region ?_
    refine Wl.run 1 (by kernel_rfl) ?_
    refine Wl.nil ?_
    refine hK22 _ _ _ ?_
    refine W.seq (fun K23 hK23 => ?_)
    refine W.condT (by kernel_rfl) ?_
    refine W.skip' ?_
    refine hK23 _ _ _ ?_
    refine W.prune' [3, 6, 7, 8] [Value.int .i64 0, Value.slice a 5 cap, Value.int .i64 5, Value.int .i64 1] (by kernel_rfl) (fun f24 => ?_)
    refine W.seq (fun K25 hK25 => ?_)
    refine W.block ?_
    refine W.seq (fun K26 hK26 => ?_)
    refine W.region ?_
    refine Wl.ys (v := Value.pointer (some (ela a 1))) rfl rfl (Ys.byMem fun w_ h_ => Ys.indexAddr (k := .i64) (a := a) (len := 5) (cap := cap) (i := 1) (sz := 1) rfl (by kernel_rfl) (by kernel_rfl) Try.runUnderlying110 Try.sizeOf3 (by omega) (by omega) ((hat.mem0 h_).here (by first | (simp; done) | (simp; omega)))) ?_
    refine Wl.ys (v := Value.int .i64 v1) rfl rfl (Ys.ld (a := ela a 1) rfl (by kernel_rfl) Try.isAgg3 (fun w_ h_ => (hat.mem0 h_).ld (v := Value.int .i64 v1) rfl)) ?_
    refine Wl.run 1 (by kernel_rfl) ?_
    refine Wl.nil ?_
    refine hK26 _ _ _ ?_
    refine W.prune' [3, 5, 6, 7, 8] [Value.int .i64 0, Value.int .i64 v1, Value.slice a 5 cap, Value.int .i64 5, Value.int .i64 1] (by kernel_rfl) (fun f27 => ?_)
    refine W.seq (fun K28 hK28 => ?_)
    refine W.region ?_
    refine Wl.run 3 (by kernel_rfl) ?_
    refine Wl.nil ?_
    refine hK28 _ _ _ ?_
    refine W.prune' [3, 5, 6, 7, 8, 14] [Value.int .i64 0, Value.int .i64 v1, Value.slice a 5 cap, Value.int .i64 5, Value.int .i64 1, Value.bool (v1 != 0)] (by kernel_rfl) (fun f29 => ?_)
    refine W.cond (v1 != 0) (by kernel_rfl) (fun h30 => ?_) (fun h31 => ?_)
    · have qh30 := h30; try simp only [Bool.and_eq_true, Bool.or_eq_true, Bool.not_eq_true', Bool.not_eq_false', Bool.and_eq_false_iff, Bool.or_eq_false_iff, decide_eq_true_eq, decide_eq_false_iff_not, beq_iff_eq, bne_iff_ne, beq_eq_false_iff_ne, bne_eq_false_iff_eq] at qh30
      refine W.seq (fun K32 hK32 => ?_)
      refine W.region ?_
      refine Wl.run 2 (by kernel_rfl) ?_
      refine Wl.nil ?_
      refine hK32 _ _ _ ?_
      refine W.prune' [2] [Value.int .i64 v1] (by kernel_rfl) (fun f33 => ?_)
      refine W.ret ?_
      show ∀ w_, _ → bodyPostM (fence none) 0 Try.prog Try.f30 _ Exit.ret _ w_
      exact fun w_ hS_ => fin_ret (ret1 rfl (RV.tmp (v := Value.int .i64 v1) (by kernel_rfl)) hS_ ⟨by clear hK1 hK2 hK3 hK4 hJ6 hK7 hK8 hK10 hK11 hK13 hJ20 hK22 hK23 hK25 hK26 hK28 hK32; refine congrArg Ending.returned ?_; simp only [or5, or2, h16, h30, cond_true, cond_false]; try rfl, hS_.below⟩)
    · have qh31 := h31; try simp only [Bool.and_eq_true, Bool.or_eq_true, Bool.not_eq_true', Bool.not_eq_false', Bool.and_eq_false_iff, Bool.or_eq_false_iff, decide_eq_true_eq, decide_eq_false_iff_not, beq_iff_eq, bne_iff_ne, beq_eq_false_iff_ne, bne_eq_false_iff_eq] at qh31
      refine W.skip' ?_
      refine hK25 _ _ _ ?_
      refine W.prune' [3, 6, 7, 8] [Value.int .i64 0, Value.slice a 5 cap, Value.int .i64 5, Value.int .i64 1] (by kernel_rfl) (fun f34 => ?_)
      refine W.region ?_
      refine Wl.run 2 (by kernel_rfl) ?_
      refine Wl.nil ?_
      refine hJ20 _ _ _ ?_
      refine Wr.step (fun J35 hJ35 => ?_)
      refine W.prune' [3, 6, 7, 8] [Value.int .i64 0, Value.slice a 5 cap, Value.int .i64 5, Value.int .i64 2] (by kernel_rfl) (fun f36 => ?_)
      refine W.seq (fun K37 hK37 => ?_)
      refine W.region ?_
      refine Wl.run 1 (by kernel_rfl) ?_
      refine Wl.nil ?_
      refine hK37 _ _ _ ?_
      refine W.seq (fun K38 hK38 => ?_)
      refine W.condT (by kernel_rfl) ?_
      refine W.skip' ?_
      refine hK38 _ _ _ ?_
      refine W.prune' [3, 6, 7, 8] [Value.int .i64 0, Value.slice a 5 cap, Value.int .i64 5, Value.int .i64 2] (by kernel_rfl) (fun f39 => ?_)
      refine W.seq (fun K40 hK40 => ?_)
      refine W.block ?_
      refine W.seq (fun K41 hK41 => ?_)
      refine W.region ?_
      refine Wl.ys (v := Value.pointer (some (ela a 2))) rfl rfl (Ys.byMem fun w_ h_ => Ys.indexAddr (k := .i64) (a := a) (len := 5) (cap := cap) (i := 2) (sz := 1) rfl (by kernel_rfl) (by kernel_rfl) Try.runUnderlying110 Try.sizeOf3 (by omega) (by omega) ((hat.mem0 h_).here (by first | (simp; done) | (simp; omega)))) ?_
      refine Wl.ys (v := Value.int .i64 v2) rfl rfl (Ys.ld (a := ela a 2) rfl (by kernel_rfl) Try.isAgg3 (fun w_ h_ => (hat.mem0 h_).ld (v := Value.int .i64 v2) rfl)) ?_
      refine Wl.run 1 (by kernel_rfl) ?_
      refine Wl.nil ?_
      refine hK41 _ _ _ ?_
      refine W.prune' [3, 5, 6, 7, 8] [Value.int .i64 0, Value.int .i64 v2, Value.slice a 5 cap, Value.int .i64 5, Value.int .i64 2] (by kernel_rfl) (fun f42 => ?_)
      refine W.seq (fun K43 hK43 => ?_)
      refine W.region ?_
      refine Wl.run 3 (by kernel_rfl) ?_
      refine Wl.nil ?_
      refine hK43 _ _ _ ?_
      refine W.prune' [3, 5, 6, 7, 8, 14] [Value.int .i64 0, Value.int .i64 v2, Value.slice a 5 cap, Value.int .i64 5, Value.int .i64 2, Value.bool (v2 != 0)] (by kernel_rfl) (fun f44 => ?_)
      refine W.cond (v2 != 0) (by kernel_rfl) (fun h45 => ?_) (fun h46 => ?_)
      · have qh45 := h45; try simp only [Bool.and_eq_true, Bool.or_eq_true, Bool.not_eq_true', Bool.not_eq_false', Bool.and_eq_false_iff, Bool.or_eq_false_iff, decide_eq_true_eq, decide_eq_false_iff_not, beq_iff_eq, bne_iff_ne, beq_eq_false_iff_ne, bne_eq_false_iff_eq] at qh45
        refine W.seq (fun K47 hK47 => ?_)
        refine W.region ?_
        refine Wl.run 2 (by kernel_rfl) ?_
        refine Wl.nil ?_
        refine hK47 _ _ _ ?_
        refine W.prune' [2] [Value.int .i64 v2] (by kernel_rfl) (fun f48 => ?_)
        refine W.ret ?_
        show ∀ w_, _ → bodyPostM (fence none) 0 Try.prog Try.f30 _ Exit.ret _ w_
        exact fun w_ hS_ => fin_ret (ret1 rfl (RV.tmp (v := Value.int .i64 v2) (by kernel_rfl)) hS_ ⟨by clear hK1 hK2 hK3 hK4 hJ6 hK7 hK8 hK10 hK11 hK13 hJ20 hK22 hK23 hK25 hK26 hK28 hJ35 hK37 hK38 hK40 hK41 hK43 hK47; refine congrArg Ending.returned ?_; simp only [or5, or2, h16, h31, h45, cond_true, cond_false]; try rfl, hS_.below⟩)
      · have qh46 := h46; try simp only [Bool.and_eq_true, Bool.or_eq_true, Bool.not_eq_true', Bool.not_eq_false', Bool.and_eq_false_iff, Bool.or_eq_false_iff, decide_eq_true_eq, decide_eq_false_iff_not, beq_iff_eq, bne_iff_ne, beq_eq_false_iff_ne, bne_eq_false_iff_eq] at qh46
        refine W.skip' ?_
        refine hK40 _ _ _ ?_
        refine W.prune' [3, 6, 7, 8] [Value.int .i64 0, Value.slice a 5 cap, Value.int .i64 5, Value.int .i64 2] (by kernel_rfl) (fun f49 => ?_)
        refine W.region ?_
        refine Wl.run 2 (by kernel_rfl) ?_
        refine Wl.nil ?_
        refine hJ35 _ _ _ ?_
        refine Wr.step (fun J50 hJ50 => ?_)
        refine W.prune' [3, 6, 7, 8] [Value.int .i64 0, Value.slice a 5 cap, Value.int .i64 5, Value.int .i64 3] (by kernel_rfl) (fun f51 => ?_)
        refine W.seq (fun K52 hK52 => ?_)
        refine W.region ?_
        refine Wl.run 1 (by kernel_rfl) ?_
        refine Wl.nil ?_
        refine hK52 _ _ _ ?_
        refine W.seq (fun K53 hK53 => ?_)
        refine W.condT (by kernel_rfl) ?_
        refine W.skip' ?_
        refine hK53 _ _ _ ?_
        refine W.prune' [3, 6, 7, 8] [Value.int .i64 0, Value.slice a 5 cap, Value.int .i64 5, Value.int .i64 3] (by kernel_rfl) (fun f54 => ?_)
        refine W.seq (fun K55 hK55 => ?_)
        refine W.block ?_
        refine W.seq (fun K56 hK56 => ?_)
        refine W.region ?_
        refine Wl.ys (v := Value.pointer (some (ela a 3))) rfl rfl (Ys.byMem fun w_ h_ => Ys.indexAddr (k := .i64) (a := a) (len := 5) (cap := cap) (i := 3) (sz := 1) rfl (by kernel_rfl) (by kernel_rfl) Try.runUnderlying110 Try.sizeOf3 (by omega) (by omega) ((hat.mem0 h_).here (by first | (simp; done) | (simp; omega)))) ?_
        refine Wl.ys (v := Value.int .i64 v3) rfl rfl (Ys.ld (a := ela a 3) rfl (by kernel_rfl) Try.isAgg3 (fun w_ h_ => (hat.mem0 h_).ld (v := Value.int .i64 v3) rfl)) ?_
        refine Wl.run 1 (by kernel_rfl) ?_
        refine Wl.nil ?_
        refine hK56 _ _ _ ?_
        refine W.prune' [3, 5, 6, 7, 8] [Value.int .i64 0, Value.int .i64 v3, Value.slice a 5 cap, Value.int .i64 5, Value.int .i64 3] (by kernel_rfl) (fun f57 => ?_)
        refine W.seq (fun K58 hK58 => ?_)
        refine W.region ?_
        refine Wl.run 3 (by kernel_rfl) ?_
        refine Wl.nil ?_
        refine hK58 _ _ _ ?_
        refine W.prune' [3, 5, 6, 7, 8, 14] [Value.int .i64 0, Value.int .i64 v3, Value.slice a 5 cap, Value.int .i64 5, Value.int .i64 3, Value.bool (v3 != 0)] (by kernel_rfl) (fun f59 => ?_)
        refine W.cond (v3 != 0) (by kernel_rfl) (fun h60 => ?_) (fun h61 => ?_)
        · have qh60 := h60; try simp only [Bool.and_eq_true, Bool.or_eq_true, Bool.not_eq_true', Bool.not_eq_false', Bool.and_eq_false_iff, Bool.or_eq_false_iff, decide_eq_true_eq, decide_eq_false_iff_not, beq_iff_eq, bne_iff_ne, beq_eq_false_iff_ne, bne_eq_false_iff_eq] at qh60
          refine W.seq (fun K62 hK62 => ?_)
          refine W.region ?_
          refine Wl.run 2 (by kernel_rfl) ?_
          refine Wl.nil ?_
          refine hK62 _ _ _ ?_
          refine W.prune' [2] [Value.int .i64 v3] (by kernel_rfl) (fun f63 => ?_)
          refine W.ret ?_
          show ∀ w_, _ → bodyPostM (fence none) 0 Try.prog Try.f30 _ Exit.ret _ w_
          exact fun w_ hS_ => fin_ret (ret1 rfl (RV.tmp (v := Value.int .i64 v3) (by kernel_rfl)) hS_ ⟨by clear hK1 hK2 hK3 hK4 hJ6 hK7 hK8 hK10 hK11 hK13 hJ20 hK22 hK23 hK25 hK26 hK28 hJ35 hK37 hK38 hK40 hK41 hK43 hJ50 hK52 hK53 hK55 hK56 hK58 hK62; refine congrArg Ending.returned ?_; simp only [or5, or2, h16, h31, h46, h60, cond_true, cond_false]; try rfl, hS_.below⟩)
        · have qh61 := h61; try simp only [Bool.and_eq_true, Bool.or_eq_true, Bool.not_eq_true', Bool.not_eq_false', Bool.and_eq_false_iff, Bool.or_eq_false_iff, decide_eq_true_eq, decide_eq_false_iff_not, beq_iff_eq, bne_iff_ne, beq_eq_false_iff_ne, bne_eq_false_iff_eq] at qh61
          refine W.skip' ?_
          refine hK55 _ _ _ ?_
          refine W.prune' [3, 6, 7, 8] [Value.int .i64 0, Value.slice a 5 cap, Value.int .i64 5, Value.int .i64 3] (by kernel_rfl) (fun f64 => ?_)
          refine W.region ?_
          refine Wl.run 2 (by kernel_rfl) ?_
          refine Wl.nil ?_
          refine hJ50 _ _ _ ?_
          refine Wr.step (fun J65 hJ65 => ?_)
          refine W.prune' [3, 6, 7, 8] [Value.int .i64 0, Value.slice a 5 cap, Value.int .i64 5, Value.int .i64 4] (by kernel_rfl) (fun f66 => ?_)
          refine W.seq (fun K67 hK67 => ?_)
          refine W.region ?_
          refine Wl.run 1 (by kernel_rfl) ?_
          refine Wl.nil ?_
          refine hK67 _ _ _ ?_
          refine W.seq (fun K68 hK68 => ?_)
          refine W.condT (by kernel_rfl) ?_
          refine W.skip' ?_
          refine hK68 _ _ _ ?_
          refine W.prune' [3, 6, 7, 8] [Value.int .i64 0, Value.slice a 5 cap, Value.int .i64 5, Value.int .i64 4] (by kernel_rfl) (fun f69 => ?_)
          refine W.seq (fun K70 hK70 => ?_)
          refine W.block ?_
          refine W.seq (fun K71 hK71 => ?_)
          refine W.region ?_
          refine Wl.ys (v := Value.pointer (some (ela a 4))) rfl rfl (Ys.byMem fun w_ h_ => Ys.indexAddr (k := .i64) (a := a) (len := 5) (cap := cap) (i := 4) (sz := 1) rfl (by kernel_rfl) (by kernel_rfl) Try.runUnderlying110 Try.sizeOf3 (by omega) (by omega) ((hat.mem0 h_).here (by first | (simp; done) | (simp; omega)))) ?_
          refine Wl.ys (v := Value.int .i64 v4) rfl rfl (Ys.ld (a := ela a 4) rfl (by kernel_rfl) Try.isAgg3 (fun w_ h_ => (hat.mem0 h_).ld (v := Value.int .i64 v4) rfl)) ?_
          refine Wl.run 1 (by kernel_rfl) ?_
          refine Wl.nil ?_
          refine hK71 _ _ _ ?_
          refine W.prune' [3, 5, 6, 7, 8] [Value.int .i64 0, Value.int .i64 v4, Value.slice a 5 cap, Value.int .i64 5, Value.int .i64 4] (by kernel_rfl) (fun f72 => ?_)
          refine W.seq (fun K73 hK73 => ?_)
          refine W.region ?_
          refine Wl.run 3 (by kernel_rfl) ?_
          refine Wl.nil ?_
          refine hK73 _ _ _ ?_
          refine W.prune' [3, 5, 6, 7, 8, 14] [Value.int .i64 0, Value.int .i64 v4, Value.slice a 5 cap, Value.int .i64 5, Value.int .i64 4, Value.bool (v4 != 0)] (by kernel_rfl) (fun f74 => ?_)
          refine W.cond (v4 != 0) (by kernel_rfl) (fun h75 => ?_) (fun h76 => ?_)
          · have qh75 := h75; try simp only [Bool.and_eq_true, Bool.or_eq_true, Bool.not_eq_true', Bool.not_eq_false', Bool.and_eq_false_iff, Bool.or_eq_false_iff, decide_eq_true_eq, decide_eq_false_iff_not, beq_iff_eq, bne_iff_ne, beq_eq_false_iff_ne, bne_eq_false_iff_eq] at qh75
            refine W.seq (fun K77 hK77 => ?_)
            refine W.region ?_
            refine Wl.run 2 (by kernel_rfl) ?_
            refine Wl.nil ?_
            refine hK77 _ _ _ ?_
            refine W.prune' [2] [Value.int .i64 v4] (by kernel_rfl) (fun f78 => ?_)
            refine W.ret ?_
            show ∀ w_, _ → bodyPostM (fence none) 0 Try.prog Try.f30 _ Exit.ret _ w_
            exact fun w_ hS_ => fin_ret (ret1 rfl (RV.tmp (v := Value.int .i64 v4) (by kernel_rfl)) hS_ ⟨by clear hK1 hK2 hK3 hK4 hJ6 hK7 hK8 hK10 hK11 hK13 hJ20 hK22 hK23 hK25 hK26 hK28 hJ35 hK37 hK38 hK40 hK41 hK43 hJ50 hK52 hK53 hK55 hK56 hK58 hJ65 hK67 hK68 hK70 hK71 hK73 hK77; refine congrArg Ending.returned ?_; simp only [or5, or2, h16, h31, h46, h61, h75, cond_true, cond_false]; try rfl, hS_.below⟩)
          · have qh76 := h76; try simp only [Bool.and_eq_true, Bool.or_eq_true, Bool.not_eq_true', Bool.not_eq_false', Bool.and_eq_false_iff, Bool.or_eq_false_iff, decide_eq_true_eq, decide_eq_false_iff_not, beq_iff_eq, bne_iff_ne, beq_eq_false_iff_ne, bne_eq_false_iff_eq] at qh76
            refine W.skip' ?_
            refine hK70 _ _ _ ?_
            refine W.prune' [3, 6, 7, 8] [Value.int .i64 0, Value.slice a 5 cap, Value.int .i64 5, Value.int .i64 4] (by kernel_rfl) (fun f79 => ?_)
            refine W.region ?_
            refine Wl.run 2 (by kernel_rfl) ?_
            refine Wl.nil ?_
            refine hJ65 _ _ _ ?_
            refine Wr.step (fun J80 hJ80 => ?_)
            refine W.prune' [3, 6, 7, 8] [Value.int .i64 0, Value.slice a 5 cap, Value.int .i64 5, Value.int .i64 5] (by kernel_rfl) (fun f81 => ?_)
            refine W.seq (fun K82 hK82 => ?_)
            refine W.region ?_
            refine Wl.run 1 (by kernel_rfl) ?_
            refine Wl.nil ?_
            refine hK82 _ _ _ ?_
            refine W.seq (fun K83 hK83 => ?_)
            refine W.condF (by kernel_rfl) ?_
            refine W.exit ?_
            refine hK3 _ _ _ ?_
            refine W.prune' [3] [Value.int .i64 0] (by kernel_rfl) (fun f84 => ?_)
            refine W.seq (fun K85 hK85 => ?_)
            refine W.region ?_
            refine Wl.run 2 (by kernel_rfl) ?_
            refine Wl.nil ?_
            refine hK85 _ _ _ ?_
            refine W.prune' [2] [Value.int .i64 0] (by kernel_rfl) (fun f86 => ?_)
            refine W.ret ?_
            show ∀ w_, _ → bodyPostM (fence none) 0 Try.prog Try.f30 _ Exit.ret _ w_
            exact fun w_ hS_ => fin_ret (ret1 rfl (RV.tmp (v := Value.int .i64 0) (by kernel_rfl)) hS_ ⟨by clear hK1 hK2 hK3 hK4 hJ6 hK7 hK8 hK10 hK11 hK13 hJ20 hK22 hK23 hK25 hK26 hK28 hJ35 hK37 hK38 hK40 hK41 hK43 hJ50 hK52 hK53 hK55 hK56 hK58 hJ65 hK67 hK68 hK70 hK71 hK73 hJ80 hK82 hK83 hK85; refine congrArg Ending.returned ?_; simp only [or5, or2, h16, h31, h46, h61, h76, cond_true, cond_false]; try rfl, hS_.below⟩)
def ordN (p s d f t p' s' d' f' t' : Nat) : Int := or5 (cmpN p p') (cmpN s s') (cmpN f f') (cmpN d d') (cmpN t t')
def ltB (x y : Nat) (r : Bool) : Bool := bif ((x : Nat) : Int) != ((y : Nat) : Int) then decide (((x : Nat) : Int) < ((y : Nat) : Int)) else r
theorem order_c (pr : UInt8) (s d fr to : Nat) (ps : UInt8) (s2 d2 fr2 to2 : Nat) (w : World) (hs : s < 4294967296) (hd : d < 4294967296) (hf : fr < 65536) (ht : to < 65536) (hs2 : s2 < 4294967296) (hd2 : d2 < 4294967296) (hfr2 : fr2 < 65536) (hto2 : to2 < 65536) : Calls Try.prog 16 #[Value.agg ([Value.int .u8 ((pr.toNat : Nat) : Int), Value.int .u32 ((s : Nat) : Int), Value.int .u32 ((d : Nat) : Int), Value.int .u16 ((fr : Nat) : Int), Value.int .u16 ((to : Nat) : Int)]).toArray, Value.agg ([Value.int .u8 ((ps.toNat : Nat) : Int), Value.int .u32 ((s2 : Nat) : Int), Value.int .u32 ((d2 : Nat) : Int), Value.int .u16 ((fr2 : Nat) : Int), Value.int .u16 ((to2 : Nat) : Int)]).toArray] w (Ret w (.int .i64 (ordN pr.toNat s d fr to ps.toNat s2 d2 fr2 to2))) := by
  refine calls_W (M := []) (LL := []) (n := 32) Try.func16 rfl rfl (by simp) (Mem.refl _) ?_
  refine W.seq (fun K1 hK1 => ?_)
  refine W.region ?_
  refine Wl.ht rfl (Ht.box (v := Value.agg ([Value.int .u8 ((pr.toNat : Nat) : Int), Value.int .u32 ((s : Nat) : Int), Value.int .u32 ((d : Nat) : Int), Value.int .u16 ((fr : Nat) : Int), Value.int .u16 ((to : Nat) : Int)]).toArray) (cs := [Value.int .u8 ((pr.toNat : Nat) : Int), Value.int .u32 ((s : Nat) : Int), Value.int .u32 ((d : Nat) : Int), Value.int .u16 ((fr : Nat) : Int), Value.int .u16 ((to : Nat) : Int)]) rfl rfl (by kernel_rfl) rfl) (fun p2 => ?_)
  refine Wl.ht rfl (Ht.box (v := Value.agg ([Value.int .u8 ((ps.toNat : Nat) : Int), Value.int .u32 ((s2 : Nat) : Int), Value.int .u32 ((d2 : Nat) : Int), Value.int .u16 ((fr2 : Nat) : Int), Value.int .u16 ((to2 : Nat) : Int)]).toArray) (cs := [Value.int .u8 ((ps.toNat : Nat) : Int), Value.int .u32 ((s2 : Nat) : Int), Value.int .u32 ((d2 : Nat) : Int), Value.int .u16 ((fr2 : Nat) : Int), Value.int .u16 ((to2 : Nat) : Int)]) rfl rfl (by kernel_rfl) rfl) (fun p3 => ?_)
  refine Wl.run 1 (by kernel_rfl) ?_
  refine Wl.nil ?_
  refine hK1 _ _ _ ?_
  refine W.prune' [2, 3] [Value.pointer (some ⟨p2, 0, none⟩), Value.pointer (some ⟨p3, 0, none⟩)] (by kernel_rfl) (fun f2 => ?_)
  refine W.seq (fun K3 hK3 => ?_)
  refine W.draws [(0, true), (1, true), (2, true), (3, true), (5, true), (6, true), (7, true), (8, true), (10, true), (11, true), (12, true), (13, true), (15, true), (16, true), (17, true), (18, true), (20, true), (21, true), (22, true), (23, true), (4, false), (9, false), (14, false), (19, false), (24, false), (25, false), (26, false), (27, false)] [0, 1, 2, 3, 5, 6, 7, 8, 10, 11, 12, 13, 15, 16, 17, 18, 20, 21, 22, 23] (Mem w [] [[cb p3 [Value.int .u8 ((ps.toNat : Nat) : Int), Value.int .u32 ((s2 : Nat) : Int), Value.int .u32 ((d2 : Nat) : Int), Value.int .u16 ((fr2 : Nat) : Int), Value.int .u16 ((to2 : Nat) : Int)] 30], [cb p2 [Value.int .u8 ((pr.toNat : Nat) : Int), Value.int .u32 ((s : Nat) : Int), Value.int .u32 ((d : Nat) : Int), Value.int .u16 ((fr : Nat) : Int), Value.int .u16 ((to : Nat) : Int)] 30]]) (by kernel_rfl) (by kernel_rfl) (by kernel_rfl) rfl (by kernel_rfl) (fun _ _ h_ => h_.drawn _) (fun _ h_ => h_) ?_
  refine Wd.run 1 (by kernel_rfl) ?_
  refine Wd.ys (v := Value.int .u8 ((pr.toNat : Nat) : Int)) rfl rfl rfl (Ys.load (b := p2) (o' := 0) (i := 1) (j := 0) (cs := [Value.int .u8 ((pr.toNat : Nat) : Int), Value.int .u32 ((s : Nat) : Int), Value.int .u32 ((d : Nat) : Int), Value.int .u16 ((fr : Nat) : Int), Value.int .u16 ((to : Nat) : Int)]) (v := Value.int .u8 ((pr.toNat : Nat) : Int)) rfl (by kernel_rfl) Try.isAgg5 rfl rfl rfl) ?_
  refine Wd.run 1 (by kernel_rfl) ?_
  refine Wd.ys (v := Value.int .u8 ((ps.toNat : Nat) : Int)) rfl rfl rfl (Ys.load (b := p3) (o' := 0) (i := 0) (j := 0) (cs := [Value.int .u8 ((ps.toNat : Nat) : Int), Value.int .u32 ((s2 : Nat) : Int), Value.int .u32 ((d2 : Nat) : Int), Value.int .u16 ((fr2 : Nat) : Int), Value.int .u16 ((to2 : Nat) : Int)]) (v := Value.int .u8 ((ps.toNat : Nat) : Int)) rfl (by kernel_rfl) Try.isAgg5 rfl rfl rfl) ?_
  refine Wd.run 1 (by kernel_rfl) ?_
  refine Wd.ys (v := Value.int .u32 ((s : Nat) : Int)) rfl rfl rfl (Ys.load (b := p2) (o' := 1) (i := 1) (j := 0) (cs := [Value.int .u8 ((pr.toNat : Nat) : Int), Value.int .u32 ((s : Nat) : Int), Value.int .u32 ((d : Nat) : Int), Value.int .u16 ((fr : Nat) : Int), Value.int .u16 ((to : Nat) : Int)]) (v := Value.int .u32 ((s : Nat) : Int)) rfl (by kernel_rfl) Try.isAgg24 rfl rfl rfl) ?_
  refine Wd.run 1 (by kernel_rfl) ?_
  refine Wd.ys (v := Value.int .u32 ((s2 : Nat) : Int)) rfl rfl rfl (Ys.load (b := p3) (o' := 1) (i := 0) (j := 0) (cs := [Value.int .u8 ((ps.toNat : Nat) : Int), Value.int .u32 ((s2 : Nat) : Int), Value.int .u32 ((d2 : Nat) : Int), Value.int .u16 ((fr2 : Nat) : Int), Value.int .u16 ((to2 : Nat) : Int)]) (v := Value.int .u32 ((s2 : Nat) : Int)) rfl (by kernel_rfl) Try.isAgg24 rfl rfl rfl) ?_
  refine Wd.run 1 (by kernel_rfl) ?_
  refine Wd.ys (v := Value.int .u16 ((fr : Nat) : Int)) rfl rfl rfl (Ys.load (b := p2) (o' := 3) (i := 1) (j := 0) (cs := [Value.int .u8 ((pr.toNat : Nat) : Int), Value.int .u32 ((s : Nat) : Int), Value.int .u32 ((d : Nat) : Int), Value.int .u16 ((fr : Nat) : Int), Value.int .u16 ((to : Nat) : Int)]) (v := Value.int .u16 ((fr : Nat) : Int)) rfl (by kernel_rfl) Try.isAgg22 rfl rfl rfl) ?_
  refine Wd.run 1 (by kernel_rfl) ?_
  refine Wd.ys (v := Value.int .u16 ((fr2 : Nat) : Int)) rfl rfl rfl (Ys.load (b := p3) (o' := 3) (i := 0) (j := 0) (cs := [Value.int .u8 ((ps.toNat : Nat) : Int), Value.int .u32 ((s2 : Nat) : Int), Value.int .u32 ((d2 : Nat) : Int), Value.int .u16 ((fr2 : Nat) : Int), Value.int .u16 ((to2 : Nat) : Int)]) (v := Value.int .u16 ((fr2 : Nat) : Int)) rfl (by kernel_rfl) Try.isAgg22 rfl rfl rfl) ?_
  refine Wd.run 1 (by kernel_rfl) ?_
  refine Wd.ys (v := Value.int .u32 ((d : Nat) : Int)) rfl rfl rfl (Ys.load (b := p2) (o' := 2) (i := 1) (j := 0) (cs := [Value.int .u8 ((pr.toNat : Nat) : Int), Value.int .u32 ((s : Nat) : Int), Value.int .u32 ((d : Nat) : Int), Value.int .u16 ((fr : Nat) : Int), Value.int .u16 ((to : Nat) : Int)]) (v := Value.int .u32 ((d : Nat) : Int)) rfl (by kernel_rfl) Try.isAgg24 rfl rfl rfl) ?_
  refine Wd.run 1 (by kernel_rfl) ?_
  refine Wd.ys (v := Value.int .u32 ((d2 : Nat) : Int)) rfl rfl rfl (Ys.load (b := p3) (o' := 2) (i := 0) (j := 0) (cs := [Value.int .u8 ((ps.toNat : Nat) : Int), Value.int .u32 ((s2 : Nat) : Int), Value.int .u32 ((d2 : Nat) : Int), Value.int .u16 ((fr2 : Nat) : Int), Value.int .u16 ((to2 : Nat) : Int)]) (v := Value.int .u32 ((d2 : Nat) : Int)) rfl (by kernel_rfl) Try.isAgg24 rfl rfl rfl) ?_
  refine Wd.run 1 (by kernel_rfl) ?_
  refine Wd.ys (v := Value.int .u16 ((to : Nat) : Int)) rfl rfl rfl (Ys.load (b := p2) (o' := 4) (i := 1) (j := 0) (cs := [Value.int .u8 ((pr.toNat : Nat) : Int), Value.int .u32 ((s : Nat) : Int), Value.int .u32 ((d : Nat) : Int), Value.int .u16 ((fr : Nat) : Int), Value.int .u16 ((to : Nat) : Int)]) (v := Value.int .u16 ((to : Nat) : Int)) rfl (by kernel_rfl) Try.isAgg22 rfl rfl rfl) ?_
  refine Wd.run 1 (by kernel_rfl) ?_
  refine Wd.ys (v := Value.int .u16 ((to2 : Nat) : Int)) rfl rfl rfl (Ys.load (b := p3) (o' := 4) (i := 0) (j := 0) (cs := [Value.int .u8 ((ps.toNat : Nat) : Int), Value.int .u32 ((s2 : Nat) : Int), Value.int .u32 ((d2 : Nat) : Int), Value.int .u16 ((fr2 : Nat) : Int), Value.int .u16 ((to2 : Nat) : Int)]) (v := Value.int .u16 ((to2 : Nat) : Int)) rfl (by kernel_rfl) Try.isAgg22 rfl rfl rfl) ?_
  refine Wd.yc (v := Value.int .i64 (cmpN (pr.toNat) (ps.toNat))) rfl rfl rfl (Yc.call (k := 31) (args := #[Value.int .u8 ((pr.toNat : Nat) : Int), Value.int .u8 ((ps.toNat : Nat) : Int)]) (fun _ => by kernel_rfl) (fun w_ hm_ => (cmpb_c pr ps _))) (.inr fun _ h_ => h_) ?_
  refine Wd.yc (v := Value.int .i64 (cmpN s s2)) rfl rfl rfl (Yc.call (k := 32) (args := #[Value.int .u32 ((s : Nat) : Int), Value.int .u32 ((s2 : Nat) : Int)]) (fun _ => by kernel_rfl) (fun w_ hm_ => (cmpa_c s s2 _))) (.inr fun _ h_ => h_) ?_
  refine Wd.yc (v := Value.int .i64 (cmpN fr fr2)) rfl rfl rfl (Yc.call (k := 33) (args := #[Value.int .u16 ((fr : Nat) : Int), Value.int .u16 ((fr2 : Nat) : Int)]) (fun _ => by kernel_rfl) (fun w_ hm_ => (cmpw_c fr fr2 _))) (.inr fun _ h_ => h_) ?_
  refine Wd.yc (v := Value.int .i64 (cmpN d d2)) rfl rfl rfl (Yc.call (k := 32) (args := #[Value.int .u32 ((d : Nat) : Int), Value.int .u32 ((d2 : Nat) : Int)]) (fun _ => by kernel_rfl) (fun w_ hm_ => (cmpa_c d d2 _))) (.inr fun _ h_ => h_) ?_
  refine Wd.yc (v := Value.int .i64 (cmpN to to2)) rfl rfl rfl (Yc.call (k := 33) (args := #[Value.int .u16 ((to : Nat) : Int), Value.int .u16 ((to2 : Nat) : Int)]) (fun _ => by kernel_rfl) (fun w_ hm_ => (cmpw_c to to2 _))) (.inr fun _ h_ => h_) ?_
  refine Wd.ht rfl rfl (Ht.made (mk := fun b_ => .slice (some ⟨b_, 0, none⟩) 5 5) (t := 3) (cs := [Value.int .i64 (cmpN (pr.toNat) (ps.toNat)), Value.int .i64 (cmpN s s2), Value.int .i64 (cmpN fr fr2), Value.int .i64 (cmpN d d2), Value.int .i64 (cmpN to to2)]) rfl (fun _ => by kernel_rfl)) (.inr fun _ _ h_ => h_.pick [1, 2] (by decide) rfl) (fun p30 => ?_)
  refine Wd.yc (v := Value.int .i64 (or5 (cmpN (pr.toNat) (ps.toNat)) (cmpN s s2) (cmpN fr fr2) (cmpN d d2) (cmpN to to2))) rfl rfl rfl (Yc.call (k := 30) (args := #[Value.slice (some ⟨p30, 0, none⟩) 5 5]) (fun _ => by kernel_rfl) (fun w_ hm_ => (or5_c (cmpN (pr.toNat) (ps.toNat)) (cmpN s s2) (cmpN fr fr2) (cmpN d d2) (cmpN to to2) (some ⟨p30, 0, none⟩) 5 _ (At.lit0 (i := 0) (j := 0) (t := 3) (b := p30) hm_ rfl rfl)))) (.inr fun _ h_ => h_.pick [1, 2] (by decide) rfl) ?_
  refine Wd.yc (v := Value.int .i64 (or5 (cmpN (pr.toNat) (ps.toNat)) (cmpN s s2) (cmpN fr fr2) (cmpN d d2) (cmpN to to2))) rfl rfl rfl (Ys.yc (Ys.pure (fun _ => by kernel_rfl))) (.inl (by kernel_rfl)) ?_
  refine Wd.nil ?_
  refine hK3 _ _ _ ?_
  refine W.pick (LL' := []) [] (by decide) rfl ?_
  refine W.prune' [4] [Value.int .i64 (or5 (cmpN (pr.toNat) (ps.toNat)) (cmpN s s2) (cmpN fr fr2) (cmpN d d2) (cmpN to to2))] (by kernel_rfl) (fun f4 => ?_)
  refine W.ret ?_
  show ∀ w_, _ → bodyPostM (fence none) 0 Try.prog Try.f16 _ Exit.ret _ w_
  exact fun w_ hS_ => fin_ret (ret1 rfl (RV.tmp (v := Value.int .i64 (or5 (cmpN (pr.toNat) (ps.toNat)) (cmpN s s2) (cmpN fr fr2) (cmpN d d2) (cmpN to to2))) (by kernel_rfl)) hS_ ⟨rfl, hS_.below⟩)
structure Ord2 (c cc : Int) (l ll e : Bool) : Prop where
  h1 : (decide (c < 0)) = l
  h2 : (decide (cc < 0)) = ll
  h3 : (c == 0) = e
  h4 : (decide (c > 0)) = (decide (cc < 0))
theorem cmpN_cases (x y : Nat) : (x < y ∧ cmpN x y = -1) ∨ (y < x ∧ cmpN x y = 1) ∨ (x = y ∧ cmpN x y = 0) := by
  unfold cmpN
  rcases Nat.lt_trichotomy x y with h | h | h
  · left; rw [decide_eq_true (show ((x : Nat) : Int) < (y : Nat) by omega)]; exact ⟨h, rfl⟩
  · right; right; rw [decide_eq_false (show ¬ ((x : Nat) : Int) < (y : Nat) by omega), decide_eq_false (show ¬ ((x : Nat) : Int) > (y : Nat) by omega)]; exact ⟨h, rfl⟩
  · right; left; rw [decide_eq_false (show ¬ ((x : Nat) : Int) < (y : Nat) by omega), decide_eq_true (show ((x : Nat) : Int) > (y : Nat) by omega)]; exact ⟨h, rfl⟩
theorem Ord2.step {c cc : Int} {l ll e : Bool} (h : Ord2 c cc l ll e) (x y : Nat) : Ord2 (or2 (cmpN x y) c) (or2 (cmpN y x) cc) (ltB x y l) (ltB y x ll) ((((x : Nat) : Int) == ((y : Nat) : Int)) && e) := by
  rcases cmpN_cases x y with ⟨h1, h2⟩ | ⟨h1, h2⟩ | ⟨h1, h2⟩ <;> rcases cmpN_cases y x with ⟨g1, g2⟩ | ⟨g1, g2⟩ | ⟨g1, g2⟩ <;> try omega
  · rw [h2, g2]
    have e1 : (((x : Nat) : Int) != ((y : Nat) : Int)) = true := bne_iff_ne.2 (by omega)
    have e2 : (((y : Nat) : Int) != ((x : Nat) : Int)) = true := bne_iff_ne.2 (by omega)
    have e3 : (((x : Nat) : Int) == ((y : Nat) : Int)) = false := beq_eq_false_iff_ne.2 (by omega)
    unfold ltB; rw [e1, e2, e3]
    constructor <;> simp [or2] <;> omega
  · rw [h2, g2]
    have e1 : (((x : Nat) : Int) != ((y : Nat) : Int)) = true := bne_iff_ne.2 (by omega)
    have e2 : (((y : Nat) : Int) != ((x : Nat) : Int)) = true := bne_iff_ne.2 (by omega)
    have e3 : (((x : Nat) : Int) == ((y : Nat) : Int)) = false := beq_eq_false_iff_ne.2 (by omega)
    unfold ltB; rw [e1, e2, e3]
    constructor <;> simp [or2] <;> omega
  · subst h1; rw [h2]
    have e1 : (((x : Nat) : Int) != ((x : Nat) : Int)) = false := by simp
    have e3 : (((x : Nat) : Int) == ((x : Nat) : Int)) = true := by simp
    unfold ltB; rw [e1, e3]
    exact ⟨h.h1, h.h2, by rw [Bool.true_and]; exact h.h3, h.h4⟩
theorem tr_step {a b c : Int} (h : a ≤ 0 → b ≤ 0 → c ≤ 0) (x y z : Nat) : or2 (cmpN x y) a ≤ 0 → or2 (cmpN y z) b ≤ 0 → or2 (cmpN x z) c ≤ 0 := by
  rcases cmpN_cases x y with ⟨h1, h2⟩ | ⟨h1, h2⟩ | ⟨h1, h2⟩ <;> rcases cmpN_cases y z with ⟨g1, g2⟩ | ⟨g1, g2⟩ | ⟨g1, g2⟩ <;> rcases cmpN_cases x z with ⟨k1, k2⟩ | ⟨k1, k2⟩ | ⟨k1, k2⟩ <;> first | omega | (rw [h2, g2, k2]; simp [or2]; try omega) | (rw [h2, g2, k2]; simp [or2]; exact h)
theorem tr_law (p s d f t p' s' d' f' t' p2 s2 d2 f2 t2 : Nat) : ordN p s d f t p' s' d' f' t' ≤ 0 → ordN p' s' d' f' t' p2 s2 d2 f2 t2 ≤ 0 → ordN p s d f t p2 s2 d2 f2 t2 ≤ 0 :=
  tr_step (tr_step (tr_step (tr_step (tr_step (a := 0) (b := 0) (c := 0) (fun _ _ => Int.le_refl 0) t t' t2) d d' d2) f f' f2) s s' s2) p p' p2
theorem tr_bool {a b c : Int} (h : a ≤ 0 → b ≤ 0 → c ≤ 0) : ((decide (a > 0) || decide (b > 0)) || decide (c ≤ 0)) = true := by
  simp only [Bool.or_eq_true, decide_eq_true_eq]; omega
theorem turns_c (pr : UInt8) (s d fr to : Nat) (ps : UInt8) (s2 d2 fr2 to2 : Nat) (pt : UInt8) (s3 d3 fr3 to3 : Nat) (w : World) (hs : s < 4294967296) (hd : d < 4294967296) (hf : fr < 65536) (ht : to < 65536) (hs2 : s2 < 4294967296) (hd2 : d2 < 4294967296) (hfr2 : fr2 < 65536) (hto2 : to2 < 65536) (hs3 : s3 < 4294967296) (hd3 : d3 < 4294967296) (hfr3 : fr3 < 65536) (hto3 : to3 < 65536) : Calls Try.prog 6 #[Value.agg ([Value.int .u8 ((pr.toNat : Nat) : Int), Value.int .u32 ((s : Nat) : Int), Value.int .u32 ((d : Nat) : Int), Value.int .u16 ((fr : Nat) : Int), Value.int .u16 ((to : Nat) : Int)]).toArray, Value.agg ([Value.int .u8 ((ps.toNat : Nat) : Int), Value.int .u32 ((s2 : Nat) : Int), Value.int .u32 ((d2 : Nat) : Int), Value.int .u16 ((fr2 : Nat) : Int), Value.int .u16 ((to2 : Nat) : Int)]).toArray, Value.agg ([Value.int .u8 ((pt.toNat : Nat) : Int), Value.int .u32 ((s3 : Nat) : Int), Value.int .u32 ((d3 : Nat) : Int), Value.int .u16 ((fr3 : Nat) : Int), Value.int .u16 ((to3 : Nat) : Int)]).toArray] w (Ret w (.bool true)) := by
  refine calls_W (M := []) (LL := []) (n := 53) Try.func6 rfl rfl (by simp) (Mem.refl _) ?_
  refine W.seq (fun K1 hK1 => ?_)
  refine W.region ?_
  refine Wl.ht rfl (Ht.box (v := Value.agg ([Value.int .u8 ((pr.toNat : Nat) : Int), Value.int .u32 ((s : Nat) : Int), Value.int .u32 ((d : Nat) : Int), Value.int .u16 ((fr : Nat) : Int), Value.int .u16 ((to : Nat) : Int)]).toArray) (cs := [Value.int .u8 ((pr.toNat : Nat) : Int), Value.int .u32 ((s : Nat) : Int), Value.int .u32 ((d : Nat) : Int), Value.int .u16 ((fr : Nat) : Int), Value.int .u16 ((to : Nat) : Int)]) rfl rfl (by kernel_rfl) rfl) (fun p3 => ?_)
  refine Wl.ht rfl (Ht.box (v := Value.agg ([Value.int .u8 ((ps.toNat : Nat) : Int), Value.int .u32 ((s2 : Nat) : Int), Value.int .u32 ((d2 : Nat) : Int), Value.int .u16 ((fr2 : Nat) : Int), Value.int .u16 ((to2 : Nat) : Int)]).toArray) (cs := [Value.int .u8 ((ps.toNat : Nat) : Int), Value.int .u32 ((s2 : Nat) : Int), Value.int .u32 ((d2 : Nat) : Int), Value.int .u16 ((fr2 : Nat) : Int), Value.int .u16 ((to2 : Nat) : Int)]) rfl rfl (by kernel_rfl) rfl) (fun p4 => ?_)
  refine Wl.ht rfl (Ht.box (v := Value.agg ([Value.int .u8 ((pt.toNat : Nat) : Int), Value.int .u32 ((s3 : Nat) : Int), Value.int .u32 ((d3 : Nat) : Int), Value.int .u16 ((fr3 : Nat) : Int), Value.int .u16 ((to3 : Nat) : Int)]).toArray) (cs := [Value.int .u8 ((pt.toNat : Nat) : Int), Value.int .u32 ((s3 : Nat) : Int), Value.int .u32 ((d3 : Nat) : Int), Value.int .u16 ((fr3 : Nat) : Int), Value.int .u16 ((to3 : Nat) : Int)]) rfl rfl (by kernel_rfl) rfl) (fun p5 => ?_)
  refine Wl.run 1 (by kernel_rfl) ?_
  refine Wl.nil ?_
  refine hK1 _ _ _ ?_
  refine W.prune' [3, 4, 5] [Value.pointer (some ⟨p3, 0, none⟩), Value.pointer (some ⟨p4, 0, none⟩), Value.pointer (some ⟨p5, 0, none⟩)] (by kernel_rfl) (fun f2 => ?_)
  refine W.seq (fun K3 hK3 => ?_)
  refine W.seq (fun K4 hK4 => ?_)
  refine W.region ?_
  refine Wl.yc (v := Value.bool true) rfl rfl (Yc.call (k := 10) (args := #[]) (fun _ => by kernel_rfl) (fun w_ hm_ => (speaks10_c _))) ?_
  refine Wl.run 1 (by kernel_rfl) ?_
  refine Wl.nil ?_
  refine hK4 _ _ _ ?_
  refine W.prune' [3, 4, 5, 9] [Value.pointer (some ⟨p3, 0, none⟩), Value.pointer (some ⟨p4, 0, none⟩), Value.pointer (some ⟨p5, 0, none⟩), Value.bool false] (by kernel_rfl) (fun f5 => ?_)
  refine W.condF (by kernel_rfl) ?_
  refine W.skip' ?_
  refine hK3 _ _ _ ?_
  refine W.prune' [3, 4, 5] [Value.pointer (some ⟨p3, 0, none⟩), Value.pointer (some ⟨p4, 0, none⟩), Value.pointer (some ⟨p5, 0, none⟩)] (by kernel_rfl) (fun f6 => ?_)
  refine W.seq (fun K7 hK7 => ?_)
  refine W.region ?_
  refine Wl.ys (v := Value.agg ([Value.int .u8 ((pr.toNat : Nat) : Int), Value.int .u32 ((s : Nat) : Int), Value.int .u32 ((d : Nat) : Int), Value.int .u16 ((fr : Nat) : Int), Value.int .u16 ((to : Nat) : Int)]).toArray) rfl rfl (Ys.loadN (b := p3) (o' := 0) (i := 2) (j := 0) (cs := [Value.int .u8 ((pr.toNat : Nat) : Int), Value.int .u32 ((s : Nat) : Int), Value.int .u32 ((d : Nat) : Int), Value.int .u16 ((fr : Nat) : Int), Value.int .u16 ((to : Nat) : Int)]) (vs := [Value.int .u8 ((pr.toNat : Nat) : Int), Value.int .u32 ((s : Nat) : Int), Value.int .u32 ((d : Nat) : Int), Value.int .u16 ((fr : Nat) : Int), Value.int .u16 ((to : Nat) : Int)]) rfl (by kernel_rfl) Try.isAgg30 Try.sizeOf30 rfl rfl rfl rfl) ?_
  refine Wl.yc (v := Value.agg ([Value.int .u8 ((pr.toNat : Nat) : Int), Value.int .u32 ((d : Nat) : Int), Value.int .u32 ((s : Nat) : Int), Value.int .u16 ((to : Nat) : Int), Value.int .u16 ((fr : Nat) : Int)]).toArray) rfl rfl (Yc.call (k := 13) (args := #[Value.agg ([Value.int .u8 ((pr.toNat : Nat) : Int), Value.int .u32 ((s : Nat) : Int), Value.int .u32 ((d : Nat) : Int), Value.int .u16 ((fr : Nat) : Int), Value.int .u16 ((to : Nat) : Int)]).toArray]) (fun _ => by kernel_rfl) (fun w_ hm_ => (turn_c pr s d fr to _))) ?_
  refine Wl.ht rfl (Ht.alloc (z := Value.agg ([Value.int .u8 0, Value.int .u32 0, Value.int .u32 0, Value.int .u16 0, Value.int .u16 0]).toArray) (cs := [Value.int .u8 0, Value.int .u32 0, Value.int .u32 0, Value.int .u16 0, Value.int .u16 0]) rfl rfl Try.zeroValue30 rfl) (fun p7 => ?_)
  refine Wl.ht rfl (Ht.storeN (b := p7) (o' := 0) (i := 0) (j := 0) (cs := [Value.int .u8 0, Value.int .u32 0, Value.int .u32 0, Value.int .u16 0, Value.int .u16 0]) (vs := [Value.int .u8 ((pr.toNat : Nat) : Int), Value.int .u32 ((d : Nat) : Int), Value.int .u32 ((s : Nat) : Int), Value.int .u16 ((to : Nat) : Int), Value.int .u16 ((fr : Nat) : Int)]) (cs' := [Value.int .u8 ((pr.toNat : Nat) : Int), Value.int .u32 ((d : Nat) : Int), Value.int .u32 ((s : Nat) : Int), Value.int .u16 ((to : Nat) : Int), Value.int .u16 ((fr : Nat) : Int)]) (LL' := [[cb p7 [Value.int .u8 ((pr.toNat : Nat) : Int), Value.int .u32 ((d : Nat) : Int), Value.int .u32 ((s : Nat) : Int), Value.int .u16 ((to : Nat) : Int), Value.int .u16 ((fr : Nat) : Int)] 30], [cb p5 [Value.int .u8 ((pt.toNat : Nat) : Int), Value.int .u32 ((s3 : Nat) : Int), Value.int .u32 ((d3 : Nat) : Int), Value.int .u16 ((fr3 : Nat) : Int), Value.int .u16 ((to3 : Nat) : Int)] 30], [cb p4 [Value.int .u8 ((ps.toNat : Nat) : Int), Value.int .u32 ((s2 : Nat) : Int), Value.int .u32 ((d2 : Nat) : Int), Value.int .u16 ((fr2 : Nat) : Int), Value.int .u16 ((to2 : Nat) : Int)] 30], [cb p3 [Value.int .u8 ((pr.toNat : Nat) : Int), Value.int .u32 ((s : Nat) : Int), Value.int .u32 ((d : Nat) : Int), Value.int .u16 ((fr : Nat) : Int), Value.int .u16 ((to : Nat) : Int)] 30]]) rfl rfl (by kernel_rfl) (by kernel_rfl) Try.sizeOf30 (by simp [Value.oneCell']) rfl rfl (by simp) rfl rfl) (fun _ => ?_)
  refine Wl.nil ?_
  refine hK7 _ _ _ ?_
  refine W.prune' [3, 4, 5, 7] [Value.pointer (some ⟨p3, 0, none⟩), Value.pointer (some ⟨p4, 0, none⟩), Value.pointer (some ⟨p5, 0, none⟩), Value.pointer (some ⟨p7, 0, none⟩)] (by kernel_rfl) (fun f8 => ?_)
  refine W.seq (fun K9 hK9 => ?_)
  refine W.seq (fun K10 hK10 => ?_)
  refine W.draws [(0, true), (2, true), (1, false), (3, false), (4, false), (5, true), (6, true), (7, false), (8, false), (9, false), (10, false), (11, false), (12, true), (13, true), (14, false), (15, false), (16, false), (17, false), (18, false), (19, true), (20, true), (21, false), (22, false), (23, false), (24, false)] [0, 2, 5, 6, 12, 13, 19, 20] (Mem w [] [[cb p7 [Value.int .u8 ((pr.toNat : Nat) : Int), Value.int .u32 ((d : Nat) : Int), Value.int .u32 ((s : Nat) : Int), Value.int .u16 ((to : Nat) : Int), Value.int .u16 ((fr : Nat) : Int)] 30], [cb p5 [Value.int .u8 ((pt.toNat : Nat) : Int), Value.int .u32 ((s3 : Nat) : Int), Value.int .u32 ((d3 : Nat) : Int), Value.int .u16 ((fr3 : Nat) : Int), Value.int .u16 ((to3 : Nat) : Int)] 30], [cb p4 [Value.int .u8 ((ps.toNat : Nat) : Int), Value.int .u32 ((s2 : Nat) : Int), Value.int .u32 ((d2 : Nat) : Int), Value.int .u16 ((fr2 : Nat) : Int), Value.int .u16 ((to2 : Nat) : Int)] 30], [cb p3 [Value.int .u8 ((pr.toNat : Nat) : Int), Value.int .u32 ((s : Nat) : Int), Value.int .u32 ((d : Nat) : Int), Value.int .u16 ((fr : Nat) : Int), Value.int .u16 ((to : Nat) : Int)] 30]]) (by kernel_rfl) (by kernel_rfl) (by kernel_rfl) rfl (by kernel_rfl) (fun _ _ h_ => h_.drawn _) (fun _ h_ => h_) ?_
  refine Wd.ys (v := Value.agg ([Value.int .u8 ((pr.toNat : Nat) : Int), Value.int .u32 ((d : Nat) : Int), Value.int .u32 ((s : Nat) : Int), Value.int .u16 ((to : Nat) : Int), Value.int .u16 ((fr : Nat) : Int)]).toArray) rfl rfl rfl (Ys.loadN (b := p7) (o' := 0) (i := 0) (j := 0) (cs := [Value.int .u8 ((pr.toNat : Nat) : Int), Value.int .u32 ((d : Nat) : Int), Value.int .u32 ((s : Nat) : Int), Value.int .u16 ((to : Nat) : Int), Value.int .u16 ((fr : Nat) : Int)]) (vs := [Value.int .u8 ((pr.toNat : Nat) : Int), Value.int .u32 ((d : Nat) : Int), Value.int .u32 ((s : Nat) : Int), Value.int .u16 ((to : Nat) : Int), Value.int .u16 ((fr : Nat) : Int)]) rfl (by kernel_rfl) Try.isAgg30 Try.sizeOf30 rfl rfl rfl rfl) ?_
  refine Wd.ys (v := Value.agg ([Value.int .u8 ((pr.toNat : Nat) : Int), Value.int .u32 ((s : Nat) : Int), Value.int .u32 ((d : Nat) : Int), Value.int .u16 ((fr : Nat) : Int), Value.int .u16 ((to : Nat) : Int)]).toArray) rfl rfl rfl (Ys.loadN (b := p3) (o' := 0) (i := 3) (j := 0) (cs := [Value.int .u8 ((pr.toNat : Nat) : Int), Value.int .u32 ((s : Nat) : Int), Value.int .u32 ((d : Nat) : Int), Value.int .u16 ((fr : Nat) : Int), Value.int .u16 ((to : Nat) : Int)]) (vs := [Value.int .u8 ((pr.toNat : Nat) : Int), Value.int .u32 ((s : Nat) : Int), Value.int .u32 ((d : Nat) : Int), Value.int .u16 ((fr : Nat) : Int), Value.int .u16 ((to : Nat) : Int)]) rfl (by kernel_rfl) Try.isAgg30 Try.sizeOf30 rfl rfl rfl rfl) ?_
  refine Wd.yc (v := Value.agg ([Value.int .u8 ((pr.toNat : Nat) : Int), Value.int .u32 ((s : Nat) : Int), Value.int .u32 ((d : Nat) : Int), Value.int .u16 ((fr : Nat) : Int), Value.int .u16 ((to : Nat) : Int)]).toArray) rfl rfl rfl (Yc.call (k := 13) (args := #[Value.agg ([Value.int .u8 ((pr.toNat : Nat) : Int), Value.int .u32 ((d : Nat) : Int), Value.int .u32 ((s : Nat) : Int), Value.int .u16 ((to : Nat) : Int), Value.int .u16 ((fr : Nat) : Int)]).toArray]) (fun _ => by kernel_rfl) (fun w_ hm_ => (turn_c pr d s to fr _))) (.inr fun _ h_ => h_) ?_
  refine Wd.yc (v := Value.bool (!(eqCells [Value.int .u8 ((pr.toNat : Nat) : Int), Value.int .u32 ((s : Nat) : Int), Value.int .u32 ((d : Nat) : Int), Value.int .u16 ((fr : Nat) : Int), Value.int .u16 ((to : Nat) : Int)] [Value.int .u8 ((pr.toNat : Nat) : Int), Value.int .u32 ((s : Nat) : Int), Value.int .u32 ((d : Nat) : Int), Value.int .u16 ((fr : Nat) : Int), Value.int .u16 ((to : Nat) : Int)]))) rfl rfl rfl (Ys.yc (Ys.nev (ls := [.int .u8, .int .u32, .int .u32, .int .u16, .int .u16]) (cs := [Value.int .u8 ((pr.toNat : Nat) : Int), Value.int .u32 ((s : Nat) : Int), Value.int .u32 ((d : Nat) : Int), Value.int .u16 ((fr : Nat) : Int), Value.int .u16 ((to : Nat) : Int)]) (cs' := [Value.int .u8 ((pr.toNat : Nat) : Int), Value.int .u32 ((s : Nat) : Int), Value.int .u32 ((d : Nat) : Int), Value.int .u16 ((fr : Nat) : Int), Value.int .u16 ((to : Nat) : Int)]) (b := eqCells [Value.int .u8 ((pr.toNat : Nat) : Int), Value.int .u32 ((s : Nat) : Int), Value.int .u32 ((d : Nat) : Int), Value.int .u16 ((fr : Nat) : Int), Value.int .u16 ((to : Nat) : Int)] [Value.int .u8 ((pr.toNat : Nat) : Int), Value.int .u32 ((s : Nat) : Int), Value.int .u32 ((d : Nat) : Int), Value.int .u16 ((fr : Nat) : Int), Value.int .u16 ((to : Nat) : Int)]) rfl (by kernel_rfl) (by kernel_rfl) (by kernel_rfl) (by kernel_rfl) (by kernel_rfl) ⟨⟨_, rfl⟩, ⟨_, rfl⟩, ⟨_, rfl⟩, ⟨_, rfl⟩, ⟨_, rfl⟩, trivial⟩ ⟨⟨_, rfl⟩, ⟨_, rfl⟩, ⟨_, rfl⟩, ⟨_, rfl⟩, ⟨_, rfl⟩, trivial⟩ rfl)) (.inr fun _ h_ => h_) ?_
  refine Wd.yc (v := Value.bool (!(eqCells [Value.int .u8 ((pr.toNat : Nat) : Int), Value.int .u32 ((s : Nat) : Int), Value.int .u32 ((d : Nat) : Int), Value.int .u16 ((fr : Nat) : Int), Value.int .u16 ((to : Nat) : Int)] [Value.int .u8 ((pr.toNat : Nat) : Int), Value.int .u32 ((s : Nat) : Int), Value.int .u32 ((d : Nat) : Int), Value.int .u16 ((fr : Nat) : Int), Value.int .u16 ((to : Nat) : Int)]))) rfl rfl rfl (Ys.yc (Ys.pure (fun _ => by kernel_rfl))) (.inr fun _ h_ => h_) ?_
  refine Wd.guard (v := Value.pointer (some ⟨p7, 1, none⟩)) (!(!(eqCells [Value.int .u8 ((pr.toNat : Nat) : Int), Value.int .u32 ((s : Nat) : Int), Value.int .u32 ((d : Nat) : Int), Value.int .u16 ((fr : Nat) : Int), Value.int .u16 ((to : Nat) : Int)] [Value.int .u8 ((pr.toNat : Nat) : Int), Value.int .u32 ((s : Nat) : Int), Value.int .u32 ((d : Nat) : Int), Value.int .u16 ((fr : Nat) : Int), Value.int .u16 ((to : Nat) : Int)]))) rfl (wantF rfl (by kernel_rfl)) rfl (fun hg11 => ?_) ?_
  · exact Ys.pure (fun _ => by kernel_rfl)
  refine Wd.guard (v := Value.int .u32 ((d : Nat) : Int)) (!(!(eqCells [Value.int .u8 ((pr.toNat : Nat) : Int), Value.int .u32 ((s : Nat) : Int), Value.int .u32 ((d : Nat) : Int), Value.int .u16 ((fr : Nat) : Int), Value.int .u16 ((to : Nat) : Int)] [Value.int .u8 ((pr.toNat : Nat) : Int), Value.int .u32 ((s : Nat) : Int), Value.int .u32 ((d : Nat) : Int), Value.int .u16 ((fr : Nat) : Int), Value.int .u16 ((to : Nat) : Int)]))) rfl (wantF rfl (by kernel_rfl)) rfl (fun hg12 => ?_) ?_
  · refine Ys.at (t := 17) (v0 := Value.pointer (some ⟨p7, 1, none⟩)) (lz (g := !(!(eqCells [Value.int .u8 ((pr.toNat : Nat) : Int), Value.int .u32 ((s : Nat) : Int), Value.int .u32 ((d : Nat) : Int), Value.int .u16 ((fr : Nat) : Int), Value.int .u16 ((to : Nat) : Int)] [Value.int .u8 ((pr.toNat : Nat) : Int), Value.int .u32 ((s : Nat) : Int), Value.int .u32 ((d : Nat) : Int), Value.int .u16 ((fr : Nat) : Int), Value.int .u16 ((to : Nat) : Int)]))) (u := undef) hg12 (by kernel_rfl)) ?_
    exact Ys.load (b := p7) (o' := 1) (i := 0) (j := 0) (cs := [Value.int .u8 ((pr.toNat : Nat) : Int), Value.int .u32 ((d : Nat) : Int), Value.int .u32 ((s : Nat) : Int), Value.int .u16 ((to : Nat) : Int), Value.int .u16 ((fr : Nat) : Int)]) (v := Value.int .u32 ((d : Nat) : Int)) rfl (by kernel_rfl) Try.isAgg24 rfl rfl rfl
  refine Wd.guardc (v := Value.pointer (some ⟨p3, 2, none⟩)) (!(!(eqCells [Value.int .u8 ((pr.toNat : Nat) : Int), Value.int .u32 ((s : Nat) : Int), Value.int .u32 ((d : Nat) : Int), Value.int .u16 ((fr : Nat) : Int), Value.int .u16 ((to : Nat) : Int)] [Value.int .u8 ((pr.toNat : Nat) : Int), Value.int .u32 ((s : Nat) : Int), Value.int .u32 ((d : Nat) : Int), Value.int .u16 ((fr : Nat) : Int), Value.int .u16 ((to : Nat) : Int)]))) rfl (wantF rfl (by kernel_rfl)) rfl (fun hg13 => ?_) (.inr fun _ h_ => h_) ?_
  · refine Ys.yc ?_
    exact Ys.pure (fun _ => by kernel_rfl)
  refine Wd.guardc (v := Value.int .u32 ((d : Nat) : Int)) (!(!(eqCells [Value.int .u8 ((pr.toNat : Nat) : Int), Value.int .u32 ((s : Nat) : Int), Value.int .u32 ((d : Nat) : Int), Value.int .u16 ((fr : Nat) : Int), Value.int .u16 ((to : Nat) : Int)] [Value.int .u8 ((pr.toNat : Nat) : Int), Value.int .u32 ((s : Nat) : Int), Value.int .u32 ((d : Nat) : Int), Value.int .u16 ((fr : Nat) : Int), Value.int .u16 ((to : Nat) : Int)]))) rfl (wantF rfl (by kernel_rfl)) rfl (fun hg14 => ?_) (.inr fun _ h_ => h_) ?_
  · refine Ys.yc ?_
    refine Ys.at (t := 19) (v0 := Value.pointer (some ⟨p3, 2, none⟩)) (lz (g := !(!(eqCells [Value.int .u8 ((pr.toNat : Nat) : Int), Value.int .u32 ((s : Nat) : Int), Value.int .u32 ((d : Nat) : Int), Value.int .u16 ((fr : Nat) : Int), Value.int .u16 ((to : Nat) : Int)] [Value.int .u8 ((pr.toNat : Nat) : Int), Value.int .u32 ((s : Nat) : Int), Value.int .u32 ((d : Nat) : Int), Value.int .u16 ((fr : Nat) : Int), Value.int .u16 ((to : Nat) : Int)]))) (u := undef) hg14 (by kernel_rfl)) ?_
    exact Ys.load (b := p3) (o' := 2) (i := 3) (j := 0) (cs := [Value.int .u8 ((pr.toNat : Nat) : Int), Value.int .u32 ((s : Nat) : Int), Value.int .u32 ((d : Nat) : Int), Value.int .u16 ((fr : Nat) : Int), Value.int .u16 ((to : Nat) : Int)]) (v := Value.int .u32 ((d : Nat) : Int)) rfl (by kernel_rfl) Try.isAgg24 rfl rfl rfl
  refine Wd.guardc (v := Value.bool (((d : Nat) : Int) != ((d : Nat) : Int))) (!(!(eqCells [Value.int .u8 ((pr.toNat : Nat) : Int), Value.int .u32 ((s : Nat) : Int), Value.int .u32 ((d : Nat) : Int), Value.int .u16 ((fr : Nat) : Int), Value.int .u16 ((to : Nat) : Int)] [Value.int .u8 ((pr.toNat : Nat) : Int), Value.int .u32 ((s : Nat) : Int), Value.int .u32 ((d : Nat) : Int), Value.int .u16 ((fr : Nat) : Int), Value.int .u16 ((to : Nat) : Int)]))) rfl (wantF rfl (by kernel_rfl)) rfl (fun hg15 => ?_) (.inr fun _ h_ => h_) ?_
  · refine Ys.yc ?_
    refine Ys.at (t := 18) (v0 := Value.int .u32 ((d : Nat) : Int)) (lz (g := !(!(eqCells [Value.int .u8 ((pr.toNat : Nat) : Int), Value.int .u32 ((s : Nat) : Int), Value.int .u32 ((d : Nat) : Int), Value.int .u16 ((fr : Nat) : Int), Value.int .u16 ((to : Nat) : Int)] [Value.int .u8 ((pr.toNat : Nat) : Int), Value.int .u32 ((s : Nat) : Int), Value.int .u32 ((d : Nat) : Int), Value.int .u16 ((fr : Nat) : Int), Value.int .u16 ((to : Nat) : Int)]))) (u := undef) hg15 (by kernel_rfl)) ?_
    refine Ys.at (t := 20) (v0 := Value.int .u32 ((d : Nat) : Int)) (lz (g := !(!(eqCells [Value.int .u8 ((pr.toNat : Nat) : Int), Value.int .u32 ((s : Nat) : Int), Value.int .u32 ((d : Nat) : Int), Value.int .u16 ((fr : Nat) : Int), Value.int .u16 ((to : Nat) : Int)] [Value.int .u8 ((pr.toNat : Nat) : Int), Value.int .u32 ((s : Nat) : Int), Value.int .u32 ((d : Nat) : Int), Value.int .u16 ((fr : Nat) : Int), Value.int .u16 ((to : Nat) : Int)]))) (u := undef) hg15 (by kernel_rfl)) ?_
    exact Ys.pure (fun _ => by kernel_rfl)
  refine Wd.yc (v := Value.bool ((!(eqCells [Value.int .u8 ((pr.toNat : Nat) : Int), Value.int .u32 ((s : Nat) : Int), Value.int .u32 ((d : Nat) : Int), Value.int .u16 ((fr : Nat) : Int), Value.int .u16 ((to : Nat) : Int)] [Value.int .u8 ((pr.toNat : Nat) : Int), Value.int .u32 ((s : Nat) : Int), Value.int .u32 ((d : Nat) : Int), Value.int .u16 ((fr : Nat) : Int), Value.int .u16 ((to : Nat) : Int)])) || (((d : Nat) : Int) != ((d : Nat) : Int)))) rfl rfl rfl (Ys.yc (Ys.or' (e := !(eqCells [Value.int .u8 ((pr.toNat : Nat) : Int), Value.int .u32 ((s : Nat) : Int), Value.int .u32 ((d : Nat) : Int), Value.int .u16 ((fr : Nat) : Int), Value.int .u16 ((to : Nat) : Int)] [Value.int .u8 ((pr.toNat : Nat) : Int), Value.int .u32 ((s : Nat) : Int), Value.int .u32 ((d : Nat) : Int), Value.int .u16 ((fr : Nat) : Int), Value.int .u16 ((to : Nat) : Int)])) (b := ((d : Nat) : Int) != ((d : Nat) : Int)) rfl (by kernel_rfl) (by kernel_rfl) (by kernel_rfl))) (.inr fun _ h_ => h_) ?_
  refine Wd.yc (v := Value.bool ((!(eqCells [Value.int .u8 ((pr.toNat : Nat) : Int), Value.int .u32 ((s : Nat) : Int), Value.int .u32 ((d : Nat) : Int), Value.int .u16 ((fr : Nat) : Int), Value.int .u16 ((to : Nat) : Int)] [Value.int .u8 ((pr.toNat : Nat) : Int), Value.int .u32 ((s : Nat) : Int), Value.int .u32 ((d : Nat) : Int), Value.int .u16 ((fr : Nat) : Int), Value.int .u16 ((to : Nat) : Int)])) || (((d : Nat) : Int) != ((d : Nat) : Int)))) rfl rfl rfl (Ys.yc (Ys.pure (fun _ => by kernel_rfl))) (.inr fun _ h_ => h_) ?_
  refine Wd.guard (v := Value.pointer (some ⟨p7, 3, none⟩)) (!((!(eqCells [Value.int .u8 ((pr.toNat : Nat) : Int), Value.int .u32 ((s : Nat) : Int), Value.int .u32 ((d : Nat) : Int), Value.int .u16 ((fr : Nat) : Int), Value.int .u16 ((to : Nat) : Int)] [Value.int .u8 ((pr.toNat : Nat) : Int), Value.int .u32 ((s : Nat) : Int), Value.int .u32 ((d : Nat) : Int), Value.int .u16 ((fr : Nat) : Int), Value.int .u16 ((to : Nat) : Int)])) || (((d : Nat) : Int) != ((d : Nat) : Int)))) rfl (wantF rfl (by kernel_rfl)) rfl (fun hg16 => ?_) ?_
  · have qhg16 := hg16; try simp only [Bool.and_eq_true, Bool.or_eq_true, Bool.not_eq_true', Bool.not_eq_false', Bool.and_eq_false_iff, Bool.or_eq_false_iff, decide_eq_true_eq, decide_eq_false_iff_not, beq_iff_eq, bne_iff_ne, beq_eq_false_iff_ne, bne_eq_false_iff_eq] at qhg16
    exact Ys.pure (fun _ => by kernel_rfl)
  refine Wd.guard (v := Value.int .u16 ((to : Nat) : Int)) (!((!(eqCells [Value.int .u8 ((pr.toNat : Nat) : Int), Value.int .u32 ((s : Nat) : Int), Value.int .u32 ((d : Nat) : Int), Value.int .u16 ((fr : Nat) : Int), Value.int .u16 ((to : Nat) : Int)] [Value.int .u8 ((pr.toNat : Nat) : Int), Value.int .u32 ((s : Nat) : Int), Value.int .u32 ((d : Nat) : Int), Value.int .u16 ((fr : Nat) : Int), Value.int .u16 ((to : Nat) : Int)])) || (((d : Nat) : Int) != ((d : Nat) : Int)))) rfl (wantF rfl (by kernel_rfl)) rfl (fun hg17 => ?_) ?_
  · have qhg17 := hg17; try simp only [Bool.and_eq_true, Bool.or_eq_true, Bool.not_eq_true', Bool.not_eq_false', Bool.and_eq_false_iff, Bool.or_eq_false_iff, decide_eq_true_eq, decide_eq_false_iff_not, beq_iff_eq, bne_iff_ne, beq_eq_false_iff_ne, bne_eq_false_iff_eq] at qhg17
    refine Ys.at (t := 24) (v0 := Value.pointer (some ⟨p7, 3, none⟩)) (lz (g := !((!(eqCells [Value.int .u8 ((pr.toNat : Nat) : Int), Value.int .u32 ((s : Nat) : Int), Value.int .u32 ((d : Nat) : Int), Value.int .u16 ((fr : Nat) : Int), Value.int .u16 ((to : Nat) : Int)] [Value.int .u8 ((pr.toNat : Nat) : Int), Value.int .u32 ((s : Nat) : Int), Value.int .u32 ((d : Nat) : Int), Value.int .u16 ((fr : Nat) : Int), Value.int .u16 ((to : Nat) : Int)])) || (((d : Nat) : Int) != ((d : Nat) : Int)))) (u := undef) hg17 (by kernel_rfl)) ?_
    exact Ys.load (b := p7) (o' := 3) (i := 0) (j := 0) (cs := [Value.int .u8 ((pr.toNat : Nat) : Int), Value.int .u32 ((d : Nat) : Int), Value.int .u32 ((s : Nat) : Int), Value.int .u16 ((to : Nat) : Int), Value.int .u16 ((fr : Nat) : Int)]) (v := Value.int .u16 ((to : Nat) : Int)) rfl (by kernel_rfl) Try.isAgg22 rfl rfl rfl
  refine Wd.guardc (v := Value.pointer (some ⟨p3, 4, none⟩)) (!((!(eqCells [Value.int .u8 ((pr.toNat : Nat) : Int), Value.int .u32 ((s : Nat) : Int), Value.int .u32 ((d : Nat) : Int), Value.int .u16 ((fr : Nat) : Int), Value.int .u16 ((to : Nat) : Int)] [Value.int .u8 ((pr.toNat : Nat) : Int), Value.int .u32 ((s : Nat) : Int), Value.int .u32 ((d : Nat) : Int), Value.int .u16 ((fr : Nat) : Int), Value.int .u16 ((to : Nat) : Int)])) || (((d : Nat) : Int) != ((d : Nat) : Int)))) rfl (wantF rfl (by kernel_rfl)) rfl (fun hg18 => ?_) (.inr fun _ h_ => h_) ?_
  · have qhg18 := hg18; try simp only [Bool.and_eq_true, Bool.or_eq_true, Bool.not_eq_true', Bool.not_eq_false', Bool.and_eq_false_iff, Bool.or_eq_false_iff, decide_eq_true_eq, decide_eq_false_iff_not, beq_iff_eq, bne_iff_ne, beq_eq_false_iff_ne, bne_eq_false_iff_eq] at qhg18
    refine Ys.yc ?_
    exact Ys.pure (fun _ => by kernel_rfl)
  refine Wd.guardc (v := Value.int .u16 ((to : Nat) : Int)) (!((!(eqCells [Value.int .u8 ((pr.toNat : Nat) : Int), Value.int .u32 ((s : Nat) : Int), Value.int .u32 ((d : Nat) : Int), Value.int .u16 ((fr : Nat) : Int), Value.int .u16 ((to : Nat) : Int)] [Value.int .u8 ((pr.toNat : Nat) : Int), Value.int .u32 ((s : Nat) : Int), Value.int .u32 ((d : Nat) : Int), Value.int .u16 ((fr : Nat) : Int), Value.int .u16 ((to : Nat) : Int)])) || (((d : Nat) : Int) != ((d : Nat) : Int)))) rfl (wantF rfl (by kernel_rfl)) rfl (fun hg19 => ?_) (.inr fun _ h_ => h_) ?_
  · have qhg19 := hg19; try simp only [Bool.and_eq_true, Bool.or_eq_true, Bool.not_eq_true', Bool.not_eq_false', Bool.and_eq_false_iff, Bool.or_eq_false_iff, decide_eq_true_eq, decide_eq_false_iff_not, beq_iff_eq, bne_iff_ne, beq_eq_false_iff_ne, bne_eq_false_iff_eq] at qhg19
    refine Ys.yc ?_
    refine Ys.at (t := 26) (v0 := Value.pointer (some ⟨p3, 4, none⟩)) (lz (g := !((!(eqCells [Value.int .u8 ((pr.toNat : Nat) : Int), Value.int .u32 ((s : Nat) : Int), Value.int .u32 ((d : Nat) : Int), Value.int .u16 ((fr : Nat) : Int), Value.int .u16 ((to : Nat) : Int)] [Value.int .u8 ((pr.toNat : Nat) : Int), Value.int .u32 ((s : Nat) : Int), Value.int .u32 ((d : Nat) : Int), Value.int .u16 ((fr : Nat) : Int), Value.int .u16 ((to : Nat) : Int)])) || (((d : Nat) : Int) != ((d : Nat) : Int)))) (u := undef) hg19 (by kernel_rfl)) ?_
    exact Ys.load (b := p3) (o' := 4) (i := 3) (j := 0) (cs := [Value.int .u8 ((pr.toNat : Nat) : Int), Value.int .u32 ((s : Nat) : Int), Value.int .u32 ((d : Nat) : Int), Value.int .u16 ((fr : Nat) : Int), Value.int .u16 ((to : Nat) : Int)]) (v := Value.int .u16 ((to : Nat) : Int)) rfl (by kernel_rfl) Try.isAgg22 rfl rfl rfl
  refine Wd.guardc (v := Value.bool (((to : Nat) : Int) != ((to : Nat) : Int))) (!((!(eqCells [Value.int .u8 ((pr.toNat : Nat) : Int), Value.int .u32 ((s : Nat) : Int), Value.int .u32 ((d : Nat) : Int), Value.int .u16 ((fr : Nat) : Int), Value.int .u16 ((to : Nat) : Int)] [Value.int .u8 ((pr.toNat : Nat) : Int), Value.int .u32 ((s : Nat) : Int), Value.int .u32 ((d : Nat) : Int), Value.int .u16 ((fr : Nat) : Int), Value.int .u16 ((to : Nat) : Int)])) || (((d : Nat) : Int) != ((d : Nat) : Int)))) rfl (wantF rfl (by kernel_rfl)) rfl (fun hg20 => ?_) (.inr fun _ h_ => h_) ?_
  · have qhg20 := hg20; try simp only [Bool.and_eq_true, Bool.or_eq_true, Bool.not_eq_true', Bool.not_eq_false', Bool.and_eq_false_iff, Bool.or_eq_false_iff, decide_eq_true_eq, decide_eq_false_iff_not, beq_iff_eq, bne_iff_ne, beq_eq_false_iff_ne, bne_eq_false_iff_eq] at qhg20
    refine Ys.yc ?_
    refine Ys.at (t := 25) (v0 := Value.int .u16 ((to : Nat) : Int)) (lz (g := !((!(eqCells [Value.int .u8 ((pr.toNat : Nat) : Int), Value.int .u32 ((s : Nat) : Int), Value.int .u32 ((d : Nat) : Int), Value.int .u16 ((fr : Nat) : Int), Value.int .u16 ((to : Nat) : Int)] [Value.int .u8 ((pr.toNat : Nat) : Int), Value.int .u32 ((s : Nat) : Int), Value.int .u32 ((d : Nat) : Int), Value.int .u16 ((fr : Nat) : Int), Value.int .u16 ((to : Nat) : Int)])) || (((d : Nat) : Int) != ((d : Nat) : Int)))) (u := undef) hg20 (by kernel_rfl)) ?_
    refine Ys.at (t := 27) (v0 := Value.int .u16 ((to : Nat) : Int)) (lz (g := !((!(eqCells [Value.int .u8 ((pr.toNat : Nat) : Int), Value.int .u32 ((s : Nat) : Int), Value.int .u32 ((d : Nat) : Int), Value.int .u16 ((fr : Nat) : Int), Value.int .u16 ((to : Nat) : Int)] [Value.int .u8 ((pr.toNat : Nat) : Int), Value.int .u32 ((s : Nat) : Int), Value.int .u32 ((d : Nat) : Int), Value.int .u16 ((fr : Nat) : Int), Value.int .u16 ((to : Nat) : Int)])) || (((d : Nat) : Int) != ((d : Nat) : Int)))) (u := undef) hg20 (by kernel_rfl)) ?_
    exact Ys.pure (fun _ => by kernel_rfl)
  refine Wd.yc (v := Value.bool (((!(eqCells [Value.int .u8 ((pr.toNat : Nat) : Int), Value.int .u32 ((s : Nat) : Int), Value.int .u32 ((d : Nat) : Int), Value.int .u16 ((fr : Nat) : Int), Value.int .u16 ((to : Nat) : Int)] [Value.int .u8 ((pr.toNat : Nat) : Int), Value.int .u32 ((s : Nat) : Int), Value.int .u32 ((d : Nat) : Int), Value.int .u16 ((fr : Nat) : Int), Value.int .u16 ((to : Nat) : Int)])) || (((d : Nat) : Int) != ((d : Nat) : Int))) || (((to : Nat) : Int) != ((to : Nat) : Int)))) rfl rfl rfl (Ys.yc (Ys.or' (e := (!(eqCells [Value.int .u8 ((pr.toNat : Nat) : Int), Value.int .u32 ((s : Nat) : Int), Value.int .u32 ((d : Nat) : Int), Value.int .u16 ((fr : Nat) : Int), Value.int .u16 ((to : Nat) : Int)] [Value.int .u8 ((pr.toNat : Nat) : Int), Value.int .u32 ((s : Nat) : Int), Value.int .u32 ((d : Nat) : Int), Value.int .u16 ((fr : Nat) : Int), Value.int .u16 ((to : Nat) : Int)])) || (((d : Nat) : Int) != ((d : Nat) : Int))) (b := ((to : Nat) : Int) != ((to : Nat) : Int)) rfl (by kernel_rfl) (by kernel_rfl) (by kernel_rfl))) (.inr fun _ h_ => h_) ?_
  refine Wd.yc (v := Value.bool (((!(eqCells [Value.int .u8 ((pr.toNat : Nat) : Int), Value.int .u32 ((s : Nat) : Int), Value.int .u32 ((d : Nat) : Int), Value.int .u16 ((fr : Nat) : Int), Value.int .u16 ((to : Nat) : Int)] [Value.int .u8 ((pr.toNat : Nat) : Int), Value.int .u32 ((s : Nat) : Int), Value.int .u32 ((d : Nat) : Int), Value.int .u16 ((fr : Nat) : Int), Value.int .u16 ((to : Nat) : Int)])) || (((d : Nat) : Int) != ((d : Nat) : Int))) || (((to : Nat) : Int) != ((to : Nat) : Int)))) rfl rfl rfl (Ys.yc (Ys.pure (fun _ => by kernel_rfl))) (.inr fun _ h_ => h_) ?_
  refine Wd.guard (v := Value.pointer (some ⟨p7, 0, none⟩)) (!(((!(eqCells [Value.int .u8 ((pr.toNat : Nat) : Int), Value.int .u32 ((s : Nat) : Int), Value.int .u32 ((d : Nat) : Int), Value.int .u16 ((fr : Nat) : Int), Value.int .u16 ((to : Nat) : Int)] [Value.int .u8 ((pr.toNat : Nat) : Int), Value.int .u32 ((s : Nat) : Int), Value.int .u32 ((d : Nat) : Int), Value.int .u16 ((fr : Nat) : Int), Value.int .u16 ((to : Nat) : Int)])) || (((d : Nat) : Int) != ((d : Nat) : Int))) || (((to : Nat) : Int) != ((to : Nat) : Int)))) rfl (wantF rfl (by kernel_rfl)) rfl (fun hg21 => ?_) ?_
  · have qhg21 := hg21; try simp only [Bool.and_eq_true, Bool.or_eq_true, Bool.not_eq_true', Bool.not_eq_false', Bool.and_eq_false_iff, Bool.or_eq_false_iff, decide_eq_true_eq, decide_eq_false_iff_not, beq_iff_eq, bne_iff_ne, beq_eq_false_iff_ne, bne_eq_false_iff_eq] at qhg21
    exact Ys.pure (fun _ => by kernel_rfl)
  refine Wd.guard (v := Value.int .u8 ((pr.toNat : Nat) : Int)) (!(((!(eqCells [Value.int .u8 ((pr.toNat : Nat) : Int), Value.int .u32 ((s : Nat) : Int), Value.int .u32 ((d : Nat) : Int), Value.int .u16 ((fr : Nat) : Int), Value.int .u16 ((to : Nat) : Int)] [Value.int .u8 ((pr.toNat : Nat) : Int), Value.int .u32 ((s : Nat) : Int), Value.int .u32 ((d : Nat) : Int), Value.int .u16 ((fr : Nat) : Int), Value.int .u16 ((to : Nat) : Int)])) || (((d : Nat) : Int) != ((d : Nat) : Int))) || (((to : Nat) : Int) != ((to : Nat) : Int)))) rfl (wantF rfl (by kernel_rfl)) rfl (fun hg22 => ?_) ?_
  · have qhg22 := hg22; try simp only [Bool.and_eq_true, Bool.or_eq_true, Bool.not_eq_true', Bool.not_eq_false', Bool.and_eq_false_iff, Bool.or_eq_false_iff, decide_eq_true_eq, decide_eq_false_iff_not, beq_iff_eq, bne_iff_ne, beq_eq_false_iff_ne, bne_eq_false_iff_eq] at qhg22
    refine Ys.at (t := 31) (v0 := Value.pointer (some ⟨p7, 0, none⟩)) (lz (g := !(((!(eqCells [Value.int .u8 ((pr.toNat : Nat) : Int), Value.int .u32 ((s : Nat) : Int), Value.int .u32 ((d : Nat) : Int), Value.int .u16 ((fr : Nat) : Int), Value.int .u16 ((to : Nat) : Int)] [Value.int .u8 ((pr.toNat : Nat) : Int), Value.int .u32 ((s : Nat) : Int), Value.int .u32 ((d : Nat) : Int), Value.int .u16 ((fr : Nat) : Int), Value.int .u16 ((to : Nat) : Int)])) || (((d : Nat) : Int) != ((d : Nat) : Int))) || (((to : Nat) : Int) != ((to : Nat) : Int)))) (u := undef) hg22 (by kernel_rfl)) ?_
    exact Ys.load (b := p7) (o' := 0) (i := 0) (j := 0) (cs := [Value.int .u8 ((pr.toNat : Nat) : Int), Value.int .u32 ((d : Nat) : Int), Value.int .u32 ((s : Nat) : Int), Value.int .u16 ((to : Nat) : Int), Value.int .u16 ((fr : Nat) : Int)]) (v := Value.int .u8 ((pr.toNat : Nat) : Int)) rfl (by kernel_rfl) Try.isAgg5 rfl rfl rfl
  refine Wd.guardc (v := Value.pointer (some ⟨p3, 0, none⟩)) (!(((!(eqCells [Value.int .u8 ((pr.toNat : Nat) : Int), Value.int .u32 ((s : Nat) : Int), Value.int .u32 ((d : Nat) : Int), Value.int .u16 ((fr : Nat) : Int), Value.int .u16 ((to : Nat) : Int)] [Value.int .u8 ((pr.toNat : Nat) : Int), Value.int .u32 ((s : Nat) : Int), Value.int .u32 ((d : Nat) : Int), Value.int .u16 ((fr : Nat) : Int), Value.int .u16 ((to : Nat) : Int)])) || (((d : Nat) : Int) != ((d : Nat) : Int))) || (((to : Nat) : Int) != ((to : Nat) : Int)))) rfl (wantF rfl (by kernel_rfl)) rfl (fun hg23 => ?_) (.inr fun _ h_ => h_) ?_
  · have qhg23 := hg23; try simp only [Bool.and_eq_true, Bool.or_eq_true, Bool.not_eq_true', Bool.not_eq_false', Bool.and_eq_false_iff, Bool.or_eq_false_iff, decide_eq_true_eq, decide_eq_false_iff_not, beq_iff_eq, bne_iff_ne, beq_eq_false_iff_ne, bne_eq_false_iff_eq] at qhg23
    refine Ys.yc ?_
    exact Ys.pure (fun _ => by kernel_rfl)
  refine Wd.guardc (v := Value.int .u8 ((pr.toNat : Nat) : Int)) (!(((!(eqCells [Value.int .u8 ((pr.toNat : Nat) : Int), Value.int .u32 ((s : Nat) : Int), Value.int .u32 ((d : Nat) : Int), Value.int .u16 ((fr : Nat) : Int), Value.int .u16 ((to : Nat) : Int)] [Value.int .u8 ((pr.toNat : Nat) : Int), Value.int .u32 ((s : Nat) : Int), Value.int .u32 ((d : Nat) : Int), Value.int .u16 ((fr : Nat) : Int), Value.int .u16 ((to : Nat) : Int)])) || (((d : Nat) : Int) != ((d : Nat) : Int))) || (((to : Nat) : Int) != ((to : Nat) : Int)))) rfl (wantF rfl (by kernel_rfl)) rfl (fun hg24 => ?_) (.inr fun _ h_ => h_) ?_
  · have qhg24 := hg24; try simp only [Bool.and_eq_true, Bool.or_eq_true, Bool.not_eq_true', Bool.not_eq_false', Bool.and_eq_false_iff, Bool.or_eq_false_iff, decide_eq_true_eq, decide_eq_false_iff_not, beq_iff_eq, bne_iff_ne, beq_eq_false_iff_ne, bne_eq_false_iff_eq] at qhg24
    refine Ys.yc ?_
    refine Ys.at (t := 33) (v0 := Value.pointer (some ⟨p3, 0, none⟩)) (lz (g := !(((!(eqCells [Value.int .u8 ((pr.toNat : Nat) : Int), Value.int .u32 ((s : Nat) : Int), Value.int .u32 ((d : Nat) : Int), Value.int .u16 ((fr : Nat) : Int), Value.int .u16 ((to : Nat) : Int)] [Value.int .u8 ((pr.toNat : Nat) : Int), Value.int .u32 ((s : Nat) : Int), Value.int .u32 ((d : Nat) : Int), Value.int .u16 ((fr : Nat) : Int), Value.int .u16 ((to : Nat) : Int)])) || (((d : Nat) : Int) != ((d : Nat) : Int))) || (((to : Nat) : Int) != ((to : Nat) : Int)))) (u := undef) hg24 (by kernel_rfl)) ?_
    exact Ys.load (b := p3) (o' := 0) (i := 3) (j := 0) (cs := [Value.int .u8 ((pr.toNat : Nat) : Int), Value.int .u32 ((s : Nat) : Int), Value.int .u32 ((d : Nat) : Int), Value.int .u16 ((fr : Nat) : Int), Value.int .u16 ((to : Nat) : Int)]) (v := Value.int .u8 ((pr.toNat : Nat) : Int)) rfl (by kernel_rfl) Try.isAgg5 rfl rfl rfl
  refine Wd.guardc (v := Value.bool (((pr.toNat : Nat) : Int) != ((pr.toNat : Nat) : Int))) (!(((!(eqCells [Value.int .u8 ((pr.toNat : Nat) : Int), Value.int .u32 ((s : Nat) : Int), Value.int .u32 ((d : Nat) : Int), Value.int .u16 ((fr : Nat) : Int), Value.int .u16 ((to : Nat) : Int)] [Value.int .u8 ((pr.toNat : Nat) : Int), Value.int .u32 ((s : Nat) : Int), Value.int .u32 ((d : Nat) : Int), Value.int .u16 ((fr : Nat) : Int), Value.int .u16 ((to : Nat) : Int)])) || (((d : Nat) : Int) != ((d : Nat) : Int))) || (((to : Nat) : Int) != ((to : Nat) : Int)))) rfl (wantF rfl (by kernel_rfl)) rfl (fun hg25 => ?_) (.inr fun _ h_ => h_) ?_
  · have qhg25 := hg25; try simp only [Bool.and_eq_true, Bool.or_eq_true, Bool.not_eq_true', Bool.not_eq_false', Bool.and_eq_false_iff, Bool.or_eq_false_iff, decide_eq_true_eq, decide_eq_false_iff_not, beq_iff_eq, bne_iff_ne, beq_eq_false_iff_ne, bne_eq_false_iff_eq] at qhg25
    refine Ys.yc ?_
    refine Ys.at (t := 32) (v0 := Value.int .u8 ((pr.toNat : Nat) : Int)) (lz (g := !(((!(eqCells [Value.int .u8 ((pr.toNat : Nat) : Int), Value.int .u32 ((s : Nat) : Int), Value.int .u32 ((d : Nat) : Int), Value.int .u16 ((fr : Nat) : Int), Value.int .u16 ((to : Nat) : Int)] [Value.int .u8 ((pr.toNat : Nat) : Int), Value.int .u32 ((s : Nat) : Int), Value.int .u32 ((d : Nat) : Int), Value.int .u16 ((fr : Nat) : Int), Value.int .u16 ((to : Nat) : Int)])) || (((d : Nat) : Int) != ((d : Nat) : Int))) || (((to : Nat) : Int) != ((to : Nat) : Int)))) (u := undef) hg25 (by kernel_rfl)) ?_
    refine Ys.at (t := 34) (v0 := Value.int .u8 ((pr.toNat : Nat) : Int)) (lz (g := !(((!(eqCells [Value.int .u8 ((pr.toNat : Nat) : Int), Value.int .u32 ((s : Nat) : Int), Value.int .u32 ((d : Nat) : Int), Value.int .u16 ((fr : Nat) : Int), Value.int .u16 ((to : Nat) : Int)] [Value.int .u8 ((pr.toNat : Nat) : Int), Value.int .u32 ((s : Nat) : Int), Value.int .u32 ((d : Nat) : Int), Value.int .u16 ((fr : Nat) : Int), Value.int .u16 ((to : Nat) : Int)])) || (((d : Nat) : Int) != ((d : Nat) : Int))) || (((to : Nat) : Int) != ((to : Nat) : Int)))) (u := undef) hg25 (by kernel_rfl)) ?_
    exact Ys.pure (fun _ => by kernel_rfl)
  refine Wd.yc (v := Value.bool ((((!(eqCells [Value.int .u8 ((pr.toNat : Nat) : Int), Value.int .u32 ((s : Nat) : Int), Value.int .u32 ((d : Nat) : Int), Value.int .u16 ((fr : Nat) : Int), Value.int .u16 ((to : Nat) : Int)] [Value.int .u8 ((pr.toNat : Nat) : Int), Value.int .u32 ((s : Nat) : Int), Value.int .u32 ((d : Nat) : Int), Value.int .u16 ((fr : Nat) : Int), Value.int .u16 ((to : Nat) : Int)])) || (((d : Nat) : Int) != ((d : Nat) : Int))) || (((to : Nat) : Int) != ((to : Nat) : Int))) || (((pr.toNat : Nat) : Int) != ((pr.toNat : Nat) : Int)))) rfl rfl rfl (Ys.yc (Ys.or' (e := ((!(eqCells [Value.int .u8 ((pr.toNat : Nat) : Int), Value.int .u32 ((s : Nat) : Int), Value.int .u32 ((d : Nat) : Int), Value.int .u16 ((fr : Nat) : Int), Value.int .u16 ((to : Nat) : Int)] [Value.int .u8 ((pr.toNat : Nat) : Int), Value.int .u32 ((s : Nat) : Int), Value.int .u32 ((d : Nat) : Int), Value.int .u16 ((fr : Nat) : Int), Value.int .u16 ((to : Nat) : Int)])) || (((d : Nat) : Int) != ((d : Nat) : Int))) || (((to : Nat) : Int) != ((to : Nat) : Int))) (b := ((pr.toNat : Nat) : Int) != ((pr.toNat : Nat) : Int)) rfl (by kernel_rfl) (by kernel_rfl) (by kernel_rfl))) (.inr fun _ h_ => h_) ?_
  refine Wd.nil ?_
  refine hK10 _ _ _ ?_
  refine W.pick (LL' := [[cb p5 [Value.int .u8 ((pt.toNat : Nat) : Int), Value.int .u32 ((s3 : Nat) : Int), Value.int .u32 ((d3 : Nat) : Int), Value.int .u16 ((fr3 : Nat) : Int), Value.int .u16 ((to3 : Nat) : Int)] 30], [cb p4 [Value.int .u8 ((ps.toNat : Nat) : Int), Value.int .u32 ((s2 : Nat) : Int), Value.int .u32 ((d2 : Nat) : Int), Value.int .u16 ((fr2 : Nat) : Int), Value.int .u16 ((to2 : Nat) : Int)] 30], [cb p3 [Value.int .u8 ((pr.toNat : Nat) : Int), Value.int .u32 ((s : Nat) : Int), Value.int .u32 ((d : Nat) : Int), Value.int .u16 ((fr : Nat) : Int), Value.int .u16 ((to : Nat) : Int)] 30]]) [1, 2, 3] (by decide) rfl ?_
  refine W.prune' [3, 4, 5, 36] [Value.pointer (some ⟨p3, 0, none⟩), Value.pointer (some ⟨p4, 0, none⟩), Value.pointer (some ⟨p5, 0, none⟩), Value.bool ((((!(eqCells [Value.int .u8 ((pr.toNat : Nat) : Int), Value.int .u32 ((s : Nat) : Int), Value.int .u32 ((d : Nat) : Int), Value.int .u16 ((fr : Nat) : Int), Value.int .u16 ((to : Nat) : Int)] [Value.int .u8 ((pr.toNat : Nat) : Int), Value.int .u32 ((s : Nat) : Int), Value.int .u32 ((d : Nat) : Int), Value.int .u16 ((fr : Nat) : Int), Value.int .u16 ((to : Nat) : Int)])) || (((d : Nat) : Int) != ((d : Nat) : Int))) || (((to : Nat) : Int) != ((to : Nat) : Int))) || (((pr.toNat : Nat) : Int) != ((pr.toNat : Nat) : Int)))] (by kernel_rfl) (fun f26 => ?_)
  refine W.cond ((((!(eqCells [Value.int .u8 ((pr.toNat : Nat) : Int), Value.int .u32 ((s : Nat) : Int), Value.int .u32 ((d : Nat) : Int), Value.int .u16 ((fr : Nat) : Int), Value.int .u16 ((to : Nat) : Int)] [Value.int .u8 ((pr.toNat : Nat) : Int), Value.int .u32 ((s : Nat) : Int), Value.int .u32 ((d : Nat) : Int), Value.int .u16 ((fr : Nat) : Int), Value.int .u16 ((to : Nat) : Int)])) || (((d : Nat) : Int) != ((d : Nat) : Int))) || (((to : Nat) : Int) != ((to : Nat) : Int))) || (((pr.toNat : Nat) : Int) != ((pr.toNat : Nat) : Int))) (by kernel_rfl) (fun h27 => ?_) (fun h28 => ?_)
  · have qh27 := h27; try simp only [Bool.and_eq_true, Bool.or_eq_true, Bool.not_eq_true', Bool.not_eq_false', Bool.and_eq_false_iff, Bool.or_eq_false_iff, decide_eq_true_eq, decide_eq_false_iff_not, beq_iff_eq, bne_iff_ne, beq_eq_false_iff_ne, bne_eq_false_iff_eq] at qh27
    (exfalso; simp [eqCells, leafEq] at h27)
  · have qh28 := h28; try simp only [Bool.and_eq_true, Bool.or_eq_true, Bool.not_eq_true', Bool.not_eq_false', Bool.and_eq_false_iff, Bool.or_eq_false_iff, decide_eq_true_eq, decide_eq_false_iff_not, beq_iff_eq, bne_iff_ne, beq_eq_false_iff_ne, bne_eq_false_iff_eq] at qh28
    refine W.skip' ?_
    refine hK9 _ _ _ ?_
    refine W.prune' [3, 4, 5] [Value.pointer (some ⟨p3, 0, none⟩), Value.pointer (some ⟨p4, 0, none⟩), Value.pointer (some ⟨p5, 0, none⟩)] (by kernel_rfl) (fun f29 => ?_)
    refine W.seq (fun K30 hK30 => ?_)
    refine W.region ?_
    refine Wl.ys (v := Value.agg ([Value.int .u8 ((pr.toNat : Nat) : Int), Value.int .u32 ((s : Nat) : Int), Value.int .u32 ((d : Nat) : Int), Value.int .u16 ((fr : Nat) : Int), Value.int .u16 ((to : Nat) : Int)]).toArray) rfl rfl (Ys.loadN (b := p3) (o' := 0) (i := 2) (j := 0) (cs := [Value.int .u8 ((pr.toNat : Nat) : Int), Value.int .u32 ((s : Nat) : Int), Value.int .u32 ((d : Nat) : Int), Value.int .u16 ((fr : Nat) : Int), Value.int .u16 ((to : Nat) : Int)]) (vs := [Value.int .u8 ((pr.toNat : Nat) : Int), Value.int .u32 ((s : Nat) : Int), Value.int .u32 ((d : Nat) : Int), Value.int .u16 ((fr : Nat) : Int), Value.int .u16 ((to : Nat) : Int)]) rfl (by kernel_rfl) Try.isAgg30 Try.sizeOf30 rfl rfl rfl rfl) ?_
    refine Wl.ys (v := Value.agg ([Value.int .u8 ((ps.toNat : Nat) : Int), Value.int .u32 ((s2 : Nat) : Int), Value.int .u32 ((d2 : Nat) : Int), Value.int .u16 ((fr2 : Nat) : Int), Value.int .u16 ((to2 : Nat) : Int)]).toArray) rfl rfl (Ys.loadN (b := p4) (o' := 0) (i := 1) (j := 0) (cs := [Value.int .u8 ((ps.toNat : Nat) : Int), Value.int .u32 ((s2 : Nat) : Int), Value.int .u32 ((d2 : Nat) : Int), Value.int .u16 ((fr2 : Nat) : Int), Value.int .u16 ((to2 : Nat) : Int)]) (vs := [Value.int .u8 ((ps.toNat : Nat) : Int), Value.int .u32 ((s2 : Nat) : Int), Value.int .u32 ((d2 : Nat) : Int), Value.int .u16 ((fr2 : Nat) : Int), Value.int .u16 ((to2 : Nat) : Int)]) rfl (by kernel_rfl) Try.isAgg30 Try.sizeOf30 rfl rfl rfl rfl) ?_
    refine Wl.yc (v := Value.int .i64 (ordN pr.toNat s d fr to ps.toNat s2 d2 fr2 to2)) rfl rfl (Yc.call (k := 16) (args := #[Value.agg ([Value.int .u8 ((pr.toNat : Nat) : Int), Value.int .u32 ((s : Nat) : Int), Value.int .u32 ((d : Nat) : Int), Value.int .u16 ((fr : Nat) : Int), Value.int .u16 ((to : Nat) : Int)]).toArray, Value.agg ([Value.int .u8 ((ps.toNat : Nat) : Int), Value.int .u32 ((s2 : Nat) : Int), Value.int .u32 ((d2 : Nat) : Int), Value.int .u16 ((fr2 : Nat) : Int), Value.int .u16 ((to2 : Nat) : Int)]).toArray]) (fun _ => by kernel_rfl) (fun w_ hm_ => (order_c pr s d fr to ps s2 d2 fr2 to2 _ (by omega) (by omega) (by omega) (by omega) (by omega) (by omega) (by omega) (by omega)))) ?_
    refine Wl.run 2 (by kernel_rfl) ?_
    refine Wl.guard (v := Value.agg ([Value.int .u8 ((ps.toNat : Nat) : Int), Value.int .u32 ((s2 : Nat) : Int), Value.int .u32 ((d2 : Nat) : Int), Value.int .u16 ((fr2 : Nat) : Int), Value.int .u16 ((to2 : Nat) : Int)]).toArray) (!(decide ((ordN pr.toNat s d fr to ps.toNat s2 d2 fr2 to2) > 0))) rfl (wantF rfl (by kernel_rfl)) rfl (fun hg31 => ?_) ?_
    · have qhg31 := hg31; try simp only [Bool.and_eq_true, Bool.or_eq_true, Bool.not_eq_true', Bool.not_eq_false', Bool.and_eq_false_iff, Bool.or_eq_false_iff, decide_eq_true_eq, decide_eq_false_iff_not, beq_iff_eq, bne_iff_ne, beq_eq_false_iff_ne, bne_eq_false_iff_eq] at qhg31
      exact Ys.loadN (b := p4) (o' := 0) (i := 1) (j := 0) (cs := [Value.int .u8 ((ps.toNat : Nat) : Int), Value.int .u32 ((s2 : Nat) : Int), Value.int .u32 ((d2 : Nat) : Int), Value.int .u16 ((fr2 : Nat) : Int), Value.int .u16 ((to2 : Nat) : Int)]) (vs := [Value.int .u8 ((ps.toNat : Nat) : Int), Value.int .u32 ((s2 : Nat) : Int), Value.int .u32 ((d2 : Nat) : Int), Value.int .u16 ((fr2 : Nat) : Int), Value.int .u16 ((to2 : Nat) : Int)]) rfl (by kernel_rfl) Try.isAgg30 Try.sizeOf30 rfl rfl rfl rfl
    refine Wl.guard (v := Value.agg ([Value.int .u8 ((pt.toNat : Nat) : Int), Value.int .u32 ((s3 : Nat) : Int), Value.int .u32 ((d3 : Nat) : Int), Value.int .u16 ((fr3 : Nat) : Int), Value.int .u16 ((to3 : Nat) : Int)]).toArray) (!(decide ((ordN pr.toNat s d fr to ps.toNat s2 d2 fr2 to2) > 0))) rfl (wantF rfl (by kernel_rfl)) rfl (fun hg32 => ?_) ?_
    · have qhg32 := hg32; try simp only [Bool.and_eq_true, Bool.or_eq_true, Bool.not_eq_true', Bool.not_eq_false', Bool.and_eq_false_iff, Bool.or_eq_false_iff, decide_eq_true_eq, decide_eq_false_iff_not, beq_iff_eq, bne_iff_ne, beq_eq_false_iff_ne, bne_eq_false_iff_eq] at qhg32
      exact Ys.loadN (b := p5) (o' := 0) (i := 0) (j := 0) (cs := [Value.int .u8 ((pt.toNat : Nat) : Int), Value.int .u32 ((s3 : Nat) : Int), Value.int .u32 ((d3 : Nat) : Int), Value.int .u16 ((fr3 : Nat) : Int), Value.int .u16 ((to3 : Nat) : Int)]) (vs := [Value.int .u8 ((pt.toNat : Nat) : Int), Value.int .u32 ((s3 : Nat) : Int), Value.int .u32 ((d3 : Nat) : Int), Value.int .u16 ((fr3 : Nat) : Int), Value.int .u16 ((to3 : Nat) : Int)]) rfl (by kernel_rfl) Try.isAgg30 Try.sizeOf30 rfl rfl rfl rfl
    refine Wl.guardc (v := Value.int .i64 (ordN ps.toNat s2 d2 fr2 to2 pt.toNat s3 d3 fr3 to3)) (!(decide ((ordN pr.toNat s d fr to ps.toNat s2 d2 fr2 to2) > 0))) rfl (wantF rfl (by kernel_rfl)) rfl (fun hg33 => ?_) ?_
    · have qhg33 := hg33; try simp only [Bool.and_eq_true, Bool.or_eq_true, Bool.not_eq_true', Bool.not_eq_false', Bool.and_eq_false_iff, Bool.or_eq_false_iff, decide_eq_true_eq, decide_eq_false_iff_not, beq_iff_eq, bne_iff_ne, beq_eq_false_iff_ne, bne_eq_false_iff_eq] at qhg33
      refine Yc.at (t := 42) (v0 := Value.agg ([Value.int .u8 ((ps.toNat : Nat) : Int), Value.int .u32 ((s2 : Nat) : Int), Value.int .u32 ((d2 : Nat) : Int), Value.int .u16 ((fr2 : Nat) : Int), Value.int .u16 ((to2 : Nat) : Int)]).toArray) (lz (g := !(decide ((ordN pr.toNat s d fr to ps.toNat s2 d2 fr2 to2) > 0))) (u := undef) hg33 (by kernel_rfl)) ?_
      refine Yc.at (t := 43) (v0 := Value.agg ([Value.int .u8 ((pt.toNat : Nat) : Int), Value.int .u32 ((s3 : Nat) : Int), Value.int .u32 ((d3 : Nat) : Int), Value.int .u16 ((fr3 : Nat) : Int), Value.int .u16 ((to3 : Nat) : Int)]).toArray) (lz (g := !(decide ((ordN pr.toNat s d fr to ps.toNat s2 d2 fr2 to2) > 0))) (u := undef) hg33 (by kernel_rfl)) ?_
      exact Yc.call (k := 16) (args := #[Value.agg ([Value.int .u8 ((ps.toNat : Nat) : Int), Value.int .u32 ((s2 : Nat) : Int), Value.int .u32 ((d2 : Nat) : Int), Value.int .u16 ((fr2 : Nat) : Int), Value.int .u16 ((to2 : Nat) : Int)]).toArray, Value.agg ([Value.int .u8 ((pt.toNat : Nat) : Int), Value.int .u32 ((s3 : Nat) : Int), Value.int .u32 ((d3 : Nat) : Int), Value.int .u16 ((fr3 : Nat) : Int), Value.int .u16 ((to3 : Nat) : Int)]).toArray]) (fun _ => by kernel_rfl) (fun w_ hm_ => (order_c ps s2 d2 fr2 to2 pt s3 d3 fr3 to3 _ (by omega) (by omega) (by omega) (by omega) (by omega) (by omega) (by omega) (by omega)))
    refine Wl.guard (v := Value.bool (decide ((ordN ps.toNat s2 d2 fr2 to2 pt.toNat s3 d3 fr3 to3) > 0))) (!(decide ((ordN pr.toNat s d fr to ps.toNat s2 d2 fr2 to2) > 0))) rfl (wantF rfl (by kernel_rfl)) rfl (fun hg34 => ?_) ?_
    · have qhg34 := hg34; try simp only [Bool.and_eq_true, Bool.or_eq_true, Bool.not_eq_true', Bool.not_eq_false', Bool.and_eq_false_iff, Bool.or_eq_false_iff, decide_eq_true_eq, decide_eq_false_iff_not, beq_iff_eq, bne_iff_ne, beq_eq_false_iff_ne, bne_eq_false_iff_eq] at qhg34
      refine Ys.at (t := 44) (v0 := Value.int .i64 (ordN ps.toNat s2 d2 fr2 to2 pt.toNat s3 d3 fr3 to3)) (lz (g := !(decide ((ordN pr.toNat s d fr to ps.toNat s2 d2 fr2 to2) > 0))) (u := undef) hg34 (by kernel_rfl)) ?_
      exact Ys.pure (fun _ => by kernel_rfl)
    refine Wl.ys (v := Value.bool ((decide ((ordN pr.toNat s d fr to ps.toNat s2 d2 fr2 to2) > 0)) || (decide ((ordN ps.toNat s2 d2 fr2 to2 pt.toNat s3 d3 fr3 to3) > 0)))) rfl rfl (Ys.or' (e := decide ((ordN pr.toNat s d fr to ps.toNat s2 d2 fr2 to2) > 0)) (b := decide ((ordN ps.toNat s2 d2 fr2 to2 pt.toNat s3 d3 fr3 to3) > 0)) rfl (by kernel_rfl) (by kernel_rfl) (by kernel_rfl)) ?_
    refine Wl.run 1 (by kernel_rfl) ?_
    refine Wl.guard (v := Value.agg ([Value.int .u8 ((pr.toNat : Nat) : Int), Value.int .u32 ((s : Nat) : Int), Value.int .u32 ((d : Nat) : Int), Value.int .u16 ((fr : Nat) : Int), Value.int .u16 ((to : Nat) : Int)]).toArray) (!((decide ((ordN pr.toNat s d fr to ps.toNat s2 d2 fr2 to2) > 0)) || (decide ((ordN ps.toNat s2 d2 fr2 to2 pt.toNat s3 d3 fr3 to3) > 0)))) rfl (wantF rfl (by kernel_rfl)) rfl (fun hg35 => ?_) ?_
    · have qhg35 := hg35; try simp only [Bool.and_eq_true, Bool.or_eq_true, Bool.not_eq_true', Bool.not_eq_false', Bool.and_eq_false_iff, Bool.or_eq_false_iff, decide_eq_true_eq, decide_eq_false_iff_not, beq_iff_eq, bne_iff_ne, beq_eq_false_iff_ne, bne_eq_false_iff_eq] at qhg35
      exact Ys.loadN (b := p3) (o' := 0) (i := 2) (j := 0) (cs := [Value.int .u8 ((pr.toNat : Nat) : Int), Value.int .u32 ((s : Nat) : Int), Value.int .u32 ((d : Nat) : Int), Value.int .u16 ((fr : Nat) : Int), Value.int .u16 ((to : Nat) : Int)]) (vs := [Value.int .u8 ((pr.toNat : Nat) : Int), Value.int .u32 ((s : Nat) : Int), Value.int .u32 ((d : Nat) : Int), Value.int .u16 ((fr : Nat) : Int), Value.int .u16 ((to : Nat) : Int)]) rfl (by kernel_rfl) Try.isAgg30 Try.sizeOf30 rfl rfl rfl rfl
    refine Wl.guard (v := Value.agg ([Value.int .u8 ((pt.toNat : Nat) : Int), Value.int .u32 ((s3 : Nat) : Int), Value.int .u32 ((d3 : Nat) : Int), Value.int .u16 ((fr3 : Nat) : Int), Value.int .u16 ((to3 : Nat) : Int)]).toArray) (!((decide ((ordN pr.toNat s d fr to ps.toNat s2 d2 fr2 to2) > 0)) || (decide ((ordN ps.toNat s2 d2 fr2 to2 pt.toNat s3 d3 fr3 to3) > 0)))) rfl (wantF rfl (by kernel_rfl)) rfl (fun hg36 => ?_) ?_
    · have qhg36 := hg36; try simp only [Bool.and_eq_true, Bool.or_eq_true, Bool.not_eq_true', Bool.not_eq_false', Bool.and_eq_false_iff, Bool.or_eq_false_iff, decide_eq_true_eq, decide_eq_false_iff_not, beq_iff_eq, bne_iff_ne, beq_eq_false_iff_ne, bne_eq_false_iff_eq] at qhg36
      exact Ys.loadN (b := p5) (o' := 0) (i := 0) (j := 0) (cs := [Value.int .u8 ((pt.toNat : Nat) : Int), Value.int .u32 ((s3 : Nat) : Int), Value.int .u32 ((d3 : Nat) : Int), Value.int .u16 ((fr3 : Nat) : Int), Value.int .u16 ((to3 : Nat) : Int)]) (vs := [Value.int .u8 ((pt.toNat : Nat) : Int), Value.int .u32 ((s3 : Nat) : Int), Value.int .u32 ((d3 : Nat) : Int), Value.int .u16 ((fr3 : Nat) : Int), Value.int .u16 ((to3 : Nat) : Int)]) rfl (by kernel_rfl) Try.isAgg30 Try.sizeOf30 rfl rfl rfl rfl
    refine Wl.guardc (v := Value.int .i64 (ordN pr.toNat s d fr to pt.toNat s3 d3 fr3 to3)) (!((decide ((ordN pr.toNat s d fr to ps.toNat s2 d2 fr2 to2) > 0)) || (decide ((ordN ps.toNat s2 d2 fr2 to2 pt.toNat s3 d3 fr3 to3) > 0)))) rfl (wantF rfl (by kernel_rfl)) rfl (fun hg37 => ?_) ?_
    · have qhg37 := hg37; try simp only [Bool.and_eq_true, Bool.or_eq_true, Bool.not_eq_true', Bool.not_eq_false', Bool.and_eq_false_iff, Bool.or_eq_false_iff, decide_eq_true_eq, decide_eq_false_iff_not, beq_iff_eq, bne_iff_ne, beq_eq_false_iff_ne, bne_eq_false_iff_eq] at qhg37
      refine Yc.at (t := 48) (v0 := Value.agg ([Value.int .u8 ((pr.toNat : Nat) : Int), Value.int .u32 ((s : Nat) : Int), Value.int .u32 ((d : Nat) : Int), Value.int .u16 ((fr : Nat) : Int), Value.int .u16 ((to : Nat) : Int)]).toArray) (lz (g := !((decide ((ordN pr.toNat s d fr to ps.toNat s2 d2 fr2 to2) > 0)) || (decide ((ordN ps.toNat s2 d2 fr2 to2 pt.toNat s3 d3 fr3 to3) > 0)))) (u := undef) hg37 (by kernel_rfl)) ?_
      refine Yc.at (t := 49) (v0 := Value.agg ([Value.int .u8 ((pt.toNat : Nat) : Int), Value.int .u32 ((s3 : Nat) : Int), Value.int .u32 ((d3 : Nat) : Int), Value.int .u16 ((fr3 : Nat) : Int), Value.int .u16 ((to3 : Nat) : Int)]).toArray) (lz (g := !((decide ((ordN pr.toNat s d fr to ps.toNat s2 d2 fr2 to2) > 0)) || (decide ((ordN ps.toNat s2 d2 fr2 to2 pt.toNat s3 d3 fr3 to3) > 0)))) (u := undef) hg37 (by kernel_rfl)) ?_
      exact Yc.call (k := 16) (args := #[Value.agg ([Value.int .u8 ((pr.toNat : Nat) : Int), Value.int .u32 ((s : Nat) : Int), Value.int .u32 ((d : Nat) : Int), Value.int .u16 ((fr : Nat) : Int), Value.int .u16 ((to : Nat) : Int)]).toArray, Value.agg ([Value.int .u8 ((pt.toNat : Nat) : Int), Value.int .u32 ((s3 : Nat) : Int), Value.int .u32 ((d3 : Nat) : Int), Value.int .u16 ((fr3 : Nat) : Int), Value.int .u16 ((to3 : Nat) : Int)]).toArray]) (fun _ => by kernel_rfl) (fun w_ hm_ => (order_c pr s d fr to pt s3 d3 fr3 to3 _ (by omega) (by omega) (by omega) (by omega) (by omega) (by omega) (by omega) (by omega)))
    refine Wl.guard (v := Value.bool (decide ((ordN pr.toNat s d fr to pt.toNat s3 d3 fr3 to3) ≤ 0))) (!((decide ((ordN pr.toNat s d fr to ps.toNat s2 d2 fr2 to2) > 0)) || (decide ((ordN ps.toNat s2 d2 fr2 to2 pt.toNat s3 d3 fr3 to3) > 0)))) rfl (wantF rfl (by kernel_rfl)) rfl (fun hg38 => ?_) ?_
    · have qhg38 := hg38; try simp only [Bool.and_eq_true, Bool.or_eq_true, Bool.not_eq_true', Bool.not_eq_false', Bool.and_eq_false_iff, Bool.or_eq_false_iff, decide_eq_true_eq, decide_eq_false_iff_not, beq_iff_eq, bne_iff_ne, beq_eq_false_iff_ne, bne_eq_false_iff_eq] at qhg38
      refine Ys.at (t := 50) (v0 := Value.int .i64 (ordN pr.toNat s d fr to pt.toNat s3 d3 fr3 to3)) (lz (g := !((decide ((ordN pr.toNat s d fr to ps.toNat s2 d2 fr2 to2) > 0)) || (decide ((ordN ps.toNat s2 d2 fr2 to2 pt.toNat s3 d3 fr3 to3) > 0)))) (u := undef) hg38 (by kernel_rfl)) ?_
      exact Ys.pure (fun _ => by kernel_rfl)
    refine Wl.ys (v := Value.bool (((decide ((ordN pr.toNat s d fr to ps.toNat s2 d2 fr2 to2) > 0)) || (decide ((ordN ps.toNat s2 d2 fr2 to2 pt.toNat s3 d3 fr3 to3) > 0))) || (decide ((ordN pr.toNat s d fr to pt.toNat s3 d3 fr3 to3) ≤ 0)))) rfl rfl (Ys.or' (e := (decide ((ordN pr.toNat s d fr to ps.toNat s2 d2 fr2 to2) > 0)) || (decide ((ordN ps.toNat s2 d2 fr2 to2 pt.toNat s3 d3 fr3 to3) > 0))) (b := decide ((ordN pr.toNat s d fr to pt.toNat s3 d3 fr3 to3) ≤ 0)) rfl (by kernel_rfl) (by kernel_rfl) (by kernel_rfl)) ?_
    refine Wl.run 1 (by kernel_rfl) ?_
    refine Wl.nil ?_
    refine hK30 _ _ _ ?_
    refine W.pick (LL' := []) [] (by decide) rfl ?_
    refine W.prune' [6] [Value.bool (((decide ((ordN pr.toNat s d fr to ps.toNat s2 d2 fr2 to2) > 0)) || (decide ((ordN ps.toNat s2 d2 fr2 to2 pt.toNat s3 d3 fr3 to3) > 0))) || (decide ((ordN pr.toNat s d fr to pt.toNat s3 d3 fr3 to3) ≤ 0)))] (by kernel_rfl) (fun f39 => ?_)
    refine W.ret ?_
    show ∀ w_, _ → bodyPostM (fence none) 0 Try.prog Try.f6 _ Exit.ret _ w_
    exact fun w_ hS_ => fin_ret (ret1 rfl (RV.tmp (v := Value.bool (((decide ((ordN pr.toNat s d fr to ps.toNat s2 d2 fr2 to2) > 0)) || (decide ((ordN ps.toNat s2 d2 fr2 to2 pt.toNat s3 d3 fr3 to3) > 0))) || (decide ((ordN pr.toNat s d fr to pt.toNat s3 d3 fr3 to3) ≤ 0)))) (by kernel_rfl)) hS_ ⟨by clear hK1 hK3 hK4 hK7 hK9 hK10 hK30; refine congrArg Ending.returned ?_; exact bool_congr (tr_bool (tr_law _ _ _ _ _ _ _ _ _ _ _ _ _ _ _)), hS_.below⟩)
end Go.Proofs.Ytejeafjkhomdoaa.Oct
