/-
  Mappings' tables: what is read. No condition.
-/
import Derived.Test.YtjkhmbigoloeiaaKt
import Derived.Test.YtjkhmbigoloeiaaVK
set_option linter.unusedVariables false
set_option linter.unusedSimpArgs false
set_option maxRecDepth 20000
namespace Go.Proofs.Ytjkhmbigoloeiaa.Oct
open Go.RowKit Base
attribute [local irreducible] Ys Yc Ht HtS HtIn Wl Wd W Mem pf dpf Wa Wo

structure Ent where
  proto : Int
  ext : Int
  to : Int
  remote : Int
  host : Int
  on : Bool
  words : ByteArray
  ends : Int
/-- Keys' order. -/
abbrev ordM : LO (Int × Int × Int) := LO.lex LO.int (LO.lex LO.int LO.int)
abbrev dM : (Int × Int × Int) × (Ent) := ((0, 0, 0), (⟨0, 0, 0, 0, 0, false, bstr [], 0⟩ : Ent))
/-- A pair's cells. -/
def prM (x : (Int × Int × Int) × (Ent)) : List Value := [Value.int .u8 x.1.1, Value.int .u16 x.1.2.1, Value.int .u32 x.1.2.2, Value.int .u8 x.2.proto, Value.int .u16 x.2.ext, Value.int .u16 x.2.to, Value.int .u32 x.2.remote, Value.int .u32 x.2.host, Value.bool x.2.on, Value.string x.2.words, Value.int .u64 x.2.ends]
theorem prM_len (x : (Int × Int × Int) × (Ent)) : (prM x).length = 11 := rfl
theorem prM_one (x : (Int × Int × Int) × (Ent)) : ∀ v ∈ prM x, v.oneCell' = true := by simp [prM, Value.oneCell']
theorem prM_zlen (xs : List ((Int × Int × Int) × (Ent))) : (mm prM xs).length = xs.length * 11 := mm_len prM_len xs
theorem nanm8_c (x : Int) (w : World) : Calls Try.prog 108 #[Value.int .u8 x] w (Ret w (.bool false)) := by
  refine calls_W (M := []) (LL := []) (n := 6) Try.func108 rfl rfl (by simp) (Mem.refl _) ?_
  refine W.seq (fun K1 hK1 => ?_)
  refine W.region ?_
  refine Wl.run 1 (by kernel_rfl) ?_
  refine Wl.nil ?_
  refine hK1 _ _ _ ?_
  refine W.seq (fun K2 hK2 => ?_)
  refine W.region ?_
  refine Wl.run 4 (by kernel_rfl) ?_
  refine Wl.nil ?_
  refine hK2 _ _ _ ?_
  refine W.prune' [2] [Value.bool (x != x)] (by kernel_rfl) (fun f3 => ?_)
  refine W.ret ?_
  show ∀ w_, _ → bodyPostM (fence none) 0 Try.prog Try.f108 _ Exit.ret _ w_
  exact fun w_ hS_ => fin_ret (ret1 rfl (RV.tmp (v := Value.bool (x != x)) (by kernel_rfl)) hS_ ⟨by clear hK1 hK2; refine congrArg Ending.returned ?_; exact bool_congr (by simp), hS_.below⟩)

theorem cmpm8_c (a b : Int) (w : World) : Calls Try.prog 86 #[Value.int .u8 a, Value.int .u8 b] w (Ret w (.int .i64 (LO.cmp LO.int a b))) := by
  refine calls_W (M := []) (LL := []) (n := 20) Try.func86 rfl rfl (by simp) (Mem.refl _) ?_
  refine W.seq (fun K1 hK1 => ?_)
  refine W.region ?_
  refine Wl.run 1 (by kernel_rfl) ?_
  refine Wl.nil ?_
  refine hK1 _ _ _ ?_
  refine W.seq (fun K2 hK2 => ?_)
  refine W.region ?_
  refine Wl.run 1 (by kernel_rfl) ?_
  refine Wl.yc (v := Value.bool false) rfl rfl (Yc.call (k := 108) (args := #[Value.int .u8 a]) (fun _ => by kernel_rfl) (fun w_ hm_ => (nanm8_c a _))) ?_
  refine Wl.run 1 (by kernel_rfl) ?_
  refine Wl.nil ?_
  refine hK2 _ _ _ ?_
  refine W.prune' [0, 1, 5] [Value.int .u8 a, Value.int .u8 b, Value.bool false] (by kernel_rfl) (fun f3 => ?_)
  refine W.seq (fun K4 hK4 => ?_)
  refine W.region ?_
  refine Wl.run 1 (by kernel_rfl) ?_
  refine Wl.yc (v := Value.bool false) rfl rfl (Yc.call (k := 108) (args := #[Value.int .u8 b]) (fun _ => by kernel_rfl) (fun w_ hm_ => (nanm8_c b _))) ?_
  refine Wl.run 1 (by kernel_rfl) ?_
  refine Wl.nil ?_
  refine hK4 _ _ _ ?_
  refine W.prune' [0, 1, 5, 6] [Value.int .u8 a, Value.int .u8 b, Value.bool false, Value.bool false] (by kernel_rfl) (fun f5 => ?_)
  refine W.seq (fun K6 hK6 => ?_)
  refine W.seq (fun K7 hK7 => ?_)
  refine W.region ?_
  refine Wl.run 1 (by kernel_rfl) ?_
  refine Wl.nil ?_
  refine hK7 _ _ _ ?_
  refine W.condF (by kernel_rfl) ?_
  refine W.skip' ?_
  refine hK6 _ _ _ ?_
  refine W.prune' [0, 1, 6] [Value.int .u8 a, Value.int .u8 b, Value.bool false] (by kernel_rfl) (fun f8 => ?_)
  refine W.seq (fun K9 hK9 => ?_)
  refine W.seq (fun K10 hK10 => ?_)
  refine W.region ?_
  refine Wl.run 1 (by kernel_rfl) ?_
  refine Wl.nil ?_
  refine hK10 _ _ _ ?_
  refine W.condF (by kernel_rfl) ?_
  refine W.skip' ?_
  refine hK9 _ _ _ ?_
  refine W.prune' [0, 1] [Value.int .u8 a, Value.int .u8 b] (by kernel_rfl) (fun f11 => ?_)
  refine W.seq (fun K12 hK12 => ?_)
  refine W.seq (fun K13 hK13 => ?_)
  refine W.region ?_
  refine Wl.run 3 (by kernel_rfl) ?_
  refine Wl.nil ?_
  refine hK13 _ _ _ ?_
  refine W.prune' [0, 1, 16] [Value.int .u8 a, Value.int .u8 b, Value.bool (decide (a < b))] (by kernel_rfl) (fun f14 => ?_)
  refine W.cond (decide (a < b)) (by kernel_rfl) (fun h15 => ?_) (fun h16 => ?_)
  · have qh15 := h15; try simp only [Bool.and_eq_true, Bool.or_eq_true, Bool.not_eq_true', Bool.not_eq_false', Bool.and_eq_false_iff, Bool.or_eq_false_iff, decide_eq_true_eq, decide_eq_false_iff_not, beq_iff_eq, bne_iff_ne, beq_eq_false_iff_ne, bne_eq_false_iff_eq] at qh15
    refine W.seq (fun K17 hK17 => ?_)
    refine W.region ?_
    refine Wl.run 1 (by kernel_rfl) ?_
    refine Wl.nil ?_
    refine hK17 _ _ _ ?_
    refine W.ret ?_
    show ∀ w_, _ → bodyPostM (fence none) 0 Try.prog Try.f86 _ Exit.ret _ w_
    exact fun w_ hS_ => fin_ret (ret1 rfl (RV.tmp (v := Value.int .i64 (-1)) (by kernel_rfl)) hS_ ⟨by clear hK1 hK2 hK4 hK6 hK7 hK9 hK10 hK12 hK13 hK17; refine congrArg Ending.returned ?_; simp only [LO.cmp, LO.int, h15, cond_true, cond_false]; try rfl, hS_.below⟩)
  · have qh16 := h16; try simp only [Bool.and_eq_true, Bool.or_eq_true, Bool.not_eq_true', Bool.not_eq_false', Bool.and_eq_false_iff, Bool.or_eq_false_iff, decide_eq_true_eq, decide_eq_false_iff_not, beq_iff_eq, bne_iff_ne, beq_eq_false_iff_ne, bne_eq_false_iff_eq] at qh16
    refine W.skip' ?_
    refine hK12 _ _ _ ?_
    refine W.prune' [0, 1] [Value.int .u8 a, Value.int .u8 b] (by kernel_rfl) (fun f18 => ?_)
    refine W.seq (fun K19 hK19 => ?_)
    refine W.seq (fun K20 hK20 => ?_)
    refine W.region ?_
    refine Wl.run 3 (by kernel_rfl) ?_
    refine Wl.nil ?_
    refine hK20 _ _ _ ?_
    refine W.prune' [19] [Value.bool (decide (a > b))] (by kernel_rfl) (fun f21 => ?_)
    refine W.cond (decide (a > b)) (by kernel_rfl) (fun h22 => ?_) (fun h23 => ?_)
    · have qh22 := h22; try simp only [Bool.and_eq_true, Bool.or_eq_true, Bool.not_eq_true', Bool.not_eq_false', Bool.and_eq_false_iff, Bool.or_eq_false_iff, decide_eq_true_eq, decide_eq_false_iff_not, beq_iff_eq, bne_iff_ne, beq_eq_false_iff_ne, bne_eq_false_iff_eq] at qh22
      refine W.seq (fun K24 hK24 => ?_)
      refine W.region ?_
      refine Wl.run 1 (by kernel_rfl) ?_
      refine Wl.nil ?_
      refine hK24 _ _ _ ?_
      refine W.ret ?_
      show ∀ w_, _ → bodyPostM (fence none) 0 Try.prog Try.f86 _ Exit.ret _ w_
      exact fun w_ hS_ => fin_ret (ret1 rfl (RV.tmp (v := Value.int .i64 1) (by kernel_rfl)) hS_ ⟨by clear hK1 hK2 hK4 hK6 hK7 hK9 hK10 hK12 hK13 hK19 hK20 hK24; refine congrArg Ending.returned ?_; simp only [LO.cmp, LO.int, h16, h22, cond_true, cond_false]; try rfl, hS_.below⟩)
    · have qh23 := h23; try simp only [Bool.and_eq_true, Bool.or_eq_true, Bool.not_eq_true', Bool.not_eq_false', Bool.and_eq_false_iff, Bool.or_eq_false_iff, decide_eq_true_eq, decide_eq_false_iff_not, beq_iff_eq, bne_iff_ne, beq_eq_false_iff_ne, bne_eq_false_iff_eq] at qh23
      refine W.skip' ?_
      refine hK19 _ _ _ ?_
      refine W.prune' [] [] (by kernel_rfl) (fun f25 => ?_)
      refine W.seq (fun K26 hK26 => ?_)
      refine W.region ?_
      refine Wl.run 1 (by kernel_rfl) ?_
      refine Wl.nil ?_
      refine hK26 _ _ _ ?_
      refine W.ret ?_
      show ∀ w_, _ → bodyPostM (fence none) 0 Try.prog Try.f86 _ Exit.ret _ w_
      exact fun w_ hS_ => fin_ret (ret1 rfl (RV.tmp (v := Value.int .i64 0) (by kernel_rfl)) hS_ ⟨by clear hK1 hK2 hK4 hK6 hK7 hK9 hK10 hK12 hK13 hK19 hK20 hK26; refine congrArg Ending.returned ?_; simp only [LO.cmp, LO.int, h16, h23, cond_true, cond_false]; try rfl, hS_.below⟩)

theorem nanm16_c (x : Int) (w : World) : Calls Try.prog 109 #[Value.int .u16 x] w (Ret w (.bool false)) := by
  refine calls_W (M := []) (LL := []) (n := 6) Try.func109 rfl rfl (by simp) (Mem.refl _) ?_
  refine W.seq (fun K1 hK1 => ?_)
  refine W.region ?_
  refine Wl.run 1 (by kernel_rfl) ?_
  refine Wl.nil ?_
  refine hK1 _ _ _ ?_
  refine W.seq (fun K2 hK2 => ?_)
  refine W.region ?_
  refine Wl.run 4 (by kernel_rfl) ?_
  refine Wl.nil ?_
  refine hK2 _ _ _ ?_
  refine W.prune' [2] [Value.bool (x != x)] (by kernel_rfl) (fun f3 => ?_)
  refine W.ret ?_
  show ∀ w_, _ → bodyPostM (fence none) 0 Try.prog Try.f109 _ Exit.ret _ w_
  exact fun w_ hS_ => fin_ret (ret1 rfl (RV.tmp (v := Value.bool (x != x)) (by kernel_rfl)) hS_ ⟨by clear hK1 hK2; refine congrArg Ending.returned ?_; exact bool_congr (by simp), hS_.below⟩)

theorem cmpm16_c (a b : Int) (w : World) : Calls Try.prog 87 #[Value.int .u16 a, Value.int .u16 b] w (Ret w (.int .i64 (LO.cmp LO.int a b))) := by
  refine calls_W (M := []) (LL := []) (n := 20) Try.func87 rfl rfl (by simp) (Mem.refl _) ?_
  refine W.seq (fun K1 hK1 => ?_)
  refine W.region ?_
  refine Wl.run 1 (by kernel_rfl) ?_
  refine Wl.nil ?_
  refine hK1 _ _ _ ?_
  refine W.seq (fun K2 hK2 => ?_)
  refine W.region ?_
  refine Wl.run 1 (by kernel_rfl) ?_
  refine Wl.yc (v := Value.bool false) rfl rfl (Yc.call (k := 109) (args := #[Value.int .u16 a]) (fun _ => by kernel_rfl) (fun w_ hm_ => (nanm16_c a _))) ?_
  refine Wl.run 1 (by kernel_rfl) ?_
  refine Wl.nil ?_
  refine hK2 _ _ _ ?_
  refine W.prune' [0, 1, 5] [Value.int .u16 a, Value.int .u16 b, Value.bool false] (by kernel_rfl) (fun f3 => ?_)
  refine W.seq (fun K4 hK4 => ?_)
  refine W.region ?_
  refine Wl.run 1 (by kernel_rfl) ?_
  refine Wl.yc (v := Value.bool false) rfl rfl (Yc.call (k := 109) (args := #[Value.int .u16 b]) (fun _ => by kernel_rfl) (fun w_ hm_ => (nanm16_c b _))) ?_
  refine Wl.run 1 (by kernel_rfl) ?_
  refine Wl.nil ?_
  refine hK4 _ _ _ ?_
  refine W.prune' [0, 1, 5, 6] [Value.int .u16 a, Value.int .u16 b, Value.bool false, Value.bool false] (by kernel_rfl) (fun f5 => ?_)
  refine W.seq (fun K6 hK6 => ?_)
  refine W.seq (fun K7 hK7 => ?_)
  refine W.region ?_
  refine Wl.run 1 (by kernel_rfl) ?_
  refine Wl.nil ?_
  refine hK7 _ _ _ ?_
  refine W.condF (by kernel_rfl) ?_
  refine W.skip' ?_
  refine hK6 _ _ _ ?_
  refine W.prune' [0, 1, 6] [Value.int .u16 a, Value.int .u16 b, Value.bool false] (by kernel_rfl) (fun f8 => ?_)
  refine W.seq (fun K9 hK9 => ?_)
  refine W.seq (fun K10 hK10 => ?_)
  refine W.region ?_
  refine Wl.run 1 (by kernel_rfl) ?_
  refine Wl.nil ?_
  refine hK10 _ _ _ ?_
  refine W.condF (by kernel_rfl) ?_
  refine W.skip' ?_
  refine hK9 _ _ _ ?_
  refine W.prune' [0, 1] [Value.int .u16 a, Value.int .u16 b] (by kernel_rfl) (fun f11 => ?_)
  refine W.seq (fun K12 hK12 => ?_)
  refine W.seq (fun K13 hK13 => ?_)
  refine W.region ?_
  refine Wl.run 3 (by kernel_rfl) ?_
  refine Wl.nil ?_
  refine hK13 _ _ _ ?_
  refine W.prune' [0, 1, 16] [Value.int .u16 a, Value.int .u16 b, Value.bool (decide (a < b))] (by kernel_rfl) (fun f14 => ?_)
  refine W.cond (decide (a < b)) (by kernel_rfl) (fun h15 => ?_) (fun h16 => ?_)
  · have qh15 := h15; try simp only [Bool.and_eq_true, Bool.or_eq_true, Bool.not_eq_true', Bool.not_eq_false', Bool.and_eq_false_iff, Bool.or_eq_false_iff, decide_eq_true_eq, decide_eq_false_iff_not, beq_iff_eq, bne_iff_ne, beq_eq_false_iff_ne, bne_eq_false_iff_eq] at qh15
    refine W.seq (fun K17 hK17 => ?_)
    refine W.region ?_
    refine Wl.run 1 (by kernel_rfl) ?_
    refine Wl.nil ?_
    refine hK17 _ _ _ ?_
    refine W.ret ?_
    show ∀ w_, _ → bodyPostM (fence none) 0 Try.prog Try.f87 _ Exit.ret _ w_
    exact fun w_ hS_ => fin_ret (ret1 rfl (RV.tmp (v := Value.int .i64 (-1)) (by kernel_rfl)) hS_ ⟨by clear hK1 hK2 hK4 hK6 hK7 hK9 hK10 hK12 hK13 hK17; refine congrArg Ending.returned ?_; simp only [LO.cmp, LO.int, h15, cond_true, cond_false]; try rfl, hS_.below⟩)
  · have qh16 := h16; try simp only [Bool.and_eq_true, Bool.or_eq_true, Bool.not_eq_true', Bool.not_eq_false', Bool.and_eq_false_iff, Bool.or_eq_false_iff, decide_eq_true_eq, decide_eq_false_iff_not, beq_iff_eq, bne_iff_ne, beq_eq_false_iff_ne, bne_eq_false_iff_eq] at qh16
    refine W.skip' ?_
    refine hK12 _ _ _ ?_
    refine W.prune' [0, 1] [Value.int .u16 a, Value.int .u16 b] (by kernel_rfl) (fun f18 => ?_)
    refine W.seq (fun K19 hK19 => ?_)
    refine W.seq (fun K20 hK20 => ?_)
    refine W.region ?_
    refine Wl.run 3 (by kernel_rfl) ?_
    refine Wl.nil ?_
    refine hK20 _ _ _ ?_
    refine W.prune' [19] [Value.bool (decide (a > b))] (by kernel_rfl) (fun f21 => ?_)
    refine W.cond (decide (a > b)) (by kernel_rfl) (fun h22 => ?_) (fun h23 => ?_)
    · have qh22 := h22; try simp only [Bool.and_eq_true, Bool.or_eq_true, Bool.not_eq_true', Bool.not_eq_false', Bool.and_eq_false_iff, Bool.or_eq_false_iff, decide_eq_true_eq, decide_eq_false_iff_not, beq_iff_eq, bne_iff_ne, beq_eq_false_iff_ne, bne_eq_false_iff_eq] at qh22
      refine W.seq (fun K24 hK24 => ?_)
      refine W.region ?_
      refine Wl.run 1 (by kernel_rfl) ?_
      refine Wl.nil ?_
      refine hK24 _ _ _ ?_
      refine W.ret ?_
      show ∀ w_, _ → bodyPostM (fence none) 0 Try.prog Try.f87 _ Exit.ret _ w_
      exact fun w_ hS_ => fin_ret (ret1 rfl (RV.tmp (v := Value.int .i64 1) (by kernel_rfl)) hS_ ⟨by clear hK1 hK2 hK4 hK6 hK7 hK9 hK10 hK12 hK13 hK19 hK20 hK24; refine congrArg Ending.returned ?_; simp only [LO.cmp, LO.int, h16, h22, cond_true, cond_false]; try rfl, hS_.below⟩)
    · have qh23 := h23; try simp only [Bool.and_eq_true, Bool.or_eq_true, Bool.not_eq_true', Bool.not_eq_false', Bool.and_eq_false_iff, Bool.or_eq_false_iff, decide_eq_true_eq, decide_eq_false_iff_not, beq_iff_eq, bne_iff_ne, beq_eq_false_iff_ne, bne_eq_false_iff_eq] at qh23
      refine W.skip' ?_
      refine hK19 _ _ _ ?_
      refine W.prune' [] [] (by kernel_rfl) (fun f25 => ?_)
      refine W.seq (fun K26 hK26 => ?_)
      refine W.region ?_
      refine Wl.run 1 (by kernel_rfl) ?_
      refine Wl.nil ?_
      refine hK26 _ _ _ ?_
      refine W.ret ?_
      show ∀ w_, _ → bodyPostM (fence none) 0 Try.prog Try.f87 _ Exit.ret _ w_
      exact fun w_ hS_ => fin_ret (ret1 rfl (RV.tmp (v := Value.int .i64 0) (by kernel_rfl)) hS_ ⟨by clear hK1 hK2 hK4 hK6 hK7 hK9 hK10 hK12 hK13 hK19 hK20 hK26; refine congrArg Ending.returned ?_; simp only [LO.cmp, LO.int, h16, h23, cond_true, cond_false]; try rfl, hS_.below⟩)

theorem nanm32_c (x : Int) (w : World) : Calls Try.prog 75 #[Value.int .u32 x] w (Ret w (.bool false)) := by
  refine calls_W (M := []) (LL := []) (n := 6) Try.func75 rfl rfl (by simp) (Mem.refl _) ?_
  refine W.seq (fun K1 hK1 => ?_)
  refine W.region ?_
  refine Wl.run 1 (by kernel_rfl) ?_
  refine Wl.nil ?_
  refine hK1 _ _ _ ?_
  refine W.seq (fun K2 hK2 => ?_)
  refine W.region ?_
  refine Wl.run 4 (by kernel_rfl) ?_
  refine Wl.nil ?_
  refine hK2 _ _ _ ?_
  refine W.prune' [2] [Value.bool (x != x)] (by kernel_rfl) (fun f3 => ?_)
  refine W.ret ?_
  show ∀ w_, _ → bodyPostM (fence none) 0 Try.prog Try.f75 _ Exit.ret _ w_
  exact fun w_ hS_ => fin_ret (ret1 rfl (RV.tmp (v := Value.bool (x != x)) (by kernel_rfl)) hS_ ⟨by clear hK1 hK2; refine congrArg Ending.returned ?_; exact bool_congr (by simp), hS_.below⟩)

theorem cmpm32_c (a b : Int) (w : World) : Calls Try.prog 37 #[Value.int .u32 a, Value.int .u32 b] w (Ret w (.int .i64 (LO.cmp LO.int a b))) := by
  refine calls_W (M := []) (LL := []) (n := 20) Try.func37 rfl rfl (by simp) (Mem.refl _) ?_
  refine W.seq (fun K1 hK1 => ?_)
  refine W.region ?_
  refine Wl.run 1 (by kernel_rfl) ?_
  refine Wl.nil ?_
  refine hK1 _ _ _ ?_
  refine W.seq (fun K2 hK2 => ?_)
  refine W.region ?_
  refine Wl.run 1 (by kernel_rfl) ?_
  refine Wl.yc (v := Value.bool false) rfl rfl (Yc.call (k := 75) (args := #[Value.int .u32 a]) (fun _ => by kernel_rfl) (fun w_ hm_ => (nanm32_c a _))) ?_
  refine Wl.run 1 (by kernel_rfl) ?_
  refine Wl.nil ?_
  refine hK2 _ _ _ ?_
  refine W.prune' [0, 1, 5] [Value.int .u32 a, Value.int .u32 b, Value.bool false] (by kernel_rfl) (fun f3 => ?_)
  refine W.seq (fun K4 hK4 => ?_)
  refine W.region ?_
  refine Wl.run 1 (by kernel_rfl) ?_
  refine Wl.yc (v := Value.bool false) rfl rfl (Yc.call (k := 75) (args := #[Value.int .u32 b]) (fun _ => by kernel_rfl) (fun w_ hm_ => (nanm32_c b _))) ?_
  refine Wl.run 1 (by kernel_rfl) ?_
  refine Wl.nil ?_
  refine hK4 _ _ _ ?_
  refine W.prune' [0, 1, 5, 6] [Value.int .u32 a, Value.int .u32 b, Value.bool false, Value.bool false] (by kernel_rfl) (fun f5 => ?_)
  refine W.seq (fun K6 hK6 => ?_)
  refine W.seq (fun K7 hK7 => ?_)
  refine W.region ?_
  refine Wl.run 1 (by kernel_rfl) ?_
  refine Wl.nil ?_
  refine hK7 _ _ _ ?_
  refine W.condF (by kernel_rfl) ?_
  refine W.skip' ?_
  refine hK6 _ _ _ ?_
  refine W.prune' [0, 1, 6] [Value.int .u32 a, Value.int .u32 b, Value.bool false] (by kernel_rfl) (fun f8 => ?_)
  refine W.seq (fun K9 hK9 => ?_)
  refine W.seq (fun K10 hK10 => ?_)
  refine W.region ?_
  refine Wl.run 1 (by kernel_rfl) ?_
  refine Wl.nil ?_
  refine hK10 _ _ _ ?_
  refine W.condF (by kernel_rfl) ?_
  refine W.skip' ?_
  refine hK9 _ _ _ ?_
  refine W.prune' [0, 1] [Value.int .u32 a, Value.int .u32 b] (by kernel_rfl) (fun f11 => ?_)
  refine W.seq (fun K12 hK12 => ?_)
  refine W.seq (fun K13 hK13 => ?_)
  refine W.region ?_
  refine Wl.run 3 (by kernel_rfl) ?_
  refine Wl.nil ?_
  refine hK13 _ _ _ ?_
  refine W.prune' [0, 1, 16] [Value.int .u32 a, Value.int .u32 b, Value.bool (decide (a < b))] (by kernel_rfl) (fun f14 => ?_)
  refine W.cond (decide (a < b)) (by kernel_rfl) (fun h15 => ?_) (fun h16 => ?_)
  · have qh15 := h15; try simp only [Bool.and_eq_true, Bool.or_eq_true, Bool.not_eq_true', Bool.not_eq_false', Bool.and_eq_false_iff, Bool.or_eq_false_iff, decide_eq_true_eq, decide_eq_false_iff_not, beq_iff_eq, bne_iff_ne, beq_eq_false_iff_ne, bne_eq_false_iff_eq] at qh15
    refine W.seq (fun K17 hK17 => ?_)
    refine W.region ?_
    refine Wl.run 1 (by kernel_rfl) ?_
    refine Wl.nil ?_
    refine hK17 _ _ _ ?_
    refine W.ret ?_
    show ∀ w_, _ → bodyPostM (fence none) 0 Try.prog Try.f37 _ Exit.ret _ w_
    exact fun w_ hS_ => fin_ret (ret1 rfl (RV.tmp (v := Value.int .i64 (-1)) (by kernel_rfl)) hS_ ⟨by clear hK1 hK2 hK4 hK6 hK7 hK9 hK10 hK12 hK13 hK17; refine congrArg Ending.returned ?_; simp only [LO.cmp, LO.int, h15, cond_true, cond_false]; try rfl, hS_.below⟩)
  · have qh16 := h16; try simp only [Bool.and_eq_true, Bool.or_eq_true, Bool.not_eq_true', Bool.not_eq_false', Bool.and_eq_false_iff, Bool.or_eq_false_iff, decide_eq_true_eq, decide_eq_false_iff_not, beq_iff_eq, bne_iff_ne, beq_eq_false_iff_ne, bne_eq_false_iff_eq] at qh16
    refine W.skip' ?_
    refine hK12 _ _ _ ?_
    refine W.prune' [0, 1] [Value.int .u32 a, Value.int .u32 b] (by kernel_rfl) (fun f18 => ?_)
    refine W.seq (fun K19 hK19 => ?_)
    refine W.seq (fun K20 hK20 => ?_)
    refine W.region ?_
    refine Wl.run 3 (by kernel_rfl) ?_
    refine Wl.nil ?_
    refine hK20 _ _ _ ?_
    refine W.prune' [19] [Value.bool (decide (a > b))] (by kernel_rfl) (fun f21 => ?_)
    refine W.cond (decide (a > b)) (by kernel_rfl) (fun h22 => ?_) (fun h23 => ?_)
    · have qh22 := h22; try simp only [Bool.and_eq_true, Bool.or_eq_true, Bool.not_eq_true', Bool.not_eq_false', Bool.and_eq_false_iff, Bool.or_eq_false_iff, decide_eq_true_eq, decide_eq_false_iff_not, beq_iff_eq, bne_iff_ne, beq_eq_false_iff_ne, bne_eq_false_iff_eq] at qh22
      refine W.seq (fun K24 hK24 => ?_)
      refine W.region ?_
      refine Wl.run 1 (by kernel_rfl) ?_
      refine Wl.nil ?_
      refine hK24 _ _ _ ?_
      refine W.ret ?_
      show ∀ w_, _ → bodyPostM (fence none) 0 Try.prog Try.f37 _ Exit.ret _ w_
      exact fun w_ hS_ => fin_ret (ret1 rfl (RV.tmp (v := Value.int .i64 1) (by kernel_rfl)) hS_ ⟨by clear hK1 hK2 hK4 hK6 hK7 hK9 hK10 hK12 hK13 hK19 hK20 hK24; refine congrArg Ending.returned ?_; simp only [LO.cmp, LO.int, h16, h22, cond_true, cond_false]; try rfl, hS_.below⟩)
    · have qh23 := h23; try simp only [Bool.and_eq_true, Bool.or_eq_true, Bool.not_eq_true', Bool.not_eq_false', Bool.and_eq_false_iff, Bool.or_eq_false_iff, decide_eq_true_eq, decide_eq_false_iff_not, beq_iff_eq, bne_iff_ne, beq_eq_false_iff_ne, bne_eq_false_iff_eq] at qh23
      refine W.skip' ?_
      refine hK19 _ _ _ ?_
      refine W.prune' [] [] (by kernel_rfl) (fun f25 => ?_)
      refine W.seq (fun K26 hK26 => ?_)
      refine W.region ?_
      refine Wl.run 1 (by kernel_rfl) ?_
      refine Wl.nil ?_
      refine hK26 _ _ _ ?_
      refine W.ret ?_
      show ∀ w_, _ → bodyPostM (fence none) 0 Try.prog Try.f37 _ Exit.ret _ w_
      exact fun w_ hS_ => fin_ret (ret1 rfl (RV.tmp (v := Value.int .i64 0) (by kernel_rfl)) hS_ ⟨by clear hK1 hK2 hK4 hK6 hK7 hK9 hK10 hK12 hK13 hK19 hK20 hK26; refine congrArg Ending.returned ?_; simp only [LO.cmp, LO.int, h16, h23, cond_true, cond_false]; try rfl, hS_.below⟩)

/-- The first one that isn't nought. -/
def or3 (x y z : Int) : Int := if x ≠ 0 then x else if y ≠ 0 then y else z
theorem or3_ord (a b : Int × Int × Int) : or3 (LO.cmp LO.int a.1 b.1) (LO.cmp LO.int a.2.1 b.2.1) (LO.cmp LO.int a.2.2 b.2.2) = LO.cmp ordM a b := by
  unfold ordM
  rw [LO.lex_cmp, LO.lex_cmp]
  unfold or3
  by_cases h1 : LO.cmp LO.int a.1 b.1 = 0
  · rw [if_neg (fun h => h h1), decide_eq_true h1]
    by_cases h2 : LO.cmp LO.int a.2.1 b.2.1 = 0
    · rw [if_neg (fun h => h h2), decide_eq_true h2]; rfl
    · rw [if_pos h2, decide_eq_false h2]; rfl
  · rw [if_pos h1, decide_eq_false h1]; rfl
theorem or3_c (x y z : Int) (a : Option Addr) (cap : Nat) (w : World) (hat : At w a [.int .i64 x, .int .i64 y, .int .i64 z]) : Calls Try.prog 85 #[Value.slice a 3 cap] w (Ret w (.int .i64 (or3 x y z))) := by
  refine calls_W (M := []) (LL := []) (n := 18) Try.func85 rfl rfl (by simp) (Mem.refl _) ?_
  refine W.seq (fun K1 hK1 => ?_)
  refine W.region ?_
  refine Wl.run 1 (by kernel_rfl) ?_
  refine Wl.nil ?_
  refine hK1 _ _ _ ?_
  refine W.seq (fun K2 hK2 => ?_)
  refine W.region ?_
  refine Wl.run 1 (by kernel_rfl) ?_
  refine Wl.nil ?_
  refine hK2 _ _ _ ?_
  refine W.seq (fun K3 hK3 => ?_)
  refine W.seq (fun K4 hK4 => ?_)
  refine W.region ?_
  refine Wl.run 3 (by kernel_rfl) ?_
  refine Wl.nil ?_
  refine hK4 _ _ _ ?_
  refine W.prune' [3, 6, 7, 8] [Value.int .i64 0, Value.slice a 3 cap, Value.int .i64 3, Value.int .i64 0] (by kernel_rfl) (fun f5 => ?_)
  refine W.block ?_
  refine W.rounds 4 ?_
  refine Wr.step (fun J6 hJ6 => ?_)
  refine W.seq (fun K7 hK7 => ?_)
  refine W.region ?_
  refine Wl.run 1 (by kernel_rfl) ?_
  refine Wl.nil ?_
  refine hK7 _ _ _ ?_
  refine W.seq (fun K8 hK8 => ?_)
  refine W.condT (by kernel_rfl) ?_
  refine W.skip' ?_
  refine hK8 _ _ _ ?_
  refine W.prune' [3, 6, 7, 8] [Value.int .i64 0, Value.slice a 3 cap, Value.int .i64 3, Value.int .i64 0] (by kernel_rfl) (fun f9 => ?_)
  refine W.seq (fun K10 hK10 => ?_)
  refine W.block ?_
  refine W.seq (fun K11 hK11 => ?_)
  refine W.region ?_
  refine Wl.ys (v := Value.pointer (some (ela a 0))) rfl rfl (Ys.byMem fun w_ h_ => Ys.indexAddr (k := .i64) (a := a) (len := 3) (cap := cap) (i := 0) (sz := 1) rfl (by kernel_rfl) (by kernel_rfl) Try.runUnderlying172 Try.sizeOf3 (by decide) (by decide) ((hat.mem0 h_).here (by first | (simp; done) | (simp; omega)))) ?_
  refine Wl.ys (v := Value.int .i64 x) rfl rfl (Ys.ld (a := ela a 0) rfl (by kernel_rfl) Try.isAgg3 (fun w_ h_ => (hat.mem0 h_).ld (v := Value.int .i64 x) rfl)) ?_
  refine Wl.run 1 (by kernel_rfl) ?_
  refine Wl.nil ?_
  refine hK11 _ _ _ ?_
  refine W.prune' [3, 5, 6, 7, 8] [Value.int .i64 0, Value.int .i64 x, Value.slice a 3 cap, Value.int .i64 3, Value.int .i64 0] (by kernel_rfl) (fun f12 => ?_)
  refine W.seq (fun K13 hK13 => ?_)
  refine W.region ?_
  refine Wl.run 3 (by kernel_rfl) ?_
  refine Wl.nil ?_
  refine hK13 _ _ _ ?_
  refine W.prune' [3, 5, 6, 7, 8, 14] [Value.int .i64 0, Value.int .i64 x, Value.slice a 3 cap, Value.int .i64 3, Value.int .i64 0, Value.bool (x != 0)] (by kernel_rfl) (fun f14 => ?_)
  refine W.cond (x != 0) (by kernel_rfl) (fun h15 => ?_) (fun h16 => ?_)
  · have qh15 := h15; try simp only [Bool.and_eq_true, Bool.or_eq_true, Bool.not_eq_true', Bool.not_eq_false', Bool.and_eq_false_iff, Bool.or_eq_false_iff, decide_eq_true_eq, decide_eq_false_iff_not, beq_iff_eq, bne_iff_ne, beq_eq_false_iff_ne, bne_eq_false_iff_eq] at qh15
    refine W.seq (fun K17 hK17 => ?_)
    refine W.region ?_
    refine Wl.run 2 (by kernel_rfl) ?_
    refine Wl.nil ?_
    refine hK17 _ _ _ ?_
    refine W.prune' [2] [Value.int .i64 x] (by kernel_rfl) (fun f18 => ?_)
    refine W.ret ?_
    show ∀ w_, _ → bodyPostM (fence none) 0 Try.prog Try.f85 _ Exit.ret _ w_
    exact fun w_ hS_ => fin_ret (ret1 rfl (RV.tmp (v := Value.int .i64 x) (by kernel_rfl)) hS_ ⟨by clear hK1 hK2 hK3 hK4 hJ6 hK7 hK8 hK10 hK11 hK13 hK17; refine congrArg Ending.returned ?_; have z0_ := h15; simp at z0_; simp [or3, *], hS_.below⟩)
  · have qh16 := h16; try simp only [Bool.and_eq_true, Bool.or_eq_true, Bool.not_eq_true', Bool.not_eq_false', Bool.and_eq_false_iff, Bool.or_eq_false_iff, decide_eq_true_eq, decide_eq_false_iff_not, beq_iff_eq, bne_iff_ne, beq_eq_false_iff_ne, bne_eq_false_iff_eq] at qh16
    refine W.skip' ?_
    refine hK10 _ _ _ ?_
    refine W.prune' [3, 6, 7, 8] [Value.int .i64 0, Value.slice a 3 cap, Value.int .i64 3, Value.int .i64 0] (by kernel_rfl) (fun f19 => ?_)
    refine W.region ?_
    refine Wl.run 2 (by kernel_rfl) ?_
    refine Wl.nil ?_
    refine hJ6 _ _ _ ?_
    refine Wr.step (fun J20 hJ20 => ?_)
    refine W.prune' [3, 6, 7, 8] [Value.int .i64 0, Value.slice a 3 cap, Value.int .i64 3, Value.int .i64 1] (by kernel_rfl) (fun f21 => ?_)
    refine W.seq (fun K22 hK22 => ?_)
    refine W.region ?_
    refine Wl.run 1 (by kernel_rfl) ?_
    refine Wl.nil ?_
    refine hK22 _ _ _ ?_
    refine W.seq (fun K23 hK23 => ?_)
    refine W.condT (by kernel_rfl) ?_
    refine W.skip' ?_
    refine hK23 _ _ _ ?_
    refine W.prune' [3, 6, 7, 8] [Value.int .i64 0, Value.slice a 3 cap, Value.int .i64 3, Value.int .i64 1] (by kernel_rfl) (fun f24 => ?_)
    refine W.seq (fun K25 hK25 => ?_)
    refine W.block ?_
    refine W.seq (fun K26 hK26 => ?_)
    refine W.region ?_
    refine Wl.ys (v := Value.pointer (some (ela a 1))) rfl rfl (Ys.byMem fun w_ h_ => Ys.indexAddr (k := .i64) (a := a) (len := 3) (cap := cap) (i := 1) (sz := 1) rfl (by kernel_rfl) (by kernel_rfl) Try.runUnderlying172 Try.sizeOf3 (by decide) (by decide) ((hat.mem0 h_).here (by first | (simp; done) | (simp; omega)))) ?_
    refine Wl.ys (v := Value.int .i64 y) rfl rfl (Ys.ld (a := ela a 1) rfl (by kernel_rfl) Try.isAgg3 (fun w_ h_ => (hat.mem0 h_).ld (v := Value.int .i64 y) rfl)) ?_
    refine Wl.run 1 (by kernel_rfl) ?_
    refine Wl.nil ?_
    refine hK26 _ _ _ ?_
    refine W.prune' [3, 5, 6, 7, 8] [Value.int .i64 0, Value.int .i64 y, Value.slice a 3 cap, Value.int .i64 3, Value.int .i64 1] (by kernel_rfl) (fun f27 => ?_)
    refine W.seq (fun K28 hK28 => ?_)
    refine W.region ?_
    refine Wl.run 3 (by kernel_rfl) ?_
    refine Wl.nil ?_
    refine hK28 _ _ _ ?_
    refine W.prune' [3, 5, 6, 7, 8, 14] [Value.int .i64 0, Value.int .i64 y, Value.slice a 3 cap, Value.int .i64 3, Value.int .i64 1, Value.bool (y != 0)] (by kernel_rfl) (fun f29 => ?_)
    refine W.cond (y != 0) (by kernel_rfl) (fun h30 => ?_) (fun h31 => ?_)
    · have qh30 := h30; try simp only [Bool.and_eq_true, Bool.or_eq_true, Bool.not_eq_true', Bool.not_eq_false', Bool.and_eq_false_iff, Bool.or_eq_false_iff, decide_eq_true_eq, decide_eq_false_iff_not, beq_iff_eq, bne_iff_ne, beq_eq_false_iff_ne, bne_eq_false_iff_eq] at qh30
      refine W.seq (fun K32 hK32 => ?_)
      refine W.region ?_
      refine Wl.run 2 (by kernel_rfl) ?_
      refine Wl.nil ?_
      refine hK32 _ _ _ ?_
      refine W.prune' [2] [Value.int .i64 y] (by kernel_rfl) (fun f33 => ?_)
      refine W.ret ?_
      show ∀ w_, _ → bodyPostM (fence none) 0 Try.prog Try.f85 _ Exit.ret _ w_
      exact fun w_ hS_ => fin_ret (ret1 rfl (RV.tmp (v := Value.int .i64 y) (by kernel_rfl)) hS_ ⟨by clear hK1 hK2 hK3 hK4 hJ6 hK7 hK8 hK10 hK11 hK13 hJ20 hK22 hK23 hK25 hK26 hK28 hK32; refine congrArg Ending.returned ?_; have z0_ := h16; have z1_ := h30; simp at z0_ z1_; simp [or3, *], hS_.below⟩)
    · have qh31 := h31; try simp only [Bool.and_eq_true, Bool.or_eq_true, Bool.not_eq_true', Bool.not_eq_false', Bool.and_eq_false_iff, Bool.or_eq_false_iff, decide_eq_true_eq, decide_eq_false_iff_not, beq_iff_eq, bne_iff_ne, beq_eq_false_iff_ne, bne_eq_false_iff_eq] at qh31
      refine W.skip' ?_
      refine hK25 _ _ _ ?_
      refine W.prune' [3, 6, 7, 8] [Value.int .i64 0, Value.slice a 3 cap, Value.int .i64 3, Value.int .i64 1] (by kernel_rfl) (fun f34 => ?_)
      refine W.region ?_
      refine Wl.run 2 (by kernel_rfl) ?_
      refine Wl.nil ?_
      refine hJ20 _ _ _ ?_
      refine Wr.step (fun J35 hJ35 => ?_)
      refine W.prune' [3, 6, 7, 8] [Value.int .i64 0, Value.slice a 3 cap, Value.int .i64 3, Value.int .i64 2] (by kernel_rfl) (fun f36 => ?_)
      refine W.seq (fun K37 hK37 => ?_)
      refine W.region ?_
      refine Wl.run 1 (by kernel_rfl) ?_
      refine Wl.nil ?_
      refine hK37 _ _ _ ?_
      refine W.seq (fun K38 hK38 => ?_)
      refine W.condT (by kernel_rfl) ?_
      refine W.skip' ?_
      refine hK38 _ _ _ ?_
      refine W.prune' [3, 6, 7, 8] [Value.int .i64 0, Value.slice a 3 cap, Value.int .i64 3, Value.int .i64 2] (by kernel_rfl) (fun f39 => ?_)
      refine W.seq (fun K40 hK40 => ?_)
      refine W.block ?_
      refine W.seq (fun K41 hK41 => ?_)
      refine W.region ?_
      refine Wl.ys (v := Value.pointer (some (ela a 2))) rfl rfl (Ys.byMem fun w_ h_ => Ys.indexAddr (k := .i64) (a := a) (len := 3) (cap := cap) (i := 2) (sz := 1) rfl (by kernel_rfl) (by kernel_rfl) Try.runUnderlying172 Try.sizeOf3 (by decide) (by decide) ((hat.mem0 h_).here (by first | (simp; done) | (simp; omega)))) ?_
      refine Wl.ys (v := Value.int .i64 z) rfl rfl (Ys.ld (a := ela a 2) rfl (by kernel_rfl) Try.isAgg3 (fun w_ h_ => (hat.mem0 h_).ld (v := Value.int .i64 z) rfl)) ?_
      refine Wl.run 1 (by kernel_rfl) ?_
      refine Wl.nil ?_
      refine hK41 _ _ _ ?_
      refine W.prune' [3, 5, 6, 7, 8] [Value.int .i64 0, Value.int .i64 z, Value.slice a 3 cap, Value.int .i64 3, Value.int .i64 2] (by kernel_rfl) (fun f42 => ?_)
      refine W.seq (fun K43 hK43 => ?_)
      refine W.region ?_
      refine Wl.run 3 (by kernel_rfl) ?_
      refine Wl.nil ?_
      refine hK43 _ _ _ ?_
      refine W.prune' [3, 5, 6, 7, 8, 14] [Value.int .i64 0, Value.int .i64 z, Value.slice a 3 cap, Value.int .i64 3, Value.int .i64 2, Value.bool (z != 0)] (by kernel_rfl) (fun f44 => ?_)
      refine W.cond (z != 0) (by kernel_rfl) (fun h45 => ?_) (fun h46 => ?_)
      · have qh45 := h45; try simp only [Bool.and_eq_true, Bool.or_eq_true, Bool.not_eq_true', Bool.not_eq_false', Bool.and_eq_false_iff, Bool.or_eq_false_iff, decide_eq_true_eq, decide_eq_false_iff_not, beq_iff_eq, bne_iff_ne, beq_eq_false_iff_ne, bne_eq_false_iff_eq] at qh45
        refine W.seq (fun K47 hK47 => ?_)
        refine W.region ?_
        refine Wl.run 2 (by kernel_rfl) ?_
        refine Wl.nil ?_
        refine hK47 _ _ _ ?_
        refine W.prune' [2] [Value.int .i64 z] (by kernel_rfl) (fun f48 => ?_)
        refine W.ret ?_
        show ∀ w_, _ → bodyPostM (fence none) 0 Try.prog Try.f85 _ Exit.ret _ w_
        exact fun w_ hS_ => fin_ret (ret1 rfl (RV.tmp (v := Value.int .i64 z) (by kernel_rfl)) hS_ ⟨by clear hK1 hK2 hK3 hK4 hJ6 hK7 hK8 hK10 hK11 hK13 hJ20 hK22 hK23 hK25 hK26 hK28 hJ35 hK37 hK38 hK40 hK41 hK43 hK47; refine congrArg Ending.returned ?_; have z0_ := h16; have z1_ := h31; have z2_ := h45; simp at z0_ z1_ z2_; simp [or3, *], hS_.below⟩)
      · have qh46 := h46; try simp only [Bool.and_eq_true, Bool.or_eq_true, Bool.not_eq_true', Bool.not_eq_false', Bool.and_eq_false_iff, Bool.or_eq_false_iff, decide_eq_true_eq, decide_eq_false_iff_not, beq_iff_eq, bne_iff_ne, beq_eq_false_iff_ne, bne_eq_false_iff_eq] at qh46
        refine W.skip' ?_
        refine hK40 _ _ _ ?_
        refine W.prune' [3, 6, 7, 8] [Value.int .i64 0, Value.slice a 3 cap, Value.int .i64 3, Value.int .i64 2] (by kernel_rfl) (fun f49 => ?_)
        refine W.region ?_
        refine Wl.run 2 (by kernel_rfl) ?_
        refine Wl.nil ?_
        refine hJ35 _ _ _ ?_
        refine Wr.step (fun J50 hJ50 => ?_)
        refine W.prune' [3, 6, 7, 8] [Value.int .i64 0, Value.slice a 3 cap, Value.int .i64 3, Value.int .i64 3] (by kernel_rfl) (fun f51 => ?_)
        refine W.seq (fun K52 hK52 => ?_)
        refine W.region ?_
        refine Wl.run 1 (by kernel_rfl) ?_
        refine Wl.nil ?_
        refine hK52 _ _ _ ?_
        refine W.seq (fun K53 hK53 => ?_)
        refine W.condF (by kernel_rfl) ?_
        refine W.exit ?_
        refine hK3 _ _ _ ?_
        refine W.prune' [3] [Value.int .i64 0] (by kernel_rfl) (fun f54 => ?_)
        refine W.seq (fun K55 hK55 => ?_)
        refine W.region ?_
        refine Wl.run 2 (by kernel_rfl) ?_
        refine Wl.nil ?_
        refine hK55 _ _ _ ?_
        refine W.prune' [2] [Value.int .i64 0] (by kernel_rfl) (fun f56 => ?_)
        refine W.ret ?_
        show ∀ w_, _ → bodyPostM (fence none) 0 Try.prog Try.f85 _ Exit.ret _ w_
        exact fun w_ hS_ => fin_ret (ret1 rfl (RV.tmp (v := Value.int .i64 0) (by kernel_rfl)) hS_ ⟨by clear hK1 hK2 hK3 hK4 hJ6 hK7 hK8 hK10 hK11 hK13 hJ20 hK22 hK23 hK25 hK26 hK28 hJ35 hK37 hK38 hK40 hK41 hK43 hJ50 hK52 hK53 hK55; refine congrArg Ending.returned ?_; have z0_ := h16; have z1_ := h31; have z2_ := h46; simp at z0_ z1_ z2_; simp [or3, *], hS_.below⟩)

theorem ordm_c (a b : Int × Int × Int) (w : World) : Calls Try.prog 52 #[Value.agg ([Value.int .u8 a.1, Value.int .u16 a.2.1, Value.int .u32 a.2.2]).toArray, Value.agg ([Value.int .u8 b.1, Value.int .u16 b.2.1, Value.int .u32 b.2.2]).toArray] w (Ret w (.int .i64 (LO.cmp ordM a b))) := by
  refine calls_W (M := []) (LL := []) (n := 22) Try.func52 rfl rfl (by simp) (Mem.refl _) ?_
  refine W.seq (fun K1 hK1 => ?_)
  refine W.region ?_
  refine Wl.ht rfl (Ht.box (v := Value.agg ([Value.int .u8 a.1, Value.int .u16 a.2.1, Value.int .u32 a.2.2]).toArray) (cs := [Value.int .u8 a.1, Value.int .u16 a.2.1, Value.int .u32 a.2.2]) rfl rfl (by kernel_rfl) rfl) (fun p2 => ?_)
  refine Wl.ht rfl (Ht.box (v := Value.agg ([Value.int .u8 b.1, Value.int .u16 b.2.1, Value.int .u32 b.2.2]).toArray) (cs := [Value.int .u8 b.1, Value.int .u16 b.2.1, Value.int .u32 b.2.2]) rfl rfl (by kernel_rfl) rfl) (fun p3 => ?_)
  refine Wl.run 1 (by kernel_rfl) ?_
  refine Wl.nil ?_
  refine hK1 _ _ _ ?_
  refine W.prune' [2, 3] [Value.pointer (some ⟨p2, 0, none⟩), Value.pointer (some ⟨p3, 0, none⟩)] (by kernel_rfl) (fun f2 => ?_)
  refine W.seq (fun K3 hK3 => ?_)
  refine W.draws [(0, true), (1, true), (2, true), (3, true), (5, true), (6, true), (7, true), (8, true), (10, true), (11, true), (12, true), (13, true), (4, false), (9, false), (14, false), (15, false), (16, false), (17, false)] [0, 1, 2, 3, 5, 6, 7, 8, 10, 11, 12, 13] (Mem w [] [[cb p3 [Value.int .u8 b.1, Value.int .u16 b.2.1, Value.int .u32 b.2.2] 115], [cb p2 [Value.int .u8 a.1, Value.int .u16 a.2.1, Value.int .u32 a.2.2] 115]]) (by kernel_rfl) (by kernel_rfl) (by kernel_rfl) rfl (by kernel_rfl) (fun _ _ h_ => h_.drawn _) (fun _ h_ => h_) ?_
  refine Wd.run 1 (by kernel_rfl) ?_
  refine Wd.ys (v := Value.int .u8 a.1) rfl rfl rfl (Ys.load (b := p2) (o' := 0) (i := 1) (j := 0) (cs := [Value.int .u8 a.1, Value.int .u16 a.2.1, Value.int .u32 a.2.2]) (v := Value.int .u8 a.1) rfl (by kernel_rfl) Try.isAgg5 rfl rfl rfl) ?_
  refine Wd.run 1 (by kernel_rfl) ?_
  refine Wd.ys (v := Value.int .u8 b.1) rfl rfl rfl (Ys.load (b := p3) (o' := 0) (i := 0) (j := 0) (cs := [Value.int .u8 b.1, Value.int .u16 b.2.1, Value.int .u32 b.2.2]) (v := Value.int .u8 b.1) rfl (by kernel_rfl) Try.isAgg5 rfl rfl rfl) ?_
  refine Wd.run 1 (by kernel_rfl) ?_
  refine Wd.ys (v := Value.int .u16 a.2.1) rfl rfl rfl (Ys.load (b := p2) (o' := 1) (i := 1) (j := 0) (cs := [Value.int .u8 a.1, Value.int .u16 a.2.1, Value.int .u32 a.2.2]) (v := Value.int .u16 a.2.1) rfl (by kernel_rfl) Try.isAgg29 rfl rfl rfl) ?_
  refine Wd.run 1 (by kernel_rfl) ?_
  refine Wd.ys (v := Value.int .u16 b.2.1) rfl rfl rfl (Ys.load (b := p3) (o' := 1) (i := 0) (j := 0) (cs := [Value.int .u8 b.1, Value.int .u16 b.2.1, Value.int .u32 b.2.2]) (v := Value.int .u16 b.2.1) rfl (by kernel_rfl) Try.isAgg29 rfl rfl rfl) ?_
  refine Wd.run 1 (by kernel_rfl) ?_
  refine Wd.ys (v := Value.int .u32 a.2.2) rfl rfl rfl (Ys.load (b := p2) (o' := 2) (i := 1) (j := 0) (cs := [Value.int .u8 a.1, Value.int .u16 a.2.1, Value.int .u32 a.2.2]) (v := Value.int .u32 a.2.2) rfl (by kernel_rfl) Try.isAgg25 rfl rfl rfl) ?_
  refine Wd.run 1 (by kernel_rfl) ?_
  refine Wd.ys (v := Value.int .u32 b.2.2) rfl rfl rfl (Ys.load (b := p3) (o' := 2) (i := 0) (j := 0) (cs := [Value.int .u8 b.1, Value.int .u16 b.2.1, Value.int .u32 b.2.2]) (v := Value.int .u32 b.2.2) rfl (by kernel_rfl) Try.isAgg25 rfl rfl rfl) ?_
  refine Wd.yc (v := Value.int .i64 (LO.cmp LO.int a.1 b.1)) rfl rfl rfl (Yc.call (k := 86) (args := #[Value.int .u8 a.1, Value.int .u8 b.1]) (fun _ => by kernel_rfl) (fun w_ hm_ => (cmpm8_c a.1 b.1 _))) (.inr fun _ h_ => h_) ?_
  refine Wd.yc (v := Value.int .i64 (LO.cmp LO.int a.2.1 b.2.1)) rfl rfl rfl (Yc.call (k := 87) (args := #[Value.int .u16 a.2.1, Value.int .u16 b.2.1]) (fun _ => by kernel_rfl) (fun w_ hm_ => (cmpm16_c a.2.1 b.2.1 _))) (.inr fun _ h_ => h_) ?_
  refine Wd.yc (v := Value.int .i64 (LO.cmp LO.int a.2.2 b.2.2)) rfl rfl rfl (Yc.call (k := 37) (args := #[Value.int .u32 a.2.2, Value.int .u32 b.2.2]) (fun _ => by kernel_rfl) (fun w_ hm_ => (cmpm32_c a.2.2 b.2.2 _))) (.inr fun _ h_ => h_) ?_
  refine Wd.ht rfl rfl (Ht.made (mk := fun b_ => .slice (some ⟨b_, 0, none⟩) 3 3) (t := 3) (cs := [Value.int .i64 (LO.cmp LO.int a.1 b.1), Value.int .i64 (LO.cmp LO.int a.2.1 b.2.1), Value.int .i64 (LO.cmp LO.int a.2.2 b.2.2)]) rfl (fun _ => by kernel_rfl)) (.inr fun _ _ h_ => h_.pick [1, 2] (by decide) rfl) (fun p20 => ?_)
  refine Wd.yc (v := Value.int .i64 (or3 (LO.cmp LO.int a.1 b.1) (LO.cmp LO.int a.2.1 b.2.1) (LO.cmp LO.int a.2.2 b.2.2))) rfl rfl rfl (Yc.call (k := 85) (args := #[Value.slice (some ⟨p20, 0, none⟩) 3 3]) (fun _ => by kernel_rfl) (fun w_ hm_ => (or3_c (LO.cmp LO.int a.1 b.1) (LO.cmp LO.int a.2.1 b.2.1) (LO.cmp LO.int a.2.2 b.2.2) (some ⟨p20, 0, none⟩) 3 _ (At.lit0 (i := 0) (j := 0) (t := 3) (b := p20) hm_ rfl rfl)))) (.inr fun _ h_ => h_.pick [1, 2] (by decide) rfl) ?_
  refine Wd.yc (v := Value.int .i64 (or3 (LO.cmp LO.int a.1 b.1) (LO.cmp LO.int a.2.1 b.2.1) (LO.cmp LO.int a.2.2 b.2.2))) rfl rfl rfl (Ys.yc (Ys.pure (fun _ => by kernel_rfl))) (.inl (by kernel_rfl)) ?_
  refine Wd.nil ?_
  refine hK3 _ _ _ ?_
  refine W.pick (LL' := []) [] (by decide) rfl ?_
  refine W.prune' [4] [Value.int .i64 (or3 (LO.cmp LO.int a.1 b.1) (LO.cmp LO.int a.2.1 b.2.1) (LO.cmp LO.int a.2.2 b.2.2))] (by kernel_rfl) (fun f4 => ?_)
  refine W.ret ?_
  show ∀ w_, _ → bodyPostM (fence none) 0 Try.prog Try.f52 _ Exit.ret _ w_
  exact fun w_ hS_ => fin_ret (ret1 rfl (RV.tmp (v := Value.int .i64 (or3 (LO.cmp LO.int a.1 b.1) (LO.cmp LO.int a.2.1 b.2.1) (LO.cmp LO.int a.2.2 b.2.2))) (by kernel_rfl)) hS_ ⟨by clear hK1 hK3; refine congrArg Ending.returned ?_; rw [or3_ord], hS_.below⟩)

theorem fcmpM_c (x : (Int × Int × Int) × (Ent)) (k : Int × Int × Int) (a : Option Addr) (n cap : Nat) (most : Int) (tb pt : Nat) (w : World) (hpt : At w (some ⟨pt, 0, none⟩) [Value.pointer (some ⟨tb, 0, none⟩)]) (htb : At w (some ⟨tb, 0, none⟩) [Value.slice a n cap, Value.int .i64 most, Value.func (.func 52) #[] #[]]) : Calls Try.prog 114 #[Value.agg ([Value.int .u8 x.1.1, Value.int .u16 x.1.2.1, Value.int .u32 x.1.2.2, Value.int .u8 x.2.proto, Value.int .u16 x.2.ext, Value.int .u16 x.2.to, Value.int .u32 x.2.remote, Value.int .u32 x.2.host, Value.bool x.2.on, Value.string x.2.words, Value.int .u64 x.2.ends]).toArray, Value.agg ([Value.int .u8 k.1, Value.int .u16 k.2.1, Value.int .u32 k.2.2]).toArray, Value.pointer (some ⟨pt, 0, none⟩)] w (Ret w (.int .i64 (LO.cmp ordM x.1 k))) := by
  refine calls_W (M := []) (LL := []) (n := 14) Try.func114 rfl rfl (by simp) (Mem.refl _) ?_
  refine W.seq (fun K1 hK1 => ?_)
  refine W.region ?_
  refine Wl.ht rfl (Ht.box (v := Value.agg ([Value.int .u8 x.1.1, Value.int .u16 x.1.2.1, Value.int .u32 x.1.2.2, Value.int .u8 x.2.proto, Value.int .u16 x.2.ext, Value.int .u16 x.2.to, Value.int .u32 x.2.remote, Value.int .u32 x.2.host, Value.bool x.2.on, Value.string x.2.words, Value.int .u64 x.2.ends]).toArray) (cs := [Value.int .u8 x.1.1, Value.int .u16 x.1.2.1, Value.int .u32 x.1.2.2, Value.int .u8 x.2.proto, Value.int .u16 x.2.ext, Value.int .u16 x.2.to, Value.int .u32 x.2.remote, Value.int .u32 x.2.host, Value.bool x.2.on, Value.string x.2.words, Value.int .u64 x.2.ends]) rfl rfl (by kernel_rfl) rfl) (fun p3 => ?_)
  refine Wl.ht rfl (Ht.box (v := Value.agg ([Value.int .u8 k.1, Value.int .u16 k.2.1, Value.int .u32 k.2.2]).toArray) (cs := [Value.int .u8 k.1, Value.int .u16 k.2.1, Value.int .u32 k.2.2]) rfl rfl (by kernel_rfl) rfl) (fun p4 => ?_)
  refine Wl.run 1 (by kernel_rfl) ?_
  refine Wl.nil ?_
  refine hK1 _ _ _ ?_
  refine W.prune' [2, 3, 4] [Value.pointer (some ⟨pt, 0, none⟩), Value.pointer (some ⟨p3, 0, none⟩), Value.pointer (some ⟨p4, 0, none⟩)] (by kernel_rfl) (fun f2 => ?_)
  refine W.seq (fun K3 hK3 => ?_)
  refine W.draws [(0, true), (1, true), (2, true), (3, true), (4, true), (5, true), (6, false), (7, false), (8, false)] [0, 1, 2, 3, 4, 5] (Mem w [] [[cb p4 [Value.int .u8 k.1, Value.int .u16 k.2.1, Value.int .u32 k.2.2] 115], [cb p3 [Value.int .u8 x.1.1, Value.int .u16 x.1.2.1, Value.int .u32 x.1.2.2, Value.int .u8 x.2.proto, Value.int .u16 x.2.ext, Value.int .u16 x.2.to, Value.int .u32 x.2.remote, Value.int .u32 x.2.host, Value.bool x.2.on, Value.string x.2.words, Value.int .u64 x.2.ends] 161]]) (by kernel_rfl) (by kernel_rfl) (by kernel_rfl) rfl (by kernel_rfl) (fun _ _ h_ => h_.drawn _) (fun _ h_ => h_) ?_
  refine Wd.ys (v := Value.pointer (some ⟨tb, 0, none⟩)) rfl rfl rfl (Ys.ld (a := ⟨pt, 0, none⟩) rfl (by kernel_rfl) Try.isAgg112 (fun w_ h_ => by have x_ := (hpt.mem0 h_).ld (q := 0) (v := Value.pointer (some ⟨tb, 0, none⟩)) rfl; rw [ela_own0] at x_; exact x_)) ?_
  refine Wd.run 2 (by kernel_rfl) ?_
  refine Wd.ys (v := Value.func (.func 52) #[] #[]) rfl rfl rfl (Ys.ld (a := ⟨tb, 2, none⟩) rfl (by kernel_rfl) Try.isAgg116 (fun w_ h_ => by have x_ := (htb.mem0 h_).ld (q := 2) (v := Value.func (.func 52) #[] #[]) rfl; rw [ela_own0] at x_; exact x_)) ?_
  refine Wd.run 1 (by kernel_rfl) ?_
  refine Wd.ys (v := Value.agg ([Value.int .u8 x.1.1, Value.int .u16 x.1.2.1, Value.int .u32 x.1.2.2]).toArray) rfl rfl rfl (Ys.loadN (b := p3) (o' := 0) (i := 1) (j := 0) (cs := [Value.int .u8 x.1.1, Value.int .u16 x.1.2.1, Value.int .u32 x.1.2.2, Value.int .u8 x.2.proto, Value.int .u16 x.2.ext, Value.int .u16 x.2.to, Value.int .u32 x.2.remote, Value.int .u32 x.2.host, Value.bool x.2.on, Value.string x.2.words, Value.int .u64 x.2.ends]) (vs := [Value.int .u8 x.1.1, Value.int .u16 x.1.2.1, Value.int .u32 x.1.2.2]) rfl (by kernel_rfl) Try.isAgg115 Try.sizeOf115 rfl rfl rfl rfl) ?_
  refine Wd.yc (v := Value.agg ([Value.int .u8 k.1, Value.int .u16 k.2.1, Value.int .u32 k.2.2]).toArray) rfl rfl rfl (Ys.yc (Ys.loadN (b := p4) (o' := 0) (i := 0) (j := 0) (cs := [Value.int .u8 k.1, Value.int .u16 k.2.1, Value.int .u32 k.2.2]) (vs := [Value.int .u8 k.1, Value.int .u16 k.2.1, Value.int .u32 k.2.2]) rfl (by kernel_rfl) Try.isAgg115 Try.sizeOf115 rfl rfl rfl rfl)) (.inr fun _ h_ => h_) ?_
  refine Wd.yc (v := Value.int .i64 (LO.cmp ordM x.1 k)) rfl rfl rfl (Yc.call (k := 52) (args := #[Value.agg ([Value.int .u8 x.1.1, Value.int .u16 x.1.2.1, Value.int .u32 x.1.2.2]).toArray, Value.agg ([Value.int .u8 k.1, Value.int .u16 k.2.1, Value.int .u32 k.2.2]).toArray]) (fun _ => by kernel_rfl) (fun w_ hm_ => (ordm_c x.1 k _))) (.inr fun _ h_ => h_) ?_
  refine Wd.yc (v := Value.int .i64 (LO.cmp ordM x.1 k)) rfl rfl rfl (Ys.yc (Ys.pure (fun _ => by kernel_rfl))) (.inl (by kernel_rfl)) ?_
  refine Wd.nil ?_
  refine hK3 _ _ _ ?_
  refine W.pick (LL' := []) [] (by decide) rfl ?_
  refine W.prune' [5] [Value.int .i64 (LO.cmp ordM x.1 k)] (by kernel_rfl) (fun f4 => ?_)
  refine W.ret ?_
  show ∀ w_, _ → bodyPostM (fence none) 0 Try.prog Try.f114 _ Exit.ret _ w_
  exact fun w_ hS_ => fin_ret (ret1 rfl (RV.tmp (v := Value.int .i64 (LO.cmp ordM x.1 k)) (by kernel_rfl)) hS_ ⟨rfl, hS_.below⟩)

theorem hasCM {xs : List ((Int × Int × Int) × (Ent))} {k : Int × Int × Int} (hs : Srt ordM xs) : ((decide (((posK ordM xs k : Nat) : Int) < ((xs.length : Nat) : Int))) && ((LO.cmp ordM (xs.getD (posK ordM xs k) dM).1 k) == 0)) = hasK xs k := by
  rw [← has_code dM hs]
  congr 1
  · exact decide_eq_decide.2 (by omega)
  · rw [Bool.eq_iff_iff, beq_iff_eq, decide_eq_true_eq]; exact LO.cmp_eq _
theorem bsM_c (xs : List ((Int × Int × Int) × (Ent))) (a : Option Addr) (cap : Nat) (most : Int) (tb : Nat) (pt : Nat) (k : Int × Int × Int) (w : World) (hpt : At w (some ⟨pt, 0, none⟩) [Value.pointer (some ⟨tb, 0, none⟩)]) (htb : At w (some ⟨tb, 0, none⟩) [Value.slice a xs.length cap, Value.int .i64 most, Value.func (.func 52) #[] #[]]) (hls : At w a (mm prM xs)) (hn : xs.length ≤ 100000) (hs : Srt ordM xs) : Calls Try.prog 113 #[Value.slice a xs.length cap, Value.agg ([Value.int .u8 k.1, Value.int .u16 k.2.1, Value.int .u32 k.2.2]).toArray, Value.func (.func 114) #[] #[Value.pointer (some ⟨pt, 0, none⟩)]] w (Ret w (Value.tuple #[Value.int .i64 ((posK ordM xs k : Nat) : Int), Value.bool (hasK xs k)])) := by
  refine calls_W (M := []) (LL := []) (n := 49) Try.func113 rfl rfl (by simp) (Mem.refl _) ?_
  refine W.seq (fun K1 hK1 => ?_)
  refine W.region ?_
  refine Wl.ht rfl (Ht.box (v := Value.agg ([Value.int .u8 k.1, Value.int .u16 k.2.1, Value.int .u32 k.2.2]).toArray) (cs := [Value.int .u8 k.1, Value.int .u16 k.2.1, Value.int .u32 k.2.2]) rfl rfl (by kernel_rfl) rfl) (fun p4 => ?_)
  refine Wl.run 2 (by kernel_rfl) ?_
  refine Wl.nil ?_
  refine hK1 _ _ _ ?_
  refine W.prune' [0, 2, 4] [Value.slice a xs.length cap, Value.func (.func 114) #[] #[Value.pointer (some ⟨pt, 0, none⟩)], Value.pointer (some ⟨p4, 0, none⟩)] (by kernel_rfl) (fun f2 => ?_)
  refine W.seq (fun K3 hK3 => ?_)
  refine W.region ?_
  refine Wl.run 3 (by kernel_rfl) ?_
  refine Wl.nil ?_
  refine hK3 _ _ _ ?_
  refine W.prune' [0, 2, 4, 8] [Value.slice a xs.length cap, Value.func (.func 114) #[] #[Value.pointer (some ⟨pt, 0, none⟩)], Value.pointer (some ⟨p4, 0, none⟩), Value.int .i64 ((xs.length : Nat) : Int)] (by kernel_rfl) (fun f4 => ?_)
  refine W.seq (fun K5 hK5 => ?_)
  refine W.region ?_
  refine Wl.run 3 (by kernel_rfl) ?_
  refine Wl.nil ?_
  refine hK5 _ _ _ ?_
  refine W.prune' [0, 2, 4, 8, 9, 10] [Value.slice a xs.length cap, Value.func (.func 114) #[] #[Value.pointer (some ⟨pt, 0, none⟩)], Value.pointer (some ⟨p4, 0, none⟩), Value.int .i64 ((xs.length : Nat) : Int), Value.int .i64 0, Value.int .i64 ((xs.length : Nat) : Int)] (by kernel_rfl) (fun f6 => ?_)
  refine W.seq (fun K7 hK7 => ?_)
  refine W.block ?_
  refine W.loop2 [0, 2, 4, 8, 9, 10] (fun (i : Nat) (j : Nat) => [Value.slice a xs.length cap, Value.func (.func 114) #[] #[Value.pointer (some ⟨pt, 0, none⟩)], Value.pointer (some ⟨p4, 0, none⟩), Value.int .i64 ((xs.length : Nat) : Int), Value.int .i64 ((i : Nat) : Int), Value.int .i64 ((j : Nat) : Int)]) (fun (i : Nat) (j : Nat) => i ≤ posK ordM xs k ∧ posK ordM xs k ≤ j ∧ j ≤ xs.length) (fun (i : Nat) (j : Nat) => [[cb p4 [Value.int .u8 k.1, Value.int .u16 k.2.1, Value.int .u32 k.2.2] 115]]) (fun (i : Nat) (j : Nat) => j - i) 0 xs.length (by kernel_rfl) ⟨(Nat.zero_le _), posK_le, (Nat.le_refl _)⟩ (by rfl) (fun i j f9 J8 hp10 hJ8 => ?_)
  obtain ⟨hi, hj, hjn⟩ := hp10
  refine W.seq (fun K11 hK11 => ?_)
  refine W.seq (fun K12 hK12 => ?_)
  refine W.region ?_
  refine Wl.run 3 (by kernel_rfl) ?_
  refine Wl.nil ?_
  refine hK12 _ _ _ ?_
  refine W.prune' [0, 2, 4, 8, 9, 10, 17] [Value.slice a xs.length cap, Value.func (.func 114) #[] #[Value.pointer (some ⟨pt, 0, none⟩)], Value.pointer (some ⟨p4, 0, none⟩), Value.int .i64 ((xs.length : Nat) : Int), Value.int .i64 ((i : Nat) : Int), Value.int .i64 ((j : Nat) : Int), Value.bool (decide (((i : Nat) : Int) < ((j : Nat) : Int)))] (by kernel_rfl) (fun f13 => ?_)
  refine W.cond (decide (((i : Nat) : Int) < ((j : Nat) : Int))) (by kernel_rfl) (fun h14 => ?_) (fun h15 => ?_)
  · have qh14 := h14; try simp only [Bool.and_eq_true, Bool.or_eq_true, Bool.not_eq_true', Bool.not_eq_false', Bool.and_eq_false_iff, Bool.or_eq_false_iff, decide_eq_true_eq, decide_eq_false_iff_not, beq_iff_eq, bne_iff_ne, beq_eq_false_iff_ne, bne_eq_false_iff_eq] at qh14
    refine W.skip' ?_
    refine hK11 _ _ _ ?_
    refine W.prune' [0, 2, 4, 8, 9, 10] [Value.slice a xs.length cap, Value.func (.func 114) #[] #[Value.pointer (some ⟨pt, 0, none⟩)], Value.pointer (some ⟨p4, 0, none⟩), Value.int .i64 ((xs.length : Nat) : Int), Value.int .i64 ((i : Nat) : Int), Value.int .i64 ((j : Nat) : Int)] (by kernel_rfl) (fun f16 => ?_)
    refine W.block ?_
    refine W.seq (fun K17 hK17 => ?_)
    refine W.region ?_
    refine Wl.run 2 (by kernel_rfl) ?_
    refine Wl.ys (v := Value.int .i64 ((i + j : Nat) : Int)) rfl rfl ((Ys.pure (v := .int .i64 (iadd .i64 ((i : Nat) : Int) ((j : Nat) : Int))) (fun _ => by kernel_rfl)).conseq (int_congr (iadd_eq (by omega) (by omega) (by omega)))) ?_
    refine Wl.ys (v := Value.int .u64 ((i + j : Nat) : Int)) rfl rfl ((Ys.pure (v := .int .u64 (icnv .u64 ((i + j : Nat) : Int))) (fun _ => by kernel_rfl)).conseq (int_congr (wrap_u64 (by omega) (by omega)))) ?_
    refine Wl.ys (v := Value.int .u64 (((i + j) / 2 : Nat) : Int)) rfl rfl ((Ys.pure (v := .int .u64 (ishr .u64 ((i + j : Nat) : Int) ((1 : Nat) : Int))) (fun _ => by kernel_rfl)).conseq (int_congr (ishr_nat (i + j) 1 (by decide)))) ?_
    refine Wl.ys (v := Value.int .i64 (((i + j) / 2 : Nat) : Int)) rfl rfl ((Ys.pure (v := .int .i64 (icnv .i64 (((i + j) / 2 : Nat) : Int))) (fun _ => by kernel_rfl)).conseq (int_congr (wrap_i64 (by omega) (by omega)))) ?_
    refine Wl.run 1 (by kernel_rfl) ?_
    refine Wl.nil ?_
    refine hK17 _ _ _ ?_
    refine W.prune' [0, 2, 4, 8, 9, 10, 11] [Value.slice a xs.length cap, Value.func (.func 114) #[] #[Value.pointer (some ⟨pt, 0, none⟩)], Value.pointer (some ⟨p4, 0, none⟩), Value.int .i64 ((xs.length : Nat) : Int), Value.int .i64 ((i : Nat) : Int), Value.int .i64 ((j : Nat) : Int), Value.int .i64 (((i + j) / 2 : Nat) : Int)] (by kernel_rfl) (fun f18 => ?_)
    refine W.seq (fun K19 hK19 => ?_)
    refine W.draws [(0, true), (1, true), (2, true), (3, true), (4, true), (5, false), (6, false), (7, false)] [0, 1, 2, 3, 4] (Mem w [] [[cb p4 [Value.int .u8 k.1, Value.int .u16 k.2.1, Value.int .u32 k.2.2] 115]]) (by kernel_rfl) (by kernel_rfl) (by kernel_rfl) rfl (by kernel_rfl) (fun _ _ h_ => h_.drawn _) (fun _ h_ => h_) ?_
    refine Wd.run 3 (by kernel_rfl) ?_
    refine Wd.ys (v := Value.pointer (some (ela a (((i + j) / 2) * 11)))) rfl rfl rfl (Ys.byMem fun w_ h_ => Ys.indexAddr (k := .i64) (a := a) (len := xs.length) (cap := cap) (i := (((i + j) / 2 : Nat) : Int)) (sz := 11) rfl (by kernel_rfl) (by kernel_rfl) Try.runUnderlying149 Try.sizeOf161 (by omega) (by omega) ((hls.mem0 h_).here (by rw [mm_len (g := prM) (sz := 11) (fun _ => rfl)]; first | omega | (simp; omega)))) ?_
    refine Wd.ys (v := Value.agg ([Value.int .u8 (((xs.getD ((i + j) / 2) dM).1).1), Value.int .u16 (((xs.getD ((i + j) / 2) dM).1).2.1), Value.int .u32 (((xs.getD ((i + j) / 2) dM).1).2.2), Value.int .u8 (((xs.getD ((i + j) / 2) dM).2).proto), Value.int .u16 (((xs.getD ((i + j) / 2) dM).2).ext), Value.int .u16 (((xs.getD ((i + j) / 2) dM).2).to), Value.int .u32 (((xs.getD ((i + j) / 2) dM).2).remote), Value.int .u32 (((xs.getD ((i + j) / 2) dM).2).host), Value.bool (((xs.getD ((i + j) / 2) dM).2).on), Value.string (((xs.getD ((i + j) / 2) dM).2).words), Value.int .u64 (((xs.getD ((i + j) / 2) dM).2).ends)]).toArray) rfl rfl rfl (Ys.ldN (a := ela a (((i + j) / 2) * 11)) (vs := [Value.int .u8 (((xs.getD ((i + j) / 2) dM).1).1), Value.int .u16 (((xs.getD ((i + j) / 2) dM).1).2.1), Value.int .u32 (((xs.getD ((i + j) / 2) dM).1).2.2), Value.int .u8 (((xs.getD ((i + j) / 2) dM).2).proto), Value.int .u16 (((xs.getD ((i + j) / 2) dM).2).ext), Value.int .u16 (((xs.getD ((i + j) / 2) dM).2).to), Value.int .u32 (((xs.getD ((i + j) / 2) dM).2).remote), Value.int .u32 (((xs.getD ((i + j) / 2) dM).2).host), Value.bool (((xs.getD ((i + j) / 2) dM).2).on), Value.string (((xs.getD ((i + j) / 2) dM).2).words), Value.int .u64 (((xs.getD ((i + j) / 2) dM).2).ends)]) rfl (by kernel_rfl) Try.isAgg161 Try.sizeOf161 rfl (fun w_ h_ => (hls.mem0 h_).ldN (mm_get (g := prM) (sz := 11) (fun _ => rfl) dM (xs := xs) (k := (i + j) / 2) (by omega)))) ?_
    refine Wd.yc (v := Value.agg ([Value.int .u8 k.1, Value.int .u16 k.2.1, Value.int .u32 k.2.2]).toArray) rfl rfl rfl (Ys.yc (Ys.loadN (b := p4) (o' := 0) (i := 0) (j := 0) (cs := [Value.int .u8 k.1, Value.int .u16 k.2.1, Value.int .u32 k.2.2]) (vs := [Value.int .u8 k.1, Value.int .u16 k.2.1, Value.int .u32 k.2.2]) rfl (by kernel_rfl) Try.isAgg115 Try.sizeOf115 rfl rfl rfl rfl)) (.inr fun _ h_ => h_) ?_
    refine Wd.yc (v := Value.int .i64 (LO.cmp ordM ((xs.getD ((i + j) / 2) dM).1) k)) rfl rfl rfl (Yc.call (k := 114) (args := #[Value.agg ([Value.int .u8 (((xs.getD ((i + j) / 2) dM).1).1), Value.int .u16 (((xs.getD ((i + j) / 2) dM).1).2.1), Value.int .u32 (((xs.getD ((i + j) / 2) dM).1).2.2), Value.int .u8 (((xs.getD ((i + j) / 2) dM).2).proto), Value.int .u16 (((xs.getD ((i + j) / 2) dM).2).ext), Value.int .u16 (((xs.getD ((i + j) / 2) dM).2).to), Value.int .u32 (((xs.getD ((i + j) / 2) dM).2).remote), Value.int .u32 (((xs.getD ((i + j) / 2) dM).2).host), Value.bool (((xs.getD ((i + j) / 2) dM).2).on), Value.string (((xs.getD ((i + j) / 2) dM).2).words), Value.int .u64 (((xs.getD ((i + j) / 2) dM).2).ends)]).toArray, Value.agg ([Value.int .u8 k.1, Value.int .u16 k.2.1, Value.int .u32 k.2.2]).toArray, Value.pointer (some ⟨pt, 0, none⟩)]) (fun _ => by kernel_rfl) (fun w_ hm_ => (fcmpM_c (((xs.getD ((i + j) / 2) dM).1), ((xs.getD ((i + j) / 2) dM).2)) k a xs.length cap most tb pt _ (hpt.mem0 hm_) (htb.mem0 hm_)))) (.inr fun _ h_ => h_) ?_
    refine Wd.yc (v := Value.bool (decide ((LO.cmp ordM ((xs.getD ((i + j) / 2) dM).1) k) < 0))) rfl rfl rfl (Ys.yc (Ys.pure (fun _ => by kernel_rfl))) (.inr fun _ h_ => h_) ?_
    refine Wd.nil ?_
    refine hK19 _ _ _ ?_
    refine W.prune' [0, 2, 4, 8, 9, 10, 11, 31] [Value.slice a xs.length cap, Value.func (.func 114) #[] #[Value.pointer (some ⟨pt, 0, none⟩)], Value.pointer (some ⟨p4, 0, none⟩), Value.int .i64 ((xs.length : Nat) : Int), Value.int .i64 ((i : Nat) : Int), Value.int .i64 ((j : Nat) : Int), Value.int .i64 (((i + j) / 2 : Nat) : Int), Value.bool (decide ((LO.cmp ordM ((xs.getD ((i + j) / 2) dM).1) k) < 0))] (by kernel_rfl) (fun f20 => ?_)
    refine W.cond (decide ((LO.cmp ordM ((xs.getD ((i + j) / 2) dM).1) k) < 0)) (by kernel_rfl) (fun h21 => ?_) (fun h22 => ?_)
    · have qh21 := h21; try simp only [Bool.and_eq_true, Bool.or_eq_true, Bool.not_eq_true', Bool.not_eq_false', Bool.and_eq_false_iff, Bool.or_eq_false_iff, decide_eq_true_eq, decide_eq_false_iff_not, beq_iff_eq, bne_iff_ne, beq_eq_false_iff_ne, bne_eq_false_iff_eq] at qh21
      refine W.region ?_
      refine Wl.run 1 (by kernel_rfl) ?_
      refine Wl.ys (v := Value.int .i64 ((((i + j) / 2) + 1 : Nat) : Int)) rfl rfl ((Ys.pure (v := .int .i64 (iadd .i64 (((i + j) / 2 : Nat) : Int) 1)) (fun _ => by kernel_rfl)).conseq (int_congr (iadd_eq (by omega) (by omega) (by omega)))) ?_
      refine Wl.run 1 (by kernel_rfl) ?_
      refine Wl.nil ?_
      have hps_ := posK_spec dM (k := k) hs (h := (i + j) / 2) (by omega)
      have hpl_ := hps_.1 (LO.cmp_lt _ |>.1 qh21)
      refine fun w_ h_ => hJ8 ((i + j) / 2 + 1) j _ w_ (by omega) ⟨(by omega), (by omega), (by omega)⟩ ?_ h_
      kernel_rfl
    · have qh22 := h22; try simp only [Bool.and_eq_true, Bool.or_eq_true, Bool.not_eq_true', Bool.not_eq_false', Bool.and_eq_false_iff, Bool.or_eq_false_iff, decide_eq_true_eq, decide_eq_false_iff_not, beq_iff_eq, bne_iff_ne, beq_eq_false_iff_ne, bne_eq_false_iff_eq] at qh22
      refine W.region ?_
      refine Wl.run 2 (by kernel_rfl) ?_
      refine Wl.nil ?_
      have hps_ := posK_spec dM (k := k) hs (h := (i + j) / 2) (by omega)
      have hpl_ : ¬ ((i + j) / 2 < posK ordM xs k) := fun h_ => qh22 (LO.cmp_lt _ |>.2 (hps_.2 h_))
      refine fun w_ h_ => hJ8 i ((i + j) / 2) _ w_ (by omega) ⟨(by omega), (by omega), (by omega)⟩ ?_ h_
      kernel_rfl
  · have qh15 := h15; try simp only [Bool.and_eq_true, Bool.or_eq_true, Bool.not_eq_true', Bool.not_eq_false', Bool.and_eq_false_iff, Bool.or_eq_false_iff, decide_eq_true_eq, decide_eq_false_iff_not, beq_iff_eq, bne_iff_ne, beq_eq_false_iff_ne, bne_eq_false_iff_eq] at qh15
    refine W.exit ?_
    refine hK7 _ _ _ ?_
    refine W.prune' [0, 2, 4, 8, 9] [Value.slice a xs.length cap, Value.func (.func 114) #[] #[Value.pointer (some ⟨pt, 0, none⟩)], Value.pointer (some ⟨p4, 0, none⟩), Value.int .i64 ((xs.length : Nat) : Int), Value.int .i64 ((i : Nat) : Int)] (by kernel_rfl) (fun f23 => ?_)
    refine W.seq (fun K24 hK24 => ?_)
    refine W.draws [(0, true), (1, true), (2, false), (3, false), (4, false), (5, true), (6, true), (7, true), (8, true), (9, true), (10, false), (11, false), (12, true), (13, true), (14, false), (15, false)] [0, 1, 5, 6, 7, 8, 9, 12, 13] (Mem w [] [[cb p4 [Value.int .u8 k.1, Value.int .u16 k.2.1, Value.int .u32 k.2.2] 115]]) (by kernel_rfl) (by kernel_rfl) (by kernel_rfl) rfl (by kernel_rfl) (fun _ _ h_ => h_.drawn _) (fun _ h_ => h_) ?_
    refine Wd.run 2 (by kernel_rfl) ?_
    refine Wd.yc (v := Value.int .i64 ((xs.length : Nat) : Int)) rfl rfl rfl (Ys.yc (Ys.pure (fun _ => by kernel_rfl))) (.inr fun _ h_ => h_) ?_
    refine Wd.yc (v := Value.bool (decide (((i : Nat) : Int) < ((xs.length : Nat) : Int)))) rfl rfl rfl (Ys.yc (Ys.pure (fun _ => by kernel_rfl))) (.inr fun _ h_ => h_) ?_
    refine Wd.yc (v := Value.bool (decide (((i : Nat) : Int) < ((xs.length : Nat) : Int)))) rfl rfl rfl (Ys.yc (Ys.pure (fun _ => by kernel_rfl))) (.inr fun _ h_ => h_) ?_
    refine Wd.guard (v := Value.func (.func 114) #[] #[Value.pointer (some ⟨pt, 0, none⟩)]) (decide (((i : Nat) : Int) < ((xs.length : Nat) : Int))) rfl (wantT rfl (by kernel_rfl)) rfl (fun hg25 => ?_) ?_
    · have qhg25 := hg25; try simp only [Bool.and_eq_true, Bool.or_eq_true, Bool.not_eq_true', Bool.not_eq_false', Bool.and_eq_false_iff, Bool.or_eq_false_iff, decide_eq_true_eq, decide_eq_false_iff_not, beq_iff_eq, bne_iff_ne, beq_eq_false_iff_ne, bne_eq_false_iff_eq] at qhg25
      exact Ys.pure (fun _ => by kernel_rfl)
    refine Wd.guard (v := Value.slice a xs.length cap) (decide (((i : Nat) : Int) < ((xs.length : Nat) : Int))) rfl (wantT rfl (by kernel_rfl)) rfl (fun hg26 => ?_) ?_
    · have qhg26 := hg26; try simp only [Bool.and_eq_true, Bool.or_eq_true, Bool.not_eq_true', Bool.not_eq_false', Bool.and_eq_false_iff, Bool.or_eq_false_iff, decide_eq_true_eq, decide_eq_false_iff_not, beq_iff_eq, bne_iff_ne, beq_eq_false_iff_ne, bne_eq_false_iff_eq] at qhg26
      exact Ys.pure (fun _ => by kernel_rfl)
    refine Wd.guard (v := Value.int .i64 ((i : Nat) : Int)) (decide (((i : Nat) : Int) < ((xs.length : Nat) : Int))) rfl (wantT rfl (by kernel_rfl)) rfl (fun hg27 => ?_) ?_
    · have qhg27 := hg27; try simp only [Bool.and_eq_true, Bool.or_eq_true, Bool.not_eq_true', Bool.not_eq_false', Bool.and_eq_false_iff, Bool.or_eq_false_iff, decide_eq_true_eq, decide_eq_false_iff_not, beq_iff_eq, bne_iff_ne, beq_eq_false_iff_ne, bne_eq_false_iff_eq] at qhg27
      exact Ys.pure (fun _ => by kernel_rfl)
    refine Wd.guard (v := Value.pointer (some (ela a (i * 11)))) (decide (((i : Nat) : Int) < ((xs.length : Nat) : Int))) rfl (wantT rfl (by kernel_rfl)) rfl (fun hg28 => ?_) ?_
    · have qhg28 := hg28; try simp only [Bool.and_eq_true, Bool.or_eq_true, Bool.not_eq_true', Bool.not_eq_false', Bool.and_eq_false_iff, Bool.or_eq_false_iff, decide_eq_true_eq, decide_eq_false_iff_not, beq_iff_eq, bne_iff_ne, beq_eq_false_iff_ne, bne_eq_false_iff_eq] at qhg28
      refine Ys.at (t := 41) (v0 := Value.slice a xs.length cap) (lz (g := decide (((i : Nat) : Int) < ((xs.length : Nat) : Int))) (u := undef) hg28 (by kernel_rfl)) ?_
      refine Ys.at (t := 42) (v0 := Value.int .i64 ((i : Nat) : Int)) (lz (g := decide (((i : Nat) : Int) < ((xs.length : Nat) : Int))) (u := undef) hg28 (by kernel_rfl)) ?_
      exact Ys.byMem fun w_ h_ => Ys.indexAddr (k := .i64) (a := a) (len := xs.length) (cap := cap) (i := ((i : Nat) : Int)) (sz := 11) rfl (by kernel_rfl) (by kernel_rfl) Try.runUnderlying149 Try.sizeOf161 (by omega) (by omega) ((hls.mem0 h_).here (by rw [mm_len (g := prM) (sz := 11) (fun _ => rfl)]; first | omega | (simp; omega)))
    refine Wd.guard (v := Value.agg ([Value.int .u8 (((xs.getD i dM).1).1), Value.int .u16 (((xs.getD i dM).1).2.1), Value.int .u32 (((xs.getD i dM).1).2.2), Value.int .u8 (((xs.getD i dM).2).proto), Value.int .u16 (((xs.getD i dM).2).ext), Value.int .u16 (((xs.getD i dM).2).to), Value.int .u32 (((xs.getD i dM).2).remote), Value.int .u32 (((xs.getD i dM).2).host), Value.bool (((xs.getD i dM).2).on), Value.string (((xs.getD i dM).2).words), Value.int .u64 (((xs.getD i dM).2).ends)]).toArray) (decide (((i : Nat) : Int) < ((xs.length : Nat) : Int))) rfl (wantT rfl (by kernel_rfl)) rfl (fun hg29 => ?_) ?_
    · have qhg29 := hg29; try simp only [Bool.and_eq_true, Bool.or_eq_true, Bool.not_eq_true', Bool.not_eq_false', Bool.and_eq_false_iff, Bool.or_eq_false_iff, decide_eq_true_eq, decide_eq_false_iff_not, beq_iff_eq, bne_iff_ne, beq_eq_false_iff_ne, bne_eq_false_iff_eq] at qhg29
      refine Ys.at (t := 43) (v0 := Value.pointer (some (ela a (i * 11)))) (lz (g := decide (((i : Nat) : Int) < ((xs.length : Nat) : Int))) (u := undef) hg29 (by kernel_rfl)) ?_
      exact Ys.ldN (a := ela a (i * 11)) (vs := [Value.int .u8 (((xs.getD i dM).1).1), Value.int .u16 (((xs.getD i dM).1).2.1), Value.int .u32 (((xs.getD i dM).1).2.2), Value.int .u8 (((xs.getD i dM).2).proto), Value.int .u16 (((xs.getD i dM).2).ext), Value.int .u16 (((xs.getD i dM).2).to), Value.int .u32 (((xs.getD i dM).2).remote), Value.int .u32 (((xs.getD i dM).2).host), Value.bool (((xs.getD i dM).2).on), Value.string (((xs.getD i dM).2).words), Value.int .u64 (((xs.getD i dM).2).ends)]) rfl (by kernel_rfl) Try.isAgg161 Try.sizeOf161 rfl (fun w_ h_ => (hls.mem0 h_).ldN (mm_get (g := prM) (sz := 11) (fun _ => rfl) dM (xs := xs) (k := i) (by omega)))
    refine Wd.guardc (v := Value.agg ([Value.int .u8 k.1, Value.int .u16 k.2.1, Value.int .u32 k.2.2]).toArray) (decide (((i : Nat) : Int) < ((xs.length : Nat) : Int))) rfl (wantT rfl (by kernel_rfl)) rfl (fun hg30 => ?_) (.inr fun _ h_ => h_) ?_
    · have qhg30 := hg30; try simp only [Bool.and_eq_true, Bool.or_eq_true, Bool.not_eq_true', Bool.not_eq_false', Bool.and_eq_false_iff, Bool.or_eq_false_iff, decide_eq_true_eq, decide_eq_false_iff_not, beq_iff_eq, bne_iff_ne, beq_eq_false_iff_ne, bne_eq_false_iff_eq] at qhg30
      refine Ys.yc ?_
      exact Ys.loadN (b := p4) (o' := 0) (i := 0) (j := 0) (cs := [Value.int .u8 k.1, Value.int .u16 k.2.1, Value.int .u32 k.2.2]) (vs := [Value.int .u8 k.1, Value.int .u16 k.2.1, Value.int .u32 k.2.2]) rfl (by kernel_rfl) Try.isAgg115 Try.sizeOf115 rfl rfl rfl rfl
    refine Wd.guardc (v := Value.int .i64 (LO.cmp ordM ((xs.getD i dM).1) k)) (decide (((i : Nat) : Int) < ((xs.length : Nat) : Int))) rfl (wantT rfl (by kernel_rfl)) rfl (fun hg31 => ?_) (.inr fun _ h_ => h_) ?_
    · have qhg31 := hg31; try simp only [Bool.and_eq_true, Bool.or_eq_true, Bool.not_eq_true', Bool.not_eq_false', Bool.and_eq_false_iff, Bool.or_eq_false_iff, decide_eq_true_eq, decide_eq_false_iff_not, beq_iff_eq, bne_iff_ne, beq_eq_false_iff_ne, bne_eq_false_iff_eq] at qhg31
      refine Yc.at (t := 40) (v0 := Value.func (.func 114) #[] #[Value.pointer (some ⟨pt, 0, none⟩)]) (lz (g := decide (((i : Nat) : Int) < ((xs.length : Nat) : Int))) (u := undef) hg31 (by kernel_rfl)) ?_
      refine Yc.at (t := 44) (v0 := Value.agg ([Value.int .u8 (((xs.getD i dM).1).1), Value.int .u16 (((xs.getD i dM).1).2.1), Value.int .u32 (((xs.getD i dM).1).2.2), Value.int .u8 (((xs.getD i dM).2).proto), Value.int .u16 (((xs.getD i dM).2).ext), Value.int .u16 (((xs.getD i dM).2).to), Value.int .u32 (((xs.getD i dM).2).remote), Value.int .u32 (((xs.getD i dM).2).host), Value.bool (((xs.getD i dM).2).on), Value.string (((xs.getD i dM).2).words), Value.int .u64 (((xs.getD i dM).2).ends)]).toArray) (lz (g := decide (((i : Nat) : Int) < ((xs.length : Nat) : Int))) (u := undef) hg31 (by kernel_rfl)) ?_
      refine Yc.at (t := 45) (v0 := Value.agg ([Value.int .u8 k.1, Value.int .u16 k.2.1, Value.int .u32 k.2.2]).toArray) (lz (g := decide (((i : Nat) : Int) < ((xs.length : Nat) : Int))) (u := undef) hg31 (by kernel_rfl)) ?_
      exact Yc.call (k := 114) (args := #[Value.agg ([Value.int .u8 (((xs.getD i dM).1).1), Value.int .u16 (((xs.getD i dM).1).2.1), Value.int .u32 (((xs.getD i dM).1).2.2), Value.int .u8 (((xs.getD i dM).2).proto), Value.int .u16 (((xs.getD i dM).2).ext), Value.int .u16 (((xs.getD i dM).2).to), Value.int .u32 (((xs.getD i dM).2).remote), Value.int .u32 (((xs.getD i dM).2).host), Value.bool (((xs.getD i dM).2).on), Value.string (((xs.getD i dM).2).words), Value.int .u64 (((xs.getD i dM).2).ends)]).toArray, Value.agg ([Value.int .u8 k.1, Value.int .u16 k.2.1, Value.int .u32 k.2.2]).toArray, Value.pointer (some ⟨pt, 0, none⟩)]) (fun _ => by kernel_rfl) (fun w_ hm_ => (fcmpM_c (((xs.getD i dM).1), ((xs.getD i dM).2)) k a xs.length cap most tb pt _ (hpt.mem0 hm_) (htb.mem0 hm_)))
    refine Wd.guard (v := Value.bool ((LO.cmp ordM ((xs.getD i dM).1) k) == 0)) (decide (((i : Nat) : Int) < ((xs.length : Nat) : Int))) rfl (wantT rfl (by kernel_rfl)) rfl (fun hg32 => ?_) ?_
    · have qhg32 := hg32; try simp only [Bool.and_eq_true, Bool.or_eq_true, Bool.not_eq_true', Bool.not_eq_false', Bool.and_eq_false_iff, Bool.or_eq_false_iff, decide_eq_true_eq, decide_eq_false_iff_not, beq_iff_eq, bne_iff_ne, beq_eq_false_iff_ne, bne_eq_false_iff_eq] at qhg32
      refine Ys.at (t := 46) (v0 := Value.int .i64 (LO.cmp ordM ((xs.getD i dM).1) k)) (lz (g := decide (((i : Nat) : Int) < ((xs.length : Nat) : Int))) (u := undef) hg32 (by kernel_rfl)) ?_
      exact Ys.pure (fun _ => by kernel_rfl)
    refine Wd.ys (v := Value.bool ((decide (((i : Nat) : Int) < ((xs.length : Nat) : Int))) && ((LO.cmp ordM ((xs.getD i dM).1) k) == 0))) rfl rfl rfl (Ys.and (e := decide (((i : Nat) : Int) < ((xs.length : Nat) : Int))) (b := (LO.cmp ordM ((xs.getD i dM).1) k) == 0) rfl (by kernel_rfl) (by kernel_rfl) (by kernel_rfl)) ?_
    refine Wd.yc (v := Value.int .i64 ((i : Nat) : Int)) rfl rfl rfl (Ys.yc (Ys.pure (fun _ => by kernel_rfl))) (.inr fun _ h_ => h_) ?_
    refine Wd.yc (v := Value.bool ((decide (((i : Nat) : Int) < ((xs.length : Nat) : Int))) && ((LO.cmp ordM ((xs.getD i dM).1) k) == 0))) rfl rfl rfl (Ys.yc (Ys.pure (fun _ => by kernel_rfl))) (.inl (by kernel_rfl)) ?_
    refine Wd.nil ?_
    refine hK24 _ _ _ ?_
    refine W.pick (LL' := []) [] (by decide) rfl ?_
    refine W.prune' [6, 7] [Value.int .i64 ((i : Nat) : Int), Value.bool ((decide (((i : Nat) : Int) < ((xs.length : Nat) : Int))) && ((LO.cmp ordM ((xs.getD i dM).1) k) == 0))] (by kernel_rfl) (fun f33 => ?_)
    refine W.ret ?_
    have hip_ : i = posK ordM xs k := by omega
    show ∀ w_, _ → bodyPostM (fence none) 0 Try.prog Try.f113 _ Exit.ret _ w_
    exact fun w_ hS_ => fin_ret (ret2 rfl (RV.tmp (v := Value.int .i64 ((i : Nat) : Int)) (by kernel_rfl)) (RV.tmp (v := Value.bool ((decide (((i : Nat) : Int) < ((xs.length : Nat) : Int))) && ((LO.cmp ordM ((xs.getD i dM).1) k) == 0))) (by kernel_rfl)) hS_ ⟨by clear hK1 hK3 hK5 hK7 hJ8 hK11 hK12 hK24; refine congrArg Ending.returned ?_; rw [hip_]; refine congrArg (fun b => Value.tuple #[_, .bool b]) ?_; exact hasCM hs, hS_.below⟩)

theorem findM_c (xs : List ((Int × Int × Int) × (Ent))) (a : Option Addr) (cap : Nat) (most : Int) (tb : Nat) (k : Int × Int × Int) (w : World) (htb : At w (some ⟨tb, 0, none⟩) [Value.slice a xs.length cap, Value.int .i64 most, Value.func (.func 52) #[] #[]]) (hls : At w a (mm prM xs)) (hn : xs.length ≤ 100000) (hs : Srt ordM xs) : Calls Try.prog 92 #[Value.pointer (some ⟨tb, 0, none⟩), Value.agg ([Value.int .u8 k.1, Value.int .u16 k.2.1, Value.int .u32 k.2.2]).toArray] w (Ret w (Value.tuple #[Value.int .i64 ((posK ordM xs k : Nat) : Int), Value.bool (hasK xs k)])) := by
  refine calls_W (M := []) (LL := []) (n := 15) Try.func92 rfl rfl (by simp) (Mem.refl _) ?_
  refine W.seq (fun K1 hK1 => ?_)
  refine W.region ?_
  refine Wl.ht rfl (Ht.box (v := Value.pointer (some ⟨tb, 0, none⟩)) (cs := [Value.pointer (some ⟨tb, 0, none⟩)]) rfl rfl (by kernel_rfl) rfl) (fun p2 => ?_)
  refine Wl.ht rfl (Ht.box (v := Value.agg ([Value.int .u8 k.1, Value.int .u16 k.2.1, Value.int .u32 k.2.2]).toArray) (cs := [Value.int .u8 k.1, Value.int .u16 k.2.1, Value.int .u32 k.2.2]) rfl rfl (by kernel_rfl) rfl) (fun p3 => ?_)
  refine Wl.run 2 (by kernel_rfl) ?_
  refine Wl.nil ?_
  refine hK1 _ _ _ ?_
  refine W.prune' [2, 3] [Value.pointer (some ⟨p2, 0, none⟩), Value.pointer (some ⟨p3, 0, none⟩)] (by kernel_rfl) (fun f2 => ?_)
  refine W.seq (fun K3 hK3 => ?_)
  refine W.draws [(0, true), (1, true), (2, true), (3, true), (4, true), (5, false), (6, false), (7, true), (8, false), (9, false), (10, false)] [0, 1, 2, 3, 4, 7] (Mem w [] [[cb p3 [Value.int .u8 k.1, Value.int .u16 k.2.1, Value.int .u32 k.2.2] 115], [cb p2 [Value.pointer (some ⟨tb, 0, none⟩)] 112]]) (by kernel_rfl) (by kernel_rfl) (by kernel_rfl) rfl (by kernel_rfl) (fun _ _ h_ => h_.drawn _) (fun _ h_ => h_) ?_
  refine Wd.ys (v := Value.pointer (some ⟨tb, 0, none⟩)) rfl rfl rfl (Ys.load (b := p2) (o' := 0) (i := 1) (j := 0) (cs := [Value.pointer (some ⟨tb, 0, none⟩)]) (v := Value.pointer (some ⟨tb, 0, none⟩)) rfl (by kernel_rfl) Try.isAgg112 rfl rfl rfl) ?_
  refine Wd.run 2 (by kernel_rfl) ?_
  refine Wd.ys (v := Value.slice a xs.length cap) rfl rfl rfl (Ys.ld (a := ⟨tb, 0, none⟩) rfl (by kernel_rfl) Try.isAgg149 (fun w_ h_ => by have x_ := (htb.mem0 h_).ld (q := 0) (v := Value.slice a xs.length cap) rfl; rw [ela_own0] at x_; exact x_)) ?_
  refine Wd.ys (v := Value.agg ([Value.int .u8 k.1, Value.int .u16 k.2.1, Value.int .u32 k.2.2]).toArray) rfl rfl rfl (Ys.loadN (b := p3) (o' := 0) (i := 0) (j := 0) (cs := [Value.int .u8 k.1, Value.int .u16 k.2.1, Value.int .u32 k.2.2]) (vs := [Value.int .u8 k.1, Value.int .u16 k.2.1, Value.int .u32 k.2.2]) rfl (by kernel_rfl) Try.isAgg115 Try.sizeOf115 rfl rfl rfl rfl) ?_
  refine Wd.yc (v := Value.func (.func 114) #[] #[Value.pointer (some ⟨p2, 0, none⟩)]) rfl rfl rfl (Ys.yc (Ys.pure (fun _ => by kernel_rfl))) (.inr fun _ h_ => h_) ?_
  refine Wd.yc (v := Value.tuple #[Value.int .i64 ((posK ordM xs k : Nat) : Int), Value.bool (hasK xs k)]) rfl rfl rfl (Yc.call (k := 113) (args := #[Value.slice a xs.length cap, Value.agg ([Value.int .u8 k.1, Value.int .u16 k.2.1, Value.int .u32 k.2.2]).toArray, Value.func (.func 114) #[] #[Value.pointer (some ⟨p2, 0, none⟩)]]) (fun _ => by kernel_rfl) (fun w_ hm_ => (bsM_c xs a cap most tb p2 k _ (At.lit0 (i := 1) (j := 0) (t := 112) (b := p2) hm_ rfl rfl) (htb.mem0 hm_) (hls.mem0 hm_) (by first | omega | (simp; done)) hs))) (.inr fun _ h_ => h_) ?_
  refine Wd.run 1 (by kernel_rfl) ?_
  refine Wd.yc (v := Value.bool (hasK xs k)) rfl rfl rfl (Ys.yc (Ys.pure (fun _ => by kernel_rfl))) (.inr fun _ h_ => h_) ?_
  refine Wd.yc (v := Value.int .i64 ((posK ordM xs k : Nat) : Int)) rfl rfl rfl (Ys.yc (Ys.pure (fun _ => by kernel_rfl))) (.inl (by kernel_rfl)) ?_
  refine Wd.yc (v := Value.bool (hasK xs k)) rfl rfl rfl (Ys.yc (Ys.pure (fun _ => by kernel_rfl))) (.inl (by kernel_rfl)) ?_
  refine Wd.nil ?_
  refine hK3 _ _ _ ?_
  refine W.pick (LL' := []) [] (by decide) rfl ?_
  refine W.prune' [4, 5] [Value.int .i64 ((posK ordM xs k : Nat) : Int), Value.bool (hasK xs k)] (by kernel_rfl) (fun f4 => ?_)
  refine W.ret ?_
  show ∀ w_, _ → bodyPostM (fence none) 0 Try.prog Try.f92 _ Exit.ret _ w_
  exact fun w_ hS_ => fin_ret (ret2 rfl (RV.tmp (v := Value.int .i64 ((posK ordM xs k : Nat) : Int)) (by kernel_rfl)) (RV.tmp (v := Value.bool (hasK xs k)) (by kernel_rfl)) hS_ ⟨rfl, hS_.below⟩)

theorem lenM_c (xs : List ((Int × Int × Int) × (Ent))) (a : Option Addr) (cap : Nat) (most : Int) (tb : Nat) (w : World) (htb : At w (some ⟨tb, 0, none⟩) [Value.slice a xs.length cap, Value.int .i64 most, Value.func (.func 52) #[] #[]]) (hls : At w a (mm prM xs)) (hn : xs.length ≤ 100000) (hs : Srt ordM xs) : Calls Try.prog 59 #[Value.pointer (some ⟨tb, 0, none⟩)] w (Ret w (Value.int .i64 ((xs.length : Nat) : Int))) := by
  refine calls_W (M := []) (LL := []) (n := 8) Try.func59 rfl rfl (by simp) (Mem.refl _) ?_
  refine W.seq (fun K1 hK1 => ?_)
  refine W.region ?_
  refine Wl.run 1 (by kernel_rfl) ?_
  refine Wl.nil ?_
  refine hK1 _ _ _ ?_
  refine W.seq (fun K2 hK2 => ?_)
  refine W.region ?_
  refine Wl.run 3 (by kernel_rfl) ?_
  refine Wl.ys (v := Value.slice a xs.length cap) rfl rfl (Ys.ld (a := ⟨tb, 0, none⟩) rfl (by kernel_rfl) Try.isAgg149 (fun w_ h_ => by have x_ := (htb.mem0 h_).ld (q := 0) (v := Value.slice a xs.length cap) rfl; rw [ela_own0] at x_; exact x_)) ?_
  refine Wl.run 2 (by kernel_rfl) ?_
  refine Wl.nil ?_
  refine hK2 _ _ _ ?_
  refine W.prune' [2] [Value.int .i64 ((xs.length : Nat) : Int)] (by kernel_rfl) (fun f3 => ?_)
  refine W.ret ?_
  show ∀ w_, _ → bodyPostM (fence none) 0 Try.prog Try.f59 _ Exit.ret _ w_
  exact fun w_ hS_ => fin_ret (ret1 rfl (RV.tmp (v := Value.int .i64 ((xs.length : Nat) : Int)) (by kernel_rfl)) hS_ ⟨rfl, hS_.below⟩)

theorem mostM_c (xs : List ((Int × Int × Int) × (Ent))) (a : Option Addr) (cap : Nat) (most : Int) (tb : Nat) (w : World) (htb : At w (some ⟨tb, 0, none⟩) [Value.slice a xs.length cap, Value.int .i64 most, Value.func (.func 52) #[] #[]]) (hls : At w a (mm prM xs)) (hn : xs.length ≤ 100000) (hs : Srt ordM xs) : Calls Try.prog 83 #[Value.pointer (some ⟨tb, 0, none⟩)] w (Ret w (Value.int .i64 most)) := by
  refine calls_W (M := []) (LL := []) (n := 7) Try.func83 rfl rfl (by simp) (Mem.refl _) ?_
  refine W.seq (fun K1 hK1 => ?_)
  refine W.region ?_
  refine Wl.run 1 (by kernel_rfl) ?_
  refine Wl.nil ?_
  refine hK1 _ _ _ ?_
  refine W.seq (fun K2 hK2 => ?_)
  refine W.region ?_
  refine Wl.run 3 (by kernel_rfl) ?_
  refine Wl.ys (v := Value.int .i64 most) rfl rfl (Ys.ld (a := ⟨tb, 1, none⟩) rfl (by kernel_rfl) Try.isAgg3 (fun w_ h_ => by have x_ := (htb.mem0 h_).ld (q := 1) (v := Value.int .i64 most) rfl; rw [ela_own0] at x_; exact x_)) ?_
  refine Wl.run 1 (by kernel_rfl) ?_
  refine Wl.nil ?_
  refine hK2 _ _ _ ?_
  refine W.prune' [2] [Value.int .i64 most] (by kernel_rfl) (fun f3 => ?_)
  refine W.ret ?_
  show ∀ w_, _ → bodyPostM (fence none) 0 Try.prog Try.f83 _ Exit.ret _ w_
  exact fun w_ hS_ => fin_ret (ret1 rfl (RV.tmp (v := Value.int .i64 most) (by kernel_rfl)) hS_ ⟨rfl, hS_.below⟩)

theorem getM_c (xs : List ((Int × Int × Int) × (Ent))) (a : Option Addr) (cap : Nat) (most : Int) (tb : Nat) (k : Int × Int × Int) (w : World) (htb : At w (some ⟨tb, 0, none⟩) [Value.slice a xs.length cap, Value.int .i64 most, Value.func (.func 52) #[] #[]]) (hls : At w a (mm prM xs)) (hn : xs.length ≤ 100000) (hs : Srt ordM xs) : Calls Try.prog 56 #[Value.pointer (some ⟨tb, 0, none⟩), Value.agg ([Value.int .u8 k.1, Value.int .u16 k.2.1, Value.int .u32 k.2.2]).toArray] w (Ret w (Value.tuple #[Value.agg ([Value.int .u8 ((getK (⟨0, 0, 0, 0, 0, false, bstr [], 0⟩ : Ent) xs k).proto), Value.int .u16 ((getK (⟨0, 0, 0, 0, 0, false, bstr [], 0⟩ : Ent) xs k).ext), Value.int .u16 ((getK (⟨0, 0, 0, 0, 0, false, bstr [], 0⟩ : Ent) xs k).to), Value.int .u32 ((getK (⟨0, 0, 0, 0, 0, false, bstr [], 0⟩ : Ent) xs k).remote), Value.int .u32 ((getK (⟨0, 0, 0, 0, 0, false, bstr [], 0⟩ : Ent) xs k).host), Value.bool ((getK (⟨0, 0, 0, 0, 0, false, bstr [], 0⟩ : Ent) xs k).on), Value.string ((getK (⟨0, 0, 0, 0, 0, false, bstr [], 0⟩ : Ent) xs k).words), Value.int .u64 ((getK (⟨0, 0, 0, 0, 0, false, bstr [], 0⟩ : Ent) xs k).ends)]).toArray, Value.bool (hasK xs k)])) := by
  refine calls_W (M := []) (LL := []) (n := 24) Try.func56 rfl rfl (by simp) (Mem.refl _) ?_
  refine W.seq (fun K1 hK1 => ?_)
  refine W.region ?_
  refine Wl.ht rfl (Ht.box (v := Value.agg ([Value.int .u8 k.1, Value.int .u16 k.2.1, Value.int .u32 k.2.2]).toArray) (cs := [Value.int .u8 k.1, Value.int .u16 k.2.1, Value.int .u32 k.2.2]) rfl rfl (by kernel_rfl) rfl) (fun p3 => ?_)
  refine Wl.ht rfl (Ht.alloc (z := Value.agg ([Value.int .u8 0, Value.int .u16 0, Value.int .u16 0, Value.int .u32 0, Value.int .u32 0, Value.bool false, Value.string (bstr []), Value.int .u64 0]).toArray) (cs := [Value.int .u8 0, Value.int .u16 0, Value.int .u16 0, Value.int .u32 0, Value.int .u32 0, Value.bool false, Value.string (bstr []), Value.int .u64 0]) rfl rfl Try.zeroValue62 rfl) (fun p4 => ?_)
  refine Wl.run 1 (by kernel_rfl) ?_
  refine Wl.nil ?_
  refine hK1 _ _ _ ?_
  refine W.prune' [0, 3, 4] [Value.pointer (some ⟨tb, 0, none⟩), Value.pointer (some ⟨p3, 0, none⟩), Value.pointer (some ⟨p4, 0, none⟩)] (by kernel_rfl) (fun f2 => ?_)
  refine W.seq (fun K3 hK3 => ?_)
  refine W.seq (fun K4 hK4 => ?_)
  refine W.region ?_
  refine Wl.run 1 (by kernel_rfl) ?_
  refine Wl.ys (v := Value.agg ([Value.int .u8 k.1, Value.int .u16 k.2.1, Value.int .u32 k.2.2]).toArray) rfl rfl (Ys.loadN (b := p3) (o' := 0) (i := 1) (j := 0) (cs := [Value.int .u8 k.1, Value.int .u16 k.2.1, Value.int .u32 k.2.2]) (vs := [Value.int .u8 k.1, Value.int .u16 k.2.1, Value.int .u32 k.2.2]) rfl (by kernel_rfl) Try.isAgg115 Try.sizeOf115 rfl rfl rfl rfl) ?_
  refine Wl.yc (v := Value.tuple #[Value.int .i64 ((posK ordM xs k : Nat) : Int), Value.bool (hasK xs k)]) rfl rfl (Yc.call (k := 92) (args := #[Value.pointer (some ⟨tb, 0, none⟩), Value.agg ([Value.int .u8 k.1, Value.int .u16 k.2.1, Value.int .u32 k.2.2]).toArray]) (fun _ => by kernel_rfl) (fun w_ hm_ => (findM_c xs a cap most tb k _ (htb.mem0 hm_) (hls.mem0 hm_) (by first | omega | (simp; done)) hs))) ?_
  refine Wl.run 5 (by kernel_rfl) ?_
  refine Wl.nil ?_
  refine hK4 _ _ _ ?_
  refine W.pick (LL' := [[cb p4 [Value.int .u8 0, Value.int .u16 0, Value.int .u16 0, Value.int .u32 0, Value.int .u32 0, Value.bool false, Value.string (bstr []), Value.int .u64 0] 62]]) [0] (by decide) rfl ?_
  refine W.prune' [0, 4, 6, 7] [Value.pointer (some ⟨tb, 0, none⟩), Value.pointer (some ⟨p4, 0, none⟩), Value.int .i64 ((posK ordM xs k : Nat) : Int), Value.bool (hasK xs k)] (by kernel_rfl) (fun f5 => ?_)
  refine W.seq (fun K6 hK6 => ?_)
  refine W.region ?_
  refine Wl.run 1 (by kernel_rfl) ?_
  refine Wl.nil ?_
  refine hK6 _ _ _ ?_
  refine W.cond (hasK xs k) (by kernel_rfl) (fun h7 => ?_) (fun h8 => ?_)
  · refine W.seq (fun K9 hK9 => ?_)
    have hps_ := hasK_at dM hs h7
    refine W.region ?_
    refine Wl.run 3 (by kernel_rfl) ?_
    refine Wl.ys (v := Value.slice a xs.length cap) rfl rfl (Ys.ld (a := ⟨tb, 0, none⟩) rfl (by kernel_rfl) Try.isAgg149 (fun w_ h_ => by have x_ := (htb.mem0 h_).ld (q := 0) (v := Value.slice a xs.length cap) rfl; rw [ela_own0] at x_; exact x_)) ?_
    refine Wl.run 1 (by kernel_rfl) ?_
    refine Wl.ys (v := Value.pointer (some (ela a ((posK ordM xs k) * 11)))) rfl rfl (Ys.byMem fun w_ h_ => Ys.indexAddr (k := .i64) (a := a) (len := xs.length) (cap := cap) (i := ((posK ordM xs k : Nat) : Int)) (sz := 11) rfl (by kernel_rfl) (by kernel_rfl) Try.runUnderlying149 Try.sizeOf161 (by omega) (by omega) ((hls.mem0 h_).here (by rw [mm_len (g := prM) (sz := 11) (fun _ => rfl)]; first | omega | (simp; omega)))) ?_
    refine Wl.run 1 (by kernel_rfl) ?_
    refine Wl.ys (v := Value.agg ([Value.int .u8 (((xs.getD (posK ordM xs k) dM).2).proto), Value.int .u16 (((xs.getD (posK ordM xs k) dM).2).ext), Value.int .u16 (((xs.getD (posK ordM xs k) dM).2).to), Value.int .u32 (((xs.getD (posK ordM xs k) dM).2).remote), Value.int .u32 (((xs.getD (posK ordM xs k) dM).2).host), Value.bool (((xs.getD (posK ordM xs k) dM).2).on), Value.string (((xs.getD (posK ordM xs k) dM).2).words), Value.int .u64 (((xs.getD (posK ordM xs k) dM).2).ends)]).toArray) rfl rfl (Ys.ldN (a := (ela a ((posK ordM xs k) * 11)).add 3) (vs := [Value.int .u8 (((xs.getD (posK ordM xs k) dM).2).proto), Value.int .u16 (((xs.getD (posK ordM xs k) dM).2).ext), Value.int .u16 (((xs.getD (posK ordM xs k) dM).2).to), Value.int .u32 (((xs.getD (posK ordM xs k) dM).2).remote), Value.int .u32 (((xs.getD (posK ordM xs k) dM).2).host), Value.bool (((xs.getD (posK ordM xs k) dM).2).on), Value.string (((xs.getD (posK ordM xs k) dM).2).words), Value.int .u64 (((xs.getD (posK ordM xs k) dM).2).ends)]) rfl (by kernel_rfl) Try.isAgg62 Try.sizeOf62 rfl (fun w_ h_ => (hls.mem0 h_).ldNF (mm_getP (g := prM) (sz := 11) (fun _ => rfl) dM (xs := xs) (k := posK ordM xs k) (by omega) 3 8 rfl))) ?_
    refine Wl.ht rfl (Ht.storeN (b := p4) (o' := 0) (i := 0) (j := 0) (cs := [Value.int .u8 0, Value.int .u16 0, Value.int .u16 0, Value.int .u32 0, Value.int .u32 0, Value.bool false, Value.string (bstr []), Value.int .u64 0]) (vs := [Value.int .u8 (((xs.getD (posK ordM xs k) dM).2).proto), Value.int .u16 (((xs.getD (posK ordM xs k) dM).2).ext), Value.int .u16 (((xs.getD (posK ordM xs k) dM).2).to), Value.int .u32 (((xs.getD (posK ordM xs k) dM).2).remote), Value.int .u32 (((xs.getD (posK ordM xs k) dM).2).host), Value.bool (((xs.getD (posK ordM xs k) dM).2).on), Value.string (((xs.getD (posK ordM xs k) dM).2).words), Value.int .u64 (((xs.getD (posK ordM xs k) dM).2).ends)]) (cs' := [Value.int .u8 (((xs.getD (posK ordM xs k) dM).2).proto), Value.int .u16 (((xs.getD (posK ordM xs k) dM).2).ext), Value.int .u16 (((xs.getD (posK ordM xs k) dM).2).to), Value.int .u32 (((xs.getD (posK ordM xs k) dM).2).remote), Value.int .u32 (((xs.getD (posK ordM xs k) dM).2).host), Value.bool (((xs.getD (posK ordM xs k) dM).2).on), Value.string (((xs.getD (posK ordM xs k) dM).2).words), Value.int .u64 (((xs.getD (posK ordM xs k) dM).2).ends)]) (LL' := [[cb p4 [Value.int .u8 (((xs.getD (posK ordM xs k) dM).2).proto), Value.int .u16 (((xs.getD (posK ordM xs k) dM).2).ext), Value.int .u16 (((xs.getD (posK ordM xs k) dM).2).to), Value.int .u32 (((xs.getD (posK ordM xs k) dM).2).remote), Value.int .u32 (((xs.getD (posK ordM xs k) dM).2).host), Value.bool (((xs.getD (posK ordM xs k) dM).2).on), Value.string (((xs.getD (posK ordM xs k) dM).2).words), Value.int .u64 (((xs.getD (posK ordM xs k) dM).2).ends)] 62]]) rfl rfl (by kernel_rfl) (by kernel_rfl) Try.sizeOf62 (by simp [Value.oneCell']) rfl rfl (by simp) rfl rfl) (fun _ => ?_)
    refine Wl.run 1 (by kernel_rfl) ?_
    refine Wl.nil ?_
    refine hK9 _ _ _ ?_
    refine W.prune' [4, 5] [Value.pointer (some ⟨p4, 0, none⟩), Value.bool true] (by kernel_rfl) (fun f10 => ?_)
    refine W.ret ?_
    show ∀ w_, _ → bodyPostM (fence none) 0 Try.prog Try.f56 _ Exit.ret _ w_
    exact fun w_ hS_ => fin_ret (ret2 rfl (RV.cellN (b := p4) (o' := 0) (i := 0) (j := 0) (cs := [Value.int .u8 (((xs.getD (posK ordM xs k) dM).2).proto), Value.int .u16 (((xs.getD (posK ordM xs k) dM).2).ext), Value.int .u16 (((xs.getD (posK ordM xs k) dM).2).to), Value.int .u32 (((xs.getD (posK ordM xs k) dM).2).remote), Value.int .u32 (((xs.getD (posK ordM xs k) dM).2).host), Value.bool (((xs.getD (posK ordM xs k) dM).2).on), Value.string (((xs.getD (posK ordM xs k) dM).2).words), Value.int .u64 (((xs.getD (posK ordM xs k) dM).2).ends)]) (vs := [Value.int .u8 (((xs.getD (posK ordM xs k) dM).2).proto), Value.int .u16 (((xs.getD (posK ordM xs k) dM).2).ext), Value.int .u16 (((xs.getD (posK ordM xs k) dM).2).to), Value.int .u32 (((xs.getD (posK ordM xs k) dM).2).remote), Value.int .u32 (((xs.getD (posK ordM xs k) dM).2).host), Value.bool (((xs.getD (posK ordM xs k) dM).2).on), Value.string (((xs.getD (posK ordM xs k) dM).2).words), Value.int .u64 (((xs.getD (posK ordM xs k) dM).2).ends)]) (by kernel_rfl) Try.isAgg62 Try.sizeOf62 rfl rfl rfl rfl) (RV.tmp (v := Value.bool true) (by kernel_rfl)) hS_ ⟨by clear hK1 hK3 hK4 hK6 hK9; refine congrArg Ending.returned ?_; rw [get_has dM hs h7, h7]; try rfl, hS_.below⟩)
  · refine W.skip' ?_
    refine hK3 _ _ _ ?_
    refine W.prune' [4] [Value.pointer (some ⟨p4, 0, none⟩)] (by kernel_rfl) (fun f11 => ?_)
    refine W.seq (fun K12 hK12 => ?_)
    refine W.region ?_
    refine Wl.ys (v := Value.agg ([Value.int .u8 0, Value.int .u16 0, Value.int .u16 0, Value.int .u32 0, Value.int .u32 0, Value.bool false, Value.string (bstr []), Value.int .u64 0]).toArray) rfl rfl (Ys.loadN (b := p4) (o' := 0) (i := 0) (j := 0) (cs := [Value.int .u8 0, Value.int .u16 0, Value.int .u16 0, Value.int .u32 0, Value.int .u32 0, Value.bool false, Value.string (bstr []), Value.int .u64 0]) (vs := [Value.int .u8 0, Value.int .u16 0, Value.int .u16 0, Value.int .u32 0, Value.int .u32 0, Value.bool false, Value.string (bstr []), Value.int .u64 0]) rfl (by kernel_rfl) Try.isAgg62 Try.sizeOf62 rfl rfl rfl rfl) ?_
    refine Wl.ht rfl (Ht.storeN (b := p4) (o' := 0) (i := 0) (j := 0) (cs := [Value.int .u8 0, Value.int .u16 0, Value.int .u16 0, Value.int .u32 0, Value.int .u32 0, Value.bool false, Value.string (bstr []), Value.int .u64 0]) (vs := [Value.int .u8 0, Value.int .u16 0, Value.int .u16 0, Value.int .u32 0, Value.int .u32 0, Value.bool false, Value.string (bstr []), Value.int .u64 0]) (cs' := [Value.int .u8 0, Value.int .u16 0, Value.int .u16 0, Value.int .u32 0, Value.int .u32 0, Value.bool false, Value.string (bstr []), Value.int .u64 0]) (LL' := [[cb p4 [Value.int .u8 0, Value.int .u16 0, Value.int .u16 0, Value.int .u32 0, Value.int .u32 0, Value.bool false, Value.string (bstr []), Value.int .u64 0] 62]]) rfl rfl (by kernel_rfl) (by kernel_rfl) Try.sizeOf62 (by simp [Value.oneCell']) rfl rfl (by simp) rfl rfl) (fun _ => ?_)
    refine Wl.run 1 (by kernel_rfl) ?_
    refine Wl.nil ?_
    refine hK12 _ _ _ ?_
    refine W.prune' [4, 5] [Value.pointer (some ⟨p4, 0, none⟩), Value.bool false] (by kernel_rfl) (fun f13 => ?_)
    refine W.ret ?_
    show ∀ w_, _ → bodyPostM (fence none) 0 Try.prog Try.f56 _ Exit.ret _ w_
    exact fun w_ hS_ => fin_ret (ret2 rfl (RV.cellN (b := p4) (o' := 0) (i := 0) (j := 0) (cs := [Value.int .u8 0, Value.int .u16 0, Value.int .u16 0, Value.int .u32 0, Value.int .u32 0, Value.bool false, Value.string (bstr []), Value.int .u64 0]) (vs := [Value.int .u8 0, Value.int .u16 0, Value.int .u16 0, Value.int .u32 0, Value.int .u32 0, Value.bool false, Value.string (bstr []), Value.int .u64 0]) (by kernel_rfl) Try.isAgg62 Try.sizeOf62 rfl rfl rfl rfl) (RV.tmp (v := Value.bool false) (by kernel_rfl)) hS_ ⟨by clear hK1 hK3 hK4 hK6 hK12; refine congrArg Ending.returned ?_; rw [get_not h8, h8]; try rfl, hS_.below⟩)

theorem newM_c (most : Int) (w : World) : Calls Try.prog 51 #[Value.int .i64 most, Value.func (.func 52) #[] #[]] w (RetM w (fun _ : Nat => True) (fun b => .pointer (some ⟨b, 0, none⟩)) [] (fun b => [[cb b [Value.slice none 0 0, Value.int .i64 (imax most 0), Value.func (.func 52) #[] #[]] 151]])) := by
  refine calls_W (M := []) (LL := []) (n := 10) Try.func51 rfl rfl (by simp) (Mem.refl _) ?_
  refine W.seq (fun K1 hK1 => ?_)
  refine W.region ?_
  refine Wl.run 1 (by kernel_rfl) ?_
  refine Wl.nil ?_
  refine hK1 _ _ _ ?_
  refine W.seq (fun K2 hK2 => ?_)
  refine W.region ?_
  refine Wl.run 4 (by kernel_rfl) ?_
  have hm3 := imax_bd most 0
  refine Wl.ht rfl (Ht.box (v := Value.agg ([Value.slice none 0 0, Value.int .i64 (imax most 0), Value.func (.func 52) #[] #[]]).toArray) (cs := [Value.slice none 0 0, Value.int .i64 (imax most 0), Value.func (.func 52) #[] #[]]) rfl rfl (by kernel_rfl) rfl) (fun p9 => ?_)
  refine Wl.run 1 (by kernel_rfl) ?_
  refine Wl.nil ?_
  refine hK2 _ _ _ ?_
  refine W.prune' [4] [Value.pointer (some ⟨p9, 0, none⟩)] (by kernel_rfl) (fun f4 => ?_)
  refine W.ret ?_
  show ∀ w_, _ → bodyPostM (fence none) 0 Try.prog Try.f51 _ Exit.ret _ w_
  exact fun w_ hS_ => fin_ret (ret1 rfl (RV.tmp (v := Value.pointer (some ⟨p9, 0, none⟩)) (by kernel_rfl)) hS_ ⟨p9, trivial, rfl, (hS_.pick [0] (by decide) rfl)⟩)

end Go.Proofs.Ytjkhmbigoloeiaa.Oct
