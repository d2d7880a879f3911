import Derived.Test.YtmonlaoaengfdaaGreatDoorM5
set_option linter.unusedVariables false
set_option linter.unusedSimpArgs false
set_option maxRecDepth 20000
namespace Go.Proofs.YtmonlaoaengfdaaGreatDoor.Oct
open Go.RowKit Base
attribute [local irreducible] Ys Yc Ht HtS HtIn Wl Wd W Mem pf dpf Wa Wo
abbrev optA (b : Option Nat) : Option Addr := b.map fun b => ⟨b, 0, none⟩
def LO.on {A B : Type} (o : LO B) (f : A → B) (hf : ∀ {x y}, f x = f y → x = y) : LO A := ⟨fun a b => o.lt (f a) (f b), fun a => o.irr _, fun h g => o.tr h g, fun h g => hf (o.tri h g)⟩
def orL : List Int → Int
  | [] => 0
  | x :: xs => if x ≠ 0 then x else orL xs
abbrev FlwT : Type := Int × Int × Int × Int × Int
def flwF (x : FlwT) : FlwT := (x.1, x.2.1, x.2.2.2.1, x.2.2.1, x.2.2.2.2)
theorem flwF_inj {x y : FlwT} (h : flwF x = flwF y) : x = y := by
  obtain ⟨a, b, c, d, e⟩ := x
  obtain ⟨a', b', c', d', e'⟩ := y
  simp only [flwF, Prod.mk.injEq] at h ⊢
  omega
abbrev ordE : LO (Int × Int × Int) := LO.lex LO.int (LO.lex LO.int LO.int)
abbrev ordF : LO FlwT := LO.on (LO.lex LO.int (LO.lex LO.int (LO.lex LO.int (LO.lex LO.int LO.int)))) flwF flwF_inj
structure Lse where
  ext : Int
  count : Int
abbrev dS : (Int × Int × Int × Int × Int) × (Option Nat) := ((0, 0, 0, 0, 0), none)
def prS (x : (Int × Int × Int × Int × Int) × (Option Nat)) : List Value := [Value.int .u8 x.1.1, Value.int .u32 x.1.2.1, Value.int .u32 x.1.2.2.1, Value.int .u16 x.1.2.2.2.1, Value.int .u16 x.1.2.2.2.2, Value.pointer (optA x.2)]
theorem prS_len (x : (Int × Int × Int × Int × Int) × (Option Nat)) : (prS x).length = 6 := rfl
theorem prS_one (x : (Int × Int × Int × Int × Int) × (Option Nat)) : ∀ v ∈ prS x, v.oneCell' = true := by simp [prS, Value.oneCell']
theorem prS_zlen (xs : List ((Int × Int × Int × Int × Int) × (Option Nat))) : (mm prS xs).length = xs.length * 6 := mm_len prS_len xs
abbrev dD : (Int × Int × Int) × (Lse) := ((0, 0, 0), (⟨0, 0⟩ : Lse))
def prD (x : (Int × Int × Int) × (Lse)) : List Value := [Value.int .u8 x.1.1, Value.int .u32 x.1.2.1, Value.int .u16 x.1.2.2, Value.int .u16 x.2.ext, Value.int .i64 x.2.count]
theorem prD_len (x : (Int × Int × Int) × (Lse)) : (prD x).length = 5 := rfl
theorem prD_one (x : (Int × Int × Int) × (Lse)) : ∀ v ∈ prD x, v.oneCell' = true := by simp [prD, Value.oneCell']
theorem prD_zlen (xs : List ((Int × Int × Int) × (Lse))) : (mm prD xs).length = xs.length * 5 := mm_len prD_len xs
abbrev dN : (Int) × (Int × Int × Int × Int × Int) := (0, (0, 0, 0, 0, 0))
def prN (x : (Int) × (Int × Int × Int × Int × Int)) : List Value := [Value.int .u64 x.1, Value.int .u8 x.2.1, Value.int .u32 x.2.2.1, Value.int .u32 x.2.2.2.1, Value.int .u16 x.2.2.2.2.1, Value.int .u16 x.2.2.2.2.2]
theorem prN_len (x : (Int) × (Int × Int × Int × Int × Int)) : (prN x).length = 6 := rfl
theorem prN_one (x : (Int) × (Int × Int × Int × Int × Int)) : ∀ v ∈ prN x, v.oneCell' = true := by simp [prN, Value.oneCell']
theorem prN_zlen (xs : List ((Int) × (Int × Int × Int × Int × Int))) : (mm prN xs).length = xs.length * 6 := mm_len prN_len xs
theorem nanm8_c (x : Int) (w : World) : Calls Tryz.prog 115 #[iV .u8 x] w (Ret w (.bool false)) := by
 refine calls_W (M := []) (LL := []) (n := 6) Tryz.func115 rfl rfl ma6 (Mem.refl _) (W.seq (fun K1 hK1 => ?_))
 refine W.region (Wl.run 1 ma0 (Wl.nil (hK1 _ _ _ (W.seq (fun K2 hK2 => ?_)))))
 refine W.region (Wl.run 4 ma0 (Wl.nil (hK2 _ _ _ (W.prune' [2] [bV (x != x)] ma0 (fun f3 => ?_)))))
 refine W.ret ?_
 show ∀ w_, _ → bodyPostM (fence none) 0 Tryz.prog Tryz.f115 _ Exit.ret _ w_
 exact fun w_ hS_ => fin_ret (ret1 rfl (RV.tmp (v := bV (x != x)) ma0) hS_ ⟨by clear hK1 hK2; refine congrArg Ending.returned ?_; exact bool_congr ma6, hS_.below⟩)
theorem cmpm8_c (a b : Int) (w : World) : Calls Tryz.prog 65 #[iV .u8 a, iV .u8 b] w (Ret w (.int .i64 (LO.cmp LO.int a b))) := by
 refine calls_W (M := []) (LL := []) (n := 20) Tryz.func65 rfl rfl ma6 (Mem.refl _) (W.seq (fun K1 hK1 => ?_))
 refine W.region (Wl.run 1 ma0 (Wl.nil (hK1 _ _ _ (W.seq (fun K2 hK2 => ?_)))))
 refine W.region (Wl.run 1 ma0 (Wl.yc (v := bV false) rfl rfl (Yc.call (fun _ => kr) (fun w_ hm_ => (nanm8_c a _))) (Wl.run 1 ma0 (Wl.nil ?_))))
 refine hK2 _ _ _ (W.prune' [0, 1, 5] [iV .u8 a, iV .u8 b, bV false] ma0 (fun f3 => ?_))
 refine W.seq (fun K4 hK4 => W.region (Wl.run 1 ma0 (Wl.yc (v := bV false) rfl rfl (Yc.call (fun _ => kr) (fun w_ hm_ => (nanm8_c b _))) (Wl.run 1 ma0 ?_))))
 refine Wl.nil (hK4 _ _ _ (W.prune' [0, 1, 5, 6] [iV .u8 a, iV .u8 b, bV false, bV false] ma0 (fun f5 => W.seq (fun K6 hK6 => W.seq (fun K7 hK7 => ?_)))))
 refine W.region (Wl.run 1 ma0 (Wl.nil (hK7 _ _ _ (W.condF ma0 ?_))))
 refine W.skip' (hK6 _ _ _ (W.prune' [0, 1, 6] [iV .u8 a, iV .u8 b, bV false] ma0 (fun f8 => W.seq (fun K9 hK9 => W.seq (fun K10 hK10 => ?_)))))
 refine W.region (Wl.run 1 ma0 (Wl.nil (hK10 _ _ _ (W.condF ma0 ?_))))
 refine W.skip' (hK9 _ _ _ (W.prune' [0, 1] [iV .u8 a, iV .u8 b] ma0 (fun f11 => W.seq (fun K12 hK12 => W.seq (fun K13 hK13 => ?_)))))
 refine W.region (Wl.run 3 ma0 (Wl.nil (hK13 _ _ _ (W.prune' [0, 1, 16] [iV .u8 a, iV .u8 b, bV (decide (a < b))] ma0 (fun f14 => ?_)))))
 refine W.cond (decide (a < b)) ma0 (fun h15 => ?_) (fun h16 => ?_)
 ·have qh15 := h15; try simp only [zA] at qh15
  refine W.seq (fun K17 hK17 => W.region (Wl.run 1 ma0 (Wl.nil (hK17 _ _ _ ?_))))
  refine W.ret ?_
  show ∀ w_, _ → bodyPostM (fence none) 0 Tryz.prog Tryz.f65 _ Exit.ret _ w_
  exact fun w_ hS_ => fin_ret (ret1 rfl (RV.tmp (v := iV .i64 (-1)) ma0) hS_ ⟨by clear hK1 hK2 hK4 hK6 hK7 hK9 hK10 hK12 hK13 hK17; refine congrArg Ending.returned ?_; simp only [LO.cmp, LO.int, h15, cond_true, cond_false]; try rfl, hS_.below⟩)
 ·have qh16 := h16; try simp only [zA] at qh16
  refine W.skip' (hK12 _ _ _ (W.prune' [0, 1] [iV .u8 a, iV .u8 b] ma0 (fun f18 => W.seq (fun K19 hK19 => W.seq (fun K20 hK20 => ?_)))))
  refine W.region (Wl.run 3 ma0 (Wl.nil (hK20 _ _ _ (W.prune' [19] [bV (decide (a > b))] ma0 (fun f21 => ?_)))))
  refine W.cond (decide (a > b)) ma0 (fun h22 => ?_) (fun h23 => ?_)
  ·have qh22 := h22; try simp only [zA] at qh22
   refine W.seq (fun K24 hK24 => W.region (Wl.run 1 ma0 (Wl.nil (hK24 _ _ _ ?_))))
   refine W.ret ?_
   show ∀ w_, _ → bodyPostM (fence none) 0 Tryz.prog Tryz.f65 _ Exit.ret _ w_
   exact fun w_ hS_ => fin_ret (ret1 rfl (RV.tmp (v := iV .i64 1) ma0) hS_ ⟨by clear hK1 hK2 hK4 hK6 hK7 hK9 hK10 hK12 hK13 hK19 hK20 hK24; refine congrArg Ending.returned ?_; simp only [LO.cmp, LO.int, h16, h22, cond_true, cond_false]; try rfl, hS_.below⟩)
  ·have qh23 := h23; try simp only [zA] at qh23
   refine W.skip' (hK19 _ _ _ (W.prune' [] [] ma0 (fun f25 => W.seq (fun K26 hK26 => W.region ?_))))
   refine Wl.run 1 ma0 (Wl.nil (hK26 _ _ _ (W.ret ?_)))
   show ∀ w_, _ → bodyPostM (fence none) 0 Tryz.prog Tryz.f65 _ Exit.ret _ w_
   exact fun w_ hS_ => fin_ret (ret1 rfl (RV.tmp (v := iV .i64 0) ma0) hS_ ⟨by clear hK1 hK2 hK4 hK6 hK7 hK9 hK10 hK12 hK13 hK19 hK20 hK26; refine congrArg Ending.returned ?_; simp only [LO.cmp, LO.int, h16, h23, cond_true, cond_false]; try rfl, hS_.below⟩)
theorem nanm16_c (x : Int) (w : World) : Calls Tryz.prog 117 #[iV .u16 x] w (Ret w (.bool false)) := by
 refine calls_W (M := []) (LL := []) (n := 6) Tryz.func117 rfl rfl ma6 (Mem.refl _) (W.seq (fun K1 hK1 => ?_))
 refine W.region (Wl.run 1 ma0 (Wl.nil (hK1 _ _ _ (W.seq (fun K2 hK2 => ?_)))))
 refine W.region (Wl.run 4 ma0 (Wl.nil (hK2 _ _ _ (W.prune' [2] [bV (x != x)] ma0 (fun f3 => ?_)))))
 refine W.ret ?_
 show ∀ w_, _ → bodyPostM (fence none) 0 Tryz.prog Tryz.f117 _ Exit.ret _ w_
 exact fun w_ hS_ => fin_ret (ret1 rfl (RV.tmp (v := bV (x != x)) ma0) hS_ ⟨by clear hK1 hK2; refine congrArg Ending.returned ?_; exact bool_congr ma6, hS_.below⟩)
theorem cmpm16_c (a b : Int) (w : World) : Calls Tryz.prog 67 #[iV .u16 a, iV .u16 b] w (Ret w (.int .i64 (LO.cmp LO.int a b))) := by
 refine calls_W (M := []) (LL := []) (n := 20) Tryz.func67 rfl rfl ma6 (Mem.refl _) (W.seq (fun K1 hK1 => ?_))
 refine W.region (Wl.run 1 ma0 (Wl.nil (hK1 _ _ _ (W.seq (fun K2 hK2 => ?_)))))
 refine W.region (Wl.run 1 ma0 (Wl.yc (v := bV false) rfl rfl (Yc.call (fun _ => kr) (fun w_ hm_ => (nanm16_c a _))) (Wl.run 1 ma0 (Wl.nil ?_))))
 refine hK2 _ _ _ (W.prune' [0, 1, 5] [iV .u16 a, iV .u16 b, bV false] ma0 (fun f3 => ?_))
 refine W.seq (fun K4 hK4 => W.region (Wl.run 1 ma0 (Wl.yc (v := bV false) rfl rfl (Yc.call (fun _ => kr) (fun w_ hm_ => (nanm16_c b _))) (Wl.run 1 ma0 ?_))))
 refine Wl.nil (hK4 _ _ _ (W.prune' [0, 1, 5, 6] [iV .u16 a, iV .u16 b, bV false, bV false] ma0 (fun f5 => W.seq (fun K6 hK6 => W.seq (fun K7 hK7 => ?_)))))
 refine W.region (Wl.run 1 ma0 (Wl.nil (hK7 _ _ _ (W.condF ma0 ?_))))
 refine W.skip' (hK6 _ _ _ (W.prune' [0, 1, 6] [iV .u16 a, iV .u16 b, bV false] ma0 (fun f8 => W.seq (fun K9 hK9 => W.seq (fun K10 hK10 => ?_)))))
 refine W.region (Wl.run 1 ma0 (Wl.nil (hK10 _ _ _ (W.condF ma0 ?_))))
 refine W.skip' (hK9 _ _ _ (W.prune' [0, 1] [iV .u16 a, iV .u16 b] ma0 (fun f11 => W.seq (fun K12 hK12 => W.seq (fun K13 hK13 => ?_)))))
 refine W.region (Wl.run 3 ma0 (Wl.nil (hK13 _ _ _ (W.prune' [0, 1, 16] [iV .u16 a, iV .u16 b, bV (decide (a < b))] ma0 (fun f14 => ?_)))))
 refine W.cond (decide (a < b)) ma0 (fun h15 => ?_) (fun h16 => ?_)
 ·have qh15 := h15; try simp only [zA] at qh15
  refine W.seq (fun K17 hK17 => W.region (Wl.run 1 ma0 (Wl.nil (hK17 _ _ _ ?_))))
  refine W.ret ?_
  show ∀ w_, _ → bodyPostM (fence none) 0 Tryz.prog Tryz.f67 _ Exit.ret _ w_
  exact fun w_ hS_ => fin_ret (ret1 rfl (RV.tmp (v := iV .i64 (-1)) ma0) hS_ ⟨by clear hK1 hK2 hK4 hK6 hK7 hK9 hK10 hK12 hK13 hK17; refine congrArg Ending.returned ?_; simp only [LO.cmp, LO.int, h15, cond_true, cond_false]; try rfl, hS_.below⟩)
 ·have qh16 := h16; try simp only [zA] at qh16
  refine W.skip' (hK12 _ _ _ (W.prune' [0, 1] [iV .u16 a, iV .u16 b] ma0 (fun f18 => W.seq (fun K19 hK19 => W.seq (fun K20 hK20 => ?_)))))
  refine W.region (Wl.run 3 ma0 (Wl.nil (hK20 _ _ _ (W.prune' [19] [bV (decide (a > b))] ma0 (fun f21 => ?_)))))
  refine W.cond (decide (a > b)) ma0 (fun h22 => ?_) (fun h23 => ?_)
  ·have qh22 := h22; try simp only [zA] at qh22
   refine W.seq (fun K24 hK24 => W.region (Wl.run 1 ma0 (Wl.nil (hK24 _ _ _ ?_))))
   refine W.ret ?_
   show ∀ w_, _ → bodyPostM (fence none) 0 Tryz.prog Tryz.f67 _ Exit.ret _ w_
   exact fun w_ hS_ => fin_ret (ret1 rfl (RV.tmp (v := iV .i64 1) ma0) hS_ ⟨by clear hK1 hK2 hK4 hK6 hK7 hK9 hK10 hK12 hK13 hK19 hK20 hK24; refine congrArg Ending.returned ?_; simp only [LO.cmp, LO.int, h16, h22, cond_true, cond_false]; try rfl, hS_.below⟩)
  ·have qh23 := h23; try simp only [zA] at qh23
   refine W.skip' (hK19 _ _ _ (W.prune' [] [] ma0 (fun f25 => W.seq (fun K26 hK26 => W.region ?_))))
   refine Wl.run 1 ma0 (Wl.nil (hK26 _ _ _ (W.ret ?_)))
   show ∀ w_, _ → bodyPostM (fence none) 0 Tryz.prog Tryz.f67 _ Exit.ret _ w_
   exact fun w_ hS_ => fin_ret (ret1 rfl (RV.tmp (v := iV .i64 0) ma0) hS_ ⟨by clear hK1 hK2 hK4 hK6 hK7 hK9 hK10 hK12 hK13 hK19 hK20 hK26; refine congrArg Ending.returned ?_; simp only [LO.cmp, LO.int, h16, h23, cond_true, cond_false]; try rfl, hS_.below⟩)
theorem nanm32_c (x : Int) (w : World) : Calls Tryz.prog 116 #[iV .u32 x] w (Ret w (.bool false)) := by
 refine calls_W (M := []) (LL := []) (n := 6) Tryz.func116 rfl rfl ma6 (Mem.refl _) (W.seq (fun K1 hK1 => ?_))
 refine W.region (Wl.run 1 ma0 (Wl.nil (hK1 _ _ _ (W.seq (fun K2 hK2 => ?_)))))
 refine W.region (Wl.run 4 ma0 (Wl.nil (hK2 _ _ _ (W.prune' [2] [bV (x != x)] ma0 (fun f3 => ?_)))))
 refine W.ret ?_
 show ∀ w_, _ → bodyPostM (fence none) 0 Tryz.prog Tryz.f116 _ Exit.ret _ w_
 exact fun w_ hS_ => fin_ret (ret1 rfl (RV.tmp (v := bV (x != x)) ma0) hS_ ⟨by clear hK1 hK2; refine congrArg Ending.returned ?_; exact bool_congr ma6, hS_.below⟩)
theorem cmpm32_c (a b : Int) (w : World) : Calls Tryz.prog 66 #[iV .u32 a, iV .u32 b] w (Ret w (.int .i64 (LO.cmp LO.int a b))) := by
 refine calls_W (M := []) (LL := []) (n := 20) Tryz.func66 rfl rfl ma6 (Mem.refl _) (W.seq (fun K1 hK1 => ?_))
 refine W.region (Wl.run 1 ma0 (Wl.nil (hK1 _ _ _ (W.seq (fun K2 hK2 => ?_)))))
 refine W.region (Wl.run 1 ma0 (Wl.yc (v := bV false) rfl rfl (Yc.call (fun _ => kr) (fun w_ hm_ => (nanm32_c a _))) (Wl.run 1 ma0 (Wl.nil ?_))))
 refine hK2 _ _ _ (W.prune' [0, 1, 5] [iV .u32 a, iV .u32 b, bV false] ma0 (fun f3 => ?_))
 refine W.seq (fun K4 hK4 => W.region (Wl.run 1 ma0 (Wl.yc (v := bV false) rfl rfl (Yc.call (fun _ => kr) (fun w_ hm_ => (nanm32_c b _))) (Wl.run 1 ma0 ?_))))
 refine Wl.nil (hK4 _ _ _ (W.prune' [0, 1, 5, 6] [iV .u32 a, iV .u32 b, bV false, bV false] ma0 (fun f5 => W.seq (fun K6 hK6 => W.seq (fun K7 hK7 => ?_)))))
 refine W.region (Wl.run 1 ma0 (Wl.nil (hK7 _ _ _ (W.condF ma0 ?_))))
 refine W.skip' (hK6 _ _ _ (W.prune' [0, 1, 6] [iV .u32 a, iV .u32 b, bV false] ma0 (fun f8 => W.seq (fun K9 hK9 => W.seq (fun K10 hK10 => ?_)))))
 refine W.region (Wl.run 1 ma0 (Wl.nil (hK10 _ _ _ (W.condF ma0 ?_))))
 refine W.skip' (hK9 _ _ _ (W.prune' [0, 1] [iV .u32 a, iV .u32 b] ma0 (fun f11 => W.seq (fun K12 hK12 => W.seq (fun K13 hK13 => ?_)))))
 refine W.region (Wl.run 3 ma0 (Wl.nil (hK13 _ _ _ (W.prune' [0, 1, 16] [iV .u32 a, iV .u32 b, bV (decide (a < b))] ma0 (fun f14 => ?_)))))
 refine W.cond (decide (a < b)) ma0 (fun h15 => ?_) (fun h16 => ?_)
 ·have qh15 := h15; try simp only [zA] at qh15
  refine W.seq (fun K17 hK17 => W.region (Wl.run 1 ma0 (Wl.nil (hK17 _ _ _ ?_))))
  refine W.ret ?_
  show ∀ w_, _ → bodyPostM (fence none) 0 Tryz.prog Tryz.f66 _ Exit.ret _ w_
  exact fun w_ hS_ => fin_ret (ret1 rfl (RV.tmp (v := iV .i64 (-1)) ma0) hS_ ⟨by clear hK1 hK2 hK4 hK6 hK7 hK9 hK10 hK12 hK13 hK17; refine congrArg Ending.returned ?_; simp only [LO.cmp, LO.int, h15, cond_true, cond_false]; try rfl, hS_.below⟩)
 ·have qh16 := h16; try simp only [zA] at qh16
  refine W.skip' (hK12 _ _ _ (W.prune' [0, 1] [iV .u32 a, iV .u32 b] ma0 (fun f18 => W.seq (fun K19 hK19 => W.seq (fun K20 hK20 => ?_)))))
  refine W.region (Wl.run 3 ma0 (Wl.nil (hK20 _ _ _ (W.prune' [19] [bV (decide (a > b))] ma0 (fun f21 => ?_)))))
  refine W.cond (decide (a > b)) ma0 (fun h22 => ?_) (fun h23 => ?_)
  ·have qh22 := h22; try simp only [zA] at qh22
   refine W.seq (fun K24 hK24 => W.region (Wl.run 1 ma0 (Wl.nil (hK24 _ _ _ ?_))))
   refine W.ret ?_
   show ∀ w_, _ → bodyPostM (fence none) 0 Tryz.prog Tryz.f66 _ Exit.ret _ w_
   exact fun w_ hS_ => fin_ret (ret1 rfl (RV.tmp (v := iV .i64 1) ma0) hS_ ⟨by clear hK1 hK2 hK4 hK6 hK7 hK9 hK10 hK12 hK13 hK19 hK20 hK24; refine congrArg Ending.returned ?_; simp only [LO.cmp, LO.int, h16, h22, cond_true, cond_false]; try rfl, hS_.below⟩)
  ·have qh23 := h23; try simp only [zA] at qh23
   refine W.skip' (hK19 _ _ _ (W.prune' [] [] ma0 (fun f25 => W.seq (fun K26 hK26 => W.region ?_))))
   refine Wl.run 1 ma0 (Wl.nil (hK26 _ _ _ (W.ret ?_)))
   show ∀ w_, _ → bodyPostM (fence none) 0 Tryz.prog Tryz.f66 _ Exit.ret _ w_
   exact fun w_ hS_ => fin_ret (ret1 rfl (RV.tmp (v := iV .i64 0) ma0) hS_ ⟨by clear hK1 hK2 hK4 hK6 hK7 hK9 hK10 hK12 hK13 hK19 hK20 hK26; refine congrArg Ending.returned ?_; simp only [LO.cmp, LO.int, h16, h23, cond_true, cond_false]; try rfl, hS_.below⟩)
theorem nanm64_c (x : Int) (w : World) : Calls Tryz.prog 68 #[iV .u64 x] w (Ret w (.bool false)) := by
 refine calls_W (M := []) (LL := []) (n := 6) Tryz.func68 rfl rfl ma6 (Mem.refl _) (W.seq (fun K1 hK1 => ?_))
 refine W.region (Wl.run 1 ma0 (Wl.nil (hK1 _ _ _ (W.seq (fun K2 hK2 => ?_)))))
 refine W.region (Wl.run 4 ma0 (Wl.nil (hK2 _ _ _ (W.prune' [2] [bV (x != x)] ma0 (fun f3 => ?_)))))
 refine W.ret ?_
 show ∀ w_, _ → bodyPostM (fence none) 0 Tryz.prog Tryz.f68 _ Exit.ret _ w_
 exact fun w_ hS_ => fin_ret (ret1 rfl (RV.tmp (v := bV (x != x)) ma0) hS_ ⟨by clear hK1 hK2; refine congrArg Ending.returned ?_; exact bool_congr ma6, hS_.below⟩)
theorem cmpm64_c (a b : Int) (w : World) : Calls Tryz.prog 35 #[iV .u64 a, iV .u64 b] w (Ret w (.int .i64 (LO.cmp LO.int a b))) := by
 refine calls_W (M := []) (LL := []) (n := 20) Tryz.func35 rfl rfl ma6 (Mem.refl _) (W.seq (fun K1 hK1 => ?_))
 refine W.region (Wl.run 1 ma0 (Wl.nil (hK1 _ _ _ (W.seq (fun K2 hK2 => ?_)))))
 refine W.region (Wl.run 1 ma0 (Wl.yc (v := bV false) rfl rfl (Yc.call (fun _ => kr) (fun w_ hm_ => (nanm64_c a _))) (Wl.run 1 ma0 (Wl.nil ?_))))
 refine hK2 _ _ _ (W.prune' [0, 1, 5] [iV .u64 a, iV .u64 b, bV false] ma0 (fun f3 => ?_))
 refine W.seq (fun K4 hK4 => W.region (Wl.run 1 ma0 (Wl.yc (v := bV false) rfl rfl (Yc.call (fun _ => kr) (fun w_ hm_ => (nanm64_c b _))) (Wl.run 1 ma0 ?_))))
 refine Wl.nil (hK4 _ _ _ (W.prune' [0, 1, 5, 6] [iV .u64 a, iV .u64 b, bV false, bV false] ma0 (fun f5 => W.seq (fun K6 hK6 => W.seq (fun K7 hK7 => ?_)))))
 refine W.region (Wl.run 1 ma0 (Wl.nil (hK7 _ _ _ (W.condF ma0 ?_))))
 refine W.skip' (hK6 _ _ _ (W.prune' [0, 1, 6] [iV .u64 a, iV .u64 b, bV false] ma0 (fun f8 => W.seq (fun K9 hK9 => W.seq (fun K10 hK10 => ?_)))))
 refine W.region (Wl.run 1 ma0 (Wl.nil (hK10 _ _ _ (W.condF ma0 ?_))))
 refine W.skip' (hK9 _ _ _ (W.prune' [0, 1] [iV .u64 a, iV .u64 b] ma0 (fun f11 => W.seq (fun K12 hK12 => W.seq (fun K13 hK13 => ?_)))))
 refine W.region (Wl.run 3 ma0 (Wl.nil (hK13 _ _ _ (W.prune' [0, 1, 16] [iV .u64 a, iV .u64 b, bV (decide (a < b))] ma0 (fun f14 => ?_)))))
 refine W.cond (decide (a < b)) ma0 (fun h15 => ?_) (fun h16 => ?_)
 ·have qh15 := h15; try simp only [zA] at qh15
  refine W.seq (fun K17 hK17 => W.region (Wl.run 1 ma0 (Wl.nil (hK17 _ _ _ ?_))))
  refine W.ret ?_
  show ∀ w_, _ → bodyPostM (fence none) 0 Tryz.prog Tryz.f35 _ Exit.ret _ w_
  exact fun w_ hS_ => fin_ret (ret1 rfl (RV.tmp (v := iV .i64 (-1)) ma0) hS_ ⟨by clear hK1 hK2 hK4 hK6 hK7 hK9 hK10 hK12 hK13 hK17; refine congrArg Ending.returned ?_; simp only [LO.cmp, LO.int, h15, cond_true, cond_false]; try rfl, hS_.below⟩)
 ·have qh16 := h16; try simp only [zA] at qh16
  refine W.skip' (hK12 _ _ _ (W.prune' [0, 1] [iV .u64 a, iV .u64 b] ma0 (fun f18 => W.seq (fun K19 hK19 => W.seq (fun K20 hK20 => ?_)))))
  refine W.region (Wl.run 3 ma0 (Wl.nil (hK20 _ _ _ (W.prune' [19] [bV (decide (a > b))] ma0 (fun f21 => ?_)))))
  refine W.cond (decide (a > b)) ma0 (fun h22 => ?_) (fun h23 => ?_)
  ·have qh22 := h22; try simp only [zA] at qh22
   refine W.seq (fun K24 hK24 => W.region (Wl.run 1 ma0 (Wl.nil (hK24 _ _ _ ?_))))
   refine W.ret ?_
   show ∀ w_, _ → bodyPostM (fence none) 0 Tryz.prog Tryz.f35 _ Exit.ret _ w_
   exact fun w_ hS_ => fin_ret (ret1 rfl (RV.tmp (v := iV .i64 1) ma0) hS_ ⟨by clear hK1 hK2 hK4 hK6 hK7 hK9 hK10 hK12 hK13 hK19 hK20 hK24; refine congrArg Ending.returned ?_; simp only [LO.cmp, LO.int, h16, h22, cond_true, cond_false]; try rfl, hS_.below⟩)
  ·have qh23 := h23; try simp only [zA] at qh23
   refine W.skip' (hK19 _ _ _ (W.prune' [] [] ma0 (fun f25 => W.seq (fun K26 hK26 => W.region ?_))))
   refine Wl.run 1 ma0 (Wl.nil (hK26 _ _ _ (W.ret ?_)))
   show ∀ w_, _ → bodyPostM (fence none) 0 Tryz.prog Tryz.f35 _ Exit.ret _ w_
   exact fun w_ hS_ => fin_ret (ret1 rfl (RV.tmp (v := iV .i64 0) ma0) hS_ ⟨by clear hK1 hK2 hK4 hK6 hK7 hK9 hK10 hK12 hK13 hK19 hK20 hK26; refine congrArg Ending.returned ?_; simp only [LO.cmp, LO.int, h16, h23, cond_true, cond_false]; try rfl, hS_.below⟩)
theorem or3_c (x y z : Int) (a : Option Addr) (cap : Nat) (w : World) (hat : At w a [.int .i64 x, .int .i64 y, .int .i64 z]) : Calls Tryz.prog 64 #[Value.slice a 3 cap] w (Ret w (.int .i64 (orL [x, y, z]))) := by
 refine calls_W (M := []) (LL := []) (n := 18) Tryz.func64 rfl rfl ma6 (Mem.refl _) (W.seq (fun K1 hK1 => ?_))
 refine W.region (Wl.run 1 ma0 (Wl.nil (hK1 _ _ _ (W.seq (fun K2 hK2 => ?_)))))
 refine W.region (Wl.run 1 ma0 (Wl.nil (hK2 _ _ _ (W.seq (fun K3 hK3 => ?_)))))
 refine W.seq (fun K4 hK4 => W.region (Wl.run 3 ma0 (Wl.nil (hK4 _ _ _ ?_))))
 refine W.prune' [3, 6, 7, 8] [iV .i64 0, Value.slice a 3 cap, iV .i64 3, iV .i64 0] ma0 (fun f5 => W.block (W.rounds 4 (Wr.step (fun J6 hJ6 => W.seq (fun K7 hK7 => ?_)))))
 refine W.region (Wl.run 1 ma0 (Wl.nil (hK7 _ _ _ (W.seq (fun K8 hK8 => ?_)))))
 refine W.condT ma0 (W.skip' (hK8 _ _ _ (W.prune' [3, 6, 7, 8] [iV .i64 0, Value.slice a 3 cap, iV .i64 3, iV .i64 0] ma0 (fun f9 => W.seq (fun K10 hK10 => ?_)))))
 refine W.block (W.seq (fun K11 hK11 => ?_))
 refine W.region (Wl.ys (v := Value.pointer (some (ela a 0))) rfl rfl (Ys.byMem fun w_ h_ => Ys.indexAddr (k := .i64) (a := a) (len := 3) (cap := cap) (i := 0) (sz := 1) rfl ma0 ma0 Tryz.runUnderlying224 Tryz.sizeOf3 ma2 ma2 ((hat.mem0 h_).here ma23)) (Wl.ys rfl rfl (Ys.ld (a := ela a 0) rfl ma0 Tryz.isAgg3 (fun w_ h_ => (hat.mem0 h_).ld (v := iV .i64 x) rfl)) (Wl.run 1 ma0 (Wl.nil ?_))))
 refine hK11 _ _ _ (W.prune' [3, 5, 6, 7, 8] [iV .i64 0, iV .i64 x, Value.slice a 3 cap, iV .i64 3, iV .i64 0] ma0 (fun f12 => ?_))
 refine W.seq (fun K13 hK13 => W.region (Wl.run 3 ma0 (Wl.nil (hK13 _ _ _ ?_))))
 refine W.prune' [3, 5, 6, 7, 8, 14] [iV .i64 0, iV .i64 x, Value.slice a 3 cap, iV .i64 3, iV .i64 0, bV (x != 0)] ma0 (fun f14 => ?_)
 refine W.cond (x != 0) ma0 (fun h15 => ?_) (fun h16 => ?_)
 ·have qh15 := h15; try simp only [zA] at qh15
  refine W.seq (fun K17 hK17 => W.region (Wl.run 2 ma0 (Wl.nil (hK17 _ _ _ ?_))))
  refine W.prune' [2] [iV .i64 x] ma0 (fun f18 => W.ret ?_)
  show ∀ w_, _ → bodyPostM (fence none) 0 Tryz.prog Tryz.f64 _ Exit.ret _ w_
  exact fun w_ hS_ => fin_ret (ret1 rfl (RV.tmp (v := iV .i64 x) ma0) hS_ ⟨by clear hK1 hK2 hK3 hK4 hJ6 hK7 hK8 hK10 hK11 hK13 hK17; refine congrArg Ending.returned ?_; have z0_ := h15; simp at z0_; simp [orL, *], hS_.below⟩)
 ·have qh16 := h16; try simp only [zA] at qh16
  refine W.skip' (hK10 _ _ _ (W.prune' [3, 6, 7, 8] [iV .i64 0, Value.slice a 3 cap, iV .i64 3, iV .i64 0] ma0 (fun f19 => W.region (Wl.run 2 ma0 ?_))))
  refine Wl.nil (hJ6 _ _ _ (Wr.step (fun J20 hJ20 => W.prune' [3, 6, 7, 8] [iV .i64 0, Value.slice a 3 cap, iV .i64 3, iV .i64 1] ma0 (fun f21 => W.seq (fun K22 hK22 => ?_)))))
  refine W.region (Wl.run 1 ma0 (Wl.nil (hK22 _ _ _ (W.seq (fun K23 hK23 => ?_)))))
  refine W.condT ma0 (W.skip' (hK23 _ _ _ (W.prune' [3, 6, 7, 8] [iV .i64 0, Value.slice a 3 cap, iV .i64 3, iV .i64 1] ma0 (fun f24 => W.seq (fun K25 hK25 => ?_)))))
  refine W.block (W.seq (fun K26 hK26 => ?_))
  refine W.region (Wl.ys (v := Value.pointer (some (ela a 1))) rfl rfl (Ys.byMem fun w_ h_ => Ys.indexAddr (k := .i64) (a := a) (len := 3) (cap := cap) (i := 1) (sz := 1) rfl ma0 ma0 Tryz.runUnderlying224 Tryz.sizeOf3 ma2 ma2 ((hat.mem0 h_).here ma23)) (Wl.ys rfl rfl (Ys.ld (a := ela a 1) rfl ma0 Tryz.isAgg3 (fun w_ h_ => (hat.mem0 h_).ld (v := iV .i64 y) rfl)) (Wl.run 1 ma0 (Wl.nil ?_))))
  refine hK26 _ _ _ (W.prune' [3, 5, 6, 7, 8] [iV .i64 0, iV .i64 y, Value.slice a 3 cap, iV .i64 3, iV .i64 1] ma0 (fun f27 => ?_))
  refine W.seq (fun K28 hK28 => W.region (Wl.run 3 ma0 (Wl.nil (hK28 _ _ _ ?_))))
  refine W.prune' [3, 5, 6, 7, 8, 14] [iV .i64 0, iV .i64 y, Value.slice a 3 cap, iV .i64 3, iV .i64 1, bV (y != 0)] ma0 (fun f29 => ?_)
  refine W.cond (y != 0) ma0 (fun h30 => ?_) (fun h31 => ?_)
  ·have qh30 := h30; try simp only [zA] at qh30
   refine W.seq (fun K32 hK32 => W.region (Wl.run 2 ma0 (Wl.nil (hK32 _ _ _ ?_))))
   refine W.prune' [2] [iV .i64 y] ma0 (fun f33 => W.ret ?_)
   show ∀ w_, _ → bodyPostM (fence none) 0 Tryz.prog Tryz.f64 _ Exit.ret _ w_
   exact fun w_ hS_ => fin_ret (ret1 rfl (RV.tmp (v := iV .i64 y) ma0) hS_ ⟨by clear hK1 hK2 hK3 hK4 hJ6 hK7 hK8 hK10 hK11 hK13 hJ20 hK22 hK23 hK25 hK26 hK28 hK32; refine congrArg Ending.returned ?_; have z0_ := h16; have z1_ := h30; simp at z0_ z1_; simp [orL, *], hS_.below⟩)
  ·have qh31 := h31; try simp only [zA] at qh31
   refine W.skip' (hK25 _ _ _ (W.prune' [3, 6, 7, 8] [iV .i64 0, Value.slice a 3 cap, iV .i64 3, iV .i64 1] ma0 (fun f34 => W.region (Wl.run 2 ma0 ?_))))
   refine Wl.nil (hJ20 _ _ _ (Wr.step (fun J35 hJ35 => W.prune' [3, 6, 7, 8] [iV .i64 0, Value.slice a 3 cap, iV .i64 3, iV .i64 2] ma0 (fun f36 => W.seq (fun K37 hK37 => ?_)))))
   refine W.region (Wl.run 1 ma0 (Wl.nil (hK37 _ _ _ (W.seq (fun K38 hK38 => ?_)))))
   refine W.condT ma0 (W.skip' (hK38 _ _ _ (W.prune' [3, 6, 7, 8] [iV .i64 0, Value.slice a 3 cap, iV .i64 3, iV .i64 2] ma0 (fun f39 => W.seq (fun K40 hK40 => ?_)))))
   refine W.block (W.seq (fun K41 hK41 => ?_))
   refine W.region (Wl.ys (v := Value.pointer (some (ela a 2))) rfl rfl (Ys.byMem fun w_ h_ => Ys.indexAddr (k := .i64) (a := a) (len := 3) (cap := cap) (i := 2) (sz := 1) rfl ma0 ma0 Tryz.runUnderlying224 Tryz.sizeOf3 ma2 ma2 ((hat.mem0 h_).here ma23)) (Wl.ys rfl rfl (Ys.ld (a := ela a 2) rfl ma0 Tryz.isAgg3 (fun w_ h_ => (hat.mem0 h_).ld (v := iV .i64 z) rfl)) (Wl.run 1 ma0 (Wl.nil ?_))))
   refine hK41 _ _ _ (W.prune' [3, 5, 6, 7, 8] [iV .i64 0, iV .i64 z, Value.slice a 3 cap, iV .i64 3, iV .i64 2] ma0 (fun f42 => ?_))
   refine W.seq (fun K43 hK43 => W.region (Wl.run 3 ma0 (Wl.nil (hK43 _ _ _ ?_))))
   refine W.prune' [3, 5, 6, 7, 8, 14] [iV .i64 0, iV .i64 z, Value.slice a 3 cap, iV .i64 3, iV .i64 2, bV (z != 0)] ma0 (fun f44 => ?_)
   refine W.cond (z != 0) ma0 (fun h45 => ?_) (fun h46 => ?_)
   ·have qh45 := h45; try simp only [zA] at qh45
    refine W.seq (fun K47 hK47 => W.region (Wl.run 2 ma0 (Wl.nil (hK47 _ _ _ ?_))))
    refine W.prune' [2] [iV .i64 z] ma0 (fun f48 => W.ret ?_)
    show ∀ w_, _ → bodyPostM (fence none) 0 Tryz.prog Tryz.f64 _ Exit.ret _ w_
    exact fun w_ hS_ => fin_ret (ret1 rfl (RV.tmp (v := iV .i64 z) ma0) hS_ ⟨by clear hK1 hK2 hK3 hK4 hJ6 hK7 hK8 hK10 hK11 hK13 hJ20 hK22 hK23 hK25 hK26 hK28 hJ35 hK37 hK38 hK40 hK41 hK43 hK47; refine congrArg Ending.returned ?_; have z0_ := h16; have z1_ := h31; have z2_ := h45; simp at z0_ z1_ z2_; simp [orL, *], hS_.below⟩)
   ·have qh46 := h46; try simp only [zA] at qh46
    refine W.skip' (hK40 _ _ _ (W.prune' [3, 6, 7, 8] [iV .i64 0, Value.slice a 3 cap, iV .i64 3, iV .i64 2] ma0 (fun f49 => W.region (Wl.run 2 ma0 ?_))))
    refine Wl.nil (hJ35 _ _ _ (Wr.step (fun J50 hJ50 => W.prune' [3, 6, 7, 8] [iV .i64 0, Value.slice a 3 cap, iV .i64 3, iV .i64 3] ma0 (fun f51 => W.seq (fun K52 hK52 => ?_)))))
    refine W.region (Wl.run 1 ma0 (Wl.nil (hK52 _ _ _ (W.seq (fun K53 hK53 => ?_)))))
    refine W.condF ma0 (W.exit (hK3 _ _ _ (W.prune' [3] zl9 ma0 (fun f54 => W.seq (fun K55 hK55 => ?_)))))
    refine W.region (Wl.run 2 ma0 (Wl.nil (hK55 _ _ _ (W.prune' [2] zl9 ma0 (fun f56 => ?_)))))
    refine W.ret ?_
    show ∀ w_, _ → bodyPostM (fence none) 0 Tryz.prog Tryz.f64 _ Exit.ret _ w_
    exact fun w_ hS_ => fin_ret (ret1 rfl (RV.tmp (v := iV .i64 0) ma0) hS_ ⟨by clear hK1 hK2 hK3 hK4 hJ6 hK7 hK8 hK10 hK11 hK13 hJ20 hK22 hK23 hK25 hK26 hK28 hJ35 hK37 hK38 hK40 hK41 hK43 hJ50 hK52 hK53 hK55; refine congrArg Ending.returned ?_; have z0_ := h16; have z1_ := h31; have z2_ := h46; simp at z0_ z1_ z2_; simp [orL, *], hS_.below⟩)
theorem or5_c (x y z u v : Int) (a : Option Addr) (cap : Nat) (w : World) (hat : At w a [.int .i64 x, .int .i64 y, .int .i64 z, .int .i64 u, .int .i64 v]) : Calls Tryz.prog 64 #[Value.slice a 5 cap] w (Ret w (.int .i64 (orL [x, y, z, u, v]))) := by
 refine calls_W (M := []) (LL := []) (n := 18) Tryz.func64 rfl rfl ma6 (Mem.refl _) (W.seq (fun K1 hK1 => ?_))
 refine W.region (Wl.run 1 ma0 (Wl.nil (hK1 _ _ _ (W.seq (fun K2 hK2 => ?_)))))
 refine W.region (Wl.run 1 ma0 (Wl.nil (hK2 _ _ _ (W.seq (fun K3 hK3 => ?_)))))
 refine W.seq (fun K4 hK4 => W.region (Wl.run 3 ma0 (Wl.nil (hK4 _ _ _ ?_))))
 refine W.prune' [3, 6, 7, 8] [iV .i64 0, Value.slice a 5 cap, iV .i64 5, iV .i64 0] ma0 (fun f5 => W.block (W.rounds 6 (Wr.step (fun J6 hJ6 => W.seq (fun K7 hK7 => ?_)))))
 refine W.region (Wl.run 1 ma0 (Wl.nil (hK7 _ _ _ (W.seq (fun K8 hK8 => ?_)))))
 refine W.condT ma0 (W.skip' (hK8 _ _ _ (W.prune' [3, 6, 7, 8] [iV .i64 0, Value.slice a 5 cap, iV .i64 5, iV .i64 0] ma0 (fun f9 => W.seq (fun K10 hK10 => ?_)))))
 refine W.block (W.seq (fun K11 hK11 => ?_))
 refine W.region (Wl.ys (v := Value.pointer (some (ela a 0))) rfl rfl (Ys.byMem fun w_ h_ => Ys.indexAddr (k := .i64) (a := a) (len := 5) (cap := cap) (i := 0) (sz := 1) rfl ma0 ma0 Tryz.runUnderlying224 Tryz.sizeOf3 ma2 ma2 ((hat.mem0 h_).here ma23)) (Wl.ys rfl rfl (Ys.ld (a := ela a 0) rfl ma0 Tryz.isAgg3 (fun w_ h_ => (hat.mem0 h_).ld (v := iV .i64 x) rfl)) (Wl.run 1 ma0 (Wl.nil ?_))))
 refine hK11 _ _ _ (W.prune' [3, 5, 6, 7, 8] [iV .i64 0, iV .i64 x, Value.slice a 5 cap, iV .i64 5, iV .i64 0] ma0 (fun f12 => ?_))
 refine W.seq (fun K13 hK13 => W.region (Wl.run 3 ma0 (Wl.nil (hK13 _ _ _ ?_))))
 refine W.prune' [3, 5, 6, 7, 8, 14] [iV .i64 0, iV .i64 x, Value.slice a 5 cap, iV .i64 5, iV .i64 0, bV (x != 0)] ma0 (fun f14 => ?_)
 refine W.cond (x != 0) ma0 (fun h15 => ?_) (fun h16 => ?_)
 ·have qh15 := h15; try simp only [zA] at qh15
  refine W.seq (fun K17 hK17 => W.region (Wl.run 2 ma0 (Wl.nil (hK17 _ _ _ ?_))))
  refine W.prune' [2] [iV .i64 x] ma0 (fun f18 => W.ret ?_)
  show ∀ w_, _ → bodyPostM (fence none) 0 Tryz.prog Tryz.f64 _ Exit.ret _ w_
  exact fun w_ hS_ => fin_ret (ret1 rfl (RV.tmp (v := iV .i64 x) ma0) hS_ ⟨by clear hK1 hK2 hK3 hK4 hJ6 hK7 hK8 hK10 hK11 hK13 hK17; refine congrArg Ending.returned ?_; have z0_ := h15; simp at z0_; simp [orL, *], hS_.below⟩)
 ·have qh16 := h16; try simp only [zA] at qh16
  refine W.skip' (hK10 _ _ _ (W.prune' [3, 6, 7, 8] [iV .i64 0, Value.slice a 5 cap, iV .i64 5, iV .i64 0] ma0 (fun f19 => W.region (Wl.run 2 ma0 ?_))))
  refine Wl.nil (hJ6 _ _ _ (Wr.step (fun J20 hJ20 => W.prune' [3, 6, 7, 8] [iV .i64 0, Value.slice a 5 cap, iV .i64 5, iV .i64 1] ma0 (fun f21 => W.seq (fun K22 hK22 => ?_)))))
  refine W.region (Wl.run 1 ma0 (Wl.nil (hK22 _ _ _ (W.seq (fun K23 hK23 => ?_)))))
  refine W.condT ma0 (W.skip' (hK23 _ _ _ (W.prune' [3, 6, 7, 8] [iV .i64 0, Value.slice a 5 cap, iV .i64 5, iV .i64 1] ma0 (fun f24 => W.seq (fun K25 hK25 => ?_)))))
  refine W.block (W.seq (fun K26 hK26 => ?_))
  refine W.region (Wl.ys (v := Value.pointer (some (ela a 1))) rfl rfl (Ys.byMem fun w_ h_ => Ys.indexAddr (k := .i64) (a := a) (len := 5) (cap := cap) (i := 1) (sz := 1) rfl ma0 ma0 Tryz.runUnderlying224 Tryz.sizeOf3 ma2 ma2 ((hat.mem0 h_).here ma23)) (Wl.ys rfl rfl (Ys.ld (a := ela a 1) rfl ma0 Tryz.isAgg3 (fun w_ h_ => (hat.mem0 h_).ld (v := iV .i64 y) rfl)) (Wl.run 1 ma0 (Wl.nil ?_))))
  refine hK26 _ _ _ (W.prune' [3, 5, 6, 7, 8] [iV .i64 0, iV .i64 y, Value.slice a 5 cap, iV .i64 5, iV .i64 1] ma0 (fun f27 => ?_))
  refine W.seq (fun K28 hK28 => W.region (Wl.run 3 ma0 (Wl.nil (hK28 _ _ _ ?_))))
  refine W.prune' [3, 5, 6, 7, 8, 14] [iV .i64 0, iV .i64 y, Value.slice a 5 cap, iV .i64 5, iV .i64 1, bV (y != 0)] ma0 (fun f29 => ?_)
  refine W.cond (y != 0) ma0 (fun h30 => ?_) (fun h31 => ?_)
  ·have qh30 := h30; try simp only [zA] at qh30
   refine W.seq (fun K32 hK32 => W.region (Wl.run 2 ma0 (Wl.nil (hK32 _ _ _ ?_))))
   refine W.prune' [2] [iV .i64 y] ma0 (fun f33 => W.ret ?_)
   show ∀ w_, _ → bodyPostM (fence none) 0 Tryz.prog Tryz.f64 _ Exit.ret _ w_
   exact fun w_ hS_ => fin_ret (ret1 rfl (RV.tmp (v := iV .i64 y) ma0) hS_ ⟨by clear hK1 hK2 hK3 hK4 hJ6 hK7 hK8 hK10 hK11 hK13 hJ20 hK22 hK23 hK25 hK26 hK28 hK32; refine congrArg Ending.returned ?_; have z0_ := h16; have z1_ := h30; simp at z0_ z1_; simp [orL, *], hS_.below⟩)
  ·have qh31 := h31; try simp only [zA] at qh31
   refine W.skip' (hK25 _ _ _ (W.prune' [3, 6, 7, 8] [iV .i64 0, Value.slice a 5 cap, iV .i64 5, iV .i64 1] ma0 (fun f34 => W.region (Wl.run 2 ma0 ?_))))
   refine Wl.nil (hJ20 _ _ _ (Wr.step (fun J35 hJ35 => W.prune' [3, 6, 7, 8] [iV .i64 0, Value.slice a 5 cap, iV .i64 5, iV .i64 2] ma0 (fun f36 => W.seq (fun K37 hK37 => ?_)))))
   refine W.region (Wl.run 1 ma0 (Wl.nil (hK37 _ _ _ (W.seq (fun K38 hK38 => ?_)))))
   refine W.condT ma0 (W.skip' (hK38 _ _ _ (W.prune' [3, 6, 7, 8] [iV .i64 0, Value.slice a 5 cap, iV .i64 5, iV .i64 2] ma0 (fun f39 => W.seq (fun K40 hK40 => ?_)))))
   refine W.block (W.seq (fun K41 hK41 => ?_))
   refine W.region (Wl.ys (v := Value.pointer (some (ela a 2))) rfl rfl (Ys.byMem fun w_ h_ => Ys.indexAddr (k := .i64) (a := a) (len := 5) (cap := cap) (i := 2) (sz := 1) rfl ma0 ma0 Tryz.runUnderlying224 Tryz.sizeOf3 ma2 ma2 ((hat.mem0 h_).here ma23)) (Wl.ys rfl rfl (Ys.ld (a := ela a 2) rfl ma0 Tryz.isAgg3 (fun w_ h_ => (hat.mem0 h_).ld (v := iV .i64 z) rfl)) (Wl.run 1 ma0 (Wl.nil ?_))))
   refine hK41 _ _ _ (W.prune' [3, 5, 6, 7, 8] [iV .i64 0, iV .i64 z, Value.slice a 5 cap, iV .i64 5, iV .i64 2] ma0 (fun f42 => ?_))
   refine W.seq (fun K43 hK43 => W.region (Wl.run 3 ma0 (Wl.nil (hK43 _ _ _ ?_))))
   refine W.prune' [3, 5, 6, 7, 8, 14] [iV .i64 0, iV .i64 z, Value.slice a 5 cap, iV .i64 5, iV .i64 2, bV (z != 0)] ma0 (fun f44 => ?_)
   refine W.cond (z != 0) ma0 (fun h45 => ?_) (fun h46 => ?_)
   ·have qh45 := h45; try simp only [zA] at qh45
    refine W.seq (fun K47 hK47 => W.region (Wl.run 2 ma0 (Wl.nil (hK47 _ _ _ ?_))))
    refine W.prune' [2] [iV .i64 z] ma0 (fun f48 => W.ret ?_)
    show ∀ w_, _ → bodyPostM (fence none) 0 Tryz.prog Tryz.f64 _ Exit.ret _ w_
    exact fun w_ hS_ => fin_ret (ret1 rfl (RV.tmp (v := iV .i64 z) ma0) hS_ ⟨by clear hK1 hK2 hK3 hK4 hJ6 hK7 hK8 hK10 hK11 hK13 hJ20 hK22 hK23 hK25 hK26 hK28 hJ35 hK37 hK38 hK40 hK41 hK43 hK47; refine congrArg Ending.returned ?_; have z0_ := h16; have z1_ := h31; have z2_ := h45; simp at z0_ z1_ z2_; simp [orL, *], hS_.below⟩)
   ·have qh46 := h46; try simp only [zA] at qh46
    refine W.skip' (hK40 _ _ _ (W.prune' [3, 6, 7, 8] [iV .i64 0, Value.slice a 5 cap, iV .i64 5, iV .i64 2] ma0 (fun f49 => W.region (Wl.run 2 ma0 ?_))))
    refine Wl.nil (hJ35 _ _ _ (Wr.step (fun J50 hJ50 => W.prune' [3, 6, 7, 8] [iV .i64 0, Value.slice a 5 cap, iV .i64 5, iV .i64 3] ma0 (fun f51 => W.seq (fun K52 hK52 => ?_)))))
    refine W.region (Wl.run 1 ma0 (Wl.nil (hK52 _ _ _ (W.seq (fun K53 hK53 => ?_)))))
    refine W.condT ma0 (W.skip' (hK53 _ _ _ (W.prune' [3, 6, 7, 8] [iV .i64 0, Value.slice a 5 cap, iV .i64 5, iV .i64 3] ma0 (fun f54 => W.seq (fun K55 hK55 => ?_)))))
    refine W.block (W.seq (fun K56 hK56 => ?_))
    refine W.region (Wl.ys (v := Value.pointer (some (ela a 3))) rfl rfl (Ys.byMem fun w_ h_ => Ys.indexAddr (k := .i64) (a := a) (len := 5) (cap := cap) (i := 3) (sz := 1) rfl ma0 ma0 Tryz.runUnderlying224 Tryz.sizeOf3 ma2 ma2 ((hat.mem0 h_).here ma23)) (Wl.ys rfl rfl (Ys.ld (a := ela a 3) rfl ma0 Tryz.isAgg3 (fun w_ h_ => (hat.mem0 h_).ld (v := iV .i64 u) rfl)) (Wl.run 1 ma0 (Wl.nil ?_))))
    refine hK56 _ _ _ (W.prune' [3, 5, 6, 7, 8] [iV .i64 0, iV .i64 u, Value.slice a 5 cap, iV .i64 5, iV .i64 3] ma0 (fun f57 => ?_))
    refine W.seq (fun K58 hK58 => W.region (Wl.run 3 ma0 (Wl.nil (hK58 _ _ _ ?_))))
    refine W.prune' [3, 5, 6, 7, 8, 14] [iV .i64 0, iV .i64 u, Value.slice a 5 cap, iV .i64 5, iV .i64 3, bV (u != 0)] ma0 (fun f59 => ?_)
    refine W.cond (u != 0) ma0 (fun h60 => ?_) (fun h61 => ?_)
    ·have qh60 := h60; try simp only [zA] at qh60
     refine W.seq (fun K62 hK62 => W.region (Wl.run 2 ma0 (Wl.nil (hK62 _ _ _ ?_))))
     refine W.prune' [2] [iV .i64 u] ma0 (fun f63 => W.ret ?_)
     show ∀ w_, _ → bodyPostM (fence none) 0 Tryz.prog Tryz.f64 _ Exit.ret _ w_
     exact fun w_ hS_ => fin_ret (ret1 rfl (RV.tmp (v := iV .i64 u) ma0) hS_ ⟨by clear hK1 hK2 hK3 hK4 hJ6 hK7 hK8 hK10 hK11 hK13 hJ20 hK22 hK23 hK25 hK26 hK28 hJ35 hK37 hK38 hK40 hK41 hK43 hJ50 hK52 hK53 hK55 hK56 hK58 hK62; refine congrArg Ending.returned ?_; have z0_ := h16; have z1_ := h31; have z2_ := h46; have z3_ := h60; simp at z0_ z1_ z2_ z3_; simp [orL, *], hS_.below⟩)
    ·have qh61 := h61; try simp only [zA] at qh61
     refine W.skip' (hK55 _ _ _ (W.prune' [3, 6, 7, 8] [iV .i64 0, Value.slice a 5 cap, iV .i64 5, iV .i64 3] ma0 (fun f64 => W.region (Wl.run 2 ma0 ?_))))
     refine Wl.nil (hJ50 _ _ _ (Wr.step (fun J65 hJ65 => W.prune' [3, 6, 7, 8] [iV .i64 0, Value.slice a 5 cap, iV .i64 5, iV .i64 4] ma0 (fun f66 => W.seq (fun K67 hK67 => ?_)))))
     refine W.region (Wl.run 1 ma0 (Wl.nil (hK67 _ _ _ (W.seq (fun K68 hK68 => ?_)))))
     refine W.condT ma0 (W.skip' (hK68 _ _ _ (W.prune' [3, 6, 7, 8] [iV .i64 0, Value.slice a 5 cap, iV .i64 5, iV .i64 4] ma0 (fun f69 => W.seq (fun K70 hK70 => ?_)))))
     refine W.block (W.seq (fun K71 hK71 => ?_))
     refine W.region (Wl.ys (v := Value.pointer (some (ela a 4))) rfl rfl (Ys.byMem fun w_ h_ => Ys.indexAddr (k := .i64) (a := a) (len := 5) (cap := cap) (i := 4) (sz := 1) rfl ma0 ma0 Tryz.runUnderlying224 Tryz.sizeOf3 ma2 ma2 ((hat.mem0 h_).here ma23)) (Wl.ys rfl rfl (Ys.ld (a := ela a 4) rfl ma0 Tryz.isAgg3 (fun w_ h_ => (hat.mem0 h_).ld (v := iV .i64 v) rfl)) (Wl.run 1 ma0 (Wl.nil ?_))))
     refine hK71 _ _ _ (W.prune' [3, 5, 6, 7, 8] [iV .i64 0, iV .i64 v, Value.slice a 5 cap, iV .i64 5, iV .i64 4] ma0 (fun f72 => ?_))
     refine W.seq (fun K73 hK73 => W.region (Wl.run 3 ma0 (Wl.nil (hK73 _ _ _ ?_))))
     refine W.prune' [3, 5, 6, 7, 8, 14] [iV .i64 0, iV .i64 v, Value.slice a 5 cap, iV .i64 5, iV .i64 4, bV (v != 0)] ma0 (fun f74 => ?_)
     refine W.cond (v != 0) ma0 (fun h75 => ?_) (fun h76 => ?_)
     ·have qh75 := h75; try simp only [zA] at qh75
      refine W.seq (fun K77 hK77 => W.region (Wl.run 2 ma0 (Wl.nil (hK77 _ _ _ ?_))))
      refine W.prune' [2] [iV .i64 v] ma0 (fun f78 => W.ret ?_)
      show ∀ w_, _ → bodyPostM (fence none) 0 Tryz.prog Tryz.f64 _ Exit.ret _ w_
      exact fun w_ hS_ => fin_ret (ret1 rfl (RV.tmp (v := iV .i64 v) ma0) hS_ ⟨by clear hK1 hK2 hK3 hK4 hJ6 hK7 hK8 hK10 hK11 hK13 hJ20 hK22 hK23 hK25 hK26 hK28 hJ35 hK37 hK38 hK40 hK41 hK43 hJ50 hK52 hK53 hK55 hK56 hK58 hJ65 hK67 hK68 hK70 hK71 hK73 hK77; refine congrArg Ending.returned ?_; have z0_ := h16; have z1_ := h31; have z2_ := h46; have z3_ := h61; have z4_ := h75; simp at z0_ z1_ z2_ z3_ z4_; simp [orL, *], hS_.below⟩)
     ·have qh76 := h76; try simp only [zA] at qh76
      refine W.skip' (hK70 _ _ _ (W.prune' [3, 6, 7, 8] [iV .i64 0, Value.slice a 5 cap, iV .i64 5, iV .i64 4] ma0 (fun f79 => W.region (Wl.run 2 ma0 ?_))))
      refine Wl.nil (hJ65 _ _ _ (Wr.step (fun J80 hJ80 => W.prune' [3, 6, 7, 8] [iV .i64 0, Value.slice a 5 cap, iV .i64 5, iV .i64 5] ma0 (fun f81 => W.seq (fun K82 hK82 => ?_)))))
      refine W.region (Wl.run 1 ma0 (Wl.nil (hK82 _ _ _ (W.seq (fun K83 hK83 => ?_)))))
      refine W.condF ma0 (W.exit (hK3 _ _ _ (W.prune' [3] zl9 ma0 (fun f84 => W.seq (fun K85 hK85 => ?_)))))
      refine W.region (Wl.run 2 ma0 (Wl.nil (hK85 _ _ _ (W.prune' [2] zl9 ma0 (fun f86 => ?_)))))
      refine W.ret ?_
      show ∀ w_, _ → bodyPostM (fence none) 0 Tryz.prog Tryz.f64 _ Exit.ret _ w_
      exact fun w_ hS_ => fin_ret (ret1 rfl (RV.tmp (v := iV .i64 0) ma0) hS_ ⟨by clear hK1 hK2 hK3 hK4 hJ6 hK7 hK8 hK10 hK11 hK13 hJ20 hK22 hK23 hK25 hK26 hK28 hJ35 hK37 hK38 hK40 hK41 hK43 hJ50 hK52 hK53 hK55 hK56 hK58 hJ65 hK67 hK68 hK70 hK71 hK73 hJ80 hK82 hK83 hK85; refine congrArg Ending.returned ?_; have z0_ := h16; have z1_ := h31; have z2_ := h46; have z3_ := h61; have z4_ := h76; simp at z0_ z1_ z2_ z3_ z4_; simp [orL, *], hS_.below⟩)
theorem orL_cons {x : Int} {xs : List Int} : orL (x :: xs) = bif decide (x = 0) then orL xs else x := by
  show (if x ≠ 0 then x else orL xs) = _
  by_cases h : x = 0
  · rw [if_neg (fun g => g h), decide_eq_true h]; rfl
  · rw [if_pos h, decide_eq_false h]; rfl
theorem orE (a b : Int × Int × Int) : orL [LO.cmp LO.int a.1 b.1, LO.cmp LO.int a.2.1 b.2.1, LO.cmp LO.int a.2.2 b.2.2] = LO.cmp ordE a b := by
  unfold ordE
  rw [LO.lex_cmp, LO.lex_cmp, orL_cons, orL_cons, orL_cons]
  cases decide (LO.cmp LO.int a.1 b.1 = 0) <;> cases decide (LO.cmp LO.int a.2.1 b.2.1 = 0) <;> simp only [cond_true, cond_false]
  by_cases h : LO.cmp LO.int a.2.2 b.2.2 = 0
  · rw [decide_eq_true h, h]; rfl
  · rw [decide_eq_false h]; rfl
theorem orF (a b : FlwT) : orL [LO.cmp LO.int a.1 b.1, LO.cmp LO.int a.2.1 b.2.1, LO.cmp LO.int a.2.2.2.1 b.2.2.2.1, LO.cmp LO.int a.2.2.1 b.2.2.1, LO.cmp LO.int a.2.2.2.2 b.2.2.2.2] = LO.cmp ordF a b := by
  show _ = LO.cmp (LO.lex LO.int (LO.lex LO.int (LO.lex LO.int (LO.lex LO.int LO.int)))) (flwF a) (flwF b)
  unfold flwF
  rw [LO.lex_cmp, LO.lex_cmp, LO.lex_cmp, LO.lex_cmp, orL_cons, orL_cons, orL_cons, orL_cons, orL_cons]
  cases decide (LO.cmp LO.int a.1 b.1 = 0) <;> cases decide (LO.cmp LO.int a.2.1 b.2.1 = 0) <;> cases decide (LO.cmp LO.int a.2.2.2.1 b.2.2.2.1 = 0) <;> cases decide (LO.cmp LO.int a.2.2.1 b.2.2.1 = 0) <;> simp only [cond_true, cond_false]
  by_cases h : LO.cmp LO.int a.2.2.2.2 b.2.2.2.2 = 0
  · rw [decide_eq_true h, h]; rfl
  · rw [decide_eq_false h]; rfl
theorem ordE_c (a b : Int × Int × Int) (w : World) : Calls Tryz.prog 33 #[aV [iV .u8 a.1, iV .u32 a.2.1, iV .u16 a.2.2], aV [iV .u8 b.1, iV .u32 b.2.1, iV .u16 b.2.2]] w (Ret w (.int .i64 (LO.cmp ordE a b))) := by
 refine calls_W (M := []) (LL := []) (n := 22) Tryz.func33 rfl rfl ma6 (Mem.refl _) (W.seq (fun K1 hK1 => ?_))
 refine W.region (Wl.ht rfl (Ht.box (v := aV [iV .u8 a.1, iV .u32 a.2.1, iV .u16 a.2.2]) (cs := [iV .u8 a.1, iV .u32 a.2.1, iV .u16 a.2.2]) rfl rfl ma0 rfl) (fun p2 => ?_))
 refine Wl.ht rfl (Ht.box (v := aV [iV .u8 b.1, iV .u32 b.2.1, iV .u16 b.2.2]) (cs := [iV .u8 b.1, iV .u32 b.2.1, iV .u16 b.2.2]) rfl rfl ma0 rfl) (fun p3 => Wl.run 1 ma0 (Wl.nil (hK1 _ _ _ (W.prune' [2, 3] [pV p2 0, pV p3 0] ma0 (fun f2 => ?_)))))
 refine W.seq (fun K3 hK3 => W.draws [(0, true), (1, true), (2, true), (3, true), (5, true), (6, true), (7, true), (8, true), (10, true), (11, true), (12, true), (13, true), (4, false), (9, false), (14, false), (15, false), (16, false), (17, false)] [0, 1, 2, 3, 5, 6, 7, 8, 10, 11, 12, 13] (Mem w [] [[cb p3 [iV .u8 b.1, iV .u32 b.2.1, iV .u16 b.2.2] 97], [cb p2 [iV .u8 a.1, iV .u32 a.2.1, iV .u16 a.2.2] 97]]) ma0 ma0 ma0 rfl ma0 (fun _ _ h_ => h_.drawn _) (fun _ h_ => h_) (Wd.run 1 ma0 (Wd.ys rfl rfl rfl (Ys.l1 p2 0 1 0 Tryz.isAgg5) (Wd.run 1 ma0 ?_))))
 refine Wd.ys rfl rfl rfl (Ys.l1 p3 0 0 0 Tryz.isAgg5) (Wd.run 1 ma0 (Wd.ys rfl rfl rfl (Ys.l1 p2 1 1 0 Tryz.isAgg24) (Wd.run 1 ma0 (Wd.ys rfl rfl rfl (Ys.l1 p3 1 0 0 Tryz.isAgg24) ?_))))
 refine Wd.run 1 ma0 (Wd.ys rfl rfl rfl (Ys.l1 p2 2 1 0 Tryz.isAgg22) (Wd.run 1 ma0 (Wd.ys rfl rfl rfl (Ys.l1 p3 2 0 0 Tryz.isAgg22) (Wd.yc (v := iV .i64 (LO.cmp LO.int a.1 b.1)) rfl rfl rfl (Yc.call (fun _ => kr) (fun w_ hm_ => (cmpm8_c a.1 b.1 _))) (.inr fun _ h_ => h_) ?_))))
 refine Wd.yc (v := iV .i64 (LO.cmp LO.int a.2.1 b.2.1)) rfl rfl rfl (Yc.call (fun _ => kr) (fun w_ hm_ => (cmpm32_c a.2.1 b.2.1 _))) (.inr fun _ h_ => h_) (Wd.yc (v := iV .i64 (LO.cmp LO.int a.2.2 b.2.2)) rfl rfl rfl (Yc.call (fun _ => kr) (fun w_ hm_ => (cmpm16_c a.2.2 b.2.2 _))) (.inr fun _ h_ => h_) (Wd.ht rfl rfl (Ht.made (mk := fun b_ => .slice (some ⟨b_, 0, none⟩) 3 3) (t := 3) (cs := [iV .i64 (LO.cmp LO.int a.1 b.1), iV .i64 (LO.cmp LO.int a.2.1 b.2.1), iV .i64 (LO.cmp LO.int a.2.2 b.2.2)]) rfl (fun _ => kr)) (.inr fun _ _ h_ => h_.pick [1, 2] ma2 rfl) (fun p20 => Wd.yc (v := iV .i64 (orL [LO.cmp LO.int a.1 b.1, LO.cmp LO.int a.2.1 b.2.1, LO.cmp LO.int a.2.2 b.2.2])) rfl rfl rfl (Yc.call (fun _ => kr) (fun w_ hm_ => (or3_c (LO.cmp LO.int a.1 b.1) (LO.cmp LO.int a.2.1 b.2.1) (LO.cmp LO.int a.2.2 b.2.2) (some ⟨p20, 0, none⟩) 3 _ (At.lit0 (i := 0) (j := 0) (t := 3) (b := p20) hm_ rfl rfl)))) (.inr fun _ h_ => h_.pick [1, 2] ma2 rfl) (Wd.yc (v := iV .i64 (orL [LO.cmp LO.int a.1 b.1, LO.cmp LO.int a.2.1 b.2.1, LO.cmp LO.int a.2.2 b.2.2])) rfl rfl rfl (Ys.yc (Ys.pure (fun _ => kr))) (.inl ma0) ?_))))
 refine Wd.nil (hK3 _ _ _ (W.pick (LL' := []) [] ma2 rfl (W.prune' [4] [iV .i64 (orL [LO.cmp LO.int a.1 b.1, LO.cmp LO.int a.2.1 b.2.1, LO.cmp LO.int a.2.2 b.2.2])] ma0 (fun f4 => W.ret ?_))))
 show ∀ w_, _ → bodyPostM (fence none) 0 Tryz.prog Tryz.f33 _ Exit.ret _ w_
 exact fun w_ hS_ => fin_ret (ret1 rfl (RV.tmp (v := iV .i64 (orL [LO.cmp LO.int a.1 b.1, LO.cmp LO.int a.2.1 b.2.1, LO.cmp LO.int a.2.2 b.2.2])) ma0) hS_ ⟨by clear hK1 hK3; refine congrArg Ending.returned ?_; rw [orE], hS_.below⟩)
theorem ordF_c (a b : Int × Int × Int × Int × Int) (w : World) : Calls Tryz.prog 31 #[aV [iV .u8 a.1, iV .u32 a.2.1, iV .u32 a.2.2.1, iV .u16 a.2.2.2.1, iV .u16 a.2.2.2.2], aV [iV .u8 b.1, iV .u32 b.2.1, iV .u32 b.2.2.1, iV .u16 b.2.2.2.1, iV .u16 b.2.2.2.2]] w (Ret w (.int .i64 (LO.cmp ordF a b))) := by
 refine calls_W (M := []) (LL := []) (n := 32) Tryz.func31 rfl rfl ma6 (Mem.refl _) (W.seq (fun K1 hK1 => ?_))
 refine W.region (Wl.ht rfl (Ht.box (v := aV [iV .u8 a.1, iV .u32 a.2.1, iV .u32 a.2.2.1, iV .u16 a.2.2.2.1, iV .u16 a.2.2.2.2]) (cs := [iV .u8 a.1, iV .u32 a.2.1, iV .u32 a.2.2.1, iV .u16 a.2.2.2.1, iV .u16 a.2.2.2.2]) rfl rfl ma0 rfl) (fun p2 => ?_))
 refine Wl.ht rfl (Ht.box (v := aV [iV .u8 b.1, iV .u32 b.2.1, iV .u32 b.2.2.1, iV .u16 b.2.2.2.1, iV .u16 b.2.2.2.2]) (cs := [iV .u8 b.1, iV .u32 b.2.1, iV .u32 b.2.2.1, iV .u16 b.2.2.2.1, iV .u16 b.2.2.2.2]) rfl rfl ma0 rfl) (fun p3 => Wl.run 1 ma0 (Wl.nil (hK1 _ _ _ (W.prune' [2, 3] [pV p2 0, pV p3 0] ma0 (fun f2 => ?_)))))
 refine W.seq (fun K3 hK3 => W.draws [(0, true), (1, true), (2, true), (3, true), (5, true), (6, true), (7, true), (8, true), (10, true), (11, true), (12, true), (13, true), (15, true), (16, true), (17, true), (18, true), (20, true), (21, true), (22, true), (23, true), (4, false), (9, false), (14, false), (19, false), (24, false), (25, false), (26, false), (27, false)] [0, 1, 2, 3, 5, 6, 7, 8, 10, 11, 12, 13, 15, 16, 17, 18, 20, 21, 22, 23] (Mem w [] [[cb p3 [iV .u8 b.1, iV .u32 b.2.1, iV .u32 b.2.2.1, iV .u16 b.2.2.2.1, iV .u16 b.2.2.2.2] 47], [cb p2 [iV .u8 a.1, iV .u32 a.2.1, iV .u32 a.2.2.1, iV .u16 a.2.2.2.1, iV .u16 a.2.2.2.2] 47]]) ma0 ma0 ma0 rfl ma0 (fun _ _ h_ => h_.drawn _) (fun _ h_ => h_) (Wd.run 1 ma0 (Wd.ys rfl rfl rfl (Ys.l1 p2 0 1 0 Tryz.isAgg5) (Wd.run 1 ma0 ?_))))
 refine Wd.ys rfl rfl rfl (Ys.l1 p3 0 0 0 Tryz.isAgg5) (Wd.run 1 ma0 (Wd.ys rfl rfl rfl (Ys.l1 p2 1 1 0 Tryz.isAgg24) (Wd.run 1 ma0 (Wd.ys rfl rfl rfl (Ys.l1 p3 1 0 0 Tryz.isAgg24) ?_))))
 refine Wd.run 1 ma0 (Wd.ys rfl rfl rfl (Ys.l1 p2 3 1 0 Tryz.isAgg22) (Wd.run 1 ma0 (Wd.ys rfl rfl rfl (Ys.l1 p3 3 0 0 Tryz.isAgg22) (Wd.run 1 ma0 ?_))))
 refine Wd.ys rfl rfl rfl (Ys.l1 p2 2 1 0 Tryz.isAgg24) (Wd.run 1 ma0 (Wd.ys rfl rfl rfl (Ys.l1 p3 2 0 0 Tryz.isAgg24) (Wd.run 1 ma0 (Wd.ys rfl rfl rfl (Ys.l1 p2 4 1 0 Tryz.isAgg22) ?_))))
 refine Wd.run 1 ma0 (Wd.ys rfl rfl rfl (Ys.l1 p3 4 0 0 Tryz.isAgg22) (Wd.yc (v := iV .i64 (LO.cmp LO.int a.1 b.1)) rfl rfl rfl (Yc.call (fun _ => kr) (fun w_ hm_ => (cmpm8_c a.1 b.1 _))) (.inr fun _ h_ => h_) (Wd.yc (v := iV .i64 (LO.cmp LO.int a.2.1 b.2.1)) rfl rfl rfl (Yc.call (fun _ => kr) (fun w_ hm_ => (cmpm32_c a.2.1 b.2.1 _))) (.inr fun _ h_ => h_) (Wd.yc (v := iV .i64 (LO.cmp LO.int a.2.2.2.1 b.2.2.2.1)) rfl rfl rfl (Yc.call (fun _ => kr) (fun w_ hm_ => (cmpm16_c a.2.2.2.1 b.2.2.2.1 _))) (.inr fun _ h_ => h_) ?_))))
 refine Wd.yc (v := iV .i64 (LO.cmp LO.int a.2.2.1 b.2.2.1)) rfl rfl rfl (Yc.call (fun _ => kr) (fun w_ hm_ => (cmpm32_c a.2.2.1 b.2.2.1 _))) (.inr fun _ h_ => h_) (Wd.yc (v := iV .i64 (LO.cmp LO.int a.2.2.2.2 b.2.2.2.2)) rfl rfl rfl (Yc.call (fun _ => kr) (fun w_ hm_ => (cmpm16_c a.2.2.2.2 b.2.2.2.2 _))) (.inr fun _ h_ => h_) (Wd.ht rfl rfl (Ht.made (mk := fun b_ => .slice (some ⟨b_, 0, none⟩) 5 5) (t := 3) (cs := [iV .i64 (LO.cmp LO.int a.1 b.1), iV .i64 (LO.cmp LO.int a.2.1 b.2.1), iV .i64 (LO.cmp LO.int a.2.2.2.1 b.2.2.2.1), iV .i64 (LO.cmp LO.int a.2.2.1 b.2.2.1), iV .i64 (LO.cmp LO.int a.2.2.2.2 b.2.2.2.2)]) rfl (fun _ => kr)) (.inr fun _ _ h_ => h_.pick [1, 2] ma2 rfl) (fun p30 => Wd.yc (v := iV .i64 (orL [LO.cmp LO.int a.1 b.1, LO.cmp LO.int a.2.1 b.2.1, LO.cmp LO.int a.2.2.2.1 b.2.2.2.1, LO.cmp LO.int a.2.2.1 b.2.2.1, LO.cmp LO.int a.2.2.2.2 b.2.2.2.2])) rfl rfl rfl (Yc.call (fun _ => kr) (fun w_ hm_ => (or5_c (LO.cmp LO.int a.1 b.1) (LO.cmp LO.int a.2.1 b.2.1) (LO.cmp LO.int a.2.2.2.1 b.2.2.2.1) (LO.cmp LO.int a.2.2.1 b.2.2.1) (LO.cmp LO.int a.2.2.2.2 b.2.2.2.2) (some ⟨p30, 0, none⟩) 5 _ (At.lit0 (i := 0) (j := 0) (t := 3) (b := p30) hm_ rfl rfl)))) (.inr fun _ h_ => h_.pick [1, 2] ma2 rfl) (Wd.yc (v := iV .i64 (orL [LO.cmp LO.int a.1 b.1, LO.cmp LO.int a.2.1 b.2.1, LO.cmp LO.int a.2.2.2.1 b.2.2.2.1, LO.cmp LO.int a.2.2.1 b.2.2.1, LO.cmp LO.int a.2.2.2.2 b.2.2.2.2])) rfl rfl rfl (Ys.yc (Ys.pure (fun _ => kr))) (.inl ma0) ?_))))
 refine Wd.nil (hK3 _ _ _ (W.pick (LL' := []) [] ma2 rfl (W.prune' [4] [iV .i64 (orL [LO.cmp LO.int a.1 b.1, LO.cmp LO.int a.2.1 b.2.1, LO.cmp LO.int a.2.2.2.1 b.2.2.2.1, LO.cmp LO.int a.2.2.1 b.2.2.1, LO.cmp LO.int a.2.2.2.2 b.2.2.2.2])] ma0 (fun f4 => W.ret ?_))))
 show ∀ w_, _ → bodyPostM (fence none) 0 Tryz.prog Tryz.f31 _ Exit.ret _ w_
 exact fun w_ hS_ => fin_ret (ret1 rfl (RV.tmp (v := iV .i64 (orL [LO.cmp LO.int a.1 b.1, LO.cmp LO.int a.2.1 b.2.1, LO.cmp LO.int a.2.2.2.1 b.2.2.2.1, LO.cmp LO.int a.2.2.1 b.2.2.1, LO.cmp LO.int a.2.2.2.2 b.2.2.2.2])) ma0) hS_ ⟨by clear hK1 hK3; refine congrArg Ending.returned ?_; rw [orF], hS_.below⟩)
abbrev dNa1_880_0 (k : Int × Int × Int × Int × Int) : List Value := [iV .u8 k.1, iV .u32 k.2.1, iV .u32 k.2.2.1, iV .u16 k.2.2.2.1, iV .u16 k.2.2.2.2]
theorem fcmpS_c (x : (Int × Int × Int × Int × Int) × (Option Nat)) (k : Int × Int × Int × Int × Int) (a : Option Addr) (n cap : Nat) (most : Int) (tb pt : Nat) (w : World) (hpt : At w (some ⟨pt, 0, none⟩) [Value.pointer (some ⟨tb, 0, none⟩)]) (htb : At w (some ⟨tb, 0, none⟩) [Value.slice a n cap, Value.int .i64 most, Value.func (.func 31) #[] #[]]) : Calls Tryz.prog 161 #[aV [iV .u8 x.1.1, iV .u32 x.1.2.1, iV .u32 x.1.2.2.1, iV .u16 x.1.2.2.2.1, iV .u16 x.1.2.2.2.2, Value.pointer (optA x.2)], aV [iV .u8 k.1, iV .u32 k.2.1, iV .u32 k.2.2.1, iV .u16 k.2.2.2.1, iV .u16 k.2.2.2.2], pV pt 0] w (Ret w (.int .i64 (LO.cmp ordF x.1 k))) := by
 refine calls_W (M := []) (LL := []) (n := 14) Tryz.func161 rfl rfl ma6 (Mem.refl _) (W.seq (fun K1 hK1 => ?_))
 refine W.region (Wl.ht rfl (Ht.box (v := aV [iV .u8 x.1.1, iV .u32 x.1.2.1, iV .u32 x.1.2.2.1, iV .u16 x.1.2.2.2.1, iV .u16 x.1.2.2.2.2, Value.pointer (optA x.2)]) (cs := [iV .u8 x.1.1, iV .u32 x.1.2.1, iV .u32 x.1.2.2.1, iV .u16 x.1.2.2.2.1, iV .u16 x.1.2.2.2.2, Value.pointer (optA x.2)]) rfl rfl ma0 rfl) (fun p3 => ?_))
 refine Wl.ht rfl (Ht.box (v := aV (dNa1_880_0 k)) (cs := (dNa1_880_0 k)) rfl rfl ma0 rfl) (fun p4 => Wl.run 1 ma0 (Wl.nil (hK1 _ _ _ (W.prune' [2, 3, 4] [pV pt 0, pV p3 0, pV p4 0] ma0 (fun f2 => ?_)))))
 refine W.seq (fun K3 hK3 => W.draws [(0, true), (1, true), (2, true), (3, true), (4, true), (5, true), (6, false), (7, false), (8, false)] [0, 1, 2, 3, 4, 5] (Mem w [] [[cb p4 (dNa1_880_0 k) 47], [cb p3 [iV .u8 x.1.1, iV .u32 x.1.2.1, iV .u32 x.1.2.2.1, iV .u16 x.1.2.2.2.1, iV .u16 x.1.2.2.2.2, Value.pointer (optA x.2)] 173]]) ma0 ma0 ma0 rfl ma0 (fun _ _ h_ => h_.drawn _) (fun _ h_ => h_) (Wd.ys rfl rfl rfl (Ys.ld (a := ⟨pt, 0, none⟩) rfl ma0 Tryz.isAgg85 (fun w_ h_ => by have x_ := (hpt.mem0 h_).ld (q := 0) (v := pV tb 0) rfl; rw [ela_own0] at x_; exact x_)) (Wd.run 2 ma0 (Wd.ys rfl rfl rfl (Ys.ld (a := ⟨tb, 2, none⟩) rfl ma0 Tryz.isAgg94 (fun w_ h_ => by have x_ := (htb.mem0 h_).ld (q := 2) (v := Value.func (.func 31) #[] #[]) rfl; rw [ela_own0] at x_; exact x_)) ?_))))
 refine Wd.run 1 ma0 (Wd.ys rfl rfl rfl (Ys.loadN (b := p3) (o' := 0) (i := 1) (j := 0) (vs := [iV .u8 x.1.1, iV .u32 x.1.2.1, iV .u32 x.1.2.2.1, iV .u16 x.1.2.2.2.1, iV .u16 x.1.2.2.2.2]) rfl ma0 Tryz.isAgg47 Tryz.sizeOf47 rfl rfl rfl rfl) (Wd.yc (v := aV (dNa1_880_0 k)) rfl rfl rfl (Ys.yc (Ys.loadN (b := p4) (o' := 0) (i := 0) (j := 0) (vs := (dNa1_880_0 k)) rfl ma0 Tryz.isAgg47 Tryz.sizeOf47 rfl rfl rfl rfl)) (.inr fun _ h_ => h_) (Wd.yc (v := iV .i64 (LO.cmp ordF x.1 k)) rfl rfl rfl (Yc.call (fun _ => kr) (fun w_ hm_ => (ordF_c x.1 k _))) (.inr fun _ h_ => h_) (Wd.yc (v := iV .i64 (LO.cmp ordF x.1 k)) rfl rfl rfl (Ys.yc (Ys.pure (fun _ => kr))) (.inl ma0) ?_))))
 refine Wd.nil (hK3 _ _ _ (W.pick (LL' := []) [] ma2 rfl (W.prune' [5] [iV .i64 (LO.cmp ordF x.1 k)] ma0 (fun f4 => W.ret ?_))))
 show ∀ w_, _ → bodyPostM (fence none) 0 Tryz.prog Tryz.f161 _ Exit.ret _ w_
 exact fun w_ hS_ => fin_ret (ret1 rfl (RV.tmp (v := iV .i64 (LO.cmp ordF x.1 k)) ma0) hS_ ⟨rfl, hS_.below⟩)
theorem hasCS {xs : List ((Int × Int × Int × Int × Int) × (Option Nat))} {k : Int × Int × Int × Int × Int} (hs : Srt ordF xs) : ((decide (((posK ordF xs k : Nat) : Int) < (xs.length : Int))) && ((LO.cmp ordF (xs.getD (posK ordF xs k) dS).1 k) == 0)) = hasK xs k := by
  rw [← has_code dS hs]
  congr 1
  · exact decide_eq_decide.2 ma1
  · rw [Bool.eq_iff_iff, beq_iff_eq, decide_eq_true_eq]; exact LO.cmp_eq _
abbrev dNa1_882_0 (k : Int × Int × Int × Int × Int) : List Value := [iV .u8 k.1, iV .u32 k.2.1, iV .u32 k.2.2.1, iV .u16 k.2.2.2.1, iV .u16 k.2.2.2.2]
theorem bsS_c (xs : List ((Int × Int × Int × Int × Int) × (Option Nat))) (a : Option Addr) (cap : Nat) (most : Int) (tb : Nat) (pt : Nat) (k : Int × Int × Int × Int × Int) (w : World) (hpt : At w (some ⟨pt, 0, none⟩) [Value.pointer (some ⟨tb, 0, none⟩)]) (htb : At w (some ⟨tb, 0, none⟩) [Value.slice a xs.length cap, Value.int .i64 most, Value.func (.func 31) #[] #[]]) (hls : At w a (mm prS xs)) (hn : xs.length ≤ 100000) (hs : Srt ordF xs) : Calls Tryz.prog 160 #[Value.slice a xs.length cap, aV [iV .u8 k.1, iV .u32 k.2.1, iV .u32 k.2.2.1, iV .u16 k.2.2.2.1, iV .u16 k.2.2.2.2], Value.func (.func 161) #[] #[pV pt 0]] w (Ret w (Value.tuple #[nV .i64 (posK ordF xs k), bV (hasK xs k)])) := by
 refine calls_W (M := []) (LL := []) (n := 49) Tryz.func160 rfl rfl ma6 (Mem.refl _) (W.seq (fun K1 hK1 => ?_))
 refine W.region (Wl.ht rfl (Ht.box (v := aV (dNa1_882_0 k)) (cs := (dNa1_882_0 k)) rfl rfl ma0 rfl) (fun p4 => ?_))
 refine Wl.run 2 ma0 (Wl.nil (hK1 _ _ _ (W.prune' [0, 2, 4] [Value.slice a xs.length cap, Value.func (.func 161) #[] #[pV pt 0], pV p4 0] ma0 (fun f2 => W.seq (fun K3 hK3 => ?_)))))
 refine W.region (Wl.run 3 ma0 (Wl.nil (hK3 _ _ _ (W.prune' [0, 2, 4, 8] [Value.slice a xs.length cap, Value.func (.func 161) #[] #[pV pt 0], pV p4 0, nV .i64 xs.length] ma0 (fun f4 => ?_)))))
 refine W.seq (fun K5 hK5 => W.region (Wl.run 3 ma0 (Wl.nil (hK5 _ _ _ ?_))))
 refine W.prune' [0, 2, 4, 8, 9, 10] [Value.slice a xs.length cap, Value.func (.func 161) #[] #[pV pt 0], pV p4 0, nV .i64 xs.length, iV .i64 0, nV .i64 xs.length] ma0 (fun f6 => W.seq (fun K7 hK7 => ?_))
 refine W.block (W.loop2 [0, 2, 4, 8, 9, 10] (fun (i : Nat) (j : Nat) => [Value.slice a xs.length cap, Value.func (.func 161) #[] #[pV pt 0], pV p4 0, nV .i64 xs.length, nV .i64 i, nV .i64 j]) (fun (i : Nat) (j : Nat) => i ≤ posK ordF xs k ∧ posK ordF xs k ≤ j ∧ j ≤ xs.length) (fun (i : Nat) (j : Nat) => [[cb p4 (dNa1_882_0 k) 47]]) (fun (i : Nat) (j : Nat) => j - i) 0 xs.length ma0 ⟨(Nat.zero_le _), posK_le, (Nat.le_refl _)⟩ (by rfl) (fun i j f9 J8 hp10 hJ8 => ?_))
 obtain ⟨hi, hj, hjn⟩ := hp10
 refine W.seq (fun K11 hK11 => W.seq (fun K12 hK12 => ?_))
 refine W.region (Wl.run 3 ma0 (Wl.nil (hK12 _ _ _ (W.prune' [0, 2, 4, 8, 9, 10, 17] [Value.slice a xs.length cap, Value.func (.func 161) #[] #[pV pt 0], pV p4 0, nV .i64 xs.length, nV .i64 i, nV .i64 j, bV (decide (((i : Nat) : Int) < (j : Int)))] ma0 (fun f13 => ?_)))))
 refine W.cond (decide (((i : Nat) : Int) < (j : Int))) ma0 (fun h14 => ?_) (fun h15 => ?_)
 ·have qh14 := h14; try simp only [zA] at qh14
  refine W.skip' (hK11 _ _ _ (W.prune' [0, 2, 4, 8, 9, 10] [Value.slice a xs.length cap, Value.func (.func 161) #[] #[pV pt 0], pV p4 0, nV .i64 xs.length, nV .i64 i, nV .i64 j] ma0 (fun f16 => W.block (W.seq (fun K17 hK17 => ?_)))))
  refine W.region (Wl.run 2 ma0 (Wl.ys (v := nV .i64 (i + j)) rfl rfl ((Ys.pure (v := .int .i64 (iadd .i64 (i : Int) (j : Int))) (fun _ => kr)).conseq (int_congr (iadd_eq ma1 ma1 ma1))) (Wl.ys (v := nV .u64 (i + j)) rfl rfl ((Ys.pure (v := .int .u64 (icnv .u64 ((i + j : Nat) : Int))) (fun _ => kr)).conseq (int_congr (wrap_u64 ma1 ma1))) (Wl.ys (v := nV .u64 ((i + j) / 2)) rfl rfl ((Ys.pure (v := .int .u64 (ishr .u64 ((i + j : Nat) : Int) ((1 : Nat) : Int))) (fun _ => kr)).conseq (int_congr (ishr_nat (i + j) 1 ma2))) ?_))))
  refine Wl.ys (v := nV .i64 ((i + j) / 2)) rfl rfl ((Ys.pure (v := .int .i64 (icnv .i64 (((i + j) / 2 : Nat) : Int))) (fun _ => kr)).conseq (int_congr (wrap_i64 ma1 ma1))) (Wl.run 1 ma0 (Wl.nil (hK17 _ _ _ (W.prune' [0, 2, 4, 8, 9, 10, 11] [Value.slice a xs.length cap, Value.func (.func 161) #[] #[pV pt 0], pV p4 0, nV .i64 xs.length, nV .i64 i, nV .i64 j, nV .i64 ((i + j) / 2)] ma0 (fun f18 => ?_)))))
  refine W.seq (fun K19 hK19 => W.draws [(0, true), (1, true), (2, true), (3, true), (4, true), (5, false), (6, false), (7, false)] [0, 1, 2, 3, 4] (Mem w [] [[cb p4 (dNa1_882_0 k) 47]]) ma0 ma0 ma0 rfl ma0 (fun _ _ h_ => h_.drawn _) (fun _ h_ => h_) (Wd.run 3 ma0 (Wd.ys (v := Value.pointer (some (ela a (((i + j) / 2) * 6)))) rfl rfl rfl (Ys.byMem fun w_ h_ => Ys.indexAddr (k := .i64) (a := a) (len := xs.length) (cap := cap) (i := (((i + j) / 2 : Nat) : Int)) (sz := 6) rfl ma0 ma0 Tryz.runUnderlying151 Tryz.sizeOf173 ma1 ma1 ((hls.mem0 h_).here (by rw [mm_len (g := prS) (sz := 6) (fun _ => rfl)]; first | omega | (simp; omega)))) (Wd.ys (v := aV [iV .u8 (((xs.getD ((i + j) / 2) dS).1).1), iV .u32 (((xs.getD ((i + j) / 2) dS).1).2.1), iV .u32 (((xs.getD ((i + j) / 2) dS).1).2.2.1), iV .u16 (((xs.getD ((i + j) / 2) dS).1).2.2.2.1), iV .u16 (((xs.getD ((i + j) / 2) dS).1).2.2.2.2), Value.pointer (optA ((xs.getD ((i + j) / 2) dS).2))]) rfl rfl rfl (Ys.ldN (a := ela a (((i + j) / 2) * 6)) (vs := [iV .u8 (((xs.getD ((i + j) / 2) dS).1).1), iV .u32 (((xs.getD ((i + j) / 2) dS).1).2.1), iV .u32 (((xs.getD ((i + j) / 2) dS).1).2.2.1), iV .u16 (((xs.getD ((i + j) / 2) dS).1).2.2.2.1), iV .u16 (((xs.getD ((i + j) / 2) dS).1).2.2.2.2), Value.pointer (optA ((xs.getD ((i + j) / 2) dS).2))]) rfl ma0 Tryz.isAgg173 Tryz.sizeOf173 rfl (fun w_ h_ => (hls.mem0 h_).ldN (mm_get (g := prS) (sz := 6) (fun _ => rfl) dS (xs := xs) (k := (i + j) / 2) ma1))) ?_))))
  refine Wd.yc (v := aV (dNa1_882_0 k)) rfl rfl rfl (Ys.yc (Ys.loadN (b := p4) (o' := 0) (i := 0) (j := 0) (vs := (dNa1_882_0 k)) rfl ma0 Tryz.isAgg47 Tryz.sizeOf47 rfl rfl rfl rfl)) (.inr fun _ h_ => h_) (Wd.yc (v := iV .i64 (LO.cmp ordF ((xs.getD ((i + j) / 2) dS).1) k)) rfl rfl rfl (Yc.call (fun _ => kr) (fun w_ hm_ => (fcmpS_c (((xs.getD ((i + j) / 2) dS).1), ((xs.getD ((i + j) / 2) dS).2)) k a xs.length cap most tb pt _ (hpt.mem0 hm_) (htb.mem0 hm_)))) (.inr fun _ h_ => h_) (Wd.yc (v := bV (decide ((LO.cmp ordF ((xs.getD ((i + j) / 2) dS).1) k) < 0))) rfl rfl rfl (Ys.yc (Ys.pure (fun _ => kr))) (.inr fun _ h_ => h_) (Wd.nil (hK19 _ _ _ ?_))))
  refine W.prune' [0, 2, 4, 8, 9, 10, 11, 31] [Value.slice a xs.length cap, Value.func (.func 161) #[] #[pV pt 0], pV p4 0, nV .i64 xs.length, nV .i64 i, nV .i64 j, nV .i64 ((i + j) / 2), bV (decide ((LO.cmp ordF ((xs.getD ((i + j) / 2) dS).1) k) < 0))] ma0 (fun f20 => ?_)
  refine W.cond (decide ((LO.cmp ordF ((xs.getD ((i + j) / 2) dS).1) k) < 0)) ma0 (fun h21 => ?_) (fun h22 => ?_)
  ·have qh21 := h21; try simp only [zA] at qh21
   refine W.region (Wl.run 1 ma0 (Wl.ys (v := nV .i64 (((i + j) / 2) + 1)) rfl rfl ((Ys.pure (v := .int .i64 (iadd .i64 (((i + j) / 2 : Nat) : Int) 1)) (fun _ => kr)).conseq (int_congr (iadd_eq ma1 ma1 ma1))) (Wl.run 1 ma0 (Wl.nil ?_))))
   have hps_ := posK_spec dS (k := k) hs (h := (i + j) / 2) ma1
   have hpl_ := hps_.1 (LO.cmp_lt _ |>.1 qh21)
   refine fun w_ h_ => hJ8 ((i + j) / 2 + 1) j _ w_ ma1 ⟨ma1, ma1, ma1⟩ ?_ h_
   kernel_rfl
  ·have qh22 := h22; try simp only [zA] at qh22
   refine W.region (Wl.run 2 ma0 (Wl.nil ?_))
   have hps_ := posK_spec dS (k := k) hs (h := (i + j) / 2) ma1
   have hpl_ : ¬ ((i + j) / 2 < posK ordF xs k) := fun h_ => qh22 (LO.cmp_lt _ |>.2 (hps_.2 h_))
   refine fun w_ h_ => hJ8 i ((i + j) / 2) _ w_ ma1 ⟨ma1, ma1, ma1⟩ ?_ h_
   kernel_rfl
 ·have qh15 := h15; try simp only [zA] at qh15
  refine W.exit (hK7 _ _ _ (W.prune' [0, 2, 4, 8, 9] [Value.slice a xs.length cap, Value.func (.func 161) #[] #[pV pt 0], pV p4 0, nV .i64 xs.length, nV .i64 i] ma0 (fun f23 => W.seq (fun K24 hK24 => W.draws [(0, true), (1, true), (2, false), (3, false), (4, false), (5, true), (6, true), (7, true), (8, true), (9, true), (10, false), (11, false), (12, true), (13, true), (14, false), (15, false)] [0, 1, 5, 6, 7, 8, 9, 12, 13] (Mem w [] [[cb p4 (dNa1_882_0 k) 47]]) ma0 ma0 ma0 rfl ma0 (fun _ _ h_ => h_.drawn _) (fun _ h_ => h_) ?_))))
  refine Wd.run 2 ma0 (Wd.yc (v := nV .i64 xs.length) rfl rfl rfl (Ys.yc (Ys.pure (fun _ => kr))) (.inr fun _ h_ => h_) (Wd.yc (v := bV (decide (((i : Nat) : Int) < (xs.length : Int)))) rfl rfl rfl (Ys.yc (Ys.pure (fun _ => kr))) (.inr fun _ h_ => h_) (Wd.yc (v := bV (decide (((i : Nat) : Int) < (xs.length : Int)))) rfl rfl rfl (Ys.yc (Ys.pure (fun _ => kr))) (.inr fun _ h_ => h_) ?_)))
  refine Wd.guard (v := Value.func (.func 161) #[] #[pV pt 0]) (decide (((i : Nat) : Int) < (xs.length : Int))) rfl (wantT rfl ma0) rfl (fun hg25 => ?_) ?_
  ·exact Ys.pure (fun _ => kr)
  refine Wd.guard (v := Value.slice a xs.length cap) (decide (((i : Nat) : Int) < (xs.length : Int))) rfl (wantT rfl ma0) rfl (fun hg26 => ?_) ?_
  ·exact Ys.pure (fun _ => kr)
  refine Wd.guard (v := nV .i64 i) (decide (((i : Nat) : Int) < (xs.length : Int))) rfl (wantT rfl ma0) rfl (fun hg27 => ?_) ?_
  ·exact Ys.pure (fun _ => kr)
  refine Wd.guard (v := Value.pointer (some (ela a (i * 6)))) (decide (((i : Nat) : Int) < (xs.length : Int))) rfl (wantT rfl ma0) rfl (fun hg28 => ?_) ?_
  ·have qhg28 := hg28; try simp only [zA] at qhg28
   refine Ys.at (t := 41) (v0 := Value.slice a xs.length cap) (lz (g := decide (((i : Nat) : Int) < (xs.length : Int))) (u := undef) hg28 ma0) (Ys.at (t := 42) (v0 := nV .i64 i) (lz (g := decide (((i : Nat) : Int) < (xs.length : Int))) (u := undef) hg28 ma0) ?_)
   exact Ys.byMem fun w_ h_ => Ys.indexAddr (k := .i64) (a := a) (len := xs.length) (cap := cap) (i := (i : Int)) (sz := 6) rfl ma0 ma0 Tryz.runUnderlying151 Tryz.sizeOf173 ma1 ma1 ((hls.mem0 h_).here (by rw [mm_len (g := prS) (sz := 6) (fun _ => rfl)]; first | omega | (simp; omega)))
  refine Wd.guard (v := aV [iV .u8 (((xs.getD i dS).1).1), iV .u32 (((xs.getD i dS).1).2.1), iV .u32 (((xs.getD i dS).1).2.2.1), iV .u16 (((xs.getD i dS).1).2.2.2.1), iV .u16 (((xs.getD i dS).1).2.2.2.2), Value.pointer (optA ((xs.getD i dS).2))]) (decide (((i : Nat) : Int) < (xs.length : Int))) rfl (wantT rfl ma0) rfl (fun hg29 => ?_) ?_
  ·have qhg29 := hg29; try simp only [zA] at qhg29
   refine Ys.at (t := 43) (v0 := Value.pointer (some (ela a (i * 6)))) (lz (g := decide (((i : Nat) : Int) < (xs.length : Int))) (u := undef) hg29 ma0) ?_
   exact Ys.ldN (a := ela a (i * 6)) (vs := [iV .u8 (((xs.getD i dS).1).1), iV .u32 (((xs.getD i dS).1).2.1), iV .u32 (((xs.getD i dS).1).2.2.1), iV .u16 (((xs.getD i dS).1).2.2.2.1), iV .u16 (((xs.getD i dS).1).2.2.2.2), Value.pointer (optA ((xs.getD i dS).2))]) rfl ma0 Tryz.isAgg173 Tryz.sizeOf173 rfl (fun w_ h_ => (hls.mem0 h_).ldN (mm_get (g := prS) (sz := 6) (fun _ => rfl) dS (xs := xs) (k := i) ma1))
  refine Wd.guardc (v := aV (dNa1_882_0 k)) (decide (((i : Nat) : Int) < (xs.length : Int))) rfl (wantT rfl ma0) rfl (fun hg30 => ?_) (.inr fun _ h_ => h_) ?_
  ·refine Ys.yc ?_
   exact Ys.loadN (b := p4) (o' := 0) (i := 0) (j := 0) (vs := (dNa1_882_0 k)) rfl ma0 Tryz.isAgg47 Tryz.sizeOf47 rfl rfl rfl rfl
  refine Wd.guardc (v := iV .i64 (LO.cmp ordF ((xs.getD i dS).1) k)) (decide (((i : Nat) : Int) < (xs.length : Int))) rfl (wantT rfl ma0) rfl (fun hg31 => ?_) (.inr fun _ h_ => h_) ?_
  ·have qhg31 := hg31; try simp only [zA] at qhg31
   refine Yc.at (t := 40) (v0 := Value.func (.func 161) #[] #[pV pt 0]) (lz (g := decide (((i : Nat) : Int) < (xs.length : Int))) (u := undef) hg31 ma0) (Yc.at (t := 44) (v0 := aV [iV .u8 (((xs.getD i dS).1).1), iV .u32 (((xs.getD i dS).1).2.1), iV .u32 (((xs.getD i dS).1).2.2.1), iV .u16 (((xs.getD i dS).1).2.2.2.1), iV .u16 (((xs.getD i dS).1).2.2.2.2), Value.pointer (optA ((xs.getD i dS).2))]) (lz (g := decide (((i : Nat) : Int) < (xs.length : Int))) (u := undef) hg31 ma0) (Yc.at (t := 45) (v0 := aV (dNa1_882_0 k)) (lz (g := decide (((i : Nat) : Int) < (xs.length : Int))) (u := undef) hg31 ma0) ?_))
   exact Yc.call (fun _ => kr) (fun w_ hm_ => (fcmpS_c (((xs.getD i dS).1), ((xs.getD i dS).2)) k a xs.length cap most tb pt _ (hpt.mem0 hm_) (htb.mem0 hm_)))
  refine Wd.guard (v := bV ((LO.cmp ordF ((xs.getD i dS).1) k) == 0)) (decide (((i : Nat) : Int) < (xs.length : Int))) rfl (wantT rfl ma0) rfl (fun hg32 => ?_) ?_
  ·have qhg32 := hg32; try simp only [zA] at qhg32
   refine Ys.at (t := 46) (v0 := iV .i64 (LO.cmp ordF ((xs.getD i dS).1) k)) (lz (g := decide (((i : Nat) : Int) < (xs.length : Int))) (u := undef) hg32 ma0) ?_
   exact Ys.pure (fun _ => kr)
  refine Wd.ys (v := bV ((decide (((i : Nat) : Int) < (xs.length : Int))) && ((LO.cmp ordF ((xs.getD i dS).1) k) == 0))) rfl rfl rfl (Ys.and (e := decide (((i : Nat) : Int) < (xs.length : Int))) (b := (LO.cmp ordF ((xs.getD i dS).1) k) == 0) rfl ma0 ma0 ma0) (Wd.yc (v := nV .i64 i) rfl rfl rfl (Ys.yc (Ys.pure (fun _ => kr))) (.inr fun _ h_ => h_) (Wd.yc (v := bV ((decide (((i : Nat) : Int) < (xs.length : Int))) && ((LO.cmp ordF ((xs.getD i dS).1) k) == 0))) rfl rfl rfl (Ys.yc (Ys.pure (fun _ => kr))) (.inl ma0) (Wd.nil (hK24 _ _ _ ?_))))
  refine W.pick (LL' := []) [] ma2 rfl (W.prune' [6, 7] [nV .i64 i, bV ((decide (((i : Nat) : Int) < (xs.length : Int))) && ((LO.cmp ordF ((xs.getD i dS).1) k) == 0))] ma0 (fun f33 => ?_))
  refine W.ret ?_
  have hip_ : i = posK ordF xs k := by omega
  show ∀ w_, _ → bodyPostM (fence none) 0 Tryz.prog Tryz.f160 _ Exit.ret _ w_
  exact fun w_ hS_ => fin_ret (ret2 rfl (RV.tmp (v := nV .i64 i) ma0) (RV.tmp (v := bV ((decide (((i : Nat) : Int) < (xs.length : Int))) && ((LO.cmp ordF ((xs.getD i dS).1) k) == 0))) ma0) hS_ ⟨by clear hK1 hK3 hK5 hK7 hJ8 hK11 hK12 hK24; refine congrArg Ending.returned ?_; rw [hip_]; refine congrArg (fun b => Value.tuple #[_, .bool b]) ?_; exact hasCS hs, hS_.below⟩)
theorem findS_c (xs : List ((Int × Int × Int × Int × Int) × (Option Nat))) (a : Option Addr) (cap : Nat) (most : Int) (tb : Nat) (k : Int × Int × Int × Int × Int) (w : World) (htb : At w (some ⟨tb, 0, none⟩) [Value.slice a xs.length cap, Value.int .i64 most, Value.func (.func 31) #[] #[]]) (hls : At w a (mm prS xs)) (hn : xs.length ≤ 100000) (hs : Srt ordF xs) : Calls Tryz.prog 109 #[pV tb 0, aV [iV .u8 k.1, iV .u32 k.2.1, iV .u32 k.2.2.1, iV .u16 k.2.2.2.1, iV .u16 k.2.2.2.2]] w (Ret w (Value.tuple #[nV .i64 (posK ordF xs k), bV (hasK xs k)])) := by
 refine calls_W (M := []) (LL := []) (n := 15) Tryz.func109 rfl rfl ma6 (Mem.refl _) (W.seq (fun K1 hK1 => ?_))
 refine W.region (Wl.ht rfl (Ht.box (v := pV tb 0) (cs := [pV tb 0]) rfl rfl ma0 rfl) (fun p2 => ?_))
 refine Wl.ht rfl (Ht.box (v := aV [iV .u8 k.1, iV .u32 k.2.1, iV .u32 k.2.2.1, iV .u16 k.2.2.2.1, iV .u16 k.2.2.2.2]) (cs := [iV .u8 k.1, iV .u32 k.2.1, iV .u32 k.2.2.1, iV .u16 k.2.2.2.1, iV .u16 k.2.2.2.2]) rfl rfl ma0 rfl) (fun p3 => Wl.run 2 ma0 (Wl.nil (hK1 _ _ _ (W.prune' [2, 3] [pV p2 0, pV p3 0] ma0 (fun f2 => ?_)))))
 refine W.seq (fun K3 hK3 => W.draws [(0, true), (1, true), (2, true), (3, true), (4, true), (5, false), (6, false), (7, true), (8, false), (9, false), (10, false)] [0, 1, 2, 3, 4, 7] (Mem w [] [[cb p3 [iV .u8 k.1, iV .u32 k.2.1, iV .u32 k.2.2.1, iV .u16 k.2.2.2.1, iV .u16 k.2.2.2.2] 47], [cb p2 [pV tb 0] 85]]) ma0 ma0 ma0 rfl ma0 (fun _ _ h_ => h_.drawn _) (fun _ h_ => h_) (Wd.ys rfl rfl rfl (Ys.l1 p2 0 1 0 Tryz.isAgg85) (Wd.run 2 ma0 (Wd.ys rfl rfl rfl (Ys.ld (a := ⟨tb, 0, none⟩) rfl ma0 Tryz.isAgg151 (fun w_ h_ => by have x_ := (htb.mem0 h_).ld (q := 0) (v := Value.slice a xs.length cap) rfl; rw [ela_own0] at x_; exact x_)) ?_))))
 refine Wd.ys rfl rfl rfl (Ys.loadN (b := p3) (o' := 0) (i := 0) (j := 0) (vs := [iV .u8 k.1, iV .u32 k.2.1, iV .u32 k.2.2.1, iV .u16 k.2.2.2.1, iV .u16 k.2.2.2.2]) rfl ma0 Tryz.isAgg47 Tryz.sizeOf47 rfl rfl rfl rfl) (Wd.yc (v := Value.func (.func 161) #[] #[pV p2 0]) rfl rfl rfl (Ys.yc (Ys.pure (fun _ => kr))) (.inr fun _ h_ => h_) (Wd.yc (v := Value.tuple #[nV .i64 (posK ordF xs k), bV (hasK xs k)]) rfl rfl rfl (Yc.call (fun _ => kr) (fun w_ hm_ => (bsS_c xs a cap most tb p2 k _ (At.lit0 (i := 1) (j := 0) (t := 85) (b := p2) hm_ rfl rfl) (htb.mem0 hm_) (hls.mem0 hm_) ma12 hs))) (.inr fun _ h_ => h_) (Wd.run 1 ma0 (Wd.yc (v := bV (hasK xs k)) rfl rfl rfl (Ys.yc (Ys.pure (fun _ => kr))) (.inr fun _ h_ => h_) ?_))))
 refine Wd.yc (v := nV .i64 (posK ordF xs k)) rfl rfl rfl (Ys.yc (Ys.pure (fun _ => kr))) (.inl ma0) (Wd.yc (v := bV (hasK xs k)) rfl rfl rfl (Ys.yc (Ys.pure (fun _ => kr))) (.inl ma0) (Wd.nil (hK3 _ _ _ (W.pick (LL' := []) [] ma2 rfl ?_))))
 refine W.prune' [4, 5] [nV .i64 (posK ordF xs k), bV (hasK xs k)] ma0 (fun f4 => W.ret ?_)
 show ∀ w_, _ → bodyPostM (fence none) 0 Tryz.prog Tryz.f109 _ Exit.ret _ w_
 exact fun w_ hS_ => fin_ret (ret2 rfl (RV.tmp (v := nV .i64 (posK ordF xs k)) ma0) (RV.tmp (v := bV (hasK xs k)) ma0) hS_ ⟨rfl, hS_.below⟩)
theorem lenS_c (xs : List ((Int × Int × Int × Int × Int) × (Option Nat))) (a : Option Addr) (cap : Nat) (most : Int) (tb : Nat) (w : World) (htb : At w (some ⟨tb, 0, none⟩) [Value.slice a xs.length cap, Value.int .i64 most, Value.func (.func 31) #[] #[]]) (hls : At w a (mm prS xs)) (hn : xs.length ≤ 100000) (hs : Srt ordF xs) : Calls Tryz.prog 55 #[pV tb 0] w (Ret w (nV .i64 xs.length)) := by
 refine calls_W (M := []) (LL := []) (n := 8) Tryz.func55 rfl rfl ma6 (Mem.refl _) (W.seq (fun K1 hK1 => ?_))
 refine W.region (Wl.run 1 ma0 (Wl.nil (hK1 _ _ _ (W.seq (fun K2 hK2 => ?_)))))
 refine W.region (Wl.run 3 ma0 (Wl.ys rfl rfl (Ys.ld (a := ⟨tb, 0, none⟩) rfl ma0 Tryz.isAgg151 (fun w_ h_ => by have x_ := (htb.mem0 h_).ld (q := 0) (v := Value.slice a xs.length cap) rfl; rw [ela_own0] at x_; exact x_)) (Wl.run 2 ma0 (Wl.nil ?_))))
 refine hK2 _ _ _ (W.prune' [2] [nV .i64 xs.length] ma0 (fun f3 => ?_))
 refine W.ret ?_
 show ∀ w_, _ → bodyPostM (fence none) 0 Tryz.prog Tryz.f55 _ Exit.ret _ w_
 exact fun w_ hS_ => fin_ret (ret1 rfl (RV.tmp (v := nV .i64 xs.length) ma0) hS_ ⟨rfl, hS_.below⟩)
theorem mostS_c (xs : List ((Int × Int × Int × Int × Int) × (Option Nat))) (a : Option Addr) (cap : Nat) (most : Int) (tb : Nat) (w : World) (htb : At w (some ⟨tb, 0, none⟩) [Value.slice a xs.length cap, Value.int .i64 most, Value.func (.func 31) #[] #[]]) (hls : At w a (mm prS xs)) (hn : xs.length ≤ 100000) (hs : Srt ordF xs) : Calls Tryz.prog 100 #[pV tb 0] w (Ret w (iV .i64 most)) := by
 refine calls_W (M := []) (LL := []) (n := 7) Tryz.func100 rfl rfl ma6 (Mem.refl _) (W.seq (fun K1 hK1 => ?_))
 refine W.region (Wl.run 1 ma0 (Wl.nil (hK1 _ _ _ (W.seq (fun K2 hK2 => ?_)))))
 refine W.region (Wl.run 3 ma0 (Wl.ys rfl rfl (Ys.ld (a := ⟨tb, 1, none⟩) rfl ma0 Tryz.isAgg3 (fun w_ h_ => by have x_ := (htb.mem0 h_).ld (q := 1) (v := iV .i64 most) rfl; rw [ela_own0] at x_; exact x_)) (Wl.run 1 ma0 (Wl.nil ?_))))
 refine hK2 _ _ _ (W.prune' [2] [iV .i64 most] ma0 (fun f3 => ?_))
 refine W.ret ?_
 show ∀ w_, _ → bodyPostM (fence none) 0 Tryz.prog Tryz.f100 _ Exit.ret _ w_
 exact fun w_ hS_ => fin_ret (ret1 rfl (RV.tmp (v := iV .i64 most) ma0) hS_ ⟨rfl, hS_.below⟩)
theorem getS_c (xs : List ((Int × Int × Int × Int × Int) × (Option Nat))) (a : Option Addr) (cap : Nat) (most : Int) (tb : Nat) (k : Int × Int × Int × Int × Int) (w : World) (htb : At w (some ⟨tb, 0, none⟩) [Value.slice a xs.length cap, Value.int .i64 most, Value.func (.func 31) #[] #[]]) (hls : At w a (mm prS xs)) (hn : xs.length ≤ 100000) (hs : Srt ordF xs) : Calls Tryz.prog 56 #[pV tb 0, aV [iV .u8 k.1, iV .u32 k.2.1, iV .u32 k.2.2.1, iV .u16 k.2.2.2.1, iV .u16 k.2.2.2.2]] w (Ret w (Value.tuple #[Value.pointer (optA (getK none xs k)), bV (hasK xs k)])) := by
 refine calls_W (M := []) (LL := []) (n := 24) Tryz.func56 rfl rfl ma6 (Mem.refl _) (W.seq (fun K1 hK1 => ?_))
 refine W.region (Wl.ht rfl (Ht.box (v := aV [iV .u8 k.1, iV .u32 k.2.1, iV .u32 k.2.2.1, iV .u16 k.2.2.2.1, iV .u16 k.2.2.2.2]) (cs := [iV .u8 k.1, iV .u32 k.2.1, iV .u32 k.2.2.1, iV .u16 k.2.2.2.1, iV .u16 k.2.2.2.2]) rfl rfl ma0 rfl) (fun p3 => ?_))
 refine Wl.run 2 ma0 (Wl.nil (hK1 _ _ _ (W.prune' [0, 3, 4] [pV tb 0, pV p3 0, Value.pointer none] ma0 (fun f2 => W.seq (fun K3 hK3 => ?_)))))
 refine W.seq (fun K4 hK4 => W.region (Wl.run 1 ma0 (Wl.ys rfl rfl (Ys.loadN (b := p3) (o' := 0) (i := 0) (j := 0) (vs := [iV .u8 k.1, iV .u32 k.2.1, iV .u32 k.2.2.1, iV .u16 k.2.2.2.1, iV .u16 k.2.2.2.2]) rfl ma0 Tryz.isAgg47 Tryz.sizeOf47 rfl rfl rfl rfl) (Wl.yc (v := Value.tuple #[nV .i64 (posK ordF xs k), bV (hasK xs k)]) rfl rfl (Yc.call (fun _ => kr) (fun w_ hm_ => (findS_c xs a cap most tb k _ (htb.mem0 hm_) (hls.mem0 hm_) ma12 hs))) ?_))))
 refine Wl.run 5 ma0 (Wl.nil (hK4 _ _ _ (W.pick (LL' := []) [] ma2 rfl (W.prune' [0, 4, 6, 7] [pV tb 0, Value.pointer none, nV .i64 (posK ordF xs k), bV (hasK xs k)] ma0 (fun f5 => ?_)))))
 refine W.seq (fun K6 hK6 => W.region (Wl.run 1 ma0 (Wl.nil (hK6 _ _ _ ?_))))
 refine W.cond (hasK xs k) ma0 (fun h7 => ?_) (fun h8 => ?_)
 ·refine W.seq (fun K9 hK9 => ?_)
  have hps_ := hasK_at dS hs h7
  refine W.region (Wl.run 3 ma0 (Wl.ys rfl rfl (Ys.ld (a := ⟨tb, 0, none⟩) rfl ma0 Tryz.isAgg151 (fun w_ h_ => by have x_ := (htb.mem0 h_).ld (q := 0) (v := Value.slice a xs.length cap) rfl; rw [ela_own0] at x_; exact x_)) (Wl.run 1 ma0 (Wl.ys (v := Value.pointer (some (ela a ((posK ordF xs k) * 6)))) rfl rfl (Ys.byMem fun w_ h_ => Ys.indexAddr (k := .i64) (a := a) (len := xs.length) (cap := cap) (i := (posK ordF xs k : Int)) (sz := 6) rfl ma0 ma0 Tryz.runUnderlying151 Tryz.sizeOf173 ma1 ma1 ((hls.mem0 h_).here (by rw [mm_len (g := prS) (sz := 6) (fun _ => rfl)]; first | omega | (simp; omega)))) ?_))))
  refine Wl.run 1 ma0 (Wl.ys (v := Value.pointer (optA ((xs.getD (posK ordF xs k) dS).2))) rfl rfl (Ys.ld (a := (ela a ((posK ordF xs k) * 6)).add 5) rfl ma0 Tryz.isAgg93 (fun w_ h_ => (hls.mem0 h_).ldF (mm_getF (g := prS) (sz := 6) (fun _ => rfl) dS (xs := xs) (k := posK ordF xs k) ma1 5 rfl))) (Wl.run 2 ma0 (Wl.nil (hK9 _ _ _ ?_))))
  refine W.prune' [4, 5] [Value.pointer (optA ((xs.getD (posK ordF xs k) dS).2)), bV true] ma0 (fun f10 => W.ret ?_)
  show ∀ w_, _ → bodyPostM (fence none) 0 Tryz.prog Tryz.f56 _ Exit.ret _ w_
  exact fun w_ hS_ => fin_ret (ret2 rfl (RV.tmp (v := Value.pointer (optA ((xs.getD (posK ordF xs k) dS).2))) ma0) (RV.tmp (v := bV true) ma0) hS_ ⟨by clear hK1 hK3 hK4 hK6 hK9; refine congrArg Ending.returned ?_; rw [get_has dS hs h7, h7]; try rfl, hS_.below⟩)
 ·refine W.skip' (hK3 _ _ _ (W.prune' [4] zl3 ma0 (fun f11 => W.seq (fun K12 hK12 => W.region ?_))))
  refine Wl.run 3 ma0 (Wl.nil (hK12 _ _ _ (W.prune' [4, 5] [Value.pointer none, bV false] ma0 (fun f13 => W.ret ?_))))
  show ∀ w_, _ → bodyPostM (fence none) 0 Tryz.prog Tryz.f56 _ Exit.ret _ w_
  exact fun w_ hS_ => fin_ret (ret2 rfl (RV.tmp (v := Value.pointer none) ma0) (RV.tmp (v := bV false) ma0) hS_ ⟨by clear hK1 hK3 hK4 hK6 hK12; refine congrArg Ending.returned ?_; rw [get_not h8, h8]; try rfl, hS_.below⟩)
theorem newS_c (most : Int) (w : World) : Calls Tryz.prog 30 #[iV .i64 most, Value.func (.func 31) #[] #[]] w (RetM w (fun _ : Nat => True) (fun b => .pointer (some ⟨b, 0, none⟩)) [] (fun b => [[cb b [Value.slice none 0 0, iV .i64 (imax most 0), Value.func (.func 31) #[] #[]] 153]])) := by
 refine calls_W (M := []) (LL := []) (n := 10) Tryz.func30 rfl rfl ma6 (Mem.refl _) (W.seq (fun K1 hK1 => ?_))
 refine W.region (Wl.run 1 ma0 (Wl.nil (hK1 _ _ _ (W.seq (fun K2 hK2 => ?_)))))
 refine W.region (Wl.run 4 ma0 ?_)
 have hm3 := imax_bd most 0
 refine Wl.ht rfl (Ht.box (v := aV [Value.slice none 0 0, iV .i64 (imax most 0), Value.func (.func 31) #[] #[]]) (cs := [Value.slice none 0 0, iV .i64 (imax most 0), Value.func (.func 31) #[] #[]]) rfl rfl ma0 rfl) (fun p9 => Wl.run 1 ma0 (Wl.nil (hK2 _ _ _ (W.prune' [4] [pV p9 0] ma0 (fun f4 => ?_)))))
 refine W.ret ?_
 show ∀ w_, _ → bodyPostM (fence none) 0 Tryz.prog Tryz.f30 _ Exit.ret _ w_
 exact fun w_ hS_ => fin_ret (ret1 rfl (RV.tmp (v := pV p9 0) ma0) hS_ ⟨p9, trivial, rfl, (hS_.pick [0] ma2 rfl)⟩)
theorem fcmpD_c (x : (Int × Int × Int) × (Lse)) (k : Int × Int × Int) (a : Option Addr) (n cap : Nat) (most : Int) (tb pt : Nat) (w : World) (hpt : At w (some ⟨pt, 0, none⟩) [Value.pointer (some ⟨tb, 0, none⟩)]) (htb : At w (some ⟨tb, 0, none⟩) [Value.slice a n cap, Value.int .i64 most, Value.func (.func 33) #[] #[]]) : Calls Tryz.prog 169 #[aV [iV .u8 x.1.1, iV .u32 x.1.2.1, iV .u16 x.1.2.2, iV .u16 x.2.ext, iV .i64 x.2.count], aV [iV .u8 k.1, iV .u32 k.2.1, iV .u16 k.2.2], pV pt 0] w (Ret w (.int .i64 (LO.cmp ordE x.1 k))) := by
 refine calls_W (M := []) (LL := []) (n := 14) Tryz.func169 rfl rfl ma6 (Mem.refl _) (W.seq (fun K1 hK1 => ?_))
 refine W.region (Wl.ht rfl (Ht.box (v := aV [iV .u8 x.1.1, iV .u32 x.1.2.1, iV .u16 x.1.2.2, iV .u16 x.2.ext, iV .i64 x.2.count]) (cs := [iV .u8 x.1.1, iV .u32 x.1.2.1, iV .u16 x.1.2.2, iV .u16 x.2.ext, iV .i64 x.2.count]) rfl rfl ma0 rfl) (fun p3 => ?_))
 refine Wl.ht rfl (Ht.box (v := aV [iV .u8 k.1, iV .u32 k.2.1, iV .u16 k.2.2]) (cs := [iV .u8 k.1, iV .u32 k.2.1, iV .u16 k.2.2]) rfl rfl ma0 rfl) (fun p4 => Wl.run 1 ma0 (Wl.nil (hK1 _ _ _ (W.prune' [2, 3, 4] [pV pt 0, pV p3 0, pV p4 0] ma0 (fun f2 => ?_)))))
 refine W.seq (fun K3 hK3 => W.draws [(0, true), (1, true), (2, true), (3, true), (4, true), (5, true), (6, false), (7, false), (8, false)] [0, 1, 2, 3, 4, 5] (Mem w [] [[cb p4 [iV .u8 k.1, iV .u32 k.2.1, iV .u16 k.2.2] 97], [cb p3 [iV .u8 x.1.1, iV .u32 x.1.2.1, iV .u16 x.1.2.2, iV .u16 x.2.ext, iV .i64 x.2.count] 234]]) ma0 ma0 ma0 rfl ma0 (fun _ _ h_ => h_.drawn _) (fun _ h_ => h_) (Wd.ys rfl rfl rfl (Ys.ld (a := ⟨pt, 0, none⟩) rfl ma0 Tryz.isAgg86 (fun w_ h_ => by have x_ := (hpt.mem0 h_).ld (q := 0) (v := pV tb 0) rfl; rw [ela_own0] at x_; exact x_)) (Wd.run 2 ma0 (Wd.ys rfl rfl rfl (Ys.ld (a := ⟨tb, 2, none⟩) rfl ma0 Tryz.isAgg100 (fun w_ h_ => by have x_ := (htb.mem0 h_).ld (q := 2) (v := Value.func (.func 33) #[] #[]) rfl; rw [ela_own0] at x_; exact x_)) ?_))))
 refine Wd.run 1 ma0 (Wd.ys rfl rfl rfl (Ys.loadN (b := p3) (o' := 0) (i := 1) (j := 0) (vs := [iV .u8 x.1.1, iV .u32 x.1.2.1, iV .u16 x.1.2.2]) rfl ma0 Tryz.isAgg97 Tryz.sizeOf97 rfl rfl rfl rfl) (Wd.yc (v := aV [iV .u8 k.1, iV .u32 k.2.1, iV .u16 k.2.2]) rfl rfl rfl (Ys.yc (Ys.loadN (b := p4) (o' := 0) (i := 0) (j := 0) (vs := [iV .u8 k.1, iV .u32 k.2.1, iV .u16 k.2.2]) rfl ma0 Tryz.isAgg97 Tryz.sizeOf97 rfl rfl rfl rfl)) (.inr fun _ h_ => h_) (Wd.yc (v := iV .i64 (LO.cmp ordE x.1 k)) rfl rfl rfl (Yc.call (fun _ => kr) (fun w_ hm_ => (ordE_c x.1 k _))) (.inr fun _ h_ => h_) (Wd.yc (v := iV .i64 (LO.cmp ordE x.1 k)) rfl rfl rfl (Ys.yc (Ys.pure (fun _ => kr))) (.inl ma0) ?_))))
 refine Wd.nil (hK3 _ _ _ (W.pick (LL' := []) [] ma2 rfl (W.prune' [5] [iV .i64 (LO.cmp ordE x.1 k)] ma0 (fun f4 => W.ret ?_))))
 show ∀ w_, _ → bodyPostM (fence none) 0 Tryz.prog Tryz.f169 _ Exit.ret _ w_
 exact fun w_ hS_ => fin_ret (ret1 rfl (RV.tmp (v := iV .i64 (LO.cmp ordE x.1 k)) ma0) hS_ ⟨rfl, hS_.below⟩)
theorem hasCD {xs : List ((Int × Int × Int) × (Lse))} {k : Int × Int × Int} (hs : Srt ordE xs) : ((decide (((posK ordE xs k : Nat) : Int) < (xs.length : Int))) && ((LO.cmp ordE (xs.getD (posK ordE xs k) dD).1 k) == 0)) = hasK xs k := by
  rw [← has_code dD hs]
  congr 1
  · exact decide_eq_decide.2 ma1
  · rw [Bool.eq_iff_iff, beq_iff_eq, decide_eq_true_eq]; exact LO.cmp_eq _
abbrev dNa1_890_0 (k : Int × Int × Int) : List Value := [iV .u8 k.1, iV .u32 k.2.1, iV .u16 k.2.2]
theorem bsD_c (xs : List ((Int × Int × Int) × (Lse))) (a : Option Addr) (cap : Nat) (most : Int) (tb : Nat) (pt : Nat) (k : Int × Int × Int) (w : World) (hpt : At w (some ⟨pt, 0, none⟩) [Value.pointer (some ⟨tb, 0, none⟩)]) (htb : At w (some ⟨tb, 0, none⟩) [Value.slice a xs.length cap, Value.int .i64 most, Value.func (.func 33) #[] #[]]) (hls : At w a (mm prD xs)) (hn : xs.length ≤ 100000) (hs : Srt ordE xs) : Calls Tryz.prog 168 #[Value.slice a xs.length cap, aV [iV .u8 k.1, iV .u32 k.2.1, iV .u16 k.2.2], Value.func (.func 169) #[] #[pV pt 0]] w (Ret w (Value.tuple #[nV .i64 (posK ordE xs k), bV (hasK xs k)])) := by
 refine calls_W (M := []) (LL := []) (n := 49) Tryz.func168 rfl rfl ma6 (Mem.refl _) (W.seq (fun K1 hK1 => ?_))
 refine W.region (Wl.ht rfl (Ht.box (v := aV (dNa1_890_0 k)) (cs := (dNa1_890_0 k)) rfl rfl ma0 rfl) (fun p4 => ?_))
 refine Wl.run 2 ma0 (Wl.nil (hK1 _ _ _ (W.prune' [0, 2, 4] [Value.slice a xs.length cap, Value.func (.func 169) #[] #[pV pt 0], pV p4 0] ma0 (fun f2 => W.seq (fun K3 hK3 => ?_)))))
 refine W.region (Wl.run 3 ma0 (Wl.nil (hK3 _ _ _ (W.prune' [0, 2, 4, 8] [Value.slice a xs.length cap, Value.func (.func 169) #[] #[pV pt 0], pV p4 0, nV .i64 xs.length] ma0 (fun f4 => ?_)))))
 refine W.seq (fun K5 hK5 => W.region (Wl.run 3 ma0 (Wl.nil (hK5 _ _ _ ?_))))
 refine W.prune' [0, 2, 4, 8, 9, 10] [Value.slice a xs.length cap, Value.func (.func 169) #[] #[pV pt 0], pV p4 0, nV .i64 xs.length, iV .i64 0, nV .i64 xs.length] ma0 (fun f6 => W.seq (fun K7 hK7 => ?_))
 refine W.block (W.loop2 [0, 2, 4, 8, 9, 10] (fun (i : Nat) (j : Nat) => [Value.slice a xs.length cap, Value.func (.func 169) #[] #[pV pt 0], pV p4 0, nV .i64 xs.length, nV .i64 i, nV .i64 j]) (fun (i : Nat) (j : Nat) => i ≤ posK ordE xs k ∧ posK ordE xs k ≤ j ∧ j ≤ xs.length) (fun (i : Nat) (j : Nat) => [[cb p4 (dNa1_890_0 k) 97]]) (fun (i : Nat) (j : Nat) => j - i) 0 xs.length ma0 ⟨(Nat.zero_le _), posK_le, (Nat.le_refl _)⟩ (by rfl) (fun i j f9 J8 hp10 hJ8 => ?_))
 obtain ⟨hi, hj, hjn⟩ := hp10
 refine W.seq (fun K11 hK11 => W.seq (fun K12 hK12 => ?_))
 refine W.region (Wl.run 3 ma0 (Wl.nil (hK12 _ _ _ (W.prune' [0, 2, 4, 8, 9, 10, 17] [Value.slice a xs.length cap, Value.func (.func 169) #[] #[pV pt 0], pV p4 0, nV .i64 xs.length, nV .i64 i, nV .i64 j, bV (decide (((i : Nat) : Int) < (j : Int)))] ma0 (fun f13 => ?_)))))
 refine W.cond (decide (((i : Nat) : Int) < (j : Int))) ma0 (fun h14 => ?_) (fun h15 => ?_)
 ·have qh14 := h14; try simp only [zA] at qh14
  refine W.skip' (hK11 _ _ _ (W.prune' [0, 2, 4, 8, 9, 10] [Value.slice a xs.length cap, Value.func (.func 169) #[] #[pV pt 0], pV p4 0, nV .i64 xs.length, nV .i64 i, nV .i64 j] ma0 (fun f16 => W.block (W.seq (fun K17 hK17 => ?_)))))
  refine W.region (Wl.run 2 ma0 (Wl.ys (v := nV .i64 (i + j)) rfl rfl ((Ys.pure (v := .int .i64 (iadd .i64 (i : Int) (j : Int))) (fun _ => kr)).conseq (int_congr (iadd_eq ma1 ma1 ma1))) (Wl.ys (v := nV .u64 (i + j)) rfl rfl ((Ys.pure (v := .int .u64 (icnv .u64 ((i + j : Nat) : Int))) (fun _ => kr)).conseq (int_congr (wrap_u64 ma1 ma1))) (Wl.ys (v := nV .u64 ((i + j) / 2)) rfl rfl ((Ys.pure (v := .int .u64 (ishr .u64 ((i + j : Nat) : Int) ((1 : Nat) : Int))) (fun _ => kr)).conseq (int_congr (ishr_nat (i + j) 1 ma2))) ?_))))
  refine Wl.ys (v := nV .i64 ((i + j) / 2)) rfl rfl ((Ys.pure (v := .int .i64 (icnv .i64 (((i + j) / 2 : Nat) : Int))) (fun _ => kr)).conseq (int_congr (wrap_i64 ma1 ma1))) (Wl.run 1 ma0 (Wl.nil (hK17 _ _ _ (W.prune' [0, 2, 4, 8, 9, 10, 11] [Value.slice a xs.length cap, Value.func (.func 169) #[] #[pV pt 0], pV p4 0, nV .i64 xs.length, nV .i64 i, nV .i64 j, nV .i64 ((i + j) / 2)] ma0 (fun f18 => ?_)))))
  refine W.seq (fun K19 hK19 => W.draws [(0, true), (1, true), (2, true), (3, true), (4, true), (5, false), (6, false), (7, false)] [0, 1, 2, 3, 4] (Mem w [] [[cb p4 (dNa1_890_0 k) 97]]) ma0 ma0 ma0 rfl ma0 (fun _ _ h_ => h_.drawn _) (fun _ h_ => h_) (Wd.run 3 ma0 (Wd.ys (v := Value.pointer (some (ela a (((i + j) / 2) * 5)))) rfl rfl rfl (Ys.byMem fun w_ h_ => Ys.indexAddr (k := .i64) (a := a) (len := xs.length) (cap := cap) (i := (((i + j) / 2 : Nat) : Int)) (sz := 5) rfl ma0 ma0 Tryz.runUnderlying158 Tryz.sizeOf234 ma1 ma1 ((hls.mem0 h_).here (by rw [mm_len (g := prD) (sz := 5) (fun _ => rfl)]; first | omega | (simp; omega)))) (Wd.ys (v := aV [iV .u8 (((xs.getD ((i + j) / 2) dD).1).1), iV .u32 (((xs.getD ((i + j) / 2) dD).1).2.1), iV .u16 (((xs.getD ((i + j) / 2) dD).1).2.2), iV .u16 (((xs.getD ((i + j) / 2) dD).2).ext), iV .i64 (((xs.getD ((i + j) / 2) dD).2).count)]) rfl rfl rfl (Ys.ldN (a := ela a (((i + j) / 2) * 5)) (vs := [iV .u8 (((xs.getD ((i + j) / 2) dD).1).1), iV .u32 (((xs.getD ((i + j) / 2) dD).1).2.1), iV .u16 (((xs.getD ((i + j) / 2) dD).1).2.2), iV .u16 (((xs.getD ((i + j) / 2) dD).2).ext), iV .i64 (((xs.getD ((i + j) / 2) dD).2).count)]) rfl ma0 Tryz.isAgg234 Tryz.sizeOf234 rfl (fun w_ h_ => (hls.mem0 h_).ldN (mm_get (g := prD) (sz := 5) (fun _ => rfl) dD (xs := xs) (k := (i + j) / 2) ma1))) ?_))))
  refine Wd.yc (v := aV (dNa1_890_0 k)) rfl rfl rfl (Ys.yc (Ys.loadN (b := p4) (o' := 0) (i := 0) (j := 0) (vs := (dNa1_890_0 k)) rfl ma0 Tryz.isAgg97 Tryz.sizeOf97 rfl rfl rfl rfl)) (.inr fun _ h_ => h_) (Wd.yc (v := iV .i64 (LO.cmp ordE ((xs.getD ((i + j) / 2) dD).1) k)) rfl rfl rfl (Yc.call (fun _ => kr) (fun w_ hm_ => (fcmpD_c (((xs.getD ((i + j) / 2) dD).1), ((xs.getD ((i + j) / 2) dD).2)) k a xs.length cap most tb pt _ (hpt.mem0 hm_) (htb.mem0 hm_)))) (.inr fun _ h_ => h_) (Wd.yc (v := bV (decide ((LO.cmp ordE ((xs.getD ((i + j) / 2) dD).1) k) < 0))) rfl rfl rfl (Ys.yc (Ys.pure (fun _ => kr))) (.inr fun _ h_ => h_) (Wd.nil (hK19 _ _ _ ?_))))
  refine W.prune' [0, 2, 4, 8, 9, 10, 11, 31] [Value.slice a xs.length cap, Value.func (.func 169) #[] #[pV pt 0], pV p4 0, nV .i64 xs.length, nV .i64 i, nV .i64 j, nV .i64 ((i + j) / 2), bV (decide ((LO.cmp ordE ((xs.getD ((i + j) / 2) dD).1) k) < 0))] ma0 (fun f20 => ?_)
  refine W.cond (decide ((LO.cmp ordE ((xs.getD ((i + j) / 2) dD).1) k) < 0)) ma0 (fun h21 => ?_) (fun h22 => ?_)
  ·have qh21 := h21; try simp only [zA] at qh21
   refine W.region (Wl.run 1 ma0 (Wl.ys (v := nV .i64 (((i + j) / 2) + 1)) rfl rfl ((Ys.pure (v := .int .i64 (iadd .i64 (((i + j) / 2 : Nat) : Int) 1)) (fun _ => kr)).conseq (int_congr (iadd_eq ma1 ma1 ma1))) (Wl.run 1 ma0 (Wl.nil ?_))))
   have hps_ := posK_spec dD (k := k) hs (h := (i + j) / 2) ma1
   have hpl_ := hps_.1 (LO.cmp_lt _ |>.1 qh21)
   refine fun w_ h_ => hJ8 ((i + j) / 2 + 1) j _ w_ ma1 ⟨ma1, ma1, ma1⟩ ?_ h_
   kernel_rfl
  ·have qh22 := h22; try simp only [zA] at qh22
   refine W.region (Wl.run 2 ma0 (Wl.nil ?_))
   have hps_ := posK_spec dD (k := k) hs (h := (i + j) / 2) ma1
   have hpl_ : ¬ ((i + j) / 2 < posK ordE xs k) := fun h_ => qh22 (LO.cmp_lt _ |>.2 (hps_.2 h_))
   refine fun w_ h_ => hJ8 i ((i + j) / 2) _ w_ ma1 ⟨ma1, ma1, ma1⟩ ?_ h_
   kernel_rfl
 ·have qh15 := h15; try simp only [zA] at qh15
  refine W.exit (hK7 _ _ _ (W.prune' [0, 2, 4, 8, 9] [Value.slice a xs.length cap, Value.func (.func 169) #[] #[pV pt 0], pV p4 0, nV .i64 xs.length, nV .i64 i] ma0 (fun f23 => W.seq (fun K24 hK24 => W.draws [(0, true), (1, true), (2, false), (3, false), (4, false), (5, true), (6, true), (7, true), (8, true), (9, true), (10, false), (11, false), (12, true), (13, true), (14, false), (15, false)] [0, 1, 5, 6, 7, 8, 9, 12, 13] (Mem w [] [[cb p4 (dNa1_890_0 k) 97]]) ma0 ma0 ma0 rfl ma0 (fun _ _ h_ => h_.drawn _) (fun _ h_ => h_) ?_))))
  refine Wd.run 2 ma0 (Wd.yc (v := nV .i64 xs.length) rfl rfl rfl (Ys.yc (Ys.pure (fun _ => kr))) (.inr fun _ h_ => h_) (Wd.yc (v := bV (decide (((i : Nat) : Int) < (xs.length : Int)))) rfl rfl rfl (Ys.yc (Ys.pure (fun _ => kr))) (.inr fun _ h_ => h_) (Wd.yc (v := bV (decide (((i : Nat) : Int) < (xs.length : Int)))) rfl rfl rfl (Ys.yc (Ys.pure (fun _ => kr))) (.inr fun _ h_ => h_) ?_)))
  refine Wd.guard (v := Value.func (.func 169) #[] #[pV pt 0]) (decide (((i : Nat) : Int) < (xs.length : Int))) rfl (wantT rfl ma0) rfl (fun hg25 => ?_) ?_
  ·exact Ys.pure (fun _ => kr)
  refine Wd.guard (v := Value.slice a xs.length cap) (decide (((i : Nat) : Int) < (xs.length : Int))) rfl (wantT rfl ma0) rfl (fun hg26 => ?_) ?_
  ·exact Ys.pure (fun _ => kr)
  refine Wd.guard (v := nV .i64 i) (decide (((i : Nat) : Int) < (xs.length : Int))) rfl (wantT rfl ma0) rfl (fun hg27 => ?_) ?_
  ·exact Ys.pure (fun _ => kr)
  refine Wd.guard (v := Value.pointer (some (ela a (i * 5)))) (decide (((i : Nat) : Int) < (xs.length : Int))) rfl (wantT rfl ma0) rfl (fun hg28 => ?_) ?_
  ·have qhg28 := hg28; try simp only [zA] at qhg28
   refine Ys.at (t := 41) (v0 := Value.slice a xs.length cap) (lz (g := decide (((i : Nat) : Int) < (xs.length : Int))) (u := undef) hg28 ma0) (Ys.at (t := 42) (v0 := nV .i64 i) (lz (g := decide (((i : Nat) : Int) < (xs.length : Int))) (u := undef) hg28 ma0) ?_)
   exact Ys.byMem fun w_ h_ => Ys.indexAddr (k := .i64) (a := a) (len := xs.length) (cap := cap) (i := (i : Int)) (sz := 5) rfl ma0 ma0 Tryz.runUnderlying158 Tryz.sizeOf234 ma1 ma1 ((hls.mem0 h_).here (by rw [mm_len (g := prD) (sz := 5) (fun _ => rfl)]; first | omega | (simp; omega)))
  refine Wd.guard (v := aV [iV .u8 (((xs.getD i dD).1).1), iV .u32 (((xs.getD i dD).1).2.1), iV .u16 (((xs.getD i dD).1).2.2), iV .u16 (((xs.getD i dD).2).ext), iV .i64 (((xs.getD i dD).2).count)]) (decide (((i : Nat) : Int) < (xs.length : Int))) rfl (wantT rfl ma0) rfl (fun hg29 => ?_) ?_
  ·have qhg29 := hg29; try simp only [zA] at qhg29
   refine Ys.at (t := 43) (v0 := Value.pointer (some (ela a (i * 5)))) (lz (g := decide (((i : Nat) : Int) < (xs.length : Int))) (u := undef) hg29 ma0) ?_
   exact Ys.ldN (a := ela a (i * 5)) (vs := [iV .u8 (((xs.getD i dD).1).1), iV .u32 (((xs.getD i dD).1).2.1), iV .u16 (((xs.getD i dD).1).2.2), iV .u16 (((xs.getD i dD).2).ext), iV .i64 (((xs.getD i dD).2).count)]) rfl ma0 Tryz.isAgg234 Tryz.sizeOf234 rfl (fun w_ h_ => (hls.mem0 h_).ldN (mm_get (g := prD) (sz := 5) (fun _ => rfl) dD (xs := xs) (k := i) ma1))
  refine Wd.guardc (v := aV (dNa1_890_0 k)) (decide (((i : Nat) : Int) < (xs.length : Int))) rfl (wantT rfl ma0) rfl (fun hg30 => ?_) (.inr fun _ h_ => h_) ?_
  ·refine Ys.yc ?_
   exact Ys.loadN (b := p4) (o' := 0) (i := 0) (j := 0) (vs := (dNa1_890_0 k)) rfl ma0 Tryz.isAgg97 Tryz.sizeOf97 rfl rfl rfl rfl
  refine Wd.guardc (v := iV .i64 (LO.cmp ordE ((xs.getD i dD).1) k)) (decide (((i : Nat) : Int) < (xs.length : Int))) rfl (wantT rfl ma0) rfl (fun hg31 => ?_) (.inr fun _ h_ => h_) ?_
  ·have qhg31 := hg31; try simp only [zA] at qhg31
   refine Yc.at (t := 40) (v0 := Value.func (.func 169) #[] #[pV pt 0]) (lz (g := decide (((i : Nat) : Int) < (xs.length : Int))) (u := undef) hg31 ma0) (Yc.at (t := 44) (v0 := aV [iV .u8 (((xs.getD i dD).1).1), iV .u32 (((xs.getD i dD).1).2.1), iV .u16 (((xs.getD i dD).1).2.2), iV .u16 (((xs.getD i dD).2).ext), iV .i64 (((xs.getD i dD).2).count)]) (lz (g := decide (((i : Nat) : Int) < (xs.length : Int))) (u := undef) hg31 ma0) (Yc.at (t := 45) (v0 := aV (dNa1_890_0 k)) (lz (g := decide (((i : Nat) : Int) < (xs.length : Int))) (u := undef) hg31 ma0) ?_))
   exact Yc.call (fun _ => kr) (fun w_ hm_ => (fcmpD_c (((xs.getD i dD).1), ((xs.getD i dD).2)) k a xs.length cap most tb pt _ (hpt.mem0 hm_) (htb.mem0 hm_)))
  refine Wd.guard (v := bV ((LO.cmp ordE ((xs.getD i dD).1) k) == 0)) (decide (((i : Nat) : Int) < (xs.length : Int))) rfl (wantT rfl ma0) rfl (fun hg32 => ?_) ?_
  ·have qhg32 := hg32; try simp only [zA] at qhg32
   refine Ys.at (t := 46) (v0 := iV .i64 (LO.cmp ordE ((xs.getD i dD).1) k)) (lz (g := decide (((i : Nat) : Int) < (xs.length : Int))) (u := undef) hg32 ma0) ?_
   exact Ys.pure (fun _ => kr)
  refine Wd.ys (v := bV ((decide (((i : Nat) : Int) < (xs.length : Int))) && ((LO.cmp ordE ((xs.getD i dD).1) k) == 0))) rfl rfl rfl (Ys.and (e := decide (((i : Nat) : Int) < (xs.length : Int))) (b := (LO.cmp ordE ((xs.getD i dD).1) k) == 0) rfl ma0 ma0 ma0) (Wd.yc (v := nV .i64 i) rfl rfl rfl (Ys.yc (Ys.pure (fun _ => kr))) (.inr fun _ h_ => h_) (Wd.yc (v := bV ((decide (((i : Nat) : Int) < (xs.length : Int))) && ((LO.cmp ordE ((xs.getD i dD).1) k) == 0))) rfl rfl rfl (Ys.yc (Ys.pure (fun _ => kr))) (.inl ma0) (Wd.nil (hK24 _ _ _ ?_))))
  refine W.pick (LL' := []) [] ma2 rfl (W.prune' [6, 7] [nV .i64 i, bV ((decide (((i : Nat) : Int) < (xs.length : Int))) && ((LO.cmp ordE ((xs.getD i dD).1) k) == 0))] ma0 (fun f33 => ?_))
  refine W.ret ?_
  have hip_ : i = posK ordE xs k := by omega
  show ∀ w_, _ → bodyPostM (fence none) 0 Tryz.prog Tryz.f168 _ Exit.ret _ w_
  exact fun w_ hS_ => fin_ret (ret2 rfl (RV.tmp (v := nV .i64 i) ma0) (RV.tmp (v := bV ((decide (((i : Nat) : Int) < (xs.length : Int))) && ((LO.cmp ordE ((xs.getD i dD).1) k) == 0))) ma0) hS_ ⟨by clear hK1 hK3 hK5 hK7 hJ8 hK11 hK12 hK24; refine congrArg Ending.returned ?_; rw [hip_]; refine congrArg (fun b => Value.tuple #[_, .bool b]) ?_; exact hasCD hs, hS_.below⟩)
theorem findD_c (xs : List ((Int × Int × Int) × (Lse))) (a : Option Addr) (cap : Nat) (most : Int) (tb : Nat) (k : Int × Int × Int) (w : World) (htb : At w (some ⟨tb, 0, none⟩) [Value.slice a xs.length cap, Value.int .i64 most, Value.func (.func 33) #[] #[]]) (hls : At w a (mm prD xs)) (hn : xs.length ≤ 100000) (hs : Srt ordE xs) : Calls Tryz.prog 127 #[pV tb 0, aV [iV .u8 k.1, iV .u32 k.2.1, iV .u16 k.2.2]] w (Ret w (Value.tuple #[nV .i64 (posK ordE xs k), bV (hasK xs k)])) := by
 refine calls_W (M := []) (LL := []) (n := 15) Tryz.func127 rfl rfl ma6 (Mem.refl _) (W.seq (fun K1 hK1 => ?_))
 refine W.region (Wl.ht rfl (Ht.box (v := pV tb 0) (cs := [pV tb 0]) rfl rfl ma0 rfl) (fun p2 => ?_))
 refine Wl.ht rfl (Ht.box (v := aV [iV .u8 k.1, iV .u32 k.2.1, iV .u16 k.2.2]) (cs := [iV .u8 k.1, iV .u32 k.2.1, iV .u16 k.2.2]) rfl rfl ma0 rfl) (fun p3 => Wl.run 2 ma0 (Wl.nil (hK1 _ _ _ (W.prune' [2, 3] [pV p2 0, pV p3 0] ma0 (fun f2 => ?_)))))
 refine W.seq (fun K3 hK3 => W.draws [(0, true), (1, true), (2, true), (3, true), (4, true), (5, false), (6, false), (7, true), (8, false), (9, false), (10, false)] [0, 1, 2, 3, 4, 7] (Mem w [] [[cb p3 [iV .u8 k.1, iV .u32 k.2.1, iV .u16 k.2.2] 97], [cb p2 [pV tb 0] 86]]) ma0 ma0 ma0 rfl ma0 (fun _ _ h_ => h_.drawn _) (fun _ h_ => h_) (Wd.ys rfl rfl rfl (Ys.l1 p2 0 1 0 Tryz.isAgg86) (Wd.run 2 ma0 (Wd.ys rfl rfl rfl (Ys.ld (a := ⟨tb, 0, none⟩) rfl ma0 Tryz.isAgg158 (fun w_ h_ => by have x_ := (htb.mem0 h_).ld (q := 0) (v := Value.slice a xs.length cap) rfl; rw [ela_own0] at x_; exact x_)) ?_))))
 refine Wd.ys rfl rfl rfl (Ys.loadN (b := p3) (o' := 0) (i := 0) (j := 0) (vs := [iV .u8 k.1, iV .u32 k.2.1, iV .u16 k.2.2]) rfl ma0 Tryz.isAgg97 Tryz.sizeOf97 rfl rfl rfl rfl) (Wd.yc (v := Value.func (.func 169) #[] #[pV p2 0]) rfl rfl rfl (Ys.yc (Ys.pure (fun _ => kr))) (.inr fun _ h_ => h_) (Wd.yc (v := Value.tuple #[nV .i64 (posK ordE xs k), bV (hasK xs k)]) rfl rfl rfl (Yc.call (fun _ => kr) (fun w_ hm_ => (bsD_c xs a cap most tb p2 k _ (At.lit0 (i := 1) (j := 0) (t := 86) (b := p2) hm_ rfl rfl) (htb.mem0 hm_) (hls.mem0 hm_) ma12 hs))) (.inr fun _ h_ => h_) (Wd.run 1 ma0 (Wd.yc (v := bV (hasK xs k)) rfl rfl rfl (Ys.yc (Ys.pure (fun _ => kr))) (.inr fun _ h_ => h_) ?_))))
 refine Wd.yc (v := nV .i64 (posK ordE xs k)) rfl rfl rfl (Ys.yc (Ys.pure (fun _ => kr))) (.inl ma0) (Wd.yc (v := bV (hasK xs k)) rfl rfl rfl (Ys.yc (Ys.pure (fun _ => kr))) (.inl ma0) (Wd.nil (hK3 _ _ _ (W.pick (LL' := []) [] ma2 rfl ?_))))
 refine W.prune' [4, 5] [nV .i64 (posK ordE xs k), bV (hasK xs k)] ma0 (fun f4 => W.ret ?_)
 show ∀ w_, _ → bodyPostM (fence none) 0 Tryz.prog Tryz.f127 _ Exit.ret _ w_
 exact fun w_ hS_ => fin_ret (ret2 rfl (RV.tmp (v := nV .i64 (posK ordE xs k)) ma0) (RV.tmp (v := bV (hasK xs k)) ma0) hS_ ⟨rfl, hS_.below⟩)
abbrev dNa1_892_0 (k : Int × Int × Int) (xs : List ((Int × Int × Int) × (Lse))) : List Value := [iV .u16 (((xs.getD (posK ordE xs k) dD).2).ext), iV .i64 (((xs.getD (posK ordE xs k) dD).2).count)]
theorem getD_c (xs : List ((Int × Int × Int) × (Lse))) (a : Option Addr) (cap : Nat) (most : Int) (tb : Nat) (k : Int × Int × Int) (w : World) (htb : At w (some ⟨tb, 0, none⟩) [Value.slice a xs.length cap, Value.int .i64 most, Value.func (.func 33) #[] #[]]) (hls : At w a (mm prD xs)) (hn : xs.length ≤ 100000) (hs : Srt ordE xs) : Calls Tryz.prog 80 #[pV tb 0, aV [iV .u8 k.1, iV .u32 k.2.1, iV .u16 k.2.2]] w (Ret w (Value.tuple #[aV [iV .u16 ((getK (⟨0, 0⟩ : Lse) xs k).ext), iV .i64 ((getK (⟨0, 0⟩ : Lse) xs k).count)], bV (hasK xs k)])) := by
 refine calls_W (M := []) (LL := []) (n := 24) Tryz.func80 rfl rfl ma6 (Mem.refl _) (W.seq (fun K1 hK1 => ?_))
 refine W.region (Wl.ht rfl (Ht.box (v := aV [iV .u8 k.1, iV .u32 k.2.1, iV .u16 k.2.2]) (cs := [iV .u8 k.1, iV .u32 k.2.1, iV .u16 k.2.2]) rfl rfl ma0 rfl) (fun p3 => ?_))
 refine Wl.ht rfl (Ht.alloc (z := aV zl5) (cs := zl5) rfl rfl Tryz.zeroValue99 rfl) (fun p4 => Wl.run 1 ma0 (Wl.nil (hK1 _ _ _ (W.prune' [0, 3, 4] [pV tb 0, pV p3 0, pV p4 0] ma0 (fun f2 => ?_)))))
 refine W.seq (fun K3 hK3 => W.seq (fun K4 hK4 => ?_))
 refine W.region (Wl.run 1 ma0 (Wl.ys rfl rfl (Ys.loadN (b := p3) (o' := 0) (i := 1) (j := 0) (vs := [iV .u8 k.1, iV .u32 k.2.1, iV .u16 k.2.2]) rfl ma0 Tryz.isAgg97 Tryz.sizeOf97 rfl rfl rfl rfl) (Wl.yc (v := Value.tuple #[nV .i64 (posK ordE xs k), bV (hasK xs k)]) rfl rfl (Yc.call (fun _ => kr) (fun w_ hm_ => (findD_c xs a cap most tb k _ (htb.mem0 hm_) (hls.mem0 hm_) ma12 hs))) (Wl.run 5 ma0 ?_))))
 refine Wl.nil (hK4 _ _ _ (W.pick (LL' := [[cb p4 zl5 99]]) [0] ma2 rfl (W.prune' [0, 4, 6, 7] [pV tb 0, pV p4 0, nV .i64 (posK ordE xs k), bV (hasK xs k)] ma0 (fun f5 => W.seq (fun K6 hK6 => ?_)))))
 refine W.region (Wl.run 1 ma0 (Wl.nil (hK6 _ _ _ ?_)))
 refine W.cond (hasK xs k) ma0 (fun h7 => ?_) (fun h8 => ?_)
 ·refine W.seq (fun K9 hK9 => ?_)
  have hps_ := hasK_at dD hs h7
  refine W.region (Wl.run 3 ma0 (Wl.ys rfl rfl (Ys.ld (a := ⟨tb, 0, none⟩) rfl ma0 Tryz.isAgg158 (fun w_ h_ => by have x_ := (htb.mem0 h_).ld (q := 0) (v := Value.slice a xs.length cap) rfl; rw [ela_own0] at x_; exact x_)) (Wl.run 1 ma0 (Wl.ys (v := Value.pointer (some (ela a ((posK ordE xs k) * 5)))) rfl rfl (Ys.byMem fun w_ h_ => Ys.indexAddr (k := .i64) (a := a) (len := xs.length) (cap := cap) (i := (posK ordE xs k : Int)) (sz := 5) rfl ma0 ma0 Tryz.runUnderlying158 Tryz.sizeOf234 ma1 ma1 ((hls.mem0 h_).here (by rw [mm_len (g := prD) (sz := 5) (fun _ => rfl)]; first | omega | (simp; omega)))) ?_))))
  refine Wl.run 1 ma0 (Wl.ys (v := aV (dNa1_892_0 k xs)) rfl rfl (Ys.ldN (a := (ela a ((posK ordE xs k) * 5)).add 3) (vs := (dNa1_892_0 k xs)) rfl ma0 Tryz.isAgg99 Tryz.sizeOf99 rfl (fun w_ h_ => (hls.mem0 h_).ldNF (mm_getP (g := prD) (sz := 5) (fun _ => rfl) dD (xs := xs) (k := posK ordE xs k) ma1 3 2 rfl))) (Wl.ht rfl (Ht.storeN (b := p4) (o' := 0) (i := 0) (j := 0) (vs := (dNa1_892_0 k xs)) (LL' := [[cb p4 (dNa1_892_0 k xs) 99]]) rfl rfl ma0 ma0 Tryz.sizeOf99 ma7 rfl rfl ma6 rfl rfl) (fun _ => Wl.run 1 ma0 (Wl.nil ?_))))
  refine hK9 _ _ _ (W.prune' [4, 5] [pV p4 0, bV true] ma0 (fun f10 => ?_))
  refine W.ret ?_
  show ∀ w_, _ → bodyPostM (fence none) 0 Tryz.prog Tryz.f80 _ Exit.ret _ w_
  exact fun w_ hS_ => fin_ret (ret2 rfl (RV.cellN (b := p4) (o' := 0) (i := 0) (j := 0) (cs := [iV .u16 (((xs.getD (posK ordE xs k) dD).2).ext), iV .i64 (((xs.getD (posK ordE xs k) dD).2).count)]) (vs := [iV .u16 (((xs.getD (posK ordE xs k) dD).2).ext), iV .i64 (((xs.getD (posK ordE xs k) dD).2).count)]) ma0 Tryz.isAgg99 Tryz.sizeOf99 rfl rfl rfl rfl) (RV.tmp (v := bV true) ma0) hS_ ⟨by clear hK1 hK3 hK4 hK6 hK9; refine congrArg Ending.returned ?_; rw [get_has dD hs h7, h7]; try rfl, hS_.below⟩)
 ·refine W.skip' (hK3 _ _ _ (W.prune' [4] [pV p4 0] ma0 (fun f11 => W.seq (fun K12 hK12 => W.region ?_))))
  refine Wl.ys rfl rfl (Ys.loadN (b := p4) (o' := 0) (i := 0) (j := 0) (vs := zl5) rfl ma0 Tryz.isAgg99 Tryz.sizeOf99 rfl rfl rfl rfl) (Wl.ht rfl (Ht.storeN (b := p4) (o' := 0) (i := 0) (j := 0) (vs := zl5) (LL' := [[cb p4 zl5 99]]) rfl rfl ma0 ma0 Tryz.sizeOf99 ma7 rfl rfl ma6 rfl rfl) (fun _ => ?_))
  refine Wl.run 1 ma0 (Wl.nil (hK12 _ _ _ (W.prune' [4, 5] [pV p4 0, bV false] ma0 (fun f13 => W.ret ?_))))
  show ∀ w_, _ → bodyPostM (fence none) 0 Tryz.prog Tryz.f80 _ Exit.ret _ w_
  exact fun w_ hS_ => fin_ret (ret2 rfl (RV.cellN (b := p4) (o' := 0) (i := 0) (j := 0) (cs := zl5) (vs := zl5) ma0 Tryz.isAgg99 Tryz.sizeOf99 rfl rfl rfl rfl) (RV.tmp (v := bV false) ma0) hS_ ⟨by clear hK1 hK3 hK4 hK6 hK12; refine congrArg Ending.returned ?_; rw [get_not h8, h8]; try rfl, hS_.below⟩)
theorem newD_c (most : Int) (w : World) : Calls Tryz.prog 32 #[iV .i64 most, Value.func (.func 33) #[] #[]] w (RetM w (fun _ : Nat => True) (fun b => .pointer (some ⟨b, 0, none⟩)) [] (fun b => [[cb b [Value.slice none 0 0, iV .i64 (imax most 0), Value.func (.func 33) #[] #[]] 160]])) := by
 refine calls_W (M := []) (LL := []) (n := 10) Tryz.func32 rfl rfl ma6 (Mem.refl _) (W.seq (fun K1 hK1 => ?_))
 refine W.region (Wl.run 1 ma0 (Wl.nil (hK1 _ _ _ (W.seq (fun K2 hK2 => ?_)))))
 refine W.region (Wl.run 4 ma0 ?_)
 have hm3 := imax_bd most 0
 refine Wl.ht rfl (Ht.box (v := aV [Value.slice none 0 0, iV .i64 (imax most 0), Value.func (.func 33) #[] #[]]) (cs := [Value.slice none 0 0, iV .i64 (imax most 0), Value.func (.func 33) #[] #[]]) rfl rfl ma0 rfl) (fun p9 => Wl.run 1 ma0 (Wl.nil (hK2 _ _ _ (W.prune' [4] [pV p9 0] ma0 (fun f4 => ?_)))))
 refine W.ret ?_
 show ∀ w_, _ → bodyPostM (fence none) 0 Tryz.prog Tryz.f32 _ Exit.ret _ w_
 exact fun w_ hS_ => fin_ret (ret1 rfl (RV.tmp (v := pV p9 0) ma0) hS_ ⟨p9, trivial, rfl, (hS_.pick [0] ma2 rfl)⟩)
theorem fcmpN_c (x : (Int) × (Int × Int × Int × Int × Int)) (k : Int) (a : Option Addr) (n cap : Nat) (most : Int) (tb pt : Nat) (w : World) (hpt : At w (some ⟨pt, 0, none⟩) [Value.pointer (some ⟨tb, 0, none⟩)]) (htb : At w (some ⟨tb, 0, none⟩) [Value.slice a n cap, Value.int .i64 most, Value.func (.func 35) #[] #[]]) : Calls Tryz.prog 164 #[aV [iV .u64 x.1, iV .u8 x.2.1, iV .u32 x.2.2.1, iV .u32 x.2.2.2.1, iV .u16 x.2.2.2.2.1, iV .u16 x.2.2.2.2.2], iV .u64 k, pV pt 0] w (Ret w (.int .i64 (LO.cmp LO.int x.1 k))) := by
 refine calls_W (M := []) (LL := []) (n := 14) Tryz.func164 rfl rfl ma6 (Mem.refl _) (W.seq (fun K1 hK1 => ?_))
 refine W.region (Wl.ht rfl (Ht.box (v := aV [iV .u64 x.1, iV .u8 x.2.1, iV .u32 x.2.2.1, iV .u32 x.2.2.2.1, iV .u16 x.2.2.2.2.1, iV .u16 x.2.2.2.2.2]) (cs := [iV .u64 x.1, iV .u8 x.2.1, iV .u32 x.2.2.1, iV .u32 x.2.2.2.1, iV .u16 x.2.2.2.2.1, iV .u16 x.2.2.2.2.2]) rfl rfl ma0 rfl) (fun p3 => ?_))
 refine Wl.run 1 ma0 (Wl.nil (hK1 _ _ _ (W.prune' [1, 2, 3] [iV .u64 k, pV pt 0, pV p3 0] ma0 (fun f2 => W.seq (fun K3 hK3 => ?_)))))
 refine W.draws [(0, true), (1, true), (2, true), (3, true), (4, true), (5, true), (6, false), (7, false), (8, false)] [0, 1, 2, 3, 4, 5] (Mem w [] [[cb p3 [iV .u64 x.1, iV .u8 x.2.1, iV .u32 x.2.2.1, iV .u32 x.2.2.2.1, iV .u16 x.2.2.2.2.1, iV .u16 x.2.2.2.2.2] 223]]) ma0 ma0 ma0 rfl ma0 (fun _ _ h_ => h_.drawn _) (fun _ h_ => h_) (Wd.ys rfl rfl rfl (Ys.ld (a := ⟨pt, 0, none⟩) rfl ma0 Tryz.isAgg89 (fun w_ h_ => by have x_ := (hpt.mem0 h_).ld (q := 0) (v := pV tb 0) rfl; rw [ela_own0] at x_; exact x_)) (Wd.run 2 ma0 (Wd.ys rfl rfl rfl (Ys.ld (a := ⟨tb, 2, none⟩) rfl ma0 Tryz.isAgg102 (fun w_ h_ => by have x_ := (htb.mem0 h_).ld (q := 2) (v := Value.func (.func 35) #[] #[]) rfl; rw [ela_own0] at x_; exact x_)) (Wd.run 1 ma0 ?_))))
 refine Wd.ys rfl rfl rfl (Ys.l1 p3 0 0 0 Tryz.isAgg45) (Wd.yc (v := iV .u64 k) rfl rfl rfl (Ys.yc (Ys.pure (fun _ => kr))) (.inr fun _ h_ => h_) (Wd.yc (v := iV .i64 (LO.cmp LO.int x.1 k)) rfl rfl rfl (Yc.call (fun _ => kr) (fun w_ hm_ => (cmpm64_c x.1 k _))) (.inr fun _ h_ => h_) (Wd.yc (v := iV .i64 (LO.cmp LO.int x.1 k)) rfl rfl rfl (Ys.yc (Ys.pure (fun _ => kr))) (.inl ma0) (Wd.nil ?_))))
 refine hK3 _ _ _ (W.pick (LL' := []) [] ma2 rfl (W.prune' [5] [iV .i64 (LO.cmp LO.int x.1 k)] ma0 (fun f4 => W.ret ?_)))
 show ∀ w_, _ → bodyPostM (fence none) 0 Tryz.prog Tryz.f164 _ Exit.ret _ w_
 exact fun w_ hS_ => fin_ret (ret1 rfl (RV.tmp (v := iV .i64 (LO.cmp LO.int x.1 k)) ma0) hS_ ⟨rfl, hS_.below⟩)
theorem hasCN {xs : List ((Int) × (Int × Int × Int × Int × Int))} {k : Int} (hs : Srt LO.int xs) : ((decide (((posK LO.int xs k : Nat) : Int) < (xs.length : Int))) && ((LO.cmp LO.int (xs.getD (posK LO.int xs k) dN).1 k) == 0)) = hasK xs k := by
  rw [← has_code dN hs]
  congr 1
  · exact decide_eq_decide.2 ma1
  · rw [Bool.eq_iff_iff, beq_iff_eq, decide_eq_true_eq]; exact LO.cmp_eq _
theorem bsN_c (xs : List ((Int) × (Int × Int × Int × Int × Int))) (a : Option Addr) (cap : Nat) (most : Int) (tb : Nat) (pt : Nat) (k : Int) (w : World) (hpt : At w (some ⟨pt, 0, none⟩) [Value.pointer (some ⟨tb, 0, none⟩)]) (htb : At w (some ⟨tb, 0, none⟩) [Value.slice a xs.length cap, Value.int .i64 most, Value.func (.func 35) #[] #[]]) (hls : At w a (mm prN xs)) (hn : xs.length ≤ 100000) (hs : Srt LO.int xs) : Calls Tryz.prog 163 #[Value.slice a xs.length cap, iV .u64 k, Value.func (.func 164) #[] #[pV pt 0]] w (Ret w (Value.tuple #[nV .i64 (posK LO.int xs k), bV (hasK xs k)])) := by
 refine calls_W (M := []) (LL := []) (n := 49) Tryz.func163 rfl rfl ma6 (Mem.refl _) (W.seq (fun K1 hK1 => ?_))
 refine W.region (Wl.run 2 ma0 (Wl.nil (hK1 _ _ _ (W.prune' [0, 1, 2] [Value.slice a xs.length cap, iV .u64 k, Value.func (.func 164) #[] #[pV pt 0]] ma0 (fun f2 => ?_)))))
 refine W.seq (fun K3 hK3 => W.region (Wl.run 3 ma0 (Wl.nil (hK3 _ _ _ ?_))))
 refine W.prune' [0, 1, 2, 8] [Value.slice a xs.length cap, iV .u64 k, Value.func (.func 164) #[] #[pV pt 0], nV .i64 xs.length] ma0 (fun f4 => W.seq (fun K5 hK5 => ?_))
 refine W.region (Wl.run 3 ma0 (Wl.nil (hK5 _ _ _ (W.prune' [0, 1, 2, 8, 9, 10] [Value.slice a xs.length cap, iV .u64 k, Value.func (.func 164) #[] #[pV pt 0], nV .i64 xs.length, iV .i64 0, nV .i64 xs.length] ma0 (fun f6 => ?_)))))
 refine W.seq (fun K7 hK7 => W.block (W.loop2 [0, 1, 2, 8, 9, 10] (fun (i : Nat) (j : Nat) => [Value.slice a xs.length cap, iV .u64 k, Value.func (.func 164) #[] #[pV pt 0], nV .i64 xs.length, nV .i64 i, nV .i64 j]) (fun (i : Nat) (j : Nat) => i ≤ posK LO.int xs k ∧ posK LO.int xs k ≤ j ∧ j ≤ xs.length) (fun (i : Nat) (j : Nat) => []) (fun (i : Nat) (j : Nat) => j - i) 0 xs.length ma0 ⟨(Nat.zero_le _), posK_le, (Nat.le_refl _)⟩ (by rfl) (fun i j f9 J8 hp10 hJ8 => ?_)))
 obtain ⟨hi, hj, hjn⟩ := hp10
 refine W.seq (fun K11 hK11 => W.seq (fun K12 hK12 => ?_))
 refine W.region (Wl.run 3 ma0 (Wl.nil (hK12 _ _ _ (W.prune' [0, 1, 2, 8, 9, 10, 17] [Value.slice a xs.length cap, iV .u64 k, Value.func (.func 164) #[] #[pV pt 0], nV .i64 xs.length, nV .i64 i, nV .i64 j, bV (decide (((i : Nat) : Int) < (j : Int)))] ma0 (fun f13 => ?_)))))
 refine W.cond (decide (((i : Nat) : Int) < (j : Int))) ma0 (fun h14 => ?_) (fun h15 => ?_)
 ·have qh14 := h14; try simp only [zA] at qh14
  refine W.skip' (hK11 _ _ _ (W.prune' [0, 1, 2, 8, 9, 10] [Value.slice a xs.length cap, iV .u64 k, Value.func (.func 164) #[] #[pV pt 0], nV .i64 xs.length, nV .i64 i, nV .i64 j] ma0 (fun f16 => W.block (W.seq (fun K17 hK17 => ?_)))))
  refine W.region (Wl.run 2 ma0 (Wl.ys (v := nV .i64 (i + j)) rfl rfl ((Ys.pure (v := .int .i64 (iadd .i64 (i : Int) (j : Int))) (fun _ => kr)).conseq (int_congr (iadd_eq ma1 ma1 ma1))) (Wl.ys (v := nV .u64 (i + j)) rfl rfl ((Ys.pure (v := .int .u64 (icnv .u64 ((i + j : Nat) : Int))) (fun _ => kr)).conseq (int_congr (wrap_u64 ma1 ma1))) (Wl.ys (v := nV .u64 ((i + j) / 2)) rfl rfl ((Ys.pure (v := .int .u64 (ishr .u64 ((i + j : Nat) : Int) ((1 : Nat) : Int))) (fun _ => kr)).conseq (int_congr (ishr_nat (i + j) 1 ma2))) ?_))))
  refine Wl.ys (v := nV .i64 ((i + j) / 2)) rfl rfl ((Ys.pure (v := .int .i64 (icnv .i64 (((i + j) / 2 : Nat) : Int))) (fun _ => kr)).conseq (int_congr (wrap_i64 ma1 ma1))) (Wl.run 1 ma0 (Wl.nil (hK17 _ _ _ (W.prune' [0, 1, 2, 8, 9, 10, 11] [Value.slice a xs.length cap, iV .u64 k, Value.func (.func 164) #[] #[pV pt 0], nV .i64 xs.length, nV .i64 i, nV .i64 j, nV .i64 ((i + j) / 2)] ma0 (fun f18 => ?_)))))
  refine W.seq (fun K19 hK19 => W.region (Wl.run 3 ma0 (Wl.ys (v := Value.pointer (some (ela a (((i + j) / 2) * 6)))) rfl rfl (Ys.byMem fun w_ h_ => Ys.indexAddr (k := .i64) (a := a) (len := xs.length) (cap := cap) (i := (((i + j) / 2 : Nat) : Int)) (sz := 6) rfl ma0 ma0 Tryz.runUnderlying161 Tryz.sizeOf223 ma1 ma1 ((hls.mem0 h_).here (by rw [mm_len (g := prN) (sz := 6) (fun _ => rfl)]; first | omega | (simp; omega)))) (Wl.ys (v := aV [iV .u64 ((xs.getD ((i + j) / 2) dN).1), iV .u8 (((xs.getD ((i + j) / 2) dN).2).1), iV .u32 (((xs.getD ((i + j) / 2) dN).2).2.1), iV .u32 (((xs.getD ((i + j) / 2) dN).2).2.2.1), iV .u16 (((xs.getD ((i + j) / 2) dN).2).2.2.2.1), iV .u16 (((xs.getD ((i + j) / 2) dN).2).2.2.2.2)]) rfl rfl (Ys.ldN (a := ela a (((i + j) / 2) * 6)) (vs := [iV .u64 ((xs.getD ((i + j) / 2) dN).1), iV .u8 (((xs.getD ((i + j) / 2) dN).2).1), iV .u32 (((xs.getD ((i + j) / 2) dN).2).2.1), iV .u32 (((xs.getD ((i + j) / 2) dN).2).2.2.1), iV .u16 (((xs.getD ((i + j) / 2) dN).2).2.2.2.1), iV .u16 (((xs.getD ((i + j) / 2) dN).2).2.2.2.2)]) rfl ma0 Tryz.isAgg223 Tryz.sizeOf223 rfl (fun w_ h_ => (hls.mem0 h_).ldN (mm_get (g := prN) (sz := 6) (fun _ => rfl) dN (xs := xs) (k := (i + j) / 2) ma1))) ?_))))
  refine Wl.run 1 ma0 (Wl.yc (v := iV .i64 (LO.cmp LO.int ((xs.getD ((i + j) / 2) dN).1) k)) rfl rfl (Yc.call (fun _ => kr) (fun w_ hm_ => (fcmpN_c (((xs.getD ((i + j) / 2) dN).1), ((xs.getD ((i + j) / 2) dN).2)) k a xs.length cap most tb pt _ (hpt.mem0 hm_) (htb.mem0 hm_)))) (Wl.run 1 ma0 (Wl.nil (hK19 _ _ _ ?_))))
  refine W.prune' [0, 1, 2, 8, 9, 10, 11, 31] [Value.slice a xs.length cap, iV .u64 k, Value.func (.func 164) #[] #[pV pt 0], nV .i64 xs.length, nV .i64 i, nV .i64 j, nV .i64 ((i + j) / 2), bV (decide ((LO.cmp LO.int ((xs.getD ((i + j) / 2) dN).1) k) < 0))] ma0 (fun f20 => ?_)
  refine W.cond (decide ((LO.cmp LO.int ((xs.getD ((i + j) / 2) dN).1) k) < 0)) ma0 (fun h21 => ?_) (fun h22 => ?_)
  ·have qh21 := h21; try simp only [zA] at qh21
   refine W.region (Wl.run 1 ma0 (Wl.ys (v := nV .i64 (((i + j) / 2) + 1)) rfl rfl ((Ys.pure (v := .int .i64 (iadd .i64 (((i + j) / 2 : Nat) : Int) 1)) (fun _ => kr)).conseq (int_congr (iadd_eq ma1 ma1 ma1))) (Wl.run 1 ma0 (Wl.nil ?_))))
   have hps_ := posK_spec dN (k := k) hs (h := (i + j) / 2) ma1
   have hpl_ := hps_.1 (LO.cmp_lt _ |>.1 qh21)
   refine fun w_ h_ => hJ8 ((i + j) / 2 + 1) j _ w_ ma1 ⟨ma1, ma1, ma1⟩ ?_ h_
   kernel_rfl
  ·have qh22 := h22; try simp only [zA] at qh22
   refine W.region (Wl.run 2 ma0 (Wl.nil ?_))
   have hps_ := posK_spec dN (k := k) hs (h := (i + j) / 2) ma1
   have hpl_ : ¬ ((i + j) / 2 < posK LO.int xs k) := fun h_ => qh22 (LO.cmp_lt _ |>.2 (hps_.2 h_))
   refine fun w_ h_ => hJ8 i ((i + j) / 2) _ w_ ma1 ⟨ma1, ma1, ma1⟩ ?_ h_
   kernel_rfl
 ·have qh15 := h15; try simp only [zA] at qh15
  refine W.exit (hK7 _ _ _ (W.prune' [0, 1, 2, 8, 9] [Value.slice a xs.length cap, iV .u64 k, Value.func (.func 164) #[] #[pV pt 0], nV .i64 xs.length, nV .i64 i] ma0 (fun f23 => W.seq (fun K24 hK24 => W.region ?_))))
  refine Wl.run 5 ma0 ?_
  refine Wl.guard (v := Value.func (.func 164) #[] #[pV pt 0]) (decide (((i : Nat) : Int) < (xs.length : Int))) rfl (wantT rfl ma0) rfl (fun hg25 => ?_) ?_
  ·exact Ys.pure (fun _ => kr)
  refine Wl.guard (v := Value.slice a xs.length cap) (decide (((i : Nat) : Int) < (xs.length : Int))) rfl (wantT rfl ma0) rfl (fun hg26 => ?_) ?_
  ·exact Ys.pure (fun _ => kr)
  refine Wl.guard (v := nV .i64 i) (decide (((i : Nat) : Int) < (xs.length : Int))) rfl (wantT rfl ma0) rfl (fun hg27 => ?_) ?_
  ·exact Ys.pure (fun _ => kr)
  refine Wl.guard (v := Value.pointer (some (ela a (i * 6)))) (decide (((i : Nat) : Int) < (xs.length : Int))) rfl (wantT rfl ma0) rfl (fun hg28 => ?_) ?_
  ·have qhg28 := hg28; try simp only [zA] at qhg28
   refine Ys.at (t := 41) (v0 := Value.slice a xs.length cap) (lz (g := decide (((i : Nat) : Int) < (xs.length : Int))) (u := undef) hg28 ma0) (Ys.at (t := 42) (v0 := nV .i64 i) (lz (g := decide (((i : Nat) : Int) < (xs.length : Int))) (u := undef) hg28 ma0) ?_)
   exact Ys.byMem fun w_ h_ => Ys.indexAddr (k := .i64) (a := a) (len := xs.length) (cap := cap) (i := (i : Int)) (sz := 6) rfl ma0 ma0 Tryz.runUnderlying161 Tryz.sizeOf223 ma1 ma1 ((hls.mem0 h_).here (by rw [mm_len (g := prN) (sz := 6) (fun _ => rfl)]; first | omega | (simp; omega)))
  refine Wl.guard (v := aV [iV .u64 ((xs.getD i dN).1), iV .u8 (((xs.getD i dN).2).1), iV .u32 (((xs.getD i dN).2).2.1), iV .u32 (((xs.getD i dN).2).2.2.1), iV .u16 (((xs.getD i dN).2).2.2.2.1), iV .u16 (((xs.getD i dN).2).2.2.2.2)]) (decide (((i : Nat) : Int) < (xs.length : Int))) rfl (wantT rfl ma0) rfl (fun hg29 => ?_) ?_
  ·have qhg29 := hg29; try simp only [zA] at qhg29
   refine Ys.at (t := 43) (v0 := Value.pointer (some (ela a (i * 6)))) (lz (g := decide (((i : Nat) : Int) < (xs.length : Int))) (u := undef) hg29 ma0) ?_
   exact Ys.ldN (a := ela a (i * 6)) (vs := [iV .u64 ((xs.getD i dN).1), iV .u8 (((xs.getD i dN).2).1), iV .u32 (((xs.getD i dN).2).2.1), iV .u32 (((xs.getD i dN).2).2.2.1), iV .u16 (((xs.getD i dN).2).2.2.2.1), iV .u16 (((xs.getD i dN).2).2.2.2.2)]) rfl ma0 Tryz.isAgg223 Tryz.sizeOf223 rfl (fun w_ h_ => (hls.mem0 h_).ldN (mm_get (g := prN) (sz := 6) (fun _ => rfl) dN (xs := xs) (k := i) ma1))
  refine Wl.guard (v := iV .u64 k) (decide (((i : Nat) : Int) < (xs.length : Int))) rfl (wantT rfl ma0) rfl (fun hg30 => ?_) ?_
  ·exact Ys.pure (fun _ => kr)
  refine Wl.guardc (v := iV .i64 (LO.cmp LO.int ((xs.getD i dN).1) k)) (decide (((i : Nat) : Int) < (xs.length : Int))) rfl (wantT rfl ma0) rfl (fun hg31 => ?_) ?_
  ·have qhg31 := hg31; try simp only [zA] at qhg31
   refine Yc.at (t := 40) (v0 := Value.func (.func 164) #[] #[pV pt 0]) (lz (g := decide (((i : Nat) : Int) < (xs.length : Int))) (u := undef) hg31 ma0) (Yc.at (t := 44) (v0 := aV [iV .u64 ((xs.getD i dN).1), iV .u8 (((xs.getD i dN).2).1), iV .u32 (((xs.getD i dN).2).2.1), iV .u32 (((xs.getD i dN).2).2.2.1), iV .u16 (((xs.getD i dN).2).2.2.2.1), iV .u16 (((xs.getD i dN).2).2.2.2.2)]) (lz (g := decide (((i : Nat) : Int) < (xs.length : Int))) (u := undef) hg31 ma0) (Yc.at (t := 45) (v0 := iV .u64 k) (lz (g := decide (((i : Nat) : Int) < (xs.length : Int))) (u := undef) hg31 ma0) ?_))
   exact Yc.call (fun _ => kr) (fun w_ hm_ => (fcmpN_c (((xs.getD i dN).1), ((xs.getD i dN).2)) k a xs.length cap most tb pt _ (hpt.mem0 hm_) (htb.mem0 hm_)))
  refine Wl.guard (v := bV ((LO.cmp LO.int ((xs.getD i dN).1) k) == 0)) (decide (((i : Nat) : Int) < (xs.length : Int))) rfl (wantT rfl ma0) rfl (fun hg32 => ?_) ?_
  ·have qhg32 := hg32; try simp only [zA] at qhg32
   refine Ys.at (t := 46) (v0 := iV .i64 (LO.cmp LO.int ((xs.getD i dN).1) k)) (lz (g := decide (((i : Nat) : Int) < (xs.length : Int))) (u := undef) hg32 ma0) ?_
   exact Ys.pure (fun _ => kr)
  refine Wl.ys (v := bV ((decide (((i : Nat) : Int) < (xs.length : Int))) && ((LO.cmp LO.int ((xs.getD i dN).1) k) == 0))) rfl rfl (Ys.and (e := decide (((i : Nat) : Int) < (xs.length : Int))) (b := (LO.cmp LO.int ((xs.getD i dN).1) k) == 0) rfl ma0 ma0 ma0) (Wl.run 2 ma0 (Wl.nil (hK24 _ _ _ (W.prune' [6, 7] [nV .i64 i, bV ((decide (((i : Nat) : Int) < (xs.length : Int))) && ((LO.cmp LO.int ((xs.getD i dN).1) k) == 0))] ma0 (fun f33 => ?_)))))
  refine W.ret ?_
  have hip_ : i = posK LO.int xs k := by omega
  show ∀ w_, _ → bodyPostM (fence none) 0 Tryz.prog Tryz.f163 _ Exit.ret _ w_
  exact fun w_ hS_ => fin_ret (ret2 rfl (RV.tmp (v := nV .i64 i) ma0) (RV.tmp (v := bV ((decide (((i : Nat) : Int) < (xs.length : Int))) && ((LO.cmp LO.int ((xs.getD i dN).1) k) == 0))) ma0) hS_ ⟨by clear hK1 hK3 hK5 hK7 hJ8 hK11 hK12 hK24; refine congrArg Ending.returned ?_; rw [hip_]; refine congrArg (fun b => Value.tuple #[_, .bool b]) ?_; exact hasCN hs, hS_.below⟩)
theorem findN_c (xs : List ((Int) × (Int × Int × Int × Int × Int))) (a : Option Addr) (cap : Nat) (most : Int) (tb : Nat) (k : Int) (w : World) (htb : At w (some ⟨tb, 0, none⟩) [Value.slice a xs.length cap, Value.int .i64 most, Value.func (.func 35) #[] #[]]) (hls : At w a (mm prN xs)) (hn : xs.length ≤ 100000) (hs : Srt LO.int xs) : Calls Tryz.prog 114 #[pV tb 0, iV .u64 k] w (Ret w (Value.tuple #[nV .i64 (posK LO.int xs k), bV (hasK xs k)])) := by
 refine calls_W (M := []) (LL := []) (n := 15) Tryz.func114 rfl rfl ma6 (Mem.refl _) (W.seq (fun K1 hK1 => ?_))
 refine W.region (Wl.ht rfl (Ht.box (v := pV tb 0) (cs := [pV tb 0]) rfl rfl ma0 rfl) (fun p2 => ?_))
 refine Wl.run 2 ma0 (Wl.nil (hK1 _ _ _ (W.prune' [1, 2] [iV .u64 k, pV p2 0] ma0 (fun f2 => W.seq (fun K3 hK3 => ?_)))))
 refine W.region (Wl.ys rfl rfl (Ys.l1 p2 0 0 0 Tryz.isAgg89) (Wl.run 2 ma0 (Wl.ys rfl rfl (Ys.ld (a := ⟨tb, 0, none⟩) rfl ma0 Tryz.isAgg161 (fun w_ h_ => by have x_ := (htb.mem0 h_).ld (q := 0) (v := Value.slice a xs.length cap) rfl; rw [ela_own0] at x_; exact x_)) (Wl.run 2 ma0 ?_))))
 refine Wl.yc (v := Value.tuple #[nV .i64 (posK LO.int xs k), bV (hasK xs k)]) rfl rfl (Yc.call (fun _ => kr) (fun w_ hm_ => (bsN_c xs a cap most tb p2 k _ (At.lit0 (i := 0) (j := 0) (t := 89) (b := p2) hm_ rfl rfl) (htb.mem0 hm_) (hls.mem0 hm_) ma12 hs))) (Wl.run 4 ma0 (Wl.nil (hK3 _ _ _ (W.pick (LL' := []) [] ma2 rfl ?_))))
 refine W.prune' [4, 5] [nV .i64 (posK LO.int xs k), bV (hasK xs k)] ma0 (fun f4 => W.ret ?_)
 show ∀ w_, _ → bodyPostM (fence none) 0 Tryz.prog Tryz.f114 _ Exit.ret _ w_
 exact fun w_ hS_ => fin_ret (ret2 rfl (RV.tmp (v := nV .i64 (posK LO.int xs k)) ma0) (RV.tmp (v := bV (hasK xs k)) ma0) hS_ ⟨rfl, hS_.below⟩)
theorem newN_c (most : Int) (w : World) : Calls Tryz.prog 34 #[iV .i64 most, Value.func (.func 35) #[] #[]] w (RetM w (fun _ : Nat => True) (fun b => .pointer (some ⟨b, 0, none⟩)) [] (fun b => [[cb b [Value.slice none 0 0, iV .i64 (imax most 0), Value.func (.func 35) #[] #[]] 163]])) := by
 refine calls_W (M := []) (LL := []) (n := 10) Tryz.func34 rfl rfl ma6 (Mem.refl _) (W.seq (fun K1 hK1 => ?_))
 refine W.region (Wl.run 1 ma0 (Wl.nil (hK1 _ _ _ (W.seq (fun K2 hK2 => ?_)))))
 refine W.region (Wl.run 4 ma0 ?_)
 have hm3 := imax_bd most 0
 refine Wl.ht rfl (Ht.box (v := aV [Value.slice none 0 0, iV .i64 (imax most 0), Value.func (.func 35) #[] #[]]) (cs := [Value.slice none 0 0, iV .i64 (imax most 0), Value.func (.func 35) #[] #[]]) rfl rfl ma0 rfl) (fun p9 => Wl.run 1 ma0 (Wl.nil (hK2 _ _ _ (W.prune' [4] [pV p9 0] ma0 (fun f4 => ?_)))))
 refine W.ret ?_
 show ∀ w_, _ → bodyPostM (fence none) 0 Tryz.prog Tryz.f34 _ Exit.ret _ w_
 exact fun w_ hS_ => fin_ret (ret1 rfl (RV.tmp (v := pV p9 0) ma0) hS_ ⟨p9, trivial, rfl, (hS_.pick [0] ma2 rfl)⟩)
end Go.Proofs.YtmonlaoaengfdaaGreatDoor.Oct
