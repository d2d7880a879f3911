import Derived.Test.YtjkhmbigoloeiaaJKt
import Derived.Test.YtjkhmbigoloeiaaJVK
set_option linter.unusedVariables false
set_option linter.unusedSimpArgs false
set_option maxRecDepth 20000
namespace Go.Proofs.Ytjkhmbigoloeiaa.Oct
open Go.RowKit Base
attribute [local irreducible] Ys Yc Ht HtS HtIn Wl Wd W Mem pf dpf Wa Wo
structure Ent where
  proto : Int
  ext : Int
  to : Int
  remote : Int
  host : Int
  on : Bool
  words : ByteArray
  ends : Int
abbrev eZ : Ent := ⟨0, 0, 0, 0, 0, false, bstr [], 0⟩
abbrev eC (e : Ent) : List Value := [.int .u8 e.proto, .int .u16 e.ext, .int .u16 e.to, .int .u32 e.remote, .int .u32 e.host, .bool e.on, .string e.words, .int .u64 e.ends]
abbrev gK (xs : List ((Int × Int × Int) × Ent)) (a b c : Int) : Ent := getK eZ xs (a, b, c)
abbrev ordM : LO (Int × Int × Int) := LO.lex LO.int (LO.lex LO.int LO.int)
abbrev dM : (Int × Int × Int) × (Ent) := ((0, 0, 0), (⟨0, 0, 0, 0, 0, false, bstr [], 0⟩ : Ent))
def prM (x : (Int × Int × Int) × (Ent)) : List Value := [Value.int .u8 x.1.1, Value.int .u16 x.1.2.1, Value.int .u32 x.1.2.2, Value.int .u8 x.2.proto, Value.int .u16 x.2.ext, Value.int .u16 x.2.to, Value.int .u32 x.2.remote, Value.int .u32 x.2.host, Value.bool x.2.on, Value.string x.2.words, Value.int .u64 x.2.ends]
theorem prM_len (x : (Int × Int × Int) × (Ent)) : (prM x).length = 11 := rfl
theorem prM_one (x : (Int × Int × Int) × (Ent)) : ∀ v ∈ prM x, v.oneCell' = true := by simp [prM, Value.oneCell']
theorem prM_zlen (xs : List ((Int × Int × Int) × (Ent))) : (mm prM xs).length = xs.length * 11 := mm_len prM_len xs
theorem nanm8_c (x : Int) (w : World) : Calls Try.prog 108 #[iV .u8 x] w (Ret w (.bool false)) := by
 refine calls_W (M := []) (LL := []) (n := 6) Try.func108 rfl rfl ma7 (Mem.refl _) (W.seq (fun K1 hK1 => ?_))
 refine W.region (Wl.run 1 ma0 (Wl.nil (hK1 _ _ _ (W.seq (fun K2 hK2 => ?_)))))
 refine W.region (Wl.run 4 ma0 (Wl.nil (hK2 _ _ _ (W.prune' [2] [bV (x != x)] ma0 (fun f3 => ?_)))))
 refine W.ret ?_
 show ∀ w_, _ → bodyPostM (fence none) 0 Try.prog Try.f108 _ Exit.ret _ w_
 exact fun w_ hS_ => fin_ret (ret1 rfl (RV.tmp (v := bV (x != x)) ma0) hS_ ⟨by clear hK1 hK2; refine congrArg Ending.returned ?_; exact bool_congr ma7, hS_.below⟩)
theorem cmpm8_c (a b : Int) (w : World) : Calls Try.prog 86 #[iV .u8 a, iV .u8 b] w (Ret w (.int .i64 (LO.cmp LO.int a b))) := by
 refine calls_W (M := []) (LL := []) (n := 20) Try.func86 rfl rfl ma7 (Mem.refl _) (W.seq (fun K1 hK1 => ?_))
 refine W.region (Wl.run 1 ma0 (Wl.nil (hK1 _ _ _ (W.seq (fun K2 hK2 => ?_)))))
 refine W.region (Wl.run 1 ma0 (Wl.yc (v := bV false) rfl rfl (Yc.call (fun _ => kr) (fun w_ hm_ => (nanm8_c a _))) (Wl.run 1 ma0 (Wl.nil ?_))))
 refine hK2 _ _ _ (W.prune' [0, 1, 5] [iV .u8 a, iV .u8 b, bV false] ma0 (fun f3 => ?_))
 refine W.seq (fun K4 hK4 => W.region (Wl.run 1 ma0 (Wl.yc (v := bV false) rfl rfl (Yc.call (fun _ => kr) (fun w_ hm_ => (nanm8_c b _))) (Wl.run 1 ma0 ?_))))
 refine Wl.nil (hK4 _ _ _ (W.prune' [0, 1, 5, 6] [iV .u8 a, iV .u8 b, bV false, bV false] ma0 (fun f5 => W.seq (fun K6 hK6 => W.seq (fun K7 hK7 => ?_)))))
 refine W.region (Wl.run 1 ma0 (Wl.nil (hK7 _ _ _ (W.condF ma0 ?_))))
 refine W.skip' (hK6 _ _ _ (W.prune' [0, 1, 6] [iV .u8 a, iV .u8 b, bV false] ma0 (fun f8 => W.seq (fun K9 hK9 => W.seq (fun K10 hK10 => ?_)))))
 refine W.region (Wl.run 1 ma0 (Wl.nil (hK10 _ _ _ (W.condF ma0 ?_))))
 refine W.skip' (hK9 _ _ _ (W.prune' [0, 1] [iV .u8 a, iV .u8 b] ma0 (fun f11 => W.seq (fun K12 hK12 => W.seq (fun K13 hK13 => ?_)))))
 refine W.region (Wl.run 3 ma0 (Wl.nil (hK13 _ _ _ (W.prune' [0, 1, 16] [iV .u8 a, iV .u8 b, bV (decide (a < b))] ma0 (fun f14 => ?_)))))
 refine W.cond (decide (a < b)) ma0 (fun h15 => ?_) (fun h16 => ?_)
 ·have qh15 := h15; try simp only [zA] at qh15
  refine W.seq (fun K17 hK17 => W.region (Wl.run 1 ma0 (Wl.nil (hK17 _ _ _ ?_))))
  refine W.ret ?_
  show ∀ w_, _ → bodyPostM (fence none) 0 Try.prog Try.f86 _ Exit.ret _ w_
  exact fun w_ hS_ => fin_ret (ret1 rfl (RV.tmp (v := iV .i64 (-1)) ma0) hS_ ⟨by clear hK1 hK2 hK4 hK6 hK7 hK9 hK10 hK12 hK13 hK17; refine congrArg Ending.returned ?_; simp only [LO.cmp, LO.int, h15, cond_true, cond_false]; try rfl, hS_.below⟩)
 ·have qh16 := h16; try simp only [zA] at qh16
  refine W.skip' (hK12 _ _ _ (W.prune' [0, 1] [iV .u8 a, iV .u8 b] ma0 (fun f18 => W.seq (fun K19 hK19 => W.seq (fun K20 hK20 => ?_)))))
  refine W.region (Wl.run 3 ma0 (Wl.nil (hK20 _ _ _ (W.prune' [19] [bV (decide (a > b))] ma0 (fun f21 => ?_)))))
  refine W.cond (decide (a > b)) ma0 (fun h22 => ?_) (fun h23 => ?_)
  ·have qh22 := h22; try simp only [zA] at qh22
   refine W.seq (fun K24 hK24 => W.region (Wl.run 1 ma0 (Wl.nil (hK24 _ _ _ ?_))))
   refine W.ret ?_
   show ∀ w_, _ → bodyPostM (fence none) 0 Try.prog Try.f86 _ Exit.ret _ w_
   exact fun w_ hS_ => fin_ret (ret1 rfl (RV.tmp (v := iV .i64 1) ma0) hS_ ⟨by clear hK1 hK2 hK4 hK6 hK7 hK9 hK10 hK12 hK13 hK19 hK20 hK24; refine congrArg Ending.returned ?_; simp only [LO.cmp, LO.int, h16, h22, cond_true, cond_false]; try rfl, hS_.below⟩)
  ·have qh23 := h23; try simp only [zA] at qh23
   refine W.skip' (hK19 _ _ _ (W.prune' [] [] ma0 (fun f25 => W.seq (fun K26 hK26 => W.region ?_))))
   refine Wl.run 1 ma0 (Wl.nil (hK26 _ _ _ (W.ret ?_)))
   show ∀ w_, _ → bodyPostM (fence none) 0 Try.prog Try.f86 _ Exit.ret _ w_
   exact fun w_ hS_ => fin_ret (ret1 rfl (RV.tmp (v := iV .i64 0) ma0) hS_ ⟨by clear hK1 hK2 hK4 hK6 hK7 hK9 hK10 hK12 hK13 hK19 hK20 hK26; refine congrArg Ending.returned ?_; simp only [LO.cmp, LO.int, h16, h23, cond_true, cond_false]; try rfl, hS_.below⟩)
theorem nanm16_c (x : Int) (w : World) : Calls Try.prog 109 #[iV .u16 x] w (Ret w (.bool false)) := by
 refine calls_W (M := []) (LL := []) (n := 6) Try.func109 rfl rfl ma7 (Mem.refl _) (W.seq (fun K1 hK1 => ?_))
 refine W.region (Wl.run 1 ma0 (Wl.nil (hK1 _ _ _ (W.seq (fun K2 hK2 => ?_)))))
 refine W.region (Wl.run 4 ma0 (Wl.nil (hK2 _ _ _ (W.prune' [2] [bV (x != x)] ma0 (fun f3 => ?_)))))
 refine W.ret ?_
 show ∀ w_, _ → bodyPostM (fence none) 0 Try.prog Try.f109 _ Exit.ret _ w_
 exact fun w_ hS_ => fin_ret (ret1 rfl (RV.tmp (v := bV (x != x)) ma0) hS_ ⟨by clear hK1 hK2; refine congrArg Ending.returned ?_; exact bool_congr ma7, hS_.below⟩)
theorem cmpm16_c (a b : Int) (w : World) : Calls Try.prog 87 #[iV .u16 a, iV .u16 b] w (Ret w (.int .i64 (LO.cmp LO.int a b))) := by
 refine calls_W (M := []) (LL := []) (n := 20) Try.func87 rfl rfl ma7 (Mem.refl _) (W.seq (fun K1 hK1 => ?_))
 refine W.region (Wl.run 1 ma0 (Wl.nil (hK1 _ _ _ (W.seq (fun K2 hK2 => ?_)))))
 refine W.region (Wl.run 1 ma0 (Wl.yc (v := bV false) rfl rfl (Yc.call (fun _ => kr) (fun w_ hm_ => (nanm16_c a _))) (Wl.run 1 ma0 (Wl.nil ?_))))
 refine hK2 _ _ _ (W.prune' [0, 1, 5] [iV .u16 a, iV .u16 b, bV false] ma0 (fun f3 => ?_))
 refine W.seq (fun K4 hK4 => W.region (Wl.run 1 ma0 (Wl.yc (v := bV false) rfl rfl (Yc.call (fun _ => kr) (fun w_ hm_ => (nanm16_c b _))) (Wl.run 1 ma0 ?_))))
 refine Wl.nil (hK4 _ _ _ (W.prune' [0, 1, 5, 6] [iV .u16 a, iV .u16 b, bV false, bV false] ma0 (fun f5 => W.seq (fun K6 hK6 => W.seq (fun K7 hK7 => ?_)))))
 refine W.region (Wl.run 1 ma0 (Wl.nil (hK7 _ _ _ (W.condF ma0 ?_))))
 refine W.skip' (hK6 _ _ _ (W.prune' [0, 1, 6] [iV .u16 a, iV .u16 b, bV false] ma0 (fun f8 => W.seq (fun K9 hK9 => W.seq (fun K10 hK10 => ?_)))))
 refine W.region (Wl.run 1 ma0 (Wl.nil (hK10 _ _ _ (W.condF ma0 ?_))))
 refine W.skip' (hK9 _ _ _ (W.prune' [0, 1] [iV .u16 a, iV .u16 b] ma0 (fun f11 => W.seq (fun K12 hK12 => W.seq (fun K13 hK13 => ?_)))))
 refine W.region (Wl.run 3 ma0 (Wl.nil (hK13 _ _ _ (W.prune' [0, 1, 16] [iV .u16 a, iV .u16 b, bV (decide (a < b))] ma0 (fun f14 => ?_)))))
 refine W.cond (decide (a < b)) ma0 (fun h15 => ?_) (fun h16 => ?_)
 ·have qh15 := h15; try simp only [zA] at qh15
  refine W.seq (fun K17 hK17 => W.region (Wl.run 1 ma0 (Wl.nil (hK17 _ _ _ ?_))))
  refine W.ret ?_
  show ∀ w_, _ → bodyPostM (fence none) 0 Try.prog Try.f87 _ Exit.ret _ w_
  exact fun w_ hS_ => fin_ret (ret1 rfl (RV.tmp (v := iV .i64 (-1)) ma0) hS_ ⟨by clear hK1 hK2 hK4 hK6 hK7 hK9 hK10 hK12 hK13 hK17; refine congrArg Ending.returned ?_; simp only [LO.cmp, LO.int, h15, cond_true, cond_false]; try rfl, hS_.below⟩)
 ·have qh16 := h16; try simp only [zA] at qh16
  refine W.skip' (hK12 _ _ _ (W.prune' [0, 1] [iV .u16 a, iV .u16 b] ma0 (fun f18 => W.seq (fun K19 hK19 => W.seq (fun K20 hK20 => ?_)))))
  refine W.region (Wl.run 3 ma0 (Wl.nil (hK20 _ _ _ (W.prune' [19] [bV (decide (a > b))] ma0 (fun f21 => ?_)))))
  refine W.cond (decide (a > b)) ma0 (fun h22 => ?_) (fun h23 => ?_)
  ·have qh22 := h22; try simp only [zA] at qh22
   refine W.seq (fun K24 hK24 => W.region (Wl.run 1 ma0 (Wl.nil (hK24 _ _ _ ?_))))
   refine W.ret ?_
   show ∀ w_, _ → bodyPostM (fence none) 0 Try.prog Try.f87 _ Exit.ret _ w_
   exact fun w_ hS_ => fin_ret (ret1 rfl (RV.tmp (v := iV .i64 1) ma0) hS_ ⟨by clear hK1 hK2 hK4 hK6 hK7 hK9 hK10 hK12 hK13 hK19 hK20 hK24; refine congrArg Ending.returned ?_; simp only [LO.cmp, LO.int, h16, h22, cond_true, cond_false]; try rfl, hS_.below⟩)
  ·have qh23 := h23; try simp only [zA] at qh23
   refine W.skip' (hK19 _ _ _ (W.prune' [] [] ma0 (fun f25 => W.seq (fun K26 hK26 => W.region ?_))))
   refine Wl.run 1 ma0 (Wl.nil (hK26 _ _ _ (W.ret ?_)))
   show ∀ w_, _ → bodyPostM (fence none) 0 Try.prog Try.f87 _ Exit.ret _ w_
   exact fun w_ hS_ => fin_ret (ret1 rfl (RV.tmp (v := iV .i64 0) ma0) hS_ ⟨by clear hK1 hK2 hK4 hK6 hK7 hK9 hK10 hK12 hK13 hK19 hK20 hK26; refine congrArg Ending.returned ?_; simp only [LO.cmp, LO.int, h16, h23, cond_true, cond_false]; try rfl, hS_.below⟩)
theorem nanm32_c (x : Int) (w : World) : Calls Try.prog 75 #[iV .u32 x] w (Ret w (.bool false)) := by
 refine calls_W (M := []) (LL := []) (n := 6) Try.func75 rfl rfl ma7 (Mem.refl _) (W.seq (fun K1 hK1 => ?_))
 refine W.region (Wl.run 1 ma0 (Wl.nil (hK1 _ _ _ (W.seq (fun K2 hK2 => ?_)))))
 refine W.region (Wl.run 4 ma0 (Wl.nil (hK2 _ _ _ (W.prune' [2] [bV (x != x)] ma0 (fun f3 => ?_)))))
 refine W.ret ?_
 show ∀ w_, _ → bodyPostM (fence none) 0 Try.prog Try.f75 _ Exit.ret _ w_
 exact fun w_ hS_ => fin_ret (ret1 rfl (RV.tmp (v := bV (x != x)) ma0) hS_ ⟨by clear hK1 hK2; refine congrArg Ending.returned ?_; exact bool_congr ma7, hS_.below⟩)
theorem cmpm32_c (a b : Int) (w : World) : Calls Try.prog 37 #[iV .u32 a, iV .u32 b] w (Ret w (.int .i64 (LO.cmp LO.int a b))) := by
 refine calls_W (M := []) (LL := []) (n := 20) Try.func37 rfl rfl ma7 (Mem.refl _) (W.seq (fun K1 hK1 => ?_))
 refine W.region (Wl.run 1 ma0 (Wl.nil (hK1 _ _ _ (W.seq (fun K2 hK2 => ?_)))))
 refine W.region (Wl.run 1 ma0 (Wl.yc (v := bV false) rfl rfl (Yc.call (fun _ => kr) (fun w_ hm_ => (nanm32_c a _))) (Wl.run 1 ma0 (Wl.nil ?_))))
 refine hK2 _ _ _ (W.prune' [0, 1, 5] [iV .u32 a, iV .u32 b, bV false] ma0 (fun f3 => ?_))
 refine W.seq (fun K4 hK4 => W.region (Wl.run 1 ma0 (Wl.yc (v := bV false) rfl rfl (Yc.call (fun _ => kr) (fun w_ hm_ => (nanm32_c b _))) (Wl.run 1 ma0 ?_))))
 refine Wl.nil (hK4 _ _ _ (W.prune' [0, 1, 5, 6] [iV .u32 a, iV .u32 b, bV false, bV false] ma0 (fun f5 => W.seq (fun K6 hK6 => W.seq (fun K7 hK7 => ?_)))))
 refine W.region (Wl.run 1 ma0 (Wl.nil (hK7 _ _ _ (W.condF ma0 ?_))))
 refine W.skip' (hK6 _ _ _ (W.prune' [0, 1, 6] [iV .u32 a, iV .u32 b, bV false] ma0 (fun f8 => W.seq (fun K9 hK9 => W.seq (fun K10 hK10 => ?_)))))
 refine W.region (Wl.run 1 ma0 (Wl.nil (hK10 _ _ _ (W.condF ma0 ?_))))
 refine W.skip' (hK9 _ _ _ (W.prune' [0, 1] [iV .u32 a, iV .u32 b] ma0 (fun f11 => W.seq (fun K12 hK12 => W.seq (fun K13 hK13 => ?_)))))
 refine W.region (Wl.run 3 ma0 (Wl.nil (hK13 _ _ _ (W.prune' [0, 1, 16] [iV .u32 a, iV .u32 b, bV (decide (a < b))] ma0 (fun f14 => ?_)))))
 refine W.cond (decide (a < b)) ma0 (fun h15 => ?_) (fun h16 => ?_)
 ·have qh15 := h15; try simp only [zA] at qh15
  refine W.seq (fun K17 hK17 => W.region (Wl.run 1 ma0 (Wl.nil (hK17 _ _ _ ?_))))
  refine W.ret ?_
  show ∀ w_, _ → bodyPostM (fence none) 0 Try.prog Try.f37 _ Exit.ret _ w_
  exact fun w_ hS_ => fin_ret (ret1 rfl (RV.tmp (v := iV .i64 (-1)) ma0) hS_ ⟨by clear hK1 hK2 hK4 hK6 hK7 hK9 hK10 hK12 hK13 hK17; refine congrArg Ending.returned ?_; simp only [LO.cmp, LO.int, h15, cond_true, cond_false]; try rfl, hS_.below⟩)
 ·have qh16 := h16; try simp only [zA] at qh16
  refine W.skip' (hK12 _ _ _ (W.prune' [0, 1] [iV .u32 a, iV .u32 b] ma0 (fun f18 => W.seq (fun K19 hK19 => W.seq (fun K20 hK20 => ?_)))))
  refine W.region (Wl.run 3 ma0 (Wl.nil (hK20 _ _ _ (W.prune' [19] [bV (decide (a > b))] ma0 (fun f21 => ?_)))))
  refine W.cond (decide (a > b)) ma0 (fun h22 => ?_) (fun h23 => ?_)
  ·have qh22 := h22; try simp only [zA] at qh22
   refine W.seq (fun K24 hK24 => W.region (Wl.run 1 ma0 (Wl.nil (hK24 _ _ _ ?_))))
   refine W.ret ?_
   show ∀ w_, _ → bodyPostM (fence none) 0 Try.prog Try.f37 _ Exit.ret _ w_
   exact fun w_ hS_ => fin_ret (ret1 rfl (RV.tmp (v := iV .i64 1) ma0) hS_ ⟨by clear hK1 hK2 hK4 hK6 hK7 hK9 hK10 hK12 hK13 hK19 hK20 hK24; refine congrArg Ending.returned ?_; simp only [LO.cmp, LO.int, h16, h22, cond_true, cond_false]; try rfl, hS_.below⟩)
  ·have qh23 := h23; try simp only [zA] at qh23
   refine W.skip' (hK19 _ _ _ (W.prune' [] [] ma0 (fun f25 => W.seq (fun K26 hK26 => W.region ?_))))
   refine Wl.run 1 ma0 (Wl.nil (hK26 _ _ _ (W.ret ?_)))
   show ∀ w_, _ → bodyPostM (fence none) 0 Try.prog Try.f37 _ Exit.ret _ w_
   exact fun w_ hS_ => fin_ret (ret1 rfl (RV.tmp (v := iV .i64 0) ma0) hS_ ⟨by clear hK1 hK2 hK4 hK6 hK7 hK9 hK10 hK12 hK13 hK19 hK20 hK26; refine congrArg Ending.returned ?_; simp only [LO.cmp, LO.int, h16, h23, cond_true, cond_false]; try rfl, hS_.below⟩)
def or3 (x y z : Int) : Int := if x ≠ 0 then x else if y ≠ 0 then y else z
theorem or3_ord (a b : Int × Int × Int) : or3 (LO.cmp LO.int a.1 b.1) (LO.cmp LO.int a.2.1 b.2.1) (LO.cmp LO.int a.2.2 b.2.2) = LO.cmp ordM a b := by
  unfold ordM
  rw [LO.lex_cmp, LO.lex_cmp]
  unfold or3
  by_cases h1 : LO.cmp LO.int a.1 b.1 = 0
  · rw [if_neg (fun h => h h1), decide_eq_true h1]
    by_cases h2 : LO.cmp LO.int a.2.1 b.2.1 = 0
    · rw [if_neg (fun h => h h2), decide_eq_true h2]; rfl
    · rw [if_pos h2, decide_eq_false h2]; rfl
  · rw [if_pos h1, decide_eq_false h1]; rfl
theorem or3_c (x y z : Int) (a : Option Addr) (cap : Nat) (w : World) (hat : At w a [.int .i64 x, .int .i64 y, .int .i64 z]) : Calls Try.prog 85 #[Value.slice a 3 cap] w (Ret w (.int .i64 (or3 x y z))) := by
 refine calls_W (M := []) (LL := []) (n := 18) Try.func85 rfl rfl ma7 (Mem.refl _) (W.seq (fun K1 hK1 => ?_))
 refine W.region (Wl.run 1 ma0 (Wl.nil (hK1 _ _ _ (W.seq (fun K2 hK2 => ?_)))))
 refine W.region (Wl.run 1 ma0 (Wl.nil (hK2 _ _ _ (W.seq (fun K3 hK3 => ?_)))))
 refine W.seq (fun K4 hK4 => W.region (Wl.run 3 ma0 (Wl.nil (hK4 _ _ _ ?_))))
 refine W.prune' [3, 6, 7, 8] [iV .i64 0, Value.slice a 3 cap, iV .i64 3, iV .i64 0] ma0 (fun f5 => W.block (W.rounds 4 (Wr.step (fun J6 hJ6 => W.seq (fun K7 hK7 => ?_)))))
 refine W.region (Wl.run 1 ma0 (Wl.nil (hK7 _ _ _ (W.seq (fun K8 hK8 => ?_)))))
 refine W.condT ma0 (W.skip' (hK8 _ _ _ (W.prune' [3, 6, 7, 8] [iV .i64 0, Value.slice a 3 cap, iV .i64 3, iV .i64 0] ma0 (fun f9 => W.seq (fun K10 hK10 => ?_)))))
 refine W.block (W.seq (fun K11 hK11 => ?_))
 refine W.region (Wl.ys (v := Value.pointer (some (ela a 0))) rfl rfl (Ys.byMem fun w_ h_ => Ys.indexAddr (k := .i64) (a := a) (len := 3) (cap := cap) (i := 0) (sz := 1) rfl ma0 ma0 Try.runUnderlying172 Try.sizeOf3 ma1 ma1 ((hat.mem0 h_).here (by first | (simp; done) | (simp; omega)))) (Wl.ys rfl rfl (Ys.ld (a := ela a 0) rfl ma0 Try.isAgg3 (fun w_ h_ => (hat.mem0 h_).ld (v := iV .i64 x) rfl)) (Wl.run 1 ma0 (Wl.nil ?_))))
 refine hK11 _ _ _ (W.prune' [3, 5, 6, 7, 8] [iV .i64 0, iV .i64 x, Value.slice a 3 cap, iV .i64 3, iV .i64 0] ma0 (fun f12 => ?_))
 refine W.seq (fun K13 hK13 => W.region (Wl.run 3 ma0 (Wl.nil (hK13 _ _ _ ?_))))
 refine W.prune' [3, 5, 6, 7, 8, 14] [iV .i64 0, iV .i64 x, Value.slice a 3 cap, iV .i64 3, iV .i64 0, bV (x != 0)] ma0 (fun f14 => ?_)
 refine W.cond (x != 0) ma0 (fun h15 => ?_) (fun h16 => ?_)
 ·have qh15 := h15; try simp only [zA] at qh15
  refine W.seq (fun K17 hK17 => W.region (Wl.run 2 ma0 (Wl.nil (hK17 _ _ _ ?_))))
  refine W.prune' [2] [iV .i64 x] ma0 (fun f18 => W.ret ?_)
  show ∀ w_, _ → bodyPostM (fence none) 0 Try.prog Try.f85 _ Exit.ret _ w_
  exact fun w_ hS_ => fin_ret (ret1 rfl (RV.tmp (v := iV .i64 x) ma0) hS_ ⟨by clear hK1 hK2 hK3 hK4 hJ6 hK7 hK8 hK10 hK11 hK13 hK17; refine congrArg Ending.returned ?_; have z0_ := h15; simp at z0_; simp [or3, *], hS_.below⟩)
 ·have qh16 := h16; try simp only [zA] at qh16
  refine W.skip' (hK10 _ _ _ (W.prune' [3, 6, 7, 8] [iV .i64 0, Value.slice a 3 cap, iV .i64 3, iV .i64 0] ma0 (fun f19 => W.region (Wl.run 2 ma0 ?_))))
  refine Wl.nil (hJ6 _ _ _ (Wr.step (fun J20 hJ20 => W.prune' [3, 6, 7, 8] [iV .i64 0, Value.slice a 3 cap, iV .i64 3, iV .i64 1] ma0 (fun f21 => W.seq (fun K22 hK22 => ?_)))))
  refine W.region (Wl.run 1 ma0 (Wl.nil (hK22 _ _ _ (W.seq (fun K23 hK23 => ?_)))))
  refine W.condT ma0 (W.skip' (hK23 _ _ _ (W.prune' [3, 6, 7, 8] [iV .i64 0, Value.slice a 3 cap, iV .i64 3, iV .i64 1] ma0 (fun f24 => W.seq (fun K25 hK25 => ?_)))))
  refine W.block (W.seq (fun K26 hK26 => ?_))
  refine W.region (Wl.ys (v := Value.pointer (some (ela a 1))) rfl rfl (Ys.byMem fun w_ h_ => Ys.indexAddr (k := .i64) (a := a) (len := 3) (cap := cap) (i := 1) (sz := 1) rfl ma0 ma0 Try.runUnderlying172 Try.sizeOf3 ma1 ma1 ((hat.mem0 h_).here (by first | (simp; done) | (simp; omega)))) (Wl.ys rfl rfl (Ys.ld (a := ela a 1) rfl ma0 Try.isAgg3 (fun w_ h_ => (hat.mem0 h_).ld (v := iV .i64 y) rfl)) (Wl.run 1 ma0 (Wl.nil ?_))))
  refine hK26 _ _ _ (W.prune' [3, 5, 6, 7, 8] [iV .i64 0, iV .i64 y, Value.slice a 3 cap, iV .i64 3, iV .i64 1] ma0 (fun f27 => ?_))
  refine W.seq (fun K28 hK28 => W.region (Wl.run 3 ma0 (Wl.nil (hK28 _ _ _ ?_))))
  refine W.prune' [3, 5, 6, 7, 8, 14] [iV .i64 0, iV .i64 y, Value.slice a 3 cap, iV .i64 3, iV .i64 1, bV (y != 0)] ma0 (fun f29 => ?_)
  refine W.cond (y != 0) ma0 (fun h30 => ?_) (fun h31 => ?_)
  ·have qh30 := h30; try simp only [zA] at qh30
   refine W.seq (fun K32 hK32 => W.region (Wl.run 2 ma0 (Wl.nil (hK32 _ _ _ ?_))))
   refine W.prune' [2] [iV .i64 y] ma0 (fun f33 => W.ret ?_)
   show ∀ w_, _ → bodyPostM (fence none) 0 Try.prog Try.f85 _ Exit.ret _ w_
   exact fun w_ hS_ => fin_ret (ret1 rfl (RV.tmp (v := iV .i64 y) ma0) hS_ ⟨by clear hK1 hK2 hK3 hK4 hJ6 hK7 hK8 hK10 hK11 hK13 hJ20 hK22 hK23 hK25 hK26 hK28 hK32; refine congrArg Ending.returned ?_; have z0_ := h16; have z1_ := h30; simp at z0_ z1_; simp [or3, *], hS_.below⟩)
  ·have qh31 := h31; try simp only [zA] at qh31
   refine W.skip' (hK25 _ _ _ (W.prune' [3, 6, 7, 8] [iV .i64 0, Value.slice a 3 cap, iV .i64 3, iV .i64 1] ma0 (fun f34 => W.region (Wl.run 2 ma0 ?_))))
   refine Wl.nil (hJ20 _ _ _ (Wr.step (fun J35 hJ35 => W.prune' [3, 6, 7, 8] [iV .i64 0, Value.slice a 3 cap, iV .i64 3, iV .i64 2] ma0 (fun f36 => W.seq (fun K37 hK37 => ?_)))))
   refine W.region (Wl.run 1 ma0 (Wl.nil (hK37 _ _ _ (W.seq (fun K38 hK38 => ?_)))))
   refine W.condT ma0 (W.skip' (hK38 _ _ _ (W.prune' [3, 6, 7, 8] [iV .i64 0, Value.slice a 3 cap, iV .i64 3, iV .i64 2] ma0 (fun f39 => W.seq (fun K40 hK40 => ?_)))))
   refine W.block (W.seq (fun K41 hK41 => ?_))
   refine W.region (Wl.ys (v := Value.pointer (some (ela a 2))) rfl rfl (Ys.byMem fun w_ h_ => Ys.indexAddr (k := .i64) (a := a) (len := 3) (cap := cap) (i := 2) (sz := 1) rfl ma0 ma0 Try.runUnderlying172 Try.sizeOf3 ma1 ma1 ((hat.mem0 h_).here (by first | (simp; done) | (simp; omega)))) (Wl.ys rfl rfl (Ys.ld (a := ela a 2) rfl ma0 Try.isAgg3 (fun w_ h_ => (hat.mem0 h_).ld (v := iV .i64 z) rfl)) (Wl.run 1 ma0 (Wl.nil ?_))))
   refine hK41 _ _ _ (W.prune' [3, 5, 6, 7, 8] [iV .i64 0, iV .i64 z, Value.slice a 3 cap, iV .i64 3, iV .i64 2] ma0 (fun f42 => ?_))
   refine W.seq (fun K43 hK43 => W.region (Wl.run 3 ma0 (Wl.nil (hK43 _ _ _ ?_))))
   refine W.prune' [3, 5, 6, 7, 8, 14] [iV .i64 0, iV .i64 z, Value.slice a 3 cap, iV .i64 3, iV .i64 2, bV (z != 0)] ma0 (fun f44 => ?_)
   refine W.cond (z != 0) ma0 (fun h45 => ?_) (fun h46 => ?_)
   ·have qh45 := h45; try simp only [zA] at qh45
    refine W.seq (fun K47 hK47 => W.region (Wl.run 2 ma0 (Wl.nil (hK47 _ _ _ ?_))))
    refine W.prune' [2] [iV .i64 z] ma0 (fun f48 => W.ret ?_)
    show ∀ w_, _ → bodyPostM (fence none) 0 Try.prog Try.f85 _ Exit.ret _ w_
    exact fun w_ hS_ => fin_ret (ret1 rfl (RV.tmp (v := iV .i64 z) ma0) hS_ ⟨by clear hK1 hK2 hK3 hK4 hJ6 hK7 hK8 hK10 hK11 hK13 hJ20 hK22 hK23 hK25 hK26 hK28 hJ35 hK37 hK38 hK40 hK41 hK43 hK47; refine congrArg Ending.returned ?_; have z0_ := h16; have z1_ := h31; have z2_ := h45; simp at z0_ z1_ z2_; simp [or3, *], hS_.below⟩)
   ·have qh46 := h46; try simp only [zA] at qh46
    refine W.skip' (hK40 _ _ _ (W.prune' [3, 6, 7, 8] [iV .i64 0, Value.slice a 3 cap, iV .i64 3, iV .i64 2] ma0 (fun f49 => W.region (Wl.run 2 ma0 ?_))))
    refine Wl.nil (hJ35 _ _ _ (Wr.step (fun J50 hJ50 => W.prune' [3, 6, 7, 8] [iV .i64 0, Value.slice a 3 cap, iV .i64 3, iV .i64 3] ma0 (fun f51 => W.seq (fun K52 hK52 => ?_)))))
    refine W.region (Wl.run 1 ma0 (Wl.nil (hK52 _ _ _ (W.seq (fun K53 hK53 => ?_)))))
    refine W.condF ma0 (W.exit (hK3 _ _ _ (W.prune' [3] [iV .i64 0] ma0 (fun f54 => W.seq (fun K55 hK55 => ?_)))))
    refine W.region (Wl.run 2 ma0 (Wl.nil (hK55 _ _ _ (W.prune' [2] [iV .i64 0] ma0 (fun f56 => ?_)))))
    refine W.ret ?_
    show ∀ w_, _ → bodyPostM (fence none) 0 Try.prog Try.f85 _ Exit.ret _ w_
    exact fun w_ hS_ => fin_ret (ret1 rfl (RV.tmp (v := iV .i64 0) ma0) hS_ ⟨by clear hK1 hK2 hK3 hK4 hJ6 hK7 hK8 hK10 hK11 hK13 hJ20 hK22 hK23 hK25 hK26 hK28 hJ35 hK37 hK38 hK40 hK41 hK43 hJ50 hK52 hK53 hK55; refine congrArg Ending.returned ?_; have z0_ := h16; have z1_ := h31; have z2_ := h46; simp at z0_ z1_ z2_; simp [or3, *], hS_.below⟩)
theorem ordm_c (a b : Int × Int × Int) (w : World) : Calls Try.prog 52 #[aV [iV .u8 a.1, iV .u16 a.2.1, iV .u32 a.2.2], aV [iV .u8 b.1, iV .u16 b.2.1, iV .u32 b.2.2]] w (Ret w (.int .i64 (LO.cmp ordM a b))) := by
 refine calls_W (M := []) (LL := []) (n := 22) Try.func52 rfl rfl ma7 (Mem.refl _) (W.seq (fun K1 hK1 => ?_))
 refine W.region (Wl.ht rfl (Ht.box (v := aV [iV .u8 a.1, iV .u16 a.2.1, iV .u32 a.2.2]) (cs := [iV .u8 a.1, iV .u16 a.2.1, iV .u32 a.2.2]) rfl rfl ma0 rfl) (fun p2 => ?_))
 refine Wl.ht rfl (Ht.box (v := aV [iV .u8 b.1, iV .u16 b.2.1, iV .u32 b.2.2]) (cs := [iV .u8 b.1, iV .u16 b.2.1, iV .u32 b.2.2]) rfl rfl ma0 rfl) (fun p3 => Wl.run 1 ma0 (Wl.nil (hK1 _ _ _ (W.prune' [2, 3] [pV p2 0, pV p3 0] ma0 (fun f2 => ?_)))))
 refine W.seq (fun K3 hK3 => W.draws [(0, true), (1, true), (2, true), (3, true), (5, true), (6, true), (7, true), (8, true), (10, true), (11, true), (12, true), (13, true), (4, false), (9, false), (14, false), (15, false), (16, false), (17, false)] [0, 1, 2, 3, 5, 6, 7, 8, 10, 11, 12, 13] (Mem w [] [[cb p3 [iV .u8 b.1, iV .u16 b.2.1, iV .u32 b.2.2] 115], [cb p2 [iV .u8 a.1, iV .u16 a.2.1, iV .u32 a.2.2] 115]]) ma0 ma0 ma0 rfl ma0 (fun _ _ h_ => h_.drawn _) (fun _ h_ => h_) (Wd.run 1 ma0 (Wd.ys rfl rfl rfl (Ys.l1 p2 0 1 0 Try.isAgg5) (Wd.run 1 ma0 ?_))))
 refine Wd.ys rfl rfl rfl (Ys.l1 p3 0 0 0 Try.isAgg5) (Wd.run 1 ma0 (Wd.ys rfl rfl rfl (Ys.l1 p2 1 1 0 Try.isAgg29) (Wd.run 1 ma0 (Wd.ys rfl rfl rfl (Ys.l1 p3 1 0 0 Try.isAgg29) ?_))))
 refine Wd.run 1 ma0 (Wd.ys rfl rfl rfl (Ys.l1 p2 2 1 0 Try.isAgg25) (Wd.run 1 ma0 (Wd.ys rfl rfl rfl (Ys.l1 p3 2 0 0 Try.isAgg25) (Wd.yc (v := iV .i64 (LO.cmp LO.int a.1 b.1)) rfl rfl rfl (Yc.call (fun _ => kr) (fun w_ hm_ => (cmpm8_c a.1 b.1 _))) (.inr fun _ h_ => h_) ?_))))
 refine Wd.yc (v := iV .i64 (LO.cmp LO.int a.2.1 b.2.1)) rfl rfl rfl (Yc.call (fun _ => kr) (fun w_ hm_ => (cmpm16_c a.2.1 b.2.1 _))) (.inr fun _ h_ => h_) (Wd.yc (v := iV .i64 (LO.cmp LO.int a.2.2 b.2.2)) rfl rfl rfl (Yc.call (fun _ => kr) (fun w_ hm_ => (cmpm32_c a.2.2 b.2.2 _))) (.inr fun _ h_ => h_) (Wd.ht rfl rfl (Ht.made (mk := fun b_ => .slice (some ⟨b_, 0, none⟩) 3 3) (t := 3) (cs := [iV .i64 (LO.cmp LO.int a.1 b.1), iV .i64 (LO.cmp LO.int a.2.1 b.2.1), iV .i64 (LO.cmp LO.int a.2.2 b.2.2)]) rfl (fun _ => kr)) (.inr fun _ _ h_ => h_.pick [1, 2] ma1 rfl) (fun p20 => Wd.yc (v := iV .i64 (or3 (LO.cmp LO.int a.1 b.1) (LO.cmp LO.int a.2.1 b.2.1) (LO.cmp LO.int a.2.2 b.2.2))) rfl rfl rfl (Yc.call (fun _ => kr) (fun w_ hm_ => (or3_c (LO.cmp LO.int a.1 b.1) (LO.cmp LO.int a.2.1 b.2.1) (LO.cmp LO.int a.2.2 b.2.2) (some ⟨p20, 0, none⟩) 3 _ (At.lit0 (i := 0) (j := 0) (t := 3) (b := p20) hm_ rfl rfl)))) (.inr fun _ h_ => h_.pick [1, 2] ma1 rfl) (Wd.yc (v := iV .i64 (or3 (LO.cmp LO.int a.1 b.1) (LO.cmp LO.int a.2.1 b.2.1) (LO.cmp LO.int a.2.2 b.2.2))) rfl rfl rfl (Ys.yc (Ys.pure (fun _ => kr))) (.inl ma0) ?_))))
 refine Wd.nil (hK3 _ _ _ (W.pick (LL' := []) [] ma1 rfl (W.prune' [4] [iV .i64 (or3 (LO.cmp LO.int a.1 b.1) (LO.cmp LO.int a.2.1 b.2.1) (LO.cmp LO.int a.2.2 b.2.2))] ma0 (fun f4 => W.ret ?_))))
 show ∀ w_, _ → bodyPostM (fence none) 0 Try.prog Try.f52 _ Exit.ret _ w_
 exact fun w_ hS_ => fin_ret (ret1 rfl (RV.tmp (v := iV .i64 (or3 (LO.cmp LO.int a.1 b.1) (LO.cmp LO.int a.2.1 b.2.1) (LO.cmp LO.int a.2.2 b.2.2))) ma0) hS_ ⟨by clear hK1 hK3; refine congrArg Ending.returned ?_; rw [or3_ord], hS_.below⟩)
theorem fcmpM_c (x : (Int × Int × Int) × (Ent)) (k : Int × Int × Int) (a : Option Addr) (n cap : Nat) (most : Int) (tb pt : Nat) (w : World) (hpt : At w (some ⟨pt, 0, none⟩) [Value.pointer (some ⟨tb, 0, none⟩)]) (htb : At w (some ⟨tb, 0, none⟩) [Value.slice a n cap, Value.int .i64 most, Value.func (.func 52) #[] #[]]) : Calls Try.prog 114 #[aV [iV .u8 x.1.1, iV .u16 x.1.2.1, iV .u32 x.1.2.2, iV .u8 x.2.proto, iV .u16 x.2.ext, iV .u16 x.2.to, iV .u32 x.2.remote, iV .u32 x.2.host, bV x.2.on, Value.string x.2.words, iV .u64 x.2.ends], aV [iV .u8 k.1, iV .u16 k.2.1, iV .u32 k.2.2], pV pt 0] w (Ret w (.int .i64 (LO.cmp ordM x.1 k))) := by
 refine calls_W (M := []) (LL := []) (n := 14) Try.func114 rfl rfl ma7 (Mem.refl _) (W.seq (fun K1 hK1 => ?_))
 refine W.region (Wl.ht rfl (Ht.box (v := aV [iV .u8 x.1.1, iV .u16 x.1.2.1, iV .u32 x.1.2.2, iV .u8 x.2.proto, iV .u16 x.2.ext, iV .u16 x.2.to, iV .u32 x.2.remote, iV .u32 x.2.host, bV x.2.on, Value.string x.2.words, iV .u64 x.2.ends]) (cs := [iV .u8 x.1.1, iV .u16 x.1.2.1, iV .u32 x.1.2.2, iV .u8 x.2.proto, iV .u16 x.2.ext, iV .u16 x.2.to, iV .u32 x.2.remote, iV .u32 x.2.host, bV x.2.on, Value.string x.2.words, iV .u64 x.2.ends]) rfl rfl ma0 rfl) (fun p3 => ?_))
 refine Wl.ht rfl (Ht.box (v := aV [iV .u8 k.1, iV .u16 k.2.1, iV .u32 k.2.2]) (cs := [iV .u8 k.1, iV .u16 k.2.1, iV .u32 k.2.2]) rfl rfl ma0 rfl) (fun p4 => Wl.run 1 ma0 (Wl.nil (hK1 _ _ _ (W.prune' [2, 3, 4] [pV pt 0, pV p3 0, pV p4 0] ma0 (fun f2 => ?_)))))
 refine W.seq (fun K3 hK3 => W.draws [(0, true), (1, true), (2, true), (3, true), (4, true), (5, true), (6, false), (7, false), (8, false)] [0, 1, 2, 3, 4, 5] (Mem w [] [[cb p4 [iV .u8 k.1, iV .u16 k.2.1, iV .u32 k.2.2] 115], [cb p3 [iV .u8 x.1.1, iV .u16 x.1.2.1, iV .u32 x.1.2.2, iV .u8 x.2.proto, iV .u16 x.2.ext, iV .u16 x.2.to, iV .u32 x.2.remote, iV .u32 x.2.host, bV x.2.on, Value.string x.2.words, iV .u64 x.2.ends] 161]]) ma0 ma0 ma0 rfl ma0 (fun _ _ h_ => h_.drawn _) (fun _ h_ => h_) (Wd.ys rfl rfl rfl (Ys.ld (a := ⟨pt, 0, none⟩) rfl ma0 Try.isAgg112 (fun w_ h_ => by have x_ := (hpt.mem0 h_).ld (q := 0) (v := pV tb 0) rfl; rw [ela_own0] at x_; exact x_)) (Wd.run 2 ma0 (Wd.ys rfl rfl rfl (Ys.ld (a := ⟨tb, 2, none⟩) rfl ma0 Try.isAgg116 (fun w_ h_ => by have x_ := (htb.mem0 h_).ld (q := 2) (v := Value.func (.func 52) #[] #[]) rfl; rw [ela_own0] at x_; exact x_)) ?_))))
 refine Wd.run 1 ma0 (Wd.ys rfl rfl rfl (Ys.loadN (b := p3) (o' := 0) (i := 1) (j := 0) (vs := [iV .u8 x.1.1, iV .u16 x.1.2.1, iV .u32 x.1.2.2]) rfl ma0 Try.isAgg115 Try.sizeOf115 rfl rfl rfl rfl) (Wd.yc (v := aV [iV .u8 k.1, iV .u16 k.2.1, iV .u32 k.2.2]) rfl rfl rfl (Ys.yc (Ys.loadN (b := p4) (o' := 0) (i := 0) (j := 0) (vs := [iV .u8 k.1, iV .u16 k.2.1, iV .u32 k.2.2]) rfl ma0 Try.isAgg115 Try.sizeOf115 rfl rfl rfl rfl)) (.inr fun _ h_ => h_) (Wd.yc (v := iV .i64 (LO.cmp ordM x.1 k)) rfl rfl rfl (Yc.call (fun _ => kr) (fun w_ hm_ => (ordm_c x.1 k _))) (.inr fun _ h_ => h_) (Wd.yc (v := iV .i64 (LO.cmp ordM x.1 k)) rfl rfl rfl (Ys.yc (Ys.pure (fun _ => kr))) (.inl ma0) ?_))))
 refine Wd.nil (hK3 _ _ _ (W.pick (LL' := []) [] ma1 rfl (W.prune' [5] [iV .i64 (LO.cmp ordM x.1 k)] ma0 (fun f4 => W.ret ?_))))
 show ∀ w_, _ → bodyPostM (fence none) 0 Try.prog Try.f114 _ Exit.ret _ w_
 exact fun w_ hS_ => fin_ret (ret1 rfl (RV.tmp (v := iV .i64 (LO.cmp ordM x.1 k)) ma0) hS_ ⟨rfl, hS_.below⟩)
theorem hasCM {xs : List ((Int × Int × Int) × (Ent))} {k : Int × Int × Int} (hs : Srt ordM xs) : ((decide (((posK ordM xs k : Nat) : Int) < (xs.length : Int))) && ((LO.cmp ordM (xs.getD (posK ordM xs k) dM).1 k) == 0)) = hasK xs k := by
  rw [← has_code dM hs]
  congr 1
  · exact decide_eq_decide.2 ma3
  · rw [Bool.eq_iff_iff, beq_iff_eq, decide_eq_true_eq]; exact LO.cmp_eq _
theorem bsM_c (xs : List ((Int × Int × Int) × (Ent))) (a : Option Addr) (cap : Nat) (most : Int) (tb : Nat) (pt : Nat) (k : Int × Int × Int) (w : World) (hpt : At w (some ⟨pt, 0, none⟩) [Value.pointer (some ⟨tb, 0, none⟩)]) (htb : At w (some ⟨tb, 0, none⟩) [Value.slice a xs.length cap, Value.int .i64 most, Value.func (.func 52) #[] #[]]) (hls : At w a (mm prM xs)) (hn : xs.length ≤ 100000) (hs : Srt ordM xs) : Calls Try.prog 113 #[Value.slice a xs.length cap, aV [iV .u8 k.1, iV .u16 k.2.1, iV .u32 k.2.2], Value.func (.func 114) #[] #[pV pt 0]] w (Ret w (Value.tuple #[nV .i64 (posK ordM xs k), bV (hasK xs k)])) := by
 refine calls_W (M := []) (LL := []) (n := 49) Try.func113 rfl rfl ma7 (Mem.refl _) (W.seq (fun K1 hK1 => ?_))
 refine W.region (Wl.ht rfl (Ht.box (v := aV [iV .u8 k.1, iV .u16 k.2.1, iV .u32 k.2.2]) (cs := [iV .u8 k.1, iV .u16 k.2.1, iV .u32 k.2.2]) rfl rfl ma0 rfl) (fun p4 => ?_))
 refine Wl.run 2 ma0 (Wl.nil (hK1 _ _ _ (W.prune' [0, 2, 4] [Value.slice a xs.length cap, Value.func (.func 114) #[] #[pV pt 0], pV p4 0] ma0 (fun f2 => W.seq (fun K3 hK3 => ?_)))))
 refine W.region (Wl.run 3 ma0 (Wl.nil (hK3 _ _ _ (W.prune' [0, 2, 4, 8] [Value.slice a xs.length cap, Value.func (.func 114) #[] #[pV pt 0], pV p4 0, nV .i64 xs.length] ma0 (fun f4 => ?_)))))
 refine W.seq (fun K5 hK5 => W.region (Wl.run 3 ma0 (Wl.nil (hK5 _ _ _ ?_))))
 refine W.prune' [0, 2, 4, 8, 9, 10] [Value.slice a xs.length cap, Value.func (.func 114) #[] #[pV pt 0], pV p4 0, nV .i64 xs.length, iV .i64 0, nV .i64 xs.length] ma0 (fun f6 => W.seq (fun K7 hK7 => ?_))
 refine W.block (W.loop2 [0, 2, 4, 8, 9, 10] (fun (i : Nat) (j : Nat) => [Value.slice a xs.length cap, Value.func (.func 114) #[] #[pV pt 0], pV p4 0, nV .i64 xs.length, nV .i64 i, nV .i64 j]) (fun (i : Nat) (j : Nat) => i ≤ posK ordM xs k ∧ posK ordM xs k ≤ j ∧ j ≤ xs.length) (fun (i : Nat) (j : Nat) => [[cb p4 [iV .u8 k.1, iV .u16 k.2.1, iV .u32 k.2.2] 115]]) (fun (i : Nat) (j : Nat) => j - i) 0 xs.length ma0 ⟨(Nat.zero_le _), posK_le, (Nat.le_refl _)⟩ (by rfl) (fun i j f9 J8 hp10 hJ8 => ?_))
 obtain ⟨hi, hj, hjn⟩ := hp10
 refine W.seq (fun K11 hK11 => W.seq (fun K12 hK12 => ?_))
 refine W.region (Wl.run 3 ma0 (Wl.nil (hK12 _ _ _ (W.prune' [0, 2, 4, 8, 9, 10, 17] [Value.slice a xs.length cap, Value.func (.func 114) #[] #[pV pt 0], pV p4 0, nV .i64 xs.length, nV .i64 i, nV .i64 j, bV (decide (((i : Nat) : Int) < (j : Int)))] ma0 (fun f13 => ?_)))))
 refine W.cond (decide (((i : Nat) : Int) < (j : Int))) ma0 (fun h14 => ?_) (fun h15 => ?_)
 ·have qh14 := h14; try simp only [zA] at qh14
  refine W.skip' (hK11 _ _ _ (W.prune' [0, 2, 4, 8, 9, 10] [Value.slice a xs.length cap, Value.func (.func 114) #[] #[pV pt 0], pV p4 0, nV .i64 xs.length, nV .i64 i, nV .i64 j] ma0 (fun f16 => W.block (W.seq (fun K17 hK17 => ?_)))))
  refine W.region (Wl.run 2 ma0 (Wl.ys (v := nV .i64 (i + j)) rfl rfl ((Ys.pure (v := .int .i64 (iadd .i64 (i : Int) (j : Int))) (fun _ => kr)).conseq (int_congr (iadd_eq ma3 ma3 ma3))) (Wl.ys (v := nV .u64 (i + j)) rfl rfl ((Ys.pure (v := .int .u64 (icnv .u64 ((i + j : Nat) : Int))) (fun _ => kr)).conseq (int_congr (wrap_u64 ma3 ma3))) (Wl.ys (v := nV .u64 ((i + j) / 2)) rfl rfl ((Ys.pure (v := .int .u64 (ishr .u64 ((i + j : Nat) : Int) ((1 : Nat) : Int))) (fun _ => kr)).conseq (int_congr (ishr_nat (i + j) 1 ma1))) ?_))))
  refine Wl.ys (v := nV .i64 ((i + j) / 2)) rfl rfl ((Ys.pure (v := .int .i64 (icnv .i64 (((i + j) / 2 : Nat) : Int))) (fun _ => kr)).conseq (int_congr (wrap_i64 ma3 ma3))) (Wl.run 1 ma0 (Wl.nil (hK17 _ _ _ (W.prune' [0, 2, 4, 8, 9, 10, 11] [Value.slice a xs.length cap, Value.func (.func 114) #[] #[pV pt 0], pV p4 0, nV .i64 xs.length, nV .i64 i, nV .i64 j, nV .i64 ((i + j) / 2)] ma0 (fun f18 => ?_)))))
  refine W.seq (fun K19 hK19 => W.draws [(0, true), (1, true), (2, true), (3, true), (4, true), (5, false), (6, false), (7, false)] [0, 1, 2, 3, 4] (Mem w [] [[cb p4 [iV .u8 k.1, iV .u16 k.2.1, iV .u32 k.2.2] 115]]) ma0 ma0 ma0 rfl ma0 (fun _ _ h_ => h_.drawn _) (fun _ h_ => h_) (Wd.run 3 ma0 (Wd.ys (v := Value.pointer (some (ela a (((i + j) / 2) * 11)))) rfl rfl rfl (Ys.byMem fun w_ h_ => Ys.indexAddr (k := .i64) (a := a) (len := xs.length) (cap := cap) (i := (((i + j) / 2 : Nat) : Int)) (sz := 11) rfl ma0 ma0 Try.runUnderlying149 Try.sizeOf161 ma3 ma3 ((hls.mem0 h_).here (by rw [mm_len (g := prM) (sz := 11) (fun _ => rfl)]; first | omega | (simp; omega)))) (Wd.ys (v := aV [iV .u8 (((xs.getD ((i + j) / 2) dM).1).1), iV .u16 (((xs.getD ((i + j) / 2) dM).1).2.1), iV .u32 (((xs.getD ((i + j) / 2) dM).1).2.2), iV .u8 (((xs.getD ((i + j) / 2) dM).2).proto), iV .u16 (((xs.getD ((i + j) / 2) dM).2).ext), iV .u16 (((xs.getD ((i + j) / 2) dM).2).to), iV .u32 (((xs.getD ((i + j) / 2) dM).2).remote), iV .u32 (((xs.getD ((i + j) / 2) dM).2).host), bV (((xs.getD ((i + j) / 2) dM).2).on), Value.string (((xs.getD ((i + j) / 2) dM).2).words), iV .u64 (((xs.getD ((i + j) / 2) dM).2).ends)]) rfl rfl rfl (Ys.ldN (a := ela a (((i + j) / 2) * 11)) (vs := [iV .u8 (((xs.getD ((i + j) / 2) dM).1).1), iV .u16 (((xs.getD ((i + j) / 2) dM).1).2.1), iV .u32 (((xs.getD ((i + j) / 2) dM).1).2.2), iV .u8 (((xs.getD ((i + j) / 2) dM).2).proto), iV .u16 (((xs.getD ((i + j) / 2) dM).2).ext), iV .u16 (((xs.getD ((i + j) / 2) dM).2).to), iV .u32 (((xs.getD ((i + j) / 2) dM).2).remote), iV .u32 (((xs.getD ((i + j) / 2) dM).2).host), bV (((xs.getD ((i + j) / 2) dM).2).on), Value.string (((xs.getD ((i + j) / 2) dM).2).words), iV .u64 (((xs.getD ((i + j) / 2) dM).2).ends)]) rfl ma0 Try.isAgg161 Try.sizeOf161 rfl (fun w_ h_ => (hls.mem0 h_).ldN (mm_get (g := prM) (sz := 11) (fun _ => rfl) dM (xs := xs) (k := (i + j) / 2) ma3))) ?_))))
  refine Wd.yc (v := aV [iV .u8 k.1, iV .u16 k.2.1, iV .u32 k.2.2]) rfl rfl rfl (Ys.yc (Ys.loadN (b := p4) (o' := 0) (i := 0) (j := 0) (vs := [iV .u8 k.1, iV .u16 k.2.1, iV .u32 k.2.2]) rfl ma0 Try.isAgg115 Try.sizeOf115 rfl rfl rfl rfl)) (.inr fun _ h_ => h_) (Wd.yc (v := iV .i64 (LO.cmp ordM ((xs.getD ((i + j) / 2) dM).1) k)) rfl rfl rfl (Yc.call (fun _ => kr) (fun w_ hm_ => (fcmpM_c (((xs.getD ((i + j) / 2) dM).1), ((xs.getD ((i + j) / 2) dM).2)) k a xs.length cap most tb pt _ (hpt.mem0 hm_) (htb.mem0 hm_)))) (.inr fun _ h_ => h_) (Wd.yc (v := bV (decide ((LO.cmp ordM ((xs.getD ((i + j) / 2) dM).1) k) < 0))) rfl rfl rfl (Ys.yc (Ys.pure (fun _ => kr))) (.inr fun _ h_ => h_) (Wd.nil (hK19 _ _ _ ?_))))
  refine W.prune' [0, 2, 4, 8, 9, 10, 11, 31] [Value.slice a xs.length cap, Value.func (.func 114) #[] #[pV pt 0], pV p4 0, nV .i64 xs.length, nV .i64 i, nV .i64 j, nV .i64 ((i + j) / 2), bV (decide ((LO.cmp ordM ((xs.getD ((i + j) / 2) dM).1) k) < 0))] ma0 (fun f20 => ?_)
  refine W.cond (decide ((LO.cmp ordM ((xs.getD ((i + j) / 2) dM).1) k) < 0)) ma0 (fun h21 => ?_) (fun h22 => ?_)
  ·have qh21 := h21; try simp only [zA] at qh21
   refine W.region (Wl.run 1 ma0 (Wl.ys (v := nV .i64 (((i + j) / 2) + 1)) rfl rfl ((Ys.pure (v := .int .i64 (iadd .i64 (((i + j) / 2 : Nat) : Int) 1)) (fun _ => kr)).conseq (int_congr (iadd_eq ma3 ma3 ma3))) (Wl.run 1 ma0 (Wl.nil ?_))))
   have hps_ := posK_spec dM (k := k) hs (h := (i + j) / 2) ma3
   have hpl_ := hps_.1 (LO.cmp_lt _ |>.1 qh21)
   refine fun w_ h_ => hJ8 ((i + j) / 2 + 1) j _ w_ ma3 ⟨ma3, ma3, ma3⟩ ?_ h_
   kernel_rfl
  ·have qh22 := h22; try simp only [zA] at qh22
   refine W.region (Wl.run 2 ma0 (Wl.nil ?_))
   have hps_ := posK_spec dM (k := k) hs (h := (i + j) / 2) ma3
   have hpl_ : ¬ ((i + j) / 2 < posK ordM xs k) := fun h_ => qh22 (LO.cmp_lt _ |>.2 (hps_.2 h_))
   refine fun w_ h_ => hJ8 i ((i + j) / 2) _ w_ ma3 ⟨ma3, ma3, ma3⟩ ?_ h_
   kernel_rfl
 ·have qh15 := h15; try simp only [zA] at qh15
  refine W.exit (hK7 _ _ _ (W.prune' [0, 2, 4, 8, 9] [Value.slice a xs.length cap, Value.func (.func 114) #[] #[pV pt 0], pV p4 0, nV .i64 xs.length, nV .i64 i] ma0 (fun f23 => W.seq (fun K24 hK24 => W.draws [(0, true), (1, true), (2, false), (3, false), (4, false), (5, true), (6, true), (7, true), (8, true), (9, true), (10, false), (11, false), (12, true), (13, true), (14, false), (15, false)] [0, 1, 5, 6, 7, 8, 9, 12, 13] (Mem w [] [[cb p4 [iV .u8 k.1, iV .u16 k.2.1, iV .u32 k.2.2] 115]]) ma0 ma0 ma0 rfl ma0 (fun _ _ h_ => h_.drawn _) (fun _ h_ => h_) ?_))))
  refine Wd.run 2 ma0 (Wd.yc (v := nV .i64 xs.length) rfl rfl rfl (Ys.yc (Ys.pure (fun _ => kr))) (.inr fun _ h_ => h_) (Wd.yc (v := bV (decide (((i : Nat) : Int) < (xs.length : Int)))) rfl rfl rfl (Ys.yc (Ys.pure (fun _ => kr))) (.inr fun _ h_ => h_) (Wd.yc (v := bV (decide (((i : Nat) : Int) < (xs.length : Int)))) rfl rfl rfl (Ys.yc (Ys.pure (fun _ => kr))) (.inr fun _ h_ => h_) ?_)))
  refine Wd.guard (v := Value.func (.func 114) #[] #[pV pt 0]) (decide (((i : Nat) : Int) < (xs.length : Int))) rfl (wantT rfl ma0) rfl (fun hg25 => ?_) ?_
  ·exact Ys.pure (fun _ => kr)
  refine Wd.guard (v := Value.slice a xs.length cap) (decide (((i : Nat) : Int) < (xs.length : Int))) rfl (wantT rfl ma0) rfl (fun hg26 => ?_) ?_
  ·exact Ys.pure (fun _ => kr)
  refine Wd.guard (v := nV .i64 i) (decide (((i : Nat) : Int) < (xs.length : Int))) rfl (wantT rfl ma0) rfl (fun hg27 => ?_) ?_
  ·exact Ys.pure (fun _ => kr)
  refine Wd.guard (v := Value.pointer (some (ela a (i * 11)))) (decide (((i : Nat) : Int) < (xs.length : Int))) rfl (wantT rfl ma0) rfl (fun hg28 => ?_) ?_
  ·have qhg28 := hg28; try simp only [zA] at qhg28
   refine Ys.at (t := 41) (v0 := Value.slice a xs.length cap) (lz (g := decide (((i : Nat) : Int) < (xs.length : Int))) (u := undef) hg28 ma0) (Ys.at (t := 42) (v0 := nV .i64 i) (lz (g := decide (((i : Nat) : Int) < (xs.length : Int))) (u := undef) hg28 ma0) ?_)
   exact Ys.byMem fun w_ h_ => Ys.indexAddr (k := .i64) (a := a) (len := xs.length) (cap := cap) (i := (i : Int)) (sz := 11) rfl ma0 ma0 Try.runUnderlying149 Try.sizeOf161 ma3 ma3 ((hls.mem0 h_).here (by rw [mm_len (g := prM) (sz := 11) (fun _ => rfl)]; first | omega | (simp; omega)))
  refine Wd.guard (v := aV [iV .u8 (((xs.getD i dM).1).1), iV .u16 (((xs.getD i dM).1).2.1), iV .u32 (((xs.getD i dM).1).2.2), iV .u8 (((xs.getD i dM).2).proto), iV .u16 (((xs.getD i dM).2).ext), iV .u16 (((xs.getD i dM).2).to), iV .u32 (((xs.getD i dM).2).remote), iV .u32 (((xs.getD i dM).2).host), bV (((xs.getD i dM).2).on), Value.string (((xs.getD i dM).2).words), iV .u64 (((xs.getD i dM).2).ends)]) (decide (((i : Nat) : Int) < (xs.length : Int))) rfl (wantT rfl ma0) rfl (fun hg29 => ?_) ?_
  ·have qhg29 := hg29; try simp only [zA] at qhg29
   refine Ys.at (t := 43) (v0 := Value.pointer (some (ela a (i * 11)))) (lz (g := decide (((i : Nat) : Int) < (xs.length : Int))) (u := undef) hg29 ma0) ?_
   exact Ys.ldN (a := ela a (i * 11)) (vs := [iV .u8 (((xs.getD i dM).1).1), iV .u16 (((xs.getD i dM).1).2.1), iV .u32 (((xs.getD i dM).1).2.2), iV .u8 (((xs.getD i dM).2).proto), iV .u16 (((xs.getD i dM).2).ext), iV .u16 (((xs.getD i dM).2).to), iV .u32 (((xs.getD i dM).2).remote), iV .u32 (((xs.getD i dM).2).host), bV (((xs.getD i dM).2).on), Value.string (((xs.getD i dM).2).words), iV .u64 (((xs.getD i dM).2).ends)]) rfl ma0 Try.isAgg161 Try.sizeOf161 rfl (fun w_ h_ => (hls.mem0 h_).ldN (mm_get (g := prM) (sz := 11) (fun _ => rfl) dM (xs := xs) (k := i) ma3))
  refine Wd.guardc (v := aV [iV .u8 k.1, iV .u16 k.2.1, iV .u32 k.2.2]) (decide (((i : Nat) : Int) < (xs.length : Int))) rfl (wantT rfl ma0) rfl (fun hg30 => ?_) (.inr fun _ h_ => h_) ?_
  ·refine Ys.yc ?_
   exact Ys.loadN (b := p4) (o' := 0) (i := 0) (j := 0) (vs := [iV .u8 k.1, iV .u16 k.2.1, iV .u32 k.2.2]) rfl ma0 Try.isAgg115 Try.sizeOf115 rfl rfl rfl rfl
  refine Wd.guardc (v := iV .i64 (LO.cmp ordM ((xs.getD i dM).1) k)) (decide (((i : Nat) : Int) < (xs.length : Int))) rfl (wantT rfl ma0) rfl (fun hg31 => ?_) (.inr fun _ h_ => h_) ?_
  ·have qhg31 := hg31; try simp only [zA] at qhg31
   refine Yc.at (t := 40) (v0 := Value.func (.func 114) #[] #[pV pt 0]) (lz (g := decide (((i : Nat) : Int) < (xs.length : Int))) (u := undef) hg31 ma0) (Yc.at (t := 44) (v0 := aV [iV .u8 (((xs.getD i dM).1).1), iV .u16 (((xs.getD i dM).1).2.1), iV .u32 (((xs.getD i dM).1).2.2), iV .u8 (((xs.getD i dM).2).proto), iV .u16 (((xs.getD i dM).2).ext), iV .u16 (((xs.getD i dM).2).to), iV .u32 (((xs.getD i dM).2).remote), iV .u32 (((xs.getD i dM).2).host), bV (((xs.getD i dM).2).on), Value.string (((xs.getD i dM).2).words), iV .u64 (((xs.getD i dM).2).ends)]) (lz (g := decide (((i : Nat) : Int) < (xs.length : Int))) (u := undef) hg31 ma0) (Yc.at (t := 45) (v0 := aV [iV .u8 k.1, iV .u16 k.2.1, iV .u32 k.2.2]) (lz (g := decide (((i : Nat) : Int) < (xs.length : Int))) (u := undef) hg31 ma0) ?_))
   exact Yc.call (fun _ => kr) (fun w_ hm_ => (fcmpM_c (((xs.getD i dM).1), ((xs.getD i dM).2)) k a xs.length cap most tb pt _ (hpt.mem0 hm_) (htb.mem0 hm_)))
  refine Wd.guard (v := bV ((LO.cmp ordM ((xs.getD i dM).1) k) == 0)) (decide (((i : Nat) : Int) < (xs.length : Int))) rfl (wantT rfl ma0) rfl (fun hg32 => ?_) ?_
  ·have qhg32 := hg32; try simp only [zA] at qhg32
   refine Ys.at (t := 46) (v0 := iV .i64 (LO.cmp ordM ((xs.getD i dM).1) k)) (lz (g := decide (((i : Nat) : Int) < (xs.length : Int))) (u := undef) hg32 ma0) ?_
   exact Ys.pure (fun _ => kr)
  refine Wd.ys (v := bV ((decide (((i : Nat) : Int) < (xs.length : Int))) && ((LO.cmp ordM ((xs.getD i dM).1) k) == 0))) rfl rfl rfl (Ys.and (e := decide (((i : Nat) : Int) < (xs.length : Int))) (b := (LO.cmp ordM ((xs.getD i dM).1) k) == 0) rfl ma0 ma0 ma0) (Wd.yc (v := nV .i64 i) rfl rfl rfl (Ys.yc (Ys.pure (fun _ => kr))) (.inr fun _ h_ => h_) (Wd.yc (v := bV ((decide (((i : Nat) : Int) < (xs.length : Int))) && ((LO.cmp ordM ((xs.getD i dM).1) k) == 0))) rfl rfl rfl (Ys.yc (Ys.pure (fun _ => kr))) (.inl ma0) (Wd.nil (hK24 _ _ _ ?_))))
  refine W.pick (LL' := []) [] ma1 rfl (W.prune' [6, 7] [nV .i64 i, bV ((decide (((i : Nat) : Int) < (xs.length : Int))) && ((LO.cmp ordM ((xs.getD i dM).1) k) == 0))] ma0 (fun f33 => ?_))
  refine W.ret ?_
  have hip_ : i = posK ordM xs k := by omega
  show ∀ w_, _ → bodyPostM (fence none) 0 Try.prog Try.f113 _ Exit.ret _ w_
  exact fun w_ hS_ => fin_ret (ret2 rfl (RV.tmp (v := nV .i64 i) ma0) (RV.tmp (v := bV ((decide (((i : Nat) : Int) < (xs.length : Int))) && ((LO.cmp ordM ((xs.getD i dM).1) k) == 0))) ma0) hS_ ⟨by clear hK1 hK3 hK5 hK7 hJ8 hK11 hK12 hK24; refine congrArg Ending.returned ?_; rw [hip_]; refine congrArg (fun b => Value.tuple #[_, .bool b]) ?_; exact hasCM hs, hS_.below⟩)
theorem findM_c (xs : List ((Int × Int × Int) × (Ent))) (a : Option Addr) (cap : Nat) (most : Int) (tb : Nat) (k : Int × Int × Int) (w : World) (htb : At w (some ⟨tb, 0, none⟩) [Value.slice a xs.length cap, Value.int .i64 most, Value.func (.func 52) #[] #[]]) (hls : At w a (mm prM xs)) (hn : xs.length ≤ 100000) (hs : Srt ordM xs) : Calls Try.prog 92 #[pV tb 0, aV [iV .u8 k.1, iV .u16 k.2.1, iV .u32 k.2.2]] w (Ret w (Value.tuple #[nV .i64 (posK ordM xs k), bV (hasK xs k)])) := by
 refine calls_W (M := []) (LL := []) (n := 15) Try.func92 rfl rfl ma7 (Mem.refl _) (W.seq (fun K1 hK1 => ?_))
 refine W.region (Wl.ht rfl (Ht.box (v := pV tb 0) (cs := [pV tb 0]) rfl rfl ma0 rfl) (fun p2 => ?_))
 refine Wl.ht rfl (Ht.box (v := aV [iV .u8 k.1, iV .u16 k.2.1, iV .u32 k.2.2]) (cs := [iV .u8 k.1, iV .u16 k.2.1, iV .u32 k.2.2]) rfl rfl ma0 rfl) (fun p3 => Wl.run 2 ma0 (Wl.nil (hK1 _ _ _ (W.prune' [2, 3] [pV p2 0, pV p3 0] ma0 (fun f2 => ?_)))))
 refine W.seq (fun K3 hK3 => W.draws [(0, true), (1, true), (2, true), (3, true), (4, true), (5, false), (6, false), (7, true), (8, false), (9, false), (10, false)] [0, 1, 2, 3, 4, 7] (Mem w [] [[cb p3 [iV .u8 k.1, iV .u16 k.2.1, iV .u32 k.2.2] 115], [cb p2 [pV tb 0] 112]]) ma0 ma0 ma0 rfl ma0 (fun _ _ h_ => h_.drawn _) (fun _ h_ => h_) (Wd.ys rfl rfl rfl (Ys.l1 p2 0 1 0 Try.isAgg112) (Wd.run 2 ma0 (Wd.ys rfl rfl rfl (Ys.ld (a := ⟨tb, 0, none⟩) rfl ma0 Try.isAgg149 (fun w_ h_ => by have x_ := (htb.mem0 h_).ld (q := 0) (v := Value.slice a xs.length cap) rfl; rw [ela_own0] at x_; exact x_)) ?_))))
 refine Wd.ys rfl rfl rfl (Ys.loadN (b := p3) (o' := 0) (i := 0) (j := 0) (vs := [iV .u8 k.1, iV .u16 k.2.1, iV .u32 k.2.2]) rfl ma0 Try.isAgg115 Try.sizeOf115 rfl rfl rfl rfl) (Wd.yc (v := Value.func (.func 114) #[] #[pV p2 0]) rfl rfl rfl (Ys.yc (Ys.pure (fun _ => kr))) (.inr fun _ h_ => h_) (Wd.yc (v := Value.tuple #[nV .i64 (posK ordM xs k), bV (hasK xs k)]) rfl rfl rfl (Yc.call (fun _ => kr) (fun w_ hm_ => (bsM_c xs a cap most tb p2 k _ (At.lit0 (i := 1) (j := 0) (t := 112) (b := p2) hm_ rfl rfl) (htb.mem0 hm_) (hls.mem0 hm_) ma4 hs))) (.inr fun _ h_ => h_) (Wd.run 1 ma0 (Wd.yc (v := bV (hasK xs k)) rfl rfl rfl (Ys.yc (Ys.pure (fun _ => kr))) (.inr fun _ h_ => h_) ?_))))
 refine Wd.yc (v := nV .i64 (posK ordM xs k)) rfl rfl rfl (Ys.yc (Ys.pure (fun _ => kr))) (.inl ma0) (Wd.yc (v := bV (hasK xs k)) rfl rfl rfl (Ys.yc (Ys.pure (fun _ => kr))) (.inl ma0) (Wd.nil (hK3 _ _ _ (W.pick (LL' := []) [] ma1 rfl ?_))))
 refine W.prune' [4, 5] [nV .i64 (posK ordM xs k), bV (hasK xs k)] ma0 (fun f4 => W.ret ?_)
 show ∀ w_, _ → bodyPostM (fence none) 0 Try.prog Try.f92 _ Exit.ret _ w_
 exact fun w_ hS_ => fin_ret (ret2 rfl (RV.tmp (v := nV .i64 (posK ordM xs k)) ma0) (RV.tmp (v := bV (hasK xs k)) ma0) hS_ ⟨rfl, hS_.below⟩)
theorem lenM_c (xs : List ((Int × Int × Int) × (Ent))) (a : Option Addr) (cap : Nat) (most : Int) (tb : Nat) (w : World) (htb : At w (some ⟨tb, 0, none⟩) [Value.slice a xs.length cap, Value.int .i64 most, Value.func (.func 52) #[] #[]]) (hls : At w a (mm prM xs)) (hn : xs.length ≤ 100000) (hs : Srt ordM xs) : Calls Try.prog 59 #[pV tb 0] w (Ret w (nV .i64 xs.length)) := by
 refine calls_W (M := []) (LL := []) (n := 8) Try.func59 rfl rfl ma7 (Mem.refl _) (W.seq (fun K1 hK1 => ?_))
 refine W.region (Wl.run 1 ma0 (Wl.nil (hK1 _ _ _ (W.seq (fun K2 hK2 => ?_)))))
 refine W.region (Wl.run 3 ma0 (Wl.ys rfl rfl (Ys.ld (a := ⟨tb, 0, none⟩) rfl ma0 Try.isAgg149 (fun w_ h_ => by have x_ := (htb.mem0 h_).ld (q := 0) (v := Value.slice a xs.length cap) rfl; rw [ela_own0] at x_; exact x_)) (Wl.run 2 ma0 (Wl.nil ?_))))
 refine hK2 _ _ _ (W.prune' [2] [nV .i64 xs.length] ma0 (fun f3 => ?_))
 refine W.ret ?_
 show ∀ w_, _ → bodyPostM (fence none) 0 Try.prog Try.f59 _ Exit.ret _ w_
 exact fun w_ hS_ => fin_ret (ret1 rfl (RV.tmp (v := nV .i64 xs.length) ma0) hS_ ⟨rfl, hS_.below⟩)
theorem mostM_c (xs : List ((Int × Int × Int) × (Ent))) (a : Option Addr) (cap : Nat) (most : Int) (tb : Nat) (w : World) (htb : At w (some ⟨tb, 0, none⟩) [Value.slice a xs.length cap, Value.int .i64 most, Value.func (.func 52) #[] #[]]) (hls : At w a (mm prM xs)) (hn : xs.length ≤ 100000) (hs : Srt ordM xs) : Calls Try.prog 83 #[pV tb 0] w (Ret w (iV .i64 most)) := by
 refine calls_W (M := []) (LL := []) (n := 7) Try.func83 rfl rfl ma7 (Mem.refl _) (W.seq (fun K1 hK1 => ?_))
 refine W.region (Wl.run 1 ma0 (Wl.nil (hK1 _ _ _ (W.seq (fun K2 hK2 => ?_)))))
 refine W.region (Wl.run 3 ma0 (Wl.ys rfl rfl (Ys.ld (a := ⟨tb, 1, none⟩) rfl ma0 Try.isAgg3 (fun w_ h_ => by have x_ := (htb.mem0 h_).ld (q := 1) (v := iV .i64 most) rfl; rw [ela_own0] at x_; exact x_)) (Wl.run 1 ma0 (Wl.nil ?_))))
 refine hK2 _ _ _ (W.prune' [2] [iV .i64 most] ma0 (fun f3 => ?_))
 refine W.ret ?_
 show ∀ w_, _ → bodyPostM (fence none) 0 Try.prog Try.f83 _ Exit.ret _ w_
 exact fun w_ hS_ => fin_ret (ret1 rfl (RV.tmp (v := iV .i64 most) ma0) hS_ ⟨rfl, hS_.below⟩)
theorem getM_c (xs : List ((Int × Int × Int) × (Ent))) (a : Option Addr) (cap : Nat) (most : Int) (tb : Nat) (k : Int × Int × Int) (w : World) (htb : At w (some ⟨tb, 0, none⟩) [Value.slice a xs.length cap, Value.int .i64 most, Value.func (.func 52) #[] #[]]) (hls : At w a (mm prM xs)) (hn : xs.length ≤ 100000) (hs : Srt ordM xs) : Calls Try.prog 56 #[pV tb 0, aV [iV .u8 k.1, iV .u16 k.2.1, iV .u32 k.2.2]] w (Ret w (Value.tuple #[aV [iV .u8 ((getK (⟨0, 0, 0, 0, 0, false, bstr [], 0⟩ : Ent) xs k).proto), iV .u16 ((getK (⟨0, 0, 0, 0, 0, false, bstr [], 0⟩ : Ent) xs k).ext), iV .u16 ((getK (⟨0, 0, 0, 0, 0, false, bstr [], 0⟩ : Ent) xs k).to), iV .u32 ((getK (⟨0, 0, 0, 0, 0, false, bstr [], 0⟩ : Ent) xs k).remote), iV .u32 ((getK (⟨0, 0, 0, 0, 0, false, bstr [], 0⟩ : Ent) xs k).host), bV ((getK (⟨0, 0, 0, 0, 0, false, bstr [], 0⟩ : Ent) xs k).on), Value.string ((getK (⟨0, 0, 0, 0, 0, false, bstr [], 0⟩ : Ent) xs k).words), iV .u64 ((getK (⟨0, 0, 0, 0, 0, false, bstr [], 0⟩ : Ent) xs k).ends)], bV (hasK xs k)])) := by
 refine calls_W (M := []) (LL := []) (n := 24) Try.func56 rfl rfl ma7 (Mem.refl _) (W.seq (fun K1 hK1 => ?_))
 refine W.region (Wl.ht rfl (Ht.box (v := aV [iV .u8 k.1, iV .u16 k.2.1, iV .u32 k.2.2]) (cs := [iV .u8 k.1, iV .u16 k.2.1, iV .u32 k.2.2]) rfl rfl ma0 rfl) (fun p3 => ?_))
 refine Wl.ht rfl (Ht.alloc (z := aV [iV .u8 0, iV .u16 0, iV .u16 0, iV .u32 0, iV .u32 0, bV false, Value.string (bstr []), iV .u64 0]) (cs := [iV .u8 0, iV .u16 0, iV .u16 0, iV .u32 0, iV .u32 0, bV false, Value.string (bstr []), iV .u64 0]) rfl rfl Try.zeroValue62 rfl) (fun p4 => Wl.run 1 ma0 (Wl.nil (hK1 _ _ _ (W.prune' [0, 3, 4] [pV tb 0, pV p3 0, pV p4 0] ma0 (fun f2 => ?_)))))
 refine W.seq (fun K3 hK3 => W.seq (fun K4 hK4 => ?_))
 refine W.region (Wl.run 1 ma0 (Wl.ys rfl rfl (Ys.loadN (b := p3) (o' := 0) (i := 1) (j := 0) (vs := [iV .u8 k.1, iV .u16 k.2.1, iV .u32 k.2.2]) rfl ma0 Try.isAgg115 Try.sizeOf115 rfl rfl rfl rfl) (Wl.yc (v := Value.tuple #[nV .i64 (posK ordM xs k), bV (hasK xs k)]) rfl rfl (Yc.call (fun _ => kr) (fun w_ hm_ => (findM_c xs a cap most tb k _ (htb.mem0 hm_) (hls.mem0 hm_) ma4 hs))) (Wl.run 5 ma0 ?_))))
 refine Wl.nil (hK4 _ _ _ (W.pick (LL' := [[cb p4 [iV .u8 0, iV .u16 0, iV .u16 0, iV .u32 0, iV .u32 0, bV false, Value.string (bstr []), iV .u64 0] 62]]) [0] ma1 rfl (W.prune' [0, 4, 6, 7] [pV tb 0, pV p4 0, nV .i64 (posK ordM xs k), bV (hasK xs k)] ma0 (fun f5 => W.seq (fun K6 hK6 => ?_)))))
 refine W.region (Wl.run 1 ma0 (Wl.nil (hK6 _ _ _ ?_)))
 refine W.cond (hasK xs k) ma0 (fun h7 => ?_) (fun h8 => ?_)
 ·refine W.seq (fun K9 hK9 => ?_)
  have hps_ := hasK_at dM hs h7
  refine W.region (Wl.run 3 ma0 (Wl.ys rfl rfl (Ys.ld (a := ⟨tb, 0, none⟩) rfl ma0 Try.isAgg149 (fun w_ h_ => by have x_ := (htb.mem0 h_).ld (q := 0) (v := Value.slice a xs.length cap) rfl; rw [ela_own0] at x_; exact x_)) (Wl.run 1 ma0 (Wl.ys (v := Value.pointer (some (ela a ((posK ordM xs k) * 11)))) rfl rfl (Ys.byMem fun w_ h_ => Ys.indexAddr (k := .i64) (a := a) (len := xs.length) (cap := cap) (i := (posK ordM xs k : Int)) (sz := 11) rfl ma0 ma0 Try.runUnderlying149 Try.sizeOf161 ma3 ma3 ((hls.mem0 h_).here (by rw [mm_len (g := prM) (sz := 11) (fun _ => rfl)]; first | omega | (simp; omega)))) ?_))))
  refine Wl.run 1 ma0 (Wl.ys (v := aV (eC ((xs.getD (posK ordM xs k) dM).2))) rfl rfl (Ys.ldN (a := (ela a ((posK ordM xs k) * 11)).add 3) (vs := (eC ((xs.getD (posK ordM xs k) dM).2))) rfl ma0 Try.isAgg62 Try.sizeOf62 rfl (fun w_ h_ => (hls.mem0 h_).ldNF (mm_getP (g := prM) (sz := 11) (fun _ => rfl) dM (xs := xs) (k := posK ordM xs k) ma3 3 8 rfl))) (Wl.ht rfl (Ht.storeN (b := p4) (o' := 0) (i := 0) (j := 0) (vs := (eC ((xs.getD (posK ordM xs k) dM).2))) (LL' := [[cb p4 (eC ((xs.getD (posK ordM xs k) dM).2)) 62]]) rfl rfl ma0 ma0 Try.sizeOf62 ma9 rfl rfl ma7 rfl rfl) (fun _ => Wl.run 1 ma0 (Wl.nil ?_))))
  refine hK9 _ _ _ (W.prune' [4, 5] [pV p4 0, bV true] ma0 (fun f10 => ?_))
  refine W.ret ?_
  show ∀ w_, _ → bodyPostM (fence none) 0 Try.prog Try.f56 _ Exit.ret _ w_
  exact fun w_ hS_ => fin_ret (ret2 rfl (RV.cellN (b := p4) (o' := 0) (i := 0) (j := 0) (cs := (eC ((xs.getD (posK ordM xs k) dM).2))) (vs := (eC ((xs.getD (posK ordM xs k) dM).2))) ma0 Try.isAgg62 Try.sizeOf62 rfl rfl rfl rfl) (RV.tmp (v := bV true) ma0) hS_ ⟨by clear hK1 hK3 hK4 hK6 hK9; refine congrArg Ending.returned ?_; rw [get_has dM hs h7, h7]; try rfl, hS_.below⟩)
 ·refine W.skip' (hK3 _ _ _ (W.prune' [4] [pV p4 0] ma0 (fun f11 => W.seq (fun K12 hK12 => W.region ?_))))
  refine Wl.ys rfl rfl (Ys.loadN (b := p4) (o' := 0) (i := 0) (j := 0) (vs := [iV .u8 0, iV .u16 0, iV .u16 0, iV .u32 0, iV .u32 0, bV false, Value.string (bstr []), iV .u64 0]) rfl ma0 Try.isAgg62 Try.sizeOf62 rfl rfl rfl rfl) (Wl.ht rfl (Ht.storeN (b := p4) (o' := 0) (i := 0) (j := 0) (vs := [iV .u8 0, iV .u16 0, iV .u16 0, iV .u32 0, iV .u32 0, bV false, Value.string (bstr []), iV .u64 0]) (LL' := [[cb p4 [iV .u8 0, iV .u16 0, iV .u16 0, iV .u32 0, iV .u32 0, bV false, Value.string (bstr []), iV .u64 0] 62]]) rfl rfl ma0 ma0 Try.sizeOf62 ma9 rfl rfl ma7 rfl rfl) (fun _ => ?_))
  refine Wl.run 1 ma0 (Wl.nil (hK12 _ _ _ (W.prune' [4, 5] [pV p4 0, bV false] ma0 (fun f13 => W.ret ?_))))
  show ∀ w_, _ → bodyPostM (fence none) 0 Try.prog Try.f56 _ Exit.ret _ w_
  exact fun w_ hS_ => fin_ret (ret2 rfl (RV.cellN (b := p4) (o' := 0) (i := 0) (j := 0) (cs := [iV .u8 0, iV .u16 0, iV .u16 0, iV .u32 0, iV .u32 0, bV false, Value.string (bstr []), iV .u64 0]) (vs := [iV .u8 0, iV .u16 0, iV .u16 0, iV .u32 0, iV .u32 0, bV false, Value.string (bstr []), iV .u64 0]) ma0 Try.isAgg62 Try.sizeOf62 rfl rfl rfl rfl) (RV.tmp (v := bV false) ma0) hS_ ⟨by clear hK1 hK3 hK4 hK6 hK12; refine congrArg Ending.returned ?_; rw [get_not h8, h8]; try rfl, hS_.below⟩)
theorem newM_c (most : Int) (w : World) : Calls Try.prog 51 #[iV .i64 most, Value.func (.func 52) #[] #[]] w (RetM w (fun _ : Nat => True) (fun b => .pointer (some ⟨b, 0, none⟩)) [] (fun b => [[cb b [Value.slice none 0 0, iV .i64 (imax most 0), Value.func (.func 52) #[] #[]] 151]])) := by
 refine calls_W (M := []) (LL := []) (n := 10) Try.func51 rfl rfl ma7 (Mem.refl _) (W.seq (fun K1 hK1 => ?_))
 refine W.region (Wl.run 1 ma0 (Wl.nil (hK1 _ _ _ (W.seq (fun K2 hK2 => ?_)))))
 refine W.region (Wl.run 4 ma0 ?_)
 have hm3 := imax_bd most 0
 refine Wl.ht rfl (Ht.box (v := aV [Value.slice none 0 0, iV .i64 (imax most 0), Value.func (.func 52) #[] #[]]) (cs := [Value.slice none 0 0, iV .i64 (imax most 0), Value.func (.func 52) #[] #[]]) rfl rfl ma0 rfl) (fun p9 => Wl.run 1 ma0 (Wl.nil (hK2 _ _ _ (W.prune' [4] [pV p9 0] ma0 (fun f4 => ?_)))))
 refine W.ret ?_
 show ∀ w_, _ → bodyPostM (fence none) 0 Try.prog Try.f51 _ Exit.ret _ w_
 exact fun w_ hS_ => fin_ret (ret1 rfl (RV.tmp (v := pV p9 0) ma0) hS_ ⟨p9, trivial, rfl, (hS_.pick [0] ma1 rfl)⟩)
end Go.Proofs.Ytjkhmbigoloeiaa.Oct
