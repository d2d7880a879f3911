import Derived.Test.YthfagedaijoenaaKWy4
set_option linter.unusedVariables false
set_option linter.unusedSimpArgs false
set_option maxRecDepth 20000
namespace Go.Proofs.Ythfagedaijoenaa.Oct
open Go.RowKit Base
attribute [local irreducible] Ys Yc Ht HtS HtIn Wl Wd W Mem pf dpf Wa Wo
theorem dueM_pos {x : Int × Int} {X : List (Int × Int)} {a : Int} (h : x.1 ≤ a) : dueM (x :: X) a = dueM X a + 1 := by
  unfold dueM; rw [List.takeWhile_cons, if_pos (by simpa using h)]; rfl
theorem dueM_neg {x : Int × Int} {X : List (Int × Int)} {a : Int} (h : ¬ x.1 ≤ a) : dueM (x :: X) a = 0 := by
  unfold dueM; rw [List.takeWhile_cons, if_neg (by simpa using h)]; rfl
theorem dueM_drop {a b : Int} (hab : a ≤ b) : ∀ {X : List (Int × Int)}, dueM X b = dueM X a + dueM (X.drop (dueM X a)) b
  | [] => rfl
  | x :: X => by
    by_cases h : x.1 ≤ a
    · rw [dueM_pos h, dueM_pos ma1, List.drop_succ_cons, dueM_drop hab (X := X)]; omega
    · rw [dueM_neg h, List.drop_zero]; omega
theorem dueM_after {X : List (Int × Int)} {b : Int} : dueM (X.drop (dueM X b)) b = 0 := by
  have := dueM_drop (X := X) (Int.le_refl b); omega
theorem dueN_M {X : List (Int × Int)} {b q : Int} (h : X.length ≤ 1000) (hq : 1000 ≤ q) : dueN X b q = dueM X b := by
  have := dueM_le X b; unfold dueN; omega
theorem twice_ok {X Z1 Z2 Z3 : List (Int × Int)} {O1 O2 O3 : List Int} {a b : Int} (hab : a ≤ b) (hl : X.length ≤ 1000)
    (hZ1 : X.drop (dueN X a 1000) = Z1) (hO1 : keysS (X.take (dueN X a 1000)) = O1) (hZ2 : Z1.drop (dueN Z1 b 1000) = Z2) (hO2 : keysS (Z1.take (dueN Z1 b 1000)) = O2)
    (hZ3 : X.drop (dueN X b 1000) = Z3) (hO3 : keysS (X.take (dueN X b 1000)) = O3) : O1 ++ O2 = O3 ∧ Z2 = Z3 ∧ dueM Z2 b = 0 := by
  rw [dueN_M hl ma1] at hZ1 hO1 hZ3 hO3
  have hl1 : Z1.length ≤ 1000 := by rw [← hZ1, List.length_drop]; omega
  rw [dueN_M hl1 ma1] at hZ2 hO2
  have hd := dueM_drop (X := X) hab
  rw [hZ1] at hd
  refine ⟨?_, ?_, ?_⟩
  · rw [← hO1, ← hO2, ← hO3, hd, ← hZ1]
    unfold keysS
    rw [← List.map_append, List.take_add]
  · rw [← hZ2, ← hZ3, hd, ← hZ1, List.drop_drop]
  · rw [← hZ2]; exact dueM_after
end Go.Proofs.Ythfagedaijoenaa.Oct
