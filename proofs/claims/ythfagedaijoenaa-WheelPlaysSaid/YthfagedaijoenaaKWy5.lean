import Derived.Test.YthfagedaijoenaaKWy4
set_option linter.unusedVariables false
set_option linter.unusedSimpArgs false
set_option maxRecDepth 20000
namespace Go.Proofs.Ythfagedaijoenaa.Oct
open Go.RowKit Base
attribute [local irreducible] Ys Yc Ht HtS HtIn Wl Wd W Mem pf dpf Wa Wo
theorem next_some {X : List (Int × Int)} (h : 0 < X.length) : someS X = true ∧ nextS X = (X.getD 0 (0, 0)).1 := by
  have : (((X.length : Int)) == 0) = false := beq_eq_false_iff_ne.2 ma1
  unfold someS nextS; rw [this]; exact ⟨rfl, rfl⟩
theorem next_none {X : List (Int × Int)} (h : X.length = 0) : someS X = false ∧ nextS X = 0 := by
  unfold someS nextS; rw [h]; exact ⟨rfl, rfl⟩
end Go.Proofs.Ythfagedaijoenaa.Oct
