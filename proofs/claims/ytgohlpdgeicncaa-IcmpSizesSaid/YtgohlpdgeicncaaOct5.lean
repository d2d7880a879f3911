/-
  The law's pairs, the example. No condition.
-/
import Derived.Test.YtgohlpdgeicncaaOct4
set_option linter.unusedVariables false
set_option linter.unusedSimpArgs false
set_option maxRecDepth 20000
namespace Go.Proofs.Ytgohlpdgeicncaa.Oct
open Go.RowKit Base
attribute [local irreducible] Ys Yc Ht HtIn Wl Wd W Mem pf dpf

theorem told_le (n : Nat) (most : Int) : told n most ≤ n := by unfold told; split <;> omega


end Go.Proofs.Ytgohlpdgeicncaa.Oct
