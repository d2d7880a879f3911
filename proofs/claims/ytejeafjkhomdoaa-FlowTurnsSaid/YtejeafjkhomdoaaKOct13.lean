import Derived.Test.YtejeafjkhomdoaaKOct12
set_option linter.unusedVariables false
set_option linter.unusedSimpArgs false
set_option maxRecDepth 20000
namespace Go.Proofs.Ytejeafjkhomdoaa.Oct
open Go.RowKit Base
attribute [local irreducible] Ys Yc Ht HtIn Wl Wd W Mem pf dpf
theorem cks_le (xs : List UInt8) : cks xs ≤ 65535 := by unfold cks; omega
end Go.Proofs.Ytejeafjkhomdoaa.Oct
