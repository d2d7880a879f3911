import Derived.Test.YtejeafjkhomdoaaKTr4
set_option linter.unusedVariables false
set_option linter.unusedSimpArgs false
set_option maxRecDepth 20000
namespace Go.Proofs.Ytejeafjkhomdoaa.Oct
open Go.RowKit Base
attribute [local irreducible] Ys Yc Ht HtS HtIn Wl Wd W Mem pf dpf Wa Wo
def ho (n : Nat) : UInt8 := UInt8.ofNat (4 * (20 + n))
end Go.Proofs.Ytejeafjkhomdoaa.Oct
