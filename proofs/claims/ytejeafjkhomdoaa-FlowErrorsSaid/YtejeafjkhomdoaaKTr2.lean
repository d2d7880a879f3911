import Derived.Test.YtejeafjkhomdoaaKTr1
set_option linter.unusedVariables false
set_option linter.unusedSimpArgs false
set_option maxRecDepth 20000
namespace Go.Proofs.Ytejeafjkhomdoaa.Oct
open Go.RowKit Base
attribute [local irreducible] Ys Yc Ht HtS HtIn Wl Wd W Mem pf dpf Wa Wo
def sealN (c : Nat) : Nat := if c = 0 then 65535 else c
def uE (n : Nat) : Int := if 1472 < n then 14 else 0
end Go.Proofs.Ytejeafjkhomdoaa.Oct
