import Derived.Test.YtgohlpdgeicncaaKOct2
set_option linter.unusedVariables false
set_option linter.unusedSimpArgs false
set_option maxRecDepth 20000
namespace Go.Proofs.Ytgohlpdgeicncaa.Oct
open Go.RowKit Base
attribute [local irreducible] Ys Yc Ht HtS HtIn Wl Wd W Mem pf dpf
theorem asked_nat (k : Nat) : asked (k : Int) = k := by unfold asked imax; split <;> omega
end Go.Proofs.Ytgohlpdgeicncaa.Oct
