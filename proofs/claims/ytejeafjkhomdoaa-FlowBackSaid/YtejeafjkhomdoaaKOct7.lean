import Derived.Test.YtejeafjkhomdoaaKOct6
import Derived.Test.YtejeafjkhomdoaaKVG
set_option linter.unusedVariables false
set_option linter.unusedSimpArgs false
set_option maxRecDepth 20000
namespace Go.Proofs.Ytejeafjkhomdoaa.Oct
open Go.RowKit Base
attribute [local irreducible] Ys Yc Ht HtIn Wl Wd W Mem pf dpf
end Go.Proofs.Ytejeafjkhomdoaa.Oct
