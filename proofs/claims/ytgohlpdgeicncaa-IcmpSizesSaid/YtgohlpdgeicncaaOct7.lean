/-
  OctetReads. No condition.
-/
import Derived.Test.YtgohlpdgeicncaaOct6
import Derived.Test.YtgohlpdgeicncaaVG
set_option linter.unusedVariables false
set_option linter.unusedSimpArgs false
set_option maxRecDepth 20000
namespace Go.Proofs.Ytgohlpdgeicncaa.Oct
open Go.RowKit Base
attribute [local irreducible] Ys Yc Ht HtIn Wl Wd W Mem pf dpf

theorem eOut_ys (ys : List UInt8) (n : Int) : (eOut ys n).length ≤ ys.length := by
  unfold eOut; split
  · rw [List.length_take]; omega
  · simp
theorem getD_mem {α : Type} {p : α → Prop} {xs : List α} {k : Nat} {d : α} (h : ∀ x ∈ xs, p x) (hk : k < xs.length) : p (xs.getD k d) := by
  rw [List.getD_eq_getElem?_getD, List.getElem?_eq_getElem hk]; exact h _ (List.getElem_mem hk)
end Go.Proofs.Ytgohlpdgeicncaa.Oct
