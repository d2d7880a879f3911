import Derived.Test.YtgohlpdgeicncaaKOct12
set_option linter.unusedVariables false
set_option linter.unusedSimpArgs false
set_option maxRecDepth 20000
namespace Go.Proofs.Ytgohlpdgeicncaa.Oct
open Go.RowKit Base
attribute [local irreducible] Ys Yc Ht HtS HtIn Wl Wd W Mem pf dpf
theorem pw_app : ∀ (xs ys : List UInt8), xs.length % 2 = 0 → pw (xs ++ ys) = pw xs ++ pw ys
  | [], ys, _ => rfl
  | [_], _, h => by simp at h
  | x :: y :: l, ys, h => by
    have := pw_app l ys (by simp at h; omega)
    simp only [List.cons_append, pw, this]
theorem pw_be2 {m : Nat} (h : m < 65536) : pw (be 2 m) = [m] := by
  rw [be2]
  simp only [pw, UInt8.toNat_ofNat']
  congr 1; omega
theorem cks_le (xs : List UInt8) : cks xs ≤ 65535 := by unfold cks; omega
end Go.Proofs.Ytgohlpdgeicncaa.Oct
