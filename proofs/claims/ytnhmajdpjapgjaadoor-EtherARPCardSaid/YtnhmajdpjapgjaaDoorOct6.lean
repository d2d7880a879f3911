/-
  OctetPairs. No condition.
-/
import Derived.Test.YtnhmajdpjapgjaaDoorOct5
set_option linter.unusedVariables false
set_option linter.unusedSimpArgs false
set_option maxRecDepth 20000
namespace Go.Proofs.YtnhmajdpjapgjaaDoor.Oct
open Go.RowKit Base
attribute [local irreducible] Ys Yc Ht HtIn Wl Wd W Mem pf dpf

theorem pw_add {xs : List UInt8} {k : Nat} (h : 2 * k + 1 < xs.length) : (256 * (xs.getD (2 * k) 0).toNat % 65536 + (xs.getD (2 * k + 1) 0).toNat) % 65536 = (pw xs).getD k 0 := by
  have h1 := UInt8.toNat_lt (xs.getD (2 * k) 0); have h2 := UInt8.toNat_lt (xs.getD (2 * k + 1) 0)
  rw [pw_get1 xs k h]; omega
theorem pw_lone2 {xs : List UInt8} {k : Nat} (h : 2 * k < xs.length) (h1 : ¬ 2 * k + 1 < xs.length) : 256 * (xs.getD (2 * k) 0).toNat % 65536 = (pw xs).getD k 0 := by
  have h2 := UInt8.toNat_lt (xs.getD (2 * k) 0)
  rw [pw_get0 xs k (by omega)]; omega
theorem told_law (n : Nat) (most : Int) : ((told n most : Nat) : Int) = bif ((n : Nat) : Int) == 0 then 0 else imax (imin ((n : Nat) : Int) most) 1 := by
  unfold told imax imin
  by_cases h : n = 0
  · subst h; rfl
  · rw [if_neg h, show ((((n : Nat) : Int) == 0) : Bool) = false by simpa using h]
    simp only [cond_false]
    repeat (first | omega | split)
theorem take_getD {xs : List Nat} {m j : Nat} (h : j < m) : (xs.take m).getD j 0 = xs.getD j 0 := by
  simp [List.getD_eq_getElem?_getD, List.getElem?_take, h]
end Go.Proofs.YtnhmajdpjapgjaaDoor.Oct
