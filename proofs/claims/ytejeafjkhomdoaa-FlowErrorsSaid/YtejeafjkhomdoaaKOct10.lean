import Derived.Test.YtejeafjkhomdoaaKOct9
set_option linter.unusedVariables false
set_option linter.unusedSimpArgs false
set_option maxRecDepth 20000
namespace Go.Proofs.Ytejeafjkhomdoaa.Oct
open Go.RowKit Base
attribute [local irreducible] Ys Yc Ht HtS HtIn Wl Wd W Mem pf dpf
theorem bv_be : ∀ (k n : Nat), bv (be k n) = n % 256 ^ k
  | 0, n => by rw [be, Nat.pow_zero, Nat.mod_one]; rfl
  | k + 1, n => by
    have h1 : n % 256 ^ (k + 1) = n % 256 + 256 * (n / 256 % 256 ^ k) := by rw [Nat.pow_succ, Nat.mul_comm (256 ^ k) 256, Nat.mod_mul]
    rw [be, bv_snoc, bv_be k, UInt8.toNat_ofNat', h1]
    show _ + n % 256 = _
    omega
end Go.Proofs.Ytejeafjkhomdoaa.Oct
