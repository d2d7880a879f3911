/-
  OctetNums. No condition.
-/
import Derived.Test.YtgohlpdgeicncaaOct9
set_option linter.unusedVariables false
set_option linter.unusedSimpArgs false
set_option maxRecDepth 20000
namespace Go.Proofs.Ytgohlpdgeicncaa.Oct
open Go.RowKit Base
attribute [local irreducible] Ys Yc Ht HtIn Wl Wd W Mem pf dpf

/-- Numbers of k bytes as bytes. -/
def bk (k : Nat) (ns : List Nat) : List UInt8 := (ns.map (be k)).flatten
theorem bk_step {m : Nat} {ns : List Nat} {k : Nat} (h : k < ns.length) : bk m (ns.take (k + 1)) = bk m (ns.take k) ++ be m (ns.getD k 0) := by
  unfold bk; rw [List.take_add_one, List.map_append, List.flatten_append]; simp [h]
theorem bk_len (m : Nat) : ∀ ns : List Nat, (bk m ns).length = m * ns.length
  | [] => by simp [bk]
  | n :: ns => by
    have := bk_len m ns
    unfold bk at this ⊢
    rw [List.map_cons, List.flatten_cons, List.length_append, be_len, this, List.length_cons, Nat.mul_succ]; omega
theorem bk_drop {m : Nat} {ns : List Nat} {k : Nat} (h : k < ns.length) : bk m (ns.drop k) = be m (ns.getD k 0) ++ bk m (ns.drop (k + 1)) := by
  have e : ns.drop k = ns[k] :: ns.drop (k + 1) := List.drop_eq_getElem_cons h
  rw [e]
  unfold bk
  rw [List.map_cons, List.flatten_cons, List.getD_eq_getElem?_getD, List.getElem?_eq_getElem h]
  rfl
theorem bv_be : ∀ (k n : Nat), bv (be k n) = n % 256 ^ k
  | 0, n => by rw [be, Nat.pow_zero, Nat.mod_one]; rfl
  | k + 1, n => by
    have h1 : n % 256 ^ (k + 1) = n % 256 + 256 * (n / 256 % 256 ^ k) := by rw [Nat.pow_succ, Nat.mul_comm (256 ^ k) 256, Nat.mod_mul]
    rw [be, bv_snoc, bv_be k, UInt8.toNat_ofNat', h1]
    show _ + n % 256 = _
    omega
theorem eOut_be {k n : Nat} {ys : List UInt8} : eOut (be k n ++ ys) ((k : Nat) : Int) = be k n := by
  rw [eOut_t (by rw [asked_nat, List.length_append, be_len]; omega), asked_nat]
  exact List.take_left' (be_len k n)
theorem eRest_be {k n : Nat} {ys : List UInt8} : eRest (be k n ++ ys) ((k : Nat) : Int) = ys := by
  rw [eRest_t (by rw [asked_nat, List.length_append, be_len]; omega), asked_nat]
  exact List.drop_left' (be_len k n)
theorem eBad_be {k n : Nat} {ys : List UInt8} {b : Bool} : eBad (be k n ++ ys) b ((k : Nat) : Int) = b := eBad_t (by rw [asked_nat, List.length_append, be_len]; omega)
theorem mask_eq {n k : Nat} (hk : k < 8) (hn : n < 18446744073709551616) : band .u64 ((n : Nat) : Int) (isub .u64 (ishl .u64 1 ((8 * k : Nat) : Int)) 1) = ((n % 256 ^ k : Nat) : Int) := by
  have h1 : ishl .u64 1 ((8 * k : Nat) : Int) = ((2 ^ (8 * k) : Nat) : Int) := by
    have := ishl_mod (k := .u64) rfl 1 (8 * k) (by show 8 * k ≤ 64; omega)
    rw [Nat.one_mul, Nat.mod_eq_of_lt (by exact Nat.pow_lt_pow_right (by decide) (by show 8 * k < 64; omega))] at this
    exact this
  have h2 : isub .u64 ((2 ^ (8 * k) : Nat) : Int) 1 = ((2 ^ (8 * k) - 1 : Nat) : Int) := by
    have hp := Nat.two_pow_pos (8 * k)
    exact isub_natu (k := .u64) (a := 2 ^ (8 * k)) (b := 1) rfl (by omega) (by exact Nat.pow_lt_pow_right (by decide) (by show 8 * k < 64; omega))
  rw [h1, h2, band_mask (k := .u64) rfl (c := 8 * k) hn (by show 8 * k ≤ 64; omega) _ rfl]
  congr 2
  rw [show (256 : Nat) = 2 ^ 8 by rfl, ← Nat.pow_mul]
theorem mod_big {n : Nat} (hn : n < 18446744073709551616) : n % 256 ^ 8 = n := Nat.mod_eq_of_lt (by simpa using hn)
end Go.Proofs.Ytgohlpdgeicncaa.Oct
