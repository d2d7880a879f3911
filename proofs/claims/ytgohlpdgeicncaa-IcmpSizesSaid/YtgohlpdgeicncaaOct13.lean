/-
  SumRight. No condition.
-/
import Derived.Test.YtgohlpdgeicncaaOct12
set_option linter.unusedVariables false
set_option linter.unusedSimpArgs false
set_option maxRecDepth 20000
namespace Go.Proofs.Ytgohlpdgeicncaa.Oct
open Go.RowKit Base
attribute [local irreducible] Ys Yc Ht HtIn Wl Wd W Mem pf dpf

theorem pw_app : ∀ (xs ys : List UInt8), xs.length % 2 = 0 → pw (xs ++ ys) = pw xs ++ pw ys
  | [], ys, _ => rfl
  | [_], _, h => by simp at h
  | x :: y :: l, ys, h => by
    have := pw_app l ys (by simp at h; omega)
    simp only [List.cons_append, pw, this]
theorem pw_be2 {m : Nat} (h : m < 65536) : pw (be 2 m) = [m] := by
  rw [be2]
  simp only [pw, UInt8.toNat_ofNat']
  congr 1; omega
theorem cks_le (xs : List UInt8) : cks xs ≤ 65535 := by unfold cks; omega
/-- The check sum with a number behind it. -/
theorem cks_snoc {xs : List UInt8} {m : Nat} (hx : xs.length % 2 = 0) (hm : m < 65536) : cks (xs ++ be 2 m) = 65535 - fd ((pw xs).sum + m) := by
  unfold cks; rw [pw_app _ _ hx, pw_be2 hm, List.sum_append]; simp
theorem right_good {xs : List UInt8} (hx : xs.length % 2 = 0) : cks (xs ++ be 2 (cks xs)) = 0 := by
  have := cks_le xs
  rw [cks_snoc hx (by omega)]
  unfold cks
  generalize (pw xs).sum = s
  unfold fd
  split <;> split <;> omega
theorem xor_back {n t m : Nat} (h : n ^^^ t = m) : t = n ^^^ m := by rw [← h, ← Nat.xor_assoc, Nat.xor_self, Nat.zero_xor]
theorem right_bad {xs : List UInt8} {t : Nat} (hx : xs.length % 2 = 0) (ht : t < 65536) (hno : ¬ (t = 65535 ∧ (cks xs = 0 ∨ cks xs = 65535))) : (cks (xs ++ be 2 (cks xs ^^^ t)) = 0) ↔ t = 0 := by
  have hle := cks_le xs
  have hlt : cks xs ^^^ t < 65536 := Nat.xor_lt_two_pow (n := 16) (by omega) ht
  rw [cks_snoc hx hlt]
  constructor
  · intro h
    have h1 : cks xs ^^^ t = cks xs ∨ (cks xs = 0 ∧ cks xs ^^^ t = 65535) ∨ (cks xs = 65535 ∧ cks xs ^^^ t = 0) := by
      generalize cks xs ^^^ t = m at *
      unfold cks at *
      generalize (pw xs).sum = s at *
      unfold fd at *
      split at h <;> split at hle <;> (try split at hno) <;> (try split) <;> omega
    rcases h1 with h1 | ⟨h1, h2⟩ | ⟨h1, h2⟩
    · rw [xor_back h1, Nat.xor_self]
    · have := xor_back h2; rw [h1, Nat.zero_xor] at this; exact absurd ⟨this, .inl h1⟩ hno
    · have := xor_back h2; rw [h1, Nat.xor_zero] at this; exact absurd ⟨this, .inr h1⟩ hno
  · rintro rfl
    rw [Nat.xor_zero, ← cks_snoc hx (by omega)]
    exact right_good hx
theorem sr_law {xs : List UInt8} {t : Nat} (hx : xs.length % 2 = 0) (ht : t < 65536) : ((((cks (xs ++ (be 2 (cks xs))) : Nat) : Int) == 0) && (((((cks (xs ++ (be 2 ((cks xs) ^^^ t))) : Nat) : Int) == 0) == (((t : Nat) : Int) == 0)) || ((((t : Nat) : Int) == 65535) && ((((cks xs : Nat) : Int) == 0) || (((cks xs : Nat) : Int) == 65535))))) = true := by
  have h1 := right_good hx
  have hz : ∀ k : Nat, (((k : Nat) : Int) == 0) = decide (k = 0) := fun k => by by_cases h : k = 0 <;> simp [h]
  have hm : ∀ k : Nat, (((k : Nat) : Int) == 65535) = decide (k = 65535) := fun k => by
    by_cases h : k = 65535
    · simp [h]
    · have : ((k : Nat) : Int) ≠ 65535 := by omega
      simp [h, this]
  simp only [hz, hm, h1]
  by_cases hno : t = 65535 ∧ (cks xs = 0 ∨ cks xs = 65535)
  · obtain ⟨rfl, hn⟩ := hno
    rcases hn with h | h <;> simp [h]
  · have h2 := right_bad hx ht hno
    simp [h2]
end Go.Proofs.Ytgohlpdgeicncaa.Oct
