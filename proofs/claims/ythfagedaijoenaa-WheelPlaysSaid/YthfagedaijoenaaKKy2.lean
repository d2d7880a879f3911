import Derived.Test.YthfagedaijoenaaKKy1
import Derived.Test.YthfagedaijoenaaKVI
import Derived.Test.YthfagedaijoenaaKVG
set_option linter.unusedVariables false
set_option linter.unusedSimpArgs false
set_option maxRecDepth 20000
namespace Go.Proofs.Ythfagedaijoenaa.Oct
open Go.RowKit Base
attribute [local irreducible] Ys Yc Ht HtS HtIn Wl Wd W Mem pf dpf Wa Wo
section
variable {α : Type} {g : α → List Value} {sz : Nat}
theorem mm_app (xs ys : List α) : mm g (xs ++ ys) = mm g xs ++ mm g ys := by simp [mm]
theorem mm_cons (x : α) (xs : List α) : mm g (x :: xs) = g x ++ mm g xs := by simp [mm]
theorem mm_drop (hg : ∀ x, (g x).length = sz) : ∀ (xs : List α) (i : Nat), (mm g xs).drop (i * sz) = mm g (xs.drop i)
  | xs, 0 => by simp
  | [], i + 1 => by simp [mm]
  | x :: xs, i + 1 => by
    rw [mm_cons, List.drop_succ_cons, show (i + 1) * sz = (g x).length + i * sz by rw [hg, Nat.add_mul]; omega, ← List.drop_drop, List.drop_left]
    exact mm_drop hg xs i
theorem mm_take (hg : ∀ x, (g x).length = sz) : ∀ (xs : List α) (i : Nat), (mm g xs).take (i * sz) = mm g (xs.take i)
  | xs, 0 => by simp [mm]
  | [], i + 1 => by simp [mm]
  | x :: xs, i + 1 => by
    rw [mm_cons, List.take_succ_cons, mm_cons, show (i + 1) * sz = (g x).length + i * sz by rw [hg, Nat.add_mul]; omega, List.take_append, Nat.add_sub_cancel_left, mm_take hg xs i]
    rw [List.take_of_length_le ma1]
theorem mm_one (hg : ∀ x, ∀ v ∈ g x, v.oneCell' = true) (xs : List α) : ∀ v ∈ mm g xs, v.oneCell' = true := fun v hv => by
  obtain ⟨x, _, hx⟩ := List.mem_flatMap.1 hv
  exact hg x v hx
end
def cmpI (a b : Int) : Int := bif decide (a < b) then -1 else bif decide (a > b) then 1 else 0
theorem cmpI_lt (a b : Int) : cmpI a b < 0 ↔ a < b := by
  unfold cmpI
  by_cases h : a < b
  · rw [decide_eq_true h]; simp [h]
  · rw [decide_eq_false h]
    by_cases h2 : a > b
    · rw [decide_eq_true h2]; simp; omega
    · rw [decide_eq_false h2]; simp; omega
theorem cmpI_eq (a b : Int) : cmpI a b = 0 ↔ a = b := by
  unfold cmpI
  by_cases h : a < b
  · rw [decide_eq_true h]; simp; omega
  · rw [decide_eq_false h]
    by_cases h2 : a > b
    · rw [decide_eq_true h2]; simp; omega
    · rw [decide_eq_false h2]; simp; omega
def Srt (s : Int) (xs : List (Int × Int)) : Prop := xs.Pairwise fun p q => s * p.1 < s * q.1
end Go.Proofs.Ythfagedaijoenaa.Oct
