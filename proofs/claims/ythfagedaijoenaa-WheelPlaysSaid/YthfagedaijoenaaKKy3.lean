import Derived.Test.YthfagedaijoenaaKKy2
set_option linter.unusedVariables false
set_option linter.unusedSimpArgs false
set_option maxRecDepth 20000
namespace Go.Proofs.Ythfagedaijoenaa.Oct
open Go.RowKit Base
attribute [local irreducible] Ys Yc Ht HtS HtIn Wl Wd W Mem pf dpf Wa Wo
def idx (ks : List Int) (k : Int) : Nat := (ks.takeWhile fun x => !(x == k)).length
def atR (ks : List Int) (k : Int) : Int := bif decide (idx ks k < ks.length) then (idx ks k : Int) else -1
theorem idx_le (ks : List Int) (k : Int) : idx ks k ≤ ks.length := (List.takeWhile_sublist _).length_le
theorem idx_spec {k : Int} : ∀ {ks : List Int} {i : Nat}, i ≤ idx ks k → i < ks.length → (ks.getD i 0 = k ↔ idx ks k = i)
  | [], i, _, h => by simp at h
  | x :: ks, i, hi, h => by
    unfold idx at hi ⊢
    rw [List.takeWhile_cons] at hi ⊢
    by_cases hx : x = k
    · subst hx
      simp only [beq_self_eq_true, Bool.not_true, Bool.false_eq_true, if_false, List.length_nil] at hi ⊢
      obtain rfl : i = 0 := by omega
      simp
    · rw [if_pos (by simpa using hx)] at hi ⊢
      rw [List.length_cons] at hi ⊢
      cases i with
      | zero => simp only [List.getD_cons_zero]; constructor; exact fun h => absurd h hx; intro h; omega
      | succ i =>
        have := idx_spec (k := k) (ks := ks) (i := i) (by unfold idx; omega) (by simpa using h)
        unfold idx at this
        rw [List.getD_cons_succ, this]; omega
theorem idx_get {ks : List Int} {k : Int} (h : idx ks k < ks.length) : ks.getD (idx ks k) 0 = k := (idx_spec (Nat.le_refl _) h).2 rfl
theorem atR_pos {ks : List Int} {k : Int} (h : atR ks k ≥ 0) : idx ks k < ks.length ∧ atR ks k = (idx ks k : Int) := by
  unfold atR at h ⊢
  by_cases hh : idx ks k < ks.length
  · rw [decide_eq_true hh]; exact ⟨hh, rfl⟩
  · rw [decide_eq_false hh] at h; exact absurd (show (-1 : Int) ≥ 0 from h) ma3
theorem atR_nat {ks : List Int} {k : Int} (h : atR ks k ≥ 0) : (atR ks k).toNat = idx ks k ∧ idx ks k < ks.length := by
  obtain ⟨a, b⟩ := atR_pos h; rw [b]; exact ⟨rfl, a⟩
theorem idx_mem {ks : List Int} {k : Int} : idx ks k < ks.length ↔ k ∈ ks := by
  constructor
  · intro h
    have := idx_get h
    rw [List.getD_eq_getElem?_getD, List.getElem?_eq_getElem h] at this
    rw [← this]; exact List.getElem_mem h
  · intro h
    obtain ⟨i, hi, he⟩ := List.getElem_of_mem h
    rcases Nat.lt_or_ge (idx ks k) ks.length with hl | hl
    · exact hl
    · have h2 := (idx_spec (k := k) (ks := ks) (i := i) ma1 hi).1 (by rw [List.getD_eq_getElem?_getD, List.getElem?_eq_getElem hi]; exact he)
      omega
def rdropL (ks l : List Int) (k : Int) : List Int := bif decide (atR ks k < 0) then l else l.take (atR ks k).toNat ++ l.drop (atR ks k + 1).toNat
theorem mem_getD {ss : List Int} {k : Int} (h : k ∈ ss) : ∃ i, i < ss.length ∧ ss.getD i 0 = k := by
  obtain ⟨i, hi, e⟩ := List.getElem_of_mem h
  exact ⟨i, hi, by simpa [List.getD_eq_getElem?_getD, List.getElem?_eq_getElem hi] using e⟩
theorem getD_mem {ss : List Int} {i : Nat} (h : i < ss.length) : ss.getD i 0 ∈ ss := by
  rw [List.getD_eq_getElem?_getD, List.getElem?_eq_getElem h]; exact List.getElem_mem h
end Go.Proofs.Ythfagedaijoenaa.Oct
