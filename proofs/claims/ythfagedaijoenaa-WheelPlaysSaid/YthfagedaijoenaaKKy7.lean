import Derived.Test.YthfagedaijoenaaKKy5
set_option linter.unusedVariables false
set_option linter.unusedSimpArgs false
set_option maxRecDepth 20000
namespace Go.Proofs.Ythfagedaijoenaa.Oct
open Go.RowKit Base
attribute [local irreducible] Ys Yc Ht HtS HtIn Wl Wd W Mem pf dpf Wa Wo
structure Rel (xs : List (Int × Int)) (ks vs : List Int) : Prop where
  hl : vs.length = ks.length
  nd : ks.Nodup
  mem : ∀ k v, (k, v) ∈ xs ↔ ∃ i, i < ks.length ∧ ks.getD i 0 = k ∧ vs.getD i 0 = v
  srt : Srt 1 xs
theorem nd_get {ks : List Int} (h : ks.Nodup) {i j : Nat} (hi : i < ks.length) (hj : j < ks.length) (e : ks.getD i 0 = ks.getD j 0) : i = j := by
  rw [List.getD_eq_getElem?_getD, List.getD_eq_getElem?_getD, List.getElem?_eq_getElem hi, List.getElem?_eq_getElem hj] at e
  exact (List.getElem_inj h).1 e
theorem idx_eq {ks : List Int} (h : ks.Nodup) {i : Nat} {k : Int} (hi : i < ks.length) (e : ks.getD i 0 = k) : idx ks k = i := by
  have hm : idx ks k < ks.length := idx_mem.2 (by rw [← e]; exact getD_mem hi)
  exact nd_get h hm hi ((idx_get hm).trans e.symm)
theorem atR_idx {ks : List Int} {k : Int} (h : idx ks k < ks.length) : atR ks k = (idx ks k : Int) := by unfold atR; rw [decide_eq_true h]; rfl
section
variable {xs : List (Int × Int)} {ks vs : List Int} {k v most : Int}
theorem atR_ge {ks : List Int} {k : Int} : atR ks k ≥ 0 ↔ k ∈ ks := by
  constructor
  · intro h; exact idx_mem.1 (atR_pos h).1
  · intro h; rw [atR_idx (idx_mem.2 h)]; omega
theorem app_getD (vs : List Int) (j : Nat) (v : Int) : (vs ++ [v]).getD j 0 = if j < vs.length then vs.getD j 0 else if j = vs.length then v else 0 := by
  simp only [List.getD_eq_getElem?_getD]
  by_cases h : j < vs.length
  · rw [if_pos h, List.getElem?_append_left h]
  · rw [if_neg h, List.getElem?_append_right ma1]
    by_cases h2 : j = vs.length
    · subst h2; simp
    · rw [if_neg h2, List.getElem?_eq_none (by simp; omega)]; rfl
theorem cut_getD (l : List Int) (i j : Nat) (hi : i < l.length) : (l.take i ++ l.drop (i + 1)).getD j 0 = if j < i then l.getD j 0 else l.getD (j + 1) 0 := by
  simp only [List.getD_eq_getElem?_getD]
  by_cases h : j < i
  · rw [if_pos h, List.getElem?_append_left (by simp; omega), List.getElem?_take, if_pos h]
  · rw [if_neg h, List.getElem?_append_right (by simp; omega), List.getElem?_drop, List.length_take, Nat.min_eq_left ma1]
    congr 2; omega
end
end Go.Proofs.Ythfagedaijoenaa.Oct
