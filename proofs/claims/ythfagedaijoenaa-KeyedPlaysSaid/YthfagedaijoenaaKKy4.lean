import Derived.Test.YthfagedaijoenaaKKy3
set_option linter.unusedVariables false
set_option linter.unusedSimpArgs false
set_option maxRecDepth 20000
namespace Go.Proofs.Ythfagedaijoenaa.Oct
open Go.RowKit Base
attribute [local irreducible] Ys Yc Ht HtS HtIn Wl Wd W Mem pf dpf Wa Wo
def Sg (s : Int) : Prop := s = 1 ∨ s = -1
theorem sg1 : Sg 1 := .inl rfl
theorem Sg.tri {s : Int} (h : Sg s) (a b : Int) : s * a < s * b ∨ a = b ∨ s * b < s * a := by rcases h with rfl | rfl <;> omega
theorem Sg.ne {s : Int} (h : Sg s) {a b : Int} (hl : s * a < s * b) : a ≠ b := by rcases h with rfl | rfl <;> omega
section
variable {s : Int} {xs ys : List (Int × Int)} {x p : Int × Int} {k v : Int}
theorem posK_lt (h : s * x.1 < s * k) : posK s (x :: xs) k = posK s xs k + 1 := by unfold posK; rw [List.takeWhile_cons, if_pos (by simpa using h), List.length_cons]
theorem posK_ge (h : ¬ s * x.1 < s * k) : posK s (x :: xs) k = 0 := by unfold posK; rw [List.takeWhile_cons, if_neg (by simpa using h)]; rfl
theorem hasK_lt (h : s * x.1 < s * k) : hasK s (x :: xs) k = hasK s xs k := by
  unfold hasK; rw [posK_lt h, List.getD_cons_succ, List.length_cons]; congr 1; exact decide_eq_decide.2 ma1
theorem hasK_ge (h : ¬ s * x.1 < s * k) : hasK s (x :: xs) k = (x.1 == k) := by
  unfold hasK; rw [posK_ge h, List.getD_cons_zero, List.length_cons, decide_eq_true ma1, Bool.true_and]
theorem hasK_nil : hasK s [] k = false := by unfold hasK; rw [decide_eq_false sp]; rfl
theorem putK_nil : putK s [] k v = [(k, v)] := by unfold putK; rw [hasK_nil]; simp [posK]
theorem putK_lt (h : s * x.1 < s * k) : putK s (x :: xs) k v = x :: putK s xs k v := by
  unfold putK; rw [hasK_lt h, posK_lt h]; cases hasK s xs k
  · simp only [cond_false, List.take_succ_cons, List.drop_succ_cons, List.cons_append]
  · simp only [cond_true, List.set_cons_succ]
theorem putK_eq (h : x.1 = k) : putK s (x :: xs) k v = (k, v) :: xs := by
  have h' : ¬ s * x.1 < s * k := by rw [h]; omega
  unfold putK; rw [hasK_ge h', posK_ge h', show (x.1 == k) = true from beq_iff_eq.2 h]; rfl
theorem putK_gt (h : ¬ s * x.1 < s * k) (h' : x.1 ≠ k) : putK s (x :: xs) k v = (k, v) :: x :: xs := by
  unfold putK; rw [hasK_ge h, posK_ge h, show (x.1 == k) = false from beq_eq_false_iff_ne.2 h']; rfl
theorem dropK_nil : dropK s [] k = [] := by unfold dropK; rw [hasK_nil]; rfl
theorem dropK_lt (h : s * x.1 < s * k) : dropK s (x :: xs) k = x :: dropK s xs k := by
  unfold dropK; rw [hasK_lt h, posK_lt h]; cases hasK s xs k
  · simp only [cond_false]
  · simp only [cond_true, List.take_succ_cons, List.drop_succ_cons, List.cons_append]
theorem dropK_eq (h : x.1 = k) : dropK s (x :: xs) k = xs := by
  have h' : ¬ s * x.1 < s * k := by rw [h]; omega
  unfold dropK; rw [hasK_ge h', posK_ge h', show (x.1 == k) = true from beq_iff_eq.2 h]; rfl
theorem dropK_gt (h : ¬ s * x.1 < s * k) (h' : x.1 ≠ k) : dropK s (x :: xs) k = x :: xs := by
  unfold dropK; rw [hasK_ge h, show (x.1 == k) = false from beq_eq_false_iff_ne.2 h']; rfl
theorem srt_ne (h0 : Sg s) (hS : Srt s (x :: xs)) (h : ¬ s * x.1 < s * k) : ∀ p ∈ xs, p.1 ≠ k := fun p hp e => by
  have := (List.pairwise_cons.1 hS).1 p hp
  rw [e] at this; exact h this
theorem mem_putK (h0 : Sg s) : ∀ {xs : List (Int × Int)}, Srt s xs → ∀ p, (p ∈ putK s xs k v ↔ p = (k, v) ∨ (p ∈ xs ∧ p.1 ≠ k))
  | [], _, p => by rw [putK_nil]; simp
  | x :: xs, hS, p => by
    by_cases h : s * x.1 < s * k
    · rw [putK_lt h, List.mem_cons, mem_putK h0 (List.pairwise_cons.1 hS).2 p, List.mem_cons]
      have hx := h0.ne h
      constructor
      · rintro (rfl | h | h)
        · exact .inr ⟨.inl rfl, hx⟩
        · exact .inl h
        · exact .inr ⟨.inr h.1, h.2⟩
      · rintro (h | ⟨rfl | h, h2⟩)
        · exact .inr (.inl h)
        · exact .inl rfl
        · exact .inr (.inr ⟨h, h2⟩)
    · have hn := srt_ne h0 hS h
      by_cases hk : x.1 = k
      · rw [putK_eq hk, List.mem_cons, List.mem_cons]
        constructor
        · rintro (h | h)
          · exact .inl h
          · exact .inr ⟨.inr h, hn p h⟩
        · rintro (h | ⟨rfl | h, h2⟩)
          · exact .inl h
          · exact absurd hk h2
          · exact .inr h
      · rw [putK_gt h hk, List.mem_cons, List.mem_cons]
        constructor
        · rintro (h | rfl | h)
          · exact .inl h
          · exact .inr ⟨.inl rfl, hk⟩
          · exact .inr ⟨.inr h, hn p h⟩
        · rintro (h | ⟨h, h2⟩)
          · exact .inl h
          · exact .inr h
theorem srt_putK (h0 : Sg s) : ∀ {xs : List (Int × Int)}, Srt s xs → Srt s (putK s xs k v)
  | [], _ => by rw [putK_nil]; exact List.pairwise_singleton _ _
  | x :: xs, hS => by
    have hS' := List.pairwise_cons.1 hS
    by_cases h : s * x.1 < s * k
    · rw [putK_lt h]
      refine List.pairwise_cons.2 ⟨fun p hp => ?_, srt_putK h0 hS'.2⟩
      rcases (mem_putK h0 hS'.2 p).1 hp with rfl | ⟨hp, _⟩
      · exact h
      · exact hS'.1 p hp
    · by_cases hk : x.1 = k
      · rw [putK_eq hk]
        exact List.pairwise_cons.2 ⟨fun p hp => by have := hS'.1 p hp; rw [hk] at this; exact this, hS'.2⟩
      · rw [putK_gt h hk]
        have hlt : s * k < s * x.1 := by rcases h0.tri x.1 k with h1 | h1 | h1; exact absurd h1 h; exact absurd h1 hk; exact h1
        refine List.pairwise_cons.2 ⟨fun p hp => ?_, hS⟩
        rcases List.mem_cons.1 hp with rfl | hp
        · exact hlt
        · have := hS'.1 p hp; show s * k < s * p.1; omega
theorem mem_dropK (h0 : Sg s) : ∀ {xs : List (Int × Int)}, Srt s xs → ∀ p, (p ∈ dropK s xs k ↔ p ∈ xs ∧ p.1 ≠ k)
  | [], _, p => by rw [dropK_nil]; simp
  | x :: xs, hS, p => by
    by_cases h : s * x.1 < s * k
    · rw [dropK_lt h, List.mem_cons, mem_dropK h0 (List.pairwise_cons.1 hS).2 p, List.mem_cons]
      have hx := h0.ne h
      constructor
      · rintro (rfl | h)
        · exact ⟨.inl rfl, hx⟩
        · exact ⟨.inr h.1, h.2⟩
      · rintro ⟨rfl | h, h2⟩
        · exact .inl rfl
        · exact .inr ⟨h, h2⟩
    · have hn := srt_ne h0 hS h
      by_cases hk : x.1 = k
      · rw [dropK_eq hk, List.mem_cons]
        constructor
        · exact fun h => ⟨.inr h, hn p h⟩
        · rintro ⟨rfl | h, h2⟩
          · exact absurd hk h2
          · exact h
      · rw [dropK_gt h hk]
        constructor
        · intro hp
          refine ⟨hp, ?_⟩
          rcases List.mem_cons.1 hp with rfl | hp
          · exact hk
          · exact hn p hp
        · exact fun h => h.1
theorem srt_dropK (h0 : Sg s) : ∀ {xs : List (Int × Int)}, Srt s xs → Srt s (dropK s xs k)
  | [], _ => by rw [dropK_nil]; exact List.Pairwise.nil
  | x :: xs, hS => by
    have hS' := List.pairwise_cons.1 hS
    by_cases h : s * x.1 < s * k
    · rw [dropK_lt h]
      exact List.pairwise_cons.2 ⟨fun p hp => hS'.1 p ((mem_dropK h0 hS'.2 p).1 hp).1, srt_dropK h0 hS'.2⟩
    · by_cases hk : x.1 = k
      · rw [dropK_eq hk]; exact hS'.2
      · rw [dropK_gt h hk]; exact hS
theorem hasK_mem (h0 : Sg s) : ∀ {xs : List (Int × Int)}, Srt s xs → (hasK s xs k = true ↔ ∃ v, (k, v) ∈ xs)
  | [], _ => by rw [hasK_nil]; simp
  | x :: xs, hS => by
    by_cases h : s * x.1 < s * k
    · rw [hasK_lt h, hasK_mem h0 (List.pairwise_cons.1 hS).2]
      constructor
      · rintro ⟨v, hv⟩; exact ⟨v, List.mem_cons_of_mem _ hv⟩
      · rintro ⟨v, hv⟩
        rcases List.mem_cons.1 hv with e | hv
        · rw [← e] at h; exact absurd rfl (h0.ne h)
        · exact ⟨v, hv⟩
    · rw [hasK_ge h, beq_iff_eq]
      constructor
      · intro e; exact ⟨x.2, by rw [← e]; exact List.mem_cons_self ..⟩
      · rintro ⟨v, hv⟩
        rcases List.mem_cons.1 hv with e | hv
        · rw [← e]
        · exact absurd rfl (srt_ne h0 hS h _ hv)
theorem srt_uniq (h0 : Sg s) {xs : List (Int × Int)} (hS : Srt s xs) {k a b : Int} (ha : (k, a) ∈ xs) (hb : (k, b) ∈ xs) : a = b := by
  obtain ⟨i, hi, ei⟩ := List.getElem_of_mem ha
  obtain ⟨j, hj, ej⟩ := List.getElem_of_mem hb
  have h2 := List.pairwise_iff_getElem.1 hS
  rcases Nat.lt_trichotomy i j with h | h | h
  · have := h2 i j hi hj h; rw [ei, ej] at this; exact absurd rfl (h0.ne this)
  · subst h; rw [ei] at ej; exact congrArg Prod.snd ej
  · have := h2 j i hj hi h; rw [ei, ej] at this; exact absurd rfl (h0.ne this)
theorem getK_mem (h0 : Sg s) (hS : Srt s xs) (h : (k, v) ∈ xs) : getK s xs k = v := by
  have hh := (hasK_mem h0 hS).2 ⟨v, h⟩
  obtain ⟨a, b⟩ := hasK_at hh
  unfold getK; rw [hh]
  show (xs.getD (posK s xs k) (0, 0)).2 = v
  have hm : xs.getD (posK s xs k) (0, 0) ∈ xs := by rw [List.getD_eq_getElem?_getD, List.getElem?_eq_getElem a]; exact List.getElem_mem a
  have e : (k, (xs.getD (posK s xs k) (0, 0)).2) = xs.getD (posK s xs k) (0, 0) := Prod.ext b.symm rfl
  exact srt_uniq h0 hS (by rw [e]; exact hm) h
theorem putK_len (h0 : Sg s) : ∀ {xs : List (Int × Int)}, (putK s xs k v).length = bif hasK s xs k then xs.length else xs.length + 1 := by
  intro xs
  unfold putK
  have := posK_le s xs k
  cases hasK s xs k
  · simp only [cond_false, List.length_append, List.length_take, List.length_cons, List.length_drop]; omega
  · simp only [cond_true, List.length_set]
theorem dropK_len (xs : List (Int × Int)) : (dropK s xs k).length = bif hasK s xs k then xs.length - 1 else xs.length := by
  unfold dropK
  cases h : hasK s xs k
  · rfl
  · have := (hasK_at h).1
    simp only [cond_true, List.length_append, List.length_take, List.length_drop]; omega
end
section
variable {s most : Int} {xs : List (Int × Int)} {k v : Int}
theorem srt_putX (h0 : Sg s) (hS : Srt s xs) : Srt s (putX s most xs k v) := by
  unfold putX
  cases hasK s xs k
  · cases (decide (((xs.length : Nat) : Int) ≥ most))
    · exact srt_putK h0 hS
    · exact hS
  · exact srt_putK h0 hS
theorem putX_len (h0 : Sg s) : (putX s most xs k v).length ≤ xs.length + 1 := by
  unfold putX
  cases h : hasK s xs k
  · cases (decide (((xs.length : Nat) : Int) ≥ most))
    · show (putK s xs k v).length ≤ _; rw [putK_len h0, h]; exact Nat.le_refl _
    · exact Nat.le_succ _
  · show (putK s xs k v).length ≤ _; rw [putK_len h0, h]; exact Nat.le_succ _
theorem putX_most (h0 : Sg s) (h : (xs.length : Int) ≤ most) : ((putX s most xs k v).length : Int) ≤ most := by
  unfold putX
  cases hh : hasK s xs k
  · by_cases hm : (xs.length : Int) ≥ most
    · rw [decide_eq_true hm]; exact h
    · rw [decide_eq_false hm]; show ((putK s xs k v).length : Int) ≤ most; rw [putK_len h0, hh]; simp only [cond_false]; omega
  · show ((putK s xs k v).length : Int) ≤ most; rw [putK_len h0, hh]; exact h
theorem dropK_le : (dropK s xs k).length ≤ xs.length := by rw [dropK_len]; cases hasK s xs k; exact Nat.le_refl _; exact Nat.sub_le _ _
def putW (s most : Int) (xs : List (Int × Int)) (k : Int) : Bool := hasK s xs k || !(decide (((xs.length : Nat) : Int) ≥ most))
theorem mem_putX (h0 : Sg s) (hS : Srt s xs) (hW : putW s most xs k = true) (p : Int × Int) : p ∈ putX s most xs k v ↔ p = (k, v) ∨ (p ∈ xs ∧ p.1 ≠ k) := by
  rw [← mem_putK h0 hS]
  unfold putW at hW; unfold putX
  cases hh : hasK s xs k
  · rw [hh] at hW
    cases hm : (decide (((xs.length : Nat) : Int) ≥ most))
    · rfl
    · rw [hm] at hW; cases hW
  · rfl
theorem putX_not (hW : putW s most xs k = false) : putX s most xs k v = xs := by
  unfold putW at hW; unfold putX
  cases hh : hasK s xs k
  · rw [hh] at hW
    cases hm : (decide (((xs.length : Nat) : Int) ≥ most))
    · rw [hm] at hW; cases hW
    · rfl
  · rw [hh] at hW; cases hW
end
end Go.Proofs.Ythfagedaijoenaa.Oct
