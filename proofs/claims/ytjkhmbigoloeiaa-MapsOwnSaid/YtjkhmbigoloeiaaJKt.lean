import Derived.Test.YtjkhmbigoloeiaaProg
import Derived.Test.YtjkhmbigoloeiaaJVM
set_option linter.unusedVariables false
set_option linter.unusedSimpArgs false
set_option maxRecDepth 20000
namespace Go.Proofs.Ytjkhmbigoloeiaa.Oct
open Go.RowKit Base
attribute [local irreducible] Ys Yc Ht HtS HtIn Wl Wd W Mem pf dpf Wa Wo
set_option linter.unusedSectionVars false
structure LO (K : Type) where
  lt : K → K → Bool
  irr : ∀ a, lt a a = false
  tr : ∀ {a b c}, lt a b = true → lt b c = true → lt a c = true
  tri : ∀ {a b}, lt a b = false → lt b a = false → a = b
def LO.cmp {K : Type} (o : LO K) (a b : K) : Int := bif o.lt a b then -1 else bif o.lt b a then 1 else 0
theorem LO.as {K : Type} (o : LO K) {a b : K} (h : o.lt a b = true) : o.lt b a = false := by
  cases hb : o.lt b a
  · rfl
  · have := o.tr h hb; rw [o.irr] at this; cases this
theorem LO.ne {K : Type} (o : LO K) {a b : K} (h : o.lt a b = true) : a ≠ b := fun e => by rw [e, o.irr] at h; cases h
theorem LO.cmp_lt {K : Type} (o : LO K) {a b : K} : o.cmp a b < 0 ↔ o.lt a b = true := by
  unfold LO.cmp
  cases h1 : o.lt a b <;> cases h2 : o.lt b a <;> simp
theorem LO.cmp_eq {K : Type} (o : LO K) {a b : K} : o.cmp a b = 0 ↔ a = b := by
  unfold LO.cmp
  constructor
  · cases h1 : o.lt a b <;> cases h2 : o.lt b a <;> simp
    exact o.tri h1 h2
  · rintro rfl; rw [o.irr]; rfl
def LO.int : LO Int := ⟨fun a b => decide (a < b), fun a => by simp, fun {a b c} h1 h2 => by simp at h1 h2 ⊢; omega, fun {a b} h1 h2 => by simp at h1 h2; omega⟩
def LO.lex {A B : Type} [DecidableEq A] (p : LO A) (q : LO B) : LO (A × B) where
  lt x y := p.lt x.1 y.1 || (decide (x.1 = y.1) && q.lt x.2 y.2)
  irr a := by rw [p.irr, q.irr]; simp
  tr {a b c} h1 h2 := by
    simp only [Bool.or_eq_true, Bool.and_eq_true, decide_eq_true_eq] at h1 h2 ⊢
    rcases h1 with h1 | ⟨e1, h1⟩ <;> rcases h2 with h2 | ⟨e2, h2⟩
    · exact .inl (p.tr h1 h2)
    · exact .inl (e2 ▸ h1)
    · exact .inl (e1 ▸ h2)
    · exact .inr ⟨e1.trans e2, q.tr h1 h2⟩
  tri {a b} h1 h2 := by
    simp only [Bool.or_eq_false_iff, Bool.and_eq_false_iff, decide_eq_false_iff_not] at h1 h2
    have e := p.tri h1.1 h2.1
    exact Prod.ext e (q.tri (h1.2.resolve_left (fun h => h e)) (h2.2.resolve_left (fun h => h e.symm)))
theorem LO.lex_cmp {A B : Type} [DecidableEq A] (p : LO A) (q : LO B) (x y : A × B) : (LO.lex p q).cmp x y = bif decide (p.cmp x.1 y.1 = 0) then q.cmp x.2 y.2 else p.cmp x.1 y.1 := by
  by_cases e : x.1 = y.1
  · rw [decide_eq_true (p.cmp_eq.2 e)]
    simp [LO.cmp, LO.lex, e, p.irr]
  · rw [decide_eq_false (fun h => e (p.cmp_eq.1 h))]
    have e' : ¬ y.1 = x.1 := fun h => e h.symm
    simp [LO.cmp, LO.lex, e, e']
section
variable {K V : Type} [DecidableEq K] (o : LO K) (d : K × V)
def posK (xs : List (K × V)) (k : K) : Nat := (xs.takeWhile fun p => o.lt p.1 k).length
def hasK (xs : List (K × V)) (k : K) : Bool := xs.any fun p => decide (p.1 = k)
def Srt (xs : List (K × V)) : Prop := xs.Pairwise fun p q => o.lt p.1 q.1 = true
def getK (v0 : V) : List (K × V) → K → V
  | [], _ => v0
  | x :: xs, k => if x.1 = k then x.2 else getK v0 xs k
def putK : List (K × V) → K → V → List (K × V)
  | [], k, v => [(k, v)]
  | x :: xs, k, v => if o.lt x.1 k = true then x :: putK xs k v else if x.1 = k then (k, v) :: xs else (k, v) :: x :: xs
def dropK (xs : List (K × V)) (k : K) : List (K × V) := xs.filter fun p => !decide (p.1 = k)
def putR (most : Int) (xs : List (K × V)) (k : K) : Int := bif hasK xs k then 0 else bif decide (((xs.length : Nat) : Int) ≥ most) then 20 else 0
def putX (most : Int) (xs : List (K × V)) (k : K) (v : V) : List (K × V) := bif hasK xs k then putK o xs k v else bif decide (((xs.length : Nat) : Int) ≥ most) then xs else putK o xs k v
variable {o} {xs ys : List (K × V)} {x p : K × V} {k : K} {v v0 : V} {most : Int}
theorem posK_lt (h : o.lt x.1 k = true) : posK o (x :: xs) k = posK o xs k + 1 := by unfold posK; rw [List.takeWhile_cons, if_pos h, List.length_cons]
theorem posK_ge (h : o.lt x.1 k = false) : posK o (x :: xs) k = 0 := by unfold posK; rw [List.takeWhile_cons, if_neg (by rw [h]; decide)]; rfl
theorem posK_le : posK o xs k ≤ xs.length := by unfold posK; exact (List.takeWhile_sublist _).length_le
theorem srt_ne (hS : Srt o (x :: xs)) (h : o.lt x.1 k = false) : ∀ p ∈ xs, p.1 ≠ k := fun p hp e => by
  have := (List.pairwise_cons.1 hS).1 p hp
  rw [e, h] at this; cases this
theorem posK_spec : ∀ {xs : List (K × V)}, Srt o xs → ∀ {h : Nat}, h < xs.length → (o.lt (xs.getD h d).1 k = true ↔ h < posK o xs k)
  | [], _, h, hh => by simp at hh
  | x :: xs, hs, h, hh => by
    have hs' := List.pairwise_cons.1 hs
    cases hx : o.lt x.1 k with
    | true =>
      rw [posK_lt hx]
      cases h with
      | zero => simpa using hx
      | succ h => rw [List.getD_cons_succ, posK_spec hs'.2 (by simpa using hh)]; omega
    | false =>
      rw [posK_ge hx]
      cases h with
      | zero => simp [hx]
      | succ h =>
        have hh' : h < xs.length := by simpa using hh
        have h1 := hs'.1 (xs.getD h d) (by rw [List.getD_eq_getElem?_getD, List.getElem?_eq_getElem hh']; exact List.getElem_mem _)
        rw [List.getD_cons_succ]
        constructor
        · intro h2; rw [o.tr h1 h2] at hx; cases hx
        · intro h2; omega
theorem hasK_mem : hasK xs k = true ↔ ∃ v, (k, v) ∈ xs := by
  unfold hasK
  rw [List.any_eq_true]
  constructor
  · rintro ⟨p, hp, h⟩; exact ⟨p.2, by rw [← of_decide_eq_true h]; exact hp⟩
  · rintro ⟨v, hv⟩; exact ⟨_, hv, by simp⟩
theorem hasK_not : hasK xs k = false ↔ ∀ p ∈ xs, p.1 ≠ k := by
  unfold hasK; rw [List.any_eq_false]; simp
theorem hasK_cons : hasK (x :: xs) k = (decide (x.1 = k) || hasK xs k) := rfl
theorem has_code : ∀ {xs : List (K × V)}, Srt o xs → (decide (posK o xs k < xs.length) && decide ((xs.getD (posK o xs k) d).1 = k)) = hasK xs k
  | [], _ => by simp [hasK, posK]
  | x :: xs, hs => by
    cases hx : o.lt x.1 k with
    | true =>
      rw [posK_lt hx, List.getD_cons_succ, List.length_cons, hasK_cons, decide_eq_false (o.ne hx), Bool.false_or, ← has_code (List.pairwise_cons.1 hs).2]
      congr 1; exact decide_eq_decide.2 ma3
    | false =>
      rw [posK_ge hx, List.getD_cons_zero, List.length_cons, decide_eq_true ma3, Bool.true_and, hasK_cons, (hasK_not).2 (srt_ne hs hx), Bool.or_false]
theorem hasK_at (hs : Srt o xs) (h : hasK xs k = true) : posK o xs k < xs.length ∧ (xs.getD (posK o xs k) d).1 = k := by
  rw [← has_code d hs] at h; simpa using h
theorem put_has : ∀ {xs : List (K × V)}, Srt o xs → hasK xs k = true → putK o xs k v = xs.set (posK o xs k) (k, v)
  | [], _, h => by cases h
  | x :: xs, hs, h => by
    unfold putK
    cases hx : o.lt x.1 k with
    | true =>
      rw [hasK_cons, decide_eq_false (o.ne hx), Bool.false_or] at h
      rw [posK_lt hx, if_pos rfl, List.set_cons_succ, put_has (List.pairwise_cons.1 hs).2 h]
    | false =>
      rw [hasK_cons, (hasK_not).2 (srt_ne hs hx), Bool.or_false] at h
      rw [posK_ge hx, if_neg ma1, if_pos (of_decide_eq_true h)]; rfl
theorem put_not : ∀ {xs : List (K × V)}, hasK xs k = false → putK o xs k v = xs.take (posK o xs k) ++ (k, v) :: xs.drop (posK o xs k)
  | [], _ => rfl
  | x :: xs, h => by
    rw [hasK_cons, Bool.or_eq_false_iff] at h
    unfold putK
    cases hx : o.lt x.1 k with
    | true => rw [posK_lt hx, if_pos rfl, List.take_succ_cons, List.drop_succ_cons, put_not h.2]; rfl
    | false => rw [posK_ge hx, if_neg ma1, if_neg (of_decide_eq_false h.1)]; rfl
theorem drop_has : ∀ {xs : List (K × V)}, Srt o xs → hasK xs k = true → dropK xs k = xs.take (posK o xs k) ++ xs.drop (posK o xs k + 1)
  | [], _, h => by cases h
  | x :: xs, hs, h => by
    unfold dropK
    cases hx : o.lt x.1 k with
    | true =>
      rw [hasK_cons, decide_eq_false (o.ne hx), Bool.false_or] at h
      have ih := drop_has (List.pairwise_cons.1 hs).2 h
      unfold dropK at ih
      rw [posK_lt hx, List.filter_cons, if_pos (by simp [o.ne hx]), ih, List.take_succ_cons, List.drop_succ_cons]; rfl
    | false =>
      have hn := srt_ne hs hx
      rw [hasK_cons, (hasK_not).2 hn, Bool.or_false] at h
      rw [posK_ge hx, List.filter_cons, if_neg (by simp [of_decide_eq_true h]), List.take_zero, List.nil_append, List.drop_succ_cons, List.drop_zero]
      exact List.filter_eq_self.2 fun p hp => by simp [hn p hp]
theorem drop_not (h : hasK xs k = false) : dropK xs k = xs := List.filter_eq_self.2 fun p hp => by simp [hasK_not.1 h p hp]
theorem get_has : ∀ {xs : List (K × V)}, Srt o xs → hasK xs k = true → getK v0 xs k = (xs.getD (posK o xs k) d).2
  | [], _, h => by cases h
  | x :: xs, hs, h => by
    unfold getK
    cases hx : o.lt x.1 k with
    | true =>
      rw [hasK_cons, decide_eq_false (o.ne hx), Bool.false_or] at h
      rw [posK_lt hx, if_neg (o.ne hx), List.getD_cons_succ, get_has (List.pairwise_cons.1 hs).2 h]
    | false =>
      rw [hasK_cons, (hasK_not).2 (srt_ne hs hx), Bool.or_false] at h
      rw [posK_ge hx, if_pos (of_decide_eq_true h)]; rfl
theorem get_not : ∀ {xs : List (K × V)}, hasK xs k = false → getK v0 xs k = v0
  | [], _ => rfl
  | x :: xs, h => by
    rw [hasK_cons, Bool.or_eq_false_iff] at h
    unfold getK
    rw [if_neg (of_decide_eq_false h.1), get_not h.2]
theorem mem_putK : ∀ {xs : List (K × V)}, Srt o xs → ∀ {p}, (p ∈ putK o xs k v ↔ p = (k, v) ∨ (p ∈ xs ∧ p.1 ≠ k))
  | [], _, p => by simp [putK]
  | x :: xs, hs, p => by
    unfold putK
    cases hx : o.lt x.1 k with
    | true =>
      have hne := o.ne hx
      rw [if_pos rfl, List.mem_cons, mem_putK (List.pairwise_cons.1 hs).2, List.mem_cons]
      constructor
      · rintro (rfl | h | h)
        · exact .inr ⟨.inl rfl, hne⟩
        · exact .inl h
        · exact .inr ⟨.inr h.1, h.2⟩
      · rintro (h | ⟨rfl | h, h2⟩)
        · exact .inr (.inl h)
        · exact .inl rfl
        · exact .inr (.inr ⟨h, h2⟩)
    | false =>
      have hn := srt_ne hs hx
      rw [if_neg ma1]
      by_cases hk : x.1 = k
      · rw [if_pos hk, List.mem_cons, List.mem_cons]
        constructor
        · rintro (h | h)
          · exact .inl h
          · exact .inr ⟨.inr h, hn p h⟩
        · rintro (h | ⟨rfl | h, h2⟩)
          · exact .inl h
          · exact absurd hk h2
          · exact .inr h
      · rw [if_neg hk, List.mem_cons, List.mem_cons]
        constructor
        · rintro (h | rfl | h)
          · exact .inl h
          · exact .inr ⟨.inl rfl, hk⟩
          · exact .inr ⟨.inr h, hn p h⟩
        · rintro (h | ⟨h, h2⟩)
          · exact .inl h
          · exact .inr h
theorem srt_putK : ∀ {xs : List (K × V)}, Srt o xs → Srt o (putK o xs k v)
  | [], _ => List.pairwise_singleton _ _
  | x :: xs, hs => by
    have hs' := List.pairwise_cons.1 hs
    unfold putK
    cases hx : o.lt x.1 k with
    | true =>
      rw [if_pos rfl]
      refine List.pairwise_cons.2 ⟨fun p hp => ?_, srt_putK hs'.2⟩
      rcases (mem_putK hs'.2).1 hp with rfl | ⟨hp, _⟩
      · exact hx
      · exact hs'.1 p hp
    | false =>
      rw [if_neg ma1]
      by_cases hk : x.1 = k
      · rw [if_pos hk]
        exact List.pairwise_cons.2 ⟨fun p hp => by have := hs'.1 p hp; rw [hk] at this; exact this, hs'.2⟩
      · rw [if_neg hk]
        have hlt : o.lt k x.1 = true := by
          cases h : o.lt k x.1 with
          | true => rfl
          | false => exact absurd (o.tri hx h) hk
        refine List.pairwise_cons.2 ⟨fun p hp => ?_, hs⟩
        rcases List.mem_cons.1 hp with rfl | hp
        · exact hlt
        · exact o.tr hlt (hs'.1 p hp)
theorem mem_dropK : p ∈ dropK xs k ↔ p ∈ xs ∧ p.1 ≠ k := by unfold dropK; rw [List.mem_filter]; simp
theorem srt_dropK (hs : Srt o xs) : Srt o (dropK xs k) := List.Pairwise.sublist List.filter_sublist hs
theorem srt_uniq (hs : Srt o xs) {a b : V} (ha : (k, a) ∈ xs) (hb : (k, b) ∈ xs) : a = b := by
  obtain ⟨i, hi, ei⟩ := List.getElem_of_mem ha
  obtain ⟨j, hj, ej⟩ := List.getElem_of_mem hb
  have h2 := List.pairwise_iff_getElem.1 hs
  rcases Nat.lt_trichotomy i j with h | h | h
  · have := h2 i j hi hj h; rw [ei, ej, o.irr] at this; cases this
  · subst h; rw [ei] at ej; exact congrArg Prod.snd ej
  · have := h2 j i hj hi h; rw [ei, ej, o.irr] at this; cases this
theorem getK_mem (hs : Srt o xs) (h : (k, v) ∈ xs) : getK v0 xs k = v := by
  induction xs with
  | nil => cases h
  | cons x xs ih =>
    unfold getK
    by_cases hk : x.1 = k
    · rw [if_pos hk]
      refine srt_uniq hs (k := k) ?_ h
      rw [← hk]; exact List.mem_cons_self ..
    · rw [if_neg hk]
      rcases List.mem_cons.1 h with e | h
      · rw [← e] at hk; exact absurd rfl hk
      · exact ih (List.pairwise_cons.1 hs).2 h
theorem putK_len (hs : Srt o xs) : (putK o xs k v).length = bif hasK xs k then xs.length else xs.length + 1 := by
  cases h : hasK xs k
  · rw [put_not h]; have := posK_le (o := o) (xs := xs) (k := k); simp; omega
  · rw [put_has hs h]; simp
theorem dropK_len (hs : Srt o xs) : (dropK xs k).length = bif hasK xs k then xs.length - 1 else xs.length := by
  cases h : hasK xs k
  · rw [drop_not h]; rfl
  · rw [drop_has hs h]
    by_cases hn : xs = []
    · subst hn; cases h
    · obtain ⟨x, l, rfl⟩ := List.exists_cons_of_ne_nil hn
      have := (hasK_at x hs h).1
      simp only [cond_true, List.length_append, List.length_take, List.length_drop]; omega
theorem srt_putX (hs : Srt o xs) : Srt o (putX o most xs k v) := by
  unfold putX
  cases hasK xs k
  · cases (decide (((xs.length : Nat) : Int) ≥ most))
    · exact srt_putK hs
    · exact hs
  · exact srt_putK hs
theorem putX_len (hs : Srt o xs) : (putX o most xs k v).length ≤ xs.length + 1 := by
  unfold putX
  cases h : hasK xs k
  · cases (decide (((xs.length : Nat) : Int) ≥ most))
    · show (putK o xs k v).length ≤ _; rw [putK_len hs, h]; exact Nat.le_refl _
    · exact Nat.le_succ _
  · show (putK o xs k v).length ≤ _; rw [putK_len hs, h]; exact Nat.le_succ _
theorem putX_most (hs : Srt o xs) (h : (xs.length : Int) ≤ most) : ((putX o most xs k v).length : Int) ≤ most := by
  unfold putX
  cases hh : hasK xs k
  · by_cases hm : (xs.length : Int) ≥ most
    · rw [decide_eq_true hm]; exact h
    · rw [decide_eq_false hm]; show ((putK o xs k v).length : Int) ≤ most; rw [putK_len hs, hh]; simp only [cond_false]; omega
  · show ((putK o xs k v).length : Int) ≤ most; rw [putK_len hs, hh]; exact h
theorem dropK_le (hs : Srt o xs) : (dropK xs k).length ≤ xs.length := by rw [dropK_len hs]; cases hasK xs k; exact Nat.le_refl _; exact Nat.sub_le _ _
theorem srt_nil : Srt o ([] : List (K × V)) := List.Pairwise.nil
theorem getD_mem' {i : Nat} (h : i < xs.length) : xs.getD i d ∈ xs := by
  rw [List.getD_eq_getElem?_getD, List.getElem?_eq_getElem h]; exact List.getElem_mem h
end
section
variable {α : Type} {g : α → List Value} {sz : Nat}
theorem mm_app (xs ys : List α) : mm g (xs ++ ys) = mm g xs ++ mm g ys := by simp [mm]
theorem mm_cons (x : α) (xs : List α) : mm g (x :: xs) = g x ++ mm g xs := by simp [mm]
theorem mm_drop (hg : ∀ x, (g x).length = sz) : ∀ (xs : List α) (i : Nat), (mm g xs).drop (i * sz) = mm g (xs.drop i)
  | xs, 0 => by simp
  | [], i + 1 => by simp [mm]
  | x :: xs, i + 1 => by
    rw [mm_cons, List.drop_succ_cons, show (i + 1) * sz = (g x).length + i * sz by rw [hg, Nat.add_mul]; omega, ← List.drop_drop, List.drop_left]
    exact mm_drop hg xs i
theorem mm_take (hg : ∀ x, (g x).length = sz) : ∀ (xs : List α) (i : Nat), (mm g xs).take (i * sz) = mm g (xs.take i)
  | xs, 0 => by simp [mm]
  | [], i + 1 => by simp [mm]
  | x :: xs, i + 1 => by
    rw [mm_cons, List.take_succ_cons, mm_cons, show (i + 1) * sz = (g x).length + i * sz by rw [hg, Nat.add_mul]; omega, List.take_append, Nat.add_sub_cancel_left, mm_take hg xs i]
    rw [List.take_of_length_le ma3]
theorem mm_one (hg : ∀ x, ∀ v ∈ g x, v.oneCell' = true) (xs : List α) : ∀ v ∈ mm g xs, v.oneCell' = true := fun v hv => by
  obtain ⟨x, _, hx⟩ := List.mem_flatMap.1 hv
  exact hg x v hx
end
end Go.Proofs.Ytjkhmbigoloeiaa.Oct
