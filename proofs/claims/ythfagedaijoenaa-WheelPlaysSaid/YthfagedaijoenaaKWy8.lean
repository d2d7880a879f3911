import Derived.Test.YthfagedaijoenaaKWy7
import Derived.Test.YthfagedaijoenaaKKy7
import Derived.Test.YthfagedaijoenaaKWy5
set_option linter.unusedVariables false
set_option linter.unusedSimpArgs false
set_option maxRecDepth 20000
namespace Go.Proofs.Ythfagedaijoenaa.Oct
open Go.RowKit Base
attribute [local irreducible] Ys Yc Ht HtS HtIn Wl Wd W Mem pf dpf Wa Wo
structure RelW (xs : List (Int × Int)) (ks as_ : List Int) : Prop where
  hl : as_.length = ks.length
  nd : ks.Nodup
  mem : ∀ k a, (a, k) ∈ xs ↔ ∃ i, i < ks.length ∧ ks.getD i 0 = k ∧ as_.getD i 0 = a
  ok : OkS xs
theorem relw_nil : RelW [] [] [] := ⟨rfl, List.nodup_nil, fun k v => ⟨fun h => (by cases h), fun ⟨i, h, _⟩ => (by cases h)⟩, OkS.nil⟩
section
variable {xs : List (Int × Int)} {ks as_ : List Int} {k a : Int}
theorem mem_keysS : k ∈ keysS xs ↔ ∃ a, (a, k) ∈ xs := by
  unfold keysS; rw [List.mem_map]
  exact ⟨fun ⟨p, h, e⟩ => ⟨p.1, by rw [← e]; exact h⟩, fun ⟨a, h⟩ => ⟨(a, k), h, rfl⟩⟩
theorem relw_keys (h : RelW xs ks as_) : k ∈ keysS xs ↔ k ∈ ks := by
  rw [mem_keysS]
  constructor
  · rintro ⟨a, ha⟩
    obtain ⟨i, hi, e, _⟩ := (h.mem k a).1 ha
    rw [← e]; exact getD_mem hi
  · intro hk
    obtain ⟨i, hi, e⟩ := mem_getD hk
    exact ⟨_, (h.mem k _).2 ⟨i, hi, e, rfl⟩⟩
theorem relw_perm (h : RelW xs ks as_) : ks.Perm (keysS xs) := (List.perm_ext_iff_of_nodup h.nd h.ok.nd).2 fun _ => (relw_keys h).symm
theorem relw_len (h : RelW xs ks as_) : ks.length = xs.length := by rw [(relw_perm h).length_eq, keysS_len]
theorem relw_has (h : RelW xs ks as_) (k : Int) : decide (atR (keysS xs) k ≥ 0) = decide (atR ks k ≥ 0) := by
  rw [Bool.eq_iff_iff, decide_eq_true_eq, decide_eq_true_eq, atR_ge, atR_ge, relw_keys h]
theorem not_lt0 (x : Int) : (!(decide (x < 0))) = decide (x ≥ 0) := by
  by_cases h : x < 0
  · rw [decide_eq_true h, decide_eq_false ma1]; rfl
  · rw [decide_eq_false h, decide_eq_true ma1]; rfl
theorem relw_cut (h : RelW xs ks as_) (k : Int) : RelW (cutS xs k) (rdropL ks ks k) (rdropL ks as_ k) := by
  by_cases ha : atR ks k ≥ 0
  · have hlt : decide (atR ks k < 0) = false := decide_eq_false ma1
    obtain ⟨h1, h2⟩ := atR_nat ha
    have e : ∀ l : List Int, rdropL ks l k = l.take (idx ks k) ++ l.drop (idx ks k + 1) := fun l => by
      unfold rdropL; rw [hlt, h1, show (atR ks k + 1).toNat = idx ks k + 1 by omega]; rfl
    rw [e, e]
    have hg := idx_get h2
    have hlk : (ks.take (idx ks k) ++ ks.drop (idx ks k + 1)).length = ks.length - 1 := by simp; omega
    refine ⟨by simp [h.hl], ?_, fun k' v' => ?_, h.ok.cut k⟩
    · have hs : (ks.take (idx ks k) ++ ks.drop (idx ks k + 1)).Sublist ks := by
        have hd : (ks.drop (idx ks k + 1)).Sublist (ks.drop (idx ks k)) := by
          rw [show ks.drop (idx ks k + 1) = (ks.drop (idx ks k)).drop 1 by rw [List.drop_drop]]; exact List.drop_sublist _ _
        have := List.Sublist.append (List.Sublist.refl (ks.take (idx ks k))) hd
        rwa [List.take_append_drop] at this
      exact h.nd.sublist hs
    · rw [mem_cutS h.ok.nd, h.mem, hlk]
      constructor
      · rintro ⟨⟨i, hi, e1, e2⟩, hne⟩
        have hik : i ≠ idx ks k := fun q => hne (by show k' = k; rw [← e1, q]; exact hg)
        rcases Nat.lt_or_ge i (idx ks k) with hl | hl
        · exact ⟨i, by omega, by rw [cut_getD _ _ _ h2, if_pos hl]; exact e1, by rw [cut_getD _ _ _ (by rw [h.hl]; exact h2), if_pos hl]; exact e2⟩
        · exact ⟨i - 1, by omega, by rw [cut_getD _ _ _ h2, if_neg ma1, show i - 1 + 1 = i by omega]; exact e1, by rw [cut_getD _ _ _ (by rw [h.hl]; exact h2), if_neg ma1, show i - 1 + 1 = i by omega]; exact e2⟩
      · rintro ⟨i, hi, e1, e2⟩
        rw [cut_getD _ _ _ h2] at e1
        rw [cut_getD _ _ _ (by rw [h.hl]; exact h2)] at e2
        by_cases hl : i < idx ks k
        · rw [if_pos hl] at e1 e2
          refine ⟨⟨i, by omega, e1, e2⟩, fun q => ?_⟩
          have := idx_eq h.nd ma1 (e1.trans q); omega
        · rw [if_neg hl] at e1 e2
          refine ⟨⟨i + 1, by omega, e1, e2⟩, fun q => ?_⟩
          have := idx_eq h.nd (show i + 1 < ks.length by omega) (e1.trans q); omega
  · have hlt : decide (atR ks k < 0) = true := decide_eq_true ma1
    have e : ∀ l : List Int, rdropL ks l k = l := fun l => by unfold rdropL; rw [hlt]; rfl
    have hh := relw_has h k
    rw [decide_eq_false ha] at hh
    rw [e, e, show cutS xs k = xs by unfold cutS; rw [hh]; rfl]
    exact h
theorem relw_put (h : RelW xs ks as_) (hk : k ∉ ks) : RelW (putS xs (a, k)) (ks ++ [k]) (as_ ++ [a]) := by
  have hx : ∀ p ∈ xs, p.2 ≠ k := fun p hp e => hk ((relw_keys h).1 (by rw [← e]; exact List.mem_map.2 ⟨p, hp, rfl⟩))
  refine ⟨by simp [h.hl], ?_, fun k' v' => ?_, putS_srt h.ok.srt hx, ?_⟩
  · rw [List.nodup_append]
    exact ⟨h.nd, by simp, fun a ha b hb e => hk (by rw [List.mem_singleton.1 hb] at e; rw [← e]; exact ha)⟩
  · rw [mem_putS]
    constructor
    · rintro (e | hm)
      · cases e
        exact ⟨ks.length, by simp, by rw [app_getD, if_neg ma1, if_pos rfl], by rw [app_getD, h.hl, if_neg ma1, if_pos rfl]⟩
      · obtain ⟨i, hi, e1, e2⟩ := (h.mem k' v').1 hm
        exact ⟨i, by simp; omega, by rw [app_getD, if_pos hi]; exact e1, by rw [app_getD, h.hl, if_pos hi]; exact e2⟩
    · rintro ⟨i, hi, e1, e2⟩
      rw [app_getD] at e1 e2
      rw [h.hl] at e2
      by_cases hil : i < ks.length
      · rw [if_pos hil] at e1 e2
        exact .inr ((h.mem k' v').2 ⟨i, hil, e1, e2⟩)
      · have : i = ks.length := by simp at hi; omega
        rw [if_neg hil, if_pos this] at e1 e2
        left; rw [← e1, ← e2]
  · refine ((putS_perm xs (a, k)).map Prod.snd).nodup_iff.2 ?_
    rw [List.map_cons]
    refine List.nodup_cons.2 ⟨fun hm => ?_, h.ok.nd⟩
    obtain ⟨p, hp, e⟩ := List.mem_map.1 hm
    exact hx p hp e
theorem relw_set (h : RelW xs ks as_) (k a : Int) : RelW (setS xs k a) (rdropL ks ks k ++ [k]) (rdropL ks as_ k ++ [a]) := by
  have hc := relw_cut h k
  refine relw_put hc fun hm => ?_
  obtain ⟨p, hp, e⟩ := List.mem_map.1 ((relw_keys hc).2 hm)
  exact ((mem_cutS h.ok.nd).1 hp).2 e
theorem relw_time (h : RelW xs ks as_) (k : Int) : timeS xs k = bif decide (atR ks k ≥ 0) then as_.getD (atR ks k).toNat 0 else 0 := by
  rw [← relw_has h k]
  unfold timeS
  by_cases ha : atR (keysS xs) k ≥ 0
  · rw [decide_eq_false ma1, decide_eq_true ha]
    obtain ⟨h1, h2⟩ := atR_nat ha
    have h3 := idx_get h2
    rw [keysS_len] at h2
    rw [keysS_get h2] at h3
    simp only [cond_true, cond_false]
    rw [h1]
    have hm : ((xs.getD (idx (keysS xs) k) (0, 0)).1, k) ∈ xs := by
      rw [← h3, h3]
      have : xs.getD (idx (keysS xs) k) (0, 0) ∈ xs := by rw [List.getD_eq_getElem?_getD, List.getElem?_eq_getElem h2]; exact List.getElem_mem h2
      have e : xs.getD (idx (keysS xs) k) (0, 0) = ((xs.getD (idx (keysS xs) k) (0, 0)).1, k) := Prod.ext rfl h3
      rw [e] at this; exact this
    obtain ⟨i, hi, e1, e2⟩ := (h.mem _ _).1 hm
    have e3 := idx_eq h.nd hi e1
    rw [atR_idx (show idx ks k < ks.length by omega), Int.toNat_natCast, e3, e2]
  · rw [decide_eq_true ma1, decide_eq_false ha]; rfl
theorem relw_first (h : RelW xs ks as_) (h0 : 0 < xs.length) : 0 ≤ firstN ks as_ ks.length ∧ (firstN ks as_ ks.length).toNat < ks.length ∧ as_.getD (firstN ks as_ ks.length).toNat 0 = (xs.getD 0 (0, 0)).1 ∧ ks.getD (firstN ks as_ ks.length).toNat 0 = (xs.getD 0 (0, 0)).2 := by
  have hb := firstN_bd ks as_ ks.length
  have hn := relw_len h
  have hmin := @firstN_min ks as_ ks.length
  generalize firstN ks as_ ks.length = b at hb hmin
  have hb0 : 0 ≤ b ∧ b < (ks.length : Int) := by omega
  have hm := (h.mem _ _).2 ⟨b.toNat, by omega, rfl, rfl⟩
  have hh : xs.getD 0 (0, 0) ∈ xs := by rw [List.getD_eq_getElem?_getD, List.getElem?_eq_getElem h0]; exact List.getElem_mem h0
  obtain ⟨j, hj, e1, e2⟩ := (h.mem (xs.getD 0 (0, 0)).2 (xs.getD 0 (0, 0)).1).1 hh
  have h1 := hmin hj
  rw [e1, e2] at h1
  obtain ⟨x, X, rfl⟩ : ∃ x X, xs = x :: X := by cases xs with | nil => simp at h0 | cons x X => exact ⟨x, X, rfl⟩
  rw [List.getD_cons_zero] at h1 ⊢
  refine ⟨hb0.1, by omega, ?_⟩
  rcases List.mem_cons.1 hm with e | hm'
  · exact ⟨by rw [← e], by rw [← e]⟩
  · exact absurd ((List.pairwise_cons.1 h.ok.srt).1 _ hm') h1
theorem cut_head {X : List (Int × Int)} (h0 : 0 < X.length) : cutS X (X.getD 0 (0, 0)).2 = X.drop 1 := by
  cases X with
  | nil => simp at h0
  | cons x X =>
    have hi : idx (keysS (x :: X)) x.2 = 0 := by unfold idx keysS; rw [List.map_cons, List.takeWhile_cons_of_neg ma8]; rfl
    rw [List.getD_cons_zero]
    unfold cutS
    rw [atR_idx (by rw [hi, keysS_len]; exact h0), hi]
    rfl
theorem relw_next (h : RelW xs ks as_) (h0 : 0 < xs.length) : RelW (xs.drop 1) (rdropL ks ks (ks.getD (firstN ks as_ ks.length).toNat 0)) (rdropL ks as_ (ks.getD (firstN ks as_ ks.length).toNat 0)) := by
  have := relw_cut h (xs.getD 0 (0, 0)).2
  rw [cut_head h0] at this
  rw [(relw_first h h0).2.2.2]; exact this
end
theorem relw_some {xs : List (Int × Int)} {ks as_ : List Int} (h : RelW xs ks as_) : someS xs = decide (firstN ks as_ ks.length ≥ 0) := by
  have hb := firstN_bd ks as_ ks.length
  have hn := relw_len h
  unfold someS
  by_cases h0 : xs.length = 0
  · rw [h0, decide_eq_false ma1]; rfl
  · rw [beq_eq_false_iff_ne.2 (show (xs.length : Int) ≠ 0 by omega), decide_eq_true ma1]; rfl
theorem relw_nx {xs : List (Int × Int)} {ks as_ : List Int} (h : RelW xs ks as_) : nextS xs = bif decide (firstN ks as_ ks.length ≥ 0) then as_.getD (firstN ks as_ ks.length).toNat 0 else 0 := by
  rw [← relw_some h]
  by_cases h0 : xs.length = 0
  · obtain ⟨a, b⟩ := next_none h0; rw [a, b]; rfl
  · obtain ⟨a, b⟩ := next_some (X := xs) ma1; rw [a, b, (relw_first h ma1).2.2.1]; rfl
section
variable {xs : List (Int × Int)} {K A : List Int} {T M : Int} {j : Nat}
theorem go8 (hj : j ≤ dueM xs T) (hr : RelW (xs.drop j) K A) : ((decide (firstN K A K.length < 0)) || (decide (A.getD (firstN K A K.length).toNat 0 > T))) = !decide (j + 1 ≤ dueM xs T) := by
  have hdh := drop_head (X := xs.drop j) (c := j) rfl
  by_cases h0 : j < xs.length
  · obtain ⟨h1, h2, h3, h4⟩ := relw_first hr (by rw [List.length_drop]; omega)
    have hs := dueM_spec hj h0
    rw [h3, hdh, decide_eq_false ma1, Bool.false_or]
    by_cases h5 : j + 1 ≤ dueM xs T
    · rw [decide_eq_true h5, decide_eq_false (by have := hs.2 h5; omega)]; rfl
    · rw [decide_eq_false h5, decide_eq_true (by have := mt hs.1 h5; omega)]; rfl
  · have hk := relw_len hr
    rw [List.length_drop] at hk
    have hb := firstN_bd K A K.length
    have hd := dueM_le xs T
    rw [decide_eq_true (show firstN K A K.length < 0 by omega), decide_eq_false (show ¬ (j + 1 ≤ dueM xs T) by omega)]; rfl
theorem stop8 (hj : j ≤ dueM xs T) (hn : ¬ j + 1 ≤ dueM xs T) (hl : (((j : Int) == 0) || (decide (((j : Nat) : Int) < M))) = true) : dueN xs T M = j := by
  refine dueN_stop ma1 ?_
  rcases Bool.or_eq_true_iff.1 hl with h | h
  · left; have := beq_iff_eq.1 h; omega
  · right; exact of_decide_eq_true h
theorem full8 (hj : j ≤ dueM xs T) (hjm : j ≤ max M.toNat 1) (hl : (((j : Int) == 0) || (decide (((j : Nat) : Int) < M))) = false) : dueN xs T M = j := by
  obtain ⟨h1, h2⟩ := Bool.or_eq_false_iff.1 hl
  have h3 := beq_eq_false_iff_ne.1 h1; have h4 := of_decide_eq_false h2
  unfold dueN; omega
theorem room8 (hj : j + 1 ≤ dueM xs T) (hl : (((j : Int) == 0) || (decide (((j : Nat) : Int) < M))) = true) : j < dueN xs T M ∧ dueN xs T M ≤ xs.length ∧ j + 1 ≤ max M.toNat 1 := by
  have hd := dueM_le xs T
  unfold dueN
  rcases Bool.or_eq_true_iff.1 hl with h | h
  · have := beq_iff_eq.1 h; omega
  · have := of_decide_eq_true h; omega
theorem got8 {O : List Int} {N : Nat} (hO : keysS (xs.take N) = O) (hj : j < N) (hN : N ≤ xs.length) (hr : RelW (xs.drop j) K A) : j < O.length ∧ O.getD j 0 = K.getD (firstN K A K.length).toNat 0 := by
  subst hO
  have hdh := drop_head (X := xs.drop j) (c := j) rfl
  obtain ⟨_, _, _, h4⟩ := relw_first hr (by rw [List.length_drop]; omega)
  have hl : j < (xs.take N).length := by rw [List.length_take]; omega
  refine ⟨by rw [keysS_len]; exact hl, ?_⟩
  rw [h4, hdh, keysS_get hl]
  simp only [List.getD_eq_getElem?_getD, List.getElem?_take, if_pos hj]
theorem fin8_ok {X : List (Int × Int)} (h : RelW X K A) (k : Int) : (((((((!((decide (atR K k ≥ 0)) == (decide (atR K k ≥ 0)))) || ((decide (atR K k ≥ 0)) && ((timeS X k) != (A.getD ((atR K k).toNat) 0)))) || ((!(decide (atR K k ≥ 0))) && ((timeS X k) != 0))) || (!((decide (firstN K A K.length ≥ 0)) == (decide (firstN K A K.length ≥ 0))))) || ((decide (firstN K A K.length ≥ 0)) && ((nextS X) != (A.getD ((firstN K A K.length).toNat) 0)))) || ((!(decide (firstN K A K.length ≥ 0))) && ((nextS X) != 0))) || (((X.length : Nat) : Int) != (K.length : Int))) = false := by
  have hl := relw_len h
  rw [relw_time h, relw_nx h]
  cases decide (atR K k ≥ 0) <;> cases decide (firstN K A K.length ≥ 0) <;> simp [hl]
end
theorem atR_bd8 {ks : List Int} {k : Int} : atR ks k < (ks.length : Int) ∧ -1 ≤ atR ks k := by
  have := idx_le ks k
  unfold atR
  by_cases h : idx ks k < ks.length
  · rw [decide_eq_true h]; simp only [cond_true]; omega
  · rw [decide_eq_false h]; simp only [cond_false]; omega
end Go.Proofs.Ythfagedaijoenaa.Oct
