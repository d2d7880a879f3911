import Derived.Test.YthfagedaijoenaaKKy5
set_option linter.unusedVariables false
set_option linter.unusedSimpArgs false
set_option maxRecDepth 20000
namespace Go.Proofs.Ythfagedaijoenaa.Oct
open Go.RowKit Base
attribute [local irreducible] Ys Yc Ht HtS HtIn Wl Wd W Mem pf dpf Wa Wo
structure Rel (xs : List (Int × Int)) (ks vs : List Int) : Prop where
  hl : vs.length = ks.length
  nd : ks.Nodup
  mem : ∀ k v, (k, v) ∈ xs ↔ ∃ i, i < ks.length ∧ ks.getD i 0 = k ∧ vs.getD i 0 = v
  srt : Srt 1 xs
theorem rel_nil : Rel [] [] [] := ⟨rfl, List.nodup_nil, fun k v => ⟨fun h => (by cases h), fun ⟨i, h, _⟩ => (by cases h)⟩, List.Pairwise.nil⟩
theorem nd_get {ks : List Int} (h : ks.Nodup) {i j : Nat} (hi : i < ks.length) (hj : j < ks.length) (e : ks.getD i 0 = ks.getD j 0) : i = j := by
  rw [List.getD_eq_getElem?_getD, List.getD_eq_getElem?_getD, List.getElem?_eq_getElem hi, List.getElem?_eq_getElem hj] at e
  exact (List.getElem_inj h).1 e
theorem idx_eq {ks : List Int} (h : ks.Nodup) {i : Nat} {k : Int} (hi : i < ks.length) (e : ks.getD i 0 = k) : idx ks k = i := by
  have hm : idx ks k < ks.length := idx_mem.2 (by rw [← e]; exact getD_mem hi)
  exact nd_get h hm hi ((idx_get hm).trans e.symm)
theorem atR_idx {ks : List Int} {k : Int} (h : idx ks k < ks.length) : atR ks k = (idx ks k : Int) := by unfold atR; rw [decide_eq_true h]; rfl
section
variable {xs : List (Int × Int)} {ks vs : List Int} {k v most : Int}
theorem rel_at (h : Rel xs ks vs) (hm : (k, v) ∈ xs) : atR ks k ≥ 0 ∧ vs.getD (atR ks k).toNat 0 = v := by
  obtain ⟨i, hi, e1, e2⟩ := (h.mem k v).1 hm
  have := idx_eq h.nd hi e1
  have ha := atR_idx (ks := ks) (k := k) ma1
  rw [ha, this]
  exact ⟨by omega, e2⟩
theorem rel_mem (h : Rel xs ks vs) : k ∈ ks ↔ ∃ v, (k, v) ∈ xs := by
  constructor
  · intro hk
    obtain ⟨i, hi, e⟩ := mem_getD hk
    exact ⟨_, (h.mem k _).2 ⟨i, hi, e, rfl⟩⟩
  · rintro ⟨v, hv⟩
    obtain ⟨i, hi, e, _⟩ := (h.mem k v).1 hv
    rw [← e]; exact getD_mem hi
theorem atR_ge {ks : List Int} {k : Int} : atR ks k ≥ 0 ↔ k ∈ ks := by
  constructor
  · intro h; exact idx_mem.1 (atR_pos h).1
  · intro h; rw [atR_idx (idx_mem.2 h)]; omega
theorem rel_has (h : Rel xs ks vs) : hasK 1 xs k = decide (atR ks k ≥ 0) := by
  rw [Bool.eq_iff_iff, decide_eq_true_eq, atR_ge, hasK_mem sg1 h.srt, rel_mem h]
theorem inc_keys (h : Srt 1 xs) : Inc (xs.map Prod.fst) := by
  unfold Inc; rw [List.pairwise_map]
  exact h.imp fun {a b} h => by omega
theorem rel_keys (h : Rel xs ks vs) : ks.Perm (xs.map Prod.fst) := by
  refine (List.perm_ext_iff_of_nodup h.nd ((inc_keys h.srt).imp fun {a b} h => by omega)).2 fun k => ?_
  rw [rel_mem h, List.mem_map]
  constructor
  · rintro ⟨v, hv⟩; exact ⟨_, hv, rfl⟩
  · rintro ⟨p, hp, rfl⟩; exact ⟨p.2, hp⟩
theorem rel_len (h : Rel xs ks vs) : ks.length = xs.length := by rw [(rel_keys h).length_eq, List.length_map]
theorem set_getD (vs : List Int) (i j : Nat) (v : Int) : (vs.set i v).getD j 0 = if i = j ∧ j < vs.length then v else vs.getD j 0 := by
  simp only [List.getD_eq_getElem?_getD, List.getElem?_set]
  by_cases h : i = j
  · subst h
    by_cases hl : i < vs.length
    · simp [hl]
    · simp [hl]
  · simp [h]
theorem app_getD (vs : List Int) (j : Nat) (v : Int) : (vs ++ [v]).getD j 0 = if j < vs.length then vs.getD j 0 else if j = vs.length then v else 0 := by
  simp only [List.getD_eq_getElem?_getD]
  by_cases h : j < vs.length
  · rw [if_pos h, List.getElem?_append_left h]
  · rw [if_neg h, List.getElem?_append_right ma1]
    by_cases h2 : j = vs.length
    · subst h2; simp
    · rw [if_neg h2, List.getElem?_eq_none (by simp; omega)]; rfl
theorem rel_put (h : Rel xs ks vs) (hm : (xs.length : Int) ≤ most) : putR 1 most xs k = rputR most ks k ∧ Rel (putX 1 most xs k v) (rputK most ks k) (rputV most ks vs k v) := by
  have hh := rel_has h (k := k)
  have hn := rel_len h
  by_cases ha : atR ks k ≥ 0
  · rw [decide_eq_true ha] at hh
    obtain ⟨h1, h2⟩ := atR_nat ha
    have hW := (put_has (m := most) hh).2
    refine ⟨by unfold putR rputR; rw [hh, decide_eq_true ha]; rfl, ?_⟩
    rw [show rputK most ks k = ks by unfold rputK; rw [decide_eq_true ha]; rfl, show rputV most ks vs k v = vs.set (atR ks k).toNat v by unfold rputV; rw [decide_eq_true ha]; rfl, h1]
    refine ⟨by rw [List.length_set]; exact h.hl, h.nd, fun k' v' => ?_, srt_putX sg1 h.srt⟩
    rw [mem_putX sg1 h.srt hW]
    have hg := idx_get h2
    constructor
    · rintro (e | ⟨hm', hne⟩)
      · cases e
        refine ⟨idx ks k, h2, hg, ?_⟩
        rw [set_getD, if_pos ⟨rfl, by rw [h.hl]; exact h2⟩]
      · obtain ⟨i, hi, e1, e2⟩ := (h.mem k' v').1 hm'
        refine ⟨i, hi, e1, ?_⟩
        rw [set_getD, if_neg (fun q => hne (by show k' = k; rw [← e1, ← q.1]; exact hg))]; exact e2
    · rintro ⟨i, hi, e1, e2⟩
      by_cases hik : idx ks k = i
      · rw [set_getD, if_pos ⟨hik, by rw [h.hl]; exact hi⟩] at e2
        left; rw [← e1, ← e2, ← hik, hg]
      · rw [set_getD, if_neg (fun q => hik q.1)] at e2
        right
        refine ⟨(h.mem k' v').2 ⟨i, hi, e1, e2⟩, fun q => hik ?_⟩
        exact idx_eq h.nd hi (e1.trans q)
  · have hh' : hasK 1 xs k = false := by rw [hh, decide_eq_false ha]
    have hk : k ∉ ks := fun hk => ha (atR_ge.2 hk)
    by_cases hf : (xs.length : Int) ≥ most
    · have e1 : (((ks.length : Nat) : Int) == most) = true := by rw [hn]; exact beq_iff_eq.2 ma1
      have hW : putW 1 most xs k = false := by unfold putW; rw [hh', decide_eq_true hf]; rfl
      refine ⟨by unfold putR rputR; rw [hh', decide_eq_false ha, decide_eq_true hf, e1], ?_⟩
      rw [putX_not hW, show rputK most ks k = ks by unfold rputK; rw [decide_eq_false ha, e1]; rfl, show rputV most ks vs k v = vs by unfold rputV; rw [decide_eq_false ha, e1]; rfl]
      exact h
    · have e1 : (((ks.length : Nat) : Int) == most) = false := by rw [hn]; exact beq_eq_false_iff_ne.2 ma1
      have hW : putW 1 most xs k = true := put_room ma1
      refine ⟨by unfold putR rputR; rw [hh', decide_eq_false ha, decide_eq_false hf, e1], ?_⟩
      rw [show rputK most ks k = ks ++ [k] by unfold rputK; rw [decide_eq_false ha, e1]; rfl, show rputV most ks vs k v = vs ++ [v] by unfold rputV; rw [decide_eq_false ha, e1]; rfl]
      refine ⟨by simp [h.hl], ?_, fun k' v' => ?_, srt_putX sg1 h.srt⟩
      · rw [List.nodup_append]
        exact ⟨h.nd, by simp, fun a ha b hb e => hk (by rw [List.mem_singleton.1 hb] at e; rw [← e]; exact ha)⟩
      · rw [mem_putX sg1 h.srt hW]
        constructor
        · rintro (e | ⟨hm', hne⟩)
          · cases e
            exact ⟨ks.length, by simp, by rw [app_getD, if_neg ma1, if_pos rfl], by rw [app_getD, h.hl, if_neg ma1, if_pos rfl]⟩
          · obtain ⟨i, hi, e1, e2⟩ := (h.mem k' v').1 hm'
            exact ⟨i, by simp; omega, by rw [app_getD, if_pos hi]; exact e1, by rw [app_getD, h.hl, if_pos hi]; exact e2⟩
        · rintro ⟨i, hi, e1, e2⟩
          rw [app_getD] at e1 e2
          rw [h.hl] at e2
          by_cases hil : i < ks.length
          · rw [if_pos hil] at e1 e2
            right
            refine ⟨(h.mem k' v').2 ⟨i, hil, e1, e2⟩, fun q => hk ?_⟩
            rw [← show k' = k from q, ← e1]; exact getD_mem hil
          · have : i = ks.length := by simp at hi; omega
            rw [if_neg hil, if_pos this] at e1 e2
            left; rw [← e1, ← e2]
theorem cut_getD (l : List Int) (i j : Nat) (hi : i < l.length) : (l.take i ++ l.drop (i + 1)).getD j 0 = if j < i then l.getD j 0 else l.getD (j + 1) 0 := by
  simp only [List.getD_eq_getElem?_getD]
  by_cases h : j < i
  · rw [if_pos h, List.getElem?_append_left (by simp; omega), List.getElem?_take, if_pos h]
  · rw [if_neg h, List.getElem?_append_right (by simp; omega), List.getElem?_drop, List.length_take, Nat.min_eq_left ma1]
    congr 2; omega
theorem rel_drop (h : Rel xs ks vs) : hasK 1 xs k = !(decide (atR ks k < 0)) ∧ Rel (dropK 1 xs k) (rdropL ks ks k) (rdropL ks vs k) := by
  have hh := rel_has h (k := k)
  by_cases ha : atR ks k ≥ 0
  · have hlt : decide (atR ks k < 0) = false := decide_eq_false ma1
    rw [decide_eq_true ha] at hh
    obtain ⟨h1, h2⟩ := atR_nat ha
    refine ⟨by rw [hh, hlt]; rfl, ?_⟩
    have e : ∀ l : List Int, rdropL ks l k = l.take (idx ks k) ++ l.drop (idx ks k + 1) := fun l => by
      unfold rdropL; rw [hlt, h1, show (atR ks k + 1).toNat = idx ks k + 1 by omega]; rfl
    rw [e, e]
    have hg := idx_get h2
    have hlk : (ks.take (idx ks k) ++ ks.drop (idx ks k + 1)).length = ks.length - 1 := by simp; omega
    refine ⟨by simp [h.hl], ?_, fun k' v' => ?_, srt_dropK sg1 h.srt⟩
    · have hs : (ks.take (idx ks k) ++ ks.drop (idx ks k + 1)).Sublist ks := by
        have hd : (ks.drop (idx ks k + 1)).Sublist (ks.drop (idx ks k)) := by
          rw [show ks.drop (idx ks k + 1) = (ks.drop (idx ks k)).drop 1 by rw [List.drop_drop]]; exact List.drop_sublist _ _
        have := List.Sublist.append (List.Sublist.refl (ks.take (idx ks k))) hd
        rwa [List.take_append_drop] at this
      exact h.nd.sublist hs
    · rw [mem_dropK sg1 h.srt, h.mem, hlk]
      constructor
      · rintro ⟨⟨i, hi, e1, e2⟩, hne⟩
        have hik : i ≠ idx ks k := fun q => hne (by show k' = k; rw [← e1, q]; exact hg)
        rcases Nat.lt_or_ge i (idx ks k) with hl | hl
        · exact ⟨i, by omega, by rw [cut_getD _ _ _ h2, if_pos hl]; exact e1, by rw [cut_getD _ _ _ (by rw [h.hl]; exact h2), if_pos hl]; exact e2⟩
        · exact ⟨i - 1, by omega, by rw [cut_getD _ _ _ h2, if_neg ma1, show i - 1 + 1 = i by omega]; exact e1, by rw [cut_getD _ _ _ (by rw [h.hl]; exact h2), if_neg ma1, show i - 1 + 1 = i by omega]; exact e2⟩
      · rintro ⟨i, hi, e1, e2⟩
        rw [cut_getD _ _ _ h2] at e1
        rw [cut_getD _ _ _ (by rw [h.hl]; exact h2)] at e2
        by_cases hl : i < idx ks k
        · rw [if_pos hl] at e1 e2
          refine ⟨⟨i, by omega, e1, e2⟩, fun q => ?_⟩
          have := idx_eq h.nd ma1 (e1.trans q); omega
        · rw [if_neg hl] at e1 e2
          refine ⟨⟨i + 1, by omega, e1, e2⟩, fun q => ?_⟩
          have := idx_eq h.nd (show i + 1 < ks.length by omega) (e1.trans q); omega
  · have hlt : decide (atR ks k < 0) = true := decide_eq_true ma1
    have hh' : hasK 1 xs k = false := by rw [hh, decide_eq_false ha]
    refine ⟨by rw [hh', hlt]; rfl, ?_⟩
    have e : ∀ l : List Int, rdropL ks l k = l := fun l => by unfold rdropL; rw [hlt]; rfl
    rw [e, e, show dropK 1 xs k = xs by unfold dropK; rw [hh']; rfl]
    exact h
end
end Go.Proofs.Ythfagedaijoenaa.Oct
