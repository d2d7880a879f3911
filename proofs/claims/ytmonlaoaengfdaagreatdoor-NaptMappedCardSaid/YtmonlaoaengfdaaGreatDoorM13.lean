import Derived.Test.YtmonlaoaengfdaaGreatDoorM6
import Derived.Test.YtmonlaoaengfdaaGreatDoorM12
set_option linter.unusedVariables false
set_option linter.unusedSimpArgs false
set_option maxRecDepth 20000
namespace Go.Proofs.YtmonlaoaengfdaaGreatDoor.Oct
open Go.RowKit Base
attribute [local irreducible] Ys Yc Ht HtS HtIn Wl Wd W Mem pf dpf Wa Wo
open ZW
def cmpI (a b : Int) : Int := bif decide (a < b) then -1 else bif decide (a > b) then 1 else 0
theorem cmpI_lt (a b : Int) : cmpI a b < 0 ↔ a < b := by
  unfold cmpI
  by_cases h : a < b
  · rw [decide_eq_true h]; simp [h]
  · rw [decide_eq_false h]
    by_cases h2 : a > b
    · rw [decide_eq_true h2]; simp; omega
    · rw [decide_eq_false h2]; simp; omega
theorem cmpI_eq (a b : Int) : cmpI a b = 0 ↔ a = b := by
  unfold cmpI
  by_cases h : a < b
  · rw [decide_eq_true h]; simp; omega
  · rw [decide_eq_false h]
    by_cases h2 : a > b
    · rw [decide_eq_true h2]; simp; omega
    · rw [decide_eq_false h2]; simp; omega
def idx (ks : List Int) (k : Int) : Nat := (ks.takeWhile fun x => !(x == k)).length
def atR (ks : List Int) (k : Int) : Int := bif decide (idx ks k < ks.length) then (idx ks k : Int) else -1
theorem idx_le (ks : List Int) (k : Int) : idx ks k ≤ ks.length := (List.takeWhile_sublist _).length_le
theorem idx_spec {k : Int} : ∀ {ks : List Int} {i : Nat}, i ≤ idx ks k → i < ks.length → (ks.getD i 0 = k ↔ idx ks k = i)
  | [], i, _, h => by simp at h
  | x :: ks, i, hi, h => by
    unfold idx at hi ⊢
    rw [List.takeWhile_cons] at hi ⊢
    by_cases hx : x = k
    · subst hx
      simp only [beq_self_eq_true, Bool.not_true, Bool.false_eq_true, if_false, List.length_nil] at hi ⊢
      obtain rfl : i = 0 := by omega
      simp
    · rw [if_pos (by simpa using hx)] at hi ⊢
      rw [List.length_cons] at hi ⊢
      cases i with
      | zero => simp only [List.getD_cons_zero]; constructor; exact fun h => absurd h hx; intro h; omega
      | succ i =>
        have := idx_spec (k := k) (ks := ks) (i := i) (by unfold idx; omega) (by simpa using h)
        unfold idx at this
        rw [List.getD_cons_succ, this]; omega
theorem idx_get {ks : List Int} {k : Int} (h : idx ks k < ks.length) : ks.getD (idx ks k) 0 = k := (idx_spec (Nat.le_refl _) h).2 rfl
theorem atR_pos {ks : List Int} {k : Int} (h : atR ks k ≥ 0) : idx ks k < ks.length ∧ atR ks k = (idx ks k : Int) := by
  unfold atR at h ⊢
  by_cases hh : idx ks k < ks.length
  · rw [decide_eq_true hh]; exact ⟨hh, rfl⟩
  · rw [decide_eq_false hh] at h; exact absurd (show (-1 : Int) ≥ 0 from h) ma2
theorem atR_nat {ks : List Int} {k : Int} (h : atR ks k ≥ 0) : (atR ks k).toNat = idx ks k ∧ idx ks k < ks.length := by
  obtain ⟨a, b⟩ := atR_pos h; rw [b]; exact ⟨rfl, a⟩
theorem idx_mem {ks : List Int} {k : Int} : idx ks k < ks.length ↔ k ∈ ks := by
  constructor
  · intro h
    have := idx_get h
    rw [List.getD_eq_getElem?_getD, List.getElem?_eq_getElem h] at this
    rw [← this]; exact List.getElem_mem h
  · intro h
    obtain ⟨i, hi, he⟩ := List.getElem_of_mem h
    rcases Nat.lt_or_ge (idx ks k) ks.length with hl | hl
    · exact hl
    · have h2 := (idx_spec (k := k) (ks := ks) (i := i) ma1 hi).1 (by rw [List.getD_eq_getElem?_getD, List.getElem?_eq_getElem hi]; exact he)
      omega
def spk (x : Int × Int) : List Value := [.int .u64 x.1, .int .u64 x.2]
theorem spk_len (x : Int × Int) : (spk x).length = 2 := rfl
theorem spk_one (x : Int × Int) : ∀ v ∈ spk x, v.oneCell' = true := fun v hv => by
  simp only [spk, List.mem_cons, List.not_mem_nil, or_false] at hv
  rcases hv with rfl | rfl <;> rfl
def or2 (x y : Int) : Int := bif x != 0 then x else bif y != 0 then y else 0
def ordS (x y : Int × Int) : Int := or2 (cmpI x.1 y.1) (cmpI x.2 y.2)
def LtS (x y : Int × Int) : Prop := x.1 < y.1 ∨ x.1 = y.1 ∧ x.2 < y.2
instance (x y : Int × Int) : Decidable (LtS x y) := by unfold LtS; exact inferInstance
theorem ordS_lt {x y : Int × Int} : ordS x y < 0 ↔ LtS x y := by
  have h1 := cmpI_lt x.1 y.1; have h2 := cmpI_eq x.1 y.1; have h3 := cmpI_lt x.2 y.2; have h4 := cmpI_eq x.2 y.2
  unfold ordS or2 LtS
  by_cases h : cmpI x.1 y.1 = 0
  · rw [show (cmpI x.1 y.1 != 0) = false by simp [h]]
    by_cases h' : cmpI x.2 y.2 = 0
    · rw [show (cmpI x.2 y.2 != 0) = false by simp [h']]; simp only [cond_false]; have := h2.1 h; have := h4.1 h'; omega
    · rw [show (cmpI x.2 y.2 != 0) = true by simp [h']]; simp only [cond_false, cond_true]; have := h2.1 h; omega
  · rw [show (cmpI x.1 y.1 != 0) = true by simp [h]]; simp only [cond_true]
    have : x.1 ≠ y.1 := fun e => h (h2.2 e)
    omega
def posS (xs : List (Int × Int)) (x : Int × Int) : Nat := (xs.takeWhile fun p => decide (LtS p x)).length
def SrtS (xs : List (Int × Int)) : Prop := xs.Pairwise LtS
theorem posS_le (xs : List (Int × Int)) (x : Int × Int) : posS xs x ≤ xs.length := (List.takeWhile_sublist _).length_le
theorem LtS.trans {x y z : Int × Int} (h : LtS x y) (g : LtS y z) : LtS x z := by unfold LtS at *; omega
theorem posS_spec {k : Int × Int} : ∀ {xs : List (Int × Int)}, SrtS xs → ∀ {h : Nat}, h < xs.length → (LtS (xs.getD h (0, 0)) k ↔ h < posS xs k)
  | [], _, h, hh => by simp at hh
  | x :: xs, hs, h, hh => by
    have hs' := List.pairwise_cons.1 hs
    unfold posS
    rw [List.takeWhile_cons]
    by_cases hx : LtS x k
    · rw [if_pos (by simpa using hx), List.length_cons]
      cases h with
      | zero => simpa using hx
      | succ h =>
        have := posS_spec (k := k) hs'.2 (h := h) (by simpa using hh)
        unfold posS at this
        rw [List.getD_cons_succ, this]; omega
    · rw [if_neg (by simpa using hx), List.length_nil]
      cases h with
      | zero => simp only [List.getD_cons_zero]; exact ⟨fun h => absurd h hx, fun h => by omega⟩
      | succ h =>
        have h1 := hs'.1 (xs.getD h (0, 0)) (by
          have : h < xs.length := by simpa using hh
          rw [List.getD_eq_getElem?_getD, List.getElem?_eq_getElem this]; exact List.getElem_mem _)
        rw [List.getD_cons_succ]; exact ⟨fun h => absurd (h1.trans h) hx, fun h => by omega⟩
def keysS (xs : List (Int × Int)) : List Int := xs.map Prod.snd
theorem keysS_len (xs : List (Int × Int)) : (keysS xs).length = xs.length := List.length_map _
theorem keysS_get {xs : List (Int × Int)} {i : Nat} (h : i < xs.length) : (keysS xs).getD i 0 = (xs.getD i (0, 0)).2 := by
  simp [keysS, List.getD_eq_getElem?_getD, List.getElem?_map, List.getElem?_eq_getElem h]
def cutS (xs : List (Int × Int)) (k : Int) : List (Int × Int) := bif decide (atR (keysS xs) k ≥ 0) then xs.take (idx (keysS xs) k) ++ xs.drop (idx (keysS xs) k + 1) else xs
def putS (xs : List (Int × Int)) (x : Int × Int) : List (Int × Int) := xs.take (posS xs x) ++ x :: xs.drop (posS xs x)
def setS (xs : List (Int × Int)) (k a : Int) : List (Int × Int) := putS (cutS xs k) (a, k)
theorem cutS_le (xs : List (Int × Int)) (k : Int) : (cutS xs k).length ≤ xs.length := by
  unfold cutS; cases decide (atR (keysS xs) k ≥ 0)
  · exact Nat.le_refl _
  · simp only [cond_true, List.length_append, List.length_take, List.length_drop]; omega
theorem putS_len (xs : List (Int × Int)) (x : Int × Int) : (putS xs x).length = xs.length + 1 := by
  have := posS_le xs x
  unfold putS; simp only [List.length_append, List.length_take, List.length_cons, List.length_drop]; omega
theorem setS_len (xs : List (Int × Int)) (k a : Int) : (setS xs k a).length ≤ xs.length + 1 := by
  unfold setS; rw [putS_len]; have := cutS_le xs k; omega
theorem cutS_sub (xs : List (Int × Int)) (k : Int) : (cutS xs k).Sublist xs := by
  unfold cutS; cases decide (atR (keysS xs) k ≥ 0)
  · exact List.Sublist.refl _
  · simp only [cond_true]
    conv => rhs; rw [← List.take_append_drop (idx (keysS xs) k) xs]
    exact (List.Sublist.refl _).append (List.drop_sublist_drop_left _ ma1)
theorem cutS_srt {xs : List (Int × Int)} (h : SrtS xs) (k : Int) : SrtS (cutS xs k) := h.sublist (cutS_sub xs k)
theorem mem_cutS {xs : List (Int × Int)} {k : Int} (hn : (keysS xs).Nodup) {p : Int × Int} : p ∈ cutS xs k ↔ p ∈ xs ∧ p.2 ≠ k := by
  unfold cutS
  by_cases ha : atR (keysS xs) k ≥ 0
  · obtain ⟨h1, h2⟩ := atR_nat ha
    have h3 := idx_get h2
    rw [decide_eq_true ha]; simp only [cond_true]
    generalize idx (keysS xs) k = i at h2 h3
    rw [keysS_len] at h2
    obtain ⟨a, x, b, rfl, hl⟩ : ∃ a x b, xs = a ++ x :: b ∧ a.length = i := ⟨xs.take i, xs[i], xs.drop (i + 1), by rw [List.getElem_cons_drop, List.take_append_drop], by rw [List.length_take]; omega⟩
    subst hl
    rw [keysS_get ma6] at h3
    have hx : x.2 = k := by simpa [List.getD_eq_getElem?_getD] using h3
    have e1 : (a ++ x :: b).take a.length = a := List.take_left
    have e2 : (a ++ x :: b).drop (a.length + 1) = b := by rw [show a ++ x :: b = (a ++ [x]) ++ b by simp, show a.length + 1 = (a ++ [x]).length by simp, List.drop_left]
    rw [e1, e2]
    have hn2 : (a.map Prod.snd ++ x.2 :: b.map Prod.snd).Nodup := by simpa [keysS] using hn
    rw [List.nodup_append] at hn2
    obtain ⟨-, hb, hab⟩ := hn2
    have hb' := List.nodup_cons.1 hb
    have hA : ∀ p ∈ a, p.2 ≠ k := fun p hp e => hab p.2 (List.mem_map.2 ⟨p, hp, rfl⟩) x.2 (List.mem_cons_self ..) (by rw [e, hx])
    have hB : ∀ p ∈ b, p.2 ≠ k := fun p hp e => hb'.1 (by rw [hx, ← e]; exact List.mem_map.2 ⟨p, hp, rfl⟩)
    simp only [List.mem_append, List.mem_cons]
    constructor
    · rintro (h | h)
      · exact ⟨.inl h, hA p h⟩
      · exact ⟨.inr (.inr h), hB p h⟩
    · rintro ⟨h | rfl | h, hne⟩
      · exact .inl h
      · exact absurd hx hne
      · exact .inr h
  · rw [decide_eq_false ha]
    simp only [cond_false]
    refine ⟨fun h => ⟨h, fun e => ha ?_⟩, fun h => h.1⟩
    have hm : k ∈ keysS xs := by rw [← e]; exact List.mem_map.2 ⟨p, h, rfl⟩
    have := idx_mem.2 hm
    unfold atR; rw [decide_eq_true this]; simp only [cond_true]; omega
theorem mem_putS {xs : List (Int × Int)} {x p : Int × Int} : p ∈ putS xs x ↔ p = x ∨ p ∈ xs := by
  unfold putS
  conv => rhs; rw [← List.take_append_drop (posS xs x) xs]
  simp only [List.mem_append, List.mem_cons]
  constructor
  · rintro (h | h | h)
    · exact .inr (.inl h)
    · exact .inl h
    · exact .inr (.inr h)
  · rintro (h | h | h)
    · exact .inr (.inl h)
    · exact .inl h
    · exact .inr (.inr h)
theorem putS_perm (xs : List (Int × Int)) (x : Int × Int) : (putS xs x).Perm (x :: xs) := by
  unfold putS
  refine List.perm_middle.trans ?_
  rw [List.take_append_drop]
theorem putS_srt {xs : List (Int × Int)} (h : SrtS xs) {x : Int × Int} (hx : ∀ p ∈ xs, p.2 ≠ x.2) : SrtS (putS xs x) := by
  have hge : ∀ p ∈ xs.drop (posS xs x), LtS x p := by
    intro p hp
    obtain ⟨j, hj, e⟩ := List.getElem_of_mem hp
    rw [List.getElem_drop] at e
    have hl : posS xs x + j < xs.length := by rw [List.length_drop] at hj; omega
    have := mt (posS_spec (k := x) h hl).1 ma1
    rw [List.getD_eq_getElem?_getD, List.getElem?_eq_getElem hl, Option.getD_some, e] at this
    have hne := hx p (by rw [← e]; exact List.getElem_mem hl)
    unfold LtS at this ⊢; omega
  have hlt : ∀ p ∈ xs.take (posS xs x), LtS p x := by
    intro p hp
    obtain ⟨j, hj, e⟩ := List.getElem_of_mem hp
    rw [List.getElem_take] at e
    rw [List.length_take] at hj
    have := (posS_spec (k := x) h (h := j) ma1).2 ma1
    rw [List.getD_eq_getElem?_getD, List.getElem?_eq_getElem ma1, Option.getD_some, e] at this; exact this
  unfold putS SrtS
  rw [List.pairwise_append]
  refine ⟨h.sublist (List.take_sublist _ _), List.pairwise_cons.2 ⟨hge, h.sublist (List.drop_sublist _ _)⟩, fun a ha b hb => ?_⟩
  rcases List.mem_cons.1 hb with rfl | hb
  · exact hlt a ha
  · exact (hlt a ha).trans (hge b hb)
structure OkS (xs : List (Int × Int)) : Prop where
  srt : SrtS xs
  nd : (keysS xs).Nodup
theorem OkS.nil : OkS [] := ⟨List.Pairwise.nil, List.nodup_nil⟩
theorem OkS.cut {xs : List (Int × Int)} (h : OkS xs) (k : Int) : OkS (cutS xs k) := ⟨cutS_srt h.srt k, h.nd.sublist ((cutS_sub xs k).map _)⟩
theorem OkS.set {xs : List (Int × Int)} (h : OkS xs) (k a : Int) : OkS (setS xs k a) := by
  have hk : ∀ p ∈ cutS xs k, p.2 ≠ k := fun p hp => ((mem_cutS h.nd).1 hp).2
  refine ⟨putS_srt (h.cut k).srt hk, ?_⟩
  have hp := ((putS_perm (cutS xs k) (a, k)).map Prod.snd).nodup_iff.2
  refine hp ?_
  rw [List.map_cons]
  refine List.nodup_cons.2 ⟨fun hm => ?_, (h.cut k).nd⟩
  obtain ⟨p, hp, e⟩ := List.mem_map.1 hm
  exact hk p hp e
theorem OkS.drop {xs : List (Int × Int)} (h : OkS xs) (n : Nat) : OkS (xs.drop n) := ⟨h.srt.sublist (List.drop_sublist _ _), h.nd.sublist ((List.drop_sublist _ _).map _)⟩
theorem mem_setS {xs : List (Int × Int)} (h : OkS xs) {k a : Int} {p : Int × Int} : p ∈ setS xs k a ↔ p = (a, k) ∨ p ∈ xs ∧ p.2 ≠ k := by
  unfold setS; rw [mem_putS, mem_cutS h.nd]
theorem nanu_c (x : Int) (w : World) : Calls Tryz.prog 68 #[iV .u64 x] w (Ret w (.bool false)) := by
 refine calls_W (M := []) (LL := []) (n := 6) Tryz.func68 rfl rfl ma6 (Mem.refl _) (W.seq (fun K1 hK1 => ?_))
 refine W.region (Wl.run 1 ma0 (Wl.nil (hK1 _ _ _ (W.seq (fun K2 hK2 => ?_)))))
 refine W.region (Wl.run 4 ma0 (Wl.nil (hK2 _ _ _ (W.prune' [2] [bV (x != x)] ma0 (fun f3 => ?_)))))
 refine W.ret ?_
 show ∀ w_, _ → bodyPostM (fence none) 0 Tryz.prog Tryz.f68 _ Exit.ret _ w_
 exact fun w_ hS_ => fin_ret (ret1 rfl (RV.tmp (v := bV (x != x)) ma0) hS_ ⟨by clear hK1 hK2; refine congrArg Ending.returned ?_; exact bool_congr ma6, hS_.below⟩)
theorem cmpu_c (a b : Int) (w : World) : Calls Tryz.prog 35 #[iV .u64 a, iV .u64 b] w (Ret w (.int .i64 (cmpI a b))) := by
 refine calls_W (M := []) (LL := []) (n := 20) Tryz.func35 rfl rfl ma6 (Mem.refl _) (W.seq (fun K1 hK1 => ?_))
 refine W.region (Wl.run 1 ma0 (Wl.nil (hK1 _ _ _ (W.seq (fun K2 hK2 => ?_)))))
 refine W.region (Wl.run 1 ma0 (Wl.yc (v := bV false) rfl rfl (Yc.call (fun _ => kr) (fun w_ hm_ => (nanu_c a _))) (Wl.run 1 ma0 (Wl.nil ?_))))
 refine hK2 _ _ _ (W.prune' [0, 1, 5] [iV .u64 a, iV .u64 b, bV false] ma0 (fun f3 => ?_))
 refine W.seq (fun K4 hK4 => W.region (Wl.run 1 ma0 (Wl.yc (v := bV false) rfl rfl (Yc.call (fun _ => kr) (fun w_ hm_ => (nanu_c b _))) (Wl.run 1 ma0 ?_))))
 refine Wl.nil (hK4 _ _ _ (W.prune' [0, 1, 5, 6] [iV .u64 a, iV .u64 b, bV false, bV false] ma0 (fun f5 => W.seq (fun K6 hK6 => W.seq (fun K7 hK7 => ?_)))))
 refine W.region (Wl.run 1 ma0 (Wl.nil (hK7 _ _ _ (W.condF ma0 ?_))))
 refine W.skip' (hK6 _ _ _ (W.prune' [0, 1, 6] [iV .u64 a, iV .u64 b, bV false] ma0 (fun f8 => W.seq (fun K9 hK9 => W.seq (fun K10 hK10 => ?_)))))
 refine W.region (Wl.run 1 ma0 (Wl.nil (hK10 _ _ _ (W.condF ma0 ?_))))
 refine W.skip' (hK9 _ _ _ (W.prune' [0, 1] [iV .u64 a, iV .u64 b] ma0 (fun f11 => W.seq (fun K12 hK12 => W.seq (fun K13 hK13 => ?_)))))
 refine W.region (Wl.run 3 ma0 (Wl.nil (hK13 _ _ _ (W.prune' [0, 1, 16] [iV .u64 a, iV .u64 b, bV (decide (a < b))] ma0 (fun f14 => ?_)))))
 refine W.cond (decide (a < b)) ma0 (fun h15 => ?_) (fun h16 => ?_)
 ·have qh15 := h15; try simp only [zA] at qh15
  refine W.seq (fun K17 hK17 => W.region (Wl.run 1 ma0 (Wl.nil (hK17 _ _ _ ?_))))
  refine W.ret ?_
  show ∀ w_, _ → bodyPostM (fence none) 0 Tryz.prog Tryz.f35 _ Exit.ret _ w_
  exact fun w_ hS_ => fin_ret (ret1 rfl (RV.tmp (v := iV .i64 (-1)) ma0) hS_ ⟨by clear hK1 hK2 hK4 hK6 hK7 hK9 hK10 hK12 hK13 hK17; refine congrArg Ending.returned ?_; simp only [cmpI, h15, cond_true, cond_false]; try rfl, hS_.below⟩)
 ·have qh16 := h16; try simp only [zA] at qh16
  refine W.skip' (hK12 _ _ _ (W.prune' [0, 1] [iV .u64 a, iV .u64 b] ma0 (fun f18 => W.seq (fun K19 hK19 => W.seq (fun K20 hK20 => ?_)))))
  refine W.region (Wl.run 3 ma0 (Wl.nil (hK20 _ _ _ (W.prune' [19] [bV (decide (a > b))] ma0 (fun f21 => ?_)))))
  refine W.cond (decide (a > b)) ma0 (fun h22 => ?_) (fun h23 => ?_)
  ·have qh22 := h22; try simp only [zA] at qh22
   refine W.seq (fun K24 hK24 => W.region (Wl.run 1 ma0 (Wl.nil (hK24 _ _ _ ?_))))
   refine W.ret ?_
   show ∀ w_, _ → bodyPostM (fence none) 0 Tryz.prog Tryz.f35 _ Exit.ret _ w_
   exact fun w_ hS_ => fin_ret (ret1 rfl (RV.tmp (v := iV .i64 1) ma0) hS_ ⟨by clear hK1 hK2 hK4 hK6 hK7 hK9 hK10 hK12 hK13 hK19 hK20 hK24; refine congrArg Ending.returned ?_; simp only [cmpI, h16, h22, cond_true, cond_false]; try rfl, hS_.below⟩)
  ·have qh23 := h23; try simp only [zA] at qh23
   refine W.skip' (hK19 _ _ _ (W.prune' [] [] ma0 (fun f25 => W.seq (fun K26 hK26 => W.region ?_))))
   refine Wl.run 1 ma0 (Wl.nil (hK26 _ _ _ (W.ret ?_)))
   show ∀ w_, _ → bodyPostM (fence none) 0 Tryz.prog Tryz.f35 _ Exit.ret _ w_
   exact fun w_ hS_ => fin_ret (ret1 rfl (RV.tmp (v := iV .i64 0) ma0) hS_ ⟨by clear hK1 hK2 hK4 hK6 hK7 hK9 hK10 hK12 hK13 hK19 hK20 hK26; refine congrArg Ending.returned ?_; simp only [cmpI, h16, h23, cond_true, cond_false]; try rfl, hS_.below⟩)
theorem or2_c (x y : Int) (a : Option Addr) (cap : Nat) (w : World) (hat : At w a [.int .i64 x, .int .i64 y]) : Calls Tryz.prog 64 #[Value.slice a 2 cap] w (Ret w (.int .i64 (or2 x y))) := by
 refine calls_W (M := []) (LL := []) (n := 18) Tryz.func64 rfl rfl ma6 (Mem.refl _) (W.seq (fun K1 hK1 => ?_))
 refine W.region (Wl.run 1 ma0 (Wl.nil (hK1 _ _ _ (W.seq (fun K2 hK2 => ?_)))))
 refine W.region (Wl.run 1 ma0 (Wl.nil (hK2 _ _ _ (W.seq (fun K3 hK3 => ?_)))))
 refine W.seq (fun K4 hK4 => W.region (Wl.run 3 ma0 (Wl.nil (hK4 _ _ _ ?_))))
 refine W.prune' [3, 6, 7, 8] [iV .i64 0, Value.slice a 2 cap, iV .i64 2, iV .i64 0] ma0 (fun f5 => W.block (W.rounds 3 (Wr.step (fun J6 hJ6 => W.seq (fun K7 hK7 => ?_)))))
 refine W.region (Wl.run 1 ma0 (Wl.nil (hK7 _ _ _ (W.seq (fun K8 hK8 => ?_)))))
 refine W.condT ma0 (W.skip' (hK8 _ _ _ (W.prune' [3, 6, 7, 8] [iV .i64 0, Value.slice a 2 cap, iV .i64 2, iV .i64 0] ma0 (fun f9 => W.seq (fun K10 hK10 => ?_)))))
 refine W.block (W.seq (fun K11 hK11 => ?_))
 refine W.region (Wl.ys (v := Value.pointer (some (ela a 0))) rfl rfl (Ys.byMem fun w_ h_ => Ys.indexAddr (k := .i64) (a := a) (len := 2) (cap := cap) (i := 0) (sz := 1) rfl ma0 ma0 Tryz.runUnderlying224 Tryz.sizeOf3 ma2 ma2 ((hat.mem0 h_).here ma23)) (Wl.ys rfl rfl (Ys.ld (a := ela a 0) rfl ma0 Tryz.isAgg3 (fun w_ h_ => (hat.mem0 h_).ld (v := iV .i64 x) rfl)) (Wl.run 1 ma0 (Wl.nil ?_))))
 refine hK11 _ _ _ (W.prune' [3, 5, 6, 7, 8] [iV .i64 0, iV .i64 x, Value.slice a 2 cap, iV .i64 2, iV .i64 0] ma0 (fun f12 => ?_))
 refine W.seq (fun K13 hK13 => W.region (Wl.run 3 ma0 (Wl.nil (hK13 _ _ _ ?_))))
 refine W.prune' [3, 5, 6, 7, 8, 14] [iV .i64 0, iV .i64 x, Value.slice a 2 cap, iV .i64 2, iV .i64 0, bV (x != 0)] ma0 (fun f14 => ?_)
 refine W.cond (x != 0) ma0 (fun h15 => ?_) (fun h16 => ?_)
 ·have qh15 := h15; try simp only [zA] at qh15
  refine W.seq (fun K17 hK17 => W.region (Wl.run 2 ma0 (Wl.nil (hK17 _ _ _ ?_))))
  refine W.prune' [2] [iV .i64 x] ma0 (fun f18 => W.ret ?_)
  show ∀ w_, _ → bodyPostM (fence none) 0 Tryz.prog Tryz.f64 _ Exit.ret _ w_
  exact fun w_ hS_ => fin_ret (ret1 rfl (RV.tmp (v := iV .i64 x) ma0) hS_ ⟨by clear hK1 hK2 hK3 hK4 hJ6 hK7 hK8 hK10 hK11 hK13 hK17; refine congrArg Ending.returned ?_; simp only [or2, h15, cond_true, cond_false]; try rfl, hS_.below⟩)
 ·have qh16 := h16; try simp only [zA] at qh16
  refine W.skip' (hK10 _ _ _ (W.prune' [3, 6, 7, 8] [iV .i64 0, Value.slice a 2 cap, iV .i64 2, iV .i64 0] ma0 (fun f19 => W.region (Wl.run 2 ma0 ?_))))
  refine Wl.nil (hJ6 _ _ _ (Wr.step (fun J20 hJ20 => W.prune' [3, 6, 7, 8] [iV .i64 0, Value.slice a 2 cap, iV .i64 2, iV .i64 1] ma0 (fun f21 => W.seq (fun K22 hK22 => ?_)))))
  refine W.region (Wl.run 1 ma0 (Wl.nil (hK22 _ _ _ (W.seq (fun K23 hK23 => ?_)))))
  refine W.condT ma0 (W.skip' (hK23 _ _ _ (W.prune' [3, 6, 7, 8] [iV .i64 0, Value.slice a 2 cap, iV .i64 2, iV .i64 1] ma0 (fun f24 => W.seq (fun K25 hK25 => ?_)))))
  refine W.block (W.seq (fun K26 hK26 => ?_))
  refine W.region (Wl.ys (v := Value.pointer (some (ela a 1))) rfl rfl (Ys.byMem fun w_ h_ => Ys.indexAddr (k := .i64) (a := a) (len := 2) (cap := cap) (i := 1) (sz := 1) rfl ma0 ma0 Tryz.runUnderlying224 Tryz.sizeOf3 ma2 ma2 ((hat.mem0 h_).here ma23)) (Wl.ys rfl rfl (Ys.ld (a := ela a 1) rfl ma0 Tryz.isAgg3 (fun w_ h_ => (hat.mem0 h_).ld (v := iV .i64 y) rfl)) (Wl.run 1 ma0 (Wl.nil ?_))))
  refine hK26 _ _ _ (W.prune' [3, 5, 6, 7, 8] [iV .i64 0, iV .i64 y, Value.slice a 2 cap, iV .i64 2, iV .i64 1] ma0 (fun f27 => ?_))
  refine W.seq (fun K28 hK28 => W.region (Wl.run 3 ma0 (Wl.nil (hK28 _ _ _ ?_))))
  refine W.prune' [3, 5, 6, 7, 8, 14] [iV .i64 0, iV .i64 y, Value.slice a 2 cap, iV .i64 2, iV .i64 1, bV (y != 0)] ma0 (fun f29 => ?_)
  refine W.cond (y != 0) ma0 (fun h30 => ?_) (fun h31 => ?_)
  ·have qh30 := h30; try simp only [zA] at qh30
   refine W.seq (fun K32 hK32 => W.region (Wl.run 2 ma0 (Wl.nil (hK32 _ _ _ ?_))))
   refine W.prune' [2] [iV .i64 y] ma0 (fun f33 => W.ret ?_)
   show ∀ w_, _ → bodyPostM (fence none) 0 Tryz.prog Tryz.f64 _ Exit.ret _ w_
   exact fun w_ hS_ => fin_ret (ret1 rfl (RV.tmp (v := iV .i64 y) ma0) hS_ ⟨by clear hK1 hK2 hK3 hK4 hJ6 hK7 hK8 hK10 hK11 hK13 hJ20 hK22 hK23 hK25 hK26 hK28 hK32; refine congrArg Ending.returned ?_; simp only [or2, h16, h30, cond_true, cond_false]; try rfl, hS_.below⟩)
  ·have qh31 := h31; try simp only [zA] at qh31
   refine W.skip' (hK25 _ _ _ (W.prune' [3, 6, 7, 8] [iV .i64 0, Value.slice a 2 cap, iV .i64 2, iV .i64 1] ma0 (fun f34 => W.region (Wl.run 2 ma0 ?_))))
   refine Wl.nil (hJ20 _ _ _ (Wr.step (fun J35 hJ35 => W.prune' [3, 6, 7, 8] [iV .i64 0, Value.slice a 2 cap, iV .i64 2, iV .i64 2] ma0 (fun f36 => W.seq (fun K37 hK37 => ?_)))))
   refine W.region (Wl.run 1 ma0 (Wl.nil (hK37 _ _ _ (W.seq (fun K38 hK38 => ?_)))))
   refine W.condF ma0 (W.exit (hK3 _ _ _ (W.prune' [3] zl9 ma0 (fun f39 => W.seq (fun K40 hK40 => ?_)))))
   refine W.region (Wl.run 2 ma0 (Wl.nil (hK40 _ _ _ (W.prune' [2] zl9 ma0 (fun f41 => ?_)))))
   refine W.ret ?_
   show ∀ w_, _ → bodyPostM (fence none) 0 Tryz.prog Tryz.f64 _ Exit.ret _ w_
   exact fun w_ hS_ => fin_ret (ret1 rfl (RV.tmp (v := iV .i64 0) ma0) hS_ ⟨by clear hK1 hK2 hK3 hK4 hJ6 hK7 hK8 hK10 hK11 hK13 hJ20 hK22 hK23 hK25 hK26 hK28 hJ35 hK37 hK38 hK40; refine congrArg Ending.returned ?_; simp only [or2, h16, h31, cond_true, cond_false]; try rfl, hS_.below⟩)
theorem ordS_c (a k b l : Int) (w : World) : Calls Tryz.prog 142 #[aV [iV .u64 a, iV .u64 k], aV [iV .u64 b, iV .u64 l]] w (Ret w (.int .i64 (ordS (a, k) (b, l)))) := by
 refine calls_W (M := []) (LL := []) (n := 17) Tryz.func142 rfl rfl ma6 (Mem.refl _) (W.seq (fun K1 hK1 => ?_))
 refine W.region (Wl.ht rfl (Ht.box (v := aV [iV .u64 a, iV .u64 k]) (cs := [iV .u64 a, iV .u64 k]) rfl rfl ma0 rfl) (fun p2 => ?_))
 refine Wl.ht rfl (Ht.box (v := aV [iV .u64 b, iV .u64 l]) (cs := [iV .u64 b, iV .u64 l]) rfl rfl ma0 rfl) (fun p3 => Wl.run 1 ma0 (Wl.nil (hK1 _ _ _ (W.prune' [2, 3] [pV p2 0, pV p3 0] ma0 (fun f2 => ?_)))))
 refine W.seq (fun K3 hK3 => W.draws [(0, true), (1, true), (2, true), (3, true), (5, true), (6, true), (7, true), (8, true), (4, false), (9, false), (10, false), (11, false), (12, false)] [0, 1, 2, 3, 5, 6, 7, 8] (Mem w [] [[cb p3 [iV .u64 b, iV .u64 l] 219], [cb p2 [iV .u64 a, iV .u64 k] 219]]) ma0 ma0 ma0 rfl ma0 (fun _ _ h_ => h_.drawn _) (fun _ h_ => h_) (Wd.run 1 ma0 (Wd.ys rfl rfl rfl (Ys.l1 p2 0 1 0 Tryz.isAgg45) (Wd.run 1 ma0 ?_))))
 refine Wd.ys rfl rfl rfl (Ys.l1 p3 0 0 0 Tryz.isAgg45) (Wd.run 1 ma0 (Wd.ys rfl rfl rfl (Ys.l1 p2 1 1 0 Tryz.isAgg45) (Wd.run 1 ma0 (Wd.ys rfl rfl rfl (Ys.l1 p3 1 0 0 Tryz.isAgg45) ?_))))
 refine Wd.yc (v := iV .i64 (cmpI a b)) rfl rfl rfl (Yc.call (fun _ => kr) (fun w_ hm_ => (cmpu_c a b _))) (.inr fun _ h_ => h_) (Wd.yc (v := iV .i64 (cmpI k l)) rfl rfl rfl (Yc.call (fun _ => kr) (fun w_ hm_ => (cmpu_c k l _))) (.inr fun _ h_ => h_) (Wd.ht rfl rfl (Ht.made (mk := fun b_ => .slice (some ⟨b_, 0, none⟩) 2 2) (t := 3) (cs := [iV .i64 (cmpI a b), iV .i64 (cmpI k l)]) rfl (fun _ => kr)) (.inr fun _ _ h_ => h_.pick [1, 2] ma2 rfl) (fun p15 => Wd.yc (v := iV .i64 (or2 (cmpI a b) (cmpI k l))) rfl rfl rfl (Yc.call (fun _ => kr) (fun w_ hm_ => (or2_c (cmpI a b) (cmpI k l) (some ⟨p15, 0, none⟩) 2 _ (At.lit0 (i := 0) (j := 0) (t := 3) (b := p15) hm_ rfl rfl)))) (.inr fun _ h_ => h_.pick [1, 2] ma2 rfl) (Wd.yc (v := iV .i64 (or2 (cmpI a b) (cmpI k l))) rfl rfl rfl (Ys.yc (Ys.pure (fun _ => kr))) (.inl ma0) ?_))))
 refine Wd.nil (hK3 _ _ _ (W.pick (LL' := []) [] ma2 rfl (W.prune' [4] [iV .i64 (or2 (cmpI a b) (cmpI k l))] ma0 (fun f4 => W.ret ?_))))
 show ∀ w_, _ → bodyPostM (fence none) 0 Tryz.prog Tryz.f142 _ Exit.ret _ w_
 exact fun w_ hS_ => fin_ret (ret1 rfl (RV.tmp (v := iV .i64 (or2 (cmpI a b) (cmpI k l))) ma0) hS_ ⟨rfl, hS_.below⟩)
theorem fd1_c (a l k : Int) (pk : Nat) (M : List Nat) (w : World) (hl : Mem w M [[cb pk [Value.int .u64 k] 45]] w) : Calls Tryz.prog 167 #[aV [iV .u64 a, iV .u64 l], pV pk 0] w (RetM w (fun _ : Unit => True) (fun _ => bV (l == k)) M (fun _ => [[cb pk [iV .u64 k] 45]])) := by
 refine calls_W (M := M) (LL := [[cb pk [iV .u64 k] 45]]) (n := 8) Tryz.func167 rfl rfl ma6 (hl) (W.seq (fun K1 hK1 => ?_))
 refine W.region (Wl.ht rfl (Ht.box (v := aV [iV .u64 a, iV .u64 l]) (cs := [iV .u64 a, iV .u64 l]) rfl rfl ma0 rfl) (fun p2 => ?_))
 refine Wl.run 1 ma0 (Wl.nil (hK1 _ _ _ (W.prune' [1, 2] [pV pk 0, pV p2 0] ma0 (fun f2 => W.seq (fun K3 hK3 => ?_)))))
 refine W.region (Wl.run 1 ma0 (Wl.ys rfl rfl (Ys.l1 p2 1 0 0 Tryz.isAgg45) (Wl.ys rfl rfl (Ys.l1 pk 0 1 0 Tryz.isAgg45) (Wl.run 2 ma0 ?_))))
 refine Wl.nil (hK3 _ _ _ (W.pick (LL' := [[cb pk [iV .u64 k] 45]]) [1] ma2 rfl (W.prune' [3] [bV (l == k)] ma0 (fun f4 => W.ret ?_))))
 show ∀ w_, _ → bodyPostM (fence none) 0 Tryz.prog Tryz.f167 _ Exit.ret _ w_
 exact fun w_ hS_ => fin_ret (ret1 rfl (RV.tmp (v := bV (l == k)) ma0) hS_ ⟨(), trivial, rfl, (hS_.pick [0] ma2 rfl)⟩)
theorem ixf_c (xs : List (Int × Int)) (k : Int) (g : FS) (pk : Nat) (M : List Nat) (w : World) (hl : Mem w M [g.seg 219 (mm spk xs), [cb pk [Value.int .u64 k] 45]] w) (ok : g.ok 2 xs.length) (hn : xs.length ≤ 100000) : Calls Tryz.prog 166 #[sV g xs.length, Value.func (.func 167) #[] #[pV pk 0]] w (RetM w (fun _ : Unit => True) (fun _ => iV .i64 (atR (keysS xs) k)) M (fun _ => [g.seg 219 (mm spk xs), [cb pk [iV .u64 k] 45]])) := by
 refine calls_W (M := M) (LL := [g.seg 219 (mm spk xs), [cb pk [iV .u64 k] 45]]) (n := 19) Tryz.func166 rfl rfl ma6 (hl) (W.seq (fun K1 hK1 => ?_))
 refine W.region (Wl.run 1 ma0 (Wl.nil (hK1 _ _ _ (W.seq (fun K2 hK2 => ?_)))))
 refine W.seq (fun K3 hK3 => W.region (Wl.run 3 ma0 (Wl.nil (hK3 _ _ _ ?_))))
 refine W.prune' [0, 1, 7, 8] [sV g xs.length, Value.func (.func 167) #[] #[pV pk 0], nV .i64 xs.length, iV .i64 0] ma0 (fun f4 => W.block (W.loop1 [0, 1, 7, 8] (fun (i : Nat) => [sV g xs.length, Value.func (.func 167) #[] #[pV pk 0], nV .i64 xs.length, nV .i64 i]) (fun (i : Nat) => i ≤ idx (keysS xs) k ∧ i ≤ xs.length) (fun (i : Nat) => [g.seg 219 (mm spk xs), [cb pk [iV .u64 k] 45]]) (fun (i : Nat) => xs.length - i) 0 ma0 ⟨(Nat.zero_le _), (Nat.zero_le _)⟩ (by rfl) (fun i f6 J5 hp7 hJ5 => ?_)))
 obtain ⟨hi, hin⟩ := hp7
 refine W.seq (fun K8 hK8 => W.region (Wl.run 1 ma0 (Wl.nil (hK8 _ _ _ ?_))))
 refine W.seq (fun K9 hK9 => ?_)
 refine W.cond (decide (((i : Nat) : Int) < (xs.length : Int))) ma0 (fun h10 => ?_) (fun h11 => ?_)
 ·have qh10 := h10; try simp only [zA] at qh10
  refine W.skip' (hK9 _ _ _ (W.prune' [0, 1, 7, 8] [sV g xs.length, Value.func (.func 167) #[] #[pV pk 0], nV .i64 xs.length, nV .i64 i] ma0 (fun f12 => W.seq (fun K13 hK13 => W.block ?_))))
  refine W.seq (fun K14 hK14 => W.region (Wl.run 2 ma0 (Wl.nil (hK14 _ _ _ ?_))))
  refine W.prune' [0, 1, 5, 7, 8] [sV g xs.length, Value.func (.func 167) #[] #[pV pk 0], nV .i64 i, nV .i64 xs.length, nV .i64 i] ma0 (fun f15 => W.seq (fun K16 hK16 => ?_))
  refine W.region (Wl.run 3 ma0 (Wl.ys (v := Value.pointer (some (ela g.a (i * 2)))) rfl rfl (Ys.indexAddr (k := .i64) (a := g.a) (len := xs.length) (cap := g.cap) (i := (i : Int)) (sz := 2) rfl ma0 ma0 Tryz.runUnderlying148 Tryz.sizeOf219 ma1 ma1 ma28) (Wl.ys (v := aV [iV .u64 ((xs.getD i (0, 0)).1), iV .u64 ((xs.getD i (0, 0)).2)]) rfl rfl (Ys.ldN (a := ela g.a (i * 2)) (vs := [iV .u64 ((xs.getD i (0, 0)).1), iV .u64 ((xs.getD i (0, 0)).2)]) rfl ma0 Tryz.isAgg219 Tryz.sizeOf219 rfl (fun w_ h_ => (FS.at (i := 0) (t := 219) h_ rfl (FS.nil_cs ok (mm_len spk_len _))).ldN (mm_get (g := spk) (sz := 2) (fun _ => rfl) (0, 0) (xs := xs) (k := i) ma1))) (Wl.yc (v := bV (((xs.getD i (0, 0)).2) == k)) rfl rfl (Yc.call (fun _ => kr) (fun w_ hm_ => (let z_ := Mem.local' (hm_.pick [1] ma2 rfl); ret_same z_ (fd1_c ((xs.getD i (0, 0)).1) ((xs.getD i (0, 0)).2) k pk _  w_ z_ )))) ?_))))
  refine Wl.nil (hK16 _ _ _ (W.prune' [0, 1, 5, 7, 8, 16] [sV g xs.length, Value.func (.func 167) #[] #[pV pk 0], nV .i64 i, nV .i64 xs.length, nV .i64 i, bV (((xs.getD i (0, 0)).2) == k)] ma0 (fun f17 => ?_)))
  refine W.cond (((xs.getD i (0, 0)).2) == k) ma0 (fun h18 => ?_) (fun h19 => ?_)
  ·have qh18 := h18; try simp only [zA] at qh18
   refine W.seq (fun K20 hK20 => W.region (Wl.run 2 ma0 (Wl.nil (hK20 _ _ _ ?_))))
   refine W.prune' [4] [nV .i64 i] ma0 (fun f21 => W.ret ?_)
   show ∀ w_, _ → bodyPostM (fence none) 0 Tryz.prog Tryz.f166 _ Exit.ret _ w_
   exact fun w_ hS_ => fin_ret (ret1 rfl (RV.tmp (v := nV .i64 i) ma0) hS_ ⟨(), trivial, congrArg Ending.returned ((by have z_ := (idx_spec hi (by rw [keysS_len]; omega)).1 ((keysS_get ma1).trans qh18); unfold atR; rw [decide_eq_true (by rw [keysS_len]; omega), z_]; rfl)), (hS_.pick [0, 1] ma2 rfl)⟩)
  ·have qh19 := h19; try simp only [zA] at qh19
   refine W.skip' (hK13 _ _ _ (W.prune' [0, 1, 7, 8] [sV g xs.length, Value.func (.func 167) #[] #[pV pk 0], nV .i64 xs.length, nV .i64 i] ma0 (fun f22 => W.region (Wl.ys (v := nV .i64 (i + 1)) rfl rfl ((Ys.pure (v := .int .i64 (iadd .i64 (i : Int) 1)) (fun _ => kr)).conseq (int_congr (iadd_eq ma1 ma1 ma1))) ?_))))
   refine Wl.run 1 ma0 (Wl.nil ?_)
   refine fun w_ h_ => hJ5 (i + 1) _ w_ ma1 ⟨(by have z_ := qh19; rw [← keysS_get ma1] at z_; have y_ := idx_spec hi (by rw [keysS_len]; omega); rcases Nat.lt_or_ge i (idx (keysS xs) k) with h_ | h_; exact h_; exact absurd (y_.2 ma1) z_), ma1⟩ ?_ h_
   kernel_rfl
 ·have qh11 := h11; try simp only [zA] at qh11
  refine W.exit (hK2 _ _ _ (W.prune' [] [] ma0 (fun f23 => W.seq (fun K24 hK24 => W.region ?_))))
  refine Wl.run 1 ma0 (Wl.nil (hK24 _ _ _ (W.ret ?_)))
  show ∀ w_, _ → bodyPostM (fence none) 0 Tryz.prog Tryz.f166 _ Exit.ret _ w_
  exact fun w_ hS_ => fin_ret (ret1 rfl (RV.tmp (v := iV .i64 (-1)) ma0) hS_ ⟨(), trivial, congrArg Ending.returned ((by unfold atR; rw [decide_eq_false (by have z_ := idx_le (keysS xs) k; rw [keysS_len] at z_ ⊢; omega)]; rfl)), (hS_.pick [0, 1] ma2 rfl)⟩)
theorem wfind_c (xs : List (Int × Int)) (g : FS) (wb : Nat) (M : List Nat) (k : Int) (w : World) (hl : Mem w M [g.seg 219 (mm spk xs), [cb wb [Value.slice g.a xs.length g.cap] 150]] w) (ok : g.ok 2 xs.length) (hn : xs.length ≤ 100000) : Calls Tryz.prog 126 #[pV wb 0, iV .u64 k] w (RetM w (fun _ : Unit => True) (fun _ => iV .i64 (atR (keysS xs) k)) M (fun _ => [g.seg 219 (mm spk xs), [cb wb [sV g xs.length] 150]])) := by
 refine calls_W (M := M) (LL := [g.seg 219 (mm spk xs), [cb wb [sV g xs.length] 150]]) (n := 11) Tryz.func126 rfl rfl ma6 (hl) (W.seq (fun K1 hK1 => ?_))
 refine W.region (Wl.ht rfl (Ht.box (v := iV .u64 k) (cs := [iV .u64 k]) rfl rfl ma0 rfl) (fun p3 => ?_))
 refine Wl.run 1 ma0 (Wl.nil (hK1 _ _ _ (W.prune' [0, 3] [pV wb 0, pV p3 0] ma0 (fun f2 => W.seq (fun K3 hK3 => ?_)))))
 refine W.region (Wl.run 3 ma0 (Wl.ys rfl rfl (Ys.l1 wb 0 2 0 Tryz.isAgg148) (Wl.run 1 ma0 (Wl.yc (v := iV .i64 (atR (keysS xs) k)) rfl rfl (Yc.call (fun _ => kr) (fun w_ hm_ => (let z_ := Mem.local' (hm_.pick [1, 0] ma2 rfl); ret_same z_ (ixf_c xs k g p3 _  w_ z_ ok ma1)))) ?_))))
 refine Wl.run 1 ma0 (Wl.nil (hK3 _ _ _ (W.pick (LL' := [g.seg 219 (mm spk xs), [cb wb [sV g xs.length] 150]]) [1, 2] ma2 rfl (W.prune' [4] [iV .i64 (atR (keysS xs) k)] ma0 (fun f4 => ?_)))))
 refine W.ret ?_
 show ∀ w_, _ → bodyPostM (fence none) 0 Tryz.prog Tryz.f126 _ Exit.ret _ w_
 exact fun w_ hS_ => fin_ret (ret1 rfl (RV.tmp (v := iV .i64 (atR (keysS xs) k)) ma0) hS_ ⟨(), trivial, rfl, (hS_.pick [0, 1] ma2 rfl)⟩)
theorem bsw_c (xs : List (Int × Int)) (x : Int × Int) (g : FS) (M : List Nat) (w : World) (hl : Mem w M [g.seg 219 (mm spk xs)] w) (ok : g.ok 2 xs.length) (hn : xs.length ≤ 100000) (hs : SrtS xs) : Calls Tryz.prog 141 #[sV g xs.length, aV [iV .u64 x.1, iV .u64 x.2], Value.func (.func 142) #[] #[]] w (RetM w (fun _ : Unit => True) (fun _ => Value.tuple #[nV .i64 (posS xs x), bV ((decide (((posS xs x : Nat) : Int) < (xs.length : Int))) && ((ordS (xs.getD (posS xs x) (0, 0)) x) == 0))]) M (fun _ => [g.seg 219 (mm spk xs)])) := by
 refine calls_W (M := M) (LL := [g.seg 219 (mm spk xs)]) (n := 49) Tryz.func141 rfl rfl ma6 (hl) (W.seq (fun K1 hK1 => ?_))
 refine W.region (Wl.ht rfl (Ht.box (v := aV [iV .u64 x.1, iV .u64 x.2]) (cs := [iV .u64 x.1, iV .u64 x.2]) rfl rfl ma0 rfl) (fun p4 => ?_))
 refine Wl.run 2 ma0 (Wl.nil (hK1 _ _ _ (W.prune' [0, 2, 4] [sV g xs.length, Value.func (.func 142) #[] #[], pV p4 0] ma0 (fun f2 => W.seq (fun K3 hK3 => ?_)))))
 refine W.region (Wl.run 3 ma0 (Wl.nil (hK3 _ _ _ (W.prune' [0, 2, 4, 8] [sV g xs.length, Value.func (.func 142) #[] #[], pV p4 0, nV .i64 xs.length] ma0 (fun f4 => ?_)))))
 refine W.seq (fun K5 hK5 => W.region (Wl.run 3 ma0 (Wl.nil (hK5 _ _ _ ?_))))
 refine W.prune' [0, 2, 4, 8, 9, 10] [sV g xs.length, Value.func (.func 142) #[] #[], pV p4 0, nV .i64 xs.length, iV .i64 0, nV .i64 xs.length] ma0 (fun f6 => W.seq (fun K7 hK7 => ?_))
 refine W.block (W.loop2 [0, 2, 4, 8, 9, 10] (fun (i : Nat) (j : Nat) => [sV g xs.length, Value.func (.func 142) #[] #[], pV p4 0, nV .i64 xs.length, nV .i64 i, nV .i64 j]) (fun (i : Nat) (j : Nat) => i ≤ posS xs x ∧ posS xs x ≤ j ∧ j ≤ xs.length) (fun (i : Nat) (j : Nat) => [[cb p4 [iV .u64 x.1, iV .u64 x.2] 219], g.seg 219 (mm spk xs)]) (fun (i : Nat) (j : Nat) => j - i) 0 xs.length ma0 ⟨(Nat.zero_le _), (posS_le _ _), (Nat.le_refl _)⟩ (by rfl) (fun i j f9 J8 hp10 hJ8 => ?_))
 obtain ⟨hi, hj, hjn⟩ := hp10
 refine W.seq (fun K11 hK11 => W.seq (fun K12 hK12 => ?_))
 refine W.region (Wl.run 3 ma0 (Wl.nil (hK12 _ _ _ (W.prune' [0, 2, 4, 8, 9, 10, 17] [sV g xs.length, Value.func (.func 142) #[] #[], pV p4 0, nV .i64 xs.length, nV .i64 i, nV .i64 j, bV (decide (((i : Nat) : Int) < (j : Int)))] ma0 (fun f13 => ?_)))))
 refine W.cond (decide (((i : Nat) : Int) < (j : Int))) ma0 (fun h14 => ?_) (fun h15 => ?_)
 ·have qh14 := h14; try simp only [zA] at qh14
  refine W.skip' (hK11 _ _ _ (W.prune' [0, 2, 4, 8, 9, 10] [sV g xs.length, Value.func (.func 142) #[] #[], pV p4 0, nV .i64 xs.length, nV .i64 i, nV .i64 j] ma0 (fun f16 => W.block (W.seq (fun K17 hK17 => ?_)))))
  refine W.region (Wl.run 2 ma0 (Wl.ys (v := nV .i64 (i + j)) rfl rfl ((Ys.pure (v := .int .i64 (iadd .i64 (i : Int) (j : Int))) (fun _ => kr)).conseq (int_congr (iadd_eq ma1 ma1 ma1))) (Wl.ys (v := nV .u64 (i + j)) rfl rfl ((Ys.pure (v := .int .u64 (icnv .u64 ((i + j : Nat) : Int))) (fun _ => kr)).conseq (int_congr (wrap_u64 ma1 ma1))) (Wl.ys (v := nV .u64 ((i + j) / 2)) rfl rfl ((Ys.pure (v := .int .u64 (ishr .u64 ((i + j : Nat) : Int) ((1 : Nat) : Int))) (fun _ => kr)).conseq (int_congr (ishr_nat (i + j) 1 ma2))) ?_))))
  refine Wl.ys (v := nV .i64 ((i + j) / 2)) rfl rfl ((Ys.pure (v := .int .i64 (icnv .i64 (((i + j) / 2 : Nat) : Int))) (fun _ => kr)).conseq (int_congr (wrap_i64 ma1 ma1))) (Wl.run 1 ma0 (Wl.nil (hK17 _ _ _ (W.prune' [0, 2, 4, 8, 9, 10, 11] [sV g xs.length, Value.func (.func 142) #[] #[], pV p4 0, nV .i64 xs.length, nV .i64 i, nV .i64 j, nV .i64 ((i + j) / 2)] ma0 (fun f18 => ?_)))))
  refine W.seq (fun K19 hK19 => W.draws [(0, true), (1, true), (2, true), (3, true), (4, true), (5, false), (6, false), (7, false)] [0, 1, 2, 3, 4] (Mem w M [[cb p4 [iV .u64 x.1, iV .u64 x.2] 219], g.seg 219 (mm spk xs)]) ma0 ma0 ma0 rfl ma0 (fun _ _ h_ => h_.drawn _) (fun _ h_ => h_) (Wd.run 3 ma0 (Wd.ys (v := Value.pointer (some (ela g.a (((i + j) / 2) * 2)))) rfl rfl rfl (Ys.indexAddr (k := .i64) (a := g.a) (len := xs.length) (cap := g.cap) (i := (((i + j) / 2 : Nat) : Int)) (sz := 2) rfl ma0 ma0 Tryz.runUnderlying148 Tryz.sizeOf219 ma1 ma1 ma28) (Wd.ys (v := aV [iV .u64 ((xs.getD ((i + j) / 2) (0, 0)).1), iV .u64 ((xs.getD ((i + j) / 2) (0, 0)).2)]) rfl rfl rfl (Ys.ldN (a := ela g.a (((i + j) / 2) * 2)) (vs := [iV .u64 ((xs.getD ((i + j) / 2) (0, 0)).1), iV .u64 ((xs.getD ((i + j) / 2) (0, 0)).2)]) rfl ma0 Tryz.isAgg219 Tryz.sizeOf219 rfl (fun w_ h_ => (FS.at (i := 1) (t := 219) h_ rfl (FS.nil_cs ok (mm_len spk_len _))).ldN (mm_get (g := spk) (sz := 2) (fun _ => rfl) (0, 0) (xs := xs) (k := (i + j) / 2) ma1))) ?_))))
  refine Wd.yc (v := aV [iV .u64 x.1, iV .u64 x.2]) rfl rfl rfl (Ys.yc (Ys.loadN (b := p4) (o' := 0) (i := 0) (j := 0) (vs := [iV .u64 x.1, iV .u64 x.2]) rfl ma0 Tryz.isAgg219 Tryz.sizeOf219 rfl rfl rfl rfl)) (.inr fun _ h_ => h_) (Wd.yc (v := iV .i64 (ordS (xs.getD ((i + j) / 2) (0, 0)) x)) rfl rfl rfl (Yc.call (fun _ => kr) (fun w_ hm_ => (ordS_c ((xs.getD ((i + j) / 2) (0, 0)).1) ((xs.getD ((i + j) / 2) (0, 0)).2) x.1 x.2 _))) (.inr fun _ h_ => h_) (Wd.yc (v := bV (decide ((ordS (xs.getD ((i + j) / 2) (0, 0)) x) < 0))) rfl rfl rfl (Ys.yc (Ys.pure (fun _ => kr))) (.inr fun _ h_ => h_) (Wd.nil (hK19 _ _ _ ?_))))
  refine W.prune' [0, 2, 4, 8, 9, 10, 11, 31] [sV g xs.length, Value.func (.func 142) #[] #[], pV p4 0, nV .i64 xs.length, nV .i64 i, nV .i64 j, nV .i64 ((i + j) / 2), bV (decide ((ordS (xs.getD ((i + j) / 2) (0, 0)) x) < 0))] ma0 (fun f20 => ?_)
  refine W.cond (decide ((ordS (xs.getD ((i + j) / 2) (0, 0)) x) < 0)) ma0 (fun h21 => ?_) (fun h22 => ?_)
  ·have qh21 := h21; try simp only [zA] at qh21
   refine W.region (Wl.run 1 ma0 (Wl.ys (v := nV .i64 (((i + j) / 2) + 1)) rfl rfl ((Ys.pure (v := .int .i64 (iadd .i64 (((i + j) / 2 : Nat) : Int) 1)) (fun _ => kr)).conseq (int_congr (iadd_eq ma1 ma1 ma1))) (Wl.run 1 ma0 (Wl.nil ?_))))
   have hps_ := posS_spec (k := x) hs (h := (i + j) / 2) ma1
   have hpl_ := hps_.1 (ordS_lt.1 qh21)
   refine fun w_ h_ => hJ8 ((i + j) / 2 + 1) j _ w_ ma1 ⟨ma1, ma1, ma1⟩ ?_ h_
   kernel_rfl
  ·have qh22 := h22; try simp only [zA] at qh22
   refine W.region (Wl.run 2 ma0 (Wl.nil ?_))
   have hps_ := posS_spec (k := x) hs (h := (i + j) / 2) ma1
   have hpl_ : ¬ ((i + j) / 2 < posS xs x) := fun h_ => qh22 (ordS_lt.2 (hps_.2 h_))
   refine fun w_ h_ => hJ8 i ((i + j) / 2) _ w_ ma1 ⟨ma1, ma1, ma1⟩ ?_ h_
   kernel_rfl
 ·have qh15 := h15; try simp only [zA] at qh15
  refine W.exit (hK7 _ _ _ (W.prune' [0, 2, 4, 8, 9] [sV g xs.length, Value.func (.func 142) #[] #[], pV p4 0, nV .i64 xs.length, nV .i64 i] ma0 (fun f23 => W.seq (fun K24 hK24 => W.draws [(0, true), (1, true), (2, false), (3, false), (4, false), (5, true), (6, true), (7, true), (8, true), (9, true), (10, false), (11, false), (12, true), (13, true), (14, false), (15, false)] [0, 1, 5, 6, 7, 8, 9, 12, 13] (Mem w M [[cb p4 [iV .u64 x.1, iV .u64 x.2] 219], g.seg 219 (mm spk xs)]) ma0 ma0 ma0 rfl ma0 (fun _ _ h_ => h_.drawn _) (fun _ h_ => h_) ?_))))
  refine Wd.run 2 ma0 (Wd.yc (v := nV .i64 xs.length) rfl rfl rfl (Ys.yc (Ys.pure (fun _ => kr))) (.inr fun _ h_ => h_) (Wd.yc (v := bV (decide (((i : Nat) : Int) < (xs.length : Int)))) rfl rfl rfl (Ys.yc (Ys.pure (fun _ => kr))) (.inr fun _ h_ => h_) (Wd.yc (v := bV (decide (((i : Nat) : Int) < (xs.length : Int)))) rfl rfl rfl (Ys.yc (Ys.pure (fun _ => kr))) (.inr fun _ h_ => h_) ?_)))
  refine Wd.guard (v := Value.func (.func 142) #[] #[]) (decide (((i : Nat) : Int) < (xs.length : Int))) rfl (wantT rfl ma0) rfl (fun hg25 => ?_) ?_
  ·exact Ys.pure (fun _ => kr)
  refine Wd.guard (v := sV g xs.length) (decide (((i : Nat) : Int) < (xs.length : Int))) rfl (wantT rfl ma0) rfl (fun hg26 => ?_) ?_
  ·exact Ys.pure (fun _ => kr)
  refine Wd.guard (v := nV .i64 i) (decide (((i : Nat) : Int) < (xs.length : Int))) rfl (wantT rfl ma0) rfl (fun hg27 => ?_) ?_
  ·exact Ys.pure (fun _ => kr)
  refine Wd.guard (v := Value.pointer (some (ela g.a (i * 2)))) (decide (((i : Nat) : Int) < (xs.length : Int))) rfl (wantT rfl ma0) rfl (fun hg28 => ?_) ?_
  ·have qhg28 := hg28; try simp only [zA] at qhg28
   refine Ys.at (t := 41) (v0 := sV g xs.length) (lz (g := decide (((i : Nat) : Int) < (xs.length : Int))) (u := undef) hg28 ma0) (Ys.at (t := 42) (v0 := nV .i64 i) (lz (g := decide (((i : Nat) : Int) < (xs.length : Int))) (u := undef) hg28 ma0) ?_)
   exact Ys.indexAddr (k := .i64) (a := g.a) (len := xs.length) (cap := g.cap) (i := (i : Int)) (sz := 2) rfl ma0 ma0 Tryz.runUnderlying148 Tryz.sizeOf219 ma1 ma1 ma28
  refine Wd.guard (v := aV [iV .u64 ((xs.getD i (0, 0)).1), iV .u64 ((xs.getD i (0, 0)).2)]) (decide (((i : Nat) : Int) < (xs.length : Int))) rfl (wantT rfl ma0) rfl (fun hg29 => ?_) ?_
  ·have qhg29 := hg29; try simp only [zA] at qhg29
   refine Ys.at (t := 43) (v0 := Value.pointer (some (ela g.a (i * 2)))) (lz (g := decide (((i : Nat) : Int) < (xs.length : Int))) (u := undef) hg29 ma0) ?_
   exact Ys.ldN (a := ela g.a (i * 2)) (vs := [iV .u64 ((xs.getD i (0, 0)).1), iV .u64 ((xs.getD i (0, 0)).2)]) rfl ma0 Tryz.isAgg219 Tryz.sizeOf219 rfl (fun w_ h_ => (FS.at (i := 1) (t := 219) h_ rfl (FS.nil_cs ok (mm_len spk_len _))).ldN (mm_get (g := spk) (sz := 2) (fun _ => rfl) (0, 0) (xs := xs) (k := i) ma1))
  refine Wd.guardc (v := aV [iV .u64 x.1, iV .u64 x.2]) (decide (((i : Nat) : Int) < (xs.length : Int))) rfl (wantT rfl ma0) rfl (fun hg30 => ?_) (.inr fun _ h_ => h_) ?_
  ·refine Ys.yc ?_
   exact Ys.loadN (b := p4) (o' := 0) (i := 0) (j := 0) (vs := [iV .u64 x.1, iV .u64 x.2]) rfl ma0 Tryz.isAgg219 Tryz.sizeOf219 rfl rfl rfl rfl
  refine Wd.guardc (v := iV .i64 (ordS (xs.getD i (0, 0)) x)) (decide (((i : Nat) : Int) < (xs.length : Int))) rfl (wantT rfl ma0) rfl (fun hg31 => ?_) (.inr fun _ h_ => h_) ?_
  ·have qhg31 := hg31; try simp only [zA] at qhg31
   refine Yc.at (t := 40) (v0 := Value.func (.func 142) #[] #[]) (lz (g := decide (((i : Nat) : Int) < (xs.length : Int))) (u := undef) hg31 ma0) (Yc.at (t := 44) (v0 := aV [iV .u64 ((xs.getD i (0, 0)).1), iV .u64 ((xs.getD i (0, 0)).2)]) (lz (g := decide (((i : Nat) : Int) < (xs.length : Int))) (u := undef) hg31 ma0) (Yc.at (t := 45) (v0 := aV [iV .u64 x.1, iV .u64 x.2]) (lz (g := decide (((i : Nat) : Int) < (xs.length : Int))) (u := undef) hg31 ma0) ?_))
   exact Yc.call (fun _ => kr) (fun w_ hm_ => (ordS_c ((xs.getD i (0, 0)).1) ((xs.getD i (0, 0)).2) x.1 x.2 _))
  refine Wd.guard (v := bV ((ordS (xs.getD i (0, 0)) x) == 0)) (decide (((i : Nat) : Int) < (xs.length : Int))) rfl (wantT rfl ma0) rfl (fun hg32 => ?_) ?_
  ·have qhg32 := hg32; try simp only [zA] at qhg32
   refine Ys.at (t := 46) (v0 := iV .i64 (ordS (xs.getD i (0, 0)) x)) (lz (g := decide (((i : Nat) : Int) < (xs.length : Int))) (u := undef) hg32 ma0) ?_
   exact Ys.pure (fun _ => kr)
  refine Wd.ys (v := bV ((decide (((i : Nat) : Int) < (xs.length : Int))) && ((ordS (xs.getD i (0, 0)) x) == 0))) rfl rfl rfl (Ys.and (e := decide (((i : Nat) : Int) < (xs.length : Int))) (b := (ordS (xs.getD i (0, 0)) x) == 0) rfl ma0 ma0 ma0) (Wd.yc (v := nV .i64 i) rfl rfl rfl (Ys.yc (Ys.pure (fun _ => kr))) (.inr fun _ h_ => h_) (Wd.yc (v := bV ((decide (((i : Nat) : Int) < (xs.length : Int))) && ((ordS (xs.getD i (0, 0)) x) == 0))) rfl rfl rfl (Ys.yc (Ys.pure (fun _ => kr))) (.inl ma0) (Wd.nil (hK24 _ _ _ ?_))))
  refine W.pick (LL' := [g.seg 219 (mm spk xs)]) [1] ma2 rfl (W.prune' [6, 7] [nV .i64 i, bV ((decide (((i : Nat) : Int) < (xs.length : Int))) && ((ordS (xs.getD i (0, 0)) x) == 0))] ma0 (fun f33 => ?_))
  refine W.ret ?_
  show ∀ w_, _ → bodyPostM (fence none) 0 Tryz.prog Tryz.f141 _ Exit.ret _ w_
  exact fun w_ hS_ => fin_ret (ret2 rfl (RV.tmp (v := nV .i64 i) ma0) (RV.tmp (v := bV ((decide (((i : Nat) : Int) < (xs.length : Int))) && ((ordS (xs.getD i (0, 0)) x) == 0))) ma0) hS_ ⟨(), trivial, congrArg Ending.returned ((by rw [show i = posS xs x by omega])), (hS_.pick [0] ma2 rfl)⟩)
theorem insw_c (g : FS) (xs X : List (Int × Int)) (x : Int × Int) (vb i : Nat) (M : List Nat) (w : World) (hX : xs.take i ++ x :: xs.drop i = X) (hl : Mem w M [g.seg 219 (mm spk xs), [cb vb (spk x) 219]] w) (ok : g.ok 2 xs.length) (hi : i ≤ xs.length) (hn : xs.length ≤ 100000) :
    Calls Tryz.prog 143 #[.slice g.a xs.length g.cap, .int .i64 (i : Int), .slice (some ⟨vb, 0, none⟩) 1 1] w (RetM w (fun g' : FS => g'.ok 2 X.length ∧ g'.nil = false) (fun g' => .slice g'.a X.length g'.cap) M (fun g' => [g'.seg 219 (mm spk X)])) := by
  subst hX
  have h := insS_c g (mm spk xs) (spk x) vb xs.length i M w hl ok (mm_len spk_len _) hi hn rfl (mm_one spk_one _) (spk_one _)
  have e : (mm spk xs).take (i * 2) ++ (spk x ++ (mm spk xs).drop (i * 2)) = mm spk (xs.take i ++ x :: xs.drop i) := by rw [mm_take spk_len, mm_drop spk_len, mm_app, mm_cons]
  have el : (xs.take i ++ x :: xs.drop i).length = xs.length + 1 := by simp; omega
  rw [e] at h; rw [el]; exact h
theorem delw_c (g : FS) (xs X : List (Int × Int)) (i : Nat) (a b : Int) (M : List Nat) (w : World) (ha : a = (i : Int)) (hb : b = ((i + 1 : Nat) : Int)) (hX : xs.take i ++ xs.drop (i + 1) = X) (hl : Mem w M [g.seg 219 (mm spk xs)] w) (ok : g.ok 2 xs.length) (hi : i < xs.length) (hn : xs.length ≤ 100000) :
    Calls Tryz.prog 113 #[.slice g.a xs.length g.cap, .int .i64 a, .int .i64 b] w (RetM w (fun g' : FS => g'.ok 2 X.length ∧ g'.nil = false) (fun g' => .slice g'.a X.length g'.cap) M (fun g' => [g'.seg 219 (mm spk X)])) := by
  subst hX; subst ha; subst hb
  have h := delS_c g (mm spk xs) xs.length i M w hl ok (mm_len spk_len _) hi hn (mm_one spk_one _)
  have e : (mm spk xs).take (i * 2) ++ (mm spk xs).drop ((i + 1) * 2) = mm spk (xs.take i ++ xs.drop (i + 1)) := by rw [mm_take spk_len, mm_drop spk_len, mm_app]
  have el : (xs.take i ++ xs.drop (i + 1)).length = xs.length - 1 := by simp; omega
  rw [e] at h; rw [el]; exact h
theorem wcut_c (xs : List (Int × Int)) (g : FS) (wb : Nat) (M : List Nat) (k : Int) (w : World) (hl : Mem w M [g.seg 219 (mm spk xs), [cb wb [Value.slice g.a xs.length g.cap] 150]] w) (ok : g.ok 2 xs.length) (hn : xs.length ≤ 100000) : Calls Tryz.prog 78 #[pV wb 0, iV .u64 k] w (RetM w (fun g' : FS => g'.ok 2 (cutS xs k).length) (fun _ => .bool (decide (atR (keysS xs) k ≥ 0))) M (fun g' => [g'.seg 219 (mm spk (cutS xs k)), [cb wb [.slice g'.a (cutS xs k).length g'.cap] 150]])) := by
 refine calls_W (M := M) (LL := [g.seg 219 (mm spk xs), [cb wb [sV g xs.length] 150]]) (n := 24) Tryz.func78 rfl rfl ma6 (hl) (W.seq (fun K1 hK1 => ?_))
 refine W.region (Wl.run 1 ma0 (Wl.nil (hK1 _ _ _ (W.seq (fun K2 hK2 => ?_)))))
 refine W.region (Wl.run 2 ma0 (Wl.yc (v := iV .i64 (atR (keysS xs) k)) rfl rfl (Yc.call (fun _ => kr) (fun w_ hm_ => (let z_ := Mem.local' (hm_.pick [0, 1] ma2 rfl); ret_same z_ (wfind_c xs g wb _ k w_ z_ ok ma1)))) (Wl.run 1 ma0 (Wl.nil ?_))))
 refine hK2 _ _ _ (W.prune' [0, 5] [pV wb 0, iV .i64 (atR (keysS xs) k)] ma0 (fun f3 => ?_))
 refine W.seq (fun K4 hK4 => W.seq (fun K5 hK5 => ?_))
 refine W.region (Wl.run 2 ma0 (Wl.nil (hK5 _ _ _ (W.prune' [0, 5, 10] [pV wb 0, iV .i64 (atR (keysS xs) k), bV (decide ((atR (keysS xs) k) ≥ 0))] ma0 (fun f6 => ?_)))))
 refine W.cond (decide ((atR (keysS xs) k) ≥ 0)) ma0 (fun h7 => ?_) (fun h8 => ?_)
 ·have qh7 := h7; try simp only [zA] at qh7
  have hat_ : atR (keysS xs) k = (idx (keysS xs) k : Int) ∧ idx (keysS xs) k < xs.length := ⟨(atR_pos ma1).2, keysS_len xs ▸ (atR_pos (ks := keysS xs) (k := k) ma1).1⟩
  refine W.region (Wl.run 4 ma0 (Wl.ys rfl rfl (Ys.l1 wb 0 1 0 Tryz.isAgg148) (Wl.run 2 ma0 (Wl.ys (v := iV .i64 ((atR (keysS xs) k) + 1)) rfl rfl ((Ys.pure (v := .int .i64 (iadd .i64 (atR (keysS xs) k) 1)) (fun _ => kr)).conseq (int_congr (iadd_eq ma1 ma1 ma1))) ?_))))
  obtain ⟨Z9, hZ10⟩ : ∃ Z, xs.take (idx (keysS xs) k) ++ xs.drop ((idx (keysS xs) k) + 1) = Z := ⟨_, rfl⟩
  refine Wl.htS rfl (HtS.call (β := FS) (k := 113) (args := #[sV g xs.length, iV .i64 (atR (keysS xs) k), iV .i64 ((atR (keysS xs) k) + 1)]) (Lin := [g.seg 219 (mm spk xs)]) (Lk := [[cb wb [sV g xs.length] 150]]) (Lo := fun g11 => [g11.seg 219 (mm spk Z9), [cb wb [sV g xs.length] 150]]) [0] [1] rfl (fun _ => kr) ma2 rfl rfl rfl (fun w_ hm_ hl_ => (delw_c g xs Z9 (idx (keysS xs) k) (atR (keysS xs) k) ((atR (keysS xs) k) + 1) _ _ hat_.1 (by rw [hat_.1]; omega) hZ10 hl_ ok ma1 ma1)) (fun _ => rfl)) (fun g11 hx15 => ?_)
  obtain ⟨ok12, nn13⟩ := hx15
  refine Wl.run 2 ma0 (Wl.ht rfl (Ht.store (b := wb) (o' := 0) (i := 1) (j := 0) (v := sV g11 Z9.length) (LL' := [g11.seg 219 (mm spk Z9), [cb wb [sV g11 Z9.length] 150]]) rfl rfl ma0 ma0 Tryz.sizeOf148 rfl rfl rfl ma6 rfl rfl) (fun _ => ?_))
  refine Wl.nil (hK4 _ _ _ (W.prune' [5] [iV .i64 (atR (keysS xs) k)] ma0 (fun f16 => W.seq (fun K17 hK17 => W.region ?_))))
  refine Wl.run 3 ma0 (Wl.nil (hK17 _ _ _ (W.prune' [4] [bV (decide ((atR (keysS xs) k) ≥ 0))] ma0 (fun f18 => W.ret ?_))))
  have hB : cutS xs k = Z9 := by unfold cutS; simp only [h7, cond_true, cond_false]; exact hZ10
  show ∀ w_, _ → bodyPostM (fence none) 0 Tryz.prog Tryz.f78 _ Exit.ret _ w_
  exact fun w_ hS_ => fin_ret (ret1 rfl (RV.tmp (v := bV (decide ((atR (keysS xs) k) ≥ 0))) ma0) hS_ ⟨g11, (by rw [hB]; exact ok12), rfl, (Mem.cast (by rw [hB]; rfl) (hS_.pick [0, 1] ma2 rfl))⟩)
 ·have qh8 := h8; try simp only [zA] at qh8
  refine W.skip' (hK4 _ _ _ (W.prune' [5] [iV .i64 (atR (keysS xs) k)] ma0 (fun f19 => W.seq (fun K20 hK20 => W.region ?_))))
  refine Wl.run 3 ma0 (Wl.nil (hK20 _ _ _ (W.prune' [4] [bV (decide ((atR (keysS xs) k) ≥ 0))] ma0 (fun f21 => W.ret ?_))))
  have hB : cutS xs k = xs := by unfold cutS; simp only [h8, cond_true, cond_false]
  show ∀ w_, _ → bodyPostM (fence none) 0 Tryz.prog Tryz.f78 _ Exit.ret _ w_
  exact fun w_ hS_ => fin_ret (ret1 rfl (RV.tmp (v := bV (decide ((atR (keysS xs) k) ≥ 0))) ma0) hS_ ⟨g, (by rw [hB]; exact ok), rfl, (Mem.cast (by rw [hB]; rfl) (hS_.pick [0, 1] ma2 rfl))⟩)
theorem wcutz_c (xs : List (Int × Int)) (g : FS) (wb : Nat) (M : List Nat) (k : Int) (X : List (Int × Int)) (w : World) (hX : cutS xs k = X) (hl : Mem w M [g.seg 219 (mm spk xs), [cb wb [Value.slice g.a xs.length g.cap] 150]] w) (ok : g.ok 2 xs.length) (hn : xs.length ≤ 100000) : Calls Tryz.prog 78 #[.pointer (some ⟨wb, 0, none⟩), .int .u64 k] w (RetM w (fun g' : FS => g'.ok 2 (X).length) (fun _ => .bool (decide (atR (keysS xs) k ≥ 0))) M (fun g' => [g'.seg 219 (mm spk (X)), [cb wb [.slice g'.a (X).length g'.cap] 150]])) := by
  subst hX; exact wcut_c xs g wb M k w hl ok hn
theorem wset_c (xs : List (Int × Int)) (g : FS) (wb : Nat) (M : List Nat) (k a : Int) (w : World) (hl : Mem w M [g.seg 219 (mm spk xs), [cb wb [Value.slice g.a xs.length g.cap] 150]] w) (ok : g.ok 2 xs.length) (hn : xs.length ≤ 100000) (hs : SrtS xs) : Calls Tryz.prog 91 #[pV wb 0, iV .u64 k, iV .u64 a] w (RetM w (fun g' : FS => g'.ok 2 (setS xs k a).length) (fun _ => .tuple #[]) M (fun g' => [g'.seg 219 (mm spk (setS xs k a)), [cb wb [.slice g'.a (setS xs k a).length g'.cap] 150]])) := by
 refine calls_W (M := M) (LL := [g.seg 219 (mm spk xs), [cb wb [sV g xs.length] 150]]) (n := 35) Tryz.func91 rfl rfl ma6 (hl) (W.seq (fun K1 hK1 => ?_))
 refine W.region ?_
 obtain ⟨X2, hX3⟩ : ∃ z, cutS xs k = z := ⟨_, rfl⟩
 have hlx4 : X2.length ≤ xs.length := hX3 ▸ cutS_le _ _
 have hs2_ : SrtS X2 := hX3 ▸ cutS_srt hs _
 refine Wl.run 2 ma0 (Wl.htS rfl (HtS.call (β := FS) (k := 78) (args := #[pV wb 0, iV .u64 k]) (Lin := [g.seg 219 (mm spk xs), [cb wb [sV g xs.length] 150]]) (Lk := []) (Lo := fun g5 => [g5.seg 219 (mm spk X2), [cb wb [sV g5 X2.length] 150]]) [0, 1] [] rfl (fun _ => kr) ma2 rfl rfl rfl (fun w_ hm_ hl_ => (wcutz_c xs g wb _ k X2 _ hX3 hl_ ok ma1)) (fun _ => rfl)) (fun g5 ok6 => ?_))
 refine Wl.nil (hK1 _ _ _ (W.prune' [0, 1, 2] [pV wb 0, iV .u64 k, iV .u64 a] ma0 (fun f8 => W.seq (fun K9 hK9 => W.region ?_))))
 refine Wl.run 3 ma0 (Wl.ht rfl (Ht.alloc (z := aV [iV .u64 0, iV .u64 0]) (cs := [iV .u64 0, iV .u64 0]) rfl rfl Tryz.zeroValue219 rfl) (fun p6 => ?_))
 refine Wl.ht rfl (Ht.storeN (b := p6) (o' := 0) (i := 0) (j := 0) (vs := [iV .u64 a, iV .u64 k]) (LL' := [[cb p6 [iV .u64 a, iV .u64 k] 219], g5.seg 219 (mm spk X2), [cb wb [sV g5 X2.length] 150]]) rfl rfl ma0 ma0 Tryz.sizeOf219 ma7 rfl rfl ma6 rfl rfl) (fun _ => Wl.nil (hK9 _ _ _ (W.prune' [0, 6] [pV wb 0, pV p6 0] ma0 (fun f10 => W.seq (fun K11 hK11 => ?_)))))
 refine W.draws [(0, true), (1, true), (2, true), (3, true), (4, false), (5, false), (6, false), (7, true), (8, true), (9, false), (10, false)] [0, 1, 2, 3, 7, 8] (Mem w M [[cb p6 [iV .u64 a, iV .u64 k] 219], g5.seg 219 (mm spk X2), [cb wb [sV g5 X2.length] 150]]) ma0 ma0 ma0 rfl ma0 (fun _ _ h_ => h_.drawn _) (fun _ h_ => h_) (Wd.run 3 ma0 (Wd.ys rfl rfl rfl (Ys.l1 wb 0 2 0 Tryz.isAgg148) (Wd.yc (v := aV [iV .u64 a, iV .u64 k]) rfl rfl rfl (Ys.yc (Ys.loadN (b := p6) (o' := 0) (i := 0) (j := 0) (vs := [iV .u64 a, iV .u64 k]) rfl ma0 Tryz.isAgg219 Tryz.sizeOf219 rfl rfl rfl rfl)) (.inr fun _ h_ => h_) (Wd.yc (v := Value.tuple #[nV .i64 (posS X2 (a, k)), bV ((decide (((posS X2 (a, k) : Nat) : Int) < (X2.length : Int))) && ((ordS (X2.getD (posS X2 (a, k)) (0, 0)) (a, k)) == 0))]) rfl rfl rfl (Yc.call (fun _ => kr) (fun w_ hm_ => (let z_ := Mem.local' (hm_.pick [1] ma2 rfl); ret_same z_ (bsw_c X2 (a, k) g5 _  w_ z_ ok6 ma1 hs2_)))) (.inr fun _ h_ => h_) ?_))))
 refine Wd.yc (v := Value.tuple #[nV .i64 (posS X2 (a, k)), bV ((decide (((posS X2 (a, k) : Nat) : Int) < (X2.length : Int))) && ((ordS (X2.getD (posS X2 (a, k)) (0, 0)) (a, k)) == 0))]) rfl rfl rfl (Ys.yc (Ys.pure (fun _ => kr))) (.inr fun _ h_ => h_) (Wd.run 2 ma0 (Wd.yc (v := nV .i64 (posS X2 (a, k))) rfl rfl rfl (Ys.yc (Ys.pure (fun _ => kr))) (.inr fun _ h_ => h_) (Wd.yc (v := bV ((decide (((posS X2 (a, k) : Nat) : Int) < (X2.length : Int))) && ((ordS (X2.getD (posS X2 (a, k)) (0, 0)) (a, k)) == 0))) rfl rfl rfl (Ys.yc (Ys.pure (fun _ => kr))) (.inl ma0) (Wd.nil ?_))))
 refine hK11 _ _ _ (W.prune' [0, 6, 7] [pV wb 0, pV p6 0, nV .i64 (posS X2 (a, k))] ma0 (fun f12 => ?_))
 refine W.draws [(0, true), (1, true), (2, true), (3, true), (4, true), (5, true), (6, false), (7, false), (8, false), (9, false), (10, false), (11, false)] [0, 1, 2, 3, 4, 5] (Mem w M [[cb p6 [iV .u64 a, iV .u64 k] 219], [cb wb [sV g5 X2.length] 150]]) ma0 ma0 ma0 rfl ma0 (fun _ _ h_ => h_.drawn _) (fun _ h_ => h_.pick [0, 2] ma2 rfl) (Wd.run 4 ma0 (Wd.ys rfl rfl rfl (Ys.l1 wb 0 1 0 Tryz.isAgg148) (Wd.run 1 ma0 (Wd.yc (v := aV [iV .u64 a, iV .u64 k]) rfl rfl rfl (Ys.yc (Ys.loadN (b := p6) (o' := 0) (i := 0) (j := 0) (vs := [iV .u64 a, iV .u64 k]) rfl ma0 Tryz.isAgg219 Tryz.sizeOf219 rfl rfl rfl rfl)) (.inr fun _ h_ => h_.pick [0, 2] ma2 rfl) ?_))))
 refine Wd.ht rfl rfl (Ht.made (mk := fun b_ => .slice (some ⟨b_, 0, none⟩) 1 1) (t := 219) (cs := [iV .u64 a, iV .u64 k]) rfl (fun _ => kr)) (.inr fun _ _ h_ => h_.pick [1, 3] ma2 rfl) (fun p31 => ?_)
 obtain ⟨Z13, hZ14⟩ : ∃ Z, X2.take (posS X2 (a, k)) ++ (a, k) :: X2.drop (posS X2 (a, k)) = Z := ⟨_, rfl⟩
 refine Wd.htS rfl rfl (HtS.call (β := FS) (k := 143) (args := #[sV g5 X2.length, nV .i64 (posS X2 (a, k)), Value.slice (some ⟨p31, 0, none⟩) 1 1]) (Lin := [g5.seg 219 (mm spk X2), [cb p31 [iV .u64 a, iV .u64 k] 219]]) (Lk := [[cb p6 [iV .u64 a, iV .u64 k] 219], [cb wb [sV g5 X2.length] 150]]) (Lo := fun g15 => [g15.seg 219 (mm spk Z13), [cb p6 [iV .u64 a, iV .u64 k] 219], [cb wb [sV g5 X2.length] 150]]) [2, 0] [1, 3] rfl (fun _ => kr) ma2 rfl rfl rfl (fun w_ hm_ hl_ => (insw_c g5 X2 Z13 (a, k) p31 (posS X2 (a, k)) _ _ hZ14 hl_ ok6 (posS_le _ _) ma1)) (fun _ => rfl)) (.inr fun _ _ h_ => h_.pick [1, 2] ma2 rfl) (fun g15 hx19 => ?_)
 obtain ⟨ok16, nn17⟩ := hx19
 refine Wd.yc (v := pV wb 0) rfl rfl rfl (Ys.yc (Ys.pure (fun _ => kr))) (.inl ma0) (Wd.yc (v := pV wb 0) rfl rfl rfl (Ys.yc (Ys.pure (fun _ => kr))) (.inl ma0) (Wd.ht rfl rfl (Ht.store (b := wb) (o' := 0) (i := 2) (j := 0) (v := sV g15 Z13.length) (LL' := [g15.seg 219 (mm spk Z13), [cb p6 [iV .u64 a, iV .u64 k] 219], [cb wb [sV g15 Z13.length] 150]]) rfl rfl ma0 ma0 Tryz.sizeOf148 rfl rfl rfl ma6 rfl rfl) (.inl ma0) (fun _ => Wd.nil ?_)))
 have hB : setS xs k a = Z13 := by unfold setS putS; rw [hX3]; exact hZ14
 show ∀ w_, _ → bodyPostM (fence none) 0 Tryz.prog Tryz.f91 _ Exit.normal _ w_
 exact fun w_ hS_ => fin_normal (ret0 rfl  ⟨g15, (by rw [hB]; exact ok16), rfl, (Mem.cast (by rw [hB]; rfl) (hS_.pick [0, 2] ma2 rfl))⟩)
theorem wnew_c  (w : World) : Calls Tryz.prog 29 #[] w (RetM w (fun _ : Nat => True) (fun b => .pointer (some ⟨b, 0, none⟩)) [] (fun b => [[cb b [.slice none 0 0] 150]])) := by
 refine calls_W (M := []) (LL := []) (n := 3) Tryz.func29 rfl rfl ma6 (Mem.refl _) (W.seq (fun K1 hK1 => ?_))
 refine W.region (Wl.run 1 ma0 (Wl.nil (hK1 _ _ _ (W.seq (fun K2 hK2 => ?_)))))
 refine W.region (Wl.run 1 ma0 (Wl.ht rfl (Ht.box (v := aV zl10) (cs := zl10) rfl rfl ma0 rfl) (fun p2 => Wl.run 1 ma0 (Wl.nil ?_))))
 refine hK2 _ _ _ (W.prune' [0] [pV p2 0] ma0 (fun f3 => ?_))
 refine W.ret ?_
 show ∀ w_, _ → bodyPostM (fence none) 0 Tryz.prog Tryz.f29 _ Exit.ret _ w_
 exact fun w_ hS_ => fin_ret (ret1 rfl (RV.tmp (v := pV p2 0) ma0) hS_ ⟨p2, trivial, rfl, (hS_.pick [0] ma2 rfl)⟩)
end Go.Proofs.YtmonlaoaengfdaaGreatDoor.Oct
