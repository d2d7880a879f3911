import Derived.Test.YthfagedaijoenaaKKy2
set_option linter.unusedVariables false
set_option linter.unusedSimpArgs false
set_option maxRecDepth 20000
namespace Go.Proofs.Ythfagedaijoenaa.Oct
open Go.RowKit Base
attribute [local irreducible] Ys Yc Ht HtS HtIn Wl Wd W Mem pf dpf Wa Wo
def idx (ks : List Int) (k : Int) : Nat := (ks.takeWhile fun x => !(x == k)).length
def atR (ks : List Int) (k : Int) : Int := bif decide (idx ks k < ks.length) then (idx ks k : Int) else -1
theorem idx_le (ks : List Int) (k : Int) : idx ks k ≤ ks.length := (List.takeWhile_sublist _).length_le
theorem idx_spec {k : Int} : ∀ {ks : List Int} {i : Nat}, i ≤ idx ks k → i < ks.length → (ks.getD i 0 = k ↔ idx ks k = i)
  | [], i, _, h => by simp at h
  | x :: ks, i, hi, h => by
    unfold idx at hi ⊢
    rw [List.takeWhile_cons] at hi ⊢
    by_cases hx : x = k
    · subst hx
      simp only [beq_self_eq_true, Bool.not_true, Bool.false_eq_true, if_false, List.length_nil] at hi ⊢
      obtain rfl : i = 0 := by omega
      simp
    · rw [if_pos (by simpa using hx)] at hi ⊢
      rw [List.length_cons] at hi ⊢
      cases i with
      | zero => simp only [List.getD_cons_zero]; constructor; exact fun h => absurd h hx; intro h; omega
      | succ i =>
        have := idx_spec (k := k) (ks := ks) (i := i) (by unfold idx; omega) (by simpa using h)
        unfold idx at this
        rw [List.getD_cons_succ, this]; omega
theorem idx_get {ks : List Int} {k : Int} (h : idx ks k < ks.length) : ks.getD (idx ks k) 0 = k := (idx_spec (Nat.le_refl _) h).2 rfl
theorem atR_pos {ks : List Int} {k : Int} (h : atR ks k ≥ 0) : idx ks k < ks.length ∧ atR ks k = (idx ks k : Int) := by
  unfold atR at h ⊢
  by_cases hh : idx ks k < ks.length
  · rw [decide_eq_true hh]; exact ⟨hh, rfl⟩
  · rw [decide_eq_false hh] at h; exact absurd (show (-1 : Int) ≥ 0 from h) ma3
theorem atR_nat {ks : List Int} {k : Int} (h : atR ks k ≥ 0) : (atR ks k).toNat = idx ks k ∧ idx ks k < ks.length := by
  obtain ⟨a, b⟩ := atR_pos h; rw [b]; exact ⟨rfl, a⟩
theorem idx_mem {ks : List Int} {k : Int} : idx ks k < ks.length ↔ k ∈ ks := by
  constructor
  · intro h
    have := idx_get h
    rw [List.getD_eq_getElem?_getD, List.getElem?_eq_getElem h] at this
    rw [← this]; exact List.getElem_mem h
  · intro h
    obtain ⟨i, hi, he⟩ := List.getElem_of_mem h
    rcases Nat.lt_or_ge (idx ks k) ks.length with hl | hl
    · exact hl
    · have h2 := (idx_spec (k := k) (ks := ks) (i := i) ma1 hi).1 (by rw [List.getD_eq_getElem?_getD, List.getElem?_eq_getElem hi]; exact he)
      omega
def rputR (most : Int) (ks : List Int) (k : Int) : Int := bif decide (atR ks k ≥ 0) then 0 else bif (ks.length : Int) == most then 20 else 0
def rputK (most : Int) (ks : List Int) (k : Int) : List Int := bif decide (atR ks k ≥ 0) then ks else bif (ks.length : Int) == most then ks else ks ++ [k]
def rputV (most : Int) (ks vs : List Int) (k v : Int) : List Int := bif decide (atR ks k ≥ 0) then vs.set (atR ks k).toNat v else bif (ks.length : Int) == most then vs else vs ++ [v]
def rdropL (ks l : List Int) (k : Int) : List Int := bif decide (atR ks k < 0) then l else l.take (atR ks k).toNat ++ l.drop (atR ks k + 1).toNat
def nxS (above : Int) (all : Bool) (s : Int × Bool) (k : Int) : Int × Bool := bif (all || decide (k > above)) && ((!s.2) || decide (k < s.1)) then (k, true) else s
def nxt (above : Int) (all : Bool) (ks : List Int) : Int × Bool := ks.foldl (nxS above all) (0, false)
theorem nxt_take {above : Int} {all : Bool} {ks : List Int} {i : Nat} (h : i < ks.length) : nxt above all (ks.take (i + 1)) = nxS above all (nxt above all (ks.take i)) (ks.getD i 0) := by
  unfold nxt; rw [List.take_add_one, List.foldl_append, List.getElem?_eq_getElem h, List.getD_eq_getElem?_getD, List.getElem?_eq_getElem h]; rfl
def NxI (above : Int) (all : Bool) (l : List Int) (s : Int × Bool) : Prop :=
  (s.2 = true → s.1 ∈ l ∧ (all || decide (s.1 > above)) = true ∧ ∀ k ∈ l, (all || decide (k > above)) = true → s.1 ≤ k) ∧ (s.2 = false → s.1 = 0 ∧ ∀ k ∈ l, (all || decide (k > above)) = false)
theorem nxI_step {above : Int} {all : Bool} {l : List Int} {s : Int × Bool} {k : Int} (h : NxI above all l s) : NxI above all (l ++ [k]) (nxS above all s k) := by
  obtain ⟨h1, h2⟩ := h
  unfold nxS
  cases hp : (all || decide (k > above))
  · rw [Bool.false_and]
    refine ⟨fun hs => ?_, fun hs => ?_⟩
    · obtain ⟨a, b, c⟩ := h1 hs
      refine ⟨List.mem_append_left _ a, b, fun x hx hpx => ?_⟩
      rcases List.mem_append.1 hx with hx | hx
      · exact c x hx hpx
      · rw [List.mem_singleton.1 hx, hp] at hpx; cases hpx
    · obtain ⟨a, b⟩ := h2 hs
      refine ⟨a, fun x hx => ?_⟩
      rcases List.mem_append.1 hx with hx | hx
      · exact b x hx
      · rw [List.mem_singleton.1 hx]; exact hp
  · rw [Bool.true_and]
    cases hs : s.2
    · obtain ⟨a, b⟩ := h2 hs
      simp only [Bool.not_false, Bool.true_or, cond_true]
      refine ⟨fun _ => ⟨by simp, hp, fun x hx hpx => ?_⟩, fun h => by cases h⟩
      rcases List.mem_append.1 hx with hx | hx
      · rw [b x hx] at hpx; cases hpx
      · rw [List.mem_singleton.1 hx]; exact Int.le_refl _
    · obtain ⟨a, b, c⟩ := h1 hs
      simp only [Bool.not_true, Bool.false_or]
      by_cases hlt : k < s.1
      · rw [decide_eq_true hlt]
        simp only [cond_true]
        refine ⟨fun _ => ⟨by simp, hp, fun x hx hpx => ?_⟩, fun h => by cases h⟩
        rcases List.mem_append.1 hx with hx | hx
        · have := c x hx hpx; show k ≤ x; omega
        · rw [List.mem_singleton.1 hx]; exact Int.le_refl _
      · rw [decide_eq_false hlt]
        simp only [cond_false]
        refine ⟨fun _ => ⟨List.mem_append_left _ a, b, fun x hx hpx => ?_⟩, fun h => by rw [hs] at h; cases h⟩
        rcases List.mem_append.1 hx with hx | hx
        · exact c x hx hpx
        · rw [List.mem_singleton.1 hx]; omega
theorem nxI_fold {above : Int} {all : Bool} : ∀ (l pre : List Int) (s : Int × Bool), NxI above all pre s → NxI above all (pre ++ l) (l.foldl (nxS above all) s)
  | [], pre, s, h => by simpa using h
  | k :: l, pre, s, h => by
    have := nxI_fold l (pre ++ [k]) _ (nxI_step (k := k) h)
    rw [List.append_assoc] at this
    exact this
theorem nxt_spec (above : Int) (all : Bool) (ks : List Int) : NxI above all ks (nxt above all ks) := by
  have := nxI_fold (above := above) (all := all) ks [] (0, false) ⟨fun h => (by cases h), fun _ => ⟨rfl, fun k hk => (by cases hk)⟩⟩
  exact this
def kth (ss : List Int) (j : Nat) : Int × Bool := bif decide (j < ss.length) then (ss.getD j 0, true) else (0, false)
def Inc (ss : List Int) : Prop := ss.Pairwise (· < ·)
theorem inc_lt {ss : List Int} (h : Inc ss) {i j : Nat} (hij : i < j) (hj : j < ss.length) : ss.getD i 0 < ss.getD j 0 := by
  have := List.pairwise_iff_getElem.1 h i j ma1 hj hij
  simpa [List.getD_eq_getElem?_getD, List.getElem?_eq_getElem hj, List.getElem?_eq_getElem (show i < ss.length by omega)] using this
theorem mem_getD {ss : List Int} {k : Int} (h : k ∈ ss) : ∃ i, i < ss.length ∧ ss.getD i 0 = k := by
  obtain ⟨i, hi, e⟩ := List.getElem_of_mem h
  exact ⟨i, hi, by simpa [List.getD_eq_getElem?_getD, List.getElem?_eq_getElem hi] using e⟩
theorem getD_mem {ss : List Int} {i : Nat} (h : i < ss.length) : ss.getD i 0 ∈ ss := by
  rw [List.getD_eq_getElem?_getD, List.getElem?_eq_getElem h]; exact List.getElem_mem h
theorem nxt_kth {above : Int} {all : Bool} {ks ss : List Int} {j : Nat} (hp : ks.Perm ss) (hs : Inc ss) (hj : ∀ i, i < ss.length → ((all || decide (ss.getD i 0 > above)) = true ↔ j ≤ i)) : nxt above all ks = kth ss j := by
  obtain ⟨h1, h2⟩ := nxt_spec above all ks
  unfold kth
  cases hf : (nxt above all ks).2
  · obtain ⟨a, b⟩ := h2 hf
    have : ¬ (j < ss.length) := fun h => by
      have h3 := (hj j h).2 (Nat.le_refl _)
      rw [b _ (hp.mem_iff.2 (getD_mem h))] at h3; cases h3
    rw [decide_eq_false this]
    exact Prod.ext a hf
  · obtain ⟨a, b, c⟩ := h1 hf
    obtain ⟨i, hi, e⟩ := mem_getD (hp.mem_iff.1 a)
    have hji := (hj i hi).1 (by rw [e]; exact b)
    have hjl : j < ss.length := by omega
    rw [decide_eq_true hjl]
    have h3 := c _ (hp.mem_iff.2 (getD_mem hjl)) ((hj j hjl).2 (Nat.le_refl _))
    refine Prod.ext ?_ hf
    show (nxt above all ks).1 = ss.getD j 0
    rcases Nat.lt_or_ge j i with hlt | hge
    · have := inc_lt hs hlt hi; omega
    · rw [← e, show i = j by omega]
theorem nxt_first {ks ss : List Int} (hp : ks.Perm ss) (hs : Inc ss) : nxt 0 true ks = kth ss 0 := nxt_kth hp hs fun i _ => by simp
theorem nxt_next {ks ss : List Int} {j : Nat} (hp : ks.Perm ss) (hs : Inc ss) (hj : j < ss.length) : nxt (ss.getD j 0) false ks = kth ss (j + 1) := nxt_kth hp hs fun i hi => by
  simp only [Bool.false_or, decide_eq_true_eq]
  constructor
  · intro h
    rcases Nat.lt_or_ge j i with h1 | h1
    · omega
    · rcases Nat.lt_or_ge i j with h2 | h2
      · have := inc_lt hs h2 hj; omega
      · rw [show i = j by omega] at h; omega
  · intro h; exact inc_lt hs ma1 hi
theorem rat_c (ks vs : List Int) (gk gv : FS) (most : Int) (rb : Nat) (M : List Nat) (k : Int) (w : World) (hl : Mem w M [gk.seg 3 (mc (Value.int .i64) ks), gv.seg 3 (mc (Value.int .i64) vs), [cb rb [Value.slice gk.a ks.length gk.cap, Value.slice gv.a vs.length gv.cap, Value.int .i64 most] 46]] w) (okk : gk.ok 1 ks.length) (okv : gv.ok 1 vs.length) (hn : ks.length ≤ 100000) (hv : vs.length = ks.length) : Calls Try.prog 26 #[pV rb 0, iV .i64 k] w (RetM w (fun _ : Unit => True) (fun _ => .int .i64 (atR ks k)) M (fun _ => [gk.seg 3 (mc (Value.int .i64) ks), gv.seg 3 (mc (Value.int .i64) vs), [cb rb [Value.slice gk.a ks.length gk.cap, Value.slice gv.a vs.length gv.cap, iV .i64 most] 46]])) := by
 refine calls_W (M := M) (LL := [gk.seg 3 (mc (Value.int .i64) ks), gv.seg 3 (mc (Value.int .i64) vs), [cb rb [Value.slice gk.a ks.length gk.cap, Value.slice gv.a vs.length gv.cap, iV .i64 most] 46]]) (n := 25) Try.func26 rfl rfl sp (hl) (W.seq (fun K1 hK1 => ?_))
 refine W.region (Wl.run 1 ma0 (Wl.nil (hK1 _ _ _ (W.seq (fun K2 hK2 => ?_)))))
 refine W.seq (fun K3 hK3 => W.region (Wl.run 1 ma0 (Wl.nil (hK3 _ _ _ ?_))))
 refine W.block (W.loop1 [0, 1, 5] (fun (i : Nat) => [pV rb 0, iV .i64 k, nV .i64 i]) (fun (i : Nat) => i ≤ idx ks k ∧ i ≤ ks.length) (fun (i : Nat) => [gk.seg 3 (mc (Value.int .i64) ks), gv.seg 3 (mc (Value.int .i64) vs), [cb rb [Value.slice gk.a ks.length gk.cap, Value.slice gv.a vs.length gv.cap, iV .i64 most] 46]]) (fun (i : Nat) => ks.length - i) 0 ma0 ⟨(by first | omega | trivial | simp), (by first | omega | trivial | simp)⟩ (by rfl) (fun i f5 J4 hp6 hJ4 => ?_))
 obtain ⟨hi, hin⟩ := hp6
 refine W.seq (fun K7 hK7 => W.seq (fun K8 hK8 => ?_))
 refine W.region (Wl.run 4 ma0 (Wl.ys rfl rfl (Ys.l1 rb 0 2 0 Try.isAgg39) (Wl.run 2 ma0 (Wl.nil ?_))))
 refine hK8 _ _ _ (W.prune' [0, 1, 5, 12] [pV rb 0, iV .i64 k, nV .i64 i, bV (decide (((i : Nat) : Int) < (ks.length : Int)))] ma0 (fun f9 => ?_))
 refine W.cond (decide (((i : Nat) : Int) < (ks.length : Int))) ma0 (fun h10 => ?_) (fun h11 => ?_)
 ·have qh10 := h10; try simp only [zA] at qh10
  refine W.skip' (hK7 _ _ _ (W.prune' [0, 1, 5] [pV rb 0, iV .i64 k, nV .i64 i] ma0 (fun f12 => W.seq (fun K13 hK13 => W.block ?_))))
  refine W.seq (fun K14 hK14 => W.region (Wl.run 3 ma0 (Wl.ys rfl rfl (Ys.l1 rb 0 2 0 Try.isAgg39) (Wl.run 1 ma0 ?_))))
  refine Wl.ys (v := Value.pointer (some (ela gk.a (i * 1)))) rfl rfl (Ys.indexAddr (k := .i64) (a := gk.a) (len := ks.length) (cap := gk.cap) (i := (i : Int)) (sz := 1) rfl ma0 ma0 Try.runUnderlying39 Try.sizeOf3 ma1 ma1 (by rw [FS.a_own (FS.notnil okk ma1)]; rfl)) (Wl.ys (v := iV .i64 (ks.getD i 0)) rfl rfl (Ys.ld (a := ela gk.a (i * 1)) rfl ma0 Try.isAgg3 (fun w_ h_ => (FS.at (i := 0) (t := 3) h_ rfl (FS.nil_cs okk (mc_len1 _))).ld (mc_get1 0 ma7))) (Wl.run 2 ma0 (Wl.nil (hK14 _ _ _ ?_))))
  refine W.prune' [0, 1, 5, 23] [pV rb 0, iV .i64 k, nV .i64 i, bV ((ks.getD i 0) == k)] ma0 (fun f15 => ?_)
  refine W.cond ((ks.getD i 0) == k) ma0 (fun h16 => ?_) (fun h17 => ?_)
  ·have qh16 := h16; try simp only [zA] at qh16
   refine W.seq (fun K18 hK18 => W.region (Wl.run 2 ma0 (Wl.nil (hK18 _ _ _ ?_))))
   refine W.prune' [4] [nV .i64 i] ma0 (fun f19 => W.ret ?_)
   show ∀ w_, _ → bodyPostM (fence none) 0 Try.prog Try.f26 _ Exit.ret _ w_
   exact fun w_ hS_ => fin_ret (ret1 rfl (RV.tmp (v := nV .i64 i) ma0) hS_ ⟨(), trivial, congrArg Ending.returned ((by have z_ := (idx_spec hi ma1).1 qh16; unfold atR; rw [decide_eq_true ma1, z_]; rfl)), (hS_.pick [0, 1, 2] ma3 rfl)⟩)
  ·have qh17 := h17; try simp only [zA] at qh17
   refine W.skip' (hK13 _ _ _ (W.prune' [0, 1, 5] [pV rb 0, iV .i64 k, nV .i64 i] ma0 (fun f20 => W.region (Wl.run 1 ma0 ?_))))
   refine Wl.ys (v := nV .i64 (i + 1)) rfl rfl ((Ys.pure (v := .int .i64 (iadd .i64 (i : Int) 1)) (fun _ => kr)).conseq (int_congr (iadd_eq ma1 ma1 ma1))) (Wl.run 1 ma0 (Wl.nil ?_))
   refine fun w_ h_ => hJ4 (i + 1) _ w_ ma1 ⟨(by have z_ := qh17; have y_ := idx_spec hi ma1; rcases Nat.lt_or_ge i (idx ks k) with h_ | h_; exact h_; exact absurd (y_.2 ma1) z_), ma1⟩ ?_ h_
   kernel_rfl
 ·have qh11 := h11; try simp only [zA] at qh11
  refine W.exit (hK2 _ _ _ (W.prune' [] [] ma0 (fun f21 => W.seq (fun K22 hK22 => W.region ?_))))
  refine Wl.run 1 ma0 (Wl.nil (hK22 _ _ _ (W.ret ?_)))
  show ∀ w_, _ → bodyPostM (fence none) 0 Try.prog Try.f26 _ Exit.ret _ w_
  exact fun w_ hS_ => fin_ret (ret1 rfl (RV.tmp (v := iV .i64 (-1)) ma0) hS_ ⟨(), trivial, congrArg Ending.returned ((by unfold atR; rw [decide_eq_false (by have z_ := idx_le ks k; omega)]; rfl)), (hS_.pick [0, 1, 2] ma3 rfl)⟩)
theorem rnext_c (ks vs : List Int) (gk gv : FS) (most : Int) (rb : Nat) (M : List Nat) (above : Int) (all : Bool) (w : World) (hl : Mem w M [gk.seg 3 (mc (Value.int .i64) ks), gv.seg 3 (mc (Value.int .i64) vs), [cb rb [Value.slice gk.a ks.length gk.cap, Value.slice gv.a vs.length gv.cap, Value.int .i64 most] 46]] w) (okk : gk.ok 1 ks.length) (okv : gv.ok 1 vs.length) (hn : ks.length ≤ 100000) (hv : vs.length = ks.length) : Calls Try.prog 45 #[pV rb 0, iV .i64 above, bV all] w (RetM w (fun _ : Unit => True) (fun _ => .tuple #[iV .i64 ((nxt above all ks).1), bV ((nxt above all ks).2)]) M (fun _ => [gk.seg 3 (mc (Value.int .i64) ks), gv.seg 3 (mc (Value.int .i64) vs), [cb rb [Value.slice gk.a ks.length gk.cap, Value.slice gv.a vs.length gv.cap, iV .i64 most] 46]])) := by
 refine calls_W (M := M) (LL := [gk.seg 3 (mc (Value.int .i64) ks), gv.seg 3 (mc (Value.int .i64) vs), [cb rb [Value.slice gk.a ks.length gk.cap, Value.slice gv.a vs.length gv.cap, iV .i64 most] 46]]) (n := 56) Try.func45 rfl rfl sp (hl) (W.seq (fun K1 hK1 => ?_))
 refine W.region (Wl.run 2 ma0 (Wl.nil (hK1 _ _ _ (W.prune' [0, 1, 2] [pV rb 0, iV .i64 above, bV all] ma0 (fun f2 => ?_)))))
 refine W.seq (fun K3 hK3 => W.region (Wl.run 2 ma0 (Wl.nil (hK3 _ _ _ ?_))))
 refine W.prune' [0, 1, 2, 8, 9] [pV rb 0, iV .i64 above, bV all, iV .i64 0, bV false] ma0 (fun f4 => W.seq (fun K5 hK5 => ?_))
 refine W.seq (fun K6 hK6 => W.region (Wl.run 1 ma0 (Wl.nil (hK6 _ _ _ ?_))))
 refine W.block (W.loop1 [0, 1, 2, 8, 9, 10] (fun (i : Nat) => [pV rb 0, iV .i64 above, bV all, iV .i64 ((nxt above all (ks.take i)).1), bV ((nxt above all (ks.take i)).2), nV .i64 i]) (fun (i : Nat) => i ≤ ks.length) (fun (i : Nat) => [gk.seg 3 (mc (Value.int .i64) ks), gv.seg 3 (mc (Value.int .i64) vs), [cb rb [Value.slice gk.a ks.length gk.cap, Value.slice gv.a vs.length gv.cap, iV .i64 most] 46]]) (fun (i : Nat) => ks.length - i) 0 (Eq.trans (b := ([pV rb 0, iV .i64 above, bV all, iV .i64 0, bV false, iV .i64 0] : List Value)) ma0 (rfl)) (by first | omega | trivial | simp) (by rfl) (fun i f8 J7 hp9 hJ7 => ?_))
 have hin := hp9
 refine W.seq (fun K10 hK10 => W.seq (fun K11 hK11 => ?_))
 refine W.region (Wl.run 4 ma0 (Wl.ys rfl rfl (Ys.l1 rb 0 2 0 Try.isAgg39) (Wl.run 2 ma0 (Wl.nil ?_))))
 refine hK11 _ _ _ (W.prune' [0, 1, 2, 8, 9, 10, 17] [pV rb 0, iV .i64 above, bV all, iV .i64 ((nxt above all (ks.take i)).1), bV ((nxt above all (ks.take i)).2), nV .i64 i, bV (decide (((i : Nat) : Int) < (ks.length : Int)))] ma0 (fun f12 => ?_))
 refine W.cond (decide (((i : Nat) : Int) < (ks.length : Int))) ma0 (fun h13 => ?_) (fun h14 => ?_)
 ·have qh13 := h13; try simp only [zA] at qh13
  refine W.skip' (hK10 _ _ _ (W.prune' [0, 1, 2, 8, 9, 10] [pV rb 0, iV .i64 above, bV all, iV .i64 ((nxt above all (ks.take i)).1), bV ((nxt above all (ks.take i)).2), nV .i64 i] ma0 (fun f15 => W.seq (fun K16 hK16 => W.block ?_))))
  refine W.seq (fun K17 hK17 => W.region (Wl.run 2 ma0 ?_))
  refine Wl.guard (v := pV rb 0) (!all) rfl (wantF rfl ma0) rfl (fun hg18 => ?_) ?_
  ·exact Ys.pure (fun _ => kr)
  refine Wl.guard (v := pV rb 0) (!all) rfl (wantF rfl ma0) rfl (fun hg19 => ?_) ?_
  ·refine Ys.at (t := 22) (v0 := pV rb 0) (lz (g := !all) (u := undef) hg19 ma0) ?_
   exact Ys.pure (fun _ => kr)
  refine Wl.guard (v := pV rb 0) (!all) rfl (wantF rfl ma0) rfl (fun hg20 => ?_) ?_
  ·refine Ys.at (t := 23) (v0 := pV rb 0) (lz (g := !all) (u := undef) hg20 ma0) ?_
   exact Ys.pure (fun _ => kr)
  refine Wl.guard (v := Value.slice gk.a ks.length gk.cap) (!all) rfl (wantF rfl ma0) rfl (fun hg21 => ?_) ?_
  ·refine Ys.at (t := 24) (v0 := pV rb 0) (lz (g := !all) (u := undef) hg21 ma0) ?_
   exact Ys.l1 rb 0 2 0 Try.isAgg39
  refine Wl.guard (v := nV .i64 i) (!all) rfl (wantF rfl ma0) rfl (fun hg22 => ?_) ?_
  ·exact Ys.pure (fun _ => kr)
  refine Wl.guard (v := Value.pointer (some (ela gk.a (i * 1)))) (!all) rfl (wantF rfl ma0) rfl (fun hg23 => ?_) ?_
  ·refine Ys.at (t := 25) (v0 := Value.slice gk.a ks.length gk.cap) (lz (g := !all) (u := undef) hg23 ma0) (Ys.at (t := 26) (v0 := nV .i64 i) (lz (g := !all) (u := undef) hg23 ma0) ?_)
   exact Ys.indexAddr (k := .i64) (a := gk.a) (len := ks.length) (cap := gk.cap) (i := (i : Int)) (sz := 1) rfl ma0 ma0 Try.runUnderlying39 Try.sizeOf3 ma1 ma1 (by rw [FS.a_own (FS.notnil okk ma1)]; rfl)
  refine Wl.guard (v := iV .i64 (ks.getD i 0)) (!all) rfl (wantF rfl ma0) rfl (fun hg24 => ?_) ?_
  ·refine Ys.at (t := 27) (v0 := Value.pointer (some (ela gk.a (i * 1)))) (lz (g := !all) (u := undef) hg24 ma0) ?_
   exact Ys.ld (a := ela gk.a (i * 1)) rfl ma0 Try.isAgg3 (fun w_ h_ => (FS.at (i := 0) (t := 3) h_ rfl (FS.nil_cs okk (mc_len1 _))).ld (mc_get1 0 ma7))
  refine Wl.guard (v := iV .i64 above) (!all) rfl (wantF rfl ma0) rfl (fun hg25 => ?_) ?_
  ·exact Ys.pure (fun _ => kr)
  refine Wl.guard (v := bV (decide ((ks.getD i 0) > above))) (!all) rfl (wantF rfl ma0) rfl (fun hg26 => ?_) ?_
  ·refine Ys.at (t := 28) (v0 := iV .i64 (ks.getD i 0)) (lz (g := !all) (u := undef) hg26 ma0) (Ys.at (t := 29) (v0 := iV .i64 above) (lz (g := !all) (u := undef) hg26 ma0) ?_)
   exact Ys.pure (fun _ => kr)
  refine Wl.ys (v := bV (all || (decide ((ks.getD i 0) > above)))) rfl rfl (Ys.or' (e := all) (b := decide ((ks.getD i 0) > above)) rfl ma0 ma0 ma0) (Wl.run 1 ma0 ?_)
  refine Wl.guard (v := bV ((nxt above all (ks.take i)).2)) (all || (decide ((ks.getD i 0) > above))) rfl (wantT rfl ma0) rfl (fun hg27 => ?_) ?_
  ·exact Ys.pure (fun _ => kr)
  refine Wl.guard (v := bV (!((nxt above all (ks.take i)).2))) (all || (decide ((ks.getD i 0) > above))) rfl (wantT rfl ma0) rfl (fun hg28 => ?_) ?_
  ·have qhg28 := hg28; try simp only [zA] at qhg28
   refine Ys.at (t := 33) (v0 := bV ((nxt above all (ks.take i)).2)) (lz (g := all || (decide ((ks.getD i 0) > above))) (u := undef) hg28 ma0) ?_
   exact Ys.pure (fun _ => kr)
  refine Wl.guard (v := bV (!((nxt above all (ks.take i)).2))) (all || (decide ((ks.getD i 0) > above))) rfl (wantT rfl ma0) rfl (fun hg29 => ?_) ?_
  ·have qhg29 := hg29; try simp only [zA] at qhg29
   refine Ys.at (t := 34) (v0 := bV (!((nxt above all (ks.take i)).2))) (lz (g := all || (decide ((ks.getD i 0) > above))) (u := undef) hg29 ma0) ?_
   exact Ys.pure (fun _ => kr)
  refine Wl.guard (v := pV rb 0) ((all || (decide ((ks.getD i 0) > above))) && !(!((nxt above all (ks.take i)).2))) rfl (wantFz rfl rfl ma0) rfl (fun hg30 => ?_) ?_
  ·exact Ys.pure (fun _ => kr)
  refine Wl.guard (v := pV rb 0) ((all || (decide ((ks.getD i 0) > above))) && !(!((nxt above all (ks.take i)).2))) rfl (wantFz rfl rfl ma0) rfl (fun hg31 => ?_) ?_
  ·have qhg31 := hg31; try simp only [zA] at qhg31
   refine Ys.at (t := 36) (v0 := pV rb 0) (lz (g := (all || (decide ((ks.getD i 0) > above))) && !(!((nxt above all (ks.take i)).2))) (u := undef) hg31 ma0) ?_
   exact Ys.pure (fun _ => kr)
  refine Wl.guard (v := pV rb 0) ((all || (decide ((ks.getD i 0) > above))) && !(!((nxt above all (ks.take i)).2))) rfl (wantFz rfl rfl ma0) rfl (fun hg32 => ?_) ?_
  ·have qhg32 := hg32; try simp only [zA] at qhg32
   refine Ys.at (t := 37) (v0 := pV rb 0) (lz (g := (all || (decide ((ks.getD i 0) > above))) && !(!((nxt above all (ks.take i)).2))) (u := undef) hg32 ma0) ?_
   exact Ys.pure (fun _ => kr)
  refine Wl.guard (v := Value.slice gk.a ks.length gk.cap) ((all || (decide ((ks.getD i 0) > above))) && !(!((nxt above all (ks.take i)).2))) rfl (wantFz rfl rfl ma0) rfl (fun hg33 => ?_) ?_
  ·have qhg33 := hg33; try simp only [zA] at qhg33
   refine Ys.at (t := 38) (v0 := pV rb 0) (lz (g := (all || (decide ((ks.getD i 0) > above))) && !(!((nxt above all (ks.take i)).2))) (u := undef) hg33 ma0) ?_
   exact Ys.l1 rb 0 2 0 Try.isAgg39
  refine Wl.guard (v := nV .i64 i) ((all || (decide ((ks.getD i 0) > above))) && !(!((nxt above all (ks.take i)).2))) rfl (wantFz rfl rfl ma0) rfl (fun hg34 => ?_) ?_
  ·exact Ys.pure (fun _ => kr)
  refine Wl.guard (v := Value.pointer (some (ela gk.a (i * 1)))) ((all || (decide ((ks.getD i 0) > above))) && !(!((nxt above all (ks.take i)).2))) rfl (wantFz rfl rfl ma0) rfl (fun hg35 => ?_) ?_
  ·have qhg35 := hg35; try simp only [zA] at qhg35
   refine Ys.at (t := 39) (v0 := Value.slice gk.a ks.length gk.cap) (lz (g := (all || (decide ((ks.getD i 0) > above))) && !(!((nxt above all (ks.take i)).2))) (u := undef) hg35 ma0) (Ys.at (t := 40) (v0 := nV .i64 i) (lz (g := (all || (decide ((ks.getD i 0) > above))) && !(!((nxt above all (ks.take i)).2))) (u := undef) hg35 ma0) ?_)
   exact Ys.indexAddr (k := .i64) (a := gk.a) (len := ks.length) (cap := gk.cap) (i := (i : Int)) (sz := 1) rfl ma0 ma0 Try.runUnderlying39 Try.sizeOf3 ma1 ma1 (by rw [FS.a_own (FS.notnil okk ma1)]; rfl)
  refine Wl.guard (v := iV .i64 (ks.getD i 0)) ((all || (decide ((ks.getD i 0) > above))) && !(!((nxt above all (ks.take i)).2))) rfl (wantFz rfl rfl ma0) rfl (fun hg36 => ?_) ?_
  ·have qhg36 := hg36; try simp only [zA] at qhg36
   refine Ys.at (t := 41) (v0 := Value.pointer (some (ela gk.a (i * 1)))) (lz (g := (all || (decide ((ks.getD i 0) > above))) && !(!((nxt above all (ks.take i)).2))) (u := undef) hg36 ma0) ?_
   exact Ys.ld (a := ela gk.a (i * 1)) rfl ma0 Try.isAgg3 (fun w_ h_ => (FS.at (i := 0) (t := 3) h_ rfl (FS.nil_cs okk (mc_len1 _))).ld (mc_get1 0 ma7))
  refine Wl.guard (v := iV .i64 ((nxt above all (ks.take i)).1)) ((all || (decide ((ks.getD i 0) > above))) && !(!((nxt above all (ks.take i)).2))) rfl (wantFz rfl rfl ma0) rfl (fun hg37 => ?_) ?_
  ·exact Ys.pure (fun _ => kr)
  refine Wl.guard (v := bV (decide ((ks.getD i 0) < ((nxt above all (ks.take i)).1)))) ((all || (decide ((ks.getD i 0) > above))) && !(!((nxt above all (ks.take i)).2))) rfl (wantFz rfl rfl ma0) rfl (fun hg38 => ?_) ?_
  ·have qhg38 := hg38; try simp only [zA] at qhg38
   refine Ys.at (t := 42) (v0 := iV .i64 (ks.getD i 0)) (lz (g := (all || (decide ((ks.getD i 0) > above))) && !(!((nxt above all (ks.take i)).2))) (u := undef) hg38 ma0) (Ys.at (t := 43) (v0 := iV .i64 ((nxt above all (ks.take i)).1)) (lz (g := (all || (decide ((ks.getD i 0) > above))) && !(!((nxt above all (ks.take i)).2))) (u := undef) hg38 ma0) ?_)
   exact Ys.pure (fun _ => kr)
  refine Wl.guard (v := bV ((!((nxt above all (ks.take i)).2)) || (decide ((ks.getD i 0) < ((nxt above all (ks.take i)).1))))) (all || (decide ((ks.getD i 0) > above))) rfl (wantT rfl ma0) rfl (fun hg39 => ?_) ?_
  ·have qhg39 := hg39; try simp only [zA] at qhg39
   refine Ys.at (t := 35) (v0 := bV (!((nxt above all (ks.take i)).2))) (lz (g := all || (decide ((ks.getD i 0) > above))) (u := undef) hg39 ma0) (Ys.at (t := 44) (v0 := (bif !(!((nxt above all (ks.take i)).2)) then bV (decide ((ks.getD i 0) < ((nxt above all (ks.take i)).1))) else undef)) (lz2 (g := all || (decide ((ks.getD i 0) > above))) hg39 ma0) ?_)
   exact Ys.or' (e := !((nxt above all (ks.take i)).2)) (b := decide ((ks.getD i 0) < ((nxt above all (ks.take i)).1))) rfl ma0 ma0 ma0
  refine Wl.ys (v := bV ((all || (decide ((ks.getD i 0) > above))) && ((!((nxt above all (ks.take i)).2)) || (decide ((ks.getD i 0) < ((nxt above all (ks.take i)).1)))))) rfl rfl (Ys.and (e := all || (decide ((ks.getD i 0) > above))) (b := (!((nxt above all (ks.take i)).2)) || (decide ((ks.getD i 0) < ((nxt above all (ks.take i)).1)))) rfl ma0 ma0 ma0) (Wl.nil (hK17 _ _ _ (W.prune' [0, 1, 2, 8, 9, 10, 22, 23, 24, 25, 26, 27, 28, 29, 30, 33, 34, 35, 36, 37, 38, 39, 40, 41, 42, 43, 44, 45, 46] [pV rb 0, iV .i64 above, bV all, iV .i64 ((nxt above all (ks.take i)).1), bV ((nxt above all (ks.take i)).2), nV .i64 i, (bif !all then pV rb 0 else undef), (bif !all then pV rb 0 else undef), (bif !all then pV rb 0 else undef), (bif !all then Value.slice gk.a ks.length gk.cap else undef), (bif !all then nV .i64 i else undef), (bif !all then Value.pointer (some (ela gk.a (i * 1))) else undef), (bif !all then iV .i64 (ks.getD i 0) else undef), (bif !all then iV .i64 above else undef), (bif !all then bV (decide ((ks.getD i 0) > above)) else undef), (bif all || (decide ((ks.getD i 0) > above)) then bV ((nxt above all (ks.take i)).2) else undef), (bif all || (decide ((ks.getD i 0) > above)) then bV (!((nxt above all (ks.take i)).2)) else undef), (bif all || (decide ((ks.getD i 0) > above)) then bV (!((nxt above all (ks.take i)).2)) else undef), (bif (all || (decide ((ks.getD i 0) > above))) && !(!((nxt above all (ks.take i)).2)) then pV rb 0 else undef), (bif (all || (decide ((ks.getD i 0) > above))) && !(!((nxt above all (ks.take i)).2)) then pV rb 0 else undef), (bif (all || (decide ((ks.getD i 0) > above))) && !(!((nxt above all (ks.take i)).2)) then pV rb 0 else undef), (bif (all || (decide ((ks.getD i 0) > above))) && !(!((nxt above all (ks.take i)).2)) then Value.slice gk.a ks.length gk.cap else undef), (bif (all || (decide ((ks.getD i 0) > above))) && !(!((nxt above all (ks.take i)).2)) then nV .i64 i else undef), (bif (all || (decide ((ks.getD i 0) > above))) && !(!((nxt above all (ks.take i)).2)) then Value.pointer (some (ela gk.a (i * 1))) else undef), (bif (all || (decide ((ks.getD i 0) > above))) && !(!((nxt above all (ks.take i)).2)) then iV .i64 (ks.getD i 0) else undef), (bif (all || (decide ((ks.getD i 0) > above))) && !(!((nxt above all (ks.take i)).2)) then iV .i64 ((nxt above all (ks.take i)).1) else undef), (bif (all || (decide ((ks.getD i 0) > above))) && !(!((nxt above all (ks.take i)).2)) then bV (decide ((ks.getD i 0) < ((nxt above all (ks.take i)).1))) else undef), (bif all || (decide ((ks.getD i 0) > above)) then bV ((!((nxt above all (ks.take i)).2)) || (decide ((ks.getD i 0) < ((nxt above all (ks.take i)).1)))) else undef), bV ((all || (decide ((ks.getD i 0) > above))) && ((!((nxt above all (ks.take i)).2)) || (decide ((ks.getD i 0) < ((nxt above all (ks.take i)).1)))))] ma0 (fun f40 => ?_))))
  refine W.cond ((all || (decide ((ks.getD i 0) > above))) && ((!((nxt above all (ks.take i)).2)) || (decide ((ks.getD i 0) < ((nxt above all (ks.take i)).1))))) ma0 (fun h41 => ?_) (fun h42 => ?_)
  ·have qh41 := h41; try simp only [zA] at qh41
   refine W.seq (fun K43 hK43 => W.region (Wl.run 3 ma0 (Wl.ys rfl rfl (Ys.l1 rb 0 2 0 Try.isAgg39) (Wl.run 1 ma0 ?_))))
   refine Wl.ys (v := Value.pointer (some (ela gk.a (i * 1)))) rfl rfl (Ys.indexAddr (k := .i64) (a := gk.a) (len := ks.length) (cap := gk.cap) (i := (i : Int)) (sz := 1) rfl ma0 ma0 Try.runUnderlying39 Try.sizeOf3 ma1 ma1 (by rw [FS.a_own (FS.notnil okk ma1)]; rfl)) (Wl.ys (v := iV .i64 (ks.getD i 0)) rfl rfl (Ys.ld (a := ela gk.a (i * 1)) rfl ma0 Try.isAgg3 (fun w_ h_ => (FS.at (i := 0) (t := 3) h_ rfl (FS.nil_cs okk (mc_len1 _))).ld (mc_get1 0 ma7))) (Wl.run 1 ma0 (Wl.nil (hK43 _ _ _ ?_))))
   refine W.prune' [0, 1, 2, 8, 10, 22, 23, 24, 25, 26, 27, 28, 29, 30, 33, 34, 35, 36, 37, 38, 39, 40, 41, 42, 43, 44, 45] [pV rb 0, iV .i64 above, bV all, iV .i64 (ks.getD i 0), nV .i64 i, (bif !all then pV rb 0 else undef), (bif !all then pV rb 0 else undef), (bif !all then pV rb 0 else undef), (bif !all then Value.slice gk.a ks.length gk.cap else undef), (bif !all then nV .i64 i else undef), (bif !all then Value.pointer (some (ela gk.a (i * 1))) else undef), (bif !all then iV .i64 (ks.getD i 0) else undef), (bif !all then iV .i64 above else undef), (bif !all then bV (decide ((ks.getD i 0) > above)) else undef), (bif all || (decide ((ks.getD i 0) > above)) then bV ((nxt above all (ks.take i)).2) else undef), (bif all || (decide ((ks.getD i 0) > above)) then bV (!((nxt above all (ks.take i)).2)) else undef), (bif all || (decide ((ks.getD i 0) > above)) then bV (!((nxt above all (ks.take i)).2)) else undef), (bif (all || (decide ((ks.getD i 0) > above))) && !(!((nxt above all (ks.take i)).2)) then pV rb 0 else undef), (bif (all || (decide ((ks.getD i 0) > above))) && !(!((nxt above all (ks.take i)).2)) then pV rb 0 else undef), (bif (all || (decide ((ks.getD i 0) > above))) && !(!((nxt above all (ks.take i)).2)) then pV rb 0 else undef), (bif (all || (decide ((ks.getD i 0) > above))) && !(!((nxt above all (ks.take i)).2)) then Value.slice gk.a ks.length gk.cap else undef), (bif (all || (decide ((ks.getD i 0) > above))) && !(!((nxt above all (ks.take i)).2)) then nV .i64 i else undef), (bif (all || (decide ((ks.getD i 0) > above))) && !(!((nxt above all (ks.take i)).2)) then Value.pointer (some (ela gk.a (i * 1))) else undef), (bif (all || (decide ((ks.getD i 0) > above))) && !(!((nxt above all (ks.take i)).2)) then iV .i64 (ks.getD i 0) else undef), (bif (all || (decide ((ks.getD i 0) > above))) && !(!((nxt above all (ks.take i)).2)) then iV .i64 ((nxt above all (ks.take i)).1) else undef), (bif (all || (decide ((ks.getD i 0) > above))) && !(!((nxt above all (ks.take i)).2)) then bV (decide ((ks.getD i 0) < ((nxt above all (ks.take i)).1))) else undef), (bif all || (decide ((ks.getD i 0) > above)) then bV ((!((nxt above all (ks.take i)).2)) || (decide ((ks.getD i 0) < ((nxt above all (ks.take i)).1)))) else undef)] ma0 (fun f44 => W.region (Wl.run 1 ma0 (Wl.nil (hK16 _ _ _ ?_))))
   refine W.prune' [0, 1, 2, 8, 9, 10, 22, 23, 24, 25, 26, 27, 28, 29, 30, 33, 34, 35, 36, 37, 38, 39, 40, 41, 42, 43, 44, 45] [pV rb 0, iV .i64 above, bV all, iV .i64 (ks.getD i 0), bV true, nV .i64 i, (bif !all then pV rb 0 else undef), (bif !all then pV rb 0 else undef), (bif !all then pV rb 0 else undef), (bif !all then Value.slice gk.a ks.length gk.cap else undef), (bif !all then nV .i64 i else undef), (bif !all then Value.pointer (some (ela gk.a (i * 1))) else undef), (bif !all then iV .i64 (ks.getD i 0) else undef), (bif !all then iV .i64 above else undef), (bif !all then bV (decide ((ks.getD i 0) > above)) else undef), (bif all || (decide ((ks.getD i 0) > above)) then bV ((nxt above all (ks.take i)).2) else undef), (bif all || (decide ((ks.getD i 0) > above)) then bV (!((nxt above all (ks.take i)).2)) else undef), (bif all || (decide ((ks.getD i 0) > above)) then bV (!((nxt above all (ks.take i)).2)) else undef), (bif (all || (decide ((ks.getD i 0) > above))) && !(!((nxt above all (ks.take i)).2)) then pV rb 0 else undef), (bif (all || (decide ((ks.getD i 0) > above))) && !(!((nxt above all (ks.take i)).2)) then pV rb 0 else undef), (bif (all || (decide ((ks.getD i 0) > above))) && !(!((nxt above all (ks.take i)).2)) then pV rb 0 else undef), (bif (all || (decide ((ks.getD i 0) > above))) && !(!((nxt above all (ks.take i)).2)) then Value.slice gk.a ks.length gk.cap else undef), (bif (all || (decide ((ks.getD i 0) > above))) && !(!((nxt above all (ks.take i)).2)) then nV .i64 i else undef), (bif (all || (decide ((ks.getD i 0) > above))) && !(!((nxt above all (ks.take i)).2)) then Value.pointer (some (ela gk.a (i * 1))) else undef), (bif (all || (decide ((ks.getD i 0) > above))) && !(!((nxt above all (ks.take i)).2)) then iV .i64 (ks.getD i 0) else undef), (bif (all || (decide ((ks.getD i 0) > above))) && !(!((nxt above all (ks.take i)).2)) then iV .i64 ((nxt above all (ks.take i)).1) else undef), (bif (all || (decide ((ks.getD i 0) > above))) && !(!((nxt above all (ks.take i)).2)) then bV (decide ((ks.getD i 0) < ((nxt above all (ks.take i)).1))) else undef), (bif all || (decide ((ks.getD i 0) > above)) then bV ((!((nxt above all (ks.take i)).2)) || (decide ((ks.getD i 0) < ((nxt above all (ks.take i)).1)))) else undef)] ma0 (fun f45 => W.region (Wl.run 1 ma0 (Wl.ys (v := nV .i64 (i + 1)) rfl rfl ((Ys.pure (v := .int .i64 (iadd .i64 (i : Int) 1)) (fun _ => kr)).conseq (int_congr (iadd_eq ma1 ma1 ma1))) (Wl.run 1 ma0 ?_))))
   refine Wl.nil ?_
   have hns_ : nxt above all (ks.take (i + 1)) = (ks.getD i 0, true) := by rw [nxt_take ma1]; unfold nxS; rw [show ((all || decide (ks.getD i 0 > above)) && ((!(nxt above all (ks.take i)).2) || decide (ks.getD i 0 < (nxt above all (ks.take i)).1))) = true from h41]; rfl
   refine fun w_ h_ => hJ7 (i + 1) _ w_ ma1 ma1 ?_ h_
   refine Eq.trans (b := ([pV rb 0, iV .i64 above, bV all, iV .i64 (ks.getD i 0), bV true, nV .i64 (i + 1)] : List Value)) ma0 (by rw [hns_])
  ·have qh42 := h42; try simp only [zA] at qh42
   refine W.skip' (hK16 _ _ _ (W.prune' [0, 1, 2, 8, 9, 10, 22, 23, 24, 25, 26, 27, 28, 29, 30, 33, 34, 35, 36, 37, 38, 39, 40, 41, 42, 43, 44, 45] [pV rb 0, iV .i64 above, bV all, iV .i64 ((nxt above all (ks.take i)).1), bV ((nxt above all (ks.take i)).2), nV .i64 i, (bif !all then pV rb 0 else undef), (bif !all then pV rb 0 else undef), (bif !all then pV rb 0 else undef), (bif !all then Value.slice gk.a ks.length gk.cap else undef), (bif !all then nV .i64 i else undef), (bif !all then Value.pointer (some (ela gk.a (i * 1))) else undef), (bif !all then iV .i64 (ks.getD i 0) else undef), (bif !all then iV .i64 above else undef), (bif !all then bV (decide ((ks.getD i 0) > above)) else undef), (bif all || (decide ((ks.getD i 0) > above)) then bV ((nxt above all (ks.take i)).2) else undef), (bif all || (decide ((ks.getD i 0) > above)) then bV (!((nxt above all (ks.take i)).2)) else undef), (bif all || (decide ((ks.getD i 0) > above)) then bV (!((nxt above all (ks.take i)).2)) else undef), (bif (all || (decide ((ks.getD i 0) > above))) && !(!((nxt above all (ks.take i)).2)) then pV rb 0 else undef), (bif (all || (decide ((ks.getD i 0) > above))) && !(!((nxt above all (ks.take i)).2)) then pV rb 0 else undef), (bif (all || (decide ((ks.getD i 0) > above))) && !(!((nxt above all (ks.take i)).2)) then pV rb 0 else undef), (bif (all || (decide ((ks.getD i 0) > above))) && !(!((nxt above all (ks.take i)).2)) then Value.slice gk.a ks.length gk.cap else undef), (bif (all || (decide ((ks.getD i 0) > above))) && !(!((nxt above all (ks.take i)).2)) then nV .i64 i else undef), (bif (all || (decide ((ks.getD i 0) > above))) && !(!((nxt above all (ks.take i)).2)) then Value.pointer (some (ela gk.a (i * 1))) else undef), (bif (all || (decide ((ks.getD i 0) > above))) && !(!((nxt above all (ks.take i)).2)) then iV .i64 (ks.getD i 0) else undef), (bif (all || (decide ((ks.getD i 0) > above))) && !(!((nxt above all (ks.take i)).2)) then iV .i64 ((nxt above all (ks.take i)).1) else undef), (bif (all || (decide ((ks.getD i 0) > above))) && !(!((nxt above all (ks.take i)).2)) then bV (decide ((ks.getD i 0) < ((nxt above all (ks.take i)).1))) else undef), (bif all || (decide ((ks.getD i 0) > above)) then bV ((!((nxt above all (ks.take i)).2)) || (decide ((ks.getD i 0) < ((nxt above all (ks.take i)).1)))) else undef)] ma0 (fun f46 => W.region (Wl.run 1 ma0 ?_))))
   refine Wl.ys (v := nV .i64 (i + 1)) rfl rfl ((Ys.pure (v := .int .i64 (iadd .i64 (i : Int) 1)) (fun _ => kr)).conseq (int_congr (iadd_eq ma1 ma1 ma1))) (Wl.run 1 ma0 (Wl.nil ?_))
   have hns_ : nxt above all (ks.take (i + 1)) = nxt above all (ks.take i) := by rw [nxt_take ma1]; unfold nxS; rw [show ((all || decide (ks.getD i 0 > above)) && ((!(nxt above all (ks.take i)).2) || decide (ks.getD i 0 < (nxt above all (ks.take i)).1))) = false from h42]; rfl
   refine fun w_ h_ => hJ7 (i + 1) _ w_ ma1 ma1 ?_ h_
   refine Eq.trans (b := ([pV rb 0, iV .i64 above, bV all, iV .i64 ((nxt above all (ks.take i)).1), bV ((nxt above all (ks.take i)).2), nV .i64 (i + 1)] : List Value)) ma0 (by rw [hns_])
 ·have qh14 := h14; try simp only [zA] at qh14
  refine W.exit (hK5 _ _ _ (W.prune' [8, 9] [iV .i64 ((nxt above all (ks.take i)).1), bV ((nxt above all (ks.take i)).2)] ma0 (fun f47 => W.seq (fun K48 hK48 => W.region ?_))))
  refine Wl.run 4 ma0 (Wl.nil (hK48 _ _ _ (W.prune' [6, 7] [iV .i64 ((nxt above all (ks.take i)).1), bV ((nxt above all (ks.take i)).2)] ma0 (fun f49 => W.ret ?_))))
  show ∀ w_, _ → bodyPostM (fence none) 0 Try.prog Try.f45 _ Exit.ret _ w_
  exact fun w_ hS_ => fin_ret (ret2 rfl (RV.tmp (v := iV .i64 ((nxt above all (ks.take i)).1)) ma0) (RV.tmp (v := bV ((nxt above all (ks.take i)).2)) ma0) hS_ ⟨(), trivial, congrArg Ending.returned ((by rw [show i = ks.length by omega, List.take_length])), (hS_.pick [0, 1, 2] ma3 rfl)⟩)
theorem rput_c (ks vs : List Int) (gk gv : FS) (most : Int) (rb : Nat) (M : List Nat) (k v : Int) (w : World) (hl : Mem w M [gk.seg 3 (mc (Value.int .i64) ks), gv.seg 3 (mc (Value.int .i64) vs), [cb rb [Value.slice gk.a ks.length gk.cap, Value.slice gv.a vs.length gv.cap, Value.int .i64 most] 46]] w) (okk : gk.ok 1 ks.length) (okv : gv.ok 1 vs.length) (hn : ks.length ≤ 100000) (hv : vs.length = ks.length) : Calls Try.prog 22 #[pV rb 0, iV .i64 k, iV .i64 v] w (RetM w (fun q : FS × FS => q.1.ok 1 (rputK most ks k).length ∧ q.2.ok 1 (rputV most ks vs k v).length) (fun _ => .int .i64 (rputR most ks k)) M (fun q => [q.1.seg 3 (mc (Value.int .i64) (rputK most ks k)), q.2.seg 3 (mc (Value.int .i64) (rputV most ks vs k v)), [cb rb [.slice q.1.a (rputK most ks k).length q.1.cap, .slice q.2.a (rputV most ks vs k v).length q.2.cap, .int .i64 most] 46]])) := by
 have hck_ := okk.le; have hcv_ := okv.le
 refine calls_W (M := M) (LL := [gk.seg 3 (mc (Value.int .i64) ks), gv.seg 3 (mc (Value.int .i64) vs), [cb rb [Value.slice gk.a ks.length gk.cap, Value.slice gv.a vs.length gv.cap, iV .i64 most] 46]]) (n := 50) Try.func22 rfl rfl sp (hl) (W.seq (fun K1 hK1 => ?_))
 refine W.region (Wl.run 1 ma0 (Wl.nil (hK1 _ _ _ (W.seq (fun K2 hK2 => ?_)))))
 refine W.region (Wl.run 2 ma0 (Wl.yc (v := iV .i64 (atR ks k)) rfl rfl (Yc.call (fun _ => kr) (fun w_ hm_ => (let z_ := Mem.local' (hm_.pick [0, 1, 2] ma3 rfl); ret_same z_ (rat_c ks vs gk gv most rb _ k w_ z_ okk okv ma1 ma1)))) (Wl.run 1 ma0 (Wl.nil ?_))))
 refine hK2 _ _ _ (W.prune' [0, 1, 2, 7] [pV rb 0, iV .i64 k, iV .i64 v, iV .i64 (atR ks k)] ma0 (fun f3 => ?_))
 refine W.seq (fun K4 hK4 => W.seq (fun K5 hK5 => ?_))
 refine W.region (Wl.run 2 ma0 (Wl.nil (hK5 _ _ _ (W.prune' [0, 1, 2, 7, 12] [pV rb 0, iV .i64 k, iV .i64 v, iV .i64 (atR ks k), bV (decide ((atR ks k) ≥ 0))] ma0 (fun f6 => ?_)))))
 refine W.cond (decide ((atR ks k) ≥ 0)) ma0 (fun h7 => ?_) (fun h8 => ?_)
 ·have qh7 := h7; try simp only [zA] at qh7
  refine W.seq (fun K9 hK9 => ?_)
  have hat_ := atR_nat (by have z_ := qh7; omega)
  refine W.region (Wl.run 3 ma0 (Wl.ys rfl rfl (Ys.l1 rb 1 2 0 Try.isAgg39) (Wl.run 2 ma0 (Wl.ys (v := Value.pointer (some (ela gv.a (((atR ks k).toNat) * 1)))) rfl rfl (Ys.indexAddr (k := .i64) (a := gv.a) (len := vs.length) (cap := gv.cap) (i := atR ks k) (sz := 1) rfl ma0 ma0 Try.runUnderlying39 Try.sizeOf3 ma1 ma1 (by rw [FS.a_own (FS.notnil okv ma1)]; rfl)) ?_))))
  refine Wl.ht rfl (Ht.storeFS (i := 1) (g := gv) (q := ((atR ks k).toNat) * 1) (ty := 3) (cs := mc (Value.int .i64) vs) (cs' := mc (Value.int .i64) (vs.set ((atR ks k).toNat) v)) (v := iV .i64 v) (LL' := [gk.seg 3 (mc (Value.int .i64) ks), gv.seg 3 (mc (Value.int .i64) (vs.set ((atR ks k).toNat) v)), [cb rb [Value.slice gk.a ks.length gk.cap, Value.slice gv.a vs.length gv.cap, iV .i64 most] 46]]) rfl rfl ma0 ma0 Try.sizeOf3 rfl (FS.notnil okv ma1) rfl (by first | (simp [mc]; done) | (simp [mc]; omega)) (mc_set1 (g := Value.int .i64) vs ((atR ks k).toNat) v) rfl) (fun _ => Wl.nil (hK9 _ _ _ (W.prune' [] [] ma0 (fun f10 => W.seq (fun K11 hK11 => ?_)))))
  refine W.region (Wl.run 1 ma0 (Wl.nil (hK11 _ _ _ (W.ret ?_))))
  have hK : rputK most ks k = ks := by unfold rputK; simp only [h7, cond_true, cond_false]
  have hV : rputV most ks vs k v = vs.set ((atR ks k).toNat) v := by unfold rputV; simp only [h7, cond_true, cond_false]
  have hKl : (rputK most ks k).length = ks.length := by rw [hK]; first | done | rfl | (simp; done) | (simp; omega)
  have hVl : (rputV most ks vs k v).length = vs.length := by rw [hV]; first | done | rfl | (simp; done) | (simp; omega)
  show ∀ w_, _ → bodyPostM (fence none) 0 Try.prog Try.f22 _ Exit.ret _ w_
  exact fun w_ hS_ => fin_ret (ret1 rfl (RV.tmp (v := iV .i64 0) ma0) hS_ ⟨(gk, gv), ⟨(by rw [hKl]; exact okk), (by rw [hVl]; exact okv)⟩, congrArg Ending.returned ((by unfold rputR; simp only [h7, cond_true, cond_false])), (Mem.cast (by rw [hKl, hVl, hK, hV]; rfl) (hS_.pick [0, 1, 2] ma3 rfl))⟩)
 ·have qh8 := h8; try simp only [zA] at qh8
  refine W.skip' (hK4 _ _ _ (W.prune' [0, 1, 2] [pV rb 0, iV .i64 k, iV .i64 v] ma0 (fun f12 => W.seq (fun K13 hK13 => W.seq (fun K14 hK14 => ?_)))))
  refine W.draws [(0, true), (1, true), (2, true), (3, true), (4, true), (5, false), (6, false), (7, false), (8, false), (9, false)] [0, 1, 2, 3, 4] (Mem w M [gk.seg 3 (mc (Value.int .i64) ks), gv.seg 3 (mc (Value.int .i64) vs), [cb rb [Value.slice gk.a ks.length gk.cap, Value.slice gv.a vs.length gv.cap, iV .i64 most] 46]]) ma0 ma0 ma0 rfl ma0 (fun _ _ h_ => h_.drawn _) (fun _ h_ => h_) (Wd.run 3 ma0 (Wd.ys rfl rfl rfl (Ys.l1 rb 0 2 0 Try.isAgg39) (Wd.run 1 ma0 (Wd.yc (v := pV rb 0) rfl rfl rfl (Ys.yc (Ys.pure (fun _ => kr))) (.inr fun _ h_ => h_) ?_))))
  refine Wd.yc (v := pV rb 0) rfl rfl rfl (Ys.yc (Ys.pure (fun _ => kr))) (.inr fun _ h_ => h_) (Wd.yc (v := pV rb 2) rfl rfl rfl (Ys.yc (Ys.pure (fun _ => kr))) (.inr fun _ h_ => h_) (Wd.yc (v := iV .i64 most) rfl rfl rfl (Ys.yc (Ys.l1 rb 2 2 0 Try.isAgg3)) (.inr fun _ h_ => h_) (Wd.yc (v := bV (((ks.length : Nat) : Int) == most)) rfl rfl rfl (Ys.yc (Ys.pure (fun _ => kr))) (.inr fun _ h_ => h_) (Wd.nil ?_))))
  refine hK14 _ _ _ (W.prune' [0, 1, 2, 29] [pV rb 0, iV .i64 k, iV .i64 v, bV (((ks.length : Nat) : Int) == most)] ma0 (fun f15 => ?_))
  refine W.cond (((ks.length : Nat) : Int) == most) ma0 (fun h16 => ?_) (fun h17 => ?_)
  ·have qh16 := h16; try simp only [zA] at qh16
   refine W.seq (fun K18 hK18 => W.region (Wl.run 1 ma0 (Wl.nil (hK18 _ _ _ ?_))))
   refine W.ret ?_
   have hK : rputK most ks k = ks := by unfold rputK; simp only [h8, h16, cond_true, cond_false]
   have hV : rputV most ks vs k v = vs := by unfold rputV; simp only [h8, h16, cond_true, cond_false]
   have hKl : (rputK most ks k).length = ks.length := by rw [hK]; first | done | rfl | (simp; done) | (simp; omega)
   have hVl : (rputV most ks vs k v).length = vs.length := by rw [hV]; first | done | rfl | (simp; done) | (simp; omega)
   show ∀ w_, _ → bodyPostM (fence none) 0 Try.prog Try.f22 _ Exit.ret _ w_
   exact fun w_ hS_ => fin_ret (ret1 rfl (RV.tmp (v := iV .i64 20) ma0) hS_ ⟨(gk, gv), ⟨(by rw [hKl]; exact okk), (by rw [hVl]; exact okv)⟩, congrArg Ending.returned ((by unfold rputR; simp only [h8, h16, cond_true, cond_false])), (Mem.cast (by rw [hKl, hVl, hK, hV]; rfl) (hS_.pick [0, 1, 2] ma3 rfl))⟩)
  ·have qh17 := h17; try simp only [zA] at qh17
   refine W.skip' (hK13 _ _ _ (W.prune' [0, 1, 2] [pV rb 0, iV .i64 k, iV .i64 v] ma0 (fun f19 => W.seq (fun K20 hK20 => W.region ?_))))
   refine Wl.run 4 ma0 (Wl.ys rfl rfl (Ys.l1 rb 0 2 0 Try.isAgg39) (Wl.run 1 ma0 (Wl.ht rfl (Ht.made (mk := fun b_ => .slice (some ⟨b_, 0, none⟩) 1 1) (t := 3) (cs := [iV .i64 k]) rfl (fun _ => kr)) (fun p36 => Wl.htS rfl (HtS.append (eu := 3) (xv := Value.slice (some ⟨p36, 0, none⟩) 1 1) (i := 1) (g := gk) (e := 3) (ii := (Try.prog.info? 3).getD default) (z := iV .i64 0) (sz := 1) (bytes := 8) (nn := ks.length) (m := 1) (k := (ks ++ [k]).length) (xs := mc (Value.int .i64) ks) (news := mc (Value.int .i64) [k]) (cs' := mc (Value.int .i64) (ks ++ [k])) (Lo := fun g21 => [[cb p36 [iV .i64 k] 3], g21.seg 3 (mc (Value.int .i64) (ks ++ [k])), gv.seg 3 (mc (Value.int .i64) vs), [cb rb [Value.slice gk.a ks.length gk.cap, Value.slice gv.a vs.length gv.cap, iV .i64 most] 46]]) rfl rfl ma0 ma0 ma0 ma0 ma0 ma0 ma0 ma0 ma0 rfl okk (mc_len1 _) (fun _ => rfl) (Src.at (a := some ⟨p36, 0, none⟩) ma2 (fun w_ h_ => (At.lit0 (i := 0) (j := 0) (t := 3) (b := p36) h_ rfl rfl))) ma2 (mc_one (fun _ => rfl) _) ma4 ma6 ma4 (mc_app _ _) (fun _ => rfl)) (fun g21 hx26 => ?_)))))
   obtain ⟨ok22, hn23, hn24⟩ := hx26
   refine Wl.run 2 ma0 (Wl.ht rfl (Ht.store (b := rb) (o' := 0) (i := 3) (j := 0) (v := sV g21 ((ks ++ [k]).length)) (LL' := [[cb p36 [iV .i64 k] 3], g21.seg 3 (mc (Value.int .i64) (ks ++ [k])), gv.seg 3 (mc (Value.int .i64) vs), [cb rb [sV g21 ((ks ++ [k]).length), Value.slice gv.a vs.length gv.cap, iV .i64 most] 46]]) rfl rfl ma0 ma0 Try.sizeOf39 rfl rfl rfl sp rfl rfl) (fun _ => ?_))
   refine Wl.nil (hK20 _ _ _ (W.pick (LL' := [g21.seg 3 (mc (Value.int .i64) (ks ++ [k])), gv.seg 3 (mc (Value.int .i64) vs), [cb rb [sV g21 ((ks ++ [k]).length), Value.slice gv.a vs.length gv.cap, iV .i64 most] 46]]) [1, 2, 3] ma3 rfl (W.prune' [0, 2] [pV rb 0, iV .i64 v] ma0 (fun f27 => W.seq (fun K28 hK28 => ?_)))))
   refine W.region (Wl.run 4 ma0 (Wl.ys rfl rfl (Ys.l1 rb 1 2 0 Try.isAgg39) (Wl.run 1 ma0 (Wl.ht rfl (Ht.made (mk := fun b_ => .slice (some ⟨b_, 0, none⟩) 1 1) (t := 3) (cs := [iV .i64 v]) rfl (fun _ => kr)) (fun p46 => ?_)))))
   refine Wl.htS rfl (HtS.append (eu := 3) (xv := Value.slice (some ⟨p46, 0, none⟩) 1 1) (i := 2) (g := gv) (e := 3) (ii := (Try.prog.info? 3).getD default) (z := iV .i64 0) (sz := 1) (bytes := 8) (nn := vs.length) (m := 1) (k := (vs ++ [v]).length) (xs := mc (Value.int .i64) vs) (news := mc (Value.int .i64) [v]) (cs' := mc (Value.int .i64) (vs ++ [v])) (Lo := fun g29 => [[cb p46 [iV .i64 v] 3], g21.seg 3 (mc (Value.int .i64) (ks ++ [k])), g29.seg 3 (mc (Value.int .i64) (vs ++ [v])), [cb rb [sV g21 ((ks ++ [k]).length), Value.slice gv.a vs.length gv.cap, iV .i64 most] 46]]) rfl rfl ma0 ma0 ma0 ma0 ma0 ma0 ma0 ma0 ma0 rfl okv (mc_len1 _) (fun _ => rfl) (Src.at (a := some ⟨p46, 0, none⟩) ma2 (fun w_ h_ => (At.lit0 (i := 0) (j := 0) (t := 3) (b := p46) h_ rfl rfl))) ma2 (mc_one (fun _ => rfl) _) ma4 ma6 ma4 (mc_app _ _) (fun _ => rfl)) (fun g29 hx34 => ?_)
   obtain ⟨ok30, hn31, hn32⟩ := hx34
   refine Wl.run 2 ma0 (Wl.ht rfl (Ht.store (b := rb) (o' := 1) (i := 3) (j := 0) (v := sV g29 ((vs ++ [v]).length)) (LL' := [[cb p46 [iV .i64 v] 3], g21.seg 3 (mc (Value.int .i64) (ks ++ [k])), g29.seg 3 (mc (Value.int .i64) (vs ++ [v])), [cb rb [sV g21 ((ks ++ [k]).length), sV g29 ((vs ++ [v]).length), iV .i64 most] 46]]) rfl rfl ma0 ma0 Try.sizeOf39 rfl rfl rfl sp rfl rfl) (fun _ => ?_))
   refine Wl.nil (hK28 _ _ _ (W.pick (LL' := [g21.seg 3 (mc (Value.int .i64) (ks ++ [k])), g29.seg 3 (mc (Value.int .i64) (vs ++ [v])), [cb rb [sV g21 ((ks ++ [k]).length), sV g29 ((vs ++ [v]).length), iV .i64 most] 46]]) [1, 2, 3] ma3 rfl (W.prune' [] [] ma0 (fun f35 => W.seq (fun K36 hK36 => ?_)))))
   refine W.region (Wl.run 1 ma0 (Wl.nil (hK36 _ _ _ (W.ret ?_))))
   have hK : rputK most ks k = ks ++ [k] := by unfold rputK; simp only [h8, h17, cond_true, cond_false]
   have hV : rputV most ks vs k v = vs ++ [v] := by unfold rputV; simp only [h8, h17, cond_true, cond_false]
   have hKl : (rputK most ks k).length = (ks ++ [k]).length := by rw [hK]; first | done | rfl | (simp; done) | (simp; omega)
   have hVl : (rputV most ks vs k v).length = (vs ++ [v]).length := by rw [hV]; first | done | rfl | (simp; done) | (simp; omega)
   show ∀ w_, _ → bodyPostM (fence none) 0 Try.prog Try.f22 _ Exit.ret _ w_
   exact fun w_ hS_ => fin_ret (ret1 rfl (RV.tmp (v := iV .i64 0) ma0) hS_ ⟨(g21, g29), ⟨(by rw [hKl]; exact ok22), (by rw [hVl]; exact ok30)⟩, congrArg Ending.returned ((by unfold rputR; simp only [h8, h17, cond_true, cond_false])), (Mem.cast (by rw [hKl, hVl, hK, hV]; rfl) (hS_.pick [0, 1, 2] ma3 rfl))⟩)
abbrev cKy3_835_0 (g18 gv : FS) (k most : Int) (ks vs : List Int) (rb : Nat) : List Blk := [cb rb [sV g18 (((atR ks k).toNat) + (ks.length - (((atR ks k) + 1).toNat))), Value.slice gv.a vs.length gv.cap, iV .i64 most] 46]
theorem rdrop_c (ks vs : List Int) (gk gv : FS) (most : Int) (rb : Nat) (M : List Nat) (k : Int) (w : World) (hl : Mem w M [gk.seg 3 (mc (Value.int .i64) ks), gv.seg 3 (mc (Value.int .i64) vs), [cb rb [Value.slice gk.a ks.length gk.cap, Value.slice gv.a vs.length gv.cap, Value.int .i64 most] 46]] w) (okk : gk.ok 1 ks.length) (okv : gv.ok 1 vs.length) (hn : ks.length ≤ 100000) (hv : vs.length = ks.length) : Calls Try.prog 28 #[pV rb 0, iV .i64 k] w (RetM w (fun q : FS × FS => q.1.ok 1 (rdropL ks ks k).length ∧ q.2.ok 1 (rdropL ks vs k).length) (fun _ => .bool (!(decide (atR ks k < 0)))) M (fun q => [q.1.seg 3 (mc (Value.int .i64) (rdropL ks ks k)), q.2.seg 3 (mc (Value.int .i64) (rdropL ks vs k)), [cb rb [.slice q.1.a (rdropL ks ks k).length q.1.cap, .slice q.2.a (rdropL ks vs k).length q.2.cap, .int .i64 most] 46]])) := by
 have hck_ := okk.le; have hcv_ := okv.le
 refine calls_W (M := M) (LL := [gk.seg 3 (mc (Value.int .i64) ks), gv.seg 3 (mc (Value.int .i64) vs), [cb rb [Value.slice gk.a ks.length gk.cap, Value.slice gv.a vs.length gv.cap, iV .i64 most] 46]]) (n := 49) Try.func28 rfl rfl sp (hl) (W.seq (fun K1 hK1 => ?_))
 refine W.region (Wl.run 1 ma0 (Wl.nil (hK1 _ _ _ (W.seq (fun K2 hK2 => ?_)))))
 refine W.region (Wl.run 2 ma0 (Wl.yc (v := iV .i64 (atR ks k)) rfl rfl (Yc.call (fun _ => kr) (fun w_ hm_ => (let z_ := Mem.local' (hm_.pick [0, 1, 2] ma3 rfl); ret_same z_ (rat_c ks vs gk gv most rb _ k w_ z_ okk okv ma1 ma1)))) (Wl.run 1 ma0 (Wl.nil ?_))))
 refine hK2 _ _ _ (W.prune' [0, 5] [pV rb 0, iV .i64 (atR ks k)] ma0 (fun f3 => ?_))
 refine W.seq (fun K4 hK4 => W.seq (fun K5 hK5 => ?_))
 refine W.region (Wl.run 2 ma0 (Wl.nil (hK5 _ _ _ (W.prune' [0, 5, 10] [pV rb 0, iV .i64 (atR ks k), bV (decide ((atR ks k) < 0))] ma0 (fun f6 => ?_)))))
 refine W.cond (decide ((atR ks k) < 0)) ma0 (fun h7 => ?_) (fun h8 => ?_)
 ·have qh7 := h7; try simp only [zA] at qh7
  refine W.seq (fun K9 hK9 => W.region (Wl.run 1 ma0 (Wl.nil (hK9 _ _ _ ?_))))
  refine W.ret ?_
  have hK : rdropL ks ks k = ks := by unfold rdropL; simp only [h7, cond_true, cond_false]
  have hV : rdropL ks vs k = vs := by unfold rdropL; simp only [h7, cond_true, cond_false]
  have hKl : (rdropL ks ks k).length = ks.length := by rw [hK]; first | done | rfl | (simp; done) | (simp; omega)
  have hVl : (rdropL ks vs k).length = vs.length := by rw [hV]; first | done | rfl | (simp; done) | (simp; omega)
  show ∀ w_, _ → bodyPostM (fence none) 0 Try.prog Try.f28 _ Exit.ret _ w_
  exact fun w_ hS_ => fin_ret (ret1 rfl (RV.tmp (v := bV false) ma0) hS_ ⟨(gk, gv), ⟨(by rw [hKl]; exact okk), (by rw [hVl]; exact okv)⟩, congrArg Ending.returned ((by simp only [h7]; rfl)), (Mem.cast (by rw [hKl, hVl, hK, hV]; rfl) (hS_.pick [0, 1, 2] ma3 rfl))⟩)
 ·have qh8 := h8; try simp only [zA] at qh8
  refine W.skip' (hK4 _ _ _ (W.prune' [0, 5] [pV rb 0, iV .i64 (atR ks k)] ma0 (fun f10 => W.seq (fun K11 hK11 => ?_))))
  have hat_ := atR_nat (ks := ks) (k := k) (by have z_ := qh8; omega)
  refine W.draws [(0, true), (2, true), (3, true), (4, true), (5, true), (6, true), (7, true), (9, true), (10, true), (11, true), (12, true), (13, true), (14, true), (15, true), (1, false), (8, false), (16, false), (17, false), (18, false), (19, false)] [0, 2, 3, 4, 5, 6, 7, 9, 10, 11, 12, 13, 14, 15] (Mem w M [gk.seg 3 (mc (Value.int .i64) ks), gv.seg 3 (mc (Value.int .i64) vs), [cb rb [Value.slice gk.a ks.length gk.cap, Value.slice gv.a vs.length gv.cap, iV .i64 most] 46]]) ma0 ma0 ma0 rfl ma0 (fun _ _ h_ => h_.drawn _) (fun _ h_ => h_) (Wd.run 4 ma0 (Wd.ys rfl rfl rfl (Ys.l1 rb 0 2 0 Try.isAgg39) (Wd.run 1 ma0 (Wd.ys (v := Value.slice gk.a ((atR ks k).toNat) gk.cap) rfl rfl rfl (Ys.sliceH (a := gk.a) (len := ks.length) (cap := gk.cap) (sz := 1) (k := .i64) (i := atR ks k) rfl ma0 ma0 Try.runUnderlying39 Try.sizeOf3 ma1 ma1) ?_))))
  refine Wd.run 3 ma0 (Wd.ys rfl rfl rfl (Ys.l1 rb 0 2 0 Try.isAgg39) (Wd.run 1 ma0 (Wd.ys (v := iV .i64 ((atR ks k) + 1)) rfl rfl rfl ((Ys.pure (v := .int .i64 (iadd .i64 (atR ks k) 1)) (fun _ => kr)).conseq (int_congr (iadd_eq ma1 ma1 ma1))) (Wd.ys (v := Value.slice (sla gk.a gk.cap (((atR ks k) + 1).toNat) 1) (ks.length - (((atR ks k) + 1).toNat)) (gk.cap - (((atR ks k) + 1).toNat))) rfl rfl rfl (Ys.sliceL (a := gk.a) (len := ks.length) (cap := gk.cap) (sz := 1) (k := .i64) (i := (atR ks k) + 1) rfl ma0 ma0 Try.runUnderlying39 Try.sizeOf3 ma1 ma1) ?_))))
  refine Wd.ht rfl rfl (Ht.made (mk := fun b_ => .slice (some ⟨b_, 0, none⟩) 0 0) (t := 3) (cs := []) rfl (fun _ => kr)) (.inr fun _ _ h_ => h_.pick [1, 2, 3] ma3 rfl) (fun p12 => Wd.htS rfl rfl (HtS.append (eu := 3) (xv := Value.slice gk.a ((atR ks k).toNat) gk.cap) (i := 0) (g := (FS.mk false p12 0 [])) (e := 3) (ii := (Try.prog.info? 3).getD default) (z := iV .i64 0) (sz := 1) (bytes := 8) (nn := 0) (m := (atR ks k).toNat) (k := (atR ks k).toNat) (xs := mc (Value.int .i64) []) (news := mc (Value.int .i64) (ks.take ((atR ks k).toNat))) (cs' := mc (Value.int .i64) (ks.take ((atR ks k).toNat))) (Lo := fun g12 => [g12.seg 3 (mc (Value.int .i64) (ks.take ((atR ks k).toNat))), gk.seg 3 (mc (Value.int .i64) ks), gv.seg 3 (mc (Value.int .i64) vs), [cb rb [Value.slice gk.a ks.length gk.cap, Value.slice gv.a vs.length gv.cap, iV .i64 most] 46]]) rfl rfl ma0 ma0 ma0 ma0 ma0 ma0 ma0 ma0 ma0 rfl (FS.lit_ok ma3) (by first | rfl | simp [mc]) (fun _ => rfl) (Src.at (a := gk.a) ma2 (fun w_ h_ => ((FS.at (i := 1) (t := 3) h_ rfl (FS.nil_cs okk (mc_len1 _))).mtake ((atR ks k).toNat)))) ma2 (mc_one (fun _ => rfl) _) ma4 ma6 ma4 rfl (fun _ => rfl)) (.inr fun _ _ h_ => h_.pick [1, 2, 3] ma3 rfl) (fun g12 hx17 => ?_))
  obtain ⟨ok13, hn14, hn15⟩ := hx17
  refine Wd.htS rfl rfl (HtS.append (eu := 3) (xv := Value.slice (sla gk.a gk.cap (((atR ks k) + 1).toNat) 1) (ks.length - (((atR ks k) + 1).toNat)) (gk.cap - (((atR ks k) + 1).toNat))) (i := 0) (g := g12) (e := 3) (ii := (Try.prog.info? 3).getD default) (z := iV .i64 0) (sz := 1) (bytes := 8) (nn := (atR ks k).toNat) (m := ks.length - (((atR ks k) + 1).toNat)) (k := ((atR ks k).toNat) + (ks.length - (((atR ks k) + 1).toNat))) (xs := mc (Value.int .i64) (ks.take ((atR ks k).toNat))) (news := mc (Value.int .i64) (ks.drop (((atR ks k) + 1).toNat))) (cs' := mc (Value.int .i64) ((ks.take ((atR ks k).toNat)) ++ (ks.drop (((atR ks k) + 1).toNat)))) (Lo := fun g18 => [g18.seg 3 (mc (Value.int .i64) ((ks.take ((atR ks k).toNat)) ++ (ks.drop (((atR ks k) + 1).toNat)))), gk.seg 3 (mc (Value.int .i64) ks), gv.seg 3 (mc (Value.int .i64) vs), [cb rb [Value.slice gk.a ks.length gk.cap, Value.slice gv.a vs.length gv.cap, iV .i64 most] 46]]) rfl rfl ma0 ma0 ma0 ma0 ma0 ma0 ma0 ma0 ma0 rfl ok13 (by simp [mc]; try omega) (fun _ => rfl) (Src.at (a := sla gk.a gk.cap (((atR ks k) + 1).toNat) 1) ma2 (fun w_ h_ => ((FS.at (i := 1) (t := 3) h_ rfl (FS.nil_cs okk (mc_len1 _))).mdrop gk.cap (((atR ks k) + 1).toNat) ma1))) ma2 (mc_one (fun _ => rfl) _) ma4 ma6 ma4 (mc_app _ _) (fun _ => rfl)) (.inr fun _ _ h_ => h_.pick [1, 2, 3] ma3 rfl) (fun g18 hx23 => ?_)
  obtain ⟨ok19, hn20, hn21⟩ := hx23
  refine Wd.yc (v := pV rb 0) rfl rfl rfl (Ys.yc (Ys.pure (fun _ => kr))) (.inl ma0) (Wd.yc (v := pV rb 0) rfl rfl rfl (Ys.yc (Ys.pure (fun _ => kr))) (.inl ma0) (Wd.ht rfl rfl (Ht.store (b := rb) (o' := 0) (i := 3) (j := 0) (v := sV g18 (((atR ks k).toNat) + (ks.length - (((atR ks k) + 1).toNat)))) (LL' := [g18.seg 3 (mc (Value.int .i64) ((ks.take ((atR ks k).toNat)) ++ (ks.drop (((atR ks k) + 1).toNat)))), gk.seg 3 (mc (Value.int .i64) ks), gv.seg 3 (mc (Value.int .i64) vs), cKy3_835_0 g18 gv k most ks vs rb]) rfl rfl ma0 ma0 Try.sizeOf39 rfl rfl rfl sp rfl rfl) (.inl ma0) (fun _ => Wd.nil (hK11 _ _ _ ?_))))
  refine W.prune' [0, 5] [pV rb 0, iV .i64 (atR ks k)] ma0 (fun f24 => W.seq (fun K25 hK25 => ?_))
  refine W.draws [(0, true), (2, true), (3, true), (4, true), (5, true), (6, true), (7, true), (9, true), (10, true), (11, true), (12, true), (13, true), (14, true), (15, true), (1, false), (8, false), (16, false), (17, false), (18, false), (19, false)] [0, 2, 3, 4, 5, 6, 7, 9, 10, 11, 12, 13, 14, 15] (Mem w M [g18.seg 3 (mc (Value.int .i64) ((ks.take ((atR ks k).toNat)) ++ (ks.drop (((atR ks k) + 1).toNat)))), gk.seg 3 (mc (Value.int .i64) ks), gv.seg 3 (mc (Value.int .i64) vs), cKy3_835_0 g18 gv k most ks vs rb]) ma0 ma0 ma0 rfl ma0 (fun _ _ h_ => h_.drawn _) (fun _ h_ => h_) (Wd.run 4 ma0 (Wd.ys rfl rfl rfl (Ys.l1 rb 1 3 0 Try.isAgg39) (Wd.run 1 ma0 (Wd.ys (v := Value.slice gv.a ((atR ks k).toNat) gv.cap) rfl rfl rfl (Ys.sliceH (a := gv.a) (len := vs.length) (cap := gv.cap) (sz := 1) (k := .i64) (i := atR ks k) rfl ma0 ma0 Try.runUnderlying39 Try.sizeOf3 ma1 ma1) ?_))))
  refine Wd.run 3 ma0 (Wd.ys rfl rfl rfl (Ys.l1 rb 1 3 0 Try.isAgg39) (Wd.run 1 ma0 (Wd.ys (v := iV .i64 ((atR ks k) + 1)) rfl rfl rfl ((Ys.pure (v := .int .i64 (iadd .i64 (atR ks k) 1)) (fun _ => kr)).conseq (int_congr (iadd_eq ma1 ma1 ma1))) (Wd.ys (v := Value.slice (sla gv.a gv.cap (((atR ks k) + 1).toNat) 1) (vs.length - (((atR ks k) + 1).toNat)) (gv.cap - (((atR ks k) + 1).toNat))) rfl rfl rfl (Ys.sliceL (a := gv.a) (len := vs.length) (cap := gv.cap) (sz := 1) (k := .i64) (i := (atR ks k) + 1) rfl ma0 ma0 Try.runUnderlying39 Try.sizeOf3 ma1 ma1) ?_))))
  refine Wd.ht rfl rfl (Ht.made (mk := fun b_ => .slice (some ⟨b_, 0, none⟩) 0 0) (t := 3) (cs := []) rfl (fun _ => kr)) (.inr fun _ _ h_ => h_.pick [1, 2, 3, 4] ma3 rfl) (fun p31 => Wd.htS rfl rfl (HtS.append (eu := 3) (xv := Value.slice gv.a ((atR ks k).toNat) gv.cap) (i := 0) (g := (FS.mk false p31 0 [])) (e := 3) (ii := (Try.prog.info? 3).getD default) (z := iV .i64 0) (sz := 1) (bytes := 8) (nn := 0) (m := (atR ks k).toNat) (k := (atR ks k).toNat) (xs := mc (Value.int .i64) []) (news := mc (Value.int .i64) (vs.take ((atR ks k).toNat))) (cs' := mc (Value.int .i64) (vs.take ((atR ks k).toNat))) (Lo := fun g26 => [g26.seg 3 (mc (Value.int .i64) (vs.take ((atR ks k).toNat))), g18.seg 3 (mc (Value.int .i64) ((ks.take ((atR ks k).toNat)) ++ (ks.drop (((atR ks k) + 1).toNat)))), gk.seg 3 (mc (Value.int .i64) ks), gv.seg 3 (mc (Value.int .i64) vs), cKy3_835_0 g18 gv k most ks vs rb]) rfl rfl ma0 ma0 ma0 ma0 ma0 ma0 ma0 ma0 ma0 rfl (FS.lit_ok ma3) (by first | rfl | simp [mc]) (fun _ => rfl) (Src.at (a := gv.a) ma2 (fun w_ h_ => ((FS.at (i := 3) (t := 3) h_ rfl (FS.nil_cs okv (mc_len1 _))).mtake ((atR ks k).toNat)))) ma2 (mc_one (fun _ => rfl) _) ma4 ma6 ma4 rfl (fun _ => rfl)) (.inr fun _ _ h_ => h_.pick [1, 2, 3, 4] ma3 rfl) (fun g26 hx31 => ?_))
  obtain ⟨ok27, hn28, hn29⟩ := hx31
  refine Wd.htS rfl rfl (HtS.append (eu := 3) (xv := Value.slice (sla gv.a gv.cap (((atR ks k) + 1).toNat) 1) (vs.length - (((atR ks k) + 1).toNat)) (gv.cap - (((atR ks k) + 1).toNat))) (i := 0) (g := g26) (e := 3) (ii := (Try.prog.info? 3).getD default) (z := iV .i64 0) (sz := 1) (bytes := 8) (nn := (atR ks k).toNat) (m := vs.length - (((atR ks k) + 1).toNat)) (k := ((atR ks k).toNat) + (vs.length - (((atR ks k) + 1).toNat))) (xs := mc (Value.int .i64) (vs.take ((atR ks k).toNat))) (news := mc (Value.int .i64) (vs.drop (((atR ks k) + 1).toNat))) (cs' := mc (Value.int .i64) ((vs.take ((atR ks k).toNat)) ++ (vs.drop (((atR ks k) + 1).toNat)))) (Lo := fun g32 => [g32.seg 3 (mc (Value.int .i64) ((vs.take ((atR ks k).toNat)) ++ (vs.drop (((atR ks k) + 1).toNat)))), g18.seg 3 (mc (Value.int .i64) ((ks.take ((atR ks k).toNat)) ++ (ks.drop (((atR ks k) + 1).toNat)))), gk.seg 3 (mc (Value.int .i64) ks), gv.seg 3 (mc (Value.int .i64) vs), cKy3_835_0 g18 gv k most ks vs rb]) rfl rfl ma0 ma0 ma0 ma0 ma0 ma0 ma0 ma0 ma0 rfl ok27 (by simp [mc]; try omega) (fun _ => rfl) (Src.at (a := sla gv.a gv.cap (((atR ks k) + 1).toNat) 1) ma2 (fun w_ h_ => ((FS.at (i := 3) (t := 3) h_ rfl (FS.nil_cs okv (mc_len1 _))).mdrop gv.cap (((atR ks k) + 1).toNat) ma1))) ma2 (mc_one (fun _ => rfl) _) ma4 ma6 ma4 (mc_app _ _) (fun _ => rfl)) (.inr fun _ _ h_ => h_.pick [1, 2, 3, 4] ma3 rfl) (fun g32 hx37 => ?_)
  obtain ⟨ok33, hn34, hn35⟩ := hx37
  refine Wd.yc (v := pV rb 0) rfl rfl rfl (Ys.yc (Ys.pure (fun _ => kr))) (.inl ma0) (Wd.yc (v := pV rb 1) rfl rfl rfl (Ys.yc (Ys.pure (fun _ => kr))) (.inl ma0) (Wd.ht rfl rfl (Ht.store (b := rb) (o' := 1) (i := 4) (j := 0) (v := sV g32 (((atR ks k).toNat) + (vs.length - (((atR ks k) + 1).toNat)))) (LL' := [g32.seg 3 (mc (Value.int .i64) ((vs.take ((atR ks k).toNat)) ++ (vs.drop (((atR ks k) + 1).toNat)))), g18.seg 3 (mc (Value.int .i64) ((ks.take ((atR ks k).toNat)) ++ (ks.drop (((atR ks k) + 1).toNat)))), gk.seg 3 (mc (Value.int .i64) ks), gv.seg 3 (mc (Value.int .i64) vs), [cb rb [sV g18 (((atR ks k).toNat) + (ks.length - (((atR ks k) + 1).toNat))), sV g32 (((atR ks k).toNat) + (vs.length - (((atR ks k) + 1).toNat))), iV .i64 most] 46]]) rfl rfl ma0 ma0 Try.sizeOf39 rfl rfl rfl sp rfl rfl) (.inl ma0) (fun _ => Wd.nil (hK25 _ _ _ ?_))))
  refine W.prune' [] [] ma0 (fun f38 => W.seq (fun K39 hK39 => ?_))
  refine W.region (Wl.run 1 ma0 (Wl.nil (hK39 _ _ _ (W.ret ?_))))
  have hK : rdropL ks ks k = (ks.take ((atR ks k).toNat)) ++ (ks.drop (((atR ks k) + 1).toNat)) := by unfold rdropL; simp only [h8, cond_true, cond_false]
  have hV : rdropL ks vs k = (vs.take ((atR ks k).toNat)) ++ (vs.drop (((atR ks k) + 1).toNat)) := by unfold rdropL; simp only [h8, cond_true, cond_false]
  have hKl : (rdropL ks ks k).length = ((atR ks k).toNat) + (ks.length - (((atR ks k) + 1).toNat)) := by rw [hK]; first | done | rfl | (simp; done) | (simp; omega)
  have hVl : (rdropL ks vs k).length = ((atR ks k).toNat) + (vs.length - (((atR ks k) + 1).toNat)) := by rw [hV]; first | done | rfl | (simp; done) | (simp; omega)
  show ∀ w_, _ → bodyPostM (fence none) 0 Try.prog Try.f28 _ Exit.ret _ w_
  exact fun w_ hS_ => fin_ret (ret1 rfl (RV.tmp (v := bV true) ma0) hS_ ⟨(g18, g32), ⟨(by rw [hKl]; exact ok19), (by rw [hVl]; exact ok33)⟩, congrArg Ending.returned ((by simp only [h8]; rfl)), (Mem.cast (by rw [hKl, hVl, hK, hV]; rfl) (hS_.pick [1, 0, 4] ma3 rfl))⟩)
theorem kth_t {ss : List Int} {j : Nat} (h : (kth ss j).2 = true) : j < ss.length ∧ (kth ss j).1 = ss.getD j 0 := by
  unfold kth at h ⊢
  by_cases hj : j < ss.length
  · rw [decide_eq_true hj]; exact ⟨hj, rfl⟩
  · rw [decide_eq_false hj] at h; cases h
theorem kth_f {ss : List Int} {j : Nat} (h : (kth ss j).2 = false) : ss.length ≤ j := by
  unfold kth at h
  by_cases hj : j < ss.length
  · rw [decide_eq_true hj] at h; cases h
  · omega
theorem nxt_kn {ks ss : List Int} {j : Nat} (hp : ks.Perm ss) (hs : Inc ss) (h : (kth ss j).2 = true) : nxt (kth ss j).1 false ks = kth ss (j + 1) := by
  obtain ⟨a, b⟩ := kth_t h
  rw [b]; exact nxt_next hp hs a
theorem take_kth {ss : List Int} {j : Nat} (h : (kth ss j).2 = true) : ss.take j ++ [(kth ss j).1] = ss.take (j + 1) := by
  obtain ⟨a, b⟩ := kth_t h
  rw [b, List.take_add_one, List.getD_eq_getElem?_getD, List.getElem?_eq_getElem a]; rfl
abbrev cKy3_840_0 (gk gv : FS) (ks vs : List Int) (most : Int) (rb : Nat) : List Blk := [cb rb [Value.slice gk.a ks.length gk.cap, Value.slice gv.a vs.length gv.cap, iV .i64 most] 46]
theorem rkeys_c (ks vs : List Int) (gk gv : FS) (most : Int) (rb : Nat) (M : List Nat) (ss : List Int) (w : World) (hl : Mem w M [gk.seg 3 (mc (Value.int .i64) ks), gv.seg 3 (mc (Value.int .i64) vs), [cb rb [Value.slice gk.a ks.length gk.cap, Value.slice gv.a vs.length gv.cap, Value.int .i64 most] 46]] w) (okk : gk.ok 1 ks.length) (okv : gv.ok 1 vs.length) (hn : ks.length ≤ 100000) (hv : vs.length = ks.length) (hp : ks.Perm ss) (hss : Inc ss) : Calls Try.prog 23 #[pV rb 0] w (RetM w (fun g : FS => g.ok 1 ss.length) (fun g => .slice g.a ss.length g.cap) M (fun g => [g.seg 3 (mc (Value.int .i64) ss), gk.seg 3 (mc (Value.int .i64) ks), gv.seg 3 (mc (Value.int .i64) vs), [cb rb [Value.slice gk.a ks.length gk.cap, Value.slice gv.a vs.length gv.cap, iV .i64 most] 46]])) := by
 have hsl_ := hp.length_eq
 refine calls_W (M := M) (LL := [gk.seg 3 (mc (Value.int .i64) ks), gv.seg 3 (mc (Value.int .i64) vs), cKy3_840_0 gk gv ks vs most rb]) (n := 24) Try.func23 rfl rfl sp (hl) (W.seq (fun K1 hK1 => ?_))
 refine W.region (Wl.run 1 ma0 (Wl.nil (hK1 _ _ _ (W.seq (fun K2 hK2 => ?_)))))
 refine W.region (Wl.ht rfl (Ht.made (mk := fun b_ => .slice (some ⟨b_, 0, none⟩) 0 0) (t := 3) (cs := []) rfl (fun _ => kr)) (fun p6 => ?_))
 refine Wl.run 1 ma0 (Wl.nil (hK2 _ _ _ (W.prune' [0, 3] [pV rb 0, Value.slice (some ⟨p6, 0, none⟩) 0 0] ma0 (fun f3 => W.seq (fun K4 hK4 => ?_)))))
 refine W.region (Wl.run 1 ma0 (Wl.yc (v := Value.tuple #[iV .i64 ((nxt 0 true ks).1), bV ((nxt 0 true ks).2)]) rfl rfl (Yc.call (fun _ => kr) (fun w_ hm_ => (let z_ := Mem.local' (hm_.pick [1, 2, 3] ma3 rfl); ret_same z_ (rnext_c ks vs gk gv most rb _ 0 true w_ z_ okk okv ma1 ma1)))) (Wl.run 5 ma0 (Wl.nil ?_))))
 refine hK4 _ _ _ (W.prune' [0, 3, 4, 5] [pV rb 0, Value.slice (some ⟨p6, 0, none⟩) 0 0, iV .i64 ((nxt 0 true ks).1), bV ((nxt 0 true ks).2)] ma0 (fun f5 => ?_))
 refine W.seq (fun K6 hK6 => W.block (W.loop2 [0, 3, 4, 5] (fun (j : Nat) (go : FS) => [pV rb 0, Value.slice go.a j go.cap, iV .i64 ((kth ss j).1), bV ((kth ss j).2)]) (fun (j : Nat) (go : FS) => j ≤ ss.length ∧ go.ok 1 j) (fun (j : Nat) (go : FS) => [go.seg 3 (mc (Value.int .i64) (ss.take j)), gk.seg 3 (mc (Value.int .i64) ks), gv.seg 3 (mc (Value.int .i64) vs), cKy3_840_0 gk gv ks vs most rb]) (fun (j : Nat) (go : FS) => ss.length - j) 0 (FS.mk false p6 0 []) (Eq.trans (b := ([pV rb 0, Value.slice (some ⟨p6, 0, none⟩) 0 0, iV .i64 ((nxt 0 true ks).1), bV ((nxt 0 true ks).2)] : List Value)) ma0 (by rw [nxt_first hp hss]; rfl)) ⟨(Nat.zero_le _), (FS.lit_ok ma3)⟩ (by rfl) (fun j go f8 J7 hp9 hJ7 => ?_)))
 obtain ⟨hj, oko⟩ := hp9
 refine W.seq (fun K10 hK10 => W.seq (fun K11 hK11 => ?_))
 refine W.region (Wl.run 1 ma0 (Wl.nil (hK11 _ _ _ ?_)))
 refine W.cond ((kth ss j).2) ma0 (fun h12 => ?_) (fun h13 => ?_)
 ·refine W.skip' (hK10 _ _ _ (W.prune' [0, 3, 4] [pV rb 0, Value.slice go.a j go.cap, iV .i64 ((kth ss j).1)] ma0 (fun f14 => W.block (W.seq (fun K15 hK15 => ?_)))))
  have hkj_ := kth_t h12
  refine W.region (Wl.run 2 ma0 (Wl.ht rfl (Ht.made (mk := fun b_ => .slice (some ⟨b_, 0, none⟩) 1 1) (t := 3) (cs := [iV .i64 ((kth ss j).1)]) rfl (fun _ => kr)) (fun p15 => Wl.htS rfl (HtS.append (eu := 3) (xv := Value.slice (some ⟨p15, 0, none⟩) 1 1) (i := 1) (g := go) (e := 3) (ii := (Try.prog.info? 3).getD default) (z := iV .i64 0) (sz := 1) (bytes := 8) (nn := j) (m := 1) (k := j + 1) (xs := mc (Value.int .i64) (ss.take j)) (news := mc (Value.int .i64) [(kth ss j).1]) (cs' := mc (Value.int .i64) ((ss.take j) ++ [(kth ss j).1])) (Lo := fun g16 => [[cb p15 [iV .i64 ((kth ss j).1)] 3], g16.seg 3 (mc (Value.int .i64) ((ss.take j) ++ [(kth ss j).1])), gk.seg 3 (mc (Value.int .i64) ks), gv.seg 3 (mc (Value.int .i64) vs), cKy3_840_0 gk gv ks vs most rb]) rfl rfl ma0 ma0 ma0 ma0 ma0 ma0 ma0 ma0 ma0 rfl oko (by rw [mc_len, List.length_take]; omega) (fun _ => rfl) (Src.at (a := some ⟨p15, 0, none⟩) ma2 (fun w_ h_ => (At.lit0 (i := 0) (j := 0) (t := 3) (b := p15) h_ rfl rfl))) ma2 (mc_one (fun _ => rfl) _) ma4 ma6 ma4 (mc_app _ _) (fun _ => rfl)) (fun g16 hx21 => ?_))))
  obtain ⟨ok17, hn18, hn19⟩ := hx21
  refine Wl.run 1 ma0 (Wl.nil (hK15 _ _ _ (W.pick (LL' := [g16.seg 3 (mc (Value.int .i64) ((ss.take j) ++ [(kth ss j).1])), gk.seg 3 (mc (Value.int .i64) ks), gv.seg 3 (mc (Value.int .i64) vs), cKy3_840_0 gk gv ks vs most rb]) [1, 2, 3, 4] ma3 rfl (W.prune' [0, 3, 4] [pV rb 0, sV g16 (j + 1), iV .i64 ((kth ss j).1)] ma0 (fun f22 => ?_)))))
  refine W.region (Wl.run 2 ma0 (Wl.yc (v := Value.tuple #[iV .i64 ((nxt ((kth ss j).1) false ks).1), bV ((nxt ((kth ss j).1) false ks).2)]) rfl rfl (Yc.call (fun _ => kr) (fun w_ hm_ => (let z_ := Mem.local' (hm_.pick [1, 2, 3] ma3 rfl); ret_same z_ (rnext_c ks vs gk gv most rb _ ((kth ss j).1) false w_ z_ okk okv ma1 ma1)))) (Wl.run 5 ma0 (Wl.nil ?_))))
  refine fun w_ h_ => hJ7 (j + 1) g16 _ w_ ma1 ⟨ma1, ok17⟩ ?_ (Mem.cast (LL := [g16.seg 3 (mc (Value.int .i64) ((ss.take j) ++ [(kth ss j).1])), gk.seg 3 (mc (Value.int .i64) ks), gv.seg 3 (mc (Value.int .i64) vs), cKy3_840_0 gk gv ks vs most rb]) (by rw [take_kth h12]) h_)
  refine Eq.trans (b := ([pV rb 0, sV g16 (j + 1), iV .i64 ((nxt ((kth ss j).1) false ks).1), bV ((nxt ((kth ss j).1) false ks).2)] : List Value)) ma0 (by rw [nxt_kn hp hss h12])
 ·refine W.exit (hK6 _ _ _ (W.prune' [3] [Value.slice go.a j go.cap] ma0 (fun f23 => W.seq (fun K24 hK24 => W.region ?_))))
  refine Wl.run 2 ma0 (Wl.nil (hK24 _ _ _ (W.prune' [2] [Value.slice go.a j go.cap] ma0 (fun f25 => W.ret ?_))))
  have hje_ : j = ss.length := by have z_ := kth_f h13; omega
  show ∀ w_, _ → bodyPostM (fence none) 0 Try.prog Try.f23 _ Exit.ret _ w_
  exact fun w_ hS_ => fin_ret (ret1 rfl (RV.tmp (v := Value.slice go.a j go.cap) ma0) hS_ ⟨go, (by rw [← hje_]; exact oko), congrArg Ending.returned ((by rw [hje_])), (Mem.cast (by rw [hje_, List.take_length]; rfl) (hS_.pick [0, 1, 2, 3] ma3 rfl))⟩)
theorem rnew_c (most : Int) (w : World) : Calls Try.prog 21 #[iV .i64 most] w (RetM w (fun _ : Nat => True) (fun b => .pointer (some ⟨b, 0, none⟩)) [] (fun b => [[cb b [.slice none 0 0, .slice none 0 0, .int .i64 (imax most 0)] 46]])) := by
 refine calls_W (M := []) (LL := []) (n := 10) Try.func21 rfl rfl sp (Mem.refl _) (W.seq (fun K1 hK1 => ?_))
 refine W.region (Wl.run 1 ma0 (Wl.nil (hK1 _ _ _ (W.seq (fun K2 hK2 => ?_)))))
 refine W.seq (fun K3 hK3 => W.region (Wl.run 2 ma0 (Wl.nil (hK3 _ _ _ ?_))))
 refine W.prune' [0, 4] [iV .i64 most, bV (decide (most < 0))] ma0 (fun f4 => ?_)
 refine W.cond (decide (most < 0)) ma0 (fun h5 => ?_) (fun h6 => ?_)
 ·have qh5 := h5; try simp only [zA] at qh5
  refine W.seq (fun K7 hK7 => W.region (Wl.run 1 ma0 (Wl.ht rfl (Ht.box (v := aV [Value.slice none 0 0, Value.slice none 0 0, iV .i64 0]) (cs := [Value.slice none 0 0, Value.slice none 0 0, iV .i64 0]) rfl rfl ma0 rfl) (fun p6 => Wl.run 1 ma0 ?_))))
  refine Wl.nil (hK7 _ _ _ (W.prune' [2] [pV p6 0] ma0 (fun f8 => W.ret ?_)))
  show ∀ w_, _ → bodyPostM (fence none) 0 Try.prog Try.f21 _ Exit.ret _ w_
  exact fun w_ hS_ => fin_ret (ret1 rfl (RV.tmp (v := pV p6 0) ma0) hS_ ⟨p6, trivial, rfl, (Mem.cast (by rw [show imax most 0 = 0 from by unfold imax; split <;> omega]) hS_)⟩)
 ·have qh6 := h6; try simp only [zA] at qh6
  refine W.skip' (hK2 _ _ _ (W.prune' [0] [iV .i64 most] ma0 (fun f9 => W.seq (fun K10 hK10 => W.region ?_))))
  refine Wl.run 2 ma0 (Wl.ht rfl (Ht.box (v := aV [Value.slice none 0 0, Value.slice none 0 0, iV .i64 most]) (cs := [Value.slice none 0 0, Value.slice none 0 0, iV .i64 most]) rfl rfl ma0 rfl) (fun p9 => ?_))
  refine Wl.run 1 ma0 (Wl.nil (hK10 _ _ _ (W.prune' [2] [pV p9 0] ma0 (fun f11 => W.ret ?_))))
  show ∀ w_, _ → bodyPostM (fence none) 0 Try.prog Try.f21 _ Exit.ret _ w_
  exact fun w_ hS_ => fin_ret (ret1 rfl (RV.tmp (v := pV p9 0) ma0) hS_ ⟨p9, trivial, rfl, (Mem.cast (by rw [show imax most 0 = most from by unfold imax; split <;> omega]) hS_)⟩)
end Go.Proofs.Ythfagedaijoenaa.Oct
