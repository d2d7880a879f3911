import Derived.Test.YthfagedaijoenaaKKy1
import Derived.Test.YthfagedaijoenaaKVI
import Derived.Test.YthfagedaijoenaaKVG
set_option linter.unusedVariables false
set_option linter.unusedSimpArgs false
set_option maxRecDepth 20000
namespace Go.Proofs.Ythfagedaijoenaa.Oct
open Go.RowKit Base
attribute [local irreducible] Ys Yc Ht HtS HtIn Wl Wd W Mem pf dpf Wa Wo
def pr (x : Int × Int) : List Value := [.int .i64 x.1, .int .i64 x.2]
theorem pr_len (x : Int × Int) : (pr x).length = 2 := rfl
section
variable {α : Type} {g : α → List Value} {sz : Nat}
theorem mm_app (xs ys : List α) : mm g (xs ++ ys) = mm g xs ++ mm g ys := by simp [mm]
theorem mm_cons (x : α) (xs : List α) : mm g (x :: xs) = g x ++ mm g xs := by simp [mm]
theorem mm_drop (hg : ∀ x, (g x).length = sz) : ∀ (xs : List α) (i : Nat), (mm g xs).drop (i * sz) = mm g (xs.drop i)
  | xs, 0 => by simp
  | [], i + 1 => by simp [mm]
  | x :: xs, i + 1 => by
    rw [mm_cons, List.drop_succ_cons, show (i + 1) * sz = (g x).length + i * sz by rw [hg, Nat.add_mul]; omega, ← List.drop_drop, List.drop_left]
    exact mm_drop hg xs i
theorem mm_take (hg : ∀ x, (g x).length = sz) : ∀ (xs : List α) (i : Nat), (mm g xs).take (i * sz) = mm g (xs.take i)
  | xs, 0 => by simp [mm]
  | [], i + 1 => by simp [mm]
  | x :: xs, i + 1 => by
    rw [mm_cons, List.take_succ_cons, mm_cons, show (i + 1) * sz = (g x).length + i * sz by rw [hg, Nat.add_mul]; omega, List.take_append, Nat.add_sub_cancel_left, mm_take hg xs i]
    rw [List.take_of_length_le ma1]
theorem mm_one (hg : ∀ x, ∀ v ∈ g x, v.oneCell' = true) (xs : List α) : ∀ v ∈ mm g xs, v.oneCell' = true := fun v hv => by
  obtain ⟨x, _, hx⟩ := List.mem_flatMap.1 hv
  exact hg x v hx
end
theorem pr_one (x : Int × Int) : ∀ v ∈ pr x, v.oneCell' = true := fun v hv => by
  simp only [pr, List.mem_cons, List.not_mem_nil, or_false] at hv
  rcases hv with rfl | rfl <;> rfl
def cmpI (a b : Int) : Int := bif decide (a < b) then -1 else bif decide (a > b) then 1 else 0
theorem cmpI_lt (a b : Int) : cmpI a b < 0 ↔ a < b := by
  unfold cmpI
  by_cases h : a < b
  · rw [decide_eq_true h]; simp [h]
  · rw [decide_eq_false h]
    by_cases h2 : a > b
    · rw [decide_eq_true h2]; simp; omega
    · rw [decide_eq_false h2]; simp; omega
theorem cmpI_eq (a b : Int) : cmpI a b = 0 ↔ a = b := by
  unfold cmpI
  by_cases h : a < b
  · rw [decide_eq_true h]; simp; omega
  · rw [decide_eq_false h]
    by_cases h2 : a > b
    · rw [decide_eq_true h2]; simp; omega
    · rw [decide_eq_false h2]; simp; omega
def posK (s : Int) (xs : List (Int × Int)) (k : Int) : Nat := (xs.takeWhile fun p => decide (s * p.1 < s * k)).length
def hasK (s : Int) (xs : List (Int × Int)) (k : Int) : Bool := decide (posK s xs k < xs.length) && ((xs.getD (posK s xs k) (0, 0)).1 == k)
def Srt (s : Int) (xs : List (Int × Int)) : Prop := xs.Pairwise fun p q => s * p.1 < s * q.1
theorem posK_le (s : Int) (xs : List (Int × Int)) (k : Int) : posK s xs k ≤ xs.length := by
  unfold posK; exact (List.takeWhile_sublist _).length_le
theorem posK_spec {s : Int} {k : Int} : ∀ {xs : List (Int × Int)}, Srt s xs → ∀ {h : Nat}, h < xs.length → (s * (xs.getD h (0, 0)).1 < s * k ↔ h < posK s xs k)
  | [], _, h, hh => by simp at hh
  | x :: xs, hs, h, hh => by
    have hs' := List.pairwise_cons.1 hs
    unfold posK
    rw [List.takeWhile_cons]
    by_cases hx : s * x.1 < s * k
    · rw [if_pos (by simpa using hx), List.length_cons]
      cases h with
      | zero => simpa using hx
      | succ h =>
        have := posK_spec (k := k) hs'.2 (h := h) (by simpa using hh)
        unfold posK at this
        rw [List.getD_cons_succ, this]; omega
    · rw [if_neg (by simpa using hx), List.length_nil]
      cases h with
      | zero => simp only [List.getD_cons_zero]; omega
      | succ h =>
        have h1 := hs'.1 (xs.getD h (0, 0)) (by
          have : h < xs.length := by simpa using hh
          rw [List.getD_eq_getElem?_getD, List.getElem?_eq_getElem this]; exact List.getElem_mem _)
        rw [List.getD_cons_succ]; omega
def putK (s : Int) (xs : List (Int × Int)) (k v : Int) : List (Int × Int) := bif hasK s xs k then xs.set (posK s xs k) (k, v) else xs.take (posK s xs k) ++ ((k, v) :: xs.drop (posK s xs k))
def dropK (s : Int) (xs : List (Int × Int)) (k : Int) : List (Int × Int) := bif hasK s xs k then xs.take (posK s xs k) ++ xs.drop (posK s xs k + 1) else xs
def getK (s : Int) (xs : List (Int × Int)) (k : Int) : Int := bif hasK s xs k then (xs.getD (posK s xs k) (0, 0)).2 else 0
theorem hasK_at {s : Int} {xs : List (Int × Int)} {k : Int} (h : hasK s xs k = true) : posK s xs k < xs.length ∧ (xs.getD (posK s xs k) (0, 0)).1 = k := by
  unfold hasK at h; simpa using h
theorem order_c (a b : Int) (w : World) : Calls Try.prog 14 #[iV .i64 a, iV .i64 b] w (Ret w (.int .i64 (cmpI a b))) := by
 refine calls_W (M := []) (LL := []) (n := 11) Try.func14 rfl rfl sp (Mem.refl _) (W.seq (fun K1 hK1 => ?_))
 refine W.region (Wl.run 1 ma0 (Wl.nil (hK1 _ _ _ (W.seq (fun K2 hK2 => ?_)))))
 refine W.seq (fun K3 hK3 => W.region (Wl.run 3 ma0 (Wl.nil (hK3 _ _ _ ?_))))
 refine W.prune' [0, 1, 7] [iV .i64 a, iV .i64 b, bV (decide (a < b))] ma0 (fun f4 => ?_)
 refine W.cond (decide (a < b)) ma0 (fun h5 => ?_) (fun h6 => ?_)
 ·have qh5 := h5; try simp only [zA] at qh5
  refine W.seq (fun K7 hK7 => W.region (Wl.run 1 ma0 (Wl.nil (hK7 _ _ _ ?_))))
  refine W.ret ?_
  show ∀ w_, _ → bodyPostM (fence none) 0 Try.prog Try.f14 _ Exit.ret _ w_
  exact fun w_ hS_ => fin_ret (ret1 rfl (RV.tmp (v := iV .i64 (-1)) ma0) hS_ ⟨by clear hK1 hK2 hK3 hK7; refine congrArg Ending.returned ?_; simp only [cmpI, h5, cond_true, cond_false]; try rfl, hS_.below⟩)
 ·have qh6 := h6; try simp only [zA] at qh6
  refine W.skip' (hK2 _ _ _ (W.prune' [0, 1] [iV .i64 a, iV .i64 b] ma0 (fun f8 => W.seq (fun K9 hK9 => W.seq (fun K10 hK10 => ?_)))))
  refine W.region (Wl.run 3 ma0 (Wl.nil (hK10 _ _ _ (W.prune' [10] [bV (decide (a > b))] ma0 (fun f11 => ?_)))))
  refine W.cond (decide (a > b)) ma0 (fun h12 => ?_) (fun h13 => ?_)
  ·have qh12 := h12; try simp only [zA] at qh12
   refine W.seq (fun K14 hK14 => W.region (Wl.run 1 ma0 (Wl.nil (hK14 _ _ _ ?_))))
   refine W.ret ?_
   show ∀ w_, _ → bodyPostM (fence none) 0 Try.prog Try.f14 _ Exit.ret _ w_
   exact fun w_ hS_ => fin_ret (ret1 rfl (RV.tmp (v := iV .i64 1) ma0) hS_ ⟨by clear hK1 hK2 hK3 hK9 hK10 hK14; refine congrArg Ending.returned ?_; simp only [cmpI, h6, h12, cond_true, cond_false]; try rfl, hS_.below⟩)
  ·have qh13 := h13; try simp only [zA] at qh13
   refine W.skip' (hK9 _ _ _ (W.prune' [] [] ma0 (fun f15 => W.seq (fun K16 hK16 => W.region ?_))))
   refine Wl.run 1 ma0 (Wl.nil (hK16 _ _ _ (W.ret ?_)))
   show ∀ w_, _ → bodyPostM (fence none) 0 Try.prog Try.f14 _ Exit.ret _ w_
   exact fun w_ hS_ => fin_ret (ret1 rfl (RV.tmp (v := iV .i64 0) ma0) hS_ ⟨by clear hK1 hK2 hK3 hK9 hK10 hK16; refine congrArg Ending.returned ?_; simp only [cmpI, h6, h13, cond_true, cond_false]; try rfl, hS_.below⟩)
theorem fcmpA_c (x y k : Int) (g : FS) (n : Nat) (most : Int) (tb pt : Nat) (M : List Nat) (w : World) (hl : Mem w M [[cb tb [Value.slice g.a n g.cap, Value.int .i64 most, Value.func (.func 14) #[] #[]] 74], [cb pt [Value.pointer (some ⟨tb, 0, none⟩)] 24]] w) : Calls Try.prog 58 #[aV [iV .i64 x, iV .i64 y], iV .i64 k, pV pt 0] w (RetM w (fun _ : Unit => True) (fun _ => .int .i64 (cmpI x k)) M (fun _ => [[cb tb [sV g n, iV .i64 most, Value.func (.func 14) #[] #[]] 74], [cb pt [pV tb 0] 24]])) := by
 refine calls_W (M := M) (LL := [[cb tb [sV g n, iV .i64 most, Value.func (.func 14) #[] #[]] 74], [cb pt [pV tb 0] 24]]) (n := 14) Try.func58 rfl rfl sp (hl) (W.seq (fun K1 hK1 => ?_))
 refine W.region (Wl.ht rfl (Ht.box (v := aV [iV .i64 x, iV .i64 y]) (cs := [iV .i64 x, iV .i64 y]) rfl rfl ma0 rfl) (fun p3 => ?_))
 refine Wl.run 1 ma0 (Wl.nil (hK1 _ _ _ (W.prune' [1, 2, 3] [iV .i64 k, pV pt 0, pV p3 0] ma0 (fun f2 => W.seq (fun K3 hK3 => ?_)))))
 refine W.draws [(0, true), (1, true), (2, true), (3, true), (4, true), (5, true), (6, false), (7, false), (8, false)] [0, 1, 2, 3, 4, 5] (Mem w M [[cb p3 [iV .i64 x, iV .i64 y] 76], [cb tb [sV g n, iV .i64 most, Value.func (.func 14) #[] #[]] 74], [cb pt [pV tb 0] 24]]) ma0 ma0 ma0 rfl ma0 (fun _ _ h_ => h_.drawn _) (fun _ h_ => h_) (Wd.ys rfl rfl rfl (Ys.l1 pt 0 2 0 Try.isAgg24) (Wd.run 2 ma0 (Wd.ys rfl rfl rfl (Ys.l1 tb 2 1 0 Try.isAgg26) (Wd.run 1 ma0 ?_))))
 refine Wd.ys rfl rfl rfl (Ys.l1 p3 0 0 0 Try.isAgg3) (Wd.yc (v := iV .i64 k) rfl rfl rfl (Ys.yc (Ys.pure (fun _ => kr))) (.inr fun _ h_ => h_) (Wd.yc (v := iV .i64 (cmpI x k)) rfl rfl rfl (Yc.call (fun _ => kr) (fun w_ hm_ => (order_c x k _))) (.inr fun _ h_ => h_) (Wd.yc (v := iV .i64 (cmpI x k)) rfl rfl rfl (Ys.yc (Ys.pure (fun _ => kr))) (.inl ma0) (Wd.nil ?_))))
 refine hK3 _ _ _ (W.pick (LL' := [[cb tb [sV g n, iV .i64 most, Value.func (.func 14) #[] #[]] 74], [cb pt [pV tb 0] 24]]) [1, 2] ma3 rfl (W.prune' [5] [iV .i64 (cmpI x k)] ma0 (fun f4 => W.ret ?_)))
 show ∀ w_, _ → bodyPostM (fence none) 0 Try.prog Try.f58 _ Exit.ret _ w_
 exact fun w_ hS_ => fin_ret (ret1 rfl (RV.tmp (v := iV .i64 (cmpI x k)) ma0) hS_ ⟨(), trivial, rfl, (hS_.pick [0, 1] ma3 rfl)⟩)
theorem cmpA_lt {x k : Int} : cmpI x k < 0 ↔ 1 * x < 1 * k := by rw [cmpI_lt]; omega
theorem cmpA_eq {x k : Int} : cmpI x k = 0 ↔ x = k := cmpI_eq x k
abbrev cKy2_770_0 (g : FS) (most : Int) (tb : Nat) (xs : List (Int × Int)) : List Blk := [cb tb [sV g xs.length, iV .i64 most, Value.func (.func 14) #[] #[]] 74]
theorem bsA_c (xs : List (Int × Int)) (k : Int) (g : FS) (most : Int) (tb pt : Nat) (M : List Nat) (w : World) (hl : Mem w M [g.seg 76 (mm pr xs), [cb tb [Value.slice g.a xs.length g.cap, Value.int .i64 most, Value.func (.func 14) #[] #[]] 74], [cb pt [Value.pointer (some ⟨tb, 0, none⟩)] 24]] w) (ok : g.ok 2 xs.length) (hn : xs.length ≤ 100000) (hs : Srt 1 xs) : Calls Try.prog 57 #[sV g xs.length, iV .i64 k, Value.func (.func 58) #[] #[pV pt 0]] w (RetM w (fun _ : Unit => True) (fun _ => .tuple #[.int .i64 (posK 1 xs k : Int), .bool (hasK 1 xs k)]) M (fun _ => [g.seg 76 (mm pr xs), [cb tb [sV g xs.length, iV .i64 most, Value.func (.func 14) #[] #[]] 74], [cb pt [pV tb 0] 24]])) := by
 refine calls_W (M := M) (LL := [g.seg 76 (mm pr xs), cKy2_770_0 g most tb xs, [cb pt [pV tb 0] 24]]) (n := 49) Try.func57 rfl rfl sp (hl) (W.seq (fun K1 hK1 => ?_))
 refine W.region (Wl.run 2 ma0 (Wl.nil (hK1 _ _ _ (W.prune' [0, 1, 2] [sV g xs.length, iV .i64 k, Value.func (.func 58) #[] #[pV pt 0]] ma0 (fun f2 => ?_)))))
 refine W.seq (fun K3 hK3 => W.region (Wl.run 3 ma0 (Wl.nil (hK3 _ _ _ ?_))))
 refine W.prune' [0, 1, 2, 8] [sV g xs.length, iV .i64 k, Value.func (.func 58) #[] #[pV pt 0], nV .i64 xs.length] ma0 (fun f4 => W.seq (fun K5 hK5 => ?_))
 refine W.region (Wl.run 3 ma0 (Wl.nil (hK5 _ _ _ (W.prune' [0, 1, 2, 8, 9, 10] [sV g xs.length, iV .i64 k, Value.func (.func 58) #[] #[pV pt 0], nV .i64 xs.length, iV .i64 0, nV .i64 xs.length] ma0 (fun f6 => ?_)))))
 refine W.seq (fun K7 hK7 => W.block (W.loop2 [0, 1, 2, 8, 9, 10] (fun (i : Nat) (j : Nat) => [sV g xs.length, iV .i64 k, Value.func (.func 58) #[] #[pV pt 0], nV .i64 xs.length, nV .i64 i, nV .i64 j]) (fun (i : Nat) (j : Nat) => i ≤ posK 1 xs k ∧ posK 1 xs k ≤ j ∧ j ≤ xs.length) (fun (i : Nat) (j : Nat) => [g.seg 76 (mm pr xs), cKy2_770_0 g most tb xs, [cb pt [pV tb 0] 24]]) (fun (i : Nat) (j : Nat) => j - i) 0 xs.length ma0 ⟨(Nat.zero_le _), (posK_le _ _ _), (Nat.le_refl _)⟩ (by rfl) (fun i j f9 J8 hp10 hJ8 => ?_)))
 obtain ⟨hi, hj, hjn⟩ := hp10
 refine W.seq (fun K11 hK11 => W.seq (fun K12 hK12 => ?_))
 refine W.region (Wl.run 3 ma0 (Wl.nil (hK12 _ _ _ (W.prune' [0, 1, 2, 8, 9, 10, 17] [sV g xs.length, iV .i64 k, Value.func (.func 58) #[] #[pV pt 0], nV .i64 xs.length, nV .i64 i, nV .i64 j, bV (decide (((i : Nat) : Int) < (j : Int)))] ma0 (fun f13 => ?_)))))
 refine W.cond (decide (((i : Nat) : Int) < (j : Int))) ma0 (fun h14 => ?_) (fun h15 => ?_)
 ·have qh14 := h14; try simp only [zA] at qh14
  refine W.skip' (hK11 _ _ _ (W.prune' [0, 1, 2, 8, 9, 10] [sV g xs.length, iV .i64 k, Value.func (.func 58) #[] #[pV pt 0], nV .i64 xs.length, nV .i64 i, nV .i64 j] ma0 (fun f16 => W.block (W.seq (fun K17 hK17 => ?_)))))
  refine W.region (Wl.run 2 ma0 (Wl.ys (v := nV .i64 (i + j)) rfl rfl ((Ys.pure (v := .int .i64 (iadd .i64 (i : Int) (j : Int))) (fun _ => kr)).conseq (int_congr (iadd_eq ma1 ma1 ma1))) (Wl.ys (v := nV .u64 (i + j)) rfl rfl ((Ys.pure (v := .int .u64 (icnv .u64 ((i + j : Nat) : Int))) (fun _ => kr)).conseq (int_congr (wrap_u64 ma1 ma1))) (Wl.ys (v := nV .u64 ((i + j) / 2)) rfl rfl ((Ys.pure (v := .int .u64 (ishr .u64 ((i + j : Nat) : Int) ((1 : Nat) : Int))) (fun _ => kr)).conseq (int_congr (ishr_nat (i + j) 1 ma3))) ?_))))
  refine Wl.ys (v := nV .i64 ((i + j) / 2)) rfl rfl ((Ys.pure (v := .int .i64 (icnv .i64 (((i + j) / 2 : Nat) : Int))) (fun _ => kr)).conseq (int_congr (wrap_i64 ma1 ma1))) (Wl.run 1 ma0 (Wl.nil (hK17 _ _ _ (W.prune' [0, 1, 2, 8, 9, 10, 11] [sV g xs.length, iV .i64 k, Value.func (.func 58) #[] #[pV pt 0], nV .i64 xs.length, nV .i64 i, nV .i64 j, nV .i64 ((i + j) / 2)] ma0 (fun f18 => ?_)))))
  refine W.seq (fun K19 hK19 => W.region (Wl.run 3 ma0 (Wl.ys (v := Value.pointer (some (ela g.a (((i + j) / 2) * 2)))) rfl rfl (Ys.indexAddr (k := .i64) (a := g.a) (len := xs.length) (cap := g.cap) (i := (((i + j) / 2 : Nat) : Int)) (sz := 2) rfl ma0 ma0 Try.runUnderlying72 Try.sizeOf76 ma1 ma1 ma9) (Wl.ys (v := aV [iV .i64 ((xs.getD ((i + j) / 2) (0, 0)).1), iV .i64 ((xs.getD ((i + j) / 2) (0, 0)).2)]) rfl rfl (Ys.ldN (a := ela g.a (((i + j) / 2) * 2)) (vs := [iV .i64 ((xs.getD ((i + j) / 2) (0, 0)).1), iV .i64 ((xs.getD ((i + j) / 2) (0, 0)).2)]) rfl ma0 Try.isAgg76 Try.sizeOf76 rfl (fun w_ h_ => (FS.at (i := 0) (t := 76) h_ rfl (FS.nil_cs ok (mm_len pr_len _))).ldN (mm_get (g := pr) (sz := 2) (fun _ => rfl) (0, 0) (xs := xs) (k := (i + j) / 2) ma1))) ?_))))
  refine Wl.run 1 ma0 (Wl.htS rfl (HtS.call (β := Unit) (k := 58) (args := #[aV [iV .i64 ((xs.getD ((i + j) / 2) (0, 0)).1), iV .i64 ((xs.getD ((i + j) / 2) (0, 0)).2)], iV .i64 k, pV pt 0]) (Lin := [cKy2_770_0 g most tb xs, [cb pt [pV tb 0] 24]]) (Lk := [g.seg 76 (mm pr xs)]) (Mi := [tb, pt]) (Lo := fun _u => [cKy2_770_0 g most tb xs, [cb pt [pV tb 0] 24], g.seg 76 (mm pr xs)]) [1, 2] [0] rfl (fun _ => kr) ma3 rfl rfl rfl (fun w_ hm_ hl_ => (fcmpA_c ((xs.getD ((i + j) / 2) (0, 0)).1) ((xs.getD ((i + j) / 2) (0, 0)).2) k g xs.length most tb pt _ _ hl_)) (fun _ => rfl)) (fun _u _ => ?_))
  refine Wl.run 1 ma0 (Wl.nil (hK19 _ _ _ (W.prune' [0, 1, 2, 8, 9, 10, 11, 31] [sV g xs.length, iV .i64 k, Value.func (.func 58) #[] #[pV pt 0], nV .i64 xs.length, nV .i64 i, nV .i64 j, nV .i64 ((i + j) / 2), bV (decide ((cmpI ((xs.getD ((i + j) / 2) (0, 0)).1) k) < 0))] ma0 (fun f21 => ?_))))
  refine W.cond (decide ((cmpI ((xs.getD ((i + j) / 2) (0, 0)).1) k) < 0)) ma0 (fun h22 => ?_) (fun h23 => ?_)
  ·have qh22 := h22; try simp only [zA] at qh22
   refine W.region (Wl.run 1 ma0 (Wl.ys (v := nV .i64 (((i + j) / 2) + 1)) rfl rfl ((Ys.pure (v := .int .i64 (iadd .i64 (((i + j) / 2 : Nat) : Int) 1)) (fun _ => kr)).conseq (int_congr (iadd_eq ma1 ma1 ma1))) (Wl.run 1 ma0 (Wl.nil ?_))))
   have hps_ := posK_spec (k := k) hs (h := (i + j) / 2) ma1
   have hpl_ := hps_.1 (cmpA_lt.1 qh22)
   refine fun w_ h_ => hJ8 ((i + j) / 2 + 1) j _ w_ ma1 ⟨ma1, ma1, ma1⟩ ?_ (h_.pick [2, 0, 1] ma3 rfl)
   kernel_rfl
  ·have qh23 := h23; try simp only [zA] at qh23
   refine W.region (Wl.run 2 ma0 (Wl.nil ?_))
   have hps_ := posK_spec (k := k) hs (h := (i + j) / 2) ma1
   have hpl_ : ¬ ((i + j) / 2 < posK 1 xs k) := fun h_ => qh23 (cmpA_lt.2 (hps_.2 h_))
   refine fun w_ h_ => hJ8 i ((i + j) / 2) _ w_ ma1 ⟨ma1, ma1, ma1⟩ ?_ (h_.pick [2, 0, 1] ma3 rfl)
   kernel_rfl
 ·have qh15 := h15; try simp only [zA] at qh15
  refine W.exit (hK7 _ _ _ (W.prune' [0, 1, 2, 8, 9] [sV g xs.length, iV .i64 k, Value.func (.func 58) #[] #[pV pt 0], nV .i64 xs.length, nV .i64 i] ma0 (fun f24 => W.seq (fun K25 hK25 => W.region ?_))))
  refine Wl.run 5 ma0 ?_
  refine Wl.guard (v := Value.func (.func 58) #[] #[pV pt 0]) (decide (((i : Nat) : Int) < (xs.length : Int))) rfl (wantT rfl ma0) rfl (fun hg26 => ?_) ?_
  ·exact Ys.pure (fun _ => kr)
  refine Wl.guard (v := sV g xs.length) (decide (((i : Nat) : Int) < (xs.length : Int))) rfl (wantT rfl ma0) rfl (fun hg27 => ?_) ?_
  ·exact Ys.pure (fun _ => kr)
  refine Wl.guard (v := nV .i64 i) (decide (((i : Nat) : Int) < (xs.length : Int))) rfl (wantT rfl ma0) rfl (fun hg28 => ?_) ?_
  ·exact Ys.pure (fun _ => kr)
  refine Wl.guard (v := Value.pointer (some (ela g.a (i * 2)))) (decide (((i : Nat) : Int) < (xs.length : Int))) rfl (wantT rfl ma0) rfl (fun hg29 => ?_) ?_
  ·have qhg29 := hg29; try simp only [zA] at qhg29
   refine Ys.at (t := 41) (v0 := sV g xs.length) (lz (g := decide (((i : Nat) : Int) < (xs.length : Int))) (u := undef) hg29 ma0) (Ys.at (t := 42) (v0 := nV .i64 i) (lz (g := decide (((i : Nat) : Int) < (xs.length : Int))) (u := undef) hg29 ma0) ?_)
   exact Ys.indexAddr (k := .i64) (a := g.a) (len := xs.length) (cap := g.cap) (i := (i : Int)) (sz := 2) rfl ma0 ma0 Try.runUnderlying72 Try.sizeOf76 ma1 ma1 ma9
  refine Wl.guard (v := aV [iV .i64 ((xs.getD i (0, 0)).1), iV .i64 ((xs.getD i (0, 0)).2)]) (decide (((i : Nat) : Int) < (xs.length : Int))) rfl (wantT rfl ma0) rfl (fun hg30 => ?_) ?_
  ·have qhg30 := hg30; try simp only [zA] at qhg30
   refine Ys.at (t := 43) (v0 := Value.pointer (some (ela g.a (i * 2)))) (lz (g := decide (((i : Nat) : Int) < (xs.length : Int))) (u := undef) hg30 ma0) ?_
   exact Ys.ldN (a := ela g.a (i * 2)) (vs := [iV .i64 ((xs.getD i (0, 0)).1), iV .i64 ((xs.getD i (0, 0)).2)]) rfl ma0 Try.isAgg76 Try.sizeOf76 rfl (fun w_ h_ => (FS.at (i := 0) (t := 76) h_ rfl (FS.nil_cs ok (mm_len pr_len _))).ldN (mm_get (g := pr) (sz := 2) (fun _ => rfl) (0, 0) (xs := xs) (k := i) ma1))
  refine Wl.guard (v := iV .i64 k) (decide (((i : Nat) : Int) < (xs.length : Int))) rfl (wantT rfl ma0) rfl (fun hg31 => ?_) ?_
  ·exact Ys.pure (fun _ => kr)
  refine Wl.split (decide (((i : Nat) : Int) < (xs.length : Int))) (fun h32 => ?_) (fun h33 => ?_)
  ·have qh32 := h32; try simp only [zA] at qh32
   refine Wl.at 38 (v0 := .bool true) (boolv (e := decide (((i : Nat) : Int) < (xs.length : Int))) ma0 h32) (Wl.at 39 (v0 := .bool true) (boolv (e := decide (((i : Nat) : Int) < (xs.length : Int))) ma0 h32) (Wl.at 40 (v0 := Value.func (.func 58) #[] #[pV pt 0]) (lz (g := decide (((i : Nat) : Int) < (xs.length : Int))) (u := undef) h32 ma0) (Wl.at 41 (v0 := sV g xs.length) (lz (g := decide (((i : Nat) : Int) < (xs.length : Int))) (u := undef) h32 ma0) (Wl.at 42 (v0 := nV .i64 i) (lz (g := decide (((i : Nat) : Int) < (xs.length : Int))) (u := undef) h32 ma0) ?_))))
   refine Wl.at 43 (v0 := Value.pointer (some (ela g.a (i * 2)))) (lz (g := decide (((i : Nat) : Int) < (xs.length : Int))) (u := undef) h32 ma0) (Wl.at 44 (v0 := aV [iV .i64 ((xs.getD i (0, 0)).1), iV .i64 ((xs.getD i (0, 0)).2)]) (lz (g := decide (((i : Nat) : Int) < (xs.length : Int))) (u := undef) h32 ma0) (Wl.at 45 (v0 := iV .i64 k) (lz (g := decide (((i : Nat) : Int) < (xs.length : Int))) (u := undef) h32 ma0) (Wl.htwS rfl ma0 (HtS.call (β := Unit) (k := 58) (args := #[aV [iV .i64 ((xs.getD i (0, 0)).1), iV .i64 ((xs.getD i (0, 0)).2)], iV .i64 k, pV pt 0]) (Lin := [cKy2_770_0 g most tb xs, [cb pt [pV tb 0] 24]]) (Lk := [g.seg 76 (mm pr xs)]) (Mi := [tb, pt]) (Lo := fun _u => [cKy2_770_0 g most tb xs, [cb pt [pV tb 0] 24], g.seg 76 (mm pr xs)]) [1, 2] [0] rfl (fun _ => kr) ma3 rfl rfl rfl (fun w_ hm_ hl_ => (fcmpA_c ((xs.getD i (0, 0)).1) ((xs.getD i (0, 0)).2) k g xs.length most tb pt _ _ hl_)) (fun _ => rfl)) (fun _u _ => Wl.guard (v := bV ((cmpI ((xs.getD i (0, 0)).1) k) == 0)) (true) rfl ma0 rfl (fun _ => Ys.pure (fun _ => kr)) ?_))))
   refine Wl.run 3 ma0 (Wl.nil (hK25 _ _ _ (W.prune' [6, 7] [nV .i64 i, bV ((cmpI ((xs.getD i (0, 0)).1) k) == 0)] ma0 (fun f35 => W.ret ?_))))
   have hip_ : i = posK 1 xs k := by omega
   show ∀ w_, _ → bodyPostM (fence none) 0 Try.prog Try.f57 _ Exit.ret _ w_
   exact fun w_ hS_ => fin_ret (ret2 rfl (RV.tmp (v := nV .i64 i) ma0) (RV.tmp (v := bV ((cmpI ((xs.getD i (0, 0)).1) k) == 0)) ma0) hS_ ⟨(), trivial, congrArg Ending.returned ((by subst hip_; refine congrArg (fun b => Value.tuple #[_, .bool b]) ?_; unfold hasK; rw [show (decide (posK 1 xs k < xs.length)) = true from by have z_ := qh32; simp; omega]; rw [Bool.true_and, Bool.eq_iff_iff, beq_iff_eq, beq_iff_eq]; exact cmpA_eq)), (hS_.pick [2, 0, 1] ma3 rfl)⟩)
  ·have qh33 := h33; try simp only [zA] at qh33
   refine Wl.at 38 (v0 := .bool false) (boolv (e := decide (((i : Nat) : Int) < (xs.length : Int))) ma0 h33) (Wl.at 39 (v0 := .bool false) (boolv (e := decide (((i : Nat) : Int) < (xs.length : Int))) ma0 h33) (Wl.skip ma0 rfl (Wl.skip ma0 rfl (Wl.run 3 ma0 ?_))))
   refine Wl.nil (hK25 _ _ _ (W.prune' [6, 7] [nV .i64 i, bV false] ma0 (fun f36 => W.ret ?_)))
   have hip_ : i = posK 1 xs k := by omega
   show ∀ w_, _ → bodyPostM (fence none) 0 Try.prog Try.f57 _ Exit.ret _ w_
   exact fun w_ hS_ => fin_ret (ret2 rfl (RV.tmp (v := nV .i64 i) ma0) (RV.tmp (v := bV false) ma0) hS_ ⟨(), trivial, congrArg Ending.returned ((by subst hip_; refine congrArg (fun b => Value.tuple #[_, .bool b]) ?_; unfold hasK; rw [show (decide (posK 1 xs k < xs.length)) = false from by have z_ := qh33; simp; omega]; rfl)), (hS_.pick [0, 1, 2] ma3 rfl)⟩)
theorem findA_c (xs : List (Int × Int)) (g : FS) (most : Int) (tb : Nat) (M : List Nat) (k : Int) (w : World) (hl : Mem w M [g.seg 76 (mm pr xs), [cb tb [Value.slice g.a xs.length g.cap, Value.int .i64 most, Value.func (.func 14) #[] #[]] 74]] w) (ok : g.ok 2 xs.length) (hn : xs.length ≤ 100000) (hs : Srt 1 xs) : Calls Try.prog 42 #[pV tb 0, iV .i64 k] w (RetM w (fun _ : Unit => True) (fun _ => .tuple #[nV .i64 (posK 1 xs k), bV (hasK 1 xs k)]) M (fun _ => [g.seg 76 (mm pr xs), [cb tb [sV g xs.length, iV .i64 most, Value.func (.func 14) #[] #[]] 74]])) := by
 refine calls_W (M := M) (LL := [g.seg 76 (mm pr xs), [cb tb [sV g xs.length, iV .i64 most, Value.func (.func 14) #[] #[]] 74]]) (n := 15) Try.func42 rfl rfl sp (hl) (W.seq (fun K1 hK1 => ?_))
 refine W.region (Wl.ht rfl (Ht.box (v := pV tb 0) (cs := [pV tb 0]) rfl rfl ma0 rfl) (fun p2 => ?_))
 refine Wl.run 2 ma0 (Wl.nil (hK1 _ _ _ (W.prune' [1, 2] [iV .i64 k, pV p2 0] ma0 (fun f2 => W.seq (fun K3 hK3 => ?_)))))
 refine W.region (Wl.ys rfl rfl (Ys.l1 p2 0 0 0 Try.isAgg24) (Wl.run 2 ma0 (Wl.ys rfl rfl (Ys.l1 tb 0 2 0 Try.isAgg72) (Wl.run 2 ma0 ?_))))
 refine Wl.htS rfl (HtS.call (β := Unit) (k := 57) (args := #[sV g xs.length, iV .i64 k, Value.func (.func 58) #[] #[pV p2 0]]) (Lin := [g.seg 76 (mm pr xs), [cb tb [sV g xs.length, iV .i64 most, Value.func (.func 14) #[] #[]] 74], [cb p2 [pV tb 0] 24]]) (Lk := []) (Lo := fun _u => [g.seg 76 (mm pr xs), [cb tb [sV g xs.length, iV .i64 most, Value.func (.func 14) #[] #[]] 74], [cb p2 [pV tb 0] 24]]) [1, 2, 0] [] rfl (fun _ => kr) ma3 rfl rfl rfl (fun w_ hm_ hl_ => (bsA_c xs k g most tb p2 _ _ hl_ ok ma1 hs)) (fun _ => rfl)) (fun _u _ => Wl.run 4 ma0 (Wl.nil (hK3 _ _ _ (W.pick (LL' := [g.seg 76 (mm pr xs), [cb tb [sV g xs.length, iV .i64 most, Value.func (.func 14) #[] #[]] 74]]) [0, 1] ma3 rfl ?_))))
 refine W.prune' [4, 5] [nV .i64 (posK 1 xs k), bV (hasK 1 xs k)] ma0 (fun f5 => W.ret ?_)
 show ∀ w_, _ → bodyPostM (fence none) 0 Try.prog Try.f42 _ Exit.ret _ w_
 exact fun w_ hS_ => fin_ret (ret2 rfl (RV.tmp (v := nV .i64 (posK 1 xs k)) ma0) (RV.tmp (v := bV (hasK 1 xs k)) ma0) hS_ ⟨(), trivial, rfl, (hS_.pick [0, 1] ma3 rfl)⟩)
def atO (xs : List (Int × Int)) (i : Int) : Bool := !((decide (i < 0)) || (decide (i ≥ (xs.length : Int))))
def atN (xs : List (Int × Int)) (i : Int) : Int × Int := bif atO xs i then xs.getD i.toNat (0, 0) else (0, 0)
def putR (s most : Int) (xs : List (Int × Int)) (k : Int) : Int := bif hasK s xs k then 0 else bif decide (((xs.length : Nat) : Int) ≥ most) then 20 else 0
def putX (s most : Int) (xs : List (Int × Int)) (k v : Int) : List (Int × Int) := bif hasK s xs k then putK s xs k v else bif decide (((xs.length : Nat) : Int) ≥ most) then xs else putK s xs k v
theorem mm_setv {xs : List (Int × Int)} {i : Nat} {v : Int} (h : i < xs.length) : (mm pr xs).set (i * 2 + 1) (.int .i64 v) = mm pr (xs.set i ((xs.getD i (0, 0)).1, v)) := by
  induction xs generalizing i with
  | nil => simp at h
  | cons x xs ih =>
    cases i with
    | zero => simp [mm, pr]
    | succ i =>
      rw [mm_cons, show (i + 1) * 2 + 1 = (pr x).length + (i * 2 + 1) by rw [pr_len]; omega, List.set_append_right _ _ ma1, Nat.add_sub_cancel_left, ih (by simpa using h), List.set_cons_succ, mm_cons, List.getD_cons_succ]
theorem insx_c (g : FS) (xs X : List (Int × Int)) (x : Int × Int) (vb i : Nat) (M : List Nat) (w : World) (hX : xs.take i ++ x :: xs.drop i = X) (hl : Mem w M [g.seg 76 (mm pr xs), [cb vb (pr x) 76]] w) (ok : g.ok 2 xs.length) (hi : i ≤ xs.length) (hn : xs.length ≤ 100000) :
    Calls Try.prog 43 #[.slice g.a xs.length g.cap, .int .i64 (i : Int), .slice (some ⟨vb, 0, none⟩) 1 1] w (RetM w (fun g' : FS => g'.ok 2 X.length ∧ g'.nil = false) (fun g' => .slice g'.a X.length g'.cap) M (fun g' => [g'.seg 76 (mm pr X)])) := by
  subst hX
  have h := insP_c g (mm pr xs) (pr x) vb xs.length i M w hl ok (mm_len pr_len _) hi hn rfl (mm_one pr_one _) (pr_one _)
  have e : (mm pr xs).take (i * 2) ++ (pr x ++ (mm pr xs).drop (i * 2)) = mm pr (xs.take i ++ x :: xs.drop i) := by rw [mm_take pr_len, mm_drop pr_len, mm_app, mm_cons]
  have el : (xs.take i ++ x :: xs.drop i).length = xs.length + 1 := by simp; omega
  rw [e] at h; rw [el]; exact h
theorem delx_c (g : FS) (xs X : List (Int × Int)) (i : Nat) (M : List Nat) (w : World) (hX : xs.take i ++ xs.drop (i + 1) = X) (hl : Mem w M [g.seg 76 (mm pr xs)] w) (ok : g.ok 2 xs.length) (hi : i < xs.length) (hn : xs.length ≤ 100000) :
    Calls Try.prog 44 #[.slice g.a xs.length g.cap, .int .i64 (i : Int), .int .i64 ((i + 1 : Nat) : Int)] w (RetM w (fun g' : FS => g'.ok 2 X.length ∧ g'.nil = false) (fun g' => .slice g'.a X.length g'.cap) M (fun g' => [g'.seg 76 (mm pr X)])) := by
  subst hX
  have h := delP_c g (mm pr xs) xs.length i M w hl ok (mm_len pr_len _) hi hn (mm_one pr_one _)
  have e : (mm pr xs).take (i * 2) ++ (mm pr xs).drop ((i + 1) * 2) = mm pr (xs.take i ++ xs.drop (i + 1)) := by rw [mm_take pr_len, mm_drop pr_len, mm_app]
  have el : (xs.take i ++ xs.drop (i + 1)).length = xs.length - 1 := by simp; omega
  rw [e] at h; rw [el]; exact h
theorem lenA_c (xs : List (Int × Int)) (g : FS) (most : Int) (tb : Nat) (M : List Nat) (w : World) (hl : Mem w M [g.seg 76 (mm pr xs), [cb tb [Value.slice g.a xs.length g.cap, Value.int .i64 most, Value.func (.func 14) #[] #[]] 74]] w) (ok : g.ok 2 xs.length) (hn : xs.length ≤ 100000) (hs : Srt 1 xs) : Calls Try.prog 17 #[pV tb 0] w (RetM w (fun _ : Unit => True) (fun _ => .int .i64 (xs.length : Int)) M (fun _ => [g.seg 76 (mm pr xs), [cb tb [sV g xs.length, iV .i64 most, Value.func (.func 14) #[] #[]] 74]])) := by
 refine calls_W (M := M) (LL := [g.seg 76 (mm pr xs), [cb tb [sV g xs.length, iV .i64 most, Value.func (.func 14) #[] #[]] 74]]) (n := 8) Try.func17 rfl rfl sp (hl) (W.seq (fun K1 hK1 => ?_))
 refine W.region (Wl.run 1 ma0 (Wl.nil (hK1 _ _ _ (W.seq (fun K2 hK2 => ?_)))))
 refine W.region (Wl.run 3 ma0 (Wl.ys rfl rfl (Ys.l1 tb 0 1 0 Try.isAgg72) (Wl.run 2 ma0 (Wl.nil ?_))))
 refine hK2 _ _ _ (W.prune' [2] [nV .i64 xs.length] ma0 (fun f3 => ?_))
 refine W.ret ?_
 show ∀ w_, _ → bodyPostM (fence none) 0 Try.prog Try.f17 _ Exit.ret _ w_
 exact fun w_ hS_ => fin_ret (ret1 rfl (RV.tmp (v := nV .i64 xs.length) ma0) hS_ ⟨(), trivial, rfl, (hS_.pick [0, 1] ma3 rfl)⟩)
theorem mostA_c (xs : List (Int × Int)) (g : FS) (most : Int) (tb : Nat) (M : List Nat) (w : World) (hl : Mem w M [g.seg 76 (mm pr xs), [cb tb [Value.slice g.a xs.length g.cap, Value.int .i64 most, Value.func (.func 14) #[] #[]] 74]] w) (ok : g.ok 2 xs.length) (hn : xs.length ≤ 100000) (hs : Srt 1 xs) : Calls Try.prog 49 #[pV tb 0] w (RetM w (fun _ : Unit => True) (fun _ => .int .i64 most) M (fun _ => [g.seg 76 (mm pr xs), [cb tb [sV g xs.length, iV .i64 most, Value.func (.func 14) #[] #[]] 74]])) := by
 refine calls_W (M := M) (LL := [g.seg 76 (mm pr xs), [cb tb [sV g xs.length, iV .i64 most, Value.func (.func 14) #[] #[]] 74]]) (n := 7) Try.func49 rfl rfl sp (hl) (W.seq (fun K1 hK1 => ?_))
 refine W.region (Wl.run 1 ma0 (Wl.nil (hK1 _ _ _ (W.seq (fun K2 hK2 => ?_)))))
 refine W.region (Wl.run 3 ma0 (Wl.ys rfl rfl (Ys.l1 tb 1 1 0 Try.isAgg3) (Wl.run 1 ma0 (Wl.nil ?_))))
 refine hK2 _ _ _ (W.prune' [2] [iV .i64 most] ma0 (fun f3 => ?_))
 refine W.ret ?_
 show ∀ w_, _ → bodyPostM (fence none) 0 Try.prog Try.f49 _ Exit.ret _ w_
 exact fun w_ hS_ => fin_ret (ret1 rfl (RV.tmp (v := iV .i64 most) ma0) hS_ ⟨(), trivial, rfl, (hS_.pick [0, 1] ma3 rfl)⟩)
theorem atA_c (xs : List (Int × Int)) (g : FS) (most : Int) (tb : Nat) (M : List Nat) (i : Int) (w : World) (hl : Mem w M [g.seg 76 (mm pr xs), [cb tb [Value.slice g.a xs.length g.cap, Value.int .i64 most, Value.func (.func 14) #[] #[]] 74]] w) (ok : g.ok 2 xs.length) (hn : xs.length ≤ 100000) (hs : Srt 1 xs) : Calls Try.prog 18 #[pV tb 0, iV .i64 i] w (RetM w (fun _ : Unit => True) (fun _ => .tuple #[iV .i64 ((atN xs i).1), iV .i64 ((atN xs i).2), bV (atO xs i)]) M (fun _ => [g.seg 76 (mm pr xs), [cb tb [sV g xs.length, iV .i64 most, Value.func (.func 14) #[] #[]] 74]])) := by
 refine calls_W (M := M) (LL := [g.seg 76 (mm pr xs), [cb tb [sV g xs.length, iV .i64 most, Value.func (.func 14) #[] #[]] 74]]) (n := 36) Try.func18 rfl rfl sp (hl) (W.seq (fun K1 hK1 => ?_))
 refine W.region (Wl.run 3 ma0 (Wl.nil (hK1 _ _ _ (W.prune' [0, 1, 4, 5] [pV tb 0, iV .i64 i, iV .i64 0, iV .i64 0] ma0 (fun f2 => ?_)))))
 refine W.seq (fun K3 hK3 => W.seq (fun K4 hK4 => ?_))
 refine W.region (Wl.run 3 ma0 ?_)
 refine Wl.guard (v := iV .i64 i) (!(decide (i < 0))) rfl (wantF rfl ma0) rfl (fun hg5 => ?_) ?_
 ·exact Ys.pure (fun _ => kr)
 refine Wl.guard (v := pV tb 0) (!(decide (i < 0))) rfl (wantF rfl ma0) rfl (fun hg6 => ?_) ?_
 ·exact Ys.pure (fun _ => kr)
 refine Wl.guard (v := pV tb 0) (!(decide (i < 0))) rfl (wantF rfl ma0) rfl (fun hg7 => ?_) ?_
 ·have qhg7 := hg7; try simp only [zA] at qhg7
  refine Ys.at (t := 11) (v0 := pV tb 0) (lz (g := !(decide (i < 0))) (u := undef) hg7 ma0) ?_
  exact Ys.pure (fun _ => kr)
 refine Wl.guard (v := pV tb 0) (!(decide (i < 0))) rfl (wantF rfl ma0) rfl (fun hg8 => ?_) ?_
 ·have qhg8 := hg8; try simp only [zA] at qhg8
  refine Ys.at (t := 12) (v0 := pV tb 0) (lz (g := !(decide (i < 0))) (u := undef) hg8 ma0) ?_
  exact Ys.pure (fun _ => kr)
 refine Wl.guard (v := sV g xs.length) (!(decide (i < 0))) rfl (wantF rfl ma0) rfl (fun hg9 => ?_) ?_
 ·have qhg9 := hg9; try simp only [zA] at qhg9
  refine Ys.at (t := 13) (v0 := pV tb 0) (lz (g := !(decide (i < 0))) (u := undef) hg9 ma0) ?_
  exact Ys.l1 tb 0 1 0 Try.isAgg72
 refine Wl.guard (v := nV .i64 xs.length) (!(decide (i < 0))) rfl (wantF rfl ma0) rfl (fun hg10 => ?_) ?_
 ·have qhg10 := hg10; try simp only [zA] at qhg10
  refine Ys.at (t := 14) (v0 := sV g xs.length) (lz (g := !(decide (i < 0))) (u := undef) hg10 ma0) ?_
  exact Ys.pure (fun _ => kr)
 refine Wl.guard (v := bV (decide (i ≥ (xs.length : Int)))) (!(decide (i < 0))) rfl (wantF rfl ma0) rfl (fun hg11 => ?_) ?_
 ·have qhg11 := hg11; try simp only [zA] at qhg11
  refine Ys.at (t := 10) (v0 := iV .i64 i) (lz (g := !(decide (i < 0))) (u := undef) hg11 ma0) (Ys.at (t := 15) (v0 := nV .i64 xs.length) (lz (g := !(decide (i < 0))) (u := undef) hg11 ma0) ?_)
  exact Ys.pure (fun _ => kr)
 refine Wl.ys (v := bV ((decide (i < 0)) || (decide (i ≥ (xs.length : Int))))) rfl rfl (Ys.or' (e := decide (i < 0)) (b := decide (i ≥ (xs.length : Int))) rfl ma0 ma0 ma0) (Wl.nil (hK4 _ _ _ (W.prune' [0, 1, 4, 5, 17] [pV tb 0, iV .i64 i, iV .i64 0, iV .i64 0, bV ((decide (i < 0)) || (decide (i ≥ (xs.length : Int))))] ma0 (fun f12 => ?_))))
 refine W.cond ((decide (i < 0)) || (decide (i ≥ (xs.length : Int)))) ma0 (fun h13 => ?_) (fun h14 => ?_)
 ·have qh13 := h13; try simp only [zA] at qh13
  refine W.seq (fun K15 hK15 => W.region (Wl.run 5 ma0 (Wl.nil (hK15 _ _ _ ?_))))
  refine W.prune' [4, 5, 6] [iV .i64 0, iV .i64 0, bV false] ma0 (fun f16 => W.ret ?_)
  show ∀ w_, _ → bodyPostM (fence none) 0 Try.prog Try.f18 _ Exit.ret _ w_
  exact fun w_ hS_ => fin_ret (ret3 rfl (RV.tmp (v := iV .i64 0) ma0) (RV.tmp (v := iV .i64 0) ma0) (RV.tmp (v := bV false) ma0) hS_ ⟨(), trivial, congrArg Ending.returned ((by unfold atN atO; simp only [h13, cond_true, cond_false, Bool.not_true, Bool.not_false])), (hS_.pick [0, 1] ma3 rfl)⟩)
 ·have qh14 := h14; try simp only [zA] at qh14
  refine W.skip' (hK3 _ _ _ (W.prune' [0, 1] [pV tb 0, iV .i64 i] ma0 (fun f17 => W.seq (fun K18 hK18 => W.draws [(0, true), (1, true), (2, true), (3, true), (4, true), (5, true), (6, true), (7, true), (8, true), (9, true), (10, true), (11, true), (12, true), (13, true), (14, true), (15, true), (16, false), (17, false), (18, false)] [0, 1, 2, 3, 4, 5, 6, 7, 8, 9, 10, 11, 12, 13, 14, 15] (Mem w M [g.seg 76 (mm pr xs), [cb tb [sV g xs.length, iV .i64 most, Value.func (.func 14) #[] #[]] 74]]) ma0 ma0 ma0 rfl ma0 (fun _ _ h_ => h_.drawn _) (fun _ h_ => h_) ?_))))
  refine Wd.run 3 ma0 (Wd.ys rfl rfl rfl (Ys.l1 tb 0 1 0 Try.isAgg72) (Wd.run 1 ma0 (Wd.ys (v := Value.pointer (some (ela g.a (i.toNat * 2)))) rfl rfl rfl (Ys.indexAddr (k := .i64) (a := g.a) (len := xs.length) (cap := g.cap) (i := i) (sz := 2) rfl ma0 ma0 Try.runUnderlying72 Try.sizeOf76 ma1 ma1 ma9) (Wd.run 1 ma0 ?_))))
  refine Wd.ys (v := iV .i64 ((xs.getD i.toNat (0, 0)).1)) rfl rfl rfl (Ys.ld (a := ela g.a (i.toNat * 2)) rfl ma0 Try.isAgg3 (fun w_ h_ => (FS.at (i := 0) (t := 76) h_ rfl (FS.nil_cs ok (mm_len pr_len _))).ld (mm_getF (g := pr) (sz := 2) (fun _ => rfl) (0, 0) (xs := xs) (k := i.toNat) ma1 0 rfl))) (Wd.run 3 ma0 (Wd.ys rfl rfl rfl (Ys.l1 tb 0 1 0 Try.isAgg72) (Wd.run 1 ma0 (Wd.ys (v := Value.pointer (some (ela g.a (i.toNat * 2)))) rfl rfl rfl (Ys.indexAddr (k := .i64) (a := g.a) (len := xs.length) (cap := g.cap) (i := i) (sz := 2) rfl ma0 ma0 Try.runUnderlying72 Try.sizeOf76 ma1 ma1 ma9) ?_))))
  refine Wd.run 1 ma0 (Wd.ys (v := iV .i64 ((xs.getD i.toNat (0, 0)).2)) rfl rfl rfl (Ys.ld (a := (ela g.a (i.toNat * 2)).add 1) rfl ma0 Try.isAgg3 (fun w_ h_ => (FS.at (i := 0) (t := 76) h_ rfl (FS.nil_cs ok (mm_len pr_len _))).ldF (mm_getF (g := pr) (sz := 2) (fun _ => rfl) (0, 0) (xs := xs) (k := i.toNat) ma1 1 rfl))) (Wd.yc (v := iV .i64 ((xs.getD i.toNat (0, 0)).1)) rfl rfl rfl (Ys.yc (Ys.pure (fun _ => kr))) (.inr fun _ h_ => h_) (Wd.yc (v := iV .i64 ((xs.getD i.toNat (0, 0)).2)) rfl rfl rfl (Ys.yc (Ys.pure (fun _ => kr))) (.inl ma0) (Wd.yc (v := bV true) rfl rfl rfl (Ys.yc (Ys.pure (fun _ => kr))) (.inl ma0) ?_))))
  refine Wd.nil (hK18 _ _ _ (W.prune' [4, 5, 6] [iV .i64 ((xs.getD i.toNat (0, 0)).1), iV .i64 ((xs.getD i.toNat (0, 0)).2), bV true] ma0 (fun f19 => W.ret ?_)))
  show ∀ w_, _ → bodyPostM (fence none) 0 Try.prog Try.f18 _ Exit.ret _ w_
  exact fun w_ hS_ => fin_ret (ret3 rfl (RV.tmp (v := iV .i64 ((xs.getD i.toNat (0, 0)).1)) ma0) (RV.tmp (v := iV .i64 ((xs.getD i.toNat (0, 0)).2)) ma0) (RV.tmp (v := bV true) ma0) hS_ ⟨(), trivial, congrArg Ending.returned ((by unfold atN atO; simp only [h14, cond_true, cond_false, Bool.not_true, Bool.not_false])), (hS_.pick [0, 1] ma3 rfl)⟩)
theorem getA_c (xs : List (Int × Int)) (g : FS) (most : Int) (tb : Nat) (M : List Nat) (k : Int) (w : World) (hl : Mem w M [g.seg 76 (mm pr xs), [cb tb [Value.slice g.a xs.length g.cap, Value.int .i64 most, Value.func (.func 14) #[] #[]] 74]] w) (ok : g.ok 2 xs.length) (hn : xs.length ≤ 100000) (hs : Srt 1 xs) : Calls Try.prog 19 #[pV tb 0, iV .i64 k] w (RetM w (fun _ : Unit => True) (fun _ => .tuple #[iV .i64 (getK 1 xs k), bV (hasK 1 xs k)]) M (fun _ => [g.seg 76 (mm pr xs), [cb tb [sV g xs.length, iV .i64 most, Value.func (.func 14) #[] #[]] 74]])) := by
 refine calls_W (M := M) (LL := [g.seg 76 (mm pr xs), [cb tb [sV g xs.length, iV .i64 most, Value.func (.func 14) #[] #[]] 74]]) (n := 24) Try.func19 rfl rfl sp (hl) (W.seq (fun K1 hK1 => ?_))
 refine W.region (Wl.run 2 ma0 (Wl.nil (hK1 _ _ _ (W.prune' [0, 1, 4] [pV tb 0, iV .i64 k, iV .i64 0] ma0 (fun f2 => ?_)))))
 refine W.seq (fun K3 hK3 => W.seq (fun K4 hK4 => ?_))
 refine W.region (Wl.run 2 ma0 (Wl.yc (v := Value.tuple #[nV .i64 (posK 1 xs k), bV (hasK 1 xs k)]) rfl rfl (Yc.call (fun _ => kr) (fun w_ hm_ => (let z_ := Mem.local' (hm_.pick [0, 1] ma3 rfl); ret_same z_ (findA_c xs g most tb _ k w_ z_ ok ma1 hs)))) (Wl.run 5 ma0 (Wl.nil ?_))))
 refine hK4 _ _ _ (W.prune' [0, 4, 6, 7] [pV tb 0, iV .i64 0, nV .i64 (posK 1 xs k), bV (hasK 1 xs k)] ma0 (fun f5 => ?_))
 refine W.seq (fun K6 hK6 => W.region (Wl.run 1 ma0 (Wl.nil (hK6 _ _ _ ?_))))
 refine W.cond (hasK 1 xs k) ma0 (fun h7 => ?_) (fun h8 => ?_)
 ·refine W.seq (fun K9 hK9 => ?_)
  have hps_ := hasK_at h7
  refine W.region (Wl.run 3 ma0 (Wl.ys rfl rfl (Ys.l1 tb 0 1 0 Try.isAgg72) (Wl.run 1 ma0 (Wl.ys (v := Value.pointer (some (ela g.a ((posK 1 xs k) * 2)))) rfl rfl (Ys.indexAddr (k := .i64) (a := g.a) (len := xs.length) (cap := g.cap) (i := (posK 1 xs k : Int)) (sz := 2) rfl ma0 ma0 Try.runUnderlying72 Try.sizeOf76 ma1 ma1 ma9) ?_))))
  refine Wl.run 1 ma0 (Wl.ys (v := iV .i64 ((xs.getD (posK 1 xs k) (0, 0)).2)) rfl rfl (Ys.ld (a := (ela g.a ((posK 1 xs k) * 2)).add 1) rfl ma0 Try.isAgg3 (fun w_ h_ => (FS.at (i := 0) (t := 76) h_ rfl (FS.nil_cs ok (mm_len pr_len _))).ldF (mm_getF (g := pr) (sz := 2) (fun _ => rfl) (0, 0) (xs := xs) (k := posK 1 xs k) ma1 1 rfl))) (Wl.run 2 ma0 (Wl.nil (hK9 _ _ _ ?_))))
  refine W.prune' [4, 5] [iV .i64 ((xs.getD (posK 1 xs k) (0, 0)).2), bV true] ma0 (fun f10 => W.ret ?_)
  show ∀ w_, _ → bodyPostM (fence none) 0 Try.prog Try.f19 _ Exit.ret _ w_
  exact fun w_ hS_ => fin_ret (ret2 rfl (RV.tmp (v := iV .i64 ((xs.getD (posK 1 xs k) (0, 0)).2)) ma0) (RV.tmp (v := bV true) ma0) hS_ ⟨(), trivial, congrArg Ending.returned ((by unfold getK; simp only [h7, cond_true, cond_false, Bool.not_true, Bool.not_false])), (hS_.pick [0, 1] ma3 rfl)⟩)
 ·refine W.skip' (hK3 _ _ _ (W.prune' [4] [iV .i64 0] ma0 (fun f11 => W.seq (fun K12 hK12 => W.region ?_))))
  refine Wl.run 3 ma0 (Wl.nil (hK12 _ _ _ (W.prune' [4, 5] [iV .i64 0, bV false] ma0 (fun f13 => W.ret ?_))))
  show ∀ w_, _ → bodyPostM (fence none) 0 Try.prog Try.f19 _ Exit.ret _ w_
  exact fun w_ hS_ => fin_ret (ret2 rfl (RV.tmp (v := iV .i64 0) ma0) (RV.tmp (v := bV false) ma0) hS_ ⟨(), trivial, congrArg Ending.returned ((by unfold getK; simp only [h8, cond_true, cond_false, Bool.not_true, Bool.not_false])), (hS_.pick [0, 1] ma3 rfl)⟩)
theorem putA_c (xs : List (Int × Int)) (g : FS) (most : Int) (tb : Nat) (M : List Nat) (k v : Int) (w : World) (hl : Mem w M [g.seg 76 (mm pr xs), [cb tb [Value.slice g.a xs.length g.cap, Value.int .i64 most, Value.func (.func 14) #[] #[]] 74]] w) (ok : g.ok 2 xs.length) (hn : xs.length ≤ 100000) (hs : Srt 1 xs) : Calls Try.prog 16 #[pV tb 0, iV .i64 k, iV .i64 v] w (RetM w (fun g' : FS => g'.ok 2 (putX 1 most xs k v).length) (fun _ => .int .i64 (putR 1 most xs k)) M (fun g' => [g'.seg 76 (mm pr (putX 1 most xs k v)), [cb tb [.slice g'.a (putX 1 most xs k v).length g'.cap, .int .i64 most, Value.func (.func 14) #[] #[]] 74]])) := by
 refine calls_W (M := M) (LL := [g.seg 76 (mm pr xs), [cb tb [sV g xs.length, iV .i64 most, Value.func (.func 14) #[] #[]] 74]]) (n := 49) Try.func16 rfl rfl sp (hl) (W.seq (fun K1 hK1 => ?_))
 refine W.region (Wl.run 1 ma0 (Wl.nil (hK1 _ _ _ (W.seq (fun K2 hK2 => ?_)))))
 refine W.region (Wl.run 2 ma0 (Wl.yc (v := Value.tuple #[nV .i64 (posK 1 xs k), bV (hasK 1 xs k)]) rfl rfl (Yc.call (fun _ => kr) (fun w_ hm_ => (let z_ := Mem.local' (hm_.pick [0, 1] ma3 rfl); ret_same z_ (findA_c xs g most tb _ k w_ z_ ok ma1 hs)))) (Wl.run 5 ma0 (Wl.nil ?_))))
 refine hK2 _ _ _ (W.prune' [0, 1, 2, 7, 8] [pV tb 0, iV .i64 k, iV .i64 v, nV .i64 (posK 1 xs k), bV (hasK 1 xs k)] ma0 (fun f3 => ?_))
 refine W.seq (fun K4 hK4 => W.block (W.seq (fun K5 hK5 => W.region (Wl.run 2 ma0 ?_))))
 refine Wl.nil (hK5 _ _ _ (W.prune' [0, 1, 2, 7, 28] [pV tb 0, iV .i64 k, iV .i64 v, nV .i64 (posK 1 xs k), bV (hasK 1 xs k)] ma0 (fun f6 => ?_)))
 refine W.cond (hasK 1 xs k) ma0 (fun h7 => ?_) (fun h8 => ?_)
 ·have hps_ := hasK_at h7
  refine W.region (Wl.run 3 ma0 (Wl.ys rfl rfl (Ys.l1 tb 0 1 0 Try.isAgg72) (Wl.run 2 ma0 (Wl.ys (v := Value.pointer (some (ela g.a ((posK 1 xs k) * 2)))) rfl rfl (Ys.indexAddr (k := .i64) (a := g.a) (len := xs.length) (cap := g.cap) (i := (posK 1 xs k : Int)) (sz := 2) rfl ma0 ma0 Try.runUnderlying72 Try.sizeOf76 ma1 ma1 ma9) ?_))))
  refine Wl.run 1 ma0 (Wl.ht rfl (Ht.storeFSF (i := 0) (g := g) (q := (posK 1 xs k) * 2) (k := 1) (ty := 76) (cs := mm pr xs) (cs' := mm pr (xs.set (posK 1 xs k) ((xs.getD (posK 1 xs k) (0, 0)).1, v))) (v := iV .i64 v) (LL' := [g.seg 76 (mm pr (xs.set (posK 1 xs k) ((xs.getD (posK 1 xs k) (0, 0)).1, v))), [cb tb [sV g xs.length, iV .i64 most, Value.func (.func 14) #[] #[]] 74]]) rfl rfl ma0 ma0 Try.sizeOf3 rfl (FS.notnil ok ma1) rfl (by rw [mm_len pr_len]; omega) (mm_setv ma1) rfl) (fun _ => ?_))
  refine Wl.nil (hK4 _ _ _ (W.prune' [] [] ma0 (fun f9 => W.seq (fun K10 hK10 => W.region ?_))))
  refine Wl.run 1 ma0 (Wl.nil (hK10 _ _ _ (W.ret ?_)))
  have hB : putX 1 most xs k v = xs.set (posK 1 xs k) ((xs.getD (posK 1 xs k) (0, 0)).1, v) := by unfold putX putK; simp only [h7, cond_true, cond_false]; rw [hps_.2]
  show ∀ w_, _ → bodyPostM (fence none) 0 Try.prog Try.f16 _ Exit.ret _ w_
  exact fun w_ hS_ => fin_ret (ret1 rfl (RV.tmp (v := iV .i64 0) ma0) hS_ ⟨g, (by rw [hB, List.length_set]; exact ok), congrArg Ending.returned ((by unfold putR; simp only [h7, cond_true, cond_false])), (Mem.cast (by rw [hB, List.length_set]; rfl) (hS_.pick [0, 1] ma3 rfl))⟩)
 ·refine W.seq (fun K11 hK11 => W.draws [(0, true), (1, true), (2, true), (3, true), (4, true), (5, false), (6, false), (7, false), (8, false), (9, false), (10, false)] [0, 1, 2, 3, 4] (Mem w M [g.seg 76 (mm pr xs), [cb tb [sV g xs.length, iV .i64 most, Value.func (.func 14) #[] #[]] 74]]) ma0 ma0 ma0 rfl ma0 (fun _ _ h_ => h_.drawn _) (fun _ h_ => h_) (Wd.run 3 ma0 (Wd.ys rfl rfl rfl (Ys.l1 tb 0 1 0 Try.isAgg72) (Wd.run 1 ma0 ?_))))
  refine Wd.yc (v := pV tb 0) rfl rfl rfl (Ys.yc (Ys.pure (fun _ => kr))) (.inr fun _ h_ => h_) (Wd.yc (v := pV tb 0) rfl rfl rfl (Ys.yc (Ys.pure (fun _ => kr))) (.inr fun _ h_ => h_) (Wd.yc (v := pV tb 1) rfl rfl rfl (Ys.yc (Ys.pure (fun _ => kr))) (.inr fun _ h_ => h_) (Wd.yc (v := iV .i64 most) rfl rfl rfl (Ys.yc (Ys.l1 tb 1 1 0 Try.isAgg3)) (.inr fun _ h_ => h_) (Wd.yc (v := bV (decide (((xs.length : Nat) : Int) ≥ most))) rfl rfl rfl (Ys.yc (Ys.pure (fun _ => kr))) (.inr fun _ h_ => h_) ?_))))
  refine Wd.yc (v := bV (decide (((xs.length : Nat) : Int) ≥ most))) rfl rfl rfl (Ys.yc (Ys.pure (fun _ => kr))) (.inr fun _ h_ => h_) (Wd.nil (hK11 _ _ _ (W.prune' [0, 1, 2, 7, 38] [pV tb 0, iV .i64 k, iV .i64 v, nV .i64 (posK 1 xs k), bV (decide (((xs.length : Nat) : Int) ≥ most))] ma0 (fun f12 => ?_))))
  refine W.cond (decide (((xs.length : Nat) : Int) ≥ most)) ma0 (fun h13 => ?_) (fun h14 => ?_)
  ·have qh13 := h13; try simp only [zA] at qh13
   refine W.seq (fun K15 hK15 => W.region (Wl.run 1 ma0 (Wl.nil (hK15 _ _ _ ?_))))
   refine W.ret ?_
   have hB : putX 1 most xs k v = xs := by unfold putX putK; simp only [h8, h13, cond_true, cond_false]
   show ∀ w_, _ → bodyPostM (fence none) 0 Try.prog Try.f16 _ Exit.ret _ w_
   exact fun w_ hS_ => fin_ret (ret1 rfl (RV.tmp (v := iV .i64 20) ma0) hS_ ⟨g, (by rw [hB]; exact ok), congrArg Ending.returned ((by unfold putR; simp only [h8, h13, cond_true, cond_false])), (Mem.cast (by rw [hB]; rfl) (hS_.pick [0, 1] ma3 rfl))⟩)
  ·have qh14 := h14; try simp only [zA] at qh14
   refine W.region (Wl.run 4 ma0 (Wl.ys rfl rfl (Ys.l1 tb 0 1 0 Try.isAgg72) (Wl.run 4 ma0 (Wl.ht rfl (Ht.made (mk := fun b_ => .slice (some ⟨b_, 0, none⟩) 1 1) (t := 76) (cs := [iV .i64 k, iV .i64 v]) rfl (fun _ => kr)) (fun p24 => ?_)))))
   obtain ⟨Z16, hZ17⟩ : ∃ Z, xs.take (posK 1 xs k) ++ (k, v) :: xs.drop (posK 1 xs k) = Z := ⟨_, rfl⟩
   refine Wl.htS rfl (HtS.call (β := FS) (k := 43) (args := #[sV g xs.length, nV .i64 (posK 1 xs k), Value.slice (some ⟨p24, 0, none⟩) 1 1]) (Lin := [g.seg 76 (mm pr xs), [cb p24 [iV .i64 k, iV .i64 v] 76]]) (Lk := [[cb tb [sV g xs.length, iV .i64 most, Value.func (.func 14) #[] #[]] 74]]) (Lo := fun g18 => [g18.seg 76 (mm pr Z16), [cb tb [sV g xs.length, iV .i64 most, Value.func (.func 14) #[] #[]] 74]]) [1, 0] [2] rfl (fun _ => kr) ma3 rfl rfl rfl (fun w_ hm_ hl_ => (insx_c g xs Z16 (k, v) p24 (posK 1 xs k) _ _ hZ17 hl_ ok (by have z_ := posK_le; first | omega | exact posK_le _ _ _) ma1)) (fun _ => rfl)) (fun g18 hx22 => ?_)
   obtain ⟨ok19, nn20⟩ := hx22
   refine Wl.run 2 ma0 (Wl.ht rfl (Ht.store (b := tb) (o' := 0) (i := 1) (j := 0) (v := sV g18 Z16.length) (LL' := [g18.seg 76 (mm pr Z16), [cb tb [sV g18 Z16.length, iV .i64 most, Value.func (.func 14) #[] #[]] 74]]) rfl rfl ma0 ma0 Try.sizeOf72 rfl rfl rfl sp rfl rfl) (fun _ => ?_))
   refine Wl.nil (hK4 _ _ _ (W.prune' [] [] ma0 (fun f23 => W.seq (fun K24 hK24 => W.region ?_))))
   refine Wl.run 1 ma0 (Wl.nil (hK24 _ _ _ (W.ret ?_)))
   have hB : putX 1 most xs k v = Z16 := by unfold putX putK; simp only [h8, h14, cond_true, cond_false]; exact hZ17
   show ∀ w_, _ → bodyPostM (fence none) 0 Try.prog Try.f16 _ Exit.ret _ w_
   exact fun w_ hS_ => fin_ret (ret1 rfl (RV.tmp (v := iV .i64 0) ma0) hS_ ⟨g18, (by rw [hB]; exact ok19), congrArg Ending.returned ((by unfold putR; simp only [h8, h14, cond_true, cond_false])), (Mem.cast (by rw [hB]; rfl) (hS_.pick [0, 1] ma3 rfl))⟩)
theorem dropA_c (xs : List (Int × Int)) (g : FS) (most : Int) (tb : Nat) (M : List Nat) (k : Int) (w : World) (hl : Mem w M [g.seg 76 (mm pr xs), [cb tb [Value.slice g.a xs.length g.cap, Value.int .i64 most, Value.func (.func 14) #[] #[]] 74]] w) (ok : g.ok 2 xs.length) (hn : xs.length ≤ 100000) (hs : Srt 1 xs) : Calls Try.prog 20 #[pV tb 0, iV .i64 k] w (RetM w (fun g' : FS => g'.ok 2 (dropK 1 xs k).length) (fun _ => .bool (hasK 1 xs k)) M (fun g' => [g'.seg 76 (mm pr (dropK 1 xs k)), [cb tb [.slice g'.a (dropK 1 xs k).length g'.cap, .int .i64 most, Value.func (.func 14) #[] #[]] 74]])) := by
 refine calls_W (M := M) (LL := [g.seg 76 (mm pr xs), [cb tb [sV g xs.length, iV .i64 most, Value.func (.func 14) #[] #[]] 74]]) (n := 26) Try.func20 rfl rfl sp (hl) (W.seq (fun K1 hK1 => ?_))
 refine W.region (Wl.run 1 ma0 (Wl.nil (hK1 _ _ _ (W.seq (fun K2 hK2 => ?_)))))
 refine W.region (Wl.run 2 ma0 (Wl.yc (v := Value.tuple #[nV .i64 (posK 1 xs k), bV (hasK 1 xs k)]) rfl rfl (Yc.call (fun _ => kr) (fun w_ hm_ => (let z_ := Mem.local' (hm_.pick [0, 1] ma3 rfl); ret_same z_ (findA_c xs g most tb _ k w_ z_ ok ma1 hs)))) (Wl.run 5 ma0 (Wl.nil ?_))))
 refine hK2 _ _ _ (W.prune' [0, 5, 6] [pV tb 0, nV .i64 (posK 1 xs k), bV (hasK 1 xs k)] ma0 (fun f3 => ?_))
 refine W.seq (fun K4 hK4 => W.seq (fun K5 hK5 => ?_))
 refine W.region (Wl.run 1 ma0 (Wl.nil (hK5 _ _ _ ?_)))
 refine W.cond (hasK 1 xs k) ma0 (fun h6 => ?_) (fun h7 => ?_)
 ·have hps_ := hasK_at h6
  refine W.region (Wl.run 4 ma0 (Wl.ys rfl rfl (Ys.l1 tb 0 1 0 Try.isAgg72) (Wl.run 2 ma0 (Wl.ys (v := nV .i64 ((posK 1 xs k) + 1)) rfl rfl ((Ys.pure (v := .int .i64 (iadd .i64 (posK 1 xs k : Int) 1)) (fun _ => kr)).conseq (int_congr (iadd_eq ma1 ma1 ma1))) ?_))))
  obtain ⟨Z8, hZ9⟩ : ∃ Z, xs.take (posK 1 xs k) ++ xs.drop ((posK 1 xs k) + 1) = Z := ⟨_, rfl⟩
  refine Wl.htS rfl (HtS.call (β := FS) (k := 44) (args := #[sV g xs.length, nV .i64 (posK 1 xs k), nV .i64 ((posK 1 xs k) + 1)]) (Lin := [g.seg 76 (mm pr xs)]) (Lk := [[cb tb [sV g xs.length, iV .i64 most, Value.func (.func 14) #[] #[]] 74]]) (Lo := fun g10 => [g10.seg 76 (mm pr Z8), [cb tb [sV g xs.length, iV .i64 most, Value.func (.func 14) #[] #[]] 74]]) [0] [1] rfl (fun _ => kr) ma3 rfl rfl rfl (fun w_ hm_ hl_ => (delx_c g xs Z8 (posK 1 xs k) _ _ hZ9 hl_ ok hps_.1 ma1)) (fun _ => rfl)) (fun g10 hx14 => ?_)
  obtain ⟨ok11, nn12⟩ := hx14
  refine Wl.run 2 ma0 (Wl.ht rfl (Ht.store (b := tb) (o' := 0) (i := 1) (j := 0) (v := sV g10 Z8.length) (LL' := [g10.seg 76 (mm pr Z8), [cb tb [sV g10 Z8.length, iV .i64 most, Value.func (.func 14) #[] #[]] 74]]) rfl rfl ma0 ma0 Try.sizeOf72 rfl rfl rfl sp rfl rfl) (fun _ => ?_))
  refine Wl.nil (hK4 _ _ _ (W.prune' [6] [bV (hasK 1 xs k)] ma0 (fun f15 => W.seq (fun K16 hK16 => W.region ?_))))
  refine Wl.run 2 ma0 (Wl.nil (hK16 _ _ _ (W.prune' [4] [bV (hasK 1 xs k)] ma0 (fun f17 => W.ret ?_))))
  have hB : dropK 1 xs k = Z8 := by unfold dropK; simp only [h6, cond_true, cond_false]; exact hZ9
  show ∀ w_, _ → bodyPostM (fence none) 0 Try.prog Try.f20 _ Exit.ret _ w_
  exact fun w_ hS_ => fin_ret (ret1 rfl (RV.tmp (v := bV (hasK 1 xs k)) ma0) hS_ ⟨g10, (by rw [hB]; exact ok11), rfl, (Mem.cast (by rw [hB]; rfl) (hS_.pick [0, 1] ma3 rfl))⟩)
 ·refine W.skip' (hK4 _ _ _ (W.prune' [6] [bV (hasK 1 xs k)] ma0 (fun f18 => W.seq (fun K19 hK19 => W.region ?_))))
  refine Wl.run 2 ma0 (Wl.nil (hK19 _ _ _ (W.prune' [4] [bV (hasK 1 xs k)] ma0 (fun f20 => W.ret ?_))))
  have hB : dropK 1 xs k = xs := by unfold dropK; simp only [h7, cond_true, cond_false]
  show ∀ w_, _ → bodyPostM (fence none) 0 Try.prog Try.f20 _ Exit.ret _ w_
  exact fun w_ hS_ => fin_ret (ret1 rfl (RV.tmp (v := bV (hasK 1 xs k)) ma0) hS_ ⟨g, (by rw [hB]; exact ok), rfl, (Mem.cast (by rw [hB]; rfl) (hS_.pick [0, 1] ma3 rfl))⟩)
theorem newA_c (most : Int) (w : World) : Calls Try.prog 13 #[iV .i64 most, Value.func (.func 14) #[] #[]] w (RetM w (fun _ : Nat => True) (fun b => .pointer (some ⟨b, 0, none⟩)) [] (fun b => [[cb b [.slice none 0 0, .int .i64 (imax most 0), Value.func (.func 14) #[] #[]] 74]])) := by
 refine calls_W (M := []) (LL := []) (n := 10) Try.func13 rfl rfl sp (Mem.refl _) (W.seq (fun K1 hK1 => ?_))
 refine W.region (Wl.run 1 ma0 (Wl.nil (hK1 _ _ _ (W.seq (fun K2 hK2 => ?_)))))
 refine W.region (Wl.run 4 ma0 ?_)
 have hm3 := imax_bd most 0
 refine Wl.ht rfl (Ht.box (v := aV [Value.slice none 0 0, iV .i64 (imax most 0), Value.func (.func 14) #[] #[]]) (cs := [Value.slice none 0 0, iV .i64 (imax most 0), Value.func (.func 14) #[] #[]]) rfl rfl ma0 rfl) (fun p9 => Wl.run 1 ma0 (Wl.nil (hK2 _ _ _ (W.prune' [4] [pV p9 0] ma0 (fun f4 => ?_)))))
 refine W.ret ?_
 show ∀ w_, _ → bodyPostM (fence none) 0 Try.prog Try.f13 _ Exit.ret _ w_
 exact fun w_ hS_ => fin_ret (ret1 rfl (RV.tmp (v := pV p9 0) ma0) hS_ ⟨p9, trivial, rfl, (hS_.pick [0] ma3 rfl)⟩)
end Go.Proofs.Ythfagedaijoenaa.Oct
