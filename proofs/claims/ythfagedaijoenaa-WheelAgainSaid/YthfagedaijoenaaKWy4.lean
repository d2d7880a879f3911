import Derived.Test.YthfagedaijoenaaKWy3
set_option linter.unusedVariables false
set_option linter.unusedSimpArgs false
set_option maxRecDepth 20000
namespace Go.Proofs.Ythfagedaijoenaa.Oct
open Go.RowKit Base
attribute [local irreducible] Ys Yc Ht HtS HtIn Wl Wd W Mem pf dpf Wa Wo
theorem due_len (xs : List (Int × Int)) (n : Nat) : (xs.drop n).length + (keysS (xs.take n)).length = xs.length := by
  rw [keysS_len, List.length_drop, List.length_take]; omega
def op8 (x : Int × Int × Int × Int) : List Value := [.int .i64 x.1, .int .i64 x.2.1, .int .i64 x.2.2.1, .int .u64 x.2.2.2]
def BdS (xs : List (Int × Int)) : Prop := ∀ p ∈ xs, 0 ≤ p.1 ∧ p.1 ≤ 18446744073709551615
theorem BdS.nil : BdS [] := fun p h => by cases h
theorem BdS.set {xs : List (Int × Int)} (h : BdS xs) (ho : OkS xs) {k a : Int} (h0 : 0 ≤ a) (h1 : a ≤ 18446744073709551615) : BdS (setS xs k a) := fun p hp => by
  rcases (mem_setS ho).1 hp with rfl | hp
  · exact ⟨h0, h1⟩
  · exact h p hp.1
theorem BdS.drop {xs : List (Int × Int)} (h : BdS xs) (n : Nat) : BdS (xs.drop n) := fun p hp => h p (List.mem_of_mem_drop hp)
def OpB (os : List (Int × Int × Int × Int)) : Prop := ∀ x ∈ os, 0 ≤ x.2.2.2 ∧ x.2.2.2 ≤ 18446744073709551615
theorem OpB.at {os : List (Int × Int × Int × Int)} (h : OpB os) {i : Nat} (hi : i < os.length) : 0 ≤ (os.getD i (0, 0, 0, 0)).2.2.2 ∧ (os.getD i (0, 0, 0, 0)).2.2.2 ≤ 18446744073709551615 := by
  rw [List.getD_eq_getElem?_getD, List.getElem?_eq_getElem hi]; exact h _ (List.getElem_mem hi)
theorem dueM_all {xs : List (Int × Int)} {now : Int} (h : ∀ p ∈ xs, p.1 ≤ now) : dueM xs now = xs.length := by
  have hl := dueM_le xs now
  rcases Nat.lt_or_ge (dueM xs now) xs.length with h1 | h1
  · have := (dueM_spec (Nat.le_refl _) h1).1 (by rw [List.getD_eq_getElem?_getD, List.getElem?_eq_getElem h1]; exact h _ (List.getElem_mem h1))
    omega
  · omega
theorem set_has {xs : List (Int × Int)} (h : OkS xs) {k a : Int} : k ∈ keysS (setS xs k a) := List.mem_map.2 ⟨(a, k), (mem_setS h).2 (.inl rfl), rfl⟩
theorem cnt_step {l : List Int} {i : Nat} {k : Int} (h : i < l.length) : (l.take (i + 1)).count k = (l.take i).count k + (bif l.getD i 0 == k then 1 else 0) := by
  rw [List.take_add_one, List.getElem?_eq_getElem h, List.getD_eq_getElem?_getD, List.getElem?_eq_getElem h, List.count_append]
  show _ + List.count k [l[i]] = _
  rw [List.count_singleton]
  show _ = _ + (bif l[i] == k then 1 else 0)
  cases l[i] == k <;> rfl
theorem duez_c (xs : List (Int × Int)) (g : FS) (wb : Nat) (now q : Int) (M : List Nat) (X : List (Int × Int)) (O : List Int) (w : World) (hX : xs.drop (dueN xs now q) = X) (hO : keysS (xs.take (dueN xs now q)) = O) (hl : Mem w M [g.seg 87 (mm spk xs), [cb wb [Value.slice g.a xs.length g.cap] 85]] w) (ok : g.ok 2 xs.length) (hn : xs.length ≤ 1000) :
    Calls Try.prog 33 #[.pointer (some ⟨wb, 0, none⟩), .int .u64 now, .int .i64 q] w (RetM w (fun q_ : FS × FS => q_.1.ok 1 O.length ∧ q_.2.ok 2 X.length) (fun q_ => .slice q_.1.a O.length q_.1.cap) M (fun q_ => [q_.1.seg 3 (mc (Value.int .i64) O), q_.2.seg 87 (mm spk X), [cb wb [Value.slice q_.2.a X.length q_.2.cap] 85]])) := by
  subst hX; subst hO; exact due_c xs g wb now q M w hl ok hn
theorem speaks8_c  (w : World) : Calls Try.prog 30 #[] w (Ret w (.bool true)) := by
 refine calls_W (M := []) (LL := []) (n := 35) Try.func30 rfl rfl sp (Mem.refl _) (W.seq (fun K1 hK1 => ?_))
 refine W.region (Wl.run 1 ma0 (Wl.nil (hK1 _ _ _ (W.seq (fun K2 hK2 => ?_)))))
 refine W.region (Wl.htS rfl (HtS.call (β := Nat) (k := 31) (args := #[]) (Lin := []) (Lk := []) (Mi := []) (Lo := fun wb3 => [[cb wb3 [Value.slice none 0 0] 85]]) [] [] rfl (fun _ => kr) ma2 rfl rfl rfl (fun w_ hm_ hl_ => (wnew_c _)) (fun _ => rfl)) (fun wb3 _ => ?_))
 refine Wl.run 1 ma0 (Wl.nil (hK2 _ _ _ (W.prune' [1] [pV wb3 0] ma0 (fun f5 => W.seq (fun K6 hK6 => ?_)))))
 refine W.seq (fun K7 hK7 => W.region (Wl.run 2 ma0 (Wl.nil (hK7 _ _ _ ?_))))
 refine W.prune' [1, 5] [pV wb3 0, bV false] ma0 (fun f8 => W.condF ma0 (W.skip' (hK6 _ _ _ (W.prune' [1] [pV wb3 0] ma0 (fun f9 => ?_)))))
 refine W.seq (fun K10 hK10 => ?_)
 obtain ⟨xs12, hx16⟩ : ∃ z : List (Int × Int), z = [] := ⟨_, rfl⟩
 obtain ⟨g11, hg15⟩ : ∃ z : FS, z = FS.nul := ⟨_, rfl⟩
 have ok13 : g11.ok 2 xs12.length := by rw [hg15, hx16]; exact FS.nul_ok 2
 have hk14 : OkS xs12 := by rw [hx16]; exact OkS.nil
 have hl17 : xs12.length = 0 := by rw [hx16]; rfl
 refine W.conseq (S' := Mem w [] [g11.seg 87 (mm spk xs12), [cb wb3 [sV g11 xs12.length] 85]]) (fun w_ h_ => Mem.cast (LL := [] :: [[cb wb3 [Value.slice none 0 0] 85]]) (by rw [hg15, hx16]; rfl) (Mem.push h_)) (W.region ?_)
 obtain ⟨X18, hX19⟩ : ∃ z, setS xs12 7 5 = z := ⟨_, rfl⟩
 have hlx20 : X18.length ≤ xs12.length + 1 := hX19 ▸ setS_len _ _ _
 have hk21 : OkS X18 := hX19 ▸ hk14.set _ _
 refine Wl.run 1 ma0 (Wl.htS rfl (HtS.call (β := FS) (k := 32) (args := #[pV wb3 0, iV .i64 7, iV .u64 5]) (Lin := [g11.seg 87 (mm spk xs12), [cb wb3 [sV g11 xs12.length] 85]]) (Lk := []) (Lo := fun g22 => [g22.seg 87 (mm spk X18), [cb wb3 [sV g22 X18.length] 85]]) [0, 1] [] rfl (fun _ => kr) ma2 rfl rfl rfl (fun w_ hm_ hl_ => (wsetz_c xs12 g11 wb3 _ 7 5 X18 _ hX19 hl_ ok13 ma1 hk14.srt)) (fun _ => rfl)) (fun g22 ok23 => ?_))
 refine Wl.nil (hK10 _ _ _ (W.prune' [1] [pV wb3 0] ma0 (fun f25 => W.seq (fun K26 hK26 => W.region ?_))))
 obtain ⟨X27, hX28⟩ : ∃ z, setS X18 3 5 = z := ⟨_, rfl⟩
 have hlx29 : X27.length ≤ X18.length + 1 := hX28 ▸ setS_len _ _ _
 have hk30 : OkS X27 := hX28 ▸ hk21.set _ _
 refine Wl.run 1 ma0 (Wl.htS rfl (HtS.call (β := FS) (k := 32) (args := #[pV wb3 0, iV .i64 3, iV .u64 5]) (Lin := [g22.seg 87 (mm spk X18), [cb wb3 [sV g22 X18.length] 85]]) (Lk := []) (Lo := fun g31 => [g31.seg 87 (mm spk X27), [cb wb3 [sV g31 X27.length] 85]]) [0, 1] [] rfl (fun _ => kr) ma2 rfl rfl rfl (fun w_ hm_ hl_ => (wsetz_c X18 g22 wb3 _ 3 5 X27 _ hX28 hl_ ok23 ma1 hk21.srt)) (fun _ => rfl)) (fun g31 ok32 => ?_))
 refine Wl.nil (hK26 _ _ _ (W.prune' [1] [pV wb3 0] ma0 (fun f34 => W.seq (fun K35 hK35 => W.region ?_))))
 obtain ⟨X36, hX37⟩ : ∃ z, setS X27 9 4 = z := ⟨_, rfl⟩
 have hlx38 : X36.length ≤ X27.length + 1 := hX37 ▸ setS_len _ _ _
 have hk39 : OkS X36 := hX37 ▸ hk30.set _ _
 refine Wl.run 1 ma0 (Wl.htS rfl (HtS.call (β := FS) (k := 32) (args := #[pV wb3 0, iV .i64 9, iV .u64 4]) (Lin := [g31.seg 87 (mm spk X27), [cb wb3 [sV g31 X27.length] 85]]) (Lk := []) (Lo := fun g40 => [g40.seg 87 (mm spk X36), [cb wb3 [sV g40 X36.length] 85]]) [0, 1] [] rfl (fun _ => kr) ma2 rfl rfl rfl (fun w_ hm_ hl_ => (wsetz_c X27 g31 wb3 _ 9 4 X36 _ hX37 hl_ ok32 ma1 hk30.srt)) (fun _ => rfl)) (fun g40 ok41 => ?_))
 refine Wl.nil (hK35 _ _ _ (W.prune' [1] [pV wb3 0] ma0 (fun f43 => W.seq (fun K44 hK44 => W.region ?_))))
 obtain ⟨X45, hX46⟩ : ∃ z, X36.drop (dueN X36 5 9) = z := ⟨_, rfl⟩
 obtain ⟨O47, hO48⟩ : ∃ z, keysS (X36.take (dueN X36 5 9)) = z := ⟨_, rfl⟩
 have hlx50 : X45.length + O47.length = X36.length := hX46 ▸ hO48 ▸ due_len X36 (dueN X36 5 9)
 have hk49 : OkS X45 := hX46 ▸ hk39.drop _
 refine Wl.run 1 ma0 (Wl.htS rfl (HtS.call (β := FS × FS) (k := 33) (args := #[pV wb3 0, iV .u64 5, iV .i64 9]) (Lin := [g40.seg 87 (mm spk X36), [cb wb3 [sV g40 X36.length] 85]]) (Lk := []) (Lo := fun q55 => [q55.1.seg 3 (mc (Value.int .i64) O47), q55.2.seg 87 (mm spk X45), [cb wb3 [Value.slice q55.2.a X45.length q55.2.cap] 85]]) [0, 1] [] rfl (fun _ => kr) ma2 rfl rfl rfl (fun w_ hm_ hl_ => (duez_c X36 g40 wb3 5 9 _ X45 O47 _ hX46 hO48 hl_ ok41 ma1)) (fun _ => rfl)) (fun q55 hx57 => ?_))
 obtain ⟨go51, g52⟩ := q55
 dsimp only at hx57
 obtain ⟨oko53, ok54⟩ := hx57
 refine Wl.castL (LL' := [go51.seg 3 (mc (Value.int .i64) O47), g52.seg 87 (mm spk X45), [cb wb3 [sV g52 X45.length] 85]]) rfl (Wl.run 1 ma0 (Wl.nil (hK44 _ _ _ (W.pick (LL' := [go51.seg 3 (mc (Value.int .i64) O47)]) [0] ma2 rfl ?_))))
 refine W.prune' [2] [Value.slice go51.a O47.length go51.cap] ma0 (fun f58 => W.seq (fun K59 hK59 => ?_))
 refine W.region (Wl.run 4 ma0 ?_)
 refine Wl.guard (v := Value.slice go51.a O47.length go51.cap) (((O47.length : Nat) : Int) == 3) rfl (wantT rfl ma0) rfl (fun hg60 => ?_) ?_
 ·exact Ys.pure (fun _ => kr)
 refine Wl.guard (v := Value.pointer (some (ela go51.a 0))) (((O47.length : Nat) : Int) == 3) rfl (wantT rfl ma0) rfl (fun hg61 => ?_) ?_
 ·have qhg61 := hg61; try simp only [zA] at qhg61
  refine Ys.at (t := 18) (v0 := Value.slice go51.a O47.length go51.cap) (lz (g := (O47.length : Int) == 3) (u := undef) hg61 ma0) ?_
  exact Ys.indexAddr (k := .i64) (a := go51.a) (len := O47.length) (cap := go51.cap) (i := 0) (sz := 1) rfl ma0 ma0 Try.runUnderlying39 Try.sizeOf3 ma1 ma1 (by rw [FS.a_own (FS.notnil oko53 ma1)]; rfl)
 refine Wl.guard (v := iV .i64 (O47.getD 0 0)) (((O47.length : Nat) : Int) == 3) rfl (wantT rfl ma0) rfl (fun hg62 => ?_) ?_
 ·have qhg62 := hg62; try simp only [zA] at qhg62
  refine Ys.at (t := 19) (v0 := Value.pointer (some (ela go51.a 0))) (lz (g := (O47.length : Int) == 3) (u := undef) hg62 ma0) ?_
  exact Ys.ld (a := ela go51.a 0) rfl ma0 Try.isAgg3 (fun w_ h_ => (FS.at (i := 0) (t := 3) h_ rfl (FS.nil_cs oko53 (mc_len1 _))).ld (mc_get 0 (by first | omega | (simp; omega))))
 refine Wl.guard (v := bV ((O47.getD 0 0) == 9)) (((O47.length : Nat) : Int) == 3) rfl (wantT rfl ma0) rfl (fun hg63 => ?_) ?_
 ·refine Ys.at (t := 20) (v0 := iV .i64 (O47.getD 0 0)) (lz (g := (O47.length : Int) == 3) (u := undef) hg63 ma0) ?_
  exact Ys.pure (fun _ => kr)
 refine Wl.ys (v := bV (((O47.length : Int) == 3) && ((O47.getD 0 0) == 9))) rfl rfl (Ys.and (e := (O47.length : Int) == 3) (b := (O47.getD 0 0) == 9) rfl ma0 ma0 ma0) (Wl.run 1 ma0 ?_)
 refine Wl.guard (v := Value.slice go51.a O47.length go51.cap) (((O47.length : Int) == 3) && ((O47.getD 0 0) == 9)) rfl (wantT rfl ma0) rfl (fun hg64 => ?_) ?_
 ·exact Ys.pure (fun _ => kr)
 refine Wl.guard (v := Value.pointer (some (ela go51.a 1))) (((O47.length : Int) == 3) && ((O47.getD 0 0) == 9)) rfl (wantT rfl ma0) rfl (fun hg65 => ?_) ?_
 ·have qhg65 := hg65; try simp only [zA] at qhg65
  refine Ys.at (t := 24) (v0 := Value.slice go51.a O47.length go51.cap) (lz (g := (((O47.length : Nat) : Int) == 3) && ((O47.getD 0 0) == 9)) (u := undef) hg65 ma0) ?_
  exact Ys.indexAddr (k := .i64) (a := go51.a) (len := O47.length) (cap := go51.cap) (i := 1) (sz := 1) rfl ma0 ma0 Try.runUnderlying39 Try.sizeOf3 ma1 ma1 (by rw [FS.a_own (FS.notnil oko53 ma1)]; rfl)
 refine Wl.guard (v := iV .i64 (O47.getD 1 0)) (((O47.length : Int) == 3) && ((O47.getD 0 0) == 9)) rfl (wantT rfl ma0) rfl (fun hg66 => ?_) ?_
 ·have qhg66 := hg66; try simp only [zA] at qhg66
  refine Ys.at (t := 25) (v0 := Value.pointer (some (ela go51.a 1))) (lz (g := (((O47.length : Nat) : Int) == 3) && ((O47.getD 0 0) == 9)) (u := undef) hg66 ma0) ?_
  exact Ys.ld (a := ela go51.a 1) rfl ma0 Try.isAgg3 (fun w_ h_ => (FS.at (i := 0) (t := 3) h_ rfl (FS.nil_cs oko53 (mc_len1 _))).ld (mc_get 0 (by first | omega | (simp; omega))))
 refine Wl.guard (v := bV ((O47.getD 1 0) == 3)) (((O47.length : Int) == 3) && ((O47.getD 0 0) == 9)) rfl (wantT rfl ma0) rfl (fun hg67 => ?_) ?_
 ·refine Ys.at (t := 26) (v0 := iV .i64 (O47.getD 1 0)) (lz (g := (((O47.length : Nat) : Int) == 3) && ((O47.getD 0 0) == 9)) (u := undef) hg67 ma0) ?_
  exact Ys.pure (fun _ => kr)
 refine Wl.ys (v := bV (((((O47.length : Nat) : Int) == 3) && ((O47.getD 0 0) == 9)) && ((O47.getD 1 0) == 3))) rfl rfl (Ys.and (e := (((O47.length : Nat) : Int) == 3) && ((O47.getD 0 0) == 9)) (b := (O47.getD 1 0) == 3) rfl ma0 ma0 ma0) (Wl.run 1 ma0 ?_)
 refine Wl.guard (v := Value.slice go51.a O47.length go51.cap) (((((O47.length : Nat) : Int) == 3) && ((O47.getD 0 0) == 9)) && ((O47.getD 1 0) == 3)) rfl (wantT rfl ma0) rfl (fun hg68 => ?_) ?_
 ·exact Ys.pure (fun _ => kr)
 refine Wl.guard (v := Value.pointer (some (ela go51.a 2))) (((((O47.length : Nat) : Int) == 3) && ((O47.getD 0 0) == 9)) && ((O47.getD 1 0) == 3)) rfl (wantT rfl ma0) rfl (fun hg69 => ?_) ?_
 ·have qhg69 := hg69; try simp only [zA] at qhg69
  refine Ys.at (t := 30) (v0 := Value.slice go51.a O47.length go51.cap) (lz (g := (((O47.length : Int) == 3) && ((O47.getD 0 0) == 9)) && ((O47.getD 1 0) == 3)) (u := undef) hg69 ma0) ?_
  exact Ys.indexAddr (k := .i64) (a := go51.a) (len := O47.length) (cap := go51.cap) (i := 2) (sz := 1) rfl ma0 ma0 Try.runUnderlying39 Try.sizeOf3 ma1 ma1 (by rw [FS.a_own (FS.notnil oko53 ma1)]; rfl)
 refine Wl.guard (v := iV .i64 (O47.getD 2 0)) (((((O47.length : Nat) : Int) == 3) && ((O47.getD 0 0) == 9)) && ((O47.getD 1 0) == 3)) rfl (wantT rfl ma0) rfl (fun hg70 => ?_) ?_
 ·have qhg70 := hg70; try simp only [zA] at qhg70
  refine Ys.at (t := 31) (v0 := Value.pointer (some (ela go51.a 2))) (lz (g := (((O47.length : Int) == 3) && ((O47.getD 0 0) == 9)) && ((O47.getD 1 0) == 3)) (u := undef) hg70 ma0) ?_
  exact Ys.ld (a := ela go51.a 2) rfl ma0 Try.isAgg3 (fun w_ h_ => (FS.at (i := 0) (t := 3) h_ rfl (FS.nil_cs oko53 (mc_len1 _))).ld (mc_get 0 (by first | omega | (simp; omega))))
 refine Wl.guard (v := bV ((O47.getD 2 0) == 7)) (((((O47.length : Nat) : Int) == 3) && ((O47.getD 0 0) == 9)) && ((O47.getD 1 0) == 3)) rfl (wantT rfl ma0) rfl (fun hg71 => ?_) ?_
 ·refine Ys.at (t := 32) (v0 := iV .i64 (O47.getD 2 0)) (lz (g := (((O47.length : Int) == 3) && ((O47.getD 0 0) == 9)) && ((O47.getD 1 0) == 3)) (u := undef) hg71 ma0) ?_
  exact Ys.pure (fun _ => kr)
 refine Wl.ys (v := bV (((((O47.length : Int) == 3) && ((O47.getD 0 0) == 9)) && ((O47.getD 1 0) == 3)) && ((O47.getD 2 0) == 7))) rfl rfl (Ys.and (e := (((O47.length : Int) == 3) && ((O47.getD 0 0) == 9)) && ((O47.getD 1 0) == 3)) (b := (O47.getD 2 0) == 7) rfl ma0 ma0 ma0) (Wl.run 1 ma0 (Wl.nil (hK59 _ _ _ (W.pick (LL' := []) [] ma2 rfl ?_))))
 refine W.prune' [0] [bV (((((O47.length : Int) == 3) && ((O47.getD 0 0) == 9)) && ((O47.getD 1 0) == 3)) && ((O47.getD 2 0) == 7))] ma0 (fun f72 => W.ret ?_)
 show ∀ w_, _ → bodyPostM (fence none) 0 Try.prog Try.f30 _ Exit.ret _ w_
 exact fun w_ hS_ => fin_ret (ret1 rfl (RV.tmp (v := bV (((((O47.length : Int) == 3) && ((O47.getD 0 0) == 9)) && ((O47.getD 1 0) == 3)) && ((O47.getD 2 0) == 7))) ma0) hS_ ⟨by clear hK1 hK2 hK6 hK7 hK10 hK26 hK35 hK44 hK59; refine congrArg Ending.returned ?_; exact bool_congr (by subst_vars; decide +kernel), hS_.below⟩)
theorem again_ok {X Z : List (Int × Int)} {O : List Int} {k : Int} (hk : OkS X) (hb : BdS X) (hl : X.length ≤ 1000) (hm : k ∈ keysS X) (hZ : X.drop (dueN X 18446744073709551615 1000) = Z) (hO : keysS (X.take (dueN X 18446744073709551615 1000)) = O) : O.count k = 1 ∧ Z = [] := by
  have hM := dueM_all (xs := X) (now := 18446744073709551615) fun p hp => (hb p hp).2
  have hN : dueN X 18446744073709551615 1000 = X.length := by unfold dueN; omega
  rw [hN] at hZ hO
  rw [List.take_length] at hO; rw [List.drop_length] at hZ
  refine ⟨?_, hZ.symm⟩
  rw [← hO]
  have h1 := List.nodup_iff_count.1 hk.nd k
  have h2 := List.count_pos_iff.2 hm
  omega
theorem againlaw_c (os : List (Int × Int × Int × Int)) (a : Option Addr) (cap : Nat) (k t1 t2 : Int) (w : World) (hat : At w a (mm op8 os)) (hol : os.length ≤ 9223372036854775807) (hob : OpB os) (h10 : 0 ≤ t1) (h11 : t1 ≤ 18446744073709551615) (h20 : 0 ≤ t2) (h21 : t2 ≤ 18446744073709551615) : Calls Try.prog 10 #[Value.slice a os.length cap, iV .i64 k, aV [iV .u64 t1, iV .u64 t2]] w (Ret w (.bool true)) := by
 refine calls_W (M := []) (LL := []) (n := 76) Try.func10 rfl rfl sp (Mem.refl _) (W.seq (fun K1 hK1 => ?_))
 refine W.region (Wl.ht rfl (Ht.box (v := aV [iV .u64 t1, iV .u64 t2]) (cs := [iV .u64 t1, iV .u64 t2]) rfl rfl ma0 rfl) (fun p5 => ?_))
 refine Wl.run 1 ma0 (Wl.nil (hK1 _ _ _ (W.prune' [0, 1, 5] [Value.slice a os.length cap, iV .i64 k, pV p5 0] ma0 (fun f2 => W.seq (fun K3 hK3 => ?_)))))
 refine W.seq (fun K4 hK4 => W.region (Wl.yc (v := bV true) rfl rfl (Yc.call (fun _ => kr) (fun w_ hm_ => (speaks8_c _))) (Wl.run 1 ma0 (Wl.nil ?_))))
 refine hK4 _ _ _ (W.prune' [0, 1, 5, 16] [Value.slice a os.length cap, iV .i64 k, pV p5 0, bV false] ma0 (fun f5 => ?_))
 refine W.condF ma0 (W.skip' (hK3 _ _ _ (W.prune' [0, 1, 5] [Value.slice a os.length cap, iV .i64 k, pV p5 0] ma0 (fun f6 => W.seq (fun K7 hK7 => ?_)))))
 refine W.seq (fun K8 hK8 => W.region (Wl.run 3 ma0 (Wl.nil (hK8 _ _ _ ?_))))
 refine W.prune' [0, 1, 5, 19] [Value.slice a os.length cap, iV .i64 k, pV p5 0, bV (decide (((os.length : Nat) : Int) > 200))] ma0 (fun f9 => ?_)
 refine W.cond (decide (((os.length : Nat) : Int) > 200)) ma0 (fun h10 => ?_) (fun h11 => ?_)
 ·refine W.seq (fun K12 hK12 => W.region (Wl.run 1 ma0 (Wl.nil (hK12 _ _ _ ?_))))
  refine W.ret ?_
  show ∀ w_, _ → bodyPostM (fence none) 0 Try.prog Try.f10 _ Exit.ret _ w_
  exact fun w_ hS_ => fin_ret (ret1 rfl (RV.tmp (v := bV true) ma0) hS_ ⟨rfl, hS_.below⟩)
 ·have qh11 := h11; try simp only [zA] at qh11
  refine W.skip' (hK7 _ _ _ (W.prune' [0, 1, 5] [Value.slice a os.length cap, iV .i64 k, pV p5 0] ma0 (fun f13 => W.seq (fun K14 hK14 => W.region ?_))))
  refine Wl.htS rfl (HtS.call (β := Nat) (k := 31) (args := #[]) (Lin := []) (Lk := [[cb p5 [iV .u64 t1, iV .u64 t2] 65]]) (Mi := []) (Lo := fun wb15 => [[cb wb15 [Value.slice none 0 0] 85], [cb p5 [iV .u64 t1, iV .u64 t2] 65]]) [] [0] rfl (fun _ => kr) ma2 rfl rfl rfl (fun w_ hm_ hl_ => (wnew_c _)) (fun _ => rfl)) (fun wb15 _ => Wl.run 1 ma0 (Wl.nil (hK14 _ _ _ (W.prune' [0, 1, 5, 7] [Value.slice a os.length cap, iV .i64 k, pV p5 0, pV wb15 0] ma0 (fun f17 => ?_)))))
  refine W.seq (fun K18 hK18 => W.seq (fun K19 hK19 => ?_))
  refine W.region (Wl.run 2 ma0 (Wl.nil (hK19 _ _ _ (W.prune' [0, 1, 5, 7, 22] [Value.slice a os.length cap, iV .i64 k, pV p5 0, pV wb15 0, bV false] ma0 (fun f20 => ?_)))))
  refine W.condF ma0 (W.skip' (hK18 _ _ _ (W.prune' [0, 1, 5, 7] [Value.slice a os.length cap, iV .i64 k, pV p5 0, pV wb15 0] ma0 (fun f21 => W.seq (fun K22 hK22 => ?_)))))
  obtain ⟨xs24, hx28⟩ : ∃ z : List (Int × Int), z = [] := ⟨_, rfl⟩
  obtain ⟨g23, hg27⟩ : ∃ z : FS, z = FS.nul := ⟨_, rfl⟩
  have ok25 : g23.ok 2 xs24.length := by rw [hg27, hx28]; exact FS.nul_ok 2
  have hk26 : OkS xs24 := by rw [hx28]; exact OkS.nil
  have hl29 : xs24.length = 0 := by rw [hx28]; rfl
  refine W.conseq (S' := Mem w [] [g23.seg 87 (mm spk xs24), [cb wb15 [sV g23 xs24.length] 85], [cb p5 [iV .u64 t1, iV .u64 t2] 65]]) (fun w_ h_ => Mem.cast (LL := [] :: [[cb wb15 [Value.slice none 0 0] 85], [cb p5 [iV .u64 t1, iV .u64 t2] 65]]) (by rw [hg27, hx28]; rfl) (Mem.push h_)) (W.region (Wl.run 3 ma0 (Wl.ys rfl rfl (Ys.l1 p5 0 2 0 Try.isAgg54) ?_)))
  obtain ⟨X30, hX31⟩ : ∃ z, setS xs24 k t1 = z := ⟨_, rfl⟩
  have hlx32 : X30.length ≤ xs24.length + 1 := hX31 ▸ setS_len _ _ _
  have hk33 : OkS X30 := hX31 ▸ hk26.set _ _
  refine Wl.htS rfl (HtS.call (β := FS) (k := 32) (args := #[pV wb15 0, iV .i64 k, iV .u64 t1]) (Lin := [g23.seg 87 (mm spk xs24), [cb wb15 [sV g23 xs24.length] 85]]) (Lk := [[cb p5 [iV .u64 t1, iV .u64 t2] 65]]) (Lo := fun g34 => [g34.seg 87 (mm spk X30), [cb wb15 [sV g34 X30.length] 85], [cb p5 [iV .u64 t1, iV .u64 t2] 65]]) [0, 1] [2] rfl (fun _ => kr) ma2 rfl rfl rfl (fun w_ hm_ hl_ => (wsetz_c xs24 g23 wb15 _ k t1 X30 _ hX31 hl_ ok25 ma1 hk26.srt)) (fun _ => rfl)) (fun g34 ok35 => Wl.nil (hK22 _ _ _ (W.prune' [0, 1, 5, 7] [Value.slice a os.length cap, iV .i64 k, pV p5 0, pV wb15 0] ma0 (fun f37 => W.seq (fun K38 hK38 => ?_)))))
  refine W.seq (fun K39 hK39 => W.region (Wl.run 3 ma0 (Wl.nil (hK39 _ _ _ ?_))))
  refine W.prune' [1, 5, 7, 28, 29, 30] [iV .i64 k, pV p5 0, pV wb15 0, Value.slice a os.length cap, nV .i64 os.length, iV .i64 0] ma0 (fun f40 => W.block (W.loop3 [1, 5, 7, 28, 29, 30] (fun (i : Nat) (xs : List (Int × Int)) (g : FS) => [iV .i64 k, pV p5 0, pV wb15 0, Value.slice a os.length cap, nV .i64 os.length, nV .i64 i]) (fun (i : Nat) (xs : List (Int × Int)) (g : FS) => i ≤ os.length ∧ g.ok 2 xs.length ∧ OkS xs ∧ BdS xs ∧ xs.length ≤ i + 1) (fun (i : Nat) (xs : List (Int × Int)) (g : FS) => [g.seg 87 (mm spk xs), [cb wb15 [sV g xs.length] 85], [cb p5 [iV .u64 t1, iV .u64 t2] 65]]) (fun (i : Nat) (xs : List (Int × Int)) (g : FS) => os.length - i) 0 X30 g34 ma0 ⟨(Nat.zero_le _), ok35, hk33, (hX31 ▸ BdS.set (by rw [hx28]; exact BdS.nil) hk26 ma1 ma1), ma1⟩ (by rfl) (fun i xs g f42 J41 hp43 hJ41 => ?_)))
  obtain ⟨hi, ok, hk, hbd, hlx⟩ := hp43
  refine W.seq (fun K44 hK44 => W.region (Wl.run 1 ma0 (Wl.nil (hK44 _ _ _ ?_))))
  refine W.seq (fun K45 hK45 => ?_)
  refine W.cond (decide (((i : Nat) : Int) < (os.length : Int))) ma0 (fun h46 => ?_) (fun h47 => ?_)
  ·have qh46 := h46; try simp only [zA] at qh46
   refine W.skip' (hK45 _ _ _ (W.prune' [1, 5, 7, 28, 29, 30] [iV .i64 k, pV p5 0, pV wb15 0, Value.slice a os.length cap, nV .i64 os.length, nV .i64 i] ma0 (fun f48 => W.seq (fun K49 hK49 => W.block ?_))))
   refine W.seq (fun K50 hK50 => W.region (Wl.ys (v := Value.pointer (some (ela a (i * 4)))) rfl rfl (Ys.byMem fun w_ h_ => Ys.indexAddr (k := .i64) (a := a) (len := os.length) (cap := cap) (i := (i : Int)) (sz := 4) rfl ma0 ma0 Try.runUnderlying53 Try.sizeOf58 ma1 ma1 ((hat.mem0 h_).here (by rw [mm_len (g := op8) (sz := 4) (fun _ => rfl)]; first | omega | (simp; omega)))) (Wl.ys (v := aV [iV .i64 ((os.getD i (0, 0, 0, 0)).1), iV .i64 ((os.getD i (0, 0, 0, 0)).2.1), iV .i64 ((os.getD i (0, 0, 0, 0)).2.2.1), iV .u64 ((os.getD i (0, 0, 0, 0)).2.2.2)]) rfl rfl (Ys.ldN (a := ela a (i * 4)) (vs := [iV .i64 ((os.getD i (0, 0, 0, 0)).1), iV .i64 ((os.getD i (0, 0, 0, 0)).2.1), iV .i64 ((os.getD i (0, 0, 0, 0)).2.2.1), iV .u64 ((os.getD i (0, 0, 0, 0)).2.2.2)]) rfl ma0 Try.isAgg58 Try.sizeOf58 rfl (fun w_ h_ => (hat.mem0 h_).ldN (mm_get (g := op8) (sz := 4) (fun _ => rfl) (0, 0, 0, 0) (xs := os) (k := i) ma1))) (Wl.ht rfl (Ht.alloc (z := aV [iV .i64 0, iV .i64 0, iV .i64 0, iV .u64 0]) (cs := [iV .i64 0, iV .i64 0, iV .i64 0, iV .u64 0]) rfl rfl Try.zeroValue58 rfl) (fun p9 => ?_)))))
   refine Wl.ht rfl (Ht.storeN (b := p9) (o' := 0) (i := 0) (j := 0) (vs := [iV .i64 ((os.getD i (0, 0, 0, 0)).1), iV .i64 ((os.getD i (0, 0, 0, 0)).2.1), iV .i64 ((os.getD i (0, 0, 0, 0)).2.2.1), iV .u64 ((os.getD i (0, 0, 0, 0)).2.2.2)]) (LL' := [[cb p9 [iV .i64 ((os.getD i (0, 0, 0, 0)).1), iV .i64 ((os.getD i (0, 0, 0, 0)).2.1), iV .i64 ((os.getD i (0, 0, 0, 0)).2.2.1), iV .u64 ((os.getD i (0, 0, 0, 0)).2.2.2)] 58], g.seg 87 (mm spk xs), [cb wb15 [sV g xs.length] 85], [cb p5 [iV .u64 t1, iV .u64 t2] 65]]) rfl rfl ma0 ma0 Try.sizeOf58 (by simp [Value.oneCell']) rfl rfl sp rfl rfl) (fun _ => Wl.nil (hK50 _ _ _ (W.prune' [1, 5, 7, 9, 28, 29, 30] [iV .i64 k, pV p5 0, pV wb15 0, pV p9 0, Value.slice a os.length cap, nV .i64 os.length, nV .i64 i] ma0 (fun f51 => W.region ?_))))
   refine Wl.run 2 ma0 (Wl.ys rfl rfl (Ys.l1 p9 1 0 0 Try.isAgg3) (Wl.run 1 ma0 (Wl.ys rfl rfl (Ys.l1 p9 3 0 0 Try.isAgg54) ?_)))
   obtain ⟨X52, hX53⟩ : ∃ z, setS xs ((os.getD i (0, 0, 0, 0)).2.1) ((os.getD i (0, 0, 0, 0)).2.2.2) = z := ⟨_, rfl⟩
   have hlx54 : X52.length ≤ xs.length + 1 := hX53 ▸ setS_len _ _ _
   have hk55 : OkS X52 := hX53 ▸ hk.set _ _
   refine Wl.htS rfl (HtS.call (β := FS) (k := 32) (args := #[pV wb15 0, iV .i64 ((os.getD i (0, 0, 0, 0)).2.1), iV .u64 ((os.getD i (0, 0, 0, 0)).2.2.2)]) (Lin := [g.seg 87 (mm spk xs), [cb wb15 [sV g xs.length] 85]]) (Lk := [[cb p9 [iV .i64 ((os.getD i (0, 0, 0, 0)).1), iV .i64 ((os.getD i (0, 0, 0, 0)).2.1), iV .i64 ((os.getD i (0, 0, 0, 0)).2.2.1), iV .u64 ((os.getD i (0, 0, 0, 0)).2.2.2)] 58], [cb p5 [iV .u64 t1, iV .u64 t2] 65]]) (Lo := fun g56 => [g56.seg 87 (mm spk X52), [cb wb15 [sV g56 X52.length] 85], [cb p9 [iV .i64 ((os.getD i (0, 0, 0, 0)).1), iV .i64 ((os.getD i (0, 0, 0, 0)).2.1), iV .i64 ((os.getD i (0, 0, 0, 0)).2.2.1), iV .u64 ((os.getD i (0, 0, 0, 0)).2.2.2)] 58], [cb p5 [iV .u64 t1, iV .u64 t2] 65]]) [1, 2] [0, 3] rfl (fun _ => kr) ma2 rfl rfl rfl (fun w_ hm_ hl_ => (wsetz_c xs g wb15 _ ((os.getD i (0, 0, 0, 0)).2.1) ((os.getD i (0, 0, 0, 0)).2.2.2) X52 _ hX53 hl_ ok ma1 hk.srt)) (fun _ => rfl)) (fun g56 ok57 => Wl.nil (hK49 _ _ _ (W.pick (LL' := [g56.seg 87 (mm spk X52), [cb wb15 [sV g56 X52.length] 85], [cb p5 [iV .u64 t1, iV .u64 t2] 65]]) [0, 1, 3] ma2 rfl (W.prune' [1, 5, 7, 28, 29, 30] [iV .i64 k, pV p5 0, pV wb15 0, Value.slice a os.length cap, nV .i64 os.length, nV .i64 i] ma0 (fun f59 => ?_)))))
   refine W.region (Wl.ys (v := nV .i64 (i + 1)) rfl rfl ((Ys.pure (v := .int .i64 (iadd .i64 (i : Int) 1)) (fun _ => kr)).conseq (int_congr (iadd_eq ma1 ma1 ma1))) (Wl.run 1 ma0 (Wl.nil ?_)))
   refine fun w_ h_ => hJ41 (i + 1) X52 g56 _ w_ ma1 ⟨ma1, ok57, hk55, (hX53 ▸ hbd.set hk (hob.at ma1).1 (hob.at ma1).2), ma1⟩ ?_ h_
   kernel_rfl
  ·have qh47 := h47; try simp only [zA] at qh47
   refine W.exit (hK38 _ _ _ (W.prune' [1, 5, 7] [iV .i64 k, pV p5 0, pV wb15 0] ma0 (fun f60 => W.seq (fun K61 hK61 => W.region ?_))))
   refine Wl.run 3 ma0 (Wl.ys rfl rfl (Ys.l1 p5 1 2 0 Try.isAgg54) ?_)
   obtain ⟨X62, hX63⟩ : ∃ z, setS xs k t2 = z := ⟨_, rfl⟩
   have hlx64 : X62.length ≤ xs.length + 1 := hX63 ▸ setS_len _ _ _
   have hk65 : OkS X62 := hX63 ▸ hk.set _ _
   refine Wl.htS rfl (HtS.call (β := FS) (k := 32) (args := #[pV wb15 0, iV .i64 k, iV .u64 t2]) (Lin := [g.seg 87 (mm spk xs), [cb wb15 [sV g xs.length] 85]]) (Lk := [[cb p5 [iV .u64 t1, iV .u64 t2] 65]]) (Lo := fun g66 => [g66.seg 87 (mm spk X62), [cb wb15 [sV g66 X62.length] 85], [cb p5 [iV .u64 t1, iV .u64 t2] 65]]) [0, 1] [2] rfl (fun _ => kr) ma2 rfl rfl rfl (fun w_ hm_ hl_ => (wsetz_c xs g wb15 _ k t2 X62 _ hX63 hl_ ok ma1 hk.srt)) (fun _ => rfl)) (fun g66 ok67 => Wl.nil (hK61 _ _ _ (W.pick (LL' := [g66.seg 87 (mm spk X62), [cb wb15 [sV g66 X62.length] 85]]) [0, 1] ma2 rfl (W.prune' [1, 7] [iV .i64 k, pV wb15 0] ma0 (fun f69 => ?_)))))
   refine W.seq (fun K70 hK70 => W.region (Wl.run 1 ma0 (Wl.nil (hK70 _ _ _ ?_))))
   refine W.seq (fun K71 hK71 => W.seq (fun K72 hK72 => ?_))
   refine W.region ?_
   obtain ⟨X73, hX74⟩ : ∃ z, X62.drop (dueN X62 18446744073709551615 1000) = z := ⟨_, rfl⟩
   obtain ⟨O75, hO76⟩ : ∃ z, keysS (X62.take (dueN X62 18446744073709551615 1000)) = z := ⟨_, rfl⟩
   have hlx78 : X73.length + O75.length = X62.length := hX74 ▸ hO76 ▸ due_len X62 (dueN X62 18446744073709551615 1000)
   have hk77 : OkS X73 := hX74 ▸ hk65.drop _
   refine Wl.run 1 ma0 (Wl.htS rfl (HtS.call (β := FS × FS) (k := 33) (args := #[pV wb15 0, iV .u64 18446744073709551615, iV .i64 1000]) (Lin := [g66.seg 87 (mm spk X62), [cb wb15 [sV g66 X62.length] 85]]) (Lk := []) (Lo := fun q83 => [q83.1.seg 3 (mc (Value.int .i64) O75), q83.2.seg 87 (mm spk X73), [cb wb15 [Value.slice q83.2.a X73.length q83.2.cap] 85]]) [0, 1] [] rfl (fun _ => kr) ma2 rfl rfl rfl (fun w_ hm_ hl_ => (duez_c X62 g66 wb15 18446744073709551615 1000 _ X73 O75 _ hX74 hO76 hl_ ok67 ma1)) (fun _ => rfl)) (fun q83 hx85 => ?_))
   obtain ⟨go79, g80⟩ := q83
   dsimp only at hx85
   obtain ⟨oko81, ok82⟩ := hx85
   refine Wl.castL (LL' := [go79.seg 3 (mc (Value.int .i64) O75), g80.seg 87 (mm spk X73), [cb wb15 [sV g80 X73.length] 85]]) rfl (Wl.run 2 ma0 (Wl.nil (hK72 _ _ _ (W.prune' [1, 7, 10, 47, 48, 49] [iV .i64 k, pV wb15 0, iV .i64 0, Value.slice go79.a O75.length go79.cap, nV .i64 O75.length, iV .i64 0] ma0 (fun f86 => ?_)))))
   refine W.block (W.loop2 [1, 7, 10, 47, 48, 49] (fun (j : Nat) (n : Nat) => [iV .i64 k, pV wb15 0, nV .i64 n, Value.slice go79.a O75.length go79.cap, nV .i64 O75.length, nV .i64 j]) (fun (j : Nat) (n : Nat) => j ≤ O75.length ∧ n = (O75.take j).count k ∧ n ≤ j) (fun (j : Nat) (n : Nat) => [go79.seg 3 (mc (Value.int .i64) O75), g80.seg 87 (mm spk X73), [cb wb15 [sV g80 X73.length] 85]]) (fun (j : Nat) (n : Nat) => O75.length - j) 0 0 ma0 ⟨(Nat.zero_le _), rfl, (Nat.le_refl _)⟩ (by rfl) (fun j n f88 J87 hp89 hJ87 => ?_))
   obtain ⟨hj, hn, hnj⟩ := hp89
   refine W.seq (fun K90 hK90 => W.region (Wl.run 1 ma0 (Wl.nil (hK90 _ _ _ ?_))))
   refine W.seq (fun K91 hK91 => ?_)
   refine W.cond (decide (((j : Nat) : Int) < (O75.length : Int))) ma0 (fun h92 => ?_) (fun h93 => ?_)
   ·have qh92 := h92; try simp only [zA] at qh92
    refine W.skip' (hK91 _ _ _ (W.prune' [1, 7, 10, 47, 48, 49] [iV .i64 k, pV wb15 0, nV .i64 n, Value.slice go79.a O75.length go79.cap, nV .i64 O75.length, nV .i64 j] ma0 (fun f94 => W.seq (fun K95 hK95 => W.block ?_))))
    refine W.seq (fun K96 hK96 => W.region (Wl.ys (v := Value.pointer (some (ela go79.a (j * 1)))) rfl rfl (Ys.indexAddr (k := .i64) (a := go79.a) (len := O75.length) (cap := go79.cap) (i := (j : Int)) (sz := 1) rfl ma0 ma0 Try.runUnderlying39 Try.sizeOf3 ma1 ma1 (by rw [FS.a_own (FS.notnil oko81 ma1)]; rfl)) (Wl.ys (v := iV .i64 (O75.getD j 0)) rfl rfl (Ys.ld (a := ela go79.a (j * 1)) rfl ma0 Try.isAgg3 (fun w_ h_ => (FS.at (i := 0) (t := 3) h_ rfl (FS.nil_cs oko81 (mc_len1 _))).ld (mc_get1 0 (by first | omega | (simp; omega))))) (Wl.run 1 ma0 ?_))))
    refine Wl.nil (hK96 _ _ _ (W.prune' [1, 7, 10, 12, 47, 48, 49] [iV .i64 k, pV wb15 0, nV .i64 n, iV .i64 (O75.getD j 0), Value.slice go79.a O75.length go79.cap, nV .i64 O75.length, nV .i64 j] ma0 (fun f97 => W.seq (fun K98 hK98 => W.region ?_))))
    refine Wl.run 3 ma0 (Wl.nil (hK98 _ _ _ (W.prune' [1, 7, 10, 47, 48, 49, 55] [iV .i64 k, pV wb15 0, nV .i64 n, Value.slice go79.a O75.length go79.cap, nV .i64 O75.length, nV .i64 j, bV ((O75.getD j 0) == k)] ma0 (fun f99 => ?_))))
    refine W.cond ((O75.getD j 0) == k) ma0 (fun h100 => ?_) (fun h101 => ?_)
    ·have qh100 := h100; try simp only [zA] at qh100
     refine W.region (Wl.run 1 ma0 (Wl.ys (v := nV .i64 (n + 1)) rfl rfl ((Ys.pure (v := .int .i64 (iadd .i64 (n : Int) 1)) (fun _ => kr)).conseq (int_congr (iadd_eq ma1 ma1 ma1))) (Wl.run 1 ma0 (Wl.nil ?_))))
     refine hK95 _ _ _ (W.prune' [1, 7, 10, 47, 48, 49] [iV .i64 k, pV wb15 0, nV .i64 (n + 1), Value.slice go79.a O75.length go79.cap, nV .i64 O75.length, nV .i64 j] ma0 (fun f102 => ?_))
     refine W.region (Wl.ys (v := nV .i64 (j + 1)) rfl rfl ((Ys.pure (v := .int .i64 (iadd .i64 (j : Int) 1)) (fun _ => kr)).conseq (int_congr (iadd_eq ma1 ma1 ma1))) (Wl.run 1 ma0 (Wl.nil ?_)))
     refine fun w_ h_ => hJ87 (j + 1) (n + 1) _ w_ ma1 ⟨ma1, (by rw [cnt_step ma1, ← hn, show (O75.getD j 0 == k) = true from h100]; rfl), ma1⟩ ?_ h_
     kernel_rfl
    ·have qh101 := h101; try simp only [zA] at qh101
     refine W.skip' (hK95 _ _ _ (W.prune' [1, 7, 10, 47, 48, 49] [iV .i64 k, pV wb15 0, nV .i64 n, Value.slice go79.a O75.length go79.cap, nV .i64 O75.length, nV .i64 j] ma0 (fun f103 => W.region (Wl.ys (v := nV .i64 (j + 1)) rfl rfl ((Ys.pure (v := .int .i64 (iadd .i64 (j : Int) 1)) (fun _ => kr)).conseq (int_congr (iadd_eq ma1 ma1 ma1))) ?_))))
     refine Wl.run 1 ma0 (Wl.nil ?_)
     refine fun w_ h_ => hJ87 (j + 1) n _ w_ ma1 ⟨ma1, (by rw [cnt_step ma1, ← hn, show (O75.getD j 0 == k) = false from h101]; rfl), ma1⟩ ?_ h_
     kernel_rfl
   ·have qh93 := h93; try simp only [zA] at qh93
    refine W.exit (hK71 _ _ _ (W.pick (LL' := [g80.seg 87 (mm spk X73), [cb wb15 [sV g80 X73.length] 85]]) [1, 2] ma2 rfl (W.prune' [1, 7, 10] [iV .i64 k, pV wb15 0, nV .i64 n] ma0 (fun f104 => W.seq (fun K105 hK105 => ?_)))))
    refine W.region (Wl.run 2 ma0 (Wl.yc (v := Value.tuple #[iV .u64 (timeS X73 k), bV (!(decide (atR (keysS X73) k < 0)))]) rfl rfl (Yc.call (fun _ => kr) (fun w_ hm_ => (let z_ := Mem.local' (hm_.pick [0, 1] ma2 rfl); ret_same z_ (wat_c X73 g80 wb15 _ k w_ z_ ok82 ma1)))) (Wl.run 5 ma0 (Wl.nil ?_))))
    refine hK105 _ _ _ (W.prune' [7, 10, 14] [pV wb15 0, nV .i64 n, bV (!(decide (atR (keysS X73) k < 0)))] ma0 (fun f106 => ?_))
    refine W.seq (fun K107 hK107 => W.region (Wl.run 3 ma0 ?_))
    refine Wl.guard (v := bV (!(decide (atR (keysS X73) k < 0)))) (((n : Nat) : Int) == 1) rfl (wantT rfl ma0) rfl (fun hg108 => ?_) ?_
    ·exact Ys.pure (fun _ => kr)
    refine Wl.guard (v := bV (!(!(decide (atR (keysS X73) k < 0))))) (((n : Nat) : Int) == 1) rfl (wantT rfl ma0) rfl (fun hg109 => ?_) ?_
    ·have qhg109 := hg109; try simp only [zA] at qhg109
     refine Ys.at (t := 68) (v0 := bV (!(decide (atR (keysS X73) k < 0)))) (lz (g := (n : Int) == 1) (u := undef) hg109 ma0) ?_
     exact Ys.pure (fun _ => kr)
    refine Wl.ys (v := bV (((n : Int) == 1) && (!(!(decide (atR (keysS X73) k < 0)))))) rfl rfl (Ys.and (e := (n : Int) == 1) (b := !(!(decide (atR (keysS X73) k < 0)))) rfl ma0 ma0 ma0) (Wl.run 1 ma0 ?_)
    refine Wl.guard (v := pV wb15 0) (((n : Int) == 1) && (!(!(decide (atR (keysS X73) k < 0))))) rfl (wantT rfl ma0) rfl (fun hg110 => ?_) ?_
    ·exact Ys.pure (fun _ => kr)
    refine Wl.guardc (v := nV .i64 X73.length) (((n : Int) == 1) && (!(!(decide (atR (keysS X73) k < 0))))) rfl (wantT rfl ma0) rfl (fun hg111 => ?_) ?_
    ·have qhg111 := hg111; try simp only [zA] at qhg111
     refine Yc.at (t := 72) (v0 := pV wb15 0) (lz (g := (((n : Nat) : Int) == 1) && (!(!(decide (atR (keysS X73) k < 0))))) (u := undef) hg111 ma0) ?_
     exact Yc.call (fun _ => kr) (fun w_ hm_ => (let z_ := Mem.local' (hm_.pick [0, 1] ma2 rfl); ret_same z_ (wlen_c X73 g80 wb15 _  w_ z_ ok82 ma1)))
    refine Wl.guard (v := bV (((X73.length : Nat) : Int) == 0)) (((n : Int) == 1) && (!(!(decide (atR (keysS X73) k < 0))))) rfl (wantT rfl ma0) rfl (fun hg112 => ?_) ?_
    ·have qhg112 := hg112; try simp only [zA] at qhg112
     refine Ys.at (t := 73) (v0 := nV .i64 X73.length) (lz (g := (((n : Nat) : Int) == 1) && (!(!(decide (atR (keysS X73) k < 0))))) (u := undef) hg112 ma0) ?_
     exact Ys.pure (fun _ => kr)
    refine Wl.ys (v := bV (((((n : Nat) : Int) == 1) && (!(!(decide (atR (keysS X73) k < 0))))) && (((X73.length : Nat) : Int) == 0))) rfl rfl (Ys.and (e := (((n : Nat) : Int) == 1) && (!(!(decide (atR (keysS X73) k < 0))))) (b := (X73.length : Int) == 0) rfl ma0 ma0 ma0) (Wl.run 1 ma0 (Wl.nil (hK107 _ _ _ (W.pick (LL' := []) [] ma2 rfl ?_))))
    refine W.prune' [6] [bV (((((n : Nat) : Int) == 1) && (!(!(decide (atR (keysS X73) k < 0))))) && (((X73.length : Nat) : Int) == 0))] ma0 (fun f113 => W.ret ?_)
    obtain ⟨hc_, hz_⟩ := again_ok (k := k) hk65 (hX63 ▸ BdS.set hbd hk ma1 ma1) ma1 (hX63 ▸ set_has hk) hX74 hO76
    have hn1_ : n = 1 := by rw [hn, List.take_of_length_le ma1]; exact hc_
    show ∀ w_, _ → bodyPostM (fence none) 0 Try.prog Try.f10 _ Exit.ret _ w_
    exact fun w_ hS_ => fin_ret (ret1 rfl (RV.tmp (v := bV (((((n : Nat) : Int) == 1) && (!(!(decide (atR (keysS X73) k < 0))))) && (((X73.length : Nat) : Int) == 0))) ma0) hS_ ⟨by clear hK1 hK3 hK4 hK7 hK8 hK14 hK18 hK19 hK22 hK38 hK39 hJ41 hK44 hK45 hK61 hK70 hK71 hK72 hJ87 hK90 hK91 hK105 hK107; refine congrArg Ending.returned ?_; exact bool_congr (by rw [hn1_, hz_]; simp [atR, idx, keysS]), hS_.below⟩)
end Go.Proofs.Ythfagedaijoenaa.Oct
