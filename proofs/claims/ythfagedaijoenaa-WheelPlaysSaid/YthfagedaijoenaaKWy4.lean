import Derived.Test.YthfagedaijoenaaKWy3
set_option linter.unusedVariables false
set_option linter.unusedSimpArgs false
set_option maxRecDepth 20000
namespace Go.Proofs.Ythfagedaijoenaa.Oct
open Go.RowKit Base
attribute [local irreducible] Ys Yc Ht HtS HtIn Wl Wd W Mem pf dpf Wa Wo
theorem due_len (xs : List (Int × Int)) (n : Nat) : (xs.drop n).length + (keysS (xs.take n)).length = xs.length := by
  rw [keysS_len, List.length_drop, List.length_take]; omega
def op8 (x : Int × Int × Int × Int) : List Value := [.int .i64 x.1, .int .i64 x.2.1, .int .i64 x.2.2.1, .int .u64 x.2.2.2]
def BdS (xs : List (Int × Int)) : Prop := ∀ p ∈ xs, 0 ≤ p.1 ∧ p.1 ≤ 18446744073709551615
theorem BdS.nil : BdS [] := fun p h => by cases h
theorem BdS.set {xs : List (Int × Int)} (h : BdS xs) (ho : OkS xs) {k a : Int} (h0 : 0 ≤ a) (h1 : a ≤ 18446744073709551615) : BdS (setS xs k a) := fun p hp => by
  rcases (mem_setS ho).1 hp with rfl | hp
  · exact ⟨h0, h1⟩
  · exact h p hp.1
theorem BdS.drop {xs : List (Int × Int)} (h : BdS xs) (n : Nat) : BdS (xs.drop n) := fun p hp => h p (List.mem_of_mem_drop hp)
def OpB (os : List (Int × Int × Int × Int)) : Prop := ∀ x ∈ os, 0 ≤ x.2.2.2 ∧ x.2.2.2 ≤ 18446744073709551615
theorem OpB.at {os : List (Int × Int × Int × Int)} (h : OpB os) {i : Nat} (hi : i < os.length) : 0 ≤ (os.getD i (0, 0, 0, 0)).2.2.2 ∧ (os.getD i (0, 0, 0, 0)).2.2.2 ≤ 18446744073709551615 := by
  rw [List.getD_eq_getElem?_getD, List.getElem?_eq_getElem hi]; exact h _ (List.getElem_mem hi)
theorem duez_c (xs : List (Int × Int)) (g : FS) (wb : Nat) (now q : Int) (M : List Nat) (X : List (Int × Int)) (O : List Int) (w : World) (hX : xs.drop (dueN xs now q) = X) (hO : keysS (xs.take (dueN xs now q)) = O) (hl : Mem w M [g.seg 87 (mm spk xs), [cb wb [Value.slice g.a xs.length g.cap] 85]] w) (ok : g.ok 2 xs.length) (hn : xs.length ≤ 1000) :
    Calls Try.prog 33 #[.pointer (some ⟨wb, 0, none⟩), .int .u64 now, .int .i64 q] w (RetM w (fun q_ : FS × FS => q_.1.ok 1 O.length ∧ q_.2.ok 2 X.length) (fun q_ => .slice q_.1.a O.length q_.1.cap) M (fun q_ => [q_.1.seg 3 (mc (Value.int .i64) O), q_.2.seg 87 (mm spk X), [cb wb [Value.slice q_.2.a X.length q_.2.cap] 85]])) := by
  subst hX; subst hO; exact due_c xs g wb now q M w hl ok hn
theorem speaks8_c  (w : World) : Calls Try.prog 30 #[] w (Ret w (.bool true)) := by
 refine calls_W (M := []) (LL := []) (n := 35) Try.func30 rfl rfl ma8 (Mem.refl _) (W.seq (fun K1 hK1 => ?_))
 refine W.region (Wl.run 1 ma0 (Wl.nil (hK1 _ _ _ (W.seq (fun K2 hK2 => ?_)))))
 refine W.region (Wl.htS rfl (HtS.call (β := Nat) (k := 31) (args := #[]) (Lin := []) (Lk := []) (Mi := []) (Lo := fun wb3 => [[cb wb3 [Value.slice none 0 0] 85]]) [] [] rfl (fun _ => kr) ma3 rfl rfl rfl (fun w_ hm_ hl_ => (wnew_c _)) (fun _ => rfl)) (fun wb3 _ => ?_))
 refine Wl.run 1 ma0 (Wl.nil (hK2 _ _ _ (W.prune' [1] [pV wb3 0] ma0 (fun f5 => W.seq (fun K6 hK6 => ?_)))))
 refine W.seq (fun K7 hK7 => W.region (Wl.run 2 ma0 (Wl.nil (hK7 _ _ _ ?_))))
 refine W.prune' [1, 5] [pV wb3 0, bV false] ma0 (fun f8 => W.condF ma0 (W.skip' (hK6 _ _ _ (W.prune' [1] [pV wb3 0] ma0 (fun f9 => ?_)))))
 refine W.seq (fun K10 hK10 => ?_)
 obtain ⟨xs12, hx16⟩ : ∃ z : List (Int × Int), z = [] := ⟨_, rfl⟩
 obtain ⟨g11, hg15⟩ : ∃ z : FS, z = FS.nul := ⟨_, rfl⟩
 have ok13 : g11.ok 2 xs12.length := by rw [hg15, hx16]; exact FS.nul_ok 2
 have hk14 : OkS xs12 := by rw [hx16]; exact OkS.nil
 have hl17 : xs12.length = 0 := by rw [hx16]; rfl
 refine W.conseq (S' := Mem w [] [g11.seg 87 (mm spk xs12), [cb wb3 [sV g11 xs12.length] 85]]) (fun w_ h_ => Mem.cast (LL := [] :: [[cb wb3 [Value.slice none 0 0] 85]]) (by rw [hg15, hx16]; rfl) (Mem.push h_)) (W.region ?_)
 obtain ⟨X18, hX19⟩ : ∃ z, setS xs12 7 5 = z := ⟨_, rfl⟩
 have hlx20 : X18.length ≤ xs12.length + 1 := hX19 ▸ setS_len _ _ _
 have hk21 : OkS X18 := hX19 ▸ hk14.set _ _
 refine Wl.run 1 ma0 (Wl.htS rfl (HtS.call (β := FS) (k := 32) (args := #[pV wb3 0, iV .i64 7, iV .u64 5]) (Lin := [g11.seg 87 (mm spk xs12), [cb wb3 [sV g11 xs12.length] 85]]) (Lk := []) (Lo := fun g22 => [g22.seg 87 (mm spk X18), [cb wb3 [sV g22 X18.length] 85]]) [0, 1] [] rfl (fun _ => kr) ma3 rfl rfl rfl (fun w_ hm_ hl_ => (wsetz_c xs12 g11 wb3 _ 7 5 X18 _ hX19 hl_ ok13 ma1 hk14.srt)) (fun _ => rfl)) (fun g22 ok23 => ?_))
 refine Wl.nil (hK10 _ _ _ (W.prune' [1] [pV wb3 0] ma0 (fun f25 => W.seq (fun K26 hK26 => W.region ?_))))
 obtain ⟨X27, hX28⟩ : ∃ z, setS X18 3 5 = z := ⟨_, rfl⟩
 have hlx29 : X27.length ≤ X18.length + 1 := hX28 ▸ setS_len _ _ _
 have hk30 : OkS X27 := hX28 ▸ hk21.set _ _
 refine Wl.run 1 ma0 (Wl.htS rfl (HtS.call (β := FS) (k := 32) (args := #[pV wb3 0, iV .i64 3, iV .u64 5]) (Lin := [g22.seg 87 (mm spk X18), [cb wb3 [sV g22 X18.length] 85]]) (Lk := []) (Lo := fun g31 => [g31.seg 87 (mm spk X27), [cb wb3 [sV g31 X27.length] 85]]) [0, 1] [] rfl (fun _ => kr) ma3 rfl rfl rfl (fun w_ hm_ hl_ => (wsetz_c X18 g22 wb3 _ 3 5 X27 _ hX28 hl_ ok23 ma1 hk21.srt)) (fun _ => rfl)) (fun g31 ok32 => ?_))
 refine Wl.nil (hK26 _ _ _ (W.prune' [1] [pV wb3 0] ma0 (fun f34 => W.seq (fun K35 hK35 => W.region ?_))))
 obtain ⟨X36, hX37⟩ : ∃ z, setS X27 9 4 = z := ⟨_, rfl⟩
 have hlx38 : X36.length ≤ X27.length + 1 := hX37 ▸ setS_len _ _ _
 have hk39 : OkS X36 := hX37 ▸ hk30.set _ _
 refine Wl.run 1 ma0 (Wl.htS rfl (HtS.call (β := FS) (k := 32) (args := #[pV wb3 0, iV .i64 9, iV .u64 4]) (Lin := [g31.seg 87 (mm spk X27), [cb wb3 [sV g31 X27.length] 85]]) (Lk := []) (Lo := fun g40 => [g40.seg 87 (mm spk X36), [cb wb3 [sV g40 X36.length] 85]]) [0, 1] [] rfl (fun _ => kr) ma3 rfl rfl rfl (fun w_ hm_ hl_ => (wsetz_c X27 g31 wb3 _ 9 4 X36 _ hX37 hl_ ok32 ma1 hk30.srt)) (fun _ => rfl)) (fun g40 ok41 => ?_))
 refine Wl.nil (hK35 _ _ _ (W.prune' [1] [pV wb3 0] ma0 (fun f43 => W.seq (fun K44 hK44 => W.region ?_))))
 obtain ⟨X45, hX46⟩ : ∃ z, X36.drop (dueN X36 5 9) = z := ⟨_, rfl⟩
 obtain ⟨O47, hO48⟩ : ∃ z, keysS (X36.take (dueN X36 5 9)) = z := ⟨_, rfl⟩
 have hlx50 : X45.length + O47.length = X36.length := hX46 ▸ hO48 ▸ due_len X36 (dueN X36 5 9)
 have hk49 : OkS X45 := hX46 ▸ hk39.drop _
 refine Wl.run 1 ma0 (Wl.htS rfl (HtS.call (β := FS × FS) (k := 33) (args := #[pV wb3 0, iV .u64 5, iV .i64 9]) (Lin := [g40.seg 87 (mm spk X36), [cb wb3 [sV g40 X36.length] 85]]) (Lk := []) (Lo := fun q55 => [q55.1.seg 3 (mc (Value.int .i64) O47), q55.2.seg 87 (mm spk X45), [cb wb3 [Value.slice q55.2.a X45.length q55.2.cap] 85]]) [0, 1] [] rfl (fun _ => kr) ma3 rfl rfl rfl (fun w_ hm_ hl_ => (duez_c X36 g40 wb3 5 9 _ X45 O47 _ hX46 hO48 hl_ ok41 ma1)) (fun _ => rfl)) (fun q55 hx57 => ?_))
 obtain ⟨go51, g52⟩ := q55
 dsimp only at hx57
 obtain ⟨oko53, ok54⟩ := hx57
 refine Wl.castL (LL' := [go51.seg 3 (mc (Value.int .i64) O47), g52.seg 87 (mm spk X45), [cb wb3 [sV g52 X45.length] 85]]) rfl (Wl.run 1 ma0 (Wl.nil (hK44 _ _ _ (W.pick (LL' := [go51.seg 3 (mc (Value.int .i64) O47)]) [0] ma3 rfl ?_))))
 refine W.prune' [2] [Value.slice go51.a O47.length go51.cap] ma0 (fun f58 => W.seq (fun K59 hK59 => ?_))
 refine W.region (Wl.run 4 ma0 ?_)
 refine Wl.guard (v := Value.slice go51.a O47.length go51.cap) (((O47.length : Nat) : Int) == 3) rfl (wantT rfl ma0) rfl (fun hg60 => ?_) ?_
 ·exact Ys.pure (fun _ => kr)
 refine Wl.guard (v := Value.pointer (some (ela go51.a 0))) (((O47.length : Nat) : Int) == 3) rfl (wantT rfl ma0) rfl (fun hg61 => ?_) ?_
 ·have qhg61 := hg61; try simp only [zA] at qhg61
  refine Ys.at (t := 18) (v0 := Value.slice go51.a O47.length go51.cap) (lz (g := (O47.length : Int) == 3) (u := undef) hg61 ma0) ?_
  exact Ys.indexAddr (k := .i64) (a := go51.a) (len := O47.length) (cap := go51.cap) (i := 0) (sz := 1) rfl ma0 ma0 Try.runUnderlying39 Try.sizeOf3 ma1 ma1 (by rw [FS.a_own (FS.notnil oko53 ma1)]; rfl)
 refine Wl.guard (v := iV .i64 (O47.getD 0 0)) (((O47.length : Nat) : Int) == 3) rfl (wantT rfl ma0) rfl (fun hg62 => ?_) ?_
 ·have qhg62 := hg62; try simp only [zA] at qhg62
  refine Ys.at (t := 19) (v0 := Value.pointer (some (ela go51.a 0))) (lz (g := (O47.length : Int) == 3) (u := undef) hg62 ma0) ?_
  exact Ys.ld (a := ela go51.a 0) rfl ma0 Try.isAgg3 (fun w_ h_ => (FS.at (i := 0) (t := 3) h_ rfl (FS.nil_cs oko53 (mc_len1 _))).ld (mc_get 0 ma6))
 refine Wl.guard (v := bV ((O47.getD 0 0) == 9)) (((O47.length : Nat) : Int) == 3) rfl (wantT rfl ma0) rfl (fun hg63 => ?_) ?_
 ·refine Ys.at (t := 20) (v0 := iV .i64 (O47.getD 0 0)) (lz (g := (O47.length : Int) == 3) (u := undef) hg63 ma0) ?_
  exact Ys.pure (fun _ => kr)
 refine Wl.ys (v := bV (((O47.length : Int) == 3) && ((O47.getD 0 0) == 9))) rfl rfl (Ys.and (e := (O47.length : Int) == 3) (b := (O47.getD 0 0) == 9) rfl ma0 ma0 ma0) (Wl.run 1 ma0 ?_)
 refine Wl.guard (v := Value.slice go51.a O47.length go51.cap) (((O47.length : Int) == 3) && ((O47.getD 0 0) == 9)) rfl (wantT rfl ma0) rfl (fun hg64 => ?_) ?_
 ·exact Ys.pure (fun _ => kr)
 refine Wl.guard (v := Value.pointer (some (ela go51.a 1))) (((O47.length : Int) == 3) && ((O47.getD 0 0) == 9)) rfl (wantT rfl ma0) rfl (fun hg65 => ?_) ?_
 ·have qhg65 := hg65; try simp only [zA] at qhg65
  refine Ys.at (t := 24) (v0 := Value.slice go51.a O47.length go51.cap) (lz (g := (((O47.length : Nat) : Int) == 3) && ((O47.getD 0 0) == 9)) (u := undef) hg65 ma0) ?_
  exact Ys.indexAddr (k := .i64) (a := go51.a) (len := O47.length) (cap := go51.cap) (i := 1) (sz := 1) rfl ma0 ma0 Try.runUnderlying39 Try.sizeOf3 ma1 ma1 (by rw [FS.a_own (FS.notnil oko53 ma1)]; rfl)
 refine Wl.guard (v := iV .i64 (O47.getD 1 0)) (((O47.length : Int) == 3) && ((O47.getD 0 0) == 9)) rfl (wantT rfl ma0) rfl (fun hg66 => ?_) ?_
 ·have qhg66 := hg66; try simp only [zA] at qhg66
  refine Ys.at (t := 25) (v0 := Value.pointer (some (ela go51.a 1))) (lz (g := (((O47.length : Nat) : Int) == 3) && ((O47.getD 0 0) == 9)) (u := undef) hg66 ma0) ?_
  exact Ys.ld (a := ela go51.a 1) rfl ma0 Try.isAgg3 (fun w_ h_ => (FS.at (i := 0) (t := 3) h_ rfl (FS.nil_cs oko53 (mc_len1 _))).ld (mc_get 0 ma6))
 refine Wl.guard (v := bV ((O47.getD 1 0) == 3)) (((O47.length : Int) == 3) && ((O47.getD 0 0) == 9)) rfl (wantT rfl ma0) rfl (fun hg67 => ?_) ?_
 ·refine Ys.at (t := 26) (v0 := iV .i64 (O47.getD 1 0)) (lz (g := (((O47.length : Nat) : Int) == 3) && ((O47.getD 0 0) == 9)) (u := undef) hg67 ma0) ?_
  exact Ys.pure (fun _ => kr)
 refine Wl.ys (v := bV (((((O47.length : Nat) : Int) == 3) && ((O47.getD 0 0) == 9)) && ((O47.getD 1 0) == 3))) rfl rfl (Ys.and (e := (((O47.length : Nat) : Int) == 3) && ((O47.getD 0 0) == 9)) (b := (O47.getD 1 0) == 3) rfl ma0 ma0 ma0) (Wl.run 1 ma0 ?_)
 refine Wl.guard (v := Value.slice go51.a O47.length go51.cap) (((((O47.length : Nat) : Int) == 3) && ((O47.getD 0 0) == 9)) && ((O47.getD 1 0) == 3)) rfl (wantT rfl ma0) rfl (fun hg68 => ?_) ?_
 ·exact Ys.pure (fun _ => kr)
 refine Wl.guard (v := Value.pointer (some (ela go51.a 2))) (((((O47.length : Nat) : Int) == 3) && ((O47.getD 0 0) == 9)) && ((O47.getD 1 0) == 3)) rfl (wantT rfl ma0) rfl (fun hg69 => ?_) ?_
 ·have qhg69 := hg69; try simp only [zA] at qhg69
  refine Ys.at (t := 30) (v0 := Value.slice go51.a O47.length go51.cap) (lz (g := (((O47.length : Int) == 3) && ((O47.getD 0 0) == 9)) && ((O47.getD 1 0) == 3)) (u := undef) hg69 ma0) ?_
  exact Ys.indexAddr (k := .i64) (a := go51.a) (len := O47.length) (cap := go51.cap) (i := 2) (sz := 1) rfl ma0 ma0 Try.runUnderlying39 Try.sizeOf3 ma1 ma1 (by rw [FS.a_own (FS.notnil oko53 ma1)]; rfl)
 refine Wl.guard (v := iV .i64 (O47.getD 2 0)) (((((O47.length : Nat) : Int) == 3) && ((O47.getD 0 0) == 9)) && ((O47.getD 1 0) == 3)) rfl (wantT rfl ma0) rfl (fun hg70 => ?_) ?_
 ·have qhg70 := hg70; try simp only [zA] at qhg70
  refine Ys.at (t := 31) (v0 := Value.pointer (some (ela go51.a 2))) (lz (g := (((O47.length : Int) == 3) && ((O47.getD 0 0) == 9)) && ((O47.getD 1 0) == 3)) (u := undef) hg70 ma0) ?_
  exact Ys.ld (a := ela go51.a 2) rfl ma0 Try.isAgg3 (fun w_ h_ => (FS.at (i := 0) (t := 3) h_ rfl (FS.nil_cs oko53 (mc_len1 _))).ld (mc_get 0 ma6))
 refine Wl.guard (v := bV ((O47.getD 2 0) == 7)) (((((O47.length : Nat) : Int) == 3) && ((O47.getD 0 0) == 9)) && ((O47.getD 1 0) == 3)) rfl (wantT rfl ma0) rfl (fun hg71 => ?_) ?_
 ·refine Ys.at (t := 32) (v0 := iV .i64 (O47.getD 2 0)) (lz (g := (((O47.length : Int) == 3) && ((O47.getD 0 0) == 9)) && ((O47.getD 1 0) == 3)) (u := undef) hg71 ma0) ?_
  exact Ys.pure (fun _ => kr)
 refine Wl.ys (v := bV (((((O47.length : Int) == 3) && ((O47.getD 0 0) == 9)) && ((O47.getD 1 0) == 3)) && ((O47.getD 2 0) == 7))) rfl rfl (Ys.and (e := (((O47.length : Int) == 3) && ((O47.getD 0 0) == 9)) && ((O47.getD 1 0) == 3)) (b := (O47.getD 2 0) == 7) rfl ma0 ma0 ma0) (Wl.run 1 ma0 (Wl.nil (hK59 _ _ _ (W.pick (LL' := []) [] ma3 rfl ?_))))
 refine W.prune' [0] [bV (((((O47.length : Int) == 3) && ((O47.getD 0 0) == 9)) && ((O47.getD 1 0) == 3)) && ((O47.getD 2 0) == 7))] ma0 (fun f72 => W.ret ?_)
 show ∀ w_, _ → bodyPostM (fence none) 0 Try.prog Try.f30 _ Exit.ret _ w_
 exact fun w_ hS_ => fin_ret (ret1 rfl (RV.tmp (v := bV (((((O47.length : Int) == 3) && ((O47.getD 0 0) == 9)) && ((O47.getD 1 0) == 3)) && ((O47.getD 2 0) == 7))) ma0) hS_ ⟨by clear hK1 hK2 hK6 hK7 hK10 hK26 hK35 hK44 hK59; refine congrArg Ending.returned ?_; exact bool_congr (by subst_vars; decide +kernel), hS_.below⟩)
end Go.Proofs.Ythfagedaijoenaa.Oct
