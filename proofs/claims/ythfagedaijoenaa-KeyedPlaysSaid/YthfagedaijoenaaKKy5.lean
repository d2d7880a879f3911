import Derived.Test.YthfagedaijoenaaKKy4
set_option linter.unusedVariables false
set_option linter.unusedSimpArgs false
set_option maxRecDepth 20000
namespace Go.Proofs.Ythfagedaijoenaa.Oct
open Go.RowKit Base
attribute [local irreducible] Ys Yc Ht HtS HtIn Wl Wd W Mem pf dpf Wa Wo
theorem putzA_c (xs : List (Int × Int)) (g : FS) (most : Int) (tb : Nat) (M : List Nat) (k v : Int) (X : List (Int × Int)) (w : World) (hX : putX 1 most xs k v = X) (hl : Mem w M [g.seg 76 (mm pr xs), [cb tb [Value.slice g.a xs.length g.cap, Value.int .i64 most, Value.func (.func 14) #[] #[]] 74]] w) (ok : g.ok 2 xs.length) (hn : xs.length ≤ 100000) (hs : Srt 1 xs) : Calls Try.prog 16 #[.pointer (some ⟨tb, 0, none⟩), .int .i64 k, .int .i64 v] w (RetM w (fun g' : FS => g'.ok 2 X.length) (fun _ => .int .i64 (putR 1 most xs k)) M (fun g' => [g'.seg 76 (mm pr X), [cb tb [.slice g'.a X.length g'.cap, .int .i64 most, Value.func (.func 14) #[] #[]] 74]])) := by
  subst hX; exact putA_c xs g most tb M k v w hl ok hn hs
theorem dropzA_c (xs : List (Int × Int)) (g : FS) (most : Int) (tb : Nat) (M : List Nat) (k : Int) (X : List (Int × Int)) (w : World) (hX : dropK 1 xs k = X) (hl : Mem w M [g.seg 76 (mm pr xs), [cb tb [Value.slice g.a xs.length g.cap, Value.int .i64 most, Value.func (.func 14) #[] #[]] 74]] w) (ok : g.ok 2 xs.length) (hn : xs.length ≤ 100000) (hs : Srt 1 xs) : Calls Try.prog 20 #[.pointer (some ⟨tb, 0, none⟩), .int .i64 k] w (RetM w (fun g' : FS => g'.ok 2 X.length) (fun _ => .bool (hasK 1 xs k)) M (fun g' => [g'.seg 76 (mm pr X), [cb tb [.slice g'.a X.length g'.cap, .int .i64 most, Value.func (.func 14) #[] #[]] 74]])) := by
  subst hX; exact dropA_c xs g most tb M k w hl ok hn hs
theorem speaks6_c  (w : World) : Calls Try.prog 12 #[] w (Ret w (.bool true)) := by
 refine calls_W (M := []) (LL := []) (n := 47) Try.func12 rfl rfl sp (Mem.refl _) (W.seq (fun K1 hK1 => ?_))
 refine W.region (Wl.run 1 ma0 (Wl.nil (hK1 _ _ _ (W.seq (fun K2 hK2 => ?_)))))
 refine W.region (Wl.htS rfl (HtS.call (β := Nat) (k := 13) (args := #[iV .i64 2, Value.func (.func 14) #[] #[]]) (Lin := []) (Lk := []) (Mi := []) (Lo := fun tb3 => [[cb tb3 [Value.slice none 0 0, iV .i64 2, Value.func (.func 14) #[] #[]] 74]]) [] [] rfl (fun _ => kr) ma3 rfl rfl rfl (fun w_ hm_ hl_ => (newA_c 2 _)) (fun _ => rfl)) (fun tb3 _ => ?_))
 refine Wl.run 1 ma0 (Wl.nil (hK2 _ _ _ (W.prune' [1] [pV tb3 0] ma0 (fun f5 => W.seq (fun K6 hK6 => ?_)))))
 refine W.seq (fun K7 hK7 => ?_)
 obtain ⟨xs9, hx13⟩ : ∃ z : List (Int × Int), z = [] := ⟨_, rfl⟩
 obtain ⟨g8, hg12⟩ : ∃ z : FS, z = FS.nul := ⟨_, rfl⟩
 have ok10 : g8.ok 2 xs9.length := by rw [hg12, hx13]; exact FS.nul_ok 2
 have hs11 : Srt 1 xs9 := by rw [hx13]; exact List.Pairwise.nil
 have hl14 : xs9.length = 0 := by rw [hx13]; rfl
 refine W.conseq (S' := Mem w [] [g8.seg 76 (mm pr xs9), [cb tb3 [sV g8 xs9.length, iV .i64 2, Value.func (.func 14) #[] #[]] 74]]) (fun w_ h_ => Mem.cast (LL := [] :: [[cb tb3 [Value.slice none 0 0, iV .i64 2, Value.func (.func 14) #[] #[]] 74]]) (by rw [hg12, hx13]; rfl) (Mem.push h_)) (W.region (Wl.run 2 ma0 (Wl.nil (hK7 _ _ _ ?_))))
 refine W.prune' [1, 11] [pV tb3 0, bV false] ma0 (fun f15 => W.condF ma0 (W.skip' (hK6 _ _ _ (W.prune' [1] [pV tb3 0] ma0 (fun f16 => ?_)))))
 refine W.seq (fun K17 hK17 => W.region ?_)
 obtain ⟨X20, hX21⟩ : ∃ z, putX 1 2 xs9 5 1 = z := ⟨_, rfl⟩
 have hs22 : Srt 1 X20 := hX21 ▸ srt_putX sg1 hs11
 have hlx23 : X20.length ≤ xs9.length + 1 := hX21 ▸ putX_len sg1
 refine Wl.run 1 ma0 (Wl.htS rfl (HtS.call (β := FS) (k := 16) (args := #[pV tb3 0, iV .i64 5, iV .i64 1]) (Lin := [g8.seg 76 (mm pr xs9), [cb tb3 [sV g8 xs9.length, iV .i64 2, Value.func (.func 14) #[] #[]] 74]]) (Lk := []) (Lo := fun g18 => [g18.seg 76 (mm pr X20), [cb tb3 [sV g18 X20.length, iV .i64 2, Value.func (.func 14) #[] #[]] 74]]) [0, 1] [] rfl (fun _ => kr) ma3 rfl rfl rfl (fun w_ hm_ hl_ => (putzA_c xs9 g8 2 tb3 _ 5 1 X20 _ hX21 hl_ ok10 ma1 hs11)) (fun _ => rfl)) (fun g18 ok19 => ?_))
 obtain ⟨X27, hX28⟩ : ∃ z, putX 1 2 X20 3 1 = z := ⟨_, rfl⟩
 have hs29 : Srt 1 X27 := hX28 ▸ srt_putX sg1 hs22
 have hlx30 : X27.length ≤ X20.length + 1 := hX28 ▸ putX_len sg1
 refine Wl.run 1 ma0 (Wl.htS rfl (HtS.call (β := FS) (k := 16) (args := #[pV tb3 0, iV .i64 3, iV .i64 1]) (Lin := [g18.seg 76 (mm pr X20), [cb tb3 [sV g18 X20.length, iV .i64 2, Value.func (.func 14) #[] #[]] 74]]) (Lk := []) (Lo := fun g25 => [g25.seg 76 (mm pr X27), [cb tb3 [sV g25 X27.length, iV .i64 2, Value.func (.func 14) #[] #[]] 74]]) [0, 1] [] rfl (fun _ => kr) ma3 rfl rfl rfl (fun w_ hm_ hl_ => (putzA_c X20 g18 2 tb3 _ 3 1 X27 _ hX28 hl_ ok19 ma1 hs22)) (fun _ => rfl)) (fun g25 ok26 => ?_))
 obtain ⟨X34, hX35⟩ : ∃ z, putX 1 2 X27 4 1 = z := ⟨_, rfl⟩
 have hs36 : Srt 1 X34 := hX35 ▸ srt_putX sg1 hs29
 have hlx37 : X34.length ≤ X27.length + 1 := hX35 ▸ putX_len sg1
 refine Wl.run 1 ma0 (Wl.htS rfl (HtS.call (β := FS) (k := 16) (args := #[pV tb3 0, iV .i64 4, iV .i64 1]) (Lin := [g25.seg 76 (mm pr X27), [cb tb3 [sV g25 X27.length, iV .i64 2, Value.func (.func 14) #[] #[]] 74]]) (Lk := []) (Lo := fun g32 => [g32.seg 76 (mm pr X34), [cb tb3 [sV g32 X34.length, iV .i64 2, Value.func (.func 14) #[] #[]] 74]]) [0, 1] [] rfl (fun _ => kr) ma3 rfl rfl rfl (fun w_ hm_ hl_ => (putzA_c X27 g25 2 tb3 _ 4 1 X34 _ hX35 hl_ ok26 ma1 hs29)) (fun _ => rfl)) (fun g32 ok33 => ?_))
 obtain ⟨X41, hX42⟩ : ∃ z, putX 1 2 X34 5 2 = z := ⟨_, rfl⟩
 have hs43 : Srt 1 X41 := hX42 ▸ srt_putX sg1 hs36
 have hlx44 : X41.length ≤ X34.length + 1 := hX42 ▸ putX_len sg1
 refine Wl.run 1 ma0 (Wl.htS rfl (HtS.call (β := FS) (k := 16) (args := #[pV tb3 0, iV .i64 5, iV .i64 2]) (Lin := [g32.seg 76 (mm pr X34), [cb tb3 [sV g32 X34.length, iV .i64 2, Value.func (.func 14) #[] #[]] 74]]) (Lk := []) (Lo := fun g39 => [g39.seg 76 (mm pr X41), [cb tb3 [sV g39 X41.length, iV .i64 2, Value.func (.func 14) #[] #[]] 74]]) [0, 1] [] rfl (fun _ => kr) ma3 rfl rfl rfl (fun w_ hm_ hl_ => (putzA_c X34 g32 2 tb3 _ 5 2 X41 _ hX42 hl_ ok33 ma1 hs36)) (fun _ => rfl)) (fun g39 ok40 => ?_))
 refine Wl.run 4 ma0 (Wl.nil (hK17 _ _ _ (W.prune' [1, 2, 3, 4, 5] [pV tb3 0, iV .i64 (putR 1 2 xs9 5), iV .i64 (putR 1 2 X20 3), iV .i64 (putR 1 2 X27 4), iV .i64 (putR 1 2 X34 5)] ma0 (fun f46 => W.seq (fun K47 hK47 => ?_)))))
 refine W.region (Wl.run 1 ma0 (Wl.yc (v := Value.tuple #[iV .i64 ((atN X41 0).1), iV .i64 ((atN X41 0).2), bV (atO X41 0)]) rfl rfl (Yc.call (fun _ => kr) (fun w_ hm_ => (let z_ := Mem.local' (hm_.pick [0, 1] ma3 rfl); ret_same z_ (atA_c X41 g39 2 tb3 _ 0 w_ z_ ok40 ma1 hs43)))) (Wl.run 7 ma0 (Wl.nil ?_))))
 refine hK47 _ _ _ (W.pick (LL' := []) [] ma3 rfl (W.prune' [2, 3, 4, 5, 6, 8] [iV .i64 (putR 1 2 xs9 5), iV .i64 (putR 1 2 X20 3), iV .i64 (putR 1 2 X27 4), iV .i64 (putR 1 2 X34 5), iV .i64 ((atN X41 0).1), bV (atO X41 0)] ma0 (fun f48 => W.seq (fun K49 hK49 => W.region ?_))))
 refine Wl.run 3 ma0 ?_
 refine Wl.guard (v := iV .i64 (putR 1 2 X20 3)) ((putR 1 2 xs9 5) == 0) rfl (wantT rfl ma0) rfl (fun hg50 => ?_) ?_
 ·exact Ys.pure (fun _ => kr)
 refine Wl.guard (v := bV ((putR 1 2 X20 3) == 0)) ((putR 1 2 xs9 5) == 0) rfl (wantT rfl ma0) rfl (fun hg51 => ?_) ?_
 ·refine Ys.at (t := 29) (v0 := iV .i64 (putR 1 2 X20 3)) (lz (g := (putR 1 2 xs9 5) == 0) (u := undef) hg51 ma0) ?_
  exact Ys.pure (fun _ => kr)
 refine Wl.ys (v := bV (((putR 1 2 xs9 5) == 0) && ((putR 1 2 X20 3) == 0))) rfl rfl (Ys.and (e := (putR 1 2 xs9 5) == 0) (b := (putR 1 2 X20 3) == 0) rfl ma0 ma0 ma0) (Wl.run 1 ma0 ?_)
 refine Wl.guard (v := iV .i64 (putR 1 2 X27 4)) (((putR 1 2 xs9 5) == 0) && ((putR 1 2 X20 3) == 0)) rfl (wantT rfl ma0) rfl (fun hg52 => ?_) ?_
 ·exact Ys.pure (fun _ => kr)
 refine Wl.guard (v := bV ((putR 1 2 X27 4) == 20)) (((putR 1 2 xs9 5) == 0) && ((putR 1 2 X20 3) == 0)) rfl (wantT rfl ma0) rfl (fun hg53 => ?_) ?_
 ·refine Ys.at (t := 33) (v0 := iV .i64 (putR 1 2 X27 4)) (lz (g := ((putR 1 2 xs9 5) == 0) && ((putR 1 2 X20 3) == 0)) (u := undef) hg53 ma0) ?_
  exact Ys.pure (fun _ => kr)
 refine Wl.ys (v := bV ((((putR 1 2 xs9 5) == 0) && ((putR 1 2 X20 3) == 0)) && ((putR 1 2 X27 4) == 20))) rfl rfl (Ys.and (e := ((putR 1 2 xs9 5) == 0) && ((putR 1 2 X20 3) == 0)) (b := (putR 1 2 X27 4) == 20) rfl ma0 ma0 ma0) (Wl.run 1 ma0 ?_)
 refine Wl.guard (v := iV .i64 (putR 1 2 X34 5)) ((((putR 1 2 xs9 5) == 0) && ((putR 1 2 X20 3) == 0)) && ((putR 1 2 X27 4) == 20)) rfl (wantT rfl ma0) rfl (fun hg54 => ?_) ?_
 ·exact Ys.pure (fun _ => kr)
 refine Wl.guard (v := bV ((putR 1 2 X34 5) == 0)) ((((putR 1 2 xs9 5) == 0) && ((putR 1 2 X20 3) == 0)) && ((putR 1 2 X27 4) == 20)) rfl (wantT rfl ma0) rfl (fun hg55 => ?_) ?_
 ·refine Ys.at (t := 37) (v0 := iV .i64 (putR 1 2 X34 5)) (lz (g := (((putR 1 2 xs9 5) == 0) && ((putR 1 2 X20 3) == 0)) && ((putR 1 2 X27 4) == 20)) (u := undef) hg55 ma0) ?_
  exact Ys.pure (fun _ => kr)
 refine Wl.ys (v := bV (((((putR 1 2 xs9 5) == 0) && ((putR 1 2 X20 3) == 0)) && ((putR 1 2 X27 4) == 20)) && ((putR 1 2 X34 5) == 0))) rfl rfl (Ys.and (e := (((putR 1 2 xs9 5) == 0) && ((putR 1 2 X20 3) == 0)) && ((putR 1 2 X27 4) == 20)) (b := (putR 1 2 X34 5) == 0) rfl ma0 ma0 ma0) (Wl.run 1 ma0 ?_)
 refine Wl.guard (v := iV .i64 ((atN X41 0).1)) (((((putR 1 2 xs9 5) == 0) && ((putR 1 2 X20 3) == 0)) && ((putR 1 2 X27 4) == 20)) && ((putR 1 2 X34 5) == 0)) rfl (wantT rfl ma0) rfl (fun hg56 => ?_) ?_
 ·exact Ys.pure (fun _ => kr)
 refine Wl.guard (v := bV (((atN X41 0).1) == 3)) (((((putR 1 2 xs9 5) == 0) && ((putR 1 2 X20 3) == 0)) && ((putR 1 2 X27 4) == 20)) && ((putR 1 2 X34 5) == 0)) rfl (wantT rfl ma0) rfl (fun hg57 => ?_) ?_
 ·refine Ys.at (t := 41) (v0 := iV .i64 ((atN X41 0).1)) (lz (g := ((((putR 1 2 xs9 5) == 0) && ((putR 1 2 X20 3) == 0)) && ((putR 1 2 X27 4) == 20)) && ((putR 1 2 X34 5) == 0)) (u := undef) hg57 ma0) ?_
  exact Ys.pure (fun _ => kr)
 refine Wl.ys (v := bV ((((((putR 1 2 xs9 5) == 0) && ((putR 1 2 X20 3) == 0)) && ((putR 1 2 X27 4) == 20)) && ((putR 1 2 X34 5) == 0)) && (((atN X41 0).1) == 3))) rfl rfl (Ys.and (e := ((((putR 1 2 xs9 5) == 0) && ((putR 1 2 X20 3) == 0)) && ((putR 1 2 X27 4) == 20)) && ((putR 1 2 X34 5) == 0)) (b := ((atN X41 0).1) == 3) rfl ma0 ma0 ma0) (Wl.run 1 ma0 ?_)
 refine Wl.guard (v := bV (atO X41 0)) ((((((putR 1 2 xs9 5) == 0) && ((putR 1 2 X20 3) == 0)) && ((putR 1 2 X27 4) == 20)) && ((putR 1 2 X34 5) == 0)) && (((atN X41 0).1) == 3)) rfl (wantT rfl ma0) rfl (fun hg58 => ?_) ?_
 ·exact Ys.pure (fun _ => kr)
 refine Wl.ys (v := bV (((((((putR 1 2 xs9 5) == 0) && ((putR 1 2 X20 3) == 0)) && ((putR 1 2 X27 4) == 20)) && ((putR 1 2 X34 5) == 0)) && (((atN X41 0).1) == 3)) && (atO X41 0))) rfl rfl (Ys.and (e := (((((putR 1 2 xs9 5) == 0) && ((putR 1 2 X20 3) == 0)) && ((putR 1 2 X27 4) == 20)) && ((putR 1 2 X34 5) == 0)) && (((atN X41 0).1) == 3)) (b := atO X41 0) rfl ma0 ma0 ma0) (Wl.run 1 ma0 (Wl.nil (hK49 _ _ _ (W.prune' [0] [bV (((((((putR 1 2 xs9 5) == 0) && ((putR 1 2 X20 3) == 0)) && ((putR 1 2 X27 4) == 20)) && ((putR 1 2 X34 5) == 0)) && (((atN X41 0).1) == 3)) && (atO X41 0))] ma0 (fun f59 => ?_)))))
 refine W.ret ?_
 show ∀ w_, _ → bodyPostM (fence none) 0 Try.prog Try.f12 _ Exit.ret _ w_
 exact fun w_ hS_ => fin_ret (ret1 rfl (RV.tmp (v := bV (((((((putR 1 2 xs9 5) == 0) && ((putR 1 2 X20 3) == 0)) && ((putR 1 2 X27 4) == 20)) && ((putR 1 2 X34 5) == 0)) && (((atN X41 0).1) == 3)) && (atO X41 0))) ma0) hS_ ⟨by clear hK1 hK2 hK6 hK7 hK17 hK47 hK49; refine congrArg Ending.returned ?_; exact bool_congr (by subst_vars; decide +kernel), hS_.below⟩)
def op (x : Int × Int × Int) : List Value := [.int .i64 x.1, .int .i64 x.2.1, .int .i64 x.2.2]
theorem at_nat {xs : List (Int × Int)} {i : Nat} (h : i < xs.length) : atO xs (i : Int) = true ∧ atN xs (i : Int) = xs.getD i (0, 0) := by
  have ho : atO xs (i : Int) = true := by unfold atO; rw [decide_eq_false ma1, decide_eq_false ma1]; rfl
  exact ⟨ho, by unfold atN; rw [ho]; rfl⟩
theorem put_has {m : Int} {xs : List (Int × Int)} {k : Int} (h : hasK 1 xs k = true) : putR 1 m xs k = 0 ∧ putW 1 m xs k = true := by unfold putR putW; rw [h]; exact ⟨rfl, rfl⟩
theorem put_room {m : Int} {xs : List (Int × Int)} {k : Int} (h : (xs.length : Int) < m) : putW 1 m xs k = true := by unfold putW; rw [decide_eq_false ma1]; cases hasK 1 xs k <;> rfl
end Go.Proofs.Ythfagedaijoenaa.Oct
