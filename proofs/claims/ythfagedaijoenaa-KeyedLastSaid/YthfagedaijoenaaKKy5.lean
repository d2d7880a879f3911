import Derived.Test.YthfagedaijoenaaKKy4
set_option linter.unusedVariables false
set_option linter.unusedSimpArgs false
set_option maxRecDepth 20000
namespace Go.Proofs.Ythfagedaijoenaa.Oct
open Go.RowKit Base
attribute [local irreducible] Ys Yc Ht HtS HtIn Wl Wd W Mem pf dpf Wa Wo
theorem putzA_c (xs : List (Int × Int)) (g : FS) (most : Int) (tb : Nat) (M : List Nat) (k v : Int) (X : List (Int × Int)) (w : World) (hX : putX 1 most xs k v = X) (hl : Mem w M [g.seg 76 (mm pr xs), [cb tb [Value.slice g.a xs.length g.cap, Value.int .i64 most, Value.func (.func 14) #[] #[]] 74]] w) (ok : g.ok 2 xs.length) (hn : xs.length ≤ 100000) (hs : Srt 1 xs) : Calls Try.prog 16 #[.pointer (some ⟨tb, 0, none⟩), .int .i64 k, .int .i64 v] w (RetM w (fun g' : FS => g'.ok 2 X.length) (fun _ => .int .i64 (putR 1 most xs k)) M (fun g' => [g'.seg 76 (mm pr X), [cb tb [.slice g'.a X.length g'.cap, .int .i64 most, Value.func (.func 14) #[] #[]] 74]])) := by
  subst hX; exact putA_c xs g most tb M k v w hl ok hn hs
theorem dropzA_c (xs : List (Int × Int)) (g : FS) (most : Int) (tb : Nat) (M : List Nat) (k : Int) (X : List (Int × Int)) (w : World) (hX : dropK 1 xs k = X) (hl : Mem w M [g.seg 76 (mm pr xs), [cb tb [Value.slice g.a xs.length g.cap, Value.int .i64 most, Value.func (.func 14) #[] #[]] 74]] w) (ok : g.ok 2 xs.length) (hn : xs.length ≤ 100000) (hs : Srt 1 xs) : Calls Try.prog 20 #[.pointer (some ⟨tb, 0, none⟩), .int .i64 k] w (RetM w (fun g' : FS => g'.ok 2 X.length) (fun _ => .bool (hasK 1 xs k)) M (fun g' => [g'.seg 76 (mm pr X), [cb tb [.slice g'.a X.length g'.cap, .int .i64 most, Value.func (.func 14) #[] #[]] 74]])) := by
  subst hX; exact dropA_c xs g most tb M k w hl ok hn hs
theorem speaks6_c  (w : World) : Calls Try.prog 12 #[] w (Ret w (.bool true)) := by
 refine calls_W (M := []) (LL := []) (n := 47) Try.func12 rfl rfl sp (Mem.refl _) (W.seq (fun K1 hK1 => ?_))
 refine W.region (Wl.run 1 ma0 (Wl.nil (hK1 _ _ _ (W.seq (fun K2 hK2 => ?_)))))
 refine W.region (Wl.htS rfl (HtS.call (β := Nat) (k := 13) (args := #[iV .i64 2, Value.func (.func 14) #[] #[]]) (Lin := []) (Lk := []) (Mi := []) (Lo := fun tb3 => [[cb tb3 [Value.slice none 0 0, iV .i64 2, Value.func (.func 14) #[] #[]] 74]]) [] [] rfl (fun _ => kr) ma2 rfl rfl rfl (fun w_ hm_ hl_ => (newA_c 2 _)) (fun _ => rfl)) (fun tb3 _ => ?_))
 refine Wl.run 1 ma0 (Wl.nil (hK2 _ _ _ (W.prune' [1] [pV tb3 0] ma0 (fun f5 => W.seq (fun K6 hK6 => ?_)))))
 refine W.seq (fun K7 hK7 => ?_)
 obtain ⟨xs9, hx13⟩ : ∃ z : List (Int × Int), z = [] := ⟨_, rfl⟩
 obtain ⟨g8, hg12⟩ : ∃ z : FS, z = FS.nul := ⟨_, rfl⟩
 have ok10 : g8.ok 2 xs9.length := by rw [hg12, hx13]; exact FS.nul_ok 2
 have hs11 : Srt 1 xs9 := by rw [hx13]; exact List.Pairwise.nil
 have hl14 : xs9.length = 0 := by rw [hx13]; rfl
 refine W.conseq (S' := Mem w [] [g8.seg 76 (mm pr xs9), [cb tb3 [sV g8 xs9.length, iV .i64 2, Value.func (.func 14) #[] #[]] 74]]) (fun w_ h_ => Mem.cast (LL := [] :: [[cb tb3 [Value.slice none 0 0, iV .i64 2, Value.func (.func 14) #[] #[]] 74]]) (by rw [hg12, hx13]; rfl) (Mem.push h_)) (W.region (Wl.run 2 ma0 (Wl.nil (hK7 _ _ _ ?_))))
 refine W.prune' [1, 11] [pV tb3 0, bV false] ma0 (fun f15 => W.condF ma0 (W.skip' (hK6 _ _ _ (W.prune' [1] [pV tb3 0] ma0 (fun f16 => ?_)))))
 refine W.seq (fun K17 hK17 => W.region ?_)
 obtain ⟨X20, hX21⟩ : ∃ z, putX 1 2 xs9 5 1 = z := ⟨_, rfl⟩
 have hs22 : Srt 1 X20 := hX21 ▸ srt_putX sg1 hs11
 have hlx23 : X20.length ≤ xs9.length + 1 := hX21 ▸ putX_len sg1
 refine Wl.run 1 ma0 (Wl.htS rfl (HtS.call (β := FS) (k := 16) (args := #[pV tb3 0, iV .i64 5, iV .i64 1]) (Lin := [g8.seg 76 (mm pr xs9), [cb tb3 [sV g8 xs9.length, iV .i64 2, Value.func (.func 14) #[] #[]] 74]]) (Lk := []) (Lo := fun g18 => [g18.seg 76 (mm pr X20), [cb tb3 [sV g18 X20.length, iV .i64 2, Value.func (.func 14) #[] #[]] 74]]) [0, 1] [] rfl (fun _ => kr) ma2 rfl rfl rfl (fun w_ hm_ hl_ => (putzA_c xs9 g8 2 tb3 _ 5 1 X20 _ hX21 hl_ ok10 ma1 hs11)) (fun _ => rfl)) (fun g18 ok19 => ?_))
 obtain ⟨X27, hX28⟩ : ∃ z, putX 1 2 X20 3 1 = z := ⟨_, rfl⟩
 have hs29 : Srt 1 X27 := hX28 ▸ srt_putX sg1 hs22
 have hlx30 : X27.length ≤ X20.length + 1 := hX28 ▸ putX_len sg1
 refine Wl.run 1 ma0 (Wl.htS rfl (HtS.call (β := FS) (k := 16) (args := #[pV tb3 0, iV .i64 3, iV .i64 1]) (Lin := [g18.seg 76 (mm pr X20), [cb tb3 [sV g18 X20.length, iV .i64 2, Value.func (.func 14) #[] #[]] 74]]) (Lk := []) (Lo := fun g25 => [g25.seg 76 (mm pr X27), [cb tb3 [sV g25 X27.length, iV .i64 2, Value.func (.func 14) #[] #[]] 74]]) [0, 1] [] rfl (fun _ => kr) ma2 rfl rfl rfl (fun w_ hm_ hl_ => (putzA_c X20 g18 2 tb3 _ 3 1 X27 _ hX28 hl_ ok19 ma1 hs22)) (fun _ => rfl)) (fun g25 ok26 => ?_))
 obtain ⟨X34, hX35⟩ : ∃ z, putX 1 2 X27 4 1 = z := ⟨_, rfl⟩
 have hs36 : Srt 1 X34 := hX35 ▸ srt_putX sg1 hs29
 have hlx37 : X34.length ≤ X27.length + 1 := hX35 ▸ putX_len sg1
 refine Wl.run 1 ma0 (Wl.htS rfl (HtS.call (β := FS) (k := 16) (args := #[pV tb3 0, iV .i64 4, iV .i64 1]) (Lin := [g25.seg 76 (mm pr X27), [cb tb3 [sV g25 X27.length, iV .i64 2, Value.func (.func 14) #[] #[]] 74]]) (Lk := []) (Lo := fun g32 => [g32.seg 76 (mm pr X34), [cb tb3 [sV g32 X34.length, iV .i64 2, Value.func (.func 14) #[] #[]] 74]]) [0, 1] [] rfl (fun _ => kr) ma2 rfl rfl rfl (fun w_ hm_ hl_ => (putzA_c X27 g25 2 tb3 _ 4 1 X34 _ hX35 hl_ ok26 ma1 hs29)) (fun _ => rfl)) (fun g32 ok33 => ?_))
 obtain ⟨X41, hX42⟩ : ∃ z, putX 1 2 X34 5 2 = z := ⟨_, rfl⟩
 have hs43 : Srt 1 X41 := hX42 ▸ srt_putX sg1 hs36
 have hlx44 : X41.length ≤ X34.length + 1 := hX42 ▸ putX_len sg1
 refine Wl.run 1 ma0 (Wl.htS rfl (HtS.call (β := FS) (k := 16) (args := #[pV tb3 0, iV .i64 5, iV .i64 2]) (Lin := [g32.seg 76 (mm pr X34), [cb tb3 [sV g32 X34.length, iV .i64 2, Value.func (.func 14) #[] #[]] 74]]) (Lk := []) (Lo := fun g39 => [g39.seg 76 (mm pr X41), [cb tb3 [sV g39 X41.length, iV .i64 2, Value.func (.func 14) #[] #[]] 74]]) [0, 1] [] rfl (fun _ => kr) ma2 rfl rfl rfl (fun w_ hm_ hl_ => (putzA_c X34 g32 2 tb3 _ 5 2 X41 _ hX42 hl_ ok33 ma1 hs36)) (fun _ => rfl)) (fun g39 ok40 => ?_))
 refine Wl.run 4 ma0 (Wl.nil (hK17 _ _ _ (W.prune' [1, 2, 3, 4, 5] [pV tb3 0, iV .i64 (putR 1 2 xs9 5), iV .i64 (putR 1 2 X20 3), iV .i64 (putR 1 2 X27 4), iV .i64 (putR 1 2 X34 5)] ma0 (fun f46 => W.seq (fun K47 hK47 => ?_)))))
 refine W.region (Wl.run 1 ma0 (Wl.htS rfl (HtS.call (β := Unit) (k := 18) (args := #[pV tb3 0, iV .i64 0]) (Lin := [g39.seg 76 (mm pr X41), [cb tb3 [sV g39 X41.length, iV .i64 2, Value.func (.func 14) #[] #[]] 74]]) (Lk := []) (Lo := fun _u => [g39.seg 76 (mm pr X41), [cb tb3 [sV g39 X41.length, iV .i64 2, Value.func (.func 14) #[] #[]] 74]]) [0, 1] [] rfl (fun _ => kr) ma2 rfl rfl rfl (fun w_ hm_ hl_ => (atA_c X41 g39 2 tb3 _ 0 _ hl_ ok40 ma1 hs43)) (fun _ => rfl)) (fun _u _ => Wl.run 7 ma0 (Wl.nil ?_))))
 refine hK47 _ _ _ (W.pick (LL' := []) [] ma2 rfl (W.prune' [2, 3, 4, 5, 6, 8] [iV .i64 (putR 1 2 xs9 5), iV .i64 (putR 1 2 X20 3), iV .i64 (putR 1 2 X27 4), iV .i64 (putR 1 2 X34 5), iV .i64 ((atN X41 0).1), bV (atO X41 0)] ma0 (fun f49 => W.seq (fun K50 hK50 => W.region ?_))))
 refine Wl.run 3 ma0 ?_
 refine Wl.guard (v := iV .i64 (putR 1 2 X20 3)) ((putR 1 2 xs9 5) == 0) rfl (wantT rfl ma0) rfl (fun hg51 => ?_) ?_
 ·exact Ys.pure (fun _ => kr)
 refine Wl.guard (v := bV ((putR 1 2 X20 3) == 0)) ((putR 1 2 xs9 5) == 0) rfl (wantT rfl ma0) rfl (fun hg52 => ?_) ?_
 ·refine Ys.at (t := 29) (v0 := iV .i64 (putR 1 2 X20 3)) (lz (g := (putR 1 2 xs9 5) == 0) (u := undef) hg52 ma0) ?_
  exact Ys.pure (fun _ => kr)
 refine Wl.ys (v := bV (((putR 1 2 xs9 5) == 0) && ((putR 1 2 X20 3) == 0))) rfl rfl (Ys.and (e := (putR 1 2 xs9 5) == 0) (b := (putR 1 2 X20 3) == 0) rfl ma0 ma0 ma0) (Wl.run 1 ma0 ?_)
 refine Wl.guard (v := iV .i64 (putR 1 2 X27 4)) (((putR 1 2 xs9 5) == 0) && ((putR 1 2 X20 3) == 0)) rfl (wantT rfl ma0) rfl (fun hg53 => ?_) ?_
 ·exact Ys.pure (fun _ => kr)
 refine Wl.guard (v := bV ((putR 1 2 X27 4) == 20)) (((putR 1 2 xs9 5) == 0) && ((putR 1 2 X20 3) == 0)) rfl (wantT rfl ma0) rfl (fun hg54 => ?_) ?_
 ·refine Ys.at (t := 33) (v0 := iV .i64 (putR 1 2 X27 4)) (lz (g := ((putR 1 2 xs9 5) == 0) && ((putR 1 2 X20 3) == 0)) (u := undef) hg54 ma0) ?_
  exact Ys.pure (fun _ => kr)
 refine Wl.ys (v := bV ((((putR 1 2 xs9 5) == 0) && ((putR 1 2 X20 3) == 0)) && ((putR 1 2 X27 4) == 20))) rfl rfl (Ys.and (e := ((putR 1 2 xs9 5) == 0) && ((putR 1 2 X20 3) == 0)) (b := (putR 1 2 X27 4) == 20) rfl ma0 ma0 ma0) (Wl.run 1 ma0 ?_)
 refine Wl.guard (v := iV .i64 (putR 1 2 X34 5)) ((((putR 1 2 xs9 5) == 0) && ((putR 1 2 X20 3) == 0)) && ((putR 1 2 X27 4) == 20)) rfl (wantT rfl ma0) rfl (fun hg55 => ?_) ?_
 ·exact Ys.pure (fun _ => kr)
 refine Wl.guard (v := bV ((putR 1 2 X34 5) == 0)) ((((putR 1 2 xs9 5) == 0) && ((putR 1 2 X20 3) == 0)) && ((putR 1 2 X27 4) == 20)) rfl (wantT rfl ma0) rfl (fun hg56 => ?_) ?_
 ·refine Ys.at (t := 37) (v0 := iV .i64 (putR 1 2 X34 5)) (lz (g := (((putR 1 2 xs9 5) == 0) && ((putR 1 2 X20 3) == 0)) && ((putR 1 2 X27 4) == 20)) (u := undef) hg56 ma0) ?_
  exact Ys.pure (fun _ => kr)
 refine Wl.ys (v := bV (((((putR 1 2 xs9 5) == 0) && ((putR 1 2 X20 3) == 0)) && ((putR 1 2 X27 4) == 20)) && ((putR 1 2 X34 5) == 0))) rfl rfl (Ys.and (e := (((putR 1 2 xs9 5) == 0) && ((putR 1 2 X20 3) == 0)) && ((putR 1 2 X27 4) == 20)) (b := (putR 1 2 X34 5) == 0) rfl ma0 ma0 ma0) (Wl.run 1 ma0 ?_)
 refine Wl.guard (v := iV .i64 ((atN X41 0).1)) (((((putR 1 2 xs9 5) == 0) && ((putR 1 2 X20 3) == 0)) && ((putR 1 2 X27 4) == 20)) && ((putR 1 2 X34 5) == 0)) rfl (wantT rfl ma0) rfl (fun hg57 => ?_) ?_
 ·exact Ys.pure (fun _ => kr)
 refine Wl.guard (v := bV (((atN X41 0).1) == 3)) (((((putR 1 2 xs9 5) == 0) && ((putR 1 2 X20 3) == 0)) && ((putR 1 2 X27 4) == 20)) && ((putR 1 2 X34 5) == 0)) rfl (wantT rfl ma0) rfl (fun hg58 => ?_) ?_
 ·refine Ys.at (t := 41) (v0 := iV .i64 ((atN X41 0).1)) (lz (g := ((((putR 1 2 xs9 5) == 0) && ((putR 1 2 X20 3) == 0)) && ((putR 1 2 X27 4) == 20)) && ((putR 1 2 X34 5) == 0)) (u := undef) hg58 ma0) ?_
  exact Ys.pure (fun _ => kr)
 refine Wl.ys (v := bV ((((((putR 1 2 xs9 5) == 0) && ((putR 1 2 X20 3) == 0)) && ((putR 1 2 X27 4) == 20)) && ((putR 1 2 X34 5) == 0)) && (((atN X41 0).1) == 3))) rfl rfl (Ys.and (e := ((((putR 1 2 xs9 5) == 0) && ((putR 1 2 X20 3) == 0)) && ((putR 1 2 X27 4) == 20)) && ((putR 1 2 X34 5) == 0)) (b := ((atN X41 0).1) == 3) rfl ma0 ma0 ma0) (Wl.run 1 ma0 ?_)
 refine Wl.guard (v := bV (atO X41 0)) ((((((putR 1 2 xs9 5) == 0) && ((putR 1 2 X20 3) == 0)) && ((putR 1 2 X27 4) == 20)) && ((putR 1 2 X34 5) == 0)) && (((atN X41 0).1) == 3)) rfl (wantT rfl ma0) rfl (fun hg59 => ?_) ?_
 ·exact Ys.pure (fun _ => kr)
 refine Wl.ys (v := bV (((((((putR 1 2 xs9 5) == 0) && ((putR 1 2 X20 3) == 0)) && ((putR 1 2 X27 4) == 20)) && ((putR 1 2 X34 5) == 0)) && (((atN X41 0).1) == 3)) && (atO X41 0))) rfl rfl (Ys.and (e := (((((putR 1 2 xs9 5) == 0) && ((putR 1 2 X20 3) == 0)) && ((putR 1 2 X27 4) == 20)) && ((putR 1 2 X34 5) == 0)) && (((atN X41 0).1) == 3)) (b := atO X41 0) rfl ma0 ma0 ma0) (Wl.run 1 ma0 (Wl.nil (hK50 _ _ _ (W.prune' [0] [bV (((((((putR 1 2 xs9 5) == 0) && ((putR 1 2 X20 3) == 0)) && ((putR 1 2 X27 4) == 20)) && ((putR 1 2 X34 5) == 0)) && (((atN X41 0).1) == 3)) && (atO X41 0))] ma0 (fun f60 => ?_)))))
 refine W.ret ?_
 show ∀ w_, _ → bodyPostM (fence none) 0 Try.prog Try.f12 _ Exit.ret _ w_
 exact fun w_ hS_ => fin_ret (ret1 rfl (RV.tmp (v := bV (((((((putR 1 2 xs9 5) == 0) && ((putR 1 2 X20 3) == 0)) && ((putR 1 2 X27 4) == 20)) && ((putR 1 2 X34 5) == 0)) && (((atN X41 0).1) == 3)) && (atO X41 0))) ma0) hS_ ⟨by clear hK1 hK2 hK6 hK7 hK17 hK47 hK50; refine congrArg Ending.returned ?_; exact bool_congr (by subst_vars; decide +kernel), hS_.below⟩)
def op (x : Int × Int × Int) : List Value := [.int .i64 x.1, .int .i64 x.2.1, .int .i64 x.2.2]
theorem mem_self {m : Int} {xs : List (Int × Int)} {k v : Int} (hs : Srt 1 xs) (hW : putW 1 m xs k = true) : (k, v) ∈ putX 1 m xs k v := (mem_putX sg1 hs hW _).2 (.inl rfl)
theorem mem_stays {m : Int} {xs : List (Int × Int)} {k v k' v' : Int} (hs : Srt 1 xs) (h : (k, v) ∈ xs) (hk : k' ≠ k) : (k, v) ∈ putX 1 m xs k' v' := by
  cases hW : putW 1 m xs k'
  · rw [putX_not hW]; exact h
  · exact (mem_putX sg1 hs hW _).2 (.inr ⟨h, fun e => hk e.symm⟩)
theorem has_of {xs : List (Int × Int)} {k v : Int} (hs : Srt 1 xs) (h : (k, v) ∈ xs) : hasK 1 xs k = true := (hasK_mem sg1 hs).2 ⟨v, h⟩
theorem not_has {xs : List (Int × Int)} {k : Int} (hs : Srt 1 xs) : hasK 1 (dropK 1 xs k) k = false := by
  cases h : hasK 1 (dropK 1 xs k) k
  · rfl
  · obtain ⟨v, hv⟩ := (hasK_mem sg1 (srt_dropK sg1 hs)).1 h
    exact absurd rfl ((mem_dropK sg1 hs _).1 hv).2
theorem put_has {m : Int} {xs : List (Int × Int)} {k : Int} (h : hasK 1 xs k = true) : putR 1 m xs k = 0 ∧ putW 1 m xs k = true := by unfold putR putW; rw [h]; exact ⟨rfl, rfl⟩
theorem put_room {m : Int} {xs : List (Int × Int)} {k : Int} (h : (xs.length : Int) < m) : putW 1 m xs k = true := by unfold putW; rw [decide_eq_false ma1]; cases hasK 1 xs k <;> rfl
theorem putX_len_has {m : Int} {xs : List (Int × Int)} {k v : Int} (h : hasK 1 xs k = true) : (putX 1 m xs k v).length = xs.length := by unfold putX; rw [h]; show (putK 1 xs k v).length = _; rw [putK_len sg1, h]; rfl
theorem drop_len_has {xs : List (Int × Int)} {k : Int} (h : hasK 1 xs k = true) : (dropK 1 xs k).length = xs.length - 1 := by rw [dropK_len, h]; rfl
theorem lastlaw_c (os : List (Int × Int × Int)) (a : Option Addr) (cap : Nat) (k v : Int) (w : World) (hat : At w a (mm op os)) (hol : os.length ≤ 9223372036854775807) : Calls Try.prog 4 #[Value.slice a os.length cap, iV .i64 k, iV .i64 v] w (Ret w (.bool true)) := by
 refine calls_W (M := []) (LL := []) (n := 96) Try.func4 rfl rfl sp (Mem.refl _) (W.seq (fun K1 hK1 => ?_))
 refine W.region (Wl.run 1 ma0 (Wl.nil (hK1 _ _ _ (W.seq (fun K2 hK2 => ?_)))))
 refine W.seq (fun K3 hK3 => W.region (Wl.yc (v := bV true) rfl rfl (Yc.call (fun _ => kr) (fun w_ hm_ => (speaks6_c _))) (Wl.run 1 ma0 (Wl.nil ?_))))
 refine hK3 _ _ _ (W.prune' [0, 1, 2, 17] [Value.slice a os.length cap, iV .i64 k, iV .i64 v, bV false] ma0 (fun f4 => ?_))
 refine W.condF ma0 (W.skip' (hK2 _ _ _ (W.prune' [0, 1, 2] [Value.slice a os.length cap, iV .i64 k, iV .i64 v] ma0 (fun f5 => W.seq (fun K6 hK6 => ?_)))))
 refine W.seq (fun K7 hK7 => W.region (Wl.run 3 ma0 (Wl.nil (hK7 _ _ _ ?_))))
 refine W.prune' [0, 1, 2, 20] [Value.slice a os.length cap, iV .i64 k, iV .i64 v, bV (decide (((os.length : Nat) : Int) > 200))] ma0 (fun f8 => ?_)
 refine W.cond (decide (((os.length : Nat) : Int) > 200)) ma0 (fun h9 => ?_) (fun h10 => ?_)
 ·refine W.seq (fun K11 hK11 => W.region (Wl.run 1 ma0 (Wl.nil (hK11 _ _ _ ?_))))
  refine W.ret ?_
  show ∀ w_, _ → bodyPostM (fence none) 0 Try.prog Try.f4 _ Exit.ret _ w_
  exact fun w_ hS_ => fin_ret (ret1 rfl (RV.tmp (v := bV true) ma0) hS_ ⟨rfl, hS_.below⟩)
 ·have qh10 := h10; try simp only [zA] at qh10
  refine W.skip' (hK6 _ _ _ (W.prune' [0, 1, 2] [Value.slice a os.length cap, iV .i64 k, iV .i64 v] ma0 (fun f12 => W.seq (fun K13 hK13 => W.region ?_))))
  refine Wl.htS rfl (HtS.call (β := Nat) (k := 13) (args := #[iV .i64 300, Value.func (.func 14) #[] #[]]) (Lin := []) (Lk := []) (Mi := []) (Lo := fun tb14 => [[cb tb14 [Value.slice none 0 0, iV .i64 300, Value.func (.func 14) #[] #[]] 74]]) [] [] rfl (fun _ => kr) ma2 rfl rfl rfl (fun w_ hm_ hl_ => (newA_c 300 _)) (fun _ => rfl)) (fun tb14 _ => Wl.run 1 ma0 (Wl.nil (hK13 _ _ _ (W.prune' [0, 1, 2, 7] [Value.slice a os.length cap, iV .i64 k, iV .i64 v, pV tb14 0] ma0 (fun f16 => ?_)))))
  refine W.seq (fun K17 hK17 => W.seq (fun K18 hK18 => ?_))
  obtain ⟨xs20, hx24⟩ : ∃ z : List (Int × Int), z = [] := ⟨_, rfl⟩
  obtain ⟨g19, hg23⟩ : ∃ z : FS, z = FS.nul := ⟨_, rfl⟩
  have ok21 : g19.ok 2 xs20.length := by rw [hg23, hx24]; exact FS.nul_ok 2
  have hs22 : Srt 1 xs20 := by rw [hx24]; exact List.Pairwise.nil
  have hl25 : xs20.length = 0 := by rw [hx24]; rfl
  refine W.conseq (S' := Mem w [] [g19.seg 76 (mm pr xs20), [cb tb14 [sV g19 xs20.length, iV .i64 300, Value.func (.func 14) #[] #[]] 74]]) (fun w_ h_ => Mem.cast (LL := [] :: [[cb tb14 [Value.slice none 0 0, iV .i64 300, Value.func (.func 14) #[] #[]] 74]]) (by rw [hg23, hx24]; rfl) (Mem.push h_)) (W.region (Wl.run 2 ma0 (Wl.nil (hK18 _ _ _ ?_))))
  refine W.prune' [0, 1, 2, 7, 23] [Value.slice a os.length cap, iV .i64 k, iV .i64 v, pV tb14 0, bV false] ma0 (fun f26 => W.condF ma0 (W.skip' (hK17 _ _ _ (W.prune' [0, 1, 2, 7] [Value.slice a os.length cap, iV .i64 k, iV .i64 v, pV tb14 0] ma0 (fun f27 => ?_)))))
  refine W.seq (fun K28 hK28 => W.region ?_)
  obtain ⟨X31, hX32⟩ : ∃ z, putX 1 300 xs20 k 5 = z := ⟨_, rfl⟩
  have hs33 : Srt 1 X31 := hX32 ▸ srt_putX sg1 hs22
  have hlx34 : X31.length ≤ xs20.length + 1 := hX32 ▸ putX_len sg1
  refine Wl.run 2 ma0 (Wl.htS rfl (HtS.call (β := FS) (k := 16) (args := #[pV tb14 0, iV .i64 k, iV .i64 5]) (Lin := [g19.seg 76 (mm pr xs20), [cb tb14 [sV g19 xs20.length, iV .i64 300, Value.func (.func 14) #[] #[]] 74]]) (Lk := []) (Lo := fun g29 => [g29.seg 76 (mm pr X31), [cb tb14 [sV g29 X31.length, iV .i64 300, Value.func (.func 14) #[] #[]] 74]]) [0, 1] [] rfl (fun _ => kr) ma2 rfl rfl rfl (fun w_ hm_ hl_ => (putzA_c xs20 g19 300 tb14 _ k 5 X31 _ hX32 hl_ ok21 ma1 hs22)) (fun _ => rfl)) (fun g29 ok30 => ?_))
  refine Wl.nil (hK28 _ _ _ (W.prune' [0, 1, 2, 7] [Value.slice a os.length cap, iV .i64 k, iV .i64 v, pV tb14 0] ma0 (fun f36 => W.seq (fun K37 hK37 => W.region ?_))))
  refine Wl.run 1 ma0 (Wl.nil (hK37 _ _ _ (W.seq (fun K38 hK38 => W.seq (fun K39 hK39 => ?_)))))
  refine W.region (Wl.run 3 ma0 (Wl.nil (hK39 _ _ _ (W.prune' [1, 2, 7, 8, 27, 28, 29] [iV .i64 k, iV .i64 v, pV tb14 0, iV .i64 0, Value.slice a os.length cap, nV .i64 os.length, iV .i64 0] ma0 (fun f40 => ?_)))))
  refine W.block (W.loop4 [1, 2, 7, 8, 27, 28, 29] (fun (i : Nat) (n : Nat) (xs : List (Int × Int)) (g : FS) => [iV .i64 k, iV .i64 v, pV tb14 0, nV .i64 n, Value.slice a os.length cap, nV .i64 os.length, nV .i64 i]) (fun (i : Nat) (n : Nat) (xs : List (Int × Int)) (g : FS) => i ≤ os.length ∧ g.ok 2 xs.length ∧ Srt 1 xs ∧ (k, 5) ∈ xs ∧ xs.length ≤ n + 1 ∧ n ≤ i) (fun (i : Nat) (n : Nat) (xs : List (Int × Int)) (g : FS) => [g.seg 76 (mm pr xs), [cb tb14 [sV g xs.length, iV .i64 300, Value.func (.func 14) #[] #[]] 74]]) (fun (i : Nat) (n : Nat) (xs : List (Int × Int)) (g : FS) => os.length - i) 0 0 X31 g29 ma0 ⟨(Nat.zero_le _), ok30, hs33, (hX32 ▸ mem_self hs22 (put_room ma1)), ma1, (Nat.le_refl _)⟩ (by rfl) (fun i n xs g f42 J41 hp43 hJ41 => ?_))
  obtain ⟨hi, ok, hs, hm, hlx, hni⟩ := hp43
  refine W.seq (fun K44 hK44 => W.region (Wl.run 1 ma0 (Wl.nil (hK44 _ _ _ ?_))))
  refine W.seq (fun K45 hK45 => ?_)
  refine W.cond (decide (((i : Nat) : Int) < (os.length : Int))) ma0 (fun h46 => ?_) (fun h47 => ?_)
  ·have qh46 := h46; try simp only [zA] at qh46
   refine W.skip' (hK45 _ _ _ (W.prune' [1, 2, 7, 8, 27, 28, 29] [iV .i64 k, iV .i64 v, pV tb14 0, nV .i64 n, Value.slice a os.length cap, nV .i64 os.length, nV .i64 i] ma0 (fun f48 => W.seq (fun K49 hK49 => W.block ?_))))
   refine W.seq (fun K50 hK50 => W.region (Wl.ys (v := Value.pointer (some (ela a (i * 3)))) rfl rfl (Ys.byMem fun w_ h_ => Ys.indexAddr (k := .i64) (a := a) (len := os.length) (cap := cap) (i := (i : Int)) (sz := 3) rfl ma0 ma0 Try.runUnderlying22 Try.sizeOf28 ma1 ma1 ((hat.mem0 h_).here (by rw [mm_len (g := op) (sz := 3) (fun _ => rfl)]; first | omega | (simp; omega)))) (Wl.ys (v := aV [iV .i64 ((os.getD i (0, 0, 0)).1), iV .i64 ((os.getD i (0, 0, 0)).2.1), iV .i64 ((os.getD i (0, 0, 0)).2.2)]) rfl rfl (Ys.ldN (a := ela a (i * 3)) (vs := [iV .i64 ((os.getD i (0, 0, 0)).1), iV .i64 ((os.getD i (0, 0, 0)).2.1), iV .i64 ((os.getD i (0, 0, 0)).2.2)]) rfl ma0 Try.isAgg28 Try.sizeOf28 rfl (fun w_ h_ => (hat.mem0 h_).ldN (mm_get (g := op) (sz := 3) (fun _ => rfl) (0, 0, 0) (xs := os) (k := i) ma1))) (Wl.ht rfl (Ht.alloc (z := aV [iV .i64 0, iV .i64 0, iV .i64 0]) (cs := [iV .i64 0, iV .i64 0, iV .i64 0]) rfl rfl Try.zeroValue28 rfl) (fun p10 => ?_)))))
   refine Wl.ht rfl (Ht.storeN (b := p10) (o' := 0) (i := 0) (j := 0) (vs := [iV .i64 ((os.getD i (0, 0, 0)).1), iV .i64 ((os.getD i (0, 0, 0)).2.1), iV .i64 ((os.getD i (0, 0, 0)).2.2)]) (LL' := [[cb p10 [iV .i64 ((os.getD i (0, 0, 0)).1), iV .i64 ((os.getD i (0, 0, 0)).2.1), iV .i64 ((os.getD i (0, 0, 0)).2.2)] 28], g.seg 76 (mm pr xs), [cb tb14 [sV g xs.length, iV .i64 300, Value.func (.func 14) #[] #[]] 74]]) rfl rfl ma0 ma0 Try.sizeOf28 (by simp [Value.oneCell']) rfl rfl sp rfl rfl) (fun _ => Wl.nil (hK50 _ _ _ (W.prune' [1, 2, 7, 8, 10, 27, 28, 29] [iV .i64 k, iV .i64 v, pV tb14 0, nV .i64 n, pV p10 0, Value.slice a os.length cap, nV .i64 os.length, nV .i64 i] ma0 (fun f51 => W.seq (fun K52 hK52 => ?_)))))
   refine W.region (Wl.run 1 ma0 (Wl.ys rfl rfl (Ys.l1 p10 1 0 0 Try.isAgg3) (Wl.run 2 ma0 (Wl.nil ?_))))
   refine hK52 _ _ _ (W.prune' [1, 2, 7, 8, 10, 27, 28, 29, 36] [iV .i64 k, iV .i64 v, pV tb14 0, nV .i64 n, pV p10 0, Value.slice a os.length cap, nV .i64 os.length, nV .i64 i, bV (((os.getD i (0, 0, 0)).2.1) != k)] ma0 (fun f53 => ?_))
   refine W.cond (((os.getD i (0, 0, 0)).2.1) != k) ma0 (fun h54 => ?_) (fun h55 => ?_)
   ·have qh54 := h54; try simp only [zA] at qh54
    refine W.seq (fun K56 hK56 => W.region (Wl.run 2 ma0 (Wl.ys rfl rfl (Ys.l1 p10 1 0 0 Try.isAgg3) (Wl.run 1 ma0 ?_))))
    refine Wl.ys rfl rfl (Ys.l1 p10 2 0 0 Try.isAgg3) ?_
    obtain ⟨X59, hX60⟩ : ∃ z, putX 1 300 xs ((os.getD i (0, 0, 0)).2.1) ((os.getD i (0, 0, 0)).2.2) = z := ⟨_, rfl⟩
    have hs61 : Srt 1 X59 := hX60 ▸ srt_putX sg1 hs
    have hlx62 : X59.length ≤ xs.length + 1 := hX60 ▸ putX_len sg1
    refine Wl.htS rfl (HtS.call (β := FS) (k := 16) (args := #[pV tb14 0, iV .i64 ((os.getD i (0, 0, 0)).2.1), iV .i64 ((os.getD i (0, 0, 0)).2.2)]) (Lin := [g.seg 76 (mm pr xs), [cb tb14 [sV g xs.length, iV .i64 300, Value.func (.func 14) #[] #[]] 74]]) (Lk := [[cb p10 [iV .i64 ((os.getD i (0, 0, 0)).1), iV .i64 ((os.getD i (0, 0, 0)).2.1), iV .i64 ((os.getD i (0, 0, 0)).2.2)] 28]]) (Lo := fun g57 => [g57.seg 76 (mm pr X59), [cb tb14 [sV g57 X59.length, iV .i64 300, Value.func (.func 14) #[] #[]] 74], [cb p10 [iV .i64 ((os.getD i (0, 0, 0)).1), iV .i64 ((os.getD i (0, 0, 0)).2.1), iV .i64 ((os.getD i (0, 0, 0)).2.2)] 28]]) [1, 2] [0] rfl (fun _ => kr) ma2 rfl rfl rfl (fun w_ hm_ hl_ => (putzA_c xs g 300 tb14 _ ((os.getD i (0, 0, 0)).2.1) ((os.getD i (0, 0, 0)).2.2) X59 _ hX60 hl_ ok ma1 hs)) (fun _ => rfl)) (fun g57 ok58 => Wl.nil (hK56 _ _ _ (W.pick (LL' := [g57.seg 76 (mm pr X59), [cb tb14 [sV g57 X59.length, iV .i64 300, Value.func (.func 14) #[] #[]] 74]]) [0, 1] ma2 rfl (W.prune' [1, 2, 7, 8, 27, 28, 29] [iV .i64 k, iV .i64 v, pV tb14 0, nV .i64 n, Value.slice a os.length cap, nV .i64 os.length, nV .i64 i] ma0 (fun f64 => ?_)))))
    refine W.region (Wl.run 1 ma0 (Wl.ys (v := nV .i64 (n + 1)) rfl rfl ((Ys.pure (v := .int .i64 (iadd .i64 (n : Int) 1)) (fun _ => kr)).conseq (int_congr (iadd_eq ma1 ma1 ma1))) (Wl.run 1 ma0 (Wl.nil ?_))))
    refine hK49 _ _ _ (W.prune' [1, 2, 7, 8, 27, 28, 29] [iV .i64 k, iV .i64 v, pV tb14 0, nV .i64 (n + 1), Value.slice a os.length cap, nV .i64 os.length, nV .i64 i] ma0 (fun f65 => ?_))
    refine W.region (Wl.ys (v := nV .i64 (i + 1)) rfl rfl ((Ys.pure (v := .int .i64 (iadd .i64 (i : Int) 1)) (fun _ => kr)).conseq (int_congr (iadd_eq ma1 ma1 ma1))) (Wl.run 1 ma0 (Wl.nil ?_)))
    refine fun w_ h_ => hJ41 (i + 1) (n + 1) X59 g57 _ w_ ma1 ⟨ma1, ok58, hs61, (hX60 ▸ mem_stays hs hm qh54), ma1, ma1⟩ ?_ h_
    kernel_rfl
   ·have qh55 := h55; try simp only [zA] at qh55
    refine W.skip' (hK49 _ _ _ (W.pick (LL' := [g.seg 76 (mm pr xs), [cb tb14 [sV g xs.length, iV .i64 300, Value.func (.func 14) #[] #[]] 74]]) [1, 2] ma2 rfl (W.prune' [1, 2, 7, 8, 27, 28, 29] [iV .i64 k, iV .i64 v, pV tb14 0, nV .i64 n, Value.slice a os.length cap, nV .i64 os.length, nV .i64 i] ma0 (fun f66 => W.region ?_))))
    refine Wl.ys (v := nV .i64 (i + 1)) rfl rfl ((Ys.pure (v := .int .i64 (iadd .i64 (i : Int) 1)) (fun _ => kr)).conseq (int_congr (iadd_eq ma1 ma1 ma1))) (Wl.run 1 ma0 (Wl.nil ?_))
    refine fun w_ h_ => hJ41 (i + 1) n xs g _ w_ ma1 ⟨ma1, ok, hs, hm, ma1, ma1⟩ ?_ h_
    kernel_rfl
  ·have qh47 := h47; try simp only [zA] at qh47
   refine W.exit (hK38 _ _ _ (W.prune' [1, 2, 7, 8] [iV .i64 k, iV .i64 v, pV tb14 0, nV .i64 n] ma0 (fun f67 => W.seq (fun K68 hK68 => ?_))))
   have hgk_ := getK_mem sg1 hs hm
   have hh_ := has_of hs hm
   obtain ⟨hpr_, hpw_⟩ := put_has (m := 300) hh_
   obtain ⟨XA71, hX69⟩ : ∃ z, putX 1 300 xs k v = z := ⟨_, rfl⟩
   have hs70 : Srt 1 XA71 := hX69 ▸ srt_putX sg1 hs
   have hlx72 : XA71.length ≤ xs.length + 1 := hX69 ▸ putX_len sg1
   have hm2_ : (k, v) ∈ XA71 := hX69 ▸ mem_self hs hpw_
   have hgk2_ := getK_mem sg1 hs70 hm2_
   have hh2_ := has_of hs70 hm2_
   have hlz_ : XA71.length = xs.length := hX69 ▸ putX_len_has hh_
   obtain ⟨XB75, hX73⟩ : ∃ z, dropK 1 XA71 k = z := ⟨_, rfl⟩
   have hs74 : Srt 1 XB75 := hX73 ▸ srt_dropK sg1 hs70
   have hlx76 : XB75.length ≤ XA71.length := hX73 ▸ dropK_le
   have hnh_ : hasK 1 XB75 k = false := hX73 ▸ not_has hs70
   have hlz2_ : XB75.length = XA71.length - 1 := hX73 ▸ drop_len_has hh2_
   refine W.region (Wl.run 2 ma0 (Wl.htS rfl (HtS.call (β := Unit) (k := 19) (args := #[pV tb14 0, iV .i64 k]) (Lin := [g.seg 76 (mm pr xs), [cb tb14 [sV g xs.length, iV .i64 300, Value.func (.func 14) #[] #[]] 74]]) (Lk := []) (Lo := fun _u => [g.seg 76 (mm pr xs), [cb tb14 [sV g xs.length, iV .i64 300, Value.func (.func 14) #[] #[]] 74]]) [0, 1] [] rfl (fun _ => kr) ma2 rfl rfl rfl (fun w_ hm_ hl_ => (getA_c xs g 300 tb14 _ k _ hl_ ok ma1 hs)) (fun _ => rfl)) (fun _u _ => Wl.run 2 ma0 (Wl.ys (v := bV true) rfl rfl ((Ys.pure (v := bV (hasK 1 xs k)) (fun _ => kr)).conseq (bool_congr (hh_))) ?_))))
   refine Wl.run 2 ma0 (Wl.nil (hK68 _ _ _ (W.prune' [1, 2, 7, 8, 11, 12] [iV .i64 k, iV .i64 v, pV tb14 0, nV .i64 n, iV .i64 (getK 1 xs k), bV true] ma0 (fun f78 => W.seq (fun K79 hK79 => ?_)))))
   refine W.region (Wl.run 3 ma0 (Wl.htS rfl (HtS.call (β := FS) (k := 16) (args := #[pV tb14 0, iV .i64 k, iV .i64 v]) (Lin := [g.seg 76 (mm pr xs), [cb tb14 [sV g xs.length, iV .i64 300, Value.func (.func 14) #[] #[]] 74]]) (Lk := []) (Lo := fun g80 => [g80.seg 76 (mm pr XA71), [cb tb14 [sV g80 XA71.length, iV .i64 300, Value.func (.func 14) #[] #[]] 74]]) [0, 1] [] rfl (fun _ => kr) ma2 rfl rfl rfl (fun w_ hm_ hl_ => (putzA_c xs g 300 tb14 _ k v XA71 _ hX69 hl_ ok ma1 hs)) (fun _ => rfl)) (fun g80 ok81 => Wl.run 1 ma0 (Wl.nil ?_))))
   refine hK79 _ _ _ (W.prune' [1, 2, 7, 8, 11, 12, 13] [iV .i64 k, iV .i64 v, pV tb14 0, nV .i64 n, iV .i64 (getK 1 xs k), bV true, iV .i64 (putR 1 300 xs k)] ma0 (fun f83 => ?_))
   refine W.seq (fun K84 hK84 => W.region (Wl.run 2 ma0 (Wl.htS rfl (HtS.call (β := Unit) (k := 19) (args := #[pV tb14 0, iV .i64 k]) (Lin := [g80.seg 76 (mm pr XA71), [cb tb14 [sV g80 XA71.length, iV .i64 300, Value.func (.func 14) #[] #[]] 74]]) (Lk := []) (Lo := fun _u => [g80.seg 76 (mm pr XA71), [cb tb14 [sV g80 XA71.length, iV .i64 300, Value.func (.func 14) #[] #[]] 74]]) [0, 1] [] rfl (fun _ => kr) ma2 rfl rfl rfl (fun w_ hm_ hl_ => (getA_c XA71 g80 300 tb14 _ k _ hl_ ok81 ma1 hs70)) (fun _ => rfl)) (fun _u _ => Wl.run 2 ma0 ?_))))
   refine Wl.ys (v := bV true) rfl rfl ((Ys.pure (v := bV (hasK 1 XA71 k)) (fun _ => kr)).conseq (bool_congr (hh2_))) (Wl.run 2 ma0 (Wl.nil (hK84 _ _ _ (W.prune' [1, 2, 7, 8, 11, 12, 13, 14, 15] [iV .i64 k, iV .i64 v, pV tb14 0, nV .i64 n, iV .i64 (getK 1 xs k), bV true, iV .i64 (putR 1 300 xs k), iV .i64 (getK 1 XA71 k), bV true] ma0 (fun f86 => ?_)))))
   refine W.seq (fun K87 hK87 => W.region (Wl.run 1 ma0 (Wl.ys (v := bV true) rfl rfl ((Ys.pure (v := bV ((getK 1 xs k) == 5)) (fun _ => kr)).conseq (bool_congr (by rw [hgk_]; rfl))) (Wl.run 1 ma0 ?_))))
   refine Wl.guard (v := bV true) (true) rfl ma0 rfl (fun _ => Ys.pure (fun _ => kr)) (Wl.run 2 ma0 (Wl.guard (v := iV .i64 (putR 1 300 xs k)) (true) rfl ma0 rfl (fun _ => Ys.pure (fun _ => kr)) (Wl.guard (v := bV true) (true) rfl ma0 rfl (fun _ => (Ys.pure (v := bV ((putR 1 300 xs k) == 0)) (fun _ => kr)).conseq (bool_congr (by rw [hpr_]; rfl))) (Wl.run 2 ma0 ?_))))
   refine Wl.guard (v := iV .i64 (getK 1 XA71 k)) (true) rfl ma0 rfl (fun _ => Ys.pure (fun _ => kr)) (Wl.guard (v := iV .i64 v) (true) rfl ma0 rfl (fun _ => Ys.pure (fun _ => kr)) (Wl.guard (v := bV true) (true) rfl ma0 rfl (fun _ => (Ys.pure (v := bV ((getK 1 XA71 k) == v)) (fun _ => kr)).conseq (bool_congr (by rw [hgk2_]; simp))) (Wl.run 2 ma0 (Wl.guard (v := bV true) (true) rfl ma0 rfl (fun _ => Ys.pure (fun _ => kr)) ?_))))
   refine Wl.run 2 ma0 (Wl.guard (v := pV tb14 0) (true) rfl ma0 rfl (fun _ => Ys.pure (fun _ => kr)) (Wl.guard (v := iV .i64 k) (true) rfl ma0 rfl (fun _ => Ys.pure (fun _ => kr)) (Wl.htwS rfl ma0 (HtS.call (β := FS) (k := 20) (args := #[pV tb14 0, iV .i64 k]) (Lin := [g80.seg 76 (mm pr XA71), [cb tb14 [sV g80 XA71.length, iV .i64 300, Value.func (.func 14) #[] #[]] 74]]) (Lk := []) (Lo := fun g88 => [g88.seg 76 (mm pr XB75), [cb tb14 [sV g88 XB75.length, iV .i64 300, Value.func (.func 14) #[] #[]] 74]]) [0, 1] [] rfl (fun _ => kr) ma2 rfl rfl rfl (fun w_ hm_ hl_ => (dropzA_c XA71 g80 300 tb14 _ k XB75 _ hX73 hl_ ok81 ma1 hs70)) (fun _ => rfl)) (fun g88 ok89 => Wl.ys (v := bV true) rfl rfl ((Ys.pure (v := bV (hasK 1 XA71 k)) (fun _ => kr)).conseq (bool_congr (hh2_))) ?_))))
   refine Wl.run 1 ma0 (Wl.guard (v := pV tb14 0) (true) rfl ma0 rfl (fun _ => Ys.pure (fun _ => kr)) (Wl.guard (v := iV .i64 k) (true) rfl ma0 rfl (fun _ => Ys.pure (fun _ => kr)) ?_))
   obtain ⟨X93, hX94⟩ : ∃ z, dropK 1 XB75 k = z := ⟨_, rfl⟩
   have hs95 : Srt 1 X93 := hX94 ▸ srt_dropK sg1 hs74
   have hlx96 : X93.length ≤ XB75.length := hX94 ▸ dropK_le
   refine Wl.htwS rfl ma0 (HtS.call (β := FS) (k := 20) (args := #[pV tb14 0, iV .i64 k]) (Lin := [g88.seg 76 (mm pr XB75), [cb tb14 [sV g88 XB75.length, iV .i64 300, Value.func (.func 14) #[] #[]] 74]]) (Lk := []) (Lo := fun g91 => [g91.seg 76 (mm pr X93), [cb tb14 [sV g91 X93.length, iV .i64 300, Value.func (.func 14) #[] #[]] 74]]) [0, 1] [] rfl (fun _ => kr) ma2 rfl rfl rfl (fun w_ hm_ hl_ => (dropzA_c XB75 g88 300 tb14 _ k X93 _ hX94 hl_ ok89 ma1 hs74)) (fun _ => rfl)) (fun g91 ok92 => Wl.guard (v := bV (!(hasK 1 XB75 k))) (true) rfl ma0 rfl (fun _ => Ys.pure (fun _ => kr)) (Wl.run 2 ma0 ?_))
   refine Wl.guard (v := pV tb14 0) (!(hasK 1 XB75 k)) rfl (wantT rfl ma0) rfl (fun hg98 => ?_) ?_
   ·exact Ys.pure (fun _ => kr)
   refine Wl.split (!(hasK 1 XB75 k)) (fun h99 => ?_) (fun h100 => ?_)
   ·refine Wl.at 88 (v0 := .bool true) (boolv (e := !(hasK 1 XB75 k)) ma0 h99) (Wl.at 89 (v0 := .bool true) (boolv (e := !(hasK 1 XB75 k)) ma0 h99) (Wl.at 90 (v0 := .bool true) (boolv (e := !(hasK 1 XB75 k)) ma0 h99) (Wl.at 91 (v0 := pV tb14 0) (lz (g := !(hasK 1 XB75 k)) (u := undef) h99 ma0) (Wl.htwS rfl ma0 (HtS.call (β := Unit) (k := 17) (args := #[pV tb14 0]) (Lin := [g91.seg 76 (mm pr X93), [cb tb14 [sV g91 X93.length, iV .i64 300, Value.func (.func 14) #[] #[]] 74]]) (Lk := []) (Lo := fun _u => [g91.seg 76 (mm pr X93), [cb tb14 [sV g91 X93.length, iV .i64 300, Value.func (.func 14) #[] #[]] 74]]) [0, 1] [] rfl (fun _ => kr) ma2 rfl rfl rfl (fun w_ hm_ hl_ => (lenA_c X93 g91 300 tb14 _  _ hl_ ok92 ma1 hs95)) (fun _ => rfl)) (fun _u _ => ?_)))))
    refine Wl.guard (v := nV .i64 n) (true) rfl ma0 rfl (fun _ => Ys.pure (fun _ => kr)) (Wl.guard (v := bV (decide (((X93.length : Nat) : Int) ≤ (n : Int)))) (true) rfl ma0 rfl (fun _ => Ys.pure (fun _ => kr)) (Wl.run 2 ma0 (Wl.nil (hK87 _ _ _ ?_))))
    refine W.pick (LL' := []) [] ma2 rfl (W.prune' [6] [bV (decide (((X93.length : Nat) : Int) ≤ (n : Int)))] ma0 (fun f102 => ?_))
    refine W.ret ?_
    show ∀ w_, _ → bodyPostM (fence none) 0 Try.prog Try.f4 _ Exit.ret _ w_
    exact fun w_ hS_ => fin_ret (ret1 rfl (RV.tmp (v := bV (decide (((X93.length : Nat) : Int) ≤ (n : Int)))) ma0) hS_ ⟨by clear hK1 hK2 hK3 hK6 hK7 hK13 hK17 hK18 hK28 hK37 hK38 hK39 hJ41 hK44 hK45 hK68 hK79 hK84 hK87; refine congrArg Ending.returned ?_; exact bool_congr (by simp; omega), hS_.below⟩)
   ·(exfalso; have z_ := h100; rw [hnh_] at z_; cases z_)
end Go.Proofs.Ythfagedaijoenaa.Oct
