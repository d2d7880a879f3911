import Derived.Test.YthfagedaijoenaaKKy4
set_option linter.unusedVariables false
set_option linter.unusedSimpArgs false
set_option maxRecDepth 20000
namespace Go.Proofs.Ythfagedaijoenaa.Oct
open Go.RowKit Base
attribute [local irreducible] Ys Yc Ht HtS HtIn Wl Wd W Mem pf dpf Wa Wo
theorem putzA_c (xs : List (Int × Int)) (g : FS) (most : Int) (tb : Nat) (M : List Nat) (k v : Int) (X : List (Int × Int)) (w : World) (hX : putX 1 most xs k v = X) (hl : Mem w M [g.seg 76 (mm pr xs), [cb tb [Value.slice g.a xs.length g.cap, Value.int .i64 most, Value.func (.func 14) #[] #[]] 74]] w) (ok : g.ok 2 xs.length) (hn : xs.length ≤ 100000) (hs : Srt 1 xs) : Calls Try.prog 16 #[.pointer (some ⟨tb, 0, none⟩), .int .i64 k, .int .i64 v] w (RetM w (fun g' : FS => g'.ok 2 X.length) (fun _ => .int .i64 (putR 1 most xs k)) M (fun g' => [g'.seg 76 (mm pr X), [cb tb [.slice g'.a X.length g'.cap, .int .i64 most, Value.func (.func 14) #[] #[]] 74]])) := by
  subst hX; exact putA_c xs g most tb M k v w hl ok hn hs
theorem putzB_c (xs : List (Int × Int)) (g : FS) (most : Int) (tb : Nat) (M : List Nat) (k v : Int) (X : List (Int × Int)) (w : World) (hX : putX (-1) most xs k v = X) (hl : Mem w M [g.seg 76 (mm pr xs), [cb tb [Value.slice g.a xs.length g.cap, Value.int .i64 most, Value.func (.func 15) #[] #[]] 74]] w) (ok : g.ok 2 xs.length) (hn : xs.length ≤ 100000) (hs : Srt (-1) xs) : Calls Try.prog 16 #[.pointer (some ⟨tb, 0, none⟩), .int .i64 k, .int .i64 v] w (RetM w (fun g' : FS => g'.ok 2 X.length) (fun _ => .int .i64 (putR (-1) most xs k)) M (fun g' => [g'.seg 76 (mm pr X), [cb tb [.slice g'.a X.length g'.cap, .int .i64 most, Value.func (.func 15) #[] #[]] 74]])) := by
  subst hX; exact putB_c xs g most tb M k v w hl ok hn hs
theorem speaks6_c  (w : World) : Calls Try.prog 12 #[] w (Ret w (.bool true)) := by
 refine calls_W (M := []) (LL := []) (n := 47) Try.func12 rfl rfl sp (Mem.refl _) (W.seq (fun K1 hK1 => ?_))
 refine W.region (Wl.run 1 ma0 (Wl.nil (hK1 _ _ _ (W.seq (fun K2 hK2 => ?_)))))
 refine W.region (Wl.htS rfl (HtS.call (β := Nat) (k := 13) (args := #[iV .i64 2, Value.func (.func 14) #[] #[]]) (Lin := []) (Lk := []) (Mi := []) (Lo := fun tb3 => [[cb tb3 [Value.slice none 0 0, iV .i64 2, Value.func (.func 14) #[] #[]] 74]]) [] [] rfl (fun _ => kr) ma2 rfl rfl rfl (fun w_ hm_ hl_ => (newA_c 2 _)) (fun _ => rfl)) (fun tb3 _ => ?_))
 refine Wl.run 1 ma0 (Wl.nil (hK2 _ _ _ (W.prune' [1] [pV tb3 0] ma0 (fun f5 => W.seq (fun K6 hK6 => ?_)))))
 refine W.seq (fun K7 hK7 => ?_)
 obtain ⟨xs9, hx13⟩ : ∃ z : List (Int × Int), z = [] := ⟨_, rfl⟩
 obtain ⟨g8, hg12⟩ : ∃ z : FS, z = FS.nul := ⟨_, rfl⟩
 have ok10 : g8.ok 2 xs9.length := by rw [hg12, hx13]; exact FS.nul_ok 2
 have hs11 : Srt 1 xs9 := by rw [hx13]; exact List.Pairwise.nil
 have hl14 : xs9.length = 0 := by rw [hx13]; rfl
 refine W.conseq (S' := Mem w [] [g8.seg 76 (mm pr xs9), [cb tb3 [sV g8 xs9.length, iV .i64 2, Value.func (.func 14) #[] #[]] 74]]) (fun w_ h_ => Mem.cast (LL := [] :: [[cb tb3 [Value.slice none 0 0, iV .i64 2, Value.func (.func 14) #[] #[]] 74]]) (by rw [hg12, hx13]; rfl) (Mem.push h_)) (W.region (Wl.run 2 ma0 (Wl.nil (hK7 _ _ _ ?_))))
 refine W.prune' [1, 11] [pV tb3 0, bV false] ma0 (fun f15 => W.condF ma0 (W.skip' (hK6 _ _ _ (W.prune' [1] [pV tb3 0] ma0 (fun f16 => ?_)))))
 refine W.seq (fun K17 hK17 => W.region ?_)
 obtain ⟨X20, hX21⟩ : ∃ z, putX 1 2 xs9 5 1 = z := ⟨_, rfl⟩
 have hs22 : Srt 1 X20 := hX21 ▸ srt_putX sg1 hs11
 have hlx23 : X20.length ≤ xs9.length + 1 := hX21 ▸ putX_len sg1
 refine Wl.run 1 ma0 (Wl.htS rfl (HtS.call (β := FS) (k := 16) (args := #[pV tb3 0, iV .i64 5, iV .i64 1]) (Lin := [g8.seg 76 (mm pr xs9), [cb tb3 [sV g8 xs9.length, iV .i64 2, Value.func (.func 14) #[] #[]] 74]]) (Lk := []) (Lo := fun g18 => [g18.seg 76 (mm pr X20), [cb tb3 [sV g18 X20.length, iV .i64 2, Value.func (.func 14) #[] #[]] 74]]) [0, 1] [] rfl (fun _ => kr) ma2 rfl rfl rfl (fun w_ hm_ hl_ => (putzA_c xs9 g8 2 tb3 _ 5 1 X20 _ hX21 hl_ ok10 ma1 hs11)) (fun _ => rfl)) (fun g18 ok19 => ?_))
 obtain ⟨X27, hX28⟩ : ∃ z, putX 1 2 X20 3 1 = z := ⟨_, rfl⟩
 have hs29 : Srt 1 X27 := hX28 ▸ srt_putX sg1 hs22
 have hlx30 : X27.length ≤ X20.length + 1 := hX28 ▸ putX_len sg1
 refine Wl.run 1 ma0 (Wl.htS rfl (HtS.call (β := FS) (k := 16) (args := #[pV tb3 0, iV .i64 3, iV .i64 1]) (Lin := [g18.seg 76 (mm pr X20), [cb tb3 [sV g18 X20.length, iV .i64 2, Value.func (.func 14) #[] #[]] 74]]) (Lk := []) (Lo := fun g25 => [g25.seg 76 (mm pr X27), [cb tb3 [sV g25 X27.length, iV .i64 2, Value.func (.func 14) #[] #[]] 74]]) [0, 1] [] rfl (fun _ => kr) ma2 rfl rfl rfl (fun w_ hm_ hl_ => (putzA_c X20 g18 2 tb3 _ 3 1 X27 _ hX28 hl_ ok19 ma1 hs22)) (fun _ => rfl)) (fun g25 ok26 => ?_))
 obtain ⟨X34, hX35⟩ : ∃ z, putX 1 2 X27 4 1 = z := ⟨_, rfl⟩
 have hs36 : Srt 1 X34 := hX35 ▸ srt_putX sg1 hs29
 have hlx37 : X34.length ≤ X27.length + 1 := hX35 ▸ putX_len sg1
 refine Wl.run 1 ma0 (Wl.htS rfl (HtS.call (β := FS) (k := 16) (args := #[pV tb3 0, iV .i64 4, iV .i64 1]) (Lin := [g25.seg 76 (mm pr X27), [cb tb3 [sV g25 X27.length, iV .i64 2, Value.func (.func 14) #[] #[]] 74]]) (Lk := []) (Lo := fun g32 => [g32.seg 76 (mm pr X34), [cb tb3 [sV g32 X34.length, iV .i64 2, Value.func (.func 14) #[] #[]] 74]]) [0, 1] [] rfl (fun _ => kr) ma2 rfl rfl rfl (fun w_ hm_ hl_ => (putzA_c X27 g25 2 tb3 _ 4 1 X34 _ hX35 hl_ ok26 ma1 hs29)) (fun _ => rfl)) (fun g32 ok33 => ?_))
 obtain ⟨X41, hX42⟩ : ∃ z, putX 1 2 X34 5 2 = z := ⟨_, rfl⟩
 have hs43 : Srt 1 X41 := hX42 ▸ srt_putX sg1 hs36
 have hlx44 : X41.length ≤ X34.length + 1 := hX42 ▸ putX_len sg1
 refine Wl.run 1 ma0 (Wl.htS rfl (HtS.call (β := FS) (k := 16) (args := #[pV tb3 0, iV .i64 5, iV .i64 2]) (Lin := [g32.seg 76 (mm pr X34), [cb tb3 [sV g32 X34.length, iV .i64 2, Value.func (.func 14) #[] #[]] 74]]) (Lk := []) (Lo := fun g39 => [g39.seg 76 (mm pr X41), [cb tb3 [sV g39 X41.length, iV .i64 2, Value.func (.func 14) #[] #[]] 74]]) [0, 1] [] rfl (fun _ => kr) ma2 rfl rfl rfl (fun w_ hm_ hl_ => (putzA_c X34 g32 2 tb3 _ 5 2 X41 _ hX42 hl_ ok33 ma1 hs36)) (fun _ => rfl)) (fun g39 ok40 => ?_))
 refine Wl.run 4 ma0 (Wl.nil (hK17 _ _ _ (W.prune' [1, 2, 3, 4, 5] [pV tb3 0, iV .i64 (putR 1 2 xs9 5), iV .i64 (putR 1 2 X20 3), iV .i64 (putR 1 2 X27 4), iV .i64 (putR 1 2 X34 5)] ma0 (fun f46 => W.seq (fun K47 hK47 => ?_)))))
 refine W.region (Wl.run 1 ma0 (Wl.htS rfl (HtS.call (β := Unit) (k := 18) (args := #[pV tb3 0, iV .i64 0]) (Lin := [g39.seg 76 (mm pr X41), [cb tb3 [sV g39 X41.length, iV .i64 2, Value.func (.func 14) #[] #[]] 74]]) (Lk := []) (Lo := fun _u => [g39.seg 76 (mm pr X41), [cb tb3 [sV g39 X41.length, iV .i64 2, Value.func (.func 14) #[] #[]] 74]]) [0, 1] [] rfl (fun _ => kr) ma2 rfl rfl rfl (fun w_ hm_ hl_ => (atA_c X41 g39 2 tb3 _ 0 _ hl_ ok40 ma1 hs43)) (fun _ => rfl)) (fun _u _ => Wl.run 7 ma0 (Wl.nil ?_))))
 refine hK47 _ _ _ (W.pick (LL' := []) [] ma2 rfl (W.prune' [2, 3, 4, 5, 6, 8] [iV .i64 (putR 1 2 xs9 5), iV .i64 (putR 1 2 X20 3), iV .i64 (putR 1 2 X27 4), iV .i64 (putR 1 2 X34 5), iV .i64 ((atN X41 0).1), bV (atO X41 0)] ma0 (fun f49 => W.seq (fun K50 hK50 => W.region ?_))))
 refine Wl.run 3 ma0 ?_
 refine Wl.guard (v := iV .i64 (putR 1 2 X20 3)) ((putR 1 2 xs9 5) == 0) rfl (wantT rfl ma0) rfl (fun hg51 => ?_) ?_
 ·exact Ys.pure (fun _ => kr)
 refine Wl.guard (v := bV ((putR 1 2 X20 3) == 0)) ((putR 1 2 xs9 5) == 0) rfl (wantT rfl ma0) rfl (fun hg52 => ?_) ?_
 ·refine Ys.at (t := 29) (v0 := iV .i64 (putR 1 2 X20 3)) (lz (g := (putR 1 2 xs9 5) == 0) (u := undef) hg52 ma0) ?_
  exact Ys.pure (fun _ => kr)
 refine Wl.ys (v := bV (((putR 1 2 xs9 5) == 0) && ((putR 1 2 X20 3) == 0))) rfl rfl (Ys.and (e := (putR 1 2 xs9 5) == 0) (b := (putR 1 2 X20 3) == 0) rfl ma0 ma0 ma0) (Wl.run 1 ma0 ?_)
 refine Wl.guard (v := iV .i64 (putR 1 2 X27 4)) (((putR 1 2 xs9 5) == 0) && ((putR 1 2 X20 3) == 0)) rfl (wantT rfl ma0) rfl (fun hg53 => ?_) ?_
 ·exact Ys.pure (fun _ => kr)
 refine Wl.guard (v := bV ((putR 1 2 X27 4) == 20)) (((putR 1 2 xs9 5) == 0) && ((putR 1 2 X20 3) == 0)) rfl (wantT rfl ma0) rfl (fun hg54 => ?_) ?_
 ·refine Ys.at (t := 33) (v0 := iV .i64 (putR 1 2 X27 4)) (lz (g := ((putR 1 2 xs9 5) == 0) && ((putR 1 2 X20 3) == 0)) (u := undef) hg54 ma0) ?_
  exact Ys.pure (fun _ => kr)
 refine Wl.ys (v := bV ((((putR 1 2 xs9 5) == 0) && ((putR 1 2 X20 3) == 0)) && ((putR 1 2 X27 4) == 20))) rfl rfl (Ys.and (e := ((putR 1 2 xs9 5) == 0) && ((putR 1 2 X20 3) == 0)) (b := (putR 1 2 X27 4) == 20) rfl ma0 ma0 ma0) (Wl.run 1 ma0 ?_)
 refine Wl.guard (v := iV .i64 (putR 1 2 X34 5)) ((((putR 1 2 xs9 5) == 0) && ((putR 1 2 X20 3) == 0)) && ((putR 1 2 X27 4) == 20)) rfl (wantT rfl ma0) rfl (fun hg55 => ?_) ?_
 ·exact Ys.pure (fun _ => kr)
 refine Wl.guard (v := bV ((putR 1 2 X34 5) == 0)) ((((putR 1 2 xs9 5) == 0) && ((putR 1 2 X20 3) == 0)) && ((putR 1 2 X27 4) == 20)) rfl (wantT rfl ma0) rfl (fun hg56 => ?_) ?_
 ·refine Ys.at (t := 37) (v0 := iV .i64 (putR 1 2 X34 5)) (lz (g := (((putR 1 2 xs9 5) == 0) && ((putR 1 2 X20 3) == 0)) && ((putR 1 2 X27 4) == 20)) (u := undef) hg56 ma0) ?_
  exact Ys.pure (fun _ => kr)
 refine Wl.ys (v := bV (((((putR 1 2 xs9 5) == 0) && ((putR 1 2 X20 3) == 0)) && ((putR 1 2 X27 4) == 20)) && ((putR 1 2 X34 5) == 0))) rfl rfl (Ys.and (e := (((putR 1 2 xs9 5) == 0) && ((putR 1 2 X20 3) == 0)) && ((putR 1 2 X27 4) == 20)) (b := (putR 1 2 X34 5) == 0) rfl ma0 ma0 ma0) (Wl.run 1 ma0 ?_)
 refine Wl.guard (v := iV .i64 ((atN X41 0).1)) (((((putR 1 2 xs9 5) == 0) && ((putR 1 2 X20 3) == 0)) && ((putR 1 2 X27 4) == 20)) && ((putR 1 2 X34 5) == 0)) rfl (wantT rfl ma0) rfl (fun hg57 => ?_) ?_
 ·exact Ys.pure (fun _ => kr)
 refine Wl.guard (v := bV (((atN X41 0).1) == 3)) (((((putR 1 2 xs9 5) == 0) && ((putR 1 2 X20 3) == 0)) && ((putR 1 2 X27 4) == 20)) && ((putR 1 2 X34 5) == 0)) rfl (wantT rfl ma0) rfl (fun hg58 => ?_) ?_
 ·refine Ys.at (t := 41) (v0 := iV .i64 ((atN X41 0).1)) (lz (g := ((((putR 1 2 xs9 5) == 0) && ((putR 1 2 X20 3) == 0)) && ((putR 1 2 X27 4) == 20)) && ((putR 1 2 X34 5) == 0)) (u := undef) hg58 ma0) ?_
  exact Ys.pure (fun _ => kr)
 refine Wl.ys (v := bV ((((((putR 1 2 xs9 5) == 0) && ((putR 1 2 X20 3) == 0)) && ((putR 1 2 X27 4) == 20)) && ((putR 1 2 X34 5) == 0)) && (((atN X41 0).1) == 3))) rfl rfl (Ys.and (e := ((((putR 1 2 xs9 5) == 0) && ((putR 1 2 X20 3) == 0)) && ((putR 1 2 X27 4) == 20)) && ((putR 1 2 X34 5) == 0)) (b := ((atN X41 0).1) == 3) rfl ma0 ma0 ma0) (Wl.run 1 ma0 ?_)
 refine Wl.guard (v := bV (atO X41 0)) ((((((putR 1 2 xs9 5) == 0) && ((putR 1 2 X20 3) == 0)) && ((putR 1 2 X27 4) == 20)) && ((putR 1 2 X34 5) == 0)) && (((atN X41 0).1) == 3)) rfl (wantT rfl ma0) rfl (fun hg59 => ?_) ?_
 ·exact Ys.pure (fun _ => kr)
 refine Wl.ys (v := bV (((((((putR 1 2 xs9 5) == 0) && ((putR 1 2 X20 3) == 0)) && ((putR 1 2 X27 4) == 20)) && ((putR 1 2 X34 5) == 0)) && (((atN X41 0).1) == 3)) && (atO X41 0))) rfl rfl (Ys.and (e := (((((putR 1 2 xs9 5) == 0) && ((putR 1 2 X20 3) == 0)) && ((putR 1 2 X27 4) == 20)) && ((putR 1 2 X34 5) == 0)) && (((atN X41 0).1) == 3)) (b := atO X41 0) rfl ma0 ma0 ma0) (Wl.run 1 ma0 (Wl.nil (hK50 _ _ _ (W.prune' [0] [bV (((((((putR 1 2 xs9 5) == 0) && ((putR 1 2 X20 3) == 0)) && ((putR 1 2 X27 4) == 20)) && ((putR 1 2 X34 5) == 0)) && (((atN X41 0).1) == 3)) && (atO X41 0))] ma0 (fun f60 => ?_)))))
 refine W.ret ?_
 show ∀ w_, _ → bodyPostM (fence none) 0 Try.prog Try.f12 _ Exit.ret _ w_
 exact fun w_ hS_ => fin_ret (ret1 rfl (RV.tmp (v := bV (((((((putR 1 2 xs9 5) == 0) && ((putR 1 2 X20 3) == 0)) && ((putR 1 2 X27 4) == 20)) && ((putR 1 2 X34 5) == 0)) && (((atN X41 0).1) == 3)) && (atO X41 0))) ma0) hS_ ⟨by clear hK1 hK2 hK6 hK7 hK17 hK47 hK50; refine congrArg Ending.returned ?_; exact bool_congr (by subst_vars; decide +kernel), hS_.below⟩)
def op (x : Int × Int × Int) : List Value := [.int .i64 x.1, .int .i64 x.2.1, .int .i64 x.2.2]
theorem srt_rev {xs : List (Int × Int)} (h : Srt 1 xs) : Srt (-1) xs.reverse := by
  unfold Srt at h ⊢
  rw [List.pairwise_reverse]
  exact h.imp fun {a b} h => by omega
theorem has_rev {xs : List (Int × Int)} (h : Srt 1 xs) (k : Int) : hasK (-1) xs.reverse k = hasK 1 xs k := by
  rw [Bool.eq_iff_iff, hasK_mem sgm (srt_rev h), hasK_mem sg1 h]; simp only [List.mem_reverse]
theorem putR_rev {xs : List (Int × Int)} (h : Srt 1 xs) (m k : Int) : putR (-1) m xs.reverse k = putR 1 m xs k := by
  unfold putR; rw [has_rev h, List.length_reverse]
theorem put_rev {xs : List (Int × Int)} (h : Srt 1 xs) (m k v : Int) : putX (-1) m xs.reverse k v = (putX 1 m xs k v).reverse := by
  have e : putW (-1) m xs.reverse k = putW 1 m xs k := by unfold putW; rw [has_rev h, List.length_reverse]
  cases hW : putW 1 m xs k
  · rw [putX_not hW, putX_not (e.trans hW)]
  · refine srt_ext sgm (srt_putX sgm (srt_rev h)) (srt_rev (srt_putX sg1 h)) fun p => ?_
    rw [mem_putX sgm (srt_rev h) (e.trans hW), List.mem_reverse, List.mem_reverse, mem_putX sg1 h hW]
theorem at_nat {xs : List (Int × Int)} {i : Nat} (h : i < xs.length) : atO xs (i : Int) = true ∧ atN xs (i : Int) = xs.getD i (0, 0) := by
  have ho : atO xs (i : Int) = true := by unfold atO; rw [decide_eq_false ma1, decide_eq_false ma1]; rfl
  exact ⟨ho, by unfold atN; rw [ho]; rfl⟩
theorem at_rev {xs : List (Int × Int)} {i : Nat} (h : i < xs.length) : atO xs.reverse (((xs.length : Int) - 1) - (i : Int)) = true ∧ atN xs.reverse (((xs.length : Int) - 1) - (i : Int)) = xs.getD i (0, 0) := by
  rw [show (((xs.length : Nat) : Int) - 1) - (i : Int) = ((xs.length - 1 - i : Nat) : Int) by omega]
  obtain ⟨a, b⟩ := at_nat (xs := xs.reverse) (i := xs.length - 1 - i) (by rw [List.length_reverse]; omega)
  refine ⟨a, b.trans ?_⟩
  rw [List.getD_eq_getElem?_getD, List.getD_eq_getElem?_getD, List.getElem?_reverse ma1]
  rw [show xs.length - 1 - (xs.length - 1 - i) = i by omega]
theorem turnedlaw_c (os : List (Int × Int × Int)) (a : Option Addr) (cap : Nat) (w : World) (hat : At w a (mm op os)) (hol : os.length ≤ 9223372036854775807) : Calls Try.prog 3 #[Value.slice a os.length cap] w (Ret w (.bool true)) := by
 refine calls_W (M := []) (LL := []) (n := 92) Try.func3 rfl rfl sp (Mem.refl _) (W.seq (fun K1 hK1 => ?_))
 refine W.region (Wl.run 1 ma0 (Wl.nil (hK1 _ _ _ (W.seq (fun K2 hK2 => ?_)))))
 refine W.seq (fun K3 hK3 => W.region (Wl.yc (v := bV true) rfl rfl (Yc.call (fun _ => kr) (fun w_ hm_ => (speaks6_c _))) (Wl.run 1 ma0 (Wl.nil ?_))))
 refine hK3 _ _ _ (W.prune' [0, 16] [Value.slice a os.length cap, bV false] ma0 (fun f4 => ?_))
 refine W.condF ma0 (W.skip' (hK2 _ _ _ (W.prune' [0] [Value.slice a os.length cap] ma0 (fun f5 => W.seq (fun K6 hK6 => ?_)))))
 refine W.seq (fun K7 hK7 => W.region (Wl.run 3 ma0 (Wl.nil (hK7 _ _ _ ?_))))
 refine W.prune' [0, 19] [Value.slice a os.length cap, bV (decide (((os.length : Nat) : Int) > 200))] ma0 (fun f8 => ?_)
 refine W.cond (decide (((os.length : Nat) : Int) > 200)) ma0 (fun h9 => ?_) (fun h10 => ?_)
 ·refine W.seq (fun K11 hK11 => W.region (Wl.run 1 ma0 (Wl.nil (hK11 _ _ _ ?_))))
  refine W.ret ?_
  show ∀ w_, _ → bodyPostM (fence none) 0 Try.prog Try.f3 _ Exit.ret _ w_
  exact fun w_ hS_ => fin_ret (ret1 rfl (RV.tmp (v := bV true) ma0) hS_ ⟨rfl, hS_.below⟩)
 ·have qh10 := h10; try simp only [zA] at qh10
  refine W.skip' (hK6 _ _ _ (W.prune' [0] [Value.slice a os.length cap] ma0 (fun f12 => W.seq (fun K13 hK13 => W.region ?_))))
  refine Wl.htS rfl (HtS.call (β := Nat) (k := 13) (args := #[iV .i64 50, Value.func (.func 14) #[] #[]]) (Lin := []) (Lk := []) (Mi := []) (Lo := fun tb14 => [[cb tb14 [Value.slice none 0 0, iV .i64 50, Value.func (.func 14) #[] #[]] 74]]) [] [] rfl (fun _ => kr) ma2 rfl rfl rfl (fun w_ hm_ hl_ => (newA_c 50 _)) (fun _ => rfl)) (fun tb14 _ => Wl.run 1 ma0 (Wl.nil (hK13 _ _ _ (W.prune' [0, 3] [Value.slice a os.length cap, pV tb14 0] ma0 (fun f16 => ?_)))))
  refine W.seq (fun K17 hK17 => ?_)
  obtain ⟨xs19, hx23⟩ : ∃ z : List (Int × Int), z = [] := ⟨_, rfl⟩
  obtain ⟨g18, hg22⟩ : ∃ z : FS, z = FS.nul := ⟨_, rfl⟩
  have ok20 : g18.ok 2 xs19.length := by rw [hg22, hx23]; exact FS.nul_ok 2
  have hs21 : Srt 1 xs19 := by rw [hx23]; exact List.Pairwise.nil
  have hl24 : xs19.length = 0 := by rw [hx23]; rfl
  refine W.conseq (S' := Mem w [] [g18.seg 76 (mm pr xs19), [cb tb14 [sV g18 xs19.length, iV .i64 50, Value.func (.func 14) #[] #[]] 74]]) (fun w_ h_ => Mem.cast (LL := [] :: [[cb tb14 [Value.slice none 0 0, iV .i64 50, Value.func (.func 14) #[] #[]] 74]]) (by rw [hg22, hx23]; rfl) (Mem.push h_)) (W.region (Wl.htS rfl (HtS.call (β := Nat) (k := 13) (args := #[iV .i64 50, Value.func (.func 15) #[] #[]]) (Lin := []) (Lk := [g18.seg 76 (mm pr xs19), [cb tb14 [sV g18 xs19.length, iV .i64 50, Value.func (.func 14) #[] #[]] 74]]) (Mi := []) (Lo := fun tb25 => [[cb tb25 [Value.slice none 0 0, iV .i64 50, Value.func (.func 15) #[] #[]] 74], g18.seg 76 (mm pr xs19), [cb tb14 [sV g18 xs19.length, iV .i64 50, Value.func (.func 14) #[] #[]] 74]]) [] [0, 1] rfl (fun _ => kr) ma2 rfl rfl rfl (fun w_ hm_ hl_ => (newB_c 50 _)) (fun _ => rfl)) (fun tb25 _ => Wl.run 1 ma0 (Wl.nil ?_))))
  refine hK17 _ _ _ (W.prune' [0, 3, 4] [Value.slice a os.length cap, pV tb14 0, pV tb25 0] ma0 (fun f27 => ?_))
  refine W.seq (fun K28 hK28 => W.seq (fun K29 hK29 => ?_))
  obtain ⟨xs31, hx35⟩ : ∃ z : List (Int × Int), z = [] := ⟨_, rfl⟩
  obtain ⟨g30, hg34⟩ : ∃ z : FS, z = FS.nul := ⟨_, rfl⟩
  have ok32 : g30.ok 2 xs31.length := by rw [hg34, hx35]; exact FS.nul_ok 2
  have hs33 : Srt (-1) xs31 := by rw [hx35]; exact List.Pairwise.nil
  have hl36 : xs31.length = 0 := by rw [hx35]; rfl
  refine W.conseq (S' := Mem w [] [g30.seg 76 (mm pr xs31), [cb tb25 [sV g30 xs31.length, iV .i64 50, Value.func (.func 15) #[] #[]] 74], g18.seg 76 (mm pr xs19), [cb tb14 [sV g18 xs19.length, iV .i64 50, Value.func (.func 14) #[] #[]] 74]]) (fun w_ h_ => Mem.cast (LL := [] :: [[cb tb25 [Value.slice none 0 0, iV .i64 50, Value.func (.func 15) #[] #[]] 74], g18.seg 76 (mm pr xs19), [cb tb14 [sV g18 xs19.length, iV .i64 50, Value.func (.func 14) #[] #[]] 74]]) (by rw [hg34, hx35]; rfl) (Mem.push h_)) (W.region (Wl.run 3 ma0 (Wl.guard (v := pV tb25 0) (true) rfl ma0 rfl (fun _ => Ys.pure (fun _ => kr)) (Wl.guard (v := bV false) (true) rfl ma0 rfl (fun _ => Ys.pure (fun _ => kr)) ?_))))
  refine Wl.run 1 ma0 (Wl.nil (hK29 _ _ _ (W.prune' [0, 3, 4, 27] [Value.slice a os.length cap, pV tb14 0, pV tb25 0, bV false] ma0 (fun f37 => W.condF ma0 ?_))))
  refine W.skip' (hK28 _ _ _ (W.prune' [0, 3, 4] [Value.slice a os.length cap, pV tb14 0, pV tb25 0] ma0 (fun f38 => W.seq (fun K39 hK39 => W.seq (fun K40 hK40 => ?_)))))
  refine W.region (Wl.run 3 ma0 (Wl.nil (hK40 _ _ _ (W.prune' [3, 4, 28, 29, 30] [pV tb14 0, pV tb25 0, Value.slice a os.length cap, nV .i64 os.length, iV .i64 0] ma0 (fun f41 => ?_)))))
  refine W.block (W.loop5 [3, 4, 28, 29, 30] (fun (i : Nat) (xs : List (Int × Int)) (g : FS) (ys : List (Int × Int)) (h : FS) => [pV tb14 0, pV tb25 0, Value.slice a os.length cap, nV .i64 os.length, nV .i64 i]) (fun (i : Nat) (xs : List (Int × Int)) (g : FS) (ys : List (Int × Int)) (h : FS) => i ≤ os.length ∧ g.ok 2 xs.length ∧ h.ok 2 ys.length ∧ Srt 1 xs ∧ Srt (-1) ys ∧ ys = xs.reverse ∧ xs.length ≤ i) (fun (i : Nat) (xs : List (Int × Int)) (g : FS) (ys : List (Int × Int)) (h : FS) => [h.seg 76 (mm pr ys), [cb tb25 [Value.slice h.a ys.length h.cap, iV .i64 50, Value.func (.func 15) #[] #[]] 74], g.seg 76 (mm pr xs), [cb tb14 [sV g xs.length, iV .i64 50, Value.func (.func 14) #[] #[]] 74]]) (fun (i : Nat) (xs : List (Int × Int)) (g : FS) (ys : List (Int × Int)) (h : FS) => os.length - i) 0 xs19 g18 xs31 g30 ma0 ⟨(Nat.zero_le _), ok20, ok32, hs21, hs33, (by rw [hx23, hx35]; rfl), ma1⟩ (by rfl) (fun i xs g ys h f43 J42 hp44 hJ42 => ?_))
  obtain ⟨hi, ok, okh, hs, hsy, hr, hlx⟩ := hp44
  have hrl_ := congrArg List.length hr; rw [List.length_reverse] at hrl_
  refine W.seq (fun K45 hK45 => W.region (Wl.run 1 ma0 (Wl.nil (hK45 _ _ _ ?_))))
  refine W.seq (fun K46 hK46 => ?_)
  refine W.cond (decide (((i : Nat) : Int) < (os.length : Int))) ma0 (fun h47 => ?_) (fun h48 => ?_)
  ·have qh47 := h47; try simp only [zA] at qh47
   refine W.skip' (hK46 _ _ _ (W.prune' [3, 4, 28, 29, 30] [pV tb14 0, pV tb25 0, Value.slice a os.length cap, nV .i64 os.length, nV .i64 i] ma0 (fun f49 => W.seq (fun K50 hK50 => W.block ?_))))
   refine W.seq (fun K51 hK51 => W.region (Wl.ys (v := Value.pointer (some (ela a (i * 3)))) rfl rfl (Ys.byMem fun w_ h_ => Ys.indexAddr (k := .i64) (a := a) (len := os.length) (cap := cap) (i := (i : Int)) (sz := 3) rfl ma0 ma0 Try.runUnderlying22 Try.sizeOf28 ma1 ma1 ((hat.mem0 h_).here (by rw [mm_len (g := op) (sz := 3) (fun _ => rfl)]; first | omega | (simp; omega)))) (Wl.ys (v := aV [iV .i64 ((os.getD i (0, 0, 0)).1), iV .i64 ((os.getD i (0, 0, 0)).2.1), iV .i64 ((os.getD i (0, 0, 0)).2.2)]) rfl rfl (Ys.ldN (a := ela a (i * 3)) (vs := [iV .i64 ((os.getD i (0, 0, 0)).1), iV .i64 ((os.getD i (0, 0, 0)).2.1), iV .i64 ((os.getD i (0, 0, 0)).2.2)]) rfl ma0 Try.isAgg28 Try.sizeOf28 rfl (fun w_ h_ => (hat.mem0 h_).ldN (mm_get (g := op) (sz := 3) (fun _ => rfl) (0, 0, 0) (xs := os) (k := i) ma1))) (Wl.ht rfl (Ht.alloc (z := aV [iV .i64 0, iV .i64 0, iV .i64 0]) (cs := [iV .i64 0, iV .i64 0, iV .i64 0]) rfl rfl Try.zeroValue28 rfl) (fun p6 => ?_)))))
   refine Wl.ht rfl (Ht.storeN (b := p6) (o' := 0) (i := 0) (j := 0) (vs := [iV .i64 ((os.getD i (0, 0, 0)).1), iV .i64 ((os.getD i (0, 0, 0)).2.1), iV .i64 ((os.getD i (0, 0, 0)).2.2)]) (LL' := [[cb p6 [iV .i64 ((os.getD i (0, 0, 0)).1), iV .i64 ((os.getD i (0, 0, 0)).2.1), iV .i64 ((os.getD i (0, 0, 0)).2.2)] 28], h.seg 76 (mm pr ys), [cb tb25 [Value.slice h.a ys.length h.cap, iV .i64 50, Value.func (.func 15) #[] #[]] 74], g.seg 76 (mm pr xs), [cb tb14 [sV g xs.length, iV .i64 50, Value.func (.func 14) #[] #[]] 74]]) rfl rfl ma0 ma0 Try.sizeOf28 (by simp [Value.oneCell']) rfl rfl sp rfl rfl) (fun _ => Wl.nil (hK51 _ _ _ (W.prune' [3, 4, 6, 28, 29, 30] [pV tb14 0, pV tb25 0, pV p6 0, Value.slice a os.length cap, nV .i64 os.length, nV .i64 i] ma0 (fun f52 => W.seq (fun K53 hK53 => ?_)))))
   obtain ⟨XA56, hX54⟩ : ∃ z, putX 1 50 xs ((os.getD i (0, 0, 0)).2.1) ((os.getD i (0, 0, 0)).2.2) = z := ⟨_, rfl⟩
   have hs55 : Srt 1 XA56 := hX54 ▸ srt_putX sg1 hs
   have hlx57 : XA56.length ≤ xs.length + 1 := hX54 ▸ putX_len sg1
   obtain ⟨XB60, hX58⟩ : ∃ z, putX (-1) 50 ys ((os.getD i (0, 0, 0)).2.1) ((os.getD i (0, 0, 0)).2.2) = z := ⟨_, rfl⟩
   have hs59 : Srt (-1) XB60 := hX58 ▸ srt_putX sgm hsy
   have hlx61 : XB60.length ≤ ys.length + 1 := hX58 ▸ putX_len sgm
   refine W.draws [(0, true), (1, true), (2, true), (3, true), (4, true), (6, true), (7, true), (8, true), (9, true), (10, true), (5, false), (11, false), (12, false)] [0, 1, 2, 3, 4, 6, 7, 8, 9, 10] (Mem w [] [[cb p6 [iV .i64 ((os.getD i (0, 0, 0)).1), iV .i64 ((os.getD i (0, 0, 0)).2.1), iV .i64 ((os.getD i (0, 0, 0)).2.2)] 28]]) ma0 ma0 ma0 rfl ma0 (fun _ _ h_ => h_.drawn _) (fun _ h_ => h_.pick [0] ma2 rfl) (Wd.run 2 ma0 (Wd.ys rfl rfl rfl (Ys.l1 p6 1 0 0 Try.isAgg3) (Wd.run 1 ma0 (Wd.ys rfl rfl rfl (Ys.l1 p6 2 0 0 Try.isAgg3) ?_))))
   refine Wd.run 2 ma0 (Wd.ys rfl rfl rfl (Ys.l1 p6 1 0 0 Try.isAgg3) (Wd.run 1 ma0 (Wd.ys rfl rfl rfl (Ys.l1 p6 2 0 0 Try.isAgg3) (Wd.htS rfl rfl (HtS.call (β := FS) (k := 16) (args := #[pV tb14 0, iV .i64 ((os.getD i (0, 0, 0)).2.1), iV .i64 ((os.getD i (0, 0, 0)).2.2)]) (Lin := [g.seg 76 (mm pr xs), [cb tb14 [sV g xs.length, iV .i64 50, Value.func (.func 14) #[] #[]] 74]]) (Lk := [[cb p6 [iV .i64 ((os.getD i (0, 0, 0)).1), iV .i64 ((os.getD i (0, 0, 0)).2.1), iV .i64 ((os.getD i (0, 0, 0)).2.2)] 28], h.seg 76 (mm pr ys), [cb tb25 [Value.slice h.a ys.length h.cap, iV .i64 50, Value.func (.func 15) #[] #[]] 74]]) (Lo := fun g62 => [g62.seg 76 (mm pr XA56), [cb tb14 [sV g62 XA56.length, iV .i64 50, Value.func (.func 14) #[] #[]] 74], [cb p6 [iV .i64 ((os.getD i (0, 0, 0)).1), iV .i64 ((os.getD i (0, 0, 0)).2.1), iV .i64 ((os.getD i (0, 0, 0)).2.2)] 28], h.seg 76 (mm pr ys), [cb tb25 [Value.slice h.a ys.length h.cap, iV .i64 50, Value.func (.func 15) #[] #[]] 74]]) [3, 4] [0, 1, 2] rfl (fun _ => kr) ma2 rfl rfl rfl (fun w_ hm_ hl_ => (putzA_c xs g 50 tb14 _ ((os.getD i (0, 0, 0)).2.1) ((os.getD i (0, 0, 0)).2.2) XA56 _ hX54 hl_ ok ma1 hs)) (fun _ => rfl)) (.inr fun _ _ h_ => h_.pick [2] ma2 rfl) (fun g62 ok63 => ?_)))))
   refine Wd.htS rfl rfl (HtS.call (β := FS) (k := 16) (args := #[pV tb25 0, iV .i64 ((os.getD i (0, 0, 0)).2.1), iV .i64 ((os.getD i (0, 0, 0)).2.2)]) (Lin := [h.seg 76 (mm pr ys), [cb tb25 [Value.slice h.a ys.length h.cap, iV .i64 50, Value.func (.func 15) #[] #[]] 74]]) (Lk := [g62.seg 76 (mm pr XA56), [cb tb14 [sV g62 XA56.length, iV .i64 50, Value.func (.func 14) #[] #[]] 74], [cb p6 [iV .i64 ((os.getD i (0, 0, 0)).1), iV .i64 ((os.getD i (0, 0, 0)).2.1), iV .i64 ((os.getD i (0, 0, 0)).2.2)] 28]]) (Lo := fun g65 => [g65.seg 76 (mm pr XB60), [cb tb25 [sV g65 XB60.length, iV .i64 50, Value.func (.func 15) #[] #[]] 74], g62.seg 76 (mm pr XA56), [cb tb14 [sV g62 XA56.length, iV .i64 50, Value.func (.func 14) #[] #[]] 74], [cb p6 [iV .i64 ((os.getD i (0, 0, 0)).1), iV .i64 ((os.getD i (0, 0, 0)).2.1), iV .i64 ((os.getD i (0, 0, 0)).2.2)] 28]]) [3, 4] [0, 1, 2] rfl (fun _ => kr) ma2 rfl rfl rfl (fun w_ hm_ hl_ => (putzB_c ys h 50 tb25 _ ((os.getD i (0, 0, 0)).2.1) ((os.getD i (0, 0, 0)).2.2) XB60 _ hX58 hl_ okh ma1 hsy)) (fun _ => rfl)) (.inr fun _ _ h_ => h_.pick [4] ma2 rfl) (fun g65 ok66 => Wd.yc (v := bV ((putR 1 50 xs ((os.getD i (0, 0, 0)).2.1)) != (putR (-1) 50 ys ((os.getD i (0, 0, 0)).2.1)))) rfl rfl rfl (Ys.yc (Ys.pure (fun _ => kr))) (.inr fun _ h_ => h_.pick [4] ma2 rfl) (Wd.nil (hK53 _ _ _ (W.pick (LL' := [g65.seg 76 (mm pr XB60), [cb tb25 [sV g65 XB60.length, iV .i64 50, Value.func (.func 15) #[] #[]] 74], g62.seg 76 (mm pr XA56), [cb tb14 [sV g62 XA56.length, iV .i64 50, Value.func (.func 14) #[] #[]] 74]]) [0, 1, 2, 3] ma2 rfl ?_))))
   refine W.prune' [3, 4, 28, 29, 30, 46] [pV tb14 0, pV tb25 0, Value.slice a os.length cap, nV .i64 os.length, nV .i64 i, bV ((putR 1 50 xs ((os.getD i (0, 0, 0)).2.1)) != (putR (-1) 50 ys ((os.getD i (0, 0, 0)).2.1)))] ma0 (fun f68 => ?_)
   refine W.cond ((putR 1 50 xs ((os.getD i (0, 0, 0)).2.1)) != (putR (-1) 50 ys ((os.getD i (0, 0, 0)).2.1))) ma0 (fun h69 => ?_) (fun h70 => ?_)
   ·have qh69 := h69; try simp only [zA] at qh69
    (exfalso; have z_ := h69; rw [hr, putR_rev hs] at z_; simp at z_)
   ·have qh70 := h70; try simp only [zA] at qh70
    refine W.skip' (hK50 _ _ _ (W.prune' [3, 4, 28, 29, 30] [pV tb14 0, pV tb25 0, Value.slice a os.length cap, nV .i64 os.length, nV .i64 i] ma0 (fun f71 => W.region (Wl.ys (v := nV .i64 (i + 1)) rfl rfl ((Ys.pure (v := .int .i64 (iadd .i64 (i : Int) 1)) (fun _ => kr)).conseq (int_congr (iadd_eq ma1 ma1 ma1))) ?_))))
    refine Wl.run 1 ma0 (Wl.nil ?_)
    refine fun w_ h_ => hJ42 (i + 1) XA56 g62 XB60 g65 _ w_ ma1 ⟨ma1, ok63, ok66, hs55, hs59, (by rw [← hX58, ← hX54, hr]; exact put_rev hs _ _ _), ma1⟩ ?_ h_
    kernel_rfl
  ·have qh48 := h48; try simp only [zA] at qh48
   refine W.exit (hK39 _ _ _ (W.prune' [3, 4] [pV tb14 0, pV tb25 0] ma0 (fun f72 => W.seq (fun K73 hK73 => W.region ?_))))
   refine Wl.run 1 ma0 (Wl.htS rfl (HtS.call (β := Unit) (k := 17) (args := #[pV tb14 0]) (Lin := [g.seg 76 (mm pr xs), [cb tb14 [sV g xs.length, iV .i64 50, Value.func (.func 14) #[] #[]] 74]]) (Lk := [h.seg 76 (mm pr ys), [cb tb25 [Value.slice h.a ys.length h.cap, iV .i64 50, Value.func (.func 15) #[] #[]] 74]]) (Lo := fun _u => [g.seg 76 (mm pr xs), [cb tb14 [sV g xs.length, iV .i64 50, Value.func (.func 14) #[] #[]] 74], h.seg 76 (mm pr ys), [cb tb25 [Value.slice h.a ys.length h.cap, iV .i64 50, Value.func (.func 15) #[] #[]] 74]]) [2, 3] [0, 1] rfl (fun _ => kr) ma2 rfl rfl rfl (fun w_ hm_ hl_ => (lenA_c xs g 50 tb14 _  _ hl_ ok ma1 hs)) (fun _ => rfl)) (fun _u _ => ?_))
   refine Wl.run 1 ma0 (Wl.nil (hK73 _ _ _ (W.prune' [3, 4, 7] [pV tb14 0, pV tb25 0, nV .i64 xs.length] ma0 (fun f75 => W.seq (fun K76 hK76 => ?_)))))
   refine W.seq (fun K77 hK77 => W.region (Wl.run 1 ma0 (Wl.nil (hK77 _ _ _ ?_))))
   refine W.block (W.loop1 [3, 4, 7, 8] (fun (j : Nat) => [pV tb14 0, pV tb25 0, nV .i64 xs.length, nV .i64 j]) (fun (j : Nat) => j ≤ xs.length) (fun (j : Nat) => [g.seg 76 (mm pr xs), [cb tb14 [sV g xs.length, iV .i64 50, Value.func (.func 14) #[] #[]] 74], h.seg 76 (mm pr ys), [cb tb25 [Value.slice h.a ys.length h.cap, iV .i64 50, Value.func (.func 15) #[] #[]] 74]]) (fun (j : Nat) => xs.length - j) 0 ma0 (by first | omega | trivial | simp) (by rfl) (fun j f79 J78 hp80 hJ78 => ?_))
   have hj := hp80
   refine W.seq (fun K81 hK81 => W.seq (fun K82 hK82 => ?_))
   refine W.region (Wl.run 3 ma0 (Wl.nil (hK82 _ _ _ (W.prune' [3, 4, 7, 8, 52] [pV tb14 0, pV tb25 0, nV .i64 xs.length, nV .i64 j, bV (decide (((j : Nat) : Int) < (xs.length : Int)))] ma0 (fun f83 => ?_)))))
   refine W.cond (decide (((j : Nat) : Int) < (xs.length : Int))) ma0 (fun h84 => ?_) (fun h85 => ?_)
   ·have qh84 := h84; try simp only [zA] at qh84
    refine W.skip' (hK81 _ _ _ (W.prune' [3, 4, 7, 8] [pV tb14 0, pV tb25 0, nV .i64 xs.length, nV .i64 j] ma0 (fun f86 => W.seq (fun K87 hK87 => W.block ?_))))
    refine W.seq (fun K88 hK88 => W.region (Wl.run 2 ma0 (Wl.htS rfl (HtS.call (β := Unit) (k := 18) (args := #[pV tb14 0, nV .i64 j]) (Lin := [g.seg 76 (mm pr xs), [cb tb14 [sV g xs.length, iV .i64 50, Value.func (.func 14) #[] #[]] 74]]) (Lk := [h.seg 76 (mm pr ys), [cb tb25 [Value.slice h.a ys.length h.cap, iV .i64 50, Value.func (.func 15) #[] #[]] 74]]) (Lo := fun _u => [g.seg 76 (mm pr xs), [cb tb14 [sV g xs.length, iV .i64 50, Value.func (.func 14) #[] #[]] 74], h.seg 76 (mm pr ys), [cb tb25 [Value.slice h.a ys.length h.cap, iV .i64 50, Value.func (.func 15) #[] #[]] 74]]) [0, 1] [2, 3] rfl (fun _ => kr) ma2 rfl rfl rfl (fun w_ hm_ hl_ => (atA_c xs g 50 tb14 _ (j : Int) _ hl_ ok ma1 hs)) (fun _ => rfl)) (fun _u _ => Wl.run 7 ma0 ?_))))
    refine Wl.nil (hK88 _ _ _ (W.prune' [3, 4, 7, 8, 9, 10, 11] [pV tb14 0, pV tb25 0, nV .i64 xs.length, nV .i64 j, iV .i64 ((atN xs (j : Int)).1), iV .i64 ((atN xs (j : Int)).2), bV (atO xs (j : Int))] ma0 (fun f90 => W.seq (fun K91 hK91 => W.region ?_))))
    refine Wl.run 2 ma0 (Wl.ys (v := iV .i64 (((xs.length : Nat) : Int) - 1)) rfl rfl ((Ys.pure (v := .int .i64 (isub .i64 (xs.length : Int) 1)) (fun _ => kr)).conseq (int_congr (isub_eq rfl ma1 ma1))) (Wl.run 1 ma0 (Wl.ys (v := iV .i64 (((xs.length : Int) - 1) - (j : Int))) rfl rfl ((Ys.pure (v := .int .i64 (isub .i64 (((xs.length : Nat) : Int) - 1) (j : Int))) (fun _ => kr)).conseq (int_congr (isub_eq rfl ma1 ma1))) (Wl.htS rfl (HtS.call (β := Unit) (k := 18) (args := #[pV tb25 0, iV .i64 (((xs.length : Int) - 1) - (j : Int))]) (Lin := [h.seg 76 (mm pr ys), [cb tb25 [Value.slice h.a ys.length h.cap, iV .i64 50, Value.func (.func 15) #[] #[]] 74]]) (Lk := [g.seg 76 (mm pr xs), [cb tb14 [sV g xs.length, iV .i64 50, Value.func (.func 14) #[] #[]] 74]]) (Lo := fun _u => [h.seg 76 (mm pr ys), [cb tb25 [Value.slice h.a ys.length h.cap, iV .i64 50, Value.func (.func 15) #[] #[]] 74], g.seg 76 (mm pr xs), [cb tb14 [sV g xs.length, iV .i64 50, Value.func (.func 14) #[] #[]] 74]]) [2, 3] [0, 1] rfl (fun _ => kr) ma2 rfl rfl rfl (fun w_ hm_ hl_ => (atB_c ys h 50 tb25 _ (((xs.length : Int) - 1) - (j : Int)) _ hl_ okh ma1 hsy)) (fun _ => rfl)) (fun _u _ => ?_)))))
    refine Wl.run 7 ma0 (Wl.nil (hK91 _ _ _ (W.prune' [3, 4, 7, 8, 9, 10, 11, 12, 13, 14] [pV tb14 0, pV tb25 0, nV .i64 xs.length, nV .i64 j, iV .i64 ((atN xs (j : Int)).1), iV .i64 ((atN xs (j : Int)).2), bV (atO xs (j : Int)), iV .i64 ((atN ys (((xs.length : Int) - 1) - (j : Int))).1), iV .i64 ((atN ys (((xs.length : Int) - 1) - (j : Int))).2), bV (atO ys (((xs.length : Int) - 1) - (j : Int)))] ma0 (fun f93 => W.seq (fun K94 hK94 => ?_)))))
    refine W.region (Wl.run 3 ma0 ?_)
    refine Wl.guard (v := bV (atO ys (((xs.length : Int) - 1) - (j : Int)))) (!(!(atO xs (j : Int)))) rfl (wantF rfl ma0) rfl (fun hg95 => ?_) ?_
    ·exact Ys.pure (fun _ => kr)
    refine Wl.guard (v := bV (!(atO ys (((xs.length : Int) - 1) - (j : Int))))) (!(!(atO xs (j : Int)))) rfl (wantF rfl ma0) rfl (fun hg96 => ?_) ?_
    ·refine Ys.at (t := 75) (v0 := bV (atO ys (((xs.length : Int) - 1) - (j : Int)))) (lz (g := !(!(atO xs (j : Int)))) (u := undef) hg96 ma0) ?_
     exact Ys.pure (fun _ => kr)
    refine Wl.ys (v := bV ((!(atO xs (j : Int))) || (!(atO ys (((xs.length : Int) - 1) - (j : Int)))))) rfl rfl (Ys.or' (e := !(atO xs (j : Int))) (b := !(atO ys (((xs.length : Int) - 1) - (j : Int)))) rfl ma0 ma0 ma0) (Wl.run 1 ma0 ?_)
    refine Wl.guard (v := iV .i64 ((atN xs (j : Int)).1)) (!((!(atO xs (j : Int))) || (!(atO ys (((xs.length : Int) - 1) - (j : Int)))))) rfl (wantF rfl ma0) rfl (fun hg97 => ?_) ?_
    ·exact Ys.pure (fun _ => kr)
    refine Wl.guard (v := iV .i64 ((atN ys (((xs.length : Int) - 1) - (j : Int))).1)) (!((!(atO xs (j : Int))) || (!(atO ys (((xs.length : Int) - 1) - (j : Int)))))) rfl (wantF rfl ma0) rfl (fun hg98 => ?_) ?_
    ·exact Ys.pure (fun _ => kr)
    refine Wl.guard (v := bV (((atN xs (j : Int)).1) != ((atN ys (((xs.length : Int) - 1) - (j : Int))).1))) (!((!(atO xs (j : Int))) || (!(atO ys (((xs.length : Int) - 1) - (j : Int)))))) rfl (wantF rfl ma0) rfl (fun hg99 => ?_) ?_
    ·refine Ys.at (t := 79) (v0 := iV .i64 ((atN xs (j : Int)).1)) (lz (g := !((!(atO xs (j : Int))) || (!(atO ys (((xs.length : Int) - 1) - (j : Int)))))) (u := undef) hg99 ma0) (Ys.at (t := 80) (v0 := iV .i64 ((atN ys (((xs.length : Int) - 1) - (j : Int))).1)) (lz (g := !((!(atO xs (j : Int))) || (!(atO ys (((xs.length : Int) - 1) - (j : Int)))))) (u := undef) hg99 ma0) ?_)
     exact Ys.pure (fun _ => kr)
    refine Wl.ys (v := bV (((!(atO xs (j : Int))) || (!(atO ys (((xs.length : Int) - 1) - (j : Int))))) || (((atN xs (j : Int)).1) != ((atN ys (((xs.length : Int) - 1) - (j : Int))).1)))) rfl rfl (Ys.or' (e := (!(atO xs (j : Int))) || (!(atO ys (((xs.length : Int) - 1) - (j : Int))))) (b := ((atN xs (j : Int)).1) != ((atN ys (((xs.length : Int) - 1) - (j : Int))).1)) rfl ma0 ma0 ma0) (Wl.run 1 ma0 ?_)
    refine Wl.guard (v := iV .i64 ((atN xs (j : Int)).2)) (!(((!(atO xs (j : Int))) || (!(atO ys (((xs.length : Int) - 1) - (j : Int))))) || (((atN xs (j : Int)).1) != ((atN ys (((xs.length : Int) - 1) - (j : Int))).1)))) rfl (wantF rfl ma0) rfl (fun hg100 => ?_) ?_
    ·exact Ys.pure (fun _ => kr)
    refine Wl.guard (v := iV .i64 ((atN ys (((xs.length : Int) - 1) - (j : Int))).2)) (!(((!(atO xs (j : Int))) || (!(atO ys (((xs.length : Int) - 1) - (j : Int))))) || (((atN xs (j : Int)).1) != ((atN ys (((xs.length : Int) - 1) - (j : Int))).1)))) rfl (wantF rfl ma0) rfl (fun hg101 => ?_) ?_
    ·exact Ys.pure (fun _ => kr)
    refine Wl.guard (v := bV (((atN xs (j : Int)).2) != ((atN ys (((xs.length : Int) - 1) - (j : Int))).2))) (!(((!(atO xs (j : Int))) || (!(atO ys (((xs.length : Int) - 1) - (j : Int))))) || (((atN xs (j : Int)).1) != ((atN ys (((xs.length : Int) - 1) - (j : Int))).1)))) rfl (wantF rfl ma0) rfl (fun hg102 => ?_) ?_
    ·refine Ys.at (t := 84) (v0 := iV .i64 ((atN xs (j : Int)).2)) (lz (g := !(((!(atO xs (j : Int))) || (!(atO ys (((xs.length : Int) - 1) - (j : Int))))) || (((atN xs (j : Int)).1) != ((atN ys (((xs.length : Int) - 1) - (j : Int))).1)))) (u := undef) hg102 ma0) (Ys.at (t := 85) (v0 := iV .i64 ((atN ys (((xs.length : Int) - 1) - (j : Int))).2)) (lz (g := !(((!(atO xs (j : Int))) || (!(atO ys (((xs.length : Int) - 1) - (j : Int))))) || (((atN xs (j : Int)).1) != ((atN ys (((xs.length : Int) - 1) - (j : Int))).1)))) (u := undef) hg102 ma0) ?_)
     exact Ys.pure (fun _ => kr)
    refine Wl.ys (v := bV ((((!(atO xs (j : Int))) || (!(atO ys (((xs.length : Int) - 1) - (j : Int))))) || (((atN xs (j : Int)).1) != ((atN ys (((xs.length : Int) - 1) - (j : Int))).1))) || (((atN xs (j : Int)).2) != ((atN ys (((xs.length : Int) - 1) - (j : Int))).2)))) rfl rfl (Ys.or' (e := ((!(atO xs (j : Int))) || (!(atO ys (((xs.length : Int) - 1) - (j : Int))))) || (((atN xs (j : Int)).1) != ((atN ys (((xs.length : Int) - 1) - (j : Int))).1))) (b := ((atN xs (j : Int)).2) != ((atN ys (((xs.length : Int) - 1) - (j : Int))).2)) rfl ma0 ma0 ma0) (Wl.nil (hK94 _ _ _ (W.prune' [3, 4, 7, 8, 75, 76, 79, 80, 81, 84, 85, 86, 87] [pV tb14 0, pV tb25 0, nV .i64 xs.length, nV .i64 j, (bif !(!(atO xs (j : Int))) then bV (atO ys (((xs.length : Int) - 1) - (j : Int))) else undef), (bif !(!(atO xs (j : Int))) then bV (!(atO ys (((xs.length : Int) - 1) - (j : Int)))) else undef), (bif !((!(atO xs (j : Int))) || (!(atO ys (((xs.length : Int) - 1) - (j : Int))))) then iV .i64 ((atN xs (j : Int)).1) else undef), (bif !((!(atO xs (j : Int))) || (!(atO ys (((xs.length : Int) - 1) - (j : Int))))) then iV .i64 ((atN ys (((xs.length : Int) - 1) - (j : Int))).1) else undef), (bif !((!(atO xs (j : Int))) || (!(atO ys (((xs.length : Int) - 1) - (j : Int))))) then bV (((atN xs (j : Int)).1) != ((atN ys (((xs.length : Int) - 1) - (j : Int))).1)) else undef), (bif !(((!(atO xs (j : Int))) || (!(atO ys (((xs.length : Int) - 1) - (j : Int))))) || (((atN xs (j : Int)).1) != ((atN ys (((xs.length : Int) - 1) - (j : Int))).1))) then iV .i64 ((atN xs (j : Int)).2) else undef), (bif !(((!(atO xs (j : Int))) || (!(atO ys (((xs.length : Int) - 1) - (j : Int))))) || (((atN xs (j : Int)).1) != ((atN ys (((xs.length : Int) - 1) - (j : Int))).1))) then iV .i64 ((atN ys (((xs.length : Int) - 1) - (j : Int))).2) else undef), (bif !(((!(atO xs (j : Int))) || (!(atO ys (((xs.length : Int) - 1) - (j : Int))))) || (((atN xs (j : Int)).1) != ((atN ys (((xs.length : Int) - 1) - (j : Int))).1))) then bV (((atN xs (j : Int)).2) != ((atN ys (((xs.length : Int) - 1) - (j : Int))).2)) else undef), bV ((((!(atO xs (j : Int))) || (!(atO ys (((xs.length : Int) - 1) - (j : Int))))) || (((atN xs (j : Int)).1) != ((atN ys (((xs.length : Int) - 1) - (j : Int))).1))) || (((atN xs (j : Int)).2) != ((atN ys (((xs.length : Int) - 1) - (j : Int))).2)))] ma0 (fun f103 => ?_))))
    refine W.cond ((((!(atO xs (j : Int))) || (!(atO ys (((xs.length : Int) - 1) - (j : Int))))) || (((atN xs (j : Int)).1) != ((atN ys (((xs.length : Int) - 1) - (j : Int))).1))) || (((atN xs (j : Int)).2) != ((atN ys (((xs.length : Int) - 1) - (j : Int))).2))) ma0 (fun h104 => ?_) (fun h105 => ?_)
    ·have qh104 := h104; try simp only [zA] at qh104
     (exfalso; obtain ⟨a1_, a2_⟩ := at_nat (xs := xs) (i := j) ma1; obtain ⟨b1_, b2_⟩ := at_rev (xs := xs) (i := j) ma1; have z_ := h104; rw [hr, a1_, a2_, b1_, b2_] at z_; simp at z_)
    ·have qh105 := h105; try simp only [zA] at qh105
     refine W.skip' (hK87 _ _ _ (W.prune' [3, 4, 7, 8, 75, 76, 79, 80, 81, 84, 85, 86] [pV tb14 0, pV tb25 0, nV .i64 xs.length, nV .i64 j, (bif !(!(atO xs (j : Int))) then bV (atO ys (((xs.length : Int) - 1) - (j : Int))) else undef), (bif !(!(atO xs (j : Int))) then bV (!(atO ys (((xs.length : Int) - 1) - (j : Int)))) else undef), (bif !((!(atO xs (j : Int))) || (!(atO ys (((xs.length : Int) - 1) - (j : Int))))) then iV .i64 ((atN xs (j : Int)).1) else undef), (bif !((!(atO xs (j : Int))) || (!(atO ys (((xs.length : Int) - 1) - (j : Int))))) then iV .i64 ((atN ys (((xs.length : Int) - 1) - (j : Int))).1) else undef), (bif !((!(atO xs (j : Int))) || (!(atO ys (((xs.length : Int) - 1) - (j : Int))))) then bV (((atN xs (j : Int)).1) != ((atN ys (((xs.length : Int) - 1) - (j : Int))).1)) else undef), (bif !(((!(atO xs (j : Int))) || (!(atO ys (((xs.length : Int) - 1) - (j : Int))))) || (((atN xs (j : Int)).1) != ((atN ys (((xs.length : Int) - 1) - (j : Int))).1))) then iV .i64 ((atN xs (j : Int)).2) else undef), (bif !(((!(atO xs (j : Int))) || (!(atO ys (((xs.length : Int) - 1) - (j : Int))))) || (((atN xs (j : Int)).1) != ((atN ys (((xs.length : Int) - 1) - (j : Int))).1))) then iV .i64 ((atN ys (((xs.length : Int) - 1) - (j : Int))).2) else undef), (bif !(((!(atO xs (j : Int))) || (!(atO ys (((xs.length : Int) - 1) - (j : Int))))) || (((atN xs (j : Int)).1) != ((atN ys (((xs.length : Int) - 1) - (j : Int))).1))) then bV (((atN xs (j : Int)).2) != ((atN ys (((xs.length : Int) - 1) - (j : Int))).2)) else undef)] ma0 (fun f106 => W.region (Wl.run 1 ma0 ?_))))
     refine Wl.ys (v := nV .i64 (j + 1)) rfl rfl ((Ys.pure (v := .int .i64 (iadd .i64 (j : Int) 1)) (fun _ => kr)).conseq (int_congr (iadd_eq ma1 ma1 ma1))) (Wl.run 1 ma0 (Wl.nil ?_))
     refine fun w_ h_ => hJ78 (j + 1) _ w_ ma1 (by first | omega | trivial | simp) ?_ (h_.pick [2, 3, 0, 1] ma2 rfl)
     kernel_rfl
   ·have qh85 := h85; try simp only [zA] at qh85
    refine W.exit (hK76 _ _ _ (W.pick (LL' := [h.seg 76 (mm pr ys), [cb tb25 [Value.slice h.a ys.length h.cap, iV .i64 50, Value.func (.func 15) #[] #[]] 74]]) [2, 3] ma2 rfl (W.prune' [4, 7] [pV tb25 0, nV .i64 xs.length] ma0 (fun f107 => W.seq (fun K108 hK108 => ?_)))))
    refine W.region (Wl.run 1 ma0 (Wl.htS rfl (HtS.call (β := Unit) (k := 17) (args := #[pV tb25 0]) (Lin := [h.seg 76 (mm pr ys), [cb tb25 [Value.slice h.a ys.length h.cap, iV .i64 50, Value.func (.func 15) #[] #[]] 74]]) (Lk := []) (Lo := fun _u => [h.seg 76 (mm pr ys), [cb tb25 [Value.slice h.a ys.length h.cap, iV .i64 50, Value.func (.func 15) #[] #[]] 74]]) [0, 1] [] rfl (fun _ => kr) ma2 rfl rfl rfl (fun w_ hm_ hl_ => (lenB_c ys h 50 tb25 _  _ hl_ okh ma1 hsy)) (fun _ => rfl)) (fun _u _ => Wl.run 3 ma0 (Wl.nil ?_))))
    refine hK108 _ _ _ (W.pick (LL' := []) [] ma2 rfl (W.prune' [2] [bV (((ys.length : Nat) : Int) == (xs.length : Int))] ma0 (fun f110 => W.ret ?_)))
    show ∀ w_, _ → bodyPostM (fence none) 0 Try.prog Try.f3 _ Exit.ret _ w_
    exact fun w_ hS_ => fin_ret (ret1 rfl (RV.tmp (v := bV (((ys.length : Nat) : Int) == (xs.length : Int))) ma0) hS_ ⟨by clear hK1 hK2 hK3 hK6 hK7 hK13 hK17 hK28 hK29 hK39 hK40 hJ42 hK45 hK46 hK73 hK76 hK77 hJ78 hK81 hK82 hK108; refine congrArg Ending.returned ?_; exact bool_congr (by rw [hrl_]; simp), hS_.below⟩)
end Go.Proofs.Ythfagedaijoenaa.Oct
