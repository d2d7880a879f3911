import Derived.Test.YthfagedaijoenaaKKy5
set_option linter.unusedVariables false
set_option linter.unusedSimpArgs false
set_option maxRecDepth 20000
namespace Go.Proofs.Ythfagedaijoenaa.Oct
open Go.RowKit Base
attribute [local irreducible] Ys Yc Ht HtS HtIn Wl Wd W Mem pf dpf Wa Wo
theorem FS.of_none {g : FS} {sz n : Nat} (ok : g.ok sz n) (h : g.a.isNone = true) : n = 0 := by
  cases hn : g.nil
  · rw [FS.a_own hn] at h; cases h
  · exact (ok.h0 hn).1
theorem clone_c (xs : List (Int × Int)) (g : FS) (M : List Nat) (w : World) (hl : Mem w M [g.seg 76 (mm pr xs)] w) (ok : g.ok 2 xs.length) (hn : xs.length ≤ 100000) : Calls Try.prog 47 #[sV g xs.length] w (RetM w (fun g' : FS => g'.ok 2 xs.length) (fun g' => .slice g'.a xs.length g'.cap) M (fun g' => [g'.seg 76 (mm pr xs), g.seg 76 (mm pr xs)])) := by
 refine calls_W (M := M) (LL := [g.seg 76 (mm pr xs)]) (n := 8) Try.func47 rfl rfl sp (hl) (W.seq (fun K1 hK1 => ?_))
 refine W.region (Wl.run 1 ma0 (Wl.nil (hK1 _ _ _ (W.seq (fun K2 hK2 => ?_)))))
 refine W.seq (fun K3 hK3 => W.region (Wl.run 1 ma0 (Wl.ys (v := bV g.a.isNone) rfl rfl (Ys.pure (fun _ => by (try unfold sV); generalize g.a = a_; cases a_ <;> kernel_rfl)) (Wl.nil ?_))))
 refine hK3 _ _ _ (W.prune' [0, 4] [sV g xs.length, bV g.a.isNone] ma0 (fun f4 => ?_))
 refine W.cond (g.a.isNone) ma0 (fun h5 => ?_) (fun h6 => ?_)
 ·refine W.seq (fun K7 hK7 => W.region (Wl.run 1 ma0 (Wl.nil (hK7 _ _ _ ?_))))
  refine W.ret ?_
  have hx0_ : xs = [] := List.length_eq_zero_iff.1 (FS.of_none ok h5)
  show ∀ w_, _ → bodyPostM (fence none) 0 Try.prog Try.f47 _ Exit.ret _ w_
  exact fun w_ hS_ => fin_ret (ret1 rfl (RV.tmp (v := Value.slice none 0 0) ma0) hS_ ⟨FS.nul, (by rw [hx0_]; exact FS.nul_ok 2), congrArg Ending.returned ((by rw [hx0_]; rfl)), (Mem.cast (by rw [hx0_]; rfl) (Mem.push (hS_.pick [0] ma2 rfl)))⟩)
 ·refine W.skip' (hK2 _ _ _ (W.prune' [0] [sV g xs.length] ma0 (fun f8 => W.seq (fun K9 hK9 => W.region ?_))))
  refine Wl.ht rfl (Ht.made (mk := fun b_ => .slice (some ⟨b_, 0, none⟩) 0 0) (t := 76) (cs := []) rfl (fun _ => kr)) (fun p5 => Wl.run 1 ma0 (Wl.htS rfl (HtS.append (eu := 76) (xv := sV g xs.length) (i := 0) (g := (FS.mk false p5 0 [])) (e := 76) (ii := (Try.prog.info? 76).getD default) (z := aV zl0) (sz := 2) (bytes := 16) (nn := 0) (m := xs.length) (k := xs.length) (xs := []) (news := mm pr xs) (cs' := mm pr xs) (Lo := fun g10 => [g10.seg 76 (mm pr xs), g.seg 76 (mm pr xs)]) rfl rfl ma0 ma0 ma0 ma0 ma0 ma0 ma0 ma0 ma0 rfl (FS.lit_ok ma2) rfl (fun _ => rfl) (Src.at (a := g.a) (mm_len pr_len _) (fun w_ h_ => FS.at (i := 1) (t := 76) h_ rfl (FS.nil_cs ok (mm_len pr_len _)))) (mm_len pr_len _) (mm_one pr_one _) (Nat.zero_add _) (by simp only [maxLen]; omega) ma1 rfl (fun _ => rfl)) (fun g10 hx15 => ?_)))
  obtain ⟨ok11, hn12, hn13⟩ := hx15
  refine Wl.run 1 ma0 (Wl.nil (hK9 _ _ _ (W.prune' [2] [sV g10 xs.length] ma0 (fun f16 => W.ret ?_))))
  show ∀ w_, _ → bodyPostM (fence none) 0 Try.prog Try.f47 _ Exit.ret _ w_
  exact fun w_ hS_ => fin_ret (ret1 rfl (RV.tmp (v := sV g10 xs.length) ma0) hS_ ⟨g10, ok11, rfl, (hS_.pick [0, 1] ma2 rfl)⟩)
theorem all_c (tb : Nat) (w : World) : Calls Try.prog 24 #[pV tb 0] w (RetM w (fun _ : Nat => True) (fun b => .func (.func 46) #[] #[.pointer (some ⟨b, 0, none⟩)]) [] (fun b => [[cb b [.pointer (some ⟨tb, 0, none⟩)] 24]])) := by
 refine calls_W (M := []) (LL := []) (n := 4) Try.func24 rfl rfl sp (Mem.refl _) (W.seq (fun K1 hK1 => ?_))
 refine W.region (Wl.ht rfl (Ht.box (v := pV tb 0) (cs := [pV tb 0]) rfl rfl ma0 rfl) (fun p1 => ?_))
 refine Wl.run 1 ma0 (Wl.nil (hK1 _ _ _ (W.prune' [1] [pV p1 0] ma0 (fun f2 => W.seq (fun K3 hK3 => ?_)))))
 refine W.region (Wl.run 2 ma0 (Wl.nil (hK3 _ _ _ (W.prune' [2] [Value.func (.func 46) #[] #[pV p1 0]] ma0 (fun f4 => ?_)))))
 refine W.ret ?_
 show ∀ w_, _ → bodyPostM (fence none) 0 Try.prog Try.f24 _ Exit.ret _ w_
 exact fun w_ hS_ => fin_ret (ret1 rfl (RV.tmp (v := Value.func (.func 46) #[] #[pV p1 0]) ma0) hS_ ⟨p1, trivial, rfl, (hS_.pick [0] ma2 rfl)⟩)
def okR (b : Bool) (xs : List (Int × Int)) (k v c l : Int) : Bool := ((b && hasK 1 xs k) && (getK 1 xs k == v)) && ((c == 0) || decide (k > l))
theorem rise1_c (xs : List (Int × Int)) (g : FS) (most : Int) (tb pp po pc pl : Nat) (bo : Bool) (c l k v : Int) (M : List Nat) (w : World) (hl : Mem w M [g.seg 76 (mm pr xs), [cb tb [Value.slice g.a xs.length g.cap, Value.int .i64 most, Value.func (.func 14) #[] #[]] 74], [cb pp [Value.pointer (some ⟨tb, 0, none⟩)] 24], [cb po [Value.bool bo] 4], [cb pc [Value.int .i64 c] 3], [cb pl [Value.int .i64 l] 3]] w) (ok : g.ok 2 xs.length) (hn : xs.length ≤ 100000) (hs : Srt 1 xs) (hc : 0 ≤ c) (hc2 : c ≤ 100000) : Calls Try.prog 27 #[iV .i64 k, iV .i64 v, pV pp 0, pV po 0, pV pc 0, pV pl 0] w (RetM w (fun _ : Unit => True) (fun _ => .bool true) M (fun _ => [g.seg 76 (mm pr xs), [cb tb [sV g xs.length, iV .i64 most, Value.func (.func 14) #[] #[]] 74], [cb pp [pV tb 0] 24], [cb po [bV (okR bo xs k v c l)] 4], [cb pc [iV .i64 (c + 1)] 3], [cb pl [iV .i64 k] 3]])) := by
 refine calls_W (M := M) (LL := [g.seg 76 (mm pr xs), [cb tb [sV g xs.length, iV .i64 most, Value.func (.func 14) #[] #[]] 74], [cb pp [pV tb 0] 24], [cb po [bV bo] 4], [cb pc [iV .i64 c] 3], [cb pl [iV .i64 l] 3]]) (n := 38) Try.func27 rfl rfl sp (hl) (W.seq (fun K1 hK1 => ?_))
 refine W.region (Wl.run 1 ma0 (Wl.nil (hK1 _ _ _ (W.seq (fun K2 hK2 => ?_)))))
 refine W.region (Wl.ys rfl rfl (Ys.l1 pp 0 2 0 Try.isAgg24) (Wl.run 1 ma0 (Wl.yc (v := Value.tuple #[iV .i64 (getK 1 xs k), bV (hasK 1 xs k)]) rfl rfl (Yc.call (fun _ => kr) (fun w_ hm_ => (let z_ := Mem.local' (hm_.pick [0, 1] ma2 rfl); ret_same z_ (getA_c xs g most tb _ k w_ z_ ok ma1 hs)))) (Wl.run 5 ma0 ?_))))
 refine Wl.nil (hK2 _ _ _ (W.prune' [0, 1, 3, 4, 5, 9, 10] [iV .i64 k, iV .i64 v, pV po 0, pV pc 0, pV pl 0, iV .i64 (getK 1 xs k), bV (hasK 1 xs k)] ma0 (fun f3 => W.seq (fun K4 hK4 => W.region ?_))))
 refine Wl.ys rfl rfl (Ys.l1 po 0 3 0 Try.isAgg4) (Wl.run 1 ma0 ?_)
 refine Wl.guard (v := bV (hasK 1 xs k)) (bo) rfl (wantT rfl ma0) rfl (fun hg5 => ?_) ?_
 ·exact Ys.pure (fun _ => kr)
 refine Wl.ys (v := bV (bo && (hasK 1 xs k))) rfl rfl (Ys.and (e := bo) (b := hasK 1 xs k) rfl ma0 ma0 ma0) (Wl.run 1 ma0 ?_)
 refine Wl.guard (v := iV .i64 (getK 1 xs k)) (bo && (hasK 1 xs k)) rfl (wantT rfl ma0) rfl (fun hg6 => ?_) ?_
 ·exact Ys.pure (fun _ => kr)
 refine Wl.guard (v := iV .i64 v) (bo && (hasK 1 xs k)) rfl (wantT rfl ma0) rfl (fun hg7 => ?_) ?_
 ·exact Ys.pure (fun _ => kr)
 refine Wl.guard (v := bV ((getK 1 xs k) == v)) (bo && (hasK 1 xs k)) rfl (wantT rfl ma0) rfl (fun hg8 => ?_) ?_
 ·refine Ys.at (t := 22) (v0 := iV .i64 (getK 1 xs k)) (lz (g := bo && (hasK 1 xs k)) (u := undef) hg8 ma0) (Ys.at (t := 23) (v0 := iV .i64 v) (lz (g := bo && (hasK 1 xs k)) (u := undef) hg8 ma0) ?_)
  exact Ys.pure (fun _ => kr)
 refine Wl.ys (v := bV ((bo && (hasK 1 xs k)) && ((getK 1 xs k) == v))) rfl rfl (Ys.and (e := bo && (hasK 1 xs k)) (b := (getK 1 xs k) == v) rfl ma0 ma0 ma0) (Wl.run 1 ma0 ?_)
 refine Wl.guard (v := iV .i64 c) ((bo && (hasK 1 xs k)) && ((getK 1 xs k) == v)) rfl (wantT rfl ma0) rfl (fun hg9 => ?_) ?_
 ·exact Ys.l1 pc 0 4 0 Try.isAgg3
 refine Wl.guard (v := bV (c == 0)) ((bo && (hasK 1 xs k)) && ((getK 1 xs k) == v)) rfl (wantT rfl ma0) rfl (fun hg10 => ?_) ?_
 ·refine Ys.at (t := 27) (v0 := iV .i64 c) (lz (g := (bo && (hasK 1 xs k)) && ((getK 1 xs k) == v)) (u := undef) hg10 ma0) ?_
  exact Ys.pure (fun _ => kr)
 refine Wl.guard (v := bV (c == 0)) ((bo && (hasK 1 xs k)) && ((getK 1 xs k) == v)) rfl (wantT rfl ma0) rfl (fun hg11 => ?_) ?_
 ·refine Ys.at (t := 28) (v0 := bV (c == 0)) (lz (g := (bo && (hasK 1 xs k)) && ((getK 1 xs k) == v)) (u := undef) hg11 ma0) ?_
  exact Ys.pure (fun _ => kr)
 refine Wl.guard (v := iV .i64 k) (((bo && (hasK 1 xs k)) && ((getK 1 xs k) == v)) && !(c == 0)) rfl (wantFz rfl rfl ma0) rfl (fun hg12 => ?_) ?_
 ·exact Ys.pure (fun _ => kr)
 refine Wl.guard (v := iV .i64 l) (((bo && (hasK 1 xs k)) && ((getK 1 xs k) == v)) && !(c == 0)) rfl (wantFz rfl rfl ma0) rfl (fun hg13 => ?_) ?_
 ·exact Ys.l1 pl 0 5 0 Try.isAgg3
 refine Wl.guard (v := bV (decide (k > l))) (((bo && (hasK 1 xs k)) && ((getK 1 xs k) == v)) && !(c == 0)) rfl (wantFz rfl rfl ma0) rfl (fun hg14 => ?_) ?_
 ·refine Ys.at (t := 30) (v0 := iV .i64 k) (lz (g := ((bo && (hasK 1 xs k)) && ((getK 1 xs k) == v)) && !(c == 0)) (u := undef) hg14 ma0) (Ys.at (t := 31) (v0 := iV .i64 l) (lz (g := ((bo && (hasK 1 xs k)) && ((getK 1 xs k) == v)) && !(c == 0)) (u := undef) hg14 ma0) ?_)
  exact Ys.pure (fun _ => kr)
 refine Wl.guard (v := bV ((c == 0) || (decide (k > l)))) ((bo && (hasK 1 xs k)) && ((getK 1 xs k) == v)) rfl (wantT rfl ma0) rfl (fun hg15 => ?_) ?_
 ·have qhg15 := hg15; try simp only [zA] at qhg15
  refine Ys.at (t := 29) (v0 := bV (c == 0)) (lz (g := (bo && (hasK 1 xs k)) && ((getK 1 xs k) == v)) (u := undef) hg15 ma0) (Ys.at (t := 32) (v0 := (bif !(c == 0) then bV (decide (k > l)) else undef)) (lz2 (g := (bo && (hasK 1 xs k)) && ((getK 1 xs k) == v)) hg15 ma0) ?_)
  exact Ys.or' (e := c == 0) (b := decide (k > l)) rfl ma0 ma0 ma0
 refine Wl.ys (v := bV (((bo && (hasK 1 xs k)) && ((getK 1 xs k) == v)) && ((c == 0) || (decide (k > l))))) rfl rfl (Ys.and (e := (bo && (hasK 1 xs k)) && ((getK 1 xs k) == v)) (b := (c == 0) || (decide (k > l))) rfl ma0 ma0 ma0) (Wl.ht rfl (Ht.store (b := po) (o' := 0) (i := 3) (j := 0) (v := bV (((bo && (hasK 1 xs k)) && ((getK 1 xs k) == v)) && ((c == 0) || (decide (k > l))))) (LL' := [g.seg 76 (mm pr xs), [cb tb [sV g xs.length, iV .i64 most, Value.func (.func 14) #[] #[]] 74], [cb pp [pV tb 0] 24], [cb po [bV (((bo && (hasK 1 xs k)) && ((getK 1 xs k) == v)) && ((c == 0) || (decide (k > l))))] 4], [cb pc [iV .i64 c] 3], [cb pl [iV .i64 l] 3]]) rfl rfl ma0 ma0 Try.sizeOf4 rfl rfl rfl sp rfl rfl) (fun _ => ?_))
 refine Wl.nil (hK4 _ _ _ (W.prune' [0, 4, 5] [iV .i64 k, pV pc 0, pV pl 0] ma0 (fun f16 => W.seq (fun K17 hK17 => W.region ?_))))
 refine Wl.run 1 ma0 (Wl.ht rfl (Ht.store (b := pl) (o' := 0) (i := 5) (j := 0) (v := iV .i64 k) (LL' := [g.seg 76 (mm pr xs), [cb tb [sV g xs.length, iV .i64 most, Value.func (.func 14) #[] #[]] 74], [cb pp [pV tb 0] 24], [cb po [bV (((bo && (hasK 1 xs k)) && ((getK 1 xs k) == v)) && ((c == 0) || (decide (k > l))))] 4], [cb pc [iV .i64 c] 3], [cb pl [iV .i64 k] 3]]) rfl rfl ma0 ma0 Try.sizeOf3 rfl rfl rfl sp rfl rfl) (fun _ => ?_))
 refine Wl.nil (hK17 _ _ _ (W.prune' [4] [pV pc 0] ma0 (fun f18 => W.seq (fun K19 hK19 => W.region ?_))))
 refine Wl.ys rfl rfl (Ys.l1 pc 0 4 0 Try.isAgg3) (Wl.ys (v := iV .i64 (c + 1)) rfl rfl ((Ys.pure (v := .int .i64 (iadd .i64 c 1)) (fun _ => kr)).conseq (int_congr (iadd_eq ma1 ma1 ma1))) (Wl.ht rfl (Ht.store (b := pc) (o' := 0) (i := 4) (j := 0) (v := iV .i64 (c + 1)) (LL' := [g.seg 76 (mm pr xs), [cb tb [sV g xs.length, iV .i64 most, Value.func (.func 14) #[] #[]] 74], [cb pp [pV tb 0] 24], [cb po [bV (((bo && (hasK 1 xs k)) && ((getK 1 xs k) == v)) && ((c == 0) || (decide (k > l))))] 4], [cb pc [iV .i64 (c + 1)] 3], [cb pl [iV .i64 k] 3]]) rfl rfl ma0 ma0 Try.sizeOf3 rfl rfl rfl sp rfl rfl) (fun _ => Wl.nil (hK19 _ _ _ ?_))))
 refine W.prune' [] [] ma0 (fun f20 => W.seq (fun K21 hK21 => ?_))
 refine W.region (Wl.run 1 ma0 (Wl.nil (hK21 _ _ _ (W.ret ?_))))
 show ∀ w_, _ → bodyPostM (fence none) 0 Try.prog Try.f27 _ Exit.ret _ w_
 exact fun w_ hS_ => fin_ret (ret1 rfl (RV.tmp (v := bV true) ma0) hS_ ⟨(), trivial, rfl, (hS_.pick [0, 1, 2, 3, 4, 5] ma2 rfl)⟩)
theorem srt_get {xs : List (Int × Int)} (h : Srt 1 xs) {i j : Nat} (hij : i < j) (hj : j < xs.length) : (xs.getD i (0, 0)).1 < (xs.getD j (0, 0)).1 := by
  have := List.pairwise_iff_getElem.1 h i j ma1 hj hij
  simp only [List.getD_eq_getElem?_getD, List.getElem?_eq_getElem hj, List.getElem?_eq_getElem (show i < xs.length by omega), Option.getD_some]
  omega
theorem get_mem {xs : List (Int × Int)} {i : Nat} (h : i < xs.length) : ((xs.getD i (0, 0)).1, (xs.getD i (0, 0)).2) ∈ xs := by
  rw [List.getD_eq_getElem?_getD, List.getElem?_eq_getElem h]; exact List.getElem_mem h
theorem rise_ok {xs : List (Int × Int)} (hs : Srt 1 xs) {i : Nat} {l : Int} (hi : i < xs.length) (hl : i = 0 ∨ l = (xs.getD (i - 1) (0, 0)).1) : okR true xs (xs.getD i (0, 0)).1 (xs.getD i (0, 0)).2 (i : Int) l = true := by
  have hm := get_mem hi
  unfold okR
  rw [has_of hs hm, getK_mem sg1 hs hm]
  rcases hl with rfl | rfl
  · simp
  · by_cases h0 : i = 0
    · subst h0; simp
    · have := srt_get hs (show i - 1 < i by omega) hi
      rw [decide_eq_true (show (xs.getD i (0, 0)).1 > (xs.getD (i - 1) (0, 0)).1 by omega)]; simp
abbrev cKy6_942_0 (g : FS) (most : Int) (tb : Nat) (xs : List (Int × Int)) : List Blk := [cb tb [sV g xs.length, iV .i64 most, Value.func (.func 14) #[] #[]] 74]
theorem allrise_c (xs : List (Int × Int)) (g : FS) (most : Int) (tb pa pp po pc pl : Nat) (M : List Nat) (w : World) (hl : Mem w M [g.seg 76 (mm pr xs), [cb tb [Value.slice g.a xs.length g.cap, Value.int .i64 most, Value.func (.func 14) #[] #[]] 74], [cb pa [Value.pointer (some ⟨tb, 0, none⟩)] 24], [cb pp [Value.pointer (some ⟨tb, 0, none⟩)] 24], [cb po [Value.bool true] 4], [cb pc [Value.int .i64 0] 3], [cb pl [Value.int .i64 0] 3]] w) (ok : g.ok 2 xs.length) (hn : xs.length ≤ 99999) (hs : Srt 1 xs) : Calls Try.prog 46 #[Value.func (.func 27) #[] #[pV pp 0, pV po 0, pV pc 0, pV pl 0], pV pa 0] w (RetM w (fun _ : Int => True) (fun _ => .tuple #[]) M (fun l => [g.seg 76 (mm pr xs), [cb tb [sV g xs.length, iV .i64 most, Value.func (.func 14) #[] #[]] 74], [cb pa [pV tb 0] 24], [cb pp [pV tb 0] 24], [cb po [bV true] 4], [cb pc [nV .i64 xs.length] 3], [cb pl [iV .i64 l] 3]])) := by
 refine calls_W (M := M) (LL := [g.seg 76 (mm pr xs), cKy6_942_0 g most tb xs, [cb pa [pV tb 0] 24], [cb pp [pV tb 0] 24], [cb po [bV true] 4], [cb pc [iV .i64 0] 3], [cb pl [iV .i64 0] 3]]) (n := 23) Try.func46 rfl rfl sp (hl) (W.seq (fun K1 hK1 => ?_))
 refine W.region (Wl.ys rfl rfl (Ys.l1 pa 0 2 0 Try.isAgg24) (Wl.run 2 ma0 (Wl.ys rfl rfl (Ys.l1 tb 0 1 0 Try.isAgg72) (Wl.htS rfl (HtS.call (β := FS) (k := 47) (args := #[sV g xs.length]) (Lin := [g.seg 76 (mm pr xs)]) (Lk := [cKy6_942_0 g most tb xs, [cb pa [pV tb 0] 24], [cb pp [pV tb 0] 24], [cb po [bV true] 4], [cb pc [iV .i64 0] 3], [cb pl [iV .i64 0] 3]]) (Lo := fun g2 => [g2.seg 76 (mm pr xs), g.seg 76 (mm pr xs), cKy6_942_0 g most tb xs, [cb pa [pV tb 0] 24], [cb pp [pV tb 0] 24], [cb po [bV true] 4], [cb pc [iV .i64 0] 3], [cb pl [iV .i64 0] 3]]) [0] [1, 2, 3, 4, 5, 6] rfl (fun _ => kr) ma2 rfl rfl rfl (fun w_ hm_ hl_ => (clone_c xs g _ _ hl_ ok ma1)) (fun _ => rfl)) (fun g2 ok3 => ?_)))))
 refine Wl.run 2 ma0 (Wl.nil (hK1 _ _ _ (W.prune' [0, 9, 10, 11] [Value.func (.func 27) #[] #[pV pp 0, pV po 0, pV pc 0, pV pl 0], sV g2 xs.length, nV .i64 xs.length, iV .i64 0] ma0 (fun f5 => W.block ?_))))
 refine W.loop2 [0, 9, 10, 11] (fun (i : Nat) (l : Int) => [Value.func (.func 27) #[] #[pV pp 0, pV po 0, pV pc 0, pV pl 0], sV g2 xs.length, nV .i64 xs.length, nV .i64 i]) (fun (i : Nat) (l : Int) => i ≤ xs.length ∧ (i = 0 ∨ l = (xs.getD (i - 1) (0, 0)).1)) (fun (i : Nat) (l : Int) => [g2.seg 76 (mm pr xs), g.seg 76 (mm pr xs), cKy6_942_0 g most tb xs, [cb pa [pV tb 0] 24], [cb pp [pV tb 0] 24], [cb po [bV true] 4], [cb pc [nV .i64 i] 3], [cb pl [iV .i64 l] 3]]) (fun (i : Nat) (l : Int) => xs.length - i) 0 0 ma0 ⟨(Nat.zero_le _), (.inl rfl)⟩ (by rfl) (fun i l f7 J6 hp8 hJ6 => ?_)
 obtain ⟨hi, hll⟩ := hp8
 refine W.seq (fun K9 hK9 => W.region (Wl.run 1 ma0 (Wl.nil (hK9 _ _ _ ?_))))
 refine W.seq (fun K10 hK10 => ?_)
 refine W.cond (decide (((i : Nat) : Int) < (xs.length : Int))) ma0 (fun h11 => ?_) (fun h12 => ?_)
 ·have qh11 := h11; try simp only [zA] at qh11
  refine W.skip' (hK10 _ _ _ (W.prune' [0, 9, 10, 11] [Value.func (.func 27) #[] #[pV pp 0, pV po 0, pV pc 0, pV pl 0], sV g2 xs.length, nV .i64 xs.length, nV .i64 i] ma0 (fun f13 => W.seq (fun K14 hK14 => W.block ?_))))
  refine W.seq (fun K15 hK15 => W.region (Wl.ys (v := Value.pointer (some (ela g2.a (i * 2)))) rfl rfl (Ys.indexAddr (k := .i64) (a := g2.a) (len := xs.length) (cap := g2.cap) (i := (i : Int)) (sz := 2) rfl ma0 ma0 Try.runUnderlying72 Try.sizeOf76 ma1 ma1 (by rw [FS.a_own (FS.notnil ok3 ma1)]; rfl)) (Wl.ys (v := aV [iV .i64 ((xs.getD i (0, 0)).1), iV .i64 ((xs.getD i (0, 0)).2)]) rfl rfl (Ys.ldN (a := ela g2.a (i * 2)) (vs := [iV .i64 ((xs.getD i (0, 0)).1), iV .i64 ((xs.getD i (0, 0)).2)]) rfl ma0 Try.isAgg76 Try.sizeOf76 rfl (fun w_ h_ => (FS.at (i := 0) (t := 76) h_ rfl (FS.nil_cs ok3 (mm_len pr_len _))).ldN (mm_get (g := pr) (sz := 2) (fun _ => rfl) (0, 0) (xs := xs) (k := i) ma1))) (Wl.ht rfl (Ht.alloc (z := aV zl0) (cs := zl0) rfl rfl Try.zeroValue76 rfl) (fun p4 => ?_)))))
  refine Wl.ht rfl (Ht.storeN (b := p4) (o' := 0) (i := 0) (j := 0) (vs := [iV .i64 ((xs.getD i (0, 0)).1), iV .i64 ((xs.getD i (0, 0)).2)]) (LL' := [[cb p4 [iV .i64 ((xs.getD i (0, 0)).1), iV .i64 ((xs.getD i (0, 0)).2)] 76], g2.seg 76 (mm pr xs), g.seg 76 (mm pr xs), cKy6_942_0 g most tb xs, [cb pa [pV tb 0] 24], [cb pp [pV tb 0] 24], [cb po [bV true] 4], [cb pc [nV .i64 i] 3], [cb pl [iV .i64 l] 3]]) rfl rfl ma0 ma0 Try.sizeOf76 (by simp [Value.oneCell']) rfl rfl sp rfl rfl) (fun _ => Wl.nil (hK15 _ _ _ (W.prune' [0, 4, 9, 10, 11] [Value.func (.func 27) #[] #[pV pp 0, pV po 0, pV pc 0, pV pl 0], pV p4 0, sV g2 xs.length, nV .i64 xs.length, nV .i64 i] ma0 (fun f16 => W.seq (fun K17 hK17 => ?_)))))
  refine W.region (Wl.run 2 ma0 (Wl.ys rfl rfl (Ys.l1 p4 0 0 0 Try.isAgg3) (Wl.run 1 ma0 (Wl.ys rfl rfl (Ys.l1 p4 1 0 0 Try.isAgg3) ?_))))
  refine Wl.htS rfl (HtS.call (β := Unit) (k := 27) (args := #[iV .i64 ((xs.getD i (0, 0)).1), iV .i64 ((xs.getD i (0, 0)).2), pV pp 0, pV po 0, pV pc 0, pV pl 0]) (Lin := [g.seg 76 (mm pr xs), cKy6_942_0 g most tb xs, [cb pp [pV tb 0] 24], [cb po [bV true] 4], [cb pc [nV .i64 i] 3], [cb pl [iV .i64 l] 3]]) (Lk := [[cb p4 [iV .i64 ((xs.getD i (0, 0)).1), iV .i64 ((xs.getD i (0, 0)).2)] 76], g2.seg 76 (mm pr xs), [cb pa [pV tb 0] 24]]) (Lo := fun _u => [g.seg 76 (mm pr xs), cKy6_942_0 g most tb xs, [cb pp [pV tb 0] 24], [cb po [bV (okR true xs ((xs.getD i (0, 0)).1) ((xs.getD i (0, 0)).2) (i : Int) l)] 4], [cb pc [nV .i64 (i + 1)] 3], [cb pl [iV .i64 ((xs.getD i (0, 0)).1)] 3], [cb p4 [iV .i64 ((xs.getD i (0, 0)).1), iV .i64 ((xs.getD i (0, 0)).2)] 76], g2.seg 76 (mm pr xs), [cb pa [pV tb 0] 24]]) [2, 3, 5, 6, 7, 8] [0, 1, 4] rfl (fun _ => kr) ma2 rfl rfl rfl (fun w_ hm_ hl_ => (rise1_c xs g most tb pp po pc pl true (i : Int) l ((xs.getD i (0, 0)).1) ((xs.getD i (0, 0)).2) _ _ hl_ ok ma1 hs ma1 ma1)) (fun _ => rfl)) (fun _u _ => Wl.run 1 ma0 (Wl.nil (hK17 _ _ _ (W.pick (LL' := [g.seg 76 (mm pr xs), cKy6_942_0 g most tb xs, [cb pp [pV tb 0] 24], [cb po [bV (okR true xs ((xs.getD i (0, 0)).1) ((xs.getD i (0, 0)).2) (i : Int) l)] 4], [cb pc [nV .i64 (i + 1)] 3], [cb pl [iV .i64 ((xs.getD i (0, 0)).1)] 3], g2.seg 76 (mm pr xs), [cb pa [pV tb 0] 24]]) [0, 1, 2, 3, 4, 5, 7, 8] ma2 rfl ?_))))
  refine W.prune' [0, 9, 10, 11, 21] [Value.func (.func 27) #[] #[pV pp 0, pV po 0, pV pc 0, pV pl 0], sV g2 xs.length, nV .i64 xs.length, nV .i64 i, bV false] ma0 (fun f19 => W.condF ma0 (W.skip' (hK14 _ _ _ (W.prune' [0, 9, 10, 11] [Value.func (.func 27) #[] #[pV pp 0, pV po 0, pV pc 0, pV pl 0], sV g2 xs.length, nV .i64 xs.length, nV .i64 i] ma0 (fun f20 => ?_)))))
  refine W.region (Wl.ys (v := nV .i64 (i + 1)) rfl rfl ((Ys.pure (v := .int .i64 (iadd .i64 (i : Int) 1)) (fun _ => kr)).conseq (int_congr (iadd_eq ma1 ma1 ma1))) (Wl.run 1 ma0 (Wl.nil ?_)))
  refine fun w_ h_ => hJ6 (i + 1) ((xs.getD i (0, 0)).1) _ w_ ma1 ⟨ma1, (.inr rfl)⟩ ?_ (Mem.cast (LL := [g2.seg 76 (mm pr xs), g.seg 76 (mm pr xs), cKy6_942_0 g most tb xs, [cb pa [pV tb 0] 24], [cb pp [pV tb 0] 24], [cb po [bV (okR true xs ((xs.getD i (0, 0)).1) ((xs.getD i (0, 0)).2) (i : Int) l)] 4], [cb pc [nV .i64 (i + 1)] 3], [cb pl [iV .i64 ((xs.getD i (0, 0)).1)] 3]]) (by rw [rise_ok hs ma1 hll]) (h_.pick [6, 0, 1, 7, 2, 3, 4, 5] ma2 rfl))
  kernel_rfl
 ·have qh12 := h12; try simp only [zA] at qh12
  refine W.exit ?_
  show ∀ w_, _ → bodyPostM (fence none) 0 Try.prog Try.f46 _ Exit.normal _ w_
  exact fun w_ hS_ => fin_normal (ret0 rfl  ⟨l, trivial, rfl, (Mem.cast (by rw [show i = xs.length by omega]; rfl) (hS_.pick [1, 2, 3, 4, 5, 6, 7] ma2 rfl))⟩)
theorem imax_nn (n : Nat) : imax (n : Int) 0 = (n : Int) := by unfold imax; split <;> omega
theorem newnA_c (n : Nat) (w : World) : Calls Try.prog 13 #[.int .i64 (n : Int), Value.func (.func 14) #[] #[]] w (RetM w (fun _ : Nat => True) (fun b => .pointer (some ⟨b, 0, none⟩)) [] (fun b => [[cb b [.slice none 0 0, .int .i64 (n : Int), Value.func (.func 14) #[] #[]] 74]])) := by
  have h := newA_c (n : Int) w
  rw [imax_nn] at h; exact h
theorem riseslaw_c (os : List (Int × Int × Int)) (a : Option Addr) (cap : Nat) (most : Int) (w : World) (hat : At w a (mm op os)) (hol : os.length ≤ 9223372036854775807) : Calls Try.prog 6 #[Value.slice a os.length cap, iV .i64 most] w (Ret w (.bool true)) := by
 refine calls_W (M := []) (LL := []) (n := 60) Try.func6 rfl rfl sp (Mem.refl _) (W.seq (fun K1 hK1 => ?_))
 refine W.region (Wl.run 1 ma0 (Wl.nil (hK1 _ _ _ (W.seq (fun K2 hK2 => ?_)))))
 refine W.seq (fun K3 hK3 => W.region (Wl.yc (v := bV true) rfl rfl (Yc.call (fun _ => kr) (fun w_ hm_ => (speaks6_c _))) (Wl.run 1 ma0 (Wl.nil ?_))))
 refine hK3 _ _ _ (W.prune' [0, 1, 13] [Value.slice a os.length cap, iV .i64 most, bV false] ma0 (fun f4 => ?_))
 refine W.condF ma0 (W.skip' (hK2 _ _ _ (W.prune' [0, 1] [Value.slice a os.length cap, iV .i64 most] ma0 (fun f5 => W.seq (fun K6 hK6 => ?_)))))
 refine W.seq (fun K7 hK7 => W.region (Wl.run 3 ma0 (Wl.nil (hK7 _ _ _ ?_))))
 refine W.prune' [0, 1, 16] [Value.slice a os.length cap, iV .i64 most, bV (decide (((os.length : Nat) : Int) > 200))] ma0 (fun f8 => ?_)
 refine W.cond (decide (((os.length : Nat) : Int) > 200)) ma0 (fun h9 => ?_) (fun h10 => ?_)
 ·refine W.seq (fun K11 hK11 => W.region (Wl.run 1 ma0 (Wl.nil (hK11 _ _ _ ?_))))
  refine W.ret ?_
  show ∀ w_, _ → bodyPostM (fence none) 0 Try.prog Try.f6 _ Exit.ret _ w_
  exact fun w_ hS_ => fin_ret (ret1 rfl (RV.tmp (v := bV true) ma0) hS_ ⟨rfl, hS_.below⟩)
 ·have qh10 := h10; try simp only [zA] at qh10
  refine W.skip' (hK6 _ _ _ (W.prune' [0, 1] [Value.slice a os.length cap, iV .i64 most] ma0 (fun f12 => W.seq (fun K13 hK13 => W.region ?_))))
  refine Wl.run 1 ma0 (Wl.ys (v := nV .i64 ((most % 64).toNat)) rfl rfl ((Ys.pure (v := .int .i64 (band .i64 most 63)) (fun _ => kr)).conseq (int_congr (band_i64 (c := 6) ma2 63 64 rfl rfl))) (Wl.run 1 ma0 (Wl.nil (hK13 _ _ _ ?_))))
  refine W.prune' [0, 5] [Value.slice a os.length cap, nV .i64 ((most % 64).toNat)] ma0 (fun f14 => W.seq (fun K15 hK15 => ?_))
  refine W.region (Wl.run 1 ma0 (Wl.htS rfl (HtS.call (β := Nat) (k := 13) (args := #[nV .i64 ((most % 64).toNat), Value.func (.func 14) #[] #[]]) (Lin := []) (Lk := []) (Mi := []) (Lo := fun tb16 => [[cb tb16 [Value.slice none 0 0, nV .i64 ((most % 64).toNat), Value.func (.func 14) #[] #[]] 74]]) [] [] rfl (fun _ => kr) ma2 rfl rfl rfl (fun w_ hm_ hl_ => (newnA_c ((most % 64).toNat) _)) (fun _ => rfl)) (fun tb16 _ => Wl.ht rfl (Ht.alloc (z := Value.pointer none) (cs := [Value.pointer none]) rfl rfl Try.zeroValue24 rfl) (fun p6 => Wl.ht rfl (Ht.store (b := p6) (o' := 0) (i := 0) (j := 0) (v := pV tb16 0) (LL' := [[cb p6 [pV tb16 0] 24], [cb tb16 [Value.slice none 0 0, nV .i64 ((most % 64).toNat), Value.func (.func 14) #[] #[]] 74]]) rfl rfl ma0 ma0 Try.sizeOf24 rfl rfl rfl sp rfl rfl) (fun _ => ?_)))))
  refine Wl.nil (hK15 _ _ _ (W.prune' [0, 5, 6] [Value.slice a os.length cap, nV .i64 ((most % 64).toNat), pV p6 0] ma0 (fun f18 => W.seq (fun K19 hK19 => W.seq (fun K20 hK20 => ?_)))))
  obtain ⟨xs22, hx26⟩ : ∃ z : List (Int × Int), z = [] := ⟨_, rfl⟩
  obtain ⟨g21, hg25⟩ : ∃ z : FS, z = FS.nul := ⟨_, rfl⟩
  have ok23 : g21.ok 2 xs22.length := by rw [hg25, hx26]; exact FS.nul_ok 2
  have hs24 : Srt 1 xs22 := by rw [hx26]; exact List.Pairwise.nil
  have hl27 : xs22.length = 0 := by rw [hx26]; rfl
  refine W.conseq (S' := Mem w [] [g21.seg 76 (mm pr xs22), [cb p6 [pV tb16 0] 24], [cb tb16 [sV g21 xs22.length, nV .i64 ((most % 64).toNat), Value.func (.func 14) #[] #[]] 74]]) (fun w_ h_ => Mem.cast (LL := [] :: [[cb p6 [pV tb16 0] 24], [cb tb16 [Value.slice none 0 0, nV .i64 ((most % 64).toNat), Value.func (.func 14) #[] #[]] 74]]) (by rw [hg25, hx26]; rfl) (Mem.push h_)) (W.region (Wl.ys rfl rfl (Ys.l1 p6 0 1 0 Try.isAgg24) (Wl.run 1 ma0 (Wl.nil ?_))))
  refine hK20 _ _ _ (W.prune' [0, 5, 6, 22] [Value.slice a os.length cap, nV .i64 ((most % 64).toNat), pV p6 0, bV false] ma0 (fun f28 => ?_))
  refine W.condF ma0 (W.skip' (hK19 _ _ _ (W.prune' [0, 5, 6] [Value.slice a os.length cap, nV .i64 ((most % 64).toNat), pV p6 0] ma0 (fun f29 => W.seq (fun K30 hK30 => ?_)))))
  refine W.seq (fun K31 hK31 => W.region (Wl.run 3 ma0 (Wl.nil (hK31 _ _ _ ?_))))
  refine W.prune' [5, 6, 23, 24, 25] [nV .i64 ((most % 64).toNat), pV p6 0, Value.slice a os.length cap, nV .i64 os.length, iV .i64 0] ma0 (fun f32 => W.block (W.loop3 [5, 6, 23, 24, 25] (fun (i : Nat) (xs : List (Int × Int)) (g : FS) => [nV .i64 ((most % 64).toNat), pV p6 0, Value.slice a os.length cap, nV .i64 os.length, nV .i64 i]) (fun (i : Nat) (xs : List (Int × Int)) (g : FS) => i ≤ os.length ∧ g.ok 2 xs.length ∧ Srt 1 xs ∧ (xs.length : Int) ≤ ((most % 64).toNat : Int) ∧ xs.length ≤ i) (fun (i : Nat) (xs : List (Int × Int)) (g : FS) => [g.seg 76 (mm pr xs), [cb p6 [pV tb16 0] 24], [cb tb16 [sV g xs.length, nV .i64 ((most % 64).toNat), Value.func (.func 14) #[] #[]] 74]]) (fun (i : Nat) (xs : List (Int × Int)) (g : FS) => os.length - i) 0 xs22 g21 ma0 ⟨(Nat.zero_le _), ok23, hs24, ma1, ma1⟩ (by rfl) (fun i xs g f34 J33 hp35 hJ33 => ?_)))
  obtain ⟨hi, ok, hs, hlm, hlx⟩ := hp35
  refine W.seq (fun K36 hK36 => W.region (Wl.run 1 ma0 (Wl.nil (hK36 _ _ _ ?_))))
  refine W.seq (fun K37 hK37 => ?_)
  refine W.cond (decide (((i : Nat) : Int) < (os.length : Int))) ma0 (fun h38 => ?_) (fun h39 => ?_)
  ·have qh38 := h38; try simp only [zA] at qh38
   refine W.skip' (hK37 _ _ _ (W.prune' [5, 6, 23, 24, 25] [nV .i64 ((most % 64).toNat), pV p6 0, Value.slice a os.length cap, nV .i64 os.length, nV .i64 i] ma0 (fun f40 => W.seq (fun K41 hK41 => W.block ?_))))
   refine W.seq (fun K42 hK42 => W.region (Wl.ys (v := Value.pointer (some (ela a (i * 3)))) rfl rfl (Ys.byMem fun w_ h_ => Ys.indexAddr (k := .i64) (a := a) (len := os.length) (cap := cap) (i := (i : Int)) (sz := 3) rfl ma0 ma0 Try.runUnderlying22 Try.sizeOf28 ma1 ma1 ((hat.mem0 h_).here (by rw [mm_len (g := op) (sz := 3) (fun _ => rfl)]; first | omega | (simp; omega)))) (Wl.ys (v := aV [iV .i64 ((os.getD i (0, 0, 0)).1), iV .i64 ((os.getD i (0, 0, 0)).2.1), iV .i64 ((os.getD i (0, 0, 0)).2.2)]) rfl rfl (Ys.ldN (a := ela a (i * 3)) (vs := [iV .i64 ((os.getD i (0, 0, 0)).1), iV .i64 ((os.getD i (0, 0, 0)).2.1), iV .i64 ((os.getD i (0, 0, 0)).2.2)]) rfl ma0 Try.isAgg28 Try.sizeOf28 rfl (fun w_ h_ => (hat.mem0 h_).ldN (mm_get (g := op) (sz := 3) (fun _ => rfl) (0, 0, 0) (xs := os) (k := i) ma1))) (Wl.ht rfl (Ht.alloc (z := aV [iV .i64 0, iV .i64 0, iV .i64 0]) (cs := [iV .i64 0, iV .i64 0, iV .i64 0]) rfl rfl Try.zeroValue28 rfl) (fun p8 => ?_)))))
   refine Wl.ht rfl (Ht.storeN (b := p8) (o' := 0) (i := 0) (j := 0) (vs := [iV .i64 ((os.getD i (0, 0, 0)).1), iV .i64 ((os.getD i (0, 0, 0)).2.1), iV .i64 ((os.getD i (0, 0, 0)).2.2)]) (LL' := [[cb p8 [iV .i64 ((os.getD i (0, 0, 0)).1), iV .i64 ((os.getD i (0, 0, 0)).2.1), iV .i64 ((os.getD i (0, 0, 0)).2.2)] 28], g.seg 76 (mm pr xs), [cb p6 [pV tb16 0] 24], [cb tb16 [sV g xs.length, nV .i64 ((most % 64).toNat), Value.func (.func 14) #[] #[]] 74]]) rfl rfl ma0 ma0 Try.sizeOf28 (by simp [Value.oneCell']) rfl rfl sp rfl rfl) (fun _ => Wl.nil (hK42 _ _ _ (W.prune' [5, 6, 8, 23, 24, 25] [nV .i64 ((most % 64).toNat), pV p6 0, pV p8 0, Value.slice a os.length cap, nV .i64 os.length, nV .i64 i] ma0 (fun f43 => W.seq (fun K44 hK44 => ?_)))))
   refine W.region (Wl.run 1 ma0 (Wl.ys rfl rfl (Ys.l1 p8 0 0 0 Try.isAgg3) (Wl.ys (v := nV .i64 ((((os.getD i (0, 0, 0)).1) % 4).toNat)) rfl rfl ((Ys.pure (v := .int .i64 (band .i64 ((os.getD i (0, 0, 0)).1) 3)) (fun _ => kr)).conseq (int_congr (band_i64 (c := 2) ma2 3 4 rfl rfl))) (Wl.run 1 ma0 ?_))))
   refine Wl.nil (hK44 _ _ _ (W.prune' [5, 6, 8, 23, 24, 25, 32] [nV .i64 ((most % 64).toNat), pV p6 0, pV p8 0, Value.slice a os.length cap, nV .i64 os.length, nV .i64 i, bV ((((((os.getD i (0, 0, 0)).1) % 4).toNat : Nat) : Int) == 0)] ma0 (fun f45 => ?_)))
   refine W.cond ((((((os.getD i (0, 0, 0)).1) % 4).toNat : Nat) : Int) == 0) ma0 (fun h46 => ?_) (fun h47 => ?_)
   ·have qh46 := h46; try simp only [zA] at qh46
    refine W.region (Wl.ys rfl rfl (Ys.l1 p6 0 2 0 Try.isAgg24) (Wl.run 1 ma0 (Wl.ys rfl rfl (Ys.l1 p8 1 0 0 Try.isAgg3) ?_)))
    obtain ⟨X50, hX51⟩ : ∃ z, dropK 1 xs ((os.getD i (0, 0, 0)).2.1) = z := ⟨_, rfl⟩
    have hs52 : Srt 1 X50 := hX51 ▸ srt_dropK sg1 hs
    have hlx53 : X50.length ≤ xs.length := hX51 ▸ dropK_le
    refine Wl.htS rfl (HtS.call (β := FS) (k := 20) (args := #[pV tb16 0, iV .i64 ((os.getD i (0, 0, 0)).2.1)]) (Lin := [g.seg 76 (mm pr xs), [cb tb16 [sV g xs.length, nV .i64 ((most % 64).toNat), Value.func (.func 14) #[] #[]] 74]]) (Lk := [[cb p8 [iV .i64 ((os.getD i (0, 0, 0)).1), iV .i64 ((os.getD i (0, 0, 0)).2.1), iV .i64 ((os.getD i (0, 0, 0)).2.2)] 28], [cb p6 [pV tb16 0] 24]]) (Lo := fun g48 => [g48.seg 76 (mm pr X50), [cb tb16 [sV g48 X50.length, nV .i64 ((most % 64).toNat), Value.func (.func 14) #[] #[]] 74], [cb p8 [iV .i64 ((os.getD i (0, 0, 0)).1), iV .i64 ((os.getD i (0, 0, 0)).2.1), iV .i64 ((os.getD i (0, 0, 0)).2.2)] 28], [cb p6 [pV tb16 0] 24]]) [1, 3] [0, 2] rfl (fun _ => kr) ma2 rfl rfl rfl (fun w_ hm_ hl_ => (dropzA_c xs g ((most % 64).toNat : Int) tb16 _ ((os.getD i (0, 0, 0)).2.1) X50 _ hX51 hl_ ok ma1 hs)) (fun _ => rfl)) (fun g48 ok49 => Wl.nil (hK41 _ _ _ (W.pick (LL' := [g48.seg 76 (mm pr X50), [cb tb16 [sV g48 X50.length, nV .i64 ((most % 64).toNat), Value.func (.func 14) #[] #[]] 74], [cb p6 [pV tb16 0] 24]]) [0, 1, 3] ma2 rfl (W.prune' [5, 6, 23, 24, 25] [nV .i64 ((most % 64).toNat), pV p6 0, Value.slice a os.length cap, nV .i64 os.length, nV .i64 i] ma0 (fun f55 => ?_)))))
    refine W.region (Wl.ys (v := nV .i64 (i + 1)) rfl rfl ((Ys.pure (v := .int .i64 (iadd .i64 (i : Int) 1)) (fun _ => kr)).conseq (int_congr (iadd_eq ma1 ma1 ma1))) (Wl.run 1 ma0 (Wl.nil ?_)))
    refine fun w_ h_ => hJ33 (i + 1) X50 g48 _ w_ ma1 ⟨ma1, ok49, hs52, (by have z_ : X50.length ≤ xs.length := hX51 ▸ dropK_le; omega), ma1⟩ ?_ (h_.pick [0, 2, 1] ma2 rfl)
    kernel_rfl
   ·have qh47 := h47; try simp only [zA] at qh47
    refine W.region (Wl.ys rfl rfl (Ys.l1 p6 0 2 0 Try.isAgg24) (Wl.run 1 ma0 (Wl.ys rfl rfl (Ys.l1 p8 1 0 0 Try.isAgg3) (Wl.run 1 ma0 ?_))))
    refine Wl.ys rfl rfl (Ys.l1 p8 2 0 0 Try.isAgg3) ?_
    obtain ⟨X58, hX59⟩ : ∃ z, putX 1 ((most % 64).toNat : Int) xs ((os.getD i (0, 0, 0)).2.1) ((os.getD i (0, 0, 0)).2.2) = z := ⟨_, rfl⟩
    have hs60 : Srt 1 X58 := hX59 ▸ srt_putX sg1 hs
    have hlx61 : X58.length ≤ xs.length + 1 := hX59 ▸ putX_len sg1
    refine Wl.htS rfl (HtS.call (β := FS) (k := 16) (args := #[pV tb16 0, iV .i64 ((os.getD i (0, 0, 0)).2.1), iV .i64 ((os.getD i (0, 0, 0)).2.2)]) (Lin := [g.seg 76 (mm pr xs), [cb tb16 [sV g xs.length, nV .i64 ((most % 64).toNat), Value.func (.func 14) #[] #[]] 74]]) (Lk := [[cb p8 [iV .i64 ((os.getD i (0, 0, 0)).1), iV .i64 ((os.getD i (0, 0, 0)).2.1), iV .i64 ((os.getD i (0, 0, 0)).2.2)] 28], [cb p6 [pV tb16 0] 24]]) (Lo := fun g56 => [g56.seg 76 (mm pr X58), [cb tb16 [sV g56 X58.length, nV .i64 ((most % 64).toNat), Value.func (.func 14) #[] #[]] 74], [cb p8 [iV .i64 ((os.getD i (0, 0, 0)).1), iV .i64 ((os.getD i (0, 0, 0)).2.1), iV .i64 ((os.getD i (0, 0, 0)).2.2)] 28], [cb p6 [pV tb16 0] 24]]) [1, 3] [0, 2] rfl (fun _ => kr) ma2 rfl rfl rfl (fun w_ hm_ hl_ => (putzA_c xs g ((most % 64).toNat : Int) tb16 _ ((os.getD i (0, 0, 0)).2.1) ((os.getD i (0, 0, 0)).2.2) X58 _ hX59 hl_ ok ma1 hs)) (fun _ => rfl)) (fun g56 ok57 => Wl.nil (hK41 _ _ _ (W.pick (LL' := [g56.seg 76 (mm pr X58), [cb tb16 [sV g56 X58.length, nV .i64 ((most % 64).toNat), Value.func (.func 14) #[] #[]] 74], [cb p6 [pV tb16 0] 24]]) [0, 1, 3] ma2 rfl (W.prune' [5, 6, 23, 24, 25] [nV .i64 ((most % 64).toNat), pV p6 0, Value.slice a os.length cap, nV .i64 os.length, nV .i64 i] ma0 (fun f63 => ?_)))))
    refine W.region (Wl.ys (v := nV .i64 (i + 1)) rfl rfl ((Ys.pure (v := .int .i64 (iadd .i64 (i : Int) 1)) (fun _ => kr)).conseq (int_congr (iadd_eq ma1 ma1 ma1))) (Wl.run 1 ma0 (Wl.nil ?_)))
    refine fun w_ h_ => hJ33 (i + 1) X58 g56 _ w_ ma1 ⟨ma1, ok57, hs60, (hX59 ▸ putX_most sg1 hlm), ma1⟩ ?_ (h_.pick [0, 2, 1] ma2 rfl)
    kernel_rfl
  ·have qh39 := h39; try simp only [zA] at qh39
   refine W.exit (hK30 _ _ _ (W.prune' [5, 6] [nV .i64 ((most % 64).toNat), pV p6 0] ma0 (fun f64 => W.seq (fun K65 hK65 => W.region ?_))))
   refine Wl.ht rfl (Ht.alloc (z := iV .i64 0) (cs := [iV .i64 0]) rfl rfl Try.zeroValue3 rfl) (fun p9 => Wl.ht rfl (Ht.alloc (z := iV .i64 0) (cs := [iV .i64 0]) rfl rfl Try.zeroValue3 rfl) (fun p10 => ?_))
   refine Wl.ht rfl (Ht.alloc (z := bV false) (cs := [bV false]) rfl rfl Try.zeroValue4 rfl) (fun p11 => Wl.ht rfl (Ht.store (b := p9) (o' := 0) (i := 2) (j := 0) (v := iV .i64 0) (LL' := [[cb p11 [bV false] 4], [cb p10 [iV .i64 0] 3], [cb p9 [iV .i64 0] 3], g.seg 76 (mm pr xs), [cb p6 [pV tb16 0] 24], [cb tb16 [sV g xs.length, nV .i64 ((most % 64).toNat), Value.func (.func 14) #[] #[]] 74]]) rfl rfl ma0 ma0 Try.sizeOf3 rfl rfl rfl sp rfl rfl) (fun _ => ?_))
   refine Wl.ht rfl (Ht.store (b := p10) (o' := 0) (i := 1) (j := 0) (v := iV .i64 0) (LL' := [[cb p11 [bV false] 4], [cb p10 [iV .i64 0] 3], [cb p9 [iV .i64 0] 3], g.seg 76 (mm pr xs), [cb p6 [pV tb16 0] 24], [cb tb16 [sV g xs.length, nV .i64 ((most % 64).toNat), Value.func (.func 14) #[] #[]] 74]]) rfl rfl ma0 ma0 Try.sizeOf3 rfl rfl rfl sp rfl rfl) (fun _ => Wl.ht rfl (Ht.store (b := p11) (o' := 0) (i := 0) (j := 0) (v := bV true) (LL' := [[cb p11 [bV true] 4], [cb p10 [iV .i64 0] 3], [cb p9 [iV .i64 0] 3], g.seg 76 (mm pr xs), [cb p6 [pV tb16 0] 24], [cb tb16 [sV g xs.length, nV .i64 ((most % 64).toNat), Value.func (.func 14) #[] #[]] 74]]) rfl rfl ma0 ma0 Try.sizeOf4 rfl rfl rfl sp rfl rfl) (fun _ => ?_))
   refine Wl.nil (hK65 _ _ _ (W.prune' [5, 6, 9, 10, 11] [nV .i64 ((most % 64).toNat), pV p6 0, pV p9 0, pV p10 0, pV p11 0] ma0 (fun f66 => W.seq (fun K67 hK67 => W.region ?_))))
   refine Wl.ys rfl rfl (Ys.l1 p6 0 4 0 Try.isAgg24) (Wl.htS rfl (HtS.call (β := Nat) (k := 24) (args := #[pV tb16 0]) (Lin := []) (Lk := [[cb p11 [bV true] 4], [cb p10 [iV .i64 0] 3], [cb p9 [iV .i64 0] 3], g.seg 76 (mm pr xs), [cb p6 [pV tb16 0] 24], [cb tb16 [sV g xs.length, nV .i64 ((most % 64).toNat), Value.func (.func 14) #[] #[]] 74]]) (Mi := []) (Lo := fun ab68 => [[cb ab68 [pV tb16 0] 24], [cb p11 [bV true] 4], [cb p10 [iV .i64 0] 3], [cb p9 [iV .i64 0] 3], g.seg 76 (mm pr xs), [cb p6 [pV tb16 0] 24], [cb tb16 [sV g xs.length, nV .i64 ((most % 64).toNat), Value.func (.func 14) #[] #[]] 74]]) [] [0, 1, 2, 3, 4, 5] rfl (fun _ => kr) ma2 rfl rfl rfl (fun w_ hm_ hl_ => (all_c tb16 _)) (fun _ => rfl)) (fun ab68 _ => ?_))
   refine Wl.run 1 ma0 (Wl.htS rfl (HtS.call (β := Int) (k := 46) (args := #[Value.func (.func 27) #[] #[pV p6 0, pV p11 0, pV p10 0, pV p9 0], pV ab68 0]) (Lin := [g.seg 76 (mm pr xs), [cb tb16 [sV g xs.length, nV .i64 ((most % 64).toNat), Value.func (.func 14) #[] #[]] 74], [cb ab68 [pV tb16 0] 24], [cb p6 [pV tb16 0] 24], [cb p11 [bV true] 4], [cb p10 [iV .i64 0] 3], [cb p9 [iV .i64 0] 3]]) (Lk := []) (Lo := fun l70 => [g.seg 76 (mm pr xs), [cb tb16 [sV g xs.length, nV .i64 ((most % 64).toNat), Value.func (.func 14) #[] #[]] 74], [cb ab68 [pV tb16 0] 24], [cb p6 [pV tb16 0] 24], [cb p11 [bV true] 4], [cb p10 [nV .i64 xs.length] 3], [cb p9 [iV .i64 l70] 3]]) [4, 6, 0, 5, 1, 2, 3] [] rfl (fun _ => kr) ma2 rfl rfl rfl (fun w_ hm_ hl_ => (allrise_c xs g ((most % 64).toNat : Int) tb16 ab68 p6 p11 p10 p9 _ _ hl_ ok ma1 hs)) (fun _ => rfl)) (fun l70 _ => ?_))
   refine Wl.nil (hK67 _ _ _ (W.pick (LL' := [g.seg 76 (mm pr xs), [cb tb16 [sV g xs.length, nV .i64 ((most % 64).toNat), Value.func (.func 14) #[] #[]] 74], [cb p6 [pV tb16 0] 24], [cb p11 [bV true] 4], [cb p10 [nV .i64 xs.length] 3]]) [0, 1, 3, 4, 5] ma2 rfl (W.prune' [5, 6, 10, 11] [nV .i64 ((most % 64).toNat), pV p6 0, pV p10 0, pV p11 0] ma0 (fun f72 => W.seq (fun K73 hK73 => ?_)))))
   refine W.draws [(0, false), (1, false), (2, true), (3, false), (4, false), (5, false), (6, false), (7, false), (8, true), (9, false), (10, false), (11, false), (12, false)] [2, 8] (Mem w [] [g.seg 76 (mm pr xs), [cb tb16 [sV g xs.length, nV .i64 ((most % 64).toNat), Value.func (.func 14) #[] #[]] 74], [cb p6 [pV tb16 0] 24], [cb p11 [bV true] 4], [cb p10 [nV .i64 xs.length] 3]]) ma0 ma0 ma0 rfl ma0 (fun _ _ h_ => h_.drawn _) (fun _ h_ => h_) (Wd.yc (v := bV true) rfl rfl rfl (Ys.yc (Ys.l1 p11 0 3 0 Try.isAgg4)) (.inr fun _ h_ => h_) (Wd.yc (v := bV true) rfl rfl rfl (Ys.yc (Ys.pure (fun _ => kr))) (.inr fun _ h_ => h_) (Wd.guard (v := nV .i64 xs.length) (true) rfl ma0 rfl (fun _ => Ys.load (b := p10) (o' := 0) (i := 4) (j := 0) (v := nV .i64 xs.length) rfl ma0 Try.isAgg3 rfl rfl rfl) (Wd.guardc (v := pV tb16 0) (true) rfl ma0 rfl (fun _ => Ys.yc (Ys.l1 p6 0 2 0 Try.isAgg24)) (.inr fun _ h_ => h_) ?_))))
   refine Wd.guardc (v := nV .i64 xs.length) (true) rfl ma0 rfl (fun _ => Yc.call (fun _ => kr) (fun w_ hm_ => (let z_ := Mem.local' (hm_.pick [0, 1] ma2 rfl); ret_same z_ (lenA_c xs g ((most % 64).toNat : Int) tb16 _  w_ z_ ok ma1 hs)))) (.inr fun _ h_ => h_) (Wd.guardc (v := bV (((xs.length : Nat) : Int) == (xs.length : Int))) (true) rfl ma0 rfl (fun _ => Ys.yc (Ys.pure (fun _ => kr))) (.inr fun _ h_ => h_) (Wd.yc (v := bV (((xs.length : Nat) : Int) == (xs.length : Int))) rfl rfl rfl (Ys.yc (Ys.pure (fun _ => kr))) (.inr fun _ h_ => h_) (Wd.yc (v := bV (((xs.length : Nat) : Int) == (xs.length : Int))) rfl rfl rfl (Ys.yc (Ys.pure (fun _ => kr))) (.inr fun _ h_ => h_) ?_)))
   refine Wd.guard (v := nV .i64 xs.length) (((xs.length : Nat) : Int) == (xs.length : Int)) rfl (wantT rfl ma0) rfl (fun hg74 => ?_) ?_
   ·exact Ys.l1 p10 0 4 0 Try.isAgg3
   refine Wd.guardc (v := nV .i64 ((most % 64).toNat)) (((xs.length : Nat) : Int) == (xs.length : Int)) rfl (wantT rfl ma0) rfl (fun hg75 => ?_) (.inr fun _ h_ => h_) ?_
   ·refine Ys.yc ?_
    exact Ys.pure (fun _ => kr)
   refine Wd.guardc (v := bV (decide (((xs.length : Nat) : Int) ≤ ((most % 64).toNat : Int)))) (((xs.length : Nat) : Int) == (xs.length : Int)) rfl (wantT rfl ma0) rfl (fun hg76 => ?_) (.inr fun _ h_ => h_) ?_
   ·refine Ys.yc (Ys.at (t := 56) (v0 := nV .i64 xs.length) (lz (g := (xs.length : Int) == (xs.length : Int)) (u := undef) hg76 ma0) (Ys.at (t := 57) (v0 := nV .i64 ((most % 64).toNat)) (lz (g := (xs.length : Int) == (xs.length : Int)) (u := undef) hg76 ma0) ?_))
    exact Ys.pure (fun _ => kr)
   refine Wd.yc (v := bV (((xs.length : Int) == (xs.length : Int)) && (decide (((xs.length : Nat) : Int) ≤ ((most % 64).toNat : Int))))) rfl rfl rfl (Ys.yc (Ys.and (e := (xs.length : Int) == (xs.length : Int)) (b := decide (((xs.length : Nat) : Int) ≤ ((most % 64).toNat : Int))) rfl ma0 ma0 ma0)) (.inr fun _ h_ => h_) (Wd.yc (v := bV (((xs.length : Int) == (xs.length : Int)) && (decide (((xs.length : Nat) : Int) ≤ ((most % 64).toNat : Int))))) rfl rfl rfl (Ys.yc (Ys.pure (fun _ => kr))) (.inl ma0) (Wd.nil (hK73 _ _ _ (W.pick (LL' := []) [] ma2 rfl ?_))))
   refine W.prune' [4] [bV (((xs.length : Int) == (xs.length : Int)) && (decide (((xs.length : Nat) : Int) ≤ ((most % 64).toNat : Int))))] ma0 (fun f77 => W.ret ?_)
   show ∀ w_, _ → bodyPostM (fence none) 0 Try.prog Try.f6 _ Exit.ret _ w_
   exact fun w_ hS_ => fin_ret (ret1 rfl (RV.tmp (v := bV (((xs.length : Int) == (xs.length : Int)) && (decide (((xs.length : Nat) : Int) ≤ ((most % 64).toNat : Int))))) ma0) hS_ ⟨by clear hK1 hK2 hK3 hK6 hK7 hK13 hK15 hK19 hK20 hK30 hK31 hJ33 hK36 hK37 hK65 hK67 hK73; refine congrArg Ending.returned ?_; exact bool_congr (by simp; omega), hS_.below⟩)
end Go.Proofs.Ythfagedaijoenaa.Oct
