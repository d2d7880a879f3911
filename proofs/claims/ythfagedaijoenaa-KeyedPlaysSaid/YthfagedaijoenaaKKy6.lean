import Derived.Test.YthfagedaijoenaaKKy5
set_option linter.unusedVariables false
set_option linter.unusedSimpArgs false
set_option maxRecDepth 20000
namespace Go.Proofs.Ythfagedaijoenaa.Oct
open Go.RowKit Base
attribute [local irreducible] Ys Yc Ht HtS HtIn Wl Wd W Mem pf dpf Wa Wo
theorem FS.of_none {g : FS} {sz n : Nat} (ok : g.ok sz n) (h : g.a.isNone = true) : n = 0 := by
  cases hn : g.nil
  · rw [FS.a_own hn] at h; cases h
  · exact (ok.h0 hn).1
theorem clone_c (xs : List (Int × Int)) (g : FS) (M : List Nat) (w : World) (hl : Mem w M [g.seg 76 (mm pr xs)] w) (ok : g.ok 2 xs.length) (hn : xs.length ≤ 100000) : Calls Try.prog 47 #[sV g xs.length] w (RetM w (fun g' : FS => g'.ok 2 xs.length) (fun g' => .slice g'.a xs.length g'.cap) M (fun g' => [g'.seg 76 (mm pr xs), g.seg 76 (mm pr xs)])) := by
 refine calls_W (M := M) (LL := [g.seg 76 (mm pr xs)]) (n := 8) Try.func47 rfl rfl sp (hl) (W.seq (fun K1 hK1 => ?_))
 refine W.region (Wl.run 1 ma0 (Wl.nil (hK1 _ _ _ (W.seq (fun K2 hK2 => ?_)))))
 refine W.seq (fun K3 hK3 => W.region (Wl.run 1 ma0 (Wl.ys (v := bV g.a.isNone) rfl rfl (Ys.pure (fun _ => by (try unfold sV); generalize g.a = a_; cases a_ <;> kernel_rfl)) (Wl.nil ?_))))
 refine hK3 _ _ _ (W.prune' [0, 4] [sV g xs.length, bV g.a.isNone] ma0 (fun f4 => ?_))
 refine W.cond (g.a.isNone) ma0 (fun h5 => ?_) (fun h6 => ?_)
 ·refine W.seq (fun K7 hK7 => W.region (Wl.run 1 ma0 (Wl.nil (hK7 _ _ _ ?_))))
  refine W.ret ?_
  have hx0_ : xs = [] := List.length_eq_zero_iff.1 (FS.of_none ok h5)
  show ∀ w_, _ → bodyPostM (fence none) 0 Try.prog Try.f47 _ Exit.ret _ w_
  exact fun w_ hS_ => fin_ret (ret1 rfl (RV.tmp (v := Value.slice none 0 0) ma0) hS_ ⟨FS.nul, (by rw [hx0_]; exact FS.nul_ok 2), congrArg Ending.returned ((by rw [hx0_]; rfl)), (Mem.cast (by rw [hx0_]; rfl) (Mem.push (hS_.pick [0] ma3 rfl)))⟩)
 ·refine W.skip' (hK2 _ _ _ (W.prune' [0] [sV g xs.length] ma0 (fun f8 => W.seq (fun K9 hK9 => W.region ?_))))
  refine Wl.ht rfl (Ht.made (mk := fun b_ => .slice (some ⟨b_, 0, none⟩) 0 0) (t := 76) (cs := []) rfl (fun _ => kr)) (fun p5 => Wl.run 1 ma0 (Wl.htS rfl (HtS.append (eu := 76) (xv := sV g xs.length) (i := 0) (g := (FS.mk false p5 0 [])) (e := 76) (ii := (Try.prog.info? 76).getD default) (z := aV zl0) (sz := 2) (bytes := 16) (nn := 0) (m := xs.length) (k := xs.length) (xs := []) (news := mm pr xs) (cs' := mm pr xs) (Lo := fun g10 => [g10.seg 76 (mm pr xs), g.seg 76 (mm pr xs)]) rfl rfl ma0 ma0 ma0 ma0 ma0 ma0 ma0 ma0 ma0 rfl (FS.lit_ok ma3) rfl (fun _ => rfl) (Src.at (a := g.a) (mm_len pr_len _) (fun w_ h_ => FS.at (i := 1) (t := 76) h_ rfl (FS.nil_cs ok (mm_len pr_len _)))) (mm_len pr_len _) (mm_one pr_one _) (Nat.zero_add _) (by simp only [maxLen]; omega) ma1 rfl (fun _ => rfl)) (fun g10 hx15 => ?_)))
  obtain ⟨ok11, hn12, hn13⟩ := hx15
  refine Wl.run 1 ma0 (Wl.nil (hK9 _ _ _ (W.prune' [2] [sV g10 xs.length] ma0 (fun f16 => W.ret ?_))))
  show ∀ w_, _ → bodyPostM (fence none) 0 Try.prog Try.f47 _ Exit.ret _ w_
  exact fun w_ hS_ => fin_ret (ret1 rfl (RV.tmp (v := sV g10 xs.length) ma0) hS_ ⟨g10, ok11, rfl, (hS_.pick [0, 1] ma3 rfl)⟩)
theorem all_c (tb : Nat) (w : World) : Calls Try.prog 24 #[pV tb 0] w (RetM w (fun _ : Nat => True) (fun b => .func (.func 46) #[] #[.pointer (some ⟨b, 0, none⟩)]) [] (fun b => [[cb b [.pointer (some ⟨tb, 0, none⟩)] 24]])) := by
 refine calls_W (M := []) (LL := []) (n := 4) Try.func24 rfl rfl sp (Mem.refl _) (W.seq (fun K1 hK1 => ?_))
 refine W.region (Wl.ht rfl (Ht.box (v := pV tb 0) (cs := [pV tb 0]) rfl rfl ma0 rfl) (fun p1 => ?_))
 refine Wl.run 1 ma0 (Wl.nil (hK1 _ _ _ (W.prune' [1] [pV p1 0] ma0 (fun f2 => W.seq (fun K3 hK3 => ?_)))))
 refine W.region (Wl.run 2 ma0 (Wl.nil (hK3 _ _ _ (W.prune' [2] [Value.func (.func 46) #[] #[pV p1 0]] ma0 (fun f4 => ?_)))))
 refine W.ret ?_
 show ∀ w_, _ → bodyPostM (fence none) 0 Try.prog Try.f24 _ Exit.ret _ w_
 exact fun w_ hS_ => fin_ret (ret1 rfl (RV.tmp (v := Value.func (.func 46) #[] #[pV p1 0]) ma0) hS_ ⟨p1, trivial, rfl, (hS_.pick [0] ma3 rfl)⟩)
theorem get_mem {xs : List (Int × Int)} {i : Nat} (h : i < xs.length) : ((xs.getD i (0, 0)).1, (xs.getD i (0, 0)).2) ∈ xs := by
  rw [List.getD_eq_getElem?_getD, List.getElem?_eq_getElem h]; exact List.getElem_mem h
end Go.Proofs.Ythfagedaijoenaa.Oct
