import Derived.Test.YthfagedaijoenaaKWy2
set_option linter.unusedVariables false
set_option linter.unusedSimpArgs false
set_option maxRecDepth 20000
namespace Go.Proofs.Ythfagedaijoenaa.Oct
open Go.RowKit Base
attribute [local irreducible] Ys Yc Ht HtS HtIn Wl Wd W Mem pf dpf Wa Wo
def dueM (xs : List (Int × Int)) (now : Int) : Nat := (xs.takeWhile fun p => decide (p.1 ≤ now)).length
def dueN (xs : List (Int × Int)) (now q : Int) : Nat := min (dueM xs now) (max q.toNat 1)
theorem dueM_le (xs : List (Int × Int)) (now : Int) : dueM xs now ≤ xs.length := (List.takeWhile_sublist _).length_le
theorem dueM_spec {now : Int} : ∀ {xs : List (Int × Int)} {c : Nat}, c ≤ dueM xs now → c < xs.length → ((xs.getD c (0, 0)).1 ≤ now ↔ c + 1 ≤ dueM xs now)
  | [], _, _, h => by simp at h
  | x :: xs, c, hc, h => by
    unfold dueM at hc ⊢
    rw [List.takeWhile_cons] at hc ⊢
    by_cases hx : x.1 ≤ now
    · rw [if_pos (by simpa using hx)] at hc ⊢
      rw [List.length_cons] at hc ⊢
      cases c with
      | zero => simp only [List.getD_cons_zero]; exact ⟨fun _ => by omega, fun _ => hx⟩
      | succ c =>
        have := dueM_spec (now := now) (xs := xs) (c := c) (by unfold dueM; omega) (by simpa using h)
        unfold dueM at this
        rw [List.getD_cons_succ, this]; omega
    · rw [if_neg (by simpa using hx)] at hc ⊢
      rw [List.length_nil] at hc ⊢
      obtain rfl : c = 0 := by omega
      simp only [List.getD_cons_zero]; omega
theorem drop_head {xs X : List (Int × Int)} {c : Nat} (h : X = xs.drop c) : X.getD 0 (0, 0) = xs.getD c (0, 0) := by
  subst h; simp [List.getD_eq_getElem?_getD, List.getElem?_drop]
theorem drop_one {xs X Z : List (Int × Int)} {c : Nat} (h : X = xs.drop c) (hZ : X.take 0 ++ X.drop (0 + 1) = Z) : Z = xs.drop (c + 1) := by
  subst h; subst hZ; simp [List.drop_drop]
theorem keys_one {xs : List (Int × Int)} {o : List Int} {c : Nat} {k : Int} (h : o = keysS (xs.take c)) (hc : c < xs.length) (hk : k = (xs.getD c (0, 0)).2) : o ++ [k] = keysS (xs.take (c + 1)) := by
  subst h; subst hk
  unfold keysS
  rw [List.take_add_one, List.getElem?_eq_getElem hc, List.getD_eq_getElem?_getD, List.getElem?_eq_getElem hc, List.map_append]; rfl
theorem dueN_stop {xs : List (Int × Int)} {now q : Int} {c : Nat} (hc : c = dueM xs now) (hl : c = 0 ∨ (c : Int) < q) : dueN xs now q = c := by unfold dueN; omega
theorem dueN_full {xs : List (Int × Int)} {now q : Int} {c : Nat} (hc : c + 1 ≤ dueM xs now) (hl : c = 0 ∨ (c : Int) < q) (hq : ¬ (((c + 1 : Nat) : Int) < q)) : dueN xs now q = c + 1 := by unfold dueN; omega
theorem due1_c (out X : List Int) (go : FS) (q : Int) (pu pq : Nat) (k : Int) (M : List Nat) (w : World) (hX : out ++ [k] = X) (hl : Mem w M [go.seg 3 (mc (Value.int .i64) out), [cb pu [Value.slice go.a out.length go.cap] 39], [cb pq [Value.int .i64 q] 3]] w) (oko : go.ok 1 out.length) (ho : out.length ≤ 100000) : Calls Try.prog 54 #[iV .i64 k, pV pu 0, pV pq 0] w (RetM w (fun g' : FS => g'.ok 1 X.length) (fun _ => .bool (decide (((X.length : Nat) : Int) < q))) M (fun g' => [g'.seg 3 (mc (Value.int .i64) X), [cb pu [Value.slice g'.a X.length g'.cap] 39], [cb pq [iV .i64 q] 3]])) := by
 refine calls_W (M := M) (LL := [go.seg 3 (mc (Value.int .i64) out), [cb pu [Value.slice go.a out.length go.cap] 39], [cb pq [iV .i64 q] 3]]) (n := 13) Try.func54 rfl rfl ma8 (hl) (W.seq (fun K1 hK1 => ?_))
 refine W.region (Wl.run 1 ma0 (Wl.nil (hK1 _ _ _ (W.seq (fun K2 hK2 => ?_)))))
 refine W.region (Wl.ys rfl rfl (Ys.l1 pu 0 1 0 Try.isAgg39) (Wl.run 1 ma0 (Wl.ht rfl (Ht.made (mk := fun b_ => .slice (some ⟨b_, 0, none⟩) 1 1) (t := 3) (cs := [iV .i64 k]) rfl (fun _ => kr)) (fun p7 => Wl.htS rfl (HtS.append (eu := 3) (xv := Value.slice (some ⟨p7, 0, none⟩) 1 1) (i := 1) (g := go) (e := 3) (ii := (Try.prog.info? 3).getD default) (z := iV .i64 0) (sz := 1) (bytes := 8) (nn := out.length) (m := 1) (k := (out ++ [k]).length) (xs := mc (Value.int .i64) out) (news := mc (Value.int .i64) [k]) (cs' := mc (Value.int .i64) (out ++ [k])) (Lo := fun g3 => [[cb p7 [iV .i64 k] 3], g3.seg 3 (mc (Value.int .i64) (out ++ [k])), [cb pu [Value.slice go.a out.length go.cap] 39], [cb pq [iV .i64 q] 3]]) rfl rfl ma0 ma0 ma0 ma0 ma0 ma0 ma0 ma0 ma0 rfl oko (mc_len1 _) (fun _ => rfl) (Src.at (a := some ⟨p7, 0, none⟩) ma2 (fun w_ h_ => (At.lit0 (i := 0) (j := 0) (t := 3) (b := p7) h_ rfl rfl))) ma2 (mc_one (fun _ => rfl) _) ma4 ma7 ma4 (mc_app _ _) (fun _ => rfl)) (fun g3 hx8 => ?_)))))
 obtain ⟨ok4, hn5, hn6⟩ := hx8
 refine Wl.ht rfl (Ht.store (b := pu) (o' := 0) (i := 2) (j := 0) (v := sV g3 ((out ++ [k]).length)) (LL' := [[cb p7 [iV .i64 k] 3], g3.seg 3 (mc (Value.int .i64) (out ++ [k])), [cb pu [sV g3 ((out ++ [k]).length)] 39], [cb pq [iV .i64 q] 3]]) rfl rfl ma0 ma0 Try.sizeOf39 rfl rfl rfl ma8 rfl rfl) (fun _ => Wl.nil (hK2 _ _ _ (W.pick (LL' := [g3.seg 3 (mc (Value.int .i64) (out ++ [k])), [cb pu [sV g3 ((out ++ [k]).length)] 39], [cb pq [iV .i64 q] 3]]) [1, 2, 3] ma3 rfl (W.prune' [1, 2] [pV pu 0, pV pq 0] ma0 (fun f9 => ?_)))))
 refine W.seq (fun K10 hK10 => W.region (Wl.ys rfl rfl (Ys.l1 pu 0 1 0 Try.isAgg39) (Wl.run 1 ma0 (Wl.ys rfl rfl (Ys.l1 pq 0 2 0 Try.isAgg3) ?_))))
 refine Wl.run 2 ma0 (Wl.nil (hK10 _ _ _ (W.prune' [4] [bV (decide ((((out ++ [k]).length : Nat) : Int) < q))] ma0 (fun f11 => W.ret ?_))))
 show ∀ w_, _ → bodyPostM (fence none) 0 Try.prog Try.f54 _ Exit.ret _ w_
 exact fun w_ hS_ => fin_ret (ret1 rfl (RV.tmp (v := bV (decide ((((out ++ [k]).length : Nat) : Int) < q))) ma0) hS_ ⟨g3, (hX ▸ ok4), congrArg Ending.returned ((by rw [hX])), (Mem.cast (by rw [hX]; rfl) (hS_.pick [0, 1, 2] ma3 rfl))⟩)
theorem wdue_c (wb : Nat) (now : Int) (w : World) : Calls Try.prog 53 #[pV wb 0, iV .u64 now] w (RetM w (fun _ : Nat × Nat => True) (fun b => .func (.func 67) #[] #[.pointer (some ⟨b.1, 0, none⟩), .pointer (some ⟨b.2, 0, none⟩)]) [] (fun b => [[cb b.1 [.pointer (some ⟨wb, 0, none⟩)] 55], [cb b.2 [.int .u64 now] 54]])) := by
 refine calls_W (M := []) (LL := []) (n := 6) Try.func53 rfl rfl ma8 (Mem.refl _) (W.seq (fun K1 hK1 => ?_))
 refine W.region (Wl.ht rfl (Ht.box (v := pV wb 0) (cs := [pV wb 0]) rfl rfl ma0 rfl) (fun p2 => ?_))
 refine Wl.ht rfl (Ht.box (v := iV .u64 now) (cs := [iV .u64 now]) rfl rfl ma0 rfl) (fun p3 => Wl.run 1 ma0 (Wl.nil (hK1 _ _ _ (W.prune' [2, 3] [pV p2 0, pV p3 0] ma0 (fun f2 => ?_)))))
 refine W.seq (fun K3 hK3 => W.region (Wl.run 2 ma0 (Wl.nil (hK3 _ _ _ ?_))))
 refine W.prune' [4] [Value.func (.func 67) #[] #[pV p2 0, pV p3 0]] ma0 (fun f4 => W.ret ?_)
 show ∀ w_, _ → bodyPostM (fence none) 0 Try.prog Try.f53 _ Exit.ret _ w_
 exact fun w_ hS_ => fin_ret (ret1 rfl (RV.tmp (v := Value.func (.func 67) #[] #[pV p2 0, pV p3 0]) ma0) hS_ ⟨(p2, p3), trivial, rfl, (hS_.pick [1, 0] ma3 rfl)⟩)
theorem wdue1_c (xs : List (Int × Int)) (g : FS) (wb : Nat) (O : List Int) (gO : FS) (now q : Int) (pw pn pu pq : Nat) (M : List Nat) (w : World) (hl : Mem w M [gO.seg 3 (mc (Value.int .i64) O), g.seg 87 (mm spk xs), [cb wb [Value.slice g.a xs.length g.cap] 85], [cb pw [Value.pointer (some ⟨wb, 0, none⟩)] 55], [cb pn [Value.int .u64 now] 54], [cb pu [Value.slice gO.a O.length gO.cap] 39], [cb pq [Value.int .i64 q] 3]] w) (ok : g.ok 2 xs.length) (hn : xs.length ≤ 1000) (oko : gO.ok 1 O.length) (hO : O = []) : Calls Try.prog 67 #[Value.func (.func 54) #[] #[pV pu 0, pV pq 0], pV pw 0, pV pn 0] w (RetM w (fun q_ : FS × FS => q_.1.ok 1 (keysS (xs.take (dueN xs now q))).length ∧ q_.2.ok 2 (xs.drop (dueN xs now q)).length) (fun _ => .tuple #[]) M (fun q_ => [q_.1.seg 3 (mc (Value.int .i64) (keysS (xs.take (dueN xs now q)))), q_.2.seg 87 (mm spk (xs.drop (dueN xs now q))), [cb wb [Value.slice q_.2.a ((xs.drop (dueN xs now q)).length) q_.2.cap] 85], [cb pu [Value.slice q_.1.a ((keysS (xs.take (dueN xs now q))).length) q_.1.cap] 39], [cb pq [iV .i64 q] 3]])) := by
 refine calls_W (M := M) (LL := [gO.seg 3 (mc (Value.int .i64) O), g.seg 87 (mm spk xs), [cb wb [sV g xs.length] 85], [cb pw [pV wb 0] 55], [cb pn [iV .u64 now] 54], [cb pu [Value.slice gO.a O.length gO.cap] 39], [cb pq [iV .i64 q] 3]]) (n := 41) Try.func67 rfl rfl ma8 (hl) (W.block (W.loop5 [0, 1, 2] (fun (c : Nat) (X : List (Int × Int)) (gx : FS) (out : List Int) (go : FS) => [Value.func (.func 54) #[] #[pV pu 0, pV pq 0], pV pw 0, pV pn 0]) (fun (c : Nat) (X : List (Int × Int)) (gx : FS) (out : List Int) (go : FS) => c ≤ dueM xs now ∧ X = xs.drop c ∧ gx.ok 2 X.length ∧ out = keysS (xs.take c) ∧ go.ok 1 out.length ∧ (c = 0 ∨ (c : Int) < q)) (fun (c : Nat) (X : List (Int × Int)) (gx : FS) (out : List Int) (go : FS) => [go.seg 3 (mc (Value.int .i64) out), gx.seg 87 (mm spk X), [cb wb [Value.slice gx.a X.length gx.cap] 85], [cb pw [pV wb 0] 55], [cb pn [iV .u64 now] 54], [cb pu [Value.slice go.a out.length go.cap] 39], [cb pq [iV .i64 q] 3]]) (fun (c : Nat) (X : List (Int × Int)) (gx : FS) (out : List Int) (go : FS) => xs.length - c) 0 xs g O gO ma0 ⟨(Nat.zero_le _), rfl, ok, hO, oko, (.inl rfl)⟩ (by rfl) (fun c X gx out go f2 J1 hp3 hJ1 => ?_)))
 obtain ⟨hc, hX, okx, hout, okx2, hlt⟩ := hp3
 have hXl_ := congrArg List.length hX; rw [List.length_drop] at hXl_; have hdl_ := dueM_le xs now; have hol_ := congrArg List.length hout; rw [keysS_len, List.length_take] at hol_; have hhd_ := drop_head hX; have hsp_ := @dueM_spec now xs c hc
 refine W.seq (fun K4 hK4 => W.seq (fun K5 hK5 => ?_))
 refine W.draws [(0, false), (1, false), (2, false), (3, false), (4, false), (5, false), (6, false), (7, true), (8, true), (9, true), (10, true), (11, true), (12, true), (13, true), (14, false), (15, false), (16, false)] [7, 8, 9, 10, 11, 12, 13] (Mem w M [go.seg 3 (mc (Value.int .i64) out), gx.seg 87 (mm spk X), [cb wb [Value.slice gx.a X.length gx.cap] 85], [cb pw [pV wb 0] 55], [cb pn [iV .u64 now] 54], [cb pu [Value.slice go.a out.length go.cap] 39], [cb pq [iV .i64 q] 3]]) ma0 ma0 ma0 rfl ma0 (fun _ _ h_ => h_.drawn _) (fun _ h_ => h_) (Wd.yc (v := pV wb 0) rfl rfl rfl (Ys.yc (Ys.l1 pw 0 3 0 Try.isAgg55)) (.inr fun _ h_ => h_) (Wd.yc (v := pV wb 0) rfl rfl rfl (Ys.yc (Ys.pure (fun _ => kr))) (.inr fun _ h_ => h_) (Wd.yc (v := pV wb 0) rfl rfl rfl (Ys.yc (Ys.pure (fun _ => kr))) (.inr fun _ h_ => h_) (Wd.yc (v := Value.slice gx.a X.length gx.cap) rfl rfl rfl (Ys.yc (Ys.l1 wb 0 2 0 Try.isAgg83)) (.inr fun _ h_ => h_) ?_))))
 refine Wd.yc (v := nV .i64 X.length) rfl rfl rfl (Ys.yc (Ys.pure (fun _ => kr))) (.inr fun _ h_ => h_) (Wd.yc (v := bV (decide (((X.length : Nat) : Int) > 0))) rfl rfl rfl (Ys.yc (Ys.pure (fun _ => kr))) (.inr fun _ h_ => h_) (Wd.yc (v := bV (decide (((X.length : Nat) : Int) > 0))) rfl rfl rfl (Ys.yc (Ys.pure (fun _ => kr))) (.inr fun _ h_ => h_) ?_))
 refine Wd.guard (v := pV wb 0) (decide (((X.length : Nat) : Int) > 0)) rfl (wantT rfl ma0) rfl (fun hg6 => ?_) ?_
 ·exact Ys.l1 pw 0 3 0 Try.isAgg55
 refine Wd.guard (v := pV wb 0) (decide (((X.length : Nat) : Int) > 0)) rfl (wantT rfl ma0) rfl (fun hg7 => ?_) ?_
 ·have qhg7 := hg7; try simp only [zA] at qhg7
  refine Ys.at (t := 12) (v0 := pV wb 0) (lz (g := decide (((X.length : Nat) : Int) > 0)) (u := undef) hg7 ma0) ?_
  exact Ys.pure (fun _ => kr)
 refine Wd.guard (v := pV wb 0) (decide (((X.length : Nat) : Int) > 0)) rfl (wantT rfl ma0) rfl (fun hg8 => ?_) ?_
 ·have qhg8 := hg8; try simp only [zA] at qhg8
  refine Ys.at (t := 13) (v0 := pV wb 0) (lz (g := decide (((X.length : Nat) : Int) > 0)) (u := undef) hg8 ma0) ?_
  exact Ys.pure (fun _ => kr)
 refine Wd.guard (v := Value.slice gx.a X.length gx.cap) (decide (((X.length : Nat) : Int) > 0)) rfl (wantT rfl ma0) rfl (fun hg9 => ?_) ?_
 ·have qhg9 := hg9; try simp only [zA] at qhg9
  refine Ys.at (t := 14) (v0 := pV wb 0) (lz (g := decide (((X.length : Nat) : Int) > 0)) (u := undef) hg9 ma0) ?_
  exact Ys.l1 wb 0 2 0 Try.isAgg83
 refine Wd.guard (v := Value.pointer (some (ela gx.a 0))) (decide (((X.length : Nat) : Int) > 0)) rfl (wantT rfl ma0) rfl (fun hg10 => ?_) ?_
 ·have qhg10 := hg10; try simp only [zA] at qhg10
  refine Ys.at (t := 15) (v0 := Value.slice gx.a X.length gx.cap) (lz (g := decide (((X.length : Nat) : Int) > 0)) (u := undef) hg10 ma0) ?_
  exact Ys.indexAddr (k := .i64) (a := gx.a) (len := X.length) (cap := gx.cap) (i := 0) (sz := 2) rfl ma0 ma0 Try.runUnderlying83 Try.sizeOf87 ma1 ma1 (by rw [FS.a_own (FS.notnil okx ma1)]; rfl)
 refine Wd.guard (v := Value.pointer (some (ela gx.a 0))) (decide (((X.length : Nat) : Int) > 0)) rfl (wantT rfl ma0) rfl (fun hg11 => ?_) ?_
 ·have qhg11 := hg11; try simp only [zA] at qhg11
  refine Ys.at (t := 16) (v0 := Value.pointer (some (ela gx.a 0))) (lz (g := decide (((X.length : Nat) : Int) > 0)) (u := undef) hg11 ma0) ?_
  exact Ys.pure (fun _ => kr)
 refine Wd.guard (v := iV .u64 ((X.getD 0 (0, 0)).1)) (decide (((X.length : Nat) : Int) > 0)) rfl (wantT rfl ma0) rfl (fun hg12 => ?_) ?_
 ·have qhg12 := hg12; try simp only [zA] at qhg12
  refine Ys.at (t := 17) (v0 := Value.pointer (some (ela gx.a 0))) (lz (g := decide (((X.length : Nat) : Int) > 0)) (u := undef) hg12 ma0) ?_
  exact Ys.ld (a := ela gx.a 0) rfl ma0 Try.isAgg54 (fun w_ h_ => (FS.at (i := 1) (t := 87) h_ rfl (FS.nil_cs okx (mm_len spk_len _))).ld (mm_getF (g := spk) (sz := 2) (fun _ => rfl) (0, 0) (xs := X) (k := 0) ma1 0 rfl))
 refine Wd.guardc (v := iV .u64 now) (decide (((X.length : Nat) : Int) > 0)) rfl (wantT rfl ma0) rfl (fun hg13 => ?_) (.inr fun _ h_ => h_) ?_
 ·refine Ys.yc ?_
  exact Ys.l1 pn 0 4 0 Try.isAgg54
 refine Wd.guardc (v := bV (decide (((X.getD 0 (0, 0)).1) ≤ now))) (decide (((X.length : Nat) : Int) > 0)) rfl (wantT rfl ma0) rfl (fun hg14 => ?_) (.inr fun _ h_ => h_) ?_
 ·have qhg14 := hg14; try simp only [zA] at qhg14
  refine Ys.yc (Ys.at (t := 18) (v0 := iV .u64 ((X.getD 0 (0, 0)).1)) (lz (g := decide (((X.length : Nat) : Int) > 0)) (u := undef) hg14 ma0) (Ys.at (t := 19) (v0 := iV .u64 now) (lz (g := decide (((X.length : Nat) : Int) > 0)) (u := undef) hg14 ma0) ?_))
  exact Ys.pure (fun _ => kr)
 refine Wd.yc (v := bV ((decide (((X.length : Nat) : Int) > 0)) && (decide (((X.getD 0 (0, 0)).1) ≤ now)))) rfl rfl rfl (Ys.yc (Ys.and (e := decide (((X.length : Nat) : Int) > 0)) (b := decide (((X.getD 0 (0, 0)).1) ≤ now)) rfl ma0 ma0 ma0)) (.inr fun _ h_ => h_) (Wd.nil (hK5 _ _ _ (W.prune' [0, 1, 2, 12, 13, 14, 15, 16, 17, 18, 19, 20, 21] [Value.func (.func 54) #[] #[pV pu 0, pV pq 0], pV pw 0, pV pn 0, (bif decide (((X.length : Nat) : Int) > 0) then pV wb 0 else undef), (bif decide (((X.length : Nat) : Int) > 0) then pV wb 0 else undef), (bif decide (((X.length : Nat) : Int) > 0) then pV wb 0 else undef), (bif decide (((X.length : Nat) : Int) > 0) then Value.slice gx.a X.length gx.cap else undef), (bif decide (((X.length : Nat) : Int) > 0) then Value.pointer (some (ela gx.a 0)) else undef), (bif decide (((X.length : Nat) : Int) > 0) then Value.pointer (some (ela gx.a 0)) else undef), (bif decide (((X.length : Nat) : Int) > 0) then iV .u64 ((X.getD 0 (0, 0)).1) else undef), (bif decide (((X.length : Nat) : Int) > 0) then iV .u64 now else undef), (bif decide (((X.length : Nat) : Int) > 0) then bV (decide (((X.getD 0 (0, 0)).1) ≤ now)) else undef), bV ((decide (((X.length : Nat) : Int) > 0)) && (decide (((X.getD 0 (0, 0)).1) ≤ now)))] ma0 (fun f15 => ?_))))
 refine W.cond ((decide (((X.length : Nat) : Int) > 0)) && (decide (((X.getD 0 (0, 0)).1) ≤ now))) ma0 (fun h16 => ?_) (fun h17 => ?_)
 ·have qh16 := h16; try simp only [zA] at qh16
  refine W.skip' (hK4 _ _ _ (W.prune' [0, 1, 2, 12, 13, 14, 15, 16, 17, 18, 19, 20] [Value.func (.func 54) #[] #[pV pu 0, pV pq 0], pV pw 0, pV pn 0, (bif decide (((X.length : Nat) : Int) > 0) then pV wb 0 else undef), (bif decide (((X.length : Nat) : Int) > 0) then pV wb 0 else undef), (bif decide (((X.length : Nat) : Int) > 0) then pV wb 0 else undef), (bif decide (((X.length : Nat) : Int) > 0) then Value.slice gx.a X.length gx.cap else undef), (bif decide (((X.length : Nat) : Int) > 0) then Value.pointer (some (ela gx.a 0)) else undef), (bif decide (((X.length : Nat) : Int) > 0) then Value.pointer (some (ela gx.a 0)) else undef), (bif decide (((X.length : Nat) : Int) > 0) then iV .u64 ((X.getD 0 (0, 0)).1) else undef), (bif decide (((X.length : Nat) : Int) > 0) then iV .u64 now else undef), (bif decide (((X.length : Nat) : Int) > 0) then bV (decide (((X.getD 0 (0, 0)).1) ≤ now)) else undef)] ma0 (fun f18 => W.block (W.seq (fun K19 hK19 => ?_)))))
  have hz_ := Bool.and_eq_true_iff.1 h16
  have hc0_ : c < xs.length := by have z_ := of_decide_eq_true hz_.1; omega
  have hc1_ : c + 1 ≤ dueM xs now := (hsp_ hc0_).1 (by rw [← hhd_]; exact of_decide_eq_true hz_.2)
  refine W.region (Wl.ys rfl rfl (Ys.l1 pw 0 3 0 Try.isAgg55) (Wl.run 2 ma0 (Wl.ys rfl rfl (Ys.l1 wb 0 2 0 Try.isAgg83) (Wl.ys (v := Value.pointer (some (ela gx.a 0))) rfl rfl (Ys.indexAddr (k := .i64) (a := gx.a) (len := X.length) (cap := gx.cap) (i := 0) (sz := 2) rfl ma0 ma0 Try.runUnderlying83 Try.sizeOf87 ma1 ma1 (by rw [FS.a_own (FS.notnil okx ma1)]; rfl)) ?_))))
  refine Wl.run 1 ma0 (Wl.ys (v := iV .i64 ((X.getD 0 (0, 0)).2)) rfl rfl (Ys.ld (a := (ela gx.a 0).add 1) rfl ma0 Try.isAgg3 (fun w_ h_ => (FS.at (i := 1) (t := 87) h_ rfl (FS.nil_cs okx (mm_len spk_len _))).ldF (mm_getF (g := spk) (sz := 2) (fun _ => rfl) (0, 0) (xs := X) (k := 0) ma1 1 rfl))) (Wl.run 1 ma0 (Wl.nil (hK19 _ _ _ ?_))))
  refine W.prune' [0, 1, 2, 4, 12, 13, 14, 15, 16, 17, 18, 19, 20] [Value.func (.func 54) #[] #[pV pu 0, pV pq 0], pV pw 0, pV pn 0, iV .i64 ((X.getD 0 (0, 0)).2), (bif decide (((X.length : Nat) : Int) > 0) then pV wb 0 else undef), (bif decide (((X.length : Nat) : Int) > 0) then pV wb 0 else undef), (bif decide (((X.length : Nat) : Int) > 0) then pV wb 0 else undef), (bif decide (((X.length : Nat) : Int) > 0) then Value.slice gx.a X.length gx.cap else undef), (bif decide (((X.length : Nat) : Int) > 0) then Value.pointer (some (ela gx.a 0)) else undef), (bif decide (((X.length : Nat) : Int) > 0) then Value.pointer (some (ela gx.a 0)) else undef), (bif decide (((X.length : Nat) : Int) > 0) then iV .u64 ((X.getD 0 (0, 0)).1) else undef), (bif decide (((X.length : Nat) : Int) > 0) then iV .u64 now else undef), (bif decide (((X.length : Nat) : Int) > 0) then bV (decide (((X.getD 0 (0, 0)).1) ≤ now)) else undef)] ma0 (fun f20 => W.seq (fun K21 hK21 => ?_))
  refine W.draws [(0, true), (1, false), (2, false), (3, false), (4, false), (5, false), (6, false), (7, false), (8, false)] [0] (Mem w M [go.seg 3 (mc (Value.int .i64) out), [cb wb [Value.slice gx.a X.length gx.cap] 85], [cb pw [pV wb 0] 55], [cb pn [iV .u64 now] 54], [cb pu [Value.slice go.a out.length go.cap] 39], [cb pq [iV .i64 q] 3]]) ma0 ma0 ma0 rfl ma0 (fun _ _ h_ => h_.drawn _) (fun _ h_ => h_.pick [0, 2, 3, 4, 5, 6] ma3 rfl) (Wd.ys rfl rfl rfl (Ys.l1 pw 0 2 0 Try.isAgg55) (Wd.yc (v := pV wb 0) rfl rfl rfl (Ys.yc (Ys.l1 pw 0 3 0 Try.isAgg55)) (.inr fun _ h_ => h_.pick [0, 2, 3, 4, 5, 6] ma3 rfl) (Wd.yc (v := pV wb 0) rfl rfl rfl (Ys.yc (Ys.pure (fun _ => kr))) (.inr fun _ h_ => h_.pick [0, 2, 3, 4, 5, 6] ma3 rfl) (Wd.yc (v := pV wb 0) rfl rfl rfl (Ys.yc (Ys.pure (fun _ => kr))) (.inr fun _ h_ => h_.pick [0, 2, 3, 4, 5, 6] ma3 rfl) ?_))))
  refine Wd.yc (v := Value.slice gx.a X.length gx.cap) rfl rfl rfl (Ys.yc (Ys.l1 wb 0 2 0 Try.isAgg83)) (.inr fun _ h_ => h_.pick [0, 2, 3, 4, 5, 6] ma3 rfl) ?_
  obtain ⟨Z22, hZ23⟩ : ∃ Z, X.take 0 ++ X.drop (0 + 1) = Z := ⟨_, rfl⟩
  refine Wd.htS rfl rfl (HtS.call (β := FS) (k := 56) (args := #[Value.slice gx.a X.length gx.cap, iV .i64 0, iV .i64 1]) (Lin := [gx.seg 87 (mm spk X)]) (Lk := [go.seg 3 (mc (Value.int .i64) out), [cb wb [Value.slice gx.a X.length gx.cap] 85], [cb pw [pV wb 0] 55], [cb pn [iV .u64 now] 54], [cb pu [Value.slice go.a out.length go.cap] 39], [cb pq [iV .i64 q] 3]]) (Lo := fun g24 => [g24.seg 87 (mm spk Z22), go.seg 3 (mc (Value.int .i64) out), [cb wb [Value.slice gx.a X.length gx.cap] 85], [cb pw [pV wb 0] 55], [cb pn [iV .u64 now] 54], [cb pu [Value.slice go.a out.length go.cap] 39], [cb pq [iV .i64 q] 3]]) [1] [0, 2, 3, 4, 5, 6] rfl (fun _ => kr) ma3 rfl rfl rfl (fun w_ hm_ hl_ => (delw_c gx X Z22 0 0 1 _ _ rfl rfl hZ23 hl_ okx ma1 ma1)) (fun _ => rfl)) (.inr fun _ _ h_ => h_.pick [1, 2, 3, 4, 5, 6] ma3 rfl) (fun g24 hx28 => ?_)
  obtain ⟨ok25, nn26⟩ := hx28
  refine Wd.yc (v := pV wb 0) rfl rfl rfl (Ys.yc (Ys.pure (fun _ => kr))) (.inl ma0) (Wd.yc (v := pV wb 0) rfl rfl rfl (Ys.yc (Ys.pure (fun _ => kr))) (.inl ma0) (Wd.ht rfl rfl (Ht.store (b := wb) (o' := 0) (i := 2) (j := 0) (v := sV g24 Z22.length) (LL' := [g24.seg 87 (mm spk Z22), go.seg 3 (mc (Value.int .i64) out), [cb wb [sV g24 Z22.length] 85], [cb pw [pV wb 0] 55], [cb pn [iV .u64 now] 54], [cb pu [Value.slice go.a out.length go.cap] 39], [cb pq [iV .i64 q] 3]]) rfl rfl ma0 ma0 Try.sizeOf83 rfl rfl rfl ma8 rfl rfl) (.inl ma0) (fun _ => Wd.nil (hK21 _ _ _ ?_))))
  refine W.prune' [0, 1, 2, 4, 12, 13, 14, 15, 16, 17, 18, 19, 20] [Value.func (.func 54) #[] #[pV pu 0, pV pq 0], pV pw 0, pV pn 0, iV .i64 ((X.getD 0 (0, 0)).2), (bif decide (((X.length : Nat) : Int) > 0) then pV wb 0 else undef), (bif decide (((X.length : Nat) : Int) > 0) then pV wb 0 else undef), (bif decide (((X.length : Nat) : Int) > 0) then pV wb 0 else undef), (bif decide (((X.length : Nat) : Int) > 0) then Value.slice gx.a X.length gx.cap else undef), (bif decide (((X.length : Nat) : Int) > 0) then Value.pointer (some (ela gx.a 0)) else undef), (bif decide (((X.length : Nat) : Int) > 0) then Value.pointer (some (ela gx.a 0)) else undef), (bif decide (((X.length : Nat) : Int) > 0) then iV .u64 ((X.getD 0 (0, 0)).1) else undef), (bif decide (((X.length : Nat) : Int) > 0) then iV .u64 now else undef), (bif decide (((X.length : Nat) : Int) > 0) then bV (decide (((X.getD 0 (0, 0)).1) ≤ now)) else undef)] ma0 (fun f29 => W.seq (fun K30 hK30 => ?_))
  refine W.region ?_
  obtain ⟨out31, hout32⟩ : ∃ z, out ++ [((X.getD 0 (0, 0)).2)] = z := ⟨_, rfl⟩
  have lhout32 : out31.length = out.length + 1 := hout32 ▸ List.length_append
  refine Wl.run 2 ma0 (Wl.htS rfl (HtS.call (β := FS) (k := 54) (args := #[iV .i64 ((X.getD 0 (0, 0)).2), pV pu 0, pV pq 0]) (Lin := [go.seg 3 (mc (Value.int .i64) out), [cb pu [Value.slice go.a out.length go.cap] 39], [cb pq [iV .i64 q] 3]]) (Lk := [g24.seg 87 (mm spk Z22), [cb wb [sV g24 Z22.length] 85], [cb pw [pV wb 0] 55], [cb pn [iV .u64 now] 54]]) (Lo := fun go33 => [go33.seg 3 (mc (Value.int .i64) out31), [cb pu [Value.slice go33.a out31.length go33.cap] 39], [cb pq [iV .i64 q] 3], g24.seg 87 (mm spk Z22), [cb wb [sV g24 Z22.length] 85], [cb pw [pV wb 0] 55], [cb pn [iV .u64 now] 54]]) [1, 5, 6] [0, 2, 3, 4] rfl (fun _ => kr) ma3 rfl rfl rfl (fun w_ hm_ hl_ => (due1_c out out31 go q pu pq ((X.getD 0 (0, 0)).2) _ _ hout32 hl_ okx2 ma1)) (fun _ => rfl)) (fun go33 oko34 => ?_))
  refine Wl.run 1 ma0 (Wl.nil (hK30 _ _ _ (W.prune' [0, 1, 2, 12, 13, 14, 15, 16, 17, 18, 19, 20, 40] [Value.func (.func 54) #[] #[pV pu 0, pV pq 0], pV pw 0, pV pn 0, (bif decide (((X.length : Nat) : Int) > 0) then pV wb 0 else undef), (bif decide (((X.length : Nat) : Int) > 0) then pV wb 0 else undef), (bif decide (((X.length : Nat) : Int) > 0) then pV wb 0 else undef), (bif decide (((X.length : Nat) : Int) > 0) then Value.slice gx.a X.length gx.cap else undef), (bif decide (((X.length : Nat) : Int) > 0) then Value.pointer (some (ela gx.a 0)) else undef), (bif decide (((X.length : Nat) : Int) > 0) then Value.pointer (some (ela gx.a 0)) else undef), (bif decide (((X.length : Nat) : Int) > 0) then iV .u64 ((X.getD 0 (0, 0)).1) else undef), (bif decide (((X.length : Nat) : Int) > 0) then iV .u64 now else undef), (bif decide (((X.length : Nat) : Int) > 0) then bV (decide (((X.getD 0 (0, 0)).1) ≤ now)) else undef), bV (!(decide (((out31.length : Nat) : Int) < q)))] ma0 (fun f36 => ?_))))
  refine W.cond (!(decide (((out31.length : Nat) : Int) < q))) ma0 (fun h37 => ?_) (fun h38 => ?_)
  ·have qh37 := h37; try simp only [zA] at qh37
   refine W.ret ?_
   have hN : dueN xs now q = c + 1 := dueN_full hc1_ hlt (by have z_ := qh37; (try simp at z_); omega)
   have hX2 := drop_one hX hZ23
   have ho2 := hout32 ▸ keys_one hout ma1 (congrArg Prod.snd hhd_)
   rw [← hN] at hX2 ho2
   show ∀ w_, _ → bodyPostM (fence none) 0 Try.prog Try.f67 _ Exit.ret _ w_
   exact fun w_ hS_ => fin_ret (ret0 rfl  ⟨(go33, g24), ⟨ho2 ▸ oko34, hX2 ▸ ok25⟩, rfl, (Mem.cast (by rw [ho2, hX2]; rfl) (hS_.pick [0, 3, 4, 1, 2] ma3 rfl))⟩)
  ·have qh38 := h38; try simp only [zA] at qh38
   refine W.skip' ?_
   refine fun w_ h_ => hJ1 (c + 1) Z22 g24 out31 go33 _ w_ ma1 ⟨hc1_, (drop_one hX hZ23), ok25, (hout32 ▸ keys_one hout ma1 (congrArg Prod.snd hhd_)), oko34, (.inr (by have z_ := qh38; (try simp at z_); omega))⟩ ?_ (h_.pick [0, 3, 4, 5, 6, 1, 2] ma3 rfl)
   kernel_rfl
 ·have qh17 := h17; try simp only [zA] at qh17
  refine W.exit ?_
  have hN : dueN xs now q = c := by
   refine dueN_stop ?_ hlt
   by_cases hcl_ : c < xs.length
   ·have y_ := hsp_ hcl_
    rw [← hhd_] at y_
    rcases Bool.and_eq_false_iff.1 h17 with z_ | z_
    ·have := of_decide_eq_false z_; omega
    ·have := of_decide_eq_false z_; omega
   ·omega
  have hX2 := hX
  have ho2 := hout
  rw [← hN] at hX2 ho2
  show ∀ w_, _ → bodyPostM (fence none) 0 Try.prog Try.f67 _ Exit.normal _ w_
  exact fun w_ hS_ => fin_normal (ret0 rfl  ⟨(go, gx), ⟨ho2 ▸ okx2, hX2 ▸ okx⟩, rfl, (Mem.cast (by rw [ho2, hX2]; rfl) (hS_.pick [0, 1, 2, 5, 6] ma3 rfl))⟩)
theorem due_c (xs : List (Int × Int)) (g : FS) (wb : Nat) (now q : Int) (M : List Nat) (w : World) (hl : Mem w M [g.seg 87 (mm spk xs), [cb wb [Value.slice g.a xs.length g.cap] 85]] w) (ok : g.ok 2 xs.length) (hn : xs.length ≤ 1000) : Calls Try.prog 33 #[pV wb 0, iV .u64 now, iV .i64 q] w (RetM w (fun q_ : FS × FS => q_.1.ok 1 (keysS (xs.take (dueN xs now q))).length ∧ q_.2.ok 2 (xs.drop (dueN xs now q)).length) (fun q_ => .slice q_.1.a (keysS (xs.take (dueN xs now q))).length q_.1.cap) M (fun q_ => [q_.1.seg 3 (mc (Value.int .i64) (keysS (xs.take (dueN xs now q)))), q_.2.seg 87 (mm spk (xs.drop (dueN xs now q))), [cb wb [Value.slice q_.2.a ((xs.drop (dueN xs now q)).length) q_.2.cap] 85]])) := by
 refine calls_W (M := M) (LL := [g.seg 87 (mm spk xs), [cb wb [sV g xs.length] 85]]) (n := 15) Try.func33 rfl rfl ma8 (hl) (W.seq (fun K1 hK1 => ?_))
 refine W.region (Wl.ht rfl (Ht.box (v := iV .i64 q) (cs := [iV .i64 q]) rfl rfl ma0 rfl) (fun p5 => ?_))
 refine Wl.run 1 ma0 (Wl.nil (hK1 _ _ _ (W.prune' [0, 1, 5] [pV wb 0, iV .u64 now, pV p5 0] ma0 (fun f2 => W.seq (fun K3 hK3 => ?_)))))
 refine W.region (Wl.ht rfl (Ht.made (mk := fun b_ => .slice (some ⟨b_, 0, none⟩) 0 0) (t := 3) (cs := []) rfl (fun _ => kr)) (fun p8 => ?_))
 refine Wl.ht rfl (Ht.alloc (z := Value.slice none 0 0) (cs := [Value.slice none 0 0]) rfl rfl Try.zeroValue39 rfl) (fun p7 => Wl.ht rfl (Ht.store (b := p7) (o' := 0) (i := 0) (j := 0) (v := Value.slice (some ⟨p8, 0, none⟩) 0 0) (LL' := [[cb p7 [Value.slice (some ⟨p8, 0, none⟩) 0 0] 39], [cb p8 [] 3], [cb p5 [iV .i64 q] 3], g.seg 87 (mm spk xs), [cb wb [sV g xs.length] 85]]) rfl rfl ma0 ma0 Try.sizeOf39 rfl rfl rfl ma8 rfl rfl) (fun _ => ?_))
 refine Wl.nil (hK3 _ _ _ (W.prune' [0, 1, 5, 7] [pV wb 0, iV .u64 now, pV p5 0, pV p7 0] ma0 (fun f4 => W.seq (fun K5 hK5 => ?_))))
 obtain ⟨O7, hx10⟩ : ∃ z : List Int, z = [] := ⟨_, rfl⟩
 obtain ⟨go6, hg9⟩ : ∃ z : FS, z = FS.mk false p8 0 [] := ⟨_, rfl⟩
 have oko8 : go6.ok 1 O7.length := by rw [hg9, hx10]; exact FS.lit_ok ma3
 refine W.conseq (S' := Mem w M [[cb p7 [Value.slice go6.a O7.length go6.cap] 39], go6.seg 3 (mc (Value.int .i64) O7), [cb p5 [iV .i64 q] 3], g.seg 87 (mm spk xs), [cb wb [sV g xs.length] 85]]) (fun w_ h_ => Mem.cast (LL := [[cb p7 [Value.slice (some ⟨p8, 0, none⟩) 0 0] 39], [cb p8 [] 3], [cb p5 [iV .i64 q] 3], g.seg 87 (mm spk xs), [cb wb [sV g xs.length] 85]]) (by rw [hg9, hx10]; rfl) h_) (W.region (Wl.run 2 ma0 (Wl.htS rfl (HtS.call (β := Nat × Nat) (k := 53) (args := #[pV wb 0, iV .u64 now]) (Lin := []) (Lk := [[cb p7 [Value.slice go6.a O7.length go6.cap] 39], go6.seg 3 (mc (Value.int .i64) O7), [cb p5 [iV .i64 q] 3], g.seg 87 (mm spk xs), [cb wb [sV g xs.length] 85]]) (Mi := []) (Lo := fun q13 => [[cb q13.1 [pV wb 0] 55], [cb q13.2 [iV .u64 now] 54], [cb p7 [Value.slice go6.a O7.length go6.cap] 39], go6.seg 3 (mc (Value.int .i64) O7), [cb p5 [iV .i64 q] 3], g.seg 87 (mm spk xs), [cb wb [sV g xs.length] 85]]) [] [0, 1, 2, 3, 4] rfl (fun _ => kr) ma3 rfl rfl rfl (fun w_ hm_ hl_ => (wdue_c wb now _)) (fun _ => rfl)) (fun q13 _ => ?_))))
 obtain ⟨pw11, pn12⟩ := q13
 refine Wl.castL (LL' := [[cb pw11 [pV wb 0] 55], [cb pn12 [iV .u64 now] 54], [cb p7 [Value.slice go6.a O7.length go6.cap] 39], go6.seg 3 (mc (Value.int .i64) O7), [cb p5 [iV .i64 q] 3], g.seg 87 (mm spk xs), [cb wb [sV g xs.length] 85]]) rfl (Wl.run 1 ma0 (Wl.htS rfl (HtS.call (β := FS × FS) (k := 67) (args := #[Value.func (.func 54) #[] #[pV p7 0, pV p5 0], pV pw11 0, pV pn12 0]) (Lin := [go6.seg 3 (mc (Value.int .i64) O7), g.seg 87 (mm spk xs), [cb wb [sV g xs.length] 85], [cb pw11 [pV wb 0] 55], [cb pn12 [iV .u64 now] 54], [cb p7 [Value.slice go6.a O7.length go6.cap] 39], [cb p5 [iV .i64 q] 3]]) (Lk := []) (Lo := fun q19 => [q19.1.seg 3 (mc (Value.int .i64) (keysS (xs.take (dueN xs now q)))), q19.2.seg 87 (mm spk (xs.drop (dueN xs now q))), [cb wb [Value.slice q19.2.a ((xs.drop (dueN xs now q)).length) q19.2.cap] 85], [cb p7 [Value.slice q19.1.a ((keysS (xs.take (dueN xs now q))).length) q19.1.cap] 39], [cb p5 [iV .i64 q] 3]]) [3, 5, 6, 0, 1, 2, 4] [] rfl (fun _ => kr) ma3 rfl rfl rfl (fun w_ hm_ hl_ => (wdue1_c xs g wb O7 go6 now q pw11 pn12 p7 p5 _ _ hl_ ok ma1 oko8 hx10)) (fun _ => rfl)) (fun q19 hx21 => ?_)))
 obtain ⟨go15, g16⟩ := q19
 dsimp only at hx21
 obtain ⟨oko17, ok18⟩ := hx21
 refine Wl.castL (LL' := [go15.seg 3 (mc (Value.int .i64) (keysS (xs.take (dueN xs now q)))), g16.seg 87 (mm spk (xs.drop (dueN xs now q))), [cb wb [sV g16 ((xs.drop (dueN xs now q)).length)] 85], [cb p7 [Value.slice go15.a ((keysS (xs.take (dueN xs now q))).length) go15.cap] 39], [cb p5 [iV .i64 q] 3]]) rfl (Wl.nil (hK5 _ _ _ (W.pick (LL' := [go15.seg 3 (mc (Value.int .i64) (keysS (xs.take (dueN xs now q)))), g16.seg 87 (mm spk (xs.drop (dueN xs now q))), [cb wb [sV g16 ((xs.drop (dueN xs now q)).length)] 85], [cb p7 [Value.slice go15.a ((keysS (xs.take (dueN xs now q))).length) go15.cap] 39]]) [0, 1, 2, 3] ma3 rfl (W.prune' [7] [pV p7 0] ma0 (fun f22 => ?_)))))
 refine W.seq (fun K23 hK23 => W.region (Wl.ys rfl rfl (Ys.l1 p7 0 3 0 Try.isAgg39) (Wl.run 1 ma0 (Wl.nil ?_))))
 refine hK23 _ _ _ (W.pick (LL' := [go15.seg 3 (mc (Value.int .i64) (keysS (xs.take (dueN xs now q)))), g16.seg 87 (mm spk (xs.drop (dueN xs now q))), [cb wb [sV g16 ((xs.drop (dueN xs now q)).length)] 85]]) [0, 1, 2] ma3 rfl (W.prune' [6] [Value.slice go15.a ((keysS (xs.take (dueN xs now q))).length) go15.cap] ma0 (fun f24 => W.ret ?_)))
 show ∀ w_, _ → bodyPostM (fence none) 0 Try.prog Try.f33 _ Exit.ret _ w_
 exact fun w_ hS_ => fin_ret (ret1 rfl (RV.tmp (v := Value.slice go15.a ((keysS (xs.take (dueN xs now q))).length) go15.cap) ma0) hS_ ⟨(go15, g16), ⟨oko17, ok18⟩, rfl, (hS_.pick [0, 1, 2] ma3 rfl)⟩)
end Go.Proofs.Ythfagedaijoenaa.Oct
