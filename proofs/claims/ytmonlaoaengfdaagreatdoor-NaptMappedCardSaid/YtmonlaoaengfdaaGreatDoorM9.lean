import Derived.Test.YtmonlaoaengfdaaGreatDoorM5
set_option linter.unusedVariables false
set_option linter.unusedSimpArgs false
set_option maxRecDepth 20000
namespace Go.Proofs.YtmonlaoaengfdaaGreatDoor.Oct
open Go.RowKit Base
attribute [local irreducible] Ys Yc Ht HtS HtIn Wl Wd W Mem pf dpf Wa Wo
namespace ZN
theorem drop_take {cs r : List Value} {n i s : Nat} (hc : cs.length = n * s) (hi : i ≤ n) : ((cs ++ r).drop (i * s)).take ((n - i) * s) = cs.drop (i * s) := by
  have h : i * s ≤ n * s := Nat.mul_le_mul_right _ hi
  rw [List.drop_append_of_le_length ma1, List.take_append_of_le_length ma25]
  exact List.take_of_length_le ma25
theorem one_drop {cs : List Value} (h : ∀ v ∈ cs, v.oneCell' = true) (k : Nat) : ∀ v ∈ cs.drop k, v.oneCell' = true := fun v hv => h v (List.mem_of_mem_drop hv)
theorem putAt_app {a b c : List Value} {o : Nat} {v : List Value} (ho : o = a.length) (hv : v.length = b.length) : putAt (a ++ (b ++ c)) o v = a ++ (v ++ c) := by
  subst ho; unfold putAt
  rw [List.take_left, hv, ← List.drop_drop, List.drop_left, List.drop_left]
theorem ins_in {cs r news A1 A2 : List Value} {n i : Nat} (hc : cs.length = n * 6) (hi : i < n) (hn : news.length = 6) (hr : 6 ≤ r.length) (h1 : putAt (cs ++ r) ((i + 1) * 6) (cs.drop (i * 6)) = A1) (h2 : putAt A1 (i * 6) news = A2) :
    A2 = (cs.take (i * 6) ++ (news ++ cs.drop (i * 6))) ++ r.drop 6 := by
  subst h1; subst h2
  obtain ⟨a, b, rfl, ha⟩ : ∃ a b, cs = a ++ b ∧ a.length = i * 6 := ⟨cs.take (i * 6), cs.drop (i * 6), (List.take_append_drop _ _).symm, by rw [List.length_take]; omega⟩
  rw [List.length_append] at hc
  obtain ⟨x, r', rfl, hx⟩ : ∃ x r', r = x ++ r' ∧ x.length = 6 := ⟨r.take 6, r.drop 6, (List.take_append_drop _ _).symm, by rw [List.length_take]; omega⟩
  rw [← ha, List.drop_left, List.take_left]
  have e : putAt (a ++ b ++ (x ++ r')) ((i + 1) * 6) b = a ++ (b.take 6 ++ (b ++ r')) := by
    have hb : b = b.take 6 ++ b.drop 6 := (List.take_append_drop _ _).symm
    have hb2 : (b.take 6).length = 6 := by rw [List.length_take]; omega
    have e1 : a ++ b ++ (x ++ r') = (a ++ b.take 6) ++ ((b.drop 6 ++ x) ++ r') := by
      rw [List.append_assoc, List.append_assoc, List.append_assoc]
      congr 1
      rw [← List.append_assoc (b.take 6), ← hb]
    rw [e1, putAt_app (by rw [List.length_append, hb2]; omega) (by rw [List.length_append, List.length_drop, hx]; omega), List.append_assoc]
  rw [e, putAt_app rfl (by rw [List.length_take, hn]; omega)]
  rw [show (x ++ r').drop 6 = r' by rw [← hx, List.drop_left]]
  simp only [List.append_assoc]
theorem ins_own {cs R news A1 A2 : List Value} {n i : Nat} (hc : cs.length = n * 6) (hi : i < n) (hn : news.length = 6) (hR : (n + 1 - i) * 6 ≤ R.length) (h1 : putAt (cs.take (i * 6) ++ R) (i * 6) news = A1) (h2 : putAt A1 ((i + 1) * 6) (cs.drop (i * 6)) = A2) :
    A2 = (cs.take (i * 6) ++ (news ++ cs.drop (i * 6))) ++ R.drop ((n + 1 - i) * 6) := by
  subst h1; subst h2
  have ha : (cs.take (i * 6)).length = i * 6 := by rw [List.length_take]; omega
  have hd : (cs.drop (i * 6)).length = (n - i) * 6 := by rw [List.length_drop]; omega
  obtain ⟨x, y, z, rfl, hx, hy⟩ : ∃ x y z, R = x ++ (y ++ z) ∧ x.length = 6 ∧ y.length = (n - i) * 6 :=
    ⟨R.take 6, (R.drop 6).take ((n - i) * 6), (R.drop 6).drop ((n - i) * 6), by rw [List.take_append_drop, List.take_append_drop], by rw [List.length_take]; omega, by rw [List.length_take, List.length_drop]; omega⟩
  rw [putAt_app ha.symm (by rw [hn, hx]), ← List.append_assoc, putAt_app (by rw [List.length_append, ha, hn]; omega) (by rw [hd, hy])]
  rw [show (n + 1 - i) * 6 = (x ++ y).length by rw [List.length_append, hx, hy]; omega, ← List.append_assoc x, List.drop_left]
  simp only [List.append_assoc]
theorem del_in {cs r zs A1 A2 : List Value} {n i : Nat} (hc : cs.length = n * 6) (hi : i < n) (hz : zs.length = 6) (h1 : putAt (cs ++ r) (i * 6) (cs.drop ((i + 1) * 6)) = A1) (h2 : putAt A1 ((n - 1) * 6) zs = A2) :
    A2 = (cs.take (i * 6) ++ cs.drop ((i + 1) * 6)) ++ (zs ++ r) := by
  subst h1; subst h2
  obtain ⟨a, x, b, rfl, ha, hx⟩ : ∃ a x b, cs = a ++ (x ++ b) ∧ a.length = i * 6 ∧ x.length = 6 :=
    ⟨cs.take (i * 6), (cs.drop (i * 6)).take 6, (cs.drop (i * 6)).drop 6, by rw [List.take_append_drop, List.take_append_drop], by rw [List.length_take]; omega, by rw [List.length_take, List.length_drop]; omega⟩
  simp only [List.length_append] at hc
  have e1 : (a ++ (x ++ b)).drop ((i + 1) * 6) = b := by
    rw [show (i + 1) * 6 = (a ++ x).length by rw [List.length_append, ha, hx]; omega, ← List.append_assoc, List.drop_left]
  have e2 : (a ++ (x ++ b)).take (i * 6) = a := by rw [← ha, List.take_left]
  rw [e1, e2]
  have hb : x ++ b = (x ++ b).take b.length ++ (x ++ b).drop b.length := (List.take_append_drop _ _).symm
  have e3 : a ++ (x ++ b) ++ r = a ++ ((x ++ b).take b.length ++ ((x ++ b).drop b.length ++ r)) := by
    rw [List.append_assoc, ← List.append_assoc ((x ++ b).take b.length), ← hb]
  rw [e3, putAt_app ha.symm (by rw [List.length_take, List.length_append]; omega), ← List.append_assoc]
  rw [putAt_app (by rw [List.length_append, ha]; omega) (by rw [List.length_drop, List.length_append, hz]; omega)]
theorem insRN_c (g : FS) (cs news : List Value) (vb n i : Nat) (M : List Nat) (w : World) (hl : Mem w M [g.seg 223 cs, [cb vb news 223]] w) (ok : g.ok 6 n) (hcs : cs.length = n * 6) (hi : i ≤ n) (hn : n ≤ 100000) (hnl : news.length = 1 * 6) (h1c : ∀ v ∈ cs, v.oneCell' = true) (h1n : ∀ v ∈ news, v.oneCell' = true) : Calls Tryz.prog 180 #[sV g n, nV .i64 i, Value.slice (some ⟨vb, 0, none⟩) 1 1] w (RetM w (fun g' : FS => g'.ok 6 (n + 1) ∧ g'.nil = false) (fun g' => .slice g'.a (n + 1) g'.cap) M (fun g' => [g'.seg 223 (cs.take (i * 6) ++ (news ++ cs.drop (i * 6)))])) := by
 have hle_ := ok.le; have hmx_ := ok.mx; have h2_ := hcs
 refine calls_W (M := M) (LL := [g.seg 223 cs, [cb vb news 223]]) (n := 95) Tryz.func180 rfl rfl ma6 (hl) (W.seq (fun K1 hK1 => ?_))
 refine W.region (Wl.run 1 ma0 (Wl.nil (hK1 _ _ _ (W.seq (fun K2 hK2 => ?_)))))
 refine W.region (Wl.run 2 ma0 (Wl.ys (v := Value.slice (sla g.a g.cap i 6) (n - i) (g.cap - i)) rfl rfl (Ys.sliceL (a := g.a) (len := n) (cap := g.cap) (sz := 6) (k := .i64) (i := (i : Int)) rfl ma0 ma0 Tryz.runUnderlying161 Tryz.sizeOf223 ma1 ma1) (Wl.nil (hK2 _ _ _ ?_))))
 refine W.prune' [0, 1, 2] [sV g n, nV .i64 i, Value.slice (some ⟨vb, 0, none⟩) 1 1] ma0 (fun f3 => W.seq (fun K4 hK4 => ?_))
 refine W.region (Wl.run 3 ma0 (Wl.nil (hK4 _ _ _ (W.prune' [0, 1, 2, 7] [sV g n, nV .i64 i, Value.slice (some ⟨vb, 0, none⟩) 1 1, iV .i64 1] ma0 (fun f5 => ?_)))))
 refine W.seq (fun K6 hK6 => W.seq (fun K7 hK7 => ?_))
 refine W.region (Wl.run 2 ma0 (Wl.nil (hK7 _ _ _ (W.prune' [0, 1, 2, 7, 16] [sV g n, nV .i64 i, Value.slice (some ⟨vb, 0, none⟩) 1 1, iV .i64 1, bV false] ma0 (fun f8 => ?_)))))
 refine W.condF ma0 (W.skip' (hK6 _ _ _ (W.prune' [0, 1, 2, 7] [sV g n, nV .i64 i, Value.slice (some ⟨vb, 0, none⟩) 1 1, iV .i64 1] ma0 (fun f9 => W.seq (fun K10 hK10 => ?_)))))
 refine W.region (Wl.run 3 ma0 (Wl.nil (hK10 _ _ _ (W.prune' [0, 1, 2, 7, 8] [sV g n, nV .i64 i, Value.slice (some ⟨vb, 0, none⟩) 1 1, iV .i64 1, nV .i64 n] ma0 (fun f11 => ?_)))))
 refine W.seq (fun K12 hK12 => W.seq (fun K13 hK13 => ?_))
 refine W.region (Wl.run 3 ma0 (Wl.nil (hK13 _ _ _ (W.prune' [0, 1, 2, 7, 8, 22] [sV g n, nV .i64 i, Value.slice (some ⟨vb, 0, none⟩) 1 1, iV .i64 1, nV .i64 n, bV (((i : Nat) : Int) == (n : Int))] ma0 (fun f14 => ?_)))))
 refine W.cond (((i : Nat) : Int) == (n : Int)) ma0 (fun h15 => ?_) (fun h16 => ?_)
 ·have qh15 := h15; try simp only [zA] at qh15
  refine W.seq (fun K17 hK17 => W.region (Wl.run 2 ma0 (Wl.htS rfl (HtS.append (eu := 223) (xv := Value.slice (some ⟨vb, 0, none⟩) 1 1) (i := 0) (g := g) (e := 223) (ii := (Tryz.prog.info? 223).getD default) (z := aV [iV .u64 0, iV .u8 0, iV .u32 0, iV .u32 0, iV .u16 0, iV .u16 0]) (sz := 6) (bytes := 24) (nn := n) (m := 1) (k := n + 1) (xs := cs) (news := news) (cs' := cs ++ news) (Lo := fun g18 => [g18.seg 223 (cs ++ news), [cb vb news 223]]) rfl rfl ma0 ma0 ma0 ma0 ma0 ma0 ma0 ma0 ma0 rfl ok hcs (fun _ => rfl) (Src.at (a := some ⟨vb, 0, none⟩) hnl (fun w_ h_ => (At.lit0 (i := 1) (j := 0) (t := 223) (b := vb) h_ rfl rfl))) hnl h1n rfl (by simp only [maxLen]; omega) ma1 rfl (fun _ => rfl)) (fun g18 hx23 => ?_))))
  obtain ⟨ok19, hn20, hn21⟩ := hx23
  refine Wl.run 1 ma0 (Wl.nil (hK17 _ _ _ (W.prune' [6] [sV g18 (n + 1)] ma0 (fun f24 => W.ret ?_))))
  have hin_ : i = n := by omega
  have hB : cs.take (i * 6) ++ (news ++ cs.drop (i * 6)) = cs ++ news := by rw [List.take_of_length_le ma1, List.drop_of_length_le ma1, List.append_nil]
  show ∀ w_, _ → bodyPostM (fence none) 0 Tryz.prog Tryz.f180 _ Exit.ret _ w_
  exact fun w_ hS_ => fin_ret (ret1 rfl (RV.tmp (v := sV g18 (n + 1)) ma0) hS_ ⟨g18, ⟨ok19, (hn20 ma1)⟩, rfl, (Mem.cast (by rw [hB]; rfl) (hS_.pick [0] ma2 rfl))⟩)
 ·have qh16 := h16; try simp only [zA] at qh16
  refine W.skip' (hK12 _ _ _ (W.prune' [0, 1, 2, 7, 8] [sV g n, nV .i64 i, Value.slice (some ⟨vb, 0, none⟩) 1 1, iV .i64 1, nV .i64 n] ma0 (fun f25 => W.seq (fun K26 hK26 => W.seq (fun K27 hK27 => ?_)))))
  refine W.region (Wl.run 2 ma0 (Wl.ys (v := nV .i64 (n + 1)) rfl rfl ((Ys.pure (v := .int .i64 (iadd .i64 (n : Int) 1)) (fun _ => kr)).conseq (int_congr (iadd_eq ma1 ma1 ma1))) (Wl.run 3 ma0 (Wl.nil ?_))))
  refine hK27 _ _ _ (W.prune' [0, 1, 2, 7, 8, 31] [sV g n, nV .i64 i, Value.slice (some ⟨vb, 0, none⟩) 1 1, iV .i64 1, nV .i64 n, bV (decide (((n + 1 : Nat) : Int) > (g.cap : Int)))] ma0 (fun f28 => ?_))
  refine W.cond (decide (((n + 1 : Nat) : Int) > (g.cap : Int))) ma0 (fun h29 => ?_) (fun h30 => ?_)
  ·have qh29 := h29; try simp only [zA] at qh29
   refine W.seq (fun K31 hK31 => W.region (Wl.run 2 ma0 (Wl.ys (v := sV g i) rfl rfl (Ys.sliceH (a := g.a) (len := n) (cap := g.cap) (sz := 6) (k := .i64) (i := (i : Int)) rfl ma0 ma0 Tryz.runUnderlying161 Tryz.sizeOf223 ma1 ma1) (Wl.run 2 ma0 ?_))))
   refine Wl.ys (v := nV .i64 (n + 1)) rfl rfl ((Ys.pure (v := .int .i64 (iadd .i64 (n : Int) 1)) (fun _ => kr)).conseq (int_congr (iadd_eq ma1 ma1 ma1))) (Wl.run 1 ma0 (Wl.ys (v := iV .i64 (((n + 1 : Nat) : Int) - (i : Int))) rfl rfl ((Ys.pure (v := .int .i64 (isub .i64 ((n + 1 : Nat) : Int) (i : Int))) (fun _ => kr)).conseq (int_congr (isub_eq rfl ma1 ma1))) (Wl.ht rfl (Ht.appendZ (t := 161) (u := 3) (e := 223) (ii := (Tryz.prog.info? 223).getD default) (z := aV [iV .u64 0, iV .u8 0, iV .u32 0, iV .u32 0, iV .u16 0, iV .u16 0]) (ku := .i64) (kk := .i64) (lv := ((n + 1 : Nat) : Int) - (i : Int)) (a := g.a) (nn := i) (m := n + 1 - i) (k := n + 1) (cap := g.cap) (sz := 6) (bytes := 24) (xs := cs.take (i * 6)) (LL' := fun b32 R34 => [[cb b32 (cs.take (i * 6) ++ R34) 223], g.seg 223 cs, [cb vb news 223]]) rfl rfl ma0 ma0 ma0 ma0 ma0 ma0 ma0 ma0 ma0 ma1 (fun w_ h_ => (FS.at (i := 0) (t := 223) h_ rfl (FS.nil_cs ok hcs)).take _) (by rw [List.length_take, hcs]; omega) ma1 ma1 ma1 ma1 ma1 (fun _ _ => rfl)) (fun x38 => ?_))))
   obtain ⟨⟨b32, cap33, R34⟩, hc35, hm36, hR37⟩ := x38
   refine Wl.castL (LL' := [[cb b32 (cs.take (i * 6) ++ R34) 223], g.seg 223 cs, [cb vb news 223]]) rfl ?_
   dsimp only at hc35 hm36 hR37
   refine Wl.run 1 ma0 (Wl.nil (hK31 _ _ _ (W.prune' [0, 1, 2, 7, 9] [sV g n, nV .i64 i, Value.slice (some ⟨vb, 0, none⟩) 1 1, iV .i64 1, Value.slice (some ⟨b32, 0, none⟩) (n + 1) cap33] ma0 (fun f39 => W.seq (fun K40 hK40 => ?_)))))
   refine W.region (Wl.run 2 ma0 (Wl.ys (v := Value.slice (sla (some ⟨b32, 0, none⟩) cap33 i 6) ((n + 1) - i) (cap33 - i)) rfl rfl (Ys.sliceL (a := some ⟨b32, 0, none⟩) (len := n + 1) (cap := cap33) (sz := 6) (k := .i64) (i := (i : Int)) rfl ma0 ma0 Tryz.runUnderlying161 Tryz.sizeOf223 ma1 ma1) ?_))
   obtain ⟨A41, hA42⟩ : ∃ A, putAt (cs.take (i * 6) ++ R34) (i * 6) news = A := ⟨_, rfl⟩
   have hl43 : A41.length = (cs.take (i * 6) ++ R34).length := by rw [← hA42]; exact putAt_len _ _ _ ma10
   try simp only [List.length_append, List.length_take] at hl43
   refine Wl.run 1 ma0 (Wl.ht rfl (Ht.copySub (td := 161) (tx := 161) (e := 223) (ii := (Tryz.prog.info? 223).getD default) (xv := Value.slice (some ⟨vb, 0, none⟩) 1 1) (cap := cap33) (dl := (n + 1) - i) (dc := cap33 - i) (m := 1) (q := 1) (sz := 6) (o' := i) (i := 0) (j := 0) (b := b32) (t := 223) (cs := cs.take (i * 6) ++ R34) (cs' := A41) (news := news) (LL' := [[cb b32 A41 223], g.seg 223 cs, [cb vb news 223]]) rfl rfl ma0 ma0 ma0 ma0 ma1 ma0 rfl rfl (fun _ => rfl) ma22 (Src.at (a := some ⟨vb, 0, none⟩) hnl (fun w_ h_ => (At.lit0 (i := 2) (j := 0) (t := 223) (b := vb) h_ rfl rfl))) hnl ma10 h1n hA42 rfl) (fun _ => ?_))
   refine Wl.nil (hK40 _ _ _ (W.prune' [0, 1, 7, 9] [sV g n, nV .i64 i, iV .i64 1, Value.slice (some ⟨b32, 0, none⟩) (n + 1) cap33] ma0 (fun f44 => W.seq (fun K45 hK45 => W.draws [(0, true), (1, true), (2, true), (3, true), (4, true), (5, true), (6, false), (7, false), (8, false)] [0, 1, 2, 3, 4, 5] (Mem w M [g.seg 223 cs, [cb vb news 223]]) ma0 ma0 ma0 rfl ma0 (fun _ _ h_ => h_.drawn _) (fun _ h_ => h_.pick [1, 2] ma2 rfl) ?_))))
   refine Wd.run 3 ma0 (Wd.ys (v := nV .i64 (i + 1)) rfl rfl rfl ((Ys.pure (v := .int .i64 (iadd .i64 (i : Int) 1)) (fun _ => kr)).conseq (int_congr (iadd_eq ma1 ma1 ma1))) (Wd.ys (v := Value.slice (sla (some ⟨b32, 0, none⟩) cap33 (i + 1) 6) ((n + 1) - (i + 1)) (cap33 - (i + 1))) rfl rfl rfl (Ys.sliceL (a := some ⟨b32, 0, none⟩) (len := n + 1) (cap := cap33) (sz := 6) (k := .i64) (i := ((i + 1 : Nat) : Int)) rfl ma0 ma0 Tryz.runUnderlying161 Tryz.sizeOf223 ma1 ma1) (Wd.run 1 ma0 (Wd.yc (v := nV .i64 i) rfl rfl rfl (Ys.yc (Ys.pure (fun _ => kr))) (.inr fun _ h_ => h_.pick [1, 2] ma2 rfl) ?_))))
   refine Wd.yc (v := Value.slice (sla g.a g.cap i 6) (n - i) (g.cap - i)) rfl rfl rfl (Ys.yc (Ys.sliceL (a := g.a) (len := n) (cap := g.cap) (sz := 6) (k := .i64) (i := (i : Int)) rfl ma0 ma0 Tryz.runUnderlying161 Tryz.sizeOf223 ma1 ma1)) (.inr fun _ h_ => h_.pick [1, 2] ma2 rfl) ?_
   obtain ⟨A46, hA47⟩ : ∃ A, putAt A41 ((i + 1) * 6) (cs.drop (i * 6)) = A := ⟨_, rfl⟩
   have hl48 : A46.length = A41.length := by rw [← hA47]; exact putAt_len _ _ _ ma9
   try simp only [List.length_append, List.length_take] at hl48
   refine Wd.ht rfl rfl (Ht.copySub (td := 161) (tx := 161) (e := 223) (ii := (Tryz.prog.info? 223).getD default) (xv := Value.slice (sla g.a g.cap i 6) (n - i) (g.cap - i)) (cap := cap33) (dl := (n + 1) - (i + 1)) (dc := cap33 - (i + 1)) (m := n - i) (q := n - i) (sz := 6) (o' := i + 1) (i := 0) (j := 0) (b := b32) (t := 223) (cs := A41) (cs' := A46) (news := cs.drop (i * 6)) (LL' := [[cb b32 A46 223], g.seg 223 cs, [cb vb news 223]]) rfl rfl ma0 ma0 ma0 ma0 ma1 ma0 rfl rfl (fun _ => rfl) ma22 (Src.at (a := sla g.a g.cap i 6) (show (cs.drop (i * 6)).length = (n - i) * 6 by rw [List.length_drop, hcs]; omega) (fun w_ h_ => ((FS.at (i := 1) (t := 223) h_ rfl (FS.nil_cs ok hcs)).dropN (cap := g.cap) (k := i) (sz := 6) ma1))) (show (cs.drop (i * 6)).length = (n - i) * 6 by rw [List.length_drop, hcs]; omega) ma9 (one_drop h1c _) hA47 rfl) (.inr fun _ _ h_ => h_.pick [1, 2] ma2 rfl) (fun _ => Wd.nil (hK45 _ _ _ (W.prune' [9] [Value.slice (some ⟨b32, 0, none⟩) (n + 1) cap33] ma0 (fun f49 => W.seq (fun K50 hK50 => ?_)))))
   refine W.region (Wl.run 2 ma0 (Wl.nil (hK50 _ _ _ (W.prune' [6] [Value.slice (some ⟨b32, 0, none⟩) (n + 1) cap33] ma0 (fun f51 => ?_)))))
   refine W.ret ?_
   have hB := ins_own hcs ma1 ma1 ma1 hA42 hA47
   show ∀ w_, _ → bodyPostM (fence none) 0 Tryz.prog Tryz.f180 _ Exit.ret _ w_
   exact fun w_ hS_ => fin_ret (ret1 rfl (RV.tmp (v := Value.slice (some ⟨b32, 0, none⟩) (n + 1) cap33) ma0) hS_ ⟨⟨false, b32, cap33, R34.drop ((n + 1 - i) * 6)⟩, ⟨⟨fun h => (by cases h), ma1, ma1, (by show cap33 * 6 ≤ _; rw [List.length_drop]; omega)⟩, rfl⟩, rfl, (Mem.cast (by rw [hB]; rfl) (hS_.pick [0] ma2 rfl))⟩)
  ·have qh30 := h30; try simp only [zA] at qh30
   refine W.skip' (hK26 _ _ _ (W.prune' [0, 1, 2, 7, 8] [sV g n, nV .i64 i, Value.slice (some ⟨vb, 0, none⟩) 1 1, iV .i64 1, nV .i64 n] ma0 (fun f52 => W.seq (fun K53 hK53 => ?_))))
   have hn55 := FS.notnil ok ma1
   obtain ⟨gn54, gb, gc, gr⟩ := g
   obtain rfl : gn54 = false := hn55
   have hc56 : n ≤ gc := ok.le
   have hlr_ : gc * 6 ≤ n * 6 + gr.length := ok.len
   have hroom_ : n + 1 ≤ gc := by have z_ : ¬ (((n + 1 : Nat) : Int) > (gc : Int)) := qh30; omega
   refine W.region (Wl.run 3 ma0 (Wl.ys (v := nV .i64 (n + 1)) rfl rfl ((Ys.pure (v := .int .i64 (iadd .i64 (n : Int) 1)) (fun _ => kr)).conseq (int_congr (iadd_eq ma1 ma1 ma1))) (Wl.ys (v := Value.slice (some ⟨gb, 0, none⟩) (n + 1) gc) rfl rfl (Ys.sliceH (a := some ⟨gb, 0, none⟩) (len := n) (cap := gc) (sz := 6) (k := .i64) (i := ((n + 1 : Nat) : Int)) rfl ma0 ma0 Tryz.runUnderlying161 Tryz.sizeOf223 ma1 ma1) (Wl.run 1 ma0 ?_))))
   refine Wl.nil (hK53 _ _ _ (W.prune' [0, 1, 2, 7, 8] [Value.slice (some ⟨gb, 0, none⟩) (n + 1) gc, nV .i64 i, Value.slice (some ⟨vb, 0, none⟩) 1 1, iV .i64 1, nV .i64 n] ma0 (fun f57 => W.seq (fun K58 hK58 => W.seq (fun K59 hK59 => ?_)))))
   refine W.region (Wl.run 4 ma0 (Wl.ys (v := nV .i64 (i + 1)) rfl rfl ((Ys.pure (v := .int .i64 (iadd .i64 (i : Int) 1)) (fun _ => kr)).conseq (int_congr (iadd_eq ma1 ma1 ma1))) (Wl.ys (v := Value.slice (sla (some ⟨gb, 0, none⟩) gc (i + 1) 6) ((n + 1) - (i + 1)) (gc - (i + 1))) rfl rfl (Ys.sliceL (a := some ⟨gb, 0, none⟩) (len := n + 1) (cap := gc) (sz := 6) (k := .i64) (i := ((i + 1 : Nat) : Int)) rfl ma0 ma0 Tryz.runUnderlying161 Tryz.sizeOf223 ma1 ma1) (Wl.ys (v := bV false) rfl rfl ((Ys.overlaps (k := 188) (tS := 161) (tR := 4) (e := 223) (sz := 6) (b := vb) (b' := gb) (o1 := 0) (o2 := (i + 1) * 6) (la := 1) (ca := 1) (lb := ((n + 1) - (i + 1))) (cp := (gc - (i + 1))) (i := 1) (j := 0) (i' := 0) (j' := 0) (t := 223) (t' := 223) (cs := news) (cs' := cs ++ gr) (fun w_ => Eq.trans (b := Sem.run Tryz.prog (callFunc 188 #[Value.slice (some ⟨vb, 0, none⟩) 1 1, Value.slice (sla (some ⟨gb, 0, none⟩) gc (i + 1) 6) ((n + 1) - (i + 1)) (gc - (i + 1))]) w_) ma0 (by rw [sla_some ma1])) Tryz.func188 ma0 ma0 ma0 ma0 ma0 Tryz.sizeOf223 ma2 rfl rfl rfl rfl (by simp only [List.length_append]; omega))) ?_))))
   refine Wl.run 1 ma0 (Wl.nil (hK59 _ _ _ (W.prune' [0, 1, 2, 7, 8, 68] [Value.slice (some ⟨gb, 0, none⟩) (n + 1) gc, nV .i64 i, Value.slice (some ⟨vb, 0, none⟩) 1 1, iV .i64 1, nV .i64 n, bV true] ma0 (fun f60 => W.condT ma0 ?_))))
   refine W.seq (fun K61 hK61 => W.draws [(0, true), (1, true), (2, true), (3, true), (4, true), (5, true), (6, false), (7, false), (8, false)] [0, 1, 2, 3, 4, 5] (Mem w M [[cb vb news 223]]) ma0 ma0 ma0 rfl ma0 (fun _ _ h_ => h_.drawn _) (fun _ h_ => h_.pick [1] ma2 rfl) (Wd.run 3 ma0 (Wd.ys (v := nV .i64 (i + 1)) rfl rfl rfl ((Ys.pure (v := .int .i64 (iadd .i64 (i : Int) 1)) (fun _ => kr)).conseq (int_congr (iadd_eq ma1 ma1 ma1))) (Wd.ys (v := Value.slice (sla (some ⟨gb, 0, none⟩) gc (i + 1) 6) ((n + 1) - (i + 1)) (gc - (i + 1))) rfl rfl rfl (Ys.sliceL (a := some ⟨gb, 0, none⟩) (len := n + 1) (cap := gc) (sz := 6) (k := .i64) (i := ((i + 1 : Nat) : Int)) rfl ma0 ma0 Tryz.runUnderlying161 Tryz.sizeOf223 ma1 ma1) ?_))))
   refine Wd.run 1 ma0 (Wd.yc (v := nV .i64 i) rfl rfl rfl (Ys.yc (Ys.pure (fun _ => kr))) (.inr fun _ h_ => h_.pick [1] ma2 rfl) (Wd.yc (v := Value.slice (sla (some ⟨gb, 0, none⟩) gc i 6) ((n + 1) - i) (gc - i)) rfl rfl rfl (Ys.yc (Ys.sliceL (a := some ⟨gb, 0, none⟩) (len := n + 1) (cap := gc) (sz := 6) (k := .i64) (i := (i : Int)) rfl ma0 ma0 Tryz.runUnderlying161 Tryz.sizeOf223 ma1 ma1)) (.inr fun _ h_ => h_.pick [1] ma2 rfl) ?_))
   obtain ⟨A62, hA63⟩ : ∃ A, putAt (cs ++ gr) ((i + 1) * 6) (cs.drop (i * 6)) = A := ⟨_, rfl⟩
   have hl64 : A62.length = (cs ++ gr).length := by rw [← hA63]; exact putAt_len _ _ _ ma9
   try simp only [List.length_append, List.length_take] at hl64
   refine Wd.ht rfl rfl (Ht.copySub (td := 161) (tx := 161) (e := 223) (ii := (Tryz.prog.info? 223).getD default) (xv := Value.slice (sla (some ⟨gb, 0, none⟩) gc i 6) ((n + 1) - i) (gc - i)) (cap := gc) (dl := (n + 1) - (i + 1)) (dc := gc - (i + 1)) (m := (n + 1) - i) (q := n - i) (sz := 6) (o' := i + 1) (i := 0) (j := 0) (b := gb) (t := 223) (cs := cs ++ gr) (cs' := A62) (news := cs.drop (i * 6)) (LL' := [[cb gb A62 223], [cb vb news 223]]) rfl rfl ma0 ma0 ma0 ma0 ma1 ma0 rfl rfl (fun _ => rfl) ma22 (Src.at (a := sla (some ⟨gb, 0, none⟩) gc i 6) (show (cs.drop (i * 6)).length = (n - i) * 6 by rw [List.length_drop, hcs]; omega) (fun w_ h_ => (by have z_ := ((At.lit0 (i := 0) (j := 0) (t := 223) (b := gb) h_ rfl rfl).dropT (cap := gc) (k := i) (m := n - i) (sz := 6) ma1); rwa [drop_take hcs ma1] at z_))) (show (cs.drop (i * 6)).length = (n - i) * 6 by rw [List.length_drop, hcs]; omega) ma9 (one_drop h1c _) hA63 rfl) (.inr fun _ _ h_ => h_.pick [1] ma2 rfl) (fun _ => Wd.nil (hK61 _ _ _ (W.prune' [0, 1, 2] [Value.slice (some ⟨gb, 0, none⟩) (n + 1) gc, nV .i64 i, Value.slice (some ⟨vb, 0, none⟩) 1 1] ma0 (fun f65 => W.seq (fun K66 hK66 => ?_)))))
   refine W.region (Wl.run 2 ma0 (Wl.ys (v := Value.slice (sla (some ⟨gb, 0, none⟩) gc i 6) ((n + 1) - i) (gc - i)) rfl rfl (Ys.sliceL (a := some ⟨gb, 0, none⟩) (len := n + 1) (cap := gc) (sz := 6) (k := .i64) (i := (i : Int)) rfl ma0 ma0 Tryz.runUnderlying161 Tryz.sizeOf223 ma1 ma1) ?_))
   obtain ⟨A67, hA68⟩ : ∃ A, putAt A62 (i * 6) news = A := ⟨_, rfl⟩
   have hl69 : A67.length = A62.length := by rw [← hA68]; exact putAt_len _ _ _ ma10
   try simp only [List.length_append, List.length_take] at hl69
   refine Wl.run 1 ma0 (Wl.ht rfl (Ht.copySub (td := 161) (tx := 161) (e := 223) (ii := (Tryz.prog.info? 223).getD default) (xv := Value.slice (some ⟨vb, 0, none⟩) 1 1) (cap := gc) (dl := (n + 1) - i) (dc := gc - i) (m := 1) (q := 1) (sz := 6) (o' := i) (i := 0) (j := 0) (b := gb) (t := 223) (cs := A62) (cs' := A67) (news := news) (LL' := [[cb gb A67 223], [cb vb news 223]]) rfl rfl ma0 ma0 ma0 ma0 ma1 ma0 rfl rfl (fun _ => rfl) ma22 (Src.at (a := some ⟨vb, 0, none⟩) hnl (fun w_ h_ => (At.lit0 (i := 1) (j := 0) (t := 223) (b := vb) h_ rfl rfl))) hnl ma10 h1n hA68 rfl) (fun _ => ?_))
   refine Wl.nil (hK66 _ _ _ (W.prune' [0] [Value.slice (some ⟨gb, 0, none⟩) (n + 1) gc] ma0 (fun f70 => W.seq (fun K71 hK71 => W.region ?_))))
   refine Wl.run 2 ma0 (Wl.nil (hK71 _ _ _ (W.prune' [6] [Value.slice (some ⟨gb, 0, none⟩) (n + 1) gc] ma0 (fun f72 => W.ret ?_))))
   have hB := ins_in hcs ma1 ma1 ma1 hA63 hA68
   show ∀ w_, _ → bodyPostM (fence none) 0 Tryz.prog Tryz.f180 _ Exit.ret _ w_
   exact fun w_ hS_ => fin_ret (ret1 rfl (RV.tmp (v := Value.slice (some ⟨gb, 0, none⟩) (n + 1) gc) ma0) hS_ ⟨⟨false, gb, gc, gr.drop 6⟩, ⟨⟨fun h => (by cases h), ma1, ok.mx, (by show gc * 6 ≤ _; rw [List.length_drop]; omega)⟩, rfl⟩, rfl, (Mem.cast (by rw [hB]; rfl) (hS_.pick [0] ma2 rfl))⟩)
end ZN
end Go.Proofs.YtmonlaoaengfdaaGreatDoor.Oct
