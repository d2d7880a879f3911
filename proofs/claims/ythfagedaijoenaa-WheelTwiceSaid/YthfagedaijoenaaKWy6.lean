import Derived.Test.YthfagedaijoenaaKWy5
set_option linter.unusedVariables false
set_option linter.unusedSimpArgs false
set_option maxRecDepth 20000
namespace Go.Proofs.Ythfagedaijoenaa.Oct
open Go.RowKit Base
attribute [local irreducible] Ys Yc Ht HtS HtIn Wl Wd W Mem pf dpf Wa Wo
theorem twicelaw_c (os : List (Int × Int × Int × Int)) (a : Option Addr) (cap : Nat) (ta tb : Int) (w : World) (hat : At w a (mm op8 os)) (hol : os.length ≤ 9223372036854775807) (hob : OpB os) : Calls Try.prog 8 #[Value.slice a os.length cap, iV .u64 ta, iV .u64 tb] w (Ret w (.bool true)) := by
 refine calls_W (M := []) (LL := []) (n := 93) Try.func8 rfl rfl sp (Mem.refl _) (W.seq (fun K1 hK1 => ?_))
 refine W.region (Wl.run 1 ma0 (Wl.nil (hK1 _ _ _ (W.seq (fun K2 hK2 => ?_)))))
 refine W.seq (fun K3 hK3 => W.region (Wl.yc (v := bV true) rfl rfl (Yc.call (fun _ => kr) (fun w_ hm_ => (speaks8_c _))) (Wl.run 1 ma0 (Wl.nil ?_))))
 refine hK3 _ _ _ (W.prune' [0, 1, 2, 15] [Value.slice a os.length cap, iV .u64 ta, iV .u64 tb, bV false] ma0 (fun f4 => ?_))
 refine W.condF ma0 (W.skip' (hK2 _ _ _ (W.prune' [0, 1, 2] [Value.slice a os.length cap, iV .u64 ta, iV .u64 tb] ma0 (fun f5 => W.seq (fun K6 hK6 => ?_)))))
 refine W.seq (fun K7 hK7 => W.region (Wl.run 4 ma0 ?_))
 refine Wl.guard (v := iV .u64 ta) (!(decide (((os.length : Nat) : Int) > 200))) rfl (wantF rfl ma0) rfl (fun hg8 => ?_) ?_
 ·exact Ys.pure (fun _ => kr)
 refine Wl.guard (v := iV .u64 tb) (!(decide (((os.length : Nat) : Int) > 200))) rfl (wantF rfl ma0) rfl (fun hg9 => ?_) ?_
 ·exact Ys.pure (fun _ => kr)
 refine Wl.guard (v := bV (decide (ta > tb))) (!(decide (((os.length : Nat) : Int) > 200))) rfl (wantF rfl ma0) rfl (fun hg10 => ?_) ?_
 ·have qhg10 := hg10; try simp only [zA] at qhg10
  refine Ys.at (t := 20) (v0 := iV .u64 ta) (lz (g := !(decide (((os.length : Nat) : Int) > 200))) (u := undef) hg10 ma0) (Ys.at (t := 21) (v0 := iV .u64 tb) (lz (g := !(decide (((os.length : Nat) : Int) > 200))) (u := undef) hg10 ma0) ?_)
  exact Ys.pure (fun _ => kr)
 refine Wl.ys (v := bV ((decide (((os.length : Nat) : Int) > 200)) || (decide (ta > tb)))) rfl rfl (Ys.or' (e := decide (((os.length : Nat) : Int) > 200)) (b := decide (ta > tb)) rfl ma0 ma0 ma0) (Wl.nil (hK7 _ _ _ (W.prune' [0, 1, 2, 23] [Value.slice a os.length cap, iV .u64 ta, iV .u64 tb, bV ((decide (((os.length : Nat) : Int) > 200)) || (decide (ta > tb)))] ma0 (fun f11 => ?_))))
 refine W.cond ((decide (((os.length : Nat) : Int) > 200)) || (decide (ta > tb))) ma0 (fun h12 => ?_) (fun h13 => ?_)
 ·refine W.seq (fun K14 hK14 => W.region (Wl.run 1 ma0 (Wl.nil (hK14 _ _ _ ?_))))
  refine W.ret ?_
  show ∀ w_, _ → bodyPostM (fence none) 0 Try.prog Try.f8 _ Exit.ret _ w_
  exact fun w_ hS_ => fin_ret (ret1 rfl (RV.tmp (v := bV true) ma0) hS_ ⟨rfl, hS_.below⟩)
 ·have qh13 := h13; try simp only [zA] at qh13
  refine W.skip' (hK6 _ _ _ (W.prune' [0, 1, 2] [Value.slice a os.length cap, iV .u64 ta, iV .u64 tb] ma0 (fun f15 => W.seq (fun K16 hK16 => W.region ?_))))
  refine Wl.htS rfl (HtS.call (β := Nat) (k := 31) (args := #[]) (Lin := []) (Lk := []) (Mi := []) (Lo := fun wb17 => [[cb wb17 zl0 85]]) [] [] rfl (fun _ => kr) ma2 rfl rfl rfl (fun w_ hm_ hl_ => (wnew_c _)) (fun _ => rfl)) (fun wb17 _ => Wl.htS rfl (HtS.call (β := Nat) (k := 31) (args := #[]) (Lin := []) (Lk := [[cb wb17 zl0 85]]) (Mi := []) (Lo := fun wb19 => [[cb wb19 zl0 85], [cb wb17 zl0 85]]) [] [0] rfl (fun _ => kr) ma2 rfl rfl rfl (fun w_ hm_ hl_ => (wnew_c _)) (fun _ => rfl)) (fun wb19 _ => ?_))
  refine Wl.run 2 ma0 (Wl.nil (hK16 _ _ _ (W.prune' [0, 1, 2, 7, 8] [Value.slice a os.length cap, iV .u64 ta, iV .u64 tb, pV wb17 0, pV wb19 0] ma0 (fun f21 => W.seq (fun K22 hK22 => ?_)))))
  refine W.seq (fun K23 hK23 => W.region (Wl.run 3 ma0 (Wl.guard (v := pV wb19 0) (true) rfl ma0 rfl (fun _ => Ys.pure (fun _ => kr)) (Wl.guard (v := bV false) (true) rfl ma0 rfl (fun _ => Ys.pure (fun _ => kr)) ?_))))
  refine Wl.run 1 ma0 (Wl.nil (hK23 _ _ _ (W.prune' [0, 1, 2, 7, 8, 31] [Value.slice a os.length cap, iV .u64 ta, iV .u64 tb, pV wb17 0, pV wb19 0, bV false] ma0 (fun f24 => W.condF ma0 ?_))))
  refine W.skip' (hK22 _ _ _ (W.prune' [0, 1, 2, 7, 8] [Value.slice a os.length cap, iV .u64 ta, iV .u64 tb, pV wb17 0, pV wb19 0] ma0 (fun f25 => W.seq (fun K26 hK26 => W.seq (fun K27 hK27 => ?_)))))
  obtain ⟨xs29, hx33⟩ : ∃ z : List (Int × Int), z = [] := ⟨_, rfl⟩
  obtain ⟨g28, hg32⟩ : ∃ z : FS, z = FS.nul := ⟨_, rfl⟩
  have ok30 : g28.ok 2 xs29.length := by rw [hg32, hx33]; exact FS.nul_ok 2
  have hk31 : OkS xs29 := by rw [hx33]; exact OkS.nil
  have hl34 : xs29.length = 0 := by rw [hx33]; rfl
  refine W.conseq (S' := Mem w [] [g28.seg 87 (mm spk xs29), [cb wb19 zl0 85], [cb wb17 [sV g28 xs29.length] 85]]) (fun w_ h_ => Mem.cast (LL := [] :: [[cb wb19 zl0 85], [cb wb17 zl0 85]]) (by rw [hg32, hx33]; rfl) (Mem.push h_)) ?_
  obtain ⟨xs36, hx40⟩ : ∃ z : List (Int × Int), z = [] := ⟨_, rfl⟩
  obtain ⟨g35, hg39⟩ : ∃ z : FS, z = FS.nul := ⟨_, rfl⟩
  have ok37 : g35.ok 2 xs36.length := by rw [hg39, hx40]; exact FS.nul_ok 2
  have hk38 : OkS xs36 := by rw [hx40]; exact OkS.nil
  have hl41 : xs36.length = 0 := by rw [hx40]; rfl
  refine W.conseq (S' := Mem w [] [g35.seg 87 (mm spk xs36), g28.seg 87 (mm spk xs29), [cb wb19 [sV g35 xs36.length] 85], [cb wb17 [sV g28 xs29.length] 85]]) (fun w_ h_ => Mem.cast (LL := [] :: [g28.seg 87 (mm spk xs29), [cb wb19 zl0 85], [cb wb17 [sV g28 xs29.length] 85]]) (by rw [hg39, hx40]; rfl) (Mem.push h_)) (W.region (Wl.run 3 ma0 (Wl.nil (hK27 _ _ _ ?_))))
  refine W.prune' [1, 2, 7, 8, 32, 33, 34] [iV .u64 ta, iV .u64 tb, pV wb17 0, pV wb19 0, Value.slice a os.length cap, nV .i64 os.length, iV .i64 0] ma0 (fun f42 => W.block (W.loop4 [1, 2, 7, 8, 32, 33, 34] (fun (i : Nat) (xs : List (Int × Int)) (g : FS) (g1 : FS) => [iV .u64 ta, iV .u64 tb, pV wb17 0, pV wb19 0, Value.slice a os.length cap, nV .i64 os.length, nV .i64 i]) (fun (i : Nat) (xs : List (Int × Int)) (g : FS) (g1 : FS) => i ≤ os.length ∧ g.ok 2 xs.length ∧ g1.ok 2 xs.length ∧ OkS xs ∧ BdS xs ∧ xs.length ≤ i + 1) (fun (i : Nat) (xs : List (Int × Int)) (g : FS) (g1 : FS) => [g1.seg 87 (mm spk xs), g.seg 87 (mm spk xs), [cb wb19 [sV g1 xs.length] 85], [cb wb17 [sV g xs.length] 85]]) (fun (i : Nat) (xs : List (Int × Int)) (g : FS) (g1 : FS) => os.length - i) 0 xs29 g28 g35 ma0 ⟨(Nat.zero_le _), ok30, (by rw [hx33.trans hx40.symm]; exact ok37), hk31, (by rw [hx33]; exact BdS.nil), ma1⟩ (by rw [(show xs36 = xs29 from hx40.trans hx33.symm)]) (fun i xs g g1 f44 J43 hp45 hJ43 => ?_)))
  obtain ⟨hi, ok, ok1, hk, hbd, hlx⟩ := hp45
  refine W.seq (fun K46 hK46 => W.region (Wl.run 1 ma0 (Wl.nil (hK46 _ _ _ ?_))))
  refine W.seq (fun K47 hK47 => ?_)
  refine W.cond (decide (((i : Nat) : Int) < (os.length : Int))) ma0 (fun h48 => ?_) (fun h49 => ?_)
  ·have qh48 := h48; try simp only [zA] at qh48
   refine W.skip' (hK47 _ _ _ (W.prune' [1, 2, 7, 8, 32, 33, 34] [iV .u64 ta, iV .u64 tb, pV wb17 0, pV wb19 0, Value.slice a os.length cap, nV .i64 os.length, nV .i64 i] ma0 (fun f50 => W.seq (fun K51 hK51 => W.block ?_))))
   refine W.seq (fun K52 hK52 => W.region (Wl.ys (v := Value.pointer (some (ela a (i * 4)))) rfl rfl (Ys.byMem fun w_ h_ => Ys.indexAddr (k := .i64) (a := a) (len := os.length) (cap := cap) (i := (i : Int)) (sz := 4) rfl ma0 ma0 Try.runUnderlying53 Try.sizeOf58 ma1 ma1 ((hat.mem0 h_).here (by rw [mm_len (g := op8) (sz := 4) (fun _ => rfl)]; first | omega | (simp; omega)))) (Wl.ys (v := aV [iV .i64 ((os.getD i (0, 0, 0, 0)).1), iV .i64 ((os.getD i (0, 0, 0, 0)).2.1), iV .i64 ((os.getD i (0, 0, 0, 0)).2.2.1), iV .u64 ((os.getD i (0, 0, 0, 0)).2.2.2)]) rfl rfl (Ys.ldN (a := ela a (i * 4)) (vs := [iV .i64 ((os.getD i (0, 0, 0, 0)).1), iV .i64 ((os.getD i (0, 0, 0, 0)).2.1), iV .i64 ((os.getD i (0, 0, 0, 0)).2.2.1), iV .u64 ((os.getD i (0, 0, 0, 0)).2.2.2)]) rfl ma0 Try.isAgg58 Try.sizeOf58 rfl (fun w_ h_ => (hat.mem0 h_).ldN (mm_get (g := op8) (sz := 4) (fun _ => rfl) (0, 0, 0, 0) (xs := os) (k := i) ma1))) (Wl.ht rfl (Ht.alloc (z := aV [iV .i64 0, iV .i64 0, iV .i64 0, iV .u64 0]) (cs := [iV .i64 0, iV .i64 0, iV .i64 0, iV .u64 0]) rfl rfl Try.zeroValue58 rfl) (fun p10 => ?_)))))
   refine Wl.ht rfl (Ht.storeN (b := p10) (o' := 0) (i := 0) (j := 0) (vs := [iV .i64 ((os.getD i (0, 0, 0, 0)).1), iV .i64 ((os.getD i (0, 0, 0, 0)).2.1), iV .i64 ((os.getD i (0, 0, 0, 0)).2.2.1), iV .u64 ((os.getD i (0, 0, 0, 0)).2.2.2)]) (LL' := [[cb p10 [iV .i64 ((os.getD i (0, 0, 0, 0)).1), iV .i64 ((os.getD i (0, 0, 0, 0)).2.1), iV .i64 ((os.getD i (0, 0, 0, 0)).2.2.1), iV .u64 ((os.getD i (0, 0, 0, 0)).2.2.2)] 58], g1.seg 87 (mm spk xs), g.seg 87 (mm spk xs), [cb wb19 [sV g1 xs.length] 85], [cb wb17 [sV g xs.length] 85]]) rfl rfl ma0 ma0 Try.sizeOf58 (by simp [Value.oneCell']) rfl rfl sp rfl rfl) (fun _ => Wl.nil (hK52 _ _ _ (W.prune' [1, 2, 7, 8, 10, 32, 33, 34] [iV .u64 ta, iV .u64 tb, pV wb17 0, pV wb19 0, pV p10 0, Value.slice a os.length cap, nV .i64 os.length, nV .i64 i] ma0 (fun f53 => W.seq (fun K54 hK54 => ?_)))))
   obtain ⟨X55, hX56⟩ : ∃ z, setS xs ((os.getD i (0, 0, 0, 0)).2.1) ((os.getD i (0, 0, 0, 0)).2.2.2) = z := ⟨_, rfl⟩
   have hlx58 : X55.length ≤ xs.length + 1 := hX56 ▸ setS_len _ _ _
   have hk57 : OkS X55 := hX56 ▸ hk.set _ _
   refine W.region (Wl.run 2 ma0 (Wl.ys rfl rfl (Ys.l1 p10 1 0 0 Try.isAgg3) (Wl.run 1 ma0 (Wl.ys rfl rfl (Ys.l1 p10 3 0 0 Try.isAgg54) ?_))))
   refine Wl.htS rfl (HtS.call (β := FS) (k := 32) (args := #[pV wb17 0, iV .i64 ((os.getD i (0, 0, 0, 0)).2.1), iV .u64 ((os.getD i (0, 0, 0, 0)).2.2.2)]) (Lin := [g.seg 87 (mm spk xs), [cb wb17 [sV g xs.length] 85]]) (Lk := [[cb p10 [iV .i64 ((os.getD i (0, 0, 0, 0)).1), iV .i64 ((os.getD i (0, 0, 0, 0)).2.1), iV .i64 ((os.getD i (0, 0, 0, 0)).2.2.1), iV .u64 ((os.getD i (0, 0, 0, 0)).2.2.2)] 58], g1.seg 87 (mm spk xs), [cb wb19 [sV g1 xs.length] 85]]) (Lo := fun g59 => [g59.seg 87 (mm spk X55), [cb wb17 [sV g59 X55.length] 85], [cb p10 [iV .i64 ((os.getD i (0, 0, 0, 0)).1), iV .i64 ((os.getD i (0, 0, 0, 0)).2.1), iV .i64 ((os.getD i (0, 0, 0, 0)).2.2.1), iV .u64 ((os.getD i (0, 0, 0, 0)).2.2.2)] 58], g1.seg 87 (mm spk xs), [cb wb19 [sV g1 xs.length] 85]]) [2, 4] [0, 1, 3] rfl (fun _ => kr) ma2 rfl rfl rfl (fun w_ hm_ hl_ => (wsetz_c xs g wb17 _ ((os.getD i (0, 0, 0, 0)).2.1) ((os.getD i (0, 0, 0, 0)).2.2.2) X55 _ hX56 hl_ ok ma1 hk.srt)) (fun _ => rfl)) (fun g59 ok60 => Wl.nil (hK54 _ _ _ (W.prune' [1, 2, 7, 8, 10, 32, 33, 34] [iV .u64 ta, iV .u64 tb, pV wb17 0, pV wb19 0, pV p10 0, Value.slice a os.length cap, nV .i64 os.length, nV .i64 i] ma0 (fun f62 => W.region ?_))))
   refine Wl.run 2 ma0 (Wl.ys rfl rfl (Ys.l1 p10 1 2 0 Try.isAgg3) (Wl.run 1 ma0 (Wl.ys rfl rfl (Ys.l1 p10 3 2 0 Try.isAgg54) (Wl.htS rfl (HtS.call (β := FS) (k := 32) (args := #[pV wb19 0, iV .i64 ((os.getD i (0, 0, 0, 0)).2.1), iV .u64 ((os.getD i (0, 0, 0, 0)).2.2.2)]) (Lin := [g1.seg 87 (mm spk xs), [cb wb19 [sV g1 xs.length] 85]]) (Lk := [g59.seg 87 (mm spk X55), [cb wb17 [sV g59 X55.length] 85], [cb p10 [iV .i64 ((os.getD i (0, 0, 0, 0)).1), iV .i64 ((os.getD i (0, 0, 0, 0)).2.1), iV .i64 ((os.getD i (0, 0, 0, 0)).2.2.1), iV .u64 ((os.getD i (0, 0, 0, 0)).2.2.2)] 58]]) (Lo := fun g63 => [g63.seg 87 (mm spk X55), [cb wb19 [sV g63 X55.length] 85], g59.seg 87 (mm spk X55), [cb wb17 [sV g59 X55.length] 85], [cb p10 [iV .i64 ((os.getD i (0, 0, 0, 0)).1), iV .i64 ((os.getD i (0, 0, 0, 0)).2.1), iV .i64 ((os.getD i (0, 0, 0, 0)).2.2.1), iV .u64 ((os.getD i (0, 0, 0, 0)).2.2.2)] 58]]) [3, 4] [0, 1, 2] rfl (fun _ => kr) ma2 rfl rfl rfl (fun w_ hm_ hl_ => (wsetz_c xs g1 wb19 _ ((os.getD i (0, 0, 0, 0)).2.1) ((os.getD i (0, 0, 0, 0)).2.2.2) X55 _ hX56 hl_ ok1 ma1 hk.srt)) (fun _ => rfl)) (fun g63 ok64 => ?_)))))
   refine Wl.nil (hK51 _ _ _ (W.pick (LL' := [g63.seg 87 (mm spk X55), [cb wb19 [sV g63 X55.length] 85], g59.seg 87 (mm spk X55), [cb wb17 [sV g59 X55.length] 85]]) [0, 1, 2, 3] ma2 rfl (W.prune' [1, 2, 7, 8, 32, 33, 34] [iV .u64 ta, iV .u64 tb, pV wb17 0, pV wb19 0, Value.slice a os.length cap, nV .i64 os.length, nV .i64 i] ma0 (fun f66 => W.region ?_))))
   refine Wl.ys (v := nV .i64 (i + 1)) rfl rfl ((Ys.pure (v := .int .i64 (iadd .i64 (i : Int) 1)) (fun _ => kr)).conseq (int_congr (iadd_eq ma1 ma1 ma1))) (Wl.run 1 ma0 (Wl.nil ?_))
   refine fun w_ h_ => hJ43 (i + 1) X55 g59 g63 _ w_ ma1 ⟨ma1, ok60, (by have z_ := ok64; exact z_), hk57, (hX56 ▸ hbd.set hk (hob.at ma1).1 (hob.at ma1).2), ma1⟩ ?_ (h_.pick [0, 2, 1, 3] ma2 rfl)
   kernel_rfl
  ·have qh49 := h49; try simp only [zA] at qh49
   refine W.exit (hK26 _ _ _ (W.prune' [1, 2, 7, 8] [iV .u64 ta, iV .u64 tb, pV wb17 0, pV wb19 0] ma0 (fun f67 => W.seq (fun K68 hK68 => W.region ?_))))
   obtain ⟨X69, hX70⟩ : ∃ z, xs.drop (dueN xs ta 1000) = z := ⟨_, rfl⟩
   obtain ⟨O71, hO72⟩ : ∃ z, keysS (xs.take (dueN xs ta 1000)) = z := ⟨_, rfl⟩
   have hlx74 : X69.length + O71.length = xs.length := hX70 ▸ hO72 ▸ due_len xs (dueN xs ta 1000)
   have hk73 : OkS X69 := hX70 ▸ hk.drop _
   refine Wl.run 2 ma0 (Wl.htS rfl (HtS.call (β := FS × FS) (k := 33) (args := #[pV wb17 0, iV .u64 ta, iV .i64 1000]) (Lin := [g.seg 87 (mm spk xs), [cb wb17 [sV g xs.length] 85]]) (Lk := [g1.seg 87 (mm spk xs), [cb wb19 [sV g1 xs.length] 85]]) (Lo := fun q79 => [q79.1.seg 3 (mc (Value.int .i64) O71), q79.2.seg 87 (mm spk X69), [cb wb17 [Value.slice q79.2.a X69.length q79.2.cap] 85], g1.seg 87 (mm spk xs), [cb wb19 [sV g1 xs.length] 85]]) [1, 3] [0, 2] rfl (fun _ => kr) ma2 rfl rfl rfl (fun w_ hm_ hl_ => (duez_c xs g wb17 ta 1000 _ X69 O71 _ hX70 hO72 hl_ ok ma1)) (fun _ => rfl)) (fun q79 hx81 => ?_))
   obtain ⟨go75, g76⟩ := q79
   dsimp only at hx81
   obtain ⟨oko77, ok78⟩ := hx81
   refine Wl.castL (LL' := [go75.seg 3 (mc (Value.int .i64) O71), g76.seg 87 (mm spk X69), [cb wb17 [sV g76 X69.length] 85], g1.seg 87 (mm spk xs), [cb wb19 [sV g1 xs.length] 85]]) rfl ?_
   obtain ⟨X82, hX83⟩ : ∃ z, X69.drop (dueN X69 tb 1000) = z := ⟨_, rfl⟩
   obtain ⟨O84, hO85⟩ : ∃ z, keysS (X69.take (dueN X69 tb 1000)) = z := ⟨_, rfl⟩
   have hlx87 : X82.length + O84.length = X69.length := hX83 ▸ hO85 ▸ due_len X69 (dueN X69 tb 1000)
   have hk86 : OkS X82 := hX83 ▸ hk73.drop _
   refine Wl.run 2 ma0 (Wl.htS rfl (HtS.call (β := FS × FS) (k := 33) (args := #[pV wb17 0, iV .u64 tb, iV .i64 1000]) (Lin := [g76.seg 87 (mm spk X69), [cb wb17 [sV g76 X69.length] 85]]) (Lk := [go75.seg 3 (mc (Value.int .i64) O71), g1.seg 87 (mm spk xs), [cb wb19 [sV g1 xs.length] 85]]) (Lo := fun q92 => [q92.1.seg 3 (mc (Value.int .i64) O84), q92.2.seg 87 (mm spk X82), [cb wb17 [Value.slice q92.2.a X82.length q92.2.cap] 85], go75.seg 3 (mc (Value.int .i64) O71), g1.seg 87 (mm spk xs), [cb wb19 [sV g1 xs.length] 85]]) [1, 2] [0, 3, 4] rfl (fun _ => kr) ma2 rfl rfl rfl (fun w_ hm_ hl_ => (duez_c X69 g76 wb17 tb 1000 _ X82 O84 _ hX83 hO85 hl_ ok78 ma1)) (fun _ => rfl)) (fun q92 hx94 => ?_))
   obtain ⟨go88, g89⟩ := q92
   dsimp only at hx94
   obtain ⟨oko90, ok91⟩ := hx94
   refine Wl.castL (LL' := [go88.seg 3 (mc (Value.int .i64) O84), g89.seg 87 (mm spk X82), [cb wb17 [sV g89 X82.length] 85], go75.seg 3 (mc (Value.int .i64) O71), g1.seg 87 (mm spk xs), [cb wb19 [sV g1 xs.length] 85]]) rfl (Wl.htS rfl (HtS.append (eu := 3) (xv := Value.slice go88.a O84.length go88.cap) (i := 3) (g := go75) (e := 3) (ii := (Try.prog.info? 3).getD default) (z := iV .i64 0) (sz := 1) (bytes := 8) (nn := O71.length) (m := O84.length) (k := (O71 ++ O84).length) (xs := mc (Value.int .i64) O71) (news := mc (Value.int .i64) O84) (cs' := mc (Value.int .i64) (O71 ++ O84)) (Lo := fun g95 => [go88.seg 3 (mc (Value.int .i64) O84), g89.seg 87 (mm spk X82), [cb wb17 [sV g89 X82.length] 85], g95.seg 3 (mc (Value.int .i64) (O71 ++ O84)), g1.seg 87 (mm spk xs), [cb wb19 [sV g1 xs.length] 85]]) rfl rfl ma0 ma0 ma0 ma0 ma0 ma0 ma0 ma0 ma0 rfl oko77 (mc_len1 _) (fun _ => rfl) (Src.at (a := go88.a) (mc_len1 _) (fun w_ h_ => (FS.at (i := 0) (t := 3) h_ rfl (FS.nil_cs oko90 (mc_len1 _))))) (mc_len1 _) (mc_one (fun _ => rfl) _) (by first | omega | (simp; done) | (simp; omega)) (by simp only [maxLen]; first | omega | (simp; done) | (simp; omega)) (by first | omega | (simp; done) | (simp; omega)) (mc_app _ _) (fun _ => rfl)) (fun g95 hx100 => ?_))
   obtain ⟨ok96, hn97, hn98⟩ := hx100
   refine Wl.run 1 ma0 (Wl.nil (hK68 _ _ _ (W.pick (LL' := [g89.seg 87 (mm spk X82), [cb wb17 [sV g89 X82.length] 85], g95.seg 3 (mc (Value.int .i64) (O71 ++ O84)), g1.seg 87 (mm spk xs), [cb wb19 [sV g1 xs.length] 85]]) [1, 2, 3, 4, 5] ma2 rfl (W.prune' [2, 7, 8, 11] [iV .u64 tb, pV wb17 0, pV wb19 0, sV g95 ((O71 ++ O84).length)] ma0 (fun f101 => ?_)))))
   refine W.seq (fun K102 hK102 => W.region ?_)
   obtain ⟨X103, hX104⟩ : ∃ z, xs.drop (dueN xs tb 1000) = z := ⟨_, rfl⟩
   obtain ⟨O105, hO106⟩ : ∃ z, keysS (xs.take (dueN xs tb 1000)) = z := ⟨_, rfl⟩
   have hlx108 : X103.length + O105.length = xs.length := hX104 ▸ hO106 ▸ due_len xs (dueN xs tb 1000)
   have hk107 : OkS X103 := hX104 ▸ hk.drop _
   refine Wl.run 2 ma0 (Wl.htS rfl (HtS.call (β := FS × FS) (k := 33) (args := #[pV wb19 0, iV .u64 tb, iV .i64 1000]) (Lin := [g1.seg 87 (mm spk xs), [cb wb19 [sV g1 xs.length] 85]]) (Lk := [g89.seg 87 (mm spk X82), [cb wb17 [sV g89 X82.length] 85], g95.seg 3 (mc (Value.int .i64) (O71 ++ O84))]) (Lo := fun q113 => [q113.1.seg 3 (mc (Value.int .i64) O105), q113.2.seg 87 (mm spk X103), [cb wb19 [Value.slice q113.2.a X103.length q113.2.cap] 85], g89.seg 87 (mm spk X82), [cb wb17 [sV g89 X82.length] 85], g95.seg 3 (mc (Value.int .i64) (O71 ++ O84))]) [3, 4] [0, 1, 2] rfl (fun _ => kr) ma2 rfl rfl rfl (fun w_ hm_ hl_ => (duez_c xs g1 wb19 tb 1000 _ X103 O105 _ hX104 hO106 hl_ ok1 ma1)) (fun _ => rfl)) (fun q113 hx115 => ?_))
   obtain ⟨go109, g110⟩ := q113
   dsimp only at hx115
   obtain ⟨oko111, ok112⟩ := hx115
   refine Wl.castL (LL' := [go109.seg 3 (mc (Value.int .i64) O105), g110.seg 87 (mm spk X103), [cb wb19 [sV g110 X103.length] 85], g89.seg 87 (mm spk X82), [cb wb17 [sV g89 X82.length] 85], g95.seg 3 (mc (Value.int .i64) (O71 ++ O84))]) rfl (Wl.run 1 ma0 (Wl.nil (hK102 _ _ _ (W.prune' [2, 7, 8, 11, 12] [iV .u64 tb, pV wb17 0, pV wb19 0, sV g95 ((O71 ++ O84).length), Value.slice go109.a O105.length go109.cap] ma0 (fun f116 => ?_)))))
   refine W.seq (fun K117 hK117 => W.seq (fun K118 hK118 => ?_))
   have htw_ := twice_ok (X := xs) (a := ta) (b := tb) (by have z_ := Bool.or_eq_false_iff.1 h13; have y_ := of_decide_eq_false z_.2; omega) ma1 hX70 hO72 hX83 hO85 hX104 hO106
   have htl_ := congrArg List.length htw_.1
   refine W.region (Wl.run 6 ma0 ?_)
   refine Wl.guard (v := pV wb17 0) (!((((O71 ++ O84).length : Nat) : Int) != (O105.length : Int))) rfl (wantF rfl ma0) rfl (fun hg119 => ?_) ?_
   ·exact Ys.pure (fun _ => kr)
   refine Wl.guardc (v := nV .i64 X82.length) (!((((O71 ++ O84).length : Nat) : Int) != (O105.length : Int))) rfl (wantF rfl ma0) rfl (fun hg120 => ?_) ?_
   ·have qhg120 := hg120; try simp only [zA] at qhg120
    refine Yc.at (t := 67) (v0 := pV wb17 0) (lz (g := !((((O71 ++ O84).length : Nat) : Int) != (O105.length : Int))) (u := undef) hg120 ma0) ?_
    exact Yc.call (fun _ => kr) (fun w_ hm_ => (let z_ := Mem.local' (hm_.pick [3, 4] ma2 rfl); ret_same z_ (wlen_c X82 g89 wb17 _  w_ z_ ok91 ma1)))
   refine Wl.guard (v := pV wb19 0) (!((((O71 ++ O84).length : Nat) : Int) != (O105.length : Int))) rfl (wantF rfl ma0) rfl (fun hg121 => ?_) ?_
   ·exact Ys.pure (fun _ => kr)
   refine Wl.guardc (v := nV .i64 X103.length) (!((((O71 ++ O84).length : Nat) : Int) != (O105.length : Int))) rfl (wantF rfl ma0) rfl (fun hg122 => ?_) ?_
   ·have qhg122 := hg122; try simp only [zA] at qhg122
    refine Yc.at (t := 69) (v0 := pV wb19 0) (lz (g := !((((O71 ++ O84).length : Nat) : Int) != (O105.length : Int))) (u := undef) hg122 ma0) ?_
    exact Yc.call (fun _ => kr) (fun w_ hm_ => (let z_ := Mem.local' (hm_.pick [1, 2] ma2 rfl); ret_same z_ (wlen_c X103 g110 wb19 _  w_ z_ ok112 ma1)))
   refine Wl.guard (v := bV (((X82.length : Nat) : Int) != (X103.length : Int))) (!((((O71 ++ O84).length : Nat) : Int) != (O105.length : Int))) rfl (wantF rfl ma0) rfl (fun hg123 => ?_) ?_
   ·refine Ys.at (t := 68) (v0 := nV .i64 X82.length) (lz (g := !((((O71 ++ O84).length : Nat) : Int) != (O105.length : Int))) (u := undef) hg123 ma0) (Ys.at (t := 70) (v0 := nV .i64 X103.length) (lz (g := !((((O71 ++ O84).length : Nat) : Int) != (O105.length : Int))) (u := undef) hg123 ma0) ?_)
    exact Ys.pure (fun _ => kr)
   refine Wl.ys (v := bV ((((O71 ++ O84).length : Int) != (O105.length : Int)) || (((X82.length : Nat) : Int) != (X103.length : Int)))) rfl rfl (Ys.or' (e := ((O71 ++ O84).length : Int) != (O105.length : Int)) (b := (X82.length : Int) != (X103.length : Int)) rfl ma0 ma0 ma0) (Wl.nil (hK118 _ _ _ (W.pick (LL' := [go109.seg 3 (mc (Value.int .i64) O105), g89.seg 87 (mm spk X82), [cb wb17 [sV g89 X82.length] 85], g95.seg 3 (mc (Value.int .i64) (O71 ++ O84))]) [0, 3, 4, 5] ma2 rfl (W.prune' [2, 7, 11, 12, 72] [iV .u64 tb, pV wb17 0, sV g95 ((O71 ++ O84).length), Value.slice go109.a O105.length go109.cap, bV ((((O71 ++ O84).length : Int) != (O105.length : Int)) || (((X82.length : Nat) : Int) != (X103.length : Int)))] ma0 (fun f124 => ?_)))))
   refine W.cond ((((O71 ++ O84).length : Int) != (O105.length : Int)) || (((X82.length : Nat) : Int) != (X103.length : Int))) ma0 (fun h125 => ?_) (fun h126 => ?_)
   ·have qh125 := h125; try simp only [zA] at qh125
    (exfalso; have z_ := h125; rw [htw_.1, htw_.2.1] at z_; simp at z_)
   ·have qh126 := h126; try simp only [zA] at qh126
    refine W.skip' (hK117 _ _ _ (W.prune' [2, 7, 11, 12] [iV .u64 tb, pV wb17 0, sV g95 ((O71 ++ O84).length), Value.slice go109.a O105.length go109.cap] ma0 (fun f127 => W.seq (fun K128 hK128 => W.seq (fun K129 hK129 => ?_)))))
    refine W.region (Wl.run 3 ma0 (Wl.nil (hK129 _ _ _ (W.prune' [2, 7, 11, 12, 74, 75] [iV .u64 tb, pV wb17 0, sV g95 ((O71 ++ O84).length), Value.slice go109.a O105.length go109.cap, nV .i64 ((O71 ++ O84).length), iV .i64 0] ma0 (fun f130 => ?_)))))
    refine W.block (W.loop1 [2, 7, 11, 12, 74, 75] (fun (j : Nat) => [iV .u64 tb, pV wb17 0, sV g95 ((O71 ++ O84).length), Value.slice go109.a O105.length go109.cap, nV .i64 ((O71 ++ O84).length), nV .i64 j]) (fun (j : Nat) => j ≤ (O71 ++ O84).length) (fun (j : Nat) => [go109.seg 3 (mc (Value.int .i64) O105), g89.seg 87 (mm spk X82), [cb wb17 [sV g89 X82.length] 85], g95.seg 3 (mc (Value.int .i64) (O71 ++ O84))]) (fun (j : Nat) => (O71 ++ O84).length - j) 0 ma0 (Nat.zero_le _) (by rfl) (fun j f132 J131 hp133 hJ131 => ?_))
    have hj := hp133
    refine W.seq (fun K134 hK134 => W.region (Wl.run 1 ma0 (Wl.nil (hK134 _ _ _ ?_))))
    refine W.seq (fun K135 hK135 => ?_)
    refine W.cond (decide (((j : Nat) : Int) < ((O71 ++ O84).length : Int))) ma0 (fun h136 => ?_) (fun h137 => ?_)
    ·have qh136 := h136; try simp only [zA] at qh136
     refine W.skip' (hK135 _ _ _ (W.prune' [2, 7, 11, 12, 74, 75] [iV .u64 tb, pV wb17 0, sV g95 ((O71 ++ O84).length), Value.slice go109.a O105.length go109.cap, nV .i64 ((O71 ++ O84).length), nV .i64 j] ma0 (fun f138 => W.seq (fun K139 hK139 => W.block ?_))))
     refine W.seq (fun K140 hK140 => W.region (Wl.run 2 ma0 (Wl.nil (hK140 _ _ _ ?_))))
     refine W.prune' [2, 7, 11, 12, 13, 74, 75] [iV .u64 tb, pV wb17 0, sV g95 ((O71 ++ O84).length), Value.slice go109.a O105.length go109.cap, nV .i64 j, nV .i64 ((O71 ++ O84).length), nV .i64 j] ma0 (fun f141 => W.seq (fun K142 hK142 => ?_))
     refine W.draws [(0, true), (1, true), (2, true), (3, true), (4, true), (5, false), (6, false), (7, false), (8, false)] [0, 1, 2, 3, 4] (Mem w [] [go109.seg 3 (mc (Value.int .i64) O105), g89.seg 87 (mm spk X82), [cb wb17 [sV g89 X82.length] 85], g95.seg 3 (mc (Value.int .i64) (O71 ++ O84))]) ma0 ma0 ma0 rfl ma0 (fun _ _ h_ => h_.drawn _) (fun _ h_ => h_) (Wd.run 2 ma0 (Wd.ys (v := Value.pointer (some (ela g95.a (j * 1)))) rfl rfl rfl (Ys.indexAddr (k := .i64) (a := g95.a) (len := (O71 ++ O84).length) (cap := g95.cap) (i := (j : Int)) (sz := 1) rfl ma0 ma0 Try.runUnderlying39 Try.sizeOf3 ma1 ma1 (by rw [FS.a_own ((hn97 (by first | omega | (simp; omega))))]; rfl)) (Wd.ys (v := iV .i64 ((O71 ++ O84).getD j 0)) rfl rfl rfl (Ys.ld (a := ela g95.a (j * 1)) rfl ma0 Try.isAgg3 (fun w_ h_ => (FS.at (i := 3) (t := 3) h_ rfl (FS.nil_cs ok96 (mc_len1 _))).ld (mc_get1 0 (by first | omega | (simp; omega))))) (Wd.run 1 ma0 ?_))))
     refine Wd.yc (v := nV .i64 j) rfl rfl rfl (Ys.yc (Ys.pure (fun _ => kr))) (.inr fun _ h_ => h_) (Wd.yc (v := Value.pointer (some (ela go109.a (j * 1)))) rfl rfl rfl (Ys.yc (Ys.indexAddr (k := .i64) (a := go109.a) (len := O105.length) (cap := go109.cap) (i := (j : Int)) (sz := 1) rfl ma0 ma0 Try.runUnderlying39 Try.sizeOf3 ma1 ma1 (by rw [FS.a_own (FS.notnil oko111 ma1)]; rfl))) (.inr fun _ h_ => h_) (Wd.yc (v := iV .i64 (O105.getD j 0)) rfl rfl rfl (Ys.yc (Ys.ld (a := ela go109.a (j * 1)) rfl ma0 Try.isAgg3 (fun w_ h_ => (FS.at (i := 0) (t := 3) h_ rfl (FS.nil_cs oko111 (mc_len1 _))).ld (mc_get1 0 (by first | omega | (simp; omega)))))) (.inr fun _ h_ => h_) (Wd.yc (v := bV (((O71 ++ O84).getD j 0) != (O105.getD j 0))) rfl rfl rfl (Ys.yc (Ys.pure (fun _ => kr))) (.inr fun _ h_ => h_) (Wd.nil ?_))))
     refine hK142 _ _ _ (W.prune' [2, 7, 11, 12, 74, 75, 86] [iV .u64 tb, pV wb17 0, sV g95 ((O71 ++ O84).length), Value.slice go109.a O105.length go109.cap, nV .i64 ((O71 ++ O84).length), nV .i64 j, bV (((O71 ++ O84).getD j 0) != (O105.getD j 0))] ma0 (fun f143 => ?_))
     refine W.cond (((O71 ++ O84).getD j 0) != (O105.getD j 0)) ma0 (fun h144 => ?_) (fun h145 => ?_)
     ·have qh144 := h144; try simp only [zA] at qh144
      (exfalso; have z_ := h144; rw [htw_.1] at z_; simp at z_)
     ·have qh145 := h145; try simp only [zA] at qh145
      refine W.skip' (hK139 _ _ _ (W.prune' [2, 7, 11, 12, 74, 75] [iV .u64 tb, pV wb17 0, sV g95 ((O71 ++ O84).length), Value.slice go109.a O105.length go109.cap, nV .i64 ((O71 ++ O84).length), nV .i64 j] ma0 (fun f146 => W.region (Wl.ys (v := nV .i64 (j + 1)) rfl rfl ((Ys.pure (v := .int .i64 (iadd .i64 (j : Int) 1)) (fun _ => kr)).conseq (int_congr (iadd_eq ma1 ma1 ma1))) ?_))))
      refine Wl.run 1 ma0 (Wl.nil ?_)
      refine fun w_ h_ => hJ131 (j + 1) _ w_ ma1 ma1 ?_ h_
      kernel_rfl
    ·have qh137 := h137; try simp only [zA] at qh137
     refine W.exit (hK128 _ _ _ (W.pick (LL' := [g89.seg 87 (mm spk X82), [cb wb17 [sV g89 X82.length] 85]]) [1, 2] ma2 rfl (W.prune' [2, 7] [iV .u64 tb, pV wb17 0] ma0 (fun f147 => W.seq (fun K148 hK148 => ?_)))))
     refine W.region ?_
     obtain ⟨X149, hX150⟩ : ∃ z, X82.drop (dueN X82 tb 9) = z := ⟨_, rfl⟩
     obtain ⟨O151, hO152⟩ : ∃ z, keysS (X82.take (dueN X82 tb 9)) = z := ⟨_, rfl⟩
     have hlx154 : X149.length + O151.length = X82.length := hX150 ▸ hO152 ▸ due_len X82 (dueN X82 tb 9)
     have hk153 : OkS X149 := hX150 ▸ hk86.drop _
     refine Wl.run 2 ma0 (Wl.htS rfl (HtS.call (β := FS × FS) (k := 33) (args := #[pV wb17 0, iV .u64 tb, iV .i64 9]) (Lin := [g89.seg 87 (mm spk X82), [cb wb17 [sV g89 X82.length] 85]]) (Lk := []) (Lo := fun q159 => [q159.1.seg 3 (mc (Value.int .i64) O151), q159.2.seg 87 (mm spk X149), [cb wb17 [Value.slice q159.2.a X149.length q159.2.cap] 85]]) [0, 1] [] rfl (fun _ => kr) ma2 rfl rfl rfl (fun w_ hm_ hl_ => (duez_c X82 g89 wb17 tb 9 _ X149 O151 _ hX150 hO152 hl_ ok91 ma1)) (fun _ => rfl)) (fun q159 hx161 => ?_))
     obtain ⟨go155, g156⟩ := q159
     dsimp only at hx161
     obtain ⟨oko157, ok158⟩ := hx161
     refine Wl.castL (LL' := [go155.seg 3 (mc (Value.int .i64) O151), g156.seg 87 (mm spk X149), [cb wb17 [sV g156 X149.length] 85]]) rfl (Wl.run 3 ma0 (Wl.nil (hK148 _ _ _ (W.pick (LL' := []) [] ma2 rfl ?_))))
     refine W.prune' [6] [bV (((O151.length : Nat) : Int) == 0)] ma0 (fun f162 => W.ret ?_)
     show ∀ w_, _ → bodyPostM (fence none) 0 Try.prog Try.f8 _ Exit.ret _ w_
     exact fun w_ hS_ => fin_ret (ret1 rfl (RV.tmp (v := bV (((O151.length : Nat) : Int) == 0)) ma0) hS_ ⟨by clear hK1 hK2 hK3 hK6 hK7 hK16 hK22 hK23 hK26 hK27 hJ43 hK46 hK47 hK68 hK102 hK117 hK118 hK128 hK129 hJ131 hK134 hK135 hK148; refine congrArg Ending.returned ?_; exact bool_congr (by rw [← hO152, show dueN X82 tb 9 = 0 by unfold dueN; rw [htw_.2.2]; rfl]; rfl), hS_.below⟩)
end Go.Proofs.Ythfagedaijoenaa.Oct
