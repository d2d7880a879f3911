import Derived.Test.YthfagedaijoenaaKWy4
set_option linter.unusedVariables false
set_option linter.unusedSimpArgs false
set_option maxRecDepth 20000
namespace Go.Proofs.Ythfagedaijoenaa.Oct
open Go.RowKit Base
attribute [local irreducible] Ys Yc Ht HtS HtIn Wl Wd W Mem pf dpf Wa Wo
theorem isub_u64 {a b : Int} (h1 : 0 ≤ a - b) (h2 : a - b ≤ 18446744073709551615) : isub .u64 a b = a - b := by
  obtain ⟨n, hn⟩ := Int.eq_ofNat_of_zero_le h1
  unfold isub
  rw [hn, wrap_nat rfl, Nat.mod_eq_of_lt (by show n < 18446744073709551616; omega)]
theorem next_some {X : List (Int × Int)} (h : 0 < X.length) : someS X = true ∧ nextS X = (X.getD 0 (0, 0)).1 := by
  have : (((X.length : Int)) == 0) = false := beq_eq_false_iff_ne.2 ma1
  unfold someS nextS; rw [this]; exact ⟨rfl, rfl⟩
theorem dueM_none {X : List (Int × Int)} {now : Int} (h : 0 < X.length) (hn : now < (X.getD 0 (0, 0)).1) : dueM X now = 0 := by
  rcases Nat.eq_zero_or_pos (dueM X now) with h1 | h1
  · exact h1
  · have := (dueM_spec (now := now) (Nat.zero_le _) h).2 ma1; omega
theorem dueN_none {X : List (Int × Int)} {now q : Int} (h : 0 < X.length) (hn : now < (X.getD 0 (0, 0)).1) : dueN X now q = 0 := by unfold dueN; rw [dueM_none h hn]; omega
theorem dueN_one {X : List (Int × Int)} (h : 0 < X.length) : dueN X (X.getD 0 (0, 0)).1 1 = 1 := by
  have := (dueM_spec (now := (X.getD 0 (0, 0)).1) (Nat.zero_le _) h).1 (Int.le_refl _)
  unfold dueN; omega
theorem head_mem {X : List (Int × Int)} (h : 0 < X.length) : X.getD 0 (0, 0) ∈ X := by
  rw [List.getD_eq_getElem?_getD, List.getElem?_eq_getElem h]; exact List.getElem_mem h
theorem next_none {X : List (Int × Int)} (h : X.length = 0) : someS X = false ∧ nextS X = 0 := by
  unfold someS nextS; rw [h]; exact ⟨rfl, rfl⟩
theorem nextlaw_c (os : List (Int × Int × Int × Int)) (a : Option Addr) (cap : Nat) (w : World) (hat : At w a (mm op8 os)) (hol : os.length ≤ 9223372036854775807) (hob : OpB os) : Calls Try.prog 9 #[Value.slice a os.length cap] w (Ret w (.bool true)) := by
 refine calls_W (M := []) (LL := []) (n := 75) Try.func9 rfl rfl sp (Mem.refl _) (W.seq (fun K1 hK1 => ?_))
 refine W.region (Wl.run 1 ma0 (Wl.nil (hK1 _ _ _ (W.seq (fun K2 hK2 => ?_)))))
 refine W.seq (fun K3 hK3 => W.region (Wl.yc (v := bV true) rfl rfl (Yc.call (fun _ => kr) (fun w_ hm_ => (speaks8_c _))) (Wl.run 1 ma0 (Wl.nil ?_))))
 refine hK3 _ _ _ (W.prune' [0, 12] [Value.slice a os.length cap, bV false] ma0 (fun f4 => ?_))
 refine W.condF ma0 (W.skip' (hK2 _ _ _ (W.prune' [0] [Value.slice a os.length cap] ma0 (fun f5 => W.seq (fun K6 hK6 => ?_)))))
 refine W.seq (fun K7 hK7 => W.region (Wl.run 3 ma0 (Wl.nil (hK7 _ _ _ ?_))))
 refine W.prune' [0, 15] [Value.slice a os.length cap, bV (decide (((os.length : Nat) : Int) > 200))] ma0 (fun f8 => ?_)
 refine W.cond (decide (((os.length : Nat) : Int) > 200)) ma0 (fun h9 => ?_) (fun h10 => ?_)
 ·refine W.seq (fun K11 hK11 => W.region (Wl.run 1 ma0 (Wl.nil (hK11 _ _ _ ?_))))
  refine W.ret ?_
  show ∀ w_, _ → bodyPostM (fence none) 0 Try.prog Try.f9 _ Exit.ret _ w_
  exact fun w_ hS_ => fin_ret (ret1 rfl (RV.tmp (v := bV true) ma0) hS_ ⟨rfl, hS_.below⟩)
 ·have qh10 := h10; try simp only [zA] at qh10
  refine W.skip' (hK6 _ _ _ (W.prune' [0] [Value.slice a os.length cap] ma0 (fun f12 => W.seq (fun K13 hK13 => W.region ?_))))
  refine Wl.htS rfl (HtS.call (β := Nat) (k := 31) (args := #[]) (Lin := []) (Lk := []) (Mi := []) (Lo := fun wb14 => [[cb wb14 [Value.slice none 0 0] 85]]) [] [] rfl (fun _ => kr) ma2 rfl rfl rfl (fun w_ hm_ hl_ => (wnew_c _)) (fun _ => rfl)) (fun wb14 _ => Wl.run 1 ma0 (Wl.nil (hK13 _ _ _ (W.prune' [0, 3] [Value.slice a os.length cap, pV wb14 0] ma0 (fun f16 => ?_)))))
  refine W.seq (fun K17 hK17 => W.seq (fun K18 hK18 => ?_))
  refine W.region (Wl.run 2 ma0 (Wl.nil (hK18 _ _ _ (W.prune' [0, 3, 18] [Value.slice a os.length cap, pV wb14 0, bV false] ma0 (fun f19 => ?_)))))
  refine W.condF ma0 (W.skip' (hK17 _ _ _ (W.prune' [0, 3] [Value.slice a os.length cap, pV wb14 0] ma0 (fun f20 => W.seq (fun K21 hK21 => ?_)))))
  refine W.seq (fun K22 hK22 => ?_)
  obtain ⟨xs24, hx28⟩ : ∃ z : List (Int × Int), z = [] := ⟨_, rfl⟩
  obtain ⟨g23, hg27⟩ : ∃ z : FS, z = FS.nul := ⟨_, rfl⟩
  have ok25 : g23.ok 2 xs24.length := by rw [hg27, hx28]; exact FS.nul_ok 2
  have hk26 : OkS xs24 := by rw [hx28]; exact OkS.nil
  have hl29 : xs24.length = 0 := by rw [hx28]; rfl
  refine W.conseq (S' := Mem w [] [g23.seg 87 (mm spk xs24), [cb wb14 [sV g23 xs24.length] 85]]) (fun w_ h_ => Mem.cast (LL := [] :: [[cb wb14 [Value.slice none 0 0] 85]]) (by rw [hg27, hx28]; rfl) (Mem.push h_)) (W.region (Wl.run 3 ma0 (Wl.nil (hK22 _ _ _ ?_))))
  refine W.prune' [3, 19, 20, 21] [pV wb14 0, Value.slice a os.length cap, nV .i64 os.length, iV .i64 0] ma0 (fun f30 => W.block (W.loop3 [3, 19, 20, 21] (fun (i : Nat) (xs : List (Int × Int)) (g : FS) => [pV wb14 0, Value.slice a os.length cap, nV .i64 os.length, nV .i64 i]) (fun (i : Nat) (xs : List (Int × Int)) (g : FS) => i ≤ os.length ∧ g.ok 2 xs.length ∧ OkS xs ∧ BdS xs ∧ xs.length ≤ i + 1) (fun (i : Nat) (xs : List (Int × Int)) (g : FS) => [g.seg 87 (mm spk xs), [cb wb14 [sV g xs.length] 85]]) (fun (i : Nat) (xs : List (Int × Int)) (g : FS) => os.length - i) 0 xs24 g23 ma0 ⟨(Nat.zero_le _), ok25, hk26, (by rw [hx28]; exact BdS.nil), ma1⟩ (by rfl) (fun i xs g f32 J31 hp33 hJ31 => ?_)))
  obtain ⟨hi, ok, hk, hbd, hlx⟩ := hp33
  refine W.seq (fun K34 hK34 => W.region (Wl.run 1 ma0 (Wl.nil (hK34 _ _ _ ?_))))
  refine W.seq (fun K35 hK35 => ?_)
  refine W.cond (decide (((i : Nat) : Int) < (os.length : Int))) ma0 (fun h36 => ?_) (fun h37 => ?_)
  ·have qh36 := h36; try simp only [zA] at qh36
   refine W.skip' (hK35 _ _ _ (W.prune' [3, 19, 20, 21] [pV wb14 0, Value.slice a os.length cap, nV .i64 os.length, nV .i64 i] ma0 (fun f38 => W.seq (fun K39 hK39 => W.block ?_))))
   refine W.seq (fun K40 hK40 => W.region (Wl.ys (v := Value.pointer (some (ela a (i * 4)))) rfl rfl (Ys.byMem fun w_ h_ => Ys.indexAddr (k := .i64) (a := a) (len := os.length) (cap := cap) (i := (i : Int)) (sz := 4) rfl ma0 ma0 Try.runUnderlying53 Try.sizeOf58 ma1 ma1 ((hat.mem0 h_).here (by rw [mm_len (g := op8) (sz := 4) (fun _ => rfl)]; first | omega | (simp; omega)))) (Wl.ys (v := aV [iV .i64 ((os.getD i (0, 0, 0, 0)).1), iV .i64 ((os.getD i (0, 0, 0, 0)).2.1), iV .i64 ((os.getD i (0, 0, 0, 0)).2.2.1), iV .u64 ((os.getD i (0, 0, 0, 0)).2.2.2)]) rfl rfl (Ys.ldN (a := ela a (i * 4)) (vs := [iV .i64 ((os.getD i (0, 0, 0, 0)).1), iV .i64 ((os.getD i (0, 0, 0, 0)).2.1), iV .i64 ((os.getD i (0, 0, 0, 0)).2.2.1), iV .u64 ((os.getD i (0, 0, 0, 0)).2.2.2)]) rfl ma0 Try.isAgg58 Try.sizeOf58 rfl (fun w_ h_ => (hat.mem0 h_).ldN (mm_get (g := op8) (sz := 4) (fun _ => rfl) (0, 0, 0, 0) (xs := os) (k := i) ma1))) (Wl.ht rfl (Ht.alloc (z := aV [iV .i64 0, iV .i64 0, iV .i64 0, iV .u64 0]) (cs := [iV .i64 0, iV .i64 0, iV .i64 0, iV .u64 0]) rfl rfl Try.zeroValue58 rfl) (fun p5 => ?_)))))
   refine Wl.ht rfl (Ht.storeN (b := p5) (o' := 0) (i := 0) (j := 0) (vs := [iV .i64 ((os.getD i (0, 0, 0, 0)).1), iV .i64 ((os.getD i (0, 0, 0, 0)).2.1), iV .i64 ((os.getD i (0, 0, 0, 0)).2.2.1), iV .u64 ((os.getD i (0, 0, 0, 0)).2.2.2)]) (LL' := [[cb p5 [iV .i64 ((os.getD i (0, 0, 0, 0)).1), iV .i64 ((os.getD i (0, 0, 0, 0)).2.1), iV .i64 ((os.getD i (0, 0, 0, 0)).2.2.1), iV .u64 ((os.getD i (0, 0, 0, 0)).2.2.2)] 58], g.seg 87 (mm spk xs), [cb wb14 [sV g xs.length] 85]]) rfl rfl ma0 ma0 Try.sizeOf58 (by simp [Value.oneCell']) rfl rfl sp rfl rfl) (fun _ => Wl.nil (hK40 _ _ _ (W.prune' [3, 5, 19, 20, 21] [pV wb14 0, pV p5 0, Value.slice a os.length cap, nV .i64 os.length, nV .i64 i] ma0 (fun f41 => W.region ?_))))
   refine Wl.run 2 ma0 (Wl.ys rfl rfl (Ys.l1 p5 1 0 0 Try.isAgg3) (Wl.run 1 ma0 (Wl.ys rfl rfl (Ys.l1 p5 3 0 0 Try.isAgg54) ?_)))
   obtain ⟨X42, hX43⟩ : ∃ z, setS xs ((os.getD i (0, 0, 0, 0)).2.1) ((os.getD i (0, 0, 0, 0)).2.2.2) = z := ⟨_, rfl⟩
   have hlx44 : X42.length ≤ xs.length + 1 := hX43 ▸ setS_len _ _ _
   have hk45 : OkS X42 := hX43 ▸ hk.set _ _
   refine Wl.htS rfl (HtS.call (β := FS) (k := 32) (args := #[pV wb14 0, iV .i64 ((os.getD i (0, 0, 0, 0)).2.1), iV .u64 ((os.getD i (0, 0, 0, 0)).2.2.2)]) (Lin := [g.seg 87 (mm spk xs), [cb wb14 [sV g xs.length] 85]]) (Lk := [[cb p5 [iV .i64 ((os.getD i (0, 0, 0, 0)).1), iV .i64 ((os.getD i (0, 0, 0, 0)).2.1), iV .i64 ((os.getD i (0, 0, 0, 0)).2.2.1), iV .u64 ((os.getD i (0, 0, 0, 0)).2.2.2)] 58]]) (Lo := fun g46 => [g46.seg 87 (mm spk X42), [cb wb14 [sV g46 X42.length] 85], [cb p5 [iV .i64 ((os.getD i (0, 0, 0, 0)).1), iV .i64 ((os.getD i (0, 0, 0, 0)).2.1), iV .i64 ((os.getD i (0, 0, 0, 0)).2.2.1), iV .u64 ((os.getD i (0, 0, 0, 0)).2.2.2)] 58]]) [1, 2] [0] rfl (fun _ => kr) ma2 rfl rfl rfl (fun w_ hm_ hl_ => (wsetz_c xs g wb14 _ ((os.getD i (0, 0, 0, 0)).2.1) ((os.getD i (0, 0, 0, 0)).2.2.2) X42 _ hX43 hl_ ok ma1 hk.srt)) (fun _ => rfl)) (fun g46 ok47 => Wl.nil (hK39 _ _ _ (W.pick (LL' := [g46.seg 87 (mm spk X42), [cb wb14 [sV g46 X42.length] 85]]) [0, 1] ma2 rfl (W.prune' [3, 19, 20, 21] [pV wb14 0, Value.slice a os.length cap, nV .i64 os.length, nV .i64 i] ma0 (fun f49 => ?_)))))
   refine W.region (Wl.ys (v := nV .i64 (i + 1)) rfl rfl ((Ys.pure (v := .int .i64 (iadd .i64 (i : Int) 1)) (fun _ => kr)).conseq (int_congr (iadd_eq ma1 ma1 ma1))) (Wl.run 1 ma0 (Wl.nil ?_)))
   refine fun w_ h_ => hJ31 (i + 1) X42 g46 _ w_ ma1 ⟨ma1, ok47, hk45, (hX43 ▸ hbd.set hk (hob.at ma1).1 (hob.at ma1).2), ma1⟩ ?_ h_
   kernel_rfl
  ·have qh37 := h37; try simp only [zA] at qh37
   refine W.exit (hK21 _ _ _ (W.prune' [3] [pV wb14 0] ma0 (fun f50 => W.seq (fun K51 hK51 => W.block ?_))))
   refine W.loop2 [3] (fun (X : List (Int × Int)) (gX : FS) => [pV wb14 0]) (fun (X : List (Int × Int)) (gX : FS) => gX.ok 2 X.length ∧ OkS X ∧ BdS X ∧ X.length ≤ 1000) (fun (X : List (Int × Int)) (gX : FS) => [gX.seg 87 (mm spk X), [cb wb14 [Value.slice gX.a X.length gX.cap] 85]]) (fun (X : List (Int × Int)) (gX : FS) => X.length) xs g ma0 ⟨ok, hk, hbd, ma1⟩ (by rfl) (fun X gX f53 J52 hp54 hJ52 => ?_)
   obtain ⟨okX, hkX, hbX, hlX⟩ := hp54
   refine W.seq (fun K55 hK55 => W.seq (fun K56 hK56 => ?_))
   refine W.region (Wl.run 1 ma0 (Wl.yc (v := nV .i64 X.length) rfl rfl (Yc.call (fun _ => kr) (fun w_ hm_ => (let z_ := Mem.local' (hm_.pick [0, 1] ma2 rfl); ret_same z_ (wlen_c X gX wb14 _  w_ z_ okX ma1)))) (Wl.run 1 ma0 (Wl.nil ?_))))
   refine hK56 _ _ _ (W.prune' [3, 34] [pV wb14 0, bV (decide (((X.length : Nat) : Int) > 0))] ma0 (fun f57 => ?_))
   refine W.cond (decide (((X.length : Nat) : Int) > 0)) ma0 (fun h58 => ?_) (fun h59 => ?_)
   ·have qh58 := h58; try simp only [zA] at qh58
    refine W.skip' (hK55 _ _ _ (W.prune' [3] [pV wb14 0] ma0 (fun f60 => W.block (W.seq (fun K61 hK61 => ?_)))))
    have hnx_ := next_some (X := X) ma1
    have hb0_ := hbX _ (head_mem (X := X) ma1)
    refine W.region (Wl.run 1 ma0 (Wl.yc (v := Value.tuple #[iV .u64 (nextS X), bV (someS X)]) rfl rfl (Yc.call (fun _ => kr) (fun w_ hm_ => (let z_ := Mem.local' (hm_.pick [0, 1] ma2 rfl); ret_same z_ (wnext_c X gX wb14 _  w_ z_ okX ma1)))) (Wl.run 1 ma0 (Wl.ys (v := iV .u64 ((X.getD 0 (0, 0)).1)) rfl rfl ((Ys.pure (v := iV .u64 (nextS X)) (fun _ => kr)).conseq (int_congr (hnx_.2))) ?_))))
    refine Wl.ys (v := bV true) rfl rfl ((Ys.pure (v := bV (someS X)) (fun _ => kr)).conseq (bool_congr (hnx_.1))) (Wl.run 2 ma0 (Wl.nil (hK61 _ _ _ (W.prune' [3, 6, 7] [pV wb14 0, iV .u64 ((X.getD 0 (0, 0)).1), bV true] ma0 (fun f62 => ?_)))))
    refine W.seq (fun K63 hK63 => W.seq (fun K64 hK64 => ?_))
    refine W.region (Wl.run 3 ma0 (Wl.guard (v := iV .u64 ((X.getD 0 (0, 0)).1)) (true) rfl ma0 rfl (fun _ => Ys.pure (fun _ => kr)) (Wl.guard (v := bV (decide (((X.getD 0 (0, 0)).1) > 0))) (true) rfl ma0 rfl (fun _ => Ys.pure (fun _ => kr)) (Wl.guard (v := bV (decide (((X.getD 0 (0, 0)).1) > 0))) (true) rfl ma0 rfl (fun _ => Ys.pure (fun _ => kr)) ?_))))
    refine Wl.guard (v := pV wb14 0) (decide (((X.getD 0 (0, 0)).1) > 0)) rfl (wantT rfl ma0) rfl (fun hg65 => ?_) ?_
    ·exact Ys.pure (fun _ => kr)
    refine Wl.guard (v := iV .u64 ((X.getD 0 (0, 0)).1)) (decide (((X.getD 0 (0, 0)).1) > 0)) rfl (wantT rfl ma0) rfl (fun hg66 => ?_) ?_
    ·exact Ys.pure (fun _ => kr)
    refine Wl.guard (v := iV .u64 (((X.getD 0 (0, 0)).1) - 1)) (decide (((X.getD 0 (0, 0)).1) > 0)) rfl (wantT rfl ma0) rfl (fun hg67 => ?_) ?_
    ·have qhg67 := hg67; try simp only [zA] at qhg67
     refine Ys.at (t := 47) (v0 := iV .u64 ((X.getD 0 (0, 0)).1)) (lz (g := decide (((X.getD 0 (0, 0)).1) > 0)) (u := undef) hg67 ma0) ?_
     exact (Ys.pure (v := .int .u64 (isub .u64 ((X.getD 0 (0, 0)).1) 1)) (fun _ => kr)).conseq (int_congr (isub_u64 ma1 ma1))
    refine Wl.split (decide (((X.getD 0 (0, 0)).1) > 0)) (fun h68 => ?_) (fun h69 => ?_)
    ·have qh68 := h68; try simp only [zA] at qh68
     refine Wl.at 44 (v0 := .bool true) (boolv (e := decide (((X.getD 0 (0, 0)).1) > 0)) ma0 h68) (Wl.at 45 (v0 := .bool true) (boolv (e := decide (((X.getD 0 (0, 0)).1) > 0)) ma0 h68) (Wl.at 46 (v0 := pV wb14 0) (lz (g := decide (((X.getD 0 (0, 0)).1) > 0)) (u := undef) h68 ma0) (Wl.at 47 (v0 := iV .u64 ((X.getD 0 (0, 0)).1)) (lz (g := decide (((X.getD 0 (0, 0)).1) > 0)) (u := undef) h68 ma0) (Wl.at 48 (v0 := iV .u64 (((X.getD 0 (0, 0)).1) - 1)) (lz (g := decide (((X.getD 0 (0, 0)).1) > 0)) (u := undef) h68 ma0) ?_))))
     obtain ⟨X70, hX71⟩ : ∃ z, X.drop (dueN X (((X.getD 0 (0, 0)).1) - 1) 9) = z := ⟨_, rfl⟩
     obtain ⟨O72, hO73⟩ : ∃ z, keysS (X.take (dueN X (((X.getD 0 (0, 0)).1) - 1) 9)) = z := ⟨_, rfl⟩
     have hlx75 : X70.length + O72.length = X.length := hX71 ▸ hO73 ▸ due_len X (dueN X (((X.getD 0 (0, 0)).1) - 1) 9)
     have hk74 : OkS X70 := hX71 ▸ hkX.drop _
     have hZX_ : X70 = X := by rw [← hX71, dueN_none ma1 ma1]; rfl
     have hZXl_ := congrArg List.length hZX_
     refine Wl.htwS rfl ma0 (HtS.call (β := FS × FS) (k := 33) (args := #[pV wb14 0, iV .u64 (((X.getD 0 (0, 0)).1) - 1), iV .i64 9]) (Lin := [gX.seg 87 (mm spk X), [cb wb14 [Value.slice gX.a X.length gX.cap] 85]]) (Lk := []) (Lo := fun q80 => [q80.1.seg 3 (mc (Value.int .i64) O72), q80.2.seg 87 (mm spk X70), [cb wb14 [Value.slice q80.2.a X70.length q80.2.cap] 85]]) [0, 1] [] rfl (fun _ => kr) ma2 rfl rfl rfl (fun w_ hm_ hl_ => (duez_c X gX wb14 (((X.getD 0 (0, 0)).1) - 1) 9 _ X70 O72 _ hX71 hO73 hl_ okX ma1)) (fun _ => rfl)) (fun q80 hx82 => ?_)
     obtain ⟨go76, g77⟩ := q80
     dsimp only at hx82
     obtain ⟨oko78, ok79⟩ := hx82
     refine Wl.castL (LL' := [go76.seg 3 (mc (Value.int .i64) O72), g77.seg 87 (mm spk X70), [cb wb14 [sV g77 X70.length] 85]]) rfl (Wl.guard (v := nV .i64 O72.length) (true) rfl ma0 rfl (fun _ => Ys.pure (fun _ => kr)) (Wl.guard (v := bV (decide (((O72.length : Nat) : Int) > 0))) (true) rfl ma0 rfl (fun _ => Ys.pure (fun _ => kr)) (Wl.guard (v := bV (decide (((O72.length : Nat) : Int) > 0))) (true) rfl ma0 rfl (fun _ => Ys.pure (fun _ => kr)) (Wl.run 1 ma0 ?_))))
     refine Wl.nil (hK64 _ _ _ (W.prune' [3, 6, 43, 44, 45, 46, 47, 48, 49, 50, 51, 52, 53] [pV wb14 0, iV .u64 ((X.getD 0 (0, 0)).1), iV .u64 ((X.getD 0 (0, 0)).1), bV true, bV true, pV wb14 0, iV .u64 ((X.getD 0 (0, 0)).1), iV .u64 (((X.getD 0 (0, 0)).1) - 1), Value.slice go76.a O72.length go76.cap, nV .i64 O72.length, bV (decide (((O72.length : Nat) : Int) > 0)), bV (decide (((O72.length : Nat) : Int) > 0)), bV (decide (((O72.length : Nat) : Int) > 0))] ma0 (fun f83 => ?_)))
     refine W.cond (decide (((O72.length : Nat) : Int) > 0)) ma0 (fun h84 => ?_) (fun h85 => ?_)
     ·have qh84 := h84; try simp only [zA] at qh84
      (exfalso; have z_ := of_decide_eq_true h84; omega)
     ·have qh85 := h85; try simp only [zA] at qh85
      refine W.skip' (hK63 _ _ _ (W.prune' [3, 6, 43, 44, 45, 46, 47, 48, 49, 50, 51, 52] [pV wb14 0, iV .u64 ((X.getD 0 (0, 0)).1), iV .u64 ((X.getD 0 (0, 0)).1), bV true, bV true, pV wb14 0, iV .u64 ((X.getD 0 (0, 0)).1), iV .u64 (((X.getD 0 (0, 0)).1) - 1), Value.slice go76.a O72.length go76.cap, nV .i64 O72.length, bV (decide (((O72.length : Nat) : Int) > 0)), bV (decide (((O72.length : Nat) : Int) > 0))] ma0 (fun f86 => W.seq (fun K87 hK87 => W.region ?_))))
      refine Wl.run 1 ma0 (Wl.yc (v := nV .i64 X70.length) rfl rfl (Yc.call (fun _ => kr) (fun w_ hm_ => (let z_ := Mem.local' (hm_.pick [1, 2] ma2 rfl); ret_same z_ (wlen_c X70 g77 wb14 _  w_ z_ ok79 ma1)))) (Wl.run 1 ma0 (Wl.nil (hK87 _ _ _ ?_))))
      refine W.prune' [3, 6, 8, 43, 44, 45, 46, 47, 48, 49, 50, 51, 52] [pV wb14 0, iV .u64 ((X.getD 0 (0, 0)).1), nV .i64 X70.length, iV .u64 ((X.getD 0 (0, 0)).1), bV true, bV true, pV wb14 0, iV .u64 ((X.getD 0 (0, 0)).1), iV .u64 (((X.getD 0 (0, 0)).1) - 1), Value.slice go76.a O72.length go76.cap, nV .i64 O72.length, bV (decide (((O72.length : Nat) : Int) > 0)), bV (decide (((O72.length : Nat) : Int) > 0))] ma0 (fun f88 => W.seq (fun K89 hK89 => ?_))
      refine W.region ?_
      obtain ⟨X90, hX91⟩ : ∃ z, X70.drop (dueN X70 ((X.getD 0 (0, 0)).1) 1) = z := ⟨_, rfl⟩
      obtain ⟨O92, hO93⟩ : ∃ z, keysS (X70.take (dueN X70 ((X.getD 0 (0, 0)).1) 1)) = z := ⟨_, rfl⟩
      have hlx95 : X90.length + O92.length = X70.length := hX91 ▸ hO93 ▸ due_len X70 (dueN X70 ((X.getD 0 (0, 0)).1) 1)
      have hk94 : OkS X90 := hX91 ▸ hk74.drop _
      have hN_ : dueN X70 ((X.getD 0 (0, 0)).1) 1 = 1 := by rw [hZX_]; exact dueN_one ma1
      have hzl96 : X90.length = X70.length - 1 := by rw [← hX91, hN_, List.length_drop]
      refine Wl.run 2 ma0 (Wl.htS rfl (HtS.call (β := FS × FS) (k := 33) (args := #[pV wb14 0, iV .u64 ((X.getD 0 (0, 0)).1), iV .i64 1]) (Lin := [g77.seg 87 (mm spk X70), [cb wb14 [sV g77 X70.length] 85]]) (Lk := [go76.seg 3 (mc (Value.int .i64) O72)]) (Lo := fun q101 => [q101.1.seg 3 (mc (Value.int .i64) O92), q101.2.seg 87 (mm spk X90), [cb wb14 [Value.slice q101.2.a X90.length q101.2.cap] 85], go76.seg 3 (mc (Value.int .i64) O72)]) [1, 2] [0] rfl (fun _ => kr) ma2 rfl rfl rfl (fun w_ hm_ hl_ => (duez_c X70 g77 wb14 ((X.getD 0 (0, 0)).1) 1 _ X90 O92 _ hX91 hO93 hl_ ok79 ma1)) (fun _ => rfl)) (fun q101 hx103 => ?_))
      obtain ⟨go97, g98⟩ := q101
      dsimp only at hx103
      obtain ⟨oko99, ok100⟩ := hx103
      refine Wl.castL (LL' := [go97.seg 3 (mc (Value.int .i64) O92), g98.seg 87 (mm spk X90), [cb wb14 [sV g98 X90.length] 85], go76.seg 3 (mc (Value.int .i64) O72)]) rfl (Wl.run 3 ma0 ?_)
      refine Wl.guard (v := pV wb14 0) (!(((O92.length : Nat) : Int) != 1)) rfl (wantF rfl ma0) rfl (fun hg104 => ?_) ?_
      ·exact Ys.pure (fun _ => kr)
      refine Wl.guardc (v := nV .i64 X90.length) (!(((O92.length : Nat) : Int) != 1)) rfl (wantF rfl ma0) rfl (fun hg105 => ?_) ?_
      ·have qhg105 := hg105; try simp only [zA] at qhg105
       refine Yc.at (t := 62) (v0 := pV wb14 0) (lz (g := !(((O92.length : Nat) : Int) != 1)) (u := undef) hg105 ma0) ?_
       exact Yc.call (fun _ => kr) (fun w_ hm_ => (let z_ := Mem.local' (hm_.pick [1, 2] ma2 rfl); ret_same z_ (wlen_c X90 g98 wb14 _  w_ z_ ok100 ma1)))
      refine Wl.guard (v := nV .i64 X70.length) (!(((O92.length : Nat) : Int) != 1)) rfl (wantF rfl ma0) rfl (fun hg106 => ?_) ?_
      ·exact Ys.pure (fun _ => kr)
      refine Wl.guard (v := iV .i64 (((X70.length : Nat) : Int) - 1)) (!(((O92.length : Nat) : Int) != 1)) rfl (wantF rfl ma0) rfl (fun hg107 => ?_) ?_
      ·have qhg107 := hg107; try simp only [zA] at qhg107
       refine Ys.at (t := 64) (v0 := nV .i64 X70.length) (lz (g := !(((O92.length : Nat) : Int) != 1)) (u := undef) hg107 ma0) ?_
       exact (Ys.pure (v := .int .i64 (isub .i64 (X70.length : Int) 1)) (fun _ => kr)).conseq (int_congr (isub_eq rfl ma1 ma1))
      refine Wl.guard (v := bV (((X90.length : Nat) : Int) != (((X70.length : Nat) : Int) - 1))) (!(((O92.length : Nat) : Int) != 1)) rfl (wantF rfl ma0) rfl (fun hg108 => ?_) ?_
      ·refine Ys.at (t := 63) (v0 := nV .i64 X90.length) (lz (g := !(((O92.length : Nat) : Int) != 1)) (u := undef) hg108 ma0) (Ys.at (t := 65) (v0 := iV .i64 (((X70.length : Nat) : Int) - 1)) (lz (g := !(((O92.length : Nat) : Int) != 1)) (u := undef) hg108 ma0) ?_)
       exact Ys.pure (fun _ => kr)
      refine Wl.ys (v := bV (((O92.length : Int) != 1) || (((X90.length : Nat) : Int) != (((X70.length : Nat) : Int) - 1)))) rfl rfl (Ys.or' (e := (O92.length : Int) != 1) (b := (X90.length : Int) != (((X70.length : Nat) : Int) - 1)) rfl ma0 ma0 ma0) (Wl.nil (hK89 _ _ _ (W.pick (LL' := [g98.seg 87 (mm spk X90), [cb wb14 [sV g98 X90.length] 85], go76.seg 3 (mc (Value.int .i64) O72)]) [1, 2, 3] ma2 rfl (W.prune' [3, 43, 44, 45, 46, 47, 48, 49, 50, 51, 52, 62, 63, 64, 65, 66, 67] [pV wb14 0, iV .u64 ((X.getD 0 (0, 0)).1), bV true, bV true, pV wb14 0, iV .u64 ((X.getD 0 (0, 0)).1), iV .u64 (((X.getD 0 (0, 0)).1) - 1), Value.slice go76.a O72.length go76.cap, nV .i64 O72.length, bV (decide (((O72.length : Nat) : Int) > 0)), bV (decide (((O72.length : Nat) : Int) > 0)), (bif !(((O92.length : Nat) : Int) != 1) then pV wb14 0 else undef), (bif !(((O92.length : Nat) : Int) != 1) then nV .i64 X90.length else undef), (bif !(((O92.length : Nat) : Int) != 1) then nV .i64 X70.length else undef), (bif !(((O92.length : Nat) : Int) != 1) then iV .i64 (((X70.length : Nat) : Int) - 1) else undef), (bif !(((O92.length : Nat) : Int) != 1) then bV (((X90.length : Nat) : Int) != (((X70.length : Nat) : Int) - 1)) else undef), bV (((O92.length : Int) != 1) || (((X90.length : Nat) : Int) != (((X70.length : Nat) : Int) - 1)))] ma0 (fun f109 => ?_)))))
      refine W.cond (((O92.length : Int) != 1) || (((X90.length : Nat) : Int) != (((X70.length : Nat) : Int) - 1))) ma0 (fun h110 => ?_) (fun h111 => ?_)
      ·have qh110 := h110; try simp only [zA] at qh110
       (exfalso; rcases Bool.or_eq_true_iff.1 h110 with z_ | z_ <;> simp at z_ <;> omega)
      ·have qh111 := h111; try simp only [zA] at qh111
       refine W.skip' ?_
       refine fun w_ h_ => hJ52 X90 g98 _ w_ ma1 ⟨ok100, hk94, (hX91 ▸ BdS.drop (hX71 ▸ BdS.drop hbX _) _), ma1⟩ ?_ (h_.pick [0, 1] ma2 rfl)
       kernel_rfl
    ·have qh69 := h69; try simp only [zA] at qh69
     refine Wl.at 44 (v0 := .bool false) (boolv (e := decide (((X.getD 0 (0, 0)).1) > 0)) ma0 h69) (Wl.at 45 (v0 := .bool false) (boolv (e := decide (((X.getD 0 (0, 0)).1) > 0)) ma0 h69) (Wl.skip ma0 rfl (Wl.skip ma0 rfl (Wl.skip ma0 rfl ?_))))
     refine Wl.guard (v := bV false) (true) rfl ma0 rfl (fun _ => Ys.pure (fun _ => kr)) (Wl.run 1 ma0 (Wl.nil (hK64 _ _ _ (W.prune' [3, 6, 43, 44, 45, 46, 47, 48, 52, 53] [pV wb14 0, iV .u64 ((X.getD 0 (0, 0)).1), iV .u64 ((X.getD 0 (0, 0)).1), bV false, bV false, (bif decide (((X.getD 0 (0, 0)).1) > 0) then pV wb14 0 else undef), (bif decide (((X.getD 0 (0, 0)).1) > 0) then iV .u64 ((X.getD 0 (0, 0)).1) else undef), (bif decide (((X.getD 0 (0, 0)).1) > 0) then iV .u64 (((X.getD 0 (0, 0)).1) - 1) else undef), bV false, bV false] ma0 (fun f112 => ?_)))))
     refine W.condF ma0 (W.skip' (hK63 _ _ _ (W.prune' [3, 6, 43, 44, 45, 46, 47, 48, 52] [pV wb14 0, iV .u64 ((X.getD 0 (0, 0)).1), iV .u64 ((X.getD 0 (0, 0)).1), bV false, bV false, (bif decide (((X.getD 0 (0, 0)).1) > 0) then pV wb14 0 else undef), (bif decide (((X.getD 0 (0, 0)).1) > 0) then iV .u64 ((X.getD 0 (0, 0)).1) else undef), (bif decide (((X.getD 0 (0, 0)).1) > 0) then iV .u64 (((X.getD 0 (0, 0)).1) - 1) else undef), bV false] ma0 (fun f113 => W.seq (fun K114 hK114 => ?_)))))
     refine W.region (Wl.run 1 ma0 (Wl.yc (v := nV .i64 X.length) rfl rfl (Yc.call (fun _ => kr) (fun w_ hm_ => (let z_ := Mem.local' (hm_.pick [0, 1] ma2 rfl); ret_same z_ (wlen_c X gX wb14 _  w_ z_ okX ma1)))) (Wl.run 1 ma0 (Wl.nil ?_))))
     refine hK114 _ _ _ (W.prune' [3, 6, 8, 43, 44, 45, 46, 47, 48, 52] [pV wb14 0, iV .u64 ((X.getD 0 (0, 0)).1), nV .i64 X.length, iV .u64 ((X.getD 0 (0, 0)).1), bV false, bV false, (bif decide (((X.getD 0 (0, 0)).1) > 0) then pV wb14 0 else undef), (bif decide (((X.getD 0 (0, 0)).1) > 0) then iV .u64 ((X.getD 0 (0, 0)).1) else undef), (bif decide (((X.getD 0 (0, 0)).1) > 0) then iV .u64 (((X.getD 0 (0, 0)).1) - 1) else undef), bV false] ma0 (fun f115 => ?_))
     refine W.seq (fun K116 hK116 => W.region ?_)
     obtain ⟨X117, hX118⟩ : ∃ z, X.drop (dueN X ((X.getD 0 (0, 0)).1) 1) = z := ⟨_, rfl⟩
     obtain ⟨O119, hO120⟩ : ∃ z, keysS (X.take (dueN X ((X.getD 0 (0, 0)).1) 1)) = z := ⟨_, rfl⟩
     have hlx122 : X117.length + O119.length = X.length := hX118 ▸ hO120 ▸ due_len X (dueN X ((X.getD 0 (0, 0)).1) 1)
     have hk121 : OkS X117 := hX118 ▸ hkX.drop _
     have hN_ : dueN X ((X.getD 0 (0, 0)).1) 1 = 1 := by exact dueN_one ma1
     have hzl123 : X117.length = X.length - 1 := by rw [← hX118, hN_, List.length_drop]
     refine Wl.run 2 ma0 (Wl.htS rfl (HtS.call (β := FS × FS) (k := 33) (args := #[pV wb14 0, iV .u64 ((X.getD 0 (0, 0)).1), iV .i64 1]) (Lin := [gX.seg 87 (mm spk X), [cb wb14 [Value.slice gX.a X.length gX.cap] 85]]) (Lk := []) (Lo := fun q128 => [q128.1.seg 3 (mc (Value.int .i64) O119), q128.2.seg 87 (mm spk X117), [cb wb14 [Value.slice q128.2.a X117.length q128.2.cap] 85]]) [0, 1] [] rfl (fun _ => kr) ma2 rfl rfl rfl (fun w_ hm_ hl_ => (duez_c X gX wb14 ((X.getD 0 (0, 0)).1) 1 _ X117 O119 _ hX118 hO120 hl_ okX ma1)) (fun _ => rfl)) (fun q128 hx130 => ?_))
     obtain ⟨go124, g125⟩ := q128
     dsimp only at hx130
     obtain ⟨oko126, ok127⟩ := hx130
     refine Wl.castL (LL' := [go124.seg 3 (mc (Value.int .i64) O119), g125.seg 87 (mm spk X117), [cb wb14 [sV g125 X117.length] 85]]) rfl (Wl.run 3 ma0 ?_)
     refine Wl.guard (v := pV wb14 0) (!(((O119.length : Nat) : Int) != 1)) rfl (wantF rfl ma0) rfl (fun hg131 => ?_) ?_
     ·exact Ys.pure (fun _ => kr)
     refine Wl.guardc (v := nV .i64 X117.length) (!(((O119.length : Nat) : Int) != 1)) rfl (wantF rfl ma0) rfl (fun hg132 => ?_) ?_
     ·have qhg132 := hg132; try simp only [zA] at qhg132
      refine Yc.at (t := 62) (v0 := pV wb14 0) (lz (g := !(((O119.length : Nat) : Int) != 1)) (u := undef) hg132 ma0) ?_
      exact Yc.call (fun _ => kr) (fun w_ hm_ => (let z_ := Mem.local' (hm_.pick [1, 2] ma2 rfl); ret_same z_ (wlen_c X117 g125 wb14 _  w_ z_ ok127 ma1)))
     refine Wl.guard (v := nV .i64 X.length) (!(((O119.length : Nat) : Int) != 1)) rfl (wantF rfl ma0) rfl (fun hg133 => ?_) ?_
     ·exact Ys.pure (fun _ => kr)
     refine Wl.guard (v := iV .i64 (((X.length : Nat) : Int) - 1)) (!(((O119.length : Nat) : Int) != 1)) rfl (wantF rfl ma0) rfl (fun hg134 => ?_) ?_
     ·have qhg134 := hg134; try simp only [zA] at qhg134
      refine Ys.at (t := 64) (v0 := nV .i64 X.length) (lz (g := !(((O119.length : Nat) : Int) != 1)) (u := undef) hg134 ma0) ?_
      exact (Ys.pure (v := .int .i64 (isub .i64 (X.length : Int) 1)) (fun _ => kr)).conseq (int_congr (isub_eq rfl ma1 ma1))
     refine Wl.guard (v := bV (((X117.length : Nat) : Int) != (((X.length : Nat) : Int) - 1))) (!(((O119.length : Nat) : Int) != 1)) rfl (wantF rfl ma0) rfl (fun hg135 => ?_) ?_
     ·refine Ys.at (t := 63) (v0 := nV .i64 X117.length) (lz (g := !(((O119.length : Nat) : Int) != 1)) (u := undef) hg135 ma0) (Ys.at (t := 65) (v0 := iV .i64 (((X.length : Nat) : Int) - 1)) (lz (g := !(((O119.length : Nat) : Int) != 1)) (u := undef) hg135 ma0) ?_)
      exact Ys.pure (fun _ => kr)
     refine Wl.ys (v := bV (((O119.length : Int) != 1) || (((X117.length : Nat) : Int) != (((X.length : Nat) : Int) - 1)))) rfl rfl (Ys.or' (e := (O119.length : Int) != 1) (b := (X117.length : Int) != (((X.length : Nat) : Int) - 1)) rfl ma0 ma0 ma0) (Wl.nil (hK116 _ _ _ (W.pick (LL' := [g125.seg 87 (mm spk X117), [cb wb14 [sV g125 X117.length] 85]]) [1, 2] ma2 rfl (W.prune' [3, 43, 44, 45, 46, 47, 48, 52, 62, 63, 64, 65, 66, 67] [pV wb14 0, iV .u64 ((X.getD 0 (0, 0)).1), bV false, bV false, (bif decide (((X.getD 0 (0, 0)).1) > 0) then pV wb14 0 else undef), (bif decide (((X.getD 0 (0, 0)).1) > 0) then iV .u64 ((X.getD 0 (0, 0)).1) else undef), (bif decide (((X.getD 0 (0, 0)).1) > 0) then iV .u64 (((X.getD 0 (0, 0)).1) - 1) else undef), bV false, (bif !(((O119.length : Nat) : Int) != 1) then pV wb14 0 else undef), (bif !(((O119.length : Nat) : Int) != 1) then nV .i64 X117.length else undef), (bif !(((O119.length : Nat) : Int) != 1) then nV .i64 X.length else undef), (bif !(((O119.length : Nat) : Int) != 1) then iV .i64 (((X.length : Nat) : Int) - 1) else undef), (bif !(((O119.length : Nat) : Int) != 1) then bV (((X117.length : Nat) : Int) != (((X.length : Nat) : Int) - 1)) else undef), bV (((O119.length : Int) != 1) || (((X117.length : Nat) : Int) != (((X.length : Nat) : Int) - 1)))] ma0 (fun f136 => ?_)))))
     refine W.cond (((O119.length : Int) != 1) || (((X117.length : Nat) : Int) != (((X.length : Nat) : Int) - 1))) ma0 (fun h137 => ?_) (fun h138 => ?_)
     ·have qh137 := h137; try simp only [zA] at qh137
      (exfalso; rcases Bool.or_eq_true_iff.1 h137 with z_ | z_ <;> simp at z_ <;> omega)
     ·have qh138 := h138; try simp only [zA] at qh138
      refine W.skip' ?_
      refine fun w_ h_ => hJ52 X117 g125 _ w_ ma1 ⟨ok127, hk121, (hX118 ▸ BdS.drop hbX _), ma1⟩ ?_ h_
      kernel_rfl
   ·have qh59 := h59; try simp only [zA] at qh59
    refine W.exit (hK51 _ _ _ (W.prune' [3] [pV wb14 0] ma0 (fun f139 => W.seq (fun K140 hK140 => ?_))))
    have hnx_ := next_none (X := X) ma1
    refine W.region (Wl.run 1 ma0 (Wl.yc (v := Value.tuple #[iV .u64 (nextS X), bV (someS X)]) rfl rfl (Yc.call (fun _ => kr) (fun w_ hm_ => (let z_ := Mem.local' (hm_.pick [0, 1] ma2 rfl); ret_same z_ (wnext_c X gX wb14 _  w_ z_ okX ma1)))) (Wl.run 1 ma0 (Wl.ys (v := iV .u64 0) rfl rfl ((Ys.pure (v := iV .u64 (nextS X)) (fun _ => kr)).conseq (int_congr (hnx_.2))) ?_))))
    refine Wl.ys (v := bV false) rfl rfl ((Ys.pure (v := bV (someS X)) (fun _ => kr)).conseq (bool_congr (hnx_.1))) (Wl.run 2 ma0 (Wl.nil (hK140 _ _ _ (W.pick (LL' := []) [] ma2 rfl ?_))))
    refine W.prune' [10] [bV false] ma0 (fun f141 => W.seq (fun K142 hK142 => ?_))
    refine W.region (Wl.run 3 ma0 (Wl.nil (hK142 _ _ _ (W.prune' [2] [bV true] ma0 (fun f143 => ?_)))))
    refine W.ret ?_
    show ∀ w_, _ → bodyPostM (fence none) 0 Try.prog Try.f9 _ Exit.ret _ w_
    exact fun w_ hS_ => fin_ret (ret1 rfl (RV.tmp (v := bV true) ma0) hS_ ⟨rfl, hS_.below⟩)
end Go.Proofs.Ythfagedaijoenaa.Oct
