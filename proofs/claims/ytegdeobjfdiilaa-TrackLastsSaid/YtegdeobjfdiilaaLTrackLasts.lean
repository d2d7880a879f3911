/-
  TrackLasts: called with any arguments the law returns true and its arguments read as before. No condition.
-/
import Derived.Test.YtegdeobjfdiilaaTrack
import Derived.Test.YtegdeobjfdiilaaEq
set_option linter.unusedVariables false
set_option linter.unusedSimpArgs false
namespace Go.Proofs.Ytegdeobjfdiilaa.TrackLasts
open Go.ChangeShapes Go.WideShapes Go.ChangeAt Go.RowKit Base Track
theorem vals (p : Int) (s : St) : ((((((limit p s) != 0) && ((limit p s) != 60)) && ((limit p s) != 240)) && ((limit p s) != 300)) && ((limit p s) != 7440)) = false := by
  unfold limit
  cases (p == 1) <;> cases (p == 17) <;> cases (p == 6) <;> cases ((s.a && s.b) && !(over s)) <;> rfl
theorem two : ∀ n : Fin 256, (limit 6 (next (next (St.mk false false false false false) n.val true) n.val true)) = 240 := by decide +kernel
theorem fin_ (p : Int) (s : St) (n : Int) (hn : 0 ≤ n ∧ n ≤ 255) : (((limit 6 (next (next (St.mk false false false false false) n true) n true)) == 240) && (((limit p s) == 0) == (((p != 1) && (p != 17)) && (p != 6)))) = true := by
  obtain ⟨y, rfl⟩ := Int.eq_ofNat_of_zero_le hn.1
  have h2 := two ⟨y, by omega⟩
  simp only at h2
  rw [h2]
  unfold limit
  simp only [bne]
  cases (p == 1) <;> cases (p == 17) <;> cases (p == 6) <;> cases ((s.a && s.b) && !(over s)) <;> rfl
set_option maxHeartbeats 1000000 in
theorem walk (p : Int) (s : St) (n : Int) (hn : 0 ≤ n ∧ n ≤ 255) (w : World) : Calls Try.prog 9 #[Value.int .u8 p, Value.agg ([Value.bool s.a, Value.bool s.b, Value.bool s.c, Value.bool s.d, Value.bool s.e]).toArray, Value.int .u8 n] w (Ret w (.bool true)) := by
  refine calls_W (M := []) (L := []) (n := 57) Try.func9 rfl rfl (by simp) (Mem.refl _) ?_
  refine W.seq (fun K1 hK1 => ?_)
  refine W.region ?_
  refine Wl.box (v := Value.agg ([Value.bool s.a, Value.bool s.b, Value.bool s.c, Value.bool s.d, Value.bool s.e]).toArray) (cs := [Value.bool s.a, Value.bool s.b, Value.bool s.c, Value.bool s.d, Value.bool s.e]) rfl rfl rfl (by kernel_rfl) rfl (fun p4 => ?_)
  refine Wl.ys (v := Value.bool false) rfl rfl (Ys.pure (fun _ => by kernel_rfl)) ?_
  refine Wl.nil ?_
  refine hK1 _ _ ?_
  refine W.seq (fun K2 hK2 => ?_)
  refine W.seq (fun K3 hK3 => ?_)
  refine W.region ?_
  refine Wl.ys (v := Value.bool true) rfl rfl (Ys.call (k := 20) (args := #[]) (fun _ => by kernel_rfl) (fun _ hSc => speaks_c  _)) ?_
  refine Wl.ys (v := Value.bool false) rfl rfl (Ys.pure (fun _ => by kernel_rfl)) ?_
  refine Wl.nil ?_
  refine hK3 _ _ ?_
  refine W.condF (by kernel_rfl) ?_
  refine W.skip' ?_
  refine hK2 _ _ ?_
  refine W.seq (fun K4 hK4 => ?_)
  refine W.region ?_
  refine Wl.ys (v := Value.int .u8 p) rfl rfl (Ys.pure (fun _ => by kernel_rfl)) ?_
  refine Wl.ys (v := Value.agg ([Value.bool s.a, Value.bool s.b, Value.bool s.c, Value.bool s.d, Value.bool s.e]).toArray) rfl rfl (Ys.loadN (b := p4) (o' := 0) (i := 0) (cs := [Value.bool s.a, Value.bool s.b, Value.bool s.c, Value.bool s.d, Value.bool s.e]) (vs := [Value.bool s.a, Value.bool s.b, Value.bool s.c, Value.bool s.d, Value.bool s.e]) rfl (by kernel_rfl) Try.isAgg40 Try.sizeOf40 rfl rfl rfl) ?_
  refine Wl.ys (v := Value.int .u64 (limit p s)) rfl rfl (Ys.call (k := 25) (args := #[Value.int .u8 p, Value.agg ([Value.bool s.a, Value.bool s.b, Value.bool s.c, Value.bool s.d, Value.bool s.e]).toArray]) (fun _ => by kernel_rfl) (fun _ hSc => limit_c p s _)) ?_
  refine Wl.ys (v := Value.int .u64 (limit p s)) rfl rfl (Ys.pure (fun _ => by kernel_rfl)) ?_
  refine Wl.nil ?_
  refine hK4 _ _ ?_
  refine W.seq (fun K5 hK5 => ?_)
  refine W.seq (fun K6 hK6 => ?_)
  refine W.region ?_
  refine Wl.ys (v := Value.int .u64 (limit p s)) rfl rfl (Ys.pure (fun _ => by kernel_rfl)) ?_
  refine Wl.ys (v := Value.bool ((limit p s) != 0)) rfl rfl (Ys.pure (fun _ => by kernel_rfl)) ?_
  refine Wl.ys (v := Value.bool ((limit p s) != 0)) rfl rfl (Ys.pure (fun _ => by kernel_rfl)) ?_
  refine Wl.guard (v := Value.int .u64 (limit p s)) ((limit p s) != 0) (wantT rfl (by kernel_rfl)) rfl (fun hg7 => ?_) ?_
  · have qhg7 := hg7; try simp only [Bool.and_eq_true, Bool.or_eq_true, Bool.not_eq_true', Bool.not_eq_false', Bool.and_eq_false_iff, Bool.or_eq_false_iff, decide_eq_true_eq, decide_eq_false_iff_not, beq_iff_eq, bne_iff_ne, beq_eq_false_iff_ne, bne_eq_false_iff_eq] at qhg7
    exact Ys.pure (fun _ => by kernel_rfl)
  refine Wl.guard (v := Value.bool ((limit p s) != 60)) ((limit p s) != 0) (wantT rfl (by kernel_rfl)) rfl (fun hg8 => ?_) ?_
  · have qhg8 := hg8; try simp only [Bool.and_eq_true, Bool.or_eq_true, Bool.not_eq_true', Bool.not_eq_false', Bool.and_eq_false_iff, Bool.or_eq_false_iff, decide_eq_true_eq, decide_eq_false_iff_not, beq_iff_eq, bne_iff_ne, beq_eq_false_iff_ne, bne_eq_false_iff_eq] at qhg8
    refine Ys.at (t := 18) (v0 := Value.int .u64 (limit p s)) (lz (g := (limit p s) != 0) (u := undef) hg8 (by kernel_rfl)) ?_
    exact Ys.pure (fun _ => by kernel_rfl)
  refine Wl.ys (v := Value.bool (((limit p s) != 0) && ((limit p s) != 60))) rfl rfl (Ys.and (e := (limit p s) != 0) (b := (limit p s) != 60) rfl (by kernel_rfl) (by kernel_rfl) (by kernel_rfl)) ?_
  refine Wl.ys (v := Value.bool (((limit p s) != 0) && ((limit p s) != 60))) rfl rfl (Ys.pure (fun _ => by kernel_rfl)) ?_
  refine Wl.guard (v := Value.int .u64 (limit p s)) (((limit p s) != 0) && ((limit p s) != 60)) (wantT rfl (by kernel_rfl)) rfl (fun hg9 => ?_) ?_
  · have qhg9 := hg9; try simp only [Bool.and_eq_true, Bool.or_eq_true, Bool.not_eq_true', Bool.not_eq_false', Bool.and_eq_false_iff, Bool.or_eq_false_iff, decide_eq_true_eq, decide_eq_false_iff_not, beq_iff_eq, bne_iff_ne, beq_eq_false_iff_ne, bne_eq_false_iff_eq] at qhg9
    exact Ys.pure (fun _ => by kernel_rfl)
  refine Wl.guard (v := Value.bool ((limit p s) != 240)) (((limit p s) != 0) && ((limit p s) != 60)) (wantT rfl (by kernel_rfl)) rfl (fun hg10 => ?_) ?_
  · have qhg10 := hg10; try simp only [Bool.and_eq_true, Bool.or_eq_true, Bool.not_eq_true', Bool.not_eq_false', Bool.and_eq_false_iff, Bool.or_eq_false_iff, decide_eq_true_eq, decide_eq_false_iff_not, beq_iff_eq, bne_iff_ne, beq_eq_false_iff_ne, bne_eq_false_iff_eq] at qhg10
    refine Ys.at (t := 22) (v0 := Value.int .u64 (limit p s)) (lz (g := ((limit p s) != 0) && ((limit p s) != 60)) (u := undef) hg10 (by kernel_rfl)) ?_
    exact Ys.pure (fun _ => by kernel_rfl)
  refine Wl.ys (v := Value.bool ((((limit p s) != 0) && ((limit p s) != 60)) && ((limit p s) != 240))) rfl rfl (Ys.and (e := ((limit p s) != 0) && ((limit p s) != 60)) (b := (limit p s) != 240) rfl (by kernel_rfl) (by kernel_rfl) (by kernel_rfl)) ?_
  refine Wl.ys (v := Value.bool ((((limit p s) != 0) && ((limit p s) != 60)) && ((limit p s) != 240))) rfl rfl (Ys.pure (fun _ => by kernel_rfl)) ?_
  refine Wl.guard (v := Value.int .u64 (limit p s)) ((((limit p s) != 0) && ((limit p s) != 60)) && ((limit p s) != 240)) (wantT rfl (by kernel_rfl)) rfl (fun hg11 => ?_) ?_
  · have qhg11 := hg11; try simp only [Bool.and_eq_true, Bool.or_eq_true, Bool.not_eq_true', Bool.not_eq_false', Bool.and_eq_false_iff, Bool.or_eq_false_iff, decide_eq_true_eq, decide_eq_false_iff_not, beq_iff_eq, bne_iff_ne, beq_eq_false_iff_ne, bne_eq_false_iff_eq] at qhg11
    exact Ys.pure (fun _ => by kernel_rfl)
  refine Wl.guard (v := Value.bool ((limit p s) != 300)) ((((limit p s) != 0) && ((limit p s) != 60)) && ((limit p s) != 240)) (wantT rfl (by kernel_rfl)) rfl (fun hg12 => ?_) ?_
  · have qhg12 := hg12; try simp only [Bool.and_eq_true, Bool.or_eq_true, Bool.not_eq_true', Bool.not_eq_false', Bool.and_eq_false_iff, Bool.or_eq_false_iff, decide_eq_true_eq, decide_eq_false_iff_not, beq_iff_eq, bne_iff_ne, beq_eq_false_iff_ne, bne_eq_false_iff_eq] at qhg12
    refine Ys.at (t := 26) (v0 := Value.int .u64 (limit p s)) (lz (g := (((limit p s) != 0) && ((limit p s) != 60)) && ((limit p s) != 240)) (u := undef) hg12 (by kernel_rfl)) ?_
    exact Ys.pure (fun _ => by kernel_rfl)
  refine Wl.ys (v := Value.bool (((((limit p s) != 0) && ((limit p s) != 60)) && ((limit p s) != 240)) && ((limit p s) != 300))) rfl rfl (Ys.and (e := (((limit p s) != 0) && ((limit p s) != 60)) && ((limit p s) != 240)) (b := (limit p s) != 300) rfl (by kernel_rfl) (by kernel_rfl) (by kernel_rfl)) ?_
  refine Wl.ys (v := Value.bool (((((limit p s) != 0) && ((limit p s) != 60)) && ((limit p s) != 240)) && ((limit p s) != 300))) rfl rfl (Ys.pure (fun _ => by kernel_rfl)) ?_
  refine Wl.guard (v := Value.int .u64 (limit p s)) (((((limit p s) != 0) && ((limit p s) != 60)) && ((limit p s) != 240)) && ((limit p s) != 300)) (wantT rfl (by kernel_rfl)) rfl (fun hg13 => ?_) ?_
  · have qhg13 := hg13; try simp only [Bool.and_eq_true, Bool.or_eq_true, Bool.not_eq_true', Bool.not_eq_false', Bool.and_eq_false_iff, Bool.or_eq_false_iff, decide_eq_true_eq, decide_eq_false_iff_not, beq_iff_eq, bne_iff_ne, beq_eq_false_iff_ne, bne_eq_false_iff_eq] at qhg13
    exact Ys.pure (fun _ => by kernel_rfl)
  refine Wl.guard (v := Value.bool ((limit p s) != 7440)) (((((limit p s) != 0) && ((limit p s) != 60)) && ((limit p s) != 240)) && ((limit p s) != 300)) (wantT rfl (by kernel_rfl)) rfl (fun hg14 => ?_) ?_
  · have qhg14 := hg14; try simp only [Bool.and_eq_true, Bool.or_eq_true, Bool.not_eq_true', Bool.not_eq_false', Bool.and_eq_false_iff, Bool.or_eq_false_iff, decide_eq_true_eq, decide_eq_false_iff_not, beq_iff_eq, bne_iff_ne, beq_eq_false_iff_ne, bne_eq_false_iff_eq] at qhg14
    refine Ys.at (t := 30) (v0 := Value.int .u64 (limit p s)) (lz (g := ((((limit p s) != 0) && ((limit p s) != 60)) && ((limit p s) != 240)) && ((limit p s) != 300)) (u := undef) hg14 (by kernel_rfl)) ?_
    exact Ys.pure (fun _ => by kernel_rfl)
  refine Wl.ys (v := Value.bool ((((((limit p s) != 0) && ((limit p s) != 60)) && ((limit p s) != 240)) && ((limit p s) != 300)) && ((limit p s) != 7440))) rfl rfl (Ys.and (e := ((((limit p s) != 0) && ((limit p s) != 60)) && ((limit p s) != 240)) && ((limit p s) != 300)) (b := (limit p s) != 7440) rfl (by kernel_rfl) (by kernel_rfl) (by kernel_rfl)) ?_
  refine Wl.nil ?_
  refine hK6 _ _ ?_
  refine W.cond ((((((limit p s) != 0) && ((limit p s) != 60)) && ((limit p s) != 240)) && ((limit p s) != 300)) && ((limit p s) != 7440)) (by kernel_rfl) (fun h15 => ?_) (fun h16 => ?_)
  · have qh15 := h15; try simp only [Bool.and_eq_true, Bool.or_eq_true, Bool.not_eq_true', Bool.not_eq_false', Bool.and_eq_false_iff, Bool.or_eq_false_iff, decide_eq_true_eq, decide_eq_false_iff_not, beq_iff_eq, bne_iff_ne, beq_eq_false_iff_ne, bne_eq_false_iff_eq] at qh15
    refine W.seq (fun K17 hK17 => ?_)
    refine W.region ?_
    refine Wl.ys (v := Value.bool false) rfl rfl (Ys.pure (fun _ => by kernel_rfl)) ?_
    refine Wl.nil ?_
    refine hK17 _ _ ?_
    refine W.ret ?_
    show ∀ w_, _ → bodyPost Try.prog Try.f9 _ Exit.ret _ w_
    exact fun w_ hS_ => ret1 rfl (RV.tmp (v := Value.bool false) (by kernel_rfl)) hS_ ⟨by clear hK1 hK2 hK3 hK4 hK5 hK6 hK17; refine congrArg Ending.returned ?_; exact absurd (h15.symm.trans (vals p s)) (by decide), hS_.below⟩
  · have qh16 := h16; try simp only [Bool.and_eq_true, Bool.or_eq_true, Bool.not_eq_true', Bool.not_eq_false', Bool.and_eq_false_iff, Bool.or_eq_false_iff, decide_eq_true_eq, decide_eq_false_iff_not, beq_iff_eq, bne_iff_ne, beq_eq_false_iff_ne, bne_eq_false_iff_eq] at qh16
    refine W.skip' ?_
    refine hK5 _ _ ?_
    refine W.seq (fun K18 hK18 => ?_)
    refine W.region ?_
    refine Wl.ys (v := Value.agg ([Value.bool false, Value.bool false, Value.bool false, Value.bool false, Value.bool false]).toArray) rfl rfl (Ys.pure (fun _ => by kernel_rfl)) ?_
    refine Wl.ys (v := Value.int .u8 n) rfl rfl (Ys.pure (fun _ => by kernel_rfl)) ?_
    refine Wl.ys (v := Value.agg ([Value.bool ((next (St.mk false false false false false) n true).a), Value.bool ((next (St.mk false false false false false) n true).b), Value.bool ((next (St.mk false false false false false) n true).c), Value.bool ((next (St.mk false false false false false) n true).d), Value.bool ((next (St.mk false false false false false) n true).e)]).toArray) rfl rfl (Ys.call (k := 23) (args := #[Value.agg ([Value.bool false, Value.bool false, Value.bool false, Value.bool false, Value.bool false]).toArray, Value.int .u8 n, Value.bool true]) (fun _ => by kernel_rfl) (fun _ hSc => next_c (St.mk false false false false false) n true _)) ?_
    refine Wl.alloc (z := Value.agg ([Value.bool false, Value.bool false, Value.bool false, Value.bool false, Value.bool false]).toArray) (cs := [Value.bool false, Value.bool false, Value.bool false, Value.bool false, Value.bool false]) rfl rfl rfl Try.zeroValue40 rfl (fun p8 => ?_)
    refine Wl.storeN (b := p8) (o' := 0) (i := 0) (cs := [Value.bool false, Value.bool false, Value.bool false, Value.bool false, Value.bool false]) (vs := [Value.bool ((next (St.mk false false false false false) n true).a), Value.bool ((next (St.mk false false false false false) n true).b), Value.bool ((next (St.mk false false false false false) n true).c), Value.bool ((next (St.mk false false false false false) n true).d), Value.bool ((next (St.mk false false false false false) n true).e)]) (cs' := [Value.bool ((next (St.mk false false false false false) n true).a), Value.bool ((next (St.mk false false false false false) n true).b), Value.bool ((next (St.mk false false false false false) n true).c), Value.bool ((next (St.mk false false false false false) n true).d), Value.bool ((next (St.mk false false false false false) n true).e)]) (L' := [⟨p8, [Value.bool ((next (St.mk false false false false false) n true).a), Value.bool ((next (St.mk false false false false false) n true).b), Value.bool ((next (St.mk false false false false false) n true).c), Value.bool ((next (St.mk false false false false false) n true).d), Value.bool ((next (St.mk false false false false false) n true).e)], 40⟩, ⟨p4, [Value.bool s.a, Value.bool s.b, Value.bool s.c, Value.bool s.d, Value.bool s.e], 40⟩]) rfl rfl rfl (by kernel_rfl) (by kernel_rfl) Try.sizeOf40 (by simp [Value.oneCell']) rfl (by simp) rfl rfl ?_
    refine Wl.nil ?_
    refine hK18 _ _ ?_
    refine W.seq (fun K19 hK19 => ?_)
    refine W.region ?_
    refine Wl.ys (v := Value.agg ([Value.bool ((next (St.mk false false false false false) n true).a), Value.bool ((next (St.mk false false false false false) n true).b), Value.bool ((next (St.mk false false false false false) n true).c), Value.bool ((next (St.mk false false false false false) n true).d), Value.bool ((next (St.mk false false false false false) n true).e)]).toArray) rfl rfl (Ys.loadN (b := p8) (o' := 0) (i := 0) (cs := [Value.bool ((next (St.mk false false false false false) n true).a), Value.bool ((next (St.mk false false false false false) n true).b), Value.bool ((next (St.mk false false false false false) n true).c), Value.bool ((next (St.mk false false false false false) n true).d), Value.bool ((next (St.mk false false false false false) n true).e)]) (vs := [Value.bool ((next (St.mk false false false false false) n true).a), Value.bool ((next (St.mk false false false false false) n true).b), Value.bool ((next (St.mk false false false false false) n true).c), Value.bool ((next (St.mk false false false false false) n true).d), Value.bool ((next (St.mk false false false false false) n true).e)]) rfl (by kernel_rfl) Try.isAgg40 Try.sizeOf40 rfl rfl rfl) ?_
    refine Wl.ys (v := Value.int .u8 n) rfl rfl (Ys.pure (fun _ => by kernel_rfl)) ?_
    refine Wl.ys (v := Value.agg ([Value.bool ((next (next (St.mk false false false false false) n true) n true).a), Value.bool ((next (next (St.mk false false false false false) n true) n true).b), Value.bool ((next (next (St.mk false false false false false) n true) n true).c), Value.bool ((next (next (St.mk false false false false false) n true) n true).d), Value.bool ((next (next (St.mk false false false false false) n true) n true).e)]).toArray) rfl rfl (Ys.call (k := 23) (args := #[Value.agg ([Value.bool ((next (St.mk false false false false false) n true).a), Value.bool ((next (St.mk false false false false false) n true).b), Value.bool ((next (St.mk false false false false false) n true).c), Value.bool ((next (St.mk false false false false false) n true).d), Value.bool ((next (St.mk false false false false false) n true).e)]).toArray, Value.int .u8 n, Value.bool true]) (fun _ => by kernel_rfl) (fun _ hSc => next_c (next (St.mk false false false false false) n true) n true _)) ?_
    refine Wl.alloc (z := Value.agg ([Value.bool false, Value.bool false, Value.bool false, Value.bool false, Value.bool false]).toArray) (cs := [Value.bool false, Value.bool false, Value.bool false, Value.bool false, Value.bool false]) rfl rfl rfl Try.zeroValue40 rfl (fun p9 => ?_)
    refine Wl.storeN (b := p9) (o' := 0) (i := 0) (cs := [Value.bool false, Value.bool false, Value.bool false, Value.bool false, Value.bool false]) (vs := [Value.bool ((next (next (St.mk false false false false false) n true) n true).a), Value.bool ((next (next (St.mk false false false false false) n true) n true).b), Value.bool ((next (next (St.mk false false false false false) n true) n true).c), Value.bool ((next (next (St.mk false false false false false) n true) n true).d), Value.bool ((next (next (St.mk false false false false false) n true) n true).e)]) (cs' := [Value.bool ((next (next (St.mk false false false false false) n true) n true).a), Value.bool ((next (next (St.mk false false false false false) n true) n true).b), Value.bool ((next (next (St.mk false false false false false) n true) n true).c), Value.bool ((next (next (St.mk false false false false false) n true) n true).d), Value.bool ((next (next (St.mk false false false false false) n true) n true).e)]) (L' := [⟨p9, [Value.bool ((next (next (St.mk false false false false false) n true) n true).a), Value.bool ((next (next (St.mk false false false false false) n true) n true).b), Value.bool ((next (next (St.mk false false false false false) n true) n true).c), Value.bool ((next (next (St.mk false false false false false) n true) n true).d), Value.bool ((next (next (St.mk false false false false false) n true) n true).e)], 40⟩, ⟨p8, [Value.bool ((next (St.mk false false false false false) n true).a), Value.bool ((next (St.mk false false false false false) n true).b), Value.bool ((next (St.mk false false false false false) n true).c), Value.bool ((next (St.mk false false false false false) n true).d), Value.bool ((next (St.mk false false false false false) n true).e)], 40⟩, ⟨p4, [Value.bool s.a, Value.bool s.b, Value.bool s.c, Value.bool s.d, Value.bool s.e], 40⟩]) rfl rfl rfl (by kernel_rfl) (by kernel_rfl) Try.sizeOf40 (by simp [Value.oneCell']) rfl (by simp) rfl rfl ?_
    refine Wl.nil ?_
    refine hK19 _ _ ?_
    refine W.seq (fun K20 hK20 => ?_)
    refine W.region ?_
    refine Wl.ys (v := Value.agg ([Value.bool ((next (next (St.mk false false false false false) n true) n true).a), Value.bool ((next (next (St.mk false false false false false) n true) n true).b), Value.bool ((next (next (St.mk false false false false false) n true) n true).c), Value.bool ((next (next (St.mk false false false false false) n true) n true).d), Value.bool ((next (next (St.mk false false false false false) n true) n true).e)]).toArray) rfl rfl (Ys.loadN (b := p9) (o' := 0) (i := 0) (cs := [Value.bool ((next (next (St.mk false false false false false) n true) n true).a), Value.bool ((next (next (St.mk false false false false false) n true) n true).b), Value.bool ((next (next (St.mk false false false false false) n true) n true).c), Value.bool ((next (next (St.mk false false false false false) n true) n true).d), Value.bool ((next (next (St.mk false false false false false) n true) n true).e)]) (vs := [Value.bool ((next (next (St.mk false false false false false) n true) n true).a), Value.bool ((next (next (St.mk false false false false false) n true) n true).b), Value.bool ((next (next (St.mk false false false false false) n true) n true).c), Value.bool ((next (next (St.mk false false false false false) n true) n true).d), Value.bool ((next (next (St.mk false false false false false) n true) n true).e)]) rfl (by kernel_rfl) Try.isAgg40 Try.sizeOf40 rfl rfl rfl) ?_
    refine Wl.ys (v := Value.int .u64 (limit 6 (next (next (St.mk false false false false false) n true) n true))) rfl rfl (Ys.call (k := 25) (args := #[Value.int .u8 6, Value.agg ([Value.bool ((next (next (St.mk false false false false false) n true) n true).a), Value.bool ((next (next (St.mk false false false false false) n true) n true).b), Value.bool ((next (next (St.mk false false false false false) n true) n true).c), Value.bool ((next (next (St.mk false false false false false) n true) n true).d), Value.bool ((next (next (St.mk false false false false false) n true) n true).e)]).toArray]) (fun _ => by kernel_rfl) (fun _ hSc => limit_c 6 (next (next (St.mk false false false false false) n true) n true) _)) ?_
    refine Wl.ys (v := Value.bool ((limit 6 (next (next (St.mk false false false false false) n true) n true)) == 240)) rfl rfl (Ys.pure (fun _ => by kernel_rfl)) ?_
    refine Wl.ys (v := Value.bool ((limit 6 (next (next (St.mk false false false false false) n true) n true)) == 240)) rfl rfl (Ys.pure (fun _ => by kernel_rfl)) ?_
    refine Wl.guard (v := Value.int .u64 (limit p s)) ((limit 6 (next (next (St.mk false false false false false) n true) n true)) == 240) (wantT rfl (by kernel_rfl)) rfl (fun hg21 => ?_) ?_
    · have qhg21 := hg21; try simp only [Bool.and_eq_true, Bool.or_eq_true, Bool.not_eq_true', Bool.not_eq_false', Bool.and_eq_false_iff, Bool.or_eq_false_iff, decide_eq_true_eq, decide_eq_false_iff_not, beq_iff_eq, bne_iff_ne, beq_eq_false_iff_ne, bne_eq_false_iff_eq] at qhg21
      exact Ys.pure (fun _ => by kernel_rfl)
    refine Wl.guard (v := Value.bool ((limit p s) == 0)) ((limit 6 (next (next (St.mk false false false false false) n true) n true)) == 240) (wantT rfl (by kernel_rfl)) rfl (fun hg22 => ?_) ?_
    · have qhg22 := hg22; try simp only [Bool.and_eq_true, Bool.or_eq_true, Bool.not_eq_true', Bool.not_eq_false', Bool.and_eq_false_iff, Bool.or_eq_false_iff, decide_eq_true_eq, decide_eq_false_iff_not, beq_iff_eq, bne_iff_ne, beq_eq_false_iff_ne, bne_eq_false_iff_eq] at qhg22
      refine Ys.at (t := 43) (v0 := Value.int .u64 (limit p s)) (lz (g := (limit 6 (next (next (St.mk false false false false false) n true) n true)) == 240) (u := undef) hg22 (by kernel_rfl)) ?_
      exact Ys.pure (fun _ => by kernel_rfl)
    refine Wl.guard (v := Value.int .u8 p) ((limit 6 (next (next (St.mk false false false false false) n true) n true)) == 240) (wantT rfl (by kernel_rfl)) rfl (fun hg23 => ?_) ?_
    · have qhg23 := hg23; try simp only [Bool.and_eq_true, Bool.or_eq_true, Bool.not_eq_true', Bool.not_eq_false', Bool.and_eq_false_iff, Bool.or_eq_false_iff, decide_eq_true_eq, decide_eq_false_iff_not, beq_iff_eq, bne_iff_ne, beq_eq_false_iff_ne, bne_eq_false_iff_eq] at qhg23
      exact Ys.pure (fun _ => by kernel_rfl)
    refine Wl.guard (v := Value.bool (p != 1)) ((limit 6 (next (next (St.mk false false false false false) n true) n true)) == 240) (wantT rfl (by kernel_rfl)) rfl (fun hg24 => ?_) ?_
    · have qhg24 := hg24; try simp only [Bool.and_eq_true, Bool.or_eq_true, Bool.not_eq_true', Bool.not_eq_false', Bool.and_eq_false_iff, Bool.or_eq_false_iff, decide_eq_true_eq, decide_eq_false_iff_not, beq_iff_eq, bne_iff_ne, beq_eq_false_iff_ne, bne_eq_false_iff_eq] at qhg24
      refine Ys.at (t := 45) (v0 := Value.int .u8 p) (lz (g := (limit 6 (next (next (St.mk false false false false false) n true) n true)) == 240) (u := undef) hg24 (by kernel_rfl)) ?_
      exact Ys.pure (fun _ => by kernel_rfl)
    refine Wl.guard (v := Value.bool (p != 1)) ((limit 6 (next (next (St.mk false false false false false) n true) n true)) == 240) (wantT rfl (by kernel_rfl)) rfl (fun hg25 => ?_) ?_
    · have qhg25 := hg25; try simp only [Bool.and_eq_true, Bool.or_eq_true, Bool.not_eq_true', Bool.not_eq_false', Bool.and_eq_false_iff, Bool.or_eq_false_iff, decide_eq_true_eq, decide_eq_false_iff_not, beq_iff_eq, bne_iff_ne, beq_eq_false_iff_ne, bne_eq_false_iff_eq] at qhg25
      refine Ys.at (t := 46) (v0 := Value.bool (p != 1)) (lz (g := (limit 6 (next (next (St.mk false false false false false) n true) n true)) == 240) (u := undef) hg25 (by kernel_rfl)) ?_
      exact Ys.pure (fun _ => by kernel_rfl)
    refine Wl.guard (v := Value.int .u8 p) (((limit 6 (next (next (St.mk false false false false false) n true) n true)) == 240) && (p != 1)) (wantTz rfl rfl (by kernel_rfl)) rfl (fun hg26 => ?_) ?_
    · have qhg26 := hg26; try simp only [Bool.and_eq_true, Bool.or_eq_true, Bool.not_eq_true', Bool.not_eq_false', Bool.and_eq_false_iff, Bool.or_eq_false_iff, decide_eq_true_eq, decide_eq_false_iff_not, beq_iff_eq, bne_iff_ne, beq_eq_false_iff_ne, bne_eq_false_iff_eq] at qhg26
      exact Ys.pure (fun _ => by kernel_rfl)
    refine Wl.guard (v := Value.bool (p != 17)) (((limit 6 (next (next (St.mk false false false false false) n true) n true)) == 240) && (p != 1)) (wantTz rfl rfl (by kernel_rfl)) rfl (fun hg27 => ?_) ?_
    · have qhg27 := hg27; try simp only [Bool.and_eq_true, Bool.or_eq_true, Bool.not_eq_true', Bool.not_eq_false', Bool.and_eq_false_iff, Bool.or_eq_false_iff, decide_eq_true_eq, decide_eq_false_iff_not, beq_iff_eq, bne_iff_ne, beq_eq_false_iff_ne, bne_eq_false_iff_eq] at qhg27
      refine Ys.at (t := 48) (v0 := Value.int .u8 p) (lz (g := ((limit 6 (next (next (St.mk false false false false false) n true) n true)) == 240) && (p != 1)) (u := undef) hg27 (by kernel_rfl)) ?_
      exact Ys.pure (fun _ => by kernel_rfl)
    refine Wl.guard (v := Value.bool ((p != 1) && (p != 17))) ((limit 6 (next (next (St.mk false false false false false) n true) n true)) == 240) (wantT rfl (by kernel_rfl)) rfl (fun hg28 => ?_) ?_
    · have qhg28 := hg28; try simp only [Bool.and_eq_true, Bool.or_eq_true, Bool.not_eq_true', Bool.not_eq_false', Bool.and_eq_false_iff, Bool.or_eq_false_iff, decide_eq_true_eq, decide_eq_false_iff_not, beq_iff_eq, bne_iff_ne, beq_eq_false_iff_ne, bne_eq_false_iff_eq] at qhg28
      refine Ys.at (t := 47) (v0 := Value.bool (p != 1)) (lz (g := (limit 6 (next (next (St.mk false false false false false) n true) n true)) == 240) (u := undef) hg28 (by kernel_rfl)) ?_
      refine Ys.at (t := 49) (v0 := (bif p != 1 then Value.bool (p != 17) else undef)) (lz2 (g := (limit 6 (next (next (St.mk false false false false false) n true) n true)) == 240) hg28 (by kernel_rfl)) ?_
      exact Ys.and (e := p != 1) (b := p != 17) rfl (by kernel_rfl) (by kernel_rfl) (by kernel_rfl)
    refine Wl.guard (v := Value.bool ((p != 1) && (p != 17))) ((limit 6 (next (next (St.mk false false false false false) n true) n true)) == 240) (wantT rfl (by kernel_rfl)) rfl (fun hg29 => ?_) ?_
    · have qhg29 := hg29; try simp only [Bool.and_eq_true, Bool.or_eq_true, Bool.not_eq_true', Bool.not_eq_false', Bool.and_eq_false_iff, Bool.or_eq_false_iff, decide_eq_true_eq, decide_eq_false_iff_not, beq_iff_eq, bne_iff_ne, beq_eq_false_iff_ne, bne_eq_false_iff_eq] at qhg29
      refine Ys.at (t := 50) (v0 := Value.bool ((p != 1) && (p != 17))) (lz (g := (limit 6 (next (next (St.mk false false false false false) n true) n true)) == 240) (u := undef) hg29 (by kernel_rfl)) ?_
      exact Ys.pure (fun _ => by kernel_rfl)
    refine Wl.guard (v := Value.int .u8 p) (((limit 6 (next (next (St.mk false false false false false) n true) n true)) == 240) && ((p != 1) && (p != 17))) (wantTz rfl rfl (by kernel_rfl)) rfl (fun hg30 => ?_) ?_
    · have qhg30 := hg30; try simp only [Bool.and_eq_true, Bool.or_eq_true, Bool.not_eq_true', Bool.not_eq_false', Bool.and_eq_false_iff, Bool.or_eq_false_iff, decide_eq_true_eq, decide_eq_false_iff_not, beq_iff_eq, bne_iff_ne, beq_eq_false_iff_ne, bne_eq_false_iff_eq] at qhg30
      exact Ys.pure (fun _ => by kernel_rfl)
    refine Wl.guard (v := Value.bool (p != 6)) (((limit 6 (next (next (St.mk false false false false false) n true) n true)) == 240) && ((p != 1) && (p != 17))) (wantTz rfl rfl (by kernel_rfl)) rfl (fun hg31 => ?_) ?_
    · have qhg31 := hg31; try simp only [Bool.and_eq_true, Bool.or_eq_true, Bool.not_eq_true', Bool.not_eq_false', Bool.and_eq_false_iff, Bool.or_eq_false_iff, decide_eq_true_eq, decide_eq_false_iff_not, beq_iff_eq, bne_iff_ne, beq_eq_false_iff_ne, bne_eq_false_iff_eq] at qhg31
      refine Ys.at (t := 52) (v0 := Value.int .u8 p) (lz (g := ((limit 6 (next (next (St.mk false false false false false) n true) n true)) == 240) && ((p != 1) && (p != 17))) (u := undef) hg31 (by kernel_rfl)) ?_
      exact Ys.pure (fun _ => by kernel_rfl)
    refine Wl.guard (v := Value.bool (((p != 1) && (p != 17)) && (p != 6))) ((limit 6 (next (next (St.mk false false false false false) n true) n true)) == 240) (wantT rfl (by kernel_rfl)) rfl (fun hg32 => ?_) ?_
    · have qhg32 := hg32; try simp only [Bool.and_eq_true, Bool.or_eq_true, Bool.not_eq_true', Bool.not_eq_false', Bool.and_eq_false_iff, Bool.or_eq_false_iff, decide_eq_true_eq, decide_eq_false_iff_not, beq_iff_eq, bne_iff_ne, beq_eq_false_iff_ne, bne_eq_false_iff_eq] at qhg32
      refine Ys.at (t := 51) (v0 := Value.bool ((p != 1) && (p != 17))) (lz (g := (limit 6 (next (next (St.mk false false false false false) n true) n true)) == 240) (u := undef) hg32 (by kernel_rfl)) ?_
      refine Ys.at (t := 53) (v0 := (bif (p != 1) && (p != 17) then Value.bool (p != 6) else undef)) (lz2 (g := (limit 6 (next (next (St.mk false false false false false) n true) n true)) == 240) hg32 (by kernel_rfl)) ?_
      exact Ys.and (e := (p != 1) && (p != 17)) (b := p != 6) rfl (by kernel_rfl) (by kernel_rfl) (by kernel_rfl)
    refine Wl.guard (v := Value.bool (((limit p s) == 0) == (((p != 1) && (p != 17)) && (p != 6)))) ((limit 6 (next (next (St.mk false false false false false) n true) n true)) == 240) (wantT rfl (by kernel_rfl)) rfl (fun hg33 => ?_) ?_
    · have qhg33 := hg33; try simp only [Bool.and_eq_true, Bool.or_eq_true, Bool.not_eq_true', Bool.not_eq_false', Bool.and_eq_false_iff, Bool.or_eq_false_iff, decide_eq_true_eq, decide_eq_false_iff_not, beq_iff_eq, bne_iff_ne, beq_eq_false_iff_ne, bne_eq_false_iff_eq] at qhg33
      refine Ys.at (t := 44) (v0 := Value.bool ((limit p s) == 0)) (lz (g := (limit 6 (next (next (St.mk false false false false false) n true) n true)) == 240) (u := undef) hg33 (by kernel_rfl)) ?_
      refine Ys.at (t := 54) (v0 := Value.bool (((p != 1) && (p != 17)) && (p != 6))) (lz (g := (limit 6 (next (next (St.mk false false false false false) n true) n true)) == 240) (u := undef) hg33 (by kernel_rfl)) ?_
      exact Ys.pure (fun _ => by kernel_rfl)
    refine Wl.ys (v := Value.bool (((limit 6 (next (next (St.mk false false false false false) n true) n true)) == 240) && (((limit p s) == 0) == (((p != 1) && (p != 17)) && (p != 6))))) rfl rfl (Ys.and (e := (limit 6 (next (next (St.mk false false false false false) n true) n true)) == 240) (b := ((limit p s) == 0) == (((p != 1) && (p != 17)) && (p != 6))) rfl (by kernel_rfl) (by kernel_rfl) (by kernel_rfl)) ?_
    refine Wl.ys (v := Value.bool (((limit 6 (next (next (St.mk false false false false false) n true) n true)) == 240) && (((limit p s) == 0) == (((p != 1) && (p != 17)) && (p != 6))))) rfl rfl (Ys.pure (fun _ => by kernel_rfl)) ?_
    refine Wl.nil ?_
    refine hK20 _ _ ?_
    refine W.ret ?_
    show ∀ w_, _ → bodyPost Try.prog Try.f9 _ Exit.ret _ w_
    exact fun w_ hS_ => ret1 rfl (RV.tmp (v := Value.bool (((limit 6 (next (next (St.mk false false false false false) n true) n true)) == 240) && (((limit p s) == 0) == (((p != 1) && (p != 17)) && (p != 6))))) (by kernel_rfl)) hS_ ⟨by clear hK1 hK2 hK3 hK4 hK5 hK6 hK18 hK19 hK20; refine congrArg Ending.returned ?_; exact congrArg Value.bool (fin_ p s n hn), hS_.below⟩

theorem own : ownKnob Try.prog.godebug = none := by kernel_rfl
theorem laidOut : laidOutB Try.prog = true := by kernel_rfl
set_option maxRecDepth 100000 in
set_option maxHeartbeats 400000 in
theorem lifted (os : Os) (started : os.Started) (H : Type) (enc : TypeId × Value → H) :
    ReturnsInHanded {} Try.checked os 9 .any (Rows.trackLastsSpec.pre6 enc Try.prog Try.f9 Rows.trackLastsRow.domain false) (Rows.trackLastsSpec.post enc Try.prog Try.f9 false true false false) := by
  refine returnsInHanded_of_change (C := Try.checked) own started (by kernel_rfl) Try.func9
    (ChangeSpec.witness6 (enc := enc) (C := Try.checked) false ⟨#[], #[Value.int .u8 0, Value.agg ([Value.bool false, Value.bool false, Value.bool false, Value.bool false, Value.bool false]).toArray, Value.int .u8 0], []⟩ 12 (by kernel_rfl) (by kernel_rfl) (by kernel_rfl) (by kernel_rfl)) ?_
  intro W base args ds gs before hval0 hW hcnd _
  have hval : ∀ (j : Nat) t v, Try.f9.params[j]? = some t → args[j]? = some v → Value.okWide Try.prog W .any base t v := hval0
  have hW' := hW
  obtain ⟨p, q, hA0, hV, rfl, hfz, hnd⟩ := hW
  have hA : DataW.TrodAll enc Try.prog W 0 (fun _ => true) true Try.f9.params.toList args.toList ds p := hA0
  rw [Try.params9] at hA hval
  obtain ⟨v0, vs0, d0, ds0, p0, q0, hargs, rfl, rfl, h0, r0⟩ := trodAll_cons hA
  obtain ⟨v1, vs1, d1, ds1, p1, q1, rfl, rfl, rfl, h1, r1⟩ := trodAll_cons r0
  obtain ⟨v2, vs2, d2, ds2, p2, q2, rfl, rfl, rfl, h2, r2⟩ := trodAll_cons r1
  obtain ⟨rfl, rfl, rfl⟩ := trodAll_nil r2
  obtain rfl : args = #[v0, v1, v2] := by cases args; simp_all
  obtain ⟨rfl, rfl⟩ := trodVars_none hV
  have k0 := h0
  have lt0 : ∀ x ∈ p0, x.block < W.heap.size := by obtain ⟨m, hm⟩ := k0; exact DataW.trod_lt m _ _ _ hm
  obtain ⟨p, rfl, rfl, rfl, wf0⟩ := open_int Try.underlying5 (hval 0 5 v0 rfl rfl) h0
  have bd0 := bounds_u8 wf0
  have k1 := h1
  have lt1 : ∀ x ∈ p1, x.block < W.heap.size := by obtain ⟨m, hm⟩ := k1; exact DataW.trod_lt m _ _ _ hm
  obtain ⟨cs1, rfl, hz1⟩ : ∃ cs, v1 = .agg cs ∧ cs.size = Try.prog.cellsOf 40 := by have hq := (hval 1 40 v1 rfl rfl); simp only [Value.okWide, Try.underlying40] at hq; obtain ⟨cs, e1, e2, _⟩ := hq; exact ⟨cs, e1, e2⟩
  obtain ⟨l1, rfl⟩ : ∃ l : List Value, cs1 = l.toArray := ⟨cs1.toList, by simp⟩
  obtain ⟨m1, hm1⟩ := h1
  have F1 := flat_ok (P := Try.prog) 8 40 [.bool, .bool, .bool, .bool, .bool] (by kernel_rfl) _ _ _ hm1
  simp only [F2_cons, F2_nil, leafOK, Value.cells] at F1
  obtain ⟨_, _, rfl, ⟨a, rfl⟩, _, _, rfl, ⟨b, rfl⟩, _, _, rfl, ⟨c, rfl⟩, _, _, rfl, ⟨d, rfl⟩, _, _, rfl, ⟨e, rfl⟩, rfl⟩ := F1
  have k2 := h2
  have lt2 : ∀ x ∈ p2, x.block < W.heap.size := by obtain ⟨m, hm⟩ := k2; exact DataW.trod_lt m _ _ _ hm
  obtain ⟨n, rfl, rfl, rfl, wf2⟩ := open_int Try.underlying5 (hval 2 5 v2 rfl rfl) h2
  have bd2 := bounds_u8 wf2
  clear hA0 hval0
  refine Calls.mono (walk p ⟨a, b, c, d, e⟩ n bd2 W) fun e W' ⟨he, bel⟩ => ?_
  subst he
  exact ⟨_, rfl, _, _, _, [], _, [], hW', trodAll_mk1 (shut_bool Try.underlying4 _), (trodAll_cons_mk (Below.trod laidOut (by kernel_rfl) (of_decide_eq_true (by kernel_rfl)) k0 bel lt0) (trodAll_cons_mk (Below.trod laidOut (by kernel_rfl) (of_decide_eq_true (by kernel_rfl)) k1 bel lt1) (trodAll_cons_mk (Below.trod laidOut (by kernel_rfl) (of_decide_eq_true (by kernel_rfl)) k2 bel lt2) trodAll_mk0))), rfl, bel.frame _, fun h => by cases h⟩

theorem over : Rows.trackLastsRow.holds Try.pinned (OpenSpec.ofChange Rows.trackLastsSpec) :=
  OpenClaim.holds_of_wide 9 Try.f9 rfl rfl rfl rfl rfl rfl rfl ⟨rfl, rfl, rfl, rfl, rfl⟩ rfl rfl rfl rfl rfl (by kernel_rfl) Try.func9 (by kernel_rfl)
    (of_decide_eq_true (by kernel_rfl)) (by unfold Func.isWrapper; first | (rw [if_pos (by decide +kernel)]; kernel_rfl) | (rw [if_neg (by decide +kernel)]; exact ⟨rfl, rfl⟩))
    (fun os started H enc _ => lifted os started H enc)

theorem proved : Rows.TrackLastsSaid :=
  over
end Go.Proofs.Ytegdeobjfdiilaa.TrackLasts
