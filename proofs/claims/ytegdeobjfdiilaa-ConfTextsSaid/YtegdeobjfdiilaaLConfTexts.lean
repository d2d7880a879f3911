/-
  ConfTexts: called with any arguments the law returns true and its arguments read as before. No condition.
-/
import Derived.Test.YtegdeobjfdiilaaConf3
import Derived.Test.YtegdeobjfdiilaaEq
set_option linter.unusedVariables false
set_option linter.unusedSimpArgs false
namespace Go.Proofs.Ytegdeobjfdiilaa.ConfTexts
open Go.ChangeShapes Go.WideShapes Go.ChangeAt Go.RowKit Base Conf

set_option maxHeartbeats 1000000 in
theorem walk (s : ByteArray) (w : World) (hs : s.size ≤ maxLen) : Calls Try.prog 5 #[Value.string s] w (Ret w (.bool true)) := by
  refine calls_W (M := []) (L := []) (n := 15) Try.func5 rfl rfl (by simp) (Mem.refl _) ?_
  refine W.seq (fun K1 hK1 => ?_)
  refine W.region ?_
  refine Wl.ys (v := Value.bool false) rfl rfl (Ys.pure (fun _ => by kernel_rfl)) ?_
  refine Wl.nil ?_
  refine hK1 _ _ ?_
  refine W.seq (fun K2 hK2 => ?_)
  refine W.seq (fun K3 hK3 => ?_)
  refine W.region ?_
  refine Wl.ys (v := Value.bool true) rfl rfl (Ys.call (k := 12) (args := #[]) (fun _ => by kernel_rfl) (fun _ hSc => speaks_c _)) ?_
  refine Wl.ys (v := Value.bool false) rfl rfl (Ys.pure (fun _ => by kernel_rfl)) ?_
  refine Wl.nil ?_
  refine hK3 _ _ ?_
  refine W.condF (by kernel_rfl) ?_
  refine W.skip' ?_
  refine hK2 _ _ ?_
  refine W.seq (fun K4 hK4 => ?_)
  refine W.region ?_
  refine Wl.ys (v := Value.string s) rfl rfl (Ys.pure (fun _ => by kernel_rfl)) ?_
  refine Wl.ys (v := Value.int .i64 ((s.size : Nat) : Int)) rfl rfl (Ys.pure (fun _ => by kernel_rfl)) ?_
  refine Wl.ys (v := Value.bool (decide (((s.size : Nat) : Int) > 1000))) rfl rfl (Ys.pure (fun _ => by kernel_rfl)) ?_
  refine Wl.ys (v := Value.bool (decide (((s.size : Nat) : Int) > 1000))) rfl rfl (Ys.pure (fun _ => by kernel_rfl)) ?_
  refine Wl.guard (v := Value.string s) (!(decide (((s.size : Nat) : Int) > 1000))) (wantF rfl (by kernel_rfl)) rfl (fun hg5 => ?_) ?_
  · have qhg5 := hg5; try simp only [Bool.and_eq_true, Bool.or_eq_true, Bool.not_eq_true', Bool.not_eq_false', Bool.and_eq_false_iff, Bool.or_eq_false_iff, decide_eq_true_eq, decide_eq_false_iff_not, beq_iff_eq, bne_iff_ne, beq_eq_false_iff_ne, bne_eq_false_iff_eq] at qhg5
    exact Ys.pure (fun _ => by kernel_rfl)
  refine Wl.guard (v := Value.bool (uuid s)) (!(decide (((s.size : Nat) : Int) > 1000))) (wantF rfl (by kernel_rfl)) rfl (fun hg6 => ?_) ?_
  · have qhg6 := hg6; try simp only [Bool.and_eq_true, Bool.or_eq_true, Bool.not_eq_true', Bool.not_eq_false', Bool.and_eq_false_iff, Bool.or_eq_false_iff, decide_eq_true_eq, decide_eq_false_iff_not, beq_iff_eq, bne_iff_ne, beq_eq_false_iff_ne, bne_eq_false_iff_eq] at qhg6
    refine Ys.at (t := 9) (v0 := Value.string s) (lz (g := !(decide (((s.size : Nat) : Int) > 1000))) (u := undef) hg6 (by kernel_rfl)) ?_
    exact Ys.call (k := 18) (args := #[Value.string s]) (fun _ => by kernel_rfl) (fun _ hSc => uuid_c s _ (by first | assumption | omega))
  refine Wl.guard (v := Value.string s) (!(decide (((s.size : Nat) : Int) > 1000))) (wantF rfl (by kernel_rfl)) rfl (fun hg7 => ?_) ?_
  · have qhg7 := hg7; try simp only [Bool.and_eq_true, Bool.or_eq_true, Bool.not_eq_true', Bool.not_eq_false', Bool.and_eq_false_iff, Bool.or_eq_false_iff, decide_eq_true_eq, decide_eq_false_iff_not, beq_iff_eq, bne_iff_ne, beq_eq_false_iff_ne, bne_eq_false_iff_eq] at qhg7
    exact Ys.pure (fun _ => by kernel_rfl)
  refine Wl.guard (v := Value.bool (uuid s)) (!(decide (((s.size : Nat) : Int) > 1000))) (wantF rfl (by kernel_rfl)) rfl (fun hg8 => ?_) ?_
  · have qhg8 := hg8; try simp only [Bool.and_eq_true, Bool.or_eq_true, Bool.not_eq_true', Bool.not_eq_false', Bool.and_eq_false_iff, Bool.or_eq_false_iff, decide_eq_true_eq, decide_eq_false_iff_not, beq_iff_eq, bne_iff_ne, beq_eq_false_iff_ne, bne_eq_false_iff_eq] at qhg8
    refine Ys.at (t := 11) (v0 := Value.string s) (lz (g := !(decide (((s.size : Nat) : Int) > 1000))) (u := undef) hg8 (by kernel_rfl)) ?_
    exact Ys.call (k := 19) (args := #[Value.string s]) (fun _ => by kernel_rfl) (fun _ hSc => uuid2_c s _ )
  refine Wl.guard (v := Value.bool ((uuid s) == (uuid s))) (!(decide (((s.size : Nat) : Int) > 1000))) (wantF rfl (by kernel_rfl)) rfl (fun hg9 => ?_) ?_
  · have qhg9 := hg9; try simp only [Bool.and_eq_true, Bool.or_eq_true, Bool.not_eq_true', Bool.not_eq_false', Bool.and_eq_false_iff, Bool.or_eq_false_iff, decide_eq_true_eq, decide_eq_false_iff_not, beq_iff_eq, bne_iff_ne, beq_eq_false_iff_ne, bne_eq_false_iff_eq] at qhg9
    refine Ys.at (t := 10) (v0 := Value.bool (uuid s)) (lz (g := !(decide (((s.size : Nat) : Int) > 1000))) (u := undef) hg9 (by kernel_rfl)) ?_
    refine Ys.at (t := 12) (v0 := Value.bool (uuid s)) (lz (g := !(decide (((s.size : Nat) : Int) > 1000))) (u := undef) hg9 (by kernel_rfl)) ?_
    exact Ys.pure (fun _ => by kernel_rfl)
  refine Wl.ys (v := Value.bool ((decide (((s.size : Nat) : Int) > 1000)) || ((uuid s) == (uuid s)))) rfl rfl (Ys.or' (e := decide (((s.size : Nat) : Int) > 1000)) (b := (uuid s) == (uuid s)) rfl (by kernel_rfl) (by kernel_rfl) (by kernel_rfl)) ?_
  refine Wl.ys (v := Value.bool ((decide (((s.size : Nat) : Int) > 1000)) || ((uuid s) == (uuid s)))) rfl rfl (Ys.pure (fun _ => by kernel_rfl)) ?_
  refine Wl.nil ?_
  refine hK4 _ _ ?_
  refine W.ret ?_
  show ∀ w_, _ → bodyPost Try.prog Try.f5 _ Exit.ret _ w_
  exact fun w_ hS_ => ret1 rfl (RV.tmp (v := Value.bool ((decide (((s.size : Nat) : Int) > 1000)) || ((uuid s) == (uuid s)))) (by kernel_rfl)) hS_ ⟨by clear hK1 hK2 hK3 hK4; refine congrArg Ending.returned ?_; exact congrArg Value.bool (by simp), hS_.below⟩

theorem own : ownKnob Try.prog.godebug = none := by kernel_rfl
theorem laidOut : laidOutB Try.prog = true := by kernel_rfl
set_option maxRecDepth 100000 in
set_option maxHeartbeats 400000 in
theorem lifted (os : Os) (started : os.Started) (H : Type) (enc : TypeId × Value → H) :
    ReturnsInHanded {} Try.checked os 5 .any (Rows.confTextsSpec.pre6 enc Try.prog Try.f5 Rows.confTextsRow.domain false) (Rows.confTextsSpec.post enc Try.prog Try.f5 false true false false) := by
  refine returnsInHanded_of_change (C := Try.checked) own started (by kernel_rfl) Try.func5
    (ChangeSpec.witness6 (enc := enc) (C := Try.checked) false ⟨#[], #[Value.string (⟨#[]⟩)], []⟩ 12 (by kernel_rfl) (by kernel_rfl) (by kernel_rfl) (by kernel_rfl)) ?_
  intro W base args ds gs before hval0 hW hcnd _
  have hval : ∀ (j : Nat) t v, Try.f5.params[j]? = some t → args[j]? = some v → Value.okWide Try.prog W .any base t v := hval0
  have hW' := hW
  obtain ⟨p, q, hA0, hV, rfl, hfz, hnd⟩ := hW
  have hA : DataW.TrodAll enc Try.prog W 0 (fun _ => true) true Try.f5.params.toList args.toList ds p := hA0
  rw [Try.params5] at hA hval
  obtain ⟨v0, vs0, d0, ds0, p0, q0, hargs, rfl, rfl, h0, r0⟩ := trodAll_cons hA
  obtain ⟨rfl, rfl, rfl⟩ := trodAll_nil r0
  obtain rfl : args = #[v0] := by cases args; simp_all
  obtain ⟨rfl, rfl⟩ := trodVars_none hV
  have k0 := h0
  have lt0 : ∀ x ∈ p0, x.block < W.heap.size := by obtain ⟨m, hm⟩ := k0; exact DataW.trod_lt m _ _ _ hm
  obtain ⟨s, rfl⟩ := okWide_string Try.underlying9 (hval 0 9 v0 rfl rfl)
  obtain ⟨m0, hm0⟩ := h0
  obtain ⟨s_, E0, _, hs0⟩ := DataW.trod_string Try.underlying9 hm0
  obtain rfl : s = s_ := by simpa [Value.cells] using E0
  clear hA0 hval0
  refine Calls.mono (walk s W hs0) fun e W' ⟨he, bel⟩ => ?_
  subst he
  exact ⟨_, rfl, _, _, _, [], _, [], hW', trodAll_mk1 (shut_bool Try.underlying4 _), (trodAll_cons_mk (Below.trod laidOut (by kernel_rfl) (of_decide_eq_true (by kernel_rfl)) k0 bel lt0) trodAll_mk0), rfl, bel.frame _, fun h => by cases h⟩

theorem over : Rows.confTextsRow.holds Try.pinned (OpenSpec.ofChange Rows.confTextsSpec) :=
  OpenClaim.holds_of_wide 5 Try.f5 rfl rfl rfl rfl rfl rfl rfl ⟨rfl, rfl, rfl, rfl, rfl⟩ rfl rfl rfl rfl rfl (by kernel_rfl) Try.func5 (by kernel_rfl)
    (of_decide_eq_true (by kernel_rfl)) (by unfold Func.isWrapper; first | (rw [if_pos (by decide +kernel)]; kernel_rfl) | (rw [if_neg (by decide +kernel)]; exact ⟨rfl, rfl⟩))
    (fun os started H enc _ => lifted os started H enc)

theorem proved : Rows.ConfTextsSaid :=
  over
end Go.Proofs.Ytegdeobjfdiilaa.ConfTexts
