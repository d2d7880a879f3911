import Derived.Test.YthfagedaijoenaaRows
import Derived.Test.YthfagedaijoenaaKVF
import Derived.Test.YthfagedaijoenaaKWy9
import Derived.ProofKit
import Derived.OpenShut
import Derived.ChangeArms
set_option linter.unusedVariables false
set_option linter.unusedSimpArgs false
set_option maxRecDepth 20000
namespace Go.Proofs.Ythfagedaijoenaa.WheelPlays
open Go.ChangeShapes Go.WideShapes Go.ChangeAt Go.RowKit Base
open Go.Proofs.Ythfagedaijoenaa.Oct
theorem own : ownKnob Try.prog.godebug = none := by kernel_rfl
theorem laidOut : laidOutB Try.prog = true := by kernel_rfl
set_option maxRecDepth 100000 in
set_option maxHeartbeats 400000 in
theorem lifted (os : Os) (started : os.Started) (H : Type) (enc : TypeId × Value → H) :
    ReturnsInHanded {} Try.checked os 11 .any (Rows.wheelPlaysSpec.pre6 enc Try.prog Try.f11 Rows.wheelPlaysRow.domain false) (Rows.wheelPlaysSpec.post enc Try.prog Try.f11 false true false false) := by
  refine returnsInHanded_of_change (C := Try.checked) own started (by kernel_rfl) Try.func11
    (ChangeSpec.witness6 (enc := enc) (C := Try.checked) false ⟨#[], #[Value.slice none 0 0], []⟩ 12 (by kernel_rfl) (by kernel_rfl) (by kernel_rfl) (by kernel_rfl)) ?_
  intro W base args ds gs before hval0 hW hcnd _
  have hval : ∀ (j : Nat) t v, Try.f11.params[j]? = some t → args[j]? = some v → Value.okWide Try.prog W .any base t v := hval0
  have hW' := hW
  obtain ⟨p, q, hA0, hV, rfl, hfz, hnd⟩ := hW
  have hA : DataW.TrodAll enc Try.prog W 0 (fun _ => true) true Try.f11.params.toList args.toList ds p := hA0
  rw [Try.params11] at hA hval
  obtain ⟨v0, vs0, d0, ds0, p0, q0, hargs, rfl, rfl, h0, r0⟩ := trodAll_cons hA
  obtain ⟨rfl, rfl, rfl⟩ := trodAll_nil r0
  obtain rfl : args = #[v0] := by cases args; simp_all
  obtain ⟨rfl, rfl⟩ := trodVars_none hV
  have k0 := h0
  have lt0 : ∀ x ∈ p0, x.block < W.heap.size := by obtain ⟨m, hm⟩ := k0; exact DataW.trod_lt m _ _ _ hm
  obtain ⟨a, l, c, rfl⟩ := okWide_slice Try.underlying53 (hval 0 53 v0 rfl rfl)
  obtain ⟨m0, hm0⟩ := h0
  have F0 := flat_ok (P := Try.prog) 3 53 [.slice 58] (by kernel_rfl) _ _ _ hm0
  simp only [F2_cons, F2_nil, leafOK] at F0
  obtain ⟨_, _, E0, ⟨a_, l_, c_, rfl, lc0, cm0, hs0, hr0⟩, rfl⟩ := F0
  have E0' : a = a_ ∧ l = l_ ∧ c = c_ := by simpa [Value.cells] using E0
  obtain ⟨rfl, rfl, rfl⟩ := E0'
  obtain ⟨xs, hx0, hat0, hp0⟩ := at_ofN (e := 58) (sz := 4) (α := (Int × Int × Int × Int)) (g := op8) (p := fun x => 0 ≤ x.2.2.2 ∧ x.2.2.2 ≤ 18446744073709551615) (by kernel_rfl) (fun _ => rfl) lc0 hs0 hr0 (fun m cs x hx => by
    have F := flat_ok (P := Try.prog) 8 58 [.int .i64, .int .i64, .int .i64, .int .u64] (by kernel_rfl) _ _ _ hx
    simp only [F2_cons, F2_nil, leafOK] at F
    obtain ⟨_, _, rfl, ⟨y1, rfl, wy1⟩, F⟩ := F
    obtain ⟨_, _, rfl, ⟨y2, rfl, wy2⟩, F⟩ := F
    obtain ⟨_, _, rfl, ⟨y3, rfl, wy3⟩, F⟩ := F
    obtain ⟨_, _, rfl, ⟨y4, rfl, wy4⟩, rfl⟩ := F
    exact ⟨(y1, y2, y3, y4), rfl, (by have z_ := bounds_u64 wy4; show 0 ≤ y4 ∧ y4 ≤ _; omega)⟩)
  clear hA0 hval0
  subst hx0
  refine Calls.mono (playslaw8_c xs a c W hat0 (by simp only [maxLen] at cm0; omega) hp0) fun e W' ⟨he, bel⟩ => ?_
  subst he
  exact ⟨_, rfl, _, _, _, [], _, [], hW', trodAll_mk1 (shut_bool Try.underlying4 _), (trodAll_cons_mk (Below.trod laidOut (by kernel_rfl) (of_decide_eq_true (by kernel_rfl)) k0 bel lt0) trodAll_mk0), rfl, bel.frame _, fun h => by cases h⟩
theorem over : Rows.wheelPlaysRow.holds Try.pinned (OpenSpec.ofChange Rows.wheelPlaysSpec) :=
  OpenClaim.holds_of_wide 11 Try.f11 rfl rfl rfl rfl rfl rfl rfl ⟨rfl, rfl, rfl, rfl, rfl⟩ rfl rfl rfl rfl rfl (by kernel_rfl) Try.func11 (by kernel_rfl)
    (of_decide_eq_true (by kernel_rfl)) (by unfold Func.isWrapper; first | (rw [if_pos (by decide +kernel)]; kernel_rfl) | (rw [if_neg (by decide +kernel)]; exact ⟨rfl, rfl⟩))
    (fun os started H enc _ => lifted os started H enc)
theorem proved : Rows.WheelPlaysSaid :=
  over
end Go.Proofs.Ythfagedaijoenaa.WheelPlays
