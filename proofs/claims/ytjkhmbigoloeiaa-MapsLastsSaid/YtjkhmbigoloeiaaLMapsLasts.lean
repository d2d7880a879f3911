/-
  MapsLasts: for every input the law answers true and leaves its arguments as they were. No condition.
-/
import Derived.Test.YtjkhmbigoloeiaaRows
import Derived.Test.YtjkhmbigoloeiaaVF
import Derived.Test.YtjkhmbigoloeiaaMa9
import Derived.ProofKit
import Derived.OpenShut
import Derived.ChangeArms
set_option linter.unusedVariables false
set_option linter.unusedSimpArgs false
set_option maxRecDepth 20000
namespace Go.Proofs.Ytjkhmbigoloeiaa.MapsLasts
open Go.ChangeShapes Go.WideShapes Go.ChangeAt Go.RowKit Base
open Go.Proofs.Ytjkhmbigoloeiaa.Oct
theorem opened0 {H : Type} {enc : TypeId × Value → H} {P : Program} {w : World} {base : Nat} {spare : Nat → Bool} {held : Bool} {l : List Value} (F : F2 (leafOK enc P w base spare held) [.int .u64, .int .u64] l) : ∃ (a0 : Int) (a1 : Int), l = [.int .u64 a0, .int .u64 a1] ∧ ((Lit.int .u64 a0).wf = true) ∧ ((Lit.int .u64 a1).wf = true) := by
  obtain ⟨_, _, rfl, ⟨a0, rfl, wf0_0⟩, F1_⟩ := F2_un F
  clear F
  obtain ⟨_, _, rfl, ⟨a1, rfl, wf0_1⟩, F2_⟩ := F2_un F1_
  clear F1_
  obtain rfl := F2_un0 F2_
  exact ⟨a0, a1, rfl, wf0_0, wf0_1⟩

theorem own : ownKnob Try.prog.godebug = none := by kernel_rfl
theorem laidOut : laidOutB Try.prog = true := by kernel_rfl
set_option maxRecDepth 100000 in
set_option maxHeartbeats 400000 in
theorem lifted (os : Os) (started : os.Started) (H : Type) (enc : TypeId × Value → H) :
    ReturnsInHanded {} Try.checked os 6 .any (Rows.mapsLastsSpec.pre6 enc Try.prog Try.f6 Rows.mapsLastsRow.domain false) (Rows.mapsLastsSpec.post enc Try.prog Try.f6 false true false false) := by
  refine returnsInHanded_of_change (C := Try.checked) own started (by kernel_rfl) Try.func6
    (ChangeSpec.witness6 (enc := enc) (C := Try.checked) false ⟨#[], #[Value.agg ([Value.int .u64 0, Value.int .u64 0]).toArray, Value.int .u64 0], []⟩ 12 (by kernel_rfl) (by kernel_rfl) (by kernel_rfl) (by kernel_rfl)) ?_
  intro W base args ds gs before hval0 hW hcnd _
  have hval : ∀ (j : Nat) t v, Try.f6.params[j]? = some t → args[j]? = some v → Value.okWide Try.prog W .any base t v := hval0
  have hW' := hW
  obtain ⟨p, q, hA0, hV, rfl, hfz, hnd⟩ := hW
  have hA : DataW.TrodAll enc Try.prog W 0 (fun _ => true) true Try.f6.params.toList args.toList ds p := hA0
  rw [Try.params6] at hA hval
  obtain ⟨v0, vs0, d0, ds0, p0, q0, hargs, rfl, rfl, h0, r0⟩ := trodAll_cons hA
  obtain ⟨v1, vs1, d1, ds1, p1, q1, rfl, rfl, rfl, h1, r1⟩ := trodAll_cons r0
  obtain ⟨rfl, rfl, rfl⟩ := trodAll_nil r1
  obtain rfl : args = #[v0, v1] := by cases args; simp_all
  obtain ⟨rfl, rfl⟩ := trodVars_none hV
  have k0 := h0
  have lt0 : ∀ x ∈ p0, x.block < W.heap.size := by obtain ⟨m, hm⟩ := k0; exact DataW.trod_lt m _ _ _ hm
  obtain ⟨cs0, rfl, hz0⟩ : ∃ cs, v0 = .agg cs ∧ cs.size = Try.prog.cellsOf 67 := by have hq := (hval 0 67 v0 rfl rfl); simp only [Value.okWide, Try.underlying67] at hq; obtain ⟨cs, e1, e2, _⟩ := hq; exact ⟨cs, e1, e2⟩
  obtain ⟨l0, rfl⟩ : ∃ l : List Value, cs0 = l.toArray := ⟨cs0.toList, by simp⟩
  obtain ⟨m0, hm0⟩ := h0
  obtain ⟨a0, a1, hl0, wf0_0, wf0_1⟩ := opened0 (flat_ok (P := Try.prog) 8 67 [.int .u64, .int .u64] (by kernel_rfl) _ _ _ hm0)
  obtain rfl : l0 = _ := hl0
  have bd0_0 := bounds_u64 wf0_0
  have bd0_1 := bounds_u64 wf0_1
  have k1 := h1
  have lt1 : ∀ x ∈ p1, x.block < W.heap.size := by obtain ⟨m, hm⟩ := k1; exact DataW.trod_lt m _ _ _ hm
  obtain ⟨ti, rfl, rfl, rfl, wf1⟩ := open_int Try.underlying39 (hval 1 39 v1 rfl rfl) h1
  have bd1 := bounds_u64 wf1
  clear hA0 hval0
  obtain ⟨l0, rfl⟩ : ∃ k : Nat, a0 = ((k : Nat) : Int) := ⟨a0.toNat, by omega⟩
  obtain ⟨l1, rfl⟩ : ∃ k : Nat, a1 = ((k : Nat) : Int) := ⟨a1.toNat, by omega⟩
  obtain ⟨t_, rfl⟩ : ∃ k : Nat, ti = ((k : Nat) : Int) := ⟨ti.toNat, by omega⟩

  refine Calls.mono (lasts_c l0 l1 t_ W (by omega) (by omega) (by omega)) fun e W' ⟨he, bel⟩ => ?_
  subst he
  exact ⟨_, rfl, _, _, _, [], _, [], hW', trodAll_mk1 (shut_bool Try.underlying4 _), (trodAll_cons_mk (Below.trod laidOut (by kernel_rfl) (of_decide_eq_true (by kernel_rfl)) k0 bel lt0) (trodAll_cons_mk (Below.trod laidOut (by kernel_rfl) (of_decide_eq_true (by kernel_rfl)) k1 bel lt1) trodAll_mk0)), rfl, bel.frame _, fun h => by cases h⟩

theorem over : Rows.mapsLastsRow.holds Try.pinned (OpenSpec.ofChange Rows.mapsLastsSpec) :=
  OpenClaim.holds_of_wide 6 Try.f6 rfl rfl rfl rfl rfl rfl rfl ⟨rfl, rfl, rfl, rfl, rfl⟩ rfl rfl rfl rfl rfl (by kernel_rfl) Try.func6 (by kernel_rfl)
    (of_decide_eq_true (by kernel_rfl)) (by unfold Func.isWrapper; first | (rw [if_pos (by decide +kernel)]; kernel_rfl) | (rw [if_neg (by decide +kernel)]; exact ⟨rfl, rfl⟩))
    (fun os started H enc _ => lifted os started H enc)

theorem proved : Rows.MapsLastsSaid :=
  over
end Go.Proofs.Ytjkhmbigoloeiaa.MapsLasts

