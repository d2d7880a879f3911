/-
  OctetNums: for every input the law answers true and leaves its arguments as they were. No condition.
-/
import Derived.Test.YtegeijaicjackaaRows
import Derived.Test.YtegeijaicjackaaVF
import Derived.Test.YtegeijaicjackaaOct10
import Derived.ProofKit
import Derived.OpenShut
import Derived.ChangeArms
set_option linter.unusedVariables false
set_option linter.unusedSimpArgs false
set_option maxRecDepth 20000
namespace Go.Proofs.Ytegeijaicjackaa.OctetNums
open Go.ChangeShapes Go.WideShapes Go.ChangeAt Go.RowKit Base
open Go.Proofs.Ytegeijaicjackaa.Oct
theorem own : ownKnob Try.prog.godebug = none := by kernel_rfl
theorem laidOut : laidOutB Try.prog = true := by kernel_rfl
set_option maxRecDepth 100000 in
set_option maxHeartbeats 400000 in
theorem lifted (os : Os) (started : os.Started) (H : Type) (enc : TypeId × Value → H) :
    ReturnsInHanded {} Try.checked os 12 .any (Rows.octetNumsSpec.pre6 enc Try.prog Try.f12 Rows.octetNumsRow.domain false) (Rows.octetNumsSpec.post enc Try.prog Try.f12 false true false false) := by
  refine returnsInHanded_of_change (C := Try.checked) own started (by kernel_rfl) Try.func12
    (ChangeSpec.witness6 (enc := enc) (C := Try.checked) false ⟨#[], #[Value.int .i64 0, Value.slice none 0 0], []⟩ 12 (by kernel_rfl) (by kernel_rfl) (by kernel_rfl) (by kernel_rfl)) ?_
  intro W base args ds gs before hval0 hW hcnd _
  have hval : ∀ (j : Nat) t v, Try.f12.params[j]? = some t → args[j]? = some v → Value.okWide Try.prog W .any base t v := hval0
  have hW' := hW
  obtain ⟨p, q, hA0, hV, rfl, hfz, hnd⟩ := hW
  have hA : DataW.TrodAll enc Try.prog W 0 (fun _ => true) true Try.f12.params.toList args.toList ds p := hA0
  rw [Try.params12] at hA hval
  obtain ⟨v0, vs0, d0, ds0, p0, q0, hargs, rfl, rfl, h0, r0⟩ := trodAll_cons hA
  obtain ⟨v1, vs1, d1, ds1, p1, q1, rfl, rfl, rfl, h1, r1⟩ := trodAll_cons r0
  obtain ⟨rfl, rfl, rfl⟩ := trodAll_nil r1
  obtain rfl : args = #[v0, v1] := by cases args; simp_all
  obtain ⟨rfl, rfl⟩ := trodVars_none hV
  have k0 := h0
  have lt0 : ∀ x ∈ p0, x.block < W.heap.size := by obtain ⟨m, hm⟩ := k0; exact DataW.trod_lt m _ _ _ hm
  obtain ⟨size, rfl, rfl, rfl, wf0⟩ := open_int Try.underlying3 (hval 0 3 v0 rfl rfl) h0
  have bd0 := bounds_i64 wf0
  have k1 := h1
  have lt1 : ∀ x ∈ p1, x.block < W.heap.size := by obtain ⟨m, hm⟩ := k1; exact DataW.trod_lt m _ _ _ hm
  obtain ⟨a, l, c, rfl⟩ := okWide_slice Try.underlying58 (hval 1 58 v1 rfl rfl)
  obtain ⟨m1, hm1⟩ := h1
  have F1 := flat_ok (P := Try.prog) 3 58 [.slice 35] (by kernel_rfl) _ _ _ hm1
  simp only [F2_cons, F2_nil, leafOK] at F1
  obtain ⟨_, _, E1, ⟨a_, l_, c_, rfl, lc1, cm1, hs1, hr1⟩, rfl⟩ := F1
  have E1' : a = a_ ∧ l = l_ ∧ c = c_ := by simpa [Value.cells] using E1
  obtain ⟨rfl, rfl, rfl⟩ := E1'
  obtain ⟨ns, hx1, hat1, hp1⟩ := at_of (e := 35) (α := Nat) (g := n64) (p := fun x => x < 18446744073709551616) (by kernel_rfl) lc1 hs1 hr1 (fun m cs x hx => by
    have F := flat_ok (P := Try.prog) 8 35 [.int .u64] (by kernel_rfl) _ _ _ hx
    simp only [F2_cons, F2_nil, leafOK] at F
    obtain ⟨_, _, rfl, ⟨y, rfl, wy⟩, rfl⟩ := F
    exact ⟨y.toNat, congrArg (fun v => [v]) (n64_of wy).1, (n64_of wy).2⟩)
  clear hA0 hval0
  subst hx1
  refine Calls.mono (nums_c size ns a c W hat1 (by simp only [maxLen] at cm1; omega) hp1) fun e W' ⟨he, bel⟩ => ?_
  subst he
  exact ⟨_, rfl, _, _, _, [], _, [], hW', trodAll_mk1 (shut_bool Try.underlying4 _), (trodAll_cons_mk (Below.trod laidOut (by kernel_rfl) (of_decide_eq_true (by kernel_rfl)) k0 bel lt0) (trodAll_cons_mk (Below.trod laidOut (by kernel_rfl) (of_decide_eq_true (by kernel_rfl)) k1 bel lt1) trodAll_mk0)), rfl, bel.frame _, fun h => by cases h⟩

theorem over : Rows.octetNumsRow.holds Try.pinned (OpenSpec.ofChange Rows.octetNumsSpec) :=
  OpenClaim.holds_of_wide 12 Try.f12 rfl rfl rfl rfl rfl rfl rfl ⟨rfl, rfl, rfl, rfl, rfl⟩ rfl rfl rfl rfl rfl (by kernel_rfl) Try.func12 (by kernel_rfl)
    (of_decide_eq_true (by kernel_rfl)) (by unfold Func.isWrapper; first | (rw [if_pos (by decide +kernel)]; kernel_rfl) | (rw [if_neg (by decide +kernel)]; exact ⟨rfl, rfl⟩))
    (fun os started H enc _ => lifted os started H enc)

theorem proved : Rows.OctetNumsSaid :=
  over
end Go.Proofs.Ytegeijaicjackaa.OctetNums

