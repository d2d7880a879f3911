/-
  IcmpEchoes: for every input the law answers true and leaves its arguments as they were. No condition.
-/
import Derived.Test.YtgohlpdgeicncaaRows
import Derived.Test.YtgohlpdgeicncaaVF
import Derived.Test.YtgohlpdgeicncaaIc4
import Derived.ProofKit
import Derived.OpenShut
import Derived.ChangeArms
set_option linter.unusedVariables false
set_option linter.unusedSimpArgs false
set_option maxRecDepth 20000
namespace Go.Proofs.Ytgohlpdgeicncaa.IcmpEchoes
open Go.ChangeShapes Go.WideShapes Go.ChangeAt Go.RowKit Base
open Go.Proofs.Ytgohlpdgeicncaa.Oct
theorem own : ownKnob Try.prog.godebug = none := by kernel_rfl
theorem laidOut : laidOutB Try.prog = true := by kernel_rfl
set_option maxRecDepth 100000 in
set_option maxHeartbeats 400000 in
theorem lifted (os : Os) (started : os.Started) (H : Type) (enc : TypeId × Value → H) :
    ReturnsInHanded {} Try.checked os 9 .any (Rows.icmpEchoesSpec.pre6 enc Try.prog Try.f9 Rows.icmpEchoesRow.domain false) (Rows.icmpEchoesSpec.post enc Try.prog Try.f9 false true false false) := by
  refine returnsInHanded_of_change (C := Try.checked) own started (by kernel_rfl) Try.func9
    (ChangeSpec.witness6 (enc := enc) (C := Try.checked) false ⟨#[], #[Value.int .u32 0, Value.int .u32 0, Value.int .u32 0, Value.slice none 0 0], []⟩ 12 (by kernel_rfl) (by kernel_rfl) (by kernel_rfl) (by kernel_rfl)) ?_
  intro W base args ds gs before hval0 hW hcnd _
  have hval : ∀ (j : Nat) t v, Try.f9.params[j]? = some t → args[j]? = some v → Value.okWide Try.prog W .any base t v := hval0
  have hW' := hW
  obtain ⟨p, q, hA0, hV, rfl, hfz, hnd⟩ := hW
  have hA : DataW.TrodAll enc Try.prog W 0 (fun _ => true) true Try.f9.params.toList args.toList ds p := hA0
  rw [Try.params9] at hA hval
  obtain ⟨v0, vs0, d0, ds0, p0, q0, hargs, rfl, rfl, h0, r0⟩ := trodAll_cons hA
  obtain ⟨v1, vs1, d1, ds1, p1, q1, rfl, rfl, rfl, h1, r1⟩ := trodAll_cons r0
  obtain ⟨v2, vs2, d2, ds2, p2, q2, rfl, rfl, rfl, h2, r2⟩ := trodAll_cons r1
  obtain ⟨v3, vs3, d3, ds3, p3, q3, rfl, rfl, rfl, h3, r3⟩ := trodAll_cons r2
  obtain ⟨rfl, rfl, rfl⟩ := trodAll_nil r3
  obtain rfl : args = #[v0, v1, v2, v3] := by cases args; simp_all
  obtain ⟨rfl, rfl⟩ := trodVars_none hV
  have k0 := h0
  have lt0 : ∀ x ∈ p0, x.block < W.heap.size := by obtain ⟨m, hm⟩ := k0; exact DataW.trod_lt m _ _ _ hm
  obtain ⟨si, rfl, rfl, rfl, wf0⟩ := open_int Try.underlying23 (hval 0 23 v0 rfl rfl) h0
  have bd0 := bounds_u32 wf0
  have k1 := h1
  have lt1 : ∀ x ∈ p1, x.block < W.heap.size := by obtain ⟨m, hm⟩ := k1; exact DataW.trod_lt m _ _ _ hm
  obtain ⟨di, rfl, rfl, rfl, wf1⟩ := open_int Try.underlying23 (hval 1 23 v1 rfl rfl) h1
  have bd1 := bounds_u32 wf1
  have k2 := h2
  have lt2 : ∀ x ∈ p2, x.block < W.heap.size := by obtain ⟨m, hm⟩ := k2; exact DataW.trod_lt m _ _ _ hm
  obtain ⟨ri, rfl, rfl, rfl, wf2⟩ := open_int Try.underlying22 (hval 2 22 v2 rfl rfl) h2
  have bd2 := bounds_u32 wf2
  have k3 := h3
  have lt3 : ∀ x ∈ p3, x.block < W.heap.size := by obtain ⟨m, hm⟩ := k3; exact DataW.trod_lt m _ _ _ hm
  obtain ⟨fa, fl, fc, rfl⟩ := okWide_slice Try.underlying26 (hval 3 26 v3 rfl rfl)
  obtain ⟨m3, hm3⟩ := h3
  have F3 := flat_ok (P := Try.prog) 3 26 [.slice 5] (by kernel_rfl) _ _ _ hm3
  simp only [F2_cons, F2_nil, leafOK] at F3
  obtain ⟨_, _, E3, ⟨a_, l_, c_, rfl, lc3, cm3, hs3, hr3⟩, rfl⟩ := F3
  have E3' : fa = a_ ∧ fl = l_ ∧ fc = c_ := by simpa [Value.cells] using E3
  obtain ⟨rfl, rfl, rfl⟩ := E3'
  obtain ⟨xs, hx3, hat3, hp3⟩ := at_of (e := 5) (α := UInt8) (g := b8) (p := fun x => True) (by kernel_rfl) lc3 hs3 hr3 (fun m cs x hx => by
    have F := flat_ok (P := Try.prog) 8 5 [.int .u8] (by kernel_rfl) _ _ _ hx
    simp only [F2_cons, F2_nil, leafOK] at F
    obtain ⟨_, _, rfl, ⟨y, rfl, wy⟩, rfl⟩ := F
    exact ⟨UInt8.ofNat y.toNat, congrArg (fun v => [v]) (b8_of wy), trivial⟩)
  clear hA0 hval0
  obtain ⟨s_, rfl⟩ : ∃ k : Nat, si = ((k : Nat) : Int) := ⟨si.toNat, by omega⟩
  obtain ⟨d_, rfl⟩ : ∃ k : Nat, di = ((k : Nat) : Int) := ⟨di.toNat, by omega⟩
  obtain ⟨re, rfl⟩ : ∃ k : Nat, ri = ((k : Nat) : Int) := ⟨ri.toNat, by omega⟩
  subst hx3
  refine Calls.mono (echoes_c s_ d_ re xs fa fc W hat3 (by omega) (by omega) (by omega) (by simp only [maxLen] at cm3; omega) (by omega)) fun e W' ⟨he, bel⟩ => ?_
  subst he
  exact ⟨_, rfl, _, _, _, [], _, [], hW', trodAll_mk1 (shut_bool Try.underlying4 _), (trodAll_cons_mk (Below.trod laidOut (by kernel_rfl) (of_decide_eq_true (by kernel_rfl)) k0 bel lt0) (trodAll_cons_mk (Below.trod laidOut (by kernel_rfl) (of_decide_eq_true (by kernel_rfl)) k1 bel lt1) (trodAll_cons_mk (Below.trod laidOut (by kernel_rfl) (of_decide_eq_true (by kernel_rfl)) k2 bel lt2) (trodAll_cons_mk (Below.trod laidOut (by kernel_rfl) (of_decide_eq_true (by kernel_rfl)) k3 bel lt3) trodAll_mk0)))), rfl, bel.frame _, fun h => by cases h⟩

theorem over : Rows.icmpEchoesRow.holds Try.pinned (OpenSpec.ofChange Rows.icmpEchoesSpec) :=
  OpenClaim.holds_of_wide 9 Try.f9 rfl rfl rfl rfl rfl rfl rfl ⟨rfl, rfl, rfl, rfl, rfl⟩ rfl rfl rfl rfl rfl (by kernel_rfl) Try.func9 (by kernel_rfl)
    (of_decide_eq_true (by kernel_rfl)) (by unfold Func.isWrapper; first | (rw [if_pos (by decide +kernel)]; kernel_rfl) | (rw [if_neg (by decide +kernel)]; exact ⟨rfl, rfl⟩))
    (fun os started H enc _ => lifted os started H enc)

theorem proved : Rows.IcmpEchoesSaid :=
  over
end Go.Proofs.Ytgohlpdgeicncaa.IcmpEchoes

