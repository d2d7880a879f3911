import Derived.Test.YtejeafjkhomdoaaRows
import Derived.Test.YtejeafjkhomdoaaKVF
import Derived.Test.YtejeafjkhomdoaaKRe8
import Derived.ProofKit
import Derived.OpenShut
import Derived.ChangeArms
set_option linter.unusedVariables false
set_option linter.unusedSimpArgs false
set_option maxRecDepth 20000
namespace Go.Proofs.Ytejeafjkhomdoaa.FlowErrors
open Go.ChangeShapes Go.WideShapes Go.ChangeAt Go.RowKit Base
open Go.Proofs.Ytejeafjkhomdoaa.Oct
theorem opened1 {H : Type} {enc : TypeId × Value → H} {P : Program} {w : World} {base : Nat} {spare : Nat → Bool} {held : Bool} {l : List Value} (F : F2 (leafOK enc P w base spare held) [.int .u8, .int .u32, .int .u32, .int .u16, .int .u16] l) : ∃ (m1_0 : Int) (m1_1 : Int) (m1_2 : Int) (m1_3 : Int) (m1_4 : Int), l = [.int .u8 m1_0, .int .u32 m1_1, .int .u32 m1_2, .int .u16 m1_3, .int .u16 m1_4] ∧ ((Lit.int .u8 m1_0).wf = true) ∧ ((Lit.int .u32 m1_1).wf = true) ∧ ((Lit.int .u32 m1_2).wf = true) ∧ ((Lit.int .u16 m1_3).wf = true) ∧ ((Lit.int .u16 m1_4).wf = true) := by
  obtain ⟨_, _, rfl, ⟨m1_0, rfl, wf1_0⟩, F1_⟩ := F2_un F
  clear F
  obtain ⟨_, _, rfl, ⟨m1_1, rfl, wf1_1⟩, F2_⟩ := F2_un F1_
  clear F1_
  obtain ⟨_, _, rfl, ⟨m1_2, rfl, wf1_2⟩, F3_⟩ := F2_un F2_
  clear F2_
  obtain ⟨_, _, rfl, ⟨m1_3, rfl, wf1_3⟩, F4_⟩ := F2_un F3_
  clear F3_
  obtain ⟨_, _, rfl, ⟨m1_4, rfl, wf1_4⟩, F5_⟩ := F2_un F4_
  clear F4_
  obtain rfl := F2_un0 F5_
  exact ⟨m1_0, m1_1, m1_2, m1_3, m1_4, rfl, wf1_0, wf1_1, wf1_2, wf1_3, wf1_4⟩
theorem opened0 {H : Type} {enc : TypeId × Value → H} {P : Program} {w : World} {base : Nat} {spare : Nat → Bool} {held : Bool} {l : List Value} (F : F2 (leafOK enc P w base spare held) [.int .u8, .int .u8, .int .u16, .int .u32, .int .u32, .slice 5] l) : ∃ (n0_0 : Int) (n0_1 : Int) (n0_2 : Int) (n0_3 : Int) (n0_4 : Int) (fa : Option Addr) (fl fc : Nat), l = [.int .u8 n0_0, .int .u8 n0_1, .int .u16 n0_2, .int .u32 n0_3, .int .u32 n0_4, .slice fa fl fc] ∧ ((Lit.int .u8 n0_0).wf = true) ∧ ((Lit.int .u8 n0_1).wf = true) ∧ ((Lit.int .u16 n0_2).wf = true) ∧ ((Lit.int .u32 n0_3).wf = true) ∧ ((Lit.int .u32 n0_4).wf = true) ∧ (fl ≤ fc ∧ fc ≤ maxLen ∧ (0 < fc → ∃ adr, fa = some adr) ∧ ∀ adr, fa = some adr → ∀ i, i < fl → ∃ cs m x, w.cells? base (adr.add (i * P.cellsOf 5)) (P.cellsOf 5) = some cs ∧ DataW.trod enc P w base spare held m 5 cs = some x) := by
  obtain ⟨_, _, rfl, ⟨n0_0, rfl, wf0_0⟩, F1_⟩ := F2_un F
  clear F
  obtain ⟨_, _, rfl, ⟨n0_1, rfl, wf0_1⟩, F2_⟩ := F2_un F1_
  clear F1_
  obtain ⟨_, _, rfl, ⟨n0_2, rfl, wf0_2⟩, F3_⟩ := F2_un F2_
  clear F2_
  obtain ⟨_, _, rfl, ⟨n0_3, rfl, wf0_3⟩, F4_⟩ := F2_un F3_
  clear F3_
  obtain ⟨_, _, rfl, ⟨n0_4, rfl, wf0_4⟩, F5_⟩ := F2_un F4_
  clear F4_
  obtain ⟨_, _, rfl, ⟨fa, fl, fc, rfl, sf0_5⟩, F6_⟩ := F2_un F5_
  clear F5_
  obtain rfl := F2_un0 F6_
  exact ⟨n0_0, n0_1, n0_2, n0_3, n0_4, fa, fl, fc, rfl, wf0_0, wf0_1, wf0_2, wf0_3, wf0_4, sf0_5⟩
theorem own : ownKnob Try.prog.godebug = none := by kernel_rfl
theorem laidOut : laidOutB Try.prog = true := by kernel_rfl
set_option maxRecDepth 100000 in
set_option maxHeartbeats 400000 in
theorem lifted (os : Os) (started : os.Started) (H : Type) (enc : TypeId × Value → H) :
    ReturnsInHanded {} Try.checked os 9 .any (Rows.flowErrorsSpec.pre6 enc Try.prog Try.f9 Rows.flowErrorsRow.domain false) (Rows.flowErrorsSpec.post enc Try.prog Try.f9 false true false false) := by
  refine returnsInHanded_of_change (C := Try.checked) own started (by kernel_rfl) Try.func9
    (ChangeSpec.witness6 (enc := enc) (C := Try.checked) false ⟨#[], #[Value.agg ([Value.int .u8 0, Value.int .u8 0, Value.int .u16 0, Value.int .u32 0, Value.int .u32 0, Value.slice none 0 0]).toArray, Value.agg ([Value.int .u8 0, Value.int .u32 0, Value.int .u32 0, Value.int .u16 0, Value.int .u16 0]).toArray, Value.int .i64 0], []⟩ 12 (by kernel_rfl) (by kernel_rfl) (by kernel_rfl) (by kernel_rfl)) ?_
  intro W base args ds gs before hval0 hW hcnd _
  have hval : ∀ (j : Nat) t v, Try.f9.params[j]? = some t → args[j]? = some v → Value.okWide Try.prog W .any base t v := hval0
  have hW' := hW
  obtain ⟨p, q, hA0, hV, rfl, hfz, hnd⟩ := hW
  have hA : DataW.TrodAll enc Try.prog W 0 (fun _ => true) true Try.f9.params.toList args.toList ds p := hA0
  rw [Try.params9] at hA hval
  obtain ⟨v0, vs0, d0, ds0, p0, q0, hargs, rfl, rfl, h0, r0⟩ := trodAll_cons hA
  obtain ⟨v1, vs1, d1, ds1, p1, q1, rfl, rfl, rfl, h1, r1⟩ := trodAll_cons r0
  obtain ⟨v2, vs2, d2, ds2, p2, q2, rfl, rfl, rfl, h2, r2⟩ := trodAll_cons r1
  obtain ⟨rfl, rfl, rfl⟩ := trodAll_nil r2
  obtain rfl : args = #[v0, v1, v2] := by cases args; simp_all
  obtain ⟨rfl, rfl⟩ := trodVars_none hV
  have k0 := h0
  have lt0 : ∀ x ∈ p0, x.block < W.heap.size := by obtain ⟨m, hm⟩ := k0; exact DataW.trod_lt m _ _ _ hm
  obtain ⟨cs0, rfl, hz0⟩ : ∃ cs, v0 = .agg cs ∧ cs.size = Try.prog.cellsOf 27 := by have hq := (hval 0 27 v0 rfl rfl); simp only [Value.okWide, Try.underlying27] at hq; obtain ⟨cs, e1, e2, _⟩ := hq; exact ⟨cs, e1, e2⟩
  obtain ⟨l0, rfl⟩ : ∃ l : List Value, cs0 = l.toArray := ⟨cs0.toList, by simp⟩
  obtain ⟨m0, hm0⟩ := h0
  obtain ⟨n0_0, n0_1, n0_2, n0_3, n0_4, fa, fl, fc, hl0, wf0_0, wf0_1, wf0_2, wf0_3, wf0_4, sf0_5⟩ := opened0 (flat_ok (P := Try.prog) 8 27 [.int .u8, .int .u8, .int .u16, .int .u32, .int .u32, .slice 5] (by kernel_rfl) _ _ _ hm0)
  obtain rfl : l0 = _ := hl0
  obtain ⟨lc0_5, cm0_5, hs0_5, hr0_5⟩ := sf0_5
  have bd0_0 := bounds_u8 wf0_0
  have bd0_1 := bounds_u8 wf0_1
  have bd0_2 := bounds_u16 wf0_2
  have bd0_3 := bounds_u32 wf0_3
  have bd0_4 := bounds_u32 wf0_4
  obtain ⟨xs, hx0_5, hat0_5, hp0_5⟩ := at_of (e := 5) (α := UInt8) (g := b8) (p := fun x => True) (by kernel_rfl) lc0_5 hs0_5 hr0_5 (fun m cs x hx => by
    have F := flat_ok (P := Try.prog) 8 5 [.int .u8] (by kernel_rfl) _ _ _ hx
    simp only [F2_cons, F2_nil, leafOK] at F
    obtain ⟨_, _, rfl, ⟨y, rfl, wy⟩, rfl⟩ := F
    exact ⟨UInt8.ofNat y.toNat, congrArg (fun v => [v]) (b8_of wy), trivial⟩)
  have k1 := h1
  have lt1 : ∀ x ∈ p1, x.block < W.heap.size := by obtain ⟨m, hm⟩ := k1; exact DataW.trod_lt m _ _ _ hm
  obtain ⟨cs1, rfl, hz1⟩ : ∃ cs, v1 = .agg cs ∧ cs.size = Try.prog.cellsOf 30 := by have hq := (hval 1 30 v1 rfl rfl); simp only [Value.okWide, Try.underlying30] at hq; obtain ⟨cs, e1, e2, _⟩ := hq; exact ⟨cs, e1, e2⟩
  obtain ⟨l1, rfl⟩ : ∃ l : List Value, cs1 = l.toArray := ⟨cs1.toList, by simp⟩
  obtain ⟨m1, hm1⟩ := h1
  obtain ⟨m1_0, m1_1, m1_2, m1_3, m1_4, hl1, wf1_0, wf1_1, wf1_2, wf1_3, wf1_4⟩ := opened1 (flat_ok (P := Try.prog) 8 30 [.int .u8, .int .u32, .int .u32, .int .u16, .int .u16] (by kernel_rfl) _ _ _ hm1)
  obtain rfl : l1 = _ := hl1
  have bd1_0 := bounds_u8 wf1_0
  have bd1_1 := bounds_u32 wf1_1
  have bd1_2 := bounds_u32 wf1_2
  have bd1_3 := bounds_u16 wf1_3
  have bd1_4 := bounds_u16 wf1_4
  have k2 := h2
  have lt2 : ∀ x ∈ p2, x.block < W.heap.size := by obtain ⟨m, hm⟩ := k2; exact DataW.trod_lt m _ _ _ hm
  obtain ⟨most, rfl, rfl, rfl, wf2⟩ := open_int Try.underlying3 (hval 2 3 v2 rfl rfl) h2
  have bd2 := bounds_i64 wf2
  clear hA0 hval0
  obtain ⟨tt, rfl⟩ : ∃ d : UInt8, n0_0 = ((d.toNat : Nat) : Int) := ⟨UInt8.ofNat n0_0.toNat, by rw [UInt8.toNat_ofNat', Nat.mod_eq_of_lt (by omega)]; omega⟩
  obtain ⟨pr, rfl⟩ : ∃ d : UInt8, n0_1 = ((d.toNat : Nat) : Int) := ⟨UInt8.ofNat n0_1.toNat, by rw [UInt8.toNat_ofNat', Nat.mod_eq_of_lt (by omega)]; omega⟩
  obtain ⟨id_, rfl⟩ : ∃ k : Nat, n0_2 = ((k : Nat) : Int) := ⟨n0_2.toNat, by omega⟩
  obtain ⟨s_, rfl⟩ : ∃ k : Nat, n0_3 = ((k : Nat) : Int) := ⟨n0_3.toNat, by omega⟩
  obtain ⟨d_, rfl⟩ : ∃ k : Nat, n0_4 = ((k : Nat) : Int) := ⟨n0_4.toNat, by omega⟩
  subst hx0_5
  obtain ⟨fp, rfl⟩ : ∃ d : UInt8, m1_0 = ((d.toNat : Nat) : Int) := ⟨UInt8.ofNat m1_0.toNat, by rw [UInt8.toNat_ofNat', Nat.mod_eq_of_lt (by omega)]; omega⟩
  obtain ⟨fs, rfl⟩ : ∃ k : Nat, m1_1 = ((k : Nat) : Int) := ⟨m1_1.toNat, by omega⟩
  obtain ⟨fd, rfl⟩ : ∃ k : Nat, m1_2 = ((k : Nat) : Int) := ⟨m1_2.toNat, by omega⟩
  obtain ⟨ff, rfl⟩ : ∃ k : Nat, m1_3 = ((k : Nat) : Int) := ⟨m1_3.toNat, by omega⟩
  obtain ⟨ft, rfl⟩ : ∃ k : Nat, m1_4 = ((k : Nat) : Int) := ⟨m1_4.toNat, by omega⟩
  refine Calls.mono (ferr_c tt pr id_ s_ d_ xs fa fc fp fs fd ff ft most W (by omega) (by omega) (by omega) (by omega) (by omega) (by omega) hat0_5 (by omega) (by omega) (by omega) (by simp only [maxLen] at cm0_5; omega) (by omega)) fun e W' ⟨he, bel⟩ => ?_
  subst he
  exact ⟨_, rfl, _, _, _, [], _, [], hW', trodAll_mk1 (shut_bool Try.underlying4 _), (trodAll_cons_mk (Below.trod laidOut (by kernel_rfl) (of_decide_eq_true (by kernel_rfl)) k0 bel lt0) (trodAll_cons_mk (Below.trod laidOut (by kernel_rfl) (of_decide_eq_true (by kernel_rfl)) k1 bel lt1) (trodAll_cons_mk (Below.trod laidOut (by kernel_rfl) (of_decide_eq_true (by kernel_rfl)) k2 bel lt2) trodAll_mk0))), rfl, bel.frame _, fun h => by cases h⟩
theorem over : Rows.flowErrorsRow.holds Try.pinned (OpenSpec.ofChange Rows.flowErrorsSpec) :=
  OpenClaim.holds_of_wide 9 Try.f9 rfl rfl rfl rfl rfl rfl rfl ⟨rfl, rfl, rfl, rfl, rfl⟩ rfl rfl rfl rfl rfl (by kernel_rfl) Try.func9 (by kernel_rfl)
    (of_decide_eq_true (by kernel_rfl)) (by unfold Func.isWrapper; first | (rw [if_pos (by decide +kernel)]; kernel_rfl) | (rw [if_neg (by decide +kernel)]; exact ⟨rfl, rfl⟩))
    (fun os started H enc _ => lifted os started H enc)
theorem proved : Rows.FlowErrorsSaid :=
  over
end Go.Proofs.Ytejeafjkhomdoaa.FlowErrors
