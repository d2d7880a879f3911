/-
  TransPlain: for every input the law answers true and leaves its arguments as they were. No condition.
-/
import Derived.Test.YtgohlpdgeicncaaRows
import Derived.Test.YtgohlpdgeicncaaVF
import Derived.Test.YtgohlpdgeicncaaTr5
import Derived.ProofKit
import Derived.OpenShut
import Derived.ChangeArms
set_option linter.unusedVariables false
set_option linter.unusedSimpArgs false
set_option maxRecDepth 20000
namespace Go.Proofs.Ytgohlpdgeicncaa.TransPlain
open Go.ChangeShapes Go.WideShapes Go.ChangeAt Go.RowKit Base
open Go.Proofs.Ytgohlpdgeicncaa.Oct
theorem opened2 {H : Type} {enc : TypeId × Value → H} {P : Program} {w : World} {base : Nat} {spare : Nat → Bool} {held : Bool} {l : List Value} (F : F2 (leafOK enc P w base spare held) [.int .u32, .int .u32] l) : ∃ (b0 : Int) (b1 : Int), l = [.int .u32 b0, .int .u32 b1] ∧ ((Lit.int .u32 b0).wf = true) ∧ ((Lit.int .u32 b1).wf = true) := by
  obtain ⟨_, _, rfl, ⟨b0, rfl, wf2_0⟩, F1_⟩ := F2_un F
  clear F
  obtain ⟨_, _, rfl, ⟨b1, rfl, wf2_1⟩, F2_⟩ := F2_un F1_
  clear F1_
  obtain rfl := F2_un0 F2_
  exact ⟨b0, b1, rfl, wf2_0, wf2_1⟩

theorem opened1 {H : Type} {enc : TypeId × Value → H} {P : Program} {w : World} {base : Nat} {spare : Nat → Bool} {held : Bool} {l : List Value} (F : F2 (leafOK enc P w base spare held) [.int .u32, .int .u32] l) : ∃ (a0 : Int) (a1 : Int), l = [.int .u32 a0, .int .u32 a1] ∧ ((Lit.int .u32 a0).wf = true) ∧ ((Lit.int .u32 a1).wf = true) := by
  obtain ⟨_, _, rfl, ⟨a0, rfl, wf1_0⟩, F1_⟩ := F2_un F
  clear F
  obtain ⟨_, _, rfl, ⟨a1, rfl, wf1_1⟩, F2_⟩ := F2_un F1_
  clear F1_
  obtain rfl := F2_un0 F2_
  exact ⟨a0, a1, rfl, wf1_0, wf1_1⟩

theorem opened0 {H : Type} {enc : TypeId × Value → H} {P : Program} {w : World} {base : Nat} {spare : Nat → Bool} {held : Bool} {l : List Value} (F : F2 (leafOK enc P w base spare held) [.int .u16, .int .u16, .bool, .slice 5] l) : ∃ (n0_0 : Int) (n0_1 : Int) (pl : Bool) (fa : Option Addr) (fl fc : Nat), l = [.int .u16 n0_0, .int .u16 n0_1, .bool pl, .slice fa fl fc] ∧ ((Lit.int .u16 n0_0).wf = true) ∧ ((Lit.int .u16 n0_1).wf = true) ∧ (fl ≤ fc ∧ fc ≤ maxLen ∧ (0 < fc → ∃ adr, fa = some adr) ∧ ∀ adr, fa = some adr → ∀ i, i < fl → ∃ cs m x, w.cells? base (adr.add (i * P.cellsOf 5)) (P.cellsOf 5) = some cs ∧ DataW.trod enc P w base spare held m 5 cs = some x) := by
  obtain ⟨_, _, rfl, ⟨n0_0, rfl, wf0_0⟩, F1_⟩ := F2_un F
  clear F
  obtain ⟨_, _, rfl, ⟨n0_1, rfl, wf0_1⟩, F2_⟩ := F2_un F1_
  clear F1_
  obtain ⟨_, _, rfl, ⟨pl, rfl⟩, F3_⟩ := F2_un F2_
  clear F2_
  obtain ⟨_, _, rfl, ⟨fa, fl, fc, rfl, sf0_3⟩, F4_⟩ := F2_un F3_
  clear F3_
  obtain rfl := F2_un0 F4_
  exact ⟨n0_0, n0_1, pl, fa, fl, fc, rfl, wf0_0, wf0_1, sf0_3⟩

theorem own : ownKnob Try.prog.godebug = none := by kernel_rfl
theorem laidOut : laidOutB Try.prog = true := by kernel_rfl
set_option maxRecDepth 100000 in
set_option maxHeartbeats 400000 in
theorem lifted (os : Os) (started : os.Started) (H : Type) (enc : TypeId × Value → H) :
    ReturnsInHanded {} Try.checked os 4 .any (Rows.transPlainSpec.pre6 enc Try.prog Try.f4 Rows.transPlainRow.domain false) (Rows.transPlainSpec.post enc Try.prog Try.f4 false true false false) := by
  refine returnsInHanded_of_change (C := Try.checked) own started (by kernel_rfl) Try.func4
    (ChangeSpec.witness6 (enc := enc) (C := Try.checked) false ⟨#[], #[Value.agg ([Value.int .u16 0, Value.int .u16 0, Value.bool false, Value.slice none 0 0]).toArray, Value.agg ([Value.int .u32 0, Value.int .u32 0]).toArray, Value.agg ([Value.int .u32 0, Value.int .u32 0]).toArray], []⟩ 12 (by kernel_rfl) (by kernel_rfl) (by kernel_rfl) (by kernel_rfl)) ?_
  intro W base args ds gs before hval0 hW hcnd _
  have hval : ∀ (j : Nat) t v, Try.f4.params[j]? = some t → args[j]? = some v → Value.okWide Try.prog W .any base t v := hval0
  have hW' := hW
  obtain ⟨p, q, hA0, hV, rfl, hfz, hnd⟩ := hW
  have hA : DataW.TrodAll enc Try.prog W 0 (fun _ => true) true Try.f4.params.toList args.toList ds p := hA0
  rw [Try.params4] at hA hval
  obtain ⟨v0, vs0, d0, ds0, p0, q0, hargs, rfl, rfl, h0, r0⟩ := trodAll_cons hA
  obtain ⟨v1, vs1, d1, ds1, p1, q1, rfl, rfl, rfl, h1, r1⟩ := trodAll_cons r0
  obtain ⟨v2, vs2, d2, ds2, p2, q2, rfl, rfl, rfl, h2, r2⟩ := trodAll_cons r1
  obtain ⟨rfl, rfl, rfl⟩ := trodAll_nil r2
  obtain rfl : args = #[v0, v1, v2] := by cases args; simp_all
  obtain ⟨rfl, rfl⟩ := trodVars_none hV
  have k0 := h0
  have lt0 : ∀ x ∈ p0, x.block < W.heap.size := by obtain ⟨m, hm⟩ := k0; exact DataW.trod_lt m _ _ _ hm
  obtain ⟨cs0, rfl, hz0⟩ : ∃ cs, v0 = .agg cs ∧ cs.size = Try.prog.cellsOf 28 := by have hq := (hval 0 28 v0 rfl rfl); simp only [Value.okWide, Try.underlying28] at hq; obtain ⟨cs, e1, e2, _⟩ := hq; exact ⟨cs, e1, e2⟩
  obtain ⟨l0, rfl⟩ : ∃ l : List Value, cs0 = l.toArray := ⟨cs0.toList, by simp⟩
  obtain ⟨m0, hm0⟩ := h0
  obtain ⟨n0_0, n0_1, pl, fa, fl, fc, hl0, wf0_0, wf0_1, sf0_3⟩ := opened0 (flat_ok (P := Try.prog) 8 28 [.int .u16, .int .u16, .bool, .slice 5] (by kernel_rfl) _ _ _ hm0)
  obtain rfl : l0 = _ := hl0
  obtain ⟨lc0_3, cm0_3, hs0_3, hr0_3⟩ := sf0_3
  have bd0_0 := bounds_u16 wf0_0
  have bd0_1 := bounds_u16 wf0_1
  obtain ⟨xs, hx0_3, hat0_3, hp0_3⟩ := at_of (e := 5) (α := UInt8) (g := b8) (p := fun x => True) (by kernel_rfl) lc0_3 hs0_3 hr0_3 (fun m cs x hx => by
    have F := flat_ok (P := Try.prog) 8 5 [.int .u8] (by kernel_rfl) _ _ _ hx
    simp only [F2_cons, F2_nil, leafOK] at F
    obtain ⟨_, _, rfl, ⟨y, rfl, wy⟩, rfl⟩ := F
    exact ⟨UInt8.ofNat y.toNat, congrArg (fun v => [v]) (b8_of wy), trivial⟩)
  have k1 := h1
  have lt1 : ∀ x ∈ p1, x.block < W.heap.size := by obtain ⟨m, hm⟩ := k1; exact DataW.trod_lt m _ _ _ hm
  obtain ⟨cs1, rfl, hz1⟩ : ∃ cs, v1 = .agg cs ∧ cs.size = Try.prog.cellsOf 24 := by have hq := (hval 1 24 v1 rfl rfl); simp only [Value.okWide, Try.underlying24] at hq; obtain ⟨cs, e1, e2, _⟩ := hq; exact ⟨cs, e1, e2⟩
  obtain ⟨l1, rfl⟩ : ∃ l : List Value, cs1 = l.toArray := ⟨cs1.toList, by simp⟩
  obtain ⟨m1, hm1⟩ := h1
  obtain ⟨a0, a1, hl1, wf1_0, wf1_1⟩ := opened1 (flat_ok (P := Try.prog) 8 24 [.int .u32, .int .u32] (by kernel_rfl) _ _ _ hm1)
  obtain rfl : l1 = _ := hl1
  have bd1_0 := bounds_u32 wf1_0
  have bd1_1 := bounds_u32 wf1_1
  have k2 := h2
  have lt2 : ∀ x ∈ p2, x.block < W.heap.size := by obtain ⟨m, hm⟩ := k2; exact DataW.trod_lt m _ _ _ hm
  obtain ⟨cs2, rfl, hz2⟩ : ∃ cs, v2 = .agg cs ∧ cs.size = Try.prog.cellsOf 24 := by have hq := (hval 2 24 v2 rfl rfl); simp only [Value.okWide, Try.underlying24] at hq; obtain ⟨cs, e1, e2, _⟩ := hq; exact ⟨cs, e1, e2⟩
  obtain ⟨l2, rfl⟩ : ∃ l : List Value, cs2 = l.toArray := ⟨cs2.toList, by simp⟩
  obtain ⟨m2, hm2⟩ := h2
  obtain ⟨b0, b1, hl2, wf2_0, wf2_1⟩ := opened2 (flat_ok (P := Try.prog) 8 24 [.int .u32, .int .u32] (by kernel_rfl) _ _ _ hm2)
  obtain rfl : l2 = _ := hl2
  have bd2_0 := bounds_u32 wf2_0
  have bd2_1 := bounds_u32 wf2_1
  clear hA0 hval0
  obtain ⟨f_, rfl⟩ : ∃ k : Nat, n0_0 = ((k : Nat) : Int) := ⟨n0_0.toNat, by omega⟩
  obtain ⟨t_, rfl⟩ : ∃ k : Nat, n0_1 = ((k : Nat) : Int) := ⟨n0_1.toNat, by omega⟩
  obtain ⟨s_, rfl⟩ : ∃ k : Nat, a0 = ((k : Nat) : Int) := ⟨a0.toNat, by omega⟩
  obtain ⟨d_, rfl⟩ : ∃ k : Nat, a1 = ((k : Nat) : Int) := ⟨a1.toNat, by omega⟩
  obtain ⟨s2, rfl⟩ : ∃ k : Nat, b0 = ((k : Nat) : Int) := ⟨b0.toNat, by omega⟩
  obtain ⟨d2, rfl⟩ : ∃ k : Nat, b1 = ((k : Nat) : Int) := ⟨b1.toNat, by omega⟩
  subst hx0_3
  refine Calls.mono (plain_c s_ d_ s2 d2 f_ t_ pl xs fa fc W hat0_3 (by omega) (by omega) (by omega) (by omega) (by omega) (by omega) (by omega) (by simp only [maxLen] at cm0_3; omega)) fun e W' ⟨he, bel⟩ => ?_
  subst he
  exact ⟨_, rfl, _, _, _, [], _, [], hW', trodAll_mk1 (shut_bool Try.underlying4 _), (trodAll_cons_mk (Below.trod laidOut (by kernel_rfl) (of_decide_eq_true (by kernel_rfl)) k0 bel lt0) (trodAll_cons_mk (Below.trod laidOut (by kernel_rfl) (of_decide_eq_true (by kernel_rfl)) k1 bel lt1) (trodAll_cons_mk (Below.trod laidOut (by kernel_rfl) (of_decide_eq_true (by kernel_rfl)) k2 bel lt2) trodAll_mk0))), rfl, bel.frame _, fun h => by cases h⟩

theorem over : Rows.transPlainRow.holds Try.pinned (OpenSpec.ofChange Rows.transPlainSpec) :=
  OpenClaim.holds_of_wide 4 Try.f4 rfl rfl rfl rfl rfl rfl rfl ⟨rfl, rfl, rfl, rfl, rfl⟩ rfl rfl rfl rfl rfl (by kernel_rfl) Try.func4 (by kernel_rfl)
    (of_decide_eq_true (by kernel_rfl)) (by unfold Func.isWrapper; first | (rw [if_pos (by decide +kernel)]; kernel_rfl) | (rw [if_neg (by decide +kernel)]; exact ⟨rfl, rfl⟩))
    (fun os started H enc _ => lifted os started H enc)

theorem proved : Rows.TransPlainSaid :=
  over
end Go.Proofs.Ytgohlpdgeicncaa.TransPlain

