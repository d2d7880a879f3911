/-
  EtherWrites: for every input the law answers true and leaves its arguments as they were. No condition.
-/
import Derived.Test.YtnhmajdpjapgjaaRows
import Derived.Test.YtnhmajdpjapgjaaVF
import Derived.Test.YtnhmajdpjapgjaaEth4
import Derived.ProofKit
import Derived.OpenShut
import Derived.ChangeArms
set_option linter.unusedVariables false
set_option linter.unusedSimpArgs false
set_option maxRecDepth 20000
namespace Go.Proofs.Ytnhmajdpjapgjaa.EtherWrites
open Go.ChangeShapes Go.WideShapes Go.ChangeAt Go.RowKit Base
open Go.Proofs.Ytnhmajdpjapgjaa.Oct
theorem opened0 {H : Type} {enc : TypeId × Value → H} {P : Program} {w : World} {base : Nat} {spare : Nat → Bool} {held : Bool} {l : List Value} (F : F2 (leafOK enc P w base spare held) [.int .u8, .int .u8, .int .u8, .int .u8, .int .u8, .int .u8, .int .u8, .int .u8, .int .u8, .int .u8, .int .u8, .int .u8, .int .u16, .slice 5] l) : ∃ (n0_0 : Int) (n0_1 : Int) (n0_2 : Int) (n0_3 : Int) (n0_4 : Int) (n0_5 : Int) (n0_6 : Int) (n0_7 : Int) (n0_8 : Int) (n0_9 : Int) (n0_10 : Int) (n0_11 : Int) (n0_12 : Int) (fa0 : Option Addr) (fl0 fc0 : Nat), l = [.int .u8 n0_0, .int .u8 n0_1, .int .u8 n0_2, .int .u8 n0_3, .int .u8 n0_4, .int .u8 n0_5, .int .u8 n0_6, .int .u8 n0_7, .int .u8 n0_8, .int .u8 n0_9, .int .u8 n0_10, .int .u8 n0_11, .int .u16 n0_12, .slice fa0 fl0 fc0] ∧ ((Lit.int .u8 n0_0).wf = true) ∧ ((Lit.int .u8 n0_1).wf = true) ∧ ((Lit.int .u8 n0_2).wf = true) ∧ ((Lit.int .u8 n0_3).wf = true) ∧ ((Lit.int .u8 n0_4).wf = true) ∧ ((Lit.int .u8 n0_5).wf = true) ∧ ((Lit.int .u8 n0_6).wf = true) ∧ ((Lit.int .u8 n0_7).wf = true) ∧ ((Lit.int .u8 n0_8).wf = true) ∧ ((Lit.int .u8 n0_9).wf = true) ∧ ((Lit.int .u8 n0_10).wf = true) ∧ ((Lit.int .u8 n0_11).wf = true) ∧ ((Lit.int .u16 n0_12).wf = true) ∧ (fl0 ≤ fc0 ∧ fc0 ≤ maxLen ∧ (0 < fc0 → ∃ adr, fa0 = some adr) ∧ ∀ adr, fa0 = some adr → ∀ i, i < fl0 → ∃ cs m x, w.cells? base (adr.add (i * P.cellsOf 5)) (P.cellsOf 5) = some cs ∧ DataW.trod enc P w base spare held m 5 cs = some x) := by
  obtain ⟨_, _, rfl, ⟨n0_0, rfl, wf0_0⟩, F1_⟩ := F2_un F
  clear F
  obtain ⟨_, _, rfl, ⟨n0_1, rfl, wf0_1⟩, F2_⟩ := F2_un F1_
  clear F1_
  obtain ⟨_, _, rfl, ⟨n0_2, rfl, wf0_2⟩, F3_⟩ := F2_un F2_
  clear F2_
  obtain ⟨_, _, rfl, ⟨n0_3, rfl, wf0_3⟩, F4_⟩ := F2_un F3_
  clear F3_
  obtain ⟨_, _, rfl, ⟨n0_4, rfl, wf0_4⟩, F5_⟩ := F2_un F4_
  clear F4_
  obtain ⟨_, _, rfl, ⟨n0_5, rfl, wf0_5⟩, F6_⟩ := F2_un F5_
  clear F5_
  obtain ⟨_, _, rfl, ⟨n0_6, rfl, wf0_6⟩, F7_⟩ := F2_un F6_
  clear F6_
  obtain ⟨_, _, rfl, ⟨n0_7, rfl, wf0_7⟩, F8_⟩ := F2_un F7_
  clear F7_
  obtain ⟨_, _, rfl, ⟨n0_8, rfl, wf0_8⟩, F9_⟩ := F2_un F8_
  clear F8_
  obtain ⟨_, _, rfl, ⟨n0_9, rfl, wf0_9⟩, F10_⟩ := F2_un F9_
  clear F9_
  obtain ⟨_, _, rfl, ⟨n0_10, rfl, wf0_10⟩, F11_⟩ := F2_un F10_
  clear F10_
  obtain ⟨_, _, rfl, ⟨n0_11, rfl, wf0_11⟩, F12_⟩ := F2_un F11_
  clear F11_
  obtain ⟨_, _, rfl, ⟨n0_12, rfl, wf0_12⟩, F13_⟩ := F2_un F12_
  clear F12_
  obtain ⟨_, _, rfl, ⟨fa0, fl0, fc0, rfl, sf0_13⟩, F14_⟩ := F2_un F13_
  clear F13_
  obtain rfl := F2_un0 F14_
  exact ⟨n0_0, n0_1, n0_2, n0_3, n0_4, n0_5, n0_6, n0_7, n0_8, n0_9, n0_10, n0_11, n0_12, fa0, fl0, fc0, rfl, wf0_0, wf0_1, wf0_2, wf0_3, wf0_4, wf0_5, wf0_6, wf0_7, wf0_8, wf0_9, wf0_10, wf0_11, wf0_12, sf0_13⟩

theorem own : ownKnob Try.prog.godebug = none := by kernel_rfl
theorem laidOut : laidOutB Try.prog = true := by kernel_rfl
set_option maxRecDepth 100000 in
set_option maxHeartbeats 400000 in
theorem lifted (os : Os) (started : os.Started) (H : Type) (enc : TypeId × Value → H) :
    ReturnsInHanded {} Try.checked os 4 .any (Rows.etherWritesSpec.pre6 enc Try.prog Try.f4 Rows.etherWritesRow.domain false) (Rows.etherWritesSpec.post enc Try.prog Try.f4 false true false false) := by
  refine returnsInHanded_of_change (C := Try.checked) own started (by kernel_rfl) Try.func4
    (ChangeSpec.witness6 (enc := enc) (C := Try.checked) false ⟨#[], #[Value.agg ([Value.int .u8 0, Value.int .u8 0, Value.int .u8 0, Value.int .u8 0, Value.int .u8 0, Value.int .u8 0, Value.int .u8 0, Value.int .u8 0, Value.int .u8 0, Value.int .u8 0, Value.int .u8 0, Value.int .u8 0, Value.int .u16 0, Value.slice none 0 0]).toArray], []⟩ 12 (by kernel_rfl) (by kernel_rfl) (by kernel_rfl) (by kernel_rfl)) ?_
  intro W base args ds gs before hval0 hW hcnd _
  have hval : ∀ (j : Nat) t v, Try.f4.params[j]? = some t → args[j]? = some v → Value.okWide Try.prog W .any base t v := hval0
  have hW' := hW
  obtain ⟨p, q, hA0, hV, rfl, hfz, hnd⟩ := hW
  have hA : DataW.TrodAll enc Try.prog W 0 (fun _ => true) true Try.f4.params.toList args.toList ds p := hA0
  rw [Try.params4] at hA hval
  obtain ⟨v0, vs0, d0, ds0, p0, q0, hargs, rfl, rfl, h0, r0⟩ := trodAll_cons hA
  obtain ⟨rfl, rfl, rfl⟩ := trodAll_nil r0
  obtain rfl : args = #[v0] := by cases args; simp_all
  obtain ⟨rfl, rfl⟩ := trodVars_none hV
  have k0 := h0
  have lt0 : ∀ x ∈ p0, x.block < W.heap.size := by obtain ⟨m, hm⟩ := k0; exact DataW.trod_lt m _ _ _ hm
  obtain ⟨cs0, rfl, hz0⟩ : ∃ cs, v0 = .agg cs ∧ cs.size = Try.prog.cellsOf 29 := by have hq := (hval 0 29 v0 rfl rfl); simp only [Value.okWide, Try.underlying29] at hq; obtain ⟨cs, e1, e2, _⟩ := hq; exact ⟨cs, e1, e2⟩
  obtain ⟨l0, rfl⟩ : ∃ l : List Value, cs0 = l.toArray := ⟨cs0.toList, by simp⟩
  obtain ⟨m0, hm0⟩ := h0
  obtain ⟨n0_0, n0_1, n0_2, n0_3, n0_4, n0_5, n0_6, n0_7, n0_8, n0_9, n0_10, n0_11, n0_12, fa0, fl0, fc0, hl0, wf0_0, wf0_1, wf0_2, wf0_3, wf0_4, wf0_5, wf0_6, wf0_7, wf0_8, wf0_9, wf0_10, wf0_11, wf0_12, sf0_13⟩ := opened0 (flat_ok (P := Try.prog) 8 29 [.int .u8, .int .u8, .int .u8, .int .u8, .int .u8, .int .u8, .int .u8, .int .u8, .int .u8, .int .u8, .int .u8, .int .u8, .int .u16, .slice 5] (by kernel_rfl) _ _ _ hm0)
  obtain rfl : l0 = _ := hl0
  obtain ⟨lc0_13, cm0_13, hs0_13, hr0_13⟩ := sf0_13
  have bd0_0 := bounds_u8 wf0_0
  have bd0_1 := bounds_u8 wf0_1
  have bd0_2 := bounds_u8 wf0_2
  have bd0_3 := bounds_u8 wf0_3
  have bd0_4 := bounds_u8 wf0_4
  have bd0_5 := bounds_u8 wf0_5
  have bd0_6 := bounds_u8 wf0_6
  have bd0_7 := bounds_u8 wf0_7
  have bd0_8 := bounds_u8 wf0_8
  have bd0_9 := bounds_u8 wf0_9
  have bd0_10 := bounds_u8 wf0_10
  have bd0_11 := bounds_u8 wf0_11
  have bd0_12 := bounds_u16 wf0_12
  obtain ⟨xs0, hx0_13, hat0_13, hp0_13⟩ := at_of (e := 5) (α := UInt8) (g := b8) (p := fun x => True) (by kernel_rfl) lc0_13 hs0_13 hr0_13 (fun m cs x hx => by
    have F := flat_ok (P := Try.prog) 8 5 [.int .u8] (by kernel_rfl) _ _ _ hx
    simp only [F2_cons, F2_nil, leafOK] at F
    obtain ⟨_, _, rfl, ⟨y, rfl, wy⟩, rfl⟩ := F
    exact ⟨UInt8.ofNat y.toNat, congrArg (fun v => [v]) (b8_of wy), trivial⟩)
  clear hA0 hval0
  obtain ⟨d0_0, rfl⟩ : ∃ d : UInt8, n0_0 = ((d.toNat : Nat) : Int) := ⟨UInt8.ofNat n0_0.toNat, by rw [UInt8.toNat_ofNat', Nat.mod_eq_of_lt (by omega)]; omega⟩
  obtain ⟨d0_1, rfl⟩ : ∃ d : UInt8, n0_1 = ((d.toNat : Nat) : Int) := ⟨UInt8.ofNat n0_1.toNat, by rw [UInt8.toNat_ofNat', Nat.mod_eq_of_lt (by omega)]; omega⟩
  obtain ⟨d0_2, rfl⟩ : ∃ d : UInt8, n0_2 = ((d.toNat : Nat) : Int) := ⟨UInt8.ofNat n0_2.toNat, by rw [UInt8.toNat_ofNat', Nat.mod_eq_of_lt (by omega)]; omega⟩
  obtain ⟨d0_3, rfl⟩ : ∃ d : UInt8, n0_3 = ((d.toNat : Nat) : Int) := ⟨UInt8.ofNat n0_3.toNat, by rw [UInt8.toNat_ofNat', Nat.mod_eq_of_lt (by omega)]; omega⟩
  obtain ⟨d0_4, rfl⟩ : ∃ d : UInt8, n0_4 = ((d.toNat : Nat) : Int) := ⟨UInt8.ofNat n0_4.toNat, by rw [UInt8.toNat_ofNat', Nat.mod_eq_of_lt (by omega)]; omega⟩
  obtain ⟨d0_5, rfl⟩ : ∃ d : UInt8, n0_5 = ((d.toNat : Nat) : Int) := ⟨UInt8.ofNat n0_5.toNat, by rw [UInt8.toNat_ofNat', Nat.mod_eq_of_lt (by omega)]; omega⟩
  obtain ⟨d0_6, rfl⟩ : ∃ d : UInt8, n0_6 = ((d.toNat : Nat) : Int) := ⟨UInt8.ofNat n0_6.toNat, by rw [UInt8.toNat_ofNat', Nat.mod_eq_of_lt (by omega)]; omega⟩
  obtain ⟨d0_7, rfl⟩ : ∃ d : UInt8, n0_7 = ((d.toNat : Nat) : Int) := ⟨UInt8.ofNat n0_7.toNat, by rw [UInt8.toNat_ofNat', Nat.mod_eq_of_lt (by omega)]; omega⟩
  obtain ⟨d0_8, rfl⟩ : ∃ d : UInt8, n0_8 = ((d.toNat : Nat) : Int) := ⟨UInt8.ofNat n0_8.toNat, by rw [UInt8.toNat_ofNat', Nat.mod_eq_of_lt (by omega)]; omega⟩
  obtain ⟨d0_9, rfl⟩ : ∃ d : UInt8, n0_9 = ((d.toNat : Nat) : Int) := ⟨UInt8.ofNat n0_9.toNat, by rw [UInt8.toNat_ofNat', Nat.mod_eq_of_lt (by omega)]; omega⟩
  obtain ⟨d0_10, rfl⟩ : ∃ d : UInt8, n0_10 = ((d.toNat : Nat) : Int) := ⟨UInt8.ofNat n0_10.toNat, by rw [UInt8.toNat_ofNat', Nat.mod_eq_of_lt (by omega)]; omega⟩
  obtain ⟨d0_11, rfl⟩ : ∃ d : UInt8, n0_11 = ((d.toNat : Nat) : Int) := ⟨UInt8.ofNat n0_11.toNat, by rw [UInt8.toNat_ofNat', Nat.mod_eq_of_lt (by omega)]; omega⟩
  obtain ⟨k0_, rfl⟩ : ∃ k : Nat, n0_12 = ((k : Nat) : Int) := ⟨n0_12.toNat, by omega⟩
  subst hx0_13
  refine Calls.mono (writes_c d0_0 d0_1 d0_2 d0_3 d0_4 d0_5 d0_6 d0_7 d0_8 d0_9 d0_10 d0_11 k0_ xs0 fa0 fc0 W hat0_13 (by omega) (by simp only [maxLen] at cm0_13; omega) (by omega)) fun e W' ⟨he, bel⟩ => ?_
  subst he
  exact ⟨_, rfl, _, _, _, [], _, [], hW', trodAll_mk1 (shut_bool Try.underlying4 _), (trodAll_cons_mk (Below.trod laidOut (by kernel_rfl) (of_decide_eq_true (by kernel_rfl)) k0 bel lt0) trodAll_mk0), rfl, bel.frame _, fun h => by cases h⟩

theorem over : Rows.etherWritesRow.holds Try.pinned (OpenSpec.ofChange Rows.etherWritesSpec) :=
  OpenClaim.holds_of_wide 4 Try.f4 rfl rfl rfl rfl rfl rfl rfl ⟨rfl, rfl, rfl, rfl, rfl⟩ rfl rfl rfl rfl rfl (by kernel_rfl) Try.func4 (by kernel_rfl)
    (of_decide_eq_true (by kernel_rfl)) (by unfold Func.isWrapper; first | (rw [if_pos (by decide +kernel)]; kernel_rfl) | (rw [if_neg (by decide +kernel)]; exact ⟨rfl, rfl⟩))
    (fun os started H enc _ => lifted os started H enc)

theorem proved : Rows.EtherWritesSaid :=
  over
end Go.Proofs.Ytnhmajdpjapgjaa.EtherWrites

