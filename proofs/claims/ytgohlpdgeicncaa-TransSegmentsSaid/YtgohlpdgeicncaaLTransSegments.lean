/-
  TransSegments: for every input the law answers true and leaves its arguments as they were. No condition.
-/
import Derived.Test.YtgohlpdgeicncaaRows
import Derived.Test.YtgohlpdgeicncaaVF
import Derived.Test.YtgohlpdgeicncaaTr11
import Derived.ProofKit
import Derived.OpenShut
import Derived.ChangeArms
set_option linter.unusedVariables false
set_option linter.unusedSimpArgs false
set_option maxRecDepth 20000
namespace Go.Proofs.Ytgohlpdgeicncaa.TransSegments
open Go.ChangeShapes Go.WideShapes Go.ChangeAt Go.RowKit Base
open Go.Proofs.Ytgohlpdgeicncaa.Oct
theorem opened2 {H : Type} {enc : TypeId × Value → H} {P : Program} {w : World} {base : Nat} {spare : Nat → Bool} {held : Bool} {l : List Value} (F : F2 (leafOK enc P w base spare held) [.int .u16, .int .u16, .int .u32, .int .u32, .int .u8, .int .u16, .int .u16, .slice 5, .slice 5] l) : ∃ (n2_0 : Int) (n2_1 : Int) (n2_2 : Int) (n2_3 : Int) (n2_4 : Int) (n2_5 : Int) (n2_6 : Int) (oa : Option Addr) (ol oc : Nat) (fa : Option Addr) (fl_ fc : Nat), l = [.int .u16 n2_0, .int .u16 n2_1, .int .u32 n2_2, .int .u32 n2_3, .int .u8 n2_4, .int .u16 n2_5, .int .u16 n2_6, .slice oa ol oc, .slice fa fl_ fc] ∧ ((Lit.int .u16 n2_0).wf = true) ∧ ((Lit.int .u16 n2_1).wf = true) ∧ ((Lit.int .u32 n2_2).wf = true) ∧ ((Lit.int .u32 n2_3).wf = true) ∧ ((Lit.int .u8 n2_4).wf = true) ∧ ((Lit.int .u16 n2_5).wf = true) ∧ ((Lit.int .u16 n2_6).wf = true) ∧ (ol ≤ oc ∧ oc ≤ maxLen ∧ (0 < oc → ∃ adr, oa = some adr) ∧ ∀ adr, oa = some adr → ∀ i, i < ol → ∃ cs m x, w.cells? base (adr.add (i * P.cellsOf 5)) (P.cellsOf 5) = some cs ∧ DataW.trod enc P w base spare held m 5 cs = some x) ∧ (fl_ ≤ fc ∧ fc ≤ maxLen ∧ (0 < fc → ∃ adr, fa = some adr) ∧ ∀ adr, fa = some adr → ∀ i, i < fl_ → ∃ cs m x, w.cells? base (adr.add (i * P.cellsOf 5)) (P.cellsOf 5) = some cs ∧ DataW.trod enc P w base spare held m 5 cs = some x) := by
  obtain ⟨_, _, rfl, ⟨n2_0, rfl, wf2_0⟩, F1_⟩ := F2_un F
  clear F
  obtain ⟨_, _, rfl, ⟨n2_1, rfl, wf2_1⟩, F2_⟩ := F2_un F1_
  clear F1_
  obtain ⟨_, _, rfl, ⟨n2_2, rfl, wf2_2⟩, F3_⟩ := F2_un F2_
  clear F2_
  obtain ⟨_, _, rfl, ⟨n2_3, rfl, wf2_3⟩, F4_⟩ := F2_un F3_
  clear F3_
  obtain ⟨_, _, rfl, ⟨n2_4, rfl, wf2_4⟩, F5_⟩ := F2_un F4_
  clear F4_
  obtain ⟨_, _, rfl, ⟨n2_5, rfl, wf2_5⟩, F6_⟩ := F2_un F5_
  clear F5_
  obtain ⟨_, _, rfl, ⟨n2_6, rfl, wf2_6⟩, F7_⟩ := F2_un F6_
  clear F6_
  obtain ⟨_, _, rfl, ⟨oa, ol, oc, rfl, sf2_7⟩, F8_⟩ := F2_un F7_
  clear F7_
  obtain ⟨_, _, rfl, ⟨fa, fl_, fc, rfl, sf2_8⟩, F9_⟩ := F2_un F8_
  clear F8_
  obtain rfl := F2_un0 F9_
  exact ⟨n2_0, n2_1, n2_2, n2_3, n2_4, n2_5, n2_6, oa, ol, oc, fa, fl_, fc, rfl, wf2_0, wf2_1, wf2_2, wf2_3, wf2_4, wf2_5, wf2_6, sf2_7, sf2_8⟩

theorem own : ownKnob Try.prog.godebug = none := by kernel_rfl
theorem laidOut : laidOutB Try.prog = true := by kernel_rfl
set_option maxRecDepth 100000 in
set_option maxHeartbeats 400000 in
theorem lifted (os : Os) (started : os.Started) (H : Type) (enc : TypeId × Value → H) :
    ReturnsInHanded {} Try.checked os 6 .any (Rows.transSegmentsSpec.pre6 enc Try.prog Try.f6 Rows.transSegmentsRow.domain false) (Rows.transSegmentsSpec.post enc Try.prog Try.f6 false true false false) := by
  refine returnsInHanded_of_change (C := Try.checked) own started (by kernel_rfl) Try.func6
    (ChangeSpec.witness6 (enc := enc) (C := Try.checked) false ⟨#[], #[Value.int .u32 0, Value.int .u32 0, Value.agg ([Value.int .u16 0, Value.int .u16 0, Value.int .u32 0, Value.int .u32 0, Value.int .u8 0, Value.int .u16 0, Value.int .u16 0, Value.slice none 0 0, Value.slice none 0 0]).toArray], []⟩ 12 (by kernel_rfl) (by kernel_rfl) (by kernel_rfl) (by kernel_rfl)) ?_
  intro W base args ds gs before hval0 hW hcnd _
  have hval : ∀ (j : Nat) t v, Try.f6.params[j]? = some t → args[j]? = some v → Value.okWide Try.prog W .any base t v := hval0
  have hW' := hW
  obtain ⟨p, q, hA0, hV, rfl, hfz, hnd⟩ := hW
  have hA : DataW.TrodAll enc Try.prog W 0 (fun _ => true) true Try.f6.params.toList args.toList ds p := hA0
  rw [Try.params6] at hA hval
  obtain ⟨v0, vs0, d0, ds0, p0, q0, hargs, rfl, rfl, h0, r0⟩ := trodAll_cons hA
  obtain ⟨v1, vs1, d1, ds1, p1, q1, rfl, rfl, rfl, h1, r1⟩ := trodAll_cons r0
  obtain ⟨v2, vs2, d2, ds2, p2, q2, rfl, rfl, rfl, h2, r2⟩ := trodAll_cons r1
  obtain ⟨rfl, rfl, rfl⟩ := trodAll_nil r2
  obtain rfl : args = #[v0, v1, v2] := by cases args; simp_all
  obtain ⟨rfl, rfl⟩ := trodVars_none hV
  have k0 := h0
  have lt0 : ∀ x ∈ p0, x.block < W.heap.size := by obtain ⟨m, hm⟩ := k0; exact DataW.trod_lt m _ _ _ hm
  obtain ⟨si, rfl, rfl, rfl, wf0⟩ := open_int Try.underlying23 (hval 0 23 v0 rfl rfl) h0
  have bd0 := bounds_u32 wf0
  have k1 := h1
  have lt1 : ∀ x ∈ p1, x.block < W.heap.size := by obtain ⟨m, hm⟩ := k1; exact DataW.trod_lt m _ _ _ hm
  obtain ⟨di, rfl, rfl, rfl, wf1⟩ := open_int Try.underlying23 (hval 1 23 v1 rfl rfl) h1
  have bd1 := bounds_u32 wf1
  have k2 := h2
  have lt2 : ∀ x ∈ p2, x.block < W.heap.size := by obtain ⟨m, hm⟩ := k2; exact DataW.trod_lt m _ _ _ hm
  obtain ⟨cs2, rfl, hz2⟩ : ∃ cs, v2 = .agg cs ∧ cs.size = Try.prog.cellsOf 52 := by have hq := (hval 2 52 v2 rfl rfl); simp only [Value.okWide, Try.underlying52] at hq; obtain ⟨cs, e1, e2, _⟩ := hq; exact ⟨cs, e1, e2⟩
  obtain ⟨l2, rfl⟩ : ∃ l : List Value, cs2 = l.toArray := ⟨cs2.toList, by simp⟩
  obtain ⟨m2, hm2⟩ := h2
  obtain ⟨n2_0, n2_1, n2_2, n2_3, n2_4, n2_5, n2_6, oa, ol, oc, fa, fl_, fc, hl2, wf2_0, wf2_1, wf2_2, wf2_3, wf2_4, wf2_5, wf2_6, sf2_7, sf2_8⟩ := opened2 (flat_ok (P := Try.prog) 8 52 [.int .u16, .int .u16, .int .u32, .int .u32, .int .u8, .int .u16, .int .u16, .slice 5, .slice 5] (by kernel_rfl) _ _ _ hm2)
  obtain rfl : l2 = _ := hl2
  obtain ⟨lc2_7, cm2_7, hs2_7, hr2_7⟩ := sf2_7
  obtain ⟨lc2_8, cm2_8, hs2_8, hr2_8⟩ := sf2_8
  have bd2_0 := bounds_u16 wf2_0
  have bd2_1 := bounds_u16 wf2_1
  have bd2_2 := bounds_u32 wf2_2
  have bd2_3 := bounds_u32 wf2_3
  have bd2_4 := bounds_u8 wf2_4
  have bd2_5 := bounds_u16 wf2_5
  have bd2_6 := bounds_u16 wf2_6
  obtain ⟨os, hx2_7, hat2_7, hp2_7⟩ := at_of (e := 5) (α := UInt8) (g := b8) (p := fun x => True) (by kernel_rfl) lc2_7 hs2_7 hr2_7 (fun m cs x hx => by
    have F := flat_ok (P := Try.prog) 8 5 [.int .u8] (by kernel_rfl) _ _ _ hx
    simp only [F2_cons, F2_nil, leafOK] at F
    obtain ⟨_, _, rfl, ⟨y, rfl, wy⟩, rfl⟩ := F
    exact ⟨UInt8.ofNat y.toNat, congrArg (fun v => [v]) (b8_of wy), trivial⟩)
  obtain ⟨xs, hx2_8, hat2_8, hp2_8⟩ := at_of (e := 5) (α := UInt8) (g := b8) (p := fun x => True) (by kernel_rfl) lc2_8 hs2_8 hr2_8 (fun m cs x hx => by
    have F := flat_ok (P := Try.prog) 8 5 [.int .u8] (by kernel_rfl) _ _ _ hx
    simp only [F2_cons, F2_nil, leafOK] at F
    obtain ⟨_, _, rfl, ⟨y, rfl, wy⟩, rfl⟩ := F
    exact ⟨UInt8.ofNat y.toNat, congrArg (fun v => [v]) (b8_of wy), trivial⟩)
  clear hA0 hval0
  obtain ⟨s_, rfl⟩ : ∃ k : Nat, si = ((k : Nat) : Int) := ⟨si.toNat, by omega⟩
  obtain ⟨d_, rfl⟩ : ∃ k : Nat, di = ((k : Nat) : Int) := ⟨di.toNat, by omega⟩
  obtain ⟨fr, rfl⟩ : ∃ k : Nat, n2_0 = ((k : Nat) : Int) := ⟨n2_0.toNat, by omega⟩
  obtain ⟨to_, rfl⟩ : ∃ k : Nat, n2_1 = ((k : Nat) : Int) := ⟨n2_1.toNat, by omega⟩
  obtain ⟨sq, rfl⟩ : ∃ k : Nat, n2_2 = ((k : Nat) : Int) := ⟨n2_2.toNat, by omega⟩
  obtain ⟨ak, rfl⟩ : ∃ k : Nat, n2_3 = ((k : Nat) : Int) := ⟨n2_3.toNat, by omega⟩
  obtain ⟨fl, rfl⟩ : ∃ d : UInt8, n2_4 = ((d.toNat : Nat) : Int) := ⟨UInt8.ofNat n2_4.toNat, by rw [UInt8.toNat_ofNat', Nat.mod_eq_of_lt (by omega)]; omega⟩
  obtain ⟨wi, rfl⟩ : ∃ k : Nat, n2_5 = ((k : Nat) : Int) := ⟨n2_5.toNat, by omega⟩
  obtain ⟨ur, rfl⟩ : ∃ k : Nat, n2_6 = ((k : Nat) : Int) := ⟨n2_6.toNat, by omega⟩
  subst hx2_7
  subst hx2_8
  refine Calls.mono (segments_c s_ d_ fr to_ sq ak fl wi ur os xs oa fa oc fc W hat2_7 hat2_8 (by omega) (by omega) (by omega) (by omega) (by omega) (by omega) (by omega) (by omega) (by simp only [maxLen] at cm2_7; omega) (by simp only [maxLen] at cm2_8; omega) (by omega) (by omega)) fun e W' ⟨he, bel⟩ => ?_
  subst he
  exact ⟨_, rfl, _, _, _, [], _, [], hW', trodAll_mk1 (shut_bool Try.underlying4 _), (trodAll_cons_mk (Below.trod laidOut (by kernel_rfl) (of_decide_eq_true (by kernel_rfl)) k0 bel lt0) (trodAll_cons_mk (Below.trod laidOut (by kernel_rfl) (of_decide_eq_true (by kernel_rfl)) k1 bel lt1) (trodAll_cons_mk (Below.trod laidOut (by kernel_rfl) (of_decide_eq_true (by kernel_rfl)) k2 bel lt2) trodAll_mk0))), rfl, bel.frame _, fun h => by cases h⟩

theorem over : Rows.transSegmentsRow.holds Try.pinned (OpenSpec.ofChange Rows.transSegmentsSpec) :=
  OpenClaim.holds_of_wide 6 Try.f6 rfl rfl rfl rfl rfl rfl rfl ⟨rfl, rfl, rfl, rfl, rfl⟩ rfl rfl rfl rfl rfl (by kernel_rfl) Try.func6 (by kernel_rfl)
    (of_decide_eq_true (by kernel_rfl)) (by unfold Func.isWrapper; first | (rw [if_pos (by decide +kernel)]; kernel_rfl) | (rw [if_neg (by decide +kernel)]; exact ⟨rfl, rfl⟩))
    (fun os started H enc _ => lifted os started H enc)

theorem proved : Rows.TransSegmentsSaid :=
  over
end Go.Proofs.Ytgohlpdgeicncaa.TransSegments

