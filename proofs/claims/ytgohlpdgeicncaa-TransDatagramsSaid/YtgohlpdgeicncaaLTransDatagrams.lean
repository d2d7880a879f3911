/-
  TransDatagrams: for every input the law answers true and leaves its arguments as they were. No condition.
-/
import Derived.Test.YtgohlpdgeicncaaRows
import Derived.Test.YtgohlpdgeicncaaVF
import Derived.Test.YtgohlpdgeicncaaTr4
import Derived.ProofKit
import Derived.OpenShut
import Derived.ChangeArms
set_option linter.unusedVariables false
set_option linter.unusedSimpArgs false
set_option maxRecDepth 20000
namespace Go.Proofs.Ytgohlpdgeicncaa.TransDatagrams
open Go.ChangeShapes Go.WideShapes Go.ChangeAt Go.RowKit Base
open Go.Proofs.Ytgohlpdgeicncaa.Oct
theorem opened1 {H : Type} {enc : TypeId × Value → H} {P : Program} {w : World} {base : Nat} {spare : Nat → Bool} {held : Bool} {l : List Value} (F : F2 (leafOK enc P w base spare held) [.int .u16, .int .u16, .bool, .slice 5] l) : ∃ (n1_0 : Int) (n1_1 : Int) (pl : Bool) (fa : Option Addr) (fl fc : Nat), l = [.int .u16 n1_0, .int .u16 n1_1, .bool pl, .slice fa fl fc] ∧ ((Lit.int .u16 n1_0).wf = true) ∧ ((Lit.int .u16 n1_1).wf = true) ∧ (fl ≤ fc ∧ fc ≤ maxLen ∧ (0 < fc → ∃ adr, fa = some adr) ∧ ∀ adr, fa = some adr → ∀ i, i < fl → ∃ cs m x, w.cells? base (adr.add (i * P.cellsOf 5)) (P.cellsOf 5) = some cs ∧ DataW.trod enc P w base spare held m 5 cs = some x) := by
  obtain ⟨_, _, rfl, ⟨n1_0, rfl, wf1_0⟩, F1_⟩ := F2_un F
  clear F
  obtain ⟨_, _, rfl, ⟨n1_1, rfl, wf1_1⟩, F2_⟩ := F2_un F1_
  clear F1_
  obtain ⟨_, _, rfl, ⟨pl, rfl⟩, F3_⟩ := F2_un F2_
  clear F2_
  obtain ⟨_, _, rfl, ⟨fa, fl, fc, rfl, sf1_3⟩, F4_⟩ := F2_un F3_
  clear F3_
  obtain rfl := F2_un0 F4_
  exact ⟨n1_0, n1_1, pl, fa, fl, fc, rfl, wf1_0, wf1_1, sf1_3⟩

theorem opened0 {H : Type} {enc : TypeId × Value → H} {P : Program} {w : World} {base : Nat} {spare : Nat → Bool} {held : Bool} {l : List Value} (F : F2 (leafOK enc P w base spare held) [.int .u32, .int .u32] l) : ∃ (a0 : Int) (a1 : Int), l = [.int .u32 a0, .int .u32 a1] ∧ ((Lit.int .u32 a0).wf = true) ∧ ((Lit.int .u32 a1).wf = true) := by
  obtain ⟨_, _, rfl, ⟨a0, rfl, wf0_0⟩, F1_⟩ := F2_un F
  clear F
  obtain ⟨_, _, rfl, ⟨a1, rfl, wf0_1⟩, F2_⟩ := F2_un F1_
  clear F1_
  obtain rfl := F2_un0 F2_
  exact ⟨a0, a1, rfl, wf0_0, wf0_1⟩

theorem own : ownKnob Try.prog.godebug = none := by kernel_rfl
theorem laidOut : laidOutB Try.prog = true := by kernel_rfl
set_option maxRecDepth 100000 in
set_option maxHeartbeats 400000 in
theorem lifted (os : Os) (started : os.Started) (H : Type) (enc : TypeId × Value → H) :
    ReturnsInHanded {} Try.checked os 3 .any (Rows.transDatagramsSpec.pre6 enc Try.prog Try.f3 Rows.transDatagramsRow.domain false) (Rows.transDatagramsSpec.post enc Try.prog Try.f3 false true false false) := by
  refine returnsInHanded_of_change (C := Try.checked) own started (by kernel_rfl) Try.func3
    (ChangeSpec.witness6 (enc := enc) (C := Try.checked) false ⟨#[], #[Value.agg ([Value.int .u32 0, Value.int .u32 0]).toArray, Value.agg ([Value.int .u16 0, Value.int .u16 0, Value.bool false, Value.slice none 0 0]).toArray, Value.slice none 0 0], []⟩ 12 (by kernel_rfl) (by kernel_rfl) (by kernel_rfl) (by kernel_rfl)) ?_
  intro W base args ds gs before hval0 hW hcnd _
  have hval : ∀ (j : Nat) t v, Try.f3.params[j]? = some t → args[j]? = some v → Value.okWide Try.prog W .any base t v := hval0
  have hW' := hW
  obtain ⟨p, q, hA0, hV, rfl, hfz, hnd⟩ := hW
  have hA : DataW.TrodAll enc Try.prog W 0 (fun _ => true) true Try.f3.params.toList args.toList ds p := hA0
  rw [Try.params3] at hA hval
  obtain ⟨v0, vs0, d0, ds0, p0, q0, hargs, rfl, rfl, h0, r0⟩ := trodAll_cons hA
  obtain ⟨v1, vs1, d1, ds1, p1, q1, rfl, rfl, rfl, h1, r1⟩ := trodAll_cons r0
  obtain ⟨v2, vs2, d2, ds2, p2, q2, rfl, rfl, rfl, h2, r2⟩ := trodAll_cons r1
  obtain ⟨rfl, rfl, rfl⟩ := trodAll_nil r2
  obtain rfl : args = #[v0, v1, v2] := by cases args; simp_all
  obtain ⟨rfl, rfl⟩ := trodVars_none hV
  have k0 := h0
  have lt0 : ∀ x ∈ p0, x.block < W.heap.size := by obtain ⟨m, hm⟩ := k0; exact DataW.trod_lt m _ _ _ hm
  obtain ⟨cs0, rfl, hz0⟩ : ∃ cs, v0 = .agg cs ∧ cs.size = Try.prog.cellsOf 24 := by have hq := (hval 0 24 v0 rfl rfl); simp only [Value.okWide, Try.underlying24] at hq; obtain ⟨cs, e1, e2, _⟩ := hq; exact ⟨cs, e1, e2⟩
  obtain ⟨l0, rfl⟩ : ∃ l : List Value, cs0 = l.toArray := ⟨cs0.toList, by simp⟩
  obtain ⟨m0, hm0⟩ := h0
  obtain ⟨a0, a1, hl0, wf0_0, wf0_1⟩ := opened0 (flat_ok (P := Try.prog) 8 24 [.int .u32, .int .u32] (by kernel_rfl) _ _ _ hm0)
  obtain rfl : l0 = _ := hl0
  have bd0_0 := bounds_u32 wf0_0
  have bd0_1 := bounds_u32 wf0_1
  have k1 := h1
  have lt1 : ∀ x ∈ p1, x.block < W.heap.size := by obtain ⟨m, hm⟩ := k1; exact DataW.trod_lt m _ _ _ hm
  obtain ⟨cs1, rfl, hz1⟩ : ∃ cs, v1 = .agg cs ∧ cs.size = Try.prog.cellsOf 28 := by have hq := (hval 1 28 v1 rfl rfl); simp only [Value.okWide, Try.underlying28] at hq; obtain ⟨cs, e1, e2, _⟩ := hq; exact ⟨cs, e1, e2⟩
  obtain ⟨l1, rfl⟩ : ∃ l : List Value, cs1 = l.toArray := ⟨cs1.toList, by simp⟩
  obtain ⟨m1, hm1⟩ := h1
  obtain ⟨n1_0, n1_1, pl, fa, fl, fc, hl1, wf1_0, wf1_1, sf1_3⟩ := opened1 (flat_ok (P := Try.prog) 8 28 [.int .u16, .int .u16, .bool, .slice 5] (by kernel_rfl) _ _ _ hm1)
  obtain rfl : l1 = _ := hl1
  obtain ⟨lc1_3, cm1_3, hs1_3, hr1_3⟩ := sf1_3
  have bd1_0 := bounds_u16 wf1_0
  have bd1_1 := bounds_u16 wf1_1
  obtain ⟨xs, hx1_3, hat1_3, hp1_3⟩ := at_of (e := 5) (α := UInt8) (g := b8) (p := fun x => True) (by kernel_rfl) lc1_3 hs1_3 hr1_3 (fun m cs x hx => by
    have F := flat_ok (P := Try.prog) 8 5 [.int .u8] (by kernel_rfl) _ _ _ hx
    simp only [F2_cons, F2_nil, leafOK] at F
    obtain ⟨_, _, rfl, ⟨y, rfl, wy⟩, rfl⟩ := F
    exact ⟨UInt8.ofNat y.toNat, congrArg (fun v => [v]) (b8_of wy), trivial⟩)
  have k2 := h2
  have lt2 : ∀ x ∈ p2, x.block < W.heap.size := by obtain ⟨m, hm⟩ := k2; exact DataW.trod_lt m _ _ _ hm
  obtain ⟨ma, ml, mc_, rfl⟩ := okWide_slice Try.underlying26 (hval 2 26 v2 rfl rfl)
  obtain ⟨m2, hm2⟩ := h2
  have F2 := flat_ok (P := Try.prog) 3 26 [.slice 5] (by kernel_rfl) _ _ _ hm2
  simp only [F2_cons, F2_nil, leafOK] at F2
  obtain ⟨_, _, E2, ⟨a_, l_, c_, rfl, lc2, cm2, hs2, hr2⟩, rfl⟩ := F2
  have E2' : ma = a_ ∧ ml = l_ ∧ mc_ = c_ := by simpa [Value.cells] using E2
  obtain ⟨rfl, rfl, rfl⟩ := E2'
  obtain ⟨ys, hx2, hat2, hp2⟩ := at_of (e := 5) (α := UInt8) (g := b8) (p := fun x => True) (by kernel_rfl) lc2 hs2 hr2 (fun m cs x hx => by
    have F := flat_ok (P := Try.prog) 8 5 [.int .u8] (by kernel_rfl) _ _ _ hx
    simp only [F2_cons, F2_nil, leafOK] at F
    obtain ⟨_, _, rfl, ⟨y, rfl, wy⟩, rfl⟩ := F
    exact ⟨UInt8.ofNat y.toNat, congrArg (fun v => [v]) (b8_of wy), trivial⟩)
  clear hA0 hval0
  obtain ⟨s_, rfl⟩ : ∃ k : Nat, a0 = ((k : Nat) : Int) := ⟨a0.toNat, by omega⟩
  obtain ⟨d_, rfl⟩ : ∃ k : Nat, a1 = ((k : Nat) : Int) := ⟨a1.toNat, by omega⟩
  obtain ⟨f_, rfl⟩ : ∃ k : Nat, n1_0 = ((k : Nat) : Int) := ⟨n1_0.toNat, by omega⟩
  obtain ⟨t_, rfl⟩ : ∃ k : Nat, n1_1 = ((k : Nat) : Int) := ⟨n1_1.toNat, by omega⟩
  subst hx1_3
  subst hx2
  refine Calls.mono (datagrams_c s_ d_ f_ t_ pl xs ys fa ma fc mc_ W hat1_3 hat2 (by omega) (by omega) (by omega) (by omega) (by omega) (by omega) (by simp only [maxLen] at cm1_3; omega) (by simp only [maxLen] at cm2; omega)) fun e W' ⟨he, bel⟩ => ?_
  subst he
  exact ⟨_, rfl, _, _, _, [], _, [], hW', trodAll_mk1 (shut_bool Try.underlying4 _), (trodAll_cons_mk (Below.trod laidOut (by kernel_rfl) (of_decide_eq_true (by kernel_rfl)) k0 bel lt0) (trodAll_cons_mk (Below.trod laidOut (by kernel_rfl) (of_decide_eq_true (by kernel_rfl)) k1 bel lt1) (trodAll_cons_mk (Below.trod laidOut (by kernel_rfl) (of_decide_eq_true (by kernel_rfl)) k2 bel lt2) trodAll_mk0))), rfl, bel.frame _, fun h => by cases h⟩

theorem over : Rows.transDatagramsRow.holds Try.pinned (OpenSpec.ofChange Rows.transDatagramsSpec) :=
  OpenClaim.holds_of_wide 3 Try.f3 rfl rfl rfl rfl rfl rfl rfl ⟨rfl, rfl, rfl, rfl, rfl⟩ rfl rfl rfl rfl rfl (by kernel_rfl) Try.func3 (by kernel_rfl)
    (of_decide_eq_true (by kernel_rfl)) (by unfold Func.isWrapper; first | (rw [if_pos (by decide +kernel)]; kernel_rfl) | (rw [if_neg (by decide +kernel)]; exact ⟨rfl, rfl⟩))
    (fun os started H enc _ => lifted os started H enc)

theorem proved : Rows.TransDatagramsSaid :=
  over
end Go.Proofs.Ytgohlpdgeicncaa.TransDatagrams

