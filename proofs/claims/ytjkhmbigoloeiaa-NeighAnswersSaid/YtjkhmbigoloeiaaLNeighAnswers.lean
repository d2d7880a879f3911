/-
  NeighAnswers: for every input the law answers true and leaves its arguments as they were. No condition.
-/
import Derived.Test.YtjkhmbigoloeiaaRows
import Derived.Test.YtjkhmbigoloeiaaVF
import Derived.Test.YtjkhmbigoloeiaaNk11
import Derived.ProofKit
import Derived.OpenShut
import Derived.ChangeArms
set_option linter.unusedVariables false
set_option linter.unusedSimpArgs false
set_option maxRecDepth 20000
namespace Go.Proofs.Ytjkhmbigoloeiaa.NeighAnswers
open Go.ChangeShapes Go.WideShapes Go.ChangeAt Go.RowKit Base
open Go.Proofs.Ytjkhmbigoloeiaa.Oct
theorem opened1 {H : Type} {enc : TypeId × Value → H} {P : Program} {w : World} {base : Nat} {spare : Nat → Bool} {held : Bool} {l : List Value} (F : F2 (leafOK enc P w base spare held) [.int .u16, .int .u8, .int .u8, .int .u8, .int .u8, .int .u8, .int .u8, .int .u8, .int .u8, .int .u8, .int .u8, .int .u8, .int .u8, .int .u32, .int .u32] l) : ∃ (op : Int) (fr0 : Int) (fr1 : Int) (fr2 : Int) (fr3 : Int) (fr4 : Int) (fr5 : Int) (to0 : Int) (to1 : Int) (to2 : Int) (to3 : Int) (to4 : Int) (to5 : Int) (src : Int) (dst : Int), l = [.int .u16 op, .int .u8 fr0, .int .u8 fr1, .int .u8 fr2, .int .u8 fr3, .int .u8 fr4, .int .u8 fr5, .int .u8 to0, .int .u8 to1, .int .u8 to2, .int .u8 to3, .int .u8 to4, .int .u8 to5, .int .u32 src, .int .u32 dst] ∧ ((Lit.int .u16 op).wf = true) ∧ ((Lit.int .u8 fr0).wf = true) ∧ ((Lit.int .u8 fr1).wf = true) ∧ ((Lit.int .u8 fr2).wf = true) ∧ ((Lit.int .u8 fr3).wf = true) ∧ ((Lit.int .u8 fr4).wf = true) ∧ ((Lit.int .u8 fr5).wf = true) ∧ ((Lit.int .u8 to0).wf = true) ∧ ((Lit.int .u8 to1).wf = true) ∧ ((Lit.int .u8 to2).wf = true) ∧ ((Lit.int .u8 to3).wf = true) ∧ ((Lit.int .u8 to4).wf = true) ∧ ((Lit.int .u8 to5).wf = true) ∧ ((Lit.int .u32 src).wf = true) ∧ ((Lit.int .u32 dst).wf = true) := by
  obtain ⟨_, _, rfl, ⟨op, rfl, wf1_0⟩, F1_⟩ := F2_un F
  clear F
  obtain ⟨_, _, rfl, ⟨fr0, rfl, wf1_1⟩, F2_⟩ := F2_un F1_
  clear F1_
  obtain ⟨_, _, rfl, ⟨fr1, rfl, wf1_2⟩, F3_⟩ := F2_un F2_
  clear F2_
  obtain ⟨_, _, rfl, ⟨fr2, rfl, wf1_3⟩, F4_⟩ := F2_un F3_
  clear F3_
  obtain ⟨_, _, rfl, ⟨fr3, rfl, wf1_4⟩, F5_⟩ := F2_un F4_
  clear F4_
  obtain ⟨_, _, rfl, ⟨fr4, rfl, wf1_5⟩, F6_⟩ := F2_un F5_
  clear F5_
  obtain ⟨_, _, rfl, ⟨fr5, rfl, wf1_6⟩, F7_⟩ := F2_un F6_
  clear F6_
  obtain ⟨_, _, rfl, ⟨to0, rfl, wf1_7⟩, F8_⟩ := F2_un F7_
  clear F7_
  obtain ⟨_, _, rfl, ⟨to1, rfl, wf1_8⟩, F9_⟩ := F2_un F8_
  clear F8_
  obtain ⟨_, _, rfl, ⟨to2, rfl, wf1_9⟩, F10_⟩ := F2_un F9_
  clear F9_
  obtain ⟨_, _, rfl, ⟨to3, rfl, wf1_10⟩, F11_⟩ := F2_un F10_
  clear F10_
  obtain ⟨_, _, rfl, ⟨to4, rfl, wf1_11⟩, F12_⟩ := F2_un F11_
  clear F11_
  obtain ⟨_, _, rfl, ⟨to5, rfl, wf1_12⟩, F13_⟩ := F2_un F12_
  clear F12_
  obtain ⟨_, _, rfl, ⟨src, rfl, wf1_13⟩, F14_⟩ := F2_un F13_
  clear F13_
  obtain ⟨_, _, rfl, ⟨dst, rfl, wf1_14⟩, F15_⟩ := F2_un F14_
  clear F14_
  obtain rfl := F2_un0 F15_
  exact ⟨op, fr0, fr1, fr2, fr3, fr4, fr5, to0, to1, to2, to3, to4, to5, src, dst, rfl, wf1_0, wf1_1, wf1_2, wf1_3, wf1_4, wf1_5, wf1_6, wf1_7, wf1_8, wf1_9, wf1_10, wf1_11, wf1_12, wf1_13, wf1_14⟩

theorem opened0 {H : Type} {enc : TypeId × Value → H} {P : Program} {w : World} {base : Nat} {spare : Nat → Bool} {held : Bool} {l : List Value} (F : F2 (leafOK enc P w base spare held) [.int .u8, .int .u8, .int .u8, .int .u8, .int .u8, .int .u8, .int .u8, .int .u8, .int .u8, .int .u8, .int .u8, .int .u8, .int .u8, .int .u8, .int .u8, .int .u8, .int .u8, .int .u8, .int .u32, .int .u32, .int .i64, .int .i64, .int .i64, .int .i64, .int .i64, .slice 81, .int .u32, .string] l) : ∃ (lm0 : Int) (lm1 : Int) (lm2 : Int) (lm3 : Int) (lm4 : Int) (lm5 : Int) (wm0 : Int) (wm1 : Int) (wm2 : Int) (wm3 : Int) (wm4 : Int) (wm5 : Int) (pm0 : Int) (pm1 : Int) (pm2 : Int) (pm3 : Int) (pm4 : Int) (pm5 : Int) (lan : Int) (wan : Int) (bits : Int) (ms : Int) (m_m : Int) (m_c : Int) (m_u : Int) (fa : Option Addr) (fl fc : Nat) (dmz : Int) (uu : ByteArray), l = [.int .u8 lm0, .int .u8 lm1, .int .u8 lm2, .int .u8 lm3, .int .u8 lm4, .int .u8 lm5, .int .u8 wm0, .int .u8 wm1, .int .u8 wm2, .int .u8 wm3, .int .u8 wm4, .int .u8 wm5, .int .u8 pm0, .int .u8 pm1, .int .u8 pm2, .int .u8 pm3, .int .u8 pm4, .int .u8 pm5, .int .u32 lan, .int .u32 wan, .int .i64 bits, .int .i64 ms, .int .i64 m_m, .int .i64 m_c, .int .i64 m_u, .slice fa fl fc, .int .u32 dmz, .string uu] ∧ ((Lit.int .u8 lm0).wf = true) ∧ ((Lit.int .u8 lm1).wf = true) ∧ ((Lit.int .u8 lm2).wf = true) ∧ ((Lit.int .u8 lm3).wf = true) ∧ ((Lit.int .u8 lm4).wf = true) ∧ ((Lit.int .u8 lm5).wf = true) ∧ ((Lit.int .u8 wm0).wf = true) ∧ ((Lit.int .u8 wm1).wf = true) ∧ ((Lit.int .u8 wm2).wf = true) ∧ ((Lit.int .u8 wm3).wf = true) ∧ ((Lit.int .u8 wm4).wf = true) ∧ ((Lit.int .u8 wm5).wf = true) ∧ ((Lit.int .u8 pm0).wf = true) ∧ ((Lit.int .u8 pm1).wf = true) ∧ ((Lit.int .u8 pm2).wf = true) ∧ ((Lit.int .u8 pm3).wf = true) ∧ ((Lit.int .u8 pm4).wf = true) ∧ ((Lit.int .u8 pm5).wf = true) ∧ ((Lit.int .u32 lan).wf = true) ∧ ((Lit.int .u32 wan).wf = true) ∧ ((Lit.int .i64 bits).wf = true) ∧ ((Lit.int .i64 ms).wf = true) ∧ ((Lit.int .i64 m_m).wf = true) ∧ ((Lit.int .i64 m_c).wf = true) ∧ ((Lit.int .i64 m_u).wf = true) ∧ (fl ≤ fc ∧ fc ≤ maxLen ∧ (0 < fc → ∃ adr, fa = some adr) ∧ ∀ adr, fa = some adr → ∀ i, i < fl → ∃ cs m x, w.cells? base (adr.add (i * P.cellsOf 81)) (P.cellsOf 81) = some cs ∧ DataW.trod enc P w base spare held m 81 cs = some x) ∧ ((Lit.int .u32 dmz).wf = true) ∧ (uu.size ≤ maxLen) := by
  obtain ⟨_, _, rfl, ⟨lm0, rfl, wf0_0⟩, F1_⟩ := F2_un F
  clear F
  obtain ⟨_, _, rfl, ⟨lm1, rfl, wf0_1⟩, F2_⟩ := F2_un F1_
  clear F1_
  obtain ⟨_, _, rfl, ⟨lm2, rfl, wf0_2⟩, F3_⟩ := F2_un F2_
  clear F2_
  obtain ⟨_, _, rfl, ⟨lm3, rfl, wf0_3⟩, F4_⟩ := F2_un F3_
  clear F3_
  obtain ⟨_, _, rfl, ⟨lm4, rfl, wf0_4⟩, F5_⟩ := F2_un F4_
  clear F4_
  obtain ⟨_, _, rfl, ⟨lm5, rfl, wf0_5⟩, F6_⟩ := F2_un F5_
  clear F5_
  obtain ⟨_, _, rfl, ⟨wm0, rfl, wf0_6⟩, F7_⟩ := F2_un F6_
  clear F6_
  obtain ⟨_, _, rfl, ⟨wm1, rfl, wf0_7⟩, F8_⟩ := F2_un F7_
  clear F7_
  obtain ⟨_, _, rfl, ⟨wm2, rfl, wf0_8⟩, F9_⟩ := F2_un F8_
  clear F8_
  obtain ⟨_, _, rfl, ⟨wm3, rfl, wf0_9⟩, F10_⟩ := F2_un F9_
  clear F9_
  obtain ⟨_, _, rfl, ⟨wm4, rfl, wf0_10⟩, F11_⟩ := F2_un F10_
  clear F10_
  obtain ⟨_, _, rfl, ⟨wm5, rfl, wf0_11⟩, F12_⟩ := F2_un F11_
  clear F11_
  obtain ⟨_, _, rfl, ⟨pm0, rfl, wf0_12⟩, F13_⟩ := F2_un F12_
  clear F12_
  obtain ⟨_, _, rfl, ⟨pm1, rfl, wf0_13⟩, F14_⟩ := F2_un F13_
  clear F13_
  obtain ⟨_, _, rfl, ⟨pm2, rfl, wf0_14⟩, F15_⟩ := F2_un F14_
  clear F14_
  obtain ⟨_, _, rfl, ⟨pm3, rfl, wf0_15⟩, F16_⟩ := F2_un F15_
  clear F15_
  obtain ⟨_, _, rfl, ⟨pm4, rfl, wf0_16⟩, F17_⟩ := F2_un F16_
  clear F16_
  obtain ⟨_, _, rfl, ⟨pm5, rfl, wf0_17⟩, F18_⟩ := F2_un F17_
  clear F17_
  obtain ⟨_, _, rfl, ⟨lan, rfl, wf0_18⟩, F19_⟩ := F2_un F18_
  clear F18_
  obtain ⟨_, _, rfl, ⟨wan, rfl, wf0_19⟩, F20_⟩ := F2_un F19_
  clear F19_
  obtain ⟨_, _, rfl, ⟨bits, rfl, wf0_20⟩, F21_⟩ := F2_un F20_
  clear F20_
  obtain ⟨_, _, rfl, ⟨ms, rfl, wf0_21⟩, F22_⟩ := F2_un F21_
  clear F21_
  obtain ⟨_, _, rfl, ⟨m_m, rfl, wf0_22⟩, F23_⟩ := F2_un F22_
  clear F22_
  obtain ⟨_, _, rfl, ⟨m_c, rfl, wf0_23⟩, F24_⟩ := F2_un F23_
  clear F23_
  obtain ⟨_, _, rfl, ⟨m_u, rfl, wf0_24⟩, F25_⟩ := F2_un F24_
  clear F24_
  obtain ⟨_, _, rfl, ⟨fa, fl, fc, rfl, sf0_25⟩, F26_⟩ := F2_un F25_
  clear F25_
  obtain ⟨_, _, rfl, ⟨dmz, rfl, wf0_26⟩, F27_⟩ := F2_un F26_
  clear F26_
  obtain ⟨_, _, rfl, ⟨uu, rfl, hs0_27⟩, F28_⟩ := F2_un F27_
  clear F27_
  obtain rfl := F2_un0 F28_
  exact ⟨lm0, lm1, lm2, lm3, lm4, lm5, wm0, wm1, wm2, wm3, wm4, wm5, pm0, pm1, pm2, pm3, pm4, pm5, lan, wan, bits, ms, m_m, m_c, m_u, fa, fl, fc, dmz, uu, rfl, wf0_0, wf0_1, wf0_2, wf0_3, wf0_4, wf0_5, wf0_6, wf0_7, wf0_8, wf0_9, wf0_10, wf0_11, wf0_12, wf0_13, wf0_14, wf0_15, wf0_16, wf0_17, wf0_18, wf0_19, wf0_20, wf0_21, wf0_22, wf0_23, wf0_24, sf0_25, wf0_26, hs0_27⟩

theorem own : ownKnob Try.prog.godebug = none := by kernel_rfl
theorem laidOut : laidOutB Try.prog = true := by kernel_rfl
set_option maxRecDepth 100000 in
set_option maxHeartbeats 8000000 in
theorem lifted (os : Os) (started : os.Started) (H : Type) (enc : TypeId × Value → H) :
    ReturnsInHanded {} Try.checked os 3 .any (Rows.neighAnswersSpec.pre6 enc Try.prog Try.f3 Rows.neighAnswersRow.domain false) (Rows.neighAnswersSpec.post enc Try.prog Try.f3 false true false false) := by
  refine returnsInHanded_of_change (C := Try.checked) own started (by kernel_rfl) Try.func3
    (ChangeSpec.witness6 (enc := enc) (C := Try.checked) false ⟨#[], #[Value.agg ([Value.int .u8 0, Value.int .u8 0, Value.int .u8 0, Value.int .u8 0, Value.int .u8 0, Value.int .u8 0, Value.int .u8 0, Value.int .u8 0, Value.int .u8 0, Value.int .u8 0, Value.int .u8 0, Value.int .u8 0, Value.int .u8 0, Value.int .u8 0, Value.int .u8 0, Value.int .u8 0, Value.int .u8 0, Value.int .u8 0, Value.int .u32 0, Value.int .u32 0, Value.int .i64 0, Value.int .i64 0, Value.int .i64 0, Value.int .i64 0, Value.int .i64 0, Value.slice none 0 0, Value.int .u32 0, Value.string (bstr [])]).toArray, Value.agg ([Value.int .u16 0, Value.int .u8 0, Value.int .u8 0, Value.int .u8 0, Value.int .u8 0, Value.int .u8 0, Value.int .u8 0, Value.int .u8 0, Value.int .u8 0, Value.int .u8 0, Value.int .u8 0, Value.int .u8 0, Value.int .u8 0, Value.int .u32 0, Value.int .u32 0]).toArray], []⟩ 12 (by kernel_rfl) (by kernel_rfl) (by kernel_rfl) (by kernel_rfl)) ?_
  intro W base args ds gs before hval0 hW hcnd _
  have hval : ∀ (j : Nat) t v, Try.f3.params[j]? = some t → args[j]? = some v → Value.okWide Try.prog W .any base t v := hval0
  have hW' := hW
  obtain ⟨p, q, hA0, hV, rfl, hfz, hnd⟩ := hW
  have hA : DataW.TrodAll enc Try.prog W 0 (fun _ => true) true Try.f3.params.toList args.toList ds p := hA0
  rw [Try.params3] at hA hval
  obtain ⟨v0, vs0, d0, ds0, p0, q0, hargs, rfl, rfl, h0, r0⟩ := trodAll_cons hA
  obtain ⟨v1, vs1, d1, ds1, p1, q1, rfl, rfl, rfl, h1, r1⟩ := trodAll_cons r0
  obtain ⟨rfl, rfl, rfl⟩ := trodAll_nil r1
  obtain rfl : args = #[v0, v1] := by cases args; simp_all
  obtain ⟨rfl, rfl⟩ := trodVars_none hV
  have k0 := h0
  have lt0 : ∀ x ∈ p0, x.block < W.heap.size := by obtain ⟨m, hm⟩ := k0; exact DataW.trod_lt m _ _ _ hm
  obtain ⟨cs0, rfl, hz0⟩ : ∃ cs, v0 = .agg cs ∧ cs.size = Try.prog.cellsOf 28 := by have hq := (hval 0 28 v0 rfl rfl); simp only [Value.okWide, Try.underlying28] at hq; obtain ⟨cs, e1, e2, _⟩ := hq; exact ⟨cs, e1, e2⟩
  obtain ⟨l0, rfl⟩ : ∃ l : List Value, cs0 = l.toArray := ⟨cs0.toList, by simp⟩
  obtain ⟨m0, hm0⟩ := h0
  obtain ⟨lm0, lm1, lm2, lm3, lm4, lm5, wm0, wm1, wm2, wm3, wm4, wm5, pm0, pm1, pm2, pm3, pm4, pm5, lan, wan, bits, ms, m_m, m_c, m_u, fa, fl, fc, dmz, uu, hl0, wf0_0, wf0_1, wf0_2, wf0_3, wf0_4, wf0_5, wf0_6, wf0_7, wf0_8, wf0_9, wf0_10, wf0_11, wf0_12, wf0_13, wf0_14, wf0_15, wf0_16, wf0_17, wf0_18, wf0_19, wf0_20, wf0_21, wf0_22, wf0_23, wf0_24, sf0_25, wf0_26, hs0_27⟩ := opened0 (flat_ok (P := Try.prog) 8 28 [.int .u8, .int .u8, .int .u8, .int .u8, .int .u8, .int .u8, .int .u8, .int .u8, .int .u8, .int .u8, .int .u8, .int .u8, .int .u8, .int .u8, .int .u8, .int .u8, .int .u8, .int .u8, .int .u32, .int .u32, .int .i64, .int .i64, .int .i64, .int .i64, .int .i64, .slice 81, .int .u32, .string] (by kernel_rfl) _ _ _ hm0)
  obtain rfl : l0 = _ := hl0
  obtain ⟨lc0_25, cm0_25, hs0_25, hr0_25⟩ := sf0_25
  have bd0_0 := bounds_u8 wf0_0
  have bd0_1 := bounds_u8 wf0_1
  have bd0_2 := bounds_u8 wf0_2
  have bd0_3 := bounds_u8 wf0_3
  have bd0_4 := bounds_u8 wf0_4
  have bd0_5 := bounds_u8 wf0_5
  have bd0_6 := bounds_u8 wf0_6
  have bd0_7 := bounds_u8 wf0_7
  have bd0_8 := bounds_u8 wf0_8
  have bd0_9 := bounds_u8 wf0_9
  have bd0_10 := bounds_u8 wf0_10
  have bd0_11 := bounds_u8 wf0_11
  have bd0_12 := bounds_u8 wf0_12
  have bd0_13 := bounds_u8 wf0_13
  have bd0_14 := bounds_u8 wf0_14
  have bd0_15 := bounds_u8 wf0_15
  have bd0_16 := bounds_u8 wf0_16
  have bd0_17 := bounds_u8 wf0_17
  have bd0_18 := bounds_u32 wf0_18
  have bd0_19 := bounds_u32 wf0_19
  have bd0_20 := bounds_i64 wf0_20
  have bd0_21 := bounds_i64 wf0_21
  have bd0_22 := bounds_i64 wf0_22
  have bd0_23 := bounds_i64 wf0_23
  have bd0_24 := bounds_i64 wf0_24
  obtain ⟨xs, hx0_25, hat0_25, hp0_25⟩ := at_ofN (e := 81) (sz := 4) (α := Conf.Fwd) (g := Conf.fwv) (p := fun x => (0 ≤ x.dest ∧ x.dest ≤ 65535) ∧ (0 ≤ x.host ∧ x.host ≤ 4294967295)) (by kernel_rfl) (fun _ => rfl) lc0_25 hs0_25 hr0_25 (fun m cs x hx => by
    have F := flat_ok (P := Try.prog) 8 81 [.int .u8, .int .u16, .int .u16, .int .u32] (by kernel_rfl) _ _ _ hx
    simp only [F2_cons, F2_nil, leafOK] at F
    obtain ⟨_, _, rfl, ⟨y1, rfl, wy1⟩, F⟩ := F
    obtain ⟨_, _, rfl, ⟨y2, rfl, wy2⟩, F⟩ := F
    obtain ⟨_, _, rfl, ⟨y3, rfl, wy3⟩, F⟩ := F
    obtain ⟨_, _, rfl, ⟨y4, rfl, wy4⟩, rfl⟩ := F
    exact ⟨⟨y1, y2, y3, y4⟩, rfl, bounds_u16 wy3, bounds_u32 wy4⟩)
  have bd0_26 := bounds_u32 wf0_26
  have k1 := h1
  have lt1 : ∀ x ∈ p1, x.block < W.heap.size := by obtain ⟨m, hm⟩ := k1; exact DataW.trod_lt m _ _ _ hm
  obtain ⟨cs1, rfl, hz1⟩ : ∃ cs, v1 = .agg cs ∧ cs.size = Try.prog.cellsOf 31 := by have hq := (hval 1 31 v1 rfl rfl); simp only [Value.okWide, Try.underlying31] at hq; obtain ⟨cs, e1, e2, _⟩ := hq; exact ⟨cs, e1, e2⟩
  obtain ⟨l1, rfl⟩ : ∃ l : List Value, cs1 = l.toArray := ⟨cs1.toList, by simp⟩
  obtain ⟨m1, hm1⟩ := h1
  obtain ⟨op, fr0, fr1, fr2, fr3, fr4, fr5, to0, to1, to2, to3, to4, to5, src, dst, hl1, wf1_0, wf1_1, wf1_2, wf1_3, wf1_4, wf1_5, wf1_6, wf1_7, wf1_8, wf1_9, wf1_10, wf1_11, wf1_12, wf1_13, wf1_14⟩ := opened1 (flat_ok (P := Try.prog) 8 31 [.int .u16, .int .u8, .int .u8, .int .u8, .int .u8, .int .u8, .int .u8, .int .u8, .int .u8, .int .u8, .int .u8, .int .u8, .int .u8, .int .u32, .int .u32] (by kernel_rfl) _ _ _ hm1)
  obtain rfl : l1 = _ := hl1
  have bd1_0 := bounds_u16 wf1_0
  have bd1_1 := bounds_u8 wf1_1
  have bd1_2 := bounds_u8 wf1_2
  have bd1_3 := bounds_u8 wf1_3
  have bd1_4 := bounds_u8 wf1_4
  have bd1_5 := bounds_u8 wf1_5
  have bd1_6 := bounds_u8 wf1_6
  have bd1_7 := bounds_u8 wf1_7
  have bd1_8 := bounds_u8 wf1_8
  have bd1_9 := bounds_u8 wf1_9
  have bd1_10 := bounds_u8 wf1_10
  have bd1_11 := bounds_u8 wf1_11
  have bd1_12 := bounds_u8 wf1_12
  have bd1_13 := bounds_u32 wf1_13
  have bd1_14 := bounds_u32 wf1_14
  clear hA0 hval0
  subst hx0_25
  refine Calls.mono (answers_c lm0 lm1 lm2 lm3 lm4 lm5 wm0 wm1 wm2 wm3 wm4 wm5 pm0 pm1 pm2 pm3 pm4 pm5 lan wan bits ms m_m m_c m_u dmz fa xs fc uu op fr0 fr1 fr2 fr3 fr4 fr5 to0 to1 to2 to3 to4 to5 src dst W hat0_25 (fun x h => (hp0_25 x h).2) bd1_13 bd0_18 bd0_19 bd0_26 bd1_1) fun e W' ⟨he, bel⟩ => ?_
  subst he
  exact ⟨_, rfl, _, _, _, [], _, [], hW', trodAll_mk1 (shut_bool Try.underlying4 _), (trodAll_cons_mk (Below.trod laidOut (by kernel_rfl) (of_decide_eq_true (by kernel_rfl)) k0 bel lt0) (trodAll_cons_mk (Below.trod laidOut (by kernel_rfl) (of_decide_eq_true (by kernel_rfl)) k1 bel lt1) trodAll_mk0)), rfl, bel.frame _, fun h => by cases h⟩

theorem over : Rows.neighAnswersRow.holds Try.pinned (OpenSpec.ofChange Rows.neighAnswersSpec) :=
  OpenClaim.holds_of_wide 3 Try.f3 rfl rfl rfl rfl rfl rfl rfl ⟨rfl, rfl, rfl, rfl, rfl⟩ rfl rfl rfl rfl rfl (by kernel_rfl) Try.func3 (by kernel_rfl)
    (of_decide_eq_true (by kernel_rfl)) (by unfold Func.isWrapper; first | (rw [if_pos (by decide +kernel)]; kernel_rfl) | (rw [if_neg (by decide +kernel)]; exact ⟨rfl, rfl⟩))
    (fun os started H enc _ => lifted os started H enc)

theorem proved : Rows.NeighAnswersSaid :=
  over
end Go.Proofs.Ytjkhmbigoloeiaa.NeighAnswers

