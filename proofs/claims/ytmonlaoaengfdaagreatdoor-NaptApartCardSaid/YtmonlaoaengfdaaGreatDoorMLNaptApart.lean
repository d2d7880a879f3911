import Derived.Test.YtmonlaoaengfdaaGreatDoorRows
import Derived.Test.YtmonlaoaengfdaaGreatDoorM2
import Derived.Test.YtmonlaoaengfdaaGreatDoorM18
import Derived.Test.YtmonlaoaengfdaaGreatDoorCards
import Derived.Test.YtmonlaoaengfdaaGreatDoorTie
import Derived.ProofKit
import Derived.OpenShut
import Derived.ChangeArms
import Derived.SizedLaws
import Derived.SevenTiedAt
import Derived.Lib.LaidTab
import Derived.LaidSub
set_option linter.unusedVariables false
set_option linter.unusedSimpArgs false
set_option maxRecDepth 20000
namespace Go.Proofs.YtmonlaoaengfdaaGreatDoor.NaptApart
open Go.ChangeShapes Go.WideShapes Go.ChangeAt Go.RowKit Base
open Go.Proofs.YtmonlaoaengfdaaGreatDoor.Oct
theorem opened0 {H : Type} {enc : TypeId × Value → H} {P : Program} {w : World} {base : Nat} {spare : Nat → Bool} {held : Bool} {l : List Value} (F : F2 (Ii enc P w base spare held) [.int .u8, .int .u8, .int .u8, .int .u8, .int .u8, .int .u8, .int .u8, .int .u8, .int .u8, .int .u8, .int .u8, .int .u8, .int .u8, .int .u8, .int .u8, .int .u8, .int .u8, .int .u8, .int .u32, .int .u32, .int .i64, .int .i64, .int .i64, .int .i64, .int .i64, .slice 65, .int .u32, .string] l) : ∃ (lm0 : Int) (lm1 : Int) (lm2 : Int) (lm3 : Int) (lm4 : Int) (lm5 : Int) (wm0 : Int) (wm1 : Int) (wm2 : Int) (wm3 : Int) (wm4 : Int) (wm5 : Int) (pm0 : Int) (pm1 : Int) (pm2 : Int) (pm3 : Int) (pm4 : Int) (pm5 : Int) (lan : Int) (wan : Int) (bits : Int) (ms : Int) (m_m : Int) (m_c : Int) (m_u : Int) (fa : Option Addr) (fl fc : Nat) (dmz : Int) (uu : ByteArray), l = [.int .u8 lm0, .int .u8 lm1, .int .u8 lm2, .int .u8 lm3, .int .u8 lm4, .int .u8 lm5, .int .u8 wm0, .int .u8 wm1, .int .u8 wm2, .int .u8 wm3, .int .u8 wm4, .int .u8 wm5, .int .u8 pm0, .int .u8 pm1, .int .u8 pm2, .int .u8 pm3, .int .u8 pm4, .int .u8 pm5, .int .u32 lan, .int .u32 wan, .int .i64 bits, .int .i64 ms, .int .i64 m_m, .int .i64 m_c, .int .i64 m_u, .slice fa fl fc, .int .u32 dmz, .string uu] ∧ ((Lit.int .u8 lm0).wf = true) ∧ ((Lit.int .u8 lm1).wf = true) ∧ ((Lit.int .u8 lm2).wf = true) ∧ ((Lit.int .u8 lm3).wf = true) ∧ ((Lit.int .u8 lm4).wf = true) ∧ ((Lit.int .u8 lm5).wf = true) ∧ ((Lit.int .u8 wm0).wf = true) ∧ ((Lit.int .u8 wm1).wf = true) ∧ ((Lit.int .u8 wm2).wf = true) ∧ ((Lit.int .u8 wm3).wf = true) ∧ ((Lit.int .u8 wm4).wf = true) ∧ ((Lit.int .u8 wm5).wf = true) ∧ ((Lit.int .u8 pm0).wf = true) ∧ ((Lit.int .u8 pm1).wf = true) ∧ ((Lit.int .u8 pm2).wf = true) ∧ ((Lit.int .u8 pm3).wf = true) ∧ ((Lit.int .u8 pm4).wf = true) ∧ ((Lit.int .u8 pm5).wf = true) ∧ ((Lit.int .u32 lan).wf = true) ∧ ((Lit.int .u32 wan).wf = true) ∧ ((Lit.int .i64 bits).wf = true) ∧ ((Lit.int .i64 ms).wf = true) ∧ ((Lit.int .i64 m_m).wf = true) ∧ ((Lit.int .i64 m_c).wf = true) ∧ ((Lit.int .i64 m_u).wf = true) ∧ (fl ≤ fc ∧ fc ≤ maxLen ∧ (0 < fc → ∃ adr, fa = some adr) ∧ ∀ adr, fa = some adr → ∀ i, i < fl → ∃ cs m x, w.cells? base (adr.add (i * P.cellsOf 65)) (P.cellsOf 65) = some cs ∧ DataW.trod enc P w base spare held m 65 cs = some x) ∧ ((Lit.int .u32 dmz).wf = true) ∧ (uu.size ≤ maxLen) := by
  obtain ⟨_, _, rfl, ⟨lm0, rfl, wf0_0⟩, F1_⟩ := E0 F
  clear F
  obtain ⟨_, _, rfl, ⟨lm1, rfl, wf0_1⟩, F2_⟩ := E0 F1_
  clear F1_
  obtain ⟨_, _, rfl, ⟨lm2, rfl, wf0_2⟩, F3_⟩ := E0 F2_
  clear F2_
  obtain ⟨_, _, rfl, ⟨lm3, rfl, wf0_3⟩, F4_⟩ := E0 F3_
  clear F3_
  obtain ⟨_, _, rfl, ⟨lm4, rfl, wf0_4⟩, F5_⟩ := E0 F4_
  clear F4_
  obtain ⟨_, _, rfl, ⟨lm5, rfl, wf0_5⟩, F6_⟩ := E0 F5_
  clear F5_
  obtain ⟨_, _, rfl, ⟨wm0, rfl, wf0_6⟩, F7_⟩ := E0 F6_
  clear F6_
  obtain ⟨_, _, rfl, ⟨wm1, rfl, wf0_7⟩, F8_⟩ := E0 F7_
  clear F7_
  obtain ⟨_, _, rfl, ⟨wm2, rfl, wf0_8⟩, F9_⟩ := E0 F8_
  clear F8_
  obtain ⟨_, _, rfl, ⟨wm3, rfl, wf0_9⟩, F10_⟩ := E0 F9_
  clear F9_
  obtain ⟨_, _, rfl, ⟨wm4, rfl, wf0_10⟩, F11_⟩ := E0 F10_
  clear F10_
  obtain ⟨_, _, rfl, ⟨wm5, rfl, wf0_11⟩, F12_⟩ := E0 F11_
  clear F11_
  obtain ⟨_, _, rfl, ⟨pm0, rfl, wf0_12⟩, F13_⟩ := E0 F12_
  clear F12_
  obtain ⟨_, _, rfl, ⟨pm1, rfl, wf0_13⟩, F14_⟩ := E0 F13_
  clear F13_
  obtain ⟨_, _, rfl, ⟨pm2, rfl, wf0_14⟩, F15_⟩ := E0 F14_
  clear F14_
  obtain ⟨_, _, rfl, ⟨pm3, rfl, wf0_15⟩, F16_⟩ := E0 F15_
  clear F15_
  obtain ⟨_, _, rfl, ⟨pm4, rfl, wf0_16⟩, F17_⟩ := E0 F16_
  clear F16_
  obtain ⟨_, _, rfl, ⟨pm5, rfl, wf0_17⟩, F18_⟩ := E0 F17_
  clear F17_
  obtain ⟨_, _, rfl, ⟨lan, rfl, wf0_18⟩, F19_⟩ := E0 F18_
  clear F18_
  obtain ⟨_, _, rfl, ⟨wan, rfl, wf0_19⟩, F20_⟩ := E0 F19_
  clear F19_
  obtain ⟨_, _, rfl, ⟨bits, rfl, wf0_20⟩, F21_⟩ := E0 F20_
  clear F20_
  obtain ⟨_, _, rfl, ⟨ms, rfl, wf0_21⟩, F22_⟩ := E0 F21_
  clear F21_
  obtain ⟨_, _, rfl, ⟨m_m, rfl, wf0_22⟩, F23_⟩ := E0 F22_
  clear F22_
  obtain ⟨_, _, rfl, ⟨m_c, rfl, wf0_23⟩, F24_⟩ := E0 F23_
  clear F23_
  obtain ⟨_, _, rfl, ⟨m_u, rfl, wf0_24⟩, F25_⟩ := E0 F24_
  clear F24_
  obtain ⟨_, _, rfl, ⟨fa, fl, fc, rfl, sf0_25⟩, F26_⟩ := E0 F25_
  clear F25_
  obtain ⟨_, _, rfl, ⟨dmz, rfl, wf0_26⟩, F27_⟩ := E0 F26_
  clear F26_
  obtain ⟨_, _, rfl, ⟨uu, rfl, hs0_27⟩, F28_⟩ := E0 F27_
  clear F27_
  obtain rfl := Akj F28_
  exact ⟨lm0, lm1, lm2, lm3, lm4, lm5, wm0, wm1, wm2, wm3, wm4, wm5, pm0, pm1, pm2, pm3, pm4, pm5, lan, wan, bits, ms, m_m, m_c, m_u, fa, fl, fc, dmz, uu, rfl, wf0_0, wf0_1, wf0_2, wf0_3, wf0_4, wf0_5, wf0_6, wf0_7, wf0_8, wf0_9, wf0_10, wf0_11, wf0_12, wf0_13, wf0_14, wf0_15, wf0_16, wf0_17, wf0_18, wf0_19, wf0_20, wf0_21, wf0_22, wf0_23, wf0_24, sf0_25, wf0_26, hs0_27⟩
theorem field_slice_len {H : Type} {enc : TypeId × Value → H} {P : Program} {w : World} {base : Nat} {spare : Nat → Bool} {held : Bool} {m : Nat} {t e : TypeId} {cs : List Value} {x : DataW H × List MemPlace} {fs : Array Field} {j : Nat} {f : Field} {a : Option Addr} {l c : Nat}
    (ht : P.underlying t = some (.struct fs)) (hx : DataW.trod enc P w base spare held m t cs = some x) (hf : fs[j]? = some f) (hu : P.underlying f.type = some (.slice e)) (hb : Nat.ble 1 (P.bytesOf e) = true)
    (hc : (cs.drop f.offset).take (P.cellsOf f.type) = [.slice a l c]) (hw : ∀ n ∈ x.1.weights P t, n ≤ reachBytes) : l ≤ reachBytes := by
  obtain ⟨xs, n, rfl, rfl, _, hl, hall⟩ := DataW.trod_struct ht hx
  have h1 := hall j f hf
  rw [hc] at h1
  have hj : j < xs.length := by
    have := (Array.getElem?_eq_some_iff.1 hf).1
    omega
  rw [List.getElem?_eq_getElem hj] at h1
  have hd : (xs.map (·.1))[j]? = some xs[j].1 := by rw [List.getElem?_map, List.getElem?_eq_getElem hj]; rfl
  have hft : (fs.toList.map (·.type))[j]? = some f.type := by rw [List.getElem?_map, Array.getElem?_toList, hf]; rfl
  rcases DataW.trod_slice hu h1 with ⟨h2, _⟩ | ⟨a', len, cap, elems, rest, n', _, h2, h3, _, _, _, h4, _⟩
  · simp only [List.cons.injEq, Value.slice.injEq] at h2
    omega
  · simp only [List.cons.injEq, Value.slice.injEq] at h2
    have h5 := hw ((elems.length + rest.length) * P.bytesOf e) (by
      simp only [DataW.weights, ht]
      refine DataW.weights_mem_each hft hd _ ?_
      rw [h3]
      simp [DataW.weights, hu])
    have h6 := Nat.le_mul_of_pos_right (elems.length + rest.length) (Nat.le_of_ble_eq_true hb)
    omega
theorem own : ownKnob Tryz.prog.godebug = none := by kernel_rfl
theorem laidOut : laidOutB Tryz.prog = true := by kernel_rfl
def cells_0 : Array Value := #[.int .u8 0, .int .u8 1, .int .u8 56, .int .u8 2, .int .u8 57, .int .u8 49, .int .u8 28, .int .u8 3, .int .u8 61, .int .u8 58, .int .u8 42, .int .u8 50, .int .u8 38, .int .u8 29, .int .u8 17, .int .u8 4, .int .u8 62, .int .u8 47, .int .u8 59, .int .u8 36, .int .u8 45, .int .u8 43, .int .u8 51, .int .u8 22, .int .u8 53, .int .u8 39, .int .u8 33, .int .u8 30, .int .u8 24, .int .u8 18, .int .u8 12, .int .u8 5, .int .u8 63, .int .u8 55, .int .u8 48, .int .u8 27, .int .u8 60, .int .u8 41, .int .u8 37, .int .u8 16, .int .u8 46, .int .u8 35, .int .u8 44, .int .u8 21, .int .u8 52, .int .u8 32, .int .u8 23, .int .u8 11, .int .u8 54, .int .u8 26, .int .u8 40, .int .u8 15, .int .u8 34, .int .u8 20, .int .u8 31, .int .u8 10, .int .u8 25, .int .u8 14, .int .u8 19, .int .u8 9, .int .u8 13, .int .u8 8, .int .u8 7, .int .u8 6]
theorem at_of_tab {P : Program} {W : World} {name : String} {k : IntKind} {zs : List Int} {g : Nat} (h : Lib.TabIs P W name k zs) (hg : P.globalNamed name = some g) : At W (some ⟨g, 0, none⟩) (zs.map fun z => Value.int k z) :=
  ⟨fun _ => rfl, fun q v hv => by
    rw [List.getElem?_map, Option.map_eq_some_iff] at hv
    obtain ⟨z, hz, rfl⟩ := hv
    have hq := (List.getElem?_eq_some_iff.1 hz).1
    have := h.cell hg q hq
    simp only [Option.getD_some]
    rw [add_lit, Nat.zero_add, this]
    simp [List.getD, hz]⟩
noncomputable def laidWorld (os : Os) : World :=
  { World.holding Tryz.prog os ⟨#[], #[], []⟩ with heap := ((World.holding Tryz.prog os ⟨#[], #[], []⟩).heap.modify 0 fun
      | .cells _ t frozen => .cells cells_0 t frozen
      | o => o) }
theorem laidWorld_met (os : Os) (args : Array Value) : laidMetH Tryz.prog Rows.naptApartRow.laid ((laidWorld os).forCall (fun _ _ => 0) ⟨#[], args, []⟩).memory := by
  refine (Go.laidMetH_iff).2 ⟨?_, fun _ h => by cases h⟩
  exact laidMet_of_run' 8 (by kernel_rfl) (by kernel_rfl)
set_option maxRecDepth 100000 in
set_option maxHeartbeats 8000000 in
theorem lifted (os : Os) (started : os.Started) (H : Type) (enc : TypeId × Value → H) :
    ReturnsInHanded {} Tryz.checked os 5 .any (fun w args => (Rows.naptApartSpec.pre enc Tryz.prog Tryz.f5 Rows.naptApartRow.domain false w args ∧ laidMetH Tryz.prog Rows.naptApartRow.laid w) ∧ sizedMet enc Tryz.prog Tryz.f5 (OpenSpec.ofChange Rows.naptApartSpec) false w args) (Rows.naptApartSpec.post enc Tryz.prog Tryz.f5 false true false false) := by
  refine returnsInHanded_of_change_and (C := Tryz.checked) (X := fun w _ => laidMetH Tryz.prog Rows.naptApartRow.laid w) (fun _ _ _ hh h => h.of_heap hh) own started (by kernel_rfl) Tryz.func5
    (ChangeSpec.witness_at (enc := enc) (C := Tryz.checked) (os := os) (X := fun w _ => laidMetH Tryz.prog Rows.naptApartRow.laid w) false (laidWorld os) #[Value.agg ([Value.int .u8 0, Value.int .u8 0, Value.int .u8 0, Value.int .u8 0, Value.int .u8 0, Value.int .u8 0, Value.int .u8 0, Value.int .u8 0, Value.int .u8 0, Value.int .u8 0, Value.int .u8 0, Value.int .u8 0, Value.int .u8 0, Value.int .u8 0, Value.int .u8 0, Value.int .u8 0, Value.int .u8 0, Value.int .u8 0, Value.int .u32 0, Value.int .u32 0, Value.int .i64 0, Value.int .i64 0, Value.int .i64 0, Value.int .i64 0, Value.int .i64 0, Value.slice none 0 0, Value.int .u32 0, Value.string (Ab5 [])]).toArray, Value.slice none 0 0] 12 rfl (by kernel_rfl) (by kernel_rfl) (by kernel_rfl) (by kernel_rfl) (by kernel_rfl) (laidWorld_met os _)) ?_
  intro W base args ds gs before hval0 hW hcnd hreach hL0 _
  have hL := (Go.laidMetH_iff.1 hL0).1
  have hT : Lib.TabIs Tryz.prog W "math/bits.deBruijn64tab" .u8 [0, 1, 56, 2, 57, 49, 28, 3, 61, 58, 42, 50, 38, 29, 17, 4, 62, 47, 59, 36, 45, 43, 51, 22, 53, 39, 33, 30, 24, 18, 12, 5, 63, 55, 48, 27, 60, 41, 37, 16, 46, 35, 44, 21, 52, 32, 23, 11, 54, 26, 40, 15, 34, 20, 31, 10, 25, 14, 19, 9, 13, 8, 7, 6] := Lib.tabIs_of_head (g := 0) (t := 298) (e := 5) (n := 64) (by kernel_rfl) (by kernel_rfl) (by kernel_rfl) (by kernel_rfl) (by kernel_rfl) (by kernel_rfl) hL
  have hlaid : At W (some ⟨0, 0, none⟩) (Cx [0, 1, 56, 2, 57, 49, 28, 3, 61, 58, 42, 50, 38, 29, 17, 4, 62, 47, 59, 36, 45, 43, 51, 22, 53, 39, 33, 30, 24, 18, 12, 5, 63, 55, 48, 27, 60, 41, 37, 16, 46, 35, 44, 21, 52, 32, 23, 11, 54, 26, 40, 15, 34, 20, 31, 10, 25, 14, 19, 9, 13, 8, 7, 6]) := (show List.map (fun z => Value.int .u8 z) [0, 1, 56, 2, 57, 49, 28, 3, 61, 58, 42, 50, 38, 29, 17, 4, 62, 47, 59, 36, 45, 43, 51, 22, 53, 39, 33, 30, 24, 18, 12, 5, 63, 55, 48, 27, 60, 41, 37, 16, 46, 35, 44, 21, 52, 32, 23, 11, 54, 26, 40, 15, 34, 20, 31, 10, 25, 14, 19, 9, 13, 8, 7, 6] = Cx [0, 1, 56, 2, 57, 49, 28, 3, 61, 58, 42, 50, 38, 29, 17, 4, 62, 47, 59, 36, 45, 43, 51, 22, 53, 39, 33, 30, 24, 18, 12, 5, 63, 55, 48, 27, 60, 41, 37, 16, 46, 35, 44, 21, 52, 32, 23, 11, 54, 26, 40, 15, 34, 20, 31, 10, 25, 14, 19, 9, 13, 8, 7, 6] by kernel_rfl) ▸ at_of_tab hT (by kernel_rfl)
  have hval : ∀ (j : Nat) t v, Tryz.f5.params[j]? = some t → args[j]? = some v → Value.okWide Tryz.prog W .any base t v := hval0
  have hW' := hW
  obtain ⟨p, q, hA0, hV, rfl, hfz, hnd⟩ := hW
  have hA : DataW.TrodAll enc Tryz.prog W 0 (fun _ => true) true Tryz.f5.params.toList args.toList ds p := hA0
  rw [Tryz.params5] at hA hval
  obtain ⟨v0, vs0, d0, ds0, p0, q0, hargs, rfl, rfl, h0, r0⟩ := trodAll_cons hA
  obtain ⟨v1, vs1, d1, ds1, p1, q1, rfl, rfl, rfl, h1, r1⟩ := trodAll_cons r0
  obtain ⟨rfl, rfl, rfl⟩ := trodAll_nil r1
  obtain rfl : args = #[v0, v1] := by cases args; simp_all
  obtain ⟨rfl, rfl⟩ := trodVars_none hV
  have k0 := h0
  have lt0 : ∀ x ∈ p0, x.block < W.heap.size := by obtain ⟨m, hm⟩ := k0; exact DataW.trod_lt m _ _ _ hm
  obtain ⟨cs0, rfl, hz0⟩ : ∃ cs, v0 = .agg cs ∧ cs.size = Tryz.prog.cellsOf 32 := by have hq := (hval 0 32 v0 rfl rfl); simp only [Value.okWide, Tryz.underlying32] at hq; obtain ⟨cs, e1, e2, _⟩ := hq; exact ⟨cs, e1, e2⟩
  obtain ⟨l0, rfl⟩ : ∃ l : List Value, cs0 = l.toArray := ⟨cs0.toList, by simp⟩
  obtain ⟨m0, hm0⟩ := h0
  obtain ⟨lm0, lm1, lm2, lm3, lm4, lm5, wm0, wm1, wm2, wm3, wm4, wm5, pm0, pm1, pm2, pm3, pm4, pm5, lan, wan, bits, ms, m_m, m_c, m_u, fa, fl, fc, dmz, uu, hl0, wf0_0, wf0_1, wf0_2, wf0_3, wf0_4, wf0_5, wf0_6, wf0_7, wf0_8, wf0_9, wf0_10, wf0_11, wf0_12, wf0_13, wf0_14, wf0_15, wf0_16, wf0_17, wf0_18, wf0_19, wf0_20, wf0_21, wf0_22, wf0_23, wf0_24, sf0_25, wf0_26, hs0_27⟩ := opened0 (I2 (P := Tryz.prog) 8 32 [.int .u8, .int .u8, .int .u8, .int .u8, .int .u8, .int .u8, .int .u8, .int .u8, .int .u8, .int .u8, .int .u8, .int .u8, .int .u8, .int .u8, .int .u8, .int .u8, .int .u8, .int .u8, .int .u32, .int .u32, .int .i64, .int .i64, .int .i64, .int .i64, .int .i64, .slice 65, .int .u32, .string] (by kernel_rfl) _ _ _ hm0)
  obtain rfl : l0 = _ := hl0
  obtain ⟨lc0_25, cm0_25, hs0_25, hr0_25⟩ := sf0_25
  have bd0_0 := bounds_u8 wf0_0
  have bd0_1 := bounds_u8 wf0_1
  have bd0_2 := bounds_u8 wf0_2
  have bd0_3 := bounds_u8 wf0_3
  have bd0_4 := bounds_u8 wf0_4
  have bd0_5 := bounds_u8 wf0_5
  have bd0_6 := bounds_u8 wf0_6
  have bd0_7 := bounds_u8 wf0_7
  have bd0_8 := bounds_u8 wf0_8
  have bd0_9 := bounds_u8 wf0_9
  have bd0_10 := bounds_u8 wf0_10
  have bd0_11 := bounds_u8 wf0_11
  have bd0_12 := bounds_u8 wf0_12
  have bd0_13 := bounds_u8 wf0_13
  have bd0_14 := bounds_u8 wf0_14
  have bd0_15 := bounds_u8 wf0_15
  have bd0_16 := bounds_u8 wf0_16
  have bd0_17 := bounds_u8 wf0_17
  have bd0_18 := bounds_u32 wf0_18
  have bd0_19 := bounds_u32 wf0_19
  have bd0_20 := bounds_i64 wf0_20
  have bd0_21 := bounds_i64 wf0_21
  have bd0_22 := bounds_i64 wf0_22
  have bd0_23 := bounds_i64 wf0_23
  have bd0_24 := bounds_i64 wf0_24
  obtain ⟨fxs, hx0_25, hat0_25, hp0_25⟩ := Xc (e := 65) (sz := 4) (α := Conf.Fwd) (g := Conf.fwv) (p := fun x => 0 ≤ x.proto ∧ x.proto ≤ 255 ∧ 0 ≤ x.port ∧ x.port ≤ 65535 ∧ 0 ≤ x.host ∧ x.host ≤ 4294967295 ∧ 0 ≤ x.dest ∧ x.dest ≤ 65535) (by kernel_rfl) (fun _ => rfl) lc0_25 hs0_25 hr0_25 (fun m cs x hx => by
    have F := I2 (P := Tryz.prog) 8 65 [.int .u8, .int .u16, .int .u16, .int .u32] (by kernel_rfl) _ _ _ hx
    simp only [L2, Oe, Ii] at F
    obtain ⟨_, _, rfl, ⟨y1, rfl, wy1⟩, F⟩ := F
    obtain ⟨_, _, rfl, ⟨y2, rfl, wy2⟩, F⟩ := F
    obtain ⟨_, _, rfl, ⟨y3, rfl, wy3⟩, F⟩ := F
    obtain ⟨_, _, rfl, ⟨y4, rfl, wy4⟩, rfl⟩ := F
    exact ⟨⟨y1, y2, y3, y4⟩, rfl, (bounds_u8 wy1).1, (bounds_u8 wy1).2, (bounds_u16 wy2).1, (bounds_u16 wy2).2, (bounds_u32 wy4).1, (bounds_u32 wy4).2, (bounds_u16 wy3).1, (bounds_u16 wy3).2⟩)
  have bd0_26 := bounds_u32 wf0_26
  have k1 := h1
  have lt1 : ∀ x ∈ p1, x.block < W.heap.size := by obtain ⟨m, hm⟩ := k1; exact DataW.trod_lt m _ _ _ hm
  obtain ⟨na, nl, nc, rfl⟩ := okWide_slice Tryz.underlying53 (hval 1 53 v1 rfl rfl)
  obtain ⟨m1, hm1⟩ := h1
  have F1 := I2 (P := Tryz.prog) 3 53 [.slice 58] (by kernel_rfl) _ _ _ hm1
  simp only [L2, Oe, Ii] at F1
  obtain ⟨_, _, E1, ⟨a_, l_, c_, rfl, lc1, cm1, hs1, hr1⟩, rfl⟩ := F1
  have E1' : na = a_ ∧ nl = l_ ∧ nc = c_ := by simpa [Value.cells] using E1
  obtain ⟨rfl, rfl, rfl⟩ := E1'
  obtain ⟨ops, hx1, hat1, hp1⟩ := Xc (e := 58) (sz := 10) (α := Cll) (g := clC) (p := fun x => ClOK W x) (by kernel_rfl) (fun _ => rfl) lc1 hs1 hr1 (fun m cs x hx => by
    have F := I2 (P := Tryz.prog) 8 58 [.int .i64, .int .u8, .int .u8, .int .u16, .int .u32, .int .u32, .slice 5, .int .u64, .int .u64, .slice 26] (by kernel_rfl) _ _ _ hx
    simp only [L2, Oe, Ii] at F
    obtain ⟨_, _, rfl, ⟨y0, rfl, wy0⟩, F⟩ := F
    obtain ⟨_, _, rfl, ⟨y1, rfl, wy1⟩, F⟩ := F
    obtain ⟨_, _, rfl, ⟨y2, rfl, wy2⟩, F⟩ := F
    obtain ⟨_, _, rfl, ⟨y3, rfl, wy3⟩, F⟩ := F
    obtain ⟨_, _, rfl, ⟨y4, rfl, wy4⟩, F⟩ := F
    obtain ⟨_, _, rfl, ⟨y5, rfl, wy5⟩, F⟩ := F
    obtain ⟨_, _, rfl, ⟨ya6, yl6, yc6, rfl, ylc6, ycm6, yhs6, yhr6⟩, F⟩ := F
    obtain ⟨_, _, rfl, ⟨y7, rfl, wy7⟩, F⟩ := F
    obtain ⟨_, _, rfl, ⟨y8, rfl, wy8⟩, F⟩ := F
    obtain ⟨_, _, rfl, ⟨ya9, yl9, yc9, rfl, ylc9, ycm9, yhs9, yhr9⟩, rfl⟩ := F
    have bb1 := bounds_u8 wy1
    obtain ⟨z1, rfl⟩ : ∃ d : UInt8, y1 = ((d.toNat : Nat) : Int) := ⟨UInt8.ofNat y1.toNat, by rw [UInt8.toNat_ofNat', Nat.mod_eq_of_lt (by omega)]; omega⟩
    have bb2 := bounds_u8 wy2
    obtain ⟨z2, rfl⟩ : ∃ d : UInt8, y2 = ((d.toNat : Nat) : Int) := ⟨UInt8.ofNat y2.toNat, by rw [UInt8.toNat_ofNat', Nat.mod_eq_of_lt (by omega)]; omega⟩
    have bb3 := bounds_u16 wy3
    obtain ⟨z3, rfl⟩ : ∃ k : Nat, y3 = ((k : Nat) : Int) := ⟨y3.toNat, by omega⟩
    have bb4 := bounds_u32 wy4
    obtain ⟨z4, rfl⟩ : ∃ k : Nat, y4 = ((k : Nat) : Int) := ⟨y4.toNat, by omega⟩
    have bb5 := bounds_u32 wy5
    obtain ⟨z5, rfl⟩ : ∃ k : Nat, y5 = ((k : Nat) : Int) := ⟨y5.toNat, by omega⟩
    have bb7 := bounds_u64 wy7
    obtain ⟨z7, rfl⟩ : ∃ k : Nat, y7 = ((k : Nat) : Int) := ⟨y7.toNat, by omega⟩
    have bb8 := bounds_u64 wy8
    obtain ⟨z8, rfl⟩ : ∃ k : Nat, y8 = ((k : Nat) : Int) := ⟨y8.toNat, by omega⟩
    obtain ⟨ys, yhl, yhat, _⟩ := An5 (e := 5) (α := UInt8) (g := b8) (p := fun _ => True) (by kernel_rfl) ylc6 yhs6 yhr6 (fun m cs x hx => by
      have F := I2 (P := Tryz.prog) 8 5 [.int .u8] (by kernel_rfl) _ _ _ hx
      simp only [L2, Oe, Ii] at F
      obtain ⟨_, _, rfl, ⟨y, rfl, wy⟩, rfl⟩ := F
      exact ⟨UInt8.ofNat y.toNat, congrArg (fun v => [v]) (An6 wy), trivial⟩)
    subst yhl
    obtain ⟨yms, ymhl, ymat, ymp⟩ := Xc (e := 26) (sz := 5) (α := Mpg) (g := Jc) (p := fun x => 0 ≤ x.proto ∧ x.proto ≤ 255 ∧ 0 ≤ x.ext ∧ x.ext ≤ 65535 ∧ 0 ≤ x.to ∧ x.to ≤ 65535 ∧ 0 ≤ x.host ∧ x.host ≤ 4294967295) (by kernel_rfl) (fun _ => rfl) ylc9 yhs9 yhr9 (fun m cs x hx => by
      have F := I2 (P := Tryz.prog) 8 26 [.int .u8, .int .u16, .int .u16, .int .u32, .int .u32] (by kernel_rfl) _ _ _ hx
      simp only [L2, Oe, Ii] at F
      obtain ⟨_, _, rfl, ⟨y1, rfl, wy1⟩, F⟩ := F
      obtain ⟨_, _, rfl, ⟨y2, rfl, wy2⟩, F⟩ := F
      obtain ⟨_, _, rfl, ⟨y3, rfl, wy3⟩, F⟩ := F
      obtain ⟨_, _, rfl, ⟨y4, rfl, wy4⟩, F⟩ := F
      obtain ⟨_, _, rfl, ⟨y5, rfl, wy5⟩, rfl⟩ := F
      exact ⟨⟨y1, y2, y3, y4, y5⟩, rfl, (bounds_u8 wy1).1, (bounds_u8 wy1).2, (bounds_u16 wy2).1, (bounds_u16 wy2).2, (bounds_u16 wy3).1, (bounds_u16 wy3).2, (bounds_u32 wy5).1, (bounds_u32 wy5).2⟩)
    subst ymhl
    exact ⟨⟨y0, z1, z2, z3, z4, z5, ya6, yc6, ys, z7, z8, ya9, yc9, yms⟩, rfl, ⟨yhat, (by show z3 < _; omega), (by show z4 < _; omega), (by show z5 < _; omega), ylc6, (by show z7 < _; omega), (by show z8 < _; omega), ymat, ymp, ylc9⟩⟩)
  clear hA0 hval0
  have hw0_10 : fl ≤ reachBytes := field_slice_len Tryz.underlying32 hm0 (j := 10) (e := 65) rfl (by kernel_rfl) (by kernel_rfl) (by rfl) (fun n hn => of_decide_eq_true (List.all_eq_true.1 hreach n (DataW.weights_mem_each (j := 0) (t := 32) (by rfl) rfl n hn)))
  have hwb0_10 : fl ≤ 4611686018427387904 := Nat.le_trans hw0_10 (by decide)
  subst hx0_25
  subst hx1
  refine Calls.mono (Abd (⟨lm0, lm1, lm2, lm3, lm4, lm5, wm0, wm1, wm2, wm3, wm4, wm5, pm0, pm1, pm2, pm3, pm4, pm5, lan, wan, bits, ms, m_m, m_c, m_u, none, 0, 0, dmz, uu⟩ : Conf.Cfg) fxs fa fc ops na nc W hat0_25 hwb0_10 hp0_25 hat1 (by simp only [maxLen] at cm1; omega) hp1 bd0_18 bd0_19 bd0_26 hlaid) fun e W' ⟨he, bel⟩ => ?_
  subst he
  exact ⟨_, rfl, _, _, _, [], _, [], hW', trodAll_mk1 (shut_bool Tryz.underlying4 _), (trodAll_cons_mk (Below.trod laidOut (by kernel_rfl) (of_decide_eq_true (by kernel_rfl)) k0 bel lt0) (trodAll_cons_mk (Below.trod laidOut (by kernel_rfl) (of_decide_eq_true (by kernel_rfl)) k1 bel lt1) trodAll_mk0)), rfl, bel.frame _, fun h => by cases h⟩
theorem over : Rows.naptApartRow.holds Tryz.pinned (OpenSpec.ofChange Rows.naptApartSpec) :=
  OpenClaim.holds_of_wide 5 Tryz.f5 rfl rfl rfl rfl rfl rfl rfl ⟨rfl, rfl, rfl, rfl, rfl⟩ rfl rfl rfl rfl rfl (by kernel_rfl) Tryz.func5 (by kernel_rfl)
    (of_decide_eq_true (by kernel_rfl)) (by unfold Func.isWrapper; first | (rw [if_pos (by decide +kernel)]; kernel_rfl) | (rw [if_neg (by decide +kernel)]; exact ⟨rfl, rfl⟩))
    (fun os started H enc _ => lifted os started H enc)
theorem proved : Rows.NaptApartCardSaid :=
  Claim7.holds_tied_plain_at .later [] [.data] true (true, "5251a7cd702886f0e2cab37041370db5d56ad167fc319ea07e84a73303cf3d12") false over (fun _ h => by cases h) (by kernel_rfl) (fun _ h => by cases h) naptApart_row_tie rfl ⟨rfl, rfl⟩ (by kernel_rfl) rfl
    (fun f fn hf hfn => by
      obtain rfl : f = 5 := Option.some.inj ((show Tryz.prog.funcNamed "hearth/hearthlaw12.NaptApart" = some 5 by kernel_rfl).symm.trans hf) |>.symm
      obtain rfl : fn = Tryz.f5 := (Option.some.inj (Tryz.func5.symm.trans hfn)).symm
      refine ⟨by kernel_rfl, fun j t ht => ?_⟩
      rw [Tryz.params5] at ht
      have hm := Array.mem_of_getElem? ht
      have ha : ([32, 53] : List TypeId).all (fun t => !Tryz.prog.wantsStandIn t) = true := by kernel_rfl
      have hx := List.all_eq_true.1 ha t (by simpa using hm)
      exact (show Tryz.prog.wantsStandIn t = false by simpa using hx))
    (by kernel_rfl)
end Go.Proofs.YtmonlaoaengfdaaGreatDoor.NaptApart
