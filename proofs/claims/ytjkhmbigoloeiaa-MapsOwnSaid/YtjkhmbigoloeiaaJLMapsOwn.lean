import Derived.Test.YtjkhmbigoloeiaaRows
import Derived.Test.YtjkhmbigoloeiaaJVF
import Derived.Test.YtjkhmbigoloeiaaJMa20
import Derived.ProofKit
import Derived.OpenShut
import Derived.ChangeArms
import Derived.SizedLaws
set_option linter.unusedVariables false
set_option linter.unusedSimpArgs false
set_option maxRecDepth 20000
namespace Go.Proofs.Ytjkhmbigoloeiaa.MapsOwn
open Go.ChangeShapes Go.WideShapes Go.ChangeAt Go.RowKit Base
open Go.Proofs.Ytjkhmbigoloeiaa.Oct
theorem opened0 {H : Type} {enc : TypeId × Value → H} {P : Program} {w : World} {base : Nat} {spare : Nat → Bool} {held : Bool} {l : List Value} (F : F2 (leafOK enc P w base spare held) [.int .u8, .int .u8, .int .u8, .int .u8, .int .u8, .int .u8, .int .u8, .int .u8, .int .u8, .int .u8, .int .u8, .int .u8, .int .u8, .int .u8, .int .u8, .int .u8, .int .u8, .int .u8, .int .u32, .int .u32, .int .i64, .int .i64, .int .i64, .int .i64, .int .i64, .slice 81, .int .u32, .string] l) : ∃ (lm0 : Int) (lm1 : Int) (lm2 : Int) (lm3 : Int) (lm4 : Int) (lm5 : Int) (wm0 : Int) (wm1 : Int) (wm2 : Int) (wm3 : Int) (wm4 : Int) (wm5 : Int) (pm0 : Int) (pm1 : Int) (pm2 : Int) (pm3 : Int) (pm4 : Int) (pm5 : Int) (lan : Int) (wan : Int) (bits : Int) (ms : Int) (m_m : Int) (m_c : Int) (m_u : Int) (fa : Option Addr) (fl fc : Nat) (dmz : Int) (uu : ByteArray), l = [.int .u8 lm0, .int .u8 lm1, .int .u8 lm2, .int .u8 lm3, .int .u8 lm4, .int .u8 lm5, .int .u8 wm0, .int .u8 wm1, .int .u8 wm2, .int .u8 wm3, .int .u8 wm4, .int .u8 wm5, .int .u8 pm0, .int .u8 pm1, .int .u8 pm2, .int .u8 pm3, .int .u8 pm4, .int .u8 pm5, .int .u32 lan, .int .u32 wan, .int .i64 bits, .int .i64 ms, .int .i64 m_m, .int .i64 m_c, .int .i64 m_u, .slice fa fl fc, .int .u32 dmz, .string uu] ∧ ((Lit.int .u8 lm0).wf = true) ∧ ((Lit.int .u8 lm1).wf = true) ∧ ((Lit.int .u8 lm2).wf = true) ∧ ((Lit.int .u8 lm3).wf = true) ∧ ((Lit.int .u8 lm4).wf = true) ∧ ((Lit.int .u8 lm5).wf = true) ∧ ((Lit.int .u8 wm0).wf = true) ∧ ((Lit.int .u8 wm1).wf = true) ∧ ((Lit.int .u8 wm2).wf = true) ∧ ((Lit.int .u8 wm3).wf = true) ∧ ((Lit.int .u8 wm4).wf = true) ∧ ((Lit.int .u8 wm5).wf = true) ∧ ((Lit.int .u8 pm0).wf = true) ∧ ((Lit.int .u8 pm1).wf = true) ∧ ((Lit.int .u8 pm2).wf = true) ∧ ((Lit.int .u8 pm3).wf = true) ∧ ((Lit.int .u8 pm4).wf = true) ∧ ((Lit.int .u8 pm5).wf = true) ∧ ((Lit.int .u32 lan).wf = true) ∧ ((Lit.int .u32 wan).wf = true) ∧ ((Lit.int .i64 bits).wf = true) ∧ ((Lit.int .i64 ms).wf = true) ∧ ((Lit.int .i64 m_m).wf = true) ∧ ((Lit.int .i64 m_c).wf = true) ∧ ((Lit.int .i64 m_u).wf = true) ∧ (fl ≤ fc ∧ fc ≤ maxLen ∧ (0 < fc → ∃ adr, fa = some adr) ∧ ∀ adr, fa = some adr → ∀ i, i < fl → ∃ cs m x, w.cells? base (adr.add (i * P.cellsOf 81)) (P.cellsOf 81) = some cs ∧ DataW.trod enc P w base spare held m 81 cs = some x) ∧ ((Lit.int .u32 dmz).wf = true) ∧ (uu.size ≤ maxLen) := by
  obtain ⟨_, _, rfl, ⟨lm0, rfl, wf0_0⟩, F1_⟩ := F2_un F
  clear F
  obtain ⟨_, _, rfl, ⟨lm1, rfl, wf0_1⟩, F2_⟩ := F2_un F1_
  clear F1_
  obtain ⟨_, _, rfl, ⟨lm2, rfl, wf0_2⟩, F3_⟩ := F2_un F2_
  clear F2_
  obtain ⟨_, _, rfl, ⟨lm3, rfl, wf0_3⟩, F4_⟩ := F2_un F3_
  clear F3_
  obtain ⟨_, _, rfl, ⟨lm4, rfl, wf0_4⟩, F5_⟩ := F2_un F4_
  clear F4_
  obtain ⟨_, _, rfl, ⟨lm5, rfl, wf0_5⟩, F6_⟩ := F2_un F5_
  clear F5_
  obtain ⟨_, _, rfl, ⟨wm0, rfl, wf0_6⟩, F7_⟩ := F2_un F6_
  clear F6_
  obtain ⟨_, _, rfl, ⟨wm1, rfl, wf0_7⟩, F8_⟩ := F2_un F7_
  clear F7_
  obtain ⟨_, _, rfl, ⟨wm2, rfl, wf0_8⟩, F9_⟩ := F2_un F8_
  clear F8_
  obtain ⟨_, _, rfl, ⟨wm3, rfl, wf0_9⟩, F10_⟩ := F2_un F9_
  clear F9_
  obtain ⟨_, _, rfl, ⟨wm4, rfl, wf0_10⟩, F11_⟩ := F2_un F10_
  clear F10_
  obtain ⟨_, _, rfl, ⟨wm5, rfl, wf0_11⟩, F12_⟩ := F2_un F11_
  clear F11_
  obtain ⟨_, _, rfl, ⟨pm0, rfl, wf0_12⟩, F13_⟩ := F2_un F12_
  clear F12_
  obtain ⟨_, _, rfl, ⟨pm1, rfl, wf0_13⟩, F14_⟩ := F2_un F13_
  clear F13_
  obtain ⟨_, _, rfl, ⟨pm2, rfl, wf0_14⟩, F15_⟩ := F2_un F14_
  clear F14_
  obtain ⟨_, _, rfl, ⟨pm3, rfl, wf0_15⟩, F16_⟩ := F2_un F15_
  clear F15_
  obtain ⟨_, _, rfl, ⟨pm4, rfl, wf0_16⟩, F17_⟩ := F2_un F16_
  clear F16_
  obtain ⟨_, _, rfl, ⟨pm5, rfl, wf0_17⟩, F18_⟩ := F2_un F17_
  clear F17_
  obtain ⟨_, _, rfl, ⟨lan, rfl, wf0_18⟩, F19_⟩ := F2_un F18_
  clear F18_
  obtain ⟨_, _, rfl, ⟨wan, rfl, wf0_19⟩, F20_⟩ := F2_un F19_
  clear F19_
  obtain ⟨_, _, rfl, ⟨bits, rfl, wf0_20⟩, F21_⟩ := F2_un F20_
  clear F20_
  obtain ⟨_, _, rfl, ⟨ms, rfl, wf0_21⟩, F22_⟩ := F2_un F21_
  clear F21_
  obtain ⟨_, _, rfl, ⟨m_m, rfl, wf0_22⟩, F23_⟩ := F2_un F22_
  clear F22_
  obtain ⟨_, _, rfl, ⟨m_c, rfl, wf0_23⟩, F24_⟩ := F2_un F23_
  clear F23_
  obtain ⟨_, _, rfl, ⟨m_u, rfl, wf0_24⟩, F25_⟩ := F2_un F24_
  clear F24_
  obtain ⟨_, _, rfl, ⟨fa, fl, fc, rfl, sf0_25⟩, F26_⟩ := F2_un F25_
  clear F25_
  obtain ⟨_, _, rfl, ⟨dmz, rfl, wf0_26⟩, F27_⟩ := F2_un F26_
  clear F26_
  obtain ⟨_, _, rfl, ⟨uu, rfl, hs0_27⟩, F28_⟩ := F2_un F27_
  clear F27_
  obtain rfl := F2_un0 F28_
  exact ⟨lm0, lm1, lm2, lm3, lm4, lm5, wm0, wm1, wm2, wm3, wm4, wm5, pm0, pm1, pm2, pm3, pm4, pm5, lan, wan, bits, ms, m_m, m_c, m_u, fa, fl, fc, dmz, uu, rfl, wf0_0, wf0_1, wf0_2, wf0_3, wf0_4, wf0_5, wf0_6, wf0_7, wf0_8, wf0_9, wf0_10, wf0_11, wf0_12, wf0_13, wf0_14, wf0_15, wf0_16, wf0_17, wf0_18, wf0_19, wf0_20, wf0_21, wf0_22, wf0_23, wf0_24, sf0_25, wf0_26, hs0_27⟩
theorem field_slice_len {H : Type} {enc : TypeId × Value → H} {P : Program} {w : World} {base : Nat} {spare : Nat → Bool} {held : Bool} {m : Nat} {t e : TypeId} {cs : List Value} {x : DataW H × List MemPlace} {fs : Array Field} {j : Nat} {f : Field} {a : Option Addr} {l c : Nat}
    (ht : P.underlying t = some (.struct fs)) (hx : DataW.trod enc P w base spare held m t cs = some x) (hf : fs[j]? = some f) (hu : P.underlying f.type = some (.slice e)) (hb : Nat.ble 1 (P.bytesOf e) = true)
    (hc : (cs.drop f.offset).take (P.cellsOf f.type) = [.slice a l c]) (hw : ∀ n ∈ x.1.weights P t, n ≤ reachBytes) : l ≤ reachBytes := by
  obtain ⟨xs, n, rfl, rfl, _, hl, hall⟩ := DataW.trod_struct ht hx
  have h1 := hall j f hf
  rw [hc] at h1
  have hj : j < xs.length := by
    have := (Array.getElem?_eq_some_iff.1 hf).1
    omega
  rw [List.getElem?_eq_getElem hj] at h1
  have hd : (xs.map (·.1))[j]? = some xs[j].1 := by rw [List.getElem?_map, List.getElem?_eq_getElem hj]; rfl
  have hft : (fs.toList.map (·.type))[j]? = some f.type := by rw [List.getElem?_map, Array.getElem?_toList, hf]; rfl
  rcases DataW.trod_slice hu h1 with ⟨h2, _⟩ | ⟨a', len, cap, elems, rest, n', _, h2, h3, _, _, _, h4, _⟩
  · simp only [List.cons.injEq, Value.slice.injEq] at h2
    omega
  · simp only [List.cons.injEq, Value.slice.injEq] at h2
    have h5 := hw ((elems.length + rest.length) * P.bytesOf e) (by
      simp only [DataW.weights, ht]
      refine DataW.weights_mem_each hft hd _ ?_
      rw [h3]
      simp [DataW.weights, hu])
    have h6 := Nat.le_mul_of_pos_right (elems.length + rest.length) (Nat.le_of_ble_eq_true hb)
    omega
theorem own : ownKnob Try.prog.godebug = none := by kernel_rfl
theorem laidOut : laidOutB Try.prog = true := by kernel_rfl
set_option maxRecDepth 100000 in
set_option maxHeartbeats 8000000 in
theorem lifted (os : Os) (started : os.Started) (H : Type) (enc : TypeId × Value → H) :
    ReturnsInHanded {} Try.checked os 8 .any (Rows.mapsOwnSpec.pre6 enc Try.prog Try.f8 Rows.mapsOwnRow.domain false) (Rows.mapsOwnSpec.post enc Try.prog Try.f8 false true false false) := by
  refine returnsInHanded_of_change_sized (C := Try.checked) own started (by kernel_rfl) Try.func8
    (ChangeSpec.witness6 (enc := enc) (C := Try.checked) false ⟨#[], #[Value.agg ([Value.int .u8 0, Value.int .u8 0, Value.int .u8 0, Value.int .u8 0, Value.int .u8 0, Value.int .u8 0, Value.int .u8 0, Value.int .u8 0, Value.int .u8 0, Value.int .u8 0, Value.int .u8 0, Value.int .u8 0, Value.int .u8 0, Value.int .u8 0, Value.int .u8 0, Value.int .u8 0, Value.int .u8 0, Value.int .u8 0, Value.int .u32 0, Value.int .u32 0, Value.int .i64 0, Value.int .i64 0, Value.int .i64 0, Value.int .i64 0, Value.int .i64 0, Value.slice none 0 0, Value.int .u32 0, Value.string (bstr [])]).toArray, Value.slice none 0 0], []⟩ 12 (by kernel_rfl) (by kernel_rfl) (by kernel_rfl) (by kernel_rfl)) ?_
  intro W base args ds gs before hval0 hW hcnd hreach _
  have hval : ∀ (j : Nat) t v, Try.f8.params[j]? = some t → args[j]? = some v → Value.okWide Try.prog W .any base t v := hval0
  have hW' := hW
  obtain ⟨p, q, hA0, hV, rfl, hfz, hnd⟩ := hW
  have hA : DataW.TrodAll enc Try.prog W 0 (fun _ => true) true Try.f8.params.toList args.toList ds p := hA0
  rw [Try.params8] at hA hval
  obtain ⟨v0, vs0, d0, ds0, p0, q0, hargs, rfl, rfl, h0, r0⟩ := trodAll_cons hA
  obtain ⟨v1, vs1, d1, ds1, p1, q1, rfl, rfl, rfl, h1, r1⟩ := trodAll_cons r0
  obtain ⟨rfl, rfl, rfl⟩ := trodAll_nil r1
  obtain rfl : args = #[v0, v1] := by cases args; simp_all
  obtain ⟨rfl, rfl⟩ := trodVars_none hV
  have k0 := h0
  have lt0 : ∀ x ∈ p0, x.block < W.heap.size := by obtain ⟨m, hm⟩ := k0; exact DataW.trod_lt m _ _ _ hm
  obtain ⟨cs0, rfl, hz0⟩ : ∃ cs, v0 = .agg cs ∧ cs.size = Try.prog.cellsOf 28 := by have hq := (hval 0 28 v0 rfl rfl); simp only [Value.okWide, Try.underlying28] at hq; obtain ⟨cs, e1, e2, _⟩ := hq; exact ⟨cs, e1, e2⟩
  obtain ⟨l0, rfl⟩ : ∃ l : List Value, cs0 = l.toArray := ⟨cs0.toList, by simp⟩
  obtain ⟨m0, hm0⟩ := h0
  obtain ⟨lm0, lm1, lm2, lm3, lm4, lm5, wm0, wm1, wm2, wm3, wm4, wm5, pm0, pm1, pm2, pm3, pm4, pm5, lan, wan, bits, ms, m_m, m_c, m_u, fa, fl, fc, dmz, uu, hl0, wf0_0, wf0_1, wf0_2, wf0_3, wf0_4, wf0_5, wf0_6, wf0_7, wf0_8, wf0_9, wf0_10, wf0_11, wf0_12, wf0_13, wf0_14, wf0_15, wf0_16, wf0_17, wf0_18, wf0_19, wf0_20, wf0_21, wf0_22, wf0_23, wf0_24, sf0_25, wf0_26, hs0_27⟩ := opened0 (flat_ok (P := Try.prog) 8 28 [.int .u8, .int .u8, .int .u8, .int .u8, .int .u8, .int .u8, .int .u8, .int .u8, .int .u8, .int .u8, .int .u8, .int .u8, .int .u8, .int .u8, .int .u8, .int .u8, .int .u8, .int .u8, .int .u32, .int .u32, .int .i64, .int .i64, .int .i64, .int .i64, .int .i64, .slice 81, .int .u32, .string] (by kernel_rfl) _ _ _ hm0)
  obtain rfl : l0 = _ := hl0
  obtain ⟨lc0_25, cm0_25, hs0_25, hr0_25⟩ := sf0_25
  have bd0_0 := bounds_u8 wf0_0
  have bd0_1 := bounds_u8 wf0_1
  have bd0_2 := bounds_u8 wf0_2
  have bd0_3 := bounds_u8 wf0_3
  have bd0_4 := bounds_u8 wf0_4
  have bd0_5 := bounds_u8 wf0_5
  have bd0_6 := bounds_u8 wf0_6
  have bd0_7 := bounds_u8 wf0_7
  have bd0_8 := bounds_u8 wf0_8
  have bd0_9 := bounds_u8 wf0_9
  have bd0_10 := bounds_u8 wf0_10
  have bd0_11 := bounds_u8 wf0_11
  have bd0_12 := bounds_u8 wf0_12
  have bd0_13 := bounds_u8 wf0_13
  have bd0_14 := bounds_u8 wf0_14
  have bd0_15 := bounds_u8 wf0_15
  have bd0_16 := bounds_u8 wf0_16
  have bd0_17 := bounds_u8 wf0_17
  have bd0_18 := bounds_u32 wf0_18
  have bd0_19 := bounds_u32 wf0_19
  have bd0_20 := bounds_i64 wf0_20
  have bd0_21 := bounds_i64 wf0_21
  have bd0_22 := bounds_i64 wf0_22
  have bd0_23 := bounds_i64 wf0_23
  have bd0_24 := bounds_i64 wf0_24
  obtain ⟨xs, hx0_25, hat0_25, hp0_25⟩ := at_ofN (e := 81) (sz := 4) (α := Conf.Fwd) (g := Conf.fwv) (p := fun x => (0 ≤ x.dest ∧ x.dest ≤ 65535) ∧ (0 ≤ x.host ∧ x.host ≤ 4294967295)) (by kernel_rfl) (fun _ => rfl) lc0_25 hs0_25 hr0_25 (fun m cs x hx => by
    have F := flat_ok (P := Try.prog) 8 81 [.int .u8, .int .u16, .int .u16, .int .u32] (by kernel_rfl) _ _ _ hx
    simp only [F2_cons, F2_nil, leafOK] at F
    obtain ⟨_, _, rfl, ⟨y1, rfl, wy1⟩, F⟩ := F
    obtain ⟨_, _, rfl, ⟨y2, rfl, wy2⟩, F⟩ := F
    obtain ⟨_, _, rfl, ⟨y3, rfl, wy3⟩, F⟩ := F
    obtain ⟨_, _, rfl, ⟨y4, rfl, wy4⟩, rfl⟩ := F
    exact ⟨⟨y1, y2, y3, y4⟩, rfl, bounds_u16 wy3, bounds_u32 wy4⟩)
  have bd0_26 := bounds_u32 wf0_26
  have k1 := h1
  have lt1 : ∀ x ∈ p1, x.block < W.heap.size := by obtain ⟨m, hm⟩ := k1; exact DataW.trod_lt m _ _ _ hm
  obtain ⟨na, nl, nc, rfl⟩ := okWide_slice Try.underlying71 (hval 1 71 v1 rfl rfl)
  obtain ⟨m1, hm1⟩ := h1
  have F1 := flat_ok (P := Try.prog) 3 71 [.slice 74] (by kernel_rfl) _ _ _ hm1
  simp only [F2_cons, F2_nil, leafOK] at F1
  obtain ⟨_, _, E1, ⟨a_, l_, c_, rfl, lc1, cm1, hs1, hr1⟩, rfl⟩ := F1
  have E1' : na = a_ ∧ nl = l_ ∧ nc = c_ := by simpa [Value.cells] using E1
  obtain ⟨rfl, rfl, rfl⟩ := E1'
  obtain ⟨ops, hx1, hat1, hp1⟩ := at_ofN (e := 74) (sz := 41) (α := Cll) (g := clC) (p := fun x => ElOK W x) (by kernel_rfl) (fun _ => rfl) lc1 hs1 hr1 (fun m cs x hx => by
    have F := flat_ok (P := Try.prog) 8 74 [.int .i64, .int .i64, .int .u32, .int .u8, .int .u16, .int .u16, .int .u32, .int .u32, .bool, .string, .int .u64, .int .u64, .int .u64, .int .u8, .int .u8, .int .u8, .int .u8, .int .u8, .int .u8, .int .u8, .int .u8, .int .u8, .int .u8, .int .u8, .int .u8, .int .u8, .int .u8, .int .u8, .int .u8, .int .u8, .int .u8, .int .u32, .int .u32, .int .i64, .int .i64, .int .i64, .int .i64, .int .i64, .slice 81, .int .u32, .string] (by kernel_rfl) _ _ _ hx
    simp only [F2_cons, F2_nil, leafOK] at F
    obtain ⟨_, _, rfl, ⟨y0, rfl, wy0⟩, F⟩ := F
    obtain ⟨_, _, rfl, ⟨y1, rfl, wy1⟩, F⟩ := F
    obtain ⟨_, _, rfl, ⟨y2, rfl, wy2⟩, F⟩ := F
    obtain ⟨_, _, rfl, ⟨y3, rfl, wy3⟩, F⟩ := F
    obtain ⟨_, _, rfl, ⟨y4, rfl, wy4⟩, F⟩ := F
    obtain ⟨_, _, rfl, ⟨y5, rfl, wy5⟩, F⟩ := F
    obtain ⟨_, _, rfl, ⟨y6, rfl, wy6⟩, F⟩ := F
    obtain ⟨_, _, rfl, ⟨y7, rfl, wy7⟩, F⟩ := F
    obtain ⟨_, _, rfl, ⟨y8, rfl⟩, F⟩ := F
    obtain ⟨_, _, rfl, ⟨y9, rfl, _⟩, F⟩ := F
    obtain ⟨_, _, rfl, ⟨y10, rfl, wy10⟩, F⟩ := F
    obtain ⟨_, _, rfl, ⟨y11, rfl, wy11⟩, F⟩ := F
    obtain ⟨_, _, rfl, ⟨y12, rfl, wy12⟩, F⟩ := F
    obtain ⟨_, _, rfl, ⟨y13, rfl, wy13⟩, F⟩ := F
    obtain ⟨_, _, rfl, ⟨y14, rfl, wy14⟩, F⟩ := F
    obtain ⟨_, _, rfl, ⟨y15, rfl, wy15⟩, F⟩ := F
    obtain ⟨_, _, rfl, ⟨y16, rfl, wy16⟩, F⟩ := F
    obtain ⟨_, _, rfl, ⟨y17, rfl, wy17⟩, F⟩ := F
    obtain ⟨_, _, rfl, ⟨y18, rfl, wy18⟩, F⟩ := F
    obtain ⟨_, _, rfl, ⟨y19, rfl, wy19⟩, F⟩ := F
    obtain ⟨_, _, rfl, ⟨y20, rfl, wy20⟩, F⟩ := F
    obtain ⟨_, _, rfl, ⟨y21, rfl, wy21⟩, F⟩ := F
    obtain ⟨_, _, rfl, ⟨y22, rfl, wy22⟩, F⟩ := F
    obtain ⟨_, _, rfl, ⟨y23, rfl, wy23⟩, F⟩ := F
    obtain ⟨_, _, rfl, ⟨y24, rfl, wy24⟩, F⟩ := F
    obtain ⟨_, _, rfl, ⟨y25, rfl, wy25⟩, F⟩ := F
    obtain ⟨_, _, rfl, ⟨y26, rfl, wy26⟩, F⟩ := F
    obtain ⟨_, _, rfl, ⟨y27, rfl, wy27⟩, F⟩ := F
    obtain ⟨_, _, rfl, ⟨y28, rfl, wy28⟩, F⟩ := F
    obtain ⟨_, _, rfl, ⟨y29, rfl, wy29⟩, F⟩ := F
    obtain ⟨_, _, rfl, ⟨y30, rfl, wy30⟩, F⟩ := F
    obtain ⟨_, _, rfl, ⟨y31, rfl, wy31⟩, F⟩ := F
    obtain ⟨_, _, rfl, ⟨y32, rfl, wy32⟩, F⟩ := F
    obtain ⟨_, _, rfl, ⟨y33, rfl, wy33⟩, F⟩ := F
    obtain ⟨_, _, rfl, ⟨y34, rfl, wy34⟩, F⟩ := F
    obtain ⟨_, _, rfl, ⟨y35, rfl, wy35⟩, F⟩ := F
    obtain ⟨_, _, rfl, ⟨y36, rfl, wy36⟩, F⟩ := F
    obtain ⟨_, _, rfl, ⟨y37, rfl, wy37⟩, F⟩ := F
    obtain ⟨_, _, rfl, ⟨ya, yl, yc, rfl, ylc, ycm, yhs, yhr⟩, F⟩ := F
    obtain ⟨yfs, yhl, yhat, yhp⟩ := at_ofN (e := 81) (sz := 4) (α := Conf.Fwd) (g := Conf.fwv) (p := fun x => 0 ≤ x.host ∧ x.host ≤ 4294967295) (by kernel_rfl) (fun _ => rfl) ylc yhs yhr (fun m cs x hx => by
      have F := flat_ok (P := Try.prog) 8 81 [.int .u8, .int .u16, .int .u16, .int .u32] (by kernel_rfl) _ _ _ hx
      simp only [F2_cons, F2_nil, leafOK] at F
      obtain ⟨_, _, rfl, ⟨z1, rfl, wz1⟩, F⟩ := F
      obtain ⟨_, _, rfl, ⟨z2, rfl, wz2⟩, F⟩ := F
      obtain ⟨_, _, rfl, ⟨z3, rfl, wz3⟩, F⟩ := F
      obtain ⟨_, _, rfl, ⟨z4, rfl, wz4⟩, rfl⟩ := F
      exact ⟨⟨z1, z2, z3, z4⟩, rfl, bounds_u32 wz4⟩)
    subst yhl
    obtain ⟨_, _, rfl, ⟨y39, rfl, wy39⟩, F⟩ := F
    obtain ⟨_, _, rfl, ⟨y40, rfl, _⟩, rfl⟩ := F
    exact ⟨⟨y0, y1, y2, ⟨y3, y4, y5, y6, y7, y8, y9, y10⟩, y11, y12, ⟨y13, y14, y15, y16, y17, y18, y19, y20, y21, y22, y23, y24, y25, y26, y27, y28, y29, y30, y31, y32, y33, y34, y35, y36, y37, ya, 0, yc, y39, y40⟩, yfs⟩, rfl, ⟨yhat, bounds_u32 wy2, bounds_u32 wy31, bounds_u32 wy32, bounds_u32 wy39, yhp, (bounds_u64 wy12).1, (bounds_u64 wy11).1⟩⟩)
  clear hA0 hval0
  have hw0_10 : fl ≤ reachBytes := field_slice_len Try.underlying28 hm0 (j := 10) (e := 81) rfl (by kernel_rfl) (by kernel_rfl) (by rfl) (fun n hn => of_decide_eq_true (List.all_eq_true.1 hreach n (DataW.weights_mem_each (j := 0) (t := 28) (by rfl) rfl n hn)))
  have hwb0_10 : fl ≤ 4611686018427387904 := Nat.le_trans hw0_10 (by decide)
  subst hx0_25
  subst hx1
  refine Calls.mono (own20_c lm0 lm1 lm2 lm3 lm4 lm5 wm0 wm1 wm2 wm3 wm4 wm5 pm0 pm1 pm2 pm3 pm4 pm5 lan wan bits ms m_m m_c m_u dmz uu xs fa fc ops na nc W hat0_25 hwb0_10 hat1 (by simp only [maxLen] at cm1; omega) hp1 bd0_18 bd0_19 bd0_26 (fun x h => (hp0_25 x h).2)) fun e W' ⟨he, bel⟩ => ?_
  subst he
  exact ⟨_, rfl, _, _, _, [], _, [], hW', trodAll_mk1 (shut_bool Try.underlying4 _), (trodAll_cons_mk (Below.trod laidOut (by kernel_rfl) (of_decide_eq_true (by kernel_rfl)) k0 bel lt0) (trodAll_cons_mk (Below.trod laidOut (by kernel_rfl) (of_decide_eq_true (by kernel_rfl)) k1 bel lt1) trodAll_mk0)), rfl, bel.frame _, fun h => by cases h⟩
theorem over : Rows.mapsOwnRow.holds Try.pinned (OpenSpec.ofChange Rows.mapsOwnSpec) :=
  OpenClaim.holds_of_wide 8 Try.f8 rfl rfl rfl rfl rfl rfl rfl ⟨rfl, rfl, rfl, rfl, rfl⟩ rfl rfl rfl rfl rfl (by kernel_rfl) Try.func8 (by kernel_rfl)
    (of_decide_eq_true (by kernel_rfl)) (by unfold Func.isWrapper; first | (rw [if_pos (by decide +kernel)]; kernel_rfl) | (rw [if_neg (by decide +kernel)]; exact ⟨rfl, rfl⟩))
    (fun os started H enc _ => lifted os started H enc)
theorem proved : Rows.MapsOwnSaid :=
  over
end Go.Proofs.Ytjkhmbigoloeiaa.MapsOwn
