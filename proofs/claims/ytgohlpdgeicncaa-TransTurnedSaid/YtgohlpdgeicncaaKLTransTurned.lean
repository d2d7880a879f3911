import Derived.Test.YtgohlpdgeicncaaRows
import Derived.Test.YtgohlpdgeicncaaKVF
import Derived.Test.YtgohlpdgeicncaaKTr13
import Derived.ProofKit
import Derived.OpenShut
import Derived.ChangeArms
import Derived.SizedLaws
set_option linter.unusedVariables false
set_option linter.unusedSimpArgs false
set_option maxRecDepth 20000
namespace Go.Proofs.Ytgohlpdgeicncaa.TransTurned
open Go.ChangeShapes Go.WideShapes Go.ChangeAt Go.RowKit Base
open Go.Proofs.Ytgohlpdgeicncaa.Oct
theorem opened2 {H : Type} {enc : TypeId × Value → H} {P : Program} {w : World} {base : Nat} {spare : Nat → Bool} {held : Bool} {l : List Value} (F : F2 (leafOK enc P w base spare held) [.int .u16, .int .u16, .int .u32, .int .u32, .int .u8, .int .u16, .int .u16, .slice 5, .slice 5] l) : ∃ (n2_0 : Int) (n2_1 : Int) (n2_2 : Int) (n2_3 : Int) (n2_4 : Int) (n2_5 : Int) (n2_6 : Int) (oa : Option Addr) (ol oc : Nat) (fa : Option Addr) (fl_ fc : Nat), l = [.int .u16 n2_0, .int .u16 n2_1, .int .u32 n2_2, .int .u32 n2_3, .int .u8 n2_4, .int .u16 n2_5, .int .u16 n2_6, .slice oa ol oc, .slice fa fl_ fc] ∧ ((Lit.int .u16 n2_0).wf = true) ∧ ((Lit.int .u16 n2_1).wf = true) ∧ ((Lit.int .u32 n2_2).wf = true) ∧ ((Lit.int .u32 n2_3).wf = true) ∧ ((Lit.int .u8 n2_4).wf = true) ∧ ((Lit.int .u16 n2_5).wf = true) ∧ ((Lit.int .u16 n2_6).wf = true) ∧ (ol ≤ oc ∧ oc ≤ maxLen ∧ (0 < oc → ∃ adr, oa = some adr) ∧ ∀ adr, oa = some adr → ∀ i, i < ol → ∃ cs m x, w.cells? base (adr.add (i * P.cellsOf 5)) (P.cellsOf 5) = some cs ∧ DataW.trod enc P w base spare held m 5 cs = some x) ∧ (fl_ ≤ fc ∧ fc ≤ maxLen ∧ (0 < fc → ∃ adr, fa = some adr) ∧ ∀ adr, fa = some adr → ∀ i, i < fl_ → ∃ cs m x, w.cells? base (adr.add (i * P.cellsOf 5)) (P.cellsOf 5) = some cs ∧ DataW.trod enc P w base spare held m 5 cs = some x) := by
  obtain ⟨_, _, rfl, ⟨n2_0, rfl, wf2_0⟩, F1_⟩ := F2_un F
  clear F
  obtain ⟨_, _, rfl, ⟨n2_1, rfl, wf2_1⟩, F2_⟩ := F2_un F1_
  clear F1_
  obtain ⟨_, _, rfl, ⟨n2_2, rfl, wf2_2⟩, F3_⟩ := F2_un F2_
  clear F2_
  obtain ⟨_, _, rfl, ⟨n2_3, rfl, wf2_3⟩, F4_⟩ := F2_un F3_
  clear F3_
  obtain ⟨_, _, rfl, ⟨n2_4, rfl, wf2_4⟩, F5_⟩ := F2_un F4_
  clear F4_
  obtain ⟨_, _, rfl, ⟨n2_5, rfl, wf2_5⟩, F6_⟩ := F2_un F5_
  clear F5_
  obtain ⟨_, _, rfl, ⟨n2_6, rfl, wf2_6⟩, F7_⟩ := F2_un F6_
  clear F6_
  obtain ⟨_, _, rfl, ⟨oa, ol, oc, rfl, sf2_7⟩, F8_⟩ := F2_un F7_
  clear F7_
  obtain ⟨_, _, rfl, ⟨fa, fl_, fc, rfl, sf2_8⟩, F9_⟩ := F2_un F8_
  clear F8_
  obtain rfl := F2_un0 F9_
  exact ⟨n2_0, n2_1, n2_2, n2_3, n2_4, n2_5, n2_6, oa, ol, oc, fa, fl_, fc, rfl, wf2_0, wf2_1, wf2_2, wf2_3, wf2_4, wf2_5, wf2_6, sf2_7, sf2_8⟩
theorem field_slice_len {H : Type} {enc : TypeId × Value → H} {P : Program} {w : World} {base : Nat} {spare : Nat → Bool} {held : Bool} {m : Nat} {t e : TypeId} {cs : List Value} {x : DataW H × List MemPlace} {fs : Array Field} {j : Nat} {f : Field} {a : Option Addr} {l c : Nat}
    (ht : P.underlying t = some (.struct fs)) (hx : DataW.trod enc P w base spare held m t cs = some x) (hf : fs[j]? = some f) (hu : P.underlying f.type = some (.slice e)) (hb : P.bytesOf e = 1)
    (hc : (cs.drop f.offset).take (P.cellsOf f.type) = [.slice a l c]) (hw : ∀ n ∈ x.1.weights P t, n ≤ reachBytes) : l ≤ reachBytes := by
  obtain ⟨xs, n, rfl, rfl, _, hl, hall⟩ := DataW.trod_struct ht hx
  have h1 := hall j f hf
  rw [hc] at h1
  have hj : j < xs.length := by
    have := (Array.getElem?_eq_some_iff.1 hf).1
    omega
  rw [List.getElem?_eq_getElem hj] at h1
  have hd : (xs.map (·.1))[j]? = some xs[j].1 := by rw [List.getElem?_map, List.getElem?_eq_getElem hj]; rfl
  have hft : (fs.toList.map (·.type))[j]? = some f.type := by rw [List.getElem?_map, Array.getElem?_toList, hf]; rfl
  rcases DataW.trod_slice hu h1 with ⟨h2, _⟩ | ⟨a', len, cap, elems, rest, n', _, h2, h3, _, _, _, h4, _⟩
  · simp only [List.cons.injEq, Value.slice.injEq] at h2
    omega
  · simp only [List.cons.injEq, Value.slice.injEq] at h2
    have h5 := hw ((elems.length + rest.length) * P.bytesOf e) (by
      simp only [DataW.weights, ht]
      refine DataW.weights_mem_each hft hd _ ?_
      rw [h3]
      simp [DataW.weights, hu])
    rw [hb] at h5
    omega
theorem own : ownKnob Try.prog.godebug = none := by kernel_rfl
theorem laidOut : laidOutB Try.prog = true := by kernel_rfl
set_option maxRecDepth 100000 in
set_option maxHeartbeats 400000 in
theorem lifted (os : Os) (started : os.Started) (H : Type) (enc : TypeId × Value → H) :
    ReturnsInHanded {} Try.checked os 7 .any (Rows.transTurnedSpec.pre6 enc Try.prog Try.f7 Rows.transTurnedRow.domain false) (Rows.transTurnedSpec.post enc Try.prog Try.f7 false true false false) := by
  refine returnsInHanded_of_change_sized (C := Try.checked) own started (by kernel_rfl) Try.func7
    (ChangeSpec.witness6 (enc := enc) (C := Try.checked) false ⟨#[], #[Value.int .u32 0, Value.int .u32 0, Value.agg ([Value.int .u16 0, Value.int .u16 0, Value.int .u32 0, Value.int .u32 0, Value.int .u8 0, Value.int .u16 0, Value.int .u16 0, Value.slice none 0 0, Value.slice none 0 0]).toArray, Value.int .i64 0], []⟩ 12 (by kernel_rfl) (by kernel_rfl) (by kernel_rfl) (by kernel_rfl)) ?_
  intro W base args ds gs before hval0 hW hcnd hreach _
  have hval : ∀ (j : Nat) t v, Try.f7.params[j]? = some t → args[j]? = some v → Value.okWide Try.prog W .any base t v := hval0
  have hW' := hW
  obtain ⟨p, q, hA0, hV, rfl, hfz, hnd⟩ := hW
  have hA : DataW.TrodAll enc Try.prog W 0 (fun _ => true) true Try.f7.params.toList args.toList ds p := hA0
  rw [Try.params7] at hA hval
  obtain ⟨v0, vs0, d0, ds0, p0, q0, hargs, rfl, rfl, h0, r0⟩ := trodAll_cons hA
  obtain ⟨v1, vs1, d1, ds1, p1, q1, rfl, rfl, rfl, h1, r1⟩ := trodAll_cons r0
  obtain ⟨v2, vs2, d2, ds2, p2, q2, rfl, rfl, rfl, h2, r2⟩ := trodAll_cons r1
  obtain ⟨v3, vs3, d3, ds3, p3, q3, rfl, rfl, rfl, h3, r3⟩ := trodAll_cons r2
  obtain ⟨rfl, rfl, rfl⟩ := trodAll_nil r3
  obtain rfl : args = #[v0, v1, v2, v3] := by cases args; simp_all
  obtain ⟨rfl, rfl⟩ := trodVars_none hV
  have k0 := h0
  have lt0 : ∀ x ∈ p0, x.block < W.heap.size := by obtain ⟨m, hm⟩ := k0; exact DataW.trod_lt m _ _ _ hm
  obtain ⟨si, rfl, rfl, rfl, wf0⟩ := open_int Try.underlying23 (hval 0 23 v0 rfl rfl) h0
  have bd0 := bounds_u32 wf0
  have k1 := h1
  have lt1 : ∀ x ∈ p1, x.block < W.heap.size := by obtain ⟨m, hm⟩ := k1; exact DataW.trod_lt m _ _ _ hm
  obtain ⟨di, rfl, rfl, rfl, wf1⟩ := open_int Try.underlying23 (hval 1 23 v1 rfl rfl) h1
  have bd1 := bounds_u32 wf1
  have k2 := h2
  have lt2 : ∀ x ∈ p2, x.block < W.heap.size := by obtain ⟨m, hm⟩ := k2; exact DataW.trod_lt m _ _ _ hm
  obtain ⟨cs2, rfl, hz2⟩ : ∃ cs, v2 = .agg cs ∧ cs.size = Try.prog.cellsOf 52 := by have hq := (hval 2 52 v2 rfl rfl); simp only [Value.okWide, Try.underlying52] at hq; obtain ⟨cs, e1, e2, _⟩ := hq; exact ⟨cs, e1, e2⟩
  obtain ⟨l2, rfl⟩ : ∃ l : List Value, cs2 = l.toArray := ⟨cs2.toList, by simp⟩
  obtain ⟨m2, hm2⟩ := h2
  obtain ⟨n2_0, n2_1, n2_2, n2_3, n2_4, n2_5, n2_6, oa, ol, oc, fa, fl_, fc, hl2, wf2_0, wf2_1, wf2_2, wf2_3, wf2_4, wf2_5, wf2_6, sf2_7, sf2_8⟩ := opened2 (flat_ok (P := Try.prog) 8 52 [.int .u16, .int .u16, .int .u32, .int .u32, .int .u8, .int .u16, .int .u16, .slice 5, .slice 5] (by kernel_rfl) _ _ _ hm2)
  obtain rfl : l2 = _ := hl2
  obtain ⟨lc2_7, cm2_7, hs2_7, hr2_7⟩ := sf2_7
  obtain ⟨lc2_8, cm2_8, hs2_8, hr2_8⟩ := sf2_8
  have bd2_0 := bounds_u16 wf2_0
  have bd2_1 := bounds_u16 wf2_1
  have bd2_2 := bounds_u32 wf2_2
  have bd2_3 := bounds_u32 wf2_3
  have bd2_4 := bounds_u8 wf2_4
  have bd2_5 := bounds_u16 wf2_5
  have bd2_6 := bounds_u16 wf2_6
  obtain ⟨os, hx2_7, hat2_7, hp2_7⟩ := at_of (e := 5) (α := UInt8) (g := b8) (p := fun x => True) (by kernel_rfl) lc2_7 hs2_7 hr2_7 (fun m cs x hx => by
    have F := flat_ok (P := Try.prog) 8 5 [.int .u8] (by kernel_rfl) _ _ _ hx
    simp only [F2_cons, F2_nil, leafOK] at F
    obtain ⟨_, _, rfl, ⟨y, rfl, wy⟩, rfl⟩ := F
    exact ⟨UInt8.ofNat y.toNat, congrArg (fun v => [v]) (b8_of wy), trivial⟩)
  obtain ⟨xs, hx2_8, hat2_8, hp2_8⟩ := at_of (e := 5) (α := UInt8) (g := b8) (p := fun x => True) (by kernel_rfl) lc2_8 hs2_8 hr2_8 (fun m cs x hx => by
    have F := flat_ok (P := Try.prog) 8 5 [.int .u8] (by kernel_rfl) _ _ _ hx
    simp only [F2_cons, F2_nil, leafOK] at F
    obtain ⟨_, _, rfl, ⟨y, rfl, wy⟩, rfl⟩ := F
    exact ⟨UInt8.ofNat y.toNat, congrArg (fun v => [v]) (b8_of wy), trivial⟩)
  have k3 := h3
  have lt3 : ∀ x ∈ p3, x.block < W.heap.size := by obtain ⟨m, hm⟩ := k3; exact DataW.trod_lt m _ _ _ hm
  obtain ⟨bt, rfl, rfl, rfl, wf3⟩ := open_int Try.underlying3 (hval 3 3 v3 rfl rfl) h3
  have bd3 := bounds_i64 wf3
  clear hA0 hval0
  have hw2_7 : ol ≤ reachBytes := field_slice_len Try.underlying52 hm2 (j := 7) (e := 5) rfl (by kernel_rfl) (by kernel_rfl) (by rfl) (fun n hn => of_decide_eq_true (List.all_eq_true.1 hreach n (DataW.weights_mem_each (j := 2) (t := 52) (by rfl) rfl n hn)))
  have hw2_8 : fl_ ≤ reachBytes := field_slice_len Try.underlying52 hm2 (j := 8) (e := 5) rfl (by kernel_rfl) (by kernel_rfl) (by rfl) (fun n hn => of_decide_eq_true (List.all_eq_true.1 hreach n (DataW.weights_mem_each (j := 2) (t := 52) (by rfl) rfl n hn)))
  have hrb := reachBytes_lt
  obtain ⟨s_, rfl⟩ : ∃ k : Nat, si = ((k : Nat) : Int) := ⟨si.toNat, by omega⟩
  obtain ⟨d_, rfl⟩ : ∃ k : Nat, di = ((k : Nat) : Int) := ⟨di.toNat, by omega⟩
  obtain ⟨fr, rfl⟩ : ∃ k : Nat, n2_0 = ((k : Nat) : Int) := ⟨n2_0.toNat, by omega⟩
  obtain ⟨to_, rfl⟩ : ∃ k : Nat, n2_1 = ((k : Nat) : Int) := ⟨n2_1.toNat, by omega⟩
  obtain ⟨sq, rfl⟩ : ∃ k : Nat, n2_2 = ((k : Nat) : Int) := ⟨n2_2.toNat, by omega⟩
  obtain ⟨ak, rfl⟩ : ∃ k : Nat, n2_3 = ((k : Nat) : Int) := ⟨n2_3.toNat, by omega⟩
  obtain ⟨fl, rfl⟩ : ∃ d : UInt8, n2_4 = ((d.toNat : Nat) : Int) := ⟨UInt8.ofNat n2_4.toNat, by rw [UInt8.toNat_ofNat', Nat.mod_eq_of_lt (by omega)]; omega⟩
  obtain ⟨wi, rfl⟩ : ∃ k : Nat, n2_5 = ((k : Nat) : Int) := ⟨n2_5.toNat, by omega⟩
  obtain ⟨ur, rfl⟩ : ∃ k : Nat, n2_6 = ((k : Nat) : Int) := ⟨n2_6.toNat, by omega⟩
  subst hx2_7
  subst hx2_8
  refine Calls.mono (turned_c bt s_ d_ fr to_ sq ak fl wi ur os xs oa fa oc fc W hat2_7 hat2_8 (by omega) (by omega) (by omega) (by omega) (by omega) (by omega) (by omega) (by omega) (by omega) (by omega) (by omega) (by omega)) fun e W' ⟨he, bel⟩ => ?_
  subst he
  exact ⟨_, rfl, _, _, _, [], _, [], hW', trodAll_mk1 (shut_bool Try.underlying4 _), (trodAll_cons_mk (Below.trod laidOut (by kernel_rfl) (of_decide_eq_true (by kernel_rfl)) k0 bel lt0) (trodAll_cons_mk (Below.trod laidOut (by kernel_rfl) (of_decide_eq_true (by kernel_rfl)) k1 bel lt1) (trodAll_cons_mk (Below.trod laidOut (by kernel_rfl) (of_decide_eq_true (by kernel_rfl)) k2 bel lt2) (trodAll_cons_mk (Below.trod laidOut (by kernel_rfl) (of_decide_eq_true (by kernel_rfl)) k3 bel lt3) trodAll_mk0)))), rfl, bel.frame _, fun h => by cases h⟩
theorem over : Rows.transTurnedRow.holds Try.pinned (OpenSpec.ofChange Rows.transTurnedSpec) :=
  OpenClaim.holds_of_wide 7 Try.f7 rfl rfl rfl rfl rfl rfl rfl ⟨rfl, rfl, rfl, rfl, rfl⟩ rfl rfl rfl rfl rfl (by kernel_rfl) Try.func7 (by kernel_rfl)
    (of_decide_eq_true (by kernel_rfl)) (by unfold Func.isWrapper; first | (rw [if_pos (by decide +kernel)]; kernel_rfl) | (rw [if_neg (by decide +kernel)]; exact ⟨rfl, rfl⟩))
    (fun os started H enc _ => lifted os started H enc)
theorem proved : Rows.TransTurnedSaid :=
  over
end Go.Proofs.Ytgohlpdgeicncaa.TransTurned
