/-
  EtherARP: for every input the law answers true and leaves its arguments as they were. The package-level variable that is listed reads as the program lays it.
-/
import Derived.Test.YtnhmajdpjapgjaaDoorRows
import Derived.Test.YtnhmajdpjapgjaaDoorVF
import Derived.Test.YtnhmajdpjapgjaaDoorArp6
import Derived.ProofKit
import Derived.OpenShut
import Derived.ChangeArms
import Derived.Test.YtnhmajdpjapgjaaDoorCards
import Derived.Test.YtnhmajdpjapgjaaDoorTie
import Derived.SevenTiedAt
import Derived.Lib.LaidTab
import Derived.LaidSub
set_option linter.unusedVariables false
set_option linter.unusedSimpArgs false
set_option maxRecDepth 20000
namespace Go.Proofs.YtnhmajdpjapgjaaDoor.EtherARP
open Go.ChangeShapes Go.WideShapes Go.ChangeAt Go.RowKit Base
open Go.Proofs.YtnhmajdpjapgjaaDoor.Oct
theorem opened0 {H : Type} {enc : TypeId × Value → H} {P : Program} {w : World} {base : Nat} {spare : Nat → Bool} {held : Bool} {l : List Value} (F : F2 (leafOK enc P w base spare held) [.int .u16, .int .u8, .int .u8, .int .u8, .int .u8, .int .u8, .int .u8, .int .u8, .int .u8, .int .u8, .int .u8, .int .u8, .int .u8, .int .u32, .int .u32] l) : ∃ (n0_0 : Int) (n0_1 : Int) (n0_2 : Int) (n0_3 : Int) (n0_4 : Int) (n0_5 : Int) (n0_6 : Int) (n0_7 : Int) (n0_8 : Int) (n0_9 : Int) (n0_10 : Int) (n0_11 : Int) (n0_12 : Int) (n0_13 : Int) (n0_14 : Int), l = [.int .u16 n0_0, .int .u8 n0_1, .int .u8 n0_2, .int .u8 n0_3, .int .u8 n0_4, .int .u8 n0_5, .int .u8 n0_6, .int .u8 n0_7, .int .u8 n0_8, .int .u8 n0_9, .int .u8 n0_10, .int .u8 n0_11, .int .u8 n0_12, .int .u32 n0_13, .int .u32 n0_14] ∧ ((Lit.int .u16 n0_0).wf = true) ∧ ((Lit.int .u8 n0_1).wf = true) ∧ ((Lit.int .u8 n0_2).wf = true) ∧ ((Lit.int .u8 n0_3).wf = true) ∧ ((Lit.int .u8 n0_4).wf = true) ∧ ((Lit.int .u8 n0_5).wf = true) ∧ ((Lit.int .u8 n0_6).wf = true) ∧ ((Lit.int .u8 n0_7).wf = true) ∧ ((Lit.int .u8 n0_8).wf = true) ∧ ((Lit.int .u8 n0_9).wf = true) ∧ ((Lit.int .u8 n0_10).wf = true) ∧ ((Lit.int .u8 n0_11).wf = true) ∧ ((Lit.int .u8 n0_12).wf = true) ∧ ((Lit.int .u32 n0_13).wf = true) ∧ ((Lit.int .u32 n0_14).wf = true) := by
  obtain ⟨_, _, rfl, ⟨n0_0, rfl, wf0_0⟩, F1_⟩ := F2_un F
  clear F
  obtain ⟨_, _, rfl, ⟨n0_1, rfl, wf0_1⟩, F2_⟩ := F2_un F1_
  clear F1_
  obtain ⟨_, _, rfl, ⟨n0_2, rfl, wf0_2⟩, F3_⟩ := F2_un F2_
  clear F2_
  obtain ⟨_, _, rfl, ⟨n0_3, rfl, wf0_3⟩, F4_⟩ := F2_un F3_
  clear F3_
  obtain ⟨_, _, rfl, ⟨n0_4, rfl, wf0_4⟩, F5_⟩ := F2_un F4_
  clear F4_
  obtain ⟨_, _, rfl, ⟨n0_5, rfl, wf0_5⟩, F6_⟩ := F2_un F5_
  clear F5_
  obtain ⟨_, _, rfl, ⟨n0_6, rfl, wf0_6⟩, F7_⟩ := F2_un F6_
  clear F6_
  obtain ⟨_, _, rfl, ⟨n0_7, rfl, wf0_7⟩, F8_⟩ := F2_un F7_
  clear F7_
  obtain ⟨_, _, rfl, ⟨n0_8, rfl, wf0_8⟩, F9_⟩ := F2_un F8_
  clear F8_
  obtain ⟨_, _, rfl, ⟨n0_9, rfl, wf0_9⟩, F10_⟩ := F2_un F9_
  clear F9_
  obtain ⟨_, _, rfl, ⟨n0_10, rfl, wf0_10⟩, F11_⟩ := F2_un F10_
  clear F10_
  obtain ⟨_, _, rfl, ⟨n0_11, rfl, wf0_11⟩, F12_⟩ := F2_un F11_
  clear F11_
  obtain ⟨_, _, rfl, ⟨n0_12, rfl, wf0_12⟩, F13_⟩ := F2_un F12_
  clear F12_
  obtain ⟨_, _, rfl, ⟨n0_13, rfl, wf0_13⟩, F14_⟩ := F2_un F13_
  clear F13_
  obtain ⟨_, _, rfl, ⟨n0_14, rfl, wf0_14⟩, F15_⟩ := F2_un F14_
  clear F14_
  obtain rfl := F2_un0 F15_
  exact ⟨n0_0, n0_1, n0_2, n0_3, n0_4, n0_5, n0_6, n0_7, n0_8, n0_9, n0_10, n0_11, n0_12, n0_13, n0_14, rfl, wf0_0, wf0_1, wf0_2, wf0_3, wf0_4, wf0_5, wf0_6, wf0_7, wf0_8, wf0_9, wf0_10, wf0_11, wf0_12, wf0_13, wf0_14⟩

theorem own : ownKnob Tryd.prog.godebug = none := by kernel_rfl
theorem laidOut : laidOutB Tryd.prog = true := by kernel_rfl
def cells_0 : Array Value := #[.int .u8 0, .int .u8 1, .int .u8 8, .int .u8 0, .int .u8 6, .int .u8 4]
theorem at_of_tab {P : Program} {W : World} {name : String} {k : IntKind} {zs : List Int} {g : Nat} (h : Lib.TabIs P W name k zs) (hg : P.globalNamed name = some g) : At W (some ⟨g, 0, none⟩) (zs.map fun z => Value.int k z) :=
  ⟨fun _ => rfl, fun q v hv => by
    rw [List.getElem?_map, Option.map_eq_some_iff] at hv
    obtain ⟨z, hz, rfl⟩ := hv
    have hq := (List.getElem?_eq_some_iff.1 hz).1
    have := h.cell hg q hq
    simp only [Option.getD_some]
    rw [add_lit, Nat.zero_add, this]
    simp [List.getD, hz]⟩
noncomputable def laidWorld (os : Os) : World :=
  { World.holding Tryd.prog os ⟨#[], #[], []⟩ with heap := ((World.holding Tryd.prog os ⟨#[], #[], []⟩).heap.modify 0 fun
      | .cells _ t frozen => .cells cells_0 t frozen
      | o => o) }
theorem laidWorld_met (os : Os) (args : Array Value) : laidMetH Tryd.prog Rows.etherARPRow.laid ((laidWorld os).forCall (fun _ _ => 0) ⟨#[], args, []⟩).memory := by
  refine (Go.laidMetH_iff).2 ⟨?_, fun _ h => by cases h⟩
  exact laidMet_of_run' 8 (by kernel_rfl) (by kernel_rfl)
set_option maxRecDepth 100000 in
set_option maxHeartbeats 1000000 in
theorem lifted (os : Os) (started : os.Started) (H : Type) (enc : TypeId × Value → H) :
    ReturnsInHanded {} Tryd.checked os 9 .any (fun w args => (Rows.etherARPSpec.pre enc Tryd.prog Tryd.f9 Rows.etherARPRow.domain false w args ∧ laidMetH Tryd.prog Rows.etherARPRow.laid w) ∧ sizedMet enc Tryd.prog Tryd.f9 (OpenSpec.ofChange Rows.etherARPSpec) false w args) (Rows.etherARPSpec.post enc Tryd.prog Tryd.f9 false true false false) := by
  refine returnsInHanded_of_change_and (C := Tryd.checked) (X := fun w _ => laidMetH Tryd.prog Rows.etherARPRow.laid w) (fun _ _ _ hh h => h.of_heap hh) own started (by kernel_rfl) Tryd.func9
    (ChangeSpec.witness_at (enc := enc) (C := Tryd.checked) (os := os) (X := fun w _ => laidMetH Tryd.prog Rows.etherARPRow.laid w) false (laidWorld os) #[Value.agg ([Value.int .u16 0, Value.int .u8 0, Value.int .u8 0, Value.int .u8 0, Value.int .u8 0, Value.int .u8 0, Value.int .u8 0, Value.int .u8 0, Value.int .u8 0, Value.int .u8 0, Value.int .u8 0, Value.int .u8 0, Value.int .u8 0, Value.int .u32 0, Value.int .u32 0]).toArray, Value.slice none 0 0, Value.slice none 0 0] 12 rfl (by kernel_rfl) (by kernel_rfl) (by kernel_rfl) (by kernel_rfl) (by kernel_rfl) (laidWorld_met os _)) ?_
  intro W base args ds gs before hval0 hW hcnd _ hL0 _
  have hL := (Go.laidMetH_iff.1 hL0).1
  have hT : Lib.TabIs Tryd.prog W "hearth/ether.prefix" .u8 [0, 1, 8, 0, 6, 4] := Lib.tabIs_of_head (g := 0) (t := 35) (e := 5) (n := 6) (by kernel_rfl) (by kernel_rfl) (by kernel_rfl) (by kernel_rfl) (by kernel_rfl) (by kernel_rfl) hL
  have hlaid : At W (some ⟨0, 0, none⟩) (byc [0, 1, 8, 0, 6, 4]) := (show List.map (fun z => Value.int .u8 z) [0, 1, 8, 0, 6, 4] = byc [0, 1, 8, 0, 6, 4] by kernel_rfl) ▸ at_of_tab hT (by kernel_rfl)
  have hval : ∀ (j : Nat) t v, Tryd.f9.params[j]? = some t → args[j]? = some v → Value.okWide Tryd.prog W .any base t v := hval0
  have hW' := hW
  obtain ⟨p, q, hA0, hV, rfl, hfz, hnd⟩ := hW
  have hA : DataW.TrodAll enc Tryd.prog W 0 (fun _ => true) true Tryd.f9.params.toList args.toList ds p := hA0
  rw [Tryd.params9] at hA hval
  obtain ⟨v0, vs0, d0, ds0, p0, q0, hargs, rfl, rfl, h0, r0⟩ := trodAll_cons hA
  obtain ⟨v1, vs1, d1, ds1, p1, q1, rfl, rfl, rfl, h1, r1⟩ := trodAll_cons r0
  obtain ⟨v2, vs2, d2, ds2, p2, q2, rfl, rfl, rfl, h2, r2⟩ := trodAll_cons r1
  obtain ⟨rfl, rfl, rfl⟩ := trodAll_nil r2
  obtain rfl : args = #[v0, v1, v2] := by cases args; simp_all
  obtain ⟨rfl, rfl⟩ := trodVars_none hV
  have k0 := h0
  have lt0 : ∀ x ∈ p0, x.block < W.heap.size := by obtain ⟨m, hm⟩ := k0; exact DataW.trod_lt m _ _ _ hm
  obtain ⟨cs0, rfl, hz0⟩ : ∃ cs, v0 = .agg cs ∧ cs.size = Tryd.prog.cellsOf 43 := by have hq := (hval 0 43 v0 rfl rfl); simp only [Value.okWide, Tryd.underlying43] at hq; obtain ⟨cs, e1, e2, _⟩ := hq; exact ⟨cs, e1, e2⟩
  obtain ⟨l0, rfl⟩ : ∃ l : List Value, cs0 = l.toArray := ⟨cs0.toList, by simp⟩
  obtain ⟨m0, hm0⟩ := h0
  obtain ⟨n0_0, n0_1, n0_2, n0_3, n0_4, n0_5, n0_6, n0_7, n0_8, n0_9, n0_10, n0_11, n0_12, n0_13, n0_14, hl0, wf0_0, wf0_1, wf0_2, wf0_3, wf0_4, wf0_5, wf0_6, wf0_7, wf0_8, wf0_9, wf0_10, wf0_11, wf0_12, wf0_13, wf0_14⟩ := opened0 (flat_ok (P := Tryd.prog) 8 43 [.int .u16, .int .u8, .int .u8, .int .u8, .int .u8, .int .u8, .int .u8, .int .u8, .int .u8, .int .u8, .int .u8, .int .u8, .int .u8, .int .u32, .int .u32] (by kernel_rfl) _ _ _ hm0)
  obtain rfl : l0 = _ := hl0
  have bd0_0 := bounds_u16 wf0_0
  have bd0_1 := bounds_u8 wf0_1
  have bd0_2 := bounds_u8 wf0_2
  have bd0_3 := bounds_u8 wf0_3
  have bd0_4 := bounds_u8 wf0_4
  have bd0_5 := bounds_u8 wf0_5
  have bd0_6 := bounds_u8 wf0_6
  have bd0_7 := bounds_u8 wf0_7
  have bd0_8 := bounds_u8 wf0_8
  have bd0_9 := bounds_u8 wf0_9
  have bd0_10 := bounds_u8 wf0_10
  have bd0_11 := bounds_u8 wf0_11
  have bd0_12 := bounds_u8 wf0_12
  have bd0_13 := bounds_u32 wf0_13
  have bd0_14 := bounds_u32 wf0_14
  have k1 := h1
  have lt1 : ∀ x ∈ p1, x.block < W.heap.size := by obtain ⟨m, hm⟩ := k1; exact DataW.trod_lt m _ _ _ hm
  obtain ⟨ra, rl, rc, rfl⟩ := okWide_slice Tryd.underlying37 (hval 1 37 v1 rfl rfl)
  obtain ⟨m1, hm1⟩ := h1
  have F1 := flat_ok (P := Tryd.prog) 3 37 [.slice 5] (by kernel_rfl) _ _ _ hm1
  simp only [F2_cons, F2_nil, leafOK] at F1
  obtain ⟨_, _, E1, ⟨a_, l_, c_, rfl, lc1, cm1, hs1, hr1⟩, rfl⟩ := F1
  have E1' : ra = a_ ∧ rl = l_ ∧ rc = c_ := by simpa [Value.cells] using E1
  obtain ⟨rfl, rfl, rfl⟩ := E1'
  obtain ⟨xr, hx1, hat1, hp1⟩ := at_of (e := 5) (α := UInt8) (g := b8) (p := fun x => True) (by kernel_rfl) lc1 hs1 hr1 (fun m cs x hx => by
    have F := flat_ok (P := Tryd.prog) 8 5 [.int .u8] (by kernel_rfl) _ _ _ hx
    simp only [F2_cons, F2_nil, leafOK] at F
    obtain ⟨_, _, rfl, ⟨y, rfl, wy⟩, rfl⟩ := F
    exact ⟨UInt8.ofNat y.toNat, congrArg (fun v => [v]) (b8_of wy), trivial⟩)
  have k2 := h2
  have lt2 : ∀ x ∈ p2, x.block < W.heap.size := by obtain ⟨m, hm⟩ := k2; exact DataW.trod_lt m _ _ _ hm
  obtain ⟨ma, ml, mc_, rfl⟩ := okWide_slice Tryd.underlying37 (hval 2 37 v2 rfl rfl)
  obtain ⟨m2, hm2⟩ := h2
  have F2 := flat_ok (P := Tryd.prog) 3 37 [.slice 5] (by kernel_rfl) _ _ _ hm2
  simp only [F2_cons, F2_nil, leafOK] at F2
  obtain ⟨_, _, E2, ⟨a_, l_, c_, rfl, lc2, cm2, hs2, hr2⟩, rfl⟩ := F2
  have E2' : ma = a_ ∧ ml = l_ ∧ mc_ = c_ := by simpa [Value.cells] using E2
  obtain ⟨rfl, rfl, rfl⟩ := E2'
  obtain ⟨xm, hx2, hat2, hp2⟩ := at_of (e := 5) (α := UInt8) (g := b8) (p := fun x => True) (by kernel_rfl) lc2 hs2 hr2 (fun m cs x hx => by
    have F := flat_ok (P := Tryd.prog) 8 5 [.int .u8] (by kernel_rfl) _ _ _ hx
    simp only [F2_cons, F2_nil, leafOK] at F
    obtain ⟨_, _, rfl, ⟨y, rfl, wy⟩, rfl⟩ := F
    exact ⟨UInt8.ofNat y.toNat, congrArg (fun v => [v]) (b8_of wy), trivial⟩)
  clear hA0 hval0
  obtain ⟨o0_, rfl⟩ : ∃ k : Nat, n0_0 = ((k : Nat) : Int) := ⟨n0_0.toNat, by omega⟩
  obtain ⟨m0_0, rfl⟩ : ∃ d : UInt8, n0_1 = ((d.toNat : Nat) : Int) := ⟨UInt8.ofNat n0_1.toNat, by rw [UInt8.toNat_ofNat', Nat.mod_eq_of_lt (by omega)]; omega⟩
  obtain ⟨m0_1, rfl⟩ : ∃ d : UInt8, n0_2 = ((d.toNat : Nat) : Int) := ⟨UInt8.ofNat n0_2.toNat, by rw [UInt8.toNat_ofNat', Nat.mod_eq_of_lt (by omega)]; omega⟩
  obtain ⟨m0_2, rfl⟩ : ∃ d : UInt8, n0_3 = ((d.toNat : Nat) : Int) := ⟨UInt8.ofNat n0_3.toNat, by rw [UInt8.toNat_ofNat', Nat.mod_eq_of_lt (by omega)]; omega⟩
  obtain ⟨m0_3, rfl⟩ : ∃ d : UInt8, n0_4 = ((d.toNat : Nat) : Int) := ⟨UInt8.ofNat n0_4.toNat, by rw [UInt8.toNat_ofNat', Nat.mod_eq_of_lt (by omega)]; omega⟩
  obtain ⟨m0_4, rfl⟩ : ∃ d : UInt8, n0_5 = ((d.toNat : Nat) : Int) := ⟨UInt8.ofNat n0_5.toNat, by rw [UInt8.toNat_ofNat', Nat.mod_eq_of_lt (by omega)]; omega⟩
  obtain ⟨m0_5, rfl⟩ : ∃ d : UInt8, n0_6 = ((d.toNat : Nat) : Int) := ⟨UInt8.ofNat n0_6.toNat, by rw [UInt8.toNat_ofNat', Nat.mod_eq_of_lt (by omega)]; omega⟩
  obtain ⟨m0_6, rfl⟩ : ∃ d : UInt8, n0_7 = ((d.toNat : Nat) : Int) := ⟨UInt8.ofNat n0_7.toNat, by rw [UInt8.toNat_ofNat', Nat.mod_eq_of_lt (by omega)]; omega⟩
  obtain ⟨m0_7, rfl⟩ : ∃ d : UInt8, n0_8 = ((d.toNat : Nat) : Int) := ⟨UInt8.ofNat n0_8.toNat, by rw [UInt8.toNat_ofNat', Nat.mod_eq_of_lt (by omega)]; omega⟩
  obtain ⟨m0_8, rfl⟩ : ∃ d : UInt8, n0_9 = ((d.toNat : Nat) : Int) := ⟨UInt8.ofNat n0_9.toNat, by rw [UInt8.toNat_ofNat', Nat.mod_eq_of_lt (by omega)]; omega⟩
  obtain ⟨m0_9, rfl⟩ : ∃ d : UInt8, n0_10 = ((d.toNat : Nat) : Int) := ⟨UInt8.ofNat n0_10.toNat, by rw [UInt8.toNat_ofNat', Nat.mod_eq_of_lt (by omega)]; omega⟩
  obtain ⟨m0_10, rfl⟩ : ∃ d : UInt8, n0_11 = ((d.toNat : Nat) : Int) := ⟨UInt8.ofNat n0_11.toNat, by rw [UInt8.toNat_ofNat', Nat.mod_eq_of_lt (by omega)]; omega⟩
  obtain ⟨m0_11, rfl⟩ : ∃ d : UInt8, n0_12 = ((d.toNat : Nat) : Int) := ⟨UInt8.ofNat n0_12.toNat, by rw [UInt8.toNat_ofNat', Nat.mod_eq_of_lt (by omega)]; omega⟩
  obtain ⟨s0_, rfl⟩ : ∃ k : Nat, n0_13 = ((k : Nat) : Int) := ⟨n0_13.toNat, by omega⟩
  obtain ⟨t0_, rfl⟩ : ∃ k : Nat, n0_14 = ((k : Nat) : Int) := ⟨n0_14.toNat, by omega⟩
  subst hx1
  subst hx2
  refine Calls.mono (etherarp_c o0_ m0_0 m0_1 m0_2 m0_3 m0_4 m0_5 m0_6 m0_7 m0_8 m0_9 m0_10 m0_11 s0_ t0_ xr xm ra ma rc mc_ W hat1 hat2 (by omega) (by omega) (by omega) (by omega) (by omega) hlaid) fun e W' ⟨he, bel⟩ => ?_
  subst he
  exact ⟨_, rfl, _, _, _, [], _, [], hW', trodAll_mk1 (shut_bool Tryd.underlying4 _), (trodAll_cons_mk (Below.trod laidOut (by kernel_rfl) (of_decide_eq_true (by kernel_rfl)) k0 bel lt0) (trodAll_cons_mk (Below.trod laidOut (by kernel_rfl) (of_decide_eq_true (by kernel_rfl)) k1 bel lt1) (trodAll_cons_mk (Below.trod laidOut (by kernel_rfl) (of_decide_eq_true (by kernel_rfl)) k2 bel lt2) trodAll_mk0))), rfl, bel.frame _, fun h => by cases h⟩

theorem over : Rows.etherARPRow.holds Tryd.pinned (OpenSpec.ofChange Rows.etherARPSpec) :=
  OpenClaim.holds_of_wide 9 Tryd.f9 rfl rfl rfl rfl rfl rfl rfl ⟨rfl, rfl, rfl, rfl, rfl⟩ rfl rfl rfl rfl rfl (by kernel_rfl) Tryd.func9 (by kernel_rfl)
    (of_decide_eq_true (by kernel_rfl)) (by unfold Func.isWrapper; first | (rw [if_pos (by decide +kernel)]; kernel_rfl) | (rw [if_neg (by decide +kernel)]; exact ⟨rfl, rfl⟩))
    (fun os started H enc _ => lifted os started H enc)

theorem proved : Rows.EtherARPCardSaid :=
  Claim7.holds_tied_plain_at .later [] [.widerDeep] true (true, "f879604ec6ad26d7bb44c5d40e26c8e43bbda50914c7fb8fa61c5453093931d1") false over (fun _ h => by cases h) (by kernel_rfl) (fun _ h => by cases h) etherARP_row_tie rfl ⟨rfl, rfl⟩ (by kernel_rfl) rfl
    (fun f fn hf hfn => by
      obtain rfl : f = 9 := Option.some.inj ((show Tryd.prog.funcNamed "hearth/hearthlaw03.EtherARP" = some 9 by kernel_rfl).symm.trans hf) |>.symm
      obtain rfl : fn = Tryd.f9 := (Option.some.inj (Tryd.func9.symm.trans hfn)).symm
      refine ⟨by kernel_rfl, fun j t ht => ?_⟩
      rw [Tryd.params9] at ht
      have hm := Array.mem_of_getElem? ht
      have ha : ([43, 37, 37] : List TypeId).all (fun t => !Tryd.prog.wantsStandIn t) = true := by kernel_rfl
      have hx := List.all_eq_true.1 ha t (by simpa using hm)
      exact (show Tryd.prog.wantsStandIn t = false by simpa using hx))
    (by kernel_rfl)
end Go.Proofs.YtnhmajdpjapgjaaDoor.EtherARP

