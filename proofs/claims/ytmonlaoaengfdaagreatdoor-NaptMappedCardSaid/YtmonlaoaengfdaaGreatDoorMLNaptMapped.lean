import Derived.Test.YtmonlaoaengfdaaGreatDoorRows
import Derived.Test.YtmonlaoaengfdaaGreatDoorM4
import Derived.Test.YtmonlaoaengfdaaGreatDoorM37
import Derived.Test.YtmonlaoaengfdaaGreatDoorCards
import Derived.Test.YtmonlaoaengfdaaGreatDoorTie
import Derived.ProofKit
import Derived.OpenShut
import Derived.ChangeArms
import Derived.SevenTiedAt
import Derived.Lib.LaidTab
import Derived.LaidSub
set_option linter.unusedVariables false
set_option linter.unusedSimpArgs false
set_option maxRecDepth 20000
namespace Go.Proofs.YtmonlaoaengfdaaGreatDoor.NaptMapped
open Go.ChangeShapes Go.WideShapes Go.ChangeAt Go.RowKit Base
open Go.Proofs.YtmonlaoaengfdaaGreatDoor.Oct
theorem opened0 {H : Type} {enc : TypeId × Value → H} {P : Program} {w : World} {base : Nat} {spare : Nat → Bool} {held : Bool} {l : List Value} (F : F2 (leafOK enc P w base spare held) [.int .u8, .int .u16, .int .u16, .int .u32, .int .u32] l) : ∃ (n0 : Int) (n1 : Int) (n2 : Int) (n3 : Int) (n4 : Int), l = [.int .u8 n0, .int .u16 n1, .int .u16 n2, .int .u32 n3, .int .u32 n4] ∧ ((Lit.int .u8 n0).wf = true) ∧ ((Lit.int .u16 n1).wf = true) ∧ ((Lit.int .u16 n2).wf = true) ∧ ((Lit.int .u32 n3).wf = true) ∧ ((Lit.int .u32 n4).wf = true) := by
  obtain ⟨_, _, rfl, ⟨n0, rfl, wf0_0⟩, F1_⟩ := F2_un F
  clear F
  obtain ⟨_, _, rfl, ⟨n1, rfl, wf0_1⟩, F2_⟩ := F2_un F1_
  clear F1_
  obtain ⟨_, _, rfl, ⟨n2, rfl, wf0_2⟩, F3_⟩ := F2_un F2_
  clear F2_
  obtain ⟨_, _, rfl, ⟨n3, rfl, wf0_3⟩, F4_⟩ := F2_un F3_
  clear F3_
  obtain ⟨_, _, rfl, ⟨n4, rfl, wf0_4⟩, F5_⟩ := F2_un F4_
  clear F4_
  obtain rfl := F2_un0 F5_
  exact ⟨n0, n1, n2, n3, n4, rfl, wf0_0, wf0_1, wf0_2, wf0_3, wf0_4⟩
theorem own : ownKnob Tryz.prog.godebug = none := by kernel_rfl
theorem laidOut : laidOutB Tryz.prog = true := by kernel_rfl
def cells_0 : Array Value := #[.int .u8 0, .int .u8 1, .int .u8 56, .int .u8 2, .int .u8 57, .int .u8 49, .int .u8 28, .int .u8 3, .int .u8 61, .int .u8 58, .int .u8 42, .int .u8 50, .int .u8 38, .int .u8 29, .int .u8 17, .int .u8 4, .int .u8 62, .int .u8 47, .int .u8 59, .int .u8 36, .int .u8 45, .int .u8 43, .int .u8 51, .int .u8 22, .int .u8 53, .int .u8 39, .int .u8 33, .int .u8 30, .int .u8 24, .int .u8 18, .int .u8 12, .int .u8 5, .int .u8 63, .int .u8 55, .int .u8 48, .int .u8 27, .int .u8 60, .int .u8 41, .int .u8 37, .int .u8 16, .int .u8 46, .int .u8 35, .int .u8 44, .int .u8 21, .int .u8 52, .int .u8 32, .int .u8 23, .int .u8 11, .int .u8 54, .int .u8 26, .int .u8 40, .int .u8 15, .int .u8 34, .int .u8 20, .int .u8 31, .int .u8 10, .int .u8 25, .int .u8 14, .int .u8 19, .int .u8 9, .int .u8 13, .int .u8 8, .int .u8 7, .int .u8 6]
theorem at_of_tab {P : Program} {W : World} {name : String} {k : IntKind} {zs : List Int} {g : Nat} (h : Lib.TabIs P W name k zs) (hg : P.globalNamed name = some g) : At W (some ⟨g, 0, none⟩) (zs.map fun z => Value.int k z) :=
  ⟨fun _ => rfl, fun q v hv => by
    rw [List.getElem?_map, Option.map_eq_some_iff] at hv
    obtain ⟨z, hz, rfl⟩ := hv
    have hq := (List.getElem?_eq_some_iff.1 hz).1
    have := h.cell hg q hq
    simp only [Option.getD_some]
    rw [add_lit, Nat.zero_add, this]
    simp [List.getD, hz]⟩
noncomputable def laidWorld (os : Os) : World :=
  { World.holding Tryz.prog os ⟨#[], #[], []⟩ with heap := ((World.holding Tryz.prog os ⟨#[], #[], []⟩).heap.modify 0 fun
      | .cells _ t frozen => .cells cells_0 t frozen
      | o => o) }
theorem laidWorld_met (os : Os) (args : Array Value) : laidMetH Tryz.prog Rows.naptMappedRow.laid ((laidWorld os).forCall (fun _ _ => 0) ⟨#[], args, []⟩).memory := by
  refine (Go.laidMetH_iff).2 ⟨?_, fun _ h => by cases h⟩
  exact laidMet_of_run' 8 (by kernel_rfl) (by kernel_rfl)
set_option maxRecDepth 100000 in
set_option maxHeartbeats 1000000 in
theorem lifted (os : Os) (started : os.Started) (H : Type) (enc : TypeId × Value → H) :
    ReturnsInHanded {} Tryz.checked os 3 .any (fun w args => (Rows.naptMappedSpec.pre enc Tryz.prog Tryz.f3 Rows.naptMappedRow.domain false w args ∧ laidMetH Tryz.prog Rows.naptMappedRow.laid w) ∧ sizedMet enc Tryz.prog Tryz.f3 (OpenSpec.ofChange Rows.naptMappedSpec) false w args) (Rows.naptMappedSpec.post enc Tryz.prog Tryz.f3 false true false false) := by
  refine returnsInHanded_of_change_and (C := Tryz.checked) (X := fun w _ => laidMetH Tryz.prog Rows.naptMappedRow.laid w) (fun _ _ _ hh h => h.of_heap hh) own started (by kernel_rfl) Tryz.func3
    (ChangeSpec.witness_at (enc := enc) (C := Tryz.checked) (os := os) (X := fun w _ => laidMetH Tryz.prog Rows.naptMappedRow.laid w) false (laidWorld os) #[Value.agg ([Value.int .u8 0, Value.int .u16 0, Value.int .u16 0, Value.int .u32 0, Value.int .u32 0]).toArray, Value.int .u32 0, Value.int .u16 0] 12 rfl (by kernel_rfl) (by kernel_rfl) (by kernel_rfl) (by kernel_rfl) (by kernel_rfl) (laidWorld_met os _)) ?_
  intro W base args ds gs before hval0 hW hcnd _ hL0 _
  have hL := (Go.laidMetH_iff.1 hL0).1
  have hT : Lib.TabIs Tryz.prog W "math/bits.deBruijn64tab" .u8 [0, 1, 56, 2, 57, 49, 28, 3, 61, 58, 42, 50, 38, 29, 17, 4, 62, 47, 59, 36, 45, 43, 51, 22, 53, 39, 33, 30, 24, 18, 12, 5, 63, 55, 48, 27, 60, 41, 37, 16, 46, 35, 44, 21, 52, 32, 23, 11, 54, 26, 40, 15, 34, 20, 31, 10, 25, 14, 19, 9, 13, 8, 7, 6] := Lib.tabIs_of_head (g := 0) (t := 298) (e := 5) (n := 64) (by kernel_rfl) (by kernel_rfl) (by kernel_rfl) (by kernel_rfl) (by kernel_rfl) (by kernel_rfl) hL
  have hlaid : At W (some ⟨0, 0, none⟩) (byc [0, 1, 56, 2, 57, 49, 28, 3, 61, 58, 42, 50, 38, 29, 17, 4, 62, 47, 59, 36, 45, 43, 51, 22, 53, 39, 33, 30, 24, 18, 12, 5, 63, 55, 48, 27, 60, 41, 37, 16, 46, 35, 44, 21, 52, 32, 23, 11, 54, 26, 40, 15, 34, 20, 31, 10, 25, 14, 19, 9, 13, 8, 7, 6]) := (show List.map (fun z => Value.int .u8 z) [0, 1, 56, 2, 57, 49, 28, 3, 61, 58, 42, 50, 38, 29, 17, 4, 62, 47, 59, 36, 45, 43, 51, 22, 53, 39, 33, 30, 24, 18, 12, 5, 63, 55, 48, 27, 60, 41, 37, 16, 46, 35, 44, 21, 52, 32, 23, 11, 54, 26, 40, 15, 34, 20, 31, 10, 25, 14, 19, 9, 13, 8, 7, 6] = byc [0, 1, 56, 2, 57, 49, 28, 3, 61, 58, 42, 50, 38, 29, 17, 4, 62, 47, 59, 36, 45, 43, 51, 22, 53, 39, 33, 30, 24, 18, 12, 5, 63, 55, 48, 27, 60, 41, 37, 16, 46, 35, 44, 21, 52, 32, 23, 11, 54, 26, 40, 15, 34, 20, 31, 10, 25, 14, 19, 9, 13, 8, 7, 6] by kernel_rfl) ▸ at_of_tab hT (by kernel_rfl)
  have hval : ∀ (j : Nat) t v, Tryz.f3.params[j]? = some t → args[j]? = some v → Value.okWide Tryz.prog W .any base t v := hval0
  have hW' := hW
  obtain ⟨p, q, hA0, hV, rfl, hfz, hnd⟩ := hW
  have hA : DataW.TrodAll enc Tryz.prog W 0 (fun _ => true) true Tryz.f3.params.toList args.toList ds p := hA0
  rw [Tryz.params3] at hA hval
  obtain ⟨v0, vs0, d0, ds0, p0, q0, hargs, rfl, rfl, h0, r0⟩ := trodAll_cons hA
  obtain ⟨v1, vs1, d1, ds1, p1, q1, rfl, rfl, rfl, h1, r1⟩ := trodAll_cons r0
  obtain ⟨v2, vs2, d2, ds2, p2, q2, rfl, rfl, rfl, h2, r2⟩ := trodAll_cons r1
  obtain ⟨rfl, rfl, rfl⟩ := trodAll_nil r2
  obtain rfl : args = #[v0, v1, v2] := by cases args; simp_all
  obtain ⟨rfl, rfl⟩ := trodVars_none hV
  have k0 := h0
  have lt0 : ∀ x ∈ p0, x.block < W.heap.size := by obtain ⟨m, hm⟩ := k0; exact DataW.trod_lt m _ _ _ hm
  obtain ⟨cs0, rfl, hz0⟩ : ∃ cs, v0 = .agg cs ∧ cs.size = Tryz.prog.cellsOf 26 := by have hq := (hval 0 26 v0 rfl rfl); simp only [Value.okWide, Tryz.underlying26] at hq; obtain ⟨cs, e1, e2, _⟩ := hq; exact ⟨cs, e1, e2⟩
  obtain ⟨l0, rfl⟩ : ∃ l : List Value, cs0 = l.toArray := ⟨cs0.toList, by simp⟩
  obtain ⟨m0, hm0⟩ := h0
  obtain ⟨n0, n1, n2, n3, n4, hl0, wf0_0, wf0_1, wf0_2, wf0_3, wf0_4⟩ := opened0 (flat_ok (P := Tryz.prog) 8 26 [.int .u8, .int .u16, .int .u16, .int .u32, .int .u32] (by kernel_rfl) _ _ _ hm0)
  obtain rfl : l0 = _ := hl0
  have bd0_0 := bounds_u8 wf0_0
  have bd0_1 := bounds_u16 wf0_1
  have bd0_2 := bounds_u16 wf0_2
  have bd0_3 := bounds_u32 wf0_3
  have bd0_4 := bounds_u32 wf0_4
  have k1 := h1
  have lt1 : ∀ x ∈ p1, x.block < W.heap.size := by obtain ⟨m, hm⟩ := k1; exact DataW.trod_lt m _ _ _ hm
  obtain ⟨si, rfl, rfl, rfl, wf1⟩ := open_int Tryz.underlying24 (hval 1 24 v1 rfl rfl) h1
  have bd1 := bounds_u32 wf1
  have k2 := h2
  have lt2 : ∀ x ∈ p2, x.block < W.heap.size := by obtain ⟨m, hm⟩ := k2; exact DataW.trod_lt m _ _ _ hm
  obtain ⟨qi, rfl, rfl, rfl, wf2⟩ := open_int Tryz.underlying22 (hval 2 22 v2 rfl rfl) h2
  have bd2 := bounds_u16 wf2
  clear hA0 hval0
  obtain ⟨u1_, rfl⟩ : ∃ k : Nat, n1 = ((k : Nat) : Int) := ⟨n1.toNat, by omega⟩
  obtain ⟨u2_, rfl⟩ : ∃ k : Nat, n2 = ((k : Nat) : Int) := ⟨n2.toNat, by omega⟩
  obtain ⟨u3_, rfl⟩ : ∃ k : Nat, n3 = ((k : Nat) : Int) := ⟨n3.toNat, by omega⟩
  obtain ⟨u4_, rfl⟩ : ∃ k : Nat, n4 = ((k : Nat) : Int) := ⟨n4.toNat, by omega⟩
  obtain ⟨s_, rfl⟩ : ∃ k : Nat, si = ((k : Nat) : Int) := ⟨si.toNat, by omega⟩
  obtain ⟨q_, rfl⟩ : ∃ k : Nat, qi = ((k : Nat) : Int) := ⟨qi.toNat, by omega⟩
  refine Calls.mono (mapped_c n0 u1_ u2_ u3_ u4_ s_ q_ W hlaid (by omega) (by omega) (by omega) (by omega) (by omega) (by omega)) fun e W' ⟨he, bel⟩ => ?_
  subst he
  exact ⟨_, rfl, _, _, _, [], _, [], hW', trodAll_mk1 (shut_bool Tryz.underlying4 _), (trodAll_cons_mk (Below.trod laidOut (by kernel_rfl) (of_decide_eq_true (by kernel_rfl)) k0 bel lt0) (trodAll_cons_mk (Below.trod laidOut (by kernel_rfl) (of_decide_eq_true (by kernel_rfl)) k1 bel lt1) (trodAll_cons_mk (Below.trod laidOut (by kernel_rfl) (of_decide_eq_true (by kernel_rfl)) k2 bel lt2) trodAll_mk0))), rfl, bel.frame _, fun h => by cases h⟩
theorem over : Rows.naptMappedRow.holds Tryz.pinned (OpenSpec.ofChange Rows.naptMappedSpec) :=
  OpenClaim.holds_of_wide 3 Tryz.f3 rfl rfl rfl rfl rfl rfl rfl ⟨rfl, rfl, rfl, rfl, rfl⟩ rfl rfl rfl rfl rfl (by kernel_rfl) Tryz.func3 (by kernel_rfl)
    (of_decide_eq_true (by kernel_rfl)) (by unfold Func.isWrapper; first | (rw [if_pos (by decide +kernel)]; kernel_rfl) | (rw [if_neg (by decide +kernel)]; exact ⟨rfl, rfl⟩))
    (fun os started H enc _ => lifted os started H enc)
theorem proved : Rows.NaptMappedCardSaid :=
  Claim7.holds_tied_plain_at .later [] [.data] true (true, "5251a7cd702886f0e2cab37041370db5d56ad167fc319ea07e84a73303cf3d12") false over (fun _ h => by cases h) (by kernel_rfl) (fun _ h => by cases h) naptMapped_row_tie rfl ⟨rfl, rfl⟩ (by kernel_rfl) rfl
    (fun f fn hf hfn => by
      obtain rfl : f = 3 := Option.some.inj ((show Tryz.prog.funcNamed "hearth/hearthlaw12.NaptMapped" = some 3 by kernel_rfl).symm.trans hf) |>.symm
      obtain rfl : fn = Tryz.f3 := (Option.some.inj (Tryz.func3.symm.trans hfn)).symm
      refine ⟨by kernel_rfl, fun j t ht => ?_⟩
      rw [Tryz.params3] at ht
      have hm := Array.mem_of_getElem? ht
      have ha : ([26, 24, 22] : List TypeId).all (fun t => !Tryz.prog.wantsStandIn t) = true := by kernel_rfl
      have hx := List.all_eq_true.1 ha t (by simpa using hm)
      exact (show Tryz.prog.wantsStandIn t = false by simpa using hx))
    (by kernel_rfl)
end Go.Proofs.YtmonlaoaengfdaaGreatDoor.NaptMapped
