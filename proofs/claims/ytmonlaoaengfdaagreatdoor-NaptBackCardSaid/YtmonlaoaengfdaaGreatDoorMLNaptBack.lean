import Derived.Test.YtmonlaoaengfdaaGreatDoorRows
import Derived.Test.YtmonlaoaengfdaaGreatDoorM1
import Derived.Test.YtmonlaoaengfdaaGreatDoorM18
import Derived.Test.YtmonlaoaengfdaaGreatDoorCards
import Derived.Test.YtmonlaoaengfdaaGreatDoorTie
import Derived.ProofKit
import Derived.OpenShut
import Derived.ChangeArms
import Derived.SevenTiedAt
import Derived.Lib.LaidTab
import Derived.LaidSub
set_option linter.unusedVariables false
set_option linter.unusedSimpArgs false
set_option maxRecDepth 20000
namespace Go.Proofs.YtmonlaoaengfdaaGreatDoor.NaptBack
open Go.ChangeShapes Go.WideShapes Go.ChangeAt Go.RowKit Base
open Go.Proofs.YtmonlaoaengfdaaGreatDoor.Oct
theorem opened3 {H : Type} {enc : TypeId × Value → H} {P : Program} {w : World} {base : Nat} {spare : Nat → Bool} {held : Bool} {l : List Value} (F : F2 (In enc P w base spare held) [.int .u16, .int .u16, .int .u16] l) : ∃ (q0i : Int) (q1i : Int) (q2i : Int), l = [.int .u16 q0i, .int .u16 q1i, .int .u16 q2i] ∧ ((Lit.int .u16 q0i).wf = true) ∧ ((Lit.int .u16 q1i).wf = true) ∧ ((Lit.int .u16 q2i).wf = true) := by
  obtain ⟨_, _, rfl, ⟨q0i, rfl, wf3_0⟩, F1_⟩ := Zv F
  clear F
  obtain ⟨_, _, rfl, ⟨q1i, rfl, wf3_1⟩, F2_⟩ := Zv F1_
  clear F1_
  obtain ⟨_, _, rfl, ⟨q2i, rfl, wf3_2⟩, F3_⟩ := Zv F2_
  clear F2_
  obtain rfl := Ahh F3_
  exact ⟨q0i, q1i, q2i, rfl, wf3_0, wf3_1, wf3_2⟩
theorem own : ownKnob Tryz.prog.godebug = none := by kernel_rfl
theorem laidOut : laidOutB Tryz.prog = true := by kernel_rfl
def cells_0 : Array Value := #[.int .u8 0, .int .u8 1, .int .u8 56, .int .u8 2, .int .u8 57, .int .u8 49, .int .u8 28, .int .u8 3, .int .u8 61, .int .u8 58, .int .u8 42, .int .u8 50, .int .u8 38, .int .u8 29, .int .u8 17, .int .u8 4, .int .u8 62, .int .u8 47, .int .u8 59, .int .u8 36, .int .u8 45, .int .u8 43, .int .u8 51, .int .u8 22, .int .u8 53, .int .u8 39, .int .u8 33, .int .u8 30, .int .u8 24, .int .u8 18, .int .u8 12, .int .u8 5, .int .u8 63, .int .u8 55, .int .u8 48, .int .u8 27, .int .u8 60, .int .u8 41, .int .u8 37, .int .u8 16, .int .u8 46, .int .u8 35, .int .u8 44, .int .u8 21, .int .u8 52, .int .u8 32, .int .u8 23, .int .u8 11, .int .u8 54, .int .u8 26, .int .u8 40, .int .u8 15, .int .u8 34, .int .u8 20, .int .u8 31, .int .u8 10, .int .u8 25, .int .u8 14, .int .u8 19, .int .u8 9, .int .u8 13, .int .u8 8, .int .u8 7, .int .u8 6]
theorem at_of_tab {P : Program} {W : World} {name : String} {k : IntKind} {zs : List Int} {g : Nat} (h : Lib.TabIs P W name k zs) (hg : P.globalNamed name = some g) : At W (some ⟨g, 0, none⟩) (zs.map fun z => Value.int k z) :=
  ⟨fun _ => rfl, fun q v hv => by
    rw [List.getElem?_map, Option.map_eq_some_iff] at hv
    obtain ⟨z, hz, rfl⟩ := hv
    have hq := (List.getElem?_eq_some_iff.1 hz).1
    have := h.cell hg q hq
    simp only [Option.getD_some]
    rw [add_lit, Nat.zero_add, this]
    simp [List.getD, hz]⟩
noncomputable def laidWorld (os : Os) : World :=
  { World.holding Tryz.prog os ⟨#[], #[], []⟩ with heap := ((World.holding Tryz.prog os ⟨#[], #[], []⟩).heap.modify 0 fun
      | .cells _ t frozen => .cells cells_0 t frozen
      | o => o) }
theorem laidWorld_met (os : Os) (args : Array Value) : laidMetH Tryz.prog Rows.naptBackRow.laid ((laidWorld os).forCall (fun _ _ => 0) ⟨#[], args, []⟩).memory := by
  refine (Go.laidMetH_iff).2 ⟨?_, fun _ h => by cases h⟩
  exact laidMet_of_run' 8 (by kernel_rfl) (by kernel_rfl)
set_option maxRecDepth 100000 in
set_option maxHeartbeats 1000000 in
theorem lifted (os : Os) (started : os.Started) (H : Type) (enc : TypeId × Value → H) :
    ReturnsInHanded {} Tryz.checked os 4 .any (fun w args => (Rows.naptBackSpec.pre enc Tryz.prog Tryz.f4 Rows.naptBackRow.domain false w args ∧ laidMetH Tryz.prog Rows.naptBackRow.laid w) ∧ sizedMet enc Tryz.prog Tryz.f4 (OpenSpec.ofChange Rows.naptBackSpec) false w args) (Rows.naptBackSpec.post enc Tryz.prog Tryz.f4 false true false false) := by
  refine returnsInHanded_of_change_and (C := Tryz.checked) (X := fun w _ => laidMetH Tryz.prog Rows.naptBackRow.laid w) (fun _ _ _ hh h => h.of_heap hh) own started (by kernel_rfl) Tryz.func4
    (ChangeSpec.witness_at (enc := enc) (C := Tryz.checked) (os := os) (X := fun w _ => laidMetH Tryz.prog Rows.naptBackRow.laid w) false (laidWorld os) #[Value.slice none 0 0, Value.int .u32 0, Value.int .u32 0, Value.agg ([Value.int .u16 0, Value.int .u16 0, Value.int .u16 0]).toArray, Value.int .u64 0] 12 rfl (by kernel_rfl) (by kernel_rfl) (by kernel_rfl) (by kernel_rfl) (by kernel_rfl) (laidWorld_met os _)) ?_
  intro W base args ds gs before hval0 hW hcnd _ hL0 _
  have hL := (Go.laidMetH_iff.1 hL0).1
  have hT : Lib.TabIs Tryz.prog W "math/bits.deBruijn64tab" .u8 [0, 1, 56, 2, 57, 49, 28, 3, 61, 58, 42, 50, 38, 29, 17, 4, 62, 47, 59, 36, 45, 43, 51, 22, 53, 39, 33, 30, 24, 18, 12, 5, 63, 55, 48, 27, 60, 41, 37, 16, 46, 35, 44, 21, 52, 32, 23, 11, 54, 26, 40, 15, 34, 20, 31, 10, 25, 14, 19, 9, 13, 8, 7, 6] := Lib.tabIs_of_head (g := 0) (t := 298) (e := 5) (n := 64) (by kernel_rfl) (by kernel_rfl) (by kernel_rfl) (by kernel_rfl) (by kernel_rfl) (by kernel_rfl) hL
  have hlaid : At W (some ⟨0, 0, none⟩) (Ci [0, 1, 56, 2, 57, 49, 28, 3, 61, 58, 42, 50, 38, 29, 17, 4, 62, 47, 59, 36, 45, 43, 51, 22, 53, 39, 33, 30, 24, 18, 12, 5, 63, 55, 48, 27, 60, 41, 37, 16, 46, 35, 44, 21, 52, 32, 23, 11, 54, 26, 40, 15, 34, 20, 31, 10, 25, 14, 19, 9, 13, 8, 7, 6]) := (show List.map (fun z => Value.int .u8 z) [0, 1, 56, 2, 57, 49, 28, 3, 61, 58, 42, 50, 38, 29, 17, 4, 62, 47, 59, 36, 45, 43, 51, 22, 53, 39, 33, 30, 24, 18, 12, 5, 63, 55, 48, 27, 60, 41, 37, 16, 46, 35, 44, 21, 52, 32, 23, 11, 54, 26, 40, 15, 34, 20, 31, 10, 25, 14, 19, 9, 13, 8, 7, 6] = Ci [0, 1, 56, 2, 57, 49, 28, 3, 61, 58, 42, 50, 38, 29, 17, 4, 62, 47, 59, 36, 45, 43, 51, 22, 53, 39, 33, 30, 24, 18, 12, 5, 63, 55, 48, 27, 60, 41, 37, 16, 46, 35, 44, 21, 52, 32, 23, 11, 54, 26, 40, 15, 34, 20, 31, 10, 25, 14, 19, 9, 13, 8, 7, 6] by kernel_rfl) ▸ at_of_tab hT (by kernel_rfl)
  have hval : ∀ (j : Nat) t v, Tryz.f4.params[j]? = some t → args[j]? = some v → Value.okWide Tryz.prog W .any base t v := hval0
  have hW' := hW
  obtain ⟨p, q, hA0, hV, rfl, hfz, hnd⟩ := hW
  have hA : DataW.TrodAll enc Tryz.prog W 0 (fun _ => true) true Tryz.f4.params.toList args.toList ds p := hA0
  rw [Tryz.params4] at hA hval
  obtain ⟨v0, vs0, d0, ds0, p0, q0, hargs, rfl, rfl, h0, r0⟩ := trodAll_cons hA
  obtain ⟨v1, vs1, d1, ds1, p1, q1, rfl, rfl, rfl, h1, r1⟩ := trodAll_cons r0
  obtain ⟨v2, vs2, d2, ds2, p2, q2, rfl, rfl, rfl, h2, r2⟩ := trodAll_cons r1
  obtain ⟨v3, vs3, d3, ds3, p3, q3, rfl, rfl, rfl, h3, r3⟩ := trodAll_cons r2
  obtain ⟨v4, vs4, d4, ds4, p4, q4, rfl, rfl, rfl, h4, r4⟩ := trodAll_cons r3
  obtain ⟨rfl, rfl, rfl⟩ := trodAll_nil r4
  obtain rfl : args = #[v0, v1, v2, v3, v4] := by cases args; simp_all
  obtain ⟨rfl, rfl⟩ := trodVars_none hV
  have k0 := h0
  have lt0 : ∀ x ∈ p0, x.block < W.heap.size := by obtain ⟨m, hm⟩ := k0; exact DataW.trod_lt m _ _ _ hm
  obtain ⟨na, nl, nc, rfl⟩ := okWide_slice Tryz.underlying53 (hval 0 53 v0 rfl rfl)
  obtain ⟨m0, hm0⟩ := h0
  have F0 := Ju (P := Tryz.prog) 3 53 [.slice 58] (by kernel_rfl) _ _ _ hm0
  simp only [Nq, R0, In] at F0
  obtain ⟨_, _, E0, ⟨a_, l_, c_, rfl, lc0, cm0, hs0, hr0⟩, rfl⟩ := F0
  have E0' : na = a_ ∧ nl = l_ ∧ nc = c_ := by simpa [Value.cells] using E0
  obtain ⟨rfl, rfl, rfl⟩ := E0'
  obtain ⟨ops, hx0, hat0, hp0⟩ := Ahi (e := 58) (sz := 10) (α := Cll) (g := Oe) (p := fun x => ClOK W x) (by kernel_rfl) (fun _ => rfl) lc0 hs0 hr0 (fun m cs x hx => by
    have F := Ju (P := Tryz.prog) 8 58 [.int .i64, .int .u8, .int .u8, .int .u16, .int .u32, .int .u32, .slice 5, .int .u64, .int .u64, .slice 26] (by kernel_rfl) _ _ _ hx
    simp only [Nq, R0, In] at F
    obtain ⟨_, _, rfl, ⟨y0, rfl, wy0⟩, F⟩ := F
    obtain ⟨_, _, rfl, ⟨y1, rfl, wy1⟩, F⟩ := F
    obtain ⟨_, _, rfl, ⟨y2, rfl, wy2⟩, F⟩ := F
    obtain ⟨_, _, rfl, ⟨y3, rfl, wy3⟩, F⟩ := F
    obtain ⟨_, _, rfl, ⟨y4, rfl, wy4⟩, F⟩ := F
    obtain ⟨_, _, rfl, ⟨y5, rfl, wy5⟩, F⟩ := F
    obtain ⟨_, _, rfl, ⟨ya6, yl6, yc6, rfl, ylc6, ycm6, yhs6, yhr6⟩, F⟩ := F
    obtain ⟨_, _, rfl, ⟨y7, rfl, wy7⟩, F⟩ := F
    obtain ⟨_, _, rfl, ⟨y8, rfl, wy8⟩, F⟩ := F
    obtain ⟨_, _, rfl, ⟨ya9, yl9, yc9, rfl, ylc9, ycm9, yhs9, yhr9⟩, rfl⟩ := F
    have bb1 := bounds_u8 wy1
    obtain ⟨z1, rfl⟩ : ∃ d : UInt8, y1 = ((d.toNat : Nat) : Int) := ⟨UInt8.ofNat y1.toNat, by rw [UInt8.toNat_ofNat', Nat.mod_eq_of_lt (by omega)]; omega⟩
    have bb2 := bounds_u8 wy2
    obtain ⟨z2, rfl⟩ : ∃ d : UInt8, y2 = ((d.toNat : Nat) : Int) := ⟨UInt8.ofNat y2.toNat, by rw [UInt8.toNat_ofNat', Nat.mod_eq_of_lt (by omega)]; omega⟩
    have bb3 := bounds_u16 wy3
    obtain ⟨z3, rfl⟩ : ∃ k : Nat, y3 = ((k : Nat) : Int) := ⟨y3.toNat, by omega⟩
    have bb4 := bounds_u32 wy4
    obtain ⟨z4, rfl⟩ : ∃ k : Nat, y4 = ((k : Nat) : Int) := ⟨y4.toNat, by omega⟩
    have bb5 := bounds_u32 wy5
    obtain ⟨z5, rfl⟩ : ∃ k : Nat, y5 = ((k : Nat) : Int) := ⟨y5.toNat, by omega⟩
    have bb7 := bounds_u64 wy7
    obtain ⟨z7, rfl⟩ : ∃ k : Nat, y7 = ((k : Nat) : Int) := ⟨y7.toNat, by omega⟩
    have bb8 := bounds_u64 wy8
    obtain ⟨z8, rfl⟩ : ∃ k : Nat, y8 = ((k : Nat) : Int) := ⟨y8.toNat, by omega⟩
    obtain ⟨ys, yhl, yhat, _⟩ := Akz (e := 5) (α := UInt8) (g := b8) (p := fun _ => True) (by kernel_rfl) ylc6 yhs6 yhr6 (fun m cs x hx => by
      have F := Ju (P := Tryz.prog) 8 5 [.int .u8] (by kernel_rfl) _ _ _ hx
      simp only [Nq, R0, In] at F
      obtain ⟨_, _, rfl, ⟨y, rfl, wy⟩, rfl⟩ := F
      exact ⟨UInt8.ofNat y.toNat, congrArg (fun v => [v]) (Ak0 wy), trivial⟩)
    subst yhl
    exact ⟨⟨y0, z1, z2, z3, z4, z5, ya6, yc6, ys, z7, z8, ya9, yl9, yc9⟩, rfl, ⟨yhat, (by show z3 < _; omega), (by show z4 < _; omega), (by show z5 < _; omega), ylc6, (by show z7 < _; omega), (by show z8 < _; omega)⟩⟩)
  have k1 := h1
  have lt1 : ∀ x ∈ p1, x.block < W.heap.size := by obtain ⟨m, hm⟩ := k1; exact DataW.trod_lt m _ _ _ hm
  obtain ⟨si, rfl, rfl, rfl, wf1⟩ := open_int Tryz.underlying24 (hval 1 24 v1 rfl rfl) h1
  have bd1 := bounds_u32 wf1
  have k2 := h2
  have lt2 : ∀ x ∈ p2, x.block < W.heap.size := by obtain ⟨m, hm⟩ := k2; exact DataW.trod_lt m _ _ _ hm
  obtain ⟨di, rfl, rfl, rfl, wf2⟩ := open_int Tryz.underlying24 (hval 2 24 v2 rfl rfl) h2
  have bd2 := bounds_u32 wf2
  have k3 := h3
  have lt3 : ∀ x ∈ p3, x.block < W.heap.size := by obtain ⟨m, hm⟩ := k3; exact DataW.trod_lt m _ _ _ hm
  obtain ⟨cs3, rfl, hz3⟩ : ∃ cs, v3 = .agg cs ∧ cs.size = Tryz.prog.cellsOf 54 := by have hq := (hval 3 54 v3 rfl rfl); simp only [Value.okWide, Tryz.underlying54] at hq; obtain ⟨cs, e1, e2, _⟩ := hq; exact ⟨cs, e1, e2⟩
  obtain ⟨l3, rfl⟩ : ∃ l : List Value, cs3 = l.toArray := ⟨cs3.toList, by simp⟩
  obtain ⟨m3, hm3⟩ := h3
  obtain ⟨q0i, q1i, q2i, hl3, wf3_0, wf3_1, wf3_2⟩ := opened3 (Ju (P := Tryz.prog) 8 54 [.int .u16, .int .u16, .int .u16] (by kernel_rfl) _ _ _ hm3)
  obtain rfl : l3 = _ := hl3
  have bd3_0 := bounds_u16 wf3_0
  have bd3_1 := bounds_u16 wf3_1
  have bd3_2 := bounds_u16 wf3_2
  have k4 := h4
  have lt4 : ∀ x ∈ p4, x.block < W.heap.size := by obtain ⟨m, hm⟩ := k4; exact DataW.trod_lt m _ _ _ hm
  obtain ⟨wi, rfl, rfl, rfl, wf4⟩ := open_int Tryz.underlying45 (hval 4 45 v4 rfl rfl) h4
  have bd4 := bounds_u64 wf4
  clear hA0 hval0
  obtain ⟨s_, rfl⟩ : ∃ k : Nat, si = ((k : Nat) : Int) := ⟨si.toNat, by omega⟩
  obtain ⟨d_, rfl⟩ : ∃ k : Nat, di = ((k : Nat) : Int) := ⟨di.toNat, by omega⟩
  obtain ⟨q0_, rfl⟩ : ∃ k : Nat, q0i = ((k : Nat) : Int) := ⟨q0i.toNat, by omega⟩
  obtain ⟨q1_, rfl⟩ : ∃ k : Nat, q1i = ((k : Nat) : Int) := ⟨q1i.toNat, by omega⟩
  obtain ⟨q2_, rfl⟩ : ∃ k : Nat, q2i = ((k : Nat) : Int) := ⟨q2i.toNat, by omega⟩
  obtain ⟨w_, rfl⟩ : ∃ k : Nat, wi = ((k : Nat) : Int) := ⟨wi.toNat, by omega⟩
  subst hx0
  refine Calls.mono (Acs ops na nc s_ d_ q0_ q1_ q2_ w_ W hat0 (by simp only [maxLen] at cm0; omega) hp0 (by omega) (by omega) (by omega) (by omega) (by omega) hlaid) fun e W' ⟨he, bel⟩ => ?_
  subst he
  exact ⟨_, rfl, _, _, _, [], _, [], hW', trodAll_mk1 (shut_bool Tryz.underlying4 _), (trodAll_cons_mk (Below.trod laidOut (by kernel_rfl) (of_decide_eq_true (by kernel_rfl)) k0 bel lt0) (trodAll_cons_mk (Below.trod laidOut (by kernel_rfl) (of_decide_eq_true (by kernel_rfl)) k1 bel lt1) (trodAll_cons_mk (Below.trod laidOut (by kernel_rfl) (of_decide_eq_true (by kernel_rfl)) k2 bel lt2) (trodAll_cons_mk (Below.trod laidOut (by kernel_rfl) (of_decide_eq_true (by kernel_rfl)) k3 bel lt3) (trodAll_cons_mk (Below.trod laidOut (by kernel_rfl) (of_decide_eq_true (by kernel_rfl)) k4 bel lt4) trodAll_mk0))))), rfl, bel.frame _, fun h => by cases h⟩
theorem over : Rows.naptBackRow.holds Tryz.pinned (OpenSpec.ofChange Rows.naptBackSpec) :=
  OpenClaim.holds_of_wide 4 Tryz.f4 rfl rfl rfl rfl rfl rfl rfl ⟨rfl, rfl, rfl, rfl, rfl⟩ rfl rfl rfl rfl rfl (by kernel_rfl) Tryz.func4 (by kernel_rfl)
    (of_decide_eq_true (by kernel_rfl)) (by unfold Func.isWrapper; first | (rw [if_pos (by decide +kernel)]; kernel_rfl) | (rw [if_neg (by decide +kernel)]; exact ⟨rfl, rfl⟩))
    (fun os started H enc _ => lifted os started H enc)
theorem proved : Rows.NaptBackCardSaid :=
  Claim7.holds_tied_plain_at .later [] [.data] true (true, "5251a7cd702886f0e2cab37041370db5d56ad167fc319ea07e84a73303cf3d12") false over (fun _ h => by cases h) (by kernel_rfl) (fun _ h => by cases h) naptBack_row_tie rfl ⟨rfl, rfl⟩ (by kernel_rfl) rfl
    (fun f fn hf hfn => by
      obtain rfl : f = 4 := Option.some.inj ((show Tryz.prog.funcNamed "hearth/hearthlaw12.NaptBack" = some 4 by kernel_rfl).symm.trans hf) |>.symm
      obtain rfl : fn = Tryz.f4 := (Option.some.inj (Tryz.func4.symm.trans hfn)).symm
      refine ⟨by kernel_rfl, fun j t ht => ?_⟩
      rw [Tryz.params4] at ht
      have hm := Array.mem_of_getElem? ht
      have ha : ([53, 24, 24, 54, 45] : List TypeId).all (fun t => !Tryz.prog.wantsStandIn t) = true := by kernel_rfl
      have hx := List.all_eq_true.1 ha t (by simpa using hm)
      exact (show Tryz.prog.wantsStandIn t = false by simpa using hx))
    (by kernel_rfl)
end Go.Proofs.YtmonlaoaengfdaaGreatDoor.NaptBack
