/-
  EtherApart: for every input the law answers true and leaves its arguments as they were. The package-level variable that is listed reads as the program lays it.
-/
import Derived.Test.YtnhmajdpjapgjaaDoorRows
import Derived.Test.YtnhmajdpjapgjaaDoorVF
import Derived.Test.YtnhmajdpjapgjaaDoorArp2
import Derived.ProofKit
import Derived.OpenShut
import Derived.ChangeArms
import Derived.Test.YtnhmajdpjapgjaaDoorCards
import Derived.Test.YtnhmajdpjapgjaaDoorTie
import Derived.SevenTiedAt
import Derived.Lib.LaidTab
import Derived.LaidSub
set_option linter.unusedVariables false
set_option linter.unusedSimpArgs false
set_option maxRecDepth 20000
namespace Go.Proofs.YtnhmajdpjapgjaaDoor.EtherApart
open Go.ChangeShapes Go.WideShapes Go.ChangeAt Go.RowKit Base
open Go.Proofs.YtnhmajdpjapgjaaDoor.Oct
theorem opened3 {H : Type} {enc : TypeId × Value → H} {P : Program} {w : World} {base : Nat} {spare : Nat → Bool} {held : Bool} {l : List Value} (F : F2 (leafOK enc P w base spare held) [.int .u16, .int .u8, .int .u8, .int .u8, .int .u8, .int .u8, .int .u8, .int .u8, .int .u8, .int .u8, .int .u8, .int .u8, .int .u8, .int .u32, .int .u32] l) : ∃ (n3_0 : Int) (n3_1 : Int) (n3_2 : Int) (n3_3 : Int) (n3_4 : Int) (n3_5 : Int) (n3_6 : Int) (n3_7 : Int) (n3_8 : Int) (n3_9 : Int) (n3_10 : Int) (n3_11 : Int) (n3_12 : Int) (n3_13 : Int) (n3_14 : Int), l = [.int .u16 n3_0, .int .u8 n3_1, .int .u8 n3_2, .int .u8 n3_3, .int .u8 n3_4, .int .u8 n3_5, .int .u8 n3_6, .int .u8 n3_7, .int .u8 n3_8, .int .u8 n3_9, .int .u8 n3_10, .int .u8 n3_11, .int .u8 n3_12, .int .u32 n3_13, .int .u32 n3_14] ∧ ((Lit.int .u16 n3_0).wf = true) ∧ ((Lit.int .u8 n3_1).wf = true) ∧ ((Lit.int .u8 n3_2).wf = true) ∧ ((Lit.int .u8 n3_3).wf = true) ∧ ((Lit.int .u8 n3_4).wf = true) ∧ ((Lit.int .u8 n3_5).wf = true) ∧ ((Lit.int .u8 n3_6).wf = true) ∧ ((Lit.int .u8 n3_7).wf = true) ∧ ((Lit.int .u8 n3_8).wf = true) ∧ ((Lit.int .u8 n3_9).wf = true) ∧ ((Lit.int .u8 n3_10).wf = true) ∧ ((Lit.int .u8 n3_11).wf = true) ∧ ((Lit.int .u8 n3_12).wf = true) ∧ ((Lit.int .u32 n3_13).wf = true) ∧ ((Lit.int .u32 n3_14).wf = true) := by
  obtain ⟨_, _, rfl, ⟨n3_0, rfl, wf3_0⟩, F1_⟩ := F2_un F
  clear F
  obtain ⟨_, _, rfl, ⟨n3_1, rfl, wf3_1⟩, F2_⟩ := F2_un F1_
  clear F1_
  obtain ⟨_, _, rfl, ⟨n3_2, rfl, wf3_2⟩, F3_⟩ := F2_un F2_
  clear F2_
  obtain ⟨_, _, rfl, ⟨n3_3, rfl, wf3_3⟩, F4_⟩ := F2_un F3_
  clear F3_
  obtain ⟨_, _, rfl, ⟨n3_4, rfl, wf3_4⟩, F5_⟩ := F2_un F4_
  clear F4_
  obtain ⟨_, _, rfl, ⟨n3_5, rfl, wf3_5⟩, F6_⟩ := F2_un F5_
  clear F5_
  obtain ⟨_, _, rfl, ⟨n3_6, rfl, wf3_6⟩, F7_⟩ := F2_un F6_
  clear F6_
  obtain ⟨_, _, rfl, ⟨n3_7, rfl, wf3_7⟩, F8_⟩ := F2_un F7_
  clear F7_
  obtain ⟨_, _, rfl, ⟨n3_8, rfl, wf3_8⟩, F9_⟩ := F2_un F8_
  clear F8_
  obtain ⟨_, _, rfl, ⟨n3_9, rfl, wf3_9⟩, F10_⟩ := F2_un F9_
  clear F9_
  obtain ⟨_, _, rfl, ⟨n3_10, rfl, wf3_10⟩, F11_⟩ := F2_un F10_
  clear F10_
  obtain ⟨_, _, rfl, ⟨n3_11, rfl, wf3_11⟩, F12_⟩ := F2_un F11_
  clear F11_
  obtain ⟨_, _, rfl, ⟨n3_12, rfl, wf3_12⟩, F13_⟩ := F2_un F12_
  clear F12_
  obtain ⟨_, _, rfl, ⟨n3_13, rfl, wf3_13⟩, F14_⟩ := F2_un F13_
  clear F13_
  obtain ⟨_, _, rfl, ⟨n3_14, rfl, wf3_14⟩, F15_⟩ := F2_un F14_
  clear F14_
  obtain rfl := F2_un0 F15_
  exact ⟨n3_0, n3_1, n3_2, n3_3, n3_4, n3_5, n3_6, n3_7, n3_8, n3_9, n3_10, n3_11, n3_12, n3_13, n3_14, rfl, wf3_0, wf3_1, wf3_2, wf3_3, wf3_4, wf3_5, wf3_6, wf3_7, wf3_8, wf3_9, wf3_10, wf3_11, wf3_12, wf3_13, wf3_14⟩

theorem opened2 {H : Type} {enc : TypeId × Value → H} {P : Program} {w : World} {base : Nat} {spare : Nat → Bool} {held : Bool} {l : List Value} (F : F2 (leafOK enc P w base spare held) [.int .u16, .int .u8, .int .u8, .int .u8, .int .u8, .int .u8, .int .u8, .int .u8, .int .u8, .int .u8, .int .u8, .int .u8, .int .u8, .int .u32, .int .u32] l) : ∃ (n2_0 : Int) (n2_1 : Int) (n2_2 : Int) (n2_3 : Int) (n2_4 : Int) (n2_5 : Int) (n2_6 : Int) (n2_7 : Int) (n2_8 : Int) (n2_9 : Int) (n2_10 : Int) (n2_11 : Int) (n2_12 : Int) (n2_13 : Int) (n2_14 : Int), l = [.int .u16 n2_0, .int .u8 n2_1, .int .u8 n2_2, .int .u8 n2_3, .int .u8 n2_4, .int .u8 n2_5, .int .u8 n2_6, .int .u8 n2_7, .int .u8 n2_8, .int .u8 n2_9, .int .u8 n2_10, .int .u8 n2_11, .int .u8 n2_12, .int .u32 n2_13, .int .u32 n2_14] ∧ ((Lit.int .u16 n2_0).wf = true) ∧ ((Lit.int .u8 n2_1).wf = true) ∧ ((Lit.int .u8 n2_2).wf = true) ∧ ((Lit.int .u8 n2_3).wf = true) ∧ ((Lit.int .u8 n2_4).wf = true) ∧ ((Lit.int .u8 n2_5).wf = true) ∧ ((Lit.int .u8 n2_6).wf = true) ∧ ((Lit.int .u8 n2_7).wf = true) ∧ ((Lit.int .u8 n2_8).wf = true) ∧ ((Lit.int .u8 n2_9).wf = true) ∧ ((Lit.int .u8 n2_10).wf = true) ∧ ((Lit.int .u8 n2_11).wf = true) ∧ ((Lit.int .u8 n2_12).wf = true) ∧ ((Lit.int .u32 n2_13).wf = true) ∧ ((Lit.int .u32 n2_14).wf = true) := by
  obtain ⟨_, _, rfl, ⟨n2_0, rfl, wf2_0⟩, F1_⟩ := F2_un F
  clear F
  obtain ⟨_, _, rfl, ⟨n2_1, rfl, wf2_1⟩, F2_⟩ := F2_un F1_
  clear F1_
  obtain ⟨_, _, rfl, ⟨n2_2, rfl, wf2_2⟩, F3_⟩ := F2_un F2_
  clear F2_
  obtain ⟨_, _, rfl, ⟨n2_3, rfl, wf2_3⟩, F4_⟩ := F2_un F3_
  clear F3_
  obtain ⟨_, _, rfl, ⟨n2_4, rfl, wf2_4⟩, F5_⟩ := F2_un F4_
  clear F4_
  obtain ⟨_, _, rfl, ⟨n2_5, rfl, wf2_5⟩, F6_⟩ := F2_un F5_
  clear F5_
  obtain ⟨_, _, rfl, ⟨n2_6, rfl, wf2_6⟩, F7_⟩ := F2_un F6_
  clear F6_
  obtain ⟨_, _, rfl, ⟨n2_7, rfl, wf2_7⟩, F8_⟩ := F2_un F7_
  clear F7_
  obtain ⟨_, _, rfl, ⟨n2_8, rfl, wf2_8⟩, F9_⟩ := F2_un F8_
  clear F8_
  obtain ⟨_, _, rfl, ⟨n2_9, rfl, wf2_9⟩, F10_⟩ := F2_un F9_
  clear F9_
  obtain ⟨_, _, rfl, ⟨n2_10, rfl, wf2_10⟩, F11_⟩ := F2_un F10_
  clear F10_
  obtain ⟨_, _, rfl, ⟨n2_11, rfl, wf2_11⟩, F12_⟩ := F2_un F11_
  clear F11_
  obtain ⟨_, _, rfl, ⟨n2_12, rfl, wf2_12⟩, F13_⟩ := F2_un F12_
  clear F12_
  obtain ⟨_, _, rfl, ⟨n2_13, rfl, wf2_13⟩, F14_⟩ := F2_un F13_
  clear F13_
  obtain ⟨_, _, rfl, ⟨n2_14, rfl, wf2_14⟩, F15_⟩ := F2_un F14_
  clear F14_
  obtain rfl := F2_un0 F15_
  exact ⟨n2_0, n2_1, n2_2, n2_3, n2_4, n2_5, n2_6, n2_7, n2_8, n2_9, n2_10, n2_11, n2_12, n2_13, n2_14, rfl, wf2_0, wf2_1, wf2_2, wf2_3, wf2_4, wf2_5, wf2_6, wf2_7, wf2_8, wf2_9, wf2_10, wf2_11, wf2_12, wf2_13, wf2_14⟩

theorem opened1 {H : Type} {enc : TypeId × Value → H} {P : Program} {w : World} {base : Nat} {spare : Nat → Bool} {held : Bool} {l : List Value} (F : F2 (leafOK enc P w base spare held) [.int .u8, .int .u8, .int .u8, .int .u8, .int .u8, .int .u8, .int .u8, .int .u8, .int .u8, .int .u8, .int .u8, .int .u8, .int .u16, .slice 5] l) : ∃ (n1_0 : Int) (n1_1 : Int) (n1_2 : Int) (n1_3 : Int) (n1_4 : Int) (n1_5 : Int) (n1_6 : Int) (n1_7 : Int) (n1_8 : Int) (n1_9 : Int) (n1_10 : Int) (n1_11 : Int) (n1_12 : Int) (fa1 : Option Addr) (fl1 fc1 : Nat), l = [.int .u8 n1_0, .int .u8 n1_1, .int .u8 n1_2, .int .u8 n1_3, .int .u8 n1_4, .int .u8 n1_5, .int .u8 n1_6, .int .u8 n1_7, .int .u8 n1_8, .int .u8 n1_9, .int .u8 n1_10, .int .u8 n1_11, .int .u16 n1_12, .slice fa1 fl1 fc1] ∧ ((Lit.int .u8 n1_0).wf = true) ∧ ((Lit.int .u8 n1_1).wf = true) ∧ ((Lit.int .u8 n1_2).wf = true) ∧ ((Lit.int .u8 n1_3).wf = true) ∧ ((Lit.int .u8 n1_4).wf = true) ∧ ((Lit.int .u8 n1_5).wf = true) ∧ ((Lit.int .u8 n1_6).wf = true) ∧ ((Lit.int .u8 n1_7).wf = true) ∧ ((Lit.int .u8 n1_8).wf = true) ∧ ((Lit.int .u8 n1_9).wf = true) ∧ ((Lit.int .u8 n1_10).wf = true) ∧ ((Lit.int .u8 n1_11).wf = true) ∧ ((Lit.int .u16 n1_12).wf = true) ∧ (fl1 ≤ fc1 ∧ fc1 ≤ maxLen ∧ (0 < fc1 → ∃ adr, fa1 = some adr) ∧ ∀ adr, fa1 = some adr → ∀ i, i < fl1 → ∃ cs m x, w.cells? base (adr.add (i * P.cellsOf 5)) (P.cellsOf 5) = some cs ∧ DataW.trod enc P w base spare held m 5 cs = some x) := by
  obtain ⟨_, _, rfl, ⟨n1_0, rfl, wf1_0⟩, F1_⟩ := F2_un F
  clear F
  obtain ⟨_, _, rfl, ⟨n1_1, rfl, wf1_1⟩, F2_⟩ := F2_un F1_
  clear F1_
  obtain ⟨_, _, rfl, ⟨n1_2, rfl, wf1_2⟩, F3_⟩ := F2_un F2_
  clear F2_
  obtain ⟨_, _, rfl, ⟨n1_3, rfl, wf1_3⟩, F4_⟩ := F2_un F3_
  clear F3_
  obtain ⟨_, _, rfl, ⟨n1_4, rfl, wf1_4⟩, F5_⟩ := F2_un F4_
  clear F4_
  obtain ⟨_, _, rfl, ⟨n1_5, rfl, wf1_5⟩, F6_⟩ := F2_un F5_
  clear F5_
  obtain ⟨_, _, rfl, ⟨n1_6, rfl, wf1_6⟩, F7_⟩ := F2_un F6_
  clear F6_
  obtain ⟨_, _, rfl, ⟨n1_7, rfl, wf1_7⟩, F8_⟩ := F2_un F7_
  clear F7_
  obtain ⟨_, _, rfl, ⟨n1_8, rfl, wf1_8⟩, F9_⟩ := F2_un F8_
  clear F8_
  obtain ⟨_, _, rfl, ⟨n1_9, rfl, wf1_9⟩, F10_⟩ := F2_un F9_
  clear F9_
  obtain ⟨_, _, rfl, ⟨n1_10, rfl, wf1_10⟩, F11_⟩ := F2_un F10_
  clear F10_
  obtain ⟨_, _, rfl, ⟨n1_11, rfl, wf1_11⟩, F12_⟩ := F2_un F11_
  clear F11_
  obtain ⟨_, _, rfl, ⟨n1_12, rfl, wf1_12⟩, F13_⟩ := F2_un F12_
  clear F12_
  obtain ⟨_, _, rfl, ⟨fa1, fl1, fc1, rfl, sf1_13⟩, F14_⟩ := F2_un F13_
  clear F13_
  obtain rfl := F2_un0 F14_
  exact ⟨n1_0, n1_1, n1_2, n1_3, n1_4, n1_5, n1_6, n1_7, n1_8, n1_9, n1_10, n1_11, n1_12, fa1, fl1, fc1, rfl, wf1_0, wf1_1, wf1_2, wf1_3, wf1_4, wf1_5, wf1_6, wf1_7, wf1_8, wf1_9, wf1_10, wf1_11, wf1_12, sf1_13⟩

theorem opened0 {H : Type} {enc : TypeId × Value → H} {P : Program} {w : World} {base : Nat} {spare : Nat → Bool} {held : Bool} {l : List Value} (F : F2 (leafOK enc P w base spare held) [.int .u8, .int .u8, .int .u8, .int .u8, .int .u8, .int .u8, .int .u8, .int .u8, .int .u8, .int .u8, .int .u8, .int .u8, .int .u16, .slice 5] l) : ∃ (n0_0 : Int) (n0_1 : Int) (n0_2 : Int) (n0_3 : Int) (n0_4 : Int) (n0_5 : Int) (n0_6 : Int) (n0_7 : Int) (n0_8 : Int) (n0_9 : Int) (n0_10 : Int) (n0_11 : Int) (n0_12 : Int) (fa0 : Option Addr) (fl0 fc0 : Nat), l = [.int .u8 n0_0, .int .u8 n0_1, .int .u8 n0_2, .int .u8 n0_3, .int .u8 n0_4, .int .u8 n0_5, .int .u8 n0_6, .int .u8 n0_7, .int .u8 n0_8, .int .u8 n0_9, .int .u8 n0_10, .int .u8 n0_11, .int .u16 n0_12, .slice fa0 fl0 fc0] ∧ ((Lit.int .u8 n0_0).wf = true) ∧ ((Lit.int .u8 n0_1).wf = true) ∧ ((Lit.int .u8 n0_2).wf = true) ∧ ((Lit.int .u8 n0_3).wf = true) ∧ ((Lit.int .u8 n0_4).wf = true) ∧ ((Lit.int .u8 n0_5).wf = true) ∧ ((Lit.int .u8 n0_6).wf = true) ∧ ((Lit.int .u8 n0_7).wf = true) ∧ ((Lit.int .u8 n0_8).wf = true) ∧ ((Lit.int .u8 n0_9).wf = true) ∧ ((Lit.int .u8 n0_10).wf = true) ∧ ((Lit.int .u8 n0_11).wf = true) ∧ ((Lit.int .u16 n0_12).wf = true) ∧ (fl0 ≤ fc0 ∧ fc0 ≤ maxLen ∧ (0 < fc0 → ∃ adr, fa0 = some adr) ∧ ∀ adr, fa0 = some adr → ∀ i, i < fl0 → ∃ cs m x, w.cells? base (adr.add (i * P.cellsOf 5)) (P.cellsOf 5) = some cs ∧ DataW.trod enc P w base spare held m 5 cs = some x) := by
  obtain ⟨_, _, rfl, ⟨n0_0, rfl, wf0_0⟩, F1_⟩ := F2_un F
  clear F
  obtain ⟨_, _, rfl, ⟨n0_1, rfl, wf0_1⟩, F2_⟩ := F2_un F1_
  clear F1_
  obtain ⟨_, _, rfl, ⟨n0_2, rfl, wf0_2⟩, F3_⟩ := F2_un F2_
  clear F2_
  obtain ⟨_, _, rfl, ⟨n0_3, rfl, wf0_3⟩, F4_⟩ := F2_un F3_
  clear F3_
  obtain ⟨_, _, rfl, ⟨n0_4, rfl, wf0_4⟩, F5_⟩ := F2_un F4_
  clear F4_
  obtain ⟨_, _, rfl, ⟨n0_5, rfl, wf0_5⟩, F6_⟩ := F2_un F5_
  clear F5_
  obtain ⟨_, _, rfl, ⟨n0_6, rfl, wf0_6⟩, F7_⟩ := F2_un F6_
  clear F6_
  obtain ⟨_, _, rfl, ⟨n0_7, rfl, wf0_7⟩, F8_⟩ := F2_un F7_
  clear F7_
  obtain ⟨_, _, rfl, ⟨n0_8, rfl, wf0_8⟩, F9_⟩ := F2_un F8_
  clear F8_
  obtain ⟨_, _, rfl, ⟨n0_9, rfl, wf0_9⟩, F10_⟩ := F2_un F9_
  clear F9_
  obtain ⟨_, _, rfl, ⟨n0_10, rfl, wf0_10⟩, F11_⟩ := F2_un F10_
  clear F10_
  obtain ⟨_, _, rfl, ⟨n0_11, rfl, wf0_11⟩, F12_⟩ := F2_un F11_
  clear F11_
  obtain ⟨_, _, rfl, ⟨n0_12, rfl, wf0_12⟩, F13_⟩ := F2_un F12_
  clear F12_
  obtain ⟨_, _, rfl, ⟨fa0, fl0, fc0, rfl, sf0_13⟩, F14_⟩ := F2_un F13_
  clear F13_
  obtain rfl := F2_un0 F14_
  exact ⟨n0_0, n0_1, n0_2, n0_3, n0_4, n0_5, n0_6, n0_7, n0_8, n0_9, n0_10, n0_11, n0_12, fa0, fl0, fc0, rfl, wf0_0, wf0_1, wf0_2, wf0_3, wf0_4, wf0_5, wf0_6, wf0_7, wf0_8, wf0_9, wf0_10, wf0_11, wf0_12, sf0_13⟩

theorem own : ownKnob Tryd.prog.godebug = none := by kernel_rfl
theorem laidOut : laidOutB Tryd.prog = true := by kernel_rfl
def cells_0 : Array Value := #[.int .u8 0, .int .u8 1, .int .u8 8, .int .u8 0, .int .u8 6, .int .u8 4]
theorem at_of_tab {P : Program} {W : World} {name : String} {k : IntKind} {zs : List Int} {g : Nat} (h : Lib.TabIs P W name k zs) (hg : P.globalNamed name = some g) : At W (some ⟨g, 0, none⟩) (zs.map fun z => Value.int k z) :=
  ⟨fun _ => rfl, fun q v hv => by
    rw [List.getElem?_map, Option.map_eq_some_iff] at hv
    obtain ⟨z, hz, rfl⟩ := hv
    have hq := (List.getElem?_eq_some_iff.1 hz).1
    have := h.cell hg q hq
    simp only [Option.getD_some]
    rw [add_lit, Nat.zero_add, this]
    simp [List.getD, hz]⟩
noncomputable def laidWorld (os : Os) : World :=
  { World.holding Tryd.prog os ⟨#[], #[], []⟩ with heap := ((World.holding Tryd.prog os ⟨#[], #[], []⟩).heap.modify 0 fun
      | .cells _ t frozen => .cells cells_0 t frozen
      | o => o) }
theorem laidWorld_met (os : Os) (args : Array Value) : laidMetH Tryd.prog Rows.etherApartRow.laid ((laidWorld os).forCall (fun _ _ => 0) ⟨#[], args, []⟩).memory := by
  refine (Go.laidMetH_iff).2 ⟨?_, fun _ h => by cases h⟩
  exact laidMet_of_run' 8 (by kernel_rfl) (by kernel_rfl)
set_option maxRecDepth 100000 in
set_option maxHeartbeats 1000000 in
theorem lifted (os : Os) (started : os.Started) (H : Type) (enc : TypeId × Value → H) :
    ReturnsInHanded {} Tryd.checked os 5 .any (fun w args => (Rows.etherApartSpec.pre enc Tryd.prog Tryd.f5 Rows.etherApartRow.domain false w args ∧ laidMetH Tryd.prog Rows.etherApartRow.laid w) ∧ sizedMet enc Tryd.prog Tryd.f5 (OpenSpec.ofChange Rows.etherApartSpec) false w args) (Rows.etherApartSpec.post enc Tryd.prog Tryd.f5 false true false false) := by
  refine returnsInHanded_of_change_and (C := Tryd.checked) (X := fun w _ => laidMetH Tryd.prog Rows.etherApartRow.laid w) (fun _ _ _ hh h => h.of_heap hh) own started (by kernel_rfl) Tryd.func5
    (ChangeSpec.witness_at (enc := enc) (C := Tryd.checked) (os := os) (X := fun w _ => laidMetH Tryd.prog Rows.etherApartRow.laid w) false (laidWorld os) #[Value.agg ([Value.int .u8 0, Value.int .u8 0, Value.int .u8 0, Value.int .u8 0, Value.int .u8 0, Value.int .u8 0, Value.int .u8 0, Value.int .u8 0, Value.int .u8 0, Value.int .u8 0, Value.int .u8 0, Value.int .u8 0, Value.int .u16 0, Value.slice none 0 0]).toArray, Value.agg ([Value.int .u8 0, Value.int .u8 0, Value.int .u8 0, Value.int .u8 0, Value.int .u8 0, Value.int .u8 0, Value.int .u8 0, Value.int .u8 0, Value.int .u8 0, Value.int .u8 0, Value.int .u8 0, Value.int .u8 0, Value.int .u16 0, Value.slice none 0 0]).toArray, Value.agg ([Value.int .u16 0, Value.int .u8 0, Value.int .u8 0, Value.int .u8 0, Value.int .u8 0, Value.int .u8 0, Value.int .u8 0, Value.int .u8 0, Value.int .u8 0, Value.int .u8 0, Value.int .u8 0, Value.int .u8 0, Value.int .u8 0, Value.int .u32 0, Value.int .u32 0]).toArray, Value.agg ([Value.int .u16 0, Value.int .u8 0, Value.int .u8 0, Value.int .u8 0, Value.int .u8 0, Value.int .u8 0, Value.int .u8 0, Value.int .u8 0, Value.int .u8 0, Value.int .u8 0, Value.int .u8 0, Value.int .u8 0, Value.int .u8 0, Value.int .u32 0, Value.int .u32 0]).toArray] 12 rfl (by kernel_rfl) (by kernel_rfl) (by kernel_rfl) (by kernel_rfl) (by kernel_rfl) (laidWorld_met os _)) ?_
  intro W base args ds gs before hval0 hW hcnd _ hL0 _
  have hL := (Go.laidMetH_iff.1 hL0).1
  have hT : Lib.TabIs Tryd.prog W "hearth/ether.prefix" .u8 [0, 1, 8, 0, 6, 4] := Lib.tabIs_of_head (g := 0) (t := 35) (e := 5) (n := 6) (by kernel_rfl) (by kernel_rfl) (by kernel_rfl) (by kernel_rfl) (by kernel_rfl) (by kernel_rfl) hL
  have hlaid : At W (some ⟨0, 0, none⟩) (byc [0, 1, 8, 0, 6, 4]) := (show List.map (fun z => Value.int .u8 z) [0, 1, 8, 0, 6, 4] = byc [0, 1, 8, 0, 6, 4] by kernel_rfl) ▸ at_of_tab hT (by kernel_rfl)
  have hval : ∀ (j : Nat) t v, Tryd.f5.params[j]? = some t → args[j]? = some v → Value.okWide Tryd.prog W .any base t v := hval0
  have hW' := hW
  obtain ⟨p, q, hA0, hV, rfl, hfz, hnd⟩ := hW
  have hA : DataW.TrodAll enc Tryd.prog W 0 (fun _ => true) true Tryd.f5.params.toList args.toList ds p := hA0
  rw [Tryd.params5] at hA hval
  obtain ⟨v0, vs0, d0, ds0, p0, q0, hargs, rfl, rfl, h0, r0⟩ := trodAll_cons hA
  obtain ⟨v1, vs1, d1, ds1, p1, q1, rfl, rfl, rfl, h1, r1⟩ := trodAll_cons r0
  obtain ⟨v2, vs2, d2, ds2, p2, q2, rfl, rfl, rfl, h2, r2⟩ := trodAll_cons r1
  obtain ⟨v3, vs3, d3, ds3, p3, q3, rfl, rfl, rfl, h3, r3⟩ := trodAll_cons r2
  obtain ⟨rfl, rfl, rfl⟩ := trodAll_nil r3
  obtain rfl : args = #[v0, v1, v2, v3] := by cases args; simp_all
  obtain ⟨rfl, rfl⟩ := trodVars_none hV
  have k0 := h0
  have lt0 : ∀ x ∈ p0, x.block < W.heap.size := by obtain ⟨m, hm⟩ := k0; exact DataW.trod_lt m _ _ _ hm
  obtain ⟨cs0, rfl, hz0⟩ : ∃ cs, v0 = .agg cs ∧ cs.size = Tryd.prog.cellsOf 39 := by have hq := (hval 0 39 v0 rfl rfl); simp only [Value.okWide, Tryd.underlying39] at hq; obtain ⟨cs, e1, e2, _⟩ := hq; exact ⟨cs, e1, e2⟩
  obtain ⟨l0, rfl⟩ : ∃ l : List Value, cs0 = l.toArray := ⟨cs0.toList, by simp⟩
  obtain ⟨m0, hm0⟩ := h0
  obtain ⟨n0_0, n0_1, n0_2, n0_3, n0_4, n0_5, n0_6, n0_7, n0_8, n0_9, n0_10, n0_11, n0_12, fa0, fl0, fc0, hl0, wf0_0, wf0_1, wf0_2, wf0_3, wf0_4, wf0_5, wf0_6, wf0_7, wf0_8, wf0_9, wf0_10, wf0_11, wf0_12, sf0_13⟩ := opened0 (flat_ok (P := Tryd.prog) 8 39 [.int .u8, .int .u8, .int .u8, .int .u8, .int .u8, .int .u8, .int .u8, .int .u8, .int .u8, .int .u8, .int .u8, .int .u8, .int .u16, .slice 5] (by kernel_rfl) _ _ _ hm0)
  obtain rfl : l0 = _ := hl0
  obtain ⟨lc0_13, cm0_13, hs0_13, hr0_13⟩ := sf0_13
  have bd0_0 := bounds_u8 wf0_0
  have bd0_1 := bounds_u8 wf0_1
  have bd0_2 := bounds_u8 wf0_2
  have bd0_3 := bounds_u8 wf0_3
  have bd0_4 := bounds_u8 wf0_4
  have bd0_5 := bounds_u8 wf0_5
  have bd0_6 := bounds_u8 wf0_6
  have bd0_7 := bounds_u8 wf0_7
  have bd0_8 := bounds_u8 wf0_8
  have bd0_9 := bounds_u8 wf0_9
  have bd0_10 := bounds_u8 wf0_10
  have bd0_11 := bounds_u8 wf0_11
  have bd0_12 := bounds_u16 wf0_12
  obtain ⟨xs0, hx0_13, hat0_13, hp0_13⟩ := at_of (e := 5) (α := UInt8) (g := b8) (p := fun x => True) (by kernel_rfl) lc0_13 hs0_13 hr0_13 (fun m cs x hx => by
    have F := flat_ok (P := Tryd.prog) 8 5 [.int .u8] (by kernel_rfl) _ _ _ hx
    simp only [F2_cons, F2_nil, leafOK] at F
    obtain ⟨_, _, rfl, ⟨y, rfl, wy⟩, rfl⟩ := F
    exact ⟨UInt8.ofNat y.toNat, congrArg (fun v => [v]) (b8_of wy), trivial⟩)
  have k1 := h1
  have lt1 : ∀ x ∈ p1, x.block < W.heap.size := by obtain ⟨m, hm⟩ := k1; exact DataW.trod_lt m _ _ _ hm
  obtain ⟨cs1, rfl, hz1⟩ : ∃ cs, v1 = .agg cs ∧ cs.size = Tryd.prog.cellsOf 39 := by have hq := (hval 1 39 v1 rfl rfl); simp only [Value.okWide, Tryd.underlying39] at hq; obtain ⟨cs, e1, e2, _⟩ := hq; exact ⟨cs, e1, e2⟩
  obtain ⟨l1, rfl⟩ : ∃ l : List Value, cs1 = l.toArray := ⟨cs1.toList, by simp⟩
  obtain ⟨m1, hm1⟩ := h1
  obtain ⟨n1_0, n1_1, n1_2, n1_3, n1_4, n1_5, n1_6, n1_7, n1_8, n1_9, n1_10, n1_11, n1_12, fa1, fl1, fc1, hl1, wf1_0, wf1_1, wf1_2, wf1_3, wf1_4, wf1_5, wf1_6, wf1_7, wf1_8, wf1_9, wf1_10, wf1_11, wf1_12, sf1_13⟩ := opened1 (flat_ok (P := Tryd.prog) 8 39 [.int .u8, .int .u8, .int .u8, .int .u8, .int .u8, .int .u8, .int .u8, .int .u8, .int .u8, .int .u8, .int .u8, .int .u8, .int .u16, .slice 5] (by kernel_rfl) _ _ _ hm1)
  obtain rfl : l1 = _ := hl1
  obtain ⟨lc1_13, cm1_13, hs1_13, hr1_13⟩ := sf1_13
  have bd1_0 := bounds_u8 wf1_0
  have bd1_1 := bounds_u8 wf1_1
  have bd1_2 := bounds_u8 wf1_2
  have bd1_3 := bounds_u8 wf1_3
  have bd1_4 := bounds_u8 wf1_4
  have bd1_5 := bounds_u8 wf1_5
  have bd1_6 := bounds_u8 wf1_6
  have bd1_7 := bounds_u8 wf1_7
  have bd1_8 := bounds_u8 wf1_8
  have bd1_9 := bounds_u8 wf1_9
  have bd1_10 := bounds_u8 wf1_10
  have bd1_11 := bounds_u8 wf1_11
  have bd1_12 := bounds_u16 wf1_12
  obtain ⟨xs1, hx1_13, hat1_13, hp1_13⟩ := at_of (e := 5) (α := UInt8) (g := b8) (p := fun x => True) (by kernel_rfl) lc1_13 hs1_13 hr1_13 (fun m cs x hx => by
    have F := flat_ok (P := Tryd.prog) 8 5 [.int .u8] (by kernel_rfl) _ _ _ hx
    simp only [F2_cons, F2_nil, leafOK] at F
    obtain ⟨_, _, rfl, ⟨y, rfl, wy⟩, rfl⟩ := F
    exact ⟨UInt8.ofNat y.toNat, congrArg (fun v => [v]) (b8_of wy), trivial⟩)
  have k2 := h2
  have lt2 : ∀ x ∈ p2, x.block < W.heap.size := by obtain ⟨m, hm⟩ := k2; exact DataW.trod_lt m _ _ _ hm
  obtain ⟨cs2, rfl, hz2⟩ : ∃ cs, v2 = .agg cs ∧ cs.size = Tryd.prog.cellsOf 43 := by have hq := (hval 2 43 v2 rfl rfl); simp only [Value.okWide, Tryd.underlying43] at hq; obtain ⟨cs, e1, e2, _⟩ := hq; exact ⟨cs, e1, e2⟩
  obtain ⟨l2, rfl⟩ : ∃ l : List Value, cs2 = l.toArray := ⟨cs2.toList, by simp⟩
  obtain ⟨m2, hm2⟩ := h2
  obtain ⟨n2_0, n2_1, n2_2, n2_3, n2_4, n2_5, n2_6, n2_7, n2_8, n2_9, n2_10, n2_11, n2_12, n2_13, n2_14, hl2, wf2_0, wf2_1, wf2_2, wf2_3, wf2_4, wf2_5, wf2_6, wf2_7, wf2_8, wf2_9, wf2_10, wf2_11, wf2_12, wf2_13, wf2_14⟩ := opened2 (flat_ok (P := Tryd.prog) 8 43 [.int .u16, .int .u8, .int .u8, .int .u8, .int .u8, .int .u8, .int .u8, .int .u8, .int .u8, .int .u8, .int .u8, .int .u8, .int .u8, .int .u32, .int .u32] (by kernel_rfl) _ _ _ hm2)
  obtain rfl : l2 = _ := hl2
  have bd2_0 := bounds_u16 wf2_0
  have bd2_1 := bounds_u8 wf2_1
  have bd2_2 := bounds_u8 wf2_2
  have bd2_3 := bounds_u8 wf2_3
  have bd2_4 := bounds_u8 wf2_4
  have bd2_5 := bounds_u8 wf2_5
  have bd2_6 := bounds_u8 wf2_6
  have bd2_7 := bounds_u8 wf2_7
  have bd2_8 := bounds_u8 wf2_8
  have bd2_9 := bounds_u8 wf2_9
  have bd2_10 := bounds_u8 wf2_10
  have bd2_11 := bounds_u8 wf2_11
  have bd2_12 := bounds_u8 wf2_12
  have bd2_13 := bounds_u32 wf2_13
  have bd2_14 := bounds_u32 wf2_14
  have k3 := h3
  have lt3 : ∀ x ∈ p3, x.block < W.heap.size := by obtain ⟨m, hm⟩ := k3; exact DataW.trod_lt m _ _ _ hm
  obtain ⟨cs3, rfl, hz3⟩ : ∃ cs, v3 = .agg cs ∧ cs.size = Tryd.prog.cellsOf 43 := by have hq := (hval 3 43 v3 rfl rfl); simp only [Value.okWide, Tryd.underlying43] at hq; obtain ⟨cs, e1, e2, _⟩ := hq; exact ⟨cs, e1, e2⟩
  obtain ⟨l3, rfl⟩ : ∃ l : List Value, cs3 = l.toArray := ⟨cs3.toList, by simp⟩
  obtain ⟨m3, hm3⟩ := h3
  obtain ⟨n3_0, n3_1, n3_2, n3_3, n3_4, n3_5, n3_6, n3_7, n3_8, n3_9, n3_10, n3_11, n3_12, n3_13, n3_14, hl3, wf3_0, wf3_1, wf3_2, wf3_3, wf3_4, wf3_5, wf3_6, wf3_7, wf3_8, wf3_9, wf3_10, wf3_11, wf3_12, wf3_13, wf3_14⟩ := opened3 (flat_ok (P := Tryd.prog) 8 43 [.int .u16, .int .u8, .int .u8, .int .u8, .int .u8, .int .u8, .int .u8, .int .u8, .int .u8, .int .u8, .int .u8, .int .u8, .int .u8, .int .u32, .int .u32] (by kernel_rfl) _ _ _ hm3)
  obtain rfl : l3 = _ := hl3
  have bd3_0 := bounds_u16 wf3_0
  have bd3_1 := bounds_u8 wf3_1
  have bd3_2 := bounds_u8 wf3_2
  have bd3_3 := bounds_u8 wf3_3
  have bd3_4 := bounds_u8 wf3_4
  have bd3_5 := bounds_u8 wf3_5
  have bd3_6 := bounds_u8 wf3_6
  have bd3_7 := bounds_u8 wf3_7
  have bd3_8 := bounds_u8 wf3_8
  have bd3_9 := bounds_u8 wf3_9
  have bd3_10 := bounds_u8 wf3_10
  have bd3_11 := bounds_u8 wf3_11
  have bd3_12 := bounds_u8 wf3_12
  have bd3_13 := bounds_u32 wf3_13
  have bd3_14 := bounds_u32 wf3_14
  clear hA0 hval0
  obtain ⟨d0_0, rfl⟩ : ∃ d : UInt8, n0_0 = ((d.toNat : Nat) : Int) := ⟨UInt8.ofNat n0_0.toNat, by rw [UInt8.toNat_ofNat', Nat.mod_eq_of_lt (by omega)]; omega⟩
  obtain ⟨d0_1, rfl⟩ : ∃ d : UInt8, n0_1 = ((d.toNat : Nat) : Int) := ⟨UInt8.ofNat n0_1.toNat, by rw [UInt8.toNat_ofNat', Nat.mod_eq_of_lt (by omega)]; omega⟩
  obtain ⟨d0_2, rfl⟩ : ∃ d : UInt8, n0_2 = ((d.toNat : Nat) : Int) := ⟨UInt8.ofNat n0_2.toNat, by rw [UInt8.toNat_ofNat', Nat.mod_eq_of_lt (by omega)]; omega⟩
  obtain ⟨d0_3, rfl⟩ : ∃ d : UInt8, n0_3 = ((d.toNat : Nat) : Int) := ⟨UInt8.ofNat n0_3.toNat, by rw [UInt8.toNat_ofNat', Nat.mod_eq_of_lt (by omega)]; omega⟩
  obtain ⟨d0_4, rfl⟩ : ∃ d : UInt8, n0_4 = ((d.toNat : Nat) : Int) := ⟨UInt8.ofNat n0_4.toNat, by rw [UInt8.toNat_ofNat', Nat.mod_eq_of_lt (by omega)]; omega⟩
  obtain ⟨d0_5, rfl⟩ : ∃ d : UInt8, n0_5 = ((d.toNat : Nat) : Int) := ⟨UInt8.ofNat n0_5.toNat, by rw [UInt8.toNat_ofNat', Nat.mod_eq_of_lt (by omega)]; omega⟩
  obtain ⟨d0_6, rfl⟩ : ∃ d : UInt8, n0_6 = ((d.toNat : Nat) : Int) := ⟨UInt8.ofNat n0_6.toNat, by rw [UInt8.toNat_ofNat', Nat.mod_eq_of_lt (by omega)]; omega⟩
  obtain ⟨d0_7, rfl⟩ : ∃ d : UInt8, n0_7 = ((d.toNat : Nat) : Int) := ⟨UInt8.ofNat n0_7.toNat, by rw [UInt8.toNat_ofNat', Nat.mod_eq_of_lt (by omega)]; omega⟩
  obtain ⟨d0_8, rfl⟩ : ∃ d : UInt8, n0_8 = ((d.toNat : Nat) : Int) := ⟨UInt8.ofNat n0_8.toNat, by rw [UInt8.toNat_ofNat', Nat.mod_eq_of_lt (by omega)]; omega⟩
  obtain ⟨d0_9, rfl⟩ : ∃ d : UInt8, n0_9 = ((d.toNat : Nat) : Int) := ⟨UInt8.ofNat n0_9.toNat, by rw [UInt8.toNat_ofNat', Nat.mod_eq_of_lt (by omega)]; omega⟩
  obtain ⟨d0_10, rfl⟩ : ∃ d : UInt8, n0_10 = ((d.toNat : Nat) : Int) := ⟨UInt8.ofNat n0_10.toNat, by rw [UInt8.toNat_ofNat', Nat.mod_eq_of_lt (by omega)]; omega⟩
  obtain ⟨d0_11, rfl⟩ : ∃ d : UInt8, n0_11 = ((d.toNat : Nat) : Int) := ⟨UInt8.ofNat n0_11.toNat, by rw [UInt8.toNat_ofNat', Nat.mod_eq_of_lt (by omega)]; omega⟩
  obtain ⟨k0_, rfl⟩ : ∃ k : Nat, n0_12 = ((k : Nat) : Int) := ⟨n0_12.toNat, by omega⟩
  subst hx0_13
  obtain ⟨d1_0, rfl⟩ : ∃ d : UInt8, n1_0 = ((d.toNat : Nat) : Int) := ⟨UInt8.ofNat n1_0.toNat, by rw [UInt8.toNat_ofNat', Nat.mod_eq_of_lt (by omega)]; omega⟩
  obtain ⟨d1_1, rfl⟩ : ∃ d : UInt8, n1_1 = ((d.toNat : Nat) : Int) := ⟨UInt8.ofNat n1_1.toNat, by rw [UInt8.toNat_ofNat', Nat.mod_eq_of_lt (by omega)]; omega⟩
  obtain ⟨d1_2, rfl⟩ : ∃ d : UInt8, n1_2 = ((d.toNat : Nat) : Int) := ⟨UInt8.ofNat n1_2.toNat, by rw [UInt8.toNat_ofNat', Nat.mod_eq_of_lt (by omega)]; omega⟩
  obtain ⟨d1_3, rfl⟩ : ∃ d : UInt8, n1_3 = ((d.toNat : Nat) : Int) := ⟨UInt8.ofNat n1_3.toNat, by rw [UInt8.toNat_ofNat', Nat.mod_eq_of_lt (by omega)]; omega⟩
  obtain ⟨d1_4, rfl⟩ : ∃ d : UInt8, n1_4 = ((d.toNat : Nat) : Int) := ⟨UInt8.ofNat n1_4.toNat, by rw [UInt8.toNat_ofNat', Nat.mod_eq_of_lt (by omega)]; omega⟩
  obtain ⟨d1_5, rfl⟩ : ∃ d : UInt8, n1_5 = ((d.toNat : Nat) : Int) := ⟨UInt8.ofNat n1_5.toNat, by rw [UInt8.toNat_ofNat', Nat.mod_eq_of_lt (by omega)]; omega⟩
  obtain ⟨d1_6, rfl⟩ : ∃ d : UInt8, n1_6 = ((d.toNat : Nat) : Int) := ⟨UInt8.ofNat n1_6.toNat, by rw [UInt8.toNat_ofNat', Nat.mod_eq_of_lt (by omega)]; omega⟩
  obtain ⟨d1_7, rfl⟩ : ∃ d : UInt8, n1_7 = ((d.toNat : Nat) : Int) := ⟨UInt8.ofNat n1_7.toNat, by rw [UInt8.toNat_ofNat', Nat.mod_eq_of_lt (by omega)]; omega⟩
  obtain ⟨d1_8, rfl⟩ : ∃ d : UInt8, n1_8 = ((d.toNat : Nat) : Int) := ⟨UInt8.ofNat n1_8.toNat, by rw [UInt8.toNat_ofNat', Nat.mod_eq_of_lt (by omega)]; omega⟩
  obtain ⟨d1_9, rfl⟩ : ∃ d : UInt8, n1_9 = ((d.toNat : Nat) : Int) := ⟨UInt8.ofNat n1_9.toNat, by rw [UInt8.toNat_ofNat', Nat.mod_eq_of_lt (by omega)]; omega⟩
  obtain ⟨d1_10, rfl⟩ : ∃ d : UInt8, n1_10 = ((d.toNat : Nat) : Int) := ⟨UInt8.ofNat n1_10.toNat, by rw [UInt8.toNat_ofNat', Nat.mod_eq_of_lt (by omega)]; omega⟩
  obtain ⟨d1_11, rfl⟩ : ∃ d : UInt8, n1_11 = ((d.toNat : Nat) : Int) := ⟨UInt8.ofNat n1_11.toNat, by rw [UInt8.toNat_ofNat', Nat.mod_eq_of_lt (by omega)]; omega⟩
  obtain ⟨k1_, rfl⟩ : ∃ k : Nat, n1_12 = ((k : Nat) : Int) := ⟨n1_12.toNat, by omega⟩
  subst hx1_13
  obtain ⟨o2_, rfl⟩ : ∃ k : Nat, n2_0 = ((k : Nat) : Int) := ⟨n2_0.toNat, by omega⟩
  obtain ⟨m2_0, rfl⟩ : ∃ d : UInt8, n2_1 = ((d.toNat : Nat) : Int) := ⟨UInt8.ofNat n2_1.toNat, by rw [UInt8.toNat_ofNat', Nat.mod_eq_of_lt (by omega)]; omega⟩
  obtain ⟨m2_1, rfl⟩ : ∃ d : UInt8, n2_2 = ((d.toNat : Nat) : Int) := ⟨UInt8.ofNat n2_2.toNat, by rw [UInt8.toNat_ofNat', Nat.mod_eq_of_lt (by omega)]; omega⟩
  obtain ⟨m2_2, rfl⟩ : ∃ d : UInt8, n2_3 = ((d.toNat : Nat) : Int) := ⟨UInt8.ofNat n2_3.toNat, by rw [UInt8.toNat_ofNat', Nat.mod_eq_of_lt (by omega)]; omega⟩
  obtain ⟨m2_3, rfl⟩ : ∃ d : UInt8, n2_4 = ((d.toNat : Nat) : Int) := ⟨UInt8.ofNat n2_4.toNat, by rw [UInt8.toNat_ofNat', Nat.mod_eq_of_lt (by omega)]; omega⟩
  obtain ⟨m2_4, rfl⟩ : ∃ d : UInt8, n2_5 = ((d.toNat : Nat) : Int) := ⟨UInt8.ofNat n2_5.toNat, by rw [UInt8.toNat_ofNat', Nat.mod_eq_of_lt (by omega)]; omega⟩
  obtain ⟨m2_5, rfl⟩ : ∃ d : UInt8, n2_6 = ((d.toNat : Nat) : Int) := ⟨UInt8.ofNat n2_6.toNat, by rw [UInt8.toNat_ofNat', Nat.mod_eq_of_lt (by omega)]; omega⟩
  obtain ⟨m2_6, rfl⟩ : ∃ d : UInt8, n2_7 = ((d.toNat : Nat) : Int) := ⟨UInt8.ofNat n2_7.toNat, by rw [UInt8.toNat_ofNat', Nat.mod_eq_of_lt (by omega)]; omega⟩
  obtain ⟨m2_7, rfl⟩ : ∃ d : UInt8, n2_8 = ((d.toNat : Nat) : Int) := ⟨UInt8.ofNat n2_8.toNat, by rw [UInt8.toNat_ofNat', Nat.mod_eq_of_lt (by omega)]; omega⟩
  obtain ⟨m2_8, rfl⟩ : ∃ d : UInt8, n2_9 = ((d.toNat : Nat) : Int) := ⟨UInt8.ofNat n2_9.toNat, by rw [UInt8.toNat_ofNat', Nat.mod_eq_of_lt (by omega)]; omega⟩
  obtain ⟨m2_9, rfl⟩ : ∃ d : UInt8, n2_10 = ((d.toNat : Nat) : Int) := ⟨UInt8.ofNat n2_10.toNat, by rw [UInt8.toNat_ofNat', Nat.mod_eq_of_lt (by omega)]; omega⟩
  obtain ⟨m2_10, rfl⟩ : ∃ d : UInt8, n2_11 = ((d.toNat : Nat) : Int) := ⟨UInt8.ofNat n2_11.toNat, by rw [UInt8.toNat_ofNat', Nat.mod_eq_of_lt (by omega)]; omega⟩
  obtain ⟨m2_11, rfl⟩ : ∃ d : UInt8, n2_12 = ((d.toNat : Nat) : Int) := ⟨UInt8.ofNat n2_12.toNat, by rw [UInt8.toNat_ofNat', Nat.mod_eq_of_lt (by omega)]; omega⟩
  obtain ⟨s2_, rfl⟩ : ∃ k : Nat, n2_13 = ((k : Nat) : Int) := ⟨n2_13.toNat, by omega⟩
  obtain ⟨t2_, rfl⟩ : ∃ k : Nat, n2_14 = ((k : Nat) : Int) := ⟨n2_14.toNat, by omega⟩
  obtain ⟨o3_, rfl⟩ : ∃ k : Nat, n3_0 = ((k : Nat) : Int) := ⟨n3_0.toNat, by omega⟩
  obtain ⟨m3_0, rfl⟩ : ∃ d : UInt8, n3_1 = ((d.toNat : Nat) : Int) := ⟨UInt8.ofNat n3_1.toNat, by rw [UInt8.toNat_ofNat', Nat.mod_eq_of_lt (by omega)]; omega⟩
  obtain ⟨m3_1, rfl⟩ : ∃ d : UInt8, n3_2 = ((d.toNat : Nat) : Int) := ⟨UInt8.ofNat n3_2.toNat, by rw [UInt8.toNat_ofNat', Nat.mod_eq_of_lt (by omega)]; omega⟩
  obtain ⟨m3_2, rfl⟩ : ∃ d : UInt8, n3_3 = ((d.toNat : Nat) : Int) := ⟨UInt8.ofNat n3_3.toNat, by rw [UInt8.toNat_ofNat', Nat.mod_eq_of_lt (by omega)]; omega⟩
  obtain ⟨m3_3, rfl⟩ : ∃ d : UInt8, n3_4 = ((d.toNat : Nat) : Int) := ⟨UInt8.ofNat n3_4.toNat, by rw [UInt8.toNat_ofNat', Nat.mod_eq_of_lt (by omega)]; omega⟩
  obtain ⟨m3_4, rfl⟩ : ∃ d : UInt8, n3_5 = ((d.toNat : Nat) : Int) := ⟨UInt8.ofNat n3_5.toNat, by rw [UInt8.toNat_ofNat', Nat.mod_eq_of_lt (by omega)]; omega⟩
  obtain ⟨m3_5, rfl⟩ : ∃ d : UInt8, n3_6 = ((d.toNat : Nat) : Int) := ⟨UInt8.ofNat n3_6.toNat, by rw [UInt8.toNat_ofNat', Nat.mod_eq_of_lt (by omega)]; omega⟩
  obtain ⟨m3_6, rfl⟩ : ∃ d : UInt8, n3_7 = ((d.toNat : Nat) : Int) := ⟨UInt8.ofNat n3_7.toNat, by rw [UInt8.toNat_ofNat', Nat.mod_eq_of_lt (by omega)]; omega⟩
  obtain ⟨m3_7, rfl⟩ : ∃ d : UInt8, n3_8 = ((d.toNat : Nat) : Int) := ⟨UInt8.ofNat n3_8.toNat, by rw [UInt8.toNat_ofNat', Nat.mod_eq_of_lt (by omega)]; omega⟩
  obtain ⟨m3_8, rfl⟩ : ∃ d : UInt8, n3_9 = ((d.toNat : Nat) : Int) := ⟨UInt8.ofNat n3_9.toNat, by rw [UInt8.toNat_ofNat', Nat.mod_eq_of_lt (by omega)]; omega⟩
  obtain ⟨m3_9, rfl⟩ : ∃ d : UInt8, n3_10 = ((d.toNat : Nat) : Int) := ⟨UInt8.ofNat n3_10.toNat, by rw [UInt8.toNat_ofNat', Nat.mod_eq_of_lt (by omega)]; omega⟩
  obtain ⟨m3_10, rfl⟩ : ∃ d : UInt8, n3_11 = ((d.toNat : Nat) : Int) := ⟨UInt8.ofNat n3_11.toNat, by rw [UInt8.toNat_ofNat', Nat.mod_eq_of_lt (by omega)]; omega⟩
  obtain ⟨m3_11, rfl⟩ : ∃ d : UInt8, n3_12 = ((d.toNat : Nat) : Int) := ⟨UInt8.ofNat n3_12.toNat, by rw [UInt8.toNat_ofNat', Nat.mod_eq_of_lt (by omega)]; omega⟩
  obtain ⟨s3_, rfl⟩ : ∃ k : Nat, n3_13 = ((k : Nat) : Int) := ⟨n3_13.toNat, by omega⟩
  obtain ⟨t3_, rfl⟩ : ∃ k : Nat, n3_14 = ((k : Nat) : Int) := ⟨n3_14.toNat, by omega⟩
  refine Calls.mono (apart_c d0_0 d0_1 d0_2 d0_3 d0_4 d0_5 d0_6 d0_7 d0_8 d0_9 d0_10 d0_11 d1_0 d1_1 d1_2 d1_3 d1_4 d1_5 d1_6 d1_7 d1_8 d1_9 d1_10 d1_11 k0_ k1_ xs0 xs1 fa0 fa1 fc0 fc1 o2_ s2_ t2_ o3_ s3_ t3_ m2_0 m2_1 m2_2 m2_3 m2_4 m2_5 m2_6 m2_7 m2_8 m2_9 m2_10 m2_11 m3_0 m3_1 m3_2 m3_3 m3_4 m3_5 m3_6 m3_7 m3_8 m3_9 m3_10 m3_11 W hat0_13 hat1_13 (by omega) (by omega) (by omega) (by omega) hlaid (by omega) (by omega) (by omega) (by omega)) fun e W' ⟨he, bel⟩ => ?_
  subst he
  exact ⟨_, rfl, _, _, _, [], _, [], hW', trodAll_mk1 (shut_bool Tryd.underlying4 _), (trodAll_cons_mk (Below.trod laidOut (by kernel_rfl) (of_decide_eq_true (by kernel_rfl)) k0 bel lt0) (trodAll_cons_mk (Below.trod laidOut (by kernel_rfl) (of_decide_eq_true (by kernel_rfl)) k1 bel lt1) (trodAll_cons_mk (Below.trod laidOut (by kernel_rfl) (of_decide_eq_true (by kernel_rfl)) k2 bel lt2) (trodAll_cons_mk (Below.trod laidOut (by kernel_rfl) (of_decide_eq_true (by kernel_rfl)) k3 bel lt3) trodAll_mk0)))), rfl, bel.frame _, fun h => by cases h⟩

theorem over : Rows.etherApartRow.holds Tryd.pinned (OpenSpec.ofChange Rows.etherApartSpec) :=
  OpenClaim.holds_of_wide 5 Tryd.f5 rfl rfl rfl rfl rfl rfl rfl ⟨rfl, rfl, rfl, rfl, rfl⟩ rfl rfl rfl rfl rfl (by kernel_rfl) Tryd.func5 (by kernel_rfl)
    (of_decide_eq_true (by kernel_rfl)) (by unfold Func.isWrapper; first | (rw [if_pos (by decide +kernel)]; kernel_rfl) | (rw [if_neg (by decide +kernel)]; exact ⟨rfl, rfl⟩))
    (fun os started H enc _ => lifted os started H enc)

theorem proved : Rows.EtherApartCardSaid :=
  Claim7.holds_tied_plain_at .later [] [.widerDeep] true (true, "f879604ec6ad26d7bb44c5d40e26c8e43bbda50914c7fb8fa61c5453093931d1") false over (fun _ h => by cases h) (by kernel_rfl) (fun _ h => by cases h) etherApart_row_tie rfl ⟨rfl, rfl⟩ (by kernel_rfl) rfl
    (fun f fn hf hfn => by
      obtain rfl : f = 5 := Option.some.inj ((show Tryd.prog.funcNamed "hearth/hearthlaw03.EtherApart" = some 5 by kernel_rfl).symm.trans hf) |>.symm
      obtain rfl : fn = Tryd.f5 := (Option.some.inj (Tryd.func5.symm.trans hfn)).symm
      refine ⟨by kernel_rfl, fun j t ht => ?_⟩
      rw [Tryd.params5] at ht
      have hm := Array.mem_of_getElem? ht
      have ha : ([39, 39, 43, 43] : List TypeId).all (fun t => !Tryd.prog.wantsStandIn t) = true := by kernel_rfl
      have hx := List.all_eq_true.1 ha t (by simpa using hm)
      exact (show Tryd.prog.wantsStandIn t = false by simpa using hx))
    (by kernel_rfl)
end Go.Proofs.YtnhmajdpjapgjaaDoor.EtherApart

