/-
  TrackBegins: called with any two bytes the law returns true and its arguments read as before. No condition.
-/
import Derived.Test.YtegdeobjfdiilaaTrack
import Derived.Test.YtegdeobjfdiilaaArgs
set_option linter.unusedVariables false
set_option linter.unusedSimpArgs false
namespace Go.Proofs.Ytegdeobjfdiilaa.TrackBegins
open Go.ChangeShapes Go.WideShapes Go.ChangeAt Go.RowKit Base Track
def c8 : List Int := [0, 2, 4, 6, 16, 18, 20, 22]
theorem fa : ∀ a : Fin 256, (c8.contains (band .u8 a.val 22) && (begins a.val == (band .u8 a.val 22 == 2))) = true := by decide +kernel
theorem fb : ∀ b : Fin 256, ((((c8.all fun c => begins (bor .u8 c (bandn .u8 b.val 22)) == (c == 2)) && begins (bor .u8 2 (bandn .u8 b.val 22))) && !(begins (bor .u8 18 (bandn .u8 b.val 22)))) && !(begins (bor .u8 6 (bandn .u8 b.val 22)))) && !(begins (bandn .u8 b.val 22)) := by decide +kernel
theorem law (a b : Int) (ha : 0 ≤ a ∧ a ≤ 255) (hb : 0 ≤ b ∧ b ≤ 255) : lawBegins a b = true := by
  obtain ⟨x, rfl⟩ := Int.eq_ofNat_of_zero_le ha.1
  obtain ⟨y, rfl⟩ := Int.eq_ofNat_of_zero_le hb.1
  have h1 := fa ⟨x, by omega⟩
  have h2 := fb ⟨y, by omega⟩
  simp only [Bool.and_eq_true, List.all_eq_true] at h1 h2
  obtain ⟨h1, h3⟩ := h1
  obtain ⟨⟨⟨⟨h2, h4⟩, h5⟩, h6⟩, h7⟩ := h2
  have h8 := h2 _ (List.contains_iff_mem.1 h1)
  simp only [beq_iff_eq] at h3 h8
  unfold lawBegins
  simp only [Bool.and_eq_true, beq_iff_eq]
  exact ⟨⟨⟨⟨h3.trans h8.symm, h4⟩, h5⟩, h6⟩, h7⟩

theorem own : ownKnob Try.prog.godebug = none := by kernel_rfl
theorem laidOut : laidOutB Try.prog = true := by kernel_rfl
set_option maxRecDepth 100000 in
set_option maxHeartbeats 400000 in
theorem lifted (os : Os) (started : os.Started) (H : Type) (enc : TypeId × Value → H) :
    ReturnsInHanded {} Try.checked os 8 .any (Rows.trackBeginsSpec.pre6 enc Try.prog Try.f8 Rows.trackBeginsRow.domain false) (Rows.trackBeginsSpec.post enc Try.prog Try.f8 false true false false) := by
  refine returnsInHanded_of_change (C := Try.checked) own started (by kernel_rfl) Try.func8
    (ChangeSpec.witness6 (enc := enc) (C := Try.checked) false ⟨#[], #[Value.int .u8 0, Value.int .u8 0], []⟩ 12 (by kernel_rfl) (by kernel_rfl) (by kernel_rfl) (by kernel_rfl)) ?_
  intro W base args ds gs before hval0 hW hcnd _
  have hval : ∀ (j : Nat) t v, Try.f8.params[j]? = some t → args[j]? = some v → Value.okWide Try.prog W .any base t v := hval0
  have hW' := hW
  obtain ⟨p, q, hA0, hV, rfl, hfz, hnd⟩ := hW
  have hA : DataW.TrodAll enc Try.prog W 0 (fun _ => true) true Try.f8.params.toList args.toList ds p := hA0
  rw [Try.params8] at hA hval
  obtain ⟨v0, vs0, d0, ds0, p0, q0, hargs, rfl, rfl, h0, r0⟩ := trodAll_cons hA
  obtain ⟨v1, vs1, d1, ds1, p1, q1, rfl, rfl, rfl, h1, r1⟩ := trodAll_cons r0
  obtain ⟨rfl, rfl, rfl⟩ := trodAll_nil r1
  obtain rfl : args = #[v0, v1] := by cases args; simp_all
  obtain ⟨rfl, rfl⟩ := trodVars_none hV
  have k0 := h0
  have lt0 : ∀ x ∈ p0, x.block < W.heap.size := by obtain ⟨m, hm⟩ := k0; exact DataW.trod_lt m _ _ _ hm
  obtain ⟨a, rfl, rfl, rfl, wf0⟩ := open_int Try.underlying5 (hval 0 5 v0 rfl rfl) h0
  have bd0 := bounds_u8 wf0
  have k1 := h1
  have lt1 : ∀ x ∈ p1, x.block < W.heap.size := by obtain ⟨m, hm⟩ := k1; exact DataW.trod_lt m _ _ _ hm
  obtain ⟨b, rfl, rfl, rfl, wf1⟩ := open_int Try.underlying5 (hval 1 5 v1 rfl rfl) h1
  have bd1 := bounds_u8 wf1
  clear hA0 hval0
  refine Calls.mono ((law a b bd0 bd1) ▸ trackBegins_c a b W) fun e W' ⟨he, bel⟩ => ?_
  subst he
  exact ⟨_, rfl, _, _, _, [], _, [], hW', trodAll_mk1 (shut_bool Try.underlying4 _), (trodAll_cons_mk (Below.trod laidOut (by kernel_rfl) (of_decide_eq_true (by kernel_rfl)) k0 bel lt0) (trodAll_cons_mk (Below.trod laidOut (by kernel_rfl) (of_decide_eq_true (by kernel_rfl)) k1 bel lt1) trodAll_mk0)), rfl, bel.frame _, fun h => by cases h⟩

theorem over : Rows.trackBeginsRow.holds Try.pinned (OpenSpec.ofChange Rows.trackBeginsSpec) :=
  OpenClaim.holds_of_wide 8 Try.f8 rfl rfl rfl rfl rfl rfl rfl ⟨rfl, rfl, rfl, rfl, rfl⟩ rfl rfl rfl rfl rfl (by kernel_rfl) Try.func8 (by kernel_rfl)
    (of_decide_eq_true (by kernel_rfl)) (by unfold Func.isWrapper; first | (rw [if_pos (by decide +kernel)]; kernel_rfl) | (rw [if_neg (by decide +kernel)]; exact ⟨rfl, rfl⟩))
    (fun os started H enc _ => lifted os started H enc)

theorem proved : Rows.TrackBeginsSaid :=
  over
end Go.Proofs.Ytegdeobjfdiilaa.TrackBegins
