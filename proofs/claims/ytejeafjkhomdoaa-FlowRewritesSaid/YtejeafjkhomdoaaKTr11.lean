import Derived.Test.YtejeafjkhomdoaaKTr10
import Derived.Test.YtejeafjkhomdoaaKTr8
set_option linter.unusedVariables false
set_option linter.unusedSimpArgs false
set_option maxRecDepth 20000
namespace Go.Proofs.Ytejeafjkhomdoaa.Oct
open Go.RowKit Base
attribute [local irreducible] Ys Yc Ht HtS HtIn Wl Wd W Mem pf dpf Wa Wo
theorem bv_be4' {re : Nat} (h : re < 4294967296) : bv (be 4 re) = re := by
  have key : ∀ (k n : Nat), bv (be k n) = n % 256 ^ k := by
    intro k
    induction k with
    | zero => intro n; rw [be, Nat.pow_zero, Nat.mod_one]; rfl
    | succ k ih =>
      intro n
      have h1 : n % 256 ^ (k + 1) = n % 256 + 256 * (n / 256 % 256 ^ k) := by rw [Nat.pow_succ, Nat.mul_comm (256 ^ k) 256, Nat.mod_mul]
      rw [be, bv_snoc, ih, UInt8.toNat_ofNat', h1]
      show _ + n % 256 = _
      omega
  rw [key]; exact Nat.mod_eq_of_lt h
theorem fd_seal0 (S : Nat) : fd (S + (65535 - fd S)) = 65535 := by
  unfold fd
  split <;> split <;> omega
theorem seal_zero0 {pre zs : List UInt8} (hp : pre.length % 2 = 0) : cks (pre ++ (be 2 (cks (pre ++ (be 2 0 ++ zs))) ++ zs)) = 0 := by
  have h0 := pw_mid (pre := pre) (zs := zs) (n := 0) hp ma3
  have hc := cks_le (pre ++ (be 2 0 ++ zs))
  have h1 := pw_mid (pre := pre) (zs := zs) hp (show cks (pre ++ (be 2 0 ++ zs)) < 65536 by omega)
  have hS : cks (pre ++ (be 2 0 ++ zs)) = 65535 - fd ((pw pre).sum + (pw zs).sum) := by unfold cks; rw [h0, Nat.add_zero]
  have h2 := fd_seal0 ((pw pre).sum + (pw zs).sum)
  rw [hS] at h1 ⊢
  unfold cks
  rw [h1, show (pw pre).sum + (65535 - fd ((pw pre).sum + (pw zs).sum)) + (pw zs).sum = (pw pre).sum + (pw zs).sum + (65535 - fd ((pw pre).sum + (pw zs).sum)) by omega, h2]
theorem tX_zero (s d fr to sq ak : Nat) (fl : UInt8) (wi ur : Nat) (os xs : List UInt8) : cks (psh s d 6 (20 + (os.length + xs.length)) ++ tX fr to sq ak fl wi (tC s d fr to sq ak fl wi ur os xs) ur os xs) = 0 := by
  have e : ∀ m, psh s d 6 (20 + (os.length + xs.length)) ++ tX fr to sq ak fl wi m ur os xs = (psh s d 6 (20 + (os.length + xs.length)) ++ (be 2 fr ++ be 2 to ++ be 4 sq ++ be 4 ak ++ [ho os.length, fl] ++ be 2 wi)) ++ (be 2 m ++ (be 2 ur ++ (os ++ xs))) := fun m => by
    rw [tX_mid]; exact (List.append_assoc _ _ _).symm
  have hc : tC s d fr to sq ak fl wi ur os xs = cks ((psh s d 6 (20 + (os.length + xs.length)) ++ (be 2 fr ++ be 2 to ++ be 4 sq ++ be 4 ak ++ [ho os.length, fl] ++ be 2 wi)) ++ (be 2 0 ++ (be 2 ur ++ (os ++ xs)))) := by unfold tC; rw [e 0]
  rw [e, hc]
  exact seal_zero0 (by simp [psh_len, be_len])
theorem tX_K {fr to sq ak : Nat} {fl : UInt8} {wi m ur : Nat} {os xs : List UInt8} (h : ¬ (40 < os.length ∨ os.length % 4 ≠ 0)) : tK (tX fr to sq ak fl wi m ur os xs) = 20 + os.length := by
  show 4 * ((ho os.length).toNat / 16) = _
  unfold ho; rw [UInt8.toNat_ofNat']; omega
theorem tX_w (fr to sq ak : Nat) (fl : UInt8) (wi m ur : Nat) (os xs : List UInt8) (hf : fr < 65536) (ht : to < 65536) (hw : wi < 65536) (hu : ur < 65536) : w2 (tX fr to sq ak fl wi m ur os xs) 0 = fr ∧ w2 (tX fr to sq ak fl wi m ur os xs) 2 = to ∧ w2 (tX fr to sq ak fl wi m ur os xs) 14 = wi ∧ w2 (tX fr to sq ak fl wi m ur os xs) 18 = ur :=
  ⟨two_back hf, two_back ht, two_back hw, two_back hu⟩
theorem tX_4 (fr to sq ak : Nat) (fl : UInt8) (wi m ur : Nat) (os xs : List UInt8) : ((tX fr to sq ak fl wi m ur os xs).drop 4).take 4 = be 4 sq ∧ ((tX fr to sq ak fl wi m ur os xs).drop 8).take 4 = be 4 ak ∧ (tX fr to sq ak fl wi m ur os xs).getD 13 0 = fl ∧ (tX fr to sq ak fl wi m ur os xs).drop 20 = os ++ xs := ⟨rfl, rfl, rfl, rfl⟩
theorem tB_ok {o n : Nat} (h : tE o n = 0) : ¬ (40 < o ∨ o % 4 ≠ 0) ∧ ¬ 1460 < o + n := by
  unfold tE at h
  split at h
  · cases h
  · split at h
    · cases h
    · exact ⟨by assumption, by assumption⟩
theorem seg_back {s d fr to sq ak : Nat} {fl : UInt8} {wi ur : Nat} {os xs : List UInt8} (hf : fr < 65536) (ht : to < 65536) (hq : sq < 4294967296) (hk : ak < 4294967296) (hw : wi < 65536) (hu : ur < 65536) (h : tE os.length xs.length = 0) :
    ∃ X, X = tB s d fr to sq ak fl wi ur os xs ∧ tR s d X = 0 ∧ tF s d X 0 = fr ∧ tF s d X 2 = to ∧ tW s d X 4 = sq ∧ tW s d X 8 = ak ∧ tL s d X = fl ∧ tF s d X 14 = wi ∧ tF s d X 18 = ur ∧ tO s d X = os ∧ tD s d X = xs := by
  obtain ⟨h1, h2⟩ := tB_ok h
  have hz := tX_zero s d fr to sq ak fl wi ur os xs
  refine ⟨_, rfl, ?_⟩
  have hB : tB s d fr to sq ak fl wi ur os xs = tX fr to sq ak fl wi (tC s d fr to sq ak fl wi ur os xs) ur os xs := by unfold tB; rw [if_neg h1, if_neg h2]
  rw [hB]
  obtain ⟨m, hm⟩ : ∃ m, m = tC s d fr to sq ak fl wi ur os xs := ⟨_, rfl⟩
  rw [← hm] at hz ⊢
  have hl := tX_len fr to sq ak fl wi m ur os xs
  have hK := tX_K (fr := fr) (to := to) (sq := sq) (ak := ak) (fl := fl) (wi := wi) (m := m) (ur := ur) (xs := xs) h1
  obtain ⟨a0, a2, a14, a18⟩ := tX_w fr to sq ak fl wi m ur os xs hf ht hw hu
  obtain ⟨b4, b8, b13, b20⟩ := tX_4 fr to sq ak fl wi m ur os xs
  obtain ⟨X, hX⟩ : ∃ X, X = tX fr to sq ak fl wi m ur os xs := ⟨_, rfl⟩
  rw [← hX] at hz hl hK a0 a2 a14 a18 b4 b8 b13 b20 ⊢
  have hR : tR s d X = 0 := by unfold tR; rw [if_neg ma1, if_neg ma1, if_neg ma1, if_neg (by rw [hl]; simp [hz])]
  have hG : tg s d X = true := by unfold tg; rw [hR]; rfl
  refine ⟨hR, ?_, ?_, ?_, ?_, ?_, ?_, ?_, ?_, ?_⟩
  · unfold tF; rw [hG, a0]; rfl
  · unfold tF; rw [hG, a2]; rfl
  · unfold tW; rw [hG, b4, bv_be4' hq]; rfl
  · unfold tW; rw [hG, b8, bv_be4' hk]; rfl
  · unfold tL; rw [hG, b13]; rfl
  · unfold tF; rw [hG, a14]; rfl
  · unfold tF; rw [hG, a18]; rfl
  · unfold tO; rw [hG, b20, hK, show 20 + os.length - 20 = os.length by omega]; simp only [cond_true]; exact List.take_left ..
  · unfold tD; rw [hG, hK, ← List.drop_drop, b20]; simp only [cond_true]; exact List.drop_left ..
end Go.Proofs.Ytejeafjkhomdoaa.Oct
