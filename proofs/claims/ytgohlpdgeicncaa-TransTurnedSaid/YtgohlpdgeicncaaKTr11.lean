import Derived.Test.YtgohlpdgeicncaaKTr10
import Derived.Test.YtgohlpdgeicncaaKTr8
set_option linter.unusedVariables false
set_option linter.unusedSimpArgs false
set_option maxRecDepth 20000
namespace Go.Proofs.Ytgohlpdgeicncaa.Oct
open Go.RowKit Base
attribute [local irreducible] Ys Yc Ht HtS HtIn Wl Wd W Mem pf dpf Wa Wo
theorem fd_seal0 (S : Nat) : fd (S + (65535 - fd S)) = 65535 := by
  unfold fd
  split <;> split <;> omega
theorem seal_zero0 {pre zs : List UInt8} (hp : pre.length % 2 = 0) : cks (pre ++ (be 2 (cks (pre ++ (be 2 0 ++ zs))) ++ zs)) = 0 := by
  have h0 := pw_mid (pre := pre) (zs := zs) (n := 0) hp ma3
  have hc := cks_le (pre ++ (be 2 0 ++ zs))
  have h1 := pw_mid (pre := pre) (zs := zs) hp (show cks (pre ++ (be 2 0 ++ zs)) < 65536 by omega)
  have hS : cks (pre ++ (be 2 0 ++ zs)) = 65535 - fd ((pw pre).sum + (pw zs).sum) := by unfold cks; rw [h0, Nat.add_zero]
  have h2 := fd_seal0 ((pw pre).sum + (pw zs).sum)
  rw [hS] at h1 ⊢
  unfold cks
  rw [h1, show (pw pre).sum + (65535 - fd ((pw pre).sum + (pw zs).sum)) + (pw zs).sum = (pw pre).sum + (pw zs).sum + (65535 - fd ((pw pre).sum + (pw zs).sum)) by omega, h2]
theorem tX_zero (s d fr to sq ak : Nat) (fl : UInt8) (wi ur : Nat) (os xs : List UInt8) : cks (psh s d 6 (20 + (os.length + xs.length)) ++ tX fr to sq ak fl wi (tC s d fr to sq ak fl wi ur os xs) ur os xs) = 0 := by
  have e : ∀ m, psh s d 6 (20 + (os.length + xs.length)) ++ tX fr to sq ak fl wi m ur os xs = (psh s d 6 (20 + (os.length + xs.length)) ++ (be 2 fr ++ be 2 to ++ be 4 sq ++ be 4 ak ++ [ho os.length, fl] ++ be 2 wi)) ++ (be 2 m ++ (be 2 ur ++ (os ++ xs))) := fun m => by
    rw [tX_mid]; exact (List.append_assoc _ _ _).symm
  have hc : tC s d fr to sq ak fl wi ur os xs = cks ((psh s d 6 (20 + (os.length + xs.length)) ++ (be 2 fr ++ be 2 to ++ be 4 sq ++ be 4 ak ++ [ho os.length, fl] ++ be 2 wi)) ++ (be 2 0 ++ (be 2 ur ++ (os ++ xs)))) := by unfold tC; rw [e 0]
  rw [e, hc]
  exact seal_zero0 (by simp [psh_len, be_len])
theorem tX_K {fr to sq ak : Nat} {fl : UInt8} {wi m ur : Nat} {os xs : List UInt8} (h : ¬ (40 < os.length ∨ os.length % 4 ≠ 0)) : tK (tX fr to sq ak fl wi m ur os xs) = 20 + os.length := by
  show 4 * ((ho os.length).toNat / 16) = _
  unfold ho; rw [UInt8.toNat_ofNat']; omega
theorem tB_ok {o n : Nat} (h : tE o n = 0) : ¬ (40 < o ∨ o % 4 ≠ 0) ∧ ¬ 1460 < o + n := by
  unfold tE at h
  split at h
  · cases h
  · split at h
    · cases h
    · exact ⟨by assumption, by assumption⟩
end Go.Proofs.Ytgohlpdgeicncaa.Oct
