import Derived.Test.YtgohlpdgeicncaaKTr4
set_option linter.unusedVariables false
set_option linter.unusedSimpArgs false
set_option maxRecDepth 20000
namespace Go.Proofs.Ytgohlpdgeicncaa.Oct
open Go.RowKit Base
attribute [local irreducible] Ys Yc Ht HtS HtIn Wl Wd W Mem pf dpf Wa Wo
def asum (s d : Nat) : Nat := s / 65536 + s % 65536 + d / 65536 + d % 65536
theorem pw_psh {s d n : Nat} {pr : UInt8} (hs : s < 4294967296) (hd : d < 4294967296) (hn : n < 65536) : (pw (psh s d pr n)).sum = asum s d + pr.toNat + n := by
  have e : pw (psh s d pr n) = [(UInt8.ofNat (s / 256 / 256 / 256)).toNat * 256 + (UInt8.ofNat (s / 256 / 256)).toNat, (UInt8.ofNat (s / 256)).toNat * 256 + (UInt8.ofNat s).toNat, (UInt8.ofNat (d / 256 / 256 / 256)).toNat * 256 + (UInt8.ofNat (d / 256 / 256)).toNat, (UInt8.ofNat (d / 256)).toNat * 256 + (UInt8.ofNat d).toNat, (0 : UInt8).toNat * 256 + pr.toNat, (UInt8.ofNat (n / 256)).toNat * 256 + (UInt8.ofNat n).toNat] := rfl
  rw [e]
  unfold asum
  simp only [List.sum_cons, List.sum_nil, UInt8.toNat_ofNat']
  have h0 : (0 : UInt8).toNat = 0 := rfl
  rw [h0]
  omega
theorem fd_full (S : Nat) : 65535 - fd S = 0 ↔ 0 < S ∧ S % 65535 = 0 := by
  unfold fd; split <;> omega
theorem cks_psh {s d n : Nat} {pr : UInt8} {zs : List UInt8} (hs : s < 4294967296) (hd : d < 4294967296) (hn : n < 65536) : cks (psh s d pr n ++ zs) = 65535 - fd (asum s d + pr.toNat + n + (pw zs).sum) := by
  unfold cks; rw [pw_app _ _ (by rw [psh_len]), List.sum_append, pw_psh hs hd hn]
theorem cks_other {s d s2 d2 n : Nat} {pr : UInt8} {zs : List UInt8} (hs : s < 4294967296) (hd : d < 4294967296) (hs2 : s2 < 4294967296) (hd2 : d2 < 4294967296) (hn : n < 65536) (hp : 0 < pr.toNat) (h : cks (psh s d pr n ++ zs) = 0) :
    cks (psh s2 d2 pr n ++ zs) = 0 ↔ asum s d % 65535 = asum s2 d2 % 65535 := by
  rw [cks_psh hs hd hn, fd_full] at h
  rw [cks_psh hs2 hd2 hn, fd_full]
  omega
end Go.Proofs.Ytgohlpdgeicncaa.Oct
