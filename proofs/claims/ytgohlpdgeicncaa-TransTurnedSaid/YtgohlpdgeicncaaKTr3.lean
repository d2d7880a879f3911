import Derived.Test.YtgohlpdgeicncaaKTr2
set_option linter.unusedVariables false
set_option linter.unusedSimpArgs false
set_option maxRecDepth 20000
namespace Go.Proofs.Ytgohlpdgeicncaa.Oct
open Go.RowKit Base
attribute [local irreducible] Ys Yc Ht HtS HtIn Wl Wd W Mem pf dpf Wa Wo
def w2 (xs : List UInt8) (k : Nat) : Nat := 256 * (xs.getD k 0).toNat + (xs.getD (k + 1) 0).toNat
theorem w2_lt (xs : List UInt8) (k : Nat) : w2 xs k < 65536 := by
  unfold w2; have := UInt8.toNat_lt (xs.getD k 0); have := UInt8.toNat_lt (xs.getD (k + 1) 0); omega
theorem bv_w2 {xs : List UInt8} {k : Nat} (h : k + 2 ≤ xs.length) : bv ((xs.drop k).take 2) = w2 xs k := by
  have e : (xs.drop k).take 2 = [xs.getD k 0, xs.getD (k + 1) 0] := by
    apply List.ext_getElem?
    intro j
    rcases j with _ | _ | j
    · simp [List.getElem?_take, List.getElem?_drop, List.getElem?_eq_getElem (show k < xs.length by omega)]
    · simp [List.getElem?_take, List.getElem?_drop, List.getElem?_eq_getElem (show k + 1 < xs.length by omega)]
    · simp; omega
  rw [e]; unfold w2; simp [bv]; omega
theorem numk2_c (X : List UInt8) (a : Option Addr) (len cap : Nat) (bad : Bool) (b j k : Nat) (w : World) (hl : Mem w [b] [[cb b [.slice a len cap, .bool bad] 114]] w) (hat : At w a (byc (X.drop j))) (hn : len = X.length - j) (hjk : j + k ≤ X.length) (hcap : len ≤ cap) (hy : X.length ≤ 70368744177664) (hk8 : k ≤ 8) (h2 : k = 2 := by rfl) :
    Calls Try.prog 51 #[.pointer (some ⟨b, 0, none⟩), .int .i64 (k : Int)] w (RetM w (fun x : EV => View x.a (X.drop (j + k)) a (X.drop j) ∧ X.length - (j + k) ≤ x.cap) (fun x => .int .u64 (w2 X j : Int)) [b] (fun x => [[cb b [.slice x.a (X.length - (j + k)) x.cap, .bool bad] 114]])) := by
  have h := numk_c X a len cap bad b j k w hl hat hn hjk hcap hy hk8
  subst h2
  rw [bv_w2 hjk] at h
  exact h
theorem bnd_ok {n k : Nat} (h : (bnd n k != 0) = false) : k ≤ n ∧ n ≤ 1480 := by
  unfold bnd at h
  split at h
  · cases h
  · split at h
    · cases h
    · omega
end Go.Proofs.Ytgohlpdgeicncaa.Oct
