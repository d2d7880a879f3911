import Derived.Test.YtgohlpdgeicncaaKOct3
set_option linter.unusedVariables false
set_option linter.unusedSimpArgs false
set_option maxRecDepth 20000
namespace Go.Proofs.Ytgohlpdgeicncaa.Oct
open Go.RowKit Base
attribute [local irreducible] Ys Yc Ht HtS HtIn Wl Wd W Mem pf dpf
theorem eOut_k {X : List UInt8} {j k : Nat} (h : j + k ≤ X.length) : eOut (X.drop j) (k : Int) = (X.drop j).take k := by
  rw [eOut_t (by rw [asked_nat, List.length_drop]; omega), asked_nat]
theorem eRest_k {X : List UInt8} {j k : Nat} (h : j + k ≤ X.length) : eRest (X.drop j) (k : Int) = X.drop (j + k) := by
  rw [eRest_t (by rw [asked_nat, List.length_drop]; omega), asked_nat, List.drop_drop]
theorem eBad_k {X : List UInt8} {j k : Nat} {bad : Bool} (h : j + k ≤ X.length) : eBad (X.drop j) bad (k : Int) = bad := eBad_t (by rw [asked_nat, List.length_drop]; omega)
theorem numk_c (X : List UInt8) (a : Option Addr) (len cap : Nat) (bad : Bool) (b j k : Nat) (w : World) (hl : Mem w [b] [[cb b [.slice a len cap, .bool bad] 114]] w) (hat : At w a (byc (X.drop j))) (hn : len = X.length - j) (hjk : j + k ≤ X.length) (hcap : len ≤ cap) (hy : X.length ≤ 70368744177664) (hk8 : k ≤ 8) :
    Calls Try.prog 51 #[.pointer (some ⟨b, 0, none⟩), .int .i64 (k : Int)] w (RetM w (fun x : EV => View x.a (X.drop (j + k)) a (X.drop j) ∧ X.length - (j + k) ≤ x.cap) (fun x => .int .u64 (bv ((X.drop j).take k) : Int)) [b] (fun x => [[cb b [.slice x.a (X.length - (j + k)) x.cap, .bool bad] 114]])) := by
  have hlen : len = (X.drop j).length := by rw [List.length_drop]; omega
  have h8 : size8 (k : Int) = k := by unfold size8 imin imax; repeat (first | omega | split)
  refine (enumn_c (X.drop j) a len cap bad b (k : Int) w hlen hl hat ma1 ma1).mono ?_
  rw [h8]
  rintro e w' ⟨x, ⟨h2, h3⟩, rfl, h4⟩
  rw [eRest_k hjk] at h2 h3
  refine ⟨x, ⟨h2, by rw [List.length_drop] at h3; exact h3⟩, by dsimp only; rw [eOut_k hjk], ?_⟩
  dsimp only at h4 ⊢
  rw [eRest_k hjk, eBad_k hjk, List.length_drop] at h4
  exact h4
end Go.Proofs.Ytgohlpdgeicncaa.Oct
