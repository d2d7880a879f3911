/-
  The document's eye. No condition.
-/
import Derived.Test.YtnhmajdpjapgjaaOct2
set_option linter.unusedVariables false
set_option linter.unusedSimpArgs false
set_option maxRecDepth 20000
namespace Go.Proofs.Ytnhmajdpjapgjaa.Oct
open Go.RowKit Base
attribute [local irreducible] Ys Yc Ht HtIn Wl Wd W Mem pf dpf

theorem reye_ne (v : Value) (x : UInt8) (h : (match v with | .int .u8 _ => false | _ => true) = true) : v ≠ b8 x := fun e => by subst e; cases h
theorem reye_apart {w : World} {b len cap i : Nat} {a a' : Option Addr} {bad : Bool} {ys : List UInt8} {t : TypeId} (hl : Mem w [b] [[cb b [.slice a' len cap, .int .i64 ((i : Nat) : Int), .bool bad] t]] w) (hat : At w a (byc ys)) : 0 < (byc ys).length → (a.getD default).block ∉ [b] := fun h0 => by
  have hb := hl.at (i := 0) (j := 0) (p := cb b [.slice a' len cap, .int .i64 ((i : Nat) : Int), .bool bad] t) rfl rfl
  have := hat.ne (b := b) (cs := [.slice a' len cap, .int .i64 ((i : Nat) : Int), .bool bad]) hb (fun v hv x => reye_ne v x (by
    rcases List.mem_cons.1 hv with rfl | hv
    · rfl
    · rcases List.mem_cons.1 hv with rfl | hv
      · rfl
      · obtain rfl := List.mem_singleton.1 hv; rfl)) h0
  simpa using this
/-- Where the document's eye looks behind a reading. -/
def rI (xs : List UInt8) (i : Nat) (n : Int) : Nat := if asked n ≤ xs.length - i then i + asked n else xs.length
theorem rI_le {xs : List UInt8} {i : Nat} (n : Int) (hi : i ≤ xs.length) : rI xs i n ≤ xs.length := by unfold rI; split <;> omega
theorem rI_drop (xs : List UInt8) (i : Nat) (n : Int) : xs.drop (rI xs i n) = eRest (xs.drop i) n := by
  unfold rI eRest
  rw [List.length_drop]
  split
  · rw [List.drop_drop]
  · simp
theorem asked_neg {n : Int} (h : n < 0) : asked n = 0 := by unfold asked imax; split <;> omega
theorem asked_nat (k : Nat) : asked ((k : Nat) : Int) = k := by unfold asked imax; split <;> omega

end Go.Proofs.Ytnhmajdpjapgjaa.Oct
