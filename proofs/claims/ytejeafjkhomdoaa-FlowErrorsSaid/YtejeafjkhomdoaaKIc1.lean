import Derived.Test.YtejeafjkhomdoaaKTr7
set_option linter.unusedVariables false
set_option linter.unusedSimpArgs false
set_option maxRecDepth 20000
namespace Go.Proofs.Ytejeafjkhomdoaa.Oct
open Go.RowKit Base
attribute [local irreducible] Ys Yc Ht HtS HtIn Wl Wd W Mem pf dpf Wa Wo
theorem mD_le (xs : List UInt8) : (mD xs).length ≤ 1472 := by
  unfold mD mg; cases h : decide (mR xs = 0)
  · simp
  · have h1 : mR xs = 0 := by simpa using h
    unfold mR at h1
    split at h1
    · cases h1
    · split at h1
      · cases h1
      · simp only [cond_true, List.length_drop]; omega
def anN (b : Bool) (x : Nat) : Nat := bif b then x else 0
theorem anN_lt {b : Bool} {x n : Nat} (h : x < n) : anN b x < n := by unfold anN; cases b <;> simp only [cond_true, cond_false] <;> omega
def iH (tt pr : UInt8) (id s d n : Nat) : List UInt8 := [69, 0] ++ be 2 (20 + n) ++ be 2 id ++ be 2 16384 ++ [tt, pr, 0, 0] ++ be 4 s ++ be 4 d
def iB (tt pr : UInt8) (id s d : Nat) (xs : List UInt8) : List UInt8 := if 1480 < xs.length then [] else sput (iH tt pr id s d xs.length) 10 (cks (iH tt pr id s d xs.length)) ++ xs
def iE (n : Nat) : Int := if 1480 < n then 14 else 0
theorem iH_len (tt pr : UInt8) (id s d n : Nat) : (iH tt pr id s d n).length = 20 := by unfold iH; simp [be_len]
theorem iB_len {tt pr : UInt8} {id s d : Nat} {xs : List UInt8} (h : ¬ 1480 < xs.length) : (iB tt pr id s d xs).length = 20 + xs.length := by
  unfold iB; rw [if_neg h, List.length_append, sput_len (by rw [iH_len]; decide), iH_len]
theorem iB_le (tt pr : UInt8) (id s d : Nat) (xs : List UInt8) : (iB tt pr id s d xs).length ≤ 1500 := by
  by_cases h : 1480 < xs.length
  · unfold iB; rw [if_pos h]; simp
  · rw [iB_len h]; omega
end Go.Proofs.Ytejeafjkhomdoaa.Oct
