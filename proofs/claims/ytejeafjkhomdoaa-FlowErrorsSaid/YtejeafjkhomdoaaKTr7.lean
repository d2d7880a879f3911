import Derived.Test.YtejeafjkhomdoaaKTr6
set_option linter.unusedVariables false
set_option linter.unusedSimpArgs false
set_option maxRecDepth 20000
namespace Go.Proofs.Ytejeafjkhomdoaa.Oct
open Go.RowKit Base
attribute [local irreducible] Ys Yc Ht HtS HtIn Wl Wd W Mem pf dpf Wa Wo
theorem wicmpn_c (ty co : UInt8) (re : Nat) (xs : List UInt8) (a : Option Addr) (cap : Nat) (len : Nat) (w : World) (hn : len = xs.length) (hat : At w a (byc xs)) (hr : re < 4294967296) (hl : xs.length ≤ 100000) (hlc : xs.length ≤ cap)  : Calls Try.prog 39 #[Value.agg ([Value.int .u8 (ty.toNat : Int), Value.int .u8 (co.toNat : Int), Value.int .u32 (re : Int), Value.slice a len cap]).toArray] w (RetM w (fun g : FS => g.ok 1 (mB ty co re xs).length) (fun g => .tuple #[.slice g.a (mB ty co re xs).length g.cap, .int .i64 (uE xs.length)]) [] (fun g => [g.seg 5 (byc (mB ty co re xs))])) := by
  subst hn; exact wicmp_c ty co re xs a cap w hat hr hl hlc
theorem rwicmpn_c (ty co : UInt8) (re : Nat) (xs : List UInt8) (a : Option Addr) (cap : Nat) (len : Nat) (w : World) (hn : len = xs.length) (hat : At w a (byc xs)) (hr : re < 4294967296) (hl : xs.length ≤ 9223372036854775807) (hlc : xs.length ≤ cap)  : Calls Try.prog 29 #[Value.agg ([Value.int .u8 (ty.toNat : Int), Value.int .u8 (co.toNat : Int), Value.int .u32 (re : Int), Value.slice a len cap]).toArray] w (RetM w (fun g : FS => g.ok 1 (mB ty co re xs).length) (fun g => .tuple #[.slice g.a (mB ty co re xs).length g.cap, .int .i64 (uE xs.length)]) [] (fun g => [g.seg 5 (byc (mB ty co re xs))])) := by
  subst hn; exact rwicmp_c ty co re xs a cap w hat hr hl hlc
theorem ricmpn_c (xs : List UInt8) (a : Option Addr) (cap : Nat) (len : Nat) (w : World) (hn : len = xs.length) (hat : At w a (byc xs)) (hl : len ≤ 100000) (hlc : len ≤ cap) : Calls Try.prog 36 #[.slice a len cap] w (RetM w (fun g : FS => g.ok 1 (mD xs).length) (fun g => .tuple #[.agg [.int .u8 ((mT xs 0).toNat : Int), .int .u8 ((mT xs 1).toNat : Int), .int .u32 (mN xs : Int), .slice g.a (mD xs).length g.cap].toArray, .int .i64 (mR xs)]) [] (fun g => [g.seg 5 (byc (mD xs))])) := by
  subst hn; exact ricmp_c xs a cap w hat hl hlc
theorem bv_be4 {re : Nat} (h : re < 4294967296) : bv (be 4 re) = re := by rw [bv_be]; exact Nat.mod_eq_of_lt h
theorem msg_back {ty co : UInt8} {re : Nat} {xs : List UInt8} (hr : re < 4294967296) (h1 : uE xs.length = 0) : mR (mB ty co re xs) = 0 ∧ mT (mB ty co re xs) 0 = ty ∧ mT (mB ty co re xs) 1 = co ∧ mN (mB ty co re xs) = re ∧ mD (mB ty co re xs) = xs := by
  have hx : ¬ 1472 < xs.length := by
    unfold uE at h1; split at h1
    · cases h1
    · assumption
  have h0 := mX_zero ty co re xs
  have hB : mB ty co re xs = mX ty co re (mC ty co re xs) xs := by unfold mB; rw [if_neg hx]
  rw [hB]
  obtain ⟨m, hm⟩ : ∃ m, m = mC ty co re xs := ⟨_, rfl⟩
  rw [← hm] at h0 ⊢
  have hl := mX_len ty co re m xs
  have hR : mR (mX ty co re m xs) = 0 := by unfold mR; rw [if_neg ma1, if_neg ma1, if_neg (by simp [h0])]
  have hG : mg (mX ty co re m xs) = true := by unfold mg; rw [hR]; rfl
  refine ⟨hR, ?_, ?_, ?_, ?_⟩
  · unfold mT; rw [hG]; rfl
  · unfold mT; rw [hG]; rfl
  · unfold mN; rw [hG]; simp only [cond_true]
    have e : ((mX ty co re m xs).drop 4).take 4 = be 4 re := rfl
    rw [e]; exact bv_be4 hr
  · unfold mD; rw [hG]; rfl
end Go.Proofs.Ytejeafjkhomdoaa.Oct
