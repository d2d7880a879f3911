/-
  The plain mathematics of nets: an address's bits ahead of and behind a net's size. No condition.
-/
import Derived.Test.YtjkhmbigoloeiaaJOBase
set_option linter.unusedVariables false
set_option linter.unusedSimpArgs false
namespace Go.Proofs.Ytjkhmbigoloeiaa.Conf
open Go.RowKit Obase
def within (a b bits : Int) : Bool := ishr .u32 (bxor .u32 a b) (32 - imin (imax bits 0) 32) == 0
def inner (a bits : Int) : Bool :=
  bif imin (imax bits 0) 32 == 32 then true else
  (band .u32 a (ishr .u32 4294967295 (imin (imax bits 0) 32)) != 0) && (band .u32 a (ishr .u32 4294967295 (imin (imax bits 0) 32)) != ishr .u32 4294967295 (imin (imax bits 0) 32))
def bitA (a : Int) (j : Nat) : Int := band .u32 (ishr .u32 a (31 - (j : Int))) 1
theorem wrap32_nat {x : Nat} (h : x < 4294967296) : IntKind.u32.wrap (x : Int) = (x : Int) := wrap_u32 om om
theorem ofInt32 (x : Nat) : BitVec.ofInt 32 (x : Int) = BitVec.ofNat 32 x := by simp
theorem band32 (x y : Nat) (hx : x < 4294967296) (hy : y < 4294967296) : band .u32 (x : Int) (y : Int) = ((x &&& y : Nat) : Int) := by
 unfold band
 have h1 : (BitVec.ofInt IntKind.u32.bits (x : Int) &&& BitVec.ofInt IntKind.u32.bits (y : Int)).toNat = x &&& y := by
  show (BitVec.ofInt 32 (x : Int) &&& BitVec.ofInt 32 (y : Int)).toNat = _
  rw [ofInt32, ofInt32, BitVec.toNat_and, BitVec.toNat_ofNat, BitVec.toNat_ofNat, Nat.mod_eq_of_lt hx, Nat.mod_eq_of_lt hy]
 rw [h1]
 exact wrap32_nat (Nat.lt_of_le_of_lt Nat.and_le_left hx)
theorem bxor32 (x y : Nat) (hx : x < 4294967296) (hy : y < 4294967296) : bxor .u32 (x : Int) (y : Int) = ((x ^^^ y : Nat) : Int) := by
 unfold bxor
 have h1 : (BitVec.ofInt IntKind.u32.bits (x : Int) ^^^ BitVec.ofInt IntKind.u32.bits (y : Int)).toNat = x ^^^ y := by
  show (BitVec.ofInt 32 (x : Int) ^^^ BitVec.ofInt 32 (y : Int)).toNat = _
  rw [ofInt32, ofInt32, BitVec.toNat_xor, BitVec.toNat_ofNat, BitVec.toNat_ofNat, Nat.mod_eq_of_lt hx, Nat.mod_eq_of_lt hy]
 rw [h1]
 exact wrap32_nat (Nat.xor_lt_two_pow (n := 32) hx hy)
theorem ishr32 (x s : Nat) (hs : s ≤ 32) : ishr .u32 (x : Int) (s : Int) = ((x >>> s : Nat) : Int) := by
 unfold ishr
 have e : min ((s : Int).toNat) IntKind.u32.bits = s := by simp [IntKind.bits]; omega
 rw [e, Nat.shiftRight_eq_div_pow]
 have h2 : ((2 : Int) ^ s) = ((2 ^ s : Nat) : Int) := by simp
 rw [h2, Int.fdiv_eq_ediv_of_nonneg _ (Int.natCast_nonneg _)]
 rfl
theorem bitA_nat (x j : Nat) (hx : x < 4294967296) (hj : j < 32) : bitA (x : Int) j = ((x.testBit (31 - j)).toNat : Nat) := by
 unfold bitA
 rw [show (31 - (j : Int)) = ((31 - j : Nat) : Int) by omega, ishr32 x (31 - j) om]
 have h1 : x >>> (31 - j) < 4294967296 := Nat.lt_of_le_of_lt (Nat.shiftRight_le _ _) hx
 rw [show (1 : Int) = ((1 : Nat) : Int) by rfl, band32 _ 1 h1 de]
 congr 1
 rw [Nat.testBit]
 rw [Nat.and_one_is_mod]
 have h2 : 1 &&& x >>> (31 - j) = (x >>> (31 - j)) % 2 := by rw [Nat.and_comm, Nat.and_one_is_mod]
 rw [h2]
 rcases Nat.mod_two_eq_zero_or_one (x >>> (31 - j)) with h | h <;> rw [h] <;> rfl
theorem shiftRight_zero_iff (x s : Nat) : x >>> s = 0 ↔ ∀ i, s ≤ i → x.testBit i = false := by
 constructor
 ·intro h i hi
  have : (x >>> s).testBit (i - s) = false := by rw [h]; simp
  rw [Nat.testBit_shiftRight] at this
  rwa [show s + (i - s) = i by omega] at this
 ·intro h
  apply Nat.eq_of_testBit_eq
  intro i
  rw [Nat.testBit_shiftRight, h _ om]
  simp
theorem testBit_big {x i : Nat} (hx : x < 4294967296) (hi : 32 ≤ i) : x.testBit i = false :=
  Nat.testBit_lt_two_pow (Nat.lt_of_lt_of_le hx (by rw [show (4294967296 : Nat) = 2 ^ 32 by decide]; exact Nat.pow_le_pow_right de hi))
theorem within_iff (a b : Int) (bits : Int) (ha : 0 ≤ a ∧ a ≤ 4294967295) (hb : 0 ≤ b ∧ b ≤ 4294967295) : within a b bits = true ↔ ∀ j : Nat, j < 32 → (j : Int) < bits → bitA a j = bitA b j := by
 obtain ⟨x, rfl⟩ := Int.eq_ofNat_of_zero_le ha.1
 obtain ⟨y, rfl⟩ := Int.eq_ofNat_of_zero_le hb.1
 have hx : x < 4294967296 := by omega
 have hy : y < 4294967296 := by omega
 have hm1 := imax_bd bits 0
 have hm2 := imin_bd (imax bits 0) 32
 unfold within
 generalize imin (imax bits 0) 32 = m at *
 generalize imax bits 0 = q at *
 obtain ⟨s, hs⟩ : ∃ s : Nat, 32 - m = (s : Int) := Int.eq_ofNat_of_zero_le om
 rw [hs, bxor32 x y hx hy, ishr32 _ s om, beq_iff_eq]
 rw [show ((((x ^^^ y) >>> s : Nat) : Int) = 0) ↔ ((x ^^^ y) >>> s = 0) by omega, shiftRight_zero_iff]
 constructor
 ·intro h j hj hjb
  rw [bitA_nat x j hx hj, bitA_nat y j hy hj]
  have := h (31 - j) om
  rw [Nat.testBit_xor] at this
  have e : x.testBit (31 - j) = y.testBit (31 - j) := by
   cases h1 : x.testBit (31 - j) <;> cases h2 : y.testBit (31 - j) <;> simp_all
  rw [e]
 ·intro h i hi
  by_cases hi2 : 32 ≤ i
  ·rw [Nat.testBit_xor, testBit_big hx hi2, testBit_big hy hi2]; rfl
  ·have := h (31 - i) om om
   rw [bitA_nat x _ hx om, bitA_nat y _ hy om, show 31 - (31 - i) = i by omega] at this
   rw [Nat.testBit_xor]
   cases h1 : x.testBit i <;> cases h2 : y.testBit i <;> simp_all
def cnt (bits : Int) : Nat → Nat
  | 0 => 0
  | k + 1 => bif decide ((k : Int) < bits) then cnt bits k else cnt bits k + 1
def zs (a bits : Int) : Nat → Bool
  | 0 => true
  | k + 1 => bif decide ((k : Int) < bits) then zs a bits k else bif bitA a k == 1 then false else zs a bits k
def os (a bits : Int) : Nat → Bool
  | 0 => true
  | k + 1 => bif decide ((k : Int) < bits) then os a bits k else bif bitA a k == 1 then os a bits k else false
theorem cnt_succ (bits : Int) (k : Nat) : cnt bits (k + 1) = bif decide ((k : Int) < bits) then cnt bits k else cnt bits k + 1 := rfl
theorem zs_succ (a bits : Int) (k : Nat) : zs a bits (k + 1) = bif decide ((k : Int) < bits) then zs a bits k else bif bitA a k == 1 then false else zs a bits k := rfl
theorem os_succ (a bits : Int) (k : Nat) : os a bits (k + 1) = bif decide ((k : Int) < bits) then os a bits k else bif bitA a k == 1 then os a bits k else false := rfl
theorem cnt_zero (bits : Int) : ∀ k : Nat, cnt bits k = 0 ↔ ∀ j : Nat, j < k → (j : Int) < bits
  | 0 => by simp [cnt]
  | k + 1 => by
    have ih := cnt_zero bits k
    unfold cnt
    by_cases h : (k : Int) < bits
    · simp only [h, decide_true, cond_true, ih]
      exact ⟨fun h2 j hj => by rcases Nat.lt_succ_iff_lt_or_eq.1 hj with hj | rfl; exact h2 j hj; exact h, fun h2 j hj => h2 j om⟩
    · simp only [h, decide_false, cond_false]
      exact ⟨fun h2 => by omega, fun h2 => absurd (h2 k om) h⟩
theorem zs_true (a bits : Int) : ∀ k : Nat, zs a bits k = true ↔ ∀ j : Nat, j < k → bits ≤ (j : Int) → bitA a j ≠ 1
  | 0 => by simp [zs]
  | k + 1 => by
    have ih := zs_true a bits k
    unfold zs
    by_cases h : (k : Int) < bits
    · simp only [h, decide_true, cond_true, ih]
      exact ⟨fun h2 j hj hb => by rcases Nat.lt_succ_iff_lt_or_eq.1 hj with hj | rfl; exact h2 j hj hb; omega, fun h2 j hj => h2 j om⟩
    · simp only [h, decide_false, cond_false]
      by_cases h1 : bitA a k = 1
      · simp only [h1, beq_self_eq_true, cond_true]
        exact ⟨fun h2 => (by cases h2), fun h2 => absurd h1 (h2 k om om)⟩
      · rw [show (bitA a k == 1) = false by simpa using h1, cond_false, ih]
        exact ⟨fun h2 j hj hb => by rcases Nat.lt_succ_iff_lt_or_eq.1 hj with hj | rfl; exact h2 j hj hb; exact h1, fun h2 j hj => h2 j om⟩
theorem os_true (a bits : Int) : ∀ k : Nat, os a bits k = true ↔ ∀ j : Nat, j < k → bits ≤ (j : Int) → bitA a j = 1
  | 0 => by simp [os]
  | k + 1 => by
    have ih := os_true a bits k
    unfold os
    by_cases h : (k : Int) < bits
    · simp only [h, decide_true, cond_true, ih]
      exact ⟨fun h2 j hj hb => by rcases Nat.lt_succ_iff_lt_or_eq.1 hj with hj | rfl; exact h2 j hj hb; omega, fun h2 j hj => h2 j om⟩
    · simp only [h, decide_false, cond_false]
      by_cases h1 : bitA a k = 1
      · rw [show (bitA a k == 1) = true by simpa using h1, cond_true, ih]
        exact ⟨fun h2 j hj hb => by rcases Nat.lt_succ_iff_lt_or_eq.1 hj with hj | rfl; exact h2 j hj hb; exact h1, fun h2 j hj => h2 j om⟩
      · rw [show (bitA a k == 1) = false by simpa using h1, cond_false]
        exact ⟨fun h2 => (by cases h2), fun h2 => absurd (h2 k om om) h1⟩
theorem inner_eq (a bits : Int) (ha : 0 ≤ a ∧ a ≤ 4294967295) : ((((cnt bits 32 : Nat) : Int) == 0) || ((!(zs a bits 32)) && (!(os a bits 32)))) = inner a bits := by
 obtain ⟨x, rfl⟩ := Int.eq_ofNat_of_zero_le ha.1
 have hx : x < 4294967296 := by omega
 have hm1 := imax_bd bits 0
 have hm2 := imin_bd (imax bits 0) 32
 have hc := cnt_zero bits 32
 have hz := zs_true (x : Int) bits 32
 have ho := os_true (x : Int) bits 32
 unfold inner
 generalize hm : imin (imax bits 0) 32 = m at *
 generalize imax bits 0 = q at *
 by_cases h32 : m = 32
 ·have : cnt bits 32 = 0 := hc.2 (fun j hj => by omega)
  rw [this, h32]
  simp
 ·have hcn : ¬ cnt bits 32 = 0 := fun h => by
   have := hc.1 h 31 om
   omega
  rw [show ((((cnt bits 32 : Nat) : Int) == 0)) = false by simp; omega, show (m == 32) = false by simpa using h32, Bool.false_or, cond_false]
  obtain ⟨n, rfl⟩ : ∃ n : Nat, m = (n : Int) := Int.eq_ofNat_of_zero_le om
  have hn : n < 32 := by omega
  rw [show (4294967295 : Int) = ((4294967295 : Nat) : Int) by rfl, ishr32 _ n om]
  have hmask : 4294967295 >>> n < 4294967296 := Nat.lt_of_le_of_lt (Nat.shiftRight_le _ _) de
  rw [band32 x _ hx hmask]
  have hmb : ∀ i, (4294967295 >>> n).testBit i = decide (i < 32 - n) := fun i => by
   rw [Nat.testBit_shiftRight, show (4294967295 : Nat) = 2 ^ 32 - 1 by decide, Nat.testBit_two_pow_sub_one]
   congr 1
   simp; omega
  have hjb : ∀ j : Nat, j < 32 → (bits ≤ (j : Int) ↔ n ≤ j) := fun j hj => by omega
  congr 1
  ·-- some bit behind is 1
   rw [Bool.eq_iff_iff]
   simp only [Bool.not_eq_true', bne_iff_ne, ne_eq]
   rw [← Bool.not_eq_true, hz]
   refine not_congr ?_
   constructor
   ·intro h
    have : x &&& 4294967295 >>> n = 0 := by
     apply Nat.eq_of_testBit_eq
     intro i
     rw [Nat.testBit_and, hmb, Nat.zero_testBit]
     by_cases hi : i < 32 - n
     ·have := h (31 - i) om ((hjb _ om).2 om)
      rw [bitA_nat x _ hx om, show 31 - (31 - i) = i by omega] at this
      cases h1 : x.testBit i <;> simp_all
     ·simp [hi]
    omega
   ·intro h j hj hb
    have h0 : x &&& 4294967295 >>> n = 0 := by omega
    have := congrArg (fun z => z.testBit (31 - j)) h0
    simp only [Nat.testBit_and, hmb, Nat.zero_testBit] at this
    rw [bitA_nat x _ hx hj]
    have hlt : 31 - j < 32 - n := by have := (hjb j hj).1 hb; omega
    cases h1 : x.testBit (31 - j) <;> simp_all
  ·rw [Bool.eq_iff_iff]
   simp only [Bool.not_eq_true', bne_iff_ne, ne_eq]
   rw [← Bool.not_eq_true, ho]
   refine not_congr ?_
   constructor
   ·intro h
    have : x &&& 4294967295 >>> n = 4294967295 >>> n := by
     apply Nat.eq_of_testBit_eq
     intro i
     rw [Nat.testBit_and, hmb]
     by_cases hi : i < 32 - n
     ·have := h (31 - i) om ((hjb _ om).2 om)
      rw [bitA_nat x _ hx om, show 31 - (31 - i) = i by omega] at this
      cases h1 : x.testBit i <;> simp_all
     ·simp [hi]
    omega
   ·intro h j hj hb
    have h0 : x &&& 4294967295 >>> n = 4294967295 >>> n := by omega
    have := congrArg (fun z => z.testBit (31 - j)) h0
    simp only [Nat.testBit_and, hmb] at this
    rw [bitA_nat x _ hx hj]
    have hlt : 31 - j < 32 - n := by have := (hjb j hj).1 hb; omega
    cases h1 : x.testBit (31 - j) <;> simp_all
end Go.Proofs.Ytjkhmbigoloeiaa.Conf
