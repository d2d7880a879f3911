import Derived.Test.YtegdeobjfdiilaaOConf4
set_option linter.unusedVariables false
set_option linter.unusedSimpArgs false
namespace Go.Proofs.Ytegdeobjfdiilaa.Conf
open Go.RowKit Obase
theorem xz (a b : Nat) : a ^^^ b = 0 ↔ a = b := by
  constructor
  · intro h
    have h2 : (a ^^^ b) ^^^ b = b := by rw [h, Nat.zero_xor]
    rwa [Nat.xor_assoc, Nat.xor_self, Nat.xor_zero] at h2
  · intro h; rw [h, Nat.xor_self]
theorem ones32 : ∀ n : Fin 33, 4294967295 >>> n.val = 2 ^ (32 - n.val) - 1 := by decide +kernel
theorem pk_bd : ∀ n : Fin 31, 4 ≤ 2 ^ (32 - n.val) ∧ 2 ^ (32 - n.val) ≤ 4294967296 := by decide +kernel
theorem bor32 (x y : Nat) (hx : x < 4294967296) (hy : y < 4294967296) : bor .u32 (x : Int) (y : Int) = ((x ||| y : Nat) : Int) := by
  unfold bor
  have h1 : (BitVec.ofInt IntKind.u32.bits (x : Int) ||| BitVec.ofInt IntKind.u32.bits (y : Int)).toNat = x ||| y := by
    show (BitVec.ofInt 32 (x : Int) ||| BitVec.ofInt 32 (y : Int)).toNat = _
    rw [ofInt32, ofInt32, BitVec.toNat_or, BitVec.toNat_ofNat, BitVec.toNat_ofNat, Nat.mod_eq_of_lt hx, Nat.mod_eq_of_lt hy]
  rw [h1]
  exact wrap32_nat (Nat.or_lt_two_pow (n := 32) hx hy)
theorem bandn32 (x k : Nat) (hx : x < 4294967296) (hk : k ≤ 32) : bandn .u32 (x : Int) ((2 ^ k - 1 : Nat) : Int) = ((2 ^ k * (x / 2 ^ k) : Nat) : Int) := by
  have hp : 2 ^ k ≤ 2 ^ 32 := Nat.pow_le_pow_right (by decide) hk
  have hp0 : 0 < 2 ^ k := Nat.two_pow_pos k
  have hy : 2 ^ k - 1 < 2 ^ 32 := by omega
  have key : x &&& (2 ^ 32 - (2 ^ k - 1 + 1)) = 2 ^ k * (x / 2 ^ k) := by
    rw [← Nat.shiftRight_eq_div_pow, Nat.mul_comm, ← Nat.shiftLeft_eq]
    apply Nat.eq_of_testBit_eq
    intro i
    rw [Nat.testBit_and, Nat.testBit_two_pow_sub_succ hy, Nat.testBit_two_pow_sub_one, Nat.testBit_shiftLeft, Nat.testBit_shiftRight]
    by_cases h1 : i < k
    · simp [h1, Nat.not_le.2 h1]
    · rw [show k + (i - k) = i by omega]
      by_cases h2 : i < 32
      · simp [h1, h2]; intro; omega
      · rw [testBit_big hx (by omega)]; simp
  unfold bandn
  have h1 : (BitVec.ofInt IntKind.u32.bits (x : Int) &&& ~~~ BitVec.ofInt IntKind.u32.bits ((2 ^ k - 1 : Nat) : Int)).toNat = 2 ^ k * (x / 2 ^ k) := by
    show (BitVec.ofInt 32 (x : Int) &&& ~~~ BitVec.ofInt 32 ((2 ^ k - 1 : Nat) : Int)).toNat = _
    rw [ofInt32, ofInt32, BitVec.toNat_and, BitVec.toNat_not, BitVec.toNat_ofNat, BitVec.toNat_ofNat, Nat.mod_eq_of_lt hx, Nat.mod_eq_of_lt hy, ← key]
    congr 1
    omega
  rw [h1]
  exact wrap32_nat (Nat.lt_of_le_of_lt (Nat.mul_div_le x _) hx)
theorem host_nat (c : Cfg) (x n l : Nat) (hb : c.bits = n) (h8 : 8 ≤ n) (h30 : n ≤ 30) (hl : c.lan = l) (hl2 : l < 4294967296) (hx : x < 4294967296) :
    host c x = true ↔ (x / 2 ^ (32 - n) = l / 2 ^ (32 - n) ∧ x ≠ l ∧ x % 2 ^ (32 - n) ≠ 0 ∧ x % 2 ^ (32 - n) ≠ 2 ^ (32 - n) - 1) := by
  have hm1 := imax_bd c.bits 0
  have hm2 := imin_bd (imax c.bits 0) 32
  have e1 : imin (imax c.bits 0) 32 = (n : Int) := by omega
  have e2 : (32 : Int) - (n : Int) = ((32 - n : Nat) : Int) := by omega
  unfold host within inner
  rw [e1, hl, e2, bxor32 x l hx hl2, ishr32 _ _ (by omega), show (4294967295 : Int) = ((4294967295 : Nat) : Int) by rfl, ishr32 _ n (by omega), ones32 ⟨n, by omega⟩]
  have hP := pk_bd ⟨n, by omega⟩
  simp only at hP ⊢
  generalize hk : 32 - n = k at *
  rw [band32 x _ hx (by omega), Nat.and_two_pow_sub_one_eq_mod, Nat.shiftRight_xor_distrib, Nat.shiftRight_eq_div_pow, Nat.shiftRight_eq_div_pow]
  have e3 : ((n : Int) == 32) = false := by simp; omega
  rw [e3, cond_false]
  simp only [Bool.and_eq_true, beq_iff_eq, bne_iff_ne, ne_eq]
  have e4 : (((x / 2 ^ k ^^^ l / 2 ^ k : Nat) : Int) = 0) ↔ (x / 2 ^ k = l / 2 ^ k) := by
    rw [show (((x / 2 ^ k ^^^ l / 2 ^ k : Nat) : Int) = 0) ↔ ((x / 2 ^ k ^^^ l / 2 ^ k) = 0) by omega, xz]
  rw [e4]
  constructor
  · rintro ⟨⟨h1, h2⟩, h3, h4⟩; exact ⟨h1, by omega, by omega, by omega⟩
  · rintro ⟨h1, h2, h3, h4⟩; exact ⟨⟨h1, by omega⟩, by omega, by omega⟩
theorem chk_ok_ {c : Cfg} {F : Nat → Fwd} (h : chk c F = 0) : headbad c = false ∧ fall c F c.fl = true := by
  unfold chk at h
  cases h1 : headbad c <;> cases h2 : fall c F c.fl <;> simp [h1, h2] at h ⊢
theorem chk0 {c : Cfg} {F : Nat → Fwd} {p : Bool} (h : (p || (chk c F != 0)) = false) : (8 ≤ c.bits ∧ c.bits ≤ 30) ∧ within c.wan c.lan c.bits = false := by
  simp only [Bool.or_eq_false_iff, bne_eq_false_iff_eq] at h
  have h1 := (chk_ok_ h.2).1
  unfold headbad b1 b2 at h1
  simp only [Bool.or_eq_false_iff, decide_eq_false_iff_not] at h1
  exact ⟨by omega, h1.2.1.2⟩
theorem beqB' (a b : Bool) : (a == b) = true ↔ (a = true ↔ b = true) := by cases a <;> cases b <;> simp
section
variable {c : Cfg} {n l a : Nat}
theorem never (hb : c.bits = n) (h8 : 8 ≤ n) (h30 : n ≤ 30) (hl : c.lan = l) (hl2 : l < 4294967296) (hw : within c.wan c.lan c.bits = false) :
    ((((host c (bandn .u32 c.lan (ishr .u32 4294967295 c.bits))) || (host c (bor .u32 (bandn .u32 c.lan (ishr .u32 4294967295 c.bits)) (ishr .u32 4294967295 c.bits)))) || (host c c.lan)) || (host c c.wan)) = false := by
  have hP := pk_bd ⟨n, by omega⟩
  simp only at hP
  have hmask : ishr .u32 4294967295 c.bits = ((2 ^ (32 - n) - 1 : Nat) : Int) := by
    rw [hb, show (4294967295 : Int) = ((4294967295 : Nat) : Int) by rfl, ishr32 _ n (by omega), ones32 ⟨n, by omega⟩]
  have hnet : bandn .u32 c.lan (ishr .u32 4294967295 c.bits) = ((2 ^ (32 - n) * (l / 2 ^ (32 - n)) : Nat) : Int) := by rw [hmask, hl, bandn32 l (32 - n) hl2 (by omega)]
  have hle := Nat.mul_div_le l (2 ^ (32 - n))
  have hbr : bor .u32 (bandn .u32 c.lan (ishr .u32 4294967295 c.bits)) (ishr .u32 4294967295 c.bits) = ((2 ^ (32 - n) * (l / 2 ^ (32 - n)) + (2 ^ (32 - n) - 1) : Nat) : Int) := by
    rw [hnet, hmask, bor32 _ _ (by omega) (by omega), Nat.two_pow_add_eq_or_of_lt (by omega)]
  have hdm := Nat.div_add_mod l (2 ^ (32 - n))
  have hml := Nat.mod_lt l (show 2 ^ (32 - n) > 0 by omega)
  have hup : 2 ^ (32 - n) * (l / 2 ^ (32 - n)) + (2 ^ (32 - n) - 1) < 4294967296 := by
    have h2 : (2 ^ (32 - n) : Nat) * 2 ^ n = 4294967296 := by rw [← Nat.pow_add, show 32 - n + n = 32 by omega]
    have h3 : l / 2 ^ (32 - n) < 2 ^ n := by rw [Nat.div_lt_iff_lt_mul (by omega), Nat.mul_comm, h2]; exact hl2
    have h4 : 2 ^ (32 - n) * (l / 2 ^ (32 - n) + 1) ≤ 2 ^ (32 - n) * 2 ^ n := Nat.mul_le_mul_left _ h3
    rw [h2, Nat.mul_add, Nat.mul_one] at h4
    omega
  rw [hbr, hnet]
  have f1 : host c ((2 ^ (32 - n) * (l / 2 ^ (32 - n)) : Nat) : Int) = false := by
    rw [← Bool.not_eq_true, host_nat c _ n l hb h8 h30 hl hl2 (by omega)]
    rintro ⟨_, _, h, _⟩
    exact h (Nat.mul_mod_right _ _)
  have f2 : host c ((2 ^ (32 - n) * (l / 2 ^ (32 - n)) + (2 ^ (32 - n) - 1) : Nat) : Int) = false := by
    rw [← Bool.not_eq_true, host_nat c _ n l hb h8 h30 hl hl2 hup]
    rintro ⟨_, _, _, h⟩
    apply h
    rw [Nat.mul_add_mod, Nat.mod_eq_of_lt (by omega)]
  have f3 : host c c.lan = false := by simp [host]
  have f4 : host c c.wan = false := by simp [host, hw]
  rw [f1, f2, f3, f4]; rfl
theorem ins (hb : c.bits = n) (h8 : 8 ≤ n) (h30 : n ≤ 30) (hl : c.lan = l) (hl2 : l < 4294967296) (ha : a < 4294967296) :
    (((host c (bor .u32 (bandn .u32 c.lan (ishr .u32 4294967295 c.bits)) (band .u32 (a : Int) (ishr .u32 4294967295 c.bits)))) == ((((bor .u32 (bandn .u32 c.lan (ishr .u32 4294967295 c.bits)) (band .u32 (a : Int) (ishr .u32 4294967295 c.bits))) != (bandn .u32 c.lan (ishr .u32 4294967295 c.bits))) && ((bor .u32 (bandn .u32 c.lan (ishr .u32 4294967295 c.bits)) (band .u32 (a : Int) (ishr .u32 4294967295 c.bits))) != (bor .u32 (bandn .u32 c.lan (ishr .u32 4294967295 c.bits)) (ishr .u32 4294967295 c.bits)))) && ((bor .u32 (bandn .u32 c.lan (ishr .u32 4294967295 c.bits)) (band .u32 (a : Int) (ishr .u32 4294967295 c.bits))) != c.lan))) && ((host c (a : Int)) == (((a : Int) == (bor .u32 (bandn .u32 c.lan (ishr .u32 4294967295 c.bits)) (band .u32 (a : Int) (ishr .u32 4294967295 c.bits)))) && (host c (bor .u32 (bandn .u32 c.lan (ishr .u32 4294967295 c.bits)) (band .u32 (a : Int) (ishr .u32 4294967295 c.bits))))))) = true := by
  have hP := pk_bd ⟨n, by omega⟩
  simp only at hP
  have hmask : ishr .u32 4294967295 c.bits = ((2 ^ (32 - n) - 1 : Nat) : Int) := by
    rw [hb, show (4294967295 : Int) = ((4294967295 : Nat) : Int) by rfl, ishr32 _ n (by omega), ones32 ⟨n, by omega⟩]
  have hnet : bandn .u32 c.lan (ishr .u32 4294967295 c.bits) = ((2 ^ (32 - n) * (l / 2 ^ (32 - n)) : Nat) : Int) := by rw [hmask, hl, bandn32 l (32 - n) hl2 (by omega)]
  have hle := Nat.mul_div_le l (2 ^ (32 - n))
  have hbr : bor .u32 (bandn .u32 c.lan (ishr .u32 4294967295 c.bits)) (ishr .u32 4294967295 c.bits) = ((2 ^ (32 - n) * (l / 2 ^ (32 - n)) + (2 ^ (32 - n) - 1) : Nat) : Int) := by
    rw [hnet, hmask, bor32 _ _ (by omega) (by omega), Nat.two_pow_add_eq_or_of_lt (by omega)]
  have hdm := Nat.div_add_mod l (2 ^ (32 - n))
  have hml := Nat.mod_lt l (show 2 ^ (32 - n) > 0 by omega)
  have ham := Nat.mod_lt a (show 2 ^ (32 - n) > 0 by omega)
  have had := Nat.div_add_mod a (2 ^ (32 - n))
  have hup : 2 ^ (32 - n) * (l / 2 ^ (32 - n)) + (2 ^ (32 - n) - 1) < 4294967296 := by
    have h2 : (2 ^ (32 - n) : Nat) * 2 ^ n = 4294967296 := by rw [← Nat.pow_add, show 32 - n + n = 32 by omega]
    have h3 : l / 2 ^ (32 - n) < 2 ^ n := by rw [Nat.div_lt_iff_lt_mul (by omega), Nat.mul_comm, h2]; exact hl2
    have h4 : 2 ^ (32 - n) * (l / 2 ^ (32 - n) + 1) ≤ 2 ^ (32 - n) * 2 ^ n := Nat.mul_le_mul_left _ h3
    rw [h2, Nat.mul_add, Nat.mul_one] at h4
    omega
  have hin : bor .u32 (bandn .u32 c.lan (ishr .u32 4294967295 c.bits)) (band .u32 (a : Int) (ishr .u32 4294967295 c.bits)) = ((2 ^ (32 - n) * (l / 2 ^ (32 - n)) + a % 2 ^ (32 - n) : Nat) : Int) := by
    rw [hnet, hmask, band32 _ _ ha (by omega), Nat.and_two_pow_sub_one_eq_mod, bor32 _ _ (by omega) (by omega), Nat.two_pow_add_eq_or_of_lt ham]
  rw [hin, hbr, hnet, hl]
  have g1 := host_nat c (2 ^ (32 - n) * (l / 2 ^ (32 - n)) + a % 2 ^ (32 - n)) n l hb h8 h30 hl hl2 (by omega)
  have g2 := host_nat c a n l hb h8 h30 hl hl2 ha
  rw [Nat.mul_add_mod, Nat.mod_mod, Nat.mul_add_div (by omega), Nat.div_eq_of_lt ham, Nat.add_zero] at g1
  simp only [true_and] at g1
  generalize host c ((2 ^ (32 - n) * (l / 2 ^ (32 - n)) + a % 2 ^ (32 - n) : Nat) : Int) = H1 at *
  generalize host c (a : Int) = H2 at *
  have e5 : a / 2 ^ (32 - n) = l / 2 ^ (32 - n) ↔ a = 2 ^ (32 - n) * (l / 2 ^ (32 - n)) + a % 2 ^ (32 - n) := by
    constructor
    · intro h; rw [← h]; exact had.symm
    · intro h
      have : a / 2 ^ (32 - n) = (2 ^ (32 - n) * (l / 2 ^ (32 - n)) + a % 2 ^ (32 - n)) / 2 ^ (32 - n) := congrArg (· / 2 ^ (32 - n)) h
      rwa [Nat.mul_add_div (by omega), Nat.div_eq_of_lt ham, Nat.add_zero] at this
  rw [e5] at g2
  generalize 2 ^ (32 - n) * (l / 2 ^ (32 - n)) = net at *
  generalize hr : a % 2 ^ (32 - n) = r at *
  generalize 2 ^ (32 - n) = P at *
  rw [Bool.and_eq_true, beqB', beqB']
  simp only [Bool.and_eq_true, bne_iff_ne, beq_iff_eq, ne_eq]
  constructor
  · rw [g1]; omega
  · rw [g2, g1]; omega
end
end Go.Proofs.Ytegdeobjfdiilaa.Conf
