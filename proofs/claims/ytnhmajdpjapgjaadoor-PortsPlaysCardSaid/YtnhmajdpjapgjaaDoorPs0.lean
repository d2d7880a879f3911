/-
  Sets of ports, plain. No condition.
-/
import Derived.Test.YtnhmajdpjapgjaaDoorChecked
import Derived.Test.YtnhmajdpjapgjaaDoorVH
set_option linter.unusedVariables false
set_option linter.unusedSimpArgs false
set_option maxRecDepth 20000
namespace Go.Proofs.YtnhmajdpjapgjaaDoor.Oct
open Go.RowKit Base
attribute [local irreducible] Ys Yc Ht HtS HtIn Wl Wd W Mem pf dpf

/-- The number of these bits. -/
def bitsN (f : Nat → Bool) : Nat → Nat
  | 0 => 0
  | k + 1 => bitsN f k + (bif f k then 2 ^ k else 0)
theorem bitsN_lt (f : Nat → Bool) : ∀ n, bitsN f n < 2 ^ n
  | 0 => by simp [bitsN]
  | n + 1 => by
    have := bitsN_lt f n
    rw [bitsN, Nat.pow_succ]
    cases f n <;> simp only [cond_true, cond_false] <;> omega
theorem bitsN_bit (f : Nat → Bool) : ∀ n k, (bitsN f n).testBit k = (decide (k < n) && f k)
  | 0, k => by simp [bitsN]
  | n + 1, k => by
    have hlt := bitsN_lt f n
    have ih := bitsN_bit f n k
    rw [bitsN]
    cases hf : f n with
    | false =>
      simp only [cond_false, Nat.add_zero, ih]
      by_cases h : k = n
      · subst h; simp [hf]
      · rw [show decide (k < n + 1) = decide (k < n) by simp; omega]
    | true =>
      simp only [cond_true]
      rw [Nat.add_comm]
      rcases Nat.lt_trichotomy k n with h | h | h
      · rw [Nat.testBit_two_pow_add_gt h, ih, decide_eq_true h, decide_eq_true (Nat.lt_succ_of_lt h)]
      · subst h
        rw [Nat.testBit_two_pow_add_eq, ih]; simp [hf]
      · rw [Nat.testBit_lt_two_pow (Nat.lt_of_lt_of_le (m := 2 ^ (n + 1)) (by rw [Nat.pow_succ]; omega) (Nat.pow_le_pow_right (by decide) h))]
        simp; omega
/-- The word i of a set of ports; the set's cells. -/
def wd (T : Nat → Bool) (i : Nat) : Nat := bitsN (fun k => T (64 * i + k)) 64
theorem wd_lt (T : Nat → Bool) (i : Nat) : wd T i < 18446744073709551616 := bitsN_lt _ 64
theorem wd_bit {T : Nat → Bool} {i k : Nat} (h : k < 64) : (wd T i).testBit k = T (64 * i + k) := by
  unfold wd; rw [bitsN_bit, decide_eq_true h, Bool.true_and]
theorem wd_hi {T : Nat → Bool} {i k : Nat} (h : 64 ≤ k) : (wd T i).testBit k = false := by
  unfold wd; rw [bitsN_bit, decide_eq_false (by omega), Bool.false_and]
def up (T : Nat → Bool) (p : Nat) (v : Bool) : Nat → Bool := fun q => bif q == p then v else T q
theorem up_same (T : Nat → Bool) (p : Nat) (v : Bool) : up T p v p = v := by simp [up]
theorem up_other (T : Nat → Bool) {p q : Nat} (v : Bool) (h : q ≠ p) : up T p v q = T q := by unfold up; rw [show (q == p) = false from beq_eq_false_iff_ne.2 h]; rfl
def wsC (T : Nat → Bool) : List Value := (List.range 1024).map (fun i => Value.int .u64 ((wd T i : Nat) : Int))
def psC (T : Nat → Bool) (n : Int) : List Value := wsC T ++ [Value.int .i64 n]
theorem wsC_len (T : Nat → Bool) : (wsC T).length = 1024 := by unfold wsC; rw [List.length_map, List.length_range]
theorem psC_len (T : Nat → Bool) (n : Int) : (psC T n).length = 1025 := by unfold psC; rw [List.length_append, wsC_len]; rfl
theorem wsC_get {T : Nat → Bool} {i : Nat} (h : i < 1024) : (wsC T)[i]? = some (.int .u64 ((wd T i : Nat) : Int)) := by
  unfold wsC; rw [List.getElem?_map, List.getElem?_range h]; rfl
theorem psC_get {T : Nat → Bool} {n : Int} {i : Nat} (h : i < 1024) : (psC T n)[i]? = some (.int .u64 ((wd T i : Nat) : Int)) := by
  unfold psC; rw [List.getElem?_append_left (by rw [wsC_len]; exact h), wsC_get h]
theorem psC_get1 {T : Nat → Bool} {n : Int} {i : Nat} (h : i < 1024) : (psC T n)[i * 1]? = some (.int .u64 ((wd T i : Nat) : Int)) := by rw [Nat.mul_one]; exact psC_get h
theorem psC_cnt (T : Nat → Bool) (n : Int) : (psC T n)[1024]? = some (.int .i64 n) := by
  unfold psC; rw [List.getElem?_append_right (by rw [wsC_len]; exact Nat.le_refl _), wsC_len]; rfl
theorem wd_up_other {T : Nat → Bool} {p i : Nat} (v : Bool) (h : i ≠ p / 64) : wd (up T p v) i = wd T i := by
  refine Nat.eq_of_testBit_eq fun k => ?_
  by_cases hk : k < 64
  · rw [wd_bit hk, wd_bit hk, up_other _ _ (by omega)]
  · rw [wd_hi (by omega), wd_hi (by omega)]
theorem psC_set {T : Nat → Bool} {n : Int} {p : Nat} (v : Bool) (hp : p < 65536) : (psC T n).set (p / 64 * 1) (.int .u64 ((wd (up T p v) (p / 64) : Nat) : Int)) = psC (up T p v) n := by
  unfold psC
  rw [Nat.mul_one, List.set_append_left _ _ (by rw [wsC_len]; omega)]
  congr 1
  apply List.ext_getElem?
  intro i
  rw [List.getElem?_set]
  by_cases hi : i < 1024
  · rw [wsC_get hi]
    by_cases h : p / 64 = i
    · subst h; rw [if_pos rfl, if_pos (by rw [wsC_len]; exact hi), wsC_get hi]
    · rw [if_neg h, wsC_get hi, wd_up_other v (fun e => h e.symm)]
  · rw [if_neg (by omega), List.getElem?_eq_none (by rw [wsC_len]; omega), List.getElem?_eq_none (by rw [wsC_len]; omega)]
theorem psC_setn (T : Nat → Bool) (n m : Int) : (psC T n).set 1024 (.int .i64 m) = psC T m := by
  unfold psC
  rw [List.set_append_right _ _ (by rw [wsC_len]; exact Nat.le_refl _), wsC_len]; rfl
theorem up_up (T : Nat → Bool) (p : Nat) (v : Bool) : up T p v p = v := up_same T p v
theorem pbit (p : Nat) : 64 * (p / 64) + p % 64 = p := Nat.div_add_mod p 64
theorem has_bit {T : Nat → Bool} {p : Nat} : (((wd T (p / 64) / 2 ^ (p % 64) % 2 : Nat) : Int) == 1) = T p := by
  have h := wd_bit (T := T) (i := p / 64) (k := p % 64) (Nat.mod_lt _ (by decide))
  rw [pbit, Nat.testBit_eq_decide_div_mod_eq] at h
  rw [← h, Bool.eq_iff_iff, beq_iff_eq, decide_eq_true_eq]
  omega
theorem ishl_one {k : Nat} (h : k < 64) : ishl .u64 1 ((k : Nat) : Int) = ((2 ^ k : Nat) : Int) := by
  have := ishl_mod (k := .u64) rfl 1 k (by show k ≤ 64; omega)
  rw [Nat.one_mul] at this
  exact this.trans (congrArg (fun n : Nat => (n : Int)) (Nat.mod_eq_of_lt (Nat.pow_lt_pow_right (by decide) h)))
theorem wd_or {T : Nat → Bool} {p : Nat} : wd T (p / 64) ||| 2 ^ (p % 64) = wd (up T p true) (p / 64) := by
  have hm := Nat.mod_lt p (show 0 < 64 by decide)
  refine Nat.eq_of_testBit_eq fun k => ?_
  rw [Nat.testBit_or, Nat.testBit_two_pow]
  by_cases hk : k < 64
  · rw [wd_bit hk, wd_bit hk]
    by_cases h : p % 64 = k
    · rw [show 64 * (p / 64) + k = p by omega, up_same]; simp [h]
    · rw [up_other _ _ (by omega)]; simp [h]
  · rw [wd_hi (by omega), wd_hi (by omega)]; simp; omega
theorem bandn_bit {x k : Nat} (hx : x < 18446744073709551616) (hk : k < 64) : ∃ y : Nat, bandn .u64 ((x : Nat) : Int) ((2 ^ k : Nat) : Int) = ((y : Nat) : Int) ∧ y < 18446744073709551616 ∧ ∀ j, y.testBit j = (x.testBit j && !decide (k = j)) := by
  have hp : (2 : Nat) ^ k < 2 ^ 64 := Nat.pow_lt_pow_right (by decide) hk
  refine ⟨(BitVec.ofNat 64 x &&& ~~~ BitVec.ofNat 64 (2 ^ k)).toNat, ?_, (BitVec.isLt _), fun j => ?_⟩
  · unfold bandn
    show IntKind.u64.wrap _ = _
    rw [show BitVec.ofInt IntKind.u64.bits ((x : Nat) : Int) = BitVec.ofNat 64 x from BitVec.ofInt_natCast 64 x, show BitVec.ofInt IntKind.u64.bits ((2 ^ k : Nat) : Int) = BitVec.ofNat 64 (2 ^ k) from BitVec.ofInt_natCast 64 (2 ^ k)]
    rw [wrap_nat rfl]
    congr 1
    exact Nat.mod_eq_of_lt (BitVec.isLt _)
  · rw [← BitVec.getLsbD, BitVec.getLsbD_and, BitVec.getLsbD_not]
    simp only [BitVec.getLsbD, BitVec.toNat_ofNat, Nat.testBit_mod_two_pow, Nat.testBit_two_pow]
    by_cases hj : j < 64
    · simp [hj]
    · have h2 : x.testBit j = false := Nat.testBit_lt_two_pow (Nat.lt_of_lt_of_le hx (Nat.pow_le_pow_right (n := 2) (by decide) (show 64 ≤ j by omega)))
      simp [hj, h2]
theorem wd_andn {T : Nat → Bool} {p : Nat} : bandn .u64 ((wd T (p / 64) : Nat) : Int) ((2 ^ (p % 64) : Nat) : Int) = ((wd (up T p false) (p / 64) : Nat) : Int) := by
  have hm := Nat.mod_lt p (show 0 < 64 by decide)
  obtain ⟨y, h1, h2, h3⟩ := bandn_bit (wd_lt T (p / 64)) hm
  rw [h1]
  congr 1
  refine Nat.eq_of_testBit_eq fun k => ?_
  rw [h3]
  by_cases hk : k < 64
  · rw [wd_bit hk, wd_bit hk]
    by_cases h : p % 64 = k
    · rw [show 64 * (p / 64) + k = p by omega, up_same]; simp [h]
    · rw [up_other _ _ (by omega)]; simp [h]
  · rw [wd_hi (by omega), wd_hi (by omega)]; simp
/-- The place of a number's lowest bit. -/
def tzr : Nat → Nat → Nat
  | 0, _ => 0
  | f + 1, x => if x % 2 = 1 then 0 else 1 + tzr f (x / 2)
def tz (x : Nat) : Nat := tzr 64 x
theorem tzr_spec : ∀ (f x : Nat), 0 < x → x < 2 ^ f → tzr f x < f ∧ x.testBit (tzr f x) = true ∧ ∀ j, j < tzr f x → x.testBit j = false
  | 0, x, h0, h => by simp at h; omega
  | f + 1, x, h0, h => by
    unfold tzr
    split
    · rename_i h1
      exact ⟨Nat.succ_pos _, by rw [Nat.testBit_zero]; simp [h1], fun j hj => absurd hj (Nat.not_lt_zero _)⟩
    · rename_i h1
      obtain ⟨a, b, c⟩ := tzr_spec f (x / 2) (by omega) (by rw [Nat.pow_succ] at h; omega)
      refine ⟨by omega, by rw [Nat.add_comm, Nat.testBit_succ]; exact b, fun j hj => ?_⟩
      match j with
      | 0 => rw [Nat.testBit_zero]; simp; omega
      | j + 1 => rw [Nat.testBit_succ]; exact c j (by omega)
theorem tz_spec {x : Nat} (h0 : 0 < x) (h : x < 18446744073709551616) : tz x < 64 ∧ x.testBit (tz x) = true ∧ ∀ j, j < tz x → x.testBit j = false := tzr_spec 64 x h0 h
theorem low_bit : ∀ (f x : Nat), 0 < x → x < 2 ^ f → x &&& (2 ^ f - x) = 2 ^ tzr f x
  | 0, x, h0, h => by simp at h; omega
  | f + 1, x, h0, h => by
    unfold tzr
    split
    · rename_i h1
      refine Nat.eq_of_testBit_eq fun k => ?_
      rw [Nat.testBit_and, Nat.testBit_two_pow]
      have e : 2 ^ (f + 1) - x = 2 ^ (f + 1) - ((x - 1) + 1) := by omega
      rw [e, Nat.testBit_two_pow_sub_succ (by omega)]
      match k with
      | 0 => rw [Nat.testBit_zero, Nat.testBit_zero]; simp [h1]; try omega
      | k + 1 =>
        rw [Nat.testBit_succ, Nat.testBit_succ, show (x - 1) / 2 = x / 2 by omega]
        cases (x / 2).testBit k <;> simp
    · rename_i h1
      have ih := low_bit f (x / 2) (by omega) (by rw [Nat.pow_succ] at h; omega)
      have e1 : x = 2 * (x / 2) := by omega
      have e2 : 2 ^ (f + 1) - x = 2 * (2 ^ f - x / 2) := by rw [Nat.pow_succ]; omega
      rw [e2, Nat.pow_add, Nat.pow_one, ← ih]
      refine Nat.eq_of_testBit_eq fun k => ?_
      match k with
      | 0 => rw [Nat.testBit_and, Nat.testBit_zero, Nat.testBit_zero, Nat.testBit_zero]; simp
      | k + 1 =>
        rw [Nat.testBit_and, Nat.testBit_succ, Nat.testBit_succ, Nat.testBit_succ, Nat.mul_div_cancel_left _ (by decide), Nat.mul_div_cancel_left _ (by decide), Nat.testBit_and]
/-- The first port from one on that isn't taken; 65536: none. -/
def nfr (T : Nat → Bool) : Nat → Nat → Nat
  | 0, p => p
  | f + 1, p => bif T p then nfr T f (p + 1) else p
def nf (T : Nat → Bool) (p : Nat) : Nat := nfr T (65536 - p) p
theorem nf_step {T : Nat → Bool} {p : Nat} (h : p < 65536) (ht : T p = true) : nf T p = nf T (p + 1) := by
  unfold nf; rw [show 65536 - p = (65536 - (p + 1)) + 1 by omega, nfr, ht]; rfl
theorem nf_stop {T : Nat → Bool} {p : Nat} (h : p < 65536) (ht : T p = false) : nf T p = p := by
  unfold nf; rw [show 65536 - p = (65536 - (p + 1)) + 1 by omega, nfr, ht]; rfl
theorem nf_end {T : Nat → Bool} {p : Nat} (h : 65536 ≤ p) : nf T p = p := by
  unfold nf; rw [show 65536 - p = 0 by omega]; rfl
theorem nf_skip {T : Nat → Bool} {p : Nat} : ∀ k, p + k ≤ 65536 → (∀ j, j < k → T (p + j) = true) → nf T p = nf T (p + k)
  | 0, _, _ => rfl
  | k + 1, h, ht => by
    rw [nf_skip k (by omega) (fun j hj => ht j (by omega)), nf_step (by omega) (ht k (by omega))]; rfl
theorem nf_le {T : Nat → Bool} : ∀ (f p : Nat), 65536 - p = f → p ≤ 65536 → nf T p ≤ 65536 ∧ p ≤ nf T p ∧ (nf T p < 65536 → T (nf T p) = false) ∧ (nf T p = 65536 → ∀ q, p ≤ q → q < 65536 → T q = true)
  | 0, p, h, hp => by
    obtain rfl : p = 65536 := by omega
    rw [nf_end (Nat.le_refl _)]
    exact ⟨Nat.le_refl _, Nat.le_refl _, fun h => absurd h (Nat.lt_irrefl _), fun _ q h1 h2 => by omega⟩
  | f + 1, p, h, hp => by
    cases ht : T p with
    | false => rw [nf_stop (by omega) ht]; exact ⟨hp, Nat.le_refl _, fun _ => ht, fun e => by omega⟩
    | true =>
      rw [nf_step (by omega) ht]
      obtain ⟨a, b, c, d⟩ := nf_le f (p + 1) (by omega) (by omega)
      exact ⟨a, by omega, c, fun e q h1 h2 => by
        by_cases hq : q = p
        · subst hq; exact ht
        · exact d e q (by omega) h2⟩
theorem nf_spec (T : Nat → Bool) {p : Nat} (hp : p ≤ 65536) : nf T p ≤ 65536 ∧ p ≤ nf T p ∧ (nf T p < 65536 → T (nf T p) = false) ∧ (nf T p = 65536 → ∀ q, p ≤ q → q < 65536 → T q = true) := nf_le _ p rfl hp
theorem nf_word {T : Nat → Bool} {w s x : Nat} (hw : w < 1024) (hs : s < 64) (hx : x < 18446744073709551616) (hb : ∀ k, k < 64 → x.testBit k = (decide (s ≤ k) && !T (64 * w + k))) :
    (x ≠ 0 → nf T (64 * w + s) = 64 * w + tz x ∧ tz x < 64) ∧ (x = 0 → nf T (64 * w + s) = nf T (64 * (w + 1))) := by
  constructor
  · intro h0
    obtain ⟨h1, h2, h3⟩ := tz_spec (by omega) hx
    rw [hb _ h1, Bool.and_eq_true, decide_eq_true_eq, Bool.not_eq_true'] at h2
    refine ⟨?_, h1⟩
    rw [nf_skip (tz x - s) (by omega) (fun j hj => ?_), show 64 * w + s + (tz x - s) = 64 * w + tz x by omega, nf_stop (by omega) h2.2]
    have h4 := h3 (s + j) (by omega)
    rw [hb _ (by omega), decide_eq_true (by omega), Bool.true_and, Bool.not_eq_false'] at h4
    rw [show 64 * w + s + j = 64 * w + (s + j) by omega]; exact h4
  · intro h0
    rw [nf_skip (64 - s) (by omega) (fun j hj => ?_), show 64 * w + s + (64 - s) = 64 * (w + 1) by omega]
    have h4 := hb (s + j) (by omega)
    rw [h0, Nat.zero_testBit, decide_eq_true (by omega), Bool.true_and] at h4
    rw [show 64 * w + s + j = 64 * w + (s + j) by omega]
    simpa using h4.symm
theorem not_bit {T : Nat → Bool} {w k : Nat} (hk : k < 64) : (18446744073709551615 - wd T w).testBit k = !T (64 * w + k) := by
  have := Nat.testBit_two_pow_sub_succ (n := 64) (wd_lt T w) k
  rw [wd_bit hk, decide_eq_true hk, Bool.true_and] at this
  rw [← this]; congr 1; have := wd_lt T w; omega
theorem mask_bit {s k : Nat} (hs : s < 64) (hk : k < 64) : (18446744073709551616 - 2 ^ s).testBit k = decide (s ≤ k) := by
  have hp : (2 : Nat) ^ s < 2 ^ 64 := Nat.pow_lt_pow_right (by decide) hs
  have hq := Nat.two_pow_pos s
  have e : 18446744073709551616 - 2 ^ s = 2 ^ 64 - ((2 ^ s - 1) + 1) := by omega
  rw [e, Nat.testBit_two_pow_sub_succ (by omega), decide_eq_true hk, Nat.testBit_two_pow_sub_one, Bool.true_and]
  by_cases h : s ≤ k
  · rw [decide_eq_true h, decide_eq_false (by omega)]; rfl
  · rw [decide_eq_false h, decide_eq_true (by omega)]; rfl
theorem ishl_mask {s : Nat} (hs : s < 64) : ishl .u64 18446744073709551615 ((s : Nat) : Int) = ((18446744073709551616 - 2 ^ s : Nat) : Int) := by
  have := ishl_mod (k := .u64) rfl 18446744073709551615 s (by show s ≤ 64; omega)
  refine this.trans (congrArg (fun n : Nat => (n : Int)) ?_)
  have hp : (2 : Nat) ^ s < 2 ^ 64 := Nat.pow_lt_pow_right (by decide) hs
  have hq := Nat.two_pow_pos s
  show 18446744073709551615 * 2 ^ s % 2 ^ 64 = _
  have e : 18446744073709551615 * 2 ^ s = (18446744073709551616 - 2 ^ s) + 2 ^ 64 * (2 ^ s - 1) := by
    obtain ⟨m, hm⟩ : ∃ m, 2 ^ s = m + 1 := ⟨2 ^ s - 1, by omega⟩
    rw [hm] at hp ⊢; omega
  rw [e, Nat.add_mul_mod_self_left, Nat.mod_eq_of_lt (by omega)]

end Go.Proofs.YtnhmajdpjapgjaaDoor.Oct
