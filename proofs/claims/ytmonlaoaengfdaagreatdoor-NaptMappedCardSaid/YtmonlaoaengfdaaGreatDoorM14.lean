import Derived.Test.YtmonlaoaengfdaaGreatDoorChecked
import Derived.Test.YtmonlaoaengfdaaGreatDoorM4
set_option linter.unusedVariables false
set_option linter.unusedSimpArgs false
set_option maxRecDepth 20000
namespace Go.Proofs.YtmonlaoaengfdaaGreatDoor.Oct
open Go.RowKit Base
attribute [local irreducible] Ys Yc Ht HtS HtIn Wl Wd W Mem pf dpf
def bitsN (f : Nat → Bool) : Nat → Nat
  | 0 => 0
  | k + 1 => bitsN f k + (bif f k then 2 ^ k else 0)
theorem bitsN_lt (f : Nat → Bool) : ∀ n, bitsN f n < 2 ^ n
  | 0 => by simp [bitsN]
  | n + 1 => by
    have := bitsN_lt f n
    rw [bitsN, Nat.pow_succ]
    cases f n <;> simp only [cond_true, cond_false] <;> omega
theorem bitsN_bit (f : Nat → Bool) : ∀ n k, (bitsN f n).testBit k = (decide (k < n) && f k)
  | 0, k => by simp [bitsN]
  | n + 1, k => by
    have hlt := bitsN_lt f n
    have ih := bitsN_bit f n k
    rw [bitsN]
    cases hf : f n with
    | false =>
      simp only [cond_false, Nat.add_zero, ih]
      by_cases h : k = n
      · subst h; simp [hf]
      · rw [show decide (k < n + 1) = decide (k < n) by simp; omega]
    | true =>
      simp only [cond_true]
      rw [Nat.add_comm]
      rcases Nat.lt_trichotomy k n with h | h | h
      · rw [Nat.testBit_two_pow_add_gt h, ih, decide_eq_true h, decide_eq_true (Nat.lt_succ_of_lt h)]
      · subst h
        rw [Nat.testBit_two_pow_add_eq, ih]; simp [hf]
      · rw [Nat.testBit_lt_two_pow (Nat.lt_of_lt_of_le (m := 2 ^ (n + 1)) (by rw [Nat.pow_succ]; omega) (Nat.pow_le_pow_right ma2 h))]
        simp; omega
def wd (T : Nat → Bool) (i : Nat) : Nat := bitsN (fun k => T (64 * i + k)) 64
theorem wd_lt (T : Nat → Bool) (i : Nat) : wd T i < 18446744073709551616 := bitsN_lt _ 64
theorem wd_bit {T : Nat → Bool} {i k : Nat} (h : k < 64) : (wd T i).testBit k = T (64 * i + k) := by
  unfold wd; rw [bitsN_bit, decide_eq_true h, Bool.true_and]
theorem wd_hi {T : Nat → Bool} {i k : Nat} (h : 64 ≤ k) : (wd T i).testBit k = false := by
  unfold wd; rw [bitsN_bit, decide_eq_false ma1, Bool.false_and]
def up (T : Nat → Bool) (p : Nat) (v : Bool) : Nat → Bool := fun q => bif q == p then v else T q
theorem up_same (T : Nat → Bool) (p : Nat) (v : Bool) : up T p v p = v := by simp [up]
theorem up_other (T : Nat → Bool) {p q : Nat} (v : Bool) (h : q ≠ p) : up T p v q = T q := by unfold up; rw [show (q == p) = false from beq_eq_false_iff_ne.2 h]; rfl
def wsC (T : Nat → Bool) : List Value := (List.range 1024).map (fun i => Value.int .u64 (wd T i : Int))
def psC (T : Nat → Bool) (n : Int) : List Value := wsC T ++ [Value.int .i64 n]
theorem wsC_len (T : Nat → Bool) : (wsC T).length = 1024 := by unfold wsC; rw [List.length_map, List.length_range]
theorem psC_len (T : Nat → Bool) (n : Int) : (psC T n).length = 1025 := by unfold psC; rw [List.length_append, wsC_len]; rfl
theorem wsC_get {T : Nat → Bool} {i : Nat} (h : i < 1024) : (wsC T)[i]? = some (.int .u64 (wd T i : Int)) := by
  unfold wsC; rw [List.getElem?_map, List.getElem?_range h]; rfl
theorem psC_get {T : Nat → Bool} {n : Int} {i : Nat} (h : i < 1024) : (psC T n)[i]? = some (.int .u64 (wd T i : Int)) := by
  unfold psC; rw [List.getElem?_append_left (by rw [wsC_len]; exact h), wsC_get h]
theorem psC_get1 {T : Nat → Bool} {n : Int} {i : Nat} (h : i < 1024) : (psC T n)[i * 1]? = some (.int .u64 (wd T i : Int)) := by rw [Nat.mul_one]; exact psC_get h
theorem psC_cnt (T : Nat → Bool) (n : Int) : (psC T n)[1024]? = some (.int .i64 n) := by
  unfold psC; rw [List.getElem?_append_right (by rw [wsC_len]; exact Nat.le_refl _), wsC_len]; rfl
theorem wd_up_other {T : Nat → Bool} {p i : Nat} (v : Bool) (h : i ≠ p / 64) : wd (up T p v) i = wd T i := by
  refine Nat.eq_of_testBit_eq fun k => ?_
  by_cases hk : k < 64
  · rw [wd_bit hk, wd_bit hk, up_other _ _ ma1]
  · rw [wd_hi ma1, wd_hi ma1]
theorem psC_set {T : Nat → Bool} {n : Int} {p : Nat} (v : Bool) (hp : p < 65536) : (psC T n).set (p / 64 * 1) (.int .u64 (wd (up T p v) (p / 64) : Int)) = psC (up T p v) n := by
  unfold psC
  rw [Nat.mul_one, List.set_append_left _ _ (by rw [wsC_len]; omega)]
  congr 1
  apply List.ext_getElem?
  intro i
  rw [List.getElem?_set]
  by_cases hi : i < 1024
  · rw [wsC_get hi]
    by_cases h : p / 64 = i
    · subst h; rw [if_pos rfl, if_pos (by rw [wsC_len]; exact hi), wsC_get hi]
    · rw [if_neg h, wsC_get hi, wd_up_other v (fun e => h e.symm)]
  · rw [if_neg ma1, List.getElem?_eq_none (by rw [wsC_len]; omega), List.getElem?_eq_none (by rw [wsC_len]; omega)]
theorem psC_setn (T : Nat → Bool) (n m : Int) : (psC T n).set 1024 (.int .i64 m) = psC T m := by
  unfold psC
  rw [List.set_append_right _ _ (by rw [wsC_len]; exact Nat.le_refl _), wsC_len]; rfl
theorem pbit (p : Nat) : 64 * (p / 64) + p % 64 = p := Nat.div_add_mod p 64
theorem has_bit {T : Nat → Bool} {p : Nat} : (((wd T (p / 64) / 2 ^ (p % 64) % 2 : Nat) : Int) == 1) = T p := by
  have h := wd_bit (T := T) (i := p / 64) (k := p % 64) (Nat.mod_lt _ ma2)
  rw [pbit, Nat.testBit_eq_decide_div_mod_eq] at h
  rw [← h, Bool.eq_iff_iff, beq_iff_eq, decide_eq_true_eq]
  omega
theorem ishl_one {k : Nat} (h : k < 64) : ishl .u64 1 (k : Int) = ((2 ^ k : Nat) : Int) := by
  have := ishl_mod (k := .u64) rfl 1 k (by show k ≤ 64; omega)
  rw [Nat.one_mul] at this
  exact this.trans (congrArg (fun n : Nat => (n : Int)) (Nat.mod_eq_of_lt (Nat.pow_lt_pow_right ma2 h)))
theorem wd_or {T : Nat → Bool} {p : Nat} : wd T (p / 64) ||| 2 ^ (p % 64) = wd (up T p true) (p / 64) := by
  have hm := Nat.mod_lt p (show 0 < 64 by decide)
  refine Nat.eq_of_testBit_eq fun k => ?_
  rw [Nat.testBit_or, Nat.testBit_two_pow]
  by_cases hk : k < 64
  · rw [wd_bit hk, wd_bit hk]
    by_cases h : p % 64 = k
    · rw [show 64 * (p / 64) + k = p by omega, up_same]; simp [h]
    · rw [up_other _ _ ma1]; simp [h]
  · rw [wd_hi ma1, wd_hi ma1]; simp; omega
def tzr : Nat → Nat → Nat
  | 0, _ => 0
  | f + 1, x => if x % 2 = 1 then 0 else 1 + tzr f (x / 2)
def tz (x : Nat) : Nat := tzr 64 x
theorem tzr_spec : ∀ (f x : Nat), 0 < x → x < 2 ^ f → tzr f x < f ∧ x.testBit (tzr f x) = true ∧ ∀ j, j < tzr f x → x.testBit j = false
  | 0, x, h0, h => by simp at h; omega
  | f + 1, x, h0, h => by
    unfold tzr
    split
    · rename_i h1
      exact ⟨Nat.succ_pos _, by rw [Nat.testBit_zero]; simp [h1], fun j hj => absurd hj (Nat.not_lt_zero _)⟩
    · rename_i h1
      obtain ⟨a, b, c⟩ := tzr_spec f (x / 2) ma1 (by rw [Nat.pow_succ] at h; omega)
      refine ⟨by omega, by rw [Nat.add_comm, Nat.testBit_succ]; exact b, fun j hj => ?_⟩
      match j with
      | 0 => rw [Nat.testBit_zero]; simp; omega
      | j + 1 => rw [Nat.testBit_succ]; exact c j ma1
theorem tz_spec {x : Nat} (h0 : 0 < x) (h : x < 18446744073709551616) : tz x < 64 ∧ x.testBit (tz x) = true ∧ ∀ j, j < tz x → x.testBit j = false := tzr_spec 64 x h0 h
theorem low_bit : ∀ (f x : Nat), 0 < x → x < 2 ^ f → x &&& (2 ^ f - x) = 2 ^ tzr f x
  | 0, x, h0, h => by simp at h; omega
  | f + 1, x, h0, h => by
    unfold tzr
    split
    · rename_i h1
      refine Nat.eq_of_testBit_eq fun k => ?_
      rw [Nat.testBit_and, Nat.testBit_two_pow]
      have e : 2 ^ (f + 1) - x = 2 ^ (f + 1) - ((x - 1) + 1) := by omega
      rw [e, Nat.testBit_two_pow_sub_succ ma1]
      match k with
      | 0 => rw [Nat.testBit_zero, Nat.testBit_zero]; simp [h1]; try omega
      | k + 1 =>
        rw [Nat.testBit_succ, Nat.testBit_succ, show (x - 1) / 2 = x / 2 by omega]
        cases (x / 2).testBit k <;> simp
    · rename_i h1
      have ih := low_bit f (x / 2) ma1 (by rw [Nat.pow_succ] at h; omega)
      have e1 : x = 2 * (x / 2) := by omega
      have e2 : 2 ^ (f + 1) - x = 2 * (2 ^ f - x / 2) := by rw [Nat.pow_succ]; omega
      rw [e2, Nat.pow_add, Nat.pow_one, ← ih]
      refine Nat.eq_of_testBit_eq fun k => ?_
      match k with
      | 0 => rw [Nat.testBit_and, Nat.testBit_zero, Nat.testBit_zero, Nat.testBit_zero]; simp
      | k + 1 =>
        rw [Nat.testBit_and, Nat.testBit_succ, Nat.testBit_succ, Nat.testBit_succ, Nat.mul_div_cancel_left _ ma2, Nat.mul_div_cancel_left _ ma2, Nat.testBit_and]
def nfr (T : Nat → Bool) : Nat → Nat → Nat
  | 0, p => p
  | f + 1, p => bif T p then nfr T f (p + 1) else p
def nf (T : Nat → Bool) (p : Nat) : Nat := nfr T (65536 - p) p
theorem nf_step {T : Nat → Bool} {p : Nat} (h : p < 65536) (ht : T p = true) : nf T p = nf T (p + 1) := by
  unfold nf; rw [show 65536 - p = (65536 - (p + 1)) + 1 by omega, nfr, ht]; rfl
theorem nf_stop {T : Nat → Bool} {p : Nat} (h : p < 65536) (ht : T p = false) : nf T p = p := by
  unfold nf; rw [show 65536 - p = (65536 - (p + 1)) + 1 by omega, nfr, ht]; rfl
theorem nf_end {T : Nat → Bool} {p : Nat} (h : 65536 ≤ p) : nf T p = p := by
  unfold nf; rw [show 65536 - p = 0 by omega]; rfl
theorem nf_skip {T : Nat → Bool} {p : Nat} : ∀ k, p + k ≤ 65536 → (∀ j, j < k → T (p + j) = true) → nf T p = nf T (p + k)
  | 0, _, _ => rfl
  | k + 1, h, ht => by
    rw [nf_skip k ma1 (fun j hj => ht j ma1), nf_step ma1 (ht k ma1)]; rfl
theorem nf_le {T : Nat → Bool} : ∀ (f p : Nat), 65536 - p = f → p ≤ 65536 → nf T p ≤ 65536 ∧ p ≤ nf T p ∧ (nf T p < 65536 → T (nf T p) = false) ∧ (nf T p = 65536 → ∀ q, p ≤ q → q < 65536 → T q = true)
  | 0, p, h, hp => by
    obtain rfl : p = 65536 := by omega
    rw [nf_end (Nat.le_refl _)]
    exact ⟨Nat.le_refl _, Nat.le_refl _, fun h => absurd h (Nat.lt_irrefl _), fun _ q h1 h2 => by omega⟩
  | f + 1, p, h, hp => by
    cases ht : T p with
    | false => rw [nf_stop ma1 ht]; exact ⟨hp, Nat.le_refl _, fun _ => ht, fun e => by omega⟩
    | true =>
      rw [nf_step ma1 ht]
      obtain ⟨a, b, c, d⟩ := nf_le f (p + 1) ma1 ma1
      exact ⟨a, by omega, c, fun e q h1 h2 => by
        by_cases hq : q = p
        · subst hq; exact ht
        · exact d e q ma1 h2⟩
theorem nf_spec (T : Nat → Bool) {p : Nat} (hp : p ≤ 65536) : nf T p ≤ 65536 ∧ p ≤ nf T p ∧ (nf T p < 65536 → T (nf T p) = false) ∧ (nf T p = 65536 → ∀ q, p ≤ q → q < 65536 → T q = true) := nf_le _ p rfl hp
theorem nf_word {T : Nat → Bool} {w s x : Nat} (hw : w < 1024) (hs : s < 64) (hx : x < 18446744073709551616) (hb : ∀ k, k < 64 → x.testBit k = (decide (s ≤ k) && !T (64 * w + k))) :
    (x ≠ 0 → nf T (64 * w + s) = 64 * w + tz x ∧ tz x < 64) ∧ (x = 0 → nf T (64 * w + s) = nf T (64 * (w + 1))) := by
  constructor
  · intro h0
    obtain ⟨h1, h2, h3⟩ := tz_spec ma1 hx
    rw [hb _ h1, Bool.and_eq_true, decide_eq_true_eq, Bool.not_eq_true'] at h2
    refine ⟨?_, h1⟩
    rw [nf_skip (tz x - s) ma1 (fun j hj => ?_), show 64 * w + s + (tz x - s) = 64 * w + tz x by omega, nf_stop ma1 h2.2]
    have h4 := h3 (s + j) ma1
    rw [hb _ ma1, decide_eq_true ma1, Bool.true_and, Bool.not_eq_false'] at h4
    rw [show 64 * w + s + j = 64 * w + (s + j) by omega]; exact h4
  · intro h0
    rw [nf_skip (64 - s) ma1 (fun j hj => ?_), show 64 * w + s + (64 - s) = 64 * (w + 1) by omega]
    have h4 := hb (s + j) ma1
    rw [h0, Nat.zero_testBit, decide_eq_true ma1, Bool.true_and] at h4
    rw [show 64 * w + s + j = 64 * w + (s + j) by omega]
    simpa using h4.symm
theorem not_bit {T : Nat → Bool} {w k : Nat} (hk : k < 64) : (18446744073709551615 - wd T w).testBit k = !T (64 * w + k) := by
  have := Nat.testBit_two_pow_sub_succ (n := 64) (wd_lt T w) k
  rw [wd_bit hk, decide_eq_true hk, Bool.true_and] at this
  rw [← this]; congr 1; have := wd_lt T w; omega
theorem mask_bit {s k : Nat} (hs : s < 64) (hk : k < 64) : (18446744073709551616 - 2 ^ s).testBit k = decide (s ≤ k) := by
  have hp : (2 : Nat) ^ s < 2 ^ 64 := Nat.pow_lt_pow_right ma2 hs
  have hq := Nat.two_pow_pos s
  have e : 18446744073709551616 - 2 ^ s = 2 ^ 64 - ((2 ^ s - 1) + 1) := by omega
  rw [e, Nat.testBit_two_pow_sub_succ ma1, decide_eq_true hk, Nat.testBit_two_pow_sub_one, Bool.true_and]
  by_cases h : s ≤ k
  · rw [decide_eq_true h, decide_eq_false ma1]; rfl
  · rw [decide_eq_false h, decide_eq_true ma1]; rfl
theorem ishl_mask {s : Nat} (hs : s < 64) : ishl .u64 18446744073709551615 (s : Int) = ((18446744073709551616 - 2 ^ s : Nat) : Int) := by
  have := ishl_mod (k := .u64) rfl 18446744073709551615 s (by show s ≤ 64; omega)
  refine this.trans (congrArg (fun n : Nat => (n : Int)) ?_)
  have hp : (2 : Nat) ^ s < 2 ^ 64 := Nat.pow_lt_pow_right ma2 hs
  have hq := Nat.two_pow_pos s
  show 18446744073709551615 * 2 ^ s % 2 ^ 64 = _
  have e : 18446744073709551615 * 2 ^ s = (18446744073709551616 - 2 ^ s) + 2 ^ 64 * (2 ^ s - 1) := by
    obtain ⟨m, hm⟩ : ∃ m, 2 ^ s = m + 1 := ⟨2 ^ s - 1, by omega⟩
    rw [hm] at hp ⊢; omega
  rw [e, Nat.add_mul_mod_self_left, Nat.mod_eq_of_lt ma1]
end Go.Proofs.YtmonlaoaengfdaaGreatDoor.Oct
namespace Go.Proofs.YtmonlaoaengfdaaGreatDoor.Oct
open Go.RowKit Base
attribute [local irreducible] Ys Yc Ht HtS HtIn Wl Wd W Mem pf dpf
def dbt : List UInt8 := [0, 1, 56, 2, 57, 49, 28, 3, 61, 58, 42, 50, 38, 29, 17, 4, 62, 47, 59, 36, 45, 43, 51, 22, 53, 39, 33, 30, 24, 18, 12, 5, 63, 55, 48, 27, 60, 41, 37, 16, 46, 35, 44, 21, 52, 32, 23, 11, 54, 26, 40, 15, 34, 20, 31, 10, 25, 14, 19, 9, 13, 8, 7, 6]
theorem dbt_len : dbt.length = 64 := by decide
theorem dbt_all : (List.range 64).all (fun k => (dbt.getD ((2 ^ k * 285870213051353865) % 18446744073709551616 / 288230376151711744) 0).toNat == k) = true := by decide +kernel
theorem dbt_get {k : Nat} (h : k < 64) : (dbt.getD ((2 ^ k * 285870213051353865) % 18446744073709551616 / 288230376151711744) 0).toNat = k := by
  have := List.all_eq_true.1 dbt_all k (List.mem_range.2 h)
  simpa using this
theorem neg_nat {x : Nat} (h0 : 0 < x) (h : x < 18446744073709551616) : isub .u64 0 (x : Int) = ((18446744073709551616 - x : Nat) : Int) := by
  unfold isub IntKind.wrap
  simp only [IntKind.signed, IntKind.bits, Bool.false_and]
  rw [if_neg ma6]
  omega
theorem low_tz {x : Nat} (h0 : 0 < x) (h : x < 18446744073709551616) : x &&& (18446744073709551616 - x) = 2 ^ tz x := low_bit 64 x h0 h
theorem db_lt (t : Nat) : (2 ^ t * 285870213051353865) % 18446744073709551616 / 288230376151711744 < 64 := by
  have := Nat.mod_lt (2 ^ t * 285870213051353865) (show 0 < 18446744073709551616 by decide)
  omega
theorem tz_c (x : Nat) (w : World) (htab : At w (some ⟨0, 0, none⟩) (byc dbt)) (h0 : 0 < x) (hx : x < 18446744073709551616) : Calls Tryz.prog 181 #[nV .u64 x] w (Ret w (.int .i64 (tz x : Int))) := by
 obtain ⟨zz, hzz⟩ : ∃ z : Nat, z = 2 ^ tz x := ⟨_, rfl⟩; have hl := dbt_len; have hdl := db_lt (tz x); rw [← hzz] at hdl; have hz2 : zz < 18446744073709551616 := (by rw [hzz]; exact Nat.lt_of_lt_of_le (Nat.pow_lt_pow_right (n := 64) ma2 (tz_spec h0 hx).1) ma2); obtain ⟨qi, hqi⟩ : ∃ q : Nat, q = zz * 285870213051353865 % 18446744073709551616 / 288230376151711744 := ⟨_, rfl⟩; rw [← hqi] at hdl
 refine calls_W (M := []) (LL := []) (n := 14) Tryz.func181 rfl rfl ma6 (Mem.refl _) (W.seq (fun K1 hK1 => ?_))
 refine W.region (Wl.run 1 ma0 (Wl.nil (hK1 _ _ _ (W.seq (fun K2 hK2 => ?_)))))
 refine W.seq (fun K3 hK3 => W.region (Wl.run 2 ma0 (Wl.nil (hK3 _ _ _ ?_))))
 refine W.prune' [0, 4] [nV .u64 x, bV (((x : Nat) : Int) == 0)] ma0 (fun f4 => ?_)
 refine W.cond (((x : Nat) : Int) == 0) ma0 (fun h5 => ?_) (fun h6 => ?_)
 ·have qh5 := h5; try simp only [zA] at qh5
  exact absurd qh5 ma1
 ·have qh6 := h6; try simp only [zA] at qh6
  refine W.skip' (hK2 _ _ _ (W.prune' [0] [nV .u64 x] ma0 (fun f7 => W.seq (fun K8 hK8 => W.region ?_))))
  refine Wl.run 2 ma0 (Wl.ys (v := nV .u64 (18446744073709551616 - x)) rfl rfl ((Ys.pure (v := iV .u64 (isub .u64 0 (x : Int))) (fun _ => kr)).conseq (int_congr (neg_nat h0 hx))) (Wl.ys (v := nV .u64 zz) rfl rfl (Ys.conseq (v := nV .u64 (x &&& (18446744073709551616 - x))) (int_congr (congrArg (fun n : Nat => (n : Int)) ((low_tz h0 hx).trans hzz.symm))) ((Ys.pure (v := .int .u64 (band .u64 (x : Int) ((18446744073709551616 - x : Nat) : Int))) (fun _ => kr)).conseq (int_congr (band_nat rfl ma18 ma18)))) (Wl.ys (v := nV .u64 ((zz * 285870213051353865) % 18446744073709551616)) rfl rfl ((Ys.pure (v := .int .u64 (imul .u64 (zz : Int) ((285870213051353865 : Nat) : Int))) (fun _ => kr)).conseq (int_congr (imul_mod rfl))) (Wl.ys (v := nV .u64 qi) rfl rfl (Ys.conseq (v := nV .u64 (((zz * 285870213051353865) % 18446744073709551616) / 288230376151711744)) (int_congr (congrArg (fun n : Nat => (n : Int)) hqi.symm)) ((Ys.pure (v := .int .u64 (ishr .u64 (((zz * 285870213051353865) % 18446744073709551616 : Nat) : Int) ((58 : Nat) : Int))) (fun _ => kr)).conseq (int_congr (ishr_nat ((zz * 285870213051353865) % 18446744073709551616) 58 ma2)))) ?_))))
  refine Wl.ys (v := Value.pointer (some ⟨0, qi * 1, none⟩)) rfl rfl ((Ys.indexArr (k := .u64) (i := (qi : Int)) (sz := 1) rfl ma0 ma0 Tryz.runUnderlying298 Tryz.sizeOf5 ma1 ma1).conseq (by rw [Nat.zero_add]; try rfl)) (Wl.ys (v := nV .u8 ((dbt.getD qi 0).toNat)) rfl rfl (Ys.ld (a := ⟨0, qi * 1, none⟩) rfl ma0 Tryz.isAgg5 (fun w_ h_ => by have x_ := (htab.mem0 h_).ld (q := qi * 1) (mc_get1 0 ma1); rw [ela_own0] at x_; exact x_)) ?_)
  have hb9 : (dbt.getD qi 0).toNat < 256 := UInt8.toNat_lt _
  refine Wl.ys (v := nV .i64 ((dbt.getD qi 0).toNat)) rfl rfl ((Ys.pure (v := .int .i64 (icnv .i64 ((dbt.getD qi 0).toNat : Int))) (fun _ => kr)).conseq (int_congr (wrap_i64 ma1 ma1))) (Wl.run 1 ma0 (Wl.nil (hK8 _ _ _ (W.prune' [2] [nV .i64 ((dbt.getD qi 0).toNat)] ma0 (fun f10 => ?_)))))
  refine W.ret ?_
  show ∀ w_, _ → bodyPostM (fence none) 0 Tryz.prog Tryz.f181 _ Exit.ret _ w_
  exact fun w_ hS_ => fin_ret (ret1 rfl (RV.tmp (v := nV .i64 ((dbt.getD qi 0).toNat)) ma0) hS_ ⟨by clear hK1 hK2 hK3 hK8; refine congrArg Ending.returned ?_; rw [hqi, hzz]; exact int_congr (congrArg (fun n : Nat => (n : Int)) (dbt_get (tz_spec h0 hx).1)), hS_.below⟩)
theorem has_c (T : Nat → Bool) (n : Int) (b p : Nat) (w : World) (hat : At w (some ⟨b, 0, none⟩) (psC T n)) (hp : p < 65536) : Calls Tryz.prog 119 #[pV b 0, nV .u16 p] w (Ret w (.bool (T p))) := by
 have hwl := wd_lt T (p / 64); have hwd := Nat.lt_of_le_of_lt (Nat.div_le_self (wd T (p / 64)) (2 ^ (p % 64))) hwl; have hpm := Nat.mod_lt p (show 0 < 64 by decide)
 refine calls_W (M := []) (LL := []) (n := 17) Tryz.func119 rfl rfl ma6 (Mem.refl _) (W.seq (fun K1 hK1 => ?_))
 refine W.region (Wl.run 1 ma0 (Wl.nil (hK1 _ _ _ (W.seq (fun K2 hK2 => ?_)))))
 refine W.region (Wl.run 2 ma0 (Wl.ys (v := nV .u16 (p / 64)) rfl rfl ((Ys.pure (v := .int .u16 (iquo .u16 (p : Int) ((64 : Nat) : Int))) (fun _ => kr)).conseq (int_congr (iquo_natu rfl ma27))) (Wl.run 2 ma0 (Wl.ys (v := Value.pointer (some ⟨b, (p / 64) * 1, none⟩)) rfl rfl ((Ys.indexArr (k := .u16) (i := ((p / 64 : Nat) : Int)) (sz := 1) rfl ma0 ma0 Tryz.runUnderlying228 Tryz.sizeOf45 ma1 ma1).conseq (by rw [Nat.zero_add]; try rfl)) ?_))))
 refine Wl.ys (v := nV .u64 (wd T (p / 64))) rfl rfl (Ys.ld (a := ⟨b, (p / 64) * 1, none⟩) rfl ma0 Tryz.isAgg45 (fun w_ h_ => by have x_ := (hat.mem0 h_).ld (q := (p / 64) * 1) (psC_get1 ma1); rw [ela_own0] at x_; exact x_)) (Wl.run 1 ma0 (Wl.ys (v := nV .u16 (p % 64)) rfl rfl ((Ys.pure (v := .int .u16 (irem (p : Int) ((64 : Nat) : Int))) (fun _ => kr)).conseq (int_congr (rfl))) (Wl.ys (v := nV .u64 (wd T (p / 64) / 2 ^ (p % 64))) rfl rfl (Ys.conseq (v := iV .u64 (ishr .u64 (wd T (p / 64) : Int) ((p % 64 : Nat) : Int))) (int_congr (ishr_nat _ _ (by show _ ≤ 64; omega))) (Ys.shr (k := .u64) (k' := .u16) (a := (wd T (p / 64) : Int)) (b := ((p % 64 : Nat) : Int)) rfl ma0 ma0 ma1)) (Wl.ys (v := nV .u64 ((wd T (p / 64) / 2 ^ (p % 64)) % 2)) rfl rfl ((Ys.pure (v := .int .u64 (band .u64 ((wd T (p / 64) / 2 ^ (p % 64) : Nat) : Int) ((1 : Nat) : Int))) (fun _ => kr)).conseq (int_congr (band_mask rfl (a := wd T (p / 64) / 2 ^ (p % 64)) (c := 1) ma18 ma2 1 rfl))) ?_))))
 refine Wl.ys (v := bV (T p)) rfl rfl ((Ys.pure (v := bV ((((wd T (p / 64) / 2 ^ (p % 64)) % 2 : Nat) : Int) == 1)) (fun _ => kr)).conseq (bool_congr (has_bit))) (Wl.run 1 ma0 (Wl.nil (hK2 _ _ _ (W.prune' [4] [bV (T p)] ma0 (fun f3 => ?_)))))
 refine W.ret ?_
 show ∀ w_, _ → bodyPostM (fence none) 0 Tryz.prog Tryz.f119 _ Exit.ret _ w_
 exact fun w_ hS_ => fin_ret (ret1 rfl (RV.tmp (v := bV (T p)) ma0) hS_ ⟨rfl, hS_.below⟩)
def tkB (T : Nat → Bool) (p : Nat) : Bool := !(decide (p < 1024) || T p)
def tkT (T : Nat → Bool) (p : Nat) : Nat → Bool := bif tkB T p then up T p true else T
def tkN (T : Nat → Bool) (p : Nat) (n : Int) : Int := bif tkB T p then n + 1 else n
theorem take_c (T : Nat → Bool) (n : Int) (b p : Nat) (w : World) (hl : Mem w [b] [[cb b (psC T n) 230]] w) (hp : p < 65536) (hn1 : -1000000000000 ≤ n) (hn2 : n ≤ 1000000000000) : Calls Tryz.prog 70 #[pV b 0, nV .u16 p] w (RetM w (fun _ : Unit => True) (fun _ => .bool (tkB T p)) [b] (fun _ => [[cb b (psC (tkT T p) (tkN T p n)) 230]])) := by
 have hwl := wd_lt T (p / 64); have hwd := Nat.lt_of_le_of_lt (Nat.div_le_self (wd T (p / 64)) (2 ^ (p % 64))) hwl; have hpm := Nat.mod_lt p (show 0 < 64 by decide); have h2p : (2 : Nat) ^ (p % 64) < 18446744073709551616 := Nat.lt_of_lt_of_le (Nat.pow_lt_pow_right (n := 64) ma2 hpm) ma2
 refine calls_W (M := [b]) (LL := [[cb b (psC T n) 230]]) (n := 33) Tryz.func70 rfl rfl ma6 (hl) (W.seq (fun K1 hK1 => ?_))
 refine W.region (Wl.run 1 ma0 (Wl.nil (hK1 _ _ _ (W.seq (fun K2 hK2 => ?_)))))
 refine W.seq (fun K3 hK3 => W.region (Wl.run 3 ma0 ?_))
 refine Wl.guard (v := pV b 0) (!(decide (((p : Nat) : Int) < 1024))) rfl (wantF rfl ma0) rfl (fun hg4 => ?_) ?_
 ·exact Ys.pure (fun _ => kr)
 refine Wl.guard (v := nV .u16 p) (!(decide (((p : Nat) : Int) < 1024))) rfl (wantF rfl ma0) rfl (fun hg5 => ?_) ?_
 ·exact Ys.pure (fun _ => kr)
 refine Wl.guardc (v := bV (T p)) (!(decide (((p : Nat) : Int) < 1024))) rfl (wantF rfl ma0) rfl (fun hg6 => ?_) ?_
 ·have qhg6 := hg6; try simp only [zA] at qhg6
  refine Yc.at (t := 8) (v0 := pV b 0) (lz (g := !(decide (((p : Nat) : Int) < 1024))) (u := undef) hg6 ma0) (Yc.at (t := 9) (v0 := nV .u16 p) (lz (g := !(decide (((p : Nat) : Int) < 1024))) (u := undef) hg6 ma0) ?_)
  exact Yc.call (fun _ => kr) (fun w_ hm_ => has_c T n b p _ (At.lit0 (i := 0) (j := 0) (t := 230) (b := b) hm_ rfl rfl) ma1)
 refine Wl.ys (v := bV ((decide (((p : Nat) : Int) < 1024)) || (T p))) rfl rfl (Ys.or' (e := decide (((p : Nat) : Int) < 1024)) (b := T p) rfl ma0 ma0 ma0) (Wl.nil (hK3 _ _ _ (W.prune' [0, 1, 11] [pV b 0, nV .u16 p, bV ((decide (((p : Nat) : Int) < 1024)) || (T p))] ma0 (fun f7 => ?_))))
 refine W.cond ((decide (((p : Nat) : Int) < 1024)) || (T p)) ma0 (fun h8 => ?_) (fun h9 => ?_)
 ·have qh8 := h8; try simp only [zA] at qh8
  refine W.seq (fun K10 hK10 => W.region (Wl.run 1 ma0 (Wl.nil (hK10 _ _ _ ?_))))
  refine W.ret ?_
  have hB : tkB T p = false := by unfold tkB; rw [show (decide (p < 1024) || T p) = true from ?_]; rfl; have hz_ := h8; first | exact hz_ | (rw [← hz_]; congr 1; exact decide_eq_decide.2 ma1)
  show ∀ w_, _ → bodyPostM (fence none) 0 Tryz.prog Tryz.f70 _ Exit.ret _ w_
  exact fun w_ hS_ => fin_ret (ret1 rfl (RV.tmp (v := bV false) ma0) hS_ ⟨(), trivial, congrArg Ending.returned ((by rw [hB])), (Mem.cast (by unfold tkT tkN; rw [hB]; rfl) hS_)⟩)
 ·have qh9 := h9; try simp only [zA] at qh9
  refine W.skip' (hK2 _ _ _ (W.prune' [0, 1] [pV b 0, nV .u16 p] ma0 (fun f11 => W.seq (fun K12 hK12 => W.draws [(0, true), (1, true), (2, true), (3, true), (4, true), (5, true), (6, true), (7, true), (8, true), (9, true), (10, true), (11, false), (12, false), (13, false), (14, false)] [0, 1, 2, 3, 4, 5, 6, 7, 8, 9, 10] (Mem w [b] [[cb b (psC T n) 230]]) ma0 ma0 ma0 rfl ma0 (fun _ _ h_ => h_.drawn _) (fun _ h_ => h_) ?_))))
  refine Wd.run 2 ma0 (Wd.ys (v := nV .u16 (p / 64)) rfl rfl rfl ((Ys.pure (v := .int .u16 (iquo .u16 (p : Int) ((64 : Nat) : Int))) (fun _ => kr)).conseq (int_congr (iquo_natu rfl ma27))) (Wd.run 2 ma0 (Wd.ys (v := Value.pointer (some ⟨b, (p / 64) * 1, none⟩)) rfl rfl rfl ((Ys.indexArr (k := .u16) (i := ((p / 64 : Nat) : Int)) (sz := 1) rfl ma0 ma0 Tryz.runUnderlying228 Tryz.sizeOf45 ma1 ma1).conseq (by rw [Nat.zero_add]; try rfl)) (Wd.ys rfl rfl rfl (Ys.load (b := b) (o' := (p / 64) * 1) (i := 0) (j := 0) (cs := psC T n) (v := nV .u64 (wd T (p / 64))) rfl ma0 Tryz.isAgg45 rfl rfl (psC_get1 ma1)) ?_))))
  refine Wd.run 1 ma0 (Wd.ys (v := nV .u16 (p % 64)) rfl rfl rfl ((Ys.pure (v := .int .u16 (irem (p : Int) ((64 : Nat) : Int))) (fun _ => kr)).conseq (int_congr (rfl))) (Wd.ys (v := nV .u64 (2 ^ (p % 64))) rfl rfl rfl (Ys.conseq (v := iV .u64 (ishl .u64 1 ((p % 64 : Nat) : Int))) (int_congr (ishl_one hpm)) (Ys.shl (k := .u64) (k' := .u16) (a := 1) (b := ((p % 64 : Nat) : Int)) rfl ma0 ma0 ma1)) (Wd.ys (v := nV .u64 (wd (up T p true) (p / 64))) rfl rfl rfl (Ys.conseq (v := nV .u64 ((wd T (p / 64)) ||| (2 ^ (p % 64)))) (int_congr (congrArg (fun n : Nat => (n : Int)) wd_or)) ((Ys.pure (v := .int .u64 (bor .u64 (wd T (p / 64) : Int) ((2 ^ (p % 64) : Nat) : Int))) (fun _ => kr)).conseq (int_congr (bor_nat rfl ma18 ma18)))) (Wd.yc (v := pV b 0) rfl rfl rfl (Ys.yc (Ys.pure (fun _ => kr))) (.inr fun _ h_ => h_) ?_))))
  refine Wd.yc (v := pV b 0) rfl rfl rfl (Ys.yc (Ys.pure (fun _ => kr))) (.inr fun _ h_ => h_) (Wd.yc (v := Value.pointer (some ⟨b, (p / 64) * 1, none⟩)) rfl rfl rfl (Ys.yc ((Ys.indexArr (k := .u16) (i := ((p / 64 : Nat) : Int)) (sz := 1) rfl ma0 ma0 Tryz.runUnderlying228 Tryz.sizeOf45 ma1 ma1).conseq (by rw [Nat.zero_add]; try rfl))) (.inl ma0) (Wd.ht rfl rfl (Ht.store (b := b) (o' := (p / 64) * 1) (i := 0) (j := 0) (cs := psC T n) (cs' := psC (up T p true) n) (v := nV .u64 (wd (up T p true) (p / 64))) (LL' := [[cb b (psC (up T p true) n) 230]]) rfl rfl ma0 ma0 Tryz.sizeOf45 rfl rfl rfl (by rw [psC_len]; omega) (psC_set true ma1) rfl) (.inl ma0) (fun _ => Wd.nil (hK12 _ _ _ ?_))))
  refine W.prune' [0] [pV b 0] ma0 (fun f13 => W.seq (fun K14 hK14 => ?_))
  refine W.region (Wl.run 3 ma0 (Wl.ys rfl rfl (Ys.load (b := b) (o' := 1024) (i := 0) (j := 0) (cs := psC (up T p true) n) (v := iV .i64 n) rfl ma0 Tryz.isAgg3 rfl rfl (psC_cnt _ _)) (Wl.ys (v := iV .i64 (n + 1)) rfl rfl ((Ys.pure (v := .int .i64 (iadd .i64 n 1)) (fun _ => kr)).conseq (int_congr (iadd_eq ma1 ma1 ma1))) (Wl.run 2 ma0 ?_))))
  refine Wl.ht rfl (Ht.store (b := b) (o' := 1024) (i := 0) (j := 0) (cs := psC (up T p true) n) (cs' := psC (up T p true) (n + 1)) (v := iV .i64 (n + 1)) (LL' := [[cb b (psC (up T p true) (n + 1)) 230]]) rfl rfl ma0 ma0 Tryz.sizeOf3 rfl rfl rfl (by rw [psC_len]; decide) (psC_setn _ _ _) rfl) (fun _ => Wl.nil (hK14 _ _ _ (W.prune' [] [] ma0 (fun f15 => W.seq (fun K16 hK16 => ?_)))))
  refine W.region (Wl.run 1 ma0 (Wl.nil (hK16 _ _ _ (W.ret ?_))))
  have hB : tkB T p = true := by unfold tkB; rw [show (decide (p < 1024) || T p) = false from ?_]; rfl; have hz_ := h9; first | exact hz_ | (rw [← hz_]; congr 1; exact decide_eq_decide.2 ma1)
  show ∀ w_, _ → bodyPostM (fence none) 0 Tryz.prog Tryz.f70 _ Exit.ret _ w_
  exact fun w_ hS_ => fin_ret (ret1 rfl (RV.tmp (v := bV true) ma0) hS_ ⟨(), trivial, congrArg Ending.returned ((by rw [hB])), (Mem.cast (by unfold tkT tkN; rw [hB]; rfl) hS_)⟩)
end Go.Proofs.YtmonlaoaengfdaaGreatDoor.Oct
