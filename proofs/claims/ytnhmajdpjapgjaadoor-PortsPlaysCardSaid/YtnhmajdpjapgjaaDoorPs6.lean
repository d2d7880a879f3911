/-
  What is told of the ports. No condition.
-/
import Derived.Test.YtnhmajdpjapgjaaDoorPs5
import Derived.Test.YtnhmajdpjapgjaaDoorVN
set_option linter.unusedVariables false
set_option linter.unusedSimpArgs false
set_option maxRecDepth 20000
namespace Go.Proofs.YtnhmajdpjapgjaaDoor.Oct
open Go.RowKit Base
attribute [local irreducible] Ys Yc Ht HtS HtIn Wl Wd W Mem pf dpf Wa Wo

/-- The places of a word's ones, rising. -/
def bitsL (x : Nat) : List Nat := (List.range 64).filter x.testBit
theorem bits_0 : bitsL 0 = [] := List.filter_eq_nil_iff.2 fun a _ => by simp
theorem bits_lt {x k : Nat} (h : k ∈ bitsL x) : k < 64 := List.mem_range.1 (List.mem_filter.1 h).1
theorem filter_low {q q' : Nat → Bool} {t : Nat} (h1 : q t = true) (h2 : ∀ j, j < t → q j = false) (h3 : ∀ j, q' j = (q j && !decide (j = t))) : ∀ n, t < n → (List.range n).filter q = t :: (List.range n).filter q'
  | 0, h => by omega
  | n + 1, h => by
    rw [List.range_succ, List.filter_append, List.filter_append]
    by_cases e : t = n
    · subst e
      have a : (List.range t).filter q = [] := List.filter_eq_nil_iff.2 fun j hj => by simp [h2 j (List.mem_range.1 hj)]
      have b : (List.range t).filter q' = [] := List.filter_eq_nil_iff.2 fun j hj => by simp [h3, h2 j (List.mem_range.1 hj)]
      rw [a, b]
      simp [List.filter_cons, h1, h3]
    · rw [filter_low h1 h2 h3 n (by omega)]
      have c : q' n = q n := by rw [h3, decide_eq_false (fun z => e z.symm)]; simp
      simp [List.filter_cons, c]
theorem low_off {x : Nat} (h0 : 0 < x) (h : x < 18446744073709551616) (j : Nat) : (x &&& (x - 1)).testBit j = (x.testBit j && !decide (j = tz x)) := by
  obtain ⟨_, h2, h3⟩ := tz_spec h0 h
  rw [Nat.testBit_and]
  generalize tz x = t at *
  rw [Nat.testBit_eq_decide_div_mod_eq, decide_eq_true_eq] at h2
  rcases Nat.lt_trichotomy j t with hj | hj | hj
  · rw [h3 j hj]; rfl
  · subst hj
    have e : (x - 1).testBit j = false := by
      have hz : x % 2 ^ j = 0 := by
        apply Nat.eq_of_testBit_eq
        intro i
        rw [Nat.testBit_mod_two_pow, Nat.zero_testBit]
        by_cases hi : i < j
        · rw [h3 i hi, Bool.and_false]
        · rw [decide_eq_false hi, Bool.false_and]
      have hp := Nat.two_pow_pos j
      have hd := Nat.div_add_mod x (2 ^ j)
      rw [hz, Nat.add_zero] at hd
      obtain ⟨m, hm⟩ : ∃ m, x / 2 ^ j = 2 * m + 1 := ⟨x / 2 ^ j / 2, by omega⟩
      rw [hm] at hd
      have hx : x - 1 = 2 ^ j * (2 * m) + (2 ^ j - 1) := by rw [← hd, Nat.mul_add]; omega
      rw [Nat.testBit_eq_decide_div_mod_eq, hx, Nat.mul_add_div hp, Nat.div_eq_of_lt (by omega)]
      simp
    rw [e]; simp
  · have e : (x - 1).testBit j = x.testBit j := by
      have hp := Nat.two_pow_pos j
      have hr : 0 < x % 2 ^ j := by
        apply Nat.pos_of_ne_zero
        intro hz
        have h4 := congrArg (fun z => Nat.testBit z t) hz
        simp only [Nat.testBit_mod_two_pow, Nat.zero_testBit, decide_eq_true hj, Bool.true_and] at h4
        rw [Nat.testBit_eq_decide_div_mod_eq, decide_eq_true h2] at h4
        cases h4
      have hd := Nat.div_add_mod x (2 ^ j)
      have hl := Nat.mod_lt x hp
      have : (x - 1) / 2 ^ j = x / 2 ^ j := by
        have hx : x - 1 = 2 ^ j * (x / 2 ^ j) + (x % 2 ^ j - 1) := by omega
        have hq : (x % 2 ^ j - 1) / 2 ^ j = 0 := Nat.div_eq_of_lt (by omega)
        rw [hx, Nat.mul_add_div hp, hq, Nat.add_zero]
      rw [Nat.testBit_eq_decide_div_mod_eq, Nat.testBit_eq_decide_div_mod_eq, this]
    rw [e, decide_eq_false (by omega)]; simp
theorem bits_step {x : Nat} (h0 : 0 < x) (h : x < 18446744073709551616) : bitsL x = tz x :: bitsL (x &&& (x - 1)) :=
  filter_low (tz_spec h0 h).2.1 (tz_spec h0 h).2.2 (low_off h0 h) 64 (tz_spec h0 h).1
theorem drop_cons {L r : List Nat} {k a : Nat} (h : L.drop k = a :: r) : L.drop (k + 1) = r ∧ L.getD k 0 = a ∧ k < L.length := by
  have hk : k < L.length := by
    rcases Nat.lt_or_ge k L.length with h1 | h1
    · exact h1
    · rw [List.drop_eq_nil_of_le h1] at h; cases h
  rw [List.drop_eq_getElem_cons hk] at h
  obtain ⟨e1, e2⟩ := List.cons.inj h
  exact ⟨e2, by rw [List.getD_eq_getElem?_getD, List.getElem?_eq_getElem hk]; exact e1, hk⟩
theorem bits_next {x y k : Nat} (hy0 : 0 < y) (hy : y < 18446744073709551616) (hb : bitsL y = (bitsL x).drop k) : (bitsL x).getD k 0 = tz y ∧ bitsL (y &&& (y - 1)) = (bitsL x).drop (k + 1) ∧ k < (bitsL x).length := by
  rw [bits_step hy0 hy] at hb
  obtain ⟨h1, h2, h3⟩ := drop_cons hb.symm
  exact ⟨h2, h1.symm, h3⟩
theorem bits_end {x k : Nat} (hb : bitsL 0 = (bitsL x).drop k) (hk : k ≤ (bitsL x).length) : (bitsL x).length = k := by
  rw [bits_0] at hb
  have := congrArg List.length hb
  rw [List.length_drop] at this
  simp at this; omega
/-- The first ports that are taken, rising. -/
def plI (T : Nat → Bool) (m : Nat) : List Nat := (List.range m).filter T
theorem plI_word (T : Nat → Bool) (i : Nat) : plI T (64 * (i + 1)) = plI T (64 * i) ++ (bitsL (wd T i)).map (64 * i + ·) := by
  unfold plI bitsL
  rw [show 64 * (i + 1) = 64 * i + 64 by omega, List.range_add, List.filter_append, List.filter_map]
  congr 2
  apply List.filter_congr
  intro k hk
  exact (wd_bit (List.mem_range.1 hk)).symm
/-- The ports as numbers. -/
def ci (xs : List Nat) : List Int := xs.map fun q => ((q : Nat) : Int)
theorem ci_len (xs : List Nat) : (ci xs).length = xs.length := List.length_map ..
/-- What is told of the ports, of so many. -/
def mxN (most : Int) : Nat := (imax most 1).toNat
def lst (T : Nat → Bool) (most : Int) : List Nat := (plI T 65536).take (mxN most)
theorem psC_sub {T : Nat → Bool} {n : Int} {q : Nat} {v : Value} (h : (wsC T)[q]? = some v) : (psC T n)[0 + q]? = some v := by
  rw [Nat.zero_add]; unfold psC
  rw [List.getElem?_append_left (List.getElem?_eq_some_iff.1 h).1]; exact h
theorem mx_pos (q : Int) : 0 < mxN q := by unfold mxN imax; split <;> omega
theorem mx_lt {q : Int} {l : Nat} (h : ((l : Nat) : Int) < q) : l < mxN q := by unfold mxN imax; split <;> omega
theorem mx_eq {q : Int} {l : Nat} (h : q ≤ ((l : Nat) : Int) + 1) (h2 : l < mxN q) : l + 1 = mxN q := by
  revert h2; unfold mxN imax; split <;> omega
theorem take_snoc {L : List Nat} {k : Nat} (hk : k < L.length) : L.take (k + 1) = L.take k ++ [L.getD k 0] := by
  rw [List.take_add_one, List.getElem?_eq_getElem hk, List.getD_eq_getElem?_getD, List.getElem?_eq_getElem hk]; rfl
theorem ci_step {A L : List Nat} {i k v : Nat} (hk : k < L.length) (hv : v = 64 * i + L.getD k 0) : ci (A ++ (L.take k).map (64 * i + ·)) ++ [((v : Nat) : Int)] = ci (A ++ (L.take (k + 1)).map (64 * i + ·)) := by
  subst hv
  rw [take_snoc hk]
  unfold ci
  simp only [List.map_append, List.map_cons, List.map_nil, List.append_assoc]
theorem plI_pre (T : Nat → Bool) {m n : Nat} (h : m ≤ n) : ∃ r, plI T n = plI T m ++ r := by
  obtain ⟨d, rfl⟩ : ∃ d, n = m + d := ⟨n - m, by omega⟩
  refine ⟨((List.range d).map (m + ·)).filter T, ?_⟩
  unfold plI
  rw [List.range_add, List.filter_append]
theorem ci_stop {T : Nat → Bool} {q : Int} {i k v : Nat} (hi : i < 1024) (hk : k < (bitsL (wd T i)).length) (hv : v = 64 * i + (bitsL (wd T i)).getD k 0) (hm : (ci (plI T (64 * i) ++ ((bitsL (wd T i)).take k).map (64 * i + ·))).length + 1 = mxN q) :
    ci (plI T (64 * i) ++ ((bitsL (wd T i)).take k).map (64 * i + ·)) ++ [((v : Nat) : Int)] = ci (lst T q) := by
  rw [ci_step hk hv]
  refine congrArg ci ?_
  obtain ⟨r, hr⟩ := plI_pre T (m := 64 * (i + 1)) (n := 65536) (by omega)
  have e2 : (bitsL (wd T i)).map (64 * i + ·) = ((bitsL (wd T i)).take (k + 1)).map (64 * i + ·) ++ ((bitsL (wd T i)).drop (k + 1)).map (64 * i + ·) := by rw [← List.map_append, List.take_append_drop]
  have e : plI T 65536 = (plI T (64 * i) ++ ((bitsL (wd T i)).take (k + 1)).map (64 * i + ·)) ++ (((bitsL (wd T i)).drop (k + 1)).map (64 * i + ·) ++ r) := by
    rw [hr, plI_word, e2]; simp only [List.append_assoc]
  have hlen : (plI T (64 * i) ++ ((bitsL (wd T i)).take (k + 1)).map (64 * i + ·)).length = mxN q := by
    rw [← hm, ci_len]
    simp only [List.length_append, List.length_map, List.length_take]
    omega
  unfold lst
  rw [e, List.take_left' hlen]
theorem plI_le (T : Nat → Bool) (m : Nat) : (plI T m).length ≤ m := by
  unfold plI
  have := List.length_filter_le T (List.range m)
  rw [List.length_range] at this; exact this
theorem ci_bnd {T : Nat → Bool} {i k : Nat} (hi : i < 1024) : (ci (plI T (64 * i) ++ ((bitsL (wd T i)).take k).map (64 * i + ·))).length ≤ 100000 := by
  have h1 := plI_le T (64 * i)
  have h2 : (bitsL (wd T i)).length ≤ 64 := by
    unfold bitsL
    have := List.length_filter_le (wd T i).testBit (List.range 64)
    rw [List.length_range] at this; exact this
  rw [ci_len, List.length_append, List.length_map, List.length_take]
  omega
theorem take_all7 {L : List Nat} {n : Nat} {out : List Int} (h : out = ci L) (h2 : out.length < n) : out = ci (L.take n) := by
  rw [h, ci_len] at h2
  rw [h, List.take_of_length_le (Nat.le_of_lt h2)]
theorem lst_all {T : Nat → Bool} {q : Int} {out : List Int} {m : Nat} (hm : m = 65536) (h : out = ci (plI T m)) (h2 : out.length < mxN q) : out = ci (lst T q) := by
  rw [hm] at h
  exact take_all7 h h2
theorem lst_len (T : Nat → Bool) (q : Int) : (lst T q).length = min (mxN q) (plI T 65536).length := List.length_take ..
theorem pl_len (T : Nat → Bool) : ∀ m, (plI T m).length = cn T m
  | 0 => rfl
  | m + 1 => by
    have ih := pl_len T m
    unfold plI at *
    rw [List.range_succ, List.filter_append, List.length_append, ih, cn]
    cases h : T m <;> simp [h]

theorem ones1_c (x px : Nat) (M : List Nat) (τ : Type) (yv : Value) (U : τ → List Blk) (Φ : Nat → τ → Prop) (Ψ : τ → Prop) (s0 : τ) (w : World) (hx : x < 18446744073709551616) (htab : At w (some ⟨1, 0, none⟩) (byc dbt)) (hne : 0 < (byc dbt).length → (1 : Nat) ∉ M) (hyl : (∀ i s (R : List (List Blk)) (u : World) (Mu : List Nat), i < (bitsL x).length → Φ i s → Keeps w M u Mu → Yld Tryd.prog yv ((fun k : Nat => [Value.int .i64 (((bitsL x).getD k 0 : Nat) : Int)]) i).toArray (Mem u Mu (U s :: R)) (fun b w' => ∃ s', (bif b then Φ (i + 1) s' else Ψ s') ∧ Mem u Mu (U s' :: R) w'))) (h0 : Φ 0 s0) (hl : Mem w M [U s0, [cb px [Value.int .u64 ((x : Nat) : Int)] 22]] w) : Calls Tryd.prog 52 #[yv, Value.pointer (some ⟨px, 0, none⟩)] w (RetM w (fun s : τ => Φ (bitsL x).length s ∨ Ψ s) (fun _ => .tuple #[]) M (fun s => [U s])) := by
  refine calls_W (M := M) (LL := [U s0, [cb px [Value.int .u64 ((x : Nat) : Int)] 22]]) (n := 14) Tryd.func52 rfl rfl (by simp) (hl) ?_
  refine W.block ?_
  refine W.loop3 [0, 1] (fun (k : Nat) (y : Nat) (s : τ) => [yv, Value.pointer (some ⟨px, 0, none⟩)]) (fun (k : Nat) (y : Nat) (s : τ) => k ≤ (bitsL x).length ∧ y < 18446744073709551616 ∧ bitsL y = (bitsL x).drop k ∧ Φ k s) (fun (k : Nat) (y : Nat) (s : τ) => [U s, [cb px [Value.int .u64 ((y : Nat) : Int)] 22]]) (fun (k : Nat) (y : Nat) (s : τ) => (bitsL x).length - k) 0 x s0 (by kernel_rfl) ⟨(Nat.zero_le _), hx, rfl, h0⟩ (by rfl) (fun k y s f2 J1 hp3 hJ1 => ?_)
  obtain ⟨hk, hy, hb, hphi⟩ := hp3
  refine W.seq (fun K4 hK4 => ?_)
  refine W.seq (fun K5 hK5 => ?_)
  refine W.region ?_
  refine Wl.ys (v := Value.int .u64 ((y : Nat) : Int)) rfl rfl (Ys.load (b := px) (o' := 0) (i := 1) (j := 0) (cs := [Value.int .u64 ((y : Nat) : Int)]) (v := Value.int .u64 ((y : Nat) : Int)) rfl (by kernel_rfl) Tryd.isAgg22 rfl rfl rfl) ?_
  refine Wl.run 1 (by kernel_rfl) ?_
  refine Wl.nil ?_
  refine hK5 _ _ _ ?_
  refine W.prune' [0, 1, 4] [yv, Value.pointer (some ⟨px, 0, none⟩), Value.bool (((y : Nat) : Int) != 0)] (by kernel_rfl) (fun f6 => ?_)
  refine W.cond (((y : Nat) : Int) != 0) (by kernel_rfl) (fun h7 => ?_) (fun h8 => ?_)
  · have qh7 := h7; try simp only [Bool.and_eq_true, Bool.or_eq_true, Bool.not_eq_true', Bool.not_eq_false', Bool.and_eq_false_iff, Bool.or_eq_false_iff, decide_eq_true_eq, decide_eq_false_iff_not, beq_iff_eq, bne_iff_ne, beq_eq_false_iff_ne, bne_eq_false_iff_eq] at qh7
    refine W.skip' ?_
    refine hK4 _ _ _ ?_
    refine W.prune' [0, 1] [yv, Value.pointer (some ⟨px, 0, none⟩)] (by kernel_rfl) (fun f9 => ?_)
    refine W.seq (fun K10 hK10 => ?_)
    refine W.block ?_
    refine W.seq (fun K11 hK11 => ?_)
    have hbn_ := bits_next (x := x) (k := k) (by omega : 0 < y) hy hb
    refine W.region ?_
    refine Wl.run 1 (by kernel_rfl) ?_
    refine Wl.ys (v := Value.int .u64 ((y : Nat) : Int)) rfl rfl (Ys.load (b := px) (o' := 0) (i := 1) (j := 0) (cs := [Value.int .u64 ((y : Nat) : Int)]) (v := Value.int .u64 ((y : Nat) : Int)) rfl (by kernel_rfl) Tryd.isAgg22 rfl rfl rfl) ?_
    refine Wl.yc (v := Value.int .i64 (((bitsL x).getD k 0 : Nat) : Int)) rfl rfl (Yc.call (k := 42) (args := #[Value.int .u64 ((y : Nat) : Int)]) (fun _ => by kernel_rfl) (fun w_ hm_ => (by have h_ := tz_c y _ (htab.mem' hm_ hne) (by omega) hy; rw [← hbn_.1] at h_; exact h_))) ?_
    refine Wl.htIn rfl (HtIn.yield (σ := τ) (Φ := fun b s => bif b then Φ (k + 1) s else Ψ s) (Lf := fun s => [U s, [cb px [Value.int .u64 ((y : Nat) : Int)] 22]]) (args := #[Value.int .i64 (((bitsL x).getD k 0 : Nat) : Int)]) rfl rfl (fun _ => by kernel_rfl) (Yld.cast rfl (hyl (k) s [[cb px [Value.int .u64 ((y : Nat) : Int)] 22]] w M (by omega) hphi (Keeps.refl _ _)))) (fun x15 => ?_)
    obtain ⟨⟨b12, s13⟩, hs14⟩ := x15
    refine Wl.castL (LL' := [U s13, [cb px [Value.int .u64 ((y : Nat) : Int)] 22]]) rfl ?_
    refine Wl.run 1 (by kernel_rfl) ?_
    refine Wl.nil ?_
    refine hK11 _ _ _ ?_
    refine W.prune' [0, 1, 13] [yv, Value.pointer (some ⟨px, 0, none⟩), Value.bool (!b12)] (by kernel_rfl) (fun f16 => ?_)
    refine W.cond (!b12) (by kernel_rfl) (fun h17 => ?_) (fun h18 => ?_)
    · refine W.ret ?_
      show ∀ w_, _ → bodyPostM (fence none) 0 Tryd.prog Tryd.f52 _ Exit.ret _ w_
      exact fun w_ hS_ => fin_ret (ret0 rfl  ⟨s13, (.inr (by have hb_ : b12 = false := (by simpa using h17); rw [hb_] at hs14; exact hs14)), rfl, (hS_.pick [0] (by decide) rfl)⟩)
    · refine W.skip' ?_
      refine hK10 _ _ _ ?_
      refine W.prune' [0, 1] [yv, Value.pointer (some ⟨px, 0, none⟩)] (by kernel_rfl) (fun f19 => ?_)
      refine W.region ?_
      refine Wl.ys (v := Value.int .u64 ((y : Nat) : Int)) rfl rfl (Ys.load (b := px) (o' := 0) (i := 1) (j := 0) (cs := [Value.int .u64 ((y : Nat) : Int)]) (v := Value.int .u64 ((y : Nat) : Int)) rfl (by kernel_rfl) Tryd.isAgg22 rfl rfl rfl) ?_
      refine Wl.ys (v := Value.int .u64 ((y : Nat) : Int)) rfl rfl (Ys.load (b := px) (o' := 0) (i := 1) (j := 0) (cs := [Value.int .u64 ((y : Nat) : Int)]) (v := Value.int .u64 ((y : Nat) : Int)) rfl (by kernel_rfl) Tryd.isAgg22 rfl rfl rfl) ?_
      refine Wl.ys (v := Value.int .u64 ((y - 1 : Nat) : Int)) rfl rfl ((Ys.pure (v := .int .u64 (isub .u64 ((y : Nat) : Int) ((1 : Nat) : Int))) (fun _ => by kernel_rfl)).conseq (int_congr (isub_natu rfl (by omega) (by show _ < 18446744073709551616; omega)))) ?_
      refine Wl.ys (v := Value.int .u64 ((y &&& (y - 1) : Nat) : Int)) rfl rfl ((Ys.pure (v := .int .u64 (band .u64 ((y : Nat) : Int) ((y - 1 : Nat) : Int))) (fun _ => by kernel_rfl)).conseq (int_congr (band_nat rfl (by show _ < 18446744073709551616; omega) (by show _ < 18446744073709551616; omega)))) ?_
      refine Wl.ht rfl (Ht.store (b := px) (o' := 0) (i := 1) (j := 0) (cs := [Value.int .u64 ((y : Nat) : Int)]) (cs' := [Value.int .u64 ((y &&& (y - 1) : Nat) : Int)]) (v := Value.int .u64 ((y &&& (y - 1) : Nat) : Int)) (LL' := [U s13, [cb px [Value.int .u64 ((y &&& (y - 1) : Nat) : Int)] 22]]) rfl rfl (by kernel_rfl) (by kernel_rfl) Tryd.sizeOf22 rfl rfl rfl (by simp) rfl rfl) (fun _ => ?_)
      refine Wl.nil ?_
      refine fun w_ h_ => hJ1 (k + 1) (y &&& (y - 1)) s13 _ w_ (by omega) ⟨(by omega), (Nat.lt_of_le_of_lt Nat.and_le_left hy), hbn_.2.1, (by have hb_ : b12 = true := (by simpa using h18); rw [hb_] at hs14; exact hs14)⟩ ?_ h_
      kernel_rfl
  · have qh8 := h8; try simp only [Bool.and_eq_true, Bool.or_eq_true, Bool.not_eq_true', Bool.not_eq_false', Bool.and_eq_false_iff, Bool.or_eq_false_iff, decide_eq_true_eq, decide_eq_false_iff_not, beq_iff_eq, bne_iff_ne, beq_eq_false_iff_ne, bne_eq_false_iff_eq] at qh8
    refine W.exit ?_
    show ∀ w_, _ → bodyPostM (fence none) 0 Tryd.prog Tryd.f52 _ Exit.normal _ w_
    exact fun w_ hS_ => fin_normal (ret0 rfl  ⟨s, (.inl (by have y0_ : y = 0 := (by omega); rw [y0_] at hb; rw [bits_end hb hk]; exact hphi)), rfl, (hS_.pick [0] (by decide) rfl)⟩)

theorem ones_it (x px : Nat) (M : List Nat) (w : World) (hx : x < 18446744073709551616) (htab : At w (some ⟨1, 0, none⟩) (byc dbt)) (hne : 0 < (byc dbt).length → (1 : Nat) ∉ M) : Iter3 Tryd.prog 52 #[.pointer (some ⟨px, 0, none⟩)] (fun k : Nat => [Value.int .i64 (((bitsL x).getD k 0 : Nat) : Int)]) (bitsL x).length [[cb px [Value.int .u64 ((x : Nat) : Int)] 22]] w M :=
  fun τ yv U Φ Ψ s0 hyl h0 hl _ => ones1_c x px M τ yv U Φ Ψ s0 w hx htab hne hyl h0 hl
theorem onesf_c (x : Nat) (w : World) : Calls Tryd.prog 46 #[Value.int .u64 ((x : Nat) : Int)] w (RetM w (fun _ : Nat => True) (fun b => .func (.func 52) #[] #[.pointer (some ⟨b, 0, none⟩)]) [] (fun b => [[cb b [.int .u64 ((x : Nat) : Int)] 22]])) := by
  refine calls_W (M := []) (LL := []) (n := 4) Tryd.func46 rfl rfl (by simp) (Mem.refl _) ?_
  refine W.seq (fun K1 hK1 => ?_)
  refine W.region ?_
  refine Wl.ht rfl (Ht.box (v := Value.int .u64 ((x : Nat) : Int)) (cs := [Value.int .u64 ((x : Nat) : Int)]) rfl rfl (by kernel_rfl) rfl) (fun p1 => ?_)
  refine Wl.run 1 (by kernel_rfl) ?_
  refine Wl.nil ?_
  refine hK1 _ _ _ ?_
  refine W.prune' [1] [Value.pointer (some ⟨p1, 0, none⟩)] (by kernel_rfl) (fun f2 => ?_)
  refine W.seq (fun K3 hK3 => ?_)
  refine W.region ?_
  refine Wl.run 2 (by kernel_rfl) ?_
  refine Wl.nil ?_
  refine hK3 _ _ _ ?_
  refine W.prune' [2] [Value.func (.func 52) #[] #[Value.pointer (some ⟨p1, 0, none⟩)]] (by kernel_rfl) (fun f4 => ?_)
  refine W.ret ?_
  show ∀ w_, _ → bodyPostM (fence none) 0 Tryd.prog Tryd.f46 _ Exit.ret _ w_
  exact fun w_ hS_ => fin_ret (ret1 rfl (RV.tmp (v := Value.func (.func 52) #[] #[Value.pointer (some ⟨p1, 0, none⟩)]) (by kernel_rfl)) hS_ ⟨p1, trivial, rfl, (hS_.pick [0] (by decide) rfl)⟩)

theorem allf_c (b : Nat) (w : World) : Calls Tryd.prog 34 #[Value.pointer (some ⟨b, 0, none⟩)] w (RetM w (fun _ : Nat => True) (fun q => .func (.func 45) #[] #[.pointer (some ⟨q, 0, none⟩)]) [] (fun q => [[cb q [.pointer (some ⟨b, 0, none⟩)] 25]])) := by
  refine calls_W (M := []) (LL := []) (n := 4) Tryd.func34 rfl rfl (by simp) (Mem.refl _) ?_
  refine W.seq (fun K1 hK1 => ?_)
  refine W.region ?_
  refine Wl.ht rfl (Ht.box (v := Value.pointer (some ⟨b, 0, none⟩)) (cs := [Value.pointer (some ⟨b, 0, none⟩)]) rfl rfl (by kernel_rfl) rfl) (fun p1 => ?_)
  refine Wl.run 1 (by kernel_rfl) ?_
  refine Wl.nil ?_
  refine hK1 _ _ _ ?_
  refine W.prune' [1] [Value.pointer (some ⟨p1, 0, none⟩)] (by kernel_rfl) (fun f2 => ?_)
  refine W.seq (fun K3 hK3 => ?_)
  refine W.region ?_
  refine Wl.run 2 (by kernel_rfl) ?_
  refine Wl.nil ?_
  refine hK3 _ _ _ ?_
  refine W.prune' [2] [Value.func (.func 45) #[] #[Value.pointer (some ⟨p1, 0, none⟩)]] (by kernel_rfl) (fun f4 => ?_)
  refine W.ret ?_
  show ∀ w_, _ → bodyPostM (fence none) 0 Tryd.prog Tryd.f34 _ Exit.ret _ w_
  exact fun w_ hS_ => fin_ret (ret1 rfl (RV.tmp (v := Value.func (.func 45) #[] #[Value.pointer (some ⟨p1, 0, none⟩)]) (by kernel_rfl)) hS_ ⟨p1, trivial, rfl, (hS_.pick [0] (by decide) rfl)⟩)

theorem listed1_c (out : List Int) (g : FS) (q : Int) (pu pq v : Nat) (M : List Nat) (w : World) (hl : Mem w M [g.seg 3 (mc (Value.int .i64) out), [cb pu [Value.slice g.a out.length g.cap] 50], [cb pq [Value.int .i64 q] 3]] w) (ok : g.ok 1 out.length) (hol : out.length ≤ 100000) (hv : v < 65536) : Calls Tryd.prog 35 #[Value.int .u16 ((v : Nat) : Int), Value.pointer (some ⟨pu, 0, none⟩), Value.pointer (some ⟨pq, 0, none⟩)] w (RetM w (fun g' : FS => g'.ok 1 (out ++ [((v : Nat) : Int)]).length) (fun _ => .bool (decide ((((out ++ [((v : Nat) : Int)]).length : Nat) : Int) < q))) M (fun g' => [g'.seg 3 (mc (Value.int .i64) (out ++ [((v : Nat) : Int)])), [cb pu [Value.slice g'.a ((out ++ [((v : Nat) : Int)]).length) g'.cap] 50], [cb pq [Value.int .i64 q] 3]])) := by
  refine calls_W (M := M) (LL := [g.seg 3 (mc (Value.int .i64) out), [cb pu [Value.slice g.a out.length g.cap] 50], [cb pq [Value.int .i64 q] 3]]) (n := 14) Tryd.func35 rfl rfl (by simp) (hl) ?_
  refine W.seq (fun K1 hK1 => ?_)
  refine W.region ?_
  refine Wl.run 1 (by kernel_rfl) ?_
  refine Wl.nil ?_
  refine hK1 _ _ _ ?_
  refine W.seq (fun K2 hK2 => ?_)
  refine W.region ?_
  refine Wl.ys (v := Value.slice g.a out.length g.cap) rfl rfl (Ys.load (b := pu) (o' := 0) (i := 1) (j := 0) (cs := [Value.slice g.a out.length g.cap]) (v := Value.slice g.a out.length g.cap) rfl (by kernel_rfl) Tryd.isAgg50 rfl rfl rfl) ?_
  refine Wl.run 1 (by kernel_rfl) ?_
  refine Wl.ys (v := Value.int .i64 ((v : Nat) : Int)) rfl rfl ((Ys.pure (v := .int .i64 (icnv .i64 ((v : Nat) : Int))) (fun _ => by kernel_rfl)).conseq (int_congr (wrap_i64 (by omega) (by omega)))) ?_
  refine Wl.ht rfl (Ht.made (mk := fun b_ => .slice (some ⟨b_, 0, none⟩) 1 1) (t := 3) (cs := [Value.int .i64 ((v : Nat) : Int)]) rfl (fun _ => by kernel_rfl)) (fun p8 => ?_)
  refine Wl.htS rfl (HtS.append (eu := 3) (xv := Value.slice (some ⟨p8, 0, none⟩) 1 1) (i := 1) (g := g) (e := 3) (ii := (Tryd.prog.info? 3).getD default) (z := Value.int .i64 0) (sz := 1) (bytes := 8) (nn := out.length) (m := 1) (k := (out ++ [((v : Nat) : Int)]).length) (xs := mc (Value.int .i64) out) (news := mc (Value.int .i64) [((v : Nat) : Int)]) (cs' := mc (Value.int .i64) (out ++ [((v : Nat) : Int)])) (Lo := fun g3 => [[cb p8 [Value.int .i64 ((v : Nat) : Int)] 3], g3.seg 3 (mc (Value.int .i64) (out ++ [((v : Nat) : Int)])), [cb pu [Value.slice g.a out.length g.cap] 50], [cb pq [Value.int .i64 q] 3]]) rfl rfl (by kernel_rfl) (by kernel_rfl) (by kernel_rfl) (by kernel_rfl) (by kernel_rfl) (by kernel_rfl) (by kernel_rfl) (by kernel_rfl) (by kernel_rfl) rfl ok (mc_len1 _) (fun _ => rfl) (Src.at (a := some ⟨p8, 0, none⟩) (by first | rfl | (rw [mc_len, List.length_take]; omega) | (rw [mc_len, List.length_take, List.length_drop]; omega) | (simp [mc, be_len]; done) | (simp [mc, be_len]; omega)) (fun w_ h_ => (At.lit0 (i := 0) (j := 0) (t := 3) (b := p8) h_ rfl rfl))) (by first | rfl | (rw [mc_len, List.length_take]; omega) | (rw [mc_len, List.length_take, List.length_drop]; omega) | (simp [mc, be_len]; done) | (simp [mc, be_len]; omega)) (mc_one (fun _ => rfl) _) (by first | omega | (simp; done) | (simp; omega)) (by simp only [maxLen]; first | omega | (simp; done) | (simp; omega)) (by first | omega | (simp; done) | (simp; omega)) (mc_app _ _) (fun _ => rfl)) (fun g3 hx8 => ?_)
  obtain ⟨ok4, hn5, hn6⟩ := hx8
  refine Wl.ht rfl (Ht.store (b := pu) (o' := 0) (i := 2) (j := 0) (cs := [Value.slice g.a out.length g.cap]) (cs' := [Value.slice g3.a ((out ++ [((v : Nat) : Int)]).length) g3.cap]) (v := Value.slice g3.a ((out ++ [((v : Nat) : Int)]).length) g3.cap) (LL' := [[cb p8 [Value.int .i64 ((v : Nat) : Int)] 3], g3.seg 3 (mc (Value.int .i64) (out ++ [((v : Nat) : Int)])), [cb pu [Value.slice g3.a ((out ++ [((v : Nat) : Int)]).length) g3.cap] 50], [cb pq [Value.int .i64 q] 3]]) rfl rfl (by kernel_rfl) (by kernel_rfl) Tryd.sizeOf50 rfl rfl rfl (by simp) rfl rfl) (fun _ => ?_)
  refine Wl.nil ?_
  refine hK2 _ _ _ ?_
  refine W.pick (LL' := [g3.seg 3 (mc (Value.int .i64) (out ++ [((v : Nat) : Int)])), [cb pu [Value.slice g3.a ((out ++ [((v : Nat) : Int)]).length) g3.cap] 50], [cb pq [Value.int .i64 q] 3]]) [1, 2, 3] (by decide) rfl ?_
  refine W.prune' [1, 2] [Value.pointer (some ⟨pu, 0, none⟩), Value.pointer (some ⟨pq, 0, none⟩)] (by kernel_rfl) (fun f9 => ?_)
  refine W.seq (fun K10 hK10 => ?_)
  refine W.region ?_
  refine Wl.ys (v := Value.slice g3.a ((out ++ [((v : Nat) : Int)]).length) g3.cap) rfl rfl (Ys.load (b := pu) (o' := 0) (i := 1) (j := 0) (cs := [Value.slice g3.a ((out ++ [((v : Nat) : Int)]).length) g3.cap]) (v := Value.slice g3.a ((out ++ [((v : Nat) : Int)]).length) g3.cap) rfl (by kernel_rfl) Tryd.isAgg50 rfl rfl rfl) ?_
  refine Wl.run 1 (by kernel_rfl) ?_
  refine Wl.ys (v := Value.int .i64 q) rfl rfl (Ys.load (b := pq) (o' := 0) (i := 2) (j := 0) (cs := [Value.int .i64 q]) (v := Value.int .i64 q) rfl (by kernel_rfl) Tryd.isAgg3 rfl rfl rfl) ?_
  refine Wl.run 2 (by kernel_rfl) ?_
  refine Wl.nil ?_
  refine hK10 _ _ _ ?_
  refine W.prune' [4] [Value.bool (decide ((((out ++ [((v : Nat) : Int)]).length : Nat) : Int) < q))] (by kernel_rfl) (fun f11 => ?_)
  refine W.ret ?_
  show ∀ w_, _ → bodyPostM (fence none) 0 Tryd.prog Tryd.f35 _ Exit.ret _ w_
  exact fun w_ hS_ => fin_ret (ret1 rfl (RV.tmp (v := Value.bool (decide ((((out ++ [((v : Nat) : Int)]).length : Nat) : Int) < q))) (by kernel_rfl)) hS_ ⟨g3, ok4, rfl, (hS_.pick [0, 1, 2] (by decide) rfl)⟩)

theorem all1_c (T : Nat → Bool) (n q : Int) (O : List Int) (gO : FS) (b pa pu pq : Nat) (M : List Nat) (w : World) (htab : At w (some ⟨1, 0, none⟩) (byc dbt)) (hne : 0 < (byc dbt).length → (1 : Nat) ∉ M) (hl : Mem w M [gO.seg 3 (mc (Value.int .i64) O), [cb pu [Value.slice gO.a O.length gO.cap] 50], [cb pq [Value.int .i64 q] 3], [cb b (psC T n) 74], [cb pa [Value.pointer (some ⟨b, 0, none⟩)] 25]] w) (okO : gO.ok 1 O.length) (hO : O = []) : Calls Tryd.prog 45 #[Value.func (.func 35) #[] #[Value.pointer (some ⟨pu, 0, none⟩), Value.pointer (some ⟨pq, 0, none⟩)], Value.pointer (some ⟨pa, 0, none⟩)] w (RetM w (fun g' : FS => g'.ok 1 (ci (lst T q)).length) (fun _ => .tuple #[]) M (fun g' => [g'.seg 3 (mc (Value.int .i64) (ci (lst T q))), [cb pu [Value.slice g'.a ((ci (lst T q)).length) g'.cap] 50], [cb pq [Value.int .i64 q] 3], [cb b (psC T n) 74], [cb pa [Value.pointer (some ⟨b, 0, none⟩)] 25]])) := by
  have hwd_ := wd_lt T
  refine calls_W (M := M) (LL := [gO.seg 3 (mc (Value.int .i64) O), [cb pu [Value.slice gO.a O.length gO.cap] 50], [cb pq [Value.int .i64 q] 3], [cb b (psC T n) 74], [cb pa [Value.pointer (some ⟨b, 0, none⟩)] 25]]) (n := 26) Tryd.func45 rfl rfl (by simp) (hl) ?_
  refine W.seq (fun K1 hK1 => ?_)
  refine W.region ?_
  refine Wl.ht rfl (Ht.box (v := Value.func (.func 35) #[] #[Value.pointer (some ⟨pu, 0, none⟩), Value.pointer (some ⟨pq, 0, none⟩)]) (cs := [Value.func (.func 35) #[] #[Value.pointer (some ⟨pu, 0, none⟩), Value.pointer (some ⟨pq, 0, none⟩)]]) rfl rfl (by kernel_rfl) rfl) (fun p2 => ?_)
  refine Wl.nil ?_
  refine hK1 _ _ _ ?_
  refine W.seq (fun K2 hK2 => ?_)
  refine W.region ?_
  refine Wl.ys (v := Value.pointer (some ⟨b, 0, none⟩)) rfl rfl (Ys.load (b := pa) (o' := 0) (i := 5) (j := 0) (cs := [Value.pointer (some ⟨b, 0, none⟩)]) (v := Value.pointer (some ⟨b, 0, none⟩)) rfl (by kernel_rfl) Tryd.isAgg25 rfl rfl rfl) ?_
  refine Wl.run 2 (by kernel_rfl) ?_
  refine Wl.ys (v := Value.agg (wsC T).toArray) rfl rfl (Ys.ldN (a := ⟨b, 0, none⟩) (sz := 1024) (vs := wsC T) rfl (by kernel_rfl) Tryd.isAgg72 Tryd.sizeOf72 (wsC_len _) (fun w_ h_ => Mem.cells (o := 0) (i := 4) (j := 0) (cs := psC T n) (t := 74) h_ rfl rfl (fun q v hq => psC_sub hq))) ?_
  refine Wl.run 1 (by kernel_rfl) ?_
  refine Wl.nil ?_
  refine hK2 _ _ _ ?_
  refine W.prune' [2, 9, 10] [Value.pointer (some ⟨p2, 0, none⟩), Value.agg (wsC T).toArray, Value.int .i64 0] (by kernel_rfl) (fun f3 => ?_)
  refine W.block ?_
  refine W.conseq (S' := Mem w M [dBs [], [cb p2 [Value.func (.func 35) #[] #[Value.pointer (some ⟨pu, 0, none⟩), Value.pointer (some ⟨pq, 0, none⟩)]] 31], gO.seg 3 (mc (Value.int .i64) O), [cb pu [Value.slice gO.a O.length gO.cap] 50], [cb pq [Value.int .i64 q] 3], [cb b (psC T n) 74], [cb pa [Value.pointer (some ⟨b, 0, none⟩)] 25]]) (fun w_ h_ => Mem.flat (LL := [[cb p2 [Value.func (.func 35) #[] #[Value.pointer (some ⟨pu, 0, none⟩), Value.pointer (some ⟨pq, 0, none⟩)]] 31], gO.seg 3 (mc (Value.int .i64) O), [cb pu [Value.slice gO.a O.length gO.cap] 50], [cb pq [Value.int .i64 q] 3], [cb b (psC T n) 74], [cb pa [Value.pointer (some ⟨b, 0, none⟩)] 25]]) (by simp) h_) ?_
  refine W.loopD4 [2, 9, 10] (fun (i : Nat) (out : List Int) (g : FS) (es : List Nat) => [Value.pointer (some ⟨p2, 0, none⟩), Value.agg (wsC T).toArray, Value.int .i64 ((i : Nat) : Int)]) (fun (i : Nat) (out : List Int) (g : FS) (es : List Nat) => i ≤ 1024 ∧ g.ok 1 out.length ∧ out = ci (plI T (64 * i)) ∧ out.length < mxN q) (fun (i : Nat) (out : List Int) (g : FS) (es : List Nat) => [dBs es, [cb p2 [Value.func (.func 35) #[] #[Value.pointer (some ⟨pu, 0, none⟩), Value.pointer (some ⟨pq, 0, none⟩)]] 31], g.seg 3 (mc (Value.int .i64) out), [cb pu [Value.slice g.a out.length g.cap] 50], [cb pq [Value.int .i64 q] 3], [cb b (psC T n) 74], [cb pa [Value.pointer (some ⟨b, 0, none⟩)] 25]]) (fun (i : Nat) (out : List Int) (g : FS) (es : List Nat) => 1024 - i) (fun (i : Nat) (out : List Int) (g : FS) (es : List Nat) => es.map Base.mk) 0 O gO [] rfl (by kernel_rfl) ⟨(Nat.zero_le _), okO, (by rw [hO]; rfl), (by have z_ := mx_pos q; rw [hO]; exact z_)⟩ (by rfl) (fun i out g es f5 J4 hp6 hJ4 => ?_)
  obtain ⟨hi, ok, hout, hlt⟩ := hp6
  have hwdi_ := wd_lt T i
  refine W.seq (fun K7 hK7 => ?_)
  refine W.region ?_
  refine Wl.run 1 (by kernel_rfl) ?_
  refine Wl.nil ?_
  refine hK7 _ _ _ ?_
  refine W.seq (fun K8 hK8 => ?_)
  refine W.cond (decide (((i : Nat) : Int) < 1024)) (by kernel_rfl) (fun h9 => ?_) (fun h10 => ?_)
  · have qh9 := h9; try simp only [Bool.and_eq_true, Bool.or_eq_true, Bool.not_eq_true', Bool.not_eq_false', Bool.and_eq_false_iff, Bool.or_eq_false_iff, decide_eq_true_eq, decide_eq_false_iff_not, beq_iff_eq, bne_iff_ne, beq_eq_false_iff_ne, bne_eq_false_iff_eq] at qh9
    refine W.skip' ?_
    refine hK8 _ _ _ ?_
    refine W.prune' [2, 9, 10] [Value.pointer (some ⟨p2, 0, none⟩), Value.agg (wsC T).toArray, Value.int .i64 ((i : Nat) : Int)] (by kernel_rfl) (fun f11 => ?_)
    refine W.seq (fun K12 hK12 => ?_)
    refine W.block ?_
    refine W.seq (fun K13 hK13 => ?_)
    refine W.region ?_
    refine Wl.run 1 (by kernel_rfl) ?_
    refine Wl.ys (v := Value.int .u64 ((wd T i : Nat) : Int)) rfl rfl (Ys.indexVal (e := 22) (k := .i64) (cs := wsC T) (i := i) (len := 1024) rfl (by kernel_rfl) (by kernel_rfl) Tryd.runUnderlying72 Tryd.sizeOf22 Tryd.isAgg22 (by omega) (wsC_get (by omega))) ?_
    refine Wl.ht rfl (Ht.alloc (z := Value.int .i64 0) (cs := [Value.int .i64 0]) rfl rfl Tryd.zeroValue3 rfl) (fun p3 => ?_)
    refine Wl.ht rfl (Ht.store (b := p3) (o' := 0) (i := 0) (j := 0) (cs := [Value.int .i64 0]) (cs' := [Value.int .i64 ((i : Nat) : Int)]) (v := Value.int .i64 ((i : Nat) : Int)) (LL' := [[cb p3 [Value.int .i64 ((i : Nat) : Int)] 3], dBs es, [cb p2 [Value.func (.func 35) #[] #[Value.pointer (some ⟨pu, 0, none⟩), Value.pointer (some ⟨pq, 0, none⟩)]] 31], g.seg 3 (mc (Value.int .i64) out), [cb pu [Value.slice g.a out.length g.cap] 50], [cb pq [Value.int .i64 q] 3], [cb b (psC T n) 74], [cb pa [Value.pointer (some ⟨b, 0, none⟩)] 25]]) rfl rfl (by kernel_rfl) (by kernel_rfl) Tryd.sizeOf3 rfl rfl rfl (by simp) rfl rfl) (fun _ => ?_)
    refine Wl.run 1 (by kernel_rfl) ?_
    refine Wl.nil ?_
    refine hK13 _ _ _ ?_
    refine W.prune' [2, 3, 4, 9, 10] [Value.pointer (some ⟨p2, 0, none⟩), Value.pointer (some ⟨p3, 0, none⟩), Value.int .u64 ((wd T i : Nat) : Int), Value.agg (wsC T).toArray, Value.int .i64 ((i : Nat) : Int)] (by kernel_rfl) (fun f14 => ?_)
    refine W.seq (fun K15 hK15 => ?_)
    refine W.region ?_
    refine Wl.run 1 (by kernel_rfl) ?_
    refine Wl.htS rfl (HtS.call (β := Nat) (k := 46) (args := #[Value.int .u64 ((wd T i : Nat) : Int)]) (Lin := []) (Lk := [[cb p3 [Value.int .i64 ((i : Nat) : Int)] 3], dBs es, [cb p2 [Value.func (.func 35) #[] #[Value.pointer (some ⟨pu, 0, none⟩), Value.pointer (some ⟨pq, 0, none⟩)]] 31], g.seg 3 (mc (Value.int .i64) out), [cb pu [Value.slice g.a out.length g.cap] 50], [cb pq [Value.int .i64 q] 3], [cb b (psC T n) 74], [cb pa [Value.pointer (some ⟨b, 0, none⟩)] 25]]) (Mi := []) (Lo := fun px16 => [[cb px16 [Value.int .u64 ((wd T i : Nat) : Int)] 22], [cb p3 [Value.int .i64 ((i : Nat) : Int)] 3], dBs es, [cb p2 [Value.func (.func 35) #[] #[Value.pointer (some ⟨pu, 0, none⟩), Value.pointer (some ⟨pq, 0, none⟩)]] 31], g.seg 3 (mc (Value.int .i64) out), [cb pu [Value.slice g.a out.length g.cap] 50], [cb pq [Value.int .i64 q] 3], [cb b (psC T n) 74], [cb pa [Value.pointer (some ⟨b, 0, none⟩)] 25]]) [] [0, 1, 2, 3, 4, 5, 6, 7] rfl (fun _ => by kernel_rfl) (by decide) rfl rfl rfl (fun w_ hm_ hl_ => (onesf_c (wd T i) _)) (fun _ => rfl)) (fun px16 _ => ?_)
    refine Wl.nil ?_
    refine hK15 _ _ _ ?_
    refine W.prune' [2, 3, 9, 10, 15] [Value.pointer (some ⟨p2, 0, none⟩), Value.pointer (some ⟨p3, 0, none⟩), Value.agg (wsC T).toArray, Value.int .i64 ((i : Nat) : Int), Value.func (.func 52) #[] #[Value.pointer (some ⟨px16, 0, none⟩)]] (by kernel_rfl) (fun f18 => ?_)
    refine W.block ?_
    refine W.range3 (σ := List Int × FS) (enc := fun k => [Value.int .i64 (((bitsL (wd T i)).getD k 0 : Nat) : Int)]) (N := (bitsL (wd T i)).length) (Lu := fun (s : List Int × FS) => [[cb p3 [Value.int .i64 ((i : Nat) : Int)] 3], [cb p2 [Value.func (.func 35) #[] #[Value.pointer (some ⟨pu, 0, none⟩), Value.pointer (some ⟨pq, 0, none⟩)]] 31], s.2.seg 3 (mc (Value.int .i64) s.1), [cb pu [Value.slice s.2.a s.1.length s.2.cap] 50], [cb pq [Value.int .i64 q] 3]]) (Li := [[cb px16 [Value.int .u64 ((wd T i : Nat) : Int)] 22]]) (Lk := [dBs es, [cb b (psC T n) 74], [cb pa [Value.pointer (some ⟨b, 0, none⟩)] 25]]) [1, 3, 4, 5, 6] [0] [2, 7, 8] (out, g) (fun k (s : List Int × FS) => s.2.ok 1 s.1.length ∧ s.1 = ci (plI T (64 * i) ++ ((bitsL (wd T i)).take k).map (64 * i + ·)) ∧ s.1.length < mxN q) (fun c_ (s : List Int × FS) => ((c_ = .ret ∧ s.2.ok 1 s.1.length ∧ s.1 = ci (lst T q)))) [16] (by kernel_rfl) (fun _ _ => rfl) (by decide) (by rfl) rfl rfl rfl (fun _ => rfl) (⟨ok, (by show out = _; rw [hout]; simp), hlt⟩) (fun D_ l_ ob_ w1_ hm_ => (ones_it (wd T i) px16 _ w1_ (by omega) (At.into (L := [dB D_, lB l_ ob_, [cb p3 [Value.int .i64 ((i : Nat) : Int)] 3], [cb p2 [Value.func (.func 35) #[] #[Value.pointer (some ⟨pu, 0, none⟩), Value.pointer (some ⟨pq, 0, none⟩)]] 31], g.seg 3 (mc (Value.int .i64) out), [cb pu [Value.slice g.a out.length g.cap] 50], [cb pq [Value.int .i64 q] 3], [cb px16 [Value.int .u64 ((wd T i : Nat) : Int)] 22]]) (R := [dBs es, [cb b (psC T n) 74], [cb pa [Value.pointer (some ⟨b, 0, none⟩)] 25]]) htab hne hm_).1 (At.into (L := [dB D_, lB l_ ob_, [cb p3 [Value.int .i64 ((i : Nat) : Int)] 3], [cb p2 [Value.func (.func 35) #[] #[Value.pointer (some ⟨pu, 0, none⟩), Value.pointer (some ⟨pq, 0, none⟩)]] 31], g.seg 3 (mc (Value.int .i64) out), [cb pu [Value.slice g.a out.length g.cap] 50], [cb pq [Value.int .i64 q] 3], [cb px16 [Value.int .u64 ((wd T i : Nat) : Int)] 22]]) (R := [dBs es, [cb b (psC T n) 74], [cb pa [Value.pointer (some ⟨b, 0, none⟩)] 25]]) htab hne hm_).2)) ?_ ?_ ?_
    · intro D19 l20 ob21 ob22 k s24 u25 Mu26 J27 hi28 hp29 hcv30 hJ31
      obtain ⟨out2, g2⟩ := s24
      obtain ⟨ok2, hou, hlt2⟩ := hp29
      have hou_ : out2 = ci (plI T (64 * i) ++ ((bitsL (wd T i)).take k).map (64 * i + ·)) := hou
      have hlt_ : out2.length < mxN q := hlt2
      have hkb_ := bits_lt (List.getElem_mem (l := (bitsL (wd T i))) (n := k) (by omega))
      have hkg_ : (bitsL (wd T i)).getD k 0 < 64 := by rw [List.getD_eq_getElem?_getD, List.getElem?_eq_getElem (by omega)]; exact hkb_
      have hol_ : out2.length ≤ 100000 := by rw [hou_]; exact ci_bnd (by omega)
      refine W.region ?_
      refine Wl.run 1 (by kernel_rfl) ?_
      refine Wl.nil ?_
      refine fun w_ h_ => hJ31 _ [[cb p3 [Value.int .i64 ((i : Nat) : Int)] 3], [cb p2 [Value.func (.func 35) #[] #[Value.pointer (some ⟨pu, 0, none⟩), Value.pointer (some ⟨pq, 0, none⟩)]] 31], g2.seg 3 (mc (Value.int .i64) out2), [cb pu [Value.slice g2.a out2.length g2.cap] 50], [cb pq [Value.int .i64 q] 3]] ?_ w_ h_
      refine W.prune' [2, 3, 5] [Value.pointer (some ⟨p2, 0, none⟩), Value.pointer (some ⟨p3, 0, none⟩), Value.int .i64 (((bitsL (wd T i)).getD k 0 : Nat) : Int)] (by kernel_rfl) (fun f32 => ?_)
      refine W.block ?_
      refine W.seq (fun K33 hK33 => ?_)
      refine W.region ?_
      refine Wl.ys (v := Value.func (.func 35) #[] #[Value.pointer (some ⟨pu, 0, none⟩), Value.pointer (some ⟨pq, 0, none⟩)]) rfl rfl (Ys.load (b := p2) (o' := 0) (i := 3) (j := 0) (cs := [Value.func (.func 35) #[] #[Value.pointer (some ⟨pu, 0, none⟩), Value.pointer (some ⟨pq, 0, none⟩)]]) (v := Value.func (.func 35) #[] #[Value.pointer (some ⟨pu, 0, none⟩), Value.pointer (some ⟨pq, 0, none⟩)]) rfl (by kernel_rfl) Tryd.isAgg31 rfl rfl rfl) ?_
      refine Wl.ys (v := Value.int .i64 ((i : Nat) : Int)) rfl rfl (Ys.load (b := p3) (o' := 0) (i := 2) (j := 0) (cs := [Value.int .i64 ((i : Nat) : Int)]) (v := Value.int .i64 ((i : Nat) : Int)) rfl (by kernel_rfl) Tryd.isAgg3 rfl rfl rfl) ?_
      refine Wl.ys (v := Value.int .i64 ((i * 64 : Nat) : Int)) rfl rfl ((Ys.pure (v := .int .i64 (imul .i64 ((i : Nat) : Int) 64)) (fun _ => by kernel_rfl)).conseq (int_congr (imul_eq (by first | omega | rfl | (push_cast; rfl)) (by omega) (by omega)))) ?_
      refine Wl.run 1 (by kernel_rfl) ?_
      refine Wl.ys (v := Value.int .i64 (((i * 64) + ((bitsL (wd T i)).getD k 0) : Nat) : Int)) rfl rfl ((Ys.pure (v := .int .i64 (iadd .i64 ((i * 64 : Nat) : Int) (((bitsL (wd T i)).getD k 0 : Nat) : Int))) (fun _ => by kernel_rfl)).conseq (int_congr (iadd_eq (by omega) (by omega) (by omega)))) ?_
      refine Wl.ys (v := Value.int .u16 ((((i * 64) + ((bitsL (wd T i)).getD k 0)) % 65536 : Nat) : Int)) rfl rfl ((Ys.pure (v := .int .u16 (icnv .u16 (((i * 64) + ((bitsL (wd T i)).getD k 0) : Nat) : Int))) (fun _ => by kernel_rfl)).conseq (int_congr (icnv_mod rfl _))) ?_
      obtain ⟨Z36, hZ37⟩ : ∃ z, out2 ++ [(((((i * 64) + ((bitsL (wd T i)).getD k 0)) % 65536) : Nat) : Int)] = z := ⟨_, rfl⟩
      have lZ36 : Z36.length = out2.length + 1 := hZ37 ▸ List.length_append
      refine Wl.htS rfl (HtS.call (β := FS) (k := 35) (args := #[Value.int .u16 ((((i * 64) + ((bitsL (wd T i)).getD k 0)) % 65536 : Nat) : Int), Value.pointer (some ⟨pu, 0, none⟩), Value.pointer (some ⟨pq, 0, none⟩)]) (Lin := [g2.seg 3 (mc (Value.int .i64) out2), [cb pu [Value.slice g2.a out2.length g2.cap] 50], [cb pq [Value.int .i64 q] 3]]) (Lk := [dB D19, lB l20 ob22, [cb p3 [Value.int .i64 ((i : Nat) : Int)] 3], [cb p2 [Value.func (.func 35) #[] #[Value.pointer (some ⟨pu, 0, none⟩), Value.pointer (some ⟨pq, 0, none⟩)]] 31]]) (Lo := fun g34 => [g34.seg 3 (mc (Value.int .i64) Z36), [cb pu [Value.slice g34.a Z36.length g34.cap] 50], [cb pq [Value.int .i64 q] 3], dB D19, lB l20 ob22, [cb p3 [Value.int .i64 ((i : Nat) : Int)] 3], [cb p2 [Value.func (.func 35) #[] #[Value.pointer (some ⟨pu, 0, none⟩), Value.pointer (some ⟨pq, 0, none⟩)]] 31]]) [4, 5, 6] [0, 1, 2, 3] rfl (fun _ => by kernel_rfl) (by decide) rfl rfl rfl (fun w_ hm_ hl_ => (hZ37 ▸ listed1_c out2 g2 q pu pq (((i * 64) + ((bitsL (wd T i)).getD k 0)) % 65536) _ _ hl_ ok2 (by omega) (by omega))) (fun _ => rfl)) (fun g34 ok35 => ?_)
      refine Wl.run 1 (by kernel_rfl) ?_
      refine Wl.nil ?_
      refine hK33 _ _ _ ?_
      refine W.prune' [24] [Value.bool (!(decide (((Z36.length : Nat) : Int) < q)))] (by kernel_rfl) (fun f39 => ?_)
      refine W.cond (!(decide (((Z36.length : Nat) : Int) < q))) (by kernel_rfl) (fun h40 => ?_) (fun h41 => ?_)
      · have qh40 := h40; try simp only [Bool.and_eq_true, Bool.or_eq_true, Bool.not_eq_true', Bool.not_eq_false', Bool.and_eq_false_iff, Bool.or_eq_false_iff, decide_eq_true_eq, decide_eq_false_iff_not, beq_iff_eq, bne_iff_ne, beq_eq_false_iff_ne, bne_eq_false_iff_eq] at qh40
        refine W.ret ?_
        have hm_ : out2.length + 1 = mxN q := mx_eq (by have z_ := h40; simp at z_; omega) hlt_
        rw [hou_] at hm_
        exact fun w_ h_ => Exists.intro (Z36, g34) (And.intro ⟨rfl, ⟨ok35, (by show Z36 = _; rw [← hZ37, hou_]; exact ci_stop (by omega) (by omega) (by omega) hm_)⟩⟩ (h_.pick [3, 4, 5, 6, 0, 1, 2] (by decide) rfl))
      · have qh41 := h41; try simp only [Bool.and_eq_true, Bool.or_eq_true, Bool.not_eq_true', Bool.not_eq_false', Bool.and_eq_false_iff, Bool.or_eq_false_iff, decide_eq_true_eq, decide_eq_false_iff_not, beq_iff_eq, bne_iff_ne, beq_eq_false_iff_ne, bne_eq_false_iff_eq] at qh41
        refine W.skip' ?_
        exact fun w_ h_ => Exists.intro (Z36, g34) (And.intro ⟨ok35, (by show Z36 = _; rw [← hZ37, hou_]; exact ci_step (by omega) (by omega)), (mx_lt (by simpa using h41))⟩ (h_.pick [3, 4, 5, 6, 0, 1, 2] (by decide) rfl))
    · intro D42 l43 ob44 s45 hp46
      obtain ⟨out2, g2⟩ := s45
      obtain ⟨ok2, hou, hlt2⟩ := hp46
      have hou_ : out2 = ci (plI T (64 * i) ++ (bitsL (wd T i)).map (64 * i + ·)) := by have z_ := hou; rw [List.take_length] at z_; exact z_
      have hlt : out2.length < mxN q := hlt2
      refine Mem.pickK (LL' := [[cb p3 [Value.int .i64 ((i : Nat) : Int)] 3], dBs es, [cb p2 [Value.func (.func 35) #[] #[Value.pointer (some ⟨pu, 0, none⟩), Value.pointer (some ⟨pq, 0, none⟩)]] 31], g2.seg 3 (mc (Value.int .i64) out2), [cb pu [Value.slice g2.a out2.length g2.cap] 50], [cb pq [Value.int .i64 q] 3], [cb b (psC T n) 74], [cb pa [Value.pointer (some ⟨b, 0, none⟩)] 25], dB D42]) [2, 7, 3, 4, 5, 6, 8, 9, 0] (by decide) rfl ?_
      refine Mem.pickK (LL' := [dB D42, [cb p3 [Value.int .i64 ((i : Nat) : Int)] 3], dBs es, [cb p2 [Value.func (.func 35) #[] #[Value.pointer (some ⟨pu, 0, none⟩), Value.pointer (some ⟨pq, 0, none⟩)]] 31], g2.seg 3 (mc (Value.int .i64) out2), [cb pu [Value.slice g2.a out2.length g2.cap] 50], [cb pq [Value.int .i64 q] 3], [cb b (psC T n) 74], [cb pa [Value.pointer (some ⟨b, 0, none⟩)] 25]]) [8, 0, 1, 2, 3, 4, 5, 6, 7] (by decide) rfl ?_
      refine Mem.pickK (LL' := [dB D42, dBs es, [cb p3 [Value.int .i64 ((i : Nat) : Int)] 3], [cb p2 [Value.func (.func 35) #[] #[Value.pointer (some ⟨pu, 0, none⟩), Value.pointer (some ⟨pq, 0, none⟩)]] 31], g2.seg 3 (mc (Value.int .i64) out2), [cb pu [Value.slice g2.a out2.length g2.cap] 50], [cb pq [Value.int .i64 q] 3], [cb b (psC T n) 74], [cb pa [Value.pointer (some ⟨b, 0, none⟩)] 25]]) [0, 2, 1, 3, 4, 5, 6, 7, 8] (by decide) rfl ?_
      refine Mem.flatK (LL' := [dBs (D42 :: es), [cb p3 [Value.int .i64 ((i : Nat) : Int)] 3], [cb p2 [Value.func (.func 35) #[] #[Value.pointer (some ⟨pu, 0, none⟩), Value.pointer (some ⟨pq, 0, none⟩)]] 31], g2.seg 3 (mc (Value.int .i64) out2), [cb pu [Value.slice g2.a out2.length g2.cap] 50], [cb pq [Value.int .i64 q] 3], [cb b (psC T n) 74], [cb pa [Value.pointer (some ⟨b, 0, none⟩)] 25]]) rfl ?_
      refine hK12 _ _ _ ?_
      refine W.pick (LL' := [dBs (D42 :: es), [cb p2 [Value.func (.func 35) #[] #[Value.pointer (some ⟨pu, 0, none⟩), Value.pointer (some ⟨pq, 0, none⟩)]] 31], g2.seg 3 (mc (Value.int .i64) out2), [cb pu [Value.slice g2.a out2.length g2.cap] 50], [cb pq [Value.int .i64 q] 3], [cb b (psC T n) 74], [cb pa [Value.pointer (some ⟨b, 0, none⟩)] 25]]) [0, 2, 3, 4, 5, 6, 7] (by decide) rfl ?_
      refine W.prune' [2, 9, 10] [Value.pointer (some ⟨p2, 0, none⟩), Value.agg (wsC T).toArray, Value.int .i64 ((i : Nat) : Int)] (by kernel_rfl) (fun f47 => ?_)
      refine W.region ?_
      refine Wl.ys (v := Value.int .i64 ((i + 1 : Nat) : Int)) rfl rfl ((Ys.pure (v := .int .i64 (iadd .i64 ((i : Nat) : Int) 1)) (fun _ => by kernel_rfl)).conseq (int_congr (iadd_eq (by omega) (by omega) (by omega)))) ?_
      refine Wl.run 1 (by kernel_rfl) ?_
      refine Wl.nil ?_
      refine fun w_ h_ => hJ4 (i + 1) out2 g2 (D42 :: es) _ w_ (by omega) ⟨(by omega), ok2, (by rw [plI_word]; exact hou_), hlt⟩ ?_ h_
      kernel_rfl
    · intro D48 l49 ob50 c53 s51 hp52
      obtain ⟨out2, g2⟩ := s51
      rcases hp52 with ⟨rfl, ⟨ok2, hou⟩⟩
      refine W.pick (LL' := [[cb p3 [Value.int .i64 ((i : Nat) : Int)] 3], dBs es, [cb p2 [Value.func (.func 35) #[] #[Value.pointer (some ⟨pu, 0, none⟩), Value.pointer (some ⟨pq, 0, none⟩)]] 31], g2.seg 3 (mc (Value.int .i64) out2), [cb pu [Value.slice g2.a out2.length g2.cap] 50], [cb pq [Value.int .i64 q] 3], [cb b (psC T n) 74], [cb pa [Value.pointer (some ⟨b, 0, none⟩)] 25], dB D48]) [2, 7, 3, 4, 5, 6, 8, 9, 0] (by decide) rfl ?_
      refine W.pick (LL' := [dB D48, [cb p3 [Value.int .i64 ((i : Nat) : Int)] 3], dBs es, [cb p2 [Value.func (.func 35) #[] #[Value.pointer (some ⟨pu, 0, none⟩), Value.pointer (some ⟨pq, 0, none⟩)]] 31], g2.seg 3 (mc (Value.int .i64) out2), [cb pu [Value.slice g2.a out2.length g2.cap] 50], [cb pq [Value.int .i64 q] 3], [cb b (psC T n) 74], [cb pa [Value.pointer (some ⟨b, 0, none⟩)] 25]]) [8, 0, 1, 2, 3, 4, 5, 6, 7] (by decide) rfl ?_
      refine W.pick (LL' := [dB D48, dBs es, [cb p3 [Value.int .i64 ((i : Nat) : Int)] 3], [cb p2 [Value.func (.func 35) #[] #[Value.pointer (some ⟨pu, 0, none⟩), Value.pointer (some ⟨pq, 0, none⟩)]] 31], g2.seg 3 (mc (Value.int .i64) out2), [cb pu [Value.slice g2.a out2.length g2.cap] 50], [cb pq [Value.int .i64 q] 3], [cb b (psC T n) 74], [cb pa [Value.pointer (some ⟨b, 0, none⟩)] 25]]) [0, 2, 1, 3, 4, 5, 6, 7, 8] (by decide) rfl ?_
      refine W.conseq (S' := Mem w M [dBs (D48 :: es), [cb p3 [Value.int .i64 ((i : Nat) : Int)] 3], [cb p2 [Value.func (.func 35) #[] #[Value.pointer (some ⟨pu, 0, none⟩), Value.pointer (some ⟨pq, 0, none⟩)]] 31], g2.seg 3 (mc (Value.int .i64) out2), [cb pu [Value.slice g2.a out2.length g2.cap] 50], [cb pq [Value.int .i64 q] 3], [cb b (psC T n) 74], [cb pa [Value.pointer (some ⟨b, 0, none⟩)] 25]]) (fun w_ h_ => Mem.flat (LL := [dB D48, dBs es, [cb p3 [Value.int .i64 ((i : Nat) : Int)] 3], [cb p2 [Value.func (.func 35) #[] #[Value.pointer (some ⟨pu, 0, none⟩), Value.pointer (some ⟨pq, 0, none⟩)]] 31], g2.seg 3 (mc (Value.int .i64) out2), [cb pu [Value.slice g2.a out2.length g2.cap] 50], [cb pq [Value.int .i64 q] 3], [cb b (psC T n) 74], [cb pa [Value.pointer (some ⟨b, 0, none⟩)] 25]]) rfl h_) ?_
      refine W.ret ?_
      have hL_ : out2 = (ci (lst T q)) := hou
      show ∀ w_, _ → bodyPostM (fence none) 0 Tryd.prog Tryd.f45 _ Exit.ret _ w_
      exact fun w_ h0_ => fin_marks (es := (D48 :: es)) (LL := [[cb p3 [Value.int .i64 ((i : Nat) : Int)] 3], [cb p2 [Value.func (.func 35) #[] #[Value.pointer (some ⟨pu, 0, none⟩), Value.pointer (some ⟨pq, 0, none⟩)]] 31], g2.seg 3 (mc (Value.int .i64) out2), [cb pu [Value.slice g2.a out2.length g2.cap] 50], [cb pq [Value.int .i64 q] 3], [cb b (psC T n) 74], [cb pa [Value.pointer (some ⟨b, 0, none⟩)] 25]]) (h0_.pick [0, 1, 2, 3, 4, 5, 6, 7] (by decide) rfl) (fun w_ hS_ => ret0 rfl  ⟨g2, (by rw [← hL_]; exact ok2), rfl, (Mem.cast (LL := [g2.seg 3 (mc (Value.int .i64) out2), [cb pu [Value.slice g2.a out2.length g2.cap] 50], [cb pq [Value.int .i64 q] 3], [cb b (psC T n) 74], [cb pa [Value.pointer (some ⟨b, 0, none⟩)] 25]]) (by rw [hL_]; try rfl) (hS_.pick [2, 3, 4, 5, 6] (by decide) rfl))⟩)
  · have qh10 := h10; try simp only [Bool.and_eq_true, Bool.or_eq_true, Bool.not_eq_true', Bool.not_eq_false', Bool.and_eq_false_iff, Bool.or_eq_false_iff, decide_eq_true_eq, decide_eq_false_iff_not, beq_iff_eq, bne_iff_ne, beq_eq_false_iff_ne, bne_eq_false_iff_eq] at qh10
    refine W.exit ?_
    have hL_ : out = (ci (lst T q)) := lst_all (m := 64 * i) (by omega) hout hlt
    show ∀ w_, _ → bodyPostM (fence none) 0 Tryd.prog Tryd.f45 _ Exit.normal _ w_
    exact fun w_ h0_ => fin_marks (es := es) (LL := [[cb p2 [Value.func (.func 35) #[] #[Value.pointer (some ⟨pu, 0, none⟩), Value.pointer (some ⟨pq, 0, none⟩)]] 31], g.seg 3 (mc (Value.int .i64) out), [cb pu [Value.slice g.a out.length g.cap] 50], [cb pq [Value.int .i64 q] 3], [cb b (psC T n) 74], [cb pa [Value.pointer (some ⟨b, 0, none⟩)] 25]]) (h0_.pick [0, 1, 2, 3, 4, 5, 6] (by decide) rfl) (fun w_ hS_ => ret0 rfl  ⟨g, (by rw [← hL_]; exact ok), rfl, (Mem.cast (LL := [g.seg 3 (mc (Value.int .i64) out), [cb pu [Value.slice g.a out.length g.cap] 50], [cb pq [Value.int .i64 q] 3], [cb b (psC T n) 74], [cb pa [Value.pointer (some ⟨b, 0, none⟩)] 25]]) (by rw [hL_]; try rfl) (hS_.pick [1, 2, 3, 4, 5] (by decide) rfl))⟩)

end Go.Proofs.YtnhmajdpjapgjaaDoor.Oct
