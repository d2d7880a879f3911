/-
  Sets of ports. No condition.
-/
import Derived.Test.YtnhmajdpjapgjaaDoorPs0
set_option linter.unusedVariables false
set_option linter.unusedSimpArgs false
set_option maxRecDepth 20000
namespace Go.Proofs.YtnhmajdpjapgjaaDoor.Oct
open Go.RowKit Base
attribute [local irreducible] Ys Yc Ht HtS HtIn Wl Wd W Mem pf dpf

/-- The table of the lowest bits' places. -/
def dbt : List UInt8 := [0, 1, 56, 2, 57, 49, 28, 3, 61, 58, 42, 50, 38, 29, 17, 4, 62, 47, 59, 36, 45, 43, 51, 22, 53, 39, 33, 30, 24, 18, 12, 5, 63, 55, 48, 27, 60, 41, 37, 16, 46, 35, 44, 21, 52, 32, 23, 11, 54, 26, 40, 15, 34, 20, 31, 10, 25, 14, 19, 9, 13, 8, 7, 6]
theorem dbt_len : dbt.length = 64 := by decide
theorem dbt_all : (List.range 64).all (fun k => (dbt.getD ((2 ^ k * 285870213051353865) % 18446744073709551616 / 288230376151711744) 0).toNat == k) = true := by decide +kernel
theorem dbt_get {k : Nat} (h : k < 64) : (dbt.getD ((2 ^ k * 285870213051353865) % 18446744073709551616 / 288230376151711744) 0).toNat = k := by
  have := List.all_eq_true.1 dbt_all k (List.mem_range.2 h)
  simpa using this
theorem neg_nat {x : Nat} (h0 : 0 < x) (h : x < 18446744073709551616) : isub .u64 0 ((x : Nat) : Int) = ((18446744073709551616 - x : Nat) : Int) := by
  unfold isub IntKind.wrap
  simp only [IntKind.signed, IntKind.bits, Bool.false_and]
  rw [if_neg (by simp)]
  omega
theorem low_tz {x : Nat} (h0 : 0 < x) (h : x < 18446744073709551616) : x &&& (18446744073709551616 - x) = 2 ^ tz x := low_bit 64 x h0 h
theorem db_lt (t : Nat) : (2 ^ t * 285870213051353865) % 18446744073709551616 / 288230376151711744 < 64 := by
  have := Nat.mod_lt (2 ^ t * 285870213051353865) (show 0 < 18446744073709551616 by decide)
  omega
theorem tz_c (x : Nat) (w : World) (htab : At w (some ⟨1, 0, none⟩) (byc dbt)) (h0 : 0 < x) (hx : x < 18446744073709551616) : Calls Tryd.prog 42 #[Value.int .u64 ((x : Nat) : Int)] w (Ret w (.int .i64 ((tz x : Nat) : Int))) := by
  obtain ⟨zz, hzz⟩ : ∃ z : Nat, z = 2 ^ tz x := ⟨_, rfl⟩; have hl := dbt_len; have hdl := db_lt (tz x); rw [← hzz] at hdl; have hz2 : zz < 18446744073709551616 := (by rw [hzz]; exact Nat.lt_of_lt_of_le (Nat.pow_lt_pow_right (n := 64) (by decide) (tz_spec h0 hx).1) (by decide)); obtain ⟨qi, hqi⟩ : ∃ q : Nat, q = zz * 285870213051353865 % 18446744073709551616 / 288230376151711744 := ⟨_, rfl⟩; rw [← hqi] at hdl
  refine calls_W (M := []) (LL := []) (n := 14) Tryd.func42 rfl rfl (by simp) (Mem.refl _) ?_
  refine W.seq (fun K1 hK1 => ?_)
  refine W.region ?_
  refine Wl.run 1 (by kernel_rfl) ?_
  refine Wl.nil ?_
  refine hK1 _ _ _ ?_
  refine W.seq (fun K2 hK2 => ?_)
  refine W.seq (fun K3 hK3 => ?_)
  refine W.region ?_
  refine Wl.run 2 (by kernel_rfl) ?_
  refine Wl.nil ?_
  refine hK3 _ _ _ ?_
  refine W.prune' [0, 4] [Value.int .u64 ((x : Nat) : Int), Value.bool (((x : Nat) : Int) == 0)] (by kernel_rfl) (fun f4 => ?_)
  refine W.cond (((x : Nat) : Int) == 0) (by kernel_rfl) (fun h5 => ?_) (fun h6 => ?_)
  · have qh5 := h5; try simp only [Bool.and_eq_true, Bool.or_eq_true, Bool.not_eq_true', Bool.not_eq_false', Bool.and_eq_false_iff, Bool.or_eq_false_iff, decide_eq_true_eq, decide_eq_false_iff_not, beq_iff_eq, bne_iff_ne, beq_eq_false_iff_ne, bne_eq_false_iff_eq] at qh5
    exact absurd qh5 (by omega)
  · have qh6 := h6; try simp only [Bool.and_eq_true, Bool.or_eq_true, Bool.not_eq_true', Bool.not_eq_false', Bool.and_eq_false_iff, Bool.or_eq_false_iff, decide_eq_true_eq, decide_eq_false_iff_not, beq_iff_eq, bne_iff_ne, beq_eq_false_iff_ne, bne_eq_false_iff_eq] at qh6
    refine W.skip' ?_
    refine hK2 _ _ _ ?_
    refine W.prune' [0] [Value.int .u64 ((x : Nat) : Int)] (by kernel_rfl) (fun f7 => ?_)
    refine W.seq (fun K8 hK8 => ?_)
    refine W.region ?_
    refine Wl.run 2 (by kernel_rfl) ?_
    refine Wl.ys (v := Value.int .u64 ((18446744073709551616 - x : Nat) : Int)) rfl rfl ((Ys.pure (v := Value.int .u64 (isub .u64 0 ((x : Nat) : Int))) (fun _ => by kernel_rfl)).conseq (int_congr (neg_nat h0 hx))) ?_
    refine Wl.ys (v := Value.int .u64 ((zz : Nat) : Int)) rfl rfl (Ys.conseq (v := Value.int .u64 ((x &&& (18446744073709551616 - x) : Nat) : Int)) (int_congr (congrArg (fun n : Nat => (n : Int)) ((low_tz h0 hx).trans hzz.symm))) ((Ys.pure (v := .int .u64 (band .u64 ((x : Nat) : Int) ((18446744073709551616 - x : Nat) : Int))) (fun _ => by kernel_rfl)).conseq (int_congr (band_nat rfl (by show _ < 18446744073709551616; omega) (by show _ < 18446744073709551616; omega))))) ?_
    refine Wl.ys (v := Value.int .u64 (((zz * 285870213051353865) % 18446744073709551616 : Nat) : Int)) rfl rfl ((Ys.pure (v := .int .u64 (imul .u64 ((zz : Nat) : Int) ((285870213051353865 : Nat) : Int))) (fun _ => by kernel_rfl)).conseq (int_congr (imul_mod rfl))) ?_
    refine Wl.ys (v := Value.int .u64 ((qi : Nat) : Int)) rfl rfl (Ys.conseq (v := Value.int .u64 ((((zz * 285870213051353865) % 18446744073709551616) / 288230376151711744 : Nat) : Int)) (int_congr (congrArg (fun n : Nat => (n : Int)) hqi.symm)) ((Ys.pure (v := .int .u64 (ishr .u64 (((zz * 285870213051353865) % 18446744073709551616 : Nat) : Int) ((58 : Nat) : Int))) (fun _ => by kernel_rfl)).conseq (int_congr (ishr_nat ((zz * 285870213051353865) % 18446744073709551616) 58 (by decide))))) ?_
    refine Wl.ys (v := Value.pointer (some ⟨1, qi * 1, none⟩)) rfl rfl ((Ys.indexArr (k := .u64) (i := ((qi : Nat) : Int)) (sz := 1) rfl (by kernel_rfl) (by kernel_rfl) Tryd.runUnderlying100 Tryd.sizeOf5 (by omega) (by omega)).conseq (by rw [Nat.zero_add]; try rfl)) ?_
    refine Wl.ys (v := Value.int .u8 (((dbt.getD qi 0).toNat : Nat) : Int)) rfl rfl (Ys.ld (a := ⟨1, qi * 1, none⟩) rfl (by kernel_rfl) Tryd.isAgg5 (fun w_ h_ => by have x_ := (htab.mem0 h_).ld (q := qi * 1) (mc_get1 0 (by omega)); rw [ela_own0] at x_; exact x_)) ?_
    have hb9 : (dbt.getD qi 0).toNat < 256 := UInt8.toNat_lt _
    refine Wl.ys (v := Value.int .i64 (((dbt.getD qi 0).toNat : Nat) : Int)) rfl rfl ((Ys.pure (v := .int .i64 (icnv .i64 (((dbt.getD qi 0).toNat : Nat) : Int))) (fun _ => by kernel_rfl)).conseq (int_congr (wrap_i64 (by omega) (by omega)))) ?_
    refine Wl.run 1 (by kernel_rfl) ?_
    refine Wl.nil ?_
    refine hK8 _ _ _ ?_
    refine W.prune' [2] [Value.int .i64 (((dbt.getD qi 0).toNat : Nat) : Int)] (by kernel_rfl) (fun f10 => ?_)
    refine W.ret ?_
    show ∀ w_, _ → bodyPostM (fence none) 0 Tryd.prog Tryd.f42 _ Exit.ret _ w_
    exact fun w_ hS_ => fin_ret (ret1 rfl (RV.tmp (v := Value.int .i64 (((dbt.getD qi 0).toNat : Nat) : Int)) (by kernel_rfl)) hS_ ⟨by clear hK1 hK2 hK3 hK8; refine congrArg Ending.returned ?_; rw [hqi, hzz]; exact int_congr (congrArg (fun n : Nat => (n : Int)) (dbt_get (tz_spec h0 hx).1)), hS_.below⟩)

theorem has_c (T : Nat → Bool) (n : Int) (b p : Nat) (w : World) (hat : At w (some ⟨b, 0, none⟩) (psC T n)) (hp : p < 65536) : Calls Tryd.prog 16 #[Value.pointer (some ⟨b, 0, none⟩), Value.int .u16 ((p : Nat) : Int)] w (Ret w (.bool (T p))) := by
  have hwl := wd_lt T (p / 64); have hwd := Nat.lt_of_le_of_lt (Nat.div_le_self (wd T (p / 64)) (2 ^ (p % 64))) hwl; have hpm := Nat.mod_lt p (show 0 < 64 by decide)
  refine calls_W (M := []) (LL := []) (n := 17) Tryd.func16 rfl rfl (by simp) (Mem.refl _) ?_
  refine W.seq (fun K1 hK1 => ?_)
  refine W.region ?_
  refine Wl.run 1 (by kernel_rfl) ?_
  refine Wl.nil ?_
  refine hK1 _ _ _ ?_
  refine W.seq (fun K2 hK2 => ?_)
  refine W.region ?_
  refine Wl.run 2 (by kernel_rfl) ?_
  refine Wl.ys (v := Value.int .u16 ((p / 64 : Nat) : Int)) rfl rfl ((Ys.pure (v := .int .u16 (iquo .u16 ((p : Nat) : Int) ((64 : Nat) : Int))) (fun _ => by kernel_rfl)).conseq (int_congr (iquo_natu rfl (by show _ < 65536; omega)))) ?_
  refine Wl.run 2 (by kernel_rfl) ?_
  refine Wl.ys (v := Value.pointer (some ⟨b, (p / 64) * 1, none⟩)) rfl rfl ((Ys.indexArr (k := .u16) (i := ((p / 64 : Nat) : Int)) (sz := 1) rfl (by kernel_rfl) (by kernel_rfl) Tryd.runUnderlying72 Tryd.sizeOf22 (by omega) (by omega)).conseq (by rw [Nat.zero_add]; try rfl)) ?_
  refine Wl.ys (v := Value.int .u64 ((wd T (p / 64) : Nat) : Int)) rfl rfl (Ys.ld (a := ⟨b, (p / 64) * 1, none⟩) rfl (by kernel_rfl) Tryd.isAgg22 (fun w_ h_ => by have x_ := (hat.mem0 h_).ld (q := (p / 64) * 1) (psC_get1 (by omega)); rw [ela_own0] at x_; exact x_)) ?_
  refine Wl.run 1 (by kernel_rfl) ?_
  refine Wl.ys (v := Value.int .u16 ((p % 64 : Nat) : Int)) rfl rfl ((Ys.pure (v := .int .u16 (irem ((p : Nat) : Int) ((64 : Nat) : Int))) (fun _ => by kernel_rfl)).conseq (int_congr (rfl))) ?_
  refine Wl.ys (v := Value.int .u64 ((wd T (p / 64) / 2 ^ (p % 64) : Nat) : Int)) rfl rfl (Ys.conseq (v := Value.int .u64 (ishr .u64 ((wd T (p / 64) : Nat) : Int) ((p % 64 : Nat) : Int))) (int_congr (ishr_nat _ _ (by show _ ≤ 64; omega))) (Ys.shr (k := .u64) (k' := .u16) (a := ((wd T (p / 64) : Nat) : Int)) (b := ((p % 64 : Nat) : Int)) rfl (by kernel_rfl) (by kernel_rfl) (by omega))) ?_
  refine Wl.ys (v := Value.int .u64 (((wd T (p / 64) / 2 ^ (p % 64)) % 2 : Nat) : Int)) rfl rfl ((Ys.pure (v := .int .u64 (band .u64 ((wd T (p / 64) / 2 ^ (p % 64) : Nat) : Int) ((1 : Nat) : Int))) (fun _ => by kernel_rfl)).conseq (int_congr (band_mask rfl (a := wd T (p / 64) / 2 ^ (p % 64)) (c := 1) (by show _ < 18446744073709551616; omega) (by decide) 1 rfl))) ?_
  refine Wl.ys (v := Value.bool (T p)) rfl rfl ((Ys.pure (v := Value.bool ((((wd T (p / 64) / 2 ^ (p % 64)) % 2 : Nat) : Int) == 1)) (fun _ => by kernel_rfl)).conseq (bool_congr (has_bit))) ?_
  refine Wl.run 1 (by kernel_rfl) ?_
  refine Wl.nil ?_
  refine hK2 _ _ _ ?_
  refine W.prune' [4] [Value.bool (T p)] (by kernel_rfl) (fun f3 => ?_)
  refine W.ret ?_
  show ∀ w_, _ → bodyPostM (fence none) 0 Tryd.prog Tryd.f16 _ Exit.ret _ w_
  exact fun w_ hS_ => fin_ret (ret1 rfl (RV.tmp (v := Value.bool (T p)) (by kernel_rfl)) hS_ ⟨rfl, hS_.below⟩)

theorem len_c (T : Nat → Bool) (n : Int) (b : Nat) (w : World) (hat : At w (some ⟨b, 0, none⟩) (psC T n)) : Calls Tryd.prog 13 #[Value.pointer (some ⟨b, 0, none⟩)] w (Ret w (.int .i64 n)) := by
  refine calls_W (M := []) (LL := []) (n := 7) Tryd.func13 rfl rfl (by simp) (Mem.refl _) ?_
  refine W.seq (fun K1 hK1 => ?_)
  refine W.region ?_
  refine Wl.run 1 (by kernel_rfl) ?_
  refine Wl.nil ?_
  refine hK1 _ _ _ ?_
  refine W.seq (fun K2 hK2 => ?_)
  refine W.region ?_
  refine Wl.run 3 (by kernel_rfl) ?_
  refine Wl.ys (v := Value.int .i64 n) rfl rfl (Ys.ld (a := ⟨b, 1024, none⟩) rfl (by kernel_rfl) Tryd.isAgg3 (fun w_ h_ => by have x_ := (hat.mem0 h_).ld (q := 1024) (psC_cnt _ _); rw [ela_own0] at x_; exact x_)) ?_
  refine Wl.run 1 (by kernel_rfl) ?_
  refine Wl.nil ?_
  refine hK2 _ _ _ ?_
  refine W.prune' [2] [Value.int .i64 n] (by kernel_rfl) (fun f3 => ?_)
  refine W.ret ?_
  show ∀ w_, _ → bodyPostM (fence none) 0 Tryd.prog Tryd.f13 _ Exit.ret _ w_
  exact fun w_ hS_ => fin_ret (ret1 rfl (RV.tmp (v := Value.int .i64 n) (by kernel_rfl)) hS_ ⟨rfl, hS_.below⟩)

/-- Whether a port is taken so; the ports then; how many. -/
def tkB (T : Nat → Bool) (p : Nat) : Bool := !(decide (p < 1024) || T p)
def tkT (T : Nat → Bool) (p : Nat) : Nat → Bool := bif tkB T p then up T p true else T
def tkN (T : Nat → Bool) (p : Nat) (n : Int) : Int := bif tkB T p then n + 1 else n
def gvT (T : Nat → Bool) (p : Nat) : Nat → Bool := bif T p then up T p false else T
def gvN (T : Nat → Bool) (p : Nat) (n : Int) : Int := bif T p then n - 1 else n
theorem take_c (T : Nat → Bool) (n : Int) (b p : Nat) (w : World) (hl : Mem w [b] [[cb b (psC T n) 74]] w) (hp : p < 65536) (hn1 : -1000000000000 ≤ n) (hn2 : n ≤ 1000000000000) : Calls Tryd.prog 15 #[Value.pointer (some ⟨b, 0, none⟩), Value.int .u16 ((p : Nat) : Int)] w (RetM w (fun _ : Unit => True) (fun _ => .bool (tkB T p)) [b] (fun _ => [[cb b (psC (tkT T p) (tkN T p n)) 74]])) := by
  have hwl := wd_lt T (p / 64); have hwd := Nat.lt_of_le_of_lt (Nat.div_le_self (wd T (p / 64)) (2 ^ (p % 64))) hwl; have hpm := Nat.mod_lt p (show 0 < 64 by decide); have h2p : (2 : Nat) ^ (p % 64) < 18446744073709551616 := Nat.lt_of_lt_of_le (Nat.pow_lt_pow_right (n := 64) (by decide) hpm) (by decide)
  refine calls_W (M := [b]) (LL := [[cb b (psC T n) 74]]) (n := 33) Tryd.func15 rfl rfl (by simp) (hl) ?_
  refine W.seq (fun K1 hK1 => ?_)
  refine W.region ?_
  refine Wl.run 1 (by kernel_rfl) ?_
  refine Wl.nil ?_
  refine hK1 _ _ _ ?_
  refine W.seq (fun K2 hK2 => ?_)
  refine W.seq (fun K3 hK3 => ?_)
  refine W.region ?_
  refine Wl.run 3 (by kernel_rfl) ?_
  refine Wl.guard (v := Value.pointer (some ⟨b, 0, none⟩)) (!(decide (((p : Nat) : Int) < 1024))) rfl (wantF rfl (by kernel_rfl)) rfl (fun hg4 => ?_) ?_
  · have qhg4 := hg4; try simp only [Bool.and_eq_true, Bool.or_eq_true, Bool.not_eq_true', Bool.not_eq_false', Bool.and_eq_false_iff, Bool.or_eq_false_iff, decide_eq_true_eq, decide_eq_false_iff_not, beq_iff_eq, bne_iff_ne, beq_eq_false_iff_ne, bne_eq_false_iff_eq] at qhg4
    exact Ys.pure (fun _ => by kernel_rfl)
  refine Wl.guard (v := Value.int .u16 ((p : Nat) : Int)) (!(decide (((p : Nat) : Int) < 1024))) rfl (wantF rfl (by kernel_rfl)) rfl (fun hg5 => ?_) ?_
  · have qhg5 := hg5; try simp only [Bool.and_eq_true, Bool.or_eq_true, Bool.not_eq_true', Bool.not_eq_false', Bool.and_eq_false_iff, Bool.or_eq_false_iff, decide_eq_true_eq, decide_eq_false_iff_not, beq_iff_eq, bne_iff_ne, beq_eq_false_iff_ne, bne_eq_false_iff_eq] at qhg5
    exact Ys.pure (fun _ => by kernel_rfl)
  refine Wl.guardc (v := Value.bool (T p)) (!(decide (((p : Nat) : Int) < 1024))) rfl (wantF rfl (by kernel_rfl)) rfl (fun hg6 => ?_) ?_
  · have qhg6 := hg6; try simp only [Bool.and_eq_true, Bool.or_eq_true, Bool.not_eq_true', Bool.not_eq_false', Bool.and_eq_false_iff, Bool.or_eq_false_iff, decide_eq_true_eq, decide_eq_false_iff_not, beq_iff_eq, bne_iff_ne, beq_eq_false_iff_ne, bne_eq_false_iff_eq] at qhg6
    refine Yc.at (t := 8) (v0 := Value.pointer (some ⟨b, 0, none⟩)) (lz (g := !(decide (((p : Nat) : Int) < 1024))) (u := undef) hg6 (by kernel_rfl)) ?_
    refine Yc.at (t := 9) (v0 := Value.int .u16 ((p : Nat) : Int)) (lz (g := !(decide (((p : Nat) : Int) < 1024))) (u := undef) hg6 (by kernel_rfl)) ?_
    exact Yc.call (k := 16) (args := #[Value.pointer (some ⟨b, 0, none⟩), Value.int .u16 ((p : Nat) : Int)]) (fun _ => by kernel_rfl) (fun w_ hm_ => has_c T n b p _ (At.lit0 (i := 0) (j := 0) (t := 74) (b := b) hm_ rfl rfl) (by omega))
  refine Wl.ys (v := Value.bool ((decide (((p : Nat) : Int) < 1024)) || (T p))) rfl rfl (Ys.or' (e := decide (((p : Nat) : Int) < 1024)) (b := T p) rfl (by kernel_rfl) (by kernel_rfl) (by kernel_rfl)) ?_
  refine Wl.nil ?_
  refine hK3 _ _ _ ?_
  refine W.prune' [0, 1, 11] [Value.pointer (some ⟨b, 0, none⟩), Value.int .u16 ((p : Nat) : Int), Value.bool ((decide (((p : Nat) : Int) < 1024)) || (T p))] (by kernel_rfl) (fun f7 => ?_)
  refine W.cond ((decide (((p : Nat) : Int) < 1024)) || (T p)) (by kernel_rfl) (fun h8 => ?_) (fun h9 => ?_)
  · have qh8 := h8; try simp only [Bool.and_eq_true, Bool.or_eq_true, Bool.not_eq_true', Bool.not_eq_false', Bool.and_eq_false_iff, Bool.or_eq_false_iff, decide_eq_true_eq, decide_eq_false_iff_not, beq_iff_eq, bne_iff_ne, beq_eq_false_iff_ne, bne_eq_false_iff_eq] at qh8
    refine W.seq (fun K10 hK10 => ?_)
    refine W.region ?_
    refine Wl.run 1 (by kernel_rfl) ?_
    refine Wl.nil ?_
    refine hK10 _ _ _ ?_
    refine W.ret ?_
    have hB : tkB T p = false := by unfold tkB; rw [show (decide (p < 1024) || T p) = true from ?_]; rfl; have hz_ := h8; first | exact hz_ | (rw [← hz_]; congr 1; exact decide_eq_decide.2 (by omega))
    show ∀ w_, _ → bodyPostM (fence none) 0 Tryd.prog Tryd.f15 _ Exit.ret _ w_
    exact fun w_ hS_ => fin_ret (ret1 rfl (RV.tmp (v := Value.bool false) (by kernel_rfl)) hS_ ⟨(), trivial, congrArg Ending.returned ((by rw [hB])), (Mem.cast (by unfold tkT tkN; rw [hB]; rfl) hS_)⟩)
  · have qh9 := h9; try simp only [Bool.and_eq_true, Bool.or_eq_true, Bool.not_eq_true', Bool.not_eq_false', Bool.and_eq_false_iff, Bool.or_eq_false_iff, decide_eq_true_eq, decide_eq_false_iff_not, beq_iff_eq, bne_iff_ne, beq_eq_false_iff_ne, bne_eq_false_iff_eq] at qh9
    refine W.skip' ?_
    refine hK2 _ _ _ ?_
    refine W.prune' [0, 1] [Value.pointer (some ⟨b, 0, none⟩), Value.int .u16 ((p : Nat) : Int)] (by kernel_rfl) (fun f11 => ?_)
    refine W.seq (fun K12 hK12 => ?_)
    refine W.draws [(0, true), (1, true), (2, true), (3, true), (4, true), (5, true), (6, true), (7, true), (8, true), (9, true), (10, true), (11, false), (12, false), (13, false), (14, false)] [0, 1, 2, 3, 4, 5, 6, 7, 8, 9, 10] (Mem w [b] [[cb b (psC T n) 74]]) (by kernel_rfl) (by kernel_rfl) (by kernel_rfl) rfl (by kernel_rfl) (fun _ _ h_ => h_.drawn _) (fun _ h_ => h_) ?_
    refine Wd.run 2 (by kernel_rfl) ?_
    refine Wd.ys (v := Value.int .u16 ((p / 64 : Nat) : Int)) rfl rfl rfl ((Ys.pure (v := .int .u16 (iquo .u16 ((p : Nat) : Int) ((64 : Nat) : Int))) (fun _ => by kernel_rfl)).conseq (int_congr (iquo_natu rfl (by show _ < 65536; omega)))) ?_
    refine Wd.run 2 (by kernel_rfl) ?_
    refine Wd.ys (v := Value.pointer (some ⟨b, (p / 64) * 1, none⟩)) rfl rfl rfl ((Ys.indexArr (k := .u16) (i := ((p / 64 : Nat) : Int)) (sz := 1) rfl (by kernel_rfl) (by kernel_rfl) Tryd.runUnderlying72 Tryd.sizeOf22 (by omega) (by omega)).conseq (by rw [Nat.zero_add]; try rfl)) ?_
    refine Wd.ys (v := Value.int .u64 ((wd T (p / 64) : Nat) : Int)) rfl rfl rfl (Ys.load (b := b) (o' := (p / 64) * 1) (i := 0) (j := 0) (cs := psC T n) (v := Value.int .u64 ((wd T (p / 64) : Nat) : Int)) rfl (by kernel_rfl) Tryd.isAgg22 rfl rfl (psC_get1 (by omega))) ?_
    refine Wd.run 1 (by kernel_rfl) ?_
    refine Wd.ys (v := Value.int .u16 ((p % 64 : Nat) : Int)) rfl rfl rfl ((Ys.pure (v := .int .u16 (irem ((p : Nat) : Int) ((64 : Nat) : Int))) (fun _ => by kernel_rfl)).conseq (int_congr (rfl))) ?_
    refine Wd.ys (v := Value.int .u64 ((2 ^ (p % 64) : Nat) : Int)) rfl rfl rfl (Ys.conseq (v := Value.int .u64 (ishl .u64 1 ((p % 64 : Nat) : Int))) (int_congr (ishl_one hpm)) (Ys.shl (k := .u64) (k' := .u16) (a := 1) (b := ((p % 64 : Nat) : Int)) rfl (by kernel_rfl) (by kernel_rfl) (by omega))) ?_
    refine Wd.ys (v := Value.int .u64 ((wd (up T p true) (p / 64) : Nat) : Int)) rfl rfl rfl (Ys.conseq (v := Value.int .u64 (((wd T (p / 64)) ||| (2 ^ (p % 64)) : Nat) : Int)) (int_congr (congrArg (fun n : Nat => (n : Int)) wd_or)) ((Ys.pure (v := .int .u64 (bor .u64 ((wd T (p / 64) : Nat) : Int) ((2 ^ (p % 64) : Nat) : Int))) (fun _ => by kernel_rfl)).conseq (int_congr (bor_nat rfl (by show _ < 18446744073709551616; omega) (by show _ < 18446744073709551616; omega))))) ?_
    refine Wd.yc (v := Value.pointer (some ⟨b, 0, none⟩)) rfl rfl rfl (Ys.yc (Ys.pure (fun _ => by kernel_rfl))) (.inr fun _ h_ => h_) ?_
    refine Wd.yc (v := Value.pointer (some ⟨b, 0, none⟩)) rfl rfl rfl (Ys.yc (Ys.pure (fun _ => by kernel_rfl))) (.inr fun _ h_ => h_) ?_
    refine Wd.yc (v := Value.pointer (some ⟨b, (p / 64) * 1, none⟩)) rfl rfl rfl (Ys.yc ((Ys.indexArr (k := .u16) (i := ((p / 64 : Nat) : Int)) (sz := 1) rfl (by kernel_rfl) (by kernel_rfl) Tryd.runUnderlying72 Tryd.sizeOf22 (by omega) (by omega)).conseq (by rw [Nat.zero_add]; try rfl))) (.inl (by kernel_rfl)) ?_
    refine Wd.ht rfl rfl (Ht.store (b := b) (o' := (p / 64) * 1) (i := 0) (j := 0) (cs := psC T n) (cs' := psC (up T p true) n) (v := Value.int .u64 ((wd (up T p true) (p / 64) : Nat) : Int)) (LL' := [[cb b (psC (up T p true) n) 74]]) rfl rfl (by kernel_rfl) (by kernel_rfl) Tryd.sizeOf22 rfl rfl rfl (by rw [psC_len]; omega) (psC_set true (by omega)) rfl) (.inl (by kernel_rfl)) (fun _ => ?_)
    refine Wd.nil ?_
    refine hK12 _ _ _ ?_
    refine W.prune' [0] [Value.pointer (some ⟨b, 0, none⟩)] (by kernel_rfl) (fun f13 => ?_)
    refine W.seq (fun K14 hK14 => ?_)
    refine W.region ?_
    refine Wl.run 3 (by kernel_rfl) ?_
    refine Wl.ys (v := Value.int .i64 n) rfl rfl (Ys.load (b := b) (o' := 1024) (i := 0) (j := 0) (cs := psC (up T p true) n) (v := Value.int .i64 n) rfl (by kernel_rfl) Tryd.isAgg3 rfl rfl (psC_cnt _ _)) ?_
    refine Wl.ys (v := Value.int .i64 (n + 1)) rfl rfl ((Ys.pure (v := .int .i64 (iadd .i64 n 1)) (fun _ => by kernel_rfl)).conseq (int_congr (iadd_eq (by omega) (by omega) (by omega)))) ?_
    refine Wl.run 2 (by kernel_rfl) ?_
    refine Wl.ht rfl (Ht.store (b := b) (o' := 1024) (i := 0) (j := 0) (cs := psC (up T p true) n) (cs' := psC (up T p true) (n + 1)) (v := Value.int .i64 (n + 1)) (LL' := [[cb b (psC (up T p true) (n + 1)) 74]]) rfl rfl (by kernel_rfl) (by kernel_rfl) Tryd.sizeOf3 rfl rfl rfl (by rw [psC_len]; decide) (psC_setn _ _ _) rfl) (fun _ => ?_)
    refine Wl.nil ?_
    refine hK14 _ _ _ ?_
    refine W.prune' [] [] (by kernel_rfl) (fun f15 => ?_)
    refine W.seq (fun K16 hK16 => ?_)
    refine W.region ?_
    refine Wl.run 1 (by kernel_rfl) ?_
    refine Wl.nil ?_
    refine hK16 _ _ _ ?_
    refine W.ret ?_
    have hB : tkB T p = true := by unfold tkB; rw [show (decide (p < 1024) || T p) = false from ?_]; rfl; have hz_ := h9; first | exact hz_ | (rw [← hz_]; congr 1; exact decide_eq_decide.2 (by omega))
    show ∀ w_, _ → bodyPostM (fence none) 0 Tryd.prog Tryd.f15 _ Exit.ret _ w_
    exact fun w_ hS_ => fin_ret (ret1 rfl (RV.tmp (v := Value.bool true) (by kernel_rfl)) hS_ ⟨(), trivial, congrArg Ending.returned ((by rw [hB])), (Mem.cast (by unfold tkT tkN; rw [hB]; rfl) hS_)⟩)

theorem give_c (T : Nat → Bool) (n : Int) (b p : Nat) (w : World) (hl : Mem w [b] [[cb b (psC T n) 74]] w) (hp : p < 65536) (hn1 : -1000000000000 ≤ n) (hn2 : n ≤ 1000000000000) : Calls Tryd.prog 14 #[Value.pointer (some ⟨b, 0, none⟩), Value.int .u16 ((p : Nat) : Int)] w (RetM w (fun _ : Unit => True) (fun _ => .bool (T p)) [b] (fun _ => [[cb b (psC (gvT T p) (gvN T p n)) 74]])) := by
  have hwl := wd_lt T (p / 64); have hwd := Nat.lt_of_le_of_lt (Nat.div_le_self (wd T (p / 64)) (2 ^ (p % 64))) hwl; have hpm := Nat.mod_lt p (show 0 < 64 by decide); have h2p : (2 : Nat) ^ (p % 64) < 18446744073709551616 := Nat.lt_of_lt_of_le (Nat.pow_lt_pow_right (n := 64) (by decide) hpm) (by decide)
  refine calls_W (M := [b]) (LL := [[cb b (psC T n) 74]]) (n := 30) Tryd.func14 rfl rfl (by simp) (hl) ?_
  refine W.seq (fun K1 hK1 => ?_)
  refine W.region ?_
  refine Wl.run 1 (by kernel_rfl) ?_
  refine Wl.nil ?_
  refine hK1 _ _ _ ?_
  refine W.seq (fun K2 hK2 => ?_)
  refine W.seq (fun K3 hK3 => ?_)
  refine W.region ?_
  refine Wl.run 2 (by kernel_rfl) ?_
  refine Wl.yc (v := Value.bool (T p)) rfl rfl (Yc.call (k := 16) (args := #[Value.pointer (some ⟨b, 0, none⟩), Value.int .u16 ((p : Nat) : Int)]) (fun _ => by kernel_rfl) (fun w_ hm_ => has_c T n b p _ (At.lit0 (i := 0) (j := 0) (t := 74) (b := b) hm_ rfl rfl) (by omega))) ?_
  refine Wl.run 1 (by kernel_rfl) ?_
  refine Wl.nil ?_
  refine hK3 _ _ _ ?_
  refine W.prune' [0, 1, 8] [Value.pointer (some ⟨b, 0, none⟩), Value.int .u16 ((p : Nat) : Int), Value.bool (!(T p))] (by kernel_rfl) (fun f4 => ?_)
  refine W.cond (!(T p)) (by kernel_rfl) (fun h5 => ?_) (fun h6 => ?_)
  · refine W.seq (fun K7 hK7 => ?_)
    refine W.region ?_
    refine Wl.run 1 (by kernel_rfl) ?_
    refine Wl.nil ?_
    refine hK7 _ _ _ ?_
    refine W.ret ?_
    have hB : T p = false := by have hz_ := h5; revert hz_; cases T p <;> simp
    show ∀ w_, _ → bodyPostM (fence none) 0 Tryd.prog Tryd.f14 _ Exit.ret _ w_
    exact fun w_ hS_ => fin_ret (ret1 rfl (RV.tmp (v := Value.bool false) (by kernel_rfl)) hS_ ⟨(), trivial, congrArg Ending.returned ((by rw [hB])), (Mem.cast (by unfold gvT gvN; rw [hB]; rfl) hS_)⟩)
  · refine W.skip' ?_
    refine hK2 _ _ _ ?_
    refine W.prune' [0, 1] [Value.pointer (some ⟨b, 0, none⟩), Value.int .u16 ((p : Nat) : Int)] (by kernel_rfl) (fun f8 => ?_)
    refine W.seq (fun K9 hK9 => ?_)
    refine W.draws [(0, true), (1, true), (2, true), (3, true), (4, true), (5, true), (6, true), (7, true), (8, true), (9, true), (10, true), (11, false), (12, false), (13, false), (14, false)] [0, 1, 2, 3, 4, 5, 6, 7, 8, 9, 10] (Mem w [b] [[cb b (psC T n) 74]]) (by kernel_rfl) (by kernel_rfl) (by kernel_rfl) rfl (by kernel_rfl) (fun _ _ h_ => h_.drawn _) (fun _ h_ => h_) ?_
    refine Wd.run 2 (by kernel_rfl) ?_
    refine Wd.ys (v := Value.int .u16 ((p / 64 : Nat) : Int)) rfl rfl rfl ((Ys.pure (v := .int .u16 (iquo .u16 ((p : Nat) : Int) ((64 : Nat) : Int))) (fun _ => by kernel_rfl)).conseq (int_congr (iquo_natu rfl (by show _ < 65536; omega)))) ?_
    refine Wd.run 2 (by kernel_rfl) ?_
    refine Wd.ys (v := Value.pointer (some ⟨b, (p / 64) * 1, none⟩)) rfl rfl rfl ((Ys.indexArr (k := .u16) (i := ((p / 64 : Nat) : Int)) (sz := 1) rfl (by kernel_rfl) (by kernel_rfl) Tryd.runUnderlying72 Tryd.sizeOf22 (by omega) (by omega)).conseq (by rw [Nat.zero_add]; try rfl)) ?_
    refine Wd.ys (v := Value.int .u64 ((wd T (p / 64) : Nat) : Int)) rfl rfl rfl (Ys.load (b := b) (o' := (p / 64) * 1) (i := 0) (j := 0) (cs := psC T n) (v := Value.int .u64 ((wd T (p / 64) : Nat) : Int)) rfl (by kernel_rfl) Tryd.isAgg22 rfl rfl (psC_get1 (by omega))) ?_
    refine Wd.run 1 (by kernel_rfl) ?_
    refine Wd.ys (v := Value.int .u16 ((p % 64 : Nat) : Int)) rfl rfl rfl ((Ys.pure (v := .int .u16 (irem ((p : Nat) : Int) ((64 : Nat) : Int))) (fun _ => by kernel_rfl)).conseq (int_congr (rfl))) ?_
    refine Wd.ys (v := Value.int .u64 ((2 ^ (p % 64) : Nat) : Int)) rfl rfl rfl (Ys.conseq (v := Value.int .u64 (ishl .u64 1 ((p % 64 : Nat) : Int))) (int_congr (ishl_one hpm)) (Ys.shl (k := .u64) (k' := .u16) (a := 1) (b := ((p % 64 : Nat) : Int)) rfl (by kernel_rfl) (by kernel_rfl) (by omega))) ?_
    refine Wd.ys (v := Value.int .u64 ((wd (up T p false) (p / 64) : Nat) : Int)) rfl rfl rfl ((Ys.pure (v := Value.int .u64 (bandn .u64 ((wd T (p / 64) : Nat) : Int) ((2 ^ (p % 64) : Nat) : Int))) (fun _ => by kernel_rfl)).conseq (int_congr (wd_andn))) ?_
    refine Wd.yc (v := Value.pointer (some ⟨b, 0, none⟩)) rfl rfl rfl (Ys.yc (Ys.pure (fun _ => by kernel_rfl))) (.inr fun _ h_ => h_) ?_
    refine Wd.yc (v := Value.pointer (some ⟨b, 0, none⟩)) rfl rfl rfl (Ys.yc (Ys.pure (fun _ => by kernel_rfl))) (.inr fun _ h_ => h_) ?_
    refine Wd.yc (v := Value.pointer (some ⟨b, (p / 64) * 1, none⟩)) rfl rfl rfl (Ys.yc ((Ys.indexArr (k := .u16) (i := ((p / 64 : Nat) : Int)) (sz := 1) rfl (by kernel_rfl) (by kernel_rfl) Tryd.runUnderlying72 Tryd.sizeOf22 (by omega) (by omega)).conseq (by rw [Nat.zero_add]; try rfl))) (.inl (by kernel_rfl)) ?_
    refine Wd.ht rfl rfl (Ht.store (b := b) (o' := (p / 64) * 1) (i := 0) (j := 0) (cs := psC T n) (cs' := psC (up T p false) n) (v := Value.int .u64 ((wd (up T p false) (p / 64) : Nat) : Int)) (LL' := [[cb b (psC (up T p false) n) 74]]) rfl rfl (by kernel_rfl) (by kernel_rfl) Tryd.sizeOf22 rfl rfl rfl (by rw [psC_len]; omega) (psC_set false (by omega)) rfl) (.inl (by kernel_rfl)) (fun _ => ?_)
    refine Wd.nil ?_
    refine hK9 _ _ _ ?_
    refine W.prune' [0] [Value.pointer (some ⟨b, 0, none⟩)] (by kernel_rfl) (fun f10 => ?_)
    refine W.seq (fun K11 hK11 => ?_)
    refine W.region ?_
    refine Wl.run 3 (by kernel_rfl) ?_
    refine Wl.ys (v := Value.int .i64 n) rfl rfl (Ys.load (b := b) (o' := 1024) (i := 0) (j := 0) (cs := psC (up T p false) n) (v := Value.int .i64 n) rfl (by kernel_rfl) Tryd.isAgg3 rfl rfl (psC_cnt _ _)) ?_
    refine Wl.ys (v := Value.int .i64 (n - 1)) rfl rfl ((Ys.pure (v := .int .i64 (isub .i64 n 1)) (fun _ => by kernel_rfl)).conseq (int_congr (isub_eq rfl (by omega) (by omega)))) ?_
    refine Wl.run 2 (by kernel_rfl) ?_
    refine Wl.ht rfl (Ht.store (b := b) (o' := 1024) (i := 0) (j := 0) (cs := psC (up T p false) n) (cs' := psC (up T p false) (n - 1)) (v := Value.int .i64 (n - 1)) (LL' := [[cb b (psC (up T p false) (n - 1)) 74]]) rfl rfl (by kernel_rfl) (by kernel_rfl) Tryd.sizeOf3 rfl rfl rfl (by rw [psC_len]; decide) (psC_setn _ _ _) rfl) (fun _ => ?_)
    refine Wl.nil ?_
    refine hK11 _ _ _ ?_
    refine W.prune' [] [] (by kernel_rfl) (fun f12 => ?_)
    refine W.seq (fun K13 hK13 => ?_)
    refine W.region ?_
    refine Wl.run 1 (by kernel_rfl) ?_
    refine Wl.nil ?_
    refine hK13 _ _ _ ?_
    refine W.ret ?_
    have hB : T p = true := by have hz_ := h6; revert hz_; cases T p <;> simp
    show ∀ w_, _ → bodyPostM (fence none) 0 Tryd.prog Tryd.f14 _ Exit.ret _ w_
    exact fun w_ hS_ => fin_ret (ret1 rfl (RV.tmp (v := Value.bool true) (by kernel_rfl)) hS_ ⟨(), trivial, congrArg Ending.returned ((by rw [hB])), (Mem.cast (by unfold gvT gvN; rw [hB]; rfl) hS_)⟩)

end Go.Proofs.YtnhmajdpjapgjaaDoor.Oct
