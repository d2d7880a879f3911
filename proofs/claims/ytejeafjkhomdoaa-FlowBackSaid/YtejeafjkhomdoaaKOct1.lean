import Derived.Test.YtejeafjkhomdoaaChecked
import Derived.Test.YtejeafjkhomdoaaKVE
set_option linter.unusedVariables false
set_option linter.unusedSimpArgs false
set_option maxRecDepth 20000
namespace Go.Proofs.Ytejeafjkhomdoaa.Oct
open Go.RowKit Base
attribute [local irreducible] Ys Yc Ht HtIn Wl Wd W Mem pf dpf
def size8 (n : Int) : Nat := (imin (imax n 0) 8).toNat
theorem size8_le (n : Int) : size8 n ≤ 8 := by unfold size8; have := imin_bd (imax n 0) 8; omega
theorem size8_eq (n : Int) : imin (imax n 0) 8 = ((size8 n : Nat) : Int) := by unfold size8; have h1 := imin_bd (imax n 0) 8; have h2 := imax_bd n 0; omega
theorem width_c (size : Int) (w : World) : Calls Try.prog 75 #[Value.int .i64 size] w (Ret w (.int .i64 ((size8 size : Nat) : Int))) := by
  refine calls_W (M := []) (LL := []) (n := 6) Try.func75 rfl rfl (by simp) (Mem.refl _) ?_
  refine W.seq (fun K1 hK1 => ?_)
  refine W.region ?_
  refine Wl.run 1 (by kernel_rfl) ?_
  refine Wl.nil ?_
  refine hK1 _ _ _ ?_
  refine W.seq (fun K2 hK2 => ?_)
  refine W.region ?_
  refine Wl.run 4 (by kernel_rfl) ?_
  have hm3 := imax_bd size 0
  have hm4 := imin_bd (imax size 0) 8
  refine Wl.nil ?_
  refine hK2 _ _ _ ?_
  refine W.prune' [2] [Value.int .i64 (imin (imax size 0) 8)] (by kernel_rfl) (fun f5 => ?_)
  refine W.ret ?_
  show ∀ w_, _ → bodyPostM (fence none) 0 Try.prog Try.f75 _ Exit.ret _ w_
  exact fun w_ hS_ => fin_ret (ret1 rfl (RV.tmp (v := Value.int .i64 (imin (imax size 0) 8)) (by kernel_rfl)) hS_ ⟨by clear hK1 hK2; refine congrArg Ending.returned ?_; exact int_congr (size8_eq size), hS_.below⟩)
theorem rsize_c (size : Int) (w : World) : Calls Try.prog 78 #[Value.int .i64 size] w (Ret w (.int .i64 ((size8 size : Nat) : Int))) := by
  refine calls_W (M := []) (LL := []) (n := 8) Try.func78 rfl rfl (by simp) (Mem.refl _) ?_
  refine W.seq (fun K1 hK1 => ?_)
  refine W.region ?_
  refine Wl.run 1 (by kernel_rfl) ?_
  refine Wl.nil ?_
  refine hK1 _ _ _ ?_
  refine W.seq (fun K2 hK2 => ?_)
  refine W.seq (fun K3 hK3 => ?_)
  refine W.region ?_
  refine Wl.run 2 (by kernel_rfl) ?_
  refine Wl.nil ?_
  refine hK3 _ _ _ ?_
  refine W.prune' [0, 4] [Value.int .i64 size, Value.bool (decide (size < 0))] (by kernel_rfl) (fun f4 => ?_)
  refine W.cond (decide (size < 0)) (by kernel_rfl) (fun h5 => ?_) (fun h6 => ?_)
  · have qh5 := h5; try simp only [Bool.and_eq_true, Bool.or_eq_true, Bool.not_eq_true', Bool.not_eq_false', Bool.and_eq_false_iff, Bool.or_eq_false_iff, decide_eq_true_eq, decide_eq_false_iff_not, beq_iff_eq, bne_iff_ne, beq_eq_false_iff_ne, bne_eq_false_iff_eq] at qh5
    refine W.seq (fun K7 hK7 => ?_)
    refine W.region ?_
    refine Wl.run 1 (by kernel_rfl) ?_
    refine Wl.nil ?_
    refine hK7 _ _ _ ?_
    refine W.ret ?_
    show ∀ w_, _ → bodyPostM (fence none) 0 Try.prog Try.f78 _ Exit.ret _ w_
    exact fun w_ hS_ => fin_ret (ret1 rfl (RV.tmp (v := Value.int .i64 0) (by kernel_rfl)) hS_ ⟨by clear hK1 hK2 hK3 hK7; refine congrArg Ending.returned ?_; refine int_congr ((size8_eq size).symm.trans ?_).symm; unfold imin imax; repeat (first | omega | split), hS_.below⟩)
  · have qh6 := h6; try simp only [Bool.and_eq_true, Bool.or_eq_true, Bool.not_eq_true', Bool.not_eq_false', Bool.and_eq_false_iff, Bool.or_eq_false_iff, decide_eq_true_eq, decide_eq_false_iff_not, beq_iff_eq, bne_iff_ne, beq_eq_false_iff_ne, bne_eq_false_iff_eq] at qh6
    refine W.skip' ?_
    refine hK2 _ _ _ ?_
    refine W.prune' [0] [Value.int .i64 size] (by kernel_rfl) (fun f8 => ?_)
    refine W.seq (fun K9 hK9 => ?_)
    refine W.seq (fun K10 hK10 => ?_)
    refine W.region ?_
    refine Wl.run 2 (by kernel_rfl) ?_
    refine Wl.nil ?_
    refine hK10 _ _ _ ?_
    refine W.prune' [0, 6] [Value.int .i64 size, Value.bool (decide (size > 8))] (by kernel_rfl) (fun f11 => ?_)
    refine W.cond (decide (size > 8)) (by kernel_rfl) (fun h12 => ?_) (fun h13 => ?_)
    · have qh12 := h12; try simp only [Bool.and_eq_true, Bool.or_eq_true, Bool.not_eq_true', Bool.not_eq_false', Bool.and_eq_false_iff, Bool.or_eq_false_iff, decide_eq_true_eq, decide_eq_false_iff_not, beq_iff_eq, bne_iff_ne, beq_eq_false_iff_ne, bne_eq_false_iff_eq] at qh12
      refine W.seq (fun K14 hK14 => ?_)
      refine W.region ?_
      refine Wl.run 1 (by kernel_rfl) ?_
      refine Wl.nil ?_
      refine hK14 _ _ _ ?_
      refine W.ret ?_
      show ∀ w_, _ → bodyPostM (fence none) 0 Try.prog Try.f78 _ Exit.ret _ w_
      exact fun w_ hS_ => fin_ret (ret1 rfl (RV.tmp (v := Value.int .i64 8) (by kernel_rfl)) hS_ ⟨by clear hK1 hK2 hK3 hK9 hK10 hK14; refine congrArg Ending.returned ?_; refine int_congr ((size8_eq size).symm.trans ?_).symm; unfold imin imax; repeat (first | omega | split), hS_.below⟩)
    · have qh13 := h13; try simp only [Bool.and_eq_true, Bool.or_eq_true, Bool.not_eq_true', Bool.not_eq_false', Bool.and_eq_false_iff, Bool.or_eq_false_iff, decide_eq_true_eq, decide_eq_false_iff_not, beq_iff_eq, bne_iff_ne, beq_eq_false_iff_ne, bne_eq_false_iff_eq] at qh13
      refine W.skip' ?_
      refine hK9 _ _ _ ?_
      refine W.prune' [0] [Value.int .i64 size] (by kernel_rfl) (fun f15 => ?_)
      refine W.seq (fun K16 hK16 => ?_)
      refine W.region ?_
      refine Wl.run 2 (by kernel_rfl) ?_
      refine Wl.nil ?_
      refine hK16 _ _ _ ?_
      refine W.prune' [2] [Value.int .i64 size] (by kernel_rfl) (fun f17 => ?_)
      refine W.ret ?_
      show ∀ w_, _ → bodyPostM (fence none) 0 Try.prog Try.f78 _ Exit.ret _ w_
      exact fun w_ hS_ => fin_ret (ret1 rfl (RV.tmp (v := Value.int .i64 size) (by kernel_rfl)) hS_ ⟨by clear hK1 hK2 hK3 hK9 hK10 hK16; refine congrArg Ending.returned ?_; refine int_congr ((size8_eq size).symm.trans ?_).symm; unfold imin imax; repeat (first | omega | split), hS_.below⟩)
def be : Nat → Nat → List UInt8
  | 0, _ => []
  | k + 1, n => be k (n / 256) ++ [UInt8.ofNat n]
theorem be_len : ∀ k n, (be k n).length = k
  | 0, _ => rfl
  | k + 1, n => by simp [be, be_len k]
theorem be_front : ∀ k n, be (k + 1) n = UInt8.ofNat (n / 256 ^ k) :: be k n
  | 0, n => by simp [be]
  | k + 1, n => by
    rw [be, be_front k, be, List.cons_append]
    rw [Nat.div_div_eq_div_mul, ← Nat.pow_succ']
theorem num_step (k i n : Nat) (h : i < k) : (List.replicate (k - i) 0 ++ be i n).set (k - 1 - i) (UInt8.ofNat (n / 256 ^ i)) = List.replicate (k - (i + 1)) 0 ++ be (i + 1) n := by
  obtain ⟨m, rfl⟩ : ∃ m, k = i + 1 + m := ⟨k - (i + 1), by omega⟩
  rw [show i + 1 + m - i = m + 1 by omega, show i + 1 + m - 1 - i = m by omega, show i + 1 + m - (i + 1) = m by omega, be_front]
  rw [List.set_append_left _ _ (by simp), List.replicate_succ', List.set_append_right _ _ (by simp)]
  simp
theorem ofNat_mod (x : Nat) : UInt8.ofNat (x % 256) = UInt8.ofNat x := UInt8.toNat_inj.1 (by rw [UInt8.toNat_ofNat', UInt8.toNat_ofNat']; omega)
theorem div_lt (n i : Nat) (h : n < 18446744073709551616) : n / 256 ^ i < 18446744073709551616 := Nat.lt_of_le_of_lt (Nat.div_le_self _ _) h
theorem div_step (n i : Nat) : n / 256 ^ i / 256 = n / 256 ^ (i + 1) := by rw [Nat.div_div_eq_div_mul, ← Nat.pow_succ]
theorem num_c (size : Int) (n : Nat) (hn : n < 18446744073709551616) (w : World) : Calls Try.prog 64 #[Value.int .i64 size, Value.int .u64 ((n : Nat) : Int)] w (RetM w (fun g : FS => g.ok 1 (size8 size) ∧ g.nil = false) (fun g => .slice g.a (size8 size) g.cap) [] (fun g => [g.seg 5 (byc (be (size8 size) n))])) := by
  have hs8 := size8_le size
  refine calls_W (M := []) (LL := []) (n := 28) Try.func64 rfl rfl (by simp) (Mem.refl _) ?_
  refine W.seq (fun K1 hK1 => ?_)
  refine W.region ?_
  refine Wl.run 1 (by kernel_rfl) ?_
  refine Wl.nil ?_
  refine hK1 _ _ _ ?_
  refine W.seq (fun K2 hK2 => ?_)
  refine W.region ?_
  refine Wl.run 1 (by kernel_rfl) ?_
  refine Wl.yc (v := nV .i64 (size8 size)) rfl rfl (Yc.call (k := 75) (args := #[Value.int .i64 size]) (fun _ => by kernel_rfl) (fun w_ hm_ => width_c _ _)) ?_
  refine Wl.ht rfl (Ht.make (kl := .i64) (kc := .i64) (t := 25) (e := 5) (ii := (Try.prog.info? 5).getD default) (z := Value.int .u8 0) (lv := ((size8 size : Nat) : Int)) (sz := 1) (bytes := 1) (cs := mc b8 (List.replicate (size8 size) 0)) rfl rfl (by kernel_rfl) (by kernel_rfl) (by kernel_rfl) (by kernel_rfl) (by kernel_rfl) (by kernel_rfl) (by kernel_rfl) (by omega) (by omega) (by omega) (mc_zero (g := b8) _ 0 rfl)) (fun p9 => ?_)
  refine Wl.run 1 (by kernel_rfl) ?_
  refine Wl.nil ?_
  refine hK2 _ _ _ ?_
  refine W.prune' [1, 5] [nV .u64 n, Value.slice (some ⟨p9, 0, none⟩) (size8 size) (size8 size)] (by kernel_rfl) (fun f3 => ?_)
  refine W.seq (fun K4 hK4 => ?_)
  refine W.seq (fun K5 hK5 => ?_)
  refine W.region ?_
  refine Wl.run 3 (by kernel_rfl) ?_
  refine Wl.nil ?_
  refine hK5 _ _ _ ?_
  refine W.prune' [1, 5, 11, 12] [nV .u64 n, Value.slice (some ⟨p9, 0, none⟩) (size8 size) (size8 size), nV .i64 (size8 size), Value.int .i64 0] (by kernel_rfl) (fun f6 => ?_)
  refine W.block ?_
  refine W.loop1 [1, 5, 11, 12] (fun (i : Nat) => [nV .u64 (n / 256 ^ i), Value.slice (some ⟨p9, 0, none⟩) (size8 size) (size8 size), nV .i64 (size8 size), nV .i64 i]) (fun (i : Nat) => i ≤ size8 size) (fun (i : Nat) => [[cb p9 (mc b8 (List.replicate (size8 size - i) 0 ++ be i n)) 5]]) (fun (i : Nat) => size8 size - i) 0 (Eq.trans (b := ([nV .u64 n, Value.slice (some ⟨p9, 0, none⟩) (size8 size) (size8 size), nV .i64 (size8 size), Value.int .i64 0] : List Value)) (by kernel_rfl) (by simp)) (by first | omega | trivial | simp) (by simp [be]) (fun i f8 J7 hp9 hJ7 => ?_)
  have hi := hp9
  have hd := div_lt n i hn; have hs := size8_le size; have hl : (List.replicate (size8 size - i) (0 : UInt8) ++ be i n).length = size8 size := by simp [be_len]; omega
  refine W.seq (fun K10 hK10 => ?_)
  refine W.region ?_
  refine Wl.run 1 (by kernel_rfl) ?_
  refine Wl.nil ?_
  refine hK10 _ _ _ ?_
  refine W.seq (fun K11 hK11 => ?_)
  refine W.cond (decide (((i : Nat) : Int) < ((size8 size : Nat) : Int))) (by kernel_rfl) (fun h12 => ?_) (fun h13 => ?_)
  · have qh12 := h12; try simp only [Bool.and_eq_true, Bool.or_eq_true, Bool.not_eq_true', Bool.not_eq_false', Bool.and_eq_false_iff, Bool.or_eq_false_iff, decide_eq_true_eq, decide_eq_false_iff_not, beq_iff_eq, bne_iff_ne, beq_eq_false_iff_ne, bne_eq_false_iff_eq] at qh12
    refine W.skip' ?_
    refine hK11 _ _ _ ?_
    refine W.prune' [1, 5, 11, 12] [nV .u64 (n / 256 ^ i), Value.slice (some ⟨p9, 0, none⟩) (size8 size) (size8 size), nV .i64 (size8 size), nV .i64 i] (by kernel_rfl) (fun f14 => ?_)
    refine W.seq (fun K15 hK15 => ?_)
    refine W.block ?_
    refine W.seq (fun K16 hK16 => ?_)
    refine W.region ?_
    refine Wl.run 2 (by kernel_rfl) ?_
    refine Wl.nil ?_
    refine hK16 _ _ _ ?_
    refine W.prune' [1, 5, 6, 11, 12] [nV .u64 (n / 256 ^ i), Value.slice (some ⟨p9, 0, none⟩) (size8 size) (size8 size), nV .i64 i, nV .i64 (size8 size), nV .i64 i] (by kernel_rfl) (fun f17 => ?_)
    refine W.seq (fun K18 hK18 => ?_)
    refine W.region ?_
    refine Wl.run 3 (by kernel_rfl) ?_
    refine Wl.ys (v := Value.int .i64 (((size8 size : Nat) : Int) - 1)) rfl rfl ((Ys.pure (v := .int .i64 (isub .i64 ((size8 size : Nat) : Int) 1)) (fun _ => by kernel_rfl)).conseq (int_congr (isub_eq rfl (by omega) (by omega)))) ?_
    refine Wl.run 1 (by kernel_rfl) ?_
    refine Wl.ys (v := Value.int .i64 ((((size8 size : Nat) : Int) - 1) - ((i : Nat) : Int))) rfl rfl ((Ys.pure (v := .int .i64 (isub .i64 (((size8 size : Nat) : Int) - 1) ((i : Nat) : Int))) (fun _ => by kernel_rfl)).conseq (int_congr (isub_eq rfl (by omega) (by omega)))) ?_
    refine Wl.run 1 (by kernel_rfl) ?_
    refine Wl.ys (v := nV .u8 ((UInt8.ofNat (n / 256 ^ i)).toNat)) rfl rfl ((Ys.pure (v := .int .u8 (icnv .u8 ((n / 256 ^ i : Nat) : Int))) (fun _ => by kernel_rfl)).conseq (int_congr (u8_wrapN _))) ?_
    refine Wl.ys (v := Value.pointer (some ⟨p9, (((((size8 size : Nat) : Int) - 1) - ((i : Nat) : Int)).toNat) * 1, none⟩)) rfl rfl ((Ys.indexAddr (k := .i64) (a := some ⟨p9, 0, none⟩) (len := size8 size) (cap := size8 size) (i := (((size8 size : Nat) : Int) - 1) - ((i : Nat) : Int)) (sz := 1) rfl (by kernel_rfl) (by kernel_rfl) Try.runUnderlying25 Try.sizeOf5 (by omega) (by omega) rfl).conseq (congrArg (fun a => Value.pointer (some a)) (ela_own0 _ _))) ?_
    refine Wl.ht rfl (Ht.store (b := p9) (o' := (((((size8 size : Nat) : Int) - 1) - ((i : Nat) : Int)).toNat) * 1) (i := 0) (j := 0) (cs := mc b8 (List.replicate (size8 size - i) 0 ++ be i n)) (cs' := mc b8 ((List.replicate (size8 size - i) 0 ++ be i n).set (((((size8 size : Nat) : Int) - 1) - ((i : Nat) : Int)).toNat) (UInt8.ofNat (n / 256 ^ i)))) (v := nV .u8 ((UInt8.ofNat (n / 256 ^ i)).toNat)) (LL' := [[cb p9 (mc b8 ((List.replicate (size8 size - i) 0 ++ be i n).set (((((size8 size : Nat) : Int) - 1) - ((i : Nat) : Int)).toNat) (UInt8.ofNat (n / 256 ^ i)))) 5]]) rfl rfl (by kernel_rfl) (by kernel_rfl) Try.sizeOf5 rfl rfl rfl (by first | (simp [mc]; done) | (simp [mc]; omega)) (mc_set1 (g := b8) (List.replicate (size8 size - i) 0 ++ be i n) (((((size8 size : Nat) : Int) - 1) - ((i : Nat) : Int)).toNat) (UInt8.ofNat (n / 256 ^ i))) rfl) (fun _ => ?_)
    refine Wl.nil ?_
    refine hK18 _ _ _ ?_
    refine W.prune' [1, 5, 11, 12] [nV .u64 (n / 256 ^ i), Value.slice (some ⟨p9, 0, none⟩) (size8 size) (size8 size), nV .i64 (size8 size), nV .i64 i] (by kernel_rfl) (fun f19 => ?_)
    refine W.region ?_
    refine Wl.run 1 (by kernel_rfl) ?_
    refine Wl.ys (v := nV .u64 ((n / 256 ^ i) / 256)) rfl rfl ((Ys.pure (v := .int .u64 (ishr .u64 ((n / 256 ^ i : Nat) : Int) ((8 : Nat) : Int))) (fun _ => by kernel_rfl)).conseq (int_congr (ishr_nat (n / 256 ^ i) 8 (by decide)))) ?_
    refine Wl.run 1 (by kernel_rfl) ?_
    refine Wl.nil ?_
    refine hK15 _ _ _ ?_
    refine W.prune' [1, 5, 11, 12] [nV .u64 ((n / 256 ^ i) / 256), Value.slice (some ⟨p9, 0, none⟩) (size8 size) (size8 size), nV .i64 (size8 size), nV .i64 i] (by kernel_rfl) (fun f20 => ?_)
    refine W.region ?_
    refine Wl.ys (v := nV .i64 (i + 1)) rfl rfl ((Ys.pure (v := .int .i64 (iadd .i64 ((i : Nat) : Int) 1)) (fun _ => by kernel_rfl)).conseq (int_congr (iadd_eq (by omega) (by omega) (by omega)))) ?_
    refine Wl.run 1 (by kernel_rfl) ?_
    refine Wl.nil ?_
    refine fun w_ h_ => hJ7 (i + 1) _ w_ (by omega) (by first | omega | trivial | simp) ?_ (Mem.cast (LL := [[cb p9 (mc b8 ((List.replicate (size8 size - i) 0 ++ be i n).set (((((size8 size : Nat) : Int) - 1) - ((i : Nat) : Int)).toNat) (UInt8.ofNat (n / 256 ^ i)))) 5]]) (by rw [show (((size8 size : Nat) : Int) - 1 - ((i : Nat) : Int)).toNat = size8 size - 1 - i by omega, num_step _ _ _ (by omega)]) h_)
    refine Eq.trans (b := ([nV .u64 ((n / 256 ^ i) / 256), Value.slice (some ⟨p9, 0, none⟩) (size8 size) (size8 size), nV .i64 (size8 size), nV .i64 (i + 1)] : List Value)) (by kernel_rfl) (by rw [div_step])
  · have qh13 := h13; try simp only [Bool.and_eq_true, Bool.or_eq_true, Bool.not_eq_true', Bool.not_eq_false', Bool.and_eq_false_iff, Bool.or_eq_false_iff, decide_eq_true_eq, decide_eq_false_iff_not, beq_iff_eq, bne_iff_ne, beq_eq_false_iff_ne, bne_eq_false_iff_eq] at qh13
    refine W.exit ?_
    refine hK4 _ _ _ ?_
    refine W.prune' [5] [Value.slice (some ⟨p9, 0, none⟩) (size8 size) (size8 size)] (by kernel_rfl) (fun f21 => ?_)
    refine W.seq (fun K22 hK22 => ?_)
    refine W.region ?_
    refine Wl.run 2 (by kernel_rfl) ?_
    refine Wl.nil ?_
    refine hK22 _ _ _ ?_
    refine W.prune' [4] [Value.slice (some ⟨p9, 0, none⟩) (size8 size) (size8 size)] (by kernel_rfl) (fun f23 => ?_)
    refine W.ret ?_
    show ∀ w_, _ → bodyPostM (fence none) 0 Try.prog Try.f64 _ Exit.ret _ w_
    exact fun w_ hS_ => fin_ret (ret1 rfl (RV.tmp (v := Value.slice (some ⟨p9, 0, none⟩) (size8 size) (size8 size)) (by kernel_rfl)) hS_ ⟨⟨false, p9, size8 size, []⟩, ⟨FS.lit_ok (by have := size8_le size; simp only [maxLen]; omega), rfl⟩, rfl, (Mem.cast (by rw [show size8 size - i = 0 by omega, show i = size8 size by omega]; simp [FS.seg]) hS_)⟩)
theorem rnum_c (size : Int) (n : Nat) (hn : n < 18446744073709551616) (w : World) : Calls Try.prog 58 #[Value.int .i64 size, Value.int .u64 ((n : Nat) : Int)] w (RetM w (fun g : FS => g.ok 1 (size8 size) ∧ g.nil = false) (fun g => .slice g.a (size8 size) g.cap) [] (fun g => [g.seg 5 (byc (be (size8 size) n))])) := by
  have hs8 := size8_le size
  refine calls_W (M := []) (LL := []) (n := 25) Try.func58 rfl rfl (by simp) (Mem.refl _) ?_
  refine W.seq (fun K1 hK1 => ?_)
  refine W.region ?_
  refine Wl.run 1 (by kernel_rfl) ?_
  refine Wl.nil ?_
  refine hK1 _ _ _ ?_
  refine W.seq (fun K2 hK2 => ?_)
  refine W.region ?_
  refine Wl.ht rfl (Ht.made (mk := fun b_ => .slice (some ⟨b_, 0, none⟩) 0 0) (t := 5) (cs := []) rfl (fun _ => by kernel_rfl)) (fun p8 => ?_)
  refine Wl.run 3 (by kernel_rfl) ?_
  refine Wl.nil ?_
  refine hK2 _ _ _ ?_
  refine W.prune' [0, 5, 6] [Value.int .i64 size, Value.slice (some ⟨p8, 0, none⟩) 0 0, nV .u64 n] (by kernel_rfl) (fun f3 => ?_)
  refine W.seq (fun K4 hK4 => ?_)
  refine W.seq (fun K5 hK5 => ?_)
  refine W.region ?_
  refine Wl.run 1 (by kernel_rfl) ?_
  refine Wl.nil ?_
  refine hK5 _ _ _ ?_
  refine W.block ?_
  refine W.loop2 [0, 5, 6, 7] (fun (i : Nat) (g : FS) => [Value.int .i64 size, Value.slice g.a i g.cap, nV .u64 (n / 256 ^ i), nV .i64 i]) (fun (i : Nat) (g : FS) => i ≤ size8 size ∧ g.ok 1 i ∧ g.nil = false) (fun (i : Nat) (g : FS) => [g.seg 5 (mc b8 (be i n))]) (fun (i : Nat) (g : FS) => size8 size - i) 0 ⟨false, p8, 0, []⟩ (Eq.trans (b := ([Value.int .i64 size, Value.slice (some ⟨p8, 0, none⟩) 0 0, nV .u64 n, Value.int .i64 0] : List Value)) (by kernel_rfl) (by simp [FS.a])) ⟨(Nat.zero_le _), (FS.lit_ok (by decide)), rfl⟩ (by rfl) (fun i g f7 J6 hp8 hJ6 => ?_)
  obtain ⟨hi, ok, hnn⟩ := hp8
  have hd := div_lt n i hn
  refine W.seq (fun K9 hK9 => ?_)
  refine W.seq (fun K10 hK10 => ?_)
  refine W.region ?_
  refine Wl.run 2 (by kernel_rfl) ?_
  refine Wl.yc (v := nV .i64 (size8 size)) rfl rfl (Yc.call (k := 78) (args := #[Value.int .i64 size]) (fun _ => by kernel_rfl) (fun w_ hm_ => rsize_c _ _)) ?_
  refine Wl.run 1 (by kernel_rfl) ?_
  refine Wl.nil ?_
  refine hK10 _ _ _ ?_
  refine W.prune' [0, 5, 6, 7, 13] [Value.int .i64 size, Value.slice g.a i g.cap, nV .u64 (n / 256 ^ i), nV .i64 i, Value.bool (decide (((i : Nat) : Int) < ((size8 size : Nat) : Int)))] (by kernel_rfl) (fun f11 => ?_)
  refine W.cond (decide (((i : Nat) : Int) < ((size8 size : Nat) : Int))) (by kernel_rfl) (fun h12 => ?_) (fun h13 => ?_)
  · have qh12 := h12; try simp only [Bool.and_eq_true, Bool.or_eq_true, Bool.not_eq_true', Bool.not_eq_false', Bool.and_eq_false_iff, Bool.or_eq_false_iff, decide_eq_true_eq, decide_eq_false_iff_not, beq_iff_eq, bne_iff_ne, beq_eq_false_iff_ne, bne_eq_false_iff_eq] at qh12
    refine W.skip' ?_
    refine hK9 _ _ _ ?_
    refine W.prune' [0, 5, 6, 7] [Value.int .i64 size, Value.slice g.a i g.cap, nV .u64 (n / 256 ^ i), nV .i64 i] (by kernel_rfl) (fun f14 => ?_)
    refine W.seq (fun K15 hK15 => ?_)
    refine W.block ?_
    refine W.seq (fun K16 hK16 => ?_)
    refine W.region ?_
    refine Wl.run 1 (by kernel_rfl) ?_
    refine Wl.ys (v := nV .u64 ((n / 256 ^ i) % 256)) rfl rfl ((Ys.pure (v := .int .u64 (irem ((n / 256 ^ i : Nat) : Int) ((256 : Nat) : Int))) (fun _ => by kernel_rfl)).conseq (int_congr (rfl))) ?_
    refine Wl.ys (v := nV .u8 ((UInt8.ofNat ((n / 256 ^ i) % 256)).toNat)) rfl rfl ((Ys.pure (v := .int .u8 (icnv .u8 (((n / 256 ^ i) % 256 : Nat) : Int))) (fun _ => by kernel_rfl)).conseq (int_congr (u8_wrapN _))) ?_
    refine Wl.ht rfl (Ht.made (mk := fun b_ => .slice (some ⟨b_, 0, none⟩) 1 1) (t := 5) (cs := [nV .u8 ((UInt8.ofNat ((n / 256 ^ i) % 256)).toNat)]) rfl (fun _ => by kernel_rfl)) (fun p19 => ?_)
    refine Wl.run 1 (by kernel_rfl) ?_
    refine Wl.ht rfl (Ht.append (eu := 5) (xv := Value.slice g.a i g.cap) (i := 0) (g := (FS.mk false p19 1 [])) (e := 5) (ii := (Try.prog.info? 5).getD default) (z := Value.int .u8 0) (sz := 1) (bytes := 1) (nn := 1) (m := i) (k := 1 + i) (xs := mc b8 [(UInt8.ofNat ((n / 256 ^ i) % 256))]) (news := mc b8 (be i n)) (cs' := mc b8 ([(UInt8.ofNat ((n / 256 ^ i) % 256))] ++ (be i n))) (Lo := fun g17 => [g17.seg 5 (mc b8 ([(UInt8.ofNat ((n / 256 ^ i) % 256))] ++ (be i n))), g.seg 5 (mc b8 (be i n))]) rfl rfl (by kernel_rfl) (by kernel_rfl) (by kernel_rfl) (by kernel_rfl) (by kernel_rfl) (by kernel_rfl) (by kernel_rfl) (by kernel_rfl) (by kernel_rfl) rfl (FS.lit_ok (by decide)) (by first | rfl | simp [mc, be_len]) (fun _ => rfl) (Src.at (a := g.a) (by first | rfl | (rw [mc_len, List.length_take]; omega) | (rw [mc_len, List.length_take, List.length_drop]; omega) | (simp [mc, be_len]; done) | (simp [mc, be_len]; omega)) (fun w_ h_ => (FS.at (i := 1) (t := 5) h_ rfl (FS.nil_cs ok (by rw [mc_len, be_len, Nat.mul_one]))))) (by first | rfl | (rw [mc_len, List.length_take]; omega) | (rw [mc_len, List.length_take, List.length_drop]; omega) | (simp [mc, be_len]; done) | (simp [mc, be_len]; omega)) (mc_one (fun _ => rfl) _) (by first | omega | (simp; done) | (simp; omega)) (by simp only [maxLen]; first | omega | (simp; done) | (simp; omega)) (by first | omega | (simp; done) | (simp; omega)) (mc_app _ _) (fun _ => rfl)) (fun x21 => ?_)
    obtain ⟨g17, ok18, hn19, hn20⟩ := x21
    refine Wl.castL (LL' := [g17.seg 5 (mc b8 ([(UInt8.ofNat ((n / 256 ^ i) % 256))] ++ (be i n))), g.seg 5 (mc b8 (be i n))]) rfl ?_
    refine Wl.run 1 (by kernel_rfl) ?_
    refine Wl.nil ?_
    refine hK16 _ _ _ ?_
    refine W.pick (LL' := [g17.seg 5 (mc b8 ([(UInt8.ofNat ((n / 256 ^ i) % 256))] ++ (be i n)))]) [0] (by decide) rfl ?_
    refine W.prune' [0, 5, 6, 7] [Value.int .i64 size, Value.slice g17.a (1 + i) g17.cap, nV .u64 (n / 256 ^ i), nV .i64 i] (by kernel_rfl) (fun f22 => ?_)
    refine W.region ?_
    refine Wl.run 1 (by kernel_rfl) ?_
    refine Wl.ys (v := nV .u64 ((n / 256 ^ i) / 256)) rfl rfl ((Ys.pure (v := .int .u64 (iquo .u64 ((n / 256 ^ i : Nat) : Int) ((256 : Nat) : Int))) (fun _ => by kernel_rfl)).conseq (int_congr (iquo_natu rfl (by show _ < 18446744073709551616; omega)))) ?_
    refine Wl.run 1 (by kernel_rfl) ?_
    refine Wl.nil ?_
    refine hK15 _ _ _ ?_
    refine W.prune' [0, 5, 6, 7] [Value.int .i64 size, Value.slice g17.a (1 + i) g17.cap, nV .u64 ((n / 256 ^ i) / 256), nV .i64 i] (by kernel_rfl) (fun f23 => ?_)
    refine W.region ?_
    refine Wl.run 1 (by kernel_rfl) ?_
    refine Wl.ys (v := nV .i64 (i + 1)) rfl rfl ((Ys.pure (v := .int .i64 (iadd .i64 ((i : Nat) : Int) 1)) (fun _ => by kernel_rfl)).conseq (int_congr (iadd_eq (by omega) (by omega) (by omega)))) ?_
    refine Wl.run 1 (by kernel_rfl) ?_
    refine Wl.nil ?_
    refine fun w_ h_ => hJ6 (i + 1) g17 _ w_ (by omega) ⟨(by omega), (by rw [Nat.add_comm]; exact ok18), (hn20 (by rfl))⟩ ?_ (Mem.cast (LL := [g17.seg 5 (mc b8 ([(UInt8.ofNat ((n / 256 ^ i) % 256))] ++ (be i n)))]) (by rw [be_front, ofNat_mod]; rfl) h_)
    refine Eq.trans (b := ([Value.int .i64 size, Value.slice g17.a (1 + i) g17.cap, nV .u64 ((n / 256 ^ i) / 256), nV .i64 (i + 1)] : List Value)) (by kernel_rfl) (by rw [div_step, Nat.add_comm])
  · have qh13 := h13; try simp only [Bool.and_eq_true, Bool.or_eq_true, Bool.not_eq_true', Bool.not_eq_false', Bool.and_eq_false_iff, Bool.or_eq_false_iff, decide_eq_true_eq, decide_eq_false_iff_not, beq_iff_eq, bne_iff_ne, beq_eq_false_iff_ne, bne_eq_false_iff_eq] at qh13
    refine W.exit ?_
    refine hK4 _ _ _ ?_
    refine W.prune' [5] [Value.slice g.a i g.cap] (by kernel_rfl) (fun f24 => ?_)
    refine W.seq (fun K25 hK25 => ?_)
    refine W.region ?_
    refine Wl.run 2 (by kernel_rfl) ?_
    refine Wl.nil ?_
    refine hK25 _ _ _ ?_
    refine W.prune' [4] [Value.slice g.a i g.cap] (by kernel_rfl) (fun f26 => ?_)
    refine W.ret ?_
    show ∀ w_, _ → bodyPostM (fence none) 0 Try.prog Try.f58 _ Exit.ret _ w_
    exact fun w_ hS_ => fin_ret (ret1 rfl (RV.tmp (v := Value.slice g.a i g.cap) (by kernel_rfl)) hS_ ⟨g, ⟨(show i = size8 size by omega) ▸ ok, hnn⟩, congrArg Ending.returned ((by rw [show i = size8 size by omega])), (Mem.cast (by rw [show i = size8 size by omega]) hS_)⟩)
end Go.Proofs.Ytejeafjkhomdoaa.Oct
