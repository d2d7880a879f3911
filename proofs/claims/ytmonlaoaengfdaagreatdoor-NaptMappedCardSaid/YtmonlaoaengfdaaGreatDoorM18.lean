import Derived.Test.YtmonlaoaengfdaaGreatDoorChecked
import Derived.Test.YtmonlaoaengfdaaGreatDoorM3
set_option linter.unusedVariables false
set_option linter.unusedSimpArgs false
set_option maxRecDepth 20000
namespace Go.Proofs.YtmonlaoaengfdaaGreatDoor.Oct
open Go.RowKit Base
attribute [local irreducible] Ys Yc Ht HtS HtIn Wl Wd W Mem pf dpf
def size8 (n : Int) : Nat := (imin (imax n 0) 8).toNat
theorem size8_le (n : Int) : size8 n ≤ 8 := by unfold size8; have := imin_bd (imax n 0) 8; omega
theorem size8_eq (n : Int) : imin (imax n 0) 8 = (size8 n : Int) := by unfold size8; have h1 := imin_bd (imax n 0) 8; have h2 := imax_bd n 0; omega
theorem width_c (size : Int) (w : World) : Calls Tryz.prog 172 #[iV .i64 size] w (Ret w (.int .i64 (size8 size : Int))) := by
 refine calls_W (M := []) (LL := []) (n := 6) Tryz.func172 rfl rfl ma6 (Mem.refl _) (W.seq (fun K1 hK1 => ?_))
 refine W.region (Wl.run 1 ma0 (Wl.nil (hK1 _ _ _ (W.seq (fun K2 hK2 => ?_)))))
 refine W.region (Wl.run 4 ma0 ?_)
 have hm3 := imax_bd size 0
 have hm4 := imin_bd (imax size 0) 8
 refine Wl.nil (hK2 _ _ _ (W.prune' [2] [iV .i64 (imin (imax size 0) 8)] ma0 (fun f5 => W.ret ?_)))
 show ∀ w_, _ → bodyPostM (fence none) 0 Tryz.prog Tryz.f172 _ Exit.ret _ w_
 exact fun w_ hS_ => fin_ret (ret1 rfl (RV.tmp (v := iV .i64 (imin (imax size 0) 8)) ma0) hS_ ⟨by clear hK1 hK2; refine congrArg Ending.returned ?_; exact int_congr (size8_eq size), hS_.below⟩)
theorem rsize_c (size : Int) (w : World) : Calls Tryz.prog 157 #[iV .i64 size] w (Ret w (.int .i64 (size8 size : Int))) := by
 refine calls_W (M := []) (LL := []) (n := 8) Tryz.func157 rfl rfl ma6 (Mem.refl _) (W.seq (fun K1 hK1 => ?_))
 refine W.region (Wl.run 1 ma0 (Wl.nil (hK1 _ _ _ (W.seq (fun K2 hK2 => ?_)))))
 refine W.seq (fun K3 hK3 => W.region (Wl.run 2 ma0 (Wl.nil (hK3 _ _ _ ?_))))
 refine W.prune' [0, 4] [iV .i64 size, bV (decide (size < 0))] ma0 (fun f4 => ?_)
 refine W.cond (decide (size < 0)) ma0 (fun h5 => ?_) (fun h6 => ?_)
 ·have qh5 := h5; try simp only [zA] at qh5
  refine W.seq (fun K7 hK7 => W.region (Wl.run 1 ma0 (Wl.nil (hK7 _ _ _ ?_))))
  refine W.ret ?_
  show ∀ w_, _ → bodyPostM (fence none) 0 Tryz.prog Tryz.f157 _ Exit.ret _ w_
  exact fun w_ hS_ => fin_ret (ret1 rfl (RV.tmp (v := iV .i64 0) ma0) hS_ ⟨by clear hK1 hK2 hK3 hK7; refine congrArg Ending.returned ?_; refine int_congr ((size8_eq size).symm.trans ?_).symm; unfold imin imax; repeat (first | omega | split), hS_.below⟩)
 ·have qh6 := h6; try simp only [zA] at qh6
  refine W.skip' (hK2 _ _ _ (W.prune' [0] [iV .i64 size] ma0 (fun f8 => W.seq (fun K9 hK9 => W.seq (fun K10 hK10 => ?_)))))
  refine W.region (Wl.run 2 ma0 (Wl.nil (hK10 _ _ _ (W.prune' [0, 6] [iV .i64 size, bV (decide (size > 8))] ma0 (fun f11 => ?_)))))
  refine W.cond (decide (size > 8)) ma0 (fun h12 => ?_) (fun h13 => ?_)
  ·have qh12 := h12; try simp only [zA] at qh12
   refine W.seq (fun K14 hK14 => W.region (Wl.run 1 ma0 (Wl.nil (hK14 _ _ _ ?_))))
   refine W.ret ?_
   show ∀ w_, _ → bodyPostM (fence none) 0 Tryz.prog Tryz.f157 _ Exit.ret _ w_
   exact fun w_ hS_ => fin_ret (ret1 rfl (RV.tmp (v := iV .i64 8) ma0) hS_ ⟨by clear hK1 hK2 hK3 hK9 hK10 hK14; refine congrArg Ending.returned ?_; refine int_congr ((size8_eq size).symm.trans ?_).symm; unfold imin imax; repeat (first | omega | split), hS_.below⟩)
  ·have qh13 := h13; try simp only [zA] at qh13
   refine W.skip' (hK9 _ _ _ (W.prune' [0] [iV .i64 size] ma0 (fun f15 => W.seq (fun K16 hK16 => W.region ?_))))
   refine Wl.run 2 ma0 (Wl.nil (hK16 _ _ _ (W.prune' [2] [iV .i64 size] ma0 (fun f17 => W.ret ?_))))
   show ∀ w_, _ → bodyPostM (fence none) 0 Tryz.prog Tryz.f157 _ Exit.ret _ w_
   exact fun w_ hS_ => fin_ret (ret1 rfl (RV.tmp (v := iV .i64 size) ma0) hS_ ⟨by clear hK1 hK2 hK3 hK9 hK10 hK16; refine congrArg Ending.returned ?_; refine int_congr ((size8_eq size).symm.trans ?_).symm; unfold imin imax; repeat (first | omega | split), hS_.below⟩)
def be : Nat → Nat → List UInt8
  | 0, _ => []
  | k + 1, n => be k (n / 256) ++ [UInt8.ofNat n]
theorem be_len : ∀ k n, (be k n).length = k
  | 0, _ => rfl
  | k + 1, n => by simp [be, be_len k]
theorem be_front : ∀ k n, be (k + 1) n = UInt8.ofNat (n / 256 ^ k) :: be k n
  | 0, n => by simp [be]
  | k + 1, n => by
    rw [be, be_front k, be, List.cons_append]
    rw [Nat.div_div_eq_div_mul, ← Nat.pow_succ']
theorem num_step (k i n : Nat) (h : i < k) : (List.replicate (k - i) 0 ++ be i n).set (k - 1 - i) (UInt8.ofNat (n / 256 ^ i)) = List.replicate (k - (i + 1)) 0 ++ be (i + 1) n := by
  obtain ⟨m, rfl⟩ : ∃ m, k = i + 1 + m := ⟨k - (i + 1), by omega⟩
  rw [show i + 1 + m - i = m + 1 by omega, show i + 1 + m - 1 - i = m by omega, show i + 1 + m - (i + 1) = m by omega, be_front]
  rw [List.set_append_left _ _ ma6, List.replicate_succ', List.set_append_right _ _ ma6]
  simp
theorem ofNat_mod (x : Nat) : UInt8.ofNat (x % 256) = UInt8.ofNat x := UInt8.toNat_inj.1 (by rw [UInt8.toNat_ofNat', UInt8.toNat_ofNat']; omega)
theorem div_lt (n i : Nat) (h : n < 18446744073709551616) : n / 256 ^ i < 18446744073709551616 := Nat.lt_of_le_of_lt (Nat.div_le_self _ _) h
theorem div_step (n i : Nat) : n / 256 ^ i / 256 = n / 256 ^ (i + 1) := by rw [Nat.div_div_eq_div_mul, ← Nat.pow_succ]
theorem num_c (size : Int) (n : Nat) (hn : n < 18446744073709551616) (w : World) : Calls Tryz.prog 145 #[iV .i64 size, nV .u64 n] w (RetM w (fun g : FS => g.ok 1 (size8 size) ∧ g.nil = false) (fun g => .slice g.a (size8 size) g.cap) [] (fun g => [g.seg 5 (byc (be (size8 size) n))])) := by
 have hs8 := size8_le size
 refine calls_W (M := []) (LL := []) (n := 28) Tryz.func145 rfl rfl ma6 (Mem.refl _) (W.seq (fun K1 hK1 => ?_))
 refine W.region (Wl.run 1 ma0 (Wl.nil (hK1 _ _ _ (W.seq (fun K2 hK2 => ?_)))))
 refine W.region (Wl.run 1 ma0 (Wl.yc (v := nV .i64 (size8 size)) rfl rfl (Yc.call (fun _ => kr) (fun w_ hm_ => width_c _ _)) (Wl.ht rfl (Ht.make (kl := .i64) (kc := .i64) (t := 38) (e := 5) (ii := (Tryz.prog.info? 5).getD default) (z := iV .u8 0) (lv := (size8 size : Int)) (sz := 1) (bytes := 1) (cs := mc b8 (List.replicate (size8 size) 0)) rfl rfl ma0 ma0 ma0 ma0 ma0 ma0 ma0 ma1 ma1 ma1 (mc_zero (g := b8) _ 0 rfl)) (fun p9 => Wl.run 1 ma0 ?_))))
 refine Wl.nil (hK2 _ _ _ (W.prune' [1, 5] [nV .u64 n, Value.slice (some ⟨p9, 0, none⟩) (size8 size) (size8 size)] ma0 (fun f3 => W.seq (fun K4 hK4 => W.seq (fun K5 hK5 => ?_)))))
 refine W.region (Wl.run 3 ma0 (Wl.nil (hK5 _ _ _ (W.prune' [1, 5, 11, 12] [nV .u64 n, Value.slice (some ⟨p9, 0, none⟩) (size8 size) (size8 size), nV .i64 (size8 size), iV .i64 0] ma0 (fun f6 => ?_)))))
 refine W.block (W.loop1 [1, 5, 11, 12] (fun (i : Nat) => [nV .u64 (n / 256 ^ i), Value.slice (some ⟨p9, 0, none⟩) (size8 size) (size8 size), nV .i64 (size8 size), nV .i64 i]) (fun (i : Nat) => i ≤ size8 size) (fun (i : Nat) => [[cb p9 (mc b8 (List.replicate (size8 size - i) 0 ++ be i n)) 5]]) (fun (i : Nat) => size8 size - i) 0 (Eq.trans (b := ([nV .u64 n, Value.slice (some ⟨p9, 0, none⟩) (size8 size) (size8 size), nV .i64 (size8 size), iV .i64 0] : List Value)) ma0 ma6) ma29 (by simp [be]) (fun i f8 J7 hp9 hJ7 => ?_))
 have hi := hp9
 have hd := div_lt n i hn; have hs := size8_le size; have hl : (List.replicate (size8 size - i) (0 : UInt8) ++ be i n).length = size8 size := by simp [be_len]; omega
 refine W.seq (fun K10 hK10 => W.region (Wl.run 1 ma0 (Wl.nil (hK10 _ _ _ ?_))))
 refine W.seq (fun K11 hK11 => ?_)
 refine W.cond (decide (((i : Nat) : Int) < (size8 size : Int))) ma0 (fun h12 => ?_) (fun h13 => ?_)
 ·have qh12 := h12; try simp only [zA] at qh12
  refine W.skip' (hK11 _ _ _ (W.prune' [1, 5, 11, 12] [nV .u64 (n / 256 ^ i), Value.slice (some ⟨p9, 0, none⟩) (size8 size) (size8 size), nV .i64 (size8 size), nV .i64 i] ma0 (fun f14 => W.seq (fun K15 hK15 => W.block ?_))))
  refine W.seq (fun K16 hK16 => W.region (Wl.run 2 ma0 (Wl.nil (hK16 _ _ _ ?_))))
  refine W.prune' [1, 5, 6, 11, 12] [nV .u64 (n / 256 ^ i), Value.slice (some ⟨p9, 0, none⟩) (size8 size) (size8 size), nV .i64 i, nV .i64 (size8 size), nV .i64 i] ma0 (fun f17 => W.seq (fun K18 hK18 => ?_))
  refine W.region (Wl.run 3 ma0 (Wl.ys (v := iV .i64 (((size8 size : Nat) : Int) - 1)) rfl rfl ((Ys.pure (v := .int .i64 (isub .i64 (size8 size : Int) 1)) (fun _ => kr)).conseq (int_congr (isub_eq rfl ma1 ma1))) (Wl.run 1 ma0 (Wl.ys (v := iV .i64 (((size8 size : Int) - 1) - (i : Int))) rfl rfl ((Ys.pure (v := .int .i64 (isub .i64 (((size8 size : Nat) : Int) - 1) (i : Int))) (fun _ => kr)).conseq (int_congr (isub_eq rfl ma1 ma1))) ?_))))
  refine Wl.run 1 ma0 (Wl.ys (v := nV .u8 ((UInt8.ofNat (n / 256 ^ i)).toNat)) rfl rfl ((Ys.pure (v := .int .u8 (icnv .u8 ((n / 256 ^ i : Nat) : Int))) (fun _ => kr)).conseq (int_congr (u8_wrapN _))) (Wl.ys (v := Value.pointer (some ⟨p9, (((((size8 size : Nat) : Int) - 1) - (i : Int)).toNat) * 1, none⟩)) rfl rfl ((Ys.indexAddr (k := .i64) (a := some ⟨p9, 0, none⟩) (len := size8 size) (cap := size8 size) (i := (((size8 size : Nat) : Int) - 1) - (i : Int)) (sz := 1) rfl ma0 ma0 Tryz.runUnderlying38 Tryz.sizeOf5 ma1 ma1 rfl).conseq (congrArg (fun a => Value.pointer (some a)) (ela_own0 _ _))) (Wl.ht rfl (Ht.store (b := p9) (o' := (((((size8 size : Nat) : Int) - 1) - (i : Int)).toNat) * 1) (i := 0) (j := 0) (cs := mc b8 (List.replicate (size8 size - i) 0 ++ be i n)) (cs' := mc b8 ((List.replicate (size8 size - i) 0 ++ be i n).set (((((size8 size : Nat) : Int) - 1) - (i : Int)).toNat) (UInt8.ofNat (n / 256 ^ i)))) (v := nV .u8 ((UInt8.ofNat (n / 256 ^ i)).toNat)) (LL' := [[cb p9 (mc b8 ((List.replicate (size8 size - i) 0 ++ be i n).set (((((size8 size : Nat) : Int) - 1) - (i : Int)).toNat) (UInt8.ofNat (n / 256 ^ i)))) 5]]) rfl rfl ma0 ma0 Tryz.sizeOf5 rfl rfl rfl (by first | (simp [mc]; done) | (simp [mc]; omega)) (mc_set1 (g := b8) (List.replicate (size8 size - i) 0 ++ be i n) (((((size8 size : Nat) : Int) - 1) - (i : Int)).toNat) (UInt8.ofNat (n / 256 ^ i))) rfl) (fun _ => Wl.nil ?_))))
  refine hK18 _ _ _ (W.prune' [1, 5, 11, 12] [nV .u64 (n / 256 ^ i), Value.slice (some ⟨p9, 0, none⟩) (size8 size) (size8 size), nV .i64 (size8 size), nV .i64 i] ma0 (fun f19 => ?_))
  refine W.region (Wl.run 1 ma0 (Wl.ys (v := nV .u64 ((n / 256 ^ i) / 256)) rfl rfl ((Ys.pure (v := .int .u64 (ishr .u64 ((n / 256 ^ i : Nat) : Int) ((8 : Nat) : Int))) (fun _ => kr)).conseq (int_congr (ishr_nat (n / 256 ^ i) 8 ma2))) (Wl.run 1 ma0 (Wl.nil ?_))))
  refine hK15 _ _ _ (W.prune' [1, 5, 11, 12] [nV .u64 ((n / 256 ^ i) / 256), Value.slice (some ⟨p9, 0, none⟩) (size8 size) (size8 size), nV .i64 (size8 size), nV .i64 i] ma0 (fun f20 => ?_))
  refine W.region (Wl.ys (v := nV .i64 (i + 1)) rfl rfl ((Ys.pure (v := .int .i64 (iadd .i64 (i : Int) 1)) (fun _ => kr)).conseq (int_congr (iadd_eq ma1 ma1 ma1))) (Wl.run 1 ma0 (Wl.nil ?_)))
  refine fun w_ h_ => hJ7 (i + 1) _ w_ ma1 ma29 ?_ (Mem.cast (LL := [[cb p9 (mc b8 ((List.replicate (size8 size - i) 0 ++ be i n).set (((((size8 size : Nat) : Int) - 1) - (i : Int)).toNat) (UInt8.ofNat (n / 256 ^ i)))) 5]]) (by rw [show (((size8 size : Nat) : Int) - 1 - (i : Int)).toNat = size8 size - 1 - i by omega, num_step _ _ _ ma1]) h_)
  refine Eq.trans (b := ([nV .u64 ((n / 256 ^ i) / 256), Value.slice (some ⟨p9, 0, none⟩) (size8 size) (size8 size), nV .i64 (size8 size), nV .i64 (i + 1)] : List Value)) ma0 (by rw [div_step])
 ·have qh13 := h13; try simp only [zA] at qh13
  refine W.exit (hK4 _ _ _ (W.prune' [5] [Value.slice (some ⟨p9, 0, none⟩) (size8 size) (size8 size)] ma0 (fun f21 => W.seq (fun K22 hK22 => W.region ?_))))
  refine Wl.run 2 ma0 (Wl.nil (hK22 _ _ _ (W.prune' [4] [Value.slice (some ⟨p9, 0, none⟩) (size8 size) (size8 size)] ma0 (fun f23 => W.ret ?_))))
  show ∀ w_, _ → bodyPostM (fence none) 0 Tryz.prog Tryz.f145 _ Exit.ret _ w_
  exact fun w_ hS_ => fin_ret (ret1 rfl (RV.tmp (v := Value.slice (some ⟨p9, 0, none⟩) (size8 size) (size8 size)) ma0) hS_ ⟨⟨false, p9, size8 size, []⟩, ⟨FS.lit_ok (by have := size8_le size; simp only [maxLen]; omega), rfl⟩, rfl, (Mem.cast (by rw [show size8 size - i = 0 by omega, show i = size8 size by omega]; simp [FS.seg]) hS_)⟩)
theorem rnum_c (size : Int) (n : Nat) (hn : n < 18446744073709551616) (w : World) : Calls Tryz.prog 155 #[iV .i64 size, nV .u64 n] w (RetM w (fun g : FS => g.ok 1 (size8 size) ∧ g.nil = false) (fun g => .slice g.a (size8 size) g.cap) [] (fun g => [g.seg 5 (byc (be (size8 size) n))])) := by
 have hs8 := size8_le size
 refine calls_W (M := []) (LL := []) (n := 25) Tryz.func155 rfl rfl ma6 (Mem.refl _) (W.seq (fun K1 hK1 => ?_))
 refine W.region (Wl.run 1 ma0 (Wl.nil (hK1 _ _ _ (W.seq (fun K2 hK2 => ?_)))))
 refine W.region (Wl.ht rfl (Ht.made (mk := fun b_ => .slice (some ⟨b_, 0, none⟩) 0 0) (t := 5) (cs := []) rfl (fun _ => kr)) (fun p8 => ?_))
 refine Wl.run 3 ma0 (Wl.nil (hK2 _ _ _ (W.prune' [0, 5, 6] [iV .i64 size, Value.slice (some ⟨p8, 0, none⟩) 0 0, nV .u64 n] ma0 (fun f3 => W.seq (fun K4 hK4 => ?_)))))
 refine W.seq (fun K5 hK5 => W.region (Wl.run 1 ma0 (Wl.nil (hK5 _ _ _ ?_))))
 refine W.block (W.loop2 [0, 5, 6, 7] (fun (i : Nat) (g : FS) => [iV .i64 size, sV g i, nV .u64 (n / 256 ^ i), nV .i64 i]) (fun (i : Nat) (g : FS) => i ≤ size8 size ∧ g.ok 1 i ∧ g.nil = false) (fun (i : Nat) (g : FS) => [g.seg 5 (mc b8 (be i n))]) (fun (i : Nat) (g : FS) => size8 size - i) 0 ⟨false, p8, 0, []⟩ (Eq.trans (b := ([iV .i64 size, Value.slice (some ⟨p8, 0, none⟩) 0 0, nV .u64 n, iV .i64 0] : List Value)) ma0 (by simp [FS.a])) ⟨(Nat.zero_le _), (FS.lit_ok ma2), rfl⟩ (by rfl) (fun i g f7 J6 hp8 hJ6 => ?_))
 obtain ⟨hi, ok, hnn⟩ := hp8
 have hd := div_lt n i hn
 refine W.seq (fun K9 hK9 => W.seq (fun K10 hK10 => ?_))
 refine W.region (Wl.run 2 ma0 (Wl.yc (v := nV .i64 (size8 size)) rfl rfl (Yc.call (fun _ => kr) (fun w_ hm_ => rsize_c _ _)) (Wl.run 1 ma0 (Wl.nil ?_))))
 refine hK10 _ _ _ (W.prune' [0, 5, 6, 7, 13] [iV .i64 size, sV g i, nV .u64 (n / 256 ^ i), nV .i64 i, bV (decide (((i : Nat) : Int) < (size8 size : Int)))] ma0 (fun f11 => ?_))
 refine W.cond (decide (((i : Nat) : Int) < (size8 size : Int))) ma0 (fun h12 => ?_) (fun h13 => ?_)
 ·have qh12 := h12; try simp only [zA] at qh12
  refine W.skip' (hK9 _ _ _ (W.prune' [0, 5, 6, 7] [iV .i64 size, sV g i, nV .u64 (n / 256 ^ i), nV .i64 i] ma0 (fun f14 => W.seq (fun K15 hK15 => W.block ?_))))
  refine W.seq (fun K16 hK16 => W.region (Wl.run 1 ma0 (Wl.ys (v := nV .u64 ((n / 256 ^ i) % 256)) rfl rfl ((Ys.pure (v := .int .u64 (irem ((n / 256 ^ i : Nat) : Int) ((256 : Nat) : Int))) (fun _ => kr)).conseq (int_congr (rfl))) (Wl.ys (v := nV .u8 ((UInt8.ofNat ((n / 256 ^ i) % 256)).toNat)) rfl rfl ((Ys.pure (v := .int .u8 (icnv .u8 (((n / 256 ^ i) % 256 : Nat) : Int))) (fun _ => kr)).conseq (int_congr (u8_wrapN _))) ?_))))
  refine Wl.ht rfl (Ht.made (mk := fun b_ => .slice (some ⟨b_, 0, none⟩) 1 1) (t := 5) (cs := [nV .u8 ((UInt8.ofNat ((n / 256 ^ i) % 256)).toNat)]) rfl (fun _ => kr)) (fun p19 => Wl.run 1 ma0 (Wl.htS rfl (HtS.append (eu := 5) (xv := sV g i) (i := 0) (g := (FS.mk false p19 1 [])) (e := 5) (ii := (Tryz.prog.info? 5).getD default) (z := iV .u8 0) (sz := 1) (bytes := 1) (nn := 1) (m := i) (k := 1 + i) (xs := mc b8 [(UInt8.ofNat ((n / 256 ^ i) % 256))]) (news := mc b8 (be i n)) (cs' := mc b8 ([(UInt8.ofNat ((n / 256 ^ i) % 256))] ++ (be i n))) (Lo := fun g17 => [g17.seg 5 (mc b8 ([(UInt8.ofNat ((n / 256 ^ i) % 256))] ++ (be i n))), g.seg 5 (mc b8 (be i n))]) rfl rfl ma0 ma0 ma0 ma0 ma0 ma0 ma0 ma0 ma0 rfl (FS.lit_ok ma2) (by first | rfl | simp [mc, be_len]) (fun _ => rfl) (Src.at (a := g.a) ma3 (fun w_ h_ => (FS.at (i := 1) (t := 5) h_ rfl (FS.nil_cs ok (by rw [mc_len, be_len, Nat.mul_one]))))) ma3 (mc_one (fun _ => rfl) _) ma5 ma8 ma5 (mc_app _ _) (fun _ => rfl)) (fun g17 hx22 => ?_)))
  obtain ⟨ok18, hn19, hn20⟩ := hx22
  refine Wl.run 1 ma0 (Wl.nil (hK16 _ _ _ (W.pick (LL' := [g17.seg 5 (mc b8 ([(UInt8.ofNat ((n / 256 ^ i) % 256))] ++ (be i n)))]) [0] ma2 rfl (W.prune' [0, 5, 6, 7] [iV .i64 size, sV g17 (1 + i), nV .u64 (n / 256 ^ i), nV .i64 i] ma0 (fun f23 => ?_)))))
  refine W.region (Wl.run 1 ma0 (Wl.ys (v := nV .u64 ((n / 256 ^ i) / 256)) rfl rfl ((Ys.pure (v := .int .u64 (iquo .u64 ((n / 256 ^ i : Nat) : Int) ((256 : Nat) : Int))) (fun _ => kr)).conseq (int_congr (iquo_natu rfl ma18))) (Wl.run 1 ma0 (Wl.nil ?_))))
  refine hK15 _ _ _ (W.prune' [0, 5, 6, 7] [iV .i64 size, sV g17 (1 + i), nV .u64 ((n / 256 ^ i) / 256), nV .i64 i] ma0 (fun f24 => ?_))
  refine W.region (Wl.run 1 ma0 (Wl.ys (v := nV .i64 (i + 1)) rfl rfl ((Ys.pure (v := .int .i64 (iadd .i64 (i : Int) 1)) (fun _ => kr)).conseq (int_congr (iadd_eq ma1 ma1 ma1))) (Wl.run 1 ma0 (Wl.nil ?_))))
  refine fun w_ h_ => hJ6 (i + 1) g17 _ w_ ma1 ⟨ma1, (by rw [Nat.add_comm]; exact ok18), (hn20 (by rfl))⟩ ?_ (Mem.cast (LL := [g17.seg 5 (mc b8 ([(UInt8.ofNat ((n / 256 ^ i) % 256))] ++ (be i n)))]) (by rw [be_front, ofNat_mod]; rfl) h_)
  refine Eq.trans (b := ([iV .i64 size, sV g17 (1 + i), nV .u64 ((n / 256 ^ i) / 256), nV .i64 (i + 1)] : List Value)) ma0 (by rw [div_step, Nat.add_comm])
 ·have qh13 := h13; try simp only [zA] at qh13
  refine W.exit (hK4 _ _ _ (W.prune' [5] [sV g i] ma0 (fun f25 => W.seq (fun K26 hK26 => W.region ?_))))
  refine Wl.run 2 ma0 (Wl.nil (hK26 _ _ _ (W.prune' [4] [sV g i] ma0 (fun f27 => W.ret ?_))))
  show ∀ w_, _ → bodyPostM (fence none) 0 Tryz.prog Tryz.f155 _ Exit.ret _ w_
  exact fun w_ hS_ => fin_ret (ret1 rfl (RV.tmp (v := sV g i) ma0) hS_ ⟨g, ⟨(show i = size8 size by omega) ▸ ok, hnn⟩, congrArg Ending.returned ((by rw [show i = size8 size by omega])), (Mem.cast (by rw [show i = size8 size by omega]) hS_)⟩)
end Go.Proofs.YtmonlaoaengfdaaGreatDoor.Oct
namespace Go.Proofs.YtmonlaoaengfdaaGreatDoor.Oct
open Go.RowKit Base
attribute [local irreducible] Ys Yc Ht HtS HtIn Wl Wd W Mem pf dpf
theorem clone_nil {w : World} {a : Option Addr} {xs : List UInt8} (h : At w a (byc xs)) (hn : a.isNone = true) : xs.length = 0 := by
  cases a with
  | none => rcases Nat.eq_zero_or_pos xs.length with e | e
            · exact e
            · have := h.here (by rw [mc_len]; exact e); cases this
  | some x => cases hn
theorem clone_c (xs : List UInt8) (a : Option Addr) (cap : Nat) (w : World) (hat : At w a (byc xs)) (hl : xs.length ≤ 70368744177664) : Calls Tryz.prog 148 #[Value.slice a xs.length cap] w (RetM w (fun g : FS => g.ok 1 xs.length) (fun g => .slice g.a xs.length g.cap) [] (fun g => [g.seg 5 (byc xs)])) := by
 refine calls_W (M := []) (LL := []) (n := 8) Tryz.func148 rfl rfl ma6 (Mem.refl _) (W.seq (fun K1 hK1 => ?_))
 refine W.region (Wl.run 1 ma0 (Wl.nil (hK1 _ _ _ (W.seq (fun K2 hK2 => ?_)))))
 refine W.seq (fun K3 hK3 => W.region (Wl.run 1 ma0 (Wl.ys (v := bV a.isNone) rfl rfl (Ys.pure (fun _ => by generalize a = a_; cases a_ <;> kernel_rfl)) (Wl.nil ?_))))
 refine hK3 _ _ _ (W.prune' [0, 4] [Value.slice a xs.length cap, bV a.isNone] ma0 (fun f4 => ?_))
 refine W.cond (a.isNone) ma0 (fun h5 => ?_) (fun h6 => ?_)
 ·refine W.seq (fun K7 hK7 => W.region (Wl.run 1 ma0 (Wl.nil (hK7 _ _ _ ?_))))
  refine W.ret ?_
  show ∀ w_, _ → bodyPostM (fence none) 0 Tryz.prog Tryz.f148 _ Exit.ret _ w_
  exact fun w_ hS_ => fin_ret (ret1 rfl (RV.tmp (v := Value.slice none 0 0) ma0) hS_ ⟨FS.nul, ((clone_nil hat h5) ▸ FS.nul_ok 1), congrArg Ending.returned ((by rw [(clone_nil hat h5)]; rfl)), (Mem.push hS_)⟩)
 ·refine W.skip' (hK2 _ _ _ (W.prune' [0] [Value.slice a xs.length cap] ma0 (fun f8 => W.seq (fun K9 hK9 => W.region ?_))))
  refine Wl.ht rfl (Ht.made (mk := fun b_ => .slice (some ⟨b_, 0, none⟩) 0 0) (t := 5) (cs := []) rfl (fun _ => kr)) (fun p5 => Wl.run 1 ma0 (Wl.htS rfl (HtS.append (eu := 5) (xv := Value.slice a xs.length cap) (i := 0) (g := (FS.mk false p5 0 [])) (e := 5) (ii := (Tryz.prog.info? 5).getD default) (z := iV .u8 0) (sz := 1) (bytes := 1) (nn := 0) (m := xs.length) (k := xs.length) (xs := mc b8 []) (news := mc b8 xs) (cs' := mc b8 xs) (Lo := fun g10 => [g10.seg 5 (mc b8 xs)]) rfl rfl ma0 ma0 ma0 ma0 ma0 ma0 ma0 ma0 ma0 rfl (FS.lit_ok ma2) (by first | rfl | simp [mc, be_len]) (fun _ => rfl) (Src.at (a := a) (mc_len1 _) (fun w_ h_ => (hat.mem0 h_))) (mc_len1 _) (mc_one (fun _ => rfl) _) ma5 ma8 ma5 rfl (fun _ => rfl)) (fun g10 hx15 => ?_)))
  obtain ⟨ok11, hn12, hn13⟩ := hx15
  refine Wl.run 1 ma0 (Wl.nil (hK9 _ _ _ (W.prune' [2] [sV g10 xs.length] ma0 (fun f16 => W.ret ?_))))
  show ∀ w_, _ → bodyPostM (fence none) 0 Tryz.prog Tryz.f148 _ Exit.ret _ w_
  exact fun w_ hS_ => fin_ret (ret1 rfl (RV.tmp (v := sV g10 xs.length) ma0) hS_ ⟨g10, ok11, rfl, hS_⟩)
theorem clonen_c (xs : List UInt8) (a : Option Addr) (len cap : Nat) (w : World) (hat : At w a (byc xs)) (hn : len = xs.length) (hl : len ≤ 70368744177664) : Calls Tryz.prog 148 #[.slice a len cap] w (RetM w (fun g : FS => g.ok 1 xs.length) (fun g => .slice g.a xs.length g.cap) [] (fun g => [g.seg 5 (byc xs)])) := by
  subst hn; exact clone_c xs a cap w hat hl
structure NE where
  b : Nat
  g : FS
theorem neweye_c (xs : List UInt8) (a : Option Addr) (cap : Nat) (w : World) (hat : At w a (byc xs)) (hl : xs.length ≤ 70368744177664) : Calls Tryz.prog 131 #[Value.slice a xs.length cap] w (RetM w (fun x : NE => x.g.ok 1 xs.length) (fun x => .pointer (some ⟨x.b, 0, none⟩)) [] (fun x => [[cb x.b [.slice x.g.a xs.length x.g.cap, .bool false] 283], x.g.seg 5 (byc xs)])) := by
 refine calls_W (M := []) (LL := []) (n := 7) Tryz.func131 rfl rfl ma6 (Mem.refl _) (W.seq (fun K1 hK1 => ?_))
 refine W.region (Wl.run 1 ma0 (Wl.nil (hK1 _ _ _ (W.seq (fun K2 hK2 => ?_)))))
 refine W.region (Wl.run 1 ma0 (Wl.htS rfl (HtS.call (β := FS) (k := 148) (args := #[Value.slice a xs.length cap]) (Lin := []) (Lk := []) (Mi := []) (Lo := fun g3 => [g3.seg 5 (mc b8 xs)]) [] [] rfl (fun _ => kr) ma2 rfl rfl rfl (fun w_ hm_ hl_ => (clonen_c xs a xs.length cap _ (hat.mem0 hm_) rfl ma1)) (fun _ => rfl)) (fun g3 ok4 => Wl.run 1 ma0 (Wl.ht rfl (Ht.box (v := aV [sV g3 xs.length, bV false]) (cs := [sV g3 xs.length, bV false]) rfl rfl ma0 rfl) (fun p6 => ?_)))))
 refine Wl.run 1 ma0 (Wl.nil (hK2 _ _ _ (W.prune' [2] [pV p6 0] ma0 (fun f6 => W.ret ?_))))
 show ∀ w_, _ → bodyPostM (fence none) 0 Tryz.prog Tryz.f131 _ Exit.ret _ w_
 exact fun w_ hS_ => fin_ret (ret1 rfl (RV.tmp (v := pV p6 0) ma0) hS_ ⟨⟨p6, g3⟩, ok4, rfl, hS_⟩)
theorem eye_ne (v : Value) (x : UInt8) (h : (match v with | .int _ _ => false | _ => true) = true) : v ≠ b8 x := fun e => by subst e; cases h
theorem eye_apart {w : World} {b len cap : Nat} {a a' : Option Addr} {bad : Bool} {ys : List UInt8} {t : TypeId} (hl : Mem w [b] [[cb b [.slice a' len cap, .bool bad] t]] w) (hat : At w a (byc ys)) : 0 < (byc ys).length → (a.getD default).block ∉ [b] := fun h0 => by
  have hb := hl.at (i := 0) (j := 0) (p := cb b [.slice a' len cap, .bool bad] t) rfl rfl
  have := hat.ne (b := b) (cs := [.slice a' len cap, .bool bad]) hb (fun v hv x => eye_ne v x (by
    rcases List.mem_cons.1 hv with rfl | hv
    · rfl
    · obtain rfl := List.mem_singleton.1 hv; rfl)) h0
  simpa using this
def asked (n : Int) : Nat := (imax n 0).toNat
theorem asked_eq (n : Int) : imax n 0 = (asked n : Int) := by unfold asked; have := imax_bd n 0; omega
def eOut (ys : List UInt8) (n : Int) : List UInt8 := if asked n ≤ ys.length then ys.take (asked n) else []
def eRest (ys : List UInt8) (n : Int) : List UInt8 := if asked n ≤ ys.length then ys.drop (asked n) else []
def eBad (ys : List UInt8) (bad : Bool) (n : Int) : Bool := bif decide (asked n ≤ ys.length) then bad else true
theorem eOut_t {ys : List UInt8} {n : Int} (h : asked n ≤ ys.length) : eOut ys n = ys.take (asked n) := if_pos h
theorem eRest_t {ys : List UInt8} {n : Int} (h : asked n ≤ ys.length) : eRest ys n = ys.drop (asked n) := if_pos h
theorem eBad_t {ys : List UInt8} {bad : Bool} {n : Int} (h : asked n ≤ ys.length) : eBad ys bad n = bad := by simp [eBad, h]
theorem eOut_f {ys : List UInt8} {n : Int} (h : ¬ asked n ≤ ys.length) : eOut ys n = [] := if_neg h
theorem eRest_f {ys : List UInt8} {n : Int} (h : ¬ asked n ≤ ys.length) : eRest ys n = [] := if_neg h
theorem eBad_f {ys : List UInt8} {bad : Bool} {n : Int} (h : ¬ asked n ≤ ys.length) : eBad ys bad n = true := by simp [eBad, h]
structure EG where
  g : FS
  a : Option Addr
  cap : Nat
theorem bytes_c (ys : List UInt8) (a : Option Addr) (cap : Nat) (bad : Bool) (b : Nat) (n : Int) (w : World) (hl : Mem w [b] [[cb b [.slice a ys.length cap, .bool bad] 283]] w) (hat : At w a (byc ys)) (hcap : ys.length ≤ cap) (hy : ys.length ≤ 70368744177664) : Calls Tryz.prog 135 #[pV b 0, iV .i64 n] w (RetM w (fun x : EG => x.g.ok 1 (eOut ys n).length ∧ View x.a (eRest ys n) a ys ∧ (eRest ys n).length ≤ x.cap) (fun x => .slice x.g.a (eOut ys n).length x.g.cap) [b] (fun x => [[cb b [.slice x.a (eRest ys n).length x.cap, .bool (eBad ys bad n)] 283], x.g.seg 5 (byc (eOut ys n))])) := by
 have hne := eye_apart hl hat
 refine calls_W (M := [b]) (LL := [[cb b [Value.slice a ys.length cap, bV bad] 283]]) (n := 37) Tryz.func135 rfl rfl ma6 (hl) (W.seq (fun K1 hK1 => ?_))
 refine W.region (Wl.run 1 ma0 (Wl.nil (hK1 _ _ _ (W.seq (fun K2 hK2 => ?_)))))
 refine W.region (Wl.run 1 ma0 (Wl.ys (v := nV .i64 (asked n)) rfl rfl ((Ys.pure (v := iV .i64 (imax n 0)) (fun _ => kr)).conseq (int_congr (asked_eq n))) ?_))
 have hm3 := imax_bd n 0
 refine Wl.run 1 ma0 (Wl.nil (hK2 _ _ _ (W.prune' [0, 1] [pV b 0, nV .i64 (asked n)] ma0 (fun f4 => W.seq (fun K5 hK5 => ?_)))))
 refine W.seq (fun K6 hK6 => W.region (Wl.run 4 ma0 (Wl.ys rfl rfl (Ys.l1 b 0 0 0 Tryz.isAgg38) (Wl.run 2 ma0 ?_))))
 refine Wl.nil (hK6 _ _ _ (W.prune' [0, 1, 13] [pV b 0, nV .i64 (asked n), bV (decide (((asked n : Nat) : Int) > (ys.length : Int)))] ma0 (fun f7 => ?_)))
 refine W.cond (decide (((asked n : Nat) : Int) > (ys.length : Int))) ma0 (fun h8 => ?_) (fun h9 => ?_)
 ·have qh8 := h8; try simp only [zA] at qh8
  refine W.seq (fun K10 hK10 => W.region (Wl.run 4 ma0 (Wl.ht rfl (Ht.store (b := b) (o' := 0) (i := 0) (j := 0) (v := Value.slice none 0 0) (LL' := [[cb b [Value.slice none 0 0, bV bad] 283]]) rfl rfl ma0 ma0 Tryz.sizeOf38 rfl rfl rfl ma6 rfl rfl) (fun _ => Wl.run 2 ma0 ?_))))
  refine Wl.ht rfl (Ht.store (b := b) (o' := 1) (i := 0) (j := 0) (v := bV true) (LL' := [[cb b [Value.slice none 0 0, bV true] 283]]) rfl rfl ma0 ma0 Tryz.sizeOf4 rfl rfl rfl ma6 rfl rfl) (fun _ => Wl.nil (hK10 _ _ _ (W.prune' [] [] ma0 (fun f11 => W.seq (fun K12 hK12 => ?_)))))
  refine W.region (Wl.run 1 ma0 (Wl.nil (hK12 _ _ _ (W.ret ?_))))
  show ∀ w_, _ → bodyPostM (fence none) 0 Tryz.prog Tryz.f135 _ Exit.ret _ w_
  exact fun w_ hS_ => fin_ret (ret1 rfl (RV.tmp (v := Value.slice none 0 0) ma0) hS_ ⟨⟨FS.nul, none, 0⟩, (by have hk : ¬ asked n ≤ ys.length := ma1; dsimp only; rw [eOut_f hk, eRest_f hk]; exact ⟨FS.nul_ok 1, View.nil _ _ _, Nat.le_refl _⟩), congrArg Ending.returned ((by have hk : ¬ asked n ≤ ys.length := ma1; dsimp only; rw [eOut_f hk]; rfl)), (Mem.cast (by have hk : ¬ asked n ≤ ys.length := ma1; rw [eOut_f hk, eRest_f hk, eBad_f hk]; rfl) (hS_.push.pick (LL' := [[cb b [.slice none 0 0, .bool true] 283], []]) [1, 0] ma2 rfl))⟩)
 ·have qh9 := h9; try simp only [zA] at qh9
  refine W.skip' (hK5 _ _ _ (W.prune' [0, 1] [pV b 0, nV .i64 (asked n)] ma0 (fun f13 => W.seq (fun K14 hK14 => W.draws [(0, true), (1, true), (2, true), (3, true), (4, true), (5, true), (6, true), (8, true), (9, true), (10, true), (11, true), (12, true), (13, true), (7, false), (14, false), (15, false), (16, false), (17, false)] [0, 1, 2, 3, 4, 5, 6, 8, 9, 10, 11, 12, 13] (Mem w [b] [[cb b [Value.slice a ys.length cap, bV bad] 283]]) ma0 ma0 ma0 rfl ma0 (fun _ _ h_ => h_.drawn _) (fun _ h_ => h_) ?_))))
  refine Wd.run 4 ma0 (Wd.ys rfl rfl rfl (Ys.l1 b 0 0 0 Tryz.isAgg38) (Wd.run 1 ma0 (Wd.ys (v := Value.slice a (asked n) cap) rfl rfl rfl (Ys.sliceH (a := a) (len := ys.length) (cap := cap) (sz := 1) (k := .i64) (i := (asked n : Int)) rfl ma0 ma0 Tryz.runUnderlying38 Tryz.sizeOf5 ma1 ma1) (Wd.run 3 ma0 ?_))))
  refine Wd.ys rfl rfl rfl (Ys.l1 b 0 0 0 Tryz.isAgg38) (Wd.run 1 ma0 (Wd.ys (v := Value.slice (sla a cap (asked n) 1) (ys.length - (asked n)) (cap - (asked n))) rfl rfl rfl (Ys.sliceL (a := a) (len := ys.length) (cap := cap) (sz := 1) (k := .i64) (i := (asked n : Int)) rfl ma0 ma0 Tryz.runUnderlying38 Tryz.sizeOf5 ma1 ma1) (Wd.htS rfl rfl (HtS.call (β := FS) (k := 148) (args := #[Value.slice a (asked n) cap]) (Lin := []) (Lk := [[cb b [Value.slice a ys.length cap, bV bad] 283]]) (Mi := []) (Lo := fun g15 => [g15.seg 5 (mc b8 (ys.take (asked n))), [cb b [Value.slice a ys.length cap, bV bad] 283]]) [] [0] rfl (fun _ => kr) ma2 rfl rfl rfl (fun w_ hm_ hl_ => (clonen_c (ys.take (asked n)) a (asked n) cap _ ((hat.mem' hm_ hne).mtake (asked n)) (by first | rfl | (rw [List.length_take]; omega) | (rw [List.length_take, List.length_drop]; omega) | (simp [be_len]; done) | (simp [be_len]; omega)) ma1)) (fun _ => rfl)) (.inr fun _ _ h_ => h_.pick [1] ma2 rfl) (fun g15 ok16 => Wd.yc (v := sV g15 ((ys.take (asked n)).length)) rfl rfl rfl (Ys.yc (Ys.pure (fun _ => kr))) (.inr fun _ h_ => h_.pick [1] ma2 rfl) ?_))))
  refine Wd.yc (v := pV b 0) rfl rfl rfl (Ys.yc (Ys.pure (fun _ => kr))) (.inl ma0) (Wd.yc (v := pV b 0) rfl rfl rfl (Ys.yc (Ys.pure (fun _ => kr))) (.inl ma0) (Wd.ht rfl rfl (Ht.store (b := b) (o' := 0) (i := 1) (j := 0) (v := Value.slice (sla a cap (asked n) 1) (ys.length - (asked n)) (cap - (asked n))) (LL' := [g15.seg 5 (mc b8 (ys.take (asked n))), [cb b [Value.slice (sla a cap (asked n) 1) (ys.length - (asked n)) (cap - (asked n)), bV bad] 283]]) rfl rfl ma0 ma0 Tryz.sizeOf38 rfl rfl rfl ma6 rfl rfl) (.inl ma0) (fun _ => Wd.nil (hK14 _ _ _ ?_))))
  refine W.prune' [4] [sV g15 ((ys.take (asked n)).length)] ma0 (fun f18 => W.seq (fun K19 hK19 => ?_))
  refine W.region (Wl.run 2 ma0 (Wl.nil (hK19 _ _ _ (W.prune' [4] [sV g15 ((ys.take (asked n)).length)] ma0 (fun f20 => ?_)))))
  refine W.ret ?_
  show ∀ w_, _ → bodyPostM (fence none) 0 Tryz.prog Tryz.f135 _ Exit.ret _ w_
  exact fun w_ hS_ => fin_ret (ret1 rfl (RV.tmp (v := sV g15 ((ys.take (asked n)).length)) ma0) hS_ ⟨⟨g15, sla a cap (asked n) 1, cap - (asked n)⟩, (by have hk : asked n ≤ ys.length := ma1; dsimp only; rw [eRest_t hk, eOut_t hk]; exact ⟨ok16, View.drop cap (asked n) hcap, by rw [List.length_drop]; omega⟩), congrArg Ending.returned ((by have hk : asked n ≤ ys.length := ma1; dsimp only; rw [eOut_t hk])), (Mem.cast (by have hk : asked n ≤ ys.length := ma1; dsimp only; rw [eOut_t hk, eRest_t hk, eBad_t hk, List.length_drop]) (hS_.pick (LL' := [[cb b [Value.slice (sla a cap (asked n) 1) (ys.length - (asked n)) (cap - (asked n)), bV bad] 283], g15.seg 5 (mc b8 (ys.take (asked n)))]) [1, 0] ma2 rfl))⟩)
theorem bytesn_c (ys : List UInt8) (a : Option Addr) (len cap : Nat) (bad : Bool) (b : Nat) (n : Int) (w : World) (hn : len = ys.length) (hl : Mem w [b] [[cb b [.slice a len cap, .bool bad] 283]] w) (hat : At w a (byc ys)) (hcap : ys.length ≤ cap) (hy : ys.length ≤ 70368744177664) :
    Calls Tryz.prog 135 #[.pointer (some ⟨b, 0, none⟩), .int .i64 n] w (RetM w (fun x : EG => x.g.ok 1 (eOut ys n).length ∧ View x.a (eRest ys n) a ys ∧ (eRest ys n).length ≤ x.cap) (fun x => .slice x.g.a (eOut ys n).length x.g.cap) [b] (fun x => [[cb b [.slice x.a (eRest ys n).length x.cap, .bool (eBad ys bad n)] 283], x.g.seg 5 (byc (eOut ys n))])) := by
  subst hn; exact bytes_c ys a cap bad b n w hl hat hcap hy
def bv (xs : List UInt8) : Nat := xs.foldl (fun n b => n * 256 + b.toNat) 0
theorem bv_snoc (xs : List UInt8) (b : UInt8) : bv (xs ++ [b]) = bv xs * 256 + b.toNat := by simp [bv]
theorem take_snoc {xs : List UInt8} {k : Nat} (h : k < xs.length) : xs.take (k + 1) = xs.take k ++ [xs.getD k 0] := by
  rw [List.take_add_one]; simp [h]
theorem bv_lt : ∀ (xs : List UInt8), bv xs < 256 ^ xs.length := fun xs => by
  have key : ∀ (ys : List UInt8), bv ys.reverse < 256 ^ ys.length := by
    intro ys
    induction ys with
    | nil => simp [bv]
    | cons y ys ih =>
      rw [List.reverse_cons, bv_snoc, List.length_cons, Nat.pow_succ]
      have := UInt8.toNat_lt y
      omega
  have := key xs.reverse
  simpa using this
theorem bv_lt64 {xs : List UInt8} (h : xs.length ≤ 8) : bv xs < 18446744073709551616 := by
  have h1 := bv_lt xs
  have h2 : 256 ^ xs.length ≤ 256 ^ 8 := Nat.pow_le_pow_right ma2 h
  omega
theorem bv_lt56 {xs : List UInt8} (h : xs.length ≤ 7) : bv xs * 256 < 18446744073709551616 - 255 := by
  have h1 := bv_lt xs
  have h2 : 256 ^ xs.length ≤ 256 ^ 7 := Nat.pow_le_pow_right ma2 h
  omega
theorem bv_or {xs : List UInt8} {k : Nat} (h : k < xs.length) (h8 : xs.length ≤ 8) : bv (xs.take k) * 256 % 18446744073709551616 ||| (xs.getD k 0).toNat = bv (xs.take (k + 1)) := by
  have h1 := bv_lt56 (xs := xs.take k) (by simp; omega)
  rw [take_snoc h, bv_snoc, Nat.mod_eq_of_lt ma1, show bv (xs.take k) * 256 = bv (xs.take k) * 2 ^ 8 by rfl, shl_or (UInt8.toNat_lt _)]
theorem eOut_le (ys : List UInt8) (n : Int) : (eOut ys n).length ≤ asked n := by
  unfold eOut; split
  · rw [List.length_take]; omega
  · simp
theorem asked_size8 (n : Int) : asked (size8 n : Int) = size8 n := by
  unfold asked imax
  split <;> omega
structure EV where
  a : Option Addr
  cap : Nat
theorem enum_c (ys : List UInt8) (a : Option Addr) (cap : Nat) (bad : Bool) (b : Nat) (size : Int) (w : World) (hl : Mem w [b] [[cb b [.slice a ys.length cap, .bool bad] 283]] w) (hat : At w a (byc ys)) (hcap : ys.length ≤ cap) (hy : ys.length ≤ 70368744177664) : Calls Tryz.prog 132 #[pV b 0, iV .i64 size] w (RetM w (fun x : EV => View x.a (eRest ys (size8 size : Int)) a ys ∧ (eRest ys (size8 size : Int)).length ≤ x.cap) (fun x => .int .u64 (bv (eOut ys (size8 size : Int)) : Int)) [b] (fun x => [[cb b [.slice x.a (eRest ys (size8 size : Int)).length x.cap, .bool (eBad ys bad (size8 size : Int))] 283]])) := by
 have hne := eye_apart hl hat; have hs8 := size8_le size; have ho8 := eOut_le ys (size8 size : Int); rw [asked_size8] at ho8
 refine calls_W (M := [b]) (LL := [[cb b [Value.slice a ys.length cap, bV bad] 283]]) (n := 23) Tryz.func132 rfl rfl ma6 (hl) (W.seq (fun K1 hK1 => ?_))
 refine W.region (Wl.run 1 ma0 (Wl.nil (hK1 _ _ _ (W.seq (fun K2 hK2 => ?_)))))
 refine W.seq (fun K3 hK3 => W.region (Wl.run 2 ma0 (Wl.yc (v := nV .i64 (size8 size)) rfl rfl (Yc.call (fun _ => kr) (fun w_ hm_ => width_c _ _)) (Wl.htS rfl (HtS.call (β := EG) (k := 135) (args := #[pV b 0, nV .i64 (size8 size)]) (Lin := [[cb b [Value.slice a ys.length cap, bV bad] 283]]) (Lk := []) (Mi := [b]) (Lo := fun eg4 => [[cb b [Value.slice eg4.a ((eRest ys (size8 size : Int)).length) eg4.cap, bV (eBad ys bad (size8 size : Int))] 283], eg4.g.seg 5 (mc b8 (eOut ys (size8 size : Int)))]) [0] [] rfl (fun _ => kr) ma2 rfl rfl rfl (fun w_ hm_ hl_ => (bytesn_c ys a ys.length cap bad b (size8 size : Int) _ rfl hl_ (hat.mem' hm_ hne) ma11 ma11)) (fun _ => rfl)) (fun eg4 hx10 => ?_)))))
 obtain ⟨ok5, hv6, hc7⟩ := hx10
 refine Wl.run 2 ma0 (Wl.nil (hK3 _ _ _ (W.prune' [4, 10, 11, 12] [iV .u64 0, Value.slice eg4.g.a ((eOut ys (size8 size : Int)).length) eg4.g.cap, nV .i64 ((eOut ys (size8 size : Int)).length), iV .i64 0] ma0 (fun f11 => W.block ?_))))
 refine W.loop1 [4, 10, 11, 12] (fun (k : Nat) => [nV .u64 (bv ((eOut ys (size8 size : Int)).take k)), Value.slice eg4.g.a ((eOut ys (size8 size : Int)).length) eg4.g.cap, nV .i64 ((eOut ys (size8 size : Int)).length), nV .i64 k]) (fun (k : Nat) => k ≤ (eOut ys (size8 size : Int)).length) (fun (k : Nat) => [[cb b [Value.slice eg4.a ((eRest ys (size8 size : Int)).length) eg4.cap, bV (eBad ys bad (size8 size : Int))] 283], eg4.g.seg 5 (mc b8 (eOut ys (size8 size : Int)))]) (fun (k : Nat) => (eOut ys (size8 size : Int)).length - k) 0 (Eq.trans (b := ([iV .u64 0, Value.slice eg4.g.a ((eOut ys (size8 size : Int)).length) eg4.g.cap, nV .i64 ((eOut ys (size8 size : Int)).length), iV .i64 0] : List Value)) ma0 (by simp [bv])) ma29 (by rfl) (fun k f13 J12 hp14 hJ12 => ?_)
 have hk := hp14
 have hb := bv_lt64 (xs := (eOut ys (size8 size : Int)).take k) (by simp; omega)
 refine W.seq (fun K15 hK15 => W.region (Wl.run 1 ma0 (Wl.nil (hK15 _ _ _ ?_))))
 refine W.seq (fun K16 hK16 => ?_)
 refine W.cond (decide (((k : Nat) : Int) < ((eOut ys (size8 size : Int)).length : Int))) ma0 (fun h17 => ?_) (fun h18 => ?_)
 ·have qh17 := h17; try simp only [zA] at qh17
  refine W.skip' (hK16 _ _ _ (W.prune' [4, 10, 11, 12] [nV .u64 (bv ((eOut ys (size8 size : Int)).take k)), Value.slice eg4.g.a ((eOut ys (size8 size : Int)).length) eg4.g.cap, nV .i64 ((eOut ys (size8 size : Int)).length), nV .i64 k] ma0 (fun f19 => W.seq (fun K20 hK20 => W.block ?_))))
  refine W.seq (fun K21 hK21 => W.region (Wl.ys (v := Value.pointer (some (ela eg4.g.a (k * 1)))) rfl rfl (Ys.indexAddr (k := .i64) (a := eg4.g.a) (len := (eOut ys (size8 size : Int)).length) (cap := eg4.g.cap) (i := (k : Int)) (sz := 1) rfl ma0 ma0 Tryz.runUnderlying38 Tryz.sizeOf5 ma1 ma1 (by rw [FS.a_own (FS.notnil ok5 ma1)]; rfl)) (Wl.ys (v := nV .u8 (((eOut ys (size8 size : Int)).getD k 0).toNat)) rfl rfl (Ys.ld (a := ela eg4.g.a (k * 1)) rfl ma0 Tryz.isAgg5 (fun w_ h_ => (FS.at (i := 1) (t := 5) h_ rfl (FS.nil_cs ok5 (mc_len1 _))).ld (mc_get1 0 ma11))) ?_)))
  have hb22 : ((eOut ys (size8 size : Int)).getD k 0).toNat < 256 := UInt8.toNat_lt _
  refine Wl.run 1 ma0 (Wl.nil (hK21 _ _ _ (W.prune' [4, 6, 10, 11, 12] [nV .u64 (bv ((eOut ys (size8 size : Int)).take k)), nV .u8 (((eOut ys (size8 size : Int)).getD k 0).toNat), Value.slice eg4.g.a ((eOut ys (size8 size : Int)).length) eg4.g.cap, nV .i64 ((eOut ys (size8 size : Int)).length), nV .i64 k] ma0 (fun f23 => W.region ?_))))
  refine Wl.run 1 ma0 (Wl.ys (v := nV .u64 (((bv ((eOut ys (size8 size : Int)).take k)) * 256) % 18446744073709551616)) rfl rfl ((Ys.pure (v := .int .u64 (ishl .u64 (bv ((eOut ys (size8 size : Int)).take k) : Int) ((8 : Nat) : Int))) (fun _ => kr)).conseq (int_congr (ishl_mod rfl (bv ((eOut ys (size8 size : Int)).take k)) 8 ma2))) (Wl.run 1 ma0 (Wl.ys (v := nV .u64 (((eOut ys (size8 size : Int)).getD k 0).toNat)) rfl rfl ((Ys.pure (v := .int .u64 (icnv .u64 (((eOut ys (size8 size : Int)).getD k 0).toNat : Int))) (fun _ => kr)).conseq (int_congr (wrap_u64 ma1 ma1))) (Wl.ys (v := nV .u64 ((((bv ((eOut ys (size8 size : Int)).take k)) * 256) % 18446744073709551616) ||| (((eOut ys (size8 size : Int)).getD k 0).toNat))) rfl rfl ((Ys.pure (v := .int .u64 (bor .u64 ((((bv ((eOut ys (size8 size : Int)).take k)) * 256) % 18446744073709551616 : Nat) : Int) (((eOut ys (size8 size : Int)).getD k 0).toNat : Int))) (fun _ => kr)).conseq (int_congr (bor_nat rfl ma18 ma18))) ?_))))
  refine Wl.run 1 ma0 (Wl.nil (hK20 _ _ _ (W.prune' [4, 10, 11, 12] [nV .u64 ((((bv ((eOut ys (size8 size : Int)).take k)) * 256) % 18446744073709551616) ||| (((eOut ys (size8 size : Int)).getD k 0).toNat)), Value.slice eg4.g.a ((eOut ys (size8 size : Int)).length) eg4.g.cap, nV .i64 ((eOut ys (size8 size : Int)).length), nV .i64 k] ma0 (fun f24 => W.region ?_))))
  refine Wl.ys (v := nV .i64 (k + 1)) rfl rfl ((Ys.pure (v := .int .i64 (iadd .i64 (k : Int) 1)) (fun _ => kr)).conseq (int_congr (iadd_eq ma1 ma1 ma1))) (Wl.run 1 ma0 (Wl.nil ?_))
  refine fun w_ h_ => hJ12 (k + 1) _ w_ ma1 ma29 ?_ h_
  refine Eq.trans (b := ([nV .u64 ((((bv ((eOut ys (size8 size : Int)).take k)) * 256) % 18446744073709551616) ||| (((eOut ys (size8 size : Int)).getD k 0).toNat)), Value.slice eg4.g.a ((eOut ys (size8 size : Int)).length) eg4.g.cap, nV .i64 ((eOut ys (size8 size : Int)).length), nV .i64 (k + 1)] : List Value)) ma0 (by rw [bv_or ma1 ma1])
 ·have qh18 := h18; try simp only [zA] at qh18
  refine W.exit (hK2 _ _ _ (W.pick (LL' := [[cb b [Value.slice eg4.a ((eRest ys (size8 size : Int)).length) eg4.cap, bV (eBad ys bad (size8 size : Int))] 283]]) [0] ma2 rfl (W.prune' [4] [nV .u64 (bv ((eOut ys (size8 size : Int)).take k))] ma0 (fun f25 => W.seq (fun K26 hK26 => ?_)))))
  refine W.region (Wl.run 2 ma0 (Wl.nil (hK26 _ _ _ (W.prune' [4] [nV .u64 (bv ((eOut ys (size8 size : Int)).take k))] ma0 (fun f27 => ?_)))))
  refine W.ret ?_
  show ∀ w_, _ → bodyPostM (fence none) 0 Tryz.prog Tryz.f132 _ Exit.ret _ w_
  exact fun w_ hS_ => fin_ret (ret1 rfl (RV.tmp (v := nV .u64 (bv ((eOut ys (size8 size : Int)).take k))) ma0) hS_ ⟨⟨eg4.a, eg4.cap⟩, ⟨hv6, hc7⟩, congrArg Ending.returned ((by dsimp only; rw [List.take_of_length_le ma1])), hS_⟩)
theorem neweyen_c (xs : List UInt8) (a : Option Addr) (len cap : Nat) (w : World) (hn : len = xs.length) (hat : At w a (byc xs)) (hl : xs.length ≤ 70368744177664) : Calls Tryz.prog 131 #[.slice a len cap] w (RetM w (fun x : NE => x.g.ok 1 xs.length) (fun x => .pointer (some ⟨x.b, 0, none⟩)) [] (fun x => [[cb x.b [.slice x.g.a xs.length x.g.cap, .bool false] 283], x.g.seg 5 (byc xs)])) := by
  subst hn; exact neweye_c xs a cap w hat hl
theorem enumn_c (ys : List UInt8) (a : Option Addr) (len cap : Nat) (bad : Bool) (b : Nat) (size : Int) (w : World) (hn : len = ys.length) (hl : Mem w [b] [[cb b [.slice a len cap, .bool bad] 283]] w) (hat : At w a (byc ys)) (hcap : ys.length ≤ cap) (hy : ys.length ≤ 70368744177664) :
    Calls Tryz.prog 132 #[.pointer (some ⟨b, 0, none⟩), .int .i64 size] w (RetM w (fun x : EV => View x.a (eRest ys (size8 size : Int)) a ys ∧ (eRest ys (size8 size : Int)).length ≤ x.cap) (fun x => .int .u64 (bv (eOut ys (size8 size : Int)) : Int)) [b] (fun x => [[cb b [.slice x.a (eRest ys (size8 size : Int)).length x.cap, .bool (eBad ys bad (size8 size : Int))] 283]])) := by
  subst hn; exact enum_c ys a cap bad b size w hl hat hcap hy
end Go.Proofs.YtmonlaoaengfdaaGreatDoor.Oct
namespace Go.Proofs.YtmonlaoaengfdaaGreatDoor.Oct
open Go.RowKit Base
attribute [local irreducible] Ys Yc Ht HtS HtIn Wl Wd W Mem pf dpf
theorem asked_nat (k : Nat) : asked (k : Int) = k := by unfold asked imax; split <;> omega
end Go.Proofs.YtmonlaoaengfdaaGreatDoor.Oct
