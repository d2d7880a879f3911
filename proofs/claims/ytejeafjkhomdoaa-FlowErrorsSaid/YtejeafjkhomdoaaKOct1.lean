import Derived.Test.YtejeafjkhomdoaaChecked
import Derived.Test.YtejeafjkhomdoaaKVE
set_option linter.unusedVariables false
set_option linter.unusedSimpArgs false
set_option maxRecDepth 20000
namespace Go.Proofs.Ytejeafjkhomdoaa.Oct
open Go.RowKit Base
attribute [local irreducible] Ys Yc Ht HtS HtIn Wl Wd W Mem pf dpf
def size8 (n : Int) : Nat := (imin (imax n 0) 8).toNat
theorem size8_le (n : Int) : size8 n ≤ 8 := by unfold size8; have := imin_bd (imax n 0) 8; omega
theorem size8_eq (n : Int) : imin (imax n 0) 8 = (size8 n : Int) := by unfold size8; have h1 := imin_bd (imax n 0) 8; have h2 := imax_bd n 0; omega
theorem width_c (size : Int) (w : World) : Calls Try.prog 75 #[iV .i64 size] w (Ret w (.int .i64 (size8 size : Int))) := by
 refine calls_W (M := []) (LL := []) (n := 6) Try.func75 rfl rfl ma10 (Mem.refl _) (W.seq (fun K1 hK1 => ?_))
 refine W.region (Wl.run 1 ma0 (Wl.nil (hK1 _ _ _ (W.seq (fun K2 hK2 => ?_)))))
 refine W.region (Wl.run 4 ma0 ?_)
 have hm3 := imax_bd size 0
 have hm4 := imin_bd (imax size 0) 8
 refine Wl.nil (hK2 _ _ _ (W.ret ?_))
 show ∀ w_, _ → bodyPostM (fence none) 0 Try.prog Try.f75 _ Exit.ret _ w_
 exact fun w_ hS_ => fin_ret (ret1 rfl (RV.tmp (v := iV .i64 (imin (imax size 0) 8)) ma0) hS_ ⟨by clear hK1 hK2; refine congrArg Ending.returned ?_; exact int_congr (size8_eq size), hS_.below⟩)
theorem rsize_c (size : Int) (w : World) : Calls Try.prog 78 #[iV .i64 size] w (Ret w (.int .i64 (size8 size : Int))) := by
 refine calls_W (M := []) (LL := []) (n := 8) Try.func78 rfl rfl ma10 (Mem.refl _) (W.seq (fun K1 hK1 => ?_))
 refine W.region (Wl.run 1 ma0 (Wl.nil (hK1 _ _ _ (W.seq (fun K2 hK2 => ?_)))))
 refine W.seq (fun K3 hK3 => W.region (Wl.run 2 ma0 (Wl.nil (hK3 _ _ _ ?_))))
 refine W.cond (decide (size < 0)) ma0 (fun h4 => ?_) (fun h5 => ?_)
 ·have qh4 := h4; try simp only [zA] at qh4
  refine W.seq (fun K6 hK6 => W.region (Wl.run 1 ma0 (Wl.nil (hK6 _ _ _ ?_))))
  refine W.ret ?_
  show ∀ w_, _ → bodyPostM (fence none) 0 Try.prog Try.f78 _ Exit.ret _ w_
  exact fun w_ hS_ => fin_ret (ret1 rfl (RV.tmp (v := iV .i64 0) ma0) hS_ ⟨by clear hK1 hK2 hK3 hK6; refine congrArg Ending.returned ?_; refine int_congr ((size8_eq size).symm.trans ?_).symm; unfold imin imax; repeat (first | omega | split), hS_.below⟩)
 ·have qh5 := h5; try simp only [zA] at qh5
  refine W.skip' (hK2 _ _ _ (W.seq (fun K7 hK7 => W.seq (fun K8 hK8 => W.region ?_))))
  refine Wl.run 2 ma0 (Wl.nil (hK8 _ _ _ ?_))
  refine W.cond (decide (size > 8)) ma0 (fun h9 => ?_) (fun h10 => ?_)
  ·have qh9 := h9; try simp only [zA] at qh9
   refine W.seq (fun K11 hK11 => W.region (Wl.run 1 ma0 (Wl.nil (hK11 _ _ _ ?_))))
   refine W.ret ?_
   show ∀ w_, _ → bodyPostM (fence none) 0 Try.prog Try.f78 _ Exit.ret _ w_
   exact fun w_ hS_ => fin_ret (ret1 rfl (RV.tmp (v := iV .i64 8) ma0) hS_ ⟨by clear hK1 hK2 hK3 hK7 hK8 hK11; refine congrArg Ending.returned ?_; refine int_congr ((size8_eq size).symm.trans ?_).symm; unfold imin imax; repeat (first | omega | split), hS_.below⟩)
  ·have qh10 := h10; try simp only [zA] at qh10
   refine W.skip' (hK7 _ _ _ (W.seq (fun K12 hK12 => W.region (Wl.run 2 ma0 ?_))))
   refine Wl.nil (hK12 _ _ _ (W.ret ?_))
   show ∀ w_, _ → bodyPostM (fence none) 0 Try.prog Try.f78 _ Exit.ret _ w_
   exact fun w_ hS_ => fin_ret (ret1 rfl (RV.tmp (v := iV .i64 size) ma0) hS_ ⟨by clear hK1 hK2 hK3 hK7 hK8 hK12; refine congrArg Ending.returned ?_; refine int_congr ((size8_eq size).symm.trans ?_).symm; unfold imin imax; repeat (first | omega | split), hS_.below⟩)
def be : Nat → Nat → List UInt8
  | 0, _ => []
  | k + 1, n => be k (n / 256) ++ [UInt8.ofNat n]
theorem be_len : ∀ k n, (be k n).length = k
  | 0, _ => rfl
  | k + 1, n => by simp [be, be_len k]
theorem be_front : ∀ k n, be (k + 1) n = UInt8.ofNat (n / 256 ^ k) :: be k n
  | 0, n => by simp [be]
  | k + 1, n => by
    rw [be, be_front k, be, List.cons_append]
    rw [Nat.div_div_eq_div_mul, ← Nat.pow_succ']
theorem num_step (k i n : Nat) (h : i < k) : (List.replicate (k - i) 0 ++ be i n).set (k - 1 - i) (UInt8.ofNat (n / 256 ^ i)) = List.replicate (k - (i + 1)) 0 ++ be (i + 1) n := by
  obtain ⟨m, rfl⟩ : ∃ m, k = i + 1 + m := ⟨k - (i + 1), by omega⟩
  rw [show i + 1 + m - i = m + 1 by omega, show i + 1 + m - 1 - i = m by omega, show i + 1 + m - (i + 1) = m by omega, be_front]
  rw [List.set_append_left _ _ ma10, List.replicate_succ', List.set_append_right _ _ ma10]
  simp
theorem ofNat_mod (x : Nat) : UInt8.ofNat (x % 256) = UInt8.ofNat x := UInt8.toNat_inj.1 (by rw [UInt8.toNat_ofNat', UInt8.toNat_ofNat']; omega)
theorem div_lt (n i : Nat) (h : n < 18446744073709551616) : n / 256 ^ i < 18446744073709551616 := Nat.lt_of_le_of_lt (Nat.div_le_self _ _) h
theorem div_step (n i : Nat) : n / 256 ^ i / 256 = n / 256 ^ (i + 1) := by rw [Nat.div_div_eq_div_mul, ← Nat.pow_succ]
theorem num_c (size : Int) (n : Nat) (hn : n < 18446744073709551616) (w : World) : Calls Try.prog 64 #[iV .i64 size, nV .u64 n] w (RetM w (fun g : FS => g.ok 1 (size8 size) ∧ g.nil = false) (fun g => .slice g.a (size8 size) g.cap) [] (fun g => [g.seg 5 (byc (be (size8 size) n))])) := by
 have hs8 := size8_le size
 refine calls_W (M := []) (LL := []) (n := 28) Try.func64 rfl rfl ma10 (Mem.refl _) (W.seq (fun K1 hK1 => ?_))
 refine W.region (Wl.run 1 ma0 (Wl.nil (hK1 _ _ _ (W.seq (fun K2 hK2 => ?_)))))
 refine W.region (Wl.run 1 ma0 (Wl.yc (v := nV .i64 (size8 size)) rfl rfl (Yc.call (fun _ => kr) (fun w_ hm_ => width_c _ _)) (Wl.ht rfl (Ht.make (kl := .i64) (kc := .i64) (t := 25) (e := 5) (ii := (Try.prog.info? 5).getD default) (z := iV .u8 0) (lv := (size8 size : Int)) (sz := 1) (bytes := 1) (cs := mc b8 (List.replicate (size8 size) 0)) rfl rfl ma0 ma0 ma0 ma0 ma0 ma0 ma0 ma1 ma1 ma1 (mc_zero (g := b8) _ 0 rfl)) (fun p9 => Wl.run 1 ma0 ?_))))
 refine Wl.nil (hK2 _ _ _ (W.seq (fun K3 hK3 => W.seq (fun K4 hK4 => W.region ?_))))
 refine Wl.run 3 ma0 (Wl.nil (hK4 _ _ _ (W.block (W.loop1 [1, 5, 11, 12] (fun (i : Nat) => [nV .u64 (n / 256 ^ i), Value.slice (some ⟨p9, 0, none⟩) (size8 size) (size8 size), nV .i64 (size8 size), nV .i64 i]) (fun (i : Nat) => i ≤ size8 size) (fun (i : Nat) => [[cb p9 (mc b8 (List.replicate (size8 size - i) 0 ++ be i n)) 5]]) (fun (i : Nat) => size8 size - i) 0 (Eq.trans (b := ([nV .u64 n, Value.slice (some ⟨p9, 0, none⟩) (size8 size) (size8 size), nV .i64 (size8 size), iV .i64 0] : List Value)) ma0 ma10) ma26 (by simp [be]) (fun i f6 J5 hp7 hJ5 => ?_)))))
 have hi := hp7
 have hd := div_lt n i hn; have hs := size8_le size; have hl : (List.replicate (size8 size - i) (0 : UInt8) ++ be i n).length = size8 size := by simp [be_len]; omega
 refine W.seq (fun K8 hK8 => W.region (Wl.run 1 ma0 (Wl.nil (hK8 _ _ _ ?_))))
 refine W.seq (fun K9 hK9 => ?_)
 refine W.cond (decide (((i : Nat) : Int) < (size8 size : Int))) ma0 (fun h10 => ?_) (fun h11 => ?_)
 ·have qh10 := h10; try simp only [zA] at qh10
  refine W.skip' (hK9 _ _ _ (W.seq (fun K12 hK12 => W.block (W.seq (fun K13 hK13 => ?_)))))
  refine W.region (Wl.run 2 ma0 (Wl.nil (hK13 _ _ _ (W.seq (fun K14 hK14 => ?_)))))
  refine W.region (Wl.run 3 ma0 (Wl.ys (v := iV .i64 (((size8 size : Nat) : Int) - 1)) rfl rfl ((Ys.pure (v := .int .i64 (isub .i64 (size8 size : Int) 1)) (fun _ => kr)).conseq (int_congr (isub_eq rfl ma1 ma1))) (Wl.run 1 ma0 (Wl.ys (v := iV .i64 (((size8 size : Int) - 1) - (i : Int))) rfl rfl ((Ys.pure (v := .int .i64 (isub .i64 (((size8 size : Nat) : Int) - 1) (i : Int))) (fun _ => kr)).conseq (int_congr (isub_eq rfl ma1 ma1))) ?_))))
  refine Wl.run 1 ma0 (Wl.ys (v := nV .u8 ((UInt8.ofNat (n / 256 ^ i)).toNat)) rfl rfl ((Ys.pure (v := .int .u8 (icnv .u8 ((n / 256 ^ i : Nat) : Int))) (fun _ => kr)).conseq (int_congr (u8_wrapN _))) (Wl.ys (v := Value.pointer (some ⟨p9, (((((size8 size : Nat) : Int) - 1) - (i : Int)).toNat) * 1, none⟩)) rfl rfl ((Ys.indexAddr (k := .i64) (a := some ⟨p9, 0, none⟩) (len := size8 size) (cap := size8 size) (i := (((size8 size : Nat) : Int) - 1) - (i : Int)) (sz := 1) rfl ma0 ma0 Try.runUnderlying25 Try.sizeOf5 ma1 ma1 rfl).conseq (congrArg (fun a => Value.pointer (some a)) (ela_own0 _ _))) (Wl.ht rfl (Ht.store (b := p9) (o' := (((((size8 size : Nat) : Int) - 1) - (i : Int)).toNat) * 1) (i := 0) (j := 0) (cs := mc b8 (List.replicate (size8 size - i) 0 ++ be i n)) (cs' := mc b8 ((List.replicate (size8 size - i) 0 ++ be i n).set (((((size8 size : Nat) : Int) - 1) - (i : Int)).toNat) (UInt8.ofNat (n / 256 ^ i)))) (v := nV .u8 ((UInt8.ofNat (n / 256 ^ i)).toNat)) (LL' := [[cb p9 (mc b8 ((List.replicate (size8 size - i) 0 ++ be i n).set (((((size8 size : Nat) : Int) - 1) - (i : Int)).toNat) (UInt8.ofNat (n / 256 ^ i)))) 5]]) rfl rfl ma0 ma0 Try.sizeOf5 rfl rfl rfl (by first | (simp [mc]; done) | (simp [mc]; omega)) (mc_set1 (g := b8) (List.replicate (size8 size - i) 0 ++ be i n) (((((size8 size : Nat) : Int) - 1) - (i : Int)).toNat) (UInt8.ofNat (n / 256 ^ i))) rfl) (fun _ => Wl.nil ?_))))
  refine hK14 _ _ _ (W.prune' [1, 5, 11, 12] [nV .u64 (n / 256 ^ i), Value.slice (some ⟨p9, 0, none⟩) (size8 size) (size8 size), nV .i64 (size8 size), nV .i64 i] ma0 (fun f15 => ?_))
  refine W.region (Wl.run 1 ma0 (Wl.ys (v := nV .u64 ((n / 256 ^ i) / 256)) rfl rfl ((Ys.pure (v := .int .u64 (ishr .u64 ((n / 256 ^ i : Nat) : Int) ((8 : Nat) : Int))) (fun _ => kr)).conseq (int_congr (ishr_nat (n / 256 ^ i) 8 ma2))) (Wl.run 1 ma0 (Wl.nil ?_))))
  refine hK12 _ _ _ (W.region (Wl.ys (v := nV .i64 (i + 1)) rfl rfl ((Ys.pure (v := .int .i64 (iadd .i64 (i : Int) 1)) (fun _ => kr)).conseq (int_congr (iadd_eq ma1 ma1 ma1))) (Wl.run 1 ma0 (Wl.nil ?_))))
  refine fun w_ h_ => hJ5 (i + 1) _ w_ ma1 ma26 ?_ (Mem.cast (LL := [[cb p9 (mc b8 ((List.replicate (size8 size - i) 0 ++ be i n).set (((((size8 size : Nat) : Int) - 1) - (i : Int)).toNat) (UInt8.ofNat (n / 256 ^ i)))) 5]]) (by rw [show (((size8 size : Nat) : Int) - 1 - (i : Int)).toNat = size8 size - 1 - i by omega, num_step _ _ _ ma1]) h_)
  refine Eq.trans (b := ([nV .u64 ((n / 256 ^ i) / 256), Value.slice (some ⟨p9, 0, none⟩) (size8 size) (size8 size), nV .i64 (size8 size), nV .i64 (i + 1)] : List Value)) ma0 (by rw [div_step])
 ·have qh11 := h11; try simp only [zA] at qh11
  refine W.exit (hK3 _ _ _ (W.seq (fun K16 hK16 => W.region (Wl.run 2 ma0 ?_))))
  refine Wl.nil (hK16 _ _ _ (W.ret ?_))
  show ∀ w_, _ → bodyPostM (fence none) 0 Try.prog Try.f64 _ Exit.ret _ w_
  exact fun w_ hS_ => fin_ret (ret1 rfl (RV.tmp (v := Value.slice (some ⟨p9, 0, none⟩) (size8 size) (size8 size)) ma0) hS_ ⟨⟨false, p9, size8 size, []⟩, ⟨FS.lit_ok (by have := size8_le size; simp only [maxLen]; omega), rfl⟩, rfl, (Mem.cast (by rw [show size8 size - i = 0 by omega, show i = size8 size by omega]; simp [FS.seg]) hS_)⟩)
theorem rnum_c (size : Int) (n : Nat) (hn : n < 18446744073709551616) (w : World) : Calls Try.prog 58 #[iV .i64 size, nV .u64 n] w (RetM w (fun g : FS => g.ok 1 (size8 size) ∧ g.nil = false) (fun g => .slice g.a (size8 size) g.cap) [] (fun g => [g.seg 5 (byc (be (size8 size) n))])) := by
 have hs8 := size8_le size
 refine calls_W (M := []) (LL := []) (n := 25) Try.func58 rfl rfl ma10 (Mem.refl _) (W.seq (fun K1 hK1 => ?_))
 refine W.region (Wl.run 1 ma0 (Wl.nil (hK1 _ _ _ (W.seq (fun K2 hK2 => ?_)))))
 refine W.region (Wl.ht rfl (Ht.made (mk := fun b_ => .slice (some ⟨b_, 0, none⟩) 0 0) (t := 5) (cs := []) rfl (fun _ => kr)) (fun p8 => ?_))
 refine Wl.run 3 ma0 (Wl.nil (hK2 _ _ _ (W.seq (fun K3 hK3 => W.seq (fun K4 hK4 => ?_)))))
 refine W.region (Wl.run 1 ma0 (Wl.nil (hK4 _ _ _ (W.block ?_))))
 refine W.loop2 [0, 5, 6, 7] (fun (i : Nat) (g : FS) => [iV .i64 size, sV g i, nV .u64 (n / 256 ^ i), nV .i64 i]) (fun (i : Nat) (g : FS) => i ≤ size8 size ∧ g.ok 1 i ∧ g.nil = false) (fun (i : Nat) (g : FS) => [g.seg 5 (mc b8 (be i n))]) (fun (i : Nat) (g : FS) => size8 size - i) 0 ⟨false, p8, 0, []⟩ (Eq.trans (b := ([iV .i64 size, Value.slice (some ⟨p8, 0, none⟩) 0 0, nV .u64 n, iV .i64 0] : List Value)) ma0 (by simp [FS.a])) ⟨(Nat.zero_le _), (FS.lit_ok ma2), rfl⟩ (by rfl) (fun i g f6 J5 hp7 hJ5 => ?_)
 obtain ⟨hi, ok, hnn⟩ := hp7
 have hd := div_lt n i hn
 refine W.seq (fun K8 hK8 => W.seq (fun K9 hK9 => ?_))
 refine W.region (Wl.run 2 ma0 (Wl.yc (v := nV .i64 (size8 size)) rfl rfl (Yc.call (fun _ => kr) (fun w_ hm_ => rsize_c _ _)) (Wl.run 1 ma0 (Wl.nil ?_))))
 refine hK9 _ _ _ ?_
 refine W.cond (decide (((i : Nat) : Int) < (size8 size : Int))) ma0 (fun h10 => ?_) (fun h11 => ?_)
 ·have qh10 := h10; try simp only [zA] at qh10
  refine W.skip' (hK8 _ _ _ (W.seq (fun K12 hK12 => W.block (W.seq (fun K13 hK13 => ?_)))))
  refine W.region (Wl.run 1 ma0 (Wl.ys (v := nV .u64 ((n / 256 ^ i) % 256)) rfl rfl ((Ys.pure (v := .int .u64 (irem ((n / 256 ^ i : Nat) : Int) ((256 : Nat) : Int))) (fun _ => kr)).conseq (int_congr (rfl))) (Wl.ys (v := nV .u8 ((UInt8.ofNat ((n / 256 ^ i) % 256)).toNat)) rfl rfl ((Ys.pure (v := .int .u8 (icnv .u8 (((n / 256 ^ i) % 256 : Nat) : Int))) (fun _ => kr)).conseq (int_congr (u8_wrapN _))) (Wl.ht rfl (Ht.made (mk := fun b_ => .slice (some ⟨b_, 0, none⟩) 1 1) (t := 5) (cs := [nV .u8 ((UInt8.ofNat ((n / 256 ^ i) % 256)).toNat)]) rfl (fun _ => kr)) (fun p19 => ?_)))))
  refine Wl.run 1 ma0 (Wl.htS rfl (HtS.append (eu := 5) (xv := sV g i) (i := 0) (g := (FS.mk false p19 1 [])) (e := 5) (ii := (Try.prog.info? 5).getD default) (z := iV .u8 0) (sz := 1) (bytes := 1) (nn := 1) (m := i) (k := 1 + i) (xs := mc b8 [(UInt8.ofNat ((n / 256 ^ i) % 256))]) (news := mc b8 (be i n)) (cs' := mc b8 ([(UInt8.ofNat ((n / 256 ^ i) % 256))] ++ (be i n))) (Lo := fun g14 => [g14.seg 5 (mc b8 ([(UInt8.ofNat ((n / 256 ^ i) % 256))] ++ (be i n))), g.seg 5 (mc b8 (be i n))]) rfl rfl ma0 ma0 ma0 ma0 ma0 ma0 ma0 ma0 ma0 rfl (FS.lit_ok ma2) (by first | rfl | simp [mc, be_len]) (fun _ => rfl) (Src.at (a := g.a) ma6 (fun w_ h_ => (FS.at (i := 1) (t := 5) h_ rfl (FS.nil_cs ok (by rw [mc_len, be_len, Nat.mul_one]))))) ma6 (mc_one (fun _ => rfl) _) ma5 ma13 ma5 (mc_app _ _) (fun _ => rfl)) (fun g14 hx19 => ?_))
  obtain ⟨ok15, hn16, hn17⟩ := hx19
  refine Wl.run 1 ma0 (Wl.nil (hK13 _ _ _ (W.pick (LL' := [g14.seg 5 (mc b8 ([(UInt8.ofNat ((n / 256 ^ i) % 256))] ++ (be i n)))]) [0] ma2 rfl (W.prune' [0, 5, 6, 7] [iV .i64 size, sV g14 (1 + i), nV .u64 (n / 256 ^ i), nV .i64 i] ma0 (fun f20 => ?_)))))
  refine W.region (Wl.run 1 ma0 (Wl.ys (v := nV .u64 ((n / 256 ^ i) / 256)) rfl rfl ((Ys.pure (v := .int .u64 (iquo .u64 ((n / 256 ^ i : Nat) : Int) ((256 : Nat) : Int))) (fun _ => kr)).conseq (int_congr (iquo_natu rfl ma27))) (Wl.run 1 ma0 (Wl.nil ?_))))
  refine hK12 _ _ _ (W.region (Wl.run 1 ma0 (Wl.ys (v := nV .i64 (i + 1)) rfl rfl ((Ys.pure (v := .int .i64 (iadd .i64 (i : Int) 1)) (fun _ => kr)).conseq (int_congr (iadd_eq ma1 ma1 ma1))) (Wl.run 1 ma0 ?_))))
  refine Wl.nil ?_
  refine fun w_ h_ => hJ5 (i + 1) g14 _ w_ ma1 ⟨ma1, (by rw [Nat.add_comm]; exact ok15), (hn17 (by rfl))⟩ ?_ (Mem.cast (LL := [g14.seg 5 (mc b8 ([(UInt8.ofNat ((n / 256 ^ i) % 256))] ++ (be i n)))]) (by rw [be_front, ofNat_mod]; rfl) h_)
  refine Eq.trans (b := ([iV .i64 size, sV g14 (1 + i), nV .u64 ((n / 256 ^ i) / 256), nV .i64 (i + 1)] : List Value)) ma0 (by rw [div_step, Nat.add_comm])
 ·have qh11 := h11; try simp only [zA] at qh11
  refine W.exit (hK3 _ _ _ (W.seq (fun K21 hK21 => W.region (Wl.run 2 ma0 ?_))))
  refine Wl.nil (hK21 _ _ _ (W.ret ?_))
  show ∀ w_, _ → bodyPostM (fence none) 0 Try.prog Try.f58 _ Exit.ret _ w_
  exact fun w_ hS_ => fin_ret (ret1 rfl (RV.tmp (v := sV g i) ma0) hS_ ⟨g, ⟨(show i = size8 size by omega) ▸ ok, hnn⟩, congrArg Ending.returned ((by rw [show i = size8 size by omega])), (Mem.cast (by rw [show i = size8 size by omega]) hS_)⟩)
end Go.Proofs.Ytejeafjkhomdoaa.Oct
