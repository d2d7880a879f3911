import Derived.Test.YtgohlpdgeicncaaChecked
import Derived.Test.YtgohlpdgeicncaaKVE
set_option linter.unusedVariables false
set_option linter.unusedSimpArgs false
set_option maxRecDepth 20000
namespace Go.Proofs.Ytgohlpdgeicncaa.Oct
open Go.RowKit Base
attribute [local irreducible] Ys Yc Ht HtS HtIn Wl Wd W Mem pf dpf
def size8 (n : Int) : Nat := (imin (imax n 0) 8).toNat
theorem size8_le (n : Int) : size8 n ≤ 8 := by unfold size8; have := imin_bd (imax n 0) 8; omega
theorem size8_eq (n : Int) : imin (imax n 0) 8 = (size8 n : Int) := by unfold size8; have h1 := imin_bd (imax n 0) 8; have h2 := imax_bd n 0; omega
theorem width_c (size : Int) (w : World) : Calls Try.prog 65 #[iV .i64 size] w (Ret w (.int .i64 (size8 size : Int))) := by
 refine calls_W (M := []) (LL := []) (n := 6) Try.func65 rfl rfl ma6 (Mem.refl _) (W.seq (fun K1 hK1 => ?_))
 refine W.region (Wl.run 1 ma0 (Wl.nil (hK1 _ _ _ (W.seq (fun K2 hK2 => ?_)))))
 refine W.region (Wl.run 4 ma0 ?_)
 have hm3 := imax_bd size 0
 have hm4 := imin_bd (imax size 0) 8
 refine Wl.nil (hK2 _ _ _ (W.prune' [2] [iV .i64 (imin (imax size 0) 8)] ma0 (fun f5 => W.ret ?_)))
 show ∀ w_, _ → bodyPostM (fence none) 0 Try.prog Try.f65 _ Exit.ret _ w_
 exact fun w_ hS_ => fin_ret (ret1 rfl (RV.tmp (v := iV .i64 (imin (imax size 0) 8)) ma0) hS_ ⟨by clear hK1 hK2; refine congrArg Ending.returned ?_; exact int_congr (size8_eq size), hS_.below⟩)
def be : Nat → Nat → List UInt8
  | 0, _ => []
  | k + 1, n => be k (n / 256) ++ [UInt8.ofNat n]
theorem be_len : ∀ k n, (be k n).length = k
  | 0, _ => rfl
  | k + 1, n => by simp [be, be_len k]
theorem be_front : ∀ k n, be (k + 1) n = UInt8.ofNat (n / 256 ^ k) :: be k n
  | 0, n => by simp [be]
  | k + 1, n => by
    rw [be, be_front k, be, List.cons_append]
    rw [Nat.div_div_eq_div_mul, ← Nat.pow_succ']
theorem num_step (k i n : Nat) (h : i < k) : (List.replicate (k - i) 0 ++ be i n).set (k - 1 - i) (UInt8.ofNat (n / 256 ^ i)) = List.replicate (k - (i + 1)) 0 ++ be (i + 1) n := by
  obtain ⟨m, rfl⟩ : ∃ m, k = i + 1 + m := ⟨k - (i + 1), by omega⟩
  rw [show i + 1 + m - i = m + 1 by omega, show i + 1 + m - 1 - i = m by omega, show i + 1 + m - (i + 1) = m by omega, be_front]
  rw [List.set_append_left _ _ ma6, List.replicate_succ', List.set_append_right _ _ ma6]
  simp
theorem div_lt (n i : Nat) (h : n < 18446744073709551616) : n / 256 ^ i < 18446744073709551616 := Nat.lt_of_le_of_lt (Nat.div_le_self _ _) h
theorem div_step (n i : Nat) : n / 256 ^ i / 256 = n / 256 ^ (i + 1) := by rw [Nat.div_div_eq_div_mul, ← Nat.pow_succ]
theorem num_c (size : Int) (n : Nat) (hn : n < 18446744073709551616) (w : World) : Calls Try.prog 42 #[iV .i64 size, nV .u64 n] w (RetM w (fun g : FS => g.ok 1 (size8 size) ∧ g.nil = false) (fun g => .slice g.a (size8 size) g.cap) [] (fun g => [g.seg 5 (byc (be (size8 size) n))])) := by
 have hs8 := size8_le size
 refine calls_W (M := []) (LL := []) (n := 28) Try.func42 rfl rfl ma6 (Mem.refl _) (W.seq (fun K1 hK1 => ?_))
 refine W.region (Wl.run 1 ma0 (Wl.nil (hK1 _ _ _ (W.seq (fun K2 hK2 => ?_)))))
 refine W.region (Wl.run 1 ma0 (Wl.yc (v := nV .i64 (size8 size)) rfl rfl (Yc.call (fun _ => kr) (fun w_ hm_ => width_c _ _)) (Wl.ht rfl (Ht.make (kl := .i64) (kc := .i64) (t := 26) (e := 5) (ii := (Try.prog.info? 5).getD default) (z := iV .u8 0) (lv := (size8 size : Int)) (sz := 1) (bytes := 1) (cs := mc b8 (List.replicate (size8 size) 0)) rfl rfl ma0 ma0 ma0 ma0 ma0 ma0 ma0 ma1 ma1 ma1 (mc_zero (g := b8) _ 0 rfl)) (fun p9 => Wl.run 1 ma0 ?_))))
 refine Wl.nil (hK2 _ _ _ (W.prune' [1, 5] [nV .u64 n, Value.slice (some ⟨p9, 0, none⟩) (size8 size) (size8 size)] ma0 (fun f3 => W.seq (fun K4 hK4 => W.seq (fun K5 hK5 => ?_)))))
 refine W.region (Wl.run 3 ma0 (Wl.nil (hK5 _ _ _ (W.prune' [1, 5, 11, 12] [nV .u64 n, Value.slice (some ⟨p9, 0, none⟩) (size8 size) (size8 size), nV .i64 (size8 size), iV .i64 0] ma0 (fun f6 => ?_)))))
 refine W.block (W.loop1 [1, 5, 11, 12] (fun (i : Nat) => [nV .u64 (n / 256 ^ i), Value.slice (some ⟨p9, 0, none⟩) (size8 size) (size8 size), nV .i64 (size8 size), nV .i64 i]) (fun (i : Nat) => i ≤ size8 size) (fun (i : Nat) => [[cb p9 (mc b8 (List.replicate (size8 size - i) 0 ++ be i n)) 5]]) (fun (i : Nat) => size8 size - i) 0 (Eq.trans (b := ([nV .u64 n, Value.slice (some ⟨p9, 0, none⟩) (size8 size) (size8 size), nV .i64 (size8 size), iV .i64 0] : List Value)) ma0 ma6) (by first | omega | trivial | simp) (by simp [be]) (fun i f8 J7 hp9 hJ7 => ?_))
 have hi := hp9
 have hd := div_lt n i hn; have hs := size8_le size; have hl : (List.replicate (size8 size - i) (0 : UInt8) ++ be i n).length = size8 size := by simp [be_len]; omega
 refine W.seq (fun K10 hK10 => W.region (Wl.run 1 ma0 (Wl.nil (hK10 _ _ _ ?_))))
 refine W.seq (fun K11 hK11 => ?_)
 refine W.cond (decide (((i : Nat) : Int) < (size8 size : Int))) ma0 (fun h12 => ?_) (fun h13 => ?_)
 ·have qh12 := h12; try simp only [zA] at qh12
  refine W.skip' (hK11 _ _ _ (W.prune' [1, 5, 11, 12] [nV .u64 (n / 256 ^ i), Value.slice (some ⟨p9, 0, none⟩) (size8 size) (size8 size), nV .i64 (size8 size), nV .i64 i] ma0 (fun f14 => W.seq (fun K15 hK15 => W.block ?_))))
  refine W.seq (fun K16 hK16 => W.region (Wl.run 2 ma0 (Wl.nil (hK16 _ _ _ ?_))))
  refine W.prune' [1, 5, 6, 11, 12] [nV .u64 (n / 256 ^ i), Value.slice (some ⟨p9, 0, none⟩) (size8 size) (size8 size), nV .i64 i, nV .i64 (size8 size), nV .i64 i] ma0 (fun f17 => W.seq (fun K18 hK18 => ?_))
  refine W.region (Wl.run 3 ma0 (Wl.ys (v := iV .i64 (((size8 size : Nat) : Int) - 1)) rfl rfl ((Ys.pure (v := .int .i64 (isub .i64 (size8 size : Int) 1)) (fun _ => kr)).conseq (int_congr (isub_eq rfl ma1 ma1))) (Wl.run 1 ma0 (Wl.ys (v := iV .i64 (((size8 size : Int) - 1) - (i : Int))) rfl rfl ((Ys.pure (v := .int .i64 (isub .i64 (((size8 size : Nat) : Int) - 1) (i : Int))) (fun _ => kr)).conseq (int_congr (isub_eq rfl ma1 ma1))) ?_))))
  refine Wl.run 1 ma0 (Wl.ys (v := nV .u8 ((UInt8.ofNat (n / 256 ^ i)).toNat)) rfl rfl ((Ys.pure (v := .int .u8 (icnv .u8 ((n / 256 ^ i : Nat) : Int))) (fun _ => kr)).conseq (int_congr (u8_wrapN _))) (Wl.ys (v := Value.pointer (some ⟨p9, (((((size8 size : Nat) : Int) - 1) - (i : Int)).toNat) * 1, none⟩)) rfl rfl ((Ys.indexAddr (k := .i64) (a := some ⟨p9, 0, none⟩) (len := size8 size) (cap := size8 size) (i := (((size8 size : Nat) : Int) - 1) - (i : Int)) (sz := 1) rfl ma0 ma0 Try.runUnderlying26 Try.sizeOf5 ma1 ma1 rfl).conseq (congrArg (fun a => Value.pointer (some a)) (ela_own0 _ _))) (Wl.ht rfl (Ht.store (b := p9) (o' := (((((size8 size : Nat) : Int) - 1) - (i : Int)).toNat) * 1) (i := 0) (j := 0) (cs := mc b8 (List.replicate (size8 size - i) 0 ++ be i n)) (cs' := mc b8 ((List.replicate (size8 size - i) 0 ++ be i n).set (((((size8 size : Nat) : Int) - 1) - (i : Int)).toNat) (UInt8.ofNat (n / 256 ^ i)))) (v := nV .u8 ((UInt8.ofNat (n / 256 ^ i)).toNat)) (LL' := [[cb p9 (mc b8 ((List.replicate (size8 size - i) 0 ++ be i n).set (((((size8 size : Nat) : Int) - 1) - (i : Int)).toNat) (UInt8.ofNat (n / 256 ^ i)))) 5]]) rfl rfl ma0 ma0 Try.sizeOf5 rfl rfl rfl (by first | (simp [mc]; done) | (simp [mc]; omega)) (mc_set1 (g := b8) (List.replicate (size8 size - i) 0 ++ be i n) (((((size8 size : Nat) : Int) - 1) - (i : Int)).toNat) (UInt8.ofNat (n / 256 ^ i))) rfl) (fun _ => Wl.nil ?_))))
  refine hK18 _ _ _ (W.prune' [1, 5, 11, 12] [nV .u64 (n / 256 ^ i), Value.slice (some ⟨p9, 0, none⟩) (size8 size) (size8 size), nV .i64 (size8 size), nV .i64 i] ma0 (fun f19 => ?_))
  refine W.region (Wl.run 1 ma0 (Wl.ys (v := nV .u64 ((n / 256 ^ i) / 256)) rfl rfl ((Ys.pure (v := .int .u64 (ishr .u64 ((n / 256 ^ i : Nat) : Int) ((8 : Nat) : Int))) (fun _ => kr)).conseq (int_congr (ishr_nat (n / 256 ^ i) 8 ma3))) (Wl.run 1 ma0 (Wl.nil ?_))))
  refine hK15 _ _ _ (W.prune' [1, 5, 11, 12] [nV .u64 ((n / 256 ^ i) / 256), Value.slice (some ⟨p9, 0, none⟩) (size8 size) (size8 size), nV .i64 (size8 size), nV .i64 i] ma0 (fun f20 => ?_))
  refine W.region (Wl.ys (v := nV .i64 (i + 1)) rfl rfl ((Ys.pure (v := .int .i64 (iadd .i64 (i : Int) 1)) (fun _ => kr)).conseq (int_congr (iadd_eq ma1 ma1 ma1))) (Wl.run 1 ma0 (Wl.nil ?_)))
  refine fun w_ h_ => hJ7 (i + 1) _ w_ ma1 (by first | omega | trivial | simp) ?_ (Mem.cast (LL := [[cb p9 (mc b8 ((List.replicate (size8 size - i) 0 ++ be i n).set (((((size8 size : Nat) : Int) - 1) - (i : Int)).toNat) (UInt8.ofNat (n / 256 ^ i)))) 5]]) (by rw [show (((size8 size : Nat) : Int) - 1 - (i : Int)).toNat = size8 size - 1 - i by omega, num_step _ _ _ ma1]) h_)
  refine Eq.trans (b := ([nV .u64 ((n / 256 ^ i) / 256), Value.slice (some ⟨p9, 0, none⟩) (size8 size) (size8 size), nV .i64 (size8 size), nV .i64 (i + 1)] : List Value)) ma0 (by rw [div_step])
 ·have qh13 := h13; try simp only [zA] at qh13
  refine W.exit (hK4 _ _ _ (W.prune' [5] [Value.slice (some ⟨p9, 0, none⟩) (size8 size) (size8 size)] ma0 (fun f21 => W.seq (fun K22 hK22 => W.region ?_))))
  refine Wl.run 2 ma0 (Wl.nil (hK22 _ _ _ (W.prune' [4] [Value.slice (some ⟨p9, 0, none⟩) (size8 size) (size8 size)] ma0 (fun f23 => W.ret ?_))))
  show ∀ w_, _ → bodyPostM (fence none) 0 Try.prog Try.f42 _ Exit.ret _ w_
  exact fun w_ hS_ => fin_ret (ret1 rfl (RV.tmp (v := Value.slice (some ⟨p9, 0, none⟩) (size8 size) (size8 size)) ma0) hS_ ⟨⟨false, p9, size8 size, []⟩, ⟨FS.lit_ok (by have := size8_le size; simp only [maxLen]; omega), rfl⟩, rfl, (Mem.cast (by rw [show size8 size - i = 0 by omega, show i = size8 size by omega]; simp [FS.seg]) hS_)⟩)
end Go.Proofs.Ytgohlpdgeicncaa.Oct
