/-
  SumSame. No condition.
-/
import Derived.Test.YtegeijaicjackaaOct15
set_option linter.unusedVariables false
set_option linter.unusedSimpArgs false
set_option maxRecDepth 20000
namespace Go.Proofs.Ytegeijaicjackaa.Oct
open Go.RowKit Base
attribute [local irreducible] Ys Yc Ht HtIn Wl Wd W Mem pf dpf

/-- All noughts. -/
def z0 (xs : List UInt8) : Bool := xs.all (· == 0)
theorem z0_step {xs : List UInt8} {k : Nat} (h : k < xs.length) (h1 : z0 (xs.take k) = true) (h2 : (xs.getD k 0).toNat = 0) : z0 (xs.take (k + 1)) = true := by
  unfold z0 at *
  have h3 : xs.getD k 0 = 0 := UInt8.toNat_inj.1 h2
  rw [List.take_add_one, List.all_append, h1]
  rw [List.getD_eq_getElem?_getD] at h3
  simp [h] at h3 ⊢
  exact h3
theorem z0_not {xs : List UInt8} {k : Nat} (h : k < xs.length) (h2 : (xs.getD k 0).toNat ≠ 0) : z0 xs = false := by
  unfold z0
  rw [List.all_eq_false]
  rw [List.getD_eq_getElem?_getD, List.getElem?_eq_getElem h] at h2
  exact ⟨xs[k], List.getElem_mem h, by intro e; apply h2; simp at e; simp [e]⟩
theorem z0_sum : ∀ (xs : List UInt8), (pw xs).sum = 0 → z0 xs = true
  | [], _ => rfl
  | [x], h => by
    have h1 : x.toNat = 0 := by simp [pw] at h; omega
    have h2 : x = 0 := UInt8.toNat_inj.1 h1
    simp [z0, h2]
  | x :: y :: l, h => by
    simp only [pw, List.sum_cons] at h
    have ih := z0_sum l (by omega)
    have h1 : x = 0 := UInt8.toNat_inj.1 (show x.toNat = 0 by omega)
    have h2 : y = 0 := UInt8.toNat_inj.1 (show y.toNat = 0 by omega)
    unfold z0 at ih ⊢
    simp [h1, h2] at ih ⊢
    exact ih
/-- A number of two bytes put into bytes. -/
theorem pw_put : ∀ (xs : List UInt8) (k m : Nat), 2 * k + 1 < xs.length → m < 65536 → (pw (xs.take (2 * k) ++ be 2 m ++ xs.drop (2 * k + 2))).sum + (pw xs).getD k 0 = (pw xs).sum + m
  | [], k, m, h, _ => by simp at h
  | [_], k, m, h, _ => by simp at h
  | x :: y :: l, 0, m, h, hm => by
    have e : (x :: y :: l).take (2 * 0) ++ be 2 m ++ (x :: y :: l).drop (2 * 0 + 2) = be 2 m ++ l := by simp
    rw [e, pw_app _ _ (by rw [be_len]), pw_be2 hm]
    simp only [pw, List.cons_append, List.nil_append, List.sum_cons, List.getD_cons_zero]; omega
  | x :: y :: l, k + 1, m, h, hm => by
    have ih := pw_put l k m (by simp at h; omega) hm
    have e : (x :: y :: l).take (2 * (k + 1)) ++ be 2 m ++ (x :: y :: l).drop (2 * (k + 1) + 2) = x :: y :: (l.take (2 * k) ++ be 2 m ++ l.drop (2 * k + 2)) := by
      rw [show 2 * (k + 1) = 2 * k + 1 + 1 by omega, show 2 * k + 1 + 1 + 2 = 2 * k + 2 + 1 + 1 by omega]
      simp
    rw [e]
    simp only [pw, List.sum_cons, List.getD_cons_succ] at ih ⊢; omega
theorem sum_get (ns : List Nat) (k : Nat) : ns.getD k 0 ≤ ns.sum := by
  induction ns generalizing k with
  | nil => simp
  | cons n ns ih =>
    cases k with
    | zero => simp
    | succ k => have := ih k; simp only [List.getD_cons_succ, List.sum_cons]; omega
theorem same_law {xs ys : List UInt8} {k m : Nat} (hk : 2 * k + 1 < xs.length) (hm : m < 65536) (hy : ys = xs.take (2 * k) ++ be 2 m ++ xs.drop (2 * k + 2)) (h1 : z0 xs = false) (h2 : z0 ys = false) :
    upl (cks xs) [((pw xs).getD k 0, m)] = cks ys := by
  have h3 := pw_put xs k m hk hm
  rw [← hy] at h3
  have h4 : (pw xs).sum ≠ 0 := fun e => by rw [z0_sum _ e] at h1; cases h1
  have h5 : (pw ys).sum ≠ 0 := fun e => by rw [z0_sum _ e] at h2; cases h2
  have h6 := sum_get (pw xs) k
  have h7 := pw_lt xs k
  show upc (cks xs) _ m = _
  unfold upc cks
  generalize (pw xs).getD k 0 = o at *
  generalize (pw xs).sum = s at *
  generalize (pw ys).sum = t at *
  congr 1
  have h8 : 65535 - (65535 - fd s) = fd s := by have := fd_le s; omega
  rw [h8, show fd s + (65535 - o) + m = fd s + (65535 - o + m) by omega, fd_fd]
  unfold fd
  rw [if_neg (by omega), if_neg h5]
  omega
theorem zero_c (xs : List UInt8) (a : Option Addr) (cap : Nat) (w : World) (hat : At w a (byc xs)) (hl : xs.length ≤ 9223372036854775807) : Calls Try.prog 32 #[Value.slice a xs.length cap] w (Ret w (.bool (z0 xs))) := by
  refine calls_W (M := []) (LL := []) (n := 14) Try.func32 rfl rfl (by simp) (Mem.refl _) ?_
  refine W.seq (fun K1 hK1 => ?_)
  refine W.region ?_
  refine Wl.run 1 (by kernel_rfl) ?_
  refine Wl.nil ?_
  refine hK1 _ _ _ ?_
  refine W.seq (fun K2 hK2 => ?_)
  refine W.seq (fun K3 hK3 => ?_)
  refine W.region ?_
  refine Wl.run 3 (by kernel_rfl) ?_
  refine Wl.nil ?_
  refine hK3 _ _ _ ?_
  refine W.prune' [5, 6, 7] [Value.slice a xs.length cap, Value.int .i64 ((xs.length : Nat) : Int), Value.int .i64 0] (by kernel_rfl) (fun f4 => ?_)
  refine W.block ?_
  refine W.loop1 [5, 6, 7] (fun (k : Nat) => [Value.slice a xs.length cap, Value.int .i64 ((xs.length : Nat) : Int), Value.int .i64 ((k : Nat) : Int)]) (fun (k : Nat) => k ≤ xs.length ∧ z0 (xs.take k) = true) (fun (k : Nat) => []) (fun (k : Nat) => xs.length - k) 0 (by kernel_rfl) ⟨(Nat.zero_le _), rfl⟩ (by rfl) (fun k f6 J5 hp7 hJ5 => ?_)
  obtain ⟨hk, hz⟩ := hp7
  refine W.seq (fun K8 hK8 => ?_)
  refine W.region ?_
  refine Wl.run 1 (by kernel_rfl) ?_
  refine Wl.nil ?_
  refine hK8 _ _ _ ?_
  refine W.seq (fun K9 hK9 => ?_)
  refine W.cond (decide (((k : Nat) : Int) < ((xs.length : Nat) : Int))) (by kernel_rfl) (fun h10 => ?_) (fun h11 => ?_)
  · have qh10 := h10; try simp only [Bool.and_eq_true, Bool.or_eq_true, Bool.not_eq_true', Bool.not_eq_false', Bool.and_eq_false_iff, Bool.or_eq_false_iff, decide_eq_true_eq, decide_eq_false_iff_not, beq_iff_eq, bne_iff_ne, beq_eq_false_iff_ne, bne_eq_false_iff_eq] at qh10
    refine W.skip' ?_
    refine hK9 _ _ _ ?_
    refine W.prune' [5, 6, 7] [Value.slice a xs.length cap, Value.int .i64 ((xs.length : Nat) : Int), Value.int .i64 ((k : Nat) : Int)] (by kernel_rfl) (fun f12 => ?_)
    refine W.seq (fun K13 hK13 => ?_)
    refine W.block ?_
    refine W.seq (fun K14 hK14 => ?_)
    refine W.region ?_
    refine Wl.ys (v := Value.pointer (some (ela a (k * 1)))) rfl rfl (Ys.byMem fun w_ h_ => Ys.indexAddr (k := .i64) (a := a) (len := xs.length) (cap := cap) (i := ((k : Nat) : Int)) (sz := 1) rfl (by kernel_rfl) (by kernel_rfl) Try.runUnderlying22 Try.sizeOf5 (by omega) (by omega) ((hat.mem0 h_).here (by rw [mc_len]; first | omega | (simp; omega)))) ?_
    refine Wl.ys (v := Value.int .u8 (((xs.getD k 0).toNat : Nat) : Int)) rfl rfl (Ys.ld (a := ela a (k * 1)) rfl (by kernel_rfl) Try.isAgg5 (fun w_ h_ => (hat.mem0 h_).ld (mc_get1 0 (by first | omega | (simp; omega))))) ?_
    have hb15 : (xs.getD k 0).toNat < 256 := UInt8.toNat_lt _
    refine Wl.run 1 (by kernel_rfl) ?_
    refine Wl.nil ?_
    refine hK14 _ _ _ ?_
    refine W.prune' [4, 5, 6, 7] [Value.int .u8 (((xs.getD k 0).toNat : Nat) : Int), Value.slice a xs.length cap, Value.int .i64 ((xs.length : Nat) : Int), Value.int .i64 ((k : Nat) : Int)] (by kernel_rfl) (fun f16 => ?_)
    refine W.seq (fun K17 hK17 => ?_)
    refine W.region ?_
    refine Wl.run 2 (by kernel_rfl) ?_
    refine Wl.nil ?_
    refine hK17 _ _ _ ?_
    refine W.prune' [5, 6, 7, 12] [Value.slice a xs.length cap, Value.int .i64 ((xs.length : Nat) : Int), Value.int .i64 ((k : Nat) : Int), Value.bool ((((xs.getD k 0).toNat : Nat) : Int) != 0)] (by kernel_rfl) (fun f18 => ?_)
    refine W.cond ((((xs.getD k 0).toNat : Nat) : Int) != 0) (by kernel_rfl) (fun h19 => ?_) (fun h20 => ?_)
    · have qh19 := h19; try simp only [Bool.and_eq_true, Bool.or_eq_true, Bool.not_eq_true', Bool.not_eq_false', Bool.and_eq_false_iff, Bool.or_eq_false_iff, decide_eq_true_eq, decide_eq_false_iff_not, beq_iff_eq, bne_iff_ne, beq_eq_false_iff_ne, bne_eq_false_iff_eq] at qh19
      refine W.seq (fun K21 hK21 => ?_)
      refine W.region ?_
      refine Wl.run 1 (by kernel_rfl) ?_
      refine Wl.nil ?_
      refine hK21 _ _ _ ?_
      refine W.ret ?_
      show ∀ w_, _ → bodyPostM (fence none) 0 Try.prog Try.f32 _ Exit.ret _ w_
      exact fun w_ hS_ => fin_ret (ret1 rfl (RV.tmp (v := Value.bool false) (by kernel_rfl)) hS_ ⟨by clear hK1 hK2 hK3 hJ5 hK8 hK9 hK13 hK14 hK17 hK21; refine congrArg Ending.returned ?_; exact bool_congr (by first | (rw [List.take_of_length_le (by omega)] at hz; rw [hz]) | (rw [z0_not (k := k) (by omega) (by omega)])), hS_.below⟩)
    · have qh20 := h20; try simp only [Bool.and_eq_true, Bool.or_eq_true, Bool.not_eq_true', Bool.not_eq_false', Bool.and_eq_false_iff, Bool.or_eq_false_iff, decide_eq_true_eq, decide_eq_false_iff_not, beq_iff_eq, bne_iff_ne, beq_eq_false_iff_ne, bne_eq_false_iff_eq] at qh20
      refine W.skip' ?_
      refine hK13 _ _ _ ?_
      refine W.prune' [5, 6, 7] [Value.slice a xs.length cap, Value.int .i64 ((xs.length : Nat) : Int), Value.int .i64 ((k : Nat) : Int)] (by kernel_rfl) (fun f22 => ?_)
      refine W.region ?_
      refine Wl.ys (v := Value.int .i64 ((k + 1 : Nat) : Int)) rfl rfl ((Ys.pure (v := .int .i64 (iadd .i64 ((k : Nat) : Int) 1)) (fun _ => by kernel_rfl)).conseq (int_congr (iadd_eq (by omega) (by omega) (by omega)))) ?_
      refine Wl.run 1 (by kernel_rfl) ?_
      refine Wl.nil ?_
      refine fun w_ h_ => hJ5 (k + 1) _ w_ (by omega) ⟨(by omega), (z0_step (by omega) hz (by omega))⟩ ?_ h_
      kernel_rfl
  · have qh11 := h11; try simp only [Bool.and_eq_true, Bool.or_eq_true, Bool.not_eq_true', Bool.not_eq_false', Bool.and_eq_false_iff, Bool.or_eq_false_iff, decide_eq_true_eq, decide_eq_false_iff_not, beq_iff_eq, bne_iff_ne, beq_eq_false_iff_ne, bne_eq_false_iff_eq] at qh11
    refine W.exit ?_
    refine hK2 _ _ _ ?_
    refine W.prune' [] [] (by kernel_rfl) (fun f23 => ?_)
    refine W.seq (fun K24 hK24 => ?_)
    refine W.region ?_
    refine Wl.run 1 (by kernel_rfl) ?_
    refine Wl.nil ?_
    refine hK24 _ _ _ ?_
    refine W.ret ?_
    show ∀ w_, _ → bodyPostM (fence none) 0 Try.prog Try.f32 _ Exit.ret _ w_
    exact fun w_ hS_ => fin_ret (ret1 rfl (RV.tmp (v := Value.bool true) (by kernel_rfl)) hS_ ⟨by clear hK1 hK2 hK3 hJ5 hK8 hK9 hK24; refine congrArg Ending.returned ?_; exact bool_congr (by first | (rw [List.take_of_length_le (by omega)] at hz; rw [hz]) | (rw [z0_not (k := k) (by omega) (by omega)])), hS_.below⟩)

theorem zeron_c (xs : List UInt8) (a : Option Addr) (len cap : Nat) (w : World) (hn : len = xs.length) (hat : At w a (byc xs)) (hl : len ≤ 9223372036854775807) : Calls Try.prog 32 #[.slice a len cap] w (Ret w (.bool (z0 xs))) := by
  subst hn; exact zero_c xs a cap w hat hl

theorem sumsame_c (xs : List UInt8) (a : Option Addr) (cap : Nat) (at_ : Int) (m : Nat) (w : World) (hat : At w a (byc xs)) (hl : xs.length ≤ 9223372036854775807) (hlc : xs.length ≤ cap) (hab : -9223372036854775808 ≤ at_ ∧ at_ ≤ 9223372036854775807) (hm : m < 65536) : Calls Try.prog 11 #[Value.slice a xs.length cap, Value.int .i64 at_, Value.int .u16 ((m : Nat) : Int)] w (Ret w (.bool true)) := by
  obtain ⟨k, hkd⟩ : ∃ k, k = ((at_ % 65536).toNat) % (xs.length / 2) := ⟨_, rfl⟩
  refine calls_W (M := []) (LL := []) (n := 79) Try.func11 rfl rfl (by simp) (Mem.refl _) ?_
  refine W.seq (fun K1 hK1 => ?_)
  refine W.region ?_
  refine Wl.run 1 (by kernel_rfl) ?_
  refine Wl.nil ?_
  refine hK1 _ _ _ ?_
  refine W.seq (fun K2 hK2 => ?_)
  refine W.seq (fun K3 hK3 => ?_)
  refine W.region ?_
  refine Wl.yc (v := Value.bool true) rfl rfl (Yc.call (k := 25) (args := #[]) (fun _ => by kernel_rfl) (fun w_ hm_ => speaks2_c _)) ?_
  refine Wl.run 1 (by kernel_rfl) ?_
  refine Wl.nil ?_
  refine hK3 _ _ _ ?_
  refine W.prune' [0, 1, 2, 12] [Value.slice a xs.length cap, Value.int .i64 at_, Value.int .u16 ((m : Nat) : Int), Value.bool false] (by kernel_rfl) (fun f4 => ?_)
  refine W.condF (by kernel_rfl) ?_
  refine W.skip' ?_
  refine hK2 _ _ _ ?_
  refine W.prune' [0, 1, 2] [Value.slice a xs.length cap, Value.int .i64 at_, Value.int .u16 ((m : Nat) : Int)] (by kernel_rfl) (fun f5 => ?_)
  refine W.seq (fun K6 hK6 => ?_)
  refine W.seq (fun K7 hK7 => ?_)
  refine W.region ?_
  refine Wl.run 4 (by kernel_rfl) ?_
  refine Wl.guard (v := Value.slice a xs.length cap) (!(decide (((xs.length : Nat) : Int) < 2))) rfl (wantF rfl (by kernel_rfl)) rfl (fun hg8 => ?_) ?_
  · have qhg8 := hg8; try simp only [Bool.and_eq_true, Bool.or_eq_true, Bool.not_eq_true', Bool.not_eq_false', Bool.and_eq_false_iff, Bool.or_eq_false_iff, decide_eq_true_eq, decide_eq_false_iff_not, beq_iff_eq, bne_iff_ne, beq_eq_false_iff_ne, bne_eq_false_iff_eq] at qhg8
    exact Ys.pure (fun _ => by kernel_rfl)
  refine Wl.guard (v := Value.int .i64 ((xs.length : Nat) : Int)) (!(decide (((xs.length : Nat) : Int) < 2))) rfl (wantF rfl (by kernel_rfl)) rfl (fun hg9 => ?_) ?_
  · have qhg9 := hg9; try simp only [Bool.and_eq_true, Bool.or_eq_true, Bool.not_eq_true', Bool.not_eq_false', Bool.and_eq_false_iff, Bool.or_eq_false_iff, decide_eq_true_eq, decide_eq_false_iff_not, beq_iff_eq, bne_iff_ne, beq_eq_false_iff_ne, bne_eq_false_iff_eq] at qhg9
    refine Ys.at (t := 17) (v0 := Value.slice a xs.length cap) (lz (g := !(decide (((xs.length : Nat) : Int) < 2))) (u := undef) hg9 (by kernel_rfl)) ?_
    exact Ys.pure (fun _ => by kernel_rfl)
  refine Wl.guard (v := Value.bool (decide (((xs.length : Nat) : Int) > 3000))) (!(decide (((xs.length : Nat) : Int) < 2))) rfl (wantF rfl (by kernel_rfl)) rfl (fun hg10 => ?_) ?_
  · have qhg10 := hg10; try simp only [Bool.and_eq_true, Bool.or_eq_true, Bool.not_eq_true', Bool.not_eq_false', Bool.and_eq_false_iff, Bool.or_eq_false_iff, decide_eq_true_eq, decide_eq_false_iff_not, beq_iff_eq, bne_iff_ne, beq_eq_false_iff_ne, bne_eq_false_iff_eq] at qhg10
    refine Ys.at (t := 18) (v0 := Value.int .i64 ((xs.length : Nat) : Int)) (lz (g := !(decide (((xs.length : Nat) : Int) < 2))) (u := undef) hg10 (by kernel_rfl)) ?_
    exact Ys.pure (fun _ => by kernel_rfl)
  refine Wl.ys (v := Value.bool ((decide (((xs.length : Nat) : Int) < 2)) || (decide (((xs.length : Nat) : Int) > 3000)))) rfl rfl (Ys.or' (e := decide (((xs.length : Nat) : Int) < 2)) (b := decide (((xs.length : Nat) : Int) > 3000)) rfl (by kernel_rfl) (by kernel_rfl) (by kernel_rfl)) ?_
  refine Wl.run 1 (by kernel_rfl) ?_
  refine Wl.guard (v := Value.slice a xs.length cap) (!((decide (((xs.length : Nat) : Int) < 2)) || (decide (((xs.length : Nat) : Int) > 3000)))) rfl (wantF rfl (by kernel_rfl)) rfl (fun hg11 => ?_) ?_
  · have qhg11 := hg11; try simp only [Bool.and_eq_true, Bool.or_eq_true, Bool.not_eq_true', Bool.not_eq_false', Bool.and_eq_false_iff, Bool.or_eq_false_iff, decide_eq_true_eq, decide_eq_false_iff_not, beq_iff_eq, bne_iff_ne, beq_eq_false_iff_ne, bne_eq_false_iff_eq] at qhg11
    exact Ys.pure (fun _ => by kernel_rfl)
  refine Wl.guard (v := Value.int .i64 ((xs.length : Nat) : Int)) (!((decide (((xs.length : Nat) : Int) < 2)) || (decide (((xs.length : Nat) : Int) > 3000)))) rfl (wantF rfl (by kernel_rfl)) rfl (fun hg12 => ?_) ?_
  · have qhg12 := hg12; try simp only [Bool.and_eq_true, Bool.or_eq_true, Bool.not_eq_true', Bool.not_eq_false', Bool.and_eq_false_iff, Bool.or_eq_false_iff, decide_eq_true_eq, decide_eq_false_iff_not, beq_iff_eq, bne_iff_ne, beq_eq_false_iff_ne, bne_eq_false_iff_eq] at qhg12
    refine Ys.at (t := 22) (v0 := Value.slice a xs.length cap) (lz (g := !((decide (((xs.length : Nat) : Int) < 2)) || (decide (((xs.length : Nat) : Int) > 3000)))) (u := undef) hg12 (by kernel_rfl)) ?_
    exact Ys.pure (fun _ => by kernel_rfl)
  refine Wl.guard (v := Value.int .i64 ((xs.length % 2 : Nat) : Int)) (!((decide (((xs.length : Nat) : Int) < 2)) || (decide (((xs.length : Nat) : Int) > 3000)))) rfl (wantF rfl (by kernel_rfl)) rfl (fun hg13 => ?_) ?_
  · have qhg13 := hg13; try simp only [Bool.and_eq_true, Bool.or_eq_true, Bool.not_eq_true', Bool.not_eq_false', Bool.and_eq_false_iff, Bool.or_eq_false_iff, decide_eq_true_eq, decide_eq_false_iff_not, beq_iff_eq, bne_iff_ne, beq_eq_false_iff_ne, bne_eq_false_iff_eq] at qhg13
    refine Ys.at (t := 23) (v0 := Value.int .i64 ((xs.length : Nat) : Int)) (lz (g := !((decide (((xs.length : Nat) : Int) < 2)) || (decide (((xs.length : Nat) : Int) > 3000)))) (u := undef) hg13 (by kernel_rfl)) ?_
    exact (Ys.pure (v := .int .i64 (band .i64 ((xs.length : Nat) : Int) 1)) (fun _ => by kernel_rfl)).conseq (int_congr (band_i64n (c := 1) (by decide) 1 2 rfl rfl))
  refine Wl.guard (v := Value.bool (((xs.length % 2 : Nat) : Int) == 1)) (!((decide (((xs.length : Nat) : Int) < 2)) || (decide (((xs.length : Nat) : Int) > 3000)))) rfl (wantF rfl (by kernel_rfl)) rfl (fun hg14 => ?_) ?_
  · have qhg14 := hg14; try simp only [Bool.and_eq_true, Bool.or_eq_true, Bool.not_eq_true', Bool.not_eq_false', Bool.and_eq_false_iff, Bool.or_eq_false_iff, decide_eq_true_eq, decide_eq_false_iff_not, beq_iff_eq, bne_iff_ne, beq_eq_false_iff_ne, bne_eq_false_iff_eq] at qhg14
    refine Ys.at (t := 24) (v0 := Value.int .i64 ((xs.length % 2 : Nat) : Int)) (lz (g := !((decide (((xs.length : Nat) : Int) < 2)) || (decide (((xs.length : Nat) : Int) > 3000)))) (u := undef) hg14 (by kernel_rfl)) ?_
    exact Ys.pure (fun _ => by kernel_rfl)
  refine Wl.ys (v := Value.bool (((decide (((xs.length : Nat) : Int) < 2)) || (decide (((xs.length : Nat) : Int) > 3000))) || (((xs.length % 2 : Nat) : Int) == 1))) rfl rfl (Ys.or' (e := (decide (((xs.length : Nat) : Int) < 2)) || (decide (((xs.length : Nat) : Int) > 3000))) (b := ((xs.length % 2 : Nat) : Int) == 1) rfl (by kernel_rfl) (by kernel_rfl) (by kernel_rfl)) ?_
  refine Wl.nil ?_
  refine hK7 _ _ _ ?_
  refine W.prune' [0, 1, 2, 26] [Value.slice a xs.length cap, Value.int .i64 at_, Value.int .u16 ((m : Nat) : Int), Value.bool (((decide (((xs.length : Nat) : Int) < 2)) || (decide (((xs.length : Nat) : Int) > 3000))) || (((xs.length % 2 : Nat) : Int) == 1))] (by kernel_rfl) (fun f15 => ?_)
  refine W.cond (((decide (((xs.length : Nat) : Int) < 2)) || (decide (((xs.length : Nat) : Int) > 3000))) || (((xs.length % 2 : Nat) : Int) == 1)) (by kernel_rfl) (fun h16 => ?_) (fun h17 => ?_)
  · have qh16 := h16; try simp only [Bool.and_eq_true, Bool.or_eq_true, Bool.not_eq_true', Bool.not_eq_false', Bool.and_eq_false_iff, Bool.or_eq_false_iff, decide_eq_true_eq, decide_eq_false_iff_not, beq_iff_eq, bne_iff_ne, beq_eq_false_iff_ne, bne_eq_false_iff_eq] at qh16
    refine W.seq (fun K18 hK18 => ?_)
    refine W.region ?_
    refine Wl.run 1 (by kernel_rfl) ?_
    refine Wl.nil ?_
    refine hK18 _ _ _ ?_
    refine W.ret ?_
    show ∀ w_, _ → bodyPostM (fence none) 0 Try.prog Try.f11 _ Exit.ret _ w_
    exact fun w_ hS_ => fin_ret (ret1 rfl (RV.tmp (v := Value.bool true) (by kernel_rfl)) hS_ ⟨rfl, hS_.below⟩)
  · have qh17 := h17; try simp only [Bool.and_eq_true, Bool.or_eq_true, Bool.not_eq_true', Bool.not_eq_false', Bool.and_eq_false_iff, Bool.or_eq_false_iff, decide_eq_true_eq, decide_eq_false_iff_not, beq_iff_eq, bne_iff_ne, beq_eq_false_iff_ne, bne_eq_false_iff_eq] at qh17
    refine W.skip' ?_
    refine hK6 _ _ _ ?_
    refine W.prune' [0, 1, 2] [Value.slice a xs.length cap, Value.int .i64 at_, Value.int .u16 ((m : Nat) : Int)] (by kernel_rfl) (fun f19 => ?_)
    refine W.seq (fun K20 hK20 => ?_)
    refine W.region ?_
    refine Wl.run 1 (by kernel_rfl) ?_
    refine Wl.ys (v := Value.int .i64 (((at_ % 65536).toNat : Nat) : Int)) rfl rfl ((Ys.pure (v := .int .i64 (band .i64 at_ 65535)) (fun _ => by kernel_rfl)).conseq (int_congr (band_i64 (c := 16) (by decide) 65535 65536 rfl rfl))) ?_
    refine Wl.run 2 (by kernel_rfl) ?_
    refine Wl.ys (v := Value.int .i64 ((xs.length / 2 : Nat) : Int)) rfl rfl ((Ys.pure (v := .int .i64 (iquo .i64 ((xs.length : Nat) : Int) 2)) (fun _ => by kernel_rfl)).conseq (int_congr (iquo_nat (by omega)))) ?_
    refine Wl.ys (v := Value.int .i64 ((k : Nat) : Int)) rfl rfl ((Ys.rem (k := .i64) (a := (at_ % 65536).toNat) (b := xs.length / 2) rfl (by kernel_rfl) (by kernel_rfl) (by omega)).conseq (int_congr (by rw [hkd]))) ?_
    refine Wl.run 1 (by kernel_rfl) ?_
    refine Wl.nil ?_
    refine hK20 _ _ _ ?_
    refine W.prune' [0, 2, 7] [Value.slice a xs.length cap, Value.int .u16 ((m : Nat) : Int), Value.int .i64 ((k : Nat) : Int)] (by kernel_rfl) (fun f21 => ?_)
    refine W.seq (fun K22 hK22 => ?_)
    have hkb : k < xs.length / 2 := by rw [hkd]; exact Nat.mod_lt _ (by omega)
    refine W.region ?_
    refine Wl.ht rfl (Ht.made (mk := fun b_ => .slice (some ⟨b_, 0, none⟩) 0 0) (t := 5) (cs := []) rfl (fun _ => by kernel_rfl)) (fun p33 => ?_)
    refine Wl.run 1 (by kernel_rfl) ?_
    refine Wl.ht rfl (Ht.append (eu := 5) (xv := Value.slice a xs.length cap) (i := 0) (g := (FS.mk false p33 0 [])) (e := 5) (ii := (Try.prog.info? 5).getD default) (z := Value.int .u8 0) (sz := 1) (bytes := 1) (nn := 0) (m := xs.length) (k := xs.length) (xs := mc b8 []) (news := mc b8 xs) (cs' := mc b8 xs) (Lo := fun g23 => [g23.seg 5 (mc b8 xs)]) rfl rfl (by kernel_rfl) (by kernel_rfl) (by kernel_rfl) (by kernel_rfl) (by kernel_rfl) (by kernel_rfl) (by kernel_rfl) (by kernel_rfl) (by kernel_rfl) rfl (FS.lit_ok (by decide)) (by first | rfl | simp [mc, be_len]) (fun _ => rfl) (Src.at (a := a) (mc_len1 _) (fun w_ h_ => (hat.mem0 h_))) (mc_len1 _) (mc_one (fun _ => rfl) _) (by first | omega | (simp; done) | (simp; omega)) (by simp only [maxLen]; first | omega | (simp; omega)) (by first | omega | (simp; omega)) rfl (fun _ => rfl)) (fun x27 => ?_)
    obtain ⟨g23, ok24, hn25, hn26⟩ := x27
    refine Wl.castL (LL' := [g23.seg 5 (mc b8 xs)]) rfl ?_
    refine Wl.run 1 (by kernel_rfl) ?_
    refine Wl.nil ?_
    refine hK22 _ _ _ ?_
    refine W.prune' [0, 2, 7, 8] [Value.slice a xs.length cap, Value.int .u16 ((m : Nat) : Int), Value.int .i64 ((k : Nat) : Int), Value.slice g23.a xs.length g23.cap] (by kernel_rfl) (fun f28 => ?_)
    refine W.seq (fun K29 hK29 => ?_)
    have hn31 := (hn25 (by omega))
    obtain ⟨gn30, g23b, g23c, g23r⟩ := g23
    obtain rfl : gn30 = false := hn31
    have hc32 : xs.length ≤ g23c := ok24.le
    refine W.draws [(0, true), (1, true), (2, true), (3, true), (4, false), (5, false), (6, false), (7, false)] [0, 1, 2, 3] (Mem w [] []) (by kernel_rfl) (by kernel_rfl) (by kernel_rfl) rfl (by kernel_rfl) (fun _ _ h_ => h_.drawn _) (fun _ h_ => h_.pick [] (by decide) rfl) ?_
    refine Wd.run 2 (by kernel_rfl) ?_
    refine Wd.ys (v := Value.int .i64 ((2 * k : Nat) : Int)) rfl rfl rfl ((Ys.pure (v := .int .i64 (imul .i64 2 ((k : Nat) : Int))) (fun _ => by kernel_rfl)).conseq (int_congr (imul_eq (by first | omega | rfl | (push_cast; rfl)) (by omega) (by omega)))) ?_
    refine Wd.ys (v := Value.slice (sla (some ⟨g23b, 0, none⟩) g23c (2 * k) 1) (xs.length - (2 * k)) (g23c - (2 * k))) rfl rfl rfl (Ys.sliceL (a := some ⟨g23b, 0, none⟩) (len := xs.length) (cap := g23c) (sz := 1) (k := .i64) (i := ((2 * k : Nat) : Int)) rfl (by kernel_rfl) (by kernel_rfl) Try.runUnderlying22 Try.sizeOf5 (by omega) (by omega)) ?_
    refine Wd.yc (v := Value.int .u16 ((m : Nat) : Int)) rfl rfl rfl (Ys.yc (Ys.pure (fun _ => by kernel_rfl))) (.inr fun _ h_ => h_.pick [] (by decide) rfl) ?_
    refine Wd.yc (v := Value.int .u64 ((m : Nat) : Int)) rfl rfl rfl (Ys.yc ((Ys.pure (v := .int .u64 (icnv .u64 ((m : Nat) : Int))) (fun _ => by kernel_rfl)).conseq (int_congr (wrap_u64 (by omega) (by omega))))) (.inr fun _ h_ => h_.pick [] (by decide) rfl) ?_
    refine Wd.ht rfl rfl (Ht.call (β := FS) (k := 29) (args := #[Value.int .i64 2, Value.int .u64 ((m : Nat) : Int)]) (Lin := []) (Lk := [[cb g23b ((mc b8 xs) ++ g23r) 5]]) (Mi := []) (Lo := fun g33 => [g33.seg 5 (mc b8 (be 2 m)), [cb g23b ((mc b8 xs) ++ g23r) 5]]) [] [0] rfl (fun _ => by kernel_rfl) (by decide) rfl rfl rfl (fun w_ hm_ hl_ => rnum_c 2 m (by omega) _) (fun _ => rfl)) (.inr fun _ _ h_ => h_.pick [] (by decide) rfl) (fun x36 => ?_)
    obtain ⟨g33, ok34, nn35⟩ := x36
    refine Wd.castL (LL' := [g33.seg 5 (mc b8 (be 2 m)), [cb g23b ((mc b8 xs) ++ g23r) 5]]) rfl ?_
    refine Wd.ht rfl rfl (Ht.copySub (cap := g23c) (dl := xs.length - (2 * k)) (dc := g23c - (2 * k)) (m := 2) (q := 2) (sz := 1) (o' := 2 * k) (i := 1) (j := 0) (e := 5) (ii := (Try.prog.info? 5).getD default) (b := g23b) (t := 5) (xv := Value.slice g33.a 2 g33.cap) (cs := (mc b8 xs) ++ g23r) (news := mc b8 (be 2 m)) (cs' := (mc b8 (xs.take (2 * k) ++ (be 2 m) ++ xs.drop (2 * k + (be 2 m).length))) ++ g23r) (LL' := [g33.seg 5 (mc b8 (be 2 m)), [cb g23b ((mc b8 (xs.take (2 * k) ++ (be 2 m) ++ xs.drop (2 * k + (be 2 m).length))) ++ g23r) 5]]) rfl rfl (by kernel_rfl) (by kernel_rfl) (by kernel_rfl) (by kernel_rfl) (by omega) (by kernel_rfl) rfl rfl (fun _ => rfl) (by show min _ _ = _; first | omega | (simp; omega)) (Src.at (a := g33.a) (by first | rfl | (simp [mc, be_len]; done) | (simp [mc, be_len]; omega)) (fun w_ h_ => (FS.at (i := 0) (t := 5) h_ rfl (FS.nil_cs ok34 (by rw [mc_len, be_len, Nat.mul_one]; rfl))))) (by first | rfl | (simp [mc, be_len]; done) | (simp [mc, be_len]; omega)) (by first | (simp only [mc_len]; omega) | (simp only [mc_len, List.length_append, List.length_take, List.length_drop]; omega) | (simp [mc, be_len]; try omega)) (mc_one (fun _ => rfl) _) (app_put (by simp [mc, be_len]; omega) (mc_put1 (g := b8) xs (be 2 m) (2 * k))) rfl) (.inr fun _ _ h_ => h_.pick [] (by decide) rfl) (fun _ => ?_)
    refine Wd.nil ?_
    refine hK29 _ _ _ ?_
    refine W.pick (LL' := [[cb g23b ((mc b8 (xs.take (2 * k) ++ (be 2 m) ++ xs.drop (2 * k + (be 2 m).length))) ++ g23r) 5]]) [1] (by decide) rfl ?_
    refine W.prune' [0, 2, 7, 8] [Value.slice a xs.length cap, Value.int .u16 ((m : Nat) : Int), Value.int .i64 ((k : Nat) : Int), Value.slice (some ⟨g23b, 0, none⟩) xs.length g23c] (by kernel_rfl) (fun f37 => ?_)
    refine W.seq (fun K38 hK38 => ?_)
    refine W.region ?_
    refine Wl.run 1 (by kernel_rfl) ?_
    refine Wl.nil ?_
    refine hK38 _ _ _ ?_
    refine W.seq (fun K39 hK39 => ?_)
    refine W.seq (fun K40 hK40 => ?_)
    refine W.region ?_
    refine Wl.run 2 (by kernel_rfl) ?_
    refine Wl.yc (v := Value.bool (z0 xs)) rfl rfl (Yc.call (k := 32) (args := #[Value.slice a xs.length cap]) (fun _ => by kernel_rfl) (fun w_ hm_ => (zeron_c xs a xs.length cap _ (by first | rfl | (simp; done) | (simp [be_len]; omega)) (hat.mem0 hm_) (by omega)))) ?_
    refine Wl.run 1 (by kernel_rfl) ?_
    refine Wl.guard (v := Value.func (.func 32) #[] #[]) (!(z0 xs)) rfl (wantF rfl (by kernel_rfl)) rfl (fun hg41 => ?_) ?_
    · exact Ys.pure (fun _ => by kernel_rfl)
    refine Wl.guard (v := Value.slice (some ⟨g23b, 0, none⟩) xs.length g23c) (!(z0 xs)) rfl (wantF rfl (by kernel_rfl)) rfl (fun hg42 => ?_) ?_
    · exact Ys.pure (fun _ => by kernel_rfl)
    refine Wl.guardc (v := Value.bool (z0 (xs.take (2 * k) ++ (be 2 m) ++ xs.drop (2 * k + (be 2 m).length)))) (!(z0 xs)) rfl (wantF rfl (by kernel_rfl)) rfl (fun hg43 => ?_) ?_
    · refine Yc.at (t := 48) (v0 := Value.func (.func 32) #[] #[]) (lz (g := !(z0 xs)) (u := undef) hg43 (by kernel_rfl)) ?_
      refine Yc.at (t := 49) (v0 := Value.slice (some ⟨g23b, 0, none⟩) xs.length g23c) (lz (g := !(z0 xs)) (u := undef) hg43 (by kernel_rfl)) ?_
      exact Yc.call (k := 32) (args := #[Value.slice (some ⟨g23b, 0, none⟩) xs.length g23c]) (fun _ => by kernel_rfl) (fun w_ hm_ => (zeron_c (xs.take (2 * k) ++ (be 2 m) ++ xs.drop (2 * k + (be 2 m).length)) (some ⟨g23b, 0, none⟩) xs.length g23c _ (by first | rfl | (simp; done) | (simp [be_len]; omega)) (At.lit (i := 0) (j := 0) (t := 5) (b := g23b) hm_ rfl rfl) (by omega)))
    refine Wl.ys (v := Value.bool ((z0 xs) || (z0 (xs.take (2 * k) ++ (be 2 m) ++ xs.drop (2 * k + (be 2 m).length))))) rfl rfl (Ys.or' (e := z0 xs) (b := z0 (xs.take (2 * k) ++ (be 2 m) ++ xs.drop (2 * k + (be 2 m).length))) rfl (by kernel_rfl) (by kernel_rfl) (by kernel_rfl)) ?_
    refine Wl.nil ?_
    refine hK40 _ _ _ ?_
    refine W.prune' [0, 2, 7, 8, 51] [Value.slice a xs.length cap, Value.int .u16 ((m : Nat) : Int), Value.int .i64 ((k : Nat) : Int), Value.slice (some ⟨g23b, 0, none⟩) xs.length g23c, Value.bool ((z0 xs) || (z0 (xs.take (2 * k) ++ (be 2 m) ++ xs.drop (2 * k + (be 2 m).length))))] (by kernel_rfl) (fun f44 => ?_)
    refine W.cond ((z0 xs) || (z0 (xs.take (2 * k) ++ (be 2 m) ++ xs.drop (2 * k + (be 2 m).length)))) (by kernel_rfl) (fun h45 => ?_) (fun h46 => ?_)
    · have qh45 := h45; try simp only [Bool.and_eq_true, Bool.or_eq_true, Bool.not_eq_true', Bool.not_eq_false', Bool.and_eq_false_iff, Bool.or_eq_false_iff, decide_eq_true_eq, decide_eq_false_iff_not, beq_iff_eq, bne_iff_ne, beq_eq_false_iff_ne, bne_eq_false_iff_eq] at qh45
      refine W.seq (fun K47 hK47 => ?_)
      refine W.region ?_
      refine Wl.run 1 (by kernel_rfl) ?_
      refine Wl.nil ?_
      refine hK47 _ _ _ ?_
      refine W.ret ?_
      show ∀ w_, _ → bodyPostM (fence none) 0 Try.prog Try.f11 _ Exit.ret _ w_
      exact fun w_ hS_ => fin_ret (ret1 rfl (RV.tmp (v := Value.bool true) (by kernel_rfl)) hS_ ⟨rfl, hS_.below⟩)
    · have qh46 := h46; try simp only [Bool.and_eq_true, Bool.or_eq_true, Bool.not_eq_true', Bool.not_eq_false', Bool.and_eq_false_iff, Bool.or_eq_false_iff, decide_eq_true_eq, decide_eq_false_iff_not, beq_iff_eq, bne_iff_ne, beq_eq_false_iff_ne, bne_eq_false_iff_eq] at qh46
      refine W.skip' ?_
      refine hK39 _ _ _ ?_
      refine W.prune' [0, 2, 7, 8] [Value.slice a xs.length cap, Value.int .u16 ((m : Nat) : Int), Value.int .i64 ((k : Nat) : Int), Value.slice (some ⟨g23b, 0, none⟩) xs.length g23c] (by kernel_rfl) (fun f48 => ?_)
      refine W.seq (fun K49 hK49 => ?_)
      refine W.draws [(0, true), (1, true), (2, true), (3, true), (4, true), (5, true), (6, true), (7, true), (8, false), (9, false), (10, false), (11, false), (12, false), (13, false), (14, false), (15, false)] [0, 1, 2, 3, 4, 5, 6, 7] (Mem w [] [[cb g23b ((mc b8 (xs.take (2 * k) ++ (be 2 m) ++ xs.drop (2 * k + (be 2 m).length))) ++ g23r) 5]]) (by kernel_rfl) (by kernel_rfl) (by kernel_rfl) rfl (by kernel_rfl) (fun _ _ h_ => h_.drawn _) (fun _ h_ => h_) ?_
      refine Wd.run 2 (by kernel_rfl) ?_
      refine Wd.ys (v := Value.int .i64 ((2 * k : Nat) : Int)) rfl rfl rfl ((Ys.pure (v := .int .i64 (imul .i64 2 ((k : Nat) : Int))) (fun _ => by kernel_rfl)).conseq (int_congr (imul_eq (by first | omega | rfl | (push_cast; rfl)) (by omega) (by omega)))) ?_
      refine Wd.ys (v := Value.pointer (some (ela a ((2 * k) * 1)))) rfl rfl rfl (Ys.byMem fun w_ h_ => Ys.indexAddr (k := .i64) (a := a) (len := xs.length) (cap := cap) (i := ((2 * k : Nat) : Int)) (sz := 1) rfl (by kernel_rfl) (by kernel_rfl) Try.runUnderlying22 Try.sizeOf5 (by omega) (by omega) ((hat.mem0 h_).here (by rw [mc_len]; first | omega | (simp; omega)))) ?_
      refine Wd.ys (v := Value.int .u8 (((xs.getD (2 * k) 0).toNat : Nat) : Int)) rfl rfl rfl (Ys.ld (a := ela a ((2 * k) * 1)) rfl (by kernel_rfl) Try.isAgg5 (fun w_ h_ => (hat.mem0 h_).ld (mc_get1 0 (by first | omega | (simp; omega))))) ?_
      have hb50 : (xs.getD (2 * k) 0).toNat < 256 := UInt8.toNat_lt _
      refine Wd.ys (v := Value.int .u16 (((xs.getD (2 * k) 0).toNat : Nat) : Int)) rfl rfl rfl ((Ys.pure (v := .int .u16 (icnv .u16 (((xs.getD (2 * k) 0).toNat : Nat) : Int))) (fun _ => by kernel_rfl)).conseq (int_congr (wrap_u16 (by omega) (by omega)))) ?_
      refine Wd.ys (v := Value.int .u16 (((((xs.getD (2 * k) 0).toNat) * 256) % 65536 : Nat) : Int)) rfl rfl rfl ((Ys.pure (v := .int .u16 (ishl .u16 (((xs.getD (2 * k) 0).toNat : Nat) : Int) ((8 : Nat) : Int))) (fun _ => by kernel_rfl)).conseq (int_congr (ishl_mod rfl ((xs.getD (2 * k) 0).toNat) 8 (by decide)))) ?_
      refine Wd.run 1 (by kernel_rfl) ?_
      refine Wd.yc (v := Value.int .i64 ((k : Nat) : Int)) rfl rfl rfl (Ys.yc (Ys.pure (fun _ => by kernel_rfl))) (.inr fun _ h_ => h_) ?_
      refine Wd.yc (v := Value.int .i64 ((2 * k : Nat) : Int)) rfl rfl rfl (Ys.yc ((Ys.pure (v := .int .i64 (imul .i64 2 ((k : Nat) : Int))) (fun _ => by kernel_rfl)).conseq (int_congr (imul_eq (by first | omega | rfl | (push_cast; rfl)) (by omega) (by omega))))) (.inr fun _ h_ => h_) ?_
      refine Wd.yc (v := Value.int .i64 (((2 * k) + 1 : Nat) : Int)) rfl rfl rfl (Ys.yc ((Ys.pure (v := .int .i64 (iadd .i64 ((2 * k : Nat) : Int) 1)) (fun _ => by kernel_rfl)).conseq (int_congr (iadd_eq (by omega) (by omega) (by omega))))) (.inr fun _ h_ => h_) ?_
      refine Wd.yc (v := Value.pointer (some (ela a (((2 * k) + 1) * 1)))) rfl rfl rfl (Ys.yc (Ys.byMem fun w_ h_ => Ys.indexAddr (k := .i64) (a := a) (len := xs.length) (cap := cap) (i := (((2 * k) + 1 : Nat) : Int)) (sz := 1) rfl (by kernel_rfl) (by kernel_rfl) Try.runUnderlying22 Try.sizeOf5 (by omega) (by omega) ((hat.mem0 h_).here (by rw [mc_len]; first | omega | (simp; omega))))) (.inr fun _ h_ => h_) ?_
      refine Wd.yc (v := Value.int .u8 (((xs.getD ((2 * k) + 1) 0).toNat : Nat) : Int)) rfl rfl rfl (Ys.yc (Ys.ld (a := ela a (((2 * k) + 1) * 1)) rfl (by kernel_rfl) Try.isAgg5 (fun w_ h_ => (hat.mem0 h_).ld (mc_get1 0 (by first | omega | (simp; omega)))))) (.inr fun _ h_ => h_) ?_
      have hb51 : (xs.getD ((2 * k) + 1) 0).toNat < 256 := UInt8.toNat_lt _
      refine Wd.yc (v := Value.int .u16 (((xs.getD ((2 * k) + 1) 0).toNat : Nat) : Int)) rfl rfl rfl (Ys.yc ((Ys.pure (v := .int .u16 (icnv .u16 (((xs.getD ((2 * k) + 1) 0).toNat : Nat) : Int))) (fun _ => by kernel_rfl)).conseq (int_congr (wrap_u16 (by omega) (by omega))))) (.inr fun _ h_ => h_) ?_
      refine Wd.yc (v := Value.int .u16 (((pw xs).getD k 0 : Nat) : Int)) rfl rfl rfl (Ys.yc (((Ys.pure (v := .int .u16 (bor .u16 (((((xs.getD (2 * k) 0).toNat) * 256) % 65536 : Nat) : Int) (((xs.getD ((2 * k) + 1) 0).toNat : Nat) : Int))) (fun _ => by kernel_rfl)).conseq (int_congr (bor_nat rfl (by show _ < 65536; omega) (by show _ < 65536; omega)))).conseq (int_congr (by rw [pw_or (xs := xs) (k := k) (by omega)])))) (.inr fun _ h_ => h_) ?_
      refine Wd.yc (v := Value.int .u16 (((pw xs).getD k 0 : Nat) : Int)) rfl rfl rfl (Ys.yc (Ys.pure (fun _ => by kernel_rfl))) (.inl (by kernel_rfl)) ?_
      refine Wd.nil ?_
      refine hK49 _ _ _ ?_
      refine W.prune' [0, 2, 8, 10] [Value.slice a xs.length cap, Value.int .u16 ((m : Nat) : Int), Value.slice (some ⟨g23b, 0, none⟩) xs.length g23c, Value.int .u16 (((pw xs).getD k 0 : Nat) : Int)] (by kernel_rfl) (fun f52 => ?_)
      refine W.seq (fun K53 hK53 => ?_)
      have hpk := pw_lt xs k; have hck := cks_le xs
      refine W.region ?_
      refine Wl.run 1 (by kernel_rfl) ?_
      refine Wl.ht rfl (Ht.made (mk := fun b_ => .slice (some ⟨b_, 0, none⟩) 1 1) (t := 22) (cs := [Value.slice a xs.length cap]) rfl (fun _ => by kernel_rfl)) (fun p68 => ?_)
      refine Wl.yc (v := Value.int .u16 ((cks xs : Nat) : Int)) rfl rfl (Yc.call (k := 26) (args := #[Value.slice (some ⟨p68, 0, none⟩) 1 1]) (fun _ => by kernel_rfl) (fun w_ hm_ => (sumn_c [⟨a, xs, cap⟩] (xs) (some ⟨p68, 0, none⟩) 1 1 ((xs).length) _ rfl (by simp [jn]) rfl (by first | exact At.lit0 (i := 0) (j := 0) (t := 22) (b := p68) hm_ rfl rfl | (rw [show mc slv ([⟨a, xs, cap⟩] : List SV) = [Value.slice a xs.length cap] by (simp [mc, be_len]; try omega)]; exact At.lit0 (i := 0) (j := 0) (t := 22) (b := p68) hm_ rfl rfl)) (List.forall_mem_cons.2 ⟨(hat.mem0 hm_), (fun _ h => by cases h)⟩) (by first | omega | (simp [be_len]; omega)) (by simp) (by simp)))) ?_
      refine Wl.run 3 (by kernel_rfl) ?_
      refine Wl.ht rfl (Ht.made (mk := fun b_ => .slice (some ⟨b_, 0, none⟩) 1 1) (t := 51) (cs := [Value.int .u16 (((pw xs).getD k 0 : Nat) : Int), Value.int .u16 ((m : Nat) : Int)]) rfl (fun _ => by kernel_rfl)) (fun p73 => ?_)
      refine Wl.yc (v := Value.int .u16 ((upl (cks xs) [(((pw xs).getD k 0), m)] : Nat) : Int)) rfl rfl (Yc.call (k := 31) (args := #[Value.int .u16 ((cks xs : Nat) : Int), Value.slice (some ⟨p73, 0, none⟩) 1 1]) (fun _ => by kernel_rfl) (fun w_ hm_ => (updaten_c (cks xs) [(((pw xs).getD k 0), m)] (some ⟨p73, 0, none⟩) 1 1 _ rfl (At.lit0 (i := 0) (j := 0) (t := 51) (b := p73) hm_ rfl rfl) (by omega) (List.forall_mem_cons.2 ⟨⟨(by show ((pw xs).getD k 0) < _; omega), (by show m < _; omega)⟩, (fun _ h => by cases h)⟩) (by simp)))) ?_
      refine Wl.run 1 (by kernel_rfl) ?_
      refine Wl.ht rfl (Ht.made (mk := fun b_ => .slice (some ⟨b_, 0, none⟩) 1 1) (t := 22) (cs := [Value.slice (some ⟨g23b, 0, none⟩) xs.length g23c]) rfl (fun _ => by kernel_rfl)) (fun p76 => ?_)
      refine Wl.yc (v := Value.int .u16 ((cks (xs.take (2 * k) ++ (be 2 m) ++ xs.drop (2 * k + (be 2 m).length)) : Nat) : Int)) rfl rfl (Yc.call (k := 26) (args := #[Value.slice (some ⟨p76, 0, none⟩) 1 1]) (fun _ => by kernel_rfl) (fun w_ hm_ => (sumn_c [⟨some ⟨g23b, 0, none⟩, (xs.take (2 * k) ++ (be 2 m) ++ xs.drop (2 * k + (be 2 m).length)), g23c⟩] ((xs.take (2 * k) ++ (be 2 m) ++ xs.drop (2 * k + (be 2 m).length))) (some ⟨p76, 0, none⟩) 1 1 (xs.length) _ rfl (by simp [jn]) (by simp [be_len]; try omega) (by first | exact At.lit0 (i := 0) (j := 0) (t := 22) (b := p76) hm_ rfl rfl | (rw [show mc slv ([⟨some ⟨g23b, 0, none⟩, (xs.take (2 * k) ++ (be 2 m) ++ xs.drop (2 * k + (be 2 m).length)), g23c⟩] : List SV) = [Value.slice (some ⟨g23b, 0, none⟩) xs.length g23c] by (simp [mc, be_len]; try omega)]; exact At.lit0 (i := 0) (j := 0) (t := 22) (b := p76) hm_ rfl rfl)) (List.forall_mem_cons.2 ⟨(At.lit (i := 3) (j := 0) (t := 5) (b := g23b) hm_ rfl rfl), (fun _ h => by cases h)⟩) (by first | omega | (simp [be_len]; omega)) (by simp) (by simp)))) ?_
      refine Wl.run 2 (by kernel_rfl) ?_
      refine Wl.nil ?_
      refine hK53 _ _ _ ?_
      refine W.pick (LL' := []) [] (by decide) rfl ?_
      refine W.prune' [6] [Value.bool (((upl (cks xs) [(((pw xs).getD k 0), m)] : Nat) : Int) == ((cks (xs.take (2 * k) ++ (be 2 m) ++ xs.drop (2 * k + (be 2 m).length)) : Nat) : Int))] (by kernel_rfl) (fun f54 => ?_)
      refine W.ret ?_
      show ∀ w_, _ → bodyPostM (fence none) 0 Try.prog Try.f11 _ Exit.ret _ w_
      exact fun w_ hS_ => fin_ret (ret1 rfl (RV.tmp (v := Value.bool (((upl (cks xs) [(((pw xs).getD k 0), m)] : Nat) : Int) == ((cks (xs.take (2 * k) ++ (be 2 m) ++ xs.drop (2 * k + (be 2 m).length)) : Nat) : Int))) (by kernel_rfl)) hS_ ⟨by clear hK1 hK2 hK3 hK6 hK7 hK20 hK22 hK29 hK38 hK39 hK40 hK49 hK53; refine congrArg Ending.returned ?_; exact bool_congr (by rw [same_law (xs := xs) (by omega) hm rfl qh46.1 qh46.2]; exact beq_self_eq_true _), hS_.below⟩)

end Go.Proofs.Ytegeijaicjackaa.Oct
