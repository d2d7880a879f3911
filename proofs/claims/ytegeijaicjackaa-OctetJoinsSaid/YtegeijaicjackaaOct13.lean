/-
  SumRight. No condition.
-/
import Derived.Test.YtegeijaicjackaaOct12
set_option linter.unusedVariables false
set_option linter.unusedSimpArgs false
set_option maxRecDepth 20000
namespace Go.Proofs.Ytegeijaicjackaa.Oct
open Go.RowKit Base
attribute [local irreducible] Ys Yc Ht HtIn Wl Wd W Mem pf dpf

theorem pw_app : ∀ (xs ys : List UInt8), xs.length % 2 = 0 → pw (xs ++ ys) = pw xs ++ pw ys
  | [], ys, _ => rfl
  | [_], _, h => by simp at h
  | x :: y :: l, ys, h => by
    have := pw_app l ys (by simp at h; omega)
    simp only [List.cons_append, pw, this]
theorem pw_be2 {m : Nat} (h : m < 65536) : pw (be 2 m) = [m] := by
  rw [be2]
  simp only [pw, UInt8.toNat_ofNat']
  congr 1; omega
theorem cks_le (xs : List UInt8) : cks xs ≤ 65535 := by unfold cks; omega
/-- The check sum with a number behind it. -/
theorem cks_snoc {xs : List UInt8} {m : Nat} (hx : xs.length % 2 = 0) (hm : m < 65536) : cks (xs ++ be 2 m) = 65535 - fd ((pw xs).sum + m) := by
  unfold cks; rw [pw_app _ _ hx, pw_be2 hm, List.sum_append]; simp
theorem right_good {xs : List UInt8} (hx : xs.length % 2 = 0) : cks (xs ++ be 2 (cks xs)) = 0 := by
  have := cks_le xs
  rw [cks_snoc hx (by omega)]
  unfold cks
  generalize (pw xs).sum = s
  unfold fd
  split <;> split <;> omega
theorem xor_back {n t m : Nat} (h : n ^^^ t = m) : t = n ^^^ m := by rw [← h, ← Nat.xor_assoc, Nat.xor_self, Nat.zero_xor]
theorem right_bad {xs : List UInt8} {t : Nat} (hx : xs.length % 2 = 0) (ht : t < 65536) (hno : ¬ (t = 65535 ∧ (cks xs = 0 ∨ cks xs = 65535))) : (cks (xs ++ be 2 (cks xs ^^^ t)) = 0) ↔ t = 0 := by
  have hle := cks_le xs
  have hlt : cks xs ^^^ t < 65536 := Nat.xor_lt_two_pow (n := 16) (by omega) ht
  rw [cks_snoc hx hlt]
  constructor
  · intro h
    have h1 : cks xs ^^^ t = cks xs ∨ (cks xs = 0 ∧ cks xs ^^^ t = 65535) ∨ (cks xs = 65535 ∧ cks xs ^^^ t = 0) := by
      generalize cks xs ^^^ t = m at *
      unfold cks at *
      generalize (pw xs).sum = s at *
      unfold fd at *
      split at h <;> split at hle <;> (try split at hno) <;> (try split) <;> omega
    rcases h1 with h1 | ⟨h1, h2⟩ | ⟨h1, h2⟩
    · rw [xor_back h1, Nat.xor_self]
    · have := xor_back h2; rw [h1, Nat.zero_xor] at this; exact absurd ⟨this, .inl h1⟩ hno
    · have := xor_back h2; rw [h1, Nat.xor_zero] at this; exact absurd ⟨this, .inr h1⟩ hno
  · rintro rfl
    rw [Nat.xor_zero, ← cks_snoc hx (by omega)]
    exact right_good hx
theorem sr_law {xs : List UInt8} {t : Nat} (hx : xs.length % 2 = 0) (ht : t < 65536) : ((((cks (xs ++ (be 2 (cks xs))) : Nat) : Int) == 0) && (((((cks (xs ++ (be 2 ((cks xs) ^^^ t))) : Nat) : Int) == 0) == (((t : Nat) : Int) == 0)) || ((((t : Nat) : Int) == 65535) && ((((cks xs : Nat) : Int) == 0) || (((cks xs : Nat) : Int) == 65535))))) = true := by
  have h1 := right_good hx
  have hz : ∀ k : Nat, (((k : Nat) : Int) == 0) = decide (k = 0) := fun k => by by_cases h : k = 0 <;> simp [h]
  have hm : ∀ k : Nat, (((k : Nat) : Int) == 65535) = decide (k = 65535) := fun k => by
    by_cases h : k = 65535
    · simp [h]
    · have : ((k : Nat) : Int) ≠ 65535 := by omega
      simp [h, this]
  simp only [hz, hm, h1]
  by_cases hno : t = 65535 ∧ (cks xs = 0 ∨ cks xs = 65535)
  · obtain ⟨rfl, hn⟩ := hno
    rcases hn with h | h <;> simp [h]
  · have h2 := right_bad hx ht hno
    simp [h2]
theorem sumright_c (xs : List UInt8) (a : Option Addr) (cap t : Nat) (w : World) (hat : At w a (byc xs)) (hy : xs.length ≤ 9223372036854775807) (ht : t < 65536) : Calls Try.prog 9 #[Value.slice a xs.length cap, Value.int .u16 ((t : Nat) : Int)] w (Ret w (.bool true)) := by
  refine calls_W (M := []) (LL := []) (n := 55) Try.func9 rfl rfl (by simp) (Mem.refl _) ?_
  refine W.seq (fun K1 hK1 => ?_)
  refine W.region ?_
  refine Wl.run 1 (by kernel_rfl) ?_
  refine Wl.nil ?_
  refine hK1 _ _ _ ?_
  refine W.seq (fun K2 hK2 => ?_)
  refine W.seq (fun K3 hK3 => ?_)
  refine W.region ?_
  refine Wl.yc (v := Value.bool true) rfl rfl (Yc.call (k := 25) (args := #[]) (fun _ => by kernel_rfl) (fun w_ hm_ => speaks2_c _)) ?_
  refine Wl.run 1 (by kernel_rfl) ?_
  refine Wl.nil ?_
  refine hK3 _ _ _ ?_
  refine W.prune' [0, 1, 9] [Value.slice a xs.length cap, Value.int .u16 ((t : Nat) : Int), Value.bool false] (by kernel_rfl) (fun f4 => ?_)
  refine W.condF (by kernel_rfl) ?_
  refine W.skip' ?_
  refine hK2 _ _ _ ?_
  refine W.prune' [0, 1] [Value.slice a xs.length cap, Value.int .u16 ((t : Nat) : Int)] (by kernel_rfl) (fun f5 => ?_)
  refine W.seq (fun K6 hK6 => ?_)
  refine W.seq (fun K7 hK7 => ?_)
  refine W.region ?_
  refine Wl.run 4 (by kernel_rfl) ?_
  refine Wl.guard (v := Value.slice a xs.length cap) (!(decide (((xs.length : Nat) : Int) > 3000))) rfl (wantF rfl (by kernel_rfl)) rfl (fun hg8 => ?_) ?_
  · have qhg8 := hg8; try simp only [Bool.and_eq_true, Bool.or_eq_true, Bool.not_eq_true', Bool.not_eq_false', Bool.and_eq_false_iff, Bool.or_eq_false_iff, decide_eq_true_eq, decide_eq_false_iff_not, beq_iff_eq, bne_iff_ne, beq_eq_false_iff_ne, bne_eq_false_iff_eq] at qhg8
    exact Ys.pure (fun _ => by kernel_rfl)
  refine Wl.guard (v := Value.int .i64 ((xs.length : Nat) : Int)) (!(decide (((xs.length : Nat) : Int) > 3000))) rfl (wantF rfl (by kernel_rfl)) rfl (fun hg9 => ?_) ?_
  · have qhg9 := hg9; try simp only [Bool.and_eq_true, Bool.or_eq_true, Bool.not_eq_true', Bool.not_eq_false', Bool.and_eq_false_iff, Bool.or_eq_false_iff, decide_eq_true_eq, decide_eq_false_iff_not, beq_iff_eq, bne_iff_ne, beq_eq_false_iff_ne, bne_eq_false_iff_eq] at qhg9
    refine Ys.at (t := 14) (v0 := Value.slice a xs.length cap) (lz (g := !(decide (((xs.length : Nat) : Int) > 3000))) (u := undef) hg9 (by kernel_rfl)) ?_
    exact Ys.pure (fun _ => by kernel_rfl)
  refine Wl.guard (v := Value.int .i64 ((xs.length % 2 : Nat) : Int)) (!(decide (((xs.length : Nat) : Int) > 3000))) rfl (wantF rfl (by kernel_rfl)) rfl (fun hg10 => ?_) ?_
  · have qhg10 := hg10; try simp only [Bool.and_eq_true, Bool.or_eq_true, Bool.not_eq_true', Bool.not_eq_false', Bool.and_eq_false_iff, Bool.or_eq_false_iff, decide_eq_true_eq, decide_eq_false_iff_not, beq_iff_eq, bne_iff_ne, beq_eq_false_iff_ne, bne_eq_false_iff_eq] at qhg10
    refine Ys.at (t := 15) (v0 := Value.int .i64 ((xs.length : Nat) : Int)) (lz (g := !(decide (((xs.length : Nat) : Int) > 3000))) (u := undef) hg10 (by kernel_rfl)) ?_
    exact (Ys.pure (v := .int .i64 (band .i64 ((xs.length : Nat) : Int) 1)) (fun _ => by kernel_rfl)).conseq (int_congr (band_i64n (c := 1) (by decide) 1 2 rfl rfl))
  refine Wl.guard (v := Value.bool (((xs.length % 2 : Nat) : Int) == 1)) (!(decide (((xs.length : Nat) : Int) > 3000))) rfl (wantF rfl (by kernel_rfl)) rfl (fun hg11 => ?_) ?_
  · have qhg11 := hg11; try simp only [Bool.and_eq_true, Bool.or_eq_true, Bool.not_eq_true', Bool.not_eq_false', Bool.and_eq_false_iff, Bool.or_eq_false_iff, decide_eq_true_eq, decide_eq_false_iff_not, beq_iff_eq, bne_iff_ne, beq_eq_false_iff_ne, bne_eq_false_iff_eq] at qhg11
    refine Ys.at (t := 16) (v0 := Value.int .i64 ((xs.length % 2 : Nat) : Int)) (lz (g := !(decide (((xs.length : Nat) : Int) > 3000))) (u := undef) hg11 (by kernel_rfl)) ?_
    exact Ys.pure (fun _ => by kernel_rfl)
  refine Wl.ys (v := Value.bool ((decide (((xs.length : Nat) : Int) > 3000)) || (((xs.length % 2 : Nat) : Int) == 1))) rfl rfl (Ys.or' (e := decide (((xs.length : Nat) : Int) > 3000)) (b := ((xs.length % 2 : Nat) : Int) == 1) rfl (by kernel_rfl) (by kernel_rfl) (by kernel_rfl)) ?_
  refine Wl.nil ?_
  refine hK7 _ _ _ ?_
  refine W.prune' [0, 1, 18] [Value.slice a xs.length cap, Value.int .u16 ((t : Nat) : Int), Value.bool ((decide (((xs.length : Nat) : Int) > 3000)) || (((xs.length % 2 : Nat) : Int) == 1))] (by kernel_rfl) (fun f12 => ?_)
  refine W.cond ((decide (((xs.length : Nat) : Int) > 3000)) || (((xs.length % 2 : Nat) : Int) == 1)) (by kernel_rfl) (fun h13 => ?_) (fun h14 => ?_)
  · have qh13 := h13; try simp only [Bool.and_eq_true, Bool.or_eq_true, Bool.not_eq_true', Bool.not_eq_false', Bool.and_eq_false_iff, Bool.or_eq_false_iff, decide_eq_true_eq, decide_eq_false_iff_not, beq_iff_eq, bne_iff_ne, beq_eq_false_iff_ne, bne_eq_false_iff_eq] at qh13
    refine W.seq (fun K15 hK15 => ?_)
    refine W.region ?_
    refine Wl.run 1 (by kernel_rfl) ?_
    refine Wl.nil ?_
    refine hK15 _ _ _ ?_
    refine W.ret ?_
    show ∀ w_, _ → bodyPostM (fence none) 0 Try.prog Try.f9 _ Exit.ret _ w_
    exact fun w_ hS_ => fin_ret (ret1 rfl (RV.tmp (v := Value.bool true) (by kernel_rfl)) hS_ ⟨rfl, hS_.below⟩)
  · have qh14 := h14; try simp only [Bool.and_eq_true, Bool.or_eq_true, Bool.not_eq_true', Bool.not_eq_false', Bool.and_eq_false_iff, Bool.or_eq_false_iff, decide_eq_true_eq, decide_eq_false_iff_not, beq_iff_eq, bne_iff_ne, beq_eq_false_iff_ne, bne_eq_false_iff_eq] at qh14
    refine W.skip' ?_
    refine hK6 _ _ _ ?_
    refine W.prune' [0, 1] [Value.slice a xs.length cap, Value.int .u16 ((t : Nat) : Int)] (by kernel_rfl) (fun f16 => ?_)
    refine W.seq (fun K17 hK17 => ?_)
    have hck := cks_le xs; have hxl : cks xs ^^^ t < 65536 := Nat.xor_lt_two_pow (n := 16) (by omega) ht
    refine W.region ?_
    refine Wl.run 1 (by kernel_rfl) ?_
    refine Wl.ht rfl (Ht.made (mk := fun b_ => .slice (some ⟨b_, 0, none⟩) 1 1) (t := 22) (cs := [Value.slice a xs.length cap]) rfl (fun _ => by kernel_rfl)) (fun p20 => ?_)
    refine Wl.yc (v := Value.int .u16 ((cks xs : Nat) : Int)) rfl rfl (Yc.call (k := 26) (args := #[Value.slice (some ⟨p20, 0, none⟩) 1 1]) (fun _ => by kernel_rfl) (fun w_ hm_ => (sumn_c [⟨a, xs, cap⟩] (xs) (some ⟨p20, 0, none⟩) 1 1 ((xs).length) _ rfl (by simp [jn]) rfl (by first | exact At.lit0 (i := 0) (j := 0) (t := 22) (b := p20) hm_ rfl rfl | (rw [show mc slv ([⟨a, xs, cap⟩] : List SV) = [Value.slice a xs.length cap] by (simp [mc, be_len]; try omega)]; exact At.lit0 (i := 0) (j := 0) (t := 22) (b := p20) hm_ rfl rfl)) (List.forall_mem_cons.2 ⟨(hat.mem0 hm_), (fun _ h => by cases h)⟩) (by first | omega | (simp [be_len]; omega)) (by simp) (by simp)))) ?_
    refine Wl.run 1 (by kernel_rfl) ?_
    refine Wl.nil ?_
    refine hK17 _ _ _ ?_
    refine W.pick (LL' := []) [] (by decide) rfl ?_
    refine W.prune' [0, 1, 5] [Value.slice a xs.length cap, Value.int .u16 ((t : Nat) : Int), Value.int .u16 ((cks xs : Nat) : Int)] (by kernel_rfl) (fun f18 => ?_)
    refine W.seq (fun K19 hK19 => ?_)
    refine W.region ?_
    refine Wl.run 2 (by kernel_rfl) ?_
    refine Wl.ys (v := Value.int .u64 ((cks xs : Nat) : Int)) rfl rfl ((Ys.pure (v := .int .u64 (icnv .u64 ((cks xs : Nat) : Int))) (fun _ => by kernel_rfl)).conseq (int_congr (wrap_u64 (by omega) (by omega)))) ?_
    refine Wl.ht rfl (Ht.call (β := FS) (k := 29) (args := #[Value.int .i64 2, Value.int .u64 ((cks xs : Nat) : Int)]) (Lin := []) (Lk := []) (Mi := []) (Lo := fun g20 => [g20.seg 5 (mc b8 (be 2 (cks xs)))]) [] [] rfl (fun _ => by kernel_rfl) (by decide) rfl rfl rfl (fun w_ hm_ hl_ => rnum_c 2 (cks xs) (by omega) _) (fun _ => rfl)) (fun x23 => ?_)
    obtain ⟨g20, ok21, nn22⟩ := x23
    refine Wl.castL (LL' := [g20.seg 5 (mc b8 (be 2 (cks xs)))]) rfl ?_
    refine Wl.ht rfl (Ht.made (mk := fun b_ => .slice (some ⟨b_, 0, none⟩) 2 2) (t := 22) (cs := [Value.slice a xs.length cap, Value.slice g20.a 2 g20.cap]) rfl (fun _ => by kernel_rfl)) (fun p26 => ?_)
    refine Wl.yc (v := Value.bool (((cks (xs ++ (be 2 (cks xs))) : Nat) : Int) == 0)) rfl rfl (Yc.call (k := 28) (args := #[Value.slice (some ⟨p26, 0, none⟩) 2 2]) (fun _ => by kernel_rfl) (fun w_ hm_ => (rightn_c [⟨a, xs, cap⟩, ⟨g20.a, (be 2 (cks xs)), g20.cap⟩] (xs ++ (be 2 (cks xs))) (some ⟨p26, 0, none⟩) 2 2 (xs.length + 2) _ rfl (by simp [jn]) (by simp [be_len]; try omega) (by first | exact At.lit0 (i := 0) (j := 0) (t := 22) (b := p26) hm_ rfl rfl | (rw [show mc slv ([⟨a, xs, cap⟩, ⟨g20.a, (be 2 (cks xs)), g20.cap⟩] : List SV) = [Value.slice a xs.length cap, Value.slice g20.a 2 g20.cap] by (simp [mc, be_len]; try omega)]; exact At.lit0 (i := 0) (j := 0) (t := 22) (b := p26) hm_ rfl rfl)) (List.forall_mem_cons.2 ⟨(hat.mem0 hm_), (List.forall_mem_cons.2 ⟨(FS.at (i := 1) (t := 5) hm_ rfl (FS.nil_cs ok21 (by rw [mc_len, be_len, Nat.mul_one]; rfl))), (fun _ h => by cases h)⟩)⟩) (by first | omega | (simp [be_len]; omega)) (by simp) (by simp)))) ?_
    refine Wl.run 1 (by kernel_rfl) ?_
    refine Wl.nil ?_
    refine hK19 _ _ _ ?_
    refine W.pick (LL' := []) [] (by decide) rfl ?_
    refine W.prune' [0, 1, 5, 6] [Value.slice a xs.length cap, Value.int .u16 ((t : Nat) : Int), Value.int .u16 ((cks xs : Nat) : Int), Value.bool (((cks (xs ++ (be 2 (cks xs))) : Nat) : Int) == 0)] (by kernel_rfl) (fun f24 => ?_)
    refine W.seq (fun K25 hK25 => ?_)
    refine W.region ?_
    refine Wl.run 3 (by kernel_rfl) ?_
    refine Wl.ys (v := Value.int .u16 (((cks xs) ^^^ t : Nat) : Int)) rfl rfl ((Ys.pure (v := .int .u16 (bxor .u16 ((cks xs : Nat) : Int) ((t : Nat) : Int))) (fun _ => by kernel_rfl)).conseq (int_congr (bxor_nat rfl (by show _ < 65536; omega) (by show _ < 65536; omega)))) ?_
    refine Wl.ys (v := Value.int .u64 (((cks xs) ^^^ t : Nat) : Int)) rfl rfl ((Ys.pure (v := .int .u64 (icnv .u64 (((cks xs) ^^^ t : Nat) : Int))) (fun _ => by kernel_rfl)).conseq (int_congr (wrap_u64 (by omega) (by omega)))) ?_
    refine Wl.ht rfl (Ht.call (β := FS) (k := 29) (args := #[Value.int .i64 2, Value.int .u64 (((cks xs) ^^^ t : Nat) : Int)]) (Lin := []) (Lk := []) (Mi := []) (Lo := fun g26 => [g26.seg 5 (mc b8 (be 2 ((cks xs) ^^^ t)))]) [] [] rfl (fun _ => by kernel_rfl) (by decide) rfl rfl rfl (fun w_ hm_ hl_ => rnum_c 2 ((cks xs) ^^^ t) (by omega) _) (fun _ => rfl)) (fun x29 => ?_)
    obtain ⟨g26, ok27, nn28⟩ := x29
    refine Wl.castL (LL' := [g26.seg 5 (mc b8 (be 2 ((cks xs) ^^^ t)))]) rfl ?_
    refine Wl.ht rfl (Ht.made (mk := fun b_ => .slice (some ⟨b_, 0, none⟩) 2 2) (t := 22) (cs := [Value.slice a xs.length cap, Value.slice g26.a 2 g26.cap]) rfl (fun _ => by kernel_rfl)) (fun p34 => ?_)
    refine Wl.yc (v := Value.bool (((cks (xs ++ (be 2 ((cks xs) ^^^ t))) : Nat) : Int) == 0)) rfl rfl (Yc.call (k := 28) (args := #[Value.slice (some ⟨p34, 0, none⟩) 2 2]) (fun _ => by kernel_rfl) (fun w_ hm_ => (rightn_c [⟨a, xs, cap⟩, ⟨g26.a, (be 2 ((cks xs) ^^^ t)), g26.cap⟩] (xs ++ (be 2 ((cks xs) ^^^ t))) (some ⟨p34, 0, none⟩) 2 2 (xs.length + 2) _ rfl (by simp [jn]) (by simp [be_len]; try omega) (by first | exact At.lit0 (i := 0) (j := 0) (t := 22) (b := p34) hm_ rfl rfl | (rw [show mc slv ([⟨a, xs, cap⟩, ⟨g26.a, (be 2 ((cks xs) ^^^ t)), g26.cap⟩] : List SV) = [Value.slice a xs.length cap, Value.slice g26.a 2 g26.cap] by (simp [mc, be_len]; try omega)]; exact At.lit0 (i := 0) (j := 0) (t := 22) (b := p34) hm_ rfl rfl)) (List.forall_mem_cons.2 ⟨(hat.mem0 hm_), (List.forall_mem_cons.2 ⟨(FS.at (i := 1) (t := 5) hm_ rfl (FS.nil_cs ok27 (by rw [mc_len, be_len, Nat.mul_one]; rfl))), (fun _ h => by cases h)⟩)⟩) (by first | omega | (simp [be_len]; omega)) (by simp) (by simp)))) ?_
    refine Wl.run 1 (by kernel_rfl) ?_
    refine Wl.nil ?_
    refine hK25 _ _ _ ?_
    refine W.pick (LL' := []) [] (by decide) rfl ?_
    refine W.prune' [1, 5, 6, 7] [Value.int .u16 ((t : Nat) : Int), Value.int .u16 ((cks xs : Nat) : Int), Value.bool (((cks (xs ++ (be 2 (cks xs))) : Nat) : Int) == 0), Value.bool (((cks (xs ++ (be 2 ((cks xs) ^^^ t))) : Nat) : Int) == 0)] (by kernel_rfl) (fun f30 => ?_)
    refine W.seq (fun K31 hK31 => ?_)
    refine W.region ?_
    refine Wl.run 2 (by kernel_rfl) ?_
    refine Wl.guard (v := Value.bool (((cks (xs ++ (be 2 ((cks xs) ^^^ t))) : Nat) : Int) == 0)) (((cks (xs ++ (be 2 (cks xs))) : Nat) : Int) == 0) rfl (wantT rfl (by kernel_rfl)) rfl (fun hg32 => ?_) ?_
    · have qhg32 := hg32; try simp only [Bool.and_eq_true, Bool.or_eq_true, Bool.not_eq_true', Bool.not_eq_false', Bool.and_eq_false_iff, Bool.or_eq_false_iff, decide_eq_true_eq, decide_eq_false_iff_not, beq_iff_eq, bne_iff_ne, beq_eq_false_iff_ne, bne_eq_false_iff_eq] at qhg32
      exact Ys.pure (fun _ => by kernel_rfl)
    refine Wl.guard (v := Value.int .u16 ((t : Nat) : Int)) (((cks (xs ++ (be 2 (cks xs))) : Nat) : Int) == 0) rfl (wantT rfl (by kernel_rfl)) rfl (fun hg33 => ?_) ?_
    · have qhg33 := hg33; try simp only [Bool.and_eq_true, Bool.or_eq_true, Bool.not_eq_true', Bool.not_eq_false', Bool.and_eq_false_iff, Bool.or_eq_false_iff, decide_eq_true_eq, decide_eq_false_iff_not, beq_iff_eq, bne_iff_ne, beq_eq_false_iff_ne, bne_eq_false_iff_eq] at qhg33
      exact Ys.pure (fun _ => by kernel_rfl)
    refine Wl.guard (v := Value.bool (((t : Nat) : Int) == 0)) (((cks (xs ++ (be 2 (cks xs))) : Nat) : Int) == 0) rfl (wantT rfl (by kernel_rfl)) rfl (fun hg34 => ?_) ?_
    · have qhg34 := hg34; try simp only [Bool.and_eq_true, Bool.or_eq_true, Bool.not_eq_true', Bool.not_eq_false', Bool.and_eq_false_iff, Bool.or_eq_false_iff, decide_eq_true_eq, decide_eq_false_iff_not, beq_iff_eq, bne_iff_ne, beq_eq_false_iff_ne, bne_eq_false_iff_eq] at qhg34
      refine Ys.at (t := 39) (v0 := Value.int .u16 ((t : Nat) : Int)) (lz (g := ((cks (xs ++ (be 2 (cks xs))) : Nat) : Int) == 0) (u := undef) hg34 (by kernel_rfl)) ?_
      exact Ys.pure (fun _ => by kernel_rfl)
    refine Wl.guard (v := Value.bool ((((cks (xs ++ (be 2 ((cks xs) ^^^ t))) : Nat) : Int) == 0) == (((t : Nat) : Int) == 0))) (((cks (xs ++ (be 2 (cks xs))) : Nat) : Int) == 0) rfl (wantT rfl (by kernel_rfl)) rfl (fun hg35 => ?_) ?_
    · have qhg35 := hg35; try simp only [Bool.and_eq_true, Bool.or_eq_true, Bool.not_eq_true', Bool.not_eq_false', Bool.and_eq_false_iff, Bool.or_eq_false_iff, decide_eq_true_eq, decide_eq_false_iff_not, beq_iff_eq, bne_iff_ne, beq_eq_false_iff_ne, bne_eq_false_iff_eq] at qhg35
      refine Ys.at (t := 38) (v0 := Value.bool (((cks (xs ++ (be 2 ((cks xs) ^^^ t))) : Nat) : Int) == 0)) (lz (g := ((cks (xs ++ (be 2 (cks xs))) : Nat) : Int) == 0) (u := undef) hg35 (by kernel_rfl)) ?_
      refine Ys.at (t := 40) (v0 := Value.bool (((t : Nat) : Int) == 0)) (lz (g := ((cks (xs ++ (be 2 (cks xs))) : Nat) : Int) == 0) (u := undef) hg35 (by kernel_rfl)) ?_
      exact Ys.pure (fun _ => by kernel_rfl)
    refine Wl.guard (v := Value.bool ((((cks (xs ++ (be 2 ((cks xs) ^^^ t))) : Nat) : Int) == 0) == (((t : Nat) : Int) == 0))) (((cks (xs ++ (be 2 (cks xs))) : Nat) : Int) == 0) rfl (wantT rfl (by kernel_rfl)) rfl (fun hg36 => ?_) ?_
    · have qhg36 := hg36; try simp only [Bool.and_eq_true, Bool.or_eq_true, Bool.not_eq_true', Bool.not_eq_false', Bool.and_eq_false_iff, Bool.or_eq_false_iff, decide_eq_true_eq, decide_eq_false_iff_not, beq_iff_eq, bne_iff_ne, beq_eq_false_iff_ne, bne_eq_false_iff_eq] at qhg36
      refine Ys.at (t := 41) (v0 := Value.bool ((((cks (xs ++ (be 2 ((cks xs) ^^^ t))) : Nat) : Int) == 0) == (((t : Nat) : Int) == 0))) (lz (g := ((cks (xs ++ (be 2 (cks xs))) : Nat) : Int) == 0) (u := undef) hg36 (by kernel_rfl)) ?_
      exact Ys.pure (fun _ => by kernel_rfl)
    refine Wl.guard (v := Value.int .u16 ((t : Nat) : Int)) ((((cks (xs ++ (be 2 (cks xs))) : Nat) : Int) == 0) && !((((cks (xs ++ (be 2 ((cks xs) ^^^ t))) : Nat) : Int) == 0) == (((t : Nat) : Int) == 0))) rfl (wantFz rfl rfl (by kernel_rfl)) rfl (fun hg37 => ?_) ?_
    · have qhg37 := hg37; try simp only [Bool.and_eq_true, Bool.or_eq_true, Bool.not_eq_true', Bool.not_eq_false', Bool.and_eq_false_iff, Bool.or_eq_false_iff, decide_eq_true_eq, decide_eq_false_iff_not, beq_iff_eq, bne_iff_ne, beq_eq_false_iff_ne, bne_eq_false_iff_eq] at qhg37
      exact Ys.pure (fun _ => by kernel_rfl)
    refine Wl.guard (v := Value.bool (((t : Nat) : Int) == 65535)) ((((cks (xs ++ (be 2 (cks xs))) : Nat) : Int) == 0) && !((((cks (xs ++ (be 2 ((cks xs) ^^^ t))) : Nat) : Int) == 0) == (((t : Nat) : Int) == 0))) rfl (wantFz rfl rfl (by kernel_rfl)) rfl (fun hg38 => ?_) ?_
    · have qhg38 := hg38; try simp only [Bool.and_eq_true, Bool.or_eq_true, Bool.not_eq_true', Bool.not_eq_false', Bool.and_eq_false_iff, Bool.or_eq_false_iff, decide_eq_true_eq, decide_eq_false_iff_not, beq_iff_eq, bne_iff_ne, beq_eq_false_iff_ne, bne_eq_false_iff_eq] at qhg38
      refine Ys.at (t := 43) (v0 := Value.int .u16 ((t : Nat) : Int)) (lz (g := (((cks (xs ++ (be 2 (cks xs))) : Nat) : Int) == 0) && !((((cks (xs ++ (be 2 ((cks xs) ^^^ t))) : Nat) : Int) == 0) == (((t : Nat) : Int) == 0))) (u := undef) hg38 (by kernel_rfl)) ?_
      exact Ys.pure (fun _ => by kernel_rfl)
    refine Wl.guard (v := Value.bool (((t : Nat) : Int) == 65535)) ((((cks (xs ++ (be 2 (cks xs))) : Nat) : Int) == 0) && !((((cks (xs ++ (be 2 ((cks xs) ^^^ t))) : Nat) : Int) == 0) == (((t : Nat) : Int) == 0))) rfl (wantFz rfl rfl (by kernel_rfl)) rfl (fun hg39 => ?_) ?_
    · have qhg39 := hg39; try simp only [Bool.and_eq_true, Bool.or_eq_true, Bool.not_eq_true', Bool.not_eq_false', Bool.and_eq_false_iff, Bool.or_eq_false_iff, decide_eq_true_eq, decide_eq_false_iff_not, beq_iff_eq, bne_iff_ne, beq_eq_false_iff_ne, bne_eq_false_iff_eq] at qhg39
      refine Ys.at (t := 44) (v0 := Value.bool (((t : Nat) : Int) == 65535)) (lz (g := (((cks (xs ++ (be 2 (cks xs))) : Nat) : Int) == 0) && !((((cks (xs ++ (be 2 ((cks xs) ^^^ t))) : Nat) : Int) == 0) == (((t : Nat) : Int) == 0))) (u := undef) hg39 (by kernel_rfl)) ?_
      exact Ys.pure (fun _ => by kernel_rfl)
    refine Wl.guard (v := Value.int .u16 ((cks xs : Nat) : Int)) (((((cks (xs ++ (be 2 (cks xs))) : Nat) : Int) == 0) && !((((cks (xs ++ (be 2 ((cks xs) ^^^ t))) : Nat) : Int) == 0) == (((t : Nat) : Int) == 0))) && (((t : Nat) : Int) == 65535)) rfl (wantTz rfl rfl (by kernel_rfl)) rfl (fun hg40 => ?_) ?_
    · have qhg40 := hg40; try simp only [Bool.and_eq_true, Bool.or_eq_true, Bool.not_eq_true', Bool.not_eq_false', Bool.and_eq_false_iff, Bool.or_eq_false_iff, decide_eq_true_eq, decide_eq_false_iff_not, beq_iff_eq, bne_iff_ne, beq_eq_false_iff_ne, bne_eq_false_iff_eq] at qhg40
      exact Ys.pure (fun _ => by kernel_rfl)
    refine Wl.guard (v := Value.bool (((cks xs : Nat) : Int) == 0)) (((((cks (xs ++ (be 2 (cks xs))) : Nat) : Int) == 0) && !((((cks (xs ++ (be 2 ((cks xs) ^^^ t))) : Nat) : Int) == 0) == (((t : Nat) : Int) == 0))) && (((t : Nat) : Int) == 65535)) rfl (wantTz rfl rfl (by kernel_rfl)) rfl (fun hg41 => ?_) ?_
    · have qhg41 := hg41; try simp only [Bool.and_eq_true, Bool.or_eq_true, Bool.not_eq_true', Bool.not_eq_false', Bool.and_eq_false_iff, Bool.or_eq_false_iff, decide_eq_true_eq, decide_eq_false_iff_not, beq_iff_eq, bne_iff_ne, beq_eq_false_iff_ne, bne_eq_false_iff_eq] at qhg41
      refine Ys.at (t := 46) (v0 := Value.int .u16 ((cks xs : Nat) : Int)) (lz (g := ((((cks (xs ++ (be 2 (cks xs))) : Nat) : Int) == 0) && !((((cks (xs ++ (be 2 ((cks xs) ^^^ t))) : Nat) : Int) == 0) == (((t : Nat) : Int) == 0))) && (((t : Nat) : Int) == 65535)) (u := undef) hg41 (by kernel_rfl)) ?_
      exact Ys.pure (fun _ => by kernel_rfl)
    refine Wl.guard (v := Value.bool (((cks xs : Nat) : Int) == 0)) (((((cks (xs ++ (be 2 (cks xs))) : Nat) : Int) == 0) && !((((cks (xs ++ (be 2 ((cks xs) ^^^ t))) : Nat) : Int) == 0) == (((t : Nat) : Int) == 0))) && (((t : Nat) : Int) == 65535)) rfl (wantTz rfl rfl (by kernel_rfl)) rfl (fun hg42 => ?_) ?_
    · have qhg42 := hg42; try simp only [Bool.and_eq_true, Bool.or_eq_true, Bool.not_eq_true', Bool.not_eq_false', Bool.and_eq_false_iff, Bool.or_eq_false_iff, decide_eq_true_eq, decide_eq_false_iff_not, beq_iff_eq, bne_iff_ne, beq_eq_false_iff_ne, bne_eq_false_iff_eq] at qhg42
      refine Ys.at (t := 47) (v0 := Value.bool (((cks xs : Nat) : Int) == 0)) (lz (g := ((((cks (xs ++ (be 2 (cks xs))) : Nat) : Int) == 0) && !((((cks (xs ++ (be 2 ((cks xs) ^^^ t))) : Nat) : Int) == 0) == (((t : Nat) : Int) == 0))) && (((t : Nat) : Int) == 65535)) (u := undef) hg42 (by kernel_rfl)) ?_
      exact Ys.pure (fun _ => by kernel_rfl)
    refine Wl.guard (v := Value.int .u16 ((cks xs : Nat) : Int)) ((((((cks (xs ++ (be 2 (cks xs))) : Nat) : Int) == 0) && !((((cks (xs ++ (be 2 ((cks xs) ^^^ t))) : Nat) : Int) == 0) == (((t : Nat) : Int) == 0))) && (((t : Nat) : Int) == 65535)) && !(((cks xs : Nat) : Int) == 0)) rfl (wantFz rfl rfl (by kernel_rfl)) rfl (fun hg43 => ?_) ?_
    · have qhg43 := hg43; try simp only [Bool.and_eq_true, Bool.or_eq_true, Bool.not_eq_true', Bool.not_eq_false', Bool.and_eq_false_iff, Bool.or_eq_false_iff, decide_eq_true_eq, decide_eq_false_iff_not, beq_iff_eq, bne_iff_ne, beq_eq_false_iff_ne, bne_eq_false_iff_eq] at qhg43
      exact Ys.pure (fun _ => by kernel_rfl)
    refine Wl.guard (v := Value.bool (((cks xs : Nat) : Int) == 65535)) ((((((cks (xs ++ (be 2 (cks xs))) : Nat) : Int) == 0) && !((((cks (xs ++ (be 2 ((cks xs) ^^^ t))) : Nat) : Int) == 0) == (((t : Nat) : Int) == 0))) && (((t : Nat) : Int) == 65535)) && !(((cks xs : Nat) : Int) == 0)) rfl (wantFz rfl rfl (by kernel_rfl)) rfl (fun hg44 => ?_) ?_
    · have qhg44 := hg44; try simp only [Bool.and_eq_true, Bool.or_eq_true, Bool.not_eq_true', Bool.not_eq_false', Bool.and_eq_false_iff, Bool.or_eq_false_iff, decide_eq_true_eq, decide_eq_false_iff_not, beq_iff_eq, bne_iff_ne, beq_eq_false_iff_ne, bne_eq_false_iff_eq] at qhg44
      refine Ys.at (t := 49) (v0 := Value.int .u16 ((cks xs : Nat) : Int)) (lz (g := (((((cks (xs ++ (be 2 (cks xs))) : Nat) : Int) == 0) && !((((cks (xs ++ (be 2 ((cks xs) ^^^ t))) : Nat) : Int) == 0) == (((t : Nat) : Int) == 0))) && (((t : Nat) : Int) == 65535)) && !(((cks xs : Nat) : Int) == 0)) (u := undef) hg44 (by kernel_rfl)) ?_
      exact Ys.pure (fun _ => by kernel_rfl)
    refine Wl.guard (v := Value.bool ((((cks xs : Nat) : Int) == 0) || (((cks xs : Nat) : Int) == 65535))) (((((cks (xs ++ (be 2 (cks xs))) : Nat) : Int) == 0) && !((((cks (xs ++ (be 2 ((cks xs) ^^^ t))) : Nat) : Int) == 0) == (((t : Nat) : Int) == 0))) && (((t : Nat) : Int) == 65535)) rfl (wantTz rfl rfl (by kernel_rfl)) rfl (fun hg45 => ?_) ?_
    · have qhg45 := hg45; try simp only [Bool.and_eq_true, Bool.or_eq_true, Bool.not_eq_true', Bool.not_eq_false', Bool.and_eq_false_iff, Bool.or_eq_false_iff, decide_eq_true_eq, decide_eq_false_iff_not, beq_iff_eq, bne_iff_ne, beq_eq_false_iff_ne, bne_eq_false_iff_eq] at qhg45
      refine Ys.at (t := 48) (v0 := Value.bool (((cks xs : Nat) : Int) == 0)) (lz (g := ((((cks (xs ++ (be 2 (cks xs))) : Nat) : Int) == 0) && !((((cks (xs ++ (be 2 ((cks xs) ^^^ t))) : Nat) : Int) == 0) == (((t : Nat) : Int) == 0))) && (((t : Nat) : Int) == 65535)) (u := undef) hg45 (by kernel_rfl)) ?_
      refine Ys.at (t := 50) (v0 := (bif !(((cks xs : Nat) : Int) == 0) then Value.bool (((cks xs : Nat) : Int) == 65535) else undef)) (lz2 (g := ((((cks (xs ++ (be 2 (cks xs))) : Nat) : Int) == 0) && !((((cks (xs ++ (be 2 ((cks xs) ^^^ t))) : Nat) : Int) == 0) == (((t : Nat) : Int) == 0))) && (((t : Nat) : Int) == 65535)) hg45 (by kernel_rfl)) ?_
      exact Ys.or' (e := ((cks xs : Nat) : Int) == 0) (b := ((cks xs : Nat) : Int) == 65535) rfl (by kernel_rfl) (by kernel_rfl) (by kernel_rfl)
    refine Wl.guard (v := Value.bool ((((t : Nat) : Int) == 65535) && ((((cks xs : Nat) : Int) == 0) || (((cks xs : Nat) : Int) == 65535)))) ((((cks (xs ++ (be 2 (cks xs))) : Nat) : Int) == 0) && !((((cks (xs ++ (be 2 ((cks xs) ^^^ t))) : Nat) : Int) == 0) == (((t : Nat) : Int) == 0))) rfl (wantFz rfl rfl (by kernel_rfl)) rfl (fun hg46 => ?_) ?_
    · have qhg46 := hg46; try simp only [Bool.and_eq_true, Bool.or_eq_true, Bool.not_eq_true', Bool.not_eq_false', Bool.and_eq_false_iff, Bool.or_eq_false_iff, decide_eq_true_eq, decide_eq_false_iff_not, beq_iff_eq, bne_iff_ne, beq_eq_false_iff_ne, bne_eq_false_iff_eq] at qhg46
      refine Ys.at (t := 45) (v0 := Value.bool (((t : Nat) : Int) == 65535)) (lz (g := (((cks (xs ++ (be 2 (cks xs))) : Nat) : Int) == 0) && !((((cks (xs ++ (be 2 ((cks xs) ^^^ t))) : Nat) : Int) == 0) == (((t : Nat) : Int) == 0))) (u := undef) hg46 (by kernel_rfl)) ?_
      refine Ys.at (t := 51) (v0 := (bif ((t : Nat) : Int) == 65535 then Value.bool ((((cks xs : Nat) : Int) == 0) || (((cks xs : Nat) : Int) == 65535)) else undef)) (lz2 (g := (((cks (xs ++ (be 2 (cks xs))) : Nat) : Int) == 0) && !((((cks (xs ++ (be 2 ((cks xs) ^^^ t))) : Nat) : Int) == 0) == (((t : Nat) : Int) == 0))) hg46 (by kernel_rfl)) ?_
      exact Ys.and (e := ((t : Nat) : Int) == 65535) (b := (((cks xs : Nat) : Int) == 0) || (((cks xs : Nat) : Int) == 65535)) rfl (by kernel_rfl) (by kernel_rfl) (by kernel_rfl)
    refine Wl.guard (v := Value.bool (((((cks (xs ++ (be 2 ((cks xs) ^^^ t))) : Nat) : Int) == 0) == (((t : Nat) : Int) == 0)) || ((((t : Nat) : Int) == 65535) && ((((cks xs : Nat) : Int) == 0) || (((cks xs : Nat) : Int) == 65535))))) (((cks (xs ++ (be 2 (cks xs))) : Nat) : Int) == 0) rfl (wantT rfl (by kernel_rfl)) rfl (fun hg47 => ?_) ?_
    · have qhg47 := hg47; try simp only [Bool.and_eq_true, Bool.or_eq_true, Bool.not_eq_true', Bool.not_eq_false', Bool.and_eq_false_iff, Bool.or_eq_false_iff, decide_eq_true_eq, decide_eq_false_iff_not, beq_iff_eq, bne_iff_ne, beq_eq_false_iff_ne, bne_eq_false_iff_eq] at qhg47
      refine Ys.at (t := 42) (v0 := Value.bool ((((cks (xs ++ (be 2 ((cks xs) ^^^ t))) : Nat) : Int) == 0) == (((t : Nat) : Int) == 0))) (lz (g := ((cks (xs ++ (be 2 (cks xs))) : Nat) : Int) == 0) (u := undef) hg47 (by kernel_rfl)) ?_
      refine Ys.at (t := 52) (v0 := (bif !((((cks (xs ++ (be 2 ((cks xs) ^^^ t))) : Nat) : Int) == 0) == (((t : Nat) : Int) == 0)) then Value.bool ((((t : Nat) : Int) == 65535) && ((((cks xs : Nat) : Int) == 0) || (((cks xs : Nat) : Int) == 65535))) else undef)) (lz2 (g := ((cks (xs ++ (be 2 (cks xs))) : Nat) : Int) == 0) hg47 (by kernel_rfl)) ?_
      exact Ys.or' (e := (((cks (xs ++ (be 2 ((cks xs) ^^^ t))) : Nat) : Int) == 0) == (((t : Nat) : Int) == 0)) (b := (((t : Nat) : Int) == 65535) && ((((cks xs : Nat) : Int) == 0) || (((cks xs : Nat) : Int) == 65535))) rfl (by kernel_rfl) (by kernel_rfl) (by kernel_rfl)
    refine Wl.ys (v := Value.bool ((((cks (xs ++ (be 2 (cks xs))) : Nat) : Int) == 0) && (((((cks (xs ++ (be 2 ((cks xs) ^^^ t))) : Nat) : Int) == 0) == (((t : Nat) : Int) == 0)) || ((((t : Nat) : Int) == 65535) && ((((cks xs : Nat) : Int) == 0) || (((cks xs : Nat) : Int) == 65535)))))) rfl rfl (Ys.and (e := ((cks (xs ++ (be 2 (cks xs))) : Nat) : Int) == 0) (b := ((((cks (xs ++ (be 2 ((cks xs) ^^^ t))) : Nat) : Int) == 0) == (((t : Nat) : Int) == 0)) || ((((t : Nat) : Int) == 65535) && ((((cks xs : Nat) : Int) == 0) || (((cks xs : Nat) : Int) == 65535)))) rfl (by kernel_rfl) (by kernel_rfl) (by kernel_rfl)) ?_
    refine Wl.run 1 (by kernel_rfl) ?_
    refine Wl.nil ?_
    refine hK31 _ _ _ ?_
    refine W.prune' [4] [Value.bool ((((cks (xs ++ (be 2 (cks xs))) : Nat) : Int) == 0) && (((((cks (xs ++ (be 2 ((cks xs) ^^^ t))) : Nat) : Int) == 0) == (((t : Nat) : Int) == 0)) || ((((t : Nat) : Int) == 65535) && ((((cks xs : Nat) : Int) == 0) || (((cks xs : Nat) : Int) == 65535)))))] (by kernel_rfl) (fun f48 => ?_)
    refine W.ret ?_
    show ∀ w_, _ → bodyPostM (fence none) 0 Try.prog Try.f9 _ Exit.ret _ w_
    exact fun w_ hS_ => fin_ret (ret1 rfl (RV.tmp (v := Value.bool ((((cks (xs ++ (be 2 (cks xs))) : Nat) : Int) == 0) && (((((cks (xs ++ (be 2 ((cks xs) ^^^ t))) : Nat) : Int) == 0) == (((t : Nat) : Int) == 0)) || ((((t : Nat) : Int) == 65535) && ((((cks xs : Nat) : Int) == 0) || (((cks xs : Nat) : Int) == 65535)))))) (by kernel_rfl)) hS_ ⟨by clear hK1 hK2 hK3 hK6 hK7 hK17 hK19 hK25 hK31; refine congrArg Ending.returned ?_; exact bool_congr (sr_law (by omega) ht), hS_.below⟩)

end Go.Proofs.Ytegeijaicjackaa.Oct
