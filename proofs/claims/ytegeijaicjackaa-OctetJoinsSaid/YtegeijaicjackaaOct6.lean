/-
  OctetPairs. No condition.
-/
import Derived.Test.YtegeijaicjackaaOct5
set_option linter.unusedVariables false
set_option linter.unusedSimpArgs false
set_option maxRecDepth 20000
namespace Go.Proofs.Ytegeijaicjackaa.Oct
open Go.RowKit Base
attribute [local irreducible] Ys Yc Ht HtIn Wl Wd W Mem pf dpf

theorem pw_add {xs : List UInt8} {k : Nat} (h : 2 * k + 1 < xs.length) : (256 * (xs.getD (2 * k) 0).toNat % 65536 + (xs.getD (2 * k + 1) 0).toNat) % 65536 = (pw xs).getD k 0 := by
  have h1 := UInt8.toNat_lt (xs.getD (2 * k) 0); have h2 := UInt8.toNat_lt (xs.getD (2 * k + 1) 0)
  rw [pw_get1 xs k h]; omega
theorem pw_lone2 {xs : List UInt8} {k : Nat} (h : 2 * k < xs.length) (h1 : ¬ 2 * k + 1 < xs.length) : 256 * (xs.getD (2 * k) 0).toNat % 65536 = (pw xs).getD k 0 := by
  have h2 := UInt8.toNat_lt (xs.getD (2 * k) 0)
  rw [pw_get0 xs k (by omega)]; omega
theorem rpairs_c (xs : List UInt8) (a : Option Addr) (cap : Nat) (w : World) (hat : At w a (byc xs)) (hy : xs.length ≤ 1000000000) : Calls Try.prog 15 #[Value.slice a xs.length cap] w (RetM w (fun g : FS => g.ok 1 (pw xs).length) (fun g => .slice g.a (pw xs).length g.cap) [] (fun g => [g.seg 27 (mc n16 (pw xs))])) := by
  refine calls_W (M := []) (LL := []) (n := 37) Try.func15 rfl rfl (by simp) (Mem.refl _) ?_
  refine W.seq (fun K1 hK1 => ?_)
  refine W.region ?_
  refine Wl.run 1 (by kernel_rfl) ?_
  refine Wl.nil ?_
  refine hK1 _ _ _ ?_
  refine W.seq (fun K2 hK2 => ?_)
  refine W.region ?_
  refine Wl.ht rfl (Ht.made (mk := fun b_ => .slice (some ⟨b_, 0, none⟩) 0 0) (t := 27) (cs := []) rfl (fun _ => by kernel_rfl)) (fun p6 => ?_)
  refine Wl.run 1 (by kernel_rfl) ?_
  refine Wl.nil ?_
  refine hK2 _ _ _ ?_
  refine W.prune' [0, 3] [Value.slice a xs.length cap, Value.slice (some ⟨p6, 0, none⟩) 0 0] (by kernel_rfl) (fun f3 => ?_)
  refine W.seq (fun K4 hK4 => ?_)
  refine W.seq (fun K5 hK5 => ?_)
  refine W.region ?_
  refine Wl.run 1 (by kernel_rfl) ?_
  refine Wl.nil ?_
  refine hK5 _ _ _ ?_
  refine W.block ?_
  refine W.loop2 [0, 3, 4] (fun (k : Nat) (h : FS) => [Value.slice a xs.length cap, Value.slice h.a k h.cap, Value.int .i64 ((2 * k : Nat) : Int)]) (fun (k : Nat) (h : FS) => k ≤ (pw xs).length ∧ h.ok 1 k) (fun (k : Nat) (h : FS) => [h.seg 27 (mc n16 ((pw xs).take k))]) (fun (k : Nat) (h : FS) => (pw xs).length - k) 0 ⟨false, p6, 0, []⟩ (Eq.trans (b := ([Value.slice a xs.length cap, Value.slice (some ⟨p6, 0, none⟩) 0 0, Value.int .i64 0] : List Value)) (by kernel_rfl) (by simp [FS.a])) ⟨(Nat.zero_le _), (FS.lit_ok (by decide))⟩ (by simp [mc, FS.seg]) (fun k h f7 J6 hp8 hJ6 => ?_)
  obtain ⟨hk, okh⟩ := hp8
  have hpl := pw_len xs
  refine W.seq (fun K9 hK9 => ?_)
  refine W.seq (fun K10 hK10 => ?_)
  refine W.region ?_
  refine Wl.run 4 (by kernel_rfl) ?_
  refine Wl.nil ?_
  refine hK10 _ _ _ ?_
  refine W.prune' [0, 3, 4, 10] [Value.slice a xs.length cap, Value.slice h.a k h.cap, Value.int .i64 ((2 * k : Nat) : Int), Value.bool (decide (((2 * k : Nat) : Int) < ((xs.length : Nat) : Int)))] (by kernel_rfl) (fun f11 => ?_)
  refine W.cond (decide (((2 * k : Nat) : Int) < ((xs.length : Nat) : Int))) (by kernel_rfl) (fun h12 => ?_) (fun h13 => ?_)
  · have qh12 := h12; try simp only [Bool.and_eq_true, Bool.or_eq_true, Bool.not_eq_true', Bool.not_eq_false', Bool.and_eq_false_iff, Bool.or_eq_false_iff, decide_eq_true_eq, decide_eq_false_iff_not, beq_iff_eq, bne_iff_ne, beq_eq_false_iff_ne, bne_eq_false_iff_eq] at qh12
    refine W.skip' ?_
    refine hK9 _ _ _ ?_
    refine W.prune' [0, 3, 4] [Value.slice a xs.length cap, Value.slice h.a k h.cap, Value.int .i64 ((2 * k : Nat) : Int)] (by kernel_rfl) (fun f14 => ?_)
    refine W.seq (fun K15 hK15 => ?_)
    refine W.block ?_
    refine W.seq (fun K16 hK16 => ?_)
    refine W.region ?_
    refine Wl.run 2 (by kernel_rfl) ?_
    refine Wl.ys (v := Value.pointer (some (ela a ((2 * k) * 1)))) rfl rfl (Ys.byMem fun w_ h_ => Ys.indexAddr (k := .i64) (a := a) (len := xs.length) (cap := cap) (i := ((2 * k : Nat) : Int)) (sz := 1) rfl (by kernel_rfl) (by kernel_rfl) Try.runUnderlying22 Try.sizeOf5 (by omega) (by omega) ((hat.mem0 h_).here (by rw [mc_len]; first | omega | (simp; omega)))) ?_
    refine Wl.ys (v := Value.int .u8 (((xs.getD (2 * k) 0).toNat : Nat) : Int)) rfl rfl (Ys.ld (a := ela a ((2 * k) * 1)) rfl (by kernel_rfl) Try.isAgg5 (fun w_ h_ => (hat.mem0 h_).ld (mc_get1 0 (by first | omega | (simp; omega))))) ?_
    have hb17 : (xs.getD (2 * k) 0).toNat < 256 := UInt8.toNat_lt _
    refine Wl.ys (v := Value.int .u16 (((xs.getD (2 * k) 0).toNat : Nat) : Int)) rfl rfl ((Ys.pure (v := .int .u16 (icnv .u16 (((xs.getD (2 * k) 0).toNat : Nat) : Int))) (fun _ => by kernel_rfl)).conseq (int_congr (wrap_u16 (by omega) (by omega)))) ?_
    refine Wl.ys (v := Value.int .u16 (((256 * ((xs.getD (2 * k) 0).toNat)) % 65536 : Nat) : Int)) rfl rfl ((Ys.pure (v := .int .u16 (imul .u16 ((256 : Nat) : Int) (((xs.getD (2 * k) 0).toNat : Nat) : Int))) (fun _ => by kernel_rfl)).conseq (int_congr (imul_mod rfl))) ?_
    refine Wl.run 1 (by kernel_rfl) ?_
    refine Wl.nil ?_
    refine hK16 _ _ _ ?_
    refine W.prune' [0, 3, 4, 5] [Value.slice a xs.length cap, Value.slice h.a k h.cap, Value.int .i64 ((2 * k : Nat) : Int), Value.int .u16 (((256 * ((xs.getD (2 * k) 0).toNat)) % 65536 : Nat) : Int)] (by kernel_rfl) (fun f18 => ?_)
    refine W.seq (fun K19 hK19 => ?_)
    refine W.meet0 (w0 := w) (M := []) K19 [0, 3, 4, 5] ([Value.slice a xs.length cap, Value.slice h.a k h.cap, Value.int .i64 ((2 * k : Nat) : Int), Value.int .u16 (((pw xs).getD k 0 : Nat) : Int)]) (True) ([h.seg 27 (mc n16 ((pw xs).take k))]) (fun J20 hJ20 => ?_) (fun  f21 hp22 => ?_)
    · refine W.seq (fun K23 hK23 => ?_)
      refine W.region ?_
      refine Wl.run 3 (by kernel_rfl) ?_
      refine Wl.ys (v := Value.int .i64 (((xs.length : Nat) : Int) - 1)) rfl rfl ((Ys.pure (v := .int .i64 (isub .i64 ((xs.length : Nat) : Int) 1)) (fun _ => by kernel_rfl)).conseq (int_congr (isub_eq rfl (by omega) (by omega)))) ?_
      refine Wl.run 1 (by kernel_rfl) ?_
      refine Wl.nil ?_
      refine hK23 _ _ _ ?_
      refine W.prune' [0, 3, 4, 5, 23] [Value.slice a xs.length cap, Value.slice h.a k h.cap, Value.int .i64 ((2 * k : Nat) : Int), Value.int .u16 (((256 * ((xs.getD (2 * k) 0).toNat)) % 65536 : Nat) : Int), Value.bool (decide (((2 * k : Nat) : Int) < (((xs.length : Nat) : Int) - 1)))] (by kernel_rfl) (fun f24 => ?_)
      refine W.cond (decide (((2 * k : Nat) : Int) < (((xs.length : Nat) : Int) - 1))) (by kernel_rfl) (fun h25 => ?_) (fun h26 => ?_)
      · have qh25 := h25; try simp only [Bool.and_eq_true, Bool.or_eq_true, Bool.not_eq_true', Bool.not_eq_false', Bool.and_eq_false_iff, Bool.or_eq_false_iff, decide_eq_true_eq, decide_eq_false_iff_not, beq_iff_eq, bne_iff_ne, beq_eq_false_iff_ne, bne_eq_false_iff_eq] at qh25
        refine W.region ?_
        refine Wl.run 3 (by kernel_rfl) ?_
        refine Wl.ys (v := Value.int .i64 (((2 * k) + 1 : Nat) : Int)) rfl rfl ((Ys.pure (v := .int .i64 (iadd .i64 ((2 * k : Nat) : Int) 1)) (fun _ => by kernel_rfl)).conseq (int_congr (iadd_eq (by omega) (by omega) (by omega)))) ?_
        refine Wl.ys (v := Value.pointer (some (ela a (((2 * k) + 1) * 1)))) rfl rfl (Ys.byMem fun w_ h_ => Ys.indexAddr (k := .i64) (a := a) (len := xs.length) (cap := cap) (i := (((2 * k) + 1 : Nat) : Int)) (sz := 1) rfl (by kernel_rfl) (by kernel_rfl) Try.runUnderlying22 Try.sizeOf5 (by omega) (by omega) ((hat.mem0 h_).here (by rw [mc_len]; first | omega | (simp; omega)))) ?_
        refine Wl.ys (v := Value.int .u8 (((xs.getD ((2 * k) + 1) 0).toNat : Nat) : Int)) rfl rfl (Ys.ld (a := ela a (((2 * k) + 1) * 1)) rfl (by kernel_rfl) Try.isAgg5 (fun w_ h_ => (hat.mem0 h_).ld (mc_get1 0 (by first | omega | (simp; omega))))) ?_
        have hb27 : (xs.getD ((2 * k) + 1) 0).toNat < 256 := UInt8.toNat_lt _
        refine Wl.ys (v := Value.int .u16 (((xs.getD ((2 * k) + 1) 0).toNat : Nat) : Int)) rfl rfl ((Ys.pure (v := .int .u16 (icnv .u16 (((xs.getD ((2 * k) + 1) 0).toNat : Nat) : Int))) (fun _ => by kernel_rfl)).conseq (int_congr (wrap_u16 (by omega) (by omega)))) ?_
        refine Wl.ys (v := Value.int .u16 (((((256 * ((xs.getD (2 * k) 0).toNat)) % 65536) + ((xs.getD ((2 * k) + 1) 0).toNat)) % 65536 : Nat) : Int)) rfl rfl ((Ys.pure (v := .int .u16 (iadd .u16 (((256 * ((xs.getD (2 * k) 0).toNat)) % 65536 : Nat) : Int) (((xs.getD ((2 * k) + 1) 0).toNat : Nat) : Int))) (fun _ => by kernel_rfl)).conseq (int_congr (iadd_mod rfl))) ?_
        refine Wl.run 1 (by kernel_rfl) ?_
        refine Wl.nil ?_
        refine fun w_ h_ => hJ20 _ w_ trivial ?_ h_
        refine Eq.trans (b := ([Value.slice a xs.length cap, Value.slice h.a k h.cap, Value.int .i64 ((2 * k : Nat) : Int), Value.int .u16 (((((256 * ((xs.getD (2 * k) 0).toNat)) % 65536) + ((xs.getD ((2 * k) + 1) 0).toNat)) % 65536 : Nat) : Int)] : List Value)) (by kernel_rfl) (by rw [pw_add (by omega)])
      · have qh26 := h26; try simp only [Bool.and_eq_true, Bool.or_eq_true, Bool.not_eq_true', Bool.not_eq_false', Bool.and_eq_false_iff, Bool.or_eq_false_iff, decide_eq_true_eq, decide_eq_false_iff_not, beq_iff_eq, bne_iff_ne, beq_eq_false_iff_ne, bne_eq_false_iff_eq] at qh26
        refine W.skip' ?_
        refine fun w_ h_ => hJ20 _ w_ trivial ?_ h_
        refine Eq.trans (b := ([Value.slice a xs.length cap, Value.slice h.a k h.cap, Value.int .i64 ((2 * k : Nat) : Int), Value.int .u16 (((256 * ((xs.getD (2 * k) 0).toNat)) % 65536 : Nat) : Int)] : List Value)) (by kernel_rfl) (by rw [pw_lone2 (by omega) (by omega)])
    · refine hK19 _ _ _ ?_
      refine W.region ?_
      refine Wl.run 2 (by kernel_rfl) ?_
      refine Wl.ht rfl (Ht.made (mk := fun b_ => .slice (some ⟨b_, 0, none⟩) 1 1) (t := 27) (cs := [Value.int .u16 (((pw xs).getD k 0 : Nat) : Int)]) rfl (fun _ => by kernel_rfl)) (fun p34 => ?_)
      refine Wl.ht rfl (Ht.append (eu := 27) (xv := Value.slice (some ⟨p34, 0, none⟩) 1 1) (i := 1) (g := h) (e := 27) (ii := (Try.prog.info? 27).getD default) (z := Value.int .u16 0) (sz := 1) (bytes := 2) (nn := k) (m := 1) (k := k + 1) (xs := mc n16 ((pw xs).take k)) (news := mc n16 [(pw xs).getD k 0]) (cs' := mc n16 (((pw xs).take k) ++ [(pw xs).getD k 0])) (Lo := fun g28 => [[cb p34 [Value.int .u16 (((pw xs).getD k 0 : Nat) : Int)] 27], g28.seg 27 (mc n16 (((pw xs).take k) ++ [(pw xs).getD k 0]))]) rfl rfl (by kernel_rfl) (by kernel_rfl) (by kernel_rfl) (by kernel_rfl) (by kernel_rfl) (by kernel_rfl) (by kernel_rfl) (by kernel_rfl) (by kernel_rfl) rfl okh (by simp [mc]; omega) (fun _ => rfl) (Src.at (a := some ⟨p34, 0, none⟩) (by first | rfl | (simp [mc, be_len]; done) | (simp [mc, be_len]; omega)) (fun w_ h_ => (At.lit0 (i := 0) (j := 0) (t := 27) (b := p34) h_ rfl rfl))) (by first | rfl | (simp [mc, be_len]; done) | (simp [mc, be_len]; omega)) (mc_one (fun _ => rfl) _) (by first | omega | (simp; done) | (simp; omega)) (by simp only [maxLen]; first | omega | (simp; omega)) (by first | omega | (simp; omega)) (mc_app _ _) (fun _ => rfl)) (fun x32 => ?_)
      obtain ⟨g28, ok29, hn30, hn31⟩ := x32
      refine Wl.castL (LL' := [[cb p34 [Value.int .u16 (((pw xs).getD k 0 : Nat) : Int)] 27], g28.seg 27 (mc n16 (((pw xs).take k) ++ [(pw xs).getD k 0]))]) rfl ?_
      refine Wl.run 1 (by kernel_rfl) ?_
      refine Wl.nil ?_
      refine hK15 _ _ _ ?_
      refine W.pick (LL' := [g28.seg 27 (mc n16 (((pw xs).take k) ++ [(pw xs).getD k 0]))]) [1] (by decide) rfl ?_
      refine W.prune' [0, 3, 4] [Value.slice a xs.length cap, Value.slice g28.a (k + 1) g28.cap, Value.int .i64 ((2 * k : Nat) : Int)] (by kernel_rfl) (fun f33 => ?_)
      refine W.region ?_
      refine Wl.run 1 (by kernel_rfl) ?_
      refine Wl.ys (v := Value.int .i64 (((2 * k) + 2 : Nat) : Int)) rfl rfl ((Ys.pure (v := .int .i64 (iadd .i64 ((2 * k : Nat) : Int) 2)) (fun _ => by kernel_rfl)).conseq (int_congr (iadd_eq (by omega) (by omega) (by omega)))) ?_
      refine Wl.run 1 (by kernel_rfl) ?_
      refine Wl.nil ?_
      refine fun w_ h_ => hJ6 (k + 1) g28 _ w_ (by omega) ⟨(by omega), (by simpa using ok29)⟩ ?_ (Mem.cast (LL := [g28.seg 27 (mc n16 (((pw xs).take k) ++ [(pw xs).getD k 0]))]) (by rw [pw_step (by omega)]) h_)
      refine Eq.trans (b := ([Value.slice a xs.length cap, Value.slice g28.a (k + 1) g28.cap, Value.int .i64 (((2 * k) + 2 : Nat) : Int)] : List Value)) (by kernel_rfl) (by simp; try omega)
  · have qh13 := h13; try simp only [Bool.and_eq_true, Bool.or_eq_true, Bool.not_eq_true', Bool.not_eq_false', Bool.and_eq_false_iff, Bool.or_eq_false_iff, decide_eq_true_eq, decide_eq_false_iff_not, beq_iff_eq, bne_iff_ne, beq_eq_false_iff_ne, bne_eq_false_iff_eq] at qh13
    refine W.exit ?_
    refine hK4 _ _ _ ?_
    refine W.prune' [3] [Value.slice h.a k h.cap] (by kernel_rfl) (fun f34 => ?_)
    refine W.seq (fun K35 hK35 => ?_)
    refine W.region ?_
    refine Wl.run 2 (by kernel_rfl) ?_
    refine Wl.nil ?_
    refine hK35 _ _ _ ?_
    refine W.prune' [2] [Value.slice h.a k h.cap] (by kernel_rfl) (fun f36 => ?_)
    refine W.ret ?_
    show ∀ w_, _ → bodyPostM (fence none) 0 Try.prog Try.f15 _ Exit.ret _ w_
    exact fun w_ hS_ => fin_ret (ret1 rfl (RV.tmp (v := Value.slice h.a k h.cap) (by kernel_rfl)) hS_ ⟨h, (by have hk2 : (pw xs).length = k := (by omega); rw [hk2]; exact okh), congrArg Ending.returned ((by have hk2 : (pw xs).length = k := (by omega); rw [hk2])), (Mem.cast (by rw [List.take_of_length_le (by omega)]) hS_)⟩)

theorem rpairsn_c (xs : List UInt8) (a : Option Addr) (len cap : Nat) (w : World) (hn : len = xs.length) (hat : At w a (byc xs)) (hy : xs.length ≤ 1000000000) : Calls Try.prog 15 #[.slice a len cap] w (RetM w (fun g : FS => g.ok 1 (pw xs).length) (fun g => .slice g.a (pw xs).length g.cap) [] (fun g => [g.seg 27 (mc n16 (pw xs))])) := by
  subst hn; exact rpairs_c xs a cap w hat hy

theorem told_law (n : Nat) (most : Int) : ((told n most : Nat) : Int) = bif ((n : Nat) : Int) == 0 then 0 else imax (imin ((n : Nat) : Int) most) 1 := by
  unfold told imax imin
  by_cases h : n = 0
  · subst h; rfl
  · rw [if_neg h, show ((((n : Nat) : Int) == 0) : Bool) = false by simpa using h]
    simp only [cond_false]
    repeat (first | omega | split)
theorem take_getD {xs : List Nat} {m j : Nat} (h : j < m) : (xs.take m).getD j 0 = xs.getD j 0 := by
  simp [List.getD_eq_getElem?_getD, List.getElem?_take, h]
theorem law_c (xs : List UInt8) (a : Option Addr) (cap : Nat) (most : Int) (w : World) (hat : At w a (byc xs)) (hxl : xs.length ≤ 9223372036854775807) (hm64 : -9223372036854775808 ≤ most ∧ most ≤ 9223372036854775807) : Calls Try.prog 3 #[Value.slice a xs.length cap, Value.int .i64 most] w (Ret w (.bool true)) := by
  refine calls_W (M := []) (LL := []) (n := 46) Try.func3 rfl rfl (by simp) (Mem.refl _) ?_
  refine W.seq (fun K1 hK1 => ?_)
  refine W.region ?_
  refine Wl.run 1 (by kernel_rfl) ?_
  refine Wl.nil ?_
  refine hK1 _ _ _ ?_
  refine W.seq (fun K2 hK2 => ?_)
  refine W.seq (fun K3 hK3 => ?_)
  refine W.region ?_
  refine Wl.yc (v := Value.bool true) rfl rfl (Yc.call (k := 13) (args := #[]) (fun _ => by kernel_rfl) (fun w_ hm_ => speaks_c _)) ?_
  refine Wl.run 1 (by kernel_rfl) ?_
  refine Wl.nil ?_
  refine hK3 _ _ _ ?_
  refine W.prune' [0, 1, 10] [Value.slice a xs.length cap, Value.int .i64 most, Value.bool false] (by kernel_rfl) (fun f4 => ?_)
  refine W.condF (by kernel_rfl) ?_
  refine W.skip' ?_
  refine hK2 _ _ _ ?_
  refine W.prune' [0, 1] [Value.slice a xs.length cap, Value.int .i64 most] (by kernel_rfl) (fun f5 => ?_)
  refine W.seq (fun K6 hK6 => ?_)
  refine W.seq (fun K7 hK7 => ?_)
  refine W.region ?_
  refine Wl.run 3 (by kernel_rfl) ?_
  refine Wl.nil ?_
  refine hK7 _ _ _ ?_
  refine W.prune' [0, 1, 13] [Value.slice a xs.length cap, Value.int .i64 most, Value.bool (decide (((xs.length : Nat) : Int) > 5000))] (by kernel_rfl) (fun f8 => ?_)
  refine W.cond (decide (((xs.length : Nat) : Int) > 5000)) (by kernel_rfl) (fun h9 => ?_) (fun h10 => ?_)
  · have qh9 := h9; try simp only [Bool.and_eq_true, Bool.or_eq_true, Bool.not_eq_true', Bool.not_eq_false', Bool.and_eq_false_iff, Bool.or_eq_false_iff, decide_eq_true_eq, decide_eq_false_iff_not, beq_iff_eq, bne_iff_ne, beq_eq_false_iff_ne, bne_eq_false_iff_eq] at qh9
    refine W.seq (fun K11 hK11 => ?_)
    refine W.region ?_
    refine Wl.run 1 (by kernel_rfl) ?_
    refine Wl.nil ?_
    refine hK11 _ _ _ ?_
    refine W.ret ?_
    show ∀ w_, _ → bodyPostM (fence none) 0 Try.prog Try.f3 _ Exit.ret _ w_
    exact fun w_ hS_ => fin_ret (ret1 rfl (RV.tmp (v := Value.bool true) (by kernel_rfl)) hS_ ⟨rfl, hS_.below⟩)
  · have qh10 := h10; try simp only [Bool.and_eq_true, Bool.or_eq_true, Bool.not_eq_true', Bool.not_eq_false', Bool.and_eq_false_iff, Bool.or_eq_false_iff, decide_eq_true_eq, decide_eq_false_iff_not, beq_iff_eq, bne_iff_ne, beq_eq_false_iff_ne, bne_eq_false_iff_eq] at qh10
    refine W.skip' ?_
    refine hK6 _ _ _ ?_
    refine W.prune' [0, 1] [Value.slice a xs.length cap, Value.int .i64 most] (by kernel_rfl) (fun f12 => ?_)
    refine W.seq (fun K13 hK13 => ?_)
    refine W.region ?_
    refine Wl.run 2 (by kernel_rfl) ?_
    refine Wl.ht rfl (Ht.call (β := FS) (k := 14) (args := #[Value.slice a xs.length cap, Value.int .i64 most]) (Lin := []) (Lk := []) (Mi := []) (Lo := fun g14 => [g14.seg 27 (mc n16 ((pw xs).take (told (pw xs).length most)))]) [] [] rfl (fun _ => by kernel_rfl) (by decide) rfl rfl rfl (fun w_ hm_ hl_ => (lpairsn_c xs a xs.length cap most _ (by first | rfl | (simp; done)) (hat.mem0 hm_) (by first | omega | (simp; done)))) (fun _ => rfl)) (fun x16 => ?_)
    obtain ⟨g14, ok15⟩ := x16
    refine Wl.castL (LL' := [g14.seg 27 (mc n16 ((pw xs).take (told (pw xs).length most)))]) rfl ?_
    refine Wl.run 1 (by kernel_rfl) ?_
    refine Wl.ht rfl (Ht.call (β := FS) (k := 15) (args := #[Value.slice a xs.length cap]) (Lin := []) (Lk := [g14.seg 27 (mc n16 ((pw xs).take (told (pw xs).length most)))]) (Mi := []) (Lo := fun g17 => [g17.seg 27 (mc n16 (pw xs)), g14.seg 27 (mc n16 ((pw xs).take (told (pw xs).length most)))]) [] [0] rfl (fun _ => by kernel_rfl) (by decide) rfl rfl rfl (fun w_ hm_ hl_ => (rpairsn_c xs a xs.length cap _ (by first | rfl | (simp; done)) (hat.mem0 hm_) (by first | omega | (simp; done)))) (fun _ => rfl)) (fun x19 => ?_)
    obtain ⟨g17, ok18⟩ := x19
    refine Wl.castL (LL' := [g17.seg 27 (mc n16 (pw xs)), g14.seg 27 (mc n16 ((pw xs).take (told (pw xs).length most)))]) rfl ?_
    refine Wl.run 2 (by kernel_rfl) ?_
    refine Wl.nil ?_
    refine hK13 _ _ _ ?_
    refine W.prune' [1, 5, 6] [Value.int .i64 most, Value.slice g14.a (told (pw xs).length most) g14.cap, Value.slice g17.a ((pw xs).length) g17.cap] (by kernel_rfl) (fun f20 => ?_)
    refine W.seq (fun K21 hK21 => ?_)
    refine W.region ?_
    refine Wl.run 6 (by kernel_rfl) ?_
    have hm22 := imin_bd (((pw xs).length : Nat) : Int) most
    have hm23 := imax_bd (imin (((pw xs).length : Nat) : Int) most) 1
    refine Wl.nil ?_
    refine hK21 _ _ _ ?_
    refine W.prune' [5, 6, 7] [Value.slice g14.a (told (pw xs).length most) g14.cap, Value.slice g17.a ((pw xs).length) g17.cap, Value.int .i64 (imax (imin (((pw xs).length : Nat) : Int) most) 1)] (by kernel_rfl) (fun f24 => ?_)
    refine W.seq (fun K25 hK25 => ?_)
    refine W.meet0 (w0 := w) (M := []) K25 [5, 6, 7] ([Value.slice g14.a (told (pw xs).length most) g14.cap, Value.slice g17.a ((pw xs).length) g17.cap, Value.int .i64 (bif (((pw xs).length : Nat) : Int) == 0 then 0 else imax (imin (((pw xs).length : Nat) : Int) most) 1)]) (True) ([g17.seg 27 (mc n16 (pw xs)), g14.seg 27 (mc n16 ((pw xs).take (told (pw xs).length most)))]) (fun J26 hJ26 => ?_) (fun  f27 hp28 => ?_)
    · refine W.seq (fun K29 hK29 => ?_)
      refine W.region ?_
      refine Wl.run 3 (by kernel_rfl) ?_
      refine Wl.nil ?_
      refine hK29 _ _ _ ?_
      refine W.prune' [5, 6, 7, 26] [Value.slice g14.a (told (pw xs).length most) g14.cap, Value.slice g17.a ((pw xs).length) g17.cap, Value.int .i64 (imax (imin (((pw xs).length : Nat) : Int) most) 1), Value.bool ((((pw xs).length : Nat) : Int) == 0)] (by kernel_rfl) (fun f30 => ?_)
      refine W.cond ((((pw xs).length : Nat) : Int) == 0) (by kernel_rfl) (fun h31 => ?_) (fun h32 => ?_)
      · have qh31 := h31; try simp only [Bool.and_eq_true, Bool.or_eq_true, Bool.not_eq_true', Bool.not_eq_false', Bool.and_eq_false_iff, Bool.or_eq_false_iff, decide_eq_true_eq, decide_eq_false_iff_not, beq_iff_eq, bne_iff_ne, beq_eq_false_iff_ne, bne_eq_false_iff_eq] at qh31
        refine W.region ?_
        refine Wl.run 1 (by kernel_rfl) ?_
        refine Wl.nil ?_
        refine fun w_ h_ => hJ26 _ w_ trivial ?_ h_
        refine Eq.trans (b := ([Value.slice g14.a (told (pw xs).length most) g14.cap, Value.slice g17.a ((pw xs).length) g17.cap, Value.int .i64 0] : List Value)) (by kernel_rfl) (by rw [h31] <;> rfl)
      · have qh32 := h32; try simp only [Bool.and_eq_true, Bool.or_eq_true, Bool.not_eq_true', Bool.not_eq_false', Bool.and_eq_false_iff, Bool.or_eq_false_iff, decide_eq_true_eq, decide_eq_false_iff_not, beq_iff_eq, bne_iff_ne, beq_eq_false_iff_ne, bne_eq_false_iff_eq] at qh32
        refine W.skip' ?_
        refine fun w_ h_ => hJ26 _ w_ trivial ?_ h_
        refine Eq.trans (b := ([Value.slice g14.a (told (pw xs).length most) g14.cap, Value.slice g17.a ((pw xs).length) g17.cap, Value.int .i64 (imax (imin (((pw xs).length : Nat) : Int) most) 1)] : List Value)) (by kernel_rfl) (by rw [h32] <;> rfl)
    · refine hK25 _ _ _ ?_
      refine W.seq (fun K33 hK33 => ?_)
      refine W.seq (fun K34 hK34 => ?_)
      refine W.region ?_
      refine Wl.run 4 (by kernel_rfl) ?_
      refine Wl.nil ?_
      refine hK34 _ _ _ ?_
      refine W.prune' [5, 6, 30] [Value.slice g14.a (told (pw xs).length most) g14.cap, Value.slice g17.a ((pw xs).length) g17.cap, Value.bool ((((told (pw xs).length most) : Nat) : Int) != (bif (((pw xs).length : Nat) : Int) == 0 then 0 else imax (imin (((pw xs).length : Nat) : Int) most) 1))] (by kernel_rfl) (fun f35 => ?_)
      refine W.cond ((((told (pw xs).length most) : Nat) : Int) != (bif (((pw xs).length : Nat) : Int) == 0 then 0 else imax (imin (((pw xs).length : Nat) : Int) most) 1)) (by kernel_rfl) (fun h36 => ?_) (fun h37 => ?_)
      · have qh36 := h36; try simp only [Bool.and_eq_true, Bool.or_eq_true, Bool.not_eq_true', Bool.not_eq_false', Bool.and_eq_false_iff, Bool.or_eq_false_iff, decide_eq_true_eq, decide_eq_false_iff_not, beq_iff_eq, bne_iff_ne, beq_eq_false_iff_ne, bne_eq_false_iff_eq] at qh36
        exact absurd (told_law (pw xs).length most) qh36
      · have qh37 := h37; try simp only [Bool.and_eq_true, Bool.or_eq_true, Bool.not_eq_true', Bool.not_eq_false', Bool.and_eq_false_iff, Bool.or_eq_false_iff, decide_eq_true_eq, decide_eq_false_iff_not, beq_iff_eq, bne_iff_ne, beq_eq_false_iff_ne, bne_eq_false_iff_eq] at qh37
        refine W.skip' ?_
        refine hK33 _ _ _ ?_
        refine W.prune' [5, 6] [Value.slice g14.a (told (pw xs).length most) g14.cap, Value.slice g17.a ((pw xs).length) g17.cap] (by kernel_rfl) (fun f38 => ?_)
        refine W.seq (fun K39 hK39 => ?_)
        refine W.seq (fun K40 hK40 => ?_)
        refine W.region ?_
        refine Wl.run 3 (by kernel_rfl) ?_
        refine Wl.nil ?_
        refine hK40 _ _ _ ?_
        refine W.prune' [5, 6, 32, 33] [Value.slice g14.a (told (pw xs).length most) g14.cap, Value.slice g17.a ((pw xs).length) g17.cap, Value.int .i64 (((told (pw xs).length most) : Nat) : Int), Value.int .i64 0] (by kernel_rfl) (fun f41 => ?_)
        refine W.block ?_
        refine W.loop1 [5, 6, 32, 33] (fun (j : Nat) => [Value.slice g14.a (told (pw xs).length most) g14.cap, Value.slice g17.a ((pw xs).length) g17.cap, Value.int .i64 (((told (pw xs).length most) : Nat) : Int), Value.int .i64 ((j : Nat) : Int)]) (fun (j : Nat) => j ≤ told (pw xs).length most) (fun (j : Nat) => [g17.seg 27 (mc n16 (pw xs)), g14.seg 27 (mc n16 ((pw xs).take (told (pw xs).length most)))]) (fun (j : Nat) => told (pw xs).length most - j) 0 (by kernel_rfl) (by first | omega | trivial | simp) (by rfl) (fun j f43 J42 hp44 hJ42 => ?_)
        have hj := hp44
        have htl := told_le (pw xs).length most; have hpl := pw_len xs
        refine W.seq (fun K45 hK45 => ?_)
        refine W.region ?_
        refine Wl.run 1 (by kernel_rfl) ?_
        refine Wl.nil ?_
        refine hK45 _ _ _ ?_
        refine W.seq (fun K46 hK46 => ?_)
        refine W.cond (decide (((j : Nat) : Int) < (((told (pw xs).length most) : Nat) : Int))) (by kernel_rfl) (fun h47 => ?_) (fun h48 => ?_)
        · have qh47 := h47; try simp only [Bool.and_eq_true, Bool.or_eq_true, Bool.not_eq_true', Bool.not_eq_false', Bool.and_eq_false_iff, Bool.or_eq_false_iff, decide_eq_true_eq, decide_eq_false_iff_not, beq_iff_eq, bne_iff_ne, beq_eq_false_iff_ne, bne_eq_false_iff_eq] at qh47
          refine W.skip' ?_
          refine hK46 _ _ _ ?_
          refine W.prune' [5, 6, 32, 33] [Value.slice g14.a (told (pw xs).length most) g14.cap, Value.slice g17.a ((pw xs).length) g17.cap, Value.int .i64 (((told (pw xs).length most) : Nat) : Int), Value.int .i64 ((j : Nat) : Int)] (by kernel_rfl) (fun f49 => ?_)
          refine W.seq (fun K50 hK50 => ?_)
          refine W.block ?_
          refine W.seq (fun K51 hK51 => ?_)
          refine W.region ?_
          refine Wl.run 2 (by kernel_rfl) ?_
          refine Wl.nil ?_
          refine hK51 _ _ _ ?_
          refine W.prune' [5, 6, 8, 32, 33] [Value.slice g14.a (told (pw xs).length most) g14.cap, Value.slice g17.a ((pw xs).length) g17.cap, Value.int .i64 ((j : Nat) : Int), Value.int .i64 (((told (pw xs).length most) : Nat) : Int), Value.int .i64 ((j : Nat) : Int)] (by kernel_rfl) (fun f52 => ?_)
          refine W.seq (fun K53 hK53 => ?_)
          refine W.draws [(0, true), (1, true), (2, true), (3, true), (4, true), (5, false), (6, false), (7, false), (8, false)] [0, 1, 2, 3, 4] (Mem w [] [g17.seg 27 (mc n16 (pw xs)), g14.seg 27 (mc n16 ((pw xs).take (told (pw xs).length most)))]) (by kernel_rfl) (by kernel_rfl) (by kernel_rfl) rfl (by kernel_rfl) (fun _ _ h_ => h_.drawn _) (fun _ h_ => h_) ?_
          refine Wd.run 2 (by kernel_rfl) ?_
          refine Wd.ys (v := Value.pointer (some (ela g14.a (j * 1)))) rfl rfl rfl (Ys.indexAddr (k := .i64) (a := g14.a) (len := (told (pw xs).length most)) (cap := g14.cap) (i := ((j : Nat) : Int)) (sz := 1) rfl (by kernel_rfl) (by kernel_rfl) Try.runUnderlying24 Try.sizeOf27 (by omega) (by omega) (by rw [FS.a_own (FS.notnil ok15 (by omega))]; rfl)) ?_
          refine Wd.ys (v := Value.int .u16 ((((pw xs).take (told (pw xs).length most)).getD j 0 : Nat) : Int)) rfl rfl rfl (Ys.ld (a := ela g14.a (j * 1)) rfl (by kernel_rfl) Try.isAgg27 (fun w_ h_ => (FS.at (i := 1) (t := 27) h_ rfl (FS.nil_cs ok15 (by rw [mc_len, List.length_take, Nat.min_eq_left (told_le _ _), Nat.mul_one]))).ld (mc_get1 0 (by first | omega | (simp; omega))))) ?_
          refine Wd.run 1 (by kernel_rfl) ?_
          refine Wd.yc (v := Value.int .i64 ((j : Nat) : Int)) rfl rfl rfl (Ys.yc (Ys.pure (fun _ => by kernel_rfl))) (.inr fun _ h_ => h_) ?_
          refine Wd.yc (v := Value.pointer (some (ela g17.a (j * 1)))) rfl rfl rfl (Ys.yc (Ys.indexAddr (k := .i64) (a := g17.a) (len := (pw xs).length) (cap := g17.cap) (i := ((j : Nat) : Int)) (sz := 1) rfl (by kernel_rfl) (by kernel_rfl) Try.runUnderlying24 Try.sizeOf27 (by omega) (by omega) (by rw [FS.a_own (FS.notnil ok18 (by omega))]; rfl))) (.inr fun _ h_ => h_) ?_
          refine Wd.yc (v := Value.int .u16 (((pw xs).getD j 0 : Nat) : Int)) rfl rfl rfl (Ys.yc (Ys.ld (a := ela g17.a (j * 1)) rfl (by kernel_rfl) Try.isAgg27 (fun w_ h_ => (FS.at (i := 0) (t := 27) h_ rfl (FS.nil_cs ok18 (mc_len1 _))).ld (mc_get1 0 (by first | omega | (simp; omega)))))) (.inr fun _ h_ => h_) ?_
          refine Wd.yc (v := Value.bool (((((pw xs).take (told (pw xs).length most)).getD j 0 : Nat) : Int) != (((pw xs).getD j 0 : Nat) : Int))) rfl rfl rfl (Ys.yc (Ys.pure (fun _ => by kernel_rfl))) (.inr fun _ h_ => h_) ?_
          refine Wd.nil ?_
          refine hK53 _ _ _ ?_
          refine W.prune' [5, 6, 32, 33, 44] [Value.slice g14.a (told (pw xs).length most) g14.cap, Value.slice g17.a ((pw xs).length) g17.cap, Value.int .i64 (((told (pw xs).length most) : Nat) : Int), Value.int .i64 ((j : Nat) : Int), Value.bool (((((pw xs).take (told (pw xs).length most)).getD j 0 : Nat) : Int) != (((pw xs).getD j 0 : Nat) : Int))] (by kernel_rfl) (fun f54 => ?_)
          refine W.cond (((((pw xs).take (told (pw xs).length most)).getD j 0 : Nat) : Int) != (((pw xs).getD j 0 : Nat) : Int)) (by kernel_rfl) (fun h55 => ?_) (fun h56 => ?_)
          · have qh55 := h55; try simp only [Bool.and_eq_true, Bool.or_eq_true, Bool.not_eq_true', Bool.not_eq_false', Bool.and_eq_false_iff, Bool.or_eq_false_iff, decide_eq_true_eq, decide_eq_false_iff_not, beq_iff_eq, bne_iff_ne, beq_eq_false_iff_ne, bne_eq_false_iff_eq] at qh55
            exact absurd (by rw [take_getD (by omega)]) qh55
          · have qh56 := h56; try simp only [Bool.and_eq_true, Bool.or_eq_true, Bool.not_eq_true', Bool.not_eq_false', Bool.and_eq_false_iff, Bool.or_eq_false_iff, decide_eq_true_eq, decide_eq_false_iff_not, beq_iff_eq, bne_iff_ne, beq_eq_false_iff_ne, bne_eq_false_iff_eq] at qh56
            refine W.skip' ?_
            refine hK50 _ _ _ ?_
            refine W.prune' [5, 6, 32, 33] [Value.slice g14.a (told (pw xs).length most) g14.cap, Value.slice g17.a ((pw xs).length) g17.cap, Value.int .i64 (((told (pw xs).length most) : Nat) : Int), Value.int .i64 ((j : Nat) : Int)] (by kernel_rfl) (fun f57 => ?_)
            refine W.region ?_
            refine Wl.ys (v := Value.int .i64 ((j + 1 : Nat) : Int)) rfl rfl ((Ys.pure (v := .int .i64 (iadd .i64 ((j : Nat) : Int) 1)) (fun _ => by kernel_rfl)).conseq (int_congr (iadd_eq (by omega) (by omega) (by omega)))) ?_
            refine Wl.run 1 (by kernel_rfl) ?_
            refine Wl.nil ?_
            refine fun w_ h_ => hJ42 (j + 1) _ w_ (by omega) (by first | omega | trivial | simp) ?_ h_
            kernel_rfl
        · have qh48 := h48; try simp only [Bool.and_eq_true, Bool.or_eq_true, Bool.not_eq_true', Bool.not_eq_false', Bool.and_eq_false_iff, Bool.or_eq_false_iff, decide_eq_true_eq, decide_eq_false_iff_not, beq_iff_eq, bne_iff_ne, beq_eq_false_iff_ne, bne_eq_false_iff_eq] at qh48
          refine W.exit ?_
          refine hK39 _ _ _ ?_
          refine W.pick (LL' := []) [] (by decide) rfl ?_
          refine W.prune' [] [] (by kernel_rfl) (fun f58 => ?_)
          refine W.seq (fun K59 hK59 => ?_)
          refine W.region ?_
          refine Wl.run 1 (by kernel_rfl) ?_
          refine Wl.nil ?_
          refine hK59 _ _ _ ?_
          refine W.ret ?_
          show ∀ w_, _ → bodyPostM (fence none) 0 Try.prog Try.f3 _ Exit.ret _ w_
          exact fun w_ hS_ => fin_ret (ret1 rfl (RV.tmp (v := Value.bool true) (by kernel_rfl)) hS_ ⟨rfl, hS_.below⟩)

end Go.Proofs.Ytegeijaicjackaa.Oct
