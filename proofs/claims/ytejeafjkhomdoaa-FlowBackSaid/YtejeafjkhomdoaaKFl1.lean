import Derived.Test.YtejeafjkhomdoaaKIc3
set_option linter.unusedVariables false
set_option linter.unusedSimpArgs false
set_option maxRecDepth 20000
namespace Go.Proofs.Ytejeafjkhomdoaa.Oct
open Go.RowKit Base
attribute [local irreducible] Ys Yc Ht HtIn Wl Wd W Mem pf dpf Wa Wo
def a4 (xs : List UInt8) (k : Nat) : Nat := w2 xs k * 65536 + w2 xs (k + 2)
theorem a4_lt (xs : List UInt8) (k : Nat) : a4 xs k < 4294967296 := by unfold a4; have := w2_lt xs k; have := w2_lt xs (k + 2); omega
theorem or_w2 (xs : List UInt8) (k : Nat) : (xs.getD k 0).toNat * 256 % 65536 ||| (xs.getD (k + 1) 0).toNat = w2 xs k := by
  have h1 := UInt8.toNat_lt (xs.getD k 0); have h2 := UInt8.toNat_lt (xs.getD (k + 1) 0)
  rw [Nat.mod_eq_of_lt (by omega), show (xs.getD k 0).toNat * 256 = (xs.getD k 0).toNat * 2 ^ 8 by rfl, shl_or h2]
  unfold w2; omega
theorem or_a4 (xs : List UInt8) (k : Nat) : w2 xs k * 65536 % 4294967296 ||| w2 xs (k + 2) = a4 xs k := by
  have h1 := w2_lt xs k; have h2 := w2_lt xs (k + 2)
  rw [Nat.mod_eq_of_lt (by omega), show w2 xs k * 65536 = 2 ^ 16 * w2 xs k by omega, ← Nat.two_pow_add_eq_or_of_lt h2]
  unfold a4; omega
theorem word_c (xs : List UInt8) (a : Option Addr) (cap k : Nat) (w : World) (hat : At w a (byc xs)) (hk : k + 1 < xs.length) (hl : xs.length ≤ 1000000) (hlc : xs.length ≤ cap) : Calls Try.prog 71 #[Value.slice a xs.length cap, Value.int .i64 ((k : Nat) : Int)] w (Ret w (.int .u16 ((w2 xs k : Nat) : Int))) := by
  refine calls_W (M := []) (LL := []) (n := 18) Try.func71 rfl rfl (by simp) (Mem.refl _) ?_
  refine W.seq (fun K1 hK1 => ?_)
  refine W.region ?_
  refine Wl.run 1 (by kernel_rfl) ?_
  refine Wl.nil ?_
  refine hK1 _ _ _ ?_
  refine W.seq (fun K2 hK2 => ?_)
  refine W.draws [(0, true), (1, true), (2, true), (3, true), (4, true), (5, true), (6, true), (7, false), (8, false), (9, false), (10, false), (11, false), (12, false), (13, false)] [0, 1, 2, 3, 4, 5, 6] (Mem w [] []) (by kernel_rfl) (by kernel_rfl) (by kernel_rfl) rfl (by kernel_rfl) (fun _ _ h_ => h_.drawn _) (fun _ h_ => h_) ?_
  refine Wd.run 2 (by kernel_rfl) ?_
  refine Wd.ys (v := Value.pointer (some (ela a (k * 1)))) rfl rfl rfl (Ys.byMem fun w_ h_ => Ys.indexAddr (k := .i64) (a := a) (len := xs.length) (cap := cap) (i := ((k : Nat) : Int)) (sz := 1) rfl (by kernel_rfl) (by kernel_rfl) Try.runUnderlying25 Try.sizeOf5 (by omega) (by omega) ((hat.mem0 h_).here (by rw [mc_len]; first | omega | (simp; omega)))) ?_
  refine Wd.ys (v := nV .u8 ((xs.getD k 0).toNat)) rfl rfl rfl (Ys.ld (a := ela a (k * 1)) rfl (by kernel_rfl) Try.isAgg5 (fun w_ h_ => (hat.mem0 h_).ld (mc_get1 0 (by first | omega | (simp; omega))))) ?_
  have hb3 : (xs.getD k 0).toNat < 256 := UInt8.toNat_lt _
  refine Wd.ys (v := nV .u16 ((xs.getD k 0).toNat)) rfl rfl rfl ((Ys.pure (v := .int .u16 (icnv .u16 (((xs.getD k 0).toNat : Nat) : Int))) (fun _ => by kernel_rfl)).conseq (int_congr (wrap_u16 (by omega) (by omega)))) ?_
  refine Wd.ys (v := nV .u16 ((((xs.getD k 0).toNat) * 256) % 65536)) rfl rfl rfl ((Ys.pure (v := .int .u16 (ishl .u16 (((xs.getD k 0).toNat : Nat) : Int) ((8 : Nat) : Int))) (fun _ => by kernel_rfl)).conseq (int_congr (ishl_mod rfl ((xs.getD k 0).toNat) 8 (by decide)))) ?_
  refine Wd.run 1 (by kernel_rfl) ?_
  refine Wd.yc (v := nV .i64 k) rfl rfl rfl (Ys.yc (Ys.pure (fun _ => by kernel_rfl))) (.inr fun _ h_ => h_) ?_
  refine Wd.yc (v := nV .i64 (k + 1)) rfl rfl rfl (Ys.yc ((Ys.pure (v := .int .i64 (iadd .i64 ((k : Nat) : Int) 1)) (fun _ => by kernel_rfl)).conseq (int_congr (iadd_eq (by omega) (by omega) (by omega))))) (.inr fun _ h_ => h_) ?_
  refine Wd.yc (v := Value.pointer (some (ela a ((k + 1) * 1)))) rfl rfl rfl (Ys.yc (Ys.byMem fun w_ h_ => Ys.indexAddr (k := .i64) (a := a) (len := xs.length) (cap := cap) (i := ((k + 1 : Nat) : Int)) (sz := 1) rfl (by kernel_rfl) (by kernel_rfl) Try.runUnderlying25 Try.sizeOf5 (by omega) (by omega) ((hat.mem0 h_).here (by rw [mc_len]; first | omega | (simp; omega))))) (.inr fun _ h_ => h_) ?_
  refine Wd.yc (v := nV .u8 ((xs.getD (k + 1) 0).toNat)) rfl rfl rfl (Ys.yc (Ys.ld (a := ela a ((k + 1) * 1)) rfl (by kernel_rfl) Try.isAgg5 (fun w_ h_ => (hat.mem0 h_).ld (mc_get1 0 (by first | omega | (simp; omega)))))) (.inr fun _ h_ => h_) ?_
  have hb4 : (xs.getD (k + 1) 0).toNat < 256 := UInt8.toNat_lt _
  refine Wd.yc (v := nV .u16 ((xs.getD (k + 1) 0).toNat)) rfl rfl rfl (Ys.yc ((Ys.pure (v := .int .u16 (icnv .u16 (((xs.getD (k + 1) 0).toNat : Nat) : Int))) (fun _ => by kernel_rfl)).conseq (int_congr (wrap_u16 (by omega) (by omega))))) (.inr fun _ h_ => h_) ?_
  refine Wd.yc (v := nV .u16 (((((xs.getD k 0).toNat) * 256) % 65536) ||| ((xs.getD (k + 1) 0).toNat))) rfl rfl rfl (Ys.yc ((Ys.pure (v := .int .u16 (bor .u16 (((((xs.getD k 0).toNat) * 256) % 65536 : Nat) : Int) (((xs.getD (k + 1) 0).toNat : Nat) : Int))) (fun _ => by kernel_rfl)).conseq (int_congr (bor_nat rfl (by show _ < 65536; omega) (by show _ < 65536; omega))))) (.inr fun _ h_ => h_) ?_
  refine Wd.yc (v := nV .u16 (((((xs.getD k 0).toNat) * 256) % 65536) ||| ((xs.getD (k + 1) 0).toNat))) rfl rfl rfl (Ys.yc (Ys.pure (fun _ => by kernel_rfl))) (.inl (by kernel_rfl)) ?_
  refine Wd.nil ?_
  refine hK2 _ _ _ ?_
  refine W.prune' [4] [nV .u16 (((((xs.getD k 0).toNat) * 256) % 65536) ||| ((xs.getD (k + 1) 0).toNat))] (by kernel_rfl) (fun f5 => ?_)
  refine W.ret ?_
  show ∀ w_, _ → bodyPostM (fence none) 0 Try.prog Try.f71 _ Exit.ret _ w_
  exact fun w_ hS_ => fin_ret (ret1 rfl (RV.tmp (v := nV .u16 (((((xs.getD k 0).toNat) * 256) % 65536) ||| ((xs.getD (k + 1) 0).toNat))) (by kernel_rfl)) hS_ ⟨by clear hK1 hK2; refine congrArg Ending.returned ?_; first | rfl | exact int_congr (congrArg (fun n : Nat => (n : Int)) (or_w2 xs k)), hS_.below⟩)
theorem wordn_c (xs : List UInt8) (a : Option Addr) (cap k : Nat) (len : Nat) (w : World) (hn : len = xs.length) (hat : At w a (byc xs)) (hk : k + 1 < xs.length) (hl : xs.length ≤ 1000000) (hlc : xs.length ≤ cap)  : Calls Try.prog 71 #[.slice a len cap, .int .i64 ((k : Nat) : Int)] w (Ret w (.int .u16 ((w2 xs k : Nat) : Int))) := by
  subst hn; exact word_c xs a cap k w hat hk hl hlc
theorem addr_c (xs : List UInt8) (a : Option Addr) (cap k : Nat) (w : World) (hat : At w a (byc xs)) (hk : k + 3 < xs.length) (hl : xs.length ≤ 1000000) (hlc : xs.length ≤ cap) : Calls Try.prog 76 #[Value.slice a xs.length cap, Value.int .i64 ((k : Nat) : Int)] w (Ret w (.int .u32 ((a4 xs k : Nat) : Int))) := by
  have hw1 := w2_lt xs k; have hw2 := w2_lt xs (k + 2)
  refine calls_W (M := []) (LL := []) (n := 16) Try.func76 rfl rfl (by simp) (Mem.refl _) ?_
  refine W.seq (fun K1 hK1 => ?_)
  refine W.region ?_
  refine Wl.run 1 (by kernel_rfl) ?_
  refine Wl.nil ?_
  refine hK1 _ _ _ ?_
  refine W.seq (fun K2 hK2 => ?_)
  refine W.region ?_
  refine Wl.run 2 (by kernel_rfl) ?_
  refine Wl.yc (v := nV .u16 (w2 xs k)) rfl rfl (Yc.call (k := 71) (args := #[Value.slice a xs.length cap, nV .i64 k]) (fun _ => by kernel_rfl) (fun w_ hm_ => (wordn_c xs a cap k xs.length _ (by first | rfl | (rw [List.length_take]; omega) | (simp; done) | (simp [be_len, be_len, psh_len]; omega)) (hat.mem0 hm_) (by omega) (by omega) (by first | omega | (simp; omega))))) ?_
  refine Wl.ys (v := nV .u32 (w2 xs k)) rfl rfl ((Ys.pure (v := .int .u32 (icnv .u32 ((w2 xs k : Nat) : Int))) (fun _ => by kernel_rfl)).conseq (int_congr (wrap_u32 (by omega) (by omega)))) ?_
  refine Wl.ys (v := nV .u32 (((w2 xs k) * 65536) % 4294967296)) rfl rfl ((Ys.pure (v := .int .u32 (ishl .u32 ((w2 xs k : Nat) : Int) ((16 : Nat) : Int))) (fun _ => by kernel_rfl)).conseq (int_congr (ishl_mod rfl (w2 xs k) 16 (by decide)))) ?_
  refine Wl.run 2 (by kernel_rfl) ?_
  refine Wl.ys (v := nV .i64 (k + 2)) rfl rfl ((Ys.pure (v := .int .i64 (iadd .i64 ((k : Nat) : Int) 2)) (fun _ => by kernel_rfl)).conseq (int_congr (iadd_eq (by omega) (by omega) (by omega)))) ?_
  refine Wl.yc (v := nV .u16 (w2 xs (k + 2))) rfl rfl (Yc.call (k := 71) (args := #[Value.slice a xs.length cap, nV .i64 (k + 2)]) (fun _ => by kernel_rfl) (fun w_ hm_ => (wordn_c xs a cap (k + 2) xs.length _ (by first | rfl | (rw [List.length_take]; omega) | (simp; done) | (simp [be_len, be_len, psh_len]; omega)) (hat.mem0 hm_) (by omega) (by omega) (by first | omega | (simp; omega))))) ?_
  refine Wl.ys (v := nV .u32 (w2 xs (k + 2))) rfl rfl ((Ys.pure (v := .int .u32 (icnv .u32 ((w2 xs (k + 2) : Nat) : Int))) (fun _ => by kernel_rfl)).conseq (int_congr (wrap_u32 (by omega) (by omega)))) ?_
  refine Wl.ys (v := nV .u32 ((((w2 xs k) * 65536) % 4294967296) ||| (w2 xs (k + 2)))) rfl rfl ((Ys.pure (v := .int .u32 (bor .u32 ((((w2 xs k) * 65536) % 4294967296 : Nat) : Int) ((w2 xs (k + 2) : Nat) : Int))) (fun _ => by kernel_rfl)).conseq (int_congr (bor_nat rfl (by show _ < 4294967296; omega) (by show _ < 4294967296; omega)))) ?_
  refine Wl.run 1 (by kernel_rfl) ?_
  refine Wl.nil ?_
  refine hK2 _ _ _ ?_
  refine W.prune' [4] [nV .u32 ((((w2 xs k) * 65536) % 4294967296) ||| (w2 xs (k + 2)))] (by kernel_rfl) (fun f3 => ?_)
  refine W.ret ?_
  show ∀ w_, _ → bodyPostM (fence none) 0 Try.prog Try.f76 _ Exit.ret _ w_
  exact fun w_ hS_ => fin_ret (ret1 rfl (RV.tmp (v := nV .u32 ((((w2 xs k) * 65536) % 4294967296) ||| (w2 xs (k + 2)))) (by kernel_rfl)) hS_ ⟨by clear hK1 hK2; refine congrArg Ending.returned ?_; first | rfl | exact int_congr (congrArg (fun n : Nat => (n : Int)) (or_a4 xs k)), hS_.below⟩)
theorem addrn_c (xs : List UInt8) (a : Option Addr) (cap k : Nat) (len : Nat) (w : World) (hn : len = xs.length) (hat : At w a (byc xs)) (hk : k + 3 < xs.length) (hl : xs.length ≤ 1000000) (hlc : xs.length ≤ cap)  : Calls Try.prog 76 #[.slice a len cap, .int .i64 ((k : Nat) : Int)] w (Ret w (.int .u32 ((a4 xs k : Nat) : Int))) := by
  subst hn; exact addr_c xs a cap k w hat hk hl hlc
def ecA (k : UInt8) : Bool := ((k.toNat : Nat) : Int) == 8
def ecO (k c : UInt8) : Bool := (((c.toNat : Nat) : Int) == 0) && ((((k.toNat : Nat) : Int) == 8) || (((k.toNat : Nat) : Int) == 0))
def sel (b : Bool) (x y : Nat) : Nat := bif b then x else y
theorem echo_c (k c : UInt8) (w : World) : Calls Try.prog 38 #[Value.int .u8 ((k.toNat : Nat) : Int), Value.int .u8 ((c.toNat : Nat) : Int)] w (Ret w (.tuple #[.bool (ecA k), .bool (ecO k c)])) := by
  refine calls_W (M := []) (LL := []) (n := 18) Try.func38 rfl rfl (by simp) (Mem.refl _) ?_
  refine W.seq (fun K1 hK1 => ?_)
  refine W.region ?_
  refine Wl.run 2 (by kernel_rfl) ?_
  refine Wl.nil ?_
  refine hK1 _ _ _ ?_
  refine W.prune' [0, 1] [nV .u8 k.toNat, nV .u8 c.toNat] (by kernel_rfl) (fun f2 => ?_)
  refine W.seq (fun K3 hK3 => ?_)
  refine W.region ?_
  refine Wl.run 5 (by kernel_rfl) ?_
  refine Wl.guard (v := nV .u8 k.toNat) (((c.toNat : Nat) : Int) == 0) rfl (wantT rfl (by kernel_rfl)) rfl (fun hg4 => ?_) ?_
  · have qhg4 := hg4; try simp only [Bool.and_eq_true, Bool.or_eq_true, Bool.not_eq_true', Bool.not_eq_false', Bool.and_eq_false_iff, Bool.or_eq_false_iff, decide_eq_true_eq, decide_eq_false_iff_not, beq_iff_eq, bne_iff_ne, beq_eq_false_iff_ne, bne_eq_false_iff_eq] at qhg4
    exact Ys.pure (fun _ => by kernel_rfl)
  refine Wl.guard (v := Value.bool (((k.toNat : Nat) : Int) == 8)) (((c.toNat : Nat) : Int) == 0) rfl (wantT rfl (by kernel_rfl)) rfl (fun hg5 => ?_) ?_
  · have qhg5 := hg5; try simp only [Bool.and_eq_true, Bool.or_eq_true, Bool.not_eq_true', Bool.not_eq_false', Bool.and_eq_false_iff, Bool.or_eq_false_iff, decide_eq_true_eq, decide_eq_false_iff_not, beq_iff_eq, bne_iff_ne, beq_eq_false_iff_ne, bne_eq_false_iff_eq] at qhg5
    refine Ys.at (t := 11) (v0 := nV .u8 k.toNat) (lz (g := ((c.toNat : Nat) : Int) == 0) (u := undef) hg5 (by kernel_rfl)) ?_
    exact Ys.pure (fun _ => by kernel_rfl)
  refine Wl.guard (v := Value.bool (((k.toNat : Nat) : Int) == 8)) (((c.toNat : Nat) : Int) == 0) rfl (wantT rfl (by kernel_rfl)) rfl (fun hg6 => ?_) ?_
  · have qhg6 := hg6; try simp only [Bool.and_eq_true, Bool.or_eq_true, Bool.not_eq_true', Bool.not_eq_false', Bool.and_eq_false_iff, Bool.or_eq_false_iff, decide_eq_true_eq, decide_eq_false_iff_not, beq_iff_eq, bne_iff_ne, beq_eq_false_iff_ne, bne_eq_false_iff_eq] at qhg6
    refine Ys.at (t := 12) (v0 := Value.bool (((k.toNat : Nat) : Int) == 8)) (lz (g := ((c.toNat : Nat) : Int) == 0) (u := undef) hg6 (by kernel_rfl)) ?_
    exact Ys.pure (fun _ => by kernel_rfl)
  refine Wl.guard (v := nV .u8 k.toNat) ((((c.toNat : Nat) : Int) == 0) && !(((k.toNat : Nat) : Int) == 8)) rfl (wantFz rfl rfl (by kernel_rfl)) rfl (fun hg7 => ?_) ?_
  · have qhg7 := hg7; try simp only [Bool.and_eq_true, Bool.or_eq_true, Bool.not_eq_true', Bool.not_eq_false', Bool.and_eq_false_iff, Bool.or_eq_false_iff, decide_eq_true_eq, decide_eq_false_iff_not, beq_iff_eq, bne_iff_ne, beq_eq_false_iff_ne, bne_eq_false_iff_eq] at qhg7
    exact Ys.pure (fun _ => by kernel_rfl)
  refine Wl.guard (v := Value.bool (((k.toNat : Nat) : Int) == 0)) ((((c.toNat : Nat) : Int) == 0) && !(((k.toNat : Nat) : Int) == 8)) rfl (wantFz rfl rfl (by kernel_rfl)) rfl (fun hg8 => ?_) ?_
  · have qhg8 := hg8; try simp only [Bool.and_eq_true, Bool.or_eq_true, Bool.not_eq_true', Bool.not_eq_false', Bool.and_eq_false_iff, Bool.or_eq_false_iff, decide_eq_true_eq, decide_eq_false_iff_not, beq_iff_eq, bne_iff_ne, beq_eq_false_iff_ne, bne_eq_false_iff_eq] at qhg8
    refine Ys.at (t := 14) (v0 := nV .u8 k.toNat) (lz (g := (((c.toNat : Nat) : Int) == 0) && !(((k.toNat : Nat) : Int) == 8)) (u := undef) hg8 (by kernel_rfl)) ?_
    exact Ys.pure (fun _ => by kernel_rfl)
  refine Wl.guard (v := Value.bool ((((k.toNat : Nat) : Int) == 8) || (((k.toNat : Nat) : Int) == 0))) (((c.toNat : Nat) : Int) == 0) rfl (wantT rfl (by kernel_rfl)) rfl (fun hg9 => ?_) ?_
  · have qhg9 := hg9; try simp only [Bool.and_eq_true, Bool.or_eq_true, Bool.not_eq_true', Bool.not_eq_false', Bool.and_eq_false_iff, Bool.or_eq_false_iff, decide_eq_true_eq, decide_eq_false_iff_not, beq_iff_eq, bne_iff_ne, beq_eq_false_iff_ne, bne_eq_false_iff_eq] at qhg9
    refine Ys.at (t := 13) (v0 := Value.bool (((k.toNat : Nat) : Int) == 8)) (lz (g := ((c.toNat : Nat) : Int) == 0) (u := undef) hg9 (by kernel_rfl)) ?_
    refine Ys.at (t := 15) (v0 := (bif !(((k.toNat : Nat) : Int) == 8) then Value.bool (((k.toNat : Nat) : Int) == 0) else undef)) (lz2 (g := ((c.toNat : Nat) : Int) == 0) hg9 (by kernel_rfl)) ?_
    exact Ys.or' (e := ((k.toNat : Nat) : Int) == 8) (b := ((k.toNat : Nat) : Int) == 0) rfl (by kernel_rfl) (by kernel_rfl) (by kernel_rfl)
  refine Wl.ys (v := Value.bool ((((c.toNat : Nat) : Int) == 0) && ((((k.toNat : Nat) : Int) == 8) || (((k.toNat : Nat) : Int) == 0)))) rfl rfl (Ys.and (e := ((c.toNat : Nat) : Int) == 0) (b := (((k.toNat : Nat) : Int) == 8) || (((k.toNat : Nat) : Int) == 0)) rfl (by kernel_rfl) (by kernel_rfl) (by kernel_rfl)) ?_
  refine Wl.run 2 (by kernel_rfl) ?_
  refine Wl.nil ?_
  refine hK3 _ _ _ ?_
  refine W.prune' [4, 5] [Value.bool (((k.toNat : Nat) : Int) == 8), Value.bool ((((c.toNat : Nat) : Int) == 0) && ((((k.toNat : Nat) : Int) == 8) || (((k.toNat : Nat) : Int) == 0)))] (by kernel_rfl) (fun f10 => ?_)
  refine W.ret ?_
  show ∀ w_, _ → bodyPostM (fence none) 0 Try.prog Try.f38 _ Exit.ret _ w_
  exact fun w_ hS_ => fin_ret (ret2 rfl (RV.tmp (v := Value.bool (((k.toNat : Nat) : Int) == 8)) (by kernel_rfl)) (RV.tmp (v := Value.bool ((((c.toNat : Nat) : Int) == 0) && ((((k.toNat : Nat) : Int) == 8) || (((k.toNat : Nat) : Int) == 0)))) (by kernel_rfl)) hS_ ⟨rfl, hS_.below⟩)
theorem ids_c (pr : UInt8) (s d fr to : Nat) (id : Nat) (q : Bool) (w : World) : Calls Try.prog 51 #[Value.agg ([Value.int .u8 ((pr.toNat : Nat) : Int), Value.int .u32 ((s : Nat) : Int), Value.int .u32 ((d : Nat) : Int), Value.int .u16 ((fr : Nat) : Int), Value.int .u16 ((to : Nat) : Int)]).toArray, Value.int .u16 ((id : Nat) : Int), Value.bool q] w (Ret w (.agg ([Value.int .u8 ((pr.toNat : Nat) : Int), Value.int .u32 ((s : Nat) : Int), Value.int .u32 ((d : Nat) : Int), Value.int .u16 ((sel q id fr : Nat) : Int), Value.int .u16 ((sel q to id : Nat) : Int)]).toArray)) := by
  refine calls_W (M := []) (LL := []) (n := 13) Try.func51 rfl rfl (by simp) (Mem.refl _) ?_
  refine W.seq (fun K1 hK1 => ?_)
  refine W.region ?_
  refine Wl.ht rfl (Ht.box (v := Value.agg ([nV .u8 pr.toNat, nV .u32 s, nV .u32 d, nV .u16 fr, nV .u16 to]).toArray) (cs := [nV .u8 pr.toNat, nV .u32 s, nV .u32 d, nV .u16 fr, nV .u16 to]) rfl rfl (by kernel_rfl) rfl) (fun p3 => ?_)
  refine Wl.ht rfl (Ht.alloc (z := Value.agg ([Value.int .u8 0, Value.int .u32 0, Value.int .u32 0, Value.int .u16 0, Value.int .u16 0]).toArray) (cs := [Value.int .u8 0, Value.int .u32 0, Value.int .u32 0, Value.int .u16 0, Value.int .u16 0]) rfl rfl Try.zeroValue30 rfl) (fun p6 => ?_)
  refine Wl.nil ?_
  refine hK1 _ _ _ ?_
  refine W.prune' [1, 2, 3, 6] [nV .u16 id, Value.bool q, Value.pointer (some ⟨p3, 0, none⟩), Value.pointer (some ⟨p6, 0, none⟩)] (by kernel_rfl) (fun f2 => ?_)
  refine W.seq (fun K3 hK3 => ?_)
  refine W.seq (fun K4 hK4 => ?_)
  refine W.region ?_
  refine Wl.run 1 (by kernel_rfl) ?_
  refine Wl.nil ?_
  refine hK4 _ _ _ ?_
  refine W.cond (q) (by kernel_rfl) (fun h5 => ?_) (fun h6 => ?_)
  · refine W.region ?_
    refine Wl.run 2 (by kernel_rfl) ?_
    refine Wl.ht rfl (Ht.store (b := p3) (o' := 3) (i := 1) (j := 0) (cs := [nV .u8 pr.toNat, nV .u32 s, nV .u32 d, nV .u16 fr, nV .u16 to]) (cs' := [nV .u8 pr.toNat, nV .u32 s, nV .u32 d, nV .u16 id, nV .u16 to]) (v := nV .u16 id) (LL' := [[cb p6 [Value.int .u8 0, Value.int .u32 0, Value.int .u32 0, Value.int .u16 0, Value.int .u16 0] 30], [cb p3 [nV .u8 pr.toNat, nV .u32 s, nV .u32 d, nV .u16 id, nV .u16 to] 30]]) rfl rfl (by kernel_rfl) (by kernel_rfl) Try.sizeOf22 rfl rfl rfl (by simp) rfl rfl) (fun _ => ?_)
    refine Wl.nil ?_
    refine hK3 _ _ _ ?_
    refine W.prune' [3, 6] [Value.pointer (some ⟨p3, 0, none⟩), Value.pointer (some ⟨p6, 0, none⟩)] (by kernel_rfl) (fun f7 => ?_)
    refine W.seq (fun K8 hK8 => ?_)
    refine W.region ?_
    refine Wl.ys (v := Value.agg ([nV .u8 pr.toNat, nV .u32 s, nV .u32 d, nV .u16 id, nV .u16 to]).toArray) rfl rfl (Ys.loadN (b := p3) (o' := 0) (i := 1) (j := 0) (cs := [nV .u8 pr.toNat, nV .u32 s, nV .u32 d, nV .u16 id, nV .u16 to]) (vs := [nV .u8 pr.toNat, nV .u32 s, nV .u32 d, nV .u16 id, nV .u16 to]) rfl (by kernel_rfl) Try.isAgg30 Try.sizeOf30 rfl rfl rfl rfl) ?_
    refine Wl.ht rfl (Ht.storeN (b := p6) (o' := 0) (i := 0) (j := 0) (cs := [Value.int .u8 0, Value.int .u32 0, Value.int .u32 0, Value.int .u16 0, Value.int .u16 0]) (vs := [nV .u8 pr.toNat, nV .u32 s, nV .u32 d, nV .u16 id, nV .u16 to]) (cs' := [nV .u8 pr.toNat, nV .u32 s, nV .u32 d, nV .u16 id, nV .u16 to]) (LL' := [[cb p6 [nV .u8 pr.toNat, nV .u32 s, nV .u32 d, nV .u16 id, nV .u16 to] 30], [cb p3 [nV .u8 pr.toNat, nV .u32 s, nV .u32 d, nV .u16 id, nV .u16 to] 30]]) rfl rfl (by kernel_rfl) (by kernel_rfl) Try.sizeOf30 (by simp [Value.oneCell']) rfl rfl (by simp) rfl rfl) (fun _ => ?_)
    refine Wl.nil ?_
    refine hK8 _ _ _ ?_
    refine W.pick (LL' := [[cb p6 [nV .u8 pr.toNat, nV .u32 s, nV .u32 d, nV .u16 id, nV .u16 to] 30]]) [0] (by decide) rfl ?_
    refine W.prune' [6] [Value.pointer (some ⟨p6, 0, none⟩)] (by kernel_rfl) (fun f9 => ?_)
    refine W.ret ?_
    show ∀ w_, _ → bodyPostM (fence none) 0 Try.prog Try.f51 _ Exit.ret _ w_
    exact fun w_ hS_ => fin_ret (ret1 rfl (RV.cellN (b := p6) (o' := 0) (i := 0) (j := 0) (cs := [nV .u8 pr.toNat, nV .u32 s, nV .u32 d, nV .u16 id, nV .u16 to]) (vs := [nV .u8 pr.toNat, nV .u32 s, nV .u32 d, nV .u16 id, nV .u16 to]) (by kernel_rfl) Try.isAgg30 Try.sizeOf30 rfl rfl rfl rfl) hS_ ⟨by clear hK1 hK3 hK4 hK8; refine congrArg Ending.returned ?_; rw [h5]; rfl, hS_.below⟩)
  · refine W.region ?_
    refine Wl.run 2 (by kernel_rfl) ?_
    refine Wl.ht rfl (Ht.store (b := p3) (o' := 4) (i := 1) (j := 0) (cs := [nV .u8 pr.toNat, nV .u32 s, nV .u32 d, nV .u16 fr, nV .u16 to]) (cs' := [nV .u8 pr.toNat, nV .u32 s, nV .u32 d, nV .u16 fr, nV .u16 id]) (v := nV .u16 id) (LL' := [[cb p6 [Value.int .u8 0, Value.int .u32 0, Value.int .u32 0, Value.int .u16 0, Value.int .u16 0] 30], [cb p3 [nV .u8 pr.toNat, nV .u32 s, nV .u32 d, nV .u16 fr, nV .u16 id] 30]]) rfl rfl (by kernel_rfl) (by kernel_rfl) Try.sizeOf22 rfl rfl rfl (by simp) rfl rfl) (fun _ => ?_)
    refine Wl.nil ?_
    refine hK3 _ _ _ ?_
    refine W.prune' [3, 6] [Value.pointer (some ⟨p3, 0, none⟩), Value.pointer (some ⟨p6, 0, none⟩)] (by kernel_rfl) (fun f10 => ?_)
    refine W.seq (fun K11 hK11 => ?_)
    refine W.region ?_
    refine Wl.ys (v := Value.agg ([nV .u8 pr.toNat, nV .u32 s, nV .u32 d, nV .u16 fr, nV .u16 id]).toArray) rfl rfl (Ys.loadN (b := p3) (o' := 0) (i := 1) (j := 0) (cs := [nV .u8 pr.toNat, nV .u32 s, nV .u32 d, nV .u16 fr, nV .u16 id]) (vs := [nV .u8 pr.toNat, nV .u32 s, nV .u32 d, nV .u16 fr, nV .u16 id]) rfl (by kernel_rfl) Try.isAgg30 Try.sizeOf30 rfl rfl rfl rfl) ?_
    refine Wl.ht rfl (Ht.storeN (b := p6) (o' := 0) (i := 0) (j := 0) (cs := [Value.int .u8 0, Value.int .u32 0, Value.int .u32 0, Value.int .u16 0, Value.int .u16 0]) (vs := [nV .u8 pr.toNat, nV .u32 s, nV .u32 d, nV .u16 fr, nV .u16 id]) (cs' := [nV .u8 pr.toNat, nV .u32 s, nV .u32 d, nV .u16 fr, nV .u16 id]) (LL' := [[cb p6 [nV .u8 pr.toNat, nV .u32 s, nV .u32 d, nV .u16 fr, nV .u16 id] 30], [cb p3 [nV .u8 pr.toNat, nV .u32 s, nV .u32 d, nV .u16 fr, nV .u16 id] 30]]) rfl rfl (by kernel_rfl) (by kernel_rfl) Try.sizeOf30 (by simp [Value.oneCell']) rfl rfl (by simp) rfl rfl) (fun _ => ?_)
    refine Wl.nil ?_
    refine hK11 _ _ _ ?_
    refine W.pick (LL' := [[cb p6 [nV .u8 pr.toNat, nV .u32 s, nV .u32 d, nV .u16 fr, nV .u16 id] 30]]) [0] (by decide) rfl ?_
    refine W.prune' [6] [Value.pointer (some ⟨p6, 0, none⟩)] (by kernel_rfl) (fun f12 => ?_)
    refine W.ret ?_
    show ∀ w_, _ → bodyPostM (fence none) 0 Try.prog Try.f51 _ Exit.ret _ w_
    exact fun w_ hS_ => fin_ret (ret1 rfl (RV.cellN (b := p6) (o' := 0) (i := 0) (j := 0) (cs := [nV .u8 pr.toNat, nV .u32 s, nV .u32 d, nV .u16 fr, nV .u16 id]) (vs := [nV .u8 pr.toNat, nV .u32 s, nV .u32 d, nV .u16 fr, nV .u16 id]) (by kernel_rfl) Try.isAgg30 Try.sizeOf30 rfl rfl rfl rfl) hS_ ⟨by clear hK1 hK3 hK4 hK11; refine congrArg Ending.returned ?_; rw [h6]; rfl, hS_.below⟩)
theorem turn_c (pr : UInt8) (s d fr to : Nat) (w : World) : Calls Try.prog 13 #[Value.agg ([Value.int .u8 ((pr.toNat : Nat) : Int), Value.int .u32 ((s : Nat) : Int), Value.int .u32 ((d : Nat) : Int), Value.int .u16 ((fr : Nat) : Int), Value.int .u16 ((to : Nat) : Int)]).toArray] w (Ret w (.agg ([Value.int .u8 ((pr.toNat : Nat) : Int), Value.int .u32 ((d : Nat) : Int), Value.int .u32 ((s : Nat) : Int), Value.int .u16 ((to : Nat) : Int), Value.int .u16 ((fr : Nat) : Int)]).toArray)) := by
  refine calls_W (M := []) (LL := []) (n := 16) Try.func13 rfl rfl (by simp) (Mem.refl _) ?_
  refine W.seq (fun K1 hK1 => ?_)
  refine W.region ?_
  refine Wl.ht rfl (Ht.box (v := Value.agg ([nV .u8 pr.toNat, nV .u32 s, nV .u32 d, nV .u16 fr, nV .u16 to]).toArray) (cs := [nV .u8 pr.toNat, nV .u32 s, nV .u32 d, nV .u16 fr, nV .u16 to]) rfl rfl (by kernel_rfl) rfl) (fun p1 => ?_)
  refine Wl.ht rfl (Ht.alloc (z := Value.agg ([Value.int .u8 0, Value.int .u32 0, Value.int .u32 0, Value.int .u16 0, Value.int .u16 0]).toArray) (cs := [Value.int .u8 0, Value.int .u32 0, Value.int .u32 0, Value.int .u16 0, Value.int .u16 0]) rfl rfl Try.zeroValue30 rfl) (fun p2 => ?_)
  refine Wl.nil ?_
  refine hK1 _ _ _ ?_
  refine W.prune' [1, 2] [Value.pointer (some ⟨p1, 0, none⟩), Value.pointer (some ⟨p2, 0, none⟩)] (by kernel_rfl) (fun f2 => ?_)
  refine W.seq (fun K3 hK3 => ?_)
  refine W.region ?_
  refine Wl.run 1 (by kernel_rfl) ?_
  refine Wl.ys (v := nV .u32 d) rfl rfl (Ys.load (b := p1) (o' := 2) (i := 1) (j := 0) (cs := [nV .u8 pr.toNat, nV .u32 s, nV .u32 d, nV .u16 fr, nV .u16 to]) (v := nV .u32 d) rfl (by kernel_rfl) Try.isAgg24 rfl rfl rfl) ?_
  refine Wl.run 1 (by kernel_rfl) ?_
  refine Wl.ys (v := nV .u32 s) rfl rfl (Ys.load (b := p1) (o' := 1) (i := 1) (j := 0) (cs := [nV .u8 pr.toNat, nV .u32 s, nV .u32 d, nV .u16 fr, nV .u16 to]) (v := nV .u32 s) rfl (by kernel_rfl) Try.isAgg24 rfl rfl rfl) ?_
  refine Wl.run 1 (by kernel_rfl) ?_
  refine Wl.ys (v := nV .u16 to) rfl rfl (Ys.load (b := p1) (o' := 4) (i := 1) (j := 0) (cs := [nV .u8 pr.toNat, nV .u32 s, nV .u32 d, nV .u16 fr, nV .u16 to]) (v := nV .u16 to) rfl (by kernel_rfl) Try.isAgg22 rfl rfl rfl) ?_
  refine Wl.run 1 (by kernel_rfl) ?_
  refine Wl.ys (v := nV .u16 fr) rfl rfl (Ys.load (b := p1) (o' := 3) (i := 1) (j := 0) (cs := [nV .u8 pr.toNat, nV .u32 s, nV .u32 d, nV .u16 fr, nV .u16 to]) (v := nV .u16 fr) rfl (by kernel_rfl) Try.isAgg22 rfl rfl rfl) ?_
  refine Wl.run 1 (by kernel_rfl) ?_
  refine Wl.ht rfl (Ht.store (b := p1) (o' := 1) (i := 1) (j := 0) (cs := [nV .u8 pr.toNat, nV .u32 s, nV .u32 d, nV .u16 fr, nV .u16 to]) (cs' := [nV .u8 pr.toNat, nV .u32 d, nV .u32 d, nV .u16 fr, nV .u16 to]) (v := nV .u32 d) (LL' := [[cb p2 [Value.int .u8 0, Value.int .u32 0, Value.int .u32 0, Value.int .u16 0, Value.int .u16 0] 30], [cb p1 [nV .u8 pr.toNat, nV .u32 d, nV .u32 d, nV .u16 fr, nV .u16 to] 30]]) rfl rfl (by kernel_rfl) (by kernel_rfl) Try.sizeOf24 rfl rfl rfl (by simp) rfl rfl) (fun _ => ?_)
  refine Wl.run 1 (by kernel_rfl) ?_
  refine Wl.ht rfl (Ht.store (b := p1) (o' := 2) (i := 1) (j := 0) (cs := [nV .u8 pr.toNat, nV .u32 d, nV .u32 d, nV .u16 fr, nV .u16 to]) (cs' := [nV .u8 pr.toNat, nV .u32 d, nV .u32 s, nV .u16 fr, nV .u16 to]) (v := nV .u32 s) (LL' := [[cb p2 [Value.int .u8 0, Value.int .u32 0, Value.int .u32 0, Value.int .u16 0, Value.int .u16 0] 30], [cb p1 [nV .u8 pr.toNat, nV .u32 d, nV .u32 s, nV .u16 fr, nV .u16 to] 30]]) rfl rfl (by kernel_rfl) (by kernel_rfl) Try.sizeOf24 rfl rfl rfl (by simp) rfl rfl) (fun _ => ?_)
  refine Wl.run 1 (by kernel_rfl) ?_
  refine Wl.ht rfl (Ht.store (b := p1) (o' := 3) (i := 1) (j := 0) (cs := [nV .u8 pr.toNat, nV .u32 d, nV .u32 s, nV .u16 fr, nV .u16 to]) (cs' := [nV .u8 pr.toNat, nV .u32 d, nV .u32 s, nV .u16 to, nV .u16 to]) (v := nV .u16 to) (LL' := [[cb p2 [Value.int .u8 0, Value.int .u32 0, Value.int .u32 0, Value.int .u16 0, Value.int .u16 0] 30], [cb p1 [nV .u8 pr.toNat, nV .u32 d, nV .u32 s, nV .u16 to, nV .u16 to] 30]]) rfl rfl (by kernel_rfl) (by kernel_rfl) Try.sizeOf22 rfl rfl rfl (by simp) rfl rfl) (fun _ => ?_)
  refine Wl.run 1 (by kernel_rfl) ?_
  refine Wl.ht rfl (Ht.store (b := p1) (o' := 4) (i := 1) (j := 0) (cs := [nV .u8 pr.toNat, nV .u32 d, nV .u32 s, nV .u16 to, nV .u16 to]) (cs' := [nV .u8 pr.toNat, nV .u32 d, nV .u32 s, nV .u16 to, nV .u16 fr]) (v := nV .u16 fr) (LL' := [[cb p2 [Value.int .u8 0, Value.int .u32 0, Value.int .u32 0, Value.int .u16 0, Value.int .u16 0] 30], [cb p1 [nV .u8 pr.toNat, nV .u32 d, nV .u32 s, nV .u16 to, nV .u16 fr] 30]]) rfl rfl (by kernel_rfl) (by kernel_rfl) Try.sizeOf22 rfl rfl rfl (by simp) rfl rfl) (fun _ => ?_)
  refine Wl.nil ?_
  refine hK3 _ _ _ ?_
  refine W.prune' [1, 2] [Value.pointer (some ⟨p1, 0, none⟩), Value.pointer (some ⟨p2, 0, none⟩)] (by kernel_rfl) (fun f4 => ?_)
  refine W.seq (fun K5 hK5 => ?_)
  refine W.region ?_
  refine Wl.ys (v := Value.agg ([nV .u8 pr.toNat, nV .u32 d, nV .u32 s, nV .u16 to, nV .u16 fr]).toArray) rfl rfl (Ys.loadN (b := p1) (o' := 0) (i := 1) (j := 0) (cs := [nV .u8 pr.toNat, nV .u32 d, nV .u32 s, nV .u16 to, nV .u16 fr]) (vs := [nV .u8 pr.toNat, nV .u32 d, nV .u32 s, nV .u16 to, nV .u16 fr]) rfl (by kernel_rfl) Try.isAgg30 Try.sizeOf30 rfl rfl rfl rfl) ?_
  refine Wl.ht rfl (Ht.storeN (b := p2) (o' := 0) (i := 0) (j := 0) (cs := [Value.int .u8 0, Value.int .u32 0, Value.int .u32 0, Value.int .u16 0, Value.int .u16 0]) (vs := [nV .u8 pr.toNat, nV .u32 d, nV .u32 s, nV .u16 to, nV .u16 fr]) (cs' := [nV .u8 pr.toNat, nV .u32 d, nV .u32 s, nV .u16 to, nV .u16 fr]) (LL' := [[cb p2 [nV .u8 pr.toNat, nV .u32 d, nV .u32 s, nV .u16 to, nV .u16 fr] 30], [cb p1 [nV .u8 pr.toNat, nV .u32 d, nV .u32 s, nV .u16 to, nV .u16 fr] 30]]) rfl rfl (by kernel_rfl) (by kernel_rfl) Try.sizeOf30 (by simp [Value.oneCell']) rfl rfl (by simp) rfl rfl) (fun _ => ?_)
  refine Wl.nil ?_
  refine hK5 _ _ _ ?_
  refine W.pick (LL' := [[cb p2 [nV .u8 pr.toNat, nV .u32 d, nV .u32 s, nV .u16 to, nV .u16 fr] 30]]) [0] (by decide) rfl ?_
  refine W.prune' [2] [Value.pointer (some ⟨p2, 0, none⟩)] (by kernel_rfl) (fun f6 => ?_)
  refine W.ret ?_
  show ∀ w_, _ → bodyPostM (fence none) 0 Try.prog Try.f13 _ Exit.ret _ w_
  exact fun w_ hS_ => fin_ret (ret1 rfl (RV.cellN (b := p2) (o' := 0) (i := 0) (j := 0) (cs := [nV .u8 pr.toNat, nV .u32 d, nV .u32 s, nV .u16 to, nV .u16 fr]) (vs := [nV .u8 pr.toNat, nV .u32 d, nV .u32 s, nV .u16 to, nV .u16 fr]) (by kernel_rfl) Try.isAgg30 Try.sizeOf30 rfl rfl rfl rfl) hS_ ⟨rfl, hS_.below⟩)
def inC (xs : List UInt8) : Bool := ((decide (((xs.length : Nat) : Int) < 28)) || ((((xs.getD 0 0).toNat : Nat) : Int) != 69)) || ((((w2 xs 6) % 8192 : Nat) : Int) != 0)
def i9 (xs : List UInt8) (k : Int) : Bool := (((xs.getD 9 0).toNat : Nat) : Int) == k
def inP (xs : List UInt8) : UInt8 := bif inC xs then 0 else xs.getD 9 0
def inA (xs : List UInt8) (k : Nat) : Nat := bif inC xs then 0 else a4 xs k
def inF (xs : List UInt8) : Nat := bif inC xs then 0 else bif i9 xs 6 then w2 xs 20 else bif i9 xs 17 then w2 xs 20 else bif i9 xs 1 then sel (ecA (xs.getD 20 0)) (w2 xs 24) 0 else 0
def inT (xs : List UInt8) : Nat := bif inC xs then 0 else bif i9 xs 6 then w2 xs 22 else bif i9 xs 17 then w2 xs 22 else bif i9 xs 1 then sel (ecA (xs.getD 20 0)) 0 (w2 xs 24) else 0
def inO (xs : List UInt8) : Bool := bif inC xs then false else bif i9 xs 6 then true else bif i9 xs 17 then true else bif i9 xs 1 then ecO (xs.getD 20 0) (xs.getD 21 0) else false
theorem sel_lt {b : Bool} {x y n : Nat} (hx : x < n) (hy : y < n) : sel b x y < n := by unfold sel; cases b <;> assumption
theorem inA_lt (xs : List UInt8) (k : Nat) : inA xs k < 4294967296 := by unfold inA; cases inC xs; exact a4_lt xs k; show (0 : Nat) < _; decide
theorem inF_lt (xs : List UInt8) : inF xs < 65536 := by
  unfold inF; have := w2_lt xs 20; have := w2_lt xs 24
  cases inC xs <;> cases i9 xs 6 <;> cases i9 xs 17 <;> cases i9 xs 1 <;> simp only [cond_true, cond_false] <;> first | omega | exact sel_lt (by omega) (by omega)
theorem inT_lt (xs : List UInt8) : inT xs < 65536 := by
  unfold inT; have := w2_lt xs 22; have := w2_lt xs 24
  cases inC xs <;> cases i9 xs 6 <;> cases i9 xs 17 <;> cases i9 xs 1 <;> simp only [cond_true, cond_false] <;> first | omega | exact sel_lt (by omega) (by omega)
theorem inner_c (xs : List UInt8) (a : Option Addr) (cap : Nat) (w : World) (hat : At w a (byc xs)) (hl : xs.length ≤ 1000000) (hlc : xs.length ≤ cap) : Calls Try.prog 52 #[Value.slice a xs.length cap] w (Ret w (.tuple #[.agg ([Value.int .u8 (((inP xs).toNat : Nat) : Int), Value.int .u32 ((inA xs 12 : Nat) : Int), Value.int .u32 ((inA xs 16 : Nat) : Int), Value.int .u16 ((inF xs : Nat) : Int), Value.int .u16 ((inT xs : Nat) : Int)]).toArray, .bool (inO xs)])) := by
  have hw20 := w2_lt xs 20; have hw22 := w2_lt xs 22; have hw24 := w2_lt xs 24; have ha12 := a4_lt xs 12; have ha16 := a4_lt xs 16; have hw6 := w2_lt xs 6
  refine calls_W (M := []) (LL := []) (n := 61) Try.func52 rfl rfl (by simp) (Mem.refl _) ?_
  refine W.seq (fun K1 hK1 => ?_)
  refine W.region ?_
  refine Wl.ht rfl (Ht.alloc (z := Value.agg ([Value.int .u8 0, Value.int .u32 0, Value.int .u32 0, Value.int .u16 0, Value.int .u16 0]).toArray) (cs := [Value.int .u8 0, Value.int .u32 0, Value.int .u32 0, Value.int .u16 0, Value.int .u16 0]) rfl rfl Try.zeroValue30 rfl) (fun p2 => ?_)
  refine Wl.run 1 (by kernel_rfl) ?_
  refine Wl.nil ?_
  refine hK1 _ _ _ ?_
  refine W.prune' [0, 2] [Value.slice a xs.length cap, Value.pointer (some ⟨p2, 0, none⟩)] (by kernel_rfl) (fun f2 => ?_)
  refine W.seq (fun K3 hK3 => ?_)
  refine W.seq (fun K4 hK4 => ?_)
  refine W.region ?_
  refine Wl.run 4 (by kernel_rfl) ?_
  refine Wl.guard (v := Value.slice a xs.length cap) (!(decide (((xs.length : Nat) : Int) < 28))) rfl (wantF rfl (by kernel_rfl)) rfl (fun hg5 => ?_) ?_
  · have qhg5 := hg5; try simp only [Bool.and_eq_true, Bool.or_eq_true, Bool.not_eq_true', Bool.not_eq_false', Bool.and_eq_false_iff, Bool.or_eq_false_iff, decide_eq_true_eq, decide_eq_false_iff_not, beq_iff_eq, bne_iff_ne, beq_eq_false_iff_ne, bne_eq_false_iff_eq] at qhg5
    exact Ys.pure (fun _ => by kernel_rfl)
  refine Wl.guard (v := Value.pointer (some (ela a 0))) (!(decide (((xs.length : Nat) : Int) < 28))) rfl (wantF rfl (by kernel_rfl)) rfl (fun hg6 => ?_) ?_
  · have qhg6 := hg6; try simp only [Bool.and_eq_true, Bool.or_eq_true, Bool.not_eq_true', Bool.not_eq_false', Bool.and_eq_false_iff, Bool.or_eq_false_iff, decide_eq_true_eq, decide_eq_false_iff_not, beq_iff_eq, bne_iff_ne, beq_eq_false_iff_ne, bne_eq_false_iff_eq] at qhg6
    refine Ys.at (t := 10) (v0 := Value.slice a xs.length cap) (lz (g := !(decide (((xs.length : Nat) : Int) < 28))) (u := undef) hg6 (by kernel_rfl)) ?_
    exact Ys.byMem fun w_ h_ => Ys.indexAddr (k := .i64) (a := a) (len := xs.length) (cap := cap) (i := 0) (sz := 1) rfl (by kernel_rfl) (by kernel_rfl) Try.runUnderlying25 Try.sizeOf5 (by omega) (by omega) ((hat.mem0 h_).here (by rw [mc_len]; first | omega | (simp; omega)))
  refine Wl.guard (v := nV .u8 ((xs.getD 0 0).toNat)) (!(decide (((xs.length : Nat) : Int) < 28))) rfl (wantF rfl (by kernel_rfl)) rfl (fun hg7 => ?_) ?_
  · have qhg7 := hg7; try simp only [Bool.and_eq_true, Bool.or_eq_true, Bool.not_eq_true', Bool.not_eq_false', Bool.and_eq_false_iff, Bool.or_eq_false_iff, decide_eq_true_eq, decide_eq_false_iff_not, beq_iff_eq, bne_iff_ne, beq_eq_false_iff_ne, bne_eq_false_iff_eq] at qhg7
    refine Ys.at (t := 11) (v0 := Value.pointer (some (ela a 0))) (lz (g := !(decide (((xs.length : Nat) : Int) < 28))) (u := undef) hg7 (by kernel_rfl)) ?_
    exact Ys.ld (a := ela a 0) rfl (by kernel_rfl) Try.isAgg5 (fun w_ h_ => (hat.mem0 h_).ld (mc_get 0 (by first | omega | (simp; omega))))
  refine Wl.guard (v := Value.bool ((((xs.getD 0 0).toNat : Nat) : Int) != 69)) (!(decide (((xs.length : Nat) : Int) < 28))) rfl (wantF rfl (by kernel_rfl)) rfl (fun hg8 => ?_) ?_
  · have qhg8 := hg8; try simp only [Bool.and_eq_true, Bool.or_eq_true, Bool.not_eq_true', Bool.not_eq_false', Bool.and_eq_false_iff, Bool.or_eq_false_iff, decide_eq_true_eq, decide_eq_false_iff_not, beq_iff_eq, bne_iff_ne, beq_eq_false_iff_ne, bne_eq_false_iff_eq] at qhg8
    refine Ys.at (t := 12) (v0 := nV .u8 ((xs.getD 0 0).toNat)) (lz (g := !(decide (((xs.length : Nat) : Int) < 28))) (u := undef) hg8 (by kernel_rfl)) ?_
    exact Ys.pure (fun _ => by kernel_rfl)
  refine Wl.ys (v := Value.bool ((decide (((xs.length : Nat) : Int) < 28)) || ((((xs.getD 0 0).toNat : Nat) : Int) != 69))) rfl rfl (Ys.or' (e := decide (((xs.length : Nat) : Int) < 28)) (b := (((xs.getD 0 0).toNat : Nat) : Int) != 69) rfl (by kernel_rfl) (by kernel_rfl) (by kernel_rfl)) ?_
  refine Wl.run 1 (by kernel_rfl) ?_
  refine Wl.guard (v := Value.slice a xs.length cap) (!((decide (((xs.length : Nat) : Int) < 28)) || ((((xs.getD 0 0).toNat : Nat) : Int) != 69))) rfl (wantF rfl (by kernel_rfl)) rfl (fun hg9 => ?_) ?_
  · have qhg9 := hg9; try simp only [Bool.and_eq_true, Bool.or_eq_true, Bool.not_eq_true', Bool.not_eq_false', Bool.and_eq_false_iff, Bool.or_eq_false_iff, decide_eq_true_eq, decide_eq_false_iff_not, beq_iff_eq, bne_iff_ne, beq_eq_false_iff_ne, bne_eq_false_iff_eq] at qhg9
    exact Ys.pure (fun _ => by kernel_rfl)
  refine Wl.guardc (v := nV .u16 (w2 xs 6)) (!((decide (((xs.length : Nat) : Int) < 28)) || ((((xs.getD 0 0).toNat : Nat) : Int) != 69))) rfl (wantF rfl (by kernel_rfl)) rfl (fun hg10 => ?_) ?_
  · have qhg10 := hg10; try simp only [Bool.and_eq_true, Bool.or_eq_true, Bool.not_eq_true', Bool.not_eq_false', Bool.and_eq_false_iff, Bool.or_eq_false_iff, decide_eq_true_eq, decide_eq_false_iff_not, beq_iff_eq, bne_iff_ne, beq_eq_false_iff_ne, bne_eq_false_iff_eq] at qhg10
    refine Yc.at (t := 16) (v0 := Value.slice a xs.length cap) (lz (g := !((decide (((xs.length : Nat) : Int) < 28)) || ((((xs.getD 0 0).toNat : Nat) : Int) != 69))) (u := undef) hg10 (by kernel_rfl)) ?_
    exact Yc.call (k := 71) (args := #[Value.slice a xs.length cap, Value.int .i64 6]) (fun _ => by kernel_rfl) (fun w_ hm_ => (wordn_c xs a cap 6 xs.length _ (by first | rfl | (rw [List.length_take]; omega) | (simp; done) | (simp [be_len, be_len, psh_len]; omega)) (hat.mem0 hm_) (by omega) (by omega) (by first | omega | (simp; omega))))
  refine Wl.guard (v := nV .u16 ((w2 xs 6) % 8192)) (!((decide (((xs.length : Nat) : Int) < 28)) || ((((xs.getD 0 0).toNat : Nat) : Int) != 69))) rfl (wantF rfl (by kernel_rfl)) rfl (fun hg11 => ?_) ?_
  · have qhg11 := hg11; try simp only [Bool.and_eq_true, Bool.or_eq_true, Bool.not_eq_true', Bool.not_eq_false', Bool.and_eq_false_iff, Bool.or_eq_false_iff, decide_eq_true_eq, decide_eq_false_iff_not, beq_iff_eq, bne_iff_ne, beq_eq_false_iff_ne, bne_eq_false_iff_eq] at qhg11
    refine Ys.at (t := 17) (v0 := nV .u16 (w2 xs 6)) (lz (g := !((decide (((xs.length : Nat) : Int) < 28)) || ((((xs.getD 0 0).toNat : Nat) : Int) != 69))) (u := undef) hg11 (by kernel_rfl)) ?_
    exact (Ys.pure (v := .int .u16 (band .u16 ((w2 xs 6 : Nat) : Int) ((8191 : Nat) : Int))) (fun _ => by kernel_rfl)).conseq (int_congr (band_mask rfl (a := w2 xs 6) (c := 13) (by show _ < 65536; omega) (by decide) 8191 rfl))
  refine Wl.guard (v := Value.bool ((((w2 xs 6) % 8192 : Nat) : Int) != 0)) (!((decide (((xs.length : Nat) : Int) < 28)) || ((((xs.getD 0 0).toNat : Nat) : Int) != 69))) rfl (wantF rfl (by kernel_rfl)) rfl (fun hg12 => ?_) ?_
  · have qhg12 := hg12; try simp only [Bool.and_eq_true, Bool.or_eq_true, Bool.not_eq_true', Bool.not_eq_false', Bool.and_eq_false_iff, Bool.or_eq_false_iff, decide_eq_true_eq, decide_eq_false_iff_not, beq_iff_eq, bne_iff_ne, beq_eq_false_iff_ne, bne_eq_false_iff_eq] at qhg12
    refine Ys.at (t := 18) (v0 := nV .u16 ((w2 xs 6) % 8192)) (lz (g := !((decide (((xs.length : Nat) : Int) < 28)) || ((((xs.getD 0 0).toNat : Nat) : Int) != 69))) (u := undef) hg12 (by kernel_rfl)) ?_
    exact Ys.pure (fun _ => by kernel_rfl)
  refine Wl.ys (v := Value.bool (((decide (((xs.length : Nat) : Int) < 28)) || ((((xs.getD 0 0).toNat : Nat) : Int) != 69)) || ((((w2 xs 6) % 8192 : Nat) : Int) != 0))) rfl rfl (Ys.or' (e := (decide (((xs.length : Nat) : Int) < 28)) || ((((xs.getD 0 0).toNat : Nat) : Int) != 69)) (b := (((w2 xs 6) % 8192 : Nat) : Int) != 0) rfl (by kernel_rfl) (by kernel_rfl) (by kernel_rfl)) ?_
  refine Wl.nil ?_
  refine hK4 _ _ _ ?_
  refine W.prune' [0, 2, 20] [Value.slice a xs.length cap, Value.pointer (some ⟨p2, 0, none⟩), Value.bool (((decide (((xs.length : Nat) : Int) < 28)) || ((((xs.getD 0 0).toNat : Nat) : Int) != 69)) || ((((w2 xs 6) % 8192 : Nat) : Int) != 0))] (by kernel_rfl) (fun f13 => ?_)
  refine W.cond (((decide (((xs.length : Nat) : Int) < 28)) || ((((xs.getD 0 0).toNat : Nat) : Int) != 69)) || ((((w2 xs 6) % 8192 : Nat) : Int) != 0)) (by kernel_rfl) (fun h14 => ?_) (fun h15 => ?_)
  · have qh14 := h14; try simp only [Bool.and_eq_true, Bool.or_eq_true, Bool.not_eq_true', Bool.not_eq_false', Bool.and_eq_false_iff, Bool.or_eq_false_iff, decide_eq_true_eq, decide_eq_false_iff_not, beq_iff_eq, bne_iff_ne, beq_eq_false_iff_ne, bne_eq_false_iff_eq] at qh14
    refine W.seq (fun K16 hK16 => ?_)
    refine W.region ?_
    refine Wl.ys (v := Value.agg ([Value.int .u8 0, Value.int .u32 0, Value.int .u32 0, Value.int .u16 0, Value.int .u16 0]).toArray) rfl rfl (Ys.loadN (b := p2) (o' := 0) (i := 0) (j := 0) (cs := [Value.int .u8 0, Value.int .u32 0, Value.int .u32 0, Value.int .u16 0, Value.int .u16 0]) (vs := [Value.int .u8 0, Value.int .u32 0, Value.int .u32 0, Value.int .u16 0, Value.int .u16 0]) rfl (by kernel_rfl) Try.isAgg30 Try.sizeOf30 rfl rfl rfl rfl) ?_
    refine Wl.ht rfl (Ht.storeN (b := p2) (o' := 0) (i := 0) (j := 0) (cs := [Value.int .u8 0, Value.int .u32 0, Value.int .u32 0, Value.int .u16 0, Value.int .u16 0]) (vs := [Value.int .u8 0, Value.int .u32 0, Value.int .u32 0, Value.int .u16 0, Value.int .u16 0]) (cs' := [Value.int .u8 0, Value.int .u32 0, Value.int .u32 0, Value.int .u16 0, Value.int .u16 0]) (LL' := [[cb p2 [Value.int .u8 0, Value.int .u32 0, Value.int .u32 0, Value.int .u16 0, Value.int .u16 0] 30]]) rfl rfl (by kernel_rfl) (by kernel_rfl) Try.sizeOf30 (by simp [Value.oneCell']) rfl rfl (by simp) rfl rfl) (fun _ => ?_)
    refine Wl.run 1 (by kernel_rfl) ?_
    refine Wl.nil ?_
    refine hK16 _ _ _ ?_
    refine W.prune' [2, 3] [Value.pointer (some ⟨p2, 0, none⟩), Value.bool false] (by kernel_rfl) (fun f17 => ?_)
    refine W.ret ?_
    have hC_ : inC xs = true := h14
    show ∀ w_, _ → bodyPostM (fence none) 0 Try.prog Try.f52 _ Exit.ret _ w_
    exact fun w_ hS_ => fin_ret (ret2 rfl (RV.cellN (b := p2) (o' := 0) (i := 0) (j := 0) (cs := [Value.int .u8 0, Value.int .u32 0, Value.int .u32 0, Value.int .u16 0, Value.int .u16 0]) (vs := [Value.int .u8 0, Value.int .u32 0, Value.int .u32 0, Value.int .u16 0, Value.int .u16 0]) (by kernel_rfl) Try.isAgg30 Try.sizeOf30 rfl rfl rfl rfl) (RV.tmp (v := Value.bool false) (by kernel_rfl)) hS_ ⟨by clear hK1 hK3 hK4 hK16; refine congrArg Ending.returned ?_; simp only [inP, inA, inF, inT, inO, hC_, cond_true, cond_false]; try rfl, hS_.below⟩)
  · have qh15 := h15; try simp only [Bool.and_eq_true, Bool.or_eq_true, Bool.not_eq_true', Bool.not_eq_false', Bool.and_eq_false_iff, Bool.or_eq_false_iff, decide_eq_true_eq, decide_eq_false_iff_not, beq_iff_eq, bne_iff_ne, beq_eq_false_iff_ne, bne_eq_false_iff_eq] at qh15
    refine W.skip' ?_
    refine hK3 _ _ _ ?_
    refine W.prune' [0, 2] [Value.slice a xs.length cap, Value.pointer (some ⟨p2, 0, none⟩)] (by kernel_rfl) (fun f18 => ?_)
    refine W.seq (fun K19 hK19 => ?_)
    refine W.draws [(0, true), (1, true), (2, true), (3, true), (5, true), (4, false), (6, false), (7, false), (8, false)] [0, 1, 2, 3, 5] (Mem w [] [[cb p2 [Value.int .u8 0, Value.int .u32 0, Value.int .u32 0, Value.int .u16 0, Value.int .u16 0] 30]]) (by kernel_rfl) (by kernel_rfl) (by kernel_rfl) rfl (by kernel_rfl) (fun _ _ h_ => h_.drawn _) (fun _ h_ => h_) ?_
    refine Wd.run 1 (by kernel_rfl) ?_
    refine Wd.ys (v := Value.pointer (some (ela a 9))) rfl rfl rfl (Ys.byMem fun w_ h_ => Ys.indexAddr (k := .i64) (a := a) (len := xs.length) (cap := cap) (i := 9) (sz := 1) rfl (by kernel_rfl) (by kernel_rfl) Try.runUnderlying25 Try.sizeOf5 (by omega) (by omega) ((hat.mem0 h_).here (by rw [mc_len]; first | omega | (simp; omega)))) ?_
    refine Wd.ys (v := nV .u8 ((xs.getD 9 0).toNat)) rfl rfl rfl (Ys.ld (a := ela a 9) rfl (by kernel_rfl) Try.isAgg5 (fun w_ h_ => (hat.mem0 h_).ld (mc_get 0 (by first | omega | (simp; omega))))) ?_
    have hb20 : (xs.getD 9 0).toNat < 256 := UInt8.toNat_lt _
    refine Wd.run 2 (by kernel_rfl) ?_
    refine Wd.yc (v := nV .u32 (a4 xs 12)) rfl rfl rfl (Yc.call (k := 76) (args := #[Value.slice a xs.length cap, Value.int .i64 12]) (fun _ => by kernel_rfl) (fun w_ hm_ => (addrn_c xs a cap 12 xs.length _ (by first | rfl | (rw [List.length_take]; omega) | (simp; done) | (simp [be_len, be_len, psh_len]; omega)) (hat.mem0 hm_) (by omega) (by omega) (by first | omega | (simp; omega))))) (.inr fun _ h_ => h_) ?_
    refine Wd.yc (v := nV .u32 (a4 xs 16)) rfl rfl rfl (Yc.call (k := 76) (args := #[Value.slice a xs.length cap, Value.int .i64 16]) (fun _ => by kernel_rfl) (fun w_ hm_ => (addrn_c xs a cap 16 xs.length _ (by first | rfl | (rw [List.length_take]; omega) | (simp; done) | (simp [be_len, be_len, psh_len]; omega)) (hat.mem0 hm_) (by omega) (by omega) (by first | omega | (simp; omega))))) (.inr fun _ h_ => h_) ?_
    refine Wd.yc (v := Value.agg ([nV .u8 ((xs.getD 9 0).toNat), nV .u32 (a4 xs 12), nV .u32 (a4 xs 16), Value.int .u16 0, Value.int .u16 0]).toArray) rfl rfl rfl (Ys.yc (Ys.pure (fun _ => by kernel_rfl))) (.inr fun _ h_ => h_) ?_
    refine Wd.ht rfl rfl (Ht.storeN (b := p2) (o' := 0) (i := 0) (j := 0) (cs := [Value.int .u8 0, Value.int .u32 0, Value.int .u32 0, Value.int .u16 0, Value.int .u16 0]) (vs := [nV .u8 ((xs.getD 9 0).toNat), nV .u32 (a4 xs 12), nV .u32 (a4 xs 16), Value.int .u16 0, Value.int .u16 0]) (cs' := [nV .u8 ((xs.getD 9 0).toNat), nV .u32 (a4 xs 12), nV .u32 (a4 xs 16), Value.int .u16 0, Value.int .u16 0]) (LL' := [[cb p2 [nV .u8 ((xs.getD 9 0).toNat), nV .u32 (a4 xs 12), nV .u32 (a4 xs 16), Value.int .u16 0, Value.int .u16 0] 30]]) rfl rfl (by kernel_rfl) (by kernel_rfl) Try.sizeOf30 (by simp [Value.oneCell']) rfl rfl (by simp) rfl rfl) (.inl (by kernel_rfl)) (fun _ => ?_)
    refine Wd.nil ?_
    refine hK19 _ _ _ ?_
    refine W.prune' [0, 2] [Value.slice a xs.length cap, Value.pointer (some ⟨p2, 0, none⟩)] (by kernel_rfl) (fun f21 => ?_)
    refine W.seq (fun K22 hK22 => ?_)
    refine W.seq (fun K23 hK23 => ?_)
    refine W.region ?_
    refine Wl.run 1 (by kernel_rfl) ?_
    refine Wl.ys (v := nV .u8 ((xs.getD 9 0).toNat)) rfl rfl (Ys.load (b := p2) (o' := 0) (i := 0) (j := 0) (cs := [nV .u8 ((xs.getD 9 0).toNat), nV .u32 (a4 xs 12), nV .u32 (a4 xs 16), Value.int .u16 0, Value.int .u16 0]) (v := nV .u8 ((xs.getD 9 0).toNat)) rfl (by kernel_rfl) Try.isAgg5 rfl rfl rfl) ?_
    refine Wl.nil ?_
    refine hK23 _ _ _ ?_
    refine W.prune' [0, 2, 31] [Value.slice a xs.length cap, Value.pointer (some ⟨p2, 0, none⟩), nV .u8 ((xs.getD 9 0).toNat)] (by kernel_rfl) (fun f24 => ?_)
    refine W.block ?_
    refine W.seq (fun K25 hK25 => ?_)
    refine W.seq (fun K26 hK26 => ?_)
    refine W.region ?_
    refine Wl.run 2 (by kernel_rfl) ?_
    refine Wl.nil ?_
    refine hK26 _ _ _ ?_
    refine W.prune' [0, 2, 31, 32] [Value.slice a xs.length cap, Value.pointer (some ⟨p2, 0, none⟩), nV .u8 ((xs.getD 9 0).toNat), Value.bool ((((xs.getD 9 0).toNat : Nat) : Int) == 6)] (by kernel_rfl) (fun f27 => ?_)
    refine W.cond ((((xs.getD 9 0).toNat : Nat) : Int) == 6) (by kernel_rfl) (fun h28 => ?_) (fun h29 => ?_)
    · have qh28 := h28; try simp only [Bool.and_eq_true, Bool.or_eq_true, Bool.not_eq_true', Bool.not_eq_false', Bool.and_eq_false_iff, Bool.or_eq_false_iff, decide_eq_true_eq, decide_eq_false_iff_not, beq_iff_eq, bne_iff_ne, beq_eq_false_iff_ne, bne_eq_false_iff_eq] at qh28
      refine W.skip' ?_
      refine hK25 _ _ _ ?_
      refine W.prune' [0, 2, 31, 32] [Value.slice a xs.length cap, Value.pointer (some ⟨p2, 0, none⟩), nV .u8 ((xs.getD 9 0).toNat), Value.bool ((((xs.getD 9 0).toNat : Nat) : Int) == 6)] (by kernel_rfl) (fun f30 => ?_)
      refine W.cond ((((xs.getD 9 0).toNat : Nat) : Int) == 6) (by kernel_rfl) (fun h31 => ?_) (fun h32 => ?_)
      · have qh31 := h31; try simp only [Bool.and_eq_true, Bool.or_eq_true, Bool.not_eq_true', Bool.not_eq_false', Bool.and_eq_false_iff, Bool.or_eq_false_iff, decide_eq_true_eq, decide_eq_false_iff_not, beq_iff_eq, bne_iff_ne, beq_eq_false_iff_ne, bne_eq_false_iff_eq] at qh31
        refine W.seq (fun K33 hK33 => ?_)
        refine W.region ?_
        refine Wl.run 1 (by kernel_rfl) ?_
        refine Wl.yc (v := nV .u16 (w2 xs 20)) rfl rfl (Yc.call (k := 71) (args := #[Value.slice a xs.length cap, Value.int .i64 20]) (fun _ => by kernel_rfl) (fun w_ hm_ => (wordn_c xs a cap 20 xs.length _ (by first | rfl | (rw [List.length_take]; omega) | (simp; done) | (simp [be_len, be_len, psh_len]; omega)) (hat.mem0 hm_) (by omega) (by omega) (by first | omega | (simp; omega))))) ?_
        refine Wl.run 1 (by kernel_rfl) ?_
        refine Wl.yc (v := nV .u16 (w2 xs 22)) rfl rfl (Yc.call (k := 71) (args := #[Value.slice a xs.length cap, Value.int .i64 22]) (fun _ => by kernel_rfl) (fun w_ hm_ => (wordn_c xs a cap 22 xs.length _ (by first | rfl | (rw [List.length_take]; omega) | (simp; done) | (simp [be_len, be_len, psh_len]; omega)) (hat.mem0 hm_) (by omega) (by omega) (by first | omega | (simp; omega))))) ?_
        refine Wl.run 1 (by kernel_rfl) ?_
        refine Wl.ht rfl (Ht.store (b := p2) (o' := 3) (i := 0) (j := 0) (cs := [nV .u8 ((xs.getD 9 0).toNat), nV .u32 (a4 xs 12), nV .u32 (a4 xs 16), Value.int .u16 0, Value.int .u16 0]) (cs' := [nV .u8 ((xs.getD 9 0).toNat), nV .u32 (a4 xs 12), nV .u32 (a4 xs 16), nV .u16 (w2 xs 20), Value.int .u16 0]) (v := nV .u16 (w2 xs 20)) (LL' := [[cb p2 [nV .u8 ((xs.getD 9 0).toNat), nV .u32 (a4 xs 12), nV .u32 (a4 xs 16), nV .u16 (w2 xs 20), Value.int .u16 0] 30]]) rfl rfl (by kernel_rfl) (by kernel_rfl) Try.sizeOf22 rfl rfl rfl (by simp) rfl rfl) (fun _ => ?_)
        refine Wl.run 1 (by kernel_rfl) ?_
        refine Wl.ht rfl (Ht.store (b := p2) (o' := 4) (i := 0) (j := 0) (cs := [nV .u8 ((xs.getD 9 0).toNat), nV .u32 (a4 xs 12), nV .u32 (a4 xs 16), nV .u16 (w2 xs 20), Value.int .u16 0]) (cs' := [nV .u8 ((xs.getD 9 0).toNat), nV .u32 (a4 xs 12), nV .u32 (a4 xs 16), nV .u16 (w2 xs 20), nV .u16 (w2 xs 22)]) (v := nV .u16 (w2 xs 22)) (LL' := [[cb p2 [nV .u8 ((xs.getD 9 0).toNat), nV .u32 (a4 xs 12), nV .u32 (a4 xs 16), nV .u16 (w2 xs 20), nV .u16 (w2 xs 22)] 30]]) rfl rfl (by kernel_rfl) (by kernel_rfl) Try.sizeOf22 rfl rfl rfl (by simp) rfl rfl) (fun _ => ?_)
        refine Wl.nil ?_
        refine hK33 _ _ _ ?_
        refine W.prune' [2] [Value.pointer (some ⟨p2, 0, none⟩)] (by kernel_rfl) (fun f34 => ?_)
        refine W.seq (fun K35 hK35 => ?_)
        refine W.region ?_
        refine Wl.ys (v := Value.agg ([nV .u8 ((xs.getD 9 0).toNat), nV .u32 (a4 xs 12), nV .u32 (a4 xs 16), nV .u16 (w2 xs 20), nV .u16 (w2 xs 22)]).toArray) rfl rfl (Ys.loadN (b := p2) (o' := 0) (i := 0) (j := 0) (cs := [nV .u8 ((xs.getD 9 0).toNat), nV .u32 (a4 xs 12), nV .u32 (a4 xs 16), nV .u16 (w2 xs 20), nV .u16 (w2 xs 22)]) (vs := [nV .u8 ((xs.getD 9 0).toNat), nV .u32 (a4 xs 12), nV .u32 (a4 xs 16), nV .u16 (w2 xs 20), nV .u16 (w2 xs 22)]) rfl (by kernel_rfl) Try.isAgg30 Try.sizeOf30 rfl rfl rfl rfl) ?_
        refine Wl.ht rfl (Ht.storeN (b := p2) (o' := 0) (i := 0) (j := 0) (cs := [nV .u8 ((xs.getD 9 0).toNat), nV .u32 (a4 xs 12), nV .u32 (a4 xs 16), nV .u16 (w2 xs 20), nV .u16 (w2 xs 22)]) (vs := [nV .u8 ((xs.getD 9 0).toNat), nV .u32 (a4 xs 12), nV .u32 (a4 xs 16), nV .u16 (w2 xs 20), nV .u16 (w2 xs 22)]) (cs' := [nV .u8 ((xs.getD 9 0).toNat), nV .u32 (a4 xs 12), nV .u32 (a4 xs 16), nV .u16 (w2 xs 20), nV .u16 (w2 xs 22)]) (LL' := [[cb p2 [nV .u8 ((xs.getD 9 0).toNat), nV .u32 (a4 xs 12), nV .u32 (a4 xs 16), nV .u16 (w2 xs 20), nV .u16 (w2 xs 22)] 30]]) rfl rfl (by kernel_rfl) (by kernel_rfl) Try.sizeOf30 (by simp [Value.oneCell']) rfl rfl (by simp) rfl rfl) (fun _ => ?_)
        refine Wl.run 1 (by kernel_rfl) ?_
        refine Wl.nil ?_
        refine hK35 _ _ _ ?_
        refine W.prune' [2, 3] [Value.pointer (some ⟨p2, 0, none⟩), Value.bool true] (by kernel_rfl) (fun f36 => ?_)
        refine W.ret ?_
        have hC_ : inC xs = false := h15
        have h9_6 : i9 xs 6 = true := h31
        show ∀ w_, _ → bodyPostM (fence none) 0 Try.prog Try.f52 _ Exit.ret _ w_
        exact fun w_ hS_ => fin_ret (ret2 rfl (RV.cellN (b := p2) (o' := 0) (i := 0) (j := 0) (cs := [nV .u8 ((xs.getD 9 0).toNat), nV .u32 (a4 xs 12), nV .u32 (a4 xs 16), nV .u16 (w2 xs 20), nV .u16 (w2 xs 22)]) (vs := [nV .u8 ((xs.getD 9 0).toNat), nV .u32 (a4 xs 12), nV .u32 (a4 xs 16), nV .u16 (w2 xs 20), nV .u16 (w2 xs 22)]) (by kernel_rfl) Try.isAgg30 Try.sizeOf30 rfl rfl rfl rfl) (RV.tmp (v := Value.bool true) (by kernel_rfl)) hS_ ⟨by clear hK1 hK3 hK4 hK19 hK22 hK23 hK25 hK26 hK33 hK35; refine congrArg Ending.returned ?_; simp only [inP, inA, inF, inT, inO, hC_, h9_6, cond_true, cond_false]; try rfl, hS_.below⟩)
      · have qh32 := h32; try simp only [Bool.and_eq_true, Bool.or_eq_true, Bool.not_eq_true', Bool.not_eq_false', Bool.and_eq_false_iff, Bool.or_eq_false_iff, decide_eq_true_eq, decide_eq_false_iff_not, beq_iff_eq, bne_iff_ne, beq_eq_false_iff_ne, bne_eq_false_iff_eq] at qh32
        exact absurd (h28.symm.trans h32) (by decide)
    · have qh29 := h29; try simp only [Bool.and_eq_true, Bool.or_eq_true, Bool.not_eq_true', Bool.not_eq_false', Bool.and_eq_false_iff, Bool.or_eq_false_iff, decide_eq_true_eq, decide_eq_false_iff_not, beq_iff_eq, bne_iff_ne, beq_eq_false_iff_ne, bne_eq_false_iff_eq] at qh29
      refine W.region ?_
      refine Wl.run 2 (by kernel_rfl) ?_
      refine Wl.nil ?_
      refine hK25 _ _ _ ?_
      refine W.prune' [0, 2, 31, 32] [Value.slice a xs.length cap, Value.pointer (some ⟨p2, 0, none⟩), nV .u8 ((xs.getD 9 0).toNat), Value.bool ((((xs.getD 9 0).toNat : Nat) : Int) == 17)] (by kernel_rfl) (fun f37 => ?_)
      refine W.cond ((((xs.getD 9 0).toNat : Nat) : Int) == 17) (by kernel_rfl) (fun h38 => ?_) (fun h39 => ?_)
      · have qh38 := h38; try simp only [Bool.and_eq_true, Bool.or_eq_true, Bool.not_eq_true', Bool.not_eq_false', Bool.and_eq_false_iff, Bool.or_eq_false_iff, decide_eq_true_eq, decide_eq_false_iff_not, beq_iff_eq, bne_iff_ne, beq_eq_false_iff_ne, bne_eq_false_iff_eq] at qh38
        refine W.seq (fun K40 hK40 => ?_)
        refine W.region ?_
        refine Wl.run 1 (by kernel_rfl) ?_
        refine Wl.yc (v := nV .u16 (w2 xs 20)) rfl rfl (Yc.call (k := 71) (args := #[Value.slice a xs.length cap, Value.int .i64 20]) (fun _ => by kernel_rfl) (fun w_ hm_ => (wordn_c xs a cap 20 xs.length _ (by first | rfl | (rw [List.length_take]; omega) | (simp; done) | (simp [be_len, be_len, psh_len]; omega)) (hat.mem0 hm_) (by omega) (by omega) (by first | omega | (simp; omega))))) ?_
        refine Wl.run 1 (by kernel_rfl) ?_
        refine Wl.yc (v := nV .u16 (w2 xs 22)) rfl rfl (Yc.call (k := 71) (args := #[Value.slice a xs.length cap, Value.int .i64 22]) (fun _ => by kernel_rfl) (fun w_ hm_ => (wordn_c xs a cap 22 xs.length _ (by first | rfl | (rw [List.length_take]; omega) | (simp; done) | (simp [be_len, be_len, psh_len]; omega)) (hat.mem0 hm_) (by omega) (by omega) (by first | omega | (simp; omega))))) ?_
        refine Wl.run 1 (by kernel_rfl) ?_
        refine Wl.ht rfl (Ht.store (b := p2) (o' := 3) (i := 0) (j := 0) (cs := [nV .u8 ((xs.getD 9 0).toNat), nV .u32 (a4 xs 12), nV .u32 (a4 xs 16), Value.int .u16 0, Value.int .u16 0]) (cs' := [nV .u8 ((xs.getD 9 0).toNat), nV .u32 (a4 xs 12), nV .u32 (a4 xs 16), nV .u16 (w2 xs 20), Value.int .u16 0]) (v := nV .u16 (w2 xs 20)) (LL' := [[cb p2 [nV .u8 ((xs.getD 9 0).toNat), nV .u32 (a4 xs 12), nV .u32 (a4 xs 16), nV .u16 (w2 xs 20), Value.int .u16 0] 30]]) rfl rfl (by kernel_rfl) (by kernel_rfl) Try.sizeOf22 rfl rfl rfl (by simp) rfl rfl) (fun _ => ?_)
        refine Wl.run 1 (by kernel_rfl) ?_
        refine Wl.ht rfl (Ht.store (b := p2) (o' := 4) (i := 0) (j := 0) (cs := [nV .u8 ((xs.getD 9 0).toNat), nV .u32 (a4 xs 12), nV .u32 (a4 xs 16), nV .u16 (w2 xs 20), Value.int .u16 0]) (cs' := [nV .u8 ((xs.getD 9 0).toNat), nV .u32 (a4 xs 12), nV .u32 (a4 xs 16), nV .u16 (w2 xs 20), nV .u16 (w2 xs 22)]) (v := nV .u16 (w2 xs 22)) (LL' := [[cb p2 [nV .u8 ((xs.getD 9 0).toNat), nV .u32 (a4 xs 12), nV .u32 (a4 xs 16), nV .u16 (w2 xs 20), nV .u16 (w2 xs 22)] 30]]) rfl rfl (by kernel_rfl) (by kernel_rfl) Try.sizeOf22 rfl rfl rfl (by simp) rfl rfl) (fun _ => ?_)
        refine Wl.nil ?_
        refine hK40 _ _ _ ?_
        refine W.prune' [2] [Value.pointer (some ⟨p2, 0, none⟩)] (by kernel_rfl) (fun f41 => ?_)
        refine W.seq (fun K42 hK42 => ?_)
        refine W.region ?_
        refine Wl.ys (v := Value.agg ([nV .u8 ((xs.getD 9 0).toNat), nV .u32 (a4 xs 12), nV .u32 (a4 xs 16), nV .u16 (w2 xs 20), nV .u16 (w2 xs 22)]).toArray) rfl rfl (Ys.loadN (b := p2) (o' := 0) (i := 0) (j := 0) (cs := [nV .u8 ((xs.getD 9 0).toNat), nV .u32 (a4 xs 12), nV .u32 (a4 xs 16), nV .u16 (w2 xs 20), nV .u16 (w2 xs 22)]) (vs := [nV .u8 ((xs.getD 9 0).toNat), nV .u32 (a4 xs 12), nV .u32 (a4 xs 16), nV .u16 (w2 xs 20), nV .u16 (w2 xs 22)]) rfl (by kernel_rfl) Try.isAgg30 Try.sizeOf30 rfl rfl rfl rfl) ?_
        refine Wl.ht rfl (Ht.storeN (b := p2) (o' := 0) (i := 0) (j := 0) (cs := [nV .u8 ((xs.getD 9 0).toNat), nV .u32 (a4 xs 12), nV .u32 (a4 xs 16), nV .u16 (w2 xs 20), nV .u16 (w2 xs 22)]) (vs := [nV .u8 ((xs.getD 9 0).toNat), nV .u32 (a4 xs 12), nV .u32 (a4 xs 16), nV .u16 (w2 xs 20), nV .u16 (w2 xs 22)]) (cs' := [nV .u8 ((xs.getD 9 0).toNat), nV .u32 (a4 xs 12), nV .u32 (a4 xs 16), nV .u16 (w2 xs 20), nV .u16 (w2 xs 22)]) (LL' := [[cb p2 [nV .u8 ((xs.getD 9 0).toNat), nV .u32 (a4 xs 12), nV .u32 (a4 xs 16), nV .u16 (w2 xs 20), nV .u16 (w2 xs 22)] 30]]) rfl rfl (by kernel_rfl) (by kernel_rfl) Try.sizeOf30 (by simp [Value.oneCell']) rfl rfl (by simp) rfl rfl) (fun _ => ?_)
        refine Wl.run 1 (by kernel_rfl) ?_
        refine Wl.nil ?_
        refine hK42 _ _ _ ?_
        refine W.prune' [2, 3] [Value.pointer (some ⟨p2, 0, none⟩), Value.bool true] (by kernel_rfl) (fun f43 => ?_)
        refine W.ret ?_
        have hC_ : inC xs = false := h15
        have h9_6 : i9 xs 6 = false := h29
        have h9_17 : i9 xs 17 = true := h38
        show ∀ w_, _ → bodyPostM (fence none) 0 Try.prog Try.f52 _ Exit.ret _ w_
        exact fun w_ hS_ => fin_ret (ret2 rfl (RV.cellN (b := p2) (o' := 0) (i := 0) (j := 0) (cs := [nV .u8 ((xs.getD 9 0).toNat), nV .u32 (a4 xs 12), nV .u32 (a4 xs 16), nV .u16 (w2 xs 20), nV .u16 (w2 xs 22)]) (vs := [nV .u8 ((xs.getD 9 0).toNat), nV .u32 (a4 xs 12), nV .u32 (a4 xs 16), nV .u16 (w2 xs 20), nV .u16 (w2 xs 22)]) (by kernel_rfl) Try.isAgg30 Try.sizeOf30 rfl rfl rfl rfl) (RV.tmp (v := Value.bool true) (by kernel_rfl)) hS_ ⟨by clear hK1 hK3 hK4 hK19 hK22 hK23 hK25 hK26 hK40 hK42; refine congrArg Ending.returned ?_; simp only [inP, inA, inF, inT, inO, hC_, h9_6, h9_17, cond_true, cond_false]; try rfl, hS_.below⟩)
      · have qh39 := h39; try simp only [Bool.and_eq_true, Bool.or_eq_true, Bool.not_eq_true', Bool.not_eq_false', Bool.and_eq_false_iff, Bool.or_eq_false_iff, decide_eq_true_eq, decide_eq_false_iff_not, beq_iff_eq, bne_iff_ne, beq_eq_false_iff_ne, bne_eq_false_iff_eq] at qh39
        refine W.seq (fun K44 hK44 => ?_)
        refine W.region ?_
        refine Wl.run 2 (by kernel_rfl) ?_
        refine Wl.nil ?_
        refine hK44 _ _ _ ?_
        refine W.prune' [0, 2, 42] [Value.slice a xs.length cap, Value.pointer (some ⟨p2, 0, none⟩), Value.bool ((((xs.getD 9 0).toNat : Nat) : Int) == 1)] (by kernel_rfl) (fun f45 => ?_)
        refine W.cond ((((xs.getD 9 0).toNat : Nat) : Int) == 1) (by kernel_rfl) (fun h46 => ?_) (fun h47 => ?_)
        · have qh46 := h46; try simp only [Bool.and_eq_true, Bool.or_eq_true, Bool.not_eq_true', Bool.not_eq_false', Bool.and_eq_false_iff, Bool.or_eq_false_iff, decide_eq_true_eq, decide_eq_false_iff_not, beq_iff_eq, bne_iff_ne, beq_eq_false_iff_ne, bne_eq_false_iff_eq] at qh46
          refine W.seq (fun K48 hK48 => ?_)
          refine W.draws [(0, true), (1, true), (2, true), (3, false), (4, false), (5, false), (6, false), (7, false), (8, true), (9, true), (10, false), (11, false)] [0, 1, 2, 8, 9] (Mem w [] [[cb p2 [nV .u8 ((xs.getD 9 0).toNat), nV .u32 (a4 xs 12), nV .u32 (a4 xs 16), Value.int .u16 0, Value.int .u16 0] 30]]) (by kernel_rfl) (by kernel_rfl) (by kernel_rfl) rfl (by kernel_rfl) (fun _ _ h_ => h_.drawn _) (fun _ h_ => h_) ?_
          refine Wd.run 1 (by kernel_rfl) ?_
          refine Wd.ys (v := Value.pointer (some (ela a 20))) rfl rfl rfl (Ys.byMem fun w_ h_ => Ys.indexAddr (k := .i64) (a := a) (len := xs.length) (cap := cap) (i := 20) (sz := 1) rfl (by kernel_rfl) (by kernel_rfl) Try.runUnderlying25 Try.sizeOf5 (by omega) (by omega) ((hat.mem0 h_).here (by rw [mc_len]; first | omega | (simp; omega)))) ?_
          refine Wd.ys (v := nV .u8 ((xs.getD 20 0).toNat)) rfl rfl rfl (Ys.ld (a := ela a 20) rfl (by kernel_rfl) Try.isAgg5 (fun w_ h_ => (hat.mem0 h_).ld (mc_get 0 (by first | omega | (simp; omega))))) ?_
          have hb49 : (xs.getD 20 0).toNat < 256 := UInt8.toNat_lt _
          refine Wd.yc (v := Value.slice a xs.length cap) rfl rfl rfl (Ys.yc (Ys.pure (fun _ => by kernel_rfl))) (.inr fun _ h_ => h_) ?_
          refine Wd.yc (v := Value.pointer (some (ela a 21))) rfl rfl rfl (Ys.yc (Ys.byMem fun w_ h_ => Ys.indexAddr (k := .i64) (a := a) (len := xs.length) (cap := cap) (i := 21) (sz := 1) rfl (by kernel_rfl) (by kernel_rfl) Try.runUnderlying25 Try.sizeOf5 (by omega) (by omega) ((hat.mem0 h_).here (by rw [mc_len]; first | omega | (simp; omega))))) (.inr fun _ h_ => h_) ?_
          refine Wd.yc (v := nV .u8 ((xs.getD 21 0).toNat)) rfl rfl rfl (Ys.yc (Ys.ld (a := ela a 21) rfl (by kernel_rfl) Try.isAgg5 (fun w_ h_ => (hat.mem0 h_).ld (mc_get 0 (by first | omega | (simp; omega)))))) (.inr fun _ h_ => h_) ?_
          have hb50 : (xs.getD 21 0).toNat < 256 := UInt8.toNat_lt _
          refine Wd.yc (v := Value.tuple #[Value.bool (ecA (xs.getD 20 0)), Value.bool (ecO (xs.getD 20 0) (xs.getD 21 0))]) rfl rfl rfl (Yc.call (k := 38) (args := #[nV .u8 ((xs.getD 20 0).toNat), nV .u8 ((xs.getD 21 0).toNat)]) (fun _ => by kernel_rfl) (fun w_ hm_ => (echo_c (xs.getD 20 0) (xs.getD 21 0) _))) (.inr fun _ h_ => h_) ?_
          refine Wd.yc (v := Value.tuple #[Value.bool (ecA (xs.getD 20 0)), Value.bool (ecO (xs.getD 20 0) (xs.getD 21 0))]) rfl rfl rfl (Ys.yc (Ys.pure (fun _ => by kernel_rfl))) (.inr fun _ h_ => h_) ?_
          refine Wd.run 2 (by kernel_rfl) ?_
          refine Wd.yc (v := Value.bool (ecA (xs.getD 20 0))) rfl rfl rfl (Ys.yc (Ys.pure (fun _ => by kernel_rfl))) (.inr fun _ h_ => h_) ?_
          refine Wd.yc (v := Value.bool (ecO (xs.getD 20 0) (xs.getD 21 0))) rfl rfl rfl (Ys.yc (Ys.pure (fun _ => by kernel_rfl))) (.inl (by kernel_rfl)) ?_
          refine Wd.nil ?_
          refine hK48 _ _ _ ?_
          refine W.prune' [0, 2, 4, 5] [Value.slice a xs.length cap, Value.pointer (some ⟨p2, 0, none⟩), Value.bool (ecA (xs.getD 20 0)), Value.bool (ecO (xs.getD 20 0) (xs.getD 21 0))] (by kernel_rfl) (fun f51 => ?_)
          refine W.seq (fun K52 hK52 => ?_)
          refine W.drawsA [1, 3, 5, 7] (Mem w [] []) (by kernel_rfl) (by kernel_rfl) (fun _ _ h_ => h_.drawn _) ?_
          refine Wa.lets (w0 := w) (M := []) [2, 54, 56, 57, 59] (fun (z58 : Unit) => [Value.pointer (some ⟨p2, 0, none⟩), Value.agg ([nV .u8 ((xs.getD 9 0).toNat), nV .u32 (a4 xs 12), nV .u32 (a4 xs 16), Value.int .u16 0, Value.int .u16 0]).toArray, nV .u16 (w2 xs 24), Value.bool (ecA (xs.getD 20 0)), Value.bool (ecO (xs.getD 20 0) (xs.getD 21 0))]) (fun (z58 : Unit) => True) (fun (z58 : Unit) => [[cb p2 [nV .u8 ((xs.getD 9 0).toNat), nV .u32 (a4 xs 12), nV .u32 (a4 xs 16), Value.int .u16 0, Value.int .u16 0] 30]]) 3 #[true, true, true, true, false, true, false, false] (fun z58 hp59 f60 => ?_) (fun JD55 => ?_)
          · refine Wa.only (i := 4) (by kernel_rfl) ?_
            refine Wo.yc (v := Value.agg ([nV .u8 ((xs.getD 9 0).toNat), nV .u32 (a4 xs 12), nV .u32 (a4 xs 16), nV .u16 (sel (ecA (xs.getD 20 0)) (w2 xs 24) 0), nV .u16 (sel (ecA (xs.getD 20 0)) 0 (w2 xs 24))]).toArray) rfl rfl rfl (Yc.call (k := 51) (args := #[Value.agg ([nV .u8 ((xs.getD 9 0).toNat), nV .u32 (a4 xs 12), nV .u32 (a4 xs 16), Value.int .u16 0, Value.int .u16 0]).toArray, nV .u16 (w2 xs 24), Value.bool (ecA (xs.getD 20 0))]) (fun _ => by kernel_rfl) (fun w_ hm_ => (ids_c (xs.getD 9 0) (a4 xs 12) (a4 xs 16) 0 0 (w2 xs 24) (ecA (xs.getD 20 0)) _))) (.inr fun _ h_ => h_.pick [] (by decide) rfl) ?_
            refine Wa.only (i := 6) (by kernel_rfl) ?_
            refine Wo.ht rfl rfl (Ht.storeN (b := p2) (o' := 0) (i := 0) (j := 0) (cs := [nV .u8 ((xs.getD 9 0).toNat), nV .u32 (a4 xs 12), nV .u32 (a4 xs 16), Value.int .u16 0, Value.int .u16 0]) (vs := [nV .u8 ((xs.getD 9 0).toNat), nV .u32 (a4 xs 12), nV .u32 (a4 xs 16), nV .u16 (sel (ecA (xs.getD 20 0)) (w2 xs 24) 0), nV .u16 (sel (ecA (xs.getD 20 0)) 0 (w2 xs 24))]) (cs' := [nV .u8 ((xs.getD 9 0).toNat), nV .u32 (a4 xs 12), nV .u32 (a4 xs 16), nV .u16 (sel (ecA (xs.getD 20 0)) (w2 xs 24) 0), nV .u16 (sel (ecA (xs.getD 20 0)) 0 (w2 xs 24))]) (LL' := [[cb p2 [nV .u8 ((xs.getD 9 0).toNat), nV .u32 (a4 xs 12), nV .u32 (a4 xs 16), nV .u16 (sel (ecA (xs.getD 20 0)) (w2 xs 24) 0), nV .u16 (sel (ecA (xs.getD 20 0)) 0 (w2 xs 24))] 30]]) rfl rfl (by kernel_rfl) (by kernel_rfl) Try.sizeOf30 (by simp [Value.oneCell']) rfl rfl (by simp) rfl rfl) (.inr fun _ _ h_ => h_.pick [] (by decide) rfl) (fun _ => ?_)
            refine Wa.ys (v := Value.bool (ecO (xs.getD 20 0) (xs.getD 21 0))) (i := 7) (by kernel_rfl) (by kernel_rfl) (by kernel_rfl) (by kernel_rfl) (fun _ h_ => h_.pick [] (by decide) rfl) rfl rfl rfl (Ys.pure (fun _ => by kernel_rfl)) ?_
            refine Wa.nil (by kernel_rfl) ?_
            refine hK52 _ _ _ ?_
            refine W.prune' [2, 3] [Value.pointer (some ⟨p2, 0, none⟩), Value.bool (ecO (xs.getD 20 0) (xs.getD 21 0))] (by kernel_rfl) (fun f61 => ?_)
            refine W.ret ?_
            have hC_ : inC xs = false := h15
            have h9_6 : i9 xs 6 = false := h29
            have h9_17 : i9 xs 17 = false := h39
            have h9_1 : i9 xs 1 = true := h46
            show ∀ w_, _ → bodyPostM (fence none) 0 Try.prog Try.f52 _ Exit.ret _ w_
            exact fun w_ hS_ => fin_ret (ret2 rfl (RV.cellN (b := p2) (o' := 0) (i := 0) (j := 0) (cs := [nV .u8 ((xs.getD 9 0).toNat), nV .u32 (a4 xs 12), nV .u32 (a4 xs 16), nV .u16 (sel (ecA (xs.getD 20 0)) (w2 xs 24) 0), nV .u16 (sel (ecA (xs.getD 20 0)) 0 (w2 xs 24))]) (vs := [nV .u8 ((xs.getD 9 0).toNat), nV .u32 (a4 xs 12), nV .u32 (a4 xs 16), nV .u16 (sel (ecA (xs.getD 20 0)) (w2 xs 24) 0), nV .u16 (sel (ecA (xs.getD 20 0)) 0 (w2 xs 24))]) (by kernel_rfl) Try.isAgg30 Try.sizeOf30 rfl rfl rfl rfl) (RV.tmp (v := Value.bool (ecO (xs.getD 20 0) (xs.getD 21 0))) (by kernel_rfl)) hS_ ⟨by clear hK1 hK3 hK4 hK19 hK22 hK23 hK25 hK26 hK44 hK48 hK52; refine congrArg Ending.returned ?_; simp only [inP, inA, inF, inT, inO, hC_, h9_6, h9_17, h9_1, cond_true, cond_false]; try rfl, hS_.below⟩)
          · refine Wa.ys (v := Value.slice a xs.length cap) (i := 1) (by kernel_rfl) (by kernel_rfl) (by kernel_rfl) (by kernel_rfl) (fun _ h_ => h_.pick [] (by decide) rfl) rfl rfl rfl (Ys.pure (fun _ => by kernel_rfl)) ?_
            refine Wa.ys (v := Value.bool (ecA (xs.getD 20 0))) (i := 3) (by kernel_rfl) (by kernel_rfl) (by kernel_rfl) (by kernel_rfl) (fun _ h_ => h_.pick [] (by decide) rfl) rfl rfl rfl (Ys.pure (fun _ => by kernel_rfl)) ?_
            refine Wa.ys (v := Value.bool (ecO (xs.getD 20 0) (xs.getD 21 0))) (i := 5) (by kernel_rfl) (by kernel_rfl) (by kernel_rfl) (by kernel_rfl) (fun _ h_ => h_.pick [] (by decide) rfl) rfl rfl rfl (Ys.pure (fun _ => by kernel_rfl)) ?_
            refine Wa.alt2 (i := 0) (j := 2) (by kernel_rfl) ?_ ?_
            · refine Wo.yc (v := Value.agg ([nV .u8 ((xs.getD 9 0).toNat), nV .u32 (a4 xs 12), nV .u32 (a4 xs 16), Value.int .u16 0, Value.int .u16 0]).toArray) rfl rfl rfl (Ys.yc (Ys.loadN (b := p2) (o' := 0) (i := 0) (j := 0) (cs := [nV .u8 ((xs.getD 9 0).toNat), nV .u32 (a4 xs 12), nV .u32 (a4 xs 16), Value.int .u16 0, Value.int .u16 0]) (vs := [nV .u8 ((xs.getD 9 0).toNat), nV .u32 (a4 xs 12), nV .u32 (a4 xs 16), Value.int .u16 0, Value.int .u16 0]) rfl (by kernel_rfl) Try.isAgg30 Try.sizeOf30 rfl rfl rfl rfl)) (.inr fun _ h_ => h_.pick [] (by decide) rfl) ?_
              refine Wa.only (i := 2) (by kernel_rfl) ?_
              refine Wo.yc (v := nV .u16 (w2 xs 24)) rfl rfl rfl (Yc.call (k := 71) (args := #[Value.slice a xs.length cap, Value.int .i64 24]) (fun _ => by kernel_rfl) (fun w_ hm_ => (wordn_c xs a cap 24 xs.length _ (by first | rfl | (rw [List.length_take]; omega) | (simp; done) | (simp [be_len, be_len, psh_len]; omega)) (hat.mem0 hm_) (by omega) (by omega) (by first | omega | (simp; omega))))) (.inr fun _ h_ => h_.pick [] (by decide) rfl) ?_
              exact Wa.join [2, 54, 56, 57, 59] [Value.pointer (some ⟨p2, 0, none⟩), Value.agg ([nV .u8 ((xs.getD 9 0).toNat), nV .u32 (a4 xs 12), nV .u32 (a4 xs 16), Value.int .u16 0, Value.int .u16 0]).toArray, nV .u16 (w2 xs 24), Value.bool (ecA (xs.getD 20 0)), Value.bool (ecO (xs.getD 20 0) (xs.getD 21 0))] #[true, true, true, true, false, true, false, false] (JD55 () trivial) (by kernel_rfl) (by kernel_rfl) (fun _ h_ => h_)
            · refine Wo.yc (v := nV .u16 (w2 xs 24)) rfl rfl rfl (Yc.call (k := 71) (args := #[Value.slice a xs.length cap, Value.int .i64 24]) (fun _ => by kernel_rfl) (fun w_ hm_ => (wordn_c xs a cap 24 xs.length _ (by first | rfl | (rw [List.length_take]; omega) | (simp; done) | (simp [be_len, be_len, psh_len]; omega)) (hat.mem0 hm_) (by omega) (by omega) (by first | omega | (simp; omega))))) (.inr fun _ h_ => h_.pick [] (by decide) rfl) ?_
              refine Wa.only (i := 0) (by kernel_rfl) ?_
              refine Wo.yc (v := Value.agg ([nV .u8 ((xs.getD 9 0).toNat), nV .u32 (a4 xs 12), nV .u32 (a4 xs 16), Value.int .u16 0, Value.int .u16 0]).toArray) rfl rfl rfl (Ys.yc (Ys.loadN (b := p2) (o' := 0) (i := 0) (j := 0) (cs := [nV .u8 ((xs.getD 9 0).toNat), nV .u32 (a4 xs 12), nV .u32 (a4 xs 16), Value.int .u16 0, Value.int .u16 0]) (vs := [nV .u8 ((xs.getD 9 0).toNat), nV .u32 (a4 xs 12), nV .u32 (a4 xs 16), Value.int .u16 0, Value.int .u16 0]) rfl (by kernel_rfl) Try.isAgg30 Try.sizeOf30 rfl rfl rfl rfl)) (.inr fun _ h_ => h_.pick [] (by decide) rfl) ?_
              exact Wa.join [2, 54, 56, 57, 59] [Value.pointer (some ⟨p2, 0, none⟩), Value.agg ([nV .u8 ((xs.getD 9 0).toNat), nV .u32 (a4 xs 12), nV .u32 (a4 xs 16), Value.int .u16 0, Value.int .u16 0]).toArray, nV .u16 (w2 xs 24), Value.bool (ecA (xs.getD 20 0)), Value.bool (ecO (xs.getD 20 0) (xs.getD 21 0))] #[true, true, true, true, false, true, false, false] (JD55 () trivial) (by kernel_rfl) (by kernel_rfl) (fun _ h_ => h_)
        · have qh47 := h47; try simp only [Bool.and_eq_true, Bool.or_eq_true, Bool.not_eq_true', Bool.not_eq_false', Bool.and_eq_false_iff, Bool.or_eq_false_iff, decide_eq_true_eq, decide_eq_false_iff_not, beq_iff_eq, bne_iff_ne, beq_eq_false_iff_ne, bne_eq_false_iff_eq] at qh47
          refine W.skip' ?_
          refine hK22 _ _ _ ?_
          refine W.prune' [2] [Value.pointer (some ⟨p2, 0, none⟩)] (by kernel_rfl) (fun f62 => ?_)
          refine W.seq (fun K63 hK63 => ?_)
          refine W.region ?_
          refine Wl.ys (v := Value.agg ([nV .u8 ((xs.getD 9 0).toNat), nV .u32 (a4 xs 12), nV .u32 (a4 xs 16), Value.int .u16 0, Value.int .u16 0]).toArray) rfl rfl (Ys.loadN (b := p2) (o' := 0) (i := 0) (j := 0) (cs := [nV .u8 ((xs.getD 9 0).toNat), nV .u32 (a4 xs 12), nV .u32 (a4 xs 16), Value.int .u16 0, Value.int .u16 0]) (vs := [nV .u8 ((xs.getD 9 0).toNat), nV .u32 (a4 xs 12), nV .u32 (a4 xs 16), Value.int .u16 0, Value.int .u16 0]) rfl (by kernel_rfl) Try.isAgg30 Try.sizeOf30 rfl rfl rfl rfl) ?_
          refine Wl.ht rfl (Ht.storeN (b := p2) (o' := 0) (i := 0) (j := 0) (cs := [nV .u8 ((xs.getD 9 0).toNat), nV .u32 (a4 xs 12), nV .u32 (a4 xs 16), Value.int .u16 0, Value.int .u16 0]) (vs := [nV .u8 ((xs.getD 9 0).toNat), nV .u32 (a4 xs 12), nV .u32 (a4 xs 16), Value.int .u16 0, Value.int .u16 0]) (cs' := [nV .u8 ((xs.getD 9 0).toNat), nV .u32 (a4 xs 12), nV .u32 (a4 xs 16), Value.int .u16 0, Value.int .u16 0]) (LL' := [[cb p2 [nV .u8 ((xs.getD 9 0).toNat), nV .u32 (a4 xs 12), nV .u32 (a4 xs 16), Value.int .u16 0, Value.int .u16 0] 30]]) rfl rfl (by kernel_rfl) (by kernel_rfl) Try.sizeOf30 (by simp [Value.oneCell']) rfl rfl (by simp) rfl rfl) (fun _ => ?_)
          refine Wl.run 1 (by kernel_rfl) ?_
          refine Wl.nil ?_
          refine hK63 _ _ _ ?_
          refine W.prune' [2, 3] [Value.pointer (some ⟨p2, 0, none⟩), Value.bool false] (by kernel_rfl) (fun f64 => ?_)
          refine W.ret ?_
          have hC_ : inC xs = false := h15
          have h9_6 : i9 xs 6 = false := h29
          have h9_17 : i9 xs 17 = false := h39
          have h9_1 : i9 xs 1 = false := h47
          show ∀ w_, _ → bodyPostM (fence none) 0 Try.prog Try.f52 _ Exit.ret _ w_
          exact fun w_ hS_ => fin_ret (ret2 rfl (RV.cellN (b := p2) (o' := 0) (i := 0) (j := 0) (cs := [nV .u8 ((xs.getD 9 0).toNat), nV .u32 (a4 xs 12), nV .u32 (a4 xs 16), Value.int .u16 0, Value.int .u16 0]) (vs := [nV .u8 ((xs.getD 9 0).toNat), nV .u32 (a4 xs 12), nV .u32 (a4 xs 16), Value.int .u16 0, Value.int .u16 0]) (by kernel_rfl) Try.isAgg30 Try.sizeOf30 rfl rfl rfl rfl) (RV.tmp (v := Value.bool false) (by kernel_rfl)) hS_ ⟨by clear hK1 hK3 hK4 hK19 hK22 hK23 hK25 hK26 hK44 hK63; refine congrArg Ending.returned ?_; simp only [inP, inA, inF, inT, inO, hC_, h9_6, h9_17, h9_1, cond_true, cond_false]; try rfl, hS_.below⟩)
theorem innern_c (xs : List UInt8) (a : Option Addr) (cap len : Nat) (w : World) (hn : len = xs.length) (hat : At w a (byc xs)) (hl : xs.length ≤ 1000000) (hlc : xs.length ≤ cap) : Calls Try.prog 52 #[.slice a len cap] w (Ret w (.tuple #[.agg ([Value.int .u8 (((inP xs).toNat : Nat) : Int), Value.int .u32 ((inA xs 12 : Nat) : Int), Value.int .u32 ((inA xs 16 : Nat) : Int), Value.int .u16 ((inF xs : Nat) : Int), Value.int .u16 ((inT xs : Nat) : Int)]).toArray, .bool (inO xs)])) := by
  subst hn; exact inner_c xs a cap w hat hl hlc
def eqk (k : UInt8) (n : Int) : Bool := ((k.toNat : Nat) : Int) == n
def isEr (k : UInt8) : Bool := eqk k 3 || (eqk k 11 || eqk k 12)
def msQ (xs : List UInt8) : Bool := (mR xs == 0) && ecO (mT xs 0) (mT xs 1)
def msR (xs : List UInt8) : Bool := ((mR xs == 0) && !ecO (mT xs 0) (mT xs 1)) && (isEr (mT xs 0) && inO (mD xs))
def msE (xs : List UInt8) : Int := bif mR xs == 0 then (bif msQ xs then 0 else bif msR xs then 0 else 11) else mR xs
def msK (xs : List UInt8) : Int := bif msQ xs then 2 else bif msR xs then 3 else 0
def msI (xs : List UInt8) : Nat := (mN xs / 65536) % 65536
def msP (fp : UInt8) (xs : List UInt8) : UInt8 := bif msR xs then inP (mD xs) else fp
def msS (fs k : Nat) (xs : List UInt8) : Nat := bif msR xs then inA (mD xs) k else fs
def msF (ff : Nat) (xs : List UInt8) : Nat := bif msR xs then inT (mD xs) else bif msQ xs then sel (ecA (mT xs 0)) (msI xs) ff else ff
def msT (ft : Nat) (xs : List UInt8) : Nat := bif msR xs then inF (mD xs) else bif msQ xs then sel (ecA (mT xs 0)) ft (msI xs) else ft
theorem message_c (tt pr : UInt8) (id s d : Nat) (xs : List UInt8) (a : Option Addr) (cap : Nat) (fp : UInt8) (fs fd ff ft : Nat) (w : World) (hat : At w a (byc xs)) (hi : id < 65536) (hs : s < 4294967296) (hd : d < 4294967296) (hl : xs.length ≤ 100000) (hlc : xs.length ≤ cap) : Calls Try.prog 24 #[Value.agg ([Value.int .u8 ((tt.toNat : Nat) : Int), Value.int .u8 ((pr.toNat : Nat) : Int), Value.int .u16 ((id : Nat) : Int), Value.int .u32 ((s : Nat) : Int), Value.int .u32 ((d : Nat) : Int), Value.slice a xs.length cap]).toArray, Value.agg ([Value.int .u8 ((fp.toNat : Nat) : Int), Value.int .u32 ((fs : Nat) : Int), Value.int .u32 ((fd : Nat) : Int), Value.int .u16 ((ff : Nat) : Int), Value.int .u16 ((ft : Nat) : Int)]).toArray] w (Ret w (.tuple #[.agg ([Value.int .u8 (((msP fp xs).toNat : Nat) : Int), Value.int .u32 ((msS fs 16 xs : Nat) : Int), Value.int .u32 ((msS fd 12 xs : Nat) : Int), Value.int .u16 ((msF ff xs : Nat) : Int), Value.int .u16 ((msT ft xs : Nat) : Int)]).toArray, .int .i64 (msK xs), .int .i64 (msE xs)])) := by
  have hmn_ := mN_lt xs; have hml_ := mD_le xs
  refine calls_W (M := []) (LL := []) (n := 55) Try.func24 rfl rfl (by simp) (Mem.refl _) ?_
  refine W.seq (fun K1 hK1 => ?_)
  refine W.region ?_
  refine Wl.ht rfl (Ht.box (v := Value.agg ([nV .u8 tt.toNat, nV .u8 pr.toNat, nV .u16 id, nV .u32 s, nV .u32 d, Value.slice a xs.length cap]).toArray) (cs := [nV .u8 tt.toNat, nV .u8 pr.toNat, nV .u16 id, nV .u32 s, nV .u32 d, Value.slice a xs.length cap]) rfl rfl (by kernel_rfl) rfl) (fun p2 => ?_)
  refine Wl.ht rfl (Ht.box (v := Value.agg ([nV .u8 fp.toNat, nV .u32 fs, nV .u32 fd, nV .u16 ff, nV .u16 ft]).toArray) (cs := [nV .u8 fp.toNat, nV .u32 fs, nV .u32 fd, nV .u16 ff, nV .u16 ft]) rfl rfl (by kernel_rfl) rfl) (fun p3 => ?_)
  refine Wl.ht rfl (Ht.alloc (z := Value.agg ([Value.int .u8 0, Value.int .u32 0, Value.int .u32 0, Value.int .u16 0, Value.int .u16 0]).toArray) (cs := [Value.int .u8 0, Value.int .u32 0, Value.int .u32 0, Value.int .u16 0, Value.int .u16 0]) rfl rfl Try.zeroValue30 rfl) (fun p4 => ?_)
  refine Wl.run 2 (by kernel_rfl) ?_
  refine Wl.nil ?_
  refine hK1 _ _ _ ?_
  refine W.prune' [2, 3, 4] [Value.pointer (some ⟨p2, 0, none⟩), Value.pointer (some ⟨p3, 0, none⟩), Value.pointer (some ⟨p4, 0, none⟩)] (by kernel_rfl) (fun f2 => ?_)
  refine W.seq (fun K3 hK3 => ?_)
  refine W.region ?_
  refine Wl.run 1 (by kernel_rfl) ?_
  refine Wl.ys (v := Value.slice a xs.length cap) rfl rfl (Ys.load (b := p2) (o' := 5) (i := 2) (j := 0) (cs := [nV .u8 tt.toNat, nV .u8 pr.toNat, nV .u16 id, nV .u32 s, nV .u32 d, Value.slice a xs.length cap]) (v := Value.slice a xs.length cap) rfl (by kernel_rfl) Try.isAgg25 rfl rfl rfl) ?_
  refine Wl.ht rfl (Ht.call (β := FS) (k := 36) (args := #[Value.slice a xs.length cap]) (Lin := []) (Lk := [[cb p4 [Value.int .u8 0, Value.int .u32 0, Value.int .u32 0, Value.int .u16 0, Value.int .u16 0] 30], [cb p3 [nV .u8 fp.toNat, nV .u32 fs, nV .u32 fd, nV .u16 ff, nV .u16 ft] 30], [cb p2 [nV .u8 tt.toNat, nV .u8 pr.toNat, nV .u16 id, nV .u32 s, nV .u32 d, Value.slice a xs.length cap] 27]]) (Mi := []) (Lo := fun g4 => [g4.seg 5 (mc b8 (mD xs)), [cb p4 [Value.int .u8 0, Value.int .u32 0, Value.int .u32 0, Value.int .u16 0, Value.int .u16 0] 30], [cb p3 [nV .u8 fp.toNat, nV .u32 fs, nV .u32 fd, nV .u16 ff, nV .u16 ft] 30], [cb p2 [nV .u8 tt.toNat, nV .u8 pr.toNat, nV .u16 id, nV .u32 s, nV .u32 d, Value.slice a xs.length cap] 27]]) [] [0, 1, 2] rfl (fun _ => by kernel_rfl) (by decide) rfl rfl rfl (fun w_ hm_ hl_ => (ricmpn_c xs a cap xs.length _ (by first | rfl | (rw [List.length_take]; omega) | (simp; done) | (simp [be_len, be_len, psh_len]; omega)) (hat.mem0 hm_) (by first | omega | (simp; omega)) (by first | omega | (simp; omega)))) (fun _ => rfl)) (fun x6 => ?_)
  obtain ⟨g4, ok5⟩ := x6
  refine Wl.castL (LL' := [g4.seg 5 (mc b8 (mD xs)), [cb p4 [Value.int .u8 0, Value.int .u32 0, Value.int .u32 0, Value.int .u16 0, Value.int .u16 0] 30], [cb p3 [nV .u8 fp.toNat, nV .u32 fs, nV .u32 fd, nV .u16 ff, nV .u16 ft] 30], [cb p2 [nV .u8 tt.toNat, nV .u8 pr.toNat, nV .u16 id, nV .u32 s, nV .u32 d, Value.slice a xs.length cap] 27]]) rfl ?_
  refine Wl.run 3 (by kernel_rfl) ?_
  refine Wl.ht rfl (Ht.alloc (z := Value.agg ([Value.int .u8 0, Value.int .u8 0, Value.int .u32 0, Value.slice none 0 0]).toArray) (cs := [Value.int .u8 0, Value.int .u8 0, Value.int .u32 0, Value.slice none 0 0]) rfl rfl Try.zeroValue65 rfl) (fun p7 => ?_)
  refine Wl.ht rfl (Ht.storeN (b := p7) (o' := 0) (i := 0) (j := 0) (cs := [Value.int .u8 0, Value.int .u8 0, Value.int .u32 0, Value.slice none 0 0]) (vs := [nV .u8 ((mT xs 0).toNat), nV .u8 ((mT xs 1).toNat), nV .u32 (mN xs), Value.slice g4.a ((mD xs).length) g4.cap]) (cs' := [nV .u8 ((mT xs 0).toNat), nV .u8 ((mT xs 1).toNat), nV .u32 (mN xs), Value.slice g4.a ((mD xs).length) g4.cap]) (LL' := [[cb p7 [nV .u8 ((mT xs 0).toNat), nV .u8 ((mT xs 1).toNat), nV .u32 (mN xs), Value.slice g4.a ((mD xs).length) g4.cap] 65], g4.seg 5 (mc b8 (mD xs)), [cb p4 [Value.int .u8 0, Value.int .u32 0, Value.int .u32 0, Value.int .u16 0, Value.int .u16 0] 30], [cb p3 [nV .u8 fp.toNat, nV .u32 fs, nV .u32 fd, nV .u16 ff, nV .u16 ft] 30], [cb p2 [nV .u8 tt.toNat, nV .u8 pr.toNat, nV .u16 id, nV .u32 s, nV .u32 d, Value.slice a xs.length cap] 27]]) rfl rfl (by kernel_rfl) (by kernel_rfl) Try.sizeOf65 (by simp [Value.oneCell']) rfl rfl (by simp) rfl rfl) (fun _ => ?_)
  refine Wl.run 1 (by kernel_rfl) ?_
  refine Wl.nil ?_
  refine hK3 _ _ _ ?_
  refine W.pick (LL' := [[cb p7 [nV .u8 ((mT xs 0).toNat), nV .u8 ((mT xs 1).toNat), nV .u32 (mN xs), Value.slice g4.a ((mD xs).length) g4.cap] 65], g4.seg 5 (mc b8 (mD xs)), [cb p4 [Value.int .u8 0, Value.int .u32 0, Value.int .u32 0, Value.int .u16 0, Value.int .u16 0] 30], [cb p3 [nV .u8 fp.toNat, nV .u32 fs, nV .u32 fd, nV .u16 ff, nV .u16 ft] 30]]) [0, 1, 2, 3] (by decide) rfl ?_
  refine W.prune' [3, 4, 7, 8] [Value.pointer (some ⟨p3, 0, none⟩), Value.pointer (some ⟨p4, 0, none⟩), Value.pointer (some ⟨p7, 0, none⟩), Value.int .i64 (mR xs)] (by kernel_rfl) (fun f7 => ?_)
  refine W.seq (fun K8 hK8 => ?_)
  refine W.seq (fun K9 hK9 => ?_)
  refine W.region ?_
  refine Wl.run 2 (by kernel_rfl) ?_
  refine Wl.nil ?_
  refine hK9 _ _ _ ?_
  refine W.prune' [3, 4, 7, 8, 20] [Value.pointer (some ⟨p3, 0, none⟩), Value.pointer (some ⟨p4, 0, none⟩), Value.pointer (some ⟨p7, 0, none⟩), Value.int .i64 (mR xs), Value.bool ((mR xs) != 0)] (by kernel_rfl) (fun f10 => ?_)
  refine W.cond ((mR xs) != 0) (by kernel_rfl) (fun h11 => ?_) (fun h12 => ?_)
  · have qh11 := h11; try simp only [Bool.and_eq_true, Bool.or_eq_true, Bool.not_eq_true', Bool.not_eq_false', Bool.and_eq_false_iff, Bool.or_eq_false_iff, decide_eq_true_eq, decide_eq_false_iff_not, beq_iff_eq, bne_iff_ne, beq_eq_false_iff_ne, bne_eq_false_iff_eq] at qh11
    refine W.seq (fun K13 hK13 => ?_)
    refine W.region ?_
    refine Wl.ys (v := Value.agg ([nV .u8 fp.toNat, nV .u32 fs, nV .u32 fd, nV .u16 ff, nV .u16 ft]).toArray) rfl rfl (Ys.loadN (b := p3) (o' := 0) (i := 3) (j := 0) (cs := [nV .u8 fp.toNat, nV .u32 fs, nV .u32 fd, nV .u16 ff, nV .u16 ft]) (vs := [nV .u8 fp.toNat, nV .u32 fs, nV .u32 fd, nV .u16 ff, nV .u16 ft]) rfl (by kernel_rfl) Try.isAgg30 Try.sizeOf30 rfl rfl rfl rfl) ?_
    refine Wl.run 1 (by kernel_rfl) ?_
    refine Wl.ht rfl (Ht.storeN (b := p4) (o' := 0) (i := 2) (j := 0) (cs := [Value.int .u8 0, Value.int .u32 0, Value.int .u32 0, Value.int .u16 0, Value.int .u16 0]) (vs := [nV .u8 fp.toNat, nV .u32 fs, nV .u32 fd, nV .u16 ff, nV .u16 ft]) (cs' := [nV .u8 fp.toNat, nV .u32 fs, nV .u32 fd, nV .u16 ff, nV .u16 ft]) (LL' := [[cb p7 [nV .u8 ((mT xs 0).toNat), nV .u8 ((mT xs 1).toNat), nV .u32 (mN xs), Value.slice g4.a ((mD xs).length) g4.cap] 65], g4.seg 5 (mc b8 (mD xs)), [cb p4 [nV .u8 fp.toNat, nV .u32 fs, nV .u32 fd, nV .u16 ff, nV .u16 ft] 30], [cb p3 [nV .u8 fp.toNat, nV .u32 fs, nV .u32 fd, nV .u16 ff, nV .u16 ft] 30]]) rfl rfl (by kernel_rfl) (by kernel_rfl) Try.sizeOf30 (by simp [Value.oneCell']) rfl rfl (by simp) rfl rfl) (fun _ => ?_)
    refine Wl.run 2 (by kernel_rfl) ?_
    refine Wl.nil ?_
    refine hK13 _ _ _ ?_
    refine W.pick (LL' := [[cb p4 [nV .u8 fp.toNat, nV .u32 fs, nV .u32 fd, nV .u16 ff, nV .u16 ft] 30]]) [2] (by decide) rfl ?_
    refine W.prune' [4, 5, 6] [Value.pointer (some ⟨p4, 0, none⟩), Value.int .i64 0, Value.int .i64 (mR xs)] (by kernel_rfl) (fun f14 => ?_)
    refine W.ret ?_
    have hm_ : (mR xs == 0) = false := by have z_ := h11; rw [bne] at z_; revert z_; cases (mR xs == 0) <;> simp
    have hQ_ : msQ xs = false := by unfold msQ; rw [hm_]; rfl
    have hR_ : msR xs = false := by unfold msR; rw [hm_]; rfl
    show ∀ w_, _ → bodyPostM (fence none) 0 Try.prog Try.f24 _ Exit.ret _ w_
    exact fun w_ hS_ => fin_ret (ret3 rfl (RV.cellN (b := p4) (o' := 0) (i := 0) (j := 0) (cs := [nV .u8 fp.toNat, nV .u32 fs, nV .u32 fd, nV .u16 ff, nV .u16 ft]) (vs := [nV .u8 fp.toNat, nV .u32 fs, nV .u32 fd, nV .u16 ff, nV .u16 ft]) (by kernel_rfl) Try.isAgg30 Try.sizeOf30 rfl rfl rfl rfl) (RV.tmp (v := Value.int .i64 0) (by kernel_rfl)) (RV.tmp (v := Value.int .i64 (mR xs)) (by kernel_rfl)) hS_ ⟨by clear hK1 hK3 hK8 hK9 hK13; refine congrArg Ending.returned ?_; simp only [msP, msS, msF, msT, msK, msE, hQ_, hR_, hm_, cond_true, cond_false]; try rfl, hS_.below⟩)
  · have qh12 := h12; try simp only [Bool.and_eq_true, Bool.or_eq_true, Bool.not_eq_true', Bool.not_eq_false', Bool.and_eq_false_iff, Bool.or_eq_false_iff, decide_eq_true_eq, decide_eq_false_iff_not, beq_iff_eq, bne_iff_ne, beq_eq_false_iff_ne, bne_eq_false_iff_eq] at qh12
    refine W.skip' ?_
    refine hK8 _ _ _ ?_
    refine W.prune' [3, 4, 7] [Value.pointer (some ⟨p3, 0, none⟩), Value.pointer (some ⟨p4, 0, none⟩), Value.pointer (some ⟨p7, 0, none⟩)] (by kernel_rfl) (fun f15 => ?_)
    refine W.seq (fun K16 hK16 => ?_)
    refine W.seq (fun K17 hK17 => ?_)
    refine W.region ?_
    refine Wl.run 1 (by kernel_rfl) ?_
    refine Wl.ys (v := nV .u8 ((mT xs 0).toNat)) rfl rfl (Ys.load (b := p7) (o' := 0) (i := 0) (j := 0) (cs := [nV .u8 ((mT xs 0).toNat), nV .u8 ((mT xs 1).toNat), nV .u32 (mN xs), Value.slice g4.a ((mD xs).length) g4.cap]) (v := nV .u8 ((mT xs 0).toNat)) rfl (by kernel_rfl) Try.isAgg5 rfl rfl rfl) ?_
    refine Wl.run 1 (by kernel_rfl) ?_
    refine Wl.ys (v := nV .u8 ((mT xs 1).toNat)) rfl rfl (Ys.load (b := p7) (o' := 1) (i := 0) (j := 0) (cs := [nV .u8 ((mT xs 0).toNat), nV .u8 ((mT xs 1).toNat), nV .u32 (mN xs), Value.slice g4.a ((mD xs).length) g4.cap]) (v := nV .u8 ((mT xs 1).toNat)) rfl (by kernel_rfl) Try.isAgg5 rfl rfl rfl) ?_
    refine Wl.yc (v := Value.tuple #[Value.bool (ecA (mT xs 0)), Value.bool (ecO (mT xs 0) (mT xs 1))]) rfl rfl (Yc.call (k := 38) (args := #[nV .u8 ((mT xs 0).toNat), nV .u8 ((mT xs 1).toNat)]) (fun _ => by kernel_rfl) (fun w_ hm_ => (echo_c (mT xs 0) (mT xs 1) _))) ?_
    refine Wl.run 5 (by kernel_rfl) ?_
    refine Wl.nil ?_
    refine hK17 _ _ _ ?_
    refine W.prune' [3, 4, 7, 9, 10] [Value.pointer (some ⟨p3, 0, none⟩), Value.pointer (some ⟨p4, 0, none⟩), Value.pointer (some ⟨p7, 0, none⟩), Value.bool (ecA (mT xs 0)), Value.bool (ecO (mT xs 0) (mT xs 1))] (by kernel_rfl) (fun f18 => ?_)
    refine W.seq (fun K19 hK19 => ?_)
    refine W.region ?_
    refine Wl.run 1 (by kernel_rfl) ?_
    refine Wl.nil ?_
    refine hK19 _ _ _ ?_
    refine W.cond (ecO (mT xs 0) (mT xs 1)) (by kernel_rfl) (fun h20 => ?_) (fun h21 => ?_)
    · refine W.seq (fun K22 hK22 => ?_)
      refine W.region ?_
      refine Wl.ys (v := Value.agg ([nV .u8 fp.toNat, nV .u32 fs, nV .u32 fd, nV .u16 ff, nV .u16 ft]).toArray) rfl rfl (Ys.loadN (b := p3) (o' := 0) (i := 3) (j := 0) (cs := [nV .u8 fp.toNat, nV .u32 fs, nV .u32 fd, nV .u16 ff, nV .u16 ft]) (vs := [nV .u8 fp.toNat, nV .u32 fs, nV .u32 fd, nV .u16 ff, nV .u16 ft]) rfl (by kernel_rfl) Try.isAgg30 Try.sizeOf30 rfl rfl rfl rfl) ?_
      refine Wl.run 1 (by kernel_rfl) ?_
      refine Wl.ys (v := nV .u32 (mN xs)) rfl rfl (Ys.load (b := p7) (o' := 2) (i := 0) (j := 0) (cs := [nV .u8 ((mT xs 0).toNat), nV .u8 ((mT xs 1).toNat), nV .u32 (mN xs), Value.slice g4.a ((mD xs).length) g4.cap]) (v := nV .u32 (mN xs)) rfl (by kernel_rfl) Try.isAgg23 rfl rfl rfl) ?_
      refine Wl.ys (v := nV .u32 ((mN xs) / 65536)) rfl rfl ((Ys.pure (v := .int .u32 (ishr .u32 ((mN xs : Nat) : Int) ((16 : Nat) : Int))) (fun _ => by kernel_rfl)).conseq (int_congr (ishr_nat (mN xs) 16 (by decide)))) ?_
      refine Wl.ys (v := nV .u16 (((mN xs) / 65536) % 65536)) rfl rfl ((Ys.pure (v := .int .u16 (icnv .u16 (((mN xs) / 65536 : Nat) : Int))) (fun _ => by kernel_rfl)).conseq (int_congr (icnv_mod rfl _))) ?_
      refine Wl.run 1 (by kernel_rfl) ?_
      refine Wl.yc (v := Value.agg ([nV .u8 fp.toNat, nV .u32 fs, nV .u32 fd, nV .u16 (sel (ecA (mT xs 0)) (((mN xs) / 65536) % 65536) ff), nV .u16 (sel (ecA (mT xs 0)) ft (((mN xs) / 65536) % 65536))]).toArray) rfl rfl (Yc.call (k := 51) (args := #[Value.agg ([nV .u8 fp.toNat, nV .u32 fs, nV .u32 fd, nV .u16 ff, nV .u16 ft]).toArray, nV .u16 (((mN xs) / 65536) % 65536), Value.bool (ecA (mT xs 0))]) (fun _ => by kernel_rfl) (fun w_ hm_ => (ids_c fp fs fd ff ft (((mN xs) / 65536) % 65536) (ecA (mT xs 0)) _))) ?_
      refine Wl.ht rfl (Ht.storeN (b := p4) (o' := 0) (i := 2) (j := 0) (cs := [Value.int .u8 0, Value.int .u32 0, Value.int .u32 0, Value.int .u16 0, Value.int .u16 0]) (vs := [nV .u8 fp.toNat, nV .u32 fs, nV .u32 fd, nV .u16 (sel (ecA (mT xs 0)) (((mN xs) / 65536) % 65536) ff), nV .u16 (sel (ecA (mT xs 0)) ft (((mN xs) / 65536) % 65536))]) (cs' := [nV .u8 fp.toNat, nV .u32 fs, nV .u32 fd, nV .u16 (sel (ecA (mT xs 0)) (((mN xs) / 65536) % 65536) ff), nV .u16 (sel (ecA (mT xs 0)) ft (((mN xs) / 65536) % 65536))]) (LL' := [[cb p7 [nV .u8 ((mT xs 0).toNat), nV .u8 ((mT xs 1).toNat), nV .u32 (mN xs), Value.slice g4.a ((mD xs).length) g4.cap] 65], g4.seg 5 (mc b8 (mD xs)), [cb p4 [nV .u8 fp.toNat, nV .u32 fs, nV .u32 fd, nV .u16 (sel (ecA (mT xs 0)) (((mN xs) / 65536) % 65536) ff), nV .u16 (sel (ecA (mT xs 0)) ft (((mN xs) / 65536) % 65536))] 30], [cb p3 [nV .u8 fp.toNat, nV .u32 fs, nV .u32 fd, nV .u16 ff, nV .u16 ft] 30]]) rfl rfl (by kernel_rfl) (by kernel_rfl) Try.sizeOf30 (by simp [Value.oneCell']) rfl rfl (by simp) rfl rfl) (fun _ => ?_)
      refine Wl.run 2 (by kernel_rfl) ?_
      refine Wl.nil ?_
      refine hK22 _ _ _ ?_
      refine W.pick (LL' := [[cb p4 [nV .u8 fp.toNat, nV .u32 fs, nV .u32 fd, nV .u16 (sel (ecA (mT xs 0)) (((mN xs) / 65536) % 65536) ff), nV .u16 (sel (ecA (mT xs 0)) ft (((mN xs) / 65536) % 65536))] 30]]) [2] (by decide) rfl ?_
      refine W.prune' [4, 5, 6] [Value.pointer (some ⟨p4, 0, none⟩), Value.int .i64 2, Value.int .i64 0] (by kernel_rfl) (fun f23 => ?_)
      refine W.ret ?_
      have hm_ : (mR xs == 0) = true := by have z_ := h12; rw [bne] at z_; revert z_; cases (mR xs == 0) <;> simp
      have hQ_ : msQ xs = true := by unfold msQ; rw [hm_, h20]; rfl
      have hR_ : msR xs = false := by unfold msR; rw [hm_, h20]; rfl
      show ∀ w_, _ → bodyPostM (fence none) 0 Try.prog Try.f24 _ Exit.ret _ w_
      exact fun w_ hS_ => fin_ret (ret3 rfl (RV.cellN (b := p4) (o' := 0) (i := 0) (j := 0) (cs := [nV .u8 fp.toNat, nV .u32 fs, nV .u32 fd, nV .u16 (sel (ecA (mT xs 0)) (((mN xs) / 65536) % 65536) ff), nV .u16 (sel (ecA (mT xs 0)) ft (((mN xs) / 65536) % 65536))]) (vs := [nV .u8 fp.toNat, nV .u32 fs, nV .u32 fd, nV .u16 (sel (ecA (mT xs 0)) (((mN xs) / 65536) % 65536) ff), nV .u16 (sel (ecA (mT xs 0)) ft (((mN xs) / 65536) % 65536))]) (by kernel_rfl) Try.isAgg30 Try.sizeOf30 rfl rfl rfl rfl) (RV.tmp (v := Value.int .i64 2) (by kernel_rfl)) (RV.tmp (v := Value.int .i64 0) (by kernel_rfl)) hS_ ⟨by clear hK1 hK3 hK8 hK9 hK16 hK17 hK19 hK22; refine congrArg Ending.returned ?_; simp only [msP, msS, msF, msT, msK, msE, hQ_, hR_, hm_, cond_true, cond_false]; try rfl, hS_.below⟩)
    · refine W.skip' ?_
      refine hK16 _ _ _ ?_
      refine W.prune' [3, 4, 7] [Value.pointer (some ⟨p3, 0, none⟩), Value.pointer (some ⟨p4, 0, none⟩), Value.pointer (some ⟨p7, 0, none⟩)] (by kernel_rfl) (fun f24 => ?_)
      refine W.seq (fun K25 hK25 => ?_)
      refine W.seq (fun K26 hK26 => ?_)
      refine W.region ?_
      refine Wl.run 1 (by kernel_rfl) ?_
      refine Wl.ys (v := nV .u8 ((mT xs 0).toNat)) rfl rfl (Ys.load (b := p7) (o' := 0) (i := 0) (j := 0) (cs := [nV .u8 ((mT xs 0).toNat), nV .u8 ((mT xs 1).toNat), nV .u32 (mN xs), Value.slice g4.a ((mD xs).length) g4.cap]) (v := nV .u8 ((mT xs 0).toNat)) rfl (by kernel_rfl) Try.isAgg5 rfl rfl rfl) ?_
      refine Wl.nil ?_
      refine hK26 _ _ _ ?_
      refine W.prune' [3, 4, 7, 40] [Value.pointer (some ⟨p3, 0, none⟩), Value.pointer (some ⟨p4, 0, none⟩), Value.pointer (some ⟨p7, 0, none⟩), nV .u8 ((mT xs 0).toNat)] (by kernel_rfl) (fun f27 => ?_)
      refine W.block ?_
      refine W.seq (fun K28 hK28 => ?_)
      refine W.seq (fun K29 hK29 => ?_)
      refine W.region ?_
      refine Wl.run 2 (by kernel_rfl) ?_
      refine Wl.nil ?_
      refine hK29 _ _ _ ?_
      refine W.prune' [3, 4, 7, 40, 41] [Value.pointer (some ⟨p3, 0, none⟩), Value.pointer (some ⟨p4, 0, none⟩), Value.pointer (some ⟨p7, 0, none⟩), nV .u8 ((mT xs 0).toNat), Value.bool ((((mT xs 0).toNat : Nat) : Int) == 3)] (by kernel_rfl) (fun f30 => ?_)
      refine W.cond ((((mT xs 0).toNat : Nat) : Int) == 3) (by kernel_rfl) (fun h31 => ?_) (fun h32 => ?_)
      · have qh31 := h31; try simp only [Bool.and_eq_true, Bool.or_eq_true, Bool.not_eq_true', Bool.not_eq_false', Bool.and_eq_false_iff, Bool.or_eq_false_iff, decide_eq_true_eq, decide_eq_false_iff_not, beq_iff_eq, bne_iff_ne, beq_eq_false_iff_ne, bne_eq_false_iff_eq] at qh31
        refine W.skip' ?_
        refine hK28 _ _ _ ?_
        refine W.prune' [3, 4, 7, 41] [Value.pointer (some ⟨p3, 0, none⟩), Value.pointer (some ⟨p4, 0, none⟩), Value.pointer (some ⟨p7, 0, none⟩), Value.bool ((((mT xs 0).toNat : Nat) : Int) == 3)] (by kernel_rfl) (fun f33 => ?_)
        refine W.cond ((((mT xs 0).toNat : Nat) : Int) == 3) (by kernel_rfl) (fun h34 => ?_) (fun h35 => ?_)
        · have qh34 := h34; try simp only [Bool.and_eq_true, Bool.or_eq_true, Bool.not_eq_true', Bool.not_eq_false', Bool.and_eq_false_iff, Bool.or_eq_false_iff, decide_eq_true_eq, decide_eq_false_iff_not, beq_iff_eq, bne_iff_ne, beq_eq_false_iff_ne, bne_eq_false_iff_eq] at qh34
          refine W.seq (fun K36 hK36 => ?_)
          refine W.region ?_
          refine Wl.run 1 (by kernel_rfl) ?_
          refine Wl.ys (v := Value.slice g4.a ((mD xs).length) g4.cap) rfl rfl (Ys.load (b := p7) (o' := 3) (i := 0) (j := 0) (cs := [nV .u8 ((mT xs 0).toNat), nV .u8 ((mT xs 1).toNat), nV .u32 (mN xs), Value.slice g4.a ((mD xs).length) g4.cap]) (v := Value.slice g4.a ((mD xs).length) g4.cap) rfl (by kernel_rfl) Try.isAgg25 rfl rfl rfl) ?_
          refine Wl.yc (v := Value.tuple #[Value.agg ([nV .u8 ((inP (mD xs)).toNat), nV .u32 (inA (mD xs) 12), nV .u32 (inA (mD xs) 16), nV .u16 (inF (mD xs)), nV .u16 (inT (mD xs))]).toArray, Value.bool (inO (mD xs))]) rfl rfl (Yc.call (k := 52) (args := #[Value.slice g4.a ((mD xs).length) g4.cap]) (fun _ => by kernel_rfl) (fun w_ hm_ => (innern_c (mD xs) g4.a g4.cap ((mD xs).length) _ (by first | rfl | (rw [List.length_take]; omega) | (simp; done) | (simp [be_len, be_len, psh_len]; omega)) (FS.at (i := 1) (t := 5) hm_ rfl (FS.nil_cs ok5 (mc_len1 _))) (by first | omega | (simp; omega)) (by have z_ := ok5.le; first | exact z_ | omega | (simp at z_ ⊢; omega))))) ?_
          refine Wl.run 3 (by kernel_rfl) ?_
          refine Wl.ht rfl (Ht.alloc (z := Value.agg ([Value.int .u8 0, Value.int .u32 0, Value.int .u32 0, Value.int .u16 0, Value.int .u16 0]).toArray) (cs := [Value.int .u8 0, Value.int .u32 0, Value.int .u32 0, Value.int .u16 0, Value.int .u16 0]) rfl rfl Try.zeroValue30 rfl) (fun p11 => ?_)
          refine Wl.ht rfl (Ht.storeN (b := p11) (o' := 0) (i := 0) (j := 0) (cs := [Value.int .u8 0, Value.int .u32 0, Value.int .u32 0, Value.int .u16 0, Value.int .u16 0]) (vs := [nV .u8 ((inP (mD xs)).toNat), nV .u32 (inA (mD xs) 12), nV .u32 (inA (mD xs) 16), nV .u16 (inF (mD xs)), nV .u16 (inT (mD xs))]) (cs' := [nV .u8 ((inP (mD xs)).toNat), nV .u32 (inA (mD xs) 12), nV .u32 (inA (mD xs) 16), nV .u16 (inF (mD xs)), nV .u16 (inT (mD xs))]) (LL' := [[cb p11 [nV .u8 ((inP (mD xs)).toNat), nV .u32 (inA (mD xs) 12), nV .u32 (inA (mD xs) 16), nV .u16 (inF (mD xs)), nV .u16 (inT (mD xs))] 30], [cb p7 [nV .u8 ((mT xs 0).toNat), nV .u8 ((mT xs 1).toNat), nV .u32 (mN xs), Value.slice g4.a ((mD xs).length) g4.cap] 65], g4.seg 5 (mc b8 (mD xs)), [cb p4 [Value.int .u8 0, Value.int .u32 0, Value.int .u32 0, Value.int .u16 0, Value.int .u16 0] 30], [cb p3 [nV .u8 fp.toNat, nV .u32 fs, nV .u32 fd, nV .u16 ff, nV .u16 ft] 30]]) rfl rfl (by kernel_rfl) (by kernel_rfl) Try.sizeOf30 (by simp [Value.oneCell']) rfl rfl (by simp) rfl rfl) (fun _ => ?_)
          refine Wl.run 1 (by kernel_rfl) ?_
          refine Wl.nil ?_
          refine hK36 _ _ _ ?_
          refine W.pick (LL' := [[cb p11 [nV .u8 ((inP (mD xs)).toNat), nV .u32 (inA (mD xs) 12), nV .u32 (inA (mD xs) 16), nV .u16 (inF (mD xs)), nV .u16 (inT (mD xs))] 30], [cb p4 [Value.int .u8 0, Value.int .u32 0, Value.int .u32 0, Value.int .u16 0, Value.int .u16 0] 30], [cb p3 [nV .u8 fp.toNat, nV .u32 fs, nV .u32 fd, nV .u16 ff, nV .u16 ft] 30]]) [0, 3, 4] (by decide) rfl ?_
          refine W.prune' [3, 4, 11, 12] [Value.pointer (some ⟨p3, 0, none⟩), Value.pointer (some ⟨p4, 0, none⟩), Value.pointer (some ⟨p11, 0, none⟩), Value.bool (inO (mD xs))] (by kernel_rfl) (fun f37 => ?_)
          refine W.seq (fun K38 hK38 => ?_)
          refine W.region ?_
          refine Wl.run 1 (by kernel_rfl) ?_
          refine Wl.nil ?_
          refine hK38 _ _ _ ?_
          refine W.cond (inO (mD xs)) (by kernel_rfl) (fun h39 => ?_) (fun h40 => ?_)
          · refine W.seq (fun K41 hK41 => ?_)
            refine W.region ?_
            refine Wl.ys (v := Value.agg ([nV .u8 ((inP (mD xs)).toNat), nV .u32 (inA (mD xs) 12), nV .u32 (inA (mD xs) 16), nV .u16 (inF (mD xs)), nV .u16 (inT (mD xs))]).toArray) rfl rfl (Ys.loadN (b := p11) (o' := 0) (i := 0) (j := 0) (cs := [nV .u8 ((inP (mD xs)).toNat), nV .u32 (inA (mD xs) 12), nV .u32 (inA (mD xs) 16), nV .u16 (inF (mD xs)), nV .u16 (inT (mD xs))]) (vs := [nV .u8 ((inP (mD xs)).toNat), nV .u32 (inA (mD xs) 12), nV .u32 (inA (mD xs) 16), nV .u16 (inF (mD xs)), nV .u16 (inT (mD xs))]) rfl (by kernel_rfl) Try.isAgg30 Try.sizeOf30 rfl rfl rfl rfl) ?_
            refine Wl.yc (v := Value.agg ([nV .u8 ((inP (mD xs)).toNat), nV .u32 (inA (mD xs) 16), nV .u32 (inA (mD xs) 12), nV .u16 (inT (mD xs)), nV .u16 (inF (mD xs))]).toArray) rfl rfl (Yc.call (k := 13) (args := #[Value.agg ([nV .u8 ((inP (mD xs)).toNat), nV .u32 (inA (mD xs) 12), nV .u32 (inA (mD xs) 16), nV .u16 (inF (mD xs)), nV .u16 (inT (mD xs))]).toArray]) (fun _ => by kernel_rfl) (fun w_ hm_ => (turn_c (inP (mD xs)) (inA (mD xs) 12) (inA (mD xs) 16) (inF (mD xs)) (inT (mD xs)) _))) ?_
            refine Wl.ht rfl (Ht.storeN (b := p4) (o' := 0) (i := 1) (j := 0) (cs := [Value.int .u8 0, Value.int .u32 0, Value.int .u32 0, Value.int .u16 0, Value.int .u16 0]) (vs := [nV .u8 ((inP (mD xs)).toNat), nV .u32 (inA (mD xs) 16), nV .u32 (inA (mD xs) 12), nV .u16 (inT (mD xs)), nV .u16 (inF (mD xs))]) (cs' := [nV .u8 ((inP (mD xs)).toNat), nV .u32 (inA (mD xs) 16), nV .u32 (inA (mD xs) 12), nV .u16 (inT (mD xs)), nV .u16 (inF (mD xs))]) (LL' := [[cb p11 [nV .u8 ((inP (mD xs)).toNat), nV .u32 (inA (mD xs) 12), nV .u32 (inA (mD xs) 16), nV .u16 (inF (mD xs)), nV .u16 (inT (mD xs))] 30], [cb p4 [nV .u8 ((inP (mD xs)).toNat), nV .u32 (inA (mD xs) 16), nV .u32 (inA (mD xs) 12), nV .u16 (inT (mD xs)), nV .u16 (inF (mD xs))] 30], [cb p3 [nV .u8 fp.toNat, nV .u32 fs, nV .u32 fd, nV .u16 ff, nV .u16 ft] 30]]) rfl rfl (by kernel_rfl) (by kernel_rfl) Try.sizeOf30 (by simp [Value.oneCell']) rfl rfl (by simp) rfl rfl) (fun _ => ?_)
            refine Wl.run 2 (by kernel_rfl) ?_
            refine Wl.nil ?_
            refine hK41 _ _ _ ?_
            refine W.pick (LL' := [[cb p4 [nV .u8 ((inP (mD xs)).toNat), nV .u32 (inA (mD xs) 16), nV .u32 (inA (mD xs) 12), nV .u16 (inT (mD xs)), nV .u16 (inF (mD xs))] 30]]) [1] (by decide) rfl ?_
            refine W.prune' [4, 5, 6] [Value.pointer (some ⟨p4, 0, none⟩), Value.int .i64 3, Value.int .i64 0] (by kernel_rfl) (fun f42 => ?_)
            refine W.ret ?_
            have hm_ : (mR xs == 0) = true := by have z_ := h12; rw [bne] at z_; revert z_; cases (mR xs == 0) <;> simp
            have hQ_ : msQ xs = false := by unfold msQ; rw [hm_, h21]; rfl
            have hR_ : msR xs = true := by unfold msR isEr; rw [hm_, h21, show eqk (mT xs 0) 3 = true from h34]; simp [h39]
            show ∀ w_, _ → bodyPostM (fence none) 0 Try.prog Try.f24 _ Exit.ret _ w_
            exact fun w_ hS_ => fin_ret (ret3 rfl (RV.cellN (b := p4) (o' := 0) (i := 0) (j := 0) (cs := [nV .u8 ((inP (mD xs)).toNat), nV .u32 (inA (mD xs) 16), nV .u32 (inA (mD xs) 12), nV .u16 (inT (mD xs)), nV .u16 (inF (mD xs))]) (vs := [nV .u8 ((inP (mD xs)).toNat), nV .u32 (inA (mD xs) 16), nV .u32 (inA (mD xs) 12), nV .u16 (inT (mD xs)), nV .u16 (inF (mD xs))]) (by kernel_rfl) Try.isAgg30 Try.sizeOf30 rfl rfl rfl rfl) (RV.tmp (v := Value.int .i64 3) (by kernel_rfl)) (RV.tmp (v := Value.int .i64 0) (by kernel_rfl)) hS_ ⟨by clear hK1 hK3 hK8 hK9 hK16 hK17 hK19 hK25 hK26 hK28 hK29 hK36 hK38 hK41; refine congrArg Ending.returned ?_; simp only [msP, msS, msF, msT, msK, msE, hQ_, hR_, hm_, cond_true, cond_false]; try rfl, hS_.below⟩)
          · refine W.skip' ?_
            refine hK25 _ _ _ ?_
            refine W.pick (LL' := [[cb p4 [Value.int .u8 0, Value.int .u32 0, Value.int .u32 0, Value.int .u16 0, Value.int .u16 0] 30], [cb p3 [nV .u8 fp.toNat, nV .u32 fs, nV .u32 fd, nV .u16 ff, nV .u16 ft] 30]]) [1, 2] (by decide) rfl ?_
            refine W.prune' [3, 4] [Value.pointer (some ⟨p3, 0, none⟩), Value.pointer (some ⟨p4, 0, none⟩)] (by kernel_rfl) (fun f43 => ?_)
            refine W.seq (fun K44 hK44 => ?_)
            refine W.region ?_
            refine Wl.ys (v := Value.agg ([nV .u8 fp.toNat, nV .u32 fs, nV .u32 fd, nV .u16 ff, nV .u16 ft]).toArray) rfl rfl (Ys.loadN (b := p3) (o' := 0) (i := 1) (j := 0) (cs := [nV .u8 fp.toNat, nV .u32 fs, nV .u32 fd, nV .u16 ff, nV .u16 ft]) (vs := [nV .u8 fp.toNat, nV .u32 fs, nV .u32 fd, nV .u16 ff, nV .u16 ft]) rfl (by kernel_rfl) Try.isAgg30 Try.sizeOf30 rfl rfl rfl rfl) ?_
            refine Wl.ht rfl (Ht.storeN (b := p4) (o' := 0) (i := 0) (j := 0) (cs := [Value.int .u8 0, Value.int .u32 0, Value.int .u32 0, Value.int .u16 0, Value.int .u16 0]) (vs := [nV .u8 fp.toNat, nV .u32 fs, nV .u32 fd, nV .u16 ff, nV .u16 ft]) (cs' := [nV .u8 fp.toNat, nV .u32 fs, nV .u32 fd, nV .u16 ff, nV .u16 ft]) (LL' := [[cb p4 [nV .u8 fp.toNat, nV .u32 fs, nV .u32 fd, nV .u16 ff, nV .u16 ft] 30], [cb p3 [nV .u8 fp.toNat, nV .u32 fs, nV .u32 fd, nV .u16 ff, nV .u16 ft] 30]]) rfl rfl (by kernel_rfl) (by kernel_rfl) Try.sizeOf30 (by simp [Value.oneCell']) rfl rfl (by simp) rfl rfl) (fun _ => ?_)
            refine Wl.run 2 (by kernel_rfl) ?_
            refine Wl.nil ?_
            refine hK44 _ _ _ ?_
            refine W.pick (LL' := [[cb p4 [nV .u8 fp.toNat, nV .u32 fs, nV .u32 fd, nV .u16 ff, nV .u16 ft] 30]]) [0] (by decide) rfl ?_
            refine W.prune' [4, 5, 6] [Value.pointer (some ⟨p4, 0, none⟩), Value.int .i64 0, Value.int .i64 11] (by kernel_rfl) (fun f45 => ?_)
            refine W.ret ?_
            have hm_ : (mR xs == 0) = true := by have z_ := h12; rw [bne] at z_; revert z_; cases (mR xs == 0) <;> simp
            have hQ_ : msQ xs = false := by unfold msQ; rw [hm_, h21]; rfl
            have hR_ : msR xs = false := by unfold msR isEr; rw [hm_, h21, show eqk (mT xs 0) 3 = true from h34]; simp [h40]
            show ∀ w_, _ → bodyPostM (fence none) 0 Try.prog Try.f24 _ Exit.ret _ w_
            exact fun w_ hS_ => fin_ret (ret3 rfl (RV.cellN (b := p4) (o' := 0) (i := 0) (j := 0) (cs := [nV .u8 fp.toNat, nV .u32 fs, nV .u32 fd, nV .u16 ff, nV .u16 ft]) (vs := [nV .u8 fp.toNat, nV .u32 fs, nV .u32 fd, nV .u16 ff, nV .u16 ft]) (by kernel_rfl) Try.isAgg30 Try.sizeOf30 rfl rfl rfl rfl) (RV.tmp (v := Value.int .i64 0) (by kernel_rfl)) (RV.tmp (v := Value.int .i64 11) (by kernel_rfl)) hS_ ⟨by clear hK1 hK3 hK8 hK9 hK16 hK17 hK19 hK25 hK26 hK28 hK29 hK36 hK38 hK44; refine congrArg Ending.returned ?_; simp only [msP, msS, msF, msT, msK, msE, hQ_, hR_, hm_, cond_true, cond_false]; try rfl, hS_.below⟩)
        · have qh35 := h35; try simp only [Bool.and_eq_true, Bool.or_eq_true, Bool.not_eq_true', Bool.not_eq_false', Bool.and_eq_false_iff, Bool.or_eq_false_iff, decide_eq_true_eq, decide_eq_false_iff_not, beq_iff_eq, bne_iff_ne, beq_eq_false_iff_ne, bne_eq_false_iff_eq] at qh35
          exact absurd (h31.symm.trans h35) (by decide)
      · have qh32 := h32; try simp only [Bool.and_eq_true, Bool.or_eq_true, Bool.not_eq_true', Bool.not_eq_false', Bool.and_eq_false_iff, Bool.or_eq_false_iff, decide_eq_true_eq, decide_eq_false_iff_not, beq_iff_eq, bne_iff_ne, beq_eq_false_iff_ne, bne_eq_false_iff_eq] at qh32
        refine W.seq (fun K46 hK46 => ?_)
        refine W.region ?_
        refine Wl.run 2 (by kernel_rfl) ?_
        refine Wl.nil ?_
        refine hK46 _ _ _ ?_
        refine W.prune' [3, 4, 7, 40, 41] [Value.pointer (some ⟨p3, 0, none⟩), Value.pointer (some ⟨p4, 0, none⟩), Value.pointer (some ⟨p7, 0, none⟩), nV .u8 ((mT xs 0).toNat), Value.bool ((((mT xs 0).toNat : Nat) : Int) == 11)] (by kernel_rfl) (fun f47 => ?_)
        refine W.cond ((((mT xs 0).toNat : Nat) : Int) == 11) (by kernel_rfl) (fun h48 => ?_) (fun h49 => ?_)
        · have qh48 := h48; try simp only [Bool.and_eq_true, Bool.or_eq_true, Bool.not_eq_true', Bool.not_eq_false', Bool.and_eq_false_iff, Bool.or_eq_false_iff, decide_eq_true_eq, decide_eq_false_iff_not, beq_iff_eq, bne_iff_ne, beq_eq_false_iff_ne, bne_eq_false_iff_eq] at qh48
          refine W.skip' ?_
          refine hK28 _ _ _ ?_
          refine W.prune' [3, 4, 7, 41] [Value.pointer (some ⟨p3, 0, none⟩), Value.pointer (some ⟨p4, 0, none⟩), Value.pointer (some ⟨p7, 0, none⟩), Value.bool ((((mT xs 0).toNat : Nat) : Int) == 11)] (by kernel_rfl) (fun f50 => ?_)
          refine W.cond ((((mT xs 0).toNat : Nat) : Int) == 11) (by kernel_rfl) (fun h51 => ?_) (fun h52 => ?_)
          · have qh51 := h51; try simp only [Bool.and_eq_true, Bool.or_eq_true, Bool.not_eq_true', Bool.not_eq_false', Bool.and_eq_false_iff, Bool.or_eq_false_iff, decide_eq_true_eq, decide_eq_false_iff_not, beq_iff_eq, bne_iff_ne, beq_eq_false_iff_ne, bne_eq_false_iff_eq] at qh51
            refine W.seq (fun K53 hK53 => ?_)
            refine W.region ?_
            refine Wl.run 1 (by kernel_rfl) ?_
            refine Wl.ys (v := Value.slice g4.a ((mD xs).length) g4.cap) rfl rfl (Ys.load (b := p7) (o' := 3) (i := 0) (j := 0) (cs := [nV .u8 ((mT xs 0).toNat), nV .u8 ((mT xs 1).toNat), nV .u32 (mN xs), Value.slice g4.a ((mD xs).length) g4.cap]) (v := Value.slice g4.a ((mD xs).length) g4.cap) rfl (by kernel_rfl) Try.isAgg25 rfl rfl rfl) ?_
            refine Wl.yc (v := Value.tuple #[Value.agg ([nV .u8 ((inP (mD xs)).toNat), nV .u32 (inA (mD xs) 12), nV .u32 (inA (mD xs) 16), nV .u16 (inF (mD xs)), nV .u16 (inT (mD xs))]).toArray, Value.bool (inO (mD xs))]) rfl rfl (Yc.call (k := 52) (args := #[Value.slice g4.a ((mD xs).length) g4.cap]) (fun _ => by kernel_rfl) (fun w_ hm_ => (innern_c (mD xs) g4.a g4.cap ((mD xs).length) _ (by first | rfl | (rw [List.length_take]; omega) | (simp; done) | (simp [be_len, be_len, psh_len]; omega)) (FS.at (i := 1) (t := 5) hm_ rfl (FS.nil_cs ok5 (mc_len1 _))) (by first | omega | (simp; omega)) (by have z_ := ok5.le; first | exact z_ | omega | (simp at z_ ⊢; omega))))) ?_
            refine Wl.run 3 (by kernel_rfl) ?_
            refine Wl.ht rfl (Ht.alloc (z := Value.agg ([Value.int .u8 0, Value.int .u32 0, Value.int .u32 0, Value.int .u16 0, Value.int .u16 0]).toArray) (cs := [Value.int .u8 0, Value.int .u32 0, Value.int .u32 0, Value.int .u16 0, Value.int .u16 0]) rfl rfl Try.zeroValue30 rfl) (fun p11 => ?_)
            refine Wl.ht rfl (Ht.storeN (b := p11) (o' := 0) (i := 0) (j := 0) (cs := [Value.int .u8 0, Value.int .u32 0, Value.int .u32 0, Value.int .u16 0, Value.int .u16 0]) (vs := [nV .u8 ((inP (mD xs)).toNat), nV .u32 (inA (mD xs) 12), nV .u32 (inA (mD xs) 16), nV .u16 (inF (mD xs)), nV .u16 (inT (mD xs))]) (cs' := [nV .u8 ((inP (mD xs)).toNat), nV .u32 (inA (mD xs) 12), nV .u32 (inA (mD xs) 16), nV .u16 (inF (mD xs)), nV .u16 (inT (mD xs))]) (LL' := [[cb p11 [nV .u8 ((inP (mD xs)).toNat), nV .u32 (inA (mD xs) 12), nV .u32 (inA (mD xs) 16), nV .u16 (inF (mD xs)), nV .u16 (inT (mD xs))] 30], [cb p7 [nV .u8 ((mT xs 0).toNat), nV .u8 ((mT xs 1).toNat), nV .u32 (mN xs), Value.slice g4.a ((mD xs).length) g4.cap] 65], g4.seg 5 (mc b8 (mD xs)), [cb p4 [Value.int .u8 0, Value.int .u32 0, Value.int .u32 0, Value.int .u16 0, Value.int .u16 0] 30], [cb p3 [nV .u8 fp.toNat, nV .u32 fs, nV .u32 fd, nV .u16 ff, nV .u16 ft] 30]]) rfl rfl (by kernel_rfl) (by kernel_rfl) Try.sizeOf30 (by simp [Value.oneCell']) rfl rfl (by simp) rfl rfl) (fun _ => ?_)
            refine Wl.run 1 (by kernel_rfl) ?_
            refine Wl.nil ?_
            refine hK53 _ _ _ ?_
            refine W.pick (LL' := [[cb p11 [nV .u8 ((inP (mD xs)).toNat), nV .u32 (inA (mD xs) 12), nV .u32 (inA (mD xs) 16), nV .u16 (inF (mD xs)), nV .u16 (inT (mD xs))] 30], [cb p4 [Value.int .u8 0, Value.int .u32 0, Value.int .u32 0, Value.int .u16 0, Value.int .u16 0] 30], [cb p3 [nV .u8 fp.toNat, nV .u32 fs, nV .u32 fd, nV .u16 ff, nV .u16 ft] 30]]) [0, 3, 4] (by decide) rfl ?_
            refine W.prune' [3, 4, 11, 12] [Value.pointer (some ⟨p3, 0, none⟩), Value.pointer (some ⟨p4, 0, none⟩), Value.pointer (some ⟨p11, 0, none⟩), Value.bool (inO (mD xs))] (by kernel_rfl) (fun f54 => ?_)
            refine W.seq (fun K55 hK55 => ?_)
            refine W.region ?_
            refine Wl.run 1 (by kernel_rfl) ?_
            refine Wl.nil ?_
            refine hK55 _ _ _ ?_
            refine W.cond (inO (mD xs)) (by kernel_rfl) (fun h56 => ?_) (fun h57 => ?_)
            · refine W.seq (fun K58 hK58 => ?_)
              refine W.region ?_
              refine Wl.ys (v := Value.agg ([nV .u8 ((inP (mD xs)).toNat), nV .u32 (inA (mD xs) 12), nV .u32 (inA (mD xs) 16), nV .u16 (inF (mD xs)), nV .u16 (inT (mD xs))]).toArray) rfl rfl (Ys.loadN (b := p11) (o' := 0) (i := 0) (j := 0) (cs := [nV .u8 ((inP (mD xs)).toNat), nV .u32 (inA (mD xs) 12), nV .u32 (inA (mD xs) 16), nV .u16 (inF (mD xs)), nV .u16 (inT (mD xs))]) (vs := [nV .u8 ((inP (mD xs)).toNat), nV .u32 (inA (mD xs) 12), nV .u32 (inA (mD xs) 16), nV .u16 (inF (mD xs)), nV .u16 (inT (mD xs))]) rfl (by kernel_rfl) Try.isAgg30 Try.sizeOf30 rfl rfl rfl rfl) ?_
              refine Wl.yc (v := Value.agg ([nV .u8 ((inP (mD xs)).toNat), nV .u32 (inA (mD xs) 16), nV .u32 (inA (mD xs) 12), nV .u16 (inT (mD xs)), nV .u16 (inF (mD xs))]).toArray) rfl rfl (Yc.call (k := 13) (args := #[Value.agg ([nV .u8 ((inP (mD xs)).toNat), nV .u32 (inA (mD xs) 12), nV .u32 (inA (mD xs) 16), nV .u16 (inF (mD xs)), nV .u16 (inT (mD xs))]).toArray]) (fun _ => by kernel_rfl) (fun w_ hm_ => (turn_c (inP (mD xs)) (inA (mD xs) 12) (inA (mD xs) 16) (inF (mD xs)) (inT (mD xs)) _))) ?_
              refine Wl.ht rfl (Ht.storeN (b := p4) (o' := 0) (i := 1) (j := 0) (cs := [Value.int .u8 0, Value.int .u32 0, Value.int .u32 0, Value.int .u16 0, Value.int .u16 0]) (vs := [nV .u8 ((inP (mD xs)).toNat), nV .u32 (inA (mD xs) 16), nV .u32 (inA (mD xs) 12), nV .u16 (inT (mD xs)), nV .u16 (inF (mD xs))]) (cs' := [nV .u8 ((inP (mD xs)).toNat), nV .u32 (inA (mD xs) 16), nV .u32 (inA (mD xs) 12), nV .u16 (inT (mD xs)), nV .u16 (inF (mD xs))]) (LL' := [[cb p11 [nV .u8 ((inP (mD xs)).toNat), nV .u32 (inA (mD xs) 12), nV .u32 (inA (mD xs) 16), nV .u16 (inF (mD xs)), nV .u16 (inT (mD xs))] 30], [cb p4 [nV .u8 ((inP (mD xs)).toNat), nV .u32 (inA (mD xs) 16), nV .u32 (inA (mD xs) 12), nV .u16 (inT (mD xs)), nV .u16 (inF (mD xs))] 30], [cb p3 [nV .u8 fp.toNat, nV .u32 fs, nV .u32 fd, nV .u16 ff, nV .u16 ft] 30]]) rfl rfl (by kernel_rfl) (by kernel_rfl) Try.sizeOf30 (by simp [Value.oneCell']) rfl rfl (by simp) rfl rfl) (fun _ => ?_)
              refine Wl.run 2 (by kernel_rfl) ?_
              refine Wl.nil ?_
              refine hK58 _ _ _ ?_
              refine W.pick (LL' := [[cb p4 [nV .u8 ((inP (mD xs)).toNat), nV .u32 (inA (mD xs) 16), nV .u32 (inA (mD xs) 12), nV .u16 (inT (mD xs)), nV .u16 (inF (mD xs))] 30]]) [1] (by decide) rfl ?_
              refine W.prune' [4, 5, 6] [Value.pointer (some ⟨p4, 0, none⟩), Value.int .i64 3, Value.int .i64 0] (by kernel_rfl) (fun f59 => ?_)
              refine W.ret ?_
              have hm_ : (mR xs == 0) = true := by have z_ := h12; rw [bne] at z_; revert z_; cases (mR xs == 0) <;> simp
              have hQ_ : msQ xs = false := by unfold msQ; rw [hm_, h21]; rfl
              have hR_ : msR xs = true := by unfold msR isEr; rw [hm_, h21, show eqk (mT xs 0) 3 = false from h32, show eqk (mT xs 0) 11 = true from h51]; simp [h56]
              show ∀ w_, _ → bodyPostM (fence none) 0 Try.prog Try.f24 _ Exit.ret _ w_
              exact fun w_ hS_ => fin_ret (ret3 rfl (RV.cellN (b := p4) (o' := 0) (i := 0) (j := 0) (cs := [nV .u8 ((inP (mD xs)).toNat), nV .u32 (inA (mD xs) 16), nV .u32 (inA (mD xs) 12), nV .u16 (inT (mD xs)), nV .u16 (inF (mD xs))]) (vs := [nV .u8 ((inP (mD xs)).toNat), nV .u32 (inA (mD xs) 16), nV .u32 (inA (mD xs) 12), nV .u16 (inT (mD xs)), nV .u16 (inF (mD xs))]) (by kernel_rfl) Try.isAgg30 Try.sizeOf30 rfl rfl rfl rfl) (RV.tmp (v := Value.int .i64 3) (by kernel_rfl)) (RV.tmp (v := Value.int .i64 0) (by kernel_rfl)) hS_ ⟨by clear hK1 hK3 hK8 hK9 hK16 hK17 hK19 hK25 hK26 hK28 hK29 hK46 hK53 hK55 hK58; refine congrArg Ending.returned ?_; simp only [msP, msS, msF, msT, msK, msE, hQ_, hR_, hm_, cond_true, cond_false]; try rfl, hS_.below⟩)
            · refine W.skip' ?_
              refine hK25 _ _ _ ?_
              refine W.pick (LL' := [[cb p4 [Value.int .u8 0, Value.int .u32 0, Value.int .u32 0, Value.int .u16 0, Value.int .u16 0] 30], [cb p3 [nV .u8 fp.toNat, nV .u32 fs, nV .u32 fd, nV .u16 ff, nV .u16 ft] 30]]) [1, 2] (by decide) rfl ?_
              refine W.prune' [3, 4] [Value.pointer (some ⟨p3, 0, none⟩), Value.pointer (some ⟨p4, 0, none⟩)] (by kernel_rfl) (fun f60 => ?_)
              refine W.seq (fun K61 hK61 => ?_)
              refine W.region ?_
              refine Wl.ys (v := Value.agg ([nV .u8 fp.toNat, nV .u32 fs, nV .u32 fd, nV .u16 ff, nV .u16 ft]).toArray) rfl rfl (Ys.loadN (b := p3) (o' := 0) (i := 1) (j := 0) (cs := [nV .u8 fp.toNat, nV .u32 fs, nV .u32 fd, nV .u16 ff, nV .u16 ft]) (vs := [nV .u8 fp.toNat, nV .u32 fs, nV .u32 fd, nV .u16 ff, nV .u16 ft]) rfl (by kernel_rfl) Try.isAgg30 Try.sizeOf30 rfl rfl rfl rfl) ?_
              refine Wl.ht rfl (Ht.storeN (b := p4) (o' := 0) (i := 0) (j := 0) (cs := [Value.int .u8 0, Value.int .u32 0, Value.int .u32 0, Value.int .u16 0, Value.int .u16 0]) (vs := [nV .u8 fp.toNat, nV .u32 fs, nV .u32 fd, nV .u16 ff, nV .u16 ft]) (cs' := [nV .u8 fp.toNat, nV .u32 fs, nV .u32 fd, nV .u16 ff, nV .u16 ft]) (LL' := [[cb p4 [nV .u8 fp.toNat, nV .u32 fs, nV .u32 fd, nV .u16 ff, nV .u16 ft] 30], [cb p3 [nV .u8 fp.toNat, nV .u32 fs, nV .u32 fd, nV .u16 ff, nV .u16 ft] 30]]) rfl rfl (by kernel_rfl) (by kernel_rfl) Try.sizeOf30 (by simp [Value.oneCell']) rfl rfl (by simp) rfl rfl) (fun _ => ?_)
              refine Wl.run 2 (by kernel_rfl) ?_
              refine Wl.nil ?_
              refine hK61 _ _ _ ?_
              refine W.pick (LL' := [[cb p4 [nV .u8 fp.toNat, nV .u32 fs, nV .u32 fd, nV .u16 ff, nV .u16 ft] 30]]) [0] (by decide) rfl ?_
              refine W.prune' [4, 5, 6] [Value.pointer (some ⟨p4, 0, none⟩), Value.int .i64 0, Value.int .i64 11] (by kernel_rfl) (fun f62 => ?_)
              refine W.ret ?_
              have hm_ : (mR xs == 0) = true := by have z_ := h12; rw [bne] at z_; revert z_; cases (mR xs == 0) <;> simp
              have hQ_ : msQ xs = false := by unfold msQ; rw [hm_, h21]; rfl
              have hR_ : msR xs = false := by unfold msR isEr; rw [hm_, h21, show eqk (mT xs 0) 3 = false from h32, show eqk (mT xs 0) 11 = true from h51]; simp [h57]
              show ∀ w_, _ → bodyPostM (fence none) 0 Try.prog Try.f24 _ Exit.ret _ w_
              exact fun w_ hS_ => fin_ret (ret3 rfl (RV.cellN (b := p4) (o' := 0) (i := 0) (j := 0) (cs := [nV .u8 fp.toNat, nV .u32 fs, nV .u32 fd, nV .u16 ff, nV .u16 ft]) (vs := [nV .u8 fp.toNat, nV .u32 fs, nV .u32 fd, nV .u16 ff, nV .u16 ft]) (by kernel_rfl) Try.isAgg30 Try.sizeOf30 rfl rfl rfl rfl) (RV.tmp (v := Value.int .i64 0) (by kernel_rfl)) (RV.tmp (v := Value.int .i64 11) (by kernel_rfl)) hS_ ⟨by clear hK1 hK3 hK8 hK9 hK16 hK17 hK19 hK25 hK26 hK28 hK29 hK46 hK53 hK55 hK61; refine congrArg Ending.returned ?_; simp only [msP, msS, msF, msT, msK, msE, hQ_, hR_, hm_, cond_true, cond_false]; try rfl, hS_.below⟩)
          · have qh52 := h52; try simp only [Bool.and_eq_true, Bool.or_eq_true, Bool.not_eq_true', Bool.not_eq_false', Bool.and_eq_false_iff, Bool.or_eq_false_iff, decide_eq_true_eq, decide_eq_false_iff_not, beq_iff_eq, bne_iff_ne, beq_eq_false_iff_ne, bne_eq_false_iff_eq] at qh52
            exact absurd (h48.symm.trans h52) (by decide)
        · have qh49 := h49; try simp only [Bool.and_eq_true, Bool.or_eq_true, Bool.not_eq_true', Bool.not_eq_false', Bool.and_eq_false_iff, Bool.or_eq_false_iff, decide_eq_true_eq, decide_eq_false_iff_not, beq_iff_eq, bne_iff_ne, beq_eq_false_iff_ne, bne_eq_false_iff_eq] at qh49
          refine W.region ?_
          refine Wl.run 2 (by kernel_rfl) ?_
          refine Wl.nil ?_
          refine hK28 _ _ _ ?_
          refine W.prune' [3, 4, 7, 41] [Value.pointer (some ⟨p3, 0, none⟩), Value.pointer (some ⟨p4, 0, none⟩), Value.pointer (some ⟨p7, 0, none⟩), Value.bool ((((mT xs 0).toNat : Nat) : Int) == 12)] (by kernel_rfl) (fun f63 => ?_)
          refine W.cond ((((mT xs 0).toNat : Nat) : Int) == 12) (by kernel_rfl) (fun h64 => ?_) (fun h65 => ?_)
          · have qh64 := h64; try simp only [Bool.and_eq_true, Bool.or_eq_true, Bool.not_eq_true', Bool.not_eq_false', Bool.and_eq_false_iff, Bool.or_eq_false_iff, decide_eq_true_eq, decide_eq_false_iff_not, beq_iff_eq, bne_iff_ne, beq_eq_false_iff_ne, bne_eq_false_iff_eq] at qh64
            refine W.seq (fun K66 hK66 => ?_)
            refine W.region ?_
            refine Wl.run 1 (by kernel_rfl) ?_
            refine Wl.ys (v := Value.slice g4.a ((mD xs).length) g4.cap) rfl rfl (Ys.load (b := p7) (o' := 3) (i := 0) (j := 0) (cs := [nV .u8 ((mT xs 0).toNat), nV .u8 ((mT xs 1).toNat), nV .u32 (mN xs), Value.slice g4.a ((mD xs).length) g4.cap]) (v := Value.slice g4.a ((mD xs).length) g4.cap) rfl (by kernel_rfl) Try.isAgg25 rfl rfl rfl) ?_
            refine Wl.yc (v := Value.tuple #[Value.agg ([nV .u8 ((inP (mD xs)).toNat), nV .u32 (inA (mD xs) 12), nV .u32 (inA (mD xs) 16), nV .u16 (inF (mD xs)), nV .u16 (inT (mD xs))]).toArray, Value.bool (inO (mD xs))]) rfl rfl (Yc.call (k := 52) (args := #[Value.slice g4.a ((mD xs).length) g4.cap]) (fun _ => by kernel_rfl) (fun w_ hm_ => (innern_c (mD xs) g4.a g4.cap ((mD xs).length) _ (by first | rfl | (rw [List.length_take]; omega) | (simp; done) | (simp [be_len, be_len, psh_len]; omega)) (FS.at (i := 1) (t := 5) hm_ rfl (FS.nil_cs ok5 (mc_len1 _))) (by first | omega | (simp; omega)) (by have z_ := ok5.le; first | exact z_ | omega | (simp at z_ ⊢; omega))))) ?_
            refine Wl.run 3 (by kernel_rfl) ?_
            refine Wl.ht rfl (Ht.alloc (z := Value.agg ([Value.int .u8 0, Value.int .u32 0, Value.int .u32 0, Value.int .u16 0, Value.int .u16 0]).toArray) (cs := [Value.int .u8 0, Value.int .u32 0, Value.int .u32 0, Value.int .u16 0, Value.int .u16 0]) rfl rfl Try.zeroValue30 rfl) (fun p11 => ?_)
            refine Wl.ht rfl (Ht.storeN (b := p11) (o' := 0) (i := 0) (j := 0) (cs := [Value.int .u8 0, Value.int .u32 0, Value.int .u32 0, Value.int .u16 0, Value.int .u16 0]) (vs := [nV .u8 ((inP (mD xs)).toNat), nV .u32 (inA (mD xs) 12), nV .u32 (inA (mD xs) 16), nV .u16 (inF (mD xs)), nV .u16 (inT (mD xs))]) (cs' := [nV .u8 ((inP (mD xs)).toNat), nV .u32 (inA (mD xs) 12), nV .u32 (inA (mD xs) 16), nV .u16 (inF (mD xs)), nV .u16 (inT (mD xs))]) (LL' := [[cb p11 [nV .u8 ((inP (mD xs)).toNat), nV .u32 (inA (mD xs) 12), nV .u32 (inA (mD xs) 16), nV .u16 (inF (mD xs)), nV .u16 (inT (mD xs))] 30], [cb p7 [nV .u8 ((mT xs 0).toNat), nV .u8 ((mT xs 1).toNat), nV .u32 (mN xs), Value.slice g4.a ((mD xs).length) g4.cap] 65], g4.seg 5 (mc b8 (mD xs)), [cb p4 [Value.int .u8 0, Value.int .u32 0, Value.int .u32 0, Value.int .u16 0, Value.int .u16 0] 30], [cb p3 [nV .u8 fp.toNat, nV .u32 fs, nV .u32 fd, nV .u16 ff, nV .u16 ft] 30]]) rfl rfl (by kernel_rfl) (by kernel_rfl) Try.sizeOf30 (by simp [Value.oneCell']) rfl rfl (by simp) rfl rfl) (fun _ => ?_)
            refine Wl.run 1 (by kernel_rfl) ?_
            refine Wl.nil ?_
            refine hK66 _ _ _ ?_
            refine W.pick (LL' := [[cb p11 [nV .u8 ((inP (mD xs)).toNat), nV .u32 (inA (mD xs) 12), nV .u32 (inA (mD xs) 16), nV .u16 (inF (mD xs)), nV .u16 (inT (mD xs))] 30], [cb p4 [Value.int .u8 0, Value.int .u32 0, Value.int .u32 0, Value.int .u16 0, Value.int .u16 0] 30], [cb p3 [nV .u8 fp.toNat, nV .u32 fs, nV .u32 fd, nV .u16 ff, nV .u16 ft] 30]]) [0, 3, 4] (by decide) rfl ?_
            refine W.prune' [3, 4, 11, 12] [Value.pointer (some ⟨p3, 0, none⟩), Value.pointer (some ⟨p4, 0, none⟩), Value.pointer (some ⟨p11, 0, none⟩), Value.bool (inO (mD xs))] (by kernel_rfl) (fun f67 => ?_)
            refine W.seq (fun K68 hK68 => ?_)
            refine W.region ?_
            refine Wl.run 1 (by kernel_rfl) ?_
            refine Wl.nil ?_
            refine hK68 _ _ _ ?_
            refine W.cond (inO (mD xs)) (by kernel_rfl) (fun h69 => ?_) (fun h70 => ?_)
            · refine W.seq (fun K71 hK71 => ?_)
              refine W.region ?_
              refine Wl.ys (v := Value.agg ([nV .u8 ((inP (mD xs)).toNat), nV .u32 (inA (mD xs) 12), nV .u32 (inA (mD xs) 16), nV .u16 (inF (mD xs)), nV .u16 (inT (mD xs))]).toArray) rfl rfl (Ys.loadN (b := p11) (o' := 0) (i := 0) (j := 0) (cs := [nV .u8 ((inP (mD xs)).toNat), nV .u32 (inA (mD xs) 12), nV .u32 (inA (mD xs) 16), nV .u16 (inF (mD xs)), nV .u16 (inT (mD xs))]) (vs := [nV .u8 ((inP (mD xs)).toNat), nV .u32 (inA (mD xs) 12), nV .u32 (inA (mD xs) 16), nV .u16 (inF (mD xs)), nV .u16 (inT (mD xs))]) rfl (by kernel_rfl) Try.isAgg30 Try.sizeOf30 rfl rfl rfl rfl) ?_
              refine Wl.yc (v := Value.agg ([nV .u8 ((inP (mD xs)).toNat), nV .u32 (inA (mD xs) 16), nV .u32 (inA (mD xs) 12), nV .u16 (inT (mD xs)), nV .u16 (inF (mD xs))]).toArray) rfl rfl (Yc.call (k := 13) (args := #[Value.agg ([nV .u8 ((inP (mD xs)).toNat), nV .u32 (inA (mD xs) 12), nV .u32 (inA (mD xs) 16), nV .u16 (inF (mD xs)), nV .u16 (inT (mD xs))]).toArray]) (fun _ => by kernel_rfl) (fun w_ hm_ => (turn_c (inP (mD xs)) (inA (mD xs) 12) (inA (mD xs) 16) (inF (mD xs)) (inT (mD xs)) _))) ?_
              refine Wl.ht rfl (Ht.storeN (b := p4) (o' := 0) (i := 1) (j := 0) (cs := [Value.int .u8 0, Value.int .u32 0, Value.int .u32 0, Value.int .u16 0, Value.int .u16 0]) (vs := [nV .u8 ((inP (mD xs)).toNat), nV .u32 (inA (mD xs) 16), nV .u32 (inA (mD xs) 12), nV .u16 (inT (mD xs)), nV .u16 (inF (mD xs))]) (cs' := [nV .u8 ((inP (mD xs)).toNat), nV .u32 (inA (mD xs) 16), nV .u32 (inA (mD xs) 12), nV .u16 (inT (mD xs)), nV .u16 (inF (mD xs))]) (LL' := [[cb p11 [nV .u8 ((inP (mD xs)).toNat), nV .u32 (inA (mD xs) 12), nV .u32 (inA (mD xs) 16), nV .u16 (inF (mD xs)), nV .u16 (inT (mD xs))] 30], [cb p4 [nV .u8 ((inP (mD xs)).toNat), nV .u32 (inA (mD xs) 16), nV .u32 (inA (mD xs) 12), nV .u16 (inT (mD xs)), nV .u16 (inF (mD xs))] 30], [cb p3 [nV .u8 fp.toNat, nV .u32 fs, nV .u32 fd, nV .u16 ff, nV .u16 ft] 30]]) rfl rfl (by kernel_rfl) (by kernel_rfl) Try.sizeOf30 (by simp [Value.oneCell']) rfl rfl (by simp) rfl rfl) (fun _ => ?_)
              refine Wl.run 2 (by kernel_rfl) ?_
              refine Wl.nil ?_
              refine hK71 _ _ _ ?_
              refine W.pick (LL' := [[cb p4 [nV .u8 ((inP (mD xs)).toNat), nV .u32 (inA (mD xs) 16), nV .u32 (inA (mD xs) 12), nV .u16 (inT (mD xs)), nV .u16 (inF (mD xs))] 30]]) [1] (by decide) rfl ?_
              refine W.prune' [4, 5, 6] [Value.pointer (some ⟨p4, 0, none⟩), Value.int .i64 3, Value.int .i64 0] (by kernel_rfl) (fun f72 => ?_)
              refine W.ret ?_
              have hm_ : (mR xs == 0) = true := by have z_ := h12; rw [bne] at z_; revert z_; cases (mR xs == 0) <;> simp
              have hQ_ : msQ xs = false := by unfold msQ; rw [hm_, h21]; rfl
              have hR_ : msR xs = true := by unfold msR isEr; rw [hm_, h21, show eqk (mT xs 0) 3 = false from h32, show eqk (mT xs 0) 11 = false from h49, show eqk (mT xs 0) 12 = true from h64]; simp [h69]
              show ∀ w_, _ → bodyPostM (fence none) 0 Try.prog Try.f24 _ Exit.ret _ w_
              exact fun w_ hS_ => fin_ret (ret3 rfl (RV.cellN (b := p4) (o' := 0) (i := 0) (j := 0) (cs := [nV .u8 ((inP (mD xs)).toNat), nV .u32 (inA (mD xs) 16), nV .u32 (inA (mD xs) 12), nV .u16 (inT (mD xs)), nV .u16 (inF (mD xs))]) (vs := [nV .u8 ((inP (mD xs)).toNat), nV .u32 (inA (mD xs) 16), nV .u32 (inA (mD xs) 12), nV .u16 (inT (mD xs)), nV .u16 (inF (mD xs))]) (by kernel_rfl) Try.isAgg30 Try.sizeOf30 rfl rfl rfl rfl) (RV.tmp (v := Value.int .i64 3) (by kernel_rfl)) (RV.tmp (v := Value.int .i64 0) (by kernel_rfl)) hS_ ⟨by clear hK1 hK3 hK8 hK9 hK16 hK17 hK19 hK25 hK26 hK28 hK29 hK46 hK66 hK68 hK71; refine congrArg Ending.returned ?_; simp only [msP, msS, msF, msT, msK, msE, hQ_, hR_, hm_, cond_true, cond_false]; try rfl, hS_.below⟩)
            · refine W.skip' ?_
              refine hK25 _ _ _ ?_
              refine W.pick (LL' := [[cb p4 [Value.int .u8 0, Value.int .u32 0, Value.int .u32 0, Value.int .u16 0, Value.int .u16 0] 30], [cb p3 [nV .u8 fp.toNat, nV .u32 fs, nV .u32 fd, nV .u16 ff, nV .u16 ft] 30]]) [1, 2] (by decide) rfl ?_
              refine W.prune' [3, 4] [Value.pointer (some ⟨p3, 0, none⟩), Value.pointer (some ⟨p4, 0, none⟩)] (by kernel_rfl) (fun f73 => ?_)
              refine W.seq (fun K74 hK74 => ?_)
              refine W.region ?_
              refine Wl.ys (v := Value.agg ([nV .u8 fp.toNat, nV .u32 fs, nV .u32 fd, nV .u16 ff, nV .u16 ft]).toArray) rfl rfl (Ys.loadN (b := p3) (o' := 0) (i := 1) (j := 0) (cs := [nV .u8 fp.toNat, nV .u32 fs, nV .u32 fd, nV .u16 ff, nV .u16 ft]) (vs := [nV .u8 fp.toNat, nV .u32 fs, nV .u32 fd, nV .u16 ff, nV .u16 ft]) rfl (by kernel_rfl) Try.isAgg30 Try.sizeOf30 rfl rfl rfl rfl) ?_
              refine Wl.ht rfl (Ht.storeN (b := p4) (o' := 0) (i := 0) (j := 0) (cs := [Value.int .u8 0, Value.int .u32 0, Value.int .u32 0, Value.int .u16 0, Value.int .u16 0]) (vs := [nV .u8 fp.toNat, nV .u32 fs, nV .u32 fd, nV .u16 ff, nV .u16 ft]) (cs' := [nV .u8 fp.toNat, nV .u32 fs, nV .u32 fd, nV .u16 ff, nV .u16 ft]) (LL' := [[cb p4 [nV .u8 fp.toNat, nV .u32 fs, nV .u32 fd, nV .u16 ff, nV .u16 ft] 30], [cb p3 [nV .u8 fp.toNat, nV .u32 fs, nV .u32 fd, nV .u16 ff, nV .u16 ft] 30]]) rfl rfl (by kernel_rfl) (by kernel_rfl) Try.sizeOf30 (by simp [Value.oneCell']) rfl rfl (by simp) rfl rfl) (fun _ => ?_)
              refine Wl.run 2 (by kernel_rfl) ?_
              refine Wl.nil ?_
              refine hK74 _ _ _ ?_
              refine W.pick (LL' := [[cb p4 [nV .u8 fp.toNat, nV .u32 fs, nV .u32 fd, nV .u16 ff, nV .u16 ft] 30]]) [0] (by decide) rfl ?_
              refine W.prune' [4, 5, 6] [Value.pointer (some ⟨p4, 0, none⟩), Value.int .i64 0, Value.int .i64 11] (by kernel_rfl) (fun f75 => ?_)
              refine W.ret ?_
              have hm_ : (mR xs == 0) = true := by have z_ := h12; rw [bne] at z_; revert z_; cases (mR xs == 0) <;> simp
              have hQ_ : msQ xs = false := by unfold msQ; rw [hm_, h21]; rfl
              have hR_ : msR xs = false := by unfold msR isEr; rw [hm_, h21, show eqk (mT xs 0) 3 = false from h32, show eqk (mT xs 0) 11 = false from h49, show eqk (mT xs 0) 12 = true from h64]; simp [h70]
              show ∀ w_, _ → bodyPostM (fence none) 0 Try.prog Try.f24 _ Exit.ret _ w_
              exact fun w_ hS_ => fin_ret (ret3 rfl (RV.cellN (b := p4) (o' := 0) (i := 0) (j := 0) (cs := [nV .u8 fp.toNat, nV .u32 fs, nV .u32 fd, nV .u16 ff, nV .u16 ft]) (vs := [nV .u8 fp.toNat, nV .u32 fs, nV .u32 fd, nV .u16 ff, nV .u16 ft]) (by kernel_rfl) Try.isAgg30 Try.sizeOf30 rfl rfl rfl rfl) (RV.tmp (v := Value.int .i64 0) (by kernel_rfl)) (RV.tmp (v := Value.int .i64 11) (by kernel_rfl)) hS_ ⟨by clear hK1 hK3 hK8 hK9 hK16 hK17 hK19 hK25 hK26 hK28 hK29 hK46 hK66 hK68 hK74; refine congrArg Ending.returned ?_; simp only [msP, msS, msF, msT, msK, msE, hQ_, hR_, hm_, cond_true, cond_false]; try rfl, hS_.below⟩)
          · have qh65 := h65; try simp only [Bool.and_eq_true, Bool.or_eq_true, Bool.not_eq_true', Bool.not_eq_false', Bool.and_eq_false_iff, Bool.or_eq_false_iff, decide_eq_true_eq, decide_eq_false_iff_not, beq_iff_eq, bne_iff_ne, beq_eq_false_iff_ne, bne_eq_false_iff_eq] at qh65
            refine W.skip' ?_
            refine hK25 _ _ _ ?_
            refine W.pick (LL' := [[cb p4 [Value.int .u8 0, Value.int .u32 0, Value.int .u32 0, Value.int .u16 0, Value.int .u16 0] 30], [cb p3 [nV .u8 fp.toNat, nV .u32 fs, nV .u32 fd, nV .u16 ff, nV .u16 ft] 30]]) [2, 3] (by decide) rfl ?_
            refine W.prune' [3, 4] [Value.pointer (some ⟨p3, 0, none⟩), Value.pointer (some ⟨p4, 0, none⟩)] (by kernel_rfl) (fun f76 => ?_)
            refine W.seq (fun K77 hK77 => ?_)
            refine W.region ?_
            refine Wl.ys (v := Value.agg ([nV .u8 fp.toNat, nV .u32 fs, nV .u32 fd, nV .u16 ff, nV .u16 ft]).toArray) rfl rfl (Ys.loadN (b := p3) (o' := 0) (i := 1) (j := 0) (cs := [nV .u8 fp.toNat, nV .u32 fs, nV .u32 fd, nV .u16 ff, nV .u16 ft]) (vs := [nV .u8 fp.toNat, nV .u32 fs, nV .u32 fd, nV .u16 ff, nV .u16 ft]) rfl (by kernel_rfl) Try.isAgg30 Try.sizeOf30 rfl rfl rfl rfl) ?_
            refine Wl.ht rfl (Ht.storeN (b := p4) (o' := 0) (i := 0) (j := 0) (cs := [Value.int .u8 0, Value.int .u32 0, Value.int .u32 0, Value.int .u16 0, Value.int .u16 0]) (vs := [nV .u8 fp.toNat, nV .u32 fs, nV .u32 fd, nV .u16 ff, nV .u16 ft]) (cs' := [nV .u8 fp.toNat, nV .u32 fs, nV .u32 fd, nV .u16 ff, nV .u16 ft]) (LL' := [[cb p4 [nV .u8 fp.toNat, nV .u32 fs, nV .u32 fd, nV .u16 ff, nV .u16 ft] 30], [cb p3 [nV .u8 fp.toNat, nV .u32 fs, nV .u32 fd, nV .u16 ff, nV .u16 ft] 30]]) rfl rfl (by kernel_rfl) (by kernel_rfl) Try.sizeOf30 (by simp [Value.oneCell']) rfl rfl (by simp) rfl rfl) (fun _ => ?_)
            refine Wl.run 2 (by kernel_rfl) ?_
            refine Wl.nil ?_
            refine hK77 _ _ _ ?_
            refine W.pick (LL' := [[cb p4 [nV .u8 fp.toNat, nV .u32 fs, nV .u32 fd, nV .u16 ff, nV .u16 ft] 30]]) [0] (by decide) rfl ?_
            refine W.prune' [4, 5, 6] [Value.pointer (some ⟨p4, 0, none⟩), Value.int .i64 0, Value.int .i64 11] (by kernel_rfl) (fun f78 => ?_)
            refine W.ret ?_
            have hm_ : (mR xs == 0) = true := by have z_ := h12; rw [bne] at z_; revert z_; cases (mR xs == 0) <;> simp
            have hQ_ : msQ xs = false := by unfold msQ; rw [hm_, h21]; rfl
            have hR_ : msR xs = false := by unfold msR isEr; rw [hm_, h21, show eqk (mT xs 0) 3 = false from h32, show eqk (mT xs 0) 11 = false from h49, show eqk (mT xs 0) 12 = false from h65]; simp
            show ∀ w_, _ → bodyPostM (fence none) 0 Try.prog Try.f24 _ Exit.ret _ w_
            exact fun w_ hS_ => fin_ret (ret3 rfl (RV.cellN (b := p4) (o' := 0) (i := 0) (j := 0) (cs := [nV .u8 fp.toNat, nV .u32 fs, nV .u32 fd, nV .u16 ff, nV .u16 ft]) (vs := [nV .u8 fp.toNat, nV .u32 fs, nV .u32 fd, nV .u16 ff, nV .u16 ft]) (by kernel_rfl) Try.isAgg30 Try.sizeOf30 rfl rfl rfl rfl) (RV.tmp (v := Value.int .i64 0) (by kernel_rfl)) (RV.tmp (v := Value.int .i64 11) (by kernel_rfl)) hS_ ⟨by clear hK1 hK3 hK8 hK9 hK16 hK17 hK19 hK25 hK26 hK28 hK29 hK46 hK77; refine congrArg Ending.returned ?_; simp only [msP, msS, msF, msT, msK, msE, hQ_, hR_, hm_, cond_true, cond_false]; try rfl, hS_.below⟩)
theorem messagen_c (tt pr : UInt8) (id s d : Nat) (xs : List UInt8) (a : Option Addr) (cap : Nat) (fp : UInt8) (fs fd ff ft : Nat) (len : Nat) (w : World) (hn : len = xs.length) (hat : At w a (byc xs)) (hi : id < 65536) (hs : s < 4294967296) (hd : d < 4294967296) (hl : xs.length ≤ 100000) (hlc : xs.length ≤ cap)  : Calls Try.prog 24 #[Value.agg ([Value.int .u8 ((tt.toNat : Nat) : Int), Value.int .u8 ((pr.toNat : Nat) : Int), Value.int .u16 ((id : Nat) : Int), Value.int .u32 ((s : Nat) : Int), Value.int .u32 ((d : Nat) : Int), Value.slice a len cap]).toArray, Value.agg ([Value.int .u8 ((fp.toNat : Nat) : Int), Value.int .u32 ((fs : Nat) : Int), Value.int .u32 ((fd : Nat) : Int), Value.int .u16 ((ff : Nat) : Int), Value.int .u16 ((ft : Nat) : Int)]).toArray] w (Ret w (.tuple #[.agg ([Value.int .u8 (((msP fp xs).toNat : Nat) : Int), Value.int .u32 ((msS fs 16 xs : Nat) : Int), Value.int .u32 ((msS fd 12 xs : Nat) : Int), Value.int .u16 ((msF ff xs : Nat) : Int), Value.int .u16 ((msT ft xs : Nat) : Int)]).toArray, .int .i64 (msK xs), .int .i64 (msE xs)])) := by
  subst hn; exact message_c tt pr id s d xs a cap fp fs fd ff ft w hat hi hs hd hl hlc
end Go.Proofs.Ytejeafjkhomdoaa.Oct
