import Derived.Test.YtejeafjkhomdoaaKFl2
set_option linter.unusedVariables false
set_option linter.unusedSimpArgs false
set_option maxRecDepth 20000
namespace Go.Proofs.Ytejeafjkhomdoaa.Oct
open Go.RowKit Base
attribute [local irreducible] Ys Yc Ht HtS HtIn Wl Wd W Mem pf dpf Wa Wo
theorem rword_c (xs : List UInt8) (a : Option Addr) (cap k : Nat) (w : World) (hat : At w a (byc xs)) (hk : k + 1 < xs.length) (hl : xs.length ≤ 1000000) (hlc : xs.length ≤ cap) : Calls Try.prog 56 #[Value.slice a xs.length cap, nV .i64 k] w (Ret w (.int .u16 (w2 xs k : Int))) := by
 refine calls_W (M := []) (LL := []) (n := 18) Try.func56 rfl rfl ma12 (Mem.refl _) (W.seq (fun K1 hK1 => ?_))
 refine W.region (Wl.run 1 ma0 (Wl.nil (hK1 _ _ _ (W.seq (fun K2 hK2 => ?_)))))
 refine W.draws [(0, true), (1, true), (2, true), (3, true), (4, true), (5, true), (6, true), (7, false), (8, false), (9, false), (10, false), (11, false), (12, false), (13, false)] [0, 1, 2, 3, 4, 5, 6] (Mem w [] []) ma0 ma0 ma0 rfl ma0 (fun _ _ h_ => h_.drawn _) (fun _ h_ => h_) (Wd.run 2 ma0 (Wd.ys (v := Value.pointer (some (ela a (k * 1)))) rfl rfl rfl (Ys.byMem fun w_ h_ => Ys.indexAddr (k := .i64) (a := a) (len := xs.length) (cap := cap) (i := (k : Int)) (sz := 1) rfl ma0 ma0 Try.runUnderlying25 Try.sizeOf5 ma1 ma1 ((hat.mem0 h_).here ma14)) (Wd.ys (v := nV .u8 ((xs.getD k 0).toNat)) rfl rfl rfl (Ys.ld (a := ela a (k * 1)) rfl ma0 Try.isAgg5 (fun w_ h_ => (hat.mem0 h_).ld (mc_get1 0 ma7))) ?_)))
 have hb3 : (xs.getD k 0).toNat < 256 := UInt8.toNat_lt _
 refine Wd.ys (v := nV .u16 ((xs.getD k 0).toNat)) rfl rfl rfl ((Ys.pure (v := .int .u16 (icnv .u16 ((xs.getD k 0).toNat : Int))) (fun _ => kr)).conseq (int_congr (wrap_u16 ma1 ma1))) (Wd.ys (v := nV .u16 (256 * ((xs.getD k 0).toNat))) rfl rfl rfl ((Ys.pure (v := .int .u16 (imul .u16 ((256 : Nat) : Int) ((xs.getD k 0).toNat : Int))) (fun _ => kr)).conseq (int_congr (imul_natu rfl ma27))) (Wd.run 1 ma0 (Wd.yc (v := nV .i64 k) rfl rfl rfl (Ys.yc (Ys.pure (fun _ => kr))) (.inr fun _ h_ => h_) (Wd.yc (v := nV .i64 (k + 1)) rfl rfl rfl (Ys.yc ((Ys.pure (v := .int .i64 (iadd .i64 (k : Int) 1)) (fun _ => kr)).conseq (int_congr (iadd_eq ma1 ma1 ma1)))) (.inr fun _ h_ => h_) ?_))))
 refine Wd.yc (v := Value.pointer (some (ela a ((k + 1) * 1)))) rfl rfl rfl (Ys.yc (Ys.byMem fun w_ h_ => Ys.indexAddr (k := .i64) (a := a) (len := xs.length) (cap := cap) (i := ((k + 1 : Nat) : Int)) (sz := 1) rfl ma0 ma0 Try.runUnderlying25 Try.sizeOf5 ma1 ma1 ((hat.mem0 h_).here ma14))) (.inr fun _ h_ => h_) (Wd.yc (v := nV .u8 ((xs.getD (k + 1) 0).toNat)) rfl rfl rfl (Ys.yc (Ys.ld (a := ela a ((k + 1) * 1)) rfl ma0 Try.isAgg5 (fun w_ h_ => (hat.mem0 h_).ld (mc_get1 0 ma7)))) (.inr fun _ h_ => h_) ?_)
 have hb4 : (xs.getD (k + 1) 0).toNat < 256 := UInt8.toNat_lt _
 refine Wd.yc (v := nV .u16 ((xs.getD (k + 1) 0).toNat)) rfl rfl rfl (Ys.yc ((Ys.pure (v := .int .u16 (icnv .u16 ((xs.getD (k + 1) 0).toNat : Int))) (fun _ => kr)).conseq (int_congr (wrap_u16 ma1 ma1)))) (.inr fun _ h_ => h_) (Wd.yc (v := nV .u16 ((256 * ((xs.getD k 0).toNat)) + ((xs.getD (k + 1) 0).toNat))) rfl rfl rfl (Ys.yc ((Ys.pure (v := .int .u16 (iadd .u16 ((256 * ((xs.getD k 0).toNat) : Nat) : Int) ((xs.getD (k + 1) 0).toNat : Int))) (fun _ => kr)).conseq (int_congr (iadd_natu rfl ma27)))) (.inr fun _ h_ => h_) (Wd.yc (v := nV .u16 ((256 * ((xs.getD k 0).toNat)) + ((xs.getD (k + 1) 0).toNat))) rfl rfl rfl (Ys.yc (Ys.pure (fun _ => kr))) (.inl ma0) (Wd.nil (hK2 _ _ _ ?_))))
 refine W.prune' [4] [nV .u16 ((256 * ((xs.getD k 0).toNat)) + ((xs.getD (k + 1) 0).toNat))] ma0 (fun f5 => W.ret ?_)
 show ∀ w_, _ → bodyPostM (fence none) 0 Try.prog Try.f56 _ Exit.ret _ w_
 exact fun w_ hS_ => fin_ret (ret1 rfl (RV.tmp (v := nV .u16 ((256 * ((xs.getD k 0).toNat)) + ((xs.getD (k + 1) 0).toNat))) ma0) hS_ ⟨rfl, hS_.below⟩)
theorem rwordn_c (xs : List UInt8) (a : Option Addr) (cap k : Nat) (len : Nat) (w : World) (hn : len = xs.length) (hat : At w a (byc xs)) (hk : k + 1 < xs.length) (hl : xs.length ≤ 1000000) (hlc : xs.length ≤ cap)  : Calls Try.prog 56 #[.slice a len cap, .int .i64 (k : Int)] w (Ret w (.int .u16 (w2 xs k : Int))) := by
  subst hn; exact rword_c xs a cap k w hat hk hl hlc
theorem raddr_c (xs : List UInt8) (a : Option Addr) (cap k : Nat) (w : World) (hat : At w a (byc xs)) (hk : k + 3 < xs.length) (hl : xs.length ≤ 1000000) (hlc : xs.length ≤ cap) : Calls Try.prog 57 #[Value.slice a xs.length cap, nV .i64 k] w (Ret w (.int .u32 (a4 xs k : Int))) := by
 have hw1 := w2_lt xs k; have hw2 := w2_lt xs (k + 2)
 refine calls_W (M := []) (LL := []) (n := 16) Try.func57 rfl rfl ma12 (Mem.refl _) (W.seq (fun K1 hK1 => ?_))
 refine W.region (Wl.run 1 ma0 (Wl.nil (hK1 _ _ _ (W.seq (fun K2 hK2 => ?_)))))
 refine W.region (Wl.run 2 ma0 (Wl.yc (v := nV .u16 (w2 xs k)) rfl rfl (Yc.call (fun _ => kr) (fun w_ hm_ => (rwordn_c xs a cap k xs.length _ ma5 (hat.mem0 hm_) ma1 ma1 ma4))) (Wl.ys (v := nV .u32 (w2 xs k)) rfl rfl ((Ys.pure (v := .int .u32 (icnv .u32 (w2 xs k : Int))) (fun _ => kr)).conseq (int_congr (wrap_u32 ma1 ma1))) (Wl.ys (v := nV .u32 (65536 * (w2 xs k))) rfl rfl ((Ys.pure (v := .int .u32 (imul .u32 ((65536 : Nat) : Int) (w2 xs k : Int))) (fun _ => kr)).conseq (int_congr (imul_natu rfl ma24))) ?_))))
 refine Wl.run 2 ma0 (Wl.ys (v := nV .i64 (k + 2)) rfl rfl ((Ys.pure (v := .int .i64 (iadd .i64 (k : Int) 2)) (fun _ => kr)).conseq (int_congr (iadd_eq ma1 ma1 ma1))) (Wl.yc (v := nV .u16 (w2 xs (k + 2))) rfl rfl (Yc.call (fun _ => kr) (fun w_ hm_ => (rwordn_c xs a cap (k + 2) xs.length _ ma5 (hat.mem0 hm_) ma1 ma1 ma4))) (Wl.ys (v := nV .u32 (w2 xs (k + 2))) rfl rfl ((Ys.pure (v := .int .u32 (icnv .u32 (w2 xs (k + 2) : Int))) (fun _ => kr)).conseq (int_congr (wrap_u32 ma1 ma1))) (Wl.ys (v := nV .u32 ((65536 * (w2 xs k)) + (w2 xs (k + 2)))) rfl rfl ((Ys.pure (v := .int .u32 (iadd .u32 ((65536 * (w2 xs k) : Nat) : Int) (w2 xs (k + 2) : Int))) (fun _ => kr)).conseq (int_congr (iadd_natu rfl ma24))) ?_))))
 refine Wl.run 1 ma0 (Wl.nil (hK2 _ _ _ (W.prune' [4] [nV .u32 ((65536 * (w2 xs k)) + (w2 xs (k + 2)))] ma0 (fun f3 => W.ret ?_))))
 show ∀ w_, _ → bodyPostM (fence none) 0 Try.prog Try.f57 _ Exit.ret _ w_
 exact fun w_ hS_ => fin_ret (ret1 rfl (RV.tmp (v := nV .u32 ((65536 * (w2 xs k)) + (w2 xs (k + 2)))) ma0) hS_ ⟨by clear hK1 hK2; refine congrArg Ending.returned ?_; first | rfl | exact int_congr (by unfold a4; omega), hS_.below⟩)
theorem raddrn_c (xs : List UInt8) (a : Option Addr) (cap k : Nat) (len : Nat) (w : World) (hn : len = xs.length) (hat : At w a (byc xs)) (hk : k + 3 < xs.length) (hl : xs.length ≤ 1000000) (hlc : xs.length ≤ cap)  : Calls Try.prog 57 #[.slice a len cap, .int .i64 (k : Int)] w (Ret w (.int .u32 (a4 xs k : Int))) := by
  subst hn; exact raddr_c xs a cap k w hat hk hl hlc
theorem rturn_c (pr : UInt8) (s d fr to : Nat) (w : World) : Calls Try.prog 14 #[aV [nV .u8 pr.toNat, nV .u32 s, nV .u32 d, nV .u16 fr, nV .u16 to]] w (Ret w (.agg ([nV .u8 pr.toNat, nV .u32 d, nV .u32 s, nV .u16 to, nV .u16 fr]).toArray)) := by
 refine calls_W (M := []) (LL := []) (n := 14) Try.func14 rfl rfl ma12 (Mem.refl _) (W.seq (fun K1 hK1 => ?_))
 refine W.region (Wl.ht rfl (Ht.box (v := aV [nV .u8 pr.toNat, nV .u32 s, nV .u32 d, nV .u16 fr, nV .u16 to]) (cs := [nV .u8 pr.toNat, nV .u32 s, nV .u32 d, nV .u16 fr, nV .u16 to]) rfl rfl ma0 rfl) (fun p1 => ?_))
 refine Wl.ht rfl (Ht.alloc (z := aV zl0) (cs := zl0) rfl rfl Try.zeroValue30 rfl) (fun p2 => Wl.nil (hK1 _ _ _ (W.seq (fun K2 hK2 => W.region ?_))))
 refine Wl.run 1 ma0 (Wl.ys rfl rfl (Ys.l1 p1 0 1 0 Try.isAgg5) (Wl.run 1 ma0 (Wl.ys rfl rfl (Ys.l1 p1 2 1 0 Try.isAgg24) (Wl.run 1 ma0 ?_))))
 refine Wl.ys rfl rfl (Ys.l1 p1 1 1 0 Try.isAgg24) (Wl.run 1 ma0 (Wl.ys rfl rfl (Ys.l1 p1 4 1 0 Try.isAgg22) (Wl.run 1 ma0 (Wl.ys rfl rfl (Ys.l1 p1 3 1 0 Try.isAgg22) ?_))))
 refine Wl.run 1 ma0 (Wl.ht rfl (Ht.storeN (b := p2) (o' := 0) (i := 0) (j := 0) (vs := [nV .u8 pr.toNat, nV .u32 d, nV .u32 s, nV .u16 to, nV .u16 fr]) (LL' := [[cb p2 [nV .u8 pr.toNat, nV .u32 d, nV .u32 s, nV .u16 to, nV .u16 fr] 30], [cb p1 [nV .u8 pr.toNat, nV .u32 s, nV .u32 d, nV .u16 fr, nV .u16 to] 30]]) rfl rfl ma0 ma0 Try.sizeOf30 ma9 rfl rfl ma12 rfl rfl) (fun _ => ?_))
 refine Wl.nil (hK2 _ _ _ (W.pick (LL' := [[cb p2 [nV .u8 pr.toNat, nV .u32 d, nV .u32 s, nV .u16 to, nV .u16 fr] 30]]) [0] ma3 rfl (W.prune' [2] [pV p2 0] ma0 (fun f3 => W.ret ?_))))
 show ∀ w_, _ → bodyPostM (fence none) 0 Try.prog Try.f14 _ Exit.ret _ w_
 exact fun w_ hS_ => fin_ret (ret1 rfl (RV.cellN (b := p2) (o' := 0) (i := 0) (j := 0) (cs := [nV .u8 pr.toNat, nV .u32 d, nV .u32 s, nV .u16 to, nV .u16 fr]) (vs := [nV .u8 pr.toNat, nV .u32 d, nV .u32 s, nV .u16 to, nV .u16 fr]) ma0 Try.isAgg30 Try.sizeOf30 rfl rfl rfl rfl) hS_ ⟨rfl, hS_.below⟩)
theorem in_tu {xs : List UInt8} (hC : inC xs = false) (h : (i9 xs 6 || i9 xs 17) = true) : inO xs = true ∧ inF xs = w2 xs 20 ∧ inT xs = w2 xs 22 := by
  unfold inO inF inT; rw [hC]
  cases h6 : i9 xs 6 <;> cases h17 : i9 xs 17 <;> simp_all
theorem in_no {xs : List UInt8} (h40 : (i9 xs 6 || i9 xs 17) = false) (h : ((!(i9 xs 1) || !((((xs.getD 21 0).toNat : Nat) : Int) == 0)) || (!((((xs.getD 20 0).toNat : Nat) : Int) == 0) && !((((xs.getD 20 0).toNat : Nat) : Int) == 8))) = true) : inO xs = false := by
  unfold inO ecO
  generalize ((((xs.getD 21 0).toNat : Nat) : Int) == 0) = a at *
  generalize ((((xs.getD 20 0).toNat : Nat) : Int) == 0) = b at *
  generalize ((((xs.getD 20 0).toNat : Nat) : Int) == 8) = c at *
  cases inC xs <;> cases h6 : i9 xs 6 <;> cases h17 : i9 xs 17 <;> cases h1 : i9 xs 1 <;> cases a <;> cases b <;> cases c <;> simp_all
theorem in_yes {xs : List UInt8} (hC : inC xs = false) (h40 : (i9 xs 6 || i9 xs 17) = false) (h : ((!(i9 xs 1) || !((((xs.getD 21 0).toNat : Nat) : Int) == 0)) || (!((((xs.getD 20 0).toNat : Nat) : Int) == 0) && !((((xs.getD 20 0).toNat : Nat) : Int) == 8))) = false) : inO xs = true ∧ inF xs = sel (ecA (xs.getD 20 0)) (w2 xs 24) 0 ∧ inT xs = sel (ecA (xs.getD 20 0)) 0 (w2 xs 24) := by
  unfold inO inF inT ecO
  generalize ((((xs.getD 21 0).toNat : Nat) : Int) == 0) = a at *
  generalize ((((xs.getD 20 0).toNat : Nat) : Int) == 0) = b at *
  generalize ((((xs.getD 20 0).toNat : Nat) : Int) == 8) = c at *
  rw [hC]
  cases h6 : i9 xs 6 <;> cases h17 : i9 xs 17 <;> cases h1 : i9 xs 1 <;> cases a <;> cases b <;> cases c <;> simp_all
abbrev cFl4_1291_0 (p2 : Nat) : List Blk := [cb p2 zl0 30]
theorem rinner_c (xs : List UInt8) (a : Option Addr) (cap : Nat) (w : World) (hat : At w a (byc xs)) (hl : xs.length ≤ 1000000) (hlc : xs.length ≤ cap) : Calls Try.prog 28 #[Value.slice a xs.length cap] w (Ret w (.tuple #[.agg ([nV .u8 ((anU (inO xs) (inP xs)).toNat), nV .u32 (anN (inO xs) (inA xs 12)), nV .u32 (anN (inO xs) (inA xs 16)), nV .u16 (anN (inO xs) (inF xs)), nV .u16 (anN (inO xs) (inT xs))]).toArray, .bool (inO xs)])) := by
 have hw20 := w2_lt xs 20; have hw22 := w2_lt xs 22; have hw24 := w2_lt xs 24; have ha12 := a4_lt xs 12; have ha16 := a4_lt xs 16; have hw6 := w2_lt xs 6
 refine calls_W (M := []) (LL := []) (n := 80) Try.func28 rfl rfl ma12 (Mem.refl _) (W.seq (fun K1 hK1 => ?_))
 refine W.region (Wl.ht rfl (Ht.alloc (z := aV zl0) (cs := zl0) rfl rfl Try.zeroValue30 rfl) (fun p2 => ?_))
 refine Wl.run 1 ma0 (Wl.nil (hK1 _ _ _ (W.seq (fun K2 hK2 => W.seq (fun K3 hK3 => ?_)))))
 refine W.region (Wl.run 4 ma0 ?_)
 refine Wl.guard (v := Value.slice a xs.length cap) (!(decide (((xs.length : Nat) : Int) < 28))) rfl (wantF rfl ma0) rfl (fun hg4 => ?_) ?_
 ·exact Ys.pure (fun _ => kr)
 refine Wl.guard (v := Value.pointer (some (ela a 0))) (!(decide (((xs.length : Nat) : Int) < 28))) rfl (wantF rfl ma0) rfl (fun hg5 => ?_) ?_
 ·have qhg5 := hg5; try simp only [zA] at qhg5
  refine Ys.at (t := 9) (v0 := Value.slice a xs.length cap) (lz (g := !(decide (((xs.length : Nat) : Int) < 28))) (u := undef) hg5 ma0) ?_
  exact Ys.byMem fun w_ h_ => Ys.indexAddr (k := .i64) (a := a) (len := xs.length) (cap := cap) (i := 0) (sz := 1) rfl ma0 ma0 Try.runUnderlying25 Try.sizeOf5 ma1 ma1 ((hat.mem0 h_).here ma14)
 refine Wl.guard (v := nV .u8 ((xs.getD 0 0).toNat)) (!(decide (((xs.length : Nat) : Int) < 28))) rfl (wantF rfl ma0) rfl (fun hg6 => ?_) ?_
 ·have qhg6 := hg6; try simp only [zA] at qhg6
  refine Ys.at (t := 10) (v0 := Value.pointer (some (ela a 0))) (lz (g := !(decide (((xs.length : Nat) : Int) < 28))) (u := undef) hg6 ma0) ?_
  exact Ys.ld (a := ela a 0) rfl ma0 Try.isAgg5 (fun w_ h_ => (hat.mem0 h_).ld (mc_get 0 ma7))
 refine Wl.guard (v := bV ((((xs.getD 0 0).toNat : Nat) : Int) != 69)) (!(decide (((xs.length : Nat) : Int) < 28))) rfl (wantF rfl ma0) rfl (fun hg7 => ?_) ?_
 ·have qhg7 := hg7; try simp only [zA] at qhg7
  refine Ys.at (t := 11) (v0 := nV .u8 ((xs.getD 0 0).toNat)) (lz (g := !(decide (((xs.length : Nat) : Int) < 28))) (u := undef) hg7 ma0) ?_
  exact Ys.pure (fun _ => kr)
 refine Wl.ys (v := bV ((decide (((xs.length : Nat) : Int) < 28)) || ((((xs.getD 0 0).toNat : Nat) : Int) != 69))) rfl rfl (Ys.or' (e := decide (((xs.length : Nat) : Int) < 28)) (b := ((xs.getD 0 0).toNat : Int) != 69) rfl ma0 ma0 ma0) (Wl.run 1 ma0 ?_)
 refine Wl.guard (v := Value.slice a xs.length cap) (!((decide (((xs.length : Nat) : Int) < 28)) || ((((xs.getD 0 0).toNat : Nat) : Int) != 69))) rfl (wantF rfl ma0) rfl (fun hg8 => ?_) ?_
 ·exact Ys.pure (fun _ => kr)
 refine Wl.guardc (v := nV .u16 (w2 xs 6)) (!((decide (((xs.length : Nat) : Int) < 28)) || ((((xs.getD 0 0).toNat : Nat) : Int) != 69))) rfl (wantF rfl ma0) rfl (fun hg9 => ?_) ?_
 ·have qhg9 := hg9; try simp only [zA] at qhg9
  refine Yc.at (t := 15) (v0 := Value.slice a xs.length cap) (lz (g := !((decide (((xs.length : Nat) : Int) < 28)) || ((((xs.getD 0 0).toNat : Nat) : Int) != 69))) (u := undef) hg9 ma0) ?_
  exact Yc.call (fun _ => kr) (fun w_ hm_ => (rwordn_c xs a cap 6 xs.length _ ma5 (hat.mem0 hm_) ma1 ma1 ma4))
 refine Wl.guard (v := nV .u16 ((w2 xs 6) % 8192)) (!((decide (((xs.length : Nat) : Int) < 28)) || ((((xs.getD 0 0).toNat : Nat) : Int) != 69))) rfl (wantF rfl ma0) rfl (fun hg10 => ?_) ?_
 ·have qhg10 := hg10; try simp only [zA] at qhg10
  refine Ys.at (t := 16) (v0 := nV .u16 (w2 xs 6)) (lz (g := !((decide (((xs.length : Nat) : Int) < 28)) || ((((xs.getD 0 0).toNat : Nat) : Int) != 69))) (u := undef) hg10 ma0) ?_
  exact (Ys.pure (v := .int .u16 (irem ((w2 xs 6 : Nat) : Int) ((8192 : Nat) : Int))) (fun _ => kr)).conseq (int_congr (rfl))
 refine Wl.guard (v := bV ((((w2 xs 6) % 8192 : Nat) : Int) != 0)) (!((decide (((xs.length : Nat) : Int) < 28)) || ((((xs.getD 0 0).toNat : Nat) : Int) != 69))) rfl (wantF rfl ma0) rfl (fun hg11 => ?_) ?_
 ·have qhg11 := hg11; try simp only [zA] at qhg11
  refine Ys.at (t := 17) (v0 := nV .u16 ((w2 xs 6) % 8192)) (lz (g := !((decide (((xs.length : Nat) : Int) < 28)) || ((((xs.getD 0 0).toNat : Nat) : Int) != 69))) (u := undef) hg11 ma0) ?_
  exact Ys.pure (fun _ => kr)
 refine Wl.ys (v := bV (((decide (((xs.length : Nat) : Int) < 28)) || ((((xs.getD 0 0).toNat : Nat) : Int) != 69)) || ((((w2 xs 6) % 8192 : Nat) : Int) != 0))) rfl rfl (Ys.or' (e := (decide (((xs.length : Nat) : Int) < 28)) || ((((xs.getD 0 0).toNat : Nat) : Int) != 69)) (b := (((w2 xs 6) % 8192 : Nat) : Int) != 0) rfl ma0 ma0 ma0) (Wl.nil (hK3 _ _ _ (W.prune' [0, 2, 19] [Value.slice a xs.length cap, pV p2 0, bV (((decide (((xs.length : Nat) : Int) < 28)) || ((((xs.getD 0 0).toNat : Nat) : Int) != 69)) || ((((w2 xs 6) % 8192 : Nat) : Int) != 0))] ma0 (fun f12 => ?_))))
 refine W.cond (((decide (((xs.length : Nat) : Int) < 28)) || ((((xs.getD 0 0).toNat : Nat) : Int) != 69)) || ((((w2 xs 6) % 8192 : Nat) : Int) != 0)) ma0 (fun h13 => ?_) (fun h14 => ?_)
 ·have qh13 := h13; try simp only [zA] at qh13
  refine W.seq (fun K15 hK15 => W.region (Wl.run 1 ma0 (Wl.ht rfl (Ht.storeN (b := p2) (o' := 0) (i := 0) (j := 0) (vs := zl0) (LL' := [cFl4_1291_0 p2]) rfl rfl ma0 ma0 Try.sizeOf30 ma9 rfl rfl ma12 rfl rfl) (fun _ => Wl.run 1 ma0 ?_))))
  refine Wl.nil (hK15 _ _ _ (W.ret ?_))
  have hC_ : inC xs = true := h13
  have hO_ : inO xs = false := by unfold inO; rw [hC_]; rfl
  show ∀ w_, _ → bodyPostM (fence none) 0 Try.prog Try.f28 _ Exit.ret _ w_
  exact fun w_ hS_ => fin_ret (ret2 rfl (RV.cellN (b := p2) (o' := 0) (i := 0) (j := 0) (cs := zl0) (vs := zl0) ma0 Try.isAgg30 Try.sizeOf30 rfl rfl rfl rfl) (RV.tmp (v := bV false) ma0) hS_ ⟨by clear hK1 hK2 hK3 hK15; refine congrArg Ending.returned ?_; simp only [anU, anN, hO_, cond_false]; rfl, hS_.below⟩)
 ·have qh14 := h14; try simp only [zA] at qh14
  refine W.skip' (hK2 _ _ _ (W.seq (fun K16 hK16 => W.drawsA [0, 1, 2, 3, 5, 7] (Mem w [] [cFl4_1291_0 p2]) ma0 ma0 (fun _ _ h_ => h_.drawn _) ?_)))
  refine Wa.lets (w0 := w) (M := []) [0, 2, 4, 28] (fun (z24 : Nat) => [Value.slice a xs.length cap, pV p2 0, pV z24 0, aV [nV .u8 ((xs.getD 9 0).toNat), nV .u32 (a4 xs 12), nV .u32 (a4 xs 16), iV .u16 0, iV .u16 0]]) (fun (z24 : Nat) => True) (fun (z24 : Nat) => [[cb z24 zl0 30], cFl4_1291_0 p2]) 1 #[true, true, true, true, true, true, true, true, true, false] (fun z24 hp25 f26 => ?_) (fun JD22 => ?_)
  ·obtain ⟨p4, rfl⟩ : ∃ a_, a_ = z24 := ⟨_, rfl⟩
   refine Wa.only (i := 9) ma0 (Wo.ht rfl rfl (Ht.storeN (b := p4) (o' := 0) (i := 0) (j := 0) (vs := [nV .u8 ((xs.getD 9 0).toNat), nV .u32 (a4 xs 12), nV .u32 (a4 xs 16), iV .u16 0, iV .u16 0]) (LL' := [[cb p4 [nV .u8 ((xs.getD 9 0).toNat), nV .u32 (a4 xs 12), nV .u32 (a4 xs 16), iV .u16 0, iV .u16 0] 30], cFl4_1291_0 p2]) rfl rfl ma0 ma0 Try.sizeOf30 ma9 rfl rfl ma12 rfl rfl) (.inl ma0) (fun _ => ?_))
   refine Wa.nil ma0 (hK16 _ _ _ (W.seq (fun K27 hK27 => W.seq (fun K28 hK28 => W.region ?_))))
   refine Wl.run 1 ma0 (Wl.ys (v := Value.pointer (some (ela a 9))) rfl rfl (Ys.byMem fun w_ h_ => Ys.indexAddr (k := .i64) (a := a) (len := xs.length) (cap := cap) (i := 9) (sz := 1) rfl ma0 ma0 Try.runUnderlying25 Try.sizeOf5 ma1 ma1 ((hat.mem0 h_).here ma14)) (Wl.ys (v := nV .u8 ((xs.getD 9 0).toNat)) rfl rfl (Ys.ld (a := ela a 9) rfl ma0 Try.isAgg5 (fun w_ h_ => (hat.mem0 h_).ld (mc_get 0 ma7))) ?_))
   have hb29 : (xs.getD 9 0).toNat < 256 := UInt8.toNat_lt _
   refine Wl.run 2 ma0 ?_
   refine Wl.guard (v := Value.slice a xs.length cap) (!((((xs.getD 9 0).toNat : Nat) : Int) == 6)) rfl (wantF rfl ma0) rfl (fun hg30 => ?_) ?_
   ·exact Ys.pure (fun _ => kr)
   refine Wl.guard (v := Value.pointer (some (ela a 9))) (!((((xs.getD 9 0).toNat : Nat) : Int) == 6)) rfl (wantF rfl ma0) rfl (fun hg31 => ?_) ?_
   ·have qhg31 := hg31; try simp only [zA] at qhg31
    refine Ys.at (t := 34) (v0 := Value.slice a xs.length cap) (lz (g := !((((xs.getD 9 0).toNat : Nat) : Int) == 6)) (u := undef) hg31 ma0) ?_
    exact Ys.byMem fun w_ h_ => Ys.indexAddr (k := .i64) (a := a) (len := xs.length) (cap := cap) (i := 9) (sz := 1) rfl ma0 ma0 Try.runUnderlying25 Try.sizeOf5 ma1 ma1 ((hat.mem0 h_).here ma14)
   refine Wl.guard (v := nV .u8 ((xs.getD 9 0).toNat)) (!((((xs.getD 9 0).toNat : Nat) : Int) == 6)) rfl (wantF rfl ma0) rfl (fun hg32 => ?_) ?_
   ·have qhg32 := hg32; try simp only [zA] at qhg32
    refine Ys.at (t := 35) (v0 := Value.pointer (some (ela a 9))) (lz (g := !((((xs.getD 9 0).toNat : Nat) : Int) == 6)) (u := undef) hg32 ma0) ?_
    exact Ys.ld (a := ela a 9) rfl ma0 Try.isAgg5 (fun w_ h_ => (hat.mem0 h_).ld (mc_get 0 ma7))
   refine Wl.guard (v := bV ((((xs.getD 9 0).toNat : Nat) : Int) == 17)) (!((((xs.getD 9 0).toNat : Nat) : Int) == 6)) rfl (wantF rfl ma0) rfl (fun hg33 => ?_) ?_
   ·refine Ys.at (t := 36) (v0 := nV .u8 ((xs.getD 9 0).toNat)) (lz (g := !((((xs.getD 9 0).toNat : Nat) : Int) == 6)) (u := undef) hg33 ma0) ?_
    exact Ys.pure (fun _ => kr)
   refine Wl.ys (v := bV ((((xs.getD 9 0).toNat : Int) == 6) || ((((xs.getD 9 0).toNat : Nat) : Int) == 17))) rfl rfl (Ys.or' (e := ((xs.getD 9 0).toNat : Int) == 6) (b := ((xs.getD 9 0).toNat : Int) == 17) rfl ma0 ma0 ma0) (Wl.nil (hK28 _ _ _ (W.prune' [0, 2, 4, 38] [Value.slice a xs.length cap, pV p2 0, pV p4 0, bV ((((xs.getD 9 0).toNat : Int) == 6) || ((((xs.getD 9 0).toNat : Nat) : Int) == 17))] ma0 (fun f34 => ?_))))
   refine W.cond ((((xs.getD 9 0).toNat : Int) == 6) || ((((xs.getD 9 0).toNat : Nat) : Int) == 17)) ma0 (fun h35 => ?_) (fun h36 => ?_)
   ·have qh35 := h35; try simp only [zA] at qh35
    refine W.seq (fun K37 hK37 => W.region (Wl.run 1 ma0 (Wl.yc (v := nV .u16 (w2 xs 20)) rfl rfl (Yc.call (fun _ => kr) (fun w_ hm_ => (rwordn_c xs a cap 20 xs.length _ ma5 (hat.mem0 hm_) ma1 ma1 ma4))) (Wl.run 1 ma0 ?_))))
    refine Wl.ht rfl (Ht.store (b := p4) (o' := 3) (i := 0) (j := 0) (v := nV .u16 (w2 xs 20)) (LL' := [[cb p4 [nV .u8 ((xs.getD 9 0).toNat), nV .u32 (a4 xs 12), nV .u32 (a4 xs 16), nV .u16 (w2 xs 20), iV .u16 0] 30], cFl4_1291_0 p2]) rfl rfl ma0 ma0 Try.sizeOf22 rfl rfl rfl ma12 rfl rfl) (fun _ => Wl.nil (hK37 _ _ _ (W.seq (fun K38 hK38 => W.region ?_))))
    refine Wl.run 1 ma0 (Wl.yc (v := nV .u16 (w2 xs 22)) rfl rfl (Yc.call (fun _ => kr) (fun w_ hm_ => (rwordn_c xs a cap 22 xs.length _ ma5 (hat.mem0 hm_) ma1 ma1 ma4))) (Wl.run 1 ma0 (Wl.ht rfl (Ht.store (b := p4) (o' := 4) (i := 0) (j := 0) (v := nV .u16 (w2 xs 22)) (LL' := [[cb p4 [nV .u8 ((xs.getD 9 0).toNat), nV .u32 (a4 xs 12), nV .u32 (a4 xs 16), nV .u16 (w2 xs 20), nV .u16 (w2 xs 22)] 30], cFl4_1291_0 p2]) rfl rfl ma0 ma0 Try.sizeOf22 rfl rfl rfl ma12 rfl rfl) (fun _ => Wl.nil ?_))))
    refine hK38 _ _ _ (W.seq (fun K39 hK39 => ?_))
    refine W.region (Wl.ys rfl rfl (Ys.loadN (b := p4) (o' := 0) (i := 0) (j := 0) (vs := [nV .u8 ((xs.getD 9 0).toNat), nV .u32 (a4 xs 12), nV .u32 (a4 xs 16), nV .u16 (w2 xs 20), nV .u16 (w2 xs 22)]) rfl ma0 Try.isAgg30 Try.sizeOf30 rfl rfl rfl rfl) (Wl.ht rfl (Ht.storeN (b := p2) (o' := 0) (i := 1) (j := 0) (vs := [nV .u8 ((xs.getD 9 0).toNat), nV .u32 (a4 xs 12), nV .u32 (a4 xs 16), nV .u16 (w2 xs 20), nV .u16 (w2 xs 22)]) (LL' := [[cb p4 [nV .u8 ((xs.getD 9 0).toNat), nV .u32 (a4 xs 12), nV .u32 (a4 xs 16), nV .u16 (w2 xs 20), nV .u16 (w2 xs 22)] 30], [cb p2 [nV .u8 ((xs.getD 9 0).toNat), nV .u32 (a4 xs 12), nV .u32 (a4 xs 16), nV .u16 (w2 xs 20), nV .u16 (w2 xs 22)] 30]]) rfl rfl ma0 ma0 Try.sizeOf30 ma9 rfl rfl ma12 rfl rfl) (fun _ => Wl.run 1 ma0 (Wl.nil ?_))))
    refine hK39 _ _ _ (W.pick (LL' := [[cb p2 [nV .u8 ((xs.getD 9 0).toNat), nV .u32 (a4 xs 12), nV .u32 (a4 xs 16), nV .u16 (w2 xs 20), nV .u16 (w2 xs 22)] 30]]) [1] ma3 rfl (W.prune' [2, 3] [pV p2 0, bV true] ma0 (fun f40 => W.ret ?_)))
    have hC_ : inC xs = false := h14
    obtain ⟨hO_, hF_, hT_⟩ := in_tu hC_ h35
    show ∀ w_, _ → bodyPostM (fence none) 0 Try.prog Try.f28 _ Exit.ret _ w_
    exact fun w_ hS_ => fin_ret (ret2 rfl (RV.cellN (b := p2) (o' := 0) (i := 0) (j := 0) (cs := [nV .u8 ((xs.getD 9 0).toNat), nV .u32 (a4 xs 12), nV .u32 (a4 xs 16), nV .u16 (w2 xs 20), nV .u16 (w2 xs 22)]) (vs := [nV .u8 ((xs.getD 9 0).toNat), nV .u32 (a4 xs 12), nV .u32 (a4 xs 16), nV .u16 (w2 xs 20), nV .u16 (w2 xs 22)]) ma0 Try.isAgg30 Try.sizeOf30 rfl rfl rfl rfl) (RV.tmp (v := bV true) ma0) hS_ ⟨by clear hK1 hK2 hK3 hK16 hK27 hK28 hK37 hK38 hK39; refine congrArg Ending.returned ?_; simp only [anU, anN, hO_, hF_, hT_, inP, inA, hC_, cond_true, cond_false]; try rfl, hS_.below⟩)
   ·have qh36 := h36; try simp only [zA] at qh36
    refine W.skip' (hK27 _ _ _ (W.seq (fun K41 hK41 => W.seq (fun K42 hK42 => W.region ?_))))
    refine Wl.run 1 ma0 (Wl.ys (v := Value.pointer (some (ela a 9))) rfl rfl (Ys.byMem fun w_ h_ => Ys.indexAddr (k := .i64) (a := a) (len := xs.length) (cap := cap) (i := 9) (sz := 1) rfl ma0 ma0 Try.runUnderlying25 Try.sizeOf5 ma1 ma1 ((hat.mem0 h_).here ma14)) (Wl.ys (v := nV .u8 ((xs.getD 9 0).toNat)) rfl rfl (Ys.ld (a := ela a 9) rfl ma0 Try.isAgg5 (fun w_ h_ => (hat.mem0 h_).ld (mc_get 0 ma7))) ?_))
    have hb43 : (xs.getD 9 0).toNat < 256 := UInt8.toNat_lt _
    refine Wl.run 2 ma0 ?_
    refine Wl.guard (v := Value.slice a xs.length cap) (!((((xs.getD 9 0).toNat : Nat) : Int) != 1)) rfl (wantF rfl ma0) rfl (fun hg44 => ?_) ?_
    ·exact Ys.pure (fun _ => kr)
    refine Wl.guard (v := Value.pointer (some (ela a 21))) (!((((xs.getD 9 0).toNat : Nat) : Int) != 1)) rfl (wantF rfl ma0) rfl (fun hg45 => ?_) ?_
    ·have qhg45 := hg45; try simp only [zA] at qhg45
     refine Ys.at (t := 51) (v0 := Value.slice a xs.length cap) (lz (g := !((((xs.getD 9 0).toNat : Nat) : Int) != 1)) (u := undef) hg45 ma0) ?_
     exact Ys.byMem fun w_ h_ => Ys.indexAddr (k := .i64) (a := a) (len := xs.length) (cap := cap) (i := 21) (sz := 1) rfl ma0 ma0 Try.runUnderlying25 Try.sizeOf5 ma1 ma1 ((hat.mem0 h_).here ma14)
    refine Wl.guard (v := nV .u8 ((xs.getD 21 0).toNat)) (!((((xs.getD 9 0).toNat : Nat) : Int) != 1)) rfl (wantF rfl ma0) rfl (fun hg46 => ?_) ?_
    ·have qhg46 := hg46; try simp only [zA] at qhg46
     refine Ys.at (t := 52) (v0 := Value.pointer (some (ela a 21))) (lz (g := !((((xs.getD 9 0).toNat : Nat) : Int) != 1)) (u := undef) hg46 ma0) ?_
     exact Ys.ld (a := ela a 21) rfl ma0 Try.isAgg5 (fun w_ h_ => (hat.mem0 h_).ld (mc_get 0 ma7))
    refine Wl.guard (v := bV ((((xs.getD 21 0).toNat : Nat) : Int) != 0)) (!((((xs.getD 9 0).toNat : Nat) : Int) != 1)) rfl (wantF rfl ma0) rfl (fun hg47 => ?_) ?_
    ·refine Ys.at (t := 53) (v0 := nV .u8 ((xs.getD 21 0).toNat)) (lz (g := !((((xs.getD 9 0).toNat : Nat) : Int) != 1)) (u := undef) hg47 ma0) ?_
     exact Ys.pure (fun _ => kr)
    refine Wl.ys (v := bV ((((xs.getD 9 0).toNat : Int) != 1) || ((((xs.getD 21 0).toNat : Nat) : Int) != 0))) rfl rfl (Ys.or' (e := ((xs.getD 9 0).toNat : Int) != 1) (b := ((xs.getD 21 0).toNat : Int) != 0) rfl ma0 ma0 ma0) (Wl.run 1 ma0 ?_)
    refine Wl.guard (v := Value.slice a xs.length cap) (!((((xs.getD 9 0).toNat : Int) != 1) || ((((xs.getD 21 0).toNat : Nat) : Int) != 0))) rfl (wantF rfl ma0) rfl (fun hg48 => ?_) ?_
    ·exact Ys.pure (fun _ => kr)
    refine Wl.guard (v := Value.pointer (some (ela a 20))) (!((((xs.getD 9 0).toNat : Int) != 1) || ((((xs.getD 21 0).toNat : Nat) : Int) != 0))) rfl (wantF rfl ma0) rfl (fun hg49 => ?_) ?_
    ·have qhg49 := hg49; try simp only [zA] at qhg49
     refine Ys.at (t := 57) (v0 := Value.slice a xs.length cap) (lz (g := !((((xs.getD 9 0).toNat : Int) != 1) || ((((xs.getD 21 0).toNat : Nat) : Int) != 0))) (u := undef) hg49 ma0) ?_
     exact Ys.byMem fun w_ h_ => Ys.indexAddr (k := .i64) (a := a) (len := xs.length) (cap := cap) (i := 20) (sz := 1) rfl ma0 ma0 Try.runUnderlying25 Try.sizeOf5 ma1 ma1 ((hat.mem0 h_).here ma14)
    refine Wl.guard (v := nV .u8 ((xs.getD 20 0).toNat)) (!((((xs.getD 9 0).toNat : Int) != 1) || ((((xs.getD 21 0).toNat : Nat) : Int) != 0))) rfl (wantF rfl ma0) rfl (fun hg50 => ?_) ?_
    ·have qhg50 := hg50; try simp only [zA] at qhg50
     refine Ys.at (t := 58) (v0 := Value.pointer (some (ela a 20))) (lz (g := !((((xs.getD 9 0).toNat : Int) != 1) || ((((xs.getD 21 0).toNat : Nat) : Int) != 0))) (u := undef) hg50 ma0) ?_
     exact Ys.ld (a := ela a 20) rfl ma0 Try.isAgg5 (fun w_ h_ => (hat.mem0 h_).ld (mc_get 0 ma7))
    refine Wl.guard (v := bV ((((xs.getD 20 0).toNat : Nat) : Int) != 0)) (!((((xs.getD 9 0).toNat : Int) != 1) || ((((xs.getD 21 0).toNat : Nat) : Int) != 0))) rfl (wantF rfl ma0) rfl (fun hg51 => ?_) ?_
    ·refine Ys.at (t := 59) (v0 := nV .u8 ((xs.getD 20 0).toNat)) (lz (g := !((((xs.getD 9 0).toNat : Int) != 1) || ((((xs.getD 21 0).toNat : Nat) : Int) != 0))) (u := undef) hg51 ma0) ?_
     exact Ys.pure (fun _ => kr)
    refine Wl.guard (v := bV ((((xs.getD 20 0).toNat : Nat) : Int) != 0)) (!((((xs.getD 9 0).toNat : Int) != 1) || ((((xs.getD 21 0).toNat : Nat) : Int) != 0))) rfl (wantF rfl ma0) rfl (fun hg52 => ?_) ?_
    ·refine Ys.at (t := 60) (v0 := bV ((((xs.getD 20 0).toNat : Nat) : Int) != 0)) (lz (g := !((((xs.getD 9 0).toNat : Int) != 1) || ((((xs.getD 21 0).toNat : Nat) : Int) != 0))) (u := undef) hg52 ma0) ?_
     exact Ys.pure (fun _ => kr)
    refine Wl.guard (v := Value.slice a xs.length cap) ((!((((xs.getD 9 0).toNat : Int) != 1) || ((((xs.getD 21 0).toNat : Nat) : Int) != 0))) && ((((xs.getD 20 0).toNat : Nat) : Int) != 0)) rfl (wantTz rfl rfl ma0) rfl (fun hg53 => ?_) ?_
    ·exact Ys.pure (fun _ => kr)
    refine Wl.guard (v := Value.pointer (some (ela a 20))) ((!((((xs.getD 9 0).toNat : Int) != 1) || ((((xs.getD 21 0).toNat : Nat) : Int) != 0))) && ((((xs.getD 20 0).toNat : Nat) : Int) != 0)) rfl (wantTz rfl rfl ma0) rfl (fun hg54 => ?_) ?_
    ·have qhg54 := hg54; try simp only [zA] at qhg54
     refine Ys.at (t := 62) (v0 := Value.slice a xs.length cap) (lz (g := (!((((xs.getD 9 0).toNat : Int) != 1) || ((((xs.getD 21 0).toNat : Nat) : Int) != 0))) && ((((xs.getD 20 0).toNat : Nat) : Int) != 0)) (u := undef) hg54 ma0) ?_
     exact Ys.byMem fun w_ h_ => Ys.indexAddr (k := .i64) (a := a) (len := xs.length) (cap := cap) (i := 20) (sz := 1) rfl ma0 ma0 Try.runUnderlying25 Try.sizeOf5 ma1 ma1 ((hat.mem0 h_).here ma14)
    refine Wl.guard (v := nV .u8 ((xs.getD 20 0).toNat)) ((!((((xs.getD 9 0).toNat : Int) != 1) || ((((xs.getD 21 0).toNat : Nat) : Int) != 0))) && ((((xs.getD 20 0).toNat : Nat) : Int) != 0)) rfl (wantTz rfl rfl ma0) rfl (fun hg55 => ?_) ?_
    ·have qhg55 := hg55; try simp only [zA] at qhg55
     refine Ys.at (t := 63) (v0 := Value.pointer (some (ela a 20))) (lz (g := (!((((xs.getD 9 0).toNat : Int) != 1) || ((((xs.getD 21 0).toNat : Nat) : Int) != 0))) && ((((xs.getD 20 0).toNat : Nat) : Int) != 0)) (u := undef) hg55 ma0) ?_
     exact Ys.ld (a := ela a 20) rfl ma0 Try.isAgg5 (fun w_ h_ => (hat.mem0 h_).ld (mc_get 0 ma7))
    refine Wl.guard (v := bV ((((xs.getD 20 0).toNat : Nat) : Int) != 8)) ((!((((xs.getD 9 0).toNat : Int) != 1) || ((((xs.getD 21 0).toNat : Nat) : Int) != 0))) && ((((xs.getD 20 0).toNat : Nat) : Int) != 0)) rfl (wantTz rfl rfl ma0) rfl (fun hg56 => ?_) ?_
    ·refine Ys.at (t := 64) (v0 := nV .u8 ((xs.getD 20 0).toNat)) (lz (g := (!((((xs.getD 9 0).toNat : Int) != 1) || ((((xs.getD 21 0).toNat : Nat) : Int) != 0))) && ((((xs.getD 20 0).toNat : Nat) : Int) != 0)) (u := undef) hg56 ma0) ?_
     exact Ys.pure (fun _ => kr)
    refine Wl.guard (v := bV ((((xs.getD 20 0).toNat : Int) != 0) && ((((xs.getD 20 0).toNat : Nat) : Int) != 8))) (!((((xs.getD 9 0).toNat : Int) != 1) || ((((xs.getD 21 0).toNat : Nat) : Int) != 0))) rfl (wantF rfl ma0) rfl (fun hg57 => ?_) ?_
    ·refine Ys.at (t := 61) (v0 := bV ((((xs.getD 20 0).toNat : Nat) : Int) != 0)) (lz (g := !((((xs.getD 9 0).toNat : Int) != 1) || ((((xs.getD 21 0).toNat : Nat) : Int) != 0))) (u := undef) hg57 ma0) (Ys.at (t := 65) (v0 := (bif ((xs.getD 20 0).toNat : Int) != 0 then bV ((((xs.getD 20 0).toNat : Nat) : Int) != 8) else undef)) (lz2 (g := !((((xs.getD 9 0).toNat : Int) != 1) || ((((xs.getD 21 0).toNat : Nat) : Int) != 0))) hg57 ma0) ?_)
     exact Ys.and (e := ((xs.getD 20 0).toNat : Int) != 0) (b := ((xs.getD 20 0).toNat : Int) != 8) rfl ma0 ma0 ma0
    refine Wl.ys (v := bV ((((((xs.getD 9 0).toNat : Nat) : Int) != 1) || ((((xs.getD 21 0).toNat : Nat) : Int) != 0)) || ((((xs.getD 20 0).toNat : Int) != 0) && ((((xs.getD 20 0).toNat : Nat) : Int) != 8)))) rfl rfl (Ys.or' (e := ((((xs.getD 9 0).toNat : Nat) : Int) != 1) || ((((xs.getD 21 0).toNat : Nat) : Int) != 0)) (b := ((((xs.getD 20 0).toNat : Nat) : Int) != 0) && ((((xs.getD 20 0).toNat : Nat) : Int) != 8)) rfl ma0 ma0 ma0) (Wl.nil (hK42 _ _ _ (W.prune' [0, 2, 4, 67] [Value.slice a xs.length cap, pV p2 0, pV p4 0, bV ((((((xs.getD 9 0).toNat : Nat) : Int) != 1) || ((((xs.getD 21 0).toNat : Nat) : Int) != 0)) || ((((xs.getD 20 0).toNat : Int) != 0) && ((((xs.getD 20 0).toNat : Nat) : Int) != 8)))] ma0 (fun f58 => ?_))))
    refine W.cond ((((((xs.getD 9 0).toNat : Nat) : Int) != 1) || ((((xs.getD 21 0).toNat : Nat) : Int) != 0)) || ((((xs.getD 20 0).toNat : Int) != 0) && ((((xs.getD 20 0).toNat : Nat) : Int) != 8))) ma0 (fun h59 => ?_) (fun h60 => ?_)
    ·have qh59 := h59; try simp only [zA] at qh59
     refine W.seq (fun K61 hK61 => W.region (Wl.run 1 ma0 (Wl.ht rfl (Ht.storeN (b := p2) (o' := 0) (i := 1) (j := 0) (vs := zl0) (LL' := [[cb p4 [nV .u8 ((xs.getD 9 0).toNat), nV .u32 (a4 xs 12), nV .u32 (a4 xs 16), iV .u16 0, iV .u16 0] 30], cFl4_1291_0 p2]) rfl rfl ma0 ma0 Try.sizeOf30 ma9 rfl rfl ma12 rfl rfl) (fun _ => Wl.run 1 ma0 ?_))))
     refine Wl.nil (hK61 _ _ _ (W.ret ?_))
     have hC_ : inC xs = false := h14
     have hO_ := in_no h36 h59
     show ∀ w_, _ → bodyPostM (fence none) 0 Try.prog Try.f28 _ Exit.ret _ w_
     exact fun w_ hS_ => fin_ret (ret2 rfl (RV.cellN (b := p2) (o' := 0) (i := 1) (j := 0) (cs := zl0) (vs := zl0) ma0 Try.isAgg30 Try.sizeOf30 rfl rfl rfl rfl) (RV.tmp (v := bV false) ma0) hS_ ⟨by clear hK1 hK2 hK3 hK16 hK27 hK28 hK41 hK42 hK61; refine congrArg Ending.returned ?_; simp only [anU, anN, hO_, cond_false]; rfl, hS_.below⟩)
    ·have qh60 := h60; try simp only [zA] at qh60
     refine W.skip' (hK41 _ _ _ (W.seq (fun K62 hK62 => W.seq (fun K63 hK63 => W.region ?_))))
     refine Wl.run 1 ma0 (Wl.ys (v := Value.pointer (some (ela a 20))) rfl rfl (Ys.byMem fun w_ h_ => Ys.indexAddr (k := .i64) (a := a) (len := xs.length) (cap := cap) (i := 20) (sz := 1) rfl ma0 ma0 Try.runUnderlying25 Try.sizeOf5 ma1 ma1 ((hat.mem0 h_).here ma14)) (Wl.ys (v := nV .u8 ((xs.getD 20 0).toNat)) rfl rfl (Ys.ld (a := ela a 20) rfl ma0 Try.isAgg5 (fun w_ h_ => (hat.mem0 h_).ld (mc_get 0 ma7))) ?_))
     have hb64 : (xs.getD 20 0).toNat < 256 := UInt8.toNat_lt _
     refine Wl.run 1 ma0 (Wl.nil (hK63 _ _ _ ?_))
     refine W.cond ((((xs.getD 20 0).toNat : Nat) : Int) == 8) ma0 (fun h65 => ?_) (fun h66 => ?_)
     ·have qh65 := h65; try simp only [zA] at qh65
      refine W.region (Wl.run 1 ma0 (Wl.yc (v := nV .u16 (w2 xs 24)) rfl rfl (Yc.call (fun _ => kr) (fun w_ hm_ => (rwordn_c xs a cap 24 xs.length _ ma5 (hat.mem0 hm_) ma1 ma1 ma4))) (Wl.run 1 ma0 (Wl.ht rfl (Ht.store (b := p4) (o' := 3) (i := 0) (j := 0) (v := nV .u16 (w2 xs 24)) (LL' := [[cb p4 [nV .u8 ((xs.getD 9 0).toNat), nV .u32 (a4 xs 12), nV .u32 (a4 xs 16), nV .u16 (w2 xs 24), iV .u16 0] 30], cFl4_1291_0 p2]) rfl rfl ma0 ma0 Try.sizeOf22 rfl rfl rfl ma12 rfl rfl) (fun _ => ?_)))))
      refine Wl.nil (hK62 _ _ _ (W.seq (fun K67 hK67 => W.region (Wl.ys rfl rfl (Ys.loadN (b := p4) (o' := 0) (i := 0) (j := 0) (vs := [nV .u8 ((xs.getD 9 0).toNat), nV .u32 (a4 xs 12), nV .u32 (a4 xs 16), nV .u16 (w2 xs 24), iV .u16 0]) rfl ma0 Try.isAgg30 Try.sizeOf30 rfl rfl rfl rfl) ?_))))
      refine Wl.ht rfl (Ht.storeN (b := p2) (o' := 0) (i := 1) (j := 0) (vs := [nV .u8 ((xs.getD 9 0).toNat), nV .u32 (a4 xs 12), nV .u32 (a4 xs 16), nV .u16 (w2 xs 24), iV .u16 0]) (LL' := [[cb p4 [nV .u8 ((xs.getD 9 0).toNat), nV .u32 (a4 xs 12), nV .u32 (a4 xs 16), nV .u16 (w2 xs 24), iV .u16 0] 30], [cb p2 [nV .u8 ((xs.getD 9 0).toNat), nV .u32 (a4 xs 12), nV .u32 (a4 xs 16), nV .u16 (w2 xs 24), iV .u16 0] 30]]) rfl rfl ma0 ma0 Try.sizeOf30 ma9 rfl rfl ma12 rfl rfl) (fun _ => Wl.run 1 ma0 (Wl.nil (hK67 _ _ _ (W.pick (LL' := [[cb p2 [nV .u8 ((xs.getD 9 0).toNat), nV .u32 (a4 xs 12), nV .u32 (a4 xs 16), nV .u16 (w2 xs 24), iV .u16 0] 30]]) [1] ma3 rfl ?_))))
      refine W.prune' [2, 3] [pV p2 0, bV true] ma0 (fun f68 => W.ret ?_)
      have hC_ : inC xs = false := h14
      obtain ⟨hO_, hF_, hT_⟩ := in_yes hC_ h36 h60
      have hA_ : ecA (xs.getD 20 0) = true := h65
      show ∀ w_, _ → bodyPostM (fence none) 0 Try.prog Try.f28 _ Exit.ret _ w_
      exact fun w_ hS_ => fin_ret (ret2 rfl (RV.cellN (b := p2) (o' := 0) (i := 0) (j := 0) (cs := [nV .u8 ((xs.getD 9 0).toNat), nV .u32 (a4 xs 12), nV .u32 (a4 xs 16), nV .u16 (w2 xs 24), iV .u16 0]) (vs := [nV .u8 ((xs.getD 9 0).toNat), nV .u32 (a4 xs 12), nV .u32 (a4 xs 16), nV .u16 (w2 xs 24), iV .u16 0]) ma0 Try.isAgg30 Try.sizeOf30 rfl rfl rfl rfl) (RV.tmp (v := bV true) ma0) hS_ ⟨by clear hK1 hK2 hK3 hK16 hK27 hK28 hK41 hK42 hK62 hK63 hK67; refine congrArg Ending.returned ?_; simp only [anU, anN, hO_, hF_, hT_, hA_, sel, inP, inA, hC_, cond_true, cond_false]; try rfl, hS_.below⟩)
     ·have qh66 := h66; try simp only [zA] at qh66
      refine W.region (Wl.run 1 ma0 (Wl.yc (v := nV .u16 (w2 xs 24)) rfl rfl (Yc.call (fun _ => kr) (fun w_ hm_ => (rwordn_c xs a cap 24 xs.length _ ma5 (hat.mem0 hm_) ma1 ma1 ma4))) (Wl.run 1 ma0 (Wl.ht rfl (Ht.store (b := p4) (o' := 4) (i := 0) (j := 0) (v := nV .u16 (w2 xs 24)) (LL' := [[cb p4 [nV .u8 ((xs.getD 9 0).toNat), nV .u32 (a4 xs 12), nV .u32 (a4 xs 16), iV .u16 0, nV .u16 (w2 xs 24)] 30], cFl4_1291_0 p2]) rfl rfl ma0 ma0 Try.sizeOf22 rfl rfl rfl ma12 rfl rfl) (fun _ => ?_)))))
      refine Wl.nil (hK62 _ _ _ (W.seq (fun K69 hK69 => W.region (Wl.ys rfl rfl (Ys.loadN (b := p4) (o' := 0) (i := 0) (j := 0) (vs := [nV .u8 ((xs.getD 9 0).toNat), nV .u32 (a4 xs 12), nV .u32 (a4 xs 16), iV .u16 0, nV .u16 (w2 xs 24)]) rfl ma0 Try.isAgg30 Try.sizeOf30 rfl rfl rfl rfl) ?_))))
      refine Wl.ht rfl (Ht.storeN (b := p2) (o' := 0) (i := 1) (j := 0) (vs := [nV .u8 ((xs.getD 9 0).toNat), nV .u32 (a4 xs 12), nV .u32 (a4 xs 16), iV .u16 0, nV .u16 (w2 xs 24)]) (LL' := [[cb p4 [nV .u8 ((xs.getD 9 0).toNat), nV .u32 (a4 xs 12), nV .u32 (a4 xs 16), iV .u16 0, nV .u16 (w2 xs 24)] 30], [cb p2 [nV .u8 ((xs.getD 9 0).toNat), nV .u32 (a4 xs 12), nV .u32 (a4 xs 16), iV .u16 0, nV .u16 (w2 xs 24)] 30]]) rfl rfl ma0 ma0 Try.sizeOf30 ma9 rfl rfl ma12 rfl rfl) (fun _ => Wl.run 1 ma0 (Wl.nil (hK69 _ _ _ (W.pick (LL' := [[cb p2 [nV .u8 ((xs.getD 9 0).toNat), nV .u32 (a4 xs 12), nV .u32 (a4 xs 16), iV .u16 0, nV .u16 (w2 xs 24)] 30]]) [1] ma3 rfl ?_))))
      refine W.prune' [2, 3] [pV p2 0, bV true] ma0 (fun f70 => W.ret ?_)
      have hC_ : inC xs = false := h14
      obtain ⟨hO_, hF_, hT_⟩ := in_yes hC_ h36 h60
      have hA_ : ecA (xs.getD 20 0) = false := h66
      show ∀ w_, _ → bodyPostM (fence none) 0 Try.prog Try.f28 _ Exit.ret _ w_
      exact fun w_ hS_ => fin_ret (ret2 rfl (RV.cellN (b := p2) (o' := 0) (i := 0) (j := 0) (cs := [nV .u8 ((xs.getD 9 0).toNat), nV .u32 (a4 xs 12), nV .u32 (a4 xs 16), iV .u16 0, nV .u16 (w2 xs 24)]) (vs := [nV .u8 ((xs.getD 9 0).toNat), nV .u32 (a4 xs 12), nV .u32 (a4 xs 16), iV .u16 0, nV .u16 (w2 xs 24)]) ma0 Try.isAgg30 Try.sizeOf30 rfl rfl rfl rfl) (RV.tmp (v := bV true) ma0) hS_ ⟨by clear hK1 hK2 hK3 hK16 hK27 hK28 hK41 hK42 hK62 hK63 hK69; refine congrArg Ending.returned ?_; simp only [anU, anN, hO_, hF_, hT_, hA_, sel, inP, inA, hC_, cond_true, cond_false]; try rfl, hS_.below⟩)
  ·refine Wa.lets (w0 := w) (M := []) [0, 2, 4, 23, 25, 26] (fun (z71 : Nat) => [Value.slice a xs.length cap, pV p2 0, pV z71 0, nV .u8 ((xs.getD 9 0).toNat), nV .u32 (a4 xs 12), Value.slice a xs.length cap]) (fun (z71 : Nat) => True) (fun (z71 : Nat) => [[cb z71 zl0 30], cFl4_1291_0 p2]) 3 #[true, true, true, true, true, true, false, false, true, false] (fun z71 hp72 f73 => ?_) (fun JD21 => ?_)
   ·obtain ⟨p4, rfl⟩ : ∃ a_, a_ = z71 := ⟨_, rfl⟩
    refine Wa.only (i := 6) ma0 (Wo.yc (v := nV .u32 (a4 xs 16)) rfl rfl rfl (Yc.call (fun _ => kr) (fun w_ hm_ => (raddrn_c xs a cap 16 xs.length _ ma5 (hat.mem0 hm_) ma1 ma1 ma4))) (.inr fun _ h_ => h_.pick [1] ma3 rfl) (Wa.ys (v := aV [nV .u8 ((xs.getD 9 0).toNat), nV .u32 (a4 xs 12), nV .u32 (a4 xs 16), iV .u16 0, iV .u16 0]) (i := 7) ma0 ma0 ma0 ma0 (fun _ h_ => h_.pick [1] ma3 rfl) rfl rfl rfl (Ys.pure (fun _ => kr)) ?_))
    exact Wa.join [0, 2, 4, 28] [Value.slice a xs.length cap, pV p2 0, pV p4 0, aV [nV .u8 ((xs.getD 9 0).toNat), nV .u32 (a4 xs 12), nV .u32 (a4 xs 16), iV .u16 0, iV .u16 0]] #[true, true, true, true, true, true, true, true, true, false] (JD22 p4 trivial) ma0 ma0 (fun _ h_ => h_)
   ·refine Wa.ys (v := Value.slice a xs.length cap) (i := 0) ma0 ma0 ma0 ma0 (fun _ h_ => h_) rfl rfl rfl (Ys.pure (fun _ => kr)) (Wa.ys (v := Value.pointer (some (ela a 9))) (i := 1) ma0 ma0 ma0 ma0 (fun _ h_ => h_) rfl rfl rfl (Ys.byMem fun w_ h_ => Ys.indexAddr (k := .i64) (a := a) (len := xs.length) (cap := cap) (i := 9) (sz := 1) rfl ma0 ma0 Try.runUnderlying25 Try.sizeOf5 ma1 ma1 ((hat.mem0 h_).here ma14)) (Wa.ys (v := nV .u8 ((xs.getD 9 0).toNat)) (i := 2) ma0 ma0 ma0 ma0 (fun _ h_ => h_) rfl rfl rfl (Ys.ld (a := ela a 9) rfl ma0 Try.isAgg5 (fun w_ h_ => (hat.mem0 h_).ld (mc_get 0 ma7))) ?_))
    have hb74 : (xs.getD 9 0).toNat < 256 := UInt8.toNat_lt _
    refine Wa.ys (v := Value.slice a xs.length cap) (i := 3) ma0 ma0 ma0 ma0 (fun _ h_ => h_) rfl rfl rfl (Ys.pure (fun _ => kr)) (Wa.ys (v := Value.slice a xs.length cap) (i := 5) ma0 ma0 ma0 ma0 (fun _ h_ => h_) rfl rfl rfl (Ys.pure (fun _ => kr)) ?_)
    refine Wa.alt2 (i := 4) (j := 8) ma0 ?_ ?_
    ·refine Wo.yc (v := nV .u32 (a4 xs 12)) rfl rfl rfl (Yc.call (fun _ => kr) (fun w_ hm_ => (raddrn_c xs a cap 12 xs.length _ ma5 (hat.mem0 hm_) ma1 ma1 ma4))) (.inr fun _ h_ => h_) ?_
     refine Wa.alt2 (i := 6) (j := 8) ma0 ?_ ?_
     ·refine Wo.yc (v := nV .u32 (a4 xs 16)) rfl rfl rfl (Yc.call (fun _ => kr) (fun w_ hm_ => (raddrn_c xs a cap 16 xs.length _ ma5 (hat.mem0 hm_) ma1 ma1 ma4))) (.inr fun _ h_ => h_) (Wa.ys (v := aV [nV .u8 ((xs.getD 9 0).toNat), nV .u32 (a4 xs 12), nV .u32 (a4 xs 16), iV .u16 0, iV .u16 0]) (i := 7) ma0 ma0 ma0 ma0 (fun _ h_ => h_) rfl rfl rfl (Ys.pure (fun _ => kr)) (Wa.only (i := 8) ma0 (Wo.ht rfl rfl (Ht.alloc (z := aV zl0) (cs := zl0) rfl rfl Try.zeroValue30 rfl) (.inr fun _ _ h_ => h_.pick [1] ma3 rfl) (fun p4 => ?_))))
      exact Wa.join [0, 2, 4, 28] [Value.slice a xs.length cap, pV p2 0, pV p4 0, aV [nV .u8 ((xs.getD 9 0).toNat), nV .u32 (a4 xs 12), nV .u32 (a4 xs 16), iV .u16 0, iV .u16 0]] #[true, true, true, true, true, true, true, true, true, false] (JD22 p4 trivial) ma0 ma0 (fun _ h_ => h_)
     ·refine Wo.ht rfl rfl (Ht.alloc (z := aV zl0) (cs := zl0) rfl rfl Try.zeroValue30 rfl) (.inr fun _ _ h_ => h_.pick [1] ma3 rfl) (fun p4 => ?_)
      exact Wa.join [0, 2, 4, 23, 25, 26] [Value.slice a xs.length cap, pV p2 0, pV p4 0, nV .u8 ((xs.getD 9 0).toNat), nV .u32 (a4 xs 12), Value.slice a xs.length cap] #[true, true, true, true, true, true, false, false, true, false] (JD21 p4 trivial) ma0 ma0 (fun _ h_ => h_)
    ·refine Wo.ht rfl rfl (Ht.alloc (z := aV zl0) (cs := zl0) rfl rfl Try.zeroValue30 rfl) (.inr fun _ _ h_ => h_.pick [1] ma3 rfl) (fun p4 => Wa.only (i := 4) ma0 (Wo.yc (v := nV .u32 (a4 xs 12)) rfl rfl rfl (Yc.call (fun _ => kr) (fun w_ hm_ => (raddrn_c xs a cap 12 xs.length _ ma5 (hat.mem0 hm_) ma1 ma1 ma4))) (.inr fun _ h_ => h_.pick [1] ma3 rfl) ?_))
     exact Wa.join [0, 2, 4, 23, 25, 26] [Value.slice a xs.length cap, pV p2 0, pV p4 0, nV .u8 ((xs.getD 9 0).toNat), nV .u32 (a4 xs 12), Value.slice a xs.length cap] #[true, true, true, true, true, true, false, false, true, false] (JD21 p4 trivial) ma0 ma0 (fun _ h_ => h_)
theorem rinnern_c (xs : List UInt8) (a : Option Addr) (cap len : Nat) (w : World) (hn : len = xs.length) (hat : At w a (byc xs)) (hl : xs.length ≤ 1000000) (hlc : xs.length ≤ cap) : Calls Try.prog 28 #[.slice a len cap] w (Ret w (.tuple #[.agg ([Value.int .u8 ((anU (inO xs) (inP xs)).toNat : Int), Value.int .u32 (anN (inO xs) (inA xs 12) : Int), Value.int .u32 (anN (inO xs) (inA xs 16) : Int), Value.int .u16 (anN (inO xs) (inF xs) : Int), Value.int .u16 (anN (inO xs) (inT xs) : Int)]).toArray, .bool (inO xs)])) := by
  subst hn; exact rinner_c xs a cap w hat hl hlc
theorem ms_q8 {xs : List UInt8} (hm : mR xs = 0) (h : ((((mT xs 0).toNat : Int) == 8) && ((((mT xs 1).toNat : Nat) : Int) == 0)) = true) : msQ xs = true ∧ msR xs = false ∧ ecA (mT xs 0) = true := by
  have hk := (Bool.and_eq_true _ _).mp h
  have hq : ecO (mT xs 0) (mT xs 1) = true := by unfold ecO; rw [hk.1, hk.2]; rfl
  exact ⟨by unfold msQ; rw [hm, hq]; rfl, by unfold msR; rw [hm, hq]; rfl, hk.1⟩
theorem ms_q0 {xs : List UInt8} (hm : mR xs = 0) (h : ((((mT xs 0).toNat : Int) == 0) && ((((mT xs 1).toNat : Nat) : Int) == 0)) = true) : msQ xs = true ∧ msR xs = false ∧ ecA (mT xs 0) = false := by
  have hk := (Bool.and_eq_true _ _).mp h
  have hq : ecO (mT xs 0) (mT xs 1) = true := by unfold ecO; rw [hk.1, hk.2]; simp
  exact ⟨by unfold msQ; rw [hm, hq]; rfl, by unfold msR; rw [hm, hq]; rfl, by have e := beq_iff_eq.1 hk.1; unfold ecA; rw [e]; rfl⟩
theorem ms_no {xs : List UInt8} (hm : mR xs = 0) (h8 : ((((mT xs 0).toNat : Int) == 8) && ((((mT xs 1).toNat : Nat) : Int) == 0)) = false) (h0 : ((((mT xs 0).toNat : Int) == 0) && ((((mT xs 1).toNat : Nat) : Int) == 0)) = false) : msQ xs = false ∧ msR xs = !((((((mT xs 0).toNat : Int) != 3) && ((((mT xs 0).toNat : Nat) : Int) != 11)) && ((((mT xs 0).toNat : Nat) : Int) != 12)) || (!(inO (mD xs)))) := by
  have hq : ecO (mT xs 0) (mT xs 1) = false := by
    unfold ecO; rw [Bool.and_or_distrib_left, Bool.and_comm _ ((((mT xs 0).toNat : Nat) : Int) == 8), Bool.and_comm _ ((((mT xs 0).toNat : Nat) : Int) == 0), h8, h0]; rfl
  refine ⟨by unfold msQ; rw [hm, hq]; rfl, ?_⟩
  unfold msR isEr eqk; rw [hm, hq]; unfold bne
  cases inO (mD xs) <;> cases ((((mT xs 0).toNat : Nat) : Int) == 3) <;> cases ((((mT xs 0).toNat : Nat) : Int) == 11) <;> cases ((((mT xs 0).toNat : Nat) : Int) == 12) <;> rfl
abbrev cFl4_1296_0 (p2 : Nat) : List Blk := [cb p2 zl0 30]
abbrev cFl4_1296_1 (d p5 s : Nat) (pr : UInt8) : List Blk := [cb p5 [nV .u8 pr.toNat, nV .u32 s, nV .u32 d, iV .u16 0, iV .u16 0] 30]
abbrev cFl4_1296_2 (a : Option Addr) (cap d id p1 s : Nat) (pr tt : UInt8) (xs : List UInt8) : List Blk := [cb p1 [nV .u8 tt.toNat, nV .u8 pr.toNat, nV .u16 id, nV .u32 s, nV .u32 d, Value.slice a xs.length cap] 27]
abbrev cFl4_1296_3 (p12 : Nat) (xs : List UInt8) : List Blk := [cb p12 [nV .u8 ((anU (inO (mD xs)) (inP (mD xs))).toNat), nV .u32 (anN (inO (mD xs)) (inA (mD xs) 12)), nV .u32 (anN (inO (mD xs)) (inA (mD xs) 16)), nV .u16 (anN (inO (mD xs)) (inF (mD xs))), nV .u16 (anN (inO (mD xs)) (inT (mD xs)))] 30]
abbrev cFl4_1296_4 (g49 : FS) (p10 : Nat) (xs : List UInt8) : List Blk := [cb p10 [nV .u8 ((mT xs 0).toNat), nV .u8 ((mT xs 1).toNat), nV .u32 (mN xs), sV g49 ((mD xs).length)] 65]
abbrev cFl4_1296_5 (d p8 s : Nat) (g29 : FS) (xs : List UInt8) : List Blk := [cb p8 [nV .u16 (uF s d xs 0), nV .u16 (uF s d xs 2), bV (uP s d xs), sV g29 ((uD s d xs).length)] 56]
theorem rof_c (tt pr : UInt8) (id s d : Nat) (xs : List UInt8) (a : Option Addr) (cap : Nat) (w : World) (hat : At w a (byc xs)) (hi : id < 65536) (hs : s < 4294967296) (hd : d < 4294967296) (hl : xs.length ≤ 100000) (hlc : xs.length ≤ cap) : Calls Try.prog 12 #[aV [nV .u8 tt.toNat, nV .u8 pr.toNat, nV .u16 id, nV .u32 s, nV .u32 d, Value.slice a xs.length cap]] w (Ret w (.tuple #[.agg ([nV .u8 ((ofP pr s d xs).toNat), nV .u32 (ofS pr s d xs), nV .u32 (ofD pr s d xs), nV .u16 (ofF pr s d xs), nV .u16 (ofT pr s d xs)]).toArray, .int .i64 (ofK pr s d xs), .int .i64 (ofE pr s d xs)])) := by
 have hmn_ := mN_lt xs; have hml_ := mD_le xs
 refine calls_W (M := []) (LL := []) (n := 137) Try.func12 rfl rfl ma12 (Mem.refl _) (W.seq (fun K1 hK1 => ?_))
 refine W.region (Wl.ht rfl (Ht.box (v := aV [nV .u8 tt.toNat, nV .u8 pr.toNat, nV .u16 id, nV .u32 s, nV .u32 d, Value.slice a xs.length cap]) (cs := [nV .u8 tt.toNat, nV .u8 pr.toNat, nV .u16 id, nV .u32 s, nV .u32 d, Value.slice a xs.length cap]) rfl rfl ma0 rfl) (fun p1 => ?_))
 refine Wl.ht rfl (Ht.alloc (z := aV zl0) (cs := zl0) rfl rfl Try.zeroValue30 rfl) (fun p2 => Wl.run 2 ma0 (Wl.nil (hK1 _ _ _ (W.seq (fun K2 hK2 => ?_)))))
 refine W.region (Wl.run 1 ma0 (Wl.ys rfl rfl (Ys.l1 p1 1 1 0 Try.isAgg5) (Wl.run 1 ma0 (Wl.ys rfl rfl (Ys.l1 p1 3 1 0 Try.isAgg24) ?_))))
 refine Wl.run 1 ma0 (Wl.ys rfl rfl (Ys.l1 p1 4 1 0 Try.isAgg24) (Wl.run 1 ma0 (Wl.ht rfl (Ht.alloc (z := aV zl0) (cs := zl0) rfl rfl Try.zeroValue30 rfl) (fun p5 => Wl.ht rfl (Ht.storeN (b := p5) (o' := 0) (i := 0) (j := 0) (vs := [nV .u8 pr.toNat, nV .u32 s, nV .u32 d, iV .u16 0, iV .u16 0]) (LL' := [cFl4_1296_1 d p5 s pr, cFl4_1296_0 p2, cFl4_1296_2 a cap d id p1 s pr tt xs]) rfl rfl ma0 ma0 Try.sizeOf30 ma9 rfl rfl ma12 rfl rfl) (fun _ => ?_)))))
 refine Wl.nil (hK2 _ _ _ (W.prune' [1, 2, 5] [pV p1 0, pV p2 0, pV p5 0] ma0 (fun f3 => W.seq (fun K4 hK4 => W.seq (fun K5 hK5 => ?_)))))
 refine W.region (Wl.run 1 ma0 (Wl.ys rfl rfl (Ys.l1 p1 1 2 0 Try.isAgg5) (Wl.run 1 ma0 (Wl.nil ?_))))
 refine hK5 _ _ _ ?_
 refine W.cond (((pr.toNat : Nat) : Int) == 6) ma0 (fun h6 => ?_) (fun h7 => ?_)
 ·have qh6 := h6; try simp only [zA] at qh6
  refine W.seq (fun K8 hK8 => W.region (Wl.run 1 ma0 (Wl.ys rfl rfl (Ys.l1 p1 3 2 0 Try.isAgg24) (Wl.run 1 ma0 ?_))))
  refine Wl.ys rfl rfl (Ys.l1 p1 4 2 0 Try.isAgg24) (Wl.run 1 ma0 (Wl.ys rfl rfl (Ys.l1 p1 5 2 0 Try.isAgg25) (Wl.htS rfl (HtS.call (β := FS × FS) (k := 25) (args := #[nV .u32 s, nV .u32 d, Value.slice a xs.length cap]) (Lin := []) (Lk := [cFl4_1296_1 d p5 s pr, cFl4_1296_0 p2, cFl4_1296_2 a cap d id p1 s pr tt xs]) (Mi := []) (Lo := fun gg9 => [gg9.1.seg 5 (mc b8 (tO s d xs)), gg9.2.seg 5 (mc b8 (tD s d xs)), cFl4_1296_1 d p5 s pr, cFl4_1296_0 p2, cFl4_1296_2 a cap d id p1 s pr tt xs]) [] [0, 1, 2] rfl (fun _ => kr) ma3 rfl rfl rfl (fun w_ hm_ hl_ => (rrtcpn_c s d xs a cap xs.length _ ma5 (hat.mem0 hm_) ma1 ma1 ma7 ma7)) (fun _ => rfl)) (fun gg9 hx13 => ?_))))
  obtain ⟨ok10, ok11⟩ := hx13
  refine Wl.run 3 ma0 (Wl.ht rfl (Ht.alloc (z := aV zl1) (cs := zl1) rfl rfl Try.zeroValue52 rfl) (fun p6 => ?_))
  refine Wl.ht rfl (Ht.storeN (b := p6) (o' := 0) (i := 0) (j := 0) (vs := [nV .u16 (tF s d xs 0), nV .u16 (tF s d xs 2), nV .u32 (tW s d xs 4), nV .u32 (tW s d xs 8), nV .u8 ((tL s d xs).toNat), nV .u16 (tF s d xs 14), nV .u16 (tF s d xs 18), Value.slice gg9.1.a ((tO s d xs).length) gg9.1.cap, Value.slice gg9.2.a ((tD s d xs).length) gg9.2.cap]) (LL' := [[cb p6 [nV .u16 (tF s d xs 0), nV .u16 (tF s d xs 2), nV .u32 (tW s d xs 4), nV .u32 (tW s d xs 8), nV .u8 ((tL s d xs).toNat), nV .u16 (tF s d xs 14), nV .u16 (tF s d xs 18), Value.slice gg9.1.a ((tO s d xs).length) gg9.1.cap, Value.slice gg9.2.a ((tD s d xs).length) gg9.2.cap] 52], gg9.1.seg 5 (mc b8 (tO s d xs)), gg9.2.seg 5 (mc b8 (tD s d xs)), cFl4_1296_1 d p5 s pr, cFl4_1296_0 p2, cFl4_1296_2 a cap d id p1 s pr tt xs]) rfl rfl ma0 ma0 Try.sizeOf52 ma9 rfl rfl ma12 rfl rfl) (fun _ => Wl.run 1 ma0 (Wl.nil (hK8 _ _ _ (W.pick (LL' := [[cb p6 [nV .u16 (tF s d xs 0), nV .u16 (tF s d xs 2), nV .u32 (tW s d xs 4), nV .u32 (tW s d xs 8), nV .u8 ((tL s d xs).toNat), nV .u16 (tF s d xs 14), nV .u16 (tF s d xs 18), Value.slice gg9.1.a ((tO s d xs).length) gg9.1.cap, Value.slice gg9.2.a ((tD s d xs).length) gg9.2.cap] 52], gg9.1.seg 5 (mc b8 (tO s d xs)), gg9.2.seg 5 (mc b8 (tD s d xs)), cFl4_1296_1 d p5 s pr, cFl4_1296_0 p2]) [0, 1, 2, 3, 4] ma3 rfl ?_))))
  refine W.prune' [2, 5, 6, 7] [pV p2 0, pV p5 0, pV p6 0, iV .i64 (tR s d xs)] ma0 (fun f14 => W.seq (fun K15 hK15 => ?_))
  refine W.seq (fun K16 hK16 => W.region (Wl.run 2 ma0 (Wl.nil (hK16 _ _ _ ?_))))
  refine W.cond ((tR s d xs) != 0) ma0 (fun h17 => ?_) (fun h18 => ?_)
  ·have qh17 := h17; try simp only [zA] at qh17
   refine W.seq (fun K19 hK19 => W.region (Wl.run 2 ma0 (Wl.ht rfl (Ht.storeN (b := p2) (o' := 0) (i := 4) (j := 0) (vs := zl0) (LL' := [[cb p6 [nV .u16 (tF s d xs 0), nV .u16 (tF s d xs 2), nV .u32 (tW s d xs 4), nV .u32 (tW s d xs 8), nV .u8 ((tL s d xs).toNat), nV .u16 (tF s d xs 14), nV .u16 (tF s d xs 18), Value.slice gg9.1.a ((tO s d xs).length) gg9.1.cap, Value.slice gg9.2.a ((tD s d xs).length) gg9.2.cap] 52], gg9.1.seg 5 (mc b8 (tO s d xs)), gg9.2.seg 5 (mc b8 (tD s d xs)), cFl4_1296_1 d p5 s pr, cFl4_1296_0 p2]) rfl rfl ma0 ma0 Try.sizeOf30 ma9 rfl rfl ma12 rfl rfl) (fun _ => Wl.run 2 ma0 ?_))))
   refine Wl.nil (hK19 _ _ _ (W.ret ?_))
   have hisT_ : isT pr = true := h6
   have hE_ : ofE pr s d xs = tR s d xs := by simp only [ofE, hisT_, cond_true, cond_false]
   have hZ_ : ofZ pr s d xs = false := by unfold ofZ; rw [hE_, h17]; rfl
   show ∀ w_, _ → bodyPostM (fence none) 0 Try.prog Try.f12 _ Exit.ret _ w_
   exact fun w_ hS_ => fin_ret (ret3 rfl (RV.cellN (b := p2) (o' := 0) (i := 4) (j := 0) (cs := zl0) (vs := zl0) ma0 Try.isAgg30 Try.sizeOf30 rfl rfl rfl rfl) (RV.tmp (v := iV .i64 0) ma0) (RV.tmp (v := iV .i64 (tR s d xs)) ma0) hS_ ⟨by clear hK1 hK2 hK4 hK5 hK8 hK15 hK16 hK19; refine congrArg Ending.returned ?_; simp only [ofK, ofP, ofS, ofD, ofF, ofT, hE_, hZ_, hisT_, cond_true, cond_false]; try rfl, hS_.below⟩)
  ·have qh18 := h18; try simp only [zA] at qh18
   refine W.skip' (hK15 _ _ _ (W.seq (fun K20 hK20 => W.region (Wl.run 1 ma0 ?_))))
   refine Wl.ys rfl rfl (Ys.l1 p6 0 0 0 Try.isAgg22) (Wl.run 1 ma0 (Wl.ht rfl (Ht.store (b := p5) (o' := 3) (i := 3) (j := 0) (v := nV .u16 (tF s d xs 0)) (LL' := [[cb p6 [nV .u16 (tF s d xs 0), nV .u16 (tF s d xs 2), nV .u32 (tW s d xs 4), nV .u32 (tW s d xs 8), nV .u8 ((tL s d xs).toNat), nV .u16 (tF s d xs 14), nV .u16 (tF s d xs 18), Value.slice gg9.1.a ((tO s d xs).length) gg9.1.cap, Value.slice gg9.2.a ((tD s d xs).length) gg9.2.cap] 52], gg9.1.seg 5 (mc b8 (tO s d xs)), gg9.2.seg 5 (mc b8 (tD s d xs)), [cb p5 [nV .u8 pr.toNat, nV .u32 s, nV .u32 d, nV .u16 (tF s d xs 0), iV .u16 0] 30], cFl4_1296_0 p2]) rfl rfl ma0 ma0 Try.sizeOf22 rfl rfl rfl ma12 rfl rfl) (fun _ => Wl.nil (hK20 _ _ _ ?_))))
   refine W.seq (fun K21 hK21 => W.region (Wl.run 1 ma0 (Wl.ys rfl rfl (Ys.l1 p6 1 0 0 Try.isAgg22) (Wl.run 1 ma0 ?_))))
   refine Wl.ht rfl (Ht.store (b := p5) (o' := 4) (i := 3) (j := 0) (v := nV .u16 (tF s d xs 2)) (LL' := [[cb p6 [nV .u16 (tF s d xs 0), nV .u16 (tF s d xs 2), nV .u32 (tW s d xs 4), nV .u32 (tW s d xs 8), nV .u8 ((tL s d xs).toNat), nV .u16 (tF s d xs 14), nV .u16 (tF s d xs 18), Value.slice gg9.1.a ((tO s d xs).length) gg9.1.cap, Value.slice gg9.2.a ((tD s d xs).length) gg9.2.cap] 52], gg9.1.seg 5 (mc b8 (tO s d xs)), gg9.2.seg 5 (mc b8 (tD s d xs)), [cb p5 [nV .u8 pr.toNat, nV .u32 s, nV .u32 d, nV .u16 (tF s d xs 0), nV .u16 (tF s d xs 2)] 30], cFl4_1296_0 p2]) rfl rfl ma0 ma0 Try.sizeOf22 rfl rfl rfl ma12 rfl rfl) (fun _ => Wl.nil (hK21 _ _ _ (W.pick (LL' := [[cb p5 [nV .u8 pr.toNat, nV .u32 s, nV .u32 d, nV .u16 (tF s d xs 0), nV .u16 (tF s d xs 2)] 30], cFl4_1296_0 p2]) [3, 4] ma3 rfl (W.prune' [2, 5] [pV p2 0, pV p5 0] ma0 (fun f22 => ?_)))))
   refine W.seq (fun K23 hK23 => W.region (Wl.ys rfl rfl (Ys.loadN (b := p5) (o' := 0) (i := 0) (j := 0) (vs := [nV .u8 pr.toNat, nV .u32 s, nV .u32 d, nV .u16 (tF s d xs 0), nV .u16 (tF s d xs 2)]) rfl ma0 Try.isAgg30 Try.sizeOf30 rfl rfl rfl rfl) (Wl.ht rfl (Ht.storeN (b := p2) (o' := 0) (i := 1) (j := 0) (vs := [nV .u8 pr.toNat, nV .u32 s, nV .u32 d, nV .u16 (tF s d xs 0), nV .u16 (tF s d xs 2)]) (LL' := [[cb p5 [nV .u8 pr.toNat, nV .u32 s, nV .u32 d, nV .u16 (tF s d xs 0), nV .u16 (tF s d xs 2)] 30], [cb p2 [nV .u8 pr.toNat, nV .u32 s, nV .u32 d, nV .u16 (tF s d xs 0), nV .u16 (tF s d xs 2)] 30]]) rfl rfl ma0 ma0 Try.sizeOf30 ma9 rfl rfl ma12 rfl rfl) (fun _ => Wl.run 2 ma0 ?_))))
   refine Wl.nil (hK23 _ _ _ (W.ret ?_))
   have hisT_ : isT pr = true := h6
   have hE_ : ofE pr s d xs = tR s d xs := by simp only [ofE, hisT_, cond_true, cond_false]
   have hZ_ : ofZ pr s d xs = true := by unfold ofZ; rw [hE_, h18]; rfl
   show ∀ w_, _ → bodyPostM (fence none) 0 Try.prog Try.f12 _ Exit.ret _ w_
   exact fun w_ hS_ => fin_ret (ret3 rfl (RV.cellN (b := p2) (o' := 0) (i := 1) (j := 0) (cs := [nV .u8 pr.toNat, nV .u32 s, nV .u32 d, nV .u16 (tF s d xs 0), nV .u16 (tF s d xs 2)]) (vs := [nV .u8 pr.toNat, nV .u32 s, nV .u32 d, nV .u16 (tF s d xs 0), nV .u16 (tF s d xs 2)]) ma0 Try.isAgg30 Try.sizeOf30 rfl rfl rfl rfl) (RV.tmp (v := iV .i64 1) ma0) (RV.tmp (v := iV .i64 0) ma0) hS_ ⟨by clear hK1 hK2 hK4 hK5 hK8 hK15 hK16 hK20 hK21 hK23; refine congrArg Ending.returned ?_; simp only [ofK, ofP, ofS, ofD, ofF, ofT, hE_, hZ_, hisT_, cond_true, cond_false]; try (rw [show tR s d xs = (0 : Int) from by have z_ := h18; simpa using z_]); try rfl, hS_.below⟩)
 ·have qh7 := h7; try simp only [zA] at qh7
  refine W.skip' (hK4 _ _ _ (W.seq (fun K24 hK24 => W.seq (fun K25 hK25 => W.region ?_))))
  refine Wl.run 1 ma0 (Wl.ys rfl rfl (Ys.l1 p1 1 2 0 Try.isAgg5) (Wl.run 1 ma0 (Wl.nil (hK25 _ _ _ ?_))))
  refine W.cond (((pr.toNat : Nat) : Int) == 17) ma0 (fun h26 => ?_) (fun h27 => ?_)
  ·have qh26 := h26; try simp only [zA] at qh26
   refine W.seq (fun K28 hK28 => W.region (Wl.run 1 ma0 (Wl.ys rfl rfl (Ys.l1 p1 3 2 0 Try.isAgg24) (Wl.run 1 ma0 ?_))))
   refine Wl.ys rfl rfl (Ys.l1 p1 4 2 0 Try.isAgg24) (Wl.run 1 ma0 (Wl.ys rfl rfl (Ys.l1 p1 5 2 0 Try.isAgg25) (Wl.htS rfl (HtS.call (β := FS) (k := 26) (args := #[nV .u32 s, nV .u32 d, Value.slice a xs.length cap]) (Lin := []) (Lk := [cFl4_1296_1 d p5 s pr, cFl4_1296_0 p2, cFl4_1296_2 a cap d id p1 s pr tt xs]) (Mi := []) (Lo := fun g29 => [g29.seg 5 (mc b8 (uD s d xs)), cFl4_1296_1 d p5 s pr, cFl4_1296_0 p2, cFl4_1296_2 a cap d id p1 s pr tt xs]) [] [0, 1, 2] rfl (fun _ => kr) ma3 rfl rfl rfl (fun w_ hm_ hl_ => (rrudpn_c s d xs a cap xs.length _ ma5 (hat.mem0 hm_) ma1 ma1 ma7 ma7)) (fun _ => rfl)) (fun g29 ok30 => Wl.run 3 ma0 ?_))))
   refine Wl.ht rfl (Ht.alloc (z := aV zl3) (cs := zl3) rfl rfl Try.zeroValue56 rfl) (fun p8 => Wl.ht rfl (Ht.storeN (b := p8) (o' := 0) (i := 0) (j := 0) (vs := [nV .u16 (uF s d xs 0), nV .u16 (uF s d xs 2), bV (uP s d xs), sV g29 ((uD s d xs).length)]) (LL' := [cFl4_1296_5 d p8 s g29 xs, g29.seg 5 (mc b8 (uD s d xs)), cFl4_1296_1 d p5 s pr, cFl4_1296_0 p2, cFl4_1296_2 a cap d id p1 s pr tt xs]) rfl rfl ma0 ma0 Try.sizeOf56 ma9 rfl rfl ma12 rfl rfl) (fun _ => ?_))
   refine Wl.run 1 ma0 (Wl.nil (hK28 _ _ _ (W.pick (LL' := [cFl4_1296_5 d p8 s g29 xs, g29.seg 5 (mc b8 (uD s d xs)), cFl4_1296_1 d p5 s pr, cFl4_1296_0 p2]) [0, 1, 2, 3] ma3 rfl (W.prune' [2, 5, 8, 9] [pV p2 0, pV p5 0, pV p8 0, iV .i64 (uR s d xs)] ma0 (fun f32 => ?_)))))
   refine W.seq (fun K33 hK33 => W.seq (fun K34 hK34 => ?_))
   refine W.region (Wl.run 2 ma0 (Wl.nil (hK34 _ _ _ ?_)))
   refine W.cond ((uR s d xs) != 0) ma0 (fun h35 => ?_) (fun h36 => ?_)
   ·have qh35 := h35; try simp only [zA] at qh35
    refine W.seq (fun K37 hK37 => W.region (Wl.run 2 ma0 (Wl.ht rfl (Ht.storeN (b := p2) (o' := 0) (i := 3) (j := 0) (vs := zl0) (LL' := [cFl4_1296_5 d p8 s g29 xs, g29.seg 5 (mc b8 (uD s d xs)), cFl4_1296_1 d p5 s pr, cFl4_1296_0 p2]) rfl rfl ma0 ma0 Try.sizeOf30 ma9 rfl rfl ma12 rfl rfl) (fun _ => Wl.run 2 ma0 ?_))))
    refine Wl.nil (hK37 _ _ _ (W.ret ?_))
    have hisT_ : isT pr = false := h7
    have hisU_ : isU pr = true := h26
    have hE_ : ofE pr s d xs = uR s d xs := by simp only [ofE, hisT_, hisU_, cond_true, cond_false]
    have hZ_ : ofZ pr s d xs = false := by unfold ofZ; rw [hE_, h35]; rfl
    show ∀ w_, _ → bodyPostM (fence none) 0 Try.prog Try.f12 _ Exit.ret _ w_
    exact fun w_ hS_ => fin_ret (ret3 rfl (RV.cellN (b := p2) (o' := 0) (i := 3) (j := 0) (cs := zl0) (vs := zl0) ma0 Try.isAgg30 Try.sizeOf30 rfl rfl rfl rfl) (RV.tmp (v := iV .i64 0) ma0) (RV.tmp (v := iV .i64 (uR s d xs)) ma0) hS_ ⟨by clear hK1 hK2 hK4 hK5 hK24 hK25 hK28 hK33 hK34 hK37; refine congrArg Ending.returned ?_; simp only [ofK, ofP, ofS, ofD, ofF, ofT, hE_, hZ_, hisT_, hisU_, cond_true, cond_false]; try rfl, hS_.below⟩)
   ·have qh36 := h36; try simp only [zA] at qh36
    refine W.skip' (hK33 _ _ _ (W.seq (fun K38 hK38 => W.region (Wl.run 1 ma0 ?_))))
    refine Wl.ys rfl rfl (Ys.l1 p8 0 0 0 Try.isAgg22) (Wl.run 1 ma0 (Wl.ht rfl (Ht.store (b := p5) (o' := 3) (i := 2) (j := 0) (v := nV .u16 (uF s d xs 0)) (LL' := [cFl4_1296_5 d p8 s g29 xs, g29.seg 5 (mc b8 (uD s d xs)), [cb p5 [nV .u8 pr.toNat, nV .u32 s, nV .u32 d, nV .u16 (uF s d xs 0), iV .u16 0] 30], cFl4_1296_0 p2]) rfl rfl ma0 ma0 Try.sizeOf22 rfl rfl rfl ma12 rfl rfl) (fun _ => Wl.nil (hK38 _ _ _ ?_))))
    refine W.seq (fun K39 hK39 => W.region (Wl.run 1 ma0 (Wl.ys rfl rfl (Ys.l1 p8 1 0 0 Try.isAgg22) (Wl.run 1 ma0 ?_))))
    refine Wl.ht rfl (Ht.store (b := p5) (o' := 4) (i := 2) (j := 0) (v := nV .u16 (uF s d xs 2)) (LL' := [cFl4_1296_5 d p8 s g29 xs, g29.seg 5 (mc b8 (uD s d xs)), [cb p5 [nV .u8 pr.toNat, nV .u32 s, nV .u32 d, nV .u16 (uF s d xs 0), nV .u16 (uF s d xs 2)] 30], cFl4_1296_0 p2]) rfl rfl ma0 ma0 Try.sizeOf22 rfl rfl rfl ma12 rfl rfl) (fun _ => Wl.nil (hK39 _ _ _ (W.pick (LL' := [[cb p5 [nV .u8 pr.toNat, nV .u32 s, nV .u32 d, nV .u16 (uF s d xs 0), nV .u16 (uF s d xs 2)] 30], cFl4_1296_0 p2]) [2, 3] ma3 rfl (W.prune' [2, 5] [pV p2 0, pV p5 0] ma0 (fun f40 => ?_)))))
    refine W.seq (fun K41 hK41 => W.region (Wl.ys rfl rfl (Ys.loadN (b := p5) (o' := 0) (i := 0) (j := 0) (vs := [nV .u8 pr.toNat, nV .u32 s, nV .u32 d, nV .u16 (uF s d xs 0), nV .u16 (uF s d xs 2)]) rfl ma0 Try.isAgg30 Try.sizeOf30 rfl rfl rfl rfl) (Wl.ht rfl (Ht.storeN (b := p2) (o' := 0) (i := 1) (j := 0) (vs := [nV .u8 pr.toNat, nV .u32 s, nV .u32 d, nV .u16 (uF s d xs 0), nV .u16 (uF s d xs 2)]) (LL' := [[cb p5 [nV .u8 pr.toNat, nV .u32 s, nV .u32 d, nV .u16 (uF s d xs 0), nV .u16 (uF s d xs 2)] 30], [cb p2 [nV .u8 pr.toNat, nV .u32 s, nV .u32 d, nV .u16 (uF s d xs 0), nV .u16 (uF s d xs 2)] 30]]) rfl rfl ma0 ma0 Try.sizeOf30 ma9 rfl rfl ma12 rfl rfl) (fun _ => Wl.run 2 ma0 ?_))))
    refine Wl.nil (hK41 _ _ _ (W.ret ?_))
    have hisT_ : isT pr = false := h7
    have hisU_ : isU pr = true := h26
    have hE_ : ofE pr s d xs = uR s d xs := by simp only [ofE, hisT_, hisU_, cond_true, cond_false]
    have hZ_ : ofZ pr s d xs = true := by unfold ofZ; rw [hE_, h36]; rfl
    show ∀ w_, _ → bodyPostM (fence none) 0 Try.prog Try.f12 _ Exit.ret _ w_
    exact fun w_ hS_ => fin_ret (ret3 rfl (RV.cellN (b := p2) (o' := 0) (i := 1) (j := 0) (cs := [nV .u8 pr.toNat, nV .u32 s, nV .u32 d, nV .u16 (uF s d xs 0), nV .u16 (uF s d xs 2)]) (vs := [nV .u8 pr.toNat, nV .u32 s, nV .u32 d, nV .u16 (uF s d xs 0), nV .u16 (uF s d xs 2)]) ma0 Try.isAgg30 Try.sizeOf30 rfl rfl rfl rfl) (RV.tmp (v := iV .i64 1) ma0) (RV.tmp (v := iV .i64 0) ma0) hS_ ⟨by clear hK1 hK2 hK4 hK5 hK24 hK25 hK28 hK33 hK34 hK38 hK39 hK41; refine congrArg Ending.returned ?_; simp only [ofK, ofP, ofS, ofD, ofF, ofT, hE_, hZ_, hisT_, hisU_, cond_true, cond_false]; try (rw [show uR s d xs = (0 : Int) from by have z_ := h36; simpa using z_]); try rfl, hS_.below⟩)
  ·have qh27 := h27; try simp only [zA] at qh27
   refine W.skip' (hK24 _ _ _ (W.seq (fun K42 hK42 => W.seq (fun K43 hK43 => W.region ?_))))
   refine Wl.run 1 ma0 (Wl.ys rfl rfl (Ys.l1 p1 1 2 0 Try.isAgg5) (Wl.run 1 ma0 (Wl.nil (hK43 _ _ _ ?_))))
   refine W.cond (((pr.toNat : Nat) : Int) != 1) ma0 (fun h44 => ?_) (fun h45 => ?_)
   ·have qh44 := h44; try simp only [zA] at qh44
    refine W.seq (fun K46 hK46 => W.region (Wl.run 1 ma0 (Wl.ht rfl (Ht.storeN (b := p2) (o' := 0) (i := 1) (j := 0) (vs := zl0) (LL' := [cFl4_1296_1 d p5 s pr, cFl4_1296_0 p2, cFl4_1296_2 a cap d id p1 s pr tt xs]) rfl rfl ma0 ma0 Try.sizeOf30 ma9 rfl rfl ma12 rfl rfl) (fun _ => Wl.run 2 ma0 ?_))))
    refine Wl.nil (hK46 _ _ _ (W.pick (LL' := [cFl4_1296_0 p2]) [1] ma3 rfl (W.prune' [2, 3, 4] [pV p2 0, iV .i64 0, iV .i64 11] ma0 (fun f47 => W.ret ?_))))
    have hisT_ : isT pr = false := h7
    have hisU_ : isU pr = false := h27
    have hisI_ : isI pr = false := by have z_ := h44; unfold isI; unfold bne at z_; revert z_; cases (pr.toNat : Int) == 1 <;> simp
    have hE_ : ofE pr s d xs = 11 := by simp only [ofE, hisT_, hisU_, hisI_, cond_true, cond_false]
    have hZ_ : ofZ pr s d xs = false := by unfold ofZ; rw [hE_]; rfl
    show ∀ w_, _ → bodyPostM (fence none) 0 Try.prog Try.f12 _ Exit.ret _ w_
    exact fun w_ hS_ => fin_ret (ret3 rfl (RV.cellN (b := p2) (o' := 0) (i := 0) (j := 0) (cs := zl0) (vs := zl0) ma0 Try.isAgg30 Try.sizeOf30 rfl rfl rfl rfl) (RV.tmp (v := iV .i64 0) ma0) (RV.tmp (v := iV .i64 11) ma0) hS_ ⟨by clear hK1 hK2 hK4 hK5 hK24 hK25 hK42 hK43 hK46; refine congrArg Ending.returned ?_; simp only [ofK, ofP, ofS, ofD, ofF, ofT, hE_, hZ_, hisT_, hisU_, hisI_, cond_true, cond_false]; try rfl, hS_.below⟩)
   ·have qh45 := h45; try simp only [zA] at qh45
    refine W.skip' (hK42 _ _ _ (W.seq (fun K48 hK48 => W.region (Wl.run 1 ma0 ?_))))
    refine Wl.ys rfl rfl (Ys.l1 p1 5 2 0 Try.isAgg25) (Wl.htS rfl (HtS.call (β := FS) (k := 27) (args := #[Value.slice a xs.length cap]) (Lin := []) (Lk := [cFl4_1296_1 d p5 s pr, cFl4_1296_0 p2, cFl4_1296_2 a cap d id p1 s pr tt xs]) (Mi := []) (Lo := fun g49 => [g49.seg 5 (mc b8 (mD xs)), cFl4_1296_1 d p5 s pr, cFl4_1296_0 p2, cFl4_1296_2 a cap d id p1 s pr tt xs]) [] [0, 1, 2] rfl (fun _ => kr) ma3 rfl rfl rfl (fun w_ hm_ hl_ => (rricmpn_c xs a cap xs.length _ ma5 (hat.mem0 hm_) ma7 ma7)) (fun _ => rfl)) (fun g49 ok50 => ?_))
    refine Wl.run 3 ma0 (Wl.ht rfl (Ht.alloc (z := aV zl4) (cs := zl4) rfl rfl Try.zeroValue65 rfl) (fun p10 => ?_))
    refine Wl.ht rfl (Ht.storeN (b := p10) (o' := 0) (i := 0) (j := 0) (vs := [nV .u8 ((mT xs 0).toNat), nV .u8 ((mT xs 1).toNat), nV .u32 (mN xs), sV g49 ((mD xs).length)]) (LL' := [cFl4_1296_4 g49 p10 xs, g49.seg 5 (mc b8 (mD xs)), cFl4_1296_1 d p5 s pr, cFl4_1296_0 p2, cFl4_1296_2 a cap d id p1 s pr tt xs]) rfl rfl ma0 ma0 Try.sizeOf65 ma9 rfl rfl ma12 rfl rfl) (fun _ => Wl.run 1 ma0 (Wl.nil (hK48 _ _ _ (W.pick (LL' := [cFl4_1296_4 g49 p10 xs, g49.seg 5 (mc b8 (mD xs)), cFl4_1296_1 d p5 s pr, cFl4_1296_0 p2]) [0, 1, 2, 3] ma3 rfl ?_))))
    refine W.prune' [2, 5, 10, 11] [pV p2 0, pV p5 0, pV p10 0, iV .i64 (mR xs)] ma0 (fun f52 => W.seq (fun K53 hK53 => ?_))
    refine W.seq (fun K54 hK54 => W.region (Wl.run 2 ma0 (Wl.nil (hK54 _ _ _ ?_))))
    refine W.cond ((mR xs) != 0) ma0 (fun h55 => ?_) (fun h56 => ?_)
    ·have qh55 := h55; try simp only [zA] at qh55
     refine W.seq (fun K57 hK57 => W.region (Wl.run 2 ma0 (Wl.ht rfl (Ht.storeN (b := p2) (o' := 0) (i := 3) (j := 0) (vs := zl0) (LL' := [cFl4_1296_4 g49 p10 xs, g49.seg 5 (mc b8 (mD xs)), cFl4_1296_1 d p5 s pr, cFl4_1296_0 p2]) rfl rfl ma0 ma0 Try.sizeOf30 ma9 rfl rfl ma12 rfl rfl) (fun _ => Wl.run 2 ma0 ?_))))
     refine Wl.nil (hK57 _ _ _ (W.ret ?_))
     have hisT_ : isT pr = false := h7
     have hisU_ : isU pr = false := h27
     have hisI_ : isI pr = true := by have z_ := h45; unfold isI; unfold bne at z_; revert z_; cases (pr.toNat : Int) == 1 <;> simp
     have hn_ : (mR xs == 0) = false := by have z_ := h55; unfold bne at z_; revert z_; cases (mR xs == 0) <;> simp
     have hE_ : ofE pr s d xs = mR xs := by simp only [ofE, hisT_, hisU_, hisI_, cond_true, cond_false, msE, hn_]
     have hZ_ : ofZ pr s d xs = false := by unfold ofZ; rw [hE_, h55]; rfl
     show ∀ w_, _ → bodyPostM (fence none) 0 Try.prog Try.f12 _ Exit.ret _ w_
     exact fun w_ hS_ => fin_ret (ret3 rfl (RV.cellN (b := p2) (o' := 0) (i := 3) (j := 0) (cs := zl0) (vs := zl0) ma0 Try.isAgg30 Try.sizeOf30 rfl rfl rfl rfl) (RV.tmp (v := iV .i64 0) ma0) (RV.tmp (v := iV .i64 (mR xs)) ma0) hS_ ⟨by clear hK1 hK2 hK4 hK5 hK24 hK25 hK42 hK43 hK48 hK53 hK54 hK57; refine congrArg Ending.returned ?_; simp only [ofK, ofP, ofS, ofD, ofF, ofT, hE_, hZ_, hisT_, hisU_, hisI_, cond_true, cond_false]; try rfl, hS_.below⟩)
    ·have qh56 := h56; try simp only [zA] at qh56
     refine W.skip' (hK53 _ _ _ (W.seq (fun K58 hK58 => W.seq (fun K59 hK59 => W.region ?_))))
     refine Wl.run 1 ma0 (Wl.ys rfl rfl (Ys.l1 p10 0 0 0 Try.isAgg5) (Wl.run 2 ma0 ?_))
     refine Wl.guard (v := pV p10 1) ((((mT xs 0).toNat : Nat) : Int) == 8) rfl (wantT rfl ma0) rfl (fun hg60 => ?_) ?_
     ·exact Ys.pure (fun _ => kr)
     refine Wl.guard (v := nV .u8 ((mT xs 1).toNat)) ((((mT xs 0).toNat : Nat) : Int) == 8) rfl (wantT rfl ma0) rfl (fun hg61 => ?_) ?_
     ·refine Ys.at (t := 87) (v0 := pV p10 1) (lz (g := ((mT xs 0).toNat : Int) == 8) (u := undef) hg61 ma0) ?_
      exact Ys.l1 p10 1 0 0 Try.isAgg5
     refine Wl.guard (v := bV ((((mT xs 1).toNat : Nat) : Int) == 0)) ((((mT xs 0).toNat : Nat) : Int) == 8) rfl (wantT rfl ma0) rfl (fun hg62 => ?_) ?_
     ·refine Ys.at (t := 88) (v0 := nV .u8 ((mT xs 1).toNat)) (lz (g := ((mT xs 0).toNat : Int) == 8) (u := undef) hg62 ma0) ?_
      exact Ys.pure (fun _ => kr)
     refine Wl.ys (v := bV ((((mT xs 0).toNat : Int) == 8) && ((((mT xs 1).toNat : Nat) : Int) == 0))) rfl rfl (Ys.and (e := ((mT xs 0).toNat : Int) == 8) (b := ((mT xs 1).toNat : Int) == 0) rfl ma0 ma0 ma0) (Wl.nil (hK59 _ _ _ (W.prune' [2, 5, 10, 90] [pV p2 0, pV p5 0, pV p10 0, bV ((((mT xs 0).toNat : Int) == 8) && ((((mT xs 1).toNat : Nat) : Int) == 0))] ma0 (fun f63 => ?_))))
     refine W.cond ((((mT xs 0).toNat : Int) == 8) && ((((mT xs 1).toNat : Nat) : Int) == 0)) ma0 (fun h64 => ?_) (fun h65 => ?_)
     ·have qh64 := h64; try simp only [zA] at qh64
      refine W.seq (fun K66 hK66 => W.region (Wl.run 1 ma0 (Wl.ys rfl rfl (Ys.l1 p10 2 0 0 Try.isAgg23) (Wl.ys (v := nV .u32 ((mN xs) / 65536)) rfl rfl ((Ys.pure (v := .int .u32 (iquo .u32 (mN xs : Int) ((65536 : Nat) : Int))) (fun _ => kr)).conseq (int_congr (iquo_natu rfl ma24))) ?_))))
      refine Wl.ys (v := nV .u16 (((mN xs) / 65536) % 65536)) rfl rfl ((Ys.pure (v := .int .u16 (icnv .u16 (((mN xs) / 65536 : Nat) : Int))) (fun _ => kr)).conseq (int_congr (icnv_mod rfl _))) (Wl.run 1 ma0 (Wl.ht rfl (Ht.store (b := p5) (o' := 3) (i := 2) (j := 0) (v := nV .u16 (((mN xs) / 65536) % 65536)) (LL' := [cFl4_1296_4 g49 p10 xs, g49.seg 5 (mc b8 (mD xs)), [cb p5 [nV .u8 pr.toNat, nV .u32 s, nV .u32 d, nV .u16 (((mN xs) / 65536) % 65536), iV .u16 0] 30], cFl4_1296_0 p2]) rfl rfl ma0 ma0 Try.sizeOf22 rfl rfl rfl ma12 rfl rfl) (fun _ => Wl.nil (hK66 _ _ _ ?_))))
      refine W.seq (fun K67 hK67 => W.region (Wl.ys rfl rfl (Ys.loadN (b := p5) (o' := 0) (i := 2) (j := 0) (vs := [nV .u8 pr.toNat, nV .u32 s, nV .u32 d, nV .u16 (((mN xs) / 65536) % 65536), iV .u16 0]) rfl ma0 Try.isAgg30 Try.sizeOf30 rfl rfl rfl rfl) (Wl.ht rfl (Ht.storeN (b := p2) (o' := 0) (i := 3) (j := 0) (vs := [nV .u8 pr.toNat, nV .u32 s, nV .u32 d, nV .u16 (((mN xs) / 65536) % 65536), iV .u16 0]) (LL' := [cFl4_1296_4 g49 p10 xs, g49.seg 5 (mc b8 (mD xs)), [cb p5 [nV .u8 pr.toNat, nV .u32 s, nV .u32 d, nV .u16 (((mN xs) / 65536) % 65536), iV .u16 0] 30], [cb p2 [nV .u8 pr.toNat, nV .u32 s, nV .u32 d, nV .u16 (((mN xs) / 65536) % 65536), iV .u16 0] 30]]) rfl rfl ma0 ma0 Try.sizeOf30 ma9 rfl rfl ma12 rfl rfl) (fun _ => Wl.run 2 ma0 ?_))))
      refine Wl.nil (hK67 _ _ _ (W.ret ?_))
      have hisT_ : isT pr = false := h7
      have hisU_ : isU pr = false := h27
      have hisI_ : isI pr = true := by have z_ := h45; unfold isI; unfold bne at z_; revert z_; cases (pr.toNat : Int) == 1 <;> simp
      have hm_ : mR xs = 0 := by have z_ := h56; simpa using z_
      have hn_ : (mR xs == 0) = true := by rw [hm_]; rfl
      obtain ⟨hQ_, hR_, hA_⟩ := ms_q8 hm_ h64
      have hE_ : ofE pr s d xs = 0 := by simp only [ofE, hisT_, hisU_, hisI_, cond_true, cond_false, msE, hn_, hQ_, hR_]; try rfl
      have hZ_ : ofZ pr s d xs = true := by unfold ofZ; rw [hE_]; rfl
      show ∀ w_, _ → bodyPostM (fence none) 0 Try.prog Try.f12 _ Exit.ret _ w_
      exact fun w_ hS_ => fin_ret (ret3 rfl (RV.cellN (b := p2) (o' := 0) (i := 3) (j := 0) (cs := [nV .u8 pr.toNat, nV .u32 s, nV .u32 d, nV .u16 (((mN xs) / 65536) % 65536), iV .u16 0]) (vs := [nV .u8 pr.toNat, nV .u32 s, nV .u32 d, nV .u16 (((mN xs) / 65536) % 65536), iV .u16 0]) ma0 Try.isAgg30 Try.sizeOf30 rfl rfl rfl rfl) (RV.tmp (v := iV .i64 2) ma0) (RV.tmp (v := iV .i64 0) ma0) hS_ ⟨by clear hK1 hK2 hK4 hK5 hK24 hK25 hK42 hK43 hK48 hK53 hK54 hK58 hK59 hK66 hK67; refine congrArg Ending.returned ?_; simp only [ofK, ofP, ofS, ofD, ofF, ofT, hE_, hZ_, hisT_, hisU_, hisI_, hQ_, hR_, msK, msP, msS, msF, msT, Bool.not_true, Bool.not_false, cond_true, cond_false, hA_, sel, msI]; try rfl, hS_.below⟩)
     ·have qh65 := h65; try simp only [zA] at qh65
      refine W.skip' (hK58 _ _ _ (W.seq (fun K68 hK68 => W.seq (fun K69 hK69 => W.region ?_))))
      refine Wl.run 1 ma0 (Wl.ys rfl rfl (Ys.l1 p10 0 0 0 Try.isAgg5) (Wl.run 2 ma0 ?_))
      refine Wl.guard (v := pV p10 1) ((((mT xs 0).toNat : Nat) : Int) == 0) rfl (wantT rfl ma0) rfl (fun hg70 => ?_) ?_
      ·exact Ys.pure (fun _ => kr)
      refine Wl.guard (v := nV .u8 ((mT xs 1).toNat)) ((((mT xs 0).toNat : Nat) : Int) == 0) rfl (wantT rfl ma0) rfl (fun hg71 => ?_) ?_
      ·refine Ys.at (t := 101) (v0 := pV p10 1) (lz (g := ((mT xs 0).toNat : Int) == 0) (u := undef) hg71 ma0) ?_
       exact Ys.l1 p10 1 0 0 Try.isAgg5
      refine Wl.guard (v := bV ((((mT xs 1).toNat : Nat) : Int) == 0)) ((((mT xs 0).toNat : Nat) : Int) == 0) rfl (wantT rfl ma0) rfl (fun hg72 => ?_) ?_
      ·refine Ys.at (t := 102) (v0 := nV .u8 ((mT xs 1).toNat)) (lz (g := ((mT xs 0).toNat : Int) == 0) (u := undef) hg72 ma0) ?_
       exact Ys.pure (fun _ => kr)
      refine Wl.ys (v := bV ((((mT xs 0).toNat : Int) == 0) && ((((mT xs 1).toNat : Nat) : Int) == 0))) rfl rfl (Ys.and (e := ((mT xs 0).toNat : Int) == 0) (b := ((mT xs 1).toNat : Int) == 0) rfl ma0 ma0 ma0) (Wl.nil (hK69 _ _ _ ?_))
      refine W.cond ((((mT xs 0).toNat : Int) == 0) && ((((mT xs 1).toNat : Nat) : Int) == 0)) ma0 (fun h73 => ?_) (fun h74 => ?_)
      ·have qh73 := h73; try simp only [zA] at qh73
       refine W.seq (fun K75 hK75 => W.region (Wl.run 1 ma0 (Wl.ys rfl rfl (Ys.l1 p10 2 0 0 Try.isAgg23) (Wl.ys (v := nV .u32 ((mN xs) / 65536)) rfl rfl ((Ys.pure (v := .int .u32 (iquo .u32 (mN xs : Int) ((65536 : Nat) : Int))) (fun _ => kr)).conseq (int_congr (iquo_natu rfl ma24))) ?_))))
       refine Wl.ys (v := nV .u16 (((mN xs) / 65536) % 65536)) rfl rfl ((Ys.pure (v := .int .u16 (icnv .u16 (((mN xs) / 65536 : Nat) : Int))) (fun _ => kr)).conseq (int_congr (icnv_mod rfl _))) (Wl.run 1 ma0 (Wl.ht rfl (Ht.store (b := p5) (o' := 4) (i := 2) (j := 0) (v := nV .u16 (((mN xs) / 65536) % 65536)) (LL' := [cFl4_1296_4 g49 p10 xs, g49.seg 5 (mc b8 (mD xs)), [cb p5 [nV .u8 pr.toNat, nV .u32 s, nV .u32 d, iV .u16 0, nV .u16 (((mN xs) / 65536) % 65536)] 30], cFl4_1296_0 p2]) rfl rfl ma0 ma0 Try.sizeOf22 rfl rfl rfl ma12 rfl rfl) (fun _ => Wl.nil (hK75 _ _ _ ?_))))
       refine W.pick (LL' := [[cb p5 [nV .u8 pr.toNat, nV .u32 s, nV .u32 d, iV .u16 0, nV .u16 (((mN xs) / 65536) % 65536)] 30], cFl4_1296_0 p2]) [2, 3] ma3 rfl (W.prune' [2, 5] [pV p2 0, pV p5 0] ma0 (fun f76 => ?_))
       refine W.seq (fun K77 hK77 => W.region (Wl.ys rfl rfl (Ys.loadN (b := p5) (o' := 0) (i := 0) (j := 0) (vs := [nV .u8 pr.toNat, nV .u32 s, nV .u32 d, iV .u16 0, nV .u16 (((mN xs) / 65536) % 65536)]) rfl ma0 Try.isAgg30 Try.sizeOf30 rfl rfl rfl rfl) (Wl.ht rfl (Ht.storeN (b := p2) (o' := 0) (i := 1) (j := 0) (vs := [nV .u8 pr.toNat, nV .u32 s, nV .u32 d, iV .u16 0, nV .u16 (((mN xs) / 65536) % 65536)]) (LL' := [[cb p5 [nV .u8 pr.toNat, nV .u32 s, nV .u32 d, iV .u16 0, nV .u16 (((mN xs) / 65536) % 65536)] 30], [cb p2 [nV .u8 pr.toNat, nV .u32 s, nV .u32 d, iV .u16 0, nV .u16 (((mN xs) / 65536) % 65536)] 30]]) rfl rfl ma0 ma0 Try.sizeOf30 ma9 rfl rfl ma12 rfl rfl) (fun _ => Wl.run 2 ma0 ?_))))
       refine Wl.nil (hK77 _ _ _ (W.ret ?_))
       have hisT_ : isT pr = false := h7
       have hisU_ : isU pr = false := h27
       have hisI_ : isI pr = true := by have z_ := h45; unfold isI; unfold bne at z_; revert z_; cases (pr.toNat : Int) == 1 <;> simp
       have hm_ : mR xs = 0 := by have z_ := h56; simpa using z_
       have hn_ : (mR xs == 0) = true := by rw [hm_]; rfl
       obtain ⟨hQ_, hR_, hA_⟩ := ms_q0 hm_ h73
       have hE_ : ofE pr s d xs = 0 := by simp only [ofE, hisT_, hisU_, hisI_, cond_true, cond_false, msE, hn_, hQ_, hR_]; try rfl
       have hZ_ : ofZ pr s d xs = true := by unfold ofZ; rw [hE_]; rfl
       show ∀ w_, _ → bodyPostM (fence none) 0 Try.prog Try.f12 _ Exit.ret _ w_
       exact fun w_ hS_ => fin_ret (ret3 rfl (RV.cellN (b := p2) (o' := 0) (i := 1) (j := 0) (cs := [nV .u8 pr.toNat, nV .u32 s, nV .u32 d, iV .u16 0, nV .u16 (((mN xs) / 65536) % 65536)]) (vs := [nV .u8 pr.toNat, nV .u32 s, nV .u32 d, iV .u16 0, nV .u16 (((mN xs) / 65536) % 65536)]) ma0 Try.isAgg30 Try.sizeOf30 rfl rfl rfl rfl) (RV.tmp (v := iV .i64 2) ma0) (RV.tmp (v := iV .i64 0) ma0) hS_ ⟨by clear hK1 hK2 hK4 hK5 hK24 hK25 hK42 hK43 hK48 hK53 hK54 hK58 hK59 hK68 hK69 hK75 hK77; refine congrArg Ending.returned ?_; simp only [ofK, ofP, ofS, ofD, ofF, ofT, hE_, hZ_, hisT_, hisU_, hisI_, hQ_, hR_, msK, msP, msS, msF, msT, Bool.not_true, Bool.not_false, cond_true, cond_false, hA_, sel, msI]; try rfl, hS_.below⟩)
      ·have qh74 := h74; try simp only [zA] at qh74
       refine W.skip' (hK68 _ _ _ (W.pick (LL' := [cFl4_1296_4 g49 p10 xs, g49.seg 5 (mc b8 (mD xs)), cFl4_1296_0 p2]) [0, 1, 3] ma3 rfl (W.prune' [2, 10] [pV p2 0, pV p10 0] ma0 (fun f78 => W.seq (fun K79 hK79 => ?_)))))
       refine W.region (Wl.run 1 ma0 (Wl.ys rfl rfl (Ys.l1 p10 3 0 0 Try.isAgg25) (Wl.yc (v := Value.tuple #[aV [nV .u8 ((anU (inO (mD xs)) (inP (mD xs))).toNat), nV .u32 (anN (inO (mD xs)) (inA (mD xs) 12)), nV .u32 (anN (inO (mD xs)) (inA (mD xs) 16)), nV .u16 (anN (inO (mD xs)) (inF (mD xs))), nV .u16 (anN (inO (mD xs)) (inT (mD xs)))], bV (inO (mD xs))]) rfl rfl (Yc.call (fun _ => kr) (fun w_ hm_ => (rinnern_c (mD xs) g49.a g49.cap ((mD xs).length) _ ma5 (FS.at (i := 1) (t := 5) hm_ rfl (FS.nil_cs ok50 (mc_len1 _))) ma7 (by have z_ := ok50.le; first | exact z_ | omega | (simp at z_ ⊢; omega))))) (Wl.run 3 ma0 ?_))))
       refine Wl.ht rfl (Ht.alloc (z := aV zl0) (cs := zl0) rfl rfl Try.zeroValue30 rfl) (fun p12 => Wl.ht rfl (Ht.storeN (b := p12) (o' := 0) (i := 0) (j := 0) (vs := [nV .u8 ((anU (inO (mD xs)) (inP (mD xs))).toNat), nV .u32 (anN (inO (mD xs)) (inA (mD xs) 12)), nV .u32 (anN (inO (mD xs)) (inA (mD xs) 16)), nV .u16 (anN (inO (mD xs)) (inF (mD xs))), nV .u16 (anN (inO (mD xs)) (inT (mD xs)))]) (LL' := [cFl4_1296_3 p12 xs, cFl4_1296_4 g49 p10 xs, g49.seg 5 (mc b8 (mD xs)), cFl4_1296_0 p2]) rfl rfl ma0 ma0 Try.sizeOf30 ma9 rfl rfl ma12 rfl rfl) (fun _ => ?_))
       refine Wl.run 1 ma0 (Wl.nil (hK79 _ _ _ (W.seq (fun K80 hK80 => W.seq (fun K81 hK81 => ?_)))))
       refine W.region (Wl.run 1 ma0 (Wl.ys rfl rfl (Ys.l1 p10 0 1 0 Try.isAgg5) (Wl.run 2 ma0 ?_)))
       refine Wl.guard (v := pV p10 0) ((((mT xs 0).toNat : Nat) : Int) != 3) rfl (wantT rfl ma0) rfl (fun hg82 => ?_) ?_
       ·exact Ys.pure (fun _ => kr)
       refine Wl.guard (v := nV .u8 ((mT xs 0).toNat)) ((((mT xs 0).toNat : Nat) : Int) != 3) rfl (wantT rfl ma0) rfl (fun hg83 => ?_) ?_
       ·refine Ys.at (t := 121) (v0 := pV p10 0) (lz (g := ((mT xs 0).toNat : Int) != 3) (u := undef) hg83 ma0) ?_
        exact Ys.l1 p10 0 1 0 Try.isAgg5
       refine Wl.guard (v := bV ((((mT xs 0).toNat : Nat) : Int) != 11)) ((((mT xs 0).toNat : Nat) : Int) != 3) rfl (wantT rfl ma0) rfl (fun hg84 => ?_) ?_
       ·refine Ys.at (t := 122) (v0 := nV .u8 ((mT xs 0).toNat)) (lz (g := ((mT xs 0).toNat : Int) != 3) (u := undef) hg84 ma0) ?_
        exact Ys.pure (fun _ => kr)
       refine Wl.ys (v := bV ((((mT xs 0).toNat : Int) != 3) && ((((mT xs 0).toNat : Nat) : Int) != 11))) rfl rfl (Ys.and (e := ((mT xs 0).toNat : Int) != 3) (b := ((mT xs 0).toNat : Int) != 11) rfl ma0 ma0 ma0) (Wl.run 1 ma0 ?_)
       refine Wl.guard (v := pV p10 0) ((((mT xs 0).toNat : Int) != 3) && ((((mT xs 0).toNat : Nat) : Int) != 11)) rfl (wantT rfl ma0) rfl (fun hg85 => ?_) ?_
       ·exact Ys.pure (fun _ => kr)
       refine Wl.guard (v := nV .u8 ((mT xs 0).toNat)) ((((mT xs 0).toNat : Int) != 3) && ((((mT xs 0).toNat : Nat) : Int) != 11)) rfl (wantT rfl ma0) rfl (fun hg86 => ?_) ?_
       ·refine Ys.at (t := 126) (v0 := pV p10 0) (lz (g := ((((mT xs 0).toNat : Nat) : Int) != 3) && ((((mT xs 0).toNat : Nat) : Int) != 11)) (u := undef) hg86 ma0) ?_
        exact Ys.l1 p10 0 1 0 Try.isAgg5
       refine Wl.guard (v := bV ((((mT xs 0).toNat : Nat) : Int) != 12)) ((((mT xs 0).toNat : Int) != 3) && ((((mT xs 0).toNat : Nat) : Int) != 11)) rfl (wantT rfl ma0) rfl (fun hg87 => ?_) ?_
       ·refine Ys.at (t := 127) (v0 := nV .u8 ((mT xs 0).toNat)) (lz (g := ((((mT xs 0).toNat : Nat) : Int) != 3) && ((((mT xs 0).toNat : Nat) : Int) != 11)) (u := undef) hg87 ma0) ?_
        exact Ys.pure (fun _ => kr)
       refine Wl.ys (v := bV ((((((mT xs 0).toNat : Nat) : Int) != 3) && ((((mT xs 0).toNat : Nat) : Int) != 11)) && ((((mT xs 0).toNat : Nat) : Int) != 12))) rfl rfl (Ys.and (e := ((((mT xs 0).toNat : Nat) : Int) != 3) && ((((mT xs 0).toNat : Nat) : Int) != 11)) (b := ((mT xs 0).toNat : Int) != 12) rfl ma0 ma0 ma0) (Wl.run 1 ma0 ?_)
       refine Wl.guard (v := bV (inO (mD xs))) (!((((((mT xs 0).toNat : Nat) : Int) != 3) && ((((mT xs 0).toNat : Nat) : Int) != 11)) && ((((mT xs 0).toNat : Nat) : Int) != 12))) rfl (wantF rfl ma0) rfl (fun hg88 => ?_) ?_
       ·exact Ys.pure (fun _ => kr)
       refine Wl.guard (v := bV (!(inO (mD xs)))) (!((((((mT xs 0).toNat : Nat) : Int) != 3) && ((((mT xs 0).toNat : Nat) : Int) != 11)) && ((((mT xs 0).toNat : Nat) : Int) != 12))) rfl (wantF rfl ma0) rfl (fun hg89 => ?_) ?_
       ·refine Ys.at (t := 131) (v0 := bV (inO (mD xs))) (lz (g := !((((((mT xs 0).toNat : Nat) : Int) != 3) && ((((mT xs 0).toNat : Nat) : Int) != 11)) && ((((mT xs 0).toNat : Nat) : Int) != 12))) (u := undef) hg89 ma0) ?_
        exact Ys.pure (fun _ => kr)
       refine Wl.ys (v := bV ((((((mT xs 0).toNat : Int) != 3) && ((((mT xs 0).toNat : Nat) : Int) != 11)) && ((((mT xs 0).toNat : Nat) : Int) != 12)) || (!(inO (mD xs))))) rfl rfl (Ys.or' (e := ((((mT xs 0).toNat : Int) != 3) && ((((mT xs 0).toNat : Nat) : Int) != 11)) && ((((mT xs 0).toNat : Nat) : Int) != 12)) (b := !(inO (mD xs))) rfl ma0 ma0 ma0) (Wl.nil (hK81 _ _ _ (W.pick (LL' := [cFl4_1296_3 p12 xs, cFl4_1296_0 p2]) [0, 3] ma3 rfl (W.prune' [2, 12, 133] [pV p2 0, pV p12 0, bV ((((((mT xs 0).toNat : Int) != 3) && ((((mT xs 0).toNat : Nat) : Int) != 11)) && ((((mT xs 0).toNat : Nat) : Int) != 12)) || (!(inO (mD xs))))] ma0 (fun f90 => ?_)))))
       refine W.cond ((((((mT xs 0).toNat : Int) != 3) && ((((mT xs 0).toNat : Nat) : Int) != 11)) && ((((mT xs 0).toNat : Nat) : Int) != 12)) || (!(inO (mD xs)))) ma0 (fun h91 => ?_) (fun h92 => ?_)
       ·have qh91 := h91; try simp only [zA] at qh91
        refine W.seq (fun K93 hK93 => W.region (Wl.run 1 ma0 (Wl.ht rfl (Ht.storeN (b := p2) (o' := 0) (i := 1) (j := 0) (vs := zl0) (LL' := [cFl4_1296_3 p12 xs, cFl4_1296_0 p2]) rfl rfl ma0 ma0 Try.sizeOf30 ma9 rfl rfl ma12 rfl rfl) (fun _ => Wl.run 2 ma0 ?_))))
        refine Wl.nil (hK93 _ _ _ (W.ret ?_))
        have hisT_ : isT pr = false := h7
        have hisU_ : isU pr = false := h27
        have hisI_ : isI pr = true := by have z_ := h45; unfold isI; unfold bne at z_; revert z_; cases (pr.toNat : Int) == 1 <;> simp
        have hm_ : mR xs = 0 := by have z_ := h56; simpa using z_
        have hn_ : (mR xs == 0) = true := by rw [hm_]; rfl
        obtain ⟨hQ_, hR0_⟩ := ms_no hm_ h65 h74
        have hR_ := hR0_.trans (congrArg (!·) h91)
        have hE_ : ofE pr s d xs = 11 := by simp only [ofE, hisT_, hisU_, hisI_, cond_true, cond_false, msE, hn_, hQ_, hR_]; try rfl
        have hZ_ : ofZ pr s d xs = false := by unfold ofZ; rw [hE_]; rfl
        show ∀ w_, _ → bodyPostM (fence none) 0 Try.prog Try.f12 _ Exit.ret _ w_
        exact fun w_ hS_ => fin_ret (ret3 rfl (RV.cellN (b := p2) (o' := 0) (i := 1) (j := 0) (cs := zl0) (vs := zl0) ma0 Try.isAgg30 Try.sizeOf30 rfl rfl rfl rfl) (RV.tmp (v := iV .i64 0) ma0) (RV.tmp (v := iV .i64 11) ma0) hS_ ⟨by clear hK1 hK2 hK4 hK5 hK24 hK25 hK42 hK43 hK48 hK53 hK54 hK58 hK59 hK68 hK69 hK79 hK80 hK81 hK93; refine congrArg Ending.returned ?_; simp only [ofK, ofP, ofS, ofD, ofF, ofT, hE_, hZ_, hisT_, hisU_, hisI_, hQ_, hR_, msK, msP, msS, msF, msT, Bool.not_true, Bool.not_false, cond_true, cond_false]; try rfl, hS_.below⟩)
       ·have qh92 := h92; try simp only [zA] at qh92
        refine W.skip' (hK80 _ _ _ (W.seq (fun K94 hK94 => W.region (Wl.ys rfl rfl (Ys.loadN (b := p12) (o' := 0) (i := 0) (j := 0) (vs := [nV .u8 ((anU (inO (mD xs)) (inP (mD xs))).toNat), nV .u32 (anN (inO (mD xs)) (inA (mD xs) 12)), nV .u32 (anN (inO (mD xs)) (inA (mD xs) 16)), nV .u16 (anN (inO (mD xs)) (inF (mD xs))), nV .u16 (anN (inO (mD xs)) (inT (mD xs)))]) rfl ma0 Try.isAgg30 Try.sizeOf30 rfl rfl rfl rfl) ?_))))
        refine Wl.yc (v := aV [nV .u8 ((anU (inO (mD xs)) (inP (mD xs))).toNat), nV .u32 (anN (inO (mD xs)) (inA (mD xs) 16)), nV .u32 (anN (inO (mD xs)) (inA (mD xs) 12)), nV .u16 (anN (inO (mD xs)) (inT (mD xs))), nV .u16 (anN (inO (mD xs)) (inF (mD xs)))]) rfl rfl (Yc.call (fun _ => kr) (fun w_ hm_ => (rturn_c (anU (inO (mD xs)) (inP (mD xs))) (anN (inO (mD xs)) (inA (mD xs) 12)) (anN (inO (mD xs)) (inA (mD xs) 16)) (anN (inO (mD xs)) (inF (mD xs))) (anN (inO (mD xs)) (inT (mD xs))) _))) (Wl.ht rfl (Ht.storeN (b := p2) (o' := 0) (i := 1) (j := 0) (vs := [nV .u8 ((anU (inO (mD xs)) (inP (mD xs))).toNat), nV .u32 (anN (inO (mD xs)) (inA (mD xs) 16)), nV .u32 (anN (inO (mD xs)) (inA (mD xs) 12)), nV .u16 (anN (inO (mD xs)) (inT (mD xs))), nV .u16 (anN (inO (mD xs)) (inF (mD xs)))]) (LL' := [cFl4_1296_3 p12 xs, [cb p2 [nV .u8 ((anU (inO (mD xs)) (inP (mD xs))).toNat), nV .u32 (anN (inO (mD xs)) (inA (mD xs) 16)), nV .u32 (anN (inO (mD xs)) (inA (mD xs) 12)), nV .u16 (anN (inO (mD xs)) (inT (mD xs))), nV .u16 (anN (inO (mD xs)) (inF (mD xs)))] 30]]) rfl rfl ma0 ma0 Try.sizeOf30 ma9 rfl rfl ma12 rfl rfl) (fun _ => ?_))
        refine Wl.run 2 ma0 (Wl.nil (hK94 _ _ _ (W.ret ?_)))
        have hisT_ : isT pr = false := h7
        have hisU_ : isU pr = false := h27
        have hisI_ : isI pr = true := by have z_ := h45; unfold isI; unfold bne at z_; revert z_; cases (pr.toNat : Int) == 1 <;> simp
        have hm_ : mR xs = 0 := by have z_ := h56; simpa using z_
        have hn_ : (mR xs == 0) = true := by rw [hm_]; rfl
        obtain ⟨hQ_, hR0_⟩ := ms_no hm_ h65 h74
        have hR_ := hR0_.trans (congrArg (!·) h92)
        have hO_ : inO (mD xs) = true := by have z_ := h92; revert z_; cases inO (mD xs) <;> simp
        have hE_ : ofE pr s d xs = 0 := by simp only [ofE, hisT_, hisU_, hisI_, cond_true, cond_false, msE, hn_, hQ_, hR_]; try rfl
        have hZ_ : ofZ pr s d xs = true := by unfold ofZ; rw [hE_]; rfl
        show ∀ w_, _ → bodyPostM (fence none) 0 Try.prog Try.f12 _ Exit.ret _ w_
        exact fun w_ hS_ => fin_ret (ret3 rfl (RV.cellN (b := p2) (o' := 0) (i := 1) (j := 0) (cs := [nV .u8 ((anU (inO (mD xs)) (inP (mD xs))).toNat), nV .u32 (anN (inO (mD xs)) (inA (mD xs) 16)), nV .u32 (anN (inO (mD xs)) (inA (mD xs) 12)), nV .u16 (anN (inO (mD xs)) (inT (mD xs))), nV .u16 (anN (inO (mD xs)) (inF (mD xs)))]) (vs := [nV .u8 ((anU (inO (mD xs)) (inP (mD xs))).toNat), nV .u32 (anN (inO (mD xs)) (inA (mD xs) 16)), nV .u32 (anN (inO (mD xs)) (inA (mD xs) 12)), nV .u16 (anN (inO (mD xs)) (inT (mD xs))), nV .u16 (anN (inO (mD xs)) (inF (mD xs)))]) ma0 Try.isAgg30 Try.sizeOf30 rfl rfl rfl rfl) (RV.tmp (v := iV .i64 3) ma0) (RV.tmp (v := iV .i64 0) ma0) hS_ ⟨by clear hK1 hK2 hK4 hK5 hK24 hK25 hK42 hK43 hK48 hK53 hK54 hK58 hK59 hK68 hK69 hK79 hK80 hK81 hK94; refine congrArg Ending.returned ?_; simp only [ofK, ofP, ofS, ofD, ofF, ofT, hE_, hZ_, hisT_, hisU_, hisI_, hQ_, hR_, msK, msP, msS, msF, msT, Bool.not_true, Bool.not_false, cond_true, cond_false, hO_, anU, anN]; try rfl, hS_.below⟩)
theorem rofn_c (tt pr : UInt8) (id s d : Nat) (xs : List UInt8) (a : Option Addr) (cap : Nat) (len : Nat) (w : World) (hn : len = xs.length) (hat : At w a (byc xs)) (hi : id < 65536) (hs : s < 4294967296) (hd : d < 4294967296) (hl : xs.length ≤ 100000) (hlc : xs.length ≤ cap)  : Calls Try.prog 12 #[Value.agg ([Value.int .u8 (tt.toNat : Int), Value.int .u8 (pr.toNat : Int), Value.int .u16 (id : Int), Value.int .u32 (s : Int), Value.int .u32 (d : Int), Value.slice a len cap]).toArray] w (Ret w (.tuple #[.agg ([Value.int .u8 ((ofP pr s d xs).toNat : Int), Value.int .u32 (ofS pr s d xs : Int), Value.int .u32 (ofD pr s d xs : Int), Value.int .u16 (ofF pr s d xs : Int), Value.int .u16 (ofT pr s d xs : Int)]).toArray, .int .i64 (ofK pr s d xs), .int .i64 (ofE pr s d xs)])) := by
  subst hn; exact rof_c tt pr id s d xs a cap w hat hi hs hd hl hlc
end Go.Proofs.Ytejeafjkhomdoaa.Oct
