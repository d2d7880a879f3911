import Derived.Test.YtejeafjkhomdoaaKIc1
set_option linter.unusedVariables false
set_option linter.unusedSimpArgs false
set_option maxRecDepth 20000
namespace Go.Proofs.Ytejeafjkhomdoaa.Oct
open Go.RowKit Base
attribute [local irreducible] Ys Yc Ht HtS HtIn Wl Wd W Mem pf dpf Wa Wo
def a4 (xs : List UInt8) (k : Nat) : Nat := w2 xs k * 65536 + w2 xs (k + 2)
theorem a4_lt (xs : List UInt8) (k : Nat) : a4 xs k < 4294967296 := by unfold a4; have := w2_lt xs k; have := w2_lt xs (k + 2); omega
theorem or_w2 (xs : List UInt8) (k : Nat) : (xs.getD k 0).toNat * 256 % 65536 ||| (xs.getD (k + 1) 0).toNat = w2 xs k := by
  have h1 := UInt8.toNat_lt (xs.getD k 0); have h2 := UInt8.toNat_lt (xs.getD (k + 1) 0)
  rw [Nat.mod_eq_of_lt ma1, show (xs.getD k 0).toNat * 256 = (xs.getD k 0).toNat * 2 ^ 8 by rfl, shl_or h2]
  unfold w2; omega
theorem or_a4 (xs : List UInt8) (k : Nat) : w2 xs k * 65536 % 4294967296 ||| w2 xs (k + 2) = a4 xs k := by
  have h1 := w2_lt xs k; have h2 := w2_lt xs (k + 2)
  rw [Nat.mod_eq_of_lt ma1, show w2 xs k * 65536 = 2 ^ 16 * w2 xs k by omega, ← Nat.two_pow_add_eq_or_of_lt h2]
  unfold a4; omega
theorem word_c (xs : List UInt8) (a : Option Addr) (cap k : Nat) (w : World) (hat : At w a (byc xs)) (hk : k + 1 < xs.length) (hl : xs.length ≤ 1000000) (hlc : xs.length ≤ cap) : Calls Try.prog 71 #[Value.slice a xs.length cap, nV .i64 k] w (Ret w (.int .u16 (w2 xs k : Int))) := by
 refine calls_W (M := []) (LL := []) (n := 18) Try.func71 rfl rfl ma10 (Mem.refl _) (W.seq (fun K1 hK1 => ?_))
 refine W.region (Wl.run 1 ma0 (Wl.nil (hK1 _ _ _ (W.seq (fun K2 hK2 => ?_)))))
 refine W.draws [(0, true), (1, true), (2, true), (3, true), (4, true), (5, true), (6, true), (7, false), (8, false), (9, false), (10, false), (11, false), (12, false), (13, false)] [0, 1, 2, 3, 4, 5, 6] (Mem w [] []) ma0 ma0 ma0 rfl ma0 (fun _ _ h_ => h_.drawn _) (fun _ h_ => h_) (Wd.run 2 ma0 (Wd.ys (v := Value.pointer (some (ela a (k * 1)))) rfl rfl rfl (Ys.byMem fun w_ h_ => Ys.indexAddr (k := .i64) (a := a) (len := xs.length) (cap := cap) (i := (k : Int)) (sz := 1) rfl ma0 ma0 Try.runUnderlying25 Try.sizeOf5 ma1 ma1 ((hat.mem0 h_).here ma17)) (Wd.ys (v := nV .u8 ((xs.getD k 0).toNat)) rfl rfl rfl (Ys.ld (a := ela a (k * 1)) rfl ma0 Try.isAgg5 (fun w_ h_ => (hat.mem0 h_).ld (mc_get1 0 ma8))) ?_)))
 have hb3 : (xs.getD k 0).toNat < 256 := UInt8.toNat_lt _
 refine Wd.ys (v := nV .u16 ((xs.getD k 0).toNat)) rfl rfl rfl ((Ys.pure (v := .int .u16 (icnv .u16 ((xs.getD k 0).toNat : Int))) (fun _ => kr)).conseq (int_congr (wrap_u16 ma1 ma1))) (Wd.ys (v := nV .u16 ((((xs.getD k 0).toNat) * 256) % 65536)) rfl rfl rfl ((Ys.pure (v := .int .u16 (ishl .u16 ((xs.getD k 0).toNat : Int) ((8 : Nat) : Int))) (fun _ => kr)).conseq (int_congr (ishl_mod rfl ((xs.getD k 0).toNat) 8 ma2))) (Wd.run 1 ma0 (Wd.yc (v := nV .i64 k) rfl rfl rfl (Ys.yc (Ys.pure (fun _ => kr))) (.inr fun _ h_ => h_) (Wd.yc (v := nV .i64 (k + 1)) rfl rfl rfl (Ys.yc ((Ys.pure (v := .int .i64 (iadd .i64 (k : Int) 1)) (fun _ => kr)).conseq (int_congr (iadd_eq ma1 ma1 ma1)))) (.inr fun _ h_ => h_) ?_))))
 refine Wd.yc (v := Value.pointer (some (ela a ((k + 1) * 1)))) rfl rfl rfl (Ys.yc (Ys.byMem fun w_ h_ => Ys.indexAddr (k := .i64) (a := a) (len := xs.length) (cap := cap) (i := ((k + 1 : Nat) : Int)) (sz := 1) rfl ma0 ma0 Try.runUnderlying25 Try.sizeOf5 ma1 ma1 ((hat.mem0 h_).here ma17))) (.inr fun _ h_ => h_) (Wd.yc (v := nV .u8 ((xs.getD (k + 1) 0).toNat)) rfl rfl rfl (Ys.yc (Ys.ld (a := ela a ((k + 1) * 1)) rfl ma0 Try.isAgg5 (fun w_ h_ => (hat.mem0 h_).ld (mc_get1 0 ma8)))) (.inr fun _ h_ => h_) ?_)
 have hb4 : (xs.getD (k + 1) 0).toNat < 256 := UInt8.toNat_lt _
 refine Wd.yc (v := nV .u16 ((xs.getD (k + 1) 0).toNat)) rfl rfl rfl (Ys.yc ((Ys.pure (v := .int .u16 (icnv .u16 ((xs.getD (k + 1) 0).toNat : Int))) (fun _ => kr)).conseq (int_congr (wrap_u16 ma1 ma1)))) (.inr fun _ h_ => h_) (Wd.yc (v := nV .u16 (((((xs.getD k 0).toNat) * 256) % 65536) ||| ((xs.getD (k + 1) 0).toNat))) rfl rfl rfl (Ys.yc ((Ys.pure (v := .int .u16 (bor .u16 (((((xs.getD k 0).toNat) * 256) % 65536 : Nat) : Int) ((xs.getD (k + 1) 0).toNat : Int))) (fun _ => kr)).conseq (int_congr (bor_nat rfl ma20 ma20)))) (.inr fun _ h_ => h_) (Wd.yc (v := nV .u16 (((((xs.getD k 0).toNat) * 256) % 65536) ||| ((xs.getD (k + 1) 0).toNat))) rfl rfl rfl (Ys.yc (Ys.pure (fun _ => kr))) (.inl ma0) (Wd.nil (hK2 _ _ _ ?_))))
 refine W.prune' [4] [nV .u16 (((((xs.getD k 0).toNat) * 256) % 65536) ||| ((xs.getD (k + 1) 0).toNat))] ma0 (fun f5 => W.ret ?_)
 show ∀ w_, _ → bodyPostM (fence none) 0 Try.prog Try.f71 _ Exit.ret _ w_
 exact fun w_ hS_ => fin_ret (ret1 rfl (RV.tmp (v := nV .u16 (((((xs.getD k 0).toNat) * 256) % 65536) ||| ((xs.getD (k + 1) 0).toNat))) ma0) hS_ ⟨by clear hK1 hK2; refine congrArg Ending.returned ?_; first | rfl | exact int_congr (congrArg (fun n : Nat => (n : Int)) (or_w2 xs k)), hS_.below⟩)
theorem wordn_c (xs : List UInt8) (a : Option Addr) (cap k : Nat) (len : Nat) (w : World) (hn : len = xs.length) (hat : At w a (byc xs)) (hk : k + 1 < xs.length) (hl : xs.length ≤ 1000000) (hlc : xs.length ≤ cap)  : Calls Try.prog 71 #[.slice a len cap, .int .i64 (k : Int)] w (Ret w (.int .u16 (w2 xs k : Int))) := by
  subst hn; exact word_c xs a cap k w hat hk hl hlc
theorem addr_c (xs : List UInt8) (a : Option Addr) (cap k : Nat) (w : World) (hat : At w a (byc xs)) (hk : k + 3 < xs.length) (hl : xs.length ≤ 1000000) (hlc : xs.length ≤ cap) : Calls Try.prog 76 #[Value.slice a xs.length cap, nV .i64 k] w (Ret w (.int .u32 (a4 xs k : Int))) := by
 have hw1 := w2_lt xs k; have hw2 := w2_lt xs (k + 2)
 refine calls_W (M := []) (LL := []) (n := 16) Try.func76 rfl rfl ma10 (Mem.refl _) (W.seq (fun K1 hK1 => ?_))
 refine W.region (Wl.run 1 ma0 (Wl.nil (hK1 _ _ _ (W.seq (fun K2 hK2 => ?_)))))
 refine W.region (Wl.run 2 ma0 (Wl.yc (v := nV .u16 (w2 xs k)) rfl rfl (Yc.call (fun _ => kr) (fun w_ hm_ => (wordn_c xs a cap k xs.length _ ma3 (hat.mem0 hm_) ma1 ma1 ma5))) (Wl.ys (v := nV .u32 (w2 xs k)) rfl rfl ((Ys.pure (v := .int .u32 (icnv .u32 (w2 xs k : Int))) (fun _ => kr)).conseq (int_congr (wrap_u32 ma1 ma1))) (Wl.ys (v := nV .u32 (((w2 xs k) * 65536) % 4294967296)) rfl rfl ((Ys.pure (v := .int .u32 (ishl .u32 (w2 xs k : Int) ((16 : Nat) : Int))) (fun _ => kr)).conseq (int_congr (ishl_mod rfl (w2 xs k) 16 ma2))) ?_))))
 refine Wl.run 2 ma0 (Wl.ys (v := nV .i64 (k + 2)) rfl rfl ((Ys.pure (v := .int .i64 (iadd .i64 (k : Int) 2)) (fun _ => kr)).conseq (int_congr (iadd_eq ma1 ma1 ma1))) (Wl.yc (v := nV .u16 (w2 xs (k + 2))) rfl rfl (Yc.call (fun _ => kr) (fun w_ hm_ => (wordn_c xs a cap (k + 2) xs.length _ ma3 (hat.mem0 hm_) ma1 ma1 ma5))) (Wl.ys (v := nV .u32 (w2 xs (k + 2))) rfl rfl ((Ys.pure (v := .int .u32 (icnv .u32 (w2 xs (k + 2) : Int))) (fun _ => kr)).conseq (int_congr (wrap_u32 ma1 ma1))) (Wl.ys (v := nV .u32 ((((w2 xs k) * 65536) % 4294967296) ||| (w2 xs (k + 2)))) rfl rfl ((Ys.pure (v := .int .u32 (bor .u32 ((((w2 xs k) * 65536) % 4294967296 : Nat) : Int) (w2 xs (k + 2) : Int))) (fun _ => kr)).conseq (int_congr (bor_nat rfl (by show _ < 4294967296; omega) (by show _ < 4294967296; omega)))) ?_))))
 refine Wl.run 1 ma0 (Wl.nil (hK2 _ _ _ (W.prune' [4] [nV .u32 ((((w2 xs k) * 65536) % 4294967296) ||| (w2 xs (k + 2)))] ma0 (fun f3 => W.ret ?_))))
 show ∀ w_, _ → bodyPostM (fence none) 0 Try.prog Try.f76 _ Exit.ret _ w_
 exact fun w_ hS_ => fin_ret (ret1 rfl (RV.tmp (v := nV .u32 ((((w2 xs k) * 65536) % 4294967296) ||| (w2 xs (k + 2)))) ma0) hS_ ⟨by clear hK1 hK2; refine congrArg Ending.returned ?_; first | rfl | exact int_congr (congrArg (fun n : Nat => (n : Int)) (or_a4 xs k)), hS_.below⟩)
theorem addrn_c (xs : List UInt8) (a : Option Addr) (cap k : Nat) (len : Nat) (w : World) (hn : len = xs.length) (hat : At w a (byc xs)) (hk : k + 3 < xs.length) (hl : xs.length ≤ 1000000) (hlc : xs.length ≤ cap)  : Calls Try.prog 76 #[.slice a len cap, .int .i64 (k : Int)] w (Ret w (.int .u32 (a4 xs k : Int))) := by
  subst hn; exact addr_c xs a cap k w hat hk hl hlc
def ecA (k : UInt8) : Bool := (k.toNat : Int) == 8
def ecO (k c : UInt8) : Bool := (((c.toNat : Nat) : Int) == 0) && (((k.toNat : Int) == 8) || (((k.toNat : Nat) : Int) == 0))
def sel (b : Bool) (x y : Nat) : Nat := bif b then x else y
theorem echo_c (k c : UInt8) (w : World) : Calls Try.prog 38 #[nV .u8 k.toNat, nV .u8 c.toNat] w (Ret w (.tuple #[.bool (ecA k), .bool (ecO k c)])) := by
 refine calls_W (M := []) (LL := []) (n := 18) Try.func38 rfl rfl ma10 (Mem.refl _) (W.seq (fun K1 hK1 => ?_))
 refine W.region (Wl.run 2 ma0 (Wl.nil (hK1 _ _ _ (W.seq (fun K2 hK2 => ?_)))))
 refine W.region (Wl.run 5 ma0 ?_)
 refine Wl.guard (v := nV .u8 k.toNat) (((c.toNat : Nat) : Int) == 0) rfl (wantT rfl ma0) rfl (fun hg3 => ?_) ?_
 ·exact Ys.pure (fun _ => kr)
 refine Wl.guard (v := bV (((k.toNat : Nat) : Int) == 8)) (((c.toNat : Nat) : Int) == 0) rfl (wantT rfl ma0) rfl (fun hg4 => ?_) ?_
 ·refine Ys.at (t := 11) (v0 := nV .u8 k.toNat) (lz (g := (c.toNat : Int) == 0) (u := undef) hg4 ma0) ?_
  exact Ys.pure (fun _ => kr)
 refine Wl.guard (v := bV (((k.toNat : Nat) : Int) == 8)) (((c.toNat : Nat) : Int) == 0) rfl (wantT rfl ma0) rfl (fun hg5 => ?_) ?_
 ·refine Ys.at (t := 12) (v0 := bV (((k.toNat : Nat) : Int) == 8)) (lz (g := (c.toNat : Int) == 0) (u := undef) hg5 ma0) ?_
  exact Ys.pure (fun _ => kr)
 refine Wl.guard (v := nV .u8 k.toNat) (((c.toNat : Int) == 0) && !(((k.toNat : Nat) : Int) == 8)) rfl (wantFz rfl rfl ma0) rfl (fun hg6 => ?_) ?_
 ·exact Ys.pure (fun _ => kr)
 refine Wl.guard (v := bV (((k.toNat : Nat) : Int) == 0)) (((c.toNat : Int) == 0) && !(((k.toNat : Nat) : Int) == 8)) rfl (wantFz rfl rfl ma0) rfl (fun hg7 => ?_) ?_
 ·refine Ys.at (t := 14) (v0 := nV .u8 k.toNat) (lz (g := (((c.toNat : Nat) : Int) == 0) && !(((k.toNat : Nat) : Int) == 8)) (u := undef) hg7 ma0) ?_
  exact Ys.pure (fun _ => kr)
 refine Wl.guard (v := bV (((k.toNat : Int) == 8) || (((k.toNat : Nat) : Int) == 0))) (((c.toNat : Nat) : Int) == 0) rfl (wantT rfl ma0) rfl (fun hg8 => ?_) ?_
 ·refine Ys.at (t := 13) (v0 := bV (((k.toNat : Nat) : Int) == 8)) (lz (g := (c.toNat : Int) == 0) (u := undef) hg8 ma0) (Ys.at (t := 15) (v0 := (bif !(((k.toNat : Nat) : Int) == 8) then bV (((k.toNat : Nat) : Int) == 0) else undef)) (lz2 (g := (c.toNat : Int) == 0) hg8 ma0) ?_)
  exact Ys.or' (e := (k.toNat : Int) == 8) (b := (k.toNat : Int) == 0) rfl ma0 ma0 ma0
 refine Wl.ys (v := bV (((c.toNat : Int) == 0) && (((k.toNat : Int) == 8) || (((k.toNat : Nat) : Int) == 0)))) rfl rfl (Ys.and (e := (c.toNat : Int) == 0) (b := (((k.toNat : Nat) : Int) == 8) || (((k.toNat : Nat) : Int) == 0)) rfl ma0 ma0 ma0) (Wl.run 2 ma0 (Wl.nil (hK2 _ _ _ (W.prune' [4, 5] [bV (((k.toNat : Nat) : Int) == 8), bV (((c.toNat : Int) == 0) && (((k.toNat : Int) == 8) || (((k.toNat : Nat) : Int) == 0)))] ma0 (fun f9 => ?_)))))
 refine W.ret ?_
 show ∀ w_, _ → bodyPostM (fence none) 0 Try.prog Try.f38 _ Exit.ret _ w_
 exact fun w_ hS_ => fin_ret (ret2 rfl (RV.tmp (v := bV (((k.toNat : Nat) : Int) == 8)) ma0) (RV.tmp (v := bV (((c.toNat : Int) == 0) && (((k.toNat : Int) == 8) || (((k.toNat : Nat) : Int) == 0)))) ma0) hS_ ⟨rfl, hS_.below⟩)
theorem ids_c (pr : UInt8) (s d fr to : Nat) (id : Nat) (q : Bool) (w : World) : Calls Try.prog 51 #[aV [nV .u8 pr.toNat, nV .u32 s, nV .u32 d, nV .u16 fr, nV .u16 to], nV .u16 id, bV q] w (Ret w (.agg ([nV .u8 pr.toNat, nV .u32 s, nV .u32 d, nV .u16 (sel q id fr), nV .u16 (sel q to id)]).toArray)) := by
 refine calls_W (M := []) (LL := []) (n := 13) Try.func51 rfl rfl ma10 (Mem.refl _) (W.seq (fun K1 hK1 => ?_))
 refine W.region (Wl.ht rfl (Ht.box (v := aV [nV .u8 pr.toNat, nV .u32 s, nV .u32 d, nV .u16 fr, nV .u16 to]) (cs := [nV .u8 pr.toNat, nV .u32 s, nV .u32 d, nV .u16 fr, nV .u16 to]) rfl rfl ma0 rfl) (fun p3 => ?_))
 refine Wl.ht rfl (Ht.alloc (z := aV zl0) (cs := zl0) rfl rfl Try.zeroValue30 rfl) (fun p6 => Wl.nil (hK1 _ _ _ (W.seq (fun K2 hK2 => W.seq (fun K3 hK3 => ?_)))))
 refine W.region (Wl.run 1 ma0 (Wl.nil (hK3 _ _ _ ?_)))
 refine W.cond (q) ma0 (fun h4 => ?_) (fun h5 => ?_)
 ·refine W.region (Wl.run 2 ma0 (Wl.ht rfl (Ht.store (b := p3) (o' := 3) (i := 1) (j := 0) (v := nV .u16 id) (LL' := [[cb p6 zl0 30], [cb p3 [nV .u8 pr.toNat, nV .u32 s, nV .u32 d, nV .u16 id, nV .u16 to] 30]]) rfl rfl ma0 ma0 Try.sizeOf22 rfl rfl rfl ma10 rfl rfl) (fun _ => Wl.nil (hK2 _ _ _ ?_))))
  refine W.seq (fun K6 hK6 => W.region (Wl.ys rfl rfl (Ys.loadN (b := p3) (o' := 0) (i := 1) (j := 0) (vs := [nV .u8 pr.toNat, nV .u32 s, nV .u32 d, nV .u16 id, nV .u16 to]) rfl ma0 Try.isAgg30 Try.sizeOf30 rfl rfl rfl rfl) (Wl.ht rfl (Ht.storeN (b := p6) (o' := 0) (i := 0) (j := 0) (vs := [nV .u8 pr.toNat, nV .u32 s, nV .u32 d, nV .u16 id, nV .u16 to]) (LL' := [[cb p6 [nV .u8 pr.toNat, nV .u32 s, nV .u32 d, nV .u16 id, nV .u16 to] 30], [cb p3 [nV .u8 pr.toNat, nV .u32 s, nV .u32 d, nV .u16 id, nV .u16 to] 30]]) rfl rfl ma0 ma0 Try.sizeOf30 ma9 rfl rfl ma10 rfl rfl) (fun _ => Wl.nil ?_))))
  refine hK6 _ _ _ (W.ret ?_)
  show ∀ w_, _ → bodyPostM (fence none) 0 Try.prog Try.f51 _ Exit.ret _ w_
  exact fun w_ hS_ => fin_ret (ret1 rfl (RV.cellN (b := p6) (o' := 0) (i := 0) (j := 0) (cs := [nV .u8 pr.toNat, nV .u32 s, nV .u32 d, nV .u16 id, nV .u16 to]) (vs := [nV .u8 pr.toNat, nV .u32 s, nV .u32 d, nV .u16 id, nV .u16 to]) ma0 Try.isAgg30 Try.sizeOf30 rfl rfl rfl rfl) hS_ ⟨by clear hK1 hK2 hK3 hK6; refine congrArg Ending.returned ?_; rw [h4]; rfl, hS_.below⟩)
 ·refine W.region (Wl.run 2 ma0 (Wl.ht rfl (Ht.store (b := p3) (o' := 4) (i := 1) (j := 0) (v := nV .u16 id) (LL' := [[cb p6 zl0 30], [cb p3 [nV .u8 pr.toNat, nV .u32 s, nV .u32 d, nV .u16 fr, nV .u16 id] 30]]) rfl rfl ma0 ma0 Try.sizeOf22 rfl rfl rfl ma10 rfl rfl) (fun _ => Wl.nil (hK2 _ _ _ ?_))))
  refine W.seq (fun K7 hK7 => W.region (Wl.ys rfl rfl (Ys.loadN (b := p3) (o' := 0) (i := 1) (j := 0) (vs := [nV .u8 pr.toNat, nV .u32 s, nV .u32 d, nV .u16 fr, nV .u16 id]) rfl ma0 Try.isAgg30 Try.sizeOf30 rfl rfl rfl rfl) (Wl.ht rfl (Ht.storeN (b := p6) (o' := 0) (i := 0) (j := 0) (vs := [nV .u8 pr.toNat, nV .u32 s, nV .u32 d, nV .u16 fr, nV .u16 id]) (LL' := [[cb p6 [nV .u8 pr.toNat, nV .u32 s, nV .u32 d, nV .u16 fr, nV .u16 id] 30], [cb p3 [nV .u8 pr.toNat, nV .u32 s, nV .u32 d, nV .u16 fr, nV .u16 id] 30]]) rfl rfl ma0 ma0 Try.sizeOf30 ma9 rfl rfl ma10 rfl rfl) (fun _ => Wl.nil ?_))))
  refine hK7 _ _ _ (W.ret ?_)
  show ∀ w_, _ → bodyPostM (fence none) 0 Try.prog Try.f51 _ Exit.ret _ w_
  exact fun w_ hS_ => fin_ret (ret1 rfl (RV.cellN (b := p6) (o' := 0) (i := 0) (j := 0) (cs := [nV .u8 pr.toNat, nV .u32 s, nV .u32 d, nV .u16 fr, nV .u16 id]) (vs := [nV .u8 pr.toNat, nV .u32 s, nV .u32 d, nV .u16 fr, nV .u16 id]) ma0 Try.isAgg30 Try.sizeOf30 rfl rfl rfl rfl) hS_ ⟨by clear hK1 hK2 hK3 hK7; refine congrArg Ending.returned ?_; rw [h5]; rfl, hS_.below⟩)
theorem turn_c (pr : UInt8) (s d fr to : Nat) (w : World) : Calls Try.prog 13 #[aV [nV .u8 pr.toNat, nV .u32 s, nV .u32 d, nV .u16 fr, nV .u16 to]] w (Ret w (.agg ([nV .u8 pr.toNat, nV .u32 d, nV .u32 s, nV .u16 to, nV .u16 fr]).toArray)) := by
 refine calls_W (M := []) (LL := []) (n := 16) Try.func13 rfl rfl ma10 (Mem.refl _) (W.seq (fun K1 hK1 => ?_))
 refine W.region (Wl.ht rfl (Ht.box (v := aV [nV .u8 pr.toNat, nV .u32 s, nV .u32 d, nV .u16 fr, nV .u16 to]) (cs := [nV .u8 pr.toNat, nV .u32 s, nV .u32 d, nV .u16 fr, nV .u16 to]) rfl rfl ma0 rfl) (fun p1 => ?_))
 refine Wl.ht rfl (Ht.alloc (z := aV zl0) (cs := zl0) rfl rfl Try.zeroValue30 rfl) (fun p2 => Wl.nil (hK1 _ _ _ (W.seq (fun K2 hK2 => W.region ?_))))
 refine Wl.run 1 ma0 (Wl.ys rfl rfl (Ys.l1 p1 2 1 0 Try.isAgg24) (Wl.run 1 ma0 (Wl.ys rfl rfl (Ys.l1 p1 1 1 0 Try.isAgg24) (Wl.run 1 ma0 ?_))))
 refine Wl.ys rfl rfl (Ys.l1 p1 4 1 0 Try.isAgg22) (Wl.run 1 ma0 (Wl.ys rfl rfl (Ys.l1 p1 3 1 0 Try.isAgg22) (Wl.run 1 ma0 (Wl.ht rfl (Ht.store (b := p1) (o' := 1) (i := 1) (j := 0) (v := nV .u32 d) (LL' := [[cb p2 zl0 30], [cb p1 [nV .u8 pr.toNat, nV .u32 d, nV .u32 d, nV .u16 fr, nV .u16 to] 30]]) rfl rfl ma0 ma0 Try.sizeOf24 rfl rfl rfl ma10 rfl rfl) (fun _ => ?_)))))
 refine Wl.run 1 ma0 (Wl.ht rfl (Ht.store (b := p1) (o' := 2) (i := 1) (j := 0) (v := nV .u32 s) (LL' := [[cb p2 zl0 30], [cb p1 [nV .u8 pr.toNat, nV .u32 d, nV .u32 s, nV .u16 fr, nV .u16 to] 30]]) rfl rfl ma0 ma0 Try.sizeOf24 rfl rfl rfl ma10 rfl rfl) (fun _ => ?_))
 refine Wl.run 1 ma0 (Wl.ht rfl (Ht.store (b := p1) (o' := 3) (i := 1) (j := 0) (v := nV .u16 to) (LL' := [[cb p2 zl0 30], [cb p1 [nV .u8 pr.toNat, nV .u32 d, nV .u32 s, nV .u16 to, nV .u16 to] 30]]) rfl rfl ma0 ma0 Try.sizeOf22 rfl rfl rfl ma10 rfl rfl) (fun _ => ?_))
 refine Wl.run 1 ma0 (Wl.ht rfl (Ht.store (b := p1) (o' := 4) (i := 1) (j := 0) (v := nV .u16 fr) (LL' := [[cb p2 zl0 30], [cb p1 [nV .u8 pr.toNat, nV .u32 d, nV .u32 s, nV .u16 to, nV .u16 fr] 30]]) rfl rfl ma0 ma0 Try.sizeOf22 rfl rfl rfl ma10 rfl rfl) (fun _ => ?_))
 refine Wl.nil (hK2 _ _ _ (W.prune' [1, 2] [pV p1 0, pV p2 0] ma0 (fun f3 => W.seq (fun K4 hK4 => W.region ?_))))
 refine Wl.ys rfl rfl (Ys.loadN (b := p1) (o' := 0) (i := 1) (j := 0) (vs := [nV .u8 pr.toNat, nV .u32 d, nV .u32 s, nV .u16 to, nV .u16 fr]) rfl ma0 Try.isAgg30 Try.sizeOf30 rfl rfl rfl rfl) (Wl.ht rfl (Ht.storeN (b := p2) (o' := 0) (i := 0) (j := 0) (vs := [nV .u8 pr.toNat, nV .u32 d, nV .u32 s, nV .u16 to, nV .u16 fr]) (LL' := [[cb p2 [nV .u8 pr.toNat, nV .u32 d, nV .u32 s, nV .u16 to, nV .u16 fr] 30], [cb p1 [nV .u8 pr.toNat, nV .u32 d, nV .u32 s, nV .u16 to, nV .u16 fr] 30]]) rfl rfl ma0 ma0 Try.sizeOf30 ma9 rfl rfl ma10 rfl rfl) (fun _ => ?_))
 refine Wl.nil (hK4 _ _ _ (W.ret ?_))
 show ∀ w_, _ → bodyPostM (fence none) 0 Try.prog Try.f13 _ Exit.ret _ w_
 exact fun w_ hS_ => fin_ret (ret1 rfl (RV.cellN (b := p2) (o' := 0) (i := 0) (j := 0) (cs := [nV .u8 pr.toNat, nV .u32 d, nV .u32 s, nV .u16 to, nV .u16 fr]) (vs := [nV .u8 pr.toNat, nV .u32 d, nV .u32 s, nV .u16 to, nV .u16 fr]) ma0 Try.isAgg30 Try.sizeOf30 rfl rfl rfl rfl) hS_ ⟨rfl, hS_.below⟩)
def inC (xs : List UInt8) : Bool := ((decide (((xs.length : Nat) : Int) < 28)) || ((((xs.getD 0 0).toNat : Nat) : Int) != 69)) || ((((w2 xs 6) % 8192 : Nat) : Int) != 0)
def i9 (xs : List UInt8) (k : Int) : Bool := ((xs.getD 9 0).toNat : Int) == k
def inP (xs : List UInt8) : UInt8 := bif inC xs then 0 else xs.getD 9 0
def inA (xs : List UInt8) (k : Nat) : Nat := bif inC xs then 0 else a4 xs k
def inF (xs : List UInt8) : Nat := bif inC xs then 0 else bif i9 xs 6 then w2 xs 20 else bif i9 xs 17 then w2 xs 20 else bif i9 xs 1 then sel (ecA (xs.getD 20 0)) (w2 xs 24) 0 else 0
def inT (xs : List UInt8) : Nat := bif inC xs then 0 else bif i9 xs 6 then w2 xs 22 else bif i9 xs 17 then w2 xs 22 else bif i9 xs 1 then sel (ecA (xs.getD 20 0)) 0 (w2 xs 24) else 0
def inO (xs : List UInt8) : Bool := bif inC xs then false else bif i9 xs 6 then true else bif i9 xs 17 then true else bif i9 xs 1 then ecO (xs.getD 20 0) (xs.getD 21 0) else false
theorem sel_lt {b : Bool} {x y n : Nat} (hx : x < n) (hy : y < n) : sel b x y < n := by unfold sel; cases b <;> assumption
theorem inA_lt (xs : List UInt8) (k : Nat) : inA xs k < 4294967296 := by unfold inA; cases inC xs; exact a4_lt xs k; show (0 : Nat) < _; decide
theorem inF_lt (xs : List UInt8) : inF xs < 65536 := by
  unfold inF; have := w2_lt xs 20; have := w2_lt xs 24
  cases inC xs <;> cases i9 xs 6 <;> cases i9 xs 17 <;> cases i9 xs 1 <;> simp only [cond_true, cond_false] <;> first | omega | exact sel_lt ma1 ma1
theorem inT_lt (xs : List UInt8) : inT xs < 65536 := by
  unfold inT; have := w2_lt xs 22; have := w2_lt xs 24
  cases inC xs <;> cases i9 xs 6 <;> cases i9 xs 17 <;> cases i9 xs 1 <;> simp only [cond_true, cond_false] <;> first | omega | exact sel_lt ma1 ma1
abbrev cFl1_1198_0 (p2 : Nat) (xs : List UInt8) : List Blk := [cb p2 [nV .u8 ((xs.getD 9 0).toNat), nV .u32 (a4 xs 12), nV .u32 (a4 xs 16), nV .u16 (w2 xs 20), nV .u16 (w2 xs 22)] 30]
abbrev cFl1_1198_1 (p2 : Nat) (xs : List UInt8) : List Blk := [cb p2 [nV .u8 ((xs.getD 9 0).toNat), nV .u32 (a4 xs 12), nV .u32 (a4 xs 16), iV .u16 0, iV .u16 0] 30]
theorem inner_c (xs : List UInt8) (a : Option Addr) (cap : Nat) (w : World) (hat : At w a (byc xs)) (hl : xs.length ≤ 1000000) (hlc : xs.length ≤ cap) : Calls Try.prog 52 #[Value.slice a xs.length cap] w (Ret w (.tuple #[.agg ([nV .u8 ((inP xs).toNat), nV .u32 (inA xs 12), nV .u32 (inA xs 16), nV .u16 (inF xs), nV .u16 (inT xs)]).toArray, .bool (inO xs)])) := by
 have hw20 := w2_lt xs 20; have hw22 := w2_lt xs 22; have hw24 := w2_lt xs 24; have ha12 := a4_lt xs 12; have ha16 := a4_lt xs 16; have hw6 := w2_lt xs 6
 refine calls_W (M := []) (LL := []) (n := 61) Try.func52 rfl rfl ma10 (Mem.refl _) (W.seq (fun K1 hK1 => ?_))
 refine W.region (Wl.ht rfl (Ht.alloc (z := aV zl0) (cs := zl0) rfl rfl Try.zeroValue30 rfl) (fun p2 => ?_))
 refine Wl.run 1 ma0 (Wl.nil (hK1 _ _ _ (W.seq (fun K2 hK2 => W.seq (fun K3 hK3 => ?_)))))
 refine W.region (Wl.run 4 ma0 ?_)
 refine Wl.guard (v := Value.slice a xs.length cap) (!(decide (((xs.length : Nat) : Int) < 28))) rfl (wantF rfl ma0) rfl (fun hg4 => ?_) ?_
 ·exact Ys.pure (fun _ => kr)
 refine Wl.guard (v := Value.pointer (some (ela a 0))) (!(decide (((xs.length : Nat) : Int) < 28))) rfl (wantF rfl ma0) rfl (fun hg5 => ?_) ?_
 ·have qhg5 := hg5; try simp only [zA] at qhg5
  refine Ys.at (t := 10) (v0 := Value.slice a xs.length cap) (lz (g := !(decide (((xs.length : Nat) : Int) < 28))) (u := undef) hg5 ma0) ?_
  exact Ys.byMem fun w_ h_ => Ys.indexAddr (k := .i64) (a := a) (len := xs.length) (cap := cap) (i := 0) (sz := 1) rfl ma0 ma0 Try.runUnderlying25 Try.sizeOf5 ma1 ma1 ((hat.mem0 h_).here ma17)
 refine Wl.guard (v := nV .u8 ((xs.getD 0 0).toNat)) (!(decide (((xs.length : Nat) : Int) < 28))) rfl (wantF rfl ma0) rfl (fun hg6 => ?_) ?_
 ·have qhg6 := hg6; try simp only [zA] at qhg6
  refine Ys.at (t := 11) (v0 := Value.pointer (some (ela a 0))) (lz (g := !(decide (((xs.length : Nat) : Int) < 28))) (u := undef) hg6 ma0) ?_
  exact Ys.ld (a := ela a 0) rfl ma0 Try.isAgg5 (fun w_ h_ => (hat.mem0 h_).ld (mc_get 0 ma8))
 refine Wl.guard (v := bV ((((xs.getD 0 0).toNat : Nat) : Int) != 69)) (!(decide (((xs.length : Nat) : Int) < 28))) rfl (wantF rfl ma0) rfl (fun hg7 => ?_) ?_
 ·have qhg7 := hg7; try simp only [zA] at qhg7
  refine Ys.at (t := 12) (v0 := nV .u8 ((xs.getD 0 0).toNat)) (lz (g := !(decide (((xs.length : Nat) : Int) < 28))) (u := undef) hg7 ma0) ?_
  exact Ys.pure (fun _ => kr)
 refine Wl.ys (v := bV ((decide (((xs.length : Nat) : Int) < 28)) || ((((xs.getD 0 0).toNat : Nat) : Int) != 69))) rfl rfl (Ys.or' (e := decide (((xs.length : Nat) : Int) < 28)) (b := ((xs.getD 0 0).toNat : Int) != 69) rfl ma0 ma0 ma0) (Wl.run 1 ma0 ?_)
 refine Wl.guard (v := Value.slice a xs.length cap) (!((decide (((xs.length : Nat) : Int) < 28)) || ((((xs.getD 0 0).toNat : Nat) : Int) != 69))) rfl (wantF rfl ma0) rfl (fun hg8 => ?_) ?_
 ·exact Ys.pure (fun _ => kr)
 refine Wl.guardc (v := nV .u16 (w2 xs 6)) (!((decide (((xs.length : Nat) : Int) < 28)) || ((((xs.getD 0 0).toNat : Nat) : Int) != 69))) rfl (wantF rfl ma0) rfl (fun hg9 => ?_) ?_
 ·have qhg9 := hg9; try simp only [zA] at qhg9
  refine Yc.at (t := 16) (v0 := Value.slice a xs.length cap) (lz (g := !((decide (((xs.length : Nat) : Int) < 28)) || ((((xs.getD 0 0).toNat : Nat) : Int) != 69))) (u := undef) hg9 ma0) ?_
  exact Yc.call (fun _ => kr) (fun w_ hm_ => (wordn_c xs a cap 6 xs.length _ ma3 (hat.mem0 hm_) ma1 ma1 ma5))
 refine Wl.guard (v := nV .u16 ((w2 xs 6) % 8192)) (!((decide (((xs.length : Nat) : Int) < 28)) || ((((xs.getD 0 0).toNat : Nat) : Int) != 69))) rfl (wantF rfl ma0) rfl (fun hg10 => ?_) ?_
 ·have qhg10 := hg10; try simp only [zA] at qhg10
  refine Ys.at (t := 17) (v0 := nV .u16 (w2 xs 6)) (lz (g := !((decide (((xs.length : Nat) : Int) < 28)) || ((((xs.getD 0 0).toNat : Nat) : Int) != 69))) (u := undef) hg10 ma0) ?_
  exact (Ys.pure (v := .int .u16 (band .u16 ((w2 xs 6 : Nat) : Int) ((8191 : Nat) : Int))) (fun _ => kr)).conseq (int_congr (band_mask rfl (a := w2 xs 6) (c := 13) ma20 ma2 8191 rfl))
 refine Wl.guard (v := bV ((((w2 xs 6) % 8192 : Nat) : Int) != 0)) (!((decide (((xs.length : Nat) : Int) < 28)) || ((((xs.getD 0 0).toNat : Nat) : Int) != 69))) rfl (wantF rfl ma0) rfl (fun hg11 => ?_) ?_
 ·have qhg11 := hg11; try simp only [zA] at qhg11
  refine Ys.at (t := 18) (v0 := nV .u16 ((w2 xs 6) % 8192)) (lz (g := !((decide (((xs.length : Nat) : Int) < 28)) || ((((xs.getD 0 0).toNat : Nat) : Int) != 69))) (u := undef) hg11 ma0) ?_
  exact Ys.pure (fun _ => kr)
 refine Wl.ys (v := bV (((decide (((xs.length : Nat) : Int) < 28)) || ((((xs.getD 0 0).toNat : Nat) : Int) != 69)) || ((((w2 xs 6) % 8192 : Nat) : Int) != 0))) rfl rfl (Ys.or' (e := (decide (((xs.length : Nat) : Int) < 28)) || ((((xs.getD 0 0).toNat : Nat) : Int) != 69)) (b := (((w2 xs 6) % 8192 : Nat) : Int) != 0) rfl ma0 ma0 ma0) (Wl.nil (hK3 _ _ _ (W.prune' [0, 2, 20] [Value.slice a xs.length cap, pV p2 0, bV (((decide (((xs.length : Nat) : Int) < 28)) || ((((xs.getD 0 0).toNat : Nat) : Int) != 69)) || ((((w2 xs 6) % 8192 : Nat) : Int) != 0))] ma0 (fun f12 => ?_))))
 refine W.cond (((decide (((xs.length : Nat) : Int) < 28)) || ((((xs.getD 0 0).toNat : Nat) : Int) != 69)) || ((((w2 xs 6) % 8192 : Nat) : Int) != 0)) ma0 (fun h13 => ?_) (fun h14 => ?_)
 ·have qh13 := h13; try simp only [zA] at qh13
  refine W.seq (fun K15 hK15 => W.region (Wl.ys rfl rfl (Ys.loadN (b := p2) (o' := 0) (i := 0) (j := 0) (vs := zl0) rfl ma0 Try.isAgg30 Try.sizeOf30 rfl rfl rfl rfl) (Wl.ht rfl (Ht.storeN (b := p2) (o' := 0) (i := 0) (j := 0) (vs := zl0) (LL' := [[cb p2 zl0 30]]) rfl rfl ma0 ma0 Try.sizeOf30 ma9 rfl rfl ma10 rfl rfl) (fun _ => Wl.run 1 ma0 ?_))))
  refine Wl.nil (hK15 _ _ _ (W.ret ?_))
  have hC_ : inC xs = true := h13
  show ∀ w_, _ → bodyPostM (fence none) 0 Try.prog Try.f52 _ Exit.ret _ w_
  exact fun w_ hS_ => fin_ret (ret2 rfl (RV.cellN (b := p2) (o' := 0) (i := 0) (j := 0) (cs := zl0) (vs := zl0) ma0 Try.isAgg30 Try.sizeOf30 rfl rfl rfl rfl) (RV.tmp (v := bV false) ma0) hS_ ⟨by clear hK1 hK2 hK3 hK15; refine congrArg Ending.returned ?_; simp only [inP, inA, inF, inT, inO, hC_, cond_true, cond_false]; try rfl, hS_.below⟩)
 ·have qh14 := h14; try simp only [zA] at qh14
  refine W.skip' (hK2 _ _ _ (W.seq (fun K16 hK16 => W.draws [(0, true), (1, true), (2, true), (3, true), (5, true), (4, false), (6, false), (7, false), (8, false)] [0, 1, 2, 3, 5] (Mem w [] [[cb p2 zl0 30]]) ma0 ma0 ma0 rfl ma0 (fun _ _ h_ => h_.drawn _) (fun _ h_ => h_) (Wd.run 1 ma0 ?_))))
  refine Wd.ys (v := Value.pointer (some (ela a 9))) rfl rfl rfl (Ys.byMem fun w_ h_ => Ys.indexAddr (k := .i64) (a := a) (len := xs.length) (cap := cap) (i := 9) (sz := 1) rfl ma0 ma0 Try.runUnderlying25 Try.sizeOf5 ma1 ma1 ((hat.mem0 h_).here ma17)) (Wd.ys (v := nV .u8 ((xs.getD 9 0).toNat)) rfl rfl rfl (Ys.ld (a := ela a 9) rfl ma0 Try.isAgg5 (fun w_ h_ => (hat.mem0 h_).ld (mc_get 0 ma8))) ?_)
  have hb17 : (xs.getD 9 0).toNat < 256 := UInt8.toNat_lt _
  refine Wd.run 2 ma0 (Wd.yc (v := nV .u32 (a4 xs 12)) rfl rfl rfl (Yc.call (fun _ => kr) (fun w_ hm_ => (addrn_c xs a cap 12 xs.length _ ma3 (hat.mem0 hm_) ma1 ma1 ma5))) (.inr fun _ h_ => h_) (Wd.yc (v := nV .u32 (a4 xs 16)) rfl rfl rfl (Yc.call (fun _ => kr) (fun w_ hm_ => (addrn_c xs a cap 16 xs.length _ ma3 (hat.mem0 hm_) ma1 ma1 ma5))) (.inr fun _ h_ => h_) (Wd.yc (v := aV [nV .u8 ((xs.getD 9 0).toNat), nV .u32 (a4 xs 12), nV .u32 (a4 xs 16), iV .u16 0, iV .u16 0]) rfl rfl rfl (Ys.yc (Ys.pure (fun _ => kr))) (.inr fun _ h_ => h_) (Wd.ht rfl rfl (Ht.storeN (b := p2) (o' := 0) (i := 0) (j := 0) (vs := [nV .u8 ((xs.getD 9 0).toNat), nV .u32 (a4 xs 12), nV .u32 (a4 xs 16), iV .u16 0, iV .u16 0]) (LL' := [cFl1_1198_1 p2 xs]) rfl rfl ma0 ma0 Try.sizeOf30 ma9 rfl rfl ma10 rfl rfl) (.inl ma0) (fun _ => ?_)))))
  refine Wd.nil (hK16 _ _ _ (W.seq (fun K18 hK18 => W.seq (fun K19 hK19 => W.region ?_))))
  refine Wl.run 1 ma0 (Wl.ys rfl rfl (Ys.l1 p2 0 0 0 Try.isAgg5) (Wl.nil (hK19 _ _ _ (W.prune' [0, 2, 31] [Value.slice a xs.length cap, pV p2 0, nV .u8 ((xs.getD 9 0).toNat)] ma0 (fun f20 => ?_)))))
  refine W.block (W.seq (fun K21 hK21 => ?_))
  refine W.seq (fun K22 hK22 => W.region (Wl.run 2 ma0 (Wl.nil (hK22 _ _ _ ?_))))
  refine W.cond ((((xs.getD 9 0).toNat : Nat) : Int) == 6) ma0 (fun h23 => ?_) (fun h24 => ?_)
  ·have qh23 := h23; try simp only [zA] at qh23
   refine W.skip' (hK21 _ _ _ ?_)
   refine W.cond ((((xs.getD 9 0).toNat : Nat) : Int) == 6) ma0 (fun h25 => ?_) (fun h26 => ?_)
   ·have qh25 := h25; try simp only [zA] at qh25
    refine W.seq (fun K27 hK27 => W.region (Wl.run 1 ma0 (Wl.yc (v := nV .u16 (w2 xs 20)) rfl rfl (Yc.call (fun _ => kr) (fun w_ hm_ => (wordn_c xs a cap 20 xs.length _ ma3 (hat.mem0 hm_) ma1 ma1 ma5))) (Wl.run 1 ma0 ?_))))
    refine Wl.yc (v := nV .u16 (w2 xs 22)) rfl rfl (Yc.call (fun _ => kr) (fun w_ hm_ => (wordn_c xs a cap 22 xs.length _ ma3 (hat.mem0 hm_) ma1 ma1 ma5))) (Wl.run 1 ma0 (Wl.ht rfl (Ht.store (b := p2) (o' := 3) (i := 0) (j := 0) (v := nV .u16 (w2 xs 20)) (LL' := [[cb p2 [nV .u8 ((xs.getD 9 0).toNat), nV .u32 (a4 xs 12), nV .u32 (a4 xs 16), nV .u16 (w2 xs 20), iV .u16 0] 30]]) rfl rfl ma0 ma0 Try.sizeOf22 rfl rfl rfl ma10 rfl rfl) (fun _ => Wl.run 1 ma0 (Wl.ht rfl (Ht.store (b := p2) (o' := 4) (i := 0) (j := 0) (v := nV .u16 (w2 xs 22)) (LL' := [cFl1_1198_0 p2 xs]) rfl rfl ma0 ma0 Try.sizeOf22 rfl rfl rfl ma10 rfl rfl) (fun _ => ?_)))))
    refine Wl.nil (hK27 _ _ _ (W.prune' [2] [pV p2 0] ma0 (fun f28 => W.seq (fun K29 hK29 => W.region ?_))))
    refine Wl.ys rfl rfl (Ys.loadN (b := p2) (o' := 0) (i := 0) (j := 0) (vs := [nV .u8 ((xs.getD 9 0).toNat), nV .u32 (a4 xs 12), nV .u32 (a4 xs 16), nV .u16 (w2 xs 20), nV .u16 (w2 xs 22)]) rfl ma0 Try.isAgg30 Try.sizeOf30 rfl rfl rfl rfl) (Wl.ht rfl (Ht.storeN (b := p2) (o' := 0) (i := 0) (j := 0) (vs := [nV .u8 ((xs.getD 9 0).toNat), nV .u32 (a4 xs 12), nV .u32 (a4 xs 16), nV .u16 (w2 xs 20), nV .u16 (w2 xs 22)]) (LL' := [cFl1_1198_0 p2 xs]) rfl rfl ma0 ma0 Try.sizeOf30 ma9 rfl rfl ma10 rfl rfl) (fun _ => ?_))
    refine Wl.run 1 ma0 (Wl.nil (hK29 _ _ _ (W.ret ?_)))
    have hC_ : inC xs = false := h14
    have h9_6 : i9 xs 6 = true := h25
    show ∀ w_, _ → bodyPostM (fence none) 0 Try.prog Try.f52 _ Exit.ret _ w_
    exact fun w_ hS_ => fin_ret (ret2 rfl (RV.cellN (b := p2) (o' := 0) (i := 0) (j := 0) (cs := [nV .u8 ((xs.getD 9 0).toNat), nV .u32 (a4 xs 12), nV .u32 (a4 xs 16), nV .u16 (w2 xs 20), nV .u16 (w2 xs 22)]) (vs := [nV .u8 ((xs.getD 9 0).toNat), nV .u32 (a4 xs 12), nV .u32 (a4 xs 16), nV .u16 (w2 xs 20), nV .u16 (w2 xs 22)]) ma0 Try.isAgg30 Try.sizeOf30 rfl rfl rfl rfl) (RV.tmp (v := bV true) ma0) hS_ ⟨by clear hK1 hK2 hK3 hK16 hK18 hK19 hK21 hK22 hK27 hK29; refine congrArg Ending.returned ?_; simp only [inP, inA, inF, inT, inO, hC_, h9_6, cond_true, cond_false]; try rfl, hS_.below⟩)
   ·exact absurd (h23.symm.trans h26) ma2
  ·have qh24 := h24; try simp only [zA] at qh24
   refine W.region (Wl.run 2 ma0 (Wl.nil (hK21 _ _ _ ?_)))
   refine W.cond ((((xs.getD 9 0).toNat : Nat) : Int) == 17) ma0 (fun h30 => ?_) (fun h31 => ?_)
   ·have qh30 := h30; try simp only [zA] at qh30
    refine W.seq (fun K32 hK32 => W.region (Wl.run 1 ma0 (Wl.yc (v := nV .u16 (w2 xs 20)) rfl rfl (Yc.call (fun _ => kr) (fun w_ hm_ => (wordn_c xs a cap 20 xs.length _ ma3 (hat.mem0 hm_) ma1 ma1 ma5))) (Wl.run 1 ma0 ?_))))
    refine Wl.yc (v := nV .u16 (w2 xs 22)) rfl rfl (Yc.call (fun _ => kr) (fun w_ hm_ => (wordn_c xs a cap 22 xs.length _ ma3 (hat.mem0 hm_) ma1 ma1 ma5))) (Wl.run 1 ma0 (Wl.ht rfl (Ht.store (b := p2) (o' := 3) (i := 0) (j := 0) (v := nV .u16 (w2 xs 20)) (LL' := [[cb p2 [nV .u8 ((xs.getD 9 0).toNat), nV .u32 (a4 xs 12), nV .u32 (a4 xs 16), nV .u16 (w2 xs 20), iV .u16 0] 30]]) rfl rfl ma0 ma0 Try.sizeOf22 rfl rfl rfl ma10 rfl rfl) (fun _ => Wl.run 1 ma0 (Wl.ht rfl (Ht.store (b := p2) (o' := 4) (i := 0) (j := 0) (v := nV .u16 (w2 xs 22)) (LL' := [cFl1_1198_0 p2 xs]) rfl rfl ma0 ma0 Try.sizeOf22 rfl rfl rfl ma10 rfl rfl) (fun _ => ?_)))))
    refine Wl.nil (hK32 _ _ _ (W.prune' [2] [pV p2 0] ma0 (fun f33 => W.seq (fun K34 hK34 => W.region ?_))))
    refine Wl.ys rfl rfl (Ys.loadN (b := p2) (o' := 0) (i := 0) (j := 0) (vs := [nV .u8 ((xs.getD 9 0).toNat), nV .u32 (a4 xs 12), nV .u32 (a4 xs 16), nV .u16 (w2 xs 20), nV .u16 (w2 xs 22)]) rfl ma0 Try.isAgg30 Try.sizeOf30 rfl rfl rfl rfl) (Wl.ht rfl (Ht.storeN (b := p2) (o' := 0) (i := 0) (j := 0) (vs := [nV .u8 ((xs.getD 9 0).toNat), nV .u32 (a4 xs 12), nV .u32 (a4 xs 16), nV .u16 (w2 xs 20), nV .u16 (w2 xs 22)]) (LL' := [cFl1_1198_0 p2 xs]) rfl rfl ma0 ma0 Try.sizeOf30 ma9 rfl rfl ma10 rfl rfl) (fun _ => ?_))
    refine Wl.run 1 ma0 (Wl.nil (hK34 _ _ _ (W.ret ?_)))
    have hC_ : inC xs = false := h14
    have h9_6 : i9 xs 6 = false := h24
    have h9_17 : i9 xs 17 = true := h30
    show ∀ w_, _ → bodyPostM (fence none) 0 Try.prog Try.f52 _ Exit.ret _ w_
    exact fun w_ hS_ => fin_ret (ret2 rfl (RV.cellN (b := p2) (o' := 0) (i := 0) (j := 0) (cs := [nV .u8 ((xs.getD 9 0).toNat), nV .u32 (a4 xs 12), nV .u32 (a4 xs 16), nV .u16 (w2 xs 20), nV .u16 (w2 xs 22)]) (vs := [nV .u8 ((xs.getD 9 0).toNat), nV .u32 (a4 xs 12), nV .u32 (a4 xs 16), nV .u16 (w2 xs 20), nV .u16 (w2 xs 22)]) ma0 Try.isAgg30 Try.sizeOf30 rfl rfl rfl rfl) (RV.tmp (v := bV true) ma0) hS_ ⟨by clear hK1 hK2 hK3 hK16 hK18 hK19 hK21 hK22 hK32 hK34; refine congrArg Ending.returned ?_; simp only [inP, inA, inF, inT, inO, hC_, h9_6, h9_17, cond_true, cond_false]; try rfl, hS_.below⟩)
   ·have qh31 := h31; try simp only [zA] at qh31
    refine W.seq (fun K35 hK35 => W.region (Wl.run 2 ma0 (Wl.nil (hK35 _ _ _ ?_))))
    refine W.cond ((((xs.getD 9 0).toNat : Nat) : Int) == 1) ma0 (fun h36 => ?_) (fun h37 => ?_)
    ·have qh36 := h36; try simp only [zA] at qh36
     refine W.seq (fun K38 hK38 => W.draws [(0, true), (1, true), (2, true), (3, false), (4, false), (5, false), (6, false), (7, false), (8, true), (9, true), (10, false), (11, false)] [0, 1, 2, 8, 9] (Mem w [] [cFl1_1198_1 p2 xs]) ma0 ma0 ma0 rfl ma0 (fun _ _ h_ => h_.drawn _) (fun _ h_ => h_) (Wd.run 1 ma0 (Wd.ys (v := Value.pointer (some (ela a 20))) rfl rfl rfl (Ys.byMem fun w_ h_ => Ys.indexAddr (k := .i64) (a := a) (len := xs.length) (cap := cap) (i := 20) (sz := 1) rfl ma0 ma0 Try.runUnderlying25 Try.sizeOf5 ma1 ma1 ((hat.mem0 h_).here ma17)) (Wd.ys (v := nV .u8 ((xs.getD 20 0).toNat)) rfl rfl rfl (Ys.ld (a := ela a 20) rfl ma0 Try.isAgg5 (fun w_ h_ => (hat.mem0 h_).ld (mc_get 0 ma8))) ?_))))
     have hb39 : (xs.getD 20 0).toNat < 256 := UInt8.toNat_lt _
     refine Wd.yc (v := Value.slice a xs.length cap) rfl rfl rfl (Ys.yc (Ys.pure (fun _ => kr))) (.inr fun _ h_ => h_) (Wd.yc (v := Value.pointer (some (ela a 21))) rfl rfl rfl (Ys.yc (Ys.byMem fun w_ h_ => Ys.indexAddr (k := .i64) (a := a) (len := xs.length) (cap := cap) (i := 21) (sz := 1) rfl ma0 ma0 Try.runUnderlying25 Try.sizeOf5 ma1 ma1 ((hat.mem0 h_).here ma17))) (.inr fun _ h_ => h_) (Wd.yc (v := nV .u8 ((xs.getD 21 0).toNat)) rfl rfl rfl (Ys.yc (Ys.ld (a := ela a 21) rfl ma0 Try.isAgg5 (fun w_ h_ => (hat.mem0 h_).ld (mc_get 0 ma8)))) (.inr fun _ h_ => h_) ?_))
     have hb40 : (xs.getD 21 0).toNat < 256 := UInt8.toNat_lt _
     refine Wd.yc (v := Value.tuple #[bV (ecA (xs.getD 20 0)), bV (ecO (xs.getD 20 0) (xs.getD 21 0))]) rfl rfl rfl (Yc.call (fun _ => kr) (fun w_ hm_ => (echo_c (xs.getD 20 0) (xs.getD 21 0) _))) (.inr fun _ h_ => h_) (Wd.yc (v := Value.tuple #[bV (ecA (xs.getD 20 0)), bV (ecO (xs.getD 20 0) (xs.getD 21 0))]) rfl rfl rfl (Ys.yc (Ys.pure (fun _ => kr))) (.inr fun _ h_ => h_) (Wd.run 2 ma0 (Wd.yc (v := bV (ecA (xs.getD 20 0))) rfl rfl rfl (Ys.yc (Ys.pure (fun _ => kr))) (.inr fun _ h_ => h_) (Wd.yc (v := bV (ecO (xs.getD 20 0) (xs.getD 21 0))) rfl rfl rfl (Ys.yc (Ys.pure (fun _ => kr))) (.inl ma0) ?_))))
     refine Wd.nil (hK38 _ _ _ (W.prune' [0, 2, 4, 5] [Value.slice a xs.length cap, pV p2 0, bV (ecA (xs.getD 20 0)), bV (ecO (xs.getD 20 0) (xs.getD 21 0))] ma0 (fun f41 => W.seq (fun K42 hK42 => W.drawsA [1, 3, 5, 7] (Mem w [] []) ma0 ma0 (fun _ _ h_ => h_.drawn _) ?_))))
     refine Wa.lets (w0 := w) (M := []) [2, 54, 56, 57, 59] (fun (z48 : Unit) => [pV p2 0, aV [nV .u8 ((xs.getD 9 0).toNat), nV .u32 (a4 xs 12), nV .u32 (a4 xs 16), iV .u16 0, iV .u16 0], nV .u16 (w2 xs 24), bV (ecA (xs.getD 20 0)), bV (ecO (xs.getD 20 0) (xs.getD 21 0))]) (fun (z48 : Unit) => True) (fun (z48 : Unit) => [cFl1_1198_1 p2 xs]) 3 #[true, true, true, true, false, true, false, false] (fun z48 hp49 f50 => ?_) (fun JD45 => ?_)
     ·refine Wa.only (i := 4) ma0 (Wo.yc (v := aV [nV .u8 ((xs.getD 9 0).toNat), nV .u32 (a4 xs 12), nV .u32 (a4 xs 16), nV .u16 (sel (ecA (xs.getD 20 0)) (w2 xs 24) 0), nV .u16 (sel (ecA (xs.getD 20 0)) 0 (w2 xs 24))]) rfl rfl rfl (Yc.call (fun _ => kr) (fun w_ hm_ => (ids_c (xs.getD 9 0) (a4 xs 12) (a4 xs 16) 0 0 (w2 xs 24) (ecA (xs.getD 20 0)) _))) (.inr fun _ h_ => h_.pick [] ma2 rfl) (Wa.only (i := 6) ma0 (Wo.ht rfl rfl (Ht.storeN (b := p2) (o' := 0) (i := 0) (j := 0) (vs := [nV .u8 ((xs.getD 9 0).toNat), nV .u32 (a4 xs 12), nV .u32 (a4 xs 16), nV .u16 (sel (ecA (xs.getD 20 0)) (w2 xs 24) 0), nV .u16 (sel (ecA (xs.getD 20 0)) 0 (w2 xs 24))]) (LL' := [[cb p2 [nV .u8 ((xs.getD 9 0).toNat), nV .u32 (a4 xs 12), nV .u32 (a4 xs 16), nV .u16 (sel (ecA (xs.getD 20 0)) (w2 xs 24) 0), nV .u16 (sel (ecA (xs.getD 20 0)) 0 (w2 xs 24))] 30]]) rfl rfl ma0 ma0 Try.sizeOf30 ma9 rfl rfl ma10 rfl rfl) (.inr fun _ _ h_ => h_.pick [] ma2 rfl) (fun _ => Wa.ys (v := bV (ecO (xs.getD 20 0) (xs.getD 21 0))) (i := 7) ma0 ma0 ma0 ma0 (fun _ h_ => h_.pick [] ma2 rfl) rfl rfl rfl (Ys.pure (fun _ => kr)) ?_))))
      refine Wa.nil ma0 (hK42 _ _ _ (W.ret ?_))
      have hC_ : inC xs = false := h14
      have h9_6 : i9 xs 6 = false := h24
      have h9_17 : i9 xs 17 = false := h31
      have h9_1 : i9 xs 1 = true := h36
      show ∀ w_, _ → bodyPostM (fence none) 0 Try.prog Try.f52 _ Exit.ret _ w_
      exact fun w_ hS_ => fin_ret (ret2 rfl (RV.cellN (b := p2) (o' := 0) (i := 0) (j := 0) (cs := [nV .u8 ((xs.getD 9 0).toNat), nV .u32 (a4 xs 12), nV .u32 (a4 xs 16), nV .u16 (sel (ecA (xs.getD 20 0)) (w2 xs 24) 0), nV .u16 (sel (ecA (xs.getD 20 0)) 0 (w2 xs 24))]) (vs := [nV .u8 ((xs.getD 9 0).toNat), nV .u32 (a4 xs 12), nV .u32 (a4 xs 16), nV .u16 (sel (ecA (xs.getD 20 0)) (w2 xs 24) 0), nV .u16 (sel (ecA (xs.getD 20 0)) 0 (w2 xs 24))]) ma0 Try.isAgg30 Try.sizeOf30 rfl rfl rfl rfl) (RV.tmp (v := bV (ecO (xs.getD 20 0) (xs.getD 21 0))) ma0) hS_ ⟨by clear hK1 hK2 hK3 hK16 hK18 hK19 hK21 hK22 hK35 hK38 hK42; refine congrArg Ending.returned ?_; simp only [inP, inA, inF, inT, inO, hC_, h9_6, h9_17, h9_1, cond_true, cond_false]; try rfl, hS_.below⟩)
     ·refine Wa.ys (v := Value.slice a xs.length cap) (i := 1) ma0 ma0 ma0 ma0 (fun _ h_ => h_.pick [] ma2 rfl) rfl rfl rfl (Ys.pure (fun _ => kr)) (Wa.ys (v := bV (ecA (xs.getD 20 0))) (i := 3) ma0 ma0 ma0 ma0 (fun _ h_ => h_.pick [] ma2 rfl) rfl rfl rfl (Ys.pure (fun _ => kr)) (Wa.ys (v := bV (ecO (xs.getD 20 0) (xs.getD 21 0))) (i := 5) ma0 ma0 ma0 ma0 (fun _ h_ => h_.pick [] ma2 rfl) rfl rfl rfl (Ys.pure (fun _ => kr)) ?_))
      refine Wa.alt2 (i := 0) (j := 2) ma0 ?_ ?_
      ·refine Wo.yc (v := aV [nV .u8 ((xs.getD 9 0).toNat), nV .u32 (a4 xs 12), nV .u32 (a4 xs 16), iV .u16 0, iV .u16 0]) rfl rfl rfl (Ys.yc (Ys.loadN (b := p2) (o' := 0) (i := 0) (j := 0) (vs := [nV .u8 ((xs.getD 9 0).toNat), nV .u32 (a4 xs 12), nV .u32 (a4 xs 16), iV .u16 0, iV .u16 0]) rfl ma0 Try.isAgg30 Try.sizeOf30 rfl rfl rfl rfl)) (.inr fun _ h_ => h_.pick [] ma2 rfl) (Wa.only (i := 2) ma0 (Wo.yc (v := nV .u16 (w2 xs 24)) rfl rfl rfl (Yc.call (fun _ => kr) (fun w_ hm_ => (wordn_c xs a cap 24 xs.length _ ma3 (hat.mem0 hm_) ma1 ma1 ma5))) (.inr fun _ h_ => h_.pick [] ma2 rfl) ?_))
       exact Wa.join [2, 54, 56, 57, 59] [pV p2 0, aV [nV .u8 ((xs.getD 9 0).toNat), nV .u32 (a4 xs 12), nV .u32 (a4 xs 16), iV .u16 0, iV .u16 0], nV .u16 (w2 xs 24), bV (ecA (xs.getD 20 0)), bV (ecO (xs.getD 20 0) (xs.getD 21 0))] #[true, true, true, true, false, true, false, false] (JD45 () trivial) ma0 ma0 (fun _ h_ => h_)
      ·refine Wo.yc (v := nV .u16 (w2 xs 24)) rfl rfl rfl (Yc.call (fun _ => kr) (fun w_ hm_ => (wordn_c xs a cap 24 xs.length _ ma3 (hat.mem0 hm_) ma1 ma1 ma5))) (.inr fun _ h_ => h_.pick [] ma2 rfl) (Wa.only (i := 0) ma0 (Wo.yc (v := aV [nV .u8 ((xs.getD 9 0).toNat), nV .u32 (a4 xs 12), nV .u32 (a4 xs 16), iV .u16 0, iV .u16 0]) rfl rfl rfl (Ys.yc (Ys.loadN (b := p2) (o' := 0) (i := 0) (j := 0) (vs := [nV .u8 ((xs.getD 9 0).toNat), nV .u32 (a4 xs 12), nV .u32 (a4 xs 16), iV .u16 0, iV .u16 0]) rfl ma0 Try.isAgg30 Try.sizeOf30 rfl rfl rfl rfl)) (.inr fun _ h_ => h_.pick [] ma2 rfl) ?_))
       exact Wa.join [2, 54, 56, 57, 59] [pV p2 0, aV [nV .u8 ((xs.getD 9 0).toNat), nV .u32 (a4 xs 12), nV .u32 (a4 xs 16), iV .u16 0, iV .u16 0], nV .u16 (w2 xs 24), bV (ecA (xs.getD 20 0)), bV (ecO (xs.getD 20 0) (xs.getD 21 0))] #[true, true, true, true, false, true, false, false] (JD45 () trivial) ma0 ma0 (fun _ h_ => h_)
    ·have qh37 := h37; try simp only [zA] at qh37
     refine W.skip' (hK18 _ _ _ (W.seq (fun K51 hK51 => W.region (Wl.ys rfl rfl (Ys.loadN (b := p2) (o' := 0) (i := 0) (j := 0) (vs := [nV .u8 ((xs.getD 9 0).toNat), nV .u32 (a4 xs 12), nV .u32 (a4 xs 16), iV .u16 0, iV .u16 0]) rfl ma0 Try.isAgg30 Try.sizeOf30 rfl rfl rfl rfl) ?_))))
     refine Wl.ht rfl (Ht.storeN (b := p2) (o' := 0) (i := 0) (j := 0) (vs := [nV .u8 ((xs.getD 9 0).toNat), nV .u32 (a4 xs 12), nV .u32 (a4 xs 16), iV .u16 0, iV .u16 0]) (LL' := [cFl1_1198_1 p2 xs]) rfl rfl ma0 ma0 Try.sizeOf30 ma9 rfl rfl ma10 rfl rfl) (fun _ => Wl.run 1 ma0 (Wl.nil (hK51 _ _ _ (W.ret ?_))))
     have hC_ : inC xs = false := h14
     have h9_6 : i9 xs 6 = false := h24
     have h9_17 : i9 xs 17 = false := h31
     have h9_1 : i9 xs 1 = false := h37
     show ∀ w_, _ → bodyPostM (fence none) 0 Try.prog Try.f52 _ Exit.ret _ w_
     exact fun w_ hS_ => fin_ret (ret2 rfl (RV.cellN (b := p2) (o' := 0) (i := 0) (j := 0) (cs := [nV .u8 ((xs.getD 9 0).toNat), nV .u32 (a4 xs 12), nV .u32 (a4 xs 16), iV .u16 0, iV .u16 0]) (vs := [nV .u8 ((xs.getD 9 0).toNat), nV .u32 (a4 xs 12), nV .u32 (a4 xs 16), iV .u16 0, iV .u16 0]) ma0 Try.isAgg30 Try.sizeOf30 rfl rfl rfl rfl) (RV.tmp (v := bV false) ma0) hS_ ⟨by clear hK1 hK2 hK3 hK16 hK18 hK19 hK21 hK22 hK35 hK51; refine congrArg Ending.returned ?_; simp only [inP, inA, inF, inT, inO, hC_, h9_6, h9_17, h9_1, cond_true, cond_false]; try rfl, hS_.below⟩)
theorem innern_c (xs : List UInt8) (a : Option Addr) (cap len : Nat) (w : World) (hn : len = xs.length) (hat : At w a (byc xs)) (hl : xs.length ≤ 1000000) (hlc : xs.length ≤ cap) : Calls Try.prog 52 #[.slice a len cap] w (Ret w (.tuple #[.agg ([Value.int .u8 ((inP xs).toNat : Int), Value.int .u32 ((inA xs 12 : Nat) : Int), Value.int .u32 ((inA xs 16 : Nat) : Int), Value.int .u16 (inF xs : Int), Value.int .u16 (inT xs : Int)]).toArray, .bool (inO xs)])) := by
  subst hn; exact inner_c xs a cap w hat hl hlc
def eqk (k : UInt8) (n : Int) : Bool := (k.toNat : Int) == n
def isEr (k : UInt8) : Bool := eqk k 3 || (eqk k 11 || eqk k 12)
def msQ (xs : List UInt8) : Bool := (mR xs == 0) && ecO (mT xs 0) (mT xs 1)
def msR (xs : List UInt8) : Bool := ((mR xs == 0) && !ecO (mT xs 0) (mT xs 1)) && (isEr (mT xs 0) && inO (mD xs))
def msE (xs : List UInt8) : Int := bif mR xs == 0 then (bif msQ xs then 0 else bif msR xs then 0 else 11) else mR xs
def msK (xs : List UInt8) : Int := bif msQ xs then 2 else bif msR xs then 3 else 0
def msI (xs : List UInt8) : Nat := (mN xs / 65536) % 65536
def msP (fp : UInt8) (xs : List UInt8) : UInt8 := bif msR xs then inP (mD xs) else fp
def msS (fs k : Nat) (xs : List UInt8) : Nat := bif msR xs then inA (mD xs) k else fs
def msF (ff : Nat) (xs : List UInt8) : Nat := bif msR xs then inT (mD xs) else bif msQ xs then sel (ecA (mT xs 0)) (msI xs) ff else ff
def msT (ft : Nat) (xs : List UInt8) : Nat := bif msR xs then inF (mD xs) else bif msQ xs then sel (ecA (mT xs 0)) ft (msI xs) else ft
abbrev cFl1_1211_0 (p11 : Nat) (xs : List UInt8) : List Blk := [cb p11 [nV .u8 ((inP (mD xs)).toNat), nV .u32 (inA (mD xs) 12), nV .u32 (inA (mD xs) 16), nV .u16 (inF (mD xs)), nV .u16 (inT (mD xs))] 30]
abbrev cFl1_1211_1 (fd ff fs ft p3 : Nat) (fp : UInt8) : List Blk := [cb p3 [nV .u8 fp.toNat, nV .u32 fs, nV .u32 fd, nV .u16 ff, nV .u16 ft] 30]
abbrev cFl1_1211_2 (g3 : FS) (p7 : Nat) (xs : List UInt8) : List Blk := [cb p7 [nV .u8 ((mT xs 0).toNat), nV .u8 ((mT xs 1).toNat), nV .u32 (mN xs), sV g3 ((mD xs).length)] 65]
abbrev cFl1_1211_3 (p4 : Nat) : List Blk := [cb p4 zl0 30]
abbrev cFl1_1211_4 (p4 : Nat) (xs : List UInt8) : List Blk := [cb p4 [nV .u8 ((inP (mD xs)).toNat), nV .u32 (inA (mD xs) 16), nV .u32 (inA (mD xs) 12), nV .u16 (inT (mD xs)), nV .u16 (inF (mD xs))] 30]
theorem message_c (tt pr : UInt8) (id s d : Nat) (xs : List UInt8) (a : Option Addr) (cap : Nat) (fp : UInt8) (fs fd ff ft : Nat) (w : World) (hat : At w a (byc xs)) (hi : id < 65536) (hs : s < 4294967296) (hd : d < 4294967296) (hl : xs.length ≤ 100000) (hlc : xs.length ≤ cap) : Calls Try.prog 24 #[aV [nV .u8 tt.toNat, nV .u8 pr.toNat, nV .u16 id, nV .u32 s, nV .u32 d, Value.slice a xs.length cap], aV [nV .u8 fp.toNat, nV .u32 fs, nV .u32 fd, nV .u16 ff, nV .u16 ft]] w (Ret w (.tuple #[.agg ([nV .u8 ((msP fp xs).toNat), nV .u32 (msS fs 16 xs), nV .u32 (msS fd 12 xs), nV .u16 (msF ff xs), nV .u16 (msT ft xs)]).toArray, .int .i64 (msK xs), .int .i64 (msE xs)])) := by
 have hmn_ := mN_lt xs; have hml_ := mD_le xs
 refine calls_W (M := []) (LL := []) (n := 55) Try.func24 rfl rfl ma10 (Mem.refl _) (W.seq (fun K1 hK1 => ?_))
 refine W.region (Wl.ht rfl (Ht.box (v := aV [nV .u8 tt.toNat, nV .u8 pr.toNat, nV .u16 id, nV .u32 s, nV .u32 d, Value.slice a xs.length cap]) (cs := [nV .u8 tt.toNat, nV .u8 pr.toNat, nV .u16 id, nV .u32 s, nV .u32 d, Value.slice a xs.length cap]) rfl rfl ma0 rfl) (fun p2 => ?_))
 refine Wl.ht rfl (Ht.box (v := aV [nV .u8 fp.toNat, nV .u32 fs, nV .u32 fd, nV .u16 ff, nV .u16 ft]) (cs := [nV .u8 fp.toNat, nV .u32 fs, nV .u32 fd, nV .u16 ff, nV .u16 ft]) rfl rfl ma0 rfl) (fun p3 => Wl.ht rfl (Ht.alloc (z := aV zl0) (cs := zl0) rfl rfl Try.zeroValue30 rfl) (fun p4 => ?_))
 refine Wl.run 2 ma0 (Wl.nil (hK1 _ _ _ (W.seq (fun K2 hK2 => W.region ?_))))
 refine Wl.run 1 ma0 (Wl.ys rfl rfl (Ys.l1 p2 5 2 0 Try.isAgg25) (Wl.htS rfl (HtS.call (β := FS) (k := 36) (args := #[Value.slice a xs.length cap]) (Lin := []) (Lk := [cFl1_1211_3 p4, cFl1_1211_1 fd ff fs ft p3 fp, [cb p2 [nV .u8 tt.toNat, nV .u8 pr.toNat, nV .u16 id, nV .u32 s, nV .u32 d, Value.slice a xs.length cap] 27]]) (Mi := []) (Lo := fun g3 => [g3.seg 5 (mc b8 (mD xs)), cFl1_1211_3 p4, cFl1_1211_1 fd ff fs ft p3 fp, [cb p2 [nV .u8 tt.toNat, nV .u8 pr.toNat, nV .u16 id, nV .u32 s, nV .u32 d, Value.slice a xs.length cap] 27]]) [] [0, 1, 2] rfl (fun _ => kr) ma2 rfl rfl rfl (fun w_ hm_ hl_ => (ricmpn_c xs a cap xs.length _ ma3 (hat.mem0 hm_) ma8 ma8)) (fun _ => rfl)) (fun g3 ok4 => Wl.run 3 ma0 (Wl.ht rfl (Ht.alloc (z := aV zl6) (cs := zl6) rfl rfl Try.zeroValue65 rfl) (fun p7 => ?_)))))
 refine Wl.ht rfl (Ht.storeN (b := p7) (o' := 0) (i := 0) (j := 0) (vs := [nV .u8 ((mT xs 0).toNat), nV .u8 ((mT xs 1).toNat), nV .u32 (mN xs), sV g3 ((mD xs).length)]) (LL' := [cFl1_1211_2 g3 p7 xs, g3.seg 5 (mc b8 (mD xs)), cFl1_1211_3 p4, cFl1_1211_1 fd ff fs ft p3 fp, [cb p2 [nV .u8 tt.toNat, nV .u8 pr.toNat, nV .u16 id, nV .u32 s, nV .u32 d, Value.slice a xs.length cap] 27]]) rfl rfl ma0 ma0 Try.sizeOf65 ma9 rfl rfl ma10 rfl rfl) (fun _ => Wl.run 1 ma0 (Wl.nil (hK2 _ _ _ (W.pick (LL' := [cFl1_1211_2 g3 p7 xs, g3.seg 5 (mc b8 (mD xs)), cFl1_1211_3 p4, cFl1_1211_1 fd ff fs ft p3 fp]) [0, 1, 2, 3] ma2 rfl ?_))))
 refine W.prune' [3, 4, 7, 8] [pV p3 0, pV p4 0, pV p7 0, iV .i64 (mR xs)] ma0 (fun f6 => W.seq (fun K7 hK7 => ?_))
 refine W.seq (fun K8 hK8 => W.region (Wl.run 2 ma0 (Wl.nil (hK8 _ _ _ ?_))))
 refine W.cond ((mR xs) != 0) ma0 (fun h9 => ?_) (fun h10 => ?_)
 ·have qh9 := h9; try simp only [zA] at qh9
  refine W.seq (fun K11 hK11 => W.region (Wl.ys rfl rfl (Ys.loadN (b := p3) (o' := 0) (i := 3) (j := 0) (vs := [nV .u8 fp.toNat, nV .u32 fs, nV .u32 fd, nV .u16 ff, nV .u16 ft]) rfl ma0 Try.isAgg30 Try.sizeOf30 rfl rfl rfl rfl) (Wl.run 1 ma0 (Wl.ht rfl (Ht.storeN (b := p4) (o' := 0) (i := 2) (j := 0) (vs := [nV .u8 fp.toNat, nV .u32 fs, nV .u32 fd, nV .u16 ff, nV .u16 ft]) (LL' := [cFl1_1211_2 g3 p7 xs, g3.seg 5 (mc b8 (mD xs)), [cb p4 [nV .u8 fp.toNat, nV .u32 fs, nV .u32 fd, nV .u16 ff, nV .u16 ft] 30], cFl1_1211_1 fd ff fs ft p3 fp]) rfl rfl ma0 ma0 Try.sizeOf30 ma9 rfl rfl ma10 rfl rfl) (fun _ => ?_)))))
  refine Wl.run 2 ma0 (Wl.nil (hK11 _ _ _ (W.ret ?_)))
  have hm_ : (mR xs == 0) = false := by have z_ := h9; rw [bne] at z_; revert z_; cases (mR xs == 0) <;> simp
  have hQ_ : msQ xs = false := by unfold msQ; rw [hm_]; rfl
  have hR_ : msR xs = false := by unfold msR; rw [hm_]; rfl
  show ∀ w_, _ → bodyPostM (fence none) 0 Try.prog Try.f24 _ Exit.ret _ w_
  exact fun w_ hS_ => fin_ret (ret3 rfl (RV.cellN (b := p4) (o' := 0) (i := 2) (j := 0) (cs := [nV .u8 fp.toNat, nV .u32 fs, nV .u32 fd, nV .u16 ff, nV .u16 ft]) (vs := [nV .u8 fp.toNat, nV .u32 fs, nV .u32 fd, nV .u16 ff, nV .u16 ft]) ma0 Try.isAgg30 Try.sizeOf30 rfl rfl rfl rfl) (RV.tmp (v := iV .i64 0) ma0) (RV.tmp (v := iV .i64 (mR xs)) ma0) hS_ ⟨by clear hK1 hK2 hK7 hK8 hK11; refine congrArg Ending.returned ?_; simp only [msP, msS, msF, msT, msK, msE, hQ_, hR_, hm_, cond_true, cond_false]; try rfl, hS_.below⟩)
 ·have qh10 := h10; try simp only [zA] at qh10
  refine W.skip' (hK7 _ _ _ (W.seq (fun K12 hK12 => W.seq (fun K13 hK13 => W.region ?_))))
  refine Wl.run 1 ma0 (Wl.ys rfl rfl (Ys.l1 p7 0 0 0 Try.isAgg5) (Wl.run 1 ma0 (Wl.ys rfl rfl (Ys.l1 p7 1 0 0 Try.isAgg5) (Wl.yc (v := Value.tuple #[bV (ecA (mT xs 0)), bV (ecO (mT xs 0) (mT xs 1))]) rfl rfl (Yc.call (fun _ => kr) (fun w_ hm_ => (echo_c (mT xs 0) (mT xs 1) _))) ?_))))
  refine Wl.run 5 ma0 (Wl.nil (hK13 _ _ _ (W.prune' [3, 4, 7, 9, 10] [pV p3 0, pV p4 0, pV p7 0, bV (ecA (mT xs 0)), bV (ecO (mT xs 0) (mT xs 1))] ma0 (fun f14 => W.seq (fun K15 hK15 => ?_)))))
  refine W.region (Wl.run 1 ma0 (Wl.nil (hK15 _ _ _ ?_)))
  refine W.cond (ecO (mT xs 0) (mT xs 1)) ma0 (fun h16 => ?_) (fun h17 => ?_)
  ·refine W.seq (fun K18 hK18 => W.region (Wl.ys rfl rfl (Ys.loadN (b := p3) (o' := 0) (i := 3) (j := 0) (vs := [nV .u8 fp.toNat, nV .u32 fs, nV .u32 fd, nV .u16 ff, nV .u16 ft]) rfl ma0 Try.isAgg30 Try.sizeOf30 rfl rfl rfl rfl) (Wl.run 1 ma0 (Wl.ys rfl rfl (Ys.l1 p7 2 0 0 Try.isAgg23) ?_))))
   refine Wl.ys (v := nV .u32 ((mN xs) / 65536)) rfl rfl ((Ys.pure (v := .int .u32 (ishr .u32 (mN xs : Int) ((16 : Nat) : Int))) (fun _ => kr)).conseq (int_congr (ishr_nat (mN xs) 16 ma2))) (Wl.ys (v := nV .u16 (((mN xs) / 65536) % 65536)) rfl rfl ((Ys.pure (v := .int .u16 (icnv .u16 (((mN xs) / 65536 : Nat) : Int))) (fun _ => kr)).conseq (int_congr (icnv_mod rfl _))) (Wl.run 1 ma0 (Wl.yc (v := aV [nV .u8 fp.toNat, nV .u32 fs, nV .u32 fd, nV .u16 (sel (ecA (mT xs 0)) (((mN xs) / 65536) % 65536) ff), nV .u16 (sel (ecA (mT xs 0)) ft (((mN xs) / 65536) % 65536))]) rfl rfl (Yc.call (fun _ => kr) (fun w_ hm_ => (ids_c fp fs fd ff ft (((mN xs) / 65536) % 65536) (ecA (mT xs 0)) _))) (Wl.ht rfl (Ht.storeN (b := p4) (o' := 0) (i := 2) (j := 0) (vs := [nV .u8 fp.toNat, nV .u32 fs, nV .u32 fd, nV .u16 (sel (ecA (mT xs 0)) (((mN xs) / 65536) % 65536) ff), nV .u16 (sel (ecA (mT xs 0)) ft (((mN xs) / 65536) % 65536))]) (LL' := [cFl1_1211_2 g3 p7 xs, g3.seg 5 (mc b8 (mD xs)), [cb p4 [nV .u8 fp.toNat, nV .u32 fs, nV .u32 fd, nV .u16 (sel (ecA (mT xs 0)) (((mN xs) / 65536) % 65536) ff), nV .u16 (sel (ecA (mT xs 0)) ft (((mN xs) / 65536) % 65536))] 30], cFl1_1211_1 fd ff fs ft p3 fp]) rfl rfl ma0 ma0 Try.sizeOf30 ma9 rfl rfl ma10 rfl rfl) (fun _ => ?_)))))
   refine Wl.run 2 ma0 (Wl.nil (hK18 _ _ _ (W.pick (LL' := [[cb p4 [nV .u8 fp.toNat, nV .u32 fs, nV .u32 fd, nV .u16 (sel (ecA (mT xs 0)) (((mN xs) / 65536) % 65536) ff), nV .u16 (sel (ecA (mT xs 0)) ft (((mN xs) / 65536) % 65536))] 30]]) [2] ma2 rfl (W.prune' [4, 5, 6] [pV p4 0, iV .i64 2, iV .i64 0] ma0 (fun f19 => ?_)))))
   refine W.ret ?_
   have hm_ : (mR xs == 0) = true := by have z_ := h10; rw [bne] at z_; revert z_; cases (mR xs == 0) <;> simp
   have hQ_ : msQ xs = true := by unfold msQ; rw [hm_, h16]; rfl
   have hR_ : msR xs = false := by unfold msR; rw [hm_, h16]; rfl
   show ∀ w_, _ → bodyPostM (fence none) 0 Try.prog Try.f24 _ Exit.ret _ w_
   exact fun w_ hS_ => fin_ret (ret3 rfl (RV.cellN (b := p4) (o' := 0) (i := 0) (j := 0) (cs := [nV .u8 fp.toNat, nV .u32 fs, nV .u32 fd, nV .u16 (sel (ecA (mT xs 0)) (((mN xs) / 65536) % 65536) ff), nV .u16 (sel (ecA (mT xs 0)) ft (((mN xs) / 65536) % 65536))]) (vs := [nV .u8 fp.toNat, nV .u32 fs, nV .u32 fd, nV .u16 (sel (ecA (mT xs 0)) (((mN xs) / 65536) % 65536) ff), nV .u16 (sel (ecA (mT xs 0)) ft (((mN xs) / 65536) % 65536))]) ma0 Try.isAgg30 Try.sizeOf30 rfl rfl rfl rfl) (RV.tmp (v := iV .i64 2) ma0) (RV.tmp (v := iV .i64 0) ma0) hS_ ⟨by clear hK1 hK2 hK7 hK8 hK12 hK13 hK15 hK18; refine congrArg Ending.returned ?_; simp only [msP, msS, msF, msT, msK, msE, hQ_, hR_, hm_, cond_true, cond_false]; try rfl, hS_.below⟩)
  ·refine W.skip' (hK12 _ _ _ (W.seq (fun K20 hK20 => W.seq (fun K21 hK21 => W.region ?_))))
   refine Wl.run 1 ma0 (Wl.ys rfl rfl (Ys.l1 p7 0 0 0 Try.isAgg5) (Wl.nil (hK21 _ _ _ (W.block ?_))))
   refine W.seq (fun K22 hK22 => W.seq (fun K23 hK23 => ?_))
   refine W.region (Wl.run 2 ma0 (Wl.nil (hK23 _ _ _ ?_)))
   refine W.cond ((((mT xs 0).toNat : Nat) : Int) == 3) ma0 (fun h24 => ?_) (fun h25 => ?_)
   ·have qh24 := h24; try simp only [zA] at qh24
    refine W.skip' (hK22 _ _ _ ?_)
    refine W.cond ((((mT xs 0).toNat : Nat) : Int) == 3) ma0 (fun h26 => ?_) (fun h27 => ?_)
    ·have qh26 := h26; try simp only [zA] at qh26
     refine W.seq (fun K28 hK28 => W.region (Wl.run 1 ma0 (Wl.ys rfl rfl (Ys.l1 p7 3 0 0 Try.isAgg25) (Wl.yc (v := Value.tuple #[aV [nV .u8 ((inP (mD xs)).toNat), nV .u32 (inA (mD xs) 12), nV .u32 (inA (mD xs) 16), nV .u16 (inF (mD xs)), nV .u16 (inT (mD xs))], bV (inO (mD xs))]) rfl rfl (Yc.call (fun _ => kr) (fun w_ hm_ => (innern_c (mD xs) g3.a g3.cap ((mD xs).length) _ ma3 (FS.at (i := 1) (t := 5) hm_ rfl (FS.nil_cs ok4 (mc_len1 _))) ma8 (by have z_ := ok4.le; first | exact z_ | omega | (simp at z_ ⊢; omega))))) ?_))))
     refine Wl.run 3 ma0 (Wl.ht rfl (Ht.alloc (z := aV zl0) (cs := zl0) rfl rfl Try.zeroValue30 rfl) (fun p11 => ?_))
     refine Wl.ht rfl (Ht.storeN (b := p11) (o' := 0) (i := 0) (j := 0) (vs := [nV .u8 ((inP (mD xs)).toNat), nV .u32 (inA (mD xs) 12), nV .u32 (inA (mD xs) 16), nV .u16 (inF (mD xs)), nV .u16 (inT (mD xs))]) (LL' := [cFl1_1211_0 p11 xs, cFl1_1211_2 g3 p7 xs, g3.seg 5 (mc b8 (mD xs)), cFl1_1211_3 p4, cFl1_1211_1 fd ff fs ft p3 fp]) rfl rfl ma0 ma0 Try.sizeOf30 ma9 rfl rfl ma10 rfl rfl) (fun _ => Wl.run 1 ma0 (Wl.nil (hK28 _ _ _ (W.pick (LL' := [cFl1_1211_0 p11 xs, cFl1_1211_3 p4, cFl1_1211_1 fd ff fs ft p3 fp]) [0, 3, 4] ma2 rfl ?_))))
     refine W.prune' [3, 4, 11, 12] [pV p3 0, pV p4 0, pV p11 0, bV (inO (mD xs))] ma0 (fun f29 => W.seq (fun K30 hK30 => ?_))
     refine W.region (Wl.run 1 ma0 (Wl.nil (hK30 _ _ _ ?_)))
     refine W.cond (inO (mD xs)) ma0 (fun h31 => ?_) (fun h32 => ?_)
     ·refine W.seq (fun K33 hK33 => W.region (Wl.ys rfl rfl (Ys.loadN (b := p11) (o' := 0) (i := 0) (j := 0) (vs := [nV .u8 ((inP (mD xs)).toNat), nV .u32 (inA (mD xs) 12), nV .u32 (inA (mD xs) 16), nV .u16 (inF (mD xs)), nV .u16 (inT (mD xs))]) rfl ma0 Try.isAgg30 Try.sizeOf30 rfl rfl rfl rfl) (Wl.yc (v := aV [nV .u8 ((inP (mD xs)).toNat), nV .u32 (inA (mD xs) 16), nV .u32 (inA (mD xs) 12), nV .u16 (inT (mD xs)), nV .u16 (inF (mD xs))]) rfl rfl (Yc.call (fun _ => kr) (fun w_ hm_ => (turn_c (inP (mD xs)) (inA (mD xs) 12) (inA (mD xs) 16) (inF (mD xs)) (inT (mD xs)) _))) (Wl.ht rfl (Ht.storeN (b := p4) (o' := 0) (i := 1) (j := 0) (vs := [nV .u8 ((inP (mD xs)).toNat), nV .u32 (inA (mD xs) 16), nV .u32 (inA (mD xs) 12), nV .u16 (inT (mD xs)), nV .u16 (inF (mD xs))]) (LL' := [cFl1_1211_0 p11 xs, cFl1_1211_4 p4 xs, cFl1_1211_1 fd ff fs ft p3 fp]) rfl rfl ma0 ma0 Try.sizeOf30 ma9 rfl rfl ma10 rfl rfl) (fun _ => ?_)))))
      refine Wl.run 2 ma0 (Wl.nil (hK33 _ _ _ (W.ret ?_)))
      have hm_ : (mR xs == 0) = true := by have z_ := h10; rw [bne] at z_; revert z_; cases (mR xs == 0) <;> simp
      have hQ_ : msQ xs = false := by unfold msQ; rw [hm_, h17]; rfl
      have hR_ : msR xs = true := by unfold msR isEr; rw [hm_, h17, show eqk (mT xs 0) 3 = true from h26]; simp [h31]
      show ∀ w_, _ → bodyPostM (fence none) 0 Try.prog Try.f24 _ Exit.ret _ w_
      exact fun w_ hS_ => fin_ret (ret3 rfl (RV.cellN (b := p4) (o' := 0) (i := 1) (j := 0) (cs := [nV .u8 ((inP (mD xs)).toNat), nV .u32 (inA (mD xs) 16), nV .u32 (inA (mD xs) 12), nV .u16 (inT (mD xs)), nV .u16 (inF (mD xs))]) (vs := [nV .u8 ((inP (mD xs)).toNat), nV .u32 (inA (mD xs) 16), nV .u32 (inA (mD xs) 12), nV .u16 (inT (mD xs)), nV .u16 (inF (mD xs))]) ma0 Try.isAgg30 Try.sizeOf30 rfl rfl rfl rfl) (RV.tmp (v := iV .i64 3) ma0) (RV.tmp (v := iV .i64 0) ma0) hS_ ⟨by clear hK1 hK2 hK7 hK8 hK12 hK13 hK15 hK20 hK21 hK22 hK23 hK28 hK30 hK33; refine congrArg Ending.returned ?_; simp only [msP, msS, msF, msT, msK, msE, hQ_, hR_, hm_, cond_true, cond_false]; try rfl, hS_.below⟩)
     ·refine W.skip' (hK20 _ _ _ (W.seq (fun K34 hK34 => W.region (Wl.ys rfl rfl (Ys.loadN (b := p3) (o' := 0) (i := 2) (j := 0) (vs := [nV .u8 fp.toNat, nV .u32 fs, nV .u32 fd, nV .u16 ff, nV .u16 ft]) rfl ma0 Try.isAgg30 Try.sizeOf30 rfl rfl rfl rfl) ?_))))
      refine Wl.ht rfl (Ht.storeN (b := p4) (o' := 0) (i := 1) (j := 0) (vs := [nV .u8 fp.toNat, nV .u32 fs, nV .u32 fd, nV .u16 ff, nV .u16 ft]) (LL' := [cFl1_1211_0 p11 xs, [cb p4 [nV .u8 fp.toNat, nV .u32 fs, nV .u32 fd, nV .u16 ff, nV .u16 ft] 30], cFl1_1211_1 fd ff fs ft p3 fp]) rfl rfl ma0 ma0 Try.sizeOf30 ma9 rfl rfl ma10 rfl rfl) (fun _ => Wl.run 2 ma0 (Wl.nil (hK34 _ _ _ (W.ret ?_))))
      have hm_ : (mR xs == 0) = true := by have z_ := h10; rw [bne] at z_; revert z_; cases (mR xs == 0) <;> simp
      have hQ_ : msQ xs = false := by unfold msQ; rw [hm_, h17]; rfl
      have hR_ : msR xs = false := by unfold msR isEr; rw [hm_, h17, show eqk (mT xs 0) 3 = true from h26]; simp [h32]
      show ∀ w_, _ → bodyPostM (fence none) 0 Try.prog Try.f24 _ Exit.ret _ w_
      exact fun w_ hS_ => fin_ret (ret3 rfl (RV.cellN (b := p4) (o' := 0) (i := 1) (j := 0) (cs := [nV .u8 fp.toNat, nV .u32 fs, nV .u32 fd, nV .u16 ff, nV .u16 ft]) (vs := [nV .u8 fp.toNat, nV .u32 fs, nV .u32 fd, nV .u16 ff, nV .u16 ft]) ma0 Try.isAgg30 Try.sizeOf30 rfl rfl rfl rfl) (RV.tmp (v := iV .i64 0) ma0) (RV.tmp (v := iV .i64 11) ma0) hS_ ⟨by clear hK1 hK2 hK7 hK8 hK12 hK13 hK15 hK20 hK21 hK22 hK23 hK28 hK30 hK34; refine congrArg Ending.returned ?_; simp only [msP, msS, msF, msT, msK, msE, hQ_, hR_, hm_, cond_true, cond_false]; try rfl, hS_.below⟩)
    ·exact absurd (h24.symm.trans h27) ma2
   ·have qh25 := h25; try simp only [zA] at qh25
    refine W.seq (fun K35 hK35 => W.region (Wl.run 2 ma0 (Wl.nil (hK35 _ _ _ ?_))))
    refine W.cond ((((mT xs 0).toNat : Nat) : Int) == 11) ma0 (fun h36 => ?_) (fun h37 => ?_)
    ·have qh36 := h36; try simp only [zA] at qh36
     refine W.skip' (hK22 _ _ _ ?_)
     refine W.cond ((((mT xs 0).toNat : Nat) : Int) == 11) ma0 (fun h38 => ?_) (fun h39 => ?_)
     ·have qh38 := h38; try simp only [zA] at qh38
      refine W.seq (fun K40 hK40 => W.region (Wl.run 1 ma0 (Wl.ys rfl rfl (Ys.l1 p7 3 0 0 Try.isAgg25) (Wl.yc (v := Value.tuple #[aV [nV .u8 ((inP (mD xs)).toNat), nV .u32 (inA (mD xs) 12), nV .u32 (inA (mD xs) 16), nV .u16 (inF (mD xs)), nV .u16 (inT (mD xs))], bV (inO (mD xs))]) rfl rfl (Yc.call (fun _ => kr) (fun w_ hm_ => (innern_c (mD xs) g3.a g3.cap ((mD xs).length) _ ma3 (FS.at (i := 1) (t := 5) hm_ rfl (FS.nil_cs ok4 (mc_len1 _))) ma8 (by have z_ := ok4.le; first | exact z_ | omega | (simp at z_ ⊢; omega))))) ?_))))
      refine Wl.run 3 ma0 (Wl.ht rfl (Ht.alloc (z := aV zl0) (cs := zl0) rfl rfl Try.zeroValue30 rfl) (fun p11 => ?_))
      refine Wl.ht rfl (Ht.storeN (b := p11) (o' := 0) (i := 0) (j := 0) (vs := [nV .u8 ((inP (mD xs)).toNat), nV .u32 (inA (mD xs) 12), nV .u32 (inA (mD xs) 16), nV .u16 (inF (mD xs)), nV .u16 (inT (mD xs))]) (LL' := [cFl1_1211_0 p11 xs, cFl1_1211_2 g3 p7 xs, g3.seg 5 (mc b8 (mD xs)), cFl1_1211_3 p4, cFl1_1211_1 fd ff fs ft p3 fp]) rfl rfl ma0 ma0 Try.sizeOf30 ma9 rfl rfl ma10 rfl rfl) (fun _ => Wl.run 1 ma0 (Wl.nil (hK40 _ _ _ (W.pick (LL' := [cFl1_1211_0 p11 xs, cFl1_1211_3 p4, cFl1_1211_1 fd ff fs ft p3 fp]) [0, 3, 4] ma2 rfl ?_))))
      refine W.prune' [3, 4, 11, 12] [pV p3 0, pV p4 0, pV p11 0, bV (inO (mD xs))] ma0 (fun f41 => W.seq (fun K42 hK42 => ?_))
      refine W.region (Wl.run 1 ma0 (Wl.nil (hK42 _ _ _ ?_)))
      refine W.cond (inO (mD xs)) ma0 (fun h43 => ?_) (fun h44 => ?_)
      ·refine W.seq (fun K45 hK45 => W.region (Wl.ys rfl rfl (Ys.loadN (b := p11) (o' := 0) (i := 0) (j := 0) (vs := [nV .u8 ((inP (mD xs)).toNat), nV .u32 (inA (mD xs) 12), nV .u32 (inA (mD xs) 16), nV .u16 (inF (mD xs)), nV .u16 (inT (mD xs))]) rfl ma0 Try.isAgg30 Try.sizeOf30 rfl rfl rfl rfl) (Wl.yc (v := aV [nV .u8 ((inP (mD xs)).toNat), nV .u32 (inA (mD xs) 16), nV .u32 (inA (mD xs) 12), nV .u16 (inT (mD xs)), nV .u16 (inF (mD xs))]) rfl rfl (Yc.call (fun _ => kr) (fun w_ hm_ => (turn_c (inP (mD xs)) (inA (mD xs) 12) (inA (mD xs) 16) (inF (mD xs)) (inT (mD xs)) _))) (Wl.ht rfl (Ht.storeN (b := p4) (o' := 0) (i := 1) (j := 0) (vs := [nV .u8 ((inP (mD xs)).toNat), nV .u32 (inA (mD xs) 16), nV .u32 (inA (mD xs) 12), nV .u16 (inT (mD xs)), nV .u16 (inF (mD xs))]) (LL' := [cFl1_1211_0 p11 xs, cFl1_1211_4 p4 xs, cFl1_1211_1 fd ff fs ft p3 fp]) rfl rfl ma0 ma0 Try.sizeOf30 ma9 rfl rfl ma10 rfl rfl) (fun _ => ?_)))))
       refine Wl.run 2 ma0 (Wl.nil (hK45 _ _ _ (W.ret ?_)))
       have hm_ : (mR xs == 0) = true := by have z_ := h10; rw [bne] at z_; revert z_; cases (mR xs == 0) <;> simp
       have hQ_ : msQ xs = false := by unfold msQ; rw [hm_, h17]; rfl
       have hR_ : msR xs = true := by unfold msR isEr; rw [hm_, h17, show eqk (mT xs 0) 3 = false from h25, show eqk (mT xs 0) 11 = true from h38]; simp [h43]
       show ∀ w_, _ → bodyPostM (fence none) 0 Try.prog Try.f24 _ Exit.ret _ w_
       exact fun w_ hS_ => fin_ret (ret3 rfl (RV.cellN (b := p4) (o' := 0) (i := 1) (j := 0) (cs := [nV .u8 ((inP (mD xs)).toNat), nV .u32 (inA (mD xs) 16), nV .u32 (inA (mD xs) 12), nV .u16 (inT (mD xs)), nV .u16 (inF (mD xs))]) (vs := [nV .u8 ((inP (mD xs)).toNat), nV .u32 (inA (mD xs) 16), nV .u32 (inA (mD xs) 12), nV .u16 (inT (mD xs)), nV .u16 (inF (mD xs))]) ma0 Try.isAgg30 Try.sizeOf30 rfl rfl rfl rfl) (RV.tmp (v := iV .i64 3) ma0) (RV.tmp (v := iV .i64 0) ma0) hS_ ⟨by clear hK1 hK2 hK7 hK8 hK12 hK13 hK15 hK20 hK21 hK22 hK23 hK35 hK40 hK42 hK45; refine congrArg Ending.returned ?_; simp only [msP, msS, msF, msT, msK, msE, hQ_, hR_, hm_, cond_true, cond_false]; try rfl, hS_.below⟩)
      ·refine W.skip' (hK20 _ _ _ (W.seq (fun K46 hK46 => W.region (Wl.ys rfl rfl (Ys.loadN (b := p3) (o' := 0) (i := 2) (j := 0) (vs := [nV .u8 fp.toNat, nV .u32 fs, nV .u32 fd, nV .u16 ff, nV .u16 ft]) rfl ma0 Try.isAgg30 Try.sizeOf30 rfl rfl rfl rfl) ?_))))
       refine Wl.ht rfl (Ht.storeN (b := p4) (o' := 0) (i := 1) (j := 0) (vs := [nV .u8 fp.toNat, nV .u32 fs, nV .u32 fd, nV .u16 ff, nV .u16 ft]) (LL' := [cFl1_1211_0 p11 xs, [cb p4 [nV .u8 fp.toNat, nV .u32 fs, nV .u32 fd, nV .u16 ff, nV .u16 ft] 30], cFl1_1211_1 fd ff fs ft p3 fp]) rfl rfl ma0 ma0 Try.sizeOf30 ma9 rfl rfl ma10 rfl rfl) (fun _ => Wl.run 2 ma0 (Wl.nil (hK46 _ _ _ (W.ret ?_))))
       have hm_ : (mR xs == 0) = true := by have z_ := h10; rw [bne] at z_; revert z_; cases (mR xs == 0) <;> simp
       have hQ_ : msQ xs = false := by unfold msQ; rw [hm_, h17]; rfl
       have hR_ : msR xs = false := by unfold msR isEr; rw [hm_, h17, show eqk (mT xs 0) 3 = false from h25, show eqk (mT xs 0) 11 = true from h38]; simp [h44]
       show ∀ w_, _ → bodyPostM (fence none) 0 Try.prog Try.f24 _ Exit.ret _ w_
       exact fun w_ hS_ => fin_ret (ret3 rfl (RV.cellN (b := p4) (o' := 0) (i := 1) (j := 0) (cs := [nV .u8 fp.toNat, nV .u32 fs, nV .u32 fd, nV .u16 ff, nV .u16 ft]) (vs := [nV .u8 fp.toNat, nV .u32 fs, nV .u32 fd, nV .u16 ff, nV .u16 ft]) ma0 Try.isAgg30 Try.sizeOf30 rfl rfl rfl rfl) (RV.tmp (v := iV .i64 0) ma0) (RV.tmp (v := iV .i64 11) ma0) hS_ ⟨by clear hK1 hK2 hK7 hK8 hK12 hK13 hK15 hK20 hK21 hK22 hK23 hK35 hK40 hK42 hK46; refine congrArg Ending.returned ?_; simp only [msP, msS, msF, msT, msK, msE, hQ_, hR_, hm_, cond_true, cond_false]; try rfl, hS_.below⟩)
     ·exact absurd (h36.symm.trans h39) ma2
    ·have qh37 := h37; try simp only [zA] at qh37
     refine W.region (Wl.run 2 ma0 (Wl.nil (hK22 _ _ _ ?_)))
     refine W.cond ((((mT xs 0).toNat : Nat) : Int) == 12) ma0 (fun h47 => ?_) (fun h48 => ?_)
     ·have qh47 := h47; try simp only [zA] at qh47
      refine W.seq (fun K49 hK49 => W.region (Wl.run 1 ma0 (Wl.ys rfl rfl (Ys.l1 p7 3 0 0 Try.isAgg25) (Wl.yc (v := Value.tuple #[aV [nV .u8 ((inP (mD xs)).toNat), nV .u32 (inA (mD xs) 12), nV .u32 (inA (mD xs) 16), nV .u16 (inF (mD xs)), nV .u16 (inT (mD xs))], bV (inO (mD xs))]) rfl rfl (Yc.call (fun _ => kr) (fun w_ hm_ => (innern_c (mD xs) g3.a g3.cap ((mD xs).length) _ ma3 (FS.at (i := 1) (t := 5) hm_ rfl (FS.nil_cs ok4 (mc_len1 _))) ma8 (by have z_ := ok4.le; first | exact z_ | omega | (simp at z_ ⊢; omega))))) ?_))))
      refine Wl.run 3 ma0 (Wl.ht rfl (Ht.alloc (z := aV zl0) (cs := zl0) rfl rfl Try.zeroValue30 rfl) (fun p11 => ?_))
      refine Wl.ht rfl (Ht.storeN (b := p11) (o' := 0) (i := 0) (j := 0) (vs := [nV .u8 ((inP (mD xs)).toNat), nV .u32 (inA (mD xs) 12), nV .u32 (inA (mD xs) 16), nV .u16 (inF (mD xs)), nV .u16 (inT (mD xs))]) (LL' := [cFl1_1211_0 p11 xs, cFl1_1211_2 g3 p7 xs, g3.seg 5 (mc b8 (mD xs)), cFl1_1211_3 p4, cFl1_1211_1 fd ff fs ft p3 fp]) rfl rfl ma0 ma0 Try.sizeOf30 ma9 rfl rfl ma10 rfl rfl) (fun _ => Wl.run 1 ma0 (Wl.nil (hK49 _ _ _ (W.pick (LL' := [cFl1_1211_0 p11 xs, cFl1_1211_3 p4, cFl1_1211_1 fd ff fs ft p3 fp]) [0, 3, 4] ma2 rfl ?_))))
      refine W.prune' [3, 4, 11, 12] [pV p3 0, pV p4 0, pV p11 0, bV (inO (mD xs))] ma0 (fun f50 => W.seq (fun K51 hK51 => ?_))
      refine W.region (Wl.run 1 ma0 (Wl.nil (hK51 _ _ _ ?_)))
      refine W.cond (inO (mD xs)) ma0 (fun h52 => ?_) (fun h53 => ?_)
      ·refine W.seq (fun K54 hK54 => W.region (Wl.ys rfl rfl (Ys.loadN (b := p11) (o' := 0) (i := 0) (j := 0) (vs := [nV .u8 ((inP (mD xs)).toNat), nV .u32 (inA (mD xs) 12), nV .u32 (inA (mD xs) 16), nV .u16 (inF (mD xs)), nV .u16 (inT (mD xs))]) rfl ma0 Try.isAgg30 Try.sizeOf30 rfl rfl rfl rfl) (Wl.yc (v := aV [nV .u8 ((inP (mD xs)).toNat), nV .u32 (inA (mD xs) 16), nV .u32 (inA (mD xs) 12), nV .u16 (inT (mD xs)), nV .u16 (inF (mD xs))]) rfl rfl (Yc.call (fun _ => kr) (fun w_ hm_ => (turn_c (inP (mD xs)) (inA (mD xs) 12) (inA (mD xs) 16) (inF (mD xs)) (inT (mD xs)) _))) (Wl.ht rfl (Ht.storeN (b := p4) (o' := 0) (i := 1) (j := 0) (vs := [nV .u8 ((inP (mD xs)).toNat), nV .u32 (inA (mD xs) 16), nV .u32 (inA (mD xs) 12), nV .u16 (inT (mD xs)), nV .u16 (inF (mD xs))]) (LL' := [cFl1_1211_0 p11 xs, cFl1_1211_4 p4 xs, cFl1_1211_1 fd ff fs ft p3 fp]) rfl rfl ma0 ma0 Try.sizeOf30 ma9 rfl rfl ma10 rfl rfl) (fun _ => ?_)))))
       refine Wl.run 2 ma0 (Wl.nil (hK54 _ _ _ (W.ret ?_)))
       have hm_ : (mR xs == 0) = true := by have z_ := h10; rw [bne] at z_; revert z_; cases (mR xs == 0) <;> simp
       have hQ_ : msQ xs = false := by unfold msQ; rw [hm_, h17]; rfl
       have hR_ : msR xs = true := by unfold msR isEr; rw [hm_, h17, show eqk (mT xs 0) 3 = false from h25, show eqk (mT xs 0) 11 = false from h37, show eqk (mT xs 0) 12 = true from h47]; simp [h52]
       show ∀ w_, _ → bodyPostM (fence none) 0 Try.prog Try.f24 _ Exit.ret _ w_
       exact fun w_ hS_ => fin_ret (ret3 rfl (RV.cellN (b := p4) (o' := 0) (i := 1) (j := 0) (cs := [nV .u8 ((inP (mD xs)).toNat), nV .u32 (inA (mD xs) 16), nV .u32 (inA (mD xs) 12), nV .u16 (inT (mD xs)), nV .u16 (inF (mD xs))]) (vs := [nV .u8 ((inP (mD xs)).toNat), nV .u32 (inA (mD xs) 16), nV .u32 (inA (mD xs) 12), nV .u16 (inT (mD xs)), nV .u16 (inF (mD xs))]) ma0 Try.isAgg30 Try.sizeOf30 rfl rfl rfl rfl) (RV.tmp (v := iV .i64 3) ma0) (RV.tmp (v := iV .i64 0) ma0) hS_ ⟨by clear hK1 hK2 hK7 hK8 hK12 hK13 hK15 hK20 hK21 hK22 hK23 hK35 hK49 hK51 hK54; refine congrArg Ending.returned ?_; simp only [msP, msS, msF, msT, msK, msE, hQ_, hR_, hm_, cond_true, cond_false]; try rfl, hS_.below⟩)
      ·refine W.skip' (hK20 _ _ _ (W.seq (fun K55 hK55 => W.region (Wl.ys rfl rfl (Ys.loadN (b := p3) (o' := 0) (i := 2) (j := 0) (vs := [nV .u8 fp.toNat, nV .u32 fs, nV .u32 fd, nV .u16 ff, nV .u16 ft]) rfl ma0 Try.isAgg30 Try.sizeOf30 rfl rfl rfl rfl) ?_))))
       refine Wl.ht rfl (Ht.storeN (b := p4) (o' := 0) (i := 1) (j := 0) (vs := [nV .u8 fp.toNat, nV .u32 fs, nV .u32 fd, nV .u16 ff, nV .u16 ft]) (LL' := [cFl1_1211_0 p11 xs, [cb p4 [nV .u8 fp.toNat, nV .u32 fs, nV .u32 fd, nV .u16 ff, nV .u16 ft] 30], cFl1_1211_1 fd ff fs ft p3 fp]) rfl rfl ma0 ma0 Try.sizeOf30 ma9 rfl rfl ma10 rfl rfl) (fun _ => Wl.run 2 ma0 (Wl.nil (hK55 _ _ _ (W.ret ?_))))
       have hm_ : (mR xs == 0) = true := by have z_ := h10; rw [bne] at z_; revert z_; cases (mR xs == 0) <;> simp
       have hQ_ : msQ xs = false := by unfold msQ; rw [hm_, h17]; rfl
       have hR_ : msR xs = false := by unfold msR isEr; rw [hm_, h17, show eqk (mT xs 0) 3 = false from h25, show eqk (mT xs 0) 11 = false from h37, show eqk (mT xs 0) 12 = true from h47]; simp [h53]
       show ∀ w_, _ → bodyPostM (fence none) 0 Try.prog Try.f24 _ Exit.ret _ w_
       exact fun w_ hS_ => fin_ret (ret3 rfl (RV.cellN (b := p4) (o' := 0) (i := 1) (j := 0) (cs := [nV .u8 fp.toNat, nV .u32 fs, nV .u32 fd, nV .u16 ff, nV .u16 ft]) (vs := [nV .u8 fp.toNat, nV .u32 fs, nV .u32 fd, nV .u16 ff, nV .u16 ft]) ma0 Try.isAgg30 Try.sizeOf30 rfl rfl rfl rfl) (RV.tmp (v := iV .i64 0) ma0) (RV.tmp (v := iV .i64 11) ma0) hS_ ⟨by clear hK1 hK2 hK7 hK8 hK12 hK13 hK15 hK20 hK21 hK22 hK23 hK35 hK49 hK51 hK55; refine congrArg Ending.returned ?_; simp only [msP, msS, msF, msT, msK, msE, hQ_, hR_, hm_, cond_true, cond_false]; try rfl, hS_.below⟩)
     ·have qh48 := h48; try simp only [zA] at qh48
      refine W.skip' (hK20 _ _ _ (W.pick (LL' := [cFl1_1211_3 p4, cFl1_1211_1 fd ff fs ft p3 fp]) [2, 3] ma2 rfl (W.prune' [3, 4] [pV p3 0, pV p4 0] ma0 (fun f56 => W.seq (fun K57 hK57 => ?_)))))
      refine W.region (Wl.ys rfl rfl (Ys.loadN (b := p3) (o' := 0) (i := 1) (j := 0) (vs := [nV .u8 fp.toNat, nV .u32 fs, nV .u32 fd, nV .u16 ff, nV .u16 ft]) rfl ma0 Try.isAgg30 Try.sizeOf30 rfl rfl rfl rfl) (Wl.ht rfl (Ht.storeN (b := p4) (o' := 0) (i := 0) (j := 0) (vs := [nV .u8 fp.toNat, nV .u32 fs, nV .u32 fd, nV .u16 ff, nV .u16 ft]) (LL' := [[cb p4 [nV .u8 fp.toNat, nV .u32 fs, nV .u32 fd, nV .u16 ff, nV .u16 ft] 30], cFl1_1211_1 fd ff fs ft p3 fp]) rfl rfl ma0 ma0 Try.sizeOf30 ma9 rfl rfl ma10 rfl rfl) (fun _ => Wl.run 2 ma0 (Wl.nil ?_))))
      refine hK57 _ _ _ (W.ret ?_)
      have hm_ : (mR xs == 0) = true := by have z_ := h10; rw [bne] at z_; revert z_; cases (mR xs == 0) <;> simp
      have hQ_ : msQ xs = false := by unfold msQ; rw [hm_, h17]; rfl
      have hR_ : msR xs = false := by unfold msR isEr; rw [hm_, h17, show eqk (mT xs 0) 3 = false from h25, show eqk (mT xs 0) 11 = false from h37, show eqk (mT xs 0) 12 = false from h48]; simp
      show ∀ w_, _ → bodyPostM (fence none) 0 Try.prog Try.f24 _ Exit.ret _ w_
      exact fun w_ hS_ => fin_ret (ret3 rfl (RV.cellN (b := p4) (o' := 0) (i := 0) (j := 0) (cs := [nV .u8 fp.toNat, nV .u32 fs, nV .u32 fd, nV .u16 ff, nV .u16 ft]) (vs := [nV .u8 fp.toNat, nV .u32 fs, nV .u32 fd, nV .u16 ff, nV .u16 ft]) ma0 Try.isAgg30 Try.sizeOf30 rfl rfl rfl rfl) (RV.tmp (v := iV .i64 0) ma0) (RV.tmp (v := iV .i64 11) ma0) hS_ ⟨by clear hK1 hK2 hK7 hK8 hK12 hK13 hK15 hK20 hK21 hK22 hK23 hK35 hK57; refine congrArg Ending.returned ?_; simp only [msP, msS, msF, msT, msK, msE, hQ_, hR_, hm_, cond_true, cond_false]; try rfl, hS_.below⟩)
theorem messagen_c (tt pr : UInt8) (id s d : Nat) (xs : List UInt8) (a : Option Addr) (cap : Nat) (fp : UInt8) (fs fd ff ft : Nat) (len : Nat) (w : World) (hn : len = xs.length) (hat : At w a (byc xs)) (hi : id < 65536) (hs : s < 4294967296) (hd : d < 4294967296) (hl : xs.length ≤ 100000) (hlc : xs.length ≤ cap)  : Calls Try.prog 24 #[Value.agg ([Value.int .u8 (tt.toNat : Int), Value.int .u8 (pr.toNat : Int), Value.int .u16 (id : Int), Value.int .u32 (s : Int), Value.int .u32 (d : Int), Value.slice a len cap]).toArray, Value.agg ([Value.int .u8 (fp.toNat : Int), Value.int .u32 (fs : Int), Value.int .u32 (fd : Int), Value.int .u16 (ff : Int), Value.int .u16 (ft : Int)]).toArray] w (Ret w (.tuple #[.agg ([Value.int .u8 ((msP fp xs).toNat : Int), Value.int .u32 (msS fs 16 xs : Int), Value.int .u32 (msS fd 12 xs : Int), Value.int .u16 (msF ff xs : Int), Value.int .u16 (msT ft xs : Int)]).toArray, .int .i64 (msK xs), .int .i64 (msE xs)])) := by
  subst hn; exact message_c tt pr id s d xs a cap fp fs fd ff ft w hat hi hs hd hl hlc
end Go.Proofs.Ytejeafjkhomdoaa.Oct
