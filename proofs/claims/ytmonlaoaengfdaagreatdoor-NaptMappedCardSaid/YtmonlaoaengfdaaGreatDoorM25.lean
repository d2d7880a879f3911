import Derived.Test.YtmonlaoaengfdaaGreatDoorM24
import Derived.Test.YtmonlaoaengfdaaGreatDoorM5
set_option linter.unusedVariables false
set_option linter.unusedSimpArgs false
set_option maxRecDepth 20000
namespace Go.Proofs.YtmonlaoaengfdaaGreatDoor.Oct
open Go.RowKit Base
attribute [local irreducible] Ys Yc Ht HtS HtIn Wl Wd W Mem pf dpf Wa Wo
theorem inside_c (fa1 fa2 fa3 fa4 fa5 : Int) (h q : Int) (w : World) : Calls Tryz.prog 46 #[aV [iV .u8 fa1, iV .u32 fa2, iV .u32 fa3, iV .u16 fa4, iV .u16 fa5], iV .u32 h, iV .u16 q] w (Ret w (aV [iV .u8 fa1, iV .u32 fa2, iV .u32 h, iV .u16 fa4, iV .u16 q])) := by
 refine calls_W (M := []) (LL := []) (n := 12) Tryz.func46 rfl rfl ma6 (Mem.refl _) (W.seq (fun K1 hK1 => ?_))
 refine W.region (Wl.ht rfl (Ht.box (v := aV [iV .u8 fa1, iV .u32 fa2, iV .u32 fa3, iV .u16 fa4, iV .u16 fa5]) (cs := [iV .u8 fa1, iV .u32 fa2, iV .u32 fa3, iV .u16 fa4, iV .u16 fa5]) rfl rfl ma0 rfl) (fun p3 => ?_))
 refine Wl.ht rfl (Ht.alloc (z := aV zl1) (cs := zl1) rfl rfl Tryz.zeroValue47 rfl) (fun p6 => Wl.nil (hK1 _ _ _ (W.prune' [1, 2, 3, 6] [iV .u32 h, iV .u16 q, pV p3 0, pV p6 0] ma0 (fun f2 => W.seq (fun K3 hK3 => ?_)))))
 refine W.region (Wl.run 3 ma0 (Wl.ht rfl (Ht.store (b := p3) (o' := 2) (i := 1) (j := 0) (v := iV .u32 h) (LL' := [[cb p6 zl1 47], [cb p3 [iV .u8 fa1, iV .u32 fa2, iV .u32 h, iV .u16 fa4, iV .u16 fa5] 47]]) rfl rfl ma0 ma0 Tryz.sizeOf24 rfl rfl rfl ma6 rfl rfl) (fun _ => Wl.run 1 ma0 (Wl.ht rfl (Ht.store (b := p3) (o' := 4) (i := 1) (j := 0) (v := iV .u16 q) (LL' := [[cb p6 zl1 47], [cb p3 [iV .u8 fa1, iV .u32 fa2, iV .u32 h, iV .u16 fa4, iV .u16 q] 47]]) rfl rfl ma0 ma0 Tryz.sizeOf22 rfl rfl rfl ma6 rfl rfl) (fun _ => ?_)))))
 refine Wl.nil (hK3 _ _ _ (W.prune' [3, 6] [pV p3 0, pV p6 0] ma0 (fun f4 => W.seq (fun K5 hK5 => W.region ?_))))
 refine Wl.ys rfl rfl (Ys.loadN (b := p3) (o' := 0) (i := 1) (j := 0) (vs := [iV .u8 fa1, iV .u32 fa2, iV .u32 h, iV .u16 fa4, iV .u16 q]) rfl ma0 Tryz.isAgg47 Tryz.sizeOf47 rfl rfl rfl rfl) (Wl.ht rfl (Ht.storeN (b := p6) (o' := 0) (i := 0) (j := 0) (vs := [iV .u8 fa1, iV .u32 fa2, iV .u32 h, iV .u16 fa4, iV .u16 q]) (LL' := [[cb p6 [iV .u8 fa1, iV .u32 fa2, iV .u32 h, iV .u16 fa4, iV .u16 q] 47], [cb p3 [iV .u8 fa1, iV .u32 fa2, iV .u32 h, iV .u16 fa4, iV .u16 q] 47]]) rfl rfl ma0 ma0 Tryz.sizeOf47 ma7 rfl rfl ma6 rfl rfl) (fun _ => ?_))
 refine Wl.nil (hK5 _ _ _ (W.pick (LL' := [[cb p6 [iV .u8 fa1, iV .u32 fa2, iV .u32 h, iV .u16 fa4, iV .u16 q] 47]]) [0] ma2 rfl (W.prune' [6] [pV p6 0] ma0 (fun f6 => W.ret ?_))))
 show ∀ w_, _ → bodyPostM (fence none) 0 Tryz.prog Tryz.f46 _ Exit.ret _ w_
 exact fun w_ hS_ => fin_ret (ret1 rfl (RV.cellN (b := p6) (o' := 0) (i := 0) (j := 0) (cs := [iV .u8 fa1, iV .u32 fa2, iV .u32 h, iV .u16 fa4, iV .u16 q]) (vs := [iV .u8 fa1, iV .u32 fa2, iV .u32 h, iV .u16 fa4, iV .u16 q]) ma0 Tryz.isAgg47 Tryz.sizeOf47 rfl rfl rfl rfl) hS_ ⟨rfl, hS_.below⟩)
theorem outside_c (c : Conf.Cfg) (fx : List Conf.Fwd) (fa : Option Addr) (fc : Nat) (ms : List Mpg) (ma : Option Addr) (mc_ : Nat) (ts te : Nat) (tk : Nat → Option Nat) (wb ti : Nat) (lst : Int) (nb : Nat) (fa1 fa2 fa3 fa4 fa5 : Int) (q : Int) (w : World) (hnt : At w (some ⟨nb, 0, none⟩) (natC (cfC c (Value.slice fa fx.length fc)) (Value.slice ma ms.length mc_) (Value.pointer (some ⟨ts, 0, none⟩)) (Value.pointer (some ⟨te, 0, none⟩)) tk (Value.pointer (some ⟨wb, 0, none⟩)) (Value.pointer (some ⟨ti, 0, none⟩)) (Value.int .u64 lst))) : Calls Tryz.prog 57 #[pV nb 0, aV [iV .u8 fa1, iV .u32 fa2, iV .u32 fa3, iV .u16 fa4, iV .u16 fa5], iV .u16 q] w (Ret w (aV [iV .u8 fa1, iV .u32 c.wan, iV .u32 fa3, iV .u16 q, iV .u16 fa5])) := by
 refine calls_W (M := []) (LL := []) (n := 16) Tryz.func57 rfl rfl ma6 (Mem.refl _) (W.seq (fun K1 hK1 => ?_))
 refine W.region (Wl.ht rfl (Ht.box (v := aV [iV .u8 fa1, iV .u32 fa2, iV .u32 fa3, iV .u16 fa4, iV .u16 fa5]) (cs := [iV .u8 fa1, iV .u32 fa2, iV .u32 fa3, iV .u16 fa4, iV .u16 fa5]) rfl rfl ma0 rfl) (fun p4 => ?_))
 refine Wl.ht rfl (Ht.alloc (z := aV zl1) (cs := zl1) rfl rfl Tryz.zeroValue47 rfl) (fun p6 => Wl.nil (hK1 _ _ _ (W.prune' [0, 2, 4, 6] [pV nb 0, iV .u16 q, pV p4 0, pV p6 0] ma0 (fun f2 => W.seq (fun K3 hK3 => ?_)))))
 refine W.region (Wl.run 4 ma0 (Wl.ys (v := iV .u32 c.wan) rfl rfl (Ys.ld (a := ⟨nb, 19, none⟩) rfl ma0 Tryz.isAgg24 (fun w_ h_ => by have x_ := (hnt.mem0 h_).ld (q := 19) ((natC_lo rfl ma2).trans rfl); rw [ela_own0] at x_; exact x_)) (Wl.run 2 ma0 (Wl.ht rfl (Ht.store (b := p4) (o' := 1) (i := 1) (j := 0) (v := iV .u32 c.wan) (LL' := [[cb p6 zl1 47], [cb p4 [iV .u8 fa1, iV .u32 c.wan, iV .u32 fa3, iV .u16 fa4, iV .u16 fa5] 47]]) rfl rfl ma0 ma0 Tryz.sizeOf24 rfl rfl rfl ma6 rfl rfl) (fun _ => ?_)))))
 refine Wl.run 1 ma0 (Wl.ht rfl (Ht.store (b := p4) (o' := 3) (i := 1) (j := 0) (v := iV .u16 q) (LL' := [[cb p6 zl1 47], [cb p4 [iV .u8 fa1, iV .u32 c.wan, iV .u32 fa3, iV .u16 q, iV .u16 fa5] 47]]) rfl rfl ma0 ma0 Tryz.sizeOf22 rfl rfl rfl ma6 rfl rfl) (fun _ => ?_))
 refine Wl.nil (hK3 _ _ _ (W.prune' [4, 6] [pV p4 0, pV p6 0] ma0 (fun f4 => W.seq (fun K5 hK5 => W.region ?_))))
 refine Wl.ys rfl rfl (Ys.loadN (b := p4) (o' := 0) (i := 1) (j := 0) (vs := [iV .u8 fa1, iV .u32 c.wan, iV .u32 fa3, iV .u16 q, iV .u16 fa5]) rfl ma0 Tryz.isAgg47 Tryz.sizeOf47 rfl rfl rfl rfl) (Wl.ht rfl (Ht.storeN (b := p6) (o' := 0) (i := 0) (j := 0) (vs := [iV .u8 fa1, iV .u32 c.wan, iV .u32 fa3, iV .u16 q, iV .u16 fa5]) (LL' := [[cb p6 [iV .u8 fa1, iV .u32 c.wan, iV .u32 fa3, iV .u16 q, iV .u16 fa5] 47], [cb p4 [iV .u8 fa1, iV .u32 c.wan, iV .u32 fa3, iV .u16 q, iV .u16 fa5] 47]]) rfl rfl ma0 ma0 Tryz.sizeOf47 ma7 rfl rfl ma6 rfl rfl) (fun _ => ?_))
 refine Wl.nil (hK5 _ _ _ (W.pick (LL' := [[cb p6 [iV .u8 fa1, iV .u32 c.wan, iV .u32 fa3, iV .u16 q, iV .u16 fa5] 47]]) [0] ma2 rfl (W.prune' [6] [pV p6 0] ma0 (fun f6 => W.ret ?_))))
 show ∀ w_, _ → bodyPostM (fence none) 0 Tryz.prog Tryz.f57 _ Exit.ret _ w_
 exact fun w_ hS_ => fin_ret (ret1 rfl (RV.cellN (b := p6) (o' := 0) (i := 0) (j := 0) (cs := [iV .u8 fa1, iV .u32 c.wan, iV .u32 fa3, iV .u16 q, iV .u16 fa5]) (vs := [iV .u8 fa1, iV .u32 c.wan, iV .u32 fa3, iV .u16 q, iV .u16 fa5]) ma0 Tryz.isAgg47 Tryz.sizeOf47 rfl rfl rfl rfl) hS_ ⟨rfl, hS_.below⟩)
abbrev cLa14_1781_0 (p2 : Nat) : List Blk := [cb p2 zl1 47]
abbrev cLa14_1781_1 (d p8 s : Nat) (g13 : FS) (xs : List UInt8) : List Blk := [cb p8 [nV .u16 (uF s d xs 0), nV .u16 (uF s d xs 2), bV (uP s d xs), sV g13 ((uD s d xs).length)] 124]
abbrev cLa14_1781_2 (d p5 s : Nat) : List Blk := [cb p5 [iV .u8 17, nV .u32 s, nV .u32 d, iV .u16 0, iV .u16 0] 47]
abbrev dLa14_1781_0 (d s : Nat) (xs : List UInt8) : List Value := [iV .u8 17, nV .u32 s, nV .u32 d, nV .u16 (uF s d xs 0), nV .u16 (uF s d xs 2)]
theorem dofU_c (ttl pid : Int) (s d : Nat) (xs : List UInt8) (a : Option Addr) (cap : Nat) (w : World) (hat : At w a (byc xs)) (hs : s < 4294967296) (hd : d < 4294967296) (hl : xs.length ≤ 100000) (hlc : xs.length ≤ cap) (hr : uR s d xs = 0) : Calls Tryz.prog 14 #[aV [iV .u8 ttl, iV .u8 17, iV .u16 pid, nV .u32 s, nV .u32 d, Value.slice a xs.length cap]] w (Ret w (Value.tuple #[aV [iV .u8 17, nV .u32 s, nV .u32 d, nV .u16 (uF s d xs 0), nV .u16 (uF s d xs 2)], iV .i64 1, iV .i64 0])) := by
 refine calls_W (M := []) (LL := []) (n := 137) Tryz.func14 rfl rfl ma6 (Mem.refl _) (W.seq (fun K1 hK1 => ?_))
 refine W.region (Wl.ht rfl (Ht.box (v := aV [iV .u8 ttl, iV .u8 17, iV .u16 pid, nV .u32 s, nV .u32 d, Value.slice a xs.length cap]) (cs := [iV .u8 ttl, iV .u8 17, iV .u16 pid, nV .u32 s, nV .u32 d, Value.slice a xs.length cap]) rfl rfl ma0 rfl) (fun p1 => ?_))
 refine Wl.ht rfl (Ht.alloc (z := aV zl1) (cs := zl1) rfl rfl Tryz.zeroValue47 rfl) (fun p2 => Wl.run 2 ma0 (Wl.nil (hK1 _ _ _ (W.prune' [1, 2] [pV p1 0, pV p2 0] ma0 (fun f2 => ?_)))))
 refine W.seq (fun K3 hK3 => W.region (Wl.run 1 ma0 (Wl.ys rfl rfl (Ys.l1 p1 1 1 0 Tryz.isAgg5) (Wl.run 1 ma0 ?_))))
 refine Wl.ys rfl rfl (Ys.l1 p1 3 1 0 Tryz.isAgg24) (Wl.run 1 ma0 (Wl.ys rfl rfl (Ys.l1 p1 4 1 0 Tryz.isAgg24) (Wl.run 1 ma0 (Wl.ht rfl (Ht.alloc (z := aV zl1) (cs := zl1) rfl rfl Tryz.zeroValue47 rfl) (fun p5 => ?_)))))
 refine Wl.ht rfl (Ht.storeN (b := p5) (o' := 0) (i := 0) (j := 0) (vs := [iV .u8 17, nV .u32 s, nV .u32 d, iV .u16 0, iV .u16 0]) (LL' := [cLa14_1781_2 d p5 s, cLa14_1781_0 p2, [cb p1 [iV .u8 ttl, iV .u8 17, iV .u16 pid, nV .u32 s, nV .u32 d, Value.slice a xs.length cap] 40]]) rfl rfl ma0 ma0 Tryz.sizeOf47 ma7 rfl rfl ma6 rfl rfl) (fun _ => Wl.nil (hK3 _ _ _ (W.prune' [1, 2, 5] [pV p1 0, pV p2 0, pV p5 0] ma0 (fun f4 => W.seq (fun K5 hK5 => ?_)))))
 refine W.seq (fun K6 hK6 => W.region (Wl.run 1 ma0 (Wl.ys rfl rfl (Ys.l1 p1 1 2 0 Tryz.isAgg5) (Wl.run 1 ma0 ?_))))
 refine Wl.nil (hK6 _ _ _ (W.prune' [1, 2, 5, 23] [pV p1 0, pV p2 0, pV p5 0, bV false] ma0 (fun f7 => W.condF ma0 (W.skip' ?_))))
 refine hK5 _ _ _ (W.prune' [1, 2, 5] [pV p1 0, pV p2 0, pV p5 0] ma0 (fun f8 => ?_))
 refine W.seq (fun K9 hK9 => W.seq (fun K10 hK10 => ?_))
 refine W.region (Wl.run 1 ma0 (Wl.ys rfl rfl (Ys.l1 p1 1 2 0 Tryz.isAgg5) (Wl.run 1 ma0 (Wl.nil ?_))))
 refine hK10 _ _ _ (W.prune' [1, 2, 5, 47] [pV p1 0, pV p2 0, pV p5 0, bV true] ma0 (fun f11 => ?_))
 refine W.condT ma0 (W.seq (fun K12 hK12 => ?_))
 refine W.region (Wl.run 1 ma0 (Wl.ys rfl rfl (Ys.l1 p1 3 2 0 Tryz.isAgg24) (Wl.run 1 ma0 (Wl.ys rfl rfl (Ys.l1 p1 4 2 0 Tryz.isAgg24) ?_))))
 refine Wl.run 1 ma0 (Wl.ys rfl rfl (Ys.l1 p1 5 2 0 Tryz.isAgg38) (Wl.htS rfl (HtS.call (β := FS) (k := 51) (args := #[nV .u32 s, nV .u32 d, Value.slice a xs.length cap]) (Lin := []) (Lk := [cLa14_1781_2 d p5 s, cLa14_1781_0 p2, [cb p1 [iV .u8 ttl, iV .u8 17, iV .u16 pid, nV .u32 s, nV .u32 d, Value.slice a xs.length cap] 40]]) (Mi := []) (Lo := fun g13 => [g13.seg 5 (mc b8 (uD s d xs)), cLa14_1781_2 d p5 s, cLa14_1781_0 p2, [cb p1 [iV .u8 ttl, iV .u8 17, iV .u16 pid, nV .u32 s, nV .u32 d, Value.slice a xs.length cap] 40]]) [] [0, 1, 2] rfl (fun _ => kr) ma2 rfl rfl rfl (fun w_ hm_ hl_ => (rrudpn_c s d xs a cap xs.length _ ma19 (hat.mem0 hm_) ma1 ma1 ma11 ma11)) (fun _ => rfl)) (fun g13 ok14 => Wl.run 3 ma0 (Wl.ht rfl (Ht.alloc (z := aV zl2) (cs := zl2) rfl rfl Tryz.zeroValue124 rfl) (fun p8 => ?_)))))
 refine Wl.ht rfl (Ht.storeN (b := p8) (o' := 0) (i := 0) (j := 0) (vs := [nV .u16 (uF s d xs 0), nV .u16 (uF s d xs 2), bV (uP s d xs), sV g13 ((uD s d xs).length)]) (LL' := [cLa14_1781_1 d p8 s g13 xs, g13.seg 5 (mc b8 (uD s d xs)), cLa14_1781_2 d p5 s, cLa14_1781_0 p2, [cb p1 [iV .u8 ttl, iV .u8 17, iV .u16 pid, nV .u32 s, nV .u32 d, Value.slice a xs.length cap] 40]]) rfl rfl ma0 ma0 Tryz.sizeOf124 ma7 rfl rfl ma6 rfl rfl) (fun _ => Wl.run 1 ma0 (Wl.nil (hK12 _ _ _ (W.pick (LL' := [cLa14_1781_1 d p8 s g13 xs, g13.seg 5 (mc b8 (uD s d xs)), cLa14_1781_2 d p5 s, cLa14_1781_0 p2]) [0, 1, 2, 3] ma2 rfl ?_))))
 refine W.prune' [2, 5, 8, 9] [pV p2 0, pV p5 0, pV p8 0, iV .i64 (uR s d xs)] ma0 (fun f16 => W.seq (fun K17 hK17 => ?_))
 refine W.seq (fun K18 hK18 => W.region (Wl.run 2 ma0 (Wl.nil (hK18 _ _ _ ?_))))
 refine W.prune' [2, 5, 8, 9, 59] [pV p2 0, pV p5 0, pV p8 0, iV .i64 (uR s d xs), bV ((uR s d xs) != 0)] ma0 (fun f19 => ?_)
 refine W.cond ((uR s d xs) != 0) ma0 (fun h20 => ?_) (fun h21 => ?_)
 ·(exfalso; rw [hr] at h20; cases h20)
 ·have qh21 := h21; try simp only [zA] at qh21
  refine W.skip' (hK17 _ _ _ (W.prune' [2, 5, 8] [pV p2 0, pV p5 0, pV p8 0] ma0 (fun f22 => W.seq (fun K23 hK23 => W.region ?_))))
  refine Wl.run 1 ma0 (Wl.ys rfl rfl (Ys.l1 p8 0 0 0 Tryz.isAgg22) (Wl.run 1 ma0 (Wl.ht rfl (Ht.store (b := p5) (o' := 3) (i := 2) (j := 0) (v := nV .u16 (uF s d xs 0)) (LL' := [cLa14_1781_1 d p8 s g13 xs, g13.seg 5 (mc b8 (uD s d xs)), [cb p5 [iV .u8 17, nV .u32 s, nV .u32 d, nV .u16 (uF s d xs 0), iV .u16 0] 47], cLa14_1781_0 p2]) rfl rfl ma0 ma0 Tryz.sizeOf22 rfl rfl rfl ma6 rfl rfl) (fun _ => Wl.nil ?_))))
  refine hK23 _ _ _ (W.prune' [2, 5, 8] [pV p2 0, pV p5 0, pV p8 0] ma0 (fun f24 => ?_))
  refine W.seq (fun K25 hK25 => W.region (Wl.run 1 ma0 (Wl.ys rfl rfl (Ys.l1 p8 1 0 0 Tryz.isAgg22) (Wl.run 1 ma0 ?_))))
  refine Wl.ht rfl (Ht.store (b := p5) (o' := 4) (i := 2) (j := 0) (v := nV .u16 (uF s d xs 2)) (LL' := [cLa14_1781_1 d p8 s g13 xs, g13.seg 5 (mc b8 (uD s d xs)), [cb p5 (dLa14_1781_0 d s xs) 47], cLa14_1781_0 p2]) rfl rfl ma0 ma0 Tryz.sizeOf22 rfl rfl rfl ma6 rfl rfl) (fun _ => Wl.nil (hK25 _ _ _ (W.pick (LL' := [[cb p5 (dLa14_1781_0 d s xs) 47], cLa14_1781_0 p2]) [2, 3] ma2 rfl (W.prune' [2, 5] [pV p2 0, pV p5 0] ma0 (fun f26 => ?_)))))
  refine W.seq (fun K27 hK27 => W.region (Wl.ys rfl rfl (Ys.loadN (b := p5) (o' := 0) (i := 0) (j := 0) (vs := (dLa14_1781_0 d s xs)) rfl ma0 Tryz.isAgg47 Tryz.sizeOf47 rfl rfl rfl rfl) (Wl.ht rfl (Ht.storeN (b := p2) (o' := 0) (i := 1) (j := 0) (vs := (dLa14_1781_0 d s xs)) (LL' := [[cb p5 (dLa14_1781_0 d s xs) 47], [cb p2 (dLa14_1781_0 d s xs) 47]]) rfl rfl ma0 ma0 Tryz.sizeOf47 ma7 rfl rfl ma6 rfl rfl) (fun _ => Wl.run 2 ma0 ?_))))
  refine Wl.nil (hK27 _ _ _ (W.pick (LL' := [[cb p2 (dLa14_1781_0 d s xs) 47]]) [1] ma2 rfl (W.prune' [2, 3, 4] [pV p2 0, iV .i64 1, iV .i64 0] ma0 (fun f28 => W.ret ?_))))
  show ∀ w_, _ → bodyPostM (fence none) 0 Tryz.prog Tryz.f14 _ Exit.ret _ w_
  exact fun w_ hS_ => fin_ret (ret3 rfl (RV.cellN (b := p2) (o' := 0) (i := 0) (j := 0) (cs := [iV .u8 17, nV .u32 s, nV .u32 d, nV .u16 (uF s d xs 0), nV .u16 (uF s d xs 2)]) (vs := [iV .u8 17, nV .u32 s, nV .u32 d, nV .u16 (uF s d xs 0), nV .u16 (uF s d xs 2)]) ma0 Tryz.isAgg47 Tryz.sizeOf47 rfl rfl rfl rfl) (RV.tmp (v := iV .i64 1) ma0) (RV.tmp (v := iV .i64 0) ma0) hS_ ⟨rfl, hS_.below⟩)
end Go.Proofs.YtmonlaoaengfdaaGreatDoor.Oct
namespace Go.Proofs.YtmonlaoaengfdaaGreatDoor.Base
open Go.RowKit
theorem Ys.ex {γ : Type} {P : Program} {n : Nat} {S : γ → World → Prop} {f : Nat → Value} {o : Oper} {v : Value} (h : ∀ s, Ys P n (S s) f o v) : Ys P n (fun w => ∃ s, S s w) f o v := fun w ⟨s, hs⟩ => h s w hs
end Go.Proofs.YtmonlaoaengfdaaGreatDoor.Base
namespace Go.Proofs.YtmonlaoaengfdaaGreatDoor.Oct
open Go.RowKit Base
attribute [local irreducible] Ys Yc Ht HtS HtIn Wl Wd W Mem pf dpf Wa Wo
open Conf (Fwd fwv)
/-! Ports that are taken, and how many. -/
def cntN (T : Nat → Bool) : Nat → Nat
  | 0 => 0
  | n + 1 => cntN T n + (bif T n then 1 else 0)
def cntT (T : Nat → Bool) : Nat := cntN T 65536
theorem cntN_le (T : Nat → Bool) : ∀ n, cntN T n ≤ n
  | 0 => Nat.le_refl 0
  | n + 1 => by have := cntN_le T n; unfold cntN; cases T n <;> simp only [cond_true, cond_false] <;> omega
theorem cntN_congr {T T' : Nat → Bool} : ∀ {n}, (∀ q, q < n → T q = T' q) → cntN T n = cntN T' n
  | 0, _ => rfl
  | n + 1, h => by unfold cntN; rw [cntN_congr (n := n) (fun q hq => h q ma1), h n ma1]
theorem cntN_up {T : Nat → Bool} {q : Nat} {b : Bool} (hb : T q = !b) : ∀ {n}, q < n → cntN (up T q b) n + (bif b then 0 else 1) = cntN T n + (bif b then 1 else 0)
  | 0, h => by omega
  | n + 1, h => by
    unfold cntN
    by_cases e : q = n
    · subst e
      rw [up_same, cntN_congr (T := up T q b) (T' := T) (fun r hr => up_other _ _ ma1), hb]
      cases b <;> simp only [Bool.not_true, Bool.not_false, cond_true, cond_false] <;> omega
    · rw [up_other _ _ (fun z => e z.symm)]
      have := cntN_up (b := b) hb (n := n) ma1
      omega
theorem cntT_le (T : Nat → Bool) : cntT T ≤ 65536 := cntN_le T 65536
theorem cntT_none : cntT (fun _ => false) = 0 := by
  have h : ∀ n, cntN (fun _ => false) n = 0 := fun n => by
    induction n with
    | zero => rfl
    | succ n ih => unfold cntN; rw [ih]; rfl
  exact h 65536
theorem cntT_tk (T : Nat → Bool) {q : Nat} (hq : q < 65536) : tkN T q (cntT T : Int) = (cntT (tkT T q) : Int) := by
  unfold tkN tkT
  cases h : tkB T q with
  | false => rfl
  | true =>
    have ht : T q = !true := by unfold tkB at h; cases hh : T q with | false => rfl | true => rw [hh] at h; simp at h
    have := cntN_up (b := true) ht (n := 65536) hq
    simp only [cond_true] at this ⊢
    unfold cntT; omega
theorem cntT_pk (T : Nat → Bool) (d : Nat) : pkN T d (cntT T : Int) = (cntT (pkT T d) : Int) := by
  unfold pkN pkT
  by_cases h : pk T d < 65536
  · rw [decide_eq_true h]
    have := cntN_up (b := true) ((pk_le T d).2.2.1 h) (n := 65536) h
    simp only [cond_true] at this ⊢
    unfold cntT; omega
  · rw [decide_eq_false h]; rfl
/-! The sets. -/
def updF {α : Type} (f : Nat → α) (p : Nat) (v : α) : Nat → α := fun q => bif q == p then v else f q
theorem updF_same {α : Type} (f : Nat → α) (p : Nat) (v : α) : updF f p v p = v := by simp [updF]
theorem updF_other {α : Type} (f : Nat → α) {p q : Nat} (v : α) (h : q ≠ p) : updF f p v q = f q := by unfold updF; rw [show (q == p) = false from beq_eq_false_iff_ne.2 h]; rfl
theorem updF_self {α : Type} (f : Nat → α) (p : Nat) : updF f p (f p) = f := by
  funext q
  by_cases h : q = p
  · subst h; rw [updF_same]
  · rw [updF_other _ _ h]
def setsB (tk : Nat → Option Nat) (TT : Nat → Nat → Bool) : List Blk := setsR 230 tk TT (fun p => (cntT (TT p) : Int)) 0 256
theorem setsB_none (TT : Nat → Nat → Bool) : setsB (fun _ => none) TT = [] := by
  unfold setsB setsR
  rw [List.flatMap_eq_nil_iff]; intro i _; rfl
theorem setsB_focus {tk : Nat → Option Nat} {TT : Nat → Nat → Bool} {p b : Nat} (hp : p < 256) (h : tk p = some b) :
    ∃ A B, setsB tk TT = A ++ cb b (psC (TT p) (cntT (TT p) : Int)) 230 :: B ∧ ∀ T', setsB tk (updF TT p T') = A ++ cb b (psC T' (cntT T' : Int)) 230 :: B := by
  refine ⟨setsR 230 tk TT (fun p => (cntT (TT p) : Int)) 0 p, setsR 230 tk TT (fun p => (cntT (TT p) : Int)) (p + 1) (255 - p), ?_, fun T' => ?_⟩
  · unfold setsB; rw [setsR_split hp, h]; rfl
  · unfold setsB
    rw [setsR_split hp, h, setsR_congr (tk := tk) (TT := TT) (cn := fun p => (cntT (TT p) : Int)) (tk' := tk) (TT' := updF TT p T') (a := 0) (n := p) (fun i _ hi => ⟨rfl, updF_other _ _ ma1, by rw [updF_other _ _ ma1]⟩),
      setsR_congr (tk := tk) (TT := TT) (cn := fun p => (cntT (TT p) : Int)) (tk' := tk) (TT' := updF TT p T') (a := p + 1) (fun i hi _ => ⟨rfl, updF_other _ _ ma1, by rw [updF_other _ _ ma1]⟩), updF_same]
    rfl
theorem setsB_new {tk : Nat → Option Nat} {TT : Nat → Nat → Bool} {p : Nat} (hp : p < 256) (h : tk p = none) :
    ∃ A B, setsB tk TT = A ++ B ∧ ∀ b, setsB (upo tk p (some b)) TT = A ++ cb b (psC (TT p) (cntT (TT p) : Int)) 230 :: B := by
  refine ⟨setsR 230 tk TT (fun p => (cntT (TT p) : Int)) 0 p, setsR 230 tk TT (fun p => (cntT (TT p) : Int)) (p + 1) (255 - p), ?_, fun b => ?_⟩
  · unfold setsB; rw [setsR_split hp, h]; rfl
  · unfold setsB
    rw [setsR_split hp, upo_same, setsR_congr (tk := tk) (TT := TT) (tk' := upo tk p (some b)) (TT' := TT) (a := 0) (n := p) (fun i _ hi => ⟨upo_other _ _ ma1, rfl, rfl⟩),
      setsR_congr (tk := tk) (TT := TT) (tk' := upo tk p (some b)) (TT' := TT) (a := p + 1) (fun i hi _ => ⟨upo_other _ _ ma1, rfl, rfl⟩)]
    rfl
theorem upo_self {tk : Nat → Option Nat} {p b : Nat} (h : tk p = some b) : upo tk p (some b) = tk := by
  funext q
  by_cases e : q = p
  · subst e; rw [upo_same, h]
  · rw [upo_other _ _ e]
/-! A Nat. -/
abbrev EndT : Type := Int × Int × Int
structure NK where
  (nb ts te ti wb : Nat)
  gf : FS
  c : Conf.Cfg
  fx : List Conf.Fwd
  mo : Int
structure NP where
  ms : List Mpg
  xs : List (FlwT × Option Nat)
  zs : List (EndT × Lse)
  ys : List (Int × FlwT)
  ws : List (Int × Int)
  tk : Nat → Option Nat
  TT : Nat → Nat → Bool
  lst : Int
  es : List (Nat × SesE)
structure NS where
  p : NP
  (gm gs ge gi gw : FS)
def natL (k : NK) (s : NS) : List Value := natC (cfC k.c (.slice k.gf.a k.fx.length k.gf.cap)) (.slice s.gm.a s.p.ms.length s.gm.cap) (.pointer (some ⟨k.ts, 0, none⟩)) (.pointer (some ⟨k.te, 0, none⟩)) s.p.tk (.pointer (some ⟨k.wb, 0, none⟩)) (.pointer (some ⟨k.ti, 0, none⟩)) (.int .u64 s.p.lst)
def entB (x : Nat × SesE) : Blk := cb x.1 (sesC x.2) 113
def NBs (k : NK) (s : NS) : List (List Blk) := [[cb k.nb (natL k s) 91], s.gm.seg 26 (mm mpM s.p.ms), k.gf.seg 65 (mm fwv k.fx), s.gs.seg 173 (mm prS s.p.xs), [cb k.ts [Value.slice s.gs.a s.p.xs.length s.gs.cap, Value.int .i64 k.mo, Value.func (.func 31) #[] #[]] 153],
  s.gi.seg 223 (mm prN s.p.ys), [cb k.ti [Value.slice s.gi.a s.p.ys.length s.gi.cap, Value.int .i64 k.mo, Value.func (.func 35) #[] #[]] 163], s.ge.seg 234 (mm prD s.p.zs), [cb k.te [Value.slice s.ge.a s.p.zs.length s.ge.cap, Value.int .i64 k.mo, Value.func (.func 33) #[] #[]] 160], s.gw.seg 219 (mm spk s.p.ws), [cb k.wb [.slice s.gw.a s.p.ws.length s.gw.cap] 150], setsB s.p.tk s.p.TT, s.p.es.map entB]
def NG (k : NK) (s : NS) : List Blk := (NBs k s).flatten
structure NOk (k : NK) (s : NS) : Prop where
  okm : s.gm.ok 5 s.p.ms.length
  okf : k.gf.ok 4 k.fx.length
  oks : s.gs.ok 6 s.p.xs.length
  oki : s.gi.ok 6 s.p.ys.length
  oke : s.ge.ok 5 s.p.zs.length
  okw : s.gw.ok 2 s.p.ws.length
  hmn : s.p.ms.length ≤ 100000
  hfn : k.fx.length ≤ 100000
  hmo : 0 ≤ k.mo ∧ k.mo ≤ 50000
  hxn : (s.p.xs.length : Int) ≤ k.mo
  hyn : (s.p.ys.length : Int) ≤ k.mo
  hzn : (s.p.zs.length : Int) ≤ k.mo
  hwn : s.p.ws.length ≤ 90000
  hxs : Srt ordF s.p.xs
  hys : Srt LO.int s.p.ys
  hzs : Srt ordE s.p.zs
  hws : OkS s.p.ws
  hz : ∀ p, s.p.tk p = none → s.p.TT p = fun _ => false
section
variable {w0 w : World} {M : List Nat} {LL R : List (List Blk)} {k : NK} {s : NS} {i : Nat}
theorem NG.opn (h : Mem w0 M (NG k s :: R) w) : Mem w0 M (NBs k s ++ R) w := Mem.flat (by rw [List.flatten_cons, List.flatten_append]; rfl) h
theorem NG.cls (h : Mem w0 M (NBs k s ++ R) w) : Mem w0 M (NG k s :: R) w := Mem.flat (by rw [List.flatten_cons, List.flatten_append]; rfl) h
theorem NG.get (h : Mem w0 M LL w) (hi : LL[i]? = some (NG k s)) : Mem w0 M (NBs k s) w := by
  have h1 : Mem w0 M [NG k s] w := h.pick [i] ma6 (by simp [pickL, hi])
  have h2 := NG.opn h1
  rwa [List.append_nil] at h2
theorem NG.nat (h : Mem w0 M LL w) (hi : LL[i]? = some (NG k s)) : At w (some ⟨k.nb, 0, none⟩) (natL k s) := At.lit0 (i := 0) (j := 0) (NG.get h hi) rfl rfl
theorem NG.atS (h : Mem w0 M LL w) (hi : LL[i]? = some (NG k s)) : At w (some ⟨k.ts, 0, none⟩) [Value.slice s.gs.a s.p.xs.length s.gs.cap, Value.int .i64 k.mo, Value.func (.func 31) #[] #[]] := At.lit0 (i := 4) (j := 0) (NG.get h hi) rfl rfl
theorem NG.atN (h : Mem w0 M LL w) (hi : LL[i]? = some (NG k s)) : At w (some ⟨k.ti, 0, none⟩) [Value.slice s.gi.a s.p.ys.length s.gi.cap, Value.int .i64 k.mo, Value.func (.func 35) #[] #[]] := At.lit0 (i := 6) (j := 0) (NG.get h hi) rfl rfl
theorem NG.atD (h : Mem w0 M LL w) (hi : LL[i]? = some (NG k s)) : At w (some ⟨k.te, 0, none⟩) [Value.slice s.ge.a s.p.zs.length s.ge.cap, Value.int .i64 k.mo, Value.func (.func 33) #[] #[]] := At.lit0 (i := 8) (j := 0) (NG.get h hi) rfl rfl
theorem NG.ms (h : Mem w0 M LL w) (hi : LL[i]? = some (NG k s)) (ok : NOk k s) : At w s.gm.a (mm mpM s.p.ms) := FS.at (i := 1) (NG.get h hi) rfl (FS.nil_cs ok.okm (mpM_zlen _))
theorem NG.fx (h : Mem w0 M LL w) (hi : LL[i]? = some (NG k s)) (ok : NOk k s) : At w k.gf.a (mm fwv k.fx) := FS.at (i := 2) (NG.get h hi) rfl (FS.nil_cs ok.okf (fwv_zlen _))
theorem NG.xs (h : Mem w0 M LL w) (hi : LL[i]? = some (NG k s)) (ok : NOk k s) : At w s.gs.a (mm prS s.p.xs) := FS.at (i := 3) (NG.get h hi) rfl (FS.nil_cs ok.oks (prS_zlen _))
theorem NG.ys (h : Mem w0 M LL w) (hi : LL[i]? = some (NG k s)) (ok : NOk k s) : At w s.gi.a (mm prN s.p.ys) := FS.at (i := 5) (NG.get h hi) rfl (FS.nil_cs ok.oki (prN_zlen _))
theorem NG.zs (h : Mem w0 M LL w) (hi : LL[i]? = some (NG k s)) (ok : NOk k s) : At w s.ge.a (mm prD s.p.zs) := FS.at (i := 7) (NG.get h hi) rfl (FS.nil_cs ok.oke (prD_zlen _))
theorem NG.ent {j : Nat} {b : Nat} {e : SesE} (h : Mem w0 M LL w) (hi : LL[i]? = some (NG k s)) (hj : s.p.es[j]? = some (b, e)) : At w (some ⟨b, 0, none⟩) (sesC e) :=
  At.lit0 (i := 12) (j := j) (b := b) (t := 113) (NG.get h hi) rfl (by rw [List.getElem?_map, hj]; rfl)
end
theorem NG.call {β : Type} {k : NK} {s : NS} {M : List Nat} {w : World} {f : FuncId} {args : Array Value} {Φ : β → Prop} {v : β → Value} {Lo : β → List (List Blk)} (s' : β → NS) (is ks ps : List Nat)
    (hl : Mem w M [NG k s] w) (hd : (is ++ ks).Nodup) (hp : ps.Nodup)
    (hc : Mem w ((pickL (NBs k s) is).flatten.map (·.b)) (pickL (NBs k s) is) w → Calls Tryz.prog f args w (RetM w Φ v ((pickL (NBs k s) is).flatten.map (·.b)) Lo))
    (e2 : ∀ g, pickL (Lo g ++ pickL (NBs k s) ks) ps = NBs k (s' g)) : Calls Tryz.prog f args w (RetM w Φ v M (fun g => [NG k (s' g)])) := by
  have h0 := NG.opn hl
  rw [List.append_nil] at h0
  have h1 : Mem w M (pickL (NBs k s) is ++ pickL (NBs k s) ks) w := h0.pick (is ++ ks) hd (by unfold pickL; rw [List.map_append])
  refine Calls.mono (hc h1.local) ?_
  rintro e w' ⟨g, hg, rfl, hm⟩
  refine ⟨g, hg, rfl, ?_⟩
  have h2 := (h1.back hm).pick ps hp (e2 g)
  exact NG.cls (R := []) (by rw [List.append_nil]; exact h2)
theorem NG.callS {β : Type} {k : NK} {s : NS} {M : List Nat} {w : World} {f : FuncId} {args : Array Value} {Φ : β → Prop} {Ψ : NS → Prop} {v : Value} {Lo : β → List (List Blk)} (s' : β → NS) (is ks ps : List Nat)
    (hl : Mem w M [NG k s] w) (hd : (is ++ ks).Nodup) (hp : ps.Nodup)
    (hc : Mem w ((pickL (NBs k s) is).flatten.map (·.b)) (pickL (NBs k s) is) w → Calls Tryz.prog f args w (RetM w Φ (fun _ => v) ((pickL (NBs k s) is).flatten.map (·.b)) Lo))
    (e2 : ∀ g, pickL (Lo g ++ pickL (NBs k s) ks) ps = NBs k (s' g)) (hΨ : ∀ g, Φ g → Ψ (s' g)) : Calls Tryz.prog f args w (RetM w Ψ (fun _ => v) M (fun s1 => [NG k s1])) := by
  refine Calls.mono (NG.call s' is ks ps hl hd hp hc e2) ?_
  rintro e w' ⟨g, hg, rfl, hm⟩
  exact ⟨s' g, hΨ g hg, rfl, hm⟩
/-! The tables, the wheel, the sets. -/
section
variable {k : NK} {s : NS} {M : List Nat} {w : World}
theorem putS_n (f : FlwT) (v : Option Nat) (ok : NOk k s) (hl : Mem w M [NG k s] w) : Calls Tryz.prog 153 #[.pointer (some ⟨k.ts, 0, none⟩), Value.agg ([Value.int .u8 f.1, Value.int .u32 f.2.1, Value.int .u32 f.2.2.1, Value.int .u16 f.2.2.2.1, Value.int .u16 f.2.2.2.2]).toArray, .pointer (optA v)] w
    (RetM w (fun s1 : NS => NOk k s1 ∧ s1.p = { s.p with xs := putX ordF k.mo s.p.xs f v }) (fun _ => .int .i64 (putR k.mo s.p.xs f)) M (fun s1 => [NG k s1])) :=
  NG.callS (fun g => { s with gs := g, p := { s.p with xs := putX ordF k.mo s.p.xs f v } }) [3, 4] [0, 1, 2, 5, 6, 7, 8, 9, 10, 11, 12] [2, 3, 4, 0, 1, 5, 6, 7, 8, 9, 10, 11, 12] hl ma2 ma2 (fun h => putS_c s.p.xs s.gs k.mo k.ts _ f v w h ok.oks (by have := ok.hxn; have := ok.hmo; omega) ok.hxs) (fun g => kr) (fun g hg => ⟨{ ok with oks := hg, hxn := putX_most ok.hxs ok.hxn, hxs := srt_putX ok.hxs }, rfl⟩)
theorem putN_n (i : Int) (f : FlwT) (ok : NOk k s) (hl : Mem w M [NG k s] w) : Calls Tryz.prog 154 #[.pointer (some ⟨k.ti, 0, none⟩), .int .u64 i, Value.agg ([Value.int .u8 f.1, Value.int .u32 f.2.1, Value.int .u32 f.2.2.1, Value.int .u16 f.2.2.2.1, Value.int .u16 f.2.2.2.2]).toArray] w
    (RetM w (fun s1 : NS => NOk k s1 ∧ s1.p = { s.p with ys := putX LO.int k.mo s.p.ys i f }) (fun _ => .int .i64 (putR k.mo s.p.ys i)) M (fun s1 => [NG k s1])) :=
  NG.callS (fun g => { s with gi := g, p := { s.p with ys := putX LO.int k.mo s.p.ys i f } }) [5, 6] [0, 1, 2, 3, 4, 7, 8, 9, 10, 11, 12] [2, 3, 4, 5, 6, 0, 1, 7, 8, 9, 10, 11, 12] hl ma2 ma2 (fun h => putN_c s.p.ys s.gi k.mo k.ti _ i f w h ok.oki (by have := ok.hyn; have := ok.hmo; omega) ok.hys) (fun g => kr) (fun g hg => ⟨{ ok with oki := hg, hyn := putX_most ok.hys ok.hyn, hys := srt_putX ok.hys }, rfl⟩)
theorem putD_n (e : EndT) (l : Lse) (ok : NOk k s) (hl : Mem w M [NG k s] w) : Calls Tryz.prog 81 #[.pointer (some ⟨k.te, 0, none⟩), Value.agg ([Value.int .u8 e.1, Value.int .u32 e.2.1, Value.int .u16 e.2.2]).toArray, Value.agg ([Value.int .u16 l.ext, Value.int .i64 l.count]).toArray] w
    (RetM w (fun s1 : NS => NOk k s1 ∧ s1.p = { s.p with zs := putX ordE k.mo s.p.zs e l }) (fun _ => .int .i64 (putR k.mo s.p.zs e)) M (fun s1 => [NG k s1])) :=
  NG.callS (fun g => { s with ge := g, p := { s.p with zs := putX ordE k.mo s.p.zs e l } }) [7, 8] [0, 1, 2, 3, 4, 5, 6, 9, 10, 11, 12] [2, 3, 4, 5, 6, 7, 8, 0, 1, 9, 10, 11, 12] hl ma2 ma2 (fun h => putD_c s.p.zs s.ge k.mo k.te _ e l w h ok.oke (by have := ok.hzn; have := ok.hmo; omega) ok.hzs) (fun g => kr) (fun g hg => ⟨{ ok with oke := hg, hzn := putX_most ok.hzs ok.hzn, hzs := srt_putX ok.hzs }, rfl⟩)
theorem wset_n (i a : Int) (ok : NOk k s) (hw : s.p.ws.length ≤ 80000) (hl : Mem w M [NG k s] w) : Calls Tryz.prog 91 #[.pointer (some ⟨k.wb, 0, none⟩), .int .u64 i, .int .u64 a] w
    (RetM w (fun s1 : NS => NOk k s1 ∧ s1.p = { s.p with ws := setS s.p.ws i a }) (fun _ => .tuple #[]) M (fun s1 => [NG k s1])) :=
  NG.callS (fun g => { s with gw := g, p := { s.p with ws := setS s.p.ws i a } }) [9, 10] [0, 1, 2, 3, 4, 5, 6, 7, 8, 11, 12] [2, 3, 4, 5, 6, 7, 8, 9, 10, 0, 1, 11, 12] hl ma2 ma2 (fun h => wset_c s.p.ws s.gw k.wb _ i a w h ok.okw ma1 ok.hws.srt) (fun g => kr) (fun g hg => ⟨{ ok with okw := hg, hwn := by have := setS_len s.p.ws i a; simp only; omega, hws := ok.hws.set i a }, rfl⟩)
theorem perm_new {α : Type} {P S : List (List α)} {A B : List α} {n x : α} : ([[n], [x]] ++ (P ++ [A ++ B] ++ S)).flatten.Perm ([n] :: (P ++ [A ++ x :: B] ++ S)).flatten := by
  simp only [List.flatten_append, List.flatten_cons, List.flatten_nil, List.append_nil, List.cons_append, List.nil_append, List.append_assoc]
  refine List.Perm.cons _ ?_
  have h := (List.perm_middle (a := x) (l₁ := P.flatten ++ A) (l₂ := B ++ S.flatten)).symm
  simpa only [List.append_assoc] using h
def stK (s : NS) (p b : Nat) : NS := { s with p := { s.p with tk := upo s.p.tk p (some b) } }
def stT (s : NS) (p : Nat) (T : Nat → Bool) : NS := { s with p := { s.p with TT := updF s.p.TT p T } }
theorem set_e {p : Nat} (hp : p < 256) (ok : NOk k s) (hl : Mem w M [NG k s] w) : Calls Tryz.prog 69 #[.pointer (some ⟨k.nb, 0, none⟩), .int .u8 (p : Int)] w
    (RetM w (fun b : Nat => NOk k (stK s p b) ∧ (s.p.tk p = none ∨ s.p.tk p = some b)) (fun b => .pointer (some ⟨b, 0, none⟩)) M (fun b => [NG k (stK s p b)])) := by
  cases h : s.p.tk p with
  | some b =>
    refine Calls.mono (set_old_c k.c k.gf k.fx (.slice s.gm.a s.p.ms.length s.gm.cap) k.ts k.te s.p.tk k.wb k.ti s.p.lst k.nb p b w (NG.nat (i := 0) hl rfl) h hp) ?_
    rintro e w' ⟨rfl, hb⟩
    have e1 : stK s p b = s := by unfold stK; rw [upo_self h]
    exact ⟨b, ⟨by rw [e1]; exact ok, .inr rfl⟩, rfl, by show Mem w M [NG k (stK s p b)] w'; rw [e1]; exact hl.ext hb⟩
  | none =>
    obtain ⟨A, B, e1, e2⟩ := setsB_new (TT := s.p.TT) hp h
    have h0 := NG.opn hl
    rw [List.append_nil] at h0
    have h1 : Mem w M ([[cb k.nb (natL k s) 91]] ++ (NBs k s).tail) w := h0
    refine Calls.mono (set_new_c k.c k.gf k.fx (.slice s.gm.a s.p.ms.length s.gm.cap) k.ts k.te s.p.tk k.wb k.ti s.p.lst k.nb p _ w h1.local h hp) ?_
    rintro e w' ⟨b, _, rfl, hm⟩
    have hz1 : ∀ q, (stK s p b).p.tk q = none → (stK s p b).p.TT q = fun _ => false := fun q hq => by
      by_cases e : q = p
      · subst e; exact absurd ((upo_same s.p.tk q (some b)).symm.trans hq) ma6
      · exact ok.hz q ((upo_other s.p.tk (some b) e).symm.trans hq)
    have ok1 : NOk k (stK s p b) := { ok with hz := hz1 }
    refine ⟨b, ⟨ok1, .inl rfl⟩, rfl, ?_⟩
    have h2 := h1.back hm
    refine h2.perm ?_
    have e3 : setsB (upo s.p.tk p (some b)) s.p.TT = A ++ cb b (psC (fun _ => false) 0) 230 :: B := by
      rw [e2 b, ok.hz p h, cntT_none]; rfl
    have e4 : (NBs k s).tail = ((NBs k s).take 11).tail ++ [A ++ B] ++ (NBs k s).drop 12 := by rw [← e1]; rfl
    have e5 : NBs k (stK s p b) = [cb k.nb (natL k (stK s p b)) 91] :: (((NBs k s).take 11).tail ++ [A ++ cb b (psC (fun _ => false) 0) 230 :: B] ++ (NBs k s).drop 12) := by rw [← e3]; rfl
    show ([NG k (stK s p b)].flatten).Perm _
    rw [e4, List.flatten_cons, List.flatten_nil, List.append_nil]
    unfold NG
    rw [e5]
    exact perm_new.symm
theorem set_n {p : Nat} (hp : p < 256) (ok : NOk k s) (hl : Mem w M [NG k s] w) : Calls Tryz.prog 69 #[.pointer (some ⟨k.nb, 0, none⟩), .int .u8 (p : Int)] w
    (RetM w (fun q : NS × Nat => NOk k q.1 ∧ q.1.p = { s.p with tk := upo s.p.tk p (some q.2) } ∧ (s.p.tk p = none ∨ s.p.tk p = some q.2)) (fun q => .pointer (some ⟨q.2, 0, none⟩)) M (fun q => [NG k q.1])) := by
  refine Calls.mono (set_e hp ok hl) ?_
  rintro e w' ⟨b, ⟨h1, h2⟩, rfl, hm⟩
  exact ⟨(stK s p b, b), ⟨h1, rfl, h2⟩, rfl, hm⟩
theorem perm_foc {α : Type} {P S : List (List α)} {A B : List α} {x : α} : ([[x]] ++ ([A, B] ++ (P ++ S))).flatten.Perm (P ++ [A ++ x :: B] ++ S).flatten := by
  simp only [List.flatten_append, List.flatten_cons, List.flatten_nil, List.append_nil, List.cons_append, List.nil_append, List.append_assoc]
  have h1 : (x :: (A ++ (B ++ (P.flatten ++ S.flatten)))).Perm (A ++ x :: (B ++ (P.flatten ++ S.flatten))) := List.perm_middle.symm
  refine h1.trans ?_
  have h2 : A ++ x :: (B ++ (P.flatten ++ S.flatten)) = (A ++ x :: B) ++ (P.flatten ++ S.flatten) := by simp
  have h3 : P.flatten ++ (A ++ x :: (B ++ S.flatten)) = P.flatten ++ ((A ++ x :: B) ++ S.flatten) := by simp
  rw [h2, h3]
  exact List.perm_append_comm_assoc _ _ _
theorem sets_e {p b : Nat} {f : FuncId} {args : Array Value} {v : Value} {T' : Nat → Bool} (hp : p < 256) (h : s.p.tk p = some b) (ok : NOk k s) (hl : Mem w M [NG k s] w)
    (hc : Mem w [b] [[cb b (psC (s.p.TT p) (cntT (s.p.TT p) : Int)) 230]] w → Calls Tryz.prog f args w (RetM w (fun _ : Unit => True) (fun _ => v) [b] (fun _ => [[cb b (psC T' (cntT T' : Int)) 230]]))) :
    Calls Tryz.prog f args w (RetM w (fun _ : Unit => NOk k (stT s p T')) (fun _ => v) M (fun _ => [NG k (stT s p T')])) := by
  obtain ⟨A, B, e1, e2⟩ := setsB_focus (TT := s.p.TT) hp h
  have hz1 : ∀ q, (stT s p T').p.tk q = none → (stT s p T').p.TT q = fun _ => false := fun q hq => by
    by_cases e : q = p
    · subst e; exact absurd (hq.symm.trans h) ma6
    · exact (updF_other s.p.TT T' e).trans (ok.hz q hq)
  have ok1 : NOk k (stT s p T') := { ok with hz := hz1 }
  have h0 := NG.opn hl
  rw [List.append_nil] at h0
  have h1 : Mem w M ([[cb b (psC (s.p.TT p) (cntT (s.p.TT p) : Int)) 230]] ++ ([A, B] ++ (NBs k s).eraseIdx 11)) w := by
    refine h0.perm ?_
    show ([_] ++ ([A, B] ++ _) : List (List Blk)).flatten.Perm (NBs k s).flatten
    have e3 : NBs k s = (NBs k s).take 11 ++ [A ++ cb b (psC (s.p.TT p) (cntT (s.p.TT p) : Int)) 230 :: B] ++ (NBs k s).drop 12 := by rw [← e1]; rfl
    have e4 : (NBs k s).eraseIdx 11 = (NBs k s).take 11 ++ (NBs k s).drop 12 := rfl
    rw [e4]; conv => rhs; rw [e3]
    exact perm_foc
  refine Calls.mono (hc h1.local) ?_
  rintro e w' ⟨g, _, rfl, hm⟩
  refine ⟨(), ok1, rfl, ?_⟩
  have h2 := h1.back hm
  refine h2.perm ?_
  show ([NG k _] : List (List Blk)).flatten.Perm _
  have e3 : NBs k (stT s p T') = (NBs k s).take 11 ++ [A ++ cb b (psC T' (cntT T' : Int)) 230 :: B] ++ (NBs k s).drop 12 := by rw [← e2 T']; rfl
  have e4 : (NBs k s).eraseIdx 11 = (NBs k s).take 11 ++ (NBs k s).drop 12 := rfl
  rw [e4, List.flatten_cons, List.flatten_nil, List.append_nil]
  unfold NG
  rw [e3]
  exact perm_foc.symm
theorem sets_n {p b : Nat} {f : FuncId} {args : Array Value} {v : Value} {T' : Nat → Bool} (hp : p < 256) (h : s.p.tk p = some b) (ok : NOk k s) (hl : Mem w M [NG k s] w)
    (hc : Mem w [b] [[cb b (psC (s.p.TT p) (cntT (s.p.TT p) : Int)) 230]] w → Calls Tryz.prog f args w (RetM w (fun _ : Unit => True) (fun _ => v) [b] (fun _ => [[cb b (psC T' (cntT T' : Int)) 230]]))) :
    Calls Tryz.prog f args w (RetM w (fun s1 : NS => NOk k s1 ∧ s1.p = { s.p with TT := updF s.p.TT p T' }) (fun _ => v) M (fun s1 => [NG k s1])) := by
  refine Calls.mono (sets_e hp h ok hl hc) ?_
  rintro e w' ⟨_, h1, rfl, hm⟩
  exact ⟨stT s p T', ⟨h1, rfl⟩, rfl, hm⟩
theorem take_e {p b q : Nat} (hp : p < 256) (hq : q < 65536) (h : s.p.tk p = some b) (ok : NOk k s) (hl : Mem w M [NG k s] w) : Calls Tryz.prog 70 #[.pointer (some ⟨b, 0, none⟩), .int .u16 (q : Int)] w
    (RetM w (fun _ : Unit => NOk k (stT s p (tkT (s.p.TT p) q))) (fun _ => .bool (tkB (s.p.TT p) q)) M (fun _ => [NG k (stT s p (tkT (s.p.TT p) q))])) :=
  sets_e hp h ok hl (fun hb => by have := take_c (s.p.TT p) _ b q w hb hq ma1 (by have := cntT_le (s.p.TT p); omega); rwa [cntT_tk _ hq] at this)
theorem take_n {p b q : Nat} (hp : p < 256) (hq : q < 65536) (h : s.p.tk p = some b) (ok : NOk k s) (hl : Mem w M [NG k s] w) : Calls Tryz.prog 70 #[.pointer (some ⟨b, 0, none⟩), .int .u16 (q : Int)] w
    (RetM w (fun s1 : NS => NOk k s1 ∧ s1.p = { s.p with TT := updF s.p.TT p (tkT (s.p.TT p) q) }) (fun _ => .bool (tkB (s.p.TT p) q)) M (fun s1 => [NG k s1])) :=
  sets_n hp h ok hl (fun hb => by have := take_c (s.p.TT p) _ b q w hb hq ma1 (by have := cntT_le (s.p.TT p); omega); rwa [cntT_tk _ hq] at this)
theorem pick_n {p b d : Nat} (hp : p < 256) (hd : d < 18446744073709551616) (h : s.p.tk p = some b) (htab : At w (some ⟨0, 0, none⟩) (byc dbt)) (ok : NOk k s) (hl : Mem w M [NG k s] w) : Calls Tryz.prog 111 #[.pointer (some ⟨b, 0, none⟩), .int .u64 (d : Int)] w
    (RetM w (fun s1 : NS => NOk k s1 ∧ s1.p = { s.p with TT := updF s.p.TT p (pkT (s.p.TT p) d) }) (fun _ => .tuple #[.int .u16 (pkV (s.p.TT p) d : Int), .bool (decide (pk (s.p.TT p) d < 65536))]) M (fun s1 => [NG k s1])) :=
  sets_n hp h ok hl (fun hb => by have := pick_c (s.p.TT p) _ b d w hb ma1 (by have := cntT_le (s.p.TT p); omega) htab hd; rwa [cntT_pk] at this)
end
end Go.Proofs.YtmonlaoaengfdaaGreatDoor.Oct
