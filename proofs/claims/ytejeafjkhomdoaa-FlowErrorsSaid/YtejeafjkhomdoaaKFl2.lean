import Derived.Test.YtejeafjkhomdoaaKFl1
import Derived.Test.YtejeafjkhomdoaaKTr10
set_option linter.unusedVariables false
set_option linter.unusedSimpArgs false
set_option maxRecDepth 20000
namespace Go.Proofs.Ytejeafjkhomdoaa.Oct
open Go.RowKit Base
attribute [local irreducible] Ys Yc Ht HtS HtIn Wl Wd W Mem pf dpf Wa Wo
def isT (pr : UInt8) : Bool := (pr.toNat : Int) == 6
def isU (pr : UInt8) : Bool := (pr.toNat : Int) == 17
def isI (pr : UInt8) : Bool := (pr.toNat : Int) == 1
def ofE (pr : UInt8) (s d : Nat) (xs : List UInt8) : Int := bif isT pr then tR s d xs else bif isU pr then uR s d xs else bif isI pr then msE xs else 11
def ofZ (pr : UInt8) (s d : Nat) (xs : List UInt8) : Bool := !(ofE pr s d xs != 0)
def ofK (pr : UInt8) (s d : Nat) (xs : List UInt8) : Int := bif ofZ pr s d xs then (bif isT pr then 1 else bif isU pr then 1 else msK xs) else 0
def ofP (pr : UInt8) (s d : Nat) (xs : List UInt8) : UInt8 := bif ofZ pr s d xs then (bif isT pr then pr else bif isU pr then pr else msP pr xs) else 0
def ofS (pr : UInt8) (s d : Nat) (xs : List UInt8) : Nat := bif ofZ pr s d xs then (bif isT pr then s else bif isU pr then s else msS s 16 xs) else 0
def ofD (pr : UInt8) (s d : Nat) (xs : List UInt8) : Nat := bif ofZ pr s d xs then (bif isT pr then d else bif isU pr then d else msS d 12 xs) else 0
def ofF (pr : UInt8) (s d : Nat) (xs : List UInt8) : Nat := bif ofZ pr s d xs then (bif isT pr then tF s d xs 0 else bif isU pr then uF s d xs 0 else msF 0 xs) else 0
def ofT (pr : UInt8) (s d : Nat) (xs : List UInt8) : Nat := bif ofZ pr s d xs then (bif isT pr then tF s d xs 2 else bif isU pr then uF s d xs 2 else msT 0 xs) else 0
abbrev cFl2_1272_0 (a : Option Addr) (cap d id p1 s : Nat) (pr tt : UInt8) (xs : List UInt8) : List Blk := [cb p1 [nV .u8 tt.toNat, nV .u8 pr.toNat, nV .u16 id, nV .u32 s, nV .u32 d, Value.slice a xs.length cap] 27]
abbrev cFl2_1272_1 (d p2 s : Nat) (pr : UInt8) : List Blk := [cb p2 [nV .u8 pr.toNat, nV .u32 s, nV .u32 d, iV .u16 0, iV .u16 0] 30]
abbrev cFl2_1272_2 (d p7 s : Nat) (g27 : FS) (xs : List UInt8) : List Blk := [cb p7 [nV .u16 (uF s d xs 0), nV .u16 (uF s d xs 2), bV (uP s d xs), sV g27 ((uD s d xs).length)] 56]
abbrev cFl2_1272_3 (p2 : Nat) : List Blk := [cb p2 zl0 30]
theorem of_c (tt pr : UInt8) (id s d : Nat) (xs : List UInt8) (a : Option Addr) (cap : Nat) (w : World) (hat : At w a (byc xs)) (hi : id < 65536) (hs : s < 4294967296) (hd : d < 4294967296) (hl : xs.length ≤ 100000) (hlc : xs.length ≤ cap) : Calls Try.prog 11 #[aV [nV .u8 tt.toNat, nV .u8 pr.toNat, nV .u16 id, nV .u32 s, nV .u32 d, Value.slice a xs.length cap]] w (Ret w (.tuple #[.agg ([nV .u8 ((ofP pr s d xs).toNat), nV .u32 (ofS pr s d xs), nV .u32 (ofD pr s d xs), nV .u16 (ofF pr s d xs), nV .u16 (ofT pr s d xs)]).toArray, .int .i64 (ofK pr s d xs), .int .i64 (ofE pr s d xs)])) := by
 refine calls_W (M := []) (LL := []) (n := 71) Try.func11 rfl rfl ma10 (Mem.refl _) (W.seq (fun K1 hK1 => ?_))
 refine W.region (Wl.ht rfl (Ht.box (v := aV [nV .u8 tt.toNat, nV .u8 pr.toNat, nV .u16 id, nV .u32 s, nV .u32 d, Value.slice a xs.length cap]) (cs := [nV .u8 tt.toNat, nV .u8 pr.toNat, nV .u16 id, nV .u32 s, nV .u32 d, Value.slice a xs.length cap]) rfl rfl ma0 rfl) (fun p1 => ?_))
 refine Wl.ht rfl (Ht.alloc (z := aV zl0) (cs := zl0) rfl rfl Try.zeroValue30 rfl) (fun p2 => Wl.run 2 ma0 (Wl.nil (hK1 _ _ _ (W.seq (fun K2 hK2 => ?_)))))
 refine W.region (Wl.run 1 ma0 (Wl.ys rfl rfl (Ys.l1 p1 1 1 0 Try.isAgg5) (Wl.run 1 ma0 (Wl.ys rfl rfl (Ys.l1 p1 3 1 0 Try.isAgg24) ?_))))
 refine Wl.run 1 ma0 (Wl.ys rfl rfl (Ys.l1 p1 4 1 0 Try.isAgg24) (Wl.run 1 ma0 (Wl.ht rfl (Ht.storeN (b := p2) (o' := 0) (i := 0) (j := 0) (vs := [nV .u8 pr.toNat, nV .u32 s, nV .u32 d, iV .u16 0, iV .u16 0]) (LL' := [cFl2_1272_1 d p2 s pr, cFl2_1272_0 a cap d id p1 s pr tt xs]) rfl rfl ma0 ma0 Try.sizeOf30 ma9 rfl rfl ma10 rfl rfl) (fun _ => Wl.nil ?_))))
 refine hK2 _ _ _ (W.seq (fun K3 hK3 => ?_))
 refine W.seq (fun K4 hK4 => W.region (Wl.run 1 ma0 (Wl.ys rfl rfl (Ys.l1 p1 1 1 0 Try.isAgg5) (Wl.nil ?_))))
 refine hK4 _ _ _ (W.prune' [1, 2, 3, 17] [pV p1 0, pV p2 0, iV .i64 0, nV .u8 pr.toNat] ma0 (fun f5 => ?_))
 refine W.block (W.seq (fun K6 hK6 => ?_))
 refine W.region (Wl.run 2 ma0 (Wl.nil (hK6 _ _ _ ?_)))
 refine W.cond (((pr.toNat : Nat) : Int) == 6) ma0 (fun h7 => ?_) (fun h8 => ?_)
 ·have qh7 := h7; try simp only [zA] at qh7
  refine W.seq (fun K9 hK9 => W.region (Wl.run 1 ma0 (Wl.ys rfl rfl (Ys.l1 p1 3 1 0 Try.isAgg24) (Wl.run 1 ma0 ?_))))
  refine Wl.ys rfl rfl (Ys.l1 p1 4 1 0 Try.isAgg24) (Wl.run 1 ma0 (Wl.ys rfl rfl (Ys.l1 p1 5 1 0 Try.isAgg25) (Wl.htS rfl (HtS.call (β := FS × FS) (k := 22) (args := #[nV .u32 s, nV .u32 d, Value.slice a xs.length cap]) (Lin := []) (Lk := [cFl2_1272_1 d p2 s pr, cFl2_1272_0 a cap d id p1 s pr tt xs]) (Mi := []) (Lo := fun gg10 => [gg10.1.seg 5 (mc b8 (tO s d xs)), gg10.2.seg 5 (mc b8 (tD s d xs)), cFl2_1272_1 d p2 s pr, cFl2_1272_0 a cap d id p1 s pr tt xs]) [] [0, 1] rfl (fun _ => kr) ma2 rfl rfl rfl (fun w_ hm_ hl_ => (rtcpn_c s d xs a cap xs.length _ ma3 (hat.mem0 hm_) ma1 ma1 ma8 ma8)) (fun _ => rfl)) (fun gg10 hx14 => ?_))))
  obtain ⟨ok11, ok12⟩ := hx14
  refine Wl.run 3 ma0 (Wl.ht rfl (Ht.alloc (z := aV zl2) (cs := zl2) rfl rfl Try.zeroValue52 rfl) (fun p5 => ?_))
  refine Wl.ht rfl (Ht.storeN (b := p5) (o' := 0) (i := 0) (j := 0) (vs := [nV .u16 (tF s d xs 0), nV .u16 (tF s d xs 2), nV .u32 (tW s d xs 4), nV .u32 (tW s d xs 8), nV .u8 ((tL s d xs).toNat), nV .u16 (tF s d xs 14), nV .u16 (tF s d xs 18), Value.slice gg10.1.a ((tO s d xs).length) gg10.1.cap, Value.slice gg10.2.a ((tD s d xs).length) gg10.2.cap]) (LL' := [[cb p5 [nV .u16 (tF s d xs 0), nV .u16 (tF s d xs 2), nV .u32 (tW s d xs 4), nV .u32 (tW s d xs 8), nV .u8 ((tL s d xs).toNat), nV .u16 (tF s d xs 14), nV .u16 (tF s d xs 18), Value.slice gg10.1.a ((tO s d xs).length) gg10.1.cap, Value.slice gg10.2.a ((tD s d xs).length) gg10.2.cap] 52], gg10.1.seg 5 (mc b8 (tO s d xs)), gg10.2.seg 5 (mc b8 (tD s d xs)), cFl2_1272_1 d p2 s pr, cFl2_1272_0 a cap d id p1 s pr tt xs]) rfl rfl ma0 ma0 Try.sizeOf52 ma9 rfl rfl ma10 rfl rfl) (fun _ => Wl.run 1 ma0 (Wl.nil (hK9 _ _ _ (W.pick (LL' := [[cb p5 [nV .u16 (tF s d xs 0), nV .u16 (tF s d xs 2), nV .u32 (tW s d xs 4), nV .u32 (tW s d xs 8), nV .u8 ((tL s d xs).toNat), nV .u16 (tF s d xs 14), nV .u16 (tF s d xs 18), Value.slice gg10.1.a ((tO s d xs).length) gg10.1.cap, Value.slice gg10.2.a ((tD s d xs).length) gg10.2.cap] 52], gg10.1.seg 5 (mc b8 (tO s d xs)), gg10.2.seg 5 (mc b8 (tD s d xs)), cFl2_1272_1 d p2 s pr]) [0, 1, 2, 3] ma2 rfl ?_))))
  refine W.prune' [2, 5, 6] [pV p2 0, pV p5 0, iV .i64 (tR s d xs)] ma0 (fun f15 => W.draws [(0, true), (1, true), (2, true), (3, true), (4, true), (5, false), (6, false), (7, false), (8, false), (9, false), (10, false)] [0, 1, 2, 3, 4] (Mem w [] [[cb p5 [nV .u16 (tF s d xs 0), nV .u16 (tF s d xs 2), nV .u32 (tW s d xs 4), nV .u32 (tW s d xs 8), nV .u8 ((tL s d xs).toNat), nV .u16 (tF s d xs 14), nV .u16 (tF s d xs 18), Value.slice gg10.1.a ((tO s d xs).length) gg10.1.cap, Value.slice gg10.2.a ((tD s d xs).length) gg10.2.cap] 52], gg10.1.seg 5 (mc b8 (tO s d xs)), gg10.2.seg 5 (mc b8 (tD s d xs))]) ma0 ma0 ma0 rfl ma0 (fun _ _ h_ => h_.drawn _) (fun _ h_ => h_.pick [0, 1, 2] ma2 rfl) (Wd.run 1 ma0 (Wd.ys rfl rfl rfl (Ys.l1 p5 0 0 0 Try.isAgg22) (Wd.run 1 ma0 ?_))))
  refine Wd.ys rfl rfl rfl (Ys.l1 p5 1 0 0 Try.isAgg22) (Wd.run 1 ma0 (Wd.yc (v := pV p2 3) rfl rfl rfl (Ys.yc (Ys.pure (fun _ => kr))) (.inr fun _ h_ => h_.pick [0, 1, 2] ma2 rfl) (Wd.ht rfl rfl (Ht.store (b := p2) (o' := 3) (i := 3) (j := 0) (v := nV .u16 (tF s d xs 0)) (LL' := [[cb p5 [nV .u16 (tF s d xs 0), nV .u16 (tF s d xs 2), nV .u32 (tW s d xs 4), nV .u32 (tW s d xs 8), nV .u8 ((tL s d xs).toNat), nV .u16 (tF s d xs 14), nV .u16 (tF s d xs 18), Value.slice gg10.1.a ((tO s d xs).length) gg10.1.cap, Value.slice gg10.2.a ((tD s d xs).length) gg10.2.cap] 52], gg10.1.seg 5 (mc b8 (tO s d xs)), gg10.2.seg 5 (mc b8 (tD s d xs)), [cb p2 [nV .u8 pr.toNat, nV .u32 s, nV .u32 d, nV .u16 (tF s d xs 0), iV .u16 0] 30]]) rfl rfl ma0 ma0 Try.sizeOf22 rfl rfl rfl ma10 rfl rfl) (.inr fun _ _ h_ => h_.pick [0, 1, 2] ma2 rfl) (fun _ => Wd.yc (v := pV p2 4) rfl rfl rfl (Ys.yc (Ys.pure (fun _ => kr))) (.inr fun _ h_ => h_.pick [0, 1, 2] ma2 rfl) ?_))))
  refine Wd.ht rfl rfl (Ht.store (b := p2) (o' := 4) (i := 3) (j := 0) (v := nV .u16 (tF s d xs 2)) (LL' := [[cb p5 [nV .u16 (tF s d xs 0), nV .u16 (tF s d xs 2), nV .u32 (tW s d xs 4), nV .u32 (tW s d xs 8), nV .u8 ((tL s d xs).toNat), nV .u16 (tF s d xs 14), nV .u16 (tF s d xs 18), Value.slice gg10.1.a ((tO s d xs).length) gg10.1.cap, Value.slice gg10.2.a ((tD s d xs).length) gg10.2.cap] 52], gg10.1.seg 5 (mc b8 (tO s d xs)), gg10.2.seg 5 (mc b8 (tD s d xs)), [cb p2 [nV .u8 pr.toNat, nV .u32 s, nV .u32 d, nV .u16 (tF s d xs 0), nV .u16 (tF s d xs 2)] 30]]) rfl rfl ma0 ma0 Try.sizeOf22 rfl rfl rfl ma10 rfl rfl) (.inr fun _ _ h_ => h_.pick [0, 1, 2] ma2 rfl) (fun _ => Wd.yc (v := iV .i64 1) rfl rfl rfl (Ys.yc (Ys.pure (fun _ => kr))) (.inr fun _ h_ => h_.pick [0, 1, 2] ma2 rfl) (Wd.yc (v := iV .i64 (tR s d xs)) rfl rfl rfl (Ys.yc (Ys.pure (fun _ => kr))) (.inl ma0) (Wd.nil (hK3 _ _ _ ?_))))
  refine W.seq (fun K16 hK16 => W.seq (fun K17 hK17 => ?_))
  refine W.region (Wl.run 2 ma0 (Wl.nil (hK17 _ _ _ (W.pick (LL' := [[cb p2 [nV .u8 pr.toNat, nV .u32 s, nV .u32 d, nV .u16 (tF s d xs 0), nV .u16 (tF s d xs 2)] 30]]) [3] ma2 rfl ?_))))
  refine W.prune' [2, 3, 4, 66] [pV p2 0, iV .i64 1, iV .i64 (tR s d xs), bV ((tR s d xs) != 0)] ma0 (fun f18 => ?_)
  refine W.cond ((tR s d xs) != 0) ma0 (fun h19 => ?_) (fun h20 => ?_)
  ·have qh19 := h19; try simp only [zA] at qh19
   refine W.seq (fun K21 hK21 => W.region (Wl.run 2 ma0 (Wl.ht rfl (Ht.storeN (b := p2) (o' := 0) (i := 0) (j := 0) (vs := zl0) (LL' := [cFl2_1272_3 p2]) rfl rfl ma0 ma0 Try.sizeOf30 ma9 rfl rfl ma10 rfl rfl) (fun _ => Wl.run 2 ma0 ?_))))
   refine Wl.nil (hK21 _ _ _ (W.ret ?_))
   have hisT_ : isT pr = true := h7
   have hE_ : ofE pr s d xs = tR s d xs := by simp only [ofE, hisT_, cond_true, cond_false]
   have hZ_ : ofZ pr s d xs = false := by unfold ofZ; rw [hE_, h19]; rfl
   show ∀ w_, _ → bodyPostM (fence none) 0 Try.prog Try.f11 _ Exit.ret _ w_
   exact fun w_ hS_ => fin_ret (ret3 rfl (RV.cellN (b := p2) (o' := 0) (i := 0) (j := 0) (cs := zl0) (vs := zl0) ma0 Try.isAgg30 Try.sizeOf30 rfl rfl rfl rfl) (RV.tmp (v := iV .i64 0) ma0) (RV.tmp (v := iV .i64 (tR s d xs)) ma0) hS_ ⟨by clear hK1 hK2 hK3 hK4 hK6 hK9 hK16 hK17 hK21; refine congrArg Ending.returned ?_; simp only [ofK, ofP, ofS, ofD, ofF, ofT, hE_, hZ_, hisT_, cond_true, cond_false]; try rfl, hS_.below⟩)
  ·have qh20 := h20; try simp only [zA] at qh20
   refine W.skip' (hK16 _ _ _ (W.seq (fun K22 hK22 => W.region (Wl.ys rfl rfl (Ys.loadN (b := p2) (o' := 0) (i := 0) (j := 0) (vs := [nV .u8 pr.toNat, nV .u32 s, nV .u32 d, nV .u16 (tF s d xs 0), nV .u16 (tF s d xs 2)]) rfl ma0 Try.isAgg30 Try.sizeOf30 rfl rfl rfl rfl) ?_))))
   refine Wl.run 1 ma0 (Wl.ht rfl (Ht.storeN (b := p2) (o' := 0) (i := 0) (j := 0) (vs := [nV .u8 pr.toNat, nV .u32 s, nV .u32 d, nV .u16 (tF s d xs 0), nV .u16 (tF s d xs 2)]) (LL' := [[cb p2 [nV .u8 pr.toNat, nV .u32 s, nV .u32 d, nV .u16 (tF s d xs 0), nV .u16 (tF s d xs 2)] 30]]) rfl rfl ma0 ma0 Try.sizeOf30 ma9 rfl rfl ma10 rfl rfl) (fun _ => ?_))
   refine Wl.run 2 ma0 (Wl.nil (hK22 _ _ _ (W.ret ?_)))
   have hisT_ : isT pr = true := h7
   have hE_ : ofE pr s d xs = tR s d xs := by simp only [ofE, hisT_, cond_true, cond_false]
   have hZ_ : ofZ pr s d xs = true := by unfold ofZ; rw [hE_, h20]; rfl
   show ∀ w_, _ → bodyPostM (fence none) 0 Try.prog Try.f11 _ Exit.ret _ w_
   exact fun w_ hS_ => fin_ret (ret3 rfl (RV.cellN (b := p2) (o' := 0) (i := 0) (j := 0) (cs := [nV .u8 pr.toNat, nV .u32 s, nV .u32 d, nV .u16 (tF s d xs 0), nV .u16 (tF s d xs 2)]) (vs := [nV .u8 pr.toNat, nV .u32 s, nV .u32 d, nV .u16 (tF s d xs 0), nV .u16 (tF s d xs 2)]) ma0 Try.isAgg30 Try.sizeOf30 rfl rfl rfl rfl) (RV.tmp (v := iV .i64 1) ma0) (RV.tmp (v := iV .i64 0) ma0) hS_ ⟨by clear hK1 hK2 hK3 hK4 hK6 hK9 hK16 hK17 hK22; refine congrArg Ending.returned ?_; simp only [ofK, ofP, ofS, ofD, ofF, ofT, hE_, hZ_, hisT_, cond_true, cond_false]; try (rw [show tR s d xs = (0 : Int) from by have z_ := h20; simpa using z_]); try rfl, hS_.below⟩)
 ·have qh8 := h8; try simp only [zA] at qh8
  refine W.seq (fun K23 hK23 => W.region (Wl.run 2 ma0 (Wl.nil (hK23 _ _ _ ?_))))
  refine W.cond (((pr.toNat : Nat) : Int) == 17) ma0 (fun h24 => ?_) (fun h25 => ?_)
  ·have qh24 := h24; try simp only [zA] at qh24
   refine W.seq (fun K26 hK26 => W.region (Wl.run 1 ma0 (Wl.ys rfl rfl (Ys.l1 p1 3 1 0 Try.isAgg24) (Wl.run 1 ma0 ?_))))
   refine Wl.ys rfl rfl (Ys.l1 p1 4 1 0 Try.isAgg24) (Wl.run 1 ma0 (Wl.ys rfl rfl (Ys.l1 p1 5 1 0 Try.isAgg25) (Wl.htS rfl (HtS.call (β := FS) (k := 23) (args := #[nV .u32 s, nV .u32 d, Value.slice a xs.length cap]) (Lin := []) (Lk := [cFl2_1272_1 d p2 s pr, cFl2_1272_0 a cap d id p1 s pr tt xs]) (Mi := []) (Lo := fun g27 => [g27.seg 5 (mc b8 (uD s d xs)), cFl2_1272_1 d p2 s pr, cFl2_1272_0 a cap d id p1 s pr tt xs]) [] [0, 1] rfl (fun _ => kr) ma2 rfl rfl rfl (fun w_ hm_ hl_ => (rudpn_c s d xs a cap xs.length _ ma3 (hat.mem0 hm_) ma1 ma1 ma8 ma8)) (fun _ => rfl)) (fun g27 ok28 => Wl.run 3 ma0 ?_))))
   refine Wl.ht rfl (Ht.alloc (z := aV zl5) (cs := zl5) rfl rfl Try.zeroValue56 rfl) (fun p7 => Wl.ht rfl (Ht.storeN (b := p7) (o' := 0) (i := 0) (j := 0) (vs := [nV .u16 (uF s d xs 0), nV .u16 (uF s d xs 2), bV (uP s d xs), sV g27 ((uD s d xs).length)]) (LL' := [cFl2_1272_2 d p7 s g27 xs, g27.seg 5 (mc b8 (uD s d xs)), cFl2_1272_1 d p2 s pr, cFl2_1272_0 a cap d id p1 s pr tt xs]) rfl rfl ma0 ma0 Try.sizeOf56 ma9 rfl rfl ma10 rfl rfl) (fun _ => ?_))
   refine Wl.run 1 ma0 (Wl.nil (hK26 _ _ _ (W.pick (LL' := [cFl2_1272_2 d p7 s g27 xs, g27.seg 5 (mc b8 (uD s d xs)), cFl2_1272_1 d p2 s pr]) [0, 1, 2] ma2 rfl (W.prune' [2, 7, 8] [pV p2 0, pV p7 0, iV .i64 (uR s d xs)] ma0 (fun f30 => ?_)))))
   refine W.draws [(0, true), (1, true), (2, true), (3, true), (4, true), (5, false), (6, false), (7, false), (8, false), (9, false), (10, false)] [0, 1, 2, 3, 4] (Mem w [] [cFl2_1272_2 d p7 s g27 xs, g27.seg 5 (mc b8 (uD s d xs))]) ma0 ma0 ma0 rfl ma0 (fun _ _ h_ => h_.drawn _) (fun _ h_ => h_.pick [0, 1] ma2 rfl) (Wd.run 1 ma0 (Wd.ys rfl rfl rfl (Ys.l1 p7 0 0 0 Try.isAgg22) (Wd.run 1 ma0 (Wd.ys rfl rfl rfl (Ys.l1 p7 1 0 0 Try.isAgg22) ?_))))
   refine Wd.run 1 ma0 (Wd.yc (v := pV p2 3) rfl rfl rfl (Ys.yc (Ys.pure (fun _ => kr))) (.inr fun _ h_ => h_.pick [0, 1] ma2 rfl) (Wd.ht rfl rfl (Ht.store (b := p2) (o' := 3) (i := 2) (j := 0) (v := nV .u16 (uF s d xs 0)) (LL' := [cFl2_1272_2 d p7 s g27 xs, g27.seg 5 (mc b8 (uD s d xs)), [cb p2 [nV .u8 pr.toNat, nV .u32 s, nV .u32 d, nV .u16 (uF s d xs 0), iV .u16 0] 30]]) rfl rfl ma0 ma0 Try.sizeOf22 rfl rfl rfl ma10 rfl rfl) (.inr fun _ _ h_ => h_.pick [0, 1] ma2 rfl) (fun _ => Wd.yc (v := pV p2 4) rfl rfl rfl (Ys.yc (Ys.pure (fun _ => kr))) (.inr fun _ h_ => h_.pick [0, 1] ma2 rfl) (Wd.ht rfl rfl (Ht.store (b := p2) (o' := 4) (i := 2) (j := 0) (v := nV .u16 (uF s d xs 2)) (LL' := [cFl2_1272_2 d p7 s g27 xs, g27.seg 5 (mc b8 (uD s d xs)), [cb p2 [nV .u8 pr.toNat, nV .u32 s, nV .u32 d, nV .u16 (uF s d xs 0), nV .u16 (uF s d xs 2)] 30]]) rfl rfl ma0 ma0 Try.sizeOf22 rfl rfl rfl ma10 rfl rfl) (.inr fun _ _ h_ => h_.pick [0, 1] ma2 rfl) (fun _ => ?_)))))
   refine Wd.yc (v := iV .i64 1) rfl rfl rfl (Ys.yc (Ys.pure (fun _ => kr))) (.inr fun _ h_ => h_.pick [0, 1] ma2 rfl) (Wd.yc (v := iV .i64 (uR s d xs)) rfl rfl rfl (Ys.yc (Ys.pure (fun _ => kr))) (.inl ma0) (Wd.nil (hK3 _ _ _ (W.seq (fun K31 hK31 => ?_)))))
   refine W.seq (fun K32 hK32 => W.region (Wl.run 2 ma0 (Wl.nil (hK32 _ _ _ ?_))))
   refine W.pick (LL' := [[cb p2 [nV .u8 pr.toNat, nV .u32 s, nV .u32 d, nV .u16 (uF s d xs 0), nV .u16 (uF s d xs 2)] 30]]) [2] ma2 rfl (W.prune' [2, 3, 4, 66] [pV p2 0, iV .i64 1, iV .i64 (uR s d xs), bV ((uR s d xs) != 0)] ma0 (fun f33 => ?_))
   refine W.cond ((uR s d xs) != 0) ma0 (fun h34 => ?_) (fun h35 => ?_)
   ·have qh34 := h34; try simp only [zA] at qh34
    refine W.seq (fun K36 hK36 => W.region (Wl.run 2 ma0 (Wl.ht rfl (Ht.storeN (b := p2) (o' := 0) (i := 0) (j := 0) (vs := zl0) (LL' := [cFl2_1272_3 p2]) rfl rfl ma0 ma0 Try.sizeOf30 ma9 rfl rfl ma10 rfl rfl) (fun _ => Wl.run 2 ma0 ?_))))
    refine Wl.nil (hK36 _ _ _ (W.ret ?_))
    have hisT_ : isT pr = false := h8
    have hisU_ : isU pr = true := h24
    have hE_ : ofE pr s d xs = uR s d xs := by simp only [ofE, hisT_, hisU_, cond_true, cond_false]
    have hZ_ : ofZ pr s d xs = false := by unfold ofZ; rw [hE_, h34]; rfl
    show ∀ w_, _ → bodyPostM (fence none) 0 Try.prog Try.f11 _ Exit.ret _ w_
    exact fun w_ hS_ => fin_ret (ret3 rfl (RV.cellN (b := p2) (o' := 0) (i := 0) (j := 0) (cs := zl0) (vs := zl0) ma0 Try.isAgg30 Try.sizeOf30 rfl rfl rfl rfl) (RV.tmp (v := iV .i64 0) ma0) (RV.tmp (v := iV .i64 (uR s d xs)) ma0) hS_ ⟨by clear hK1 hK2 hK3 hK4 hK6 hK23 hK26 hK31 hK32 hK36; refine congrArg Ending.returned ?_; simp only [ofK, ofP, ofS, ofD, ofF, ofT, hE_, hZ_, hisT_, hisU_, cond_true, cond_false]; try rfl, hS_.below⟩)
   ·have qh35 := h35; try simp only [zA] at qh35
    refine W.skip' (hK31 _ _ _ (W.seq (fun K37 hK37 => W.region (Wl.ys rfl rfl (Ys.loadN (b := p2) (o' := 0) (i := 0) (j := 0) (vs := [nV .u8 pr.toNat, nV .u32 s, nV .u32 d, nV .u16 (uF s d xs 0), nV .u16 (uF s d xs 2)]) rfl ma0 Try.isAgg30 Try.sizeOf30 rfl rfl rfl rfl) ?_))))
    refine Wl.run 1 ma0 (Wl.ht rfl (Ht.storeN (b := p2) (o' := 0) (i := 0) (j := 0) (vs := [nV .u8 pr.toNat, nV .u32 s, nV .u32 d, nV .u16 (uF s d xs 0), nV .u16 (uF s d xs 2)]) (LL' := [[cb p2 [nV .u8 pr.toNat, nV .u32 s, nV .u32 d, nV .u16 (uF s d xs 0), nV .u16 (uF s d xs 2)] 30]]) rfl rfl ma0 ma0 Try.sizeOf30 ma9 rfl rfl ma10 rfl rfl) (fun _ => ?_))
    refine Wl.run 2 ma0 (Wl.nil (hK37 _ _ _ (W.ret ?_)))
    have hisT_ : isT pr = false := h8
    have hisU_ : isU pr = true := h24
    have hE_ : ofE pr s d xs = uR s d xs := by simp only [ofE, hisT_, hisU_, cond_true, cond_false]
    have hZ_ : ofZ pr s d xs = true := by unfold ofZ; rw [hE_, h35]; rfl
    show ∀ w_, _ → bodyPostM (fence none) 0 Try.prog Try.f11 _ Exit.ret _ w_
    exact fun w_ hS_ => fin_ret (ret3 rfl (RV.cellN (b := p2) (o' := 0) (i := 0) (j := 0) (cs := [nV .u8 pr.toNat, nV .u32 s, nV .u32 d, nV .u16 (uF s d xs 0), nV .u16 (uF s d xs 2)]) (vs := [nV .u8 pr.toNat, nV .u32 s, nV .u32 d, nV .u16 (uF s d xs 0), nV .u16 (uF s d xs 2)]) ma0 Try.isAgg30 Try.sizeOf30 rfl rfl rfl rfl) (RV.tmp (v := iV .i64 1) ma0) (RV.tmp (v := iV .i64 0) ma0) hS_ ⟨by clear hK1 hK2 hK3 hK4 hK6 hK23 hK26 hK31 hK32 hK37; refine congrArg Ending.returned ?_; simp only [ofK, ofP, ofS, ofD, ofF, ofT, hE_, hZ_, hisT_, hisU_, cond_true, cond_false]; try (rw [show uR s d xs = (0 : Int) from by have z_ := h35; simpa using z_]); try rfl, hS_.below⟩)
  ·have qh25 := h25; try simp only [zA] at qh25
   refine W.seq (fun K38 hK38 => W.region (Wl.run 2 ma0 (Wl.nil (hK38 _ _ _ ?_))))
   refine W.cond (((pr.toNat : Nat) : Int) == 1) ma0 (fun h39 => ?_) (fun h40 => ?_)
   ·have qh39 := h39; try simp only [zA] at qh39
    refine W.region (Wl.ys rfl rfl (Ys.loadN (b := p1) (o' := 0) (i := 1) (j := 0) (vs := [nV .u8 tt.toNat, nV .u8 pr.toNat, nV .u16 id, nV .u32 s, nV .u32 d, Value.slice a xs.length cap]) rfl ma0 Try.isAgg27 Try.sizeOf27 rfl rfl rfl rfl) (Wl.ys rfl rfl (Ys.loadN (b := p2) (o' := 0) (i := 0) (j := 0) (vs := [nV .u8 pr.toNat, nV .u32 s, nV .u32 d, iV .u16 0, iV .u16 0]) rfl ma0 Try.isAgg30 Try.sizeOf30 rfl rfl rfl rfl) (Wl.yc (v := Value.tuple #[aV [nV .u8 ((msP pr xs).toNat), nV .u32 (msS s 16 xs), nV .u32 (msS d 12 xs), nV .u16 (msF 0 xs), nV .u16 (msT 0 xs)], iV .i64 (msK xs), iV .i64 (msE xs)]) rfl rfl (Yc.call (fun _ => kr) (fun w_ hm_ => (messagen_c tt pr id s d xs a cap pr s d 0 0 xs.length _ ma3 (hat.mem0 hm_) ma12 ma12 ma12 ma5 ma5))) (Wl.run 4 ma0 ?_))))
    refine Wl.ht rfl (Ht.storeN (b := p2) (o' := 0) (i := 0) (j := 0) (vs := [nV .u8 ((msP pr xs).toNat), nV .u32 (msS s 16 xs), nV .u32 (msS d 12 xs), nV .u16 (msF 0 xs), nV .u16 (msT 0 xs)]) (LL' := [[cb p2 [nV .u8 ((msP pr xs).toNat), nV .u32 (msS s 16 xs), nV .u32 (msS d 12 xs), nV .u16 (msF 0 xs), nV .u16 (msT 0 xs)] 30], cFl2_1272_0 a cap d id p1 s pr tt xs]) rfl rfl ma0 ma0 Try.sizeOf30 ma9 rfl rfl ma10 rfl rfl) (fun _ => Wl.run 2 ma0 (Wl.nil (hK3 _ _ _ (W.pick (LL' := [[cb p2 [nV .u8 ((msP pr xs).toNat), nV .u32 (msS s 16 xs), nV .u32 (msS d 12 xs), nV .u16 (msF 0 xs), nV .u16 (msT 0 xs)] 30]]) [0] ma2 rfl ?_))))
    refine W.prune' [2, 3, 4] [pV p2 0, iV .i64 (msK xs), iV .i64 (msE xs)] ma0 (fun f41 => W.seq (fun K42 hK42 => ?_))
    refine W.seq (fun K43 hK43 => W.region (Wl.run 2 ma0 (Wl.nil (hK43 _ _ _ ?_))))
    refine W.cond ((msE xs) != 0) ma0 (fun h44 => ?_) (fun h45 => ?_)
    ·have qh44 := h44; try simp only [zA] at qh44
     refine W.seq (fun K46 hK46 => W.region (Wl.run 2 ma0 (Wl.ht rfl (Ht.storeN (b := p2) (o' := 0) (i := 0) (j := 0) (vs := zl0) (LL' := [cFl2_1272_3 p2]) rfl rfl ma0 ma0 Try.sizeOf30 ma9 rfl rfl ma10 rfl rfl) (fun _ => Wl.run 2 ma0 ?_))))
     refine Wl.nil (hK46 _ _ _ (W.ret ?_))
     have hisT_ : isT pr = false := h8
     have hisU_ : isU pr = false := h25
     have hisI_ : isI pr = true := h39
     have hE_ : ofE pr s d xs = msE xs := by simp only [ofE, hisT_, hisU_, hisI_, cond_true, cond_false]
     have hZ_ : ofZ pr s d xs = false := by unfold ofZ; rw [hE_, h44]; rfl
     show ∀ w_, _ → bodyPostM (fence none) 0 Try.prog Try.f11 _ Exit.ret _ w_
     exact fun w_ hS_ => fin_ret (ret3 rfl (RV.cellN (b := p2) (o' := 0) (i := 0) (j := 0) (cs := zl0) (vs := zl0) ma0 Try.isAgg30 Try.sizeOf30 rfl rfl rfl rfl) (RV.tmp (v := iV .i64 0) ma0) (RV.tmp (v := iV .i64 (msE xs)) ma0) hS_ ⟨by clear hK1 hK2 hK3 hK4 hK6 hK23 hK38 hK42 hK43 hK46; refine congrArg Ending.returned ?_; simp only [ofK, ofP, ofS, ofD, ofF, ofT, hE_, hZ_, hisT_, hisU_, hisI_, cond_true, cond_false]; try rfl, hS_.below⟩)
    ·have qh45 := h45; try simp only [zA] at qh45
     refine W.skip' (hK42 _ _ _ (W.seq (fun K47 hK47 => W.region (Wl.ys rfl rfl (Ys.loadN (b := p2) (o' := 0) (i := 0) (j := 0) (vs := [nV .u8 ((msP pr xs).toNat), nV .u32 (msS s 16 xs), nV .u32 (msS d 12 xs), nV .u16 (msF 0 xs), nV .u16 (msT 0 xs)]) rfl ma0 Try.isAgg30 Try.sizeOf30 rfl rfl rfl rfl) ?_))))
     refine Wl.run 1 ma0 (Wl.ht rfl (Ht.storeN (b := p2) (o' := 0) (i := 0) (j := 0) (vs := [nV .u8 ((msP pr xs).toNat), nV .u32 (msS s 16 xs), nV .u32 (msS d 12 xs), nV .u16 (msF 0 xs), nV .u16 (msT 0 xs)]) (LL' := [[cb p2 [nV .u8 ((msP pr xs).toNat), nV .u32 (msS s 16 xs), nV .u32 (msS d 12 xs), nV .u16 (msF 0 xs), nV .u16 (msT 0 xs)] 30]]) rfl rfl ma0 ma0 Try.sizeOf30 ma9 rfl rfl ma10 rfl rfl) (fun _ => ?_))
     refine Wl.run 2 ma0 (Wl.nil (hK47 _ _ _ (W.ret ?_)))
     have hisT_ : isT pr = false := h8
     have hisU_ : isU pr = false := h25
     have hisI_ : isI pr = true := h39
     have hE_ : ofE pr s d xs = msE xs := by simp only [ofE, hisT_, hisU_, hisI_, cond_true, cond_false]
     have hZ_ : ofZ pr s d xs = true := by unfold ofZ; rw [hE_, h45]; rfl
     show ∀ w_, _ → bodyPostM (fence none) 0 Try.prog Try.f11 _ Exit.ret _ w_
     exact fun w_ hS_ => fin_ret (ret3 rfl (RV.cellN (b := p2) (o' := 0) (i := 0) (j := 0) (cs := [nV .u8 ((msP pr xs).toNat), nV .u32 (msS s 16 xs), nV .u32 (msS d 12 xs), nV .u16 (msF 0 xs), nV .u16 (msT 0 xs)]) (vs := [nV .u8 ((msP pr xs).toNat), nV .u32 (msS s 16 xs), nV .u32 (msS d 12 xs), nV .u16 (msF 0 xs), nV .u16 (msT 0 xs)]) ma0 Try.isAgg30 Try.sizeOf30 rfl rfl rfl rfl) (RV.tmp (v := iV .i64 (msK xs)) ma0) (RV.tmp (v := iV .i64 0) ma0) hS_ ⟨by clear hK1 hK2 hK3 hK4 hK6 hK23 hK38 hK42 hK43 hK47; refine congrArg Ending.returned ?_; simp only [ofK, ofP, ofS, ofD, ofF, ofT, hE_, hZ_, hisT_, hisU_, hisI_, cond_true, cond_false]; try (rw [show msE xs = (0 : Int) from by have z_ := h45; simpa using z_]); try rfl, hS_.below⟩)
   ·have qh40 := h40; try simp only [zA] at qh40
    refine W.region (Wl.run 1 ma0 (Wl.nil (hK3 _ _ _ (W.seq (fun K48 hK48 => ?_)))))
    refine W.seq (fun K49 hK49 => W.region (Wl.run 2 ma0 (Wl.nil (hK49 _ _ _ ?_))))
    refine W.condT ma0 (W.seq (fun K50 hK50 => ?_))
    refine W.region (Wl.run 2 ma0 (Wl.ht rfl (Ht.storeN (b := p2) (o' := 0) (i := 0) (j := 0) (vs := zl0) (LL' := [cFl2_1272_3 p2, cFl2_1272_0 a cap d id p1 s pr tt xs]) rfl rfl ma0 ma0 Try.sizeOf30 ma9 rfl rfl ma10 rfl rfl) (fun _ => Wl.run 2 ma0 (Wl.nil ?_))))
    refine hK50 _ _ _ (W.pick (LL' := [cFl2_1272_3 p2]) [0] ma2 rfl (W.prune' [2, 3, 4] [pV p2 0, iV .i64 0, iV .i64 11] ma0 (fun f51 => W.ret ?_)))
    have hisT_ : isT pr = false := h8
    have hisU_ : isU pr = false := h25
    have hisI_ : isI pr = false := h40
    have hE_ : ofE pr s d xs = 11 := by simp only [ofE, hisT_, hisU_, hisI_, cond_true, cond_false]
    have hZ_ : ofZ pr s d xs = false := by unfold ofZ; rw [hE_]; rfl
    show ∀ w_, _ → bodyPostM (fence none) 0 Try.prog Try.f11 _ Exit.ret _ w_
    exact fun w_ hS_ => fin_ret (ret3 rfl (RV.cellN (b := p2) (o' := 0) (i := 0) (j := 0) (cs := zl0) (vs := zl0) ma0 Try.isAgg30 Try.sizeOf30 rfl rfl rfl rfl) (RV.tmp (v := iV .i64 0) ma0) (RV.tmp (v := iV .i64 11) ma0) hS_ ⟨by clear hK1 hK2 hK3 hK4 hK6 hK23 hK38 hK48 hK49 hK50; refine congrArg Ending.returned ?_; simp only [ofK, ofP, ofS, ofD, ofF, ofT, hE_, hZ_, hisT_, hisU_, hisI_, cond_true, cond_false]; try rfl, hS_.below⟩)
theorem ofn_c (tt pr : UInt8) (id s d : Nat) (xs : List UInt8) (a : Option Addr) (cap : Nat) (len : Nat) (w : World) (hn : len = xs.length) (hat : At w a (byc xs)) (hi : id < 65536) (hs : s < 4294967296) (hd : d < 4294967296) (hl : xs.length ≤ 100000) (hlc : xs.length ≤ cap)  : Calls Try.prog 11 #[Value.agg ([Value.int .u8 (tt.toNat : Int), Value.int .u8 (pr.toNat : Int), Value.int .u16 (id : Int), Value.int .u32 (s : Int), Value.int .u32 (d : Int), Value.slice a len cap]).toArray] w (Ret w (.tuple #[.agg ([Value.int .u8 ((ofP pr s d xs).toNat : Int), Value.int .u32 (ofS pr s d xs : Int), Value.int .u32 (ofD pr s d xs : Int), Value.int .u16 (ofF pr s d xs : Int), Value.int .u16 (ofT pr s d xs : Int)]).toArray, .int .i64 (ofK pr s d xs), .int .i64 (ofE pr s d xs)])) := by
  subst hn; exact of_c tt pr id s d xs a cap w hat hi hs hd hl hlc
end Go.Proofs.Ytejeafjkhomdoaa.Oct
