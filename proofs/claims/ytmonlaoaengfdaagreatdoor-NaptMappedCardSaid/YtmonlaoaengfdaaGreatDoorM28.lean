import Derived.Test.YtmonlaoaengfdaaGreatDoorM27
set_option linter.unusedVariables false
set_option linter.unusedSimpArgs false
set_option maxRecDepth 20000
namespace Go.Proofs.YtmonlaoaengfdaaGreatDoor.Oct
open Go.RowKit Base
attribute [local irreducible] Ys Yc Ht HtS HtIn Wl Wd W Mem pf dpf Wa Wo
def limV (pr : Int) (s0 s1 s2 s3 s4 : Bool) : Int := bif pr == 1 then 60 else bif pr == 17 then 300 else bif pr == 6 then (bif (s0 && s1) && !(s4 || (s2 && s3)) then 7440 else 240) else 0
theorem limV_udp (s0 s1 s2 s3 s4 : Bool) : limV 17 s0 s1 s2 s3 s4 = 300 := rfl
structure RenE (e : SesE) (now : Int) (out : Bool) (r : SesE) : Prop where
  pr : r.pr = e.pr
  src : r.src = e.src
  dst : r.dst = e.dst
  frm : r.frm = e.frm
  dto : r.dto = e.dto
  ext : r.ext = e.ext
  id : r.id = e.id
  given : r.given = e.given
  lan : r.lan = (e.lan || out)
  ends : e.pr = 17 → r.ends = endU now
theorem over_n (s0 s1 s2 s3 s4 : Bool) (w : World) : Calls Tryz.prog 139 #[aV [bV s0, bV s1, bV s2, bV s3, bV s4]] w (Ret w (.bool (s4 || (s2 && s3)))) := by
 refine calls_W (M := []) (LL := []) (n := 13) Tryz.func139 rfl rfl ma6 (Mem.refl _) (W.seq (fun K1 hK1 => ?_))
 refine W.region (Wl.ht rfl (Ht.box (v := aV [bV s0, bV s1, bV s2, bV s3, bV s4]) (cs := [bV s0, bV s1, bV s2, bV s3, bV s4]) rfl rfl ma0 rfl) (fun p1 => ?_))
 refine Wl.run 1 ma0 (Wl.nil (hK1 _ _ _ (W.prune' [1] [pV p1 0] ma0 (fun f2 => W.seq (fun K3 hK3 => ?_)))))
 refine W.region (Wl.run 1 ma0 (Wl.ys rfl rfl (Ys.l1 p1 4 0 0 Tryz.isAgg4) (Wl.run 1 ma0 ?_)))
 refine Wl.guard (v := pV p1 2) (!s4) rfl (wantF rfl ma0) rfl (fun hg4 => ?_) ?_
 ·exact Ys.pure (fun _ => kr)
 refine Wl.guard (v := bV s2) (!s4) rfl (wantF rfl ma0) rfl (fun hg5 => ?_) ?_
 ·refine Ys.at (t := 6) (v0 := pV p1 2) (lz (g := !s4) (u := undef) hg5 ma0) ?_
  exact Ys.l1 p1 2 0 0 Tryz.isAgg4
 refine Wl.guard (v := bV s2) (!s4) rfl (wantF rfl ma0) rfl (fun hg6 => ?_) ?_
 ·refine Ys.at (t := 7) (v0 := bV s2) (lz (g := !s4) (u := undef) hg6 ma0) ?_
  exact Ys.pure (fun _ => kr)
 refine Wl.guard (v := pV p1 3) ((!s4) && s2) rfl (wantTz rfl rfl ma0) rfl (fun hg7 => ?_) ?_
 ·exact Ys.pure (fun _ => kr)
 refine Wl.guard (v := bV s3) ((!s4) && s2) rfl (wantTz rfl rfl ma0) rfl (fun hg8 => ?_) ?_
 ·refine Ys.at (t := 9) (v0 := pV p1 3) (lz (g := (!s4) && s2) (u := undef) hg8 ma0) ?_
  exact Ys.l1 p1 3 0 0 Tryz.isAgg4
 refine Wl.guard (v := bV (s2 && s3)) (!s4) rfl (wantF rfl ma0) rfl (fun hg9 => ?_) ?_
 ·refine Ys.at (t := 8) (v0 := bV s2) (lz (g := !s4) (u := undef) hg9 ma0) (Ys.at (t := 10) (v0 := (bif s2 then bV s3 else undef)) (lz2 (g := !s4) hg9 ma0) ?_)
  exact Ys.and (e := s2) (b := s3) rfl ma0 ma0 ma0
 refine Wl.ys (v := bV (s4 || (s2 && s3))) rfl rfl (Ys.or' (e := s4) (b := s2 && s3) rfl ma0 ma0 ma0) (Wl.run 1 ma0 (Wl.nil (hK3 _ _ _ (W.pick (LL' := []) [] ma2 rfl ?_))))
 refine W.prune' [2] [bV (s4 || (s2 && s3))] ma0 (fun f10 => W.ret ?_)
 show ∀ w_, _ → bodyPostM (fence none) 0 Tryz.prog Tryz.f139 _ Exit.ret _ w_
 exact fun w_ hS_ => fin_ret (ret1 rfl (RV.tmp (v := bV (s4 || (s2 && s3))) ma0) hS_ ⟨rfl, hS_.below⟩)
theorem limit_n (pr : Int) (s0 s1 s2 s3 s4 : Bool) (w : World) : Calls Tryz.prog 90 #[iV .u8 pr, aV [bV s0, bV s1, bV s2, bV s3, bV s4]] w (Ret w (.int .u64 (limV pr s0 s1 s2 s3 s4))) := by
 refine calls_W (M := []) (LL := []) (n := 23) Tryz.func90 rfl rfl ma6 (Mem.refl _) (W.seq (fun K1 hK1 => ?_))
 refine W.region (Wl.ht rfl (Ht.box (v := aV [bV s0, bV s1, bV s2, bV s3, bV s4]) (cs := [bV s0, bV s1, bV s2, bV s3, bV s4]) rfl rfl ma0 rfl) (fun p3 => ?_))
 refine Wl.run 1 ma0 (Wl.nil (hK1 _ _ _ (W.prune' [0, 3] [iV .u8 pr, pV p3 0] ma0 (fun f2 => W.seq (fun K3 hK3 => ?_)))))
 refine W.seq (fun K4 hK4 => W.region (Wl.run 1 ma0 (Wl.nil (hK4 _ _ _ ?_))))
 refine W.block (W.seq (fun K5 hK5 => ?_))
 refine W.region (Wl.run 2 ma0 (Wl.nil (hK5 _ _ _ (W.prune' [3, 5, 6] [pV p3 0, iV .u8 pr, bV (pr == 1)] ma0 (fun f6 => ?_)))))
 refine W.cond (pr == 1) ma0 (fun h7 => ?_) (fun h8 => ?_)
 ·refine W.seq (fun K9 hK9 => W.region (Wl.run 1 ma0 (Wl.nil (hK9 _ _ _ ?_))))
  refine W.ret ?_
  show ∀ w_, _ → bodyPostM (fence none) 0 Tryz.prog Tryz.f90 _ Exit.ret _ w_
  exact fun w_ hS_ => fin_ret (ret1 rfl (RV.tmp (v := iV .u64 60) ma0) hS_ ⟨by clear hK1 hK3 hK4 hK5 hK9; refine congrArg Ending.returned ?_; unfold limV; rw [show (pr == 1) = true from h7]; try rfl, hS_.below⟩)
 ·have qh8 := h8; try simp only [zA] at qh8
  refine W.seq (fun K10 hK10 => W.region (Wl.run 2 ma0 (Wl.nil (hK10 _ _ _ ?_))))
  refine W.prune' [3, 5, 8] [pV p3 0, iV .u8 pr, bV (pr == 17)] ma0 (fun f11 => ?_)
  refine W.cond (pr == 17) ma0 (fun h12 => ?_) (fun h13 => ?_)
  ·refine W.seq (fun K14 hK14 => W.region (Wl.run 1 ma0 (Wl.nil (hK14 _ _ _ ?_))))
   refine W.ret ?_
   show ∀ w_, _ → bodyPostM (fence none) 0 Tryz.prog Tryz.f90 _ Exit.ret _ w_
   exact fun w_ hS_ => fin_ret (ret1 rfl (RV.tmp (v := iV .u64 300) ma0) hS_ ⟨by clear hK1 hK3 hK4 hK5 hK10 hK14; refine congrArg Ending.returned ?_; unfold limV; rw [show (pr == 1) = false from h8]; rw [show (pr == 17) = true from h12]; try rfl, hS_.below⟩)
  ·have qh13 := h13; try simp only [zA] at qh13
   refine W.seq (fun K15 hK15 => W.region (Wl.run 2 ma0 (Wl.nil (hK15 _ _ _ ?_))))
   refine W.prune' [3, 10] [pV p3 0, bV (pr == 6)] ma0 (fun f16 => ?_)
   refine W.cond (pr == 6) ma0 (fun h17 => ?_) (fun h18 => ?_)
   ·have qh17 := h17; try simp only [zA] at qh17
    refine W.seq (fun K19 hK19 => W.seq (fun K20 hK20 => ?_))
    refine W.region (Wl.run 1 ma0 (Wl.ys rfl rfl (Ys.l1 p3 0 0 0 Tryz.isAgg4) (Wl.run 1 ma0 ?_)))
    refine Wl.guard (v := pV p3 1) (s0) rfl (wantT rfl ma0) rfl (fun hg21 => ?_) ?_
    ·exact Ys.pure (fun _ => kr)
    refine Wl.guard (v := bV s1) (s0) rfl (wantT rfl ma0) rfl (fun hg22 => ?_) ?_
    ·refine Ys.at (t := 15) (v0 := pV p3 1) (lz (g := s0) (u := undef) hg22 ma0) ?_
     exact Ys.l1 p3 1 0 0 Tryz.isAgg4
    refine Wl.ys (v := bV (s0 && s1)) rfl rfl (Ys.and (e := s0) (b := s1) rfl ma0 ma0 ma0) (Wl.run 1 ma0 ?_)
    refine Wl.guard (v := aV [bV s0, bV s1, bV s2, bV s3, bV s4]) (s0 && s1) rfl (wantT rfl ma0) rfl (fun hg23 => ?_) ?_
    ·exact Ys.loadN (b := p3) (o' := 0) (i := 0) (j := 0) (vs := [bV s0, bV s1, bV s2, bV s3, bV s4]) rfl ma0 Tryz.isAgg72 Tryz.sizeOf72 rfl rfl rfl rfl
    refine Wl.guardc (v := bV (s4 || (s2 && s3))) (s0 && s1) rfl (wantT rfl ma0) rfl (fun hg24 => ?_) ?_
    ·refine Yc.at (t := 19) (v0 := aV [bV s0, bV s1, bV s2, bV s3, bV s4]) (lz (g := s0 && s1) (u := undef) hg24 ma0) ?_
     exact Yc.call (fun _ => kr) (fun w_ hm_ => (over_n s0 s1 s2 s3 s4 _))
    refine Wl.guard (v := bV (!(s4 || (s2 && s3)))) (s0 && s1) rfl (wantT rfl ma0) rfl (fun hg25 => ?_) ?_
    ·refine Ys.at (t := 20) (v0 := bV (s4 || (s2 && s3))) (lz (g := s0 && s1) (u := undef) hg25 ma0) ?_
     exact Ys.pure (fun _ => kr)
    refine Wl.ys (v := bV ((s0 && s1) && (!(s4 || (s2 && s3))))) rfl rfl (Ys.and (e := s0 && s1) (b := !(s4 || (s2 && s3))) rfl ma0 ma0 ma0) (Wl.nil (hK20 _ _ _ (W.pick (LL' := []) [] ma2 rfl (W.prune' [22] [bV ((s0 && s1) && (!(s4 || (s2 && s3))))] ma0 (fun f26 => ?_)))))
    refine W.cond ((s0 && s1) && (!(s4 || (s2 && s3)))) ma0 (fun h27 => ?_) (fun h28 => ?_)
    ·refine W.seq (fun K29 hK29 => W.region (Wl.run 1 ma0 (Wl.nil (hK29 _ _ _ ?_))))
     refine W.ret ?_
     show ∀ w_, _ → bodyPostM (fence none) 0 Tryz.prog Tryz.f90 _ Exit.ret _ w_
     exact fun w_ hS_ => fin_ret (ret1 rfl (RV.tmp (v := iV .u64 7440) ma0) hS_ ⟨by clear hK1 hK3 hK4 hK5 hK10 hK15 hK19 hK20 hK29; refine congrArg Ending.returned ?_; unfold limV; rw [show (pr == 1) = false from h8]; rw [show (pr == 17) = false from h13]; rw [show (pr == 6) = true from h17]; rw [show ((s0 && s1) && (!(s4 || (s2 && s3)))) = true from h27]; try rfl, hS_.below⟩)
    ·refine W.skip' (hK19 _ _ _ (W.prune' [] [] ma0 (fun f30 => W.seq (fun K31 hK31 => W.region ?_))))
     refine Wl.run 1 ma0 (Wl.nil (hK31 _ _ _ (W.ret ?_)))
     show ∀ w_, _ → bodyPostM (fence none) 0 Tryz.prog Tryz.f90 _ Exit.ret _ w_
     exact fun w_ hS_ => fin_ret (ret1 rfl (RV.tmp (v := iV .u64 240) ma0) hS_ ⟨by clear hK1 hK3 hK4 hK5 hK10 hK15 hK19 hK20 hK31; refine congrArg Ending.returned ?_; unfold limV; rw [show (pr == 1) = false from h8]; rw [show (pr == 17) = false from h13]; rw [show (pr == 6) = true from h17]; rw [show ((s0 && s1) && (!(s4 || (s2 && s3)))) = false from h28]; try rfl, hS_.below⟩)
   ·refine W.skip' (hK3 _ _ _ (W.pick (LL' := []) [] ma2 rfl (W.prune' [] [] ma0 (fun f32 => W.seq (fun K33 hK33 => ?_)))))
    refine W.region (Wl.run 1 ma0 (Wl.nil (hK33 _ _ _ (W.ret ?_))))
    show ∀ w_, _ → bodyPostM (fence none) 0 Tryz.prog Tryz.f90 _ Exit.ret _ w_
    exact fun w_ hS_ => fin_ret (ret1 rfl (RV.tmp (v := iV .u64 0) ma0) hS_ ⟨by clear hK1 hK3 hK4 hK5 hK10 hK15 hK33; refine congrArg Ending.returned ?_; unfold limV; rw [show (pr == 1) = false from h8]; rw [show (pr == 17) = false from h13]; rw [show (pr == 6) = false from h18]; try rfl, hS_.below⟩)
abbrev cLb4_1949_0 (e : SesE) (now : Int) (out : Bool) (xb : Nat) : List Blk := [cb xb [iV .u8 e.pr, iV .u32 e.src, iV .u32 e.dst, iV .u16 e.frm, iV .u16 e.dto, iV .u16 e.ext, iV .u64 (iadd .u64 now (limV e.pr e.s0 e.s1 e.s2 e.s3 e.s4)), bV (e.lan || out), bV e.s0, bV e.s1, bV e.s2, bV e.s3, bV e.s4, iV .u64 e.id, bV e.given] 113]
abbrev cLb4_1949_1 (e : SesE) (out : Bool) (xb : Nat) : List Blk := [cb xb [iV .u8 e.pr, iV .u32 e.src, iV .u32 e.dst, iV .u16 e.frm, iV .u16 e.dto, iV .u16 e.ext, iV .u64 18446744073709551615, bV (e.lan || out), bV e.s0, bV e.s1, bV e.s2, bV e.s3, bV e.s4, iV .u64 e.id, bV e.given] 113]
abbrev cLb4_1949_2 (e : SesE) (out : Bool) (xb : Nat) : List Blk := [cb xb [iV .u8 e.pr, iV .u32 e.src, iV .u32 e.dst, iV .u16 e.frm, iV .u16 e.dto, iV .u16 e.ext, iV .u64 e.ends, bV (e.lan || out), bV e.s0, bV e.s1, bV e.s2, bV e.s3, bV e.s4, iV .u64 e.id, bV e.given] 113]
abbrev cLb4_1949_3 (e : SesE) (xb : Nat) : List Blk := [cb xb [iV .u8 e.pr, iV .u32 e.src, iV .u32 e.dst, iV .u16 e.frm, iV .u16 e.dto, iV .u16 e.ext, iV .u64 e.ends, bV e.lan, bV e.s0, bV e.s1, bV e.s2, bV e.s3, bV e.s4, iV .u64 e.id, bV e.given] 113]
theorem renew_n (k : NK) (s : NS) (M : List Nat) (e : SesE) (xb : Nat) (ttl pro pid src dst : Int) (ba : Option Addr) (bl bc : Nat) (now fl : Int) (out sg : Bool) (w : World) (ok : NOk k s) (hl : Mem w M [NG k s, [entB (xb, e)]] w) (hw : s.p.ws.length ≤ 80000) (hfl : ∀ LL w1, Mem w M LL w1 → Calls Tryz.prog 88 #[pkG ttl pro pid src dst ba bl bc] w1 (Ret w1 (.tuple #[.int .u8 fl, .bool false]))) : Calls Tryz.prog 44 #[Value.pointer (some ⟨k.nb, 0, none⟩), pV xb 0, aV [iV .u8 ttl, iV .u8 pro, iV .u16 pid, iV .u32 src, iV .u32 dst, Value.slice ba bl bc], iV .u64 now, bV out] w (RetM w (fun r : NS × SesE => NOk k r.1 ∧ RenE e now out r.2 ∧ r.1.p = { s.p with ws := setS s.p.ws e.id r.2.ends }) (fun _ => .tuple #[]) M (fun r => [NG k r.1, [entB (xb, r.2)]])) := by
 obtain ⟨lxs, lys, lzs, lms, lfs⟩ := NOk.len ok
 refine calls_W (M := M) (LL := [NG k s, cLb4_1949_3 e xb]) (n := 87) Tryz.func44 rfl rfl ma6 (hl) (W.seq (fun K1 hK1 => ?_))
 refine W.region (Wl.ht rfl (Ht.box (v := aV [iV .u8 ttl, iV .u8 pro, iV .u16 pid, iV .u32 src, iV .u32 dst, Value.slice ba bl bc]) (cs := [iV .u8 ttl, iV .u8 pro, iV .u16 pid, iV .u32 src, iV .u32 dst, Value.slice ba bl bc]) rfl rfl ma0 rfl) (fun p7 => ?_))
 refine Wl.nil (hK1 _ _ _ (W.seq (fun K2 hK2 => W.seq (fun K3 hK3 => W.region ?_))))
 refine Wl.ys rfl rfl (Ys.loadN (b := p7) (o' := 0) (i := 0) (j := 0) (vs := [iV .u8 ttl, iV .u8 pro, iV .u16 pid, iV .u32 src, iV .u32 dst, Value.slice ba bl bc]) rfl ma0 Tryz.isAgg40 Tryz.sizeOf40 rfl rfl rfl rfl) (Wl.yc (v := Value.tuple #[iV .u8 fl, bV false]) rfl rfl (Yc.call (fun _ => kr) (fun w_ hm_ => (hfl _ _ hm_))) (Wl.run 5 ma0 (Wl.nil (hK3 _ _ _ ?_))))
 refine W.pick (LL' := [NG k s, cLb4_1949_3 e xb]) [1, 2] ma2 rfl (W.prune' [0, 1, 3, 4, 10, 11] [Value.pointer (some ⟨k.nb, 0, none⟩), pV xb 0, iV .u64 now, bV out, iV .u8 fl, bV false] ma0 (fun f4 => ?_))
 refine W.seq (fun K5 hK5 => W.region (Wl.run 1 ma0 (Wl.nil (hK5 _ _ _ ?_))))
 refine W.condF ma0 (W.skip' (hK2 _ _ _ (W.prune' [0, 1, 3, 4] [Value.pointer (some ⟨k.nb, 0, none⟩), pV xb 0, iV .u64 now, bV out] ma0 (fun f6 => W.seq (fun K7 hK7 => ?_)))))
 refine W.region (Wl.run 5 ma0 (Wl.ys rfl rfl (Ys.l1 xb 7 1 0 Tryz.isAgg4) (Wl.run 1 ma0 ?_)))
 refine Wl.guard (v := bV out) (!e.lan) rfl (wantF rfl ma0) rfl (fun hg8 => ?_) ?_
 ·exact Ys.pure (fun _ => kr)
 refine Wl.ys (v := bV (e.lan || out)) rfl rfl (Ys.or' (e := e.lan) (b := out) rfl ma0 ma0 ma0) (Wl.run 3 ma0 (Wl.ht rfl (Ht.store (b := xb) (o' := 7) (i := 1) (j := 0) (v := bV (e.lan || out)) (LL' := [NG k s, cLb4_1949_2 e out xb]) rfl rfl ma0 ma0 Tryz.sizeOf4 rfl rfl rfl ma6 rfl rfl) (fun _ => Wl.nil (hK7 _ _ _ ?_))))
 refine W.prune' [0, 1, 3] [Value.pointer (some ⟨k.nb, 0, none⟩), pV xb 0, iV .u64 now] ma0 (fun f9 => W.seq (fun K10 hK10 => ?_))
 refine W.draws [(0, true), (1, true), (2, true), (3, true), (4, true), (5, true), (6, false), (7, false), (8, false), (9, false), (10, false), (11, false), (12, false)] [0, 1, 2, 3, 4, 5] (Mem w M [NG k s, cLb4_1949_2 e out xb]) ma0 ma0 ma0 rfl ma0 (fun _ _ h_ => h_.drawn _) (fun _ h_ => h_) (Wd.run 5 ma0 (Wd.ys rfl rfl rfl (Ys.l1 xb 0 1 0 Tryz.isAgg5) (Wd.yc (v := pV xb 0) rfl rfl rfl (Ys.yc (Ys.pure (fun _ => kr))) (.inr fun _ h_ => h_) (Wd.yc (v := pV xb 0) rfl rfl rfl (Ys.yc (Ys.pure (fun _ => kr))) (.inr fun _ h_ => h_) ?_))))
 refine Wd.yc (v := pV xb 0) rfl rfl rfl (Ys.yc (Ys.pure (fun _ => kr))) (.inr fun _ h_ => h_) (Wd.yc (v := pV xb 8) rfl rfl rfl (Ys.yc (Ys.pure (fun _ => kr))) (.inr fun _ h_ => h_) (Wd.yc (v := aV [bV e.s0, bV e.s1, bV e.s2, bV e.s3, bV e.s4]) rfl rfl rfl (Ys.yc (Ys.loadN (b := xb) (o' := 8) (i := 1) (j := 0) (vs := [bV e.s0, bV e.s1, bV e.s2, bV e.s3, bV e.s4]) rfl ma0 Tryz.isAgg72 Tryz.sizeOf72 rfl rfl rfl rfl)) (.inr fun _ h_ => h_) (Wd.yc (v := iV .u64 (limV e.pr e.s0 e.s1 e.s2 e.s3 e.s4)) rfl rfl rfl (Yc.call (fun _ => kr) (fun w_ hm_ => (limit_n e.pr e.s0 e.s1 e.s2 e.s3 e.s4 _))) (.inr fun _ h_ => h_) (Wd.yc (v := iV .u64 (limV e.pr e.s0 e.s1 e.s2 e.s3 e.s4)) rfl rfl rfl (Ys.yc (Ys.pure (fun _ => kr))) (.inl ma0) ?_))))
 refine Wd.nil (hK10 _ _ _ (W.prune' [0, 1, 3, 12] [Value.pointer (some ⟨k.nb, 0, none⟩), pV xb 0, iV .u64 now, iV .u64 (limV e.pr e.s0 e.s1 e.s2 e.s3 e.s4)] ma0 (fun f11 => W.seq (fun K12 hK12 => W.region ?_))))
 refine Wl.run 7 ma0 (Wl.ht rfl (Ht.store (b := xb) (o' := 6) (i := 1) (j := 0) (v := iV .u64 (iadd .u64 now (limV e.pr e.s0 e.s1 e.s2 e.s3 e.s4))) (LL' := [NG k s, cLb4_1949_0 e now out xb]) rfl rfl ma0 ma0 Tryz.sizeOf45 rfl rfl rfl ma6 rfl rfl) (fun _ => ?_))
 refine Wl.nil (hK12 _ _ _ (W.prune' [0, 1, 3] [Value.pointer (some ⟨k.nb, 0, none⟩), pV xb 0, iV .u64 now] ma0 (fun f13 => W.seq (fun K14 hK14 => W.seq (fun K15 hK15 => ?_)))))
 refine W.region (Wl.run 4 ma0 (Wl.ys rfl rfl (Ys.l1 xb 6 1 0 Tryz.isAgg45) (Wl.run 2 ma0 (Wl.nil ?_))))
 refine hK15 _ _ _ (W.prune' [0, 1, 68] [Value.pointer (some ⟨k.nb, 0, none⟩), pV xb 0, bV (decide ((iadd .u64 now (limV e.pr e.s0 e.s1 e.s2 e.s3 e.s4)) < now))] ma0 (fun f16 => ?_))
 refine W.cond (decide ((iadd .u64 now (limV e.pr e.s0 e.s1 e.s2 e.s3 e.s4)) < now)) ma0 (fun h17 => ?_) (fun h18 => ?_)
 ·have qh17 := h17; try simp only [zA] at qh17
  refine W.region (Wl.run 4 ma0 (Wl.ht rfl (Ht.store (b := xb) (o' := 6) (i := 1) (j := 0) (v := iV .u64 18446744073709551615) (LL' := [NG k s, cLb4_1949_1 e out xb]) rfl rfl ma0 ma0 Tryz.sizeOf45 rfl rfl rfl ma6 rfl rfl) (fun _ => Wl.nil (hK14 _ _ _ ?_))))
  refine W.prune' [0, 1] [Value.pointer (some ⟨k.nb, 0, none⟩), pV xb 0] ma0 (fun f19 => W.draws [(0, true), (1, true), (2, true), (3, true), (4, true), (5, true), (6, true), (7, true), (8, false), (9, false), (10, false), (11, false), (12, false), (13, false)] [0, 1, 2, 3, 4, 5, 6, 7] (fun w_ => ∃ s_ : NS, Mem w M [NG k s_, cLb4_1949_1 e out xb] w_) ma0 ma0 ma0 rfl ma0 (fun _ _ h_ => h_.drawn _) (fun _ h_ => ⟨_, h_⟩) (Wd.run 3 ma0 (Wd.ys rfl rfl rfl (Ys.ex (fun s_ => Ys.load (b := k.nb) (o' := 287) (i := 0) (j := 0) (cs := natL k s_) (v := Value.pointer (some ⟨k.wb, 0, none⟩)) rfl ma0 Tryz.isAgg83 rfl rfl ((natC_hi rfl 0).trans rfl))) (Wd.run 3 ma0 ?_))))
  refine Wd.ys rfl rfl rfl (Ys.ex (fun s_ => Ys.load (b := xb) (o' := 13) (i := 1) (j := 0) (v := iV .u64 e.id) rfl ma0 Tryz.isAgg45 rfl rfl rfl)) (Wd.yc (v := pV xb 0) rfl rfl rfl (Ys.yc (Ys.pure (fun _ => kr))) (.inr fun _ h_ => ⟨_, h_⟩) (Wd.yc (v := pV xb 0) rfl rfl rfl (Ys.yc (Ys.pure (fun _ => kr))) (.inr fun _ h_ => ⟨_, h_⟩) (Wd.yc (v := pV xb 0) rfl rfl rfl (Ys.yc (Ys.pure (fun _ => kr))) (.inr fun _ h_ => ⟨_, h_⟩) (Wd.yc (v := pV xb 6) rfl rfl rfl (Ys.yc (Ys.pure (fun _ => kr))) (.inr fun _ h_ => ⟨_, h_⟩) ?_))))
  refine Wd.yc (v := iV .u64 18446744073709551615) rfl rfl rfl (Ys.yc (Ys.l1 xb 6 1 0 Tryz.isAgg45)) (.inr fun _ h_ => ⟨_, h_⟩) (Wd.htS rfl rfl (HtS.call (β := NS) (k := 91) (args := #[Value.pointer (some ⟨k.wb, 0, none⟩), iV .u64 e.id, iV .u64 18446744073709551615]) (Lin := [NG k s]) (Lk := [cLb4_1949_1 e out xb]) (Lo := fun s20 => [NG k s20, cLb4_1949_1 e out xb]) [0] [1] rfl (fun _ => kr) ma2 rfl rfl rfl (fun w_ hm_ hl_ => (wset_n e.id 18446744073709551615 ok (by have z_ := hw; omega) hl_)) (fun _ => rfl)) (.inr fun _ _ h_ => ⟨_, h_⟩) (fun s20 hx24 => ?_))
  obtain ⟨ok21, hp22⟩ := hx24
  obtain ⟨lxs20, lys20, lzs20, lms20, lfs20⟩ := NOk.len ok21
  refine Wd.nil ?_
  show ∀ w_, _ → bodyPostM (fence none) 0 Tryz.prog Tryz.f44 _ Exit.normal _ w_
  exact fun w_ hS_ => fin_normal (ret0 rfl  ⟨(s20, (⟨e.pr, e.src, e.dst, e.frm, e.dto, e.ext, 18446744073709551615, e.lan || out, e.s0, e.s1, e.s2, e.s3, e.s4, e.id, e.given⟩ : SesE)), ⟨ok21, ⟨rfl, rfl, rfl, rfl, rfl, rfl, rfl, rfl, rfl, (fun h_ => by unfold endU; rw [h_, limV_udp] at h17; rw [h17] <;> rfl)⟩, by rw [hp22] <;> rfl⟩, rfl, (hS_.pick [0, 1] ma2 rfl)⟩)
 ·have qh18 := h18; try simp only [zA] at qh18
  refine W.skip' (hK14 _ _ _ (W.prune' [0, 1] [Value.pointer (some ⟨k.nb, 0, none⟩), pV xb 0] ma0 (fun f25 => W.draws [(0, true), (1, true), (2, true), (3, true), (4, true), (5, true), (6, true), (7, true), (8, false), (9, false), (10, false), (11, false), (12, false), (13, false)] [0, 1, 2, 3, 4, 5, 6, 7] (fun w_ => ∃ s_ : NS, Mem w M [NG k s_, cLb4_1949_0 e now out xb] w_) ma0 ma0 ma0 rfl ma0 (fun _ _ h_ => h_.drawn _) (fun _ h_ => ⟨_, h_⟩) (Wd.run 3 ma0 ?_))))
  refine Wd.ys rfl rfl rfl (Ys.ex (fun s_ => Ys.load (b := k.nb) (o' := 287) (i := 0) (j := 0) (cs := natL k s_) (v := Value.pointer (some ⟨k.wb, 0, none⟩)) rfl ma0 Tryz.isAgg83 rfl rfl ((natC_hi rfl 0).trans rfl))) (Wd.run 3 ma0 (Wd.ys rfl rfl rfl (Ys.ex (fun s_ => Ys.load (b := xb) (o' := 13) (i := 1) (j := 0) (v := iV .u64 e.id) rfl ma0 Tryz.isAgg45 rfl rfl rfl)) (Wd.yc (v := pV xb 0) rfl rfl rfl (Ys.yc (Ys.pure (fun _ => kr))) (.inr fun _ h_ => ⟨_, h_⟩) (Wd.yc (v := pV xb 0) rfl rfl rfl (Ys.yc (Ys.pure (fun _ => kr))) (.inr fun _ h_ => ⟨_, h_⟩) ?_))))
  refine Wd.yc (v := pV xb 0) rfl rfl rfl (Ys.yc (Ys.pure (fun _ => kr))) (.inr fun _ h_ => ⟨_, h_⟩) (Wd.yc (v := pV xb 6) rfl rfl rfl (Ys.yc (Ys.pure (fun _ => kr))) (.inr fun _ h_ => ⟨_, h_⟩) (Wd.yc (v := iV .u64 (iadd .u64 now (limV e.pr e.s0 e.s1 e.s2 e.s3 e.s4))) rfl rfl rfl (Ys.yc (Ys.l1 xb 6 1 0 Tryz.isAgg45)) (.inr fun _ h_ => ⟨_, h_⟩) (Wd.htS rfl rfl (HtS.call (β := NS) (k := 91) (args := #[Value.pointer (some ⟨k.wb, 0, none⟩), iV .u64 e.id, iV .u64 (iadd .u64 now (limV e.pr e.s0 e.s1 e.s2 e.s3 e.s4))]) (Lin := [NG k s]) (Lk := [cLb4_1949_0 e now out xb]) (Lo := fun s26 => [NG k s26, cLb4_1949_0 e now out xb]) [0] [1] rfl (fun _ => kr) ma2 rfl rfl rfl (fun w_ hm_ hl_ => (wset_n e.id (iadd .u64 now (limV e.pr e.s0 e.s1 e.s2 e.s3 e.s4)) ok (by have z_ := hw; omega) hl_)) (fun _ => rfl)) (.inr fun _ _ h_ => ⟨_, h_⟩) (fun s26 hx30 => ?_))))
  obtain ⟨ok27, hp28⟩ := hx30
  obtain ⟨lxs26, lys26, lzs26, lms26, lfs26⟩ := NOk.len ok27
  refine Wd.nil ?_
  show ∀ w_, _ → bodyPostM (fence none) 0 Tryz.prog Tryz.f44 _ Exit.normal _ w_
  exact fun w_ hS_ => fin_normal (ret0 rfl  ⟨(s26, (⟨e.pr, e.src, e.dst, e.frm, e.dto, e.ext, iadd .u64 now (limV e.pr e.s0 e.s1 e.s2 e.s3 e.s4), e.lan || out, e.s0, e.s1, e.s2, e.s3, e.s4, e.id, e.given⟩ : SesE)), ⟨ok27, ⟨rfl, rfl, rfl, rfl, rfl, rfl, rfl, rfl, rfl, (fun h_ => by unfold endU; have z_ := h18; rw [h_, limV_udp] at z_; rw [z_, h_, limV_udp] <;> rfl)⟩, by rw [hp28] <;> rfl⟩, rfl, (hS_.pick [0, 1] ma2 rfl)⟩)
end Go.Proofs.YtmonlaoaengfdaaGreatDoor.Oct
namespace Go.Proofs.YtmonlaoaengfdaaGreatDoor.Oct
open Go.RowKit Base
attribute [local irreducible] Ys Yc Ht HtS HtIn Wl Wd W Mem pf dpf Wa Wo
def fnd (xs : List Conf.Fwd) (proto ext : Int) : Bool := (Conf.find (fun k => xs.getD k fz) proto ext xs.length).2
def fndV (xs : List Conf.Fwd) (proto ext : Int) : Conf.Fwd := (Conf.find (fun k => xs.getD k fz) proto ext xs.length).1
theorem findL_c (c : Conf.Cfg) (xs : List Conf.Fwd) (fa : Option Addr) (fc : Nat) (a b : Int) (w : World) (hfx : At w fa (mm Conf.fwv xs)) (hf0 : xs.length = 0) : Calls Tryz.prog 75 #[aV [iV .u8 c.lm0, iV .u8 c.lm1, iV .u8 c.lm2, iV .u8 c.lm3, iV .u8 c.lm4, iV .u8 c.lm5, iV .u8 c.wm0, iV .u8 c.wm1, iV .u8 c.wm2, iV .u8 c.wm3, iV .u8 c.wm4, iV .u8 c.wm5, iV .u8 c.hm0, iV .u8 c.hm1, iV .u8 c.hm2, iV .u8 c.hm3, iV .u8 c.hm4, iV .u8 c.hm5, iV .u32 c.lan, iV .u32 c.wan, iV .i64 c.bits, iV .i64 c.ms, iV .i64 c.mm, iV .i64 c.mc, iV .i64 c.mu, Value.slice fa xs.length fc, iV .u32 c.dmz, Value.string c.uu], iV .u8 a, iV .u16 b] w (Ret w (.tuple #[.agg (Conf.fwv (fndV xs a b)).toArray, .bool (fnd xs a b)])) := by
 refine calls_W (M := []) (LL := []) (n := 30) Tryz.func75 rfl rfl ma6 (Mem.refl _) (W.seq (fun K1 hK1 => ?_))
 refine W.region (Wl.ht rfl (Ht.box (v := aV [iV .u8 c.lm0, iV .u8 c.lm1, iV .u8 c.lm2, iV .u8 c.lm3, iV .u8 c.lm4, iV .u8 c.lm5, iV .u8 c.wm0, iV .u8 c.wm1, iV .u8 c.wm2, iV .u8 c.wm3, iV .u8 c.wm4, iV .u8 c.wm5, iV .u8 c.hm0, iV .u8 c.hm1, iV .u8 c.hm2, iV .u8 c.hm3, iV .u8 c.hm4, iV .u8 c.hm5, iV .u32 c.lan, iV .u32 c.wan, iV .i64 c.bits, iV .i64 c.ms, iV .i64 c.mm, iV .i64 c.mc, iV .i64 c.mu, Value.slice fa xs.length fc, iV .u32 c.dmz, Value.string c.uu]) (cs := [iV .u8 c.lm0, iV .u8 c.lm1, iV .u8 c.lm2, iV .u8 c.lm3, iV .u8 c.lm4, iV .u8 c.lm5, iV .u8 c.wm0, iV .u8 c.wm1, iV .u8 c.wm2, iV .u8 c.wm3, iV .u8 c.wm4, iV .u8 c.wm5, iV .u8 c.hm0, iV .u8 c.hm1, iV .u8 c.hm2, iV .u8 c.hm3, iV .u8 c.hm4, iV .u8 c.hm5, iV .u32 c.lan, iV .u32 c.wan, iV .i64 c.bits, iV .i64 c.ms, iV .i64 c.mm, iV .i64 c.mc, iV .i64 c.mu, Value.slice fa xs.length fc, iV .u32 c.dmz, Value.string c.uu]) rfl rfl ma0 rfl) (fun p3 => ?_))
 refine Wl.ht rfl (Ht.alloc (z := aV zl4) (cs := zl4) rfl rfl Tryz.zeroValue65 rfl) (fun p6 => Wl.run 1 ma0 (Wl.nil (hK1 _ _ _ (W.prune' [1, 2, 3, 6] [iV .u8 a, iV .u16 b, pV p3 0, pV p6 0] ma0 (fun f2 => ?_)))))
 refine W.seq (fun K3 hK3 => W.seq (fun K4 hK4 => ?_))
 refine W.region (Wl.run 1 ma0 (Wl.ys rfl rfl (Ys.l1 p3 25 1 0 Tryz.isAgg30) (Wl.run 2 ma0 (Wl.nil ?_))))
 refine hK4 _ _ _ (W.pick (LL' := [[cb p6 zl4 65]]) [0] ma2 rfl (W.prune' [1, 2, 6, 11, 12, 13] [iV .u8 a, iV .u16 b, pV p6 0, Value.slice fa xs.length fc, nV .i64 xs.length, iV .i64 0] ma0 (fun f5 => W.block (W.loop1 [1, 2, 6, 11, 12, 13] (fun (i : Nat) => [iV .u8 a, iV .u16 b, pV p6 0, Value.slice fa xs.length fc, nV .i64 xs.length, nV .i64 i]) (fun (i : Nat) => i ≤ xs.length) (fun (i : Nat) => [[cb p6 zl4 65]]) (fun (i : Nat) => xs.length - i) 0 ma0 (Nat.zero_le _) (by rfl) (fun i f7 J6 hp8 hJ6 => ?_)))))
 have hi := hp8
 refine W.seq (fun K9 hK9 => W.region (Wl.run 1 ma0 (Wl.nil (hK9 _ _ _ ?_))))
 refine W.seq (fun K10 hK10 => ?_)
 refine W.cond (decide (((i : Nat) : Int) < (xs.length : Int))) ma0 (fun h11 => ?_) (fun h12 => ?_)
 ·have qh11 := h11; try simp only [zA] at qh11
  exfalso; have z_ := of_decide_eq_true h11; omega
 ·have qh12 := h12; try simp only [zA] at qh12
  refine W.exit (hK3 _ _ _ (W.prune' [6] [pV p6 0] ma0 (fun f13 => W.seq (fun K14 hK14 => W.region ?_))))
  refine Wl.run 1 ma0 (Wl.ht rfl (Ht.storeN (b := p6) (o' := 0) (i := 0) (j := 0) (vs := zl4) (LL' := [[cb p6 zl4 65]]) rfl rfl ma0 ma0 Tryz.sizeOf65 ma7 rfl rfl ma6 rfl rfl) (fun _ => ?_))
  refine Wl.run 1 ma0 (Wl.nil (hK14 _ _ _ (W.prune' [6, 7] [pV p6 0, bV false] ma0 (fun f15 => W.ret ?_))))
  show ∀ w_, _ → bodyPostM (fence none) 0 Tryz.prog Tryz.f75 _ Exit.ret _ w_
  exact fun w_ hS_ => fin_ret (ret2 rfl (RV.cellN (b := p6) (o' := 0) (i := 0) (j := 0) (cs := zl4) (vs := zl4) ma0 Tryz.isAgg65 Tryz.sizeOf65 rfl rfl rfl rfl) (RV.tmp (v := bV false) ma0) hS_ ⟨by clear hK1 hK3 hK4 hJ6 hK9 hK10 hK14; refine congrArg Ending.returned ?_; rw [List.length_eq_zero_iff.1 hf0]; rfl, hS_.below⟩)
open Conf (Fwd fwv)
structure NAt (k : NK) (s : NS) (w : World) : Prop where
  nat : At w (some ⟨k.nb, 0, none⟩) (natL k s)
  ms : At w s.gm.a (mm mpM s.p.ms)
  fx : At w k.gf.a (mm fwv k.fx)
  atS : At w (some ⟨k.ts, 0, none⟩) [Value.slice s.gs.a s.p.xs.length s.gs.cap, Value.int .i64 k.mo, Value.func (.func 31) #[] #[]]
  atN : At w (some ⟨k.ti, 0, none⟩) [Value.slice s.gi.a s.p.ys.length s.gi.cap, Value.int .i64 k.mo, Value.func (.func 35) #[] #[]]
  atD : At w (some ⟨k.te, 0, none⟩) [Value.slice s.ge.a s.p.zs.length s.ge.cap, Value.int .i64 k.mo, Value.func (.func 33) #[] #[]]
  xs : At w s.gs.a (mm prS s.p.xs)
  ys : At w s.gi.a (mm prN s.p.ys)
  zs : At w s.ge.a (mm prD s.p.zs)
  ent : ∀ (j b : Nat) (e : SesE), s.p.es[j]? = some (b, e) → At w (some ⟨b, 0, none⟩) (sesC e)
theorem NG.rd {w0 w : World} {M : List Nat} {LL : List (List Blk)} {k : NK} {s : NS} {i : Nat} (h : Mem w0 M LL w) (hi : LL[i]? = some (NG k s)) (ok : NOk k s) : NAt k s w :=
  ⟨NG.nat h hi, NG.ms h hi ok, NG.fx h hi ok, NG.atS h hi, NG.atN h hi, NG.atD h hi, NG.xs h hi ok, NG.ys h hi ok, NG.zs h hi ok, fun _ _ _ hj => NG.ent h hi hj⟩
theorem NAt.of {k : NK} {s : NS} {w : World} (ha : NAt k s w) : NAt k s w := ha
def ruQ (pr pt : Int) (m : Mpg) : Bool := (m.proto == pr) && (m.ext == pt)
def ruV (ms : List Mpg) (fx : List Conf.Fwd) (pr pt : Int) : Bool := fnd fx pr pt || ms.any (ruQ pr pt)
def hoM (e : SesE) (m : Mpg) : Bool := ((((m.proto == e.pr) && (m.ext == e.ext)) && (m.host == e.src)) && (m.to == e.frm)) && ((m.remote == 0) || (m.remote == e.dst))
def hoV (ms : List Mpg) (fx : List Conf.Fwd) (e : SesE) : Bool := bif e.given then !ruV ms fx e.pr e.ext else (ms.any (hoM e) || ((fnd fx e.pr e.ext && ((fndV fx e.pr e.ext).host == e.src)) && ((fndV fx e.pr e.ext).dest == e.frm)))
def flE (e : SesE) : FlwT := (e.pr, e.src, e.dst, e.frm, e.dto)
def pxE (x : Nat × SesE) : FlwT × Option Nat := (flE x.2, some x.1)
abbrev se0 : SesE := ⟨0, 0, 0, 0, 0, 0, 0, false, false, false, false, false, false, 0, false⟩
def knQ (f : FlwT) (x : Nat × SesE) : Bool := (((x.2.pr == f.1) && (x.2.ext == f.2.2.2.2)) && (x.2.dst == f.2.1)) && (x.2.dto == f.2.2.2.1)
def knF (f : FlwT) (es : List (Nat × SesE)) : Option (Nat × SesE) := es.find? (knQ f)
theorem tie_at {es : List (Nat × SesE)} {xs : List (FlwT × Option Nat)} (h : xs = es.map pxE) {i : Nat} (hi : i < xs.length) : i < es.length ∧ ∃ b e, es[i]? = some (b, e) ∧ es.getD i (0, se0) = (b, e) ∧ xs.getD i dS = (flE e, some b) := by
  subst h
  have hl : i < es.length := by simpa using hi
  refine ⟨hl, es[i].1, es[i].2, List.getElem?_eq_getElem hl, ?_, ?_⟩
  · rw [List.getD_eq_getElem?_getD, List.getElem?_eq_getElem hl]; rfl
  · rw [List.getD_eq_getElem?_getD, List.getElem?_map, List.getElem?_eq_getElem hl]; rfl
theorem NAt.mem0 {k : NK} {s : NS} {w w' : World} {LL : List (List Blk)} (ha : NAt k s w) (h : Mem w [] LL w') : NAt k s w' :=
  ⟨ha.nat.mem0 h, ha.ms.mem0 h, ha.fx.mem0 h, ha.atS.mem0 h, ha.atN.mem0 h, ha.atD.mem0 h, ha.xs.mem0 h, ha.ys.mem0 h, ha.zs.mem0 h, fun j b e hj => (ha.ent j b e hj).mem0 h⟩
end Go.Proofs.YtmonlaoaengfdaaGreatDoor.Oct
