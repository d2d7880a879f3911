import Derived.Test.YtejeafjkhomdoaaKRe3p
set_option linter.unusedVariables false
set_option linter.unusedSimpArgs false
set_option maxRecDepth 20000
namespace Go.Proofs.Ytejeafjkhomdoaa.Oct
open Go.RowKit Base
attribute [local irreducible] Ys Yc Ht HtS HtIn Wl Wd W Mem pf dpf Wa Wo
abbrev cRe3_1648_0 (nd nf ns nt p3 : Nat) (np : UInt8) : List Blk := [cb p3 [nV .u8 np.toNat, nV .u32 ns, nV .u32 nd, nV .u16 nf, nV .u16 nt] 30]
set_option maxHeartbeats 1000000 in
theorem rretU_c (zs : List UInt8) (a : Option Addr) (cap : Nat) (np : UInt8) (ns nd nf nt : Nat) (w : World) (hat : At w a (byc zs)) (h0 : 28 ≤ zs.length) (hz : zs.length ≤ 1000000) (hlc : zs.length ≤ cap) (h8 : isI (zs.getD 9 0) = true → zs.getD 20 0 = 8 ∨ zs.getD 20 0 = 0) (hns : ns < 4294967296) (hnd : nd < 4294967296) (hnf : nf < 65536) (hnt : nt < 65536) (hU_ : ((((zs.getD 9 0).toNat : Int) == 17) && (((w2 zs 26 : Nat) : Int) != 0)) = true) : Calls Try.prog 42 #[Value.slice a zs.length cap, aV [nV .u8 np.toNat, nV .u32 ns, nV .u32 nd, nV .u16 nf, nV .u16 nt]] w (RetM w (fun g : FS => g.ok 1 zs.length ∧ g.nil = false) (fun g => .slice g.a zs.length g.cap) [] (fun g => [g.seg 5 (byc (rtB (zs.getD 9 0) (a4 zs 12) (a4 zs 16) (w2 zs 20) (w2 zs 22) ns nd nf nt zs))])) := by
 have hcl_ := hlc; have qhU_ := hU_; simp only [Bool.and_eq_true, bne_iff_ne, beq_iff_eq] at qhU_
 refine calls_W (M := []) (LL := []) (n := 128) Try.func42 rfl rfl ma12 (Mem.refl _) (W.seq (fun K1 hK1 => ?_))
 refine W.region (Wl.ht rfl (Ht.box (v := aV [nV .u8 np.toNat, nV .u32 ns, nV .u32 nd, nV .u16 nf, nV .u16 nt]) (cs := [nV .u8 np.toNat, nV .u32 ns, nV .u32 nd, nV .u16 nf, nV .u16 nt]) rfl rfl ma0 rfl) (fun p3 => ?_))
 refine Wl.run 1 ma0 (Wl.nil (hK1 _ _ _ (W.seq (fun K2 hK2 => W.region ?_))))
 refine Wl.ht rfl (Ht.made (mk := fun b_ => .slice (some ⟨b_, 0, none⟩) 0 0) (t := 5) (cs := []) rfl (fun _ => kr)) (fun p12 => Wl.run 1 ma0 (Wl.htS rfl (HtS.append (eu := 5) (xv := Value.slice a zs.length cap) (i := 0) (g := (FS.mk false p12 0 [])) (e := 5) (ii := (Try.prog.info? 5).getD default) (z := iV .u8 0) (sz := 1) (bytes := 1) (nn := 0) (m := zs.length) (k := zs.length) (xs := mc b8 []) (news := mc b8 zs) (cs' := mc b8 zs) (Lo := fun g3 => [g3.seg 5 (mc b8 zs), cRe3_1648_0 nd nf ns nt p3 np]) rfl rfl ma0 ma0 ma0 ma0 ma0 ma0 ma0 ma0 ma0 rfl (FS.lit_ok ma3) ma23 (fun _ => rfl) (Src.at (a := a) (mc_len1 _) (fun w_ h_ => (hat.mem0 h_))) (mc_len1 _) (mc_one (fun _ => rfl) _) ma4 ma10 ma4 rfl (fun _ => rfl)) (fun g3 hx8 => ?_)))
 obtain ⟨ok4, hn5, hn6⟩ := hx8
 refine Wl.run 1 ma0 (Wl.nil (hK2 _ _ _ (W.seq (fun K9 hK9 => W.region ?_))))
 refine Wl.run 1 ma0 (Wl.ys rfl rfl (Ys.l1 p3 1 1 0 Try.isAgg24) (Wl.ys (v := nV .u32 (ns / 65536)) rfl rfl ((Ys.pure (v := .int .u32 (iquo .u32 (ns : Int) ((65536 : Nat) : Int))) (fun _ => kr)).conseq (int_congr (iquo_natu rfl ma24))) (Wl.ys (v := nV .u16 (hw ns)) rfl rfl (Ys.conseq (v := nV .u16 ((ns / 65536) % 65536)) (int_congr (rfl)) ((Ys.pure (v := .int .u16 (icnv .u16 ((ns / 65536 : Nat) : Int))) (fun _ => kr)).conseq (int_congr (icnv_mod rfl _)))) (Wl.run 1 ma0 ?_))))
 refine Wl.ys rfl rfl (Ys.l1 p3 1 1 0 Try.isAgg24) (Wl.ys (v := nV .u32 (ns % 65536)) rfl rfl ((Ys.pure (v := .int .u32 (irem (ns : Int) ((65536 : Nat) : Int))) (fun _ => kr)).conseq (int_congr (rfl))) (Wl.ys (v := nV .u16 (lw ns)) rfl rfl (Ys.conseq (v := nV .u16 ((ns % 65536) % 65536)) (int_congr (congrArg (fun n : Nat => (n : Int)) (Nat.mod_mod _ _))) ((Ys.pure (v := .int .u16 (icnv .u16 ((ns % 65536 : Nat) : Int))) (fun _ => kr)).conseq (int_congr (icnv_mod rfl _)))) (Wl.run 1 ma0 (Wl.ys rfl rfl (Ys.l1 p3 2 1 0 Try.isAgg24) ?_))))
 refine Wl.ys (v := nV .u32 (nd / 65536)) rfl rfl ((Ys.pure (v := .int .u32 (iquo .u32 (nd : Int) ((65536 : Nat) : Int))) (fun _ => kr)).conseq (int_congr (iquo_natu rfl ma24))) (Wl.ys (v := nV .u16 (hw nd)) rfl rfl (Ys.conseq (v := nV .u16 ((nd / 65536) % 65536)) (int_congr (rfl)) ((Ys.pure (v := .int .u16 (icnv .u16 ((nd / 65536 : Nat) : Int))) (fun _ => kr)).conseq (int_congr (icnv_mod rfl _)))) (Wl.run 1 ma0 (Wl.ys rfl rfl (Ys.l1 p3 2 1 0 Try.isAgg24) (Wl.ys (v := nV .u32 (nd % 65536)) rfl rfl ((Ys.pure (v := .int .u32 (irem (nd : Int) ((65536 : Nat) : Int))) (fun _ => kr)).conseq (int_congr (rfl))) ?_))))
 refine Wl.ys (v := nV .u16 (lw nd)) rfl rfl (Ys.conseq (v := nV .u16 ((nd % 65536) % 65536)) (int_congr (congrArg (fun n : Nat => (n : Int)) (Nat.mod_mod _ _))) ((Ys.pure (v := .int .u16 (icnv .u16 ((nd % 65536 : Nat) : Int))) (fun _ => kr)).conseq (int_congr (icnv_mod rfl _)))) (Wl.run 1 ma0 (Wl.ys rfl rfl (Ys.l1 p3 3 1 0 Try.isAgg22) (Wl.run 1 ma0 (Wl.ys rfl rfl (Ys.l1 p3 4 1 0 Try.isAgg22) ?_))))
 refine Wl.ht rfl (Ht.made (mk := fun b_ => .slice (some ⟨b_, 0, none⟩) 6 6) (t := 22) (cs := [nV .u16 (hw ns), nV .u16 (lw ns), nV .u16 (hw nd), nV .u16 (lw nd), nV .u16 nf, nV .u16 nt]) rfl (fun _ => kr)) (fun p35 => Wl.run 1 ma0 (Wl.nil (hK9 _ _ _ (W.prune' [3, 5, 6] [pV p3 0, sV g3 zs.length, Value.slice (some ⟨p35, 0, none⟩) 6 6] ma0 (fun f10 => ?_)))))
 refine W.seq (fun K11 hK11 => W.region (Wl.run 1 ma0 (Wl.nil (hK11 _ _ _ ?_))))
 refine W.seq (fun K12 hK12 => W.seq (fun K13 hK13 => ?_))
 refine W.region (Wl.run 1 ma0 (Wl.ys (v := Value.pointer (some (ela g3.a 9))) rfl rfl (Ys.indexAddr (k := .i64) (a := g3.a) (len := zs.length) (cap := g3.cap) (i := 9) (sz := 1) rfl ma0 ma0 Try.runUnderlying25 Try.sizeOf5 ma1 ma1 (by rw [FS.a_own ((hn5 ma7))]; rfl)) (Wl.ys (v := nV .u8 ((zs.getD 9 0).toNat)) rfl rfl (Ys.ld (a := ela g3.a 9) rfl ma0 Try.isAgg5 (fun w_ h_ => (FS.at (i := 1) (t := 5) h_ rfl (FS.nil_cs ok4 (mc_len1 _))).ld (mc_get 0 ma7))) ?_)))
 have hb14 : (zs.getD 9 0).toNat < 256 := UInt8.toNat_lt _
 refine Wl.run 2 ma0 ?_
 refine Wl.guard (v := sV g3 zs.length) ((((zs.getD 9 0).toNat : Nat) : Int) == 17) rfl (wantT rfl ma0) rfl (fun hg15 => ?_) ?_
 ·exact Ys.pure (fun _ => kr)
 refine Wl.guardc (v := nV .u16 (w2 zs 26)) ((((zs.getD 9 0).toNat : Nat) : Int) == 17) rfl (wantT rfl ma0) rfl (fun hg16 => ?_) ?_
 ·have qhg16 := hg16; try simp only [zA] at qhg16
  refine Yc.at (t := 41) (v0 := sV g3 zs.length) (lz (g := ((zs.getD 9 0).toNat : Int) == 17) (u := undef) hg16 ma0) ?_
  exact Yc.call (fun _ => kr) (fun w_ hm_ => (rwordn_c zs g3.a g3.cap 26 zs.length _ ma5 (FS.at (i := 1) (t := 5) hm_ rfl (FS.nil_cs ok4 (mc_len1 _))) ma1 ma1 (by have z_ := ok4.le; first | exact z_ | omega | (simp at z_ ⊢; omega))))
 refine Wl.guard (v := bV (((w2 zs 26 : Nat) : Int) != 0)) ((((zs.getD 9 0).toNat : Nat) : Int) == 17) rfl (wantT rfl ma0) rfl (fun hg17 => ?_) ?_
 ·refine Ys.at (t := 42) (v0 := nV .u16 (w2 zs 26)) (lz (g := ((zs.getD 9 0).toNat : Int) == 17) (u := undef) hg17 ma0) ?_
  exact Ys.pure (fun _ => kr)
 refine Wl.ys (v := bV ((((zs.getD 9 0).toNat : Int) == 17) && (((w2 zs 26 : Nat) : Int) != 0))) rfl rfl (Ys.and (e := ((zs.getD 9 0).toNat : Int) == 17) (b := ((w2 zs 26 : Nat) : Int) != 0) rfl ma0 ma0 ma0) (Wl.nil (hK13 _ _ _ ?_))
 refine W.cond ((((zs.getD 9 0).toNat : Int) == 17) && (((w2 zs 26 : Nat) : Int) != 0)) ma0 (fun h18 => ?_) (fun h19 => ?_)
 ·have qh18 := h18; try simp only [zA] at qh18
  refine W.region (Wl.run 1 ma0 (Wl.nil (hK12 _ _ _ (W.seq (fun K20 hK20 => ?_)))))
  refine W.seq (fun K21 hK21 => W.region (Wl.run 1 ma0 (Wl.ys (v := Value.pointer (some (ela g3.a 9))) rfl rfl (Ys.indexAddr (k := .i64) (a := g3.a) (len := zs.length) (cap := g3.cap) (i := 9) (sz := 1) rfl ma0 ma0 Try.runUnderlying25 Try.sizeOf5 ma1 ma1 (by rw [FS.a_own ((hn5 ma7))]; rfl)) (Wl.ys (v := nV .u8 ((zs.getD 9 0).toNat)) rfl rfl (Ys.ld (a := ela g3.a 9) rfl ma0 Try.isAgg5 (fun w_ h_ => (FS.at (i := 1) (t := 5) h_ rfl (FS.nil_cs ok4 (mc_len1 _))).ld (mc_get 0 ma7))) ?_))))
  have hb22 : (zs.getD 9 0).toNat < 256 := UInt8.toNat_lt _
  refine Wl.run 2 ma0 ?_
  refine Wl.guard (v := sV g3 zs.length) ((((zs.getD 9 0).toNat : Nat) : Int) == 6) rfl (wantT rfl ma0) rfl (fun hg23 => ?_) ?_
  ·exact Ys.pure (fun _ => kr)
  refine Wl.guard (v := nV .i64 zs.length) ((((zs.getD 9 0).toNat : Nat) : Int) == 6) rfl (wantT rfl ma0) rfl (fun hg24 => ?_) ?_
  ·refine Ys.at (t := 50) (v0 := sV g3 zs.length) (lz (g := ((zs.getD 9 0).toNat : Int) == 6) (u := undef) hg24 ma0) ?_
   exact Ys.pure (fun _ => kr)
  refine Wl.guard (v := bV (decide (((zs.length : Nat) : Int) ≥ 38))) ((((zs.getD 9 0).toNat : Nat) : Int) == 6) rfl (wantT rfl ma0) rfl (fun hg25 => ?_) ?_
  ·refine Ys.at (t := 51) (v0 := nV .i64 zs.length) (lz (g := ((zs.getD 9 0).toNat : Int) == 6) (u := undef) hg25 ma0) ?_
   exact Ys.pure (fun _ => kr)
  refine Wl.ys (v := bV ((((zs.getD 9 0).toNat : Int) == 6) && (decide (((zs.length : Nat) : Int) ≥ 38)))) rfl rfl (Ys.and (e := ((zs.getD 9 0).toNat : Int) == 6) (b := decide (((zs.length : Nat) : Int) ≥ 38)) rfl ma0 ma0 ma0) (Wl.nil (hK21 _ _ _ (W.prune' [3, 5, 6, 7, 53] [pV p3 0, sV g3 zs.length, Value.slice (some ⟨p35, 0, none⟩) 6 6, iV .i64 26, bV ((((zs.getD 9 0).toNat : Int) == 6) && (decide (((zs.length : Nat) : Int) ≥ 38)))] ma0 (fun f26 => ?_))))
  refine W.cond ((((zs.getD 9 0).toNat : Int) == 6) && (decide (((zs.length : Nat) : Int) ≥ 38))) ma0 (fun h27 => ?_) (fun h28 => ?_)
  ·have qh27 := h27; try simp only [zA] at qh27
   (exfalso; have y_ := qh27; omega)
  ·have qh28 := h28; try simp only [zA] at qh28
   refine W.skip' (hK20 _ _ _ (W.seq (fun K29 hK29 => W.seq (fun K30 hK30 => W.region ?_))))
   refine Wl.run 1 ma0 (Wl.nil (hK30 _ _ _ (W.block (W.loop2 [3, 5, 6, 7, 8] (fun (i : Nat) (z : List UInt8) => [pV p3 0, sV g3 zs.length, Value.slice (some ⟨p35, 0, none⟩) 6 6, iV .i64 26, nV .i64 i]) (fun (i : Nat) (z : List UInt8) => i ≤ 6 ∧ rlp zs (nxL ns nd nf nt) false true 26 i = z ∧ z.length = zs.length ∧ z.getD 9 0 = zs.getD 9 0) (fun (i : Nat) (z : List UInt8) => [[cb p35 (mc n16 (nxL ns nd nf nt)) 22], g3.seg 5 (mc b8 z), cRe3_1648_0 nd nf ns nt p3 np]) (fun (i : Nat) (z : List UInt8) => 6 - i) 0 zs ma0 ⟨ma1, rfl, rfl, rfl⟩ (by rfl) (fun i z f32 J31 hp33 hJ31 => ?_)))))
   obtain ⟨hi, hz_, hlz_, h9_⟩ := hp33
   have hw12_ := w2_lt z (12 + 2 * i); have hnx_ : (nxL ns nd nf nt).length = 6 := rfl
   refine W.seq (fun K34 hK34 => W.seq (fun K35 hK35 => ?_))
   refine W.region (Wl.run 2 ma0 (Wl.nil (hK35 _ _ _ ?_)))
   refine W.cond (decide (((i : Nat) : Int) < 6)) ma0 (fun h36 => ?_) (fun h37 => ?_)
   ·have qh36 := h36; try simp only [zA] at qh36
    refine W.skip' (hK34 _ _ _ (W.seq (fun K38 hK38 => W.block (W.seq (fun K39 hK39 => ?_)))))
    refine W.region (Wl.run 1 ma0 (Wl.ys (v := nV .i64 (2 * i)) rfl rfl ((Ys.pure (v := .int .i64 (imul .i64 2 (i : Int))) (fun _ => kr)).conseq (int_congr (imul_eq ma39 ma1 ma1))) (Wl.ys (v := nV .i64 (12 + (2 * i))) rfl rfl ((Ys.pure (v := .int .i64 (iadd .i64 12 ((2 * i : Nat) : Int))) (fun _ => kr)).conseq (int_congr (iadd_eq ma1 ma1 ma1))) (Wl.run 1 ma0 ?_))))
    refine Wl.nil (hK39 _ _ _ (W.seq (fun K40 hK40 => W.seq (fun K41 hK41 => W.region ?_))))
    refine Wl.run 3 ma0 ?_
    refine Wl.guard (v := sV g3 zs.length) (decide (((i : Nat) : Int) > 3)) rfl (wantT rfl ma0) rfl (fun hg42 => ?_) ?_
    ·exact Ys.pure (fun _ => kr)
    refine Wl.guard (v := Value.pointer (some (ela g3.a 9))) (decide (((i : Nat) : Int) > 3)) rfl (wantT rfl ma0) rfl (fun hg43 => ?_) ?_
    ·have qhg43 := hg43; try simp only [zA] at qhg43
     refine Ys.at (t := 64) (v0 := sV g3 zs.length) (lz (g := decide (((i : Nat) : Int) > 3)) (u := undef) hg43 ma0) ?_
     exact Ys.indexAddr (k := .i64) (a := g3.a) (len := zs.length) (cap := g3.cap) (i := 9) (sz := 1) rfl ma0 ma0 Try.runUnderlying25 Try.sizeOf5 ma1 ma1 (by rw [FS.a_own ((hn5 ma7))]; rfl)
    refine Wl.guard (v := nV .u8 ((zs.getD 9 0).toNat)) (decide (((i : Nat) : Int) > 3)) rfl (wantT rfl ma0) rfl (fun hg44 => ?_) ?_
    ·have qhg44 := hg44; try simp only [zA] at qhg44
     refine Ys.at (t := 65) (v0 := Value.pointer (some (ela g3.a 9))) (lz (g := decide (((i : Nat) : Int) > 3)) (u := undef) hg44 ma0) ?_
     exact Ys.conseq (v := nV .u8 ((z.getD 9 0).toNat)) (int_congr (congrArg (fun x : UInt8 => (x.toNat : Int)) h9_)) (Ys.ld (a := ela g3.a 9) rfl ma0 Try.isAgg5 (fun w_ h_ => (FS.at (i := 1) (t := 5) h_ rfl (FS.nil_cs ok4 (mcl hlz_))).ld (mc_get 0 ma7)))
    refine Wl.guard (v := bV ((((zs.getD 9 0).toNat : Nat) : Int) == 1)) (decide (((i : Nat) : Int) > 3)) rfl (wantT rfl ma0) rfl (fun hg45 => ?_) ?_
    ·have qhg45 := hg45; try simp only [zA] at qhg45
     refine Ys.at (t := 66) (v0 := nV .u8 ((zs.getD 9 0).toNat)) (lz (g := decide (((i : Nat) : Int) > 3)) (u := undef) hg45 ma0) ?_
     exact Ys.pure (fun _ => kr)
    refine Wl.ys (v := bV ((decide (((i : Nat) : Int) > 3)) && ((((zs.getD 9 0).toNat : Nat) : Int) == 1))) rfl rfl (Ys.and (e := decide (((i : Nat) : Int) > 3)) (b := ((zs.getD 9 0).toNat : Int) == 1) rfl ma0 ma0 ma0) (Wl.nil (hK41 _ _ _ ?_))
    refine W.cond ((decide (((i : Nat) : Int) > 3)) && ((((zs.getD 9 0).toNat : Nat) : Int) == 1)) ma0 (fun h46 => ?_) (fun h47 => ?_)
    ·have qh46 := h46; try simp only [zA] at qh46
     (exfalso; have y_ := qh46; omega)
    ·have qh47 := h47; try simp only [zA] at qh47
     refine W.skip' (hK40 _ _ _ (W.seq (fun K48 hK48 => W.region (Wl.run 2 ma0 ?_))))
     refine Wl.yc (v := nV .u16 (w2 z (12 + (2 * i)))) rfl rfl (Yc.call (fun _ => kr) (fun w_ hm_ => (rwordn_c z g3.a g3.cap (12 + (2 * i)) zs.length _ ma5 (FS.at (i := 1) (t := 5) hm_ rfl (FS.nil_cs ok4 (mcl hlz_))) ma1 ma1 (by have z_ := ok4.le; first | exact z_ | omega | (simp at z_ ⊢; omega))))) (Wl.run 1 ma0 (Wl.nil (hK48 _ _ _ (W.prune' [3, 5, 6, 7, 8, 9, 10, 64, 65, 66, 67] [pV p3 0, sV g3 zs.length, Value.slice (some ⟨p35, 0, none⟩) 6 6, iV .i64 26, nV .i64 i, nV .i64 (12 + (2 * i)), nV .u16 (w2 z (12 + (2 * i))), (bif decide (((i : Nat) : Int) > 3) then sV g3 zs.length else undef), (bif decide (((i : Nat) : Int) > 3) then Value.pointer (some (ela g3.a 9)) else undef), (bif decide (((i : Nat) : Int) > 3) then nV .u8 ((zs.getD 9 0).toNat) else undef), (bif decide (((i : Nat) : Int) > 3) then bV ((((zs.getD 9 0).toNat : Nat) : Int) == 1) else undef)] ma0 (fun f49 => ?_)))))
     refine W.seq (fun K50 hK50 => W.seq (fun K51 hK51 => ?_))
     refine W.region (Wl.run 2 ma0 (Wl.nil (hK51 _ _ _ ?_)))
     refine W.cond (decide (((i : Nat) : Int) < 4)) ma0 (fun h52 => ?_) (fun h53 => ?_)
     ·have qh52 := h52; try simp only [zA] at qh52
      refine W.region (Wl.run 4 ma0 (Wl.ys (v := Value.pointer (some ⟨p35, i * 1, none⟩)) rfl rfl ((Ys.indexAddr (k := .i64) (a := some ⟨p35, 0, none⟩) (len := 6) (cap := 6) (i := (i : Int)) (sz := 1) rfl ma0 ma0 Try.runUnderlying123 Try.sizeOf22 ma1 ma1 rfl).conseq (congrArg (fun a => Value.pointer (some a)) (ela_own0 _ _))) (Wl.ys rfl rfl (Ys.load (b := p35) (o' := i * 1) (i := 0) (j := 0) (cs := mc n16 (nxL ns nd nf nt)) (v := nV .u16 ((nxL ns nd nf nt).getD i 0)) rfl ma0 Try.isAgg22 rfl rfl (mc_get1 0 ma1)) ?_)))
      have hb54 := nxL_lt hns hnd hnf hnt i
      obtain ⟨Z55, hZ56⟩ : ∃ Z, bput z 10 (upc (w2 z 10) (w2 z (12 + (2 * i))) ((nxL ns nd nf nt).getD i 0)) = Z := ⟨_, rfl⟩
      have hL57 : Z55.length = zs.length := (bput_lenZ hZ56).trans hlz_
      refine Wl.htS rfl (HtS.call (β := Unit) (k := 73) (args := #[sV g3 zs.length, iV .i64 10, nV .u16 (w2 z (12 + (2 * i))), nV .u16 ((nxL ns nd nf nt).getD i 0)]) (Lin := [g3.seg 5 (mc b8 z)]) (Lk := [[cb p35 (mc n16 (nxL ns nd nf nt)) 22], cRe3_1648_0 nd nf ns nt p3 np]) (Lo := fun _u => [g3.seg 5 (mc b8 Z55), [cb p35 (mc n16 (nxL ns nd nf nt)) 22], cRe3_1648_0 nd nf ns nt p3 np]) [1] [0, 2] rfl (fun _ => kr) ma3 rfl rfl rfl (fun w_ hm_ hl_ => (rchangen_c g3 z zs.length 10 (w2 z (12 + (2 * i))) ((nxL ns nd nf nt).getD i 0) _ _ Z55 hZ56 hlz_.symm hl_ ok4 (hn5 ma7) (kle hlz_ h0 ma3) (lez hlz_ hz) ma6 ma6)) (fun _ => rfl)) (fun _u _ => Wl.nil (hK50 _ _ _ (W.seq (fun K59 hK59 => W.seq (fun K60 hK60 => ?_)))))
      refine W.region (Wl.run 2 ma0 (Wl.nil (hK60 _ _ _ (W.prune' [3, 5, 6, 7, 8, 9, 10, 64, 65, 66, 67, 82] [pV p3 0, sV g3 zs.length, Value.slice (some ⟨p35, 0, none⟩) 6 6, iV .i64 26, nV .i64 i, nV .i64 (12 + (2 * i)), nV .u16 (w2 z (12 + (2 * i))), (bif decide (((i : Nat) : Int) > 3) then sV g3 zs.length else undef), (bif decide (((i : Nat) : Int) > 3) then Value.pointer (some (ela g3.a 9)) else undef), (bif decide (((i : Nat) : Int) > 3) then nV .u8 ((zs.getD 9 0).toNat) else undef), (bif decide (((i : Nat) : Int) > 3) then bV ((((zs.getD 9 0).toNat : Nat) : Int) == 1) else undef), bV true] ma0 (fun f61 => ?_)))))
      refine W.condT ma0 (W.region (Wl.run 5 ma0 (Wl.ys (v := Value.pointer (some ⟨p35, i * 1, none⟩)) rfl rfl ((Ys.indexAddr (k := .i64) (a := some ⟨p35, 0, none⟩) (len := 6) (cap := 6) (i := (i : Int)) (sz := 1) rfl ma0 ma0 Try.runUnderlying123 Try.sizeOf22 ma1 ma1 rfl).conseq (congrArg (fun a => Value.pointer (some a)) (ela_own0 _ _))) (Wl.ys rfl rfl (Ys.load (b := p35) (o' := i * 1) (i := 1) (j := 0) (cs := mc n16 (nxL ns nd nf nt)) (v := nV .u16 ((nxL ns nd nf nt).getD i 0)) rfl ma0 Try.isAgg22 rfl rfl (mc_get1 0 ma1)) ?_))))
      have hb62 := nxL_lt hns hnd hnf hnt i
      obtain ⟨Z63, hZ64⟩ : ∃ Z, bput Z55 26 (upc (w2 z 26) (w2 z (12 + (2 * i))) ((nxL ns nd nf nt).getD i 0)) = Z := ⟨_, rfl⟩
      have hL65 : Z63.length = zs.length := (bput_lenZ hZ64).trans hL57
      refine Wl.htS rfl (HtS.call (β := Unit) (k := 73) (args := #[sV g3 zs.length, iV .i64 26, nV .u16 (w2 z (12 + (2 * i))), nV .u16 ((nxL ns nd nf nt).getD i 0)]) (Lin := [g3.seg 5 (mc b8 Z55)]) (Lk := [[cb p35 (mc n16 (nxL ns nd nf nt)) 22], cRe3_1648_0 nd nf ns nt p3 np]) (Lo := fun _u => [g3.seg 5 (mc b8 Z63), [cb p35 (mc n16 (nxL ns nd nf nt)) 22], cRe3_1648_0 nd nf ns nt p3 np]) [0] [1, 2] rfl (fun _ => kr) ma3 rfl rfl rfl (fun w_ hm_ hl_ => (rchangen_c g3 Z55 zs.length 26 (w2 z (12 + (2 * i))) ((nxL ns nd nf nt).getD i 0) _ _ Z63 (by rw [(w2_ne hZ56 ma3)]; exact hZ64) hL57.symm hl_ ok4 (hn5 ma7) (kle hL57 h0 ma3) (lez hL57 hz) ma6 ma6)) (fun _ => rfl)) (fun _u _ => Wl.nil (hK59 _ _ _ (W.prune' [3, 5, 6, 7, 8, 9, 64, 65, 66, 67] [pV p3 0, sV g3 zs.length, Value.slice (some ⟨p35, 0, none⟩) 6 6, iV .i64 26, nV .i64 i, nV .i64 (12 + (2 * i)), (bif decide (((i : Nat) : Int) > 3) then sV g3 zs.length else undef), (bif decide (((i : Nat) : Int) > 3) then Value.pointer (some (ela g3.a 9)) else undef), (bif decide (((i : Nat) : Int) > 3) then nV .u8 ((zs.getD 9 0).toNat) else undef), (bif decide (((i : Nat) : Int) > 3) then bV ((((zs.getD 9 0).toNat : Nat) : Int) == 1) else undef)] ma0 (fun f67 => W.region ?_))))
      refine Wl.run 4 ma0 (Wl.ys (v := Value.pointer (some ⟨p35, i * 1, none⟩)) rfl rfl ((Ys.indexAddr (k := .i64) (a := some ⟨p35, 0, none⟩) (len := 6) (cap := 6) (i := (i : Int)) (sz := 1) rfl ma0 ma0 Try.runUnderlying123 Try.sizeOf22 ma1 ma1 rfl).conseq (congrArg (fun a => Value.pointer (some a)) (ela_own0 _ _))) (Wl.ys rfl rfl (Ys.load (b := p35) (o' := i * 1) (i := 1) (j := 0) (cs := mc n16 (nxL ns nd nf nt)) (v := nV .u16 ((nxL ns nd nf nt).getD i 0)) rfl ma0 Try.isAgg22 rfl rfl (mc_get1 0 ma1)) ?_))
      have hb68 := nxL_lt hns hnd hnf hnt i
      obtain ⟨Z69, hZ70⟩ : ∃ Z, bput Z63 (12 + (2 * i)) ((nxL ns nd nf nt).getD i 0) = Z := ⟨_, rfl⟩
      have hL71 : Z69.length = zs.length := (bput_lenZ hZ70).trans hL65
      refine Wl.htS rfl (HtS.call (β := Unit) (k := 74) (args := #[sV g3 zs.length, nV .i64 (12 + (2 * i)), nV .u16 ((nxL ns nd nf nt).getD i 0)]) (Lin := [g3.seg 5 (mc b8 Z63)]) (Lk := [[cb p35 (mc n16 (nxL ns nd nf nt)) 22], cRe3_1648_0 nd nf ns nt p3 np]) (Lo := fun _u => [g3.seg 5 (mc b8 Z69), [cb p35 (mc n16 (nxL ns nd nf nt)) 22], cRe3_1648_0 nd nf ns nt p3 np]) [0] [1, 2] rfl (fun _ => kr) ma3 rfl rfl rfl (fun w_ hm_ hl_ => (rlayn_c g3 Z63 zs.length (12 + (2 * i)) ((nxL ns nd nf nt).getD i 0) _ _ Z69 hZ70 hL65.symm hl_ ok4 (hn5 ma7) ma1 (lez hL65 hz) ma6)) (fun _ => rfl)) (fun _u _ => Wl.nil (hK38 _ _ _ (W.region (Wl.run 1 ma0 ?_))))
      refine Wl.ys (v := nV .i64 (i + 1)) rfl rfl ((Ys.pure (v := .int .i64 (iadd .i64 (i : Int) 1)) (fun _ => kr)).conseq (int_congr (iadd_eq ma1 ma1 ma1))) (Wl.run 1 ma0 (Wl.nil ?_))
      have hs_ := rlp_s hz_ (show (decide (((i : Nat) : Int) > 3) && false) = false from Bool.and_false _)
      have hr_ : rlp zs (nxL ns nd nf nt) false true 26 (i + 1) = Z69 := by rw [hs_]; unfold rlS; rw [h52]; simp only [cond_true, cond_false]; rw [hZ56]; rw [hZ64]; rw [hZ70]
      refine fun w_ h_ => hJ31 (i + 1) Z69 _ w_ ma1 ⟨ma1, hr_, (by rw [hL71]), ((gd_ne hZ70 ma36).trans ((gd_ne hZ64 ma36).trans ((gd_ne hZ56 ma36).trans h9_)))⟩ ?_ (h_.pick [1, 0, 2] ma3 rfl)
      kernel_rfl
     ·have qh53 := h53; try simp only [zA] at qh53
      refine W.skip' (hK50 _ _ _ (W.seq (fun K73 hK73 => W.seq (fun K74 hK74 => W.region ?_))))
      refine Wl.run 2 ma0 (Wl.nil (hK74 _ _ _ (W.condT ma0 (W.region ?_))))
      refine Wl.run 5 ma0 (Wl.ys (v := Value.pointer (some ⟨p35, i * 1, none⟩)) rfl rfl ((Ys.indexAddr (k := .i64) (a := some ⟨p35, 0, none⟩) (len := 6) (cap := 6) (i := (i : Int)) (sz := 1) rfl ma0 ma0 Try.runUnderlying123 Try.sizeOf22 ma1 ma1 rfl).conseq (congrArg (fun a => Value.pointer (some a)) (ela_own0 _ _))) (Wl.ys rfl rfl (Ys.load (b := p35) (o' := i * 1) (i := 0) (j := 0) (cs := mc n16 (nxL ns nd nf nt)) (v := nV .u16 ((nxL ns nd nf nt).getD i 0)) rfl ma0 Try.isAgg22 rfl rfl (mc_get1 0 ma1)) ?_))
      have hb75 := nxL_lt hns hnd hnf hnt i
      obtain ⟨Z76, hZ77⟩ : ∃ Z, bput z 26 (upc (w2 z 26) (w2 z (12 + (2 * i))) ((nxL ns nd nf nt).getD i 0)) = Z := ⟨_, rfl⟩
      have hL78 : Z76.length = zs.length := (bput_lenZ hZ77).trans hlz_
      refine Wl.htS rfl (HtS.call (β := Unit) (k := 73) (args := #[sV g3 zs.length, iV .i64 26, nV .u16 (w2 z (12 + (2 * i))), nV .u16 ((nxL ns nd nf nt).getD i 0)]) (Lin := [g3.seg 5 (mc b8 z)]) (Lk := [[cb p35 (mc n16 (nxL ns nd nf nt)) 22], cRe3_1648_0 nd nf ns nt p3 np]) (Lo := fun _u => [g3.seg 5 (mc b8 Z76), [cb p35 (mc n16 (nxL ns nd nf nt)) 22], cRe3_1648_0 nd nf ns nt p3 np]) [1] [0, 2] rfl (fun _ => kr) ma3 rfl rfl rfl (fun w_ hm_ hl_ => (rchangen_c g3 z zs.length 26 (w2 z (12 + (2 * i))) ((nxL ns nd nf nt).getD i 0) _ _ Z76 hZ77 hlz_.symm hl_ ok4 (hn5 ma7) (kle hlz_ h0 ma3) (lez hlz_ hz) ma6 ma6)) (fun _ => rfl)) (fun _u _ => Wl.nil (hK73 _ _ _ (W.prune' [3, 5, 6, 7, 8, 9, 64, 65, 66, 67] [pV p3 0, sV g3 zs.length, Value.slice (some ⟨p35, 0, none⟩) 6 6, iV .i64 26, nV .i64 i, nV .i64 (12 + (2 * i)), (bif decide (((i : Nat) : Int) > 3) then sV g3 zs.length else undef), (bif decide (((i : Nat) : Int) > 3) then Value.pointer (some (ela g3.a 9)) else undef), (bif decide (((i : Nat) : Int) > 3) then nV .u8 ((zs.getD 9 0).toNat) else undef), (bif decide (((i : Nat) : Int) > 3) then bV ((((zs.getD 9 0).toNat : Nat) : Int) == 1) else undef)] ma0 (fun f80 => W.region ?_))))
      refine Wl.run 4 ma0 (Wl.ys (v := Value.pointer (some ⟨p35, i * 1, none⟩)) rfl rfl ((Ys.indexAddr (k := .i64) (a := some ⟨p35, 0, none⟩) (len := 6) (cap := 6) (i := (i : Int)) (sz := 1) rfl ma0 ma0 Try.runUnderlying123 Try.sizeOf22 ma1 ma1 rfl).conseq (congrArg (fun a => Value.pointer (some a)) (ela_own0 _ _))) (Wl.ys rfl rfl (Ys.load (b := p35) (o' := i * 1) (i := 1) (j := 0) (cs := mc n16 (nxL ns nd nf nt)) (v := nV .u16 ((nxL ns nd nf nt).getD i 0)) rfl ma0 Try.isAgg22 rfl rfl (mc_get1 0 ma1)) ?_))
      have hb81 := nxL_lt hns hnd hnf hnt i
      obtain ⟨Z82, hZ83⟩ : ∃ Z, bput Z76 (12 + (2 * i)) ((nxL ns nd nf nt).getD i 0) = Z := ⟨_, rfl⟩
      have hL84 : Z82.length = zs.length := (bput_lenZ hZ83).trans hL78
      refine Wl.htS rfl (HtS.call (β := Unit) (k := 74) (args := #[sV g3 zs.length, nV .i64 (12 + (2 * i)), nV .u16 ((nxL ns nd nf nt).getD i 0)]) (Lin := [g3.seg 5 (mc b8 Z76)]) (Lk := [[cb p35 (mc n16 (nxL ns nd nf nt)) 22], cRe3_1648_0 nd nf ns nt p3 np]) (Lo := fun _u => [g3.seg 5 (mc b8 Z82), [cb p35 (mc n16 (nxL ns nd nf nt)) 22], cRe3_1648_0 nd nf ns nt p3 np]) [0] [1, 2] rfl (fun _ => kr) ma3 rfl rfl rfl (fun w_ hm_ hl_ => (rlayn_c g3 Z76 zs.length (12 + (2 * i)) ((nxL ns nd nf nt).getD i 0) _ _ Z82 hZ83 hL78.symm hl_ ok4 (hn5 ma7) ma1 (lez hL78 hz) ma6)) (fun _ => rfl)) (fun _u _ => Wl.nil (hK38 _ _ _ (W.region (Wl.run 1 ma0 ?_))))
      refine Wl.ys (v := nV .i64 (i + 1)) rfl rfl ((Ys.pure (v := .int .i64 (iadd .i64 (i : Int) 1)) (fun _ => kr)).conseq (int_congr (iadd_eq ma1 ma1 ma1))) (Wl.run 1 ma0 (Wl.nil ?_))
      have hs_ := rlp_s hz_ (show (decide (((i : Nat) : Int) > 3) && false) = false from Bool.and_false _)
      have hr_ : rlp zs (nxL ns nd nf nt) false true 26 (i + 1) = Z82 := by rw [hs_]; unfold rlS; rw [h53]; simp only [cond_true, cond_false]; rw [hZ77]; rw [hZ83]
      refine fun w_ h_ => hJ31 (i + 1) Z82 _ w_ ma1 ⟨ma1, hr_, (by rw [hL84]), ((gd_ne hZ83 ma36).trans ((gd_ne hZ77 ma36).trans h9_))⟩ ?_ (h_.pick [1, 0, 2] ma3 rfl)
      kernel_rfl
   ·have qh37 := h37; try simp only [zA] at qh37
    refine W.exit (hK29 _ _ _ (W.seq (fun K86 hK86 => W.seq (fun K87 hK87 => W.region ?_))))
    refine Wl.run 1 ma0 (Wl.ys (v := Value.pointer (some (ela g3.a 9))) rfl rfl (Ys.indexAddr (k := .i64) (a := g3.a) (len := zs.length) (cap := g3.cap) (i := 9) (sz := 1) rfl ma0 ma0 Try.runUnderlying25 Try.sizeOf5 ma1 ma1 (by rw [FS.a_own ((hn5 ma7))]; rfl)) (Wl.ys (v := nV .u8 ((zs.getD 9 0).toNat)) rfl rfl (Ys.conseq (v := nV .u8 ((z.getD 9 0).toNat)) (int_congr (congrArg (fun x : UInt8 => (x.toNat : Int)) h9_)) (Ys.ld (a := ela g3.a 9) rfl ma0 Try.isAgg5 (fun w_ h_ => (FS.at (i := 1) (t := 5) h_ rfl (FS.nil_cs ok4 (mcl hlz_))).ld (mc_get 0 ma7)))) ?_))
    have hb88 : (z.getD 9 0).toNat < 256 := UInt8.toNat_lt _
    refine Wl.run 1 ma0 (Wl.nil (hK87 _ _ _ ?_))
    refine W.cond ((((zs.getD 9 0).toNat : Nat) : Int) == 1) ma0 (fun h89 => ?_) (fun h90 => ?_)
    ·have qh89 := h89; try simp only [zA] at qh89
     (exfalso; have y_ := qh89; omega)
    ·have qh90 := h90; try simp only [zA] at qh90
     refine W.skip' (hK86 _ _ _ (W.seq (fun K91 hK91 => W.seq (fun K92 hK92 => W.region ?_))))
     refine Wl.run 3 ma0 (Wl.guard (v := sV g3 zs.length) (true) rfl ma0 rfl (fun _ => Ys.pure (fun _ => kr)) (Wl.guardc (v := nV .u16 (w2 z 26)) (true) rfl ma0 rfl (fun _ => Yc.call (fun _ => kr) (fun w_ hm_ => (rwordn_c z g3.a g3.cap 26 zs.length _ ma5 (FS.at (i := 1) (t := 5) hm_ rfl (FS.nil_cs ok4 (mcl hlz_))) ma1 ma1 (by have z_ := ok4.le; first | exact z_ | omega | (simp at z_ ⊢; omega))))) (Wl.guard (v := bV (((w2 z 26 : Nat) : Int) == 0)) (true) rfl ma0 rfl (fun _ => Ys.pure (fun _ => kr)) (Wl.run 1 ma0 ?_))))
     refine Wl.nil (hK92 _ _ _ (W.pick (LL' := [g3.seg 5 (mc b8 z)]) [1] ma3 rfl (W.prune' [5, 124] [sV g3 zs.length, bV (((w2 z 26 : Nat) : Int) == 0)] ma0 (fun f93 => ?_))))
     refine W.cond (((w2 z 26 : Nat) : Int) == 0) ma0 (fun h94 => ?_) (fun h95 => ?_)
     ·have qh94 := h94; try simp only [zA] at qh94
      refine W.region ?_
      obtain ⟨Z96, hZ97⟩ : ∃ Z, bput z 26 65535 = Z := ⟨_, rfl⟩
      have hL98 : Z96.length = zs.length := (bput_lenZ hZ97).trans hlz_
      refine Wl.run 1 ma0 (Wl.htS rfl (HtS.call (β := Unit) (k := 74) (args := #[sV g3 zs.length, iV .i64 26, iV .u16 65535]) (Lin := [g3.seg 5 (mc b8 z)]) (Lk := []) (Lo := fun _u => [g3.seg 5 (mc b8 Z96)]) [0] [] rfl (fun _ => kr) ma3 rfl rfl rfl (fun w_ hm_ hl_ => (rlayn_c g3 z zs.length 26 65535 _ _ Z96 hZ97 hlz_.symm hl_ ok4 (hn5 ma7) (kle hlz_ h0 ma3) (lez hlz_ hz) ma6)) (fun _ => rfl)) (fun _u _ => ?_))
      refine Wl.nil (hK91 _ _ _ (W.seq (fun K100 hK100 => W.region (Wl.run 2 ma0 ?_))))
      refine Wl.nil (hK100 _ _ _ (W.ret ?_))
      obtain rfl : i = 6 := by omega
      have hz6_ := hz_.symm.trans (rlp_k ns nd nf nt 26 (.inl rfl) ma1)
      have hw26_ : w2 z 26 = upl (w2 zs 26) (rtL (a4 zs 12) (a4 zs 16) ns nd ++ [(w2 zs 20, nf), (w2 zs 22, nt)]) := by rw [hz6_]; exact w2_beq' _ _ _ (by unfold rt7 rt5 rt4; simp only [bput_len]; omega) (upl_lt (w2_lt _ _) _)
      have en_ : sealN (upl (w2 zs 26) (rtL (a4 zs 12) (a4 zs 16) ns nd ++ [(w2 zs 20, nf), (w2 zs 22, nt)])) = 65535 := by rw [← hw26_]; unfold sealN; rw [if_pos (by have z_ := qh94; omega)]
      have hU2_ : (isU (zs.getD 9 0) && (((w2 zs 26 : Nat) : Int) != 0)) = true := hU_
      have h1_ : isI (zs.getD 9 0) = false := by unfold isI; have z_ := qhU_; exact beq_eq_false_iff_ne.2 ma1
      have hB : rtB (zs.getD 9 0) (a4 zs 12) (a4 zs 16) (w2 zs 20) (w2 zs 22) ns nd nf nt zs = Z96 := by unfold rtB; rw [h1_, hU2_]; simp only [cond_true, cond_false]; rw [en_, ← hZ97]; rw [hz6_, bput_same]
      show ∀ w_, _ → bodyPostM (fence none) 0 Try.prog Try.f42 _ Exit.ret _ w_
      exact fun w_ hS_ => fin_ret (ret1 rfl (RV.tmp (v := sV g3 zs.length) ma0) hS_ ⟨g3, ⟨ok4, (hn5 ma7)⟩, rfl, (Mem.cast (by rw [hB]; rfl) (hS_.pick [0] ma3 rfl))⟩)
     ·have qh95 := h95; try simp only [zA] at qh95
      refine W.skip' (hK91 _ _ _ (W.seq (fun K101 hK101 => W.region (Wl.run 2 ma0 ?_))))
      refine Wl.nil (hK101 _ _ _ (W.ret ?_))
      obtain rfl : i = 6 := by omega
      have hz6_ := hz_.symm.trans (rlp_k ns nd nf nt 26 (.inl rfl) ma1)
      have hw26_ : w2 z 26 = upl (w2 zs 26) (rtL (a4 zs 12) (a4 zs 16) ns nd ++ [(w2 zs 20, nf), (w2 zs 22, nt)]) := by rw [hz6_]; exact w2_beq' _ _ _ (by unfold rt7 rt5 rt4; simp only [bput_len]; omega) (upl_lt (w2_lt _ _) _)
      have en_ : sealN (upl (w2 zs 26) (rtL (a4 zs 12) (a4 zs 16) ns nd ++ [(w2 zs 20, nf), (w2 zs 22, nt)])) = w2 z 26 := by rw [← hw26_]; unfold sealN; rw [if_neg (by have z_ := qh95; omega)]
      have hU2_ : (isU (zs.getD 9 0) && (((w2 zs 26 : Nat) : Int) != 0)) = true := hU_
      have h1_ : isI (zs.getD 9 0) = false := by unfold isI; have z_ := qhU_; exact beq_eq_false_iff_ne.2 ma1
      have hB : rtB (zs.getD 9 0) (a4 zs 12) (a4 zs 16) (w2 zs 20) (w2 zs 22) ns nd nf nt zs = z := by unfold rtB; rw [h1_, hU2_]; simp only [cond_true, cond_false]; rw [en_]; rw [hw26_]; exact hz6_.symm
      show ∀ w_, _ → bodyPostM (fence none) 0 Try.prog Try.f42 _ Exit.ret _ w_
      exact fun w_ hS_ => fin_ret (ret1 rfl (RV.tmp (v := sV g3 zs.length) ma0) hS_ ⟨g3, ⟨ok4, (hn5 ma7)⟩, rfl, (Mem.cast (by rw [hB]; rfl) (hS_.pick [0] ma3 rfl))⟩)
 ·(exfalso; have z_ := hU_.symm.trans h19; cases z_)
abbrev cRe3_1649_0 (nd nf ns nt p3 : Nat) (np : UInt8) : List Blk := [cb p3 [nV .u8 np.toNat, nV .u32 ns, nV .u32 nd, nV .u16 nf, nV .u16 nt] 30]
set_option maxHeartbeats 1000000 in
theorem rretT_c (zs : List UInt8) (a : Option Addr) (cap : Nat) (np : UInt8) (ns nd nf nt : Nat) (w : World) (hat : At w a (byc zs)) (h0 : 28 ≤ zs.length) (hz : zs.length ≤ 1000000) (hlc : zs.length ≤ cap) (h8 : isI (zs.getD 9 0) = true → zs.getD 20 0 = 8 ∨ zs.getD 20 0 = 0) (hns : ns < 4294967296) (hnd : nd < 4294967296) (hnf : nf < 65536) (hnt : nt < 65536) (hU_ : ((((zs.getD 9 0).toNat : Int) == 17) && (((w2 zs 26 : Nat) : Int) != 0)) = false) (hT_ : ((((zs.getD 9 0).toNat : Int) == 6) && (decide (((zs.length : Nat) : Int) ≥ 38))) = true) : Calls Try.prog 42 #[Value.slice a zs.length cap, aV [nV .u8 np.toNat, nV .u32 ns, nV .u32 nd, nV .u16 nf, nV .u16 nt]] w (RetM w (fun g : FS => g.ok 1 zs.length ∧ g.nil = false) (fun g => .slice g.a zs.length g.cap) [] (fun g => [g.seg 5 (byc (rtB (zs.getD 9 0) (a4 zs 12) (a4 zs 16) (w2 zs 20) (w2 zs 22) ns nd nf nt zs))])) := by
 have hcl_ := hlc; have qhT_ := hT_; simp only [Bool.and_eq_true, decide_eq_true_eq, beq_iff_eq] at qhT_; have h38_ : 38 ≤ zs.length := by omega
 refine calls_W (M := []) (LL := []) (n := 128) Try.func42 rfl rfl ma12 (Mem.refl _) (W.seq (fun K1 hK1 => ?_))
 refine W.region (Wl.ht rfl (Ht.box (v := aV [nV .u8 np.toNat, nV .u32 ns, nV .u32 nd, nV .u16 nf, nV .u16 nt]) (cs := [nV .u8 np.toNat, nV .u32 ns, nV .u32 nd, nV .u16 nf, nV .u16 nt]) rfl rfl ma0 rfl) (fun p3 => ?_))
 refine Wl.run 1 ma0 (Wl.nil (hK1 _ _ _ (W.seq (fun K2 hK2 => W.region ?_))))
 refine Wl.ht rfl (Ht.made (mk := fun b_ => .slice (some ⟨b_, 0, none⟩) 0 0) (t := 5) (cs := []) rfl (fun _ => kr)) (fun p12 => Wl.run 1 ma0 (Wl.htS rfl (HtS.append (eu := 5) (xv := Value.slice a zs.length cap) (i := 0) (g := (FS.mk false p12 0 [])) (e := 5) (ii := (Try.prog.info? 5).getD default) (z := iV .u8 0) (sz := 1) (bytes := 1) (nn := 0) (m := zs.length) (k := zs.length) (xs := mc b8 []) (news := mc b8 zs) (cs' := mc b8 zs) (Lo := fun g3 => [g3.seg 5 (mc b8 zs), cRe3_1649_0 nd nf ns nt p3 np]) rfl rfl ma0 ma0 ma0 ma0 ma0 ma0 ma0 ma0 ma0 rfl (FS.lit_ok ma3) ma23 (fun _ => rfl) (Src.at (a := a) (mc_len1 _) (fun w_ h_ => (hat.mem0 h_))) (mc_len1 _) (mc_one (fun _ => rfl) _) ma4 ma10 ma4 rfl (fun _ => rfl)) (fun g3 hx8 => ?_)))
 obtain ⟨ok4, hn5, hn6⟩ := hx8
 refine Wl.run 1 ma0 (Wl.nil (hK2 _ _ _ (W.seq (fun K9 hK9 => W.region ?_))))
 refine Wl.run 1 ma0 (Wl.ys rfl rfl (Ys.l1 p3 1 1 0 Try.isAgg24) (Wl.ys (v := nV .u32 (ns / 65536)) rfl rfl ((Ys.pure (v := .int .u32 (iquo .u32 (ns : Int) ((65536 : Nat) : Int))) (fun _ => kr)).conseq (int_congr (iquo_natu rfl ma24))) (Wl.ys (v := nV .u16 (hw ns)) rfl rfl (Ys.conseq (v := nV .u16 ((ns / 65536) % 65536)) (int_congr (rfl)) ((Ys.pure (v := .int .u16 (icnv .u16 ((ns / 65536 : Nat) : Int))) (fun _ => kr)).conseq (int_congr (icnv_mod rfl _)))) (Wl.run 1 ma0 ?_))))
 refine Wl.ys rfl rfl (Ys.l1 p3 1 1 0 Try.isAgg24) (Wl.ys (v := nV .u32 (ns % 65536)) rfl rfl ((Ys.pure (v := .int .u32 (irem (ns : Int) ((65536 : Nat) : Int))) (fun _ => kr)).conseq (int_congr (rfl))) (Wl.ys (v := nV .u16 (lw ns)) rfl rfl (Ys.conseq (v := nV .u16 ((ns % 65536) % 65536)) (int_congr (congrArg (fun n : Nat => (n : Int)) (Nat.mod_mod _ _))) ((Ys.pure (v := .int .u16 (icnv .u16 ((ns % 65536 : Nat) : Int))) (fun _ => kr)).conseq (int_congr (icnv_mod rfl _)))) (Wl.run 1 ma0 (Wl.ys rfl rfl (Ys.l1 p3 2 1 0 Try.isAgg24) ?_))))
 refine Wl.ys (v := nV .u32 (nd / 65536)) rfl rfl ((Ys.pure (v := .int .u32 (iquo .u32 (nd : Int) ((65536 : Nat) : Int))) (fun _ => kr)).conseq (int_congr (iquo_natu rfl ma24))) (Wl.ys (v := nV .u16 (hw nd)) rfl rfl (Ys.conseq (v := nV .u16 ((nd / 65536) % 65536)) (int_congr (rfl)) ((Ys.pure (v := .int .u16 (icnv .u16 ((nd / 65536 : Nat) : Int))) (fun _ => kr)).conseq (int_congr (icnv_mod rfl _)))) (Wl.run 1 ma0 (Wl.ys rfl rfl (Ys.l1 p3 2 1 0 Try.isAgg24) (Wl.ys (v := nV .u32 (nd % 65536)) rfl rfl ((Ys.pure (v := .int .u32 (irem (nd : Int) ((65536 : Nat) : Int))) (fun _ => kr)).conseq (int_congr (rfl))) ?_))))
 refine Wl.ys (v := nV .u16 (lw nd)) rfl rfl (Ys.conseq (v := nV .u16 ((nd % 65536) % 65536)) (int_congr (congrArg (fun n : Nat => (n : Int)) (Nat.mod_mod _ _))) ((Ys.pure (v := .int .u16 (icnv .u16 ((nd % 65536 : Nat) : Int))) (fun _ => kr)).conseq (int_congr (icnv_mod rfl _)))) (Wl.run 1 ma0 (Wl.ys rfl rfl (Ys.l1 p3 3 1 0 Try.isAgg22) (Wl.run 1 ma0 (Wl.ys rfl rfl (Ys.l1 p3 4 1 0 Try.isAgg22) ?_))))
 refine Wl.ht rfl (Ht.made (mk := fun b_ => .slice (some ⟨b_, 0, none⟩) 6 6) (t := 22) (cs := [nV .u16 (hw ns), nV .u16 (lw ns), nV .u16 (hw nd), nV .u16 (lw nd), nV .u16 nf, nV .u16 nt]) rfl (fun _ => kr)) (fun p35 => Wl.run 1 ma0 (Wl.nil (hK9 _ _ _ (W.prune' [3, 5, 6] [pV p3 0, sV g3 zs.length, Value.slice (some ⟨p35, 0, none⟩) 6 6] ma0 (fun f10 => ?_)))))
 refine W.seq (fun K11 hK11 => W.region (Wl.run 1 ma0 (Wl.nil (hK11 _ _ _ ?_))))
 refine W.seq (fun K12 hK12 => W.seq (fun K13 hK13 => ?_))
 refine W.region (Wl.run 1 ma0 (Wl.ys (v := Value.pointer (some (ela g3.a 9))) rfl rfl (Ys.indexAddr (k := .i64) (a := g3.a) (len := zs.length) (cap := g3.cap) (i := 9) (sz := 1) rfl ma0 ma0 Try.runUnderlying25 Try.sizeOf5 ma1 ma1 (by rw [FS.a_own ((hn5 ma7))]; rfl)) (Wl.ys (v := nV .u8 ((zs.getD 9 0).toNat)) rfl rfl (Ys.ld (a := ela g3.a 9) rfl ma0 Try.isAgg5 (fun w_ h_ => (FS.at (i := 1) (t := 5) h_ rfl (FS.nil_cs ok4 (mc_len1 _))).ld (mc_get 0 ma7))) ?_)))
 have hb14 : (zs.getD 9 0).toNat < 256 := UInt8.toNat_lt _
 refine Wl.run 2 ma0 ?_
 refine Wl.guard (v := sV g3 zs.length) ((((zs.getD 9 0).toNat : Nat) : Int) == 17) rfl (wantT rfl ma0) rfl (fun hg15 => ?_) ?_
 ·exact Ys.pure (fun _ => kr)
 refine Wl.guardc (v := nV .u16 (w2 zs 26)) ((((zs.getD 9 0).toNat : Nat) : Int) == 17) rfl (wantT rfl ma0) rfl (fun hg16 => ?_) ?_
 ·have qhg16 := hg16; try simp only [zA] at qhg16
  refine Yc.at (t := 41) (v0 := sV g3 zs.length) (lz (g := ((zs.getD 9 0).toNat : Int) == 17) (u := undef) hg16 ma0) ?_
  exact Yc.call (fun _ => kr) (fun w_ hm_ => (rwordn_c zs g3.a g3.cap 26 zs.length _ ma5 (FS.at (i := 1) (t := 5) hm_ rfl (FS.nil_cs ok4 (mc_len1 _))) ma1 ma1 (by have z_ := ok4.le; first | exact z_ | omega | (simp at z_ ⊢; omega))))
 refine Wl.guard (v := bV (((w2 zs 26 : Nat) : Int) != 0)) ((((zs.getD 9 0).toNat : Nat) : Int) == 17) rfl (wantT rfl ma0) rfl (fun hg17 => ?_) ?_
 ·refine Ys.at (t := 42) (v0 := nV .u16 (w2 zs 26)) (lz (g := ((zs.getD 9 0).toNat : Int) == 17) (u := undef) hg17 ma0) ?_
  exact Ys.pure (fun _ => kr)
 refine Wl.ys (v := bV ((((zs.getD 9 0).toNat : Int) == 17) && (((w2 zs 26 : Nat) : Int) != 0))) rfl rfl (Ys.and (e := ((zs.getD 9 0).toNat : Int) == 17) (b := ((w2 zs 26 : Nat) : Int) != 0) rfl ma0 ma0 ma0) (Wl.nil (hK13 _ _ _ ?_))
 refine W.cond ((((zs.getD 9 0).toNat : Int) == 17) && (((w2 zs 26 : Nat) : Int) != 0)) ma0 (fun h18 => ?_) (fun h19 => ?_)
 ·(exfalso; have z_ := hU_.symm.trans h18; cases z_)
 ·have qh19 := h19; try simp only [zA] at qh19
  refine W.skip' (hK12 _ _ _ (W.seq (fun K20 hK20 => W.seq (fun K21 hK21 => W.region ?_))))
  refine Wl.run 1 ma0 (Wl.ys (v := Value.pointer (some (ela g3.a 9))) rfl rfl (Ys.indexAddr (k := .i64) (a := g3.a) (len := zs.length) (cap := g3.cap) (i := 9) (sz := 1) rfl ma0 ma0 Try.runUnderlying25 Try.sizeOf5 ma1 ma1 (by rw [FS.a_own ((hn5 ma7))]; rfl)) (Wl.ys (v := nV .u8 ((zs.getD 9 0).toNat)) rfl rfl (Ys.ld (a := ela g3.a 9) rfl ma0 Try.isAgg5 (fun w_ h_ => (FS.at (i := 1) (t := 5) h_ rfl (FS.nil_cs ok4 (mc_len1 _))).ld (mc_get 0 ma7))) ?_))
  have hb22 : (zs.getD 9 0).toNat < 256 := UInt8.toNat_lt _
  refine Wl.run 2 ma0 ?_
  refine Wl.guard (v := sV g3 zs.length) ((((zs.getD 9 0).toNat : Nat) : Int) == 6) rfl (wantT rfl ma0) rfl (fun hg23 => ?_) ?_
  ·exact Ys.pure (fun _ => kr)
  refine Wl.guard (v := nV .i64 zs.length) ((((zs.getD 9 0).toNat : Nat) : Int) == 6) rfl (wantT rfl ma0) rfl (fun hg24 => ?_) ?_
  ·refine Ys.at (t := 50) (v0 := sV g3 zs.length) (lz (g := ((zs.getD 9 0).toNat : Int) == 6) (u := undef) hg24 ma0) ?_
   exact Ys.pure (fun _ => kr)
  refine Wl.guard (v := bV (decide (((zs.length : Nat) : Int) ≥ 38))) ((((zs.getD 9 0).toNat : Nat) : Int) == 6) rfl (wantT rfl ma0) rfl (fun hg25 => ?_) ?_
  ·refine Ys.at (t := 51) (v0 := nV .i64 zs.length) (lz (g := ((zs.getD 9 0).toNat : Int) == 6) (u := undef) hg25 ma0) ?_
   exact Ys.pure (fun _ => kr)
  refine Wl.ys (v := bV ((((zs.getD 9 0).toNat : Int) == 6) && (decide (((zs.length : Nat) : Int) ≥ 38)))) rfl rfl (Ys.and (e := ((zs.getD 9 0).toNat : Int) == 6) (b := decide (((zs.length : Nat) : Int) ≥ 38)) rfl ma0 ma0 ma0) (Wl.nil (hK21 _ _ _ (W.prune' [3, 5, 6, 7, 53] [pV p3 0, sV g3 zs.length, Value.slice (some ⟨p35, 0, none⟩) 6 6, iV .i64 (-1), bV ((((zs.getD 9 0).toNat : Int) == 6) && (decide (((zs.length : Nat) : Int) ≥ 38)))] ma0 (fun f26 => ?_))))
  refine W.cond ((((zs.getD 9 0).toNat : Int) == 6) && (decide (((zs.length : Nat) : Int) ≥ 38))) ma0 (fun h27 => ?_) (fun h28 => ?_)
  ·have qh27 := h27; try simp only [zA] at qh27
   refine W.region (Wl.run 1 ma0 (Wl.nil (hK20 _ _ _ (W.seq (fun K29 hK29 => ?_)))))
   refine W.seq (fun K30 hK30 => W.region (Wl.run 1 ma0 (Wl.nil (hK30 _ _ _ ?_))))
   refine W.block (W.loop2 [3, 5, 6, 7, 8] (fun (i : Nat) (z : List UInt8) => [pV p3 0, sV g3 zs.length, Value.slice (some ⟨p35, 0, none⟩) 6 6, iV .i64 36, nV .i64 i]) (fun (i : Nat) (z : List UInt8) => i ≤ 6 ∧ rlp zs (nxL ns nd nf nt) false true 36 i = z ∧ z.length = zs.length ∧ z.getD 9 0 = zs.getD 9 0) (fun (i : Nat) (z : List UInt8) => [[cb p35 (mc n16 (nxL ns nd nf nt)) 22], g3.seg 5 (mc b8 z), cRe3_1649_0 nd nf ns nt p3 np]) (fun (i : Nat) (z : List UInt8) => 6 - i) 0 zs ma0 ⟨ma1, rfl, rfl, rfl⟩ (by rfl) (fun i z f32 J31 hp33 hJ31 => ?_))
   obtain ⟨hi, hz_, hlz_, h9_⟩ := hp33
   have hw12_ := w2_lt z (12 + 2 * i); have hnx_ : (nxL ns nd nf nt).length = 6 := rfl
   refine W.seq (fun K34 hK34 => W.seq (fun K35 hK35 => ?_))
   refine W.region (Wl.run 2 ma0 (Wl.nil (hK35 _ _ _ ?_)))
   refine W.cond (decide (((i : Nat) : Int) < 6)) ma0 (fun h36 => ?_) (fun h37 => ?_)
   ·have qh36 := h36; try simp only [zA] at qh36
    refine W.skip' (hK34 _ _ _ (W.seq (fun K38 hK38 => W.block (W.seq (fun K39 hK39 => ?_)))))
    refine W.region (Wl.run 1 ma0 (Wl.ys (v := nV .i64 (2 * i)) rfl rfl ((Ys.pure (v := .int .i64 (imul .i64 2 (i : Int))) (fun _ => kr)).conseq (int_congr (imul_eq ma39 ma1 ma1))) (Wl.ys (v := nV .i64 (12 + (2 * i))) rfl rfl ((Ys.pure (v := .int .i64 (iadd .i64 12 ((2 * i : Nat) : Int))) (fun _ => kr)).conseq (int_congr (iadd_eq ma1 ma1 ma1))) (Wl.run 1 ma0 ?_))))
    refine Wl.nil (hK39 _ _ _ (W.seq (fun K40 hK40 => W.seq (fun K41 hK41 => W.region ?_))))
    refine Wl.run 3 ma0 ?_
    refine Wl.guard (v := sV g3 zs.length) (decide (((i : Nat) : Int) > 3)) rfl (wantT rfl ma0) rfl (fun hg42 => ?_) ?_
    ·exact Ys.pure (fun _ => kr)
    refine Wl.guard (v := Value.pointer (some (ela g3.a 9))) (decide (((i : Nat) : Int) > 3)) rfl (wantT rfl ma0) rfl (fun hg43 => ?_) ?_
    ·have qhg43 := hg43; try simp only [zA] at qhg43
     refine Ys.at (t := 64) (v0 := sV g3 zs.length) (lz (g := decide (((i : Nat) : Int) > 3)) (u := undef) hg43 ma0) ?_
     exact Ys.indexAddr (k := .i64) (a := g3.a) (len := zs.length) (cap := g3.cap) (i := 9) (sz := 1) rfl ma0 ma0 Try.runUnderlying25 Try.sizeOf5 ma1 ma1 (by rw [FS.a_own ((hn5 ma7))]; rfl)
    refine Wl.guard (v := nV .u8 ((zs.getD 9 0).toNat)) (decide (((i : Nat) : Int) > 3)) rfl (wantT rfl ma0) rfl (fun hg44 => ?_) ?_
    ·have qhg44 := hg44; try simp only [zA] at qhg44
     refine Ys.at (t := 65) (v0 := Value.pointer (some (ela g3.a 9))) (lz (g := decide (((i : Nat) : Int) > 3)) (u := undef) hg44 ma0) ?_
     exact Ys.conseq (v := nV .u8 ((z.getD 9 0).toNat)) (int_congr (congrArg (fun x : UInt8 => (x.toNat : Int)) h9_)) (Ys.ld (a := ela g3.a 9) rfl ma0 Try.isAgg5 (fun w_ h_ => (FS.at (i := 1) (t := 5) h_ rfl (FS.nil_cs ok4 (mcl hlz_))).ld (mc_get 0 ma7)))
    refine Wl.guard (v := bV ((((zs.getD 9 0).toNat : Nat) : Int) == 1)) (decide (((i : Nat) : Int) > 3)) rfl (wantT rfl ma0) rfl (fun hg45 => ?_) ?_
    ·have qhg45 := hg45; try simp only [zA] at qhg45
     refine Ys.at (t := 66) (v0 := nV .u8 ((zs.getD 9 0).toNat)) (lz (g := decide (((i : Nat) : Int) > 3)) (u := undef) hg45 ma0) ?_
     exact Ys.pure (fun _ => kr)
    refine Wl.ys (v := bV ((decide (((i : Nat) : Int) > 3)) && ((((zs.getD 9 0).toNat : Nat) : Int) == 1))) rfl rfl (Ys.and (e := decide (((i : Nat) : Int) > 3)) (b := ((zs.getD 9 0).toNat : Int) == 1) rfl ma0 ma0 ma0) (Wl.nil (hK41 _ _ _ ?_))
    refine W.cond ((decide (((i : Nat) : Int) > 3)) && ((((zs.getD 9 0).toNat : Nat) : Int) == 1)) ma0 (fun h46 => ?_) (fun h47 => ?_)
    ·have qh46 := h46; try simp only [zA] at qh46
     (exfalso; have y_ := qh46; omega)
    ·have qh47 := h47; try simp only [zA] at qh47
     refine W.skip' (hK40 _ _ _ (W.seq (fun K48 hK48 => W.region (Wl.run 2 ma0 ?_))))
     refine Wl.yc (v := nV .u16 (w2 z (12 + (2 * i)))) rfl rfl (Yc.call (fun _ => kr) (fun w_ hm_ => (rwordn_c z g3.a g3.cap (12 + (2 * i)) zs.length _ ma5 (FS.at (i := 1) (t := 5) hm_ rfl (FS.nil_cs ok4 (mcl hlz_))) ma1 ma1 (by have z_ := ok4.le; first | exact z_ | omega | (simp at z_ ⊢; omega))))) (Wl.run 1 ma0 (Wl.nil (hK48 _ _ _ (W.prune' [3, 5, 6, 7, 8, 9, 10, 64, 65, 66, 67] [pV p3 0, sV g3 zs.length, Value.slice (some ⟨p35, 0, none⟩) 6 6, iV .i64 36, nV .i64 i, nV .i64 (12 + (2 * i)), nV .u16 (w2 z (12 + (2 * i))), (bif decide (((i : Nat) : Int) > 3) then sV g3 zs.length else undef), (bif decide (((i : Nat) : Int) > 3) then Value.pointer (some (ela g3.a 9)) else undef), (bif decide (((i : Nat) : Int) > 3) then nV .u8 ((zs.getD 9 0).toNat) else undef), (bif decide (((i : Nat) : Int) > 3) then bV ((((zs.getD 9 0).toNat : Nat) : Int) == 1) else undef)] ma0 (fun f49 => ?_)))))
     refine W.seq (fun K50 hK50 => W.seq (fun K51 hK51 => ?_))
     refine W.region (Wl.run 2 ma0 (Wl.nil (hK51 _ _ _ ?_)))
     refine W.cond (decide (((i : Nat) : Int) < 4)) ma0 (fun h52 => ?_) (fun h53 => ?_)
     ·have qh52 := h52; try simp only [zA] at qh52
      refine W.region (Wl.run 4 ma0 (Wl.ys (v := Value.pointer (some ⟨p35, i * 1, none⟩)) rfl rfl ((Ys.indexAddr (k := .i64) (a := some ⟨p35, 0, none⟩) (len := 6) (cap := 6) (i := (i : Int)) (sz := 1) rfl ma0 ma0 Try.runUnderlying123 Try.sizeOf22 ma1 ma1 rfl).conseq (congrArg (fun a => Value.pointer (some a)) (ela_own0 _ _))) (Wl.ys rfl rfl (Ys.load (b := p35) (o' := i * 1) (i := 0) (j := 0) (cs := mc n16 (nxL ns nd nf nt)) (v := nV .u16 ((nxL ns nd nf nt).getD i 0)) rfl ma0 Try.isAgg22 rfl rfl (mc_get1 0 ma1)) ?_)))
      have hb54 := nxL_lt hns hnd hnf hnt i
      obtain ⟨Z55, hZ56⟩ : ∃ Z, bput z 10 (upc (w2 z 10) (w2 z (12 + (2 * i))) ((nxL ns nd nf nt).getD i 0)) = Z := ⟨_, rfl⟩
      have hL57 : Z55.length = zs.length := (bput_lenZ hZ56).trans hlz_
      refine Wl.htS rfl (HtS.call (β := Unit) (k := 73) (args := #[sV g3 zs.length, iV .i64 10, nV .u16 (w2 z (12 + (2 * i))), nV .u16 ((nxL ns nd nf nt).getD i 0)]) (Lin := [g3.seg 5 (mc b8 z)]) (Lk := [[cb p35 (mc n16 (nxL ns nd nf nt)) 22], cRe3_1649_0 nd nf ns nt p3 np]) (Lo := fun _u => [g3.seg 5 (mc b8 Z55), [cb p35 (mc n16 (nxL ns nd nf nt)) 22], cRe3_1649_0 nd nf ns nt p3 np]) [1] [0, 2] rfl (fun _ => kr) ma3 rfl rfl rfl (fun w_ hm_ hl_ => (rchangen_c g3 z zs.length 10 (w2 z (12 + (2 * i))) ((nxL ns nd nf nt).getD i 0) _ _ Z55 hZ56 hlz_.symm hl_ ok4 (hn5 ma7) (kle hlz_ h0 ma3) (lez hlz_ hz) ma6 ma6)) (fun _ => rfl)) (fun _u _ => Wl.nil (hK50 _ _ _ (W.seq (fun K59 hK59 => W.seq (fun K60 hK60 => ?_)))))
      refine W.region (Wl.run 2 ma0 (Wl.nil (hK60 _ _ _ (W.prune' [3, 5, 6, 7, 8, 9, 10, 64, 65, 66, 67, 82] [pV p3 0, sV g3 zs.length, Value.slice (some ⟨p35, 0, none⟩) 6 6, iV .i64 36, nV .i64 i, nV .i64 (12 + (2 * i)), nV .u16 (w2 z (12 + (2 * i))), (bif decide (((i : Nat) : Int) > 3) then sV g3 zs.length else undef), (bif decide (((i : Nat) : Int) > 3) then Value.pointer (some (ela g3.a 9)) else undef), (bif decide (((i : Nat) : Int) > 3) then nV .u8 ((zs.getD 9 0).toNat) else undef), (bif decide (((i : Nat) : Int) > 3) then bV ((((zs.getD 9 0).toNat : Nat) : Int) == 1) else undef), bV true] ma0 (fun f61 => ?_)))))
      refine W.condT ma0 (W.region (Wl.run 5 ma0 (Wl.ys (v := Value.pointer (some ⟨p35, i * 1, none⟩)) rfl rfl ((Ys.indexAddr (k := .i64) (a := some ⟨p35, 0, none⟩) (len := 6) (cap := 6) (i := (i : Int)) (sz := 1) rfl ma0 ma0 Try.runUnderlying123 Try.sizeOf22 ma1 ma1 rfl).conseq (congrArg (fun a => Value.pointer (some a)) (ela_own0 _ _))) (Wl.ys rfl rfl (Ys.load (b := p35) (o' := i * 1) (i := 1) (j := 0) (cs := mc n16 (nxL ns nd nf nt)) (v := nV .u16 ((nxL ns nd nf nt).getD i 0)) rfl ma0 Try.isAgg22 rfl rfl (mc_get1 0 ma1)) ?_))))
      have hb62 := nxL_lt hns hnd hnf hnt i
      obtain ⟨Z63, hZ64⟩ : ∃ Z, bput Z55 36 (upc (w2 z 36) (w2 z (12 + (2 * i))) ((nxL ns nd nf nt).getD i 0)) = Z := ⟨_, rfl⟩
      have hL65 : Z63.length = zs.length := (bput_lenZ hZ64).trans hL57
      refine Wl.htS rfl (HtS.call (β := Unit) (k := 73) (args := #[sV g3 zs.length, iV .i64 36, nV .u16 (w2 z (12 + (2 * i))), nV .u16 ((nxL ns nd nf nt).getD i 0)]) (Lin := [g3.seg 5 (mc b8 Z55)]) (Lk := [[cb p35 (mc n16 (nxL ns nd nf nt)) 22], cRe3_1649_0 nd nf ns nt p3 np]) (Lo := fun _u => [g3.seg 5 (mc b8 Z63), [cb p35 (mc n16 (nxL ns nd nf nt)) 22], cRe3_1649_0 nd nf ns nt p3 np]) [0] [1, 2] rfl (fun _ => kr) ma3 rfl rfl rfl (fun w_ hm_ hl_ => (rchangen_c g3 Z55 zs.length 36 (w2 z (12 + (2 * i))) ((nxL ns nd nf nt).getD i 0) _ _ Z63 (by rw [(w2_ne hZ56 ma3)]; exact hZ64) hL57.symm hl_ ok4 (hn5 ma7) (kle hL57 h38_ ma3) (lez hL57 hz) ma6 ma6)) (fun _ => rfl)) (fun _u _ => Wl.nil (hK59 _ _ _ (W.prune' [3, 5, 6, 7, 8, 9, 64, 65, 66, 67] [pV p3 0, sV g3 zs.length, Value.slice (some ⟨p35, 0, none⟩) 6 6, iV .i64 36, nV .i64 i, nV .i64 (12 + (2 * i)), (bif decide (((i : Nat) : Int) > 3) then sV g3 zs.length else undef), (bif decide (((i : Nat) : Int) > 3) then Value.pointer (some (ela g3.a 9)) else undef), (bif decide (((i : Nat) : Int) > 3) then nV .u8 ((zs.getD 9 0).toNat) else undef), (bif decide (((i : Nat) : Int) > 3) then bV ((((zs.getD 9 0).toNat : Nat) : Int) == 1) else undef)] ma0 (fun f67 => W.region ?_))))
      refine Wl.run 4 ma0 (Wl.ys (v := Value.pointer (some ⟨p35, i * 1, none⟩)) rfl rfl ((Ys.indexAddr (k := .i64) (a := some ⟨p35, 0, none⟩) (len := 6) (cap := 6) (i := (i : Int)) (sz := 1) rfl ma0 ma0 Try.runUnderlying123 Try.sizeOf22 ma1 ma1 rfl).conseq (congrArg (fun a => Value.pointer (some a)) (ela_own0 _ _))) (Wl.ys rfl rfl (Ys.load (b := p35) (o' := i * 1) (i := 1) (j := 0) (cs := mc n16 (nxL ns nd nf nt)) (v := nV .u16 ((nxL ns nd nf nt).getD i 0)) rfl ma0 Try.isAgg22 rfl rfl (mc_get1 0 ma1)) ?_))
      have hb68 := nxL_lt hns hnd hnf hnt i
      obtain ⟨Z69, hZ70⟩ : ∃ Z, bput Z63 (12 + (2 * i)) ((nxL ns nd nf nt).getD i 0) = Z := ⟨_, rfl⟩
      have hL71 : Z69.length = zs.length := (bput_lenZ hZ70).trans hL65
      refine Wl.htS rfl (HtS.call (β := Unit) (k := 74) (args := #[sV g3 zs.length, nV .i64 (12 + (2 * i)), nV .u16 ((nxL ns nd nf nt).getD i 0)]) (Lin := [g3.seg 5 (mc b8 Z63)]) (Lk := [[cb p35 (mc n16 (nxL ns nd nf nt)) 22], cRe3_1649_0 nd nf ns nt p3 np]) (Lo := fun _u => [g3.seg 5 (mc b8 Z69), [cb p35 (mc n16 (nxL ns nd nf nt)) 22], cRe3_1649_0 nd nf ns nt p3 np]) [0] [1, 2] rfl (fun _ => kr) ma3 rfl rfl rfl (fun w_ hm_ hl_ => (rlayn_c g3 Z63 zs.length (12 + (2 * i)) ((nxL ns nd nf nt).getD i 0) _ _ Z69 hZ70 hL65.symm hl_ ok4 (hn5 ma7) ma1 (lez hL65 hz) ma6)) (fun _ => rfl)) (fun _u _ => Wl.nil (hK38 _ _ _ (W.region (Wl.run 1 ma0 ?_))))
      refine Wl.ys (v := nV .i64 (i + 1)) rfl rfl ((Ys.pure (v := .int .i64 (iadd .i64 (i : Int) 1)) (fun _ => kr)).conseq (int_congr (iadd_eq ma1 ma1 ma1))) (Wl.run 1 ma0 (Wl.nil ?_))
      have hs_ := rlp_s hz_ (show (decide (((i : Nat) : Int) > 3) && false) = false from Bool.and_false _)
      have hr_ : rlp zs (nxL ns nd nf nt) false true 36 (i + 1) = Z69 := by rw [hs_]; unfold rlS; rw [h52]; simp only [cond_true, cond_false]; rw [hZ56]; rw [hZ64]; rw [hZ70]
      refine fun w_ h_ => hJ31 (i + 1) Z69 _ w_ ma1 ⟨ma1, hr_, (by rw [hL71]), ((gd_ne hZ70 ma36).trans ((gd_ne hZ64 ma36).trans ((gd_ne hZ56 ma36).trans h9_)))⟩ ?_ (h_.pick [1, 0, 2] ma3 rfl)
      kernel_rfl
     ·have qh53 := h53; try simp only [zA] at qh53
      refine W.skip' (hK50 _ _ _ (W.seq (fun K73 hK73 => W.seq (fun K74 hK74 => W.region ?_))))
      refine Wl.run 2 ma0 (Wl.nil (hK74 _ _ _ (W.condT ma0 (W.region ?_))))
      refine Wl.run 5 ma0 (Wl.ys (v := Value.pointer (some ⟨p35, i * 1, none⟩)) rfl rfl ((Ys.indexAddr (k := .i64) (a := some ⟨p35, 0, none⟩) (len := 6) (cap := 6) (i := (i : Int)) (sz := 1) rfl ma0 ma0 Try.runUnderlying123 Try.sizeOf22 ma1 ma1 rfl).conseq (congrArg (fun a => Value.pointer (some a)) (ela_own0 _ _))) (Wl.ys rfl rfl (Ys.load (b := p35) (o' := i * 1) (i := 0) (j := 0) (cs := mc n16 (nxL ns nd nf nt)) (v := nV .u16 ((nxL ns nd nf nt).getD i 0)) rfl ma0 Try.isAgg22 rfl rfl (mc_get1 0 ma1)) ?_))
      have hb75 := nxL_lt hns hnd hnf hnt i
      obtain ⟨Z76, hZ77⟩ : ∃ Z, bput z 36 (upc (w2 z 36) (w2 z (12 + (2 * i))) ((nxL ns nd nf nt).getD i 0)) = Z := ⟨_, rfl⟩
      have hL78 : Z76.length = zs.length := (bput_lenZ hZ77).trans hlz_
      refine Wl.htS rfl (HtS.call (β := Unit) (k := 73) (args := #[sV g3 zs.length, iV .i64 36, nV .u16 (w2 z (12 + (2 * i))), nV .u16 ((nxL ns nd nf nt).getD i 0)]) (Lin := [g3.seg 5 (mc b8 z)]) (Lk := [[cb p35 (mc n16 (nxL ns nd nf nt)) 22], cRe3_1649_0 nd nf ns nt p3 np]) (Lo := fun _u => [g3.seg 5 (mc b8 Z76), [cb p35 (mc n16 (nxL ns nd nf nt)) 22], cRe3_1649_0 nd nf ns nt p3 np]) [1] [0, 2] rfl (fun _ => kr) ma3 rfl rfl rfl (fun w_ hm_ hl_ => (rchangen_c g3 z zs.length 36 (w2 z (12 + (2 * i))) ((nxL ns nd nf nt).getD i 0) _ _ Z76 hZ77 hlz_.symm hl_ ok4 (hn5 ma7) (kle hlz_ h38_ ma3) (lez hlz_ hz) ma6 ma6)) (fun _ => rfl)) (fun _u _ => Wl.nil (hK73 _ _ _ (W.prune' [3, 5, 6, 7, 8, 9, 64, 65, 66, 67] [pV p3 0, sV g3 zs.length, Value.slice (some ⟨p35, 0, none⟩) 6 6, iV .i64 36, nV .i64 i, nV .i64 (12 + (2 * i)), (bif decide (((i : Nat) : Int) > 3) then sV g3 zs.length else undef), (bif decide (((i : Nat) : Int) > 3) then Value.pointer (some (ela g3.a 9)) else undef), (bif decide (((i : Nat) : Int) > 3) then nV .u8 ((zs.getD 9 0).toNat) else undef), (bif decide (((i : Nat) : Int) > 3) then bV ((((zs.getD 9 0).toNat : Nat) : Int) == 1) else undef)] ma0 (fun f80 => W.region ?_))))
      refine Wl.run 4 ma0 (Wl.ys (v := Value.pointer (some ⟨p35, i * 1, none⟩)) rfl rfl ((Ys.indexAddr (k := .i64) (a := some ⟨p35, 0, none⟩) (len := 6) (cap := 6) (i := (i : Int)) (sz := 1) rfl ma0 ma0 Try.runUnderlying123 Try.sizeOf22 ma1 ma1 rfl).conseq (congrArg (fun a => Value.pointer (some a)) (ela_own0 _ _))) (Wl.ys rfl rfl (Ys.load (b := p35) (o' := i * 1) (i := 1) (j := 0) (cs := mc n16 (nxL ns nd nf nt)) (v := nV .u16 ((nxL ns nd nf nt).getD i 0)) rfl ma0 Try.isAgg22 rfl rfl (mc_get1 0 ma1)) ?_))
      have hb81 := nxL_lt hns hnd hnf hnt i
      obtain ⟨Z82, hZ83⟩ : ∃ Z, bput Z76 (12 + (2 * i)) ((nxL ns nd nf nt).getD i 0) = Z := ⟨_, rfl⟩
      have hL84 : Z82.length = zs.length := (bput_lenZ hZ83).trans hL78
      refine Wl.htS rfl (HtS.call (β := Unit) (k := 74) (args := #[sV g3 zs.length, nV .i64 (12 + (2 * i)), nV .u16 ((nxL ns nd nf nt).getD i 0)]) (Lin := [g3.seg 5 (mc b8 Z76)]) (Lk := [[cb p35 (mc n16 (nxL ns nd nf nt)) 22], cRe3_1649_0 nd nf ns nt p3 np]) (Lo := fun _u => [g3.seg 5 (mc b8 Z82), [cb p35 (mc n16 (nxL ns nd nf nt)) 22], cRe3_1649_0 nd nf ns nt p3 np]) [0] [1, 2] rfl (fun _ => kr) ma3 rfl rfl rfl (fun w_ hm_ hl_ => (rlayn_c g3 Z76 zs.length (12 + (2 * i)) ((nxL ns nd nf nt).getD i 0) _ _ Z82 hZ83 hL78.symm hl_ ok4 (hn5 ma7) ma1 (lez hL78 hz) ma6)) (fun _ => rfl)) (fun _u _ => Wl.nil (hK38 _ _ _ (W.region (Wl.run 1 ma0 ?_))))
      refine Wl.ys (v := nV .i64 (i + 1)) rfl rfl ((Ys.pure (v := .int .i64 (iadd .i64 (i : Int) 1)) (fun _ => kr)).conseq (int_congr (iadd_eq ma1 ma1 ma1))) (Wl.run 1 ma0 (Wl.nil ?_))
      have hs_ := rlp_s hz_ (show (decide (((i : Nat) : Int) > 3) && false) = false from Bool.and_false _)
      have hr_ : rlp zs (nxL ns nd nf nt) false true 36 (i + 1) = Z82 := by rw [hs_]; unfold rlS; rw [h53]; simp only [cond_true, cond_false]; rw [hZ77]; rw [hZ83]
      refine fun w_ h_ => hJ31 (i + 1) Z82 _ w_ ma1 ⟨ma1, hr_, (by rw [hL84]), ((gd_ne hZ83 ma36).trans ((gd_ne hZ77 ma36).trans h9_))⟩ ?_ (h_.pick [1, 0, 2] ma3 rfl)
      kernel_rfl
   ·have qh37 := h37; try simp only [zA] at qh37
    refine W.exit (hK29 _ _ _ (W.seq (fun K86 hK86 => W.seq (fun K87 hK87 => W.region ?_))))
    refine Wl.run 1 ma0 (Wl.ys (v := Value.pointer (some (ela g3.a 9))) rfl rfl (Ys.indexAddr (k := .i64) (a := g3.a) (len := zs.length) (cap := g3.cap) (i := 9) (sz := 1) rfl ma0 ma0 Try.runUnderlying25 Try.sizeOf5 ma1 ma1 (by rw [FS.a_own ((hn5 ma7))]; rfl)) (Wl.ys (v := nV .u8 ((zs.getD 9 0).toNat)) rfl rfl (Ys.conseq (v := nV .u8 ((z.getD 9 0).toNat)) (int_congr (congrArg (fun x : UInt8 => (x.toNat : Int)) h9_)) (Ys.ld (a := ela g3.a 9) rfl ma0 Try.isAgg5 (fun w_ h_ => (FS.at (i := 1) (t := 5) h_ rfl (FS.nil_cs ok4 (mcl hlz_))).ld (mc_get 0 ma7)))) ?_))
    have hb88 : (z.getD 9 0).toNat < 256 := UInt8.toNat_lt _
    refine Wl.run 1 ma0 (Wl.nil (hK87 _ _ _ ?_))
    refine W.cond ((((zs.getD 9 0).toNat : Nat) : Int) == 1) ma0 (fun h89 => ?_) (fun h90 => ?_)
    ·have qh89 := h89; try simp only [zA] at qh89
     (exfalso; have y_ := qh89; omega)
    ·have qh90 := h90; try simp only [zA] at qh90
     refine W.skip' (hK86 _ _ _ (W.seq (fun K91 hK91 => W.seq (fun K92 hK92 => W.region ?_))))
     refine Wl.run 3 ma0 (Wl.skip ma0 rfl (Wl.skip ma0 rfl (Wl.skip ma0 rfl (Wl.run 1 ma0 ?_))))
     refine Wl.nil (hK92 _ _ _ (W.pick (LL' := [g3.seg 5 (mc b8 z)]) [1] ma3 rfl (W.prune' [5, 124] [sV g3 zs.length, bV false] ma0 (fun f93 => W.condF ma0 ?_))))
     refine W.skip' (hK91 _ _ _ (W.seq (fun K94 hK94 => W.region (Wl.run 2 ma0 ?_))))
     refine Wl.nil (hK94 _ _ _ (W.ret ?_))
     obtain rfl : i = 6 := by omega
     have hz6_ := hz_.symm.trans (rlp_k ns nd nf nt 36 (.inr rfl) ma1)
     have hT2_ : (isT (zs.getD 9 0) && decide (((zs.length : Nat) : Int) ≥ 38)) = true := hT_
     have h1_ : isI (zs.getD 9 0) = false := by unfold isI; have z_ := qhT_; exact beq_eq_false_iff_ne.2 ma1
     have hU2_ : (isU (zs.getD 9 0) && (((w2 zs 26 : Nat) : Int) != 0)) = false := by unfold isU; have z_ := qhT_; rw [show ((((zs.getD 9 0).toNat : Nat) : Int) == 17) = false from beq_eq_false_iff_ne.2 ma1]; rfl
     have hB : rtB (zs.getD 9 0) (a4 zs 12) (a4 zs 16) (w2 zs 20) (w2 zs 22) ns nd nf nt zs = z := by unfold rtB; rw [h1_, hU2_, hT2_]; simp only [cond_true, cond_false]; exact hz6_.symm
     show ∀ w_, _ → bodyPostM (fence none) 0 Try.prog Try.f42 _ Exit.ret _ w_
     exact fun w_ hS_ => fin_ret (ret1 rfl (RV.tmp (v := sV g3 zs.length) ma0) hS_ ⟨g3, ⟨ok4, (hn5 ma7)⟩, rfl, (Mem.cast (by rw [hB]; rfl) (hS_.pick [0] ma3 rfl))⟩)
  ·(exfalso; have z_ := hT_.symm.trans h28; cases z_)
abbrev cRe3_1650_0 (nd nf ns nt p3 : Nat) (np : UInt8) : List Blk := [cb p3 [nV .u8 np.toNat, nV .u32 ns, nV .u32 nd, nV .u16 nf, nV .u16 nt] 30]
set_option maxHeartbeats 1000000 in
theorem rretN_c (zs : List UInt8) (a : Option Addr) (cap : Nat) (np : UInt8) (ns nd nf nt : Nat) (w : World) (hat : At w a (byc zs)) (h0 : 28 ≤ zs.length) (hz : zs.length ≤ 1000000) (hlc : zs.length ≤ cap) (h8 : isI (zs.getD 9 0) = true → zs.getD 20 0 = 8 ∨ zs.getD 20 0 = 0) (hns : ns < 4294967296) (hnd : nd < 4294967296) (hnf : nf < 65536) (hnt : nt < 65536) (hU_ : ((((zs.getD 9 0).toNat : Int) == 17) && (((w2 zs 26 : Nat) : Int) != 0)) = false) (hT_ : ((((zs.getD 9 0).toNat : Int) == 6) && (decide (((zs.length : Nat) : Int) ≥ 38))) = false) : Calls Try.prog 42 #[Value.slice a zs.length cap, aV [nV .u8 np.toNat, nV .u32 ns, nV .u32 nd, nV .u16 nf, nV .u16 nt]] w (RetM w (fun g : FS => g.ok 1 zs.length ∧ g.nil = false) (fun g => .slice g.a zs.length g.cap) [] (fun g => [g.seg 5 (byc (rtB (zs.getD 9 0) (a4 zs 12) (a4 zs 16) (w2 zs 20) (w2 zs 22) ns nd nf nt zs))])) := by
 have hcl_ := hlc
 refine calls_W (M := []) (LL := []) (n := 128) Try.func42 rfl rfl ma12 (Mem.refl _) (W.seq (fun K1 hK1 => ?_))
 refine W.region (Wl.ht rfl (Ht.box (v := aV [nV .u8 np.toNat, nV .u32 ns, nV .u32 nd, nV .u16 nf, nV .u16 nt]) (cs := [nV .u8 np.toNat, nV .u32 ns, nV .u32 nd, nV .u16 nf, nV .u16 nt]) rfl rfl ma0 rfl) (fun p3 => ?_))
 refine Wl.run 1 ma0 (Wl.nil (hK1 _ _ _ (W.seq (fun K2 hK2 => W.region ?_))))
 refine Wl.ht rfl (Ht.made (mk := fun b_ => .slice (some ⟨b_, 0, none⟩) 0 0) (t := 5) (cs := []) rfl (fun _ => kr)) (fun p12 => Wl.run 1 ma0 (Wl.htS rfl (HtS.append (eu := 5) (xv := Value.slice a zs.length cap) (i := 0) (g := (FS.mk false p12 0 [])) (e := 5) (ii := (Try.prog.info? 5).getD default) (z := iV .u8 0) (sz := 1) (bytes := 1) (nn := 0) (m := zs.length) (k := zs.length) (xs := mc b8 []) (news := mc b8 zs) (cs' := mc b8 zs) (Lo := fun g3 => [g3.seg 5 (mc b8 zs), cRe3_1650_0 nd nf ns nt p3 np]) rfl rfl ma0 ma0 ma0 ma0 ma0 ma0 ma0 ma0 ma0 rfl (FS.lit_ok ma3) ma23 (fun _ => rfl) (Src.at (a := a) (mc_len1 _) (fun w_ h_ => (hat.mem0 h_))) (mc_len1 _) (mc_one (fun _ => rfl) _) ma4 ma10 ma4 rfl (fun _ => rfl)) (fun g3 hx8 => ?_)))
 obtain ⟨ok4, hn5, hn6⟩ := hx8
 refine Wl.run 1 ma0 (Wl.nil (hK2 _ _ _ (W.seq (fun K9 hK9 => W.region ?_))))
 refine Wl.run 1 ma0 (Wl.ys rfl rfl (Ys.l1 p3 1 1 0 Try.isAgg24) (Wl.ys (v := nV .u32 (ns / 65536)) rfl rfl ((Ys.pure (v := .int .u32 (iquo .u32 (ns : Int) ((65536 : Nat) : Int))) (fun _ => kr)).conseq (int_congr (iquo_natu rfl ma24))) (Wl.ys (v := nV .u16 (hw ns)) rfl rfl (Ys.conseq (v := nV .u16 ((ns / 65536) % 65536)) (int_congr (rfl)) ((Ys.pure (v := .int .u16 (icnv .u16 ((ns / 65536 : Nat) : Int))) (fun _ => kr)).conseq (int_congr (icnv_mod rfl _)))) (Wl.run 1 ma0 ?_))))
 refine Wl.ys rfl rfl (Ys.l1 p3 1 1 0 Try.isAgg24) (Wl.ys (v := nV .u32 (ns % 65536)) rfl rfl ((Ys.pure (v := .int .u32 (irem (ns : Int) ((65536 : Nat) : Int))) (fun _ => kr)).conseq (int_congr (rfl))) (Wl.ys (v := nV .u16 (lw ns)) rfl rfl (Ys.conseq (v := nV .u16 ((ns % 65536) % 65536)) (int_congr (congrArg (fun n : Nat => (n : Int)) (Nat.mod_mod _ _))) ((Ys.pure (v := .int .u16 (icnv .u16 ((ns % 65536 : Nat) : Int))) (fun _ => kr)).conseq (int_congr (icnv_mod rfl _)))) (Wl.run 1 ma0 (Wl.ys rfl rfl (Ys.l1 p3 2 1 0 Try.isAgg24) ?_))))
 refine Wl.ys (v := nV .u32 (nd / 65536)) rfl rfl ((Ys.pure (v := .int .u32 (iquo .u32 (nd : Int) ((65536 : Nat) : Int))) (fun _ => kr)).conseq (int_congr (iquo_natu rfl ma24))) (Wl.ys (v := nV .u16 (hw nd)) rfl rfl (Ys.conseq (v := nV .u16 ((nd / 65536) % 65536)) (int_congr (rfl)) ((Ys.pure (v := .int .u16 (icnv .u16 ((nd / 65536 : Nat) : Int))) (fun _ => kr)).conseq (int_congr (icnv_mod rfl _)))) (Wl.run 1 ma0 (Wl.ys rfl rfl (Ys.l1 p3 2 1 0 Try.isAgg24) (Wl.ys (v := nV .u32 (nd % 65536)) rfl rfl ((Ys.pure (v := .int .u32 (irem (nd : Int) ((65536 : Nat) : Int))) (fun _ => kr)).conseq (int_congr (rfl))) ?_))))
 refine Wl.ys (v := nV .u16 (lw nd)) rfl rfl (Ys.conseq (v := nV .u16 ((nd % 65536) % 65536)) (int_congr (congrArg (fun n : Nat => (n : Int)) (Nat.mod_mod _ _))) ((Ys.pure (v := .int .u16 (icnv .u16 ((nd % 65536 : Nat) : Int))) (fun _ => kr)).conseq (int_congr (icnv_mod rfl _)))) (Wl.run 1 ma0 (Wl.ys rfl rfl (Ys.l1 p3 3 1 0 Try.isAgg22) (Wl.run 1 ma0 (Wl.ys rfl rfl (Ys.l1 p3 4 1 0 Try.isAgg22) ?_))))
 refine Wl.ht rfl (Ht.made (mk := fun b_ => .slice (some ⟨b_, 0, none⟩) 6 6) (t := 22) (cs := [nV .u16 (hw ns), nV .u16 (lw ns), nV .u16 (hw nd), nV .u16 (lw nd), nV .u16 nf, nV .u16 nt]) rfl (fun _ => kr)) (fun p35 => Wl.run 1 ma0 (Wl.nil (hK9 _ _ _ (W.prune' [3, 5, 6] [pV p3 0, sV g3 zs.length, Value.slice (some ⟨p35, 0, none⟩) 6 6] ma0 (fun f10 => ?_)))))
 refine W.seq (fun K11 hK11 => W.region (Wl.run 1 ma0 (Wl.nil (hK11 _ _ _ ?_))))
 refine W.seq (fun K12 hK12 => W.seq (fun K13 hK13 => ?_))
 refine W.region (Wl.run 1 ma0 (Wl.ys (v := Value.pointer (some (ela g3.a 9))) rfl rfl (Ys.indexAddr (k := .i64) (a := g3.a) (len := zs.length) (cap := g3.cap) (i := 9) (sz := 1) rfl ma0 ma0 Try.runUnderlying25 Try.sizeOf5 ma1 ma1 (by rw [FS.a_own ((hn5 ma7))]; rfl)) (Wl.ys (v := nV .u8 ((zs.getD 9 0).toNat)) rfl rfl (Ys.ld (a := ela g3.a 9) rfl ma0 Try.isAgg5 (fun w_ h_ => (FS.at (i := 1) (t := 5) h_ rfl (FS.nil_cs ok4 (mc_len1 _))).ld (mc_get 0 ma7))) ?_)))
 have hb14 : (zs.getD 9 0).toNat < 256 := UInt8.toNat_lt _
 refine Wl.run 2 ma0 ?_
 refine Wl.guard (v := sV g3 zs.length) ((((zs.getD 9 0).toNat : Nat) : Int) == 17) rfl (wantT rfl ma0) rfl (fun hg15 => ?_) ?_
 ·exact Ys.pure (fun _ => kr)
 refine Wl.guardc (v := nV .u16 (w2 zs 26)) ((((zs.getD 9 0).toNat : Nat) : Int) == 17) rfl (wantT rfl ma0) rfl (fun hg16 => ?_) ?_
 ·have qhg16 := hg16; try simp only [zA] at qhg16
  refine Yc.at (t := 41) (v0 := sV g3 zs.length) (lz (g := ((zs.getD 9 0).toNat : Int) == 17) (u := undef) hg16 ma0) ?_
  exact Yc.call (fun _ => kr) (fun w_ hm_ => (rwordn_c zs g3.a g3.cap 26 zs.length _ ma5 (FS.at (i := 1) (t := 5) hm_ rfl (FS.nil_cs ok4 (mc_len1 _))) ma1 ma1 (by have z_ := ok4.le; first | exact z_ | omega | (simp at z_ ⊢; omega))))
 refine Wl.guard (v := bV (((w2 zs 26 : Nat) : Int) != 0)) ((((zs.getD 9 0).toNat : Nat) : Int) == 17) rfl (wantT rfl ma0) rfl (fun hg17 => ?_) ?_
 ·refine Ys.at (t := 42) (v0 := nV .u16 (w2 zs 26)) (lz (g := ((zs.getD 9 0).toNat : Int) == 17) (u := undef) hg17 ma0) ?_
  exact Ys.pure (fun _ => kr)
 refine Wl.ys (v := bV ((((zs.getD 9 0).toNat : Int) == 17) && (((w2 zs 26 : Nat) : Int) != 0))) rfl rfl (Ys.and (e := ((zs.getD 9 0).toNat : Int) == 17) (b := ((w2 zs 26 : Nat) : Int) != 0) rfl ma0 ma0 ma0) (Wl.nil (hK13 _ _ _ ?_))
 refine W.cond ((((zs.getD 9 0).toNat : Int) == 17) && (((w2 zs 26 : Nat) : Int) != 0)) ma0 (fun h18 => ?_) (fun h19 => ?_)
 ·(exfalso; have z_ := hU_.symm.trans h18; cases z_)
 ·have qh19 := h19; try simp only [zA] at qh19
  refine W.skip' (hK12 _ _ _ (W.seq (fun K20 hK20 => W.seq (fun K21 hK21 => W.region ?_))))
  refine Wl.run 1 ma0 (Wl.ys (v := Value.pointer (some (ela g3.a 9))) rfl rfl (Ys.indexAddr (k := .i64) (a := g3.a) (len := zs.length) (cap := g3.cap) (i := 9) (sz := 1) rfl ma0 ma0 Try.runUnderlying25 Try.sizeOf5 ma1 ma1 (by rw [FS.a_own ((hn5 ma7))]; rfl)) (Wl.ys (v := nV .u8 ((zs.getD 9 0).toNat)) rfl rfl (Ys.ld (a := ela g3.a 9) rfl ma0 Try.isAgg5 (fun w_ h_ => (FS.at (i := 1) (t := 5) h_ rfl (FS.nil_cs ok4 (mc_len1 _))).ld (mc_get 0 ma7))) ?_))
  have hb22 : (zs.getD 9 0).toNat < 256 := UInt8.toNat_lt _
  refine Wl.run 2 ma0 ?_
  refine Wl.guard (v := sV g3 zs.length) ((((zs.getD 9 0).toNat : Nat) : Int) == 6) rfl (wantT rfl ma0) rfl (fun hg23 => ?_) ?_
  ·exact Ys.pure (fun _ => kr)
  refine Wl.guard (v := nV .i64 zs.length) ((((zs.getD 9 0).toNat : Nat) : Int) == 6) rfl (wantT rfl ma0) rfl (fun hg24 => ?_) ?_
  ·refine Ys.at (t := 50) (v0 := sV g3 zs.length) (lz (g := ((zs.getD 9 0).toNat : Int) == 6) (u := undef) hg24 ma0) ?_
   exact Ys.pure (fun _ => kr)
  refine Wl.guard (v := bV (decide (((zs.length : Nat) : Int) ≥ 38))) ((((zs.getD 9 0).toNat : Nat) : Int) == 6) rfl (wantT rfl ma0) rfl (fun hg25 => ?_) ?_
  ·refine Ys.at (t := 51) (v0 := nV .i64 zs.length) (lz (g := ((zs.getD 9 0).toNat : Int) == 6) (u := undef) hg25 ma0) ?_
   exact Ys.pure (fun _ => kr)
  refine Wl.ys (v := bV ((((zs.getD 9 0).toNat : Int) == 6) && (decide (((zs.length : Nat) : Int) ≥ 38)))) rfl rfl (Ys.and (e := ((zs.getD 9 0).toNat : Int) == 6) (b := decide (((zs.length : Nat) : Int) ≥ 38)) rfl ma0 ma0 ma0) (Wl.nil (hK21 _ _ _ (W.prune' [3, 5, 6, 7, 53] [pV p3 0, sV g3 zs.length, Value.slice (some ⟨p35, 0, none⟩) 6 6, iV .i64 (-1), bV ((((zs.getD 9 0).toNat : Int) == 6) && (decide (((zs.length : Nat) : Int) ≥ 38)))] ma0 (fun f26 => ?_))))
  refine W.cond ((((zs.getD 9 0).toNat : Int) == 6) && (decide (((zs.length : Nat) : Int) ≥ 38))) ma0 (fun h27 => ?_) (fun h28 => ?_)
  ·(exfalso; have z_ := hT_.symm.trans h27; cases z_)
  ·have qh28 := h28; try simp only [zA] at qh28
   refine W.skip' (hK20 _ _ _ (W.seq (fun K29 hK29 => W.seq (fun K30 hK30 => W.region ?_))))
   refine Wl.run 1 ma0 (Wl.nil (hK30 _ _ _ (W.block (W.loop2 [3, 5, 6, 7, 8] (fun (i : Nat) (z : List UInt8) => [pV p3 0, sV g3 zs.length, Value.slice (some ⟨p35, 0, none⟩) 6 6, iV .i64 (-1), nV .i64 i]) (fun (i : Nat) (z : List UInt8) => i ≤ 6 ∧ rlp zs (nxL ns nd nf nt) (isI (zs.getD 9 0)) false 0 i = z ∧ z.length = zs.length ∧ z.getD 9 0 = zs.getD 9 0 ∧ (isI (zs.getD 9 0) = true → z.getD 20 0 = zs.getD 20 0)) (fun (i : Nat) (z : List UInt8) => [[cb p35 (mc n16 (nxL ns nd nf nt)) 22], g3.seg 5 (mc b8 z), cRe3_1650_0 nd nf ns nt p3 np]) (fun (i : Nat) (z : List UInt8) => 6 - i) 0 zs ma0 ⟨ma1, rfl, rfl, rfl, (fun _ => rfl)⟩ (by rfl) (fun i z f32 J31 hp33 hJ31 => ?_)))))
   obtain ⟨hi, hz_, hlz_, h9_, h20_⟩ := hp33
   have hw12_ := w2_lt z (12 + 2 * i); have hnx_ : (nxL ns nd nf nt).length = 6 := rfl
   refine W.seq (fun K34 hK34 => W.seq (fun K35 hK35 => ?_))
   refine W.region (Wl.run 2 ma0 (Wl.nil (hK35 _ _ _ ?_)))
   refine W.cond (decide (((i : Nat) : Int) < 6)) ma0 (fun h36 => ?_) (fun h37 => ?_)
   ·have qh36 := h36; try simp only [zA] at qh36
    refine W.skip' (hK34 _ _ _ (W.seq (fun K38 hK38 => W.block (W.seq (fun K39 hK39 => ?_)))))
    refine W.region (Wl.run 1 ma0 (Wl.ys (v := nV .i64 (2 * i)) rfl rfl ((Ys.pure (v := .int .i64 (imul .i64 2 (i : Int))) (fun _ => kr)).conseq (int_congr (imul_eq ma39 ma1 ma1))) (Wl.ys (v := nV .i64 (12 + (2 * i))) rfl rfl ((Ys.pure (v := .int .i64 (iadd .i64 12 ((2 * i : Nat) : Int))) (fun _ => kr)).conseq (int_congr (iadd_eq ma1 ma1 ma1))) (Wl.run 1 ma0 ?_))))
    refine Wl.nil (hK39 _ _ _ (W.seq (fun K40 hK40 => W.seq (fun K41 hK41 => W.region ?_))))
    refine Wl.run 3 ma0 ?_
    refine Wl.guard (v := sV g3 zs.length) (decide (((i : Nat) : Int) > 3)) rfl (wantT rfl ma0) rfl (fun hg42 => ?_) ?_
    ·exact Ys.pure (fun _ => kr)
    refine Wl.guard (v := Value.pointer (some (ela g3.a 9))) (decide (((i : Nat) : Int) > 3)) rfl (wantT rfl ma0) rfl (fun hg43 => ?_) ?_
    ·have qhg43 := hg43; try simp only [zA] at qhg43
     refine Ys.at (t := 64) (v0 := sV g3 zs.length) (lz (g := decide (((i : Nat) : Int) > 3)) (u := undef) hg43 ma0) ?_
     exact Ys.indexAddr (k := .i64) (a := g3.a) (len := zs.length) (cap := g3.cap) (i := 9) (sz := 1) rfl ma0 ma0 Try.runUnderlying25 Try.sizeOf5 ma1 ma1 (by rw [FS.a_own ((hn5 ma7))]; rfl)
    refine Wl.guard (v := nV .u8 ((zs.getD 9 0).toNat)) (decide (((i : Nat) : Int) > 3)) rfl (wantT rfl ma0) rfl (fun hg44 => ?_) ?_
    ·have qhg44 := hg44; try simp only [zA] at qhg44
     refine Ys.at (t := 65) (v0 := Value.pointer (some (ela g3.a 9))) (lz (g := decide (((i : Nat) : Int) > 3)) (u := undef) hg44 ma0) ?_
     exact Ys.conseq (v := nV .u8 ((z.getD 9 0).toNat)) (int_congr (congrArg (fun x : UInt8 => (x.toNat : Int)) h9_)) (Ys.ld (a := ela g3.a 9) rfl ma0 Try.isAgg5 (fun w_ h_ => (FS.at (i := 1) (t := 5) h_ rfl (FS.nil_cs ok4 (mcl hlz_))).ld (mc_get 0 ma7)))
    refine Wl.guard (v := bV ((((zs.getD 9 0).toNat : Nat) : Int) == 1)) (decide (((i : Nat) : Int) > 3)) rfl (wantT rfl ma0) rfl (fun hg45 => ?_) ?_
    ·have qhg45 := hg45; try simp only [zA] at qhg45
     refine Ys.at (t := 66) (v0 := nV .u8 ((zs.getD 9 0).toNat)) (lz (g := decide (((i : Nat) : Int) > 3)) (u := undef) hg45 ma0) ?_
     exact Ys.pure (fun _ => kr)
    refine Wl.ys (v := bV ((decide (((i : Nat) : Int) > 3)) && ((((zs.getD 9 0).toNat : Nat) : Int) == 1))) rfl rfl (Ys.and (e := decide (((i : Nat) : Int) > 3)) (b := ((zs.getD 9 0).toNat : Int) == 1) rfl ma0 ma0 ma0) (Wl.nil (hK41 _ _ _ ?_))
    refine W.cond ((decide (((i : Nat) : Int) > 3)) && ((((zs.getD 9 0).toNat : Nat) : Int) == 1)) ma0 (fun h46 => ?_) (fun h47 => ?_)
    ·have qh46 := h46; try simp only [zA] at qh46
     refine W.exit (hK38 _ _ _ (W.prune' [3, 5, 6, 7, 8, 64, 65, 66, 67] [pV p3 0, sV g3 zs.length, Value.slice (some ⟨p35, 0, none⟩) 6 6, iV .i64 (-1), nV .i64 i, (bif decide (((i : Nat) : Int) > 3) then sV g3 zs.length else undef), (bif decide (((i : Nat) : Int) > 3) then Value.pointer (some (ela g3.a 9)) else undef), (bif decide (((i : Nat) : Int) > 3) then nV .u8 ((zs.getD 9 0).toNat) else undef), (bif decide (((i : Nat) : Int) > 3) then bV ((((zs.getD 9 0).toNat : Nat) : Int) == 1) else undef)] ma0 (fun f48 => W.region (Wl.run 1 ma0 ?_))))
     refine Wl.ys (v := nV .i64 (i + 1)) rfl rfl ((Ys.pure (v := .int .i64 (iadd .i64 (i : Int) 1)) (fun _ => kr)).conseq (int_congr (iadd_eq ma1 ma1 ma1))) (Wl.run 1 ma0 (Wl.nil ?_))
     refine fun w_ h_ => hJ31 (i + 1) z _ w_ ma1 ⟨ma1, (rlp_1 hz_ h46), hlz_, h9_, h20_⟩ ?_ h_
     kernel_rfl
    ·have qh47 := h47; try simp only [zA] at qh47
     refine W.skip' (hK40 _ _ _ (W.seq (fun K49 hK49 => W.region (Wl.run 2 ma0 ?_))))
     refine Wl.yc (v := nV .u16 (w2 z (12 + (2 * i)))) rfl rfl (Yc.call (fun _ => kr) (fun w_ hm_ => (rwordn_c z g3.a g3.cap (12 + (2 * i)) zs.length _ ma5 (FS.at (i := 1) (t := 5) hm_ rfl (FS.nil_cs ok4 (mcl hlz_))) ma1 ma1 (by have z_ := ok4.le; first | exact z_ | omega | (simp at z_ ⊢; omega))))) (Wl.run 1 ma0 (Wl.nil (hK49 _ _ _ (W.prune' [3, 5, 6, 7, 8, 9, 10, 64, 65, 66, 67] [pV p3 0, sV g3 zs.length, Value.slice (some ⟨p35, 0, none⟩) 6 6, iV .i64 (-1), nV .i64 i, nV .i64 (12 + (2 * i)), nV .u16 (w2 z (12 + (2 * i))), (bif decide (((i : Nat) : Int) > 3) then sV g3 zs.length else undef), (bif decide (((i : Nat) : Int) > 3) then Value.pointer (some (ela g3.a 9)) else undef), (bif decide (((i : Nat) : Int) > 3) then nV .u8 ((zs.getD 9 0).toNat) else undef), (bif decide (((i : Nat) : Int) > 3) then bV ((((zs.getD 9 0).toNat : Nat) : Int) == 1) else undef)] ma0 (fun f50 => ?_)))))
     refine W.seq (fun K51 hK51 => W.seq (fun K52 hK52 => ?_))
     refine W.region (Wl.run 2 ma0 (Wl.nil (hK52 _ _ _ ?_)))
     refine W.cond (decide (((i : Nat) : Int) < 4)) ma0 (fun h53 => ?_) (fun h54 => ?_)
     ·have qh53 := h53; try simp only [zA] at qh53
      refine W.region (Wl.run 4 ma0 (Wl.ys (v := Value.pointer (some ⟨p35, i * 1, none⟩)) rfl rfl ((Ys.indexAddr (k := .i64) (a := some ⟨p35, 0, none⟩) (len := 6) (cap := 6) (i := (i : Int)) (sz := 1) rfl ma0 ma0 Try.runUnderlying123 Try.sizeOf22 ma1 ma1 rfl).conseq (congrArg (fun a => Value.pointer (some a)) (ela_own0 _ _))) (Wl.ys rfl rfl (Ys.load (b := p35) (o' := i * 1) (i := 0) (j := 0) (cs := mc n16 (nxL ns nd nf nt)) (v := nV .u16 ((nxL ns nd nf nt).getD i 0)) rfl ma0 Try.isAgg22 rfl rfl (mc_get1 0 ma1)) ?_)))
      have hb55 := nxL_lt hns hnd hnf hnt i
      obtain ⟨Z56, hZ57⟩ : ∃ Z, bput z 10 (upc (w2 z 10) (w2 z (12 + (2 * i))) ((nxL ns nd nf nt).getD i 0)) = Z := ⟨_, rfl⟩
      have hL58 : Z56.length = zs.length := (bput_lenZ hZ57).trans hlz_
      refine Wl.htS rfl (HtS.call (β := Unit) (k := 73) (args := #[sV g3 zs.length, iV .i64 10, nV .u16 (w2 z (12 + (2 * i))), nV .u16 ((nxL ns nd nf nt).getD i 0)]) (Lin := [g3.seg 5 (mc b8 z)]) (Lk := [[cb p35 (mc n16 (nxL ns nd nf nt)) 22], cRe3_1650_0 nd nf ns nt p3 np]) (Lo := fun _u => [g3.seg 5 (mc b8 Z56), [cb p35 (mc n16 (nxL ns nd nf nt)) 22], cRe3_1650_0 nd nf ns nt p3 np]) [1] [0, 2] rfl (fun _ => kr) ma3 rfl rfl rfl (fun w_ hm_ hl_ => (rchangen_c g3 z zs.length 10 (w2 z (12 + (2 * i))) ((nxL ns nd nf nt).getD i 0) _ _ Z56 hZ57 hlz_.symm hl_ ok4 (hn5 ma7) (kle hlz_ h0 ma3) (lez hlz_ hz) ma6 ma6)) (fun _ => rfl)) (fun _u _ => Wl.nil (hK51 _ _ _ (W.seq (fun K60 hK60 => W.seq (fun K61 hK61 => ?_)))))
      refine W.region (Wl.run 2 ma0 (Wl.nil (hK61 _ _ _ (W.prune' [3, 5, 6, 7, 8, 9, 10, 64, 65, 66, 67, 82] [pV p3 0, sV g3 zs.length, Value.slice (some ⟨p35, 0, none⟩) 6 6, iV .i64 (-1), nV .i64 i, nV .i64 (12 + (2 * i)), nV .u16 (w2 z (12 + (2 * i))), (bif decide (((i : Nat) : Int) > 3) then sV g3 zs.length else undef), (bif decide (((i : Nat) : Int) > 3) then Value.pointer (some (ela g3.a 9)) else undef), (bif decide (((i : Nat) : Int) > 3) then nV .u8 ((zs.getD 9 0).toNat) else undef), (bif decide (((i : Nat) : Int) > 3) then bV ((((zs.getD 9 0).toNat : Nat) : Int) == 1) else undef), bV false] ma0 (fun f62 => ?_)))))
      refine W.condF ma0 (W.skip' (hK60 _ _ _ (W.region (Wl.run 4 ma0 ?_))))
      refine Wl.ys (v := Value.pointer (some ⟨p35, i * 1, none⟩)) rfl rfl ((Ys.indexAddr (k := .i64) (a := some ⟨p35, 0, none⟩) (len := 6) (cap := 6) (i := (i : Int)) (sz := 1) rfl ma0 ma0 Try.runUnderlying123 Try.sizeOf22 ma1 ma1 rfl).conseq (congrArg (fun a => Value.pointer (some a)) (ela_own0 _ _))) (Wl.ys rfl rfl (Ys.load (b := p35) (o' := i * 1) (i := 1) (j := 0) (cs := mc n16 (nxL ns nd nf nt)) (v := nV .u16 ((nxL ns nd nf nt).getD i 0)) rfl ma0 Try.isAgg22 rfl rfl (mc_get1 0 ma1)) ?_)
      have hb63 := nxL_lt hns hnd hnf hnt i
      obtain ⟨Z64, hZ65⟩ : ∃ Z, bput Z56 (12 + (2 * i)) ((nxL ns nd nf nt).getD i 0) = Z := ⟨_, rfl⟩
      have hL66 : Z64.length = zs.length := (bput_lenZ hZ65).trans hL58
      refine Wl.htS rfl (HtS.call (β := Unit) (k := 74) (args := #[sV g3 zs.length, nV .i64 (12 + (2 * i)), nV .u16 ((nxL ns nd nf nt).getD i 0)]) (Lin := [g3.seg 5 (mc b8 Z56)]) (Lk := [[cb p35 (mc n16 (nxL ns nd nf nt)) 22], cRe3_1650_0 nd nf ns nt p3 np]) (Lo := fun _u => [g3.seg 5 (mc b8 Z64), [cb p35 (mc n16 (nxL ns nd nf nt)) 22], cRe3_1650_0 nd nf ns nt p3 np]) [0] [1, 2] rfl (fun _ => kr) ma3 rfl rfl rfl (fun w_ hm_ hl_ => (rlayn_c g3 Z56 zs.length (12 + (2 * i)) ((nxL ns nd nf nt).getD i 0) _ _ Z64 hZ65 hL58.symm hl_ ok4 (hn5 ma7) ma1 (lez hL58 hz) ma6)) (fun _ => rfl)) (fun _u _ => Wl.nil (hK38 _ _ _ (W.prune' [3, 5, 6, 7, 8, 64, 65, 66, 67] [pV p3 0, sV g3 zs.length, Value.slice (some ⟨p35, 0, none⟩) 6 6, iV .i64 (-1), nV .i64 i, (bif decide (((i : Nat) : Int) > 3) then sV g3 zs.length else undef), (bif decide (((i : Nat) : Int) > 3) then Value.pointer (some (ela g3.a 9)) else undef), (bif decide (((i : Nat) : Int) > 3) then nV .u8 ((zs.getD 9 0).toNat) else undef), (bif decide (((i : Nat) : Int) > 3) then bV ((((zs.getD 9 0).toNat : Nat) : Int) == 1) else undef)] ma0 (fun f68 => W.region ?_))))
      refine Wl.run 1 ma0 (Wl.ys (v := nV .i64 (i + 1)) rfl rfl ((Ys.pure (v := .int .i64 (iadd .i64 (i : Int) 1)) (fun _ => kr)).conseq (int_congr (iadd_eq ma1 ma1 ma1))) (Wl.run 1 ma0 (Wl.nil ?_)))
      have hs_ := rlp_s hz_ (show (decide (((i : Nat) : Int) > 3) && (isI (zs.getD 9 0))) = false from h47)
      have hr_ : rlp zs (nxL ns nd nf nt) (isI (zs.getD 9 0)) false 0 (i + 1) = Z64 := by rw [hs_]; unfold rlS; rw [h53]; simp only [cond_true, cond_false]; rw [hZ57]; rw [hZ65]
      refine fun w_ h_ => hJ31 (i + 1) Z64 _ w_ ma1 ⟨ma1, hr_, (by rw [hL66]), ((gd_ne hZ65 ma36).trans ((gd_ne hZ57 ma36).trans h9_)), (fun e_ => ((gd_ne hZ65 ma36).trans ((gd_ne hZ57 ma36).trans (h20_ e_))))⟩ ?_ (h_.pick [1, 0, 2] ma3 rfl)
      kernel_rfl
     ·have qh54 := h54; try simp only [zA] at qh54
      refine W.skip' (hK51 _ _ _ (W.seq (fun K69 hK69 => W.seq (fun K70 hK70 => W.region ?_))))
      refine Wl.run 2 ma0 (Wl.nil (hK70 _ _ _ (W.condF ma0 (W.skip' ?_))))
      refine hK69 _ _ _ (W.region (Wl.run 4 ma0 (Wl.ys (v := Value.pointer (some ⟨p35, i * 1, none⟩)) rfl rfl ((Ys.indexAddr (k := .i64) (a := some ⟨p35, 0, none⟩) (len := 6) (cap := 6) (i := (i : Int)) (sz := 1) rfl ma0 ma0 Try.runUnderlying123 Try.sizeOf22 ma1 ma1 rfl).conseq (congrArg (fun a => Value.pointer (some a)) (ela_own0 _ _))) (Wl.ys rfl rfl (Ys.load (b := p35) (o' := i * 1) (i := 0) (j := 0) (cs := mc n16 (nxL ns nd nf nt)) (v := nV .u16 ((nxL ns nd nf nt).getD i 0)) rfl ma0 Try.isAgg22 rfl rfl (mc_get1 0 ma1)) ?_))))
      have hb71 := nxL_lt hns hnd hnf hnt i
      obtain ⟨Z72, hZ73⟩ : ∃ Z, bput z (12 + (2 * i)) ((nxL ns nd nf nt).getD i 0) = Z := ⟨_, rfl⟩
      have hL74 : Z72.length = zs.length := (bput_lenZ hZ73).trans hlz_
      refine Wl.htS rfl (HtS.call (β := Unit) (k := 74) (args := #[sV g3 zs.length, nV .i64 (12 + (2 * i)), nV .u16 ((nxL ns nd nf nt).getD i 0)]) (Lin := [g3.seg 5 (mc b8 z)]) (Lk := [[cb p35 (mc n16 (nxL ns nd nf nt)) 22], cRe3_1650_0 nd nf ns nt p3 np]) (Lo := fun _u => [g3.seg 5 (mc b8 Z72), [cb p35 (mc n16 (nxL ns nd nf nt)) 22], cRe3_1650_0 nd nf ns nt p3 np]) [1] [0, 2] rfl (fun _ => kr) ma3 rfl rfl rfl (fun w_ hm_ hl_ => (rlayn_c g3 z zs.length (12 + (2 * i)) ((nxL ns nd nf nt).getD i 0) _ _ Z72 hZ73 hlz_.symm hl_ ok4 (hn5 ma7) ma1 (lez hlz_ hz) ma6)) (fun _ => rfl)) (fun _u _ => Wl.nil (hK38 _ _ _ (W.prune' [3, 5, 6, 7, 8, 64, 65, 66, 67] [pV p3 0, sV g3 zs.length, Value.slice (some ⟨p35, 0, none⟩) 6 6, iV .i64 (-1), nV .i64 i, (bif decide (((i : Nat) : Int) > 3) then sV g3 zs.length else undef), (bif decide (((i : Nat) : Int) > 3) then Value.pointer (some (ela g3.a 9)) else undef), (bif decide (((i : Nat) : Int) > 3) then nV .u8 ((zs.getD 9 0).toNat) else undef), (bif decide (((i : Nat) : Int) > 3) then bV ((((zs.getD 9 0).toNat : Nat) : Int) == 1) else undef)] ma0 (fun f76 => W.region ?_))))
      refine Wl.run 1 ma0 (Wl.ys (v := nV .i64 (i + 1)) rfl rfl ((Ys.pure (v := .int .i64 (iadd .i64 (i : Int) 1)) (fun _ => kr)).conseq (int_congr (iadd_eq ma1 ma1 ma1))) (Wl.run 1 ma0 (Wl.nil ?_)))
      have hs_ := rlp_s hz_ (show (decide (((i : Nat) : Int) > 3) && (isI (zs.getD 9 0))) = false from h47)
      have hr_ : rlp zs (nxL ns nd nf nt) (isI (zs.getD 9 0)) false 0 (i + 1) = Z72 := by rw [hs_]; unfold rlS; rw [h54]; simp only [cond_true, cond_false]; rw [hZ73]
      refine fun w_ h_ => hJ31 (i + 1) Z72 _ w_ ma1 ⟨ma1, hr_, (by rw [hL74]), ((gd_ne hZ73 ma36).trans h9_), (fun e_ => by exfalso; have y_ := h47; rw [show ((((zs.getD 9 0).toNat : Nat) : Int) == 1) = true from e_] at y_; have x_ := qh54; simp at y_; omega)⟩ ?_ (h_.pick [1, 0, 2] ma3 rfl)
      kernel_rfl
   ·have qh37 := h37; try simp only [zA] at qh37
    refine W.exit (hK29 _ _ _ (W.seq (fun K77 hK77 => W.seq (fun K78 hK78 => W.region ?_))))
    refine Wl.run 1 ma0 (Wl.ys (v := Value.pointer (some (ela g3.a 9))) rfl rfl (Ys.indexAddr (k := .i64) (a := g3.a) (len := zs.length) (cap := g3.cap) (i := 9) (sz := 1) rfl ma0 ma0 Try.runUnderlying25 Try.sizeOf5 ma1 ma1 (by rw [FS.a_own ((hn5 ma7))]; rfl)) (Wl.ys (v := nV .u8 ((zs.getD 9 0).toNat)) rfl rfl (Ys.conseq (v := nV .u8 ((z.getD 9 0).toNat)) (int_congr (congrArg (fun x : UInt8 => (x.toNat : Int)) h9_)) (Ys.ld (a := ela g3.a 9) rfl ma0 Try.isAgg5 (fun w_ h_ => (FS.at (i := 1) (t := 5) h_ rfl (FS.nil_cs ok4 (mcl hlz_))).ld (mc_get 0 ma7)))) ?_))
    have hb79 : (z.getD 9 0).toNat < 256 := UInt8.toNat_lt _
    refine Wl.run 1 ma0 (Wl.nil (hK78 _ _ _ ?_))
    refine W.cond ((((zs.getD 9 0).toNat : Nat) : Int) == 1) ma0 (fun h80 => ?_) (fun h81 => ?_)
    ·have qh80 := h80; try simp only [zA] at qh80
     refine W.seq (fun K82 hK82 => W.region (Wl.run 1 ma0 (Wl.ys rfl rfl (Ys.l1 p3 3 2 0 Try.isAgg22) (Wl.run 1 ma0 ?_))))
     refine Wl.nil (hK82 _ _ _ (W.pick (LL' := [g3.seg 5 (mc b8 z), cRe3_1650_0 nd nf ns nt p3 np]) [1, 2] ma3 rfl (W.prune' [3, 5, 7, 11] [pV p3 0, sV g3 zs.length, iV .i64 (-1), nV .u16 nf] ma0 (fun f83 => W.seq (fun K84 hK84 => ?_)))))
     refine W.seq (fun K85 hK85 => ?_)
     have h1I_ : isI (zs.getD 9 0) = true := h80
     refine W.region (Wl.run 1 ma0 (Wl.ys (v := Value.pointer (some (ela g3.a 20))) rfl rfl (Ys.indexAddr (k := .i64) (a := g3.a) (len := zs.length) (cap := g3.cap) (i := 20) (sz := 1) rfl ma0 ma0 Try.runUnderlying25 Try.sizeOf5 ma1 ma1 (by rw [FS.a_own ((hn5 ma7))]; rfl)) (Wl.ys (v := nV .u8 ((zs.getD 20 0).toNat)) rfl rfl (Ys.conseq (v := nV .u8 ((z.getD 20 0).toNat)) (int_congr (congrArg (fun x : UInt8 => (x.toNat : Int)) (h20_ h1I_))) (Ys.ld (a := ela g3.a 20) rfl ma0 Try.isAgg5 (fun w_ h_ => (FS.at (i := 0) (t := 5) h_ rfl (FS.nil_cs ok4 (mcl hlz_))).ld (mc_get 0 ma7)))) ?_)))
     have hb86 : (z.getD 20 0).toNat < 256 := UInt8.toNat_lt _
     refine Wl.run 1 ma0 (Wl.nil (hK85 _ _ _ ?_))
     refine W.cond ((((zs.getD 20 0).toNat : Nat) : Int) == 0) ma0 (fun h87 => ?_) (fun h88 => ?_)
     ·have qh87 := h87; try simp only [zA] at qh87
      refine W.region (Wl.run 1 ma0 (Wl.ys rfl rfl (Ys.l1 p3 4 1 0 Try.isAgg22) (Wl.run 1 ma0 (Wl.nil ?_))))
      refine hK84 _ _ _ (W.seq (fun K89 hK89 => ?_))
      refine W.region (Wl.run 2 ma0 (Wl.yc (v := nV .u16 (w2 z 24)) rfl rfl (Yc.call (fun _ => kr) (fun w_ hm_ => (rwordn_c z g3.a g3.cap 24 zs.length _ ma5 (FS.at (i := 0) (t := 5) hm_ rfl (FS.nil_cs ok4 (mcl hlz_))) ma1 ma1 (by have z_ := ok4.le; first | exact z_ | omega | (simp at z_ ⊢; omega))))) ?_))
      obtain ⟨Z90, hZ91⟩ : ∃ Z, bput z 22 (upc (w2 z 22) (w2 z 24) nt) = Z := ⟨_, rfl⟩
      have hL92 : Z90.length = zs.length := (bput_lenZ hZ91).trans hlz_
      refine Wl.run 1 ma0 (Wl.htS rfl (HtS.call (β := Unit) (k := 73) (args := #[sV g3 zs.length, iV .i64 22, nV .u16 (w2 z 24), nV .u16 nt]) (Lin := [g3.seg 5 (mc b8 z)]) (Lk := [cRe3_1650_0 nd nf ns nt p3 np]) (Lo := fun _u => [g3.seg 5 (mc b8 Z90), cRe3_1650_0 nd nf ns nt p3 np]) [0] [1] rfl (fun _ => kr) ma3 rfl rfl rfl (fun w_ hm_ hl_ => (rchangen_c g3 z zs.length 22 (w2 z 24) nt _ _ Z90 hZ91 hlz_.symm hl_ ok4 (hn5 ma7) (kle hlz_ h0 ma3) (lez hlz_ hz) ma6 ma6)) (fun _ => rfl)) (fun _u _ => ?_))
      refine Wl.nil (hK89 _ _ _ (W.pick (LL' := [g3.seg 5 (mc b8 Z90)]) [0] ma3 rfl (W.prune' [5, 7, 11] [sV g3 zs.length, iV .i64 (-1), nV .u16 nt] ma0 (fun f94 => W.region ?_))))
      obtain ⟨Z95, hZ96⟩ : ∃ Z, bput Z90 24 nt = Z := ⟨_, rfl⟩
      have hL97 : Z95.length = zs.length := (bput_lenZ hZ96).trans hL92
      refine Wl.run 2 ma0 (Wl.htS rfl (HtS.call (β := Unit) (k := 74) (args := #[sV g3 zs.length, iV .i64 24, nV .u16 nt]) (Lin := [g3.seg 5 (mc b8 Z90)]) (Lk := []) (Lo := fun _u => [g3.seg 5 (mc b8 Z95)]) [0] [] rfl (fun _ => kr) ma3 rfl rfl rfl (fun w_ hm_ hl_ => (rlayn_c g3 Z90 zs.length 24 nt _ _ Z95 hZ96 hL92.symm hl_ ok4 (hn5 ma7) (kle hL92 h0 ma3) (lez hL92 hz) ma6)) (fun _ => rfl)) (fun _u _ => ?_))
      refine Wl.nil (hK77 _ _ _ (W.seq (fun K99 hK99 => W.seq (fun K100 hK100 => W.region ?_))))
      refine Wl.run 3 ma0 (Wl.skip ma0 rfl (Wl.skip ma0 rfl (Wl.skip ma0 rfl (Wl.run 1 ma0 ?_))))
      refine Wl.nil (hK100 _ _ _ (W.prune' [5, 124] [sV g3 zs.length, bV false] ma0 (fun f101 => W.condF ma0 (W.skip' ?_))))
      refine hK99 _ _ _ (W.seq (fun K102 hK102 => ?_))
      refine W.region (Wl.run 2 ma0 (Wl.nil (hK102 _ _ _ (W.ret ?_))))
      obtain rfl : i = 6 := by omega
      have h1_ : isI (zs.getD 9 0) = true := h80
      rw [h1_] at hz_
      have hz6_ := hz_.symm.trans (rlp_is1 ns nd nf nt h0)
      have h20z_ : (!(ecA (zs.getD 20 0))) = true := by rcases h8 h1_ with z_ | z_ <;> rw [z_] <;> first | rfl | (exfalso; have y_ := qh87; rw [z_] at y_; simp at y_)
      have e24_ : w2 z 24 = w2 zs 24 := by rw [hz6_]; unfold rt5 rt4; iterate 5 rw [w2_bne' _ _ _ _ ma1]
      have e22_ : w2 z 22 = w2 zs 22 := by rw [hz6_]; unfold rt5 rt4; iterate 5 rw [w2_bne' _ _ _ _ ma1]
      have hB : rtB (zs.getD 9 0) (a4 zs 12) (a4 zs 16) (w2 zs 20) (w2 zs 22) ns nd nf nt zs = Z95 := by unfold rtB; rw [h1_]; simp only [cond_true]; rw [h20z_]; simp only [cond_true, cond_false]; unfold rtI; rw [← hZ96, ← hZ91, ← hz6_]; simp only [upl, List.foldl_cons, List.foldl_nil, e24_, e22_]
      show ∀ w_, _ → bodyPostM (fence none) 0 Try.prog Try.f42 _ Exit.ret _ w_
      exact fun w_ hS_ => fin_ret (ret1 rfl (RV.tmp (v := sV g3 zs.length) ma0) hS_ ⟨g3, ⟨ok4, (hn5 ma7)⟩, rfl, (Mem.cast (by rw [hB]; rfl) (hS_.pick [0] ma3 rfl))⟩)
     ·have qh88 := h88; try simp only [zA] at qh88
      refine W.skip' (hK84 _ _ _ (W.seq (fun K103 hK103 => W.region (Wl.run 2 ma0 ?_))))
      refine Wl.yc (v := nV .u16 (w2 z 24)) rfl rfl (Yc.call (fun _ => kr) (fun w_ hm_ => (rwordn_c z g3.a g3.cap 24 zs.length _ ma5 (FS.at (i := 0) (t := 5) hm_ rfl (FS.nil_cs ok4 (mcl hlz_))) ma1 ma1 (by have z_ := ok4.le; first | exact z_ | omega | (simp at z_ ⊢; omega))))) ?_
      obtain ⟨Z104, hZ105⟩ : ∃ Z, bput z 22 (upc (w2 z 22) (w2 z 24) nf) = Z := ⟨_, rfl⟩
      have hL106 : Z104.length = zs.length := (bput_lenZ hZ105).trans hlz_
      refine Wl.run 1 ma0 (Wl.htS rfl (HtS.call (β := Unit) (k := 73) (args := #[sV g3 zs.length, iV .i64 22, nV .u16 (w2 z 24), nV .u16 nf]) (Lin := [g3.seg 5 (mc b8 z)]) (Lk := [cRe3_1650_0 nd nf ns nt p3 np]) (Lo := fun _u => [g3.seg 5 (mc b8 Z104), cRe3_1650_0 nd nf ns nt p3 np]) [0] [1] rfl (fun _ => kr) ma3 rfl rfl rfl (fun w_ hm_ hl_ => (rchangen_c g3 z zs.length 22 (w2 z 24) nf _ _ Z104 hZ105 hlz_.symm hl_ ok4 (hn5 ma7) (kle hlz_ h0 ma3) (lez hlz_ hz) ma6 ma6)) (fun _ => rfl)) (fun _u _ => ?_))
      refine Wl.nil (hK103 _ _ _ (W.pick (LL' := [g3.seg 5 (mc b8 Z104)]) [0] ma3 rfl (W.prune' [5, 7, 11] [sV g3 zs.length, iV .i64 (-1), nV .u16 nf] ma0 (fun f108 => W.region ?_))))
      obtain ⟨Z109, hZ110⟩ : ∃ Z, bput Z104 24 nf = Z := ⟨_, rfl⟩
      have hL111 : Z109.length = zs.length := (bput_lenZ hZ110).trans hL106
      refine Wl.run 2 ma0 (Wl.htS rfl (HtS.call (β := Unit) (k := 74) (args := #[sV g3 zs.length, iV .i64 24, nV .u16 nf]) (Lin := [g3.seg 5 (mc b8 Z104)]) (Lk := []) (Lo := fun _u => [g3.seg 5 (mc b8 Z109)]) [0] [] rfl (fun _ => kr) ma3 rfl rfl rfl (fun w_ hm_ hl_ => (rlayn_c g3 Z104 zs.length 24 nf _ _ Z109 hZ110 hL106.symm hl_ ok4 (hn5 ma7) (kle hL106 h0 ma3) (lez hL106 hz) ma6)) (fun _ => rfl)) (fun _u _ => ?_))
      refine Wl.nil (hK77 _ _ _ (W.seq (fun K113 hK113 => W.seq (fun K114 hK114 => W.region ?_))))
      refine Wl.run 3 ma0 (Wl.skip ma0 rfl (Wl.skip ma0 rfl (Wl.skip ma0 rfl (Wl.run 1 ma0 ?_))))
      refine Wl.nil (hK114 _ _ _ (W.prune' [5, 124] [sV g3 zs.length, bV false] ma0 (fun f115 => W.condF ma0 (W.skip' ?_))))
      refine hK113 _ _ _ (W.seq (fun K116 hK116 => ?_))
      refine W.region (Wl.run 2 ma0 (Wl.nil (hK116 _ _ _ (W.ret ?_))))
      obtain rfl : i = 6 := by omega
      have h1_ : isI (zs.getD 9 0) = true := h80
      rw [h1_] at hz_
      have hz6_ := hz_.symm.trans (rlp_is1 ns nd nf nt h0)
      have h20z_ : (!(ecA (zs.getD 20 0))) = false := by rcases h8 h1_ with z_ | z_ <;> rw [z_] <;> first | rfl | (exfalso; have y_ := qh88; rw [z_] at y_; simp at y_)
      have e24_ : w2 z 24 = w2 zs 24 := by rw [hz6_]; unfold rt5 rt4; iterate 5 rw [w2_bne' _ _ _ _ ma1]
      have e22_ : w2 z 22 = w2 zs 22 := by rw [hz6_]; unfold rt5 rt4; iterate 5 rw [w2_bne' _ _ _ _ ma1]
      have hB : rtB (zs.getD 9 0) (a4 zs 12) (a4 zs 16) (w2 zs 20) (w2 zs 22) ns nd nf nt zs = Z109 := by unfold rtB; rw [h1_]; simp only [cond_true]; rw [h20z_]; simp only [cond_true, cond_false]; unfold rtI; rw [← hZ110, ← hZ105, ← hz6_]; simp only [upl, List.foldl_cons, List.foldl_nil, e24_, e22_]
      show ∀ w_, _ → bodyPostM (fence none) 0 Try.prog Try.f42 _ Exit.ret _ w_
      exact fun w_ hS_ => fin_ret (ret1 rfl (RV.tmp (v := sV g3 zs.length) ma0) hS_ ⟨g3, ⟨ok4, (hn5 ma7)⟩, rfl, (Mem.cast (by rw [hB]; rfl) (hS_.pick [0] ma3 rfl))⟩)
    ·have qh81 := h81; try simp only [zA] at qh81
     refine W.skip' (hK77 _ _ _ (W.seq (fun K117 hK117 => W.seq (fun K118 hK118 => W.region ?_))))
     refine Wl.run 3 ma0 (Wl.skip ma0 rfl (Wl.skip ma0 rfl (Wl.skip ma0 rfl (Wl.run 1 ma0 ?_))))
     refine Wl.nil (hK118 _ _ _ (W.pick (LL' := [g3.seg 5 (mc b8 z)]) [1] ma3 rfl (W.prune' [5, 124] [sV g3 zs.length, bV false] ma0 (fun f119 => W.condF ma0 ?_))))
     refine W.skip' (hK117 _ _ _ (W.seq (fun K120 hK120 => W.region (Wl.run 2 ma0 ?_))))
     refine Wl.nil (hK120 _ _ _ (W.ret ?_))
     obtain rfl : i = 6 := by omega
     have h1_ : isI (zs.getD 9 0) = false := h81
     rw [h1_] at hz_
     have hz6_ := hz_.symm.trans (rlp_no ns nd nf nt h0)
     have hB : rtB (zs.getD 9 0) (a4 zs 12) (a4 zs 16) (w2 zs 20) (w2 zs 22) ns nd nf nt zs = z := by unfold rtB; rw [h1_]; simp only [cond_false]; rw [show (isU (zs.getD 9 0) && (((w2 zs 26 : Nat) : Int) != 0)) = false from hU_, show (isT (zs.getD 9 0) && decide (((zs.length : Nat) : Int) ≥ 38)) = false from hT_]; simp only [cond_false]; exact hz6_.symm
     show ∀ w_, _ → bodyPostM (fence none) 0 Try.prog Try.f42 _ Exit.ret _ w_
     exact fun w_ hS_ => fin_ret (ret1 rfl (RV.tmp (v := sV g3 zs.length) ma0) hS_ ⟨g3, ⟨ok4, (hn5 ma7)⟩, rfl, (Mem.cast (by rw [hB]; rfl) (hS_.pick [0] ma3 rfl))⟩)
theorem rretelln_c (zs : List UInt8) (a : Option Addr) (cap : Nat) (np : UInt8) (ns nd nf nt : Nat) (len : Nat) (w : World) (hn : len = zs.length) (hat : At w a (byc zs)) (h0 : 28 ≤ zs.length) (hz : zs.length ≤ 1000000) (hlc : zs.length ≤ cap) (h8 : isI (zs.getD 9 0) = true → zs.getD 20 0 = 8 ∨ zs.getD 20 0 = 0) (hns : ns < 4294967296) (hnd : nd < 4294967296) (hnf : nf < 65536) (hnt : nt < 65536)  : Calls Try.prog 42 #[.slice a len cap, Value.agg ([Value.int .u8 (np.toNat : Int), Value.int .u32 (ns : Int), Value.int .u32 (nd : Int), Value.int .u16 (nf : Int), Value.int .u16 (nt : Int)]).toArray] w (RetM w (fun g : FS => g.ok 1 zs.length ∧ g.nil = false) (fun g => .slice g.a zs.length g.cap) [] (fun g => [g.seg 5 (byc (rtB (zs.getD 9 0) (a4 zs 12) (a4 zs 16) (w2 zs 20) (w2 zs 22) ns nd nf nt zs))])) := by
  subst hn
  cases hU : ((((zs.getD 9 0).toNat : Int) == 17) && (((w2 zs 26 : Nat) : Int) != 0))
  · cases hT : ((((zs.getD 9 0).toNat : Int) == 6) && (decide (((zs.length : Nat) : Int) ≥ 38)))
    · exact rretN_c zs a cap np ns nd nf nt w hat h0 hz hlc h8 hns hnd hnf hnt hU hT
    · exact rretT_c zs a cap np ns nd nf nt w hat h0 hz hlc h8 hns hnd hnf hnt hU hT
  · exact rretU_c zs a cap np ns nd nf nt w hat h0 hz hlc h8 hns hnd hnf hnt hU
end Go.Proofs.Ytejeafjkhomdoaa.Oct
