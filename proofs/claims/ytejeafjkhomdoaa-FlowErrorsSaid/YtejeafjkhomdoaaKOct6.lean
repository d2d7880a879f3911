import Derived.Test.YtejeafjkhomdoaaKOct4
set_option linter.unusedVariables false
set_option linter.unusedSimpArgs false
set_option maxRecDepth 20000
namespace Go.Proofs.Ytejeafjkhomdoaa.Oct
open Go.RowKit Base
attribute [local irreducible] Ys Yc Ht HtS HtIn Wl Wd W Mem pf dpf
theorem pw_add {xs : List UInt8} {k : Nat} (h : 2 * k + 1 < xs.length) : (256 * (xs.getD (2 * k) 0).toNat % 65536 + (xs.getD (2 * k + 1) 0).toNat) % 65536 = (pw xs).getD k 0 := by
  have h1 := UInt8.toNat_lt (xs.getD (2 * k) 0); have h2 := UInt8.toNat_lt (xs.getD (2 * k + 1) 0)
  rw [pw_get1 xs k h]; omega
theorem pw_lone2 {xs : List UInt8} {k : Nat} (h : 2 * k < xs.length) (h1 : ¬ 2 * k + 1 < xs.length) : 256 * (xs.getD (2 * k) 0).toNat % 65536 = (pw xs).getD k 0 := by
  have h2 := UInt8.toNat_lt (xs.getD (2 * k) 0)
  rw [pw_get0 xs k ma1]; omega
theorem rpairs_c (xs : List UInt8) (a : Option Addr) (cap : Nat) (w : World) (hat : At w a (byc xs)) (hy : xs.length ≤ 1000000000) : Calls Try.prog 79 #[Value.slice a xs.length cap] w (RetM w (fun g : FS => g.ok 1 (pw xs).length) (fun g => .slice g.a (pw xs).length g.cap) [] (fun g => [g.seg 22 (mc n16 (pw xs))])) := by
 refine calls_W (M := []) (LL := []) (n := 37) Try.func79 rfl rfl ma10 (Mem.refl _) (W.seq (fun K1 hK1 => ?_))
 refine W.region (Wl.run 1 ma0 (Wl.nil (hK1 _ _ _ (W.seq (fun K2 hK2 => ?_)))))
 refine W.region (Wl.ht rfl (Ht.made (mk := fun b_ => .slice (some ⟨b_, 0, none⟩) 0 0) (t := 22) (cs := []) rfl (fun _ => kr)) (fun p6 => ?_))
 refine Wl.run 1 ma0 (Wl.nil (hK2 _ _ _ (W.seq (fun K3 hK3 => W.seq (fun K4 hK4 => ?_)))))
 refine W.region (Wl.run 1 ma0 (Wl.nil (hK4 _ _ _ (W.block ?_))))
 refine W.loop2 [0, 3, 4] (fun (k : Nat) (h : FS) => [Value.slice a xs.length cap, Value.slice h.a k h.cap, nV .i64 (2 * k)]) (fun (k : Nat) (h : FS) => k ≤ (pw xs).length ∧ h.ok 1 k) (fun (k : Nat) (h : FS) => [h.seg 22 (mc n16 ((pw xs).take k))]) (fun (k : Nat) (h : FS) => (pw xs).length - k) 0 ⟨false, p6, 0, []⟩ (Eq.trans (b := ([Value.slice a xs.length cap, Value.slice (some ⟨p6, 0, none⟩) 0 0, iV .i64 0] : List Value)) ma0 (by simp [FS.a])) ⟨(Nat.zero_le _), (FS.lit_ok ma2)⟩ (by simp [mc, FS.seg]) (fun k h f6 J5 hp7 hJ5 => ?_)
 obtain ⟨hk, okh⟩ := hp7
 have hpl := pw_len xs
 refine W.seq (fun K8 hK8 => W.seq (fun K9 hK9 => ?_))
 refine W.region (Wl.run 4 ma0 (Wl.nil (hK9 _ _ _ ?_)))
 refine W.cond (decide (((2 * k : Nat) : Int) < (xs.length : Int))) ma0 (fun h10 => ?_) (fun h11 => ?_)
 ·have qh10 := h10; try simp only [zA] at qh10
  refine W.skip' (hK8 _ _ _ (W.seq (fun K12 hK12 => W.block (W.seq (fun K13 hK13 => ?_)))))
  refine W.region (Wl.run 2 ma0 (Wl.ys (v := Value.pointer (some (ela a ((2 * k) * 1)))) rfl rfl (Ys.byMem fun w_ h_ => Ys.indexAddr (k := .i64) (a := a) (len := xs.length) (cap := cap) (i := ((2 * k : Nat) : Int)) (sz := 1) rfl ma0 ma0 Try.runUnderlying25 Try.sizeOf5 ma1 ma1 ((hat.mem0 h_).here ma17)) (Wl.ys (v := nV .u8 ((xs.getD (2 * k) 0).toNat)) rfl rfl (Ys.ld (a := ela a ((2 * k) * 1)) rfl ma0 Try.isAgg5 (fun w_ h_ => (hat.mem0 h_).ld (mc_get1 0 ma8))) ?_)))
  have hb14 : (xs.getD (2 * k) 0).toNat < 256 := UInt8.toNat_lt _
  refine Wl.ys (v := nV .u16 ((xs.getD (2 * k) 0).toNat)) rfl rfl ((Ys.pure (v := .int .u16 (icnv .u16 ((xs.getD (2 * k) 0).toNat : Int))) (fun _ => kr)).conseq (int_congr (wrap_u16 ma1 ma1))) (Wl.ys (v := nV .u16 ((256 * ((xs.getD (2 * k) 0).toNat)) % 65536)) rfl rfl ((Ys.pure (v := .int .u16 (imul .u16 ((256 : Nat) : Int) ((xs.getD (2 * k) 0).toNat : Int))) (fun _ => kr)).conseq (int_congr (imul_mod rfl))) (Wl.run 1 ma0 (Wl.nil (hK13 _ _ _ ?_))))
  refine W.prune' [0, 3, 4, 5] [Value.slice a xs.length cap, Value.slice h.a k h.cap, nV .i64 (2 * k), nV .u16 ((256 * ((xs.getD (2 * k) 0).toNat)) % 65536)] ma0 (fun f15 => W.seq (fun K16 hK16 => ?_))
  refine W.meet0 (w0 := w) (M := []) K16 [0, 3, 4, 5] ([Value.slice a xs.length cap, Value.slice h.a k h.cap, nV .i64 (2 * k), nV .u16 ((pw xs).getD k 0)]) (True) ([h.seg 22 (mc n16 ((pw xs).take k))]) (fun J17 hJ17 => ?_) (fun  f18 hp19 => ?_)
  ·refine W.seq (fun K20 hK20 => W.region (Wl.run 3 ma0 (Wl.ys (v := iV .i64 (((xs.length : Nat) : Int) - 1)) rfl rfl ((Ys.pure (v := .int .i64 (isub .i64 (xs.length : Int) 1)) (fun _ => kr)).conseq (int_congr (isub_eq rfl ma1 ma1))) (Wl.run 1 ma0 ?_))))
   refine Wl.nil (hK20 _ _ _ ?_)
   refine W.cond (decide (((2 * k : Nat) : Int) < (((xs.length : Nat) : Int) - 1))) ma0 (fun h21 => ?_) (fun h22 => ?_)
   ·have qh21 := h21; try simp only [zA] at qh21
    refine W.region (Wl.run 3 ma0 (Wl.ys (v := nV .i64 ((2 * k) + 1)) rfl rfl ((Ys.pure (v := .int .i64 (iadd .i64 ((2 * k : Nat) : Int) 1)) (fun _ => kr)).conseq (int_congr (iadd_eq ma1 ma1 ma1))) (Wl.ys (v := Value.pointer (some (ela a (((2 * k) + 1) * 1)))) rfl rfl (Ys.byMem fun w_ h_ => Ys.indexAddr (k := .i64) (a := a) (len := xs.length) (cap := cap) (i := (((2 * k) + 1 : Nat) : Int)) (sz := 1) rfl ma0 ma0 Try.runUnderlying25 Try.sizeOf5 ma1 ma1 ((hat.mem0 h_).here ma17)) (Wl.ys (v := nV .u8 ((xs.getD ((2 * k) + 1) 0).toNat)) rfl rfl (Ys.ld (a := ela a (((2 * k) + 1) * 1)) rfl ma0 Try.isAgg5 (fun w_ h_ => (hat.mem0 h_).ld (mc_get1 0 ma8))) ?_))))
    have hb23 : (xs.getD ((2 * k) + 1) 0).toNat < 256 := UInt8.toNat_lt _
    refine Wl.ys (v := nV .u16 ((xs.getD ((2 * k) + 1) 0).toNat)) rfl rfl ((Ys.pure (v := .int .u16 (icnv .u16 ((xs.getD ((2 * k) + 1) 0).toNat : Int))) (fun _ => kr)).conseq (int_congr (wrap_u16 ma1 ma1))) (Wl.ys (v := nV .u16 ((((256 * ((xs.getD (2 * k) 0).toNat)) % 65536) + ((xs.getD ((2 * k) + 1) 0).toNat)) % 65536)) rfl rfl ((Ys.pure (v := .int .u16 (iadd .u16 (((256 * ((xs.getD (2 * k) 0).toNat)) % 65536 : Nat) : Int) ((xs.getD ((2 * k) + 1) 0).toNat : Int))) (fun _ => kr)).conseq (int_congr (iadd_mod rfl))) (Wl.run 1 ma0 (Wl.nil ?_)))
    refine fun w_ h_ => hJ17 _ w_ trivial ?_ h_
    refine Eq.trans (b := ([Value.slice a xs.length cap, Value.slice h.a k h.cap, nV .i64 (2 * k), nV .u16 ((((256 * ((xs.getD (2 * k) 0).toNat)) % 65536) + ((xs.getD ((2 * k) + 1) 0).toNat)) % 65536)] : List Value)) ma0 (by rw [pw_add ma1])
   ·have qh22 := h22; try simp only [zA] at qh22
    refine W.skip' ?_
    refine fun w_ h_ => hJ17 _ w_ trivial ?_ h_
    refine Eq.trans (b := ([Value.slice a xs.length cap, Value.slice h.a k h.cap, nV .i64 (2 * k), nV .u16 ((256 * ((xs.getD (2 * k) 0).toNat)) % 65536)] : List Value)) ma0 (by rw [pw_lone2 ma1 ma1])
  ·refine hK16 _ _ _ (W.region (Wl.run 2 ma0 (Wl.ht rfl (Ht.made (mk := fun b_ => .slice (some ⟨b_, 0, none⟩) 1 1) (t := 22) (cs := [nV .u16 ((pw xs).getD k 0)]) rfl (fun _ => kr)) (fun p34 => Wl.htS rfl (HtS.append (eu := 22) (xv := Value.slice (some ⟨p34, 0, none⟩) 1 1) (i := 1) (g := h) (e := 22) (ii := (Try.prog.info? 22).getD default) (z := iV .u16 0) (sz := 1) (bytes := 2) (nn := k) (m := 1) (k := k + 1) (xs := mc n16 ((pw xs).take k)) (news := mc n16 [(pw xs).getD k 0]) (cs' := mc n16 (((pw xs).take k) ++ [(pw xs).getD k 0])) (Lo := fun g24 => [[cb p34 [nV .u16 ((pw xs).getD k 0)] 22], g24.seg 22 (mc n16 (((pw xs).take k) ++ [(pw xs).getD k 0]))]) rfl rfl ma0 ma0 ma0 ma0 ma0 ma0 ma0 ma0 ma0 rfl okh (by simp [mc]; omega) (fun _ => rfl) (Src.at (a := some ⟨p34, 0, none⟩) ma6 (fun w_ h_ => (At.lit0 (i := 0) (j := 0) (t := 22) (b := p34) h_ rfl rfl))) ma6 (mc_one (fun _ => rfl) _) ma5 ma13 ma5 (mc_app _ _) (fun _ => rfl)) (fun g24 hx29 => ?_)))))
   obtain ⟨ok25, hn26, hn27⟩ := hx29
   refine Wl.run 1 ma0 (Wl.nil (hK12 _ _ _ (W.region (Wl.run 1 ma0 ?_))))
   refine Wl.ys (v := nV .i64 ((2 * k) + 2)) rfl rfl ((Ys.pure (v := .int .i64 (iadd .i64 ((2 * k : Nat) : Int) 2)) (fun _ => kr)).conseq (int_congr (iadd_eq ma1 ma1 ma1))) (Wl.run 1 ma0 (Wl.nil ?_))
   refine fun w_ h_ => hJ5 (k + 1) g24 _ w_ ma1 ⟨ma1, (by simpa using ok25)⟩ ?_ (Mem.cast (LL := [g24.seg 22 (mc n16 (((pw xs).take k) ++ [(pw xs).getD k 0]))]) (by rw [pw_step ma1]) (h_.pick [1] ma2 rfl))
   refine Eq.trans (b := ([Value.slice a xs.length cap, sV g24 (k + 1), nV .i64 ((2 * k) + 2)] : List Value)) ma0 (by simp; try omega)
 ·have qh11 := h11; try simp only [zA] at qh11
  refine W.exit (hK3 _ _ _ (W.seq (fun K30 hK30 => W.region (Wl.run 2 ma0 ?_))))
  refine Wl.nil (hK30 _ _ _ (W.ret ?_))
  show ∀ w_, _ → bodyPostM (fence none) 0 Try.prog Try.f79 _ Exit.ret _ w_
  exact fun w_ hS_ => fin_ret (ret1 rfl (RV.tmp (v := Value.slice h.a k h.cap) ma0) hS_ ⟨h, (by have hk2 : (pw xs).length = k := ma1; rw [hk2]; exact okh), congrArg Ending.returned ((by have hk2 : (pw xs).length = k := ma1; rw [hk2])), (Mem.cast (by rw [List.take_of_length_le ma1]) hS_)⟩)
theorem rpairsn_c (xs : List UInt8) (a : Option Addr) (len cap : Nat) (w : World) (hn : len = xs.length) (hat : At w a (byc xs)) (hy : xs.length ≤ 1000000000) : Calls Try.prog 79 #[.slice a len cap] w (RetM w (fun g : FS => g.ok 1 (pw xs).length) (fun g => .slice g.a (pw xs).length g.cap) [] (fun g => [g.seg 22 (mc n16 (pw xs))])) := by
  subst hn; exact rpairs_c xs a cap w hat hy
end Go.Proofs.Ytejeafjkhomdoaa.Oct
