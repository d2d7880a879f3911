import Derived.Test.YtgohlpdgeicncaaKOct9
import Derived.Test.YtgohlpdgeicncaaKVG
set_option linter.unusedVariables false
set_option linter.unusedSimpArgs false
set_option maxRecDepth 20000
namespace Go.Proofs.Ytgohlpdgeicncaa.Oct
open Go.RowKit Base
attribute [local irreducible] Ys Yc Ht HtS HtIn Wl Wd W Mem pf dpf
theorem pairs_iter (xs : List UInt8) (a : Option Addr) (cap : Nat) (p1 : Nat) (M : List Nat) (τ : Type) (yv : Value) (U : τ → List Blk) (Φ : Nat → τ → Prop) (Ψ : τ → Prop) (s0 : τ) (w : World) (hat : At w a (byc xs)) (hne : 0 < (byc xs).length → (a.getD default).block ∉ M) (hy : xs.length ≤ 1000000000) (hyl : (∀ i s (R : List (List Blk)), i < (pw xs).length → Φ i s → Yld Try.prog yv ((fun i : Nat => [Value.int .i64 (i : Int), Value.int .u16 (((pw xs).getD i 0 : Nat) : Int)]) i).toArray (Mem w M (U s :: R)) (fun b w' => ∃ s', (bif b then Φ (i + 1) s' else Ψ s') ∧ Mem w M (U s' :: R) w'))) (h0 : Φ 0 s0) (hl : Mem w M [U s0, [cb p1 [.slice a xs.length cap] 26]] w) : Calls Try.prog 77 #[yv, pV p1 0] w (RetM w (fun s : τ => Φ (pw xs).length s ∨ Ψ s) (fun _ => .tuple #[]) M (fun s => [U s, [cb p1 [.slice a xs.length cap] 26]])) := by
 refine calls_W (M := M) (LL := [U s0, [cb p1 [Value.slice a xs.length cap] 26]]) (n := 36) Try.func77 rfl rfl ma6 (hl) (W.seq (fun K1 hK1 => ?_))
 refine W.region (Wl.run 1 ma0 (Wl.nil (hK1 _ _ _ (W.block ?_))))
 refine W.loop2 [0, 1, 3] (fun (k : Nat) (s : τ) => [yv, pV p1 0, nV .i64 (2 * k)]) (fun (k : Nat) (s : τ) => k ≤ (pw xs).length ∧ Φ k s) (fun (k : Nat) (s : τ) => [U s, [cb p1 [Value.slice a xs.length cap] 26]]) (fun (k : Nat) (s : τ) => (pw xs).length - k) 0 s0 (Eq.trans (b := ([yv, pV p1 0, iV .i64 0] : List Value)) ma0 ma6) ⟨(Nat.zero_le _), h0⟩ (by rfl) (fun k s f3 J2 hp4 hJ2 => ?_)
 obtain ⟨hk, hphi⟩ := hp4
 have hpl := pw_len xs
 refine W.seq (fun K5 hK5 => W.seq (fun K6 hK6 => ?_))
 refine W.region (Wl.run 1 ma0 (Wl.ys rfl rfl (Ys.l1 p1 0 1 0 Try.isAgg26) (Wl.run 2 ma0 (Wl.nil ?_))))
 refine hK6 _ _ _ (W.prune' [0, 1, 3, 8] [yv, pV p1 0, nV .i64 (2 * k), bV (decide (((2 * k : Nat) : Int) < (xs.length : Int)))] ma0 (fun f7 => ?_))
 refine W.cond (decide (((2 * k : Nat) : Int) < (xs.length : Int))) ma0 (fun h8 => ?_) (fun h9 => ?_)
 ·have qh8 := h8; try simp only [zA] at qh8
  refine W.skip' (hK5 _ _ _ (W.prune' [0, 1, 3] [yv, pV p1 0, nV .i64 (2 * k)] ma0 (fun f10 => W.seq (fun K11 hK11 => W.block ?_))))
  refine W.seq (fun K12 hK12 => W.region (Wl.ys rfl rfl (Ys.l1 p1 0 1 0 Try.isAgg26) (Wl.run 1 ma0 (Wl.ys (v := Value.pointer (some (ela a ((2 * k) * 1)))) rfl rfl (Ys.byMem fun w_ h_ => Ys.indexAddr (k := .i64) (a := a) (len := xs.length) (cap := cap) (i := ((2 * k : Nat) : Int)) (sz := 1) rfl ma0 ma0 Try.runUnderlying26 Try.sizeOf5 ma1 ma1 ((hat.mem' h_ hne).here ma14)) ?_))))
  refine Wl.ys (v := nV .u8 ((xs.getD (2 * k) 0).toNat)) rfl rfl (Ys.ld (a := ela a ((2 * k) * 1)) rfl ma0 Try.isAgg5 (fun w_ h_ => (hat.mem' h_ hne).ld (mc_get1 0 ma9))) ?_
  have hb13 : (xs.getD (2 * k) 0).toNat < 256 := UInt8.toNat_lt _
  refine Wl.ys (v := nV .u16 ((xs.getD (2 * k) 0).toNat)) rfl rfl ((Ys.pure (v := .int .u16 (icnv .u16 ((xs.getD (2 * k) 0).toNat : Int))) (fun _ => kr)).conseq (int_congr (wrap_u16 ma1 ma1))) (Wl.ys (v := nV .u16 ((((xs.getD (2 * k) 0).toNat) * 256) % 65536)) rfl rfl ((Ys.pure (v := .int .u16 (ishl .u16 ((xs.getD (2 * k) 0).toNat : Int) ((8 : Nat) : Int))) (fun _ => kr)).conseq (int_congr (ishl_mod rfl ((xs.getD (2 * k) 0).toNat) 8 ma3))) (Wl.run 1 ma0 (Wl.nil (hK12 _ _ _ ?_))))
  refine W.prune' [0, 1, 3, 4] [yv, pV p1 0, nV .i64 (2 * k), nV .u16 ((((xs.getD (2 * k) 0).toNat) * 256) % 65536)] ma0 (fun f14 => W.seq (fun K15 hK15 => ?_))
  refine W.meet0 (w0 := w) (M := M) K15 [0, 1, 3, 4] ([yv, pV p1 0, nV .i64 (2 * k), nV .u16 ((pw xs).getD k 0)]) (True) ([U s, [cb p1 [Value.slice a xs.length cap] 26]]) (fun J16 hJ16 => ?_) (fun  f17 hp18 => ?_)
  ·refine W.seq (fun K19 hK19 => W.region (Wl.run 1 ma0 (Wl.ys (v := nV .i64 ((2 * k) + 1)) rfl rfl ((Ys.pure (v := .int .i64 (iadd .i64 ((2 * k : Nat) : Int) 1)) (fun _ => kr)).conseq (int_congr (iadd_eq ma1 ma1 ma1))) (Wl.ys rfl rfl (Ys.l1 p1 0 1 0 Try.isAgg26) ?_))))
   refine Wl.run 2 ma0 (Wl.nil (hK19 _ _ _ (W.prune' [0, 1, 3, 4, 21] [yv, pV p1 0, nV .i64 (2 * k), nV .u16 ((((xs.getD (2 * k) 0).toNat) * 256) % 65536), bV (decide ((((2 * k) + 1 : Nat) : Int) < (xs.length : Int)))] ma0 (fun f20 => ?_))))
   refine W.cond (decide ((((2 * k) + 1 : Nat) : Int) < (xs.length : Int))) ma0 (fun h21 => ?_) (fun h22 => ?_)
   ·have qh21 := h21; try simp only [zA] at qh21
    refine W.region (Wl.run 1 ma0 (Wl.ys rfl rfl (Ys.l1 p1 0 1 0 Try.isAgg26) (Wl.run 1 ma0 (Wl.ys (v := nV .i64 ((2 * k) + 1)) rfl rfl ((Ys.pure (v := .int .i64 (iadd .i64 ((2 * k : Nat) : Int) 1)) (fun _ => kr)).conseq (int_congr (iadd_eq ma1 ma1 ma1))) ?_))))
    refine Wl.ys (v := Value.pointer (some (ela a (((2 * k) + 1) * 1)))) rfl rfl (Ys.byMem fun w_ h_ => Ys.indexAddr (k := .i64) (a := a) (len := xs.length) (cap := cap) (i := (((2 * k) + 1 : Nat) : Int)) (sz := 1) rfl ma0 ma0 Try.runUnderlying26 Try.sizeOf5 ma1 ma1 ((hat.mem' h_ hne).here ma14)) (Wl.ys (v := nV .u8 ((xs.getD ((2 * k) + 1) 0).toNat)) rfl rfl (Ys.ld (a := ela a (((2 * k) + 1) * 1)) rfl ma0 Try.isAgg5 (fun w_ h_ => (hat.mem' h_ hne).ld (mc_get1 0 ma9))) ?_)
    have hb23 : (xs.getD ((2 * k) + 1) 0).toNat < 256 := UInt8.toNat_lt _
    refine Wl.ys (v := nV .u16 ((xs.getD ((2 * k) + 1) 0).toNat)) rfl rfl ((Ys.pure (v := .int .u16 (icnv .u16 ((xs.getD ((2 * k) + 1) 0).toNat : Int))) (fun _ => kr)).conseq (int_congr (wrap_u16 ma1 ma1))) (Wl.ys (v := nV .u16 (((((xs.getD (2 * k) 0).toNat) * 256) % 65536) ||| ((xs.getD ((2 * k) + 1) 0).toNat))) rfl rfl ((Ys.pure (v := .int .u16 (bor .u16 (((((xs.getD (2 * k) 0).toNat) * 256) % 65536 : Nat) : Int) ((xs.getD ((2 * k) + 1) 0).toNat : Int))) (fun _ => kr)).conseq (int_congr (bor_nat rfl (by show _ < 65536; omega) (by show _ < 65536; omega)))) (Wl.run 1 ma0 (Wl.nil ?_)))
    refine fun w_ h_ => hJ16 _ w_ trivial ?_ h_
    refine Eq.trans (b := ([yv, pV p1 0, nV .i64 (2 * k), nV .u16 (((((xs.getD (2 * k) 0).toNat) * 256) % 65536) ||| ((xs.getD ((2 * k) + 1) 0).toNat))] : List Value)) ma0 (by rw [pw_or ma1])
   ·have qh22 := h22; try simp only [zA] at qh22
    refine W.skip' ?_
    refine fun w_ h_ => hJ16 _ w_ trivial ?_ h_
    refine Eq.trans (b := ([yv, pV p1 0, nV .i64 (2 * k), nV .u16 ((((xs.getD (2 * k) 0).toNat) * 256) % 65536)] : List Value)) ma0 (by rw [pw_lone ma1 ma1])
  ·refine hK15 _ _ _ (W.seq (fun K24 hK24 => ?_))
   refine W.region (Wl.run 2 ma0 (Wl.ys (v := nV .i64 ((2 * k) / 2)) rfl rfl ((Ys.pure (v := .int .i64 (iquo .i64 ((2 * k : Nat) : Int) 2)) (fun _ => kr)).conseq (int_congr (iquo_nat ma1))) (Wl.run 1 ma0 (Wl.htIn rfl (HtIn.yield (σ := τ) (Φ := fun b s => bif b then Φ (k + 1) s else Ψ s) (Lf := fun s => [U s, [cb p1 [Value.slice a xs.length cap] 26]]) (args := #[nV .i64 ((2 * k) / 2), nV .u16 ((pw xs).getD k 0)]) rfl rfl (fun _ => kr) (Yld.cast (by have he_ : 2 * k / 2 = k := ma1; try rw [he_]) (hyl (k) s [[cb p1 [Value.slice a xs.length cap] 26]] ma1 hphi))) (fun x28 => ?_)))))
   obtain ⟨⟨b25, s26⟩, hs27⟩ := x28
   refine Wl.castL (LL' := [U s26, [cb p1 [Value.slice a xs.length cap] 26]]) rfl (Wl.run 1 ma0 (Wl.nil (hK24 _ _ _ (W.prune' [0, 1, 3, 35] [yv, pV p1 0, nV .i64 (2 * k), bV (!b25)] ma0 (fun f29 => ?_)))))
   refine W.cond (!b25) ma0 (fun h30 => ?_) (fun h31 => ?_)
   ·refine W.ret ?_
    show ∀ w_, _ → bodyPostM (fence none) 0 Try.prog Try.f77 _ Exit.ret _ w_
    exact fun w_ hS_ => fin_ret (ret0 rfl  ⟨s26, (.inr (by have hb_ : b25 = false := (by simpa using h30); rw [hb_] at hs27; exact hs27)), rfl, hS_⟩)
   ·refine W.skip' (hK11 _ _ _ (W.prune' [0, 1, 3] [yv, pV p1 0, nV .i64 (2 * k)] ma0 (fun f32 => W.region (Wl.run 1 ma0 ?_))))
    refine Wl.ys (v := nV .i64 ((2 * k) + 2)) rfl rfl ((Ys.pure (v := .int .i64 (iadd .i64 ((2 * k : Nat) : Int) 2)) (fun _ => kr)).conseq (int_congr (iadd_eq ma1 ma1 ma1))) (Wl.run 1 ma0 (Wl.nil ?_))
    refine fun w_ h_ => hJ2 (k + 1) s26 _ w_ ma1 ⟨ma1, (by have hb_ : b25 = true := (by simpa using h31); rw [hb_] at hs27; exact hs27)⟩ ?_ h_
    refine Eq.trans (b := ([yv, pV p1 0, nV .i64 ((2 * k) + 2)] : List Value)) ma0 (by simp; try omega)
 ·have qh9 := h9; try simp only [zA] at qh9
  refine W.exit ?_
  show ∀ w_, _ → bodyPostM (fence none) 0 Try.prog Try.f77 _ Exit.normal _ w_
  exact fun w_ hS_ => fin_normal (ret0 rfl  ⟨s, (.inl (by rw [show (pw xs).length = k by omega]; exact hphi)), rfl, hS_⟩)
theorem pairs_it (xs : List UInt8) (a : Option Addr) (len cap : Nat) (p1 : Nat) (M : List Nat) (w : World) (hn : len = xs.length) (hat : At w a (byc xs)) (hne : 0 < (byc xs).length → (a.getD default).block ∉ M) (hy : xs.length ≤ 1000000000) :
    Iter Try.prog 77 #[.pointer (some ⟨p1, 0, none⟩)] (fun i : Nat => [Value.int .i64 (i : Int), Value.int .u16 (((pw xs).getD i 0 : Nat) : Int)]) (pw xs).length [[cb p1 [.slice a len cap] 26]] w M := by
  subst hn; exact fun τ yv U Φ Ψ s0 hyl h0 hl => pairs_iter xs a cap p1 M τ yv U Φ Ψ s0 w hat hne hy hyl h0 hl
end Go.Proofs.Ytgohlpdgeicncaa.Oct
