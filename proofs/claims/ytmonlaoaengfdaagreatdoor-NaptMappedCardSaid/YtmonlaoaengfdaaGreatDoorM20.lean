import Derived.Test.YtmonlaoaengfdaaGreatDoorM19
import Derived.Test.YtmonlaoaengfdaaGreatDoorM4
import Derived.Test.YtmonlaoaengfdaaGreatDoorM18
set_option linter.unusedVariables false
set_option linter.unusedSimpArgs false
set_option maxRecDepth 20000
namespace Go.Proofs.YtmonlaoaengfdaaGreatDoor.Oct
open Go.RowKit Base
attribute [local irreducible] Ys Yc Ht HtS HtIn Wl Wd W Mem pf dpf
theorem pairs_iter (xs : List UInt8) (a : Option Addr) (cap : Nat) (p1 : Nat) (M : List Nat) (τ : Type) (yv : Value) (U : τ → List Blk) (Φ : Nat → τ → Prop) (Ψ : τ → Prop) (s0 : τ) (w : World) (hat : At w a (byc xs)) (hne : 0 < (byc xs).length → (a.getD default).block ∉ M) (hy : xs.length ≤ 1000000000) (hyl : (∀ i s (R : List (List Blk)), i < (pw xs).length → Φ i s → Yld Tryz.prog yv ((fun i : Nat => [Value.int .i64 (i : Int), Value.int .u16 (((pw xs).getD i 0 : Nat) : Int)]) i).toArray (Mem w M (U s :: R)) (fun b w' => ∃ s', (bif b then Φ (i + 1) s' else Ψ s') ∧ Mem w M (U s' :: R) w'))) (h0 : Φ 0 s0) (hl : Mem w M [U s0, [cb p1 [.slice a xs.length cap] 38]] w) : Calls Tryz.prog 185 #[yv, pV p1 0] w (RetM w (fun s : τ => Φ (pw xs).length s ∨ Ψ s) (fun _ => .tuple #[]) M (fun s => [U s, [cb p1 [.slice a xs.length cap] 38]])) := by
 refine calls_W (M := M) (LL := [U s0, [cb p1 [Value.slice a xs.length cap] 38]]) (n := 36) Tryz.func185 rfl rfl ma6 (hl) (W.seq (fun K1 hK1 => ?_))
 refine W.region (Wl.run 1 ma0 (Wl.nil (hK1 _ _ _ (W.block ?_))))
 refine W.loop2 [0, 1, 3] (fun (k : Nat) (s : τ) => [yv, pV p1 0, nV .i64 (2 * k)]) (fun (k : Nat) (s : τ) => k ≤ (pw xs).length ∧ Φ k s) (fun (k : Nat) (s : τ) => [U s, [cb p1 [Value.slice a xs.length cap] 38]]) (fun (k : Nat) (s : τ) => (pw xs).length - k) 0 s0 (Eq.trans (b := ([yv, pV p1 0, iV .i64 0] : List Value)) ma0 ma6) ⟨(Nat.zero_le _), h0⟩ (by rfl) (fun k s f3 J2 hp4 hJ2 => ?_)
 obtain ⟨hk, hphi⟩ := hp4
 have hpl := pw_len xs
 refine W.seq (fun K5 hK5 => W.seq (fun K6 hK6 => ?_))
 refine W.region (Wl.run 1 ma0 (Wl.ys rfl rfl (Ys.l1 p1 0 1 0 Tryz.isAgg38) (Wl.run 2 ma0 (Wl.nil ?_))))
 refine hK6 _ _ _ (W.prune' [0, 1, 3, 8] [yv, pV p1 0, nV .i64 (2 * k), bV (decide (((2 * k : Nat) : Int) < (xs.length : Int)))] ma0 (fun f7 => ?_))
 refine W.cond (decide (((2 * k : Nat) : Int) < (xs.length : Int))) ma0 (fun h8 => ?_) (fun h9 => ?_)
 ·have qh8 := h8; try simp only [zA] at qh8
  refine W.skip' (hK5 _ _ _ (W.prune' [0, 1, 3] [yv, pV p1 0, nV .i64 (2 * k)] ma0 (fun f10 => W.seq (fun K11 hK11 => W.block ?_))))
  refine W.seq (fun K12 hK12 => W.region (Wl.ys rfl rfl (Ys.l1 p1 0 1 0 Tryz.isAgg38) (Wl.run 1 ma0 (Wl.ys (v := Value.pointer (some (ela a ((2 * k) * 1)))) rfl rfl (Ys.byMem fun w_ h_ => Ys.indexAddr (k := .i64) (a := a) (len := xs.length) (cap := cap) (i := ((2 * k : Nat) : Int)) (sz := 1) rfl ma0 ma0 Tryz.runUnderlying38 Tryz.sizeOf5 ma1 ma1 ((hat.mem' h_ hne).here ma14)) ?_))))
  refine Wl.ys (v := nV .u8 ((xs.getD (2 * k) 0).toNat)) rfl rfl (Ys.ld (a := ela a ((2 * k) * 1)) rfl ma0 Tryz.isAgg5 (fun w_ h_ => (hat.mem' h_ hne).ld (mc_get1 0 ma11))) ?_
  have hb13 : (xs.getD (2 * k) 0).toNat < 256 := UInt8.toNat_lt _
  refine Wl.ys (v := nV .u16 ((xs.getD (2 * k) 0).toNat)) rfl rfl ((Ys.pure (v := .int .u16 (icnv .u16 ((xs.getD (2 * k) 0).toNat : Int))) (fun _ => kr)).conseq (int_congr (wrap_u16 ma1 ma1))) (Wl.ys (v := nV .u16 ((((xs.getD (2 * k) 0).toNat) * 256) % 65536)) rfl rfl ((Ys.pure (v := .int .u16 (ishl .u16 ((xs.getD (2 * k) 0).toNat : Int) ((8 : Nat) : Int))) (fun _ => kr)).conseq (int_congr (ishl_mod rfl ((xs.getD (2 * k) 0).toNat) 8 ma2))) (Wl.run 1 ma0 (Wl.nil (hK12 _ _ _ ?_))))
  refine W.prune' [0, 1, 3, 4] [yv, pV p1 0, nV .i64 (2 * k), nV .u16 ((((xs.getD (2 * k) 0).toNat) * 256) % 65536)] ma0 (fun f14 => W.seq (fun K15 hK15 => ?_))
  refine W.meet0 (w0 := w) (M := M) K15 [0, 1, 3, 4] ([yv, pV p1 0, nV .i64 (2 * k), nV .u16 ((pw xs).getD k 0)]) (True) ([U s, [cb p1 [Value.slice a xs.length cap] 38]]) (fun J16 hJ16 => ?_) (fun  f17 hp18 => ?_)
  ·refine W.seq (fun K19 hK19 => W.region (Wl.run 1 ma0 (Wl.ys (v := nV .i64 ((2 * k) + 1)) rfl rfl ((Ys.pure (v := .int .i64 (iadd .i64 ((2 * k : Nat) : Int) 1)) (fun _ => kr)).conseq (int_congr (iadd_eq ma1 ma1 ma1))) (Wl.ys rfl rfl (Ys.l1 p1 0 1 0 Tryz.isAgg38) ?_))))
   refine Wl.run 2 ma0 (Wl.nil (hK19 _ _ _ (W.prune' [0, 1, 3, 4, 21] [yv, pV p1 0, nV .i64 (2 * k), nV .u16 ((((xs.getD (2 * k) 0).toNat) * 256) % 65536), bV (decide ((((2 * k) + 1 : Nat) : Int) < (xs.length : Int)))] ma0 (fun f20 => ?_))))
   refine W.cond (decide ((((2 * k) + 1 : Nat) : Int) < (xs.length : Int))) ma0 (fun h21 => ?_) (fun h22 => ?_)
   ·have qh21 := h21; try simp only [zA] at qh21
    refine W.region (Wl.run 1 ma0 (Wl.ys rfl rfl (Ys.l1 p1 0 1 0 Tryz.isAgg38) (Wl.run 1 ma0 (Wl.ys (v := nV .i64 ((2 * k) + 1)) rfl rfl ((Ys.pure (v := .int .i64 (iadd .i64 ((2 * k : Nat) : Int) 1)) (fun _ => kr)).conseq (int_congr (iadd_eq ma1 ma1 ma1))) ?_))))
    refine Wl.ys (v := Value.pointer (some (ela a (((2 * k) + 1) * 1)))) rfl rfl (Ys.byMem fun w_ h_ => Ys.indexAddr (k := .i64) (a := a) (len := xs.length) (cap := cap) (i := (((2 * k) + 1 : Nat) : Int)) (sz := 1) rfl ma0 ma0 Tryz.runUnderlying38 Tryz.sizeOf5 ma1 ma1 ((hat.mem' h_ hne).here ma14)) (Wl.ys (v := nV .u8 ((xs.getD ((2 * k) + 1) 0).toNat)) rfl rfl (Ys.ld (a := ela a (((2 * k) + 1) * 1)) rfl ma0 Tryz.isAgg5 (fun w_ h_ => (hat.mem' h_ hne).ld (mc_get1 0 ma11))) ?_)
    have hb23 : (xs.getD ((2 * k) + 1) 0).toNat < 256 := UInt8.toNat_lt _
    refine Wl.ys (v := nV .u16 ((xs.getD ((2 * k) + 1) 0).toNat)) rfl rfl ((Ys.pure (v := .int .u16 (icnv .u16 ((xs.getD ((2 * k) + 1) 0).toNat : Int))) (fun _ => kr)).conseq (int_congr (wrap_u16 ma1 ma1))) (Wl.ys (v := nV .u16 (((((xs.getD (2 * k) 0).toNat) * 256) % 65536) ||| ((xs.getD ((2 * k) + 1) 0).toNat))) rfl rfl ((Ys.pure (v := .int .u16 (bor .u16 (((((xs.getD (2 * k) 0).toNat) * 256) % 65536 : Nat) : Int) ((xs.getD ((2 * k) + 1) 0).toNat : Int))) (fun _ => kr)).conseq (int_congr (bor_nat rfl ma27 ma27))) (Wl.run 1 ma0 (Wl.nil ?_)))
    refine fun w_ h_ => hJ16 _ w_ trivial ?_ h_
    refine Eq.trans (b := ([yv, pV p1 0, nV .i64 (2 * k), nV .u16 (((((xs.getD (2 * k) 0).toNat) * 256) % 65536) ||| ((xs.getD ((2 * k) + 1) 0).toNat))] : List Value)) ma0 (by rw [pw_or ma1])
   ·have qh22 := h22; try simp only [zA] at qh22
    refine W.skip' ?_
    refine fun w_ h_ => hJ16 _ w_ trivial ?_ h_
    refine Eq.trans (b := ([yv, pV p1 0, nV .i64 (2 * k), nV .u16 ((((xs.getD (2 * k) 0).toNat) * 256) % 65536)] : List Value)) ma0 (by rw [pw_lone ma1 ma1])
  ·refine hK15 _ _ _ (W.seq (fun K24 hK24 => ?_))
   refine W.region (Wl.run 2 ma0 (Wl.ys (v := nV .i64 ((2 * k) / 2)) rfl rfl ((Ys.pure (v := .int .i64 (iquo .i64 ((2 * k : Nat) : Int) 2)) (fun _ => kr)).conseq (int_congr (iquo_nat ma1))) (Wl.run 1 ma0 (Wl.htIn rfl (HtIn.yield (σ := τ) (Φ := fun b s => bif b then Φ (k + 1) s else Ψ s) (Lf := fun s => [U s, [cb p1 [Value.slice a xs.length cap] 38]]) (args := #[nV .i64 ((2 * k) / 2), nV .u16 ((pw xs).getD k 0)]) rfl rfl (fun _ => kr) (Yld.cast (by have he_ : 2 * k / 2 = k := ma1; try rw [he_]) (hyl (k) s [[cb p1 [Value.slice a xs.length cap] 38]] ma1 hphi))) (fun x28 => ?_)))))
   obtain ⟨⟨b25, s26⟩, hs27⟩ := x28
   refine Wl.castL (LL' := [U s26, [cb p1 [Value.slice a xs.length cap] 38]]) rfl (Wl.run 1 ma0 (Wl.nil (hK24 _ _ _ (W.prune' [0, 1, 3, 35] [yv, pV p1 0, nV .i64 (2 * k), bV (!b25)] ma0 (fun f29 => ?_)))))
   refine W.cond (!b25) ma0 (fun h30 => ?_) (fun h31 => ?_)
   ·refine W.ret ?_
    show ∀ w_, _ → bodyPostM (fence none) 0 Tryz.prog Tryz.f185 _ Exit.ret _ w_
    exact fun w_ hS_ => fin_ret (ret0 rfl  ⟨s26, (.inr (by have hb_ : b25 = false := (by simpa using h30); rw [hb_] at hs27; exact hs27)), rfl, hS_⟩)
   ·refine W.skip' (hK11 _ _ _ (W.prune' [0, 1, 3] [yv, pV p1 0, nV .i64 (2 * k)] ma0 (fun f32 => W.region (Wl.run 1 ma0 ?_))))
    refine Wl.ys (v := nV .i64 ((2 * k) + 2)) rfl rfl ((Ys.pure (v := .int .i64 (iadd .i64 ((2 * k : Nat) : Int) 2)) (fun _ => kr)).conseq (int_congr (iadd_eq ma1 ma1 ma1))) (Wl.run 1 ma0 (Wl.nil ?_))
    refine fun w_ h_ => hJ2 (k + 1) s26 _ w_ ma1 ⟨ma1, (by have hb_ : b25 = true := (by simpa using h31); rw [hb_] at hs27; exact hs27)⟩ ?_ h_
    refine Eq.trans (b := ([yv, pV p1 0, nV .i64 ((2 * k) + 2)] : List Value)) ma0 (by simp; try omega)
 ·have qh9 := h9; try simp only [zA] at qh9
  refine W.exit ?_
  show ∀ w_, _ → bodyPostM (fence none) 0 Tryz.prog Tryz.f185 _ Exit.normal _ w_
  exact fun w_ hS_ => fin_normal (ret0 rfl  ⟨s, (.inl (by rw [show (pw xs).length = k by omega]; exact hphi)), rfl, hS_⟩)
theorem pairs_it (xs : List UInt8) (a : Option Addr) (len cap : Nat) (p1 : Nat) (M : List Nat) (w : World) (hn : len = xs.length) (hat : At w a (byc xs)) (hne : 0 < (byc xs).length → (a.getD default).block ∉ M) (hy : xs.length ≤ 1000000000) :
    Iter Tryz.prog 185 #[.pointer (some ⟨p1, 0, none⟩)] (fun i : Nat => [Value.int .i64 (i : Int), Value.int .u16 (((pw xs).getD i 0 : Nat) : Int)]) (pw xs).length [[cb p1 [.slice a len cap] 38]] w M := by
  subst hn; exact fun τ yv U Φ Ψ s0 hyl h0 hl => pairs_iter xs a cap p1 M τ yv U Φ Ψ s0 w hat hne hy hyl h0 hl
end Go.Proofs.YtmonlaoaengfdaaGreatDoor.Oct
namespace Go.Proofs.YtmonlaoaengfdaaGreatDoor.Oct
open Go.RowKit Base
attribute [local irreducible] Ys Yc Ht HtS HtIn Wl Wd W Mem pf dpf
def fd (n : Nat) : Nat := if n = 0 then 0 else (n - 1) % 65535 + 1
theorem fd_le (n : Nat) : fd n ≤ 65535 := by unfold fd; split <;> omega
theorem fd_small {n : Nat} (h : n ≤ 65535) : fd n = n := by unfold fd; split <;> omega
theorem fd_step {m : Nat} (h : 65535 < m) : fd (m / 65536 + m % 65536) = fd m := by
  unfold fd
  rw [if_neg ma1, if_neg ma1]
  omega
def cks (xs : List UInt8) : Nat := 65535 - fd (pw xs).sum
theorem take_sum {ns : List Nat} {k : Nat} (h : k < ns.length) : (ns.take (k + 1)).sum = (ns.take k).sum + ns.getD k 0 := by
  rw [List.take_add_one, List.sum_append]; simp [h]
theorem take_sum_le (ns : List Nat) (h : ∀ k, ns.getD k 0 < 65536) (k : Nat) : (ns.take k).sum ≤ 65535 * k := by
  induction k with
  | zero => simp
  | succ k ih =>
    rcases Nat.lt_or_ge k ns.length with hk | hk
    · rw [take_sum hk]; have := h k; omega
    · rw [List.take_of_length_le ma1] at ih ⊢; omega
theorem fold_c (n : Nat) (w : World) (hn : n < 18446744073709551616) : Calls Tryz.prog 178 #[nV .u64 n] w (Ret w (.int .u16 (fd n : Int))) := by
 refine calls_W (M := []) (LL := []) (n := 12) Tryz.func178 rfl rfl ma6 (Mem.refl _) (W.seq (fun K1 hK1 => ?_))
 refine W.region (Wl.run 1 ma0 (Wl.nil (hK1 _ _ _ (W.seq (fun K2 hK2 => ?_)))))
 refine W.block (W.loop1 [0] (fun (m : Nat) => [nV .u64 m]) (fun (m : Nat) => fd m = fd n ∧ m < 18446744073709551616) (fun (m : Nat) => []) (fun (m : Nat) => m) n ma0 ⟨rfl, hn⟩ (by rfl) (fun m f4 J3 hp5 hJ3 => ?_))
 obtain ⟨hf, hlt⟩ := hp5
 refine W.seq (fun K6 hK6 => W.seq (fun K7 hK7 => ?_))
 refine W.region (Wl.run 2 ma0 (Wl.nil (hK7 _ _ _ (W.prune' [0, 4] [nV .u64 m, bV (decide (((m : Nat) : Int) > 65535))] ma0 (fun f8 => ?_)))))
 refine W.cond (decide (((m : Nat) : Int) > 65535)) ma0 (fun h9 => ?_) (fun h10 => ?_)
 ·have qh9 := h9; try simp only [zA] at qh9
  refine W.skip' (hK6 _ _ _ (W.prune' [0] [nV .u64 m] ma0 (fun f11 => W.block (W.region ?_))))
  refine Wl.run 1 ma0 (Wl.ys (v := nV .u64 (m / 65536)) rfl rfl ((Ys.pure (v := .int .u64 (ishr .u64 (m : Int) ((16 : Nat) : Int))) (fun _ => kr)).conseq (int_congr (ishr_nat m 16 ma2))) (Wl.run 1 ma0 (Wl.ys (v := nV .u64 (m % 65536)) rfl rfl ((Ys.pure (v := .int .u64 (band .u64 (m : Int) ((65535 : Nat) : Int))) (fun _ => kr)).conseq (int_congr (band_mask rfl (a := m) (c := 16) ma18 ma2 65535 rfl))) (Wl.ys (v := nV .u64 ((m / 65536) + (m % 65536))) rfl rfl ((Ys.pure (v := .int .u64 (iadd .u64 ((m / 65536 : Nat) : Int) ((m % 65536 : Nat) : Int))) (fun _ => kr)).conseq (int_congr (iadd_natu rfl ma18))) ?_))))
  refine Wl.run 1 ma0 (Wl.nil ?_)
  refine fun w_ h_ => hJ3 (m / 65536 + m % 65536) _ w_ ma1 ⟨((fd_step ma1).trans hf), ma1⟩ ?_ h_
  kernel_rfl
 ·have qh10 := h10; try simp only [zA] at qh10
  refine W.exit (hK2 _ _ _ (W.prune' [0] [nV .u64 m] ma0 (fun f12 => W.seq (fun K13 hK13 => W.region ?_))))
  refine Wl.run 1 ma0 (Wl.ys (v := nV .u16 (m % 65536)) rfl rfl ((Ys.pure (v := .int .u16 (icnv .u16 (m : Int))) (fun _ => kr)).conseq (int_congr (icnv_mod rfl _))) (Wl.run 1 ma0 (Wl.nil (hK13 _ _ _ ?_))))
  refine W.prune' [2] [nV .u16 (m % 65536)] ma0 (fun f14 => W.ret ?_)
  show ∀ w_, _ → bodyPostM (fence none) 0 Tryz.prog Tryz.f178 _ Exit.ret _ w_
  exact fun w_ hS_ => fin_ret (ret1 rfl (RV.tmp (v := nV .u16 (m % 65536)) ma0) hS_ ⟨by clear hK1 hK2 hJ3 hK6 hK7 hK13; refine congrArg Ending.returned ?_; exact int_congr (by rw [← hf, fd_small ma1]; omega), hS_.below⟩)
theorem sum_c (ps : List SV) (pa : Option Addr) (pcap : Nat) (w : World) (hpa : At w pa (mc slv ps)) (hp : ∀ p ∈ ps, At w p.a (byc p.xs)) (htot : (jn ps).length ≤ 1000000000) (hn : ps.length ≤ 1000000000) (hpc : ps.length ≤ pcap) : Calls Tryz.prog 147 #[Value.slice pa ps.length pcap] w (Ret w (.int .u16 (cks (jn ps) : Int))) := by
 refine calls_W (M := []) (LL := []) (n := 18) Tryz.func147 rfl rfl ma6 (Mem.refl _) (W.seq (fun K1 hK1 => ?_))
 refine W.region (Wl.run 1 ma0 (Wl.nil (hK1 _ _ _ (W.seq (fun K2 hK2 => ?_)))))
 refine W.region (Wl.ht rfl (Ht.alloc (z := iV .u64 0) (cs := [iV .u64 0]) rfl rfl Tryz.zeroValue45 rfl) (fun p3 => ?_))
 refine Wl.ht rfl (Ht.store (b := p3) (o' := 0) (i := 0) (j := 0) (v := iV .u64 0) (LL' := [[cb p3 [iV .u64 0] 45]]) rfl rfl ma0 ma0 Tryz.sizeOf45 rfl rfl rfl ma6 rfl rfl) (fun _ => Wl.nil (hK2 _ _ _ (W.prune' [0, 2, 3] [Value.slice pa ps.length pcap, iV .u16 0, pV p3 0] ma0 (fun f3 => W.seq (fun K4 hK4 => ?_)))))
 refine W.seq (fun K5 hK5 => W.region (Wl.run 1 ma0 (Wl.htS rfl (HtS.call (β := FS) (k := 144) (args := #[Value.slice pa ps.length pcap]) (Lin := []) (Lk := [[cb p3 [iV .u64 0] 45]]) (Mi := []) (Lo := fun g9 => [g9.seg 5 (mc b8 (jn ps)), [cb p3 [iV .u64 0] 45]]) [] [0] rfl (fun _ => kr) ma2 rfl rfl rfl (fun w_ hm_ hl_ => (ojoinn_c ps (jn ps) pa ps.length pcap ((jn ps).length) _ rfl rfl rfl (hpa.mem0 hm_) (fun p h => (hp p h).mem0 hm_) ma1 ma1 ma1)) (fun _ => rfl)) (fun g9 hx13 => ?_))))
 obtain ⟨ok10, nn11⟩ := hx13
 refine Wl.htS rfl (HtS.call (β := Nat) (k := 177) (args := #[sV g9 ((jn ps).length)]) (Lin := []) (Lk := [g9.seg 5 (mc b8 (jn ps)), [cb p3 [iV .u64 0] 45]]) (Mi := []) (Lo := fun pb14 => [[cb pb14 [sV g9 ((jn ps).length)] 38], g9.seg 5 (mc b8 (jn ps)), [cb p3 [iV .u64 0] 45]]) [] [0, 1] rfl (fun _ => kr) ma2 rfl rfl rfl (fun w_ hm_ hl_ => (pairs_mk g9.a ((jn ps).length) g9.cap _)) (fun _ => rfl)) (fun pb14 _ => Wl.nil (hK5 _ _ _ (W.prune' [2, 3, 8] [iV .u16 0, pV p3 0, Value.func (.func 185) #[] #[pV pb14 0]] ma0 (fun f16 => W.block ?_))))
 refine W.range (σ := Nat) (enc := fun i => [nV .i64 i, nV .u16 ((pw (jn ps)).getD i 0)]) (N := (pw (jn ps)).length) (Lu := fun (gs_ : Nat) => [[cb p3 [nV .u64 gs_] 45]]) (Li := [[cb pb14 [sV g9 ((jn ps).length)] 38]]) (Lk := [g9.seg 5 (mc b8 (jn ps))]) [2] [0] [1] 0 (fun i (gs_ : Nat) => gs_ = ((pw (jn ps)).take i).sum) (fun c_ (gs_ : Nat) => False) [9, 10] ma0 (fun _ _ => rfl) ma2 (by rfl) rfl rfl rfl (fun _ => rfl) (rfl) (fun D_ l_ ob_ w1_ hm_ => (pairs_it (jn ps) g9.a ((jn ps).length) g9.cap pb14 _ w1_ (by first | rfl | (simp; done)) (FS.at (i := 4) (t := 5) hm_ rfl (FS.nil_cs ok10 (mc_len1 _))) (fun h0 => FS.other hm_ [0, 1, 2, 3] 4 ma2 rfl ok10 (mc_len1 _) rfl h0) ma1)) ?_ ?_ ?_
 ·intro D17 l18 ob19 ob20 i s22 u23 Mu24 J25 hi26 hp27 hcv28 hJ29
  obtain ⟨t, rfl⟩ : ∃ a_, a_ = s22 := ⟨_, rfl⟩
  have ht := hp27
  have hb := pw_lt (jn ps) i; have hpl := pw_len (jn ps); have htl := take_sum_le _ (pw_lt (jn ps)) i; rw [← ht] at htl
  refine W.region (Wl.run 1 ma0 (Wl.nil ?_))
  refine fun w_ h_ => hJ29 _ [[cb p3 [nV .u64 t] 45]] ?_ w_ h_
  refine W.prune' [3, 5] [pV p3 0, nV .u16 ((pw (jn ps)).getD i 0)] ma0 (fun f30 => W.block (W.region (Wl.ys rfl rfl (Ys.l1 p3 0 2 0 Tryz.isAgg45) (Wl.run 1 ma0 ?_))))
  refine Wl.ys (v := nV .u64 ((pw (jn ps)).getD i 0)) rfl rfl ((Ys.pure (v := .int .u64 (icnv .u64 (((pw (jn ps)).getD i 0 : Nat) : Int))) (fun _ => kr)).conseq (int_congr (wrap_u64 ma1 ma1))) (Wl.ys (v := nV .u64 (t + ((pw (jn ps)).getD i 0))) rfl rfl ((Ys.pure (v := .int .u64 (iadd .u64 (t : Int) (((pw (jn ps)).getD i 0 : Nat) : Int))) (fun _ => kr)).conseq (int_congr (iadd_natu rfl ma18))) (Wl.ht rfl (Ht.store (b := p3) (o' := 0) (i := 2) (j := 0) (v := nV .u64 (t + ((pw (jn ps)).getD i 0))) (LL' := [dB D17, lB l18 ob20, [cb p3 [nV .u64 (t + ((pw (jn ps)).getD i 0))] 45]]) rfl rfl ma0 ma0 Tryz.sizeOf45 rfl rfl rfl ma6 rfl rfl) (fun _ => Wl.nil ?_)))
  exact fun w_ h_ => Exists.intro (t + (pw (jn ps)).getD i 0) (And.intro (by rw [take_sum ma1, ← ht]) h_)
 ·intro D31 l32 ob33 s34 hp35
  obtain ⟨t, rfl⟩ : ∃ a_, a_ = s34 := ⟨_, rfl⟩
  have ht := hp35
  have hpl := pw_len (jn ps); have htl := take_sum_le _ (pw_lt (jn ps)) (pw (jn ps)).length; rw [← ht] at htl; rw [List.take_length] at ht; have hfd := fd_le t
  refine Mem.pickK (LL' := [[cb pb14 [sV g9 ((jn ps).length)] 38], g9.seg 5 (mc b8 (jn ps)), [cb p3 [nV .u64 t] 45], dB D31]) [3, 4, 2, 0] ma2 rfl (hK4 _ _ _ (W.pick (LL' := [[cb p3 [nV .u64 t] 45], dB D31]) [2, 3] ma2 rfl (W.prune' [3] [pV p3 0] ma0 (fun f36 => W.seq (fun K37 hK37 => ?_)))))
  refine W.region (Wl.ys rfl rfl (Ys.l1 p3 0 0 0 Tryz.isAgg45) (Wl.yc (v := nV .u16 (fd t)) rfl rfl (Yc.call (fun _ => kr) (fun w_ hm_ => fold_c t _ ma1)) (Wl.ys (v := nV .u16 (65535 - (fd t))) rfl rfl ((Ys.pure (v := .int .u16 (bxor .u16 ((65535 : Nat) : Int) (fd t : Int))) (fun _ => kr)).conseq (int_congr (bnot_nat rfl ma27 65535 rfl))) (Wl.run 1 ma0 ?_))))
  refine Wl.nil (hK37 _ _ _ (W.pick (LL' := [dB D31]) [1] ma2 rfl (W.prune' [2] [nV .u16 (65535 - (fd t))] ma0 (fun f38 => W.ret ?_))))
  show ∀ w_, _ → bodyPostM (fence none) 0 Tryz.prog Tryz.f147 _ Exit.ret _ w_
  exact fun w_ h0_ => fin_mark (h0_.mark (i := 0) rfl).1 (by have hS_ : Mem w [] [[⟨D31, .deferred none⟩]] _ := (h0_.mark (i := 0) rfl).2; exact ret1 rfl (RV.tmp (v := nV .u16 (65535 - (fd t))) ma0) hS_ ⟨by clear hK1 hK2 hK4 hK5 hK37; refine congrArg Ending.returned ?_; exact int_congr (by rw [ht]; rfl), hS_.below⟩)
 ·intro D_ l_ ob_ c_ s_ h_; exact h_.elim
theorem sumn_c (ps : List SV) (zs : List UInt8) (pa : Option Addr) (len pcap n : Nat) (w : World) (hl : len = ps.length) (hz : jn ps = zs) (hn' : zs.length = n) (hpa : At w pa (mc slv ps)) (hp : ∀ p ∈ ps, At w p.a (byc p.xs)) (htot : n ≤ 1000000000) (hn : ps.length ≤ 1000000000) (hpc : ps.length ≤ pcap) :
    Calls Tryz.prog 147 #[.slice pa len pcap] w (Ret w (.int .u16 (cks zs : Int))) := by
  subst hl; subst hz; subst hn'; exact sum_c ps pa pcap w hpa hp htot hn hpc
theorem right_c (ps : List SV) (pa : Option Addr) (pcap : Nat) (w : World) (hpa : At w pa (mc slv ps)) (hp : ∀ p ∈ ps, At w p.a (byc p.xs)) (htot : (jn ps).length ≤ 1000000000) (hn : ps.length ≤ 1000000000) (hpc : ps.length ≤ pcap) : Calls Tryz.prog 133 #[Value.slice pa ps.length pcap] w (Ret w (.bool (((cks (jn ps) : Nat) : Int) == 0))) := by
 refine calls_W (M := []) (LL := []) (n := 6) Tryz.func133 rfl rfl ma6 (Mem.refl _) (W.seq (fun K1 hK1 => ?_))
 refine W.region (Wl.run 1 ma0 (Wl.nil (hK1 _ _ _ (W.seq (fun K2 hK2 => ?_)))))
 refine W.region (Wl.run 1 ma0 (Wl.yc (v := nV .u16 (cks (jn ps))) rfl rfl (Yc.call (fun _ => kr) (fun w_ hm_ => (sumn_c ps (jn ps) pa ps.length pcap ((jn ps).length) _ rfl rfl rfl (hpa.mem0 hm_) (fun p h => (hp p h).mem0 hm_) ma1 ma1 ma1))) (Wl.run 2 ma0 (Wl.nil ?_))))
 refine hK2 _ _ _ (W.prune' [2] [bV (((cks (jn ps) : Nat) : Int) == 0)] ma0 (fun f3 => ?_))
 refine W.ret ?_
 show ∀ w_, _ → bodyPostM (fence none) 0 Tryz.prog Tryz.f133 _ Exit.ret _ w_
 exact fun w_ hS_ => fin_ret (ret1 rfl (RV.tmp (v := bV (((cks (jn ps) : Nat) : Int) == 0)) ma0) hS_ ⟨rfl, hS_.below⟩)
theorem rightn_c (ps : List SV) (zs : List UInt8) (pa : Option Addr) (len pcap n : Nat) (w : World) (hl : len = ps.length) (hz : jn ps = zs) (hn' : zs.length = n) (hpa : At w pa (mc slv ps)) (hp : ∀ p ∈ ps, At w p.a (byc p.xs)) (htot : n ≤ 1000000000) (hn : ps.length ≤ 1000000000) (hpc : ps.length ≤ pcap) :
    Calls Tryz.prog 133 #[.slice pa len pcap] w (Ret w (.bool (((cks zs : Nat) : Int) == 0))) := by
  subst hl; subst hz; subst hn'; exact right_c ps pa pcap w hpa hp htot hn hpc
theorem radd_c (a b : Nat) (w : World) (ha : a < 65536) (hb : b < 65536) : Calls Tryz.prog 159 #[nV .u16 a, nV .u16 b] w (Ret w (.int .u16 (fd (a + b) : Int))) := by
 refine calls_W (M := []) (LL := []) (n := 17) Tryz.func159 rfl rfl ma6 (Mem.refl _) (W.seq (fun K1 hK1 => ?_))
 refine W.region (Wl.run 1 ma0 (Wl.nil (hK1 _ _ _ (W.seq (fun K2 hK2 => ?_)))))
 refine W.region (Wl.run 1 ma0 (Wl.ys (v := nV .i64 a) rfl rfl ((Ys.pure (v := .int .i64 (icnv .i64 (a : Int))) (fun _ => kr)).conseq (int_congr (wrap_i64 ma1 ma1))) (Wl.run 1 ma0 (Wl.ys (v := nV .i64 b) rfl rfl ((Ys.pure (v := .int .i64 (icnv .i64 (b : Int))) (fun _ => kr)).conseq (int_congr (wrap_i64 ma1 ma1))) ?_))))
 refine Wl.ys (v := nV .i64 (a + b)) rfl rfl ((Ys.pure (v := .int .i64 (iadd .i64 (a : Int) (b : Int))) (fun _ => kr)).conseq (int_congr (iadd_eq ma1 ma1 ma1))) (Wl.run 1 ma0 (Wl.nil (hK2 _ _ _ (W.prune' [5] [nV .i64 (a + b)] ma0 (fun f3 => ?_)))))
 refine W.seq (fun K4 hK4 => W.seq (fun K5 hK5 => ?_))
 refine W.region (Wl.run 2 ma0 (Wl.nil (hK5 _ _ _ (W.prune' [5, 12] [nV .i64 (a + b), bV (decide (((a + b : Nat) : Int) > 65535))] ma0 (fun f6 => ?_)))))
 refine W.cond (decide (((a + b : Nat) : Int) > 65535)) ma0 (fun h7 => ?_) (fun h8 => ?_)
 ·have qh7 := h7; try simp only [zA] at qh7
  refine W.region (Wl.run 1 ma0 (Wl.ys (v := iV .i64 (((a + b : Nat) : Int) - 65535)) rfl rfl ((Ys.pure (v := .int .i64 (isub .i64 ((a + b : Nat) : Int) 65535)) (fun _ => kr)).conseq (int_congr (isub_eq rfl ma1 ma1))) (Wl.run 1 ma0 (Wl.nil ?_))))
  refine hK4 _ _ _ (W.prune' [5] [iV .i64 (((a + b : Nat) : Int) - 65535)] ma0 (fun f9 => ?_))
  refine W.seq (fun K10 hK10 => W.region (Wl.run 3 ma0 (Wl.nil (hK10 _ _ _ ?_))))
  refine W.prune' [4] [iV .u16 (icnv .u16 (((a + b : Nat) : Int) - 65535))] ma0 (fun f11 => W.ret ?_)
  show ∀ w_, _ → bodyPostM (fence none) 0 Tryz.prog Tryz.f159 _ Exit.ret _ w_
  exact fun w_ hS_ => fin_ret (ret1 rfl (RV.tmp (v := iV .u16 (icnv .u16 (((a + b : Nat) : Int) - 65535))) ma0) hS_ ⟨by clear hK1 hK2 hK4 hK5 hK10; refine congrArg Ending.returned ?_; exact int_congr (by first | (rw [fd_small ma1]; omega) | (show IntKind.wrap .u16 _ = _; rw [wrap_u16 ma1 ma1]; unfold fd; rw [if_neg ma1]; omega)), hS_.below⟩)
 ·have qh8 := h8; try simp only [zA] at qh8
  refine W.skip' (hK4 _ _ _ (W.prune' [5] [nV .i64 (a + b)] ma0 (fun f12 => W.seq (fun K13 hK13 => W.region ?_))))
  refine Wl.run 1 ma0 (Wl.ys (v := nV .u16 ((a + b) % 65536)) rfl rfl ((Ys.pure (v := .int .u16 (icnv .u16 ((a + b : Nat) : Int))) (fun _ => kr)).conseq (int_congr (icnv_mod rfl _))) (Wl.run 1 ma0 (Wl.nil (hK13 _ _ _ ?_))))
  refine W.prune' [4] [nV .u16 ((a + b) % 65536)] ma0 (fun f14 => W.ret ?_)
  show ∀ w_, _ → bodyPostM (fence none) 0 Tryz.prog Tryz.f159 _ Exit.ret _ w_
  exact fun w_ hS_ => fin_ret (ret1 rfl (RV.tmp (v := nV .u16 ((a + b) % 65536)) ma0) hS_ ⟨by clear hK1 hK2 hK4 hK5 hK13; refine congrArg Ending.returned ?_; exact int_congr (by first | (rw [fd_small ma1]; omega) | (show IntKind.wrap .u16 _ = _; rw [wrap_u16 ma1 ma1]; unfold fd; rw [if_neg ma1]; omega)), hS_.below⟩)
theorem fd_fd (a b : Nat) : fd (fd a + b) = fd (a + b) := by
  unfold fd; split <;> split <;> (try split) <;> omega
theorem rsum_c (xs : List UInt8) (a : Option Addr) (cap : Nat) (w : World) (hat : At w a (byc xs)) (hy : xs.length ≤ 1000000000) : Calls Tryz.prog 106 #[Value.slice a xs.length cap] w (Ret w (.int .u16 (cks xs : Int))) := by
 refine calls_W (M := []) (LL := []) (n := 22) Tryz.func106 rfl rfl ma6 (Mem.refl _) (W.seq (fun K1 hK1 => ?_))
 refine W.region (Wl.run 1 ma0 (Wl.nil (hK1 _ _ _ (W.seq (fun K2 hK2 => ?_)))))
 refine W.region (Wl.run 1 ma0 (Wl.htS rfl (HtS.call (β := FS) (k := 158) (args := #[Value.slice a xs.length cap]) (Lin := []) (Lk := []) (Mi := []) (Lo := fun g3 => [g3.seg 22 (mc n16 (pw xs))]) [] [] rfl (fun _ => kr) ma2 rfl rfl rfl (fun w_ hm_ hl_ => (rpairsn_c xs a xs.length cap _ (by first | rfl | (simp; done)) (hat.mem0 hm_) ma12)) (fun _ => rfl)) (fun g3 ok4 => Wl.run 2 ma0 (Wl.nil ?_))))
 refine hK2 _ _ _ (W.prune' [3, 4] [sV g3 ((pw xs).length), iV .u16 0] ma0 (fun f6 => ?_))
 refine W.seq (fun K7 hK7 => W.seq (fun K8 hK8 => ?_))
 refine W.region (Wl.run 1 ma0 (Wl.nil (hK8 _ _ _ (W.block ?_))))
 refine W.loop1 [3, 4, 5] (fun (k : Nat) => [sV g3 ((pw xs).length), nV .u16 (fd ((pw xs).take k).sum), nV .i64 k]) (fun (k : Nat) => k ≤ (pw xs).length) (fun (k : Nat) => [g3.seg 22 (mc n16 (pw xs))]) (fun (k : Nat) => (pw xs).length - k) 0 ma0 ma29 (by rfl) (fun k f10 J9 hp11 hJ9 => ?_)
 have hk := hp11
 have hb := pw_lt xs k; have hfl := fd_le ((pw xs).take k).sum; have hpl := pw_len xs
 refine W.seq (fun K12 hK12 => W.seq (fun K13 hK13 => ?_))
 refine W.region (Wl.run 4 ma0 (Wl.nil (hK13 _ _ _ (W.prune' [3, 4, 5, 11] [sV g3 ((pw xs).length), nV .u16 (fd ((pw xs).take k).sum), nV .i64 k, bV (decide (((k : Nat) : Int) < ((pw xs).length : Int)))] ma0 (fun f14 => ?_)))))
 refine W.cond (decide (((k : Nat) : Int) < ((pw xs).length : Int))) ma0 (fun h15 => ?_) (fun h16 => ?_)
 ·have qh15 := h15; try simp only [zA] at qh15
  refine W.skip' (hK12 _ _ _ (W.prune' [3, 4, 5] [sV g3 ((pw xs).length), nV .u16 (fd ((pw xs).take k).sum), nV .i64 k] ma0 (fun f17 => W.seq (fun K18 hK18 => W.block ?_))))
  refine W.region (Wl.run 3 ma0 (Wl.ys (v := Value.pointer (some (ela g3.a (k * 1)))) rfl rfl (Ys.indexAddr (k := .i64) (a := g3.a) (len := (pw xs).length) (cap := g3.cap) (i := (k : Int)) (sz := 1) rfl ma0 ma0 Tryz.runUnderlying267 Tryz.sizeOf22 ma1 ma1 (by rw [FS.a_own (FS.notnil ok4 ma1)]; rfl)) (Wl.ys (v := nV .u16 ((pw xs).getD k 0)) rfl rfl (Ys.ld (a := ela g3.a (k * 1)) rfl ma0 Tryz.isAgg22 (fun w_ h_ => (FS.at (i := 0) (t := 22) h_ rfl (FS.nil_cs ok4 (mc_len1 _))).ld (mc_get1 0 ma11))) (Wl.yc (v := nV .u16 (fd ((fd ((pw xs).take k).sum) + ((pw xs).getD k 0)))) rfl rfl (Yc.call (fun _ => kr) (fun w_ hm_ => (radd_c (fd ((pw xs).take k).sum) ((pw xs).getD k 0) _ ma1 ma1))) ?_))))
  refine Wl.run 1 ma0 (Wl.nil (hK18 _ _ _ (W.prune' [3, 4, 5] [sV g3 ((pw xs).length), nV .u16 (fd ((fd ((pw xs).take k).sum) + ((pw xs).getD k 0))), nV .i64 k] ma0 (fun f19 => W.region ?_))))
  refine Wl.run 1 ma0 (Wl.ys (v := nV .i64 (k + 1)) rfl rfl ((Ys.pure (v := .int .i64 (iadd .i64 (k : Int) 1)) (fun _ => kr)).conseq (int_congr (iadd_eq ma1 ma1 ma1))) (Wl.run 1 ma0 (Wl.nil ?_)))
  refine fun w_ h_ => hJ9 (k + 1) _ w_ ma1 ma29 ?_ h_
  refine Eq.trans (b := ([sV g3 ((pw xs).length), nV .u16 (fd ((fd ((pw xs).take k).sum) + ((pw xs).getD k 0))), nV .i64 (k + 1)] : List Value)) ma0 (by rw [fd_fd, take_sum ma1])
 ·have qh16 := h16; try simp only [zA] at qh16
  refine W.exit (hK7 _ _ _ (W.pick (LL' := []) [] ma2 rfl (W.prune' [4] [nV .u16 (fd ((pw xs).take k).sum)] ma0 (fun f20 => W.seq (fun K21 hK21 => ?_)))))
  have hfl := fd_le ((pw xs).take k).sum
  refine W.region (Wl.run 1 ma0 (Wl.ys (v := nV .u16 (65535 - (fd ((pw xs).take k).sum))) rfl rfl ((Ys.pure (v := .int .u16 (isub .u16 ((65535 : Nat) : Int) (fd ((pw xs).take k).sum : Int))) (fun _ => kr)).conseq (int_congr (isub_natu rfl ma1 ma27))) (Wl.run 1 ma0 (Wl.nil ?_))))
  refine hK21 _ _ _ (W.prune' [2] [nV .u16 (65535 - (fd ((pw xs).take k).sum))] ma0 (fun f22 => ?_))
  refine W.ret ?_
  show ∀ w_, _ → bodyPostM (fence none) 0 Tryz.prog Tryz.f106 _ Exit.ret _ w_
  exact fun w_ hS_ => fin_ret (ret1 rfl (RV.tmp (v := nV .u16 (65535 - (fd ((pw xs).take k).sum))) ma0) hS_ ⟨by clear hK1 hK2 hK7 hK8 hJ9 hK12 hK13 hK21; refine congrArg Ending.returned ?_; exact int_congr (by rw [List.take_of_length_le ma1]; rfl), hS_.below⟩)
theorem rsumn_c (xs : List UInt8) (a : Option Addr) (len cap : Nat) (w : World) (hn : len = xs.length) (hat : At w a (byc xs)) (hy : len ≤ 1000000000) : Calls Tryz.prog 106 #[.slice a len cap] w (Ret w (.int .u16 (cks xs : Int))) := by
  subst hn; exact rsum_c xs a cap w hat hy
end Go.Proofs.YtmonlaoaengfdaaGreatDoor.Oct
namespace Go.Proofs.YtmonlaoaengfdaaGreatDoor.Oct
open Go.RowKit Base
attribute [local irreducible] Ys Yc Ht HtS HtIn Wl Wd W Mem pf dpf
theorem pw_app : ∀ (xs ys : List UInt8), xs.length % 2 = 0 → pw (xs ++ ys) = pw xs ++ pw ys
  | [], ys, _ => rfl
  | [_], _, h => by simp at h
  | x :: y :: l, ys, h => by
    have := pw_app l ys (by simp at h; omega)
    simp only [List.cons_append, pw, this]
theorem pw_be2 {m : Nat} (h : m < 65536) : pw (be 2 m) = [m] := by
  rw [be2]
  simp only [pw, UInt8.toNat_ofNat']
  congr 1; omega
theorem cks_le (xs : List UInt8) : cks xs ≤ 65535 := by unfold cks; omega
end Go.Proofs.YtmonlaoaengfdaaGreatDoor.Oct
namespace Go.Proofs.YtmonlaoaengfdaaGreatDoor.Oct
open Go.RowKit Base
attribute [local irreducible] Ys Yc Ht HtS HtIn Wl Wd W Mem pf dpf
theorem eOut_k {X : List UInt8} {j k : Nat} (h : j + k ≤ X.length) : eOut (X.drop j) (k : Int) = (X.drop j).take k := by
  rw [eOut_t (by rw [asked_nat, List.length_drop]; omega), asked_nat]
theorem eRest_k {X : List UInt8} {j k : Nat} (h : j + k ≤ X.length) : eRest (X.drop j) (k : Int) = X.drop (j + k) := by
  rw [eRest_t (by rw [asked_nat, List.length_drop]; omega), asked_nat, List.drop_drop]
theorem eBad_k {X : List UInt8} {j k : Nat} {bad : Bool} (h : j + k ≤ X.length) : eBad (X.drop j) bad (k : Int) = bad := eBad_t (by rw [asked_nat, List.length_drop]; omega)
theorem numk_c (X : List UInt8) (a : Option Addr) (len cap : Nat) (bad : Bool) (b j k : Nat) (w : World) (hl : Mem w [b] [[cb b [.slice a len cap, .bool bad] 283]] w) (hat : At w a (byc (X.drop j))) (hn : len = X.length - j) (hjk : j + k ≤ X.length) (hcap : len ≤ cap) (hy : X.length ≤ 70368744177664) (hk8 : k ≤ 8) :
    Calls Tryz.prog 132 #[.pointer (some ⟨b, 0, none⟩), .int .i64 (k : Int)] w (RetM w (fun x : EV => View x.a (X.drop (j + k)) a (X.drop j) ∧ X.length - (j + k) ≤ x.cap) (fun x => .int .u64 (bv ((X.drop j).take k) : Int)) [b] (fun x => [[cb b [.slice x.a (X.length - (j + k)) x.cap, .bool bad] 283]])) := by
  have hlen : len = (X.drop j).length := by rw [List.length_drop]; omega
  have h8 : size8 (k : Int) = k := by unfold size8 imin imax; repeat (first | omega | split)
  refine (enumn_c (X.drop j) a len cap bad b (k : Int) w hlen hl hat ma1 ma1).mono ?_
  rw [h8]
  rintro e w' ⟨x, ⟨h2, h3⟩, rfl, h4⟩
  rw [eRest_k hjk] at h2 h3
  refine ⟨x, ⟨h2, by rw [List.length_drop] at h3; exact h3⟩, by dsimp only; rw [eOut_k hjk], ?_⟩
  dsimp only at h4 ⊢
  rw [eRest_k hjk, eBad_k hjk, List.length_drop] at h4
  exact h4
end Go.Proofs.YtmonlaoaengfdaaGreatDoor.Oct
