import Derived.Test.YtgohlpdgeicncaaKOct11
set_option linter.unusedVariables false
set_option linter.unusedSimpArgs false
set_option maxRecDepth 20000
namespace Go.Proofs.Ytgohlpdgeicncaa.Oct
open Go.RowKit Base
attribute [local irreducible] Ys Yc Ht HtS HtIn Wl Wd W Mem pf dpf
def fd (n : Nat) : Nat := if n = 0 then 0 else (n - 1) % 65535 + 1
theorem fd_le (n : Nat) : fd n ≤ 65535 := by unfold fd; split <;> omega
theorem fd_small {n : Nat} (h : n ≤ 65535) : fd n = n := by unfold fd; split <;> omega
theorem fd_step {m : Nat} (h : 65535 < m) : fd (m / 65536 + m % 65536) = fd m := by
  unfold fd
  rw [if_neg ma1, if_neg ma1]
  omega
def cks (xs : List UInt8) : Nat := 65535 - fd (pw xs).sum
theorem take_sum {ns : List Nat} {k : Nat} (h : k < ns.length) : (ns.take (k + 1)).sum = (ns.take k).sum + ns.getD k 0 := by
  rw [List.take_add_one, List.sum_append]; simp [h]
theorem take_sum_le (ns : List Nat) (h : ∀ k, ns.getD k 0 < 65536) (k : Nat) : (ns.take k).sum ≤ 65535 * k := by
  induction k with
  | zero => simp
  | succ k ih =>
    rcases Nat.lt_or_ge k ns.length with hk | hk
    · rw [take_sum hk]; have := h k; omega
    · rw [List.take_of_length_le ma1] at ih ⊢; omega
theorem fold_c (n : Nat) (w : World) (hn : n < 18446744073709551616) : Calls Try.prog 67 #[nV .u64 n] w (Ret w (.int .u16 (fd n : Int))) := by
 refine calls_W (M := []) (LL := []) (n := 12) Try.func67 rfl rfl ma6 (Mem.refl _) (W.seq (fun K1 hK1 => ?_))
 refine W.region (Wl.run 1 ma0 (Wl.nil (hK1 _ _ _ (W.seq (fun K2 hK2 => ?_)))))
 refine W.block (W.loop1 [0] (fun (m : Nat) => [nV .u64 m]) (fun (m : Nat) => fd m = fd n ∧ m < 18446744073709551616) (fun (m : Nat) => []) (fun (m : Nat) => m) n ma0 ⟨rfl, hn⟩ (by rfl) (fun m f4 J3 hp5 hJ3 => ?_))
 obtain ⟨hf, hlt⟩ := hp5
 refine W.seq (fun K6 hK6 => W.seq (fun K7 hK7 => ?_))
 refine W.region (Wl.run 2 ma0 (Wl.nil (hK7 _ _ _ (W.prune' [0, 4] [nV .u64 m, bV (decide (((m : Nat) : Int) > 65535))] ma0 (fun f8 => ?_)))))
 refine W.cond (decide (((m : Nat) : Int) > 65535)) ma0 (fun h9 => ?_) (fun h10 => ?_)
 ·have qh9 := h9; try simp only [zA] at qh9
  refine W.skip' (hK6 _ _ _ (W.prune' [0] [nV .u64 m] ma0 (fun f11 => W.block (W.region ?_))))
  refine Wl.run 1 ma0 (Wl.ys (v := nV .u64 (m / 65536)) rfl rfl ((Ys.pure (v := .int .u64 (ishr .u64 (m : Int) ((16 : Nat) : Int))) (fun _ => kr)).conseq (int_congr (ishr_nat m 16 ma3))) (Wl.run 1 ma0 (Wl.ys (v := nV .u64 (m % 65536)) rfl rfl ((Ys.pure (v := .int .u64 (band .u64 (m : Int) ((65535 : Nat) : Int))) (fun _ => kr)).conseq (int_congr (band_mask rfl (a := m) (c := 16) (by show _ < 18446744073709551616; omega) ma3 65535 rfl))) (Wl.ys (v := nV .u64 ((m / 65536) + (m % 65536))) rfl rfl ((Ys.pure (v := .int .u64 (iadd .u64 ((m / 65536 : Nat) : Int) ((m % 65536 : Nat) : Int))) (fun _ => kr)).conseq (int_congr (iadd_natu rfl (by show _ < 18446744073709551616; omega)))) ?_))))
  refine Wl.run 1 ma0 (Wl.nil ?_)
  refine fun w_ h_ => hJ3 (m / 65536 + m % 65536) _ w_ ma1 ⟨((fd_step ma1).trans hf), ma1⟩ ?_ h_
  kernel_rfl
 ·have qh10 := h10; try simp only [zA] at qh10
  refine W.exit (hK2 _ _ _ (W.prune' [0] [nV .u64 m] ma0 (fun f12 => W.seq (fun K13 hK13 => W.region ?_))))
  refine Wl.run 1 ma0 (Wl.ys (v := nV .u16 (m % 65536)) rfl rfl ((Ys.pure (v := .int .u16 (icnv .u16 (m : Int))) (fun _ => kr)).conseq (int_congr (icnv_mod rfl _))) (Wl.run 1 ma0 (Wl.nil (hK13 _ _ _ ?_))))
  refine W.prune' [2] [nV .u16 (m % 65536)] ma0 (fun f14 => W.ret ?_)
  show ∀ w_, _ → bodyPostM (fence none) 0 Try.prog Try.f67 _ Exit.ret _ w_
  exact fun w_ hS_ => fin_ret (ret1 rfl (RV.tmp (v := nV .u16 (m % 65536)) ma0) hS_ ⟨by clear hK1 hK2 hJ3 hK6 hK7 hK13; refine congrArg Ending.returned ?_; exact int_congr (by rw [← hf, fd_small ma1]; omega), hS_.below⟩)
theorem sum_c (ps : List SV) (pa : Option Addr) (pcap : Nat) (w : World) (hpa : At w pa (mc slv ps)) (hp : ∀ p ∈ ps, At w p.a (byc p.xs)) (htot : (jn ps).length ≤ 1000000000) (hn : ps.length ≤ 1000000000) (hpc : ps.length ≤ pcap) : Calls Try.prog 43 #[Value.slice pa ps.length pcap] w (Ret w (.int .u16 (cks (jn ps) : Int))) := by
 refine calls_W (M := []) (LL := []) (n := 18) Try.func43 rfl rfl ma6 (Mem.refl _) (W.seq (fun K1 hK1 => ?_))
 refine W.region (Wl.run 1 ma0 (Wl.nil (hK1 _ _ _ (W.seq (fun K2 hK2 => ?_)))))
 refine W.region (Wl.ht rfl (Ht.alloc (z := iV .u64 0) (cs := [iV .u64 0]) rfl rfl Try.zeroValue39 rfl) (fun p3 => ?_))
 refine Wl.ht rfl (Ht.store (b := p3) (o' := 0) (i := 0) (j := 0) (v := iV .u64 0) (LL' := [[cb p3 [iV .u64 0] 39]]) rfl rfl ma0 ma0 Try.sizeOf39 rfl rfl rfl ma6 rfl rfl) (fun _ => Wl.nil (hK2 _ _ _ (W.prune' [0, 2, 3] [Value.slice pa ps.length pcap, iV .u16 0, pV p3 0] ma0 (fun f3 => W.seq (fun K4 hK4 => ?_)))))
 refine W.seq (fun K5 hK5 => W.region (Wl.run 1 ma0 (Wl.htS rfl (HtS.call (β := FS) (k := 41) (args := #[Value.slice pa ps.length pcap]) (Lin := []) (Lk := [[cb p3 [iV .u64 0] 39]]) (Mi := []) (Lo := fun g9 => [g9.seg 5 (mc b8 (jn ps)), [cb p3 [iV .u64 0] 39]]) [] [0] rfl (fun _ => kr) ma3 rfl rfl rfl (fun w_ hm_ hl_ => (ojoinn_c ps (jn ps) pa ps.length pcap ((jn ps).length) _ rfl rfl rfl (hpa.mem0 hm_) (fun p h => (hp p h).mem0 hm_) ma1 ma1 ma1)) (fun _ => rfl)) (fun g9 hx13 => ?_))))
 obtain ⟨ok10, nn11⟩ := hx13
 refine Wl.htS rfl (HtS.call (β := Nat) (k := 66) (args := #[sV g9 ((jn ps).length)]) (Lin := []) (Lk := [g9.seg 5 (mc b8 (jn ps)), [cb p3 [iV .u64 0] 39]]) (Mi := []) (Lo := fun pb14 => [[cb pb14 [sV g9 ((jn ps).length)] 26], g9.seg 5 (mc b8 (jn ps)), [cb p3 [iV .u64 0] 39]]) [] [0, 1] rfl (fun _ => kr) ma3 rfl rfl rfl (fun w_ hm_ hl_ => (pairs_mk g9.a ((jn ps).length) g9.cap _)) (fun _ => rfl)) (fun pb14 _ => Wl.nil (hK5 _ _ _ (W.prune' [2, 3, 8] [iV .u16 0, pV p3 0, Value.func (.func 77) #[] #[pV pb14 0]] ma0 (fun f16 => W.block ?_))))
 refine W.range (σ := Nat) (enc := fun i => [nV .i64 i, nV .u16 ((pw (jn ps)).getD i 0)]) (N := (pw (jn ps)).length) (Lu := fun (s : Nat) => [[cb p3 [nV .u64 s] 39]]) (Li := [[cb pb14 [sV g9 ((jn ps).length)] 26]]) (Lk := [g9.seg 5 (mc b8 (jn ps))]) [2] [0] [1] 0 (fun i (s : Nat) => s = ((pw (jn ps)).take i).sum) (fun c_ (s : Nat) => False) [9, 10] ma0 (fun _ _ => rfl) ma3 (by rfl) rfl rfl rfl (fun _ => rfl) (rfl) (fun D_ l_ ob_ w1_ hm_ => (pairs_it (jn ps) g9.a ((jn ps).length) g9.cap pb14 _ w1_ (by first | rfl | (simp; done)) (FS.at (i := 4) (t := 5) hm_ rfl (FS.nil_cs ok10 (mc_len1 _))) (fun h0 => FS.other hm_ [0, 1, 2, 3] 4 ma3 rfl ok10 (mc_len1 _) rfl h0) ma1)) ?_ ?_ ?_
 ·intro D17 l18 ob19 ob20 i s22 u23 Mu24 J25 hi26 hp27 hcv28 hJ29
  obtain ⟨t, rfl⟩ : ∃ a_, a_ = s22 := ⟨_, rfl⟩
  have ht := hp27
  have hb := pw_lt (jn ps) i; have hpl := pw_len (jn ps); have htl := take_sum_le _ (pw_lt (jn ps)) i; rw [← ht] at htl
  refine W.region (Wl.run 1 ma0 (Wl.nil ?_))
  refine fun w_ h_ => hJ29 _ [[cb p3 [nV .u64 t] 39]] ?_ w_ h_
  refine W.prune' [3, 5] [pV p3 0, nV .u16 ((pw (jn ps)).getD i 0)] ma0 (fun f30 => W.block (W.region (Wl.ys rfl rfl (Ys.l1 p3 0 2 0 Try.isAgg39) (Wl.run 1 ma0 ?_))))
  refine Wl.ys (v := nV .u64 ((pw (jn ps)).getD i 0)) rfl rfl ((Ys.pure (v := .int .u64 (icnv .u64 (((pw (jn ps)).getD i 0 : Nat) : Int))) (fun _ => kr)).conseq (int_congr (wrap_u64 ma1 ma1))) (Wl.ys (v := nV .u64 (t + ((pw (jn ps)).getD i 0))) rfl rfl ((Ys.pure (v := .int .u64 (iadd .u64 (t : Int) (((pw (jn ps)).getD i 0 : Nat) : Int))) (fun _ => kr)).conseq (int_congr (iadd_natu rfl (by show _ < 18446744073709551616; omega)))) (Wl.ht rfl (Ht.store (b := p3) (o' := 0) (i := 2) (j := 0) (v := nV .u64 (t + ((pw (jn ps)).getD i 0))) (LL' := [dB D17, lB l18 ob20, [cb p3 [nV .u64 (t + ((pw (jn ps)).getD i 0))] 39]]) rfl rfl ma0 ma0 Try.sizeOf39 rfl rfl rfl ma6 rfl rfl) (fun _ => Wl.nil ?_)))
  exact fun w_ h_ => Exists.intro (t + (pw (jn ps)).getD i 0) (And.intro (by rw [take_sum ma1, ← ht]) h_)
 ·intro D31 l32 ob33 s34 hp35
  obtain ⟨t, rfl⟩ : ∃ a_, a_ = s34 := ⟨_, rfl⟩
  have ht := hp35
  have hpl := pw_len (jn ps); have htl := take_sum_le _ (pw_lt (jn ps)) (pw (jn ps)).length; rw [← ht] at htl; rw [List.take_length] at ht; have hfd := fd_le t
  refine Mem.pickK (LL' := [[cb pb14 [sV g9 ((jn ps).length)] 26], g9.seg 5 (mc b8 (jn ps)), [cb p3 [nV .u64 t] 39], dB D31]) [3, 4, 2, 0] ma3 rfl (hK4 _ _ _ (W.pick (LL' := [[cb p3 [nV .u64 t] 39], dB D31]) [2, 3] ma3 rfl (W.prune' [3] [pV p3 0] ma0 (fun f36 => W.seq (fun K37 hK37 => ?_)))))
  refine W.region (Wl.ys rfl rfl (Ys.l1 p3 0 0 0 Try.isAgg39) (Wl.yc (v := nV .u16 (fd t)) rfl rfl (Yc.call (fun _ => kr) (fun w_ hm_ => fold_c t _ ma1)) (Wl.ys (v := nV .u16 (65535 - (fd t))) rfl rfl ((Ys.pure (v := .int .u16 (bxor .u16 ((65535 : Nat) : Int) (fd t : Int))) (fun _ => kr)).conseq (int_congr (bnot_nat rfl (by show _ < 65536; omega) 65535 rfl))) (Wl.run 1 ma0 ?_))))
  refine Wl.nil (hK37 _ _ _ (W.pick (LL' := [dB D31]) [1] ma3 rfl (W.prune' [2] [nV .u16 (65535 - (fd t))] ma0 (fun f38 => W.ret ?_))))
  show ∀ w_, _ → bodyPostM (fence none) 0 Try.prog Try.f43 _ Exit.ret _ w_
  exact fun w_ h0_ => fin_mark (h0_.mark (i := 0) rfl).1 (by have hS_ : Mem w [] [[⟨D31, .deferred none⟩]] _ := (h0_.mark (i := 0) rfl).2; exact ret1 rfl (RV.tmp (v := nV .u16 (65535 - (fd t))) ma0) hS_ ⟨by clear hK1 hK2 hK4 hK5 hK37; refine congrArg Ending.returned ?_; exact int_congr (by rw [ht]; rfl), hS_.below⟩)
 ·intro D_ l_ ob_ c_ s_ h_; exact h_.elim
theorem sumn_c (ps : List SV) (zs : List UInt8) (pa : Option Addr) (len pcap n : Nat) (w : World) (hl : len = ps.length) (hz : jn ps = zs) (hn' : zs.length = n) (hpa : At w pa (mc slv ps)) (hp : ∀ p ∈ ps, At w p.a (byc p.xs)) (htot : n ≤ 1000000000) (hn : ps.length ≤ 1000000000) (hpc : ps.length ≤ pcap) :
    Calls Try.prog 43 #[.slice pa len pcap] w (Ret w (.int .u16 (cks zs : Int))) := by
  subst hl; subst hz; subst hn'; exact sum_c ps pa pcap w hpa hp htot hn hpc
theorem right_c (ps : List SV) (pa : Option Addr) (pcap : Nat) (w : World) (hpa : At w pa (mc slv ps)) (hp : ∀ p ∈ ps, At w p.a (byc p.xs)) (htot : (jn ps).length ≤ 1000000000) (hn : ps.length ≤ 1000000000) (hpc : ps.length ≤ pcap) : Calls Try.prog 52 #[Value.slice pa ps.length pcap] w (Ret w (.bool (((cks (jn ps) : Nat) : Int) == 0))) := by
 refine calls_W (M := []) (LL := []) (n := 6) Try.func52 rfl rfl ma6 (Mem.refl _) (W.seq (fun K1 hK1 => ?_))
 refine W.region (Wl.run 1 ma0 (Wl.nil (hK1 _ _ _ (W.seq (fun K2 hK2 => ?_)))))
 refine W.region (Wl.run 1 ma0 (Wl.yc (v := nV .u16 (cks (jn ps))) rfl rfl (Yc.call (fun _ => kr) (fun w_ hm_ => (sumn_c ps (jn ps) pa ps.length pcap ((jn ps).length) _ rfl rfl rfl (hpa.mem0 hm_) (fun p h => (hp p h).mem0 hm_) ma1 ma1 ma1))) (Wl.run 2 ma0 (Wl.nil ?_))))
 refine hK2 _ _ _ (W.prune' [2] [bV (((cks (jn ps) : Nat) : Int) == 0)] ma0 (fun f3 => ?_))
 refine W.ret ?_
 show ∀ w_, _ → bodyPostM (fence none) 0 Try.prog Try.f52 _ Exit.ret _ w_
 exact fun w_ hS_ => fin_ret (ret1 rfl (RV.tmp (v := bV (((cks (jn ps) : Nat) : Int) == 0)) ma0) hS_ ⟨rfl, hS_.below⟩)
theorem rightn_c (ps : List SV) (zs : List UInt8) (pa : Option Addr) (len pcap n : Nat) (w : World) (hl : len = ps.length) (hz : jn ps = zs) (hn' : zs.length = n) (hpa : At w pa (mc slv ps)) (hp : ∀ p ∈ ps, At w p.a (byc p.xs)) (htot : n ≤ 1000000000) (hn : ps.length ≤ 1000000000) (hpc : ps.length ≤ pcap) :
    Calls Try.prog 52 #[.slice pa len pcap] w (Ret w (.bool (((cks zs : Nat) : Int) == 0))) := by
  subst hl; subst hz; subst hn'; exact right_c ps pa pcap w hpa hp htot hn hpc
end Go.Proofs.Ytgohlpdgeicncaa.Oct
