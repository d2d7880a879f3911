import Derived.Test.YtejeafjkhomdoaaKOct11
set_option linter.unusedVariables false
set_option linter.unusedSimpArgs false
set_option maxRecDepth 20000
namespace Go.Proofs.Ytejeafjkhomdoaa.Oct
open Go.RowKit Base
attribute [local irreducible] Ys Yc Ht HtS HtIn Wl Wd W Mem pf dpf
def fd (n : Nat) : Nat := if n = 0 then 0 else (n - 1) % 65535 + 1
theorem fd_le (n : Nat) : fd n ≤ 65535 := by unfold fd; split <;> omega
theorem fd_small {n : Nat} (h : n ≤ 65535) : fd n = n := by unfold fd; split <;> omega
theorem fd_step {m : Nat} (h : 65535 < m) : fd (m / 65536 + m % 65536) = fd m := by
  unfold fd
  rw [if_neg ma1, if_neg ma1]
  omega
def cks (xs : List UInt8) : Nat := 65535 - fd (pw xs).sum
theorem take_sum {ns : List Nat} {k : Nat} (h : k < ns.length) : (ns.take (k + 1)).sum = (ns.take k).sum + ns.getD k 0 := by
  rw [List.take_add_one, List.sum_append]; simp [h]
theorem take_sum_le (ns : List Nat) (h : ∀ k, ns.getD k 0 < 65536) (k : Nat) : (ns.take k).sum ≤ 65535 * k := by
  induction k with
  | zero => simp
  | succ k ih =>
    rcases Nat.lt_or_ge k ns.length with hk | hk
    · rw [take_sum hk]; have := h k; omega
    · rw [List.take_of_length_le ma1] at ih ⊢; omega
theorem fold_c (n : Nat) (w : World) (hn : n < 18446744073709551616) : Calls Try.prog 83 #[nV .u64 n] w (Ret w (.int .u16 (fd n : Int))) := by
 refine calls_W (M := []) (LL := []) (n := 12) Try.func83 rfl rfl ma10 (Mem.refl _) (W.seq (fun K1 hK1 => ?_))
 refine W.region (Wl.run 1 ma0 (Wl.nil (hK1 _ _ _ (W.seq (fun K2 hK2 => ?_)))))
 refine W.block (W.loop1 [0] (fun (m : Nat) => [nV .u64 m]) (fun (m : Nat) => fd m = fd n ∧ m < 18446744073709551616) (fun (m : Nat) => []) (fun (m : Nat) => m) n ma0 ⟨rfl, hn⟩ (by rfl) (fun m f4 J3 hp5 hJ3 => ?_))
 obtain ⟨hf, hlt⟩ := hp5
 refine W.seq (fun K6 hK6 => W.seq (fun K7 hK7 => ?_))
 refine W.region (Wl.run 2 ma0 (Wl.nil (hK7 _ _ _ ?_)))
 refine W.cond (decide (((m : Nat) : Int) > 65535)) ma0 (fun h8 => ?_) (fun h9 => ?_)
 ·have qh8 := h8; try simp only [zA] at qh8
  refine W.skip' (hK6 _ _ _ (W.block (W.region (Wl.run 1 ma0 ?_))))
  refine Wl.ys (v := nV .u64 (m / 65536)) rfl rfl ((Ys.pure (v := .int .u64 (ishr .u64 (m : Int) ((16 : Nat) : Int))) (fun _ => kr)).conseq (int_congr (ishr_nat m 16 ma2))) (Wl.run 1 ma0 (Wl.ys (v := nV .u64 (m % 65536)) rfl rfl ((Ys.pure (v := .int .u64 (band .u64 (m : Int) ((65535 : Nat) : Int))) (fun _ => kr)).conseq (int_congr (band_mask rfl (a := m) (c := 16) ma27 ma2 65535 rfl))) (Wl.ys (v := nV .u64 ((m / 65536) + (m % 65536))) rfl rfl ((Ys.pure (v := .int .u64 (iadd .u64 ((m / 65536 : Nat) : Int) ((m % 65536 : Nat) : Int))) (fun _ => kr)).conseq (int_congr (iadd_natu rfl ma27))) (Wl.run 1 ma0 ?_))))
  refine Wl.nil ?_
  refine fun w_ h_ => hJ3 (m / 65536 + m % 65536) _ w_ ma1 ⟨((fd_step ma1).trans hf), ma1⟩ ?_ h_
  kernel_rfl
 ·have qh9 := h9; try simp only [zA] at qh9
  refine W.exit (hK2 _ _ _ (W.seq (fun K10 hK10 => W.region (Wl.run 1 ma0 ?_))))
  refine Wl.ys (v := nV .u16 (m % 65536)) rfl rfl ((Ys.pure (v := .int .u16 (icnv .u16 (m : Int))) (fun _ => kr)).conseq (int_congr (icnv_mod rfl _))) (Wl.run 1 ma0 (Wl.nil (hK10 _ _ _ (W.ret ?_))))
  show ∀ w_, _ → bodyPostM (fence none) 0 Try.prog Try.f83 _ Exit.ret _ w_
  exact fun w_ hS_ => fin_ret (ret1 rfl (RV.tmp (v := nV .u16 (m % 65536)) ma0) hS_ ⟨by clear hK1 hK2 hJ3 hK6 hK7 hK10; refine congrArg Ending.returned ?_; exact int_congr (by rw [← hf, fd_small ma1]; omega), hS_.below⟩)
theorem sum_c (ps : List SV) (pa : Option Addr) (pcap : Nat) (w : World) (hpa : At w pa (mc slv ps)) (hp : ∀ p ∈ ps, At w p.a (byc p.xs)) (htot : (jn ps).length ≤ 1000000000) (hn : ps.length ≤ 1000000000) (hpc : ps.length ≤ pcap) : Calls Try.prog 66 #[Value.slice pa ps.length pcap] w (Ret w (.int .u16 (cks (jn ps) : Int))) := by
 refine calls_W (M := []) (LL := []) (n := 18) Try.func66 rfl rfl ma10 (Mem.refl _) (W.seq (fun K1 hK1 => ?_))
 refine W.region (Wl.run 1 ma0 (Wl.nil (hK1 _ _ _ (W.seq (fun K2 hK2 => ?_)))))
 refine W.region (Wl.ht rfl (Ht.alloc (z := iV .u64 0) (cs := [iV .u64 0]) rfl rfl Try.zeroValue77 rfl) (fun p3 => ?_))
 refine Wl.ht rfl (Ht.store (b := p3) (o' := 0) (i := 0) (j := 0) (v := iV .u64 0) (LL' := [[cb p3 [iV .u64 0] 77]]) rfl rfl ma0 ma0 Try.sizeOf77 rfl rfl rfl ma10 rfl rfl) (fun _ => Wl.nil (hK2 _ _ _ (W.seq (fun K3 hK3 => W.seq (fun K4 hK4 => ?_)))))
 refine W.region (Wl.run 1 ma0 (Wl.htS rfl (HtS.call (β := FS) (k := 63) (args := #[Value.slice pa ps.length pcap]) (Lin := []) (Lk := [[cb p3 [iV .u64 0] 77]]) (Mi := []) (Lo := fun g8 => [g8.seg 5 (mc b8 (jn ps)), [cb p3 [iV .u64 0] 77]]) [] [0] rfl (fun _ => kr) ma2 rfl rfl rfl (fun w_ hm_ hl_ => (ojoinn_c ps (jn ps) pa ps.length pcap ((jn ps).length) _ rfl rfl rfl (hpa.mem0 hm_) (fun p h => (hp p h).mem0 hm_) ma1 ma1 ma1)) (fun _ => rfl)) (fun g8 hx12 => ?_)))
 obtain ⟨ok9, nn10⟩ := hx12
 refine Wl.htS rfl (HtS.call (β := Nat) (k := 82) (args := #[sV g8 ((jn ps).length)]) (Lin := []) (Lk := [g8.seg 5 (mc b8 (jn ps)), [cb p3 [iV .u64 0] 77]]) (Mi := []) (Lo := fun pb13 => [[cb pb13 [sV g8 ((jn ps).length)] 25], g8.seg 5 (mc b8 (jn ps)), [cb p3 [iV .u64 0] 77]]) [] [0, 1] rfl (fun _ => kr) ma2 rfl rfl rfl (fun w_ hm_ hl_ => (pairs_mk g8.a ((jn ps).length) g8.cap _)) (fun _ => rfl)) (fun pb13 _ => Wl.nil (hK4 _ _ _ (W.block ?_)))
 refine W.range (σ := Nat) (enc := fun i => [nV .i64 i, nV .u16 ((pw (jn ps)).getD i 0)]) (N := (pw (jn ps)).length) (Lu := fun (s : Nat) => [[cb p3 [nV .u64 s] 77]]) (Li := [[cb pb13 [sV g8 ((jn ps).length)] 25]]) (Lk := [g8.seg 5 (mc b8 (jn ps))]) [2] [0] [1] 0 (fun i (s : Nat) => s = ((pw (jn ps)).take i).sum) (fun c_ (s : Nat) => False) [9, 10] ma0 (fun _ _ => rfl) ma2 (by rfl) rfl rfl rfl (fun _ => rfl) (rfl) (fun D_ l_ ob_ w1_ hm_ => (pairs_it (jn ps) g8.a ((jn ps).length) g8.cap pb13 _ w1_ (by first | rfl | (simp; done)) (FS.at (i := 4) (t := 5) hm_ rfl (FS.nil_cs ok9 (mc_len1 _))) (fun h0 => FS.other hm_ [0, 1, 2, 3] 4 ma2 rfl ok9 (mc_len1 _) rfl h0) ma1)) ?_ ?_ ?_
 ·intro D15 l16 ob17 ob18 i s20 u21 Mu22 J23 hi24 hp25 hcv26 hJ27
  obtain ⟨t, rfl⟩ : ∃ a_, a_ = s20 := ⟨_, rfl⟩
  have ht := hp25
  have hb := pw_lt (jn ps) i; have hpl := pw_len (jn ps); have htl := take_sum_le _ (pw_lt (jn ps)) i; rw [← ht] at htl
  refine W.region (Wl.run 1 ma0 (Wl.nil ?_))
  refine fun w_ h_ => hJ27 _ [[cb p3 [nV .u64 t] 77]] ?_ w_ h_
  refine W.block (W.region (Wl.ys rfl rfl (Ys.l1 p3 0 2 0 Try.isAgg77) (Wl.run 1 ma0 (Wl.ys (v := nV .u64 ((pw (jn ps)).getD i 0)) rfl rfl ((Ys.pure (v := .int .u64 (icnv .u64 (((pw (jn ps)).getD i 0 : Nat) : Int))) (fun _ => kr)).conseq (int_congr (wrap_u64 ma1 ma1))) ?_))))
  refine Wl.ys (v := nV .u64 (t + ((pw (jn ps)).getD i 0))) rfl rfl ((Ys.pure (v := .int .u64 (iadd .u64 (t : Int) (((pw (jn ps)).getD i 0 : Nat) : Int))) (fun _ => kr)).conseq (int_congr (iadd_natu rfl ma27))) (Wl.ht rfl (Ht.store (b := p3) (o' := 0) (i := 2) (j := 0) (v := nV .u64 (t + ((pw (jn ps)).getD i 0))) (LL' := [dB D15, lB l16 ob18, [cb p3 [nV .u64 (t + ((pw (jn ps)).getD i 0))] 77]]) rfl rfl ma0 ma0 Try.sizeOf77 rfl rfl rfl ma10 rfl rfl) (fun _ => ?_))
  refine Wl.nil ?_
  exact fun w_ h_ => Exists.intro (t + (pw (jn ps)).getD i 0) (And.intro (by rw [take_sum ma1, ← ht]) h_)
 ·intro D28 l29 ob30 s31 hp32
  obtain ⟨t, rfl⟩ : ∃ a_, a_ = s31 := ⟨_, rfl⟩
  have ht := hp32
  have hpl := pw_len (jn ps); have htl := take_sum_le _ (pw_lt (jn ps)) (pw (jn ps)).length; rw [← ht] at htl; rw [List.take_length] at ht; have hfd := fd_le t
  refine Mem.pickK (LL' := [[cb pb13 [sV g8 ((jn ps).length)] 25], g8.seg 5 (mc b8 (jn ps)), [cb p3 [nV .u64 t] 77], dB D28]) [3, 4, 2, 0] ma2 rfl (hK3 _ _ _ (W.seq (fun K33 hK33 => W.region (Wl.ys rfl rfl (Ys.l1 p3 0 2 0 Try.isAgg77) ?_))))
  refine Wl.yc (v := nV .u16 (fd t)) rfl rfl (Yc.call (fun _ => kr) (fun w_ hm_ => fold_c t _ ma1)) (Wl.ys (v := nV .u16 (65535 - (fd t))) rfl rfl ((Ys.pure (v := .int .u16 (bxor .u16 ((65535 : Nat) : Int) (fd t : Int))) (fun _ => kr)).conseq (int_congr (bnot_nat rfl ma20 65535 rfl))) (Wl.run 1 ma0 (Wl.nil (hK33 _ _ _ ?_))))
  refine W.ret ?_
  show ∀ w_, _ → bodyPostM (fence none) 0 Try.prog Try.f66 _ Exit.ret _ w_
  exact fun w_ h0_ => fin_mark (h0_.mark (i := 3) rfl).1 (by have hS_ : Mem w [] [[cb pb13 [sV g8 ((jn ps).length)] 25], g8.seg 5 (mc b8 (jn ps)), [cb p3 [nV .u64 t] 77], [⟨D28, .deferred none⟩]] _ := (h0_.mark (i := 3) rfl).2; exact ret1 rfl (RV.tmp (v := nV .u16 (65535 - (fd t))) ma0) hS_ ⟨by clear hK1 hK2 hK3 hK4 hK33; refine congrArg Ending.returned ?_; exact int_congr (by rw [ht]; rfl), hS_.below⟩)
 ·intro D_ l_ ob_ c_ s_ h_; exact h_.elim
theorem sumn_c (ps : List SV) (zs : List UInt8) (pa : Option Addr) (len pcap n : Nat) (w : World) (hl : len = ps.length) (hz : jn ps = zs) (hn' : zs.length = n) (hpa : At w pa (mc slv ps)) (hp : ∀ p ∈ ps, At w p.a (byc p.xs)) (htot : n ≤ 1000000000) (hn : ps.length ≤ 1000000000) (hpc : ps.length ≤ pcap) :
    Calls Try.prog 66 #[.slice pa len pcap] w (Ret w (.int .u16 (cks zs : Int))) := by
  subst hl; subst hz; subst hn'; exact sum_c ps pa pcap w hpa hp htot hn hpc
theorem right_c (ps : List SV) (pa : Option Addr) (pcap : Nat) (w : World) (hpa : At w pa (mc slv ps)) (hp : ∀ p ∈ ps, At w p.a (byc p.xs)) (htot : (jn ps).length ≤ 1000000000) (hn : ps.length ≤ 1000000000) (hpc : ps.length ≤ pcap) : Calls Try.prog 47 #[Value.slice pa ps.length pcap] w (Ret w (.bool (((cks (jn ps) : Nat) : Int) == 0))) := by
 refine calls_W (M := []) (LL := []) (n := 6) Try.func47 rfl rfl ma10 (Mem.refl _) (W.seq (fun K1 hK1 => ?_))
 refine W.region (Wl.run 1 ma0 (Wl.nil (hK1 _ _ _ (W.seq (fun K2 hK2 => ?_)))))
 refine W.region (Wl.run 1 ma0 (Wl.yc (v := nV .u16 (cks (jn ps))) rfl rfl (Yc.call (fun _ => kr) (fun w_ hm_ => (sumn_c ps (jn ps) pa ps.length pcap ((jn ps).length) _ rfl rfl rfl (hpa.mem0 hm_) (fun p h => (hp p h).mem0 hm_) ma1 ma1 ma1))) (Wl.run 2 ma0 (Wl.nil ?_))))
 refine hK2 _ _ _ (W.ret ?_)
 show ∀ w_, _ → bodyPostM (fence none) 0 Try.prog Try.f47 _ Exit.ret _ w_
 exact fun w_ hS_ => fin_ret (ret1 rfl (RV.tmp (v := bV (((cks (jn ps) : Nat) : Int) == 0)) ma0) hS_ ⟨rfl, hS_.below⟩)
theorem rightn_c (ps : List SV) (zs : List UInt8) (pa : Option Addr) (len pcap n : Nat) (w : World) (hl : len = ps.length) (hz : jn ps = zs) (hn' : zs.length = n) (hpa : At w pa (mc slv ps)) (hp : ∀ p ∈ ps, At w p.a (byc p.xs)) (htot : n ≤ 1000000000) (hn : ps.length ≤ 1000000000) (hpc : ps.length ≤ pcap) :
    Calls Try.prog 47 #[.slice pa len pcap] w (Ret w (.bool (((cks zs : Nat) : Int) == 0))) := by
  subst hl; subst hz; subst hn'; exact right_c ps pa pcap w hpa hp htot hn hpc
theorem radd_c (a b : Nat) (w : World) (ha : a < 65536) (hb : b < 65536) : Calls Try.prog 80 #[nV .u16 a, nV .u16 b] w (Ret w (.int .u16 (fd (a + b) : Int))) := by
 refine calls_W (M := []) (LL := []) (n := 17) Try.func80 rfl rfl ma10 (Mem.refl _) (W.seq (fun K1 hK1 => ?_))
 refine W.region (Wl.run 1 ma0 (Wl.nil (hK1 _ _ _ (W.seq (fun K2 hK2 => ?_)))))
 refine W.region (Wl.run 1 ma0 (Wl.ys (v := nV .i64 a) rfl rfl ((Ys.pure (v := .int .i64 (icnv .i64 (a : Int))) (fun _ => kr)).conseq (int_congr (wrap_i64 ma1 ma1))) (Wl.run 1 ma0 (Wl.ys (v := nV .i64 b) rfl rfl ((Ys.pure (v := .int .i64 (icnv .i64 (b : Int))) (fun _ => kr)).conseq (int_congr (wrap_i64 ma1 ma1))) ?_))))
 refine Wl.ys (v := nV .i64 (a + b)) rfl rfl ((Ys.pure (v := .int .i64 (iadd .i64 (a : Int) (b : Int))) (fun _ => kr)).conseq (int_congr (iadd_eq ma1 ma1 ma1))) (Wl.run 1 ma0 (Wl.nil (hK2 _ _ _ (W.seq (fun K3 hK3 => ?_)))))
 refine W.seq (fun K4 hK4 => W.region (Wl.run 2 ma0 (Wl.nil (hK4 _ _ _ ?_))))
 refine W.cond (decide (((a + b : Nat) : Int) > 65535)) ma0 (fun h5 => ?_) (fun h6 => ?_)
 ·have qh5 := h5; try simp only [zA] at qh5
  refine W.region (Wl.run 1 ma0 (Wl.ys (v := iV .i64 (((a + b : Nat) : Int) - 65535)) rfl rfl ((Ys.pure (v := .int .i64 (isub .i64 ((a + b : Nat) : Int) 65535)) (fun _ => kr)).conseq (int_congr (isub_eq rfl ma1 ma1))) (Wl.run 1 ma0 (Wl.nil ?_))))
  refine hK3 _ _ _ (W.prune' [5] [iV .i64 (((a + b : Nat) : Int) - 65535)] ma0 (fun f7 => ?_))
  refine W.seq (fun K8 hK8 => W.region (Wl.run 3 ma0 (Wl.nil (hK8 _ _ _ ?_))))
  refine W.ret ?_
  show ∀ w_, _ → bodyPostM (fence none) 0 Try.prog Try.f80 _ Exit.ret _ w_
  exact fun w_ hS_ => fin_ret (ret1 rfl (RV.tmp (v := iV .u16 (icnv .u16 (((a + b : Nat) : Int) - 65535))) ma0) hS_ ⟨by clear hK1 hK2 hK3 hK4 hK8; refine congrArg Ending.returned ?_; exact int_congr (by first | (rw [fd_small ma1]; omega) | (show IntKind.wrap .u16 _ = _; rw [wrap_u16 ma1 ma1]; unfold fd; rw [if_neg ma1]; omega)), hS_.below⟩)
 ·have qh6 := h6; try simp only [zA] at qh6
  refine W.skip' (hK3 _ _ _ (W.prune' [5] [nV .i64 (a + b)] ma0 (fun f9 => W.seq (fun K10 hK10 => W.region ?_))))
  refine Wl.run 1 ma0 (Wl.ys (v := nV .u16 ((a + b) % 65536)) rfl rfl ((Ys.pure (v := .int .u16 (icnv .u16 ((a + b : Nat) : Int))) (fun _ => kr)).conseq (int_congr (icnv_mod rfl _))) (Wl.run 1 ma0 (Wl.nil (hK10 _ _ _ ?_))))
  refine W.ret ?_
  show ∀ w_, _ → bodyPostM (fence none) 0 Try.prog Try.f80 _ Exit.ret _ w_
  exact fun w_ hS_ => fin_ret (ret1 rfl (RV.tmp (v := nV .u16 ((a + b) % 65536)) ma0) hS_ ⟨by clear hK1 hK2 hK3 hK4 hK10; refine congrArg Ending.returned ?_; exact int_congr (by first | (rw [fd_small ma1]; omega) | (show IntKind.wrap .u16 _ = _; rw [wrap_u16 ma1 ma1]; unfold fd; rw [if_neg ma1]; omega)), hS_.below⟩)
theorem fd_fd (a b : Nat) : fd (fd a + b) = fd (a + b) := by
  unfold fd; split <;> split <;> (try split) <;> omega
theorem rsum_c (xs : List UInt8) (a : Option Addr) (cap : Nat) (w : World) (hat : At w a (byc xs)) (hy : xs.length ≤ 1000000000) : Calls Try.prog 55 #[Value.slice a xs.length cap] w (Ret w (.int .u16 (cks xs : Int))) := by
 refine calls_W (M := []) (LL := []) (n := 22) Try.func55 rfl rfl ma10 (Mem.refl _) (W.seq (fun K1 hK1 => ?_))
 refine W.region (Wl.run 1 ma0 (Wl.nil (hK1 _ _ _ (W.seq (fun K2 hK2 => ?_)))))
 refine W.region (Wl.run 1 ma0 (Wl.htS rfl (HtS.call (β := FS) (k := 79) (args := #[Value.slice a xs.length cap]) (Lin := []) (Lk := []) (Mi := []) (Lo := fun g3 => [g3.seg 22 (mc n16 (pw xs))]) [] [] rfl (fun _ => kr) ma2 rfl rfl rfl (fun w_ hm_ hl_ => (rpairsn_c xs a xs.length cap _ (by first | rfl | (simp; done)) (hat.mem0 hm_) (by first | omega | (simp; done)))) (fun _ => rfl)) (fun g3 ok4 => Wl.run 2 ma0 (Wl.nil ?_))))
 refine hK2 _ _ _ (W.seq (fun K6 hK6 => ?_))
 refine W.seq (fun K7 hK7 => W.region (Wl.run 1 ma0 (Wl.nil (hK7 _ _ _ ?_))))
 refine W.block (W.loop1 [3, 4, 5] (fun (k : Nat) => [sV g3 ((pw xs).length), nV .u16 (fd ((pw xs).take k).sum), nV .i64 k]) (fun (k : Nat) => k ≤ (pw xs).length) (fun (k : Nat) => [g3.seg 22 (mc n16 (pw xs))]) (fun (k : Nat) => (pw xs).length - k) 0 ma0 ma26 (by rfl) (fun k f9 J8 hp10 hJ8 => ?_))
 have hk := hp10
 have hb := pw_lt xs k; have hfl := fd_le ((pw xs).take k).sum; have hpl := pw_len xs
 refine W.seq (fun K11 hK11 => W.seq (fun K12 hK12 => ?_))
 refine W.region (Wl.run 4 ma0 (Wl.nil (hK12 _ _ _ ?_)))
 refine W.cond (decide (((k : Nat) : Int) < ((pw xs).length : Int))) ma0 (fun h13 => ?_) (fun h14 => ?_)
 ·have qh13 := h13; try simp only [zA] at qh13
  refine W.skip' (hK11 _ _ _ (W.seq (fun K15 hK15 => W.block (W.region ?_))))
  refine Wl.run 3 ma0 (Wl.ys (v := Value.pointer (some (ela g3.a (k * 1)))) rfl rfl (Ys.indexAddr (k := .i64) (a := g3.a) (len := (pw xs).length) (cap := g3.cap) (i := (k : Int)) (sz := 1) rfl ma0 ma0 Try.runUnderlying123 Try.sizeOf22 ma1 ma1 (by rw [FS.a_own (FS.notnil ok4 ma1)]; rfl)) (Wl.ys (v := nV .u16 ((pw xs).getD k 0)) rfl rfl (Ys.ld (a := ela g3.a (k * 1)) rfl ma0 Try.isAgg22 (fun w_ h_ => (FS.at (i := 0) (t := 22) h_ rfl (FS.nil_cs ok4 (mc_len1 _))).ld (mc_get1 0 ma8))) (Wl.yc (v := nV .u16 (fd ((fd ((pw xs).take k).sum) + ((pw xs).getD k 0)))) rfl rfl (Yc.call (fun _ => kr) (fun w_ hm_ => (radd_c (fd ((pw xs).take k).sum) ((pw xs).getD k 0) _ ma1 ma1))) (Wl.run 1 ma0 ?_))))
  refine Wl.nil (hK15 _ _ _ (W.prune' [3, 4, 5] [sV g3 ((pw xs).length), nV .u16 (fd ((fd ((pw xs).take k).sum) + ((pw xs).getD k 0))), nV .i64 k] ma0 (fun f16 => W.region (Wl.run 1 ma0 ?_))))
  refine Wl.ys (v := nV .i64 (k + 1)) rfl rfl ((Ys.pure (v := .int .i64 (iadd .i64 (k : Int) 1)) (fun _ => kr)).conseq (int_congr (iadd_eq ma1 ma1 ma1))) (Wl.run 1 ma0 (Wl.nil ?_))
  refine fun w_ h_ => hJ8 (k + 1) _ w_ ma1 ma26 ?_ h_
  refine Eq.trans (b := ([sV g3 ((pw xs).length), nV .u16 (fd ((fd ((pw xs).take k).sum) + ((pw xs).getD k 0))), nV .i64 (k + 1)] : List Value)) ma0 (by rw [fd_fd, take_sum ma1])
 ·have qh14 := h14; try simp only [zA] at qh14
  refine W.exit (hK6 _ _ _ (W.seq (fun K17 hK17 => ?_)))
  have hfl := fd_le ((pw xs).take k).sum
  refine W.region (Wl.run 1 ma0 (Wl.ys (v := nV .u16 (65535 - (fd ((pw xs).take k).sum))) rfl rfl ((Ys.pure (v := .int .u16 (isub .u16 ((65535 : Nat) : Int) (fd ((pw xs).take k).sum : Int))) (fun _ => kr)).conseq (int_congr (isub_natu rfl ma1 ma20))) (Wl.run 1 ma0 (Wl.nil ?_))))
  refine hK17 _ _ _ (W.ret ?_)
  show ∀ w_, _ → bodyPostM (fence none) 0 Try.prog Try.f55 _ Exit.ret _ w_
  exact fun w_ hS_ => fin_ret (ret1 rfl (RV.tmp (v := nV .u16 (65535 - (fd ((pw xs).take k).sum))) ma0) hS_ ⟨by clear hK1 hK2 hK6 hK7 hJ8 hK11 hK12 hK17; refine congrArg Ending.returned ?_; exact int_congr (by rw [List.take_of_length_le ma1]; rfl), hS_.below⟩)
theorem rsumn_c (xs : List UInt8) (a : Option Addr) (len cap : Nat) (w : World) (hn : len = xs.length) (hat : At w a (byc xs)) (hy : len ≤ 1000000000) : Calls Try.prog 55 #[.slice a len cap] w (Ret w (.int .u16 (cks xs : Int))) := by
  subst hn; exact rsum_c xs a cap w hat hy
def upc (n old next : Nat) : Nat := 65535 - fd ((65535 - n) + (65535 - old) + next)
theorem upc_le (n a b : Nat) : upc n a b ≤ 65535 := by unfold upc; omega
end Go.Proofs.Ytejeafjkhomdoaa.Oct
