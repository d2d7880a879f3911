import Derived.Test.YtejeafjkhomdoaaKOct11
set_option linter.unusedVariables false
set_option linter.unusedSimpArgs false
set_option maxRecDepth 20000
namespace Go.Proofs.Ytejeafjkhomdoaa.Oct
open Go.RowKit Base
attribute [local irreducible] Ys Yc Ht HtIn Wl Wd W Mem pf dpf
def fd (n : Nat) : Nat := if n = 0 then 0 else (n - 1) % 65535 + 1
theorem fd_le (n : Nat) : fd n ≤ 65535 := by unfold fd; split <;> omega
theorem fd_small {n : Nat} (h : n ≤ 65535) : fd n = n := by unfold fd; split <;> omega
theorem fd_step {m : Nat} (h : 65535 < m) : fd (m / 65536 + m % 65536) = fd m := by
  unfold fd
  rw [if_neg (by omega), if_neg (by omega)]
  omega
def cks (xs : List UInt8) : Nat := 65535 - fd (pw xs).sum
theorem take_sum {ns : List Nat} {k : Nat} (h : k < ns.length) : (ns.take (k + 1)).sum = (ns.take k).sum + ns.getD k 0 := by
  rw [List.take_add_one, List.sum_append]; simp [h]
theorem take_sum_le (ns : List Nat) (h : ∀ k, ns.getD k 0 < 65536) (k : Nat) : (ns.take k).sum ≤ 65535 * k := by
  induction k with
  | zero => simp
  | succ k ih =>
    rcases Nat.lt_or_ge k ns.length with hk | hk
    · rw [take_sum hk]; have := h k; omega
    · rw [List.take_of_length_le (by omega)] at ih ⊢; omega
theorem fold_c (n : Nat) (w : World) (hn : n < 18446744073709551616) : Calls Try.prog 83 #[Value.int .u64 ((n : Nat) : Int)] w (Ret w (.int .u16 ((fd n : Nat) : Int))) := by
  refine calls_W (M := []) (LL := []) (n := 12) Try.func83 rfl rfl (by simp) (Mem.refl _) ?_
  refine W.seq (fun K1 hK1 => ?_)
  refine W.region ?_
  refine Wl.run 1 (by kernel_rfl) ?_
  refine Wl.nil ?_
  refine hK1 _ _ _ ?_
  refine W.seq (fun K2 hK2 => ?_)
  refine W.block ?_
  refine W.loop1 [0] (fun (m : Nat) => [nV .u64 m]) (fun (m : Nat) => fd m = fd n ∧ m < 18446744073709551616) (fun (m : Nat) => []) (fun (m : Nat) => m) n (by kernel_rfl) ⟨rfl, hn⟩ (by rfl) (fun m f4 J3 hp5 hJ3 => ?_)
  obtain ⟨hf, hlt⟩ := hp5
  refine W.seq (fun K6 hK6 => ?_)
  refine W.seq (fun K7 hK7 => ?_)
  refine W.region ?_
  refine Wl.run 2 (by kernel_rfl) ?_
  refine Wl.nil ?_
  refine hK7 _ _ _ ?_
  refine W.prune' [0, 4] [nV .u64 m, Value.bool (decide (((m : Nat) : Int) > 65535))] (by kernel_rfl) (fun f8 => ?_)
  refine W.cond (decide (((m : Nat) : Int) > 65535)) (by kernel_rfl) (fun h9 => ?_) (fun h10 => ?_)
  · have qh9 := h9; try simp only [Bool.and_eq_true, Bool.or_eq_true, Bool.not_eq_true', Bool.not_eq_false', Bool.and_eq_false_iff, Bool.or_eq_false_iff, decide_eq_true_eq, decide_eq_false_iff_not, beq_iff_eq, bne_iff_ne, beq_eq_false_iff_ne, bne_eq_false_iff_eq] at qh9
    refine W.skip' ?_
    refine hK6 _ _ _ ?_
    refine W.prune' [0] [nV .u64 m] (by kernel_rfl) (fun f11 => ?_)
    refine W.block ?_
    refine W.region ?_
    refine Wl.run 1 (by kernel_rfl) ?_
    refine Wl.ys (v := nV .u64 (m / 65536)) rfl rfl ((Ys.pure (v := .int .u64 (ishr .u64 ((m : Nat) : Int) ((16 : Nat) : Int))) (fun _ => by kernel_rfl)).conseq (int_congr (ishr_nat m 16 (by decide)))) ?_
    refine Wl.run 1 (by kernel_rfl) ?_
    refine Wl.ys (v := nV .u64 (m % 65536)) rfl rfl ((Ys.pure (v := .int .u64 (band .u64 ((m : Nat) : Int) ((65535 : Nat) : Int))) (fun _ => by kernel_rfl)).conseq (int_congr (band_mask rfl (a := m) (c := 16) (by show _ < 18446744073709551616; omega) (by decide) 65535 rfl))) ?_
    refine Wl.ys (v := nV .u64 ((m / 65536) + (m % 65536))) rfl rfl ((Ys.pure (v := .int .u64 (iadd .u64 ((m / 65536 : Nat) : Int) ((m % 65536 : Nat) : Int))) (fun _ => by kernel_rfl)).conseq (int_congr (iadd_natu rfl (by show _ < 18446744073709551616; omega)))) ?_
    refine Wl.run 1 (by kernel_rfl) ?_
    refine Wl.nil ?_
    refine fun w_ h_ => hJ3 (m / 65536 + m % 65536) _ w_ (by omega) ⟨((fd_step (by omega)).trans hf), (by omega)⟩ ?_ h_
    kernel_rfl
  · have qh10 := h10; try simp only [Bool.and_eq_true, Bool.or_eq_true, Bool.not_eq_true', Bool.not_eq_false', Bool.and_eq_false_iff, Bool.or_eq_false_iff, decide_eq_true_eq, decide_eq_false_iff_not, beq_iff_eq, bne_iff_ne, beq_eq_false_iff_ne, bne_eq_false_iff_eq] at qh10
    refine W.exit ?_
    refine hK2 _ _ _ ?_
    refine W.prune' [0] [nV .u64 m] (by kernel_rfl) (fun f12 => ?_)
    refine W.seq (fun K13 hK13 => ?_)
    refine W.region ?_
    refine Wl.run 1 (by kernel_rfl) ?_
    refine Wl.ys (v := nV .u16 (m % 65536)) rfl rfl ((Ys.pure (v := .int .u16 (icnv .u16 ((m : Nat) : Int))) (fun _ => by kernel_rfl)).conseq (int_congr (icnv_mod rfl _))) ?_
    refine Wl.run 1 (by kernel_rfl) ?_
    refine Wl.nil ?_
    refine hK13 _ _ _ ?_
    refine W.prune' [2] [nV .u16 (m % 65536)] (by kernel_rfl) (fun f14 => ?_)
    refine W.ret ?_
    show ∀ w_, _ → bodyPostM (fence none) 0 Try.prog Try.f83 _ Exit.ret _ w_
    exact fun w_ hS_ => fin_ret (ret1 rfl (RV.tmp (v := nV .u16 (m % 65536)) (by kernel_rfl)) hS_ ⟨by clear hK1 hK2 hJ3 hK6 hK7 hK13; refine congrArg Ending.returned ?_; exact int_congr (by rw [← hf, fd_small (by omega)]; omega), hS_.below⟩)
theorem sum_c (ps : List SV) (pa : Option Addr) (pcap : Nat) (w : World) (hpa : At w pa (mc slv ps)) (hp : ∀ p ∈ ps, At w p.a (byc p.xs)) (htot : (jn ps).length ≤ 1000000000) (hn : ps.length ≤ 1000000000) (hpc : ps.length ≤ pcap) : Calls Try.prog 66 #[Value.slice pa ps.length pcap] w (Ret w (.int .u16 ((cks (jn ps) : Nat) : Int))) := by
  refine calls_W (M := []) (LL := []) (n := 18) Try.func66 rfl rfl (by simp) (Mem.refl _) ?_
  refine W.seq (fun K1 hK1 => ?_)
  refine W.region ?_
  refine Wl.run 1 (by kernel_rfl) ?_
  refine Wl.nil ?_
  refine hK1 _ _ _ ?_
  refine W.seq (fun K2 hK2 => ?_)
  refine W.region ?_
  refine Wl.ht rfl (Ht.alloc (z := Value.int .u64 0) (cs := [Value.int .u64 0]) rfl rfl Try.zeroValue77 rfl) (fun p3 => ?_)
  refine Wl.ht rfl (Ht.store (b := p3) (o' := 0) (i := 0) (j := 0) (cs := [Value.int .u64 0]) (cs' := [Value.int .u64 0]) (v := Value.int .u64 0) (LL' := [[cb p3 [Value.int .u64 0] 77]]) rfl rfl (by kernel_rfl) (by kernel_rfl) Try.sizeOf77 rfl rfl rfl (by simp) rfl rfl) (fun _ => ?_)
  refine Wl.nil ?_
  refine hK2 _ _ _ ?_
  refine W.prune' [0, 2, 3] [Value.slice pa ps.length pcap, Value.int .u16 0, Value.pointer (some ⟨p3, 0, none⟩)] (by kernel_rfl) (fun f3 => ?_)
  refine W.seq (fun K4 hK4 => ?_)
  refine W.seq (fun K5 hK5 => ?_)
  refine W.region ?_
  refine Wl.run 1 (by kernel_rfl) ?_
  refine Wl.ht rfl (Ht.call (β := FS) (k := 63) (args := #[Value.slice pa ps.length pcap]) (Lin := []) (Lk := [[cb p3 [Value.int .u64 0] 77]]) (Mi := []) (Lo := fun g9 => [g9.seg 5 (mc b8 (jn ps)), [cb p3 [Value.int .u64 0] 77]]) [] [0] rfl (fun _ => by kernel_rfl) (by decide) rfl rfl rfl (fun w_ hm_ hl_ => (ojoinn_c ps (jn ps) pa ps.length pcap ((jn ps).length) _ rfl rfl rfl (hpa.mem0 hm_) (fun p h => (hp p h).mem0 hm_) (by omega) (by omega) (by omega))) (fun _ => rfl)) (fun x12 => ?_)
  obtain ⟨g9, ok10, nn11⟩ := x12
  refine Wl.castL (LL' := [g9.seg 5 (mc b8 (jn ps)), [cb p3 [Value.int .u64 0] 77]]) rfl ?_
  refine Wl.ht rfl (Ht.call (β := Nat) (k := 82) (args := #[Value.slice g9.a ((jn ps).length) g9.cap]) (Lin := []) (Lk := [g9.seg 5 (mc b8 (jn ps)), [cb p3 [Value.int .u64 0] 77]]) (Mi := []) (Lo := fun pb13 => [[cb pb13 [Value.slice g9.a ((jn ps).length) g9.cap] 25], g9.seg 5 (mc b8 (jn ps)), [cb p3 [Value.int .u64 0] 77]]) [] [0, 1] rfl (fun _ => by kernel_rfl) (by decide) rfl rfl rfl (fun w_ hm_ hl_ => (pairs_mk g9.a ((jn ps).length) g9.cap _)) (fun _ => rfl)) (fun x14 => ?_)
  obtain ⟨pb13, _⟩ := x14
  refine Wl.castL (LL' := [[cb pb13 [Value.slice g9.a ((jn ps).length) g9.cap] 25], g9.seg 5 (mc b8 (jn ps)), [cb p3 [Value.int .u64 0] 77]]) rfl ?_
  refine Wl.nil ?_
  refine hK5 _ _ _ ?_
  refine W.prune' [2, 3, 8] [Value.int .u16 0, Value.pointer (some ⟨p3, 0, none⟩), Value.func (.func 86) #[] #[Value.pointer (some ⟨pb13, 0, none⟩)]] (by kernel_rfl) (fun f15 => ?_)
  refine W.block ?_
  refine W.range (σ := Nat) (enc := fun i => [nV .i64 i, nV .u16 ((pw (jn ps)).getD i 0)]) (N := (pw (jn ps)).length) (Lu := fun (s : Nat) => [[cb p3 [nV .u64 s] 77]]) (Li := [[cb pb13 [Value.slice g9.a ((jn ps).length) g9.cap] 25]]) (Lk := [g9.seg 5 (mc b8 (jn ps))]) [2] [0] [1] 0 (fun i (s : Nat) => s = ((pw (jn ps)).take i).sum) (fun c_ (s : Nat) => False) [9, 10] (by kernel_rfl) (fun _ _ => rfl) (by decide) (by rfl) rfl rfl rfl (fun _ => rfl) (rfl) (fun D_ l_ ob_ w1_ hm_ => (pairs_it (jn ps) g9.a ((jn ps).length) g9.cap pb13 _ w1_ (by first | rfl | (simp; done)) (FS.at (i := 4) (t := 5) hm_ rfl (FS.nil_cs ok10 (mc_len1 _))) (fun h0 => FS.other hm_ [0, 1, 2, 3] 4 (by decide) rfl ok10 (mc_len1 _) rfl h0) (by omega))) ?_ ?_ ?_
  · intro D16 l17 ob18 ob19 i s21 u22 Mu23 J24 hi25 hp26 hcv27 hJ28
    obtain ⟨t, rfl⟩ : ∃ a_, a_ = s21 := ⟨_, rfl⟩
    have ht := hp26
    have hb := pw_lt (jn ps) i; have hpl := pw_len (jn ps); have htl := take_sum_le _ (pw_lt (jn ps)) i; rw [← ht] at htl
    refine W.region ?_
    refine Wl.run 1 (by kernel_rfl) ?_
    refine Wl.nil ?_
    refine fun w_ h_ => hJ28 _ [[cb p3 [nV .u64 t] 77]] ?_ w_ h_
    refine W.prune' [3, 5] [Value.pointer (some ⟨p3, 0, none⟩), nV .u16 ((pw (jn ps)).getD i 0)] (by kernel_rfl) (fun f29 => ?_)
    refine W.block ?_
    refine W.region ?_
    refine Wl.ys (v := nV .u64 t) rfl rfl (Ys.load (b := p3) (o' := 0) (i := 2) (j := 0) (cs := [nV .u64 t]) (v := nV .u64 t) rfl (by kernel_rfl) Try.isAgg77 rfl rfl rfl) ?_
    refine Wl.run 1 (by kernel_rfl) ?_
    refine Wl.ys (v := nV .u64 ((pw (jn ps)).getD i 0)) rfl rfl ((Ys.pure (v := .int .u64 (icnv .u64 (((pw (jn ps)).getD i 0 : Nat) : Int))) (fun _ => by kernel_rfl)).conseq (int_congr (wrap_u64 (by omega) (by omega)))) ?_
    refine Wl.ys (v := nV .u64 (t + ((pw (jn ps)).getD i 0))) rfl rfl ((Ys.pure (v := .int .u64 (iadd .u64 ((t : Nat) : Int) (((pw (jn ps)).getD i 0 : Nat) : Int))) (fun _ => by kernel_rfl)).conseq (int_congr (iadd_natu rfl (by show _ < 18446744073709551616; omega)))) ?_
    refine Wl.ht rfl (Ht.store (b := p3) (o' := 0) (i := 2) (j := 0) (cs := [nV .u64 t]) (cs' := [nV .u64 (t + ((pw (jn ps)).getD i 0))]) (v := nV .u64 (t + ((pw (jn ps)).getD i 0))) (LL' := [dB D16, lB l17 ob19, [cb p3 [nV .u64 (t + ((pw (jn ps)).getD i 0))] 77]]) rfl rfl (by kernel_rfl) (by kernel_rfl) Try.sizeOf77 rfl rfl rfl (by simp) rfl rfl) (fun _ => ?_)
    refine Wl.nil ?_
    exact fun w_ h_ => Exists.intro (t + (pw (jn ps)).getD i 0) (And.intro (by rw [take_sum (by omega), ← ht]) h_)
  · intro D30 l31 ob32 s33 hp34
    obtain ⟨t, rfl⟩ : ∃ a_, a_ = s33 := ⟨_, rfl⟩
    have ht := hp34
    have hpl := pw_len (jn ps); have htl := take_sum_le _ (pw_lt (jn ps)) (pw (jn ps)).length; rw [← ht] at htl; rw [List.take_length] at ht; have hfd := fd_le t
    refine Mem.pickK (LL' := [[cb pb13 [Value.slice g9.a ((jn ps).length) g9.cap] 25], g9.seg 5 (mc b8 (jn ps)), [cb p3 [nV .u64 t] 77], dB D30]) [3, 4, 2, 0] (by decide) rfl ?_
    refine hK4 _ _ _ ?_
    refine W.pick (LL' := [[cb p3 [nV .u64 t] 77], dB D30]) [2, 3] (by decide) rfl ?_
    refine W.prune' [3] [Value.pointer (some ⟨p3, 0, none⟩)] (by kernel_rfl) (fun f35 => ?_)
    refine W.seq (fun K36 hK36 => ?_)
    refine W.region ?_
    refine Wl.ys (v := nV .u64 t) rfl rfl (Ys.load (b := p3) (o' := 0) (i := 0) (j := 0) (cs := [nV .u64 t]) (v := nV .u64 t) rfl (by kernel_rfl) Try.isAgg77 rfl rfl rfl) ?_
    refine Wl.yc (v := nV .u16 (fd t)) rfl rfl (Yc.call (k := 83) (args := #[nV .u64 t]) (fun _ => by kernel_rfl) (fun w_ hm_ => fold_c t _ (by omega))) ?_
    refine Wl.ys (v := nV .u16 (65535 - (fd t))) rfl rfl ((Ys.pure (v := .int .u16 (bxor .u16 ((65535 : Nat) : Int) ((fd t : Nat) : Int))) (fun _ => by kernel_rfl)).conseq (int_congr (bnot_nat rfl (by show _ < 65536; omega) 65535 rfl))) ?_
    refine Wl.run 1 (by kernel_rfl) ?_
    refine Wl.nil ?_
    refine hK36 _ _ _ ?_
    refine W.pick (LL' := [dB D30]) [1] (by decide) rfl ?_
    refine W.prune' [2] [nV .u16 (65535 - (fd t))] (by kernel_rfl) (fun f37 => ?_)
    refine W.ret ?_
    show ∀ w_, _ → bodyPostM (fence none) 0 Try.prog Try.f66 _ Exit.ret _ w_
    exact fun w_ h0_ => fin_mark (h0_.mark (i := 0) rfl).1 (by have hS_ : Mem w [] [[⟨D30, .deferred none⟩]] _ := (h0_.mark (i := 0) rfl).2; exact ret1 rfl (RV.tmp (v := nV .u16 (65535 - (fd t))) (by kernel_rfl)) hS_ ⟨by clear hK1 hK2 hK4 hK5 hK36; refine congrArg Ending.returned ?_; exact int_congr (by rw [ht]; rfl), hS_.below⟩)
  · intro D_ l_ ob_ c_ s_ h_; exact h_.elim
theorem sumn_c (ps : List SV) (zs : List UInt8) (pa : Option Addr) (len pcap n : Nat) (w : World) (hl : len = ps.length) (hz : jn ps = zs) (hn' : zs.length = n) (hpa : At w pa (mc slv ps)) (hp : ∀ p ∈ ps, At w p.a (byc p.xs)) (htot : n ≤ 1000000000) (hn : ps.length ≤ 1000000000) (hpc : ps.length ≤ pcap) :
    Calls Try.prog 66 #[.slice pa len pcap] w (Ret w (.int .u16 ((cks zs : Nat) : Int))) := by
  subst hl; subst hz; subst hn'; exact sum_c ps pa pcap w hpa hp htot hn hpc
theorem right_c (ps : List SV) (pa : Option Addr) (pcap : Nat) (w : World) (hpa : At w pa (mc slv ps)) (hp : ∀ p ∈ ps, At w p.a (byc p.xs)) (htot : (jn ps).length ≤ 1000000000) (hn : ps.length ≤ 1000000000) (hpc : ps.length ≤ pcap) : Calls Try.prog 47 #[Value.slice pa ps.length pcap] w (Ret w (.bool (((cks (jn ps) : Nat) : Int) == 0))) := by
  refine calls_W (M := []) (LL := []) (n := 6) Try.func47 rfl rfl (by simp) (Mem.refl _) ?_
  refine W.seq (fun K1 hK1 => ?_)
  refine W.region ?_
  refine Wl.run 1 (by kernel_rfl) ?_
  refine Wl.nil ?_
  refine hK1 _ _ _ ?_
  refine W.seq (fun K2 hK2 => ?_)
  refine W.region ?_
  refine Wl.run 1 (by kernel_rfl) ?_
  refine Wl.yc (v := nV .u16 (cks (jn ps))) rfl rfl (Yc.call (k := 66) (args := #[Value.slice pa ps.length pcap]) (fun _ => by kernel_rfl) (fun w_ hm_ => (sumn_c ps (jn ps) pa ps.length pcap ((jn ps).length) _ rfl rfl rfl (hpa.mem0 hm_) (fun p h => (hp p h).mem0 hm_) (by omega) (by omega) (by omega)))) ?_
  refine Wl.run 2 (by kernel_rfl) ?_
  refine Wl.nil ?_
  refine hK2 _ _ _ ?_
  refine W.prune' [2] [Value.bool (((cks (jn ps) : Nat) : Int) == 0)] (by kernel_rfl) (fun f3 => ?_)
  refine W.ret ?_
  show ∀ w_, _ → bodyPostM (fence none) 0 Try.prog Try.f47 _ Exit.ret _ w_
  exact fun w_ hS_ => fin_ret (ret1 rfl (RV.tmp (v := Value.bool (((cks (jn ps) : Nat) : Int) == 0)) (by kernel_rfl)) hS_ ⟨rfl, hS_.below⟩)
theorem rightn_c (ps : List SV) (zs : List UInt8) (pa : Option Addr) (len pcap n : Nat) (w : World) (hl : len = ps.length) (hz : jn ps = zs) (hn' : zs.length = n) (hpa : At w pa (mc slv ps)) (hp : ∀ p ∈ ps, At w p.a (byc p.xs)) (htot : n ≤ 1000000000) (hn : ps.length ≤ 1000000000) (hpc : ps.length ≤ pcap) :
    Calls Try.prog 47 #[.slice pa len pcap] w (Ret w (.bool (((cks zs : Nat) : Int) == 0))) := by
  subst hl; subst hz; subst hn'; exact right_c ps pa pcap w hpa hp htot hn hpc
theorem radd_c (a b : Nat) (w : World) (ha : a < 65536) (hb : b < 65536) : Calls Try.prog 80 #[Value.int .u16 ((a : Nat) : Int), Value.int .u16 ((b : Nat) : Int)] w (Ret w (.int .u16 ((fd (a + b) : Nat) : Int))) := by
  refine calls_W (M := []) (LL := []) (n := 17) Try.func80 rfl rfl (by simp) (Mem.refl _) ?_
  refine W.seq (fun K1 hK1 => ?_)
  refine W.region ?_
  refine Wl.run 1 (by kernel_rfl) ?_
  refine Wl.nil ?_
  refine hK1 _ _ _ ?_
  refine W.seq (fun K2 hK2 => ?_)
  refine W.region ?_
  refine Wl.run 1 (by kernel_rfl) ?_
  refine Wl.ys (v := nV .i64 a) rfl rfl ((Ys.pure (v := .int .i64 (icnv .i64 ((a : Nat) : Int))) (fun _ => by kernel_rfl)).conseq (int_congr (wrap_i64 (by omega) (by omega)))) ?_
  refine Wl.run 1 (by kernel_rfl) ?_
  refine Wl.ys (v := nV .i64 b) rfl rfl ((Ys.pure (v := .int .i64 (icnv .i64 ((b : Nat) : Int))) (fun _ => by kernel_rfl)).conseq (int_congr (wrap_i64 (by omega) (by omega)))) ?_
  refine Wl.ys (v := nV .i64 (a + b)) rfl rfl ((Ys.pure (v := .int .i64 (iadd .i64 ((a : Nat) : Int) ((b : Nat) : Int))) (fun _ => by kernel_rfl)).conseq (int_congr (iadd_eq (by omega) (by omega) (by omega)))) ?_
  refine Wl.run 1 (by kernel_rfl) ?_
  refine Wl.nil ?_
  refine hK2 _ _ _ ?_
  refine W.prune' [5] [nV .i64 (a + b)] (by kernel_rfl) (fun f3 => ?_)
  refine W.seq (fun K4 hK4 => ?_)
  refine W.seq (fun K5 hK5 => ?_)
  refine W.region ?_
  refine Wl.run 2 (by kernel_rfl) ?_
  refine Wl.nil ?_
  refine hK5 _ _ _ ?_
  refine W.prune' [5, 12] [nV .i64 (a + b), Value.bool (decide (((a + b : Nat) : Int) > 65535))] (by kernel_rfl) (fun f6 => ?_)
  refine W.cond (decide (((a + b : Nat) : Int) > 65535)) (by kernel_rfl) (fun h7 => ?_) (fun h8 => ?_)
  · have qh7 := h7; try simp only [Bool.and_eq_true, Bool.or_eq_true, Bool.not_eq_true', Bool.not_eq_false', Bool.and_eq_false_iff, Bool.or_eq_false_iff, decide_eq_true_eq, decide_eq_false_iff_not, beq_iff_eq, bne_iff_ne, beq_eq_false_iff_ne, bne_eq_false_iff_eq] at qh7
    refine W.region ?_
    refine Wl.run 1 (by kernel_rfl) ?_
    refine Wl.ys (v := Value.int .i64 (((a + b : Nat) : Int) - 65535)) rfl rfl ((Ys.pure (v := .int .i64 (isub .i64 ((a + b : Nat) : Int) 65535)) (fun _ => by kernel_rfl)).conseq (int_congr (isub_eq rfl (by omega) (by omega)))) ?_
    refine Wl.run 1 (by kernel_rfl) ?_
    refine Wl.nil ?_
    refine hK4 _ _ _ ?_
    refine W.prune' [5] [Value.int .i64 (((a + b : Nat) : Int) - 65535)] (by kernel_rfl) (fun f9 => ?_)
    refine W.seq (fun K10 hK10 => ?_)
    refine W.region ?_
    refine Wl.run 3 (by kernel_rfl) ?_
    refine Wl.nil ?_
    refine hK10 _ _ _ ?_
    refine W.prune' [4] [Value.int .u16 (icnv .u16 (((a + b : Nat) : Int) - 65535))] (by kernel_rfl) (fun f11 => ?_)
    refine W.ret ?_
    show ∀ w_, _ → bodyPostM (fence none) 0 Try.prog Try.f80 _ Exit.ret _ w_
    exact fun w_ hS_ => fin_ret (ret1 rfl (RV.tmp (v := Value.int .u16 (icnv .u16 (((a + b : Nat) : Int) - 65535))) (by kernel_rfl)) hS_ ⟨by clear hK1 hK2 hK4 hK5 hK10; refine congrArg Ending.returned ?_; exact int_congr (by first | (rw [fd_small (by omega)]; omega) | (show IntKind.wrap .u16 _ = _; rw [wrap_u16 (by omega) (by omega)]; unfold fd; rw [if_neg (by omega)]; omega)), hS_.below⟩)
  · have qh8 := h8; try simp only [Bool.and_eq_true, Bool.or_eq_true, Bool.not_eq_true', Bool.not_eq_false', Bool.and_eq_false_iff, Bool.or_eq_false_iff, decide_eq_true_eq, decide_eq_false_iff_not, beq_iff_eq, bne_iff_ne, beq_eq_false_iff_ne, bne_eq_false_iff_eq] at qh8
    refine W.skip' ?_
    refine hK4 _ _ _ ?_
    refine W.prune' [5] [nV .i64 (a + b)] (by kernel_rfl) (fun f12 => ?_)
    refine W.seq (fun K13 hK13 => ?_)
    refine W.region ?_
    refine Wl.run 1 (by kernel_rfl) ?_
    refine Wl.ys (v := nV .u16 ((a + b) % 65536)) rfl rfl ((Ys.pure (v := .int .u16 (icnv .u16 ((a + b : Nat) : Int))) (fun _ => by kernel_rfl)).conseq (int_congr (icnv_mod rfl _))) ?_
    refine Wl.run 1 (by kernel_rfl) ?_
    refine Wl.nil ?_
    refine hK13 _ _ _ ?_
    refine W.prune' [4] [nV .u16 ((a + b) % 65536)] (by kernel_rfl) (fun f14 => ?_)
    refine W.ret ?_
    show ∀ w_, _ → bodyPostM (fence none) 0 Try.prog Try.f80 _ Exit.ret _ w_
    exact fun w_ hS_ => fin_ret (ret1 rfl (RV.tmp (v := nV .u16 ((a + b) % 65536)) (by kernel_rfl)) hS_ ⟨by clear hK1 hK2 hK4 hK5 hK13; refine congrArg Ending.returned ?_; exact int_congr (by first | (rw [fd_small (by omega)]; omega) | (show IntKind.wrap .u16 _ = _; rw [wrap_u16 (by omega) (by omega)]; unfold fd; rw [if_neg (by omega)]; omega)), hS_.below⟩)
theorem fd_fd (a b : Nat) : fd (fd a + b) = fd (a + b) := by
  unfold fd; split <;> split <;> (try split) <;> omega
theorem rsum_c (xs : List UInt8) (a : Option Addr) (cap : Nat) (w : World) (hat : At w a (byc xs)) (hy : xs.length ≤ 1000000000) : Calls Try.prog 55 #[Value.slice a xs.length cap] w (Ret w (.int .u16 ((cks xs : Nat) : Int))) := by
  refine calls_W (M := []) (LL := []) (n := 22) Try.func55 rfl rfl (by simp) (Mem.refl _) ?_
  refine W.seq (fun K1 hK1 => ?_)
  refine W.region ?_
  refine Wl.run 1 (by kernel_rfl) ?_
  refine Wl.nil ?_
  refine hK1 _ _ _ ?_
  refine W.seq (fun K2 hK2 => ?_)
  refine W.region ?_
  refine Wl.run 1 (by kernel_rfl) ?_
  refine Wl.ht rfl (Ht.call (β := FS) (k := 79) (args := #[Value.slice a xs.length cap]) (Lin := []) (Lk := []) (Mi := []) (Lo := fun g3 => [g3.seg 22 (mc n16 (pw xs))]) [] [] rfl (fun _ => by kernel_rfl) (by decide) rfl rfl rfl (fun w_ hm_ hl_ => (rpairsn_c xs a xs.length cap _ (by first | rfl | (simp; done)) (hat.mem0 hm_) (by first | omega | (simp; done)))) (fun _ => rfl)) (fun x5 => ?_)
  obtain ⟨g3, ok4⟩ := x5
  refine Wl.castL (LL' := [g3.seg 22 (mc n16 (pw xs))]) rfl ?_
  refine Wl.run 2 (by kernel_rfl) ?_
  refine Wl.nil ?_
  refine hK2 _ _ _ ?_
  refine W.prune' [3, 4] [Value.slice g3.a ((pw xs).length) g3.cap, Value.int .u16 0] (by kernel_rfl) (fun f6 => ?_)
  refine W.seq (fun K7 hK7 => ?_)
  refine W.seq (fun K8 hK8 => ?_)
  refine W.region ?_
  refine Wl.run 1 (by kernel_rfl) ?_
  refine Wl.nil ?_
  refine hK8 _ _ _ ?_
  refine W.block ?_
  refine W.loop1 [3, 4, 5] (fun (k : Nat) => [Value.slice g3.a ((pw xs).length) g3.cap, nV .u16 (fd ((pw xs).take k).sum), nV .i64 k]) (fun (k : Nat) => k ≤ (pw xs).length) (fun (k : Nat) => [g3.seg 22 (mc n16 (pw xs))]) (fun (k : Nat) => (pw xs).length - k) 0 (by kernel_rfl) (by first | omega | trivial | simp) (by rfl) (fun k f10 J9 hp11 hJ9 => ?_)
  have hk := hp11
  have hb := pw_lt xs k; have hfl := fd_le ((pw xs).take k).sum; have hpl := pw_len xs
  refine W.seq (fun K12 hK12 => ?_)
  refine W.seq (fun K13 hK13 => ?_)
  refine W.region ?_
  refine Wl.run 4 (by kernel_rfl) ?_
  refine Wl.nil ?_
  refine hK13 _ _ _ ?_
  refine W.prune' [3, 4, 5, 11] [Value.slice g3.a ((pw xs).length) g3.cap, nV .u16 (fd ((pw xs).take k).sum), nV .i64 k, Value.bool (decide (((k : Nat) : Int) < (((pw xs).length : Nat) : Int)))] (by kernel_rfl) (fun f14 => ?_)
  refine W.cond (decide (((k : Nat) : Int) < (((pw xs).length : Nat) : Int))) (by kernel_rfl) (fun h15 => ?_) (fun h16 => ?_)
  · have qh15 := h15; try simp only [Bool.and_eq_true, Bool.or_eq_true, Bool.not_eq_true', Bool.not_eq_false', Bool.and_eq_false_iff, Bool.or_eq_false_iff, decide_eq_true_eq, decide_eq_false_iff_not, beq_iff_eq, bne_iff_ne, beq_eq_false_iff_ne, bne_eq_false_iff_eq] at qh15
    refine W.skip' ?_
    refine hK12 _ _ _ ?_
    refine W.prune' [3, 4, 5] [Value.slice g3.a ((pw xs).length) g3.cap, nV .u16 (fd ((pw xs).take k).sum), nV .i64 k] (by kernel_rfl) (fun f17 => ?_)
    refine W.seq (fun K18 hK18 => ?_)
    refine W.block ?_
    refine W.region ?_
    refine Wl.run 3 (by kernel_rfl) ?_
    refine Wl.ys (v := Value.pointer (some (ela g3.a (k * 1)))) rfl rfl (Ys.indexAddr (k := .i64) (a := g3.a) (len := (pw xs).length) (cap := g3.cap) (i := ((k : Nat) : Int)) (sz := 1) rfl (by kernel_rfl) (by kernel_rfl) Try.runUnderlying123 Try.sizeOf22 (by omega) (by omega) (by rw [FS.a_own (FS.notnil ok4 (by omega))]; rfl)) ?_
    refine Wl.ys (v := nV .u16 ((pw xs).getD k 0)) rfl rfl (Ys.ld (a := ela g3.a (k * 1)) rfl (by kernel_rfl) Try.isAgg22 (fun w_ h_ => (FS.at (i := 0) (t := 22) h_ rfl (FS.nil_cs ok4 (mc_len1 _))).ld (mc_get1 0 (by first | omega | (simp; omega))))) ?_
    refine Wl.yc (v := nV .u16 (fd ((fd ((pw xs).take k).sum) + ((pw xs).getD k 0)))) rfl rfl (Yc.call (k := 80) (args := #[nV .u16 (fd ((pw xs).take k).sum), nV .u16 ((pw xs).getD k 0)]) (fun _ => by kernel_rfl) (fun w_ hm_ => (radd_c (fd ((pw xs).take k).sum) ((pw xs).getD k 0) _ (by omega) (by omega)))) ?_
    refine Wl.run 1 (by kernel_rfl) ?_
    refine Wl.nil ?_
    refine hK18 _ _ _ ?_
    refine W.prune' [3, 4, 5] [Value.slice g3.a ((pw xs).length) g3.cap, nV .u16 (fd ((fd ((pw xs).take k).sum) + ((pw xs).getD k 0))), nV .i64 k] (by kernel_rfl) (fun f19 => ?_)
    refine W.region ?_
    refine Wl.run 1 (by kernel_rfl) ?_
    refine Wl.ys (v := nV .i64 (k + 1)) rfl rfl ((Ys.pure (v := .int .i64 (iadd .i64 ((k : Nat) : Int) 1)) (fun _ => by kernel_rfl)).conseq (int_congr (iadd_eq (by omega) (by omega) (by omega)))) ?_
    refine Wl.run 1 (by kernel_rfl) ?_
    refine Wl.nil ?_
    refine fun w_ h_ => hJ9 (k + 1) _ w_ (by omega) (by first | omega | trivial | simp) ?_ h_
    refine Eq.trans (b := ([Value.slice g3.a ((pw xs).length) g3.cap, nV .u16 (fd ((fd ((pw xs).take k).sum) + ((pw xs).getD k 0))), nV .i64 (k + 1)] : List Value)) (by kernel_rfl) (by rw [fd_fd, take_sum (by omega)])
  · have qh16 := h16; try simp only [Bool.and_eq_true, Bool.or_eq_true, Bool.not_eq_true', Bool.not_eq_false', Bool.and_eq_false_iff, Bool.or_eq_false_iff, decide_eq_true_eq, decide_eq_false_iff_not, beq_iff_eq, bne_iff_ne, beq_eq_false_iff_ne, bne_eq_false_iff_eq] at qh16
    refine W.exit ?_
    refine hK7 _ _ _ ?_
    refine W.pick (LL' := []) [] (by decide) rfl ?_
    refine W.prune' [4] [nV .u16 (fd ((pw xs).take k).sum)] (by kernel_rfl) (fun f20 => ?_)
    refine W.seq (fun K21 hK21 => ?_)
    have hfl := fd_le ((pw xs).take k).sum
    refine W.region ?_
    refine Wl.run 1 (by kernel_rfl) ?_
    refine Wl.ys (v := nV .u16 (65535 - (fd ((pw xs).take k).sum))) rfl rfl ((Ys.pure (v := .int .u16 (isub .u16 ((65535 : Nat) : Int) ((fd ((pw xs).take k).sum : Nat) : Int))) (fun _ => by kernel_rfl)).conseq (int_congr (isub_natu rfl (by omega) (by show _ < 65536; omega)))) ?_
    refine Wl.run 1 (by kernel_rfl) ?_
    refine Wl.nil ?_
    refine hK21 _ _ _ ?_
    refine W.prune' [2] [nV .u16 (65535 - (fd ((pw xs).take k).sum))] (by kernel_rfl) (fun f22 => ?_)
    refine W.ret ?_
    show ∀ w_, _ → bodyPostM (fence none) 0 Try.prog Try.f55 _ Exit.ret _ w_
    exact fun w_ hS_ => fin_ret (ret1 rfl (RV.tmp (v := nV .u16 (65535 - (fd ((pw xs).take k).sum))) (by kernel_rfl)) hS_ ⟨by clear hK1 hK2 hK7 hK8 hJ9 hK12 hK13 hK21; refine congrArg Ending.returned ?_; exact int_congr (by rw [List.take_of_length_le (by omega)]; rfl), hS_.below⟩)
theorem rsumn_c (xs : List UInt8) (a : Option Addr) (len cap : Nat) (w : World) (hn : len = xs.length) (hat : At w a (byc xs)) (hy : len ≤ 1000000000) : Calls Try.prog 55 #[.slice a len cap] w (Ret w (.int .u16 ((cks xs : Nat) : Int))) := by
  subst hn; exact rsum_c xs a cap w hat hy
end Go.Proofs.Ytejeafjkhomdoaa.Oct
