/-
  SumSums. No condition.
-/
import Derived.Test.YtegeijaicjackaaOct13
set_option linter.unusedVariables false
set_option linter.unusedSimpArgs false
set_option maxRecDepth 20000
namespace Go.Proofs.Ytegeijaicjackaa.Oct
open Go.RowKit Base
attribute [local irreducible] Ys Yc Ht HtIn Wl Wd W Mem pf dpf

theorem sumsums_c (ps : List SV) (pa : Option Addr) (pcap : Nat) (w : World) (hpa : At w pa (mc slv ps)) (hp : ∀ p ∈ ps, At w p.a (byc p.xs)) (hpl : ∀ p ∈ ps, p.xs.length ≤ 9223372036854775807) (hpc : ps.length ≤ pcap) (hn : ps.length ≤ 9223372036854775807) : Calls Try.prog 8 #[Value.slice pa ps.length pcap] w (Ret w (.bool true)) := by
  refine calls_W (M := []) (LL := []) (n := 39) Try.func8 rfl rfl (by simp) (Mem.refl _) ?_
  refine W.seq (fun K1 hK1 => ?_)
  refine W.region ?_
  refine Wl.run 1 (by kernel_rfl) ?_
  refine Wl.nil ?_
  refine hK1 _ _ _ ?_
  refine W.seq (fun K2 hK2 => ?_)
  refine W.seq (fun K3 hK3 => ?_)
  refine W.region ?_
  refine Wl.yc (v := Value.bool true) rfl rfl (Yc.call (k := 25) (args := #[]) (fun _ => by kernel_rfl) (fun w_ hm_ => speaks2_c _)) ?_
  refine Wl.run 1 (by kernel_rfl) ?_
  refine Wl.nil ?_
  refine hK3 _ _ _ ?_
  refine W.prune' [0, 8] [Value.slice pa ps.length pcap, Value.bool false] (by kernel_rfl) (fun f4 => ?_)
  refine W.condF (by kernel_rfl) ?_
  refine W.skip' ?_
  refine hK2 _ _ _ ?_
  refine W.prune' [0] [Value.slice pa ps.length pcap] (by kernel_rfl) (fun f5 => ?_)
  refine W.seq (fun K6 hK6 => ?_)
  refine W.seq (fun K7 hK7 => ?_)
  refine W.region ?_
  refine Wl.run 3 (by kernel_rfl) ?_
  refine Wl.nil ?_
  refine hK7 _ _ _ ?_
  refine W.prune' [0, 11] [Value.slice pa ps.length pcap, Value.bool (decide (((ps.length : Nat) : Int) > 50))] (by kernel_rfl) (fun f8 => ?_)
  refine W.cond (decide (((ps.length : Nat) : Int) > 50)) (by kernel_rfl) (fun h9 => ?_) (fun h10 => ?_)
  · have qh9 := h9; try simp only [Bool.and_eq_true, Bool.or_eq_true, Bool.not_eq_true', Bool.not_eq_false', Bool.and_eq_false_iff, Bool.or_eq_false_iff, decide_eq_true_eq, decide_eq_false_iff_not, beq_iff_eq, bne_iff_ne, beq_eq_false_iff_ne, bne_eq_false_iff_eq] at qh9
    refine W.seq (fun K11 hK11 => ?_)
    refine W.region ?_
    refine Wl.run 1 (by kernel_rfl) ?_
    refine Wl.nil ?_
    refine hK11 _ _ _ ?_
    refine W.ret ?_
    show ∀ w_, _ → bodyPostM (fence none) 0 Try.prog Try.f8 _ Exit.ret _ w_
    exact fun w_ hS_ => fin_ret (ret1 rfl (RV.tmp (v := Value.bool true) (by kernel_rfl)) hS_ ⟨rfl, hS_.below⟩)
  · have qh10 := h10; try simp only [Bool.and_eq_true, Bool.or_eq_true, Bool.not_eq_true', Bool.not_eq_false', Bool.and_eq_false_iff, Bool.or_eq_false_iff, decide_eq_true_eq, decide_eq_false_iff_not, beq_iff_eq, bne_iff_ne, beq_eq_false_iff_ne, bne_eq_false_iff_eq] at qh10
    refine W.skip' ?_
    refine hK6 _ _ _ ?_
    refine W.prune' [0] [Value.slice pa ps.length pcap] (by kernel_rfl) (fun f12 => ?_)
    refine W.seq (fun K13 hK13 => ?_)
    refine W.region ?_
    refine Wl.ht rfl (Ht.made (mk := fun b_ => .slice (some ⟨b_, 0, none⟩) 0 0) (t := 5) (cs := []) rfl (fun _ => by kernel_rfl)) (fun p12 => ?_)
    refine Wl.run 1 (by kernel_rfl) ?_
    refine Wl.nil ?_
    refine hK13 _ _ _ ?_
    refine W.prune' [0, 3] [Value.slice pa ps.length pcap, Value.slice (some ⟨p12, 0, none⟩) 0 0] (by kernel_rfl) (fun f14 => ?_)
    refine W.seq (fun K15 hK15 => ?_)
    refine W.seq (fun K16 hK16 => ?_)
    refine W.region ?_
    refine Wl.run 3 (by kernel_rfl) ?_
    refine Wl.nil ?_
    refine hK16 _ _ _ ?_
    refine W.prune' [0, 3, 13, 14, 15] [Value.slice pa ps.length pcap, Value.slice (some ⟨p12, 0, none⟩) 0 0, Value.slice pa ps.length pcap, Value.int .i64 ((ps.length : Nat) : Int), Value.int .i64 0] (by kernel_rfl) (fun f17 => ?_)
    refine W.block ?_
    refine W.loop2 [0, 3, 13, 14, 15] (fun (k : Nat) (g : FS) => [Value.slice pa ps.length pcap, Value.slice g.a ((jn (ps.take k)).length) g.cap, Value.slice pa ps.length pcap, Value.int .i64 ((ps.length : Nat) : Int), Value.int .i64 ((k : Nat) : Int)]) (fun (k : Nat) (g : FS) => k ≤ ps.length ∧ (jn (ps.take k)).length ≤ 3000 * k ∧ g.ok 1 (jn (ps.take k)).length) (fun (k : Nat) (g : FS) => [g.seg 5 (mc b8 (jn (ps.take k)))]) (fun (k : Nat) (g : FS) => ps.length - k) 0 ⟨false, p12, 0, []⟩ (Eq.trans (b := ([Value.slice pa ps.length pcap, Value.slice (some ⟨p12, 0, none⟩) 0 0, Value.slice pa ps.length pcap, Value.int .i64 ((ps.length : Nat) : Int), Value.int .i64 0] : List Value)) (by kernel_rfl) (by simp [jn, FS.a])) ⟨(Nat.zero_le _), (by simp [jn]), (FS.lit_ok (by decide))⟩ (by rfl) (fun k g f19 J18 hp20 hJ18 => ?_)
    obtain ⟨hk, hkl, ok⟩ := hp20
    refine W.seq (fun K21 hK21 => ?_)
    refine W.region ?_
    refine Wl.run 1 (by kernel_rfl) ?_
    refine Wl.nil ?_
    refine hK21 _ _ _ ?_
    refine W.seq (fun K22 hK22 => ?_)
    refine W.cond (decide (((k : Nat) : Int) < ((ps.length : Nat) : Int))) (by kernel_rfl) (fun h23 => ?_) (fun h24 => ?_)
    · have qh23 := h23; try simp only [Bool.and_eq_true, Bool.or_eq_true, Bool.not_eq_true', Bool.not_eq_false', Bool.and_eq_false_iff, Bool.or_eq_false_iff, decide_eq_true_eq, decide_eq_false_iff_not, beq_iff_eq, bne_iff_ne, beq_eq_false_iff_ne, bne_eq_false_iff_eq] at qh23
      refine W.skip' ?_
      refine hK22 _ _ _ ?_
      refine W.prune' [0, 3, 13, 14, 15] [Value.slice pa ps.length pcap, Value.slice g.a ((jn (ps.take k)).length) g.cap, Value.slice pa ps.length pcap, Value.int .i64 ((ps.length : Nat) : Int), Value.int .i64 ((k : Nat) : Int)] (by kernel_rfl) (fun f25 => ?_)
      refine W.seq (fun K26 hK26 => ?_)
      refine W.block ?_
      refine W.seq (fun K27 hK27 => ?_)
      refine W.region ?_
      refine Wl.ys (v := Value.pointer (some (ela pa (k * 1)))) rfl rfl (Ys.byMem fun w_ h_ => Ys.indexAddr (k := .i64) (a := pa) (len := ps.length) (cap := pcap) (i := ((k : Nat) : Int)) (sz := 1) rfl (by kernel_rfl) (by kernel_rfl) Try.runUnderlying40 Try.sizeOf22 (by omega) (by omega) ((hpa.mem0 h_).here (by rw [mc_len]; first | omega | (simp; omega)))) ?_
      refine Wl.ys (v := Value.slice ((ps.getD k default).a) ((ps.getD k default).xs.length) ((ps.getD k default).cap)) rfl rfl (Ys.ld (a := ela pa (k * 1)) rfl (by kernel_rfl) Try.isAgg22 (fun w_ h_ => (hpa.mem0 h_).ld (mc_get1 default (by first | omega | (simp; omega))))) ?_
      have hb28 := hpl _ (getD_in (ps := ps) (k := k) (by omega))
      refine Wl.run 1 (by kernel_rfl) ?_
      refine Wl.nil ?_
      refine hK27 _ _ _ ?_
      refine W.prune' [0, 3, 5, 13, 14, 15] [Value.slice pa ps.length pcap, Value.slice g.a ((jn (ps.take k)).length) g.cap, Value.slice ((ps.getD k default).a) ((ps.getD k default).xs.length) ((ps.getD k default).cap), Value.slice pa ps.length pcap, Value.int .i64 ((ps.length : Nat) : Int), Value.int .i64 ((k : Nat) : Int)] (by kernel_rfl) (fun f29 => ?_)
      refine W.seq (fun K30 hK30 => ?_)
      refine W.seq (fun K31 hK31 => ?_)
      refine W.region ?_
      refine Wl.run 3 (by kernel_rfl) ?_
      refine Wl.nil ?_
      refine hK31 _ _ _ ?_
      refine W.prune' [0, 3, 5, 13, 14, 15, 21] [Value.slice pa ps.length pcap, Value.slice g.a ((jn (ps.take k)).length) g.cap, Value.slice ((ps.getD k default).a) ((ps.getD k default).xs.length) ((ps.getD k default).cap), Value.slice pa ps.length pcap, Value.int .i64 ((ps.length : Nat) : Int), Value.int .i64 ((k : Nat) : Int), Value.bool (decide ((((ps.getD k default).xs.length : Nat) : Int) > 3000))] (by kernel_rfl) (fun f32 => ?_)
      refine W.cond (decide ((((ps.getD k default).xs.length : Nat) : Int) > 3000)) (by kernel_rfl) (fun h33 => ?_) (fun h34 => ?_)
      · have qh33 := h33; try simp only [Bool.and_eq_true, Bool.or_eq_true, Bool.not_eq_true', Bool.not_eq_false', Bool.and_eq_false_iff, Bool.or_eq_false_iff, decide_eq_true_eq, decide_eq_false_iff_not, beq_iff_eq, bne_iff_ne, beq_eq_false_iff_ne, bne_eq_false_iff_eq] at qh33
        refine W.seq (fun K35 hK35 => ?_)
        refine W.region ?_
        refine Wl.run 1 (by kernel_rfl) ?_
        refine Wl.nil ?_
        refine hK35 _ _ _ ?_
        refine W.ret ?_
        show ∀ w_, _ → bodyPostM (fence none) 0 Try.prog Try.f8 _ Exit.ret _ w_
        exact fun w_ hS_ => fin_ret (ret1 rfl (RV.tmp (v := Value.bool true) (by kernel_rfl)) hS_ ⟨rfl, hS_.below⟩)
      · have qh34 := h34; try simp only [Bool.and_eq_true, Bool.or_eq_true, Bool.not_eq_true', Bool.not_eq_false', Bool.and_eq_false_iff, Bool.or_eq_false_iff, decide_eq_true_eq, decide_eq_false_iff_not, beq_iff_eq, bne_iff_ne, beq_eq_false_iff_ne, bne_eq_false_iff_eq] at qh34
        refine W.skip' ?_
        refine hK30 _ _ _ ?_
        refine W.prune' [0, 3, 5, 13, 14, 15] [Value.slice pa ps.length pcap, Value.slice g.a ((jn (ps.take k)).length) g.cap, Value.slice ((ps.getD k default).a) ((ps.getD k default).xs.length) ((ps.getD k default).cap), Value.slice pa ps.length pcap, Value.int .i64 ((ps.length : Nat) : Int), Value.int .i64 ((k : Nat) : Int)] (by kernel_rfl) (fun f36 => ?_)
        refine W.region ?_
        refine Wl.run 2 (by kernel_rfl) ?_
        refine Wl.ht rfl (Ht.append (eu := 5) (xv := Value.slice ((ps.getD k default).a) ((ps.getD k default).xs.length) ((ps.getD k default).cap)) (i := 0) (g := g) (e := 5) (ii := (Try.prog.info? 5).getD default) (z := Value.int .u8 0) (sz := 1) (bytes := 1) (nn := (jn (ps.take k)).length) (m := (ps.getD k default).xs.length) (k := ((jn (ps.take k)).length) + ((ps.getD k default).xs.length)) (xs := mc b8 (jn (ps.take k))) (news := mc b8 ((ps.getD k default).xs)) (cs' := mc b8 ((jn (ps.take k)) ++ ((ps.getD k default).xs))) (Lo := fun g37 => [g37.seg 5 (mc b8 ((jn (ps.take k)) ++ ((ps.getD k default).xs)))]) rfl rfl (by kernel_rfl) (by kernel_rfl) (by kernel_rfl) (by kernel_rfl) (by kernel_rfl) (by kernel_rfl) (by kernel_rfl) (by kernel_rfl) (by kernel_rfl) rfl ok (mc_len1 _) (fun _ => rfl) (Src.at (a := (ps.getD k default).a) (by first | rfl | (simp [mc, be_len]; done) | (simp [mc, be_len]; omega)) (fun w_ h_ => ((hp _ (getD_in (by omega))).mem0 h_))) (by first | rfl | (simp [mc, be_len]; done) | (simp [mc, be_len]; omega)) (mc_one (fun _ => rfl) _) (by first | omega | (simp; done) | (simp; omega)) (by simp only [maxLen]; first | omega | (simp; omega)) (by first | omega | (simp; omega)) (mc_app _ _) (fun _ => rfl)) (fun x41 => ?_)
        obtain ⟨g37, ok38, hn39, hn40⟩ := x41
        refine Wl.castL (LL' := [g37.seg 5 (mc b8 ((jn (ps.take k)) ++ ((ps.getD k default).xs)))]) rfl ?_
        refine Wl.run 1 (by kernel_rfl) ?_
        refine Wl.nil ?_
        refine hK26 _ _ _ ?_
        refine W.prune' [0, 3, 13, 14, 15] [Value.slice pa ps.length pcap, Value.slice g37.a (((jn (ps.take k)).length) + ((ps.getD k default).xs.length)) g37.cap, Value.slice pa ps.length pcap, Value.int .i64 ((ps.length : Nat) : Int), Value.int .i64 ((k : Nat) : Int)] (by kernel_rfl) (fun f42 => ?_)
        refine W.region ?_
        refine Wl.ys (v := Value.int .i64 ((k + 1 : Nat) : Int)) rfl rfl ((Ys.pure (v := .int .i64 (iadd .i64 ((k : Nat) : Int) 1)) (fun _ => by kernel_rfl)).conseq (int_congr (iadd_eq (by omega) (by omega) (by omega)))) ?_
        refine Wl.run 1 (by kernel_rfl) ?_
        refine Wl.nil ?_
        have hjs := congrArg List.length (jn_step (ps := ps) (k := k) (by omega)); rw [List.length_append] at hjs
        refine fun w_ h_ => hJ18 (k + 1) g37 _ w_ (by omega) ⟨(by omega), (by omega), (by rw [jn_step (by omega), List.length_append]; exact ok38)⟩ ?_ (Mem.cast (LL := [g37.seg 5 (mc b8 ((jn (ps.take k)) ++ ((ps.getD k default).xs)))]) (by rw [jn_step (by omega)]) h_)
        refine Eq.trans (b := ([Value.slice pa ps.length pcap, Value.slice g37.a (((jn (ps.take k)).length) + ((ps.getD k default).xs.length)) g37.cap, Value.slice pa ps.length pcap, Value.int .i64 ((ps.length : Nat) : Int), Value.int .i64 ((k + 1 : Nat) : Int)] : List Value)) (by kernel_rfl) (by rw [jn_step (by omega), List.length_append])
    · have qh24 := h24; try simp only [Bool.and_eq_true, Bool.or_eq_true, Bool.not_eq_true', Bool.not_eq_false', Bool.and_eq_false_iff, Bool.or_eq_false_iff, decide_eq_true_eq, decide_eq_false_iff_not, beq_iff_eq, bne_iff_ne, beq_eq_false_iff_ne, bne_eq_false_iff_eq] at qh24
      refine W.exit ?_
      refine hK15 _ _ _ ?_
      refine W.prune' [0, 3] [Value.slice pa ps.length pcap, Value.slice g.a ((jn (ps.take k)).length) g.cap] (by kernel_rfl) (fun f43 => ?_)
      refine W.seq (fun K44 hK44 => ?_)
      have hte : ps.take k = ps := List.take_of_length_le (by omega); have htot : (jn ps).length ≤ 150000 := (by rw [hte] at hkl; omega)
      refine W.region ?_
      refine Wl.run 1 (by kernel_rfl) ?_
      refine Wl.yc (v := Value.int .u16 ((cks (jn (ps.take k)) : Nat) : Int)) rfl rfl (Yc.call (k := 27) (args := #[Value.slice g.a ((jn (ps.take k)).length) g.cap]) (fun _ => by kernel_rfl) (fun w_ hm_ => (rsumn_c (jn (ps.take k)) g.a ((jn (ps.take k)).length) g.cap _ (by first | rfl | (simp; done)) (FS.at (i := 0) (t := 5) hm_ rfl (FS.nil_cs ok (mc_len1 _))) (by omega)))) ?_
      refine Wl.run 1 (by kernel_rfl) ?_
      refine Wl.nil ?_
      refine hK44 _ _ _ ?_
      refine W.pick (LL' := []) [] (by decide) rfl ?_
      refine W.prune' [0, 6] [Value.slice pa ps.length pcap, Value.int .u16 ((cks (jn (ps.take k)) : Nat) : Int)] (by kernel_rfl) (fun f45 => ?_)
      refine W.seq (fun K46 hK46 => ?_)
      refine W.region ?_
      refine Wl.run 1 (by kernel_rfl) ?_
      refine Wl.yc (v := Value.int .u16 ((cks (jn ps) : Nat) : Int)) rfl rfl (Yc.call (k := 26) (args := #[Value.slice pa ps.length pcap]) (fun _ => by kernel_rfl) (fun w_ hm_ => (sumn_c ps (jn ps) pa ps.length pcap ((jn ps).length) _ rfl rfl rfl (hpa.mem0 hm_) (fun p h => (hp p h).mem0 hm_) (by omega) (by omega) (by omega)))) ?_
      refine Wl.run 3 (by kernel_rfl) ?_
      refine Wl.guard (v := Value.slice pa ps.length pcap) (((cks (jn ps) : Nat) : Int) == ((cks (jn (ps.take k)) : Nat) : Int)) rfl (wantT rfl (by kernel_rfl)) rfl (fun hg47 => ?_) ?_
      · have qhg47 := hg47; try simp only [Bool.and_eq_true, Bool.or_eq_true, Bool.not_eq_true', Bool.not_eq_false', Bool.and_eq_false_iff, Bool.or_eq_false_iff, decide_eq_true_eq, decide_eq_false_iff_not, beq_iff_eq, bne_iff_ne, beq_eq_false_iff_ne, bne_eq_false_iff_eq] at qhg47
        exact Ys.pure (fun _ => by kernel_rfl)
      refine Wl.guardc (v := Value.bool (((cks (jn ps) : Nat) : Int) == 0)) (((cks (jn ps) : Nat) : Int) == ((cks (jn (ps.take k)) : Nat) : Int)) rfl (wantT rfl (by kernel_rfl)) rfl (fun hg48 => ?_) ?_
      · have qhg48 := hg48; try simp only [Bool.and_eq_true, Bool.or_eq_true, Bool.not_eq_true', Bool.not_eq_false', Bool.and_eq_false_iff, Bool.or_eq_false_iff, decide_eq_true_eq, decide_eq_false_iff_not, beq_iff_eq, bne_iff_ne, beq_eq_false_iff_ne, bne_eq_false_iff_eq] at qhg48
        refine Yc.at (t := 33) (v0 := Value.slice pa ps.length pcap) (lz (g := ((cks (jn ps) : Nat) : Int) == ((cks (jn (ps.take k)) : Nat) : Int)) (u := undef) hg48 (by kernel_rfl)) ?_
        exact Yc.call (k := 28) (args := #[Value.slice pa ps.length pcap]) (fun _ => by kernel_rfl) (fun w_ hm_ => (rightn_c ps (jn ps) pa ps.length pcap ((jn ps).length) _ rfl rfl rfl (hpa.mem0 hm_) (fun p h => (hp p h).mem0 hm_) (by omega) (by omega) (by omega)))
      refine Wl.guard (v := Value.int .u16 ((cks (jn (ps.take k)) : Nat) : Int)) (((cks (jn ps) : Nat) : Int) == ((cks (jn (ps.take k)) : Nat) : Int)) rfl (wantT rfl (by kernel_rfl)) rfl (fun hg49 => ?_) ?_
      · have qhg49 := hg49; try simp only [Bool.and_eq_true, Bool.or_eq_true, Bool.not_eq_true', Bool.not_eq_false', Bool.and_eq_false_iff, Bool.or_eq_false_iff, decide_eq_true_eq, decide_eq_false_iff_not, beq_iff_eq, bne_iff_ne, beq_eq_false_iff_ne, bne_eq_false_iff_eq] at qhg49
        exact Ys.pure (fun _ => by kernel_rfl)
      refine Wl.guard (v := Value.bool (((cks (jn (ps.take k)) : Nat) : Int) == 0)) (((cks (jn ps) : Nat) : Int) == ((cks (jn (ps.take k)) : Nat) : Int)) rfl (wantT rfl (by kernel_rfl)) rfl (fun hg50 => ?_) ?_
      · have qhg50 := hg50; try simp only [Bool.and_eq_true, Bool.or_eq_true, Bool.not_eq_true', Bool.not_eq_false', Bool.and_eq_false_iff, Bool.or_eq_false_iff, decide_eq_true_eq, decide_eq_false_iff_not, beq_iff_eq, bne_iff_ne, beq_eq_false_iff_ne, bne_eq_false_iff_eq] at qhg50
        refine Ys.at (t := 35) (v0 := Value.int .u16 ((cks (jn (ps.take k)) : Nat) : Int)) (lz (g := ((cks (jn ps) : Nat) : Int) == ((cks (jn (ps.take k)) : Nat) : Int)) (u := undef) hg50 (by kernel_rfl)) ?_
        exact Ys.pure (fun _ => by kernel_rfl)
      refine Wl.guard (v := Value.bool ((((cks (jn ps) : Nat) : Int) == 0) == (((cks (jn (ps.take k)) : Nat) : Int) == 0))) (((cks (jn ps) : Nat) : Int) == ((cks (jn (ps.take k)) : Nat) : Int)) rfl (wantT rfl (by kernel_rfl)) rfl (fun hg51 => ?_) ?_
      · have qhg51 := hg51; try simp only [Bool.and_eq_true, Bool.or_eq_true, Bool.not_eq_true', Bool.not_eq_false', Bool.and_eq_false_iff, Bool.or_eq_false_iff, decide_eq_true_eq, decide_eq_false_iff_not, beq_iff_eq, bne_iff_ne, beq_eq_false_iff_ne, bne_eq_false_iff_eq] at qhg51
        refine Ys.at (t := 34) (v0 := Value.bool (((cks (jn ps) : Nat) : Int) == 0)) (lz (g := ((cks (jn ps) : Nat) : Int) == ((cks (jn (ps.take k)) : Nat) : Int)) (u := undef) hg51 (by kernel_rfl)) ?_
        refine Ys.at (t := 36) (v0 := Value.bool (((cks (jn (ps.take k)) : Nat) : Int) == 0)) (lz (g := ((cks (jn ps) : Nat) : Int) == ((cks (jn (ps.take k)) : Nat) : Int)) (u := undef) hg51 (by kernel_rfl)) ?_
        exact Ys.pure (fun _ => by kernel_rfl)
      refine Wl.ys (v := Value.bool ((((cks (jn ps) : Nat) : Int) == ((cks (jn (ps.take k)) : Nat) : Int)) && ((((cks (jn ps) : Nat) : Int) == 0) == (((cks (jn (ps.take k)) : Nat) : Int) == 0)))) rfl rfl (Ys.and (e := ((cks (jn ps) : Nat) : Int) == ((cks (jn (ps.take k)) : Nat) : Int)) (b := (((cks (jn ps) : Nat) : Int) == 0) == (((cks (jn (ps.take k)) : Nat) : Int) == 0)) rfl (by kernel_rfl) (by kernel_rfl) (by kernel_rfl)) ?_
      refine Wl.run 1 (by kernel_rfl) ?_
      refine Wl.nil ?_
      refine hK46 _ _ _ ?_
      refine W.prune' [2] [Value.bool ((((cks (jn ps) : Nat) : Int) == ((cks (jn (ps.take k)) : Nat) : Int)) && ((((cks (jn ps) : Nat) : Int) == 0) == (((cks (jn (ps.take k)) : Nat) : Int) == 0)))] (by kernel_rfl) (fun f52 => ?_)
      refine W.ret ?_
      show ∀ w_, _ → bodyPostM (fence none) 0 Try.prog Try.f8 _ Exit.ret _ w_
      exact fun w_ hS_ => fin_ret (ret1 rfl (RV.tmp (v := Value.bool ((((cks (jn ps) : Nat) : Int) == ((cks (jn (ps.take k)) : Nat) : Int)) && ((((cks (jn ps) : Nat) : Int) == 0) == (((cks (jn (ps.take k)) : Nat) : Int) == 0)))) (by kernel_rfl)) hS_ ⟨by clear hK1 hK2 hK3 hK6 hK7 hK13 hK15 hK16 hJ18 hK21 hK22 hK44 hK46; refine congrArg Ending.returned ?_; exact bool_congr (by rw [hte]; simp), hS_.below⟩)

end Go.Proofs.Ytegeijaicjackaa.Oct
