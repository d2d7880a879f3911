/-
  OctetBack. No condition.
-/
import Derived.Test.YtegeijaicjackaaOct8
set_option linter.unusedVariables false
set_option linter.unusedSimpArgs false
set_option maxRecDepth 20000
namespace Go.Proofs.Ytegeijaicjackaa.Oct
open Go.RowKit Base
attribute [local irreducible] Ys Yc Ht HtIn Wl Wd W Mem pf dpf

theorem ojoin_c (ps : List SV) (pa : Option Addr) (pcap : Nat) (w : World) (hpa : At w pa (mc slv ps)) (hp : ∀ p ∈ ps, At w p.a (byc p.xs)) (htot : (jn ps).length ≤ 1000000000000) (hn : ps.length ≤ 1000000000) (hpc : ps.length ≤ pcap) : Calls Try.prog 23 #[Value.slice pa ps.length pcap] w (RetM w (fun g : FS => g.ok 1 (jn ps).length ∧ (2 ≤ ps.length → g.nil = false)) (fun g => .slice g.a (jn ps).length g.cap) [] (fun g => [g.seg 5 (byc (jn ps))])) := by
  refine calls_W (M := []) (LL := []) (n := 5) Try.func23 rfl rfl (by simp) (Mem.refl _) ?_
  refine W.seq (fun K1 hK1 => ?_)
  refine W.region ?_
  refine Wl.run 1 (by kernel_rfl) ?_
  refine Wl.nil ?_
  refine hK1 _ _ _ ?_
  refine W.seq (fun K2 hK2 => ?_)
  refine W.region ?_
  refine Wl.run 1 (by kernel_rfl) ?_
  refine Wl.ht rfl (Ht.call (β := FS) (k := 38) (args := #[Value.slice pa ps.length pcap, Value.slice none 0 0]) (Lin := []) (Lk := []) (Mi := []) (Lo := fun g3 => [g3.seg 5 (mc b8 (jn ps))]) [] [] rfl (fun _ => by kernel_rfl) (by decide) rfl rfl rfl (fun w_ hm_ hl_ => (join_c ps pa pcap _ (hpa.mem0 hm_) (fun p h => (hp p h).mem0 hm_) htot hn hpc)) (fun _ => rfl)) (fun x6 => ?_)
  obtain ⟨g3, ok4, nn5⟩ := x6
  refine Wl.castL (LL' := [g3.seg 5 (mc b8 (jn ps))]) rfl ?_
  refine Wl.run 1 (by kernel_rfl) ?_
  refine Wl.nil ?_
  refine hK2 _ _ _ ?_
  refine W.prune' [2] [Value.slice g3.a ((jn ps).length) g3.cap] (by kernel_rfl) (fun f7 => ?_)
  refine W.ret ?_
  show ∀ w_, _ → bodyPostM (fence none) 0 Try.prog Try.f23 _ Exit.ret _ w_
  exact fun w_ hS_ => fin_ret (ret1 rfl (RV.tmp (v := Value.slice g3.a ((jn ps).length) g3.cap) (by kernel_rfl)) hS_ ⟨g3, ⟨ok4, nn5⟩, rfl, hS_⟩)

theorem ojoinn_c (ps : List SV) (zs : List UInt8) (pa : Option Addr) (len pcap n : Nat) (w : World) (hl : len = ps.length) (hz : jn ps = zs) (hn' : zs.length = n) (hpa : At w pa (mc slv ps)) (hp : ∀ p ∈ ps, At w p.a (byc p.xs)) (htot : n ≤ 1000000000000) (hn : ps.length ≤ 1000000000) (hpc : ps.length ≤ pcap) :
    Calls Try.prog 23 #[.slice pa len pcap] w (RetM w (fun g : FS => g.ok 1 n ∧ (2 ≤ ps.length → g.nil = false)) (fun g => .slice g.a n g.cap) [] (fun g => [g.seg 5 (byc zs)])) := by
  subst hl; subst hz; subst hn'; exact ojoin_c ps pa pcap w hpa hp htot hn hpc

/-- Numbers of two bytes as bytes. -/
def b2 (ns : List Nat) : List UInt8 := (ns.map (be 2)).flatten
theorem b2_step {ns : List Nat} {k : Nat} (h : k < ns.length) : b2 (ns.take (k + 1)) = b2 (ns.take k) ++ be 2 (ns.getD k 0) := by
  unfold b2; rw [List.take_add_one, List.map_append, List.flatten_append]; simp [h]
theorem b2_len : ∀ ns : List Nat, (b2 ns).length = 2 * ns.length
  | [] => rfl
  | n :: ns => by
    have := b2_len ns
    unfold b2 at this ⊢
    rw [List.map_cons, List.flatten_cons, List.length_append, be_len, this, List.length_cons]; omega
theorem be2 (n : Nat) : be 2 n = [UInt8.ofNat (n / 256), UInt8.ofNat n] := rfl
theorem pw_b2 : ∀ ns : List Nat, (∀ x ∈ ns, x < 65536) → pw (b2 ns) = ns
  | [], _ => rfl
  | n :: ns, h => by
    have ih := pw_b2 ns (fun x hx => h x (List.mem_cons_of_mem _ hx))
    have hn := h n (List.mem_cons_self ..)
    have e : b2 (n :: ns) = UInt8.ofNat (n / 256) :: UInt8.ofNat n :: b2 ns := rfl
    rw [e, pw, ih, UInt8.toNat_ofNat', UInt8.toNat_ofNat']
    congr 1
    omega
theorem told_len (n : Nat) : told n ((n : Nat) : Int) = n := by unfold told; split <;> omega
theorem back_c (ns : List Nat) (na : Option Addr) (ncap : Nat) (w : World) (hns : At w na (mc n16 ns)) (hnl : ns.length ≤ 9223372036854775807) (hnb : ∀ x ∈ ns, x < 65536) : Calls Try.prog 6 #[Value.slice na ns.length ncap] w (Ret w (.bool true)) := by
  refine calls_W (M := []) (LL := []) (n := 51) Try.func6 rfl rfl (by simp) (Mem.refl _) ?_
  refine W.seq (fun K1 hK1 => ?_)
  refine W.region ?_
  refine Wl.run 1 (by kernel_rfl) ?_
  refine Wl.nil ?_
  refine hK1 _ _ _ ?_
  refine W.seq (fun K2 hK2 => ?_)
  refine W.seq (fun K3 hK3 => ?_)
  refine W.region ?_
  refine Wl.yc (v := Value.bool true) rfl rfl (Yc.call (k := 13) (args := #[]) (fun _ => by kernel_rfl) (fun w_ hm_ => speaks_c _)) ?_
  refine Wl.run 1 (by kernel_rfl) ?_
  refine Wl.nil ?_
  refine hK3 _ _ _ ?_
  refine W.prune' [0, 9] [Value.slice na ns.length ncap, Value.bool false] (by kernel_rfl) (fun f4 => ?_)
  refine W.condF (by kernel_rfl) ?_
  refine W.skip' ?_
  refine hK2 _ _ _ ?_
  refine W.prune' [0] [Value.slice na ns.length ncap] (by kernel_rfl) (fun f5 => ?_)
  refine W.seq (fun K6 hK6 => ?_)
  refine W.seq (fun K7 hK7 => ?_)
  refine W.region ?_
  refine Wl.run 3 (by kernel_rfl) ?_
  refine Wl.nil ?_
  refine hK7 _ _ _ ?_
  refine W.prune' [0, 12] [Value.slice na ns.length ncap, Value.bool (decide (((ns.length : Nat) : Int) > 1000))] (by kernel_rfl) (fun f8 => ?_)
  refine W.cond (decide (((ns.length : Nat) : Int) > 1000)) (by kernel_rfl) (fun h9 => ?_) (fun h10 => ?_)
  · have qh9 := h9; try simp only [Bool.and_eq_true, Bool.or_eq_true, Bool.not_eq_true', Bool.not_eq_false', Bool.and_eq_false_iff, Bool.or_eq_false_iff, decide_eq_true_eq, decide_eq_false_iff_not, beq_iff_eq, bne_iff_ne, beq_eq_false_iff_ne, bne_eq_false_iff_eq] at qh9
    refine W.seq (fun K11 hK11 => ?_)
    refine W.region ?_
    refine Wl.run 1 (by kernel_rfl) ?_
    refine Wl.nil ?_
    refine hK11 _ _ _ ?_
    refine W.ret ?_
    show ∀ w_, _ → bodyPostM (fence none) 0 Try.prog Try.f6 _ Exit.ret _ w_
    exact fun w_ hS_ => fin_ret (ret1 rfl (RV.tmp (v := Value.bool true) (by kernel_rfl)) hS_ ⟨rfl, hS_.below⟩)
  · have qh10 := h10; try simp only [Bool.and_eq_true, Bool.or_eq_true, Bool.not_eq_true', Bool.not_eq_false', Bool.and_eq_false_iff, Bool.or_eq_false_iff, decide_eq_true_eq, decide_eq_false_iff_not, beq_iff_eq, bne_iff_ne, beq_eq_false_iff_ne, bne_eq_false_iff_eq] at qh10
    refine W.skip' ?_
    refine hK6 _ _ _ ?_
    refine W.prune' [0] [Value.slice na ns.length ncap] (by kernel_rfl) (fun f12 => ?_)
    refine W.seq (fun K13 hK13 => ?_)
    refine W.region ?_
    refine Wl.ht rfl (Ht.made (mk := fun b_ => .slice (some ⟨b_, 0, none⟩) 0 0) (t := 5) (cs := []) rfl (fun _ => by kernel_rfl)) (fun p13 => ?_)
    refine Wl.run 1 (by kernel_rfl) ?_
    refine Wl.nil ?_
    refine hK13 _ _ _ ?_
    refine W.prune' [0, 3] [Value.slice na ns.length ncap, Value.slice (some ⟨p13, 0, none⟩) 0 0] (by kernel_rfl) (fun f14 => ?_)
    refine W.seq (fun K15 hK15 => ?_)
    refine W.seq (fun K16 hK16 => ?_)
    refine W.region ?_
    refine Wl.run 3 (by kernel_rfl) ?_
    refine Wl.nil ?_
    refine hK16 _ _ _ ?_
    refine W.prune' [0, 3, 14, 15, 16] [Value.slice na ns.length ncap, Value.slice (some ⟨p13, 0, none⟩) 0 0, Value.slice na ns.length ncap, Value.int .i64 ((ns.length : Nat) : Int), Value.int .i64 0] (by kernel_rfl) (fun f17 => ?_)
    refine W.block ?_
    refine W.loop2 [0, 3, 14, 15, 16] (fun (k : Nat) (g : FS) => [Value.slice na ns.length ncap, Value.slice g.a ((b2 (ns.take k)).length) g.cap, Value.slice na ns.length ncap, Value.int .i64 ((ns.length : Nat) : Int), Value.int .i64 ((k : Nat) : Int)]) (fun (k : Nat) (g : FS) => k ≤ ns.length ∧ g.ok 1 (b2 (ns.take k)).length) (fun (k : Nat) (g : FS) => [g.seg 5 (mc b8 (b2 (ns.take k)))]) (fun (k : Nat) (g : FS) => ns.length - k) 0 ⟨false, p13, 0, []⟩ (by kernel_rfl) ⟨(Nat.zero_le _), (FS.lit_ok (by decide))⟩ (by rfl) (fun k g f19 J18 hp20 hJ18 => ?_)
    obtain ⟨hk, ok⟩ := hp20
    have hbl := b2_len (ns.take k); rw [List.length_take] at hbl
    refine W.seq (fun K21 hK21 => ?_)
    refine W.region ?_
    refine Wl.run 1 (by kernel_rfl) ?_
    refine Wl.nil ?_
    refine hK21 _ _ _ ?_
    refine W.seq (fun K22 hK22 => ?_)
    refine W.cond (decide (((k : Nat) : Int) < ((ns.length : Nat) : Int))) (by kernel_rfl) (fun h23 => ?_) (fun h24 => ?_)
    · have qh23 := h23; try simp only [Bool.and_eq_true, Bool.or_eq_true, Bool.not_eq_true', Bool.not_eq_false', Bool.and_eq_false_iff, Bool.or_eq_false_iff, decide_eq_true_eq, decide_eq_false_iff_not, beq_iff_eq, bne_iff_ne, beq_eq_false_iff_ne, bne_eq_false_iff_eq] at qh23
      refine W.skip' ?_
      refine hK22 _ _ _ ?_
      refine W.prune' [0, 3, 14, 15, 16] [Value.slice na ns.length ncap, Value.slice g.a ((b2 (ns.take k)).length) g.cap, Value.slice na ns.length ncap, Value.int .i64 ((ns.length : Nat) : Int), Value.int .i64 ((k : Nat) : Int)] (by kernel_rfl) (fun f25 => ?_)
      refine W.seq (fun K26 hK26 => ?_)
      refine W.block ?_
      refine W.seq (fun K27 hK27 => ?_)
      refine W.region ?_
      refine Wl.ys (v := Value.pointer (some (ela na (k * 1)))) rfl rfl (Ys.byMem fun w_ h_ => Ys.indexAddr (k := .i64) (a := na) (len := ns.length) (cap := ncap) (i := ((k : Nat) : Int)) (sz := 1) rfl (by kernel_rfl) (by kernel_rfl) Try.runUnderlying24 Try.sizeOf27 (by omega) (by omega) ((hns.mem0 h_).here (by rw [mc_len]; first | omega | (simp; omega)))) ?_
      refine Wl.ys (v := Value.int .u16 ((ns.getD k 0 : Nat) : Int)) rfl rfl (Ys.ld (a := ela na (k * 1)) rfl (by kernel_rfl) Try.isAgg27 (fun w_ h_ => (hns.mem0 h_).ld (mc_get1 0 (by first | omega | (simp; omega))))) ?_
      have hb28 := getD_mem (p := fun x => x < 65536) hnb (d := 0) (k := k) (by omega)
      refine Wl.run 1 (by kernel_rfl) ?_
      refine Wl.nil ?_
      refine hK27 _ _ _ ?_
      refine W.prune' [0, 3, 5, 14, 15, 16] [Value.slice na ns.length ncap, Value.slice g.a ((b2 (ns.take k)).length) g.cap, Value.int .u16 ((ns.getD k 0 : Nat) : Int), Value.slice na ns.length ncap, Value.int .i64 ((ns.length : Nat) : Int), Value.int .i64 ((k : Nat) : Int)] (by kernel_rfl) (fun f29 => ?_)
      refine W.region ?_
      refine Wl.run 2 (by kernel_rfl) ?_
      refine Wl.ys (v := Value.int .u64 ((ns.getD k 0 : Nat) : Int)) rfl rfl ((Ys.pure (v := .int .u64 (icnv .u64 ((ns.getD k 0 : Nat) : Int))) (fun _ => by kernel_rfl)).conseq (int_congr (wrap_u64 (by omega) (by omega)))) ?_
      refine Wl.ht rfl (Ht.call (β := FS) (k := 24) (args := #[Value.int .i64 2, Value.int .u64 ((ns.getD k 0 : Nat) : Int)]) (Lin := []) (Lk := [g.seg 5 (mc b8 (b2 (ns.take k)))]) (Mi := []) (Lo := fun g30 => [g30.seg 5 (mc b8 (be 2 (ns.getD k 0))), g.seg 5 (mc b8 (b2 (ns.take k)))]) [] [0] rfl (fun _ => by kernel_rfl) (by decide) rfl rfl rfl (fun w_ hm_ hl_ => num_c 2 (ns.getD k 0) (by omega) _) (fun _ => rfl)) (fun x33 => ?_)
      obtain ⟨g30, ok31, nn32⟩ := x33
      refine Wl.castL (LL' := [g30.seg 5 (mc b8 (be 2 (ns.getD k 0))), g.seg 5 (mc b8 (b2 (ns.take k)))]) rfl ?_
      refine Wl.ht rfl (Ht.made (mk := fun b_ => .slice (some ⟨b_, 0, none⟩) 2 2) (t := 22) (cs := [Value.slice g.a ((b2 (ns.take k)).length) g.cap, Value.slice g30.a 2 g30.cap]) rfl (fun _ => by kernel_rfl)) (fun p24 => ?_)
      refine Wl.ht rfl (Ht.call (β := FS) (k := 23) (args := #[Value.slice (some ⟨p24, 0, none⟩) 2 2]) (Lin := []) (Lk := [[cb p24 [Value.slice g.a ((b2 (ns.take k)).length) g.cap, Value.slice g30.a 2 g30.cap] 22], g30.seg 5 (mc b8 (be 2 (ns.getD k 0))), g.seg 5 (mc b8 (b2 (ns.take k)))]) (Mi := []) (Lo := fun g34 => [g34.seg 5 (mc b8 ((b2 (ns.take k)) ++ (be 2 (ns.getD k 0)))), [cb p24 [Value.slice g.a ((b2 (ns.take k)).length) g.cap, Value.slice g30.a 2 g30.cap] 22], g30.seg 5 (mc b8 (be 2 (ns.getD k 0))), g.seg 5 (mc b8 (b2 (ns.take k)))]) [] [0, 1, 2] rfl (fun _ => by kernel_rfl) (by decide) rfl rfl rfl (fun w_ hm_ hl_ => (ojoinn_c [⟨g.a, (b2 (ns.take k)), g.cap⟩, ⟨g30.a, (be 2 (ns.getD k 0)), g30.cap⟩] ((b2 (ns.take k)) ++ (be 2 (ns.getD k 0))) (some ⟨p24, 0, none⟩) 2 2 (((b2 (ns.take k)).length) + 2) _ rfl (by simp [jn]) (by simp [be_len]; try omega) (by first | exact At.lit0 (i := 0) (j := 0) (t := 22) (b := p24) hm_ rfl rfl | (rw [show mc slv ([⟨g.a, (b2 (ns.take k)), g.cap⟩, ⟨g30.a, (be 2 (ns.getD k 0)), g30.cap⟩] : List SV) = [Value.slice g.a ((b2 (ns.take k)).length) g.cap, Value.slice g30.a 2 g30.cap] by (simp [mc, be_len]; try omega)]; exact At.lit0 (i := 0) (j := 0) (t := 22) (b := p24) hm_ rfl rfl)) (List.forall_mem_cons.2 ⟨(FS.at (i := 2) (t := 5) hm_ rfl (FS.nil_cs ok (mc_len1 _))), (List.forall_mem_cons.2 ⟨(FS.at (i := 1) (t := 5) hm_ rfl (FS.nil_cs ok31 (by rw [mc_len, be_len, Nat.mul_one]; rfl))), (fun _ h => by cases h)⟩)⟩) (by first | omega | (simp [be_len]; omega)) (by simp) (by simp))) (fun _ => rfl)) (fun x37 => ?_)
      obtain ⟨g34, ok35, nn36⟩ := x37
      refine Wl.castL (LL' := [g34.seg 5 (mc b8 ((b2 (ns.take k)) ++ (be 2 (ns.getD k 0)))), [cb p24 [Value.slice g.a ((b2 (ns.take k)).length) g.cap, Value.slice g30.a 2 g30.cap] 22], g30.seg 5 (mc b8 (be 2 (ns.getD k 0))), g.seg 5 (mc b8 (b2 (ns.take k)))]) rfl ?_
      refine Wl.run 1 (by kernel_rfl) ?_
      refine Wl.nil ?_
      refine hK26 _ _ _ ?_
      refine W.pick (LL' := [g34.seg 5 (mc b8 ((b2 (ns.take k)) ++ (be 2 (ns.getD k 0))))]) [0] (by decide) rfl ?_
      refine W.prune' [0, 3, 14, 15, 16] [Value.slice na ns.length ncap, Value.slice g34.a (((b2 (ns.take k)).length) + 2) g34.cap, Value.slice na ns.length ncap, Value.int .i64 ((ns.length : Nat) : Int), Value.int .i64 ((k : Nat) : Int)] (by kernel_rfl) (fun f38 => ?_)
      refine W.region ?_
      refine Wl.ys (v := Value.int .i64 ((k + 1 : Nat) : Int)) rfl rfl ((Ys.pure (v := .int .i64 (iadd .i64 ((k : Nat) : Int) 1)) (fun _ => by kernel_rfl)).conseq (int_congr (iadd_eq (by omega) (by omega) (by omega)))) ?_
      refine Wl.run 1 (by kernel_rfl) ?_
      refine Wl.nil ?_
      refine fun w_ h_ => hJ18 (k + 1) g34 _ w_ (by omega) ⟨(by omega), (by rw [b2_step (by omega), List.length_append, be_len]; exact ok35)⟩ ?_ (Mem.cast (LL := [g34.seg 5 (mc b8 ((b2 (ns.take k)) ++ (be 2 (ns.getD k 0))))]) (by rw [b2_step (by omega)]) h_)
      refine Eq.trans (b := ([Value.slice na ns.length ncap, Value.slice g34.a (((b2 (ns.take k)).length) + 2) g34.cap, Value.slice na ns.length ncap, Value.int .i64 ((ns.length : Nat) : Int), Value.int .i64 ((k + 1 : Nat) : Int)] : List Value)) (by kernel_rfl) (by rw [b2_step (by omega), List.length_append, be_len])
    · have qh24 := h24; try simp only [Bool.and_eq_true, Bool.or_eq_true, Bool.not_eq_true', Bool.not_eq_false', Bool.and_eq_false_iff, Bool.or_eq_false_iff, decide_eq_true_eq, decide_eq_false_iff_not, beq_iff_eq, bne_iff_ne, beq_eq_false_iff_ne, bne_eq_false_iff_eq] at qh24
      refine W.exit ?_
      refine hK15 _ _ _ ?_
      refine W.prune' [0, 3] [Value.slice na ns.length ncap, Value.slice g.a ((b2 (ns.take k)).length) g.cap] (by kernel_rfl) (fun f39 => ?_)
      refine W.seq (fun K40 hK40 => ?_)
      have hbl := b2_len (ns.take k); have hte : ns.take k = ns := List.take_of_length_le (by omega); have hpw := pw_b2 ns hnb; have hto := told_len ns.length; have htl : told (pw (b2 (ns.take k))).length ((ns.length : Nat) : Int) = ns.length := (by rw [hte, hpw]; exact hto); have hpl : (pw (b2 (ns.take k))).length = ns.length := (by rw [hte, hpw])
      refine W.region ?_
      refine Wl.run 3 (by kernel_rfl) ?_
      refine Wl.ht rfl (Ht.call (β := FS) (k := 14) (args := #[Value.slice g.a ((b2 (ns.take k)).length) g.cap, Value.int .i64 ((ns.length : Nat) : Int)]) (Lin := []) (Lk := [g.seg 5 (mc b8 (b2 (ns.take k)))]) (Mi := []) (Lo := fun g41 => [g41.seg 27 (mc n16 ((pw (b2 (ns.take k))).take (told (pw (b2 (ns.take k))).length ((ns.length : Nat) : Int)))), g.seg 5 (mc b8 (b2 (ns.take k)))]) [] [0] rfl (fun _ => by kernel_rfl) (by decide) rfl rfl rfl (fun w_ hm_ hl_ => (lpairsn_c (b2 (ns.take k)) g.a ((b2 (ns.take k)).length) g.cap ((ns.length : Nat) : Int) _ (by first | rfl | (simp; done)) (FS.at (i := 0) (t := 5) hm_ rfl (FS.nil_cs ok (mc_len1 _))) (by first | omega | (simp; done)))) (fun _ => rfl)) (fun x43 => ?_)
      obtain ⟨g41, ok42⟩ := x43
      refine Wl.castL (LL' := [g41.seg 27 (mc n16 ((pw (b2 (ns.take k))).take (told (pw (b2 (ns.take k))).length ((ns.length : Nat) : Int)))), g.seg 5 (mc b8 (b2 (ns.take k)))]) rfl ?_
      refine Wl.run 1 (by kernel_rfl) ?_
      refine Wl.nil ?_
      refine hK40 _ _ _ ?_
      refine W.pick (LL' := [g41.seg 27 (mc n16 ((pw (b2 (ns.take k))).take (told (pw (b2 (ns.take k))).length ((ns.length : Nat) : Int))))]) [0] (by decide) rfl ?_
      refine W.prune' [0, 6] [Value.slice na ns.length ncap, Value.slice g41.a (told (pw (b2 (ns.take k))).length ((ns.length : Nat) : Int)) g41.cap] (by kernel_rfl) (fun f44 => ?_)
      refine W.seq (fun K45 hK45 => ?_)
      refine W.seq (fun K46 hK46 => ?_)
      refine W.region ?_
      refine Wl.run 5 (by kernel_rfl) ?_
      refine Wl.nil ?_
      refine hK46 _ _ _ ?_
      refine W.prune' [0, 6, 35] [Value.slice na ns.length ncap, Value.slice g41.a (told (pw (b2 (ns.take k))).length ((ns.length : Nat) : Int)) g41.cap, Value.bool ((((told (pw (b2 (ns.take k))).length ((ns.length : Nat) : Int)) : Nat) : Int) != ((ns.length : Nat) : Int))] (by kernel_rfl) (fun f47 => ?_)
      refine W.cond ((((told (pw (b2 (ns.take k))).length ((ns.length : Nat) : Int)) : Nat) : Int) != ((ns.length : Nat) : Int)) (by kernel_rfl) (fun h48 => ?_) (fun h49 => ?_)
      · have qh48 := h48; try simp only [Bool.and_eq_true, Bool.or_eq_true, Bool.not_eq_true', Bool.not_eq_false', Bool.and_eq_false_iff, Bool.or_eq_false_iff, decide_eq_true_eq, decide_eq_false_iff_not, beq_iff_eq, bne_iff_ne, beq_eq_false_iff_ne, bne_eq_false_iff_eq] at qh48
        (exfalso; rw [hte, hpw, hto] at qh48; exact qh48 rfl)
      · have qh49 := h49; try simp only [Bool.and_eq_true, Bool.or_eq_true, Bool.not_eq_true', Bool.not_eq_false', Bool.and_eq_false_iff, Bool.or_eq_false_iff, decide_eq_true_eq, decide_eq_false_iff_not, beq_iff_eq, bne_iff_ne, beq_eq_false_iff_ne, bne_eq_false_iff_eq] at qh49
        refine W.skip' ?_
        refine hK45 _ _ _ ?_
        refine W.prune' [0, 6] [Value.slice na ns.length ncap, Value.slice g41.a (told (pw (b2 (ns.take k))).length ((ns.length : Nat) : Int)) g41.cap] (by kernel_rfl) (fun f50 => ?_)
        refine W.seq (fun K51 hK51 => ?_)
        refine W.seq (fun K52 hK52 => ?_)
        refine W.region ?_
        refine Wl.run 3 (by kernel_rfl) ?_
        refine Wl.nil ?_
        refine hK52 _ _ _ ?_
        refine W.prune' [0, 6, 37, 38] [Value.slice na ns.length ncap, Value.slice g41.a (told (pw (b2 (ns.take k))).length ((ns.length : Nat) : Int)) g41.cap, Value.int .i64 (((told (pw (b2 (ns.take k))).length ((ns.length : Nat) : Int)) : Nat) : Int), Value.int .i64 0] (by kernel_rfl) (fun f53 => ?_)
        refine W.block ?_
        refine W.loop1 [0, 6, 37, 38] (fun (j : Nat) => [Value.slice na ns.length ncap, Value.slice g41.a (told (pw (b2 (ns.take k))).length ((ns.length : Nat) : Int)) g41.cap, Value.int .i64 (((told (pw (b2 (ns.take k))).length ((ns.length : Nat) : Int)) : Nat) : Int), Value.int .i64 ((j : Nat) : Int)]) (fun (j : Nat) => j ≤ ns.length) (fun (j : Nat) => [g41.seg 27 (mc n16 ((pw (b2 (ns.take k))).take (told (pw (b2 (ns.take k))).length ((ns.length : Nat) : Int))))]) (fun (j : Nat) => ns.length - j) 0 (by kernel_rfl) (by first | omega | trivial | simp) (by rfl) (fun j f55 J54 hp56 hJ54 => ?_)
        have hj := hp56
        refine W.seq (fun K57 hK57 => ?_)
        refine W.region ?_
        refine Wl.run 1 (by kernel_rfl) ?_
        refine Wl.nil ?_
        refine hK57 _ _ _ ?_
        refine W.seq (fun K58 hK58 => ?_)
        refine W.cond (decide (((j : Nat) : Int) < (((told (pw (b2 (ns.take k))).length ((ns.length : Nat) : Int)) : Nat) : Int))) (by kernel_rfl) (fun h59 => ?_) (fun h60 => ?_)
        · have qh59 := h59; try simp only [Bool.and_eq_true, Bool.or_eq_true, Bool.not_eq_true', Bool.not_eq_false', Bool.and_eq_false_iff, Bool.or_eq_false_iff, decide_eq_true_eq, decide_eq_false_iff_not, beq_iff_eq, bne_iff_ne, beq_eq_false_iff_ne, bne_eq_false_iff_eq] at qh59
          refine W.skip' ?_
          refine hK58 _ _ _ ?_
          refine W.prune' [0, 6, 37, 38] [Value.slice na ns.length ncap, Value.slice g41.a (told (pw (b2 (ns.take k))).length ((ns.length : Nat) : Int)) g41.cap, Value.int .i64 (((told (pw (b2 (ns.take k))).length ((ns.length : Nat) : Int)) : Nat) : Int), Value.int .i64 ((j : Nat) : Int)] (by kernel_rfl) (fun f61 => ?_)
          refine W.seq (fun K62 hK62 => ?_)
          refine W.block ?_
          refine W.seq (fun K63 hK63 => ?_)
          refine W.region ?_
          refine Wl.run 2 (by kernel_rfl) ?_
          refine Wl.nil ?_
          refine hK63 _ _ _ ?_
          refine W.prune' [0, 6, 7, 37, 38] [Value.slice na ns.length ncap, Value.slice g41.a (told (pw (b2 (ns.take k))).length ((ns.length : Nat) : Int)) g41.cap, Value.int .i64 ((j : Nat) : Int), Value.int .i64 (((told (pw (b2 (ns.take k))).length ((ns.length : Nat) : Int)) : Nat) : Int), Value.int .i64 ((j : Nat) : Int)] (by kernel_rfl) (fun f64 => ?_)
          refine W.seq (fun K65 hK65 => ?_)
          refine W.draws [(0, true), (1, true), (2, true), (3, true), (4, true), (5, false), (6, false), (7, false), (8, false)] [0, 1, 2, 3, 4] (Mem w [] [g41.seg 27 (mc n16 ((pw (b2 (ns.take k))).take (told (pw (b2 (ns.take k))).length ((ns.length : Nat) : Int))))]) (by kernel_rfl) (by kernel_rfl) (by kernel_rfl) rfl (by kernel_rfl) (fun _ _ h_ => h_.drawn _) (fun _ h_ => h_) ?_
          refine Wd.run 2 (by kernel_rfl) ?_
          refine Wd.ys (v := Value.pointer (some (ela g41.a (j * 1)))) rfl rfl rfl (Ys.indexAddr (k := .i64) (a := g41.a) (len := (told (pw (b2 (ns.take k))).length ((ns.length : Nat) : Int))) (cap := g41.cap) (i := ((j : Nat) : Int)) (sz := 1) rfl (by kernel_rfl) (by kernel_rfl) Try.runUnderlying24 Try.sizeOf27 (by omega) (by omega) (by rw [FS.a_own (FS.notnil ok42 (by omega))]; rfl)) ?_
          refine Wd.ys (v := Value.int .u16 ((((pw (b2 (ns.take k))).take (told (pw (b2 (ns.take k))).length ((ns.length : Nat) : Int))).getD j 0 : Nat) : Int)) rfl rfl rfl (Ys.ld (a := ela g41.a (j * 1)) rfl (by kernel_rfl) Try.isAgg27 (fun w_ h_ => (FS.at (i := 0) (t := 27) h_ rfl (FS.nil_cs ok42 (by rw [mc_len, List.length_take, Nat.min_eq_left (told_le _ _), Nat.mul_one]))).ld (mc_get1 0 (by first | omega | (simp; omega))))) ?_
          refine Wd.run 1 (by kernel_rfl) ?_
          refine Wd.yc (v := Value.int .i64 ((j : Nat) : Int)) rfl rfl rfl (Ys.yc (Ys.pure (fun _ => by kernel_rfl))) (.inr fun _ h_ => h_) ?_
          refine Wd.yc (v := Value.pointer (some (ela na (j * 1)))) rfl rfl rfl (Ys.yc (Ys.byMem fun w_ h_ => Ys.indexAddr (k := .i64) (a := na) (len := ns.length) (cap := ncap) (i := ((j : Nat) : Int)) (sz := 1) rfl (by kernel_rfl) (by kernel_rfl) Try.runUnderlying24 Try.sizeOf27 (by omega) (by omega) ((hns.mem0 h_).here (by rw [mc_len]; first | omega | (simp; omega))))) (.inr fun _ h_ => h_) ?_
          refine Wd.yc (v := Value.int .u16 ((ns.getD j 0 : Nat) : Int)) rfl rfl rfl (Ys.yc (Ys.ld (a := ela na (j * 1)) rfl (by kernel_rfl) Try.isAgg27 (fun w_ h_ => (hns.mem0 h_).ld (mc_get1 0 (by first | omega | (simp; omega)))))) (.inr fun _ h_ => h_) ?_
          have hb66 := getD_mem (p := fun x => x < 65536) hnb (d := 0) (k := j) (by omega)
          refine Wd.yc (v := Value.bool (((((pw (b2 (ns.take k))).take (told (pw (b2 (ns.take k))).length ((ns.length : Nat) : Int))).getD j 0 : Nat) : Int) != ((ns.getD j 0 : Nat) : Int))) rfl rfl rfl (Ys.yc (Ys.pure (fun _ => by kernel_rfl))) (.inr fun _ h_ => h_) ?_
          refine Wd.nil ?_
          refine hK65 _ _ _ ?_
          refine W.prune' [0, 6, 37, 38, 49] [Value.slice na ns.length ncap, Value.slice g41.a (told (pw (b2 (ns.take k))).length ((ns.length : Nat) : Int)) g41.cap, Value.int .i64 (((told (pw (b2 (ns.take k))).length ((ns.length : Nat) : Int)) : Nat) : Int), Value.int .i64 ((j : Nat) : Int), Value.bool (((((pw (b2 (ns.take k))).take (told (pw (b2 (ns.take k))).length ((ns.length : Nat) : Int))).getD j 0 : Nat) : Int) != ((ns.getD j 0 : Nat) : Int))] (by kernel_rfl) (fun f67 => ?_)
          refine W.cond (((((pw (b2 (ns.take k))).take (told (pw (b2 (ns.take k))).length ((ns.length : Nat) : Int))).getD j 0 : Nat) : Int) != ((ns.getD j 0 : Nat) : Int)) (by kernel_rfl) (fun h68 => ?_) (fun h69 => ?_)
          · have qh68 := h68; try simp only [Bool.and_eq_true, Bool.or_eq_true, Bool.not_eq_true', Bool.not_eq_false', Bool.and_eq_false_iff, Bool.or_eq_false_iff, decide_eq_true_eq, decide_eq_false_iff_not, beq_iff_eq, bne_iff_ne, beq_eq_false_iff_ne, bne_eq_false_iff_eq] at qh68
            exact absurd (by rw [hte, hpw, hto, List.take_length]) qh68
          · have qh69 := h69; try simp only [Bool.and_eq_true, Bool.or_eq_true, Bool.not_eq_true', Bool.not_eq_false', Bool.and_eq_false_iff, Bool.or_eq_false_iff, decide_eq_true_eq, decide_eq_false_iff_not, beq_iff_eq, bne_iff_ne, beq_eq_false_iff_ne, bne_eq_false_iff_eq] at qh69
            refine W.skip' ?_
            refine hK62 _ _ _ ?_
            refine W.prune' [0, 6, 37, 38] [Value.slice na ns.length ncap, Value.slice g41.a (told (pw (b2 (ns.take k))).length ((ns.length : Nat) : Int)) g41.cap, Value.int .i64 (((told (pw (b2 (ns.take k))).length ((ns.length : Nat) : Int)) : Nat) : Int), Value.int .i64 ((j : Nat) : Int)] (by kernel_rfl) (fun f70 => ?_)
            refine W.region ?_
            refine Wl.ys (v := Value.int .i64 ((j + 1 : Nat) : Int)) rfl rfl ((Ys.pure (v := .int .i64 (iadd .i64 ((j : Nat) : Int) 1)) (fun _ => by kernel_rfl)).conseq (int_congr (iadd_eq (by omega) (by omega) (by omega)))) ?_
            refine Wl.run 1 (by kernel_rfl) ?_
            refine Wl.nil ?_
            refine fun w_ h_ => hJ54 (j + 1) _ w_ (by omega) (by first | omega | trivial | simp) ?_ h_
            kernel_rfl
        · have qh60 := h60; try simp only [Bool.and_eq_true, Bool.or_eq_true, Bool.not_eq_true', Bool.not_eq_false', Bool.and_eq_false_iff, Bool.or_eq_false_iff, decide_eq_true_eq, decide_eq_false_iff_not, beq_iff_eq, bne_iff_ne, beq_eq_false_iff_ne, bne_eq_false_iff_eq] at qh60
          refine W.exit ?_
          refine hK51 _ _ _ ?_
          refine W.pick (LL' := []) [] (by decide) rfl ?_
          refine W.prune' [] [] (by kernel_rfl) (fun f71 => ?_)
          refine W.seq (fun K72 hK72 => ?_)
          refine W.region ?_
          refine Wl.run 1 (by kernel_rfl) ?_
          refine Wl.nil ?_
          refine hK72 _ _ _ ?_
          refine W.ret ?_
          show ∀ w_, _ → bodyPostM (fence none) 0 Try.prog Try.f6 _ Exit.ret _ w_
          exact fun w_ hS_ => fin_ret (ret1 rfl (RV.tmp (v := Value.bool true) (by kernel_rfl)) hS_ ⟨rfl, hS_.below⟩)

end Go.Proofs.Ytegeijaicjackaa.Oct
