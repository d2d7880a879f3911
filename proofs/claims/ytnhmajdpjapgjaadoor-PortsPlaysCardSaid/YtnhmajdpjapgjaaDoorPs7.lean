/-
  PortsStops. No condition.
-/
import Derived.Test.YtnhmajdpjapgjaaDoorPs6
set_option linter.unusedVariables false
set_option linter.unusedSimpArgs false
set_option maxRecDepth 20000
namespace Go.Proofs.YtnhmajdpjapgjaaDoor.Oct
open Go.RowKit Base
attribute [local irreducible] Ys Yc Ht HtS HtIn Wl Wd W Mem pf dpf Wa Wo

theorem listed_c (T : Nat → Bool) (n q : Int) (b : Nat) (w : World) (hl : Mem w [b] [[cb b (psC T n) 74]] w) (htab : At w (some ⟨1, 0, none⟩) (byc dbt)) : Calls Tryd.prog 21 #[Value.pointer (some ⟨b, 0, none⟩), Value.int .i64 q] w (RetM w (fun g : FS => g.ok 1 (ci (lst T q)).length) (fun g => .slice g.a (ci (lst T q)).length g.cap) [b] (fun g => [g.seg 3 (mc (Value.int .i64) (ci (lst T q))), [cb b (psC T n) 74]])) := by
  have hne := ps_apart hl htab
  refine calls_W (M := [b]) (LL := [[cb b (psC T n) 74]]) (n := 12) Tryd.func21 rfl rfl (by simp) (hl) ?_
  refine W.seq (fun K1 hK1 => ?_)
  refine W.region ?_
  refine Wl.ht rfl (Ht.box (v := Value.int .i64 q) (cs := [Value.int .i64 q]) rfl rfl (by kernel_rfl) rfl) (fun p3 => ?_)
  refine Wl.run 1 (by kernel_rfl) ?_
  refine Wl.nil ?_
  refine hK1 _ _ _ ?_
  refine W.prune' [0, 3] [Value.pointer (some ⟨b, 0, none⟩), Value.pointer (some ⟨p3, 0, none⟩)] (by kernel_rfl) (fun f2 => ?_)
  refine W.seq (fun K3 hK3 => ?_)
  refine W.region ?_
  refine Wl.ht rfl (Ht.made (mk := fun b_ => .slice (some ⟨b_, 0, none⟩) 0 0) (t := 3) (cs := []) rfl (fun _ => by kernel_rfl)) (fun p6 => ?_)
  refine Wl.ht rfl (Ht.alloc (z := Value.slice none 0 0) (cs := [Value.slice none 0 0]) rfl rfl Tryd.zeroValue50 rfl) (fun p5 => ?_)
  refine Wl.ht rfl (Ht.store (b := p5) (o' := 0) (i := 0) (j := 0) (cs := [Value.slice none 0 0]) (cs' := [Value.slice (some ⟨p6, 0, none⟩) 0 0]) (v := Value.slice (some ⟨p6, 0, none⟩) 0 0) (LL' := [[cb p5 [Value.slice (some ⟨p6, 0, none⟩) 0 0] 50], [cb p6 [] 3], [cb p3 [Value.int .i64 q] 3], [cb b (psC T n) 74]]) rfl rfl (by kernel_rfl) (by kernel_rfl) Tryd.sizeOf50 rfl rfl rfl (by simp) rfl rfl) (fun _ => ?_)
  refine Wl.nil ?_
  refine hK3 _ _ _ ?_
  refine W.prune' [0, 3, 5] [Value.pointer (some ⟨b, 0, none⟩), Value.pointer (some ⟨p3, 0, none⟩), Value.pointer (some ⟨p5, 0, none⟩)] (by kernel_rfl) (fun f4 => ?_)
  refine W.seq (fun K5 hK5 => ?_)
  obtain ⟨O_, hO_⟩ : ∃ z : List Int, z = [] := ⟨_, rfl⟩
  obtain ⟨gO_, hgO_⟩ : ∃ z : FS, z = FS.mk false p6 0 [] := ⟨_, rfl⟩
  have okO_ : gO_.ok 1 O_.length := by rw [hO_, hgO_]; exact FS.lit_ok (by decide)
  refine W.conseq (S' := Mem w [b] [[cb p5 [Value.slice gO_.a O_.length gO_.cap] 50], gO_.seg 3 (mc (Value.int .i64) O_), [cb p3 [Value.int .i64 q] 3], [cb b (psC T n) 74]]) (fun w_ h_ => Mem.cast (LL := [[cb p5 [Value.slice (some ⟨p6, 0, none⟩) 0 0] 50], [cb p6 [] 3], [cb p3 [Value.int .i64 q] 3], [cb b (psC T n) 74]]) (by rw [hO_, hgO_]; rfl) h_) ?_
  refine W.region ?_
  refine Wl.run 1 (by kernel_rfl) ?_
  refine Wl.htS rfl (HtS.call (β := Nat) (k := 34) (args := #[Value.pointer (some ⟨b, 0, none⟩)]) (Lin := []) (Lk := [[cb p5 [Value.slice gO_.a O_.length gO_.cap] 50], gO_.seg 3 (mc (Value.int .i64) O_), [cb p3 [Value.int .i64 q] 3], [cb b (psC T n) 74]]) (Mi := []) (Lo := fun pa6 => [[cb pa6 [Value.pointer (some ⟨b, 0, none⟩)] 25], [cb p5 [Value.slice gO_.a O_.length gO_.cap] 50], gO_.seg 3 (mc (Value.int .i64) O_), [cb p3 [Value.int .i64 q] 3], [cb b (psC T n) 74]]) [] [0, 1, 2, 3] rfl (fun _ => by kernel_rfl) (by decide) rfl rfl rfl (fun w_ hm_ hl_ => (allf_c b _)) (fun _ => rfl)) (fun pa6 _ => ?_)
  refine Wl.run 1 (by kernel_rfl) ?_
  refine Wl.htS rfl (HtS.call (β := FS) (k := 45) (args := #[Value.func (.func 35) #[] #[Value.pointer (some ⟨p5, 0, none⟩), Value.pointer (some ⟨p3, 0, none⟩)], Value.pointer (some ⟨pa6, 0, none⟩)]) (Lin := [gO_.seg 3 (mc (Value.int .i64) O_), [cb p5 [Value.slice gO_.a O_.length gO_.cap] 50], [cb p3 [Value.int .i64 q] 3], [cb b (psC T n) 74], [cb pa6 [Value.pointer (some ⟨b, 0, none⟩)] 25]]) (Lk := []) (Lo := fun g8 => [g8.seg 3 (mc (Value.int .i64) (ci (lst T q))), [cb p5 [Value.slice g8.a ((ci (lst T q)).length) g8.cap] 50], [cb p3 [Value.int .i64 q] 3], [cb b (psC T n) 74], [cb pa6 [Value.pointer (some ⟨b, 0, none⟩)] 25]]) [2, 1, 3, 4, 0] [] rfl (fun _ => by kernel_rfl) (by decide) rfl rfl rfl (fun w_ hm_ hl_ => (all1_c T n q O_ gO_ b pa6 p5 p3 _ _ (At.into (L := [gO_.seg 3 (mc (Value.int .i64) O_), [cb p5 [Value.slice gO_.a O_.length gO_.cap] 50], [cb p3 [Value.int .i64 q] 3], [cb b (psC T n) 74], [cb pa6 [Value.pointer (some ⟨b, 0, none⟩)] 25]]) (R := []) htab hne (hm_.pick [2, 1, 3, 4, 0] (by decide) rfl)).1 (At.into (L := [gO_.seg 3 (mc (Value.int .i64) O_), [cb p5 [Value.slice gO_.a O_.length gO_.cap] 50], [cb p3 [Value.int .i64 q] 3], [cb b (psC T n) 74], [cb pa6 [Value.pointer (some ⟨b, 0, none⟩)] 25]]) (R := []) htab hne (hm_.pick [2, 1, 3, 4, 0] (by decide) rfl)).2 hl_ okO_ hO_)) (fun _ => rfl)) (fun g8 ok9 => ?_)
  refine Wl.nil ?_
  refine hK5 _ _ _ ?_
  refine W.pick (LL' := [g8.seg 3 (mc (Value.int .i64) (ci (lst T q))), [cb p5 [Value.slice g8.a ((ci (lst T q)).length) g8.cap] 50], [cb b (psC T n) 74]]) [0, 1, 3] (by decide) rfl ?_
  refine W.prune' [5] [Value.pointer (some ⟨p5, 0, none⟩)] (by kernel_rfl) (fun f11 => ?_)
  refine W.seq (fun K12 hK12 => ?_)
  refine W.region ?_
  refine Wl.ys (v := Value.slice g8.a ((ci (lst T q)).length) g8.cap) rfl rfl (Ys.load (b := p5) (o' := 0) (i := 1) (j := 0) (cs := [Value.slice g8.a ((ci (lst T q)).length) g8.cap]) (v := Value.slice g8.a ((ci (lst T q)).length) g8.cap) rfl (by kernel_rfl) Tryd.isAgg50 rfl rfl rfl) ?_
  refine Wl.run 1 (by kernel_rfl) ?_
  refine Wl.nil ?_
  refine hK12 _ _ _ ?_
  refine W.pick (LL' := [g8.seg 3 (mc (Value.int .i64) (ci (lst T q))), [cb b (psC T n) 74]]) [0, 2] (by decide) rfl ?_
  refine W.prune' [4] [Value.slice g8.a ((ci (lst T q)).length) g8.cap] (by kernel_rfl) (fun f13 => ?_)
  refine W.ret ?_
  show ∀ w_, _ → bodyPostM (fence none) 0 Tryd.prog Tryd.f21 _ Exit.ret _ w_
  exact fun w_ hS_ => fin_ret (ret1 rfl (RV.tmp (v := Value.slice g8.a ((ci (lst T q)).length) g8.cap) (by kernel_rfl)) hS_ ⟨g8, ok9, rfl, (hS_.pick [0, 1] (by decide) rfl)⟩)

theorem tkN_nat {T : Nat → Bool} {p c : Nat} : tkN T p ((c : Nat) : Int) = ((c + (bif tkB T p then 1 else 0) : Nat) : Int) := by unfold tkN; cases tkB T p <;> simp
theorem cn_tk {T : Nat → Bool} {p : Nat} (hp : p < 65536) {m : Nat} (hm : m = 65536) : cn (tkT T p) m = cn T m + (bif tkB T p then 1 else 0) := by
  unfold tkT
  cases h : tkB T p with
  | false => rfl
  | true =>
    have hT : T p = false := by unfold tkB at h; cases ht : T p <;> simp [ht] at h ⊢
    simp only [cond_true]
    rw [cn_up hT m, if_pos (by omega)]
theorem plI_inc (T : Nat → Bool) (m : Nat) : (plI T m).Pairwise (· < ·) := List.Pairwise.filter _ List.pairwise_lt_range
theorem lst_inc (T : Nat → Bool) (q : Int) : (lst T q).Pairwise (· < ·) := List.Pairwise.sublist (List.take_sublist _ _) (plI_inc T _)
theorem ci_get {L : List Nat} {j : Nat} (h : j < L.length) : (ci L).getD j 0 = ((L[j] : Nat) : Int) := by
  unfold ci
  rw [List.getD_eq_getElem?_getD, List.getElem?_map, List.getElem?_eq_getElem h]; rfl
theorem ci_rise {L : List Nat} (hL : L.Pairwise (· < ·)) {j : Nat} (h1 : 1 ≤ j) (h2 : j < (ci L).length) : (ci L).getD (((j : Nat) : Int) - 1).toNat 0 < (ci L).getD j 0 := by
  rw [ci_len] at h2
  have e : (((j : Nat) : Int) - 1).toNat = j - 1 := by omega
  rw [e, ci_get h2, ci_get (by omega)]
  have := (List.pairwise_iff_getElem.1 hL) (j - 1) j (by omega) h2 (by omega)
  omega
theorem ci_lst_len {T : Nat → Bool} {q : Int} {c m : Nat} (hm : m = 65536) (h : cn T m = c) : (ci (lst T q)).length = min (mxN q) c := by
  subst hm
  rw [ci_len, lst_len, pl_len, h]
theorem stops_len {q : Int} {c : Nat} (h : c ≠ 0) : ((min (mxN q) c : Nat) : Int) = imax (imin ((c : Nat) : Int) q) 1 := by
  unfold mxN imax imin
  (repeat' split) <;> omega
theorem stops_c (ns : List Nat) (na : Option Addr) (ncap : Nat) (q : Int) (w : World) (hns : At w na (mc n16 ns)) (hnl : ns.length ≤ 9223372036854775807) (hnc : ns.length ≤ ncap) (hnb : ∀ x ∈ ns, x < 65536) (hq1 : -9223372036854775808 ≤ q) (hq2 : q ≤ 9223372036854775807) (htab : At w (some ⟨1, 0, none⟩) (byc dbt)) : Calls Tryd.prog 6 #[Value.slice na ns.length ncap, Value.int .i64 q] w (Ret w (.bool true)) := by
  refine calls_W (M := []) (LL := []) (n := 60) Tryd.func6 rfl rfl (by simp) (Mem.refl _) ?_
  refine W.seq (fun K1 hK1 => ?_)
  refine W.region ?_
  refine Wl.run 1 (by kernel_rfl) ?_
  refine Wl.nil ?_
  refine hK1 _ _ _ ?_
  refine W.seq (fun K2 hK2 => ?_)
  refine W.seq (fun K3 hK3 => ?_)
  refine W.region ?_
  refine Wl.yc (v := Value.bool true) rfl rfl (Yc.call (k := 10) (args := #[]) (fun _ => by kernel_rfl) (fun w_ hm_ => speaks7_c _ (htab.mem0 hm_))) ?_
  refine Wl.run 1 (by kernel_rfl) ?_
  refine Wl.nil ?_
  refine hK3 _ _ _ ?_
  refine W.prune' [0, 1, 12] [Value.slice na ns.length ncap, Value.int .i64 q, Value.bool false] (by kernel_rfl) (fun f4 => ?_)
  refine W.condF (by kernel_rfl) ?_
  refine W.skip' ?_
  refine hK2 _ _ _ ?_
  refine W.prune' [0, 1] [Value.slice na ns.length ncap, Value.int .i64 q] (by kernel_rfl) (fun f5 => ?_)
  refine W.seq (fun K6 hK6 => ?_)
  refine W.seq (fun K7 hK7 => ?_)
  refine W.region ?_
  refine Wl.run 3 (by kernel_rfl) ?_
  refine Wl.nil ?_
  refine hK7 _ _ _ ?_
  refine W.prune' [0, 1, 15] [Value.slice na ns.length ncap, Value.int .i64 q, Value.bool (decide (((ns.length : Nat) : Int) > 200))] (by kernel_rfl) (fun f8 => ?_)
  refine W.cond (decide (((ns.length : Nat) : Int) > 200)) (by kernel_rfl) (fun h9 => ?_) (fun h10 => ?_)
  · have qh9 := h9; try simp only [Bool.and_eq_true, Bool.or_eq_true, Bool.not_eq_true', Bool.not_eq_false', Bool.and_eq_false_iff, Bool.or_eq_false_iff, decide_eq_true_eq, decide_eq_false_iff_not, beq_iff_eq, bne_iff_ne, beq_eq_false_iff_ne, bne_eq_false_iff_eq] at qh9
    refine W.seq (fun K11 hK11 => ?_)
    refine W.region ?_
    refine Wl.run 1 (by kernel_rfl) ?_
    refine Wl.nil ?_
    refine hK11 _ _ _ ?_
    refine W.ret ?_
    show ∀ w_, _ → bodyPostM (fence none) 0 Tryd.prog Tryd.f6 _ Exit.ret _ w_
    exact fun w_ hS_ => fin_ret (ret1 rfl (RV.tmp (v := Value.bool true) (by kernel_rfl)) hS_ ⟨rfl, hS_.below⟩)
  · have qh10 := h10; try simp only [Bool.and_eq_true, Bool.or_eq_true, Bool.not_eq_true', Bool.not_eq_false', Bool.and_eq_false_iff, Bool.or_eq_false_iff, decide_eq_true_eq, decide_eq_false_iff_not, beq_iff_eq, bne_iff_ne, beq_eq_false_iff_ne, bne_eq_false_iff_eq] at qh10
    refine W.skip' ?_
    refine hK6 _ _ _ ?_
    refine W.prune' [0, 1] [Value.slice na ns.length ncap, Value.int .i64 q] (by kernel_rfl) (fun f12 => ?_)
    refine W.seq (fun K13 hK13 => ?_)
    refine W.region ?_
    refine Wl.htS rfl (HtS.call (β := Nat) (k := 11) (args := #[]) (Lin := []) (Lk := []) (Mi := []) (Lo := fun pb14 => [[cb pb14 (psC (fun _ => false) 0) 74]]) [] [] rfl (fun _ => by kernel_rfl) (by decide) rfl rfl rfl (fun w_ hm_ hl_ => (new_c _)) (fun _ => rfl)) (fun pb14 _ => ?_)
    refine Wl.run 1 (by kernel_rfl) ?_
    refine Wl.nil ?_
    refine hK13 _ _ _ ?_
    refine W.prune' [0, 1, 5] [Value.slice na ns.length ncap, Value.int .i64 q, Value.pointer (some ⟨pb14, 0, none⟩)] (by kernel_rfl) (fun f16 => ?_)
    refine W.seq (fun K17 hK17 => ?_)
    refine W.seq (fun K18 hK18 => ?_)
    refine W.region ?_
    refine Wl.run 2 (by kernel_rfl) ?_
    refine Wl.nil ?_
    refine hK18 _ _ _ ?_
    refine W.prune' [0, 1, 5, 18] [Value.slice na ns.length ncap, Value.int .i64 q, Value.pointer (some ⟨pb14, 0, none⟩), Value.bool false] (by kernel_rfl) (fun f19 => ?_)
    refine W.condF (by kernel_rfl) ?_
    refine W.skip' ?_
    refine hK17 _ _ _ ?_
    refine W.prune' [0, 1, 5] [Value.slice na ns.length ncap, Value.int .i64 q, Value.pointer (some ⟨pb14, 0, none⟩)] (by kernel_rfl) (fun f20 => ?_)
    refine W.seq (fun K21 hK21 => ?_)
    refine W.seq (fun K22 hK22 => ?_)
    refine W.region ?_
    refine Wl.run 3 (by kernel_rfl) ?_
    refine Wl.nil ?_
    refine hK22 _ _ _ ?_
    refine W.prune' [1, 5, 19, 20, 21] [Value.int .i64 q, Value.pointer (some ⟨pb14, 0, none⟩), Value.slice na ns.length ncap, Value.int .i64 ((ns.length : Nat) : Int), Value.int .i64 0] (by kernel_rfl) (fun f23 => ?_)
    refine W.block ?_
    refine W.loop3 [1, 5, 19, 20, 21] (fun (k : Nat) (T : Nat → Bool) (c : Nat) => [Value.int .i64 q, Value.pointer (some ⟨pb14, 0, none⟩), Value.slice na ns.length ncap, Value.int .i64 ((ns.length : Nat) : Int), Value.int .i64 ((k : Nat) : Int)]) (fun (k : Nat) (T : Nat → Bool) (c : Nat) => k ≤ ns.length ∧ c ≤ k ∧ cn T 65536 = c ∧ (∀ q, q < 1024 → T q = false)) (fun (k : Nat) (T : Nat → Bool) (c : Nat) => [[cb pb14 (psC T ((c : Nat) : Int)) 74]]) (fun (k : Nat) (T : Nat → Bool) (c : Nat) => ns.length - k) 0 (fun _ => false) 0 (by kernel_rfl) ⟨(Nat.zero_le _), (Nat.le_refl _), (cn_zero 65536), (fun _ _ => rfl)⟩ (by rfl) (fun k T c f25 J24 hp26 hJ24 => ?_)
    obtain ⟨hk, hc, hcn, hlo⟩ := hp26
    have hql_ := getD_lt7 hnb k
    refine W.seq (fun K27 hK27 => ?_)
    refine W.region ?_
    refine Wl.run 1 (by kernel_rfl) ?_
    refine Wl.nil ?_
    refine hK27 _ _ _ ?_
    refine W.seq (fun K28 hK28 => ?_)
    refine W.cond (decide (((k : Nat) : Int) < ((ns.length : Nat) : Int))) (by kernel_rfl) (fun h29 => ?_) (fun h30 => ?_)
    · have qh29 := h29; try simp only [Bool.and_eq_true, Bool.or_eq_true, Bool.not_eq_true', Bool.not_eq_false', Bool.and_eq_false_iff, Bool.or_eq_false_iff, decide_eq_true_eq, decide_eq_false_iff_not, beq_iff_eq, bne_iff_ne, beq_eq_false_iff_ne, bne_eq_false_iff_eq] at qh29
      refine W.skip' ?_
      refine hK28 _ _ _ ?_
      refine W.prune' [1, 5, 19, 20, 21] [Value.int .i64 q, Value.pointer (some ⟨pb14, 0, none⟩), Value.slice na ns.length ncap, Value.int .i64 ((ns.length : Nat) : Int), Value.int .i64 ((k : Nat) : Int)] (by kernel_rfl) (fun f31 => ?_)
      refine W.seq (fun K32 hK32 => ?_)
      refine W.block ?_
      refine W.seq (fun K33 hK33 => ?_)
      refine W.region ?_
      refine Wl.ys (v := Value.pointer (some (ela na (k * 1)))) rfl rfl (Ys.byMem fun w_ h_ => Ys.indexAddr (k := .i64) (a := na) (len := ns.length) (cap := ncap) (i := ((k : Nat) : Int)) (sz := 1) rfl (by kernel_rfl) (by kernel_rfl) Tryd.runUnderlying33 Tryd.sizeOf23 (by omega) (by omega) ((hns.mem0 h_).here (by rw [mc_len]; first | omega | (simp; omega)))) ?_
      refine Wl.ys (v := Value.int .u16 ((ns.getD k 0 : Nat) : Int)) rfl rfl (Ys.ld (a := ela na (k * 1)) rfl (by kernel_rfl) Tryd.isAgg23 (fun w_ h_ => (hns.mem0 h_).ld (mc_get1 0 (by first | omega | (simp; omega))))) ?_
      refine Wl.run 1 (by kernel_rfl) ?_
      refine Wl.nil ?_
      refine hK33 _ _ _ ?_
      refine W.prune' [1, 5, 7, 19, 20, 21] [Value.int .i64 q, Value.pointer (some ⟨pb14, 0, none⟩), Value.int .u16 ((ns.getD k 0 : Nat) : Int), Value.slice na ns.length ncap, Value.int .i64 ((ns.length : Nat) : Int), Value.int .i64 ((k : Nat) : Int)] (by kernel_rfl) (fun f34 => ?_)
      refine W.region ?_
      refine Wl.run 2 (by kernel_rfl) ?_
      have hN37 := tkN_bd T (ns.getD k 0) ((c : Nat) : Int)
      refine Wl.htS rfl (HtS.call (β := Unit) (k := 15) (args := #[Value.pointer (some ⟨pb14, 0, none⟩), Value.int .u16 ((ns.getD k 0 : Nat) : Int)]) (Lin := [[cb pb14 (psC T ((c : Nat) : Int)) 74]]) (Lk := []) (Mi := [pb14]) (Lo := fun u35 => [[cb pb14 (psC (tkT T (ns.getD k 0)) (tkN T (ns.getD k 0) ((c : Nat) : Int))) 74]]) [0] [] rfl (fun _ => by kernel_rfl) (by decide) rfl rfl rfl (fun w_ hm_ hl_ => (take_c T ((c : Nat) : Int) pb14 (ns.getD k 0) _ hl_ (by omega) (by omega) (by omega))) (fun _ => rfl)) (fun u35 _ => ?_)
      refine Wl.nil ?_
      refine hK32 _ _ _ ?_
      refine W.prune' [1, 5, 19, 20, 21] [Value.int .i64 q, Value.pointer (some ⟨pb14, 0, none⟩), Value.slice na ns.length ncap, Value.int .i64 ((ns.length : Nat) : Int), Value.int .i64 ((k : Nat) : Int)] (by kernel_rfl) (fun f38 => ?_)
      refine W.region ?_
      refine Wl.ys (v := Value.int .i64 ((k + 1 : Nat) : Int)) rfl rfl ((Ys.pure (v := .int .i64 (iadd .i64 ((k : Nat) : Int) 1)) (fun _ => by kernel_rfl)).conseq (int_congr (iadd_eq (by omega) (by omega) (by omega)))) ?_
      refine Wl.run 1 (by kernel_rfl) ?_
      refine Wl.nil ?_
      refine fun w_ h_ => hJ24 (k + 1) (tkT T (ns.getD k 0)) (c + (bif tkB T (ns.getD k 0) then 1 else 0)) _ w_ (by omega) ⟨(by omega), (by cases tkB T (ns.getD k 0) <;> simp only [cond_true, cond_false] <;> omega), (by rw [cn_tk (getD_lt7 hnb k) rfl, hcn]), (fun q hq => by rw [tk_at, hlo q hq, decide_eq_true hq]; simp)⟩ ?_ (Mem.cast (LL := [[cb pb14 (psC (tkT T (ns.getD k 0)) (tkN T (ns.getD k 0) ((c : Nat) : Int))) 74]]) (by rw [show tkN T (ns.getD k 0) ((c : Nat) : Int) = ((c + (bif tkB T (ns.getD k 0) then 1 else 0) : Nat) : Int) from tkN_nat]) h_)
      kernel_rfl
    · have qh30 := h30; try simp only [Bool.and_eq_true, Bool.or_eq_true, Bool.not_eq_true', Bool.not_eq_false', Bool.and_eq_false_iff, Bool.or_eq_false_iff, decide_eq_true_eq, decide_eq_false_iff_not, beq_iff_eq, bne_iff_ne, beq_eq_false_iff_ne, bne_eq_false_iff_eq] at qh30
      refine W.exit ?_
      refine hK21 _ _ _ ?_
      refine W.prune' [1, 5] [Value.int .i64 q, Value.pointer (some ⟨pb14, 0, none⟩)] (by kernel_rfl) (fun f39 => ?_)
      refine W.seq (fun K40 hK40 => ?_)
      refine W.region ?_
      refine Wl.run 2 (by kernel_rfl) ?_
      refine Wl.htS rfl (HtS.call (β := FS) (k := 21) (args := #[Value.pointer (some ⟨pb14, 0, none⟩), Value.int .i64 q]) (Lin := [[cb pb14 (psC T ((c : Nat) : Int)) 74]]) (Lk := []) (Mi := [pb14]) (Lo := fun g41 => [g41.seg 3 (mc (Value.int .i64) (ci (lst T q))), [cb pb14 (psC T ((c : Nat) : Int)) 74]]) [0] [] rfl (fun _ => by kernel_rfl) (by decide) rfl rfl rfl (fun w_ hm_ hl_ => (listed_c T ((c : Nat) : Int) q pb14 _ hl_ (htab.mem0 hm_))) (fun _ => rfl)) (fun g41 ok42 => ?_)
      refine Wl.run 1 (by kernel_rfl) ?_
      refine Wl.nil ?_
      refine hK40 _ _ _ ?_
      refine W.prune' [1, 5, 8] [Value.int .i64 q, Value.pointer (some ⟨pb14, 0, none⟩), Value.slice g41.a ((ci (lst T q)).length) g41.cap] (by kernel_rfl) (fun f44 => ?_)
      refine W.seq (fun K45 hK45 => ?_)
      refine W.region ?_
      refine Wl.run 1 (by kernel_rfl) ?_
      refine Wl.yc (v := Value.int .i64 ((c : Nat) : Int)) rfl rfl (Yc.call (k := 13) (args := #[Value.pointer (some ⟨pb14, 0, none⟩)]) (fun _ => by kernel_rfl) (fun w_ hm_ => len_c T ((c : Nat) : Int) pb14 _ (At.lit0 (i := 1) (j := 0) (t := 74) (b := pb14) hm_ rfl rfl))) ?_
      refine Wl.run 4 (by kernel_rfl) ?_
      have hm46 := imin_bd ((c : Nat) : Int) q
      have hm47 := imax_bd (imin ((c : Nat) : Int) q) 1
      refine Wl.nil ?_
      refine hK45 _ _ _ ?_
      refine W.prune' [5, 8, 9] [Value.pointer (some ⟨pb14, 0, none⟩), Value.slice g41.a ((ci (lst T q)).length) g41.cap, Value.int .i64 (imax (imin ((c : Nat) : Int) q) 1)] (by kernel_rfl) (fun f48 => ?_)
      refine W.seq (fun K49 hK49 => ?_)
      refine W.seq (fun K50 hK50 => ?_)
      refine W.region ?_
      refine Wl.run 1 (by kernel_rfl) ?_
      refine Wl.yc (v := Value.int .i64 ((c : Nat) : Int)) rfl rfl (Yc.call (k := 13) (args := #[Value.pointer (some ⟨pb14, 0, none⟩)]) (fun _ => by kernel_rfl) (fun w_ hm_ => len_c T ((c : Nat) : Int) pb14 _ (At.lit0 (i := 1) (j := 0) (t := 74) (b := pb14) hm_ rfl rfl))) ?_
      refine Wl.run 1 (by kernel_rfl) ?_
      refine Wl.nil ?_
      refine hK50 _ _ _ ?_
      refine W.pick (LL' := [g41.seg 3 (mc (Value.int .i64) (ci (lst T q)))]) [0] (by decide) rfl ?_
      refine W.prune' [8, 9, 39] [Value.slice g41.a ((ci (lst T q)).length) g41.cap, Value.int .i64 (imax (imin ((c : Nat) : Int) q) 1), Value.bool (((c : Nat) : Int) == 0)] (by kernel_rfl) (fun f51 => ?_)
      refine W.cond (((c : Nat) : Int) == 0) (by kernel_rfl) (fun h52 => ?_) (fun h53 => ?_)
      · have qh52 := h52; try simp only [Bool.and_eq_true, Bool.or_eq_true, Bool.not_eq_true', Bool.not_eq_false', Bool.and_eq_false_iff, Bool.or_eq_false_iff, decide_eq_true_eq, decide_eq_false_iff_not, beq_iff_eq, bne_iff_ne, beq_eq_false_iff_ne, bne_eq_false_iff_eq] at qh52
        refine W.region ?_
        refine Wl.run 1 (by kernel_rfl) ?_
        refine Wl.nil ?_
        refine hK49 _ _ _ ?_
        refine W.prune' [8, 9] [Value.slice g41.a ((ci (lst T q)).length) g41.cap, Value.int .i64 0] (by kernel_rfl) (fun f54 => ?_)
        refine W.seq (fun K55 hK55 => ?_)
        refine W.seq (fun K56 hK56 => ?_)
        have hll_ : (ci (lst T q)).length ≤ 100000 := by have z_ := ci_lst_len (T := T) (q := q) rfl hcn; have y_ := Nat.min_le_right (mxN q) c; omega
        refine W.region ?_
        refine Wl.run 1 (by kernel_rfl) ?_
        refine Wl.nil ?_
        refine hK56 _ _ _ ?_
        refine W.block ?_
        refine W.loop1 [8, 9, 10] (fun (j : Nat) => [Value.slice g41.a ((ci (lst T q)).length) g41.cap, Value.int .i64 0, Value.int .i64 ((j : Nat) : Int)]) (fun (j : Nat) => 1 ≤ j) (fun (j : Nat) => [g41.seg 3 (mc (Value.int .i64) (ci (lst T q)))]) (fun (j : Nat) => (ci (lst T q)).length - j) 1 (by kernel_rfl) (Nat.le_refl _) (by rfl) (fun j f58 J57 hp59 hJ57 => ?_)
        have hj := hp59
        refine W.seq (fun K60 hK60 => ?_)
        refine W.seq (fun K61 hK61 => ?_)
        refine W.region ?_
        refine Wl.run 4 (by kernel_rfl) ?_
        refine Wl.nil ?_
        refine hK61 _ _ _ ?_
        refine W.prune' [8, 9, 10, 43] [Value.slice g41.a ((ci (lst T q)).length) g41.cap, Value.int .i64 0, Value.int .i64 ((j : Nat) : Int), Value.bool (decide (((j : Nat) : Int) < (((ci (lst T q)).length : Nat) : Int)))] (by kernel_rfl) (fun f62 => ?_)
        refine W.cond (decide (((j : Nat) : Int) < (((ci (lst T q)).length : Nat) : Int))) (by kernel_rfl) (fun h63 => ?_) (fun h64 => ?_)
        · have qh63 := h63; try simp only [Bool.and_eq_true, Bool.or_eq_true, Bool.not_eq_true', Bool.not_eq_false', Bool.and_eq_false_iff, Bool.or_eq_false_iff, decide_eq_true_eq, decide_eq_false_iff_not, beq_iff_eq, bne_iff_ne, beq_eq_false_iff_ne, bne_eq_false_iff_eq] at qh63
          refine W.skip' ?_
          refine hK60 _ _ _ ?_
          refine W.prune' [8, 9, 10] [Value.slice g41.a ((ci (lst T q)).length) g41.cap, Value.int .i64 0, Value.int .i64 ((j : Nat) : Int)] (by kernel_rfl) (fun f65 => ?_)
          refine W.seq (fun K66 hK66 => ?_)
          refine W.block ?_
          refine W.seq (fun K67 hK67 => ?_)
          refine W.draws [(0, true), (1, true), (2, true), (3, true), (4, true), (5, false), (6, false), (7, false), (8, false), (9, false)] [0, 1, 2, 3, 4] (Mem w [] [g41.seg 3 (mc (Value.int .i64) (ci (lst T q)))]) (by kernel_rfl) (by kernel_rfl) (by kernel_rfl) rfl (by kernel_rfl) (fun _ _ h_ => h_.drawn _) (fun _ h_ => h_) ?_
          refine Wd.run 2 (by kernel_rfl) ?_
          refine Wd.ys (v := Value.pointer (some (ela g41.a (j * 1)))) rfl rfl rfl (Ys.indexAddr (k := .i64) (a := g41.a) (len := (ci (lst T q)).length) (cap := g41.cap) (i := ((j : Nat) : Int)) (sz := 1) rfl (by kernel_rfl) (by kernel_rfl) Tryd.runUnderlying50 Tryd.sizeOf3 (by omega) (by omega) (by rw [FS.a_own (FS.notnil ok42 (by omega))]; rfl)) ?_
          refine Wd.ys (v := Value.int .i64 ((ci (lst T q)).getD j 0)) rfl rfl rfl (Ys.ld (a := ela g41.a (j * 1)) rfl (by kernel_rfl) Tryd.isAgg3 (fun w_ h_ => (FS.at (i := 0) (t := 3) h_ rfl (FS.nil_cs ok42 (mc_len1 _))).ld (mc_get1 0 (by first | omega | (simp; omega))))) ?_
          refine Wd.run 1 (by kernel_rfl) ?_
          refine Wd.yc (v := Value.int .i64 ((j : Nat) : Int)) rfl rfl rfl (Ys.yc (Ys.pure (fun _ => by kernel_rfl))) (.inr fun _ h_ => h_) ?_
          refine Wd.yc (v := Value.int .i64 (((j : Nat) : Int) - 1)) rfl rfl rfl (Ys.yc ((Ys.pure (v := .int .i64 (isub .i64 ((j : Nat) : Int) 1)) (fun _ => by kernel_rfl)).conseq (int_congr (isub_eq rfl (by omega) (by omega))))) (.inr fun _ h_ => h_) ?_
          refine Wd.yc (v := Value.pointer (some (ela g41.a (((((j : Nat) : Int) - 1).toNat) * 1)))) rfl rfl rfl (Ys.yc (Ys.indexAddr (k := .i64) (a := g41.a) (len := (ci (lst T q)).length) (cap := g41.cap) (i := ((j : Nat) : Int) - 1) (sz := 1) rfl (by kernel_rfl) (by kernel_rfl) Tryd.runUnderlying50 Tryd.sizeOf3 (by omega) (by omega) (by rw [FS.a_own (FS.notnil ok42 (by omega))]; rfl))) (.inr fun _ h_ => h_) ?_
          refine Wd.yc (v := Value.int .i64 ((ci (lst T q)).getD ((((j : Nat) : Int) - 1).toNat) 0)) rfl rfl rfl (Ys.yc (Ys.ld (a := ela g41.a (((((j : Nat) : Int) - 1).toNat) * 1)) rfl (by kernel_rfl) Tryd.isAgg3 (fun w_ h_ => (FS.at (i := 0) (t := 3) h_ rfl (FS.nil_cs ok42 (mc_len1 _))).ld (mc_get1 0 (by first | omega | (simp; omega)))))) (.inr fun _ h_ => h_) ?_
          refine Wd.yc (v := Value.bool (decide (((ci (lst T q)).getD j 0) ≤ ((ci (lst T q)).getD ((((j : Nat) : Int) - 1).toNat) 0)))) rfl rfl rfl (Ys.yc (Ys.pure (fun _ => by kernel_rfl))) (.inr fun _ h_ => h_) ?_
          refine Wd.nil ?_
          refine hK67 _ _ _ ?_
          refine W.prune' [8, 9, 10, 55] [Value.slice g41.a ((ci (lst T q)).length) g41.cap, Value.int .i64 0, Value.int .i64 ((j : Nat) : Int), Value.bool (decide (((ci (lst T q)).getD j 0) ≤ ((ci (lst T q)).getD ((((j : Nat) : Int) - 1).toNat) 0)))] (by kernel_rfl) (fun f68 => ?_)
          refine W.cond (decide (((ci (lst T q)).getD j 0) ≤ ((ci (lst T q)).getD ((((j : Nat) : Int) - 1).toNat) 0))) (by kernel_rfl) (fun h69 => ?_) (fun h70 => ?_)
          · have qh69 := h69; try simp only [Bool.and_eq_true, Bool.or_eq_true, Bool.not_eq_true', Bool.not_eq_false', Bool.and_eq_false_iff, Bool.or_eq_false_iff, decide_eq_true_eq, decide_eq_false_iff_not, beq_iff_eq, bne_iff_ne, beq_eq_false_iff_ne, bne_eq_false_iff_eq] at qh69
            (exfalso; have z_ := ci_rise (lst_inc T q) hj (by omega); have y_ := of_decide_eq_true h69; omega)
          · have qh70 := h70; try simp only [Bool.and_eq_true, Bool.or_eq_true, Bool.not_eq_true', Bool.not_eq_false', Bool.and_eq_false_iff, Bool.or_eq_false_iff, decide_eq_true_eq, decide_eq_false_iff_not, beq_iff_eq, bne_iff_ne, beq_eq_false_iff_ne, bne_eq_false_iff_eq] at qh70
            refine W.skip' ?_
            refine hK66 _ _ _ ?_
            refine W.prune' [8, 9, 10] [Value.slice g41.a ((ci (lst T q)).length) g41.cap, Value.int .i64 0, Value.int .i64 ((j : Nat) : Int)] (by kernel_rfl) (fun f71 => ?_)
            refine W.region ?_
            refine Wl.run 1 (by kernel_rfl) ?_
            refine Wl.ys (v := Value.int .i64 ((j + 1 : Nat) : Int)) rfl rfl ((Ys.pure (v := .int .i64 (iadd .i64 ((j : Nat) : Int) 1)) (fun _ => by kernel_rfl)).conseq (int_congr (iadd_eq (by omega) (by omega) (by omega)))) ?_
            refine Wl.run 1 (by kernel_rfl) ?_
            refine Wl.nil ?_
            refine fun w_ h_ => hJ57 (j + 1) _ w_ (by omega) (by omega) ?_ h_
            kernel_rfl
        · have qh64 := h64; try simp only [Bool.and_eq_true, Bool.or_eq_true, Bool.not_eq_true', Bool.not_eq_false', Bool.and_eq_false_iff, Bool.or_eq_false_iff, decide_eq_true_eq, decide_eq_false_iff_not, beq_iff_eq, bne_iff_ne, beq_eq_false_iff_ne, bne_eq_false_iff_eq] at qh64
          refine W.exit ?_
          refine hK55 _ _ _ ?_
          refine W.prune' [8, 9] [Value.slice g41.a ((ci (lst T q)).length) g41.cap, Value.int .i64 0] (by kernel_rfl) (fun f72 => ?_)
          refine W.seq (fun K73 hK73 => ?_)
          refine W.region ?_
          refine Wl.run 5 (by kernel_rfl) ?_
          refine Wl.nil ?_
          refine hK73 _ _ _ ?_
          refine W.pick (LL' := []) [] (by decide) rfl ?_
          refine W.prune' [4] [Value.bool ((((ci (lst T q)).length : Nat) : Int) == 0)] (by kernel_rfl) (fun f74 => ?_)
          refine W.ret ?_
          show ∀ w_, _ → bodyPostM (fence none) 0 Tryd.prog Tryd.f6 _ Exit.ret _ w_
          exact fun w_ hS_ => fin_ret (ret1 rfl (RV.tmp (v := Value.bool ((((ci (lst T q)).length : Nat) : Int) == 0)) (by kernel_rfl)) hS_ ⟨by clear hK1 hK2 hK3 hK6 hK7 hK13 hK17 hK18 hK21 hK22 hJ24 hK27 hK28 hK40 hK45 hK49 hK50 hK55 hK56 hJ57 hK60 hK61 hK73; refine congrArg Ending.returned ?_; exact bool_congr (by rw [ci_lst_len rfl hcn, show c = 0 by omega, Nat.min_zero]; rfl), hS_.below⟩)
      · have qh53 := h53; try simp only [Bool.and_eq_true, Bool.or_eq_true, Bool.not_eq_true', Bool.not_eq_false', Bool.and_eq_false_iff, Bool.or_eq_false_iff, decide_eq_true_eq, decide_eq_false_iff_not, beq_iff_eq, bne_iff_ne, beq_eq_false_iff_ne, bne_eq_false_iff_eq] at qh53
        refine W.skip' ?_
        refine hK49 _ _ _ ?_
        refine W.prune' [8, 9] [Value.slice g41.a ((ci (lst T q)).length) g41.cap, Value.int .i64 (imax (imin ((c : Nat) : Int) q) 1)] (by kernel_rfl) (fun f75 => ?_)
        refine W.seq (fun K76 hK76 => ?_)
        refine W.seq (fun K77 hK77 => ?_)
        have hll_ : (ci (lst T q)).length ≤ 100000 := by have z_ := ci_lst_len (T := T) (q := q) rfl hcn; have y_ := Nat.min_le_right (mxN q) c; omega
        refine W.region ?_
        refine Wl.run 1 (by kernel_rfl) ?_
        refine Wl.nil ?_
        refine hK77 _ _ _ ?_
        refine W.block ?_
        refine W.loop1 [8, 9, 10] (fun (j : Nat) => [Value.slice g41.a ((ci (lst T q)).length) g41.cap, Value.int .i64 (imax (imin ((c : Nat) : Int) q) 1), Value.int .i64 ((j : Nat) : Int)]) (fun (j : Nat) => 1 ≤ j) (fun (j : Nat) => [g41.seg 3 (mc (Value.int .i64) (ci (lst T q)))]) (fun (j : Nat) => (ci (lst T q)).length - j) 1 (by kernel_rfl) (Nat.le_refl _) (by rfl) (fun j f79 J78 hp80 hJ78 => ?_)
        have hj := hp80
        refine W.seq (fun K81 hK81 => ?_)
        refine W.seq (fun K82 hK82 => ?_)
        refine W.region ?_
        refine Wl.run 4 (by kernel_rfl) ?_
        refine Wl.nil ?_
        refine hK82 _ _ _ ?_
        refine W.prune' [8, 9, 10, 43] [Value.slice g41.a ((ci (lst T q)).length) g41.cap, Value.int .i64 (imax (imin ((c : Nat) : Int) q) 1), Value.int .i64 ((j : Nat) : Int), Value.bool (decide (((j : Nat) : Int) < (((ci (lst T q)).length : Nat) : Int)))] (by kernel_rfl) (fun f83 => ?_)
        refine W.cond (decide (((j : Nat) : Int) < (((ci (lst T q)).length : Nat) : Int))) (by kernel_rfl) (fun h84 => ?_) (fun h85 => ?_)
        · have qh84 := h84; try simp only [Bool.and_eq_true, Bool.or_eq_true, Bool.not_eq_true', Bool.not_eq_false', Bool.and_eq_false_iff, Bool.or_eq_false_iff, decide_eq_true_eq, decide_eq_false_iff_not, beq_iff_eq, bne_iff_ne, beq_eq_false_iff_ne, bne_eq_false_iff_eq] at qh84
          refine W.skip' ?_
          refine hK81 _ _ _ ?_
          refine W.prune' [8, 9, 10] [Value.slice g41.a ((ci (lst T q)).length) g41.cap, Value.int .i64 (imax (imin ((c : Nat) : Int) q) 1), Value.int .i64 ((j : Nat) : Int)] (by kernel_rfl) (fun f86 => ?_)
          refine W.seq (fun K87 hK87 => ?_)
          refine W.block ?_
          refine W.seq (fun K88 hK88 => ?_)
          refine W.draws [(0, true), (1, true), (2, true), (3, true), (4, true), (5, false), (6, false), (7, false), (8, false), (9, false)] [0, 1, 2, 3, 4] (Mem w [] [g41.seg 3 (mc (Value.int .i64) (ci (lst T q)))]) (by kernel_rfl) (by kernel_rfl) (by kernel_rfl) rfl (by kernel_rfl) (fun _ _ h_ => h_.drawn _) (fun _ h_ => h_) ?_
          refine Wd.run 2 (by kernel_rfl) ?_
          refine Wd.ys (v := Value.pointer (some (ela g41.a (j * 1)))) rfl rfl rfl (Ys.indexAddr (k := .i64) (a := g41.a) (len := (ci (lst T q)).length) (cap := g41.cap) (i := ((j : Nat) : Int)) (sz := 1) rfl (by kernel_rfl) (by kernel_rfl) Tryd.runUnderlying50 Tryd.sizeOf3 (by omega) (by omega) (by rw [FS.a_own (FS.notnil ok42 (by omega))]; rfl)) ?_
          refine Wd.ys (v := Value.int .i64 ((ci (lst T q)).getD j 0)) rfl rfl rfl (Ys.ld (a := ela g41.a (j * 1)) rfl (by kernel_rfl) Tryd.isAgg3 (fun w_ h_ => (FS.at (i := 0) (t := 3) h_ rfl (FS.nil_cs ok42 (mc_len1 _))).ld (mc_get1 0 (by first | omega | (simp; omega))))) ?_
          refine Wd.run 1 (by kernel_rfl) ?_
          refine Wd.yc (v := Value.int .i64 ((j : Nat) : Int)) rfl rfl rfl (Ys.yc (Ys.pure (fun _ => by kernel_rfl))) (.inr fun _ h_ => h_) ?_
          refine Wd.yc (v := Value.int .i64 (((j : Nat) : Int) - 1)) rfl rfl rfl (Ys.yc ((Ys.pure (v := .int .i64 (isub .i64 ((j : Nat) : Int) 1)) (fun _ => by kernel_rfl)).conseq (int_congr (isub_eq rfl (by omega) (by omega))))) (.inr fun _ h_ => h_) ?_
          refine Wd.yc (v := Value.pointer (some (ela g41.a (((((j : Nat) : Int) - 1).toNat) * 1)))) rfl rfl rfl (Ys.yc (Ys.indexAddr (k := .i64) (a := g41.a) (len := (ci (lst T q)).length) (cap := g41.cap) (i := ((j : Nat) : Int) - 1) (sz := 1) rfl (by kernel_rfl) (by kernel_rfl) Tryd.runUnderlying50 Tryd.sizeOf3 (by omega) (by omega) (by rw [FS.a_own (FS.notnil ok42 (by omega))]; rfl))) (.inr fun _ h_ => h_) ?_
          refine Wd.yc (v := Value.int .i64 ((ci (lst T q)).getD ((((j : Nat) : Int) - 1).toNat) 0)) rfl rfl rfl (Ys.yc (Ys.ld (a := ela g41.a (((((j : Nat) : Int) - 1).toNat) * 1)) rfl (by kernel_rfl) Tryd.isAgg3 (fun w_ h_ => (FS.at (i := 0) (t := 3) h_ rfl (FS.nil_cs ok42 (mc_len1 _))).ld (mc_get1 0 (by first | omega | (simp; omega)))))) (.inr fun _ h_ => h_) ?_
          refine Wd.yc (v := Value.bool (decide (((ci (lst T q)).getD j 0) ≤ ((ci (lst T q)).getD ((((j : Nat) : Int) - 1).toNat) 0)))) rfl rfl rfl (Ys.yc (Ys.pure (fun _ => by kernel_rfl))) (.inr fun _ h_ => h_) ?_
          refine Wd.nil ?_
          refine hK88 _ _ _ ?_
          refine W.prune' [8, 9, 10, 55] [Value.slice g41.a ((ci (lst T q)).length) g41.cap, Value.int .i64 (imax (imin ((c : Nat) : Int) q) 1), Value.int .i64 ((j : Nat) : Int), Value.bool (decide (((ci (lst T q)).getD j 0) ≤ ((ci (lst T q)).getD ((((j : Nat) : Int) - 1).toNat) 0)))] (by kernel_rfl) (fun f89 => ?_)
          refine W.cond (decide (((ci (lst T q)).getD j 0) ≤ ((ci (lst T q)).getD ((((j : Nat) : Int) - 1).toNat) 0))) (by kernel_rfl) (fun h90 => ?_) (fun h91 => ?_)
          · have qh90 := h90; try simp only [Bool.and_eq_true, Bool.or_eq_true, Bool.not_eq_true', Bool.not_eq_false', Bool.and_eq_false_iff, Bool.or_eq_false_iff, decide_eq_true_eq, decide_eq_false_iff_not, beq_iff_eq, bne_iff_ne, beq_eq_false_iff_ne, bne_eq_false_iff_eq] at qh90
            (exfalso; have z_ := ci_rise (lst_inc T q) hj (by omega); have y_ := of_decide_eq_true h90; omega)
          · have qh91 := h91; try simp only [Bool.and_eq_true, Bool.or_eq_true, Bool.not_eq_true', Bool.not_eq_false', Bool.and_eq_false_iff, Bool.or_eq_false_iff, decide_eq_true_eq, decide_eq_false_iff_not, beq_iff_eq, bne_iff_ne, beq_eq_false_iff_ne, bne_eq_false_iff_eq] at qh91
            refine W.skip' ?_
            refine hK87 _ _ _ ?_
            refine W.prune' [8, 9, 10] [Value.slice g41.a ((ci (lst T q)).length) g41.cap, Value.int .i64 (imax (imin ((c : Nat) : Int) q) 1), Value.int .i64 ((j : Nat) : Int)] (by kernel_rfl) (fun f92 => ?_)
            refine W.region ?_
            refine Wl.run 1 (by kernel_rfl) ?_
            refine Wl.ys (v := Value.int .i64 ((j + 1 : Nat) : Int)) rfl rfl ((Ys.pure (v := .int .i64 (iadd .i64 ((j : Nat) : Int) 1)) (fun _ => by kernel_rfl)).conseq (int_congr (iadd_eq (by omega) (by omega) (by omega)))) ?_
            refine Wl.run 1 (by kernel_rfl) ?_
            refine Wl.nil ?_
            refine fun w_ h_ => hJ78 (j + 1) _ w_ (by omega) (by omega) ?_ h_
            kernel_rfl
        · have qh85 := h85; try simp only [Bool.and_eq_true, Bool.or_eq_true, Bool.not_eq_true', Bool.not_eq_false', Bool.and_eq_false_iff, Bool.or_eq_false_iff, decide_eq_true_eq, decide_eq_false_iff_not, beq_iff_eq, bne_iff_ne, beq_eq_false_iff_ne, bne_eq_false_iff_eq] at qh85
          refine W.exit ?_
          refine hK76 _ _ _ ?_
          refine W.prune' [8, 9] [Value.slice g41.a ((ci (lst T q)).length) g41.cap, Value.int .i64 (imax (imin ((c : Nat) : Int) q) 1)] (by kernel_rfl) (fun f93 => ?_)
          refine W.seq (fun K94 hK94 => ?_)
          refine W.region ?_
          refine Wl.run 5 (by kernel_rfl) ?_
          refine Wl.nil ?_
          refine hK94 _ _ _ ?_
          refine W.pick (LL' := []) [] (by decide) rfl ?_
          refine W.prune' [4] [Value.bool ((((ci (lst T q)).length : Nat) : Int) == (imax (imin ((c : Nat) : Int) q) 1))] (by kernel_rfl) (fun f95 => ?_)
          refine W.ret ?_
          show ∀ w_, _ → bodyPostM (fence none) 0 Tryd.prog Tryd.f6 _ Exit.ret _ w_
          exact fun w_ hS_ => fin_ret (ret1 rfl (RV.tmp (v := Value.bool ((((ci (lst T q)).length : Nat) : Int) == (imax (imin ((c : Nat) : Int) q) 1))) (by kernel_rfl)) hS_ ⟨by clear hK1 hK2 hK3 hK6 hK7 hK13 hK17 hK18 hK21 hK22 hJ24 hK27 hK28 hK40 hK45 hK49 hK50 hK76 hK77 hJ78 hK81 hK82 hK94; refine congrArg Ending.returned ?_; exact bool_congr (by rw [ci_lst_len rfl hcn, stops_len (by omega)]; exact beq_self_eq_true _), hS_.below⟩)

end Go.Proofs.YtnhmajdpjapgjaaDoor.Oct
