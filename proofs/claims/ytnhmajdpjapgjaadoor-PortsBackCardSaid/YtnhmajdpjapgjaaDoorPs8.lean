/-
  PortsBack. No condition.
-/
import Derived.Test.YtnhmajdpjapgjaaDoorPs7
set_option linter.unusedVariables false
set_option linter.unusedSimpArgs false
set_option maxRecDepth 20000
namespace Go.Proofs.YtnhmajdpjapgjaaDoor.Oct
open Go.RowKit Base
attribute [local irreducible] Ys Yc Ht HtS HtIn Wl Wd W Mem pf dpf Wa Wo

/-- What is taken besides T is got. -/
structure BkR (T U : Nat → Bool) (got : List Nat) : Prop where
  all : ∀ q, U q = (T q || decide (q ∈ got))
  nd : got.Nodup
  new : ∀ x ∈ got, T x = false
  lt : ∀ x ∈ got, x < 65536
theorem bk_nil (T : Nat → Bool) : BkR T T [] := ⟨fun q => by simp, List.nodup_nil, fun x h => (by cases h), fun x h => (by cases h)⟩
theorem bk_add {T U : Nat → Bool} {got : List Nat} {p : Nat} (h : BkR T U got) (hp : U p = false) (hl : p < 65536) : BkR T (up U p true) (got ++ [p]) := by
  have h1 := h.all p
  rw [hp] at h1
  have h2 : T p = false ∧ p ∉ got := by
    have := h1.symm
    simp only [Bool.or_eq_false_iff, decide_eq_false_iff_not] at this; exact this
  refine ⟨fun q => ?_, ?_, fun x hx => ?_, fun x hx => ?_⟩
  · by_cases e : q = p
    · subst e; rw [up_same]; simp
    · rw [up_other _ _ e, h.all q]
      congr 1
      exact decide_eq_decide.2 (by simp [e])
  · rw [List.nodup_append]
    exact ⟨h.nd, by simp, fun a ha b hb e => by simp at hb; subst hb; subst e; exact h2.2 ha⟩
  · rcases List.mem_append.1 hx with hx | hx
    · exact h.new x hx
    · simp at hx; subst hx; exact h2.1
  · rcases List.mem_append.1 hx with hx | hx
    · exact h.lt x hx
    · simp at hx; subst hx; exact hl
theorem bk_cut {T U : Nat → Bool} {got : List Nat} {k : Nat} (hk : k < got.length) (h : BkR T U (got.drop k)) : U (got.getD k 0) = true ∧ BkR T (up U (got.getD k 0) false) (got.drop (k + 1)) ∧ got.getD k 0 < 65536 := by
  have e : got.drop k = got.getD k 0 :: got.drop (k + 1) := by
    rw [List.drop_eq_getElem_cons hk, List.getD_eq_getElem?_getD, List.getElem?_eq_getElem hk]; rfl
  generalize got.getD k 0 = p at *
  rw [e] at h
  have hm : p ∈ p :: got.drop (k + 1) := List.mem_cons_self ..
  have hnd := List.nodup_cons.1 h.nd
  have ht := h.new p hm
  refine ⟨by rw [h.all p, ht]; simp, ⟨fun q => ?_, hnd.2, fun x hx => h.new x (List.mem_cons_of_mem _ hx), fun x hx => h.lt x (List.mem_cons_of_mem _ hx)⟩, h.lt p hm⟩
  by_cases e2 : q = p
  · subst e2; rw [up_same, ht]; simp [hnd.1]
  · rw [up_other _ _ e2, h.all q]
    congr 1
    exact decide_eq_decide.2 (by simp [e2])
theorem bk_end {T U : Nat → Bool} (h : BkR T U []) : U = T := funext fun q => by rw [h.all q]; simp
theorem pk_next {T : Nat → Bool} {d c m : Nat} (hm : m = 65536) (hlo : ∀ q, q < 1024 → T q = false) (hcn : cn T m = c) (hc : c < 64512) : pk T d < 65536 ∧ pkV T d = pk T d ∧ T (pk T d) = false ∧ 1024 ≤ pk T d ∧ pkT T d = up T (pk T d) true ∧ pkN T d ((c : Nat) : Int) = ((c + 1 : Nat) : Int) := by
  subst hm
  have hlt := pk_free (d := d) hlo (by omega)
  refine ⟨hlt, if_pos hlt, (pk_le T d).2.2.1 hlt, (pk_le T d).2.1, ?_, ?_⟩
  · unfold pkT; rw [decide_eq_true hlt]; rfl
  · unfold pkN; rw [decide_eq_true hlt]; simp
theorem gv_yes {T : Nat → Bool} {p : Nat} {n : Int} (h : T p = true) : gvT T p = up T p false ∧ gvN T p n = n - 1 := by unfold gvT gvN; rw [h]; exact ⟨rfl, rfl⟩
theorem getD_b {xs : List Nat} {m : Nat} (h : ∀ x ∈ xs, x < m) (hm : 0 < m) (k : Nat) : xs.getD k 0 < m := by
  by_cases hk : k < xs.length
  · exact getD_mem7 h hk
  · rw [List.getD_eq_getElem?_getD, List.getElem?_eq_none (by omega)]; exact hm
theorem lst_bnd {T : Nat → Bool} {q : Int} : (ci (lst T q)).length ≤ 65536 := by
  rw [ci_len, lst_len]
  have h1 := plI_le T 65536
  have h2 := Nat.min_le_right (mxN q) (plI T 65536).length
  omega
theorem back_c (ns dr : List Nat) (na da : Option Addr) (ncap dcap : Nat) (w : World) (hns : At w na (mc n16 ns)) (hnl : ns.length ≤ 9223372036854775807) (hnc : ns.length ≤ ncap) (hnb : ∀ x ∈ ns, x < 65536) (hdr : At w da (mc n64 dr)) (hdl : dr.length ≤ 9223372036854775807) (hdc : dr.length ≤ dcap) (hdb : ∀ x ∈ dr, x < 18446744073709551616) (htab : At w (some ⟨1, 0, none⟩) (byc dbt)) : Calls Tryd.prog 7 #[Value.slice na ns.length ncap, Value.slice da dr.length dcap] w (Ret w (.bool true)) := by
  refine calls_W (M := []) (LL := []) (n := 107) Tryd.func7 rfl rfl (by simp) (Mem.refl _) ?_
  refine W.seq (fun K1 hK1 => ?_)
  refine W.region ?_
  refine Wl.run 1 (by kernel_rfl) ?_
  refine Wl.nil ?_
  refine hK1 _ _ _ ?_
  refine W.seq (fun K2 hK2 => ?_)
  refine W.seq (fun K3 hK3 => ?_)
  refine W.region ?_
  refine Wl.yc (v := Value.bool true) rfl rfl (Yc.call (k := 10) (args := #[]) (fun _ => by kernel_rfl) (fun w_ hm_ => speaks7_c _ (htab.mem0 hm_))) ?_
  refine Wl.run 1 (by kernel_rfl) ?_
  refine Wl.nil ?_
  refine hK3 _ _ _ ?_
  refine W.prune' [0, 1, 19] [Value.slice na ns.length ncap, Value.slice da dr.length dcap, Value.bool false] (by kernel_rfl) (fun f4 => ?_)
  refine W.condF (by kernel_rfl) ?_
  refine W.skip' ?_
  refine hK2 _ _ _ ?_
  refine W.prune' [0, 1] [Value.slice na ns.length ncap, Value.slice da dr.length dcap] (by kernel_rfl) (fun f5 => ?_)
  refine W.seq (fun K6 hK6 => ?_)
  refine W.seq (fun K7 hK7 => ?_)
  refine W.region ?_
  refine Wl.run 4 (by kernel_rfl) ?_
  refine Wl.guard (v := Value.slice da dr.length dcap) (!(decide (((ns.length : Nat) : Int) > 100))) rfl (wantF rfl (by kernel_rfl)) rfl (fun hg8 => ?_) ?_
  · have qhg8 := hg8; try simp only [Bool.and_eq_true, Bool.or_eq_true, Bool.not_eq_true', Bool.not_eq_false', Bool.and_eq_false_iff, Bool.or_eq_false_iff, decide_eq_true_eq, decide_eq_false_iff_not, beq_iff_eq, bne_iff_ne, beq_eq_false_iff_ne, bne_eq_false_iff_eq] at qhg8
    exact Ys.pure (fun _ => by kernel_rfl)
  refine Wl.guard (v := Value.int .i64 ((dr.length : Nat) : Int)) (!(decide (((ns.length : Nat) : Int) > 100))) rfl (wantF rfl (by kernel_rfl)) rfl (fun hg9 => ?_) ?_
  · have qhg9 := hg9; try simp only [Bool.and_eq_true, Bool.or_eq_true, Bool.not_eq_true', Bool.not_eq_false', Bool.and_eq_false_iff, Bool.or_eq_false_iff, decide_eq_true_eq, decide_eq_false_iff_not, beq_iff_eq, bne_iff_ne, beq_eq_false_iff_ne, bne_eq_false_iff_eq] at qhg9
    refine Ys.at (t := 24) (v0 := Value.slice da dr.length dcap) (lz (g := !(decide (((ns.length : Nat) : Int) > 100))) (u := undef) hg9 (by kernel_rfl)) ?_
    exact Ys.pure (fun _ => by kernel_rfl)
  refine Wl.guard (v := Value.bool (decide (((dr.length : Nat) : Int) > 100))) (!(decide (((ns.length : Nat) : Int) > 100))) rfl (wantF rfl (by kernel_rfl)) rfl (fun hg10 => ?_) ?_
  · have qhg10 := hg10; try simp only [Bool.and_eq_true, Bool.or_eq_true, Bool.not_eq_true', Bool.not_eq_false', Bool.and_eq_false_iff, Bool.or_eq_false_iff, decide_eq_true_eq, decide_eq_false_iff_not, beq_iff_eq, bne_iff_ne, beq_eq_false_iff_ne, bne_eq_false_iff_eq] at qhg10
    refine Ys.at (t := 25) (v0 := Value.int .i64 ((dr.length : Nat) : Int)) (lz (g := !(decide (((ns.length : Nat) : Int) > 100))) (u := undef) hg10 (by kernel_rfl)) ?_
    exact Ys.pure (fun _ => by kernel_rfl)
  refine Wl.ys (v := Value.bool ((decide (((ns.length : Nat) : Int) > 100)) || (decide (((dr.length : Nat) : Int) > 100)))) rfl rfl (Ys.or' (e := decide (((ns.length : Nat) : Int) > 100)) (b := decide (((dr.length : Nat) : Int) > 100)) rfl (by kernel_rfl) (by kernel_rfl) (by kernel_rfl)) ?_
  refine Wl.nil ?_
  refine hK7 _ _ _ ?_
  refine W.prune' [0, 1, 27] [Value.slice na ns.length ncap, Value.slice da dr.length dcap, Value.bool ((decide (((ns.length : Nat) : Int) > 100)) || (decide (((dr.length : Nat) : Int) > 100)))] (by kernel_rfl) (fun f11 => ?_)
  refine W.cond ((decide (((ns.length : Nat) : Int) > 100)) || (decide (((dr.length : Nat) : Int) > 100))) (by kernel_rfl) (fun h12 => ?_) (fun h13 => ?_)
  · have qh12 := h12; try simp only [Bool.and_eq_true, Bool.or_eq_true, Bool.not_eq_true', Bool.not_eq_false', Bool.and_eq_false_iff, Bool.or_eq_false_iff, decide_eq_true_eq, decide_eq_false_iff_not, beq_iff_eq, bne_iff_ne, beq_eq_false_iff_ne, bne_eq_false_iff_eq] at qh12
    refine W.seq (fun K14 hK14 => ?_)
    refine W.region ?_
    refine Wl.run 1 (by kernel_rfl) ?_
    refine Wl.nil ?_
    refine hK14 _ _ _ ?_
    refine W.ret ?_
    show ∀ w_, _ → bodyPostM (fence none) 0 Tryd.prog Tryd.f7 _ Exit.ret _ w_
    exact fun w_ hS_ => fin_ret (ret1 rfl (RV.tmp (v := Value.bool true) (by kernel_rfl)) hS_ ⟨rfl, hS_.below⟩)
  · have qh13 := h13; try simp only [Bool.and_eq_true, Bool.or_eq_true, Bool.not_eq_true', Bool.not_eq_false', Bool.and_eq_false_iff, Bool.or_eq_false_iff, decide_eq_true_eq, decide_eq_false_iff_not, beq_iff_eq, bne_iff_ne, beq_eq_false_iff_ne, bne_eq_false_iff_eq] at qh13
    refine W.skip' ?_
    refine hK6 _ _ _ ?_
    refine W.prune' [0, 1] [Value.slice na ns.length ncap, Value.slice da dr.length dcap] (by kernel_rfl) (fun f15 => ?_)
    refine W.seq (fun K16 hK16 => ?_)
    refine W.region ?_
    refine Wl.htS rfl (HtS.call (β := Nat) (k := 11) (args := #[]) (Lin := []) (Lk := []) (Mi := []) (Lo := fun pb17 => [[cb pb17 (psC (fun _ => false) 0) 74]]) [] [] rfl (fun _ => by kernel_rfl) (by decide) rfl rfl rfl (fun w_ hm_ hl_ => (new_c _)) (fun _ => rfl)) (fun pb17 _ => ?_)
    refine Wl.run 1 (by kernel_rfl) ?_
    refine Wl.nil ?_
    refine hK16 _ _ _ ?_
    refine W.prune' [0, 1, 5] [Value.slice na ns.length ncap, Value.slice da dr.length dcap, Value.pointer (some ⟨pb17, 0, none⟩)] (by kernel_rfl) (fun f19 => ?_)
    refine W.seq (fun K20 hK20 => ?_)
    refine W.seq (fun K21 hK21 => ?_)
    refine W.region ?_
    refine Wl.run 2 (by kernel_rfl) ?_
    refine Wl.nil ?_
    refine hK21 _ _ _ ?_
    refine W.prune' [0, 1, 5, 30] [Value.slice na ns.length ncap, Value.slice da dr.length dcap, Value.pointer (some ⟨pb17, 0, none⟩), Value.bool false] (by kernel_rfl) (fun f22 => ?_)
    refine W.condF (by kernel_rfl) ?_
    refine W.skip' ?_
    refine hK20 _ _ _ ?_
    refine W.prune' [0, 1, 5] [Value.slice na ns.length ncap, Value.slice da dr.length dcap, Value.pointer (some ⟨pb17, 0, none⟩)] (by kernel_rfl) (fun f23 => ?_)
    refine W.seq (fun K24 hK24 => ?_)
    refine W.seq (fun K25 hK25 => ?_)
    refine W.region ?_
    refine Wl.run 3 (by kernel_rfl) ?_
    refine Wl.nil ?_
    refine hK25 _ _ _ ?_
    refine W.prune' [1, 5, 31, 32, 33] [Value.slice da dr.length dcap, Value.pointer (some ⟨pb17, 0, none⟩), Value.slice na ns.length ncap, Value.int .i64 ((ns.length : Nat) : Int), Value.int .i64 0] (by kernel_rfl) (fun f26 => ?_)
    refine W.block ?_
    refine W.loop3 [1, 5, 31, 32, 33] (fun (k : Nat) (T : Nat → Bool) (c : Nat) => [Value.slice da dr.length dcap, Value.pointer (some ⟨pb17, 0, none⟩), Value.slice na ns.length ncap, Value.int .i64 ((ns.length : Nat) : Int), Value.int .i64 ((k : Nat) : Int)]) (fun (k : Nat) (T : Nat → Bool) (c : Nat) => k ≤ ns.length ∧ c ≤ k ∧ cn T 65536 = c ∧ (∀ q, q < 1024 → T q = false)) (fun (k : Nat) (T : Nat → Bool) (c : Nat) => [[cb pb17 (psC T ((c : Nat) : Int)) 74]]) (fun (k : Nat) (T : Nat → Bool) (c : Nat) => ns.length - k) 0 (fun _ => false) 0 (by kernel_rfl) ⟨(Nat.zero_le _), (Nat.le_refl _), (cn_zero 65536), (fun _ _ => rfl)⟩ (by rfl) (fun k T c f28 J27 hp29 hJ27 => ?_)
    obtain ⟨hk, hc, hcn, hlo⟩ := hp29
    have hql_ := getD_lt7 hnb k
    refine W.seq (fun K30 hK30 => ?_)
    refine W.region ?_
    refine Wl.run 1 (by kernel_rfl) ?_
    refine Wl.nil ?_
    refine hK30 _ _ _ ?_
    refine W.seq (fun K31 hK31 => ?_)
    refine W.cond (decide (((k : Nat) : Int) < ((ns.length : Nat) : Int))) (by kernel_rfl) (fun h32 => ?_) (fun h33 => ?_)
    · have qh32 := h32; try simp only [Bool.and_eq_true, Bool.or_eq_true, Bool.not_eq_true', Bool.not_eq_false', Bool.and_eq_false_iff, Bool.or_eq_false_iff, decide_eq_true_eq, decide_eq_false_iff_not, beq_iff_eq, bne_iff_ne, beq_eq_false_iff_ne, bne_eq_false_iff_eq] at qh32
      refine W.skip' ?_
      refine hK31 _ _ _ ?_
      refine W.prune' [1, 5, 31, 32, 33] [Value.slice da dr.length dcap, Value.pointer (some ⟨pb17, 0, none⟩), Value.slice na ns.length ncap, Value.int .i64 ((ns.length : Nat) : Int), Value.int .i64 ((k : Nat) : Int)] (by kernel_rfl) (fun f34 => ?_)
      refine W.seq (fun K35 hK35 => ?_)
      refine W.block ?_
      refine W.seq (fun K36 hK36 => ?_)
      refine W.region ?_
      refine Wl.ys (v := Value.pointer (some (ela na (k * 1)))) rfl rfl (Ys.byMem fun w_ h_ => Ys.indexAddr (k := .i64) (a := na) (len := ns.length) (cap := ncap) (i := ((k : Nat) : Int)) (sz := 1) rfl (by kernel_rfl) (by kernel_rfl) Tryd.runUnderlying33 Tryd.sizeOf23 (by omega) (by omega) ((hns.mem0 h_).here (by rw [mc_len]; first | omega | (simp; omega)))) ?_
      refine Wl.ys (v := Value.int .u16 ((ns.getD k 0 : Nat) : Int)) rfl rfl (Ys.ld (a := ela na (k * 1)) rfl (by kernel_rfl) Tryd.isAgg23 (fun w_ h_ => (hns.mem0 h_).ld (mc_get1 0 (by first | omega | (simp; omega))))) ?_
      refine Wl.run 1 (by kernel_rfl) ?_
      refine Wl.nil ?_
      refine hK36 _ _ _ ?_
      refine W.prune' [1, 5, 7, 31, 32, 33] [Value.slice da dr.length dcap, Value.pointer (some ⟨pb17, 0, none⟩), Value.int .u16 ((ns.getD k 0 : Nat) : Int), Value.slice na ns.length ncap, Value.int .i64 ((ns.length : Nat) : Int), Value.int .i64 ((k : Nat) : Int)] (by kernel_rfl) (fun f37 => ?_)
      refine W.region ?_
      refine Wl.run 2 (by kernel_rfl) ?_
      have hN40 := tkN_bd T (ns.getD k 0) ((c : Nat) : Int)
      refine Wl.htS rfl (HtS.call (β := Unit) (k := 15) (args := #[Value.pointer (some ⟨pb17, 0, none⟩), Value.int .u16 ((ns.getD k 0 : Nat) : Int)]) (Lin := [[cb pb17 (psC T ((c : Nat) : Int)) 74]]) (Lk := []) (Mi := [pb17]) (Lo := fun u38 => [[cb pb17 (psC (tkT T (ns.getD k 0)) (tkN T (ns.getD k 0) ((c : Nat) : Int))) 74]]) [0] [] rfl (fun _ => by kernel_rfl) (by decide) rfl rfl rfl (fun w_ hm_ hl_ => (take_c T ((c : Nat) : Int) pb17 (ns.getD k 0) _ hl_ (by omega) (by omega) (by omega))) (fun _ => rfl)) (fun u38 _ => ?_)
      refine Wl.nil ?_
      refine hK35 _ _ _ ?_
      refine W.prune' [1, 5, 31, 32, 33] [Value.slice da dr.length dcap, Value.pointer (some ⟨pb17, 0, none⟩), Value.slice na ns.length ncap, Value.int .i64 ((ns.length : Nat) : Int), Value.int .i64 ((k : Nat) : Int)] (by kernel_rfl) (fun f41 => ?_)
      refine W.region ?_
      refine Wl.ys (v := Value.int .i64 ((k + 1 : Nat) : Int)) rfl rfl ((Ys.pure (v := .int .i64 (iadd .i64 ((k : Nat) : Int) 1)) (fun _ => by kernel_rfl)).conseq (int_congr (iadd_eq (by omega) (by omega) (by omega)))) ?_
      refine Wl.run 1 (by kernel_rfl) ?_
      refine Wl.nil ?_
      refine fun w_ h_ => hJ27 (k + 1) (tkT T (ns.getD k 0)) (c + (bif tkB T (ns.getD k 0) then 1 else 0)) _ w_ (by omega) ⟨(by omega), (by cases tkB T (ns.getD k 0) <;> simp only [cond_true, cond_false] <;> omega), (by rw [cn_tk (getD_lt7 hnb k) rfl, hcn]), (fun q hq => by rw [tk_at, hlo q hq, decide_eq_true hq]; simp)⟩ ?_ (Mem.cast (LL := [[cb pb17 (psC (tkT T (ns.getD k 0)) (tkN T (ns.getD k 0) ((c : Nat) : Int))) 74]]) (by rw [show tkN T (ns.getD k 0) ((c : Nat) : Int) = ((c + (bif tkB T (ns.getD k 0) then 1 else 0) : Nat) : Int) from tkN_nat]) h_)
      kernel_rfl
    · have qh33 := h33; try simp only [Bool.and_eq_true, Bool.or_eq_true, Bool.not_eq_true', Bool.not_eq_false', Bool.and_eq_false_iff, Bool.or_eq_false_iff, decide_eq_true_eq, decide_eq_false_iff_not, beq_iff_eq, bne_iff_ne, beq_eq_false_iff_ne, bne_eq_false_iff_eq] at qh33
      refine W.exit ?_
      refine hK24 _ _ _ ?_
      refine W.prune' [1, 5] [Value.slice da dr.length dcap, Value.pointer (some ⟨pb17, 0, none⟩)] (by kernel_rfl) (fun f42 => ?_)
      refine W.seq (fun K43 hK43 => ?_)
      refine W.region ?_
      refine Wl.run 1 (by kernel_rfl) ?_
      refine Wl.htS rfl (HtS.call (β := FS) (k := 21) (args := #[Value.pointer (some ⟨pb17, 0, none⟩), Value.int .i64 131072]) (Lin := [[cb pb17 (psC T ((c : Nat) : Int)) 74]]) (Lk := []) (Mi := [pb17]) (Lo := fun g44 => [g44.seg 3 (mc (Value.int .i64) (ci (lst T 131072))), [cb pb17 (psC T ((c : Nat) : Int)) 74]]) [0] [] rfl (fun _ => by kernel_rfl) (by decide) rfl rfl rfl (fun w_ hm_ hl_ => (listed_c T ((c : Nat) : Int) 131072 pb17 _ hl_ (htab.mem0 hm_))) (fun _ => rfl)) (fun g44 ok45 => ?_)
      refine Wl.run 1 (by kernel_rfl) ?_
      refine Wl.nil ?_
      refine hK43 _ _ _ ?_
      refine W.prune' [1, 5, 8] [Value.slice da dr.length dcap, Value.pointer (some ⟨pb17, 0, none⟩), Value.slice g44.a ((ci (lst T 131072)).length) g44.cap] (by kernel_rfl) (fun f47 => ?_)
      refine W.seq (fun K48 hK48 => ?_)
      refine W.region ?_
      refine Wl.ht rfl (Ht.made (mk := fun b_ => .slice (some ⟨b_, 0, none⟩) 0 0) (t := 23) (cs := []) rfl (fun _ => by kernel_rfl)) (fun p43 => ?_)
      refine Wl.run 1 (by kernel_rfl) ?_
      refine Wl.nil ?_
      refine hK48 _ _ _ ?_
      refine W.prune' [1, 5, 8, 9] [Value.slice da dr.length dcap, Value.pointer (some ⟨pb17, 0, none⟩), Value.slice g44.a ((ci (lst T 131072)).length) g44.cap, Value.slice (some ⟨p43, 0, none⟩) 0 0] (by kernel_rfl) (fun f49 => ?_)
      refine W.seq (fun K50 hK50 => ?_)
      refine W.seq (fun K51 hK51 => ?_)
      obtain ⟨got0_, hgot0_⟩ : ∃ z : List Nat, z = [] := ⟨_, rfl⟩
      obtain ⟨gg0_, hgg0_⟩ : ∃ z : FS, z = FS.mk false p43 0 [] := ⟨_, rfl⟩
      have okg0_ : gg0_.ok 1 got0_.length := by rw [hgot0_, hgg0_]; exact FS.lit_ok (by decide)
      refine W.conseq (S' := Mem w [] [gg0_.seg 23 (mc n16 got0_), g44.seg 3 (mc (Value.int .i64) (ci (lst T 131072))), [cb pb17 (psC T ((c : Nat) : Int)) 74]]) (fun w_ h_ => Mem.cast (LL := [[cb p43 [] 23], g44.seg 3 (mc (Value.int .i64) (ci (lst T 131072))), [cb pb17 (psC T ((c : Nat) : Int)) 74]]) (by rw [hgot0_, hgg0_]; rfl) h_) ?_
      refine W.prune' [1, 5, 8, 9] [Value.slice da dr.length dcap, Value.pointer (some ⟨pb17, 0, none⟩), Value.slice g44.a ((ci (lst T 131072)).length) g44.cap, Value.slice gg0_.a got0_.length gg0_.cap] (Eq.trans (b := ([Value.slice da dr.length dcap, Value.pointer (some ⟨pb17, 0, none⟩), Value.slice g44.a ((ci (lst T 131072)).length) g44.cap, Value.slice (some ⟨p43, 0, none⟩) 0 0] : List Value)) (by kernel_rfl) (by rw [hgot0_, hgg0_]; rfl)) (fun f52 => ?_)
      refine W.region ?_
      refine Wl.run 3 (by kernel_rfl) ?_
      refine Wl.nil ?_
      refine hK51 _ _ _ ?_
      refine W.prune' [5, 8, 9, 44, 45, 46] [Value.pointer (some ⟨pb17, 0, none⟩), Value.slice g44.a ((ci (lst T 131072)).length) g44.cap, Value.slice gg0_.a got0_.length gg0_.cap, Value.slice da dr.length dcap, Value.int .i64 ((dr.length : Nat) : Int), Value.int .i64 0] (by kernel_rfl) (fun f53 => ?_)
      refine W.block ?_
      refine W.loop5 [5, 8, 9, 44, 45, 46] (fun (k2 : Nat) (T2 : Nat → Bool) (c2 : Nat) (got : List Nat) (gg : FS) => [Value.pointer (some ⟨pb17, 0, none⟩), Value.slice g44.a ((ci (lst T 131072)).length) g44.cap, Value.slice gg.a got.length gg.cap, Value.slice da dr.length dcap, Value.int .i64 ((dr.length : Nat) : Int), Value.int .i64 ((k2 : Nat) : Int)]) (fun (k2 : Nat) (T2 : Nat → Bool) (c2 : Nat) (got : List Nat) (gg : FS) => k2 ≤ dr.length ∧ gg.ok 1 got.length ∧ got.length = k2 ∧ BkR T T2 got ∧ cn T2 65536 = c2 ∧ (∀ q, q < 1024 → T2 q = false) ∧ c2 = c + k2) (fun (k2 : Nat) (T2 : Nat → Bool) (c2 : Nat) (got : List Nat) (gg : FS) => [gg.seg 23 (mc n16 got), g44.seg 3 (mc (Value.int .i64) (ci (lst T 131072))), [cb pb17 (psC T2 ((c2 : Nat) : Int)) 74]]) (fun (k2 : Nat) (T2 : Nat → Bool) (c2 : Nat) (got : List Nat) (gg : FS) => dr.length - k2) 0 T c got0_ gg0_ (by kernel_rfl) ⟨(Nat.zero_le _), okg0_, (by rw [hgot0_]; rfl), (by rw [hgot0_]; exact bk_nil T), hcn, hlo, (Nat.add_zero _).symm⟩ (by rfl) (fun k2 T2 c2 got gg f55 J54 hp56 hJ54 => ?_)
      obtain ⟨hk2, okg, hgl, hbk, hcn2, hlo2, hc2⟩ := hp56
      have hdl_ : (dr.getD k2 0) < 18446744073709551616 := getD_b hdb (by decide) k2
      obtain ⟨hplt_, hpV_, hpf_, hpg_, hpT_, hpN_⟩ := pk_next (d := (dr.getD k2 0)) rfl hlo2 hcn2 (by omega)
      refine W.seq (fun K57 hK57 => ?_)
      refine W.region ?_
      refine Wl.run 1 (by kernel_rfl) ?_
      refine Wl.nil ?_
      refine hK57 _ _ _ ?_
      refine W.seq (fun K58 hK58 => ?_)
      refine W.cond (decide (((k2 : Nat) : Int) < ((dr.length : Nat) : Int))) (by kernel_rfl) (fun h59 => ?_) (fun h60 => ?_)
      · have qh59 := h59; try simp only [Bool.and_eq_true, Bool.or_eq_true, Bool.not_eq_true', Bool.not_eq_false', Bool.and_eq_false_iff, Bool.or_eq_false_iff, decide_eq_true_eq, decide_eq_false_iff_not, beq_iff_eq, bne_iff_ne, beq_eq_false_iff_ne, bne_eq_false_iff_eq] at qh59
        refine W.skip' ?_
        refine hK58 _ _ _ ?_
        refine W.prune' [5, 8, 9, 44, 45, 46] [Value.pointer (some ⟨pb17, 0, none⟩), Value.slice g44.a ((ci (lst T 131072)).length) g44.cap, Value.slice gg.a got.length gg.cap, Value.slice da dr.length dcap, Value.int .i64 ((dr.length : Nat) : Int), Value.int .i64 ((k2 : Nat) : Int)] (by kernel_rfl) (fun f61 => ?_)
        refine W.seq (fun K62 hK62 => ?_)
        refine W.block ?_
        refine W.seq (fun K63 hK63 => ?_)
        refine W.region ?_
        refine Wl.ys (v := Value.pointer (some (ela da (k2 * 1)))) rfl rfl (Ys.byMem fun w_ h_ => Ys.indexAddr (k := .i64) (a := da) (len := dr.length) (cap := dcap) (i := ((k2 : Nat) : Int)) (sz := 1) rfl (by kernel_rfl) (by kernel_rfl) Tryd.runUnderlying53 Tryd.sizeOf22 (by omega) (by omega) ((hdr.mem0 h_).here (by rw [mc_len]; first | omega | (simp; omega)))) ?_
        refine Wl.ys (v := Value.int .u64 ((dr.getD k2 0 : Nat) : Int)) rfl rfl (Ys.ld (a := ela da (k2 * 1)) rfl (by kernel_rfl) Tryd.isAgg22 (fun w_ h_ => (hdr.mem0 h_).ld (mc_get1 0 (by first | omega | (simp; omega))))) ?_
        refine Wl.run 1 (by kernel_rfl) ?_
        refine Wl.nil ?_
        refine hK63 _ _ _ ?_
        refine W.prune' [5, 8, 9, 11, 44, 45, 46] [Value.pointer (some ⟨pb17, 0, none⟩), Value.slice g44.a ((ci (lst T 131072)).length) g44.cap, Value.slice gg.a got.length gg.cap, Value.int .u64 ((dr.getD k2 0 : Nat) : Int), Value.slice da dr.length dcap, Value.int .i64 ((dr.length : Nat) : Int), Value.int .i64 ((k2 : Nat) : Int)] (by kernel_rfl) (fun f64 => ?_)
        refine W.seq (fun K65 hK65 => ?_)
        refine W.region ?_
        refine Wl.run 2 (by kernel_rfl) ?_
        have hN68 := pkN_bd T2 (dr.getD k2 0) ((c2 : Nat) : Int)
        have hV69 := pkV_lt T2 (dr.getD k2 0)
        refine Wl.htS rfl (HtS.call (β := Unit) (k := 12) (args := #[Value.pointer (some ⟨pb17, 0, none⟩), Value.int .u64 ((dr.getD k2 0 : Nat) : Int)]) (Lin := [[cb pb17 (psC T2 ((c2 : Nat) : Int)) 74]]) (Lk := [gg.seg 23 (mc n16 got), g44.seg 3 (mc (Value.int .i64) (ci (lst T 131072)))]) (Mi := [pb17]) (Lo := fun u66 => [[cb pb17 (psC (pkT T2 (dr.getD k2 0)) (pkN T2 (dr.getD k2 0) ((c2 : Nat) : Int))) 74], gg.seg 23 (mc n16 got), g44.seg 3 (mc (Value.int .i64) (ci (lst T 131072)))]) [2] [0, 1] rfl (fun _ => by kernel_rfl) (by decide) rfl rfl rfl (fun w_ hm_ hl_ => (pick_c T2 ((c2 : Nat) : Int) pb17 (dr.getD k2 0) _ hl_ (by omega) (by omega) (htab.mem0 hm_) (by omega))) (fun _ => rfl)) (fun u66 _ => ?_)
        refine Wl.run 1 (by kernel_rfl) ?_
        refine Wl.ys (v := Value.int .u16 ((pk T2 (dr.getD k2 0) : Nat) : Int)) rfl rfl ((Ys.pure (v := Value.int .u16 ((pkV T2 (dr.getD k2 0) : Nat) : Int)) (fun _ => by kernel_rfl)).conseq (int_congr (congrArg (fun n : Nat => (n : Int)) hpV_))) ?_
        refine Wl.run 3 (by kernel_rfl) ?_
        refine Wl.nil ?_
        refine hK65 _ _ _ ?_
        refine W.prune' [5, 8, 9, 12, 13, 44, 45, 46] [Value.pointer (some ⟨pb17, 0, none⟩), Value.slice g44.a ((ci (lst T 131072)).length) g44.cap, Value.slice gg.a got.length gg.cap, Value.int .u16 ((pk T2 (dr.getD k2 0) : Nat) : Int), Value.bool (decide (pk T2 (dr.getD k2 0) < 65536)), Value.slice da dr.length dcap, Value.int .i64 ((dr.length : Nat) : Int), Value.int .i64 ((k2 : Nat) : Int)] (by kernel_rfl) (fun f70 => ?_)
        refine W.seq (fun K71 hK71 => ?_)
        refine W.seq (fun K72 hK72 => ?_)
        refine W.region ?_
        refine Wl.run 3 (by kernel_rfl) ?_
        refine Wl.guard (v := Value.pointer (some ⟨pb17, 0, none⟩)) (!(!(decide (pk T2 (dr.getD k2 0) < 65536)))) rfl (wantF rfl (by kernel_rfl)) rfl (fun hg73 => ?_) ?_
        · have qhg73 := hg73; try simp only [Bool.and_eq_true, Bool.or_eq_true, Bool.not_eq_true', Bool.not_eq_false', Bool.and_eq_false_iff, Bool.or_eq_false_iff, decide_eq_true_eq, decide_eq_false_iff_not, beq_iff_eq, bne_iff_ne, beq_eq_false_iff_ne, bne_eq_false_iff_eq] at qhg73
          exact Ys.pure (fun _ => by kernel_rfl)
        refine Wl.guard (v := Value.int .u16 ((pk T2 (dr.getD k2 0) : Nat) : Int)) (!(!(decide (pk T2 (dr.getD k2 0) < 65536)))) rfl (wantF rfl (by kernel_rfl)) rfl (fun hg74 => ?_) ?_
        · have qhg74 := hg74; try simp only [Bool.and_eq_true, Bool.or_eq_true, Bool.not_eq_true', Bool.not_eq_false', Bool.and_eq_false_iff, Bool.or_eq_false_iff, decide_eq_true_eq, decide_eq_false_iff_not, beq_iff_eq, bne_iff_ne, beq_eq_false_iff_ne, bne_eq_false_iff_eq] at qhg74
          exact Ys.pure (fun _ => by kernel_rfl)
        refine Wl.guardc (v := Value.bool ((pkT T2 (dr.getD k2 0)) (pk T2 (dr.getD k2 0)))) (!(!(decide (pk T2 (dr.getD k2 0) < 65536)))) rfl (wantF rfl (by kernel_rfl)) rfl (fun hg75 => ?_) ?_
        · have qhg75 := hg75; try simp only [Bool.and_eq_true, Bool.or_eq_true, Bool.not_eq_true', Bool.not_eq_false', Bool.and_eq_false_iff, Bool.or_eq_false_iff, decide_eq_true_eq, decide_eq_false_iff_not, beq_iff_eq, bne_iff_ne, beq_eq_false_iff_ne, bne_eq_false_iff_eq] at qhg75
          refine Yc.at (t := 59) (v0 := Value.pointer (some ⟨pb17, 0, none⟩)) (lz (g := !(!(decide (pk T2 (dr.getD k2 0) < 65536)))) (u := undef) hg75 (by kernel_rfl)) ?_
          refine Yc.at (t := 60) (v0 := Value.int .u16 ((pk T2 (dr.getD k2 0) : Nat) : Int)) (lz (g := !(!(decide (pk T2 (dr.getD k2 0) < 65536)))) (u := undef) hg75 (by kernel_rfl)) ?_
          exact Yc.call (k := 16) (args := #[Value.pointer (some ⟨pb17, 0, none⟩), Value.int .u16 ((pk T2 (dr.getD k2 0) : Nat) : Int)]) (fun _ => by kernel_rfl) (fun w_ hm_ => has_c (pkT T2 (dr.getD k2 0)) (pkN T2 (dr.getD k2 0) ((c2 : Nat) : Int)) pb17 (pk T2 (dr.getD k2 0)) _ (At.lit0 (i := 0) (j := 0) (t := 74) (b := pb17) hm_ rfl rfl) (by omega))
        refine Wl.guard (v := Value.bool (!((pkT T2 (dr.getD k2 0)) (pk T2 (dr.getD k2 0))))) (!(!(decide (pk T2 (dr.getD k2 0) < 65536)))) rfl (wantF rfl (by kernel_rfl)) rfl (fun hg76 => ?_) ?_
        · have qhg76 := hg76; try simp only [Bool.and_eq_true, Bool.or_eq_true, Bool.not_eq_true', Bool.not_eq_false', Bool.and_eq_false_iff, Bool.or_eq_false_iff, decide_eq_true_eq, decide_eq_false_iff_not, beq_iff_eq, bne_iff_ne, beq_eq_false_iff_ne, bne_eq_false_iff_eq] at qhg76
          refine Ys.at (t := 61) (v0 := Value.bool ((pkT T2 (dr.getD k2 0)) (pk T2 (dr.getD k2 0)))) (lz (g := !(!(decide (pk T2 (dr.getD k2 0) < 65536)))) (u := undef) hg76 (by kernel_rfl)) ?_
          exact Ys.pure (fun _ => by kernel_rfl)
        refine Wl.ys (v := Value.bool ((!(decide (pk T2 (dr.getD k2 0) < 65536))) || (!((pkT T2 (dr.getD k2 0)) (pk T2 (dr.getD k2 0)))))) rfl rfl (Ys.or' (e := !(decide (pk T2 (dr.getD k2 0) < 65536))) (b := !((pkT T2 (dr.getD k2 0)) (pk T2 (dr.getD k2 0)))) rfl (by kernel_rfl) (by kernel_rfl) (by kernel_rfl)) ?_
        refine Wl.nil ?_
        refine hK72 _ _ _ ?_
        refine W.prune' [5, 8, 9, 12, 44, 45, 46, 59, 60, 61, 62, 63] [Value.pointer (some ⟨pb17, 0, none⟩), Value.slice g44.a ((ci (lst T 131072)).length) g44.cap, Value.slice gg.a got.length gg.cap, Value.int .u16 ((pk T2 (dr.getD k2 0) : Nat) : Int), Value.slice da dr.length dcap, Value.int .i64 ((dr.length : Nat) : Int), Value.int .i64 ((k2 : Nat) : Int), (bif !(!(decide (pk T2 (dr.getD k2 0) < 65536))) then Value.pointer (some ⟨pb17, 0, none⟩) else undef), (bif !(!(decide (pk T2 (dr.getD k2 0) < 65536))) then Value.int .u16 ((pk T2 (dr.getD k2 0) : Nat) : Int) else undef), (bif !(!(decide (pk T2 (dr.getD k2 0) < 65536))) then Value.bool ((pkT T2 (dr.getD k2 0)) (pk T2 (dr.getD k2 0))) else undef), (bif !(!(decide (pk T2 (dr.getD k2 0) < 65536))) then Value.bool (!((pkT T2 (dr.getD k2 0)) (pk T2 (dr.getD k2 0)))) else undef), Value.bool ((!(decide (pk T2 (dr.getD k2 0) < 65536))) || (!((pkT T2 (dr.getD k2 0)) (pk T2 (dr.getD k2 0)))))] (by kernel_rfl) (fun f77 => ?_)
        refine W.cond ((!(decide (pk T2 (dr.getD k2 0) < 65536))) || (!((pkT T2 (dr.getD k2 0)) (pk T2 (dr.getD k2 0))))) (by kernel_rfl) (fun h78 => ?_) (fun h79 => ?_)
        · have qh78 := h78; try simp only [Bool.and_eq_true, Bool.or_eq_true, Bool.not_eq_true', Bool.not_eq_false', Bool.and_eq_false_iff, Bool.or_eq_false_iff, decide_eq_true_eq, decide_eq_false_iff_not, beq_iff_eq, bne_iff_ne, beq_eq_false_iff_ne, bne_eq_false_iff_eq] at qh78
          (exfalso; rw [decide_eq_true hplt_, hpT_, up_same] at h78; simp at h78)
        · have qh79 := h79; try simp only [Bool.and_eq_true, Bool.or_eq_true, Bool.not_eq_true', Bool.not_eq_false', Bool.and_eq_false_iff, Bool.or_eq_false_iff, decide_eq_true_eq, decide_eq_false_iff_not, beq_iff_eq, bne_iff_ne, beq_eq_false_iff_ne, bne_eq_false_iff_eq] at qh79
          refine W.skip' ?_
          refine hK71 _ _ _ ?_
          refine W.prune' [5, 8, 9, 12, 44, 45, 46, 59, 60, 61, 62] [Value.pointer (some ⟨pb17, 0, none⟩), Value.slice g44.a ((ci (lst T 131072)).length) g44.cap, Value.slice gg.a got.length gg.cap, Value.int .u16 ((pk T2 (dr.getD k2 0) : Nat) : Int), Value.slice da dr.length dcap, Value.int .i64 ((dr.length : Nat) : Int), Value.int .i64 ((k2 : Nat) : Int), (bif !(!(decide (pk T2 (dr.getD k2 0) < 65536))) then Value.pointer (some ⟨pb17, 0, none⟩) else undef), (bif !(!(decide (pk T2 (dr.getD k2 0) < 65536))) then Value.int .u16 ((pk T2 (dr.getD k2 0) : Nat) : Int) else undef), (bif !(!(decide (pk T2 (dr.getD k2 0) < 65536))) then Value.bool ((pkT T2 (dr.getD k2 0)) (pk T2 (dr.getD k2 0))) else undef), (bif !(!(decide (pk T2 (dr.getD k2 0) < 65536))) then Value.bool (!((pkT T2 (dr.getD k2 0)) (pk T2 (dr.getD k2 0)))) else undef)] (by kernel_rfl) (fun f80 => ?_)
          refine W.region ?_
          refine Wl.run 2 (by kernel_rfl) ?_
          refine Wl.ht rfl (Ht.made (mk := fun b_ => .slice (some ⟨b_, 0, none⟩) 1 1) (t := 23) (cs := [Value.int .u16 ((pk T2 (dr.getD k2 0) : Nat) : Int)]) rfl (fun _ => by kernel_rfl)) (fun p66 => ?_)
          refine Wl.htS rfl (HtS.append (eu := 23) (xv := Value.slice (some ⟨p66, 0, none⟩) 1 1) (i := 2) (g := gg) (e := 23) (ii := (Tryd.prog.info? 23).getD default) (z := Value.int .u16 0) (sz := 1) (bytes := 2) (nn := got.length) (m := 1) (k := (got ++ [pk T2 (dr.getD k2 0)]).length) (xs := mc n16 got) (news := mc n16 [pk T2 (dr.getD k2 0)]) (cs' := mc n16 (got ++ [pk T2 (dr.getD k2 0)])) (Lo := fun g81 => [[cb p66 [Value.int .u16 ((pk T2 (dr.getD k2 0) : Nat) : Int)] 23], [cb pb17 (psC (pkT T2 (dr.getD k2 0)) (pkN T2 (dr.getD k2 0) ((c2 : Nat) : Int))) 74], g81.seg 23 (mc n16 (got ++ [pk T2 (dr.getD k2 0)])), g44.seg 3 (mc (Value.int .i64) (ci (lst T 131072)))]) rfl rfl (by kernel_rfl) (by kernel_rfl) (by kernel_rfl) (by kernel_rfl) (by kernel_rfl) (by kernel_rfl) (by kernel_rfl) (by kernel_rfl) (by kernel_rfl) rfl okg (mc_len1 _) (fun _ => rfl) (Src.at (a := some ⟨p66, 0, none⟩) (by first | rfl | (rw [mc_len, List.length_take]; omega) | (rw [mc_len, List.length_take, List.length_drop]; omega) | (simp [mc, be_len]; done) | (simp [mc, be_len]; omega)) (fun w_ h_ => (At.lit0 (i := 0) (j := 0) (t := 23) (b := p66) h_ rfl rfl))) (by first | rfl | (rw [mc_len, List.length_take]; omega) | (rw [mc_len, List.length_take, List.length_drop]; omega) | (simp [mc, be_len]; done) | (simp [mc, be_len]; omega)) (mc_one (fun _ => rfl) _) (by first | omega | (simp; done) | (simp; omega)) (by simp only [maxLen]; first | omega | (simp; done) | (simp; omega)) (by first | omega | (simp; done) | (simp; omega)) (mc_app _ _) (fun _ => rfl)) (fun g81 hx86 => ?_)
          obtain ⟨ok82, hn83, hn84⟩ := hx86
          refine Wl.run 1 (by kernel_rfl) ?_
          refine Wl.nil ?_
          refine hK62 _ _ _ ?_
          refine W.pick (LL' := [[cb pb17 (psC (pkT T2 (dr.getD k2 0)) (pkN T2 (dr.getD k2 0) ((c2 : Nat) : Int))) 74], g81.seg 23 (mc n16 (got ++ [pk T2 (dr.getD k2 0)])), g44.seg 3 (mc (Value.int .i64) (ci (lst T 131072)))]) [1, 2, 3] (by decide) rfl ?_
          refine W.prune' [5, 8, 9, 44, 45, 46, 59, 60, 61, 62] [Value.pointer (some ⟨pb17, 0, none⟩), Value.slice g44.a ((ci (lst T 131072)).length) g44.cap, Value.slice g81.a ((got ++ [pk T2 (dr.getD k2 0)]).length) g81.cap, Value.slice da dr.length dcap, Value.int .i64 ((dr.length : Nat) : Int), Value.int .i64 ((k2 : Nat) : Int), (bif !(!(decide (pk T2 (dr.getD k2 0) < 65536))) then Value.pointer (some ⟨pb17, 0, none⟩) else undef), (bif !(!(decide (pk T2 (dr.getD k2 0) < 65536))) then Value.int .u16 ((pk T2 (dr.getD k2 0) : Nat) : Int) else undef), (bif !(!(decide (pk T2 (dr.getD k2 0) < 65536))) then Value.bool ((pkT T2 (dr.getD k2 0)) (pk T2 (dr.getD k2 0))) else undef), (bif !(!(decide (pk T2 (dr.getD k2 0) < 65536))) then Value.bool (!((pkT T2 (dr.getD k2 0)) (pk T2 (dr.getD k2 0)))) else undef)] (by kernel_rfl) (fun f87 => ?_)
          refine W.region ?_
          refine Wl.ys (v := Value.int .i64 ((k2 + 1 : Nat) : Int)) rfl rfl ((Ys.pure (v := .int .i64 (iadd .i64 ((k2 : Nat) : Int) 1)) (fun _ => by kernel_rfl)).conseq (int_congr (iadd_eq (by omega) (by omega) (by omega)))) ?_
          refine Wl.run 1 (by kernel_rfl) ?_
          refine Wl.nil ?_
          refine fun w_ h_ => hJ54 (k2 + 1) (up T2 (pk T2 (dr.getD k2 0)) true) (c2 + 1) (got ++ [pk T2 (dr.getD k2 0)]) g81 _ w_ (by omega) ⟨(by omega), ok82, (by rw [List.length_append, hgl]; try rfl), (bk_add hbk hpf_ hplt_), (by rw [cn_up hpf_, hcn2, if_pos hplt_]; try rfl), (fun q hq => by rw [up_other _ _ (by omega)]; exact hlo2 q hq), (by omega)⟩ ?_ (Mem.cast (LL := [g81.seg 23 (mc n16 (got ++ [pk T2 (dr.getD k2 0)])), g44.seg 3 (mc (Value.int .i64) (ci (lst T 131072))), [cb pb17 (psC (pkT T2 (dr.getD k2 0)) (pkN T2 (dr.getD k2 0) ((c2 : Nat) : Int))) 74]]) (by rw [hpT_, hpN_]; try rfl) (h_.pick [1, 2, 0] (by decide) rfl))
          kernel_rfl
      · have qh60 := h60; try simp only [Bool.and_eq_true, Bool.or_eq_true, Bool.not_eq_true', Bool.not_eq_false', Bool.and_eq_false_iff, Bool.or_eq_false_iff, decide_eq_true_eq, decide_eq_false_iff_not, beq_iff_eq, bne_iff_ne, beq_eq_false_iff_ne, bne_eq_false_iff_eq] at qh60
        refine W.exit ?_
        refine hK50 _ _ _ ?_
        refine W.prune' [5, 8, 9] [Value.pointer (some ⟨pb17, 0, none⟩), Value.slice g44.a ((ci (lst T 131072)).length) g44.cap, Value.slice gg.a got.length gg.cap] (by kernel_rfl) (fun f88 => ?_)
        refine W.seq (fun K89 hK89 => ?_)
        refine W.seq (fun K90 hK90 => ?_)
        refine W.region ?_
        refine Wl.run 3 (by kernel_rfl) ?_
        refine Wl.nil ?_
        refine hK90 _ _ _ ?_
        refine W.prune' [5, 8, 69, 70, 71] [Value.pointer (some ⟨pb17, 0, none⟩), Value.slice g44.a ((ci (lst T 131072)).length) g44.cap, Value.slice gg.a got.length gg.cap, Value.int .i64 ((got.length : Nat) : Int), Value.int .i64 0] (by kernel_rfl) (fun f91 => ?_)
        refine W.block ?_
        refine W.loop3 [5, 8, 69, 70, 71] (fun (k3 : Nat) (T3 : Nat → Bool) (m3 : Int) => [Value.pointer (some ⟨pb17, 0, none⟩), Value.slice g44.a ((ci (lst T 131072)).length) g44.cap, Value.slice gg.a got.length gg.cap, Value.int .i64 ((got.length : Nat) : Int), Value.int .i64 ((k3 : Nat) : Int)]) (fun (k3 : Nat) (T3 : Nat → Bool) (m3 : Int) => k3 ≤ got.length ∧ BkR T T3 (got.drop k3) ∧ m3 = ((c2 : Nat) : Int) - ((k3 : Nat) : Int)) (fun (k3 : Nat) (T3 : Nat → Bool) (m3 : Int) => [gg.seg 23 (mc n16 got), g44.seg 3 (mc (Value.int .i64) (ci (lst T 131072))), [cb pb17 (psC T3 m3) 74]]) (fun (k3 : Nat) (T3 : Nat → Bool) (m3 : Int) => got.length - k3) 0 T2 ((c2 : Nat) : Int) (by kernel_rfl) ⟨(Nat.zero_le _), hbk, (by simp)⟩ (by rfl) (fun k3 T3 m3 f93 J92 hp94 hJ92 => ?_)
        obtain ⟨hk3, hbk3, hm3⟩ := hp94
        refine W.seq (fun K95 hK95 => ?_)
        refine W.region ?_
        refine Wl.run 1 (by kernel_rfl) ?_
        refine Wl.nil ?_
        refine hK95 _ _ _ ?_
        refine W.seq (fun K96 hK96 => ?_)
        refine W.cond (decide (((k3 : Nat) : Int) < ((got.length : Nat) : Int))) (by kernel_rfl) (fun h97 => ?_) (fun h98 => ?_)
        · have qh97 := h97; try simp only [Bool.and_eq_true, Bool.or_eq_true, Bool.not_eq_true', Bool.not_eq_false', Bool.and_eq_false_iff, Bool.or_eq_false_iff, decide_eq_true_eq, decide_eq_false_iff_not, beq_iff_eq, bne_iff_ne, beq_eq_false_iff_ne, bne_eq_false_iff_eq] at qh97
          refine W.skip' ?_
          refine hK96 _ _ _ ?_
          refine W.prune' [5, 8, 69, 70, 71] [Value.pointer (some ⟨pb17, 0, none⟩), Value.slice g44.a ((ci (lst T 131072)).length) g44.cap, Value.slice gg.a got.length gg.cap, Value.int .i64 ((got.length : Nat) : Int), Value.int .i64 ((k3 : Nat) : Int)] (by kernel_rfl) (fun f99 => ?_)
          refine W.seq (fun K100 hK100 => ?_)
          refine W.block ?_
          refine W.seq (fun K101 hK101 => ?_)
          refine W.region ?_
          refine Wl.ys (v := Value.pointer (some (ela gg.a (k3 * 1)))) rfl rfl (Ys.indexAddr (k := .i64) (a := gg.a) (len := got.length) (cap := gg.cap) (i := ((k3 : Nat) : Int)) (sz := 1) rfl (by kernel_rfl) (by kernel_rfl) Tryd.runUnderlying33 Tryd.sizeOf23 (by omega) (by omega) (by rw [FS.a_own (FS.notnil okg (by omega))]; rfl)) ?_
          refine Wl.ys (v := Value.int .u16 ((got.getD k3 0 : Nat) : Int)) rfl rfl (Ys.ld (a := ela gg.a (k3 * 1)) rfl (by kernel_rfl) Tryd.isAgg23 (fun w_ h_ => (FS.at (i := 0) (t := 23) h_ rfl (FS.nil_cs okg (mc_len1 _))).ld (mc_get1 0 (by first | omega | (simp; omega))))) ?_
          refine Wl.run 1 (by kernel_rfl) ?_
          refine Wl.nil ?_
          refine hK101 _ _ _ ?_
          refine W.prune' [5, 8, 15, 69, 70, 71] [Value.pointer (some ⟨pb17, 0, none⟩), Value.slice g44.a ((ci (lst T 131072)).length) g44.cap, Value.int .u16 ((got.getD k3 0 : Nat) : Int), Value.slice gg.a got.length gg.cap, Value.int .i64 ((got.length : Nat) : Int), Value.int .i64 ((k3 : Nat) : Int)] (by kernel_rfl) (fun f102 => ?_)
          refine W.seq (fun K103 hK103 => ?_)
          have hcut_ := bk_cut (by omega : k3 < got.length) hbk3
          have hgv_ := gv_yes (n := m3) hcut_.1
          have hgq_ := hcut_.2.2
          refine W.region ?_
          refine Wl.run 2 (by kernel_rfl) ?_
          have hN106 := gvN_bd T3 (got.getD k3 0) m3
          refine Wl.htS rfl (HtS.call (β := Unit) (k := 14) (args := #[Value.pointer (some ⟨pb17, 0, none⟩), Value.int .u16 ((got.getD k3 0 : Nat) : Int)]) (Lin := [[cb pb17 (psC T3 m3) 74]]) (Lk := [gg.seg 23 (mc n16 got), g44.seg 3 (mc (Value.int .i64) (ci (lst T 131072)))]) (Mi := [pb17]) (Lo := fun u104 => [[cb pb17 (psC (gvT T3 (got.getD k3 0)) (gvN T3 (got.getD k3 0) m3)) 74], gg.seg 23 (mc n16 got), g44.seg 3 (mc (Value.int .i64) (ci (lst T 131072)))]) [2] [0, 1] rfl (fun _ => by kernel_rfl) (by decide) rfl rfl rfl (fun w_ hm_ hl_ => (give_c T3 m3 pb17 (got.getD k3 0) _ hl_ (by omega) (by omega) (by omega))) (fun _ => rfl)) (fun u104 _ => ?_)
          refine Wl.run 2 (by kernel_rfl) ?_
          refine Wl.guard (v := Value.pointer (some ⟨pb17, 0, none⟩)) (!(!(T3 (got.getD k3 0)))) rfl (wantF rfl (by kernel_rfl)) rfl (fun hg107 => ?_) ?_
          · exact Ys.pure (fun _ => by kernel_rfl)
          refine Wl.guard (v := Value.int .u16 ((got.getD k3 0 : Nat) : Int)) (!(!(T3 (got.getD k3 0)))) rfl (wantF rfl (by kernel_rfl)) rfl (fun hg108 => ?_) ?_
          · exact Ys.pure (fun _ => by kernel_rfl)
          refine Wl.guardc (v := Value.bool ((gvT T3 (got.getD k3 0)) (got.getD k3 0))) (!(!(T3 (got.getD k3 0)))) rfl (wantF rfl (by kernel_rfl)) rfl (fun hg109 => ?_) ?_
          · refine Yc.at (t := 80) (v0 := Value.pointer (some ⟨pb17, 0, none⟩)) (lz (g := !(!(T3 (got.getD k3 0)))) (u := undef) hg109 (by kernel_rfl)) ?_
            refine Yc.at (t := 81) (v0 := Value.int .u16 ((got.getD k3 0 : Nat) : Int)) (lz (g := !(!(T3 (got.getD k3 0)))) (u := undef) hg109 (by kernel_rfl)) ?_
            exact Yc.call (k := 16) (args := #[Value.pointer (some ⟨pb17, 0, none⟩), Value.int .u16 ((got.getD k3 0 : Nat) : Int)]) (fun _ => by kernel_rfl) (fun w_ hm_ => has_c (gvT T3 (got.getD k3 0)) (gvN T3 (got.getD k3 0) m3) pb17 (got.getD k3 0) _ (At.lit0 (i := 0) (j := 0) (t := 74) (b := pb17) hm_ rfl rfl) (by omega))
          refine Wl.ys (v := Value.bool ((!(T3 (got.getD k3 0))) || ((gvT T3 (got.getD k3 0)) (got.getD k3 0)))) rfl rfl (Ys.or' (e := !(T3 (got.getD k3 0))) (b := (gvT T3 (got.getD k3 0)) (got.getD k3 0)) rfl (by kernel_rfl) (by kernel_rfl) (by kernel_rfl)) ?_
          refine Wl.nil ?_
          refine hK103 _ _ _ ?_
          refine W.prune' [5, 8, 69, 70, 71, 80, 81, 82, 83] [Value.pointer (some ⟨pb17, 0, none⟩), Value.slice g44.a ((ci (lst T 131072)).length) g44.cap, Value.slice gg.a got.length gg.cap, Value.int .i64 ((got.length : Nat) : Int), Value.int .i64 ((k3 : Nat) : Int), (bif !(!(T3 (got.getD k3 0))) then Value.pointer (some ⟨pb17, 0, none⟩) else undef), (bif !(!(T3 (got.getD k3 0))) then Value.int .u16 ((got.getD k3 0 : Nat) : Int) else undef), (bif !(!(T3 (got.getD k3 0))) then Value.bool ((gvT T3 (got.getD k3 0)) (got.getD k3 0)) else undef), Value.bool ((!(T3 (got.getD k3 0))) || ((gvT T3 (got.getD k3 0)) (got.getD k3 0)))] (by kernel_rfl) (fun f110 => ?_)
          refine W.cond ((!(T3 (got.getD k3 0))) || ((gvT T3 (got.getD k3 0)) (got.getD k3 0))) (by kernel_rfl) (fun h111 => ?_) (fun h112 => ?_)
          · have qh111 := h111; try simp only [Bool.and_eq_true, Bool.or_eq_true, Bool.not_eq_true', Bool.not_eq_false', Bool.and_eq_false_iff, Bool.or_eq_false_iff, decide_eq_true_eq, decide_eq_false_iff_not, beq_iff_eq, bne_iff_ne, beq_eq_false_iff_ne, bne_eq_false_iff_eq] at qh111
            (exfalso; rw [hcut_.1, hgv_.1, up_same] at h111; simp at h111)
          · have qh112 := h112; try simp only [Bool.and_eq_true, Bool.or_eq_true, Bool.not_eq_true', Bool.not_eq_false', Bool.and_eq_false_iff, Bool.or_eq_false_iff, decide_eq_true_eq, decide_eq_false_iff_not, beq_iff_eq, bne_iff_ne, beq_eq_false_iff_ne, bne_eq_false_iff_eq] at qh112
            refine W.skip' ?_
            refine hK100 _ _ _ ?_
            refine W.prune' [5, 8, 69, 70, 71, 80, 81, 82] [Value.pointer (some ⟨pb17, 0, none⟩), Value.slice g44.a ((ci (lst T 131072)).length) g44.cap, Value.slice gg.a got.length gg.cap, Value.int .i64 ((got.length : Nat) : Int), Value.int .i64 ((k3 : Nat) : Int), (bif !(!(T3 (got.getD k3 0))) then Value.pointer (some ⟨pb17, 0, none⟩) else undef), (bif !(!(T3 (got.getD k3 0))) then Value.int .u16 ((got.getD k3 0 : Nat) : Int) else undef), (bif !(!(T3 (got.getD k3 0))) then Value.bool ((gvT T3 (got.getD k3 0)) (got.getD k3 0)) else undef)] (by kernel_rfl) (fun f113 => ?_)
            refine W.region ?_
            refine Wl.ys (v := Value.int .i64 ((k3 + 1 : Nat) : Int)) rfl rfl ((Ys.pure (v := .int .i64 (iadd .i64 ((k3 : Nat) : Int) 1)) (fun _ => by kernel_rfl)).conseq (int_congr (iadd_eq (by omega) (by omega) (by omega)))) ?_
            refine Wl.run 1 (by kernel_rfl) ?_
            refine Wl.nil ?_
            refine fun w_ h_ => hJ92 (k3 + 1) (up T3 (got.getD k3 0) false) (m3 - 1) _ w_ (by omega) ⟨(by omega), hcut_.2.1, (by omega)⟩ ?_ (Mem.cast (LL := [gg.seg 23 (mc n16 got), g44.seg 3 (mc (Value.int .i64) (ci (lst T 131072))), [cb pb17 (psC (gvT T3 (got.getD k3 0)) (gvN T3 (got.getD k3 0) m3)) 74]]) (by rw [hgv_.1, hgv_.2]; try rfl) (h_.pick [1, 2, 0] (by decide) rfl))
            kernel_rfl
        · have qh98 := h98; try simp only [Bool.and_eq_true, Bool.or_eq_true, Bool.not_eq_true', Bool.not_eq_false', Bool.and_eq_false_iff, Bool.or_eq_false_iff, decide_eq_true_eq, decide_eq_false_iff_not, beq_iff_eq, bne_iff_ne, beq_eq_false_iff_ne, bne_eq_false_iff_eq] at qh98
          refine W.exit ?_
          refine hK89 _ _ _ ?_
          refine W.pick (LL' := [g44.seg 3 (mc (Value.int .i64) (ci (lst T 131072))), [cb pb17 (psC T3 m3) 74]]) [1, 2] (by decide) rfl ?_
          refine W.prune' [5, 8] [Value.pointer (some ⟨pb17, 0, none⟩), Value.slice g44.a ((ci (lst T 131072)).length) g44.cap] (by kernel_rfl) (fun f114 => ?_)
          refine W.seq (fun K115 hK115 => ?_)
          have hTT_ : T3 = T := bk_end (by have z_ := hbk3; rw [List.drop_eq_nil_of_le (by omega)] at z_; exact z_)
          refine W.region ?_
          refine Wl.run 1 (by kernel_rfl) ?_
          refine Wl.htS rfl (HtS.call (β := FS) (k := 21) (args := #[Value.pointer (some ⟨pb17, 0, none⟩), Value.int .i64 131072]) (Lin := [[cb pb17 (psC T3 m3) 74]]) (Lk := [g44.seg 3 (mc (Value.int .i64) (ci (lst T 131072)))]) (Mi := [pb17]) (Lo := fun g116 => [g116.seg 3 (mc (Value.int .i64) (ci (lst T3 131072))), [cb pb17 (psC T3 m3) 74], g44.seg 3 (mc (Value.int .i64) (ci (lst T 131072)))]) [1] [0] rfl (fun _ => by kernel_rfl) (by decide) rfl rfl rfl (fun w_ hm_ hl_ => (listed_c T3 m3 131072 pb17 _ hl_ (htab.mem0 hm_))) (fun _ => rfl)) (fun g116 ok117 => ?_)
          refine Wl.run 1 (by kernel_rfl) ?_
          refine Wl.nil ?_
          refine hK115 _ _ _ ?_
          refine W.pick (LL' := [g116.seg 3 (mc (Value.int .i64) (ci (lst T3 131072))), g44.seg 3 (mc (Value.int .i64) (ci (lst T 131072)))]) [0, 2] (by decide) rfl ?_
          refine W.prune' [8, 16] [Value.slice g44.a ((ci (lst T 131072)).length) g44.cap, Value.slice g116.a ((ci (lst T3 131072)).length) g116.cap] (by kernel_rfl) (fun f119 => ?_)
          refine W.seq (fun K120 hK120 => ?_)
          refine W.seq (fun K121 hK121 => ?_)
          have hlb_ := lst_bnd (T := T) (q := 131072)
          have hlc_ := lst_bnd (T := T3) (q := 131072)
          have hle_ : (ci (lst T3 131072)).length = (ci (lst T 131072)).length := by rw [hTT_]
          refine W.region ?_
          refine Wl.run 5 (by kernel_rfl) ?_
          refine Wl.nil ?_
          refine hK121 _ _ _ ?_
          refine W.prune' [8, 16, 91] [Value.slice g44.a ((ci (lst T 131072)).length) g44.cap, Value.slice g116.a ((ci (lst T3 131072)).length) g116.cap, Value.bool ((((ci (lst T 131072)).length : Nat) : Int) != (((ci (lst T3 131072)).length : Nat) : Int))] (by kernel_rfl) (fun f122 => ?_)
          refine W.cond ((((ci (lst T 131072)).length : Nat) : Int) != (((ci (lst T3 131072)).length : Nat) : Int)) (by kernel_rfl) (fun h123 => ?_) (fun h124 => ?_)
          · have qh123 := h123; try simp only [Bool.and_eq_true, Bool.or_eq_true, Bool.not_eq_true', Bool.not_eq_false', Bool.and_eq_false_iff, Bool.or_eq_false_iff, decide_eq_true_eq, decide_eq_false_iff_not, beq_iff_eq, bne_iff_ne, beq_eq_false_iff_ne, bne_eq_false_iff_eq] at qh123
            (exfalso; rw [hTT_] at h123; simp at h123)
          · have qh124 := h124; try simp only [Bool.and_eq_true, Bool.or_eq_true, Bool.not_eq_true', Bool.not_eq_false', Bool.and_eq_false_iff, Bool.or_eq_false_iff, decide_eq_true_eq, decide_eq_false_iff_not, beq_iff_eq, bne_iff_ne, beq_eq_false_iff_ne, bne_eq_false_iff_eq] at qh124
            refine W.skip' ?_
            refine hK120 _ _ _ ?_
            refine W.prune' [8, 16] [Value.slice g44.a ((ci (lst T 131072)).length) g44.cap, Value.slice g116.a ((ci (lst T3 131072)).length) g116.cap] (by kernel_rfl) (fun f125 => ?_)
            refine W.seq (fun K126 hK126 => ?_)
            refine W.seq (fun K127 hK127 => ?_)
            refine W.region ?_
            refine Wl.run 3 (by kernel_rfl) ?_
            refine Wl.nil ?_
            refine hK127 _ _ _ ?_
            refine W.prune' [8, 16, 93, 94] [Value.slice g44.a ((ci (lst T 131072)).length) g44.cap, Value.slice g116.a ((ci (lst T3 131072)).length) g116.cap, Value.int .i64 (((ci (lst T 131072)).length : Nat) : Int), Value.int .i64 0] (by kernel_rfl) (fun f128 => ?_)
            refine W.block ?_
            refine W.loop1 [8, 16, 93, 94] (fun (j : Nat) => [Value.slice g44.a ((ci (lst T 131072)).length) g44.cap, Value.slice g116.a ((ci (lst T3 131072)).length) g116.cap, Value.int .i64 (((ci (lst T 131072)).length : Nat) : Int), Value.int .i64 ((j : Nat) : Int)]) (fun (j : Nat) => j ≤ (ci (lst T 131072)).length) (fun (j : Nat) => [g116.seg 3 (mc (Value.int .i64) (ci (lst T3 131072))), g44.seg 3 (mc (Value.int .i64) (ci (lst T 131072)))]) (fun (j : Nat) => (ci (lst T 131072)).length - j) 0 (by kernel_rfl) (Nat.zero_le _) (by rfl) (fun j f130 J129 hp131 hJ129 => ?_)
            have hj := hp131
            refine W.seq (fun K132 hK132 => ?_)
            refine W.region ?_
            refine Wl.run 1 (by kernel_rfl) ?_
            refine Wl.nil ?_
            refine hK132 _ _ _ ?_
            refine W.seq (fun K133 hK133 => ?_)
            refine W.cond (decide (((j : Nat) : Int) < (((ci (lst T 131072)).length : Nat) : Int))) (by kernel_rfl) (fun h134 => ?_) (fun h135 => ?_)
            · have qh134 := h134; try simp only [Bool.and_eq_true, Bool.or_eq_true, Bool.not_eq_true', Bool.not_eq_false', Bool.and_eq_false_iff, Bool.or_eq_false_iff, decide_eq_true_eq, decide_eq_false_iff_not, beq_iff_eq, bne_iff_ne, beq_eq_false_iff_ne, bne_eq_false_iff_eq] at qh134
              refine W.skip' ?_
              refine hK133 _ _ _ ?_
              refine W.prune' [8, 16, 93, 94] [Value.slice g44.a ((ci (lst T 131072)).length) g44.cap, Value.slice g116.a ((ci (lst T3 131072)).length) g116.cap, Value.int .i64 (((ci (lst T 131072)).length : Nat) : Int), Value.int .i64 ((j : Nat) : Int)] (by kernel_rfl) (fun f136 => ?_)
              refine W.seq (fun K137 hK137 => ?_)
              refine W.block ?_
              refine W.seq (fun K138 hK138 => ?_)
              refine W.region ?_
              refine Wl.run 2 (by kernel_rfl) ?_
              refine Wl.nil ?_
              refine hK138 _ _ _ ?_
              refine W.prune' [8, 16, 17, 93, 94] [Value.slice g44.a ((ci (lst T 131072)).length) g44.cap, Value.slice g116.a ((ci (lst T3 131072)).length) g116.cap, Value.int .i64 ((j : Nat) : Int), Value.int .i64 (((ci (lst T 131072)).length : Nat) : Int), Value.int .i64 ((j : Nat) : Int)] (by kernel_rfl) (fun f139 => ?_)
              refine W.seq (fun K140 hK140 => ?_)
              refine W.draws [(0, true), (1, true), (2, true), (3, true), (4, true), (5, false), (6, false), (7, false), (8, false)] [0, 1, 2, 3, 4] (Mem w [] [g116.seg 3 (mc (Value.int .i64) (ci (lst T3 131072))), g44.seg 3 (mc (Value.int .i64) (ci (lst T 131072)))]) (by kernel_rfl) (by kernel_rfl) (by kernel_rfl) rfl (by kernel_rfl) (fun _ _ h_ => h_.drawn _) (fun _ h_ => h_) ?_
              refine Wd.run 2 (by kernel_rfl) ?_
              refine Wd.ys (v := Value.pointer (some (ela g44.a (j * 1)))) rfl rfl rfl (Ys.indexAddr (k := .i64) (a := g44.a) (len := (ci (lst T 131072)).length) (cap := g44.cap) (i := ((j : Nat) : Int)) (sz := 1) rfl (by kernel_rfl) (by kernel_rfl) Tryd.runUnderlying50 Tryd.sizeOf3 (by omega) (by omega) (by rw [FS.a_own (FS.notnil ok45 (by omega))]; rfl)) ?_
              refine Wd.ys (v := Value.int .i64 ((ci (lst T 131072)).getD j 0)) rfl rfl rfl (Ys.ld (a := ela g44.a (j * 1)) rfl (by kernel_rfl) Tryd.isAgg3 (fun w_ h_ => (FS.at (i := 1) (t := 3) h_ rfl (FS.nil_cs ok45 (mc_len1 _))).ld (mc_get1 0 (by first | omega | (simp; omega))))) ?_
              refine Wd.run 1 (by kernel_rfl) ?_
              refine Wd.yc (v := Value.int .i64 ((j : Nat) : Int)) rfl rfl rfl (Ys.yc (Ys.pure (fun _ => by kernel_rfl))) (.inr fun _ h_ => h_) ?_
              refine Wd.yc (v := Value.pointer (some (ela g116.a (j * 1)))) rfl rfl rfl (Ys.yc (Ys.indexAddr (k := .i64) (a := g116.a) (len := (ci (lst T3 131072)).length) (cap := g116.cap) (i := ((j : Nat) : Int)) (sz := 1) rfl (by kernel_rfl) (by kernel_rfl) Tryd.runUnderlying50 Tryd.sizeOf3 (by omega) (by omega) (by rw [FS.a_own (FS.notnil ok117 (by omega))]; rfl))) (.inr fun _ h_ => h_) ?_
              refine Wd.yc (v := Value.int .i64 ((ci (lst T3 131072)).getD j 0)) rfl rfl rfl (Ys.yc (Ys.ld (a := ela g116.a (j * 1)) rfl (by kernel_rfl) Tryd.isAgg3 (fun w_ h_ => (FS.at (i := 0) (t := 3) h_ rfl (FS.nil_cs ok117 (mc_len1 _))).ld (mc_get1 0 (by first | omega | (simp; omega)))))) (.inr fun _ h_ => h_) ?_
              refine Wd.yc (v := Value.bool (((ci (lst T 131072)).getD j 0) != ((ci (lst T3 131072)).getD j 0))) rfl rfl rfl (Ys.yc (Ys.pure (fun _ => by kernel_rfl))) (.inr fun _ h_ => h_) ?_
              refine Wd.nil ?_
              refine hK140 _ _ _ ?_
              refine W.prune' [8, 16, 93, 94, 105] [Value.slice g44.a ((ci (lst T 131072)).length) g44.cap, Value.slice g116.a ((ci (lst T3 131072)).length) g116.cap, Value.int .i64 (((ci (lst T 131072)).length : Nat) : Int), Value.int .i64 ((j : Nat) : Int), Value.bool (((ci (lst T 131072)).getD j 0) != ((ci (lst T3 131072)).getD j 0))] (by kernel_rfl) (fun f141 => ?_)
              refine W.cond (((ci (lst T 131072)).getD j 0) != ((ci (lst T3 131072)).getD j 0)) (by kernel_rfl) (fun h142 => ?_) (fun h143 => ?_)
              · have qh142 := h142; try simp only [Bool.and_eq_true, Bool.or_eq_true, Bool.not_eq_true', Bool.not_eq_false', Bool.and_eq_false_iff, Bool.or_eq_false_iff, decide_eq_true_eq, decide_eq_false_iff_not, beq_iff_eq, bne_iff_ne, beq_eq_false_iff_ne, bne_eq_false_iff_eq] at qh142
                (exfalso; rw [hTT_] at h142; simp at h142)
              · have qh143 := h143; try simp only [Bool.and_eq_true, Bool.or_eq_true, Bool.not_eq_true', Bool.not_eq_false', Bool.and_eq_false_iff, Bool.or_eq_false_iff, decide_eq_true_eq, decide_eq_false_iff_not, beq_iff_eq, bne_iff_ne, beq_eq_false_iff_ne, bne_eq_false_iff_eq] at qh143
                refine W.skip' ?_
                refine hK137 _ _ _ ?_
                refine W.prune' [8, 16, 93, 94] [Value.slice g44.a ((ci (lst T 131072)).length) g44.cap, Value.slice g116.a ((ci (lst T3 131072)).length) g116.cap, Value.int .i64 (((ci (lst T 131072)).length : Nat) : Int), Value.int .i64 ((j : Nat) : Int)] (by kernel_rfl) (fun f144 => ?_)
                refine W.region ?_
                refine Wl.ys (v := Value.int .i64 ((j + 1 : Nat) : Int)) rfl rfl ((Ys.pure (v := .int .i64 (iadd .i64 ((j : Nat) : Int) 1)) (fun _ => by kernel_rfl)).conseq (int_congr (iadd_eq (by omega) (by omega) (by omega)))) ?_
                refine Wl.run 1 (by kernel_rfl) ?_
                refine Wl.nil ?_
                refine fun w_ h_ => hJ129 (j + 1) _ w_ (by omega) (by omega) ?_ h_
                kernel_rfl
            · have qh135 := h135; try simp only [Bool.and_eq_true, Bool.or_eq_true, Bool.not_eq_true', Bool.not_eq_false', Bool.and_eq_false_iff, Bool.or_eq_false_iff, decide_eq_true_eq, decide_eq_false_iff_not, beq_iff_eq, bne_iff_ne, beq_eq_false_iff_ne, bne_eq_false_iff_eq] at qh135
              refine W.exit ?_
              refine hK126 _ _ _ ?_
              refine W.pick (LL' := []) [] (by decide) rfl ?_
              refine W.prune' [] [] (by kernel_rfl) (fun f145 => ?_)
              refine W.seq (fun K146 hK146 => ?_)
              refine W.region ?_
              refine Wl.run 1 (by kernel_rfl) ?_
              refine Wl.nil ?_
              refine hK146 _ _ _ ?_
              refine W.ret ?_
              show ∀ w_, _ → bodyPostM (fence none) 0 Tryd.prog Tryd.f7 _ Exit.ret _ w_
              exact fun w_ hS_ => fin_ret (ret1 rfl (RV.tmp (v := Value.bool true) (by kernel_rfl)) hS_ ⟨rfl, hS_.below⟩)

end Go.Proofs.YtnhmajdpjapgjaaDoor.Oct
