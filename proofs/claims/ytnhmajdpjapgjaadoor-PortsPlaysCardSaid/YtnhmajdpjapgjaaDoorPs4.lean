/-
  PortsLow. No condition.
-/
import Derived.Test.YtnhmajdpjapgjaaDoorPs3
import Derived.Test.YtnhmajdpjapgjaaDoorVI
set_option linter.unusedVariables false
set_option linter.unusedSimpArgs false
set_option maxRecDepth 20000
namespace Go.Proofs.YtnhmajdpjapgjaaDoor.Oct
open Go.RowKit Base
attribute [local irreducible] Ys Yc Ht HtS HtIn Wl Wd W Mem pf dpf Wa Wo

/-- What of the first ports is taken, as a list. -/
def tb (T : Nat → Bool) : List Bool := (List.range 65536).map T
theorem tb_len (T : Nat → Bool) : (tb T).length = 65536 := by unfold tb; rw [List.length_map, List.length_range]
theorem tb_get {T : Nat → Bool} {q : Nat} (h : q < 65536) : (tb T).getD q false = T q := by
  unfold tb; rw [List.getD_eq_getElem?_getD, List.getElem?_map, List.getElem?_range h]; rfl
theorem tb_set {T : Nat → Bool} {q : Nat} (v : Bool) (h : q < 65536) : (tb T).set q v = tb (up T q v) := by
  apply List.ext_getElem?
  intro i
  rw [List.getElem?_set]
  by_cases hi : i < 65536
  · by_cases hq : q = i
    · subst hq
      rw [if_pos rfl, if_pos (by rw [tb_len]; exact h)]
      unfold tb; rw [List.getElem?_map, List.getElem?_range h, Option.map_some, up_same]
    · rw [if_neg hq]; unfold tb; rw [List.getElem?_map, List.getElem?_map, List.getElem?_range hi, Option.map_some, Option.map_some, up_other _ _ (fun e => hq e.symm)]
  · rw [if_neg (by omega), List.getElem?_eq_none (by rw [tb_len]; omega), List.getElem?_eq_none (by rw [tb_len]; omega)]
theorem tb_zero : List.replicate 65536 false = tb (fun _ => false) := by
  apply List.ext_getElem?
  intro i
  rw [List.getElem?_replicate]
  by_cases hi : i < 65536
  · rw [if_pos hi]; unfold tb; rw [List.getElem?_map, List.getElem?_range hi]; rfl
  · rw [if_neg hi, List.getElem?_eq_none (by rw [tb_len]; omega)]
theorem getD_mem7 {α : Type} {p : α → Prop} {xs : List α} (h : ∀ x ∈ xs, p x) {d : α} {k : Nat} (hk : k < xs.length) : p (xs.getD k d) := by
  rw [List.getD_eq_getElem?_getD, List.getElem?_eq_getElem hk, Option.getD_some]; exact h _ (List.getElem_mem hk)
theorem getD_lt7 {xs : List Nat} (h : ∀ x ∈ xs, x < 65536) (k : Nat) : xs.getD k 0 < 65536 := by
  by_cases hk : k < xs.length
  · exact getD_mem7 h hk
  · rw [List.getD_eq_getElem?_getD, List.getElem?_eq_none (by omega)]; decide
theorem tk_at (T : Nat → Bool) (q p : Nat) : tkT T q p = (T p || (decide (p = q) && !decide (p < 1024))) := by
  unfold tkT tkB
  by_cases h : p = q
  · subst h
    by_cases h2 : p < 1024 <;> cases ht : T p <;> simp [h2, ht, up_same]
  · cases !(decide (q < 1024) || T q)
    · simp [h]
    · simp [h, up_other T true h]
theorem gv_off (T : Nat → Bool) (p : Nat) : gvT T p p = false := by
  unfold gvT; cases h : T p
  · exact h
  · exact up_same _ _ _
theorem tk_neq {T : Nat → Bool} {q : Nat} : tkB T q = ((decide (((q : Nat) : Int) ≥ 1024)) && (!(T q))) := by
  unfold tkB
  rw [show decide (((q : Nat) : Int) ≥ 1024) = !decide (q < 1024) from by rw [← decide_not]; exact decide_eq_decide.2 (by omega)]
  cases T q <;> simp
theorem low_c (pn : Nat) (ns : List Nat) (na : Option Addr) (ncap : Nat) (w : World) (hpn : pn < 65536) (hns : At w na (mc n16 ns)) (hnl : ns.length ≤ 9223372036854775807) (hnc : ns.length ≤ ncap) (hnb : ∀ x ∈ ns, x < 65536) (htab : At w (some ⟨1, 0, none⟩) (byc dbt)) : Calls Tryd.prog 4 #[Value.int .u16 ((pn : Nat) : Int), Value.slice na ns.length ncap] w (Ret w (.bool true)) := by
  have hll : ([pn] ++ ns).length = ns.length + 1 := List.length_cons; have hnb1 : ∀ x ∈ [pn] ++ ns, x < 65536 := (fun x hx => (List.mem_append.1 hx).elim (fun h => by rw [List.mem_singleton.1 h]; exact hpn) (hnb x))
  refine calls_W (M := []) (LL := []) (n := 82) Tryd.func4 rfl rfl (by simp) (Mem.refl _) ?_
  refine W.seq (fun K1 hK1 => ?_)
  refine W.region ?_
  refine Wl.run 1 (by kernel_rfl) ?_
  refine Wl.nil ?_
  refine hK1 _ _ _ ?_
  refine W.seq (fun K2 hK2 => ?_)
  refine W.seq (fun K3 hK3 => ?_)
  refine W.region ?_
  refine Wl.yc (v := Value.bool true) rfl rfl (Yc.call (k := 10) (args := #[]) (fun _ => by kernel_rfl) (fun w_ hm_ => speaks7_c _ (htab.mem0 hm_))) ?_
  refine Wl.run 1 (by kernel_rfl) ?_
  refine Wl.nil ?_
  refine hK3 _ _ _ ?_
  refine W.prune' [0, 1, 11] [Value.int .u16 ((pn : Nat) : Int), Value.slice na ns.length ncap, Value.bool false] (by kernel_rfl) (fun f4 => ?_)
  refine W.condF (by kernel_rfl) ?_
  refine W.skip' ?_
  refine hK2 _ _ _ ?_
  refine W.prune' [0, 1] [Value.int .u16 ((pn : Nat) : Int), Value.slice na ns.length ncap] (by kernel_rfl) (fun f5 => ?_)
  refine W.seq (fun K6 hK6 => ?_)
  refine W.seq (fun K7 hK7 => ?_)
  refine W.region ?_
  refine Wl.run 3 (by kernel_rfl) ?_
  refine Wl.nil ?_
  refine hK7 _ _ _ ?_
  refine W.prune' [0, 1, 14] [Value.int .u16 ((pn : Nat) : Int), Value.slice na ns.length ncap, Value.bool (decide (((ns.length : Nat) : Int) > 200))] (by kernel_rfl) (fun f8 => ?_)
  refine W.cond (decide (((ns.length : Nat) : Int) > 200)) (by kernel_rfl) (fun h9 => ?_) (fun h10 => ?_)
  · have qh9 := h9; try simp only [Bool.and_eq_true, Bool.or_eq_true, Bool.not_eq_true', Bool.not_eq_false', Bool.and_eq_false_iff, Bool.or_eq_false_iff, decide_eq_true_eq, decide_eq_false_iff_not, beq_iff_eq, bne_iff_ne, beq_eq_false_iff_ne, bne_eq_false_iff_eq] at qh9
    refine W.seq (fun K11 hK11 => ?_)
    refine W.region ?_
    refine Wl.run 1 (by kernel_rfl) ?_
    refine Wl.nil ?_
    refine hK11 _ _ _ ?_
    refine W.ret ?_
    show ∀ w_, _ → bodyPostM (fence none) 0 Tryd.prog Tryd.f4 _ Exit.ret _ w_
    exact fun w_ hS_ => fin_ret (ret1 rfl (RV.tmp (v := Value.bool true) (by kernel_rfl)) hS_ ⟨rfl, hS_.below⟩)
  · have qh10 := h10; try simp only [Bool.and_eq_true, Bool.or_eq_true, Bool.not_eq_true', Bool.not_eq_false', Bool.and_eq_false_iff, Bool.or_eq_false_iff, decide_eq_true_eq, decide_eq_false_iff_not, beq_iff_eq, bne_iff_ne, beq_eq_false_iff_ne, bne_eq_false_iff_eq] at qh10
    refine W.skip' ?_
    refine hK6 _ _ _ ?_
    refine W.prune' [0, 1] [Value.int .u16 ((pn : Nat) : Int), Value.slice na ns.length ncap] (by kernel_rfl) (fun f12 => ?_)
    refine W.seq (fun K13 hK13 => ?_)
    refine W.meet2 (w0 := w) (M := []) K13 [0, 1, 5, 6, 7] (fun (pb14 : Nat) (p16 : Nat) => [Value.int .u16 ((pn : Nat) : Int), Value.slice na ns.length ncap, Value.pointer (some ⟨pb14, 0, none⟩), Value.int .i64 0, Value.slice (some ⟨p16, 0, none⟩) 65536 65536]) (fun (pb14 : Nat) (p16 : Nat) => True) (fun (pb14 : Nat) (p16 : Nat) => [[cb p16 (mc Value.bool (List.replicate 65536 false)) 4], [cb pb14 (psC (fun _ => false) 0) 74]]) (fun J14 hJ14 => ?_) (fun pb14 p16 f15 hp16 => ?_)
    · refine W.drawsA [2, 3, 4] (Mem w [] []) (by kernel_rfl) (by kernel_rfl) (fun _ _ h_ => h_.drawn _) ?_
      refine Wa.alt2 (i := 0) (j := 1) (by kernel_rfl) ?_ ?_
      · refine Wo.htS rfl rfl (HtS.call (β := Nat) (k := 11) (args := #[]) (Lin := []) (Lk := []) (Mi := []) (Lo := fun pb17 => [[cb pb17 (psC (fun _ => false) 0) 74]]) [] [] rfl (fun _ => by kernel_rfl) (by decide) rfl rfl rfl (fun w_ hm_ hl_ => (new_c _)) (fun _ => rfl)) (.inr fun _ _ h_ => h_.pick [] (by decide) rfl) (fun pb17 _ => ?_)
        refine Wa.ys (v := Value.pointer (some ⟨pb17, 0, none⟩)) (i := 2) (by kernel_rfl) (by kernel_rfl) (by kernel_rfl) (by kernel_rfl) (fun _ h_ => h_.pick [] (by decide) rfl) rfl rfl rfl (Ys.pure (fun _ => by kernel_rfl)) ?_
        refine Wa.ys (v := Value.int .i64 0) (i := 3) (by kernel_rfl) (by kernel_rfl) (by kernel_rfl) (by kernel_rfl) (fun _ h_ => h_.pick [] (by decide) rfl) rfl rfl rfl (Ys.pure (fun _ => by kernel_rfl)) ?_
        refine Wa.only (i := 1) (by kernel_rfl) ?_
        refine Wo.ht rfl rfl (Ht.make (kl := .i64) (kc := .i64) (t := 27) (e := 4) (ii := (Tryd.prog.info? 4).getD default) (z := Value.bool false) (lv := 65536) (sz := 1) (bytes := 1) (cs := mc Value.bool (List.replicate 65536 false)) rfl rfl (by kernel_rfl) (by kernel_rfl) (by kernel_rfl) (by kernel_rfl) (by kernel_rfl) (by kernel_rfl) (by kernel_rfl) (by omega) (by omega) (by omega) (mc_zero (g := Value.bool) _ false rfl)) (.inr fun _ _ h_ => h_.pick [] (by decide) rfl) (fun p16 => ?_)
        refine Wa.ys (v := Value.slice (some ⟨p16, 0, none⟩) 65536 65536) (i := 4) (by kernel_rfl) (by kernel_rfl) (by kernel_rfl) (by kernel_rfl) (fun _ h_ => h_.pick [] (by decide) rfl) rfl rfl rfl (Ys.pure (fun _ => by kernel_rfl)) ?_
        refine Wa.nil (by kernel_rfl) ?_
        refine fun w_ h_ => hJ14 pb17 p16 _ w_ trivial (by kernel_rfl) h_
      · refine Wo.ht rfl rfl (Ht.make (kl := .i64) (kc := .i64) (t := 27) (e := 4) (ii := (Tryd.prog.info? 4).getD default) (z := Value.bool false) (lv := 65536) (sz := 1) (bytes := 1) (cs := mc Value.bool (List.replicate 65536 false)) rfl rfl (by kernel_rfl) (by kernel_rfl) (by kernel_rfl) (by kernel_rfl) (by kernel_rfl) (by kernel_rfl) (by kernel_rfl) (by omega) (by omega) (by omega) (mc_zero (g := Value.bool) _ false rfl)) (.inr fun _ _ h_ => h_.pick [] (by decide) rfl) (fun p16 => ?_)
        refine Wa.only (i := 0) (by kernel_rfl) ?_
        refine Wo.htS rfl rfl (HtS.call (β := Nat) (k := 11) (args := #[]) (Lin := []) (Lk := [[cb p16 (mc Value.bool (List.replicate 65536 false)) 4]]) (Mi := []) (Lo := fun pb19 => [[cb pb19 (psC (fun _ => false) 0) 74], [cb p16 (mc Value.bool (List.replicate 65536 false)) 4]]) [] [0] rfl (fun _ => by kernel_rfl) (by decide) rfl rfl rfl (fun w_ hm_ hl_ => (new_c _)) (fun _ => rfl)) (.inr fun _ _ h_ => h_.pick [] (by decide) rfl) (fun pb19 _ => ?_)
        refine Wa.ys (v := Value.pointer (some ⟨pb19, 0, none⟩)) (i := 2) (by kernel_rfl) (by kernel_rfl) (by kernel_rfl) (by kernel_rfl) (fun _ h_ => h_.pick [] (by decide) rfl) rfl rfl rfl (Ys.pure (fun _ => by kernel_rfl)) ?_
        refine Wa.ys (v := Value.int .i64 0) (i := 3) (by kernel_rfl) (by kernel_rfl) (by kernel_rfl) (by kernel_rfl) (fun _ h_ => h_.pick [] (by decide) rfl) rfl rfl rfl (Ys.pure (fun _ => by kernel_rfl)) ?_
        refine Wa.ys (v := Value.slice (some ⟨p16, 0, none⟩) 65536 65536) (i := 4) (by kernel_rfl) (by kernel_rfl) (by kernel_rfl) (by kernel_rfl) (fun _ h_ => h_.pick [] (by decide) rfl) rfl rfl rfl (Ys.pure (fun _ => by kernel_rfl)) ?_
        refine Wa.nil (by kernel_rfl) ?_
        refine fun w_ h_ => hJ14 pb19 p16 _ w_ trivial (by kernel_rfl) (h_.pick [1, 0] (by decide) rfl)
    · refine hK13 _ _ _ ?_
      refine W.seq (fun K21 hK21 => ?_)
      refine W.seq (fun K22 hK22 => ?_)
      refine W.region ?_
      refine Wl.run 2 (by kernel_rfl) ?_
      refine Wl.nil ?_
      refine hK22 _ _ _ ?_
      refine W.prune' [0, 1, 5, 6, 7, 18] [Value.int .u16 ((pn : Nat) : Int), Value.slice na ns.length ncap, Value.pointer (some ⟨pb14, 0, none⟩), Value.int .i64 0, Value.slice (some ⟨p16, 0, none⟩) 65536 65536, Value.bool false] (by kernel_rfl) (fun f23 => ?_)
      refine W.condF (by kernel_rfl) ?_
      refine W.skip' ?_
      refine hK21 _ _ _ ?_
      refine W.prune' [0, 1, 5, 6, 7] [Value.int .u16 ((pn : Nat) : Int), Value.slice na ns.length ncap, Value.pointer (some ⟨pb14, 0, none⟩), Value.int .i64 0, Value.slice (some ⟨p16, 0, none⟩) 65536 65536] (by kernel_rfl) (fun f24 => ?_)
      refine W.seq (fun K25 hK25 => ?_)
      refine W.seq (fun K26 hK26 => ?_)
      refine W.pick (LL' := [[cb p16 (mc Value.bool (tb (fun _ => false))) 4], [cb pb14 (psC (fun _ => false) 0) 74]]) [0, 1] (by decide) (by rw [tb_zero]; rfl) ?_
      refine W.region ?_
      refine Wl.run 1 (by kernel_rfl) ?_
      refine Wl.ht rfl (Ht.made (mk := fun b_ => .slice (some ⟨b_, 0, none⟩) 1 1) (t := 23) (cs := [Value.int .u16 ((pn : Nat) : Int)]) rfl (fun _ => by kernel_rfl)) (fun p20 => ?_)
      refine Wl.run 1 (by kernel_rfl) ?_
      refine Wl.htS rfl (HtS.append (eu := 23) (xv := Value.slice na ns.length ncap) (i := 0) (g := (FS.mk false p20 1 [])) (e := 23) (ii := (Tryd.prog.info? 23).getD default) (z := Value.int .u16 0) (sz := 1) (bytes := 2) (nn := 1) (m := ns.length) (k := ([pn] ++ ns).length) (xs := mc n16 [pn]) (news := mc n16 ns) (cs' := mc n16 ([pn] ++ ns)) (Lo := fun g27 => [g27.seg 23 (mc n16 ([pn] ++ ns)), [cb p16 (mc Value.bool (tb (fun _ => false))) 4], [cb pb14 (psC (fun _ => false) 0) 74]]) rfl rfl (by kernel_rfl) (by kernel_rfl) (by kernel_rfl) (by kernel_rfl) (by kernel_rfl) (by kernel_rfl) (by kernel_rfl) (by kernel_rfl) (by kernel_rfl) rfl (FS.lit_ok (by decide)) (by first | rfl | simp [mc, be_len]) (fun _ => rfl) (Src.at (a := na) (mc_len1 _) (fun w_ h_ => (hns.mem0 h_))) (mc_len1 _) (mc_one (fun _ => rfl) _) (by first | omega | (simp; done) | (simp; omega)) (by simp only [maxLen]; first | omega | (simp; done) | (simp; omega)) (by first | omega | (simp; done) | (simp; omega)) (mc_app _ _) (fun _ => rfl)) (fun g27 hx32 => ?_)
      obtain ⟨ok28, hn29, hn30⟩ := hx32
      refine Wl.run 2 (by kernel_rfl) ?_
      refine Wl.nil ?_
      refine hK26 _ _ _ ?_
      refine W.prune' [0, 5, 6, 7, 22, 23, 24] [Value.int .u16 ((pn : Nat) : Int), Value.pointer (some ⟨pb14, 0, none⟩), Value.int .i64 0, Value.slice (some ⟨p16, 0, none⟩) 65536 65536, Value.slice g27.a (([pn] ++ ns).length) g27.cap, Value.int .i64 ((([pn] ++ ns).length : Nat) : Int), Value.int .i64 0] (by kernel_rfl) (fun f33 => ?_)
      refine W.block ?_
      refine W.loop3 [0, 5, 6, 7, 22, 23, 24] (fun (k : Nat) (T : Nat → Bool) (c : Nat) => [Value.int .u16 ((pn : Nat) : Int), Value.pointer (some ⟨pb14, 0, none⟩), Value.int .i64 ((c : Nat) : Int), Value.slice (some ⟨p16, 0, none⟩) 65536 65536, Value.slice g27.a (([pn] ++ ns).length) g27.cap, Value.int .i64 ((([pn] ++ ns).length : Nat) : Int), Value.int .i64 ((k : Nat) : Int)]) (fun (k : Nat) (T : Nat → Bool) (c : Nat) => k ≤ ns.length + 1 ∧ c ≤ k ∧ (∀ q, q < 1024 → T q = false) ∧ T pn = (decide (0 < k) && decide (1024 ≤ pn))) (fun (k : Nat) (T : Nat → Bool) (c : Nat) => [g27.seg 23 (mc n16 ([pn] ++ ns)), [cb p16 (mc Value.bool (tb T)) 4], [cb pb14 (psC T ((c : Nat) : Int)) 74]]) (fun (k : Nat) (T : Nat → Bool) (c : Nat) => ns.length + 1 - k) 0 (fun _ => false) 0 (by kernel_rfl) ⟨(Nat.zero_le _), (Nat.le_refl _), (fun _ _ => rfl), rfl⟩ (by rfl) (fun k T c f35 J34 hp36 hJ34 => ?_)
      obtain ⟨hk, hc, hlo, hTp⟩ := hp36
      have htl := tb_len T; obtain ⟨qv, hqv⟩ : ∃ q, q = ([pn] ++ ns).getD k 0 := ⟨_, rfl⟩; have hql : qv < 65536 := (by rw [hqv]; exact getD_lt7 hnb1 k)
      refine W.seq (fun K37 hK37 => ?_)
      refine W.region ?_
      refine Wl.run 1 (by kernel_rfl) ?_
      refine Wl.nil ?_
      refine hK37 _ _ _ ?_
      refine W.seq (fun K38 hK38 => ?_)
      refine W.cond (decide (((k : Nat) : Int) < ((([pn] ++ ns).length : Nat) : Int))) (by kernel_rfl) (fun h39 => ?_) (fun h40 => ?_)
      · have qh39 := h39; try simp only [Bool.and_eq_true, Bool.or_eq_true, Bool.not_eq_true', Bool.not_eq_false', Bool.and_eq_false_iff, Bool.or_eq_false_iff, decide_eq_true_eq, decide_eq_false_iff_not, beq_iff_eq, bne_iff_ne, beq_eq_false_iff_ne, bne_eq_false_iff_eq] at qh39
        refine W.skip' ?_
        refine hK38 _ _ _ ?_
        refine W.prune' [0, 5, 6, 7, 22, 23, 24] [Value.int .u16 ((pn : Nat) : Int), Value.pointer (some ⟨pb14, 0, none⟩), Value.int .i64 ((c : Nat) : Int), Value.slice (some ⟨p16, 0, none⟩) 65536 65536, Value.slice g27.a (([pn] ++ ns).length) g27.cap, Value.int .i64 ((([pn] ++ ns).length : Nat) : Int), Value.int .i64 ((k : Nat) : Int)] (by kernel_rfl) (fun f41 => ?_)
        refine W.seq (fun K42 hK42 => ?_)
        refine W.block ?_
        refine W.seq (fun K43 hK43 => ?_)
        refine W.region ?_
        refine Wl.ys (v := Value.pointer (some (ela g27.a (k * 1)))) rfl rfl (Ys.indexAddr (k := .i64) (a := g27.a) (len := ([pn] ++ ns).length) (cap := g27.cap) (i := ((k : Nat) : Int)) (sz := 1) rfl (by kernel_rfl) (by kernel_rfl) Tryd.runUnderlying33 Tryd.sizeOf23 (by omega) (by omega) (by rw [FS.a_own ((hn29 (by first | omega | (simp; omega))))]; rfl)) ?_
        refine Wl.ys (v := Value.int .u16 ((qv : Nat) : Int)) rfl rfl (Ys.conseq (v := Value.int .u16 ((([pn] ++ ns).getD k 0 : Nat) : Int)) (int_congr (congrArg (fun n : Nat => (n : Int)) hqv.symm)) (Ys.ld (a := ela g27.a (k * 1)) rfl (by kernel_rfl) Tryd.isAgg23 (fun w_ h_ => (FS.at (i := 0) (t := 23) h_ rfl (FS.nil_cs ok28 (mc_len1 _))).ld (mc_get1 0 (by first | omega | (simp; omega)))))) ?_
        refine Wl.run 1 (by kernel_rfl) ?_
        refine Wl.nil ?_
        refine hK43 _ _ _ ?_
        refine W.prune' [0, 5, 6, 7, 9, 22, 23, 24] [Value.int .u16 ((pn : Nat) : Int), Value.pointer (some ⟨pb14, 0, none⟩), Value.int .i64 ((c : Nat) : Int), Value.slice (some ⟨p16, 0, none⟩) 65536 65536, Value.int .u16 ((qv : Nat) : Int), Value.slice g27.a (([pn] ++ ns).length) g27.cap, Value.int .i64 ((([pn] ++ ns).length : Nat) : Int), Value.int .i64 ((k : Nat) : Int)] (by kernel_rfl) (fun f44 => ?_)
        refine W.seq (fun K45 hK45 => ?_)
        refine W.seq (fun K46 hK46 => ?_)
        refine W.region ?_
        refine Wl.run 2 (by kernel_rfl) ?_
        have hN49 := tkN_bd T qv ((c : Nat) : Int)
        refine Wl.htS rfl (HtS.call (β := Unit) (k := 15) (args := #[Value.pointer (some ⟨pb14, 0, none⟩), Value.int .u16 ((qv : Nat) : Int)]) (Lin := [[cb pb14 (psC T ((c : Nat) : Int)) 74]]) (Lk := [g27.seg 23 (mc n16 ([pn] ++ ns)), [cb p16 (mc Value.bool (tb T)) 4]]) (Mi := [pb14]) (Lo := fun u47 => [[cb pb14 (psC (tkT T qv) (tkN T qv ((c : Nat) : Int))) 74], g27.seg 23 (mc n16 ([pn] ++ ns)), [cb p16 (mc Value.bool (tb T)) 4]]) [2] [0, 1] rfl (fun _ => by kernel_rfl) (by decide) rfl rfl rfl (fun w_ hm_ hl_ => (take_c T ((c : Nat) : Int) pb14 qv _ hl_ (by omega) (by omega) (by omega))) (fun _ => rfl)) (fun u47 _ => ?_)
        refine Wl.run 3 (by kernel_rfl) ?_
        refine Wl.guard (v := Value.slice (some ⟨p16, 0, none⟩) 65536 65536) (decide (((qv : Nat) : Int) ≥ 1024)) rfl (wantT rfl (by kernel_rfl)) rfl (fun hg50 => ?_) ?_
        · have qhg50 := hg50; try simp only [Bool.and_eq_true, Bool.or_eq_true, Bool.not_eq_true', Bool.not_eq_false', Bool.and_eq_false_iff, Bool.or_eq_false_iff, decide_eq_true_eq, decide_eq_false_iff_not, beq_iff_eq, bne_iff_ne, beq_eq_false_iff_ne, bne_eq_false_iff_eq] at qhg50
          exact Ys.pure (fun _ => by kernel_rfl)
        refine Wl.guard (v := Value.int .u16 ((qv : Nat) : Int)) (decide (((qv : Nat) : Int) ≥ 1024)) rfl (wantT rfl (by kernel_rfl)) rfl (fun hg51 => ?_) ?_
        · have qhg51 := hg51; try simp only [Bool.and_eq_true, Bool.or_eq_true, Bool.not_eq_true', Bool.not_eq_false', Bool.and_eq_false_iff, Bool.or_eq_false_iff, decide_eq_true_eq, decide_eq_false_iff_not, beq_iff_eq, bne_iff_ne, beq_eq_false_iff_ne, bne_eq_false_iff_eq] at qhg51
          exact Ys.pure (fun _ => by kernel_rfl)
        refine Wl.guard (v := Value.pointer (some ⟨p16, qv * 1, none⟩)) (decide (((qv : Nat) : Int) ≥ 1024)) rfl (wantT rfl (by kernel_rfl)) rfl (fun hg52 => ?_) ?_
        · have qhg52 := hg52; try simp only [Bool.and_eq_true, Bool.or_eq_true, Bool.not_eq_true', Bool.not_eq_false', Bool.and_eq_false_iff, Bool.or_eq_false_iff, decide_eq_true_eq, decide_eq_false_iff_not, beq_iff_eq, bne_iff_ne, beq_eq_false_iff_ne, bne_eq_false_iff_eq] at qhg52
          refine Ys.at (t := 34) (v0 := Value.slice (some ⟨p16, 0, none⟩) 65536 65536) (lz (g := decide (((qv : Nat) : Int) ≥ 1024)) (u := undef) hg52 (by kernel_rfl)) ?_
          refine Ys.at (t := 35) (v0 := Value.int .u16 ((qv : Nat) : Int)) (lz (g := decide (((qv : Nat) : Int) ≥ 1024)) (u := undef) hg52 (by kernel_rfl)) ?_
          exact (Ys.indexAddr (k := .u16) (a := some ⟨p16, 0, none⟩) (len := 65536) (cap := 65536) (i := ((qv : Nat) : Int)) (sz := 1) rfl (by kernel_rfl) (by kernel_rfl) Tryd.runUnderlying27 Tryd.sizeOf4 (by omega) (by omega) rfl).conseq (congrArg (fun a => Value.pointer (some a)) (ela_own0 _ _))
        refine Wl.guard (v := Value.bool (T qv)) (decide (((qv : Nat) : Int) ≥ 1024)) rfl (wantT rfl (by kernel_rfl)) rfl (fun hg53 => ?_) ?_
        · have qhg53 := hg53; try simp only [Bool.and_eq_true, Bool.or_eq_true, Bool.not_eq_true', Bool.not_eq_false', Bool.and_eq_false_iff, Bool.or_eq_false_iff, decide_eq_true_eq, decide_eq_false_iff_not, beq_iff_eq, bne_iff_ne, beq_eq_false_iff_ne, bne_eq_false_iff_eq] at qhg53
          refine Ys.at (t := 36) (v0 := Value.pointer (some ⟨p16, qv * 1, none⟩)) (lz (g := decide (((qv : Nat) : Int) ≥ 1024)) (u := undef) hg53 (by kernel_rfl)) ?_
          exact Ys.conseq (v := Value.bool ((tb T).getD qv false)) (bool_congr (tb_get hql)) (Ys.load (b := p16) (o' := qv * 1) (i := 2) (j := 0) (cs := mc Value.bool (tb T)) (v := Value.bool ((tb T).getD qv false)) rfl (by kernel_rfl) Tryd.isAgg4 rfl rfl (mc_get1 false (by omega)))
        refine Wl.guard (v := Value.bool (!(T qv))) (decide (((qv : Nat) : Int) ≥ 1024)) rfl (wantT rfl (by kernel_rfl)) rfl (fun hg54 => ?_) ?_
        · have qhg54 := hg54; try simp only [Bool.and_eq_true, Bool.or_eq_true, Bool.not_eq_true', Bool.not_eq_false', Bool.and_eq_false_iff, Bool.or_eq_false_iff, decide_eq_true_eq, decide_eq_false_iff_not, beq_iff_eq, bne_iff_ne, beq_eq_false_iff_ne, bne_eq_false_iff_eq] at qhg54
          refine Ys.at (t := 37) (v0 := Value.bool (T qv)) (lz (g := decide (((qv : Nat) : Int) ≥ 1024)) (u := undef) hg54 (by kernel_rfl)) ?_
          exact Ys.pure (fun _ => by kernel_rfl)
        refine Wl.ys (v := Value.bool ((decide (((qv : Nat) : Int) ≥ 1024)) && (!(T qv)))) rfl rfl (Ys.and (e := decide (((qv : Nat) : Int) ≥ 1024)) (b := !(T qv)) rfl (by kernel_rfl) (by kernel_rfl) (by kernel_rfl)) ?_
        refine Wl.run 1 (by kernel_rfl) ?_
        refine Wl.nil ?_
        refine hK46 _ _ _ ?_
        refine W.prune' [0, 5, 6, 7, 9, 22, 23, 24, 34, 35, 36, 37, 38, 40] [Value.int .u16 ((pn : Nat) : Int), Value.pointer (some ⟨pb14, 0, none⟩), Value.int .i64 ((c : Nat) : Int), Value.slice (some ⟨p16, 0, none⟩) 65536 65536, Value.int .u16 ((qv : Nat) : Int), Value.slice g27.a (([pn] ++ ns).length) g27.cap, Value.int .i64 ((([pn] ++ ns).length : Nat) : Int), Value.int .i64 ((k : Nat) : Int), (bif decide (((qv : Nat) : Int) ≥ 1024) then Value.slice (some ⟨p16, 0, none⟩) 65536 65536 else undef), (bif decide (((qv : Nat) : Int) ≥ 1024) then Value.int .u16 ((qv : Nat) : Int) else undef), (bif decide (((qv : Nat) : Int) ≥ 1024) then Value.pointer (some ⟨p16, qv * 1, none⟩) else undef), (bif decide (((qv : Nat) : Int) ≥ 1024) then Value.bool (T qv) else undef), (bif decide (((qv : Nat) : Int) ≥ 1024) then Value.bool (!(T qv)) else undef), Value.bool (!((tkB T qv) == ((decide (((qv : Nat) : Int) ≥ 1024)) && (!(T qv)))))] (by kernel_rfl) (fun f55 => ?_)
        refine W.cond (!((tkB T qv) == ((decide (((qv : Nat) : Int) ≥ 1024)) && (!(T qv))))) (by kernel_rfl) (fun h56 => ?_) (fun h57 => ?_)
        · have qh56 := h56; try simp only [Bool.and_eq_true, Bool.or_eq_true, Bool.not_eq_true', Bool.not_eq_false', Bool.and_eq_false_iff, Bool.or_eq_false_iff, decide_eq_true_eq, decide_eq_false_iff_not, beq_iff_eq, bne_iff_ne, beq_eq_false_iff_ne, bne_eq_false_iff_eq] at qh56
          (exfalso; rw [tk_neq] at h56; simp at h56)
        · have qh57 := h57; try simp only [Bool.and_eq_true, Bool.or_eq_true, Bool.not_eq_true', Bool.not_eq_false', Bool.and_eq_false_iff, Bool.or_eq_false_iff, decide_eq_true_eq, decide_eq_false_iff_not, beq_iff_eq, bne_iff_ne, beq_eq_false_iff_ne, bne_eq_false_iff_eq] at qh57
          refine W.skip' ?_
          refine hK45 _ _ _ ?_
          refine W.prune' [0, 5, 6, 7, 9, 22, 23, 24, 34, 35, 36, 37, 38] [Value.int .u16 ((pn : Nat) : Int), Value.pointer (some ⟨pb14, 0, none⟩), Value.int .i64 ((c : Nat) : Int), Value.slice (some ⟨p16, 0, none⟩) 65536 65536, Value.int .u16 ((qv : Nat) : Int), Value.slice g27.a (([pn] ++ ns).length) g27.cap, Value.int .i64 ((([pn] ++ ns).length : Nat) : Int), Value.int .i64 ((k : Nat) : Int), (bif decide (((qv : Nat) : Int) ≥ 1024) then Value.slice (some ⟨p16, 0, none⟩) 65536 65536 else undef), (bif decide (((qv : Nat) : Int) ≥ 1024) then Value.int .u16 ((qv : Nat) : Int) else undef), (bif decide (((qv : Nat) : Int) ≥ 1024) then Value.pointer (some ⟨p16, qv * 1, none⟩) else undef), (bif decide (((qv : Nat) : Int) ≥ 1024) then Value.bool (T qv) else undef), (bif decide (((qv : Nat) : Int) ≥ 1024) then Value.bool (!(T qv)) else undef)] (by kernel_rfl) (fun f58 => ?_)
          refine W.seq (fun K59 hK59 => ?_)
          refine W.region ?_
          refine Wl.run 3 (by kernel_rfl) ?_
          refine Wl.guard (v := Value.slice (some ⟨p16, 0, none⟩) 65536 65536) (decide (((qv : Nat) : Int) ≥ 1024)) rfl (wantT rfl (by kernel_rfl)) rfl (fun hg60 => ?_) ?_
          · have qhg60 := hg60; try simp only [Bool.and_eq_true, Bool.or_eq_true, Bool.not_eq_true', Bool.not_eq_false', Bool.and_eq_false_iff, Bool.or_eq_false_iff, decide_eq_true_eq, decide_eq_false_iff_not, beq_iff_eq, bne_iff_ne, beq_eq_false_iff_ne, bne_eq_false_iff_eq] at qhg60
            exact Ys.pure (fun _ => by kernel_rfl)
          refine Wl.guard (v := Value.int .u16 ((qv : Nat) : Int)) (decide (((qv : Nat) : Int) ≥ 1024)) rfl (wantT rfl (by kernel_rfl)) rfl (fun hg61 => ?_) ?_
          · have qhg61 := hg61; try simp only [Bool.and_eq_true, Bool.or_eq_true, Bool.not_eq_true', Bool.not_eq_false', Bool.and_eq_false_iff, Bool.or_eq_false_iff, decide_eq_true_eq, decide_eq_false_iff_not, beq_iff_eq, bne_iff_ne, beq_eq_false_iff_ne, bne_eq_false_iff_eq] at qhg61
            exact Ys.pure (fun _ => by kernel_rfl)
          refine Wl.guard (v := Value.pointer (some ⟨p16, qv * 1, none⟩)) (decide (((qv : Nat) : Int) ≥ 1024)) rfl (wantT rfl (by kernel_rfl)) rfl (fun hg62 => ?_) ?_
          · have qhg62 := hg62; try simp only [Bool.and_eq_true, Bool.or_eq_true, Bool.not_eq_true', Bool.not_eq_false', Bool.and_eq_false_iff, Bool.or_eq_false_iff, decide_eq_true_eq, decide_eq_false_iff_not, beq_iff_eq, bne_iff_ne, beq_eq_false_iff_ne, bne_eq_false_iff_eq] at qhg62
            refine Ys.at (t := 44) (v0 := Value.slice (some ⟨p16, 0, none⟩) 65536 65536) (lz (g := decide (((qv : Nat) : Int) ≥ 1024)) (u := undef) hg62 (by kernel_rfl)) ?_
            refine Ys.at (t := 45) (v0 := Value.int .u16 ((qv : Nat) : Int)) (lz (g := decide (((qv : Nat) : Int) ≥ 1024)) (u := undef) hg62 (by kernel_rfl)) ?_
            exact (Ys.indexAddr (k := .u16) (a := some ⟨p16, 0, none⟩) (len := 65536) (cap := 65536) (i := ((qv : Nat) : Int)) (sz := 1) rfl (by kernel_rfl) (by kernel_rfl) Tryd.runUnderlying27 Tryd.sizeOf4 (by omega) (by omega) rfl).conseq (congrArg (fun a => Value.pointer (some a)) (ela_own0 _ _))
          refine Wl.guard (v := Value.bool (T qv)) (decide (((qv : Nat) : Int) ≥ 1024)) rfl (wantT rfl (by kernel_rfl)) rfl (fun hg63 => ?_) ?_
          · have qhg63 := hg63; try simp only [Bool.and_eq_true, Bool.or_eq_true, Bool.not_eq_true', Bool.not_eq_false', Bool.and_eq_false_iff, Bool.or_eq_false_iff, decide_eq_true_eq, decide_eq_false_iff_not, beq_iff_eq, bne_iff_ne, beq_eq_false_iff_ne, bne_eq_false_iff_eq] at qhg63
            refine Ys.at (t := 46) (v0 := Value.pointer (some ⟨p16, qv * 1, none⟩)) (lz (g := decide (((qv : Nat) : Int) ≥ 1024)) (u := undef) hg63 (by kernel_rfl)) ?_
            exact Ys.conseq (v := Value.bool ((tb T).getD qv false)) (bool_congr (tb_get hql)) (Ys.load (b := p16) (o' := qv * 1) (i := 2) (j := 0) (cs := mc Value.bool (tb T)) (v := Value.bool ((tb T).getD qv false)) rfl (by kernel_rfl) Tryd.isAgg4 rfl rfl (mc_get1 false (by omega)))
          refine Wl.guard (v := Value.bool (!(T qv))) (decide (((qv : Nat) : Int) ≥ 1024)) rfl (wantT rfl (by kernel_rfl)) rfl (fun hg64 => ?_) ?_
          · have qhg64 := hg64; try simp only [Bool.and_eq_true, Bool.or_eq_true, Bool.not_eq_true', Bool.not_eq_false', Bool.and_eq_false_iff, Bool.or_eq_false_iff, decide_eq_true_eq, decide_eq_false_iff_not, beq_iff_eq, bne_iff_ne, beq_eq_false_iff_ne, bne_eq_false_iff_eq] at qhg64
            refine Ys.at (t := 47) (v0 := Value.bool (T qv)) (lz (g := decide (((qv : Nat) : Int) ≥ 1024)) (u := undef) hg64 (by kernel_rfl)) ?_
            exact Ys.pure (fun _ => by kernel_rfl)
          refine Wl.ys (v := Value.bool ((decide (((qv : Nat) : Int) ≥ 1024)) && (!(T qv)))) rfl rfl (Ys.and (e := decide (((qv : Nat) : Int) ≥ 1024)) (b := !(T qv)) rfl (by kernel_rfl) (by kernel_rfl) (by kernel_rfl)) ?_
          refine Wl.nil ?_
          refine hK59 _ _ _ ?_
          refine W.prune' [0, 5, 6, 7, 9, 22, 23, 24, 34, 35, 36, 37, 38, 44, 45, 46, 47, 48, 49] [Value.int .u16 ((pn : Nat) : Int), Value.pointer (some ⟨pb14, 0, none⟩), Value.int .i64 ((c : Nat) : Int), Value.slice (some ⟨p16, 0, none⟩) 65536 65536, Value.int .u16 ((qv : Nat) : Int), Value.slice g27.a (([pn] ++ ns).length) g27.cap, Value.int .i64 ((([pn] ++ ns).length : Nat) : Int), Value.int .i64 ((k : Nat) : Int), (bif decide (((qv : Nat) : Int) ≥ 1024) then Value.slice (some ⟨p16, 0, none⟩) 65536 65536 else undef), (bif decide (((qv : Nat) : Int) ≥ 1024) then Value.int .u16 ((qv : Nat) : Int) else undef), (bif decide (((qv : Nat) : Int) ≥ 1024) then Value.pointer (some ⟨p16, qv * 1, none⟩) else undef), (bif decide (((qv : Nat) : Int) ≥ 1024) then Value.bool (T qv) else undef), (bif decide (((qv : Nat) : Int) ≥ 1024) then Value.bool (!(T qv)) else undef), (bif decide (((qv : Nat) : Int) ≥ 1024) then Value.slice (some ⟨p16, 0, none⟩) 65536 65536 else undef), (bif decide (((qv : Nat) : Int) ≥ 1024) then Value.int .u16 ((qv : Nat) : Int) else undef), (bif decide (((qv : Nat) : Int) ≥ 1024) then Value.pointer (some ⟨p16, qv * 1, none⟩) else undef), (bif decide (((qv : Nat) : Int) ≥ 1024) then Value.bool (T qv) else undef), (bif decide (((qv : Nat) : Int) ≥ 1024) then Value.bool (!(T qv)) else undef), Value.bool ((decide (((qv : Nat) : Int) ≥ 1024)) && (!(T qv)))] (by kernel_rfl) (fun f65 => ?_)
          refine W.cond ((decide (((qv : Nat) : Int) ≥ 1024)) && (!(T qv))) (by kernel_rfl) (fun h66 => ?_) (fun h67 => ?_)
          · have qh66 := h66; try simp only [Bool.and_eq_true, Bool.or_eq_true, Bool.not_eq_true', Bool.not_eq_false', Bool.and_eq_false_iff, Bool.or_eq_false_iff, decide_eq_true_eq, decide_eq_false_iff_not, beq_iff_eq, bne_iff_ne, beq_eq_false_iff_ne, bne_eq_false_iff_eq] at qh66
            refine W.seq (fun K68 hK68 => ?_)
            refine W.region ?_
            refine Wl.run 1 (by kernel_rfl) ?_
            refine Wl.ys (v := Value.int .i64 ((c + 1 : Nat) : Int)) rfl rfl ((Ys.pure (v := .int .i64 (iadd .i64 ((c : Nat) : Int) 1)) (fun _ => by kernel_rfl)).conseq (int_congr (iadd_eq (by omega) (by omega) (by omega)))) ?_
            refine Wl.run 1 (by kernel_rfl) ?_
            refine Wl.nil ?_
            refine hK68 _ _ _ ?_
            refine W.prune' [0, 5, 6, 7, 9, 22, 23, 24, 34, 35, 36, 37, 38, 44, 45, 46, 47, 48] [Value.int .u16 ((pn : Nat) : Int), Value.pointer (some ⟨pb14, 0, none⟩), Value.int .i64 ((c + 1 : Nat) : Int), Value.slice (some ⟨p16, 0, none⟩) 65536 65536, Value.int .u16 ((qv : Nat) : Int), Value.slice g27.a (([pn] ++ ns).length) g27.cap, Value.int .i64 ((([pn] ++ ns).length : Nat) : Int), Value.int .i64 ((k : Nat) : Int), (bif decide (((qv : Nat) : Int) ≥ 1024) then Value.slice (some ⟨p16, 0, none⟩) 65536 65536 else undef), (bif decide (((qv : Nat) : Int) ≥ 1024) then Value.int .u16 ((qv : Nat) : Int) else undef), (bif decide (((qv : Nat) : Int) ≥ 1024) then Value.pointer (some ⟨p16, qv * 1, none⟩) else undef), (bif decide (((qv : Nat) : Int) ≥ 1024) then Value.bool (T qv) else undef), (bif decide (((qv : Nat) : Int) ≥ 1024) then Value.bool (!(T qv)) else undef), (bif decide (((qv : Nat) : Int) ≥ 1024) then Value.slice (some ⟨p16, 0, none⟩) 65536 65536 else undef), (bif decide (((qv : Nat) : Int) ≥ 1024) then Value.int .u16 ((qv : Nat) : Int) else undef), (bif decide (((qv : Nat) : Int) ≥ 1024) then Value.pointer (some ⟨p16, qv * 1, none⟩) else undef), (bif decide (((qv : Nat) : Int) ≥ 1024) then Value.bool (T qv) else undef), (bif decide (((qv : Nat) : Int) ≥ 1024) then Value.bool (!(T qv)) else undef)] (by kernel_rfl) (fun f69 => ?_)
            refine W.region ?_
            refine Wl.run 2 (by kernel_rfl) ?_
            refine Wl.ys (v := Value.pointer (some ⟨p16, qv * 1, none⟩)) rfl rfl ((Ys.indexAddr (k := .u16) (a := some ⟨p16, 0, none⟩) (len := 65536) (cap := 65536) (i := ((qv : Nat) : Int)) (sz := 1) rfl (by kernel_rfl) (by kernel_rfl) Tryd.runUnderlying27 Tryd.sizeOf4 (by omega) (by omega) rfl).conseq (congrArg (fun a => Value.pointer (some a)) (ela_own0 _ _))) ?_
            refine Wl.ht rfl (Ht.store (b := p16) (o' := qv * 1) (i := 2) (j := 0) (cs := mc Value.bool (tb T)) (cs' := mc Value.bool ((tb T).set qv true)) (v := Value.bool true) (LL' := [[cb pb14 (psC (tkT T qv) (tkN T qv ((c : Nat) : Int))) 74], g27.seg 23 (mc n16 ([pn] ++ ns)), [cb p16 (mc Value.bool ((tb T).set qv true)) 4]]) rfl rfl (by kernel_rfl) (by kernel_rfl) Tryd.sizeOf4 rfl rfl rfl (by first | (simp [mc]; done) | (simp [mc]; omega)) (mc_set1 (g := Value.bool) (tb T) qv true) rfl) (fun _ => ?_)
            refine Wl.nil ?_
            refine hK42 _ _ _ ?_
            refine W.prune' [0, 5, 6, 7, 22, 23, 24, 34, 35, 36, 37, 38, 44, 45, 46, 47, 48] [Value.int .u16 ((pn : Nat) : Int), Value.pointer (some ⟨pb14, 0, none⟩), Value.int .i64 ((c + 1 : Nat) : Int), Value.slice (some ⟨p16, 0, none⟩) 65536 65536, Value.slice g27.a (([pn] ++ ns).length) g27.cap, Value.int .i64 ((([pn] ++ ns).length : Nat) : Int), Value.int .i64 ((k : Nat) : Int), (bif decide (((qv : Nat) : Int) ≥ 1024) then Value.slice (some ⟨p16, 0, none⟩) 65536 65536 else undef), (bif decide (((qv : Nat) : Int) ≥ 1024) then Value.int .u16 ((qv : Nat) : Int) else undef), (bif decide (((qv : Nat) : Int) ≥ 1024) then Value.pointer (some ⟨p16, qv * 1, none⟩) else undef), (bif decide (((qv : Nat) : Int) ≥ 1024) then Value.bool (T qv) else undef), (bif decide (((qv : Nat) : Int) ≥ 1024) then Value.bool (!(T qv)) else undef), (bif decide (((qv : Nat) : Int) ≥ 1024) then Value.slice (some ⟨p16, 0, none⟩) 65536 65536 else undef), (bif decide (((qv : Nat) : Int) ≥ 1024) then Value.int .u16 ((qv : Nat) : Int) else undef), (bif decide (((qv : Nat) : Int) ≥ 1024) then Value.pointer (some ⟨p16, qv * 1, none⟩) else undef), (bif decide (((qv : Nat) : Int) ≥ 1024) then Value.bool (T qv) else undef), (bif decide (((qv : Nat) : Int) ≥ 1024) then Value.bool (!(T qv)) else undef)] (by kernel_rfl) (fun f70 => ?_)
            refine W.region ?_
            refine Wl.ys (v := Value.int .i64 ((k + 1 : Nat) : Int)) rfl rfl ((Ys.pure (v := .int .i64 (iadd .i64 ((k : Nat) : Int) 1)) (fun _ => by kernel_rfl)).conseq (int_congr (iadd_eq (by omega) (by omega) (by omega)))) ?_
            refine Wl.run 1 (by kernel_rfl) ?_
            refine Wl.nil ?_
            have hB_ : tkB T qv = true := tk_neq.trans h66
            have hT_ : tkT T qv = up T qv true := by unfold tkT; rw [hB_]; rfl
            have hN_ : tkN T qv ((c : Nat) : Int) = ((c + (bif tkB T qv then 1 else 0) : Nat) : Int) := by unfold tkN; rw [hB_]; simp
            have hTn_ : tkT T qv pn = (decide (0 < k + 1) && decide (1024 ≤ pn)) := by rw [tk_at, hTp, decide_eq_true (Nat.succ_pos k), Bool.true_and]; by_cases hk0 : k = 0 <;> by_cases hp_ : 1024 ≤ pn <;> simp [hk0, hp_, hqv] <;> omega
            refine fun w_ h_ => hJ34 (k + 1) (tkT T qv) (c + (bif tkB T qv then 1 else 0)) _ w_ (by omega) ⟨(by omega), (by cases tkB T qv <;> simp only [cond_true, cond_false] <;> omega), (fun q hq => by rw [tk_at, hlo q hq, decide_eq_true hq]; simp), hTn_⟩ ?_ (Mem.cast (LL := [g27.seg 23 (mc n16 ([pn] ++ ns)), [cb p16 (mc Value.bool ((tb T).set qv true)) 4], [cb pb14 (psC (tkT T qv) (tkN T qv ((c : Nat) : Int))) 74]]) (by rw [hN_, tb_set true hql, ← hT_]; try rfl) (h_.pick [1, 2, 0] (by decide) rfl))
            refine Eq.trans (b := ([Value.int .u16 ((pn : Nat) : Int), Value.pointer (some ⟨pb14, 0, none⟩), Value.int .i64 ((c + 1 : Nat) : Int), Value.slice (some ⟨p16, 0, none⟩) 65536 65536, Value.slice g27.a (([pn] ++ ns).length) g27.cap, Value.int .i64 ((([pn] ++ ns).length : Nat) : Int), Value.int .i64 ((k + 1 : Nat) : Int)] : List Value)) (by kernel_rfl) (by rw [hB_]; rfl)
          · have qh67 := h67; try simp only [Bool.and_eq_true, Bool.or_eq_true, Bool.not_eq_true', Bool.not_eq_false', Bool.and_eq_false_iff, Bool.or_eq_false_iff, decide_eq_true_eq, decide_eq_false_iff_not, beq_iff_eq, bne_iff_ne, beq_eq_false_iff_ne, bne_eq_false_iff_eq] at qh67
            refine W.skip' ?_
            refine hK42 _ _ _ ?_
            refine W.prune' [0, 5, 6, 7, 22, 23, 24, 34, 35, 36, 37, 38, 44, 45, 46, 47, 48] [Value.int .u16 ((pn : Nat) : Int), Value.pointer (some ⟨pb14, 0, none⟩), Value.int .i64 ((c : Nat) : Int), Value.slice (some ⟨p16, 0, none⟩) 65536 65536, Value.slice g27.a (([pn] ++ ns).length) g27.cap, Value.int .i64 ((([pn] ++ ns).length : Nat) : Int), Value.int .i64 ((k : Nat) : Int), (bif decide (((qv : Nat) : Int) ≥ 1024) then Value.slice (some ⟨p16, 0, none⟩) 65536 65536 else undef), (bif decide (((qv : Nat) : Int) ≥ 1024) then Value.int .u16 ((qv : Nat) : Int) else undef), (bif decide (((qv : Nat) : Int) ≥ 1024) then Value.pointer (some ⟨p16, qv * 1, none⟩) else undef), (bif decide (((qv : Nat) : Int) ≥ 1024) then Value.bool (T qv) else undef), (bif decide (((qv : Nat) : Int) ≥ 1024) then Value.bool (!(T qv)) else undef), (bif decide (((qv : Nat) : Int) ≥ 1024) then Value.slice (some ⟨p16, 0, none⟩) 65536 65536 else undef), (bif decide (((qv : Nat) : Int) ≥ 1024) then Value.int .u16 ((qv : Nat) : Int) else undef), (bif decide (((qv : Nat) : Int) ≥ 1024) then Value.pointer (some ⟨p16, qv * 1, none⟩) else undef), (bif decide (((qv : Nat) : Int) ≥ 1024) then Value.bool (T qv) else undef), (bif decide (((qv : Nat) : Int) ≥ 1024) then Value.bool (!(T qv)) else undef)] (by kernel_rfl) (fun f71 => ?_)
            refine W.region ?_
            refine Wl.ys (v := Value.int .i64 ((k + 1 : Nat) : Int)) rfl rfl ((Ys.pure (v := .int .i64 (iadd .i64 ((k : Nat) : Int) 1)) (fun _ => by kernel_rfl)).conseq (int_congr (iadd_eq (by omega) (by omega) (by omega)))) ?_
            refine Wl.run 1 (by kernel_rfl) ?_
            refine Wl.nil ?_
            have hB_ : tkB T qv = false := tk_neq.trans h67
            have hT_ : tkT T qv = T := by unfold tkT; rw [hB_]; rfl
            have hN_ : tkN T qv ((c : Nat) : Int) = ((c + (bif tkB T qv then 1 else 0) : Nat) : Int) := by unfold tkN; rw [hB_]; simp
            have hTn_ : tkT T qv pn = (decide (0 < k + 1) && decide (1024 ≤ pn)) := by rw [tk_at, hTp, decide_eq_true (Nat.succ_pos k), Bool.true_and]; by_cases hk0 : k = 0 <;> by_cases hp_ : 1024 ≤ pn <;> simp [hk0, hp_, hqv] <;> omega
            refine fun w_ h_ => hJ34 (k + 1) (tkT T qv) (c + (bif tkB T qv then 1 else 0)) _ w_ (by omega) ⟨(by omega), (by cases tkB T qv <;> simp only [cond_true, cond_false] <;> omega), (fun q hq => by rw [tk_at, hlo q hq, decide_eq_true hq]; simp), hTn_⟩ ?_ (Mem.cast (LL := [g27.seg 23 (mc n16 ([pn] ++ ns)), [cb p16 (mc Value.bool (tb T)) 4], [cb pb14 (psC (tkT T qv) (tkN T qv ((c : Nat) : Int))) 74]]) (by rw [hN_, hT_]; try rfl) (h_.pick [1, 2, 0] (by decide) rfl))
            refine Eq.trans (b := ([Value.int .u16 ((pn : Nat) : Int), Value.pointer (some ⟨pb14, 0, none⟩), Value.int .i64 ((c : Nat) : Int), Value.slice (some ⟨p16, 0, none⟩) 65536 65536, Value.slice g27.a (([pn] ++ ns).length) g27.cap, Value.int .i64 ((([pn] ++ ns).length : Nat) : Int), Value.int .i64 ((k + 1 : Nat) : Int)] : List Value)) (by kernel_rfl) (by rw [hB_]; rfl)
      · have qh40 := h40; try simp only [Bool.and_eq_true, Bool.or_eq_true, Bool.not_eq_true', Bool.not_eq_false', Bool.and_eq_false_iff, Bool.or_eq_false_iff, decide_eq_true_eq, decide_eq_false_iff_not, beq_iff_eq, bne_iff_ne, beq_eq_false_iff_ne, bne_eq_false_iff_eq] at qh40
        refine W.exit ?_
        refine hK25 _ _ _ ?_
        refine W.pick (LL' := [[cb pb14 (psC T ((c : Nat) : Int)) 74]]) [2] (by decide) rfl ?_
        refine W.prune' [0, 5, 6] [Value.int .u16 ((pn : Nat) : Int), Value.pointer (some ⟨pb14, 0, none⟩), Value.int .i64 ((c : Nat) : Int)] (by kernel_rfl) (fun f72 => ?_)
        refine W.seq (fun K73 hK73 => ?_)
        have hTf : ((T pn) == (decide (((pn : Nat) : Int) ≥ 1024))) = true := by rw [hTp, decide_eq_true (show 0 < k by omega), Bool.true_and, beq_iff_eq]; exact decide_eq_decide.2 (by omega)
        refine W.region ?_
        refine Wl.run 1 (by kernel_rfl) ?_
        refine Wl.yc (v := Value.int .i64 ((c : Nat) : Int)) rfl rfl (Yc.call (k := 13) (args := #[Value.pointer (some ⟨pb14, 0, none⟩)]) (fun _ => by kernel_rfl) (fun w_ hm_ => len_c T ((c : Nat) : Int) pb14 _ (At.lit0 (i := 0) (j := 0) (t := 74) (b := pb14) hm_ rfl rfl))) ?_
        refine Wl.run 3 (by kernel_rfl) ?_
        refine Wl.guard (v := Value.pointer (some ⟨pb14, 0, none⟩)) (((c : Nat) : Int) == ((c : Nat) : Int)) rfl (wantT rfl (by kernel_rfl)) rfl (fun hg74 => ?_) ?_
        · have qhg74 := hg74; try simp only [Bool.and_eq_true, Bool.or_eq_true, Bool.not_eq_true', Bool.not_eq_false', Bool.and_eq_false_iff, Bool.or_eq_false_iff, decide_eq_true_eq, decide_eq_false_iff_not, beq_iff_eq, bne_iff_ne, beq_eq_false_iff_ne, bne_eq_false_iff_eq] at qhg74
          exact Ys.pure (fun _ => by kernel_rfl)
        refine Wl.guard (v := Value.int .u16 ((pn : Nat) : Int)) (((c : Nat) : Int) == ((c : Nat) : Int)) rfl (wantT rfl (by kernel_rfl)) rfl (fun hg75 => ?_) ?_
        · have qhg75 := hg75; try simp only [Bool.and_eq_true, Bool.or_eq_true, Bool.not_eq_true', Bool.not_eq_false', Bool.and_eq_false_iff, Bool.or_eq_false_iff, decide_eq_true_eq, decide_eq_false_iff_not, beq_iff_eq, bne_iff_ne, beq_eq_false_iff_ne, bne_eq_false_iff_eq] at qhg75
          exact Ys.pure (fun _ => by kernel_rfl)
        refine Wl.guardc (v := Value.bool (T pn)) (((c : Nat) : Int) == ((c : Nat) : Int)) rfl (wantT rfl (by kernel_rfl)) rfl (fun hg76 => ?_) ?_
        · have qhg76 := hg76; try simp only [Bool.and_eq_true, Bool.or_eq_true, Bool.not_eq_true', Bool.not_eq_false', Bool.and_eq_false_iff, Bool.or_eq_false_iff, decide_eq_true_eq, decide_eq_false_iff_not, beq_iff_eq, bne_iff_ne, beq_eq_false_iff_ne, bne_eq_false_iff_eq] at qhg76
          refine Yc.at (t := 61) (v0 := Value.pointer (some ⟨pb14, 0, none⟩)) (lz (g := ((c : Nat) : Int) == ((c : Nat) : Int)) (u := undef) hg76 (by kernel_rfl)) ?_
          refine Yc.at (t := 62) (v0 := Value.int .u16 ((pn : Nat) : Int)) (lz (g := ((c : Nat) : Int) == ((c : Nat) : Int)) (u := undef) hg76 (by kernel_rfl)) ?_
          exact Yc.call (k := 16) (args := #[Value.pointer (some ⟨pb14, 0, none⟩), Value.int .u16 ((pn : Nat) : Int)]) (fun _ => by kernel_rfl) (fun w_ hm_ => has_c T ((c : Nat) : Int) pb14 pn _ (At.lit0 (i := 0) (j := 0) (t := 74) (b := pb14) hm_ rfl rfl) (by omega))
        refine Wl.guard (v := Value.int .u16 ((pn : Nat) : Int)) (((c : Nat) : Int) == ((c : Nat) : Int)) rfl (wantT rfl (by kernel_rfl)) rfl (fun hg77 => ?_) ?_
        · have qhg77 := hg77; try simp only [Bool.and_eq_true, Bool.or_eq_true, Bool.not_eq_true', Bool.not_eq_false', Bool.and_eq_false_iff, Bool.or_eq_false_iff, decide_eq_true_eq, decide_eq_false_iff_not, beq_iff_eq, bne_iff_ne, beq_eq_false_iff_ne, bne_eq_false_iff_eq] at qhg77
          exact Ys.pure (fun _ => by kernel_rfl)
        refine Wl.guard (v := Value.bool (decide (((pn : Nat) : Int) ≥ 1024))) (((c : Nat) : Int) == ((c : Nat) : Int)) rfl (wantT rfl (by kernel_rfl)) rfl (fun hg78 => ?_) ?_
        · have qhg78 := hg78; try simp only [Bool.and_eq_true, Bool.or_eq_true, Bool.not_eq_true', Bool.not_eq_false', Bool.and_eq_false_iff, Bool.or_eq_false_iff, decide_eq_true_eq, decide_eq_false_iff_not, beq_iff_eq, bne_iff_ne, beq_eq_false_iff_ne, bne_eq_false_iff_eq] at qhg78
          refine Ys.at (t := 64) (v0 := Value.int .u16 ((pn : Nat) : Int)) (lz (g := ((c : Nat) : Int) == ((c : Nat) : Int)) (u := undef) hg78 (by kernel_rfl)) ?_
          exact Ys.pure (fun _ => by kernel_rfl)
        refine Wl.guard (v := Value.bool ((T pn) == (decide (((pn : Nat) : Int) ≥ 1024)))) (((c : Nat) : Int) == ((c : Nat) : Int)) rfl (wantT rfl (by kernel_rfl)) rfl (fun hg79 => ?_) ?_
        · have qhg79 := hg79; try simp only [Bool.and_eq_true, Bool.or_eq_true, Bool.not_eq_true', Bool.not_eq_false', Bool.and_eq_false_iff, Bool.or_eq_false_iff, decide_eq_true_eq, decide_eq_false_iff_not, beq_iff_eq, bne_iff_ne, beq_eq_false_iff_ne, bne_eq_false_iff_eq] at qhg79
          refine Ys.at (t := 63) (v0 := Value.bool (T pn)) (lz (g := ((c : Nat) : Int) == ((c : Nat) : Int)) (u := undef) hg79 (by kernel_rfl)) ?_
          refine Ys.at (t := 65) (v0 := Value.bool (decide (((pn : Nat) : Int) ≥ 1024))) (lz (g := ((c : Nat) : Int) == ((c : Nat) : Int)) (u := undef) hg79 (by kernel_rfl)) ?_
          exact Ys.pure (fun _ => by kernel_rfl)
        refine Wl.ys (v := Value.bool ((((c : Nat) : Int) == ((c : Nat) : Int)) && ((T pn) == (decide (((pn : Nat) : Int) ≥ 1024))))) rfl rfl (Ys.and (e := ((c : Nat) : Int) == ((c : Nat) : Int)) (b := (T pn) == (decide (((pn : Nat) : Int) ≥ 1024))) rfl (by kernel_rfl) (by kernel_rfl) (by kernel_rfl)) ?_
        refine Wl.run 1 (by kernel_rfl) ?_
        refine Wl.guard (v := Value.pointer (some ⟨pb14, 0, none⟩)) ((((c : Nat) : Int) == ((c : Nat) : Int)) && ((T pn) == (decide (((pn : Nat) : Int) ≥ 1024)))) rfl (wantT rfl (by kernel_rfl)) rfl (fun hg80 => ?_) ?_
        · have qhg80 := hg80; try simp only [Bool.and_eq_true, Bool.or_eq_true, Bool.not_eq_true', Bool.not_eq_false', Bool.and_eq_false_iff, Bool.or_eq_false_iff, decide_eq_true_eq, decide_eq_false_iff_not, beq_iff_eq, bne_iff_ne, beq_eq_false_iff_ne, bne_eq_false_iff_eq] at qhg80
          exact Ys.pure (fun _ => by kernel_rfl)
        refine Wl.guard (v := Value.int .u16 ((pn : Nat) : Int)) ((((c : Nat) : Int) == ((c : Nat) : Int)) && ((T pn) == (decide (((pn : Nat) : Int) ≥ 1024)))) rfl (wantT rfl (by kernel_rfl)) rfl (fun hg81 => ?_) ?_
        · have qhg81 := hg81; try simp only [Bool.and_eq_true, Bool.or_eq_true, Bool.not_eq_true', Bool.not_eq_false', Bool.and_eq_false_iff, Bool.or_eq_false_iff, decide_eq_true_eq, decide_eq_false_iff_not, beq_iff_eq, bne_iff_ne, beq_eq_false_iff_ne, bne_eq_false_iff_eq] at qhg81
          exact Ys.pure (fun _ => by kernel_rfl)
        refine Wl.split ((((c : Nat) : Int) == ((c : Nat) : Int)) && ((T pn) == (decide (((pn : Nat) : Int) ≥ 1024)))) (fun h82 => ?_) (fun h83 => ?_)
        · have qh82 := h82; try simp only [Bool.and_eq_true, Bool.or_eq_true, Bool.not_eq_true', Bool.not_eq_false', Bool.and_eq_false_iff, Bool.or_eq_false_iff, decide_eq_true_eq, decide_eq_false_iff_not, beq_iff_eq, bne_iff_ne, beq_eq_false_iff_ne, bne_eq_false_iff_eq] at qh82
          refine Wl.at 67 (v0 := .bool true) (boolv (e := (((c : Nat) : Int) == ((c : Nat) : Int)) && ((T pn) == (decide (((pn : Nat) : Int) ≥ 1024)))) (by kernel_rfl) h82) ?_
          refine Wl.at 68 (v0 := .bool true) (boolv (e := (((c : Nat) : Int) == ((c : Nat) : Int)) && ((T pn) == (decide (((pn : Nat) : Int) ≥ 1024)))) (by kernel_rfl) h82) ?_
          refine Wl.at 69 (v0 := Value.pointer (some ⟨pb14, 0, none⟩)) (lz (g := (((c : Nat) : Int) == ((c : Nat) : Int)) && ((T pn) == (decide (((pn : Nat) : Int) ≥ 1024)))) (u := undef) h82 (by kernel_rfl)) ?_
          refine Wl.at 70 (v0 := Value.int .u16 ((pn : Nat) : Int)) (lz (g := (((c : Nat) : Int) == ((c : Nat) : Int)) && ((T pn) == (decide (((pn : Nat) : Int) ≥ 1024)))) (u := undef) h82 (by kernel_rfl)) ?_
          have hN86 := gvN_bd T pn ((c : Nat) : Int)
          refine Wl.htwS rfl (by kernel_rfl) (HtS.call (β := Unit) (k := 14) (args := #[Value.pointer (some ⟨pb14, 0, none⟩), Value.int .u16 ((pn : Nat) : Int)]) (Lin := [[cb pb14 (psC T ((c : Nat) : Int)) 74]]) (Lk := []) (Mi := [pb14]) (Lo := fun u84 => [[cb pb14 (psC (gvT T pn) (gvN T pn ((c : Nat) : Int))) 74]]) [0] [] rfl (fun _ => by kernel_rfl) (by decide) rfl rfl rfl (fun w_ hm_ hl_ => (give_c T ((c : Nat) : Int) pb14 pn _ hl_ (by omega) (by omega) (by omega))) (fun _ => rfl)) (fun u84 _ => ?_)
          refine Wl.guard (v := Value.int .u16 ((pn : Nat) : Int)) (true) rfl (by kernel_rfl) rfl (fun _ => Ys.pure (fun _ => by kernel_rfl)) ?_
          refine Wl.guard (v := Value.bool (decide (((pn : Nat) : Int) ≥ 1024))) (true) rfl (by kernel_rfl) rfl (fun _ => Ys.pure (fun _ => by kernel_rfl)) ?_
          refine Wl.guard (v := Value.bool ((T pn) == (decide (((pn : Nat) : Int) ≥ 1024)))) (true) rfl (by kernel_rfl) rfl (fun _ => Ys.pure (fun _ => by kernel_rfl)) ?_
          refine Wl.run 2 (by kernel_rfl) ?_
          refine Wl.guard (v := Value.pointer (some ⟨pb14, 0, none⟩)) ((T pn) == (decide (((pn : Nat) : Int) ≥ 1024))) rfl (wantT rfl (by kernel_rfl)) rfl (fun hg87 => ?_) ?_
          · have qhg87 := hg87; try simp only [Bool.and_eq_true, Bool.or_eq_true, Bool.not_eq_true', Bool.not_eq_false', Bool.and_eq_false_iff, Bool.or_eq_false_iff, decide_eq_true_eq, decide_eq_false_iff_not, beq_iff_eq, bne_iff_ne, beq_eq_false_iff_ne, bne_eq_false_iff_eq] at qhg87
            exact Ys.pure (fun _ => by kernel_rfl)
          refine Wl.guard (v := Value.int .u16 ((pn : Nat) : Int)) ((T pn) == (decide (((pn : Nat) : Int) ≥ 1024))) rfl (wantT rfl (by kernel_rfl)) rfl (fun hg88 => ?_) ?_
          · have qhg88 := hg88; try simp only [Bool.and_eq_true, Bool.or_eq_true, Bool.not_eq_true', Bool.not_eq_false', Bool.and_eq_false_iff, Bool.or_eq_false_iff, decide_eq_true_eq, decide_eq_false_iff_not, beq_iff_eq, bne_iff_ne, beq_eq_false_iff_ne, bne_eq_false_iff_eq] at qhg88
            exact Ys.pure (fun _ => by kernel_rfl)
          refine Wl.split ((T pn) == (decide (((pn : Nat) : Int) ≥ 1024))) (fun h89 => ?_) (fun h90 => ?_)
          · have qh89 := h89; try simp only [Bool.and_eq_true, Bool.or_eq_true, Bool.not_eq_true', Bool.not_eq_false', Bool.and_eq_false_iff, Bool.or_eq_false_iff, decide_eq_true_eq, decide_eq_false_iff_not, beq_iff_eq, bne_iff_ne, beq_eq_false_iff_ne, bne_eq_false_iff_eq] at qh89
            refine Wl.at 74 (v0 := .bool true) (boolv (e := (T pn) == (decide (((pn : Nat) : Int) ≥ 1024))) (by kernel_rfl) h89) ?_
            refine Wl.at 75 (v0 := .bool true) (boolv (e := (T pn) == (decide (((pn : Nat) : Int) ≥ 1024))) (by kernel_rfl) h89) ?_
            refine Wl.at 76 (v0 := .bool true) (boolv (e := (T pn) == (decide (((pn : Nat) : Int) ≥ 1024))) (by kernel_rfl) h89) ?_
            refine Wl.at 77 (v0 := Value.pointer (some ⟨pb14, 0, none⟩)) (lz (g := (T pn) == (decide (((pn : Nat) : Int) ≥ 1024))) (u := undef) h89 (by kernel_rfl)) ?_
            refine Wl.at 78 (v0 := Value.int .u16 ((pn : Nat) : Int)) (lz (g := (T pn) == (decide (((pn : Nat) : Int) ≥ 1024))) (u := undef) h89 (by kernel_rfl)) ?_
            have hN93 := gvN_bd (gvT T pn) pn (gvN T pn ((c : Nat) : Int))
            refine Wl.htwS rfl (by kernel_rfl) (HtS.call (β := Unit) (k := 14) (args := #[Value.pointer (some ⟨pb14, 0, none⟩), Value.int .u16 ((pn : Nat) : Int)]) (Lin := [[cb pb14 (psC (gvT T pn) (gvN T pn ((c : Nat) : Int))) 74]]) (Lk := []) (Mi := [pb14]) (Lo := fun u91 => [[cb pb14 (psC (gvT (gvT T pn) pn) (gvN (gvT T pn) pn (gvN T pn ((c : Nat) : Int)))) 74]]) [0] [] rfl (fun _ => by kernel_rfl) (by decide) rfl rfl rfl (fun w_ hm_ hl_ => (give_c (gvT T pn) (gvN T pn ((c : Nat) : Int)) pb14 pn _ hl_ (by omega) (by omega) (by omega))) (fun _ => rfl)) (fun u91 _ => ?_)
            refine Wl.guard (v := Value.bool (!((gvT T pn) pn))) (true) rfl (by kernel_rfl) rfl (fun _ => Ys.pure (fun _ => by kernel_rfl)) ?_
            refine Wl.run 2 (by kernel_rfl) ?_
            refine Wl.nil ?_
            refine hK73 _ _ _ ?_
            refine W.pick (LL' := []) [] (by decide) rfl ?_
            refine W.prune' [4] [Value.bool (!((gvT T pn) pn))] (by kernel_rfl) (fun f94 => ?_)
            refine W.ret ?_
            show ∀ w_, _ → bodyPostM (fence none) 0 Tryd.prog Tryd.f4 _ Exit.ret _ w_
            exact fun w_ hS_ => fin_ret (ret1 rfl (RV.tmp (v := Value.bool (!((gvT T pn) pn))) (by kernel_rfl)) hS_ ⟨by clear hK1 hK2 hK3 hK6 hK7 hK13 hK21 hK22 hK25 hK26 hJ34 hK37 hK38 hK73; refine congrArg Ending.returned ?_; exact bool_congr (by rw [gv_off]; rfl), hS_.below⟩)
          · have qh90 := h90; try simp only [Bool.and_eq_true, Bool.or_eq_true, Bool.not_eq_true', Bool.not_eq_false', Bool.and_eq_false_iff, Bool.or_eq_false_iff, decide_eq_true_eq, decide_eq_false_iff_not, beq_iff_eq, bne_iff_ne, beq_eq_false_iff_ne, bne_eq_false_iff_eq] at qh90
            exact absurd (hTf.symm.trans h90) (by decide)
        · have qh83 := h83; try simp only [Bool.and_eq_true, Bool.or_eq_true, Bool.not_eq_true', Bool.not_eq_false', Bool.and_eq_false_iff, Bool.or_eq_false_iff, decide_eq_true_eq, decide_eq_false_iff_not, beq_iff_eq, bne_iff_ne, beq_eq_false_iff_ne, bne_eq_false_iff_eq] at qh83
          (exfalso; rw [hTf] at h83; simp at h83)

end Go.Proofs.YtnhmajdpjapgjaaDoor.Oct
