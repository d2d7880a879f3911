/-
  PortsAll. No condition.
-/
import Derived.Test.YtnhmajdpjapgjaaDoorPs4
set_option linter.unusedVariables false
set_option linter.unusedSimpArgs false
set_option maxRecDepth 20000
namespace Go.Proofs.YtnhmajdpjapgjaaDoor.Oct
open Go.RowKit Base
attribute [local irreducible] Ys Yc Ht HtS HtIn Wl Wd W Mem pf dpf Wa Wo

/-- How many of the first ports are taken. -/
def cn (T : Nat → Bool) : Nat → Nat
  | 0 => 0
  | k + 1 => cn T k + (bif T k then 1 else 0)
theorem cn_zero : ∀ k, cn (fun _ => false) k = 0
  | 0 => rfl
  | k + 1 => by rw [cn, cn_zero k]; rfl
theorem cn_up {T : Nat → Bool} {p : Nat} (h : T p = false) : ∀ k, cn (up T p true) k = cn T k + (if p < k then 1 else 0)
  | 0 => rfl
  | k + 1 => by
    rw [cn, cn, cn_up h k]
    by_cases hk : k = p
    · subst hk
      rw [up_same, h, if_neg (Nat.lt_irrefl _), if_pos (Nat.lt_succ_self _)]; rfl
    · rw [up_other _ _ hk]
      by_cases h2 : p < k
      · rw [if_pos h2, if_pos (by omega)]; omega
      · rw [if_neg h2, if_neg (by omega)]; omega
theorem cn_low {T : Nat → Bool} (hlo : ∀ q, q < 1024 → T q = false) : ∀ k, k ≤ 1024 → cn T k = 0
  | 0, _ => rfl
  | k + 1, h => by rw [cn, cn_low hlo k (by omega), hlo k (by omega)]; rfl
theorem cn_all {T : Nat → Bool} (hlo : ∀ q, q < 1024 → T q = false) (hf : ∀ q, 1024 ≤ q → q < 65536 → T q = true) : ∀ k, 1024 + k ≤ 65536 → cn T (1024 + k) = k
  | 0, _ => cn_low hlo 1024 (Nat.le_refl _)
  | k + 1, h => by rw [← Nat.add_assoc, cn, cn_all hlo hf k (by omega), hf _ (by omega) (by omega)]; rfl
theorem cn_full {T : Nat → Bool} (hlo : ∀ q, q < 1024 → T q = false) : ∀ k, cn T (1024 + k) ≤ k ∧ (cn T (1024 + k) = k → ∀ q, 1024 ≤ q → q < 1024 + k → T q = true)
  | 0 => ⟨by rw [cn_low hlo _ (Nat.le_refl _)]; exact Nat.le_refl _, fun _ q h1 h2 => by omega⟩
  | k + 1 => by
    obtain ⟨a, b⟩ := cn_full hlo k
    rw [← Nat.add_assoc, cn]
    cases ht : T (1024 + k) with
    | false => exact ⟨by simp only [cond_false]; omega, fun e => by simp only [cond_false] at e; omega⟩
    | true =>
      refine ⟨by simp only [cond_true]; omega, fun e q h1 h2 => ?_⟩
      simp only [cond_true] at e
      by_cases hq : q = 1024 + k
      · rw [hq]; exact ht
      · exact b (by omega) q h1 (by omega)
theorem pk_free {T : Nat → Bool} {d : Nat} (hlo : ∀ q, q < 1024 → T q = false) (h : cn T 65536 < 64512) : pk T d < 65536 := by
  obtain ⟨a, b, c, e⟩ := pk_le T d
  by_cases h5 : pk T d = 65536
  · have := cn_all hlo (e h5) 64512 (by decide)
    rw [show 1024 + 64512 = 65536 by rfl] at this; omega
  · omega
theorem pk_full {T : Nat → Bool} (hf : ∀ q, 1024 ≤ q → q < 65536 → T q = true) (d : Nat) : pk T d = 65536 := by
  obtain ⟨a, b, c, e⟩ := pk_le T d
  by_cases h5 : pk T d < 65536
  · have := (c h5).symm.trans (hf _ b h5); cases this
  · omega
theorem all_law {T : Nat → Bool} {dr bk : Nat} (hb : bk < 65536) (hlo : ∀ q, q < 1024 → T q = false) (hf : ∀ q, 1024 ≤ q → q < 65536 → T q = true) : (((((pkT T dr) bk) == (decide (((bk : Nat) : Int) ≥ 1024))) && ((decide (pk (gvT (pkT T dr) bk) dr < 65536)) == ((pkT T dr) bk))) && ((!(decide (pk (gvT (pkT T dr) bk) dr < 65536))) || (((pkV (gvT (pkT T dr) bk) dr : Nat) : Int) == ((bk : Nat) : Int)))) = true := by
  have e1 : pkT T dr = T := by unfold pkT; rw [pk_full hf]; rfl
  rw [e1]
  by_cases h : 1024 ≤ bk
  · have hT := hf bk h hb
    have hU : gvT T bk = up T bk false := by unfold gvT; rw [hT]; rfl
    rw [hU, hT, decide_eq_true (show ((bk : Nat) : Int) ≥ 1024 by omega)]
    obtain ⟨a, b, c, e⟩ := pk_le (up T bk false) dr
    have hlt : pk (up T bk false) dr < 65536 := by
      by_cases h5 : pk (up T bk false) dr = 65536
      · have := (e h5 bk h hb).symm.trans (up_same T bk false); cases this
      · omega
    have hp : pk (up T bk false) dr = bk := by
      by_cases h6 : pk (up T bk false) dr = bk
      · exact h6
      · have := (c hlt).symm.trans ((up_other T false h6).trans (hf _ b hlt)); cases this
    have hv : pkV (up T bk false) dr = bk := by unfold pkV; rw [if_pos hlt, hp]
    rw [hv, decide_eq_true hlt]; simp
  · have hT := hlo bk (by omega)
    have hU : gvT T bk = T := by unfold gvT; rw [hT]; rfl
    rw [hU, hT, pk_full hf, decide_eq_false (show ¬ ((bk : Nat) : Int) ≥ 1024 by omega)]; rfl
theorem all_c (dr bk : Nat) (w : World) (hdr : dr < 18446744073709551616) (hbk : bk < 65536) (htab : At w (some ⟨1, 0, none⟩) (byc dbt)) : Calls Tryd.prog 3 #[Value.int .u64 ((dr : Nat) : Int), Value.int .u16 ((bk : Nat) : Int)] w (Ret w (.bool true)) := by
  refine calls_W (M := []) (LL := []) (n := 91) Tryd.func3 rfl rfl (by simp) (Mem.refl _) ?_
  refine W.seq (fun K1 hK1 => ?_)
  refine W.region ?_
  refine Wl.run 1 (by kernel_rfl) ?_
  refine Wl.nil ?_
  refine hK1 _ _ _ ?_
  refine W.seq (fun K2 hK2 => ?_)
  refine W.seq (fun K3 hK3 => ?_)
  refine W.region ?_
  refine Wl.yc (v := Value.bool true) rfl rfl (Yc.call (k := 10) (args := #[]) (fun _ => by kernel_rfl) (fun w_ hm_ => speaks7_c _ (htab.mem0 hm_))) ?_
  refine Wl.run 1 (by kernel_rfl) ?_
  refine Wl.nil ?_
  refine hK3 _ _ _ ?_
  refine W.prune' [0, 1, 16] [Value.int .u64 ((dr : Nat) : Int), Value.int .u16 ((bk : Nat) : Int), Value.bool false] (by kernel_rfl) (fun f4 => ?_)
  refine W.condF (by kernel_rfl) ?_
  refine W.skip' ?_
  refine hK2 _ _ _ ?_
  refine W.prune' [0, 1] [Value.int .u64 ((dr : Nat) : Int), Value.int .u16 ((bk : Nat) : Int)] (by kernel_rfl) (fun f5 => ?_)
  refine W.seq (fun K6 hK6 => ?_)
  refine W.region ?_
  refine Wl.htS rfl (HtS.call (β := Nat) (k := 11) (args := #[]) (Lin := []) (Lk := []) (Mi := []) (Lo := fun pb7 => [[cb pb7 (psC (fun _ => false) 0) 74]]) [] [] rfl (fun _ => by kernel_rfl) (by decide) rfl rfl rfl (fun w_ hm_ hl_ => (new_c _)) (fun _ => rfl)) (fun pb7 _ => ?_)
  refine Wl.run 1 (by kernel_rfl) ?_
  refine Wl.nil ?_
  refine hK6 _ _ _ ?_
  refine W.prune' [0, 1, 5] [Value.int .u64 ((dr : Nat) : Int), Value.int .u16 ((bk : Nat) : Int), Value.pointer (some ⟨pb7, 0, none⟩)] (by kernel_rfl) (fun f9 => ?_)
  refine W.seq (fun K10 hK10 => ?_)
  refine W.seq (fun K11 hK11 => ?_)
  refine W.region ?_
  refine Wl.run 2 (by kernel_rfl) ?_
  refine Wl.nil ?_
  refine hK11 _ _ _ ?_
  refine W.prune' [0, 1, 5, 19] [Value.int .u64 ((dr : Nat) : Int), Value.int .u16 ((bk : Nat) : Int), Value.pointer (some ⟨pb7, 0, none⟩), Value.bool false] (by kernel_rfl) (fun f12 => ?_)
  refine W.condF (by kernel_rfl) ?_
  refine W.skip' ?_
  refine hK10 _ _ _ ?_
  refine W.prune' [0, 1, 5] [Value.int .u64 ((dr : Nat) : Int), Value.int .u16 ((bk : Nat) : Int), Value.pointer (some ⟨pb7, 0, none⟩)] (by kernel_rfl) (fun f13 => ?_)
  refine W.seq (fun K14 hK14 => ?_)
  refine W.region ?_
  refine Wl.ht rfl (Ht.make (kl := .i64) (kc := .i64) (t := 27) (e := 4) (ii := (Tryd.prog.info? 4).getD default) (z := Value.bool false) (lv := 65536) (sz := 1) (bytes := 1) (cs := mc Value.bool (List.replicate 65536 false)) rfl rfl (by kernel_rfl) (by kernel_rfl) (by kernel_rfl) (by kernel_rfl) (by kernel_rfl) (by kernel_rfl) (by kernel_rfl) (by omega) (by omega) (by omega) (mc_zero (g := Value.bool) _ false rfl)) (fun p20 => ?_)
  refine Wl.run 1 (by kernel_rfl) ?_
  refine Wl.nil ?_
  refine hK14 _ _ _ ?_
  refine W.prune' [0, 1, 5, 6] [Value.int .u64 ((dr : Nat) : Int), Value.int .u16 ((bk : Nat) : Int), Value.pointer (some ⟨pb7, 0, none⟩), Value.slice (some ⟨p20, 0, none⟩) 65536 65536] (by kernel_rfl) (fun f15 => ?_)
  refine W.seq (fun K16 hK16 => ?_)
  refine W.seq (fun K17 hK17 => ?_)
  refine W.pick (LL' := [[cb p20 (mc Value.bool (tb (fun _ => false))) 4], [cb pb7 (psC (fun _ => false) 0) 74]]) [0, 1] (by decide) (by rw [tb_zero]; rfl) ?_
  refine W.region ?_
  refine Wl.run 1 (by kernel_rfl) ?_
  refine Wl.nil ?_
  refine hK17 _ _ _ ?_
  refine W.block ?_
  refine W.loop2 [0, 1, 5, 6, 7] (fun (i_ : Nat) (T : Nat → Bool) => [Value.int .u64 ((dr : Nat) : Int), Value.int .u16 ((bk : Nat) : Int), Value.pointer (some ⟨pb7, 0, none⟩), Value.slice (some ⟨p20, 0, none⟩) 65536 65536, Value.int .u64 ((i_ : Nat) : Int)]) (fun (i_ : Nat) (T : Nat → Bool) => i_ ≤ 64512 ∧ (∀ q, q < 1024 → T q = false) ∧ cn T 65536 = i_) (fun (i_ : Nat) (T : Nat → Bool) => [[cb p20 (mc Value.bool (tb T)) 4], [cb pb7 (psC T ((i_ : Nat) : Int)) 74]]) (fun (i_ : Nat) (T : Nat → Bool) => 64512 - i_) 0 (fun _ => false) (by kernel_rfl) ⟨(Nat.zero_le _), (fun _ _ => rfl), (cn_zero 65536)⟩ (by rfl) (fun i_ T f19 J18 hp20 hJ18 => ?_)
  obtain ⟨hi, hlo, hcn⟩ := hp20
  have htl := tb_len T; obtain ⟨dd, hdd⟩ : ∃ q, q = dr * i_ % 18446744073709551616 := ⟨_, rfl⟩; have hddl : dd < 18446744073709551616 := (by rw [hdd]; exact Nat.mod_lt _ (by decide))
  refine W.seq (fun K21 hK21 => ?_)
  refine W.seq (fun K22 hK22 => ?_)
  refine W.region ?_
  refine Wl.run 2 (by kernel_rfl) ?_
  refine Wl.nil ?_
  refine hK22 _ _ _ ?_
  refine W.prune' [0, 1, 5, 6, 7, 22] [Value.int .u64 ((dr : Nat) : Int), Value.int .u16 ((bk : Nat) : Int), Value.pointer (some ⟨pb7, 0, none⟩), Value.slice (some ⟨p20, 0, none⟩) 65536 65536, Value.int .u64 ((i_ : Nat) : Int), Value.bool (decide (((i_ : Nat) : Int) < 64512))] (by kernel_rfl) (fun f23 => ?_)
  refine W.cond (decide (((i_ : Nat) : Int) < 64512)) (by kernel_rfl) (fun h24 => ?_) (fun h25 => ?_)
  · have qh24 := h24; try simp only [Bool.and_eq_true, Bool.or_eq_true, Bool.not_eq_true', Bool.not_eq_false', Bool.and_eq_false_iff, Bool.or_eq_false_iff, decide_eq_true_eq, decide_eq_false_iff_not, beq_iff_eq, bne_iff_ne, beq_eq_false_iff_ne, bne_eq_false_iff_eq] at qh24
    refine W.skip' ?_
    refine hK21 _ _ _ ?_
    refine W.prune' [0, 1, 5, 6, 7] [Value.int .u64 ((dr : Nat) : Int), Value.int .u16 ((bk : Nat) : Int), Value.pointer (some ⟨pb7, 0, none⟩), Value.slice (some ⟨p20, 0, none⟩) 65536 65536, Value.int .u64 ((i_ : Nat) : Int)] (by kernel_rfl) (fun f26 => ?_)
    refine W.seq (fun K27 hK27 => ?_)
    refine W.block ?_
    refine W.seq (fun K28 hK28 => ?_)
    have hlt := pk_free (d := dd) hlo (by omega)
    have hV : pkV T dd = pk T dd := if_pos hlt
    have hpf := (pk_le T dd).2.2.1 hlt
    have hpg := (pk_le T dd).2.1
    have hpT : pkT T dd = up T (pk T dd) true := by unfold pkT; rw [decide_eq_true hlt]; rfl
    have hpN : pkN T dd ((i_ : Nat) : Int) = ((i_ + 1 : Nat) : Int) := by unfold pkN; rw [decide_eq_true hlt]; simp
    refine W.region ?_
    refine Wl.run 3 (by kernel_rfl) ?_
    refine Wl.ys (v := Value.int .u64 ((dd : Nat) : Int)) rfl rfl (Ys.conseq (v := Value.int .u64 (((dr * i_) % 18446744073709551616 : Nat) : Int)) (int_congr (congrArg (fun n : Nat => (n : Int)) hdd.symm)) ((Ys.pure (v := .int .u64 (imul .u64 ((dr : Nat) : Int) ((i_ : Nat) : Int))) (fun _ => by kernel_rfl)).conseq (int_congr (imul_mod rfl)))) ?_
    have hN31 := pkN_bd T dd ((i_ : Nat) : Int)
    have hV32 := pkV_lt T dd
    refine Wl.htS rfl (HtS.call (β := Unit) (k := 12) (args := #[Value.pointer (some ⟨pb7, 0, none⟩), Value.int .u64 ((dd : Nat) : Int)]) (Lin := [[cb pb7 (psC T ((i_ : Nat) : Int)) 74]]) (Lk := [[cb p20 (mc Value.bool (tb T)) 4]]) (Mi := [pb7]) (Lo := fun u29 => [[cb pb7 (psC (pkT T dd) (pkN T dd ((i_ : Nat) : Int))) 74], [cb p20 (mc Value.bool (tb T)) 4]]) [1] [0] rfl (fun _ => by kernel_rfl) (by decide) rfl rfl rfl (fun w_ hm_ hl_ => (pick_c T ((i_ : Nat) : Int) pb7 dd _ hl_ (by omega) (by omega) (htab.mem0 hm_) (by omega))) (fun _ => rfl)) (fun u29 _ => ?_)
    refine Wl.run 5 (by kernel_rfl) ?_
    refine Wl.nil ?_
    refine hK28 _ _ _ ?_
    refine W.prune' [0, 1, 5, 6, 7, 8, 9] [Value.int .u64 ((dr : Nat) : Int), Value.int .u16 ((bk : Nat) : Int), Value.pointer (some ⟨pb7, 0, none⟩), Value.slice (some ⟨p20, 0, none⟩) 65536 65536, Value.int .u64 ((i_ : Nat) : Int), Value.int .u16 ((pkV T dd : Nat) : Int), Value.bool (decide (pk T dd < 65536))] (by kernel_rfl) (fun f33 => ?_)
    refine W.seq (fun K34 hK34 => ?_)
    refine W.seq (fun K35 hK35 => ?_)
    refine W.region ?_
    refine Wl.run 3 (by kernel_rfl) ?_
    refine Wl.guard (v := Value.int .u16 ((pkV T dd : Nat) : Int)) (!(!(decide (pk T dd < 65536)))) rfl (wantF rfl (by kernel_rfl)) rfl (fun hg36 => ?_) ?_
    · have qhg36 := hg36; try simp only [Bool.and_eq_true, Bool.or_eq_true, Bool.not_eq_true', Bool.not_eq_false', Bool.and_eq_false_iff, Bool.or_eq_false_iff, decide_eq_true_eq, decide_eq_false_iff_not, beq_iff_eq, bne_iff_ne, beq_eq_false_iff_ne, bne_eq_false_iff_eq] at qhg36
      exact Ys.pure (fun _ => by kernel_rfl)
    refine Wl.guard (v := Value.bool (decide (((pkV T dd : Nat) : Int) < 1024))) (!(!(decide (pk T dd < 65536)))) rfl (wantF rfl (by kernel_rfl)) rfl (fun hg37 => ?_) ?_
    · have qhg37 := hg37; try simp only [Bool.and_eq_true, Bool.or_eq_true, Bool.not_eq_true', Bool.not_eq_false', Bool.and_eq_false_iff, Bool.or_eq_false_iff, decide_eq_true_eq, decide_eq_false_iff_not, beq_iff_eq, bne_iff_ne, beq_eq_false_iff_ne, bne_eq_false_iff_eq] at qhg37
      refine Ys.at (t := 36) (v0 := Value.int .u16 ((pkV T dd : Nat) : Int)) (lz (g := !(!(decide (pk T dd < 65536)))) (u := undef) hg37 (by kernel_rfl)) ?_
      exact Ys.pure (fun _ => by kernel_rfl)
    refine Wl.ys (v := Value.bool ((!(decide (pk T dd < 65536))) || (decide (((pkV T dd : Nat) : Int) < 1024)))) rfl rfl (Ys.or' (e := !(decide (pk T dd < 65536))) (b := decide (((pkV T dd : Nat) : Int) < 1024)) rfl (by kernel_rfl) (by kernel_rfl) (by kernel_rfl)) ?_
    refine Wl.run 1 (by kernel_rfl) ?_
    refine Wl.guard (v := Value.slice (some ⟨p20, 0, none⟩) 65536 65536) (!((!(decide (pk T dd < 65536))) || (decide (((pkV T dd : Nat) : Int) < 1024)))) rfl (wantF rfl (by kernel_rfl)) rfl (fun hg38 => ?_) ?_
    · have qhg38 := hg38; try simp only [Bool.and_eq_true, Bool.or_eq_true, Bool.not_eq_true', Bool.not_eq_false', Bool.and_eq_false_iff, Bool.or_eq_false_iff, decide_eq_true_eq, decide_eq_false_iff_not, beq_iff_eq, bne_iff_ne, beq_eq_false_iff_ne, bne_eq_false_iff_eq] at qhg38
      exact Ys.pure (fun _ => by kernel_rfl)
    refine Wl.guard (v := Value.int .u16 ((pkV T dd : Nat) : Int)) (!((!(decide (pk T dd < 65536))) || (decide (((pkV T dd : Nat) : Int) < 1024)))) rfl (wantF rfl (by kernel_rfl)) rfl (fun hg39 => ?_) ?_
    · have qhg39 := hg39; try simp only [Bool.and_eq_true, Bool.or_eq_true, Bool.not_eq_true', Bool.not_eq_false', Bool.and_eq_false_iff, Bool.or_eq_false_iff, decide_eq_true_eq, decide_eq_false_iff_not, beq_iff_eq, bne_iff_ne, beq_eq_false_iff_ne, bne_eq_false_iff_eq] at qhg39
      exact Ys.pure (fun _ => by kernel_rfl)
    refine Wl.guard (v := Value.pointer (some ⟨p20, (pkV T dd) * 1, none⟩)) (!((!(decide (pk T dd < 65536))) || (decide (((pkV T dd : Nat) : Int) < 1024)))) rfl (wantF rfl (by kernel_rfl)) rfl (fun hg40 => ?_) ?_
    · have qhg40 := hg40; try simp only [Bool.and_eq_true, Bool.or_eq_true, Bool.not_eq_true', Bool.not_eq_false', Bool.and_eq_false_iff, Bool.or_eq_false_iff, decide_eq_true_eq, decide_eq_false_iff_not, beq_iff_eq, bne_iff_ne, beq_eq_false_iff_ne, bne_eq_false_iff_eq] at qhg40
      refine Ys.at (t := 40) (v0 := Value.slice (some ⟨p20, 0, none⟩) 65536 65536) (lz (g := !((!(decide (pk T dd < 65536))) || (decide (((pkV T dd : Nat) : Int) < 1024)))) (u := undef) hg40 (by kernel_rfl)) ?_
      refine Ys.at (t := 41) (v0 := Value.int .u16 ((pkV T dd : Nat) : Int)) (lz (g := !((!(decide (pk T dd < 65536))) || (decide (((pkV T dd : Nat) : Int) < 1024)))) (u := undef) hg40 (by kernel_rfl)) ?_
      exact (Ys.indexAddr (k := .u16) (a := some ⟨p20, 0, none⟩) (len := 65536) (cap := 65536) (i := ((pkV T dd : Nat) : Int)) (sz := 1) rfl (by kernel_rfl) (by kernel_rfl) Tryd.runUnderlying27 Tryd.sizeOf4 (by omega) (by omega) rfl).conseq (congrArg (fun a => Value.pointer (some a)) (ela_own0 _ _))
    refine Wl.guard (v := Value.bool (T (pkV T dd))) (!((!(decide (pk T dd < 65536))) || (decide (((pkV T dd : Nat) : Int) < 1024)))) rfl (wantF rfl (by kernel_rfl)) rfl (fun hg41 => ?_) ?_
    · have qhg41 := hg41; try simp only [Bool.and_eq_true, Bool.or_eq_true, Bool.not_eq_true', Bool.not_eq_false', Bool.and_eq_false_iff, Bool.or_eq_false_iff, decide_eq_true_eq, decide_eq_false_iff_not, beq_iff_eq, bne_iff_ne, beq_eq_false_iff_ne, bne_eq_false_iff_eq] at qhg41
      refine Ys.at (t := 42) (v0 := Value.pointer (some ⟨p20, (pkV T dd) * 1, none⟩)) (lz (g := !((!(decide (pk T dd < 65536))) || (decide (((pkV T dd : Nat) : Int) < 1024)))) (u := undef) hg41 (by kernel_rfl)) ?_
      exact Ys.conseq (v := Value.bool ((tb T).getD (pkV T dd) false)) (bool_congr (tb_get (pkV_lt T dd))) (Ys.load (b := p20) (o' := (pkV T dd) * 1) (i := 1) (j := 0) (cs := mc Value.bool (tb T)) (v := Value.bool ((tb T).getD (pkV T dd) false)) rfl (by kernel_rfl) Tryd.isAgg4 rfl rfl (mc_get1 false (by omega)))
    refine Wl.ys (v := Value.bool (((!(decide (pk T dd < 65536))) || (decide (((pkV T dd : Nat) : Int) < 1024))) || (T (pkV T dd)))) rfl rfl (Ys.or' (e := (!(decide (pk T dd < 65536))) || (decide (((pkV T dd : Nat) : Int) < 1024))) (b := T (pkV T dd)) rfl (by kernel_rfl) (by kernel_rfl) (by kernel_rfl)) ?_
    refine Wl.nil ?_
    refine hK35 _ _ _ ?_
    refine W.prune' [0, 1, 5, 6, 7, 8, 36, 37, 40, 41, 42, 43, 44] [Value.int .u64 ((dr : Nat) : Int), Value.int .u16 ((bk : Nat) : Int), Value.pointer (some ⟨pb7, 0, none⟩), Value.slice (some ⟨p20, 0, none⟩) 65536 65536, Value.int .u64 ((i_ : Nat) : Int), Value.int .u16 ((pkV T dd : Nat) : Int), (bif !(!(decide (pk T dd < 65536))) then Value.int .u16 ((pkV T dd : Nat) : Int) else undef), (bif !(!(decide (pk T dd < 65536))) then Value.bool (decide (((pkV T dd : Nat) : Int) < 1024)) else undef), (bif !((!(decide (pk T dd < 65536))) || (decide (((pkV T dd : Nat) : Int) < 1024))) then Value.slice (some ⟨p20, 0, none⟩) 65536 65536 else undef), (bif !((!(decide (pk T dd < 65536))) || (decide (((pkV T dd : Nat) : Int) < 1024))) then Value.int .u16 ((pkV T dd : Nat) : Int) else undef), (bif !((!(decide (pk T dd < 65536))) || (decide (((pkV T dd : Nat) : Int) < 1024))) then Value.pointer (some ⟨p20, (pkV T dd) * 1, none⟩) else undef), (bif !((!(decide (pk T dd < 65536))) || (decide (((pkV T dd : Nat) : Int) < 1024))) then Value.bool (T (pkV T dd)) else undef), Value.bool (((!(decide (pk T dd < 65536))) || (decide (((pkV T dd : Nat) : Int) < 1024))) || (T (pkV T dd)))] (by kernel_rfl) (fun f42 => ?_)
    refine W.cond (((!(decide (pk T dd < 65536))) || (decide (((pkV T dd : Nat) : Int) < 1024))) || (T (pkV T dd))) (by kernel_rfl) (fun h43 => ?_) (fun h44 => ?_)
    · have qh43 := h43; try simp only [Bool.and_eq_true, Bool.or_eq_true, Bool.not_eq_true', Bool.not_eq_false', Bool.and_eq_false_iff, Bool.or_eq_false_iff, decide_eq_true_eq, decide_eq_false_iff_not, beq_iff_eq, bne_iff_ne, beq_eq_false_iff_ne, bne_eq_false_iff_eq] at qh43
      (exfalso; rw [decide_eq_true hlt, hV, hpf] at h43; simp at h43; omega)
    · have qh44 := h44; try simp only [Bool.and_eq_true, Bool.or_eq_true, Bool.not_eq_true', Bool.not_eq_false', Bool.and_eq_false_iff, Bool.or_eq_false_iff, decide_eq_true_eq, decide_eq_false_iff_not, beq_iff_eq, bne_iff_ne, beq_eq_false_iff_ne, bne_eq_false_iff_eq] at qh44
      refine W.skip' ?_
      refine hK34 _ _ _ ?_
      refine W.prune' [0, 1, 5, 6, 7, 8, 36, 37, 40, 41, 42, 43] [Value.int .u64 ((dr : Nat) : Int), Value.int .u16 ((bk : Nat) : Int), Value.pointer (some ⟨pb7, 0, none⟩), Value.slice (some ⟨p20, 0, none⟩) 65536 65536, Value.int .u64 ((i_ : Nat) : Int), Value.int .u16 ((pkV T dd : Nat) : Int), (bif !(!(decide (pk T dd < 65536))) then Value.int .u16 ((pkV T dd : Nat) : Int) else undef), (bif !(!(decide (pk T dd < 65536))) then Value.bool (decide (((pkV T dd : Nat) : Int) < 1024)) else undef), (bif !((!(decide (pk T dd < 65536))) || (decide (((pkV T dd : Nat) : Int) < 1024))) then Value.slice (some ⟨p20, 0, none⟩) 65536 65536 else undef), (bif !((!(decide (pk T dd < 65536))) || (decide (((pkV T dd : Nat) : Int) < 1024))) then Value.int .u16 ((pkV T dd : Nat) : Int) else undef), (bif !((!(decide (pk T dd < 65536))) || (decide (((pkV T dd : Nat) : Int) < 1024))) then Value.pointer (some ⟨p20, (pkV T dd) * 1, none⟩) else undef), (bif !((!(decide (pk T dd < 65536))) || (decide (((pkV T dd : Nat) : Int) < 1024))) then Value.bool (T (pkV T dd)) else undef)] (by kernel_rfl) (fun f45 => ?_)
      refine W.region ?_
      refine Wl.run 2 (by kernel_rfl) ?_
      refine Wl.ys (v := Value.pointer (some ⟨p20, (pkV T dd) * 1, none⟩)) rfl rfl ((Ys.indexAddr (k := .u16) (a := some ⟨p20, 0, none⟩) (len := 65536) (cap := 65536) (i := ((pkV T dd : Nat) : Int)) (sz := 1) rfl (by kernel_rfl) (by kernel_rfl) Tryd.runUnderlying27 Tryd.sizeOf4 (by omega) (by omega) rfl).conseq (congrArg (fun a => Value.pointer (some a)) (ela_own0 _ _))) ?_
      refine Wl.ht rfl (Ht.store (b := p20) (o' := (pkV T dd) * 1) (i := 1) (j := 0) (cs := mc Value.bool (tb T)) (cs' := mc Value.bool ((tb T).set (pkV T dd) true)) (v := Value.bool true) (LL' := [[cb pb7 (psC (pkT T dd) (pkN T dd ((i_ : Nat) : Int))) 74], [cb p20 (mc Value.bool ((tb T).set (pkV T dd) true)) 4]]) rfl rfl (by kernel_rfl) (by kernel_rfl) Tryd.sizeOf4 rfl rfl rfl (by first | (simp [mc]; done) | (simp [mc]; omega)) (mc_set1 (g := Value.bool) (tb T) (pkV T dd) true) rfl) (fun _ => ?_)
      refine Wl.nil ?_
      refine hK27 _ _ _ ?_
      refine W.prune' [0, 1, 5, 6, 7, 36, 37, 40, 41, 42, 43] [Value.int .u64 ((dr : Nat) : Int), Value.int .u16 ((bk : Nat) : Int), Value.pointer (some ⟨pb7, 0, none⟩), Value.slice (some ⟨p20, 0, none⟩) 65536 65536, Value.int .u64 ((i_ : Nat) : Int), (bif !(!(decide (pk T dd < 65536))) then Value.int .u16 ((pkV T dd : Nat) : Int) else undef), (bif !(!(decide (pk T dd < 65536))) then Value.bool (decide (((pkV T dd : Nat) : Int) < 1024)) else undef), (bif !((!(decide (pk T dd < 65536))) || (decide (((pkV T dd : Nat) : Int) < 1024))) then Value.slice (some ⟨p20, 0, none⟩) 65536 65536 else undef), (bif !((!(decide (pk T dd < 65536))) || (decide (((pkV T dd : Nat) : Int) < 1024))) then Value.int .u16 ((pkV T dd : Nat) : Int) else undef), (bif !((!(decide (pk T dd < 65536))) || (decide (((pkV T dd : Nat) : Int) < 1024))) then Value.pointer (some ⟨p20, (pkV T dd) * 1, none⟩) else undef), (bif !((!(decide (pk T dd < 65536))) || (decide (((pkV T dd : Nat) : Int) < 1024))) then Value.bool (T (pkV T dd)) else undef)] (by kernel_rfl) (fun f46 => ?_)
      refine W.region ?_
      refine Wl.run 1 (by kernel_rfl) ?_
      refine Wl.ys (v := Value.int .u64 (((i_ + 1) % 18446744073709551616 : Nat) : Int)) rfl rfl ((Ys.pure (v := .int .u64 (iadd .u64 ((i_ : Nat) : Int) ((1 : Nat) : Int))) (fun _ => by kernel_rfl)).conseq (int_congr (iadd_mod rfl))) ?_
      refine Wl.run 1 (by kernel_rfl) ?_
      refine Wl.nil ?_
      refine fun w_ h_ => hJ18 (i_ + 1) (up T (pk T dd) true) _ w_ (by omega) ⟨(by omega), (fun q hq => by rw [up_other _ _ (by omega)]; exact hlo q hq), (by rw [cn_up hpf, hcn, if_pos hlt])⟩ ?_ (Mem.cast (LL := [[cb p20 (mc Value.bool ((tb T).set (pkV T dd) true)) 4], [cb pb7 (psC (pkT T dd) (pkN T dd ((i_ : Nat) : Int))) 74]]) (by rw [hpT, hpN, hV, tb_set true (by omega)]; try rfl) (h_.pick [1, 0] (by decide) rfl))
      refine Eq.trans (b := ([Value.int .u64 ((dr : Nat) : Int), Value.int .u16 ((bk : Nat) : Int), Value.pointer (some ⟨pb7, 0, none⟩), Value.slice (some ⟨p20, 0, none⟩) 65536 65536, Value.int .u64 (((i_ + 1) % 18446744073709551616 : Nat) : Int)] : List Value)) (by kernel_rfl) (by rw [Nat.mod_eq_of_lt (by omega)])
  · have qh25 := h25; try simp only [Bool.and_eq_true, Bool.or_eq_true, Bool.not_eq_true', Bool.not_eq_false', Bool.and_eq_false_iff, Bool.or_eq_false_iff, decide_eq_true_eq, decide_eq_false_iff_not, beq_iff_eq, bne_iff_ne, beq_eq_false_iff_ne, bne_eq_false_iff_eq] at qh25
    refine W.exit ?_
    refine hK16 _ _ _ ?_
    refine W.pick (LL' := [[cb pb7 (psC T ((i_ : Nat) : Int)) 74]]) [1] (by decide) rfl ?_
    refine W.prune' [0, 1, 5] [Value.int .u64 ((dr : Nat) : Int), Value.int .u16 ((bk : Nat) : Int), Value.pointer (some ⟨pb7, 0, none⟩)] (by kernel_rfl) (fun f47 => ?_)
    refine W.seq (fun K48 hK48 => ?_)
    have hful : ∀ q, 1024 ≤ q → q < 65536 → T q = true := (cn_full hlo 64512).2 (by show cn T 65536 = 64512; omega)
    have hk6 := pk_full hful dr
    have hV6 : pkV T dr = 0 := by unfold pkV; rw [hk6]; rfl
    have hN6 : pkN T dr ((i_ : Nat) : Int) = 64512 := by unfold pkN; rw [hk6]; show ((i_ : Nat) : Int) = 64512; omega
    refine W.region ?_
    refine Wl.run 2 (by kernel_rfl) ?_
    have hN51 := pkN_bd T dr ((i_ : Nat) : Int)
    have hV52 := pkV_lt T dr
    refine Wl.htS rfl (HtS.call (β := Unit) (k := 12) (args := #[Value.pointer (some ⟨pb7, 0, none⟩), Value.int .u64 ((dr : Nat) : Int)]) (Lin := [[cb pb7 (psC T ((i_ : Nat) : Int)) 74]]) (Lk := []) (Mi := [pb7]) (Lo := fun u49 => [[cb pb7 (psC (pkT T dr) (pkN T dr ((i_ : Nat) : Int))) 74]]) [0] [] rfl (fun _ => by kernel_rfl) (by decide) rfl rfl rfl (fun w_ hm_ hl_ => (pick_c T ((i_ : Nat) : Int) pb7 dr _ hl_ (by omega) (by omega) (htab.mem0 hm_) (by omega))) (fun _ => rfl)) (fun u49 _ => ?_)
    refine Wl.run 5 (by kernel_rfl) ?_
    refine Wl.nil ?_
    refine hK48 _ _ _ ?_
    refine W.prune' [0, 1, 5, 10, 11] [Value.int .u64 ((dr : Nat) : Int), Value.int .u16 ((bk : Nat) : Int), Value.pointer (some ⟨pb7, 0, none⟩), Value.int .u16 ((pkV T dr : Nat) : Int), Value.bool (decide (pk T dr < 65536))] (by kernel_rfl) (fun f53 => ?_)
    refine W.seq (fun K54 hK54 => ?_)
    refine W.seq (fun K55 hK55 => ?_)
    refine W.region ?_
    refine Wl.run 2 (by kernel_rfl) ?_
    refine Wl.guard (v := Value.int .u16 ((pkV T dr : Nat) : Int)) (!(decide (pk T dr < 65536))) rfl (wantF rfl (by kernel_rfl)) rfl (fun hg56 => ?_) ?_
    · have qhg56 := hg56; try simp only [Bool.and_eq_true, Bool.or_eq_true, Bool.not_eq_true', Bool.not_eq_false', Bool.and_eq_false_iff, Bool.or_eq_false_iff, decide_eq_true_eq, decide_eq_false_iff_not, beq_iff_eq, bne_iff_ne, beq_eq_false_iff_ne, bne_eq_false_iff_eq] at qhg56
      exact Ys.pure (fun _ => by kernel_rfl)
    refine Wl.guard (v := Value.bool (((pkV T dr : Nat) : Int) != 0)) (!(decide (pk T dr < 65536))) rfl (wantF rfl (by kernel_rfl)) rfl (fun hg57 => ?_) ?_
    · have qhg57 := hg57; try simp only [Bool.and_eq_true, Bool.or_eq_true, Bool.not_eq_true', Bool.not_eq_false', Bool.and_eq_false_iff, Bool.or_eq_false_iff, decide_eq_true_eq, decide_eq_false_iff_not, beq_iff_eq, bne_iff_ne, beq_eq_false_iff_ne, bne_eq_false_iff_eq] at qhg57
      refine Ys.at (t := 56) (v0 := Value.int .u16 ((pkV T dr : Nat) : Int)) (lz (g := !(decide (pk T dr < 65536))) (u := undef) hg57 (by kernel_rfl)) ?_
      exact Ys.pure (fun _ => by kernel_rfl)
    refine Wl.ys (v := Value.bool ((decide (pk T dr < 65536)) || (((pkV T dr : Nat) : Int) != 0))) rfl rfl (Ys.or' (e := decide (pk T dr < 65536)) (b := ((pkV T dr : Nat) : Int) != 0) rfl (by kernel_rfl) (by kernel_rfl) (by kernel_rfl)) ?_
    refine Wl.run 1 (by kernel_rfl) ?_
    refine Wl.guard (v := Value.pointer (some ⟨pb7, 0, none⟩)) (!((decide (pk T dr < 65536)) || (((pkV T dr : Nat) : Int) != 0))) rfl (wantF rfl (by kernel_rfl)) rfl (fun hg58 => ?_) ?_
    · have qhg58 := hg58; try simp only [Bool.and_eq_true, Bool.or_eq_true, Bool.not_eq_true', Bool.not_eq_false', Bool.and_eq_false_iff, Bool.or_eq_false_iff, decide_eq_true_eq, decide_eq_false_iff_not, beq_iff_eq, bne_iff_ne, beq_eq_false_iff_ne, bne_eq_false_iff_eq] at qhg58
      exact Ys.pure (fun _ => by kernel_rfl)
    refine Wl.guardc (v := Value.int .i64 (pkN T dr ((i_ : Nat) : Int))) (!((decide (pk T dr < 65536)) || (((pkV T dr : Nat) : Int) != 0))) rfl (wantF rfl (by kernel_rfl)) rfl (fun hg59 => ?_) ?_
    · have qhg59 := hg59; try simp only [Bool.and_eq_true, Bool.or_eq_true, Bool.not_eq_true', Bool.not_eq_false', Bool.and_eq_false_iff, Bool.or_eq_false_iff, decide_eq_true_eq, decide_eq_false_iff_not, beq_iff_eq, bne_iff_ne, beq_eq_false_iff_ne, bne_eq_false_iff_eq] at qhg59
      refine Yc.at (t := 60) (v0 := Value.pointer (some ⟨pb7, 0, none⟩)) (lz (g := !((decide (pk T dr < 65536)) || (((pkV T dr : Nat) : Int) != 0))) (u := undef) hg59 (by kernel_rfl)) ?_
      exact Yc.call (k := 13) (args := #[Value.pointer (some ⟨pb7, 0, none⟩)]) (fun _ => by kernel_rfl) (fun w_ hm_ => len_c (pkT T dr) (pkN T dr ((i_ : Nat) : Int)) pb7 _ (At.lit0 (i := 0) (j := 0) (t := 74) (b := pb7) hm_ rfl rfl))
    refine Wl.guard (v := Value.bool ((pkN T dr ((i_ : Nat) : Int)) != 64512)) (!((decide (pk T dr < 65536)) || (((pkV T dr : Nat) : Int) != 0))) rfl (wantF rfl (by kernel_rfl)) rfl (fun hg60 => ?_) ?_
    · have qhg60 := hg60; try simp only [Bool.and_eq_true, Bool.or_eq_true, Bool.not_eq_true', Bool.not_eq_false', Bool.and_eq_false_iff, Bool.or_eq_false_iff, decide_eq_true_eq, decide_eq_false_iff_not, beq_iff_eq, bne_iff_ne, beq_eq_false_iff_ne, bne_eq_false_iff_eq] at qhg60
      refine Ys.at (t := 61) (v0 := Value.int .i64 (pkN T dr ((i_ : Nat) : Int))) (lz (g := !((decide (pk T dr < 65536)) || (((pkV T dr : Nat) : Int) != 0))) (u := undef) hg60 (by kernel_rfl)) ?_
      exact Ys.pure (fun _ => by kernel_rfl)
    refine Wl.ys (v := Value.bool (((decide (pk T dr < 65536)) || (((pkV T dr : Nat) : Int) != 0)) || ((pkN T dr ((i_ : Nat) : Int)) != 64512))) rfl rfl (Ys.or' (e := (decide (pk T dr < 65536)) || (((pkV T dr : Nat) : Int) != 0)) (b := (pkN T dr ((i_ : Nat) : Int)) != 64512) rfl (by kernel_rfl) (by kernel_rfl) (by kernel_rfl)) ?_
    refine Wl.nil ?_
    refine hK55 _ _ _ ?_
    refine W.prune' [0, 1, 5, 63] [Value.int .u64 ((dr : Nat) : Int), Value.int .u16 ((bk : Nat) : Int), Value.pointer (some ⟨pb7, 0, none⟩), Value.bool (((decide (pk T dr < 65536)) || (((pkV T dr : Nat) : Int) != 0)) || ((pkN T dr ((i_ : Nat) : Int)) != 64512))] (by kernel_rfl) (fun f61 => ?_)
    refine W.cond (((decide (pk T dr < 65536)) || (((pkV T dr : Nat) : Int) != 0)) || ((pkN T dr ((i_ : Nat) : Int)) != 64512)) (by kernel_rfl) (fun h62 => ?_) (fun h63 => ?_)
    · have qh62 := h62; try simp only [Bool.and_eq_true, Bool.or_eq_true, Bool.not_eq_true', Bool.not_eq_false', Bool.and_eq_false_iff, Bool.or_eq_false_iff, decide_eq_true_eq, decide_eq_false_iff_not, beq_iff_eq, bne_iff_ne, beq_eq_false_iff_ne, bne_eq_false_iff_eq] at qh62
      (exfalso; rw [hk6, hV6, hN6] at h62; simp at h62)
    · have qh63 := h63; try simp only [Bool.and_eq_true, Bool.or_eq_true, Bool.not_eq_true', Bool.not_eq_false', Bool.and_eq_false_iff, Bool.or_eq_false_iff, decide_eq_true_eq, decide_eq_false_iff_not, beq_iff_eq, bne_iff_ne, beq_eq_false_iff_ne, bne_eq_false_iff_eq] at qh63
      refine W.skip' ?_
      refine hK54 _ _ _ ?_
      refine W.prune' [0, 1, 5] [Value.int .u64 ((dr : Nat) : Int), Value.int .u16 ((bk : Nat) : Int), Value.pointer (some ⟨pb7, 0, none⟩)] (by kernel_rfl) (fun f64 => ?_)
      refine W.seq (fun K65 hK65 => ?_)
      refine W.region ?_
      refine Wl.run 2 (by kernel_rfl) ?_
      have hN68 := gvN_bd (pkT T dr) bk (pkN T dr ((i_ : Nat) : Int))
      refine Wl.htS rfl (HtS.call (β := Unit) (k := 14) (args := #[Value.pointer (some ⟨pb7, 0, none⟩), Value.int .u16 ((bk : Nat) : Int)]) (Lin := [[cb pb7 (psC (pkT T dr) (pkN T dr ((i_ : Nat) : Int))) 74]]) (Lk := []) (Mi := [pb7]) (Lo := fun u66 => [[cb pb7 (psC (gvT (pkT T dr) bk) (gvN (pkT T dr) bk (pkN T dr ((i_ : Nat) : Int)))) 74]]) [0] [] rfl (fun _ => by kernel_rfl) (by decide) rfl rfl rfl (fun w_ hm_ hl_ => (give_c (pkT T dr) (pkN T dr ((i_ : Nat) : Int)) pb7 bk _ hl_ (by omega) (by omega) (by omega))) (fun _ => rfl)) (fun u66 _ => ?_)
      refine Wl.run 1 (by kernel_rfl) ?_
      refine Wl.nil ?_
      refine hK65 _ _ _ ?_
      refine W.prune' [0, 1, 5, 12] [Value.int .u64 ((dr : Nat) : Int), Value.int .u16 ((bk : Nat) : Int), Value.pointer (some ⟨pb7, 0, none⟩), Value.bool ((pkT T dr) bk)] (by kernel_rfl) (fun f69 => ?_)
      refine W.seq (fun K70 hK70 => ?_)
      refine W.region ?_
      refine Wl.run 2 (by kernel_rfl) ?_
      have hN73 := pkN_bd (gvT (pkT T dr) bk) dr (gvN (pkT T dr) bk (pkN T dr ((i_ : Nat) : Int)))
      have hV74 := pkV_lt (gvT (pkT T dr) bk) dr
      refine Wl.htS rfl (HtS.call (β := Unit) (k := 12) (args := #[Value.pointer (some ⟨pb7, 0, none⟩), Value.int .u64 ((dr : Nat) : Int)]) (Lin := [[cb pb7 (psC (gvT (pkT T dr) bk) (gvN (pkT T dr) bk (pkN T dr ((i_ : Nat) : Int)))) 74]]) (Lk := []) (Mi := [pb7]) (Lo := fun u71 => [[cb pb7 (psC (pkT (gvT (pkT T dr) bk) dr) (pkN (gvT (pkT T dr) bk) dr (gvN (pkT T dr) bk (pkN T dr ((i_ : Nat) : Int))))) 74]]) [0] [] rfl (fun _ => by kernel_rfl) (by decide) rfl rfl rfl (fun w_ hm_ hl_ => (pick_c (gvT (pkT T dr) bk) (gvN (pkT T dr) bk (pkN T dr ((i_ : Nat) : Int))) pb7 dr _ hl_ (by omega) (by omega) (htab.mem0 hm_) (by omega))) (fun _ => rfl)) (fun u71 _ => ?_)
      refine Wl.run 5 (by kernel_rfl) ?_
      refine Wl.nil ?_
      refine hK70 _ _ _ ?_
      refine W.pick (LL' := []) [] (by decide) rfl ?_
      refine W.prune' [1, 12, 13, 14] [Value.int .u16 ((bk : Nat) : Int), Value.bool ((pkT T dr) bk), Value.int .u16 ((pkV (gvT (pkT T dr) bk) dr : Nat) : Int), Value.bool (decide (pk (gvT (pkT T dr) bk) dr < 65536))] (by kernel_rfl) (fun f75 => ?_)
      refine W.seq (fun K76 hK76 => ?_)
      refine W.region ?_
      refine Wl.run 5 (by kernel_rfl) ?_
      refine Wl.guard (v := Value.bool (decide (pk (gvT (pkT T dr) bk) dr < 65536))) (((pkT T dr) bk) == (decide (((bk : Nat) : Int) ≥ 1024))) rfl (wantT rfl (by kernel_rfl)) rfl (fun hg77 => ?_) ?_
      · have qhg77 := hg77; try simp only [Bool.and_eq_true, Bool.or_eq_true, Bool.not_eq_true', Bool.not_eq_false', Bool.and_eq_false_iff, Bool.or_eq_false_iff, decide_eq_true_eq, decide_eq_false_iff_not, beq_iff_eq, bne_iff_ne, beq_eq_false_iff_ne, bne_eq_false_iff_eq] at qhg77
        exact Ys.pure (fun _ => by kernel_rfl)
      refine Wl.guard (v := Value.bool ((pkT T dr) bk)) (((pkT T dr) bk) == (decide (((bk : Nat) : Int) ≥ 1024))) rfl (wantT rfl (by kernel_rfl)) rfl (fun hg78 => ?_) ?_
      · have qhg78 := hg78; try simp only [Bool.and_eq_true, Bool.or_eq_true, Bool.not_eq_true', Bool.not_eq_false', Bool.and_eq_false_iff, Bool.or_eq_false_iff, decide_eq_true_eq, decide_eq_false_iff_not, beq_iff_eq, bne_iff_ne, beq_eq_false_iff_ne, bne_eq_false_iff_eq] at qhg78
        exact Ys.pure (fun _ => by kernel_rfl)
      refine Wl.guard (v := Value.bool ((decide (pk (gvT (pkT T dr) bk) dr < 65536)) == ((pkT T dr) bk))) (((pkT T dr) bk) == (decide (((bk : Nat) : Int) ≥ 1024))) rfl (wantT rfl (by kernel_rfl)) rfl (fun hg79 => ?_) ?_
      · have qhg79 := hg79; try simp only [Bool.and_eq_true, Bool.or_eq_true, Bool.not_eq_true', Bool.not_eq_false', Bool.and_eq_false_iff, Bool.or_eq_false_iff, decide_eq_true_eq, decide_eq_false_iff_not, beq_iff_eq, bne_iff_ne, beq_eq_false_iff_ne, bne_eq_false_iff_eq] at qhg79
        refine Ys.at (t := 78) (v0 := Value.bool (decide (pk (gvT (pkT T dr) bk) dr < 65536))) (lz (g := ((pkT T dr) bk) == (decide (((bk : Nat) : Int) ≥ 1024))) (u := undef) hg79 (by kernel_rfl)) ?_
        refine Ys.at (t := 79) (v0 := Value.bool ((pkT T dr) bk)) (lz (g := ((pkT T dr) bk) == (decide (((bk : Nat) : Int) ≥ 1024))) (u := undef) hg79 (by kernel_rfl)) ?_
        exact Ys.pure (fun _ => by kernel_rfl)
      refine Wl.ys (v := Value.bool ((((pkT T dr) bk) == (decide (((bk : Nat) : Int) ≥ 1024))) && ((decide (pk (gvT (pkT T dr) bk) dr < 65536)) == ((pkT T dr) bk)))) rfl rfl (Ys.and (e := ((pkT T dr) bk) == (decide (((bk : Nat) : Int) ≥ 1024))) (b := (decide (pk (gvT (pkT T dr) bk) dr < 65536)) == ((pkT T dr) bk)) rfl (by kernel_rfl) (by kernel_rfl) (by kernel_rfl)) ?_
      refine Wl.run 1 (by kernel_rfl) ?_
      refine Wl.guard (v := Value.bool (decide (pk (gvT (pkT T dr) bk) dr < 65536))) ((((pkT T dr) bk) == (decide (((bk : Nat) : Int) ≥ 1024))) && ((decide (pk (gvT (pkT T dr) bk) dr < 65536)) == ((pkT T dr) bk))) rfl (wantT rfl (by kernel_rfl)) rfl (fun hg80 => ?_) ?_
      · have qhg80 := hg80; try simp only [Bool.and_eq_true, Bool.or_eq_true, Bool.not_eq_true', Bool.not_eq_false', Bool.and_eq_false_iff, Bool.or_eq_false_iff, decide_eq_true_eq, decide_eq_false_iff_not, beq_iff_eq, bne_iff_ne, beq_eq_false_iff_ne, bne_eq_false_iff_eq] at qhg80
        exact Ys.pure (fun _ => by kernel_rfl)
      refine Wl.guard (v := Value.bool (!(decide (pk (gvT (pkT T dr) bk) dr < 65536)))) ((((pkT T dr) bk) == (decide (((bk : Nat) : Int) ≥ 1024))) && ((decide (pk (gvT (pkT T dr) bk) dr < 65536)) == ((pkT T dr) bk))) rfl (wantT rfl (by kernel_rfl)) rfl (fun hg81 => ?_) ?_
      · have qhg81 := hg81; try simp only [Bool.and_eq_true, Bool.or_eq_true, Bool.not_eq_true', Bool.not_eq_false', Bool.and_eq_false_iff, Bool.or_eq_false_iff, decide_eq_true_eq, decide_eq_false_iff_not, beq_iff_eq, bne_iff_ne, beq_eq_false_iff_ne, bne_eq_false_iff_eq] at qhg81
        refine Ys.at (t := 83) (v0 := Value.bool (decide (pk (gvT (pkT T dr) bk) dr < 65536))) (lz (g := (((pkT T dr) bk) == (decide (((bk : Nat) : Int) ≥ 1024))) && ((decide (pk (gvT (pkT T dr) bk) dr < 65536)) == ((pkT T dr) bk))) (u := undef) hg81 (by kernel_rfl)) ?_
        exact Ys.pure (fun _ => by kernel_rfl)
      refine Wl.guard (v := Value.bool (!(decide (pk (gvT (pkT T dr) bk) dr < 65536)))) ((((pkT T dr) bk) == (decide (((bk : Nat) : Int) ≥ 1024))) && ((decide (pk (gvT (pkT T dr) bk) dr < 65536)) == ((pkT T dr) bk))) rfl (wantT rfl (by kernel_rfl)) rfl (fun hg82 => ?_) ?_
      · have qhg82 := hg82; try simp only [Bool.and_eq_true, Bool.or_eq_true, Bool.not_eq_true', Bool.not_eq_false', Bool.and_eq_false_iff, Bool.or_eq_false_iff, decide_eq_true_eq, decide_eq_false_iff_not, beq_iff_eq, bne_iff_ne, beq_eq_false_iff_ne, bne_eq_false_iff_eq] at qhg82
        refine Ys.at (t := 84) (v0 := Value.bool (!(decide (pk (gvT (pkT T dr) bk) dr < 65536)))) (lz (g := (((pkT T dr) bk) == (decide (((bk : Nat) : Int) ≥ 1024))) && ((decide (pk (gvT (pkT T dr) bk) dr < 65536)) == ((pkT T dr) bk))) (u := undef) hg82 (by kernel_rfl)) ?_
        exact Ys.pure (fun _ => by kernel_rfl)
      refine Wl.guard (v := Value.int .u16 ((pkV (gvT (pkT T dr) bk) dr : Nat) : Int)) (((((pkT T dr) bk) == (decide (((bk : Nat) : Int) ≥ 1024))) && ((decide (pk (gvT (pkT T dr) bk) dr < 65536)) == ((pkT T dr) bk))) && !(!(decide (pk (gvT (pkT T dr) bk) dr < 65536)))) rfl (wantFz rfl rfl (by kernel_rfl)) rfl (fun hg83 => ?_) ?_
      · have qhg83 := hg83; try simp only [Bool.and_eq_true, Bool.or_eq_true, Bool.not_eq_true', Bool.not_eq_false', Bool.and_eq_false_iff, Bool.or_eq_false_iff, decide_eq_true_eq, decide_eq_false_iff_not, beq_iff_eq, bne_iff_ne, beq_eq_false_iff_ne, bne_eq_false_iff_eq] at qhg83
        exact Ys.pure (fun _ => by kernel_rfl)
      refine Wl.guard (v := Value.int .u16 ((bk : Nat) : Int)) (((((pkT T dr) bk) == (decide (((bk : Nat) : Int) ≥ 1024))) && ((decide (pk (gvT (pkT T dr) bk) dr < 65536)) == ((pkT T dr) bk))) && !(!(decide (pk (gvT (pkT T dr) bk) dr < 65536)))) rfl (wantFz rfl rfl (by kernel_rfl)) rfl (fun hg84 => ?_) ?_
      · have qhg84 := hg84; try simp only [Bool.and_eq_true, Bool.or_eq_true, Bool.not_eq_true', Bool.not_eq_false', Bool.and_eq_false_iff, Bool.or_eq_false_iff, decide_eq_true_eq, decide_eq_false_iff_not, beq_iff_eq, bne_iff_ne, beq_eq_false_iff_ne, bne_eq_false_iff_eq] at qhg84
        exact Ys.pure (fun _ => by kernel_rfl)
      refine Wl.guard (v := Value.bool (((pkV (gvT (pkT T dr) bk) dr : Nat) : Int) == ((bk : Nat) : Int))) (((((pkT T dr) bk) == (decide (((bk : Nat) : Int) ≥ 1024))) && ((decide (pk (gvT (pkT T dr) bk) dr < 65536)) == ((pkT T dr) bk))) && !(!(decide (pk (gvT (pkT T dr) bk) dr < 65536)))) rfl (wantFz rfl rfl (by kernel_rfl)) rfl (fun hg85 => ?_) ?_
      · have qhg85 := hg85; try simp only [Bool.and_eq_true, Bool.or_eq_true, Bool.not_eq_true', Bool.not_eq_false', Bool.and_eq_false_iff, Bool.or_eq_false_iff, decide_eq_true_eq, decide_eq_false_iff_not, beq_iff_eq, bne_iff_ne, beq_eq_false_iff_ne, bne_eq_false_iff_eq] at qhg85
        refine Ys.at (t := 86) (v0 := Value.int .u16 ((pkV (gvT (pkT T dr) bk) dr : Nat) : Int)) (lz (g := ((((pkT T dr) bk) == (decide (((bk : Nat) : Int) ≥ 1024))) && ((decide (pk (gvT (pkT T dr) bk) dr < 65536)) == ((pkT T dr) bk))) && !(!(decide (pk (gvT (pkT T dr) bk) dr < 65536)))) (u := undef) hg85 (by kernel_rfl)) ?_
        refine Ys.at (t := 87) (v0 := Value.int .u16 ((bk : Nat) : Int)) (lz (g := ((((pkT T dr) bk) == (decide (((bk : Nat) : Int) ≥ 1024))) && ((decide (pk (gvT (pkT T dr) bk) dr < 65536)) == ((pkT T dr) bk))) && !(!(decide (pk (gvT (pkT T dr) bk) dr < 65536)))) (u := undef) hg85 (by kernel_rfl)) ?_
        exact Ys.pure (fun _ => by kernel_rfl)
      refine Wl.guard (v := Value.bool ((!(decide (pk (gvT (pkT T dr) bk) dr < 65536))) || (((pkV (gvT (pkT T dr) bk) dr : Nat) : Int) == ((bk : Nat) : Int)))) ((((pkT T dr) bk) == (decide (((bk : Nat) : Int) ≥ 1024))) && ((decide (pk (gvT (pkT T dr) bk) dr < 65536)) == ((pkT T dr) bk))) rfl (wantT rfl (by kernel_rfl)) rfl (fun hg86 => ?_) ?_
      · have qhg86 := hg86; try simp only [Bool.and_eq_true, Bool.or_eq_true, Bool.not_eq_true', Bool.not_eq_false', Bool.and_eq_false_iff, Bool.or_eq_false_iff, decide_eq_true_eq, decide_eq_false_iff_not, beq_iff_eq, bne_iff_ne, beq_eq_false_iff_ne, bne_eq_false_iff_eq] at qhg86
        refine Ys.at (t := 85) (v0 := Value.bool (!(decide (pk (gvT (pkT T dr) bk) dr < 65536)))) (lz (g := (((pkT T dr) bk) == (decide (((bk : Nat) : Int) ≥ 1024))) && ((decide (pk (gvT (pkT T dr) bk) dr < 65536)) == ((pkT T dr) bk))) (u := undef) hg86 (by kernel_rfl)) ?_
        refine Ys.at (t := 88) (v0 := (bif !(!(decide (pk (gvT (pkT T dr) bk) dr < 65536))) then Value.bool (((pkV (gvT (pkT T dr) bk) dr : Nat) : Int) == ((bk : Nat) : Int)) else undef)) (lz2 (g := (((pkT T dr) bk) == (decide (((bk : Nat) : Int) ≥ 1024))) && ((decide (pk (gvT (pkT T dr) bk) dr < 65536)) == ((pkT T dr) bk))) hg86 (by kernel_rfl)) ?_
        exact Ys.or' (e := !(decide (pk (gvT (pkT T dr) bk) dr < 65536))) (b := ((pkV (gvT (pkT T dr) bk) dr : Nat) : Int) == ((bk : Nat) : Int)) rfl (by kernel_rfl) (by kernel_rfl) (by kernel_rfl)
      refine Wl.ys (v := Value.bool (((((pkT T dr) bk) == (decide (((bk : Nat) : Int) ≥ 1024))) && ((decide (pk (gvT (pkT T dr) bk) dr < 65536)) == ((pkT T dr) bk))) && ((!(decide (pk (gvT (pkT T dr) bk) dr < 65536))) || (((pkV (gvT (pkT T dr) bk) dr : Nat) : Int) == ((bk : Nat) : Int))))) rfl rfl (Ys.and (e := (((pkT T dr) bk) == (decide (((bk : Nat) : Int) ≥ 1024))) && ((decide (pk (gvT (pkT T dr) bk) dr < 65536)) == ((pkT T dr) bk))) (b := (!(decide (pk (gvT (pkT T dr) bk) dr < 65536))) || (((pkV (gvT (pkT T dr) bk) dr : Nat) : Int) == ((bk : Nat) : Int))) rfl (by kernel_rfl) (by kernel_rfl) (by kernel_rfl)) ?_
      refine Wl.run 1 (by kernel_rfl) ?_
      refine Wl.nil ?_
      refine hK76 _ _ _ ?_
      refine W.prune' [4] [Value.bool (((((pkT T dr) bk) == (decide (((bk : Nat) : Int) ≥ 1024))) && ((decide (pk (gvT (pkT T dr) bk) dr < 65536)) == ((pkT T dr) bk))) && ((!(decide (pk (gvT (pkT T dr) bk) dr < 65536))) || (((pkV (gvT (pkT T dr) bk) dr : Nat) : Int) == ((bk : Nat) : Int))))] (by kernel_rfl) (fun f87 => ?_)
      refine W.ret ?_
      show ∀ w_, _ → bodyPostM (fence none) 0 Tryd.prog Tryd.f3 _ Exit.ret _ w_
      exact fun w_ hS_ => fin_ret (ret1 rfl (RV.tmp (v := Value.bool (((((pkT T dr) bk) == (decide (((bk : Nat) : Int) ≥ 1024))) && ((decide (pk (gvT (pkT T dr) bk) dr < 65536)) == ((pkT T dr) bk))) && ((!(decide (pk (gvT (pkT T dr) bk) dr < 65536))) || (((pkV (gvT (pkT T dr) bk) dr : Nat) : Int) == ((bk : Nat) : Int))))) (by kernel_rfl)) hS_ ⟨by clear hK1 hK2 hK3 hK6 hK10 hK11 hK14 hK16 hK17 hJ18 hK21 hK22 hK48 hK54 hK55 hK65 hK70 hK76; refine congrArg Ending.returned ?_; exact bool_congr (all_law hbk hlo hful), hS_.below⟩)

end Go.Proofs.YtnhmajdpjapgjaaDoor.Oct
