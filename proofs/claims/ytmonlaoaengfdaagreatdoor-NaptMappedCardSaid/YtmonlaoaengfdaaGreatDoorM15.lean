import Derived.Test.YtmonlaoaengfdaaGreatDoorM14
set_option linter.unusedVariables false
set_option linter.unusedSimpArgs false
set_option maxRecDepth 20000
namespace Go.Proofs.YtmonlaoaengfdaaGreatDoor.Oct
open Go.RowKit Base
attribute [local irreducible] Ys Yc Ht HtS HtIn Wl Wd W Mem pf dpf
def frV (T : Nat → Bool) (p : Nat) : Nat := if nf T p < 65536 then nf T p else 0
theorem fr_start {T : Nat → Bool} {fr : Nat} : nf T fr = nf T (max fr (64 * (fr / 64))) := by rw [Nat.max_eq_left ma1]
theorem fr_A {T : Nat → Bool} {fr w x : Nat} (hw : w < 1024) (he : w = fr / 64) (hx : x = (18446744073709551615 - wd T w) &&& (18446744073709551616 - 2 ^ (fr % 64))) (hi : nf T fr = nf T (max fr (64 * w))) :
    x < 18446744073709551616 ∧ (x ≠ 0 → nf T fr = 64 * w + tz x ∧ tz x < 64) ∧ (x = 0 → nf T fr = nf T (max fr (64 * (w + 1)))) := by
  have hm := Nat.mod_lt fr (show 0 < 64 by decide)
  have hlt : x < 18446744073709551616 := by rw [hx]; exact Nat.lt_of_le_of_lt Nat.and_le_left (by have := wd_lt T w; omega)
  have h := nf_word (T := T) (w := w) (s := fr % 64) (x := x) hw hm hlt (fun k hk => by
    rw [hx, Nat.testBit_and, not_bit hk, mask_bit hm hk, Bool.and_comm])
  rw [show 64 * w + fr % 64 = fr by omega] at h
  refine ⟨hlt, h.1, fun h0 => ?_⟩
  rw [h.2 h0, Nat.max_eq_right ma1]
theorem fr_B {T : Nat → Bool} {fr w x : Nat} (hw : w < 1024) (he : fr / 64 < w) (hx : x = 18446744073709551615 - wd T w) (hi : nf T fr = nf T (max fr (64 * w))) :
    x < 18446744073709551616 ∧ (x ≠ 0 → nf T fr = 64 * w + tz x ∧ tz x < 64) ∧ (x = 0 → nf T fr = nf T (max fr (64 * (w + 1)))) := by
  have hlt : x < 18446744073709551616 := by rw [hx]; have := wd_lt T w; omega
  have h := nf_word (T := T) (w := w) (s := 0) (x := x) hw ma2 hlt (fun k hk => by
    rw [hx, not_bit hk, decide_eq_true (Nat.zero_le k), Bool.true_and])
  rw [hi, Nat.max_eq_right ma1]
  refine ⟨hlt, h.1, fun h0 => ?_⟩
  rw [show 64 * w = 64 * w + 0 by rfl, h.2 h0, Nat.max_eq_right ma1]
theorem frV_eq {T : Nat → Bool} {fr v : Nat} (h : nf T fr = v) (hv : v < 65536) : frV T fr = v ∧ decide (nf T fr < 65536) = true := by
  unfold frV; rw [h, if_pos hv]; exact ⟨rfl, decide_eq_true hv⟩
theorem frV_no {T : Nat → Bool} {fr : Nat} (h : nf T fr = nf T (max fr (64 * 1024))) (hf : fr < 65536) : frV T fr = 0 ∧ decide (nf T fr < 65536) = false := by
  have e : nf T fr = 65536 := by rw [h, Nat.max_eq_right ma1]; exact nf_end (Nat.le_refl _)
  unfold frV; rw [e]; exact ⟨rfl, rfl⟩
theorem free_c (T : Nat → Bool) (n : Int) (b fr : Nat) (w : World) (hat : At w (some ⟨b, 0, none⟩) (psC T n)) (htab : At w (some ⟨0, 0, none⟩) (byc dbt)) (hfr : fr < 65536) : Calls Tryz.prog 162 #[pV b 0, nV .i64 fr] w (Ret w (.tuple #[.int .i64 (frV T fr : Int), .bool (decide (nf T fr < 65536))])) := by
 have hfm := Nat.mod_lt fr (show 0 < 64 by decide); obtain ⟨mv, hmv⟩ : ∃ z, z = 18446744073709551616 - 2 ^ (fr % 64) := ⟨_, rfl⟩; have hmvl : mv < 18446744073709551616 := (by have h2 := Nat.two_pow_pos (fr % 64); omega)
 refine calls_W (M := []) (LL := []) (n := 37) Tryz.func162 rfl rfl ma6 (Mem.refl _) (W.seq (fun K1 hK1 => ?_))
 refine W.region (Wl.run 2 ma0 (Wl.nil (hK1 _ _ _ (W.prune' [0, 1] [pV b 0, nV .i64 fr] ma0 (fun f2 => ?_)))))
 refine W.seq (fun K3 hK3 => W.seq (fun K4 hK4 => ?_))
 refine W.region (Wl.run 1 ma0 (Wl.ys (v := nV .i64 (fr / 64)) rfl rfl ((Ys.pure (v := .int .i64 (iquo .i64 (fr : Int) 64)) (fun _ => kr)).conseq (int_congr (iquo_nat ma1))) (Wl.run 1 ma0 (Wl.nil ?_))))
 refine hK4 _ _ _ (W.prune' [0, 1, 6] [pV b 0, nV .i64 fr, nV .i64 (fr / 64)] ma0 (fun f5 => ?_))
 refine W.block (W.loop1 [0, 1, 6] (fun (wi : Nat) => [pV b 0, nV .i64 fr, nV .i64 wi]) (fun (wi : Nat) => wi ≤ 1024 ∧ fr / 64 ≤ wi ∧ nf T fr = nf T (max fr (64 * wi))) (fun (wi : Nat) => []) (fun (wi : Nat) => 1024 - wi) (fr / 64) ma0 ⟨ma1, (Nat.le_refl _), fr_start⟩ (by rfl) (fun wi f7 J6 hp8 hJ6 => ?_))
 obtain ⟨hw, hlo, hi⟩ := hp8
 have hwl := wd_lt T wi; obtain ⟨ov, hov⟩ : ∃ z, z = 18446744073709551615 - wd T wi := ⟨_, rfl⟩; obtain ⟨ow, how⟩ : ∃ z, z = ov &&& mv := ⟨_, rfl⟩; have hovl : ov < 18446744073709551616 := ma1; have howl : ow < 18446744073709551616 := (by rw [how]; exact Nat.lt_of_le_of_lt Nat.and_le_left hovl)
 refine W.seq (fun K9 hK9 => W.seq (fun K10 hK10 => ?_))
 refine W.region (Wl.run 2 ma0 (Wl.nil (hK10 _ _ _ (W.prune' [0, 1, 6, 11] [pV b 0, nV .i64 fr, nV .i64 wi, bV (decide (((wi : Nat) : Int) < 1024))] ma0 (fun f11 => ?_)))))
 refine W.cond (decide (((wi : Nat) : Int) < 1024)) ma0 (fun h12 => ?_) (fun h13 => ?_)
 ·have qh12 := h12; try simp only [zA] at qh12
  refine W.skip' (hK9 _ _ _ (W.prune' [0, 1, 6] [pV b 0, nV .i64 fr, nV .i64 wi] ma0 (fun f14 => W.seq (fun K15 hK15 => W.block ?_))))
  refine W.seq (fun K16 hK16 => W.region (Wl.run 4 ma0 (Wl.ys (v := Value.pointer (some ⟨b, wi * 1, none⟩)) rfl rfl ((Ys.indexArr (k := .i64) (i := (wi : Int)) (sz := 1) rfl ma0 ma0 Tryz.runUnderlying228 Tryz.sizeOf45 ma1 ma1).conseq (by rw [Nat.zero_add]; try rfl)) (Wl.ys (v := nV .u64 (wd T wi)) rfl rfl (Ys.ld (a := ⟨b, wi * 1, none⟩) rfl ma0 Tryz.isAgg45 (fun w_ h_ => by have x_ := (hat.mem0 h_).ld (q := wi * 1) (psC_get1 ma1); rw [ela_own0] at x_; exact x_)) ?_))))
  refine Wl.ys (v := nV .u64 ov) rfl rfl (Ys.conseq (v := nV .u64 (18446744073709551615 - (wd T wi))) (int_congr (congrArg (fun n : Nat => (n : Int)) hov.symm)) ((Ys.pure (v := .int .u64 (bxor .u64 ((18446744073709551615 : Nat) : Int) (wd T wi : Int))) (fun _ => kr)).conseq (int_congr (bnot_nat rfl ma18 18446744073709551615 rfl)))) (Wl.run 1 ma0 (Wl.nil (hK16 _ _ _ (W.prune' [0, 1, 6, 7] [pV b 0, nV .i64 fr, nV .i64 wi, nV .u64 ov] ma0 (fun f17 => ?_)))))
  refine W.seq (fun K18 hK18 => W.seq (fun K19 hK19 => ?_))
  refine W.region (Wl.run 2 ma0 (Wl.ys (v := nV .i64 (fr / 64)) rfl rfl ((Ys.pure (v := .int .i64 (iquo .i64 (fr : Int) 64)) (fun _ => kr)).conseq (int_congr (iquo_nat ma1))) (Wl.run 1 ma0 (Wl.nil ?_))))
  refine hK19 _ _ _ (W.prune' [0, 1, 6, 7, 24] [pV b 0, nV .i64 fr, nV .i64 wi, nV .u64 ov, bV (((wi : Nat) : Int) == ((fr / 64 : Nat) : Int))] ma0 (fun f20 => ?_))
  refine W.cond (((wi : Nat) : Int) == ((fr / 64 : Nat) : Int)) ma0 (fun h21 => ?_) (fun h22 => ?_)
  ·have qh21 := h21; try simp only [zA] at qh21
   refine W.region (Wl.run 2 ma0 (Wl.ys (v := nV .i64 (fr % 64)) rfl rfl ((Ys.pure (v := .int .i64 (irem (fr : Int) 64)) (fun _ => kr)).conseq (int_congr (rfl))) (Wl.ys (v := nV .u64 mv) rfl rfl (Ys.conseq (v := iV .u64 (ishl .u64 18446744073709551615 ((fr % 64 : Nat) : Int))) (int_congr ((ishl_mask hfm).trans (congrArg (fun n : Nat => (n : Int)) hmv.symm))) (Ys.shl (k := .u64) (k' := .i64) (a := 18446744073709551615) (b := ((fr % 64 : Nat) : Int)) rfl ma0 ma0 ma1)) (Wl.ys (v := nV .u64 ow) rfl rfl (Ys.conseq (v := nV .u64 (ov &&& mv)) (int_congr (congrArg (fun n : Nat => (n : Int)) how.symm)) ((Ys.pure (v := .int .u64 (band .u64 (ov : Int) (mv : Int))) (fun _ => kr)).conseq (int_congr (band_nat rfl ma18 ma18)))) ?_))))
   refine Wl.run 1 ma0 (Wl.nil (hK18 _ _ _ (W.prune' [0, 1, 6, 7] [pV b 0, nV .i64 fr, nV .i64 wi, nV .u64 ow] ma0 (fun f23 => W.seq (fun K24 hK24 => ?_)))))
   refine W.region (Wl.run 2 ma0 (Wl.nil (hK24 _ _ _ (W.prune' [0, 1, 6, 7, 31] [pV b 0, nV .i64 fr, nV .i64 wi, nV .u64 ow, bV (((ow : Nat) : Int) != 0)] ma0 (fun f25 => ?_)))))
   refine W.cond (((ow : Nat) : Int) != 0) ma0 (fun h26 => ?_) (fun h27 => ?_)
   ·have qh26 := h26; try simp only [zA] at qh26
    refine W.seq (fun K28 hK28 => ?_)
    have htz := ((fr_A (x := ow) ma1 ma1 (by rw [how, hov, hmv]) hi).2.1 ma1).2; have hxl := (fr_A (x := ow) ma1 ma1 (by rw [how, hov, hmv]) hi).1
    refine W.region (Wl.run 1 ma0 (Wl.ys (v := nV .i64 (wi * 64)) rfl rfl ((Ys.pure (v := .int .i64 (imul .i64 (wi : Int) 64)) (fun _ => kr)).conseq (int_congr (imul_eq (by first | omega | rfl | (push_cast; rfl)) ma1 ma1))) (Wl.run 1 ma0 (Wl.yc (v := nV .i64 (tz ow)) rfl rfl (Yc.call (fun _ => kr) (fun w_ hm_ => tz_c ow _ ((htab.mem0 hm_)) ma1 ma1)) ?_))))
    refine Wl.ys (v := nV .i64 ((wi * 64) + (tz ow))) rfl rfl ((Ys.pure (v := .int .i64 (iadd .i64 ((wi * 64 : Nat) : Int) (tz ow : Int))) (fun _ => kr)).conseq (int_congr (iadd_eq ma1 ma1 ma1))) (Wl.run 2 ma0 (Wl.nil (hK28 _ _ _ (W.prune' [4, 5] [nV .i64 ((wi * 64) + (tz ow)), bV true] ma0 (fun f29 => ?_)))))
    refine W.ret ?_
    show ∀ w_, _ → bodyPostM (fence none) 0 Tryz.prog Tryz.f162 _ Exit.ret _ w_
    exact fun w_ hS_ => fin_ret (ret2 rfl (RV.tmp (v := nV .i64 ((wi * 64) + (tz ow))) ma0) (RV.tmp (v := bV true) ma0) hS_ ⟨by clear hK1 hK3 hK4 hJ6 hK9 hK10 hK15 hK16 hK18 hK19 hK24 hK28; refine congrArg Ending.returned ?_; have hz_ := (fr_A (x := ow) ma1 ma1 (by rw [how, hov, hmv]) hi).2.1 ma1; have hy_ := frV_eq hz_.1 ma1; rw [hy_.1, hy_.2, Nat.mul_comm], hS_.below⟩)
   ·have qh27 := h27; try simp only [zA] at qh27
    refine W.skip' (hK15 _ _ _ (W.prune' [0, 1, 6] [pV b 0, nV .i64 fr, nV .i64 wi] ma0 (fun f30 => W.region (Wl.run 1 ma0 ?_))))
    refine Wl.ys (v := nV .i64 (wi + 1)) rfl rfl ((Ys.pure (v := .int .i64 (iadd .i64 (wi : Int) 1)) (fun _ => kr)).conseq (int_congr (iadd_eq ma1 ma1 ma1))) (Wl.run 1 ma0 (Wl.nil ?_))
    have hx3_ := (fr_A (x := ow) ma1 ma1 (by rw [how, hov, hmv]) hi).2.2 ma1
    refine fun w_ h_ => hJ6 (wi + 1) _ w_ ma1 ⟨ma1, ma1, hx3_⟩ ?_ h_
    kernel_rfl
  ·have qh22 := h22; try simp only [zA] at qh22
   refine W.skip' (hK18 _ _ _ (W.prune' [0, 1, 6, 7] [pV b 0, nV .i64 fr, nV .i64 wi, nV .u64 ov] ma0 (fun f31 => W.seq (fun K32 hK32 => W.region ?_))))
   refine Wl.run 2 ma0 (Wl.nil (hK32 _ _ _ (W.prune' [0, 1, 6, 7, 31] [pV b 0, nV .i64 fr, nV .i64 wi, nV .u64 ov, bV (((ov : Nat) : Int) != 0)] ma0 (fun f33 => ?_))))
   refine W.cond (((ov : Nat) : Int) != 0) ma0 (fun h34 => ?_) (fun h35 => ?_)
   ·have qh34 := h34; try simp only [zA] at qh34
    refine W.seq (fun K36 hK36 => ?_)
    have htz := ((fr_B (x := ov) ma1 ma1 hov hi).2.1 ma1).2; have hxl := (fr_B (x := ov) ma1 ma1 hov hi).1
    refine W.region (Wl.run 1 ma0 (Wl.ys (v := nV .i64 (wi * 64)) rfl rfl ((Ys.pure (v := .int .i64 (imul .i64 (wi : Int) 64)) (fun _ => kr)).conseq (int_congr (imul_eq (by first | omega | rfl | (push_cast; rfl)) ma1 ma1))) (Wl.run 1 ma0 (Wl.yc (v := nV .i64 (tz ov)) rfl rfl (Yc.call (fun _ => kr) (fun w_ hm_ => tz_c ov _ ((htab.mem0 hm_)) ma1 ma1)) ?_))))
    refine Wl.ys (v := nV .i64 ((wi * 64) + (tz ov))) rfl rfl ((Ys.pure (v := .int .i64 (iadd .i64 ((wi * 64 : Nat) : Int) (tz ov : Int))) (fun _ => kr)).conseq (int_congr (iadd_eq ma1 ma1 ma1))) (Wl.run 2 ma0 (Wl.nil (hK36 _ _ _ (W.prune' [4, 5] [nV .i64 ((wi * 64) + (tz ov)), bV true] ma0 (fun f37 => ?_)))))
    refine W.ret ?_
    show ∀ w_, _ → bodyPostM (fence none) 0 Tryz.prog Tryz.f162 _ Exit.ret _ w_
    exact fun w_ hS_ => fin_ret (ret2 rfl (RV.tmp (v := nV .i64 ((wi * 64) + (tz ov))) ma0) (RV.tmp (v := bV true) ma0) hS_ ⟨by clear hK1 hK3 hK4 hJ6 hK9 hK10 hK15 hK16 hK18 hK19 hK32 hK36; refine congrArg Ending.returned ?_; have hz_ := (fr_B (x := ov) ma1 ma1 hov hi).2.1 ma1; have hy_ := frV_eq hz_.1 ma1; rw [hy_.1, hy_.2, Nat.mul_comm], hS_.below⟩)
   ·have qh35 := h35; try simp only [zA] at qh35
    refine W.skip' (hK15 _ _ _ (W.prune' [0, 1, 6] [pV b 0, nV .i64 fr, nV .i64 wi] ma0 (fun f38 => W.region (Wl.run 1 ma0 ?_))))
    refine Wl.ys (v := nV .i64 (wi + 1)) rfl rfl ((Ys.pure (v := .int .i64 (iadd .i64 (wi : Int) 1)) (fun _ => kr)).conseq (int_congr (iadd_eq ma1 ma1 ma1))) (Wl.run 1 ma0 (Wl.nil ?_))
    have hx3_ := (fr_B (x := ov) ma1 ma1 hov hi).2.2 ma1
    refine fun w_ h_ => hJ6 (wi + 1) _ w_ ma1 ⟨ma1, ma1, hx3_⟩ ?_ h_
    kernel_rfl
 ·have qh13 := h13; try simp only [zA] at qh13
  refine W.exit (hK3 _ _ _ (W.prune' [] [] ma0 (fun f39 => W.seq (fun K40 hK40 => W.region ?_))))
  refine Wl.run 2 ma0 (Wl.nil (hK40 _ _ _ (W.prune' [4, 5] [iV .i64 0, bV false] ma0 (fun f41 => W.ret ?_))))
  show ∀ w_, _ → bodyPostM (fence none) 0 Tryz.prog Tryz.f162 _ Exit.ret _ w_
  exact fun w_ hS_ => fin_ret (ret2 rfl (RV.tmp (v := iV .i64 0) ma0) (RV.tmp (v := bV false) ma0) hS_ ⟨by clear hK1 hK3 hK4 hJ6 hK9 hK10 hK40; refine congrArg Ending.returned ?_; have hz_ := frV_no (show nf T fr = nf T (max fr (64 * 1024)) by rw [show 1024 = wi by omega]; exact hi) hfr; rw [hz_.1, hz_.2]; rfl, hS_.below⟩)
def pk (T : Nat → Bool) (d : Nat) : Nat := if nf T (1024 + d % 64512) < 65536 then nf T (1024 + d % 64512) else nf T 1024
def pkV (T : Nat → Bool) (d : Nat) : Nat := if pk T d < 65536 then pk T d else 0
def pkT (T : Nat → Bool) (d : Nat) : Nat → Bool := bif decide (pk T d < 65536) then up T (pk T d) true else T
def pkN (T : Nat → Bool) (d : Nat) (n : Int) : Int := bif decide (pk T d < 65536) then n + 1 else n
theorem ps_ne (T : Nat → Bool) (n : Int) : ∀ v ∈ psC T n, ∀ x, v ≠ b8 x := fun v hv x e => by
  subst e
  unfold psC wsC at hv
  rcases List.mem_append.1 hv with h | h
  · obtain ⟨i, _, hi⟩ := List.mem_map.1 h; cases hi
  · cases List.mem_singleton.1 h
theorem ps_apart {w : World} {b : Nat} {T : Nat → Bool} {n : Int} {t : TypeId} (hl : Mem w [b] [[cb b (psC T n) t]] w) (htab : At w (some ⟨0, 0, none⟩) (byc dbt)) : 0 < (byc dbt).length → (Option.getD (some (⟨0, 0, none⟩ : Addr)) default).block ∉ [b] := fun h0 => by
  have hb := hl.at (i := 0) (j := 0) (p := cb b (psC T n) t) rfl rfl
  have := htab.ne (b := b) (cs := psC T n) hb (ps_ne T n) h0
  simpa using this
theorem pk_le (T : Nat → Bool) (d : Nat) : pk T d ≤ 65536 ∧ 1024 ≤ pk T d ∧ (pk T d < 65536 → T (pk T d) = false) ∧ (pk T d = 65536 → ∀ q, 1024 ≤ q → q < 65536 → T q = true) := by
  have hm := Nat.mod_lt d (show 0 < 64512 by decide)
  obtain ⟨a1, a2, a3, a4⟩ := nf_spec T (p := 1024 + d % 64512) ma1
  obtain ⟨b1, b2, b3, b4⟩ := nf_spec T (p := 1024) ma1
  unfold pk; split
  · exact ⟨a1, by omega, a3, fun e => by omega⟩
  · exact ⟨b1, b2, b3, b4⟩
theorem tk_ok {T : Nat → Bool} {p : Nat} (h : 1024 ≤ p) (ht : T p = false) (n : Int) : tkB T p = true ∧ tkT T p = up T p true ∧ tkN T p n = n + 1 := by
  have hB : tkB T p = true := by unfold tkB; rw [ht, decide_eq_false ma1]; rfl
  unfold tkT tkN; rw [hB]; exact ⟨rfl, rfl, rfl⟩
theorem pick_c (T : Nat → Bool) (n : Int) (b d : Nat) (w : World) (hl : Mem w [b] [[cb b (psC T n) 230]] w) (hn1 : -1000000000000 ≤ n) (hn2 : n ≤ 1000000000000) (htab : At w (some ⟨0, 0, none⟩) (byc dbt)) (hd : d < 18446744073709551616) : Calls Tryz.prog 111 #[pV b 0, nV .u64 d] w (RetM w (fun _ : Unit => True) (fun _ => .tuple #[.int .u16 (pkV T d : Int), .bool (decide (pk T d < 65536))]) [b] (fun _ => [[cb b (psC (pkT T d) (pkN T d n)) 230]])) := by
 have hne := ps_apart hl htab; have hdm := Nat.mod_lt d (show 0 < 64512 by decide)
 refine calls_W (M := [b]) (LL := [[cb b (psC T n) 230]]) (n := 32) Tryz.func111 rfl rfl ma6 (hl) (W.seq (fun K1 hK1 => ?_))
 refine W.region (Wl.run 2 ma0 (Wl.nil (hK1 _ _ _ (W.prune' [0, 1] [pV b 0, nV .u64 d] ma0 (fun f2 => ?_)))))
 refine W.seq (fun K3 hK3 => W.region (Wl.run 2 ma0 (Wl.ys (v := nV .u64 (d % 64512)) rfl rfl ((Ys.pure (v := .int .u64 (irem (d : Int) ((64512 : Nat) : Int))) (fun _ => kr)).conseq (int_congr (rfl))) (Wl.ys (v := nV .i64 (d % 64512)) rfl rfl ((Ys.pure (v := .int .i64 (icnv .i64 ((d % 64512 : Nat) : Int))) (fun _ => kr)).conseq (int_congr (wrap_i64 ma1 ma1))) ?_))))
 refine Wl.ys (v := nV .i64 (1024 + (d % 64512))) rfl rfl ((Ys.pure (v := .int .i64 (iadd .i64 1024 ((d % 64512 : Nat) : Int))) (fun _ => kr)).conseq (int_congr (iadd_eq ma1 ma1 ma1))) (Wl.yc (v := Value.tuple #[nV .i64 (frV T (1024 + (d % 64512))), bV (decide (nf T (1024 + (d % 64512)) < 65536))]) rfl rfl (Yc.call (fun _ => kr) (fun w_ hm_ => free_c T n b (1024 + (d % 64512)) _ (At.lit0 (i := 0) (j := 0) (t := 230) (b := b) hm_ rfl rfl) (htab.mem' hm_ hne) ma1)) (Wl.run 5 ma0 (Wl.nil (hK3 _ _ _ ?_))))
 refine W.prune' [0, 6, 7] [pV b 0, nV .i64 (frV T (1024 + (d % 64512))), bV (decide (nf T (1024 + (d % 64512)) < 65536))] ma0 (fun f4 => W.seq (fun K5 hK5 => ?_))
 refine W.seq (fun K6 hK6 => W.region (Wl.run 2 ma0 (Wl.nil (hK6 _ _ _ ?_))))
 refine W.prune' [0, 6, 7, 18] [pV b 0, nV .i64 (frV T (1024 + (d % 64512))), bV (decide (nf T (1024 + (d % 64512)) < 65536)), bV (!(decide (nf T (1024 + (d % 64512)) < 65536)))] ma0 (fun f7 => ?_)
 refine W.cond (!(decide (nf T (1024 + (d % 64512)) < 65536))) ma0 (fun h8 => ?_) (fun h9 => ?_)
 ·have qh8 := h8; try simp only [zA] at qh8
  refine W.region (Wl.run 1 ma0 (Wl.yc (v := Value.tuple #[nV .i64 (frV T 1024), bV (decide (nf T 1024 < 65536))]) rfl rfl (Yc.call (fun _ => kr) (fun w_ hm_ => free_c T n b 1024 _ (At.lit0 (i := 0) (j := 0) (t := 230) (b := b) hm_ rfl rfl) (htab.mem' hm_ hne) ma1)) (Wl.run 5 ma0 (Wl.nil ?_))))
  refine hK5 _ _ _ (W.prune' [0, 6, 7] [pV b 0, nV .i64 (frV T 1024), bV (decide (nf T 1024 < 65536))] ma0 (fun f10 => ?_))
  refine W.seq (fun K11 hK11 => W.seq (fun K12 hK12 => ?_))
  refine W.region (Wl.run 2 ma0 (Wl.nil (hK12 _ _ _ (W.prune' [0, 6, 25] [pV b 0, nV .i64 (frV T 1024), bV (!(decide (nf T 1024 < 65536)))] ma0 (fun f13 => ?_)))))
  refine W.cond (!(decide (nf T 1024 < 65536))) ma0 (fun h14 => ?_) (fun h15 => ?_)
  ·have qh14 := h14; try simp only [zA] at qh14
   refine W.seq (fun K16 hK16 => W.region (Wl.run 2 ma0 (Wl.nil (hK16 _ _ _ ?_))))
   refine W.prune' [4, 5] [iV .u16 0, bV false] ma0 (fun f17 => W.ret ?_)
   have hp65 : pk T d = 65536 := by have ha_ := (nf_spec T (p := 1024) ma2).1; unfold pk; rw [if_neg ma1]; omega
   have hD : decide (pk T d < 65536) = false := by rw [hp65]; rfl
   have hV : pkV T d = 0 := by unfold pkV; rw [if_neg ma1]
   show ∀ w_, _ → bodyPostM (fence none) 0 Tryz.prog Tryz.f111 _ Exit.ret _ w_
   exact fun w_ hS_ => fin_ret (ret2 rfl (RV.tmp (v := iV .u16 0) ma0) (RV.tmp (v := bV false) ma0) hS_ ⟨(), trivial, congrArg Ending.returned ((by rw [hV, hD]; rfl)), (Mem.cast (by unfold pkT pkN; rw [hD]; rfl) hS_)⟩)
  ·have qh15 := h15; try simp only [zA] at qh15
   refine W.skip' (hK11 _ _ _ (W.prune' [0, 6] [pV b 0, nV .i64 (frV T 1024)] ma0 (fun f18 => W.seq (fun K19 hK19 => W.region ?_))))
   refine Wl.run 2 ma0 (Wl.ys (v := nV .u16 ((frV T 1024) % 65536)) rfl rfl ((Ys.pure (v := .int .u16 (icnv .u16 ((frV T 1024 : Nat) : Int))) (fun _ => kr)).conseq (int_congr (icnv_mod rfl _))) (Wl.htS rfl (HtS.call (β := Unit) (k := 70) (args := #[pV b 0, nV .u16 ((frV T 1024) % 65536)]) (Lin := [[cb b (psC T n) 230]]) (Lk := []) (Mi := [b]) (Lo := fun u20 => [[cb b (psC (tkT T ((frV T 1024) % 65536)) (tkN T ((frV T 1024) % 65536) n)) 230]]) [0] [] rfl (fun _ => kr) ma2 rfl rfl rfl (fun w_ hm_ hl_ => (take_c T n b ((frV T 1024) % 65536) _ hl_ ma1 ma1 ma1)) (fun _ => rfl)) (fun u20 _ => Wl.nil (hK19 _ _ _ ?_))))
   refine W.prune' [6] [nV .i64 (frV T 1024)] ma0 (fun f22 => W.seq (fun K23 hK23 => ?_))
   refine W.region (Wl.run 1 ma0 (Wl.ys (v := nV .u16 ((frV T 1024) % 65536)) rfl rfl ((Ys.pure (v := .int .u16 (icnv .u16 ((frV T 1024 : Nat) : Int))) (fun _ => kr)).conseq (int_congr (icnv_mod rfl _))) (Wl.run 2 ma0 (Wl.nil ?_))))
   refine hK23 _ _ _ (W.prune' [4, 5] [nV .u16 ((frV T 1024) % 65536), bV true] ma0 (fun f24 => ?_))
   refine W.ret ?_
   have hpk : pk T d = nf T 1024 := by unfold pk; rw [if_neg ma1]
   have hlt : pk T d < 65536 := by rw [hpk]; omega
   have hfv : frV T 1024 = pk T d := by rw [hpk]; unfold frV; rw [if_pos (by rw [← hpk]; exact hlt)]
   have hD : decide (pk T d < 65536) = true := decide_eq_true hlt
   have hV : pkV T d = pk T d := by unfold pkV; rw [if_pos hlt]
   have htk := tk_ok (pk_le T d).2.1 ((pk_le T d).2.2.1 hlt) n
   have hmd : pk T d % 65536 = pk T d := Nat.mod_eq_of_lt hlt
   show ∀ w_, _ → bodyPostM (fence none) 0 Tryz.prog Tryz.f111 _ Exit.ret _ w_
   exact fun w_ hS_ => fin_ret (ret2 rfl (RV.tmp (v := nV .u16 ((frV T 1024) % 65536)) ma0) (RV.tmp (v := bV true) ma0) hS_ ⟨(), trivial, congrArg Ending.returned ((by rw [hV, hD, hfv, hmd])), (Mem.cast (by unfold pkT pkN; rw [hD, hfv, hmd, htk.2.1, htk.2.2]; rfl) hS_)⟩)
 ·have qh9 := h9; try simp only [zA] at qh9
  refine W.skip' (hK5 _ _ _ (W.prune' [0, 6, 7] [pV b 0, nV .i64 (frV T (1024 + (d % 64512))), bV (decide (nf T (1024 + (d % 64512)) < 65536))] ma0 (fun f25 => W.seq (fun K26 hK26 => W.seq (fun K27 hK27 => ?_)))))
  refine W.region (Wl.run 2 ma0 (Wl.nil (hK27 _ _ _ (W.prune' [0, 6, 25] [pV b 0, nV .i64 (frV T (1024 + (d % 64512))), bV (!(decide (nf T (1024 + (d % 64512)) < 65536)))] ma0 (fun f28 => ?_)))))
  refine W.cond (!(decide (nf T (1024 + (d % 64512)) < 65536))) ma0 (fun h29 => ?_) (fun h30 => ?_)
  ·exact absurd (h9.symm.trans h29) ma2
  ·have qh30 := h30; try simp only [zA] at qh30
   refine W.skip' (hK26 _ _ _ (W.prune' [0, 6] [pV b 0, nV .i64 (frV T (1024 + (d % 64512)))] ma0 (fun f31 => W.seq (fun K32 hK32 => W.region ?_))))
   refine Wl.run 2 ma0 (Wl.ys (v := nV .u16 ((frV T (1024 + (d % 64512))) % 65536)) rfl rfl ((Ys.pure (v := .int .u16 (icnv .u16 (frV T (1024 + (d % 64512)) : Int))) (fun _ => kr)).conseq (int_congr (icnv_mod rfl _))) (Wl.htS rfl (HtS.call (β := Unit) (k := 70) (args := #[pV b 0, nV .u16 ((frV T (1024 + (d % 64512))) % 65536)]) (Lin := [[cb b (psC T n) 230]]) (Lk := []) (Mi := [b]) (Lo := fun u33 => [[cb b (psC (tkT T ((frV T (1024 + (d % 64512))) % 65536)) (tkN T ((frV T (1024 + (d % 64512))) % 65536) n)) 230]]) [0] [] rfl (fun _ => kr) ma2 rfl rfl rfl (fun w_ hm_ hl_ => (take_c T n b ((frV T (1024 + (d % 64512))) % 65536) _ hl_ ma1 ma1 ma1)) (fun _ => rfl)) (fun u33 _ => Wl.nil (hK32 _ _ _ ?_))))
   refine W.prune' [6] [nV .i64 (frV T (1024 + (d % 64512)))] ma0 (fun f35 => W.seq (fun K36 hK36 => ?_))
   refine W.region (Wl.run 1 ma0 (Wl.ys (v := nV .u16 ((frV T (1024 + (d % 64512))) % 65536)) rfl rfl ((Ys.pure (v := .int .u16 (icnv .u16 (frV T (1024 + (d % 64512)) : Int))) (fun _ => kr)).conseq (int_congr (icnv_mod rfl _))) (Wl.run 2 ma0 (Wl.nil ?_))))
   refine hK36 _ _ _ (W.prune' [4, 5] [nV .u16 ((frV T (1024 + (d % 64512))) % 65536), bV true] ma0 (fun f37 => ?_))
   refine W.ret ?_
   have hpk : pk T d = nf T (1024 + d % 64512) := by unfold pk; rw [if_pos ma1]
   have hlt : pk T d < 65536 := by rw [hpk]; omega
   have hfv : frV T (1024 + d % 64512) = pk T d := by rw [hpk]; unfold frV; rw [if_pos (by rw [← hpk]; exact hlt)]
   have hD : decide (pk T d < 65536) = true := decide_eq_true hlt
   have hV : pkV T d = pk T d := by unfold pkV; rw [if_pos hlt]
   have htk := tk_ok (pk_le T d).2.1 ((pk_le T d).2.2.1 hlt) n
   have hmd : pk T d % 65536 = pk T d := Nat.mod_eq_of_lt hlt
   show ∀ w_, _ → bodyPostM (fence none) 0 Tryz.prog Tryz.f111 _ Exit.ret _ w_
   exact fun w_ hS_ => fin_ret (ret2 rfl (RV.tmp (v := nV .u16 ((frV T (1024 + (d % 64512))) % 65536)) ma0) (RV.tmp (v := bV true) ma0) hS_ ⟨(), trivial, congrArg Ending.returned ((by rw [hV, hD, hfv, hmd])), (Mem.cast (by unfold pkT pkN; rw [hD, hfv, hmd, htk.2.1, htk.2.2]; rfl) hS_)⟩)
theorem pkV_lt (T : Nat → Bool) (d : Nat) : pkV T d < 65536 := by unfold pkV; split <;> omega
theorem psC_zero : List.replicate 1024 (Value.int .u64 0) ++ [Value.int .i64 0] = psC (fun _ => false) 0 := by
  have e : ∀ k, bitsN (fun _ => false) k = 0 := by
    intro k
    induction k with
    | zero => rfl
    | succ k ih => rw [bitsN, ih]; rfl
  have h : wsC (fun _ => false) = List.replicate 1024 (Value.int .u64 0) := by
    apply List.ext_getElem?
    intro i
    by_cases hi : i < 1024
    · rw [wsC_get hi, List.getElem?_replicate, if_pos hi]
      unfold wd; rw [e]; rfl
    · rw [List.getElem?_eq_none (by rw [wsC_len]; omega), List.getElem?_replicate, if_neg hi]
  unfold psC; rw [h]
theorem new_c  (w : World) : Calls Tryz.prog 118 #[] w (RetM w (fun _ : Nat => True) (fun b => .pointer (some ⟨b, 0, none⟩)) [] (fun b => [[cb b (psC (fun _ => false) 0) 230]])) := by
 refine calls_W (M := []) (LL := []) (n := 3) Tryz.func118 rfl rfl ma6 (Mem.refl _) (W.seq (fun K1 hK1 => ?_))
 refine W.region (Wl.run 1 ma0 (Wl.nil (hK1 _ _ _ (W.seq (fun K2 hK2 => ?_)))))
 refine W.region (Wl.ys (v := Value.agg (List.replicate 1024 (iV .u64 0) ++ zl9).toArray) rfl rfl (Ys.pure (fun _ => kr)) (Wl.ht rfl (Ht.box (v := Value.agg (List.replicate 1024 (iV .u64 0) ++ zl9).toArray) (cs := List.replicate 1024 (iV .u64 0) ++ zl9) rfl rfl ma0 rfl) (fun p2 => Wl.run 1 ma0 (Wl.nil ?_))))
 refine hK2 _ _ _ (W.prune' [0] [pV p2 0] ma0 (fun f3 => ?_))
 refine W.ret ?_
 show ∀ w_, _ → bodyPostM (fence none) 0 Tryz.prog Tryz.f118 _ Exit.ret _ w_
 exact fun w_ hS_ => fin_ret (ret1 rfl (RV.tmp (v := pV p2 0) ma0) hS_ ⟨p2, trivial, rfl, (Mem.cast (by rw [← psC_zero]) hS_)⟩)
end Go.Proofs.YtmonlaoaengfdaaGreatDoor.Oct
