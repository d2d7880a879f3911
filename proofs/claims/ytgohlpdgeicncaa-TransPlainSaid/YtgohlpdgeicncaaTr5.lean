/-
  TransPlain. No condition.
-/
import Derived.Test.YtgohlpdgeicncaaTr4
set_option linter.unusedVariables false
set_option linter.unusedSimpArgs false
set_option maxRecDepth 20000
namespace Go.Proofs.Ytgohlpdgeicncaa.Oct
open Go.RowKit Base
attribute [local irreducible] Ys Yc Ht HtIn Wl Wd W Mem pf dpf Wa Wo

/-- What the addresses are in a sum. -/
def asum (s d : Nat) : Nat := s / 65536 + s % 65536 + d / 65536 + d % 65536
theorem pw_psh {s d n : Nat} {pr : UInt8} (hs : s < 4294967296) (hd : d < 4294967296) (hn : n < 65536) : (pw (psh s d pr n)).sum = asum s d + pr.toNat + n := by
  have e : pw (psh s d pr n) = [(UInt8.ofNat (s / 256 / 256 / 256)).toNat * 256 + (UInt8.ofNat (s / 256 / 256)).toNat, (UInt8.ofNat (s / 256)).toNat * 256 + (UInt8.ofNat s).toNat, (UInt8.ofNat (d / 256 / 256 / 256)).toNat * 256 + (UInt8.ofNat (d / 256 / 256)).toNat, (UInt8.ofNat (d / 256)).toNat * 256 + (UInt8.ofNat d).toNat, (0 : UInt8).toNat * 256 + pr.toNat, (UInt8.ofNat (n / 256)).toNat * 256 + (UInt8.ofNat n).toNat] := rfl
  rw [e]
  unfold asum
  simp only [List.sum_cons, List.sum_nil, UInt8.toNat_ofNat']
  have h0 : (0 : UInt8).toNat = 0 := rfl
  rw [h0]
  omega
theorem fd_full (S : Nat) : 65535 - fd S = 0 ↔ 0 < S ∧ S % 65535 = 0 := by
  unfold fd; split <;> omega
theorem cks_psh {s d n : Nat} {pr : UInt8} {zs : List UInt8} (hs : s < 4294967296) (hd : d < 4294967296) (hn : n < 65536) : cks (psh s d pr n ++ zs) = 65535 - fd (asum s d + pr.toNat + n + (pw zs).sum) := by
  unfold cks; rw [pw_app _ _ (by rw [psh_len]), List.sum_append, pw_psh hs hd hn]
theorem cks_other {s d s2 d2 n : Nat} {pr : UInt8} {zs : List UInt8} (hs : s < 4294967296) (hd : d < 4294967296) (hs2 : s2 < 4294967296) (hd2 : d2 < 4294967296) (hn : n < 65536) (hp : 0 < pr.toNat) (h : cks (psh s d pr n ++ zs) = 0) :
    cks (psh s2 d2 pr n ++ zs) = 0 ↔ asum s d % 65535 = asum s2 d2 % 65535 := by
  rw [cks_psh hs hd hn, fd_full] at h
  rw [cks_psh hs2 hd2 hn, fd_full]
  omega
theorem words_c (s d : Nat) (w : World) (hs : s < 4294967296) (hd : d < 4294967296) : Calls Try.prog 18 #[Value.agg ([Value.int .u32 ((s : Nat) : Int), Value.int .u32 ((d : Nat) : Int)]).toArray] w (Ret w (.int .u64 ((asum s d % 65535 : Nat) : Int))) := by
  refine calls_W (M := []) (LL := []) (n := 23) Try.func18 rfl rfl (by simp) (Mem.refl _) ?_
  refine W.seq (fun K1 hK1 => ?_)
  refine W.region ?_
  refine Wl.ht rfl (Ht.box (v := Value.agg ([Value.int .u32 ((s : Nat) : Int), Value.int .u32 ((d : Nat) : Int)]).toArray) (cs := [Value.int .u32 ((s : Nat) : Int), Value.int .u32 ((d : Nat) : Int)]) rfl rfl (by kernel_rfl) rfl) (fun p1 => ?_)
  refine Wl.run 1 (by kernel_rfl) ?_
  refine Wl.nil ?_
  refine hK1 _ _ _ ?_
  refine W.prune' [1] [Value.pointer (some ⟨p1, 0, none⟩)] (by kernel_rfl) (fun f2 => ?_)
  refine W.seq (fun K3 hK3 => ?_)
  refine W.region ?_
  refine Wl.run 1 (by kernel_rfl) ?_
  refine Wl.ys (v := Value.int .u32 ((s : Nat) : Int)) rfl rfl (Ys.load (b := p1) (o' := 0) (i := 0) (j := 0) (cs := [Value.int .u32 ((s : Nat) : Int), Value.int .u32 ((d : Nat) : Int)]) (v := Value.int .u32 ((s : Nat) : Int)) rfl (by kernel_rfl) Try.isAgg23 rfl rfl rfl) ?_
  refine Wl.ys (v := Value.int .u32 ((s / 65536 : Nat) : Int)) rfl rfl ((Ys.pure (v := .int .u32 (ishr .u32 ((s : Nat) : Int) ((16 : Nat) : Int))) (fun _ => by kernel_rfl)).conseq (int_congr (ishr_nat s 16 (by decide)))) ?_
  refine Wl.ys (v := Value.int .u64 ((s / 65536 : Nat) : Int)) rfl rfl ((Ys.pure (v := .int .u64 (icnv .u64 ((s / 65536 : Nat) : Int))) (fun _ => by kernel_rfl)).conseq (int_congr (wrap_u64 (by omega) (by omega)))) ?_
  refine Wl.run 1 (by kernel_rfl) ?_
  refine Wl.ys (v := Value.int .u32 ((s : Nat) : Int)) rfl rfl (Ys.load (b := p1) (o' := 0) (i := 0) (j := 0) (cs := [Value.int .u32 ((s : Nat) : Int), Value.int .u32 ((d : Nat) : Int)]) (v := Value.int .u32 ((s : Nat) : Int)) rfl (by kernel_rfl) Try.isAgg23 rfl rfl rfl) ?_
  refine Wl.ys (v := Value.int .u32 ((s % 65536 : Nat) : Int)) rfl rfl ((Ys.pure (v := .int .u32 (band .u32 ((s : Nat) : Int) ((65535 : Nat) : Int))) (fun _ => by kernel_rfl)).conseq (int_congr (band_mask rfl (a := s) (c := 16) (by show _ < 4294967296; omega) (by decide) 65535 rfl))) ?_
  refine Wl.ys (v := Value.int .u64 ((s % 65536 : Nat) : Int)) rfl rfl ((Ys.pure (v := .int .u64 (icnv .u64 ((s % 65536 : Nat) : Int))) (fun _ => by kernel_rfl)).conseq (int_congr (wrap_u64 (by omega) (by omega)))) ?_
  refine Wl.ys (v := Value.int .u64 (((s / 65536) + (s % 65536) : Nat) : Int)) rfl rfl ((Ys.pure (v := .int .u64 (iadd .u64 ((s / 65536 : Nat) : Int) ((s % 65536 : Nat) : Int))) (fun _ => by kernel_rfl)).conseq (int_congr (iadd_natu rfl (by show _ < 18446744073709551616; omega)))) ?_
  refine Wl.run 1 (by kernel_rfl) ?_
  refine Wl.ys (v := Value.int .u32 ((d : Nat) : Int)) rfl rfl (Ys.load (b := p1) (o' := 1) (i := 0) (j := 0) (cs := [Value.int .u32 ((s : Nat) : Int), Value.int .u32 ((d : Nat) : Int)]) (v := Value.int .u32 ((d : Nat) : Int)) rfl (by kernel_rfl) Try.isAgg23 rfl rfl rfl) ?_
  refine Wl.ys (v := Value.int .u32 ((d / 65536 : Nat) : Int)) rfl rfl ((Ys.pure (v := .int .u32 (ishr .u32 ((d : Nat) : Int) ((16 : Nat) : Int))) (fun _ => by kernel_rfl)).conseq (int_congr (ishr_nat d 16 (by decide)))) ?_
  refine Wl.ys (v := Value.int .u64 ((d / 65536 : Nat) : Int)) rfl rfl ((Ys.pure (v := .int .u64 (icnv .u64 ((d / 65536 : Nat) : Int))) (fun _ => by kernel_rfl)).conseq (int_congr (wrap_u64 (by omega) (by omega)))) ?_
  refine Wl.ys (v := Value.int .u64 ((((s / 65536) + (s % 65536)) + (d / 65536) : Nat) : Int)) rfl rfl ((Ys.pure (v := .int .u64 (iadd .u64 (((s / 65536) + (s % 65536) : Nat) : Int) ((d / 65536 : Nat) : Int))) (fun _ => by kernel_rfl)).conseq (int_congr (iadd_natu rfl (by show _ < 18446744073709551616; omega)))) ?_
  refine Wl.run 1 (by kernel_rfl) ?_
  refine Wl.ys (v := Value.int .u32 ((d : Nat) : Int)) rfl rfl (Ys.load (b := p1) (o' := 1) (i := 0) (j := 0) (cs := [Value.int .u32 ((s : Nat) : Int), Value.int .u32 ((d : Nat) : Int)]) (v := Value.int .u32 ((d : Nat) : Int)) rfl (by kernel_rfl) Try.isAgg23 rfl rfl rfl) ?_
  refine Wl.ys (v := Value.int .u32 ((d % 65536 : Nat) : Int)) rfl rfl ((Ys.pure (v := .int .u32 (band .u32 ((d : Nat) : Int) ((65535 : Nat) : Int))) (fun _ => by kernel_rfl)).conseq (int_congr (band_mask rfl (a := d) (c := 16) (by show _ < 4294967296; omega) (by decide) 65535 rfl))) ?_
  refine Wl.ys (v := Value.int .u64 ((d % 65536 : Nat) : Int)) rfl rfl ((Ys.pure (v := .int .u64 (icnv .u64 ((d % 65536 : Nat) : Int))) (fun _ => by kernel_rfl)).conseq (int_congr (wrap_u64 (by omega) (by omega)))) ?_
  refine Wl.ys (v := Value.int .u64 (((((s / 65536) + (s % 65536)) + (d / 65536)) + (d % 65536) : Nat) : Int)) rfl rfl ((Ys.pure (v := .int .u64 (iadd .u64 ((((s / 65536) + (s % 65536)) + (d / 65536) : Nat) : Int) ((d % 65536 : Nat) : Int))) (fun _ => by kernel_rfl)).conseq (int_congr (iadd_natu rfl (by show _ < 18446744073709551616; omega)))) ?_
  refine Wl.ys (v := Value.int .u64 ((((((s / 65536) + (s % 65536)) + (d / 65536)) + (d % 65536)) % 65535 : Nat) : Int)) rfl rfl ((Ys.pure (v := .int .u64 (irem (((((s / 65536) + (s % 65536)) + (d / 65536)) + (d % 65536) : Nat) : Int) ((65535 : Nat) : Int))) (fun _ => by kernel_rfl)).conseq (int_congr (rfl))) ?_
  refine Wl.run 1 (by kernel_rfl) ?_
  refine Wl.nil ?_
  refine hK3 _ _ _ ?_
  refine W.pick (LL' := []) [] (by decide) rfl ?_
  refine W.prune' [2] [Value.int .u64 ((((((s / 65536) + (s % 65536)) + (d / 65536)) + (d % 65536)) % 65535 : Nat) : Int)] (by kernel_rfl) (fun f4 => ?_)
  refine W.ret ?_
  show ∀ w_, _ → bodyPostM (fence none) 0 Try.prog Try.f18 _ Exit.ret _ w_
  exact fun w_ hS_ => fin_ret (ret1 rfl (RV.tmp (v := Value.int .u64 ((((((s / 65536) + (s % 65536)) + (d / 65536)) + (d % 65536)) % 65535 : Nat) : Int)) (by kernel_rfl)) hS_ ⟨rfl, hS_.below⟩)

theorem tp_law {s d s2 d2 fr to : Nat} {pl : Bool} {xs : List UInt8} (hs : s < 4294967296) (hd : d < 4294967296) (hs2 : s2 < 4294967296) (hd2 : d2 < 4294967296) (hf : fr < 65536) (ht : to < 65536) (h1 : uE xs.length = 0) : ((((uR s2 d2 (uB s d fr to pl xs)) == 0) == (pl || (((asum s d % 65535 : Nat) : Int) == ((asum s2 d2 % 65535 : Nat) : Int)))) && (((uR s2 d2 (uB s d fr to pl xs)) == 0) || ((uR s2 d2 (uB s d fr to pl xs)) == 12))) = true := by
  have hx : ¬ 1472 < xs.length := by
    unfold uE at h1; split at h1
    · cases h1
    · assumption
  rw [uB_X hx]
  obtain ⟨m, hm⟩ : ∃ m, m = bif pl then 0 else sealN (uC s d fr to xs) := ⟨_, rfl⟩
  rw [← hm]
  have hml : m < 65536 := by
    rw [hm]; cases pl
    · have hq : uC s d fr to xs ≤ 65535 := by unfold uC; exact cks_le _
      simp only [cond_false]; exact sealN_lt hq
    · simp only [cond_true]; decide
  obtain ⟨e0, e2, e4, e6⟩ := uX_w (ys := []) hf ht hml hx
  have hl := uX_len fr to m xs
  rw [List.append_nil] at e0 e2 e4 e6
  obtain ⟨Z, hZ⟩ : ∃ Z, Z = uX fr to m xs := ⟨_, rfl⟩
  rw [← hZ] at e0 e2 e4 e6 hl ⊢
  have htk : Z.take (w2 Z 4) = Z := List.take_of_length_le (by omega)
  have hR : uR s2 d2 Z = if w2 Z 6 ≠ 0 ∧ cks (psh s2 d2 17 (8 + xs.length) ++ Z) ≠ 0 then 12 else 0 := by
    unfold uR; rw [if_neg (by omega), if_neg (by omega), if_neg (by omega), htk, e4]
  rw [hR, e6]
  cases pl
  · have hm2 := hm; simp only [cond_false] at hm2
    have h0 : cks (psh s d 17 (8 + xs.length) ++ Z) = 0 := by rw [hZ, hm2]; exact uX_zero s d fr to xs
    have hi := cks_other (s2 := s2) (d2 := d2) hs hd hs2 hd2 (by omega) (by decide) h0
    have hm3 : m ≠ 0 := by rw [hm2]; exact sealN_pos _
    by_cases hc : cks (psh s2 d2 17 (8 + xs.length) ++ Z) = 0
    · rw [if_neg (by simp [hc]), hi.1 hc]; simp
    · rw [if_pos ⟨hm3, hc⟩]
      have hne : ¬ asum s d % 65535 = asum s2 d2 % 65535 := fun e => hc (hi.2 e)
      have hne2 : ¬ ((asum s d % 65535 : Nat) : Int) = ((asum s2 d2 % 65535 : Nat) : Int) := by omega
      rw [beq_eq_false_iff_ne.2 hne2]; rfl
  · have hm2 := hm; simp only [cond_true] at hm2
    rw [if_neg (by simp [hm2])]; simp
theorem tp_long {n : Nat} (h : (uE n != 0) = true) : decide (((n : Nat) : Int) > 1472) = true := by
  unfold uE at h
  split at h
  · exact decide_eq_true (by omega)
  · cases h
theorem plain_c (s d s2 d2 fr to : Nat) (pl : Bool) (xs : List UInt8) (a : Option Addr) (cap : Nat) (w : World) (hat : At w a (byc xs)) (hs : s < 4294967296) (hd : d < 4294967296) (hs2 : s2 < 4294967296) (hd2 : d2 < 4294967296) (hf : fr < 65536) (ht : to < 65536) (hxc : xs.length ≤ cap) (hxl : xs.length ≤ 9223372036854775807) : Calls Try.prog 4 #[Value.agg ([Value.int .u16 ((fr : Nat) : Int), Value.int .u16 ((to : Nat) : Int), Value.bool pl, Value.slice a xs.length cap]).toArray, Value.agg ([Value.int .u32 ((s : Nat) : Int), Value.int .u32 ((d : Nat) : Int)]).toArray, Value.agg ([Value.int .u32 ((s2 : Nat) : Int), Value.int .u32 ((d2 : Nat) : Int)]).toArray] w (Ret w (.bool true)) := by
  refine calls_W (M := []) (LL := []) (n := 64) Try.func4 rfl rfl (by simp) (Mem.refl _) ?_
  refine W.seq (fun K1 hK1 => ?_)
  refine W.region ?_
  refine Wl.ht rfl (Ht.box (v := Value.agg ([Value.int .u16 ((fr : Nat) : Int), Value.int .u16 ((to : Nat) : Int), Value.bool pl, Value.slice a xs.length cap]).toArray) (cs := [Value.int .u16 ((fr : Nat) : Int), Value.int .u16 ((to : Nat) : Int), Value.bool pl, Value.slice a xs.length cap]) rfl rfl (by kernel_rfl) rfl) (fun p3 => ?_)
  refine Wl.ht rfl (Ht.box (v := Value.agg ([Value.int .u32 ((s : Nat) : Int), Value.int .u32 ((d : Nat) : Int)]).toArray) (cs := [Value.int .u32 ((s : Nat) : Int), Value.int .u32 ((d : Nat) : Int)]) rfl rfl (by kernel_rfl) rfl) (fun p4 => ?_)
  refine Wl.ht rfl (Ht.box (v := Value.agg ([Value.int .u32 ((s2 : Nat) : Int), Value.int .u32 ((d2 : Nat) : Int)]).toArray) (cs := [Value.int .u32 ((s2 : Nat) : Int), Value.int .u32 ((d2 : Nat) : Int)]) rfl rfl (by kernel_rfl) rfl) (fun p5 => ?_)
  refine Wl.run 1 (by kernel_rfl) ?_
  refine Wl.nil ?_
  refine hK1 _ _ _ ?_
  refine W.prune' [3, 4, 5] [Value.pointer (some ⟨p3, 0, none⟩), Value.pointer (some ⟨p4, 0, none⟩), Value.pointer (some ⟨p5, 0, none⟩)] (by kernel_rfl) (fun f2 => ?_)
  refine W.seq (fun K3 hK3 => ?_)
  refine W.seq (fun K4 hK4 => ?_)
  refine W.region ?_
  refine Wl.yc (v := Value.bool true) rfl rfl (Yc.call (k := 13) (args := #[]) (fun _ => by kernel_rfl) (fun w_ hm_ => (speaks5_c _))) ?_
  refine Wl.run 1 (by kernel_rfl) ?_
  refine Wl.nil ?_
  refine hK4 _ _ _ ?_
  refine W.prune' [3, 4, 5, 13] [Value.pointer (some ⟨p3, 0, none⟩), Value.pointer (some ⟨p4, 0, none⟩), Value.pointer (some ⟨p5, 0, none⟩), Value.bool false] (by kernel_rfl) (fun f5 => ?_)
  refine W.condF (by kernel_rfl) ?_
  refine W.skip' ?_
  refine hK3 _ _ _ ?_
  refine W.prune' [3, 4, 5] [Value.pointer (some ⟨p3, 0, none⟩), Value.pointer (some ⟨p4, 0, none⟩), Value.pointer (some ⟨p5, 0, none⟩)] (by kernel_rfl) (fun f6 => ?_)
  refine W.seq (fun K7 hK7 => ?_)
  refine W.seq (fun K8 hK8 => ?_)
  refine W.region ?_
  refine Wl.run 1 (by kernel_rfl) ?_
  refine Wl.ys (v := Value.slice a xs.length cap) rfl rfl (Ys.load (b := p3) (o' := 3) (i := 2) (j := 0) (cs := [Value.int .u16 ((fr : Nat) : Int), Value.int .u16 ((to : Nat) : Int), Value.bool pl, Value.slice a xs.length cap]) (v := Value.slice a xs.length cap) rfl (by kernel_rfl) Try.isAgg26 rfl rfl rfl) ?_
  refine Wl.run 2 (by kernel_rfl) ?_
  refine Wl.nil ?_
  refine hK8 _ _ _ ?_
  refine W.prune' [3, 4, 5, 17] [Value.pointer (some ⟨p3, 0, none⟩), Value.pointer (some ⟨p4, 0, none⟩), Value.pointer (some ⟨p5, 0, none⟩), Value.bool (decide (((xs.length : Nat) : Int) > 2000))] (by kernel_rfl) (fun f9 => ?_)
  refine W.cond (decide (((xs.length : Nat) : Int) > 2000)) (by kernel_rfl) (fun h10 => ?_) (fun h11 => ?_)
  · have qh10 := h10; try simp only [Bool.and_eq_true, Bool.or_eq_true, Bool.not_eq_true', Bool.not_eq_false', Bool.and_eq_false_iff, Bool.or_eq_false_iff, decide_eq_true_eq, decide_eq_false_iff_not, beq_iff_eq, bne_iff_ne, beq_eq_false_iff_ne, bne_eq_false_iff_eq] at qh10
    refine W.seq (fun K12 hK12 => ?_)
    refine W.region ?_
    refine Wl.run 1 (by kernel_rfl) ?_
    refine Wl.nil ?_
    refine hK12 _ _ _ ?_
    refine W.ret ?_
    show ∀ w_, _ → bodyPostM (fence none) 0 Try.prog Try.f4 _ Exit.ret _ w_
    exact fun w_ hS_ => fin_ret (ret1 rfl (RV.tmp (v := Value.bool true) (by kernel_rfl)) hS_ ⟨rfl, hS_.below⟩)
  · have qh11 := h11; try simp only [Bool.and_eq_true, Bool.or_eq_true, Bool.not_eq_true', Bool.not_eq_false', Bool.and_eq_false_iff, Bool.or_eq_false_iff, decide_eq_true_eq, decide_eq_false_iff_not, beq_iff_eq, bne_iff_ne, beq_eq_false_iff_ne, bne_eq_false_iff_eq] at qh11
    refine W.skip' ?_
    refine hK7 _ _ _ ?_
    refine W.prune' [3, 4, 5] [Value.pointer (some ⟨p3, 0, none⟩), Value.pointer (some ⟨p4, 0, none⟩), Value.pointer (some ⟨p5, 0, none⟩)] (by kernel_rfl) (fun f13 => ?_)
    refine W.seq (fun K14 hK14 => ?_)
    refine W.region ?_
    refine Wl.run 1 (by kernel_rfl) ?_
    refine Wl.ys (v := Value.int .u32 ((s : Nat) : Int)) rfl rfl (Ys.load (b := p4) (o' := 0) (i := 1) (j := 0) (cs := [Value.int .u32 ((s : Nat) : Int), Value.int .u32 ((d : Nat) : Int)]) (v := Value.int .u32 ((s : Nat) : Int)) rfl (by kernel_rfl) Try.isAgg23 rfl rfl rfl) ?_
    refine Wl.run 1 (by kernel_rfl) ?_
    refine Wl.ys (v := Value.int .u32 ((d : Nat) : Int)) rfl rfl (Ys.load (b := p4) (o' := 1) (i := 1) (j := 0) (cs := [Value.int .u32 ((s : Nat) : Int), Value.int .u32 ((d : Nat) : Int)]) (v := Value.int .u32 ((d : Nat) : Int)) rfl (by kernel_rfl) Try.isAgg23 rfl rfl rfl) ?_
    refine Wl.ys (v := Value.agg ([Value.int .u16 ((fr : Nat) : Int), Value.int .u16 ((to : Nat) : Int), Value.bool pl, Value.slice a xs.length cap]).toArray) rfl rfl (Ys.loadN (b := p3) (o' := 0) (i := 2) (j := 0) (cs := [Value.int .u16 ((fr : Nat) : Int), Value.int .u16 ((to : Nat) : Int), Value.bool pl, Value.slice a xs.length cap]) (vs := [Value.int .u16 ((fr : Nat) : Int), Value.int .u16 ((to : Nat) : Int), Value.bool pl, Value.slice a xs.length cap]) rfl (by kernel_rfl) Try.isAgg28 Try.sizeOf28 rfl rfl rfl rfl) ?_
    have hl18 := uB_le s d fr to pl xs
    refine Wl.ht rfl (Ht.call (β := FS) (k := 14) (args := #[Value.int .u32 ((s : Nat) : Int), Value.int .u32 ((d : Nat) : Int), Value.agg ([Value.int .u16 ((fr : Nat) : Int), Value.int .u16 ((to : Nat) : Int), Value.bool pl, Value.slice a xs.length cap]).toArray]) (Lin := []) (Lk := [[cb p5 [Value.int .u32 ((s2 : Nat) : Int), Value.int .u32 ((d2 : Nat) : Int)] 24], [cb p4 [Value.int .u32 ((s : Nat) : Int), Value.int .u32 ((d : Nat) : Int)] 24], [cb p3 [Value.int .u16 ((fr : Nat) : Int), Value.int .u16 ((to : Nat) : Int), Value.bool pl, Value.slice a xs.length cap] 28]]) (Mi := []) (Lo := fun g15 => [g15.seg 5 (mc b8 (uB s d fr to pl xs)), [cb p5 [Value.int .u32 ((s2 : Nat) : Int), Value.int .u32 ((d2 : Nat) : Int)] 24], [cb p4 [Value.int .u32 ((s : Nat) : Int), Value.int .u32 ((d : Nat) : Int)] 24], [cb p3 [Value.int .u16 ((fr : Nat) : Int), Value.int .u16 ((to : Nat) : Int), Value.bool pl, Value.slice a xs.length cap] 28]]) [] [0, 1, 2] rfl (fun _ => by kernel_rfl) (by decide) rfl rfl rfl (fun w_ hm_ hl_ => (wudpn_c s d fr to pl xs a cap xs.length _ (by first | rfl | (rw [List.length_take]; omega) | (simp; done) | (simp [be_len, be_len, psh_len]; omega)) (hat.mem0 hm_) (by omega) (by omega) (by omega) (by omega) (by first | omega | (simp; done) | (simp; omega)) (by first | omega | (simp; omega)))) (fun _ => rfl)) (fun x17 => ?_)
    obtain ⟨g15, ok16⟩ := x17
    refine Wl.castL (LL' := [g15.seg 5 (mc b8 (uB s d fr to pl xs)), [cb p5 [Value.int .u32 ((s2 : Nat) : Int), Value.int .u32 ((d2 : Nat) : Int)] 24], [cb p4 [Value.int .u32 ((s : Nat) : Int), Value.int .u32 ((d : Nat) : Int)] 24], [cb p3 [Value.int .u16 ((fr : Nat) : Int), Value.int .u16 ((to : Nat) : Int), Value.bool pl, Value.slice a xs.length cap] 28]]) rfl ?_
    refine Wl.run 5 (by kernel_rfl) ?_
    refine Wl.nil ?_
    refine hK14 _ _ _ ?_
    refine W.prune' [3, 4, 5, 7, 8] [Value.pointer (some ⟨p3, 0, none⟩), Value.pointer (some ⟨p4, 0, none⟩), Value.pointer (some ⟨p5, 0, none⟩), Value.slice g15.a ((uB s d fr to pl xs).length) g15.cap, Value.int .i64 (uE xs.length)] (by kernel_rfl) (fun f19 => ?_)
    refine W.seq (fun K20 hK20 => ?_)
    refine W.seq (fun K21 hK21 => ?_)
    refine W.region ?_
    refine Wl.run 2 (by kernel_rfl) ?_
    refine Wl.nil ?_
    refine hK21 _ _ _ ?_
    refine W.prune' [3, 4, 5, 7, 28] [Value.pointer (some ⟨p3, 0, none⟩), Value.pointer (some ⟨p4, 0, none⟩), Value.pointer (some ⟨p5, 0, none⟩), Value.slice g15.a ((uB s d fr to pl xs).length) g15.cap, Value.bool ((uE xs.length) != 0)] (by kernel_rfl) (fun f22 => ?_)
    refine W.cond ((uE xs.length) != 0) (by kernel_rfl) (fun h23 => ?_) (fun h24 => ?_)
    · have qh23 := h23; try simp only [Bool.and_eq_true, Bool.or_eq_true, Bool.not_eq_true', Bool.not_eq_false', Bool.and_eq_false_iff, Bool.or_eq_false_iff, decide_eq_true_eq, decide_eq_false_iff_not, beq_iff_eq, bne_iff_ne, beq_eq_false_iff_ne, bne_eq_false_iff_eq] at qh23
      refine W.seq (fun K25 hK25 => ?_)
      refine W.region ?_
      refine Wl.run 1 (by kernel_rfl) ?_
      refine Wl.ys (v := Value.slice a xs.length cap) rfl rfl (Ys.load (b := p3) (o' := 3) (i := 3) (j := 0) (cs := [Value.int .u16 ((fr : Nat) : Int), Value.int .u16 ((to : Nat) : Int), Value.bool pl, Value.slice a xs.length cap]) (v := Value.slice a xs.length cap) rfl (by kernel_rfl) Try.isAgg26 rfl rfl rfl) ?_
      refine Wl.run 3 (by kernel_rfl) ?_
      refine Wl.nil ?_
      refine hK25 _ _ _ ?_
      refine W.pick (LL' := []) [] (by decide) rfl ?_
      refine W.prune' [6] [Value.bool (decide (((xs.length : Nat) : Int) > 1472))] (by kernel_rfl) (fun f26 => ?_)
      refine W.ret ?_
      show ∀ w_, _ → bodyPostM (fence none) 0 Try.prog Try.f4 _ Exit.ret _ w_
      exact fun w_ hS_ => fin_ret (ret1 rfl (RV.tmp (v := Value.bool (decide (((xs.length : Nat) : Int) > 1472))) (by kernel_rfl)) hS_ ⟨by clear hK1 hK3 hK4 hK7 hK8 hK14 hK20 hK21 hK25; refine congrArg Ending.returned ?_; exact bool_congr (tp_long h23), hS_.below⟩)
    · have qh24 := h24; try simp only [Bool.and_eq_true, Bool.or_eq_true, Bool.not_eq_true', Bool.not_eq_false', Bool.and_eq_false_iff, Bool.or_eq_false_iff, decide_eq_true_eq, decide_eq_false_iff_not, beq_iff_eq, bne_iff_ne, beq_eq_false_iff_ne, bne_eq_false_iff_eq] at qh24
      refine W.skip' ?_
      refine hK20 _ _ _ ?_
      refine W.prune' [3, 4, 5, 7] [Value.pointer (some ⟨p3, 0, none⟩), Value.pointer (some ⟨p4, 0, none⟩), Value.pointer (some ⟨p5, 0, none⟩), Value.slice g15.a ((uB s d fr to pl xs).length) g15.cap] (by kernel_rfl) (fun f27 => ?_)
      refine W.seq (fun K28 hK28 => ?_)
      refine W.region ?_
      refine Wl.run 1 (by kernel_rfl) ?_
      refine Wl.ys (v := Value.int .u32 ((s2 : Nat) : Int)) rfl rfl (Ys.load (b := p5) (o' := 0) (i := 1) (j := 0) (cs := [Value.int .u32 ((s2 : Nat) : Int), Value.int .u32 ((d2 : Nat) : Int)]) (v := Value.int .u32 ((s2 : Nat) : Int)) rfl (by kernel_rfl) Try.isAgg23 rfl rfl rfl) ?_
      refine Wl.run 1 (by kernel_rfl) ?_
      refine Wl.ys (v := Value.int .u32 ((d2 : Nat) : Int)) rfl rfl (Ys.load (b := p5) (o' := 1) (i := 1) (j := 0) (cs := [Value.int .u32 ((s2 : Nat) : Int), Value.int .u32 ((d2 : Nat) : Int)]) (v := Value.int .u32 ((d2 : Nat) : Int)) rfl (by kernel_rfl) Try.isAgg23 rfl rfl rfl) ?_
      refine Wl.run 1 (by kernel_rfl) ?_
      refine Wl.ht rfl (Ht.call (β := FS) (k := 17) (args := #[Value.int .u32 ((s2 : Nat) : Int), Value.int .u32 ((d2 : Nat) : Int), Value.slice g15.a ((uB s d fr to pl xs).length) g15.cap]) (Lin := []) (Lk := [g15.seg 5 (mc b8 (uB s d fr to pl xs)), [cb p5 [Value.int .u32 ((s2 : Nat) : Int), Value.int .u32 ((d2 : Nat) : Int)] 24], [cb p4 [Value.int .u32 ((s : Nat) : Int), Value.int .u32 ((d : Nat) : Int)] 24], [cb p3 [Value.int .u16 ((fr : Nat) : Int), Value.int .u16 ((to : Nat) : Int), Value.bool pl, Value.slice a xs.length cap] 28]]) (Mi := []) (Lo := fun g29 => [g29.seg 5 (mc b8 (uD s2 d2 (uB s d fr to pl xs))), g15.seg 5 (mc b8 (uB s d fr to pl xs)), [cb p5 [Value.int .u32 ((s2 : Nat) : Int), Value.int .u32 ((d2 : Nat) : Int)] 24], [cb p4 [Value.int .u32 ((s : Nat) : Int), Value.int .u32 ((d : Nat) : Int)] 24], [cb p3 [Value.int .u16 ((fr : Nat) : Int), Value.int .u16 ((to : Nat) : Int), Value.bool pl, Value.slice a xs.length cap] 28]]) [] [0, 1, 2, 3] rfl (fun _ => by kernel_rfl) (by decide) rfl rfl rfl (fun w_ hm_ hl_ => (rudpn_c s2 d2 (uB s d fr to pl xs) g15.a g15.cap ((uB s d fr to pl xs).length) _ (by first | rfl | (rw [List.length_take]; omega) | (simp; done) | (simp [be_len, be_len, psh_len]; omega)) (FS.at (i := 0) (t := 5) hm_ rfl (FS.nil_cs ok16 (mc_len1 _))) (by omega) (by omega) (by first | omega | (simp; omega)) (ok16.le))) (fun _ => rfl)) (fun x31 => ?_)
      obtain ⟨g29, ok30⟩ := x31
      refine Wl.castL (LL' := [g29.seg 5 (mc b8 (uD s2 d2 (uB s d fr to pl xs))), g15.seg 5 (mc b8 (uB s d fr to pl xs)), [cb p5 [Value.int .u32 ((s2 : Nat) : Int), Value.int .u32 ((d2 : Nat) : Int)] 24], [cb p4 [Value.int .u32 ((s : Nat) : Int), Value.int .u32 ((d : Nat) : Int)] 24], [cb p3 [Value.int .u16 ((fr : Nat) : Int), Value.int .u16 ((to : Nat) : Int), Value.bool pl, Value.slice a xs.length cap] 28]]) rfl ?_
      refine Wl.run 3 (by kernel_rfl) ?_
      refine Wl.ht rfl (Ht.alloc (z := Value.agg ([Value.int .u16 0, Value.int .u16 0, Value.bool false, Value.slice none 0 0]).toArray) (cs := [Value.int .u16 0, Value.int .u16 0, Value.bool false, Value.slice none 0 0]) rfl rfl Try.zeroValue28 rfl) (fun p9 => ?_)
      refine Wl.ht rfl (Ht.storeN (b := p9) (o' := 0) (i := 0) (j := 0) (cs := [Value.int .u16 0, Value.int .u16 0, Value.bool false, Value.slice none 0 0]) (vs := [Value.int .u16 ((uF s2 d2 (uB s d fr to pl xs) 0 : Nat) : Int), Value.int .u16 ((uF s2 d2 (uB s d fr to pl xs) 2 : Nat) : Int), Value.bool (uP s2 d2 (uB s d fr to pl xs)), Value.slice g29.a ((uD s2 d2 (uB s d fr to pl xs)).length) g29.cap]) (cs' := [Value.int .u16 ((uF s2 d2 (uB s d fr to pl xs) 0 : Nat) : Int), Value.int .u16 ((uF s2 d2 (uB s d fr to pl xs) 2 : Nat) : Int), Value.bool (uP s2 d2 (uB s d fr to pl xs)), Value.slice g29.a ((uD s2 d2 (uB s d fr to pl xs)).length) g29.cap]) (LL' := [[cb p9 [Value.int .u16 ((uF s2 d2 (uB s d fr to pl xs) 0 : Nat) : Int), Value.int .u16 ((uF s2 d2 (uB s d fr to pl xs) 2 : Nat) : Int), Value.bool (uP s2 d2 (uB s d fr to pl xs)), Value.slice g29.a ((uD s2 d2 (uB s d fr to pl xs)).length) g29.cap] 28], g29.seg 5 (mc b8 (uD s2 d2 (uB s d fr to pl xs))), g15.seg 5 (mc b8 (uB s d fr to pl xs)), [cb p5 [Value.int .u32 ((s2 : Nat) : Int), Value.int .u32 ((d2 : Nat) : Int)] 24], [cb p4 [Value.int .u32 ((s : Nat) : Int), Value.int .u32 ((d : Nat) : Int)] 24], [cb p3 [Value.int .u16 ((fr : Nat) : Int), Value.int .u16 ((to : Nat) : Int), Value.bool pl, Value.slice a xs.length cap] 28]]) rfl rfl (by kernel_rfl) (by kernel_rfl) Try.sizeOf28 (by simp [Value.oneCell']) rfl rfl (by simp) rfl rfl) (fun _ => ?_)
      refine Wl.run 1 (by kernel_rfl) ?_
      refine Wl.nil ?_
      refine hK28 _ _ _ ?_
      refine W.pick (LL' := [[cb p5 [Value.int .u32 ((s2 : Nat) : Int), Value.int .u32 ((d2 : Nat) : Int)] 24], [cb p4 [Value.int .u32 ((s : Nat) : Int), Value.int .u32 ((d : Nat) : Int)] 24], [cb p3 [Value.int .u16 ((fr : Nat) : Int), Value.int .u16 ((to : Nat) : Int), Value.bool pl, Value.slice a xs.length cap] 28]]) [3, 4, 5] (by decide) rfl ?_
      refine W.prune' [3, 4, 5, 10] [Value.pointer (some ⟨p3, 0, none⟩), Value.pointer (some ⟨p4, 0, none⟩), Value.pointer (some ⟨p5, 0, none⟩), Value.int .i64 (uR s2 d2 (uB s d fr to pl xs))] (by kernel_rfl) (fun f32 => ?_)
      refine W.seq (fun K33 hK33 => ?_)
      refine W.region ?_
      refine Wl.run 1 (by kernel_rfl) ?_
      refine Wl.nil ?_
      refine hK33 _ _ _ ?_
      refine W.seq (fun K34 hK34 => ?_)
      refine W.draws [(0, true), (1, true), (2, false), (3, false), (4, false), (5, true), (6, true), (8, true), (9, true), (7, false), (10, false), (11, false), (12, false), (13, false), (14, false), (15, false), (16, false), (17, false), (18, false), (19, false), (20, false), (21, false), (22, false)] [0, 1, 5, 6, 8, 9] (Mem w [] [[cb p5 [Value.int .u32 ((s2 : Nat) : Int), Value.int .u32 ((d2 : Nat) : Int)] 24], [cb p4 [Value.int .u32 ((s : Nat) : Int), Value.int .u32 ((d : Nat) : Int)] 24], [cb p3 [Value.int .u16 ((fr : Nat) : Int), Value.int .u16 ((to : Nat) : Int), Value.bool pl, Value.slice a xs.length cap] 28]]) (by kernel_rfl) (by kernel_rfl) (by kernel_rfl) rfl (by kernel_rfl) (fun _ _ h_ => h_.drawn _) (fun _ h_ => h_) ?_
      refine Wd.run 2 (by kernel_rfl) ?_
      refine Wd.yc (v := Value.pointer (some ⟨p3, 2, none⟩)) rfl rfl rfl (Ys.yc (Ys.pure (fun _ => by kernel_rfl))) (.inr fun _ h_ => h_) ?_
      refine Wd.yc (v := Value.bool pl) rfl rfl rfl (Ys.yc (Ys.load (b := p3) (o' := 2) (i := 2) (j := 0) (cs := [Value.int .u16 ((fr : Nat) : Int), Value.int .u16 ((to : Nat) : Int), Value.bool pl, Value.slice a xs.length cap]) (v := Value.bool pl) rfl (by kernel_rfl) Try.isAgg4 rfl rfl rfl)) (.inr fun _ h_ => h_) ?_
      refine Wd.yc (v := Value.bool pl) rfl rfl rfl (Ys.yc (Ys.pure (fun _ => by kernel_rfl))) (.inr fun _ h_ => h_) ?_
      refine Wd.guard (v := Value.func (.func 18) #[] #[]) (!pl) rfl (wantF rfl (by kernel_rfl)) rfl (fun hg35 => ?_) ?_
      · exact Ys.pure (fun _ => by kernel_rfl)
      refine Wd.guard (v := Value.agg ([Value.int .u32 ((s : Nat) : Int), Value.int .u32 ((d : Nat) : Int)]).toArray) (!pl) rfl (wantF rfl (by kernel_rfl)) rfl (fun hg36 => ?_) ?_
      · exact Ys.loadN (b := p4) (o' := 0) (i := 1) (j := 0) (cs := [Value.int .u32 ((s : Nat) : Int), Value.int .u32 ((d : Nat) : Int)]) (vs := [Value.int .u32 ((s : Nat) : Int), Value.int .u32 ((d : Nat) : Int)]) rfl (by kernel_rfl) Try.isAgg24 Try.sizeOf24 rfl rfl rfl rfl
      refine Wd.guard (v := Value.func (.func 18) #[] #[]) (!pl) rfl (wantF rfl (by kernel_rfl)) rfl (fun hg37 => ?_) ?_
      · exact Ys.pure (fun _ => by kernel_rfl)
      refine Wd.guard (v := Value.agg ([Value.int .u32 ((s2 : Nat) : Int), Value.int .u32 ((d2 : Nat) : Int)]).toArray) (!pl) rfl (wantF rfl (by kernel_rfl)) rfl (fun hg38 => ?_) ?_
      · exact Ys.loadN (b := p5) (o' := 0) (i := 0) (j := 0) (cs := [Value.int .u32 ((s2 : Nat) : Int), Value.int .u32 ((d2 : Nat) : Int)]) (vs := [Value.int .u32 ((s2 : Nat) : Int), Value.int .u32 ((d2 : Nat) : Int)]) rfl (by kernel_rfl) Try.isAgg24 Try.sizeOf24 rfl rfl rfl rfl
      refine Wd.guardc (v := Value.int .u64 ((asum s d % 65535 : Nat) : Int)) (!pl) rfl (wantF rfl (by kernel_rfl)) rfl (fun hg39 => ?_) (.inr fun _ h_ => h_) ?_
      · refine Yc.at (t := 47) (v0 := Value.func (.func 18) #[] #[]) (lz (g := !pl) (u := undef) hg39 (by kernel_rfl)) ?_
        refine Yc.at (t := 48) (v0 := Value.agg ([Value.int .u32 ((s : Nat) : Int), Value.int .u32 ((d : Nat) : Int)]).toArray) (lz (g := !pl) (u := undef) hg39 (by kernel_rfl)) ?_
        exact Yc.call (k := 18) (args := #[Value.agg ([Value.int .u32 ((s : Nat) : Int), Value.int .u32 ((d : Nat) : Int)]).toArray]) (fun _ => by kernel_rfl) (fun w_ hm_ => (words_c s d _ (by omega) (by omega)))
      refine Wd.guardc (v := Value.int .u64 ((asum s2 d2 % 65535 : Nat) : Int)) (!pl) rfl (wantF rfl (by kernel_rfl)) rfl (fun hg40 => ?_) (.inr fun _ h_ => h_) ?_
      · refine Yc.at (t := 50) (v0 := Value.func (.func 18) #[] #[]) (lz (g := !pl) (u := undef) hg40 (by kernel_rfl)) ?_
        refine Yc.at (t := 51) (v0 := Value.agg ([Value.int .u32 ((s2 : Nat) : Int), Value.int .u32 ((d2 : Nat) : Int)]).toArray) (lz (g := !pl) (u := undef) hg40 (by kernel_rfl)) ?_
        exact Yc.call (k := 18) (args := #[Value.agg ([Value.int .u32 ((s2 : Nat) : Int), Value.int .u32 ((d2 : Nat) : Int)]).toArray]) (fun _ => by kernel_rfl) (fun w_ hm_ => (words_c s2 d2 _ (by omega) (by omega)))
      refine Wd.guardc (v := Value.bool (((asum s d % 65535 : Nat) : Int) == ((asum s2 d2 % 65535 : Nat) : Int))) (!pl) rfl (wantF rfl (by kernel_rfl)) rfl (fun hg41 => ?_) (.inr fun _ h_ => h_) ?_
      · refine Ys.yc ?_
        refine Ys.at (t := 49) (v0 := Value.int .u64 ((asum s d % 65535 : Nat) : Int)) (lz (g := !pl) (u := undef) hg41 (by kernel_rfl)) ?_
        refine Ys.at (t := 52) (v0 := Value.int .u64 ((asum s2 d2 % 65535 : Nat) : Int)) (lz (g := !pl) (u := undef) hg41 (by kernel_rfl)) ?_
        exact Ys.pure (fun _ => by kernel_rfl)
      refine Wd.yc (v := Value.bool (pl || (((asum s d % 65535 : Nat) : Int) == ((asum s2 d2 % 65535 : Nat) : Int)))) rfl rfl rfl (Ys.yc (Ys.or' (e := pl) (b := ((asum s d % 65535 : Nat) : Int) == ((asum s2 d2 % 65535 : Nat) : Int)) rfl (by kernel_rfl) (by kernel_rfl) (by kernel_rfl))) (.inr fun _ h_ => h_) ?_
      refine Wd.yc (v := Value.bool (((uR s2 d2 (uB s d fr to pl xs)) == 0) == (pl || (((asum s d % 65535 : Nat) : Int) == ((asum s2 d2 % 65535 : Nat) : Int))))) rfl rfl rfl (Ys.yc (Ys.pure (fun _ => by kernel_rfl))) (.inr fun _ h_ => h_) ?_
      refine Wd.yc (v := Value.bool (((uR s2 d2 (uB s d fr to pl xs)) == 0) == (pl || (((asum s d % 65535 : Nat) : Int) == ((asum s2 d2 % 65535 : Nat) : Int))))) rfl rfl rfl (Ys.yc (Ys.pure (fun _ => by kernel_rfl))) (.inr fun _ h_ => h_) ?_
      refine Wd.guardc (v := Value.int .i64 (uR s2 d2 (uB s d fr to pl xs))) (((uR s2 d2 (uB s d fr to pl xs)) == 0) == (pl || (((asum s d % 65535 : Nat) : Int) == ((asum s2 d2 % 65535 : Nat) : Int)))) rfl (wantT rfl (by kernel_rfl)) rfl (fun hg42 => ?_) (.inr fun _ h_ => h_) ?_
      · have qhg42 := hg42; try simp only [Bool.and_eq_true, Bool.or_eq_true, Bool.not_eq_true', Bool.not_eq_false', Bool.and_eq_false_iff, Bool.or_eq_false_iff, decide_eq_true_eq, decide_eq_false_iff_not, beq_iff_eq, bne_iff_ne, beq_eq_false_iff_ne, bne_eq_false_iff_eq] at qhg42
        refine Ys.yc ?_
        exact Ys.pure (fun _ => by kernel_rfl)
      refine Wd.guardc (v := Value.bool ((uR s2 d2 (uB s d fr to pl xs)) == 0)) (((uR s2 d2 (uB s d fr to pl xs)) == 0) == (pl || (((asum s d % 65535 : Nat) : Int) == ((asum s2 d2 % 65535 : Nat) : Int)))) rfl (wantT rfl (by kernel_rfl)) rfl (fun hg43 => ?_) (.inr fun _ h_ => h_) ?_
      · have qhg43 := hg43; try simp only [Bool.and_eq_true, Bool.or_eq_true, Bool.not_eq_true', Bool.not_eq_false', Bool.and_eq_false_iff, Bool.or_eq_false_iff, decide_eq_true_eq, decide_eq_false_iff_not, beq_iff_eq, bne_iff_ne, beq_eq_false_iff_ne, bne_eq_false_iff_eq] at qhg43
        refine Ys.yc ?_
        refine Ys.at (t := 57) (v0 := Value.int .i64 (uR s2 d2 (uB s d fr to pl xs))) (lz (g := ((uR s2 d2 (uB s d fr to pl xs)) == 0) == (pl || (((asum s d % 65535 : Nat) : Int) == ((asum s2 d2 % 65535 : Nat) : Int)))) (u := undef) hg43 (by kernel_rfl)) ?_
        exact Ys.pure (fun _ => by kernel_rfl)
      refine Wd.guardc (v := Value.bool ((uR s2 d2 (uB s d fr to pl xs)) == 0)) (((uR s2 d2 (uB s d fr to pl xs)) == 0) == (pl || (((asum s d % 65535 : Nat) : Int) == ((asum s2 d2 % 65535 : Nat) : Int)))) rfl (wantT rfl (by kernel_rfl)) rfl (fun hg44 => ?_) (.inr fun _ h_ => h_) ?_
      · have qhg44 := hg44; try simp only [Bool.and_eq_true, Bool.or_eq_true, Bool.not_eq_true', Bool.not_eq_false', Bool.and_eq_false_iff, Bool.or_eq_false_iff, decide_eq_true_eq, decide_eq_false_iff_not, beq_iff_eq, bne_iff_ne, beq_eq_false_iff_ne, bne_eq_false_iff_eq] at qhg44
        refine Ys.yc ?_
        refine Ys.at (t := 58) (v0 := Value.bool ((uR s2 d2 (uB s d fr to pl xs)) == 0)) (lz (g := ((uR s2 d2 (uB s d fr to pl xs)) == 0) == (pl || (((asum s d % 65535 : Nat) : Int) == ((asum s2 d2 % 65535 : Nat) : Int)))) (u := undef) hg44 (by kernel_rfl)) ?_
        exact Ys.pure (fun _ => by kernel_rfl)
      refine Wd.guardc (v := Value.int .i64 (uR s2 d2 (uB s d fr to pl xs))) ((((uR s2 d2 (uB s d fr to pl xs)) == 0) == (pl || (((asum s d % 65535 : Nat) : Int) == ((asum s2 d2 % 65535 : Nat) : Int)))) && !((uR s2 d2 (uB s d fr to pl xs)) == 0)) rfl (wantFz rfl rfl (by kernel_rfl)) rfl (fun hg45 => ?_) (.inr fun _ h_ => h_) ?_
      · have qhg45 := hg45; try simp only [Bool.and_eq_true, Bool.or_eq_true, Bool.not_eq_true', Bool.not_eq_false', Bool.and_eq_false_iff, Bool.or_eq_false_iff, decide_eq_true_eq, decide_eq_false_iff_not, beq_iff_eq, bne_iff_ne, beq_eq_false_iff_ne, bne_eq_false_iff_eq] at qhg45
        refine Ys.yc ?_
        exact Ys.pure (fun _ => by kernel_rfl)
      refine Wd.guardc (v := Value.bool ((uR s2 d2 (uB s d fr to pl xs)) == 12)) ((((uR s2 d2 (uB s d fr to pl xs)) == 0) == (pl || (((asum s d % 65535 : Nat) : Int) == ((asum s2 d2 % 65535 : Nat) : Int)))) && !((uR s2 d2 (uB s d fr to pl xs)) == 0)) rfl (wantFz rfl rfl (by kernel_rfl)) rfl (fun hg46 => ?_) (.inr fun _ h_ => h_) ?_
      · have qhg46 := hg46; try simp only [Bool.and_eq_true, Bool.or_eq_true, Bool.not_eq_true', Bool.not_eq_false', Bool.and_eq_false_iff, Bool.or_eq_false_iff, decide_eq_true_eq, decide_eq_false_iff_not, beq_iff_eq, bne_iff_ne, beq_eq_false_iff_ne, bne_eq_false_iff_eq] at qhg46
        refine Ys.yc ?_
        refine Ys.at (t := 60) (v0 := Value.int .i64 (uR s2 d2 (uB s d fr to pl xs))) (lz (g := (((uR s2 d2 (uB s d fr to pl xs)) == 0) == (pl || (((asum s d % 65535 : Nat) : Int) == ((asum s2 d2 % 65535 : Nat) : Int)))) && !((uR s2 d2 (uB s d fr to pl xs)) == 0)) (u := undef) hg46 (by kernel_rfl)) ?_
        exact Ys.pure (fun _ => by kernel_rfl)
      refine Wd.guardc (v := Value.bool (((uR s2 d2 (uB s d fr to pl xs)) == 0) || ((uR s2 d2 (uB s d fr to pl xs)) == 12))) (((uR s2 d2 (uB s d fr to pl xs)) == 0) == (pl || (((asum s d % 65535 : Nat) : Int) == ((asum s2 d2 % 65535 : Nat) : Int)))) rfl (wantT rfl (by kernel_rfl)) rfl (fun hg47 => ?_) (.inr fun _ h_ => h_) ?_
      · have qhg47 := hg47; try simp only [Bool.and_eq_true, Bool.or_eq_true, Bool.not_eq_true', Bool.not_eq_false', Bool.and_eq_false_iff, Bool.or_eq_false_iff, decide_eq_true_eq, decide_eq_false_iff_not, beq_iff_eq, bne_iff_ne, beq_eq_false_iff_ne, bne_eq_false_iff_eq] at qhg47
        refine Ys.yc ?_
        refine Ys.at (t := 59) (v0 := Value.bool ((uR s2 d2 (uB s d fr to pl xs)) == 0)) (lz (g := ((uR s2 d2 (uB s d fr to pl xs)) == 0) == (pl || (((asum s d % 65535 : Nat) : Int) == ((asum s2 d2 % 65535 : Nat) : Int)))) (u := undef) hg47 (by kernel_rfl)) ?_
        refine Ys.at (t := 61) (v0 := (bif !((uR s2 d2 (uB s d fr to pl xs)) == 0) then Value.bool ((uR s2 d2 (uB s d fr to pl xs)) == 12) else undef)) (lz2 (g := ((uR s2 d2 (uB s d fr to pl xs)) == 0) == (pl || (((asum s d % 65535 : Nat) : Int) == ((asum s2 d2 % 65535 : Nat) : Int)))) hg47 (by kernel_rfl)) ?_
        exact Ys.or' (e := (uR s2 d2 (uB s d fr to pl xs)) == 0) (b := (uR s2 d2 (uB s d fr to pl xs)) == 12) rfl (by kernel_rfl) (by kernel_rfl) (by kernel_rfl)
      refine Wd.yc (v := Value.bool ((((uR s2 d2 (uB s d fr to pl xs)) == 0) == (pl || (((asum s d % 65535 : Nat) : Int) == ((asum s2 d2 % 65535 : Nat) : Int)))) && (((uR s2 d2 (uB s d fr to pl xs)) == 0) || ((uR s2 d2 (uB s d fr to pl xs)) == 12)))) rfl rfl rfl (Ys.yc (Ys.and (e := ((uR s2 d2 (uB s d fr to pl xs)) == 0) == (pl || (((asum s d % 65535 : Nat) : Int) == ((asum s2 d2 % 65535 : Nat) : Int)))) (b := ((uR s2 d2 (uB s d fr to pl xs)) == 0) || ((uR s2 d2 (uB s d fr to pl xs)) == 12)) rfl (by kernel_rfl) (by kernel_rfl) (by kernel_rfl))) (.inr fun _ h_ => h_) ?_
      refine Wd.yc (v := Value.bool ((((uR s2 d2 (uB s d fr to pl xs)) == 0) == (pl || (((asum s d % 65535 : Nat) : Int) == ((asum s2 d2 % 65535 : Nat) : Int)))) && (((uR s2 d2 (uB s d fr to pl xs)) == 0) || ((uR s2 d2 (uB s d fr to pl xs)) == 12)))) rfl rfl rfl (Ys.yc (Ys.pure (fun _ => by kernel_rfl))) (.inl (by kernel_rfl)) ?_
      refine Wd.nil ?_
      refine hK34 _ _ _ ?_
      refine W.pick (LL' := []) [] (by decide) rfl ?_
      refine W.prune' [6] [Value.bool ((((uR s2 d2 (uB s d fr to pl xs)) == 0) == (pl || (((asum s d % 65535 : Nat) : Int) == ((asum s2 d2 % 65535 : Nat) : Int)))) && (((uR s2 d2 (uB s d fr to pl xs)) == 0) || ((uR s2 d2 (uB s d fr to pl xs)) == 12)))] (by kernel_rfl) (fun f48 => ?_)
      refine W.ret ?_
      show ∀ w_, _ → bodyPostM (fence none) 0 Try.prog Try.f4 _ Exit.ret _ w_
      exact fun w_ hS_ => fin_ret (ret1 rfl (RV.tmp (v := Value.bool ((((uR s2 d2 (uB s d fr to pl xs)) == 0) == (pl || (((asum s d % 65535 : Nat) : Int) == ((asum s2 d2 % 65535 : Nat) : Int)))) && (((uR s2 d2 (uB s d fr to pl xs)) == 0) || ((uR s2 d2 (uB s d fr to pl xs)) == 12)))) (by kernel_rfl)) hS_ ⟨by clear hK1 hK3 hK4 hK7 hK8 hK14 hK20 hK21 hK28 hK33 hK34; refine congrArg Ending.returned ?_; exact bool_congr (tp_law hs hd hs2 hd2 hf ht (by simpa using qh24)), hS_.below⟩)

end Go.Proofs.Ytgohlpdgeicncaa.Oct
