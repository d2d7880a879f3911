/-
  Hosts' tables: what is read. No condition.
-/
import Derived.Test.YtjkhmbigoloeiaaKt
set_option linter.unusedVariables false
set_option linter.unusedSimpArgs false
set_option maxRecDepth 20000
namespace Go.Proofs.Ytjkhmbigoloeiaa.Oct
open Go.RowKit Base
attribute [local irreducible] Ys Yc Ht HtS HtIn Wl Wd W Mem pf dpf Wa Wo

structure Host where
  m0 : Int
  m1 : Int
  m2 : Int
  m3 : Int
  m4 : Int
  m5 : Int
  ends : Int
abbrev dH : (Int) × (Host) := (0, (⟨0, 0, 0, 0, 0, 0, 0⟩ : Host))
/-- A pair's cells. -/
def prH (x : (Int) × (Host)) : List Value := [Value.int .u32 x.1, Value.int .u8 x.2.m0, Value.int .u8 x.2.m1, Value.int .u8 x.2.m2, Value.int .u8 x.2.m3, Value.int .u8 x.2.m4, Value.int .u8 x.2.m5, Value.int .u64 x.2.ends]
theorem prH_len (x : (Int) × (Host)) : (prH x).length = 8 := rfl
theorem prH_one (x : (Int) × (Host)) : ∀ v ∈ prH x, v.oneCell' = true := by simp [prH, Value.oneCell']
theorem prH_zlen (xs : List (Int × Host)) : (mm prH xs).length = xs.length * 8 := mm_len prH_len xs
theorem nana_c (x : Int) (w : World) : Calls Try.prog 75 #[Value.int .u32 x] w (Ret w (.bool false)) := by
  refine calls_W (M := []) (LL := []) (n := 6) Try.func75 rfl rfl (by simp) (Mem.refl _) ?_
  refine W.seq (fun K1 hK1 => ?_)
  refine W.region ?_
  refine Wl.run 1 (by kernel_rfl) ?_
  refine Wl.nil ?_
  refine hK1 _ _ _ ?_
  refine W.seq (fun K2 hK2 => ?_)
  refine W.region ?_
  refine Wl.run 4 (by kernel_rfl) ?_
  refine Wl.nil ?_
  refine hK2 _ _ _ ?_
  refine W.prune' [2] [Value.bool (x != x)] (by kernel_rfl) (fun f3 => ?_)
  refine W.ret ?_
  show ∀ w_, _ → bodyPostM (fence none) 0 Try.prog Try.f75 _ Exit.ret _ w_
  exact fun w_ hS_ => fin_ret (ret1 rfl (RV.tmp (v := Value.bool (x != x)) (by kernel_rfl)) hS_ ⟨by clear hK1 hK2; refine congrArg Ending.returned ?_; exact bool_congr (by simp), hS_.below⟩)

theorem cmpa_c (a b : Int) (w : World) : Calls Try.prog 37 #[Value.int .u32 a, Value.int .u32 b] w (Ret w (.int .i64 (LO.cmp LO.int a b))) := by
  refine calls_W (M := []) (LL := []) (n := 20) Try.func37 rfl rfl (by simp) (Mem.refl _) ?_
  refine W.seq (fun K1 hK1 => ?_)
  refine W.region ?_
  refine Wl.run 1 (by kernel_rfl) ?_
  refine Wl.nil ?_
  refine hK1 _ _ _ ?_
  refine W.seq (fun K2 hK2 => ?_)
  refine W.region ?_
  refine Wl.run 1 (by kernel_rfl) ?_
  refine Wl.yc (v := Value.bool false) rfl rfl (Yc.call (k := 75) (args := #[Value.int .u32 a]) (fun _ => by kernel_rfl) (fun w_ hm_ => (nana_c a _))) ?_
  refine Wl.run 1 (by kernel_rfl) ?_
  refine Wl.nil ?_
  refine hK2 _ _ _ ?_
  refine W.prune' [0, 1, 5] [Value.int .u32 a, Value.int .u32 b, Value.bool false] (by kernel_rfl) (fun f3 => ?_)
  refine W.seq (fun K4 hK4 => ?_)
  refine W.region ?_
  refine Wl.run 1 (by kernel_rfl) ?_
  refine Wl.yc (v := Value.bool false) rfl rfl (Yc.call (k := 75) (args := #[Value.int .u32 b]) (fun _ => by kernel_rfl) (fun w_ hm_ => (nana_c b _))) ?_
  refine Wl.run 1 (by kernel_rfl) ?_
  refine Wl.nil ?_
  refine hK4 _ _ _ ?_
  refine W.prune' [0, 1, 5, 6] [Value.int .u32 a, Value.int .u32 b, Value.bool false, Value.bool false] (by kernel_rfl) (fun f5 => ?_)
  refine W.seq (fun K6 hK6 => ?_)
  refine W.seq (fun K7 hK7 => ?_)
  refine W.region ?_
  refine Wl.run 1 (by kernel_rfl) ?_
  refine Wl.nil ?_
  refine hK7 _ _ _ ?_
  refine W.condF (by kernel_rfl) ?_
  refine W.skip' ?_
  refine hK6 _ _ _ ?_
  refine W.prune' [0, 1, 6] [Value.int .u32 a, Value.int .u32 b, Value.bool false] (by kernel_rfl) (fun f8 => ?_)
  refine W.seq (fun K9 hK9 => ?_)
  refine W.seq (fun K10 hK10 => ?_)
  refine W.region ?_
  refine Wl.run 1 (by kernel_rfl) ?_
  refine Wl.nil ?_
  refine hK10 _ _ _ ?_
  refine W.condF (by kernel_rfl) ?_
  refine W.skip' ?_
  refine hK9 _ _ _ ?_
  refine W.prune' [0, 1] [Value.int .u32 a, Value.int .u32 b] (by kernel_rfl) (fun f11 => ?_)
  refine W.seq (fun K12 hK12 => ?_)
  refine W.seq (fun K13 hK13 => ?_)
  refine W.region ?_
  refine Wl.run 3 (by kernel_rfl) ?_
  refine Wl.nil ?_
  refine hK13 _ _ _ ?_
  refine W.prune' [0, 1, 16] [Value.int .u32 a, Value.int .u32 b, Value.bool (decide (a < b))] (by kernel_rfl) (fun f14 => ?_)
  refine W.cond (decide (a < b)) (by kernel_rfl) (fun h15 => ?_) (fun h16 => ?_)
  · have qh15 := h15; try simp only [Bool.and_eq_true, Bool.or_eq_true, Bool.not_eq_true', Bool.not_eq_false', Bool.and_eq_false_iff, Bool.or_eq_false_iff, decide_eq_true_eq, decide_eq_false_iff_not, beq_iff_eq, bne_iff_ne, beq_eq_false_iff_ne, bne_eq_false_iff_eq] at qh15
    refine W.seq (fun K17 hK17 => ?_)
    refine W.region ?_
    refine Wl.run 1 (by kernel_rfl) ?_
    refine Wl.nil ?_
    refine hK17 _ _ _ ?_
    refine W.ret ?_
    show ∀ w_, _ → bodyPostM (fence none) 0 Try.prog Try.f37 _ Exit.ret _ w_
    exact fun w_ hS_ => fin_ret (ret1 rfl (RV.tmp (v := Value.int .i64 (-1)) (by kernel_rfl)) hS_ ⟨by clear hK1 hK2 hK4 hK6 hK7 hK9 hK10 hK12 hK13 hK17; refine congrArg Ending.returned ?_; simp only [LO.cmp, LO.int, h15, cond_true, cond_false]; try rfl, hS_.below⟩)
  · have qh16 := h16; try simp only [Bool.and_eq_true, Bool.or_eq_true, Bool.not_eq_true', Bool.not_eq_false', Bool.and_eq_false_iff, Bool.or_eq_false_iff, decide_eq_true_eq, decide_eq_false_iff_not, beq_iff_eq, bne_iff_ne, beq_eq_false_iff_ne, bne_eq_false_iff_eq] at qh16
    refine W.skip' ?_
    refine hK12 _ _ _ ?_
    refine W.prune' [0, 1] [Value.int .u32 a, Value.int .u32 b] (by kernel_rfl) (fun f18 => ?_)
    refine W.seq (fun K19 hK19 => ?_)
    refine W.seq (fun K20 hK20 => ?_)
    refine W.region ?_
    refine Wl.run 3 (by kernel_rfl) ?_
    refine Wl.nil ?_
    refine hK20 _ _ _ ?_
    refine W.prune' [19] [Value.bool (decide (a > b))] (by kernel_rfl) (fun f21 => ?_)
    refine W.cond (decide (a > b)) (by kernel_rfl) (fun h22 => ?_) (fun h23 => ?_)
    · have qh22 := h22; try simp only [Bool.and_eq_true, Bool.or_eq_true, Bool.not_eq_true', Bool.not_eq_false', Bool.and_eq_false_iff, Bool.or_eq_false_iff, decide_eq_true_eq, decide_eq_false_iff_not, beq_iff_eq, bne_iff_ne, beq_eq_false_iff_ne, bne_eq_false_iff_eq] at qh22
      refine W.seq (fun K24 hK24 => ?_)
      refine W.region ?_
      refine Wl.run 1 (by kernel_rfl) ?_
      refine Wl.nil ?_
      refine hK24 _ _ _ ?_
      refine W.ret ?_
      show ∀ w_, _ → bodyPostM (fence none) 0 Try.prog Try.f37 _ Exit.ret _ w_
      exact fun w_ hS_ => fin_ret (ret1 rfl (RV.tmp (v := Value.int .i64 1) (by kernel_rfl)) hS_ ⟨by clear hK1 hK2 hK4 hK6 hK7 hK9 hK10 hK12 hK13 hK19 hK20 hK24; refine congrArg Ending.returned ?_; simp only [LO.cmp, LO.int, h16, h22, cond_true, cond_false]; try rfl, hS_.below⟩)
    · have qh23 := h23; try simp only [Bool.and_eq_true, Bool.or_eq_true, Bool.not_eq_true', Bool.not_eq_false', Bool.and_eq_false_iff, Bool.or_eq_false_iff, decide_eq_true_eq, decide_eq_false_iff_not, beq_iff_eq, bne_iff_ne, beq_eq_false_iff_ne, bne_eq_false_iff_eq] at qh23
      refine W.skip' ?_
      refine hK19 _ _ _ ?_
      refine W.prune' [] [] (by kernel_rfl) (fun f25 => ?_)
      refine W.seq (fun K26 hK26 => ?_)
      refine W.region ?_
      refine Wl.run 1 (by kernel_rfl) ?_
      refine Wl.nil ?_
      refine hK26 _ _ _ ?_
      refine W.ret ?_
      show ∀ w_, _ → bodyPostM (fence none) 0 Try.prog Try.f37 _ Exit.ret _ w_
      exact fun w_ hS_ => fin_ret (ret1 rfl (RV.tmp (v := Value.int .i64 0) (by kernel_rfl)) hS_ ⟨by clear hK1 hK2 hK4 hK6 hK7 hK9 hK10 hK12 hK13 hK19 hK20 hK26; refine congrArg Ending.returned ?_; simp only [LO.cmp, LO.int, h16, h23, cond_true, cond_false]; try rfl, hS_.below⟩)

theorem fcmpH_c (x : (Int) × (Host)) (k : Int) (a : Option Addr) (n cap : Nat) (most : Int) (tb pt : Nat) (w : World) (hpt : At w (some ⟨pt, 0, none⟩) [Value.pointer (some ⟨tb, 0, none⟩)]) (htb : At w (some ⟨tb, 0, none⟩) [Value.slice a n cap, Value.int .i64 most, Value.func (.func 37) #[] #[]]) : Calls Try.prog 103 #[Value.agg ([Value.int .u32 x.1, Value.int .u8 x.2.m0, Value.int .u8 x.2.m1, Value.int .u8 x.2.m2, Value.int .u8 x.2.m3, Value.int .u8 x.2.m4, Value.int .u8 x.2.m5, Value.int .u64 x.2.ends]).toArray, Value.int .u32 k, Value.pointer (some ⟨pt, 0, none⟩)] w (Ret w (.int .i64 (LO.cmp LO.int x.1 k))) := by
  refine calls_W (M := []) (LL := []) (n := 14) Try.func103 rfl rfl (by simp) (Mem.refl _) ?_
  refine W.seq (fun K1 hK1 => ?_)
  refine W.region ?_
  refine Wl.ht rfl (Ht.box (v := Value.agg ([Value.int .u32 x.1, Value.int .u8 x.2.m0, Value.int .u8 x.2.m1, Value.int .u8 x.2.m2, Value.int .u8 x.2.m3, Value.int .u8 x.2.m4, Value.int .u8 x.2.m5, Value.int .u64 x.2.ends]).toArray) (cs := [Value.int .u32 x.1, Value.int .u8 x.2.m0, Value.int .u8 x.2.m1, Value.int .u8 x.2.m2, Value.int .u8 x.2.m3, Value.int .u8 x.2.m4, Value.int .u8 x.2.m5, Value.int .u64 x.2.ends]) rfl rfl (by kernel_rfl) rfl) (fun p3 => ?_)
  refine Wl.run 1 (by kernel_rfl) ?_
  refine Wl.nil ?_
  refine hK1 _ _ _ ?_
  refine W.prune' [1, 2, 3] [Value.int .u32 k, Value.pointer (some ⟨pt, 0, none⟩), Value.pointer (some ⟨p3, 0, none⟩)] (by kernel_rfl) (fun f2 => ?_)
  refine W.seq (fun K3 hK3 => ?_)
  refine W.draws [(0, true), (1, true), (2, true), (3, true), (4, true), (5, true), (6, false), (7, false), (8, false)] [0, 1, 2, 3, 4, 5] (Mem w [] [[cb p3 [Value.int .u32 x.1, Value.int .u8 x.2.m0, Value.int .u8 x.2.m1, Value.int .u8 x.2.m2, Value.int .u8 x.2.m3, Value.int .u8 x.2.m4, Value.int .u8 x.2.m5, Value.int .u64 x.2.ends] 142]]) (by kernel_rfl) (by kernel_rfl) (by kernel_rfl) rfl (by kernel_rfl) (fun _ _ h_ => h_.drawn _) (fun _ h_ => h_) ?_
  refine Wd.ys (v := Value.pointer (some ⟨tb, 0, none⟩)) rfl rfl rfl (Ys.ld (a := ⟨pt, 0, none⟩) rfl (by kernel_rfl) Try.isAgg89 (fun w_ h_ => by have x_ := (hpt.mem0 h_).ld (q := 0) (v := Value.pointer (some ⟨tb, 0, none⟩)) rfl; rw [ela_own0] at x_; exact x_)) ?_
  refine Wd.run 2 (by kernel_rfl) ?_
  refine Wd.ys (v := Value.func (.func 37) #[] #[]) rfl rfl rfl (Ys.ld (a := ⟨tb, 2, none⟩) rfl (by kernel_rfl) Try.isAgg93 (fun w_ h_ => by have x_ := (htb.mem0 h_).ld (q := 2) (v := Value.func (.func 37) #[] #[]) rfl; rw [ela_own0] at x_; exact x_)) ?_
  refine Wd.run 1 (by kernel_rfl) ?_
  refine Wd.ys (v := Value.int .u32 x.1) rfl rfl rfl (Ys.load (b := p3) (o' := 0) (i := 0) (j := 0) (cs := [Value.int .u32 x.1, Value.int .u8 x.2.m0, Value.int .u8 x.2.m1, Value.int .u8 x.2.m2, Value.int .u8 x.2.m3, Value.int .u8 x.2.m4, Value.int .u8 x.2.m5, Value.int .u64 x.2.ends]) (v := Value.int .u32 x.1) rfl (by kernel_rfl) Try.isAgg25 rfl rfl rfl) ?_
  refine Wd.yc (v := Value.int .u32 k) rfl rfl rfl (Ys.yc (Ys.pure (fun _ => by kernel_rfl))) (.inr fun _ h_ => h_) ?_
  refine Wd.yc (v := Value.int .i64 (LO.cmp LO.int x.1 k)) rfl rfl rfl (Yc.call (k := 37) (args := #[Value.int .u32 x.1, Value.int .u32 k]) (fun _ => by kernel_rfl) (fun w_ hm_ => (cmpa_c x.1 k _))) (.inr fun _ h_ => h_) ?_
  refine Wd.yc (v := Value.int .i64 (LO.cmp LO.int x.1 k)) rfl rfl rfl (Ys.yc (Ys.pure (fun _ => by kernel_rfl))) (.inl (by kernel_rfl)) ?_
  refine Wd.nil ?_
  refine hK3 _ _ _ ?_
  refine W.pick (LL' := []) [] (by decide) rfl ?_
  refine W.prune' [5] [Value.int .i64 (LO.cmp LO.int x.1 k)] (by kernel_rfl) (fun f4 => ?_)
  refine W.ret ?_
  show ∀ w_, _ → bodyPostM (fence none) 0 Try.prog Try.f103 _ Exit.ret _ w_
  exact fun w_ hS_ => fin_ret (ret1 rfl (RV.tmp (v := Value.int .i64 (LO.cmp LO.int x.1 k)) (by kernel_rfl)) hS_ ⟨rfl, hS_.below⟩)

theorem hasCH {xs : List (Int × Host)} {k : Int} (hs : Srt LO.int xs) : ((decide (((posK LO.int xs k : Nat) : Int) < ((xs.length : Nat) : Int))) && ((LO.cmp LO.int (xs.getD (posK LO.int xs k) dH).1 k) == 0)) = hasK xs k := by
  rw [← has_code dH hs]
  congr 1
  · exact decide_eq_decide.2 (by omega)
  · rw [Bool.eq_iff_iff, beq_iff_eq, decide_eq_true_eq]; exact LO.cmp_eq _
theorem bsH_c (xs : List (Int × Host)) (a : Option Addr) (cap : Nat) (most : Int) (tb : Nat) (pt : Nat) (k : Int) (w : World) (hpt : At w (some ⟨pt, 0, none⟩) [Value.pointer (some ⟨tb, 0, none⟩)]) (htb : At w (some ⟨tb, 0, none⟩) [Value.slice a xs.length cap, Value.int .i64 most, Value.func (.func 37) #[] #[]]) (hls : At w a (mm prH xs)) (hn : xs.length ≤ 100000) (hs : Srt LO.int xs) : Calls Try.prog 102 #[Value.slice a xs.length cap, Value.int .u32 k, Value.func (.func 103) #[] #[Value.pointer (some ⟨pt, 0, none⟩)]] w (Ret w (Value.tuple #[Value.int .i64 ((posK LO.int xs k : Nat) : Int), Value.bool (hasK xs k)])) := by
  refine calls_W (M := []) (LL := []) (n := 49) Try.func102 rfl rfl (by simp) (Mem.refl _) ?_
  refine W.seq (fun K1 hK1 => ?_)
  refine W.region ?_
  refine Wl.run 2 (by kernel_rfl) ?_
  refine Wl.nil ?_
  refine hK1 _ _ _ ?_
  refine W.prune' [0, 1, 2] [Value.slice a xs.length cap, Value.int .u32 k, Value.func (.func 103) #[] #[Value.pointer (some ⟨pt, 0, none⟩)]] (by kernel_rfl) (fun f2 => ?_)
  refine W.seq (fun K3 hK3 => ?_)
  refine W.region ?_
  refine Wl.run 3 (by kernel_rfl) ?_
  refine Wl.nil ?_
  refine hK3 _ _ _ ?_
  refine W.prune' [0, 1, 2, 8] [Value.slice a xs.length cap, Value.int .u32 k, Value.func (.func 103) #[] #[Value.pointer (some ⟨pt, 0, none⟩)], Value.int .i64 ((xs.length : Nat) : Int)] (by kernel_rfl) (fun f4 => ?_)
  refine W.seq (fun K5 hK5 => ?_)
  refine W.region ?_
  refine Wl.run 3 (by kernel_rfl) ?_
  refine Wl.nil ?_
  refine hK5 _ _ _ ?_
  refine W.prune' [0, 1, 2, 8, 9, 10] [Value.slice a xs.length cap, Value.int .u32 k, Value.func (.func 103) #[] #[Value.pointer (some ⟨pt, 0, none⟩)], Value.int .i64 ((xs.length : Nat) : Int), Value.int .i64 0, Value.int .i64 ((xs.length : Nat) : Int)] (by kernel_rfl) (fun f6 => ?_)
  refine W.seq (fun K7 hK7 => ?_)
  refine W.block ?_
  refine W.loop2 [0, 1, 2, 8, 9, 10] (fun (i : Nat) (j : Nat) => [Value.slice a xs.length cap, Value.int .u32 k, Value.func (.func 103) #[] #[Value.pointer (some ⟨pt, 0, none⟩)], Value.int .i64 ((xs.length : Nat) : Int), Value.int .i64 ((i : Nat) : Int), Value.int .i64 ((j : Nat) : Int)]) (fun (i : Nat) (j : Nat) => i ≤ posK LO.int xs k ∧ posK LO.int xs k ≤ j ∧ j ≤ xs.length) (fun (i : Nat) (j : Nat) => []) (fun (i : Nat) (j : Nat) => j - i) 0 xs.length (by kernel_rfl) ⟨(Nat.zero_le _), posK_le, (Nat.le_refl _)⟩ (by rfl) (fun i j f9 J8 hp10 hJ8 => ?_)
  obtain ⟨hi, hj, hjn⟩ := hp10
  refine W.seq (fun K11 hK11 => ?_)
  refine W.seq (fun K12 hK12 => ?_)
  refine W.region ?_
  refine Wl.run 3 (by kernel_rfl) ?_
  refine Wl.nil ?_
  refine hK12 _ _ _ ?_
  refine W.prune' [0, 1, 2, 8, 9, 10, 17] [Value.slice a xs.length cap, Value.int .u32 k, Value.func (.func 103) #[] #[Value.pointer (some ⟨pt, 0, none⟩)], Value.int .i64 ((xs.length : Nat) : Int), Value.int .i64 ((i : Nat) : Int), Value.int .i64 ((j : Nat) : Int), Value.bool (decide (((i : Nat) : Int) < ((j : Nat) : Int)))] (by kernel_rfl) (fun f13 => ?_)
  refine W.cond (decide (((i : Nat) : Int) < ((j : Nat) : Int))) (by kernel_rfl) (fun h14 => ?_) (fun h15 => ?_)
  · have qh14 := h14; try simp only [Bool.and_eq_true, Bool.or_eq_true, Bool.not_eq_true', Bool.not_eq_false', Bool.and_eq_false_iff, Bool.or_eq_false_iff, decide_eq_true_eq, decide_eq_false_iff_not, beq_iff_eq, bne_iff_ne, beq_eq_false_iff_ne, bne_eq_false_iff_eq] at qh14
    refine W.skip' ?_
    refine hK11 _ _ _ ?_
    refine W.prune' [0, 1, 2, 8, 9, 10] [Value.slice a xs.length cap, Value.int .u32 k, Value.func (.func 103) #[] #[Value.pointer (some ⟨pt, 0, none⟩)], Value.int .i64 ((xs.length : Nat) : Int), Value.int .i64 ((i : Nat) : Int), Value.int .i64 ((j : Nat) : Int)] (by kernel_rfl) (fun f16 => ?_)
    refine W.block ?_
    refine W.seq (fun K17 hK17 => ?_)
    refine W.region ?_
    refine Wl.run 2 (by kernel_rfl) ?_
    refine Wl.ys (v := Value.int .i64 ((i + j : Nat) : Int)) rfl rfl ((Ys.pure (v := .int .i64 (iadd .i64 ((i : Nat) : Int) ((j : Nat) : Int))) (fun _ => by kernel_rfl)).conseq (int_congr (iadd_eq (by omega) (by omega) (by omega)))) ?_
    refine Wl.ys (v := Value.int .u64 ((i + j : Nat) : Int)) rfl rfl ((Ys.pure (v := .int .u64 (icnv .u64 ((i + j : Nat) : Int))) (fun _ => by kernel_rfl)).conseq (int_congr (wrap_u64 (by omega) (by omega)))) ?_
    refine Wl.ys (v := Value.int .u64 (((i + j) / 2 : Nat) : Int)) rfl rfl ((Ys.pure (v := .int .u64 (ishr .u64 ((i + j : Nat) : Int) ((1 : Nat) : Int))) (fun _ => by kernel_rfl)).conseq (int_congr (ishr_nat (i + j) 1 (by decide)))) ?_
    refine Wl.ys (v := Value.int .i64 (((i + j) / 2 : Nat) : Int)) rfl rfl ((Ys.pure (v := .int .i64 (icnv .i64 (((i + j) / 2 : Nat) : Int))) (fun _ => by kernel_rfl)).conseq (int_congr (wrap_i64 (by omega) (by omega)))) ?_
    refine Wl.run 1 (by kernel_rfl) ?_
    refine Wl.nil ?_
    refine hK17 _ _ _ ?_
    refine W.prune' [0, 1, 2, 8, 9, 10, 11] [Value.slice a xs.length cap, Value.int .u32 k, Value.func (.func 103) #[] #[Value.pointer (some ⟨pt, 0, none⟩)], Value.int .i64 ((xs.length : Nat) : Int), Value.int .i64 ((i : Nat) : Int), Value.int .i64 ((j : Nat) : Int), Value.int .i64 (((i + j) / 2 : Nat) : Int)] (by kernel_rfl) (fun f18 => ?_)
    refine W.seq (fun K19 hK19 => ?_)
    refine W.region ?_
    refine Wl.run 3 (by kernel_rfl) ?_
    refine Wl.ys (v := Value.pointer (some (ela a (((i + j) / 2) * 8)))) rfl rfl (Ys.byMem fun w_ h_ => Ys.indexAddr (k := .i64) (a := a) (len := xs.length) (cap := cap) (i := (((i + j) / 2 : Nat) : Int)) (sz := 8) rfl (by kernel_rfl) (by kernel_rfl) Try.runUnderlying136 Try.sizeOf142 (by omega) (by omega) ((hls.mem0 h_).here (by rw [mm_len (g := prH) (sz := 8) (fun _ => rfl)]; first | omega | (simp; omega)))) ?_
    refine Wl.ys (v := Value.agg ([Value.int .u32 ((xs.getD ((i + j) / 2) dH).1), Value.int .u8 (((xs.getD ((i + j) / 2) dH).2).m0), Value.int .u8 (((xs.getD ((i + j) / 2) dH).2).m1), Value.int .u8 (((xs.getD ((i + j) / 2) dH).2).m2), Value.int .u8 (((xs.getD ((i + j) / 2) dH).2).m3), Value.int .u8 (((xs.getD ((i + j) / 2) dH).2).m4), Value.int .u8 (((xs.getD ((i + j) / 2) dH).2).m5), Value.int .u64 (((xs.getD ((i + j) / 2) dH).2).ends)]).toArray) rfl rfl (Ys.ldN (a := ela a (((i + j) / 2) * 8)) (vs := [Value.int .u32 ((xs.getD ((i + j) / 2) dH).1), Value.int .u8 (((xs.getD ((i + j) / 2) dH).2).m0), Value.int .u8 (((xs.getD ((i + j) / 2) dH).2).m1), Value.int .u8 (((xs.getD ((i + j) / 2) dH).2).m2), Value.int .u8 (((xs.getD ((i + j) / 2) dH).2).m3), Value.int .u8 (((xs.getD ((i + j) / 2) dH).2).m4), Value.int .u8 (((xs.getD ((i + j) / 2) dH).2).m5), Value.int .u64 (((xs.getD ((i + j) / 2) dH).2).ends)]) rfl (by kernel_rfl) Try.isAgg142 Try.sizeOf142 rfl (fun w_ h_ => (hls.mem0 h_).ldN (mm_get (g := prH) (sz := 8) (fun _ => rfl) dH (xs := xs) (k := (i + j) / 2) (by omega)))) ?_
    refine Wl.run 1 (by kernel_rfl) ?_
    refine Wl.yc (v := Value.int .i64 (LO.cmp LO.int ((xs.getD ((i + j) / 2) dH).1) k)) rfl rfl (Yc.call (k := 103) (args := #[Value.agg ([Value.int .u32 ((xs.getD ((i + j) / 2) dH).1), Value.int .u8 (((xs.getD ((i + j) / 2) dH).2).m0), Value.int .u8 (((xs.getD ((i + j) / 2) dH).2).m1), Value.int .u8 (((xs.getD ((i + j) / 2) dH).2).m2), Value.int .u8 (((xs.getD ((i + j) / 2) dH).2).m3), Value.int .u8 (((xs.getD ((i + j) / 2) dH).2).m4), Value.int .u8 (((xs.getD ((i + j) / 2) dH).2).m5), Value.int .u64 (((xs.getD ((i + j) / 2) dH).2).ends)]).toArray, Value.int .u32 k, Value.pointer (some ⟨pt, 0, none⟩)]) (fun _ => by kernel_rfl) (fun w_ hm_ => (fcmpH_c (((xs.getD ((i + j) / 2) dH).1), ((xs.getD ((i + j) / 2) dH).2)) k a xs.length cap most tb pt _ (hpt.mem0 hm_) (htb.mem0 hm_)))) ?_
    refine Wl.run 1 (by kernel_rfl) ?_
    refine Wl.nil ?_
    refine hK19 _ _ _ ?_
    refine W.prune' [0, 1, 2, 8, 9, 10, 11, 31] [Value.slice a xs.length cap, Value.int .u32 k, Value.func (.func 103) #[] #[Value.pointer (some ⟨pt, 0, none⟩)], Value.int .i64 ((xs.length : Nat) : Int), Value.int .i64 ((i : Nat) : Int), Value.int .i64 ((j : Nat) : Int), Value.int .i64 (((i + j) / 2 : Nat) : Int), Value.bool (decide ((LO.cmp LO.int ((xs.getD ((i + j) / 2) dH).1) k) < 0))] (by kernel_rfl) (fun f20 => ?_)
    refine W.cond (decide ((LO.cmp LO.int ((xs.getD ((i + j) / 2) dH).1) k) < 0)) (by kernel_rfl) (fun h21 => ?_) (fun h22 => ?_)
    · have qh21 := h21; try simp only [Bool.and_eq_true, Bool.or_eq_true, Bool.not_eq_true', Bool.not_eq_false', Bool.and_eq_false_iff, Bool.or_eq_false_iff, decide_eq_true_eq, decide_eq_false_iff_not, beq_iff_eq, bne_iff_ne, beq_eq_false_iff_ne, bne_eq_false_iff_eq] at qh21
      refine W.region ?_
      refine Wl.run 1 (by kernel_rfl) ?_
      refine Wl.ys (v := Value.int .i64 ((((i + j) / 2) + 1 : Nat) : Int)) rfl rfl ((Ys.pure (v := .int .i64 (iadd .i64 (((i + j) / 2 : Nat) : Int) 1)) (fun _ => by kernel_rfl)).conseq (int_congr (iadd_eq (by omega) (by omega) (by omega)))) ?_
      refine Wl.run 1 (by kernel_rfl) ?_
      refine Wl.nil ?_
      have hps_ := posK_spec dH (k := k) hs (h := (i + j) / 2) (by omega)
      have hpl_ := hps_.1 (LO.cmp_lt _ |>.1 qh21)
      refine fun w_ h_ => hJ8 ((i + j) / 2 + 1) j _ w_ (by omega) ⟨(by omega), (by omega), (by omega)⟩ ?_ h_
      kernel_rfl
    · have qh22 := h22; try simp only [Bool.and_eq_true, Bool.or_eq_true, Bool.not_eq_true', Bool.not_eq_false', Bool.and_eq_false_iff, Bool.or_eq_false_iff, decide_eq_true_eq, decide_eq_false_iff_not, beq_iff_eq, bne_iff_ne, beq_eq_false_iff_ne, bne_eq_false_iff_eq] at qh22
      refine W.region ?_
      refine Wl.run 2 (by kernel_rfl) ?_
      refine Wl.nil ?_
      have hps_ := posK_spec dH (k := k) hs (h := (i + j) / 2) (by omega)
      have hpl_ : ¬ ((i + j) / 2 < posK LO.int xs k) := fun h_ => qh22 (LO.cmp_lt _ |>.2 (hps_.2 h_))
      refine fun w_ h_ => hJ8 i ((i + j) / 2) _ w_ (by omega) ⟨(by omega), (by omega), (by omega)⟩ ?_ h_
      kernel_rfl
  · have qh15 := h15; try simp only [Bool.and_eq_true, Bool.or_eq_true, Bool.not_eq_true', Bool.not_eq_false', Bool.and_eq_false_iff, Bool.or_eq_false_iff, decide_eq_true_eq, decide_eq_false_iff_not, beq_iff_eq, bne_iff_ne, beq_eq_false_iff_ne, bne_eq_false_iff_eq] at qh15
    refine W.exit ?_
    refine hK7 _ _ _ ?_
    refine W.prune' [0, 1, 2, 8, 9] [Value.slice a xs.length cap, Value.int .u32 k, Value.func (.func 103) #[] #[Value.pointer (some ⟨pt, 0, none⟩)], Value.int .i64 ((xs.length : Nat) : Int), Value.int .i64 ((i : Nat) : Int)] (by kernel_rfl) (fun f23 => ?_)
    refine W.seq (fun K24 hK24 => ?_)
    refine W.region ?_
    refine Wl.run 5 (by kernel_rfl) ?_
    refine Wl.guard (v := Value.func (.func 103) #[] #[Value.pointer (some ⟨pt, 0, none⟩)]) (decide (((i : Nat) : Int) < ((xs.length : Nat) : Int))) rfl (wantT rfl (by kernel_rfl)) rfl (fun hg25 => ?_) ?_
    · have qhg25 := hg25; try simp only [Bool.and_eq_true, Bool.or_eq_true, Bool.not_eq_true', Bool.not_eq_false', Bool.and_eq_false_iff, Bool.or_eq_false_iff, decide_eq_true_eq, decide_eq_false_iff_not, beq_iff_eq, bne_iff_ne, beq_eq_false_iff_ne, bne_eq_false_iff_eq] at qhg25
      exact Ys.pure (fun _ => by kernel_rfl)
    refine Wl.guard (v := Value.slice a xs.length cap) (decide (((i : Nat) : Int) < ((xs.length : Nat) : Int))) rfl (wantT rfl (by kernel_rfl)) rfl (fun hg26 => ?_) ?_
    · have qhg26 := hg26; try simp only [Bool.and_eq_true, Bool.or_eq_true, Bool.not_eq_true', Bool.not_eq_false', Bool.and_eq_false_iff, Bool.or_eq_false_iff, decide_eq_true_eq, decide_eq_false_iff_not, beq_iff_eq, bne_iff_ne, beq_eq_false_iff_ne, bne_eq_false_iff_eq] at qhg26
      exact Ys.pure (fun _ => by kernel_rfl)
    refine Wl.guard (v := Value.int .i64 ((i : Nat) : Int)) (decide (((i : Nat) : Int) < ((xs.length : Nat) : Int))) rfl (wantT rfl (by kernel_rfl)) rfl (fun hg27 => ?_) ?_
    · have qhg27 := hg27; try simp only [Bool.and_eq_true, Bool.or_eq_true, Bool.not_eq_true', Bool.not_eq_false', Bool.and_eq_false_iff, Bool.or_eq_false_iff, decide_eq_true_eq, decide_eq_false_iff_not, beq_iff_eq, bne_iff_ne, beq_eq_false_iff_ne, bne_eq_false_iff_eq] at qhg27
      exact Ys.pure (fun _ => by kernel_rfl)
    refine Wl.guard (v := Value.pointer (some (ela a (i * 8)))) (decide (((i : Nat) : Int) < ((xs.length : Nat) : Int))) rfl (wantT rfl (by kernel_rfl)) rfl (fun hg28 => ?_) ?_
    · have qhg28 := hg28; try simp only [Bool.and_eq_true, Bool.or_eq_true, Bool.not_eq_true', Bool.not_eq_false', Bool.and_eq_false_iff, Bool.or_eq_false_iff, decide_eq_true_eq, decide_eq_false_iff_not, beq_iff_eq, bne_iff_ne, beq_eq_false_iff_ne, bne_eq_false_iff_eq] at qhg28
      refine Ys.at (t := 41) (v0 := Value.slice a xs.length cap) (lz (g := decide (((i : Nat) : Int) < ((xs.length : Nat) : Int))) (u := undef) hg28 (by kernel_rfl)) ?_
      refine Ys.at (t := 42) (v0 := Value.int .i64 ((i : Nat) : Int)) (lz (g := decide (((i : Nat) : Int) < ((xs.length : Nat) : Int))) (u := undef) hg28 (by kernel_rfl)) ?_
      exact Ys.byMem fun w_ h_ => Ys.indexAddr (k := .i64) (a := a) (len := xs.length) (cap := cap) (i := ((i : Nat) : Int)) (sz := 8) rfl (by kernel_rfl) (by kernel_rfl) Try.runUnderlying136 Try.sizeOf142 (by omega) (by omega) ((hls.mem0 h_).here (by rw [mm_len (g := prH) (sz := 8) (fun _ => rfl)]; first | omega | (simp; omega)))
    refine Wl.guard (v := Value.agg ([Value.int .u32 ((xs.getD i dH).1), Value.int .u8 (((xs.getD i dH).2).m0), Value.int .u8 (((xs.getD i dH).2).m1), Value.int .u8 (((xs.getD i dH).2).m2), Value.int .u8 (((xs.getD i dH).2).m3), Value.int .u8 (((xs.getD i dH).2).m4), Value.int .u8 (((xs.getD i dH).2).m5), Value.int .u64 (((xs.getD i dH).2).ends)]).toArray) (decide (((i : Nat) : Int) < ((xs.length : Nat) : Int))) rfl (wantT rfl (by kernel_rfl)) rfl (fun hg29 => ?_) ?_
    · have qhg29 := hg29; try simp only [Bool.and_eq_true, Bool.or_eq_true, Bool.not_eq_true', Bool.not_eq_false', Bool.and_eq_false_iff, Bool.or_eq_false_iff, decide_eq_true_eq, decide_eq_false_iff_not, beq_iff_eq, bne_iff_ne, beq_eq_false_iff_ne, bne_eq_false_iff_eq] at qhg29
      refine Ys.at (t := 43) (v0 := Value.pointer (some (ela a (i * 8)))) (lz (g := decide (((i : Nat) : Int) < ((xs.length : Nat) : Int))) (u := undef) hg29 (by kernel_rfl)) ?_
      exact Ys.ldN (a := ela a (i * 8)) (vs := [Value.int .u32 ((xs.getD i dH).1), Value.int .u8 (((xs.getD i dH).2).m0), Value.int .u8 (((xs.getD i dH).2).m1), Value.int .u8 (((xs.getD i dH).2).m2), Value.int .u8 (((xs.getD i dH).2).m3), Value.int .u8 (((xs.getD i dH).2).m4), Value.int .u8 (((xs.getD i dH).2).m5), Value.int .u64 (((xs.getD i dH).2).ends)]) rfl (by kernel_rfl) Try.isAgg142 Try.sizeOf142 rfl (fun w_ h_ => (hls.mem0 h_).ldN (mm_get (g := prH) (sz := 8) (fun _ => rfl) dH (xs := xs) (k := i) (by omega)))
    refine Wl.guard (v := Value.int .u32 k) (decide (((i : Nat) : Int) < ((xs.length : Nat) : Int))) rfl (wantT rfl (by kernel_rfl)) rfl (fun hg30 => ?_) ?_
    · have qhg30 := hg30; try simp only [Bool.and_eq_true, Bool.or_eq_true, Bool.not_eq_true', Bool.not_eq_false', Bool.and_eq_false_iff, Bool.or_eq_false_iff, decide_eq_true_eq, decide_eq_false_iff_not, beq_iff_eq, bne_iff_ne, beq_eq_false_iff_ne, bne_eq_false_iff_eq] at qhg30
      exact Ys.pure (fun _ => by kernel_rfl)
    refine Wl.guardc (v := Value.int .i64 (LO.cmp LO.int ((xs.getD i dH).1) k)) (decide (((i : Nat) : Int) < ((xs.length : Nat) : Int))) rfl (wantT rfl (by kernel_rfl)) rfl (fun hg31 => ?_) ?_
    · have qhg31 := hg31; try simp only [Bool.and_eq_true, Bool.or_eq_true, Bool.not_eq_true', Bool.not_eq_false', Bool.and_eq_false_iff, Bool.or_eq_false_iff, decide_eq_true_eq, decide_eq_false_iff_not, beq_iff_eq, bne_iff_ne, beq_eq_false_iff_ne, bne_eq_false_iff_eq] at qhg31
      refine Yc.at (t := 40) (v0 := Value.func (.func 103) #[] #[Value.pointer (some ⟨pt, 0, none⟩)]) (lz (g := decide (((i : Nat) : Int) < ((xs.length : Nat) : Int))) (u := undef) hg31 (by kernel_rfl)) ?_
      refine Yc.at (t := 44) (v0 := Value.agg ([Value.int .u32 ((xs.getD i dH).1), Value.int .u8 (((xs.getD i dH).2).m0), Value.int .u8 (((xs.getD i dH).2).m1), Value.int .u8 (((xs.getD i dH).2).m2), Value.int .u8 (((xs.getD i dH).2).m3), Value.int .u8 (((xs.getD i dH).2).m4), Value.int .u8 (((xs.getD i dH).2).m5), Value.int .u64 (((xs.getD i dH).2).ends)]).toArray) (lz (g := decide (((i : Nat) : Int) < ((xs.length : Nat) : Int))) (u := undef) hg31 (by kernel_rfl)) ?_
      refine Yc.at (t := 45) (v0 := Value.int .u32 k) (lz (g := decide (((i : Nat) : Int) < ((xs.length : Nat) : Int))) (u := undef) hg31 (by kernel_rfl)) ?_
      exact Yc.call (k := 103) (args := #[Value.agg ([Value.int .u32 ((xs.getD i dH).1), Value.int .u8 (((xs.getD i dH).2).m0), Value.int .u8 (((xs.getD i dH).2).m1), Value.int .u8 (((xs.getD i dH).2).m2), Value.int .u8 (((xs.getD i dH).2).m3), Value.int .u8 (((xs.getD i dH).2).m4), Value.int .u8 (((xs.getD i dH).2).m5), Value.int .u64 (((xs.getD i dH).2).ends)]).toArray, Value.int .u32 k, Value.pointer (some ⟨pt, 0, none⟩)]) (fun _ => by kernel_rfl) (fun w_ hm_ => (fcmpH_c (((xs.getD i dH).1), ((xs.getD i dH).2)) k a xs.length cap most tb pt _ (hpt.mem0 hm_) (htb.mem0 hm_)))
    refine Wl.guard (v := Value.bool ((LO.cmp LO.int ((xs.getD i dH).1) k) == 0)) (decide (((i : Nat) : Int) < ((xs.length : Nat) : Int))) rfl (wantT rfl (by kernel_rfl)) rfl (fun hg32 => ?_) ?_
    · have qhg32 := hg32; try simp only [Bool.and_eq_true, Bool.or_eq_true, Bool.not_eq_true', Bool.not_eq_false', Bool.and_eq_false_iff, Bool.or_eq_false_iff, decide_eq_true_eq, decide_eq_false_iff_not, beq_iff_eq, bne_iff_ne, beq_eq_false_iff_ne, bne_eq_false_iff_eq] at qhg32
      refine Ys.at (t := 46) (v0 := Value.int .i64 (LO.cmp LO.int ((xs.getD i dH).1) k)) (lz (g := decide (((i : Nat) : Int) < ((xs.length : Nat) : Int))) (u := undef) hg32 (by kernel_rfl)) ?_
      exact Ys.pure (fun _ => by kernel_rfl)
    refine Wl.ys (v := Value.bool ((decide (((i : Nat) : Int) < ((xs.length : Nat) : Int))) && ((LO.cmp LO.int ((xs.getD i dH).1) k) == 0))) rfl rfl (Ys.and (e := decide (((i : Nat) : Int) < ((xs.length : Nat) : Int))) (b := (LO.cmp LO.int ((xs.getD i dH).1) k) == 0) rfl (by kernel_rfl) (by kernel_rfl) (by kernel_rfl)) ?_
    refine Wl.run 2 (by kernel_rfl) ?_
    refine Wl.nil ?_
    refine hK24 _ _ _ ?_
    refine W.prune' [6, 7] [Value.int .i64 ((i : Nat) : Int), Value.bool ((decide (((i : Nat) : Int) < ((xs.length : Nat) : Int))) && ((LO.cmp LO.int ((xs.getD i dH).1) k) == 0))] (by kernel_rfl) (fun f33 => ?_)
    refine W.ret ?_
    have hip_ : i = posK LO.int xs k := by omega
    show ∀ w_, _ → bodyPostM (fence none) 0 Try.prog Try.f102 _ Exit.ret _ w_
    exact fun w_ hS_ => fin_ret (ret2 rfl (RV.tmp (v := Value.int .i64 ((i : Nat) : Int)) (by kernel_rfl)) (RV.tmp (v := Value.bool ((decide (((i : Nat) : Int) < ((xs.length : Nat) : Int))) && ((LO.cmp LO.int ((xs.getD i dH).1) k) == 0))) (by kernel_rfl)) hS_ ⟨by clear hK1 hK3 hK5 hK7 hJ8 hK11 hK12 hK24; refine congrArg Ending.returned ?_; rw [hip_]; refine congrArg (fun b => Value.tuple #[_, .bool b]) ?_; exact hasCH hs, hS_.below⟩)

theorem findH_c (xs : List (Int × Host)) (a : Option Addr) (cap : Nat) (most : Int) (tb : Nat) (k : Int) (w : World) (htb : At w (some ⟨tb, 0, none⟩) [Value.slice a xs.length cap, Value.int .i64 most, Value.func (.func 37) #[] #[]]) (hls : At w a (mm prH xs)) (hn : xs.length ≤ 100000) (hs : Srt LO.int xs) : Calls Try.prog 78 #[Value.pointer (some ⟨tb, 0, none⟩), Value.int .u32 k] w (Ret w (Value.tuple #[Value.int .i64 ((posK LO.int xs k : Nat) : Int), Value.bool (hasK xs k)])) := by
  refine calls_W (M := []) (LL := []) (n := 15) Try.func78 rfl rfl (by simp) (Mem.refl _) ?_
  refine W.seq (fun K1 hK1 => ?_)
  refine W.region ?_
  refine Wl.ht rfl (Ht.box (v := Value.pointer (some ⟨tb, 0, none⟩)) (cs := [Value.pointer (some ⟨tb, 0, none⟩)]) rfl rfl (by kernel_rfl) rfl) (fun p2 => ?_)
  refine Wl.run 2 (by kernel_rfl) ?_
  refine Wl.nil ?_
  refine hK1 _ _ _ ?_
  refine W.prune' [1, 2] [Value.int .u32 k, Value.pointer (some ⟨p2, 0, none⟩)] (by kernel_rfl) (fun f2 => ?_)
  refine W.seq (fun K3 hK3 => ?_)
  refine W.region ?_
  refine Wl.ys (v := Value.pointer (some ⟨tb, 0, none⟩)) rfl rfl (Ys.load (b := p2) (o' := 0) (i := 0) (j := 0) (cs := [Value.pointer (some ⟨tb, 0, none⟩)]) (v := Value.pointer (some ⟨tb, 0, none⟩)) rfl (by kernel_rfl) Try.isAgg89 rfl rfl rfl) ?_
  refine Wl.run 2 (by kernel_rfl) ?_
  refine Wl.ys (v := Value.slice a xs.length cap) rfl rfl (Ys.ld (a := ⟨tb, 0, none⟩) rfl (by kernel_rfl) Try.isAgg136 (fun w_ h_ => by have x_ := (htb.mem0 h_).ld (q := 0) (v := Value.slice a xs.length cap) rfl; rw [ela_own0] at x_; exact x_)) ?_
  refine Wl.run 2 (by kernel_rfl) ?_
  refine Wl.yc (v := Value.tuple #[Value.int .i64 ((posK LO.int xs k : Nat) : Int), Value.bool (hasK xs k)]) rfl rfl (Yc.call (k := 102) (args := #[Value.slice a xs.length cap, Value.int .u32 k, Value.func (.func 103) #[] #[Value.pointer (some ⟨p2, 0, none⟩)]]) (fun _ => by kernel_rfl) (fun w_ hm_ => (bsH_c xs a cap most tb p2 k _ (At.lit0 (i := 0) (j := 0) (t := 89) (b := p2) hm_ rfl rfl) (htb.mem0 hm_) (hls.mem0 hm_) (by first | omega | (simp; done)) hs))) ?_
  refine Wl.run 4 (by kernel_rfl) ?_
  refine Wl.nil ?_
  refine hK3 _ _ _ ?_
  refine W.pick (LL' := []) [] (by decide) rfl ?_
  refine W.prune' [4, 5] [Value.int .i64 ((posK LO.int xs k : Nat) : Int), Value.bool (hasK xs k)] (by kernel_rfl) (fun f4 => ?_)
  refine W.ret ?_
  show ∀ w_, _ → bodyPostM (fence none) 0 Try.prog Try.f78 _ Exit.ret _ w_
  exact fun w_ hS_ => fin_ret (ret2 rfl (RV.tmp (v := Value.int .i64 ((posK LO.int xs k : Nat) : Int)) (by kernel_rfl)) (RV.tmp (v := Value.bool (hasK xs k)) (by kernel_rfl)) hS_ ⟨rfl, hS_.below⟩)

theorem lenH_c (xs : List (Int × Host)) (a : Option Addr) (cap : Nat) (most : Int) (tb : Nat) (w : World) (htb : At w (some ⟨tb, 0, none⟩) [Value.slice a xs.length cap, Value.int .i64 most, Value.func (.func 37) #[] #[]]) (hls : At w a (mm prH xs)) (hn : xs.length ≤ 100000) (hs : Srt LO.int xs) : Calls Try.prog 48 #[Value.pointer (some ⟨tb, 0, none⟩)] w (Ret w (Value.int .i64 ((xs.length : Nat) : Int))) := by
  refine calls_W (M := []) (LL := []) (n := 8) Try.func48 rfl rfl (by simp) (Mem.refl _) ?_
  refine W.seq (fun K1 hK1 => ?_)
  refine W.region ?_
  refine Wl.run 1 (by kernel_rfl) ?_
  refine Wl.nil ?_
  refine hK1 _ _ _ ?_
  refine W.seq (fun K2 hK2 => ?_)
  refine W.region ?_
  refine Wl.run 3 (by kernel_rfl) ?_
  refine Wl.ys (v := Value.slice a xs.length cap) rfl rfl (Ys.ld (a := ⟨tb, 0, none⟩) rfl (by kernel_rfl) Try.isAgg136 (fun w_ h_ => by have x_ := (htb.mem0 h_).ld (q := 0) (v := Value.slice a xs.length cap) rfl; rw [ela_own0] at x_; exact x_)) ?_
  refine Wl.run 2 (by kernel_rfl) ?_
  refine Wl.nil ?_
  refine hK2 _ _ _ ?_
  refine W.prune' [2] [Value.int .i64 ((xs.length : Nat) : Int)] (by kernel_rfl) (fun f3 => ?_)
  refine W.ret ?_
  show ∀ w_, _ → bodyPostM (fence none) 0 Try.prog Try.f48 _ Exit.ret _ w_
  exact fun w_ hS_ => fin_ret (ret1 rfl (RV.tmp (v := Value.int .i64 ((xs.length : Nat) : Int)) (by kernel_rfl)) hS_ ⟨rfl, hS_.below⟩)

theorem getH_c (xs : List (Int × Host)) (a : Option Addr) (cap : Nat) (most : Int) (tb : Nat) (k : Int) (w : World) (htb : At w (some ⟨tb, 0, none⟩) [Value.slice a xs.length cap, Value.int .i64 most, Value.func (.func 37) #[] #[]]) (hls : At w a (mm prH xs)) (hn : xs.length ≤ 100000) (hs : Srt LO.int xs) : Calls Try.prog 39 #[Value.pointer (some ⟨tb, 0, none⟩), Value.int .u32 k] w (Ret w (Value.tuple #[Value.agg ([Value.int .u8 ((getK (⟨0, 0, 0, 0, 0, 0, 0⟩ : Host) xs k).m0), Value.int .u8 ((getK (⟨0, 0, 0, 0, 0, 0, 0⟩ : Host) xs k).m1), Value.int .u8 ((getK (⟨0, 0, 0, 0, 0, 0, 0⟩ : Host) xs k).m2), Value.int .u8 ((getK (⟨0, 0, 0, 0, 0, 0, 0⟩ : Host) xs k).m3), Value.int .u8 ((getK (⟨0, 0, 0, 0, 0, 0, 0⟩ : Host) xs k).m4), Value.int .u8 ((getK (⟨0, 0, 0, 0, 0, 0, 0⟩ : Host) xs k).m5), Value.int .u64 ((getK (⟨0, 0, 0, 0, 0, 0, 0⟩ : Host) xs k).ends)]).toArray, Value.bool (hasK xs k)])) := by
  refine calls_W (M := []) (LL := []) (n := 24) Try.func39 rfl rfl (by simp) (Mem.refl _) ?_
  refine W.seq (fun K1 hK1 => ?_)
  refine W.region ?_
  refine Wl.ht rfl (Ht.alloc (z := Value.agg ([Value.int .u8 0, Value.int .u8 0, Value.int .u8 0, Value.int .u8 0, Value.int .u8 0, Value.int .u8 0, Value.int .u64 0]).toArray) (cs := [Value.int .u8 0, Value.int .u8 0, Value.int .u8 0, Value.int .u8 0, Value.int .u8 0, Value.int .u8 0, Value.int .u64 0]) rfl rfl Try.zeroValue92 rfl) (fun p4 => ?_)
  refine Wl.run 1 (by kernel_rfl) ?_
  refine Wl.nil ?_
  refine hK1 _ _ _ ?_
  refine W.prune' [0, 1, 4] [Value.pointer (some ⟨tb, 0, none⟩), Value.int .u32 k, Value.pointer (some ⟨p4, 0, none⟩)] (by kernel_rfl) (fun f2 => ?_)
  refine W.seq (fun K3 hK3 => ?_)
  refine W.seq (fun K4 hK4 => ?_)
  refine W.region ?_
  refine Wl.run 2 (by kernel_rfl) ?_
  refine Wl.yc (v := Value.tuple #[Value.int .i64 ((posK LO.int xs k : Nat) : Int), Value.bool (hasK xs k)]) rfl rfl (Yc.call (k := 78) (args := #[Value.pointer (some ⟨tb, 0, none⟩), Value.int .u32 k]) (fun _ => by kernel_rfl) (fun w_ hm_ => (findH_c xs a cap most tb k _ (htb.mem0 hm_) (hls.mem0 hm_) (by first | omega | (simp; done)) hs))) ?_
  refine Wl.run 5 (by kernel_rfl) ?_
  refine Wl.nil ?_
  refine hK4 _ _ _ ?_
  refine W.prune' [0, 4, 6, 7] [Value.pointer (some ⟨tb, 0, none⟩), Value.pointer (some ⟨p4, 0, none⟩), Value.int .i64 ((posK LO.int xs k : Nat) : Int), Value.bool (hasK xs k)] (by kernel_rfl) (fun f5 => ?_)
  refine W.seq (fun K6 hK6 => ?_)
  refine W.region ?_
  refine Wl.run 1 (by kernel_rfl) ?_
  refine Wl.nil ?_
  refine hK6 _ _ _ ?_
  refine W.cond (hasK xs k) (by kernel_rfl) (fun h7 => ?_) (fun h8 => ?_)
  · refine W.seq (fun K9 hK9 => ?_)
    have hps_ := hasK_at dH hs h7
    refine W.region ?_
    refine Wl.run 3 (by kernel_rfl) ?_
    refine Wl.ys (v := Value.slice a xs.length cap) rfl rfl (Ys.ld (a := ⟨tb, 0, none⟩) rfl (by kernel_rfl) Try.isAgg136 (fun w_ h_ => by have x_ := (htb.mem0 h_).ld (q := 0) (v := Value.slice a xs.length cap) rfl; rw [ela_own0] at x_; exact x_)) ?_
    refine Wl.run 1 (by kernel_rfl) ?_
    refine Wl.ys (v := Value.pointer (some (ela a ((posK LO.int xs k) * 8)))) rfl rfl (Ys.byMem fun w_ h_ => Ys.indexAddr (k := .i64) (a := a) (len := xs.length) (cap := cap) (i := ((posK LO.int xs k : Nat) : Int)) (sz := 8) rfl (by kernel_rfl) (by kernel_rfl) Try.runUnderlying136 Try.sizeOf142 (by omega) (by omega) ((hls.mem0 h_).here (by rw [mm_len (g := prH) (sz := 8) (fun _ => rfl)]; first | omega | (simp; omega)))) ?_
    refine Wl.run 1 (by kernel_rfl) ?_
    refine Wl.ys (v := Value.agg ([Value.int .u8 (((xs.getD (posK LO.int xs k) dH).2).m0), Value.int .u8 (((xs.getD (posK LO.int xs k) dH).2).m1), Value.int .u8 (((xs.getD (posK LO.int xs k) dH).2).m2), Value.int .u8 (((xs.getD (posK LO.int xs k) dH).2).m3), Value.int .u8 (((xs.getD (posK LO.int xs k) dH).2).m4), Value.int .u8 (((xs.getD (posK LO.int xs k) dH).2).m5), Value.int .u64 (((xs.getD (posK LO.int xs k) dH).2).ends)]).toArray) rfl rfl (Ys.ldN (a := (ela a ((posK LO.int xs k) * 8)).add 1) (vs := [Value.int .u8 (((xs.getD (posK LO.int xs k) dH).2).m0), Value.int .u8 (((xs.getD (posK LO.int xs k) dH).2).m1), Value.int .u8 (((xs.getD (posK LO.int xs k) dH).2).m2), Value.int .u8 (((xs.getD (posK LO.int xs k) dH).2).m3), Value.int .u8 (((xs.getD (posK LO.int xs k) dH).2).m4), Value.int .u8 (((xs.getD (posK LO.int xs k) dH).2).m5), Value.int .u64 (((xs.getD (posK LO.int xs k) dH).2).ends)]) rfl (by kernel_rfl) Try.isAgg92 Try.sizeOf92 rfl (fun w_ h_ => (hls.mem0 h_).ldNF (mm_getP (g := prH) (sz := 8) (fun _ => rfl) dH (xs := xs) (k := posK LO.int xs k) (by omega) 1 7 rfl))) ?_
    refine Wl.ht rfl (Ht.storeN (b := p4) (o' := 0) (i := 0) (j := 0) (cs := [Value.int .u8 0, Value.int .u8 0, Value.int .u8 0, Value.int .u8 0, Value.int .u8 0, Value.int .u8 0, Value.int .u64 0]) (vs := [Value.int .u8 (((xs.getD (posK LO.int xs k) dH).2).m0), Value.int .u8 (((xs.getD (posK LO.int xs k) dH).2).m1), Value.int .u8 (((xs.getD (posK LO.int xs k) dH).2).m2), Value.int .u8 (((xs.getD (posK LO.int xs k) dH).2).m3), Value.int .u8 (((xs.getD (posK LO.int xs k) dH).2).m4), Value.int .u8 (((xs.getD (posK LO.int xs k) dH).2).m5), Value.int .u64 (((xs.getD (posK LO.int xs k) dH).2).ends)]) (cs' := [Value.int .u8 (((xs.getD (posK LO.int xs k) dH).2).m0), Value.int .u8 (((xs.getD (posK LO.int xs k) dH).2).m1), Value.int .u8 (((xs.getD (posK LO.int xs k) dH).2).m2), Value.int .u8 (((xs.getD (posK LO.int xs k) dH).2).m3), Value.int .u8 (((xs.getD (posK LO.int xs k) dH).2).m4), Value.int .u8 (((xs.getD (posK LO.int xs k) dH).2).m5), Value.int .u64 (((xs.getD (posK LO.int xs k) dH).2).ends)]) (LL' := [[cb p4 [Value.int .u8 (((xs.getD (posK LO.int xs k) dH).2).m0), Value.int .u8 (((xs.getD (posK LO.int xs k) dH).2).m1), Value.int .u8 (((xs.getD (posK LO.int xs k) dH).2).m2), Value.int .u8 (((xs.getD (posK LO.int xs k) dH).2).m3), Value.int .u8 (((xs.getD (posK LO.int xs k) dH).2).m4), Value.int .u8 (((xs.getD (posK LO.int xs k) dH).2).m5), Value.int .u64 (((xs.getD (posK LO.int xs k) dH).2).ends)] 92]]) rfl rfl (by kernel_rfl) (by kernel_rfl) Try.sizeOf92 (by simp [Value.oneCell']) rfl rfl (by simp) rfl rfl) (fun _ => ?_)
    refine Wl.run 1 (by kernel_rfl) ?_
    refine Wl.nil ?_
    refine hK9 _ _ _ ?_
    refine W.prune' [4, 5] [Value.pointer (some ⟨p4, 0, none⟩), Value.bool true] (by kernel_rfl) (fun f10 => ?_)
    refine W.ret ?_
    show ∀ w_, _ → bodyPostM (fence none) 0 Try.prog Try.f39 _ Exit.ret _ w_
    exact fun w_ hS_ => fin_ret (ret2 rfl (RV.cellN (b := p4) (o' := 0) (i := 0) (j := 0) (cs := [Value.int .u8 (((xs.getD (posK LO.int xs k) dH).2).m0), Value.int .u8 (((xs.getD (posK LO.int xs k) dH).2).m1), Value.int .u8 (((xs.getD (posK LO.int xs k) dH).2).m2), Value.int .u8 (((xs.getD (posK LO.int xs k) dH).2).m3), Value.int .u8 (((xs.getD (posK LO.int xs k) dH).2).m4), Value.int .u8 (((xs.getD (posK LO.int xs k) dH).2).m5), Value.int .u64 (((xs.getD (posK LO.int xs k) dH).2).ends)]) (vs := [Value.int .u8 (((xs.getD (posK LO.int xs k) dH).2).m0), Value.int .u8 (((xs.getD (posK LO.int xs k) dH).2).m1), Value.int .u8 (((xs.getD (posK LO.int xs k) dH).2).m2), Value.int .u8 (((xs.getD (posK LO.int xs k) dH).2).m3), Value.int .u8 (((xs.getD (posK LO.int xs k) dH).2).m4), Value.int .u8 (((xs.getD (posK LO.int xs k) dH).2).m5), Value.int .u64 (((xs.getD (posK LO.int xs k) dH).2).ends)]) (by kernel_rfl) Try.isAgg92 Try.sizeOf92 rfl rfl rfl rfl) (RV.tmp (v := Value.bool true) (by kernel_rfl)) hS_ ⟨by clear hK1 hK3 hK4 hK6 hK9; refine congrArg Ending.returned ?_; rw [get_has dH hs h7, h7]; try rfl, hS_.below⟩)
  · refine W.skip' ?_
    refine hK3 _ _ _ ?_
    refine W.prune' [4] [Value.pointer (some ⟨p4, 0, none⟩)] (by kernel_rfl) (fun f11 => ?_)
    refine W.seq (fun K12 hK12 => ?_)
    refine W.region ?_
    refine Wl.ys (v := Value.agg ([Value.int .u8 0, Value.int .u8 0, Value.int .u8 0, Value.int .u8 0, Value.int .u8 0, Value.int .u8 0, Value.int .u64 0]).toArray) rfl rfl (Ys.loadN (b := p4) (o' := 0) (i := 0) (j := 0) (cs := [Value.int .u8 0, Value.int .u8 0, Value.int .u8 0, Value.int .u8 0, Value.int .u8 0, Value.int .u8 0, Value.int .u64 0]) (vs := [Value.int .u8 0, Value.int .u8 0, Value.int .u8 0, Value.int .u8 0, Value.int .u8 0, Value.int .u8 0, Value.int .u64 0]) rfl (by kernel_rfl) Try.isAgg92 Try.sizeOf92 rfl rfl rfl rfl) ?_
    refine Wl.ht rfl (Ht.storeN (b := p4) (o' := 0) (i := 0) (j := 0) (cs := [Value.int .u8 0, Value.int .u8 0, Value.int .u8 0, Value.int .u8 0, Value.int .u8 0, Value.int .u8 0, Value.int .u64 0]) (vs := [Value.int .u8 0, Value.int .u8 0, Value.int .u8 0, Value.int .u8 0, Value.int .u8 0, Value.int .u8 0, Value.int .u64 0]) (cs' := [Value.int .u8 0, Value.int .u8 0, Value.int .u8 0, Value.int .u8 0, Value.int .u8 0, Value.int .u8 0, Value.int .u64 0]) (LL' := [[cb p4 [Value.int .u8 0, Value.int .u8 0, Value.int .u8 0, Value.int .u8 0, Value.int .u8 0, Value.int .u8 0, Value.int .u64 0] 92]]) rfl rfl (by kernel_rfl) (by kernel_rfl) Try.sizeOf92 (by simp [Value.oneCell']) rfl rfl (by simp) rfl rfl) (fun _ => ?_)
    refine Wl.run 1 (by kernel_rfl) ?_
    refine Wl.nil ?_
    refine hK12 _ _ _ ?_
    refine W.prune' [4, 5] [Value.pointer (some ⟨p4, 0, none⟩), Value.bool false] (by kernel_rfl) (fun f13 => ?_)
    refine W.ret ?_
    show ∀ w_, _ → bodyPostM (fence none) 0 Try.prog Try.f39 _ Exit.ret _ w_
    exact fun w_ hS_ => fin_ret (ret2 rfl (RV.cellN (b := p4) (o' := 0) (i := 0) (j := 0) (cs := [Value.int .u8 0, Value.int .u8 0, Value.int .u8 0, Value.int .u8 0, Value.int .u8 0, Value.int .u8 0, Value.int .u64 0]) (vs := [Value.int .u8 0, Value.int .u8 0, Value.int .u8 0, Value.int .u8 0, Value.int .u8 0, Value.int .u8 0, Value.int .u64 0]) (by kernel_rfl) Try.isAgg92 Try.sizeOf92 rfl rfl rfl rfl) (RV.tmp (v := Value.bool false) (by kernel_rfl)) hS_ ⟨by clear hK1 hK3 hK4 hK6 hK12; refine congrArg Ending.returned ?_; rw [get_not h8, h8]; try rfl, hS_.below⟩)

theorem newH_c (most : Int) (w : World) : Calls Try.prog 36 #[Value.int .i64 most, Value.func (.func 37) #[] #[]] w (RetM w (fun _ : Nat => True) (fun b => .pointer (some ⟨b, 0, none⟩)) [] (fun b => [[cb b [Value.slice none 0 0, Value.int .i64 (imax most 0), Value.func (.func 37) #[] #[]] 138]])) := by
  refine calls_W (M := []) (LL := []) (n := 10) Try.func36 rfl rfl (by simp) (Mem.refl _) ?_
  refine W.seq (fun K1 hK1 => ?_)
  refine W.region ?_
  refine Wl.run 1 (by kernel_rfl) ?_
  refine Wl.nil ?_
  refine hK1 _ _ _ ?_
  refine W.seq (fun K2 hK2 => ?_)
  refine W.region ?_
  refine Wl.run 4 (by kernel_rfl) ?_
  have hm3 := imax_bd most 0
  refine Wl.ht rfl (Ht.box (v := Value.agg ([Value.slice none 0 0, Value.int .i64 (imax most 0), Value.func (.func 37) #[] #[]]).toArray) (cs := [Value.slice none 0 0, Value.int .i64 (imax most 0), Value.func (.func 37) #[] #[]]) rfl rfl (by kernel_rfl) rfl) (fun p9 => ?_)
  refine Wl.run 1 (by kernel_rfl) ?_
  refine Wl.nil ?_
  refine hK2 _ _ _ ?_
  refine W.prune' [4] [Value.pointer (some ⟨p9, 0, none⟩)] (by kernel_rfl) (fun f4 => ?_)
  refine W.ret ?_
  show ∀ w_, _ → bodyPostM (fence none) 0 Try.prog Try.f36 _ Exit.ret _ w_
  exact fun w_ hS_ => fin_ret (ret1 rfl (RV.tmp (v := Value.pointer (some ⟨p9, 0, none⟩)) (by kernel_rfl)) hS_ ⟨p9, trivial, rfl, (hS_.pick [0] (by decide) rfl)⟩)

end Go.Proofs.Ytjkhmbigoloeiaa.Oct
