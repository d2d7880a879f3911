/-
  Frames. No condition.
-/
import Derived.Test.YtnhmajdpjapgjaaOct9
import Derived.Test.YtnhmajdpjapgjaaVG
set_option linter.unusedVariables false
set_option linter.unusedSimpArgs false
set_option maxRecDepth 20000
namespace Go.Proofs.Ytnhmajdpjapgjaa.Oct
open Go.RowKit Base
attribute [local irreducible] Ys Yc Ht HtIn Wl Wd W Mem pf dpf

/-- A frame's bytes, and the error's number. -/
def frB (ds ss : List UInt8) (k : Nat) (xs : List UInt8) : List UInt8 := if 1500 < xs.length then [] else if k < 1536 then [] else ds ++ ss ++ be 2 k ++ xs
def frE (k n : Nat) : Int := if 1500 < n then 14 else if k < 1536 then 1 else 0
theorem write_c (d0 d1 d2 d3 d4 d5 s0 s1 s2 s3 s4 s5 : UInt8) (k : Nat) (xs : List UInt8) (a : Option Addr) (cap : Nat) (w : World) (hat : At w a (byc xs)) (hk : k < 65536) (hl : xs.length ≤ 9223372036854775807) (hlc : xs.length ≤ cap) : Calls Try.prog 8 #[Value.agg ([Value.int .u8 ((d0.toNat : Nat) : Int), Value.int .u8 ((d1.toNat : Nat) : Int), Value.int .u8 ((d2.toNat : Nat) : Int), Value.int .u8 ((d3.toNat : Nat) : Int), Value.int .u8 ((d4.toNat : Nat) : Int), Value.int .u8 ((d5.toNat : Nat) : Int), Value.int .u8 ((s0.toNat : Nat) : Int), Value.int .u8 ((s1.toNat : Nat) : Int), Value.int .u8 ((s2.toNat : Nat) : Int), Value.int .u8 ((s3.toNat : Nat) : Int), Value.int .u8 ((s4.toNat : Nat) : Int), Value.int .u8 ((s5.toNat : Nat) : Int), Value.int .u16 ((k : Nat) : Int), Value.slice a xs.length cap]).toArray] w (RetM w (fun g : FS => g.ok 1 (frB [d0, d1, d2, d3, d4, d5] [s0, s1, s2, s3, s4, s5] k xs).length) (fun g => .tuple #[.slice g.a (frB [d0, d1, d2, d3, d4, d5] [s0, s1, s2, s3, s4, s5] k xs).length g.cap, .int .i64 (frE k xs.length)]) [] (fun g => [g.seg 5 (byc (frB [d0, d1, d2, d3, d4, d5] [s0, s1, s2, s3, s4, s5] k xs))])) := by
  refine calls_W (M := []) (LL := []) (n := 25) Try.func8 rfl rfl (by simp) (Mem.refl _) ?_
  refine W.seq (fun K1 hK1 => ?_)
  refine W.region ?_
  refine Wl.ht rfl (Ht.box (v := Value.agg ([Value.int .u8 ((d0.toNat : Nat) : Int), Value.int .u8 ((d1.toNat : Nat) : Int), Value.int .u8 ((d2.toNat : Nat) : Int), Value.int .u8 ((d3.toNat : Nat) : Int), Value.int .u8 ((d4.toNat : Nat) : Int), Value.int .u8 ((d5.toNat : Nat) : Int), Value.int .u8 ((s0.toNat : Nat) : Int), Value.int .u8 ((s1.toNat : Nat) : Int), Value.int .u8 ((s2.toNat : Nat) : Int), Value.int .u8 ((s3.toNat : Nat) : Int), Value.int .u8 ((s4.toNat : Nat) : Int), Value.int .u8 ((s5.toNat : Nat) : Int), Value.int .u16 ((k : Nat) : Int), Value.slice a xs.length cap]).toArray) (cs := [Value.int .u8 ((d0.toNat : Nat) : Int), Value.int .u8 ((d1.toNat : Nat) : Int), Value.int .u8 ((d2.toNat : Nat) : Int), Value.int .u8 ((d3.toNat : Nat) : Int), Value.int .u8 ((d4.toNat : Nat) : Int), Value.int .u8 ((d5.toNat : Nat) : Int), Value.int .u8 ((s0.toNat : Nat) : Int), Value.int .u8 ((s1.toNat : Nat) : Int), Value.int .u8 ((s2.toNat : Nat) : Int), Value.int .u8 ((s3.toNat : Nat) : Int), Value.int .u8 ((s4.toNat : Nat) : Int), Value.int .u8 ((s5.toNat : Nat) : Int), Value.int .u16 ((k : Nat) : Int), Value.slice a xs.length cap]) rfl rfl (by kernel_rfl) rfl) (fun p1 => ?_)
  refine Wl.run 2 (by kernel_rfl) ?_
  refine Wl.nil ?_
  refine hK1 _ _ _ ?_
  refine W.prune' [1] [Value.pointer (some ⟨p1, 0, none⟩)] (by kernel_rfl) (fun f2 => ?_)
  refine W.seq (fun K3 hK3 => ?_)
  refine W.block ?_
  refine W.seq (fun K4 hK4 => ?_)
  refine W.region ?_
  refine Wl.run 1 (by kernel_rfl) ?_
  refine Wl.ys (v := Value.slice a xs.length cap) rfl rfl (Ys.load (b := p1) (o' := 13) (i := 0) (j := 0) (cs := [Value.int .u8 ((d0.toNat : Nat) : Int), Value.int .u8 ((d1.toNat : Nat) : Int), Value.int .u8 ((d2.toNat : Nat) : Int), Value.int .u8 ((d3.toNat : Nat) : Int), Value.int .u8 ((d4.toNat : Nat) : Int), Value.int .u8 ((d5.toNat : Nat) : Int), Value.int .u8 ((s0.toNat : Nat) : Int), Value.int .u8 ((s1.toNat : Nat) : Int), Value.int .u8 ((s2.toNat : Nat) : Int), Value.int .u8 ((s3.toNat : Nat) : Int), Value.int .u8 ((s4.toNat : Nat) : Int), Value.int .u8 ((s5.toNat : Nat) : Int), Value.int .u16 ((k : Nat) : Int), Value.slice a xs.length cap]) (v := Value.slice a xs.length cap) rfl (by kernel_rfl) Try.isAgg27 rfl rfl rfl) ?_
  refine Wl.run 3 (by kernel_rfl) ?_
  refine Wl.nil ?_
  refine hK4 _ _ _ ?_
  refine W.prune' [1, 4] [Value.pointer (some ⟨p1, 0, none⟩), Value.bool (decide (((xs.length : Nat) : Int) > 1500))] (by kernel_rfl) (fun f5 => ?_)
  refine W.cond (decide (((xs.length : Nat) : Int) > 1500)) (by kernel_rfl) (fun h6 => ?_) (fun h7 => ?_)
  · have qh6 := h6; try simp only [Bool.and_eq_true, Bool.or_eq_true, Bool.not_eq_true', Bool.not_eq_false', Bool.and_eq_false_iff, Bool.or_eq_false_iff, decide_eq_true_eq, decide_eq_false_iff_not, beq_iff_eq, bne_iff_ne, beq_eq_false_iff_ne, bne_eq_false_iff_eq] at qh6
    refine W.seq (fun K8 hK8 => ?_)
    refine W.region ?_
    refine Wl.run 2 (by kernel_rfl) ?_
    refine Wl.nil ?_
    refine hK8 _ _ _ ?_
    refine W.pick (LL' := []) [] (by decide) rfl ?_
    refine W.prune' [2, 3] [Value.slice none 0 0, Value.int .i64 14] (by kernel_rfl) (fun f9 => ?_)
    refine W.ret ?_
    have hE : frE k xs.length = 14 := by unfold frE; first | rw [if_pos (by omega)] | rw [if_neg (by omega), if_pos (by omega)] | rw [if_neg (by omega), if_neg (by omega)]
    have hB : frB [d0, d1, d2, d3, d4, d5] [s0, s1, s2, s3, s4, s5] k xs = [] := by unfold frB; first | rw [if_pos (by omega)] | rw [if_neg (by omega), if_pos (by omega)] | rw [if_neg (by omega), if_neg (by omega)]
    show ∀ w_, _ → bodyPostM (fence none) 0 Try.prog Try.f8 _ Exit.ret _ w_
    exact fun w_ hS_ => fin_ret (ret2 rfl (RV.tmp (v := Value.slice none 0 0) (by kernel_rfl)) (RV.tmp (v := Value.int .i64 14) (by kernel_rfl)) hS_ ⟨FS.nul, (by rw [hB]; exact FS.nul_ok 1), congrArg Ending.returned ((by rw [hB, hE]; rfl)), (Mem.cast (by rw [hB]; rfl) (Mem.push (hS_.pick [] (by decide) rfl)))⟩)
  · have qh7 := h7; try simp only [Bool.and_eq_true, Bool.or_eq_true, Bool.not_eq_true', Bool.not_eq_false', Bool.and_eq_false_iff, Bool.or_eq_false_iff, decide_eq_true_eq, decide_eq_false_iff_not, beq_iff_eq, bne_iff_ne, beq_eq_false_iff_ne, bne_eq_false_iff_eq] at qh7
    refine W.seq (fun K10 hK10 => ?_)
    refine W.region ?_
    refine Wl.run 1 (by kernel_rfl) ?_
    refine Wl.ys (v := Value.int .u16 ((k : Nat) : Int)) rfl rfl (Ys.load (b := p1) (o' := 12) (i := 0) (j := 0) (cs := [Value.int .u8 ((d0.toNat : Nat) : Int), Value.int .u8 ((d1.toNat : Nat) : Int), Value.int .u8 ((d2.toNat : Nat) : Int), Value.int .u8 ((d3.toNat : Nat) : Int), Value.int .u8 ((d4.toNat : Nat) : Int), Value.int .u8 ((d5.toNat : Nat) : Int), Value.int .u8 ((s0.toNat : Nat) : Int), Value.int .u8 ((s1.toNat : Nat) : Int), Value.int .u8 ((s2.toNat : Nat) : Int), Value.int .u8 ((s3.toNat : Nat) : Int), Value.int .u8 ((s4.toNat : Nat) : Int), Value.int .u8 ((s5.toNat : Nat) : Int), Value.int .u16 ((k : Nat) : Int), Value.slice a xs.length cap]) (v := Value.int .u16 ((k : Nat) : Int)) rfl (by kernel_rfl) Try.isAgg26 rfl rfl rfl) ?_
    refine Wl.run 2 (by kernel_rfl) ?_
    refine Wl.nil ?_
    refine hK10 _ _ _ ?_
    refine W.prune' [1, 9] [Value.pointer (some ⟨p1, 0, none⟩), Value.bool (decide (((k : Nat) : Int) < 1536))] (by kernel_rfl) (fun f11 => ?_)
    refine W.cond (decide (((k : Nat) : Int) < 1536)) (by kernel_rfl) (fun h12 => ?_) (fun h13 => ?_)
    · have qh12 := h12; try simp only [Bool.and_eq_true, Bool.or_eq_true, Bool.not_eq_true', Bool.not_eq_false', Bool.and_eq_false_iff, Bool.or_eq_false_iff, decide_eq_true_eq, decide_eq_false_iff_not, beq_iff_eq, bne_iff_ne, beq_eq_false_iff_ne, bne_eq_false_iff_eq] at qh12
      refine W.seq (fun K14 hK14 => ?_)
      refine W.region ?_
      refine Wl.run 2 (by kernel_rfl) ?_
      refine Wl.nil ?_
      refine hK14 _ _ _ ?_
      refine W.pick (LL' := []) [] (by decide) rfl ?_
      refine W.prune' [2, 3] [Value.slice none 0 0, Value.int .i64 1] (by kernel_rfl) (fun f15 => ?_)
      refine W.ret ?_
      have hE : frE k xs.length = 1 := by unfold frE; first | rw [if_pos (by omega)] | rw [if_neg (by omega), if_pos (by omega)] | rw [if_neg (by omega), if_neg (by omega)]
      have hB : frB [d0, d1, d2, d3, d4, d5] [s0, s1, s2, s3, s4, s5] k xs = [] := by unfold frB; first | rw [if_pos (by omega)] | rw [if_neg (by omega), if_pos (by omega)] | rw [if_neg (by omega), if_neg (by omega)]
      show ∀ w_, _ → bodyPostM (fence none) 0 Try.prog Try.f8 _ Exit.ret _ w_
      exact fun w_ hS_ => fin_ret (ret2 rfl (RV.tmp (v := Value.slice none 0 0) (by kernel_rfl)) (RV.tmp (v := Value.int .i64 1) (by kernel_rfl)) hS_ ⟨FS.nul, (by rw [hB]; exact FS.nul_ok 1), congrArg Ending.returned ((by rw [hB, hE]; rfl)), (Mem.cast (by rw [hB]; rfl) (Mem.push (hS_.pick [] (by decide) rfl)))⟩)
    · have qh13 := h13; try simp only [Bool.and_eq_true, Bool.or_eq_true, Bool.not_eq_true', Bool.not_eq_false', Bool.and_eq_false_iff, Bool.or_eq_false_iff, decide_eq_true_eq, decide_eq_false_iff_not, beq_iff_eq, bne_iff_ne, beq_eq_false_iff_ne, bne_eq_false_iff_eq] at qh13
      refine W.skip' ?_
      refine hK3 _ _ _ ?_
      refine W.prune' [1] [Value.pointer (some ⟨p1, 0, none⟩)] (by kernel_rfl) (fun f16 => ?_)
      refine W.seq (fun K17 hK17 => ?_)
      refine W.draws [(0, true), (1, true), (2, true), (3, true), (4, true), (5, true), (6, true), (8, true), (9, true), (7, false), (10, false), (11, false), (12, false), (13, false)] [0, 1, 2, 3, 4, 5, 6, 8, 9] (Mem w [] [[cb p1 [Value.int .u8 ((d0.toNat : Nat) : Int), Value.int .u8 ((d1.toNat : Nat) : Int), Value.int .u8 ((d2.toNat : Nat) : Int), Value.int .u8 ((d3.toNat : Nat) : Int), Value.int .u8 ((d4.toNat : Nat) : Int), Value.int .u8 ((d5.toNat : Nat) : Int), Value.int .u8 ((s0.toNat : Nat) : Int), Value.int .u8 ((s1.toNat : Nat) : Int), Value.int .u8 ((s2.toNat : Nat) : Int), Value.int .u8 ((s3.toNat : Nat) : Int), Value.int .u8 ((s4.toNat : Nat) : Int), Value.int .u8 ((s5.toNat : Nat) : Int), Value.int .u16 ((k : Nat) : Int), Value.slice a xs.length cap] 29]]) (by kernel_rfl) (by kernel_rfl) (by kernel_rfl) rfl (by kernel_rfl) (fun _ _ h_ => h_.drawn _) (fun _ h_ => h_) ?_
      refine Wd.run 1 (by kernel_rfl) ?_
      refine Wd.ys (v := Value.slice (some ⟨p1, 0, none⟩) 6 6) rfl rfl rfl (Ys.sliceArrV (b := p1) (o' := 0) (len := 6) (sz := 1) rfl (by kernel_rfl) Try.runUnderlying24 Try.sizeOf5) ?_
      refine Wd.run 1 (by kernel_rfl) ?_
      refine Wd.ys (v := Value.slice (some ⟨p1, 6, none⟩) 6 6) rfl rfl rfl (Ys.sliceArrV (b := p1) (o' := 6) (len := 6) (sz := 1) rfl (by kernel_rfl) Try.runUnderlying24 Try.sizeOf5) ?_
      refine Wd.run 1 (by kernel_rfl) ?_
      refine Wd.ys (v := Value.int .u16 ((k : Nat) : Int)) rfl rfl rfl (Ys.load (b := p1) (o' := 12) (i := 0) (j := 0) (cs := [Value.int .u8 ((d0.toNat : Nat) : Int), Value.int .u8 ((d1.toNat : Nat) : Int), Value.int .u8 ((d2.toNat : Nat) : Int), Value.int .u8 ((d3.toNat : Nat) : Int), Value.int .u8 ((d4.toNat : Nat) : Int), Value.int .u8 ((d5.toNat : Nat) : Int), Value.int .u8 ((s0.toNat : Nat) : Int), Value.int .u8 ((s1.toNat : Nat) : Int), Value.int .u8 ((s2.toNat : Nat) : Int), Value.int .u8 ((s3.toNat : Nat) : Int), Value.int .u8 ((s4.toNat : Nat) : Int), Value.int .u8 ((s5.toNat : Nat) : Int), Value.int .u16 ((k : Nat) : Int), Value.slice a xs.length cap]) (v := Value.int .u16 ((k : Nat) : Int)) rfl (by kernel_rfl) Try.isAgg26 rfl rfl rfl) ?_
      refine Wd.ys (v := Value.int .u64 ((k : Nat) : Int)) rfl rfl rfl ((Ys.pure (v := .int .u64 (icnv .u64 ((k : Nat) : Int))) (fun _ => by kernel_rfl)).conseq (int_congr (wrap_u64 (by omega) (by omega)))) ?_
      refine Wd.run 1 (by kernel_rfl) ?_
      refine Wd.ys (v := Value.slice a xs.length cap) rfl rfl rfl (Ys.load (b := p1) (o' := 13) (i := 0) (j := 0) (cs := [Value.int .u8 ((d0.toNat : Nat) : Int), Value.int .u8 ((d1.toNat : Nat) : Int), Value.int .u8 ((d2.toNat : Nat) : Int), Value.int .u8 ((d3.toNat : Nat) : Int), Value.int .u8 ((d4.toNat : Nat) : Int), Value.int .u8 ((d5.toNat : Nat) : Int), Value.int .u8 ((s0.toNat : Nat) : Int), Value.int .u8 ((s1.toNat : Nat) : Int), Value.int .u8 ((s2.toNat : Nat) : Int), Value.int .u8 ((s3.toNat : Nat) : Int), Value.int .u8 ((s4.toNat : Nat) : Int), Value.int .u8 ((s5.toNat : Nat) : Int), Value.int .u16 ((k : Nat) : Int), Value.slice a xs.length cap]) (v := Value.slice a xs.length cap) rfl (by kernel_rfl) Try.isAgg27 rfl rfl rfl) ?_
      refine Wd.ht rfl rfl (Ht.call (β := FS) (k := 14) (args := #[Value.int .i64 2, Value.int .u64 ((k : Nat) : Int)]) (Lin := []) (Lk := [[cb p1 [Value.int .u8 ((d0.toNat : Nat) : Int), Value.int .u8 ((d1.toNat : Nat) : Int), Value.int .u8 ((d2.toNat : Nat) : Int), Value.int .u8 ((d3.toNat : Nat) : Int), Value.int .u8 ((d4.toNat : Nat) : Int), Value.int .u8 ((d5.toNat : Nat) : Int), Value.int .u8 ((s0.toNat : Nat) : Int), Value.int .u8 ((s1.toNat : Nat) : Int), Value.int .u8 ((s2.toNat : Nat) : Int), Value.int .u8 ((s3.toNat : Nat) : Int), Value.int .u8 ((s4.toNat : Nat) : Int), Value.int .u8 ((s5.toNat : Nat) : Int), Value.int .u16 ((k : Nat) : Int), Value.slice a xs.length cap] 29]]) (Mi := []) (Lo := fun g18 => [g18.seg 5 (mc b8 (be 2 k)), [cb p1 [Value.int .u8 ((d0.toNat : Nat) : Int), Value.int .u8 ((d1.toNat : Nat) : Int), Value.int .u8 ((d2.toNat : Nat) : Int), Value.int .u8 ((d3.toNat : Nat) : Int), Value.int .u8 ((d4.toNat : Nat) : Int), Value.int .u8 ((d5.toNat : Nat) : Int), Value.int .u8 ((s0.toNat : Nat) : Int), Value.int .u8 ((s1.toNat : Nat) : Int), Value.int .u8 ((s2.toNat : Nat) : Int), Value.int .u8 ((s3.toNat : Nat) : Int), Value.int .u8 ((s4.toNat : Nat) : Int), Value.int .u8 ((s5.toNat : Nat) : Int), Value.int .u16 ((k : Nat) : Int), Value.slice a xs.length cap] 29]]) [] [0] rfl (fun _ => by kernel_rfl) (by decide) rfl rfl rfl (fun w_ hm_ hl_ => num_c 2 k (by omega) _) (fun _ => rfl)) (.inr fun _ _ h_ => h_.pick [1] (by decide) rfl) (fun x21 => ?_)
      obtain ⟨g18, ok19, nn20⟩ := x21
      refine Wd.castL (LL' := [g18.seg 5 (mc b8 (be 2 k)), [cb p1 [Value.int .u8 ((d0.toNat : Nat) : Int), Value.int .u8 ((d1.toNat : Nat) : Int), Value.int .u8 ((d2.toNat : Nat) : Int), Value.int .u8 ((d3.toNat : Nat) : Int), Value.int .u8 ((d4.toNat : Nat) : Int), Value.int .u8 ((d5.toNat : Nat) : Int), Value.int .u8 ((s0.toNat : Nat) : Int), Value.int .u8 ((s1.toNat : Nat) : Int), Value.int .u8 ((s2.toNat : Nat) : Int), Value.int .u8 ((s3.toNat : Nat) : Int), Value.int .u8 ((s4.toNat : Nat) : Int), Value.int .u8 ((s5.toNat : Nat) : Int), Value.int .u16 ((k : Nat) : Int), Value.slice a xs.length cap] 29]]) rfl ?_
      refine Wd.ht rfl rfl (Ht.made (mk := fun b_ => .slice (some ⟨b_, 0, none⟩) 4 4) (t := 27) (cs := [Value.slice (some ⟨p1, 0, none⟩) 6 6, Value.slice (some ⟨p1, 6, none⟩) 6 6, Value.slice g18.a 2 g18.cap, Value.slice a xs.length cap]) rfl (fun _ => by kernel_rfl)) (.inr fun _ _ h_ => h_.pick [2] (by decide) rfl) (fun p23 => ?_)
      refine Wd.ht rfl rfl (Ht.call (β := FS) (k := 13) (args := #[Value.slice (some ⟨p23, 0, none⟩) 4 4]) (Lin := []) (Lk := [[cb p23 [Value.slice (some ⟨p1, 0, none⟩) 6 6, Value.slice (some ⟨p1, 6, none⟩) 6 6, Value.slice g18.a 2 g18.cap, Value.slice a xs.length cap] 27], g18.seg 5 (mc b8 (be 2 k)), [cb p1 [Value.int .u8 ((d0.toNat : Nat) : Int), Value.int .u8 ((d1.toNat : Nat) : Int), Value.int .u8 ((d2.toNat : Nat) : Int), Value.int .u8 ((d3.toNat : Nat) : Int), Value.int .u8 ((d4.toNat : Nat) : Int), Value.int .u8 ((d5.toNat : Nat) : Int), Value.int .u8 ((s0.toNat : Nat) : Int), Value.int .u8 ((s1.toNat : Nat) : Int), Value.int .u8 ((s2.toNat : Nat) : Int), Value.int .u8 ((s3.toNat : Nat) : Int), Value.int .u8 ((s4.toNat : Nat) : Int), Value.int .u8 ((s5.toNat : Nat) : Int), Value.int .u16 ((k : Nat) : Int), Value.slice a xs.length cap] 29]]) (Mi := []) (Lo := fun g22 => [g22.seg 5 (mc b8 ([d0, d1, d2, d3, d4, d5] ++ [s0, s1, s2, s3, s4, s5] ++ (be 2 k) ++ xs)), [cb p23 [Value.slice (some ⟨p1, 0, none⟩) 6 6, Value.slice (some ⟨p1, 6, none⟩) 6 6, Value.slice g18.a 2 g18.cap, Value.slice a xs.length cap] 27], g18.seg 5 (mc b8 (be 2 k)), [cb p1 [Value.int .u8 ((d0.toNat : Nat) : Int), Value.int .u8 ((d1.toNat : Nat) : Int), Value.int .u8 ((d2.toNat : Nat) : Int), Value.int .u8 ((d3.toNat : Nat) : Int), Value.int .u8 ((d4.toNat : Nat) : Int), Value.int .u8 ((d5.toNat : Nat) : Int), Value.int .u8 ((s0.toNat : Nat) : Int), Value.int .u8 ((s1.toNat : Nat) : Int), Value.int .u8 ((s2.toNat : Nat) : Int), Value.int .u8 ((s3.toNat : Nat) : Int), Value.int .u8 ((s4.toNat : Nat) : Int), Value.int .u8 ((s5.toNat : Nat) : Int), Value.int .u16 ((k : Nat) : Int), Value.slice a xs.length cap] 29]]) [] [0, 1, 2] rfl (fun _ => by kernel_rfl) (by decide) rfl rfl rfl (fun w_ hm_ hl_ => (ojoinn_c [⟨some ⟨p1, 0, none⟩, [d0, d1, d2, d3, d4, d5], 6⟩, ⟨some ⟨p1, 6, none⟩, [s0, s1, s2, s3, s4, s5], 6⟩, ⟨g18.a, (be 2 k), g18.cap⟩, ⟨a, xs, cap⟩] ([d0, d1, d2, d3, d4, d5] ++ [s0, s1, s2, s3, s4, s5] ++ (be 2 k) ++ xs) (some ⟨p23, 0, none⟩) 4 4 (6 + 6 + 2 + xs.length) _ rfl (by simp [jn]) (by simp [be_len]; try omega) (by first | exact At.lit0 (i := 0) (j := 0) (t := 27) (b := p23) hm_ rfl rfl | (rw [show mc slv ([⟨some ⟨p1, 0, none⟩, [d0, d1, d2, d3, d4, d5], 6⟩, ⟨some ⟨p1, 6, none⟩, [s0, s1, s2, s3, s4, s5], 6⟩, ⟨g18.a, (be 2 k), g18.cap⟩, ⟨a, xs, cap⟩] : List SV) = [Value.slice (some ⟨p1, 0, none⟩) 6 6, Value.slice (some ⟨p1, 6, none⟩) 6 6, Value.slice g18.a 2 g18.cap, Value.slice a xs.length cap] by (simp [mc, be_len]; try omega)]; exact At.lit0 (i := 0) (j := 0) (t := 27) (b := p23) hm_ rfl rfl)) (List.forall_mem_cons.2 ⟨(At.own (i := 2) (j := 0) (t := 29) (b := p1) (k := 0) (xs := [Value.int .u8 ((d0.toNat : Nat) : Int), Value.int .u8 ((d1.toNat : Nat) : Int), Value.int .u8 ((d2.toNat : Nat) : Int), Value.int .u8 ((d3.toNat : Nat) : Int), Value.int .u8 ((d4.toNat : Nat) : Int), Value.int .u8 ((d5.toNat : Nat) : Int), Value.int .u8 ((s0.toNat : Nat) : Int), Value.int .u8 ((s1.toNat : Nat) : Int), Value.int .u8 ((s2.toNat : Nat) : Int), Value.int .u8 ((s3.toNat : Nat) : Int), Value.int .u8 ((s4.toNat : Nat) : Int), Value.int .u8 ((s5.toNat : Nat) : Int), Value.int .u16 ((k : Nat) : Int), Value.slice a xs.length cap]) hm_ rfl rfl (lit_sub (sz := 6) rfl)), (List.forall_mem_cons.2 ⟨(At.own (i := 2) (j := 0) (t := 29) (b := p1) (k := 6) (xs := [Value.int .u8 ((d0.toNat : Nat) : Int), Value.int .u8 ((d1.toNat : Nat) : Int), Value.int .u8 ((d2.toNat : Nat) : Int), Value.int .u8 ((d3.toNat : Nat) : Int), Value.int .u8 ((d4.toNat : Nat) : Int), Value.int .u8 ((d5.toNat : Nat) : Int), Value.int .u8 ((s0.toNat : Nat) : Int), Value.int .u8 ((s1.toNat : Nat) : Int), Value.int .u8 ((s2.toNat : Nat) : Int), Value.int .u8 ((s3.toNat : Nat) : Int), Value.int .u8 ((s4.toNat : Nat) : Int), Value.int .u8 ((s5.toNat : Nat) : Int), Value.int .u16 ((k : Nat) : Int), Value.slice a xs.length cap]) hm_ rfl rfl (lit_sub (sz := 6) rfl)), (List.forall_mem_cons.2 ⟨(FS.at (i := 1) (t := 5) hm_ rfl (FS.nil_cs ok19 (by rw [mc_len, be_len, Nat.mul_one]; rfl))), (List.forall_mem_cons.2 ⟨(hat.mem0 hm_), (fun _ h => by cases h)⟩)⟩)⟩)⟩) (by first | omega | (simp [be_len]; omega)) (by simp) (by simp))) (fun _ => rfl)) (.inr fun _ _ h_ => h_.pick [3] (by decide) rfl) (fun x25 => ?_)
      obtain ⟨g22, ok23, nn24⟩ := x25
      refine Wd.castL (LL' := [g22.seg 5 (mc b8 ([d0, d1, d2, d3, d4, d5] ++ [s0, s1, s2, s3, s4, s5] ++ (be 2 k) ++ xs)), [cb p23 [Value.slice (some ⟨p1, 0, none⟩) 6 6, Value.slice (some ⟨p1, 6, none⟩) 6 6, Value.slice g18.a 2 g18.cap, Value.slice a xs.length cap] 27], g18.seg 5 (mc b8 (be 2 k)), [cb p1 [Value.int .u8 ((d0.toNat : Nat) : Int), Value.int .u8 ((d1.toNat : Nat) : Int), Value.int .u8 ((d2.toNat : Nat) : Int), Value.int .u8 ((d3.toNat : Nat) : Int), Value.int .u8 ((d4.toNat : Nat) : Int), Value.int .u8 ((d5.toNat : Nat) : Int), Value.int .u8 ((s0.toNat : Nat) : Int), Value.int .u8 ((s1.toNat : Nat) : Int), Value.int .u8 ((s2.toNat : Nat) : Int), Value.int .u8 ((s3.toNat : Nat) : Int), Value.int .u8 ((s4.toNat : Nat) : Int), Value.int .u8 ((s5.toNat : Nat) : Int), Value.int .u16 ((k : Nat) : Int), Value.slice a xs.length cap] 29]]) rfl ?_
      refine Wd.yc (v := Value.slice g22.a (6 + 6 + 2 + xs.length) g22.cap) rfl rfl rfl (Ys.yc (Ys.pure (fun _ => by kernel_rfl))) (.inl (by kernel_rfl)) ?_
      refine Wd.yc (v := Value.int .i64 0) rfl rfl rfl (Ys.yc (Ys.pure (fun _ => by kernel_rfl))) (.inl (by kernel_rfl)) ?_
      refine Wd.nil ?_
      refine hK17 _ _ _ ?_
      refine W.pick (LL' := [g22.seg 5 (mc b8 ([d0, d1, d2, d3, d4, d5] ++ [s0, s1, s2, s3, s4, s5] ++ (be 2 k) ++ xs))]) [0] (by decide) rfl ?_
      refine W.prune' [2, 3] [Value.slice g22.a (6 + 6 + 2 + xs.length) g22.cap, Value.int .i64 0] (by kernel_rfl) (fun f26 => ?_)
      refine W.ret ?_
      have hE : frE k xs.length = 0 := by unfold frE; first | rw [if_pos (by omega)] | rw [if_neg (by omega), if_pos (by omega)] | rw [if_neg (by omega), if_neg (by omega)]
      have hB : frB [d0, d1, d2, d3, d4, d5] [s0, s1, s2, s3, s4, s5] k xs = [d0, d1, d2, d3, d4, d5] ++ [s0, s1, s2, s3, s4, s5] ++ (be 2 k) ++ xs := by unfold frB; first | rw [if_pos (by omega)] | rw [if_neg (by omega), if_pos (by omega)] | rw [if_neg (by omega), if_neg (by omega)]
      have hn : (frB [d0, d1, d2, d3, d4, d5] [s0, s1, s2, s3, s4, s5] k xs).length = (6 + 6 + 2 + xs.length) := by rw [hB]; simp [be_len]; try omega
      show ∀ w_, _ → bodyPostM (fence none) 0 Try.prog Try.f8 _ Exit.ret _ w_
      exact fun w_ hS_ => fin_ret (ret2 rfl (RV.tmp (v := Value.slice g22.a (6 + 6 + 2 + xs.length) g22.cap) (by kernel_rfl)) (RV.tmp (v := Value.int .i64 0) (by kernel_rfl)) hS_ ⟨g22, (by rw [hn]; exact ok23), congrArg Ending.returned ((by rw [hn, hE])), (Mem.cast (by rw [hB]; rfl) (hS_.pick [0] (by decide) rfl))⟩)

theorem writen_c (d0 d1 d2 d3 d4 d5 s0 s1 s2 s3 s4 s5 : UInt8) (k : Nat) (xs : List UInt8) (a : Option Addr) (cap : Nat) (len : Nat) (w : World) (hn : len = xs.length) (hat : At w a (byc xs)) (hk : k < 65536) (hl : xs.length ≤ 9223372036854775807) (hlc : xs.length ≤ cap)  : Calls Try.prog 8 #[Value.agg ([Value.int .u8 ((d0.toNat : Nat) : Int), Value.int .u8 ((d1.toNat : Nat) : Int), Value.int .u8 ((d2.toNat : Nat) : Int), Value.int .u8 ((d3.toNat : Nat) : Int), Value.int .u8 ((d4.toNat : Nat) : Int), Value.int .u8 ((d5.toNat : Nat) : Int), Value.int .u8 ((s0.toNat : Nat) : Int), Value.int .u8 ((s1.toNat : Nat) : Int), Value.int .u8 ((s2.toNat : Nat) : Int), Value.int .u8 ((s3.toNat : Nat) : Int), Value.int .u8 ((s4.toNat : Nat) : Int), Value.int .u8 ((s5.toNat : Nat) : Int), Value.int .u16 ((k : Nat) : Int), Value.slice a len cap]).toArray] w (RetM w (fun g : FS => g.ok 1 (frB [d0, d1, d2, d3, d4, d5] [s0, s1, s2, s3, s4, s5] k xs).length) (fun g => .tuple #[.slice g.a (frB [d0, d1, d2, d3, d4, d5] [s0, s1, s2, s3, s4, s5] k xs).length g.cap, .int .i64 (frE k xs.length)]) [] (fun g => [g.seg 5 (byc (frB [d0, d1, d2, d3, d4, d5] [s0, s1, s2, s3, s4, s5] k xs))])) := by
  subst hn; exact write_c d0 d1 d2 d3 d4 d5 s0 s1 s2 s3 s4 s5 k xs a cap w hat hk hl hlc

theorem rep_step {k : Nat} (h : k < 6) : (List.replicate k (255 : UInt8) ++ List.replicate (6 - k) 0).set k 255 = List.replicate (k + 1) 255 ++ List.replicate (6 - (k + 1)) 0 := by
  match k, h with
  | 0, _ => rfl
  | 1, _ => rfl
  | 2, _ => rfl
  | 3, _ => rfl
  | 4, _ => rfl
  | 5, _ => rfl
theorem all_c  (w : World) : Calls Try.prog 7 #[] w (Ret w (.agg #[.int .u8 255, .int .u8 255, .int .u8 255, .int .u8 255, .int .u8 255, .int .u8 255])) := by
  refine calls_W (M := []) (LL := []) (n := 9) Try.func7 rfl rfl (by simp) (Mem.refl _) ?_
  refine W.seq (fun K1 hK1 => ?_)
  refine W.region ?_
  refine Wl.ht rfl (Ht.alloc (z := Value.agg ([Value.int .u8 0, Value.int .u8 0, Value.int .u8 0, Value.int .u8 0, Value.int .u8 0, Value.int .u8 0]).toArray) (cs := [Value.int .u8 0, Value.int .u8 0, Value.int .u8 0, Value.int .u8 0, Value.int .u8 0, Value.int .u8 0]) rfl rfl Try.zeroValue24 rfl) (fun p0 => ?_)
  refine Wl.nil ?_
  refine hK1 _ _ _ ?_
  refine W.seq (fun K2 hK2 => ?_)
  refine W.seq (fun K3 hK3 => ?_)
  refine W.region ?_
  refine Wl.run 1 (by kernel_rfl) ?_
  refine Wl.nil ?_
  refine hK3 _ _ _ ?_
  refine W.block ?_
  refine W.loop1 [0, 2] (fun (k : Nat) => [Value.pointer (some ⟨p0, 0, none⟩), Value.int .i64 ((k : Nat) : Int)]) (fun (k : Nat) => k ≤ 6) (fun (k : Nat) => [[cb p0 (mc b8 (List.replicate k (255 : UInt8) ++ List.replicate (6 - k) (0 : UInt8))) 24]]) (fun (k : Nat) => 6 - k) 0 (by kernel_rfl) (by first | omega | trivial | simp) (by rfl) (fun k f5 J4 hp6 hJ4 => ?_)
  have hk := hp6
  refine W.seq (fun K7 hK7 => ?_)
  refine W.region ?_
  refine Wl.run 1 (by kernel_rfl) ?_
  refine Wl.nil ?_
  refine hK7 _ _ _ ?_
  refine W.seq (fun K8 hK8 => ?_)
  refine W.cond (decide (((k : Nat) : Int) < 6)) (by kernel_rfl) (fun h9 => ?_) (fun h10 => ?_)
  · have qh9 := h9; try simp only [Bool.and_eq_true, Bool.or_eq_true, Bool.not_eq_true', Bool.not_eq_false', Bool.and_eq_false_iff, Bool.or_eq_false_iff, decide_eq_true_eq, decide_eq_false_iff_not, beq_iff_eq, bne_iff_ne, beq_eq_false_iff_ne, bne_eq_false_iff_eq] at qh9
    refine W.skip' ?_
    refine hK8 _ _ _ ?_
    refine W.prune' [0, 2] [Value.pointer (some ⟨p0, 0, none⟩), Value.int .i64 ((k : Nat) : Int)] (by kernel_rfl) (fun f11 => ?_)
    refine W.seq (fun K12 hK12 => ?_)
    refine W.block ?_
    refine W.seq (fun K13 hK13 => ?_)
    refine W.region ?_
    refine Wl.run 2 (by kernel_rfl) ?_
    refine Wl.nil ?_
    refine hK13 _ _ _ ?_
    refine W.prune' [0, 1, 2] [Value.pointer (some ⟨p0, 0, none⟩), Value.int .i64 ((k : Nat) : Int), Value.int .i64 ((k : Nat) : Int)] (by kernel_rfl) (fun f14 => ?_)
    refine W.region ?_
    refine Wl.run 1 (by kernel_rfl) ?_
    refine Wl.ys (v := Value.pointer (some ⟨p0, k * 1, none⟩)) rfl rfl ((Ys.indexArr (k := .i64) (i := ((k : Nat) : Int)) (sz := 1) rfl (by kernel_rfl) (by kernel_rfl) Try.runUnderlying24 Try.sizeOf5 (by omega) (by omega)).conseq (by rw [Nat.zero_add]; try rfl)) ?_
    refine Wl.ht rfl (Ht.store (b := p0) (o' := k * 1) (i := 0) (j := 0) (cs := mc b8 (List.replicate k (255 : UInt8) ++ List.replicate (6 - k) (0 : UInt8))) (cs' := mc b8 ((List.replicate k (255 : UInt8) ++ List.replicate (6 - k) (0 : UInt8)).set k (255 : UInt8))) (v := Value.int .u8 255) (LL' := [[cb p0 (mc b8 ((List.replicate k (255 : UInt8) ++ List.replicate (6 - k) (0 : UInt8)).set k (255 : UInt8))) 24]]) rfl rfl (by kernel_rfl) (by kernel_rfl) Try.sizeOf5 rfl rfl rfl (by simp [mc]; omega) (mc_set1 (g := b8) (List.replicate k (255 : UInt8) ++ List.replicate (6 - k) (0 : UInt8)) k (255 : UInt8)) rfl) (fun _ => ?_)
    refine Wl.nil ?_
    refine hK12 _ _ _ ?_
    refine W.prune' [0, 2] [Value.pointer (some ⟨p0, 0, none⟩), Value.int .i64 ((k : Nat) : Int)] (by kernel_rfl) (fun f15 => ?_)
    refine W.region ?_
    refine Wl.ys (v := Value.int .i64 ((k + 1 : Nat) : Int)) rfl rfl ((Ys.pure (v := .int .i64 (iadd .i64 ((k : Nat) : Int) 1)) (fun _ => by kernel_rfl)).conseq (int_congr (iadd_eq (by omega) (by omega) (by omega)))) ?_
    refine Wl.run 1 (by kernel_rfl) ?_
    refine Wl.nil ?_
    refine fun w_ h_ => hJ4 (k + 1) _ w_ (by omega) (by first | omega | trivial | simp) ?_ (Mem.cast (LL := [[cb p0 (mc b8 ((List.replicate k (255 : UInt8) ++ List.replicate (6 - k) (0 : UInt8)).set k (255 : UInt8))) 24]]) (by rw [rep_step (by omega)]) h_)
    kernel_rfl
  · have qh10 := h10; try simp only [Bool.and_eq_true, Bool.or_eq_true, Bool.not_eq_true', Bool.not_eq_false', Bool.and_eq_false_iff, Bool.or_eq_false_iff, decide_eq_true_eq, decide_eq_false_iff_not, beq_iff_eq, bne_iff_ne, beq_eq_false_iff_ne, bne_eq_false_iff_eq] at qh10
    refine W.exit ?_
    refine hK2 _ _ _ ?_
    refine W.prune' [0] [Value.pointer (some ⟨p0, 0, none⟩)] (by kernel_rfl) (fun f16 => ?_)
    refine W.seq (fun K17 hK17 => ?_)
    have hk6 : k = 6 := by omega
    refine W.pick (LL' := [[cb p0 [Value.int .u8 255, Value.int .u8 255, Value.int .u8 255, Value.int .u8 255, Value.int .u8 255, Value.int .u8 255] 24]]) [0] (by decide) (by rw [hk6]; rfl) ?_
    refine W.region ?_
    refine Wl.ys (v := Value.agg ([Value.int .u8 255, Value.int .u8 255, Value.int .u8 255, Value.int .u8 255, Value.int .u8 255, Value.int .u8 255]).toArray) rfl rfl (Ys.loadN (b := p0) (o' := 0) (i := 0) (j := 0) (cs := [Value.int .u8 255, Value.int .u8 255, Value.int .u8 255, Value.int .u8 255, Value.int .u8 255, Value.int .u8 255]) (vs := [Value.int .u8 255, Value.int .u8 255, Value.int .u8 255, Value.int .u8 255, Value.int .u8 255, Value.int .u8 255]) rfl (by kernel_rfl) Try.isAgg24 Try.sizeOf24 rfl rfl rfl rfl) ?_
    refine Wl.ht rfl (Ht.storeN (b := p0) (o' := 0) (i := 0) (j := 0) (cs := [Value.int .u8 255, Value.int .u8 255, Value.int .u8 255, Value.int .u8 255, Value.int .u8 255, Value.int .u8 255]) (vs := [Value.int .u8 255, Value.int .u8 255, Value.int .u8 255, Value.int .u8 255, Value.int .u8 255, Value.int .u8 255]) (cs' := [Value.int .u8 255, Value.int .u8 255, Value.int .u8 255, Value.int .u8 255, Value.int .u8 255, Value.int .u8 255]) (LL' := [[cb p0 [Value.int .u8 255, Value.int .u8 255, Value.int .u8 255, Value.int .u8 255, Value.int .u8 255, Value.int .u8 255] 24]]) rfl rfl (by kernel_rfl) (by kernel_rfl) Try.sizeOf24 (by simp [Value.oneCell']) rfl rfl (by simp) rfl rfl) (fun _ => ?_)
    refine Wl.nil ?_
    refine hK17 _ _ _ ?_
    refine W.prune' [0] [Value.pointer (some ⟨p0, 0, none⟩)] (by kernel_rfl) (fun f18 => ?_)
    refine W.ret ?_
    show ∀ w_, _ → bodyPostM (fence none) 0 Try.prog Try.f7 _ Exit.ret _ w_
    exact fun w_ hS_ => fin_ret (ret1 rfl (RV.cellN (b := p0) (o' := 0) (i := 0) (j := 0) (cs := [Value.int .u8 255, Value.int .u8 255, Value.int .u8 255, Value.int .u8 255, Value.int .u8 255, Value.int .u8 255]) (vs := [Value.int .u8 255, Value.int .u8 255, Value.int .u8 255, Value.int .u8 255, Value.int .u8 255, Value.int .u8 255]) (by kernel_rfl) Try.isAgg24 Try.sizeOf24 rfl rfl rfl rfl) hS_ ⟨rfl, hS_.below⟩)

theorem speaks3_c  (w : World) : Calls Try.prog 6 #[] w (Ret w (.bool true)) := by
  refine calls_W (M := []) (LL := []) (n := 32) Try.func6 rfl rfl (by simp) (Mem.refl _) ?_
  refine W.seq (fun K1 hK1 => ?_)
  refine W.region ?_
  refine Wl.run 1 (by kernel_rfl) ?_
  refine Wl.nil ?_
  refine hK1 _ _ _ ?_
  refine W.seq (fun K2 hK2 => ?_)
  refine W.region ?_
  refine Wl.run 1 (by kernel_rfl) ?_
  refine Wl.ht rfl (Ht.call (β := FS) (k := 8) (args := #[Value.agg ([Value.int .u8 0, Value.int .u8 0, Value.int .u8 0, Value.int .u8 0, Value.int .u8 0, Value.int .u8 0, Value.int .u8 0, Value.int .u8 0, Value.int .u8 0, Value.int .u8 0, Value.int .u8 0, Value.int .u8 0, Value.int .u16 2054, Value.slice none 0 0]).toArray]) (Lin := []) (Lk := []) (Mi := []) (Lo := fun g3 => [g3.seg 5 (mc b8 (frB [(0 : UInt8), (0 : UInt8), (0 : UInt8), (0 : UInt8), (0 : UInt8), (0 : UInt8)] [(0 : UInt8), (0 : UInt8), (0 : UInt8), (0 : UInt8), (0 : UInt8), (0 : UInt8)] 2054 []))]) [] [] rfl (fun _ => by kernel_rfl) (by decide) rfl rfl rfl (fun w_ hm_ hl_ => (writen_c (0 : UInt8) (0 : UInt8) (0 : UInt8) (0 : UInt8) (0 : UInt8) (0 : UInt8) (0 : UInt8) (0 : UInt8) (0 : UInt8) (0 : UInt8) (0 : UInt8) (0 : UInt8) 2054 [] none 0 0 _ (by first | rfl | (simp; done)) (At.nil _ _) (by omega) (by first | omega | (simp; done) | (simp; omega)) (by first | omega | (simp; done) | (simp; omega)))) (fun _ => rfl)) (fun x5 => ?_)
  obtain ⟨g3, ok4⟩ := x5
  refine Wl.castL (LL' := [g3.seg 5 (mc b8 (frB [(0 : UInt8), (0 : UInt8), (0 : UInt8), (0 : UInt8), (0 : UInt8), (0 : UInt8)] [(0 : UInt8), (0 : UInt8), (0 : UInt8), (0 : UInt8), (0 : UInt8), (0 : UInt8)] 2054 []))]) rfl ?_
  refine Wl.run 5 (by kernel_rfl) ?_
  refine Wl.nil ?_
  refine hK2 _ _ _ ?_
  refine W.prune' [1, 2] [Value.slice g3.a ((frB [(0 : UInt8), (0 : UInt8), (0 : UInt8), (0 : UInt8), (0 : UInt8), (0 : UInt8)] [(0 : UInt8), (0 : UInt8), (0 : UInt8), (0 : UInt8), (0 : UInt8), (0 : UInt8)] 2054 []).length) g3.cap, Value.int .i64 (frE 2054 0)] (by kernel_rfl) (fun f6 => ?_)
  refine W.seq (fun K7 hK7 => ?_)
  refine W.region ?_
  refine Wl.run 3 (by kernel_rfl) ?_
  refine Wl.guard (v := Value.slice g3.a ((frB [(0 : UInt8), (0 : UInt8), (0 : UInt8), (0 : UInt8), (0 : UInt8), (0 : UInt8)] [(0 : UInt8), (0 : UInt8), (0 : UInt8), (0 : UInt8), (0 : UInt8), (0 : UInt8)] 2054 []).length) g3.cap) ((frE 2054 0) == 0) rfl (wantT rfl (by kernel_rfl)) rfl (fun hg8 => ?_) ?_
  · have qhg8 := hg8; try simp only [Bool.and_eq_true, Bool.or_eq_true, Bool.not_eq_true', Bool.not_eq_false', Bool.and_eq_false_iff, Bool.or_eq_false_iff, decide_eq_true_eq, decide_eq_false_iff_not, beq_iff_eq, bne_iff_ne, beq_eq_false_iff_ne, bne_eq_false_iff_eq] at qhg8
    exact Ys.pure (fun _ => by kernel_rfl)
  refine Wl.guard (v := Value.int .i64 (((frB [(0 : UInt8), (0 : UInt8), (0 : UInt8), (0 : UInt8), (0 : UInt8), (0 : UInt8)] [(0 : UInt8), (0 : UInt8), (0 : UInt8), (0 : UInt8), (0 : UInt8), (0 : UInt8)] 2054 []).length : Nat) : Int)) ((frE 2054 0) == 0) rfl (wantT rfl (by kernel_rfl)) rfl (fun hg9 => ?_) ?_
  · have qhg9 := hg9; try simp only [Bool.and_eq_true, Bool.or_eq_true, Bool.not_eq_true', Bool.not_eq_false', Bool.and_eq_false_iff, Bool.or_eq_false_iff, decide_eq_true_eq, decide_eq_false_iff_not, beq_iff_eq, bne_iff_ne, beq_eq_false_iff_ne, bne_eq_false_iff_eq] at qhg9
    refine Ys.at (t := 11) (v0 := Value.slice g3.a ((frB [(0 : UInt8), (0 : UInt8), (0 : UInt8), (0 : UInt8), (0 : UInt8), (0 : UInt8)] [(0 : UInt8), (0 : UInt8), (0 : UInt8), (0 : UInt8), (0 : UInt8), (0 : UInt8)] 2054 []).length) g3.cap) (lz (g := (frE 2054 0) == 0) (u := undef) hg9 (by kernel_rfl)) ?_
    exact Ys.pure (fun _ => by kernel_rfl)
  refine Wl.guard (v := Value.bool ((((frB [(0 : UInt8), (0 : UInt8), (0 : UInt8), (0 : UInt8), (0 : UInt8), (0 : UInt8)] [(0 : UInt8), (0 : UInt8), (0 : UInt8), (0 : UInt8), (0 : UInt8), (0 : UInt8)] 2054 []).length : Nat) : Int) == 14)) ((frE 2054 0) == 0) rfl (wantT rfl (by kernel_rfl)) rfl (fun hg10 => ?_) ?_
  · have qhg10 := hg10; try simp only [Bool.and_eq_true, Bool.or_eq_true, Bool.not_eq_true', Bool.not_eq_false', Bool.and_eq_false_iff, Bool.or_eq_false_iff, decide_eq_true_eq, decide_eq_false_iff_not, beq_iff_eq, bne_iff_ne, beq_eq_false_iff_ne, bne_eq_false_iff_eq] at qhg10
    refine Ys.at (t := 12) (v0 := Value.int .i64 (((frB [(0 : UInt8), (0 : UInt8), (0 : UInt8), (0 : UInt8), (0 : UInt8), (0 : UInt8)] [(0 : UInt8), (0 : UInt8), (0 : UInt8), (0 : UInt8), (0 : UInt8), (0 : UInt8)] 2054 []).length : Nat) : Int)) (lz (g := (frE 2054 0) == 0) (u := undef) hg10 (by kernel_rfl)) ?_
    exact Ys.pure (fun _ => by kernel_rfl)
  refine Wl.ys (v := Value.bool (((frE 2054 0) == 0) && ((((frB [(0 : UInt8), (0 : UInt8), (0 : UInt8), (0 : UInt8), (0 : UInt8), (0 : UInt8)] [(0 : UInt8), (0 : UInt8), (0 : UInt8), (0 : UInt8), (0 : UInt8), (0 : UInt8)] 2054 []).length : Nat) : Int) == 14))) rfl rfl (Ys.and (e := (frE 2054 0) == 0) (b := (((frB [(0 : UInt8), (0 : UInt8), (0 : UInt8), (0 : UInt8), (0 : UInt8), (0 : UInt8)] [(0 : UInt8), (0 : UInt8), (0 : UInt8), (0 : UInt8), (0 : UInt8), (0 : UInt8)] 2054 []).length : Nat) : Int) == 14) rfl (by kernel_rfl) (by kernel_rfl) (by kernel_rfl)) ?_
  refine Wl.run 1 (by kernel_rfl) ?_
  refine Wl.guard (v := Value.slice g3.a ((frB [(0 : UInt8), (0 : UInt8), (0 : UInt8), (0 : UInt8), (0 : UInt8), (0 : UInt8)] [(0 : UInt8), (0 : UInt8), (0 : UInt8), (0 : UInt8), (0 : UInt8), (0 : UInt8)] 2054 []).length) g3.cap) (((frE 2054 0) == 0) && ((((frB [(0 : UInt8), (0 : UInt8), (0 : UInt8), (0 : UInt8), (0 : UInt8), (0 : UInt8)] [(0 : UInt8), (0 : UInt8), (0 : UInt8), (0 : UInt8), (0 : UInt8), (0 : UInt8)] 2054 []).length : Nat) : Int) == 14)) rfl (wantT rfl (by kernel_rfl)) rfl (fun hg11 => ?_) ?_
  · have qhg11 := hg11; try simp only [Bool.and_eq_true, Bool.or_eq_true, Bool.not_eq_true', Bool.not_eq_false', Bool.and_eq_false_iff, Bool.or_eq_false_iff, decide_eq_true_eq, decide_eq_false_iff_not, beq_iff_eq, bne_iff_ne, beq_eq_false_iff_ne, bne_eq_false_iff_eq] at qhg11
    exact Ys.pure (fun _ => by kernel_rfl)
  refine Wl.guard (v := Value.pointer (some (ela g3.a 12))) (((frE 2054 0) == 0) && ((((frB [(0 : UInt8), (0 : UInt8), (0 : UInt8), (0 : UInt8), (0 : UInt8), (0 : UInt8)] [(0 : UInt8), (0 : UInt8), (0 : UInt8), (0 : UInt8), (0 : UInt8), (0 : UInt8)] 2054 []).length : Nat) : Int) == 14)) rfl (wantT rfl (by kernel_rfl)) rfl (fun hg12 => ?_) ?_
  · have qhg12 := hg12; try simp only [Bool.and_eq_true, Bool.or_eq_true, Bool.not_eq_true', Bool.not_eq_false', Bool.and_eq_false_iff, Bool.or_eq_false_iff, decide_eq_true_eq, decide_eq_false_iff_not, beq_iff_eq, bne_iff_ne, beq_eq_false_iff_ne, bne_eq_false_iff_eq] at qhg12
    refine Ys.at (t := 16) (v0 := Value.slice g3.a ((frB [(0 : UInt8), (0 : UInt8), (0 : UInt8), (0 : UInt8), (0 : UInt8), (0 : UInt8)] [(0 : UInt8), (0 : UInt8), (0 : UInt8), (0 : UInt8), (0 : UInt8), (0 : UInt8)] 2054 []).length) g3.cap) (lz (g := ((frE 2054 0) == 0) && ((((frB [(0 : UInt8), (0 : UInt8), (0 : UInt8), (0 : UInt8), (0 : UInt8), (0 : UInt8)] [(0 : UInt8), (0 : UInt8), (0 : UInt8), (0 : UInt8), (0 : UInt8), (0 : UInt8)] 2054 []).length : Nat) : Int) == 14)) (u := undef) hg12 (by kernel_rfl)) ?_
    exact Ys.indexAddr (k := .i64) (a := g3.a) (len := (frB [(0 : UInt8), (0 : UInt8), (0 : UInt8), (0 : UInt8), (0 : UInt8), (0 : UInt8)] [(0 : UInt8), (0 : UInt8), (0 : UInt8), (0 : UInt8), (0 : UInt8), (0 : UInt8)] 2054 []).length) (cap := g3.cap) (i := 12) (sz := 1) rfl (by kernel_rfl) (by kernel_rfl) Try.runUnderlying27 Try.sizeOf5 (by omega) (by omega) (by rw [FS.a_own (FS.notnil ok4 (by omega))]; rfl)
  refine Wl.guard (v := Value.int .u8 ((((frB [(0 : UInt8), (0 : UInt8), (0 : UInt8), (0 : UInt8), (0 : UInt8), (0 : UInt8)] [(0 : UInt8), (0 : UInt8), (0 : UInt8), (0 : UInt8), (0 : UInt8), (0 : UInt8)] 2054 []).getD 12 0).toNat : Nat) : Int)) (((frE 2054 0) == 0) && ((((frB [(0 : UInt8), (0 : UInt8), (0 : UInt8), (0 : UInt8), (0 : UInt8), (0 : UInt8)] [(0 : UInt8), (0 : UInt8), (0 : UInt8), (0 : UInt8), (0 : UInt8), (0 : UInt8)] 2054 []).length : Nat) : Int) == 14)) rfl (wantT rfl (by kernel_rfl)) rfl (fun hg13 => ?_) ?_
  · have qhg13 := hg13; try simp only [Bool.and_eq_true, Bool.or_eq_true, Bool.not_eq_true', Bool.not_eq_false', Bool.and_eq_false_iff, Bool.or_eq_false_iff, decide_eq_true_eq, decide_eq_false_iff_not, beq_iff_eq, bne_iff_ne, beq_eq_false_iff_ne, bne_eq_false_iff_eq] at qhg13
    refine Ys.at (t := 17) (v0 := Value.pointer (some (ela g3.a 12))) (lz (g := ((frE 2054 0) == 0) && ((((frB [(0 : UInt8), (0 : UInt8), (0 : UInt8), (0 : UInt8), (0 : UInt8), (0 : UInt8)] [(0 : UInt8), (0 : UInt8), (0 : UInt8), (0 : UInt8), (0 : UInt8), (0 : UInt8)] 2054 []).length : Nat) : Int) == 14)) (u := undef) hg13 (by kernel_rfl)) ?_
    exact Ys.ld (a := ela g3.a 12) rfl (by kernel_rfl) Try.isAgg5 (fun w_ h_ => (FS.at (i := 0) (t := 5) h_ rfl (FS.nil_cs ok4 (mc_len1 _))).ld (mc_get 0 (by first | omega | (simp; omega))))
  refine Wl.guard (v := Value.bool (((((frB [(0 : UInt8), (0 : UInt8), (0 : UInt8), (0 : UInt8), (0 : UInt8), (0 : UInt8)] [(0 : UInt8), (0 : UInt8), (0 : UInt8), (0 : UInt8), (0 : UInt8), (0 : UInt8)] 2054 []).getD 12 0).toNat : Nat) : Int) == 8)) (((frE 2054 0) == 0) && ((((frB [(0 : UInt8), (0 : UInt8), (0 : UInt8), (0 : UInt8), (0 : UInt8), (0 : UInt8)] [(0 : UInt8), (0 : UInt8), (0 : UInt8), (0 : UInt8), (0 : UInt8), (0 : UInt8)] 2054 []).length : Nat) : Int) == 14)) rfl (wantT rfl (by kernel_rfl)) rfl (fun hg14 => ?_) ?_
  · have qhg14 := hg14; try simp only [Bool.and_eq_true, Bool.or_eq_true, Bool.not_eq_true', Bool.not_eq_false', Bool.and_eq_false_iff, Bool.or_eq_false_iff, decide_eq_true_eq, decide_eq_false_iff_not, beq_iff_eq, bne_iff_ne, beq_eq_false_iff_ne, bne_eq_false_iff_eq] at qhg14
    refine Ys.at (t := 18) (v0 := Value.int .u8 ((((frB [(0 : UInt8), (0 : UInt8), (0 : UInt8), (0 : UInt8), (0 : UInt8), (0 : UInt8)] [(0 : UInt8), (0 : UInt8), (0 : UInt8), (0 : UInt8), (0 : UInt8), (0 : UInt8)] 2054 []).getD 12 0).toNat : Nat) : Int)) (lz (g := ((frE 2054 0) == 0) && ((((frB [(0 : UInt8), (0 : UInt8), (0 : UInt8), (0 : UInt8), (0 : UInt8), (0 : UInt8)] [(0 : UInt8), (0 : UInt8), (0 : UInt8), (0 : UInt8), (0 : UInt8), (0 : UInt8)] 2054 []).length : Nat) : Int) == 14)) (u := undef) hg14 (by kernel_rfl)) ?_
    exact Ys.pure (fun _ => by kernel_rfl)
  refine Wl.ys (v := Value.bool ((((frE 2054 0) == 0) && ((((frB [(0 : UInt8), (0 : UInt8), (0 : UInt8), (0 : UInt8), (0 : UInt8), (0 : UInt8)] [(0 : UInt8), (0 : UInt8), (0 : UInt8), (0 : UInt8), (0 : UInt8), (0 : UInt8)] 2054 []).length : Nat) : Int) == 14)) && (((((frB [(0 : UInt8), (0 : UInt8), (0 : UInt8), (0 : UInt8), (0 : UInt8), (0 : UInt8)] [(0 : UInt8), (0 : UInt8), (0 : UInt8), (0 : UInt8), (0 : UInt8), (0 : UInt8)] 2054 []).getD 12 0).toNat : Nat) : Int) == 8))) rfl rfl (Ys.and (e := ((frE 2054 0) == 0) && ((((frB [(0 : UInt8), (0 : UInt8), (0 : UInt8), (0 : UInt8), (0 : UInt8), (0 : UInt8)] [(0 : UInt8), (0 : UInt8), (0 : UInt8), (0 : UInt8), (0 : UInt8), (0 : UInt8)] 2054 []).length : Nat) : Int) == 14)) (b := ((((frB [(0 : UInt8), (0 : UInt8), (0 : UInt8), (0 : UInt8), (0 : UInt8), (0 : UInt8)] [(0 : UInt8), (0 : UInt8), (0 : UInt8), (0 : UInt8), (0 : UInt8), (0 : UInt8)] 2054 []).getD 12 0).toNat : Nat) : Int) == 8) rfl (by kernel_rfl) (by kernel_rfl) (by kernel_rfl)) ?_
  refine Wl.run 1 (by kernel_rfl) ?_
  refine Wl.guard (v := Value.slice g3.a ((frB [(0 : UInt8), (0 : UInt8), (0 : UInt8), (0 : UInt8), (0 : UInt8), (0 : UInt8)] [(0 : UInt8), (0 : UInt8), (0 : UInt8), (0 : UInt8), (0 : UInt8), (0 : UInt8)] 2054 []).length) g3.cap) ((((frE 2054 0) == 0) && ((((frB [(0 : UInt8), (0 : UInt8), (0 : UInt8), (0 : UInt8), (0 : UInt8), (0 : UInt8)] [(0 : UInt8), (0 : UInt8), (0 : UInt8), (0 : UInt8), (0 : UInt8), (0 : UInt8)] 2054 []).length : Nat) : Int) == 14)) && (((((frB [(0 : UInt8), (0 : UInt8), (0 : UInt8), (0 : UInt8), (0 : UInt8), (0 : UInt8)] [(0 : UInt8), (0 : UInt8), (0 : UInt8), (0 : UInt8), (0 : UInt8), (0 : UInt8)] 2054 []).getD 12 0).toNat : Nat) : Int) == 8)) rfl (wantT rfl (by kernel_rfl)) rfl (fun hg15 => ?_) ?_
  · have qhg15 := hg15; try simp only [Bool.and_eq_true, Bool.or_eq_true, Bool.not_eq_true', Bool.not_eq_false', Bool.and_eq_false_iff, Bool.or_eq_false_iff, decide_eq_true_eq, decide_eq_false_iff_not, beq_iff_eq, bne_iff_ne, beq_eq_false_iff_ne, bne_eq_false_iff_eq] at qhg15
    exact Ys.pure (fun _ => by kernel_rfl)
  refine Wl.guard (v := Value.pointer (some (ela g3.a 13))) ((((frE 2054 0) == 0) && ((((frB [(0 : UInt8), (0 : UInt8), (0 : UInt8), (0 : UInt8), (0 : UInt8), (0 : UInt8)] [(0 : UInt8), (0 : UInt8), (0 : UInt8), (0 : UInt8), (0 : UInt8), (0 : UInt8)] 2054 []).length : Nat) : Int) == 14)) && (((((frB [(0 : UInt8), (0 : UInt8), (0 : UInt8), (0 : UInt8), (0 : UInt8), (0 : UInt8)] [(0 : UInt8), (0 : UInt8), (0 : UInt8), (0 : UInt8), (0 : UInt8), (0 : UInt8)] 2054 []).getD 12 0).toNat : Nat) : Int) == 8)) rfl (wantT rfl (by kernel_rfl)) rfl (fun hg16 => ?_) ?_
  · have qhg16 := hg16; try simp only [Bool.and_eq_true, Bool.or_eq_true, Bool.not_eq_true', Bool.not_eq_false', Bool.and_eq_false_iff, Bool.or_eq_false_iff, decide_eq_true_eq, decide_eq_false_iff_not, beq_iff_eq, bne_iff_ne, beq_eq_false_iff_ne, bne_eq_false_iff_eq] at qhg16
    refine Ys.at (t := 22) (v0 := Value.slice g3.a ((frB [(0 : UInt8), (0 : UInt8), (0 : UInt8), (0 : UInt8), (0 : UInt8), (0 : UInt8)] [(0 : UInt8), (0 : UInt8), (0 : UInt8), (0 : UInt8), (0 : UInt8), (0 : UInt8)] 2054 []).length) g3.cap) (lz (g := (((frE 2054 0) == 0) && ((((frB [(0 : UInt8), (0 : UInt8), (0 : UInt8), (0 : UInt8), (0 : UInt8), (0 : UInt8)] [(0 : UInt8), (0 : UInt8), (0 : UInt8), (0 : UInt8), (0 : UInt8), (0 : UInt8)] 2054 []).length : Nat) : Int) == 14)) && (((((frB [(0 : UInt8), (0 : UInt8), (0 : UInt8), (0 : UInt8), (0 : UInt8), (0 : UInt8)] [(0 : UInt8), (0 : UInt8), (0 : UInt8), (0 : UInt8), (0 : UInt8), (0 : UInt8)] 2054 []).getD 12 0).toNat : Nat) : Int) == 8)) (u := undef) hg16 (by kernel_rfl)) ?_
    exact Ys.indexAddr (k := .i64) (a := g3.a) (len := (frB [(0 : UInt8), (0 : UInt8), (0 : UInt8), (0 : UInt8), (0 : UInt8), (0 : UInt8)] [(0 : UInt8), (0 : UInt8), (0 : UInt8), (0 : UInt8), (0 : UInt8), (0 : UInt8)] 2054 []).length) (cap := g3.cap) (i := 13) (sz := 1) rfl (by kernel_rfl) (by kernel_rfl) Try.runUnderlying27 Try.sizeOf5 (by omega) (by omega) (by rw [FS.a_own (FS.notnil ok4 (by omega))]; rfl)
  refine Wl.guard (v := Value.int .u8 ((((frB [(0 : UInt8), (0 : UInt8), (0 : UInt8), (0 : UInt8), (0 : UInt8), (0 : UInt8)] [(0 : UInt8), (0 : UInt8), (0 : UInt8), (0 : UInt8), (0 : UInt8), (0 : UInt8)] 2054 []).getD 13 0).toNat : Nat) : Int)) ((((frE 2054 0) == 0) && ((((frB [(0 : UInt8), (0 : UInt8), (0 : UInt8), (0 : UInt8), (0 : UInt8), (0 : UInt8)] [(0 : UInt8), (0 : UInt8), (0 : UInt8), (0 : UInt8), (0 : UInt8), (0 : UInt8)] 2054 []).length : Nat) : Int) == 14)) && (((((frB [(0 : UInt8), (0 : UInt8), (0 : UInt8), (0 : UInt8), (0 : UInt8), (0 : UInt8)] [(0 : UInt8), (0 : UInt8), (0 : UInt8), (0 : UInt8), (0 : UInt8), (0 : UInt8)] 2054 []).getD 12 0).toNat : Nat) : Int) == 8)) rfl (wantT rfl (by kernel_rfl)) rfl (fun hg17 => ?_) ?_
  · have qhg17 := hg17; try simp only [Bool.and_eq_true, Bool.or_eq_true, Bool.not_eq_true', Bool.not_eq_false', Bool.and_eq_false_iff, Bool.or_eq_false_iff, decide_eq_true_eq, decide_eq_false_iff_not, beq_iff_eq, bne_iff_ne, beq_eq_false_iff_ne, bne_eq_false_iff_eq] at qhg17
    refine Ys.at (t := 23) (v0 := Value.pointer (some (ela g3.a 13))) (lz (g := (((frE 2054 0) == 0) && ((((frB [(0 : UInt8), (0 : UInt8), (0 : UInt8), (0 : UInt8), (0 : UInt8), (0 : UInt8)] [(0 : UInt8), (0 : UInt8), (0 : UInt8), (0 : UInt8), (0 : UInt8), (0 : UInt8)] 2054 []).length : Nat) : Int) == 14)) && (((((frB [(0 : UInt8), (0 : UInt8), (0 : UInt8), (0 : UInt8), (0 : UInt8), (0 : UInt8)] [(0 : UInt8), (0 : UInt8), (0 : UInt8), (0 : UInt8), (0 : UInt8), (0 : UInt8)] 2054 []).getD 12 0).toNat : Nat) : Int) == 8)) (u := undef) hg17 (by kernel_rfl)) ?_
    exact Ys.ld (a := ela g3.a 13) rfl (by kernel_rfl) Try.isAgg5 (fun w_ h_ => (FS.at (i := 0) (t := 5) h_ rfl (FS.nil_cs ok4 (mc_len1 _))).ld (mc_get 0 (by first | omega | (simp; omega))))
  refine Wl.guard (v := Value.bool (((((frB [(0 : UInt8), (0 : UInt8), (0 : UInt8), (0 : UInt8), (0 : UInt8), (0 : UInt8)] [(0 : UInt8), (0 : UInt8), (0 : UInt8), (0 : UInt8), (0 : UInt8), (0 : UInt8)] 2054 []).getD 13 0).toNat : Nat) : Int) == 6)) ((((frE 2054 0) == 0) && ((((frB [(0 : UInt8), (0 : UInt8), (0 : UInt8), (0 : UInt8), (0 : UInt8), (0 : UInt8)] [(0 : UInt8), (0 : UInt8), (0 : UInt8), (0 : UInt8), (0 : UInt8), (0 : UInt8)] 2054 []).length : Nat) : Int) == 14)) && (((((frB [(0 : UInt8), (0 : UInt8), (0 : UInt8), (0 : UInt8), (0 : UInt8), (0 : UInt8)] [(0 : UInt8), (0 : UInt8), (0 : UInt8), (0 : UInt8), (0 : UInt8), (0 : UInt8)] 2054 []).getD 12 0).toNat : Nat) : Int) == 8)) rfl (wantT rfl (by kernel_rfl)) rfl (fun hg18 => ?_) ?_
  · have qhg18 := hg18; try simp only [Bool.and_eq_true, Bool.or_eq_true, Bool.not_eq_true', Bool.not_eq_false', Bool.and_eq_false_iff, Bool.or_eq_false_iff, decide_eq_true_eq, decide_eq_false_iff_not, beq_iff_eq, bne_iff_ne, beq_eq_false_iff_ne, bne_eq_false_iff_eq] at qhg18
    refine Ys.at (t := 24) (v0 := Value.int .u8 ((((frB [(0 : UInt8), (0 : UInt8), (0 : UInt8), (0 : UInt8), (0 : UInt8), (0 : UInt8)] [(0 : UInt8), (0 : UInt8), (0 : UInt8), (0 : UInt8), (0 : UInt8), (0 : UInt8)] 2054 []).getD 13 0).toNat : Nat) : Int)) (lz (g := (((frE 2054 0) == 0) && ((((frB [(0 : UInt8), (0 : UInt8), (0 : UInt8), (0 : UInt8), (0 : UInt8), (0 : UInt8)] [(0 : UInt8), (0 : UInt8), (0 : UInt8), (0 : UInt8), (0 : UInt8), (0 : UInt8)] 2054 []).length : Nat) : Int) == 14)) && (((((frB [(0 : UInt8), (0 : UInt8), (0 : UInt8), (0 : UInt8), (0 : UInt8), (0 : UInt8)] [(0 : UInt8), (0 : UInt8), (0 : UInt8), (0 : UInt8), (0 : UInt8), (0 : UInt8)] 2054 []).getD 12 0).toNat : Nat) : Int) == 8)) (u := undef) hg18 (by kernel_rfl)) ?_
    exact Ys.pure (fun _ => by kernel_rfl)
  refine Wl.ys (v := Value.bool (((((frE 2054 0) == 0) && ((((frB [(0 : UInt8), (0 : UInt8), (0 : UInt8), (0 : UInt8), (0 : UInt8), (0 : UInt8)] [(0 : UInt8), (0 : UInt8), (0 : UInt8), (0 : UInt8), (0 : UInt8), (0 : UInt8)] 2054 []).length : Nat) : Int) == 14)) && (((((frB [(0 : UInt8), (0 : UInt8), (0 : UInt8), (0 : UInt8), (0 : UInt8), (0 : UInt8)] [(0 : UInt8), (0 : UInt8), (0 : UInt8), (0 : UInt8), (0 : UInt8), (0 : UInt8)] 2054 []).getD 12 0).toNat : Nat) : Int) == 8)) && (((((frB [(0 : UInt8), (0 : UInt8), (0 : UInt8), (0 : UInt8), (0 : UInt8), (0 : UInt8)] [(0 : UInt8), (0 : UInt8), (0 : UInt8), (0 : UInt8), (0 : UInt8), (0 : UInt8)] 2054 []).getD 13 0).toNat : Nat) : Int) == 6))) rfl rfl (Ys.and (e := (((frE 2054 0) == 0) && ((((frB [(0 : UInt8), (0 : UInt8), (0 : UInt8), (0 : UInt8), (0 : UInt8), (0 : UInt8)] [(0 : UInt8), (0 : UInt8), (0 : UInt8), (0 : UInt8), (0 : UInt8), (0 : UInt8)] 2054 []).length : Nat) : Int) == 14)) && (((((frB [(0 : UInt8), (0 : UInt8), (0 : UInt8), (0 : UInt8), (0 : UInt8), (0 : UInt8)] [(0 : UInt8), (0 : UInt8), (0 : UInt8), (0 : UInt8), (0 : UInt8), (0 : UInt8)] 2054 []).getD 12 0).toNat : Nat) : Int) == 8)) (b := ((((frB [(0 : UInt8), (0 : UInt8), (0 : UInt8), (0 : UInt8), (0 : UInt8), (0 : UInt8)] [(0 : UInt8), (0 : UInt8), (0 : UInt8), (0 : UInt8), (0 : UInt8), (0 : UInt8)] 2054 []).getD 13 0).toNat : Nat) : Int) == 6) rfl (by kernel_rfl) (by kernel_rfl) (by kernel_rfl)) ?_
  refine Wl.run 1 (by kernel_rfl) ?_
  refine Wl.guardc (v := Value.agg ([Value.int .u8 255, Value.int .u8 255, Value.int .u8 255, Value.int .u8 255, Value.int .u8 255, Value.int .u8 255]).toArray) (((((frE 2054 0) == 0) && ((((frB [(0 : UInt8), (0 : UInt8), (0 : UInt8), (0 : UInt8), (0 : UInt8), (0 : UInt8)] [(0 : UInt8), (0 : UInt8), (0 : UInt8), (0 : UInt8), (0 : UInt8), (0 : UInt8)] 2054 []).length : Nat) : Int) == 14)) && (((((frB [(0 : UInt8), (0 : UInt8), (0 : UInt8), (0 : UInt8), (0 : UInt8), (0 : UInt8)] [(0 : UInt8), (0 : UInt8), (0 : UInt8), (0 : UInt8), (0 : UInt8), (0 : UInt8)] 2054 []).getD 12 0).toNat : Nat) : Int) == 8)) && (((((frB [(0 : UInt8), (0 : UInt8), (0 : UInt8), (0 : UInt8), (0 : UInt8), (0 : UInt8)] [(0 : UInt8), (0 : UInt8), (0 : UInt8), (0 : UInt8), (0 : UInt8), (0 : UInt8)] 2054 []).getD 13 0).toNat : Nat) : Int) == 6)) rfl (wantT rfl (by kernel_rfl)) rfl (fun hg19 => ?_) ?_
  · have qhg19 := hg19; try simp only [Bool.and_eq_true, Bool.or_eq_true, Bool.not_eq_true', Bool.not_eq_false', Bool.and_eq_false_iff, Bool.or_eq_false_iff, decide_eq_true_eq, decide_eq_false_iff_not, beq_iff_eq, bne_iff_ne, beq_eq_false_iff_ne, bne_eq_false_iff_eq] at qhg19
    exact Yc.call (k := 7) (args := #[]) (fun _ => by kernel_rfl) (fun w_ hm_ => (all_c _))
  refine Wl.guard (v := Value.int .u8 255) (((((frE 2054 0) == 0) && ((((frB [(0 : UInt8), (0 : UInt8), (0 : UInt8), (0 : UInt8), (0 : UInt8), (0 : UInt8)] [(0 : UInt8), (0 : UInt8), (0 : UInt8), (0 : UInt8), (0 : UInt8), (0 : UInt8)] 2054 []).length : Nat) : Int) == 14)) && (((((frB [(0 : UInt8), (0 : UInt8), (0 : UInt8), (0 : UInt8), (0 : UInt8), (0 : UInt8)] [(0 : UInt8), (0 : UInt8), (0 : UInt8), (0 : UInt8), (0 : UInt8), (0 : UInt8)] 2054 []).getD 12 0).toNat : Nat) : Int) == 8)) && (((((frB [(0 : UInt8), (0 : UInt8), (0 : UInt8), (0 : UInt8), (0 : UInt8), (0 : UInt8)] [(0 : UInt8), (0 : UInt8), (0 : UInt8), (0 : UInt8), (0 : UInt8), (0 : UInt8)] 2054 []).getD 13 0).toNat : Nat) : Int) == 6)) rfl (wantT rfl (by kernel_rfl)) rfl (fun hg20 => ?_) ?_
  · have qhg20 := hg20; try simp only [Bool.and_eq_true, Bool.or_eq_true, Bool.not_eq_true', Bool.not_eq_false', Bool.and_eq_false_iff, Bool.or_eq_false_iff, decide_eq_true_eq, decide_eq_false_iff_not, beq_iff_eq, bne_iff_ne, beq_eq_false_iff_ne, bne_eq_false_iff_eq] at qhg20
    refine Ys.at (t := 28) (v0 := Value.agg ([Value.int .u8 255, Value.int .u8 255, Value.int .u8 255, Value.int .u8 255, Value.int .u8 255, Value.int .u8 255]).toArray) (lz (g := ((((frE 2054 0) == 0) && ((((frB [(0 : UInt8), (0 : UInt8), (0 : UInt8), (0 : UInt8), (0 : UInt8), (0 : UInt8)] [(0 : UInt8), (0 : UInt8), (0 : UInt8), (0 : UInt8), (0 : UInt8), (0 : UInt8)] 2054 []).length : Nat) : Int) == 14)) && (((((frB [(0 : UInt8), (0 : UInt8), (0 : UInt8), (0 : UInt8), (0 : UInt8), (0 : UInt8)] [(0 : UInt8), (0 : UInt8), (0 : UInt8), (0 : UInt8), (0 : UInt8), (0 : UInt8)] 2054 []).getD 12 0).toNat : Nat) : Int) == 8)) && (((((frB [(0 : UInt8), (0 : UInt8), (0 : UInt8), (0 : UInt8), (0 : UInt8), (0 : UInt8)] [(0 : UInt8), (0 : UInt8), (0 : UInt8), (0 : UInt8), (0 : UInt8), (0 : UInt8)] 2054 []).getD 13 0).toNat : Nat) : Int) == 6)) (u := undef) hg20 (by kernel_rfl)) ?_
    exact Ys.pure (fun _ => by kernel_rfl)
  refine Wl.guard (v := Value.bool true) (((((frE 2054 0) == 0) && ((((frB [(0 : UInt8), (0 : UInt8), (0 : UInt8), (0 : UInt8), (0 : UInt8), (0 : UInt8)] [(0 : UInt8), (0 : UInt8), (0 : UInt8), (0 : UInt8), (0 : UInt8), (0 : UInt8)] 2054 []).length : Nat) : Int) == 14)) && (((((frB [(0 : UInt8), (0 : UInt8), (0 : UInt8), (0 : UInt8), (0 : UInt8), (0 : UInt8)] [(0 : UInt8), (0 : UInt8), (0 : UInt8), (0 : UInt8), (0 : UInt8), (0 : UInt8)] 2054 []).getD 12 0).toNat : Nat) : Int) == 8)) && (((((frB [(0 : UInt8), (0 : UInt8), (0 : UInt8), (0 : UInt8), (0 : UInt8), (0 : UInt8)] [(0 : UInt8), (0 : UInt8), (0 : UInt8), (0 : UInt8), (0 : UInt8), (0 : UInt8)] 2054 []).getD 13 0).toNat : Nat) : Int) == 6)) rfl (wantT rfl (by kernel_rfl)) rfl (fun hg21 => ?_) ?_
  · have qhg21 := hg21; try simp only [Bool.and_eq_true, Bool.or_eq_true, Bool.not_eq_true', Bool.not_eq_false', Bool.and_eq_false_iff, Bool.or_eq_false_iff, decide_eq_true_eq, decide_eq_false_iff_not, beq_iff_eq, bne_iff_ne, beq_eq_false_iff_ne, bne_eq_false_iff_eq] at qhg21
    refine Ys.at (t := 29) (v0 := Value.int .u8 255) (lz (g := ((((frE 2054 0) == 0) && ((((frB [(0 : UInt8), (0 : UInt8), (0 : UInt8), (0 : UInt8), (0 : UInt8), (0 : UInt8)] [(0 : UInt8), (0 : UInt8), (0 : UInt8), (0 : UInt8), (0 : UInt8), (0 : UInt8)] 2054 []).length : Nat) : Int) == 14)) && (((((frB [(0 : UInt8), (0 : UInt8), (0 : UInt8), (0 : UInt8), (0 : UInt8), (0 : UInt8)] [(0 : UInt8), (0 : UInt8), (0 : UInt8), (0 : UInt8), (0 : UInt8), (0 : UInt8)] 2054 []).getD 12 0).toNat : Nat) : Int) == 8)) && (((((frB [(0 : UInt8), (0 : UInt8), (0 : UInt8), (0 : UInt8), (0 : UInt8), (0 : UInt8)] [(0 : UInt8), (0 : UInt8), (0 : UInt8), (0 : UInt8), (0 : UInt8), (0 : UInt8)] 2054 []).getD 13 0).toNat : Nat) : Int) == 6)) (u := undef) hg21 (by kernel_rfl)) ?_
    exact Ys.pure (fun _ => by kernel_rfl)
  refine Wl.ys (v := Value.bool ((((((frE 2054 0) == 0) && ((((frB [(0 : UInt8), (0 : UInt8), (0 : UInt8), (0 : UInt8), (0 : UInt8), (0 : UInt8)] [(0 : UInt8), (0 : UInt8), (0 : UInt8), (0 : UInt8), (0 : UInt8), (0 : UInt8)] 2054 []).length : Nat) : Int) == 14)) && (((((frB [(0 : UInt8), (0 : UInt8), (0 : UInt8), (0 : UInt8), (0 : UInt8), (0 : UInt8)] [(0 : UInt8), (0 : UInt8), (0 : UInt8), (0 : UInt8), (0 : UInt8), (0 : UInt8)] 2054 []).getD 12 0).toNat : Nat) : Int) == 8)) && (((((frB [(0 : UInt8), (0 : UInt8), (0 : UInt8), (0 : UInt8), (0 : UInt8), (0 : UInt8)] [(0 : UInt8), (0 : UInt8), (0 : UInt8), (0 : UInt8), (0 : UInt8), (0 : UInt8)] 2054 []).getD 13 0).toNat : Nat) : Int) == 6)) && true)) rfl rfl (Ys.and (e := ((((frE 2054 0) == 0) && ((((frB [(0 : UInt8), (0 : UInt8), (0 : UInt8), (0 : UInt8), (0 : UInt8), (0 : UInt8)] [(0 : UInt8), (0 : UInt8), (0 : UInt8), (0 : UInt8), (0 : UInt8), (0 : UInt8)] 2054 []).length : Nat) : Int) == 14)) && (((((frB [(0 : UInt8), (0 : UInt8), (0 : UInt8), (0 : UInt8), (0 : UInt8), (0 : UInt8)] [(0 : UInt8), (0 : UInt8), (0 : UInt8), (0 : UInt8), (0 : UInt8), (0 : UInt8)] 2054 []).getD 12 0).toNat : Nat) : Int) == 8)) && (((((frB [(0 : UInt8), (0 : UInt8), (0 : UInt8), (0 : UInt8), (0 : UInt8), (0 : UInt8)] [(0 : UInt8), (0 : UInt8), (0 : UInt8), (0 : UInt8), (0 : UInt8), (0 : UInt8)] 2054 []).getD 13 0).toNat : Nat) : Int) == 6)) (b := true) rfl (by kernel_rfl) (by kernel_rfl) (by kernel_rfl)) ?_
  refine Wl.run 1 (by kernel_rfl) ?_
  refine Wl.nil ?_
  refine hK7 _ _ _ ?_
  refine W.pick (LL' := []) [] (by decide) rfl ?_
  refine W.prune' [0] [Value.bool ((((((frE 2054 0) == 0) && ((((frB [(0 : UInt8), (0 : UInt8), (0 : UInt8), (0 : UInt8), (0 : UInt8), (0 : UInt8)] [(0 : UInt8), (0 : UInt8), (0 : UInt8), (0 : UInt8), (0 : UInt8), (0 : UInt8)] 2054 []).length : Nat) : Int) == 14)) && (((((frB [(0 : UInt8), (0 : UInt8), (0 : UInt8), (0 : UInt8), (0 : UInt8), (0 : UInt8)] [(0 : UInt8), (0 : UInt8), (0 : UInt8), (0 : UInt8), (0 : UInt8), (0 : UInt8)] 2054 []).getD 12 0).toNat : Nat) : Int) == 8)) && (((((frB [(0 : UInt8), (0 : UInt8), (0 : UInt8), (0 : UInt8), (0 : UInt8), (0 : UInt8)] [(0 : UInt8), (0 : UInt8), (0 : UInt8), (0 : UInt8), (0 : UInt8), (0 : UInt8)] 2054 []).getD 13 0).toNat : Nat) : Int) == 6)) && true)] (by kernel_rfl) (fun f22 => ?_)
  refine W.ret ?_
  show ∀ w_, _ → bodyPostM (fence none) 0 Try.prog Try.f6 _ Exit.ret _ w_
  exact fun w_ hS_ => fin_ret (ret1 rfl (RV.tmp (v := Value.bool ((((((frE 2054 0) == 0) && ((((frB [(0 : UInt8), (0 : UInt8), (0 : UInt8), (0 : UInt8), (0 : UInt8), (0 : UInt8)] [(0 : UInt8), (0 : UInt8), (0 : UInt8), (0 : UInt8), (0 : UInt8), (0 : UInt8)] 2054 []).length : Nat) : Int) == 14)) && (((((frB [(0 : UInt8), (0 : UInt8), (0 : UInt8), (0 : UInt8), (0 : UInt8), (0 : UInt8)] [(0 : UInt8), (0 : UInt8), (0 : UInt8), (0 : UInt8), (0 : UInt8), (0 : UInt8)] 2054 []).getD 12 0).toNat : Nat) : Int) == 8)) && (((((frB [(0 : UInt8), (0 : UInt8), (0 : UInt8), (0 : UInt8), (0 : UInt8), (0 : UInt8)] [(0 : UInt8), (0 : UInt8), (0 : UInt8), (0 : UInt8), (0 : UInt8), (0 : UInt8)] 2054 []).getD 13 0).toNat : Nat) : Int) == 6)) && true)) (by kernel_rfl)) hS_ ⟨by clear hK1 hK2 hK7; refine congrArg Ending.returned ?_; exact bool_congr (by decide +kernel), hS_.below⟩)

theorem names_c  (w : World) : Calls Try.prog 3 #[] w (Ret w (.bool true)) := by
  refine calls_W (M := []) (LL := []) (n := 18) Try.func3 rfl rfl (by simp) (Mem.refl _) ?_
  refine W.seq (fun K1 hK1 => ?_)
  refine W.region ?_
  refine Wl.run 1 (by kernel_rfl) ?_
  refine Wl.nil ?_
  refine hK1 _ _ _ ?_
  refine W.seq (fun K2 hK2 => ?_)
  refine W.seq (fun K3 hK3 => ?_)
  refine W.region ?_
  refine Wl.yc (v := Value.bool true) rfl rfl (Yc.call (k := 6) (args := #[]) (fun _ => by kernel_rfl) (fun w_ hm_ => (speaks3_c _))) ?_
  refine Wl.run 1 (by kernel_rfl) ?_
  refine Wl.nil ?_
  refine hK3 _ _ _ ?_
  refine W.prune' [4] [Value.bool false] (by kernel_rfl) (fun f4 => ?_)
  refine W.condF (by kernel_rfl) ?_
  refine W.skip' ?_
  refine hK2 _ _ _ ?_
  refine W.prune' [] [] (by kernel_rfl) (fun f5 => ?_)
  refine W.seq (fun K6 hK6 => ?_)
  refine W.region ?_
  refine Wl.run 1 (by kernel_rfl) ?_
  refine Wl.nil ?_
  refine hK6 _ _ _ ?_
  refine W.seq (fun K7 hK7 => ?_)
  refine W.region ?_
  refine Wl.run 1 (by kernel_rfl) ?_
  refine Wl.nil ?_
  refine hK7 _ _ _ ?_
  refine W.seq (fun K8 hK8 => ?_)
  refine W.region ?_
  refine Wl.run 2 (by kernel_rfl) ?_
  refine Wl.guard (v := Value.bool true) (true) rfl (by kernel_rfl) rfl (fun _ => Ys.pure (fun _ => by kernel_rfl)) ?_
  refine Wl.run 6 (by kernel_rfl) ?_
  refine Wl.guardc (v := Value.agg ([Value.int .u8 255, Value.int .u8 255, Value.int .u8 255, Value.int .u8 255, Value.int .u8 255, Value.int .u8 255]).toArray) (true) rfl (by kernel_rfl) rfl (fun _ => Yc.call (k := 7) (args := #[]) (fun _ => by kernel_rfl) (fun w_ hm_ => (all_c _))) ?_
  refine Wl.guard (v := Value.agg ([Value.int .u8 255, Value.int .u8 255, Value.int .u8 255, Value.int .u8 255, Value.int .u8 255, Value.int .u8 255]).toArray) (true) rfl (by kernel_rfl) rfl (fun _ => Ys.pure (fun _ => by kernel_rfl)) ?_
  refine Wl.guard (v := Value.bool true) (true) rfl (by kernel_rfl) rfl (fun _ => Ys.pure (fun _ => by kernel_rfl)) ?_
  refine Wl.run 2 (by kernel_rfl) ?_
  refine Wl.nil ?_
  refine hK8 _ _ _ ?_
  refine W.prune' [0] [Value.bool true] (by kernel_rfl) (fun f9 => ?_)
  refine W.ret ?_
  show ∀ w_, _ → bodyPostM (fence none) 0 Try.prog Try.f3 _ Exit.ret _ w_
  exact fun w_ hS_ => fin_ret (ret1 rfl (RV.tmp (v := Value.bool true) (by kernel_rfl)) hS_ ⟨rfl, hS_.below⟩)

end Go.Proofs.Ytnhmajdpjapgjaa.Oct
