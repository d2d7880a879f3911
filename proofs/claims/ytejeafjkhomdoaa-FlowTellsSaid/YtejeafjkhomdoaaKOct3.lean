import Derived.Test.YtejeafjkhomdoaaKOct2
set_option linter.unusedVariables false
set_option linter.unusedSimpArgs false
set_option maxRecDepth 20000
namespace Go.Proofs.Ytejeafjkhomdoaa.Oct
open Go.RowKit Base
attribute [local irreducible] Ys Yc Ht HtIn Wl Wd W Mem pf dpf
theorem reye_ne (v : Value) (x : UInt8) (h : (match v with | .int .u8 _ => false | _ => true) = true) : v ≠ b8 x := fun e => by subst e; cases h
theorem reye_apart {w : World} {b len cap i : Nat} {a a' : Option Addr} {bad : Bool} {ys : List UInt8} {t : TypeId} (hl : Mem w [b] [[cb b [.slice a' len cap, .int .i64 ((i : Nat) : Int), .bool bad] t]] w) (hat : At w a (byc ys)) : 0 < (byc ys).length → (a.getD default).block ∉ [b] := fun h0 => by
  have hb := hl.at (i := 0) (j := 0) (p := cb b [.slice a' len cap, .int .i64 ((i : Nat) : Int), .bool bad] t) rfl rfl
  have := hat.ne (b := b) (cs := [.slice a' len cap, .int .i64 ((i : Nat) : Int), .bool bad]) hb (fun v hv x => reye_ne v x (by
    rcases List.mem_cons.1 hv with rfl | hv
    · rfl
    · rcases List.mem_cons.1 hv with rfl | hv
      · rfl
      · obtain rfl := List.mem_singleton.1 hv; rfl)) h0
  simpa using this
def rI (xs : List UInt8) (i : Nat) (n : Int) : Nat := if asked n ≤ xs.length - i then i + asked n else xs.length
theorem asked_neg {n : Int} (h : n < 0) : asked n = 0 := by unfold asked imax; split <;> omega
theorem asked_nat (k : Nat) : asked ((k : Nat) : Int) = k := by unfold asked imax; split <;> omega
theorem rbytes_neg (xs : List UInt8) (a : Option Addr) (cap i : Nat) (bad : Bool) (b : Nat) (n : Int) (w : World) (hl : Mem w [b] [[cb b [.slice a xs.length cap, .int .i64 ((i : Nat) : Int), .bool bad] 104]] w) (hat : At w a (byc xs)) (hi : i ≤ xs.length) (hcap : xs.length ≤ cap) (hy : xs.length ≤ 70368744177664) (hn : n < 0) : Calls Try.prog 77 #[Value.pointer (some ⟨b, 0, none⟩), Value.int .i64 n] w (RetM w (fun g : FS => g.ok 1 (eOut (xs.drop i) n).length) (fun g => .slice g.a (eOut (xs.drop i) n).length g.cap) [b] (fun g => [[cb b [.slice a xs.length cap, .int .i64 ((rI xs i n : Nat) : Int), .bool (eBad (xs.drop i) bad n)] 104], g.seg 5 (byc (eOut (xs.drop i) n))])) := by
  have hne := reye_apart hl hat
  refine calls_W (M := [b]) (LL := [[cb b [Value.slice a xs.length cap, Value.int .i64 ((i : Nat) : Int), Value.bool bad] 104]]) (n := 59) Try.func77 rfl rfl (by simp) (hl) ?_
  refine W.seq (fun K1 hK1 => ?_)
  refine W.region ?_
  refine Wl.run 1 (by kernel_rfl) ?_
  refine Wl.nil ?_
  refine hK1 _ _ _ ?_
  refine W.seq (fun K2 hK2 => ?_)
  refine W.seq (fun K3 hK3 => ?_)
  refine W.region ?_
  refine Wl.run 2 (by kernel_rfl) ?_
  refine Wl.nil ?_
  refine hK3 _ _ _ ?_
  refine W.prune' [0, 1, 7] [Value.pointer (some ⟨b, 0, none⟩), Value.int .i64 n, Value.bool (decide (n < 0))] (by kernel_rfl) (fun f4 => ?_)
  refine W.cond (decide (n < 0)) (by kernel_rfl) (fun h5 => ?_) (fun h6 => ?_)
  · have qh5 := h5; try simp only [Bool.and_eq_true, Bool.or_eq_true, Bool.not_eq_true', Bool.not_eq_false', Bool.and_eq_false_iff, Bool.or_eq_false_iff, decide_eq_true_eq, decide_eq_false_iff_not, beq_iff_eq, bne_iff_ne, beq_eq_false_iff_ne, bne_eq_false_iff_eq] at qh5
    refine W.seq (fun K7 hK7 => ?_)
    refine W.region ?_
    refine Wl.ht rfl (Ht.made (mk := fun b_ => .slice (some ⟨b_, 0, none⟩) 0 0) (t := 5) (cs := []) rfl (fun _ => by kernel_rfl)) (fun p8 => ?_)
    refine Wl.run 1 (by kernel_rfl) ?_
    refine Wl.nil ?_
    refine hK7 _ _ _ ?_
    refine W.prune' [4] [Value.slice (some ⟨p8, 0, none⟩) 0 0] (by kernel_rfl) (fun f8 => ?_)
    refine W.ret ?_
    show ∀ w_, _ → bodyPostM (fence none) 0 Try.prog Try.f77 _ Exit.ret _ w_
    exact fun w_ hS_ => fin_ret (ret1 rfl (RV.tmp (v := Value.slice (some ⟨p8, 0, none⟩) 0 0) (by kernel_rfl)) hS_ ⟨(FS.mk false p8 0 []), (by have hk : asked n ≤ (xs.drop i).length := (by rw [asked_neg hn]; exact Nat.zero_le _); dsimp only; rw [eOut_t hk, asked_neg hn]; exact FS.lit_ok (by decide)), congrArg Ending.returned ((by have hk : asked n ≤ (xs.drop i).length := (by rw [asked_neg hn]; exact Nat.zero_le _); dsimp only; rw [eOut_t hk, asked_neg hn]; rfl)), (Mem.cast (by have hk : asked n ≤ (xs.drop i).length := (by rw [asked_neg hn]; exact Nat.zero_le _); dsimp only; rw [eOut_t hk, eBad_t hk, asked_neg hn]; unfold rI; rw [asked_neg hn, if_pos (Nat.zero_le _)]; rfl) (hS_.pick (LL' := [[cb b [Value.slice a xs.length cap, Value.int .i64 ((i : Nat) : Int), Value.bool bad] 104], [cb p8 [] 5]]) [1, 0] (by decide) rfl))⟩)
  · have qh6 := h6; try simp only [Bool.and_eq_true, Bool.or_eq_true, Bool.not_eq_true', Bool.not_eq_false', Bool.and_eq_false_iff, Bool.or_eq_false_iff, decide_eq_true_eq, decide_eq_false_iff_not, beq_iff_eq, bne_iff_ne, beq_eq_false_iff_ne, bne_eq_false_iff_eq] at qh6
    exact absurd hn qh6
theorem rbytes_nat (xs : List UInt8) (a : Option Addr) (cap i : Nat) (bad : Bool) (b : Nat) (k : Nat) (w : World) (hl : Mem w [b] [[cb b [.slice a xs.length cap, .int .i64 ((i : Nat) : Int), .bool bad] 104]] w) (hat : At w a (byc xs)) (hi : i ≤ xs.length) (hcap : xs.length ≤ cap) (hy : xs.length ≤ 70368744177664) (hk64 : k ≤ 9223372036854775807) : Calls Try.prog 77 #[Value.pointer (some ⟨b, 0, none⟩), Value.int .i64 ((k : Nat) : Int)] w (RetM w (fun g : FS => g.ok 1 (eOut (xs.drop i) ((k : Nat) : Int)).length) (fun g => .slice g.a (eOut (xs.drop i) ((k : Nat) : Int)).length g.cap) [b] (fun g => [[cb b [.slice a xs.length cap, .int .i64 ((rI xs i ((k : Nat) : Int) : Nat) : Int), .bool (eBad (xs.drop i) bad ((k : Nat) : Int))] 104], g.seg 5 (byc (eOut (xs.drop i) ((k : Nat) : Int)))])) := by
  have hne := reye_apart hl hat; have hld := List.length_drop (i := i) (l := xs)
  refine calls_W (M := [b]) (LL := [[cb b [Value.slice a xs.length cap, Value.int .i64 ((i : Nat) : Int), Value.bool bad] 104]]) (n := 59) Try.func77 rfl rfl (by simp) (hl) ?_
  refine W.seq (fun K1 hK1 => ?_)
  refine W.region ?_
  refine Wl.run 1 (by kernel_rfl) ?_
  refine Wl.nil ?_
  refine hK1 _ _ _ ?_
  refine W.seq (fun K2 hK2 => ?_)
  refine W.seq (fun K3 hK3 => ?_)
  refine W.region ?_
  refine Wl.run 2 (by kernel_rfl) ?_
  refine Wl.nil ?_
  refine hK3 _ _ _ ?_
  refine W.prune' [0, 1, 7] [Value.pointer (some ⟨b, 0, none⟩), Value.int .i64 ((k : Nat) : Int), Value.bool (decide (((k : Nat) : Int) < 0))] (by kernel_rfl) (fun f4 => ?_)
  refine W.cond (decide (((k : Nat) : Int) < 0)) (by kernel_rfl) (fun h5 => ?_) (fun h6 => ?_)
  · have qh5 := h5; try simp only [Bool.and_eq_true, Bool.or_eq_true, Bool.not_eq_true', Bool.not_eq_false', Bool.and_eq_false_iff, Bool.or_eq_false_iff, decide_eq_true_eq, decide_eq_false_iff_not, beq_iff_eq, bne_iff_ne, beq_eq_false_iff_ne, bne_eq_false_iff_eq] at qh5
    exact absurd qh5 (by omega)
  · have qh6 := h6; try simp only [Bool.and_eq_true, Bool.or_eq_true, Bool.not_eq_true', Bool.not_eq_false', Bool.and_eq_false_iff, Bool.or_eq_false_iff, decide_eq_true_eq, decide_eq_false_iff_not, beq_iff_eq, bne_iff_ne, beq_eq_false_iff_ne, bne_eq_false_iff_eq] at qh6
    refine W.skip' ?_
    refine hK2 _ _ _ ?_
    refine W.prune' [0, 1] [Value.pointer (some ⟨b, 0, none⟩), Value.int .i64 ((k : Nat) : Int)] (by kernel_rfl) (fun f7 => ?_)
    refine W.seq (fun K8 hK8 => ?_)
    refine W.seq (fun K9 hK9 => ?_)
    refine W.draws [(0, true), (1, true), (2, true), (3, true), (4, true), (5, true), (6, false), (7, false), (8, false), (9, false), (10, false), (11, false)] [0, 1, 2, 3, 4, 5] (Mem w [b] [[cb b [Value.slice a xs.length cap, Value.int .i64 ((i : Nat) : Int), Value.bool bad] 104]]) (by kernel_rfl) (by kernel_rfl) (by kernel_rfl) rfl (by kernel_rfl) (fun _ _ h_ => h_.drawn _) (fun _ h_ => h_) ?_
    refine Wd.run 4 (by kernel_rfl) ?_
    refine Wd.ys (v := Value.slice a xs.length cap) rfl rfl rfl (Ys.load (b := b) (o' := 0) (i := 0) (j := 0) (cs := [Value.slice a xs.length cap, Value.int .i64 ((i : Nat) : Int), Value.bool bad]) (v := Value.slice a xs.length cap) rfl (by kernel_rfl) Try.isAgg25 rfl rfl rfl) ?_
    refine Wd.run 1 (by kernel_rfl) ?_
    refine Wd.yc (v := Value.pointer (some ⟨b, 0, none⟩)) rfl rfl rfl (Ys.yc (Ys.pure (fun _ => by kernel_rfl))) (.inr fun _ h_ => h_) ?_
    refine Wd.yc (v := Value.pointer (some ⟨b, 0, none⟩)) rfl rfl rfl (Ys.yc (Ys.pure (fun _ => by kernel_rfl))) (.inr fun _ h_ => h_) ?_
    refine Wd.yc (v := Value.pointer (some ⟨b, 1, none⟩)) rfl rfl rfl (Ys.yc (Ys.pure (fun _ => by kernel_rfl))) (.inr fun _ h_ => h_) ?_
    refine Wd.yc (v := Value.int .i64 ((i : Nat) : Int)) rfl rfl rfl (Ys.yc (Ys.load (b := b) (o' := 1) (i := 0) (j := 0) (cs := [Value.slice a xs.length cap, Value.int .i64 ((i : Nat) : Int), Value.bool bad]) (v := Value.int .i64 ((i : Nat) : Int)) rfl (by kernel_rfl) Try.isAgg3 rfl rfl rfl)) (.inr fun _ h_ => h_) ?_
    refine Wd.yc (v := Value.int .i64 (((xs.length : Nat) : Int) - ((i : Nat) : Int))) rfl rfl rfl (Ys.yc ((Ys.pure (v := .int .i64 (isub .i64 ((xs.length : Nat) : Int) ((i : Nat) : Int))) (fun _ => by kernel_rfl)).conseq (int_congr (isub_eq rfl (by omega) (by omega))))) (.inr fun _ h_ => h_) ?_
    refine Wd.yc (v := Value.bool (decide (((k : Nat) : Int) > (((xs.length : Nat) : Int) - ((i : Nat) : Int))))) rfl rfl rfl (Ys.yc (Ys.pure (fun _ => by kernel_rfl))) (.inr fun _ h_ => h_) ?_
    refine Wd.nil ?_
    refine hK9 _ _ _ ?_
    refine W.prune' [0, 1, 20] [Value.pointer (some ⟨b, 0, none⟩), Value.int .i64 ((k : Nat) : Int), Value.bool (decide (((k : Nat) : Int) > (((xs.length : Nat) : Int) - ((i : Nat) : Int))))] (by kernel_rfl) (fun f10 => ?_)
    refine W.cond (decide (((k : Nat) : Int) > (((xs.length : Nat) : Int) - ((i : Nat) : Int)))) (by kernel_rfl) (fun h11 => ?_) (fun h12 => ?_)
    · have qh11 := h11; try simp only [Bool.and_eq_true, Bool.or_eq_true, Bool.not_eq_true', Bool.not_eq_false', Bool.and_eq_false_iff, Bool.or_eq_false_iff, decide_eq_true_eq, decide_eq_false_iff_not, beq_iff_eq, bne_iff_ne, beq_eq_false_iff_ne, bne_eq_false_iff_eq] at qh11
      refine W.seq (fun K13 hK13 => ?_)
      refine W.region ?_
      refine Wl.run 4 (by kernel_rfl) ?_
      refine Wl.ys (v := Value.slice a xs.length cap) rfl rfl (Ys.load (b := b) (o' := 0) (i := 0) (j := 0) (cs := [Value.slice a xs.length cap, Value.int .i64 ((i : Nat) : Int), Value.bool bad]) (v := Value.slice a xs.length cap) rfl (by kernel_rfl) Try.isAgg25 rfl rfl rfl) ?_
      refine Wl.run 3 (by kernel_rfl) ?_
      refine Wl.ht rfl (Ht.store (b := b) (o' := 1) (i := 0) (j := 0) (cs := [Value.slice a xs.length cap, Value.int .i64 ((i : Nat) : Int), Value.bool bad]) (cs' := [Value.slice a xs.length cap, Value.int .i64 ((xs.length : Nat) : Int), Value.bool bad]) (v := Value.int .i64 ((xs.length : Nat) : Int)) (LL' := [[cb b [Value.slice a xs.length cap, Value.int .i64 ((xs.length : Nat) : Int), Value.bool bad] 104]]) rfl rfl (by kernel_rfl) (by kernel_rfl) Try.sizeOf3 rfl rfl rfl (by simp) rfl rfl) (fun _ => ?_)
      refine Wl.nil ?_
      refine hK13 _ _ _ ?_
      refine W.prune' [0] [Value.pointer (some ⟨b, 0, none⟩)] (by kernel_rfl) (fun f14 => ?_)
      refine W.seq (fun K15 hK15 => ?_)
      refine W.region ?_
      refine Wl.run 3 (by kernel_rfl) ?_
      refine Wl.ht rfl (Ht.store (b := b) (o' := 2) (i := 0) (j := 0) (cs := [Value.slice a xs.length cap, Value.int .i64 ((xs.length : Nat) : Int), Value.bool bad]) (cs' := [Value.slice a xs.length cap, Value.int .i64 ((xs.length : Nat) : Int), Value.bool true]) (v := Value.bool true) (LL' := [[cb b [Value.slice a xs.length cap, Value.int .i64 ((xs.length : Nat) : Int), Value.bool true] 104]]) rfl rfl (by kernel_rfl) (by kernel_rfl) Try.sizeOf4 rfl rfl rfl (by simp) rfl rfl) (fun _ => ?_)
      refine Wl.nil ?_
      refine hK15 _ _ _ ?_
      refine W.prune' [] [] (by kernel_rfl) (fun f16 => ?_)
      refine W.seq (fun K17 hK17 => ?_)
      refine W.region ?_
      refine Wl.ht rfl (Ht.made (mk := fun b_ => .slice (some ⟨b_, 0, none⟩) 0 0) (t := 5) (cs := []) rfl (fun _ => by kernel_rfl)) (fun p32 => ?_)
      refine Wl.run 1 (by kernel_rfl) ?_
      refine Wl.nil ?_
      refine hK17 _ _ _ ?_
      refine W.prune' [4] [Value.slice (some ⟨p32, 0, none⟩) 0 0] (by kernel_rfl) (fun f18 => ?_)
      refine W.ret ?_
      show ∀ w_, _ → bodyPostM (fence none) 0 Try.prog Try.f77 _ Exit.ret _ w_
      exact fun w_ hS_ => fin_ret (ret1 rfl (RV.tmp (v := Value.slice (some ⟨p32, 0, none⟩) 0 0) (by kernel_rfl)) hS_ ⟨(FS.mk false p32 0 []), (by have hk : ¬ asked ((k : Nat) : Int) ≤ (xs.drop i).length := (by rw [asked_nat, List.length_drop]; omega); dsimp only; rw [eOut_f hk]; exact FS.lit_ok (by decide)), congrArg Ending.returned ((by have hk : ¬ asked ((k : Nat) : Int) ≤ (xs.drop i).length := (by rw [asked_nat, List.length_drop]; omega); dsimp only; rw [eOut_f hk]; rfl)), (Mem.cast (by have hk : ¬ asked ((k : Nat) : Int) ≤ (xs.drop i).length := (by rw [asked_nat, List.length_drop]; omega); dsimp only; rw [eOut_f hk, eBad_f hk]; unfold rI; rw [if_neg (by rw [asked_nat]; omega)]; rfl) (hS_.pick (LL' := [[cb b [Value.slice a xs.length cap, Value.int .i64 ((xs.length : Nat) : Int), Value.bool true] 104], [cb p32 [] 5]]) [1, 0] (by decide) rfl))⟩)
    · have qh12 := h12; try simp only [Bool.and_eq_true, Bool.or_eq_true, Bool.not_eq_true', Bool.not_eq_false', Bool.and_eq_false_iff, Bool.or_eq_false_iff, decide_eq_true_eq, decide_eq_false_iff_not, beq_iff_eq, bne_iff_ne, beq_eq_false_iff_ne, bne_eq_false_iff_eq] at qh12
      refine W.skip' ?_
      refine hK8 _ _ _ ?_
      refine W.prune' [0, 1] [Value.pointer (some ⟨b, 0, none⟩), Value.int .i64 ((k : Nat) : Int)] (by kernel_rfl) (fun f19 => ?_)
      refine W.seq (fun K20 hK20 => ?_)
      refine W.draws [(1, true), (2, true), (3, true), (4, true), (5, true), (6, true), (7, true), (8, true), (9, true), (10, true), (11, true), (12, true), (13, true), (14, true), (15, true), (0, false), (16, false), (17, false)] [1, 2, 3, 4, 5, 6, 7, 8, 9, 10, 11, 12, 13, 14, 15] (Mem w [b] [[cb b [Value.slice a xs.length cap, Value.int .i64 ((i : Nat) : Int), Value.bool bad] 104]]) (by kernel_rfl) (by kernel_rfl) (by kernel_rfl) rfl (by kernel_rfl) (fun _ _ h_ => h_.drawn _) (fun _ h_ => h_) ?_
      refine Wd.run 3 (by kernel_rfl) ?_
      refine Wd.ys (v := Value.slice a xs.length cap) rfl rfl rfl (Ys.load (b := b) (o' := 0) (i := 0) (j := 0) (cs := [Value.slice a xs.length cap, Value.int .i64 ((i : Nat) : Int), Value.bool bad]) (v := Value.slice a xs.length cap) rfl (by kernel_rfl) Try.isAgg25 rfl rfl rfl) ?_
      refine Wd.run 3 (by kernel_rfl) ?_
      refine Wd.ys (v := Value.int .i64 ((i : Nat) : Int)) rfl rfl rfl (Ys.load (b := b) (o' := 1) (i := 0) (j := 0) (cs := [Value.slice a xs.length cap, Value.int .i64 ((i : Nat) : Int), Value.bool bad]) (v := Value.int .i64 ((i : Nat) : Int)) rfl (by kernel_rfl) Try.isAgg3 rfl rfl rfl) ?_
      refine Wd.run 3 (by kernel_rfl) ?_
      refine Wd.ys (v := Value.int .i64 ((i : Nat) : Int)) rfl rfl rfl (Ys.load (b := b) (o' := 1) (i := 0) (j := 0) (cs := [Value.slice a xs.length cap, Value.int .i64 ((i : Nat) : Int), Value.bool bad]) (v := Value.int .i64 ((i : Nat) : Int)) rfl (by kernel_rfl) Try.isAgg3 rfl rfl rfl) ?_
      refine Wd.run 1 (by kernel_rfl) ?_
      refine Wd.ys (v := Value.int .i64 ((i + k : Nat) : Int)) rfl rfl rfl ((Ys.pure (v := .int .i64 (iadd .i64 ((i : Nat) : Int) ((k : Nat) : Int))) (fun _ => by kernel_rfl)).conseq (int_congr (iadd_eq (by omega) (by omega) (by omega)))) ?_
      refine Wd.ys (v := Value.slice (sla a cap i 1) ((i + k) - i) (cap - i)) rfl rfl rfl (Ys.sliceLH (a := a) (len := xs.length) (cap := cap) (sz := 1) (k := .i64) (i := ((i : Nat) : Int)) (k' := .i64) (j := ((i + k : Nat) : Int)) rfl (by kernel_rfl) (by kernel_rfl) (by kernel_rfl) Try.runUnderlying25 Try.sizeOf5 (by omega) (by omega) (by omega)) ?_
      refine Wd.ht rfl rfl (Ht.made (mk := fun b_ => .slice (some ⟨b_, 0, none⟩) 0 0) (t := 5) (cs := []) rfl (fun _ => by kernel_rfl)) (.inr fun _ _ h_ => h_.pick [1] (by decide) rfl) (fun p33 => ?_)
      refine Wd.ht rfl rfl (Ht.append (eu := 5) (xv := Value.slice (sla a cap i 1) ((i + k) - i) (cap - i)) (i := 0) (g := (FS.mk false p33 0 [])) (e := 5) (ii := (Try.prog.info? 5).getD default) (z := Value.int .u8 0) (sz := 1) (bytes := 1) (nn := 0) (m := (i + k) - i) (k := (i + k) - i) (xs := mc b8 []) (news := mc b8 ((xs.drop i).take ((i + k) - i))) (cs' := mc b8 ((xs.drop i).take ((i + k) - i))) (Lo := fun g21 => [g21.seg 5 (mc b8 ((xs.drop i).take ((i + k) - i))), [cb b [Value.slice a xs.length cap, Value.int .i64 ((i : Nat) : Int), Value.bool bad] 104]]) rfl rfl (by kernel_rfl) (by kernel_rfl) (by kernel_rfl) (by kernel_rfl) (by kernel_rfl) (by kernel_rfl) (by kernel_rfl) (by kernel_rfl) (by kernel_rfl) rfl (FS.lit_ok (by decide)) (by first | rfl | simp [mc, be_len]) (fun _ => rfl) (Src.at (a := sla a cap i 1) (by first | rfl | (rw [mc_len, List.length_take]; omega) | (rw [mc_len, List.length_take, List.length_drop]; omega) | (simp [mc, be_len]; done) | (simp [mc, be_len]; omega)) (fun w_ h_ => (((hat.mem' h_ hne).mdrop cap i (by omega)).mtake ((i + k) - i)))) (by first | rfl | (rw [mc_len, List.length_take]; omega) | (rw [mc_len, List.length_take, List.length_drop]; omega) | (simp [mc, be_len]; done) | (simp [mc, be_len]; omega)) (mc_one (fun _ => rfl) _) (by first | omega | (simp; done) | (simp; omega)) (by simp only [maxLen]; first | omega | (simp; done) | (simp; omega)) (by first | omega | (simp; done) | (simp; omega)) rfl (fun _ => rfl)) (.inr fun _ _ h_ => h_.pick [1] (by decide) rfl) (fun x25 => ?_)
      obtain ⟨g21, ok22, hn23, hn24⟩ := x25
      refine Wd.castL (LL' := [g21.seg 5 (mc b8 ((xs.drop i).take ((i + k) - i))), [cb b [Value.slice a xs.length cap, Value.int .i64 ((i : Nat) : Int), Value.bool bad] 104]]) rfl ?_
      refine Wd.yc (v := Value.slice g21.a ((i + k) - i) g21.cap) rfl rfl rfl (Ys.yc (Ys.pure (fun _ => by kernel_rfl))) (.inl (by kernel_rfl)) ?_
      refine Wd.nil ?_
      refine hK20 _ _ _ ?_
      refine W.prune' [0, 1, 5] [Value.pointer (some ⟨b, 0, none⟩), Value.int .i64 ((k : Nat) : Int), Value.slice g21.a ((i + k) - i) g21.cap] (by kernel_rfl) (fun f26 => ?_)
      refine W.seq (fun K27 hK27 => ?_)
      refine W.region ?_
      refine Wl.run 3 (by kernel_rfl) ?_
      refine Wl.ys (v := Value.int .i64 ((i : Nat) : Int)) rfl rfl (Ys.load (b := b) (o' := 1) (i := 1) (j := 0) (cs := [Value.slice a xs.length cap, Value.int .i64 ((i : Nat) : Int), Value.bool bad]) (v := Value.int .i64 ((i : Nat) : Int)) rfl (by kernel_rfl) Try.isAgg3 rfl rfl rfl) ?_
      refine Wl.run 1 (by kernel_rfl) ?_
      refine Wl.ys (v := Value.int .i64 ((i + k : Nat) : Int)) rfl rfl ((Ys.pure (v := .int .i64 (iadd .i64 ((i : Nat) : Int) ((k : Nat) : Int))) (fun _ => by kernel_rfl)).conseq (int_congr (iadd_eq (by omega) (by omega) (by omega)))) ?_
      refine Wl.run 2 (by kernel_rfl) ?_
      refine Wl.ht rfl (Ht.store (b := b) (o' := 1) (i := 1) (j := 0) (cs := [Value.slice a xs.length cap, Value.int .i64 ((i : Nat) : Int), Value.bool bad]) (cs' := [Value.slice a xs.length cap, Value.int .i64 ((i + k : Nat) : Int), Value.bool bad]) (v := Value.int .i64 ((i + k : Nat) : Int)) (LL' := [g21.seg 5 (mc b8 ((xs.drop i).take ((i + k) - i))), [cb b [Value.slice a xs.length cap, Value.int .i64 ((i + k : Nat) : Int), Value.bool bad] 104]]) rfl rfl (by kernel_rfl) (by kernel_rfl) Try.sizeOf3 rfl rfl rfl (by simp) rfl rfl) (fun _ => ?_)
      refine Wl.nil ?_
      refine hK27 _ _ _ ?_
      refine W.prune' [5] [Value.slice g21.a ((i + k) - i) g21.cap] (by kernel_rfl) (fun f28 => ?_)
      refine W.seq (fun K29 hK29 => ?_)
      refine W.region ?_
      refine Wl.run 2 (by kernel_rfl) ?_
      refine Wl.nil ?_
      refine hK29 _ _ _ ?_
      refine W.prune' [4] [Value.slice g21.a ((i + k) - i) g21.cap] (by kernel_rfl) (fun f30 => ?_)
      refine W.ret ?_
      show ∀ w_, _ → bodyPostM (fence none) 0 Try.prog Try.f77 _ Exit.ret _ w_
      exact fun w_ hS_ => fin_ret (ret1 rfl (RV.tmp (v := Value.slice g21.a ((i + k) - i) g21.cap) (by kernel_rfl)) hS_ ⟨g21, (by have hk : asked ((k : Nat) : Int) ≤ (xs.drop i).length := (by rw [asked_nat, List.length_drop]; omega); have e1 : eOut (xs.drop i) ((k : Nat) : Int) = (xs.drop i).take ((i + k) - i) := (by rw [eOut_t hk, asked_nat]; congr 1; omega); have hm : ((xs.drop i).take ((i + k) - i)).length = i + k - i := (by simp; omega); dsimp only; rw [e1, hm]; exact ok22), congrArg Ending.returned ((by have hk : asked ((k : Nat) : Int) ≤ (xs.drop i).length := (by rw [asked_nat, List.length_drop]; omega); have e1 : eOut (xs.drop i) ((k : Nat) : Int) = (xs.drop i).take ((i + k) - i) := (by rw [eOut_t hk, asked_nat]; congr 1; omega); have hm : ((xs.drop i).take ((i + k) - i)).length = i + k - i := (by simp; omega); dsimp only; rw [e1, hm])), (Mem.cast (by have hk : asked ((k : Nat) : Int) ≤ (xs.drop i).length := (by rw [asked_nat, List.length_drop]; omega); have e1 : eOut (xs.drop i) ((k : Nat) : Int) = (xs.drop i).take ((i + k) - i) := (by rw [eOut_t hk, asked_nat]; congr 1; omega); have hm : ((xs.drop i).take ((i + k) - i)).length = i + k - i := (by simp; omega); dsimp only; rw [e1, eBad_t hk]; unfold rI; rw [if_pos (by rw [asked_nat]; omega), asked_nat]; try simp) (hS_.pick (LL' := [[cb b [Value.slice a xs.length cap, Value.int .i64 ((i + k : Nat) : Int), Value.bool bad] 104], g21.seg 5 (mc b8 ((xs.drop i).take ((i + k) - i)))]) [1, 0] (by decide) rfl))⟩)
theorem rbytes_c (xs : List UInt8) (a : Option Addr) (cap i : Nat) (bad : Bool) (b : Nat) (n : Int) (w : World) (hl : Mem w [b] [[cb b [.slice a xs.length cap, .int .i64 ((i : Nat) : Int), .bool bad] 104]] w) (hat : At w a (byc xs)) (hi : i ≤ xs.length) (hcap : xs.length ≤ cap) (hy : xs.length ≤ 70368744177664) (hn64 : n ≤ 9223372036854775807) : Calls Try.prog 77 #[.pointer (some ⟨b, 0, none⟩), .int .i64 n] w (RetM w (fun g : FS => g.ok 1 (eOut (xs.drop i) n).length) (fun g => .slice g.a (eOut (xs.drop i) n).length g.cap) [b] (fun g => [[cb b [.slice a xs.length cap, .int .i64 ((rI xs i n : Nat) : Int), .bool (eBad (xs.drop i) bad n)] 104], g.seg 5 (byc (eOut (xs.drop i) n))])) := by
  by_cases hn : n < 0
  · exact rbytes_neg xs a cap i bad b n w hl hat hi hcap hy hn
  · obtain ⟨k, rfl⟩ := Int.eq_ofNat_of_zero_le (by omega : 0 ≤ n)
    exact rbytes_nat xs a cap i bad b k w hl hat hi hcap hy (by omega)
theorem renum_c (xs : List UInt8) (a : Option Addr) (cap i : Nat) (bad : Bool) (b : Nat) (size : Int) (w : World) (hl : Mem w [b] [[cb b [.slice a xs.length cap, .int .i64 ((i : Nat) : Int), .bool bad] 104]] w) (hat : At w a (byc xs)) (hi : i ≤ xs.length) (hcap : xs.length ≤ cap) (hy : xs.length ≤ 70368744177664) : Calls Try.prog 54 #[Value.pointer (some ⟨b, 0, none⟩), Value.int .i64 size] w (RetM w (fun _ : Unit => True) (fun _ => .int .u64 ((bv (eOut (xs.drop i) ((size8 size : Nat) : Int)) : Nat) : Int)) [b] (fun _ => [[cb b [.slice a xs.length cap, .int .i64 ((rI xs i ((size8 size : Nat) : Int) : Nat) : Int), .bool (eBad (xs.drop i) bad ((size8 size : Nat) : Int))] 104]])) := by
  have hne := reye_apart hl hat; have hs8 := size8_le size; have ho8 := eOut_le (xs.drop i) ((size8 size : Nat) : Int); rw [asked_size8] at ho8
  refine calls_W (M := [b]) (LL := [[cb b [Value.slice a xs.length cap, Value.int .i64 ((i : Nat) : Int), Value.bool bad] 104]]) (n := 27) Try.func54 rfl rfl (by simp) (hl) ?_
  refine W.seq (fun K1 hK1 => ?_)
  refine W.region ?_
  refine Wl.run 1 (by kernel_rfl) ?_
  refine Wl.nil ?_
  refine hK1 _ _ _ ?_
  refine W.seq (fun K2 hK2 => ?_)
  refine W.region ?_
  refine Wl.run 2 (by kernel_rfl) ?_
  refine Wl.yc (v := Value.int .i64 ((size8 size : Nat) : Int)) rfl rfl (Yc.call (k := 78) (args := #[Value.int .i64 size]) (fun _ => by kernel_rfl) (fun w_ hm_ => rsize_c _ _)) ?_
  refine Wl.ht rfl (Ht.call (β := FS) (k := 77) (args := #[Value.pointer (some ⟨b, 0, none⟩), Value.int .i64 ((size8 size : Nat) : Int)]) (Lin := [[cb b [Value.slice a xs.length cap, Value.int .i64 ((i : Nat) : Int), Value.bool bad] 104]]) (Lk := []) (Mi := [b]) (Lo := fun g3 => [[cb b [Value.slice a xs.length cap, Value.int .i64 ((rI xs i ((size8 size : Nat) : Int) : Nat) : Int), Value.bool (eBad (xs.drop i) bad ((size8 size : Nat) : Int))] 104], g3.seg 5 (mc b8 (eOut (xs.drop i) ((size8 size : Nat) : Int)))]) [0] [] rfl (fun _ => by kernel_rfl) (by decide) rfl rfl rfl (fun w_ hm_ hl_ => (rbytes_c xs a cap i bad b ((size8 size : Nat) : Int) _ hl_ (hat.mem' hm_ hne) (by first | omega | assumption) (by omega) (by omega) (by omega))) (fun _ => rfl)) (fun x5 => ?_)
  obtain ⟨g3, ok4⟩ := x5
  refine Wl.castL (LL' := [[cb b [Value.slice a xs.length cap, Value.int .i64 ((rI xs i ((size8 size : Nat) : Int) : Nat) : Int), Value.bool (eBad (xs.drop i) bad ((size8 size : Nat) : Int))] 104], g3.seg 5 (mc b8 (eOut (xs.drop i) ((size8 size : Nat) : Int)))]) rfl ?_
  refine Wl.run 2 (by kernel_rfl) ?_
  refine Wl.nil ?_
  refine hK2 _ _ _ ?_
  refine W.prune' [5, 6] [Value.slice g3.a ((eOut (xs.drop i) ((size8 size : Nat) : Int)).length) g3.cap, Value.int .u64 0] (by kernel_rfl) (fun f6 => ?_)
  refine W.seq (fun K7 hK7 => ?_)
  refine W.seq (fun K8 hK8 => ?_)
  refine W.region ?_
  refine Wl.run 1 (by kernel_rfl) ?_
  refine Wl.nil ?_
  refine hK8 _ _ _ ?_
  refine W.block ?_
  refine W.loop1 [5, 6, 7] (fun (k : Nat) => [Value.slice g3.a ((eOut (xs.drop i) ((size8 size : Nat) : Int)).length) g3.cap, Value.int .u64 ((bv ((eOut (xs.drop i) ((size8 size : Nat) : Int)).take k) : Nat) : Int), Value.int .i64 ((k : Nat) : Int)]) (fun (k : Nat) => k ≤ (eOut (xs.drop i) ((size8 size : Nat) : Int)).length) (fun (k : Nat) => [[cb b [Value.slice a xs.length cap, Value.int .i64 ((rI xs i ((size8 size : Nat) : Int) : Nat) : Int), Value.bool (eBad (xs.drop i) bad ((size8 size : Nat) : Int))] 104], g3.seg 5 (mc b8 (eOut (xs.drop i) ((size8 size : Nat) : Int)))]) (fun (k : Nat) => (eOut (xs.drop i) ((size8 size : Nat) : Int)).length - k) 0 (Eq.trans (b := ([Value.slice g3.a ((eOut (xs.drop i) ((size8 size : Nat) : Int)).length) g3.cap, Value.int .u64 0, Value.int .i64 0] : List Value)) (by kernel_rfl) (by simp [bv])) (by first | omega | trivial | simp) (by rfl) (fun k f10 J9 hp11 hJ9 => ?_)
  have hk := hp11
  have hb := bv_lt64 (xs := (eOut (xs.drop i) ((size8 size : Nat) : Int)).take k) (by simp; omega)
  refine W.seq (fun K12 hK12 => ?_)
  refine W.seq (fun K13 hK13 => ?_)
  refine W.region ?_
  refine Wl.run 4 (by kernel_rfl) ?_
  refine Wl.nil ?_
  refine hK13 _ _ _ ?_
  refine W.prune' [5, 6, 7, 15] [Value.slice g3.a ((eOut (xs.drop i) ((size8 size : Nat) : Int)).length) g3.cap, Value.int .u64 ((bv ((eOut (xs.drop i) ((size8 size : Nat) : Int)).take k) : Nat) : Int), Value.int .i64 ((k : Nat) : Int), Value.bool (decide (((k : Nat) : Int) < (((eOut (xs.drop i) ((size8 size : Nat) : Int)).length : Nat) : Int)))] (by kernel_rfl) (fun f14 => ?_)
  refine W.cond (decide (((k : Nat) : Int) < (((eOut (xs.drop i) ((size8 size : Nat) : Int)).length : Nat) : Int))) (by kernel_rfl) (fun h15 => ?_) (fun h16 => ?_)
  · have qh15 := h15; try simp only [Bool.and_eq_true, Bool.or_eq_true, Bool.not_eq_true', Bool.not_eq_false', Bool.and_eq_false_iff, Bool.or_eq_false_iff, decide_eq_true_eq, decide_eq_false_iff_not, beq_iff_eq, bne_iff_ne, beq_eq_false_iff_ne, bne_eq_false_iff_eq] at qh15
    refine W.skip' ?_
    refine hK12 _ _ _ ?_
    refine W.prune' [5, 6, 7] [Value.slice g3.a ((eOut (xs.drop i) ((size8 size : Nat) : Int)).length) g3.cap, Value.int .u64 ((bv ((eOut (xs.drop i) ((size8 size : Nat) : Int)).take k) : Nat) : Int), Value.int .i64 ((k : Nat) : Int)] (by kernel_rfl) (fun f17 => ?_)
    refine W.seq (fun K18 hK18 => ?_)
    refine W.block ?_
    refine W.region ?_
    refine Wl.run 1 (by kernel_rfl) ?_
    refine Wl.ys (v := Value.int .u64 (((256 * (bv ((eOut (xs.drop i) ((size8 size : Nat) : Int)).take k))) % 18446744073709551616 : Nat) : Int)) rfl rfl ((Ys.pure (v := .int .u64 (imul .u64 ((256 : Nat) : Int) ((bv ((eOut (xs.drop i) ((size8 size : Nat) : Int)).take k) : Nat) : Int))) (fun _ => by kernel_rfl)).conseq (int_congr (imul_mod rfl))) ?_
    refine Wl.run 2 (by kernel_rfl) ?_
    refine Wl.ys (v := Value.pointer (some (ela g3.a (k * 1)))) rfl rfl (Ys.indexAddr (k := .i64) (a := g3.a) (len := (eOut (xs.drop i) ((size8 size : Nat) : Int)).length) (cap := g3.cap) (i := ((k : Nat) : Int)) (sz := 1) rfl (by kernel_rfl) (by kernel_rfl) Try.runUnderlying25 Try.sizeOf5 (by omega) (by omega) (by rw [FS.a_own (FS.notnil ok4 (by omega))]; rfl)) ?_
    refine Wl.ys (v := Value.int .u8 ((((eOut (xs.drop i) ((size8 size : Nat) : Int)).getD k 0).toNat : Nat) : Int)) rfl rfl (Ys.ld (a := ela g3.a (k * 1)) rfl (by kernel_rfl) Try.isAgg5 (fun w_ h_ => (FS.at (i := 1) (t := 5) h_ rfl (FS.nil_cs ok4 (mc_len1 _))).ld (mc_get1 0 (by first | omega | (simp; omega))))) ?_
    have hb19 : ((eOut (xs.drop i) ((size8 size : Nat) : Int)).getD k 0).toNat < 256 := UInt8.toNat_lt _
    refine Wl.ys (v := Value.int .u64 ((((eOut (xs.drop i) ((size8 size : Nat) : Int)).getD k 0).toNat : Nat) : Int)) rfl rfl ((Ys.pure (v := .int .u64 (icnv .u64 ((((eOut (xs.drop i) ((size8 size : Nat) : Int)).getD k 0).toNat : Nat) : Int))) (fun _ => by kernel_rfl)).conseq (int_congr (wrap_u64 (by omega) (by omega)))) ?_
    refine Wl.ys (v := Value.int .u64 (((((256 * (bv ((eOut (xs.drop i) ((size8 size : Nat) : Int)).take k))) % 18446744073709551616) + (((eOut (xs.drop i) ((size8 size : Nat) : Int)).getD k 0).toNat)) % 18446744073709551616 : Nat) : Int)) rfl rfl ((Ys.pure (v := .int .u64 (iadd .u64 (((256 * (bv ((eOut (xs.drop i) ((size8 size : Nat) : Int)).take k))) % 18446744073709551616 : Nat) : Int) ((((eOut (xs.drop i) ((size8 size : Nat) : Int)).getD k 0).toNat : Nat) : Int))) (fun _ => by kernel_rfl)).conseq (int_congr (iadd_mod rfl))) ?_
    refine Wl.run 1 (by kernel_rfl) ?_
    refine Wl.nil ?_
    refine hK18 _ _ _ ?_
    refine W.prune' [5, 6, 7] [Value.slice g3.a ((eOut (xs.drop i) ((size8 size : Nat) : Int)).length) g3.cap, Value.int .u64 (((((256 * (bv ((eOut (xs.drop i) ((size8 size : Nat) : Int)).take k))) % 18446744073709551616) + (((eOut (xs.drop i) ((size8 size : Nat) : Int)).getD k 0).toNat)) % 18446744073709551616 : Nat) : Int), Value.int .i64 ((k : Nat) : Int)] (by kernel_rfl) (fun f20 => ?_)
    refine W.region ?_
    refine Wl.run 1 (by kernel_rfl) ?_
    refine Wl.ys (v := Value.int .i64 ((k + 1 : Nat) : Int)) rfl rfl ((Ys.pure (v := .int .i64 (iadd .i64 ((k : Nat) : Int) 1)) (fun _ => by kernel_rfl)).conseq (int_congr (iadd_eq (by omega) (by omega) (by omega)))) ?_
    refine Wl.run 1 (by kernel_rfl) ?_
    refine Wl.nil ?_
    refine fun w_ h_ => hJ9 (k + 1) _ w_ (by omega) (by first | omega | trivial | simp) ?_ h_
    refine Eq.trans (b := ([Value.slice g3.a ((eOut (xs.drop i) ((size8 size : Nat) : Int)).length) g3.cap, Value.int .u64 (((((256 * (bv ((eOut (xs.drop i) ((size8 size : Nat) : Int)).take k))) % 18446744073709551616) + (((eOut (xs.drop i) ((size8 size : Nat) : Int)).getD k 0).toNat)) % 18446744073709551616 : Nat) : Int), Value.int .i64 ((k + 1 : Nat) : Int)] : List Value)) (by kernel_rfl) (by rw [bv_add (by omega) (by omega)])
  · have qh16 := h16; try simp only [Bool.and_eq_true, Bool.or_eq_true, Bool.not_eq_true', Bool.not_eq_false', Bool.and_eq_false_iff, Bool.or_eq_false_iff, decide_eq_true_eq, decide_eq_false_iff_not, beq_iff_eq, bne_iff_ne, beq_eq_false_iff_ne, bne_eq_false_iff_eq] at qh16
    refine W.exit ?_
    refine hK7 _ _ _ ?_
    refine W.pick (LL' := [[cb b [Value.slice a xs.length cap, Value.int .i64 ((rI xs i ((size8 size : Nat) : Int) : Nat) : Int), Value.bool (eBad (xs.drop i) bad ((size8 size : Nat) : Int))] 104]]) [0] (by decide) rfl ?_
    refine W.prune' [6] [Value.int .u64 ((bv ((eOut (xs.drop i) ((size8 size : Nat) : Int)).take k) : Nat) : Int)] (by kernel_rfl) (fun f21 => ?_)
    refine W.seq (fun K22 hK22 => ?_)
    refine W.region ?_
    refine Wl.run 2 (by kernel_rfl) ?_
    refine Wl.nil ?_
    refine hK22 _ _ _ ?_
    refine W.prune' [4] [Value.int .u64 ((bv ((eOut (xs.drop i) ((size8 size : Nat) : Int)).take k) : Nat) : Int)] (by kernel_rfl) (fun f23 => ?_)
    refine W.ret ?_
    show ∀ w_, _ → bodyPostM (fence none) 0 Try.prog Try.f54 _ Exit.ret _ w_
    exact fun w_ hS_ => fin_ret (ret1 rfl (RV.tmp (v := Value.int .u64 ((bv ((eOut (xs.drop i) ((size8 size : Nat) : Int)).take k) : Nat) : Int)) (by kernel_rfl)) hS_ ⟨(), trivial, congrArg Ending.returned ((by rw [List.take_of_length_le (by omega)])), hS_⟩)
end Go.Proofs.Ytejeafjkhomdoaa.Oct
