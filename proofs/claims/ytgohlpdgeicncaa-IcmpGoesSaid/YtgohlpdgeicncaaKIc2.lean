import Derived.Test.YtgohlpdgeicncaaKIc1
set_option linter.unusedVariables false
set_option linter.unusedSimpArgs false
set_option maxRecDepth 20000
namespace Go.Proofs.Ytgohlpdgeicncaa.Oct
open Go.RowKit Base
attribute [local irreducible] Ys Yc Ht HtIn Wl Wd W Mem pf dpf Wa Wo
theorem winetn_c (tt pr : UInt8) (id s d : Nat) (xs : List UInt8) (a : Option Addr) (cap : Nat) (len : Nat) (w : World) (hn : len = xs.length) (hat : At w a (byc xs)) (hi : id < 65536) (hs : s < 4294967296) (hd : d < 4294967296) (hl : xs.length ≤ 100000) (hlc : xs.length ≤ cap)  : Calls Try.prog 59 #[Value.agg ([Value.int .u8 ((tt.toNat : Nat) : Int), Value.int .u8 ((pr.toNat : Nat) : Int), Value.int .u16 ((id : Nat) : Int), Value.int .u32 ((s : Nat) : Int), Value.int .u32 ((d : Nat) : Int), Value.slice a len cap]).toArray] w (RetM w (fun g : FS => g.ok 1 (iB tt pr id s d xs).length) (fun g => .tuple #[.slice g.a (iB tt pr id s d xs).length g.cap, .int .i64 (iE xs.length)]) [] (fun g => [g.seg 5 (byc (iB tt pr id s d xs))])) := by
  subst hn; exact winet_c tt pr id s d xs a cap w hat hi hs hd hl hlc
theorem top_c (n : Nat) (w : World) (hn : n < 4294967296) : Calls Try.prog 60 #[Value.int .u32 ((n : Nat) : Int)] w (Ret w (.int .u32 ((n / 268435456 : Nat) : Int))) := by
  refine calls_W (M := []) (LL := []) (n := 5) Try.func60 rfl rfl (by simp) (Mem.refl _) ?_
  refine W.seq (fun K1 hK1 => ?_)
  refine W.region ?_
  refine Wl.run 1 (by kernel_rfl) ?_
  refine Wl.nil ?_
  refine hK1 _ _ _ ?_
  refine W.seq (fun K2 hK2 => ?_)
  refine W.region ?_
  refine Wl.run 1 (by kernel_rfl) ?_
  refine Wl.ys (v := Value.int .u32 ((n / 268435456 : Nat) : Int)) rfl rfl ((Ys.pure (v := .int .u32 (ishr .u32 ((n : Nat) : Int) ((28 : Nat) : Int))) (fun _ => by kernel_rfl)).conseq (int_congr (ishr_nat n 28 (by decide)))) ?_
  refine Wl.run 1 (by kernel_rfl) ?_
  refine Wl.nil ?_
  refine hK2 _ _ _ ?_
  refine W.prune' [2] [Value.int .u32 ((n / 268435456 : Nat) : Int)] (by kernel_rfl) (fun f3 => ?_)
  refine W.ret ?_
  show ∀ w_, _ → bodyPostM (fence none) 0 Try.prog Try.f60 _ Exit.ret _ w_
  exact fun w_ hS_ => fin_ret (ret1 rfl (RV.tmp (v := Value.int .u32 ((n / 268435456 : Nat) : Int)) (by kernel_rfl)) hS_ ⟨rfl, hS_.below⟩)
def mA (pr : UInt8) (xs : List UInt8) : Bool := (((pr.toNat : Nat) : Int) == 1) && ((!(qG pr xs)) || (((((qT pr xs 0).toNat : Nat) : Int) != 0) && ((((qT pr xs 0).toNat : Nat) : Int) != 8)))
def mS (s : Nat) : Bool := (((s : Nat) : Int) == 0) || (decide (((s / 268435456 : Nat) : Int) ≥ 14))
def mZ (d : Nat) : Bool := (((d : Nat) : Int) == 4294967295) || (((d / 268435456 : Nat) : Int) == 14)
def mayB (pr : UInt8) (s d : Nat) (xs : List UInt8) : Bool := !mA pr xs && (!mS s && (!mZ d && (iE xs.length == 0)))
def tlB (ki co tt pr : UInt8) (id s d : Nat) (xs : List UInt8) : List UInt8 := bif mayB pr s d xs then mB ki co 0 ((iB tt pr id s d xs).take 28) else []
theorem tlB_le (ki co tt pr : UInt8) (id s d : Nat) (xs : List UInt8) : (tlB ki co tt pr id s d xs).length ≤ 1480 := by
  unfold tlB; cases mayB pr s d xs
  · simp
  · exact mB_le ..
theorem imin_n (a b : Nat) : imin ((a : Nat) : Int) ((b : Nat) : Int) = ((min a b : Nat) : Int) := by unfold imin; rw [Nat.min_def]; repeat (first | omega | split)
theorem take_mn (xs : List UInt8) : xs.take (min xs.length 28) = xs.take 28 := by
  rcases Nat.le_total xs.length 28 with h | h
  · rw [Nat.min_eq_left h, List.take_of_length_le (Nat.le_refl _), List.take_of_length_le h]
  · rw [Nat.min_eq_right h]
theorem may_c (tt pr : UInt8) (id s d : Nat) (xs : List UInt8) (a : Option Addr) (cap : Nat) (w : World) (hat : At w a (byc xs)) (hi : id < 65536) (hs : s < 4294967296) (hd : d < 4294967296) (hl : xs.length ≤ 100000) (hlc : xs.length ≤ cap) : Calls Try.prog 29 #[Value.agg ([Value.int .u8 ((tt.toNat : Nat) : Int), Value.int .u8 ((pr.toNat : Nat) : Int), Value.int .u16 ((id : Nat) : Int), Value.int .u32 ((s : Nat) : Int), Value.int .u32 ((d : Nat) : Int), Value.slice a xs.length cap]).toArray] w (Ret w (.bool (mayB pr s d xs))) := by
  refine calls_W (M := []) (LL := []) (n := 57) Try.func29 rfl rfl (by simp) (Mem.refl _) ?_
  refine W.seq (fun K1 hK1 => ?_)
  refine W.region ?_
  refine Wl.ht rfl (Ht.box (v := Value.agg ([Value.int .u8 ((tt.toNat : Nat) : Int), Value.int .u8 ((pr.toNat : Nat) : Int), Value.int .u16 ((id : Nat) : Int), Value.int .u32 ((s : Nat) : Int), Value.int .u32 ((d : Nat) : Int), Value.slice a xs.length cap]).toArray) (cs := [Value.int .u8 ((tt.toNat : Nat) : Int), Value.int .u8 ((pr.toNat : Nat) : Int), Value.int .u16 ((id : Nat) : Int), Value.int .u32 ((s : Nat) : Int), Value.int .u32 ((d : Nat) : Int), Value.slice a xs.length cap]) rfl rfl (by kernel_rfl) rfl) (fun p1 => ?_)
  refine Wl.run 1 (by kernel_rfl) ?_
  refine Wl.nil ?_
  refine hK1 _ _ _ ?_
  refine W.prune' [1] [Value.pointer (some ⟨p1, 0, none⟩)] (by kernel_rfl) (fun f2 => ?_)
  refine W.seq (fun K3 hK3 => ?_)
  refine W.region ?_
  refine Wl.ys (v := Value.agg ([Value.int .u8 ((tt.toNat : Nat) : Int), Value.int .u8 ((pr.toNat : Nat) : Int), Value.int .u16 ((id : Nat) : Int), Value.int .u32 ((s : Nat) : Int), Value.int .u32 ((d : Nat) : Int), Value.slice a xs.length cap]).toArray) rfl rfl (Ys.loadN (b := p1) (o' := 0) (i := 0) (j := 0) (cs := [Value.int .u8 ((tt.toNat : Nat) : Int), Value.int .u8 ((pr.toNat : Nat) : Int), Value.int .u16 ((id : Nat) : Int), Value.int .u32 ((s : Nat) : Int), Value.int .u32 ((d : Nat) : Int), Value.slice a xs.length cap]) (vs := [Value.int .u8 ((tt.toNat : Nat) : Int), Value.int .u8 ((pr.toNat : Nat) : Int), Value.int .u16 ((id : Nat) : Int), Value.int .u32 ((s : Nat) : Int), Value.int .u32 ((d : Nat) : Int), Value.slice a xs.length cap]) rfl (by kernel_rfl) Try.isAgg61 Try.sizeOf61 rfl rfl rfl rfl) ?_
  have hq7 := qD_le pr xs
  have hq8 := qN_lt pr xs
  refine Wl.ht rfl (Ht.call (β := FS) (k := 58) (args := #[Value.agg ([Value.int .u8 ((tt.toNat : Nat) : Int), Value.int .u8 ((pr.toNat : Nat) : Int), Value.int .u16 ((id : Nat) : Int), Value.int .u32 ((s : Nat) : Int), Value.int .u32 ((d : Nat) : Int), Value.slice a xs.length cap]).toArray]) (Lin := []) (Lk := [[cb p1 [Value.int .u8 ((tt.toNat : Nat) : Int), Value.int .u8 ((pr.toNat : Nat) : Int), Value.int .u16 ((id : Nat) : Int), Value.int .u32 ((s : Nat) : Int), Value.int .u32 ((d : Nat) : Int), Value.slice a xs.length cap] 61]]) (Mi := []) (Lo := fun g4 => [g4.seg 5 (mc b8 (qD pr xs)), [cb p1 [Value.int .u8 ((tt.toNat : Nat) : Int), Value.int .u8 ((pr.toNat : Nat) : Int), Value.int .u16 ((id : Nat) : Int), Value.int .u32 ((s : Nat) : Int), Value.int .u32 ((d : Nat) : Int), Value.slice a xs.length cap] 61]]) [] [0] rfl (fun _ => by kernel_rfl) (by decide) rfl rfl rfl (fun w_ hm_ hl_ => (asksn_c tt pr id s d xs a cap xs.length _ (by first | rfl | (rw [List.length_take]; omega) | (simp; done) | (simp [be_len, be_len, psh_len]; omega)) (hat.mem0 hm_) (by omega) (by omega) (by omega) (by first | omega | (simp; done) | (simp; omega)) (by first | omega | (simp; omega)))) (fun _ => rfl)) (fun x6 => ?_)
  obtain ⟨g4, ok5⟩ := x6
  refine Wl.castL (LL' := [g4.seg 5 (mc b8 (qD pr xs)), [cb p1 [Value.int .u8 ((tt.toNat : Nat) : Int), Value.int .u8 ((pr.toNat : Nat) : Int), Value.int .u16 ((id : Nat) : Int), Value.int .u32 ((s : Nat) : Int), Value.int .u32 ((d : Nat) : Int), Value.slice a xs.length cap] 61]]) rfl ?_
  refine Wl.run 3 (by kernel_rfl) ?_
  refine Wl.ht rfl (Ht.alloc (z := Value.agg ([Value.int .u8 0, Value.int .u8 0, Value.int .u32 0, Value.slice none 0 0]).toArray) (cs := [Value.int .u8 0, Value.int .u8 0, Value.int .u32 0, Value.slice none 0 0]) rfl rfl Try.zeroValue44 rfl) (fun p3 => ?_)
  refine Wl.ht rfl (Ht.storeN (b := p3) (o' := 0) (i := 0) (j := 0) (cs := [Value.int .u8 0, Value.int .u8 0, Value.int .u32 0, Value.slice none 0 0]) (vs := [Value.int .u8 (((qT pr xs 0).toNat : Nat) : Int), Value.int .u8 (((qT pr xs 1).toNat : Nat) : Int), Value.int .u32 ((qN pr xs : Nat) : Int), Value.slice g4.a ((qD pr xs).length) g4.cap]) (cs' := [Value.int .u8 (((qT pr xs 0).toNat : Nat) : Int), Value.int .u8 (((qT pr xs 1).toNat : Nat) : Int), Value.int .u32 ((qN pr xs : Nat) : Int), Value.slice g4.a ((qD pr xs).length) g4.cap]) (LL' := [[cb p3 [Value.int .u8 (((qT pr xs 0).toNat : Nat) : Int), Value.int .u8 (((qT pr xs 1).toNat : Nat) : Int), Value.int .u32 ((qN pr xs : Nat) : Int), Value.slice g4.a ((qD pr xs).length) g4.cap] 44], g4.seg 5 (mc b8 (qD pr xs)), [cb p1 [Value.int .u8 ((tt.toNat : Nat) : Int), Value.int .u8 ((pr.toNat : Nat) : Int), Value.int .u16 ((id : Nat) : Int), Value.int .u32 ((s : Nat) : Int), Value.int .u32 ((d : Nat) : Int), Value.slice a xs.length cap] 61]]) rfl rfl (by kernel_rfl) (by kernel_rfl) Try.sizeOf44 (by simp [Value.oneCell']) rfl rfl (by simp) rfl rfl) (fun _ => ?_)
  refine Wl.run 1 (by kernel_rfl) ?_
  refine Wl.nil ?_
  refine hK3 _ _ _ ?_
  refine W.prune' [1, 3, 4] [Value.pointer (some ⟨p1, 0, none⟩), Value.pointer (some ⟨p3, 0, none⟩), Value.bool (qG pr xs)] (by kernel_rfl) (fun f9 => ?_)
  refine W.seq (fun K10 hK10 => ?_)
  refine W.region ?_
  refine Wl.ys (v := Value.agg ([Value.int .u8 ((tt.toNat : Nat) : Int), Value.int .u8 ((pr.toNat : Nat) : Int), Value.int .u16 ((id : Nat) : Int), Value.int .u32 ((s : Nat) : Int), Value.int .u32 ((d : Nat) : Int), Value.slice a xs.length cap]).toArray) rfl rfl (Ys.loadN (b := p1) (o' := 0) (i := 2) (j := 0) (cs := [Value.int .u8 ((tt.toNat : Nat) : Int), Value.int .u8 ((pr.toNat : Nat) : Int), Value.int .u16 ((id : Nat) : Int), Value.int .u32 ((s : Nat) : Int), Value.int .u32 ((d : Nat) : Int), Value.slice a xs.length cap]) (vs := [Value.int .u8 ((tt.toNat : Nat) : Int), Value.int .u8 ((pr.toNat : Nat) : Int), Value.int .u16 ((id : Nat) : Int), Value.int .u32 ((s : Nat) : Int), Value.int .u32 ((d : Nat) : Int), Value.slice a xs.length cap]) rfl (by kernel_rfl) Try.isAgg61 Try.sizeOf61 rfl rfl rfl rfl) ?_
  have hq14 := iB_le tt pr id s d xs
  refine Wl.ht rfl (Ht.call (β := FS) (k := 59) (args := #[Value.agg ([Value.int .u8 ((tt.toNat : Nat) : Int), Value.int .u8 ((pr.toNat : Nat) : Int), Value.int .u16 ((id : Nat) : Int), Value.int .u32 ((s : Nat) : Int), Value.int .u32 ((d : Nat) : Int), Value.slice a xs.length cap]).toArray]) (Lin := []) (Lk := [[cb p3 [Value.int .u8 (((qT pr xs 0).toNat : Nat) : Int), Value.int .u8 (((qT pr xs 1).toNat : Nat) : Int), Value.int .u32 ((qN pr xs : Nat) : Int), Value.slice g4.a ((qD pr xs).length) g4.cap] 44], g4.seg 5 (mc b8 (qD pr xs)), [cb p1 [Value.int .u8 ((tt.toNat : Nat) : Int), Value.int .u8 ((pr.toNat : Nat) : Int), Value.int .u16 ((id : Nat) : Int), Value.int .u32 ((s : Nat) : Int), Value.int .u32 ((d : Nat) : Int), Value.slice a xs.length cap] 61]]) (Mi := []) (Lo := fun g11 => [g11.seg 5 (mc b8 (iB tt pr id s d xs)), [cb p3 [Value.int .u8 (((qT pr xs 0).toNat : Nat) : Int), Value.int .u8 (((qT pr xs 1).toNat : Nat) : Int), Value.int .u32 ((qN pr xs : Nat) : Int), Value.slice g4.a ((qD pr xs).length) g4.cap] 44], g4.seg 5 (mc b8 (qD pr xs)), [cb p1 [Value.int .u8 ((tt.toNat : Nat) : Int), Value.int .u8 ((pr.toNat : Nat) : Int), Value.int .u16 ((id : Nat) : Int), Value.int .u32 ((s : Nat) : Int), Value.int .u32 ((d : Nat) : Int), Value.slice a xs.length cap] 61]]) [] [0, 1, 2] rfl (fun _ => by kernel_rfl) (by decide) rfl rfl rfl (fun w_ hm_ hl_ => (winetn_c tt pr id s d xs a cap xs.length _ (by first | rfl | (rw [List.length_take]; omega) | (simp; done) | (simp [be_len, be_len, psh_len]; omega)) (hat.mem0 hm_) (by omega) (by omega) (by omega) (by first | omega | (simp; done) | (simp; omega)) (by first | omega | (simp; omega)))) (fun _ => rfl)) (fun x13 => ?_)
  obtain ⟨g11, ok12⟩ := x13
  refine Wl.castL (LL' := [g11.seg 5 (mc b8 (iB tt pr id s d xs)), [cb p3 [Value.int .u8 (((qT pr xs 0).toNat : Nat) : Int), Value.int .u8 (((qT pr xs 1).toNat : Nat) : Int), Value.int .u32 ((qN pr xs : Nat) : Int), Value.slice g4.a ((qD pr xs).length) g4.cap] 44], g4.seg 5 (mc b8 (qD pr xs)), [cb p1 [Value.int .u8 ((tt.toNat : Nat) : Int), Value.int .u8 ((pr.toNat : Nat) : Int), Value.int .u16 ((id : Nat) : Int), Value.int .u32 ((s : Nat) : Int), Value.int .u32 ((d : Nat) : Int), Value.slice a xs.length cap] 61]]) rfl ?_
  refine Wl.run 5 (by kernel_rfl) ?_
  refine Wl.nil ?_
  refine hK10 _ _ _ ?_
  refine W.pick (LL' := [[cb p3 [Value.int .u8 (((qT pr xs 0).toNat : Nat) : Int), Value.int .u8 (((qT pr xs 1).toNat : Nat) : Int), Value.int .u32 ((qN pr xs : Nat) : Int), Value.slice g4.a ((qD pr xs).length) g4.cap] 44], g4.seg 5 (mc b8 (qD pr xs)), [cb p1 [Value.int .u8 ((tt.toNat : Nat) : Int), Value.int .u8 ((pr.toNat : Nat) : Int), Value.int .u16 ((id : Nat) : Int), Value.int .u32 ((s : Nat) : Int), Value.int .u32 ((d : Nat) : Int), Value.slice a xs.length cap] 61]]) [1, 2, 3] (by decide) rfl ?_
  refine W.prune' [1, 3, 4, 6] [Value.pointer (some ⟨p1, 0, none⟩), Value.pointer (some ⟨p3, 0, none⟩), Value.bool (qG pr xs), Value.int .i64 (iE xs.length)] (by kernel_rfl) (fun f15 => ?_)
  refine W.seq (fun K16 hK16 => ?_)
  refine W.block ?_
  refine W.seq (fun K17 hK17 => ?_)
  refine W.region ?_
  refine Wl.run 1 (by kernel_rfl) ?_
  refine Wl.ys (v := Value.int .u8 ((pr.toNat : Nat) : Int)) rfl rfl (Ys.load (b := p1) (o' := 1) (i := 2) (j := 0) (cs := [Value.int .u8 ((tt.toNat : Nat) : Int), Value.int .u8 ((pr.toNat : Nat) : Int), Value.int .u16 ((id : Nat) : Int), Value.int .u32 ((s : Nat) : Int), Value.int .u32 ((d : Nat) : Int), Value.slice a xs.length cap]) (v := Value.int .u8 ((pr.toNat : Nat) : Int)) rfl (by kernel_rfl) Try.isAgg5 rfl rfl rfl) ?_
  refine Wl.run 2 (by kernel_rfl) ?_
  refine Wl.guard (v := Value.bool (qG pr xs)) (((pr.toNat : Nat) : Int) == 1) rfl (wantT rfl (by kernel_rfl)) rfl (fun hg18 => ?_) ?_
  · have qhg18 := hg18; try simp only [Bool.and_eq_true, Bool.or_eq_true, Bool.not_eq_true', Bool.not_eq_false', Bool.and_eq_false_iff, Bool.or_eq_false_iff, decide_eq_true_eq, decide_eq_false_iff_not, beq_iff_eq, bne_iff_ne, beq_eq_false_iff_ne, bne_eq_false_iff_eq] at qhg18
    exact Ys.pure (fun _ => by kernel_rfl)
  refine Wl.guard (v := Value.bool (!(qG pr xs))) (((pr.toNat : Nat) : Int) == 1) rfl (wantT rfl (by kernel_rfl)) rfl (fun hg19 => ?_) ?_
  · have qhg19 := hg19; try simp only [Bool.and_eq_true, Bool.or_eq_true, Bool.not_eq_true', Bool.not_eq_false', Bool.and_eq_false_iff, Bool.or_eq_false_iff, decide_eq_true_eq, decide_eq_false_iff_not, beq_iff_eq, bne_iff_ne, beq_eq_false_iff_ne, bne_eq_false_iff_eq] at qhg19
    refine Ys.at (t := 22) (v0 := Value.bool (qG pr xs)) (lz (g := ((pr.toNat : Nat) : Int) == 1) (u := undef) hg19 (by kernel_rfl)) ?_
    exact Ys.pure (fun _ => by kernel_rfl)
  refine Wl.guard (v := Value.bool (!(qG pr xs))) (((pr.toNat : Nat) : Int) == 1) rfl (wantT rfl (by kernel_rfl)) rfl (fun hg20 => ?_) ?_
  · have qhg20 := hg20; try simp only [Bool.and_eq_true, Bool.or_eq_true, Bool.not_eq_true', Bool.not_eq_false', Bool.and_eq_false_iff, Bool.or_eq_false_iff, decide_eq_true_eq, decide_eq_false_iff_not, beq_iff_eq, bne_iff_ne, beq_eq_false_iff_ne, bne_eq_false_iff_eq] at qhg20
    refine Ys.at (t := 23) (v0 := Value.bool (!(qG pr xs))) (lz (g := ((pr.toNat : Nat) : Int) == 1) (u := undef) hg20 (by kernel_rfl)) ?_
    exact Ys.pure (fun _ => by kernel_rfl)
  refine Wl.guard (v := Value.pointer (some ⟨p3, 0, none⟩)) ((((pr.toNat : Nat) : Int) == 1) && !(!(qG pr xs))) rfl (wantFz rfl rfl (by kernel_rfl)) rfl (fun hg21 => ?_) ?_
  · have qhg21 := hg21; try simp only [Bool.and_eq_true, Bool.or_eq_true, Bool.not_eq_true', Bool.not_eq_false', Bool.and_eq_false_iff, Bool.or_eq_false_iff, decide_eq_true_eq, decide_eq_false_iff_not, beq_iff_eq, bne_iff_ne, beq_eq_false_iff_ne, bne_eq_false_iff_eq] at qhg21
    exact Ys.pure (fun _ => by kernel_rfl)
  refine Wl.guard (v := Value.int .u8 (((qT pr xs 0).toNat : Nat) : Int)) ((((pr.toNat : Nat) : Int) == 1) && !(!(qG pr xs))) rfl (wantFz rfl rfl (by kernel_rfl)) rfl (fun hg22 => ?_) ?_
  · have qhg22 := hg22; try simp only [Bool.and_eq_true, Bool.or_eq_true, Bool.not_eq_true', Bool.not_eq_false', Bool.and_eq_false_iff, Bool.or_eq_false_iff, decide_eq_true_eq, decide_eq_false_iff_not, beq_iff_eq, bne_iff_ne, beq_eq_false_iff_ne, bne_eq_false_iff_eq] at qhg22
    refine Ys.at (t := 25) (v0 := Value.pointer (some ⟨p3, 0, none⟩)) (lz (g := (((pr.toNat : Nat) : Int) == 1) && !(!(qG pr xs))) (u := undef) hg22 (by kernel_rfl)) ?_
    exact Ys.load (b := p3) (o' := 0) (i := 0) (j := 0) (cs := [Value.int .u8 (((qT pr xs 0).toNat : Nat) : Int), Value.int .u8 (((qT pr xs 1).toNat : Nat) : Int), Value.int .u32 ((qN pr xs : Nat) : Int), Value.slice g4.a ((qD pr xs).length) g4.cap]) (v := Value.int .u8 (((qT pr xs 0).toNat : Nat) : Int)) rfl (by kernel_rfl) Try.isAgg5 rfl rfl rfl
  refine Wl.guard (v := Value.bool ((((qT pr xs 0).toNat : Nat) : Int) != 0)) ((((pr.toNat : Nat) : Int) == 1) && !(!(qG pr xs))) rfl (wantFz rfl rfl (by kernel_rfl)) rfl (fun hg23 => ?_) ?_
  · have qhg23 := hg23; try simp only [Bool.and_eq_true, Bool.or_eq_true, Bool.not_eq_true', Bool.not_eq_false', Bool.and_eq_false_iff, Bool.or_eq_false_iff, decide_eq_true_eq, decide_eq_false_iff_not, beq_iff_eq, bne_iff_ne, beq_eq_false_iff_ne, bne_eq_false_iff_eq] at qhg23
    refine Ys.at (t := 26) (v0 := Value.int .u8 (((qT pr xs 0).toNat : Nat) : Int)) (lz (g := (((pr.toNat : Nat) : Int) == 1) && !(!(qG pr xs))) (u := undef) hg23 (by kernel_rfl)) ?_
    exact Ys.pure (fun _ => by kernel_rfl)
  refine Wl.guard (v := Value.bool ((((qT pr xs 0).toNat : Nat) : Int) != 0)) ((((pr.toNat : Nat) : Int) == 1) && !(!(qG pr xs))) rfl (wantFz rfl rfl (by kernel_rfl)) rfl (fun hg24 => ?_) ?_
  · have qhg24 := hg24; try simp only [Bool.and_eq_true, Bool.or_eq_true, Bool.not_eq_true', Bool.not_eq_false', Bool.and_eq_false_iff, Bool.or_eq_false_iff, decide_eq_true_eq, decide_eq_false_iff_not, beq_iff_eq, bne_iff_ne, beq_eq_false_iff_ne, bne_eq_false_iff_eq] at qhg24
    refine Ys.at (t := 27) (v0 := Value.bool ((((qT pr xs 0).toNat : Nat) : Int) != 0)) (lz (g := (((pr.toNat : Nat) : Int) == 1) && !(!(qG pr xs))) (u := undef) hg24 (by kernel_rfl)) ?_
    exact Ys.pure (fun _ => by kernel_rfl)
  refine Wl.guard (v := Value.pointer (some ⟨p3, 0, none⟩)) (((((pr.toNat : Nat) : Int) == 1) && !(!(qG pr xs))) && ((((qT pr xs 0).toNat : Nat) : Int) != 0)) rfl (wantTz rfl rfl (by kernel_rfl)) rfl (fun hg25 => ?_) ?_
  · have qhg25 := hg25; try simp only [Bool.and_eq_true, Bool.or_eq_true, Bool.not_eq_true', Bool.not_eq_false', Bool.and_eq_false_iff, Bool.or_eq_false_iff, decide_eq_true_eq, decide_eq_false_iff_not, beq_iff_eq, bne_iff_ne, beq_eq_false_iff_ne, bne_eq_false_iff_eq] at qhg25
    exact Ys.pure (fun _ => by kernel_rfl)
  refine Wl.guard (v := Value.int .u8 (((qT pr xs 0).toNat : Nat) : Int)) (((((pr.toNat : Nat) : Int) == 1) && !(!(qG pr xs))) && ((((qT pr xs 0).toNat : Nat) : Int) != 0)) rfl (wantTz rfl rfl (by kernel_rfl)) rfl (fun hg26 => ?_) ?_
  · have qhg26 := hg26; try simp only [Bool.and_eq_true, Bool.or_eq_true, Bool.not_eq_true', Bool.not_eq_false', Bool.and_eq_false_iff, Bool.or_eq_false_iff, decide_eq_true_eq, decide_eq_false_iff_not, beq_iff_eq, bne_iff_ne, beq_eq_false_iff_ne, bne_eq_false_iff_eq] at qhg26
    refine Ys.at (t := 29) (v0 := Value.pointer (some ⟨p3, 0, none⟩)) (lz (g := ((((pr.toNat : Nat) : Int) == 1) && !(!(qG pr xs))) && ((((qT pr xs 0).toNat : Nat) : Int) != 0)) (u := undef) hg26 (by kernel_rfl)) ?_
    exact Ys.load (b := p3) (o' := 0) (i := 0) (j := 0) (cs := [Value.int .u8 (((qT pr xs 0).toNat : Nat) : Int), Value.int .u8 (((qT pr xs 1).toNat : Nat) : Int), Value.int .u32 ((qN pr xs : Nat) : Int), Value.slice g4.a ((qD pr xs).length) g4.cap]) (v := Value.int .u8 (((qT pr xs 0).toNat : Nat) : Int)) rfl (by kernel_rfl) Try.isAgg5 rfl rfl rfl
  refine Wl.guard (v := Value.bool ((((qT pr xs 0).toNat : Nat) : Int) != 8)) (((((pr.toNat : Nat) : Int) == 1) && !(!(qG pr xs))) && ((((qT pr xs 0).toNat : Nat) : Int) != 0)) rfl (wantTz rfl rfl (by kernel_rfl)) rfl (fun hg27 => ?_) ?_
  · have qhg27 := hg27; try simp only [Bool.and_eq_true, Bool.or_eq_true, Bool.not_eq_true', Bool.not_eq_false', Bool.and_eq_false_iff, Bool.or_eq_false_iff, decide_eq_true_eq, decide_eq_false_iff_not, beq_iff_eq, bne_iff_ne, beq_eq_false_iff_ne, bne_eq_false_iff_eq] at qhg27
    refine Ys.at (t := 30) (v0 := Value.int .u8 (((qT pr xs 0).toNat : Nat) : Int)) (lz (g := ((((pr.toNat : Nat) : Int) == 1) && !(!(qG pr xs))) && ((((qT pr xs 0).toNat : Nat) : Int) != 0)) (u := undef) hg27 (by kernel_rfl)) ?_
    exact Ys.pure (fun _ => by kernel_rfl)
  refine Wl.guard (v := Value.bool (((((qT pr xs 0).toNat : Nat) : Int) != 0) && ((((qT pr xs 0).toNat : Nat) : Int) != 8))) ((((pr.toNat : Nat) : Int) == 1) && !(!(qG pr xs))) rfl (wantFz rfl rfl (by kernel_rfl)) rfl (fun hg28 => ?_) ?_
  · have qhg28 := hg28; try simp only [Bool.and_eq_true, Bool.or_eq_true, Bool.not_eq_true', Bool.not_eq_false', Bool.and_eq_false_iff, Bool.or_eq_false_iff, decide_eq_true_eq, decide_eq_false_iff_not, beq_iff_eq, bne_iff_ne, beq_eq_false_iff_ne, bne_eq_false_iff_eq] at qhg28
    refine Ys.at (t := 28) (v0 := Value.bool ((((qT pr xs 0).toNat : Nat) : Int) != 0)) (lz (g := (((pr.toNat : Nat) : Int) == 1) && !(!(qG pr xs))) (u := undef) hg28 (by kernel_rfl)) ?_
    refine Ys.at (t := 31) (v0 := (bif (((qT pr xs 0).toNat : Nat) : Int) != 0 then Value.bool ((((qT pr xs 0).toNat : Nat) : Int) != 8) else undef)) (lz2 (g := (((pr.toNat : Nat) : Int) == 1) && !(!(qG pr xs))) hg28 (by kernel_rfl)) ?_
    exact Ys.and (e := (((qT pr xs 0).toNat : Nat) : Int) != 0) (b := (((qT pr xs 0).toNat : Nat) : Int) != 8) rfl (by kernel_rfl) (by kernel_rfl) (by kernel_rfl)
  refine Wl.guard (v := Value.bool ((!(qG pr xs)) || (((((qT pr xs 0).toNat : Nat) : Int) != 0) && ((((qT pr xs 0).toNat : Nat) : Int) != 8)))) (((pr.toNat : Nat) : Int) == 1) rfl (wantT rfl (by kernel_rfl)) rfl (fun hg29 => ?_) ?_
  · have qhg29 := hg29; try simp only [Bool.and_eq_true, Bool.or_eq_true, Bool.not_eq_true', Bool.not_eq_false', Bool.and_eq_false_iff, Bool.or_eq_false_iff, decide_eq_true_eq, decide_eq_false_iff_not, beq_iff_eq, bne_iff_ne, beq_eq_false_iff_ne, bne_eq_false_iff_eq] at qhg29
    refine Ys.at (t := 24) (v0 := Value.bool (!(qG pr xs))) (lz (g := ((pr.toNat : Nat) : Int) == 1) (u := undef) hg29 (by kernel_rfl)) ?_
    refine Ys.at (t := 32) (v0 := (bif !(!(qG pr xs)) then Value.bool (((((qT pr xs 0).toNat : Nat) : Int) != 0) && ((((qT pr xs 0).toNat : Nat) : Int) != 8)) else undef)) (lz2 (g := ((pr.toNat : Nat) : Int) == 1) hg29 (by kernel_rfl)) ?_
    exact Ys.or' (e := !(qG pr xs)) (b := ((((qT pr xs 0).toNat : Nat) : Int) != 0) && ((((qT pr xs 0).toNat : Nat) : Int) != 8)) rfl (by kernel_rfl) (by kernel_rfl) (by kernel_rfl)
  refine Wl.ys (v := Value.bool ((((pr.toNat : Nat) : Int) == 1) && ((!(qG pr xs)) || (((((qT pr xs 0).toNat : Nat) : Int) != 0) && ((((qT pr xs 0).toNat : Nat) : Int) != 8))))) rfl rfl (Ys.and (e := ((pr.toNat : Nat) : Int) == 1) (b := (!(qG pr xs)) || (((((qT pr xs 0).toNat : Nat) : Int) != 0) && ((((qT pr xs 0).toNat : Nat) : Int) != 8))) rfl (by kernel_rfl) (by kernel_rfl) (by kernel_rfl)) ?_
  refine Wl.run 1 (by kernel_rfl) ?_
  refine Wl.nil ?_
  refine hK17 _ _ _ ?_
  refine W.pick (LL' := [[cb p1 [Value.int .u8 ((tt.toNat : Nat) : Int), Value.int .u8 ((pr.toNat : Nat) : Int), Value.int .u16 ((id : Nat) : Int), Value.int .u32 ((s : Nat) : Int), Value.int .u32 ((d : Nat) : Int), Value.slice a xs.length cap] 61]]) [2] (by decide) rfl ?_
  refine W.prune' [1, 6, 17] [Value.pointer (some ⟨p1, 0, none⟩), Value.int .i64 (iE xs.length), Value.bool ((((pr.toNat : Nat) : Int) == 1) && ((!(qG pr xs)) || (((((qT pr xs 0).toNat : Nat) : Int) != 0) && ((((qT pr xs 0).toNat : Nat) : Int) != 8))))] (by kernel_rfl) (fun f30 => ?_)
  refine W.cond ((((pr.toNat : Nat) : Int) == 1) && ((!(qG pr xs)) || (((((qT pr xs 0).toNat : Nat) : Int) != 0) && ((((qT pr xs 0).toNat : Nat) : Int) != 8)))) (by kernel_rfl) (fun h31 => ?_) (fun h32 => ?_)
  · have qh31 := h31; try simp only [Bool.and_eq_true, Bool.or_eq_true, Bool.not_eq_true', Bool.not_eq_false', Bool.and_eq_false_iff, Bool.or_eq_false_iff, decide_eq_true_eq, decide_eq_false_iff_not, beq_iff_eq, bne_iff_ne, beq_eq_false_iff_ne, bne_eq_false_iff_eq] at qh31
    refine W.seq (fun K33 hK33 => ?_)
    refine W.region ?_
    refine Wl.run 1 (by kernel_rfl) ?_
    refine Wl.nil ?_
    refine hK33 _ _ _ ?_
    refine W.ret ?_
    show ∀ w_, _ → bodyPostM (fence none) 0 Try.prog Try.f29 _ Exit.ret _ w_
    exact fun w_ hS_ => fin_ret (ret1 rfl (RV.tmp (v := Value.bool false) (by kernel_rfl)) hS_ ⟨by clear hK1 hK3 hK10 hK16 hK17 hK33; refine congrArg Ending.returned ?_; unfold mayB; rw [show mA pr xs = true from h31]; rfl, hS_.below⟩)
  · have qh32 := h32; try simp only [Bool.and_eq_true, Bool.or_eq_true, Bool.not_eq_true', Bool.not_eq_false', Bool.and_eq_false_iff, Bool.or_eq_false_iff, decide_eq_true_eq, decide_eq_false_iff_not, beq_iff_eq, bne_iff_ne, beq_eq_false_iff_ne, bne_eq_false_iff_eq] at qh32
    refine W.seq (fun K34 hK34 => ?_)
    refine W.region ?_
    refine Wl.run 1 (by kernel_rfl) ?_
    refine Wl.ys (v := Value.int .u32 ((s : Nat) : Int)) rfl rfl (Ys.load (b := p1) (o' := 3) (i := 0) (j := 0) (cs := [Value.int .u8 ((tt.toNat : Nat) : Int), Value.int .u8 ((pr.toNat : Nat) : Int), Value.int .u16 ((id : Nat) : Int), Value.int .u32 ((s : Nat) : Int), Value.int .u32 ((d : Nat) : Int), Value.slice a xs.length cap]) (v := Value.int .u32 ((s : Nat) : Int)) rfl (by kernel_rfl) Try.isAgg23 rfl rfl rfl) ?_
    refine Wl.run 2 (by kernel_rfl) ?_
    refine Wl.guard (v := Value.pointer (some ⟨p1, 3, none⟩)) (!(((s : Nat) : Int) == 0)) rfl (wantF rfl (by kernel_rfl)) rfl (fun hg35 => ?_) ?_
    · have qhg35 := hg35; try simp only [Bool.and_eq_true, Bool.or_eq_true, Bool.not_eq_true', Bool.not_eq_false', Bool.and_eq_false_iff, Bool.or_eq_false_iff, decide_eq_true_eq, decide_eq_false_iff_not, beq_iff_eq, bne_iff_ne, beq_eq_false_iff_ne, bne_eq_false_iff_eq] at qhg35
      exact Ys.pure (fun _ => by kernel_rfl)
    refine Wl.guard (v := Value.int .u32 ((s : Nat) : Int)) (!(((s : Nat) : Int) == 0)) rfl (wantF rfl (by kernel_rfl)) rfl (fun hg36 => ?_) ?_
    · have qhg36 := hg36; try simp only [Bool.and_eq_true, Bool.or_eq_true, Bool.not_eq_true', Bool.not_eq_false', Bool.and_eq_false_iff, Bool.or_eq_false_iff, decide_eq_true_eq, decide_eq_false_iff_not, beq_iff_eq, bne_iff_ne, beq_eq_false_iff_ne, bne_eq_false_iff_eq] at qhg36
      refine Ys.at (t := 40) (v0 := Value.pointer (some ⟨p1, 3, none⟩)) (lz (g := !(((s : Nat) : Int) == 0)) (u := undef) hg36 (by kernel_rfl)) ?_
      exact Ys.load (b := p1) (o' := 3) (i := 0) (j := 0) (cs := [Value.int .u8 ((tt.toNat : Nat) : Int), Value.int .u8 ((pr.toNat : Nat) : Int), Value.int .u16 ((id : Nat) : Int), Value.int .u32 ((s : Nat) : Int), Value.int .u32 ((d : Nat) : Int), Value.slice a xs.length cap]) (v := Value.int .u32 ((s : Nat) : Int)) rfl (by kernel_rfl) Try.isAgg23 rfl rfl rfl
    refine Wl.guardc (v := Value.int .u32 ((s / 268435456 : Nat) : Int)) (!(((s : Nat) : Int) == 0)) rfl (wantF rfl (by kernel_rfl)) rfl (fun hg37 => ?_) ?_
    · have qhg37 := hg37; try simp only [Bool.and_eq_true, Bool.or_eq_true, Bool.not_eq_true', Bool.not_eq_false', Bool.and_eq_false_iff, Bool.or_eq_false_iff, decide_eq_true_eq, decide_eq_false_iff_not, beq_iff_eq, bne_iff_ne, beq_eq_false_iff_ne, bne_eq_false_iff_eq] at qhg37
      refine Yc.at (t := 41) (v0 := Value.int .u32 ((s : Nat) : Int)) (lz (g := !(((s : Nat) : Int) == 0)) (u := undef) hg37 (by kernel_rfl)) ?_
      exact Yc.call (k := 60) (args := #[Value.int .u32 ((s : Nat) : Int)]) (fun _ => by kernel_rfl) (fun w_ hm_ => top_c s _ (by omega))
    refine Wl.guard (v := Value.bool (decide (((s / 268435456 : Nat) : Int) ≥ 14))) (!(((s : Nat) : Int) == 0)) rfl (wantF rfl (by kernel_rfl)) rfl (fun hg38 => ?_) ?_
    · have qhg38 := hg38; try simp only [Bool.and_eq_true, Bool.or_eq_true, Bool.not_eq_true', Bool.not_eq_false', Bool.and_eq_false_iff, Bool.or_eq_false_iff, decide_eq_true_eq, decide_eq_false_iff_not, beq_iff_eq, bne_iff_ne, beq_eq_false_iff_ne, bne_eq_false_iff_eq] at qhg38
      refine Ys.at (t := 42) (v0 := Value.int .u32 ((s / 268435456 : Nat) : Int)) (lz (g := !(((s : Nat) : Int) == 0)) (u := undef) hg38 (by kernel_rfl)) ?_
      exact Ys.pure (fun _ => by kernel_rfl)
    refine Wl.ys (v := Value.bool ((((s : Nat) : Int) == 0) || (decide (((s / 268435456 : Nat) : Int) ≥ 14)))) rfl rfl (Ys.or' (e := ((s : Nat) : Int) == 0) (b := decide (((s / 268435456 : Nat) : Int) ≥ 14)) rfl (by kernel_rfl) (by kernel_rfl) (by kernel_rfl)) ?_
    refine Wl.run 1 (by kernel_rfl) ?_
    refine Wl.nil ?_
    refine hK34 _ _ _ ?_
    refine W.prune' [1, 6, 35] [Value.pointer (some ⟨p1, 0, none⟩), Value.int .i64 (iE xs.length), Value.bool ((((s : Nat) : Int) == 0) || (decide (((s / 268435456 : Nat) : Int) ≥ 14)))] (by kernel_rfl) (fun f39 => ?_)
    refine W.cond ((((s : Nat) : Int) == 0) || (decide (((s / 268435456 : Nat) : Int) ≥ 14))) (by kernel_rfl) (fun h40 => ?_) (fun h41 => ?_)
    · have qh40 := h40; try simp only [Bool.and_eq_true, Bool.or_eq_true, Bool.not_eq_true', Bool.not_eq_false', Bool.and_eq_false_iff, Bool.or_eq_false_iff, decide_eq_true_eq, decide_eq_false_iff_not, beq_iff_eq, bne_iff_ne, beq_eq_false_iff_ne, bne_eq_false_iff_eq] at qh40
      refine W.seq (fun K42 hK42 => ?_)
      refine W.region ?_
      refine Wl.run 1 (by kernel_rfl) ?_
      refine Wl.nil ?_
      refine hK42 _ _ _ ?_
      refine W.ret ?_
      show ∀ w_, _ → bodyPostM (fence none) 0 Try.prog Try.f29 _ Exit.ret _ w_
      exact fun w_ hS_ => fin_ret (ret1 rfl (RV.tmp (v := Value.bool false) (by kernel_rfl)) hS_ ⟨by clear hK1 hK3 hK10 hK16 hK17 hK34 hK42; refine congrArg Ending.returned ?_; unfold mayB; rw [show mA pr xs = false from h32, show mS s = true from h40]; rfl, hS_.below⟩)
    · have qh41 := h41; try simp only [Bool.and_eq_true, Bool.or_eq_true, Bool.not_eq_true', Bool.not_eq_false', Bool.and_eq_false_iff, Bool.or_eq_false_iff, decide_eq_true_eq, decide_eq_false_iff_not, beq_iff_eq, bne_iff_ne, beq_eq_false_iff_ne, bne_eq_false_iff_eq] at qh41
      refine W.seq (fun K43 hK43 => ?_)
      refine W.region ?_
      refine Wl.run 1 (by kernel_rfl) ?_
      refine Wl.ys (v := Value.int .u32 ((d : Nat) : Int)) rfl rfl (Ys.load (b := p1) (o' := 4) (i := 0) (j := 0) (cs := [Value.int .u8 ((tt.toNat : Nat) : Int), Value.int .u8 ((pr.toNat : Nat) : Int), Value.int .u16 ((id : Nat) : Int), Value.int .u32 ((s : Nat) : Int), Value.int .u32 ((d : Nat) : Int), Value.slice a xs.length cap]) (v := Value.int .u32 ((d : Nat) : Int)) rfl (by kernel_rfl) Try.isAgg23 rfl rfl rfl) ?_
      refine Wl.run 2 (by kernel_rfl) ?_
      refine Wl.guard (v := Value.pointer (some ⟨p1, 4, none⟩)) (!(((d : Nat) : Int) == 4294967295)) rfl (wantF rfl (by kernel_rfl)) rfl (fun hg44 => ?_) ?_
      · have qhg44 := hg44; try simp only [Bool.and_eq_true, Bool.or_eq_true, Bool.not_eq_true', Bool.not_eq_false', Bool.and_eq_false_iff, Bool.or_eq_false_iff, decide_eq_true_eq, decide_eq_false_iff_not, beq_iff_eq, bne_iff_ne, beq_eq_false_iff_ne, bne_eq_false_iff_eq] at qhg44
        exact Ys.pure (fun _ => by kernel_rfl)
      refine Wl.guard (v := Value.int .u32 ((d : Nat) : Int)) (!(((d : Nat) : Int) == 4294967295)) rfl (wantF rfl (by kernel_rfl)) rfl (fun hg45 => ?_) ?_
      · have qhg45 := hg45; try simp only [Bool.and_eq_true, Bool.or_eq_true, Bool.not_eq_true', Bool.not_eq_false', Bool.and_eq_false_iff, Bool.or_eq_false_iff, decide_eq_true_eq, decide_eq_false_iff_not, beq_iff_eq, bne_iff_ne, beq_eq_false_iff_ne, bne_eq_false_iff_eq] at qhg45
        refine Ys.at (t := 50) (v0 := Value.pointer (some ⟨p1, 4, none⟩)) (lz (g := !(((d : Nat) : Int) == 4294967295)) (u := undef) hg45 (by kernel_rfl)) ?_
        exact Ys.load (b := p1) (o' := 4) (i := 0) (j := 0) (cs := [Value.int .u8 ((tt.toNat : Nat) : Int), Value.int .u8 ((pr.toNat : Nat) : Int), Value.int .u16 ((id : Nat) : Int), Value.int .u32 ((s : Nat) : Int), Value.int .u32 ((d : Nat) : Int), Value.slice a xs.length cap]) (v := Value.int .u32 ((d : Nat) : Int)) rfl (by kernel_rfl) Try.isAgg23 rfl rfl rfl
      refine Wl.guardc (v := Value.int .u32 ((d / 268435456 : Nat) : Int)) (!(((d : Nat) : Int) == 4294967295)) rfl (wantF rfl (by kernel_rfl)) rfl (fun hg46 => ?_) ?_
      · have qhg46 := hg46; try simp only [Bool.and_eq_true, Bool.or_eq_true, Bool.not_eq_true', Bool.not_eq_false', Bool.and_eq_false_iff, Bool.or_eq_false_iff, decide_eq_true_eq, decide_eq_false_iff_not, beq_iff_eq, bne_iff_ne, beq_eq_false_iff_ne, bne_eq_false_iff_eq] at qhg46
        refine Yc.at (t := 51) (v0 := Value.int .u32 ((d : Nat) : Int)) (lz (g := !(((d : Nat) : Int) == 4294967295)) (u := undef) hg46 (by kernel_rfl)) ?_
        exact Yc.call (k := 60) (args := #[Value.int .u32 ((d : Nat) : Int)]) (fun _ => by kernel_rfl) (fun w_ hm_ => top_c d _ (by omega))
      refine Wl.guard (v := Value.bool (((d / 268435456 : Nat) : Int) == 14)) (!(((d : Nat) : Int) == 4294967295)) rfl (wantF rfl (by kernel_rfl)) rfl (fun hg47 => ?_) ?_
      · have qhg47 := hg47; try simp only [Bool.and_eq_true, Bool.or_eq_true, Bool.not_eq_true', Bool.not_eq_false', Bool.and_eq_false_iff, Bool.or_eq_false_iff, decide_eq_true_eq, decide_eq_false_iff_not, beq_iff_eq, bne_iff_ne, beq_eq_false_iff_ne, bne_eq_false_iff_eq] at qhg47
        refine Ys.at (t := 52) (v0 := Value.int .u32 ((d / 268435456 : Nat) : Int)) (lz (g := !(((d : Nat) : Int) == 4294967295)) (u := undef) hg47 (by kernel_rfl)) ?_
        exact Ys.pure (fun _ => by kernel_rfl)
      refine Wl.ys (v := Value.bool ((((d : Nat) : Int) == 4294967295) || (((d / 268435456 : Nat) : Int) == 14))) rfl rfl (Ys.or' (e := ((d : Nat) : Int) == 4294967295) (b := ((d / 268435456 : Nat) : Int) == 14) rfl (by kernel_rfl) (by kernel_rfl) (by kernel_rfl)) ?_
      refine Wl.run 1 (by kernel_rfl) ?_
      refine Wl.nil ?_
      refine hK43 _ _ _ ?_
      refine W.pick (LL' := []) [] (by decide) rfl ?_
      refine W.prune' [6, 45] [Value.int .i64 (iE xs.length), Value.bool ((((d : Nat) : Int) == 4294967295) || (((d / 268435456 : Nat) : Int) == 14))] (by kernel_rfl) (fun f48 => ?_)
      refine W.cond ((((d : Nat) : Int) == 4294967295) || (((d / 268435456 : Nat) : Int) == 14)) (by kernel_rfl) (fun h49 => ?_) (fun h50 => ?_)
      · have qh49 := h49; try simp only [Bool.and_eq_true, Bool.or_eq_true, Bool.not_eq_true', Bool.not_eq_false', Bool.and_eq_false_iff, Bool.or_eq_false_iff, decide_eq_true_eq, decide_eq_false_iff_not, beq_iff_eq, bne_iff_ne, beq_eq_false_iff_ne, bne_eq_false_iff_eq] at qh49
        refine W.seq (fun K51 hK51 => ?_)
        refine W.region ?_
        refine Wl.run 1 (by kernel_rfl) ?_
        refine Wl.nil ?_
        refine hK51 _ _ _ ?_
        refine W.ret ?_
        show ∀ w_, _ → bodyPostM (fence none) 0 Try.prog Try.f29 _ Exit.ret _ w_
        exact fun w_ hS_ => fin_ret (ret1 rfl (RV.tmp (v := Value.bool false) (by kernel_rfl)) hS_ ⟨by clear hK1 hK3 hK10 hK16 hK17 hK34 hK43 hK51; refine congrArg Ending.returned ?_; unfold mayB; rw [show mA pr xs = false from h32, show mS s = false from h41, show mZ d = true from h49]; rfl, hS_.below⟩)
      · have qh50 := h50; try simp only [Bool.and_eq_true, Bool.or_eq_true, Bool.not_eq_true', Bool.not_eq_false', Bool.and_eq_false_iff, Bool.or_eq_false_iff, decide_eq_true_eq, decide_eq_false_iff_not, beq_iff_eq, bne_iff_ne, beq_eq_false_iff_ne, bne_eq_false_iff_eq] at qh50
        refine W.skip' ?_
        refine hK16 _ _ _ ?_
        refine W.prune' [6] [Value.int .i64 (iE xs.length)] (by kernel_rfl) (fun f52 => ?_)
        refine W.seq (fun K53 hK53 => ?_)
        refine W.region ?_
        refine Wl.run 3 (by kernel_rfl) ?_
        refine Wl.nil ?_
        refine hK53 _ _ _ ?_
        refine W.prune' [2] [Value.bool ((iE xs.length) == 0)] (by kernel_rfl) (fun f54 => ?_)
        refine W.ret ?_
        show ∀ w_, _ → bodyPostM (fence none) 0 Try.prog Try.f29 _ Exit.ret _ w_
        exact fun w_ hS_ => fin_ret (ret1 rfl (RV.tmp (v := Value.bool ((iE xs.length) == 0)) (by kernel_rfl)) hS_ ⟨by clear hK1 hK3 hK10 hK16 hK17 hK34 hK43 hK53; refine congrArg Ending.returned ?_; unfold mayB; rw [show mA pr xs = false from h32, show mS s = false from h41, show mZ d = false from h50]; rfl, hS_.below⟩)
theorem mayn_c (tt pr : UInt8) (id s d : Nat) (xs : List UInt8) (a : Option Addr) (cap : Nat) (len : Nat) (w : World) (hn : len = xs.length) (hat : At w a (byc xs)) (hi : id < 65536) (hs : s < 4294967296) (hd : d < 4294967296) (hl : xs.length ≤ 100000) (hlc : xs.length ≤ cap)  : Calls Try.prog 29 #[Value.agg ([Value.int .u8 ((tt.toNat : Nat) : Int), Value.int .u8 ((pr.toNat : Nat) : Int), Value.int .u16 ((id : Nat) : Int), Value.int .u32 ((s : Nat) : Int), Value.int .u32 ((d : Nat) : Int), Value.slice a len cap]).toArray] w (Ret w (.bool (mayB pr s d xs))) := by
  subst hn; exact may_c tt pr id s d xs a cap w hat hi hs hd hl hlc
theorem tell_c (own : Nat) (ki co tt pr : UInt8) (id s d : Nat) (xs : List UInt8) (a : Option Addr) (cap : Nat) (w : World) (ho : own < 4294967296) (hat : At w a (byc xs)) (hi : id < 65536) (hs : s < 4294967296) (hd : d < 4294967296) (hl : xs.length ≤ 100000) (hlc : xs.length ≤ cap) : Calls Try.prog 57 #[Value.int .u32 ((own : Nat) : Int), Value.agg ([Value.int .u8 ((tt.toNat : Nat) : Int), Value.int .u8 ((pr.toNat : Nat) : Int), Value.int .u16 ((id : Nat) : Int), Value.int .u32 ((s : Nat) : Int), Value.int .u32 ((d : Nat) : Int), Value.slice a xs.length cap]).toArray, Value.int .u8 ((ki.toNat : Nat) : Int), Value.int .u8 ((co.toNat : Nat) : Int)] w (RetM w (fun g : FS => g.ok 1 (tlB ki co tt pr id s d xs).length) (fun g => .tuple #[.agg [.int .u8 (((anU (mayB pr s d xs) 64).toNat : Nat) : Int), .int .u8 (((anU (mayB pr s d xs) 1).toNat : Nat) : Int), .int .u16 ((anN (mayB pr s d xs) 0 : Nat) : Int), .int .u32 ((anN (mayB pr s d xs) own : Nat) : Int), .int .u32 ((anN (mayB pr s d xs) s : Nat) : Int), .slice g.a (tlB ki co tt pr id s d xs).length g.cap].toArray, .bool (mayB pr s d xs)]) [] (fun g => [g.seg 5 (byc (tlB ki co tt pr id s d xs))])) := by
  refine calls_W (M := []) (LL := []) (n := 40) Try.func57 rfl rfl (by simp) (Mem.refl _) ?_
  refine W.seq (fun K1 hK1 => ?_)
  refine W.region ?_
  refine Wl.ht rfl (Ht.box (v := Value.agg ([Value.int .u8 ((tt.toNat : Nat) : Int), Value.int .u8 ((pr.toNat : Nat) : Int), Value.int .u16 ((id : Nat) : Int), Value.int .u32 ((s : Nat) : Int), Value.int .u32 ((d : Nat) : Int), Value.slice a xs.length cap]).toArray) (cs := [Value.int .u8 ((tt.toNat : Nat) : Int), Value.int .u8 ((pr.toNat : Nat) : Int), Value.int .u16 ((id : Nat) : Int), Value.int .u32 ((s : Nat) : Int), Value.int .u32 ((d : Nat) : Int), Value.slice a xs.length cap]) rfl rfl (by kernel_rfl) rfl) (fun p5 => ?_)
  refine Wl.ht rfl (Ht.alloc (z := Value.agg ([Value.int .u8 0, Value.int .u8 0, Value.int .u16 0, Value.int .u32 0, Value.int .u32 0, Value.slice none 0 0]).toArray) (cs := [Value.int .u8 0, Value.int .u8 0, Value.int .u16 0, Value.int .u32 0, Value.int .u32 0, Value.slice none 0 0]) rfl rfl Try.zeroValue61 rfl) (fun p8 => ?_)
  refine Wl.run 1 (by kernel_rfl) ?_
  refine Wl.nil ?_
  refine hK1 _ _ _ ?_
  refine W.prune' [0, 2, 3, 5, 8] [Value.int .u32 ((own : Nat) : Int), Value.int .u8 ((ki.toNat : Nat) : Int), Value.int .u8 ((co.toNat : Nat) : Int), Value.pointer (some ⟨p5, 0, none⟩), Value.pointer (some ⟨p8, 0, none⟩)] (by kernel_rfl) (fun f2 => ?_)
  refine W.seq (fun K3 hK3 => ?_)
  refine W.seq (fun K4 hK4 => ?_)
  refine W.region ?_
  refine Wl.ys (v := Value.agg ([Value.int .u8 ((tt.toNat : Nat) : Int), Value.int .u8 ((pr.toNat : Nat) : Int), Value.int .u16 ((id : Nat) : Int), Value.int .u32 ((s : Nat) : Int), Value.int .u32 ((d : Nat) : Int), Value.slice a xs.length cap]).toArray) rfl rfl (Ys.loadN (b := p5) (o' := 0) (i := 1) (j := 0) (cs := [Value.int .u8 ((tt.toNat : Nat) : Int), Value.int .u8 ((pr.toNat : Nat) : Int), Value.int .u16 ((id : Nat) : Int), Value.int .u32 ((s : Nat) : Int), Value.int .u32 ((d : Nat) : Int), Value.slice a xs.length cap]) (vs := [Value.int .u8 ((tt.toNat : Nat) : Int), Value.int .u8 ((pr.toNat : Nat) : Int), Value.int .u16 ((id : Nat) : Int), Value.int .u32 ((s : Nat) : Int), Value.int .u32 ((d : Nat) : Int), Value.slice a xs.length cap]) rfl (by kernel_rfl) Try.isAgg61 Try.sizeOf61 rfl rfl rfl rfl) ?_
  refine Wl.yc (v := Value.bool (mayB pr s d xs)) rfl rfl (Yc.call (k := 29) (args := #[Value.agg ([Value.int .u8 ((tt.toNat : Nat) : Int), Value.int .u8 ((pr.toNat : Nat) : Int), Value.int .u16 ((id : Nat) : Int), Value.int .u32 ((s : Nat) : Int), Value.int .u32 ((d : Nat) : Int), Value.slice a xs.length cap]).toArray]) (fun _ => by kernel_rfl) (fun w_ hm_ => (mayn_c tt pr id s d xs a cap xs.length _ (by first | rfl | (rw [List.length_take]; omega) | (simp; done) | (simp [be_len, be_len, psh_len]; omega)) (hat.mem0 hm_) (by omega) (by omega) (by omega) (by first | omega | (simp; done) | (simp; omega)) (by first | omega | (simp; omega))))) ?_
  refine Wl.run 1 (by kernel_rfl) ?_
  refine Wl.nil ?_
  refine hK4 _ _ _ ?_
  refine W.prune' [0, 2, 3, 5, 8, 16] [Value.int .u32 ((own : Nat) : Int), Value.int .u8 ((ki.toNat : Nat) : Int), Value.int .u8 ((co.toNat : Nat) : Int), Value.pointer (some ⟨p5, 0, none⟩), Value.pointer (some ⟨p8, 0, none⟩), Value.bool (!(mayB pr s d xs))] (by kernel_rfl) (fun f5 => ?_)
  refine W.cond (!(mayB pr s d xs)) (by kernel_rfl) (fun h6 => ?_) (fun h7 => ?_)
  · refine W.seq (fun K8 hK8 => ?_)
    refine W.region ?_
    refine Wl.run 1 (by kernel_rfl) ?_
    refine Wl.ht rfl (Ht.storeN (b := p8) (o' := 0) (i := 0) (j := 0) (cs := [Value.int .u8 0, Value.int .u8 0, Value.int .u16 0, Value.int .u32 0, Value.int .u32 0, Value.slice none 0 0]) (vs := [Value.int .u8 0, Value.int .u8 0, Value.int .u16 0, Value.int .u32 0, Value.int .u32 0, Value.slice none 0 0]) (cs' := [Value.int .u8 0, Value.int .u8 0, Value.int .u16 0, Value.int .u32 0, Value.int .u32 0, Value.slice none 0 0]) (LL' := [[cb p8 [Value.int .u8 0, Value.int .u8 0, Value.int .u16 0, Value.int .u32 0, Value.int .u32 0, Value.slice none 0 0] 61], [cb p5 [Value.int .u8 ((tt.toNat : Nat) : Int), Value.int .u8 ((pr.toNat : Nat) : Int), Value.int .u16 ((id : Nat) : Int), Value.int .u32 ((s : Nat) : Int), Value.int .u32 ((d : Nat) : Int), Value.slice a xs.length cap] 61]]) rfl rfl (by kernel_rfl) (by kernel_rfl) Try.sizeOf61 (by simp [Value.oneCell']) rfl rfl (by simp) rfl rfl) (fun _ => ?_)
    refine Wl.run 1 (by kernel_rfl) ?_
    refine Wl.nil ?_
    refine hK8 _ _ _ ?_
    refine W.pick (LL' := [[cb p8 [Value.int .u8 0, Value.int .u8 0, Value.int .u16 0, Value.int .u32 0, Value.int .u32 0, Value.slice none 0 0] 61]]) [0] (by decide) rfl ?_
    refine W.prune' [8, 9] [Value.pointer (some ⟨p8, 0, none⟩), Value.bool false] (by kernel_rfl) (fun f9 => ?_)
    refine W.ret ?_
    have hG : mayB pr s d xs = false := by have z_ := h6; revert z_; cases mayB pr s d xs <;> simp
    have hB : tlB ki co tt pr id s d xs = [] := by unfold tlB; rw [hG]; rfl
    show ∀ w_, _ → bodyPostM (fence none) 0 Try.prog Try.f57 _ Exit.ret _ w_
    exact fun w_ hS_ => fin_ret (ret2 rfl (RV.cellN (b := p8) (o' := 0) (i := 0) (j := 0) (cs := [Value.int .u8 0, Value.int .u8 0, Value.int .u16 0, Value.int .u32 0, Value.int .u32 0, Value.slice none 0 0]) (vs := [Value.int .u8 0, Value.int .u8 0, Value.int .u16 0, Value.int .u32 0, Value.int .u32 0, Value.slice none 0 0]) (by kernel_rfl) Try.isAgg61 Try.sizeOf61 rfl rfl rfl rfl) (RV.tmp (v := Value.bool false) (by kernel_rfl)) hS_ ⟨FS.nul, (by rw [hB]; exact FS.nul_ok 1), congrArg Ending.returned ((by rw [hB, hG]; rfl)), (Mem.cast (by rw [hB]; rfl) (Mem.push (hS_.pick [] (by decide) rfl)))⟩)
  · refine W.skip' ?_
    refine hK3 _ _ _ ?_
    refine W.prune' [0, 2, 3, 5, 8] [Value.int .u32 ((own : Nat) : Int), Value.int .u8 ((ki.toNat : Nat) : Int), Value.int .u8 ((co.toNat : Nat) : Int), Value.pointer (some ⟨p5, 0, none⟩), Value.pointer (some ⟨p8, 0, none⟩)] (by kernel_rfl) (fun f10 => ?_)
    refine W.seq (fun K11 hK11 => ?_)
    refine W.region ?_
    refine Wl.ys (v := Value.agg ([Value.int .u8 ((tt.toNat : Nat) : Int), Value.int .u8 ((pr.toNat : Nat) : Int), Value.int .u16 ((id : Nat) : Int), Value.int .u32 ((s : Nat) : Int), Value.int .u32 ((d : Nat) : Int), Value.slice a xs.length cap]).toArray) rfl rfl (Ys.loadN (b := p5) (o' := 0) (i := 1) (j := 0) (cs := [Value.int .u8 ((tt.toNat : Nat) : Int), Value.int .u8 ((pr.toNat : Nat) : Int), Value.int .u16 ((id : Nat) : Int), Value.int .u32 ((s : Nat) : Int), Value.int .u32 ((d : Nat) : Int), Value.slice a xs.length cap]) (vs := [Value.int .u8 ((tt.toNat : Nat) : Int), Value.int .u8 ((pr.toNat : Nat) : Int), Value.int .u16 ((id : Nat) : Int), Value.int .u32 ((s : Nat) : Int), Value.int .u32 ((d : Nat) : Int), Value.slice a xs.length cap]) rfl (by kernel_rfl) Try.isAgg61 Try.sizeOf61 rfl rfl rfl rfl) ?_
    have hq15 := iB_le tt pr id s d xs
    refine Wl.ht rfl (Ht.call (β := FS) (k := 59) (args := #[Value.agg ([Value.int .u8 ((tt.toNat : Nat) : Int), Value.int .u8 ((pr.toNat : Nat) : Int), Value.int .u16 ((id : Nat) : Int), Value.int .u32 ((s : Nat) : Int), Value.int .u32 ((d : Nat) : Int), Value.slice a xs.length cap]).toArray]) (Lin := []) (Lk := [[cb p8 [Value.int .u8 0, Value.int .u8 0, Value.int .u16 0, Value.int .u32 0, Value.int .u32 0, Value.slice none 0 0] 61], [cb p5 [Value.int .u8 ((tt.toNat : Nat) : Int), Value.int .u8 ((pr.toNat : Nat) : Int), Value.int .u16 ((id : Nat) : Int), Value.int .u32 ((s : Nat) : Int), Value.int .u32 ((d : Nat) : Int), Value.slice a xs.length cap] 61]]) (Mi := []) (Lo := fun g12 => [g12.seg 5 (mc b8 (iB tt pr id s d xs)), [cb p8 [Value.int .u8 0, Value.int .u8 0, Value.int .u16 0, Value.int .u32 0, Value.int .u32 0, Value.slice none 0 0] 61], [cb p5 [Value.int .u8 ((tt.toNat : Nat) : Int), Value.int .u8 ((pr.toNat : Nat) : Int), Value.int .u16 ((id : Nat) : Int), Value.int .u32 ((s : Nat) : Int), Value.int .u32 ((d : Nat) : Int), Value.slice a xs.length cap] 61]]) [] [0, 1] rfl (fun _ => by kernel_rfl) (by decide) rfl rfl rfl (fun w_ hm_ hl_ => (winetn_c tt pr id s d xs a cap xs.length _ (by first | rfl | (rw [List.length_take]; omega) | (simp; done) | (simp [be_len, be_len, psh_len]; omega)) (hat.mem0 hm_) (by omega) (by omega) (by omega) (by first | omega | (simp; done) | (simp; omega)) (by first | omega | (simp; omega)))) (fun _ => rfl)) (fun x14 => ?_)
    obtain ⟨g12, ok13⟩ := x14
    refine Wl.castL (LL' := [g12.seg 5 (mc b8 (iB tt pr id s d xs)), [cb p8 [Value.int .u8 0, Value.int .u8 0, Value.int .u16 0, Value.int .u32 0, Value.int .u32 0, Value.slice none 0 0] 61], [cb p5 [Value.int .u8 ((tt.toNat : Nat) : Int), Value.int .u8 ((pr.toNat : Nat) : Int), Value.int .u16 ((id : Nat) : Int), Value.int .u32 ((s : Nat) : Int), Value.int .u32 ((d : Nat) : Int), Value.slice a xs.length cap] 61]]) rfl ?_
    refine Wl.run 5 (by kernel_rfl) ?_
    refine Wl.nil ?_
    refine hK11 _ _ _ ?_
    refine W.prune' [0, 2, 3, 5, 8, 10] [Value.int .u32 ((own : Nat) : Int), Value.int .u8 ((ki.toNat : Nat) : Int), Value.int .u8 ((co.toNat : Nat) : Int), Value.pointer (some ⟨p5, 0, none⟩), Value.pointer (some ⟨p8, 0, none⟩), Value.slice g12.a ((iB tt pr id s d xs).length) g12.cap] (by kernel_rfl) (fun f16 => ?_)
    refine W.seq (fun K17 hK17 => ?_)
    have hcl_ := ok13.le
    refine W.region ?_
    refine Wl.run 5 (by kernel_rfl) ?_
    refine Wl.ys (v := Value.int .i64 ((min (iB tt pr id s d xs).length 28 : Nat) : Int)) rfl rfl ((Ys.pure (v := Value.int .i64 (imin (((iB tt pr id s d xs).length : Nat) : Int) 28)) (fun _ => by kernel_rfl)).conseq (int_congr (imin_n _ 28))) ?_
    have hm18 := imin_bd (((iB tt pr id s d xs).length : Nat) : Int) 28
    refine Wl.ys (v := Value.slice g12.a (min (iB tt pr id s d xs).length 28) g12.cap) rfl rfl (Ys.sliceH (a := g12.a) (len := (iB tt pr id s d xs).length) (cap := g12.cap) (sz := 1) (k := .i64) (i := ((min (iB tt pr id s d xs).length 28 : Nat) : Int)) rfl (by kernel_rfl) (by kernel_rfl) Try.runUnderlying26 Try.sizeOf5 (by omega) (by omega)) ?_
    refine Wl.run 1 (by kernel_rfl) ?_
    have hl22 := mB_le ki co 0 ((iB tt pr id s d xs).take (min (iB tt pr id s d xs).length 28))
    refine Wl.ht rfl (Ht.call (β := FS) (k := 19) (args := #[Value.agg ([Value.int .u8 ((ki.toNat : Nat) : Int), Value.int .u8 ((co.toNat : Nat) : Int), Value.int .u32 0, Value.slice g12.a (min (iB tt pr id s d xs).length 28) g12.cap]).toArray]) (Lin := []) (Lk := [g12.seg 5 (mc b8 (iB tt pr id s d xs)), [cb p8 [Value.int .u8 0, Value.int .u8 0, Value.int .u16 0, Value.int .u32 0, Value.int .u32 0, Value.slice none 0 0] 61], [cb p5 [Value.int .u8 ((tt.toNat : Nat) : Int), Value.int .u8 ((pr.toNat : Nat) : Int), Value.int .u16 ((id : Nat) : Int), Value.int .u32 ((s : Nat) : Int), Value.int .u32 ((d : Nat) : Int), Value.slice a xs.length cap] 61]]) (Mi := []) (Lo := fun g19 => [g19.seg 5 (mc b8 (mB ki co 0 ((iB tt pr id s d xs).take (min (iB tt pr id s d xs).length 28)))), g12.seg 5 (mc b8 (iB tt pr id s d xs)), [cb p8 [Value.int .u8 0, Value.int .u8 0, Value.int .u16 0, Value.int .u32 0, Value.int .u32 0, Value.slice none 0 0] 61], [cb p5 [Value.int .u8 ((tt.toNat : Nat) : Int), Value.int .u8 ((pr.toNat : Nat) : Int), Value.int .u16 ((id : Nat) : Int), Value.int .u32 ((s : Nat) : Int), Value.int .u32 ((d : Nat) : Int), Value.slice a xs.length cap] 61]]) [] [0, 1, 2] rfl (fun _ => by kernel_rfl) (by decide) rfl rfl rfl (fun w_ hm_ hl_ => (wicmpn_c ki co 0 ((iB tt pr id s d xs).take (min (iB tt pr id s d xs).length 28)) g12.a g12.cap (min (iB tt pr id s d xs).length 28) _ (by first | rfl | (rw [List.length_take]; omega) | (simp; done) | (simp [be_len, be_len, psh_len]; omega)) ((FS.at (i := 0) (t := 5) hm_ rfl (FS.nil_cs ok13 (mc_len1 _))).mtake (min (iB tt pr id s d xs).length 28)) (by omega) (by first | omega | (simp; done) | (simp; omega)) (by first | omega | (simp; omega)))) (fun _ => rfl)) (fun x21 => ?_)
    obtain ⟨g19, ok20⟩ := x21
    refine Wl.castL (LL' := [g19.seg 5 (mc b8 (mB ki co 0 ((iB tt pr id s d xs).take (min (iB tt pr id s d xs).length 28)))), g12.seg 5 (mc b8 (iB tt pr id s d xs)), [cb p8 [Value.int .u8 0, Value.int .u8 0, Value.int .u16 0, Value.int .u32 0, Value.int .u32 0, Value.slice none 0 0] 61], [cb p5 [Value.int .u8 ((tt.toNat : Nat) : Int), Value.int .u8 ((pr.toNat : Nat) : Int), Value.int .u16 ((id : Nat) : Int), Value.int .u32 ((s : Nat) : Int), Value.int .u32 ((d : Nat) : Int), Value.slice a xs.length cap] 61]]) rfl ?_
    refine Wl.run 5 (by kernel_rfl) ?_
    refine Wl.nil ?_
    refine hK17 _ _ _ ?_
    refine W.pick (LL' := [g19.seg 5 (mc b8 (mB ki co 0 ((iB tt pr id s d xs).take (min (iB tt pr id s d xs).length 28)))), [cb p8 [Value.int .u8 0, Value.int .u8 0, Value.int .u16 0, Value.int .u32 0, Value.int .u32 0, Value.slice none 0 0] 61], [cb p5 [Value.int .u8 ((tt.toNat : Nat) : Int), Value.int .u8 ((pr.toNat : Nat) : Int), Value.int .u16 ((id : Nat) : Int), Value.int .u32 ((s : Nat) : Int), Value.int .u32 ((d : Nat) : Int), Value.slice a xs.length cap] 61]]) [0, 2, 3] (by decide) rfl ?_
    refine W.prune' [0, 5, 8, 12] [Value.int .u32 ((own : Nat) : Int), Value.pointer (some ⟨p5, 0, none⟩), Value.pointer (some ⟨p8, 0, none⟩), Value.slice g19.a ((mB ki co 0 ((iB tt pr id s d xs).take (min (iB tt pr id s d xs).length 28))).length) g19.cap] (by kernel_rfl) (fun f23 => ?_)
    refine W.seq (fun K24 hK24 => ?_)
    refine W.region ?_
    refine Wl.run 2 (by kernel_rfl) ?_
    refine Wl.ys (v := Value.int .u32 ((s : Nat) : Int)) rfl rfl (Ys.load (b := p5) (o' := 3) (i := 2) (j := 0) (cs := [Value.int .u8 ((tt.toNat : Nat) : Int), Value.int .u8 ((pr.toNat : Nat) : Int), Value.int .u16 ((id : Nat) : Int), Value.int .u32 ((s : Nat) : Int), Value.int .u32 ((d : Nat) : Int), Value.slice a xs.length cap]) (v := Value.int .u32 ((s : Nat) : Int)) rfl (by kernel_rfl) Try.isAgg23 rfl rfl rfl) ?_
    refine Wl.run 2 (by kernel_rfl) ?_
    refine Wl.ht rfl (Ht.storeN (b := p8) (o' := 0) (i := 1) (j := 0) (cs := [Value.int .u8 0, Value.int .u8 0, Value.int .u16 0, Value.int .u32 0, Value.int .u32 0, Value.slice none 0 0]) (vs := [Value.int .u8 64, Value.int .u8 1, Value.int .u16 0, Value.int .u32 ((own : Nat) : Int), Value.int .u32 ((s : Nat) : Int), Value.slice g19.a ((mB ki co 0 ((iB tt pr id s d xs).take (min (iB tt pr id s d xs).length 28))).length) g19.cap]) (cs' := [Value.int .u8 64, Value.int .u8 1, Value.int .u16 0, Value.int .u32 ((own : Nat) : Int), Value.int .u32 ((s : Nat) : Int), Value.slice g19.a ((mB ki co 0 ((iB tt pr id s d xs).take (min (iB tt pr id s d xs).length 28))).length) g19.cap]) (LL' := [g19.seg 5 (mc b8 (mB ki co 0 ((iB tt pr id s d xs).take (min (iB tt pr id s d xs).length 28)))), [cb p8 [Value.int .u8 64, Value.int .u8 1, Value.int .u16 0, Value.int .u32 ((own : Nat) : Int), Value.int .u32 ((s : Nat) : Int), Value.slice g19.a ((mB ki co 0 ((iB tt pr id s d xs).take (min (iB tt pr id s d xs).length 28))).length) g19.cap] 61], [cb p5 [Value.int .u8 ((tt.toNat : Nat) : Int), Value.int .u8 ((pr.toNat : Nat) : Int), Value.int .u16 ((id : Nat) : Int), Value.int .u32 ((s : Nat) : Int), Value.int .u32 ((d : Nat) : Int), Value.slice a xs.length cap] 61]]) rfl rfl (by kernel_rfl) (by kernel_rfl) Try.sizeOf61 (by simp [Value.oneCell']) rfl rfl (by simp) rfl rfl) (fun _ => ?_)
    refine Wl.run 1 (by kernel_rfl) ?_
    refine Wl.nil ?_
    refine hK24 _ _ _ ?_
    refine W.pick (LL' := [g19.seg 5 (mc b8 (mB ki co 0 ((iB tt pr id s d xs).take (min (iB tt pr id s d xs).length 28)))), [cb p8 [Value.int .u8 64, Value.int .u8 1, Value.int .u16 0, Value.int .u32 ((own : Nat) : Int), Value.int .u32 ((s : Nat) : Int), Value.slice g19.a ((mB ki co 0 ((iB tt pr id s d xs).take (min (iB tt pr id s d xs).length 28))).length) g19.cap] 61]]) [0, 1] (by decide) rfl ?_
    refine W.prune' [8, 9] [Value.pointer (some ⟨p8, 0, none⟩), Value.bool true] (by kernel_rfl) (fun f25 => ?_)
    refine W.ret ?_
    have hG : mayB pr s d xs = true := by have z_ := h7; revert z_; cases mayB pr s d xs <;> simp
    have hB : tlB ki co tt pr id s d xs = mB ki co 0 ((iB tt pr id s d xs).take (min (iB tt pr id s d xs).length 28)) := by unfold tlB; rw [hG, take_mn]; rfl
    show ∀ w_, _ → bodyPostM (fence none) 0 Try.prog Try.f57 _ Exit.ret _ w_
    exact fun w_ hS_ => fin_ret (ret2 rfl (RV.cellN (b := p8) (o' := 0) (i := 1) (j := 0) (cs := [Value.int .u8 64, Value.int .u8 1, Value.int .u16 0, Value.int .u32 ((own : Nat) : Int), Value.int .u32 ((s : Nat) : Int), Value.slice g19.a ((mB ki co 0 ((iB tt pr id s d xs).take (min (iB tt pr id s d xs).length 28))).length) g19.cap]) (vs := [Value.int .u8 64, Value.int .u8 1, Value.int .u16 0, Value.int .u32 ((own : Nat) : Int), Value.int .u32 ((s : Nat) : Int), Value.slice g19.a ((mB ki co 0 ((iB tt pr id s d xs).take (min (iB tt pr id s d xs).length 28))).length) g19.cap]) (by kernel_rfl) Try.isAgg61 Try.sizeOf61 rfl rfl rfl rfl) (RV.tmp (v := Value.bool true) (by kernel_rfl)) hS_ ⟨g19, (by rw [hB]; exact ok20), congrArg Ending.returned ((by rw [hB, hG]; rfl)), (Mem.cast (by rw [hB]; rfl) (hS_.pick [0] (by decide) rfl))⟩)
theorem telln_c (own : Nat) (ki co tt pr : UInt8) (id s d : Nat) (xs : List UInt8) (a : Option Addr) (cap : Nat) (len : Nat) (w : World) (hn : len = xs.length) (ho : own < 4294967296) (hat : At w a (byc xs)) (hi : id < 65536) (hs : s < 4294967296) (hd : d < 4294967296) (hl : xs.length ≤ 100000) (hlc : xs.length ≤ cap)  : Calls Try.prog 57 #[.int .u32 ((own : Nat) : Int), Value.agg ([Value.int .u8 ((tt.toNat : Nat) : Int), Value.int .u8 ((pr.toNat : Nat) : Int), Value.int .u16 ((id : Nat) : Int), Value.int .u32 ((s : Nat) : Int), Value.int .u32 ((d : Nat) : Int), Value.slice a len cap]).toArray, .int .u8 ((ki.toNat : Nat) : Int), .int .u8 ((co.toNat : Nat) : Int)] w (RetM w (fun g : FS => g.ok 1 (tlB ki co tt pr id s d xs).length) (fun g => .tuple #[.agg [.int .u8 (((anU (mayB pr s d xs) 64).toNat : Nat) : Int), .int .u8 (((anU (mayB pr s d xs) 1).toNat : Nat) : Int), .int .u16 ((anN (mayB pr s d xs) 0 : Nat) : Int), .int .u32 ((anN (mayB pr s d xs) own : Nat) : Int), .int .u32 ((anN (mayB pr s d xs) s : Nat) : Int), .slice g.a (tlB ki co tt pr id s d xs).length g.cap].toArray, .bool (mayB pr s d xs)]) [] (fun g => [g.seg 5 (byc (tlB ki co tt pr id s d xs))])) := by
  subst hn; exact tell_c own ki co tt pr id s d xs a cap w ho hat hi hs hd hl hlc
end Go.Proofs.Ytgohlpdgeicncaa.Oct
