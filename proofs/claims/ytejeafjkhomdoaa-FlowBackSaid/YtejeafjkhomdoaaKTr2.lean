import Derived.Test.YtejeafjkhomdoaaKTr1
set_option linter.unusedVariables false
set_option linter.unusedSimpArgs false
set_option maxRecDepth 20000
namespace Go.Proofs.Ytejeafjkhomdoaa.Oct
open Go.RowKit Base
attribute [local irreducible] Ys Yc Ht HtIn Wl Wd W Mem pf dpf Wa Wo
def uH (fr to : Nat) (xs : List UInt8) : List UInt8 := be 2 fr ++ be 2 to ++ be 2 (8 + xs.length) ++ be 2 0 ++ xs
def sealN (c : Nat) : Nat := if c = 0 then 65535 else c
def uC (s d fr to : Nat) (xs : List UInt8) : Nat := cks (psh s d 17 (8 + xs.length) ++ uH fr to xs)
def uB (s d fr to : Nat) (pl : Bool) (xs : List UInt8) : List UInt8 := if 1472 < xs.length then [] else bif pl then uH fr to xs else sput (uH fr to xs) 6 (sealN (uC s d fr to xs))
def uE (n : Nat) : Int := if 1472 < n then 14 else 0
theorem uH_len (fr to : Nat) (xs : List UInt8) : (uH fr to xs).length = 8 + xs.length := by unfold uH; simp [be_len]; omega
theorem uB_len {s d fr to : Nat} {pl : Bool} {xs : List UInt8} (h : ¬ 1472 < xs.length) : (uB s d fr to pl xs).length = 8 + xs.length := by
  unfold uB; rw [if_neg h]; cases pl
  · show (sput _ _ _).length = _; rw [sput_len (by rw [uH_len]; omega), uH_len]
  · exact uH_len _ _ _
theorem uB_le (s d fr to : Nat) (pl : Bool) (xs : List UInt8) : (uB s d fr to pl xs).length ≤ 1480 := by
  by_cases h : 1472 < xs.length
  · unfold uB; rw [if_pos h]; simp
  · rw [uB_len h]; omega
theorem wudp_c (s d fr to : Nat) (pl : Bool) (xs : List UInt8) (a : Option Addr) (cap : Nat) (w : World) (hat : At w a (byc xs)) (hs : s < 4294967296) (hd : d < 4294967296) (hf : fr < 65536) (ht : to < 65536) (hl : xs.length ≤ 100000) (hlc : xs.length ≤ cap) : Calls Try.prog 35 #[Value.int .u32 ((s : Nat) : Int), Value.int .u32 ((d : Nat) : Int), Value.agg ([Value.int .u16 ((fr : Nat) : Int), Value.int .u16 ((to : Nat) : Int), Value.bool pl, Value.slice a xs.length cap]).toArray] w (RetM w (fun g : FS => g.ok 1 (uB s d fr to pl xs).length) (fun g => .tuple #[.slice g.a (uB s d fr to pl xs).length g.cap, .int .i64 (uE xs.length)]) [] (fun g => [g.seg 5 (byc (uB s d fr to pl xs))])) := by
  refine calls_W (M := []) (LL := []) (n := 52) Try.func35 rfl rfl (by simp) (Mem.refl _) ?_
  refine W.seq (fun K1 hK1 => ?_)
  refine W.region ?_
  refine Wl.ht rfl (Ht.box (v := Value.agg ([nV .u16 fr, nV .u16 to, Value.bool pl, Value.slice a xs.length cap]).toArray) (cs := [nV .u16 fr, nV .u16 to, Value.bool pl, Value.slice a xs.length cap]) rfl rfl (by kernel_rfl) rfl) (fun p5 => ?_)
  refine Wl.run 2 (by kernel_rfl) ?_
  refine Wl.nil ?_
  refine hK1 _ _ _ ?_
  refine W.prune' [0, 1, 5] [nV .u32 s, nV .u32 d, Value.pointer (some ⟨p5, 0, none⟩)] (by kernel_rfl) (fun f2 => ?_)
  refine W.seq (fun K3 hK3 => ?_)
  refine W.seq (fun K4 hK4 => ?_)
  refine W.region ?_
  refine Wl.run 1 (by kernel_rfl) ?_
  refine Wl.ys (v := Value.slice a xs.length cap) rfl rfl (Ys.load (b := p5) (o' := 3) (i := 0) (j := 0) (cs := [nV .u16 fr, nV .u16 to, Value.bool pl, Value.slice a xs.length cap]) (v := Value.slice a xs.length cap) rfl (by kernel_rfl) Try.isAgg25 rfl rfl rfl) ?_
  refine Wl.run 1 (by kernel_rfl) ?_
  refine Wl.ys (v := nV .i64 (8 + xs.length)) rfl rfl ((Ys.pure (v := .int .i64 (iadd .i64 8 ((xs.length : Nat) : Int))) (fun _ => by kernel_rfl)).conseq (int_congr (iadd_eq (by omega) (by omega) (by omega)))) ?_
  refine Wl.run 1 (by kernel_rfl) ?_
  refine Wl.nil ?_
  refine hK4 _ _ _ ?_
  refine W.prune' [0, 1, 5, 14] [nV .u32 s, nV .u32 d, Value.pointer (some ⟨p5, 0, none⟩), Value.bool (decide (((8 + xs.length : Nat) : Int) > 1480))] (by kernel_rfl) (fun f5 => ?_)
  refine W.cond (decide (((8 + xs.length : Nat) : Int) > 1480)) (by kernel_rfl) (fun h6 => ?_) (fun h7 => ?_)
  · have qh6 := h6; try simp only [Bool.and_eq_true, Bool.or_eq_true, Bool.not_eq_true', Bool.not_eq_false', Bool.and_eq_false_iff, Bool.or_eq_false_iff, decide_eq_true_eq, decide_eq_false_iff_not, beq_iff_eq, bne_iff_ne, beq_eq_false_iff_ne, bne_eq_false_iff_eq] at qh6
    refine W.seq (fun K8 hK8 => ?_)
    refine W.region ?_
    refine Wl.run 2 (by kernel_rfl) ?_
    refine Wl.nil ?_
    refine hK8 _ _ _ ?_
    refine W.pick (LL' := []) [] (by decide) rfl ?_
    refine W.prune' [6, 7] [Value.slice none 0 0, Value.int .i64 14] (by kernel_rfl) (fun f9 => ?_)
    refine W.ret ?_
    have hE : uE xs.length = 14 := by unfold uE; rw [if_pos (by omega)]
    have hB : uB s d fr to pl xs = [] := by unfold uB; rw [if_pos (by omega)]
    show ∀ w_, _ → bodyPostM (fence none) 0 Try.prog Try.f35 _ Exit.ret _ w_
    exact fun w_ hS_ => fin_ret (ret2 rfl (RV.tmp (v := Value.slice none 0 0) (by kernel_rfl)) (RV.tmp (v := Value.int .i64 14) (by kernel_rfl)) hS_ ⟨FS.nul, (by rw [hB]; exact FS.nul_ok 1), congrArg Ending.returned ((by rw [hB, hE]; rfl)), (Mem.cast (by rw [hB]; rfl) (Mem.push (hS_.pick [] (by decide) rfl)))⟩)
  · have qh7 := h7; try simp only [Bool.and_eq_true, Bool.or_eq_true, Bool.not_eq_true', Bool.not_eq_false', Bool.and_eq_false_iff, Bool.or_eq_false_iff, decide_eq_true_eq, decide_eq_false_iff_not, beq_iff_eq, bne_iff_ne, beq_eq_false_iff_ne, bne_eq_false_iff_eq] at qh7
    refine W.skip' ?_
    refine hK3 _ _ _ ?_
    refine W.prune' [0, 1, 5] [nV .u32 s, nV .u32 d, Value.pointer (some ⟨p5, 0, none⟩)] (by kernel_rfl) (fun f10 => ?_)
    refine W.seq (fun K11 hK11 => ?_)
    refine W.draws [(0, true), (1, true), (2, true), (4, true), (5, true), (6, true), (8, true), (9, true), (10, true), (11, true), (12, true), (15, true), (16, true), (3, false), (7, false), (13, false), (14, false), (17, false), (18, false), (19, false)] [0, 1, 2, 4, 5, 6, 8, 9, 10, 11, 12, 15, 16] (Mem w [] [[cb p5 [nV .u16 fr, nV .u16 to, Value.bool pl, Value.slice a xs.length cap] 56]]) (by kernel_rfl) (by kernel_rfl) (by kernel_rfl) rfl (by kernel_rfl) (fun _ _ h_ => h_.drawn _) (fun _ h_ => h_) ?_
    refine Wd.run 1 (by kernel_rfl) ?_
    refine Wd.ys (v := nV .u16 fr) rfl rfl rfl (Ys.load (b := p5) (o' := 0) (i := 0) (j := 0) (cs := [nV .u16 fr, nV .u16 to, Value.bool pl, Value.slice a xs.length cap]) (v := nV .u16 fr) rfl (by kernel_rfl) Try.isAgg22 rfl rfl rfl) ?_
    refine Wd.ys (v := nV .u64 fr) rfl rfl rfl ((Ys.pure (v := .int .u64 (icnv .u64 ((fr : Nat) : Int))) (fun _ => by kernel_rfl)).conseq (int_congr (wrap_u64 (by omega) (by omega)))) ?_
    refine Wd.run 1 (by kernel_rfl) ?_
    refine Wd.ys (v := nV .u16 to) rfl rfl rfl (Ys.load (b := p5) (o' := 1) (i := 0) (j := 0) (cs := [nV .u16 fr, nV .u16 to, Value.bool pl, Value.slice a xs.length cap]) (v := nV .u16 to) rfl (by kernel_rfl) Try.isAgg22 rfl rfl rfl) ?_
    refine Wd.ys (v := nV .u64 to) rfl rfl rfl ((Ys.pure (v := .int .u64 (icnv .u64 ((to : Nat) : Int))) (fun _ => by kernel_rfl)).conseq (int_congr (wrap_u64 (by omega) (by omega)))) ?_
    refine Wd.run 1 (by kernel_rfl) ?_
    refine Wd.ys (v := Value.slice a xs.length cap) rfl rfl rfl (Ys.load (b := p5) (o' := 3) (i := 0) (j := 0) (cs := [nV .u16 fr, nV .u16 to, Value.bool pl, Value.slice a xs.length cap]) (v := Value.slice a xs.length cap) rfl (by kernel_rfl) Try.isAgg25 rfl rfl rfl) ?_
    refine Wd.run 1 (by kernel_rfl) ?_
    refine Wd.ys (v := nV .i64 (8 + xs.length)) rfl rfl rfl ((Ys.pure (v := .int .i64 (iadd .i64 8 ((xs.length : Nat) : Int))) (fun _ => by kernel_rfl)).conseq (int_congr (iadd_eq (by omega) (by omega) (by omega)))) ?_
    refine Wd.ys (v := nV .u64 (8 + xs.length)) rfl rfl rfl ((Ys.pure (v := .int .u64 (icnv .u64 ((8 + xs.length : Nat) : Int))) (fun _ => by kernel_rfl)).conseq (int_congr (wrap_u64 (by omega) (by omega)))) ?_
    refine Wd.run 1 (by kernel_rfl) ?_
    refine Wd.ys (v := Value.slice a xs.length cap) rfl rfl rfl (Ys.load (b := p5) (o' := 3) (i := 0) (j := 0) (cs := [nV .u16 fr, nV .u16 to, Value.bool pl, Value.slice a xs.length cap]) (v := Value.slice a xs.length cap) rfl (by kernel_rfl) Try.isAgg25 rfl rfl rfl) ?_
    refine Wd.ht rfl rfl (Ht.call (β := FS) (k := 64) (args := #[Value.int .i64 2, nV .u64 fr]) (Lin := []) (Lk := [[cb p5 [nV .u16 fr, nV .u16 to, Value.bool pl, Value.slice a xs.length cap] 56]]) (Mi := []) (Lo := fun g12 => [g12.seg 5 (mc b8 (be 2 fr)), [cb p5 [nV .u16 fr, nV .u16 to, Value.bool pl, Value.slice a xs.length cap] 56]]) [] [0] rfl (fun _ => by kernel_rfl) (by decide) rfl rfl rfl (fun w_ hm_ hl_ => num_c 2 fr (by omega) _) (fun _ => rfl)) (.inr fun _ _ h_ => h_.pick [1] (by decide) rfl) (fun x15 => ?_)
    obtain ⟨g12, ok13, nn14⟩ := x15
    refine Wd.castL (LL' := [g12.seg 5 (mc b8 (be 2 fr)), [cb p5 [nV .u16 fr, nV .u16 to, Value.bool pl, Value.slice a xs.length cap] 56]]) rfl ?_
    refine Wd.ht rfl rfl (Ht.call (β := FS) (k := 64) (args := #[Value.int .i64 2, nV .u64 to]) (Lin := []) (Lk := [g12.seg 5 (mc b8 (be 2 fr)), [cb p5 [nV .u16 fr, nV .u16 to, Value.bool pl, Value.slice a xs.length cap] 56]]) (Mi := []) (Lo := fun g16 => [g16.seg 5 (mc b8 (be 2 to)), g12.seg 5 (mc b8 (be 2 fr)), [cb p5 [nV .u16 fr, nV .u16 to, Value.bool pl, Value.slice a xs.length cap] 56]]) [] [0, 1] rfl (fun _ => by kernel_rfl) (by decide) rfl rfl rfl (fun w_ hm_ hl_ => num_c 2 to (by omega) _) (fun _ => rfl)) (.inr fun _ _ h_ => h_.pick [2] (by decide) rfl) (fun x19 => ?_)
    obtain ⟨g16, ok17, nn18⟩ := x19
    refine Wd.castL (LL' := [g16.seg 5 (mc b8 (be 2 to)), g12.seg 5 (mc b8 (be 2 fr)), [cb p5 [nV .u16 fr, nV .u16 to, Value.bool pl, Value.slice a xs.length cap] 56]]) rfl ?_
    refine Wd.ht rfl rfl (Ht.call (β := FS) (k := 64) (args := #[Value.int .i64 2, nV .u64 (8 + xs.length)]) (Lin := []) (Lk := [g16.seg 5 (mc b8 (be 2 to)), g12.seg 5 (mc b8 (be 2 fr)), [cb p5 [nV .u16 fr, nV .u16 to, Value.bool pl, Value.slice a xs.length cap] 56]]) (Mi := []) (Lo := fun g20 => [g20.seg 5 (mc b8 (be 2 (8 + xs.length))), g16.seg 5 (mc b8 (be 2 to)), g12.seg 5 (mc b8 (be 2 fr)), [cb p5 [nV .u16 fr, nV .u16 to, Value.bool pl, Value.slice a xs.length cap] 56]]) [] [0, 1, 2] rfl (fun _ => by kernel_rfl) (by decide) rfl rfl rfl (fun w_ hm_ hl_ => num_c 2 (8 + xs.length) (by omega) _) (fun _ => rfl)) (.inr fun _ _ h_ => h_.pick [3] (by decide) rfl) (fun x23 => ?_)
    obtain ⟨g20, ok21, nn22⟩ := x23
    refine Wd.castL (LL' := [g20.seg 5 (mc b8 (be 2 (8 + xs.length))), g16.seg 5 (mc b8 (be 2 to)), g12.seg 5 (mc b8 (be 2 fr)), [cb p5 [nV .u16 fr, nV .u16 to, Value.bool pl, Value.slice a xs.length cap] 56]]) rfl ?_
    refine Wd.ht rfl rfl (Ht.call (β := FS) (k := 64) (args := #[Value.int .i64 2, Value.int .u64 0]) (Lin := []) (Lk := [g20.seg 5 (mc b8 (be 2 (8 + xs.length))), g16.seg 5 (mc b8 (be 2 to)), g12.seg 5 (mc b8 (be 2 fr)), [cb p5 [nV .u16 fr, nV .u16 to, Value.bool pl, Value.slice a xs.length cap] 56]]) (Mi := []) (Lo := fun g24 => [g24.seg 5 (mc b8 (be 2 0)), g20.seg 5 (mc b8 (be 2 (8 + xs.length))), g16.seg 5 (mc b8 (be 2 to)), g12.seg 5 (mc b8 (be 2 fr)), [cb p5 [nV .u16 fr, nV .u16 to, Value.bool pl, Value.slice a xs.length cap] 56]]) [] [0, 1, 2, 3] rfl (fun _ => by kernel_rfl) (by decide) rfl rfl rfl (fun w_ hm_ hl_ => num_c 2 0 (by omega) _) (fun _ => rfl)) (.inr fun _ _ h_ => h_.pick [4] (by decide) rfl) (fun x27 => ?_)
    obtain ⟨g24, ok25, nn26⟩ := x27
    refine Wd.castL (LL' := [g24.seg 5 (mc b8 (be 2 0)), g20.seg 5 (mc b8 (be 2 (8 + xs.length))), g16.seg 5 (mc b8 (be 2 to)), g12.seg 5 (mc b8 (be 2 fr)), [cb p5 [nV .u16 fr, nV .u16 to, Value.bool pl, Value.slice a xs.length cap] 56]]) rfl ?_
    refine Wd.ht rfl rfl (Ht.made (mk := fun b_ => .slice (some ⟨b_, 0, none⟩) 5 5) (t := 25) (cs := [Value.slice g12.a 2 g12.cap, Value.slice g16.a 2 g16.cap, Value.slice g20.a 2 g20.cap, Value.slice g24.a 2 g24.cap, Value.slice a xs.length cap]) rfl (fun _ => by kernel_rfl)) (.inr fun _ _ h_ => h_.pick [5] (by decide) rfl) (fun p32 => ?_)
    refine Wd.ht rfl rfl (Ht.call (β := FS) (k := 63) (args := #[Value.slice (some ⟨p32, 0, none⟩) 5 5]) (Lin := []) (Lk := [[cb p32 [Value.slice g12.a 2 g12.cap, Value.slice g16.a 2 g16.cap, Value.slice g20.a 2 g20.cap, Value.slice g24.a 2 g24.cap, Value.slice a xs.length cap] 25], g24.seg 5 (mc b8 (be 2 0)), g20.seg 5 (mc b8 (be 2 (8 + xs.length))), g16.seg 5 (mc b8 (be 2 to)), g12.seg 5 (mc b8 (be 2 fr)), [cb p5 [nV .u16 fr, nV .u16 to, Value.bool pl, Value.slice a xs.length cap] 56]]) (Mi := []) (Lo := fun g28 => [g28.seg 5 (mc b8 ((be 2 fr) ++ (be 2 to) ++ (be 2 (8 + xs.length)) ++ (be 2 0) ++ xs)), [cb p32 [Value.slice g12.a 2 g12.cap, Value.slice g16.a 2 g16.cap, Value.slice g20.a 2 g20.cap, Value.slice g24.a 2 g24.cap, Value.slice a xs.length cap] 25], g24.seg 5 (mc b8 (be 2 0)), g20.seg 5 (mc b8 (be 2 (8 + xs.length))), g16.seg 5 (mc b8 (be 2 to)), g12.seg 5 (mc b8 (be 2 fr)), [cb p5 [nV .u16 fr, nV .u16 to, Value.bool pl, Value.slice a xs.length cap] 56]]) [] [0, 1, 2, 3, 4, 5] rfl (fun _ => by kernel_rfl) (by decide) rfl rfl rfl (fun w_ hm_ hl_ => (ojoinn_c [⟨g12.a, (be 2 fr), g12.cap⟩, ⟨g16.a, (be 2 to), g16.cap⟩, ⟨g20.a, (be 2 (8 + xs.length)), g20.cap⟩, ⟨g24.a, (be 2 0), g24.cap⟩, ⟨a, xs, cap⟩] ((be 2 fr) ++ (be 2 to) ++ (be 2 (8 + xs.length)) ++ (be 2 0) ++ xs) (some ⟨p32, 0, none⟩) 5 5 (2 + 2 + 2 + 2 + xs.length) _ rfl (by simp [jn]) (by simp [be_len, psh_len]; try omega) (by first | exact At.lit0 (i := 0) (j := 0) (t := 25) (b := p32) hm_ rfl rfl | (rw [show mc slv ([⟨g12.a, (be 2 fr), g12.cap⟩, ⟨g16.a, (be 2 to), g16.cap⟩, ⟨g20.a, (be 2 (8 + xs.length)), g20.cap⟩, ⟨g24.a, (be 2 0), g24.cap⟩, ⟨a, xs, cap⟩] : List SV) = [Value.slice g12.a 2 g12.cap, Value.slice g16.a 2 g16.cap, Value.slice g20.a 2 g20.cap, Value.slice g24.a 2 g24.cap, Value.slice a xs.length cap] by (simp [mc, be_len, psh_len]; try omega)]; exact At.lit0 (i := 0) (j := 0) (t := 25) (b := p32) hm_ rfl rfl)) (List.forall_mem_cons.2 ⟨(FS.at (i := 4) (t := 5) hm_ rfl (FS.nil_cs ok13 (by rw [mc_len, be_len, Nat.mul_one]; try rfl))), (List.forall_mem_cons.2 ⟨(FS.at (i := 3) (t := 5) hm_ rfl (FS.nil_cs ok17 (by rw [mc_len, be_len, Nat.mul_one]; try rfl))), (List.forall_mem_cons.2 ⟨(FS.at (i := 2) (t := 5) hm_ rfl (FS.nil_cs ok21 (by rw [mc_len, be_len, Nat.mul_one]; try rfl))), (List.forall_mem_cons.2 ⟨(FS.at (i := 1) (t := 5) hm_ rfl (FS.nil_cs ok25 (by rw [mc_len, be_len, Nat.mul_one]; try rfl))), (List.forall_mem_cons.2 ⟨(hat.mem0 hm_), (fun _ h => by cases h)⟩)⟩)⟩)⟩)⟩) (by first | omega | (simp [be_len, psh_len]; omega)) (by simp) (by simp))) (fun _ => rfl)) (.inr fun _ _ h_ => h_.pick [6] (by decide) rfl) (fun x31 => ?_)
    obtain ⟨g28, ok29, nn30⟩ := x31
    refine Wd.castL (LL' := [g28.seg 5 (mc b8 ((be 2 fr) ++ (be 2 to) ++ (be 2 (8 + xs.length)) ++ (be 2 0) ++ xs)), [cb p32 [Value.slice g12.a 2 g12.cap, Value.slice g16.a 2 g16.cap, Value.slice g20.a 2 g20.cap, Value.slice g24.a 2 g24.cap, Value.slice a xs.length cap] 25], g24.seg 5 (mc b8 (be 2 0)), g20.seg 5 (mc b8 (be 2 (8 + xs.length))), g16.seg 5 (mc b8 (be 2 to)), g12.seg 5 (mc b8 (be 2 fr)), [cb p5 [nV .u16 fr, nV .u16 to, Value.bool pl, Value.slice a xs.length cap] 56]]) rfl ?_
    refine Wd.yc (v := Value.slice g28.a (2 + 2 + 2 + 2 + xs.length) g28.cap) rfl rfl rfl (Ys.yc (Ys.pure (fun _ => by kernel_rfl))) (.inl (by kernel_rfl)) ?_
    refine Wd.nil ?_
    refine hK11 _ _ _ ?_
    refine W.pick (LL' := [g28.seg 5 (mc b8 ((be 2 fr) ++ (be 2 to) ++ (be 2 (8 + xs.length)) ++ (be 2 0) ++ xs)), [cb p5 [nV .u16 fr, nV .u16 to, Value.bool pl, Value.slice a xs.length cap] 56]]) [0, 6] (by decide) rfl ?_
    refine W.prune' [0, 1, 5, 8] [nV .u32 s, nV .u32 d, Value.pointer (some ⟨p5, 0, none⟩), Value.slice g28.a (2 + 2 + 2 + 2 + xs.length) g28.cap] (by kernel_rfl) (fun f32 => ?_)
    refine W.seq (fun K33 hK33 => ?_)
    refine W.seq (fun K34 hK34 => ?_)
    refine W.region ?_
    refine Wl.run 1 (by kernel_rfl) ?_
    refine Wl.ys (v := Value.bool pl) rfl rfl (Ys.load (b := p5) (o' := 2) (i := 1) (j := 0) (cs := [nV .u16 fr, nV .u16 to, Value.bool pl, Value.slice a xs.length cap]) (v := Value.bool pl) rfl (by kernel_rfl) Try.isAgg4 rfl rfl rfl) ?_
    refine Wl.nil ?_
    refine hK34 _ _ _ ?_
    refine W.pick (LL' := [g28.seg 5 (mc b8 ((be 2 fr) ++ (be 2 to) ++ (be 2 (8 + xs.length)) ++ (be 2 0) ++ xs))]) [0] (by decide) rfl ?_
    refine W.prune' [0, 1, 8, 35] [nV .u32 s, nV .u32 d, Value.slice g28.a (2 + 2 + 2 + 2 + xs.length) g28.cap, Value.bool pl] (by kernel_rfl) (fun f35 => ?_)
    refine W.cond (pl) (by kernel_rfl) (fun h36 => ?_) (fun h37 => ?_)
    · refine W.seq (fun K38 hK38 => ?_)
      refine W.region ?_
      refine Wl.run 3 (by kernel_rfl) ?_
      refine Wl.nil ?_
      refine hK38 _ _ _ ?_
      refine W.prune' [6, 7] [Value.slice g28.a (2 + 2 + 2 + 2 + xs.length) g28.cap, Value.int .i64 0] (by kernel_rfl) (fun f39 => ?_)
      refine W.ret ?_
      have hE : uE xs.length = 0 := by unfold uE; rw [if_neg (by omega)]
      have hB : uB s d fr to pl xs = (be 2 fr) ++ (be 2 to) ++ (be 2 (8 + xs.length)) ++ (be 2 0) ++ xs := by unfold uB; rw [if_neg (by omega), h36]; rfl
      have hn : (uB s d fr to pl xs).length = (2 + 2 + 2 + 2 + xs.length) := by rw [uB_len (by omega)]; first | done | omega
      show ∀ w_, _ → bodyPostM (fence none) 0 Try.prog Try.f35 _ Exit.ret _ w_
      exact fun w_ hS_ => fin_ret (ret2 rfl (RV.tmp (v := Value.slice g28.a (2 + 2 + 2 + 2 + xs.length) g28.cap) (by kernel_rfl)) (RV.tmp (v := Value.int .i64 0) (by kernel_rfl)) hS_ ⟨g28, (by rw [hn]; exact ok29), congrArg Ending.returned ((by rw [hn, hE])), (Mem.cast (by rw [hB]; rfl) (hS_.pick [0] (by decide) rfl))⟩)
    · refine W.skip' ?_
      refine hK33 _ _ _ ?_
      refine W.prune' [0, 1, 8] [nV .u32 s, nV .u32 d, Value.slice g28.a (2 + 2 + 2 + 2 + xs.length) g28.cap] (by kernel_rfl) (fun f40 => ?_)
      refine W.seq (fun K41 hK41 => ?_)
      refine W.region ?_
      refine Wl.run 4 (by kernel_rfl) ?_
      refine Wl.ht rfl (Ht.call (β := FS) (k := 48) (args := #[nV .u32 s, nV .u32 d, Value.int .u8 17, nV .i64 (2 + 2 + 2 + 2 + xs.length)]) (Lin := []) (Lk := [g28.seg 5 (mc b8 ((be 2 fr) ++ (be 2 to) ++ (be 2 (8 + xs.length)) ++ (be 2 0) ++ xs))]) (Mi := []) (Lo := fun g42 => [g42.seg 5 (mc b8 (psh s d (17 : UInt8) (2 + 2 + 2 + 2 + xs.length))), g28.seg 5 (mc b8 ((be 2 fr) ++ (be 2 to) ++ (be 2 (8 + xs.length)) ++ (be 2 0) ++ xs))]) [] [0] rfl (fun _ => by kernel_rfl) (by decide) rfl rfl rfl (fun w_ hm_ hl_ => (pseudo_c s d (17 : UInt8) (2 + 2 + 2 + 2 + xs.length) _ (by omega) (by omega) (by omega))) (fun _ => rfl)) (fun x44 => ?_)
      obtain ⟨g42, ok43⟩ := x44
      refine Wl.castL (LL' := [g42.seg 5 (mc b8 (psh s d (17 : UInt8) (2 + 2 + 2 + 2 + xs.length))), g28.seg 5 (mc b8 ((be 2 fr) ++ (be 2 to) ++ (be 2 (8 + xs.length)) ++ (be 2 0) ++ xs))]) rfl ?_
      refine Wl.run 1 (by kernel_rfl) ?_
      refine Wl.ht rfl (Ht.made (mk := fun b_ => .slice (some ⟨b_, 0, none⟩) 2 2) (t := 25) (cs := [Value.slice g42.a 12 g42.cap, Value.slice g28.a (2 + 2 + 2 + 2 + xs.length) g28.cap]) rfl (fun _ => by kernel_rfl)) (fun p43 => ?_)
      have hk45 := cks_le (((psh s d (17 : UInt8) (2 + 2 + 2 + 2 + xs.length)) ++ ((be 2 fr) ++ (be 2 to) ++ (be 2 (8 + xs.length)) ++ (be 2 0) ++ xs)))
      refine Wl.yc (v := nV .u16 (cks ((psh s d (17 : UInt8) (2 + 2 + 2 + 2 + xs.length)) ++ ((be 2 fr) ++ (be 2 to) ++ (be 2 (8 + xs.length)) ++ (be 2 0) ++ xs)))) rfl rfl (Yc.call (k := 66) (args := #[Value.slice (some ⟨p43, 0, none⟩) 2 2]) (fun _ => by kernel_rfl) (fun w_ hm_ => (sumn_c [⟨g42.a, (psh s d (17 : UInt8) (2 + 2 + 2 + 2 + xs.length)), g42.cap⟩, ⟨g28.a, ((be 2 fr) ++ (be 2 to) ++ (be 2 (8 + xs.length)) ++ (be 2 0) ++ xs), g28.cap⟩] ((psh s d (17 : UInt8) (2 + 2 + 2 + 2 + xs.length)) ++ ((be 2 fr) ++ (be 2 to) ++ (be 2 (8 + xs.length)) ++ (be 2 0) ++ xs)) (some ⟨p43, 0, none⟩) 2 2 (12 + (2 + 2 + 2 + 2 + xs.length)) _ rfl (by simp [jn]) (by simp [be_len, psh_len]; try omega) (by first | exact At.lit0 (i := 0) (j := 0) (t := 25) (b := p43) hm_ rfl rfl | (rw [show mc slv ([⟨g42.a, (psh s d (17 : UInt8) (2 + 2 + 2 + 2 + xs.length)), g42.cap⟩, ⟨g28.a, ((be 2 fr) ++ (be 2 to) ++ (be 2 (8 + xs.length)) ++ (be 2 0) ++ xs), g28.cap⟩] : List SV) = [Value.slice g42.a 12 g42.cap, Value.slice g28.a (2 + 2 + 2 + 2 + xs.length) g28.cap] by (simp [mc, be_len, psh_len]; try omega)]; exact At.lit0 (i := 0) (j := 0) (t := 25) (b := p43) hm_ rfl rfl)) (List.forall_mem_cons.2 ⟨(FS.at (i := 1) (t := 5) hm_ rfl (FS.nil_cs ok43 (by rw [mc_len, psh_len]))), (List.forall_mem_cons.2 ⟨(FS.at (i := 2) (t := 5) hm_ rfl (FS.nil_cs ok29 (by simp [mc, be_len, psh_len]; try omega))), (fun _ h => by cases h)⟩)⟩) (by first | omega | (simp [be_len, psh_len]; omega)) (by simp) (by simp)))) ?_
      refine Wl.run 1 (by kernel_rfl) ?_
      refine Wl.nil ?_
      refine hK41 _ _ _ ?_
      refine W.pick (LL' := [g28.seg 5 (mc b8 ((be 2 fr) ++ (be 2 to) ++ (be 2 (8 + xs.length)) ++ (be 2 0) ++ xs))]) [2] (by decide) rfl ?_
      refine W.prune' [8, 9] [Value.slice g28.a (2 + 2 + 2 + 2 + xs.length) g28.cap, nV .u16 (cks ((psh s d (17 : UInt8) (2 + 2 + 2 + 2 + xs.length)) ++ ((be 2 fr) ++ (be 2 to) ++ (be 2 (8 + xs.length)) ++ (be 2 0) ++ xs)))] (by kernel_rfl) (fun f46 => ?_)
      refine W.seq (fun K47 hK47 => ?_)
      refine W.seq (fun K48 hK48 => ?_)
      refine W.region ?_
      refine Wl.run 2 (by kernel_rfl) ?_
      refine Wl.nil ?_
      refine hK48 _ _ _ ?_
      refine W.prune' [8, 9, 46] [Value.slice g28.a (2 + 2 + 2 + 2 + xs.length) g28.cap, nV .u16 (cks ((psh s d (17 : UInt8) (2 + 2 + 2 + 2 + xs.length)) ++ ((be 2 fr) ++ (be 2 to) ++ (be 2 (8 + xs.length)) ++ (be 2 0) ++ xs))), Value.bool (((cks ((psh s d (17 : UInt8) (2 + 2 + 2 + 2 + xs.length)) ++ ((be 2 fr) ++ (be 2 to) ++ (be 2 (8 + xs.length)) ++ (be 2 0) ++ xs)) : Nat) : Int) == 0)] (by kernel_rfl) (fun f49 => ?_)
      refine W.cond (((cks ((psh s d (17 : UInt8) (2 + 2 + 2 + 2 + xs.length)) ++ ((be 2 fr) ++ (be 2 to) ++ (be 2 (8 + xs.length)) ++ (be 2 0) ++ xs)) : Nat) : Int) == 0) (by kernel_rfl) (fun h50 => ?_) (fun h51 => ?_)
      · have qh50 := h50; try simp only [Bool.and_eq_true, Bool.or_eq_true, Bool.not_eq_true', Bool.not_eq_false', Bool.and_eq_false_iff, Bool.or_eq_false_iff, decide_eq_true_eq, decide_eq_false_iff_not, beq_iff_eq, bne_iff_ne, beq_eq_false_iff_ne, bne_eq_false_iff_eq] at qh50
        refine W.region ?_
        refine Wl.run 1 (by kernel_rfl) ?_
        refine Wl.ys (v := nV .u16 (65535 - (cks ((psh s d (17 : UInt8) (2 + 2 + 2 + 2 + xs.length)) ++ ((be 2 fr) ++ (be 2 to) ++ (be 2 (8 + xs.length)) ++ (be 2 0) ++ xs))))) rfl rfl ((Ys.pure (v := .int .u16 (bxor .u16 ((65535 : Nat) : Int) ((cks ((psh s d (17 : UInt8) (2 + 2 + 2 + 2 + xs.length)) ++ ((be 2 fr) ++ (be 2 to) ++ (be 2 (8 + xs.length)) ++ (be 2 0) ++ xs)) : Nat) : Int))) (fun _ => by kernel_rfl)).conseq (int_congr (bnot_nat rfl (by show _ < 65536; omega) 65535 rfl))) ?_
        refine Wl.run 1 (by kernel_rfl) ?_
        refine Wl.nil ?_
        refine hK47 _ _ _ ?_
        refine W.prune' [8, 9] [Value.slice g28.a (2 + 2 + 2 + 2 + xs.length) g28.cap, nV .u16 (65535 - (cks ((psh s d (17 : UInt8) (2 + 2 + 2 + 2 + xs.length)) ++ ((be 2 fr) ++ (be 2 to) ++ (be 2 (8 + xs.length)) ++ (be 2 0) ++ xs))))] (by kernel_rfl) (fun f52 => ?_)
        refine W.seq (fun K53 hK53 => ?_)
        refine W.region ?_
        refine Wl.run 2 (by kernel_rfl) ?_
        refine Wl.ht rfl (Ht.call (β := FS) (k := 65) (args := #[Value.slice g28.a (2 + 2 + 2 + 2 + xs.length) g28.cap, Value.int .i64 6, nV .u16 (65535 - (cks ((psh s d (17 : UInt8) (2 + 2 + 2 + 2 + xs.length)) ++ ((be 2 fr) ++ (be 2 to) ++ (be 2 (8 + xs.length)) ++ (be 2 0) ++ xs))))]) (Lin := [g28.seg 5 (mc b8 ((be 2 fr) ++ (be 2 to) ++ (be 2 (8 + xs.length)) ++ (be 2 0) ++ xs))]) (Lk := []) (Lo := fun g54 => [g54.seg 5 (mc b8 (sput ((be 2 fr) ++ (be 2 to) ++ (be 2 (8 + xs.length)) ++ (be 2 0) ++ xs) 6 (65535 - (cks ((psh s d (17 : UInt8) (2 + 2 + 2 + 2 + xs.length)) ++ ((be 2 fr) ++ (be 2 to) ++ (be 2 (8 + xs.length)) ++ (be 2 0) ++ xs))))))]) [0] [] rfl (fun _ => by kernel_rfl) (by decide) rfl rfl rfl (fun w_ hm_ hl_ => (sealn_seal g28 ((be 2 fr) ++ (be 2 to) ++ (be 2 (8 + xs.length)) ++ (be 2 0) ++ xs) (2 + 2 + 2 + 2 + xs.length) 6 (65535 - (cks ((psh s d (17 : UInt8) (2 + 2 + 2 + 2 + xs.length)) ++ ((be 2 fr) ++ (be 2 to) ++ (be 2 (8 + xs.length)) ++ (be 2 0) ++ xs)))) _ _ (by first | rfl | (simp [be_len, be_len, psh_len]; done) | (simp [be_len, be_len, psh_len]; omega)) hl_ ok29 (nn30 (by simp)) (by first | omega | (simp [be_len, be_len, psh_len]; done) | (simp [be_len, be_len, psh_len]; omega)) (by first | omega | (simp [be_len, be_len, psh_len]; done) | (simp [be_len, be_len, psh_len]; omega)) (by omega))) (fun _ => rfl)) (fun x57 => ?_)
        obtain ⟨g54, ok55, nn56⟩ := x57
        refine Wl.castL (LL' := [g54.seg 5 (mc b8 (sput ((be 2 fr) ++ (be 2 to) ++ (be 2 (8 + xs.length)) ++ (be 2 0) ++ xs) 6 (65535 - (cks ((psh s d (17 : UInt8) (2 + 2 + 2 + 2 + xs.length)) ++ ((be 2 fr) ++ (be 2 to) ++ (be 2 (8 + xs.length)) ++ (be 2 0) ++ xs))))))]) rfl ?_
        refine Wl.run 2 (by kernel_rfl) ?_
        refine Wl.nil ?_
        refine hK53 _ _ _ ?_
        refine W.prune' [6, 7] [Value.slice g54.a (2 + 2 + 2 + 2 + xs.length) g54.cap, Value.int .i64 0] (by kernel_rfl) (fun f58 => ?_)
        refine W.ret ?_
        have hE : uE xs.length = 0 := by unfold uE; rw [if_neg (by omega)]
        have hl8 : 2 + 2 + 2 + 2 + xs.length = 8 + xs.length := by first | omega | (simp [be_len]; omega)
        have hq : uC s d fr to xs = cks ((psh s d (17 : UInt8) (2 + 2 + 2 + 2 + xs.length)) ++ ((be 2 fr) ++ (be 2 to) ++ (be 2 (8 + xs.length)) ++ (be 2 0) ++ xs)) := by unfold uC uH; rw [hl8]; first | done | rfl
        have hc0 : (cks ((psh s d (17 : UInt8) (2 + 2 + 2 + 2 + xs.length)) ++ ((be 2 fr) ++ (be 2 to) ++ (be 2 (8 + xs.length)) ++ (be 2 0) ++ xs)) = 0) := by have z_ := qh50; omega
        have hB : uB s d fr to pl xs = sput ((be 2 fr) ++ (be 2 to) ++ (be 2 (8 + xs.length)) ++ (be 2 0) ++ xs) 6 (65535 - (cks ((psh s d (17 : UInt8) (2 + 2 + 2 + 2 + xs.length)) ++ ((be 2 fr) ++ (be 2 to) ++ (be 2 (8 + xs.length)) ++ (be 2 0) ++ xs)))) := by unfold uB sealN; rw [if_neg (by omega), h37, hq, if_pos hc0]; (try rw [hc0]); first | done | rfl
        have hn : (uB s d fr to pl xs).length = 2 + 2 + 2 + 2 + xs.length := by rw [uB_len (by omega)]; first | done | omega
        show ∀ w_, _ → bodyPostM (fence none) 0 Try.prog Try.f35 _ Exit.ret _ w_
        exact fun w_ hS_ => fin_ret (ret2 rfl (RV.tmp (v := Value.slice g54.a (2 + 2 + 2 + 2 + xs.length) g54.cap) (by kernel_rfl)) (RV.tmp (v := Value.int .i64 0) (by kernel_rfl)) hS_ ⟨g54, (by rw [hn]; exact ok55), congrArg Ending.returned ((by rw [hn, hE])), (Mem.cast (by rw [hB]; rfl) (hS_.pick [0] (by decide) rfl))⟩)
      · have qh51 := h51; try simp only [Bool.and_eq_true, Bool.or_eq_true, Bool.not_eq_true', Bool.not_eq_false', Bool.and_eq_false_iff, Bool.or_eq_false_iff, decide_eq_true_eq, decide_eq_false_iff_not, beq_iff_eq, bne_iff_ne, beq_eq_false_iff_ne, bne_eq_false_iff_eq] at qh51
        refine W.skip' ?_
        refine hK47 _ _ _ ?_
        refine W.prune' [8, 9] [Value.slice g28.a (2 + 2 + 2 + 2 + xs.length) g28.cap, nV .u16 (cks ((psh s d (17 : UInt8) (2 + 2 + 2 + 2 + xs.length)) ++ ((be 2 fr) ++ (be 2 to) ++ (be 2 (8 + xs.length)) ++ (be 2 0) ++ xs)))] (by kernel_rfl) (fun f59 => ?_)
        refine W.seq (fun K60 hK60 => ?_)
        refine W.region ?_
        refine Wl.run 2 (by kernel_rfl) ?_
        refine Wl.ht rfl (Ht.call (β := FS) (k := 65) (args := #[Value.slice g28.a (2 + 2 + 2 + 2 + xs.length) g28.cap, Value.int .i64 6, nV .u16 (cks ((psh s d (17 : UInt8) (2 + 2 + 2 + 2 + xs.length)) ++ ((be 2 fr) ++ (be 2 to) ++ (be 2 (8 + xs.length)) ++ (be 2 0) ++ xs)))]) (Lin := [g28.seg 5 (mc b8 ((be 2 fr) ++ (be 2 to) ++ (be 2 (8 + xs.length)) ++ (be 2 0) ++ xs))]) (Lk := []) (Lo := fun g61 => [g61.seg 5 (mc b8 (sput ((be 2 fr) ++ (be 2 to) ++ (be 2 (8 + xs.length)) ++ (be 2 0) ++ xs) 6 (cks ((psh s d (17 : UInt8) (2 + 2 + 2 + 2 + xs.length)) ++ ((be 2 fr) ++ (be 2 to) ++ (be 2 (8 + xs.length)) ++ (be 2 0) ++ xs)))))]) [0] [] rfl (fun _ => by kernel_rfl) (by decide) rfl rfl rfl (fun w_ hm_ hl_ => (sealn_seal g28 ((be 2 fr) ++ (be 2 to) ++ (be 2 (8 + xs.length)) ++ (be 2 0) ++ xs) (2 + 2 + 2 + 2 + xs.length) 6 (cks ((psh s d (17 : UInt8) (2 + 2 + 2 + 2 + xs.length)) ++ ((be 2 fr) ++ (be 2 to) ++ (be 2 (8 + xs.length)) ++ (be 2 0) ++ xs))) _ _ (by first | rfl | (simp [be_len, be_len, psh_len]; done) | (simp [be_len, be_len, psh_len]; omega)) hl_ ok29 (nn30 (by simp)) (by first | omega | (simp [be_len, be_len, psh_len]; done) | (simp [be_len, be_len, psh_len]; omega)) (by first | omega | (simp [be_len, be_len, psh_len]; done) | (simp [be_len, be_len, psh_len]; omega)) (by omega))) (fun _ => rfl)) (fun x64 => ?_)
        obtain ⟨g61, ok62, nn63⟩ := x64
        refine Wl.castL (LL' := [g61.seg 5 (mc b8 (sput ((be 2 fr) ++ (be 2 to) ++ (be 2 (8 + xs.length)) ++ (be 2 0) ++ xs) 6 (cks ((psh s d (17 : UInt8) (2 + 2 + 2 + 2 + xs.length)) ++ ((be 2 fr) ++ (be 2 to) ++ (be 2 (8 + xs.length)) ++ (be 2 0) ++ xs)))))]) rfl ?_
        refine Wl.run 2 (by kernel_rfl) ?_
        refine Wl.nil ?_
        refine hK60 _ _ _ ?_
        refine W.prune' [6, 7] [Value.slice g61.a (2 + 2 + 2 + 2 + xs.length) g61.cap, Value.int .i64 0] (by kernel_rfl) (fun f65 => ?_)
        refine W.ret ?_
        have hE : uE xs.length = 0 := by unfold uE; rw [if_neg (by omega)]
        have hl8 : 2 + 2 + 2 + 2 + xs.length = 8 + xs.length := by first | omega | (simp [be_len]; omega)
        have hq : uC s d fr to xs = cks ((psh s d (17 : UInt8) (2 + 2 + 2 + 2 + xs.length)) ++ ((be 2 fr) ++ (be 2 to) ++ (be 2 (8 + xs.length)) ++ (be 2 0) ++ xs)) := by unfold uC uH; rw [hl8]; first | done | rfl
        have hc0 : ¬ (cks ((psh s d (17 : UInt8) (2 + 2 + 2 + 2 + xs.length)) ++ ((be 2 fr) ++ (be 2 to) ++ (be 2 (8 + xs.length)) ++ (be 2 0) ++ xs)) = 0) := by have z_ := qh51; omega
        have hB : uB s d fr to pl xs = sput ((be 2 fr) ++ (be 2 to) ++ (be 2 (8 + xs.length)) ++ (be 2 0) ++ xs) 6 (cks ((psh s d (17 : UInt8) (2 + 2 + 2 + 2 + xs.length)) ++ ((be 2 fr) ++ (be 2 to) ++ (be 2 (8 + xs.length)) ++ (be 2 0) ++ xs))) := by unfold uB sealN; rw [if_neg (by omega), h37, hq, if_neg hc0]; first | done | rfl
        have hn : (uB s d fr to pl xs).length = 2 + 2 + 2 + 2 + xs.length := by rw [uB_len (by omega)]; first | done | omega
        show ∀ w_, _ → bodyPostM (fence none) 0 Try.prog Try.f35 _ Exit.ret _ w_
        exact fun w_ hS_ => fin_ret (ret2 rfl (RV.tmp (v := Value.slice g61.a (2 + 2 + 2 + 2 + xs.length) g61.cap) (by kernel_rfl)) (RV.tmp (v := Value.int .i64 0) (by kernel_rfl)) hS_ ⟨g61, (by rw [hn]; exact ok62), congrArg Ending.returned ((by rw [hn, hE])), (Mem.cast (by rw [hB]; rfl) (hS_.pick [0] (by decide) rfl))⟩)
end Go.Proofs.Ytejeafjkhomdoaa.Oct
