/-
  Datagrams into bytes. No condition.
-/
import Derived.Test.YtgohlpdgeicncaaTr1
set_option linter.unusedVariables false
set_option linter.unusedSimpArgs false
set_option maxRecDepth 20000
namespace Go.Proofs.Ytgohlpdgeicncaa.Oct
open Go.RowKit Base
attribute [local irreducible] Ys Yc Ht HtIn Wl Wd W Mem pf dpf Wa Wo

/-- A datagram's bytes, and the error's number. -/
def uH (fr to : Nat) (xs : List UInt8) : List UInt8 := be 2 fr ++ be 2 to ++ be 2 (8 + xs.length) ++ be 2 0 ++ xs
def sealN (c : Nat) : Nat := if c = 0 then 65535 else c
def uC (s d fr to : Nat) (xs : List UInt8) : Nat := cks (psh s d 17 (8 + xs.length) ++ uH fr to xs)
def uB (s d fr to : Nat) (pl : Bool) (xs : List UInt8) : List UInt8 := if 1472 < xs.length then [] else bif pl then uH fr to xs else sput (uH fr to xs) 6 (sealN (uC s d fr to xs))
def uE (n : Nat) : Int := if 1472 < n then 14 else 0
theorem uH_len (fr to : Nat) (xs : List UInt8) : (uH fr to xs).length = 8 + xs.length := by unfold uH; simp [be_len]; omega
theorem uB_len {s d fr to : Nat} {pl : Bool} {xs : List UInt8} (h : ¬ 1472 < xs.length) : (uB s d fr to pl xs).length = 8 + xs.length := by
  unfold uB; rw [if_neg h]; cases pl
  · show (sput _ _ _).length = _; rw [sput_len (by rw [uH_len]; omega), uH_len]
  · exact uH_len _ _ _
theorem uB_le (s d fr to : Nat) (pl : Bool) (xs : List UInt8) : (uB s d fr to pl xs).length ≤ 1480 := by
  by_cases h : 1472 < xs.length
  · unfold uB; rw [if_pos h]; simp
  · rw [uB_len h]; omega
theorem wudp_c (s d fr to : Nat) (pl : Bool) (xs : List UInt8) (a : Option Addr) (cap : Nat) (w : World) (hat : At w a (byc xs)) (hs : s < 4294967296) (hd : d < 4294967296) (hf : fr < 65536) (ht : to < 65536) (hl : xs.length ≤ 100000) (hlc : xs.length ≤ cap) : Calls Try.prog 14 #[Value.int .u32 ((s : Nat) : Int), Value.int .u32 ((d : Nat) : Int), Value.agg ([Value.int .u16 ((fr : Nat) : Int), Value.int .u16 ((to : Nat) : Int), Value.bool pl, Value.slice a xs.length cap]).toArray] w (RetM w (fun g : FS => g.ok 1 (uB s d fr to pl xs).length) (fun g => .tuple #[.slice g.a (uB s d fr to pl xs).length g.cap, .int .i64 (uE xs.length)]) [] (fun g => [g.seg 5 (byc (uB s d fr to pl xs))])) := by
  refine calls_W (M := []) (LL := []) (n := 52) Try.func14 rfl rfl (by simp) (Mem.refl _) ?_
  refine W.seq (fun K1 hK1 => ?_)
  refine W.region ?_
  refine Wl.ht rfl (Ht.box (v := Value.agg ([Value.int .u16 ((fr : Nat) : Int), Value.int .u16 ((to : Nat) : Int), Value.bool pl, Value.slice a xs.length cap]).toArray) (cs := [Value.int .u16 ((fr : Nat) : Int), Value.int .u16 ((to : Nat) : Int), Value.bool pl, Value.slice a xs.length cap]) rfl rfl (by kernel_rfl) rfl) (fun p5 => ?_)
  refine Wl.run 2 (by kernel_rfl) ?_
  refine Wl.nil ?_
  refine hK1 _ _ _ ?_
  refine W.prune' [0, 1, 5] [Value.int .u32 ((s : Nat) : Int), Value.int .u32 ((d : Nat) : Int), Value.pointer (some ⟨p5, 0, none⟩)] (by kernel_rfl) (fun f2 => ?_)
  refine W.seq (fun K3 hK3 => ?_)
  refine W.seq (fun K4 hK4 => ?_)
  refine W.region ?_
  refine Wl.run 1 (by kernel_rfl) ?_
  refine Wl.ys (v := Value.slice a xs.length cap) rfl rfl (Ys.load (b := p5) (o' := 3) (i := 0) (j := 0) (cs := [Value.int .u16 ((fr : Nat) : Int), Value.int .u16 ((to : Nat) : Int), Value.bool pl, Value.slice a xs.length cap]) (v := Value.slice a xs.length cap) rfl (by kernel_rfl) Try.isAgg26 rfl rfl rfl) ?_
  refine Wl.run 1 (by kernel_rfl) ?_
  refine Wl.ys (v := Value.int .i64 ((8 + xs.length : Nat) : Int)) rfl rfl ((Ys.pure (v := .int .i64 (iadd .i64 8 ((xs.length : Nat) : Int))) (fun _ => by kernel_rfl)).conseq (int_congr (iadd_eq (by omega) (by omega) (by omega)))) ?_
  refine Wl.run 1 (by kernel_rfl) ?_
  refine Wl.nil ?_
  refine hK4 _ _ _ ?_
  refine W.prune' [0, 1, 5, 14] [Value.int .u32 ((s : Nat) : Int), Value.int .u32 ((d : Nat) : Int), Value.pointer (some ⟨p5, 0, none⟩), Value.bool (decide (((8 + xs.length : Nat) : Int) > 1480))] (by kernel_rfl) (fun f5 => ?_)
  refine W.cond (decide (((8 + xs.length : Nat) : Int) > 1480)) (by kernel_rfl) (fun h6 => ?_) (fun h7 => ?_)
  · have qh6 := h6; try simp only [Bool.and_eq_true, Bool.or_eq_true, Bool.not_eq_true', Bool.not_eq_false', Bool.and_eq_false_iff, Bool.or_eq_false_iff, decide_eq_true_eq, decide_eq_false_iff_not, beq_iff_eq, bne_iff_ne, beq_eq_false_iff_ne, bne_eq_false_iff_eq] at qh6
    refine W.seq (fun K8 hK8 => ?_)
    refine W.region ?_
    refine Wl.run 2 (by kernel_rfl) ?_
    refine Wl.nil ?_
    refine hK8 _ _ _ ?_
    refine W.pick (LL' := []) [] (by decide) rfl ?_
    refine W.prune' [6, 7] [Value.slice none 0 0, Value.int .i64 14] (by kernel_rfl) (fun f9 => ?_)
    refine W.ret ?_
    have hE : uE xs.length = 14 := by unfold uE; rw [if_pos (by omega)]
    have hB : uB s d fr to pl xs = [] := by unfold uB; rw [if_pos (by omega)]
    show ∀ w_, _ → bodyPostM (fence none) 0 Try.prog Try.f14 _ Exit.ret _ w_
    exact fun w_ hS_ => fin_ret (ret2 rfl (RV.tmp (v := Value.slice none 0 0) (by kernel_rfl)) (RV.tmp (v := Value.int .i64 14) (by kernel_rfl)) hS_ ⟨FS.nul, (by rw [hB]; exact FS.nul_ok 1), congrArg Ending.returned ((by rw [hB, hE]; rfl)), (Mem.cast (by rw [hB]; rfl) (Mem.push (hS_.pick [] (by decide) rfl)))⟩)
  · have qh7 := h7; try simp only [Bool.and_eq_true, Bool.or_eq_true, Bool.not_eq_true', Bool.not_eq_false', Bool.and_eq_false_iff, Bool.or_eq_false_iff, decide_eq_true_eq, decide_eq_false_iff_not, beq_iff_eq, bne_iff_ne, beq_eq_false_iff_ne, bne_eq_false_iff_eq] at qh7
    refine W.skip' ?_
    refine hK3 _ _ _ ?_
    refine W.prune' [0, 1, 5] [Value.int .u32 ((s : Nat) : Int), Value.int .u32 ((d : Nat) : Int), Value.pointer (some ⟨p5, 0, none⟩)] (by kernel_rfl) (fun f10 => ?_)
    refine W.seq (fun K11 hK11 => ?_)
    refine W.draws [(0, true), (1, true), (2, true), (4, true), (5, true), (6, true), (8, true), (9, true), (10, true), (11, true), (12, true), (15, true), (16, true), (3, false), (7, false), (13, false), (14, false), (17, false), (18, false), (19, false)] [0, 1, 2, 4, 5, 6, 8, 9, 10, 11, 12, 15, 16] (Mem w [] [[cb p5 [Value.int .u16 ((fr : Nat) : Int), Value.int .u16 ((to : Nat) : Int), Value.bool pl, Value.slice a xs.length cap] 28]]) (by kernel_rfl) (by kernel_rfl) (by kernel_rfl) rfl (by kernel_rfl) (fun _ _ h_ => h_.drawn _) (fun _ h_ => h_) ?_
    refine Wd.run 1 (by kernel_rfl) ?_
    refine Wd.ys (v := Value.int .u16 ((fr : Nat) : Int)) rfl rfl rfl (Ys.load (b := p5) (o' := 0) (i := 0) (j := 0) (cs := [Value.int .u16 ((fr : Nat) : Int), Value.int .u16 ((to : Nat) : Int), Value.bool pl, Value.slice a xs.length cap]) (v := Value.int .u16 ((fr : Nat) : Int)) rfl (by kernel_rfl) Try.isAgg25 rfl rfl rfl) ?_
    refine Wd.ys (v := Value.int .u64 ((fr : Nat) : Int)) rfl rfl rfl ((Ys.pure (v := .int .u64 (icnv .u64 ((fr : Nat) : Int))) (fun _ => by kernel_rfl)).conseq (int_congr (wrap_u64 (by omega) (by omega)))) ?_
    refine Wd.run 1 (by kernel_rfl) ?_
    refine Wd.ys (v := Value.int .u16 ((to : Nat) : Int)) rfl rfl rfl (Ys.load (b := p5) (o' := 1) (i := 0) (j := 0) (cs := [Value.int .u16 ((fr : Nat) : Int), Value.int .u16 ((to : Nat) : Int), Value.bool pl, Value.slice a xs.length cap]) (v := Value.int .u16 ((to : Nat) : Int)) rfl (by kernel_rfl) Try.isAgg25 rfl rfl rfl) ?_
    refine Wd.ys (v := Value.int .u64 ((to : Nat) : Int)) rfl rfl rfl ((Ys.pure (v := .int .u64 (icnv .u64 ((to : Nat) : Int))) (fun _ => by kernel_rfl)).conseq (int_congr (wrap_u64 (by omega) (by omega)))) ?_
    refine Wd.run 1 (by kernel_rfl) ?_
    refine Wd.ys (v := Value.slice a xs.length cap) rfl rfl rfl (Ys.load (b := p5) (o' := 3) (i := 0) (j := 0) (cs := [Value.int .u16 ((fr : Nat) : Int), Value.int .u16 ((to : Nat) : Int), Value.bool pl, Value.slice a xs.length cap]) (v := Value.slice a xs.length cap) rfl (by kernel_rfl) Try.isAgg26 rfl rfl rfl) ?_
    refine Wd.run 1 (by kernel_rfl) ?_
    refine Wd.ys (v := Value.int .i64 ((8 + xs.length : Nat) : Int)) rfl rfl rfl ((Ys.pure (v := .int .i64 (iadd .i64 8 ((xs.length : Nat) : Int))) (fun _ => by kernel_rfl)).conseq (int_congr (iadd_eq (by omega) (by omega) (by omega)))) ?_
    refine Wd.ys (v := Value.int .u64 ((8 + xs.length : Nat) : Int)) rfl rfl rfl ((Ys.pure (v := .int .u64 (icnv .u64 ((8 + xs.length : Nat) : Int))) (fun _ => by kernel_rfl)).conseq (int_congr (wrap_u64 (by omega) (by omega)))) ?_
    refine Wd.run 1 (by kernel_rfl) ?_
    refine Wd.ys (v := Value.slice a xs.length cap) rfl rfl rfl (Ys.load (b := p5) (o' := 3) (i := 0) (j := 0) (cs := [Value.int .u16 ((fr : Nat) : Int), Value.int .u16 ((to : Nat) : Int), Value.bool pl, Value.slice a xs.length cap]) (v := Value.slice a xs.length cap) rfl (by kernel_rfl) Try.isAgg26 rfl rfl rfl) ?_
    refine Wd.ht rfl rfl (Ht.call (β := FS) (k := 42) (args := #[Value.int .i64 2, Value.int .u64 ((fr : Nat) : Int)]) (Lin := []) (Lk := [[cb p5 [Value.int .u16 ((fr : Nat) : Int), Value.int .u16 ((to : Nat) : Int), Value.bool pl, Value.slice a xs.length cap] 28]]) (Mi := []) (Lo := fun g12 => [g12.seg 5 (mc b8 (be 2 fr)), [cb p5 [Value.int .u16 ((fr : Nat) : Int), Value.int .u16 ((to : Nat) : Int), Value.bool pl, Value.slice a xs.length cap] 28]]) [] [0] rfl (fun _ => by kernel_rfl) (by decide) rfl rfl rfl (fun w_ hm_ hl_ => num_c 2 fr (by omega) _) (fun _ => rfl)) (.inr fun _ _ h_ => h_.pick [1] (by decide) rfl) (fun x15 => ?_)
    obtain ⟨g12, ok13, nn14⟩ := x15
    refine Wd.castL (LL' := [g12.seg 5 (mc b8 (be 2 fr)), [cb p5 [Value.int .u16 ((fr : Nat) : Int), Value.int .u16 ((to : Nat) : Int), Value.bool pl, Value.slice a xs.length cap] 28]]) rfl ?_
    refine Wd.ht rfl rfl (Ht.call (β := FS) (k := 42) (args := #[Value.int .i64 2, Value.int .u64 ((to : Nat) : Int)]) (Lin := []) (Lk := [g12.seg 5 (mc b8 (be 2 fr)), [cb p5 [Value.int .u16 ((fr : Nat) : Int), Value.int .u16 ((to : Nat) : Int), Value.bool pl, Value.slice a xs.length cap] 28]]) (Mi := []) (Lo := fun g16 => [g16.seg 5 (mc b8 (be 2 to)), g12.seg 5 (mc b8 (be 2 fr)), [cb p5 [Value.int .u16 ((fr : Nat) : Int), Value.int .u16 ((to : Nat) : Int), Value.bool pl, Value.slice a xs.length cap] 28]]) [] [0, 1] rfl (fun _ => by kernel_rfl) (by decide) rfl rfl rfl (fun w_ hm_ hl_ => num_c 2 to (by omega) _) (fun _ => rfl)) (.inr fun _ _ h_ => h_.pick [2] (by decide) rfl) (fun x19 => ?_)
    obtain ⟨g16, ok17, nn18⟩ := x19
    refine Wd.castL (LL' := [g16.seg 5 (mc b8 (be 2 to)), g12.seg 5 (mc b8 (be 2 fr)), [cb p5 [Value.int .u16 ((fr : Nat) : Int), Value.int .u16 ((to : Nat) : Int), Value.bool pl, Value.slice a xs.length cap] 28]]) rfl ?_
    refine Wd.ht rfl rfl (Ht.call (β := FS) (k := 42) (args := #[Value.int .i64 2, Value.int .u64 ((8 + xs.length : Nat) : Int)]) (Lin := []) (Lk := [g16.seg 5 (mc b8 (be 2 to)), g12.seg 5 (mc b8 (be 2 fr)), [cb p5 [Value.int .u16 ((fr : Nat) : Int), Value.int .u16 ((to : Nat) : Int), Value.bool pl, Value.slice a xs.length cap] 28]]) (Mi := []) (Lo := fun g20 => [g20.seg 5 (mc b8 (be 2 (8 + xs.length))), g16.seg 5 (mc b8 (be 2 to)), g12.seg 5 (mc b8 (be 2 fr)), [cb p5 [Value.int .u16 ((fr : Nat) : Int), Value.int .u16 ((to : Nat) : Int), Value.bool pl, Value.slice a xs.length cap] 28]]) [] [0, 1, 2] rfl (fun _ => by kernel_rfl) (by decide) rfl rfl rfl (fun w_ hm_ hl_ => num_c 2 (8 + xs.length) (by omega) _) (fun _ => rfl)) (.inr fun _ _ h_ => h_.pick [3] (by decide) rfl) (fun x23 => ?_)
    obtain ⟨g20, ok21, nn22⟩ := x23
    refine Wd.castL (LL' := [g20.seg 5 (mc b8 (be 2 (8 + xs.length))), g16.seg 5 (mc b8 (be 2 to)), g12.seg 5 (mc b8 (be 2 fr)), [cb p5 [Value.int .u16 ((fr : Nat) : Int), Value.int .u16 ((to : Nat) : Int), Value.bool pl, Value.slice a xs.length cap] 28]]) rfl ?_
    refine Wd.ht rfl rfl (Ht.call (β := FS) (k := 42) (args := #[Value.int .i64 2, Value.int .u64 0]) (Lin := []) (Lk := [g20.seg 5 (mc b8 (be 2 (8 + xs.length))), g16.seg 5 (mc b8 (be 2 to)), g12.seg 5 (mc b8 (be 2 fr)), [cb p5 [Value.int .u16 ((fr : Nat) : Int), Value.int .u16 ((to : Nat) : Int), Value.bool pl, Value.slice a xs.length cap] 28]]) (Mi := []) (Lo := fun g24 => [g24.seg 5 (mc b8 (be 2 0)), g20.seg 5 (mc b8 (be 2 (8 + xs.length))), g16.seg 5 (mc b8 (be 2 to)), g12.seg 5 (mc b8 (be 2 fr)), [cb p5 [Value.int .u16 ((fr : Nat) : Int), Value.int .u16 ((to : Nat) : Int), Value.bool pl, Value.slice a xs.length cap] 28]]) [] [0, 1, 2, 3] rfl (fun _ => by kernel_rfl) (by decide) rfl rfl rfl (fun w_ hm_ hl_ => num_c 2 0 (by omega) _) (fun _ => rfl)) (.inr fun _ _ h_ => h_.pick [4] (by decide) rfl) (fun x27 => ?_)
    obtain ⟨g24, ok25, nn26⟩ := x27
    refine Wd.castL (LL' := [g24.seg 5 (mc b8 (be 2 0)), g20.seg 5 (mc b8 (be 2 (8 + xs.length))), g16.seg 5 (mc b8 (be 2 to)), g12.seg 5 (mc b8 (be 2 fr)), [cb p5 [Value.int .u16 ((fr : Nat) : Int), Value.int .u16 ((to : Nat) : Int), Value.bool pl, Value.slice a xs.length cap] 28]]) rfl ?_
    refine Wd.ht rfl rfl (Ht.made (mk := fun b_ => .slice (some ⟨b_, 0, none⟩) 5 5) (t := 26) (cs := [Value.slice g12.a 2 g12.cap, Value.slice g16.a 2 g16.cap, Value.slice g20.a 2 g20.cap, Value.slice g24.a 2 g24.cap, Value.slice a xs.length cap]) rfl (fun _ => by kernel_rfl)) (.inr fun _ _ h_ => h_.pick [5] (by decide) rfl) (fun p32 => ?_)
    refine Wd.ht rfl rfl (Ht.call (β := FS) (k := 41) (args := #[Value.slice (some ⟨p32, 0, none⟩) 5 5]) (Lin := []) (Lk := [[cb p32 [Value.slice g12.a 2 g12.cap, Value.slice g16.a 2 g16.cap, Value.slice g20.a 2 g20.cap, Value.slice g24.a 2 g24.cap, Value.slice a xs.length cap] 26], g24.seg 5 (mc b8 (be 2 0)), g20.seg 5 (mc b8 (be 2 (8 + xs.length))), g16.seg 5 (mc b8 (be 2 to)), g12.seg 5 (mc b8 (be 2 fr)), [cb p5 [Value.int .u16 ((fr : Nat) : Int), Value.int .u16 ((to : Nat) : Int), Value.bool pl, Value.slice a xs.length cap] 28]]) (Mi := []) (Lo := fun g28 => [g28.seg 5 (mc b8 ((be 2 fr) ++ (be 2 to) ++ (be 2 (8 + xs.length)) ++ (be 2 0) ++ xs)), [cb p32 [Value.slice g12.a 2 g12.cap, Value.slice g16.a 2 g16.cap, Value.slice g20.a 2 g20.cap, Value.slice g24.a 2 g24.cap, Value.slice a xs.length cap] 26], g24.seg 5 (mc b8 (be 2 0)), g20.seg 5 (mc b8 (be 2 (8 + xs.length))), g16.seg 5 (mc b8 (be 2 to)), g12.seg 5 (mc b8 (be 2 fr)), [cb p5 [Value.int .u16 ((fr : Nat) : Int), Value.int .u16 ((to : Nat) : Int), Value.bool pl, Value.slice a xs.length cap] 28]]) [] [0, 1, 2, 3, 4, 5] rfl (fun _ => by kernel_rfl) (by decide) rfl rfl rfl (fun w_ hm_ hl_ => (ojoinn_c [⟨g12.a, (be 2 fr), g12.cap⟩, ⟨g16.a, (be 2 to), g16.cap⟩, ⟨g20.a, (be 2 (8 + xs.length)), g20.cap⟩, ⟨g24.a, (be 2 0), g24.cap⟩, ⟨a, xs, cap⟩] ((be 2 fr) ++ (be 2 to) ++ (be 2 (8 + xs.length)) ++ (be 2 0) ++ xs) (some ⟨p32, 0, none⟩) 5 5 (2 + 2 + 2 + 2 + xs.length) _ rfl (by simp [jn]) (by simp [be_len, psh_len]; try omega) (by first | exact At.lit0 (i := 0) (j := 0) (t := 26) (b := p32) hm_ rfl rfl | (rw [show mc slv ([⟨g12.a, (be 2 fr), g12.cap⟩, ⟨g16.a, (be 2 to), g16.cap⟩, ⟨g20.a, (be 2 (8 + xs.length)), g20.cap⟩, ⟨g24.a, (be 2 0), g24.cap⟩, ⟨a, xs, cap⟩] : List SV) = [Value.slice g12.a 2 g12.cap, Value.slice g16.a 2 g16.cap, Value.slice g20.a 2 g20.cap, Value.slice g24.a 2 g24.cap, Value.slice a xs.length cap] by (simp [mc, be_len, psh_len]; try omega)]; exact At.lit0 (i := 0) (j := 0) (t := 26) (b := p32) hm_ rfl rfl)) (List.forall_mem_cons.2 ⟨(FS.at (i := 4) (t := 5) hm_ rfl (FS.nil_cs ok13 (by rw [mc_len, be_len, Nat.mul_one]; try rfl))), (List.forall_mem_cons.2 ⟨(FS.at (i := 3) (t := 5) hm_ rfl (FS.nil_cs ok17 (by rw [mc_len, be_len, Nat.mul_one]; try rfl))), (List.forall_mem_cons.2 ⟨(FS.at (i := 2) (t := 5) hm_ rfl (FS.nil_cs ok21 (by rw [mc_len, be_len, Nat.mul_one]; try rfl))), (List.forall_mem_cons.2 ⟨(FS.at (i := 1) (t := 5) hm_ rfl (FS.nil_cs ok25 (by rw [mc_len, be_len, Nat.mul_one]; try rfl))), (List.forall_mem_cons.2 ⟨(hat.mem0 hm_), (fun _ h => by cases h)⟩)⟩)⟩)⟩)⟩) (by first | omega | (simp [be_len, psh_len]; omega)) (by simp) (by simp))) (fun _ => rfl)) (.inr fun _ _ h_ => h_.pick [6] (by decide) rfl) (fun x31 => ?_)
    obtain ⟨g28, ok29, nn30⟩ := x31
    refine Wd.castL (LL' := [g28.seg 5 (mc b8 ((be 2 fr) ++ (be 2 to) ++ (be 2 (8 + xs.length)) ++ (be 2 0) ++ xs)), [cb p32 [Value.slice g12.a 2 g12.cap, Value.slice g16.a 2 g16.cap, Value.slice g20.a 2 g20.cap, Value.slice g24.a 2 g24.cap, Value.slice a xs.length cap] 26], g24.seg 5 (mc b8 (be 2 0)), g20.seg 5 (mc b8 (be 2 (8 + xs.length))), g16.seg 5 (mc b8 (be 2 to)), g12.seg 5 (mc b8 (be 2 fr)), [cb p5 [Value.int .u16 ((fr : Nat) : Int), Value.int .u16 ((to : Nat) : Int), Value.bool pl, Value.slice a xs.length cap] 28]]) rfl ?_
    refine Wd.yc (v := Value.slice g28.a (2 + 2 + 2 + 2 + xs.length) g28.cap) rfl rfl rfl (Ys.yc (Ys.pure (fun _ => by kernel_rfl))) (.inl (by kernel_rfl)) ?_
    refine Wd.nil ?_
    refine hK11 _ _ _ ?_
    refine W.pick (LL' := [g28.seg 5 (mc b8 ((be 2 fr) ++ (be 2 to) ++ (be 2 (8 + xs.length)) ++ (be 2 0) ++ xs)), [cb p5 [Value.int .u16 ((fr : Nat) : Int), Value.int .u16 ((to : Nat) : Int), Value.bool pl, Value.slice a xs.length cap] 28]]) [0, 6] (by decide) rfl ?_
    refine W.prune' [0, 1, 5, 8] [Value.int .u32 ((s : Nat) : Int), Value.int .u32 ((d : Nat) : Int), Value.pointer (some ⟨p5, 0, none⟩), Value.slice g28.a (2 + 2 + 2 + 2 + xs.length) g28.cap] (by kernel_rfl) (fun f32 => ?_)
    refine W.seq (fun K33 hK33 => ?_)
    refine W.seq (fun K34 hK34 => ?_)
    refine W.region ?_
    refine Wl.run 1 (by kernel_rfl) ?_
    refine Wl.ys (v := Value.bool pl) rfl rfl (Ys.load (b := p5) (o' := 2) (i := 1) (j := 0) (cs := [Value.int .u16 ((fr : Nat) : Int), Value.int .u16 ((to : Nat) : Int), Value.bool pl, Value.slice a xs.length cap]) (v := Value.bool pl) rfl (by kernel_rfl) Try.isAgg4 rfl rfl rfl) ?_
    refine Wl.nil ?_
    refine hK34 _ _ _ ?_
    refine W.pick (LL' := [g28.seg 5 (mc b8 ((be 2 fr) ++ (be 2 to) ++ (be 2 (8 + xs.length)) ++ (be 2 0) ++ xs))]) [0] (by decide) rfl ?_
    refine W.prune' [0, 1, 8, 35] [Value.int .u32 ((s : Nat) : Int), Value.int .u32 ((d : Nat) : Int), Value.slice g28.a (2 + 2 + 2 + 2 + xs.length) g28.cap, Value.bool pl] (by kernel_rfl) (fun f35 => ?_)
    refine W.cond (pl) (by kernel_rfl) (fun h36 => ?_) (fun h37 => ?_)
    · refine W.seq (fun K38 hK38 => ?_)
      refine W.region ?_
      refine Wl.run 3 (by kernel_rfl) ?_
      refine Wl.nil ?_
      refine hK38 _ _ _ ?_
      refine W.prune' [6, 7] [Value.slice g28.a (2 + 2 + 2 + 2 + xs.length) g28.cap, Value.int .i64 0] (by kernel_rfl) (fun f39 => ?_)
      refine W.ret ?_
      have hE : uE xs.length = 0 := by unfold uE; rw [if_neg (by omega)]
      have hB : uB s d fr to pl xs = (be 2 fr) ++ (be 2 to) ++ (be 2 (8 + xs.length)) ++ (be 2 0) ++ xs := by unfold uB; rw [if_neg (by omega), h36]; rfl
      have hn : (uB s d fr to pl xs).length = (2 + 2 + 2 + 2 + xs.length) := by rw [uB_len (by omega)]; first | done | omega
      show ∀ w_, _ → bodyPostM (fence none) 0 Try.prog Try.f14 _ Exit.ret _ w_
      exact fun w_ hS_ => fin_ret (ret2 rfl (RV.tmp (v := Value.slice g28.a (2 + 2 + 2 + 2 + xs.length) g28.cap) (by kernel_rfl)) (RV.tmp (v := Value.int .i64 0) (by kernel_rfl)) hS_ ⟨g28, (by rw [hn]; exact ok29), congrArg Ending.returned ((by rw [hn, hE])), (Mem.cast (by rw [hB]; rfl) (hS_.pick [0] (by decide) rfl))⟩)
    · refine W.skip' ?_
      refine hK33 _ _ _ ?_
      refine W.prune' [0, 1, 8] [Value.int .u32 ((s : Nat) : Int), Value.int .u32 ((d : Nat) : Int), Value.slice g28.a (2 + 2 + 2 + 2 + xs.length) g28.cap] (by kernel_rfl) (fun f40 => ?_)
      refine W.seq (fun K41 hK41 => ?_)
      refine W.region ?_
      refine Wl.run 4 (by kernel_rfl) ?_
      refine Wl.ht rfl (Ht.call (β := FS) (k := 44) (args := #[Value.int .u32 ((s : Nat) : Int), Value.int .u32 ((d : Nat) : Int), Value.int .u8 17, Value.int .i64 (((2 + 2 + 2 + 2 + xs.length) : Nat) : Int)]) (Lin := []) (Lk := [g28.seg 5 (mc b8 ((be 2 fr) ++ (be 2 to) ++ (be 2 (8 + xs.length)) ++ (be 2 0) ++ xs))]) (Mi := []) (Lo := fun g42 => [g42.seg 5 (mc b8 (psh s d (17 : UInt8) (2 + 2 + 2 + 2 + xs.length))), g28.seg 5 (mc b8 ((be 2 fr) ++ (be 2 to) ++ (be 2 (8 + xs.length)) ++ (be 2 0) ++ xs))]) [] [0] rfl (fun _ => by kernel_rfl) (by decide) rfl rfl rfl (fun w_ hm_ hl_ => (pseudo_c s d (17 : UInt8) (2 + 2 + 2 + 2 + xs.length) _ (by omega) (by omega) (by omega))) (fun _ => rfl)) (fun x44 => ?_)
      obtain ⟨g42, ok43⟩ := x44
      refine Wl.castL (LL' := [g42.seg 5 (mc b8 (psh s d (17 : UInt8) (2 + 2 + 2 + 2 + xs.length))), g28.seg 5 (mc b8 ((be 2 fr) ++ (be 2 to) ++ (be 2 (8 + xs.length)) ++ (be 2 0) ++ xs))]) rfl ?_
      refine Wl.run 1 (by kernel_rfl) ?_
      refine Wl.ht rfl (Ht.made (mk := fun b_ => .slice (some ⟨b_, 0, none⟩) 2 2) (t := 26) (cs := [Value.slice g42.a 12 g42.cap, Value.slice g28.a (2 + 2 + 2 + 2 + xs.length) g28.cap]) rfl (fun _ => by kernel_rfl)) (fun p43 => ?_)
      have hk45 := cks_le (((psh s d (17 : UInt8) (2 + 2 + 2 + 2 + xs.length)) ++ ((be 2 fr) ++ (be 2 to) ++ (be 2 (8 + xs.length)) ++ (be 2 0) ++ xs)))
      refine Wl.yc (v := Value.int .u16 ((cks ((psh s d (17 : UInt8) (2 + 2 + 2 + 2 + xs.length)) ++ ((be 2 fr) ++ (be 2 to) ++ (be 2 (8 + xs.length)) ++ (be 2 0) ++ xs)) : Nat) : Int)) rfl rfl (Yc.call (k := 43) (args := #[Value.slice (some ⟨p43, 0, none⟩) 2 2]) (fun _ => by kernel_rfl) (fun w_ hm_ => (sumn_c [⟨g42.a, (psh s d (17 : UInt8) (2 + 2 + 2 + 2 + xs.length)), g42.cap⟩, ⟨g28.a, ((be 2 fr) ++ (be 2 to) ++ (be 2 (8 + xs.length)) ++ (be 2 0) ++ xs), g28.cap⟩] ((psh s d (17 : UInt8) (2 + 2 + 2 + 2 + xs.length)) ++ ((be 2 fr) ++ (be 2 to) ++ (be 2 (8 + xs.length)) ++ (be 2 0) ++ xs)) (some ⟨p43, 0, none⟩) 2 2 (12 + (2 + 2 + 2 + 2 + xs.length)) _ rfl (by simp [jn]) (by simp [be_len, psh_len]; try omega) (by first | exact At.lit0 (i := 0) (j := 0) (t := 26) (b := p43) hm_ rfl rfl | (rw [show mc slv ([⟨g42.a, (psh s d (17 : UInt8) (2 + 2 + 2 + 2 + xs.length)), g42.cap⟩, ⟨g28.a, ((be 2 fr) ++ (be 2 to) ++ (be 2 (8 + xs.length)) ++ (be 2 0) ++ xs), g28.cap⟩] : List SV) = [Value.slice g42.a 12 g42.cap, Value.slice g28.a (2 + 2 + 2 + 2 + xs.length) g28.cap] by (simp [mc, be_len, psh_len]; try omega)]; exact At.lit0 (i := 0) (j := 0) (t := 26) (b := p43) hm_ rfl rfl)) (List.forall_mem_cons.2 ⟨(FS.at (i := 1) (t := 5) hm_ rfl (FS.nil_cs ok43 (by rw [mc_len, psh_len]))), (List.forall_mem_cons.2 ⟨(FS.at (i := 2) (t := 5) hm_ rfl (FS.nil_cs ok29 (by simp [mc, be_len, psh_len]; try omega))), (fun _ h => by cases h)⟩)⟩) (by first | omega | (simp [be_len, psh_len]; omega)) (by simp) (by simp)))) ?_
      refine Wl.run 1 (by kernel_rfl) ?_
      refine Wl.nil ?_
      refine hK41 _ _ _ ?_
      refine W.pick (LL' := [g28.seg 5 (mc b8 ((be 2 fr) ++ (be 2 to) ++ (be 2 (8 + xs.length)) ++ (be 2 0) ++ xs))]) [2] (by decide) rfl ?_
      refine W.prune' [8, 9] [Value.slice g28.a (2 + 2 + 2 + 2 + xs.length) g28.cap, Value.int .u16 ((cks ((psh s d (17 : UInt8) (2 + 2 + 2 + 2 + xs.length)) ++ ((be 2 fr) ++ (be 2 to) ++ (be 2 (8 + xs.length)) ++ (be 2 0) ++ xs)) : Nat) : Int)] (by kernel_rfl) (fun f46 => ?_)
      refine W.seq (fun K47 hK47 => ?_)
      refine W.seq (fun K48 hK48 => ?_)
      refine W.region ?_
      refine Wl.run 2 (by kernel_rfl) ?_
      refine Wl.nil ?_
      refine hK48 _ _ _ ?_
      refine W.prune' [8, 9, 46] [Value.slice g28.a (2 + 2 + 2 + 2 + xs.length) g28.cap, Value.int .u16 ((cks ((psh s d (17 : UInt8) (2 + 2 + 2 + 2 + xs.length)) ++ ((be 2 fr) ++ (be 2 to) ++ (be 2 (8 + xs.length)) ++ (be 2 0) ++ xs)) : Nat) : Int), Value.bool (((cks ((psh s d (17 : UInt8) (2 + 2 + 2 + 2 + xs.length)) ++ ((be 2 fr) ++ (be 2 to) ++ (be 2 (8 + xs.length)) ++ (be 2 0) ++ xs)) : Nat) : Int) == 0)] (by kernel_rfl) (fun f49 => ?_)
      refine W.cond (((cks ((psh s d (17 : UInt8) (2 + 2 + 2 + 2 + xs.length)) ++ ((be 2 fr) ++ (be 2 to) ++ (be 2 (8 + xs.length)) ++ (be 2 0) ++ xs)) : Nat) : Int) == 0) (by kernel_rfl) (fun h50 => ?_) (fun h51 => ?_)
      · have qh50 := h50; try simp only [Bool.and_eq_true, Bool.or_eq_true, Bool.not_eq_true', Bool.not_eq_false', Bool.and_eq_false_iff, Bool.or_eq_false_iff, decide_eq_true_eq, decide_eq_false_iff_not, beq_iff_eq, bne_iff_ne, beq_eq_false_iff_ne, bne_eq_false_iff_eq] at qh50
        refine W.region ?_
        refine Wl.run 1 (by kernel_rfl) ?_
        refine Wl.ys (v := Value.int .u16 ((65535 - (cks ((psh s d (17 : UInt8) (2 + 2 + 2 + 2 + xs.length)) ++ ((be 2 fr) ++ (be 2 to) ++ (be 2 (8 + xs.length)) ++ (be 2 0) ++ xs))) : Nat) : Int)) rfl rfl ((Ys.pure (v := .int .u16 (bxor .u16 ((65535 : Nat) : Int) ((cks ((psh s d (17 : UInt8) (2 + 2 + 2 + 2 + xs.length)) ++ ((be 2 fr) ++ (be 2 to) ++ (be 2 (8 + xs.length)) ++ (be 2 0) ++ xs)) : Nat) : Int))) (fun _ => by kernel_rfl)).conseq (int_congr (bnot_nat rfl (by show _ < 65536; omega) 65535 rfl))) ?_
        refine Wl.run 1 (by kernel_rfl) ?_
        refine Wl.nil ?_
        refine hK47 _ _ _ ?_
        refine W.prune' [8, 9] [Value.slice g28.a (2 + 2 + 2 + 2 + xs.length) g28.cap, Value.int .u16 ((65535 - (cks ((psh s d (17 : UInt8) (2 + 2 + 2 + 2 + xs.length)) ++ ((be 2 fr) ++ (be 2 to) ++ (be 2 (8 + xs.length)) ++ (be 2 0) ++ xs))) : Nat) : Int)] (by kernel_rfl) (fun f52 => ?_)
        refine W.seq (fun K53 hK53 => ?_)
        refine W.region ?_
        refine Wl.run 2 (by kernel_rfl) ?_
        refine Wl.ht rfl (Ht.call (β := FS) (k := 45) (args := #[Value.slice g28.a (2 + 2 + 2 + 2 + xs.length) g28.cap, Value.int .i64 6, Value.int .u16 ((65535 - (cks ((psh s d (17 : UInt8) (2 + 2 + 2 + 2 + xs.length)) ++ ((be 2 fr) ++ (be 2 to) ++ (be 2 (8 + xs.length)) ++ (be 2 0) ++ xs))) : Nat) : Int)]) (Lin := [g28.seg 5 (mc b8 ((be 2 fr) ++ (be 2 to) ++ (be 2 (8 + xs.length)) ++ (be 2 0) ++ xs))]) (Lk := []) (Lo := fun g54 => [g54.seg 5 (mc b8 (sput ((be 2 fr) ++ (be 2 to) ++ (be 2 (8 + xs.length)) ++ (be 2 0) ++ xs) 6 (65535 - (cks ((psh s d (17 : UInt8) (2 + 2 + 2 + 2 + xs.length)) ++ ((be 2 fr) ++ (be 2 to) ++ (be 2 (8 + xs.length)) ++ (be 2 0) ++ xs))))))]) [0] [] rfl (fun _ => by kernel_rfl) (by decide) rfl rfl rfl (fun w_ hm_ hl_ => (sealn_seal g28 ((be 2 fr) ++ (be 2 to) ++ (be 2 (8 + xs.length)) ++ (be 2 0) ++ xs) (2 + 2 + 2 + 2 + xs.length) 6 (65535 - (cks ((psh s d (17 : UInt8) (2 + 2 + 2 + 2 + xs.length)) ++ ((be 2 fr) ++ (be 2 to) ++ (be 2 (8 + xs.length)) ++ (be 2 0) ++ xs)))) _ _ (by first | rfl | (simp [be_len, be_len, psh_len]; try omega)) hl_ ok29 (nn30 (by simp)) (by first | omega | (simp [be_len, be_len, psh_len]; omega)) (by first | omega | (simp [be_len, be_len, psh_len]; omega)) (by omega))) (fun _ => rfl)) (fun x57 => ?_)
        obtain ⟨g54, ok55, nn56⟩ := x57
        refine Wl.castL (LL' := [g54.seg 5 (mc b8 (sput ((be 2 fr) ++ (be 2 to) ++ (be 2 (8 + xs.length)) ++ (be 2 0) ++ xs) 6 (65535 - (cks ((psh s d (17 : UInt8) (2 + 2 + 2 + 2 + xs.length)) ++ ((be 2 fr) ++ (be 2 to) ++ (be 2 (8 + xs.length)) ++ (be 2 0) ++ xs))))))]) rfl ?_
        refine Wl.run 2 (by kernel_rfl) ?_
        refine Wl.nil ?_
        refine hK53 _ _ _ ?_
        refine W.prune' [6, 7] [Value.slice g54.a (2 + 2 + 2 + 2 + xs.length) g54.cap, Value.int .i64 0] (by kernel_rfl) (fun f58 => ?_)
        refine W.ret ?_
        have hE : uE xs.length = 0 := by unfold uE; rw [if_neg (by omega)]
        have hl8 : 2 + 2 + 2 + 2 + xs.length = 8 + xs.length := by first | omega | (simp [be_len]; omega)
        have hq : uC s d fr to xs = cks ((psh s d (17 : UInt8) (2 + 2 + 2 + 2 + xs.length)) ++ ((be 2 fr) ++ (be 2 to) ++ (be 2 (8 + xs.length)) ++ (be 2 0) ++ xs)) := by unfold uC uH; rw [hl8]; first | done | rfl
        have hc0 : (cks ((psh s d (17 : UInt8) (2 + 2 + 2 + 2 + xs.length)) ++ ((be 2 fr) ++ (be 2 to) ++ (be 2 (8 + xs.length)) ++ (be 2 0) ++ xs)) = 0) := by have z_ := qh50; omega
        have hB : uB s d fr to pl xs = sput ((be 2 fr) ++ (be 2 to) ++ (be 2 (8 + xs.length)) ++ (be 2 0) ++ xs) 6 (65535 - (cks ((psh s d (17 : UInt8) (2 + 2 + 2 + 2 + xs.length)) ++ ((be 2 fr) ++ (be 2 to) ++ (be 2 (8 + xs.length)) ++ (be 2 0) ++ xs)))) := by unfold uB sealN; rw [if_neg (by omega), h37, hq, if_pos hc0]; (try rw [hc0]); first | done | rfl
        have hn : (uB s d fr to pl xs).length = 2 + 2 + 2 + 2 + xs.length := by rw [uB_len (by omega)]; first | done | omega
        show ∀ w_, _ → bodyPostM (fence none) 0 Try.prog Try.f14 _ Exit.ret _ w_
        exact fun w_ hS_ => fin_ret (ret2 rfl (RV.tmp (v := Value.slice g54.a (2 + 2 + 2 + 2 + xs.length) g54.cap) (by kernel_rfl)) (RV.tmp (v := Value.int .i64 0) (by kernel_rfl)) hS_ ⟨g54, (by rw [hn]; exact ok55), congrArg Ending.returned ((by rw [hn, hE])), (Mem.cast (by rw [hB]; rfl) (hS_.pick [0] (by decide) rfl))⟩)
      · have qh51 := h51; try simp only [Bool.and_eq_true, Bool.or_eq_true, Bool.not_eq_true', Bool.not_eq_false', Bool.and_eq_false_iff, Bool.or_eq_false_iff, decide_eq_true_eq, decide_eq_false_iff_not, beq_iff_eq, bne_iff_ne, beq_eq_false_iff_ne, bne_eq_false_iff_eq] at qh51
        refine W.skip' ?_
        refine hK47 _ _ _ ?_
        refine W.prune' [8, 9] [Value.slice g28.a (2 + 2 + 2 + 2 + xs.length) g28.cap, Value.int .u16 ((cks ((psh s d (17 : UInt8) (2 + 2 + 2 + 2 + xs.length)) ++ ((be 2 fr) ++ (be 2 to) ++ (be 2 (8 + xs.length)) ++ (be 2 0) ++ xs)) : Nat) : Int)] (by kernel_rfl) (fun f59 => ?_)
        refine W.seq (fun K60 hK60 => ?_)
        refine W.region ?_
        refine Wl.run 2 (by kernel_rfl) ?_
        refine Wl.ht rfl (Ht.call (β := FS) (k := 45) (args := #[Value.slice g28.a (2 + 2 + 2 + 2 + xs.length) g28.cap, Value.int .i64 6, Value.int .u16 ((cks ((psh s d (17 : UInt8) (2 + 2 + 2 + 2 + xs.length)) ++ ((be 2 fr) ++ (be 2 to) ++ (be 2 (8 + xs.length)) ++ (be 2 0) ++ xs)) : Nat) : Int)]) (Lin := [g28.seg 5 (mc b8 ((be 2 fr) ++ (be 2 to) ++ (be 2 (8 + xs.length)) ++ (be 2 0) ++ xs))]) (Lk := []) (Lo := fun g61 => [g61.seg 5 (mc b8 (sput ((be 2 fr) ++ (be 2 to) ++ (be 2 (8 + xs.length)) ++ (be 2 0) ++ xs) 6 (cks ((psh s d (17 : UInt8) (2 + 2 + 2 + 2 + xs.length)) ++ ((be 2 fr) ++ (be 2 to) ++ (be 2 (8 + xs.length)) ++ (be 2 0) ++ xs)))))]) [0] [] rfl (fun _ => by kernel_rfl) (by decide) rfl rfl rfl (fun w_ hm_ hl_ => (sealn_seal g28 ((be 2 fr) ++ (be 2 to) ++ (be 2 (8 + xs.length)) ++ (be 2 0) ++ xs) (2 + 2 + 2 + 2 + xs.length) 6 (cks ((psh s d (17 : UInt8) (2 + 2 + 2 + 2 + xs.length)) ++ ((be 2 fr) ++ (be 2 to) ++ (be 2 (8 + xs.length)) ++ (be 2 0) ++ xs))) _ _ (by first | rfl | (simp [be_len, be_len, psh_len]; try omega)) hl_ ok29 (nn30 (by simp)) (by first | omega | (simp [be_len, be_len, psh_len]; omega)) (by first | omega | (simp [be_len, be_len, psh_len]; omega)) (by omega))) (fun _ => rfl)) (fun x64 => ?_)
        obtain ⟨g61, ok62, nn63⟩ := x64
        refine Wl.castL (LL' := [g61.seg 5 (mc b8 (sput ((be 2 fr) ++ (be 2 to) ++ (be 2 (8 + xs.length)) ++ (be 2 0) ++ xs) 6 (cks ((psh s d (17 : UInt8) (2 + 2 + 2 + 2 + xs.length)) ++ ((be 2 fr) ++ (be 2 to) ++ (be 2 (8 + xs.length)) ++ (be 2 0) ++ xs)))))]) rfl ?_
        refine Wl.run 2 (by kernel_rfl) ?_
        refine Wl.nil ?_
        refine hK60 _ _ _ ?_
        refine W.prune' [6, 7] [Value.slice g61.a (2 + 2 + 2 + 2 + xs.length) g61.cap, Value.int .i64 0] (by kernel_rfl) (fun f65 => ?_)
        refine W.ret ?_
        have hE : uE xs.length = 0 := by unfold uE; rw [if_neg (by omega)]
        have hl8 : 2 + 2 + 2 + 2 + xs.length = 8 + xs.length := by first | omega | (simp [be_len]; omega)
        have hq : uC s d fr to xs = cks ((psh s d (17 : UInt8) (2 + 2 + 2 + 2 + xs.length)) ++ ((be 2 fr) ++ (be 2 to) ++ (be 2 (8 + xs.length)) ++ (be 2 0) ++ xs)) := by unfold uC uH; rw [hl8]; first | done | rfl
        have hc0 : ¬ (cks ((psh s d (17 : UInt8) (2 + 2 + 2 + 2 + xs.length)) ++ ((be 2 fr) ++ (be 2 to) ++ (be 2 (8 + xs.length)) ++ (be 2 0) ++ xs)) = 0) := by have z_ := qh51; omega
        have hB : uB s d fr to pl xs = sput ((be 2 fr) ++ (be 2 to) ++ (be 2 (8 + xs.length)) ++ (be 2 0) ++ xs) 6 (cks ((psh s d (17 : UInt8) (2 + 2 + 2 + 2 + xs.length)) ++ ((be 2 fr) ++ (be 2 to) ++ (be 2 (8 + xs.length)) ++ (be 2 0) ++ xs))) := by unfold uB sealN; rw [if_neg (by omega), h37, hq, if_neg hc0]; first | done | rfl
        have hn : (uB s d fr to pl xs).length = 2 + 2 + 2 + 2 + xs.length := by rw [uB_len (by omega)]; first | done | omega
        show ∀ w_, _ → bodyPostM (fence none) 0 Try.prog Try.f14 _ Exit.ret _ w_
        exact fun w_ hS_ => fin_ret (ret2 rfl (RV.tmp (v := Value.slice g61.a (2 + 2 + 2 + 2 + xs.length) g61.cap) (by kernel_rfl)) (RV.tmp (v := Value.int .i64 0) (by kernel_rfl)) hS_ ⟨g61, (by rw [hn]; exact ok62), congrArg Ending.returned ((by rw [hn, hE])), (Mem.cast (by rw [hB]; rfl) (hS_.pick [0] (by decide) rfl))⟩)

theorem rwudp_c (s d fr to : Nat) (pl : Bool) (xs : List UInt8) (a : Option Addr) (cap : Nat) (w : World) (hat : At w a (byc xs)) (hs : s < 4294967296) (hd : d < 4294967296) (hf : fr < 65536) (ht : to < 65536) (hl : xs.length ≤ 100000) (hlc : xs.length ≤ cap) : Calls Try.prog 15 #[Value.int .u32 ((s : Nat) : Int), Value.int .u32 ((d : Nat) : Int), Value.agg ([Value.int .u16 ((fr : Nat) : Int), Value.int .u16 ((to : Nat) : Int), Value.bool pl, Value.slice a xs.length cap]).toArray] w (RetM w (fun g : FS => g.ok 1 (uB s d fr to pl xs).length) (fun g => .tuple #[.slice g.a (uB s d fr to pl xs).length g.cap, .int .i64 (uE xs.length)]) [] (fun g => [g.seg 5 (byc (uB s d fr to pl xs))])) := by
  refine calls_W (M := []) (LL := []) (n := 48) Try.func15 rfl rfl (by simp) (Mem.refl _) ?_
  refine W.seq (fun K1 hK1 => ?_)
  refine W.region ?_
  refine Wl.ht rfl (Ht.box (v := Value.agg ([Value.int .u16 ((fr : Nat) : Int), Value.int .u16 ((to : Nat) : Int), Value.bool pl, Value.slice a xs.length cap]).toArray) (cs := [Value.int .u16 ((fr : Nat) : Int), Value.int .u16 ((to : Nat) : Int), Value.bool pl, Value.slice a xs.length cap]) rfl rfl (by kernel_rfl) rfl) (fun p5 => ?_)
  refine Wl.run 2 (by kernel_rfl) ?_
  refine Wl.nil ?_
  refine hK1 _ _ _ ?_
  refine W.prune' [0, 1, 5] [Value.int .u32 ((s : Nat) : Int), Value.int .u32 ((d : Nat) : Int), Value.pointer (some ⟨p5, 0, none⟩)] (by kernel_rfl) (fun f2 => ?_)
  refine W.seq (fun K3 hK3 => ?_)
  refine W.seq (fun K4 hK4 => ?_)
  refine W.region ?_
  refine Wl.run 1 (by kernel_rfl) ?_
  refine Wl.ys (v := Value.slice a xs.length cap) rfl rfl (Ys.load (b := p5) (o' := 3) (i := 0) (j := 0) (cs := [Value.int .u16 ((fr : Nat) : Int), Value.int .u16 ((to : Nat) : Int), Value.bool pl, Value.slice a xs.length cap]) (v := Value.slice a xs.length cap) rfl (by kernel_rfl) Try.isAgg26 rfl rfl rfl) ?_
  refine Wl.run 2 (by kernel_rfl) ?_
  refine Wl.nil ?_
  refine hK4 _ _ _ ?_
  refine W.prune' [0, 1, 5, 13] [Value.int .u32 ((s : Nat) : Int), Value.int .u32 ((d : Nat) : Int), Value.pointer (some ⟨p5, 0, none⟩), Value.bool (decide (((xs.length : Nat) : Int) > 1472))] (by kernel_rfl) (fun f5 => ?_)
  refine W.cond (decide (((xs.length : Nat) : Int) > 1472)) (by kernel_rfl) (fun h6 => ?_) (fun h7 => ?_)
  · have qh6 := h6; try simp only [Bool.and_eq_true, Bool.or_eq_true, Bool.not_eq_true', Bool.not_eq_false', Bool.and_eq_false_iff, Bool.or_eq_false_iff, decide_eq_true_eq, decide_eq_false_iff_not, beq_iff_eq, bne_iff_ne, beq_eq_false_iff_ne, bne_eq_false_iff_eq] at qh6
    refine W.seq (fun K8 hK8 => ?_)
    refine W.region ?_
    refine Wl.ht rfl (Ht.made (mk := fun b_ => .slice (some ⟨b_, 0, none⟩) 0 0) (t := 5) (cs := []) rfl (fun _ => by kernel_rfl)) (fun p14 => ?_)
    refine Wl.run 2 (by kernel_rfl) ?_
    refine Wl.nil ?_
    refine hK8 _ _ _ ?_
    refine W.pick (LL' := [[cb p14 [] 5]]) [0] (by decide) rfl ?_
    refine W.prune' [6, 7] [Value.slice (some ⟨p14, 0, none⟩) 0 0, Value.int .i64 14] (by kernel_rfl) (fun f9 => ?_)
    refine W.ret ?_
    have hE : uE xs.length = 14 := by unfold uE; rw [if_pos (by omega)]
    have hB : uB s d fr to pl xs = [] := by unfold uB; rw [if_pos (by omega)]
    show ∀ w_, _ → bodyPostM (fence none) 0 Try.prog Try.f15 _ Exit.ret _ w_
    exact fun w_ hS_ => fin_ret (ret2 rfl (RV.tmp (v := Value.slice (some ⟨p14, 0, none⟩) 0 0) (by kernel_rfl)) (RV.tmp (v := Value.int .i64 14) (by kernel_rfl)) hS_ ⟨(FS.mk false p14 0 []), (by rw [hB]; exact (FS.lit_ok (by decide))), congrArg Ending.returned ((by rw [hB, hE]; rfl)), (Mem.cast (by rw [hB]; rfl) (hS_.pick [0] (by decide) rfl))⟩)
  · have qh7 := h7; try simp only [Bool.and_eq_true, Bool.or_eq_true, Bool.not_eq_true', Bool.not_eq_false', Bool.and_eq_false_iff, Bool.or_eq_false_iff, decide_eq_true_eq, decide_eq_false_iff_not, beq_iff_eq, bne_iff_ne, beq_eq_false_iff_ne, bne_eq_false_iff_eq] at qh7
    refine W.skip' ?_
    refine hK3 _ _ _ ?_
    refine W.prune' [0, 1, 5] [Value.int .u32 ((s : Nat) : Int), Value.int .u32 ((d : Nat) : Int), Value.pointer (some ⟨p5, 0, none⟩)] (by kernel_rfl) (fun f10 => ?_)
    refine W.seq (fun K11 hK11 => ?_)
    refine W.draws [(0, true), (1, true), (2, true), (4, true), (5, true), (6, true), (3, false), (7, false), (8, false), (9, false)] [0, 1, 2, 4, 5, 6] (Mem w [] [[cb p5 [Value.int .u16 ((fr : Nat) : Int), Value.int .u16 ((to : Nat) : Int), Value.bool pl, Value.slice a xs.length cap] 28]]) (by kernel_rfl) (by kernel_rfl) (by kernel_rfl) rfl (by kernel_rfl) (fun _ _ h_ => h_.drawn _) (fun _ h_ => h_) ?_
    refine Wd.run 1 (by kernel_rfl) ?_
    refine Wd.ys (v := Value.int .u16 ((fr : Nat) : Int)) rfl rfl rfl (Ys.load (b := p5) (o' := 0) (i := 0) (j := 0) (cs := [Value.int .u16 ((fr : Nat) : Int), Value.int .u16 ((to : Nat) : Int), Value.bool pl, Value.slice a xs.length cap]) (v := Value.int .u16 ((fr : Nat) : Int)) rfl (by kernel_rfl) Try.isAgg25 rfl rfl rfl) ?_
    refine Wd.ys (v := Value.int .i64 ((fr : Nat) : Int)) rfl rfl rfl ((Ys.pure (v := .int .i64 (icnv .i64 ((fr : Nat) : Int))) (fun _ => by kernel_rfl)).conseq (int_congr (wrap_i64 (by omega) (by omega)))) ?_
    refine Wd.run 1 (by kernel_rfl) ?_
    refine Wd.ys (v := Value.int .u16 ((to : Nat) : Int)) rfl rfl rfl (Ys.load (b := p5) (o' := 1) (i := 0) (j := 0) (cs := [Value.int .u16 ((fr : Nat) : Int), Value.int .u16 ((to : Nat) : Int), Value.bool pl, Value.slice a xs.length cap]) (v := Value.int .u16 ((to : Nat) : Int)) rfl (by kernel_rfl) Try.isAgg25 rfl rfl rfl) ?_
    refine Wd.ys (v := Value.int .i64 ((to : Nat) : Int)) rfl rfl rfl ((Ys.pure (v := .int .i64 (icnv .i64 ((to : Nat) : Int))) (fun _ => by kernel_rfl)).conseq (int_congr (wrap_i64 (by omega) (by omega)))) ?_
    refine Wd.ht rfl rfl (Ht.call (β := FS) (k := 46) (args := #[Value.int .i64 ((fr : Nat) : Int)]) (Lin := []) (Lk := [[cb p5 [Value.int .u16 ((fr : Nat) : Int), Value.int .u16 ((to : Nat) : Int), Value.bool pl, Value.slice a xs.length cap] 28]]) (Mi := []) (Lo := fun g12 => [g12.seg 5 (mc b8 (be 2 fr)), [cb p5 [Value.int .u16 ((fr : Nat) : Int), Value.int .u16 ((to : Nat) : Int), Value.bool pl, Value.slice a xs.length cap] 28]]) [] [0] rfl (fun _ => by kernel_rfl) (by decide) rfl rfl rfl (fun w_ hm_ hl_ => two_c fr _ (by omega)) (fun _ => rfl)) (.inr fun _ _ h_ => h_.pick [1] (by decide) rfl) (fun x15 => ?_)
    obtain ⟨g12, ok13, nn14⟩ := x15
    refine Wd.castL (LL' := [g12.seg 5 (mc b8 (be 2 fr)), [cb p5 [Value.int .u16 ((fr : Nat) : Int), Value.int .u16 ((to : Nat) : Int), Value.bool pl, Value.slice a xs.length cap] 28]]) rfl ?_
    refine Wd.ht rfl rfl (Ht.call (β := FS) (k := 46) (args := #[Value.int .i64 ((to : Nat) : Int)]) (Lin := []) (Lk := [g12.seg 5 (mc b8 (be 2 fr)), [cb p5 [Value.int .u16 ((fr : Nat) : Int), Value.int .u16 ((to : Nat) : Int), Value.bool pl, Value.slice a xs.length cap] 28]]) (Mi := []) (Lo := fun g16 => [g16.seg 5 (mc b8 (be 2 to)), g12.seg 5 (mc b8 (be 2 fr)), [cb p5 [Value.int .u16 ((fr : Nat) : Int), Value.int .u16 ((to : Nat) : Int), Value.bool pl, Value.slice a xs.length cap] 28]]) [] [0, 1] rfl (fun _ => by kernel_rfl) (by decide) rfl rfl rfl (fun w_ hm_ hl_ => two_c to _ (by omega)) (fun _ => rfl)) (.inr fun _ _ h_ => h_.pick [2] (by decide) rfl) (fun x19 => ?_)
    obtain ⟨g16, ok17, nn18⟩ := x19
    refine Wd.castL (LL' := [g16.seg 5 (mc b8 (be 2 to)), g12.seg 5 (mc b8 (be 2 fr)), [cb p5 [Value.int .u16 ((fr : Nat) : Int), Value.int .u16 ((to : Nat) : Int), Value.bool pl, Value.slice a xs.length cap] 28]]) rfl ?_
    refine Wd.ht rfl rfl (Ht.append (eu := 5) (xv := Value.slice g16.a 2 g16.cap) (i := 1) (g := g12) (e := 5) (ii := (Try.prog.info? 5).getD default) (z := Value.int .u8 0) (sz := 1) (bytes := 1) (nn := 2) (m := 2) (k := 2 + 2) (xs := mc b8 (be 2 fr)) (news := mc b8 (be 2 to)) (cs' := mc b8 ((be 2 fr) ++ (be 2 to))) (Lo := fun g20 => [g16.seg 5 (mc b8 (be 2 to)), g20.seg 5 (mc b8 ((be 2 fr) ++ (be 2 to))), [cb p5 [Value.int .u16 ((fr : Nat) : Int), Value.int .u16 ((to : Nat) : Int), Value.bool pl, Value.slice a xs.length cap] 28]]) rfl rfl (by kernel_rfl) (by kernel_rfl) (by kernel_rfl) (by kernel_rfl) (by kernel_rfl) (by kernel_rfl) (by kernel_rfl) (by kernel_rfl) (by kernel_rfl) rfl ok13 (by rw [mc_len, be_len, Nat.mul_one]) (fun _ => rfl) (Src.at (a := g16.a) (by first | rfl | (simp [mc, be_len, psh_len]; done) | (simp [mc, be_len, psh_len]; omega)) (fun w_ h_ => (FS.at (i := 0) (t := 5) h_ rfl (FS.nil_cs ok17 (by rw [mc_len, be_len, Nat.mul_one]))))) (by first | rfl | (simp [mc, be_len, psh_len]; done) | (simp [mc, be_len, psh_len]; omega)) (mc_one (fun _ => rfl) _) (by first | omega | (simp; done) | (simp; omega)) (by simp only [maxLen]; first | omega | (simp; done) | (simp; omega)) (by first | omega | (simp; done) | (simp; omega)) (mc_app _ _) (fun _ => rfl)) (.inr fun _ _ h_ => h_.pick [2] (by decide) rfl) (fun x24 => ?_)
    obtain ⟨g20, ok21, hn22, hn23⟩ := x24
    refine Wd.castL (LL' := [g16.seg 5 (mc b8 (be 2 to)), g20.seg 5 (mc b8 ((be 2 fr) ++ (be 2 to))), [cb p5 [Value.int .u16 ((fr : Nat) : Int), Value.int .u16 ((to : Nat) : Int), Value.bool pl, Value.slice a xs.length cap] 28]]) rfl ?_
    refine Wd.yc (v := Value.slice g20.a (2 + 2) g20.cap) rfl rfl rfl (Ys.yc (Ys.pure (fun _ => by kernel_rfl))) (.inl (by kernel_rfl)) ?_
    refine Wd.nil ?_
    refine hK11 _ _ _ ?_
    refine W.pick (LL' := [g20.seg 5 (mc b8 ((be 2 fr) ++ (be 2 to))), [cb p5 [Value.int .u16 ((fr : Nat) : Int), Value.int .u16 ((to : Nat) : Int), Value.bool pl, Value.slice a xs.length cap] 28]]) [1, 2] (by decide) rfl ?_
    refine W.prune' [0, 1, 5, 8] [Value.int .u32 ((s : Nat) : Int), Value.int .u32 ((d : Nat) : Int), Value.pointer (some ⟨p5, 0, none⟩), Value.slice g20.a (2 + 2) g20.cap] (by kernel_rfl) (fun f25 => ?_)
    refine W.seq (fun K26 hK26 => ?_)
    refine W.meet5 (w0 := w) (M := []) K26 [0, 1, 5, 8] (fun (g27 : FS) (g31 : FS) (p31 : Nat) (g36 : FS) (g41 : FS) => [Value.int .u32 ((s : Nat) : Int), Value.int .u32 ((d : Nat) : Int), Value.pointer (some ⟨p5, 0, none⟩), Value.slice g41.a ((((2 + 2) + 2) + 2) + xs.length) g41.cap]) (fun (g27 : FS) (g31 : FS) (p31 : Nat) (g36 : FS) (g41 : FS) => g27.ok 1 2 ∧ g27.nil = false ∧ g31.ok 1 ((2 + 2) + 2) ∧ (0 < (2 + 2) + 2 → g31.nil = false) ∧ (g20.nil = false → g31.nil = false) ∧ g36.ok 1 (((2 + 2) + 2) + 2) ∧ (0 < ((2 + 2) + 2) + 2 → g36.nil = false) ∧ (g31.nil = false → g36.nil = false) ∧ g41.ok 1 ((((2 + 2) + 2) + 2) + xs.length) ∧ (0 < (((2 + 2) + 2) + 2) + xs.length → g41.nil = false) ∧ (g36.nil = false → g41.nil = false)) (fun (g27 : FS) (g31 : FS) (p31 : Nat) (g36 : FS) (g41 : FS) => [[cb p31 [Value.int .u8 0, Value.int .u8 0] 5], g27.seg 5 (mc b8 (be 2 (8 + xs.length))), g41.seg 5 (mc b8 (((((be 2 fr) ++ (be 2 to)) ++ (be 2 (8 + xs.length))) ++ [(0 : UInt8), (0 : UInt8)]) ++ xs)), [cb p5 [Value.int .u16 ((fr : Nat) : Int), Value.int .u16 ((to : Nat) : Int), Value.bool pl, Value.slice a xs.length cap] 28]]) (fun J27 hJ27 => ?_) (fun g27 g31 p31 g36 g41 f28 hp29 => ?_)
    · refine W.drawsA [0, 1, 2, 3, 4, 9, 10, 12] (Mem w [] [[cb p5 [Value.int .u16 ((fr : Nat) : Int), Value.int .u16 ((to : Nat) : Int), Value.bool pl, Value.slice a xs.length cap] 28]]) (by kernel_rfl) (by kernel_rfl) (fun _ _ h_ => h_.drawn _) ?_
      refine Wa.ys (v := Value.slice g20.a (2 + 2) g20.cap) (i := 0) (by kernel_rfl) (by kernel_rfl) (by kernel_rfl) (by kernel_rfl) (fun _ h_ => h_.pick [1] (by decide) rfl) rfl rfl rfl (Ys.pure (fun _ => by kernel_rfl)) ?_
      refine Wa.ys (v := Value.pointer (some ⟨p5, 3, none⟩)) (i := 1) (by kernel_rfl) (by kernel_rfl) (by kernel_rfl) (by kernel_rfl) (fun _ h_ => h_.pick [1] (by decide) rfl) rfl rfl rfl (Ys.pure (fun _ => by kernel_rfl)) ?_
      refine Wa.ys (v := Value.slice a xs.length cap) (i := 2) (by kernel_rfl) (by kernel_rfl) (by kernel_rfl) (by kernel_rfl) (fun _ h_ => h_.pick [1] (by decide) rfl) rfl rfl rfl (Ys.load (b := p5) (o' := 3) (i := 0) (j := 0) (cs := [Value.int .u16 ((fr : Nat) : Int), Value.int .u16 ((to : Nat) : Int), Value.bool pl, Value.slice a xs.length cap]) (v := Value.slice a xs.length cap) rfl (by kernel_rfl) Try.isAgg26 rfl rfl rfl) ?_
      refine Wa.ys (v := Value.int .i64 ((xs.length : Nat) : Int)) (i := 3) (by kernel_rfl) (by kernel_rfl) (by kernel_rfl) (by kernel_rfl) (fun _ h_ => h_.pick [1] (by decide) rfl) rfl rfl rfl (Ys.pure (fun _ => by kernel_rfl)) ?_
      refine Wa.ys (v := Value.int .i64 ((8 + xs.length : Nat) : Int)) (i := 4) (by kernel_rfl) (by kernel_rfl) (by kernel_rfl) (by kernel_rfl) (fun _ h_ => h_.pick [1] (by decide) rfl) rfl rfl rfl ((Ys.pure (v := .int .i64 (iadd .i64 8 ((xs.length : Nat) : Int))) (fun _ => by kernel_rfl)).conseq (int_congr (iadd_eq (by omega) (by omega) (by omega)))) ?_
      refine Wa.ys (v := Value.pointer (some ⟨p5, 3, none⟩)) (i := 9) (by kernel_rfl) (by kernel_rfl) (by kernel_rfl) (by kernel_rfl) (fun _ h_ => h_.pick [1] (by decide) rfl) rfl rfl rfl (Ys.pure (fun _ => by kernel_rfl)) ?_
      refine Wa.ys (v := Value.slice a xs.length cap) (i := 10) (by kernel_rfl) (by kernel_rfl) (by kernel_rfl) (by kernel_rfl) (fun _ h_ => h_.pick [1] (by decide) rfl) rfl rfl rfl (Ys.load (b := p5) (o' := 3) (i := 0) (j := 0) (cs := [Value.int .u16 ((fr : Nat) : Int), Value.int .u16 ((to : Nat) : Int), Value.bool pl, Value.slice a xs.length cap]) (v := Value.slice a xs.length cap) rfl (by kernel_rfl) Try.isAgg26 rfl rfl rfl) ?_
      refine Wa.alt2 (i := 5) (j := 7) (by kernel_rfl) ?_ ?_
      · refine Wo.ht rfl rfl (Ht.call (β := FS) (k := 46) (args := #[Value.int .i64 ((8 + xs.length : Nat) : Int)]) (Lin := []) (Lk := [g20.seg 5 (mc b8 ((be 2 fr) ++ (be 2 to))), [cb p5 [Value.int .u16 ((fr : Nat) : Int), Value.int .u16 ((to : Nat) : Int), Value.bool pl, Value.slice a xs.length cap] 28]]) (Mi := []) (Lo := fun g30 => [g30.seg 5 (mc b8 (be 2 (8 + xs.length))), g20.seg 5 (mc b8 ((be 2 fr) ++ (be 2 to))), [cb p5 [Value.int .u16 ((fr : Nat) : Int), Value.int .u16 ((to : Nat) : Int), Value.bool pl, Value.slice a xs.length cap] 28]]) [] [0, 1] rfl (fun _ => by kernel_rfl) (by decide) rfl rfl rfl (fun w_ hm_ hl_ => two_c (8 + xs.length) _ (by omega)) (fun _ => rfl)) (.inr fun _ _ h_ => h_.pick [2] (by decide) rfl) (fun x33 => ?_)
        obtain ⟨g30, ok31, nn32⟩ := x33
        refine Wa.castL (LL' := [g30.seg 5 (mc b8 (be 2 (8 + xs.length))), g20.seg 5 (mc b8 ((be 2 fr) ++ (be 2 to))), [cb p5 [Value.int .u16 ((fr : Nat) : Int), Value.int .u16 ((to : Nat) : Int), Value.bool pl, Value.slice a xs.length cap] 28]]) rfl ?_
        refine Wa.alt2 (i := 6) (j := 7) (by kernel_rfl) ?_ ?_
        · refine Wo.ht rfl rfl (Ht.append (eu := 5) (xv := Value.slice g30.a 2 g30.cap) (i := 1) (g := g20) (e := 5) (ii := (Try.prog.info? 5).getD default) (z := Value.int .u8 0) (sz := 1) (bytes := 1) (nn := 2 + 2) (m := 2) (k := (2 + 2) + 2) (xs := mc b8 ((be 2 fr) ++ (be 2 to))) (news := mc b8 (be 2 (8 + xs.length))) (cs' := mc b8 (((be 2 fr) ++ (be 2 to)) ++ (be 2 (8 + xs.length)))) (Lo := fun g34 => [g30.seg 5 (mc b8 (be 2 (8 + xs.length))), g34.seg 5 (mc b8 (((be 2 fr) ++ (be 2 to)) ++ (be 2 (8 + xs.length)))), [cb p5 [Value.int .u16 ((fr : Nat) : Int), Value.int .u16 ((to : Nat) : Int), Value.bool pl, Value.slice a xs.length cap] 28]]) rfl rfl (by kernel_rfl) (by kernel_rfl) (by kernel_rfl) (by kernel_rfl) (by kernel_rfl) (by kernel_rfl) (by kernel_rfl) (by kernel_rfl) (by kernel_rfl) rfl ok21 (by simp [mc, be_len, psh_len]; try omega) (fun _ => rfl) (Src.at (a := g30.a) (by first | rfl | (simp [mc, be_len, psh_len]; done) | (simp [mc, be_len, psh_len]; omega)) (fun w_ h_ => (FS.at (i := 0) (t := 5) h_ rfl (FS.nil_cs ok31 (by rw [mc_len, be_len, Nat.mul_one]))))) (by first | rfl | (simp [mc, be_len, psh_len]; done) | (simp [mc, be_len, psh_len]; omega)) (mc_one (fun _ => rfl) _) (by first | omega | (simp; done) | (simp; omega)) (by simp only [maxLen]; first | omega | (simp; done) | (simp; omega)) (by first | omega | (simp; done) | (simp; omega)) (mc_app _ _) (fun _ => rfl)) (.inr fun _ _ h_ => h_.pick [2] (by decide) rfl) (fun x38 => ?_)
          obtain ⟨g34, ok35, hn36, hn37⟩ := x38
          refine Wa.castL (LL' := [g30.seg 5 (mc b8 (be 2 (8 + xs.length))), g34.seg 5 (mc b8 (((be 2 fr) ++ (be 2 to)) ++ (be 2 (8 + xs.length)))), [cb p5 [Value.int .u16 ((fr : Nat) : Int), Value.int .u16 ((to : Nat) : Int), Value.bool pl, Value.slice a xs.length cap] 28]]) rfl ?_
          refine Wa.only (i := 7) (by kernel_rfl) ?_
          refine Wo.ht rfl rfl (Ht.made (mk := fun b_ => .slice (some ⟨b_, 0, none⟩) 2 2) (t := 5) (cs := [Value.int .u8 0, Value.int .u8 0]) rfl (fun _ => by kernel_rfl)) (.inr fun _ _ h_ => h_.pick [3] (by decide) rfl) (fun p31 => ?_)
          refine Wa.only (i := 8) (by kernel_rfl) ?_
          refine Wo.ht rfl rfl (Ht.append (eu := 5) (xv := Value.slice (some ⟨p31, 0, none⟩) 2 2) (i := 2) (g := g34) (e := 5) (ii := (Try.prog.info? 5).getD default) (z := Value.int .u8 0) (sz := 1) (bytes := 1) (nn := (2 + 2) + 2) (m := 2) (k := ((2 + 2) + 2) + 2) (xs := mc b8 (((be 2 fr) ++ (be 2 to)) ++ (be 2 (8 + xs.length)))) (news := mc b8 [(0 : UInt8), (0 : UInt8)]) (cs' := mc b8 ((((be 2 fr) ++ (be 2 to)) ++ (be 2 (8 + xs.length))) ++ [(0 : UInt8), (0 : UInt8)])) (Lo := fun g39 => [[cb p31 [Value.int .u8 0, Value.int .u8 0] 5], g30.seg 5 (mc b8 (be 2 (8 + xs.length))), g39.seg 5 (mc b8 ((((be 2 fr) ++ (be 2 to)) ++ (be 2 (8 + xs.length))) ++ [(0 : UInt8), (0 : UInt8)])), [cb p5 [Value.int .u16 ((fr : Nat) : Int), Value.int .u16 ((to : Nat) : Int), Value.bool pl, Value.slice a xs.length cap] 28]]) rfl rfl (by kernel_rfl) (by kernel_rfl) (by kernel_rfl) (by kernel_rfl) (by kernel_rfl) (by kernel_rfl) (by kernel_rfl) (by kernel_rfl) (by kernel_rfl) rfl ok35 (by simp [mc, be_len, psh_len]; try omega) (fun _ => rfl) (Src.at (a := some ⟨p31, 0, none⟩) (by first | rfl | (simp [mc, be_len, psh_len]; done) | (simp [mc, be_len, psh_len]; omega)) (fun w_ h_ => (At.lit0 (i := 0) (j := 0) (t := 5) (b := p31) h_ rfl rfl))) (by first | rfl | (simp [mc, be_len, psh_len]; done) | (simp [mc, be_len, psh_len]; omega)) (mc_one (fun _ => rfl) _) (by first | omega | (simp; done) | (simp; omega)) (by simp only [maxLen]; first | omega | (simp; done) | (simp; omega)) (by first | omega | (simp; done) | (simp; omega)) (mc_app _ _) (fun _ => rfl)) (.inr fun _ _ h_ => h_.pick [3] (by decide) rfl) (fun x43 => ?_)
          obtain ⟨g39, ok40, hn41, hn42⟩ := x43
          refine Wa.castL (LL' := [[cb p31 [Value.int .u8 0, Value.int .u8 0] 5], g30.seg 5 (mc b8 (be 2 (8 + xs.length))), g39.seg 5 (mc b8 ((((be 2 fr) ++ (be 2 to)) ++ (be 2 (8 + xs.length))) ++ [(0 : UInt8), (0 : UInt8)])), [cb p5 [Value.int .u16 ((fr : Nat) : Int), Value.int .u16 ((to : Nat) : Int), Value.bool pl, Value.slice a xs.length cap] 28]]) rfl ?_
          refine Wa.only (i := 11) (by kernel_rfl) ?_
          refine Wo.ht rfl rfl (Ht.append (eu := 5) (xv := Value.slice a xs.length cap) (i := 2) (g := g39) (e := 5) (ii := (Try.prog.info? 5).getD default) (z := Value.int .u8 0) (sz := 1) (bytes := 1) (nn := ((2 + 2) + 2) + 2) (m := xs.length) (k := (((2 + 2) + 2) + 2) + xs.length) (xs := mc b8 ((((be 2 fr) ++ (be 2 to)) ++ (be 2 (8 + xs.length))) ++ [(0 : UInt8), (0 : UInt8)])) (news := mc b8 xs) (cs' := mc b8 (((((be 2 fr) ++ (be 2 to)) ++ (be 2 (8 + xs.length))) ++ [(0 : UInt8), (0 : UInt8)]) ++ xs)) (Lo := fun g44 => [[cb p31 [Value.int .u8 0, Value.int .u8 0] 5], g30.seg 5 (mc b8 (be 2 (8 + xs.length))), g44.seg 5 (mc b8 (((((be 2 fr) ++ (be 2 to)) ++ (be 2 (8 + xs.length))) ++ [(0 : UInt8), (0 : UInt8)]) ++ xs)), [cb p5 [Value.int .u16 ((fr : Nat) : Int), Value.int .u16 ((to : Nat) : Int), Value.bool pl, Value.slice a xs.length cap] 28]]) rfl rfl (by kernel_rfl) (by kernel_rfl) (by kernel_rfl) (by kernel_rfl) (by kernel_rfl) (by kernel_rfl) (by kernel_rfl) (by kernel_rfl) (by kernel_rfl) rfl ok40 (by simp [mc, be_len, psh_len]; try omega) (fun _ => rfl) (Src.at (a := a) (mc_len1 _) (fun w_ h_ => (hat.mem0 h_))) (mc_len1 _) (mc_one (fun _ => rfl) _) (by first | omega | (simp; done) | (simp; omega)) (by simp only [maxLen]; first | omega | (simp; done) | (simp; omega)) (by first | omega | (simp; done) | (simp; omega)) (mc_app _ _) (fun _ => rfl)) (.inr fun _ _ h_ => h_.pick [3] (by decide) rfl) (fun x48 => ?_)
          obtain ⟨g44, ok45, hn46, hn47⟩ := x48
          refine Wa.castL (LL' := [[cb p31 [Value.int .u8 0, Value.int .u8 0] 5], g30.seg 5 (mc b8 (be 2 (8 + xs.length))), g44.seg 5 (mc b8 (((((be 2 fr) ++ (be 2 to)) ++ (be 2 (8 + xs.length))) ++ [(0 : UInt8), (0 : UInt8)]) ++ xs)), [cb p5 [Value.int .u16 ((fr : Nat) : Int), Value.int .u16 ((to : Nat) : Int), Value.bool pl, Value.slice a xs.length cap] 28]]) rfl ?_
          refine Wa.ys (v := Value.slice g44.a ((((2 + 2) + 2) + 2) + xs.length) g44.cap) (i := 12) (by kernel_rfl) (by kernel_rfl) (by kernel_rfl) (by kernel_rfl) (fun _ h_ => h_.pick [3] (by decide) rfl) rfl rfl rfl (Ys.pure (fun _ => by kernel_rfl)) ?_
          refine Wa.nil (by kernel_rfl) ?_
          refine fun w_ h_ => hJ27 g30 g34 p31 g39 g44 _ w_ ⟨ok31, nn32, ok35, hn36, hn37, ok40, hn41, hn42, ok45, hn46, hn47⟩ (by kernel_rfl) h_
        · refine Wo.ht rfl rfl (Ht.made (mk := fun b_ => .slice (some ⟨b_, 0, none⟩) 2 2) (t := 5) (cs := [Value.int .u8 0, Value.int .u8 0]) rfl (fun _ => by kernel_rfl)) (.inr fun _ _ h_ => h_.pick [3] (by decide) rfl) (fun p31 => ?_)
          refine Wa.only (i := 6) (by kernel_rfl) ?_
          refine Wo.ht rfl rfl (Ht.append (eu := 5) (xv := Value.slice g30.a 2 g30.cap) (i := 2) (g := g20) (e := 5) (ii := (Try.prog.info? 5).getD default) (z := Value.int .u8 0) (sz := 1) (bytes := 1) (nn := 2 + 2) (m := 2) (k := (2 + 2) + 2) (xs := mc b8 ((be 2 fr) ++ (be 2 to))) (news := mc b8 (be 2 (8 + xs.length))) (cs' := mc b8 (((be 2 fr) ++ (be 2 to)) ++ (be 2 (8 + xs.length)))) (Lo := fun g49 => [[cb p31 [Value.int .u8 0, Value.int .u8 0] 5], g30.seg 5 (mc b8 (be 2 (8 + xs.length))), g49.seg 5 (mc b8 (((be 2 fr) ++ (be 2 to)) ++ (be 2 (8 + xs.length)))), [cb p5 [Value.int .u16 ((fr : Nat) : Int), Value.int .u16 ((to : Nat) : Int), Value.bool pl, Value.slice a xs.length cap] 28]]) rfl rfl (by kernel_rfl) (by kernel_rfl) (by kernel_rfl) (by kernel_rfl) (by kernel_rfl) (by kernel_rfl) (by kernel_rfl) (by kernel_rfl) (by kernel_rfl) rfl ok21 (by simp [mc, be_len, psh_len]; try omega) (fun _ => rfl) (Src.at (a := g30.a) (by first | rfl | (simp [mc, be_len, psh_len]; done) | (simp [mc, be_len, psh_len]; omega)) (fun w_ h_ => (FS.at (i := 1) (t := 5) h_ rfl (FS.nil_cs ok31 (by rw [mc_len, be_len, Nat.mul_one]))))) (by first | rfl | (simp [mc, be_len, psh_len]; done) | (simp [mc, be_len, psh_len]; omega)) (mc_one (fun _ => rfl) _) (by first | omega | (simp; done) | (simp; omega)) (by simp only [maxLen]; first | omega | (simp; done) | (simp; omega)) (by first | omega | (simp; done) | (simp; omega)) (mc_app _ _) (fun _ => rfl)) (.inr fun _ _ h_ => h_.pick [3] (by decide) rfl) (fun x53 => ?_)
          obtain ⟨g49, ok50, hn51, hn52⟩ := x53
          refine Wa.castL (LL' := [[cb p31 [Value.int .u8 0, Value.int .u8 0] 5], g30.seg 5 (mc b8 (be 2 (8 + xs.length))), g49.seg 5 (mc b8 (((be 2 fr) ++ (be 2 to)) ++ (be 2 (8 + xs.length)))), [cb p5 [Value.int .u16 ((fr : Nat) : Int), Value.int .u16 ((to : Nat) : Int), Value.bool pl, Value.slice a xs.length cap] 28]]) rfl ?_
          refine Wa.only (i := 8) (by kernel_rfl) ?_
          refine Wo.ht rfl rfl (Ht.append (eu := 5) (xv := Value.slice (some ⟨p31, 0, none⟩) 2 2) (i := 2) (g := g49) (e := 5) (ii := (Try.prog.info? 5).getD default) (z := Value.int .u8 0) (sz := 1) (bytes := 1) (nn := (2 + 2) + 2) (m := 2) (k := ((2 + 2) + 2) + 2) (xs := mc b8 (((be 2 fr) ++ (be 2 to)) ++ (be 2 (8 + xs.length)))) (news := mc b8 [(0 : UInt8), (0 : UInt8)]) (cs' := mc b8 ((((be 2 fr) ++ (be 2 to)) ++ (be 2 (8 + xs.length))) ++ [(0 : UInt8), (0 : UInt8)])) (Lo := fun g54 => [[cb p31 [Value.int .u8 0, Value.int .u8 0] 5], g30.seg 5 (mc b8 (be 2 (8 + xs.length))), g54.seg 5 (mc b8 ((((be 2 fr) ++ (be 2 to)) ++ (be 2 (8 + xs.length))) ++ [(0 : UInt8), (0 : UInt8)])), [cb p5 [Value.int .u16 ((fr : Nat) : Int), Value.int .u16 ((to : Nat) : Int), Value.bool pl, Value.slice a xs.length cap] 28]]) rfl rfl (by kernel_rfl) (by kernel_rfl) (by kernel_rfl) (by kernel_rfl) (by kernel_rfl) (by kernel_rfl) (by kernel_rfl) (by kernel_rfl) (by kernel_rfl) rfl ok50 (by simp [mc, be_len, psh_len]; try omega) (fun _ => rfl) (Src.at (a := some ⟨p31, 0, none⟩) (by first | rfl | (simp [mc, be_len, psh_len]; done) | (simp [mc, be_len, psh_len]; omega)) (fun w_ h_ => (At.lit0 (i := 0) (j := 0) (t := 5) (b := p31) h_ rfl rfl))) (by first | rfl | (simp [mc, be_len, psh_len]; done) | (simp [mc, be_len, psh_len]; omega)) (mc_one (fun _ => rfl) _) (by first | omega | (simp; done) | (simp; omega)) (by simp only [maxLen]; first | omega | (simp; done) | (simp; omega)) (by first | omega | (simp; done) | (simp; omega)) (mc_app _ _) (fun _ => rfl)) (.inr fun _ _ h_ => h_.pick [3] (by decide) rfl) (fun x58 => ?_)
          obtain ⟨g54, ok55, hn56, hn57⟩ := x58
          refine Wa.castL (LL' := [[cb p31 [Value.int .u8 0, Value.int .u8 0] 5], g30.seg 5 (mc b8 (be 2 (8 + xs.length))), g54.seg 5 (mc b8 ((((be 2 fr) ++ (be 2 to)) ++ (be 2 (8 + xs.length))) ++ [(0 : UInt8), (0 : UInt8)])), [cb p5 [Value.int .u16 ((fr : Nat) : Int), Value.int .u16 ((to : Nat) : Int), Value.bool pl, Value.slice a xs.length cap] 28]]) rfl ?_
          refine Wa.only (i := 11) (by kernel_rfl) ?_
          refine Wo.ht rfl rfl (Ht.append (eu := 5) (xv := Value.slice a xs.length cap) (i := 2) (g := g54) (e := 5) (ii := (Try.prog.info? 5).getD default) (z := Value.int .u8 0) (sz := 1) (bytes := 1) (nn := ((2 + 2) + 2) + 2) (m := xs.length) (k := (((2 + 2) + 2) + 2) + xs.length) (xs := mc b8 ((((be 2 fr) ++ (be 2 to)) ++ (be 2 (8 + xs.length))) ++ [(0 : UInt8), (0 : UInt8)])) (news := mc b8 xs) (cs' := mc b8 (((((be 2 fr) ++ (be 2 to)) ++ (be 2 (8 + xs.length))) ++ [(0 : UInt8), (0 : UInt8)]) ++ xs)) (Lo := fun g59 => [[cb p31 [Value.int .u8 0, Value.int .u8 0] 5], g30.seg 5 (mc b8 (be 2 (8 + xs.length))), g59.seg 5 (mc b8 (((((be 2 fr) ++ (be 2 to)) ++ (be 2 (8 + xs.length))) ++ [(0 : UInt8), (0 : UInt8)]) ++ xs)), [cb p5 [Value.int .u16 ((fr : Nat) : Int), Value.int .u16 ((to : Nat) : Int), Value.bool pl, Value.slice a xs.length cap] 28]]) rfl rfl (by kernel_rfl) (by kernel_rfl) (by kernel_rfl) (by kernel_rfl) (by kernel_rfl) (by kernel_rfl) (by kernel_rfl) (by kernel_rfl) (by kernel_rfl) rfl ok55 (by simp [mc, be_len, psh_len]; try omega) (fun _ => rfl) (Src.at (a := a) (mc_len1 _) (fun w_ h_ => (hat.mem0 h_))) (mc_len1 _) (mc_one (fun _ => rfl) _) (by first | omega | (simp; done) | (simp; omega)) (by simp only [maxLen]; first | omega | (simp; done) | (simp; omega)) (by first | omega | (simp; done) | (simp; omega)) (mc_app _ _) (fun _ => rfl)) (.inr fun _ _ h_ => h_.pick [3] (by decide) rfl) (fun x63 => ?_)
          obtain ⟨g59, ok60, hn61, hn62⟩ := x63
          refine Wa.castL (LL' := [[cb p31 [Value.int .u8 0, Value.int .u8 0] 5], g30.seg 5 (mc b8 (be 2 (8 + xs.length))), g59.seg 5 (mc b8 (((((be 2 fr) ++ (be 2 to)) ++ (be 2 (8 + xs.length))) ++ [(0 : UInt8), (0 : UInt8)]) ++ xs)), [cb p5 [Value.int .u16 ((fr : Nat) : Int), Value.int .u16 ((to : Nat) : Int), Value.bool pl, Value.slice a xs.length cap] 28]]) rfl ?_
          refine Wa.ys (v := Value.slice g59.a ((((2 + 2) + 2) + 2) + xs.length) g59.cap) (i := 12) (by kernel_rfl) (by kernel_rfl) (by kernel_rfl) (by kernel_rfl) (fun _ h_ => h_.pick [3] (by decide) rfl) rfl rfl rfl (Ys.pure (fun _ => by kernel_rfl)) ?_
          refine Wa.nil (by kernel_rfl) ?_
          refine fun w_ h_ => hJ27 g30 g49 p31 g54 g59 _ w_ ⟨ok31, nn32, ok50, hn51, hn52, ok55, hn56, hn57, ok60, hn61, hn62⟩ (by kernel_rfl) h_
      · refine Wo.ht rfl rfl (Ht.made (mk := fun b_ => .slice (some ⟨b_, 0, none⟩) 2 2) (t := 5) (cs := [Value.int .u8 0, Value.int .u8 0]) rfl (fun _ => by kernel_rfl)) (.inr fun _ _ h_ => h_.pick [2] (by decide) rfl) (fun p31 => ?_)
        refine Wa.only (i := 5) (by kernel_rfl) ?_
        refine Wo.ht rfl rfl (Ht.call (β := FS) (k := 46) (args := #[Value.int .i64 ((8 + xs.length : Nat) : Int)]) (Lin := []) (Lk := [[cb p31 [Value.int .u8 0, Value.int .u8 0] 5], g20.seg 5 (mc b8 ((be 2 fr) ++ (be 2 to))), [cb p5 [Value.int .u16 ((fr : Nat) : Int), Value.int .u16 ((to : Nat) : Int), Value.bool pl, Value.slice a xs.length cap] 28]]) (Mi := []) (Lo := fun g64 => [g64.seg 5 (mc b8 (be 2 (8 + xs.length))), [cb p31 [Value.int .u8 0, Value.int .u8 0] 5], g20.seg 5 (mc b8 ((be 2 fr) ++ (be 2 to))), [cb p5 [Value.int .u16 ((fr : Nat) : Int), Value.int .u16 ((to : Nat) : Int), Value.bool pl, Value.slice a xs.length cap] 28]]) [] [0, 1, 2] rfl (fun _ => by kernel_rfl) (by decide) rfl rfl rfl (fun w_ hm_ hl_ => two_c (8 + xs.length) _ (by omega)) (fun _ => rfl)) (.inr fun _ _ h_ => h_.pick [3] (by decide) rfl) (fun x67 => ?_)
        obtain ⟨g64, ok65, nn66⟩ := x67
        refine Wa.castL (LL' := [g64.seg 5 (mc b8 (be 2 (8 + xs.length))), [cb p31 [Value.int .u8 0, Value.int .u8 0] 5], g20.seg 5 (mc b8 ((be 2 fr) ++ (be 2 to))), [cb p5 [Value.int .u16 ((fr : Nat) : Int), Value.int .u16 ((to : Nat) : Int), Value.bool pl, Value.slice a xs.length cap] 28]]) rfl ?_
        refine Wa.only (i := 6) (by kernel_rfl) ?_
        refine Wo.ht rfl rfl (Ht.append (eu := 5) (xv := Value.slice g64.a 2 g64.cap) (i := 2) (g := g20) (e := 5) (ii := (Try.prog.info? 5).getD default) (z := Value.int .u8 0) (sz := 1) (bytes := 1) (nn := 2 + 2) (m := 2) (k := (2 + 2) + 2) (xs := mc b8 ((be 2 fr) ++ (be 2 to))) (news := mc b8 (be 2 (8 + xs.length))) (cs' := mc b8 (((be 2 fr) ++ (be 2 to)) ++ (be 2 (8 + xs.length)))) (Lo := fun g68 => [g64.seg 5 (mc b8 (be 2 (8 + xs.length))), [cb p31 [Value.int .u8 0, Value.int .u8 0] 5], g68.seg 5 (mc b8 (((be 2 fr) ++ (be 2 to)) ++ (be 2 (8 + xs.length)))), [cb p5 [Value.int .u16 ((fr : Nat) : Int), Value.int .u16 ((to : Nat) : Int), Value.bool pl, Value.slice a xs.length cap] 28]]) rfl rfl (by kernel_rfl) (by kernel_rfl) (by kernel_rfl) (by kernel_rfl) (by kernel_rfl) (by kernel_rfl) (by kernel_rfl) (by kernel_rfl) (by kernel_rfl) rfl ok21 (by simp [mc, be_len, psh_len]; try omega) (fun _ => rfl) (Src.at (a := g64.a) (by first | rfl | (simp [mc, be_len, psh_len]; done) | (simp [mc, be_len, psh_len]; omega)) (fun w_ h_ => (FS.at (i := 0) (t := 5) h_ rfl (FS.nil_cs ok65 (by rw [mc_len, be_len, Nat.mul_one]))))) (by first | rfl | (simp [mc, be_len, psh_len]; done) | (simp [mc, be_len, psh_len]; omega)) (mc_one (fun _ => rfl) _) (by first | omega | (simp; done) | (simp; omega)) (by simp only [maxLen]; first | omega | (simp; done) | (simp; omega)) (by first | omega | (simp; done) | (simp; omega)) (mc_app _ _) (fun _ => rfl)) (.inr fun _ _ h_ => h_.pick [3] (by decide) rfl) (fun x72 => ?_)
        obtain ⟨g68, ok69, hn70, hn71⟩ := x72
        refine Wa.castL (LL' := [g64.seg 5 (mc b8 (be 2 (8 + xs.length))), [cb p31 [Value.int .u8 0, Value.int .u8 0] 5], g68.seg 5 (mc b8 (((be 2 fr) ++ (be 2 to)) ++ (be 2 (8 + xs.length)))), [cb p5 [Value.int .u16 ((fr : Nat) : Int), Value.int .u16 ((to : Nat) : Int), Value.bool pl, Value.slice a xs.length cap] 28]]) rfl ?_
        refine Wa.only (i := 8) (by kernel_rfl) ?_
        refine Wo.ht rfl rfl (Ht.append (eu := 5) (xv := Value.slice (some ⟨p31, 0, none⟩) 2 2) (i := 2) (g := g68) (e := 5) (ii := (Try.prog.info? 5).getD default) (z := Value.int .u8 0) (sz := 1) (bytes := 1) (nn := (2 + 2) + 2) (m := 2) (k := ((2 + 2) + 2) + 2) (xs := mc b8 (((be 2 fr) ++ (be 2 to)) ++ (be 2 (8 + xs.length)))) (news := mc b8 [(0 : UInt8), (0 : UInt8)]) (cs' := mc b8 ((((be 2 fr) ++ (be 2 to)) ++ (be 2 (8 + xs.length))) ++ [(0 : UInt8), (0 : UInt8)])) (Lo := fun g73 => [g64.seg 5 (mc b8 (be 2 (8 + xs.length))), [cb p31 [Value.int .u8 0, Value.int .u8 0] 5], g73.seg 5 (mc b8 ((((be 2 fr) ++ (be 2 to)) ++ (be 2 (8 + xs.length))) ++ [(0 : UInt8), (0 : UInt8)])), [cb p5 [Value.int .u16 ((fr : Nat) : Int), Value.int .u16 ((to : Nat) : Int), Value.bool pl, Value.slice a xs.length cap] 28]]) rfl rfl (by kernel_rfl) (by kernel_rfl) (by kernel_rfl) (by kernel_rfl) (by kernel_rfl) (by kernel_rfl) (by kernel_rfl) (by kernel_rfl) (by kernel_rfl) rfl ok69 (by simp [mc, be_len, psh_len]; try omega) (fun _ => rfl) (Src.at (a := some ⟨p31, 0, none⟩) (by first | rfl | (simp [mc, be_len, psh_len]; done) | (simp [mc, be_len, psh_len]; omega)) (fun w_ h_ => (At.lit0 (i := 1) (j := 0) (t := 5) (b := p31) h_ rfl rfl))) (by first | rfl | (simp [mc, be_len, psh_len]; done) | (simp [mc, be_len, psh_len]; omega)) (mc_one (fun _ => rfl) _) (by first | omega | (simp; done) | (simp; omega)) (by simp only [maxLen]; first | omega | (simp; done) | (simp; omega)) (by first | omega | (simp; done) | (simp; omega)) (mc_app _ _) (fun _ => rfl)) (.inr fun _ _ h_ => h_.pick [3] (by decide) rfl) (fun x77 => ?_)
        obtain ⟨g73, ok74, hn75, hn76⟩ := x77
        refine Wa.castL (LL' := [g64.seg 5 (mc b8 (be 2 (8 + xs.length))), [cb p31 [Value.int .u8 0, Value.int .u8 0] 5], g73.seg 5 (mc b8 ((((be 2 fr) ++ (be 2 to)) ++ (be 2 (8 + xs.length))) ++ [(0 : UInt8), (0 : UInt8)])), [cb p5 [Value.int .u16 ((fr : Nat) : Int), Value.int .u16 ((to : Nat) : Int), Value.bool pl, Value.slice a xs.length cap] 28]]) rfl ?_
        refine Wa.only (i := 11) (by kernel_rfl) ?_
        refine Wo.ht rfl rfl (Ht.append (eu := 5) (xv := Value.slice a xs.length cap) (i := 2) (g := g73) (e := 5) (ii := (Try.prog.info? 5).getD default) (z := Value.int .u8 0) (sz := 1) (bytes := 1) (nn := ((2 + 2) + 2) + 2) (m := xs.length) (k := (((2 + 2) + 2) + 2) + xs.length) (xs := mc b8 ((((be 2 fr) ++ (be 2 to)) ++ (be 2 (8 + xs.length))) ++ [(0 : UInt8), (0 : UInt8)])) (news := mc b8 xs) (cs' := mc b8 (((((be 2 fr) ++ (be 2 to)) ++ (be 2 (8 + xs.length))) ++ [(0 : UInt8), (0 : UInt8)]) ++ xs)) (Lo := fun g78 => [g64.seg 5 (mc b8 (be 2 (8 + xs.length))), [cb p31 [Value.int .u8 0, Value.int .u8 0] 5], g78.seg 5 (mc b8 (((((be 2 fr) ++ (be 2 to)) ++ (be 2 (8 + xs.length))) ++ [(0 : UInt8), (0 : UInt8)]) ++ xs)), [cb p5 [Value.int .u16 ((fr : Nat) : Int), Value.int .u16 ((to : Nat) : Int), Value.bool pl, Value.slice a xs.length cap] 28]]) rfl rfl (by kernel_rfl) (by kernel_rfl) (by kernel_rfl) (by kernel_rfl) (by kernel_rfl) (by kernel_rfl) (by kernel_rfl) (by kernel_rfl) (by kernel_rfl) rfl ok74 (by simp [mc, be_len, psh_len]; try omega) (fun _ => rfl) (Src.at (a := a) (mc_len1 _) (fun w_ h_ => (hat.mem0 h_))) (mc_len1 _) (mc_one (fun _ => rfl) _) (by first | omega | (simp; done) | (simp; omega)) (by simp only [maxLen]; first | omega | (simp; done) | (simp; omega)) (by first | omega | (simp; done) | (simp; omega)) (mc_app _ _) (fun _ => rfl)) (.inr fun _ _ h_ => h_.pick [3] (by decide) rfl) (fun x82 => ?_)
        obtain ⟨g78, ok79, hn80, hn81⟩ := x82
        refine Wa.castL (LL' := [g64.seg 5 (mc b8 (be 2 (8 + xs.length))), [cb p31 [Value.int .u8 0, Value.int .u8 0] 5], g78.seg 5 (mc b8 (((((be 2 fr) ++ (be 2 to)) ++ (be 2 (8 + xs.length))) ++ [(0 : UInt8), (0 : UInt8)]) ++ xs)), [cb p5 [Value.int .u16 ((fr : Nat) : Int), Value.int .u16 ((to : Nat) : Int), Value.bool pl, Value.slice a xs.length cap] 28]]) rfl ?_
        refine Wa.ys (v := Value.slice g78.a ((((2 + 2) + 2) + 2) + xs.length) g78.cap) (i := 12) (by kernel_rfl) (by kernel_rfl) (by kernel_rfl) (by kernel_rfl) (fun _ h_ => h_.pick [3] (by decide) rfl) rfl rfl rfl (Ys.pure (fun _ => by kernel_rfl)) ?_
        refine Wa.nil (by kernel_rfl) ?_
        refine fun w_ h_ => hJ27 g64 g68 p31 g73 g78 _ w_ ⟨ok65, nn66, ok69, hn70, hn71, ok74, hn75, hn76, ok79, hn80, hn81⟩ (by kernel_rfl) (h_.pick [1, 0, 2, 3] (by decide) rfl)
    · refine hK26 _ _ _ ?_
      obtain ⟨ok28, nn29, ok32, hn33, hn34, ok37, hn38, hn39, ok42, hn43, hn44⟩ := hp29
      refine W.seq (fun K83 hK83 => ?_)
      refine W.seq (fun K84 hK84 => ?_)
      refine W.region ?_
      refine Wl.run 1 (by kernel_rfl) ?_
      refine Wl.ys (v := Value.bool pl) rfl rfl (Ys.load (b := p5) (o' := 2) (i := 3) (j := 0) (cs := [Value.int .u16 ((fr : Nat) : Int), Value.int .u16 ((to : Nat) : Int), Value.bool pl, Value.slice a xs.length cap]) (v := Value.bool pl) rfl (by kernel_rfl) Try.isAgg4 rfl rfl rfl) ?_
      refine Wl.nil ?_
      refine hK84 _ _ _ ?_
      refine W.pick (LL' := [g41.seg 5 (mc b8 (((((be 2 fr) ++ (be 2 to)) ++ (be 2 (8 + xs.length))) ++ [(0 : UInt8), (0 : UInt8)]) ++ xs))]) [2] (by decide) rfl ?_
      refine W.prune' [0, 1, 8, 37] [Value.int .u32 ((s : Nat) : Int), Value.int .u32 ((d : Nat) : Int), Value.slice g41.a ((((2 + 2) + 2) + 2) + xs.length) g41.cap, Value.bool pl] (by kernel_rfl) (fun f85 => ?_)
      refine W.cond (pl) (by kernel_rfl) (fun h86 => ?_) (fun h87 => ?_)
      · refine W.seq (fun K88 hK88 => ?_)
        refine W.region ?_
        refine Wl.run 3 (by kernel_rfl) ?_
        refine Wl.nil ?_
        refine hK88 _ _ _ ?_
        refine W.prune' [6, 7] [Value.slice g41.a ((((2 + 2) + 2) + 2) + xs.length) g41.cap, Value.int .i64 0] (by kernel_rfl) (fun f89 => ?_)
        refine W.ret ?_
        have hE : uE xs.length = 0 := by unfold uE; rw [if_neg (by omega)]
        have hB : uB s d fr to pl xs = ((((be 2 fr) ++ (be 2 to)) ++ (be 2 (8 + xs.length))) ++ [(0 : UInt8), (0 : UInt8)]) ++ xs := by unfold uB; rw [if_neg (by omega), h86]; rfl
        have hn : (uB s d fr to pl xs).length = (((2 + 2) + 2) + 2) + xs.length := by rw [uB_len (by omega)]; first | done | omega
        show ∀ w_, _ → bodyPostM (fence none) 0 Try.prog Try.f15 _ Exit.ret _ w_
        exact fun w_ hS_ => fin_ret (ret2 rfl (RV.tmp (v := Value.slice g41.a ((((2 + 2) + 2) + 2) + xs.length) g41.cap) (by kernel_rfl)) (RV.tmp (v := Value.int .i64 0) (by kernel_rfl)) hS_ ⟨g41, (by rw [hn]; exact ok42), congrArg Ending.returned ((by rw [hn, hE])), (Mem.cast (by rw [hB]; rfl) (hS_.pick [0] (by decide) rfl))⟩)
      · refine W.skip' ?_
        refine hK83 _ _ _ ?_
        refine W.prune' [0, 1, 8] [Value.int .u32 ((s : Nat) : Int), Value.int .u32 ((d : Nat) : Int), Value.slice g41.a ((((2 + 2) + 2) + 2) + xs.length) g41.cap] (by kernel_rfl) (fun f90 => ?_)
        refine W.seq (fun K91 hK91 => ?_)
        refine W.region ?_
        have hk92 := cks_le ((psh s d (17 : UInt8) (((((be 2 fr) ++ (be 2 to)) ++ (be 2 (8 + xs.length))) ++ [(0 : UInt8), (0 : UInt8)]) ++ xs).length ++ (((((be 2 fr) ++ (be 2 to)) ++ (be 2 (8 + xs.length))) ++ [(0 : UInt8), (0 : UInt8)]) ++ xs)))
        refine Wl.run 3 (by kernel_rfl) ?_
        refine Wl.yc (v := Value.int .u16 ((cks (psh s d (17 : UInt8) (((((be 2 fr) ++ (be 2 to)) ++ (be 2 (8 + xs.length))) ++ [(0 : UInt8), (0 : UInt8)]) ++ xs).length ++ (((((be 2 fr) ++ (be 2 to)) ++ (be 2 (8 + xs.length))) ++ [(0 : UInt8), (0 : UInt8)]) ++ xs)) : Nat) : Int)) rfl rfl (Yc.call (k := 47) (args := #[Value.int .u32 ((s : Nat) : Int), Value.int .u32 ((d : Nat) : Int), Value.int .u8 17, Value.slice g41.a ((((2 + 2) + 2) + 2) + xs.length) g41.cap]) (fun _ => by kernel_rfl) (fun w_ hm_ => (dsumn_c s d (17 : UInt8) (((((be 2 fr) ++ (be 2 to)) ++ (be 2 (8 + xs.length))) ++ [(0 : UInt8), (0 : UInt8)]) ++ xs) g41.a ((((2 + 2) + 2) + 2) + xs.length) g41.cap _ (by first | rfl | (simp [be_len, be_len, psh_len]; done) | (simp [be_len, be_len, psh_len]; omega)) (FS.at (i := 0) (t := 5) hm_ rfl (FS.nil_cs ok42 (by simp [mc, be_len, psh_len]; try omega))) (by omega) (by omega) (by first | omega | (simp [be_len, be_len, psh_len]; omega)) (ok42.le)))) ?_
        refine Wl.run 1 (by kernel_rfl) ?_
        refine Wl.nil ?_
        refine hK91 _ _ _ ?_
        refine W.prune' [8, 9] [Value.slice g41.a ((((2 + 2) + 2) + 2) + xs.length) g41.cap, Value.int .u16 ((cks (psh s d (17 : UInt8) (((((be 2 fr) ++ (be 2 to)) ++ (be 2 (8 + xs.length))) ++ [(0 : UInt8), (0 : UInt8)]) ++ xs).length ++ (((((be 2 fr) ++ (be 2 to)) ++ (be 2 (8 + xs.length))) ++ [(0 : UInt8), (0 : UInt8)]) ++ xs)) : Nat) : Int)] (by kernel_rfl) (fun f93 => ?_)
        refine W.seq (fun K94 hK94 => ?_)
        refine W.seq (fun K95 hK95 => ?_)
        refine W.region ?_
        refine Wl.run 2 (by kernel_rfl) ?_
        refine Wl.nil ?_
        refine hK95 _ _ _ ?_
        refine W.prune' [8, 9, 44] [Value.slice g41.a ((((2 + 2) + 2) + 2) + xs.length) g41.cap, Value.int .u16 ((cks (psh s d (17 : UInt8) (((((be 2 fr) ++ (be 2 to)) ++ (be 2 (8 + xs.length))) ++ [(0 : UInt8), (0 : UInt8)]) ++ xs).length ++ (((((be 2 fr) ++ (be 2 to)) ++ (be 2 (8 + xs.length))) ++ [(0 : UInt8), (0 : UInt8)]) ++ xs)) : Nat) : Int), Value.bool (((cks (psh s d (17 : UInt8) (((((be 2 fr) ++ (be 2 to)) ++ (be 2 (8 + xs.length))) ++ [(0 : UInt8), (0 : UInt8)]) ++ xs).length ++ (((((be 2 fr) ++ (be 2 to)) ++ (be 2 (8 + xs.length))) ++ [(0 : UInt8), (0 : UInt8)]) ++ xs)) : Nat) : Int) == 0)] (by kernel_rfl) (fun f96 => ?_)
        refine W.cond (((cks (psh s d (17 : UInt8) (((((be 2 fr) ++ (be 2 to)) ++ (be 2 (8 + xs.length))) ++ [(0 : UInt8), (0 : UInt8)]) ++ xs).length ++ (((((be 2 fr) ++ (be 2 to)) ++ (be 2 (8 + xs.length))) ++ [(0 : UInt8), (0 : UInt8)]) ++ xs)) : Nat) : Int) == 0) (by kernel_rfl) (fun h97 => ?_) (fun h98 => ?_)
        · have qh97 := h97; try simp only [Bool.and_eq_true, Bool.or_eq_true, Bool.not_eq_true', Bool.not_eq_false', Bool.and_eq_false_iff, Bool.or_eq_false_iff, decide_eq_true_eq, decide_eq_false_iff_not, beq_iff_eq, bne_iff_ne, beq_eq_false_iff_ne, bne_eq_false_iff_eq] at qh97
          refine W.region ?_
          refine Wl.run 1 (by kernel_rfl) ?_
          refine Wl.nil ?_
          refine hK94 _ _ _ ?_
          refine W.prune' [8, 9] [Value.slice g41.a ((((2 + 2) + 2) + 2) + xs.length) g41.cap, Value.int .u16 65535] (by kernel_rfl) (fun f99 => ?_)
          refine W.seq (fun K100 hK100 => ?_)
          refine W.region ?_
          refine Wl.run 2 (by kernel_rfl) ?_
          refine Wl.ht rfl (Ht.call (β := FS) (k := 48) (args := #[Value.slice g41.a ((((2 + 2) + 2) + 2) + xs.length) g41.cap, Value.int .i64 6, Value.int .u16 65535]) (Lin := [g41.seg 5 (mc b8 (((((be 2 fr) ++ (be 2 to)) ++ (be 2 (8 + xs.length))) ++ [(0 : UInt8), (0 : UInt8)]) ++ xs))]) (Lk := []) (Lo := fun g101 => [g101.seg 5 (mc b8 (sput (((((be 2 fr) ++ (be 2 to)) ++ (be 2 (8 + xs.length))) ++ [(0 : UInt8), (0 : UInt8)]) ++ xs) 6 65535))]) [0] [] rfl (fun _ => by kernel_rfl) (by decide) rfl rfl rfl (fun w_ hm_ hl_ => (sealn_lay g41 (((((be 2 fr) ++ (be 2 to)) ++ (be 2 (8 + xs.length))) ++ [(0 : UInt8), (0 : UInt8)]) ++ xs) ((((2 + 2) + 2) + 2) + xs.length) 6 65535 _ _ (by first | rfl | (simp [be_len, be_len, psh_len]; try omega)) hl_ ok42 (hn43 (by first | omega | (simp; omega))) (by first | omega | (simp [be_len, be_len, psh_len]; omega)) (by first | omega | (simp [be_len, be_len, psh_len]; omega)) (by omega))) (fun _ => rfl)) (fun x104 => ?_)
          obtain ⟨g101, ok102, nn103⟩ := x104
          refine Wl.castL (LL' := [g101.seg 5 (mc b8 (sput (((((be 2 fr) ++ (be 2 to)) ++ (be 2 (8 + xs.length))) ++ [(0 : UInt8), (0 : UInt8)]) ++ xs) 6 65535))]) rfl ?_
          refine Wl.run 2 (by kernel_rfl) ?_
          refine Wl.nil ?_
          refine hK100 _ _ _ ?_
          refine W.prune' [6, 7] [Value.slice g101.a ((((2 + 2) + 2) + 2) + xs.length) g101.cap, Value.int .i64 0] (by kernel_rfl) (fun f105 => ?_)
          refine W.ret ?_
          have hE : uE xs.length = 0 := by unfold uE; rw [if_neg (by omega)]
          have hl8 : (((((be 2 fr) ++ (be 2 to)) ++ (be 2 (8 + xs.length))) ++ [(0 : UInt8), (0 : UInt8)]) ++ xs).length = 8 + xs.length := by first | omega | (simp [be_len]; omega)
          have hq : uC s d fr to xs = cks (psh s d (17 : UInt8) (((((be 2 fr) ++ (be 2 to)) ++ (be 2 (8 + xs.length))) ++ [(0 : UInt8), (0 : UInt8)]) ++ xs).length ++ (((((be 2 fr) ++ (be 2 to)) ++ (be 2 (8 + xs.length))) ++ [(0 : UInt8), (0 : UInt8)]) ++ xs)) := by unfold uC uH; rw [hl8]; first | done | rfl
          have hc0 : (cks (psh s d (17 : UInt8) (((((be 2 fr) ++ (be 2 to)) ++ (be 2 (8 + xs.length))) ++ [(0 : UInt8), (0 : UInt8)]) ++ xs).length ++ (((((be 2 fr) ++ (be 2 to)) ++ (be 2 (8 + xs.length))) ++ [(0 : UInt8), (0 : UInt8)]) ++ xs)) = 0) := by have z_ := qh97; omega
          have hB : uB s d fr to pl xs = sput (((((be 2 fr) ++ (be 2 to)) ++ (be 2 (8 + xs.length))) ++ [(0 : UInt8), (0 : UInt8)]) ++ xs) 6 65535 := by unfold uB sealN; rw [if_neg (by omega), h87, hq, if_pos hc0]; (try rw [hc0]); first | done | rfl
          have hn : (uB s d fr to pl xs).length = (((2 + 2) + 2) + 2) + xs.length := by rw [uB_len (by omega)]; first | done | omega
          show ∀ w_, _ → bodyPostM (fence none) 0 Try.prog Try.f15 _ Exit.ret _ w_
          exact fun w_ hS_ => fin_ret (ret2 rfl (RV.tmp (v := Value.slice g101.a ((((2 + 2) + 2) + 2) + xs.length) g101.cap) (by kernel_rfl)) (RV.tmp (v := Value.int .i64 0) (by kernel_rfl)) hS_ ⟨g101, (by rw [hn]; exact ok102), congrArg Ending.returned ((by rw [hn, hE])), (Mem.cast (by rw [hB]; rfl) (hS_.pick [0] (by decide) rfl))⟩)
        · have qh98 := h98; try simp only [Bool.and_eq_true, Bool.or_eq_true, Bool.not_eq_true', Bool.not_eq_false', Bool.and_eq_false_iff, Bool.or_eq_false_iff, decide_eq_true_eq, decide_eq_false_iff_not, beq_iff_eq, bne_iff_ne, beq_eq_false_iff_ne, bne_eq_false_iff_eq] at qh98
          refine W.skip' ?_
          refine hK94 _ _ _ ?_
          refine W.prune' [8, 9] [Value.slice g41.a ((((2 + 2) + 2) + 2) + xs.length) g41.cap, Value.int .u16 ((cks (psh s d (17 : UInt8) (((((be 2 fr) ++ (be 2 to)) ++ (be 2 (8 + xs.length))) ++ [(0 : UInt8), (0 : UInt8)]) ++ xs).length ++ (((((be 2 fr) ++ (be 2 to)) ++ (be 2 (8 + xs.length))) ++ [(0 : UInt8), (0 : UInt8)]) ++ xs)) : Nat) : Int)] (by kernel_rfl) (fun f106 => ?_)
          refine W.seq (fun K107 hK107 => ?_)
          refine W.region ?_
          refine Wl.run 2 (by kernel_rfl) ?_
          refine Wl.ht rfl (Ht.call (β := FS) (k := 48) (args := #[Value.slice g41.a ((((2 + 2) + 2) + 2) + xs.length) g41.cap, Value.int .i64 6, Value.int .u16 ((cks (psh s d (17 : UInt8) (((((be 2 fr) ++ (be 2 to)) ++ (be 2 (8 + xs.length))) ++ [(0 : UInt8), (0 : UInt8)]) ++ xs).length ++ (((((be 2 fr) ++ (be 2 to)) ++ (be 2 (8 + xs.length))) ++ [(0 : UInt8), (0 : UInt8)]) ++ xs)) : Nat) : Int)]) (Lin := [g41.seg 5 (mc b8 (((((be 2 fr) ++ (be 2 to)) ++ (be 2 (8 + xs.length))) ++ [(0 : UInt8), (0 : UInt8)]) ++ xs))]) (Lk := []) (Lo := fun g108 => [g108.seg 5 (mc b8 (sput (((((be 2 fr) ++ (be 2 to)) ++ (be 2 (8 + xs.length))) ++ [(0 : UInt8), (0 : UInt8)]) ++ xs) 6 (cks (psh s d (17 : UInt8) (((((be 2 fr) ++ (be 2 to)) ++ (be 2 (8 + xs.length))) ++ [(0 : UInt8), (0 : UInt8)]) ++ xs).length ++ (((((be 2 fr) ++ (be 2 to)) ++ (be 2 (8 + xs.length))) ++ [(0 : UInt8), (0 : UInt8)]) ++ xs)))))]) [0] [] rfl (fun _ => by kernel_rfl) (by decide) rfl rfl rfl (fun w_ hm_ hl_ => (sealn_lay g41 (((((be 2 fr) ++ (be 2 to)) ++ (be 2 (8 + xs.length))) ++ [(0 : UInt8), (0 : UInt8)]) ++ xs) ((((2 + 2) + 2) + 2) + xs.length) 6 (cks (psh s d (17 : UInt8) (((((be 2 fr) ++ (be 2 to)) ++ (be 2 (8 + xs.length))) ++ [(0 : UInt8), (0 : UInt8)]) ++ xs).length ++ (((((be 2 fr) ++ (be 2 to)) ++ (be 2 (8 + xs.length))) ++ [(0 : UInt8), (0 : UInt8)]) ++ xs))) _ _ (by first | rfl | (simp [be_len, be_len, psh_len]; try omega)) hl_ ok42 (hn43 (by first | omega | (simp; omega))) (by first | omega | (simp [be_len, be_len, psh_len]; omega)) (by first | omega | (simp [be_len, be_len, psh_len]; omega)) (by omega))) (fun _ => rfl)) (fun x111 => ?_)
          obtain ⟨g108, ok109, nn110⟩ := x111
          refine Wl.castL (LL' := [g108.seg 5 (mc b8 (sput (((((be 2 fr) ++ (be 2 to)) ++ (be 2 (8 + xs.length))) ++ [(0 : UInt8), (0 : UInt8)]) ++ xs) 6 (cks (psh s d (17 : UInt8) (((((be 2 fr) ++ (be 2 to)) ++ (be 2 (8 + xs.length))) ++ [(0 : UInt8), (0 : UInt8)]) ++ xs).length ++ (((((be 2 fr) ++ (be 2 to)) ++ (be 2 (8 + xs.length))) ++ [(0 : UInt8), (0 : UInt8)]) ++ xs)))))]) rfl ?_
          refine Wl.run 2 (by kernel_rfl) ?_
          refine Wl.nil ?_
          refine hK107 _ _ _ ?_
          refine W.prune' [6, 7] [Value.slice g108.a ((((2 + 2) + 2) + 2) + xs.length) g108.cap, Value.int .i64 0] (by kernel_rfl) (fun f112 => ?_)
          refine W.ret ?_
          have hE : uE xs.length = 0 := by unfold uE; rw [if_neg (by omega)]
          have hl8 : (((((be 2 fr) ++ (be 2 to)) ++ (be 2 (8 + xs.length))) ++ [(0 : UInt8), (0 : UInt8)]) ++ xs).length = 8 + xs.length := by first | omega | (simp [be_len]; omega)
          have hq : uC s d fr to xs = cks (psh s d (17 : UInt8) (((((be 2 fr) ++ (be 2 to)) ++ (be 2 (8 + xs.length))) ++ [(0 : UInt8), (0 : UInt8)]) ++ xs).length ++ (((((be 2 fr) ++ (be 2 to)) ++ (be 2 (8 + xs.length))) ++ [(0 : UInt8), (0 : UInt8)]) ++ xs)) := by unfold uC uH; rw [hl8]; first | done | rfl
          have hc0 : ¬ (cks (psh s d (17 : UInt8) (((((be 2 fr) ++ (be 2 to)) ++ (be 2 (8 + xs.length))) ++ [(0 : UInt8), (0 : UInt8)]) ++ xs).length ++ (((((be 2 fr) ++ (be 2 to)) ++ (be 2 (8 + xs.length))) ++ [(0 : UInt8), (0 : UInt8)]) ++ xs)) = 0) := by have z_ := qh98; omega
          have hB : uB s d fr to pl xs = sput (((((be 2 fr) ++ (be 2 to)) ++ (be 2 (8 + xs.length))) ++ [(0 : UInt8), (0 : UInt8)]) ++ xs) 6 (cks (psh s d (17 : UInt8) (((((be 2 fr) ++ (be 2 to)) ++ (be 2 (8 + xs.length))) ++ [(0 : UInt8), (0 : UInt8)]) ++ xs).length ++ (((((be 2 fr) ++ (be 2 to)) ++ (be 2 (8 + xs.length))) ++ [(0 : UInt8), (0 : UInt8)]) ++ xs))) := by unfold uB sealN; rw [if_neg (by omega), h87, hq, if_neg hc0]; first | done | rfl
          have hn : (uB s d fr to pl xs).length = (((2 + 2) + 2) + 2) + xs.length := by rw [uB_len (by omega)]; first | done | omega
          show ∀ w_, _ → bodyPostM (fence none) 0 Try.prog Try.f15 _ Exit.ret _ w_
          exact fun w_ hS_ => fin_ret (ret2 rfl (RV.tmp (v := Value.slice g108.a ((((2 + 2) + 2) + 2) + xs.length) g108.cap) (by kernel_rfl)) (RV.tmp (v := Value.int .i64 0) (by kernel_rfl)) hS_ ⟨g108, (by rw [hn]; exact ok109), congrArg Ending.returned ((by rw [hn, hE])), (Mem.cast (by rw [hB]; rfl) (hS_.pick [0] (by decide) rfl))⟩)

end Go.Proofs.Ytgohlpdgeicncaa.Oct
