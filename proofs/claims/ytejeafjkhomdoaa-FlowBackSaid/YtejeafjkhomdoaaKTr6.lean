import Derived.Test.YtejeafjkhomdoaaKTr4
set_option linter.unusedVariables false
set_option linter.unusedSimpArgs false
set_option maxRecDepth 20000
namespace Go.Proofs.Ytejeafjkhomdoaa.Oct
open Go.RowKit Base
attribute [local irreducible] Ys Yc Ht HtIn Wl Wd W Mem pf dpf Wa Wo
def mX (ty co : UInt8) (re m : Nat) (xs : List UInt8) : List UInt8 := ty :: co :: UInt8.ofNat (m / 256) :: UInt8.ofNat m :: UInt8.ofNat (re / 256 / 256 / 256) :: UInt8.ofNat (re / 256 / 256) :: UInt8.ofNat (re / 256) :: UInt8.ofNat re :: xs
def mC (ty co : UInt8) (re : Nat) (xs : List UInt8) : Nat := cks ([ty, co, 0, 0] ++ be 4 re ++ xs)
def mB (ty co : UInt8) (re : Nat) (xs : List UInt8) : List UInt8 := if 1472 < xs.length then [] else mX ty co re (mC ty co re xs) xs
theorem sput_mX (ty co : UInt8) (re n : Nat) (xs : List UInt8) : sput ([ty, co, 0, 0] ++ be 4 re ++ xs) 2 n = mX ty co re n xs := rfl
theorem mX_len (ty co : UInt8) (re m : Nat) (xs : List UInt8) : (mX ty co re m xs).length = 8 + xs.length := by unfold mX; simp only [List.length_cons]; omega
theorem mB_len {ty co : UInt8} {re : Nat} {xs : List UInt8} (h : ¬ 1472 < xs.length) : (mB ty co re xs).length = 8 + xs.length := by unfold mB; rw [if_neg h, mX_len]
theorem mB_le (ty co : UInt8) (re : Nat) (xs : List UInt8) : (mB ty co re xs).length ≤ 1480 := by
  by_cases h : 1472 < xs.length
  · unfold mB; rw [if_pos h]; simp
  · rw [mB_len h]; omega
theorem mX_zero (ty co : UInt8) (re : Nat) (xs : List UInt8) : cks (mX ty co re (mC ty co re xs) xs) = 0 := by
  have h : ∀ n, n < 65536 → (pw (mX ty co re n xs)).sum = (pw (mX ty co re 0 xs)).sum + n := by
    intro n hn
    have e : ∀ k, mX ty co re k xs = [ty, co] ++ (be 2 k ++ (be 4 re ++ xs)) := fun k => rfl
    rw [e, e, pw_mid (pre := [ty, co]) (by simp) hn, pw_mid (pre := [ty, co]) (by simp) (by decide)]; omega
  have hc : mC ty co re xs = cks (mX ty co re 0 xs) := rfl
  have hl := cks_le (mX ty co re 0 xs)
  have h1 := h (mC ty co re xs) (by omega)
  rw [hc] at h1 ⊢
  unfold cks at *
  rw [h1]
  unfold fd
  split <;> split <;> omega
theorem wicmp_c (ty co : UInt8) (re : Nat) (xs : List UInt8) (a : Option Addr) (cap : Nat) (w : World) (hat : At w a (byc xs)) (hr : re < 4294967296) (hl : xs.length ≤ 100000) (hlc : xs.length ≤ cap) : Calls Try.prog 39 #[Value.agg ([Value.int .u8 ((ty.toNat : Nat) : Int), Value.int .u8 ((co.toNat : Nat) : Int), Value.int .u32 ((re : Nat) : Int), Value.slice a xs.length cap]).toArray] w (RetM w (fun g : FS => g.ok 1 (mB ty co re xs).length) (fun g => .tuple #[.slice g.a (mB ty co re xs).length g.cap, .int .i64 (uE xs.length)]) [] (fun g => [g.seg 5 (byc (mB ty co re xs))])) := by
  refine calls_W (M := []) (LL := []) (n := 28) Try.func39 rfl rfl (by simp) (Mem.refl _) ?_
  refine W.seq (fun K1 hK1 => ?_)
  refine W.region ?_
  refine Wl.ht rfl (Ht.box (v := Value.agg ([nV .u8 ty.toNat, nV .u8 co.toNat, nV .u32 re, Value.slice a xs.length cap]).toArray) (cs := [nV .u8 ty.toNat, nV .u8 co.toNat, nV .u32 re, Value.slice a xs.length cap]) rfl rfl (by kernel_rfl) rfl) (fun p1 => ?_)
  refine Wl.run 2 (by kernel_rfl) ?_
  refine Wl.nil ?_
  refine hK1 _ _ _ ?_
  refine W.prune' [1] [Value.pointer (some ⟨p1, 0, none⟩)] (by kernel_rfl) (fun f2 => ?_)
  refine W.seq (fun K3 hK3 => ?_)
  refine W.seq (fun K4 hK4 => ?_)
  refine W.region ?_
  refine Wl.run 1 (by kernel_rfl) ?_
  refine Wl.ys (v := Value.slice a xs.length cap) rfl rfl (Ys.load (b := p1) (o' := 3) (i := 0) (j := 0) (cs := [nV .u8 ty.toNat, nV .u8 co.toNat, nV .u32 re, Value.slice a xs.length cap]) (v := Value.slice a xs.length cap) rfl (by kernel_rfl) Try.isAgg25 rfl rfl rfl) ?_
  refine Wl.run 1 (by kernel_rfl) ?_
  refine Wl.ys (v := nV .i64 (8 + xs.length)) rfl rfl ((Ys.pure (v := .int .i64 (iadd .i64 8 ((xs.length : Nat) : Int))) (fun _ => by kernel_rfl)).conseq (int_congr (iadd_eq (by omega) (by omega) (by omega)))) ?_
  refine Wl.run 1 (by kernel_rfl) ?_
  refine Wl.nil ?_
  refine hK4 _ _ _ ?_
  refine W.prune' [1, 9] [Value.pointer (some ⟨p1, 0, none⟩), Value.bool (decide (((8 + xs.length : Nat) : Int) > 1480))] (by kernel_rfl) (fun f5 => ?_)
  refine W.cond (decide (((8 + xs.length : Nat) : Int) > 1480)) (by kernel_rfl) (fun h6 => ?_) (fun h7 => ?_)
  · have qh6 := h6; try simp only [Bool.and_eq_true, Bool.or_eq_true, Bool.not_eq_true', Bool.not_eq_false', Bool.and_eq_false_iff, Bool.or_eq_false_iff, decide_eq_true_eq, decide_eq_false_iff_not, beq_iff_eq, bne_iff_ne, beq_eq_false_iff_ne, bne_eq_false_iff_eq] at qh6
    refine W.seq (fun K8 hK8 => ?_)
    refine W.region ?_
    refine Wl.run 2 (by kernel_rfl) ?_
    refine Wl.nil ?_
    refine hK8 _ _ _ ?_
    refine W.pick (LL' := []) [] (by decide) rfl ?_
    refine W.prune' [2, 3] [Value.slice none 0 0, Value.int .i64 14] (by kernel_rfl) (fun f9 => ?_)
    refine W.ret ?_
    have hE : uE xs.length = 14 := by unfold uE; rw [if_pos (by omega)]
    have hB : mB ty co re xs = [] := by unfold mB; rw [if_pos (by omega)]
    show ∀ w_, _ → bodyPostM (fence none) 0 Try.prog Try.f39 _ Exit.ret _ w_
    exact fun w_ hS_ => fin_ret (ret2 rfl (RV.tmp (v := Value.slice none 0 0) (by kernel_rfl)) (RV.tmp (v := Value.int .i64 14) (by kernel_rfl)) hS_ ⟨FS.nul, (by rw [hB]; exact FS.nul_ok 1), congrArg Ending.returned ((by rw [hB, hE]; rfl)), (Mem.cast (by rw [hB]; rfl) (Mem.push (hS_.pick [] (by decide) rfl)))⟩)
  · have qh7 := h7; try simp only [Bool.and_eq_true, Bool.or_eq_true, Bool.not_eq_true', Bool.not_eq_false', Bool.and_eq_false_iff, Bool.or_eq_false_iff, decide_eq_true_eq, decide_eq_false_iff_not, beq_iff_eq, bne_iff_ne, beq_eq_false_iff_ne, bne_eq_false_iff_eq] at qh7
    refine W.skip' ?_
    refine hK3 _ _ _ ?_
    refine W.prune' [1] [Value.pointer (some ⟨p1, 0, none⟩)] (by kernel_rfl) (fun f10 => ?_)
    refine W.seq (fun K11 hK11 => ?_)
    refine W.meet4 (w0 := w) (M := []) K11 [4] (fun (p14 : Nat) (g12 : FS) (p21 : Nat) (g16 : FS) => [Value.slice g16.a (4 + 4 + xs.length) g16.cap]) (fun (p14 : Nat) (g12 : FS) (p21 : Nat) (g16 : FS) => g12.ok 1 4 ∧ g12.nil = false ∧ g16.ok 1 (4 + 4 + xs.length) ∧ (2 ≤ ([⟨some ⟨p14, 0, none⟩, [ty, co, (0 : UInt8), (0 : UInt8)], 4⟩, ⟨g12.a, (be 4 re), g12.cap⟩, ⟨a, xs, cap⟩] : List SV).length → g16.nil = false)) (fun (p14 : Nat) (g12 : FS) (p21 : Nat) (g16 : FS) => [g16.seg 5 (mc b8 ([ty, co, (0 : UInt8), (0 : UInt8)] ++ (be 4 re) ++ xs)), [cb p21 [Value.slice (some ⟨p14, 0, none⟩) 4 4, Value.slice g12.a 4 g12.cap, Value.slice a xs.length cap] 25], g12.seg 5 (mc b8 (be 4 re)), [cb p14 [nV .u8 ty.toNat, nV .u8 co.toNat, Value.int .u8 0, Value.int .u8 0] 5], [cb p1 [nV .u8 ty.toNat, nV .u8 co.toNat, nV .u32 re, Value.slice a xs.length cap] 65]]) (fun J12 hJ12 => ?_) (fun p14 g12 p21 g16 f13 hp14 => ?_)
    · refine W.drawsA [0, 1, 2, 3, 5, 6, 7, 9, 10, 13] (Mem w [] [[cb p1 [nV .u8 ty.toNat, nV .u8 co.toNat, nV .u32 re, Value.slice a xs.length cap] 65]]) (by kernel_rfl) (by kernel_rfl) (fun _ _ h_ => h_.drawn _) ?_
      refine Wa.ys (v := Value.pointer (some ⟨p1, 0, none⟩)) (i := 0) (by kernel_rfl) (by kernel_rfl) (by kernel_rfl) (by kernel_rfl) (fun _ h_ => h_) rfl rfl rfl (Ys.pure (fun _ => by kernel_rfl)) ?_
      refine Wa.ys (v := nV .u8 ty.toNat) (i := 1) (by kernel_rfl) (by kernel_rfl) (by kernel_rfl) (by kernel_rfl) (fun _ h_ => h_) rfl rfl rfl (Ys.load (b := p1) (o' := 0) (i := 0) (j := 0) (cs := [nV .u8 ty.toNat, nV .u8 co.toNat, nV .u32 re, Value.slice a xs.length cap]) (v := nV .u8 ty.toNat) rfl (by kernel_rfl) Try.isAgg5 rfl rfl rfl) ?_
      refine Wa.ys (v := Value.pointer (some ⟨p1, 1, none⟩)) (i := 2) (by kernel_rfl) (by kernel_rfl) (by kernel_rfl) (by kernel_rfl) (fun _ h_ => h_) rfl rfl rfl (Ys.pure (fun _ => by kernel_rfl)) ?_
      refine Wa.ys (v := nV .u8 co.toNat) (i := 3) (by kernel_rfl) (by kernel_rfl) (by kernel_rfl) (by kernel_rfl) (fun _ h_ => h_) rfl rfl rfl (Ys.load (b := p1) (o' := 1) (i := 0) (j := 0) (cs := [nV .u8 ty.toNat, nV .u8 co.toNat, nV .u32 re, Value.slice a xs.length cap]) (v := nV .u8 co.toNat) rfl (by kernel_rfl) Try.isAgg5 rfl rfl rfl) ?_
      refine Wa.ys (v := Value.pointer (some ⟨p1, 2, none⟩)) (i := 5) (by kernel_rfl) (by kernel_rfl) (by kernel_rfl) (by kernel_rfl) (fun _ h_ => h_) rfl rfl rfl (Ys.pure (fun _ => by kernel_rfl)) ?_
      refine Wa.ys (v := nV .u32 re) (i := 6) (by kernel_rfl) (by kernel_rfl) (by kernel_rfl) (by kernel_rfl) (fun _ h_ => h_) rfl rfl rfl (Ys.load (b := p1) (o' := 2) (i := 0) (j := 0) (cs := [nV .u8 ty.toNat, nV .u8 co.toNat, nV .u32 re, Value.slice a xs.length cap]) (v := nV .u32 re) rfl (by kernel_rfl) Try.isAgg23 rfl rfl rfl) ?_
      refine Wa.ys (v := nV .u64 re) (i := 7) (by kernel_rfl) (by kernel_rfl) (by kernel_rfl) (by kernel_rfl) (fun _ h_ => h_) rfl rfl rfl ((Ys.pure (v := .int .u64 (icnv .u64 ((re : Nat) : Int))) (fun _ => by kernel_rfl)).conseq (int_congr (wrap_u64 (by omega) (by omega)))) ?_
      refine Wa.ys (v := Value.pointer (some ⟨p1, 3, none⟩)) (i := 9) (by kernel_rfl) (by kernel_rfl) (by kernel_rfl) (by kernel_rfl) (fun _ h_ => h_) rfl rfl rfl (Ys.pure (fun _ => by kernel_rfl)) ?_
      refine Wa.ys (v := Value.slice a xs.length cap) (i := 10) (by kernel_rfl) (by kernel_rfl) (by kernel_rfl) (by kernel_rfl) (fun _ h_ => h_) rfl rfl rfl (Ys.load (b := p1) (o' := 3) (i := 0) (j := 0) (cs := [nV .u8 ty.toNat, nV .u8 co.toNat, nV .u32 re, Value.slice a xs.length cap]) (v := Value.slice a xs.length cap) rfl (by kernel_rfl) Try.isAgg25 rfl rfl rfl) ?_
      refine Wa.alt2 (i := 4) (j := 8) (by kernel_rfl) ?_ ?_
      · refine Wo.ht rfl rfl (Ht.made (mk := fun b_ => .slice (some ⟨b_, 0, none⟩) 4 4) (t := 5) (cs := [nV .u8 ty.toNat, nV .u8 co.toNat, Value.int .u8 0, Value.int .u8 0]) rfl (fun _ => by kernel_rfl)) (.inr fun _ _ h_ => h_.pick [1] (by decide) rfl) (fun p14 => ?_)
        refine Wa.only (i := 8) (by kernel_rfl) ?_
        refine Wo.ht rfl rfl (Ht.call (β := FS) (k := 64) (args := #[Value.int .i64 4, nV .u64 re]) (Lin := []) (Lk := [[cb p14 [nV .u8 ty.toNat, nV .u8 co.toNat, Value.int .u8 0, Value.int .u8 0] 5], [cb p1 [nV .u8 ty.toNat, nV .u8 co.toNat, nV .u32 re, Value.slice a xs.length cap] 65]]) (Mi := []) (Lo := fun g15 => [g15.seg 5 (mc b8 (be 4 re)), [cb p14 [nV .u8 ty.toNat, nV .u8 co.toNat, Value.int .u8 0, Value.int .u8 0] 5], [cb p1 [nV .u8 ty.toNat, nV .u8 co.toNat, nV .u32 re, Value.slice a xs.length cap] 65]]) [] [0, 1] rfl (fun _ => by kernel_rfl) (by decide) rfl rfl rfl (fun w_ hm_ hl_ => num_c 4 re (by omega) _) (fun _ => rfl)) (.inr fun _ _ h_ => h_.pick [2] (by decide) rfl) (fun x18 => ?_)
        obtain ⟨g15, ok16, nn17⟩ := x18
        refine Wa.castL (LL' := [g15.seg 5 (mc b8 (be 4 re)), [cb p14 [nV .u8 ty.toNat, nV .u8 co.toNat, Value.int .u8 0, Value.int .u8 0] 5], [cb p1 [nV .u8 ty.toNat, nV .u8 co.toNat, nV .u32 re, Value.slice a xs.length cap] 65]]) rfl ?_
        refine Wa.only (i := 11) (by kernel_rfl) ?_
        refine Wo.ht rfl rfl (Ht.made (mk := fun b_ => .slice (some ⟨b_, 0, none⟩) 3 3) (t := 25) (cs := [Value.slice (some ⟨p14, 0, none⟩) 4 4, Value.slice g15.a 4 g15.cap, Value.slice a xs.length cap]) rfl (fun _ => by kernel_rfl)) (.inr fun _ _ h_ => h_.pick [3] (by decide) rfl) (fun p21 => ?_)
        refine Wa.only (i := 12) (by kernel_rfl) ?_
        refine Wo.ht rfl rfl (Ht.call (β := FS) (k := 63) (args := #[Value.slice (some ⟨p21, 0, none⟩) 3 3]) (Lin := []) (Lk := [[cb p21 [Value.slice (some ⟨p14, 0, none⟩) 4 4, Value.slice g15.a 4 g15.cap, Value.slice a xs.length cap] 25], g15.seg 5 (mc b8 (be 4 re)), [cb p14 [nV .u8 ty.toNat, nV .u8 co.toNat, Value.int .u8 0, Value.int .u8 0] 5], [cb p1 [nV .u8 ty.toNat, nV .u8 co.toNat, nV .u32 re, Value.slice a xs.length cap] 65]]) (Mi := []) (Lo := fun g19 => [g19.seg 5 (mc b8 ([ty, co, (0 : UInt8), (0 : UInt8)] ++ (be 4 re) ++ xs)), [cb p21 [Value.slice (some ⟨p14, 0, none⟩) 4 4, Value.slice g15.a 4 g15.cap, Value.slice a xs.length cap] 25], g15.seg 5 (mc b8 (be 4 re)), [cb p14 [nV .u8 ty.toNat, nV .u8 co.toNat, Value.int .u8 0, Value.int .u8 0] 5], [cb p1 [nV .u8 ty.toNat, nV .u8 co.toNat, nV .u32 re, Value.slice a xs.length cap] 65]]) [] [0, 1, 2, 3] rfl (fun _ => by kernel_rfl) (by decide) rfl rfl rfl (fun w_ hm_ hl_ => (ojoinn_c [⟨some ⟨p14, 0, none⟩, [ty, co, (0 : UInt8), (0 : UInt8)], 4⟩, ⟨g15.a, (be 4 re), g15.cap⟩, ⟨a, xs, cap⟩] ([ty, co, (0 : UInt8), (0 : UInt8)] ++ (be 4 re) ++ xs) (some ⟨p21, 0, none⟩) 3 3 (4 + 4 + xs.length) _ rfl (by simp [jn]) (by simp [be_len, psh_len]; try omega) (by first | exact At.lit0 (i := 0) (j := 0) (t := 25) (b := p21) hm_ rfl rfl | (rw [show mc slv ([⟨some ⟨p14, 0, none⟩, [ty, co, (0 : UInt8), (0 : UInt8)], 4⟩, ⟨g15.a, (be 4 re), g15.cap⟩, ⟨a, xs, cap⟩] : List SV) = [Value.slice (some ⟨p14, 0, none⟩) 4 4, Value.slice g15.a 4 g15.cap, Value.slice a xs.length cap] by (simp [mc, be_len, psh_len]; try omega)]; exact At.lit0 (i := 0) (j := 0) (t := 25) (b := p21) hm_ rfl rfl)) (List.forall_mem_cons.2 ⟨(At.lit0 (i := 2) (j := 0) (t := 5) (b := p14) hm_ rfl rfl), (List.forall_mem_cons.2 ⟨(FS.at (i := 1) (t := 5) hm_ rfl (FS.nil_cs ok16 (by rw [mc_len, be_len, Nat.mul_one]; try rfl))), (List.forall_mem_cons.2 ⟨(hat.mem0 hm_), (fun _ h => by cases h)⟩)⟩)⟩) (by first | omega | (simp [be_len, psh_len]; omega)) (by simp) (by simp))) (fun _ => rfl)) (.inr fun _ _ h_ => h_.pick [4] (by decide) rfl) (fun x22 => ?_)
        obtain ⟨g19, ok20, nn21⟩ := x22
        refine Wa.castL (LL' := [g19.seg 5 (mc b8 ([ty, co, (0 : UInt8), (0 : UInt8)] ++ (be 4 re) ++ xs)), [cb p21 [Value.slice (some ⟨p14, 0, none⟩) 4 4, Value.slice g15.a 4 g15.cap, Value.slice a xs.length cap] 25], g15.seg 5 (mc b8 (be 4 re)), [cb p14 [nV .u8 ty.toNat, nV .u8 co.toNat, Value.int .u8 0, Value.int .u8 0] 5], [cb p1 [nV .u8 ty.toNat, nV .u8 co.toNat, nV .u32 re, Value.slice a xs.length cap] 65]]) rfl ?_
        refine Wa.ys (v := Value.slice g19.a (4 + 4 + xs.length) g19.cap) (i := 13) (by kernel_rfl) (by kernel_rfl) (by kernel_rfl) (by kernel_rfl) (fun _ h_ => h_.pick [4] (by decide) rfl) rfl rfl rfl (Ys.pure (fun _ => by kernel_rfl)) ?_
        refine Wa.nil (by kernel_rfl) ?_
        refine fun w_ h_ => hJ12 p14 g15 p21 g19 _ w_ ⟨ok16, nn17, ok20, nn21⟩ (by kernel_rfl) h_
      · refine Wo.ht rfl rfl (Ht.call (β := FS) (k := 64) (args := #[Value.int .i64 4, nV .u64 re]) (Lin := []) (Lk := [[cb p1 [nV .u8 ty.toNat, nV .u8 co.toNat, nV .u32 re, Value.slice a xs.length cap] 65]]) (Mi := []) (Lo := fun g23 => [g23.seg 5 (mc b8 (be 4 re)), [cb p1 [nV .u8 ty.toNat, nV .u8 co.toNat, nV .u32 re, Value.slice a xs.length cap] 65]]) [] [0] rfl (fun _ => by kernel_rfl) (by decide) rfl rfl rfl (fun w_ hm_ hl_ => num_c 4 re (by omega) _) (fun _ => rfl)) (.inr fun _ _ h_ => h_.pick [1] (by decide) rfl) (fun x26 => ?_)
        obtain ⟨g23, ok24, nn25⟩ := x26
        refine Wa.castL (LL' := [g23.seg 5 (mc b8 (be 4 re)), [cb p1 [nV .u8 ty.toNat, nV .u8 co.toNat, nV .u32 re, Value.slice a xs.length cap] 65]]) rfl ?_
        refine Wa.only (i := 4) (by kernel_rfl) ?_
        refine Wo.ht rfl rfl (Ht.made (mk := fun b_ => .slice (some ⟨b_, 0, none⟩) 4 4) (t := 5) (cs := [nV .u8 ty.toNat, nV .u8 co.toNat, Value.int .u8 0, Value.int .u8 0]) rfl (fun _ => by kernel_rfl)) (.inr fun _ _ h_ => h_.pick [2] (by decide) rfl) (fun p14 => ?_)
        refine Wa.only (i := 11) (by kernel_rfl) ?_
        refine Wo.ht rfl rfl (Ht.made (mk := fun b_ => .slice (some ⟨b_, 0, none⟩) 3 3) (t := 25) (cs := [Value.slice (some ⟨p14, 0, none⟩) 4 4, Value.slice g23.a 4 g23.cap, Value.slice a xs.length cap]) rfl (fun _ => by kernel_rfl)) (.inr fun _ _ h_ => h_.pick [3] (by decide) rfl) (fun p21 => ?_)
        refine Wa.only (i := 12) (by kernel_rfl) ?_
        refine Wo.ht rfl rfl (Ht.call (β := FS) (k := 63) (args := #[Value.slice (some ⟨p21, 0, none⟩) 3 3]) (Lin := []) (Lk := [[cb p21 [Value.slice (some ⟨p14, 0, none⟩) 4 4, Value.slice g23.a 4 g23.cap, Value.slice a xs.length cap] 25], [cb p14 [nV .u8 ty.toNat, nV .u8 co.toNat, Value.int .u8 0, Value.int .u8 0] 5], g23.seg 5 (mc b8 (be 4 re)), [cb p1 [nV .u8 ty.toNat, nV .u8 co.toNat, nV .u32 re, Value.slice a xs.length cap] 65]]) (Mi := []) (Lo := fun g27 => [g27.seg 5 (mc b8 ([ty, co, (0 : UInt8), (0 : UInt8)] ++ (be 4 re) ++ xs)), [cb p21 [Value.slice (some ⟨p14, 0, none⟩) 4 4, Value.slice g23.a 4 g23.cap, Value.slice a xs.length cap] 25], [cb p14 [nV .u8 ty.toNat, nV .u8 co.toNat, Value.int .u8 0, Value.int .u8 0] 5], g23.seg 5 (mc b8 (be 4 re)), [cb p1 [nV .u8 ty.toNat, nV .u8 co.toNat, nV .u32 re, Value.slice a xs.length cap] 65]]) [] [0, 1, 2, 3] rfl (fun _ => by kernel_rfl) (by decide) rfl rfl rfl (fun w_ hm_ hl_ => (ojoinn_c [⟨some ⟨p14, 0, none⟩, [ty, co, (0 : UInt8), (0 : UInt8)], 4⟩, ⟨g23.a, (be 4 re), g23.cap⟩, ⟨a, xs, cap⟩] ([ty, co, (0 : UInt8), (0 : UInt8)] ++ (be 4 re) ++ xs) (some ⟨p21, 0, none⟩) 3 3 (4 + 4 + xs.length) _ rfl (by simp [jn]) (by simp [be_len, psh_len]; try omega) (by first | exact At.lit0 (i := 0) (j := 0) (t := 25) (b := p21) hm_ rfl rfl | (rw [show mc slv ([⟨some ⟨p14, 0, none⟩, [ty, co, (0 : UInt8), (0 : UInt8)], 4⟩, ⟨g23.a, (be 4 re), g23.cap⟩, ⟨a, xs, cap⟩] : List SV) = [Value.slice (some ⟨p14, 0, none⟩) 4 4, Value.slice g23.a 4 g23.cap, Value.slice a xs.length cap] by (simp [mc, be_len, psh_len]; try omega)]; exact At.lit0 (i := 0) (j := 0) (t := 25) (b := p21) hm_ rfl rfl)) (List.forall_mem_cons.2 ⟨(At.lit0 (i := 1) (j := 0) (t := 5) (b := p14) hm_ rfl rfl), (List.forall_mem_cons.2 ⟨(FS.at (i := 2) (t := 5) hm_ rfl (FS.nil_cs ok24 (by rw [mc_len, be_len, Nat.mul_one]; try rfl))), (List.forall_mem_cons.2 ⟨(hat.mem0 hm_), (fun _ h => by cases h)⟩)⟩)⟩) (by first | omega | (simp [be_len, psh_len]; omega)) (by simp) (by simp))) (fun _ => rfl)) (.inr fun _ _ h_ => h_.pick [4] (by decide) rfl) (fun x30 => ?_)
        obtain ⟨g27, ok28, nn29⟩ := x30
        refine Wa.castL (LL' := [g27.seg 5 (mc b8 ([ty, co, (0 : UInt8), (0 : UInt8)] ++ (be 4 re) ++ xs)), [cb p21 [Value.slice (some ⟨p14, 0, none⟩) 4 4, Value.slice g23.a 4 g23.cap, Value.slice a xs.length cap] 25], [cb p14 [nV .u8 ty.toNat, nV .u8 co.toNat, Value.int .u8 0, Value.int .u8 0] 5], g23.seg 5 (mc b8 (be 4 re)), [cb p1 [nV .u8 ty.toNat, nV .u8 co.toNat, nV .u32 re, Value.slice a xs.length cap] 65]]) rfl ?_
        refine Wa.ys (v := Value.slice g27.a (4 + 4 + xs.length) g27.cap) (i := 13) (by kernel_rfl) (by kernel_rfl) (by kernel_rfl) (by kernel_rfl) (fun _ h_ => h_.pick [4] (by decide) rfl) rfl rfl rfl (Ys.pure (fun _ => by kernel_rfl)) ?_
        refine Wa.nil (by kernel_rfl) ?_
        refine fun w_ h_ => hJ12 p14 g23 p21 g27 _ w_ ⟨ok24, nn25, ok28, nn29⟩ (by kernel_rfl) (h_.pick [0, 1, 3, 2, 4] (by decide) rfl)
    · refine hK11 _ _ _ ?_
      obtain ⟨ok13, nn14, ok17, nn18⟩ := hp14
      refine W.seq (fun K31 hK31 => ?_)
      refine W.region ?_
      refine Wl.run 2 (by kernel_rfl) ?_
      refine Wl.ht rfl (Ht.made (mk := fun b_ => .slice (some ⟨b_, 0, none⟩) 1 1) (t := 25) (cs := [Value.slice g16.a (4 + 4 + xs.length) g16.cap]) rfl (fun _ => by kernel_rfl)) (fun p25 => ?_)
      have hk32 := cks_le (([ty, co, (0 : UInt8), (0 : UInt8)] ++ (be 4 re) ++ xs))
      refine Wl.yc (v := nV .u16 (cks ([ty, co, (0 : UInt8), (0 : UInt8)] ++ (be 4 re) ++ xs))) rfl rfl (Yc.call (k := 66) (args := #[Value.slice (some ⟨p25, 0, none⟩) 1 1]) (fun _ => by kernel_rfl) (fun w_ hm_ => (sumn_c [⟨g16.a, ([ty, co, (0 : UInt8), (0 : UInt8)] ++ (be 4 re) ++ xs), g16.cap⟩] (([ty, co, (0 : UInt8), (0 : UInt8)] ++ (be 4 re) ++ xs)) (some ⟨p25, 0, none⟩) 1 1 ((4 + 4 + xs.length)) _ rfl (by simp [jn]) (by simp [be_len, psh_len]; try omega) (by first | exact At.lit0 (i := 0) (j := 0) (t := 25) (b := p25) hm_ rfl rfl | (rw [show mc slv ([⟨g16.a, ([ty, co, (0 : UInt8), (0 : UInt8)] ++ (be 4 re) ++ xs), g16.cap⟩] : List SV) = [Value.slice g16.a (4 + 4 + xs.length) g16.cap] by (simp [mc, be_len, psh_len]; try omega)]; exact At.lit0 (i := 0) (j := 0) (t := 25) (b := p25) hm_ rfl rfl)) (List.forall_mem_cons.2 ⟨(FS.at (i := 1) (t := 5) hm_ rfl (FS.nil_cs ok17 (by simp [mc, be_len, psh_len]; try omega))), (fun _ h => by cases h)⟩) (by first | omega | (simp [be_len, psh_len]; omega)) (by simp) (by simp)))) ?_
      refine Wl.ht rfl (Ht.call (β := FS) (k := 65) (args := #[Value.slice g16.a (4 + 4 + xs.length) g16.cap, Value.int .i64 2, nV .u16 (cks ([ty, co, (0 : UInt8), (0 : UInt8)] ++ (be 4 re) ++ xs))]) (Lin := [g16.seg 5 (mc b8 ([ty, co, (0 : UInt8), (0 : UInt8)] ++ (be 4 re) ++ xs))]) (Lk := [[cb p25 [Value.slice g16.a (4 + 4 + xs.length) g16.cap] 25], [cb p21 [Value.slice (some ⟨p14, 0, none⟩) 4 4, Value.slice g12.a 4 g12.cap, Value.slice a xs.length cap] 25], g12.seg 5 (mc b8 (be 4 re)), [cb p14 [nV .u8 ty.toNat, nV .u8 co.toNat, Value.int .u8 0, Value.int .u8 0] 5], [cb p1 [nV .u8 ty.toNat, nV .u8 co.toNat, nV .u32 re, Value.slice a xs.length cap] 65]]) (Lo := fun g33 => [g33.seg 5 (mc b8 (sput ([ty, co, (0 : UInt8), (0 : UInt8)] ++ (be 4 re) ++ xs) 2 (cks ([ty, co, (0 : UInt8), (0 : UInt8)] ++ (be 4 re) ++ xs)))), [cb p25 [Value.slice g16.a (4 + 4 + xs.length) g16.cap] 25], [cb p21 [Value.slice (some ⟨p14, 0, none⟩) 4 4, Value.slice g12.a 4 g12.cap, Value.slice a xs.length cap] 25], g12.seg 5 (mc b8 (be 4 re)), [cb p14 [nV .u8 ty.toNat, nV .u8 co.toNat, Value.int .u8 0, Value.int .u8 0] 5], [cb p1 [nV .u8 ty.toNat, nV .u8 co.toNat, nV .u32 re, Value.slice a xs.length cap] 65]]) [1] [0, 2, 3, 4, 5] rfl (fun _ => by kernel_rfl) (by decide) rfl rfl rfl (fun w_ hm_ hl_ => (sealn_seal g16 ([ty, co, (0 : UInt8), (0 : UInt8)] ++ (be 4 re) ++ xs) (4 + 4 + xs.length) 2 (cks ([ty, co, (0 : UInt8), (0 : UInt8)] ++ (be 4 re) ++ xs)) _ _ (by first | rfl | (simp [be_len, be_len, psh_len]; done) | (simp [be_len, be_len, psh_len]; omega)) hl_ ok17 (nn18 (by simp)) (by first | omega | (simp [be_len, be_len, psh_len]; done) | (simp [be_len, be_len, psh_len]; omega)) (by first | omega | (simp [be_len, be_len, psh_len]; done) | (simp [be_len, be_len, psh_len]; omega)) (by omega))) (fun _ => rfl)) (fun x36 => ?_)
      obtain ⟨g33, ok34, nn35⟩ := x36
      refine Wl.castL (LL' := [g33.seg 5 (mc b8 (sput ([ty, co, (0 : UInt8), (0 : UInt8)] ++ (be 4 re) ++ xs) 2 (cks ([ty, co, (0 : UInt8), (0 : UInt8)] ++ (be 4 re) ++ xs)))), [cb p25 [Value.slice g16.a (4 + 4 + xs.length) g16.cap] 25], [cb p21 [Value.slice (some ⟨p14, 0, none⟩) 4 4, Value.slice g12.a 4 g12.cap, Value.slice a xs.length cap] 25], g12.seg 5 (mc b8 (be 4 re)), [cb p14 [nV .u8 ty.toNat, nV .u8 co.toNat, Value.int .u8 0, Value.int .u8 0] 5], [cb p1 [nV .u8 ty.toNat, nV .u8 co.toNat, nV .u32 re, Value.slice a xs.length cap] 65]]) rfl ?_
      refine Wl.run 2 (by kernel_rfl) ?_
      refine Wl.nil ?_
      refine hK31 _ _ _ ?_
      refine W.pick (LL' := [g33.seg 5 (mc b8 (sput ([ty, co, (0 : UInt8), (0 : UInt8)] ++ (be 4 re) ++ xs) 2 (cks ([ty, co, (0 : UInt8), (0 : UInt8)] ++ (be 4 re) ++ xs))))]) [0] (by decide) rfl ?_
      refine W.prune' [2, 3] [Value.slice g33.a (4 + 4 + xs.length) g33.cap, Value.int .i64 0] (by kernel_rfl) (fun f37 => ?_)
      refine W.ret ?_
      have hE : uE xs.length = 0 := by unfold uE; rw [if_neg (by omega)]
      have hB : mB ty co re xs = sput ([ty, co, (0 : UInt8), (0 : UInt8)] ++ (be 4 re) ++ xs) 2 (cks ([ty, co, (0 : UInt8), (0 : UInt8)] ++ (be 4 re) ++ xs)) := by unfold mB; rw [if_neg (by omega), ← sput_mX]; rfl
      have hn : (mB ty co re xs).length = 4 + 4 + xs.length := by rw [mB_len (by omega)]; first | done | omega
      show ∀ w_, _ → bodyPostM (fence none) 0 Try.prog Try.f39 _ Exit.ret _ w_
      exact fun w_ hS_ => fin_ret (ret2 rfl (RV.tmp (v := Value.slice g33.a (4 + 4 + xs.length) g33.cap) (by kernel_rfl)) (RV.tmp (v := Value.int .i64 0) (by kernel_rfl)) hS_ ⟨g33, (by rw [hn]; exact ok34), congrArg Ending.returned ((by rw [hn, hE])), (Mem.cast (by rw [hB]; rfl) (hS_.pick [0] (by decide) rfl))⟩)
theorem rwicmp_c (ty co : UInt8) (re : Nat) (xs : List UInt8) (a : Option Addr) (cap : Nat) (w : World) (hat : At w a (byc xs)) (hr : re < 4294967296) (hl : xs.length ≤ 9223372036854775807) (hlc : xs.length ≤ cap) : Calls Try.prog 29 #[Value.agg ([Value.int .u8 ((ty.toNat : Nat) : Int), Value.int .u8 ((co.toNat : Nat) : Int), Value.int .u32 ((re : Nat) : Int), Value.slice a xs.length cap]).toArray] w (RetM w (fun g : FS => g.ok 1 (mB ty co re xs).length) (fun g => .tuple #[.slice g.a (mB ty co re xs).length g.cap, .int .i64 (uE xs.length)]) [] (fun g => [g.seg 5 (byc (mB ty co re xs))])) := by
  refine calls_W (M := []) (LL := []) (n := 28) Try.func29 rfl rfl (by simp) (Mem.refl _) ?_
  refine W.seq (fun K1 hK1 => ?_)
  refine W.region ?_
  refine Wl.ht rfl (Ht.box (v := Value.agg ([nV .u8 ty.toNat, nV .u8 co.toNat, nV .u32 re, Value.slice a xs.length cap]).toArray) (cs := [nV .u8 ty.toNat, nV .u8 co.toNat, nV .u32 re, Value.slice a xs.length cap]) rfl rfl (by kernel_rfl) rfl) (fun p1 => ?_)
  refine Wl.run 2 (by kernel_rfl) ?_
  refine Wl.nil ?_
  refine hK1 _ _ _ ?_
  refine W.prune' [1] [Value.pointer (some ⟨p1, 0, none⟩)] (by kernel_rfl) (fun f2 => ?_)
  refine W.seq (fun K3 hK3 => ?_)
  refine W.seq (fun K4 hK4 => ?_)
  refine W.region ?_
  refine Wl.run 1 (by kernel_rfl) ?_
  refine Wl.ys (v := Value.slice a xs.length cap) rfl rfl (Ys.load (b := p1) (o' := 3) (i := 0) (j := 0) (cs := [nV .u8 ty.toNat, nV .u8 co.toNat, nV .u32 re, Value.slice a xs.length cap]) (v := Value.slice a xs.length cap) rfl (by kernel_rfl) Try.isAgg25 rfl rfl rfl) ?_
  refine Wl.run 2 (by kernel_rfl) ?_
  refine Wl.nil ?_
  refine hK4 _ _ _ ?_
  refine W.prune' [1, 8] [Value.pointer (some ⟨p1, 0, none⟩), Value.bool (decide (((xs.length : Nat) : Int) > 1472))] (by kernel_rfl) (fun f5 => ?_)
  refine W.cond (decide (((xs.length : Nat) : Int) > 1472)) (by kernel_rfl) (fun h6 => ?_) (fun h7 => ?_)
  · have qh6 := h6; try simp only [Bool.and_eq_true, Bool.or_eq_true, Bool.not_eq_true', Bool.not_eq_false', Bool.and_eq_false_iff, Bool.or_eq_false_iff, decide_eq_true_eq, decide_eq_false_iff_not, beq_iff_eq, bne_iff_ne, beq_eq_false_iff_ne, bne_eq_false_iff_eq] at qh6
    refine W.seq (fun K8 hK8 => ?_)
    refine W.region ?_
    refine Wl.ht rfl (Ht.made (mk := fun b_ => .slice (some ⟨b_, 0, none⟩) 0 0) (t := 5) (cs := []) rfl (fun _ => by kernel_rfl)) (fun p9 => ?_)
    refine Wl.run 2 (by kernel_rfl) ?_
    refine Wl.nil ?_
    refine hK8 _ _ _ ?_
    refine W.pick (LL' := [[cb p9 [] 5]]) [0] (by decide) rfl ?_
    refine W.prune' [2, 3] [Value.slice (some ⟨p9, 0, none⟩) 0 0, Value.int .i64 14] (by kernel_rfl) (fun f9 => ?_)
    refine W.ret ?_
    have hE : uE xs.length = 14 := by unfold uE; rw [if_pos (by omega)]
    have hB : mB ty co re xs = [] := by unfold mB; rw [if_pos (by omega)]
    show ∀ w_, _ → bodyPostM (fence none) 0 Try.prog Try.f29 _ Exit.ret _ w_
    exact fun w_ hS_ => fin_ret (ret2 rfl (RV.tmp (v := Value.slice (some ⟨p9, 0, none⟩) 0 0) (by kernel_rfl)) (RV.tmp (v := Value.int .i64 14) (by kernel_rfl)) hS_ ⟨(FS.mk false p9 0 []), (by rw [hB]; exact (FS.lit_ok (by decide))), congrArg Ending.returned ((by rw [hB, hE]; rfl)), (Mem.cast (by rw [hB]; rfl) (hS_.pick [0] (by decide) rfl))⟩)
  · have qh7 := h7; try simp only [Bool.and_eq_true, Bool.or_eq_true, Bool.not_eq_true', Bool.not_eq_false', Bool.and_eq_false_iff, Bool.or_eq_false_iff, decide_eq_true_eq, decide_eq_false_iff_not, beq_iff_eq, bne_iff_ne, beq_eq_false_iff_ne, bne_eq_false_iff_eq] at qh7
    refine W.skip' ?_
    refine hK3 _ _ _ ?_
    refine W.prune' [1] [Value.pointer (some ⟨p1, 0, none⟩)] (by kernel_rfl) (fun f10 => ?_)
    refine W.seq (fun K11 hK11 => ?_)
    refine W.meet3 (w0 := w) (M := []) K11 [1, 4] (fun (p14 : Nat) (g12 : FS) (g16 : FS) => [Value.pointer (some ⟨p1, 0, none⟩), Value.slice g16.a (4 + 4) g16.cap]) (fun (p14 : Nat) (g12 : FS) (g16 : FS) => g12.ok 1 4 ∧ g12.nil = false ∧ g16.ok 1 (4 + 4) ∧ (0 < 4 + 4 → g16.nil = false) ∧ ((FS.mk false p14 4 []).nil = false → g16.nil = false)) (fun (p14 : Nat) (g12 : FS) (g16 : FS) => [g12.seg 5 (mc b8 (be 4 re)), g16.seg 5 (mc b8 ([ty, co, (0 : UInt8), (0 : UInt8)] ++ (be 4 re))), [cb p1 [nV .u8 ty.toNat, nV .u8 co.toNat, nV .u32 re, Value.slice a xs.length cap] 65]]) (fun J12 hJ12 => ?_) (fun p14 g12 g16 f13 hp14 => ?_)
    · refine W.drawsA [0, 1, 2, 3, 5, 6, 7, 10] (Mem w [] [[cb p1 [nV .u8 ty.toNat, nV .u8 co.toNat, nV .u32 re, Value.slice a xs.length cap] 65]]) (by kernel_rfl) (by kernel_rfl) (fun _ _ h_ => h_.drawn _) ?_
      refine Wa.ys (v := Value.pointer (some ⟨p1, 0, none⟩)) (i := 0) (by kernel_rfl) (by kernel_rfl) (by kernel_rfl) (by kernel_rfl) (fun _ h_ => h_) rfl rfl rfl (Ys.pure (fun _ => by kernel_rfl)) ?_
      refine Wa.ys (v := nV .u8 ty.toNat) (i := 1) (by kernel_rfl) (by kernel_rfl) (by kernel_rfl) (by kernel_rfl) (fun _ h_ => h_) rfl rfl rfl (Ys.load (b := p1) (o' := 0) (i := 0) (j := 0) (cs := [nV .u8 ty.toNat, nV .u8 co.toNat, nV .u32 re, Value.slice a xs.length cap]) (v := nV .u8 ty.toNat) rfl (by kernel_rfl) Try.isAgg5 rfl rfl rfl) ?_
      refine Wa.ys (v := Value.pointer (some ⟨p1, 1, none⟩)) (i := 2) (by kernel_rfl) (by kernel_rfl) (by kernel_rfl) (by kernel_rfl) (fun _ h_ => h_) rfl rfl rfl (Ys.pure (fun _ => by kernel_rfl)) ?_
      refine Wa.ys (v := nV .u8 co.toNat) (i := 3) (by kernel_rfl) (by kernel_rfl) (by kernel_rfl) (by kernel_rfl) (fun _ h_ => h_) rfl rfl rfl (Ys.load (b := p1) (o' := 1) (i := 0) (j := 0) (cs := [nV .u8 ty.toNat, nV .u8 co.toNat, nV .u32 re, Value.slice a xs.length cap]) (v := nV .u8 co.toNat) rfl (by kernel_rfl) Try.isAgg5 rfl rfl rfl) ?_
      refine Wa.ys (v := Value.pointer (some ⟨p1, 2, none⟩)) (i := 5) (by kernel_rfl) (by kernel_rfl) (by kernel_rfl) (by kernel_rfl) (fun _ h_ => h_) rfl rfl rfl (Ys.pure (fun _ => by kernel_rfl)) ?_
      refine Wa.ys (v := nV .u32 re) (i := 6) (by kernel_rfl) (by kernel_rfl) (by kernel_rfl) (by kernel_rfl) (fun _ h_ => h_) rfl rfl rfl (Ys.load (b := p1) (o' := 2) (i := 0) (j := 0) (cs := [nV .u8 ty.toNat, nV .u8 co.toNat, nV .u32 re, Value.slice a xs.length cap]) (v := nV .u32 re) rfl (by kernel_rfl) Try.isAgg23 rfl rfl rfl) ?_
      refine Wa.ys (v := nV .u64 re) (i := 7) (by kernel_rfl) (by kernel_rfl) (by kernel_rfl) (by kernel_rfl) (fun _ h_ => h_) rfl rfl rfl ((Ys.pure (v := .int .u64 (icnv .u64 ((re : Nat) : Int))) (fun _ => by kernel_rfl)).conseq (int_congr (wrap_u64 (by omega) (by omega)))) ?_
      refine Wa.alt2 (i := 4) (j := 8) (by kernel_rfl) ?_ ?_
      · refine Wo.ht rfl rfl (Ht.made (mk := fun b_ => .slice (some ⟨b_, 0, none⟩) 4 4) (t := 5) (cs := [nV .u8 ty.toNat, nV .u8 co.toNat, Value.int .u8 0, Value.int .u8 0]) rfl (fun _ => by kernel_rfl)) (.inr fun _ _ h_ => h_.pick [1] (by decide) rfl) (fun p14 => ?_)
        refine Wa.only (i := 8) (by kernel_rfl) ?_
        refine Wo.ht rfl rfl (Ht.call (β := FS) (k := 58) (args := #[Value.int .i64 4, nV .u64 re]) (Lin := []) (Lk := [[cb p14 [nV .u8 ty.toNat, nV .u8 co.toNat, Value.int .u8 0, Value.int .u8 0] 5], [cb p1 [nV .u8 ty.toNat, nV .u8 co.toNat, nV .u32 re, Value.slice a xs.length cap] 65]]) (Mi := []) (Lo := fun g15 => [g15.seg 5 (mc b8 (be 4 re)), [cb p14 [nV .u8 ty.toNat, nV .u8 co.toNat, Value.int .u8 0, Value.int .u8 0] 5], [cb p1 [nV .u8 ty.toNat, nV .u8 co.toNat, nV .u32 re, Value.slice a xs.length cap] 65]]) [] [0, 1] rfl (fun _ => by kernel_rfl) (by decide) rfl rfl rfl (fun w_ hm_ hl_ => rnum_c 4 re (by omega) _) (fun _ => rfl)) (.inr fun _ _ h_ => h_.pick [2] (by decide) rfl) (fun x18 => ?_)
        obtain ⟨g15, ok16, nn17⟩ := x18
        refine Wa.castL (LL' := [g15.seg 5 (mc b8 (be 4 re)), [cb p14 [nV .u8 ty.toNat, nV .u8 co.toNat, Value.int .u8 0, Value.int .u8 0] 5], [cb p1 [nV .u8 ty.toNat, nV .u8 co.toNat, nV .u32 re, Value.slice a xs.length cap] 65]]) rfl ?_
        refine Wa.only (i := 9) (by kernel_rfl) ?_
        refine Wo.ht rfl rfl (Ht.append (eu := 5) (xv := Value.slice g15.a 4 g15.cap) (i := 1) (g := (FS.mk false p14 4 [])) (e := 5) (ii := (Try.prog.info? 5).getD default) (z := Value.int .u8 0) (sz := 1) (bytes := 1) (nn := 4) (m := 4) (k := 4 + 4) (xs := mc b8 [ty, co, (0 : UInt8), (0 : UInt8)]) (news := mc b8 (be 4 re)) (cs' := mc b8 ([ty, co, (0 : UInt8), (0 : UInt8)] ++ (be 4 re))) (Lo := fun g19 => [g15.seg 5 (mc b8 (be 4 re)), g19.seg 5 (mc b8 ([ty, co, (0 : UInt8), (0 : UInt8)] ++ (be 4 re))), [cb p1 [nV .u8 ty.toNat, nV .u8 co.toNat, nV .u32 re, Value.slice a xs.length cap] 65]]) rfl rfl (by kernel_rfl) (by kernel_rfl) (by kernel_rfl) (by kernel_rfl) (by kernel_rfl) (by kernel_rfl) (by kernel_rfl) (by kernel_rfl) (by kernel_rfl) rfl (FS.lit_ok (by decide)) (by first | rfl | simp [mc, be_len, psh_len]) (fun _ => rfl) (Src.at (a := g15.a) (by first | rfl | (rw [mc_len, List.length_take]; omega) | (rw [mc_len, List.length_take, List.length_drop]; omega) | (simp [mc, be_len, psh_len]; done) | (simp [mc, be_len, psh_len]; omega)) (fun w_ h_ => (FS.at (i := 0) (t := 5) h_ rfl (FS.nil_cs ok16 (by rw [mc_len, be_len, Nat.mul_one]; try rfl))))) (by first | rfl | (rw [mc_len, List.length_take]; omega) | (rw [mc_len, List.length_take, List.length_drop]; omega) | (simp [mc, be_len, psh_len]; done) | (simp [mc, be_len, psh_len]; omega)) (mc_one (fun _ => rfl) _) (by first | omega | (simp; done) | (simp; omega)) (by simp only [maxLen]; first | omega | (simp; done) | (simp; omega)) (by first | omega | (simp; done) | (simp; omega)) (mc_app _ _) (fun _ => rfl)) (.inr fun _ _ h_ => h_.pick [2] (by decide) rfl) (fun x23 => ?_)
        obtain ⟨g19, ok20, hn21, hn22⟩ := x23
        refine Wa.castL (LL' := [g15.seg 5 (mc b8 (be 4 re)), g19.seg 5 (mc b8 ([ty, co, (0 : UInt8), (0 : UInt8)] ++ (be 4 re))), [cb p1 [nV .u8 ty.toNat, nV .u8 co.toNat, nV .u32 re, Value.slice a xs.length cap] 65]]) rfl ?_
        refine Wa.ys (v := Value.slice g19.a (4 + 4) g19.cap) (i := 10) (by kernel_rfl) (by kernel_rfl) (by kernel_rfl) (by kernel_rfl) (fun _ h_ => h_.pick [2] (by decide) rfl) rfl rfl rfl (Ys.pure (fun _ => by kernel_rfl)) ?_
        refine Wa.nil (by kernel_rfl) ?_
        refine fun w_ h_ => hJ12 p14 g15 g19 _ w_ ⟨ok16, nn17, ok20, hn21, hn22⟩ (by kernel_rfl) h_
      · refine Wo.ht rfl rfl (Ht.call (β := FS) (k := 58) (args := #[Value.int .i64 4, nV .u64 re]) (Lin := []) (Lk := [[cb p1 [nV .u8 ty.toNat, nV .u8 co.toNat, nV .u32 re, Value.slice a xs.length cap] 65]]) (Mi := []) (Lo := fun g24 => [g24.seg 5 (mc b8 (be 4 re)), [cb p1 [nV .u8 ty.toNat, nV .u8 co.toNat, nV .u32 re, Value.slice a xs.length cap] 65]]) [] [0] rfl (fun _ => by kernel_rfl) (by decide) rfl rfl rfl (fun w_ hm_ hl_ => rnum_c 4 re (by omega) _) (fun _ => rfl)) (.inr fun _ _ h_ => h_.pick [1] (by decide) rfl) (fun x27 => ?_)
        obtain ⟨g24, ok25, nn26⟩ := x27
        refine Wa.castL (LL' := [g24.seg 5 (mc b8 (be 4 re)), [cb p1 [nV .u8 ty.toNat, nV .u8 co.toNat, nV .u32 re, Value.slice a xs.length cap] 65]]) rfl ?_
        refine Wa.only (i := 4) (by kernel_rfl) ?_
        refine Wo.ht rfl rfl (Ht.made (mk := fun b_ => .slice (some ⟨b_, 0, none⟩) 4 4) (t := 5) (cs := [nV .u8 ty.toNat, nV .u8 co.toNat, Value.int .u8 0, Value.int .u8 0]) rfl (fun _ => by kernel_rfl)) (.inr fun _ _ h_ => h_.pick [2] (by decide) rfl) (fun p14 => ?_)
        refine Wa.only (i := 9) (by kernel_rfl) ?_
        refine Wo.ht rfl rfl (Ht.append (eu := 5) (xv := Value.slice g24.a 4 g24.cap) (i := 0) (g := (FS.mk false p14 4 [])) (e := 5) (ii := (Try.prog.info? 5).getD default) (z := Value.int .u8 0) (sz := 1) (bytes := 1) (nn := 4) (m := 4) (k := 4 + 4) (xs := mc b8 [ty, co, (0 : UInt8), (0 : UInt8)]) (news := mc b8 (be 4 re)) (cs' := mc b8 ([ty, co, (0 : UInt8), (0 : UInt8)] ++ (be 4 re))) (Lo := fun g28 => [g28.seg 5 (mc b8 ([ty, co, (0 : UInt8), (0 : UInt8)] ++ (be 4 re))), g24.seg 5 (mc b8 (be 4 re)), [cb p1 [nV .u8 ty.toNat, nV .u8 co.toNat, nV .u32 re, Value.slice a xs.length cap] 65]]) rfl rfl (by kernel_rfl) (by kernel_rfl) (by kernel_rfl) (by kernel_rfl) (by kernel_rfl) (by kernel_rfl) (by kernel_rfl) (by kernel_rfl) (by kernel_rfl) rfl (FS.lit_ok (by decide)) (by first | rfl | simp [mc, be_len, psh_len]) (fun _ => rfl) (Src.at (a := g24.a) (by first | rfl | (rw [mc_len, List.length_take]; omega) | (rw [mc_len, List.length_take, List.length_drop]; omega) | (simp [mc, be_len, psh_len]; done) | (simp [mc, be_len, psh_len]; omega)) (fun w_ h_ => (FS.at (i := 1) (t := 5) h_ rfl (FS.nil_cs ok25 (by rw [mc_len, be_len, Nat.mul_one]; try rfl))))) (by first | rfl | (rw [mc_len, List.length_take]; omega) | (rw [mc_len, List.length_take, List.length_drop]; omega) | (simp [mc, be_len, psh_len]; done) | (simp [mc, be_len, psh_len]; omega)) (mc_one (fun _ => rfl) _) (by first | omega | (simp; done) | (simp; omega)) (by simp only [maxLen]; first | omega | (simp; done) | (simp; omega)) (by first | omega | (simp; done) | (simp; omega)) (mc_app _ _) (fun _ => rfl)) (.inr fun _ _ h_ => h_.pick [2] (by decide) rfl) (fun x32 => ?_)
        obtain ⟨g28, ok29, hn30, hn31⟩ := x32
        refine Wa.castL (LL' := [g28.seg 5 (mc b8 ([ty, co, (0 : UInt8), (0 : UInt8)] ++ (be 4 re))), g24.seg 5 (mc b8 (be 4 re)), [cb p1 [nV .u8 ty.toNat, nV .u8 co.toNat, nV .u32 re, Value.slice a xs.length cap] 65]]) rfl ?_
        refine Wa.ys (v := Value.slice g28.a (4 + 4) g28.cap) (i := 10) (by kernel_rfl) (by kernel_rfl) (by kernel_rfl) (by kernel_rfl) (fun _ h_ => h_.pick [2] (by decide) rfl) rfl rfl rfl (Ys.pure (fun _ => by kernel_rfl)) ?_
        refine Wa.nil (by kernel_rfl) ?_
        refine fun w_ h_ => hJ12 p14 g24 g28 _ w_ ⟨ok25, nn26, ok29, hn30, hn31⟩ (by kernel_rfl) (h_.pick [1, 0, 2] (by decide) rfl)
    · refine hK11 _ _ _ ?_
      obtain ⟨ok13, nn14, ok17, hn18, hn19⟩ := hp14
      refine W.seq (fun K33 hK33 => ?_)
      refine W.region ?_
      refine Wl.run 2 (by kernel_rfl) ?_
      refine Wl.ys (v := Value.slice a xs.length cap) rfl rfl (Ys.load (b := p1) (o' := 3) (i := 2) (j := 0) (cs := [nV .u8 ty.toNat, nV .u8 co.toNat, nV .u32 re, Value.slice a xs.length cap]) (v := Value.slice a xs.length cap) rfl (by kernel_rfl) Try.isAgg25 rfl rfl rfl) ?_
      refine Wl.ht rfl (Ht.append (eu := 5) (xv := Value.slice a xs.length cap) (i := 1) (g := g16) (e := 5) (ii := (Try.prog.info? 5).getD default) (z := Value.int .u8 0) (sz := 1) (bytes := 1) (nn := 4 + 4) (m := xs.length) (k := (4 + 4) + xs.length) (xs := mc b8 ([ty, co, (0 : UInt8), (0 : UInt8)] ++ (be 4 re))) (news := mc b8 xs) (cs' := mc b8 (([ty, co, (0 : UInt8), (0 : UInt8)] ++ (be 4 re)) ++ xs)) (Lo := fun g34 => [g12.seg 5 (mc b8 (be 4 re)), g34.seg 5 (mc b8 (([ty, co, (0 : UInt8), (0 : UInt8)] ++ (be 4 re)) ++ xs)), [cb p1 [nV .u8 ty.toNat, nV .u8 co.toNat, nV .u32 re, Value.slice a xs.length cap] 65]]) rfl rfl (by kernel_rfl) (by kernel_rfl) (by kernel_rfl) (by kernel_rfl) (by kernel_rfl) (by kernel_rfl) (by kernel_rfl) (by kernel_rfl) (by kernel_rfl) rfl ok17 (by simp [mc, be_len, psh_len]; try omega) (fun _ => rfl) (Src.at (a := a) (mc_len1 _) (fun w_ h_ => (hat.mem0 h_))) (mc_len1 _) (mc_one (fun _ => rfl) _) (by first | omega | (simp; done) | (simp; omega)) (by simp only [maxLen]; first | omega | (simp; done) | (simp; omega)) (by first | omega | (simp; done) | (simp; omega)) (mc_app _ _) (fun _ => rfl)) (fun x38 => ?_)
      obtain ⟨g34, ok35, hn36, hn37⟩ := x38
      refine Wl.castL (LL' := [g12.seg 5 (mc b8 (be 4 re)), g34.seg 5 (mc b8 (([ty, co, (0 : UInt8), (0 : UInt8)] ++ (be 4 re)) ++ xs)), [cb p1 [nV .u8 ty.toNat, nV .u8 co.toNat, nV .u32 re, Value.slice a xs.length cap] 65]]) rfl ?_
      refine Wl.run 1 (by kernel_rfl) ?_
      refine Wl.nil ?_
      refine hK33 _ _ _ ?_
      refine W.pick (LL' := [g34.seg 5 (mc b8 (([ty, co, (0 : UInt8), (0 : UInt8)] ++ (be 4 re)) ++ xs))]) [1] (by decide) rfl ?_
      refine W.prune' [4] [Value.slice g34.a ((4 + 4) + xs.length) g34.cap] (by kernel_rfl) (fun f39 => ?_)
      refine W.seq (fun K40 hK40 => ?_)
      refine W.region ?_
      have hk41 := cks_le ((([ty, co, (0 : UInt8), (0 : UInt8)] ++ (be 4 re)) ++ xs))
      refine Wl.run 2 (by kernel_rfl) ?_
      refine Wl.yc (v := nV .u16 (cks (([ty, co, (0 : UInt8), (0 : UInt8)] ++ (be 4 re)) ++ xs))) rfl rfl (Yc.call (k := 55) (args := #[Value.slice g34.a ((4 + 4) + xs.length) g34.cap]) (fun _ => by kernel_rfl) (fun w_ hm_ => (rsumn_c (([ty, co, (0 : UInt8), (0 : UInt8)] ++ (be 4 re)) ++ xs) g34.a ((4 + 4) + xs.length) g34.cap _ (by first | rfl | (simp; done) | (simp [mc, be_len, psh_len]; omega)) (FS.at (i := 0) (t := 5) hm_ rfl (FS.nil_cs ok35 (by simp [mc, be_len, psh_len]; try omega))) (by omega)))) ?_
      refine Wl.ht rfl (Ht.call (β := FS) (k := 59) (args := #[Value.slice g34.a ((4 + 4) + xs.length) g34.cap, Value.int .i64 2, nV .u16 (cks (([ty, co, (0 : UInt8), (0 : UInt8)] ++ (be 4 re)) ++ xs))]) (Lin := [g34.seg 5 (mc b8 (([ty, co, (0 : UInt8), (0 : UInt8)] ++ (be 4 re)) ++ xs))]) (Lk := []) (Lo := fun g42 => [g42.seg 5 (mc b8 (sput (([ty, co, (0 : UInt8), (0 : UInt8)] ++ (be 4 re)) ++ xs) 2 (cks (([ty, co, (0 : UInt8), (0 : UInt8)] ++ (be 4 re)) ++ xs))))]) [0] [] rfl (fun _ => by kernel_rfl) (by decide) rfl rfl rfl (fun w_ hm_ hl_ => (sealn_lay g34 (([ty, co, (0 : UInt8), (0 : UInt8)] ++ (be 4 re)) ++ xs) ((4 + 4) + xs.length) 2 (cks (([ty, co, (0 : UInt8), (0 : UInt8)] ++ (be 4 re)) ++ xs)) _ _ (by first | rfl | (simp [be_len, be_len, psh_len]; done) | (simp [be_len, be_len, psh_len]; omega)) hl_ ok35 (hn36 (by first | omega | (simp; omega))) (by first | omega | (simp [be_len, be_len, psh_len]; done) | (simp [be_len, be_len, psh_len]; omega)) (by first | omega | (simp [be_len, be_len, psh_len]; done) | (simp [be_len, be_len, psh_len]; omega)) (by omega))) (fun _ => rfl)) (fun x45 => ?_)
      obtain ⟨g42, ok43, nn44⟩ := x45
      refine Wl.castL (LL' := [g42.seg 5 (mc b8 (sput (([ty, co, (0 : UInt8), (0 : UInt8)] ++ (be 4 re)) ++ xs) 2 (cks (([ty, co, (0 : UInt8), (0 : UInt8)] ++ (be 4 re)) ++ xs))))]) rfl ?_
      refine Wl.run 2 (by kernel_rfl) ?_
      refine Wl.nil ?_
      refine hK40 _ _ _ ?_
      refine W.prune' [2, 3] [Value.slice g42.a ((4 + 4) + xs.length) g42.cap, Value.int .i64 0] (by kernel_rfl) (fun f46 => ?_)
      refine W.ret ?_
      have hE : uE xs.length = 0 := by unfold uE; rw [if_neg (by omega)]
      have hB : mB ty co re xs = sput (([ty, co, (0 : UInt8), (0 : UInt8)] ++ (be 4 re)) ++ xs) 2 (cks (([ty, co, (0 : UInt8), (0 : UInt8)] ++ (be 4 re)) ++ xs)) := by unfold mB; rw [if_neg (by omega), ← sput_mX]; rfl
      have hn : (mB ty co re xs).length = (4 + 4) + xs.length := by rw [mB_len (by omega)]; first | done | omega
      show ∀ w_, _ → bodyPostM (fence none) 0 Try.prog Try.f29 _ Exit.ret _ w_
      exact fun w_ hS_ => fin_ret (ret2 rfl (RV.tmp (v := Value.slice g42.a ((4 + 4) + xs.length) g42.cap) (by kernel_rfl)) (RV.tmp (v := Value.int .i64 0) (by kernel_rfl)) hS_ ⟨g42, (by rw [hn]; exact ok43), congrArg Ending.returned ((by rw [hn, hE])), (Mem.cast (by rw [hB]; rfl) (hS_.pick [0] (by decide) rfl))⟩)
theorem bv_w1 {xs : List UInt8} {k : Nat} (h : k + 1 ≤ xs.length) : bv ((xs.drop k).take 1) = (xs.getD k 0).toNat := by
  have e : (xs.drop k).take 1 = [xs.getD k 0] := by
    apply List.ext_getElem?
    intro j
    rcases j with _ | j
    · simp [List.getElem?_take, List.getElem?_drop, List.getElem?_eq_getElem (show k < xs.length by omega)]
    · simp; omega
  rw [e]; simp [bv]
theorem numk1_c (X : List UInt8) (a : Option Addr) (len cap : Nat) (bad : Bool) (b j k : Nat) (w : World) (hl : Mem w [b] [[cb b [.slice a len cap, .bool bad] 126]] w) (hat : At w a (byc (X.drop j))) (hn : len = X.length - j) (hjk : j + k ≤ X.length) (hcap : len ≤ cap) (hy : X.length ≤ 70368744177664) (hk8 : k ≤ 8) (h2 : k = 1 := by rfl) :
    Calls Try.prog 46 #[.pointer (some ⟨b, 0, none⟩), .int .i64 ((k : Nat) : Int)] w (RetM w (fun x : EV => View x.a (X.drop (j + k)) a (X.drop j) ∧ X.length - (j + k) ≤ x.cap) (fun x => .int .u64 (((X.getD j 0).toNat : Nat) : Int)) [b] (fun x => [[cb b [.slice x.a (X.length - (j + k)) x.cap, .bool bad] 126]])) := by
  have h := numk_c X a len cap bad b j k w hl hat hn hjk hcap hy hk8
  subst h2
  rw [bv_w1 hjk] at h
  exact h
theorem bv4_lt (xs : List UInt8) (j : Nat) : bv ((xs.drop j).take 4) < 4294967296 := by
  have h := bv_lt ((xs.drop j).take 4)
  have h2 : 256 ^ ((xs.drop j).take 4).length ≤ 256 ^ 4 := Nat.pow_le_pow_right (by decide) (by rw [List.length_take]; omega)
  omega
theorem byte_back (x : UInt8) : UInt8.ofNat x.toNat = x := UInt8.toNat_inj.1 (by rw [UInt8.toNat_ofNat', Nat.mod_eq_of_lt (UInt8.toNat_lt x)])
def mR (xs : List UInt8) : Int := if xs.length < 8 then 10 else if 1480 < xs.length then 14 else if cks xs ≠ 0 then 12 else 0
def mg (xs : List UInt8) : Bool := decide (mR xs = 0)
def mT (xs : List UInt8) (k : Nat) : UInt8 := bif mg xs then xs.getD k 0 else 0
def mN (xs : List UInt8) : Nat := bif mg xs then bv ((xs.drop 4).take 4) else 0
def mD (xs : List UInt8) : List UInt8 := bif mg xs then xs.drop 8 else []
theorem mN_lt (xs : List UInt8) : mN xs < 4294967296 := by
  unfold mN; cases mg xs
  · show (0 : Nat) < _; decide
  · exact bv4_lt _ _
theorem mR_bnd {xs : List UInt8} (h : (bnd xs.length 8 != 0) = true) : mR xs = bnd xs.length 8 := by
  unfold mR bnd at *
  split
  · rfl
  · split
    · rfl
    · rename_i h1 h2; rw [if_neg h1, if_neg h2] at h; cases h
theorem ricmp_c (xs : List UInt8) (a : Option Addr) (cap : Nat) (w : World) (hat : At w a (byc xs)) (hl : xs.length ≤ 100000) (hlc : xs.length ≤ cap) : Calls Try.prog 36 #[Value.slice a xs.length cap] w (RetM w (fun g : FS => g.ok 1 (mD xs).length) (fun g => .tuple #[.agg [.int .u8 (((mT xs 0).toNat : Nat) : Int), .int .u8 (((mT xs 1).toNat : Nat) : Int), .int .u32 ((mN xs : Nat) : Int), .slice g.a (mD xs).length g.cap].toArray, .int .i64 (mR xs)]) [] (fun g => [g.seg 5 (byc (mD xs))])) := by
  refine calls_W (M := []) (LL := []) (n := 39) Try.func36 rfl rfl (by simp) (Mem.refl _) ?_
  refine W.seq (fun K1 hK1 => ?_)
  refine W.region ?_
  refine Wl.ht rfl (Ht.alloc (z := Value.agg ([Value.int .u8 0, Value.int .u8 0, Value.int .u32 0, Value.slice none 0 0]).toArray) (cs := [Value.int .u8 0, Value.int .u8 0, Value.int .u32 0, Value.slice none 0 0]) rfl rfl Try.zeroValue65 rfl) (fun p2 => ?_)
  refine Wl.run 1 (by kernel_rfl) ?_
  refine Wl.nil ?_
  refine hK1 _ _ _ ?_
  refine W.prune' [0, 2] [Value.slice a xs.length cap, Value.pointer (some ⟨p2, 0, none⟩)] (by kernel_rfl) (fun f2 => ?_)
  refine W.seq (fun K3 hK3 => ?_)
  refine W.seq (fun K4 hK4 => ?_)
  refine W.region ?_
  refine Wl.run 1 (by kernel_rfl) ?_
  refine Wl.yc (v := Value.int .i64 (bnd xs.length 8)) rfl rfl (Yc.call (k := 44) (args := #[Value.slice a xs.length cap, Value.int .i64 8]) (fun _ => by kernel_rfl) (fun w_ hm_ => bounds_c a xs.length cap 8 _ (by omega) (by omega))) ?_
  refine Wl.run 1 (by kernel_rfl) ?_
  refine Wl.nil ?_
  refine hK4 _ _ _ ?_
  refine W.prune' [0, 2, 4] [Value.slice a xs.length cap, Value.pointer (some ⟨p2, 0, none⟩), Value.int .i64 (bnd xs.length 8)] (by kernel_rfl) (fun f5 => ?_)
  refine W.seq (fun K6 hK6 => ?_)
  refine W.region ?_
  refine Wl.run 2 (by kernel_rfl) ?_
  refine Wl.nil ?_
  refine hK6 _ _ _ ?_
  refine W.prune' [0, 2, 4, 9] [Value.slice a xs.length cap, Value.pointer (some ⟨p2, 0, none⟩), Value.int .i64 (bnd xs.length 8), Value.bool ((bnd xs.length 8) != 0)] (by kernel_rfl) (fun f7 => ?_)
  refine W.cond ((bnd xs.length 8) != 0) (by kernel_rfl) (fun h8 => ?_) (fun h9 => ?_)
  · have qh8 := h8; try simp only [Bool.and_eq_true, Bool.or_eq_true, Bool.not_eq_true', Bool.not_eq_false', Bool.and_eq_false_iff, Bool.or_eq_false_iff, decide_eq_true_eq, decide_eq_false_iff_not, beq_iff_eq, bne_iff_ne, beq_eq_false_iff_ne, bne_eq_false_iff_eq] at qh8
    refine W.seq (fun K10 hK10 => ?_)
    refine W.region ?_
    refine Wl.ys (v := Value.agg ([Value.int .u8 0, Value.int .u8 0, Value.int .u32 0, Value.slice none 0 0]).toArray) rfl rfl (Ys.loadN (b := p2) (o' := 0) (i := 0) (j := 0) (cs := [Value.int .u8 0, Value.int .u8 0, Value.int .u32 0, Value.slice none 0 0]) (vs := [Value.int .u8 0, Value.int .u8 0, Value.int .u32 0, Value.slice none 0 0]) rfl (by kernel_rfl) Try.isAgg65 Try.sizeOf65 rfl rfl rfl rfl) ?_
    refine Wl.run 1 (by kernel_rfl) ?_
    refine Wl.ht rfl (Ht.storeN (b := p2) (o' := 0) (i := 0) (j := 0) (cs := [Value.int .u8 0, Value.int .u8 0, Value.int .u32 0, Value.slice none 0 0]) (vs := [Value.int .u8 0, Value.int .u8 0, Value.int .u32 0, Value.slice none 0 0]) (cs' := [Value.int .u8 0, Value.int .u8 0, Value.int .u32 0, Value.slice none 0 0]) (LL' := [[cb p2 [Value.int .u8 0, Value.int .u8 0, Value.int .u32 0, Value.slice none 0 0] 65]]) rfl rfl (by kernel_rfl) (by kernel_rfl) Try.sizeOf65 (by simp [Value.oneCell']) rfl rfl (by simp) rfl rfl) (fun _ => ?_)
    refine Wl.run 1 (by kernel_rfl) ?_
    refine Wl.nil ?_
    refine hK10 _ _ _ ?_
    refine W.prune' [2, 3] [Value.pointer (some ⟨p2, 0, none⟩), Value.int .i64 (bnd xs.length 8)] (by kernel_rfl) (fun f11 => ?_)
    refine W.ret ?_
    have he4_ : True := by trivial
    have hR : mR xs = bnd xs.length 8 := mR_bnd h8
    have hG : mg xs = false := by unfold mg; rw [hR]; exact decide_eq_false (by simpa using h8)
    have hD : mD xs = [] := by unfold mD; rw [hG]; rfl
    show ∀ w_, _ → bodyPostM (fence none) 0 Try.prog Try.f36 _ Exit.ret _ w_
    exact fun w_ hS_ => fin_ret (ret2 rfl (RV.cellN (b := p2) (o' := 0) (i := 0) (j := 0) (cs := [Value.int .u8 0, Value.int .u8 0, Value.int .u32 0, Value.slice none 0 0]) (vs := [Value.int .u8 0, Value.int .u8 0, Value.int .u32 0, Value.slice none 0 0]) (by kernel_rfl) Try.isAgg65 Try.sizeOf65 rfl rfl rfl rfl) (RV.tmp (v := Value.int .i64 (bnd xs.length 8)) (by kernel_rfl)) hS_ ⟨FS.nul, (by rw [hD]; exact FS.nul_ok 1), congrArg Ending.returned ((by simp only [mT, mN, hG, cond_false, hR, hD]; rfl)), (Mem.cast (by rw [hD]; rfl) (Mem.push (hS_.pick [] (by decide) rfl)))⟩)
  · have qh9 := h9; try simp only [Bool.and_eq_true, Bool.or_eq_true, Bool.not_eq_true', Bool.not_eq_false', Bool.and_eq_false_iff, Bool.or_eq_false_iff, decide_eq_true_eq, decide_eq_false_iff_not, beq_iff_eq, bne_iff_ne, beq_eq_false_iff_ne, bne_eq_false_iff_eq] at qh9
    refine W.skip' ?_
    refine hK3 _ _ _ ?_
    refine W.prune' [0, 2] [Value.slice a xs.length cap, Value.pointer (some ⟨p2, 0, none⟩)] (by kernel_rfl) (fun f12 => ?_)
    refine W.seq (fun K13 hK13 => ?_)
    refine W.seq (fun K14 hK14 => ?_)
    have hb_ := bnd_ok h9
    refine W.region ?_
    refine Wl.run 1 (by kernel_rfl) ?_
    refine Wl.ht rfl (Ht.made (mk := fun b_ => .slice (some ⟨b_, 0, none⟩) 1 1) (t := 25) (cs := [Value.slice a xs.length cap]) rfl (fun _ => by kernel_rfl)) (fun p13 => ?_)
    refine Wl.yc (v := Value.bool (((cks xs : Nat) : Int) == 0)) rfl rfl (Yc.call (k := 47) (args := #[Value.slice (some ⟨p13, 0, none⟩) 1 1]) (fun _ => by kernel_rfl) (fun w_ hm_ => (rightn_c [⟨a, xs, cap⟩] (xs) (some ⟨p13, 0, none⟩) 1 1 ((xs).length) _ rfl (by simp [jn]) rfl (by first | exact At.lit0 (i := 0) (j := 0) (t := 25) (b := p13) hm_ rfl rfl | (rw [show mc slv ([⟨a, xs, cap⟩] : List SV) = [Value.slice a xs.length cap] by (simp [mc, be_len, psh_len]; try omega)]; exact At.lit0 (i := 0) (j := 0) (t := 25) (b := p13) hm_ rfl rfl)) (List.forall_mem_cons.2 ⟨(hat.mem0 hm_), (fun _ h => by cases h)⟩) (by first | omega | (simp [be_len, psh_len]; omega)) (by simp) (by simp)))) ?_
    refine Wl.run 1 (by kernel_rfl) ?_
    refine Wl.nil ?_
    refine hK14 _ _ _ ?_
    refine W.pick (LL' := [[cb p2 [Value.int .u8 0, Value.int .u8 0, Value.int .u32 0, Value.slice none 0 0] 65]]) [1] (by decide) rfl ?_
    refine W.prune' [0, 2, 15] [Value.slice a xs.length cap, Value.pointer (some ⟨p2, 0, none⟩), Value.bool (!(((cks xs : Nat) : Int) == 0))] (by kernel_rfl) (fun f15 => ?_)
    refine W.cond (!(((cks xs : Nat) : Int) == 0)) (by kernel_rfl) (fun h16 => ?_) (fun h17 => ?_)
    · have qh16 := h16; try simp only [Bool.and_eq_true, Bool.or_eq_true, Bool.not_eq_true', Bool.not_eq_false', Bool.and_eq_false_iff, Bool.or_eq_false_iff, decide_eq_true_eq, decide_eq_false_iff_not, beq_iff_eq, bne_iff_ne, beq_eq_false_iff_ne, bne_eq_false_iff_eq] at qh16
      refine W.seq (fun K18 hK18 => ?_)
      refine W.region ?_
      refine Wl.ys (v := Value.agg ([Value.int .u8 0, Value.int .u8 0, Value.int .u32 0, Value.slice none 0 0]).toArray) rfl rfl (Ys.loadN (b := p2) (o' := 0) (i := 0) (j := 0) (cs := [Value.int .u8 0, Value.int .u8 0, Value.int .u32 0, Value.slice none 0 0]) (vs := [Value.int .u8 0, Value.int .u8 0, Value.int .u32 0, Value.slice none 0 0]) rfl (by kernel_rfl) Try.isAgg65 Try.sizeOf65 rfl rfl rfl rfl) ?_
      refine Wl.ht rfl (Ht.storeN (b := p2) (o' := 0) (i := 0) (j := 0) (cs := [Value.int .u8 0, Value.int .u8 0, Value.int .u32 0, Value.slice none 0 0]) (vs := [Value.int .u8 0, Value.int .u8 0, Value.int .u32 0, Value.slice none 0 0]) (cs' := [Value.int .u8 0, Value.int .u8 0, Value.int .u32 0, Value.slice none 0 0]) (LL' := [[cb p2 [Value.int .u8 0, Value.int .u8 0, Value.int .u32 0, Value.slice none 0 0] 65]]) rfl rfl (by kernel_rfl) (by kernel_rfl) Try.sizeOf65 (by simp [Value.oneCell']) rfl rfl (by simp) rfl rfl) (fun _ => ?_)
      refine Wl.run 1 (by kernel_rfl) ?_
      refine Wl.nil ?_
      refine hK18 _ _ _ ?_
      refine W.prune' [2, 3] [Value.pointer (some ⟨p2, 0, none⟩), Value.int .i64 12] (by kernel_rfl) (fun f19 => ?_)
      refine W.ret ?_
      have he4_ : True := by trivial
      have hz_ : ¬ (cks xs = 0) := by have z_ := h16; simp at z_; omega
      have hR : mR xs = 12 := by unfold mR; rw [if_neg (by omega), if_neg (by omega), if_pos (by omega)]
      have hG : mg xs = false := by unfold mg; rw [hR]; rfl
      have hD : mD xs = [] := by unfold mD; rw [hG]; rfl
      show ∀ w_, _ → bodyPostM (fence none) 0 Try.prog Try.f36 _ Exit.ret _ w_
      exact fun w_ hS_ => fin_ret (ret2 rfl (RV.cellN (b := p2) (o' := 0) (i := 0) (j := 0) (cs := [Value.int .u8 0, Value.int .u8 0, Value.int .u32 0, Value.slice none 0 0]) (vs := [Value.int .u8 0, Value.int .u8 0, Value.int .u32 0, Value.slice none 0 0]) (by kernel_rfl) Try.isAgg65 Try.sizeOf65 rfl rfl rfl rfl) (RV.tmp (v := Value.int .i64 12) (by kernel_rfl)) hS_ ⟨FS.nul, (by rw [hD]; exact FS.nul_ok 1), congrArg Ending.returned ((by simp only [mT, mN, hG, cond_false, hR, hD]; rfl)), (Mem.cast (by rw [hD]; rfl) (Mem.push (hS_.pick [] (by decide) rfl)))⟩)
    · have qh17 := h17; try simp only [Bool.and_eq_true, Bool.or_eq_true, Bool.not_eq_true', Bool.not_eq_false', Bool.and_eq_false_iff, Bool.or_eq_false_iff, decide_eq_true_eq, decide_eq_false_iff_not, beq_iff_eq, bne_iff_ne, beq_eq_false_iff_ne, bne_eq_false_iff_eq] at qh17
      refine W.skip' ?_
      refine hK13 _ _ _ ?_
      refine W.prune' [0, 2] [Value.slice a xs.length cap, Value.pointer (some ⟨p2, 0, none⟩)] (by kernel_rfl) (fun f20 => ?_)
      refine W.seq (fun K21 hK21 => ?_)
      refine W.region ?_
      refine Wl.run 1 (by kernel_rfl) ?_
      refine Wl.ht rfl (Ht.call (β := NE) (k := 45) (args := #[Value.slice a xs.length cap]) (Lin := []) (Lk := [[cb p2 [Value.int .u8 0, Value.int .u8 0, Value.int .u32 0, Value.slice none 0 0] 65]]) (Mi := []) (Lo := fun ne22 => [[cb ne22.b [Value.slice ne22.g.a xs.length ne22.g.cap, Value.bool false] 126], ne22.g.seg 5 (mc b8 xs), [cb p2 [Value.int .u8 0, Value.int .u8 0, Value.int .u32 0, Value.slice none 0 0] 65]]) [] [0] rfl (fun _ => by kernel_rfl) (by decide) rfl rfl rfl (fun w_ hm_ hl_ => (neweyen_c xs a xs.length cap _ rfl (hat.mem0 hm_) (by first | omega | (simp; omega)))) (fun _ => rfl)) (fun x25 => ?_)
      obtain ⟨ne22, ok23⟩ := x25
      refine Wl.castL (LL' := [[cb ne22.b [Value.slice ne22.g.a xs.length ne22.g.cap, Value.bool false] 126], ne22.g.seg 5 (mc b8 xs), [cb p2 [Value.int .u8 0, Value.int .u8 0, Value.int .u32 0, Value.slice none 0 0] 65]]) rfl ?_
      refine Wl.run 1 (by kernel_rfl) ?_
      refine Wl.nil ?_
      refine hK21 _ _ _ ?_
      refine W.prune' [2, 5] [Value.pointer (some ⟨p2, 0, none⟩), Value.pointer (some ⟨ne22.b, 0, none⟩)] (by kernel_rfl) (fun f26 => ?_)
      refine W.seq (fun K27 hK27 => ?_)
      refine W.region ?_
      refine Wl.run 1 (by kernel_rfl) ?_
      refine Wl.ht rfl (Ht.call (β := EV) (k := 46) (args := #[Value.pointer (some ⟨ne22.b, 0, none⟩), Value.int .i64 1]) (Lin := [[cb ne22.b [Value.slice ne22.g.a xs.length ne22.g.cap, Value.bool false] 126]]) (Lk := [ne22.g.seg 5 (mc b8 xs), [cb p2 [Value.int .u8 0, Value.int .u8 0, Value.int .u32 0, Value.slice none 0 0] 65]]) (Mi := [ne22.b]) (Lo := fun ev28 => [[cb ne22.b [Value.slice ev28.a (xs.length - 1) ev28.cap, Value.bool false] 126], ne22.g.seg 5 (mc b8 xs), [cb p2 [Value.int .u8 0, Value.int .u8 0, Value.int .u32 0, Value.slice none 0 0] 65]]) [0] [1, 2] rfl (fun _ => by kernel_rfl) (by decide) rfl rfl rfl (fun w_ hm_ hl_ => (numk1_c xs ne22.g.a xs.length ne22.g.cap false ne22.b 0 1 _ hl_ (by rw [List.drop_zero]; exact (FS.at (i := 1) (t := 5) hm_ rfl (FS.nil_cs ok23 (mc_len1 _)))) (by first | rfl | omega) (by omega) (ok23.le) (by omega) (by decide))) (fun _ => rfl)) (fun x33 => ?_)
      obtain ⟨ev28, hv30, hc31⟩ := x33
      refine Wl.castL (LL' := [[cb ne22.b [Value.slice ev28.a (xs.length - 1) ev28.cap, Value.bool false] 126], ne22.g.seg 5 (mc b8 xs), [cb p2 [Value.int .u8 0, Value.int .u8 0, Value.int .u32 0, Value.slice none 0 0] 65]]) rfl ?_
      refine Wl.ys (v := nV .u8 ((UInt8.ofNat ((xs.getD 0 0).toNat)).toNat)) rfl rfl ((Ys.pure (v := .int .u8 (icnv .u8 (((xs.getD 0 0).toNat : Nat) : Int))) (fun _ => by kernel_rfl)).conseq (int_congr (u8_wrapN _))) ?_
      refine Wl.run 1 (by kernel_rfl) ?_
      refine Wl.ht rfl (Ht.call (β := EV) (k := 46) (args := #[Value.pointer (some ⟨ne22.b, 0, none⟩), Value.int .i64 1]) (Lin := [[cb ne22.b [Value.slice ev28.a (xs.length - 1) ev28.cap, Value.bool false] 126]]) (Lk := [ne22.g.seg 5 (mc b8 xs), [cb p2 [Value.int .u8 0, Value.int .u8 0, Value.int .u32 0, Value.slice none 0 0] 65]]) (Mi := [ne22.b]) (Lo := fun ev34 => [[cb ne22.b [Value.slice ev34.a (xs.length - 2) ev34.cap, Value.bool false] 126], ne22.g.seg 5 (mc b8 xs), [cb p2 [Value.int .u8 0, Value.int .u8 0, Value.int .u32 0, Value.slice none 0 0] 65]]) [0] [1, 2] rfl (fun _ => by kernel_rfl) (by decide) rfl rfl rfl (fun w_ hm_ hl_ => (numk1_c xs ev28.a (xs.length - 1) ev28.cap false ne22.b 1 1 _ hl_ (hv30 _ (by rw [List.drop_zero]; exact (FS.at (i := 1) (t := 5) hm_ rfl (FS.nil_cs ok23 (mc_len1 _))))) (by first | rfl | omega) (by omega) (by omega) (by omega) (by decide))) (fun _ => rfl)) (fun x39 => ?_)
      obtain ⟨ev34, hv36, hc37⟩ := x39
      refine Wl.castL (LL' := [[cb ne22.b [Value.slice ev34.a (xs.length - 2) ev34.cap, Value.bool false] 126], ne22.g.seg 5 (mc b8 xs), [cb p2 [Value.int .u8 0, Value.int .u8 0, Value.int .u32 0, Value.slice none 0 0] 65]]) rfl ?_
      refine Wl.ys (v := nV .u8 ((UInt8.ofNat ((xs.getD 1 0).toNat)).toNat)) rfl rfl ((Ys.pure (v := .int .u8 (icnv .u8 (((xs.getD 1 0).toNat : Nat) : Int))) (fun _ => by kernel_rfl)).conseq (int_congr (u8_wrapN _))) ?_
      refine Wl.run 1 (by kernel_rfl) ?_
      refine Wl.ht rfl (Ht.store (b := p2) (o' := 0) (i := 2) (j := 0) (cs := [Value.int .u8 0, Value.int .u8 0, Value.int .u32 0, Value.slice none 0 0]) (cs' := [nV .u8 ((UInt8.ofNat ((xs.getD 0 0).toNat)).toNat), Value.int .u8 0, Value.int .u32 0, Value.slice none 0 0]) (v := nV .u8 ((UInt8.ofNat ((xs.getD 0 0).toNat)).toNat)) (LL' := [[cb ne22.b [Value.slice ev34.a (xs.length - 2) ev34.cap, Value.bool false] 126], ne22.g.seg 5 (mc b8 xs), [cb p2 [nV .u8 ((UInt8.ofNat ((xs.getD 0 0).toNat)).toNat), Value.int .u8 0, Value.int .u32 0, Value.slice none 0 0] 65]]) rfl rfl (by kernel_rfl) (by kernel_rfl) Try.sizeOf5 rfl rfl rfl (by simp) rfl rfl) (fun _ => ?_)
      refine Wl.run 1 (by kernel_rfl) ?_
      refine Wl.ht rfl (Ht.store (b := p2) (o' := 1) (i := 2) (j := 0) (cs := [nV .u8 ((UInt8.ofNat ((xs.getD 0 0).toNat)).toNat), Value.int .u8 0, Value.int .u32 0, Value.slice none 0 0]) (cs' := [nV .u8 ((UInt8.ofNat ((xs.getD 0 0).toNat)).toNat), nV .u8 ((UInt8.ofNat ((xs.getD 1 0).toNat)).toNat), Value.int .u32 0, Value.slice none 0 0]) (v := nV .u8 ((UInt8.ofNat ((xs.getD 1 0).toNat)).toNat)) (LL' := [[cb ne22.b [Value.slice ev34.a (xs.length - 2) ev34.cap, Value.bool false] 126], ne22.g.seg 5 (mc b8 xs), [cb p2 [nV .u8 ((UInt8.ofNat ((xs.getD 0 0).toNat)).toNat), nV .u8 ((UInt8.ofNat ((xs.getD 1 0).toNat)).toNat), Value.int .u32 0, Value.slice none 0 0] 65]]) rfl rfl (by kernel_rfl) (by kernel_rfl) Try.sizeOf5 rfl rfl rfl (by simp) rfl rfl) (fun _ => ?_)
      refine Wl.nil ?_
      refine hK27 _ _ _ ?_
      refine W.prune' [2, 5] [Value.pointer (some ⟨p2, 0, none⟩), Value.pointer (some ⟨ne22.b, 0, none⟩)] (by kernel_rfl) (fun f40 => ?_)
      refine W.seq (fun K41 hK41 => ?_)
      refine W.region ?_
      refine Wl.run 1 (by kernel_rfl) ?_
      refine Wl.ht rfl (Ht.call (β := EV) (k := 46) (args := #[Value.pointer (some ⟨ne22.b, 0, none⟩), Value.int .i64 2]) (Lin := [[cb ne22.b [Value.slice ev34.a (xs.length - 2) ev34.cap, Value.bool false] 126]]) (Lk := [ne22.g.seg 5 (mc b8 xs), [cb p2 [nV .u8 ((UInt8.ofNat ((xs.getD 0 0).toNat)).toNat), nV .u8 ((UInt8.ofNat ((xs.getD 1 0).toNat)).toNat), Value.int .u32 0, Value.slice none 0 0] 65]]) (Mi := [ne22.b]) (Lo := fun ev42 => [[cb ne22.b [Value.slice ev42.a (xs.length - 4) ev42.cap, Value.bool false] 126], ne22.g.seg 5 (mc b8 xs), [cb p2 [nV .u8 ((UInt8.ofNat ((xs.getD 0 0).toNat)).toNat), nV .u8 ((UInt8.ofNat ((xs.getD 1 0).toNat)).toNat), Value.int .u32 0, Value.slice none 0 0] 65]]) [0] [1, 2] rfl (fun _ => by kernel_rfl) (by decide) rfl rfl rfl (fun w_ hm_ hl_ => (numk2_c xs ev34.a (xs.length - 2) ev34.cap false ne22.b 2 2 _ hl_ (hv36 _ (hv30 _ (by rw [List.drop_zero]; exact (FS.at (i := 1) (t := 5) hm_ rfl (FS.nil_cs ok23 (mc_len1 _)))))) (by first | rfl | omega) (by omega) (by omega) (by omega) (by decide))) (fun _ => rfl)) (fun x47 => ?_)
      obtain ⟨ev42, hv44, hc45⟩ := x47
      refine Wl.castL (LL' := [[cb ne22.b [Value.slice ev42.a (xs.length - 4) ev42.cap, Value.bool false] 126], ne22.g.seg 5 (mc b8 xs), [cb p2 [nV .u8 ((UInt8.ofNat ((xs.getD 0 0).toNat)).toNat), nV .u8 ((UInt8.ofNat ((xs.getD 1 0).toNat)).toNat), Value.int .u32 0, Value.slice none 0 0] 65]]) rfl ?_
      refine Wl.nil ?_
      refine hK41 _ _ _ ?_
      refine W.prune' [2, 5] [Value.pointer (some ⟨p2, 0, none⟩), Value.pointer (some ⟨ne22.b, 0, none⟩)] (by kernel_rfl) (fun f48 => ?_)
      refine W.seq (fun K49 hK49 => ?_)
      refine W.region ?_
      refine Wl.run 1 (by kernel_rfl) ?_
      refine Wl.ht rfl (Ht.call (β := EV) (k := 46) (args := #[Value.pointer (some ⟨ne22.b, 0, none⟩), Value.int .i64 4]) (Lin := [[cb ne22.b [Value.slice ev42.a (xs.length - 4) ev42.cap, Value.bool false] 126]]) (Lk := [ne22.g.seg 5 (mc b8 xs), [cb p2 [nV .u8 ((UInt8.ofNat ((xs.getD 0 0).toNat)).toNat), nV .u8 ((UInt8.ofNat ((xs.getD 1 0).toNat)).toNat), Value.int .u32 0, Value.slice none 0 0] 65]]) (Mi := [ne22.b]) (Lo := fun ev50 => [[cb ne22.b [Value.slice ev50.a (xs.length - 8) ev50.cap, Value.bool false] 126], ne22.g.seg 5 (mc b8 xs), [cb p2 [nV .u8 ((UInt8.ofNat ((xs.getD 0 0).toNat)).toNat), nV .u8 ((UInt8.ofNat ((xs.getD 1 0).toNat)).toNat), Value.int .u32 0, Value.slice none 0 0] 65]]) [0] [1, 2] rfl (fun _ => by kernel_rfl) (by decide) rfl rfl rfl (fun w_ hm_ hl_ => (numk_c xs ev42.a (xs.length - 4) ev42.cap false ne22.b 4 4 _ hl_ (hv44 _ (hv36 _ (hv30 _ (by rw [List.drop_zero]; exact (FS.at (i := 1) (t := 5) hm_ rfl (FS.nil_cs ok23 (mc_len1 _))))))) (by first | rfl | omega) (by omega) (by omega) (by omega) (by decide))) (fun _ => rfl)) (fun x55 => ?_)
      obtain ⟨ev50, hv52, hc53⟩ := x55
      refine Wl.castL (LL' := [[cb ne22.b [Value.slice ev50.a (xs.length - 8) ev50.cap, Value.bool false] 126], ne22.g.seg 5 (mc b8 xs), [cb p2 [nV .u8 ((UInt8.ofNat ((xs.getD 0 0).toNat)).toNat), nV .u8 ((UInt8.ofNat ((xs.getD 1 0).toNat)).toNat), Value.int .u32 0, Value.slice none 0 0] 65]]) rfl ?_
      refine Wl.ys (v := nV .u32 ((bv ((xs.drop 4).take 4)) % 4294967296)) rfl rfl ((Ys.pure (v := .int .u32 (icnv .u32 ((bv ((xs.drop 4).take 4) : Nat) : Int))) (fun _ => by kernel_rfl)).conseq (int_congr (icnv_mod rfl _))) ?_
      refine Wl.run 1 (by kernel_rfl) ?_
      refine Wl.ht rfl (Ht.store (b := p2) (o' := 2) (i := 2) (j := 0) (cs := [nV .u8 ((UInt8.ofNat ((xs.getD 0 0).toNat)).toNat), nV .u8 ((UInt8.ofNat ((xs.getD 1 0).toNat)).toNat), Value.int .u32 0, Value.slice none 0 0]) (cs' := [nV .u8 ((UInt8.ofNat ((xs.getD 0 0).toNat)).toNat), nV .u8 ((UInt8.ofNat ((xs.getD 1 0).toNat)).toNat), nV .u32 ((bv ((xs.drop 4).take 4)) % 4294967296), Value.slice none 0 0]) (v := nV .u32 ((bv ((xs.drop 4).take 4)) % 4294967296)) (LL' := [[cb ne22.b [Value.slice ev50.a (xs.length - 8) ev50.cap, Value.bool false] 126], ne22.g.seg 5 (mc b8 xs), [cb p2 [nV .u8 ((UInt8.ofNat ((xs.getD 0 0).toNat)).toNat), nV .u8 ((UInt8.ofNat ((xs.getD 1 0).toNat)).toNat), nV .u32 ((bv ((xs.drop 4).take 4)) % 4294967296), Value.slice none 0 0] 65]]) rfl rfl (by kernel_rfl) (by kernel_rfl) Try.sizeOf23 rfl rfl rfl (by simp) rfl rfl) (fun _ => ?_)
      refine Wl.nil ?_
      refine hK49 _ _ _ ?_
      refine W.prune' [2, 5] [Value.pointer (some ⟨p2, 0, none⟩), Value.pointer (some ⟨ne22.b, 0, none⟩)] (by kernel_rfl) (fun f56 => ?_)
      refine W.seq (fun K57 hK57 => ?_)
      refine W.region ?_
      refine Wl.run 2 (by kernel_rfl) ?_
      refine Wl.yc (v := nV .i64 (xs.length - 8)) rfl rfl (Yc.call (k := 50) (args := #[Value.pointer (some ⟨ne22.b, 0, none⟩)]) (fun _ => by kernel_rfl) (fun w_ hm_ => (leftn_c (xs.drop 8) ev50.a (xs.length - 8) ev50.cap false ne22.b _ (by first | rfl | (rw [List.length_take]; omega) | (rw [List.length_take, List.length_drop]; omega) | (simp [be_len, psh_len]; done) | (simp [be_len, psh_len]; omega)) (hm_.one (i := 0) rfl) (hv52 _ (hv44 _ (hv36 _ (hv30 _ (by rw [List.drop_zero]; exact (FS.at (i := 1) (t := 5) hm_ rfl (FS.nil_cs ok23 (mc_len1 _))))))))))) ?_
      refine Wl.ht rfl (Ht.call (β := EG) (k := 49) (args := #[Value.pointer (some ⟨ne22.b, 0, none⟩), nV .i64 (xs.length - 8)]) (Lin := [[cb ne22.b [Value.slice ev50.a (xs.length - 8) ev50.cap, Value.bool false] 126]]) (Lk := [ne22.g.seg 5 (mc b8 xs), [cb p2 [nV .u8 ((UInt8.ofNat ((xs.getD 0 0).toNat)).toNat), nV .u8 ((UInt8.ofNat ((xs.getD 1 0).toNat)).toNat), nV .u32 ((bv ((xs.drop 4).take 4)) % 4294967296), Value.slice none 0 0] 65]]) (Mi := [ne22.b]) (Lo := fun eg58 => [[cb ne22.b [Value.slice eg58.a ((eRest (xs.drop 8) ((xs.length - 8 : Nat) : Int)).length) eg58.cap, Value.bool (eBad (xs.drop 8) false ((xs.length - 8 : Nat) : Int))] 126], eg58.g.seg 5 (mc b8 (eOut (xs.drop 8) ((xs.length - 8 : Nat) : Int))), ne22.g.seg 5 (mc b8 xs), [cb p2 [nV .u8 ((UInt8.ofNat ((xs.getD 0 0).toNat)).toNat), nV .u8 ((UInt8.ofNat ((xs.getD 1 0).toNat)).toNat), nV .u32 ((bv ((xs.drop 4).take 4)) % 4294967296), Value.slice none 0 0] 65]]) [0] [1, 2] rfl (fun _ => by kernel_rfl) (by decide) rfl rfl rfl (fun w_ hm_ hl_ => (bytesn_c (xs.drop 8) ev50.a (xs.length - 8) ev50.cap false ne22.b ((xs.length - 8 : Nat) : Int) _ (by first | rfl | (rw [List.length_take]; omega) | (rw [List.length_take, List.length_drop]; omega) | (simp [be_len, psh_len]; done) | (simp [be_len, psh_len]; omega)) hl_ (hv52 _ (hv44 _ (hv36 _ (hv30 _ (by rw [List.drop_zero]; exact (FS.at (i := 1) (t := 5) hm_ rfl (FS.nil_cs ok23 (mc_len1 _)))))))) (by first | omega | (simp; omega)) (by first | omega | (simp; omega)))) (fun _ => rfl)) (fun x63 => ?_)
      obtain ⟨eg58, ok59, hv60, hc61⟩ := x63
      refine Wl.castL (LL' := [[cb ne22.b [Value.slice eg58.a ((eRest (xs.drop 8) ((xs.length - 8 : Nat) : Int)).length) eg58.cap, Value.bool (eBad (xs.drop 8) false ((xs.length - 8 : Nat) : Int))] 126], eg58.g.seg 5 (mc b8 (eOut (xs.drop 8) ((xs.length - 8 : Nat) : Int))), ne22.g.seg 5 (mc b8 xs), [cb p2 [nV .u8 ((UInt8.ofNat ((xs.getD 0 0).toNat)).toNat), nV .u8 ((UInt8.ofNat ((xs.getD 1 0).toNat)).toNat), nV .u32 ((bv ((xs.drop 4).take 4)) % 4294967296), Value.slice none 0 0] 65]]) rfl ?_
      refine Wl.run 1 (by kernel_rfl) ?_
      refine Wl.ht rfl (Ht.store (b := p2) (o' := 3) (i := 3) (j := 0) (cs := [nV .u8 ((UInt8.ofNat ((xs.getD 0 0).toNat)).toNat), nV .u8 ((UInt8.ofNat ((xs.getD 1 0).toNat)).toNat), nV .u32 ((bv ((xs.drop 4).take 4)) % 4294967296), Value.slice none 0 0]) (cs' := [nV .u8 ((UInt8.ofNat ((xs.getD 0 0).toNat)).toNat), nV .u8 ((UInt8.ofNat ((xs.getD 1 0).toNat)).toNat), nV .u32 ((bv ((xs.drop 4).take 4)) % 4294967296), Value.slice eg58.g.a ((eOut (xs.drop 8) ((xs.length - 8 : Nat) : Int)).length) eg58.g.cap]) (v := Value.slice eg58.g.a ((eOut (xs.drop 8) ((xs.length - 8 : Nat) : Int)).length) eg58.g.cap) (LL' := [[cb ne22.b [Value.slice eg58.a ((eRest (xs.drop 8) ((xs.length - 8 : Nat) : Int)).length) eg58.cap, Value.bool (eBad (xs.drop 8) false ((xs.length - 8 : Nat) : Int))] 126], eg58.g.seg 5 (mc b8 (eOut (xs.drop 8) ((xs.length - 8 : Nat) : Int))), ne22.g.seg 5 (mc b8 xs), [cb p2 [nV .u8 ((UInt8.ofNat ((xs.getD 0 0).toNat)).toNat), nV .u8 ((UInt8.ofNat ((xs.getD 1 0).toNat)).toNat), nV .u32 ((bv ((xs.drop 4).take 4)) % 4294967296), Value.slice eg58.g.a ((eOut (xs.drop 8) ((xs.length - 8 : Nat) : Int)).length) eg58.g.cap] 65]]) rfl rfl (by kernel_rfl) (by kernel_rfl) Try.sizeOf25 rfl rfl rfl (by simp) rfl rfl) (fun _ => ?_)
      refine Wl.nil ?_
      refine hK57 _ _ _ ?_
      refine W.pick (LL' := [eg58.g.seg 5 (mc b8 (eOut (xs.drop 8) ((xs.length - 8 : Nat) : Int))), [cb p2 [nV .u8 ((UInt8.ofNat ((xs.getD 0 0).toNat)).toNat), nV .u8 ((UInt8.ofNat ((xs.getD 1 0).toNat)).toNat), nV .u32 ((bv ((xs.drop 4).take 4)) % 4294967296), Value.slice eg58.g.a ((eOut (xs.drop 8) ((xs.length - 8 : Nat) : Int)).length) eg58.g.cap] 65]]) [1, 3] (by decide) rfl ?_
      refine W.prune' [2] [Value.pointer (some ⟨p2, 0, none⟩)] (by kernel_rfl) (fun f64 => ?_)
      refine W.seq (fun K65 hK65 => ?_)
      refine W.region ?_
      refine Wl.ys (v := Value.agg ([nV .u8 ((UInt8.ofNat ((xs.getD 0 0).toNat)).toNat), nV .u8 ((UInt8.ofNat ((xs.getD 1 0).toNat)).toNat), nV .u32 ((bv ((xs.drop 4).take 4)) % 4294967296), Value.slice eg58.g.a ((eOut (xs.drop 8) ((xs.length - 8 : Nat) : Int)).length) eg58.g.cap]).toArray) rfl rfl (Ys.loadN (b := p2) (o' := 0) (i := 1) (j := 0) (cs := [nV .u8 ((UInt8.ofNat ((xs.getD 0 0).toNat)).toNat), nV .u8 ((UInt8.ofNat ((xs.getD 1 0).toNat)).toNat), nV .u32 ((bv ((xs.drop 4).take 4)) % 4294967296), Value.slice eg58.g.a ((eOut (xs.drop 8) ((xs.length - 8 : Nat) : Int)).length) eg58.g.cap]) (vs := [nV .u8 ((UInt8.ofNat ((xs.getD 0 0).toNat)).toNat), nV .u8 ((UInt8.ofNat ((xs.getD 1 0).toNat)).toNat), nV .u32 ((bv ((xs.drop 4).take 4)) % 4294967296), Value.slice eg58.g.a ((eOut (xs.drop 8) ((xs.length - 8 : Nat) : Int)).length) eg58.g.cap]) rfl (by kernel_rfl) Try.isAgg65 Try.sizeOf65 rfl rfl rfl rfl) ?_
      refine Wl.ht rfl (Ht.storeN (b := p2) (o' := 0) (i := 1) (j := 0) (cs := [nV .u8 ((UInt8.ofNat ((xs.getD 0 0).toNat)).toNat), nV .u8 ((UInt8.ofNat ((xs.getD 1 0).toNat)).toNat), nV .u32 ((bv ((xs.drop 4).take 4)) % 4294967296), Value.slice eg58.g.a ((eOut (xs.drop 8) ((xs.length - 8 : Nat) : Int)).length) eg58.g.cap]) (vs := [nV .u8 ((UInt8.ofNat ((xs.getD 0 0).toNat)).toNat), nV .u8 ((UInt8.ofNat ((xs.getD 1 0).toNat)).toNat), nV .u32 ((bv ((xs.drop 4).take 4)) % 4294967296), Value.slice eg58.g.a ((eOut (xs.drop 8) ((xs.length - 8 : Nat) : Int)).length) eg58.g.cap]) (cs' := [nV .u8 ((UInt8.ofNat ((xs.getD 0 0).toNat)).toNat), nV .u8 ((UInt8.ofNat ((xs.getD 1 0).toNat)).toNat), nV .u32 ((bv ((xs.drop 4).take 4)) % 4294967296), Value.slice eg58.g.a ((eOut (xs.drop 8) ((xs.length - 8 : Nat) : Int)).length) eg58.g.cap]) (LL' := [eg58.g.seg 5 (mc b8 (eOut (xs.drop 8) ((xs.length - 8 : Nat) : Int))), [cb p2 [nV .u8 ((UInt8.ofNat ((xs.getD 0 0).toNat)).toNat), nV .u8 ((UInt8.ofNat ((xs.getD 1 0).toNat)).toNat), nV .u32 ((bv ((xs.drop 4).take 4)) % 4294967296), Value.slice eg58.g.a ((eOut (xs.drop 8) ((xs.length - 8 : Nat) : Int)).length) eg58.g.cap] 65]]) rfl rfl (by kernel_rfl) (by kernel_rfl) Try.sizeOf65 (by simp [Value.oneCell']) rfl rfl (by simp) rfl rfl) (fun _ => ?_)
      refine Wl.run 1 (by kernel_rfl) ?_
      refine Wl.nil ?_
      refine hK65 _ _ _ ?_
      refine W.prune' [2, 3] [Value.pointer (some ⟨p2, 0, none⟩), Value.int .i64 0] (by kernel_rfl) (fun f66 => ?_)
      refine W.ret ?_
      have he4_ : True := by trivial
      have hz_ : (cks xs = 0) := by have z_ := h17; simp at z_; omega
      have hR : mR xs = 0 := by unfold mR; rw [if_neg (by omega), if_neg (by omega), if_neg (by omega)]
      have hG : mg xs = true := by unfold mg; rw [hR]; rfl
      have hD : mD xs = eOut (xs.drop 8) ((xs.length - 8 : Nat) : Int) := by unfold mD; rw [hG, eOut_k (by omega), List.take_of_length_le (by rw [List.length_drop]; omega)]; rfl
      have hDl : (mD xs).length = (eOut (xs.drop 8) ((xs.length - 8 : Nat) : Int)).length := by rw [hD]; first | done | rfl | (simp; done) | (rw [List.length_drop]; omega)
      show ∀ w_, _ → bodyPostM (fence none) 0 Try.prog Try.f36 _ Exit.ret _ w_
      exact fun w_ hS_ => fin_ret (ret2 rfl (RV.cellN (b := p2) (o' := 0) (i := 1) (j := 0) (cs := [nV .u8 ((UInt8.ofNat ((xs.getD 0 0).toNat)).toNat), nV .u8 ((UInt8.ofNat ((xs.getD 1 0).toNat)).toNat), nV .u32 ((bv ((xs.drop 4).take 4)) % 4294967296), Value.slice eg58.g.a ((eOut (xs.drop 8) ((xs.length - 8 : Nat) : Int)).length) eg58.g.cap]) (vs := [nV .u8 ((UInt8.ofNat ((xs.getD 0 0).toNat)).toNat), nV .u8 ((UInt8.ofNat ((xs.getD 1 0).toNat)).toNat), nV .u32 ((bv ((xs.drop 4).take 4)) % 4294967296), Value.slice eg58.g.a ((eOut (xs.drop 8) ((xs.length - 8 : Nat) : Int)).length) eg58.g.cap]) (by kernel_rfl) Try.isAgg65 Try.sizeOf65 rfl rfl rfl rfl) (RV.tmp (v := Value.int .i64 0) (by kernel_rfl)) hS_ ⟨eg58.g, (by rw [hDl]; exact ok59), congrArg Ending.returned ((by rw [hDl]; simp only [mT, mN, hG, cond_true, hR, byte_back, he4_, Nat.mod_eq_of_lt (bv4_lt xs _)]; try rfl)), (Mem.cast (by rw [hD]; rfl) (hS_.pick [0] (by decide) rfl))⟩)
end Go.Proofs.Ytejeafjkhomdoaa.Oct
