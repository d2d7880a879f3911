import Derived.Test.YtejeafjkhomdoaaKTr4
set_option linter.unusedVariables false
set_option linter.unusedSimpArgs false
set_option maxRecDepth 20000
namespace Go.Proofs.Ytejeafjkhomdoaa.Oct
open Go.RowKit Base
attribute [local irreducible] Ys Yc Ht HtS HtIn Wl Wd W Mem pf dpf Wa Wo
def mX (ty co : UInt8) (re m : Nat) (xs : List UInt8) : List UInt8 := ty :: co :: UInt8.ofNat (m / 256) :: UInt8.ofNat m :: UInt8.ofNat (re / 256 / 256 / 256) :: UInt8.ofNat (re / 256 / 256) :: UInt8.ofNat (re / 256) :: UInt8.ofNat re :: xs
def mC (ty co : UInt8) (re : Nat) (xs : List UInt8) : Nat := cks ([ty, co, 0, 0] ++ be 4 re ++ xs)
def mB (ty co : UInt8) (re : Nat) (xs : List UInt8) : List UInt8 := if 1472 < xs.length then [] else mX ty co re (mC ty co re xs) xs
theorem sput_mX (ty co : UInt8) (re n : Nat) (xs : List UInt8) : sput ([ty, co, 0, 0] ++ be 4 re ++ xs) 2 n = mX ty co re n xs := rfl
theorem mX_len (ty co : UInt8) (re m : Nat) (xs : List UInt8) : (mX ty co re m xs).length = 8 + xs.length := by unfold mX; simp only [List.length_cons]; omega
theorem mB_len {ty co : UInt8} {re : Nat} {xs : List UInt8} (h : ¬ 1472 < xs.length) : (mB ty co re xs).length = 8 + xs.length := by unfold mB; rw [if_neg h, mX_len]
theorem mB_le (ty co : UInt8) (re : Nat) (xs : List UInt8) : (mB ty co re xs).length ≤ 1480 := by
  by_cases h : 1472 < xs.length
  · unfold mB; rw [if_pos h]; simp
  · rw [mB_len h]; omega
theorem mX_zero (ty co : UInt8) (re : Nat) (xs : List UInt8) : cks (mX ty co re (mC ty co re xs) xs) = 0 := by
  have h : ∀ n, n < 65536 → (pw (mX ty co re n xs)).sum = (pw (mX ty co re 0 xs)).sum + n := by
    intro n hn
    have e : ∀ k, mX ty co re k xs = [ty, co] ++ (be 2 k ++ (be 4 re ++ xs)) := fun k => rfl
    rw [e, e, pw_mid (pre := [ty, co]) ma10 hn, pw_mid (pre := [ty, co]) ma10 ma2]; omega
  have hc : mC ty co re xs = cks (mX ty co re 0 xs) := rfl
  have hl := cks_le (mX ty co re 0 xs)
  have h1 := h (mC ty co re xs) ma1
  rw [hc] at h1 ⊢
  unfold cks at *
  rw [h1]
  unfold fd
  split <;> split <;> omega
abbrev cTr6_1077_0 (a : Option Addr) (cap p1 re : Nat) (co ty : UInt8) (xs : List UInt8) : List Blk := [cb p1 [nV .u8 ty.toNat, nV .u8 co.toNat, nV .u32 re, Value.slice a xs.length cap] 65]
abbrev cTr6_1077_1 (co ty : UInt8) (p14 : Nat) : List Blk := [cb p14 [nV .u8 ty.toNat, nV .u8 co.toNat, iV .u8 0, iV .u8 0] 5]
theorem wicmp_c (ty co : UInt8) (re : Nat) (xs : List UInt8) (a : Option Addr) (cap : Nat) (w : World) (hat : At w a (byc xs)) (hr : re < 4294967296) (hl : xs.length ≤ 100000) (hlc : xs.length ≤ cap) : Calls Try.prog 39 #[aV [nV .u8 ty.toNat, nV .u8 co.toNat, nV .u32 re, Value.slice a xs.length cap]] w (RetM w (fun g : FS => g.ok 1 (mB ty co re xs).length) (fun g => .tuple #[.slice g.a (mB ty co re xs).length g.cap, .int .i64 (uE xs.length)]) [] (fun g => [g.seg 5 (byc (mB ty co re xs))])) := by
 refine calls_W (M := []) (LL := []) (n := 28) Try.func39 rfl rfl ma10 (Mem.refl _) (W.seq (fun K1 hK1 => ?_))
 refine W.region (Wl.ht rfl (Ht.box (v := aV [nV .u8 ty.toNat, nV .u8 co.toNat, nV .u32 re, Value.slice a xs.length cap]) (cs := [nV .u8 ty.toNat, nV .u8 co.toNat, nV .u32 re, Value.slice a xs.length cap]) rfl rfl ma0 rfl) (fun p1 => ?_))
 refine Wl.run 2 ma0 (Wl.nil (hK1 _ _ _ (W.seq (fun K2 hK2 => W.seq (fun K3 hK3 => ?_)))))
 refine W.region (Wl.run 1 ma0 (Wl.ys rfl rfl (Ys.l1 p1 3 0 0 Try.isAgg25) (Wl.run 1 ma0 (Wl.ys (v := nV .i64 (8 + xs.length)) rfl rfl ((Ys.pure (v := .int .i64 (iadd .i64 8 (xs.length : Int))) (fun _ => kr)).conseq (int_congr (iadd_eq ma1 ma1 ma1))) ?_))))
 refine Wl.run 1 ma0 (Wl.nil (hK3 _ _ _ ?_))
 refine W.cond (decide (((8 + xs.length : Nat) : Int) > 1480)) ma0 (fun h4 => ?_) (fun h5 => ?_)
 ·have qh4 := h4; try simp only [zA] at qh4
  refine W.seq (fun K6 hK6 => W.region (Wl.run 2 ma0 (Wl.nil (hK6 _ _ _ ?_))))
  refine W.ret ?_
  have hE : uE xs.length = 14 := by unfold uE; rw [if_pos ma1]
  have hB : mB ty co re xs = [] := by unfold mB; rw [if_pos ma1]
  show ∀ w_, _ → bodyPostM (fence none) 0 Try.prog Try.f39 _ Exit.ret _ w_
  exact fun w_ hS_ => fin_ret (ret2 rfl (RV.tmp (v := Value.slice none 0 0) ma0) (RV.tmp (v := iV .i64 14) ma0) hS_ ⟨FS.nul, (by rw [hB]; exact FS.nul_ok 1), congrArg Ending.returned ((by rw [hB, hE]; rfl)), (Mem.cast (by rw [hB]; rfl) (Mem.push (hS_.pick [] ma2 rfl)))⟩)
 ·have qh5 := h5; try simp only [zA] at qh5
  refine W.skip' (hK2 _ _ _ (W.seq (fun K7 hK7 => ?_)))
  refine W.meet4 (w0 := w) (M := []) K7 [4] (fun (p14 : Nat) (g8 : FS) (p21 : Nat) (g13 : FS) => [sV g13 (4 + 4 + xs.length)]) (fun (p14 : Nat) (g8 : FS) (p21 : Nat) (g13 : FS) => g8.ok 1 4 ∧ g8.nil = false ∧ g13.ok 1 (4 + 4 + xs.length) ∧ (2 ≤ ([⟨some ⟨p14, 0, none⟩, [ty, co, (0 : UInt8), (0 : UInt8)], 4⟩, ⟨g8.a, (be 4 re), g8.cap⟩, ⟨a, xs, cap⟩] : List SV).length → g13.nil = false)) (fun (p14 : Nat) (g8 : FS) (p21 : Nat) (g13 : FS) => [g13.seg 5 (mc b8 ([ty, co, (0 : UInt8), (0 : UInt8)] ++ (be 4 re) ++ xs)), [cb p21 [Value.slice (some ⟨p14, 0, none⟩) 4 4, sV g8 4, Value.slice a xs.length cap] 25], g8.seg 5 (mc b8 (be 4 re)), cTr6_1077_1 co ty p14, cTr6_1077_0 a cap p1 re co ty xs]) (fun J8 hJ8 => ?_) (fun p14 g8 p21 g13 f9 hp10 => ?_)
  ·refine W.drawsA [0, 1, 2, 3, 5, 6, 7, 9, 10, 13] (Mem w [] [cTr6_1077_0 a cap p1 re co ty xs]) ma0 ma0 (fun _ _ h_ => h_.drawn _) (Wa.ys (v := pV p1 0) (i := 0) ma0 ma0 ma0 ma0 (fun _ h_ => h_) rfl rfl rfl (Ys.pure (fun _ => kr)) (Wa.ys (i := 1) ma0 ma0 ma0 ma0 (fun _ h_ => h_) rfl rfl rfl (Ys.l1 p1 0 0 0 Try.isAgg5) (Wa.ys (v := pV p1 1) (i := 2) ma0 ma0 ma0 ma0 (fun _ h_ => h_) rfl rfl rfl (Ys.pure (fun _ => kr)) (Wa.ys (i := 3) ma0 ma0 ma0 ma0 (fun _ h_ => h_) rfl rfl rfl (Ys.l1 p1 1 0 0 Try.isAgg5) ?_))))
   refine Wa.ys (v := pV p1 2) (i := 5) ma0 ma0 ma0 ma0 (fun _ h_ => h_) rfl rfl rfl (Ys.pure (fun _ => kr)) (Wa.ys (i := 6) ma0 ma0 ma0 ma0 (fun _ h_ => h_) rfl rfl rfl (Ys.l1 p1 2 0 0 Try.isAgg23) (Wa.ys (v := nV .u64 re) (i := 7) ma0 ma0 ma0 ma0 (fun _ h_ => h_) rfl rfl rfl ((Ys.pure (v := .int .u64 (icnv .u64 (re : Int))) (fun _ => kr)).conseq (int_congr (wrap_u64 ma1 ma1))) (Wa.ys (v := pV p1 3) (i := 9) ma0 ma0 ma0 ma0 (fun _ h_ => h_) rfl rfl rfl (Ys.pure (fun _ => kr)) (Wa.ys (i := 10) ma0 ma0 ma0 ma0 (fun _ h_ => h_) rfl rfl rfl (Ys.l1 p1 3 0 0 Try.isAgg25) ?_))))
   refine Wa.alt2 (i := 4) (j := 8) ma0 ?_ ?_
   ·refine Wo.ht rfl rfl (Ht.made (mk := fun b_ => .slice (some ⟨b_, 0, none⟩) 4 4) (t := 5) (cs := [nV .u8 ty.toNat, nV .u8 co.toNat, iV .u8 0, iV .u8 0]) rfl (fun _ => kr)) (.inr fun _ _ h_ => h_.pick [1] ma2 rfl) (fun p14 => Wa.only (i := 8) ma0 (Wo.htS rfl rfl (HtS.call (β := FS) (k := 64) (args := #[iV .i64 4, nV .u64 re]) (Lin := []) (Lk := [cTr6_1077_1 co ty p14, cTr6_1077_0 a cap p1 re co ty xs]) (Mi := []) (Lo := fun g11 => [g11.seg 5 (mc b8 (be 4 re)), cTr6_1077_1 co ty p14, cTr6_1077_0 a cap p1 re co ty xs]) [] [0, 1] rfl (fun _ => kr) ma2 rfl rfl rfl (fun w_ hm_ hl_ => num_c 4 re ma1 _) (fun _ => rfl)) (.inr fun _ _ h_ => h_.pick [2] ma2 rfl) (fun g11 hx15 => ?_)))
    obtain ⟨ok12, nn13⟩ := hx15
    refine Wa.only (i := 11) ma0 (Wo.ht rfl rfl (Ht.made (mk := fun b_ => .slice (some ⟨b_, 0, none⟩) 3 3) (t := 25) (cs := [Value.slice (some ⟨p14, 0, none⟩) 4 4, sV g11 4, Value.slice a xs.length cap]) rfl (fun _ => kr)) (.inr fun _ _ h_ => h_.pick [3] ma2 rfl) (fun p21 => ?_))
    refine Wa.only (i := 12) ma0 (Wo.htS rfl rfl (HtS.call (β := FS) (k := 63) (args := #[Value.slice (some ⟨p21, 0, none⟩) 3 3]) (Lin := []) (Lk := [[cb p21 [Value.slice (some ⟨p14, 0, none⟩) 4 4, sV g11 4, Value.slice a xs.length cap] 25], g11.seg 5 (mc b8 (be 4 re)), cTr6_1077_1 co ty p14, cTr6_1077_0 a cap p1 re co ty xs]) (Mi := []) (Lo := fun g16 => [g16.seg 5 (mc b8 ([ty, co, (0 : UInt8), (0 : UInt8)] ++ (be 4 re) ++ xs)), [cb p21 [Value.slice (some ⟨p14, 0, none⟩) 4 4, sV g11 4, Value.slice a xs.length cap] 25], g11.seg 5 (mc b8 (be 4 re)), cTr6_1077_1 co ty p14, cTr6_1077_0 a cap p1 re co ty xs]) [] [0, 1, 2, 3] rfl (fun _ => kr) ma2 rfl rfl rfl (fun w_ hm_ hl_ => (ojoinn_c [⟨some ⟨p14, 0, none⟩, [ty, co, (0 : UInt8), (0 : UInt8)], 4⟩, ⟨g11.a, (be 4 re), g11.cap⟩, ⟨a, xs, cap⟩] ([ty, co, (0 : UInt8), (0 : UInt8)] ++ (be 4 re) ++ xs) (some ⟨p21, 0, none⟩) 3 3 (4 + 4 + xs.length) _ rfl (by simp [jn]) (by simp [be_len, psh_len]; try omega) (by first | exact At.lit0 (i := 0) (j := 0) (t := 25) (b := p21) hm_ rfl rfl | (rw [show mc slv ([⟨some ⟨p14, 0, none⟩, [ty, co, (0 : UInt8), (0 : UInt8)], 4⟩, ⟨g11.a, (be 4 re), g11.cap⟩, ⟨a, xs, cap⟩] : List SV) = [Value.slice (some ⟨p14, 0, none⟩) 4 4, sV g11 4, Value.slice a xs.length cap] by (simp [mc, be_len, psh_len]; try omega)]; exact At.lit0 (i := 0) (j := 0) (t := 25) (b := p21) hm_ rfl rfl)) (List.forall_mem_cons.2 ⟨(At.lit0 (i := 2) (j := 0) (t := 5) (b := p14) hm_ rfl rfl), (List.forall_mem_cons.2 ⟨(FS.at (i := 1) (t := 5) hm_ rfl (FS.nil_cs ok12 ma18)), (List.forall_mem_cons.2 ⟨(hat.mem0 hm_), (fun _ h => by cases h)⟩)⟩)⟩) ma28 ma10 ma10)) (fun _ => rfl)) (.inr fun _ _ h_ => h_.pick [4] ma2 rfl) (fun g16 hx20 => ?_))
    obtain ⟨ok17, nn18⟩ := hx20
    refine Wa.ys (v := sV g16 (4 + 4 + xs.length)) (i := 13) ma0 ma0 ma0 ma0 (fun _ h_ => h_.pick [4] ma2 rfl) rfl rfl rfl (Ys.pure (fun _ => kr)) (Wa.nil ma0 ?_)
    refine fun w_ h_ => hJ8 p14 g11 p21 g16 _ w_ ⟨ok12, nn13, ok17, nn18⟩ ma0 h_
   ·refine Wo.htS rfl rfl (HtS.call (β := FS) (k := 64) (args := #[iV .i64 4, nV .u64 re]) (Lin := []) (Lk := [cTr6_1077_0 a cap p1 re co ty xs]) (Mi := []) (Lo := fun g21 => [g21.seg 5 (mc b8 (be 4 re)), cTr6_1077_0 a cap p1 re co ty xs]) [] [0] rfl (fun _ => kr) ma2 rfl rfl rfl (fun w_ hm_ hl_ => num_c 4 re ma1 _) (fun _ => rfl)) (.inr fun _ _ h_ => h_.pick [1] ma2 rfl) (fun g21 hx25 => ?_)
    obtain ⟨ok22, nn23⟩ := hx25
    refine Wa.only (i := 4) ma0 (Wo.ht rfl rfl (Ht.made (mk := fun b_ => .slice (some ⟨b_, 0, none⟩) 4 4) (t := 5) (cs := [nV .u8 ty.toNat, nV .u8 co.toNat, iV .u8 0, iV .u8 0]) rfl (fun _ => kr)) (.inr fun _ _ h_ => h_.pick [2] ma2 rfl) (fun p14 => ?_))
    refine Wa.only (i := 11) ma0 (Wo.ht rfl rfl (Ht.made (mk := fun b_ => .slice (some ⟨b_, 0, none⟩) 3 3) (t := 25) (cs := [Value.slice (some ⟨p14, 0, none⟩) 4 4, sV g21 4, Value.slice a xs.length cap]) rfl (fun _ => kr)) (.inr fun _ _ h_ => h_.pick [3] ma2 rfl) (fun p21 => ?_))
    refine Wa.only (i := 12) ma0 (Wo.htS rfl rfl (HtS.call (β := FS) (k := 63) (args := #[Value.slice (some ⟨p21, 0, none⟩) 3 3]) (Lin := []) (Lk := [[cb p21 [Value.slice (some ⟨p14, 0, none⟩) 4 4, sV g21 4, Value.slice a xs.length cap] 25], cTr6_1077_1 co ty p14, g21.seg 5 (mc b8 (be 4 re)), cTr6_1077_0 a cap p1 re co ty xs]) (Mi := []) (Lo := fun g26 => [g26.seg 5 (mc b8 ([ty, co, (0 : UInt8), (0 : UInt8)] ++ (be 4 re) ++ xs)), [cb p21 [Value.slice (some ⟨p14, 0, none⟩) 4 4, sV g21 4, Value.slice a xs.length cap] 25], cTr6_1077_1 co ty p14, g21.seg 5 (mc b8 (be 4 re)), cTr6_1077_0 a cap p1 re co ty xs]) [] [0, 1, 2, 3] rfl (fun _ => kr) ma2 rfl rfl rfl (fun w_ hm_ hl_ => (ojoinn_c [⟨some ⟨p14, 0, none⟩, [ty, co, (0 : UInt8), (0 : UInt8)], 4⟩, ⟨g21.a, (be 4 re), g21.cap⟩, ⟨a, xs, cap⟩] ([ty, co, (0 : UInt8), (0 : UInt8)] ++ (be 4 re) ++ xs) (some ⟨p21, 0, none⟩) 3 3 (4 + 4 + xs.length) _ rfl (by simp [jn]) (by simp [be_len, psh_len]; try omega) (by first | exact At.lit0 (i := 0) (j := 0) (t := 25) (b := p21) hm_ rfl rfl | (rw [show mc slv ([⟨some ⟨p14, 0, none⟩, [ty, co, (0 : UInt8), (0 : UInt8)], 4⟩, ⟨g21.a, (be 4 re), g21.cap⟩, ⟨a, xs, cap⟩] : List SV) = [Value.slice (some ⟨p14, 0, none⟩) 4 4, sV g21 4, Value.slice a xs.length cap] by (simp [mc, be_len, psh_len]; try omega)]; exact At.lit0 (i := 0) (j := 0) (t := 25) (b := p21) hm_ rfl rfl)) (List.forall_mem_cons.2 ⟨(At.lit0 (i := 1) (j := 0) (t := 5) (b := p14) hm_ rfl rfl), (List.forall_mem_cons.2 ⟨(FS.at (i := 2) (t := 5) hm_ rfl (FS.nil_cs ok22 ma18)), (List.forall_mem_cons.2 ⟨(hat.mem0 hm_), (fun _ h => by cases h)⟩)⟩)⟩) ma28 ma10 ma10)) (fun _ => rfl)) (.inr fun _ _ h_ => h_.pick [4] ma2 rfl) (fun g26 hx30 => ?_))
    obtain ⟨ok27, nn28⟩ := hx30
    refine Wa.ys (v := sV g26 (4 + 4 + xs.length)) (i := 13) ma0 ma0 ma0 ma0 (fun _ h_ => h_.pick [4] ma2 rfl) rfl rfl rfl (Ys.pure (fun _ => kr)) (Wa.nil ma0 ?_)
    refine fun w_ h_ => hJ8 p14 g21 p21 g26 _ w_ ⟨ok22, nn23, ok27, nn28⟩ ma0 (h_.pick [0, 1, 3, 2, 4] ma2 rfl)
  ·refine hK7 _ _ _ ?_
   obtain ⟨ok9, nn10, ok14, nn15⟩ := hp10
   refine W.seq (fun K31 hK31 => W.region (Wl.run 2 ma0 (Wl.ht rfl (Ht.made (mk := fun b_ => .slice (some ⟨b_, 0, none⟩) 1 1) (t := 25) (cs := [sV g13 (4 + 4 + xs.length)]) rfl (fun _ => kr)) (fun p25 => ?_))))
   have hk32 := cks_le (([ty, co, (0 : UInt8), (0 : UInt8)] ++ (be 4 re) ++ xs))
   refine Wl.yc (v := nV .u16 (cks ([ty, co, (0 : UInt8), (0 : UInt8)] ++ (be 4 re) ++ xs))) rfl rfl (Yc.call (fun _ => kr) (fun w_ hm_ => (sumn_c [⟨g13.a, ([ty, co, (0 : UInt8), (0 : UInt8)] ++ (be 4 re) ++ xs), g13.cap⟩] (([ty, co, (0 : UInt8), (0 : UInt8)] ++ (be 4 re) ++ xs)) (some ⟨p25, 0, none⟩) 1 1 ((4 + 4 + xs.length)) _ rfl (by simp [jn]) (by simp [be_len, psh_len]; try omega) (by first | exact At.lit0 (i := 0) (j := 0) (t := 25) (b := p25) hm_ rfl rfl | (rw [show mc slv ([⟨g13.a, ([ty, co, (0 : UInt8), (0 : UInt8)] ++ (be 4 re) ++ xs), g13.cap⟩] : List SV) = [sV g13 (4 + 4 + xs.length)] by (simp [mc, be_len, psh_len]; try omega)]; exact At.lit0 (i := 0) (j := 0) (t := 25) (b := p25) hm_ rfl rfl)) (List.forall_mem_cons.2 ⟨(FS.at (i := 1) (t := 5) hm_ rfl (FS.nil_cs ok14 ma25)), (fun _ h => by cases h)⟩) ma28 ma10 ma10))) (Wl.htS rfl (HtS.call (β := FS) (k := 65) (args := #[sV g13 (4 + 4 + xs.length), iV .i64 2, nV .u16 (cks ([ty, co, (0 : UInt8), (0 : UInt8)] ++ (be 4 re) ++ xs))]) (Lin := [g13.seg 5 (mc b8 ([ty, co, (0 : UInt8), (0 : UInt8)] ++ (be 4 re) ++ xs))]) (Lk := [[cb p25 [sV g13 (4 + 4 + xs.length)] 25], [cb p21 [Value.slice (some ⟨p14, 0, none⟩) 4 4, sV g8 4, Value.slice a xs.length cap] 25], g8.seg 5 (mc b8 (be 4 re)), cTr6_1077_1 co ty p14, cTr6_1077_0 a cap p1 re co ty xs]) (Lo := fun g33 => [g33.seg 5 (mc b8 (sput ([ty, co, (0 : UInt8), (0 : UInt8)] ++ (be 4 re) ++ xs) 2 (cks ([ty, co, (0 : UInt8), (0 : UInt8)] ++ (be 4 re) ++ xs)))), [cb p25 [sV g13 (4 + 4 + xs.length)] 25], [cb p21 [Value.slice (some ⟨p14, 0, none⟩) 4 4, sV g8 4, Value.slice a xs.length cap] 25], g8.seg 5 (mc b8 (be 4 re)), cTr6_1077_1 co ty p14, cTr6_1077_0 a cap p1 re co ty xs]) [1] [0, 2, 3, 4, 5] rfl (fun _ => kr) ma2 rfl rfl rfl (fun w_ hm_ hl_ => (sealn_seal g13 ([ty, co, (0 : UInt8), (0 : UInt8)] ++ (be 4 re) ++ xs) (4 + 4 + xs.length) 2 (cks ([ty, co, (0 : UInt8), (0 : UInt8)] ++ (be 4 re) ++ xs)) _ _ (by first | rfl | (simp [be_len, be_len, psh_len]; done) | (simp [be_len, be_len, psh_len]; omega)) hl_ ok14 (nn15 ma10) ma24 ma24 ma1)) (fun _ => rfl)) (fun g33 hx37 => ?_))
   obtain ⟨ok34, nn35⟩ := hx37
   refine Wl.run 2 ma0 (Wl.nil (hK31 _ _ _ (W.ret ?_)))
   have hE : uE xs.length = 0 := by unfold uE; rw [if_neg ma1]
   have hB : mB ty co re xs = sput ([ty, co, (0 : UInt8), (0 : UInt8)] ++ (be 4 re) ++ xs) 2 (cks ([ty, co, (0 : UInt8), (0 : UInt8)] ++ (be 4 re) ++ xs)) := by unfold mB; rw [if_neg ma1, ← sput_mX]; rfl
   have hn : (mB ty co re xs).length = 4 + 4 + xs.length := by rw [mB_len ma1]; first | done | omega
   show ∀ w_, _ → bodyPostM (fence none) 0 Try.prog Try.f39 _ Exit.ret _ w_
   exact fun w_ hS_ => fin_ret (ret2 rfl (RV.tmp (v := sV g33 (4 + 4 + xs.length)) ma0) (RV.tmp (v := iV .i64 0) ma0) hS_ ⟨g33, (by rw [hn]; exact ok34), congrArg Ending.returned ((by rw [hn, hE])), (Mem.cast (by rw [hB]; rfl) (hS_.pick [0] ma2 rfl))⟩)
abbrev cTr6_1078_0 (a : Option Addr) (cap p1 re : Nat) (co ty : UInt8) (xs : List UInt8) : List Blk := [cb p1 [nV .u8 ty.toNat, nV .u8 co.toNat, nV .u32 re, Value.slice a xs.length cap] 65]
theorem rwicmp_c (ty co : UInt8) (re : Nat) (xs : List UInt8) (a : Option Addr) (cap : Nat) (w : World) (hat : At w a (byc xs)) (hr : re < 4294967296) (hl : xs.length ≤ 9223372036854775807) (hlc : xs.length ≤ cap) : Calls Try.prog 29 #[aV [nV .u8 ty.toNat, nV .u8 co.toNat, nV .u32 re, Value.slice a xs.length cap]] w (RetM w (fun g : FS => g.ok 1 (mB ty co re xs).length) (fun g => .tuple #[.slice g.a (mB ty co re xs).length g.cap, .int .i64 (uE xs.length)]) [] (fun g => [g.seg 5 (byc (mB ty co re xs))])) := by
 refine calls_W (M := []) (LL := []) (n := 28) Try.func29 rfl rfl ma10 (Mem.refl _) (W.seq (fun K1 hK1 => ?_))
 refine W.region (Wl.ht rfl (Ht.box (v := aV [nV .u8 ty.toNat, nV .u8 co.toNat, nV .u32 re, Value.slice a xs.length cap]) (cs := [nV .u8 ty.toNat, nV .u8 co.toNat, nV .u32 re, Value.slice a xs.length cap]) rfl rfl ma0 rfl) (fun p1 => ?_))
 refine Wl.run 2 ma0 (Wl.nil (hK1 _ _ _ (W.seq (fun K2 hK2 => W.seq (fun K3 hK3 => ?_)))))
 refine W.region (Wl.run 1 ma0 (Wl.ys rfl rfl (Ys.l1 p1 3 0 0 Try.isAgg25) (Wl.run 2 ma0 (Wl.nil ?_))))
 refine hK3 _ _ _ ?_
 refine W.cond (decide (((xs.length : Nat) : Int) > 1472)) ma0 (fun h4 => ?_) (fun h5 => ?_)
 ·have qh4 := h4; try simp only [zA] at qh4
  refine W.seq (fun K6 hK6 => W.region (Wl.ht rfl (Ht.made (mk := fun b_ => .slice (some ⟨b_, 0, none⟩) 0 0) (t := 5) (cs := []) rfl (fun _ => kr)) (fun p9 => Wl.run 2 ma0 (Wl.nil ?_))))
  refine hK6 _ _ _ (W.ret ?_)
  have hE : uE xs.length = 14 := by unfold uE; rw [if_pos ma1]
  have hB : mB ty co re xs = [] := by unfold mB; rw [if_pos ma1]
  show ∀ w_, _ → bodyPostM (fence none) 0 Try.prog Try.f29 _ Exit.ret _ w_
  exact fun w_ hS_ => fin_ret (ret2 rfl (RV.tmp (v := Value.slice (some ⟨p9, 0, none⟩) 0 0) ma0) (RV.tmp (v := iV .i64 14) ma0) hS_ ⟨(FS.mk false p9 0 []), (by rw [hB]; exact (FS.lit_ok ma2)), congrArg Ending.returned ((by rw [hB, hE]; rfl)), (Mem.cast (by rw [hB]; rfl) (hS_.pick [0] ma2 rfl))⟩)
 ·have qh5 := h5; try simp only [zA] at qh5
  refine W.skip' (hK2 _ _ _ (W.seq (fun K7 hK7 => ?_)))
  refine W.meet3 (w0 := w) (M := []) K7 [1, 4] (fun (p14 : Nat) (g8 : FS) (g13 : FS) => [pV p1 0, sV g13 (4 + 4)]) (fun (p14 : Nat) (g8 : FS) (g13 : FS) => g8.ok 1 4 ∧ g8.nil = false ∧ g13.ok 1 (4 + 4) ∧ (0 < 4 + 4 → g13.nil = false) ∧ ((FS.mk false p14 4 []).nil = false → g13.nil = false)) (fun (p14 : Nat) (g8 : FS) (g13 : FS) => [g8.seg 5 (mc b8 (be 4 re)), g13.seg 5 (mc b8 ([ty, co, (0 : UInt8), (0 : UInt8)] ++ (be 4 re))), cTr6_1078_0 a cap p1 re co ty xs]) (fun J8 hJ8 => ?_) (fun p14 g8 g13 f9 hp10 => ?_)
  ·refine W.drawsA [0, 1, 2, 3, 5, 6, 7, 10] (Mem w [] [cTr6_1078_0 a cap p1 re co ty xs]) ma0 ma0 (fun _ _ h_ => h_.drawn _) (Wa.ys (v := pV p1 0) (i := 0) ma0 ma0 ma0 ma0 (fun _ h_ => h_) rfl rfl rfl (Ys.pure (fun _ => kr)) (Wa.ys (i := 1) ma0 ma0 ma0 ma0 (fun _ h_ => h_) rfl rfl rfl (Ys.l1 p1 0 0 0 Try.isAgg5) (Wa.ys (v := pV p1 1) (i := 2) ma0 ma0 ma0 ma0 (fun _ h_ => h_) rfl rfl rfl (Ys.pure (fun _ => kr)) (Wa.ys (i := 3) ma0 ma0 ma0 ma0 (fun _ h_ => h_) rfl rfl rfl (Ys.l1 p1 1 0 0 Try.isAgg5) ?_))))
   refine Wa.ys (v := pV p1 2) (i := 5) ma0 ma0 ma0 ma0 (fun _ h_ => h_) rfl rfl rfl (Ys.pure (fun _ => kr)) (Wa.ys (i := 6) ma0 ma0 ma0 ma0 (fun _ h_ => h_) rfl rfl rfl (Ys.l1 p1 2 0 0 Try.isAgg23) (Wa.ys (v := nV .u64 re) (i := 7) ma0 ma0 ma0 ma0 (fun _ h_ => h_) rfl rfl rfl ((Ys.pure (v := .int .u64 (icnv .u64 (re : Int))) (fun _ => kr)).conseq (int_congr (wrap_u64 ma1 ma1))) ?_))
   refine Wa.alt2 (i := 4) (j := 8) ma0 ?_ ?_
   ·refine Wo.ht rfl rfl (Ht.made (mk := fun b_ => .slice (some ⟨b_, 0, none⟩) 4 4) (t := 5) (cs := [nV .u8 ty.toNat, nV .u8 co.toNat, iV .u8 0, iV .u8 0]) rfl (fun _ => kr)) (.inr fun _ _ h_ => h_.pick [1] ma2 rfl) (fun p14 => Wa.only (i := 8) ma0 (Wo.htS rfl rfl (HtS.call (β := FS) (k := 58) (args := #[iV .i64 4, nV .u64 re]) (Lin := []) (Lk := [[cb p14 [nV .u8 ty.toNat, nV .u8 co.toNat, iV .u8 0, iV .u8 0] 5], cTr6_1078_0 a cap p1 re co ty xs]) (Mi := []) (Lo := fun g11 => [g11.seg 5 (mc b8 (be 4 re)), [cb p14 [nV .u8 ty.toNat, nV .u8 co.toNat, iV .u8 0, iV .u8 0] 5], cTr6_1078_0 a cap p1 re co ty xs]) [] [0, 1] rfl (fun _ => kr) ma2 rfl rfl rfl (fun w_ hm_ hl_ => rnum_c 4 re ma1 _) (fun _ => rfl)) (.inr fun _ _ h_ => h_.pick [2] ma2 rfl) (fun g11 hx15 => ?_)))
    obtain ⟨ok12, nn13⟩ := hx15
    refine Wa.only (i := 9) ma0 (Wo.htS rfl rfl (HtS.append (eu := 5) (xv := sV g11 4) (i := 1) (g := (FS.mk false p14 4 [])) (e := 5) (ii := (Try.prog.info? 5).getD default) (z := iV .u8 0) (sz := 1) (bytes := 1) (nn := 4) (m := 4) (k := 4 + 4) (xs := mc b8 [ty, co, (0 : UInt8), (0 : UInt8)]) (news := mc b8 (be 4 re)) (cs' := mc b8 ([ty, co, (0 : UInt8), (0 : UInt8)] ++ (be 4 re))) (Lo := fun g16 => [g11.seg 5 (mc b8 (be 4 re)), g16.seg 5 (mc b8 ([ty, co, (0 : UInt8), (0 : UInt8)] ++ (be 4 re))), cTr6_1078_0 a cap p1 re co ty xs]) rfl rfl ma0 ma0 ma0 ma0 ma0 ma0 ma0 ma0 ma0 rfl (FS.lit_ok ma2) (by first | rfl | simp [mc, be_len, psh_len]) (fun _ => rfl) (Src.at (a := g11.a) ma4 (fun w_ h_ => (FS.at (i := 0) (t := 5) h_ rfl (FS.nil_cs ok12 ma18)))) ma4 (mc_one (fun _ => rfl) _) ma5 ma13 ma5 (mc_app _ _) (fun _ => rfl)) (.inr fun _ _ h_ => h_.pick [2] ma2 rfl) (fun g16 hx21 => ?_))
    obtain ⟨ok17, hn18, hn19⟩ := hx21
    refine Wa.ys (v := sV g16 (4 + 4)) (i := 10) ma0 ma0 ma0 ma0 (fun _ h_ => h_.pick [2] ma2 rfl) rfl rfl rfl (Ys.pure (fun _ => kr)) (Wa.nil ma0 ?_)
    refine fun w_ h_ => hJ8 p14 g11 g16 _ w_ ⟨ok12, nn13, ok17, hn18, hn19⟩ ma0 h_
   ·refine Wo.htS rfl rfl (HtS.call (β := FS) (k := 58) (args := #[iV .i64 4, nV .u64 re]) (Lin := []) (Lk := [cTr6_1078_0 a cap p1 re co ty xs]) (Mi := []) (Lo := fun g22 => [g22.seg 5 (mc b8 (be 4 re)), cTr6_1078_0 a cap p1 re co ty xs]) [] [0] rfl (fun _ => kr) ma2 rfl rfl rfl (fun w_ hm_ hl_ => rnum_c 4 re ma1 _) (fun _ => rfl)) (.inr fun _ _ h_ => h_.pick [1] ma2 rfl) (fun g22 hx26 => ?_)
    obtain ⟨ok23, nn24⟩ := hx26
    refine Wa.only (i := 4) ma0 (Wo.ht rfl rfl (Ht.made (mk := fun b_ => .slice (some ⟨b_, 0, none⟩) 4 4) (t := 5) (cs := [nV .u8 ty.toNat, nV .u8 co.toNat, iV .u8 0, iV .u8 0]) rfl (fun _ => kr)) (.inr fun _ _ h_ => h_.pick [2] ma2 rfl) (fun p14 => ?_))
    refine Wa.only (i := 9) ma0 (Wo.htS rfl rfl (HtS.append (eu := 5) (xv := sV g22 4) (i := 0) (g := (FS.mk false p14 4 [])) (e := 5) (ii := (Try.prog.info? 5).getD default) (z := iV .u8 0) (sz := 1) (bytes := 1) (nn := 4) (m := 4) (k := 4 + 4) (xs := mc b8 [ty, co, (0 : UInt8), (0 : UInt8)]) (news := mc b8 (be 4 re)) (cs' := mc b8 ([ty, co, (0 : UInt8), (0 : UInt8)] ++ (be 4 re))) (Lo := fun g27 => [g27.seg 5 (mc b8 ([ty, co, (0 : UInt8), (0 : UInt8)] ++ (be 4 re))), g22.seg 5 (mc b8 (be 4 re)), cTr6_1078_0 a cap p1 re co ty xs]) rfl rfl ma0 ma0 ma0 ma0 ma0 ma0 ma0 ma0 ma0 rfl (FS.lit_ok ma2) (by first | rfl | simp [mc, be_len, psh_len]) (fun _ => rfl) (Src.at (a := g22.a) ma4 (fun w_ h_ => (FS.at (i := 1) (t := 5) h_ rfl (FS.nil_cs ok23 ma18)))) ma4 (mc_one (fun _ => rfl) _) ma5 ma13 ma5 (mc_app _ _) (fun _ => rfl)) (.inr fun _ _ h_ => h_.pick [2] ma2 rfl) (fun g27 hx32 => ?_))
    obtain ⟨ok28, hn29, hn30⟩ := hx32
    refine Wa.ys (v := sV g27 (4 + 4)) (i := 10) ma0 ma0 ma0 ma0 (fun _ h_ => h_.pick [2] ma2 rfl) rfl rfl rfl (Ys.pure (fun _ => kr)) (Wa.nil ma0 ?_)
    refine fun w_ h_ => hJ8 p14 g22 g27 _ w_ ⟨ok23, nn24, ok28, hn29, hn30⟩ ma0 (h_.pick [1, 0, 2] ma2 rfl)
  ·refine hK7 _ _ _ ?_
   obtain ⟨ok9, nn10, ok14, hn15, hn16⟩ := hp10
   refine W.seq (fun K33 hK33 => W.region (Wl.run 2 ma0 (Wl.ys rfl rfl (Ys.l1 p1 3 2 0 Try.isAgg25) (Wl.htS rfl (HtS.append (eu := 5) (xv := Value.slice a xs.length cap) (i := 1) (g := g13) (e := 5) (ii := (Try.prog.info? 5).getD default) (z := iV .u8 0) (sz := 1) (bytes := 1) (nn := 4 + 4) (m := xs.length) (k := (4 + 4) + xs.length) (xs := mc b8 ([ty, co, (0 : UInt8), (0 : UInt8)] ++ (be 4 re))) (news := mc b8 xs) (cs' := mc b8 (([ty, co, (0 : UInt8), (0 : UInt8)] ++ (be 4 re)) ++ xs)) (Lo := fun g34 => [g8.seg 5 (mc b8 (be 4 re)), g34.seg 5 (mc b8 (([ty, co, (0 : UInt8), (0 : UInt8)] ++ (be 4 re)) ++ xs)), cTr6_1078_0 a cap p1 re co ty xs]) rfl rfl ma0 ma0 ma0 ma0 ma0 ma0 ma0 ma0 ma0 rfl ok14 ma25 (fun _ => rfl) (Src.at (a := a) (mc_len1 _) (fun w_ h_ => (hat.mem0 h_))) (mc_len1 _) (mc_one (fun _ => rfl) _) ma5 ma13 ma5 (mc_app _ _) (fun _ => rfl)) (fun g34 hx39 => ?_)))))
   obtain ⟨ok35, hn36, hn37⟩ := hx39
   refine Wl.run 1 ma0 (Wl.nil (hK33 _ _ _ (W.seq (fun K40 hK40 => W.region ?_))))
   have hk41 := cks_le ((([ty, co, (0 : UInt8), (0 : UInt8)] ++ (be 4 re)) ++ xs))
   refine Wl.run 2 ma0 (Wl.yc (v := nV .u16 (cks (([ty, co, (0 : UInt8), (0 : UInt8)] ++ (be 4 re)) ++ xs))) rfl rfl (Yc.call (fun _ => kr) (fun w_ hm_ => (rsumn_c (([ty, co, (0 : UInt8), (0 : UInt8)] ++ (be 4 re)) ++ xs) g34.a ((4 + 4) + xs.length) g34.cap _ (by first | rfl | (simp; done) | (simp [mc, be_len, psh_len]; omega)) (FS.at (i := 1) (t := 5) hm_ rfl (FS.nil_cs ok35 ma25)) ma1))) (Wl.htS rfl (HtS.call (β := FS) (k := 59) (args := #[sV g34 ((4 + 4) + xs.length), iV .i64 2, nV .u16 (cks (([ty, co, (0 : UInt8), (0 : UInt8)] ++ (be 4 re)) ++ xs))]) (Lin := [g34.seg 5 (mc b8 (([ty, co, (0 : UInt8), (0 : UInt8)] ++ (be 4 re)) ++ xs))]) (Lk := [g8.seg 5 (mc b8 (be 4 re)), cTr6_1078_0 a cap p1 re co ty xs]) (Lo := fun g42 => [g42.seg 5 (mc b8 (sput (([ty, co, (0 : UInt8), (0 : UInt8)] ++ (be 4 re)) ++ xs) 2 (cks (([ty, co, (0 : UInt8), (0 : UInt8)] ++ (be 4 re)) ++ xs)))), g8.seg 5 (mc b8 (be 4 re)), cTr6_1078_0 a cap p1 re co ty xs]) [1] [0, 2] rfl (fun _ => kr) ma2 rfl rfl rfl (fun w_ hm_ hl_ => (sealn_lay g34 (([ty, co, (0 : UInt8), (0 : UInt8)] ++ (be 4 re)) ++ xs) ((4 + 4) + xs.length) 2 (cks (([ty, co, (0 : UInt8), (0 : UInt8)] ++ (be 4 re)) ++ xs)) _ _ (by first | rfl | (simp [be_len, be_len, psh_len]; done) | (simp [be_len, be_len, psh_len]; omega)) hl_ ok35 (hn36 ma8) ma24 ma24 ma1)) (fun _ => rfl)) (fun g42 hx46 => ?_)))
   obtain ⟨ok43, nn44⟩ := hx46
   refine Wl.run 2 ma0 (Wl.nil (hK40 _ _ _ (W.pick (LL' := [g42.seg 5 (mc b8 (sput (([ty, co, (0 : UInt8), (0 : UInt8)] ++ (be 4 re)) ++ xs) 2 (cks (([ty, co, (0 : UInt8), (0 : UInt8)] ++ (be 4 re)) ++ xs))))]) [0] ma2 rfl (W.prune' [2, 3] [sV g42 ((4 + 4) + xs.length), iV .i64 0] ma0 (fun f47 => ?_)))))
   refine W.ret ?_
   have hE : uE xs.length = 0 := by unfold uE; rw [if_neg ma1]
   have hB : mB ty co re xs = sput (([ty, co, (0 : UInt8), (0 : UInt8)] ++ (be 4 re)) ++ xs) 2 (cks (([ty, co, (0 : UInt8), (0 : UInt8)] ++ (be 4 re)) ++ xs)) := by unfold mB; rw [if_neg ma1, ← sput_mX]; rfl
   have hn : (mB ty co re xs).length = (4 + 4) + xs.length := by rw [mB_len ma1]; first | done | omega
   show ∀ w_, _ → bodyPostM (fence none) 0 Try.prog Try.f29 _ Exit.ret _ w_
   exact fun w_ hS_ => fin_ret (ret2 rfl (RV.tmp (v := sV g42 ((4 + 4) + xs.length)) ma0) (RV.tmp (v := iV .i64 0) ma0) hS_ ⟨g42, (by rw [hn]; exact ok43), congrArg Ending.returned ((by rw [hn, hE])), (Mem.cast (by rw [hB]; rfl) (hS_.pick [0] ma2 rfl))⟩)
theorem bv_w1 {xs : List UInt8} {k : Nat} (h : k + 1 ≤ xs.length) : bv ((xs.drop k).take 1) = (xs.getD k 0).toNat := by
  have e : (xs.drop k).take 1 = [xs.getD k 0] := by
    apply List.ext_getElem?
    intro j
    rcases j with _ | j
    · simp [List.getElem?_take, List.getElem?_drop, List.getElem?_eq_getElem (show k < xs.length by omega)]
    · simp; omega
  rw [e]; simp [bv]
theorem numk1_c (X : List UInt8) (a : Option Addr) (len cap : Nat) (bad : Bool) (b j k : Nat) (w : World) (hl : Mem w [b] [[cb b [.slice a len cap, .bool bad] 126]] w) (hat : At w a (byc (X.drop j))) (hn : len = X.length - j) (hjk : j + k ≤ X.length) (hcap : len ≤ cap) (hy : X.length ≤ 70368744177664) (hk8 : k ≤ 8) (h2 : k = 1 := by rfl) :
    Calls Try.prog 46 #[.pointer (some ⟨b, 0, none⟩), .int .i64 (k : Int)] w (RetM w (fun x : EV => View x.a (X.drop (j + k)) a (X.drop j) ∧ X.length - (j + k) ≤ x.cap) (fun x => .int .u64 ((X.getD j 0).toNat : Int)) [b] (fun x => [[cb b [.slice x.a (X.length - (j + k)) x.cap, .bool bad] 126]])) := by
  have h := numk_c X a len cap bad b j k w hl hat hn hjk hcap hy hk8
  subst h2
  rw [bv_w1 hjk] at h
  exact h
theorem bv4_lt (xs : List UInt8) (j : Nat) : bv ((xs.drop j).take 4) < 4294967296 := by
  have h := bv_lt ((xs.drop j).take 4)
  have h2 : 256 ^ ((xs.drop j).take 4).length ≤ 256 ^ 4 := Nat.pow_le_pow_right ma2 (by rw [List.length_take]; omega)
  omega
theorem byte_back (x : UInt8) : UInt8.ofNat x.toNat = x := UInt8.toNat_inj.1 (by rw [UInt8.toNat_ofNat', Nat.mod_eq_of_lt (UInt8.toNat_lt x)])
def mR (xs : List UInt8) : Int := if xs.length < 8 then 10 else if 1480 < xs.length then 14 else if cks xs ≠ 0 then 12 else 0
def mg (xs : List UInt8) : Bool := decide (mR xs = 0)
def mT (xs : List UInt8) (k : Nat) : UInt8 := bif mg xs then xs.getD k 0 else 0
def mN (xs : List UInt8) : Nat := bif mg xs then bv ((xs.drop 4).take 4) else 0
def mD (xs : List UInt8) : List UInt8 := bif mg xs then xs.drop 8 else []
theorem mN_lt (xs : List UInt8) : mN xs < 4294967296 := by
  unfold mN; cases mg xs
  · show (0 : Nat) < _; decide
  · exact bv4_lt _ _
theorem mR_bnd {xs : List UInt8} (h : (bnd xs.length 8 != 0) = true) : mR xs = bnd xs.length 8 := by
  unfold mR bnd at *
  split
  · rfl
  · split
    · rfl
    · rename_i h1 h2; rw [if_neg h1, if_neg h2] at h; cases h
abbrev cTr6_1090_0 (p2 : Nat) (xs : List UInt8) : List Blk := [cb p2 [nV .u8 ((UInt8.ofNat ((xs.getD 0 0).toNat)).toNat), nV .u8 ((UInt8.ofNat ((xs.getD 1 0).toNat)).toNat), iV .u32 0, Value.slice none 0 0] 65]
abbrev cTr6_1090_1 (p2 : Nat) : List Blk := [cb p2 zl6 65]
abbrev cTr6_1090_2 (p2 : Nat) (xs : List UInt8) : List Blk := [cb p2 [nV .u8 ((UInt8.ofNat ((xs.getD 0 0).toNat)).toNat), nV .u8 ((UInt8.ofNat ((xs.getD 1 0).toNat)).toNat), nV .u32 ((bv ((xs.drop 4).take 4)) % 4294967296), Value.slice none 0 0] 65]
theorem ricmp_c (xs : List UInt8) (a : Option Addr) (cap : Nat) (w : World) (hat : At w a (byc xs)) (hl : xs.length ≤ 100000) (hlc : xs.length ≤ cap) : Calls Try.prog 36 #[Value.slice a xs.length cap] w (RetM w (fun g : FS => g.ok 1 (mD xs).length) (fun g => .tuple #[.agg [.int .u8 ((mT xs 0).toNat : Int), .int .u8 ((mT xs 1).toNat : Int), .int .u32 (mN xs : Int), .slice g.a (mD xs).length g.cap].toArray, .int .i64 (mR xs)]) [] (fun g => [g.seg 5 (byc (mD xs))])) := by
 refine calls_W (M := []) (LL := []) (n := 39) Try.func36 rfl rfl ma10 (Mem.refl _) (W.seq (fun K1 hK1 => ?_))
 refine W.region (Wl.ht rfl (Ht.alloc (z := aV zl6) (cs := zl6) rfl rfl Try.zeroValue65 rfl) (fun p2 => ?_))
 refine Wl.run 1 ma0 (Wl.nil (hK1 _ _ _ (W.seq (fun K2 hK2 => W.seq (fun K3 hK3 => ?_)))))
 refine W.region (Wl.run 1 ma0 (Wl.yc (v := iV .i64 (bnd xs.length 8)) rfl rfl (Yc.call (fun _ => kr) (fun w_ hm_ => bounds_c a xs.length cap 8 _ ma1 ma1)) (Wl.run 1 ma0 (Wl.nil ?_))))
 refine hK3 _ _ _ (W.seq (fun K4 hK4 => ?_))
 refine W.region (Wl.run 2 ma0 (Wl.nil (hK4 _ _ _ ?_)))
 refine W.cond ((bnd xs.length 8) != 0) ma0 (fun h5 => ?_) (fun h6 => ?_)
 ·have qh5 := h5; try simp only [zA] at qh5
  refine W.seq (fun K7 hK7 => W.region (Wl.ys rfl rfl (Ys.loadN (b := p2) (o' := 0) (i := 0) (j := 0) (vs := zl6) rfl ma0 Try.isAgg65 Try.sizeOf65 rfl rfl rfl rfl) (Wl.run 1 ma0 (Wl.ht rfl (Ht.storeN (b := p2) (o' := 0) (i := 0) (j := 0) (vs := zl6) (LL' := [cTr6_1090_1 p2]) rfl rfl ma0 ma0 Try.sizeOf65 ma9 rfl rfl ma10 rfl rfl) (fun _ => ?_)))))
  refine Wl.run 1 ma0 (Wl.nil (hK7 _ _ _ (W.ret ?_)))
  have he4_ : True := by trivial
  have hR : mR xs = bnd xs.length 8 := mR_bnd h5
  have hG : mg xs = false := by unfold mg; rw [hR]; exact decide_eq_false (by simpa using h5)
  have hD : mD xs = [] := by unfold mD; rw [hG]; rfl
  show ∀ w_, _ → bodyPostM (fence none) 0 Try.prog Try.f36 _ Exit.ret _ w_
  exact fun w_ hS_ => fin_ret (ret2 rfl (RV.cellN (b := p2) (o' := 0) (i := 0) (j := 0) (cs := zl6) (vs := zl6) ma0 Try.isAgg65 Try.sizeOf65 rfl rfl rfl rfl) (RV.tmp (v := iV .i64 (bnd xs.length 8)) ma0) hS_ ⟨FS.nul, (by rw [hD]; exact FS.nul_ok 1), congrArg Ending.returned ((by simp only [mT, mN, hG, cond_false, hR, hD]; rfl)), (Mem.cast (by rw [hD]; rfl) (Mem.push (hS_.pick [] ma2 rfl)))⟩)
 ·have qh6 := h6; try simp only [zA] at qh6
  refine W.skip' (hK2 _ _ _ (W.seq (fun K8 hK8 => W.seq (fun K9 hK9 => ?_))))
  have hb_ := bnd_ok h6
  refine W.region (Wl.run 1 ma0 (Wl.ht rfl (Ht.made (mk := fun b_ => .slice (some ⟨b_, 0, none⟩) 1 1) (t := 25) (cs := [Value.slice a xs.length cap]) rfl (fun _ => kr)) (fun p13 => Wl.yc (v := bV (((cks xs : Nat) : Int) == 0)) rfl rfl (Yc.call (fun _ => kr) (fun w_ hm_ => (rightn_c [⟨a, xs, cap⟩] (xs) (some ⟨p13, 0, none⟩) 1 1 ((xs).length) _ rfl (by simp [jn]) rfl (by first | exact At.lit0 (i := 0) (j := 0) (t := 25) (b := p13) hm_ rfl rfl | (rw [show mc slv ([⟨a, xs, cap⟩] : List SV) = [Value.slice a xs.length cap] by (simp [mc, be_len, psh_len]; try omega)]; exact At.lit0 (i := 0) (j := 0) (t := 25) (b := p13) hm_ rfl rfl)) (List.forall_mem_cons.2 ⟨(hat.mem0 hm_), (fun _ h => by cases h)⟩) ma28 ma10 ma10))) (Wl.run 1 ma0 ?_))))
  refine Wl.nil (hK9 _ _ _ ?_)
  refine W.cond (!(((cks xs : Nat) : Int) == 0)) ma0 (fun h10 => ?_) (fun h11 => ?_)
  ·have qh10 := h10; try simp only [zA] at qh10
   refine W.seq (fun K12 hK12 => W.region (Wl.ys rfl rfl (Ys.loadN (b := p2) (o' := 0) (i := 1) (j := 0) (vs := zl6) rfl ma0 Try.isAgg65 Try.sizeOf65 rfl rfl rfl rfl) (Wl.ht rfl (Ht.storeN (b := p2) (o' := 0) (i := 1) (j := 0) (vs := zl6) (LL' := [[cb p13 [Value.slice a xs.length cap] 25], cTr6_1090_1 p2]) rfl rfl ma0 ma0 Try.sizeOf65 ma9 rfl rfl ma10 rfl rfl) (fun _ => Wl.run 1 ma0 ?_))))
   refine Wl.nil (hK12 _ _ _ (W.pick (LL' := [cTr6_1090_1 p2]) [1] ma2 rfl (W.prune' [2, 3] [pV p2 0, iV .i64 12] ma0 (fun f13 => W.ret ?_))))
   have he4_ : True := by trivial
   have hz_ : ¬ (cks xs = 0) := by have z_ := h10; simp at z_; omega
   have hR : mR xs = 12 := by unfold mR; rw [if_neg ma1, if_neg ma1, if_pos ma1]
   have hG : mg xs = false := by unfold mg; rw [hR]; rfl
   have hD : mD xs = [] := by unfold mD; rw [hG]; rfl
   show ∀ w_, _ → bodyPostM (fence none) 0 Try.prog Try.f36 _ Exit.ret _ w_
   exact fun w_ hS_ => fin_ret (ret2 rfl (RV.cellN (b := p2) (o' := 0) (i := 0) (j := 0) (cs := zl6) (vs := zl6) ma0 Try.isAgg65 Try.sizeOf65 rfl rfl rfl rfl) (RV.tmp (v := iV .i64 12) ma0) hS_ ⟨FS.nul, (by rw [hD]; exact FS.nul_ok 1), congrArg Ending.returned ((by simp only [mT, mN, hG, cond_false, hR, hD]; rfl)), (Mem.cast (by rw [hD]; rfl) (Mem.push (hS_.pick [] ma2 rfl)))⟩)
  ·have qh11 := h11; try simp only [zA] at qh11
   refine W.skip' (hK8 _ _ _ (W.pick (LL' := [cTr6_1090_1 p2]) [1] ma2 rfl (W.prune' [0, 2] [Value.slice a xs.length cap, pV p2 0] ma0 (fun f14 => W.seq (fun K15 hK15 => ?_)))))
   refine W.region (Wl.run 1 ma0 (Wl.htS rfl (HtS.call (β := NE) (k := 45) (args := #[Value.slice a xs.length cap]) (Lin := []) (Lk := [cTr6_1090_1 p2]) (Mi := []) (Lo := fun ne16 => [[cb ne16.b [Value.slice ne16.g.a xs.length ne16.g.cap, bV false] 126], ne16.g.seg 5 (mc b8 xs), cTr6_1090_1 p2]) [] [0] rfl (fun _ => kr) ma2 rfl rfl rfl (fun w_ hm_ hl_ => (neweyen_c xs a xs.length cap _ rfl (hat.mem0 hm_) ma8)) (fun _ => rfl)) (fun ne16 ok17 => Wl.run 1 ma0 (Wl.nil ?_))))
   refine hK15 _ _ _ (W.seq (fun K20 hK20 => ?_))
   refine W.region (Wl.run 1 ma0 (Wl.htS rfl (HtS.call (β := EV) (k := 46) (args := #[Value.pointer (some ⟨ne16.b, 0, none⟩), iV .i64 1]) (Lin := [[cb ne16.b [Value.slice ne16.g.a xs.length ne16.g.cap, bV false] 126]]) (Lk := [ne16.g.seg 5 (mc b8 xs), cTr6_1090_1 p2]) (Mi := [ne16.b]) (Lo := fun ev21 => [[cb ne16.b [Value.slice ev21.a (xs.length - 1) ev21.cap, bV false] 126], ne16.g.seg 5 (mc b8 xs), cTr6_1090_1 p2]) [0] [1, 2] rfl (fun _ => kr) ma2 rfl rfl rfl (fun w_ hm_ hl_ => (numk1_c xs ne16.g.a xs.length ne16.g.cap false ne16.b 0 1 _ hl_ (by rw [List.drop_zero]; exact (FS.at (i := 1) (t := 5) hm_ rfl (FS.nil_cs ok17 (mc_len1 _)))) ma22 ma1 (ok17.le) ma1 ma2)) (fun _ => rfl)) (fun ev21 hx27 => ?_)))
   obtain ⟨hv23, hc24⟩ := hx27
   refine Wl.ys (v := nV .u8 ((UInt8.ofNat ((xs.getD 0 0).toNat)).toNat)) rfl rfl ((Ys.pure (v := .int .u8 (icnv .u8 ((xs.getD 0 0).toNat : Int))) (fun _ => kr)).conseq (int_congr (u8_wrapN _))) (Wl.run 1 ma0 (Wl.htS rfl (HtS.call (β := EV) (k := 46) (args := #[Value.pointer (some ⟨ne16.b, 0, none⟩), iV .i64 1]) (Lin := [[cb ne16.b [Value.slice ev21.a (xs.length - 1) ev21.cap, bV false] 126]]) (Lk := [ne16.g.seg 5 (mc b8 xs), cTr6_1090_1 p2]) (Mi := [ne16.b]) (Lo := fun ev28 => [[cb ne16.b [Value.slice ev28.a (xs.length - 2) ev28.cap, bV false] 126], ne16.g.seg 5 (mc b8 xs), cTr6_1090_1 p2]) [0] [1, 2] rfl (fun _ => kr) ma2 rfl rfl rfl (fun w_ hm_ hl_ => (numk1_c xs ev21.a (xs.length - 1) ev21.cap false ne16.b 1 1 _ hl_ (hv23 _ (by rw [List.drop_zero]; exact (FS.at (i := 1) (t := 5) hm_ rfl (FS.nil_cs ok17 (mc_len1 _))))) ma22 ma1 ma1 ma1 ma2)) (fun _ => rfl)) (fun ev28 hx34 => ?_)))
   obtain ⟨hv30, hc31⟩ := hx34
   refine Wl.ys (v := nV .u8 ((UInt8.ofNat ((xs.getD 1 0).toNat)).toNat)) rfl rfl ((Ys.pure (v := .int .u8 (icnv .u8 ((xs.getD 1 0).toNat : Int))) (fun _ => kr)).conseq (int_congr (u8_wrapN _))) (Wl.run 1 ma0 (Wl.ht rfl (Ht.store (b := p2) (o' := 0) (i := 2) (j := 0) (v := nV .u8 ((UInt8.ofNat ((xs.getD 0 0).toNat)).toNat)) (LL' := [[cb ne16.b [Value.slice ev28.a (xs.length - 2) ev28.cap, bV false] 126], ne16.g.seg 5 (mc b8 xs), [cb p2 [nV .u8 ((UInt8.ofNat ((xs.getD 0 0).toNat)).toNat), iV .u8 0, iV .u32 0, Value.slice none 0 0] 65]]) rfl rfl ma0 ma0 Try.sizeOf5 rfl rfl rfl ma10 rfl rfl) (fun _ => Wl.run 1 ma0 (Wl.ht rfl (Ht.store (b := p2) (o' := 1) (i := 2) (j := 0) (v := nV .u8 ((UInt8.ofNat ((xs.getD 1 0).toNat)).toNat)) (LL' := [[cb ne16.b [Value.slice ev28.a (xs.length - 2) ev28.cap, bV false] 126], ne16.g.seg 5 (mc b8 xs), cTr6_1090_0 p2 xs]) rfl rfl ma0 ma0 Try.sizeOf5 rfl rfl rfl ma10 rfl rfl) (fun _ => ?_)))))
   refine Wl.nil (hK20 _ _ _ (W.prune' [2, 5] [pV p2 0, Value.pointer (some ⟨ne16.b, 0, none⟩)] ma0 (fun f35 => W.seq (fun K36 hK36 => W.region ?_))))
   refine Wl.run 1 ma0 (Wl.htS rfl (HtS.call (β := EV) (k := 46) (args := #[Value.pointer (some ⟨ne16.b, 0, none⟩), iV .i64 2]) (Lin := [[cb ne16.b [Value.slice ev28.a (xs.length - 2) ev28.cap, bV false] 126]]) (Lk := [ne16.g.seg 5 (mc b8 xs), cTr6_1090_0 p2 xs]) (Mi := [ne16.b]) (Lo := fun ev37 => [[cb ne16.b [Value.slice ev37.a (xs.length - 4) ev37.cap, bV false] 126], ne16.g.seg 5 (mc b8 xs), cTr6_1090_0 p2 xs]) [0] [1, 2] rfl (fun _ => kr) ma2 rfl rfl rfl (fun w_ hm_ hl_ => (numk2_c xs ev28.a (xs.length - 2) ev28.cap false ne16.b 2 2 _ hl_ (hv30 _ (hv23 _ (by rw [List.drop_zero]; exact (FS.at (i := 1) (t := 5) hm_ rfl (FS.nil_cs ok17 (mc_len1 _)))))) ma22 ma1 ma1 ma1 ma2)) (fun _ => rfl)) (fun ev37 hx43 => ?_))
   obtain ⟨hv39, hc40⟩ := hx43
   refine Wl.nil (hK36 _ _ _ (W.seq (fun K44 hK44 => W.region (Wl.run 1 ma0 ?_))))
   refine Wl.htS rfl (HtS.call (β := EV) (k := 46) (args := #[Value.pointer (some ⟨ne16.b, 0, none⟩), iV .i64 4]) (Lin := [[cb ne16.b [Value.slice ev37.a (xs.length - 4) ev37.cap, bV false] 126]]) (Lk := [ne16.g.seg 5 (mc b8 xs), cTr6_1090_0 p2 xs]) (Mi := [ne16.b]) (Lo := fun ev45 => [[cb ne16.b [Value.slice ev45.a (xs.length - 8) ev45.cap, bV false] 126], ne16.g.seg 5 (mc b8 xs), cTr6_1090_0 p2 xs]) [0] [1, 2] rfl (fun _ => kr) ma2 rfl rfl rfl (fun w_ hm_ hl_ => (numk_c xs ev37.a (xs.length - 4) ev37.cap false ne16.b 4 4 _ hl_ (hv39 _ (hv30 _ (hv23 _ (by rw [List.drop_zero]; exact (FS.at (i := 1) (t := 5) hm_ rfl (FS.nil_cs ok17 (mc_len1 _))))))) ma22 ma1 ma1 ma1 ma2)) (fun _ => rfl)) (fun ev45 hx51 => ?_)
   obtain ⟨hv47, hc48⟩ := hx51
   refine Wl.ys (v := nV .u32 ((bv ((xs.drop 4).take 4)) % 4294967296)) rfl rfl ((Ys.pure (v := .int .u32 (icnv .u32 (bv ((xs.drop 4).take 4) : Int))) (fun _ => kr)).conseq (int_congr (icnv_mod rfl _))) (Wl.run 1 ma0 (Wl.ht rfl (Ht.store (b := p2) (o' := 2) (i := 2) (j := 0) (v := nV .u32 ((bv ((xs.drop 4).take 4)) % 4294967296)) (LL' := [[cb ne16.b [Value.slice ev45.a (xs.length - 8) ev45.cap, bV false] 126], ne16.g.seg 5 (mc b8 xs), cTr6_1090_2 p2 xs]) rfl rfl ma0 ma0 Try.sizeOf23 rfl rfl rfl ma10 rfl rfl) (fun _ => Wl.nil (hK44 _ _ _ ?_))))
   refine W.seq (fun K52 hK52 => W.region (Wl.run 2 ma0 (Wl.yc (v := nV .i64 (xs.length - 8)) rfl rfl (Yc.call (fun _ => kr) (fun w_ hm_ => (leftn_c (xs.drop 8) ev45.a (xs.length - 8) ev45.cap false ne16.b _ ma14 (hm_.one (i := 0) rfl) (hv47 _ (hv39 _ (hv30 _ (hv23 _ (by rw [List.drop_zero]; exact (FS.at (i := 1) (t := 5) hm_ rfl (FS.nil_cs ok17 (mc_len1 _))))))))))) (Wl.htS rfl (HtS.call (β := EG) (k := 49) (args := #[Value.pointer (some ⟨ne16.b, 0, none⟩), nV .i64 (xs.length - 8)]) (Lin := [[cb ne16.b [Value.slice ev45.a (xs.length - 8) ev45.cap, bV false] 126]]) (Lk := [ne16.g.seg 5 (mc b8 xs), cTr6_1090_2 p2 xs]) (Mi := [ne16.b]) (Lo := fun eg53 => [[cb ne16.b [Value.slice eg53.a ((eRest (xs.drop 8) ((xs.length - 8 : Nat) : Int)).length) eg53.cap, bV (eBad (xs.drop 8) false ((xs.length - 8 : Nat) : Int))] 126], eg53.g.seg 5 (mc b8 (eOut (xs.drop 8) ((xs.length - 8 : Nat) : Int))), ne16.g.seg 5 (mc b8 xs), cTr6_1090_2 p2 xs]) [0] [1, 2] rfl (fun _ => kr) ma2 rfl rfl rfl (fun w_ hm_ hl_ => (bytesn_c (xs.drop 8) ev45.a (xs.length - 8) ev45.cap false ne16.b ((xs.length - 8 : Nat) : Int) _ ma14 hl_ (hv47 _ (hv39 _ (hv30 _ (hv23 _ (by rw [List.drop_zero]; exact (FS.at (i := 1) (t := 5) hm_ rfl (FS.nil_cs ok17 (mc_len1 _)))))))) ma8 ma8)) (fun _ => rfl)) (fun eg53 hx59 => ?_)))))
   obtain ⟨ok54, hv55, hc56⟩ := hx59
   refine Wl.run 1 ma0 (Wl.ht rfl (Ht.store (b := p2) (o' := 3) (i := 3) (j := 0) (v := Value.slice eg53.g.a ((eOut (xs.drop 8) ((xs.length - 8 : Nat) : Int)).length) eg53.g.cap) (LL' := [[cb ne16.b [Value.slice eg53.a ((eRest (xs.drop 8) ((xs.length - 8 : Nat) : Int)).length) eg53.cap, bV (eBad (xs.drop 8) false ((xs.length - 8 : Nat) : Int))] 126], eg53.g.seg 5 (mc b8 (eOut (xs.drop 8) ((xs.length - 8 : Nat) : Int))), ne16.g.seg 5 (mc b8 xs), [cb p2 [nV .u8 ((UInt8.ofNat ((xs.getD 0 0).toNat)).toNat), nV .u8 ((UInt8.ofNat ((xs.getD 1 0).toNat)).toNat), nV .u32 ((bv ((xs.drop 4).take 4)) % 4294967296), Value.slice eg53.g.a ((eOut (xs.drop 8) ((xs.length - 8 : Nat) : Int)).length) eg53.g.cap] 65]]) rfl rfl ma0 ma0 Try.sizeOf25 rfl rfl rfl ma10 rfl rfl) (fun _ => ?_))
   refine Wl.nil (hK52 _ _ _ (W.pick (LL' := [eg53.g.seg 5 (mc b8 (eOut (xs.drop 8) ((xs.length - 8 : Nat) : Int))), [cb p2 [nV .u8 ((UInt8.ofNat ((xs.getD 0 0).toNat)).toNat), nV .u8 ((UInt8.ofNat ((xs.getD 1 0).toNat)).toNat), nV .u32 ((bv ((xs.drop 4).take 4)) % 4294967296), Value.slice eg53.g.a ((eOut (xs.drop 8) ((xs.length - 8 : Nat) : Int)).length) eg53.g.cap] 65]]) [1, 3] ma2 rfl (W.prune' [2] [pV p2 0] ma0 (fun f60 => W.seq (fun K61 hK61 => ?_)))))
   refine W.region (Wl.ys rfl rfl (Ys.loadN (b := p2) (o' := 0) (i := 1) (j := 0) (vs := [nV .u8 ((UInt8.ofNat ((xs.getD 0 0).toNat)).toNat), nV .u8 ((UInt8.ofNat ((xs.getD 1 0).toNat)).toNat), nV .u32 ((bv ((xs.drop 4).take 4)) % 4294967296), Value.slice eg53.g.a ((eOut (xs.drop 8) ((xs.length - 8 : Nat) : Int)).length) eg53.g.cap]) rfl ma0 Try.isAgg65 Try.sizeOf65 rfl rfl rfl rfl) (Wl.ht rfl (Ht.storeN (b := p2) (o' := 0) (i := 1) (j := 0) (vs := [nV .u8 ((UInt8.ofNat ((xs.getD 0 0).toNat)).toNat), nV .u8 ((UInt8.ofNat ((xs.getD 1 0).toNat)).toNat), nV .u32 ((bv ((xs.drop 4).take 4)) % 4294967296), Value.slice eg53.g.a ((eOut (xs.drop 8) ((xs.length - 8 : Nat) : Int)).length) eg53.g.cap]) (LL' := [eg53.g.seg 5 (mc b8 (eOut (xs.drop 8) ((xs.length - 8 : Nat) : Int))), [cb p2 [nV .u8 ((UInt8.ofNat ((xs.getD 0 0).toNat)).toNat), nV .u8 ((UInt8.ofNat ((xs.getD 1 0).toNat)).toNat), nV .u32 ((bv ((xs.drop 4).take 4)) % 4294967296), Value.slice eg53.g.a ((eOut (xs.drop 8) ((xs.length - 8 : Nat) : Int)).length) eg53.g.cap] 65]]) rfl rfl ma0 ma0 Try.sizeOf65 ma9 rfl rfl ma10 rfl rfl) (fun _ => Wl.run 1 ma0 (Wl.nil ?_))))
   refine hK61 _ _ _ (W.ret ?_)
   have he4_ : True := by trivial
   have hz_ : (cks xs = 0) := by have z_ := h11; simp at z_; omega
   have hR : mR xs = 0 := by unfold mR; rw [if_neg ma1, if_neg ma1, if_neg ma1]
   have hG : mg xs = true := by unfold mg; rw [hR]; rfl
   have hD : mD xs = eOut (xs.drop 8) ((xs.length - 8 : Nat) : Int) := by unfold mD; rw [hG, eOut_k ma1, List.take_of_length_le (by rw [List.length_drop]; omega)]; rfl
   have hDl : (mD xs).length = (eOut (xs.drop 8) ((xs.length - 8 : Nat) : Int)).length := by rw [hD]; first | done | rfl | (simp; done) | (rw [List.length_drop]; omega)
   show ∀ w_, _ → bodyPostM (fence none) 0 Try.prog Try.f36 _ Exit.ret _ w_
   exact fun w_ hS_ => fin_ret (ret2 rfl (RV.cellN (b := p2) (o' := 0) (i := 1) (j := 0) (cs := [nV .u8 ((UInt8.ofNat ((xs.getD 0 0).toNat)).toNat), nV .u8 ((UInt8.ofNat ((xs.getD 1 0).toNat)).toNat), nV .u32 ((bv ((xs.drop 4).take 4)) % 4294967296), Value.slice eg53.g.a ((eOut (xs.drop 8) ((xs.length - 8 : Nat) : Int)).length) eg53.g.cap]) (vs := [nV .u8 ((UInt8.ofNat ((xs.getD 0 0).toNat)).toNat), nV .u8 ((UInt8.ofNat ((xs.getD 1 0).toNat)).toNat), nV .u32 ((bv ((xs.drop 4).take 4)) % 4294967296), Value.slice eg53.g.a ((eOut (xs.drop 8) ((xs.length - 8 : Nat) : Int)).length) eg53.g.cap]) ma0 Try.isAgg65 Try.sizeOf65 rfl rfl rfl rfl) (RV.tmp (v := iV .i64 0) ma0) hS_ ⟨eg53.g, (by rw [hDl]; exact ok54), congrArg Ending.returned ((by rw [hDl]; simp only [mT, mN, hG, cond_true, hR, byte_back, he4_, Nat.mod_eq_of_lt (bv4_lt xs _)]; try rfl)), (Mem.cast (by rw [hD]; rfl) (hS_.pick [0] ma2 rfl))⟩)
end Go.Proofs.Ytejeafjkhomdoaa.Oct
