import Derived.Test.YtejeafjkhomdoaaKOct2
set_option linter.unusedVariables false
set_option linter.unusedSimpArgs false
set_option maxRecDepth 20000
namespace Go.Proofs.Ytejeafjkhomdoaa.Oct
open Go.RowKit Base
attribute [local irreducible] Ys Yc Ht HtS HtIn Wl Wd W Mem pf dpf
theorem reye_ne (v : Value) (x : UInt8) (h : (match v with | .int .u8 _ => false | _ => true) = true) : v ≠ b8 x := fun e => by subst e; cases h
theorem reye_apart {w : World} {b len cap i : Nat} {a a' : Option Addr} {bad : Bool} {ys : List UInt8} {t : TypeId} (hl : Mem w [b] [[cb b [.slice a' len cap, .int .i64 (i : Int), .bool bad] t]] w) (hat : At w a (byc ys)) : 0 < (byc ys).length → (a.getD default).block ∉ [b] := fun h0 => by
  have hb := hl.at (i := 0) (j := 0) (p := cb b [.slice a' len cap, .int .i64 (i : Int), .bool bad] t) rfl rfl
  have := hat.ne (b := b) (cs := [.slice a' len cap, .int .i64 (i : Int), .bool bad]) hb (fun v hv x => reye_ne v x (by
    rcases List.mem_cons.1 hv with rfl | hv
    · rfl
    · rcases List.mem_cons.1 hv with rfl | hv
      · rfl
      · obtain rfl := List.mem_singleton.1 hv; rfl)) h0
  simpa using this
def rI (xs : List UInt8) (i : Nat) (n : Int) : Nat := if asked n ≤ xs.length - i then i + asked n else xs.length
theorem asked_neg {n : Int} (h : n < 0) : asked n = 0 := by unfold asked imax; split <;> omega
theorem asked_nat (k : Nat) : asked (k : Int) = k := by unfold asked imax; split <;> omega
theorem rbytes_neg (xs : List UInt8) (a : Option Addr) (cap i : Nat) (bad : Bool) (b : Nat) (n : Int) (w : World) (hl : Mem w [b] [[cb b [.slice a xs.length cap, .int .i64 (i : Int), .bool bad] 104]] w) (hat : At w a (byc xs)) (hi : i ≤ xs.length) (hcap : xs.length ≤ cap) (hy : xs.length ≤ 70368744177664) (hn : n < 0) : Calls Try.prog 77 #[pV b 0, iV .i64 n] w (RetM w (fun g : FS => g.ok 1 (eOut (xs.drop i) n).length) (fun g => .slice g.a (eOut (xs.drop i) n).length g.cap) [b] (fun g => [[cb b [.slice a xs.length cap, .int .i64 (rI xs i n : Int), .bool (eBad (xs.drop i) bad n)] 104], g.seg 5 (byc (eOut (xs.drop i) n))])) := by
 have hne := reye_apart hl hat
 refine calls_W (M := [b]) (LL := [[cb b [Value.slice a xs.length cap, nV .i64 i, bV bad] 104]]) (n := 59) Try.func77 rfl rfl ma12 (hl) (W.seq (fun K1 hK1 => ?_))
 refine W.region (Wl.run 1 ma0 (Wl.nil (hK1 _ _ _ (W.seq (fun K2 hK2 => ?_)))))
 refine W.seq (fun K3 hK3 => W.region (Wl.run 2 ma0 (Wl.nil (hK3 _ _ _ ?_))))
 refine W.cond (decide (n < 0)) ma0 (fun h4 => ?_) (fun h5 => ?_)
 ·have qh4 := h4; try simp only [zA] at qh4
  refine W.seq (fun K6 hK6 => W.region (Wl.ht rfl (Ht.made (mk := fun b_ => .slice (some ⟨b_, 0, none⟩) 0 0) (t := 5) (cs := []) rfl (fun _ => kr)) (fun p8 => Wl.run 1 ma0 (Wl.nil ?_))))
  refine hK6 _ _ _ (W.ret ?_)
  show ∀ w_, _ → bodyPostM (fence none) 0 Try.prog Try.f77 _ Exit.ret _ w_
  exact fun w_ hS_ => fin_ret (ret1 rfl (RV.tmp (v := Value.slice (some ⟨p8, 0, none⟩) 0 0) ma0) hS_ ⟨(FS.mk false p8 0 []), (by have hk : asked n ≤ (xs.drop i).length := (by rw [asked_neg hn]; exact Nat.zero_le _); dsimp only; rw [eOut_t hk, asked_neg hn]; exact FS.lit_ok ma3), congrArg Ending.returned ((by have hk : asked n ≤ (xs.drop i).length := (by rw [asked_neg hn]; exact Nat.zero_le _); dsimp only; rw [eOut_t hk, asked_neg hn]; rfl)), (Mem.cast (by have hk : asked n ≤ (xs.drop i).length := (by rw [asked_neg hn]; exact Nat.zero_le _); dsimp only; rw [eOut_t hk, eBad_t hk, asked_neg hn]; unfold rI; rw [asked_neg hn, if_pos (Nat.zero_le _)]; rfl) (hS_.pick (LL' := [[cb b [Value.slice a xs.length cap, nV .i64 i, bV bad] 104], [cb p8 [] 5]]) [1, 0] ma3 rfl))⟩)
 ·have qh5 := h5; try simp only [zA] at qh5
  exact absurd hn qh5
theorem rbytes_nat (xs : List UInt8) (a : Option Addr) (cap i : Nat) (bad : Bool) (b : Nat) (k : Nat) (w : World) (hl : Mem w [b] [[cb b [.slice a xs.length cap, .int .i64 (i : Int), .bool bad] 104]] w) (hat : At w a (byc xs)) (hi : i ≤ xs.length) (hcap : xs.length ≤ cap) (hy : xs.length ≤ 70368744177664) (hk64 : k ≤ 9223372036854775807) : Calls Try.prog 77 #[pV b 0, nV .i64 k] w (RetM w (fun g : FS => g.ok 1 (eOut (xs.drop i) (k : Int)).length) (fun g => .slice g.a (eOut (xs.drop i) (k : Int)).length g.cap) [b] (fun g => [[cb b [.slice a xs.length cap, .int .i64 (rI xs i (k : Int) : Int), .bool (eBad (xs.drop i) bad (k : Int))] 104], g.seg 5 (byc (eOut (xs.drop i) (k : Int)))])) := by
 have hne := reye_apart hl hat; have hld := List.length_drop (i := i) (l := xs)
 refine calls_W (M := [b]) (LL := [[cb b [Value.slice a xs.length cap, nV .i64 i, bV bad] 104]]) (n := 59) Try.func77 rfl rfl ma12 (hl) (W.seq (fun K1 hK1 => ?_))
 refine W.region (Wl.run 1 ma0 (Wl.nil (hK1 _ _ _ (W.seq (fun K2 hK2 => ?_)))))
 refine W.seq (fun K3 hK3 => W.region (Wl.run 2 ma0 (Wl.nil (hK3 _ _ _ ?_))))
 refine W.cond (decide (((k : Nat) : Int) < 0)) ma0 (fun h4 => ?_) (fun h5 => ?_)
 ·have qh4 := h4; try simp only [zA] at qh4
  exact absurd qh4 ma1
 ·have qh5 := h5; try simp only [zA] at qh5
  refine W.skip' (hK2 _ _ _ (W.seq (fun K6 hK6 => W.seq (fun K7 hK7 => W.draws [(0, true), (1, true), (2, true), (3, true), (4, true), (5, true), (6, false), (7, false), (8, false), (9, false), (10, false), (11, false)] [0, 1, 2, 3, 4, 5] (Mem w [b] [[cb b [Value.slice a xs.length cap, nV .i64 i, bV bad] 104]]) ma0 ma0 ma0 rfl ma0 (fun _ _ h_ => h_.drawn _) (fun _ h_ => h_) ?_))))
  refine Wd.run 4 ma0 (Wd.ys rfl rfl rfl (Ys.l1 b 0 0 0 Try.isAgg25) (Wd.run 1 ma0 (Wd.yc (v := pV b 0) rfl rfl rfl (Ys.yc (Ys.pure (fun _ => kr))) (.inr fun _ h_ => h_) (Wd.yc (v := pV b 0) rfl rfl rfl (Ys.yc (Ys.pure (fun _ => kr))) (.inr fun _ h_ => h_) ?_))))
  refine Wd.yc (v := pV b 1) rfl rfl rfl (Ys.yc (Ys.pure (fun _ => kr))) (.inr fun _ h_ => h_) (Wd.yc (v := nV .i64 i) rfl rfl rfl (Ys.yc (Ys.l1 b 1 0 0 Try.isAgg3)) (.inr fun _ h_ => h_) (Wd.yc (v := iV .i64 (((xs.length : Nat) : Int) - (i : Int))) rfl rfl rfl (Ys.yc ((Ys.pure (v := .int .i64 (isub .i64 (xs.length : Int) (i : Int))) (fun _ => kr)).conseq (int_congr (isub_eq rfl ma1 ma1)))) (.inr fun _ h_ => h_) (Wd.yc (v := bV (decide (((k : Nat) : Int) > (((xs.length : Nat) : Int) - (i : Int))))) rfl rfl rfl (Ys.yc (Ys.pure (fun _ => kr))) (.inr fun _ h_ => h_) (Wd.nil ?_))))
  refine hK7 _ _ _ (W.prune' [0, 1, 20] [pV b 0, nV .i64 k, bV (decide (((k : Nat) : Int) > (((xs.length : Nat) : Int) - (i : Int))))] ma0 (fun f8 => ?_))
  refine W.cond (decide (((k : Nat) : Int) > (((xs.length : Nat) : Int) - (i : Int)))) ma0 (fun h9 => ?_) (fun h10 => ?_)
  ·have qh9 := h9; try simp only [zA] at qh9
   refine W.seq (fun K11 hK11 => W.region (Wl.run 4 ma0 (Wl.ys rfl rfl (Ys.l1 b 0 0 0 Try.isAgg25) (Wl.run 3 ma0 ?_))))
   refine Wl.ht rfl (Ht.store (b := b) (o' := 1) (i := 0) (j := 0) (v := nV .i64 xs.length) (LL' := [[cb b [Value.slice a xs.length cap, nV .i64 xs.length, bV bad] 104]]) rfl rfl ma0 ma0 Try.sizeOf3 rfl rfl rfl ma12 rfl rfl) (fun _ => Wl.nil (hK11 _ _ _ (W.prune' [0] [pV b 0] ma0 (fun f12 => W.seq (fun K13 hK13 => ?_)))))
   refine W.region (Wl.run 3 ma0 (Wl.ht rfl (Ht.store (b := b) (o' := 2) (i := 0) (j := 0) (v := bV true) (LL' := [[cb b [Value.slice a xs.length cap, nV .i64 xs.length, bV true] 104]]) rfl rfl ma0 ma0 Try.sizeOf4 rfl rfl rfl ma12 rfl rfl) (fun _ => Wl.nil (hK13 _ _ _ ?_))))
   refine W.seq (fun K14 hK14 => W.region (Wl.ht rfl (Ht.made (mk := fun b_ => .slice (some ⟨b_, 0, none⟩) 0 0) (t := 5) (cs := []) rfl (fun _ => kr)) (fun p32 => Wl.run 1 ma0 (Wl.nil ?_))))
   refine hK14 _ _ _ (W.ret ?_)
   show ∀ w_, _ → bodyPostM (fence none) 0 Try.prog Try.f77 _ Exit.ret _ w_
   exact fun w_ hS_ => fin_ret (ret1 rfl (RV.tmp (v := Value.slice (some ⟨p32, 0, none⟩) 0 0) ma0) hS_ ⟨(FS.mk false p32 0 []), (by have hk : ¬ asked (k : Int) ≤ (xs.drop i).length := ma37; dsimp only; rw [eOut_f hk]; exact FS.lit_ok ma3), congrArg Ending.returned ((by have hk : ¬ asked (k : Int) ≤ (xs.drop i).length := ma37; dsimp only; rw [eOut_f hk]; rfl)), (Mem.cast (by have hk : ¬ asked (k : Int) ≤ (xs.drop i).length := ma37; dsimp only; rw [eOut_f hk, eBad_f hk]; unfold rI; rw [if_neg (by rw [asked_nat]; omega)]; rfl) (hS_.pick (LL' := [[cb b [Value.slice a xs.length cap, nV .i64 xs.length, bV true] 104], [cb p32 [] 5]]) [1, 0] ma3 rfl))⟩)
  ·have qh10 := h10; try simp only [zA] at qh10
   refine W.skip' (hK6 _ _ _ (W.seq (fun K15 hK15 => W.draws [(1, true), (2, true), (3, true), (4, true), (5, true), (6, true), (7, true), (8, true), (9, true), (10, true), (11, true), (12, true), (13, true), (14, true), (15, true), (0, false), (16, false), (17, false)] [1, 2, 3, 4, 5, 6, 7, 8, 9, 10, 11, 12, 13, 14, 15] (Mem w [b] [[cb b [Value.slice a xs.length cap, nV .i64 i, bV bad] 104]]) ma0 ma0 ma0 rfl ma0 (fun _ _ h_ => h_.drawn _) (fun _ h_ => h_) (Wd.run 3 ma0 ?_))))
   refine Wd.ys rfl rfl rfl (Ys.l1 b 0 0 0 Try.isAgg25) (Wd.run 3 ma0 (Wd.ys rfl rfl rfl (Ys.l1 b 1 0 0 Try.isAgg3) (Wd.run 3 ma0 (Wd.ys rfl rfl rfl (Ys.l1 b 1 0 0 Try.isAgg3) ?_))))
   refine Wd.run 1 ma0 (Wd.ys (v := nV .i64 (i + k)) rfl rfl rfl ((Ys.pure (v := .int .i64 (iadd .i64 (i : Int) (k : Int))) (fun _ => kr)).conseq (int_congr (iadd_eq ma1 ma1 ma1))) (Wd.ys (v := Value.slice (sla a cap i 1) ((i + k) - i) (cap - i)) rfl rfl rfl (Ys.sliceLH (a := a) (len := xs.length) (cap := cap) (sz := 1) (k := .i64) (i := (i : Int)) (k' := .i64) (j := ((i + k : Nat) : Int)) rfl ma0 ma0 ma0 Try.runUnderlying25 Try.sizeOf5 ma1 ma1 ma1) (Wd.ht rfl rfl (Ht.made (mk := fun b_ => .slice (some ⟨b_, 0, none⟩) 0 0) (t := 5) (cs := []) rfl (fun _ => kr)) (.inr fun _ _ h_ => h_.pick [1] ma3 rfl) (fun p33 => Wd.htS rfl rfl (HtS.append (eu := 5) (xv := Value.slice (sla a cap i 1) ((i + k) - i) (cap - i)) (i := 0) (g := (FS.mk false p33 0 [])) (e := 5) (ii := (Try.prog.info? 5).getD default) (z := iV .u8 0) (sz := 1) (bytes := 1) (nn := 0) (m := (i + k) - i) (k := (i + k) - i) (xs := mc b8 []) (news := mc b8 ((xs.drop i).take ((i + k) - i))) (cs' := mc b8 ((xs.drop i).take ((i + k) - i))) (Lo := fun g16 => [g16.seg 5 (mc b8 ((xs.drop i).take ((i + k) - i))), [cb b [Value.slice a xs.length cap, nV .i64 i, bV bad] 104]]) rfl rfl ma0 ma0 ma0 ma0 ma0 ma0 ma0 ma0 ma0 rfl (FS.lit_ok ma3) (by first | rfl | simp [mc, be_len]) (fun _ => rfl) (Src.at (a := sla a cap i 1) ma11 (fun w_ h_ => (((hat.mem' h_ hne).mdrop cap i ma1).mtake ((i + k) - i)))) ma11 (mc_one (fun _ => rfl) _) ma4 ma10 ma4 rfl (fun _ => rfl)) (.inr fun _ _ h_ => h_.pick [1] ma3 rfl) (fun g16 hx21 => ?_)))))
   obtain ⟨ok17, hn18, hn19⟩ := hx21
   refine Wd.yc (v := sV g16 ((i + k) - i)) rfl rfl rfl (Ys.yc (Ys.pure (fun _ => kr))) (.inl ma0) (Wd.nil (hK15 _ _ _ (W.prune' [0, 1, 5] [pV b 0, nV .i64 k, sV g16 ((i + k) - i)] ma0 (fun f22 => W.seq (fun K23 hK23 => ?_)))))
   refine W.region (Wl.run 3 ma0 (Wl.ys rfl rfl (Ys.l1 b 1 1 0 Try.isAgg3) (Wl.run 1 ma0 (Wl.ys (v := nV .i64 (i + k)) rfl rfl ((Ys.pure (v := .int .i64 (iadd .i64 (i : Int) (k : Int))) (fun _ => kr)).conseq (int_congr (iadd_eq ma1 ma1 ma1))) ?_))))
   refine Wl.run 2 ma0 (Wl.ht rfl (Ht.store (b := b) (o' := 1) (i := 1) (j := 0) (v := nV .i64 (i + k)) (LL' := [g16.seg 5 (mc b8 ((xs.drop i).take ((i + k) - i))), [cb b [Value.slice a xs.length cap, nV .i64 (i + k), bV bad] 104]]) rfl rfl ma0 ma0 Try.sizeOf3 rfl rfl rfl ma12 rfl rfl) (fun _ => ?_))
   refine Wl.nil (hK23 _ _ _ (W.prune' [5] [sV g16 ((i + k) - i)] ma0 (fun f24 => W.seq (fun K25 hK25 => W.region ?_))))
   refine Wl.run 2 ma0 (Wl.nil (hK25 _ _ _ (W.ret ?_)))
   show ∀ w_, _ → bodyPostM (fence none) 0 Try.prog Try.f77 _ Exit.ret _ w_
   exact fun w_ hS_ => fin_ret (ret1 rfl (RV.tmp (v := sV g16 ((i + k) - i)) ma0) hS_ ⟨g16, (by have hk : asked (k : Int) ≤ (xs.drop i).length := ma37; have e1 : eOut (xs.drop i) (k : Int) = (xs.drop i).take ((i + k) - i) := (by rw [eOut_t hk, asked_nat]; congr 1; omega); have hm : ((xs.drop i).take ((i + k) - i)).length = i + k - i := (by simp; omega); dsimp only; rw [e1, hm]; exact ok17), congrArg Ending.returned ((by have hk : asked (k : Int) ≤ (xs.drop i).length := ma37; have e1 : eOut (xs.drop i) (k : Int) = (xs.drop i).take ((i + k) - i) := (by rw [eOut_t hk, asked_nat]; congr 1; omega); have hm : ((xs.drop i).take ((i + k) - i)).length = i + k - i := (by simp; omega); dsimp only; rw [e1, hm])), (Mem.cast (by have hk : asked (k : Int) ≤ (xs.drop i).length := ma37; have e1 : eOut (xs.drop i) (k : Int) = (xs.drop i).take ((i + k) - i) := (by rw [eOut_t hk, asked_nat]; congr 1; omega); have hm : ((xs.drop i).take ((i + k) - i)).length = i + k - i := (by simp; omega); dsimp only; rw [e1, eBad_t hk]; unfold rI; rw [if_pos (by rw [asked_nat]; omega), asked_nat]; try simp) (hS_.pick (LL' := [[cb b [Value.slice a xs.length cap, nV .i64 (i + k), bV bad] 104], g16.seg 5 (mc b8 ((xs.drop i).take ((i + k) - i)))]) [1, 0] ma3 rfl))⟩)
theorem rbytes_c (xs : List UInt8) (a : Option Addr) (cap i : Nat) (bad : Bool) (b : Nat) (n : Int) (w : World) (hl : Mem w [b] [[cb b [.slice a xs.length cap, .int .i64 (i : Int), .bool bad] 104]] w) (hat : At w a (byc xs)) (hi : i ≤ xs.length) (hcap : xs.length ≤ cap) (hy : xs.length ≤ 70368744177664) (hn64 : n ≤ 9223372036854775807) : Calls Try.prog 77 #[.pointer (some ⟨b, 0, none⟩), .int .i64 n] w (RetM w (fun g : FS => g.ok 1 (eOut (xs.drop i) n).length) (fun g => .slice g.a (eOut (xs.drop i) n).length g.cap) [b] (fun g => [[cb b [.slice a xs.length cap, .int .i64 (rI xs i n : Int), .bool (eBad (xs.drop i) bad n)] 104], g.seg 5 (byc (eOut (xs.drop i) n))])) := by
  by_cases hn : n < 0
  · exact rbytes_neg xs a cap i bad b n w hl hat hi hcap hy hn
  · obtain ⟨k, rfl⟩ := Int.eq_ofNat_of_zero_le (by omega : 0 ≤ n)
    exact rbytes_nat xs a cap i bad b k w hl hat hi hcap hy ma1
theorem renum_c (xs : List UInt8) (a : Option Addr) (cap i : Nat) (bad : Bool) (b : Nat) (size : Int) (w : World) (hl : Mem w [b] [[cb b [.slice a xs.length cap, .int .i64 (i : Int), .bool bad] 104]] w) (hat : At w a (byc xs)) (hi : i ≤ xs.length) (hcap : xs.length ≤ cap) (hy : xs.length ≤ 70368744177664) : Calls Try.prog 54 #[pV b 0, iV .i64 size] w (RetM w (fun _ : Unit => True) (fun _ => .int .u64 (bv (eOut (xs.drop i) (size8 size : Int)) : Int)) [b] (fun _ => [[cb b [.slice a xs.length cap, .int .i64 (rI xs i (size8 size : Int) : Int), .bool (eBad (xs.drop i) bad (size8 size : Int))] 104]])) := by
 have hne := reye_apart hl hat; have hs8 := size8_le size; have ho8 := eOut_le (xs.drop i) (size8 size : Int); rw [asked_size8] at ho8
 refine calls_W (M := [b]) (LL := [[cb b [Value.slice a xs.length cap, nV .i64 i, bV bad] 104]]) (n := 27) Try.func54 rfl rfl ma12 (hl) (W.seq (fun K1 hK1 => ?_))
 refine W.region (Wl.run 1 ma0 (Wl.nil (hK1 _ _ _ (W.seq (fun K2 hK2 => ?_)))))
 refine W.region (Wl.run 2 ma0 (Wl.yc (v := nV .i64 (size8 size)) rfl rfl (Yc.call (fun _ => kr) (fun w_ hm_ => rsize_c _ _)) (Wl.htS rfl (HtS.call (β := FS) (k := 77) (args := #[pV b 0, nV .i64 (size8 size)]) (Lin := [[cb b [Value.slice a xs.length cap, nV .i64 i, bV bad] 104]]) (Lk := []) (Mi := [b]) (Lo := fun g3 => [[cb b [Value.slice a xs.length cap, nV .i64 (rI xs i (size8 size : Int)), bV (eBad (xs.drop i) bad (size8 size : Int))] 104], g3.seg 5 (mc b8 (eOut (xs.drop i) (size8 size : Int)))]) [0] [] rfl (fun _ => kr) ma3 rfl rfl rfl (fun w_ hm_ hl_ => (rbytes_c xs a cap i bad b (size8 size : Int) _ hl_ (hat.mem' hm_ hne) ma25 ma1 ma1 ma1)) (fun _ => rfl)) (fun g3 ok4 => Wl.run 2 ma0 ?_))))
 refine Wl.nil (hK2 _ _ _ (W.seq (fun K6 hK6 => W.seq (fun K7 hK7 => W.region ?_))))
 refine Wl.run 1 ma0 (Wl.nil (hK7 _ _ _ (W.block (W.loop1 [5, 6, 7] (fun (k : Nat) => [sV g3 ((eOut (xs.drop i) (size8 size : Int)).length), nV .u64 (bv ((eOut (xs.drop i) (size8 size : Int)).take k)), nV .i64 k]) (fun (k : Nat) => k ≤ (eOut (xs.drop i) (size8 size : Int)).length) (fun (k : Nat) => [[cb b [Value.slice a xs.length cap, nV .i64 (rI xs i (size8 size : Int)), bV (eBad (xs.drop i) bad (size8 size : Int))] 104], g3.seg 5 (mc b8 (eOut (xs.drop i) (size8 size : Int)))]) (fun (k : Nat) => (eOut (xs.drop i) (size8 size : Int)).length - k) 0 (Eq.trans (b := ([sV g3 ((eOut (xs.drop i) (size8 size : Int)).length), iV .u64 0, iV .i64 0] : List Value)) ma0 (by simp [bv])) ma32 (by rfl) (fun k f9 J8 hp10 hJ8 => ?_)))))
 have hk := hp10
 have hb := bv_lt64 (xs := (eOut (xs.drop i) (size8 size : Int)).take k) (by simp; omega)
 refine W.seq (fun K11 hK11 => W.seq (fun K12 hK12 => ?_))
 refine W.region (Wl.run 4 ma0 (Wl.nil (hK12 _ _ _ ?_)))
 refine W.cond (decide (((k : Nat) : Int) < ((eOut (xs.drop i) (size8 size : Int)).length : Int))) ma0 (fun h13 => ?_) (fun h14 => ?_)
 ·have qh13 := h13; try simp only [zA] at qh13
  refine W.skip' (hK11 _ _ _ (W.seq (fun K15 hK15 => W.block (W.region ?_))))
  refine Wl.run 1 ma0 (Wl.ys (v := nV .u64 ((256 * (bv ((eOut (xs.drop i) (size8 size : Int)).take k))) % 18446744073709551616)) rfl rfl ((Ys.pure (v := .int .u64 (imul .u64 ((256 : Nat) : Int) (bv ((eOut (xs.drop i) (size8 size : Int)).take k) : Int))) (fun _ => kr)).conseq (int_congr (imul_mod rfl))) (Wl.run 2 ma0 (Wl.ys (v := Value.pointer (some (ela g3.a (k * 1)))) rfl rfl (Ys.indexAddr (k := .i64) (a := g3.a) (len := (eOut (xs.drop i) (size8 size : Int)).length) (cap := g3.cap) (i := (k : Int)) (sz := 1) rfl ma0 ma0 Try.runUnderlying25 Try.sizeOf5 ma1 ma1 (by rw [FS.a_own (FS.notnil ok4 ma1)]; rfl)) (Wl.ys (v := nV .u8 (((eOut (xs.drop i) (size8 size : Int)).getD k 0).toNat)) rfl rfl (Ys.ld (a := ela g3.a (k * 1)) rfl ma0 Try.isAgg5 (fun w_ h_ => (FS.at (i := 1) (t := 5) h_ rfl (FS.nil_cs ok4 (mc_len1 _))).ld (mc_get1 0 ma7))) ?_))))
  have hb16 : ((eOut (xs.drop i) (size8 size : Int)).getD k 0).toNat < 256 := UInt8.toNat_lt _
  refine Wl.ys (v := nV .u64 (((eOut (xs.drop i) (size8 size : Int)).getD k 0).toNat)) rfl rfl ((Ys.pure (v := .int .u64 (icnv .u64 (((eOut (xs.drop i) (size8 size : Int)).getD k 0).toNat : Int))) (fun _ => kr)).conseq (int_congr (wrap_u64 ma1 ma1))) (Wl.ys (v := nV .u64 ((((256 * (bv ((eOut (xs.drop i) (size8 size : Int)).take k))) % 18446744073709551616) + (((eOut (xs.drop i) (size8 size : Int)).getD k 0).toNat)) % 18446744073709551616)) rfl rfl ((Ys.pure (v := .int .u64 (iadd .u64 (((256 * (bv ((eOut (xs.drop i) (size8 size : Int)).take k))) % 18446744073709551616 : Nat) : Int) (((eOut (xs.drop i) (size8 size : Int)).getD k 0).toNat : Int))) (fun _ => kr)).conseq (int_congr (iadd_mod rfl))) (Wl.run 1 ma0 (Wl.nil (hK15 _ _ _ ?_))))
  refine W.prune' [5, 6, 7] [sV g3 ((eOut (xs.drop i) (size8 size : Int)).length), nV .u64 ((((256 * (bv ((eOut (xs.drop i) (size8 size : Int)).take k))) % 18446744073709551616) + (((eOut (xs.drop i) (size8 size : Int)).getD k 0).toNat)) % 18446744073709551616), nV .i64 k] ma0 (fun f17 => W.region (Wl.run 1 ma0 (Wl.ys (v := nV .i64 (k + 1)) rfl rfl ((Ys.pure (v := .int .i64 (iadd .i64 (k : Int) 1)) (fun _ => kr)).conseq (int_congr (iadd_eq ma1 ma1 ma1))) (Wl.run 1 ma0 ?_))))
  refine Wl.nil ?_
  refine fun w_ h_ => hJ8 (k + 1) _ w_ ma1 ma32 ?_ h_
  refine Eq.trans (b := ([sV g3 ((eOut (xs.drop i) (size8 size : Int)).length), nV .u64 ((((256 * (bv ((eOut (xs.drop i) (size8 size : Int)).take k))) % 18446744073709551616) + (((eOut (xs.drop i) (size8 size : Int)).getD k 0).toNat)) % 18446744073709551616), nV .i64 (k + 1)] : List Value)) ma0 (by rw [bv_add ma1 ma1])
 ·have qh14 := h14; try simp only [zA] at qh14
  refine W.exit (hK6 _ _ _ (W.seq (fun K18 hK18 => W.region (Wl.run 2 ma0 ?_))))
  refine Wl.nil (hK18 _ _ _ (W.ret ?_))
  show ∀ w_, _ → bodyPostM (fence none) 0 Try.prog Try.f54 _ Exit.ret _ w_
  exact fun w_ hS_ => fin_ret (ret1 rfl (RV.tmp (v := nV .u64 (bv ((eOut (xs.drop i) (size8 size : Int)).take k))) ma0) hS_ ⟨(), trivial, congrArg Ending.returned ((by rw [List.take_of_length_le ma1])), (hS_.pick [0] ma3 rfl)⟩)
end Go.Proofs.Ytejeafjkhomdoaa.Oct
