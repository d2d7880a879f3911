import Derived.Test.YtmonlaoaengfdaaGreatDoorM20
import Derived.Test.YtmonlaoaengfdaaGreatDoorM4
set_option linter.unusedVariables false
set_option linter.unusedSimpArgs false
set_option maxRecDepth 20000
namespace Go.Proofs.YtmonlaoaengfdaaGreatDoor.Oct
open Go.RowKit Base
attribute [local irreducible] Ys Yc Ht HtS HtIn Wl Wd W Mem pf dpf Wa Wo
theorem two_c (n : Nat) (w : World) (hn : n < 65536) : Calls Tryz.prog 102 #[nV .i64 n] w (RetM w (fun g : FS => g.ok 1 2 ∧ g.nil = false) (fun g => .slice g.a 2 g.cap) [] (fun g => [g.seg 5 (byc (be 2 n))])) := by
 refine calls_W (M := []) (LL := []) (n := 6) Tryz.func102 rfl rfl ma6 (Mem.refl _) (W.seq (fun K1 hK1 => ?_))
 refine W.region (Wl.run 1 ma0 (Wl.nil (hK1 _ _ _ (W.seq (fun K2 hK2 => ?_)))))
 refine W.region (Wl.run 1 ma0 (Wl.ys (v := nV .u64 n) rfl rfl ((Ys.pure (v := .int .u64 (icnv .u64 (n : Int))) (fun _ => kr)).conseq (int_congr (wrap_u64 ma1 ma1))) (Wl.htS rfl (HtS.call (β := FS) (k := 155) (args := #[iV .i64 2, nV .u64 n]) (Lin := []) (Lk := []) (Mi := []) (Lo := fun g3 => [g3.seg 5 (mc b8 (be 2 n))]) [] [] rfl (fun _ => kr) ma2 rfl rfl rfl (fun w_ hm_ hl_ => rnum_c 2 n ma1 _) (fun _ => rfl)) (fun g3 hx7 => ?_))))
 obtain ⟨ok4, nn5⟩ := hx7
 refine Wl.run 1 ma0 (Wl.nil (hK2 _ _ _ (W.prune' [2] [sV g3 2] ma0 (fun f8 => W.ret ?_))))
 show ∀ w_, _ → bodyPostM (fence none) 0 Tryz.prog Tryz.f102 _ Exit.ret _ w_
 exact fun w_ hS_ => fin_ret (ret1 rfl (RV.tmp (v := sV g3 2) ma0) hS_ ⟨g3, ⟨ok4, nn5⟩, rfl, hS_⟩)
def psh (s d : Nat) (pr : UInt8) (n : Nat) : List UInt8 := be 4 s ++ be 4 d ++ [0, pr] ++ be 2 n
theorem psh_len (s d : Nat) (pr : UInt8) (n : Nat) : (psh s d pr n).length = 12 := by unfold psh; simp [be_len]
def sput (zs : List UInt8) (k n : Nat) : List UInt8 := zs.take k ++ be 2 n ++ zs.drop (k + 2)
theorem sput_len {zs : List UInt8} {k n : Nat} (h : k + 2 ≤ zs.length) : (sput zs k n).length = zs.length := by unfold sput; simp [be_len]; omega
theorem sput_set {zs : List UInt8} {k n : Nat} (h : k + 2 ≤ zs.length) : (zs.set k (UInt8.ofNat (n / 256))).set (k + 1) (UInt8.ofNat (n % 256)) = sput zs k n := by
  have e : UInt8.ofNat (n % 256) = UInt8.ofNat n := ofNat_mod n
  rw [e]
  unfold sput
  apply List.ext_getElem?
  intro i
  rw [List.getElem?_set, List.getElem?_set, List.length_set]
  have hl : (zs.take k).length = k := by rw [List.length_take]; omega
  by_cases h1 : i < k
  · rw [if_neg ma1, if_neg ma1, List.append_assoc, List.getElem?_append_left ma1, List.getElem?_take, if_pos h1]
  · rw [List.append_assoc, List.getElem?_append_right ma1, hl]
    by_cases h2 : i = k
    · subst h2; rw [if_neg ma1, if_pos rfl, if_pos ma1, Nat.sub_self]; rfl
    · by_cases h3 : i = k + 1
      · subst h3; rw [if_pos rfl, if_pos ma1, show k + 1 - k = 1 by omega]; rfl
      · rw [if_neg ma1, if_neg ma1, List.getElem?_append_right (by rw [be_len]; omega), be_len, List.getElem?_drop]
        congr 1; omega
theorem pseudo_c (s d : Nat) (pr : UInt8) (n : Nat) (w : World) (hs : s < 4294967296) (hd : d < 4294967296) (hn : n < 65536) : Calls Tryz.prog 134 #[nV .u32 s, nV .u32 d, nV .u8 pr.toNat, nV .i64 n] w (RetM w (fun g : FS => g.ok 1 12) (fun g => .slice g.a 12 g.cap) [] (fun g => [g.seg 5 (byc (psh s d pr n))])) := by
 refine calls_W (M := []) (LL := []) (n := 22) Tryz.func134 rfl rfl ma6 (Mem.refl _) (W.seq (fun K1 hK1 => ?_))
 refine W.region (Wl.run 1 ma0 (Wl.nil (hK1 _ _ _ (W.seq (fun K2 hK2 => ?_)))))
 refine W.region (Wl.run 1 ma0 (Wl.ys (v := nV .u64 s) rfl rfl ((Ys.pure (v := .int .u64 (icnv .u64 (s : Int))) (fun _ => kr)).conseq (int_congr (wrap_u64 ma1 ma1))) (Wl.htS rfl (HtS.call (β := FS) (k := 145) (args := #[iV .i64 4, nV .u64 s]) (Lin := []) (Lk := []) (Mi := []) (Lo := fun g3 => [g3.seg 5 (mc b8 (be 4 s))]) [] [] rfl (fun _ => kr) ma2 rfl rfl rfl (fun w_ hm_ hl_ => num_c 4 s ma1 _) (fun _ => rfl)) (fun g3 hx7 => ?_))))
 obtain ⟨ok4, nn5⟩ := hx7
 refine Wl.run 1 ma0 (Wl.ys (v := nV .u64 d) rfl rfl ((Ys.pure (v := .int .u64 (icnv .u64 (d : Int))) (fun _ => kr)).conseq (int_congr (wrap_u64 ma1 ma1))) (Wl.htS rfl (HtS.call (β := FS) (k := 145) (args := #[iV .i64 4, nV .u64 d]) (Lin := []) (Lk := [g3.seg 5 (mc b8 (be 4 s))]) (Mi := []) (Lo := fun g8 => [g8.seg 5 (mc b8 (be 4 d)), g3.seg 5 (mc b8 (be 4 s))]) [] [0] rfl (fun _ => kr) ma2 rfl rfl rfl (fun w_ hm_ hl_ => num_c 4 d ma1 _) (fun _ => rfl)) (fun g8 hx12 => ?_)))
 obtain ⟨ok9, nn10⟩ := hx12
 refine Wl.run 1 ma0 (Wl.ht rfl (Ht.made (mk := fun b_ => .slice (some ⟨b_, 0, none⟩) 2 2) (t := 5) (cs := [iV .u8 0, nV .u8 pr.toNat]) rfl (fun _ => kr)) (fun p16 => ?_))
 refine Wl.run 1 ma0 (Wl.ys (v := nV .u64 n) rfl rfl ((Ys.pure (v := .int .u64 (icnv .u64 (n : Int))) (fun _ => kr)).conseq (int_congr (wrap_u64 ma1 ma1))) (Wl.htS rfl (HtS.call (β := FS) (k := 145) (args := #[iV .i64 2, nV .u64 n]) (Lin := []) (Lk := [[cb p16 [iV .u8 0, nV .u8 pr.toNat] 5], g8.seg 5 (mc b8 (be 4 d)), g3.seg 5 (mc b8 (be 4 s))]) (Mi := []) (Lo := fun g13 => [g13.seg 5 (mc b8 (be 2 n)), [cb p16 [iV .u8 0, nV .u8 pr.toNat] 5], g8.seg 5 (mc b8 (be 4 d)), g3.seg 5 (mc b8 (be 4 s))]) [] [0, 1, 2] rfl (fun _ => kr) ma2 rfl rfl rfl (fun w_ hm_ hl_ => num_c 2 n ma1 _) (fun _ => rfl)) (fun g13 hx17 => ?_)))
 obtain ⟨ok14, nn15⟩ := hx17
 refine Wl.ht rfl (Ht.made (mk := fun b_ => .slice (some ⟨b_, 0, none⟩) 4 4) (t := 38) (cs := [sV g3 4, sV g8 4, Value.slice (some ⟨p16, 0, none⟩) 2 2, sV g13 2]) rfl (fun _ => kr)) (fun p20 => Wl.htS rfl (HtS.call (β := FS) (k := 144) (args := #[Value.slice (some ⟨p20, 0, none⟩) 4 4]) (Lin := []) (Lk := [[cb p20 [sV g3 4, sV g8 4, Value.slice (some ⟨p16, 0, none⟩) 2 2, sV g13 2] 38], g13.seg 5 (mc b8 (be 2 n)), [cb p16 [iV .u8 0, nV .u8 pr.toNat] 5], g8.seg 5 (mc b8 (be 4 d)), g3.seg 5 (mc b8 (be 4 s))]) (Mi := []) (Lo := fun g18 => [g18.seg 5 (mc b8 ((be 4 s) ++ (be 4 d) ++ [(0 : UInt8), pr] ++ (be 2 n))), [cb p20 [sV g3 4, sV g8 4, Value.slice (some ⟨p16, 0, none⟩) 2 2, sV g13 2] 38], g13.seg 5 (mc b8 (be 2 n)), [cb p16 [iV .u8 0, nV .u8 pr.toNat] 5], g8.seg 5 (mc b8 (be 4 d)), g3.seg 5 (mc b8 (be 4 s))]) [] [0, 1, 2, 3, 4] rfl (fun _ => kr) ma2 rfl rfl rfl (fun w_ hm_ hl_ => (ojoinn_c [⟨g3.a, (be 4 s), g3.cap⟩, ⟨g8.a, (be 4 d), g8.cap⟩, ⟨some ⟨p16, 0, none⟩, [(0 : UInt8), pr], 2⟩, ⟨g13.a, (be 2 n), g13.cap⟩] ((be 4 s) ++ (be 4 d) ++ [(0 : UInt8), pr] ++ (be 2 n)) (some ⟨p20, 0, none⟩) 4 4 (4 + 4 + 2 + 2) _ rfl (by simp [jn]) (by simp [be_len]; try omega) (by first | exact At.lit0 (i := 0) (j := 0) (t := 38) (b := p20) hm_ rfl rfl | (rw [show mc slv ([⟨g3.a, (be 4 s), g3.cap⟩, ⟨g8.a, (be 4 d), g8.cap⟩, ⟨some ⟨p16, 0, none⟩, [(0 : UInt8), pr], 2⟩, ⟨g13.a, (be 2 n), g13.cap⟩] : List SV) = [sV g3 4, sV g8 4, Value.slice (some ⟨p16, 0, none⟩) 2 2, sV g13 2] by (simp [mc, be_len]; try omega)]; exact At.lit0 (i := 0) (j := 0) (t := 38) (b := p20) hm_ rfl rfl)) (List.forall_mem_cons.2 ⟨(FS.at (i := 4) (t := 5) hm_ rfl (FS.nil_cs ok4 ma21)), (List.forall_mem_cons.2 ⟨(FS.at (i := 3) (t := 5) hm_ rfl (FS.nil_cs ok9 ma21)), (List.forall_mem_cons.2 ⟨(At.lit0 (i := 2) (j := 0) (t := 5) (b := p16) hm_ rfl rfl), (List.forall_mem_cons.2 ⟨(FS.at (i := 1) (t := 5) hm_ rfl (FS.nil_cs ok14 ma21)), (fun _ h => by cases h)⟩)⟩)⟩)⟩) (by first | omega | (simp [be_len]; omega)) ma6 ma6)) (fun _ => rfl)) (fun g18 hx22 => ?_))
 obtain ⟨ok19, nn20⟩ := hx22
 refine Wl.run 1 ma0 (Wl.nil (hK2 _ _ _ (W.pick (LL' := [g18.seg 5 (mc b8 ((be 4 s) ++ (be 4 d) ++ [(0 : UInt8), pr] ++ (be 2 n)))]) [0] ma2 rfl (W.prune' [8] [sV g18 (4 + 4 + 2 + 2)] ma0 (fun f23 => ?_)))))
 refine W.ret ?_
 have hB : psh s d pr n = (be 4 s) ++ (be 4 d) ++ [(0 : UInt8), pr] ++ (be 2 n) := rfl
 show ∀ w_, _ → bodyPostM (fence none) 0 Tryz.prog Tryz.f134 _ Exit.ret _ w_
 exact fun w_ hS_ => fin_ret (ret1 rfl (RV.tmp (v := sV g18 (4 + 4 + 2 + 2)) ma0) hS_ ⟨g18, ok19, rfl, (Mem.cast (by rw [hB]; rfl) (hS_.pick [0] ma2 rfl))⟩)
def bnd (n least : Nat) : Int := if n < least then 10 else if 1480 < n then 14 else 0
theorem bounds_c (a : Option Addr) (len cap k : Nat) (w : World) (hl : len ≤ 9223372036854775807) (hk : k ≤ 100) : Calls Tryz.prog 130 #[Value.slice a len cap, nV .i64 k] w (Ret w (.int .i64 (bnd len k))) := by
 refine calls_W (M := []) (LL := []) (n := 14) Tryz.func130 rfl rfl ma6 (Mem.refl _) (W.seq (fun K1 hK1 => ?_))
 refine W.region (Wl.run 1 ma0 (Wl.nil (hK1 _ _ _ (W.seq (fun K2 hK2 => ?_)))))
 refine W.block (W.seq (fun K3 hK3 => ?_))
 refine W.region (Wl.run 5 ma0 (Wl.nil (hK3 _ _ _ (W.prune' [0, 5] [Value.slice a len cap, bV (decide (((len : Nat) : Int) < (k : Int)))] ma0 (fun f4 => ?_)))))
 refine W.cond (decide (((len : Nat) : Int) < (k : Int))) ma0 (fun h5 => ?_) (fun h6 => ?_)
 ·have qh5 := h5; try simp only [zA] at qh5
  refine W.seq (fun K7 hK7 => W.region (Wl.run 1 ma0 (Wl.nil (hK7 _ _ _ ?_))))
  refine W.ret ?_
  show ∀ w_, _ → bodyPostM (fence none) 0 Tryz.prog Tryz.f130 _ Exit.ret _ w_
  exact fun w_ hS_ => fin_ret (ret1 rfl (RV.tmp (v := iV .i64 10) ma0) hS_ ⟨by clear hK1 hK2 hK3 hK7; refine congrArg Ending.returned ?_; exact int_congr ma24, hS_.below⟩)
 ·have qh6 := h6; try simp only [zA] at qh6
  refine W.seq (fun K8 hK8 => W.region (Wl.run 4 ma0 (Wl.nil (hK8 _ _ _ ?_))))
  refine W.prune' [10] [bV (decide (((len : Nat) : Int) > 1480))] ma0 (fun f9 => ?_)
  refine W.cond (decide (((len : Nat) : Int) > 1480)) ma0 (fun h10 => ?_) (fun h11 => ?_)
  ·have qh10 := h10; try simp only [zA] at qh10
   refine W.seq (fun K12 hK12 => W.region (Wl.run 1 ma0 (Wl.nil (hK12 _ _ _ ?_))))
   refine W.ret ?_
   show ∀ w_, _ → bodyPostM (fence none) 0 Tryz.prog Tryz.f130 _ Exit.ret _ w_
   exact fun w_ hS_ => fin_ret (ret1 rfl (RV.tmp (v := iV .i64 14) ma0) hS_ ⟨by clear hK1 hK2 hK3 hK8 hK12; refine congrArg Ending.returned ?_; exact int_congr ma24, hS_.below⟩)
  ·have qh11 := h11; try simp only [zA] at qh11
   refine W.skip' (hK2 _ _ _ (W.prune' [] [] ma0 (fun f13 => W.seq (fun K14 hK14 => W.region ?_))))
   refine Wl.run 1 ma0 (Wl.nil (hK14 _ _ _ (W.ret ?_)))
   show ∀ w_, _ → bodyPostM (fence none) 0 Tryz.prog Tryz.f130 _ Exit.ret _ w_
   exact fun w_ hS_ => fin_ret (ret1 rfl (RV.tmp (v := iV .i64 0) ma0) hS_ ⟨by clear hK1 hK2 hK3 hK8 hK14; refine congrArg Ending.returned ?_; exact int_congr ma24, hS_.below⟩)
theorem seal_c (g : FS) (zs : List UInt8) (k n : Nat) (M : List Nat) (w : World) (hl : Mem w M [g.seg 5 (byc zs)] w) (ok : g.ok 1 zs.length) (hnn : g.nil = false) (hk : k + 2 ≤ zs.length) (hz : zs.length ≤ 1000000) (hn : n < 65536) : Calls Tryz.prog 146 #[sV g zs.length, nV .i64 k, nV .u16 n] w (RetM w (fun g : FS => g.ok 1 zs.length ∧ g.nil = false) (fun g => .slice g.a zs.length g.cap) M (fun g => [g.seg 5 (byc (sput zs k n))])) := by
 refine calls_W (M := M) (LL := [g.seg 5 (mc b8 zs)]) (n := 15) Tryz.func146 rfl rfl ma6 (hl) (W.seq (fun K1 hK1 => ?_))
 refine W.region (Wl.run 1 ma0 (Wl.nil (hK1 _ _ _ (W.seq (fun K2 hK2 => ?_)))))
 have hn4 := hnn
 obtain ⟨gn3, gb, gc, gr⟩ := g
 obtain rfl : gn3 = false := hn4
 have hc5 : zs.length ≤ gc := ok.le
 refine W.draws [(0, true), (1, true), (2, true), (3, false), (4, false), (5, false), (6, false)] [0, 1, 2] (Mem w M []) ma0 ma0 ma0 rfl ma0 (fun _ _ h_ => h_.drawn _) (fun _ h_ => h_.pick [] ma2 rfl) (Wd.run 2 ma0 (Wd.ys (v := Value.slice (sla (some ⟨gb, 0, none⟩) gc k 1) (zs.length - k) (gc - k)) rfl rfl rfl (Ys.sliceL (a := some ⟨gb, 0, none⟩) (len := zs.length) (cap := gc) (sz := 1) (k := .i64) (i := (k : Int)) rfl ma0 ma0 Tryz.runUnderlying38 Tryz.sizeOf5 ma1 ma1) (Wd.yc (v := nV .u16 n) rfl rfl rfl (Ys.yc (Ys.pure (fun _ => kr))) (.inr fun _ h_ => h_.pick [] ma2 rfl) (Wd.yc (v := nV .u64 n) rfl rfl rfl (Ys.yc ((Ys.pure (v := .int .u64 (icnv .u64 (n : Int))) (fun _ => kr)).conseq (int_congr (wrap_u64 ma1 ma1)))) (.inr fun _ h_ => h_.pick [] ma2 rfl) ?_))))
 refine Wd.htS rfl rfl (HtS.call (β := FS) (k := 145) (args := #[iV .i64 2, nV .u64 n]) (Lin := []) (Lk := [[cb gb ((mc b8 zs) ++ gr) 5]]) (Mi := []) (Lo := fun g6 => [g6.seg 5 (mc b8 (be 2 n)), [cb gb ((mc b8 zs) ++ gr) 5]]) [] [0] rfl (fun _ => kr) ma2 rfl rfl rfl (fun w_ hm_ hl_ => num_c 2 n ma1 _) (fun _ => rfl)) (.inr fun _ _ h_ => h_.pick [] ma2 rfl) (fun g6 hx10 => ?_)
 obtain ⟨ok7, nn8⟩ := hx10
 refine Wd.ht rfl rfl (Ht.copySub (cap := gc) (dl := zs.length - k) (dc := gc - k) (m := 2) (q := 2) (sz := 1) (o' := k) (i := 1) (j := 0) (e := 5) (ii := (Tryz.prog.info? 5).getD default) (b := gb) (t := 5) (xv := sV g6 2) (cs := (mc b8 zs) ++ gr) (news := mc b8 (be 2 n)) (cs' := (mc b8 (zs.take k ++ (be 2 n) ++ zs.drop (k + (be 2 n).length))) ++ gr) (LL' := [g6.seg 5 (mc b8 (be 2 n)), [cb gb ((mc b8 (zs.take k ++ (be 2 n) ++ zs.drop (k + (be 2 n).length))) ++ gr) 5]]) rfl rfl ma0 ma0 ma0 ma0 ma1 ma0 rfl rfl (fun _ => rfl) (by show min _ _ = _; first | omega | (simp; omega)) (Src.at (a := g6.a) ma3 (fun w_ h_ => (FS.at (i := 0) (t := 5) h_ rfl (FS.nil_cs ok7 ma21)))) ma3 ma15 (mc_one (fun _ => rfl) _) (app_put (by first | (simp [mc, be_len]; done) | (simp [mc, be_len]; omega)) (mc_put1 (g := b8) zs (be 2 n) k)) rfl) (.inr fun _ _ h_ => h_.pick [] ma2 rfl) (fun _ => Wd.nil (hK2 _ _ _ (W.pick (LL' := [[cb gb ((mc b8 (zs.take k ++ (be 2 n) ++ zs.drop (k + (be 2 n).length))) ++ gr) 5]]) [1] ma2 rfl (W.prune' [0] [Value.slice (some ⟨gb, 0, none⟩) zs.length gc] ma0 (fun f11 => ?_)))))
 refine W.seq (fun K12 hK12 => W.region (Wl.run 2 ma0 (Wl.nil (hK12 _ _ _ ?_))))
 refine W.prune' [6] [Value.slice (some ⟨gb, 0, none⟩) zs.length gc] ma0 (fun f13 => W.ret ?_)
 have hpl := sput_len (n := n) hk
 show ∀ w_, _ → bodyPostM (fence none) 0 Tryz.prog Tryz.f146 _ Exit.ret _ w_
 exact fun w_ hS_ => fin_ret (ret1 rfl (RV.tmp (v := Value.slice (some ⟨gb, 0, none⟩) zs.length gc) ma0) hS_ ⟨(FS.mk false gb gc gr), ⟨ok, rfl⟩, rfl, (Mem.cast (by unfold sput; rw [be_len]; rfl) (hS_.pick [0] ma2 rfl))⟩)
theorem lay_c (g : FS) (zs : List UInt8) (k n : Nat) (M : List Nat) (w : World) (hl : Mem w M [g.seg 5 (byc zs)] w) (ok : g.ok 1 zs.length) (hnn : g.nil = false) (hk : k + 2 ≤ zs.length) (hz : zs.length ≤ 1000000) (hn : n < 65536) : Calls Tryz.prog 104 #[sV g zs.length, nV .i64 k, nV .u16 n] w (RetM w (fun g : FS => g.ok 1 zs.length ∧ g.nil = false) (fun g => .slice g.a zs.length g.cap) M (fun g => [g.seg 5 (byc (sput zs k n))])) := by
 refine calls_W (M := M) (LL := [g.seg 5 (mc b8 zs)]) (n := 21) Tryz.func104 rfl rfl ma6 (hl) (W.seq (fun K1 hK1 => ?_))
 refine W.region (Wl.run 1 ma0 (Wl.nil (hK1 _ _ _ (W.seq (fun K2 hK2 => ?_)))))
 refine W.region (Wl.run 3 ma0 (Wl.ys (v := nV .u16 (n / 256)) rfl rfl ((Ys.pure (v := .int .u16 (iquo .u16 (n : Int) ((256 : Nat) : Int))) (fun _ => kr)).conseq (int_congr (iquo_natu rfl ma27))) (Wl.ys (v := nV .u8 ((UInt8.ofNat (n / 256)).toNat)) rfl rfl ((Ys.pure (v := .int .u8 (icnv .u8 ((n / 256 : Nat) : Int))) (fun _ => kr)).conseq (int_congr (u8_wrapN _))) (Wl.ys (v := Value.pointer (some (ela g.a (k * 1)))) rfl rfl (Ys.indexAddr (k := .i64) (a := g.a) (len := zs.length) (cap := g.cap) (i := (k : Int)) (sz := 1) rfl ma0 ma0 Tryz.runUnderlying38 Tryz.sizeOf5 ma1 ma1 (by rw [FS.a_own (hnn)]; rfl)) ?_))))
 refine Wl.ht rfl (Ht.storeFS (i := 0) (g := g) (q := k * 1) (ty := 5) (cs := mc b8 zs) (cs' := mc b8 (zs.set k (UInt8.ofNat (n / 256)))) (v := nV .u8 ((UInt8.ofNat (n / 256)).toNat)) (LL' := [g.seg 5 (mc b8 (zs.set k (UInt8.ofNat (n / 256))))]) rfl rfl ma0 ma0 Tryz.sizeOf5 rfl (hnn) rfl (by first | (simp [mc, be_len]; done) | (simp [mc, be_len]; omega)) (mc_set1 (g := b8) zs k (UInt8.ofNat (n / 256))) rfl) (fun _ => Wl.nil (hK2 _ _ _ (W.prune' [0, 1, 2] [sV g zs.length, nV .i64 k, nV .u16 n] ma0 (fun f3 => W.seq (fun K4 hK4 => ?_)))))
 refine W.region (Wl.run 2 ma0 (Wl.ys (v := nV .i64 (k + 1)) rfl rfl ((Ys.pure (v := .int .i64 (iadd .i64 (k : Int) 1)) (fun _ => kr)).conseq (int_congr (iadd_eq ma1 ma1 ma1))) (Wl.run 1 ma0 (Wl.ys (v := nV .u16 (n % 256)) rfl rfl ((Ys.pure (v := .int .u16 (irem (n : Int) ((256 : Nat) : Int))) (fun _ => kr)).conseq (int_congr (rfl))) ?_))))
 refine Wl.ys (v := nV .u8 ((UInt8.ofNat (n % 256)).toNat)) rfl rfl ((Ys.pure (v := .int .u8 (icnv .u8 ((n % 256 : Nat) : Int))) (fun _ => kr)).conseq (int_congr (u8_wrapN _))) (Wl.ys (v := Value.pointer (some (ela g.a ((k + 1) * 1)))) rfl rfl (Ys.indexAddr (k := .i64) (a := g.a) (len := zs.length) (cap := g.cap) (i := ((k + 1 : Nat) : Int)) (sz := 1) rfl ma0 ma0 Tryz.runUnderlying38 Tryz.sizeOf5 ma1 ma1 (by rw [FS.a_own (hnn)]; rfl)) (Wl.ht rfl (Ht.storeFS (i := 0) (g := g) (q := (k + 1) * 1) (ty := 5) (cs := mc b8 (zs.set k (UInt8.ofNat (n / 256)))) (cs' := mc b8 ((zs.set k (UInt8.ofNat (n / 256))).set (k + 1) (UInt8.ofNat (n % 256)))) (v := nV .u8 ((UInt8.ofNat (n % 256)).toNat)) (LL' := [g.seg 5 (mc b8 ((zs.set k (UInt8.ofNat (n / 256))).set (k + 1) (UInt8.ofNat (n % 256))))]) rfl rfl ma0 ma0 Tryz.sizeOf5 rfl (hnn) rfl (by first | (simp [mc, be_len]; done) | (simp [mc, be_len]; omega)) (mc_set1 (g := b8) (zs.set k (UInt8.ofNat (n / 256))) (k + 1) (UInt8.ofNat (n % 256))) rfl) (fun _ => Wl.nil (hK4 _ _ _ ?_))))
 refine W.prune' [0] [sV g zs.length] ma0 (fun f5 => W.seq (fun K6 hK6 => ?_))
 refine W.region (Wl.run 2 ma0 (Wl.nil (hK6 _ _ _ (W.prune' [6] [sV g zs.length] ma0 (fun f7 => ?_)))))
 refine W.ret ?_
 show ∀ w_, _ → bodyPostM (fence none) 0 Tryz.prog Tryz.f104 _ Exit.ret _ w_
 exact fun w_ hS_ => fin_ret (ret1 rfl (RV.tmp (v := sV g zs.length) ma0) hS_ ⟨g, ⟨ok, hnn⟩, rfl, (Mem.cast (by rw [← sput_set hk]; rfl) (hS_.pick [0] ma2 rfl))⟩)
theorem sealn_seal (g : FS) (zs : List UInt8) (len k n : Nat) (M : List Nat) (w : World) (hlen : len = zs.length) (hl : Mem w M [g.seg 5 (byc zs)] w) (ok : g.ok 1 len) (hnn : g.nil = false) (hk : k + 2 ≤ zs.length) (hz : zs.length ≤ 1000000) (hn : n < 65536) :
    Calls Tryz.prog 146 #[.slice g.a len g.cap, .int .i64 (k : Int), .int .u16 (n : Int)] w (RetM w (fun g : FS => g.ok 1 len ∧ g.nil = false) (fun g => .slice g.a len g.cap) M (fun g => [g.seg 5 (byc (sput zs k n))])) := by
  subst hlen; exact seal_c g zs k n M w hl ok hnn hk hz hn
theorem sealn_lay (g : FS) (zs : List UInt8) (len k n : Nat) (M : List Nat) (w : World) (hlen : len = zs.length) (hl : Mem w M [g.seg 5 (byc zs)] w) (ok : g.ok 1 len) (hnn : g.nil = false) (hk : k + 2 ≤ zs.length) (hz : zs.length ≤ 1000000) (hn : n < 65536) :
    Calls Tryz.prog 104 #[.slice g.a len g.cap, .int .i64 (k : Int), .int .u16 (n : Int)] w (RetM w (fun g : FS => g.ok 1 len ∧ g.nil = false) (fun g => .slice g.a len g.cap) M (fun g => [g.seg 5 (byc (sput zs k n))])) := by
  subst hlen; exact lay_c g zs k n M w hl ok hnn hk hz hn
theorem dsum_c (s d : Nat) (pr : UInt8) (xs : List UInt8) (a : Option Addr) (cap : Nat) (w : World) (hat : At w a (byc xs)) (hs : s < 4294967296) (hd : d < 4294967296) (hx : xs.length < 65536) (hxc : xs.length ≤ cap) : Calls Tryz.prog 103 #[nV .u32 s, nV .u32 d, nV .u8 pr.toNat, Value.slice a xs.length cap] w (Ret w (.int .u16 (cks (psh s d pr xs.length ++ xs) : Int))) := by
 refine calls_W (M := []) (LL := []) (n := 29) Tryz.func103 rfl rfl ma6 (Mem.refl _) (W.seq (fun K1 hK1 => ?_))
 refine W.region (Wl.run 1 ma0 (Wl.nil (hK1 _ _ _ (W.seq (fun K2 hK2 => ?_)))))
 refine W.region (Wl.run 1 ma0 (Wl.ys (v := nV .u64 s) rfl rfl ((Ys.pure (v := .int .u64 (icnv .u64 (s : Int))) (fun _ => kr)).conseq (int_congr (wrap_u64 ma1 ma1))) (Wl.htS rfl (HtS.call (β := FS) (k := 155) (args := #[iV .i64 4, nV .u64 s]) (Lin := []) (Lk := []) (Mi := []) (Lo := fun g3 => [g3.seg 5 (mc b8 (be 4 s))]) [] [] rfl (fun _ => kr) ma2 rfl rfl rfl (fun w_ hm_ hl_ => rnum_c 4 s ma1 _) (fun _ => rfl)) (fun g3 hx7 => ?_))))
 obtain ⟨ok4, nn5⟩ := hx7
 refine Wl.run 1 ma0 (Wl.ys (v := nV .u64 d) rfl rfl ((Ys.pure (v := .int .u64 (icnv .u64 (d : Int))) (fun _ => kr)).conseq (int_congr (wrap_u64 ma1 ma1))) (Wl.htS rfl (HtS.call (β := FS) (k := 155) (args := #[iV .i64 4, nV .u64 d]) (Lin := []) (Lk := [g3.seg 5 (mc b8 (be 4 s))]) (Mi := []) (Lo := fun g8 => [g8.seg 5 (mc b8 (be 4 d)), g3.seg 5 (mc b8 (be 4 s))]) [] [0] rfl (fun _ => kr) ma2 rfl rfl rfl (fun w_ hm_ hl_ => rnum_c 4 d ma1 _) (fun _ => rfl)) (fun g8 hx12 => ?_)))
 obtain ⟨ok9, nn10⟩ := hx12
 refine Wl.htS rfl (HtS.append (eu := 5) (xv := sV g8 4) (i := 1) (g := g3) (e := 5) (ii := (Tryz.prog.info? 5).getD default) (z := iV .u8 0) (sz := 1) (bytes := 1) (nn := 4) (m := 4) (k := 4 + 4) (xs := mc b8 (be 4 s)) (news := mc b8 (be 4 d)) (cs' := mc b8 ((be 4 s) ++ (be 4 d))) (Lo := fun g13 => [g8.seg 5 (mc b8 (be 4 d)), g13.seg 5 (mc b8 ((be 4 s) ++ (be 4 d)))]) rfl rfl ma0 ma0 ma0 ma0 ma0 ma0 ma0 ma0 ma0 rfl ok4 ma21 (fun _ => rfl) (Src.at (a := g8.a) ma3 (fun w_ h_ => (FS.at (i := 0) (t := 5) h_ rfl (FS.nil_cs ok9 ma21)))) ma3 (mc_one (fun _ => rfl) _) ma5 ma8 ma5 (mc_app _ _) (fun _ => rfl)) (fun g13 hx18 => ?_)
 obtain ⟨ok14, hn15, hn16⟩ := hx18
 refine Wl.run 1 ma0 (Wl.nil (hK2 _ _ _ (W.pick (LL' := [g13.seg 5 (mc b8 ((be 4 s) ++ (be 4 d)))]) [1] ma2 rfl (W.prune' [2, 3, 9] [nV .u8 pr.toNat, Value.slice a xs.length cap, sV g13 (4 + 4)] ma0 (fun f19 => ?_)))))
 refine W.seq (fun K20 hK20 => W.region (Wl.run 2 ma0 (Wl.ht rfl (Ht.made (mk := fun b_ => .slice (some ⟨b_, 0, none⟩) 2 2) (t := 5) (cs := [iV .u8 0, nV .u8 pr.toNat]) rfl (fun _ => kr)) (fun p19 => Wl.htS rfl (HtS.append (eu := 5) (xv := Value.slice (some ⟨p19, 0, none⟩) 2 2) (i := 1) (g := g13) (e := 5) (ii := (Tryz.prog.info? 5).getD default) (z := iV .u8 0) (sz := 1) (bytes := 1) (nn := 4 + 4) (m := 2) (k := (4 + 4) + 2) (xs := mc b8 ((be 4 s) ++ (be 4 d))) (news := mc b8 [(0 : UInt8), pr]) (cs' := mc b8 (((be 4 s) ++ (be 4 d)) ++ [(0 : UInt8), pr])) (Lo := fun g21 => [[cb p19 [iV .u8 0, nV .u8 pr.toNat] 5], g21.seg 5 (mc b8 (((be 4 s) ++ (be 4 d)) ++ [(0 : UInt8), pr]))]) rfl rfl ma0 ma0 ma0 ma0 ma0 ma0 ma0 ma0 ma0 rfl ok14 (by simp [mc, be_len]; try omega) (fun _ => rfl) (Src.at (a := some ⟨p19, 0, none⟩) ma3 (fun w_ h_ => (At.lit0 (i := 0) (j := 0) (t := 5) (b := p19) h_ rfl rfl))) ma3 (mc_one (fun _ => rfl) _) ma5 ma8 ma5 (mc_app _ _) (fun _ => rfl)) (fun g21 hx26 => ?_)))))
 obtain ⟨ok22, hn23, hn24⟩ := hx26
 refine Wl.run 2 ma0 (Wl.htS rfl (HtS.call (β := FS) (k := 102) (args := #[nV .i64 xs.length]) (Lin := []) (Lk := [[cb p19 [iV .u8 0, nV .u8 pr.toNat] 5], g21.seg 5 (mc b8 (((be 4 s) ++ (be 4 d)) ++ [(0 : UInt8), pr]))]) (Mi := []) (Lo := fun g27 => [g27.seg 5 (mc b8 (be 2 xs.length)), [cb p19 [iV .u8 0, nV .u8 pr.toNat] 5], g21.seg 5 (mc b8 (((be 4 s) ++ (be 4 d)) ++ [(0 : UInt8), pr]))]) [] [0, 1] rfl (fun _ => kr) ma2 rfl rfl rfl (fun w_ hm_ hl_ => two_c xs.length _ ma1) (fun _ => rfl)) (fun g27 hx31 => ?_))
 obtain ⟨ok28, nn29⟩ := hx31
 refine Wl.htS rfl (HtS.append (eu := 5) (xv := sV g27 2) (i := 2) (g := g21) (e := 5) (ii := (Tryz.prog.info? 5).getD default) (z := iV .u8 0) (sz := 1) (bytes := 1) (nn := (4 + 4) + 2) (m := 2) (k := ((4 + 4) + 2) + 2) (xs := mc b8 (((be 4 s) ++ (be 4 d)) ++ [(0 : UInt8), pr])) (news := mc b8 (be 2 xs.length)) (cs' := mc b8 ((((be 4 s) ++ (be 4 d)) ++ [(0 : UInt8), pr]) ++ (be 2 xs.length))) (Lo := fun g32 => [g27.seg 5 (mc b8 (be 2 xs.length)), [cb p19 [iV .u8 0, nV .u8 pr.toNat] 5], g32.seg 5 (mc b8 ((((be 4 s) ++ (be 4 d)) ++ [(0 : UInt8), pr]) ++ (be 2 xs.length)))]) rfl rfl ma0 ma0 ma0 ma0 ma0 ma0 ma0 ma0 ma0 rfl ok22 (by simp [mc, be_len]; try omega) (fun _ => rfl) (Src.at (a := g27.a) ma3 (fun w_ h_ => (FS.at (i := 0) (t := 5) h_ rfl (FS.nil_cs ok28 (by rw [mc_len, be_len, Nat.mul_one]))))) ma3 (mc_one (fun _ => rfl) _) ma5 ma8 ma5 (mc_app _ _) (fun _ => rfl)) (fun g32 hx37 => ?_)
 obtain ⟨ok33, hn34, hn35⟩ := hx37
 refine Wl.run 1 ma0 (Wl.nil (hK20 _ _ _ (W.pick (LL' := [g32.seg 5 (mc b8 ((((be 4 s) ++ (be 4 d)) ++ [(0 : UInt8), pr]) ++ (be 2 xs.length)))]) [2] ma2 rfl (W.prune' [3, 9] [Value.slice a xs.length cap, sV g32 (((4 + 4) + 2) + 2)] ma0 (fun f38 => ?_)))))
 refine W.seq (fun K39 hK39 => W.region (Wl.run 2 ma0 (Wl.htS rfl (HtS.append (eu := 5) (xv := Value.slice a xs.length cap) (i := 0) (g := g32) (e := 5) (ii := (Tryz.prog.info? 5).getD default) (z := iV .u8 0) (sz := 1) (bytes := 1) (nn := ((4 + 4) + 2) + 2) (m := xs.length) (k := (((4 + 4) + 2) + 2) + xs.length) (xs := mc b8 ((((be 4 s) ++ (be 4 d)) ++ [(0 : UInt8), pr]) ++ (be 2 xs.length))) (news := mc b8 xs) (cs' := mc b8 (((((be 4 s) ++ (be 4 d)) ++ [(0 : UInt8), pr]) ++ (be 2 xs.length)) ++ xs)) (Lo := fun g40 => [g40.seg 5 (mc b8 (((((be 4 s) ++ (be 4 d)) ++ [(0 : UInt8), pr]) ++ (be 2 xs.length)) ++ xs))]) rfl rfl ma0 ma0 ma0 ma0 ma0 ma0 ma0 ma0 ma0 rfl ok33 (by simp [mc, be_len]; try omega) (fun _ => rfl) (Src.at (a := a) (mc_len1 _) (fun w_ h_ => (hat.mem0 h_))) (mc_len1 _) (mc_one (fun _ => rfl) _) ma5 ma8 ma5 (mc_app _ _) (fun _ => rfl)) (fun g40 hx45 => ?_))))
 obtain ⟨ok41, hn42, hn43⟩ := hx45
 refine Wl.yc (v := nV .u16 (cks (((((be 4 s) ++ (be 4 d)) ++ [(0 : UInt8), pr]) ++ (be 2 xs.length)) ++ xs))) rfl rfl (Yc.call (fun _ => kr) (fun w_ hm_ => (rsumn_c (((((be 4 s) ++ (be 4 d)) ++ [(0 : UInt8), pr]) ++ (be 2 xs.length)) ++ xs) g40.a ((((4 + 4) + 2) + 2) + xs.length) g40.cap _ (by first | rfl | (simp; done) | (simp [mc, be_len]; omega)) (FS.at (i := 0) (t := 5) hm_ rfl (FS.nil_cs ok41 (by simp [mc, be_len]; try omega))) ma1))) (Wl.run 1 ma0 (Wl.nil (hK39 _ _ _ (W.pick (LL' := []) [] ma2 rfl ?_))))
 refine W.prune' [8] [nV .u16 (cks (((((be 4 s) ++ (be 4 d)) ++ [(0 : UInt8), pr]) ++ (be 2 xs.length)) ++ xs))] ma0 (fun f46 => W.ret ?_)
 show ∀ w_, _ → bodyPostM (fence none) 0 Tryz.prog Tryz.f103 _ Exit.ret _ w_
 exact fun w_ hS_ => fin_ret (ret1 rfl (RV.tmp (v := nV .u16 (cks (((((be 4 s) ++ (be 4 d)) ++ [(0 : UInt8), pr]) ++ (be 2 xs.length)) ++ xs))) ma0) hS_ ⟨by clear hK1 hK2 hK20 hK39; refine congrArg Ending.returned ?_; exact int_congr (by unfold psh; rfl), hS_.below⟩)
theorem dsumn_c (s d : Nat) (pr : UInt8) (xs : List UInt8) (a : Option Addr) (len cap : Nat) (w : World) (hn : len = xs.length) (hat : At w a (byc xs)) (hs : s < 4294967296) (hd : d < 4294967296) (hx : len < 65536) (hxc : len ≤ cap) :
    Calls Tryz.prog 103 #[.int .u32 (s : Int), .int .u32 (d : Int), .int .u8 (pr.toNat : Int), .slice a len cap] w (Ret w (.int .u16 (cks (psh s d pr xs.length ++ xs) : Int))) := by
  subst hn; exact dsum_c s d pr xs a cap w hat hs hd hx hxc
end Go.Proofs.YtmonlaoaengfdaaGreatDoor.Oct
