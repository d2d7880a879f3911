import Derived.Test.YtgohlpdgeicncaaKOct13
import Derived.Test.YtgohlpdgeicncaaKEyeK
import Derived.Test.YtgohlpdgeicncaaKVI
set_option linter.unusedVariables false
set_option linter.unusedSimpArgs false
set_option maxRecDepth 20000
namespace Go.Proofs.Ytgohlpdgeicncaa.Oct
open Go.RowKit Base
attribute [local irreducible] Ys Yc Ht HtS HtIn Wl Wd W Mem pf dpf Wa Wo
def psh (s d : Nat) (pr : UInt8) (n : Nat) : List UInt8 := be 4 s ++ be 4 d ++ [0, pr] ++ be 2 n
theorem psh_len (s d : Nat) (pr : UInt8) (n : Nat) : (psh s d pr n).length = 12 := by unfold psh; simp [be_len]
def sput (zs : List UInt8) (k n : Nat) : List UInt8 := zs.take k ++ be 2 n ++ zs.drop (k + 2)
theorem sput_len {zs : List UInt8} {k n : Nat} (h : k + 2 ≤ zs.length) : (sput zs k n).length = zs.length := by unfold sput; simp [be_len]; omega
theorem pseudo_c (s d : Nat) (pr : UInt8) (n : Nat) (w : World) (hs : s < 4294967296) (hd : d < 4294967296) (hn : n < 65536) : Calls Try.prog 44 #[nV .u32 s, nV .u32 d, nV .u8 pr.toNat, nV .i64 n] w (RetM w (fun g : FS => g.ok 1 12) (fun g => .slice g.a 12 g.cap) [] (fun g => [g.seg 5 (byc (psh s d pr n))])) := by
 refine calls_W (M := []) (LL := []) (n := 22) Try.func44 rfl rfl ma6 (Mem.refl _) (W.seq (fun K1 hK1 => ?_))
 refine W.region (Wl.run 1 ma0 (Wl.nil (hK1 _ _ _ (W.seq (fun K2 hK2 => ?_)))))
 refine W.region (Wl.run 1 ma0 (Wl.ys (v := nV .u64 s) rfl rfl ((Ys.pure (v := .int .u64 (icnv .u64 (s : Int))) (fun _ => kr)).conseq (int_congr (wrap_u64 ma1 ma1))) (Wl.htS rfl (HtS.call (β := FS) (k := 42) (args := #[iV .i64 4, nV .u64 s]) (Lin := []) (Lk := []) (Mi := []) (Lo := fun g3 => [g3.seg 5 (mc b8 (be 4 s))]) [] [] rfl (fun _ => kr) ma3 rfl rfl rfl (fun w_ hm_ hl_ => num_c 4 s ma1 _) (fun _ => rfl)) (fun g3 hx7 => ?_))))
 obtain ⟨ok4, nn5⟩ := hx7
 refine Wl.run 1 ma0 (Wl.ys (v := nV .u64 d) rfl rfl ((Ys.pure (v := .int .u64 (icnv .u64 (d : Int))) (fun _ => kr)).conseq (int_congr (wrap_u64 ma1 ma1))) (Wl.htS rfl (HtS.call (β := FS) (k := 42) (args := #[iV .i64 4, nV .u64 d]) (Lin := []) (Lk := [g3.seg 5 (mc b8 (be 4 s))]) (Mi := []) (Lo := fun g8 => [g8.seg 5 (mc b8 (be 4 d)), g3.seg 5 (mc b8 (be 4 s))]) [] [0] rfl (fun _ => kr) ma3 rfl rfl rfl (fun w_ hm_ hl_ => num_c 4 d ma1 _) (fun _ => rfl)) (fun g8 hx12 => ?_)))
 obtain ⟨ok9, nn10⟩ := hx12
 refine Wl.run 1 ma0 (Wl.ht rfl (Ht.made (mk := fun b_ => .slice (some ⟨b_, 0, none⟩) 2 2) (t := 5) (cs := [iV .u8 0, nV .u8 pr.toNat]) rfl (fun _ => kr)) (fun p16 => ?_))
 refine Wl.run 1 ma0 (Wl.ys (v := nV .u64 n) rfl rfl ((Ys.pure (v := .int .u64 (icnv .u64 (n : Int))) (fun _ => kr)).conseq (int_congr (wrap_u64 ma1 ma1))) (Wl.htS rfl (HtS.call (β := FS) (k := 42) (args := #[iV .i64 2, nV .u64 n]) (Lin := []) (Lk := [[cb p16 [iV .u8 0, nV .u8 pr.toNat] 5], g8.seg 5 (mc b8 (be 4 d)), g3.seg 5 (mc b8 (be 4 s))]) (Mi := []) (Lo := fun g13 => [g13.seg 5 (mc b8 (be 2 n)), [cb p16 [iV .u8 0, nV .u8 pr.toNat] 5], g8.seg 5 (mc b8 (be 4 d)), g3.seg 5 (mc b8 (be 4 s))]) [] [0, 1, 2] rfl (fun _ => kr) ma3 rfl rfl rfl (fun w_ hm_ hl_ => num_c 2 n ma1 _) (fun _ => rfl)) (fun g13 hx17 => ?_)))
 obtain ⟨ok14, nn15⟩ := hx17
 refine Wl.ht rfl (Ht.made (mk := fun b_ => .slice (some ⟨b_, 0, none⟩) 4 4) (t := 26) (cs := [sV g3 4, sV g8 4, Value.slice (some ⟨p16, 0, none⟩) 2 2, sV g13 2]) rfl (fun _ => kr)) (fun p20 => Wl.htS rfl (HtS.call (β := FS) (k := 41) (args := #[Value.slice (some ⟨p20, 0, none⟩) 4 4]) (Lin := []) (Lk := [[cb p20 [sV g3 4, sV g8 4, Value.slice (some ⟨p16, 0, none⟩) 2 2, sV g13 2] 26], g13.seg 5 (mc b8 (be 2 n)), [cb p16 [iV .u8 0, nV .u8 pr.toNat] 5], g8.seg 5 (mc b8 (be 4 d)), g3.seg 5 (mc b8 (be 4 s))]) (Mi := []) (Lo := fun g18 => [g18.seg 5 (mc b8 ((be 4 s) ++ (be 4 d) ++ [(0 : UInt8), pr] ++ (be 2 n))), [cb p20 [sV g3 4, sV g8 4, Value.slice (some ⟨p16, 0, none⟩) 2 2, sV g13 2] 26], g13.seg 5 (mc b8 (be 2 n)), [cb p16 [iV .u8 0, nV .u8 pr.toNat] 5], g8.seg 5 (mc b8 (be 4 d)), g3.seg 5 (mc b8 (be 4 s))]) [] [0, 1, 2, 3, 4] rfl (fun _ => kr) ma3 rfl rfl rfl (fun w_ hm_ hl_ => (ojoinn_c [⟨g3.a, (be 4 s), g3.cap⟩, ⟨g8.a, (be 4 d), g8.cap⟩, ⟨some ⟨p16, 0, none⟩, [(0 : UInt8), pr], 2⟩, ⟨g13.a, (be 2 n), g13.cap⟩] ((be 4 s) ++ (be 4 d) ++ [(0 : UInt8), pr] ++ (be 2 n)) (some ⟨p20, 0, none⟩) 4 4 (4 + 4 + 2 + 2) _ rfl (by simp [jn]) (by simp [be_len]; try omega) (by first | exact At.lit0 (i := 0) (j := 0) (t := 26) (b := p20) hm_ rfl rfl | (rw [show mc slv ([⟨g3.a, (be 4 s), g3.cap⟩, ⟨g8.a, (be 4 d), g8.cap⟩, ⟨some ⟨p16, 0, none⟩, [(0 : UInt8), pr], 2⟩, ⟨g13.a, (be 2 n), g13.cap⟩] : List SV) = [sV g3 4, sV g8 4, Value.slice (some ⟨p16, 0, none⟩) 2 2, sV g13 2] by (simp [mc, be_len]; try omega)]; exact At.lit0 (i := 0) (j := 0) (t := 26) (b := p20) hm_ rfl rfl)) (List.forall_mem_cons.2 ⟨(FS.at (i := 4) (t := 5) hm_ rfl (FS.nil_cs ok4 ma2)), (List.forall_mem_cons.2 ⟨(FS.at (i := 3) (t := 5) hm_ rfl (FS.nil_cs ok9 ma2)), (List.forall_mem_cons.2 ⟨(At.lit0 (i := 2) (j := 0) (t := 5) (b := p16) hm_ rfl rfl), (List.forall_mem_cons.2 ⟨(FS.at (i := 1) (t := 5) hm_ rfl (FS.nil_cs ok14 ma2)), (fun _ h => by cases h)⟩)⟩)⟩)⟩) (by first | omega | (simp [be_len]; omega)) ma6 ma6)) (fun _ => rfl)) (fun g18 hx22 => ?_))
 obtain ⟨ok19, nn20⟩ := hx22
 refine Wl.run 1 ma0 (Wl.nil (hK2 _ _ _ (W.pick (LL' := [g18.seg 5 (mc b8 ((be 4 s) ++ (be 4 d) ++ [(0 : UInt8), pr] ++ (be 2 n)))]) [0] ma3 rfl (W.prune' [8] [sV g18 (4 + 4 + 2 + 2)] ma0 (fun f23 => ?_)))))
 refine W.ret ?_
 have hB : psh s d pr n = (be 4 s) ++ (be 4 d) ++ [(0 : UInt8), pr] ++ (be 2 n) := rfl
 show ∀ w_, _ → bodyPostM (fence none) 0 Try.prog Try.f44 _ Exit.ret _ w_
 exact fun w_ hS_ => fin_ret (ret1 rfl (RV.tmp (v := sV g18 (4 + 4 + 2 + 2)) ma0) hS_ ⟨g18, ok19, rfl, (Mem.cast (by rw [hB]; rfl) (hS_.pick [0] ma3 rfl))⟩)
def bnd (n least : Nat) : Int := if n < least then 10 else if 1480 < n then 14 else 0
theorem bounds_c (a : Option Addr) (len cap k : Nat) (w : World) (hl : len ≤ 9223372036854775807) (hk : k ≤ 100) : Calls Try.prog 49 #[Value.slice a len cap, nV .i64 k] w (Ret w (.int .i64 (bnd len k))) := by
 refine calls_W (M := []) (LL := []) (n := 14) Try.func49 rfl rfl ma6 (Mem.refl _) (W.seq (fun K1 hK1 => ?_))
 refine W.region (Wl.run 1 ma0 (Wl.nil (hK1 _ _ _ (W.seq (fun K2 hK2 => ?_)))))
 refine W.block (W.seq (fun K3 hK3 => ?_))
 refine W.region (Wl.run 5 ma0 (Wl.nil (hK3 _ _ _ (W.prune' [0, 5] [Value.slice a len cap, bV (decide (((len : Nat) : Int) < (k : Int)))] ma0 (fun f4 => ?_)))))
 refine W.cond (decide (((len : Nat) : Int) < (k : Int))) ma0 (fun h5 => ?_) (fun h6 => ?_)
 ·have qh5 := h5; try simp only [zA] at qh5
  refine W.seq (fun K7 hK7 => W.region (Wl.run 1 ma0 (Wl.nil (hK7 _ _ _ ?_))))
  refine W.ret ?_
  show ∀ w_, _ → bodyPostM (fence none) 0 Try.prog Try.f49 _ Exit.ret _ w_
  exact fun w_ hS_ => fin_ret (ret1 rfl (RV.tmp (v := iV .i64 10) ma0) hS_ ⟨by clear hK1 hK2 hK3 hK7; refine congrArg Ending.returned ?_; exact int_congr ma13, hS_.below⟩)
 ·have qh6 := h6; try simp only [zA] at qh6
  refine W.seq (fun K8 hK8 => W.region (Wl.run 4 ma0 (Wl.nil (hK8 _ _ _ ?_))))
  refine W.prune' [10] [bV (decide (((len : Nat) : Int) > 1480))] ma0 (fun f9 => ?_)
  refine W.cond (decide (((len : Nat) : Int) > 1480)) ma0 (fun h10 => ?_) (fun h11 => ?_)
  ·have qh10 := h10; try simp only [zA] at qh10
   refine W.seq (fun K12 hK12 => W.region (Wl.run 1 ma0 (Wl.nil (hK12 _ _ _ ?_))))
   refine W.ret ?_
   show ∀ w_, _ → bodyPostM (fence none) 0 Try.prog Try.f49 _ Exit.ret _ w_
   exact fun w_ hS_ => fin_ret (ret1 rfl (RV.tmp (v := iV .i64 14) ma0) hS_ ⟨by clear hK1 hK2 hK3 hK8 hK12; refine congrArg Ending.returned ?_; exact int_congr ma13, hS_.below⟩)
  ·have qh11 := h11; try simp only [zA] at qh11
   refine W.skip' (hK2 _ _ _ (W.prune' [] [] ma0 (fun f13 => W.seq (fun K14 hK14 => W.region ?_))))
   refine Wl.run 1 ma0 (Wl.nil (hK14 _ _ _ (W.ret ?_)))
   show ∀ w_, _ → bodyPostM (fence none) 0 Try.prog Try.f49 _ Exit.ret _ w_
   exact fun w_ hS_ => fin_ret (ret1 rfl (RV.tmp (v := iV .i64 0) ma0) hS_ ⟨by clear hK1 hK2 hK3 hK8 hK14; refine congrArg Ending.returned ?_; exact int_congr ma13, hS_.below⟩)
theorem seal_c (g : FS) (zs : List UInt8) (k n : Nat) (M : List Nat) (w : World) (hl : Mem w M [g.seg 5 (byc zs)] w) (ok : g.ok 1 zs.length) (hnn : g.nil = false) (hk : k + 2 ≤ zs.length) (hz : zs.length ≤ 1000000) (hn : n < 65536) : Calls Try.prog 45 #[sV g zs.length, nV .i64 k, nV .u16 n] w (RetM w (fun g : FS => g.ok 1 zs.length ∧ g.nil = false) (fun g => .slice g.a zs.length g.cap) M (fun g => [g.seg 5 (byc (sput zs k n))])) := by
 refine calls_W (M := M) (LL := [g.seg 5 (mc b8 zs)]) (n := 15) Try.func45 rfl rfl ma6 (hl) (W.seq (fun K1 hK1 => ?_))
 refine W.region (Wl.run 1 ma0 (Wl.nil (hK1 _ _ _ (W.seq (fun K2 hK2 => ?_)))))
 have hn4 := hnn
 obtain ⟨gn3, gb, gc, gr⟩ := g
 obtain rfl : gn3 = false := hn4
 have hc5 : zs.length ≤ gc := ok.le
 refine W.draws [(0, true), (1, true), (2, true), (3, false), (4, false), (5, false), (6, false)] [0, 1, 2] (Mem w M []) ma0 ma0 ma0 rfl ma0 (fun _ _ h_ => h_.drawn _) (fun _ h_ => h_.pick [] ma3 rfl) (Wd.run 2 ma0 (Wd.ys (v := Value.slice (sla (some ⟨gb, 0, none⟩) gc k 1) (zs.length - k) (gc - k)) rfl rfl rfl (Ys.sliceL (a := some ⟨gb, 0, none⟩) (len := zs.length) (cap := gc) (sz := 1) (k := .i64) (i := (k : Int)) rfl ma0 ma0 Try.runUnderlying26 Try.sizeOf5 ma1 ma1) (Wd.yc (v := nV .u16 n) rfl rfl rfl (Ys.yc (Ys.pure (fun _ => kr))) (.inr fun _ h_ => h_.pick [] ma3 rfl) (Wd.yc (v := nV .u64 n) rfl rfl rfl (Ys.yc ((Ys.pure (v := .int .u64 (icnv .u64 (n : Int))) (fun _ => kr)).conseq (int_congr (wrap_u64 ma1 ma1)))) (.inr fun _ h_ => h_.pick [] ma3 rfl) ?_))))
 refine Wd.htS rfl rfl (HtS.call (β := FS) (k := 42) (args := #[iV .i64 2, nV .u64 n]) (Lin := []) (Lk := [[cb gb ((mc b8 zs) ++ gr) 5]]) (Mi := []) (Lo := fun g6 => [g6.seg 5 (mc b8 (be 2 n)), [cb gb ((mc b8 zs) ++ gr) 5]]) [] [0] rfl (fun _ => kr) ma3 rfl rfl rfl (fun w_ hm_ hl_ => num_c 2 n ma1 _) (fun _ => rfl)) (.inr fun _ _ h_ => h_.pick [] ma3 rfl) (fun g6 hx10 => ?_)
 obtain ⟨ok7, nn8⟩ := hx10
 refine Wd.ht rfl rfl (Ht.copySub (cap := gc) (dl := zs.length - k) (dc := gc - k) (m := 2) (q := 2) (sz := 1) (o' := k) (i := 1) (j := 0) (e := 5) (ii := (Try.prog.info? 5).getD default) (b := gb) (t := 5) (xv := sV g6 2) (cs := (mc b8 zs) ++ gr) (news := mc b8 (be 2 n)) (cs' := (mc b8 (zs.take k ++ (be 2 n) ++ zs.drop (k + (be 2 n).length))) ++ gr) (LL' := [g6.seg 5 (mc b8 (be 2 n)), [cb gb ((mc b8 (zs.take k ++ (be 2 n) ++ zs.drop (k + (be 2 n).length))) ++ gr) 5]]) rfl rfl ma0 ma0 ma0 ma0 ma1 ma0 rfl rfl (fun _ => rfl) (by show min _ _ = _; first | omega | (simp; omega)) (Src.at (a := g6.a) ma4 (fun w_ h_ => (FS.at (i := 0) (t := 5) h_ rfl (FS.nil_cs ok7 ma2)))) ma4 ma7 (mc_one (fun _ => rfl) _) (app_put (by first | (simp [mc, be_len]; done) | (simp [mc, be_len]; omega)) (mc_put1 (g := b8) zs (be 2 n) k)) rfl) (.inr fun _ _ h_ => h_.pick [] ma3 rfl) (fun _ => Wd.nil (hK2 _ _ _ (W.pick (LL' := [[cb gb ((mc b8 (zs.take k ++ (be 2 n) ++ zs.drop (k + (be 2 n).length))) ++ gr) 5]]) [1] ma3 rfl (W.prune' [0] [Value.slice (some ⟨gb, 0, none⟩) zs.length gc] ma0 (fun f11 => ?_)))))
 refine W.seq (fun K12 hK12 => W.region (Wl.run 2 ma0 (Wl.nil (hK12 _ _ _ ?_))))
 refine W.prune' [6] [Value.slice (some ⟨gb, 0, none⟩) zs.length gc] ma0 (fun f13 => W.ret ?_)
 have hpl := sput_len (n := n) hk
 show ∀ w_, _ → bodyPostM (fence none) 0 Try.prog Try.f45 _ Exit.ret _ w_
 exact fun w_ hS_ => fin_ret (ret1 rfl (RV.tmp (v := Value.slice (some ⟨gb, 0, none⟩) zs.length gc) ma0) hS_ ⟨(FS.mk false gb gc gr), ⟨ok, rfl⟩, rfl, (Mem.cast (by unfold sput; rw [be_len]; rfl) (hS_.pick [0] ma3 rfl))⟩)
theorem sealn_seal (g : FS) (zs : List UInt8) (len k n : Nat) (M : List Nat) (w : World) (hlen : len = zs.length) (hl : Mem w M [g.seg 5 (byc zs)] w) (ok : g.ok 1 len) (hnn : g.nil = false) (hk : k + 2 ≤ zs.length) (hz : zs.length ≤ 1000000) (hn : n < 65536) :
    Calls Try.prog 45 #[.slice g.a len g.cap, .int .i64 (k : Int), .int .u16 (n : Int)] w (RetM w (fun g : FS => g.ok 1 len ∧ g.nil = false) (fun g => .slice g.a len g.cap) M (fun g => [g.seg 5 (byc (sput zs k n))])) := by
  subst hlen; exact seal_c g zs k n M w hl ok hnn hk hz hn
end Go.Proofs.Ytgohlpdgeicncaa.Oct
