import Derived.Test.YtejeafjkhomdoaaKFl8
import Derived.Test.YtejeafjkhomdoaaKOct15
set_option linter.unusedVariables false
set_option linter.unusedSimpArgs false
set_option maxRecDepth 20000
namespace Go.Proofs.Ytejeafjkhomdoaa.Oct
open Go.RowKit Base
attribute [local irreducible] Ys Yc Ht HtS HtIn Wl Wd W Mem pf dpf Wa Wo
theorem bclone_c (zs : List UInt8) (a : Option Addr) (cap : Nat) (w : World) (hat : At w a (byc zs)) (h0 : 0 < zs.length) (hz : zs.length ≤ 1000000) (hlc : zs.length ≤ cap) : Calls Try.prog 67 #[Value.slice a zs.length cap] w (RetM w (fun g : FS => g.ok 1 zs.length ∧ g.nil = false) (fun g => .slice g.a zs.length g.cap) [] (fun g => [g.seg 5 (byc zs)])) := by
 refine calls_W (M := []) (LL := []) (n := 8) Try.func67 rfl rfl ma10 (Mem.refl _) (W.seq (fun K1 hK1 => ?_))
 refine W.region (Wl.run 1 ma0 (Wl.nil (hK1 _ _ _ (W.seq (fun K2 hK2 => ?_)))))
 refine W.seq (fun K3 hK3 => W.region (Wl.run 1 ma0 (Wl.ys (v := bV a.isNone) rfl rfl (Ys.pure (fun _ => by generalize a = a_; cases a_ <;> kernel_rfl)) (Wl.nil ?_))))
 refine hK3 _ _ _ ?_
 refine W.cond (a.isNone) ma0 (fun h4 => ?_) (fun h5 => ?_)
 ·(exfalso; have z_ := hat.here (by rw [mc_len]; omega); rw [z_] at h4; cases h4)
 ·refine W.skip' (hK2 _ _ _ (W.seq (fun K6 hK6 => W.region (Wl.ht rfl (Ht.made (mk := fun b_ => .slice (some ⟨b_, 0, none⟩) 0 0) (t := 5) (cs := []) rfl (fun _ => kr)) (fun p5 => ?_)))))
  refine Wl.run 1 ma0 (Wl.htS rfl (HtS.append (eu := 5) (xv := Value.slice a zs.length cap) (i := 0) (g := (FS.mk false p5 0 [])) (e := 5) (ii := (Try.prog.info? 5).getD default) (z := iV .u8 0) (sz := 1) (bytes := 1) (nn := 0) (m := zs.length) (k := zs.length) (xs := mc b8 []) (news := mc b8 zs) (cs' := mc b8 zs) (Lo := fun g7 => [g7.seg 5 (mc b8 zs)]) rfl rfl ma0 ma0 ma0 ma0 ma0 ma0 ma0 ma0 ma0 rfl (FS.lit_ok ma2) (by first | rfl | simp [mc, be_len, psh_len]) (fun _ => rfl) (Src.at (a := a) (mc_len1 _) (fun w_ h_ => (hat.mem0 h_))) (mc_len1 _) (mc_one (fun _ => rfl) _) ma5 ma13 ma5 rfl (fun _ => rfl)) (fun g7 hx12 => ?_))
  obtain ⟨ok8, hn9, hn10⟩ := hx12
  refine Wl.run 1 ma0 (Wl.nil (hK6 _ _ _ (W.ret ?_)))
  show ∀ w_, _ → bodyPostM (fence none) 0 Try.prog Try.f67 _ Exit.ret _ w_
  exact fun w_ hS_ => fin_ret (ret1 rfl (RV.tmp (v := sV g7 zs.length) ma0) hS_ ⟨g7, ⟨ok8, FS.notnil ok8 ma1⟩, rfl, (hS_.pick [0] ma2 rfl)⟩)
theorem bclonen_c (zs : List UInt8) (a : Option Addr) (cap len : Nat) (w : World) (hn : len = zs.length) (hat : At w a (byc zs)) (h0 : 0 < zs.length) (hz : zs.length ≤ 1000000) (hlc : zs.length ≤ cap) : Calls Try.prog 67 #[.slice a len cap] w (RetM w (fun g : FS => g.ok 1 zs.length ∧ g.nil = false) (fun g => .slice g.a zs.length g.cap) [] (fun g => [g.seg 5 (byc zs)])) := by
  subst hn; exact bclone_c zs a cap w hat h0 hz hlc
def hw (n : Nat) : Nat := n / 65536 % 65536
def lw (n : Nat) : Nat := n % 65536
theorem hw_lt (n : Nat) : hw n < 65536 := by unfold hw; omega
theorem lw_lt (n : Nat) : lw n < 65536 := by unfold lw; omega
theorem ends_c (pr : UInt8) (s d fr to : Nat) (w : World) (hs : s < 4294967296) (hd : d < 4294967296) : Calls Try.prog 68 #[aV [nV .u8 pr.toNat, nV .u32 s, nV .u32 d, nV .u16 fr, nV .u16 to]] w (Ret w (.agg ([nV .u16 (hw s), nV .u16 (lw s), nV .u16 (hw d), nV .u16 (lw d)]).toArray)) := by
 refine calls_W (M := []) (LL := []) (n := 18) Try.func68 rfl rfl ma10 (Mem.refl _) (W.seq (fun K1 hK1 => ?_))
 refine W.region (Wl.ht rfl (Ht.box (v := aV [nV .u8 pr.toNat, nV .u32 s, nV .u32 d, nV .u16 fr, nV .u16 to]) (cs := [nV .u8 pr.toNat, nV .u32 s, nV .u32 d, nV .u16 fr, nV .u16 to]) rfl rfl ma0 rfl) (fun p1 => ?_))
 refine Wl.ht rfl (Ht.alloc (z := aV zl3) (cs := zl3) rfl rfl Try.zeroValue118 rfl) (fun p2 => Wl.nil (hK1 _ _ _ (W.seq (fun K2 hK2 => W.region ?_))))
 refine Wl.run 1 ma0 (Wl.ys rfl rfl (Ys.l1 p1 1 1 0 Try.isAgg24) (Wl.ys (v := nV .u32 (s / 65536)) rfl rfl ((Ys.pure (v := .int .u32 (ishr .u32 (s : Int) ((16 : Nat) : Int))) (fun _ => kr)).conseq (int_congr (ishr_nat s 16 ma2))) (Wl.ys (v := nV .u16 ((s / 65536) % 65536)) rfl rfl ((Ys.pure (v := .int .u16 (icnv .u16 ((s / 65536 : Nat) : Int))) (fun _ => kr)).conseq (int_congr (icnv_mod rfl _))) (Wl.run 1 ma0 ?_))))
 refine Wl.ys rfl rfl (Ys.l1 p1 1 1 0 Try.isAgg24) (Wl.ys (v := nV .u16 (s % 65536)) rfl rfl ((Ys.pure (v := .int .u16 (icnv .u16 (s : Int))) (fun _ => kr)).conseq (int_congr (icnv_mod rfl _))) (Wl.run 1 ma0 (Wl.ys rfl rfl (Ys.l1 p1 2 1 0 Try.isAgg24) (Wl.ys (v := nV .u32 (d / 65536)) rfl rfl ((Ys.pure (v := .int .u32 (ishr .u32 (d : Int) ((16 : Nat) : Int))) (fun _ => kr)).conseq (int_congr (ishr_nat d 16 ma2))) ?_))))
 refine Wl.ys (v := nV .u16 ((d / 65536) % 65536)) rfl rfl ((Ys.pure (v := .int .u16 (icnv .u16 ((d / 65536 : Nat) : Int))) (fun _ => kr)).conseq (int_congr (icnv_mod rfl _))) (Wl.run 1 ma0 (Wl.ys rfl rfl (Ys.l1 p1 2 1 0 Try.isAgg24) (Wl.ys (v := nV .u16 (d % 65536)) rfl rfl ((Ys.pure (v := .int .u16 (icnv .u16 (d : Int))) (fun _ => kr)).conseq (int_congr (icnv_mod rfl _))) (Wl.run 1 ma0 ?_))))
 refine Wl.ht rfl (Ht.storeN (b := p2) (o' := 0) (i := 0) (j := 0) (vs := [nV .u16 ((s / 65536) % 65536), nV .u16 (s % 65536), nV .u16 ((d / 65536) % 65536), nV .u16 (d % 65536)]) (LL' := [[cb p2 [nV .u16 ((s / 65536) % 65536), nV .u16 (s % 65536), nV .u16 ((d / 65536) % 65536), nV .u16 (d % 65536)] 118], [cb p1 [nV .u8 pr.toNat, nV .u32 s, nV .u32 d, nV .u16 fr, nV .u16 to] 30]]) rfl rfl ma0 ma0 Try.sizeOf118 ma9 rfl rfl ma10 rfl rfl) (fun _ => Wl.nil (hK2 _ _ _ (W.pick (LL' := [[cb p2 [nV .u16 ((s / 65536) % 65536), nV .u16 (s % 65536), nV .u16 ((d / 65536) % 65536), nV .u16 (d % 65536)] 118]]) [0] ma2 rfl (W.prune' [2] [pV p2 0] ma0 (fun f3 => ?_)))))
 refine W.ret ?_
 show ∀ w_, _ → bodyPostM (fence none) 0 Try.prog Try.f68 _ Exit.ret _ w_
 exact fun w_ hS_ => fin_ret (ret1 rfl (RV.cellN (b := p2) (o' := 0) (i := 0) (j := 0) (cs := [nV .u16 ((s / 65536) % 65536), nV .u16 (s % 65536), nV .u16 ((d / 65536) % 65536), nV .u16 (d % 65536)]) (vs := [nV .u16 ((s / 65536) % 65536), nV .u16 (s % 65536), nV .u16 ((d / 65536) % 65536), nV .u16 (d % 65536)]) ma0 Try.isAgg118 Try.sizeOf118 rfl rfl rfl rfl) hS_ ⟨rfl, hS_.below⟩)
def bput (zs : List UInt8) (k n : Nat) : List UInt8 := (zs.set k (UInt8.ofNat (n / 256))).set (k + 1) (UInt8.ofNat (n % 256))
theorem bput_sput {zs : List UInt8} {k n : Nat} (h : k + 2 ≤ zs.length) : bput zs k n = sput zs k n := sput_set h
theorem bput_len (zs : List UInt8) (k n : Nat) : (bput zs k n).length = zs.length := by unfold bput; simp
theorem bput_get (zs : List UInt8) {k n p : Nat} (h : p + 1 ≤ k ∨ k + 2 ≤ p) : (bput zs k n).getD p 0 = zs.getD p 0 := by
  unfold bput; simp only [List.getD_eq_getElem?_getD]
  rw [List.getElem?_set_ne ma1, List.getElem?_set_ne ma1]
theorem bput_lenZ {z Z : List UInt8} {k n : Nat} (h : bput z k n = Z) : Z.length = z.length := by rw [← h]; exact bput_len ..
theorem kle {z zs : List UInt8} {k m : Nat} (e : z.length = zs.length) (h : m ≤ zs.length) (hk : k ≤ m) : k ≤ z.length := by omega
theorem lez {z zs : List UInt8} {m : Nat} (e : z.length = zs.length) (h : zs.length ≤ m) : z.length ≤ m := by omega
theorem lec {z : List UInt8} {m n : Nat} (e : z.length = n) (h : n ≤ m) : z.length ≤ m := by omega
theorem mcl {z : List UInt8} {n : Nat} (h : z.length = n) : (mc b8 z).length = n * 1 := by rw [mc_len, h, Nat.mul_one]
theorem w2_ne {z Z : List UInt8} {k n p : Nat} (h : bput z k n = Z) (hd : p + 2 ≤ k ∨ k + 2 ≤ p) : w2 Z p = w2 z p := by
  subst h; unfold w2; rw [bput_get _ ma1, bput_get _ ma1]
theorem gd_ne {z Z : List UInt8} {k n p : Nat} (h : bput z k n = Z) (hd : p + 1 ≤ k ∨ k + 2 ≤ p) : Z.getD p 0 = z.getD p 0 := by subst h; exact bput_get _ hd
theorem w2_eq {z Z : List UInt8} {k n : Nat} (h : bput z k n = Z) (hl : k + 2 ≤ z.length) (hn : n < 65536) : w2 Z k = n := by
  subst h; unfold w2 bput; simp only [List.getD_eq_getElem?_getD]
  rw [List.getElem?_set_ne ma1, List.getElem?_set_self ma1, List.getElem?_set_self (by simp; omega)]
  simp; omega
theorem flay_c (g : FS) (zs : List UInt8) (k n : Nat) (M : List Nat) (w : World) (hl : Mem w M [g.seg 5 (byc zs)] w) (ok : g.ok 1 zs.length) (hnn : g.nil = false) (hk : k + 2 ≤ zs.length) (hz : zs.length ≤ 1000000) (hn : n < 65536) : Calls Try.prog 69 #[sV g zs.length, nV .i64 k, nV .u16 n] w (RetM w (fun _ : Unit => True) (fun _ => .tuple #[]) M (fun _ => [g.seg 5 (byc (bput zs k n))])) := by
 refine calls_W (M := M) (LL := [g.seg 5 (mc b8 zs)]) (n := 13) Try.func69 rfl rfl ma10 (hl) ?_
 have hn2 := hnn
 obtain ⟨gn1, gb, gc, gr⟩ := g
 obtain rfl : gn1 = false := hn2
 have hc3 : zs.length ≤ gc := ok.le
 refine W.draws [(0, true), (1, true), (2, true), (3, false), (4, false), (5, false), (6, false)] [0, 1, 2] (Mem w M []) ma0 ma0 ma0 rfl ma0 (fun _ _ h_ => h_.drawn _) (fun _ h_ => h_.pick [] ma2 rfl) (Wd.run 2 ma0 (Wd.ys (v := Value.slice (sla (some ⟨gb, 0, none⟩) gc k 1) (zs.length - k) (gc - k)) rfl rfl rfl (Ys.sliceL (a := some ⟨gb, 0, none⟩) (len := zs.length) (cap := gc) (sz := 1) (k := .i64) (i := (k : Int)) rfl ma0 ma0 Try.runUnderlying25 Try.sizeOf5 ma1 ma1) (Wd.yc (v := nV .u16 n) rfl rfl rfl (Ys.yc (Ys.pure (fun _ => kr))) (.inr fun _ h_ => h_.pick [] ma2 rfl) (Wd.yc (v := nV .u64 n) rfl rfl rfl (Ys.yc ((Ys.pure (v := .int .u64 (icnv .u64 (n : Int))) (fun _ => kr)).conseq (int_congr (wrap_u64 ma1 ma1)))) (.inr fun _ h_ => h_.pick [] ma2 rfl) ?_))))
 refine Wd.htS rfl rfl (HtS.call (β := FS) (k := 64) (args := #[iV .i64 2, nV .u64 n]) (Lin := []) (Lk := [[cb gb ((mc b8 zs) ++ gr) 5]]) (Mi := []) (Lo := fun g4 => [g4.seg 5 (mc b8 (be 2 n)), [cb gb ((mc b8 zs) ++ gr) 5]]) [] [0] rfl (fun _ => kr) ma2 rfl rfl rfl (fun w_ hm_ hl_ => num_c 2 n ma1 _) (fun _ => rfl)) (.inr fun _ _ h_ => h_.pick [] ma2 rfl) (fun g4 hx8 => ?_)
 obtain ⟨ok5, nn6⟩ := hx8
 refine Wd.ht rfl rfl (Ht.copySub (cap := gc) (dl := zs.length - k) (dc := gc - k) (m := 2) (q := 2) (sz := 1) (o' := k) (i := 1) (j := 0) (e := 5) (ii := (Try.prog.info? 5).getD default) (b := gb) (t := 5) (xv := sV g4 2) (cs := (mc b8 zs) ++ gr) (news := mc b8 (be 2 n)) (cs' := (mc b8 (zs.take k ++ (be 2 n) ++ zs.drop (k + (be 2 n).length))) ++ gr) (LL' := [g4.seg 5 (mc b8 (be 2 n)), [cb gb ((mc b8 (zs.take k ++ (be 2 n) ++ zs.drop (k + (be 2 n).length))) ++ gr) 5]]) rfl rfl ma0 ma0 ma0 ma0 ma1 ma0 rfl rfl (fun _ => rfl) (by show min _ _ = _; first | omega | (simp; omega)) (Src.at (a := g4.a) ma4 (fun w_ h_ => (FS.at (i := 0) (t := 5) h_ rfl (FS.nil_cs ok5 ma18)))) ma4 (by first | (simp only [mc_len]; omega) | (simp only [mc_len, List.length_append, List.length_take, List.length_drop]; omega) | (simp [mc, be_len, psh_len]; try omega)) (mc_one (fun _ => rfl) _) (app_put (by first | (simp [mc, be_len, psh_len]; done) | (simp [mc, be_len, psh_len]; omega)) (mc_put1 (g := b8) zs (be 2 n) k)) rfl) (.inr fun _ _ h_ => h_.pick [] ma2 rfl) (fun _ => Wd.nil ?_)
 show ∀ w_, _ → bodyPostM (fence none) 0 Try.prog Try.f69 _ Exit.normal _ w_
 exact fun w_ hS_ => fin_normal (ret0 rfl  ⟨(), trivial, rfl, (Mem.cast (by rw [bput_sput hk]; unfold sput; rw [be_len]; rfl) (hS_.pick [1] ma2 rfl))⟩)
theorem flayn_c (g : FS) (zs : List UInt8) (len k n : Nat) (M : List Nat) (w : World) (Z : List UInt8) (hZ : bput zs k n = Z) (hlen : len = zs.length) (hl : Mem w M [g.seg 5 (byc zs)] w) (ok : g.ok 1 len) (hnn : g.nil = false) (hk : k + 2 ≤ zs.length) (hz : zs.length ≤ 1000000) (hn : n < 65536) :
    Calls Try.prog 69 #[.slice g.a len g.cap, .int .i64 (k : Int), .int .u16 (n : Int)] w (RetM w (fun _ : Unit => True) (fun _ => .tuple #[]) M (fun _ => [g.seg 5 (byc Z)])) := by
  subst hlen; subst hZ; exact flay_c g zs k n M w hl ok hnn hk hz hn
theorem wordnz_c (xs : List UInt8) (a : Option Addr) (cap k : Nat) (len : Nat) (w : World) {v : Nat} (hv : w2 xs k = v) (hn : len = xs.length) (hat : At w a (byc xs)) (hk : k + 1 < xs.length) (hl : xs.length ≤ 1000000) (hlc : xs.length ≤ cap)  : Calls Try.prog 71 #[.slice a len cap, .int .i64 (k : Int)] w (Ret w (.int .u16 (v : Int))) := by
  subst hv; exact wordn_c xs a cap k len w hn hat hk hl hlc
theorem upc_lt (n a b : Nat) : upc n a b < 65536 := by have := upc_le n a b; omega
end Go.Proofs.Ytejeafjkhomdoaa.Oct
