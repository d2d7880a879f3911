import Derived.Test.YtejeafjkhomdoaaKOct13
import Derived.Test.YtejeafjkhomdoaaKEyeK
import Derived.Test.YtejeafjkhomdoaaKVI
set_option linter.unusedVariables false
set_option linter.unusedSimpArgs false
set_option maxRecDepth 20000
namespace Go.Proofs.Ytejeafjkhomdoaa.Oct
open Go.RowKit Base
attribute [local irreducible] Ys Yc Ht HtIn Wl Wd W Mem pf dpf Wa Wo
def psh (s d : Nat) (pr : UInt8) (n : Nat) : List UInt8 := be 4 s ++ be 4 d ++ [0, pr] ++ be 2 n
theorem psh_len (s d : Nat) (pr : UInt8) (n : Nat) : (psh s d pr n).length = 12 := by unfold psh; simp [be_len]
def sput (zs : List UInt8) (k n : Nat) : List UInt8 := zs.take k ++ be 2 n ++ zs.drop (k + 2)
theorem sput_len {zs : List UInt8} {k n : Nat} (h : k + 2 ≤ zs.length) : (sput zs k n).length = zs.length := by unfold sput; simp [be_len]; omega
theorem sput_set {zs : List UInt8} {k n : Nat} (h : k + 2 ≤ zs.length) : (zs.set k (UInt8.ofNat (n / 256))).set (k + 1) (UInt8.ofNat (n % 256)) = sput zs k n := by
  have e : UInt8.ofNat (n % 256) = UInt8.ofNat n := ofNat_mod n
  rw [e]
  unfold sput
  apply List.ext_getElem?
  intro i
  rw [List.getElem?_set, List.getElem?_set, List.length_set]
  have hl : (zs.take k).length = k := by rw [List.length_take]; omega
  by_cases h1 : i < k
  · rw [if_neg (by omega), if_neg (by omega), List.append_assoc, List.getElem?_append_left (by omega), List.getElem?_take, if_pos h1]
  · rw [List.append_assoc, List.getElem?_append_right (by omega), hl]
    by_cases h2 : i = k
    · subst h2; rw [if_neg (by omega), if_pos rfl, if_pos (by omega), Nat.sub_self]; rfl
    · by_cases h3 : i = k + 1
      · subst h3; rw [if_pos rfl, if_pos (by omega), show k + 1 - k = 1 by omega]; rfl
      · rw [if_neg (by omega), if_neg (by omega), List.getElem?_append_right (by rw [be_len]; omega), be_len, List.getElem?_drop]
        congr 1; omega
theorem pseudo_c (s d : Nat) (pr : UInt8) (n : Nat) (w : World) (hs : s < 4294967296) (hd : d < 4294967296) (hn : n < 65536) : Calls Try.prog 48 #[Value.int .u32 ((s : Nat) : Int), Value.int .u32 ((d : Nat) : Int), Value.int .u8 ((pr.toNat : Nat) : Int), Value.int .i64 ((n : Nat) : Int)] w (RetM w (fun g : FS => g.ok 1 12) (fun g => .slice g.a 12 g.cap) [] (fun g => [g.seg 5 (byc (psh s d pr n))])) := by
  refine calls_W (M := []) (LL := []) (n := 22) Try.func48 rfl rfl (by simp) (Mem.refl _) ?_
  refine W.seq (fun K1 hK1 => ?_)
  refine W.region ?_
  refine Wl.run 1 (by kernel_rfl) ?_
  refine Wl.nil ?_
  refine hK1 _ _ _ ?_
  refine W.seq (fun K2 hK2 => ?_)
  refine W.region ?_
  refine Wl.run 1 (by kernel_rfl) ?_
  refine Wl.ys (v := nV .u64 s) rfl rfl ((Ys.pure (v := .int .u64 (icnv .u64 ((s : Nat) : Int))) (fun _ => by kernel_rfl)).conseq (int_congr (wrap_u64 (by omega) (by omega)))) ?_
  refine Wl.ht rfl (Ht.call (β := FS) (k := 64) (args := #[Value.int .i64 4, nV .u64 s]) (Lin := []) (Lk := []) (Mi := []) (Lo := fun g3 => [g3.seg 5 (mc b8 (be 4 s))]) [] [] rfl (fun _ => by kernel_rfl) (by decide) rfl rfl rfl (fun w_ hm_ hl_ => num_c 4 s (by omega) _) (fun _ => rfl)) (fun x6 => ?_)
  obtain ⟨g3, ok4, nn5⟩ := x6
  refine Wl.castL (LL' := [g3.seg 5 (mc b8 (be 4 s))]) rfl ?_
  refine Wl.run 1 (by kernel_rfl) ?_
  refine Wl.ys (v := nV .u64 d) rfl rfl ((Ys.pure (v := .int .u64 (icnv .u64 ((d : Nat) : Int))) (fun _ => by kernel_rfl)).conseq (int_congr (wrap_u64 (by omega) (by omega)))) ?_
  refine Wl.ht rfl (Ht.call (β := FS) (k := 64) (args := #[Value.int .i64 4, nV .u64 d]) (Lin := []) (Lk := [g3.seg 5 (mc b8 (be 4 s))]) (Mi := []) (Lo := fun g7 => [g7.seg 5 (mc b8 (be 4 d)), g3.seg 5 (mc b8 (be 4 s))]) [] [0] rfl (fun _ => by kernel_rfl) (by decide) rfl rfl rfl (fun w_ hm_ hl_ => num_c 4 d (by omega) _) (fun _ => rfl)) (fun x10 => ?_)
  obtain ⟨g7, ok8, nn9⟩ := x10
  refine Wl.castL (LL' := [g7.seg 5 (mc b8 (be 4 d)), g3.seg 5 (mc b8 (be 4 s))]) rfl ?_
  refine Wl.run 1 (by kernel_rfl) ?_
  refine Wl.ht rfl (Ht.made (mk := fun b_ => .slice (some ⟨b_, 0, none⟩) 2 2) (t := 5) (cs := [Value.int .u8 0, nV .u8 pr.toNat]) rfl (fun _ => by kernel_rfl)) (fun p16 => ?_)
  refine Wl.run 1 (by kernel_rfl) ?_
  refine Wl.ys (v := nV .u64 n) rfl rfl ((Ys.pure (v := .int .u64 (icnv .u64 ((n : Nat) : Int))) (fun _ => by kernel_rfl)).conseq (int_congr (wrap_u64 (by omega) (by omega)))) ?_
  refine Wl.ht rfl (Ht.call (β := FS) (k := 64) (args := #[Value.int .i64 2, nV .u64 n]) (Lin := []) (Lk := [[cb p16 [Value.int .u8 0, nV .u8 pr.toNat] 5], g7.seg 5 (mc b8 (be 4 d)), g3.seg 5 (mc b8 (be 4 s))]) (Mi := []) (Lo := fun g11 => [g11.seg 5 (mc b8 (be 2 n)), [cb p16 [Value.int .u8 0, nV .u8 pr.toNat] 5], g7.seg 5 (mc b8 (be 4 d)), g3.seg 5 (mc b8 (be 4 s))]) [] [0, 1, 2] rfl (fun _ => by kernel_rfl) (by decide) rfl rfl rfl (fun w_ hm_ hl_ => num_c 2 n (by omega) _) (fun _ => rfl)) (fun x14 => ?_)
  obtain ⟨g11, ok12, nn13⟩ := x14
  refine Wl.castL (LL' := [g11.seg 5 (mc b8 (be 2 n)), [cb p16 [Value.int .u8 0, nV .u8 pr.toNat] 5], g7.seg 5 (mc b8 (be 4 d)), g3.seg 5 (mc b8 (be 4 s))]) rfl ?_
  refine Wl.ht rfl (Ht.made (mk := fun b_ => .slice (some ⟨b_, 0, none⟩) 4 4) (t := 25) (cs := [Value.slice g3.a 4 g3.cap, Value.slice g7.a 4 g7.cap, Value.slice (some ⟨p16, 0, none⟩) 2 2, Value.slice g11.a 2 g11.cap]) rfl (fun _ => by kernel_rfl)) (fun p20 => ?_)
  refine Wl.ht rfl (Ht.call (β := FS) (k := 63) (args := #[Value.slice (some ⟨p20, 0, none⟩) 4 4]) (Lin := []) (Lk := [[cb p20 [Value.slice g3.a 4 g3.cap, Value.slice g7.a 4 g7.cap, Value.slice (some ⟨p16, 0, none⟩) 2 2, Value.slice g11.a 2 g11.cap] 25], g11.seg 5 (mc b8 (be 2 n)), [cb p16 [Value.int .u8 0, nV .u8 pr.toNat] 5], g7.seg 5 (mc b8 (be 4 d)), g3.seg 5 (mc b8 (be 4 s))]) (Mi := []) (Lo := fun g15 => [g15.seg 5 (mc b8 ((be 4 s) ++ (be 4 d) ++ [(0 : UInt8), pr] ++ (be 2 n))), [cb p20 [Value.slice g3.a 4 g3.cap, Value.slice g7.a 4 g7.cap, Value.slice (some ⟨p16, 0, none⟩) 2 2, Value.slice g11.a 2 g11.cap] 25], g11.seg 5 (mc b8 (be 2 n)), [cb p16 [Value.int .u8 0, nV .u8 pr.toNat] 5], g7.seg 5 (mc b8 (be 4 d)), g3.seg 5 (mc b8 (be 4 s))]) [] [0, 1, 2, 3, 4] rfl (fun _ => by kernel_rfl) (by decide) rfl rfl rfl (fun w_ hm_ hl_ => (ojoinn_c [⟨g3.a, (be 4 s), g3.cap⟩, ⟨g7.a, (be 4 d), g7.cap⟩, ⟨some ⟨p16, 0, none⟩, [(0 : UInt8), pr], 2⟩, ⟨g11.a, (be 2 n), g11.cap⟩] ((be 4 s) ++ (be 4 d) ++ [(0 : UInt8), pr] ++ (be 2 n)) (some ⟨p20, 0, none⟩) 4 4 (4 + 4 + 2 + 2) _ rfl (by simp [jn]) (by simp [be_len]; try omega) (by first | exact At.lit0 (i := 0) (j := 0) (t := 25) (b := p20) hm_ rfl rfl | (rw [show mc slv ([⟨g3.a, (be 4 s), g3.cap⟩, ⟨g7.a, (be 4 d), g7.cap⟩, ⟨some ⟨p16, 0, none⟩, [(0 : UInt8), pr], 2⟩, ⟨g11.a, (be 2 n), g11.cap⟩] : List SV) = [Value.slice g3.a 4 g3.cap, Value.slice g7.a 4 g7.cap, Value.slice (some ⟨p16, 0, none⟩) 2 2, Value.slice g11.a 2 g11.cap] by (simp [mc, be_len]; try omega)]; exact At.lit0 (i := 0) (j := 0) (t := 25) (b := p20) hm_ rfl rfl)) (List.forall_mem_cons.2 ⟨(FS.at (i := 4) (t := 5) hm_ rfl (FS.nil_cs ok4 (by rw [mc_len, be_len, Nat.mul_one]; try rfl))), (List.forall_mem_cons.2 ⟨(FS.at (i := 3) (t := 5) hm_ rfl (FS.nil_cs ok8 (by rw [mc_len, be_len, Nat.mul_one]; try rfl))), (List.forall_mem_cons.2 ⟨(At.lit0 (i := 2) (j := 0) (t := 5) (b := p16) hm_ rfl rfl), (List.forall_mem_cons.2 ⟨(FS.at (i := 1) (t := 5) hm_ rfl (FS.nil_cs ok12 (by rw [mc_len, be_len, Nat.mul_one]; try rfl))), (fun _ h => by cases h)⟩)⟩)⟩)⟩) (by first | omega | (simp [be_len]; omega)) (by simp) (by simp))) (fun _ => rfl)) (fun x18 => ?_)
  obtain ⟨g15, ok16, nn17⟩ := x18
  refine Wl.castL (LL' := [g15.seg 5 (mc b8 ((be 4 s) ++ (be 4 d) ++ [(0 : UInt8), pr] ++ (be 2 n))), [cb p20 [Value.slice g3.a 4 g3.cap, Value.slice g7.a 4 g7.cap, Value.slice (some ⟨p16, 0, none⟩) 2 2, Value.slice g11.a 2 g11.cap] 25], g11.seg 5 (mc b8 (be 2 n)), [cb p16 [Value.int .u8 0, nV .u8 pr.toNat] 5], g7.seg 5 (mc b8 (be 4 d)), g3.seg 5 (mc b8 (be 4 s))]) rfl ?_
  refine Wl.run 1 (by kernel_rfl) ?_
  refine Wl.nil ?_
  refine hK2 _ _ _ ?_
  refine W.pick (LL' := [g15.seg 5 (mc b8 ((be 4 s) ++ (be 4 d) ++ [(0 : UInt8), pr] ++ (be 2 n)))]) [0] (by decide) rfl ?_
  refine W.prune' [8] [Value.slice g15.a (4 + 4 + 2 + 2) g15.cap] (by kernel_rfl) (fun f19 => ?_)
  refine W.ret ?_
  have hB : psh s d pr n = (be 4 s) ++ (be 4 d) ++ [(0 : UInt8), pr] ++ (be 2 n) := rfl
  show ∀ w_, _ → bodyPostM (fence none) 0 Try.prog Try.f48 _ Exit.ret _ w_
  exact fun w_ hS_ => fin_ret (ret1 rfl (RV.tmp (v := Value.slice g15.a (4 + 4 + 2 + 2) g15.cap) (by kernel_rfl)) hS_ ⟨g15, ok16, rfl, (Mem.cast (by rw [hB]; rfl) (hS_.pick [0] (by decide) rfl))⟩)
def bnd (n least : Nat) : Int := if n < least then 10 else if 1480 < n then 14 else 0
theorem bounds_c (a : Option Addr) (len cap k : Nat) (w : World) (hl : len ≤ 9223372036854775807) (hk : k ≤ 100) : Calls Try.prog 44 #[Value.slice a len cap, Value.int .i64 ((k : Nat) : Int)] w (Ret w (.int .i64 (bnd len k))) := by
  refine calls_W (M := []) (LL := []) (n := 14) Try.func44 rfl rfl (by simp) (Mem.refl _) ?_
  refine W.seq (fun K1 hK1 => ?_)
  refine W.region ?_
  refine Wl.run 1 (by kernel_rfl) ?_
  refine Wl.nil ?_
  refine hK1 _ _ _ ?_
  refine W.seq (fun K2 hK2 => ?_)
  refine W.block ?_
  refine W.seq (fun K3 hK3 => ?_)
  refine W.region ?_
  refine Wl.run 5 (by kernel_rfl) ?_
  refine Wl.nil ?_
  refine hK3 _ _ _ ?_
  refine W.prune' [0, 5] [Value.slice a len cap, Value.bool (decide (((len : Nat) : Int) < ((k : Nat) : Int)))] (by kernel_rfl) (fun f4 => ?_)
  refine W.cond (decide (((len : Nat) : Int) < ((k : Nat) : Int))) (by kernel_rfl) (fun h5 => ?_) (fun h6 => ?_)
  · have qh5 := h5; try simp only [Bool.and_eq_true, Bool.or_eq_true, Bool.not_eq_true', Bool.not_eq_false', Bool.and_eq_false_iff, Bool.or_eq_false_iff, decide_eq_true_eq, decide_eq_false_iff_not, beq_iff_eq, bne_iff_ne, beq_eq_false_iff_ne, bne_eq_false_iff_eq] at qh5
    refine W.seq (fun K7 hK7 => ?_)
    refine W.region ?_
    refine Wl.run 1 (by kernel_rfl) ?_
    refine Wl.nil ?_
    refine hK7 _ _ _ ?_
    refine W.ret ?_
    show ∀ w_, _ → bodyPostM (fence none) 0 Try.prog Try.f44 _ Exit.ret _ w_
    exact fun w_ hS_ => fin_ret (ret1 rfl (RV.tmp (v := Value.int .i64 10) (by kernel_rfl)) hS_ ⟨by clear hK1 hK2 hK3 hK7; refine congrArg Ending.returned ?_; exact int_congr (by unfold bnd; first | rw [if_pos (by omega)] | rw [if_neg (by omega), if_pos (by omega)] | rw [if_neg (by omega), if_neg (by omega)]), hS_.below⟩)
  · have qh6 := h6; try simp only [Bool.and_eq_true, Bool.or_eq_true, Bool.not_eq_true', Bool.not_eq_false', Bool.and_eq_false_iff, Bool.or_eq_false_iff, decide_eq_true_eq, decide_eq_false_iff_not, beq_iff_eq, bne_iff_ne, beq_eq_false_iff_ne, bne_eq_false_iff_eq] at qh6
    refine W.seq (fun K8 hK8 => ?_)
    refine W.region ?_
    refine Wl.run 4 (by kernel_rfl) ?_
    refine Wl.nil ?_
    refine hK8 _ _ _ ?_
    refine W.prune' [10] [Value.bool (decide (((len : Nat) : Int) > 1480))] (by kernel_rfl) (fun f9 => ?_)
    refine W.cond (decide (((len : Nat) : Int) > 1480)) (by kernel_rfl) (fun h10 => ?_) (fun h11 => ?_)
    · have qh10 := h10; try simp only [Bool.and_eq_true, Bool.or_eq_true, Bool.not_eq_true', Bool.not_eq_false', Bool.and_eq_false_iff, Bool.or_eq_false_iff, decide_eq_true_eq, decide_eq_false_iff_not, beq_iff_eq, bne_iff_ne, beq_eq_false_iff_ne, bne_eq_false_iff_eq] at qh10
      refine W.seq (fun K12 hK12 => ?_)
      refine W.region ?_
      refine Wl.run 1 (by kernel_rfl) ?_
      refine Wl.nil ?_
      refine hK12 _ _ _ ?_
      refine W.ret ?_
      show ∀ w_, _ → bodyPostM (fence none) 0 Try.prog Try.f44 _ Exit.ret _ w_
      exact fun w_ hS_ => fin_ret (ret1 rfl (RV.tmp (v := Value.int .i64 14) (by kernel_rfl)) hS_ ⟨by clear hK1 hK2 hK3 hK8 hK12; refine congrArg Ending.returned ?_; exact int_congr (by unfold bnd; first | rw [if_pos (by omega)] | rw [if_neg (by omega), if_pos (by omega)] | rw [if_neg (by omega), if_neg (by omega)]), hS_.below⟩)
    · have qh11 := h11; try simp only [Bool.and_eq_true, Bool.or_eq_true, Bool.not_eq_true', Bool.not_eq_false', Bool.and_eq_false_iff, Bool.or_eq_false_iff, decide_eq_true_eq, decide_eq_false_iff_not, beq_iff_eq, bne_iff_ne, beq_eq_false_iff_ne, bne_eq_false_iff_eq] at qh11
      refine W.skip' ?_
      refine hK2 _ _ _ ?_
      refine W.prune' [] [] (by kernel_rfl) (fun f13 => ?_)
      refine W.seq (fun K14 hK14 => ?_)
      refine W.region ?_
      refine Wl.run 1 (by kernel_rfl) ?_
      refine Wl.nil ?_
      refine hK14 _ _ _ ?_
      refine W.ret ?_
      show ∀ w_, _ → bodyPostM (fence none) 0 Try.prog Try.f44 _ Exit.ret _ w_
      exact fun w_ hS_ => fin_ret (ret1 rfl (RV.tmp (v := Value.int .i64 0) (by kernel_rfl)) hS_ ⟨by clear hK1 hK2 hK3 hK8 hK14; refine congrArg Ending.returned ?_; exact int_congr (by unfold bnd; first | rw [if_pos (by omega)] | rw [if_neg (by omega), if_pos (by omega)] | rw [if_neg (by omega), if_neg (by omega)]), hS_.below⟩)
theorem seal_c (g : FS) (zs : List UInt8) (k n : Nat) (M : List Nat) (w : World) (hl : Mem w M [g.seg 5 (byc zs)] w) (ok : g.ok 1 zs.length) (hnn : g.nil = false) (hk : k + 2 ≤ zs.length) (hz : zs.length ≤ 1000000) (hn : n < 65536) : Calls Try.prog 65 #[Value.slice g.a zs.length g.cap, Value.int .i64 ((k : Nat) : Int), Value.int .u16 ((n : Nat) : Int)] w (RetM w (fun g : FS => g.ok 1 zs.length ∧ g.nil = false) (fun g => .slice g.a zs.length g.cap) M (fun g => [g.seg 5 (byc (sput zs k n))])) := by
  refine calls_W (M := M) (LL := [g.seg 5 (mc b8 zs)]) (n := 15) Try.func65 rfl rfl (by simp) (hl) ?_
  refine W.seq (fun K1 hK1 => ?_)
  refine W.region ?_
  refine Wl.run 1 (by kernel_rfl) ?_
  refine Wl.nil ?_
  refine hK1 _ _ _ ?_
  refine W.seq (fun K2 hK2 => ?_)
  have hn4 := hnn
  obtain ⟨gn3, gb, gc, gr⟩ := g
  obtain rfl : gn3 = false := hn4
  have hc5 : zs.length ≤ gc := ok.le
  refine W.draws [(0, true), (1, true), (2, true), (3, false), (4, false), (5, false), (6, false)] [0, 1, 2] (Mem w M []) (by kernel_rfl) (by kernel_rfl) (by kernel_rfl) rfl (by kernel_rfl) (fun _ _ h_ => h_.drawn _) (fun _ h_ => h_.pick [] (by decide) rfl) ?_
  refine Wd.run 2 (by kernel_rfl) ?_
  refine Wd.ys (v := Value.slice (sla (some ⟨gb, 0, none⟩) gc k 1) (zs.length - k) (gc - k)) rfl rfl rfl (Ys.sliceL (a := some ⟨gb, 0, none⟩) (len := zs.length) (cap := gc) (sz := 1) (k := .i64) (i := ((k : Nat) : Int)) rfl (by kernel_rfl) (by kernel_rfl) Try.runUnderlying25 Try.sizeOf5 (by omega) (by omega)) ?_
  refine Wd.yc (v := nV .u16 n) rfl rfl rfl (Ys.yc (Ys.pure (fun _ => by kernel_rfl))) (.inr fun _ h_ => h_.pick [] (by decide) rfl) ?_
  refine Wd.yc (v := nV .u64 n) rfl rfl rfl (Ys.yc ((Ys.pure (v := .int .u64 (icnv .u64 ((n : Nat) : Int))) (fun _ => by kernel_rfl)).conseq (int_congr (wrap_u64 (by omega) (by omega))))) (.inr fun _ h_ => h_.pick [] (by decide) rfl) ?_
  refine Wd.ht rfl rfl (Ht.call (β := FS) (k := 64) (args := #[Value.int .i64 2, nV .u64 n]) (Lin := []) (Lk := [[cb gb ((mc b8 zs) ++ gr) 5]]) (Mi := []) (Lo := fun g6 => [g6.seg 5 (mc b8 (be 2 n)), [cb gb ((mc b8 zs) ++ gr) 5]]) [] [0] rfl (fun _ => by kernel_rfl) (by decide) rfl rfl rfl (fun w_ hm_ hl_ => num_c 2 n (by omega) _) (fun _ => rfl)) (.inr fun _ _ h_ => h_.pick [] (by decide) rfl) (fun x9 => ?_)
  obtain ⟨g6, ok7, nn8⟩ := x9
  refine Wd.castL (LL' := [g6.seg 5 (mc b8 (be 2 n)), [cb gb ((mc b8 zs) ++ gr) 5]]) rfl ?_
  refine Wd.ht rfl rfl (Ht.copySub (cap := gc) (dl := zs.length - k) (dc := gc - k) (m := 2) (q := 2) (sz := 1) (o' := k) (i := 1) (j := 0) (e := 5) (ii := (Try.prog.info? 5).getD default) (b := gb) (t := 5) (xv := Value.slice g6.a 2 g6.cap) (cs := (mc b8 zs) ++ gr) (news := mc b8 (be 2 n)) (cs' := (mc b8 (zs.take k ++ (be 2 n) ++ zs.drop (k + (be 2 n).length))) ++ gr) (LL' := [g6.seg 5 (mc b8 (be 2 n)), [cb gb ((mc b8 (zs.take k ++ (be 2 n) ++ zs.drop (k + (be 2 n).length))) ++ gr) 5]]) rfl rfl (by kernel_rfl) (by kernel_rfl) (by kernel_rfl) (by kernel_rfl) (by omega) (by kernel_rfl) rfl rfl (fun _ => rfl) (by show min _ _ = _; first | omega | (simp; omega)) (Src.at (a := g6.a) (by first | rfl | (rw [mc_len, List.length_take]; omega) | (rw [mc_len, List.length_take, List.length_drop]; omega) | (simp [mc, be_len]; done) | (simp [mc, be_len]; omega)) (fun w_ h_ => (FS.at (i := 0) (t := 5) h_ rfl (FS.nil_cs ok7 (by rw [mc_len, be_len, Nat.mul_one]; try rfl))))) (by first | rfl | (rw [mc_len, List.length_take]; omega) | (rw [mc_len, List.length_take, List.length_drop]; omega) | (simp [mc, be_len]; done) | (simp [mc, be_len]; omega)) (by first | (simp only [mc_len]; omega) | (simp only [mc_len, List.length_append, List.length_take, List.length_drop]; omega) | (simp [mc, be_len]; try omega)) (mc_one (fun _ => rfl) _) (app_put (by first | (simp [mc, be_len]; done) | (simp [mc, be_len]; omega)) (mc_put1 (g := b8) zs (be 2 n) k)) rfl) (.inr fun _ _ h_ => h_.pick [] (by decide) rfl) (fun _ => ?_)
  refine Wd.nil ?_
  refine hK2 _ _ _ ?_
  refine W.pick (LL' := [[cb gb ((mc b8 (zs.take k ++ (be 2 n) ++ zs.drop (k + (be 2 n).length))) ++ gr) 5]]) [1] (by decide) rfl ?_
  refine W.prune' [0] [Value.slice (some ⟨gb, 0, none⟩) zs.length gc] (by kernel_rfl) (fun f10 => ?_)
  refine W.seq (fun K11 hK11 => ?_)
  refine W.region ?_
  refine Wl.run 2 (by kernel_rfl) ?_
  refine Wl.nil ?_
  refine hK11 _ _ _ ?_
  refine W.prune' [6] [Value.slice (some ⟨gb, 0, none⟩) zs.length gc] (by kernel_rfl) (fun f12 => ?_)
  refine W.ret ?_
  have hpl := sput_len (n := n) hk
  show ∀ w_, _ → bodyPostM (fence none) 0 Try.prog Try.f65 _ Exit.ret _ w_
  exact fun w_ hS_ => fin_ret (ret1 rfl (RV.tmp (v := Value.slice (some ⟨gb, 0, none⟩) zs.length gc) (by kernel_rfl)) hS_ ⟨(FS.mk false gb gc gr), ⟨ok, rfl⟩, rfl, (Mem.cast (by unfold sput; rw [be_len]; rfl) (hS_.pick [0] (by decide) rfl))⟩)
theorem lay_c (g : FS) (zs : List UInt8) (k n : Nat) (M : List Nat) (w : World) (hl : Mem w M [g.seg 5 (byc zs)] w) (ok : g.ok 1 zs.length) (hnn : g.nil = false) (hk : k + 2 ≤ zs.length) (hz : zs.length ≤ 1000000) (hn : n < 65536) : Calls Try.prog 59 #[Value.slice g.a zs.length g.cap, Value.int .i64 ((k : Nat) : Int), Value.int .u16 ((n : Nat) : Int)] w (RetM w (fun g : FS => g.ok 1 zs.length ∧ g.nil = false) (fun g => .slice g.a zs.length g.cap) M (fun g => [g.seg 5 (byc (sput zs k n))])) := by
  refine calls_W (M := M) (LL := [g.seg 5 (mc b8 zs)]) (n := 21) Try.func59 rfl rfl (by simp) (hl) ?_
  refine W.seq (fun K1 hK1 => ?_)
  refine W.region ?_
  refine Wl.run 1 (by kernel_rfl) ?_
  refine Wl.nil ?_
  refine hK1 _ _ _ ?_
  refine W.seq (fun K2 hK2 => ?_)
  refine W.region ?_
  refine Wl.run 3 (by kernel_rfl) ?_
  refine Wl.ys (v := nV .u16 (n / 256)) rfl rfl ((Ys.pure (v := .int .u16 (iquo .u16 ((n : Nat) : Int) ((256 : Nat) : Int))) (fun _ => by kernel_rfl)).conseq (int_congr (iquo_natu rfl (by show _ < 65536; omega)))) ?_
  refine Wl.ys (v := nV .u8 ((UInt8.ofNat (n / 256)).toNat)) rfl rfl ((Ys.pure (v := .int .u8 (icnv .u8 ((n / 256 : Nat) : Int))) (fun _ => by kernel_rfl)).conseq (int_congr (u8_wrapN _))) ?_
  refine Wl.ys (v := Value.pointer (some (ela g.a (k * 1)))) rfl rfl (Ys.indexAddr (k := .i64) (a := g.a) (len := zs.length) (cap := g.cap) (i := ((k : Nat) : Int)) (sz := 1) rfl (by kernel_rfl) (by kernel_rfl) Try.runUnderlying25 Try.sizeOf5 (by omega) (by omega) (by rw [FS.a_own (hnn)]; rfl)) ?_
  refine Wl.ht rfl (Ht.storeFS (i := 0) (g := g) (q := k * 1) (ty := 5) (cs := mc b8 zs) (cs' := mc b8 (zs.set k (UInt8.ofNat (n / 256)))) (v := nV .u8 ((UInt8.ofNat (n / 256)).toNat)) (LL' := [g.seg 5 (mc b8 (zs.set k (UInt8.ofNat (n / 256))))]) rfl rfl (by kernel_rfl) (by kernel_rfl) Try.sizeOf5 rfl (hnn) rfl (by first | (simp [mc, be_len]; done) | (simp [mc, be_len]; omega)) (mc_set1 (g := b8) zs k (UInt8.ofNat (n / 256))) rfl) (fun _ => ?_)
  refine Wl.nil ?_
  refine hK2 _ _ _ ?_
  refine W.prune' [0, 1, 2] [Value.slice g.a zs.length g.cap, nV .i64 k, nV .u16 n] (by kernel_rfl) (fun f3 => ?_)
  refine W.seq (fun K4 hK4 => ?_)
  refine W.region ?_
  refine Wl.run 2 (by kernel_rfl) ?_
  refine Wl.ys (v := nV .i64 (k + 1)) rfl rfl ((Ys.pure (v := .int .i64 (iadd .i64 ((k : Nat) : Int) 1)) (fun _ => by kernel_rfl)).conseq (int_congr (iadd_eq (by omega) (by omega) (by omega)))) ?_
  refine Wl.run 1 (by kernel_rfl) ?_
  refine Wl.ys (v := nV .u16 (n % 256)) rfl rfl ((Ys.pure (v := .int .u16 (irem ((n : Nat) : Int) ((256 : Nat) : Int))) (fun _ => by kernel_rfl)).conseq (int_congr (rfl))) ?_
  refine Wl.ys (v := nV .u8 ((UInt8.ofNat (n % 256)).toNat)) rfl rfl ((Ys.pure (v := .int .u8 (icnv .u8 ((n % 256 : Nat) : Int))) (fun _ => by kernel_rfl)).conseq (int_congr (u8_wrapN _))) ?_
  refine Wl.ys (v := Value.pointer (some (ela g.a ((k + 1) * 1)))) rfl rfl (Ys.indexAddr (k := .i64) (a := g.a) (len := zs.length) (cap := g.cap) (i := ((k + 1 : Nat) : Int)) (sz := 1) rfl (by kernel_rfl) (by kernel_rfl) Try.runUnderlying25 Try.sizeOf5 (by omega) (by omega) (by rw [FS.a_own (hnn)]; rfl)) ?_
  refine Wl.ht rfl (Ht.storeFS (i := 0) (g := g) (q := (k + 1) * 1) (ty := 5) (cs := mc b8 (zs.set k (UInt8.ofNat (n / 256)))) (cs' := mc b8 ((zs.set k (UInt8.ofNat (n / 256))).set (k + 1) (UInt8.ofNat (n % 256)))) (v := nV .u8 ((UInt8.ofNat (n % 256)).toNat)) (LL' := [g.seg 5 (mc b8 ((zs.set k (UInt8.ofNat (n / 256))).set (k + 1) (UInt8.ofNat (n % 256))))]) rfl rfl (by kernel_rfl) (by kernel_rfl) Try.sizeOf5 rfl (hnn) rfl (by first | (simp [mc, be_len]; done) | (simp [mc, be_len]; omega)) (mc_set1 (g := b8) (zs.set k (UInt8.ofNat (n / 256))) (k + 1) (UInt8.ofNat (n % 256))) rfl) (fun _ => ?_)
  refine Wl.nil ?_
  refine hK4 _ _ _ ?_
  refine W.prune' [0] [Value.slice g.a zs.length g.cap] (by kernel_rfl) (fun f5 => ?_)
  refine W.seq (fun K6 hK6 => ?_)
  refine W.region ?_
  refine Wl.run 2 (by kernel_rfl) ?_
  refine Wl.nil ?_
  refine hK6 _ _ _ ?_
  refine W.prune' [6] [Value.slice g.a zs.length g.cap] (by kernel_rfl) (fun f7 => ?_)
  refine W.ret ?_
  show ∀ w_, _ → bodyPostM (fence none) 0 Try.prog Try.f59 _ Exit.ret _ w_
  exact fun w_ hS_ => fin_ret (ret1 rfl (RV.tmp (v := Value.slice g.a zs.length g.cap) (by kernel_rfl)) hS_ ⟨g, ⟨ok, hnn⟩, rfl, (Mem.cast (by rw [← sput_set hk]; rfl) (hS_.pick [0] (by decide) rfl))⟩)
theorem sealn_seal (g : FS) (zs : List UInt8) (len k n : Nat) (M : List Nat) (w : World) (hlen : len = zs.length) (hl : Mem w M [g.seg 5 (byc zs)] w) (ok : g.ok 1 len) (hnn : g.nil = false) (hk : k + 2 ≤ zs.length) (hz : zs.length ≤ 1000000) (hn : n < 65536) :
    Calls Try.prog 65 #[.slice g.a len g.cap, .int .i64 ((k : Nat) : Int), .int .u16 ((n : Nat) : Int)] w (RetM w (fun g : FS => g.ok 1 len ∧ g.nil = false) (fun g => .slice g.a len g.cap) M (fun g => [g.seg 5 (byc (sput zs k n))])) := by
  subst hlen; exact seal_c g zs k n M w hl ok hnn hk hz hn
theorem sealn_lay (g : FS) (zs : List UInt8) (len k n : Nat) (M : List Nat) (w : World) (hlen : len = zs.length) (hl : Mem w M [g.seg 5 (byc zs)] w) (ok : g.ok 1 len) (hnn : g.nil = false) (hk : k + 2 ≤ zs.length) (hz : zs.length ≤ 1000000) (hn : n < 65536) :
    Calls Try.prog 59 #[.slice g.a len g.cap, .int .i64 ((k : Nat) : Int), .int .u16 ((n : Nat) : Int)] w (RetM w (fun g : FS => g.ok 1 len ∧ g.nil = false) (fun g => .slice g.a len g.cap) M (fun g => [g.seg 5 (byc (sput zs k n))])) := by
  subst hlen; exact lay_c g zs k n M w hl ok hnn hk hz hn
end Go.Proofs.Ytejeafjkhomdoaa.Oct
