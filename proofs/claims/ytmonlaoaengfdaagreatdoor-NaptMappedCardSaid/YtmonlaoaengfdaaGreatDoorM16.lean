import Derived.Test.YtmonlaoaengfdaaGreatDoorM5
import Derived.Test.YtmonlaoaengfdaaGreatDoorM11
import Derived.Test.YtmonlaoaengfdaaGreatDoorM13
import Derived.Test.YtmonlaoaengfdaaGreatDoorM15
set_option linter.unusedVariables false
set_option linter.unusedSimpArgs false
set_option maxRecDepth 20000
namespace Go.Proofs.YtmonlaoaengfdaaGreatDoor.Oct
open Go.RowKit Base
attribute [local irreducible] Ys Yc Ht HtS HtIn Wl Wd W Mem pf dpf Wa Wo
namespace Conf
structure Cfg where
  (lm0 lm1 lm2 lm3 lm4 lm5 wm0 wm1 wm2 wm3 wm4 wm5 hm0 hm1 hm2 hm3 hm4 hm5 lan wan bits ms mm mc mu : Int)
  (fa : Option Addr)
  (fl fc : Nat)
  (dmz : Int)
  (uu : ByteArray)
structure Fwd where
  (proto port dest host : Int)
instance : Inhabited Fwd := ⟨⟨0, 0, 0, 0⟩⟩
def isF (F : Nat → Fwd) (proto port : Int) (k : Nat) : Bool := (F k).proto == proto && (F k).port == port
def findN (F : Nat → Fwd) (proto port : Int) : Nat → Nat → Option Nat
  | 0, _ => none
  | n + 1, k => bif isF F proto port k then some k else findN F proto port n (k + 1)
def find (F : Nat → Fwd) (proto port : Int) (len : Nat) : Fwd × Bool :=
  match findN F proto port len 0 with
  | none => (⟨0, 0, 0, 0⟩, false)
  | some k => (F k, true)
theorem findN_some (F : Nat → Fwd) (proto port : Int) (len k : Nat) : ∀ n j, j + n = len → j ≤ k → k < len → (∀ i, i < k → isF F proto port i = false) → isF F proto port k = true → findN F proto port n j = some k := by
  intro n
  induction n with
  | zero => intro j h1 h2 h3; omega
  | succ n ih =>
    intro j h1 h2 h3 h4 h5
    unfold findN
    by_cases hj : j = k
    · subst hj; rw [h5]; rfl
    · rw [h4 j ma1]; exact ih (j + 1) ma1 ma1 h3 h4 h5
theorem findN_none (F : Nat → Fwd) (proto port : Int) (len : Nat) : ∀ n j, j + n = len → (∀ i, i < len → isF F proto port i = false) → findN F proto port n j = none := by
  intro n
  induction n with
  | zero => intro j h1 h2; rfl
  | succ n ih =>
    intro j h1 h2
    unfold findN
    rw [h2 j ma1]; exact ih (j + 1) ma1 h2
theorem find_some (F : Nat → Fwd) (proto port : Int) (len k : Nat) (h3 : k < len) (h4 : ∀ i, i < k → isF F proto port i = false) (h5 : isF F proto port k = true) : find F proto port len = (F k, true) := by
  unfold find; rw [findN_some F proto port len k len 0 ma1 ma1 h3 h4 h5]
theorem find_none (F : Nat → Fwd) (proto port : Int) (len : Nat) (h4 : ∀ i, i < len → isF F proto port i = false) : find F proto port len = (⟨0, 0, 0, 0⟩, false) := by
  unfold find; rw [findN_none F proto port len len 0 ma1 h4]
def fwv (x : Fwd) : List Value := [.int .u8 x.proto, .int .u16 x.port, .int .u16 x.dest, .int .u32 x.host]
end Conf
open Conf (Fwd fwv)
theorem fwv_len (x : Fwd) : (fwv x).length = 4 := rfl
theorem fwv_one (x : Fwd) : ∀ v ∈ fwv x, v.oneCell' = true := by simp [fwv, Value.oneCell']
theorem fwv_zlen (xs : List Fwd) : (mm fwv xs).length = xs.length * 4 := mm_len fwv_len xs
abbrev fz : Fwd := ⟨0, 0, 0, 0⟩
abbrev btX (a k : Nat) : Int := band .u32 (ishr .u32 (a : Int) (31 - (k : Int))) 1
def wlR (a b : Nat) (bits : Int) : Nat → Nat → Bool
  | 0, _ => true
  | n + 1, k => bif decide (((k : Nat) : Int) < bits) then (bif btX a k != btX b k then false else wlR a b bits n (k + 1)) else true
def inR (a : Nat) (bits : Int) : Nat → Nat → Nat → Bool → Bool → Bool
  | 0, _, n, z, o => (((n : Nat) : Int) == 0) || ((!z) && (!o))
  | m + 1, k, n, z, o => bif decide (((k : Nat) : Int) < bits) then inR a bits m (k + 1) n z o else bif btX a k == 1 then inR a bits m (k + 1) (n + 1) false o else inR a bits m (k + 1) (n + 1) z false
section
variable {a b k n : Nat} {bits : Int} {z o v : Bool}
theorem wl_t (hk : k < 32) (hb : decide (((k : Nat) : Int) < bits) = true) : wlR a b bits (32 - k) k = bif btX a k != btX b k then false else wlR a b bits (32 - (k + 1)) (k + 1) := by
  rw [show 32 - k = (32 - (k + 1)) + 1 by omega]; simp only [wlR, hb, cond_true]
theorem wl_f (h : ((decide (((k : Nat) : Int) < 32)) && (decide (((k : Nat) : Int) < bits))) = false) (hk : k ≤ 32) : wlR a b bits (32 - k) k = true := by
  by_cases e : k = 32
  · subst e; rfl
  · rw [show 32 - k = (32 - (k + 1)) + 1 by omega]
    rw [decide_eq_true (show (k : Int) < 32 by omega), Bool.true_and] at h
    simp only [wlR, h, cond_false]
theorem in_e (hk : k < 32) : inR a bits (32 - k) k n z o = bif decide (((k : Nat) : Int) < bits) then inR a bits (32 - (k + 1)) (k + 1) n z o else bif btX a k == 1 then inR a bits (32 - (k + 1)) (k + 1) (n + 1) false o else inR a bits (32 - (k + 1)) (k + 1) (n + 1) z false := by
  rw [show 32 - k = (32 - (k + 1)) + 1 by omega]; simp only [inR]
end
def hst (lan bits a : Int) : Bool := (wlR a.toNat lan.toNat bits 32 0 && a != lan) && inR a.toNat bits 32 0 0 true true
theorem plain_c  (w : World) : Calls Tryz.prog 8 #[] w (Ret w (aV [iV .u8 2, iV .u8 0, iV .u8 0, iV .u8 0, iV .u8 0, iV .u8 1, iV .u8 2, iV .u8 0, iV .u8 0, iV .u8 0, iV .u8 1, iV .u8 1, iV .u8 2, iV .u8 0, iV .u8 0, iV .u8 0, iV .u8 1, iV .u8 2, iV .u32 3232235777, iV .u32 3405803781, iV .i64 24, iV .i64 8, iV .i64 4, iV .i64 3, iV .i64 2, Value.slice none 0 0, iV .u32 0, Value.string (bstr [48, 48, 48, 48, 48, 48, 48, 48, 45, 49, 49, 49, 49, 45, 50, 50, 50, 50, 45, 51, 51, 51, 51, 45, 52, 52, 52, 52, 52, 52, 52, 52, 52, 52, 52, 52])])) := by
 refine calls_W (M := []) (LL := []) (n := 5) Tryz.func8 rfl rfl ma6 (Mem.refl _) (W.seq (fun K1 hK1 => ?_))
 refine W.region (Wl.ht rfl (Ht.alloc (z := aV [iV .u8 0, iV .u8 0, iV .u8 0, iV .u8 0, iV .u8 0, iV .u8 0, iV .u8 0, iV .u8 0, iV .u8 0, iV .u8 0, iV .u8 0, iV .u8 0, iV .u8 0, iV .u8 0, iV .u8 0, iV .u8 0, iV .u8 0, iV .u8 0, iV .u32 0, iV .u32 0, iV .i64 0, iV .i64 0, iV .i64 0, iV .i64 0, iV .i64 0, Value.slice none 0 0, iV .u32 0, Value.string (bstr [])]) (cs := [iV .u8 0, iV .u8 0, iV .u8 0, iV .u8 0, iV .u8 0, iV .u8 0, iV .u8 0, iV .u8 0, iV .u8 0, iV .u8 0, iV .u8 0, iV .u8 0, iV .u8 0, iV .u8 0, iV .u8 0, iV .u8 0, iV .u8 0, iV .u8 0, iV .u32 0, iV .u32 0, iV .i64 0, iV .i64 0, iV .i64 0, iV .i64 0, iV .i64 0, Value.slice none 0 0, iV .u32 0, Value.string (bstr [])]) rfl rfl Tryz.zeroValue32 rfl) (fun p0 => ?_))
 refine Wl.nil (hK1 _ _ _ (W.seq (fun K2 hK2 => W.region (Wl.run 4 ma0 ?_))))
 refine Wl.ht rfl (Ht.storeN (b := p0) (o' := 0) (i := 0) (j := 0) (vs := [iV .u8 2, iV .u8 0, iV .u8 0, iV .u8 0, iV .u8 0, iV .u8 1, iV .u8 2, iV .u8 0, iV .u8 0, iV .u8 0, iV .u8 1, iV .u8 1, iV .u8 2, iV .u8 0, iV .u8 0, iV .u8 0, iV .u8 1, iV .u8 2, iV .u32 3232235777, iV .u32 3405803781, iV .i64 24, iV .i64 8, iV .i64 4, iV .i64 3, iV .i64 2, Value.slice none 0 0, iV .u32 0, Value.string (bstr [48, 48, 48, 48, 48, 48, 48, 48, 45, 49, 49, 49, 49, 45, 50, 50, 50, 50, 45, 51, 51, 51, 51, 45, 52, 52, 52, 52, 52, 52, 52, 52, 52, 52, 52, 52])]) (LL' := [[cb p0 [iV .u8 2, iV .u8 0, iV .u8 0, iV .u8 0, iV .u8 0, iV .u8 1, iV .u8 2, iV .u8 0, iV .u8 0, iV .u8 0, iV .u8 1, iV .u8 1, iV .u8 2, iV .u8 0, iV .u8 0, iV .u8 0, iV .u8 1, iV .u8 2, iV .u32 3232235777, iV .u32 3405803781, iV .i64 24, iV .i64 8, iV .i64 4, iV .i64 3, iV .i64 2, Value.slice none 0 0, iV .u32 0, Value.string (bstr [48, 48, 48, 48, 48, 48, 48, 48, 45, 49, 49, 49, 49, 45, 50, 50, 50, 50, 45, 51, 51, 51, 51, 45, 52, 52, 52, 52, 52, 52, 52, 52, 52, 52, 52, 52])] 32]]) rfl rfl ma0 ma0 Tryz.sizeOf32 ma7 rfl rfl ma6 rfl rfl) (fun _ => Wl.nil (hK2 _ _ _ (W.prune' [0] [pV p0 0] ma0 (fun f3 => W.ret ?_))))
 show ∀ w_, _ → bodyPostM (fence none) 0 Tryz.prog Tryz.f8 _ Exit.ret _ w_
 exact fun w_ hS_ => fin_ret (ret1 rfl (RV.cellN (b := p0) (o' := 0) (i := 0) (j := 0) (cs := [iV .u8 2, iV .u8 0, iV .u8 0, iV .u8 0, iV .u8 0, iV .u8 1, iV .u8 2, iV .u8 0, iV .u8 0, iV .u8 0, iV .u8 1, iV .u8 1, iV .u8 2, iV .u8 0, iV .u8 0, iV .u8 0, iV .u8 1, iV .u8 2, iV .u32 3232235777, iV .u32 3405803781, iV .i64 24, iV .i64 8, iV .i64 4, iV .i64 3, iV .i64 2, Value.slice none 0 0, iV .u32 0, Value.string (bstr [48, 48, 48, 48, 48, 48, 48, 48, 45, 49, 49, 49, 49, 45, 50, 50, 50, 50, 45, 51, 51, 51, 51, 45, 52, 52, 52, 52, 52, 52, 52, 52, 52, 52, 52, 52])]) (vs := [iV .u8 2, iV .u8 0, iV .u8 0, iV .u8 0, iV .u8 0, iV .u8 1, iV .u8 2, iV .u8 0, iV .u8 0, iV .u8 0, iV .u8 1, iV .u8 1, iV .u8 2, iV .u8 0, iV .u8 0, iV .u8 0, iV .u8 1, iV .u8 2, iV .u32 3232235777, iV .u32 3405803781, iV .i64 24, iV .i64 8, iV .i64 4, iV .i64 3, iV .i64 2, Value.slice none 0 0, iV .u32 0, Value.string (bstr [48, 48, 48, 48, 48, 48, 48, 48, 45, 49, 49, 49, 49, 45, 50, 50, 50, 50, 45, 51, 51, 51, 51, 45, 52, 52, 52, 52, 52, 52, 52, 52, 52, 52, 52, 52])]) ma0 Tryz.isAgg32 Tryz.sizeOf32 rfl rfl rfl rfl) hS_ ⟨rfl, hS_.below⟩)
theorem wit_c (a b : Nat) (bits : Int) (w : World) (ha : a < 4294967296) (hb : b < 4294967296) : Calls Tryz.prog 26 #[nV .u32 a, nV .u32 b, iV .i64 bits] w (Ret w (.bool (wlR a b bits 32 0))) := by
 refine calls_W (M := []) (LL := []) (n := 30) Tryz.func26 rfl rfl ma6 (Mem.refl _) (W.seq (fun K1 hK1 => ?_))
 refine W.region (Wl.run 1 ma0 (Wl.nil (hK1 _ _ _ (W.seq (fun K2 hK2 => ?_)))))
 refine W.seq (fun K3 hK3 => W.region (Wl.run 1 ma0 (Wl.nil (hK3 _ _ _ ?_))))
 refine W.block (W.loop1 [0, 1, 2, 7] (fun (k : Nat) => [nV .u32 a, nV .u32 b, iV .i64 bits, nV .i64 k]) (fun (k : Nat) => k ≤ 32 ∧ wlR a b bits (32 - k) k = wlR a b bits 32 0) (fun (k : Nat) => []) (fun (k : Nat) => 32 - k) 0 ma0 ⟨ma1, rfl⟩ (by rfl) (fun k f5 J4 hp6 hJ4 => ?_))
 obtain ⟨hk, hF⟩ := hp6
 refine W.seq (fun K7 hK7 => W.seq (fun K8 hK8 => ?_))
 refine W.region (Wl.run 3 ma0 ?_)
 refine Wl.guard (v := nV .i64 k) (decide (((k : Nat) : Int) < 32)) rfl (wantT rfl ma0) rfl (fun hg9 => ?_) ?_
 ·exact Ys.pure (fun _ => kr)
 refine Wl.guard (v := iV .i64 bits) (decide (((k : Nat) : Int) < 32)) rfl (wantT rfl ma0) rfl (fun hg10 => ?_) ?_
 ·exact Ys.pure (fun _ => kr)
 refine Wl.guard (v := bV (decide (((k : Nat) : Int) < bits))) (decide (((k : Nat) : Int) < 32)) rfl (wantT rfl ma0) rfl (fun hg11 => ?_) ?_
 ·have qhg11 := hg11; try simp only [zA] at qhg11
  refine Ys.at (t := 11) (v0 := nV .i64 k) (lz (g := decide (((k : Nat) : Int) < 32)) (u := undef) hg11 ma0) (Ys.at (t := 12) (v0 := iV .i64 bits) (lz (g := decide (((k : Nat) : Int) < 32)) (u := undef) hg11 ma0) ?_)
  exact Ys.pure (fun _ => kr)
 refine Wl.ys (v := bV ((decide (((k : Nat) : Int) < 32)) && (decide (((k : Nat) : Int) < bits)))) rfl rfl (Ys.and (e := decide (((k : Nat) : Int) < 32)) (b := decide (((k : Nat) : Int) < bits)) rfl ma0 ma0 ma0) (Wl.nil (hK8 _ _ _ (W.prune' [0, 1, 2, 7, 11, 12, 13, 14] [nV .u32 a, nV .u32 b, iV .i64 bits, nV .i64 k, (bif decide (((k : Nat) : Int) < 32) then nV .i64 k else undef), (bif decide (((k : Nat) : Int) < 32) then iV .i64 bits else undef), (bif decide (((k : Nat) : Int) < 32) then bV (decide (((k : Nat) : Int) < bits)) else undef), bV ((decide (((k : Nat) : Int) < 32)) && (decide (((k : Nat) : Int) < bits)))] ma0 (fun f12 => ?_))))
 refine W.cond ((decide (((k : Nat) : Int) < 32)) && (decide (((k : Nat) : Int) < bits))) ma0 (fun h13 => ?_) (fun h14 => ?_)
 ·have qh13 := h13; try simp only [zA] at qh13
  refine W.skip' (hK7 _ _ _ (W.prune' [0, 1, 2, 7, 11, 12, 13] [nV .u32 a, nV .u32 b, iV .i64 bits, nV .i64 k, (bif decide (((k : Nat) : Int) < 32) then nV .i64 k else undef), (bif decide (((k : Nat) : Int) < 32) then iV .i64 bits else undef), (bif decide (((k : Nat) : Int) < 32) then bV (decide (((k : Nat) : Int) < bits)) else undef)] ma0 (fun f15 => W.seq (fun K16 hK16 => W.block ?_))))
  refine W.seq (fun K17 hK17 => W.region (Wl.run 2 ma0 (Wl.ys (v := iV .i64 (31 - (k : Int))) rfl rfl ((Ys.pure (v := .int .i64 (isub .i64 31 (k : Int))) (fun _ => kr)).conseq (int_congr (isub_eq rfl ma1 ma1))) (Wl.ys (v := iV .u64 (31 - (k : Int))) rfl rfl ((Ys.pure (v := .int .u64 (icnv .u64 (31 - (k : Int)))) (fun _ => kr)).conseq (int_congr (wrap_u64 ma1 ma1))) ?_))))
  refine Wl.ys (v := iV .u32 (ishr .u32 (a : Int) (31 - (k : Int)))) rfl rfl (Ys.shr (k := .u32) (k' := .u64) (a := (a : Int)) (b := 31 - (k : Int)) rfl ma0 ma0 ma1) (Wl.run 3 ma0 (Wl.ys (v := iV .i64 (31 - (k : Int))) rfl rfl ((Ys.pure (v := .int .i64 (isub .i64 31 (k : Int))) (fun _ => kr)).conseq (int_congr (isub_eq rfl ma1 ma1))) (Wl.ys (v := iV .u64 (31 - (k : Int))) rfl rfl ((Ys.pure (v := .int .u64 (icnv .u64 (31 - (k : Int)))) (fun _ => kr)).conseq (int_congr (wrap_u64 ma1 ma1))) (Wl.ys (v := iV .u32 (ishr .u32 (b : Int) (31 - (k : Int)))) rfl rfl (Ys.shr (k := .u32) (k' := .u64) (a := (b : Int)) (b := 31 - (k : Int)) rfl ma0 ma0 ma1) ?_))))
  refine Wl.run 2 ma0 (Wl.nil (hK17 _ _ _ (W.prune' [0, 1, 2, 7, 11, 12, 13, 29] [nV .u32 a, nV .u32 b, iV .i64 bits, nV .i64 k, (bif decide (((k : Nat) : Int) < 32) then nV .i64 k else undef), (bif decide (((k : Nat) : Int) < 32) then iV .i64 bits else undef), (bif decide (((k : Nat) : Int) < 32) then bV (decide (((k : Nat) : Int) < bits)) else undef), bV ((band .u32 (ishr .u32 (a : Int) (31 - (k : Int))) 1) != (band .u32 (ishr .u32 (b : Int) (31 - (k : Int))) 1))] ma0 (fun f18 => ?_))))
  refine W.cond ((band .u32 (ishr .u32 (a : Int) (31 - (k : Int))) 1) != (band .u32 (ishr .u32 (b : Int) (31 - (k : Int))) 1)) ma0 (fun h19 => ?_) (fun h20 => ?_)
  ·have qh19 := h19; try simp only [zA] at qh19
   refine W.seq (fun K21 hK21 => W.region (Wl.run 1 ma0 (Wl.nil (hK21 _ _ _ ?_))))
   refine W.ret ?_
   show ∀ w_, _ → bodyPostM (fence none) 0 Tryz.prog Tryz.f26 _ Exit.ret _ w_
   exact fun w_ hS_ => fin_ret (ret1 rfl (RV.tmp (v := bV false) ma0) hS_ ⟨by clear hK1 hK2 hK3 hJ4 hK7 hK8 hK16 hK17 hK21; refine congrArg Ending.returned ?_; exact bool_congr (by rw [← hF, wl_t ma1 (Bool.and_eq_true_iff.1 h13).2, show (btX a k != btX b k) = true from h19]; rfl), hS_.below⟩)
  ·have qh20 := h20; try simp only [zA] at qh20
   refine W.skip' (hK16 _ _ _ (W.prune' [0, 1, 2, 7, 11, 12, 13] [nV .u32 a, nV .u32 b, iV .i64 bits, nV .i64 k, (bif decide (((k : Nat) : Int) < 32) then nV .i64 k else undef), (bif decide (((k : Nat) : Int) < 32) then iV .i64 bits else undef), (bif decide (((k : Nat) : Int) < 32) then bV (decide (((k : Nat) : Int) < bits)) else undef)] ma0 (fun f22 => W.region (Wl.run 1 ma0 ?_))))
   refine Wl.ys (v := nV .i64 (k + 1)) rfl rfl ((Ys.pure (v := .int .i64 (iadd .i64 (k : Int) 1)) (fun _ => kr)).conseq (int_congr (iadd_eq ma1 ma1 ma1))) (Wl.run 1 ma0 (Wl.nil ?_))
   refine fun w_ h_ => hJ4 (k + 1) _ w_ ma1 ⟨ma1, ((by rw [← hF, wl_t ma1 (Bool.and_eq_true_iff.1 h13).2, show (btX a k != btX b k) = false from h20]; rfl))⟩ ?_ h_
   kernel_rfl
 ·refine W.exit (hK2 _ _ _ (W.prune' [] [] ma0 (fun f23 => W.seq (fun K24 hK24 => W.region ?_))))
  refine Wl.run 1 ma0 (Wl.nil (hK24 _ _ _ (W.ret ?_)))
  show ∀ w_, _ → bodyPostM (fence none) 0 Tryz.prog Tryz.f26 _ Exit.ret _ w_
  exact fun w_ hS_ => fin_ret (ret1 rfl (RV.tmp (v := bV true) ma0) hS_ ⟨by clear hK1 hK2 hK3 hJ4 hK7 hK8 hK24; refine congrArg Ending.returned ?_; exact bool_congr (by rw [← hF, wl_f h14 hk]), hS_.below⟩)
theorem inn_c (a : Nat) (bits : Int) (w : World) (ha : a < 4294967296) : Calls Tryz.prog 27 #[nV .u32 a, iV .i64 bits] w (Ret w (.bool (inR a bits 32 0 0 true true))) := by
 refine calls_W (M := []) (LL := []) (n := 35) Tryz.func27 rfl rfl ma6 (Mem.refl _) (W.seq (fun K1 hK1 => ?_))
 refine W.region (Wl.run 1 ma0 (Wl.nil (hK1 _ _ _ (W.seq (fun K2 hK2 => ?_)))))
 refine W.region (Wl.run 3 ma0 (Wl.nil (hK2 _ _ _ (W.prune' [0, 1, 5, 6, 7] [nV .u32 a, iV .i64 bits, iV .i64 0, bV true, bV true] ma0 (fun f3 => ?_)))))
 refine W.seq (fun K4 hK4 => W.seq (fun K5 hK5 => ?_))
 refine W.region (Wl.run 1 ma0 (Wl.nil (hK5 _ _ _ (W.block ?_))))
 refine W.loop4 [0, 1, 5, 6, 7, 8] (fun (k : Nat) (n : Nat) (z : Bool) (o : Bool) => [nV .u32 a, iV .i64 bits, nV .i64 n, bV z, bV o, nV .i64 k]) (fun (k : Nat) (n : Nat) (z : Bool) (o : Bool) => k ≤ 32 ∧ n ≤ k ∧ inR a bits (32 - k) k n z o = inR a bits 32 0 0 true true) (fun (k : Nat) (n : Nat) (z : Bool) (o : Bool) => []) (fun (k : Nat) (n : Nat) (z : Bool) (o : Bool) => 32 - k) 0 0 true true ma0 ⟨ma1, ma1, rfl⟩ (by rfl) (fun k n z o f7 J6 hp8 hJ6 => ?_)
 obtain ⟨hk, hn, hF⟩ := hp8
 refine W.seq (fun K9 hK9 => W.seq (fun K10 hK10 => ?_))
 refine W.region (Wl.run 2 ma0 (Wl.nil (hK10 _ _ _ (W.prune' [0, 1, 5, 6, 7, 8, 10] [nV .u32 a, iV .i64 bits, nV .i64 n, bV z, bV o, nV .i64 k, bV (decide (((k : Nat) : Int) < 32))] ma0 (fun f11 => ?_)))))
 refine W.cond (decide (((k : Nat) : Int) < 32)) ma0 (fun h12 => ?_) (fun h13 => ?_)
 ·have qh12 := h12; try simp only [zA] at qh12
  refine W.skip' (hK9 _ _ _ (W.prune' [0, 1, 5, 6, 7, 8] [nV .u32 a, iV .i64 bits, nV .i64 n, bV z, bV o, nV .i64 k] ma0 (fun f14 => W.seq (fun K15 hK15 => W.block ?_))))
  refine W.seq (fun K16 hK16 => W.seq (fun K17 hK17 => ?_))
  refine W.region (Wl.run 3 ma0 (Wl.nil (hK17 _ _ _ (W.prune' [0, 1, 5, 6, 7, 8, 15] [nV .u32 a, iV .i64 bits, nV .i64 n, bV z, bV o, nV .i64 k, bV (decide (((k : Nat) : Int) < bits))] ma0 (fun f18 => ?_)))))
  refine W.cond (decide (((k : Nat) : Int) < bits)) ma0 (fun h19 => ?_) (fun h20 => ?_)
  ·have qh19 := h19; try simp only [zA] at qh19
   refine W.exit (hK15 _ _ _ (W.prune' [0, 1, 5, 6, 7, 8] [nV .u32 a, iV .i64 bits, nV .i64 n, bV z, bV o, nV .i64 k] ma0 (fun f21 => W.region (Wl.run 1 ma0 ?_))))
   refine Wl.ys (v := nV .i64 (k + 1)) rfl rfl ((Ys.pure (v := .int .i64 (iadd .i64 (k : Int) 1)) (fun _ => kr)).conseq (int_congr (iadd_eq ma1 ma1 ma1))) (Wl.run 1 ma0 (Wl.nil ?_))
   refine fun w_ h_ => hJ6 (k + 1) n z o _ w_ ma1 ⟨ma1, ma1, (by have z_ := hF; rw [in_e ma1, h19] at z_; exact z_)⟩ ?_ h_
   kernel_rfl
  ·have qh20 := h20; try simp only [zA] at qh20
   refine W.skip' (hK16 _ _ _ (W.prune' [0, 1, 5, 6, 7, 8] [nV .u32 a, iV .i64 bits, nV .i64 n, bV z, bV o, nV .i64 k] ma0 (fun f22 => W.seq (fun K23 hK23 => W.region ?_))))
   refine Wl.run 1 ma0 (Wl.ys (v := nV .i64 (n + 1)) rfl rfl ((Ys.pure (v := .int .i64 (iadd .i64 (n : Int) 1)) (fun _ => kr)).conseq (int_congr (iadd_eq ma1 ma1 ma1))) (Wl.run 1 ma0 (Wl.nil (hK23 _ _ _ ?_))))
   refine W.prune' [0, 1, 5, 6, 7, 8] [nV .u32 a, iV .i64 bits, nV .i64 (n + 1), bV z, bV o, nV .i64 k] ma0 (fun f24 => W.seq (fun K25 hK25 => ?_))
   refine W.region (Wl.run 2 ma0 (Wl.ys (v := iV .i64 (31 - (k : Int))) rfl rfl ((Ys.pure (v := .int .i64 (isub .i64 31 (k : Int))) (fun _ => kr)).conseq (int_congr (isub_eq rfl ma1 ma1))) (Wl.ys (v := iV .u64 (31 - (k : Int))) rfl rfl ((Ys.pure (v := .int .u64 (icnv .u64 (31 - (k : Int)))) (fun _ => kr)).conseq (int_congr (wrap_u64 ma1 ma1))) (Wl.ys (v := iV .u32 (ishr .u32 (a : Int) (31 - (k : Int)))) rfl rfl (Ys.shr (k := .u32) (k' := .u64) (a := (a : Int)) (b := 31 - (k : Int)) rfl ma0 ma0 ma1) ?_))))
   refine Wl.run 2 ma0 (Wl.nil (hK25 _ _ _ (W.prune' [0, 1, 5, 6, 7, 8, 24] [nV .u32 a, iV .i64 bits, nV .i64 (n + 1), bV z, bV o, nV .i64 k, bV ((band .u32 (ishr .u32 (a : Int) (31 - (k : Int))) 1) == 1)] ma0 (fun f26 => ?_))))
   refine W.cond ((band .u32 (ishr .u32 (a : Int) (31 - (k : Int))) 1) == 1) ma0 (fun h27 => ?_) (fun h28 => ?_)
   ·have qh27 := h27; try simp only [zA] at qh27
    refine W.region (Wl.run 1 ma0 (Wl.nil (hK15 _ _ _ (W.prune' [0, 1, 5, 6, 7, 8] [nV .u32 a, iV .i64 bits, nV .i64 (n + 1), bV false, bV o, nV .i64 k] ma0 (fun f29 => ?_)))))
    refine W.region (Wl.run 1 ma0 (Wl.ys (v := nV .i64 (k + 1)) rfl rfl ((Ys.pure (v := .int .i64 (iadd .i64 (k : Int) 1)) (fun _ => kr)).conseq (int_congr (iadd_eq ma1 ma1 ma1))) (Wl.run 1 ma0 (Wl.nil ?_))))
    refine fun w_ h_ => hJ6 (k + 1) (n + 1) false o _ w_ ma1 ⟨ma1, ma1, (by have z_ := hF; rw [in_e ma1, h20, show (btX a k == 1) = true from h27] at z_; exact z_)⟩ ?_ h_
    kernel_rfl
   ·have qh28 := h28; try simp only [zA] at qh28
    refine W.region (Wl.run 1 ma0 (Wl.nil (hK15 _ _ _ (W.prune' [0, 1, 5, 6, 7, 8] [nV .u32 a, iV .i64 bits, nV .i64 (n + 1), bV z, bV false, nV .i64 k] ma0 (fun f30 => ?_)))))
    refine W.region (Wl.run 1 ma0 (Wl.ys (v := nV .i64 (k + 1)) rfl rfl ((Ys.pure (v := .int .i64 (iadd .i64 (k : Int) 1)) (fun _ => kr)).conseq (int_congr (iadd_eq ma1 ma1 ma1))) (Wl.run 1 ma0 (Wl.nil ?_))))
    refine fun w_ h_ => hJ6 (k + 1) (n + 1) z false _ w_ ma1 ⟨ma1, ma1, (by have z_ := hF; rw [in_e ma1, h20, show (btX a k == 1) = false from h28] at z_; exact z_)⟩ ?_ h_
    kernel_rfl
 ·have qh13 := h13; try simp only [zA] at qh13
  refine W.exit (hK4 _ _ _ (W.prune' [5, 6, 7] [nV .i64 n, bV z, bV o] ma0 (fun f31 => W.seq (fun K32 hK32 => W.region ?_))))
  refine Wl.run 3 ma0 ?_
  refine Wl.guard (v := bV z) (!(((n : Nat) : Int) == 0)) rfl (wantF rfl ma0) rfl (fun hg33 => ?_) ?_
  ·exact Ys.pure (fun _ => kr)
  refine Wl.guard (v := bV (!z)) (!(((n : Nat) : Int) == 0)) rfl (wantF rfl ma0) rfl (fun hg34 => ?_) ?_
  ·refine Ys.at (t := 28) (v0 := bV z) (lz (g := !(((n : Nat) : Int) == 0)) (u := undef) hg34 ma0) ?_
   exact Ys.pure (fun _ => kr)
  refine Wl.guard (v := bV (!z)) (!(((n : Nat) : Int) == 0)) rfl (wantF rfl ma0) rfl (fun hg35 => ?_) ?_
  ·refine Ys.at (t := 29) (v0 := bV (!z)) (lz (g := !(((n : Nat) : Int) == 0)) (u := undef) hg35 ma0) ?_
   exact Ys.pure (fun _ => kr)
  refine Wl.guard (v := bV o) ((!(((n : Nat) : Int) == 0)) && !z) rfl (wantTz rfl rfl ma0) rfl (fun hg36 => ?_) ?_
  ·exact Ys.pure (fun _ => kr)
  refine Wl.guard (v := bV (!o)) ((!(((n : Nat) : Int) == 0)) && !z) rfl (wantTz rfl rfl ma0) rfl (fun hg37 => ?_) ?_
  ·refine Ys.at (t := 31) (v0 := bV o) (lz (g := (!(((n : Nat) : Int) == 0)) && !z) (u := undef) hg37 ma0) ?_
   exact Ys.pure (fun _ => kr)
  refine Wl.guard (v := bV ((!z) && (!o))) (!(((n : Nat) : Int) == 0)) rfl (wantF rfl ma0) rfl (fun hg38 => ?_) ?_
  ·refine Ys.at (t := 30) (v0 := bV (!z)) (lz (g := !(((n : Nat) : Int) == 0)) (u := undef) hg38 ma0) (Ys.at (t := 32) (v0 := (bif !z then bV (!o) else undef)) (lz2 (g := !(((n : Nat) : Int) == 0)) hg38 ma0) ?_)
   exact Ys.and (e := !z) (b := !o) rfl ma0 ma0 ma0
  refine Wl.ys (v := bV (((n : Int) == 0) || ((!z) && (!o)))) rfl rfl (Ys.or' (e := (n : Int) == 0) (b := (!z) && (!o)) rfl ma0 ma0 ma0) (Wl.run 1 ma0 (Wl.nil (hK32 _ _ _ (W.prune' [4] [bV (((n : Int) == 0) || ((!z) && (!o)))] ma0 (fun f39 => ?_)))))
  refine W.ret ?_
  show ∀ w_, _ → bodyPostM (fence none) 0 Tryz.prog Tryz.f27 _ Exit.ret _ w_
  exact fun w_ hS_ => fin_ret (ret1 rfl (RV.tmp (v := bV (((n : Int) == 0) || ((!z) && (!o)))) ma0) hS_ ⟨by clear hK1 hK2 hK4 hK5 hJ6 hK9 hK10 hK32; refine congrArg Ending.returned ?_; exact bool_congr (by rw [← hF, show 32 - k = 0 by have z_ := of_decide_eq_false h13; omega]; rfl), hS_.below⟩)
abbrev dLg_1244_0 (a la : Nat) (c : Conf.Cfg) : Bool := ((wlR a la c.bits 32 0) && (((a : Nat) : Int) != (la : Int)))
theorem hostL_c (c : Conf.Cfg) (la a : Nat) (w : World) (ha : a < 4294967296) (hla : la < 4294967296) : Calls Tryz.prog 9 #[aV [iV .u8 c.lm0, iV .u8 c.lm1, iV .u8 c.lm2, iV .u8 c.lm3, iV .u8 c.lm4, iV .u8 c.lm5, iV .u8 c.wm0, iV .u8 c.wm1, iV .u8 c.wm2, iV .u8 c.wm3, iV .u8 c.wm4, iV .u8 c.wm5, iV .u8 c.hm0, iV .u8 c.hm1, iV .u8 c.hm2, iV .u8 c.hm3, iV .u8 c.hm4, iV .u8 c.hm5, nV .u32 la, iV .u32 c.wan, iV .i64 c.bits, iV .i64 c.ms, iV .i64 c.mm, iV .i64 c.mc, iV .i64 c.mu, Value.slice c.fa c.fl c.fc, iV .u32 c.dmz, Value.string c.uu], nV .u32 a] w (Ret w (.bool (hst (la : Int) c.bits (a : Int)))) := by
 refine calls_W (M := []) (LL := []) (n := 23) Tryz.func9 rfl rfl ma6 (Mem.refl _) (W.seq (fun K1 hK1 => ?_))
 refine W.region (Wl.ht rfl (Ht.box (v := aV [iV .u8 c.lm0, iV .u8 c.lm1, iV .u8 c.lm2, iV .u8 c.lm3, iV .u8 c.lm4, iV .u8 c.lm5, iV .u8 c.wm0, iV .u8 c.wm1, iV .u8 c.wm2, iV .u8 c.wm3, iV .u8 c.wm4, iV .u8 c.wm5, iV .u8 c.hm0, iV .u8 c.hm1, iV .u8 c.hm2, iV .u8 c.hm3, iV .u8 c.hm4, iV .u8 c.hm5, nV .u32 la, iV .u32 c.wan, iV .i64 c.bits, iV .i64 c.ms, iV .i64 c.mm, iV .i64 c.mc, iV .i64 c.mu, Value.slice c.fa c.fl c.fc, iV .u32 c.dmz, Value.string c.uu]) (cs := [iV .u8 c.lm0, iV .u8 c.lm1, iV .u8 c.lm2, iV .u8 c.lm3, iV .u8 c.lm4, iV .u8 c.lm5, iV .u8 c.wm0, iV .u8 c.wm1, iV .u8 c.wm2, iV .u8 c.wm3, iV .u8 c.wm4, iV .u8 c.wm5, iV .u8 c.hm0, iV .u8 c.hm1, iV .u8 c.hm2, iV .u8 c.hm3, iV .u8 c.hm4, iV .u8 c.hm5, nV .u32 la, iV .u32 c.wan, iV .i64 c.bits, iV .i64 c.ms, iV .i64 c.mm, iV .i64 c.mc, iV .i64 c.mu, Value.slice c.fa c.fl c.fc, iV .u32 c.dmz, Value.string c.uu]) rfl rfl ma0 rfl) (fun p2 => ?_))
 refine Wl.run 1 ma0 (Wl.nil (hK1 _ _ _ (W.prune' [1, 2] [nV .u32 a, pV p2 0] ma0 (fun f2 => W.seq (fun K3 hK3 => ?_)))))
 refine W.region (Wl.run 2 ma0 (Wl.ys rfl rfl (Ys.l1 p2 18 0 0 Tryz.isAgg24) (Wl.run 1 ma0 (Wl.ys rfl rfl (Ys.l1 p2 20 0 0 Tryz.isAgg3) ?_))))
 refine Wl.yc (v := bV (wlR a la c.bits 32 0)) rfl rfl (Yc.call (fun _ => kr) (fun w_ hm_ => (wit_c a la c.bits _ ma1 ma1))) (Wl.run 1 ma0 ?_)
 refine Wl.guard (v := nV .u32 a) (wlR a la c.bits 32 0) rfl (wantT rfl ma0) rfl (fun hg4 => ?_) ?_
 ·exact Ys.pure (fun _ => kr)
 refine Wl.guard (v := pV p2 18) (wlR a la c.bits 32 0) rfl (wantT rfl ma0) rfl (fun hg5 => ?_) ?_
 ·exact Ys.pure (fun _ => kr)
 refine Wl.guard (v := nV .u32 la) (wlR a la c.bits 32 0) rfl (wantT rfl ma0) rfl (fun hg6 => ?_) ?_
 ·refine Ys.at (t := 13) (v0 := pV p2 18) (lz (g := wlR a la c.bits 32 0) (u := undef) hg6 ma0) ?_
  exact Ys.l1 p2 18 0 0 Tryz.isAgg24
 refine Wl.guard (v := bV (((a : Nat) : Int) != (la : Int))) (wlR a la c.bits 32 0) rfl (wantT rfl ma0) rfl (fun hg7 => ?_) ?_
 ·refine Ys.at (t := 12) (v0 := nV .u32 a) (lz (g := wlR a la c.bits 32 0) (u := undef) hg7 ma0) (Ys.at (t := 14) (v0 := nV .u32 la) (lz (g := wlR a la c.bits 32 0) (u := undef) hg7 ma0) ?_)
  exact Ys.pure (fun _ => kr)
 refine Wl.ys (v := bV (dLg_1244_0 a la c)) rfl rfl (Ys.and (e := wlR a la c.bits 32 0) (b := (a : Int) != (la : Int)) rfl ma0 ma0 ma0) (Wl.run 1 ma0 ?_)
 refine Wl.guard (v := nV .u32 a) (dLg_1244_0 a la c) rfl (wantT rfl ma0) rfl (fun hg8 => ?_) ?_
 ·exact Ys.pure (fun _ => kr)
 refine Wl.guard (v := pV p2 20) (dLg_1244_0 a la c) rfl (wantT rfl ma0) rfl (fun hg9 => ?_) ?_
 ·exact Ys.pure (fun _ => kr)
 refine Wl.guard (v := iV .i64 c.bits) (dLg_1244_0 a la c) rfl (wantT rfl ma0) rfl (fun hg10 => ?_) ?_
 ·refine Ys.at (t := 19) (v0 := pV p2 20) (lz (g := (wlR a la c.bits 32 0) && (((a : Nat) : Int) != (la : Int))) (u := undef) hg10 ma0) ?_
  exact Ys.l1 p2 20 0 0 Tryz.isAgg3
 refine Wl.guardc (v := bV (inR a c.bits 32 0 0 true true)) (dLg_1244_0 a la c) rfl (wantT rfl ma0) rfl (fun hg11 => ?_) ?_
 ·have qhg11 := hg11; try simp only [zA] at qhg11
  refine Yc.at (t := 18) (v0 := nV .u32 a) (lz (g := (wlR a la c.bits 32 0) && (((a : Nat) : Int) != (la : Int))) (u := undef) hg11 ma0) (Yc.at (t := 20) (v0 := iV .i64 c.bits) (lz (g := (wlR a la c.bits 32 0) && (((a : Nat) : Int) != (la : Int))) (u := undef) hg11 ma0) ?_)
  exact Yc.call (fun _ => kr) (fun w_ hm_ => (inn_c a c.bits _ ma1))
 refine Wl.ys (v := bV ((dLg_1244_0 a la c) && (inR a c.bits 32 0 0 true true))) rfl rfl (Ys.and (e := (wlR a la c.bits 32 0) && (((a : Nat) : Int) != (la : Int))) (b := inR a c.bits 32 0 0 true true) rfl ma0 ma0 ma0) (Wl.run 1 ma0 (Wl.nil (hK3 _ _ _ (W.pick (LL' := []) [] ma2 rfl ?_))))
 refine W.prune' [4] [bV ((dLg_1244_0 a la c) && (inR a c.bits 32 0 0 true true))] ma0 (fun f12 => W.ret ?_)
 show ∀ w_, _ → bodyPostM (fence none) 0 Tryz.prog Tryz.f9 _ Exit.ret _ w_
 exact fun w_ hS_ => fin_ret (ret1 rfl (RV.tmp (v := bV (((wlR a la c.bits 32 0) && (((a : Nat) : Int) != (la : Int))) && (inR a c.bits 32 0 0 true true))) ma0) hS_ ⟨rfl, hS_.below⟩)
end Go.Proofs.YtmonlaoaengfdaaGreatDoor.Oct
namespace Go.Proofs.YtmonlaoaengfdaaGreatDoor.Oct
open Go.RowKit Base
attribute [local irreducible] Ys Yc Ht HtS HtIn Wl Wd W Mem pf dpf Wa Wo
def tkC (tk : Nat → Option Nat) : List Value := (List.range 256).map fun i => Value.pointer (optA (tk i))
theorem tkC_len (tk : Nat → Option Nat) : (tkC tk).length = 256 := by unfold tkC; rw [List.length_map, List.length_range]
theorem tkC_get {tk : Nat → Option Nat} {p : Nat} (h : p < 256) : (tkC tk)[p]? = some (.pointer (optA (tk p))) := by
  unfold tkC; rw [List.getElem?_map, List.getElem?_range h]; rfl
def upo (tk : Nat → Option Nat) (p : Nat) (b : Option Nat) : Nat → Option Nat := fun q => bif q == p then b else tk q
theorem upo_same (tk : Nat → Option Nat) (p : Nat) (b : Option Nat) : upo tk p b p = b := by simp [upo]
theorem upo_other (tk : Nat → Option Nat) {p q : Nat} (b : Option Nat) (h : q ≠ p) : upo tk p b q = tk q := by unfold upo; rw [show (q == p) = false from beq_eq_false_iff_ne.2 h]; rfl
theorem tkC_set {tk : Nat → Option Nat} {p : Nat} (b : Option Nat) (h : p < 256) : (tkC tk).set p (.pointer (optA b)) = tkC (upo tk p b) := by
  apply List.ext_getElem?
  intro i
  rw [List.getElem?_set]
  by_cases hi : i < 256
  · rw [tkC_get hi]
    by_cases e : p = i
    · subst e; rw [if_pos rfl, if_pos (by rw [tkC_len]; exact hi), tkC_get hi, upo_same]
    · rw [if_neg e, tkC_get hi, upo_other _ _ (fun z => e z.symm)]
  · rw [if_neg ma1, List.getElem?_eq_none (by rw [tkC_len]; omega), List.getElem?_eq_none (by rw [tkC_len]; omega)]
def natC (cf : List Value) (m s e : Value) (tk : Nat → Option Nat) (wh ids last : Value) : List Value := (cf ++ [m, s, e]) ++ (tkC tk ++ [wh, ids, last])
section
variable {cf : List Value} {m s e wh ids last v : Value} {tk : Nat → Option Nat}
theorem natC_len (hc : cf.length = 28) : (natC cf m s e tk wh ids last).length = 290 := by
  unfold natC; simp only [List.length_append, tkC_len, hc]; rfl
theorem natC_lo (hc : cf.length = 28) {q : Nat} (h : q < 31) : (natC cf m s e tk wh ids last)[q]? = (cf ++ [m, s, e])[q]? := by
  unfold natC; rw [List.getElem?_append_left (by simp [hc]; omega)]
theorem natC_tk (hc : cf.length = 28) {p : Nat} (h : p < 256) : (natC cf m s e tk wh ids last)[31 + p]? = some (.pointer (optA (tk p))) := by
  unfold natC
  rw [List.getElem?_append_right (by simp [hc]), show 31 + p - (cf ++ [m, s, e]).length = p by simp [hc], List.getElem?_append_left (by rw [tkC_len]; exact h), tkC_get h]
theorem natC_hi (hc : cf.length = 28) (q : Nat) : (natC cf m s e tk wh ids last)[287 + q]? = [wh, ids, last][q]? := by
  unfold natC
  rw [List.getElem?_append_right (by simp [hc]; omega), show 287 + q - (cf ++ [m, s, e]).length = 256 + q by simp [hc]; omega, List.getElem?_append_right (by rw [tkC_len]; omega), tkC_len, show 256 + q - 256 = q by omega]
theorem natC_set_tk (hc : cf.length = 28) {p : Nat} (b : Option Nat) (h : p < 256) : (natC cf m s e tk wh ids last).set (31 + p) (.pointer (optA b)) = natC cf m s e (upo tk p b) wh ids last := by
  unfold natC
  rw [List.set_append_right _ _ (by simp [hc]), show 31 + p - (cf ++ [m, s, e]).length = p by simp [hc], List.set_append_left _ _ (by rw [tkC_len]; exact h), tkC_set b h]
theorem natC_set_hi (hc : cf.length = 28) (q : Nat) : (natC cf m s e tk wh ids last).set (287 + q) v = (cf ++ [m, s, e]) ++ (tkC tk ++ [wh, ids, last].set q v) := by
  unfold natC
  rw [List.set_append_right _ _ (by simp [hc]; omega), show 287 + q - (cf ++ [m, s, e]).length = 256 + q by simp [hc]; omega, List.set_append_right _ _ (by rw [tkC_len]; omega), tkC_len, show 256 + q - 256 = q by omega]
theorem natC_set_lo (hc : cf.length = 28) {q : Nat} (h : q < 31) : (natC cf m s e tk wh ids last).set q v = (cf ++ [m, s, e]).set q v ++ (tkC tk ++ [wh, ids, last]) := by
  unfold natC
  rw [List.set_append_left _ _ (by simp [hc]; omega)]
end
def setsR (ty : TypeId) (tk : Nat → Option Nat) (TT : Nat → Nat → Bool) (cn : Nat → Int) (a n : Nat) : List Blk := (List.range' a n).flatMap fun i => (tk i).elim [] fun b => [cb b (psC (TT i) (cn i)) ty]
theorem setsR_split {ty : TypeId} {tk : Nat → Option Nat} {TT : Nat → Nat → Bool} {cn : Nat → Int} {p : Nat} (hp : p < 256) : setsR ty tk TT cn 0 256 = setsR ty tk TT cn 0 p ++ (((tk p).elim [] fun b => [cb b (psC (TT p) (cn p)) ty]) ++ setsR ty tk TT cn (p + 1) (255 - p)) := by
  unfold setsR
  have e : List.range' 0 256 = List.range' 0 p ++ (p :: List.range' (p + 1) (255 - p)) := by
    have h1 := List.range'_append_1 (s := 0) (m := p) (n := 256 - p)
    rw [show p + (256 - p) = 256 by omega, Nat.zero_add] at h1
    rw [← h1, show 256 - p = (255 - p) + 1 by omega, List.range'_succ]
  rw [e, List.flatMap_append, List.flatMap_cons]
theorem setsR_congr {ty : TypeId} {tk tk' : Nat → Option Nat} {TT TT' : Nat → Nat → Bool} {cn cn' : Nat → Int} {a n : Nat} (h : ∀ i, a ≤ i → i < a + n → tk' i = tk i ∧ TT' i = TT i ∧ cn' i = cn i) : setsR ty tk' TT' cn' a n = setsR ty tk TT cn a n := by
  unfold setsR
  rw [List.flatMap_def, List.flatMap_def]
  refine congrArg List.flatten (List.map_congr_left fun i hi => ?_)
  obtain ⟨h1, h2⟩ := List.mem_range'_1.1 hi
  obtain ⟨e1, e2, e3⟩ := h i h1 h2
  rw [e1, e2, e3]
end Go.Proofs.YtmonlaoaengfdaaGreatDoor.Oct
namespace Go.Proofs.YtmonlaoaengfdaaGreatDoor.Oct
open Go.RowKit Base
attribute [local irreducible] Ys Yc Ht HtS HtIn Wl Wd W Mem pf dpf Wa Wo
open Conf (Fwd fwv)
theorem from_c (a b c d e : Int) (w : World) : Calls Tryz.prog 79 #[aV [iV .u8 a, iV .u32 b, iV .u32 c, iV .u16 d, iV .u16 e]] w (Ret w (aV [iV .u8 a, iV .u32 b, iV .u16 d])) := by
 refine calls_W (M := []) (LL := []) (n := 10) Tryz.func79 rfl rfl ma6 (Mem.refl _) (W.seq (fun K1 hK1 => ?_))
 refine W.region (Wl.ht rfl (Ht.box (v := aV [iV .u8 a, iV .u32 b, iV .u32 c, iV .u16 d, iV .u16 e]) (cs := [iV .u8 a, iV .u32 b, iV .u32 c, iV .u16 d, iV .u16 e]) rfl rfl ma0 rfl) (fun p1 => ?_))
 refine Wl.ht rfl (Ht.alloc (z := aV zl7) (cs := zl7) rfl rfl Tryz.zeroValue97 rfl) (fun p2 => Wl.nil (hK1 _ _ _ (W.prune' [1, 2] [pV p1 0, pV p2 0] ma0 (fun f2 => W.seq (fun K3 hK3 => ?_)))))
 refine W.region (Wl.run 1 ma0 (Wl.ys rfl rfl (Ys.l1 p1 0 1 0 Tryz.isAgg5) (Wl.run 1 ma0 (Wl.ys rfl rfl (Ys.l1 p1 1 1 0 Tryz.isAgg24) ?_))))
 refine Wl.run 1 ma0 (Wl.ys rfl rfl (Ys.l1 p1 3 1 0 Tryz.isAgg22) (Wl.run 1 ma0 (Wl.ht rfl (Ht.storeN (b := p2) (o' := 0) (i := 0) (j := 0) (vs := [iV .u8 a, iV .u32 b, iV .u16 d]) (LL' := [[cb p2 [iV .u8 a, iV .u32 b, iV .u16 d] 97], [cb p1 [iV .u8 a, iV .u32 b, iV .u32 c, iV .u16 d, iV .u16 e] 47]]) rfl rfl ma0 ma0 Tryz.sizeOf97 ma7 rfl rfl ma6 rfl rfl) (fun _ => Wl.nil ?_))))
 refine hK3 _ _ _ (W.pick (LL' := [[cb p2 [iV .u8 a, iV .u32 b, iV .u16 d] 97]]) [0] ma2 rfl (W.prune' [2] [pV p2 0] ma0 (fun f4 => W.ret ?_)))
 show ∀ w_, _ → bodyPostM (fence none) 0 Tryz.prog Tryz.f79 _ Exit.ret _ w_
 exact fun w_ hS_ => fin_ret (ret1 rfl (RV.cellN (b := p2) (o' := 0) (i := 0) (j := 0) (cs := [iV .u8 a, iV .u32 b, iV .u16 d]) (vs := [iV .u8 a, iV .u32 b, iV .u16 d]) ma0 Tryz.isAgg97 Tryz.sizeOf97 rfl rfl rfl rfl) hS_ ⟨rfl, hS_.below⟩)
abbrev cfC (c : Conf.Cfg) (sl : Value) : List Value := [Value.int .u8 c.lm0, Value.int .u8 c.lm1, Value.int .u8 c.lm2, Value.int .u8 c.lm3, Value.int .u8 c.lm4, Value.int .u8 c.lm5, Value.int .u8 c.wm0, Value.int .u8 c.wm1, Value.int .u8 c.wm2, Value.int .u8 c.wm3, Value.int .u8 c.wm4, Value.int .u8 c.wm5, Value.int .u8 c.hm0, Value.int .u8 c.hm1, Value.int .u8 c.hm2, Value.int .u8 c.hm3, Value.int .u8 c.hm4, Value.int .u8 c.hm5, Value.int .u32 c.lan, Value.int .u32 c.wan, Value.int .i64 c.bits, Value.int .i64 c.ms, Value.int .i64 c.mm, Value.int .i64 c.mc, Value.int .i64 c.mu, sl, Value.int .u32 c.dmz, Value.string c.uu]
theorem set_old_c (c : Conf.Cfg) (gf : FS) (fx : List Conf.Fwd) (mv : Value) (ts te : Nat) (tk : Nat → Option Nat) (wb ti : Nat) (lst : Int) (nb pr : Nat) (b : Nat) (w : World) (hnt : At w (some ⟨nb, 0, none⟩) (natC (cfC c (Value.slice gf.a fx.length gf.cap)) (mv) (Value.pointer (some ⟨ts, 0, none⟩)) (Value.pointer (some ⟨te, 0, none⟩)) tk (Value.pointer (some ⟨wb, 0, none⟩)) (Value.pointer (some ⟨ti, 0, none⟩)) (Value.int .u64 lst))) (htk : tk pr = some b) (hp : pr < 256) : Calls Tryz.prog 69 #[pV nb 0, nV .u8 pr] w (Ret w (.pointer (some ⟨b, 0, none⟩))) := by
 refine calls_W (M := []) (LL := []) (n := 24) Tryz.func69 rfl rfl ma6 (Mem.refl _) (W.seq (fun K1 hK1 => ?_))
 refine W.region (Wl.run 1 ma0 (Wl.nil (hK1 _ _ _ (W.seq (fun K2 hK2 => ?_)))))
 refine W.seq (fun K3 hK3 => W.region (Wl.run 4 ma0 (Wl.ys (v := Value.pointer (some ⟨nb, 31 + pr * 1, none⟩)) rfl rfl (Ys.indexArr (k := .u8) (i := (pr : Int)) (sz := 1) rfl ma0 ma0 Tryz.runUnderlying88 Tryz.sizeOf87 ma1 ma1) (Wl.ys (v := Value.pointer (optA (tk pr))) rfl rfl (Ys.ld (a := ⟨nb, 31 + pr * 1, none⟩) rfl ma0 Tryz.isAgg87 (fun w_ h_ => by have x_ := (hnt.mem0 h_).ld (q := 31 + pr * 1) ((by rw [Nat.mul_one]; exact natC_tk rfl ma1)); rw [ela_own0] at x_; exact x_)) ?_))))
 refine Wl.ys (v := bV ((tk pr).isNone)) rfl rfl (Ys.pure (fun _ => by generalize (tk pr) = o_; cases o_ <;> kernel_rfl)) (Wl.nil (hK3 _ _ _ (W.prune' [0, 1, 11] [pV nb 0, nV .u8 pr, bV ((tk pr).isNone)] ma0 (fun f4 => ?_))))
 refine W.cond ((tk pr).isNone) ma0 (fun h5 => ?_) (fun h6 => ?_)
 ·(exfalso; rw [htk] at h5; cases h5)
 ·refine W.skip' (hK2 _ _ _ (W.prune' [0, 1] [pV nb 0, nV .u8 pr] ma0 (fun f7 => W.seq (fun K8 hK8 => W.region ?_))))
  refine Wl.run 4 ma0 (Wl.ys (v := Value.pointer (some ⟨nb, 31 + pr * 1, none⟩)) rfl rfl (Ys.indexArr (k := .u8) (i := (pr : Int)) (sz := 1) rfl ma0 ma0 Tryz.runUnderlying88 Tryz.sizeOf87 ma1 ma1) (Wl.ys (v := Value.pointer (optA (tk pr))) rfl rfl (Ys.ld (a := ⟨nb, 31 + pr * 1, none⟩) rfl ma0 Tryz.isAgg87 (fun w_ h_ => by have x_ := (hnt.mem0 h_).ld (q := 31 + pr * 1) ((by rw [Nat.mul_one]; exact natC_tk rfl ma1)); rw [ela_own0] at x_; exact x_)) (Wl.run 1 ma0 (Wl.nil ?_))))
  refine hK8 _ _ _ (W.prune' [4] [Value.pointer (optA (tk pr))] ma0 (fun f9 => ?_))
  refine W.ret ?_
  show ∀ w_, _ → bodyPostM (fence none) 0 Tryz.prog Tryz.f69 _ Exit.ret _ w_
  exact fun w_ hS_ => fin_ret (ret1 rfl (RV.tmp (v := Value.pointer (optA (tk pr))) ma0) hS_ ⟨by clear hK1 hK2 hK3 hK8; refine congrArg Ending.returned ?_; rw [htk]; rfl, hS_.below⟩)
theorem set_new_c (c : Conf.Cfg) (gf : FS) (fx : List Conf.Fwd) (mv : Value) (ts te : Nat) (tk : Nat → Option Nat) (wb ti : Nat) (lst : Int) (nb pr : Nat) (M : List Nat) (w : World) (hl : Mem w M [[cb nb (natC (cfC c (Value.slice gf.a fx.length gf.cap)) (mv) (Value.pointer (some ⟨ts, 0, none⟩)) (Value.pointer (some ⟨te, 0, none⟩)) tk (Value.pointer (some ⟨wb, 0, none⟩)) (Value.pointer (some ⟨ti, 0, none⟩)) (Value.int .u64 lst)) 91]] w) (htk : tk pr = none) (hp : pr < 256) : Calls Tryz.prog 69 #[pV nb 0, nV .u8 pr] w (RetM w (fun _ : Nat => True) (fun b => .pointer (some ⟨b, 0, none⟩)) M (fun b => [[cb nb (natC (cfC c (Value.slice gf.a fx.length gf.cap)) (mv) (pV ts 0) (pV te 0) (upo tk pr (some b)) (pV wb 0) (pV ti 0) (iV .u64 lst)) 91], [cb b (psC (fun _ => false) 0) 230]])) := by
 refine calls_W (M := M) (LL := [[cb nb (natC (cfC c (Value.slice gf.a fx.length gf.cap)) (mv) (pV ts 0) (pV te 0) tk (pV wb 0) (pV ti 0) (iV .u64 lst)) 91]]) (n := 24) Tryz.func69 rfl rfl ma6 (hl) (W.seq (fun K1 hK1 => ?_))
 refine W.region (Wl.run 1 ma0 (Wl.nil (hK1 _ _ _ (W.seq (fun K2 hK2 => ?_)))))
 refine W.seq (fun K3 hK3 => W.region (Wl.run 4 ma0 (Wl.ys (v := Value.pointer (some ⟨nb, 31 + pr * 1, none⟩)) rfl rfl (Ys.indexArr (k := .u8) (i := (pr : Int)) (sz := 1) rfl ma0 ma0 Tryz.runUnderlying88 Tryz.sizeOf87 ma1 ma1) (Wl.ys rfl rfl (Ys.load (b := nb) (o' := 31 + pr * 1) (i := 0) (j := 0) (cs := natC (cfC c (Value.slice gf.a fx.length gf.cap)) (mv) (pV ts 0) (pV te 0) tk (pV wb 0) (pV ti 0) (iV .u64 lst)) (v := Value.pointer (optA (tk pr))) rfl ma0 Tryz.isAgg87 rfl rfl ((by rw [Nat.mul_one]; exact natC_tk rfl ma1))) ?_))))
 refine Wl.ys (v := bV ((tk pr).isNone)) rfl rfl (Ys.pure (fun _ => by generalize (tk pr) = o_; cases o_ <;> kernel_rfl)) (Wl.nil (hK3 _ _ _ (W.prune' [0, 1, 11] [pV nb 0, nV .u8 pr, bV ((tk pr).isNone)] ma0 (fun f4 => ?_))))
 refine W.cond ((tk pr).isNone) ma0 (fun h5 => ?_) (fun h6 => ?_)
 ·refine W.draws [(0, true), (1, true), (3, true), (4, true), (2, false), (5, false), (6, false)] [0, 1, 3, 4] (Mem w M []) ma0 ma0 ma0 rfl ma0 (fun _ _ h_ => h_.drawn _) (fun _ h_ => h_.pick [] ma2 rfl) (Wd.run 4 ma0 (Wd.htS rfl rfl (HtS.call (β := Nat) (k := 118) (args := #[]) (Lin := []) (Lk := [[cb nb (natC (cfC c (Value.slice gf.a fx.length gf.cap)) (mv) (pV ts 0) (pV te 0) tk (pV wb 0) (pV ti 0) (iV .u64 lst)) 91]]) (Mi := []) (Lo := fun pb7 => [[cb pb7 (psC (fun _ => false) 0) 230], [cb nb (natC (cfC c (Value.slice gf.a fx.length gf.cap)) (mv) (pV ts 0) (pV te 0) tk (pV wb 0) (pV ti 0) (iV .u64 lst)) 91]]) [] [0] rfl (fun _ => kr) ma2 rfl rfl rfl (fun w_ hm_ hl_ => (new_c _)) (fun _ => rfl)) (.inr fun _ _ h_ => h_.pick [] ma2 rfl) (fun pb7 _ => Wd.yc (v := Value.pointer (some ⟨nb, 31 + pr * 1, none⟩)) rfl rfl rfl (Ys.yc (Ys.indexArr (k := .u8) (i := (pr : Int)) (sz := 1) rfl ma0 ma0 Tryz.runUnderlying88 Tryz.sizeOf87 ma1 ma1)) (.inr fun _ h_ => h_.pick [] ma2 rfl) (Wd.ht rfl rfl (Ht.store (b := nb) (o' := 31 + pr * 1) (i := 1) (j := 0) (cs := natC (cfC c (Value.slice gf.a fx.length gf.cap)) (mv) (pV ts 0) (pV te 0) tk (pV wb 0) (pV ti 0) (iV .u64 lst)) (cs' := natC (cfC c (Value.slice gf.a fx.length gf.cap)) (mv) (pV ts 0) (pV te 0) (upo tk pr (some pb7)) (pV wb 0) (pV ti 0) (iV .u64 lst)) (v := pV pb7 0) (LL' := [[cb pb7 (psC (fun _ => false) 0) 230], [cb nb (natC (cfC c (Value.slice gf.a fx.length gf.cap)) (mv) (pV ts 0) (pV te 0) (upo tk pr (some pb7)) (pV wb 0) (pV ti 0) (iV .u64 lst)) 91]]) rfl rfl ma0 ma0 Tryz.sizeOf87 rfl rfl rfl (by rw [natC_len rfl]; omega) (by rw [Nat.mul_one]; exact natC_set_tk rfl (some pb7) ma1) rfl) (.inr fun _ _ h_ => h_.pick [] ma2 rfl) (fun _ => ?_)))))
  refine Wd.nil (hK2 _ _ _ (W.prune' [0, 1] [pV nb 0, nV .u8 pr] ma0 (fun f9 => W.seq (fun K10 hK10 => W.region ?_))))
  refine Wl.run 4 ma0 (Wl.ys (v := Value.pointer (some ⟨nb, 31 + pr * 1, none⟩)) rfl rfl (Ys.indexArr (k := .u8) (i := (pr : Int)) (sz := 1) rfl ma0 ma0 Tryz.runUnderlying88 Tryz.sizeOf87 ma1 ma1) (Wl.ys rfl rfl (Ys.load (b := nb) (o' := 31 + pr * 1) (i := 1) (j := 0) (cs := natC (cfC c (Value.slice gf.a fx.length gf.cap)) (mv) (pV ts 0) (pV te 0) (upo tk pr (some pb7)) (pV wb 0) (pV ti 0) (iV .u64 lst)) (v := Value.pointer (optA (upo tk pr (some pb7) pr))) rfl ma0 Tryz.isAgg87 rfl rfl ((by rw [Nat.mul_one]; exact natC_tk rfl ma1))) (Wl.run 1 ma0 (Wl.nil ?_))))
  refine hK10 _ _ _ (W.prune' [4] [Value.pointer (optA (upo tk pr (some pb7) pr))] ma0 (fun f11 => ?_))
  refine W.ret ?_
  show ∀ w_, _ → bodyPostM (fence none) 0 Tryz.prog Tryz.f69 _ Exit.ret _ w_
  exact fun w_ hS_ => fin_ret (ret1 rfl (RV.tmp (v := Value.pointer (optA (upo tk pr (some pb7) pr))) ma0) hS_ ⟨pb7, trivial, congrArg Ending.returned ((by rw [upo_same]; rfl)), (hS_.pick [1, 0] ma2 rfl)⟩)
 ·(exfalso; rw [htk] at h6; cases h6)
end Go.Proofs.YtmonlaoaengfdaaGreatDoor.Oct
