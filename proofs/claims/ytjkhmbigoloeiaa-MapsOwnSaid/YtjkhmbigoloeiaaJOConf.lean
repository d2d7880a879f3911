/-
  What the functions of conf, of inet and of their references return, for all arguments. No condition.
-/
import Derived.Test.YtjkhmbigoloeiaaRows
import Derived.Test.YtjkhmbigoloeiaaJOEq
import Derived.Test.YtjkhmbigoloeiaaJOConfM
set_option linter.unusedVariables false
set_option linter.unusedSimpArgs false
namespace Go.Proofs.Ytjkhmbigoloeiaa.Conf
open Go.RowKit Obase
structure Cfg where
  (lm0 lm1 lm2 lm3 lm4 lm5 wm0 wm1 wm2 wm3 wm4 wm5 hm0 hm1 hm2 hm3 hm4 hm5 lan wan bits ms mm mc mu : Int)
  (fa : Option Addr)
  (fl fc : Nat)
  (dmz : Int)
  (uu : ByteArray)
abbrev cfL (c : Cfg) : List Value := [iV .u8 c.lm0, iV .u8 c.lm1, iV .u8 c.lm2, iV .u8 c.lm3, iV .u8 c.lm4, iV .u8 c.lm5, iV .u8 c.wm0, iV .u8 c.wm1, iV .u8 c.wm2, iV .u8 c.wm3, iV .u8 c.wm4, iV .u8 c.wm5, iV .u8 c.hm0, iV .u8 c.hm1, iV .u8 c.hm2, iV .u8 c.hm3, iV .u8 c.hm4, iV .u8 c.hm5, iV .u32 c.lan, iV .u32 c.wan, iV .i64 c.bits, iV .i64 c.ms, iV .i64 c.mm, iV .i64 c.mc, iV .i64 c.mu, Value.slice c.fa c.fl c.fc, iV .u32 c.dmz, Value.string c.uu]
structure Fwd where
  (proto port dest host : Int)
instance : Inhabited Fwd := ⟨⟨0, 0, 0, 0⟩⟩
def host (c : Cfg) (a : Int) : Bool := (within a c.lan c.bits && a != c.lan) && inner a c.bits
theorem inner_at {a bits : Int} {k : Nat} (hk : k = 32) : ((((cnt bits k : Nat) : Int) == 0) || ((!(zs a bits k)) && (!(os a bits k)))) = ((((cnt bits 32 : Nat) : Int) == 0) || ((!(zs a bits 32)) && (!(os a bits 32)))) := by rw [hk]
theorem not_within (a b bits : Int) (k : Nat) (ha : 0 ≤ a ∧ a ≤ 4294967295) (hb : 0 ≤ b ∧ b ≤ 4294967295) (h1 : k < 32) (h2 : (k : Int) < bits) (h : ¬ bitA a k = bitA b k) : false = within a b bits := by
 cases hw : within a b bits with
 | false => rfl
 | true => exact absurd ((within_iff a b bits ha hb).1 hw k h1 h2) h
theorem within_c (a b bits : Int) (w : World) : Calls Try.prog 76 #[iV .u32 a, iV .u32 b, iV .i64 bits] w (Ret w (.bool (within a b bits))) := by
 refine calls_W (M := []) (L := []) (n := 16) Try.func76 rfl rfl sp (Mem.refl _) ?_
 refine W.seq (fun K1 hK1 => ?_)
 refine W.region ?_
 refine Wl.ys (v := bV false) rfl rfl (Ys.pure (fun _ => kr)) ?_
 refine Wl.nil ?_
 refine hK1 _ _ ?_
 refine W.seq (fun K2 hK2 => ?_)
 refine W.region ?_
 refine Wl.ys (v := iV .u32 a) rfl rfl (Ys.pure (fun _ => kr)) ?_
 refine Wl.ys (v := iV .u32 b) rfl rfl (Ys.pure (fun _ => kr)) ?_
 refine Wl.ys (v := iV .u32 (bxor .u32 a b)) rfl rfl (Ys.pure (fun _ => kr)) ?_
 refine Wl.ys (v := iV .i64 bits) rfl rfl (Ys.pure (fun _ => kr)) ?_
 refine Wl.ys (v := iV .i64 (imax bits 0)) rfl rfl (Ys.pure (fun _ => kr)) ?_
 have hm3 := imax_bd bits 0
 refine Wl.ys (v := iV .i64 (imin (imax bits 0) 32)) rfl rfl (Ys.pure (fun _ => kr)) ?_
 have hm4 := imin_bd (imax bits 0) 32
 refine Wl.ys (v := iV .i64 (32 - (imin (imax bits 0) 32))) rfl rfl ((Ys.pure (v := .int .i64 (isub .i64 32 (imin (imax bits 0) 32))) (fun _ => kr)).conseq (int_congr (isub_eq rfl om om))) ?_
 refine Wl.ys (v := iV .u32 (ishr .u32 (bxor .u32 a b) (32 - (imin (imax bits 0) 32)))) rfl rfl (Ys.shr (k := .u32) (k' := .i64) (a := bxor .u32 a b) (b := 32 - (imin (imax bits 0) 32)) rfl kr kr om) ?_
 refine Wl.ys (v := bV ((ishr .u32 (bxor .u32 a b) (32 - (imin (imax bits 0) 32))) == 0)) rfl rfl (Ys.pure (fun _ => kr)) ?_
 refine Wl.ys (v := bV ((ishr .u32 (bxor .u32 a b) (32 - (imin (imax bits 0) 32))) == 0)) rfl rfl (Ys.pure (fun _ => kr)) ?_
 refine Wl.nil ?_
 refine hK2 _ _ ?_
 refine W.ret ?_
 show ∀ w_, _ → bodyPost Try.prog Try.f76 _ Exit.ret _ w_
 exact fun w_ hS_ => ret1 rfl (RV.tmp (v := bV ((ishr .u32 (bxor .u32 a b) (32 - (imin (imax bits 0) 32))) == 0)) kr) hS_ ⟨rfl, hS_.below⟩
theorem inner_c (a bits : Int) (w : World) : Calls Try.prog 77 #[iV .u32 a, iV .i64 bits] w (Ret w (.bool (inner a bits))) := by
 refine calls_W (M := []) (L := []) (n := 25) Try.func77 rfl rfl sp (Mem.refl _) ?_
 refine W.seq (fun K1 hK1 => ?_)
 refine W.region ?_
 refine Wl.ys (v := bV false) rfl rfl (Ys.pure (fun _ => kr)) ?_
 refine Wl.nil ?_
 refine hK1 _ _ ?_
 refine W.seq (fun K2 hK2 => ?_)
 refine W.region ?_
 refine Wl.ys (v := iV .i64 bits) rfl rfl (Ys.pure (fun _ => kr)) ?_
 refine Wl.ys (v := iV .i64 (imax bits 0)) rfl rfl (Ys.pure (fun _ => kr)) ?_
 have hm3 := imax_bd bits 0
 refine Wl.ys (v := iV .i64 (imin (imax bits 0) 32)) rfl rfl (Ys.pure (fun _ => kr)) ?_
 have hm4 := imin_bd (imax bits 0) 32
 refine Wl.ys (v := iV .i64 (imin (imax bits 0) 32)) rfl rfl (Ys.pure (fun _ => kr)) ?_
 refine Wl.nil ?_
 refine hK2 _ _ ?_
 refine W.seq (fun K5 hK5 => ?_)
 refine W.region ?_
 refine Wl.ys (v := iV .i64 (imin (imax bits 0) 32)) rfl rfl (Ys.pure (fun _ => kr)) ?_
 refine Wl.ys (v := iV .u32 (ishr .u32 4294967295 (imin (imax bits 0) 32))) rfl rfl (Ys.shr (k := .u32) (k' := .i64) (a := 4294967295) (b := imin (imax bits 0) 32) rfl kr kr om) ?_
 refine Wl.ys (v := iV .u32 (ishr .u32 4294967295 (imin (imax bits 0) 32))) rfl rfl (Ys.pure (fun _ => kr)) ?_
 refine Wl.nil ?_
 refine hK5 _ _ ?_
 refine W.seq (fun K6 hK6 => ?_)
 refine W.seq (fun K7 hK7 => ?_)
 refine W.region ?_
 refine Wl.ys (v := iV .i64 (imin (imax bits 0) 32)) rfl rfl (Ys.pure (fun _ => kr)) ?_
 refine Wl.ys (v := bV ((imin (imax bits 0) 32) == 32)) rfl rfl (Ys.pure (fun _ => kr)) ?_
 refine Wl.nil ?_
 refine hK7 _ _ ?_
 refine W.cond ((imin (imax bits 0) 32) == 32) kr (fun h8 => ?_) (fun h9 => ?_)
 ·have qh8 := h8; try simp only [zA] at qh8
  refine W.seq (fun K10 hK10 => ?_)
  refine W.region ?_
  refine Wl.ys (v := bV true) rfl rfl (Ys.pure (fun _ => kr)) ?_
  refine Wl.nil ?_
  refine hK10 _ _ ?_
  refine W.ret ?_
  show ∀ w_, _ → bodyPost Try.prog Try.f77 _ Exit.ret _ w_
  exact fun w_ hS_ => ret1 rfl (RV.tmp (v := bV true) kr) hS_ ⟨by clear hK1 hK2 hK5 hK6 hK7 hK10; refine congrArg Ending.returned ?_; rw [inner, h8] <;> rfl, hS_.below⟩
 ·have qh9 := h9; try simp only [zA] at qh9
  refine W.skip' ?_
  refine hK6 _ _ ?_
  refine W.seq (fun K11 hK11 => ?_)
  refine W.region ?_
  refine Wl.ys (v := iV .u32 a) rfl rfl (Ys.pure (fun _ => kr)) ?_
  refine Wl.ys (v := iV .u32 (ishr .u32 4294967295 (imin (imax bits 0) 32))) rfl rfl (Ys.pure (fun _ => kr)) ?_
  refine Wl.ys (v := iV .u32 (band .u32 a (ishr .u32 4294967295 (imin (imax bits 0) 32)))) rfl rfl (Ys.pure (fun _ => kr)) ?_
  refine Wl.ys (v := bV ((band .u32 a (ishr .u32 4294967295 (imin (imax bits 0) 32))) != 0)) rfl rfl (Ys.pure (fun _ => kr)) ?_
  refine Wl.ys (v := bV ((band .u32 a (ishr .u32 4294967295 (imin (imax bits 0) 32))) != 0)) rfl rfl (Ys.pure (fun _ => kr)) ?_
  refine Wl.guard (v := iV .u32 a) ((band .u32 a (ishr .u32 4294967295 (imin (imax bits 0) 32))) != 0) (wantT rfl kr) rfl (fun hg12 => ?_) ?_
  ·have qhg12 := hg12; try simp only [zA] at qhg12
   exact Ys.pure (fun _ => kr)
  refine Wl.guard (v := iV .u32 (ishr .u32 4294967295 (imin (imax bits 0) 32))) ((band .u32 a (ishr .u32 4294967295 (imin (imax bits 0) 32))) != 0) (wantT rfl kr) rfl (fun hg13 => ?_) ?_
  ·have qhg13 := hg13; try simp only [zA] at qhg13
   exact Ys.pure (fun _ => kr)
  refine Wl.guard (v := iV .u32 (band .u32 a (ishr .u32 4294967295 (imin (imax bits 0) 32)))) ((band .u32 a (ishr .u32 4294967295 (imin (imax bits 0) 32))) != 0) (wantT rfl kr) rfl (fun hg14 => ?_) ?_
  ·have qhg14 := hg14; try simp only [zA] at qhg14
   refine Ys.at (t := 19) (v0 := iV .u32 a) (lz (g := (band .u32 a (ishr .u32 4294967295 (imin (imax bits 0) 32))) != 0) (u := undef) hg14 kr) ?_
   refine Ys.at (t := 20) (v0 := iV .u32 (ishr .u32 4294967295 (imin (imax bits 0) 32))) (lz (g := (band .u32 a (ishr .u32 4294967295 (imin (imax bits 0) 32))) != 0) (u := undef) hg14 kr) ?_
   exact Ys.pure (fun _ => kr)
  refine Wl.guard (v := iV .u32 (ishr .u32 4294967295 (imin (imax bits 0) 32))) ((band .u32 a (ishr .u32 4294967295 (imin (imax bits 0) 32))) != 0) (wantT rfl kr) rfl (fun hg15 => ?_) ?_
  ·have qhg15 := hg15; try simp only [zA] at qhg15
   exact Ys.pure (fun _ => kr)
  refine Wl.guard (v := bV ((band .u32 a (ishr .u32 4294967295 (imin (imax bits 0) 32))) != (ishr .u32 4294967295 (imin (imax bits 0) 32)))) ((band .u32 a (ishr .u32 4294967295 (imin (imax bits 0) 32))) != 0) (wantT rfl kr) rfl (fun hg16 => ?_) ?_
  ·have qhg16 := hg16; try simp only [zA] at qhg16
   refine Ys.at (t := 21) (v0 := iV .u32 (band .u32 a (ishr .u32 4294967295 (imin (imax bits 0) 32)))) (lz (g := (band .u32 a (ishr .u32 4294967295 (imin (imax bits 0) 32))) != 0) (u := undef) hg16 kr) ?_
   refine Ys.at (t := 22) (v0 := iV .u32 (ishr .u32 4294967295 (imin (imax bits 0) 32))) (lz (g := (band .u32 a (ishr .u32 4294967295 (imin (imax bits 0) 32))) != 0) (u := undef) hg16 kr) ?_
   exact Ys.pure (fun _ => kr)
  refine Wl.ys (v := bV (((band .u32 a (ishr .u32 4294967295 (imin (imax bits 0) 32))) != 0) && ((band .u32 a (ishr .u32 4294967295 (imin (imax bits 0) 32))) != (ishr .u32 4294967295 (imin (imax bits 0) 32))))) rfl rfl (Ys.and (e := (band .u32 a (ishr .u32 4294967295 (imin (imax bits 0) 32))) != 0) (b := (band .u32 a (ishr .u32 4294967295 (imin (imax bits 0) 32))) != (ishr .u32 4294967295 (imin (imax bits 0) 32))) rfl kr kr kr) ?_
  refine Wl.ys (v := bV (((band .u32 a (ishr .u32 4294967295 (imin (imax bits 0) 32))) != 0) && ((band .u32 a (ishr .u32 4294967295 (imin (imax bits 0) 32))) != (ishr .u32 4294967295 (imin (imax bits 0) 32))))) rfl rfl (Ys.pure (fun _ => kr)) ?_
  refine Wl.nil ?_
  refine hK11 _ _ ?_
  refine W.ret ?_
  show ∀ w_, _ → bodyPost Try.prog Try.f77 _ Exit.ret _ w_
  exact fun w_ hS_ => ret1 rfl (RV.tmp (v := bV (((band .u32 a (ishr .u32 4294967295 (imin (imax bits 0) 32))) != 0) && ((band .u32 a (ishr .u32 4294967295 (imin (imax bits 0) 32))) != (ishr .u32 4294967295 (imin (imax bits 0) 32))))) kr) hS_ ⟨by clear hK1 hK2 hK5 hK6 hK7 hK11; refine congrArg Ending.returned ?_; rw [inner, h9] <;> rfl, hS_.below⟩
theorem host_c (c : Cfg) (a : Int) (w : World) : Calls Try.prog 38 #[Value.agg (cfL c).toArray, iV .u32 a] w (Ret w (.bool (host c a))) := by
 refine calls_W (M := []) (L := []) (n := 23) Try.func38 rfl rfl sp (Mem.refl _) ?_
 refine W.seq (fun K1 hK1 => ?_)
 refine W.region ?_
 refine Wl.box (v := Value.agg (cfL c).toArray) (cs := (cfL c)) rfl rfl rfl kr rfl (fun p2 => ?_)
 refine Wl.ys (v := bV false) rfl rfl (Ys.pure (fun _ => kr)) ?_
 refine Wl.nil ?_
 refine hK1 _ _ ?_
 refine W.seq (fun K2 hK2 => ?_)
 refine W.region ?_
 refine Wl.ys (v := iV .u32 a) rfl rfl (Ys.pure (fun _ => kr)) ?_
 refine Wl.ys (v := pV p2 18) rfl rfl (Ys.pure (fun _ => kr)) ?_
 refine Wl.ys (v := iV .u32 c.lan) rfl rfl (Ys.load (b := p2) (o' := 18) (i := 0) (cs := (cfL c)) (v := iV .u32 c.lan) rfl kr Try.isAgg25 rfl rfl) ?_
 refine Wl.ys (v := pV p2 20) rfl rfl (Ys.pure (fun _ => kr)) ?_
 refine Wl.ys (v := iV .i64 c.bits) rfl rfl (Ys.load (b := p2) (o' := 20) (i := 0) (cs := (cfL c)) (v := iV .i64 c.bits) rfl kr Try.isAgg3 rfl rfl) ?_
 refine Wl.ys (v := bV (within a c.lan c.bits)) rfl rfl (Ys.call (k := 76) (args := #[iV .u32 a, iV .u32 c.lan, iV .i64 c.bits]) (fun _ => kr) (fun _ hSc => within_c a c.lan c.bits _ )) ?_
 refine Wl.ys (v := bV (within a c.lan c.bits)) rfl rfl (Ys.pure (fun _ => kr)) ?_
 refine Wl.guard (v := iV .u32 a) (within a c.lan c.bits) (wantT rfl kr) rfl (fun hg3 => ?_) ?_
 ·exact Ys.pure (fun _ => kr)
 refine Wl.guard (v := pV p2 18) (within a c.lan c.bits) (wantT rfl kr) rfl (fun hg4 => ?_) ?_
 ·exact Ys.pure (fun _ => kr)
 refine Wl.guard (v := iV .u32 c.lan) (within a c.lan c.bits) (wantT rfl kr) rfl (fun hg5 => ?_) ?_
 ·refine Ys.at (t := 13) (v0 := pV p2 18) (lz (g := within a c.lan c.bits) (u := undef) hg5 kr) ?_
  exact Ys.load (b := p2) (o' := 18) (i := 0) (cs := (cfL c)) (v := iV .u32 c.lan) rfl kr Try.isAgg25 rfl rfl
 refine Wl.guard (v := bV (a != c.lan)) (within a c.lan c.bits) (wantT rfl kr) rfl (fun hg6 => ?_) ?_
 ·refine Ys.at (t := 12) (v0 := iV .u32 a) (lz (g := within a c.lan c.bits) (u := undef) hg6 kr) ?_
  refine Ys.at (t := 14) (v0 := iV .u32 c.lan) (lz (g := within a c.lan c.bits) (u := undef) hg6 kr) ?_
  exact Ys.pure (fun _ => kr)
 refine Wl.ys (v := bV ((within a c.lan c.bits) && (a != c.lan))) rfl rfl (Ys.and (e := within a c.lan c.bits) (b := a != c.lan) rfl kr kr kr) ?_
 refine Wl.ys (v := bV ((within a c.lan c.bits) && (a != c.lan))) rfl rfl (Ys.pure (fun _ => kr)) ?_
 refine Wl.guard (v := iV .u32 a) ((within a c.lan c.bits) && (a != c.lan)) (wantT rfl kr) rfl (fun hg7 => ?_) ?_
 ·have qhg7 := hg7; try simp only [zA] at qhg7
  exact Ys.pure (fun _ => kr)
 refine Wl.guard (v := pV p2 20) ((within a c.lan c.bits) && (a != c.lan)) (wantT rfl kr) rfl (fun hg8 => ?_) ?_
 ·have qhg8 := hg8; try simp only [zA] at qhg8
  exact Ys.pure (fun _ => kr)
 refine Wl.guard (v := iV .i64 c.bits) ((within a c.lan c.bits) && (a != c.lan)) (wantT rfl kr) rfl (fun hg9 => ?_) ?_
 ·have qhg9 := hg9; try simp only [zA] at qhg9
  refine Ys.at (t := 19) (v0 := pV p2 20) (lz (g := (within a c.lan c.bits) && (a != c.lan)) (u := undef) hg9 kr) ?_
  exact Ys.load (b := p2) (o' := 20) (i := 0) (cs := (cfL c)) (v := iV .i64 c.bits) rfl kr Try.isAgg3 rfl rfl
 refine Wl.guard (v := bV (inner a c.bits)) ((within a c.lan c.bits) && (a != c.lan)) (wantT rfl kr) rfl (fun hg10 => ?_) ?_
 ·have qhg10 := hg10; try simp only [zA] at qhg10
  refine Ys.at (t := 18) (v0 := iV .u32 a) (lz (g := (within a c.lan c.bits) && (a != c.lan)) (u := undef) hg10 kr) ?_
  refine Ys.at (t := 20) (v0 := iV .i64 c.bits) (lz (g := (within a c.lan c.bits) && (a != c.lan)) (u := undef) hg10 kr) ?_
  exact Ys.call (k := 77) (args := #[iV .u32 a, iV .i64 c.bits]) (fun _ => kr) (fun _ hSc => inner_c a c.bits _ )
 refine Wl.ys (v := bV (((within a c.lan c.bits) && (a != c.lan)) && (inner a c.bits))) rfl rfl (Ys.and (e := (within a c.lan c.bits) && (a != c.lan)) (b := inner a c.bits) rfl kr kr kr) ?_
 refine Wl.ys (v := bV (((within a c.lan c.bits) && (a != c.lan)) && (inner a c.bits))) rfl rfl (Ys.pure (fun _ => kr)) ?_
 refine Wl.nil ?_
 refine hK2 _ _ ?_
 refine W.ret ?_
 show ∀ w_, _ → bodyPost Try.prog Try.f38 _ Exit.ret _ w_
 exact fun w_ hS_ => ret1 rfl (RV.tmp (v := bV (((within a c.lan c.bits) && (a != c.lan)) && (inner a c.bits))) kr) hS_ ⟨rfl, hS_.below⟩
theorem within2_c (a b bits : Int) (w : World) (ha : 0 ≤ a ∧ a ≤ 4294967295) (hb : 0 ≤ b ∧ b ≤ 4294967295) : Calls Try.prog 34 #[iV .u32 a, iV .u32 b, iV .i64 bits] w (Ret w (.bool (within a b bits))) := by
 refine calls_W (M := []) (L := []) (n := 30) Try.func34 rfl rfl sp (Mem.refl _) ?_
 refine W.seq (fun K1 hK1 => ?_)
 refine W.region ?_
 refine Wl.ys (v := bV false) rfl rfl (Ys.pure (fun _ => kr)) ?_
 refine Wl.nil ?_
 refine hK1 _ _ ?_
 refine W.seq (fun K2 hK2 => ?_)
 refine W.seq (fun K3 hK3 => ?_)
 refine W.region ?_
 refine Wl.ys (v := iV .i64 0) rfl rfl (Ys.pure (fun _ => kr)) ?_
 refine Wl.nil ?_
 refine hK3 _ _ ?_
 refine W.block ?_
 refine W.loop (γ := Nat) (fun g_ => [(0, iV .u32 a), (1, iV .u32 b), (2, iV .i64 bits), (7, iV .i64 ((g_ : Nat) : Int))]) (fun g_ w_ => Mem w [] [] w_ ∧ g_ ≤ 32 ∧ (∀ j : Nat, j < g_ → bitA a j = bitA b j)) (fun g_ => 32 - g_) (0) ?_ ?_ (fun g_ f5 J4 hJ4 => ?_)
 ·refine ⟨rfl, rfl, rfl, (by first | rfl | exact int_congr om | simp), trivial⟩
 ·exact fun w_ hS_ => ⟨hS_, ⟨by omega, fun j hj => absurd hj (Nat.not_lt_zero _)⟩⟩
 obtain ⟨k, hgg_⟩ : ∃ x, x = g_ := ⟨_, rfl⟩; subst hgg_
 refine W.castS (f' := upds [(0, iV .u32 a), (1, iV .u32 b), (2, iV .i64 bits), (7, iV .i64 ((k : Nat) : Int))] f5) (S' := fun w_ => Mem w [] [] w_ ∧ k ≤ 32 ∧ (∀ j : Nat, j < k → bitA a j = bitA b j)) rfl rfl ?_
 refine W.and (fun hpp => ?_)
 obtain ⟨hp6, hp7⟩ := hpp
 have kle := hp6
 have agree := hp7
 refine W.seq (fun K8 hK8 => ?_)
 refine W.seq (fun K9 hK9 => ?_)
 refine W.region ?_
 refine Wl.ys (v := iV .i64 ((k : Nat) : Int)) rfl rfl (Ys.pure (fun _ => kr)) ?_
 refine Wl.ys (v := bV (decide (((k : Nat) : Int) < 32))) rfl rfl (Ys.pure (fun _ => kr)) ?_
 refine Wl.ys (v := bV (decide (((k : Nat) : Int) < 32))) rfl rfl (Ys.pure (fun _ => kr)) ?_
 refine Wl.guard (v := iV .i64 ((k : Nat) : Int)) (decide (((k : Nat) : Int) < 32)) (wantT rfl kr) rfl (fun hg10 => ?_) ?_
 ·have qhg10 := hg10; try simp only [zA] at qhg10
  exact Ys.pure (fun _ => kr)
 refine Wl.guard (v := iV .i64 bits) (decide (((k : Nat) : Int) < 32)) (wantT rfl kr) rfl (fun hg11 => ?_) ?_
 ·have qhg11 := hg11; try simp only [zA] at qhg11
  exact Ys.pure (fun _ => kr)
 refine Wl.guard (v := bV (decide (((k : Nat) : Int) < bits))) (decide (((k : Nat) : Int) < 32)) (wantT rfl kr) rfl (fun hg12 => ?_) ?_
 ·have qhg12 := hg12; try simp only [zA] at qhg12
  refine Ys.at (t := 11) (v0 := iV .i64 ((k : Nat) : Int)) (lz (g := decide (((k : Nat) : Int) < 32)) (u := undef) hg12 kr) ?_
  refine Ys.at (t := 12) (v0 := iV .i64 bits) (lz (g := decide (((k : Nat) : Int) < 32)) (u := undef) hg12 kr) ?_
  exact Ys.pure (fun _ => kr)
 refine Wl.ys (v := bV ((decide (((k : Nat) : Int) < 32)) && (decide (((k : Nat) : Int) < bits)))) rfl rfl (Ys.and (e := decide (((k : Nat) : Int) < 32)) (b := decide (((k : Nat) : Int) < bits)) rfl kr kr kr) ?_
 refine Wl.nil ?_
 refine hK9 _ _ ?_
 refine W.cond ((decide (((k : Nat) : Int) < 32)) && (decide (((k : Nat) : Int) < bits))) kr (fun h13 => ?_) (fun h14 => ?_)
 ·have qh13 := h13; try simp only [zA] at qh13
  refine W.skip' ?_
  refine hK8 _ _ ?_
  refine W.seq (fun K15 hK15 => ?_)
  refine W.block ?_
  refine W.seq (fun K16 hK16 => ?_)
  refine W.region ?_
  refine Wl.ys (v := iV .u32 a) rfl rfl (Ys.pure (fun _ => kr)) ?_
  refine Wl.ys (v := iV .i64 ((k : Nat) : Int)) rfl rfl (Ys.pure (fun _ => kr)) ?_
  refine Wl.ys (v := iV .i64 (31 - ((k : Nat) : Int))) rfl rfl ((Ys.pure (v := .int .i64 (isub .i64 31 ((k : Nat) : Int))) (fun _ => kr)).conseq (int_congr (isub_eq rfl om om))) ?_
  refine Wl.ys (v := iV .u64 (31 - ((k : Nat) : Int))) rfl rfl ((Ys.pure (v := .int .u64 (icnv .u64 (31 - ((k : Nat) : Int)))) (fun _ => kr)).conseq (int_congr (wrap_u64 om om))) ?_
  refine Wl.ys (v := iV .u32 (ishr .u32 a (31 - ((k : Nat) : Int)))) rfl rfl (Ys.shr (k := .u32) (k' := .u64) (a := a) (b := 31 - ((k : Nat) : Int)) rfl kr kr om) ?_
  refine Wl.ys (v := iV .u32 (band .u32 (ishr .u32 a (31 - ((k : Nat) : Int))) 1)) rfl rfl (Ys.pure (fun _ => kr)) ?_
  refine Wl.ys (v := iV .u32 b) rfl rfl (Ys.pure (fun _ => kr)) ?_
  refine Wl.ys (v := iV .i64 ((k : Nat) : Int)) rfl rfl (Ys.pure (fun _ => kr)) ?_
  refine Wl.ys (v := iV .i64 (31 - ((k : Nat) : Int))) rfl rfl ((Ys.pure (v := .int .i64 (isub .i64 31 ((k : Nat) : Int))) (fun _ => kr)).conseq (int_congr (isub_eq rfl om om))) ?_
  refine Wl.ys (v := iV .u64 (31 - ((k : Nat) : Int))) rfl rfl ((Ys.pure (v := .int .u64 (icnv .u64 (31 - ((k : Nat) : Int)))) (fun _ => kr)).conseq (int_congr (wrap_u64 om om))) ?_
  refine Wl.ys (v := iV .u32 (ishr .u32 b (31 - ((k : Nat) : Int)))) rfl rfl (Ys.shr (k := .u32) (k' := .u64) (a := b) (b := 31 - ((k : Nat) : Int)) rfl kr kr om) ?_
  refine Wl.ys (v := iV .u32 (band .u32 (ishr .u32 b (31 - ((k : Nat) : Int))) 1)) rfl rfl (Ys.pure (fun _ => kr)) ?_
  refine Wl.ys (v := bV ((band .u32 (ishr .u32 a (31 - ((k : Nat) : Int))) 1) != (band .u32 (ishr .u32 b (31 - ((k : Nat) : Int))) 1))) rfl rfl (Ys.pure (fun _ => kr)) ?_
  refine Wl.nil ?_
  refine hK16 _ _ ?_
  refine W.cond ((band .u32 (ishr .u32 a (31 - ((k : Nat) : Int))) 1) != (band .u32 (ishr .u32 b (31 - ((k : Nat) : Int))) 1)) kr (fun h17 => ?_) (fun h18 => ?_)
  ·have qh17 := h17; try simp only [zA] at qh17
   refine W.seq (fun K19 hK19 => ?_)
   refine W.region ?_
   refine Wl.ys (v := bV false) rfl rfl (Ys.pure (fun _ => kr)) ?_
   refine Wl.nil ?_
   refine hK19 _ _ ?_
   refine W.ret ?_
   show ∀ w_, _ → bodyPost Try.prog Try.f34 _ Exit.ret _ w_
   exact fun w_ hS_ => ret1 rfl (RV.tmp (v := bV false) kr) hS_ ⟨by clear hK1 hK2 hK3 hJ4 hK8 hK9 hK15 hK16 hK19; refine congrArg Ending.returned ?_; exact bool_congr (not_within a b bits k ha hb om om qh17), hS_.below⟩
  ·have qh18 := h18; try simp only [zA] at qh18
   refine W.skip' ?_
   refine hK15 _ _ ?_
   refine W.region ?_
   refine Wl.ys (v := iV .i64 ((k : Nat) : Int)) rfl rfl (Ys.pure (fun _ => kr)) ?_
   refine Wl.ys (v := iV .i64 ((k + 1 : Nat) : Int)) rfl rfl ((Ys.pure (v := .int .i64 (iadd .i64 ((k : Nat) : Int) 1)) (fun _ => kr)).conseq (int_congr (iadd_eq om om om))) ?_
   refine Wl.ys (v := iV .i64 ((k + 1 : Nat) : Int)) rfl rfl (Ys.pure (fun _ => kr)) ?_
   refine Wl.nil ?_
   refine fun w_ hS_ => hJ4 (k + 1) _ _ (by first | omega | (dsimp only; omega)) ?_ ⟨hS_, ⟨by omega, fun j hj => by rcases Nat.lt_succ_iff_lt_or_eq.1 hj with hj | hj; exact agree j hj; subst hj; exact qh18⟩⟩
   refine ⟨rfl, rfl, rfl, (by first | rfl | exact int_congr om | simp), trivial⟩
 ·have qh14 := h14; try simp only [zA] at qh14
  refine W.exit ?_
  refine hK2 _ _ ?_
  refine W.seq (fun K20 hK20 => ?_)
  refine W.region ?_
  refine Wl.ys (v := bV true) rfl rfl (Ys.pure (fun _ => kr)) ?_
  refine Wl.nil ?_
  refine hK20 _ _ ?_
  refine W.ret ?_
  show ∀ w_, _ → bodyPost Try.prog Try.f34 _ Exit.ret _ w_
  exact fun w_ hS_ => ret1 rfl (RV.tmp (v := bV true) kr) hS_ ⟨by clear hK1 hK2 hK3 hJ4 hK8 hK9 hK20; refine congrArg Ending.returned ?_; exact bool_congr ((within_iff a b bits ha hb).2 (fun j hj hjb => agree j om)).symm, hS_.below⟩
theorem inner2_c (a bits : Int) (w : World) (ha : 0 ≤ a ∧ a ≤ 4294967295) : Calls Try.prog 33 #[iV .u32 a, iV .i64 bits] w (Ret w (.bool (inner a bits))) := by
 refine calls_W (M := []) (L := []) (n := 35) Try.func33 rfl rfl sp (Mem.refl _) ?_
 refine W.seq (fun K1 hK1 => ?_)
 refine W.region ?_
 refine Wl.ys (v := bV false) rfl rfl (Ys.pure (fun _ => kr)) ?_
 refine Wl.nil ?_
 refine hK1 _ _ ?_
 refine W.seq (fun K2 hK2 => ?_)
 refine W.region ?_
 refine Wl.ys (v := iV .i64 0) rfl rfl (Ys.pure (fun _ => kr)) ?_
 refine Wl.ys (v := bV true) rfl rfl (Ys.pure (fun _ => kr)) ?_
 refine Wl.ys (v := bV true) rfl rfl (Ys.pure (fun _ => kr)) ?_
 refine Wl.nil ?_
 refine hK2 _ _ ?_
 refine W.seq (fun K3 hK3 => ?_)
 refine W.seq (fun K4 hK4 => ?_)
 refine W.region ?_
 refine Wl.ys (v := iV .i64 0) rfl rfl (Ys.pure (fun _ => kr)) ?_
 refine Wl.nil ?_
 refine hK4 _ _ ?_
 refine W.block ?_
 refine W.loop (γ := Nat) (fun g_ => [(0, iV .u32 a), (1, iV .i64 bits), (4, bV false), (5, iV .i64 ((cnt bits g_ : Nat) : Int)), (6, bV (zs a bits g_)), (7, bV (os a bits g_)), (8, iV .i64 ((g_ : Nat) : Int))]) (fun g_ w_ => Mem w [] [] w_ ∧ g_ ≤ 32 ∧ cnt bits g_ ≤ g_) (fun g_ => 32 - g_) (0) ?_ ?_ (fun g_ f6 J5 hJ5 => ?_)
 ·refine ⟨rfl, rfl, rfl, (by first | rfl | exact int_congr om | simp), (by first | rfl | exact int_congr om | simp), (by first | rfl | exact int_congr om | simp), (by first | rfl | exact int_congr om | simp), trivial⟩
 ·exact fun w_ hS_ => ⟨hS_, ⟨by omega, Nat.le_refl _⟩⟩
 obtain ⟨k, hgg_⟩ : ∃ x, x = g_ := ⟨_, rfl⟩; subst hgg_
 refine W.castS (f' := upds [(0, iV .u32 a), (1, iV .i64 bits), (4, bV false), (5, iV .i64 ((cnt bits k : Nat) : Int)), (6, bV (zs a bits k)), (7, bV (os a bits k)), (8, iV .i64 ((k : Nat) : Int))] f6) (S' := fun w_ => Mem w [] [] w_ ∧ k ≤ 32 ∧ cnt bits k ≤ k) rfl rfl ?_
 refine W.and (fun hpp => ?_)
 obtain ⟨hp7, hp8⟩ := hpp
 have kle := hp7
 have cle := hp8
 refine W.seq (fun K9 hK9 => ?_)
 refine W.seq (fun K10 hK10 => ?_)
 refine W.region ?_
 refine Wl.ys (v := iV .i64 ((k : Nat) : Int)) rfl rfl (Ys.pure (fun _ => kr)) ?_
 refine Wl.ys (v := bV (decide (((k : Nat) : Int) < 32))) rfl rfl (Ys.pure (fun _ => kr)) ?_
 refine Wl.nil ?_
 refine hK10 _ _ ?_
 refine W.cond (decide (((k : Nat) : Int) < 32)) kr (fun h11 => ?_) (fun h12 => ?_)
 ·have qh11 := h11; try simp only [zA] at qh11
  refine W.skip' ?_
  refine hK9 _ _ ?_
  refine W.seq (fun K13 hK13 => ?_)
  refine W.block ?_
  refine W.seq (fun K14 hK14 => ?_)
  refine W.seq (fun K15 hK15 => ?_)
  refine W.region ?_
  refine Wl.ys (v := iV .i64 ((k : Nat) : Int)) rfl rfl (Ys.pure (fun _ => kr)) ?_
  refine Wl.ys (v := iV .i64 bits) rfl rfl (Ys.pure (fun _ => kr)) ?_
  refine Wl.ys (v := bV (decide (((k : Nat) : Int) < bits))) rfl rfl (Ys.pure (fun _ => kr)) ?_
  refine Wl.nil ?_
  refine hK15 _ _ ?_
  refine W.cond (decide (((k : Nat) : Int) < bits)) kr (fun h16 => ?_) (fun h17 => ?_)
  ·have qh16 := h16; try simp only [zA] at qh16
   refine W.exit ?_
   refine hK13 _ _ ?_
   refine W.region ?_
   refine Wl.ys (v := iV .i64 ((k : Nat) : Int)) rfl rfl (Ys.pure (fun _ => kr)) ?_
   refine Wl.ys (v := iV .i64 ((k + 1 : Nat) : Int)) rfl rfl ((Ys.pure (v := .int .i64 (iadd .i64 ((k : Nat) : Int) 1)) (fun _ => kr)).conseq (int_congr (iadd_eq om om om))) ?_
   refine Wl.ys (v := iV .i64 ((k + 1 : Nat) : Int)) rfl rfl (Ys.pure (fun _ => kr)) ?_
   refine Wl.nil ?_
   refine fun w_ hS_ => hJ5 (k + 1) _ _ (by first | omega | (dsimp only; omega)) ?_ ⟨hS_, ⟨by omega, by rw [cnt_succ, h16, cond_true] <;> omega⟩⟩
   refine ⟨rfl, rfl, rfl, (show iV .i64 _ = iV .i64 _ from int_congr (by rw [cnt_succ, h16, cond_true] <;> rfl)), (show bV _ = bV _ from bool_congr (by rw [zs_succ, h16, cond_true])), (show bV _ = bV _ from bool_congr (by rw [os_succ, h16, cond_true])), (by first | rfl | exact int_congr om | simp), trivial⟩
  ·have qh17 := h17; try simp only [zA] at qh17
   refine W.skip' ?_
   refine hK14 _ _ ?_
   refine W.seq (fun K18 hK18 => ?_)
   refine W.region ?_
   refine Wl.ys (v := iV .i64 ((cnt bits k : Nat) : Int)) rfl rfl (Ys.pure (fun _ => kr)) ?_
   refine Wl.ys (v := iV .i64 (((cnt bits k) + 1 : Nat) : Int)) rfl rfl ((Ys.pure (v := .int .i64 (iadd .i64 ((cnt bits k : Nat) : Int) 1)) (fun _ => kr)).conseq (int_congr (iadd_eq om om om))) ?_
   refine Wl.ys (v := iV .i64 (((cnt bits k) + 1 : Nat) : Int)) rfl rfl (Ys.pure (fun _ => kr)) ?_
   refine Wl.nil ?_
   refine hK18 _ _ ?_
   refine W.seq (fun K19 hK19 => ?_)
   refine W.region ?_
   refine Wl.ys (v := iV .u32 a) rfl rfl (Ys.pure (fun _ => kr)) ?_
   refine Wl.ys (v := iV .i64 ((k : Nat) : Int)) rfl rfl (Ys.pure (fun _ => kr)) ?_
   refine Wl.ys (v := iV .i64 (31 - ((k : Nat) : Int))) rfl rfl ((Ys.pure (v := .int .i64 (isub .i64 31 ((k : Nat) : Int))) (fun _ => kr)).conseq (int_congr (isub_eq rfl om om))) ?_
   refine Wl.ys (v := iV .u64 (31 - ((k : Nat) : Int))) rfl rfl ((Ys.pure (v := .int .u64 (icnv .u64 (31 - ((k : Nat) : Int)))) (fun _ => kr)).conseq (int_congr (wrap_u64 om om))) ?_
   refine Wl.ys (v := iV .u32 (ishr .u32 a (31 - ((k : Nat) : Int)))) rfl rfl (Ys.shr (k := .u32) (k' := .u64) (a := a) (b := 31 - ((k : Nat) : Int)) rfl kr kr om) ?_
   refine Wl.ys (v := iV .u32 (band .u32 (ishr .u32 a (31 - ((k : Nat) : Int))) 1)) rfl rfl (Ys.pure (fun _ => kr)) ?_
   refine Wl.ys (v := bV ((band .u32 (ishr .u32 a (31 - ((k : Nat) : Int))) 1) == 1)) rfl rfl (Ys.pure (fun _ => kr)) ?_
   refine Wl.nil ?_
   refine hK19 _ _ ?_
   refine W.cond ((band .u32 (ishr .u32 a (31 - ((k : Nat) : Int))) 1) == 1) kr (fun h20 => ?_) (fun h21 => ?_)
   ·have qh20 := h20; try simp only [zA] at qh20
    refine W.region ?_
    refine Wl.ys (v := bV false) rfl rfl (Ys.pure (fun _ => kr)) ?_
    refine Wl.nil ?_
    refine hK13 _ _ ?_
    refine W.region ?_
    refine Wl.ys (v := iV .i64 ((k : Nat) : Int)) rfl rfl (Ys.pure (fun _ => kr)) ?_
    refine Wl.ys (v := iV .i64 ((k + 1 : Nat) : Int)) rfl rfl ((Ys.pure (v := .int .i64 (iadd .i64 ((k : Nat) : Int) 1)) (fun _ => kr)).conseq (int_congr (iadd_eq om om om))) ?_
    refine Wl.ys (v := iV .i64 ((k + 1 : Nat) : Int)) rfl rfl (Ys.pure (fun _ => kr)) ?_
    refine Wl.nil ?_
    refine fun w_ hS_ => hJ5 (k + 1) _ _ (by first | omega | (dsimp only; omega)) ?_ ⟨hS_, ⟨by omega, by rw [cnt_succ, h17, cond_false] <;> omega⟩⟩
    refine ⟨rfl, rfl, rfl, (show iV .i64 _ = iV .i64 _ from int_congr (by rw [cnt_succ, h17, cond_false] <;> rfl)), (show bV _ = bV _ from bool_congr (by rw [zs_succ, h17, cond_false, (show (bitA a k == 1) = _ from h20), cond_true])), (show bV _ = bV _ from bool_congr (by rw [os_succ, h17, cond_false, (show (bitA a k == 1) = _ from h20), cond_true])), (by first | rfl | exact int_congr om | simp), trivial⟩
   ·have qh21 := h21; try simp only [zA] at qh21
    refine W.region ?_
    refine Wl.ys (v := bV false) rfl rfl (Ys.pure (fun _ => kr)) ?_
    refine Wl.nil ?_
    refine hK13 _ _ ?_
    refine W.region ?_
    refine Wl.ys (v := iV .i64 ((k : Nat) : Int)) rfl rfl (Ys.pure (fun _ => kr)) ?_
    refine Wl.ys (v := iV .i64 ((k + 1 : Nat) : Int)) rfl rfl ((Ys.pure (v := .int .i64 (iadd .i64 ((k : Nat) : Int) 1)) (fun _ => kr)).conseq (int_congr (iadd_eq om om om))) ?_
    refine Wl.ys (v := iV .i64 ((k + 1 : Nat) : Int)) rfl rfl (Ys.pure (fun _ => kr)) ?_
    refine Wl.nil ?_
    refine fun w_ hS_ => hJ5 (k + 1) _ _ (by first | omega | (dsimp only; omega)) ?_ ⟨hS_, ⟨by omega, by rw [cnt_succ, h17, cond_false] <;> omega⟩⟩
    refine ⟨rfl, rfl, rfl, (show iV .i64 _ = iV .i64 _ from int_congr (by rw [cnt_succ, h17, cond_false] <;> rfl)), (show bV _ = bV _ from bool_congr (by rw [zs_succ, h17, cond_false, (show (bitA a k == 1) = _ from h21), cond_false])), (show bV _ = bV _ from bool_congr (by rw [os_succ, h17, cond_false, (show (bitA a k == 1) = _ from h21), cond_false])), (by first | rfl | exact int_congr om | simp), trivial⟩
 ·have qh12 := h12; try simp only [zA] at qh12
  refine W.exit ?_
  refine hK3 _ _ ?_
  refine W.seq (fun K22 hK22 => ?_)
  refine W.region ?_
  refine Wl.ys (v := iV .i64 ((cnt bits k : Nat) : Int)) rfl rfl (Ys.pure (fun _ => kr)) ?_
  refine Wl.ys (v := bV (((cnt bits k : Nat) : Int) == 0)) rfl rfl (Ys.pure (fun _ => kr)) ?_
  refine Wl.ys (v := bV (((cnt bits k : Nat) : Int) == 0)) rfl rfl (Ys.pure (fun _ => kr)) ?_
  refine Wl.guard (v := bV (zs a bits k)) (!(((cnt bits k : Nat) : Int) == 0)) (wantF rfl kr) rfl (fun hg23 => ?_) ?_
  ·have qhg23 := hg23; try simp only [zA] at qhg23
   exact Ys.pure (fun _ => kr)
  refine Wl.guard (v := bV (!(zs a bits k))) (!(((cnt bits k : Nat) : Int) == 0)) (wantF rfl kr) rfl (fun hg24 => ?_) ?_
  ·have qhg24 := hg24; try simp only [zA] at qhg24
   refine Ys.at (t := 28) (v0 := bV (zs a bits k)) (lz (g := !(((cnt bits k : Nat) : Int) == 0)) (u := undef) hg24 kr) ?_
   exact Ys.pure (fun _ => kr)
  refine Wl.guard (v := bV (!(zs a bits k))) (!(((cnt bits k : Nat) : Int) == 0)) (wantF rfl kr) rfl (fun hg25 => ?_) ?_
  ·have qhg25 := hg25; try simp only [zA] at qhg25
   refine Ys.at (t := 29) (v0 := bV (!(zs a bits k))) (lz (g := !(((cnt bits k : Nat) : Int) == 0)) (u := undef) hg25 kr) ?_
   exact Ys.pure (fun _ => kr)
  refine Wl.guard (v := bV (os a bits k)) ((!(((cnt bits k : Nat) : Int) == 0)) && !(zs a bits k)) (wantTz rfl rfl kr) rfl (fun hg26 => ?_) ?_
  ·have qhg26 := hg26; try simp only [zA] at qhg26
   exact Ys.pure (fun _ => kr)
  refine Wl.guard (v := bV (!(os a bits k))) ((!(((cnt bits k : Nat) : Int) == 0)) && !(zs a bits k)) (wantTz rfl rfl kr) rfl (fun hg27 => ?_) ?_
  ·have qhg27 := hg27; try simp only [zA] at qhg27
   refine Ys.at (t := 31) (v0 := bV (os a bits k)) (lz (g := (!(((cnt bits k : Nat) : Int) == 0)) && !(zs a bits k)) (u := undef) hg27 kr) ?_
   exact Ys.pure (fun _ => kr)
  refine Wl.guard (v := bV ((!(zs a bits k)) && (!(os a bits k)))) (!(((cnt bits k : Nat) : Int) == 0)) (wantF rfl kr) rfl (fun hg28 => ?_) ?_
  ·have qhg28 := hg28; try simp only [zA] at qhg28
   refine Ys.at (t := 30) (v0 := bV (!(zs a bits k))) (lz (g := !(((cnt bits k : Nat) : Int) == 0)) (u := undef) hg28 kr) ?_
   refine Ys.at (t := 32) (v0 := (bif !(zs a bits k) then bV (!(os a bits k)) else undef)) (lz2 (g := !(((cnt bits k : Nat) : Int) == 0)) hg28 kr) ?_
   exact Ys.and (e := !(zs a bits k)) (b := !(os a bits k)) rfl kr kr kr
  refine Wl.ys (v := bV ((((cnt bits k : Nat) : Int) == 0) || ((!(zs a bits k)) && (!(os a bits k))))) rfl rfl (Ys.or' (e := ((cnt bits k : Nat) : Int) == 0) (b := (!(zs a bits k)) && (!(os a bits k))) rfl kr kr kr) ?_
  refine Wl.ys (v := bV ((((cnt bits k : Nat) : Int) == 0) || ((!(zs a bits k)) && (!(os a bits k))))) rfl rfl (Ys.pure (fun _ => kr)) ?_
  refine Wl.nil ?_
  refine hK22 _ _ ?_
  refine W.ret ?_
  show ∀ w_, _ → bodyPost Try.prog Try.f33 _ Exit.ret _ w_
  exact fun w_ hS_ => ret1 rfl (RV.tmp (v := bV ((((cnt bits k : Nat) : Int) == 0) || ((!(zs a bits k)) && (!(os a bits k))))) kr) hS_ ⟨by clear hK1 hK2 hK3 hK4 hJ5 hK9 hK10 hK22; refine congrArg Ending.returned ?_; exact bool_congr ((inner_at om).trans (inner_eq a bits ha)), hS_.below⟩
theorem host2_c (c : Cfg) (a : Int) (w : World) (ha : 0 ≤ a ∧ a ≤ 4294967295) (hc : 0 ≤ c.lan ∧ c.lan ≤ 4294967295) : Calls Try.prog 14 #[Value.agg (cfL c).toArray, iV .u32 a] w (Ret w (.bool (host c a))) := by
 refine calls_W (M := []) (L := []) (n := 23) Try.func14 rfl rfl sp (Mem.refl _) ?_
 refine W.seq (fun K1 hK1 => ?_)
 refine W.region ?_
 refine Wl.box (v := Value.agg (cfL c).toArray) (cs := (cfL c)) rfl rfl rfl kr rfl (fun p2 => ?_)
 refine Wl.ys (v := bV false) rfl rfl (Ys.pure (fun _ => kr)) ?_
 refine Wl.nil ?_
 refine hK1 _ _ ?_
 refine W.seq (fun K2 hK2 => ?_)
 refine W.region ?_
 refine Wl.ys (v := iV .u32 a) rfl rfl (Ys.pure (fun _ => kr)) ?_
 refine Wl.ys (v := pV p2 18) rfl rfl (Ys.pure (fun _ => kr)) ?_
 refine Wl.ys (v := iV .u32 c.lan) rfl rfl (Ys.load (b := p2) (o' := 18) (i := 0) (cs := (cfL c)) (v := iV .u32 c.lan) rfl kr Try.isAgg25 rfl rfl) ?_
 refine Wl.ys (v := pV p2 20) rfl rfl (Ys.pure (fun _ => kr)) ?_
 refine Wl.ys (v := iV .i64 c.bits) rfl rfl (Ys.load (b := p2) (o' := 20) (i := 0) (cs := (cfL c)) (v := iV .i64 c.bits) rfl kr Try.isAgg3 rfl rfl) ?_
 refine Wl.ys (v := bV (within a c.lan c.bits)) rfl rfl (Ys.call (k := 34) (args := #[iV .u32 a, iV .u32 c.lan, iV .i64 c.bits]) (fun _ => kr) (fun _ hSc => within2_c a c.lan c.bits _ (by first | assumption | omega | decide | exact ha _ om) (by first | assumption | omega | decide | exact ha _ om))) ?_
 refine Wl.ys (v := bV (within a c.lan c.bits)) rfl rfl (Ys.pure (fun _ => kr)) ?_
 refine Wl.guard (v := iV .u32 a) (within a c.lan c.bits) (wantT rfl kr) rfl (fun hg3 => ?_) ?_
 ·exact Ys.pure (fun _ => kr)
 refine Wl.guard (v := pV p2 18) (within a c.lan c.bits) (wantT rfl kr) rfl (fun hg4 => ?_) ?_
 ·exact Ys.pure (fun _ => kr)
 refine Wl.guard (v := iV .u32 c.lan) (within a c.lan c.bits) (wantT rfl kr) rfl (fun hg5 => ?_) ?_
 ·refine Ys.at (t := 13) (v0 := pV p2 18) (lz (g := within a c.lan c.bits) (u := undef) hg5 kr) ?_
  exact Ys.load (b := p2) (o' := 18) (i := 0) (cs := (cfL c)) (v := iV .u32 c.lan) rfl kr Try.isAgg25 rfl rfl
 refine Wl.guard (v := bV (a != c.lan)) (within a c.lan c.bits) (wantT rfl kr) rfl (fun hg6 => ?_) ?_
 ·refine Ys.at (t := 12) (v0 := iV .u32 a) (lz (g := within a c.lan c.bits) (u := undef) hg6 kr) ?_
  refine Ys.at (t := 14) (v0 := iV .u32 c.lan) (lz (g := within a c.lan c.bits) (u := undef) hg6 kr) ?_
  exact Ys.pure (fun _ => kr)
 refine Wl.ys (v := bV ((within a c.lan c.bits) && (a != c.lan))) rfl rfl (Ys.and (e := within a c.lan c.bits) (b := a != c.lan) rfl kr kr kr) ?_
 refine Wl.ys (v := bV ((within a c.lan c.bits) && (a != c.lan))) rfl rfl (Ys.pure (fun _ => kr)) ?_
 refine Wl.guard (v := iV .u32 a) ((within a c.lan c.bits) && (a != c.lan)) (wantT rfl kr) rfl (fun hg7 => ?_) ?_
 ·have qhg7 := hg7; try simp only [zA] at qhg7
  exact Ys.pure (fun _ => kr)
 refine Wl.guard (v := pV p2 20) ((within a c.lan c.bits) && (a != c.lan)) (wantT rfl kr) rfl (fun hg8 => ?_) ?_
 ·have qhg8 := hg8; try simp only [zA] at qhg8
  exact Ys.pure (fun _ => kr)
 refine Wl.guard (v := iV .i64 c.bits) ((within a c.lan c.bits) && (a != c.lan)) (wantT rfl kr) rfl (fun hg9 => ?_) ?_
 ·have qhg9 := hg9; try simp only [zA] at qhg9
  refine Ys.at (t := 19) (v0 := pV p2 20) (lz (g := (within a c.lan c.bits) && (a != c.lan)) (u := undef) hg9 kr) ?_
  exact Ys.load (b := p2) (o' := 20) (i := 0) (cs := (cfL c)) (v := iV .i64 c.bits) rfl kr Try.isAgg3 rfl rfl
 refine Wl.guard (v := bV (inner a c.bits)) ((within a c.lan c.bits) && (a != c.lan)) (wantT rfl kr) rfl (fun hg10 => ?_) ?_
 ·have qhg10 := hg10; try simp only [zA] at qhg10
  refine Ys.at (t := 18) (v0 := iV .u32 a) (lz (g := (within a c.lan c.bits) && (a != c.lan)) (u := undef) hg10 kr) ?_
  refine Ys.at (t := 20) (v0 := iV .i64 c.bits) (lz (g := (within a c.lan c.bits) && (a != c.lan)) (u := undef) hg10 kr) ?_
  exact Ys.call (k := 33) (args := #[iV .u32 a, iV .i64 c.bits]) (fun _ => kr) (fun _ hSc => inner2_c a c.bits _ (by first | assumption | omega | decide | exact ha _ om))
 refine Wl.ys (v := bV (((within a c.lan c.bits) && (a != c.lan)) && (inner a c.bits))) rfl rfl (Ys.and (e := (within a c.lan c.bits) && (a != c.lan)) (b := inner a c.bits) rfl kr kr kr) ?_
 refine Wl.ys (v := bV (((within a c.lan c.bits) && (a != c.lan)) && (inner a c.bits))) rfl rfl (Ys.pure (fun _ => kr)) ?_
 refine Wl.nil ?_
 refine hK2 _ _ ?_
 refine W.ret ?_
 show ∀ w_, _ → bodyPost Try.prog Try.f14 _ Exit.ret _ w_
 exact fun w_ hS_ => ret1 rfl (RV.tmp (v := bV (((within a c.lan c.bits) && (a != c.lan)) && (inner a c.bits))) kr) hS_ ⟨rfl, hS_.below⟩
end Go.Proofs.Ytjkhmbigoloeiaa.Conf
