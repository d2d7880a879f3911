import Derived.Test.YtjkhmbigoloeiaaJOConf3
import Derived.Laws.RangeAny
import Derived.Laws.RangeString
set_option linter.unusedVariables false
set_option linter.unusedSimpArgs false
set_option maxRecDepth 20000
namespace Go.Proofs.Ytjkhmbigoloeiaa.Conf
open Go.RowKit Obase
def b1 (c : Cfg) : Bool := ((decide (c.bits < 8)) || (decide (c.bits > 30))) || (!(inner c.lan c.bits))
def b2 (c : Cfg) : Bool := ((c.wan == 0) || (c.wan == 4294967295)) || (within c.wan c.lan c.bits)
def b3 (c : Cfg) : Bool := (((irem c.lm0 2) == 1) || ((irem c.wm0 2) == 1)) || ((irem c.hm0 2) == 1)
def b4 (c : Cfg) : Bool := (((((((decide (c.ms < 1)) || (decide (c.ms > 4096))) || (decide (c.mm < 1))) || (decide (c.mm > 256))) || (decide (c.mc < 1))) || (decide (c.mc > 32))) || (decide (c.mu < 1))) || (decide (c.mu > 16))
def b5 (c : Cfg) : Bool := ((decide (((c.fl : Nat) : Int) > 32)) || ((c.dmz != 0) && (!(host c c.dmz)))) || (!(uuid c.uu))
def fbad (c : Cfg) (f : Fwd) : Bool := (((((f.proto) != 6) && ((f.proto) != 17)) || ((f.port) == 0)) || ((f.dest) == 0)) || (!(host c (f.host)))
def fok (c : Cfg) (F : Nat → Fwd) (i : Nat) : Bool := !(fbad c (F i)) && decide (∀ j : Nat, j < i → isF F (F i).proto (F i).port j = false)
theorem fok_mk {c : Cfg} {F : Nat → Fwd} {i : Nat} (h : fbad c (F i) = false) (h2 : ∀ j : Nat, j < i → isF F (F i).proto (F i).port j = false) : fok c F i = true := by
 unfold fok; rw [h, decide_eq_true h2]; rfl
def fall (c : Cfg) (F : Nat → Fwd) (n : Nat) : Bool := decide (∀ i : Nat, i < n → fok c F i = true)
theorem fall_bad {c : Cfg} {F : Nat → Fwd} {n i : Nat} (hi : i < n) (h : fbad c (F i) = true) : fall c F n = false := decide_eq_false (fun ha => by have := ha i hi; unfold fok at this; rw [h] at this; simp at this)
theorem fall_dup {c : Cfg} {F : Nat → Fwd} {n i j : Nat} (hi : i < n) (hj : j < i) (h : isF F (F i).proto (F i).port j = true) : fall c F n = false := decide_eq_false (fun ha => by
  have := ha i hi
  unfold fok at this
  rw [Bool.and_eq_true] at this
  have h2 := of_decide_eq_true this.2 j hj
  rw [h] at h2; cases h2)
def headbad (c : Cfg) : Bool := b1 c || (b2 c || (b3 c || (b4 c || b5 c)))
def chk (c : Cfg) (F : Nat → Fwd) : Int := bif headbad c then 40 else bif fall c F c.fl then 0 else 40
theorem hb1 {c : Cfg} (h : b1 c = true) : headbad c = true := by simp [headbad, h]
theorem hb2 {c : Cfg} (h : b2 c = true) : headbad c = true := by simp [headbad, h]
theorem hb3 {c : Cfg} (h : b3 c = true) : headbad c = true := by simp [headbad, h]
theorem hb4 {c : Cfg} (h : b4 c = true) : headbad c = true := by simp [headbad, h]
theorem hb5 {c : Cfg} (h : b5 c = true) : headbad c = true := by simp [headbad, h]
theorem hb0 {c : Cfg} (h1 : b1 c = false) (h2 : b2 c = false) (h3 : b3 c = false) (h4 : b4 c = false) (h5 : b5 c = false) : headbad c = false := by simp [headbad, h1, h2, h3, h4, h5]
theorem chk_bad {c : Cfg} {F : Nat → Fwd} (h : headbad c = true) : 40 = chk c F := by simp [chk, h]
theorem chk_bad2 {c : Cfg} {F : Nat → Fwd} (h : headbad c = false) (h2 : fall c F c.fl = false) : 40 = chk c F := by simp [chk, h, h2]
theorem chk_ok {c : Cfg} {F : Nat → Fwd} (h : headbad c = false) (h2 : fall c F c.fl = true) : 0 = chk c F := by simp [chk, h, h2]
abbrev j1 (c : Cfg) : Bool := (decide (c.ms < 1)) || (decide (c.ms > 4096))
abbrev j2 (c : Cfg) : Bool := (j1 c) || (decide (c.mm < 1))
abbrev j3 (c : Cfg) : Bool := (j2 c) || (decide (c.mm > 256))
abbrev j4 (c : Cfg) : Bool := (j3 c) || (decide (c.mc < 1))
abbrev j5 (c : Cfg) : Bool := (j4 c) || (decide (c.mc > 32))
abbrev j6 (c : Cfg) : Bool := (j5 c) || (decide (c.mu < 1))
abbrev j7 (c : Cfg) : Bool := decide (((c.fl : Nat) : Int) > 32)
abbrev j8 (F : Nat → Fwd) (k : Nat) : Bool := (((F k).proto) != 6) && (((F k).proto) != 17)
abbrev j9 (F : Nat → Fwd) (k : Nat) : Bool := (j8 F k) || (((F k).port) == 0)
abbrev jA (F : Nat → Fwd) (k : Nat) : Bool := (j9 F k) || (((F k).dest) == 0)
set_option maxHeartbeats 2000000 in
theorem check2_c (c : Cfg) (F : Nat → Fwd) (w : World) (hsl : Sl w c.fa c.fl 4 (fun k => [iV .u8 ((F k).proto), iV .u16 ((F k).port), iV .u16 ((F k).dest), iV .u32 ((F k).host)])) (hlen : c.fl ≤ 4611686018427387904) (ha : ∀ i, i < c.fl → 0 ≤ (F i).host ∧ (F i).host ≤ 4294967295) (hl : 0 ≤ c.lan ∧ c.lan ≤ 4294967295) (hw : 0 ≤ c.wan ∧ c.wan ≤ 4294967295) (hd : 0 ≤ c.dmz ∧ c.dmz ≤ 4294967295) : Calls Try.prog 10 #[Value.agg (cfL c).toArray] w (Ret w (.int .i64 (chk c F))) := by
 refine calls_W (M := []) (L := []) (n := 180) Try.func10 rfl rfl sp (Mem.refl _) ?_
 refine W.seq (fun K1 hK1 => ?_)
 refine W.region ?_
 refine Wl.box (v := Value.agg (cfL c).toArray) (cs := (cfL c)) rfl rfl rfl kr rfl (fun p1 => ?_)
 refine Wl.ys (v := iV .i64 0) rfl rfl (Ys.pure (fun _ => kr)) ?_
 refine Wl.nil ?_
 refine hK1 _ _ ?_
 refine W.seq (fun K2 hK2 => ?_)
 refine W.seq (fun K3 hK3 => ?_)
 refine W.region ?_
 refine Wl.ys (v := pV p1 20) rfl rfl (Ys.pure (fun _ => kr)) ?_
 refine Wl.ys (v := iV .i64 c.bits) rfl rfl (Ys.load (b := p1) (o' := 20) (i := 0) (cs := (cfL c)) (v := iV .i64 c.bits) rfl kr Try.isAgg3 rfl rfl) ?_
 refine Wl.ys (v := bV (decide (c.bits < 8))) rfl rfl (Ys.pure (fun _ => kr)) ?_
 refine Wl.ys (v := bV (decide (c.bits < 8))) rfl rfl (Ys.pure (fun _ => kr)) ?_
 refine Wl.guard (v := pV p1 20) (!(decide (c.bits < 8))) (wantF rfl kr) rfl (fun hg4 => ?_) ?_
 ·have qhg4 := hg4; try simp only [zA] at qhg4
  exact Ys.pure (fun _ => kr)
 refine Wl.guard (v := iV .i64 c.bits) (!(decide (c.bits < 8))) (wantF rfl kr) rfl (fun hg5 => ?_) ?_
 ·have qhg5 := hg5; try simp only [zA] at qhg5
  refine Ys.at (t := 10) (v0 := pV p1 20) (lz (g := !(decide (c.bits < 8))) (u := undef) hg5 kr) ?_
  exact Ys.load (b := p1) (o' := 20) (i := 0) (cs := (cfL c)) (v := iV .i64 c.bits) rfl kr Try.isAgg3 rfl rfl
 refine Wl.guard (v := bV (decide (c.bits > 30))) (!(decide (c.bits < 8))) (wantF rfl kr) rfl (fun hg6 => ?_) ?_
 ·have qhg6 := hg6; try simp only [zA] at qhg6
  refine Ys.at (t := 11) (v0 := iV .i64 c.bits) (lz (g := !(decide (c.bits < 8))) (u := undef) hg6 kr) ?_
  exact Ys.pure (fun _ => kr)
 refine Wl.ys (v := bV ((decide (c.bits < 8)) || (decide (c.bits > 30)))) rfl rfl (Ys.or' (e := decide (c.bits < 8)) (b := decide (c.bits > 30)) rfl kr kr kr) ?_
 refine Wl.ys (v := bV ((decide (c.bits < 8)) || (decide (c.bits > 30)))) rfl rfl (Ys.pure (fun _ => kr)) ?_
 refine Wl.guard (v := pV p1 18) (!((decide (c.bits < 8)) || (decide (c.bits > 30)))) (wantF rfl kr) rfl (fun hg7 => ?_) ?_
 ·have qhg7 := hg7; try simp only [zA] at qhg7
  exact Ys.pure (fun _ => kr)
 refine Wl.guard (v := iV .u32 c.lan) (!((decide (c.bits < 8)) || (decide (c.bits > 30)))) (wantF rfl kr) rfl (fun hg8 => ?_) ?_
 ·have qhg8 := hg8; try simp only [zA] at qhg8
  refine Ys.at (t := 15) (v0 := pV p1 18) (lz (g := !((decide (c.bits < 8)) || (decide (c.bits > 30)))) (u := undef) hg8 kr) ?_
  exact Ys.load (b := p1) (o' := 18) (i := 0) (cs := (cfL c)) (v := iV .u32 c.lan) rfl kr Try.isAgg25 rfl rfl
 refine Wl.guard (v := pV p1 20) (!((decide (c.bits < 8)) || (decide (c.bits > 30)))) (wantF rfl kr) rfl (fun hg9 => ?_) ?_
 ·have qhg9 := hg9; try simp only [zA] at qhg9
  exact Ys.pure (fun _ => kr)
 refine Wl.guard (v := iV .i64 c.bits) (!((decide (c.bits < 8)) || (decide (c.bits > 30)))) (wantF rfl kr) rfl (fun hg10 => ?_) ?_
 ·have qhg10 := hg10; try simp only [zA] at qhg10
  refine Ys.at (t := 17) (v0 := pV p1 20) (lz (g := !((decide (c.bits < 8)) || (decide (c.bits > 30)))) (u := undef) hg10 kr) ?_
  exact Ys.load (b := p1) (o' := 20) (i := 0) (cs := (cfL c)) (v := iV .i64 c.bits) rfl kr Try.isAgg3 rfl rfl
 refine Wl.guard (v := bV (inner c.lan c.bits)) (!((decide (c.bits < 8)) || (decide (c.bits > 30)))) (wantF rfl kr) rfl (fun hg11 => ?_) ?_
 ·have qhg11 := hg11; try simp only [zA] at qhg11
  refine Ys.at (t := 16) (v0 := iV .u32 c.lan) (lz (g := !((decide (c.bits < 8)) || (decide (c.bits > 30)))) (u := undef) hg11 kr) ?_
  refine Ys.at (t := 18) (v0 := iV .i64 c.bits) (lz (g := !((decide (c.bits < 8)) || (decide (c.bits > 30)))) (u := undef) hg11 kr) ?_
  exact Ys.call (k := 33) (args := #[iV .u32 c.lan, iV .i64 c.bits]) (fun _ => kr) (fun _ hSc => inner2_c c.lan c.bits _ (by first | assumption | omega | decide | exact ha _ om))
 refine Wl.guard (v := bV (!(inner c.lan c.bits))) (!((decide (c.bits < 8)) || (decide (c.bits > 30)))) (wantF rfl kr) rfl (fun hg12 => ?_) ?_
 ·have qhg12 := hg12; try simp only [zA] at qhg12
  refine Ys.at (t := 19) (v0 := bV (inner c.lan c.bits)) (lz (g := !((decide (c.bits < 8)) || (decide (c.bits > 30)))) (u := undef) hg12 kr) ?_
  exact Ys.pure (fun _ => kr)
 refine Wl.ys (v := bV (((decide (c.bits < 8)) || (decide (c.bits > 30))) || (!(inner c.lan c.bits)))) rfl rfl (Ys.or' (e := (decide (c.bits < 8)) || (decide (c.bits > 30))) (b := !(inner c.lan c.bits)) rfl kr kr kr) ?_
 refine Wl.nil ?_
 refine hK3 _ _ ?_
 refine W.cond (((decide (c.bits < 8)) || (decide (c.bits > 30))) || (!(inner c.lan c.bits))) kr (fun h13 => ?_) (fun h14 => ?_)
 ·have qh13 := h13; try simp only [zA] at qh13
  refine W.seq (fun K15 hK15 => ?_)
  refine W.region ?_
  refine Wl.ys (v := iV .i64 40) rfl rfl (Ys.pure (fun _ => kr)) ?_
  refine Wl.nil ?_
  refine hK15 _ _ ?_
  refine W.ret ?_
  show ∀ w_, _ → bodyPost Try.prog Try.f10 _ Exit.ret _ w_
  exact fun w_ hS_ => ret1 rfl (RV.tmp (v := iV .i64 40) kr) hS_ ⟨by clear hK1 hK2 hK3 hK15; refine congrArg Ending.returned ?_; exact int_congr (chk_bad (hb1 h13)), hS_.below⟩
 ·have qh14 := h14; try simp only [zA] at qh14
  refine W.skip' ?_
  refine hK2 _ _ ?_
  refine W.seq (fun K16 hK16 => ?_)
  refine W.seq (fun K17 hK17 => ?_)
  refine W.region ?_
  refine Wl.ys (v := pV p1 19) rfl rfl (Ys.pure (fun _ => kr)) ?_
  refine Wl.ys (v := iV .u32 c.wan) rfl rfl (Ys.load (b := p1) (o' := 19) (i := 0) (cs := (cfL c)) (v := iV .u32 c.wan) rfl kr Try.isAgg25 rfl rfl) ?_
  refine Wl.ys (v := bV (c.wan == 0)) rfl rfl (Ys.pure (fun _ => kr)) ?_
  refine Wl.ys (v := bV (c.wan == 0)) rfl rfl (Ys.pure (fun _ => kr)) ?_
  refine Wl.guard (v := pV p1 19) (!(c.wan == 0)) (wantF rfl kr) rfl (fun hg18 => ?_) ?_
  ·have qhg18 := hg18; try simp only [zA] at qhg18
   exact Ys.pure (fun _ => kr)
  refine Wl.guard (v := iV .u32 c.wan) (!(c.wan == 0)) (wantF rfl kr) rfl (fun hg19 => ?_) ?_
  ·have qhg19 := hg19; try simp only [zA] at qhg19
   refine Ys.at (t := 26) (v0 := pV p1 19) (lz (g := !(c.wan == 0)) (u := undef) hg19 kr) ?_
   exact Ys.load (b := p1) (o' := 19) (i := 0) (cs := (cfL c)) (v := iV .u32 c.wan) rfl kr Try.isAgg25 rfl rfl
  refine Wl.guard (v := bV (c.wan == 4294967295)) (!(c.wan == 0)) (wantF rfl kr) rfl (fun hg20 => ?_) ?_
  ·have qhg20 := hg20; try simp only [zA] at qhg20
   refine Ys.at (t := 27) (v0 := iV .u32 c.wan) (lz (g := !(c.wan == 0)) (u := undef) hg20 kr) ?_
   exact Ys.pure (fun _ => kr)
  refine Wl.ys (v := bV ((c.wan == 0) || (c.wan == 4294967295))) rfl rfl (Ys.or' (e := c.wan == 0) (b := c.wan == 4294967295) rfl kr kr kr) ?_
  refine Wl.ys (v := bV ((c.wan == 0) || (c.wan == 4294967295))) rfl rfl (Ys.pure (fun _ => kr)) ?_
  refine Wl.guard (v := pV p1 19) (!((c.wan == 0) || (c.wan == 4294967295))) (wantF rfl kr) rfl (fun hg21 => ?_) ?_
  ·have qhg21 := hg21; try simp only [zA] at qhg21
   exact Ys.pure (fun _ => kr)
  refine Wl.guard (v := iV .u32 c.wan) (!((c.wan == 0) || (c.wan == 4294967295))) (wantF rfl kr) rfl (fun hg22 => ?_) ?_
  ·have qhg22 := hg22; try simp only [zA] at qhg22
   refine Ys.at (t := 31) (v0 := pV p1 19) (lz (g := !((c.wan == 0) || (c.wan == 4294967295))) (u := undef) hg22 kr) ?_
   exact Ys.load (b := p1) (o' := 19) (i := 0) (cs := (cfL c)) (v := iV .u32 c.wan) rfl kr Try.isAgg25 rfl rfl
  refine Wl.guard (v := pV p1 18) (!((c.wan == 0) || (c.wan == 4294967295))) (wantF rfl kr) rfl (fun hg23 => ?_) ?_
  ·have qhg23 := hg23; try simp only [zA] at qhg23
   exact Ys.pure (fun _ => kr)
  refine Wl.guard (v := iV .u32 c.lan) (!((c.wan == 0) || (c.wan == 4294967295))) (wantF rfl kr) rfl (fun hg24 => ?_) ?_
  ·have qhg24 := hg24; try simp only [zA] at qhg24
   refine Ys.at (t := 33) (v0 := pV p1 18) (lz (g := !((c.wan == 0) || (c.wan == 4294967295))) (u := undef) hg24 kr) ?_
   exact Ys.load (b := p1) (o' := 18) (i := 0) (cs := (cfL c)) (v := iV .u32 c.lan) rfl kr Try.isAgg25 rfl rfl
  refine Wl.guard (v := pV p1 20) (!((c.wan == 0) || (c.wan == 4294967295))) (wantF rfl kr) rfl (fun hg25 => ?_) ?_
  ·have qhg25 := hg25; try simp only [zA] at qhg25
   exact Ys.pure (fun _ => kr)
  refine Wl.guard (v := iV .i64 c.bits) (!((c.wan == 0) || (c.wan == 4294967295))) (wantF rfl kr) rfl (fun hg26 => ?_) ?_
  ·have qhg26 := hg26; try simp only [zA] at qhg26
   refine Ys.at (t := 35) (v0 := pV p1 20) (lz (g := !((c.wan == 0) || (c.wan == 4294967295))) (u := undef) hg26 kr) ?_
   exact Ys.load (b := p1) (o' := 20) (i := 0) (cs := (cfL c)) (v := iV .i64 c.bits) rfl kr Try.isAgg3 rfl rfl
  refine Wl.guard (v := bV (within c.wan c.lan c.bits)) (!((c.wan == 0) || (c.wan == 4294967295))) (wantF rfl kr) rfl (fun hg27 => ?_) ?_
  ·have qhg27 := hg27; try simp only [zA] at qhg27
   refine Ys.at (t := 32) (v0 := iV .u32 c.wan) (lz (g := !((c.wan == 0) || (c.wan == 4294967295))) (u := undef) hg27 kr) ?_
   refine Ys.at (t := 34) (v0 := iV .u32 c.lan) (lz (g := !((c.wan == 0) || (c.wan == 4294967295))) (u := undef) hg27 kr) ?_
   refine Ys.at (t := 36) (v0 := iV .i64 c.bits) (lz (g := !((c.wan == 0) || (c.wan == 4294967295))) (u := undef) hg27 kr) ?_
   exact Ys.call (k := 34) (args := #[iV .u32 c.wan, iV .u32 c.lan, iV .i64 c.bits]) (fun _ => kr) (fun _ hSc => within2_c c.wan c.lan c.bits _ (by first | assumption | omega | decide | exact ha _ om) (by first | assumption | omega | decide | exact ha _ om))
  refine Wl.ys (v := bV (((c.wan == 0) || (c.wan == 4294967295)) || (within c.wan c.lan c.bits))) rfl rfl (Ys.or' (e := (c.wan == 0) || (c.wan == 4294967295)) (b := within c.wan c.lan c.bits) rfl kr kr kr) ?_
  refine Wl.nil ?_
  refine hK17 _ _ ?_
  refine W.cond (((c.wan == 0) || (c.wan == 4294967295)) || (within c.wan c.lan c.bits)) kr (fun h28 => ?_) (fun h29 => ?_)
  ·have qh28 := h28; try simp only [zA] at qh28
   refine W.seq (fun K30 hK30 => ?_)
   refine W.region ?_
   refine Wl.ys (v := iV .i64 40) rfl rfl (Ys.pure (fun _ => kr)) ?_
   refine Wl.nil ?_
   refine hK30 _ _ ?_
   refine W.ret ?_
   show ∀ w_, _ → bodyPost Try.prog Try.f10 _ Exit.ret _ w_
   exact fun w_ hS_ => ret1 rfl (RV.tmp (v := iV .i64 40) kr) hS_ ⟨by clear hK1 hK2 hK3 hK16 hK17 hK30; refine congrArg Ending.returned ?_; exact int_congr (chk_bad (hb2 h28)), hS_.below⟩
  ·have qh29 := h29; try simp only [zA] at qh29
   refine W.skip' ?_
   refine hK16 _ _ ?_
   refine W.seq (fun K31 hK31 => ?_)
   refine W.seq (fun K32 hK32 => ?_)
   refine W.region ?_
   refine Wl.ys (v := pV p1 0) rfl rfl (Ys.pure (fun _ => kr)) ?_
   refine Wl.ys (v := pV p1 0) rfl rfl (Ys.pure (fun _ => kr)) ?_
   refine Wl.ys (v := iV .u8 c.lm0) rfl rfl (Ys.load (b := p1) (o' := 0) (i := 0) (cs := (cfL c)) (v := iV .u8 c.lm0) rfl kr Try.isAgg5 rfl rfl) ?_
   refine Wl.ys (v := iV .u8 (irem c.lm0 2)) rfl rfl (Ys.pure (fun _ => kr)) ?_
   refine Wl.ys (v := bV ((irem c.lm0 2) == 1)) rfl rfl (Ys.pure (fun _ => kr)) ?_
   refine Wl.ys (v := bV ((irem c.lm0 2) == 1)) rfl rfl (Ys.pure (fun _ => kr)) ?_
   refine Wl.guard (v := pV p1 6) (!((irem c.lm0 2) == 1)) (wantF rfl kr) rfl (fun hg33 => ?_) ?_
   ·have qhg33 := hg33; try simp only [zA] at qhg33
    exact Ys.pure (fun _ => kr)
   refine Wl.guard (v := pV p1 6) (!((irem c.lm0 2) == 1)) (wantF rfl kr) rfl (fun hg34 => ?_) ?_
   ·have qhg34 := hg34; try simp only [zA] at qhg34
    refine Ys.at (t := 45) (v0 := pV p1 6) (lz (g := !((irem c.lm0 2) == 1)) (u := undef) hg34 kr) ?_
    exact Ys.pure (fun _ => kr)
   refine Wl.guard (v := iV .u8 c.wm0) (!((irem c.lm0 2) == 1)) (wantF rfl kr) rfl (fun hg35 => ?_) ?_
   ·have qhg35 := hg35; try simp only [zA] at qhg35
    refine Ys.at (t := 46) (v0 := pV p1 6) (lz (g := !((irem c.lm0 2) == 1)) (u := undef) hg35 kr) ?_
    exact Ys.load (b := p1) (o' := 6) (i := 0) (cs := (cfL c)) (v := iV .u8 c.wm0) rfl kr Try.isAgg5 rfl rfl
   refine Wl.guard (v := iV .u8 (irem c.wm0 2)) (!((irem c.lm0 2) == 1)) (wantF rfl kr) rfl (fun hg36 => ?_) ?_
   ·have qhg36 := hg36; try simp only [zA] at qhg36
    refine Ys.at (t := 47) (v0 := iV .u8 c.wm0) (lz (g := !((irem c.lm0 2) == 1)) (u := undef) hg36 kr) ?_
    exact Ys.pure (fun _ => kr)
   refine Wl.guard (v := bV ((irem c.wm0 2) == 1)) (!((irem c.lm0 2) == 1)) (wantF rfl kr) rfl (fun hg37 => ?_) ?_
   ·have qhg37 := hg37; try simp only [zA] at qhg37
    refine Ys.at (t := 48) (v0 := iV .u8 (irem c.wm0 2)) (lz (g := !((irem c.lm0 2) == 1)) (u := undef) hg37 kr) ?_
    exact Ys.pure (fun _ => kr)
   refine Wl.ys (v := bV (((irem c.lm0 2) == 1) || ((irem c.wm0 2) == 1))) rfl rfl (Ys.or' (e := (irem c.lm0 2) == 1) (b := (irem c.wm0 2) == 1) rfl kr kr kr) ?_
   refine Wl.ys (v := bV (((irem c.lm0 2) == 1) || ((irem c.wm0 2) == 1))) rfl rfl (Ys.pure (fun _ => kr)) ?_
   refine Wl.guard (v := pV p1 12) (!(((irem c.lm0 2) == 1) || ((irem c.wm0 2) == 1))) (wantF rfl kr) rfl (fun hg38 => ?_) ?_
   ·have qhg38 := hg38; try simp only [zA] at qhg38
    exact Ys.pure (fun _ => kr)
   refine Wl.guard (v := pV p1 12) (!(((irem c.lm0 2) == 1) || ((irem c.wm0 2) == 1))) (wantF rfl kr) rfl (fun hg39 => ?_) ?_
   ·have qhg39 := hg39; try simp only [zA] at qhg39
    refine Ys.at (t := 52) (v0 := pV p1 12) (lz (g := !(((irem c.lm0 2) == 1) || ((irem c.wm0 2) == 1))) (u := undef) hg39 kr) ?_
    exact Ys.pure (fun _ => kr)
   refine Wl.guard (v := iV .u8 c.hm0) (!(((irem c.lm0 2) == 1) || ((irem c.wm0 2) == 1))) (wantF rfl kr) rfl (fun hg40 => ?_) ?_
   ·have qhg40 := hg40; try simp only [zA] at qhg40
    refine Ys.at (t := 53) (v0 := pV p1 12) (lz (g := !(((irem c.lm0 2) == 1) || ((irem c.wm0 2) == 1))) (u := undef) hg40 kr) ?_
    exact Ys.load (b := p1) (o' := 12) (i := 0) (cs := (cfL c)) (v := iV .u8 c.hm0) rfl kr Try.isAgg5 rfl rfl
   refine Wl.guard (v := iV .u8 (irem c.hm0 2)) (!(((irem c.lm0 2) == 1) || ((irem c.wm0 2) == 1))) (wantF rfl kr) rfl (fun hg41 => ?_) ?_
   ·have qhg41 := hg41; try simp only [zA] at qhg41
    refine Ys.at (t := 54) (v0 := iV .u8 c.hm0) (lz (g := !(((irem c.lm0 2) == 1) || ((irem c.wm0 2) == 1))) (u := undef) hg41 kr) ?_
    exact Ys.pure (fun _ => kr)
   refine Wl.guard (v := bV ((irem c.hm0 2) == 1)) (!(((irem c.lm0 2) == 1) || ((irem c.wm0 2) == 1))) (wantF rfl kr) rfl (fun hg42 => ?_) ?_
   ·have qhg42 := hg42; try simp only [zA] at qhg42
    refine Ys.at (t := 55) (v0 := iV .u8 (irem c.hm0 2)) (lz (g := !(((irem c.lm0 2) == 1) || ((irem c.wm0 2) == 1))) (u := undef) hg42 kr) ?_
    exact Ys.pure (fun _ => kr)
   refine Wl.ys (v := bV ((((irem c.lm0 2) == 1) || ((irem c.wm0 2) == 1)) || ((irem c.hm0 2) == 1))) rfl rfl (Ys.or' (e := ((irem c.lm0 2) == 1) || ((irem c.wm0 2) == 1)) (b := (irem c.hm0 2) == 1) rfl kr kr kr) ?_
   refine Wl.nil ?_
   refine hK32 _ _ ?_
   refine W.cond ((((irem c.lm0 2) == 1) || ((irem c.wm0 2) == 1)) || ((irem c.hm0 2) == 1)) kr (fun h43 => ?_) (fun h44 => ?_)
   ·have qh43 := h43; try simp only [zA] at qh43
    refine W.seq (fun K45 hK45 => ?_)
    refine W.region ?_
    refine Wl.ys (v := iV .i64 40) rfl rfl (Ys.pure (fun _ => kr)) ?_
    refine Wl.nil ?_
    refine hK45 _ _ ?_
    refine W.ret ?_
    show ∀ w_, _ → bodyPost Try.prog Try.f10 _ Exit.ret _ w_
    exact fun w_ hS_ => ret1 rfl (RV.tmp (v := iV .i64 40) kr) hS_ ⟨by clear hK1 hK2 hK3 hK16 hK17 hK31 hK32 hK45; refine congrArg Ending.returned ?_; exact int_congr (chk_bad (hb3 h43)), hS_.below⟩
   ·have qh44 := h44; try simp only [zA] at qh44
    refine W.skip' ?_
    refine hK31 _ _ ?_
    refine W.seq (fun K46 hK46 => ?_)
    refine W.seq (fun K47 hK47 => ?_)
    refine W.region ?_
    refine Wl.ys (v := pV p1 21) rfl rfl (Ys.pure (fun _ => kr)) ?_
    refine Wl.ys (v := iV .i64 c.ms) rfl rfl (Ys.load (b := p1) (o' := 21) (i := 0) (cs := (cfL c)) (v := iV .i64 c.ms) rfl kr Try.isAgg3 rfl rfl) ?_
    refine Wl.ys (v := bV (decide (c.ms < 1))) rfl rfl (Ys.pure (fun _ => kr)) ?_
    refine Wl.ys (v := bV (decide (c.ms < 1))) rfl rfl (Ys.pure (fun _ => kr)) ?_
    refine Wl.guard (v := pV p1 21) (!(decide (c.ms < 1))) (wantF rfl kr) rfl (fun hg48 => ?_) ?_
    ·have qhg48 := hg48; try simp only [zA] at qhg48
     exact Ys.pure (fun _ => kr)
    refine Wl.guard (v := iV .i64 c.ms) (!(decide (c.ms < 1))) (wantF rfl kr) rfl (fun hg49 => ?_) ?_
    ·have qhg49 := hg49; try simp only [zA] at qhg49
     refine Ys.at (t := 62) (v0 := pV p1 21) (lz (g := !(decide (c.ms < 1))) (u := undef) hg49 kr) ?_
     exact Ys.load (b := p1) (o' := 21) (i := 0) (cs := (cfL c)) (v := iV .i64 c.ms) rfl kr Try.isAgg3 rfl rfl
    refine Wl.guard (v := bV (decide (c.ms > 4096))) (!(decide (c.ms < 1))) (wantF rfl kr) rfl (fun hg50 => ?_) ?_
    ·have qhg50 := hg50; try simp only [zA] at qhg50
     refine Ys.at (t := 63) (v0 := iV .i64 c.ms) (lz (g := !(decide (c.ms < 1))) (u := undef) hg50 kr) ?_
     exact Ys.pure (fun _ => kr)
    refine Wl.ys (v := bV (j1 c)) rfl rfl (Ys.or' (e := decide (c.ms < 1)) (b := decide (c.ms > 4096)) rfl kr kr kr) ?_
    refine Wl.ys (v := bV (j1 c)) rfl rfl (Ys.pure (fun _ => kr)) ?_
    refine Wl.guard (v := pV p1 22) (!(j1 c)) (wantF rfl kr) rfl (fun hg51 => ?_) ?_
    ·have qhg51 := hg51; try simp only [zA] at qhg51
     exact Ys.pure (fun _ => kr)
    refine Wl.guard (v := iV .i64 c.mm) (!(j1 c)) (wantF rfl kr) rfl (fun hg52 => ?_) ?_
    ·have qhg52 := hg52; try simp only [zA] at qhg52
     refine Ys.at (t := 67) (v0 := pV p1 22) (lz (g := !(j1 c)) (u := undef) hg52 kr) ?_
     exact Ys.load (b := p1) (o' := 22) (i := 0) (cs := (cfL c)) (v := iV .i64 c.mm) rfl kr Try.isAgg3 rfl rfl
    refine Wl.guard (v := bV (decide (c.mm < 1))) (!(j1 c)) (wantF rfl kr) rfl (fun hg53 => ?_) ?_
    ·have qhg53 := hg53; try simp only [zA] at qhg53
     refine Ys.at (t := 68) (v0 := iV .i64 c.mm) (lz (g := !(j1 c)) (u := undef) hg53 kr) ?_
     exact Ys.pure (fun _ => kr)
    refine Wl.ys (v := bV (j2 c)) rfl rfl (Ys.or' (e := (decide (c.ms < 1)) || (decide (c.ms > 4096))) (b := decide (c.mm < 1)) rfl kr kr kr) ?_
    refine Wl.ys (v := bV (j2 c)) rfl rfl (Ys.pure (fun _ => kr)) ?_
    refine Wl.guard (v := pV p1 22) (!(j2 c)) (wantF rfl kr) rfl (fun hg54 => ?_) ?_
    ·have qhg54 := hg54; try simp only [zA] at qhg54
     exact Ys.pure (fun _ => kr)
    refine Wl.guard (v := iV .i64 c.mm) (!(j2 c)) (wantF rfl kr) rfl (fun hg55 => ?_) ?_
    ·have qhg55 := hg55; try simp only [zA] at qhg55
     refine Ys.at (t := 72) (v0 := pV p1 22) (lz (g := !(j2 c)) (u := undef) hg55 kr) ?_
     exact Ys.load (b := p1) (o' := 22) (i := 0) (cs := (cfL c)) (v := iV .i64 c.mm) rfl kr Try.isAgg3 rfl rfl
    refine Wl.guard (v := bV (decide (c.mm > 256))) (!(j2 c)) (wantF rfl kr) rfl (fun hg56 => ?_) ?_
    ·have qhg56 := hg56; try simp only [zA] at qhg56
     refine Ys.at (t := 73) (v0 := iV .i64 c.mm) (lz (g := !(j2 c)) (u := undef) hg56 kr) ?_
     exact Ys.pure (fun _ => kr)
    refine Wl.ys (v := bV (j3 c)) rfl rfl (Ys.or' (e := (j1 c) || (decide (c.mm < 1))) (b := decide (c.mm > 256)) rfl kr kr kr) ?_
    refine Wl.ys (v := bV (j3 c)) rfl rfl (Ys.pure (fun _ => kr)) ?_
    refine Wl.guard (v := pV p1 23) (!(j3 c)) (wantF rfl kr) rfl (fun hg57 => ?_) ?_
    ·have qhg57 := hg57; try simp only [zA] at qhg57
     exact Ys.pure (fun _ => kr)
    refine Wl.guard (v := iV .i64 c.mc) (!(j3 c)) (wantF rfl kr) rfl (fun hg58 => ?_) ?_
    ·have qhg58 := hg58; try simp only [zA] at qhg58
     refine Ys.at (t := 77) (v0 := pV p1 23) (lz (g := !(j3 c)) (u := undef) hg58 kr) ?_
     exact Ys.load (b := p1) (o' := 23) (i := 0) (cs := (cfL c)) (v := iV .i64 c.mc) rfl kr Try.isAgg3 rfl rfl
    refine Wl.guard (v := bV (decide (c.mc < 1))) (!(j3 c)) (wantF rfl kr) rfl (fun hg59 => ?_) ?_
    ·have qhg59 := hg59; try simp only [zA] at qhg59
     refine Ys.at (t := 78) (v0 := iV .i64 c.mc) (lz (g := !(j3 c)) (u := undef) hg59 kr) ?_
     exact Ys.pure (fun _ => kr)
    refine Wl.ys (v := bV (j4 c)) rfl rfl (Ys.or' (e := (j2 c) || (decide (c.mm > 256))) (b := decide (c.mc < 1)) rfl kr kr kr) ?_
    refine Wl.ys (v := bV (j4 c)) rfl rfl (Ys.pure (fun _ => kr)) ?_
    refine Wl.guard (v := pV p1 23) (!(j4 c)) (wantF rfl kr) rfl (fun hg60 => ?_) ?_
    ·have qhg60 := hg60; try simp only [zA] at qhg60
     exact Ys.pure (fun _ => kr)
    refine Wl.guard (v := iV .i64 c.mc) (!(j4 c)) (wantF rfl kr) rfl (fun hg61 => ?_) ?_
    ·have qhg61 := hg61; try simp only [zA] at qhg61
     refine Ys.at (t := 82) (v0 := pV p1 23) (lz (g := !(j4 c)) (u := undef) hg61 kr) ?_
     exact Ys.load (b := p1) (o' := 23) (i := 0) (cs := (cfL c)) (v := iV .i64 c.mc) rfl kr Try.isAgg3 rfl rfl
    refine Wl.guard (v := bV (decide (c.mc > 32))) (!(j4 c)) (wantF rfl kr) rfl (fun hg62 => ?_) ?_
    ·have qhg62 := hg62; try simp only [zA] at qhg62
     refine Ys.at (t := 83) (v0 := iV .i64 c.mc) (lz (g := !(j4 c)) (u := undef) hg62 kr) ?_
     exact Ys.pure (fun _ => kr)
    refine Wl.ys (v := bV (j5 c)) rfl rfl (Ys.or' (e := (j3 c) || (decide (c.mc < 1))) (b := decide (c.mc > 32)) rfl kr kr kr) ?_
    refine Wl.ys (v := bV (j5 c)) rfl rfl (Ys.pure (fun _ => kr)) ?_
    refine Wl.guard (v := pV p1 24) (!(j5 c)) (wantF rfl kr) rfl (fun hg63 => ?_) ?_
    ·have qhg63 := hg63; try simp only [zA] at qhg63
     exact Ys.pure (fun _ => kr)
    refine Wl.guard (v := iV .i64 c.mu) (!(j5 c)) (wantF rfl kr) rfl (fun hg64 => ?_) ?_
    ·have qhg64 := hg64; try simp only [zA] at qhg64
     refine Ys.at (t := 87) (v0 := pV p1 24) (lz (g := !(j5 c)) (u := undef) hg64 kr) ?_
     exact Ys.load (b := p1) (o' := 24) (i := 0) (cs := (cfL c)) (v := iV .i64 c.mu) rfl kr Try.isAgg3 rfl rfl
    refine Wl.guard (v := bV (decide (c.mu < 1))) (!(j5 c)) (wantF rfl kr) rfl (fun hg65 => ?_) ?_
    ·have qhg65 := hg65; try simp only [zA] at qhg65
     refine Ys.at (t := 88) (v0 := iV .i64 c.mu) (lz (g := !(j5 c)) (u := undef) hg65 kr) ?_
     exact Ys.pure (fun _ => kr)
    refine Wl.ys (v := bV (j6 c)) rfl rfl (Ys.or' (e := (j4 c) || (decide (c.mc > 32))) (b := decide (c.mu < 1)) rfl kr kr kr) ?_
    refine Wl.ys (v := bV (j6 c)) rfl rfl (Ys.pure (fun _ => kr)) ?_
    refine Wl.guard (v := pV p1 24) (!(j6 c)) (wantF rfl kr) rfl (fun hg66 => ?_) ?_
    ·have qhg66 := hg66; try simp only [zA] at qhg66
     exact Ys.pure (fun _ => kr)
    refine Wl.guard (v := iV .i64 c.mu) (!(j6 c)) (wantF rfl kr) rfl (fun hg67 => ?_) ?_
    ·have qhg67 := hg67; try simp only [zA] at qhg67
     refine Ys.at (t := 92) (v0 := pV p1 24) (lz (g := !(j6 c)) (u := undef) hg67 kr) ?_
     exact Ys.load (b := p1) (o' := 24) (i := 0) (cs := (cfL c)) (v := iV .i64 c.mu) rfl kr Try.isAgg3 rfl rfl
    refine Wl.guard (v := bV (decide (c.mu > 16))) (!(j6 c)) (wantF rfl kr) rfl (fun hg68 => ?_) ?_
    ·have qhg68 := hg68; try simp only [zA] at qhg68
     refine Ys.at (t := 93) (v0 := iV .i64 c.mu) (lz (g := !(j6 c)) (u := undef) hg68 kr) ?_
     exact Ys.pure (fun _ => kr)
    refine Wl.ys (v := bV ((j6 c) || (decide (c.mu > 16)))) rfl rfl (Ys.or' (e := (j5 c) || (decide (c.mu < 1))) (b := decide (c.mu > 16)) rfl kr kr kr) ?_
    refine Wl.nil ?_
    refine hK47 _ _ ?_
    refine W.cond ((j6 c) || (decide (c.mu > 16))) kr (fun h69 => ?_) (fun h70 => ?_)
    ·have qh69 := h69; try simp only [zA] at qh69
     refine W.seq (fun K71 hK71 => ?_)
     refine W.region ?_
     refine Wl.ys (v := iV .i64 40) rfl rfl (Ys.pure (fun _ => kr)) ?_
     refine Wl.nil ?_
     refine hK71 _ _ ?_
     refine W.ret ?_
     show ∀ w_, _ → bodyPost Try.prog Try.f10 _ Exit.ret _ w_
     exact fun w_ hS_ => ret1 rfl (RV.tmp (v := iV .i64 40) kr) hS_ ⟨by clear hK1 hK2 hK3 hK16 hK17 hK31 hK32 hK46 hK47 hK71; refine congrArg Ending.returned ?_; exact int_congr (chk_bad (hb4 h69)), hS_.below⟩
    ·have qh70 := h70; try simp only [zA] at qh70
     refine W.skip' ?_
     refine hK46 _ _ ?_
     refine W.seq (fun K72 hK72 => ?_)
     refine W.seq (fun K73 hK73 => ?_)
     refine W.region ?_
     refine Wl.ys (v := pV p1 25) rfl rfl (Ys.pure (fun _ => kr)) ?_
     refine Wl.ys (v := Value.slice c.fa c.fl c.fc) rfl rfl (Ys.load (b := p1) (o' := 25) (i := 0) (cs := (cfL c)) (v := Value.slice c.fa c.fl c.fc) rfl kr Try.isAgg26 rfl rfl) ?_
     refine Wl.ys (v := iV .i64 ((c.fl : Nat) : Int)) rfl rfl (Ys.pure (fun _ => kr)) ?_
     refine Wl.ys (v := bV (j7 c)) rfl rfl (Ys.pure (fun _ => kr)) ?_
     refine Wl.ys (v := bV (j7 c)) rfl rfl (Ys.pure (fun _ => kr)) ?_
     refine Wl.guard (v := pV p1 26) (!(j7 c)) (wantF rfl kr) rfl (fun hg74 => ?_) ?_
     ·have qhg74 := hg74; try simp only [zA] at qhg74
      exact Ys.pure (fun _ => kr)
     refine Wl.guard (v := iV .u32 c.dmz) (!(j7 c)) (wantF rfl kr) rfl (fun hg75 => ?_) ?_
     ·have qhg75 := hg75; try simp only [zA] at qhg75
      refine Ys.at (t := 101) (v0 := pV p1 26) (lz (g := !(j7 c)) (u := undef) hg75 kr) ?_
      exact Ys.load (b := p1) (o' := 26) (i := 0) (cs := (cfL c)) (v := iV .u32 c.dmz) rfl kr Try.isAgg25 rfl rfl
     refine Wl.guard (v := bV (c.dmz != 0)) (!(j7 c)) (wantF rfl kr) rfl (fun hg76 => ?_) ?_
     ·have qhg76 := hg76; try simp only [zA] at qhg76
      refine Ys.at (t := 102) (v0 := iV .u32 c.dmz) (lz (g := !(j7 c)) (u := undef) hg76 kr) ?_
      exact Ys.pure (fun _ => kr)
     refine Wl.guard (v := bV (c.dmz != 0)) (!(j7 c)) (wantF rfl kr) rfl (fun hg77 => ?_) ?_
     ·have qhg77 := hg77; try simp only [zA] at qhg77
      refine Ys.at (t := 103) (v0 := bV (c.dmz != 0)) (lz (g := !(j7 c)) (u := undef) hg77 kr) ?_
      exact Ys.pure (fun _ => kr)
     refine Wl.guard (v := Value.agg (cfL c).toArray) ((!(j7 c)) && (c.dmz != 0)) (wantTz rfl rfl kr) rfl (fun hg78 => ?_) ?_
     ·have qhg78 := hg78; try simp only [zA] at qhg78
      exact Ys.loadN (b := p1) (o' := 0) (i := 0) (cs := (cfL c)) (vs := (cfL c)) rfl kr Try.isAgg28 Try.sizeOf28 rfl rfl rfl
     refine Wl.guard (v := pV p1 26) ((!(j7 c)) && (c.dmz != 0)) (wantTz rfl rfl kr) rfl (fun hg79 => ?_) ?_
     ·have qhg79 := hg79; try simp only [zA] at qhg79
      exact Ys.pure (fun _ => kr)
     refine Wl.guard (v := iV .u32 c.dmz) ((!(j7 c)) && (c.dmz != 0)) (wantTz rfl rfl kr) rfl (fun hg80 => ?_) ?_
     ·have qhg80 := hg80; try simp only [zA] at qhg80
      refine Ys.at (t := 106) (v0 := pV p1 26) (lz (g := (!(j7 c)) && (c.dmz != 0)) (u := undef) hg80 kr) ?_
      exact Ys.load (b := p1) (o' := 26) (i := 0) (cs := (cfL c)) (v := iV .u32 c.dmz) rfl kr Try.isAgg25 rfl rfl
     refine Wl.guard (v := bV (host c c.dmz)) ((!(j7 c)) && (c.dmz != 0)) (wantTz rfl rfl kr) rfl (fun hg81 => ?_) ?_
     ·have qhg81 := hg81; try simp only [zA] at qhg81
      refine Ys.at (t := 105) (v0 := Value.agg (cfL c).toArray) (lz (g := (!(j7 c)) && (c.dmz != 0)) (u := undef) hg81 kr) ?_
      refine Ys.at (t := 107) (v0 := iV .u32 c.dmz) (lz (g := (!(j7 c)) && (c.dmz != 0)) (u := undef) hg81 kr) ?_
      exact Ys.call (k := 14) (args := #[Value.agg (cfL c).toArray, iV .u32 c.dmz]) (fun _ => kr) (fun _ hSc => host2_c c c.dmz _ (by first | assumption | omega | decide | exact ha _ om) (by first | assumption | omega | decide | exact ha _ om))
     refine Wl.guard (v := bV (!(host c c.dmz))) ((!(j7 c)) && (c.dmz != 0)) (wantTz rfl rfl kr) rfl (fun hg82 => ?_) ?_
     ·have qhg82 := hg82; try simp only [zA] at qhg82
      refine Ys.at (t := 108) (v0 := bV (host c c.dmz)) (lz (g := (!(j7 c)) && (c.dmz != 0)) (u := undef) hg82 kr) ?_
      exact Ys.pure (fun _ => kr)
     refine Wl.guard (v := bV ((c.dmz != 0) && (!(host c c.dmz)))) (!(j7 c)) (wantF rfl kr) rfl (fun hg83 => ?_) ?_
     ·have qhg83 := hg83; try simp only [zA] at qhg83
      refine Ys.at (t := 104) (v0 := bV (c.dmz != 0)) (lz (g := !(j7 c)) (u := undef) hg83 kr) ?_
      refine Ys.at (t := 109) (v0 := (bif c.dmz != 0 then bV (!(host c c.dmz)) else undef)) (lz2 (g := !(j7 c)) hg83 kr) ?_
      exact Ys.and (e := c.dmz != 0) (b := !(host c c.dmz)) rfl kr kr kr
     refine Wl.ys (v := bV ((j7 c) || ((c.dmz != 0) && (!(host c c.dmz))))) rfl rfl (Ys.or' (e := decide (((c.fl : Nat) : Int) > 32)) (b := (c.dmz != 0) && (!(host c c.dmz))) rfl kr kr kr) ?_
     refine Wl.ys (v := bV ((j7 c) || ((c.dmz != 0) && (!(host c c.dmz))))) rfl rfl (Ys.pure (fun _ => kr)) ?_
     refine Wl.guard (v := pV p1 27) (!((j7 c) || ((c.dmz != 0) && (!(host c c.dmz))))) (wantF rfl kr) rfl (fun hg84 => ?_) ?_
     ·have qhg84 := hg84; try simp only [zA] at qhg84
      exact Ys.pure (fun _ => kr)
     refine Wl.guard (v := Value.string c.uu) (!((j7 c) || ((c.dmz != 0) && (!(host c c.dmz))))) (wantF rfl kr) rfl (fun hg85 => ?_) ?_
     ·have qhg85 := hg85; try simp only [zA] at qhg85
      refine Ys.at (t := 113) (v0 := pV p1 27) (lz (g := !((j7 c) || ((c.dmz != 0) && (!(host c c.dmz))))) (u := undef) hg85 kr) ?_
      exact Ys.load (b := p1) (o' := 27) (i := 0) (cs := (cfL c)) (v := Value.string c.uu) rfl kr Try.isAgg9 rfl rfl
     refine Wl.guard (v := bV (uuid c.uu)) (!((j7 c) || ((c.dmz != 0) && (!(host c c.dmz))))) (wantF rfl kr) rfl (fun hg86 => ?_) ?_
     ·have qhg86 := hg86; try simp only [zA] at qhg86
      refine Ys.at (t := 114) (v0 := Value.string c.uu) (lz (g := !((j7 c) || ((c.dmz != 0) && (!(host c c.dmz))))) (u := undef) hg86 kr) ?_
      exact Ys.call (k := 35) (args := #[Value.string c.uu]) (fun _ => kr) (fun _ hSc => uuid2_c c.uu _ )
     refine Wl.guard (v := bV (!(uuid c.uu))) (!((j7 c) || ((c.dmz != 0) && (!(host c c.dmz))))) (wantF rfl kr) rfl (fun hg87 => ?_) ?_
     ·have qhg87 := hg87; try simp only [zA] at qhg87
      refine Ys.at (t := 115) (v0 := bV (uuid c.uu)) (lz (g := !((j7 c) || ((c.dmz != 0) && (!(host c c.dmz))))) (u := undef) hg87 kr) ?_
      exact Ys.pure (fun _ => kr)
     refine Wl.ys (v := bV (((j7 c) || ((c.dmz != 0) && (!(host c c.dmz)))) || (!(uuid c.uu)))) rfl rfl (Ys.or' (e := (j7 c) || ((c.dmz != 0) && (!(host c c.dmz)))) (b := !(uuid c.uu)) rfl kr kr kr) ?_
     refine Wl.nil ?_
     refine hK73 _ _ ?_
     refine W.cond (((j7 c) || ((c.dmz != 0) && (!(host c c.dmz)))) || (!(uuid c.uu))) kr (fun h88 => ?_) (fun h89 => ?_)
     ·have qh88 := h88; try simp only [zA] at qh88
      refine W.seq (fun K90 hK90 => ?_)
      refine W.region ?_
      refine Wl.ys (v := iV .i64 40) rfl rfl (Ys.pure (fun _ => kr)) ?_
      refine Wl.nil ?_
      refine hK90 _ _ ?_
      refine W.ret ?_
      show ∀ w_, _ → bodyPost Try.prog Try.f10 _ Exit.ret _ w_
      exact fun w_ hS_ => ret1 rfl (RV.tmp (v := iV .i64 40) kr) hS_ ⟨by clear hK1 hK2 hK3 hK16 hK17 hK31 hK32 hK46 hK47 hK72 hK73 hK90; refine congrArg Ending.returned ?_; exact int_congr (chk_bad (hb5 h88)), hS_.below⟩
     ·have qh89 := h89; try simp only [zA] at qh89
      refine W.skip' ?_
      refine hK72 _ _ ?_
      refine W.seq (fun K91 hK91 => ?_)
      refine W.seq (fun K92 hK92 => ?_)
      refine W.region ?_
      refine Wl.ys (v := iV .i64 0) rfl rfl (Ys.pure (fun _ => kr)) ?_
      refine Wl.nil ?_
      refine hK92 _ _ ?_
      refine W.block ?_
      refine W.loop (γ := Nat) (fun g_ => [(0, Value.agg (cfL c).toArray), (1, pV p1 0), (6, pV p1 20), (7, iV .i64 c.bits), (8, bV (decide (c.bits < 8))), (9, bV (decide (c.bits < 8))), (10, (bif !(decide (c.bits < 8)) then pV p1 20 else undef)), (11, (bif !(decide (c.bits < 8)) then iV .i64 c.bits else undef)), (12, (bif !(decide (c.bits < 8)) then bV (decide (c.bits > 30)) else undef)), (13, bV ((decide (c.bits < 8)) || (decide (c.bits > 30)))), (14, bV ((decide (c.bits < 8)) || (decide (c.bits > 30)))), (15, (bif !((decide (c.bits < 8)) || (decide (c.bits > 30))) then pV p1 18 else undef)), (16, (bif !((decide (c.bits < 8)) || (decide (c.bits > 30))) then iV .u32 c.lan else undef)), (17, (bif !((decide (c.bits < 8)) || (decide (c.bits > 30))) then pV p1 20 else undef)), (18, (bif !((decide (c.bits < 8)) || (decide (c.bits > 30))) then iV .i64 c.bits else undef)), (19, (bif !((decide (c.bits < 8)) || (decide (c.bits > 30))) then bV (inner c.lan c.bits) else undef)), (20, (bif !((decide (c.bits < 8)) || (decide (c.bits > 30))) then bV (!(inner c.lan c.bits)) else undef)), (21, bV (((decide (c.bits < 8)) || (decide (c.bits > 30))) || (!(inner c.lan c.bits)))), (22, pV p1 19), (23, iV .u32 c.wan), (24, bV (c.wan == 0)), (25, bV (c.wan == 0)), (26, (bif !(c.wan == 0) then pV p1 19 else undef)), (27, (bif !(c.wan == 0) then iV .u32 c.wan else undef)), (28, (bif !(c.wan == 0) then bV (c.wan == 4294967295) else undef)), (29, bV ((c.wan == 0) || (c.wan == 4294967295))), (30, bV ((c.wan == 0) || (c.wan == 4294967295))), (31, (bif !((c.wan == 0) || (c.wan == 4294967295)) then pV p1 19 else undef)), (32, (bif !((c.wan == 0) || (c.wan == 4294967295)) then iV .u32 c.wan else undef)), (33, (bif !((c.wan == 0) || (c.wan == 4294967295)) then pV p1 18 else undef)), (34, (bif !((c.wan == 0) || (c.wan == 4294967295)) then iV .u32 c.lan else undef)), (35, (bif !((c.wan == 0) || (c.wan == 4294967295)) then pV p1 20 else undef)), (36, (bif !((c.wan == 0) || (c.wan == 4294967295)) then iV .i64 c.bits else undef)), (37, (bif !((c.wan == 0) || (c.wan == 4294967295)) then bV (within c.wan c.lan c.bits) else undef)), (38, bV (((c.wan == 0) || (c.wan == 4294967295)) || (within c.wan c.lan c.bits))), (39, pV p1 0), (40, pV p1 0), (41, iV .u8 c.lm0), (42, iV .u8 (irem c.lm0 2)), (43, bV ((irem c.lm0 2) == 1)), (44, bV ((irem c.lm0 2) == 1)), (45, (bif !((irem c.lm0 2) == 1) then pV p1 6 else undef)), (46, (bif !((irem c.lm0 2) == 1) then pV p1 6 else undef)), (47, (bif !((irem c.lm0 2) == 1) then iV .u8 c.wm0 else undef)), (48, (bif !((irem c.lm0 2) == 1) then iV .u8 (irem c.wm0 2) else undef)), (49, (bif !((irem c.lm0 2) == 1) then bV ((irem c.wm0 2) == 1) else undef)), (50, bV (((irem c.lm0 2) == 1) || ((irem c.wm0 2) == 1))), (51, bV (((irem c.lm0 2) == 1) || ((irem c.wm0 2) == 1))), (52, (bif !(((irem c.lm0 2) == 1) || ((irem c.wm0 2) == 1)) then pV p1 12 else undef)), (53, (bif !(((irem c.lm0 2) == 1) || ((irem c.wm0 2) == 1)) then pV p1 12 else undef)), (54, (bif !(((irem c.lm0 2) == 1) || ((irem c.wm0 2) == 1)) then iV .u8 c.hm0 else undef)), (55, (bif !(((irem c.lm0 2) == 1) || ((irem c.wm0 2) == 1)) then iV .u8 (irem c.hm0 2) else undef)), (56, (bif !(((irem c.lm0 2) == 1) || ((irem c.wm0 2) == 1)) then bV ((irem c.hm0 2) == 1) else undef)), (57, bV ((((irem c.lm0 2) == 1) || ((irem c.wm0 2) == 1)) || ((irem c.hm0 2) == 1))), (58, pV p1 21), (59, iV .i64 c.ms), (60, bV (decide (c.ms < 1))), (61, bV (decide (c.ms < 1))), (62, (bif !(decide (c.ms < 1)) then pV p1 21 else undef)), (63, (bif !(decide (c.ms < 1)) then iV .i64 c.ms else undef)), (64, (bif !(decide (c.ms < 1)) then bV (decide (c.ms > 4096)) else undef)), (65, bV (j1 c)), (66, bV (j1 c)), (67, (bif !(j1 c) then pV p1 22 else undef)), (68, (bif !(j1 c) then iV .i64 c.mm else undef)), (69, (bif !(j1 c) then bV (decide (c.mm < 1)) else undef)), (70, bV (j2 c)), (71, bV (j2 c)), (72, (bif !(j2 c) then pV p1 22 else undef)), (73, (bif !(j2 c) then iV .i64 c.mm else undef)), (74, (bif !(j2 c) then bV (decide (c.mm > 256)) else undef)), (75, bV (j3 c)), (76, bV (j3 c)), (77, (bif !(j3 c) then pV p1 23 else undef)), (78, (bif !(j3 c) then iV .i64 c.mc else undef)), (79, (bif !(j3 c) then bV (decide (c.mc < 1)) else undef)), (80, bV (j4 c)), (81, bV (j4 c)), (82, (bif !(j4 c) then pV p1 23 else undef)), (83, (bif !(j4 c) then iV .i64 c.mc else undef)), (84, (bif !(j4 c) then bV (decide (c.mc > 32)) else undef)), (85, bV (j5 c)), (86, bV (j5 c)), (87, (bif !(j5 c) then pV p1 24 else undef)), (88, (bif !(j5 c) then iV .i64 c.mu else undef)), (89, (bif !(j5 c) then bV (decide (c.mu < 1)) else undef)), (90, bV (j6 c)), (91, bV (j6 c)), (92, (bif !(j6 c) then pV p1 24 else undef)), (93, (bif !(j6 c) then iV .i64 c.mu else undef)), (94, (bif !(j6 c) then bV (decide (c.mu > 16)) else undef)), (95, bV ((j6 c) || (decide (c.mu > 16)))), (96, pV p1 25), (97, Value.slice c.fa c.fl c.fc), (98, iV .i64 ((c.fl : Nat) : Int)), (99, bV (j7 c)), (100, bV (j7 c)), (101, (bif !(j7 c) then pV p1 26 else undef)), (102, (bif !(j7 c) then iV .u32 c.dmz else undef)), (103, (bif !(j7 c) then bV (c.dmz != 0) else undef)), (104, (bif !(j7 c) then bV (c.dmz != 0) else undef)), (105, (bif (!(j7 c)) && (c.dmz != 0) then Value.agg (cfL c).toArray else undef)), (106, (bif (!(j7 c)) && (c.dmz != 0) then pV p1 26 else undef)), (107, (bif (!(j7 c)) && (c.dmz != 0) then iV .u32 c.dmz else undef)), (108, (bif (!(j7 c)) && (c.dmz != 0) then bV (host c c.dmz) else undef)), (109, (bif (!(j7 c)) && (c.dmz != 0) then bV (!(host c c.dmz)) else undef)), (110, (bif !(j7 c) then bV ((c.dmz != 0) && (!(host c c.dmz))) else undef)), (111, bV ((j7 c) || ((c.dmz != 0) && (!(host c c.dmz))))), (112, bV ((j7 c) || ((c.dmz != 0) && (!(host c c.dmz))))), (113, (bif !((j7 c) || ((c.dmz != 0) && (!(host c c.dmz)))) then pV p1 27 else undef)), (114, (bif !((j7 c) || ((c.dmz != 0) && (!(host c c.dmz)))) then Value.string c.uu else undef)), (115, (bif !((j7 c) || ((c.dmz != 0) && (!(host c c.dmz)))) then bV (uuid c.uu) else undef)), (116, (bif !((j7 c) || ((c.dmz != 0) && (!(host c c.dmz)))) then bV (!(uuid c.uu)) else undef)), (117, bV (((j7 c) || ((c.dmz != 0) && (!(host c c.dmz)))) || (!(uuid c.uu)))), (3, iV .i64 ((g_ : Nat) : Int))]) (fun g_ w_ => Mem w [] [cb p1 (cfL c) 28] w_ ∧ g_ ≤ c.fl ∧ (∀ j : Nat, j < g_ → fok c F j = true)) (fun g_ => c.fl - g_) (0) ?_ ?_ (fun g_ f94 J93 hJ93 => ?_)
      ·refine ⟨rfl, rfl, rfl, rfl, rfl, rfl, rfl, rfl, rfl, rfl, rfl, rfl, rfl, rfl, rfl, rfl, rfl, rfl, rfl, rfl, rfl, rfl, rfl, rfl, rfl, rfl, rfl, rfl, rfl, rfl, rfl, rfl, rfl, rfl, rfl, rfl, rfl, rfl, rfl, rfl, rfl, rfl, rfl, rfl, rfl, rfl, rfl, rfl, rfl, rfl, rfl, rfl, rfl, rfl, rfl, rfl, rfl, rfl, rfl, rfl, rfl, rfl, rfl, rfl, rfl, rfl, rfl, rfl, rfl, rfl, rfl, rfl, rfl, rfl, rfl, rfl, rfl, rfl, rfl, rfl, rfl, rfl, rfl, rfl, rfl, rfl, rfl, rfl, rfl, rfl, rfl, rfl, rfl, rfl, rfl, rfl, rfl, rfl, rfl, rfl, rfl, rfl, rfl, rfl, rfl, rfl, rfl, rfl, rfl, rfl, rfl, rfl, rfl, rfl, (by first | rfl | exact int_congr om | simp), trivial⟩
      ·exact fun w_ hS_ => ⟨hS_, ⟨Nat.zero_le _, fun j hj => absurd hj (Nat.not_lt_zero _)⟩⟩
      obtain ⟨k, hgg_⟩ : ∃ x, x = g_ := ⟨_, rfl⟩; subst hgg_
      refine W.castS (f' := upds [(0, Value.agg (cfL c).toArray), (1, pV p1 0), (6, pV p1 20), (7, iV .i64 c.bits), (8, bV (decide (c.bits < 8))), (9, bV (decide (c.bits < 8))), (10, (bif !(decide (c.bits < 8)) then pV p1 20 else undef)), (11, (bif !(decide (c.bits < 8)) then iV .i64 c.bits else undef)), (12, (bif !(decide (c.bits < 8)) then bV (decide (c.bits > 30)) else undef)), (13, bV ((decide (c.bits < 8)) || (decide (c.bits > 30)))), (14, bV ((decide (c.bits < 8)) || (decide (c.bits > 30)))), (15, (bif !((decide (c.bits < 8)) || (decide (c.bits > 30))) then pV p1 18 else undef)), (16, (bif !((decide (c.bits < 8)) || (decide (c.bits > 30))) then iV .u32 c.lan else undef)), (17, (bif !((decide (c.bits < 8)) || (decide (c.bits > 30))) then pV p1 20 else undef)), (18, (bif !((decide (c.bits < 8)) || (decide (c.bits > 30))) then iV .i64 c.bits else undef)), (19, (bif !((decide (c.bits < 8)) || (decide (c.bits > 30))) then bV (inner c.lan c.bits) else undef)), (20, (bif !((decide (c.bits < 8)) || (decide (c.bits > 30))) then bV (!(inner c.lan c.bits)) else undef)), (21, bV (((decide (c.bits < 8)) || (decide (c.bits > 30))) || (!(inner c.lan c.bits)))), (22, pV p1 19), (23, iV .u32 c.wan), (24, bV (c.wan == 0)), (25, bV (c.wan == 0)), (26, (bif !(c.wan == 0) then pV p1 19 else undef)), (27, (bif !(c.wan == 0) then iV .u32 c.wan else undef)), (28, (bif !(c.wan == 0) then bV (c.wan == 4294967295) else undef)), (29, bV ((c.wan == 0) || (c.wan == 4294967295))), (30, bV ((c.wan == 0) || (c.wan == 4294967295))), (31, (bif !((c.wan == 0) || (c.wan == 4294967295)) then pV p1 19 else undef)), (32, (bif !((c.wan == 0) || (c.wan == 4294967295)) then iV .u32 c.wan else undef)), (33, (bif !((c.wan == 0) || (c.wan == 4294967295)) then pV p1 18 else undef)), (34, (bif !((c.wan == 0) || (c.wan == 4294967295)) then iV .u32 c.lan else undef)), (35, (bif !((c.wan == 0) || (c.wan == 4294967295)) then pV p1 20 else undef)), (36, (bif !((c.wan == 0) || (c.wan == 4294967295)) then iV .i64 c.bits else undef)), (37, (bif !((c.wan == 0) || (c.wan == 4294967295)) then bV (within c.wan c.lan c.bits) else undef)), (38, bV (((c.wan == 0) || (c.wan == 4294967295)) || (within c.wan c.lan c.bits))), (39, pV p1 0), (40, pV p1 0), (41, iV .u8 c.lm0), (42, iV .u8 (irem c.lm0 2)), (43, bV ((irem c.lm0 2) == 1)), (44, bV ((irem c.lm0 2) == 1)), (45, (bif !((irem c.lm0 2) == 1) then pV p1 6 else undef)), (46, (bif !((irem c.lm0 2) == 1) then pV p1 6 else undef)), (47, (bif !((irem c.lm0 2) == 1) then iV .u8 c.wm0 else undef)), (48, (bif !((irem c.lm0 2) == 1) then iV .u8 (irem c.wm0 2) else undef)), (49, (bif !((irem c.lm0 2) == 1) then bV ((irem c.wm0 2) == 1) else undef)), (50, bV (((irem c.lm0 2) == 1) || ((irem c.wm0 2) == 1))), (51, bV (((irem c.lm0 2) == 1) || ((irem c.wm0 2) == 1))), (52, (bif !(((irem c.lm0 2) == 1) || ((irem c.wm0 2) == 1)) then pV p1 12 else undef)), (53, (bif !(((irem c.lm0 2) == 1) || ((irem c.wm0 2) == 1)) then pV p1 12 else undef)), (54, (bif !(((irem c.lm0 2) == 1) || ((irem c.wm0 2) == 1)) then iV .u8 c.hm0 else undef)), (55, (bif !(((irem c.lm0 2) == 1) || ((irem c.wm0 2) == 1)) then iV .u8 (irem c.hm0 2) else undef)), (56, (bif !(((irem c.lm0 2) == 1) || ((irem c.wm0 2) == 1)) then bV ((irem c.hm0 2) == 1) else undef)), (57, bV ((((irem c.lm0 2) == 1) || ((irem c.wm0 2) == 1)) || ((irem c.hm0 2) == 1))), (58, pV p1 21), (59, iV .i64 c.ms), (60, bV (decide (c.ms < 1))), (61, bV (decide (c.ms < 1))), (62, (bif !(decide (c.ms < 1)) then pV p1 21 else undef)), (63, (bif !(decide (c.ms < 1)) then iV .i64 c.ms else undef)), (64, (bif !(decide (c.ms < 1)) then bV (decide (c.ms > 4096)) else undef)), (65, bV (j1 c)), (66, bV (j1 c)), (67, (bif !(j1 c) then pV p1 22 else undef)), (68, (bif !(j1 c) then iV .i64 c.mm else undef)), (69, (bif !(j1 c) then bV (decide (c.mm < 1)) else undef)), (70, bV (j2 c)), (71, bV (j2 c)), (72, (bif !(j2 c) then pV p1 22 else undef)), (73, (bif !(j2 c) then iV .i64 c.mm else undef)), (74, (bif !(j2 c) then bV (decide (c.mm > 256)) else undef)), (75, bV (j3 c)), (76, bV (j3 c)), (77, (bif !(j3 c) then pV p1 23 else undef)), (78, (bif !(j3 c) then iV .i64 c.mc else undef)), (79, (bif !(j3 c) then bV (decide (c.mc < 1)) else undef)), (80, bV (j4 c)), (81, bV (j4 c)), (82, (bif !(j4 c) then pV p1 23 else undef)), (83, (bif !(j4 c) then iV .i64 c.mc else undef)), (84, (bif !(j4 c) then bV (decide (c.mc > 32)) else undef)), (85, bV (j5 c)), (86, bV (j5 c)), (87, (bif !(j5 c) then pV p1 24 else undef)), (88, (bif !(j5 c) then iV .i64 c.mu else undef)), (89, (bif !(j5 c) then bV (decide (c.mu < 1)) else undef)), (90, bV (j6 c)), (91, bV (j6 c)), (92, (bif !(j6 c) then pV p1 24 else undef)), (93, (bif !(j6 c) then iV .i64 c.mu else undef)), (94, (bif !(j6 c) then bV (decide (c.mu > 16)) else undef)), (95, bV ((j6 c) || (decide (c.mu > 16)))), (96, pV p1 25), (97, Value.slice c.fa c.fl c.fc), (98, iV .i64 ((c.fl : Nat) : Int)), (99, bV (j7 c)), (100, bV (j7 c)), (101, (bif !(j7 c) then pV p1 26 else undef)), (102, (bif !(j7 c) then iV .u32 c.dmz else undef)), (103, (bif !(j7 c) then bV (c.dmz != 0) else undef)), (104, (bif !(j7 c) then bV (c.dmz != 0) else undef)), (105, (bif (!(j7 c)) && (c.dmz != 0) then Value.agg (cfL c).toArray else undef)), (106, (bif (!(j7 c)) && (c.dmz != 0) then pV p1 26 else undef)), (107, (bif (!(j7 c)) && (c.dmz != 0) then iV .u32 c.dmz else undef)), (108, (bif (!(j7 c)) && (c.dmz != 0) then bV (host c c.dmz) else undef)), (109, (bif (!(j7 c)) && (c.dmz != 0) then bV (!(host c c.dmz)) else undef)), (110, (bif !(j7 c) then bV ((c.dmz != 0) && (!(host c c.dmz))) else undef)), (111, bV ((j7 c) || ((c.dmz != 0) && (!(host c c.dmz))))), (112, bV ((j7 c) || ((c.dmz != 0) && (!(host c c.dmz))))), (113, (bif !((j7 c) || ((c.dmz != 0) && (!(host c c.dmz)))) then pV p1 27 else undef)), (114, (bif !((j7 c) || ((c.dmz != 0) && (!(host c c.dmz)))) then Value.string c.uu else undef)), (115, (bif !((j7 c) || ((c.dmz != 0) && (!(host c c.dmz)))) then bV (uuid c.uu) else undef)), (116, (bif !((j7 c) || ((c.dmz != 0) && (!(host c c.dmz)))) then bV (!(uuid c.uu)) else undef)), (117, bV (((j7 c) || ((c.dmz != 0) && (!(host c c.dmz)))) || (!(uuid c.uu)))), (3, iV .i64 ((k : Nat) : Int))] f94) (S' := fun w_ => Mem w [] [cb p1 (cfL c) 28] w_ ∧ k ≤ c.fl ∧ (∀ j : Nat, j < k → fok c F j = true)) rfl rfl ?_
      refine W.and (fun hpp => ?_)
      obtain ⟨hp95, hp96⟩ := hpp
      have kle := hp95
      have hall := hp96
      refine W.seq (fun K97 hK97 => ?_)
      refine W.seq (fun K98 hK98 => ?_)
      refine W.region ?_
      refine Wl.ys (v := iV .i64 ((k : Nat) : Int)) rfl rfl (Ys.pure (fun _ => kr)) ?_
      refine Wl.ys (v := pV p1 25) rfl rfl (Ys.pure (fun _ => kr)) ?_
      refine Wl.ys (v := Value.slice c.fa c.fl c.fc) rfl rfl (Ys.load (b := p1) (o' := 25) (i := 0) (cs := (cfL c)) (v := Value.slice c.fa c.fl c.fc) rfl kr Try.isAgg26 rfl rfl) ?_
      refine Wl.ys (v := iV .i64 ((c.fl : Nat) : Int)) rfl rfl (Ys.pure (fun _ => kr)) ?_
      refine Wl.ys (v := bV (decide (((k : Nat) : Int) < ((c.fl : Nat) : Int)))) rfl rfl (Ys.pure (fun _ => kr)) ?_
      refine Wl.nil ?_
      refine hK98 _ _ ?_
      refine W.cond (decide (((k : Nat) : Int) < ((c.fl : Nat) : Int))) kr (fun h99 => ?_) (fun h100 => ?_)
      ·have qh99 := h99; try simp only [zA] at qh99
       refine W.skip' ?_
       refine hK97 _ _ ?_
       refine W.seq (fun K101 hK101 => ?_)
       refine W.block ?_
       refine W.seq (fun K102 hK102 => ?_)
       refine W.region ?_
       refine Wl.ys (v := pV p1 25) rfl rfl (Ys.pure (fun _ => kr)) ?_
       refine Wl.ys (v := Value.slice c.fa c.fl c.fc) rfl rfl (Ys.load (b := p1) (o' := 25) (i := 0) (cs := (cfL c)) (v := Value.slice c.fa c.fl c.fc) rfl kr Try.isAgg26 rfl rfl) ?_
       refine Wl.ys (v := iV .i64 ((k : Nat) : Int)) rfl rfl (Ys.pure (fun _ => kr)) ?_
       refine Wl.ys (v := Value.pointer (some ((c.fa.getD default).add (k * 4)))) rfl rfl (Ys.indexAddr (k := .i64) (a := c.fa) (len := c.fl) (cap := c.fc) (i := ((k : Nat) : Int)) (sz := 4) rfl kr kr Try.runUnderlying26 Try.sizeOf81 (hsl.here om) om om) ?_
       refine Wl.ys (v := Value.agg ([iV .u8 ((F k).proto), iV .u16 ((F k).port), iV .u16 ((F k).dest), iV .u32 ((F k).host)]).toArray) rfl rfl (Ys.loadOldN (vs := [iV .u8 ((F k).proto), iV .u16 ((F k).port), iV .u16 ((F k).dest), iV .u32 ((F k).host)]) rfl kr Try.isAgg81 Try.sizeOf81 (adr_lt _ () (hsl.lt om)) (sp) rfl (hsl.cell k om)) ?_
       refine Wl.alloc (z := Value.agg ([iV .u8 0, iV .u16 0, iV .u16 0, iV .u32 0]).toArray) (cs := [iV .u8 0, iV .u16 0, iV .u16 0, iV .u32 0]) rfl rfl rfl Try.zeroValue81 rfl (fun p4 => ?_)
       refine Wl.storeN (b := p4) (o' := 0) (i := 0) (cs := [iV .u8 0, iV .u16 0, iV .u16 0, iV .u32 0]) (vs := [iV .u8 ((F k).proto), iV .u16 ((F k).port), iV .u16 ((F k).dest), iV .u32 ((F k).host)]) (cs' := [iV .u8 ((F k).proto), iV .u16 ((F k).port), iV .u16 ((F k).dest), iV .u32 ((F k).host)]) (L' := [cb p4 [iV .u8 ((F k).proto), iV .u16 ((F k).port), iV .u16 ((F k).dest), iV .u32 ((F k).host)] 81, cb p1 (cfL c) 28]) rfl rfl rfl kr kr Try.sizeOf81 (by simp [Value.oneCell']) rfl sp rfl rfl ?_
       refine Wl.nil ?_
       refine hK102 _ _ ?_
       refine W.seq (fun K103 hK103 => ?_)
       refine W.seq (fun K104 hK104 => ?_)
       refine W.region ?_
       refine Wl.ys (v := pV p4 0) rfl rfl (Ys.pure (fun _ => kr)) ?_
       refine Wl.ys (v := iV .u8 ((F k).proto)) rfl rfl (Ys.load (b := p4) (o' := 0) (i := 0) (cs := [iV .u8 ((F k).proto), iV .u16 ((F k).port), iV .u16 ((F k).dest), iV .u32 ((F k).host)]) (v := iV .u8 ((F k).proto)) rfl kr Try.isAgg5 rfl rfl) ?_
       refine Wl.ys (v := bV (((F k).proto) != 6)) rfl rfl (Ys.pure (fun _ => kr)) ?_
       refine Wl.ys (v := bV (((F k).proto) != 6)) rfl rfl (Ys.pure (fun _ => kr)) ?_
       refine Wl.guard (v := pV p4 0) (((F k).proto) != 6) (wantT rfl kr) rfl (fun hg105 => ?_) ?_
       ·have qhg105 := hg105; try simp only [zA] at qhg105
        exact Ys.pure (fun _ => kr)
       refine Wl.guard (v := iV .u8 ((F k).proto)) (((F k).proto) != 6) (wantT rfl kr) rfl (fun hg106 => ?_) ?_
       ·have qhg106 := hg106; try simp only [zA] at qhg106
        refine Ys.at (t := 134) (v0 := pV p4 0) (lz (g := ((F k).proto) != 6) (u := undef) hg106 kr) ?_
        exact Ys.load (b := p4) (o' := 0) (i := 0) (cs := [iV .u8 ((F k).proto), iV .u16 ((F k).port), iV .u16 ((F k).dest), iV .u32 ((F k).host)]) (v := iV .u8 ((F k).proto)) rfl kr Try.isAgg5 rfl rfl
       refine Wl.guard (v := bV (((F k).proto) != 17)) (((F k).proto) != 6) (wantT rfl kr) rfl (fun hg107 => ?_) ?_
       ·have qhg107 := hg107; try simp only [zA] at qhg107
        refine Ys.at (t := 135) (v0 := iV .u8 ((F k).proto)) (lz (g := ((F k).proto) != 6) (u := undef) hg107 kr) ?_
        exact Ys.pure (fun _ => kr)
       refine Wl.ys (v := bV (j8 F k)) rfl rfl (Ys.and (e := ((F k).proto) != 6) (b := ((F k).proto) != 17) rfl kr kr kr) ?_
       refine Wl.ys (v := bV (j8 F k)) rfl rfl (Ys.pure (fun _ => kr)) ?_
       refine Wl.guard (v := pV p4 1) (!(j8 F k)) (wantF rfl kr) rfl (fun hg108 => ?_) ?_
       ·have qhg108 := hg108; try simp only [zA] at qhg108
        exact Ys.pure (fun _ => kr)
       refine Wl.guard (v := iV .u16 ((F k).port)) (!(j8 F k)) (wantF rfl kr) rfl (fun hg109 => ?_) ?_
       ·have qhg109 := hg109; try simp only [zA] at qhg109
        refine Ys.at (t := 139) (v0 := pV p4 1) (lz (g := !(j8 F k)) (u := undef) hg109 kr) ?_
        exact Ys.load (b := p4) (o' := 1) (i := 0) (cs := [iV .u8 ((F k).proto), iV .u16 ((F k).port), iV .u16 ((F k).dest), iV .u32 ((F k).host)]) (v := iV .u16 ((F k).port)) rfl kr Try.isAgg29 rfl rfl
       refine Wl.guard (v := bV (((F k).port) == 0)) (!(j8 F k)) (wantF rfl kr) rfl (fun hg110 => ?_) ?_
       ·have qhg110 := hg110; try simp only [zA] at qhg110
        refine Ys.at (t := 140) (v0 := iV .u16 ((F k).port)) (lz (g := !(j8 F k)) (u := undef) hg110 kr) ?_
        exact Ys.pure (fun _ => kr)
       refine Wl.ys (v := bV (j9 F k)) rfl rfl (Ys.or' (e := (((F k).proto) != 6) && (((F k).proto) != 17)) (b := ((F k).port) == 0) rfl kr kr kr) ?_
       refine Wl.ys (v := bV (j9 F k)) rfl rfl (Ys.pure (fun _ => kr)) ?_
       refine Wl.guard (v := pV p4 2) (!(j9 F k)) (wantF rfl kr) rfl (fun hg111 => ?_) ?_
       ·have qhg111 := hg111; try simp only [zA] at qhg111
        exact Ys.pure (fun _ => kr)
       refine Wl.guard (v := iV .u16 ((F k).dest)) (!(j9 F k)) (wantF rfl kr) rfl (fun hg112 => ?_) ?_
       ·have qhg112 := hg112; try simp only [zA] at qhg112
        refine Ys.at (t := 144) (v0 := pV p4 2) (lz (g := !(j9 F k)) (u := undef) hg112 kr) ?_
        exact Ys.load (b := p4) (o' := 2) (i := 0) (cs := [iV .u8 ((F k).proto), iV .u16 ((F k).port), iV .u16 ((F k).dest), iV .u32 ((F k).host)]) (v := iV .u16 ((F k).dest)) rfl kr Try.isAgg29 rfl rfl
       refine Wl.guard (v := bV (((F k).dest) == 0)) (!(j9 F k)) (wantF rfl kr) rfl (fun hg113 => ?_) ?_
       ·have qhg113 := hg113; try simp only [zA] at qhg113
        refine Ys.at (t := 145) (v0 := iV .u16 ((F k).dest)) (lz (g := !(j9 F k)) (u := undef) hg113 kr) ?_
        exact Ys.pure (fun _ => kr)
       refine Wl.ys (v := bV (jA F k)) rfl rfl (Ys.or' (e := (j8 F k) || (((F k).port) == 0)) (b := ((F k).dest) == 0) rfl kr kr kr) ?_
       refine Wl.ys (v := bV (jA F k)) rfl rfl (Ys.pure (fun _ => kr)) ?_
       refine Wl.guard (v := Value.agg (cfL c).toArray) (!(jA F k)) (wantF rfl kr) rfl (fun hg114 => ?_) ?_
       ·have qhg114 := hg114; try simp only [zA] at qhg114
        exact Ys.loadN (b := p1) (o' := 0) (i := 1) (cs := (cfL c)) (vs := (cfL c)) rfl kr Try.isAgg28 Try.sizeOf28 rfl rfl rfl
       refine Wl.guard (v := pV p4 3) (!(jA F k)) (wantF rfl kr) rfl (fun hg115 => ?_) ?_
       ·have qhg115 := hg115; try simp only [zA] at qhg115
        exact Ys.pure (fun _ => kr)
       refine Wl.guard (v := iV .u32 ((F k).host)) (!(jA F k)) (wantF rfl kr) rfl (fun hg116 => ?_) ?_
       ·have qhg116 := hg116; try simp only [zA] at qhg116
        refine Ys.at (t := 150) (v0 := pV p4 3) (lz (g := !(jA F k)) (u := undef) hg116 kr) ?_
        exact Ys.load (b := p4) (o' := 3) (i := 0) (cs := [iV .u8 ((F k).proto), iV .u16 ((F k).port), iV .u16 ((F k).dest), iV .u32 ((F k).host)]) (v := iV .u32 ((F k).host)) rfl kr Try.isAgg25 rfl rfl
       refine Wl.guard (v := bV (host c ((F k).host))) (!(jA F k)) (wantF rfl kr) rfl (fun hg117 => ?_) ?_
       ·have qhg117 := hg117; try simp only [zA] at qhg117
        refine Ys.at (t := 149) (v0 := Value.agg (cfL c).toArray) (lz (g := !(jA F k)) (u := undef) hg117 kr) ?_
        refine Ys.at (t := 151) (v0 := iV .u32 ((F k).host)) (lz (g := !(jA F k)) (u := undef) hg117 kr) ?_
        exact Ys.call (k := 14) (args := #[Value.agg (cfL c).toArray, iV .u32 ((F k).host)]) (fun _ => kr) (fun _ hSc => host2_c c ((F k).host) _ (by first | assumption | omega | decide | exact ha _ om) (by first | assumption | omega | decide | exact ha _ om))
       refine Wl.guard (v := bV (!(host c ((F k).host)))) (!(jA F k)) (wantF rfl kr) rfl (fun hg118 => ?_) ?_
       ·have qhg118 := hg118; try simp only [zA] at qhg118
        refine Ys.at (t := 152) (v0 := bV (host c ((F k).host))) (lz (g := !(jA F k)) (u := undef) hg118 kr) ?_
        exact Ys.pure (fun _ => kr)
       refine Wl.ys (v := bV ((jA F k) || (!(host c ((F k).host))))) rfl rfl (Ys.or' (e := (j9 F k) || (((F k).dest) == 0)) (b := !(host c ((F k).host))) rfl kr kr kr) ?_
       refine Wl.nil ?_
       refine hK104 _ _ ?_
       refine W.cond ((jA F k) || (!(host c ((F k).host)))) kr (fun h119 => ?_) (fun h120 => ?_)
       ·have qh119 := h119; try simp only [zA] at qh119
        refine W.seq (fun K121 hK121 => ?_)
        refine W.region ?_
        refine Wl.ys (v := iV .i64 40) rfl rfl (Ys.pure (fun _ => kr)) ?_
        refine Wl.nil ?_
        refine hK121 _ _ ?_
        refine W.ret ?_
        show ∀ w_, _ → bodyPost Try.prog Try.f10 _ Exit.ret _ w_
        exact fun w_ hS_ => ret1 rfl (RV.tmp (v := iV .i64 40) kr) hS_ ⟨by clear hK1 hK2 hK3 hK16 hK17 hK31 hK32 hK46 hK47 hK72 hK73 hK91 hK92 hJ93 hK97 hK98 hK101 hK102 hK103 hK104 hK121; refine congrArg Ending.returned ?_; exact int_congr (chk_bad2 (hb0 h14 h29 h44 h70 h89) (fall_bad (i := k) om h119)), hS_.below⟩
       ·have qh120 := h120; try simp only [zA] at qh120
        refine W.skip' ?_
        refine hK103 _ _ ?_
        refine W.seq (fun K122 hK122 => ?_)
        refine W.region ?_
        refine Wl.ys (v := iV .i64 0) rfl rfl (Ys.pure (fun _ => kr)) ?_
        refine Wl.nil ?_
        refine hK122 _ _ ?_
        refine W.block ?_
        refine W.loop (γ := Nat) (fun g_ => [(0, Value.agg (cfL c).toArray), (1, pV p1 0), (3, iV .i64 ((k : Nat) : Int)), (4, pV p4 0), (6, pV p1 20), (7, iV .i64 c.bits), (8, bV (decide (c.bits < 8))), (9, bV (decide (c.bits < 8))), (10, (bif !(decide (c.bits < 8)) then pV p1 20 else undef)), (11, (bif !(decide (c.bits < 8)) then iV .i64 c.bits else undef)), (12, (bif !(decide (c.bits < 8)) then bV (decide (c.bits > 30)) else undef)), (13, bV ((decide (c.bits < 8)) || (decide (c.bits > 30)))), (14, bV ((decide (c.bits < 8)) || (decide (c.bits > 30)))), (15, (bif !((decide (c.bits < 8)) || (decide (c.bits > 30))) then pV p1 18 else undef)), (16, (bif !((decide (c.bits < 8)) || (decide (c.bits > 30))) then iV .u32 c.lan else undef)), (17, (bif !((decide (c.bits < 8)) || (decide (c.bits > 30))) then pV p1 20 else undef)), (18, (bif !((decide (c.bits < 8)) || (decide (c.bits > 30))) then iV .i64 c.bits else undef)), (19, (bif !((decide (c.bits < 8)) || (decide (c.bits > 30))) then bV (inner c.lan c.bits) else undef)), (20, (bif !((decide (c.bits < 8)) || (decide (c.bits > 30))) then bV (!(inner c.lan c.bits)) else undef)), (21, bV (((decide (c.bits < 8)) || (decide (c.bits > 30))) || (!(inner c.lan c.bits)))), (22, pV p1 19), (23, iV .u32 c.wan), (24, bV (c.wan == 0)), (25, bV (c.wan == 0)), (26, (bif !(c.wan == 0) then pV p1 19 else undef)), (27, (bif !(c.wan == 0) then iV .u32 c.wan else undef)), (28, (bif !(c.wan == 0) then bV (c.wan == 4294967295) else undef)), (29, bV ((c.wan == 0) || (c.wan == 4294967295))), (30, bV ((c.wan == 0) || (c.wan == 4294967295))), (31, (bif !((c.wan == 0) || (c.wan == 4294967295)) then pV p1 19 else undef)), (32, (bif !((c.wan == 0) || (c.wan == 4294967295)) then iV .u32 c.wan else undef)), (33, (bif !((c.wan == 0) || (c.wan == 4294967295)) then pV p1 18 else undef)), (34, (bif !((c.wan == 0) || (c.wan == 4294967295)) then iV .u32 c.lan else undef)), (35, (bif !((c.wan == 0) || (c.wan == 4294967295)) then pV p1 20 else undef)), (36, (bif !((c.wan == 0) || (c.wan == 4294967295)) then iV .i64 c.bits else undef)), (37, (bif !((c.wan == 0) || (c.wan == 4294967295)) then bV (within c.wan c.lan c.bits) else undef)), (38, bV (((c.wan == 0) || (c.wan == 4294967295)) || (within c.wan c.lan c.bits))), (39, pV p1 0), (40, pV p1 0), (41, iV .u8 c.lm0), (42, iV .u8 (irem c.lm0 2)), (43, bV ((irem c.lm0 2) == 1)), (44, bV ((irem c.lm0 2) == 1)), (45, (bif !((irem c.lm0 2) == 1) then pV p1 6 else undef)), (46, (bif !((irem c.lm0 2) == 1) then pV p1 6 else undef)), (47, (bif !((irem c.lm0 2) == 1) then iV .u8 c.wm0 else undef)), (48, (bif !((irem c.lm0 2) == 1) then iV .u8 (irem c.wm0 2) else undef)), (49, (bif !((irem c.lm0 2) == 1) then bV ((irem c.wm0 2) == 1) else undef)), (50, bV (((irem c.lm0 2) == 1) || ((irem c.wm0 2) == 1))), (51, bV (((irem c.lm0 2) == 1) || ((irem c.wm0 2) == 1))), (52, (bif !(((irem c.lm0 2) == 1) || ((irem c.wm0 2) == 1)) then pV p1 12 else undef)), (53, (bif !(((irem c.lm0 2) == 1) || ((irem c.wm0 2) == 1)) then pV p1 12 else undef)), (54, (bif !(((irem c.lm0 2) == 1) || ((irem c.wm0 2) == 1)) then iV .u8 c.hm0 else undef)), (55, (bif !(((irem c.lm0 2) == 1) || ((irem c.wm0 2) == 1)) then iV .u8 (irem c.hm0 2) else undef)), (56, (bif !(((irem c.lm0 2) == 1) || ((irem c.wm0 2) == 1)) then bV ((irem c.hm0 2) == 1) else undef)), (57, bV ((((irem c.lm0 2) == 1) || ((irem c.wm0 2) == 1)) || ((irem c.hm0 2) == 1))), (58, pV p1 21), (59, iV .i64 c.ms), (60, bV (decide (c.ms < 1))), (61, bV (decide (c.ms < 1))), (62, (bif !(decide (c.ms < 1)) then pV p1 21 else undef)), (63, (bif !(decide (c.ms < 1)) then iV .i64 c.ms else undef)), (64, (bif !(decide (c.ms < 1)) then bV (decide (c.ms > 4096)) else undef)), (65, bV (j1 c)), (66, bV (j1 c)), (67, (bif !(j1 c) then pV p1 22 else undef)), (68, (bif !(j1 c) then iV .i64 c.mm else undef)), (69, (bif !(j1 c) then bV (decide (c.mm < 1)) else undef)), (70, bV (j2 c)), (71, bV (j2 c)), (72, (bif !(j2 c) then pV p1 22 else undef)), (73, (bif !(j2 c) then iV .i64 c.mm else undef)), (74, (bif !(j2 c) then bV (decide (c.mm > 256)) else undef)), (75, bV (j3 c)), (76, bV (j3 c)), (77, (bif !(j3 c) then pV p1 23 else undef)), (78, (bif !(j3 c) then iV .i64 c.mc else undef)), (79, (bif !(j3 c) then bV (decide (c.mc < 1)) else undef)), (80, bV (j4 c)), (81, bV (j4 c)), (82, (bif !(j4 c) then pV p1 23 else undef)), (83, (bif !(j4 c) then iV .i64 c.mc else undef)), (84, (bif !(j4 c) then bV (decide (c.mc > 32)) else undef)), (85, bV (j5 c)), (86, bV (j5 c)), (87, (bif !(j5 c) then pV p1 24 else undef)), (88, (bif !(j5 c) then iV .i64 c.mu else undef)), (89, (bif !(j5 c) then bV (decide (c.mu < 1)) else undef)), (90, bV (j6 c)), (91, bV (j6 c)), (92, (bif !(j6 c) then pV p1 24 else undef)), (93, (bif !(j6 c) then iV .i64 c.mu else undef)), (94, (bif !(j6 c) then bV (decide (c.mu > 16)) else undef)), (95, bV ((j6 c) || (decide (c.mu > 16)))), (96, pV p1 25), (97, Value.slice c.fa c.fl c.fc), (98, iV .i64 ((c.fl : Nat) : Int)), (99, bV (j7 c)), (100, bV (j7 c)), (101, (bif !(j7 c) then pV p1 26 else undef)), (102, (bif !(j7 c) then iV .u32 c.dmz else undef)), (103, (bif !(j7 c) then bV (c.dmz != 0) else undef)), (104, (bif !(j7 c) then bV (c.dmz != 0) else undef)), (105, (bif (!(j7 c)) && (c.dmz != 0) then Value.agg (cfL c).toArray else undef)), (106, (bif (!(j7 c)) && (c.dmz != 0) then pV p1 26 else undef)), (107, (bif (!(j7 c)) && (c.dmz != 0) then iV .u32 c.dmz else undef)), (108, (bif (!(j7 c)) && (c.dmz != 0) then bV (host c c.dmz) else undef)), (109, (bif (!(j7 c)) && (c.dmz != 0) then bV (!(host c c.dmz)) else undef)), (110, (bif !(j7 c) then bV ((c.dmz != 0) && (!(host c c.dmz))) else undef)), (111, bV ((j7 c) || ((c.dmz != 0) && (!(host c c.dmz))))), (112, bV ((j7 c) || ((c.dmz != 0) && (!(host c c.dmz))))), (113, (bif !((j7 c) || ((c.dmz != 0) && (!(host c c.dmz)))) then pV p1 27 else undef)), (114, (bif !((j7 c) || ((c.dmz != 0) && (!(host c c.dmz)))) then Value.string c.uu else undef)), (115, (bif !((j7 c) || ((c.dmz != 0) && (!(host c c.dmz)))) then bV (uuid c.uu) else undef)), (116, (bif !((j7 c) || ((c.dmz != 0) && (!(host c c.dmz)))) then bV (!(uuid c.uu)) else undef)), (117, bV (((j7 c) || ((c.dmz != 0) && (!(host c c.dmz)))) || (!(uuid c.uu)))), (118, iV .i64 ((k : Nat) : Int)), (119, pV p1 25), (120, Value.slice c.fa c.fl c.fc), (121, iV .i64 ((c.fl : Nat) : Int)), (122, bV (decide (((k : Nat) : Int) < ((c.fl : Nat) : Int)))), (125, pV p1 25), (126, Value.slice c.fa c.fl c.fc), (127, iV .i64 ((k : Nat) : Int)), (128, Value.pointer (some ((c.fa.getD default).add (k * 4)))), (129, Value.agg ([iV .u8 ((F k).proto), iV .u16 ((F k).port), iV .u16 ((F k).dest), iV .u32 ((F k).host)]).toArray), (130, pV p4 0), (131, iV .u8 ((F k).proto)), (132, bV (((F k).proto) != 6)), (133, bV (((F k).proto) != 6)), (134, (bif ((F k).proto) != 6 then pV p4 0 else undef)), (135, (bif ((F k).proto) != 6 then iV .u8 ((F k).proto) else undef)), (136, (bif ((F k).proto) != 6 then bV (((F k).proto) != 17) else undef)), (137, bV (j8 F k)), (138, bV (j8 F k)), (139, (bif !(j8 F k) then pV p4 1 else undef)), (140, (bif !(j8 F k) then iV .u16 ((F k).port) else undef)), (141, (bif !(j8 F k) then bV (((F k).port) == 0) else undef)), (142, bV (j9 F k)), (143, bV (j9 F k)), (144, (bif !(j9 F k) then pV p4 2 else undef)), (145, (bif !(j9 F k) then iV .u16 ((F k).dest) else undef)), (146, (bif !(j9 F k) then bV (((F k).dest) == 0) else undef)), (147, bV (jA F k)), (148, bV (jA F k)), (149, (bif !(jA F k) then Value.agg (cfL c).toArray else undef)), (150, (bif !(jA F k) then pV p4 3 else undef)), (151, (bif !(jA F k) then iV .u32 ((F k).host) else undef)), (152, (bif !(jA F k) then bV (host c ((F k).host)) else undef)), (153, (bif !(jA F k) then bV (!(host c ((F k).host))) else undef)), (154, bV ((jA F k) || (!(host c ((F k).host))))), (5, iV .i64 ((g_ : Nat) : Int))]) (fun g_ w_ => Mem w [] [cb p4 [iV .u8 ((F k).proto), iV .u16 ((F k).port), iV .u16 ((F k).dest), iV .u32 ((F k).host)] 81, cb p1 (cfL c) 28] w_ ∧ g_ ≤ k ∧ (∀ j : Nat, j < g_ → isF F (F k).proto (F k).port j = false)) (fun g_ => k - g_) (0) ?_ ?_ (fun g_ f124 J123 hJ123 => ?_)
        ·refine ⟨rfl, rfl, rfl, rfl, rfl, rfl, rfl, rfl, rfl, rfl, rfl, rfl, rfl, rfl, rfl, rfl, rfl, rfl, rfl, rfl, rfl, rfl, rfl, rfl, rfl, rfl, rfl, rfl, rfl, rfl, rfl, rfl, rfl, rfl, rfl, rfl, rfl, rfl, rfl, rfl, rfl, rfl, rfl, rfl, rfl, rfl, rfl, rfl, rfl, rfl, rfl, rfl, rfl, rfl, rfl, rfl, rfl, rfl, rfl, rfl, rfl, rfl, rfl, rfl, rfl, rfl, rfl, rfl, rfl, rfl, rfl, rfl, rfl, rfl, rfl, rfl, rfl, rfl, rfl, rfl, rfl, rfl, rfl, rfl, rfl, rfl, rfl, rfl, rfl, rfl, rfl, rfl, rfl, rfl, rfl, rfl, rfl, rfl, rfl, rfl, rfl, rfl, rfl, rfl, rfl, rfl, rfl, rfl, rfl, rfl, rfl, rfl, rfl, rfl, rfl, rfl, rfl, rfl, rfl, rfl, rfl, rfl, rfl, rfl, rfl, rfl, rfl, rfl, rfl, rfl, rfl, rfl, rfl, rfl, rfl, rfl, rfl, rfl, rfl, rfl, rfl, rfl, rfl, rfl, rfl, rfl, rfl, rfl, rfl, rfl, rfl, (by first | rfl | exact int_congr om | simp), trivial⟩
        ·exact fun w_ hS_ => ⟨hS_, ⟨Nat.zero_le _, fun j hj => absurd hj (Nat.not_lt_zero _)⟩⟩
        obtain ⟨m, hgg_⟩ : ∃ x, x = g_ := ⟨_, rfl⟩; subst hgg_
        refine W.castS (f' := upds [(0, Value.agg (cfL c).toArray), (1, pV p1 0), (3, iV .i64 ((k : Nat) : Int)), (4, pV p4 0), (6, pV p1 20), (7, iV .i64 c.bits), (8, bV (decide (c.bits < 8))), (9, bV (decide (c.bits < 8))), (10, (bif !(decide (c.bits < 8)) then pV p1 20 else undef)), (11, (bif !(decide (c.bits < 8)) then iV .i64 c.bits else undef)), (12, (bif !(decide (c.bits < 8)) then bV (decide (c.bits > 30)) else undef)), (13, bV ((decide (c.bits < 8)) || (decide (c.bits > 30)))), (14, bV ((decide (c.bits < 8)) || (decide (c.bits > 30)))), (15, (bif !((decide (c.bits < 8)) || (decide (c.bits > 30))) then pV p1 18 else undef)), (16, (bif !((decide (c.bits < 8)) || (decide (c.bits > 30))) then iV .u32 c.lan else undef)), (17, (bif !((decide (c.bits < 8)) || (decide (c.bits > 30))) then pV p1 20 else undef)), (18, (bif !((decide (c.bits < 8)) || (decide (c.bits > 30))) then iV .i64 c.bits else undef)), (19, (bif !((decide (c.bits < 8)) || (decide (c.bits > 30))) then bV (inner c.lan c.bits) else undef)), (20, (bif !((decide (c.bits < 8)) || (decide (c.bits > 30))) then bV (!(inner c.lan c.bits)) else undef)), (21, bV (((decide (c.bits < 8)) || (decide (c.bits > 30))) || (!(inner c.lan c.bits)))), (22, pV p1 19), (23, iV .u32 c.wan), (24, bV (c.wan == 0)), (25, bV (c.wan == 0)), (26, (bif !(c.wan == 0) then pV p1 19 else undef)), (27, (bif !(c.wan == 0) then iV .u32 c.wan else undef)), (28, (bif !(c.wan == 0) then bV (c.wan == 4294967295) else undef)), (29, bV ((c.wan == 0) || (c.wan == 4294967295))), (30, bV ((c.wan == 0) || (c.wan == 4294967295))), (31, (bif !((c.wan == 0) || (c.wan == 4294967295)) then pV p1 19 else undef)), (32, (bif !((c.wan == 0) || (c.wan == 4294967295)) then iV .u32 c.wan else undef)), (33, (bif !((c.wan == 0) || (c.wan == 4294967295)) then pV p1 18 else undef)), (34, (bif !((c.wan == 0) || (c.wan == 4294967295)) then iV .u32 c.lan else undef)), (35, (bif !((c.wan == 0) || (c.wan == 4294967295)) then pV p1 20 else undef)), (36, (bif !((c.wan == 0) || (c.wan == 4294967295)) then iV .i64 c.bits else undef)), (37, (bif !((c.wan == 0) || (c.wan == 4294967295)) then bV (within c.wan c.lan c.bits) else undef)), (38, bV (((c.wan == 0) || (c.wan == 4294967295)) || (within c.wan c.lan c.bits))), (39, pV p1 0), (40, pV p1 0), (41, iV .u8 c.lm0), (42, iV .u8 (irem c.lm0 2)), (43, bV ((irem c.lm0 2) == 1)), (44, bV ((irem c.lm0 2) == 1)), (45, (bif !((irem c.lm0 2) == 1) then pV p1 6 else undef)), (46, (bif !((irem c.lm0 2) == 1) then pV p1 6 else undef)), (47, (bif !((irem c.lm0 2) == 1) then iV .u8 c.wm0 else undef)), (48, (bif !((irem c.lm0 2) == 1) then iV .u8 (irem c.wm0 2) else undef)), (49, (bif !((irem c.lm0 2) == 1) then bV ((irem c.wm0 2) == 1) else undef)), (50, bV (((irem c.lm0 2) == 1) || ((irem c.wm0 2) == 1))), (51, bV (((irem c.lm0 2) == 1) || ((irem c.wm0 2) == 1))), (52, (bif !(((irem c.lm0 2) == 1) || ((irem c.wm0 2) == 1)) then pV p1 12 else undef)), (53, (bif !(((irem c.lm0 2) == 1) || ((irem c.wm0 2) == 1)) then pV p1 12 else undef)), (54, (bif !(((irem c.lm0 2) == 1) || ((irem c.wm0 2) == 1)) then iV .u8 c.hm0 else undef)), (55, (bif !(((irem c.lm0 2) == 1) || ((irem c.wm0 2) == 1)) then iV .u8 (irem c.hm0 2) else undef)), (56, (bif !(((irem c.lm0 2) == 1) || ((irem c.wm0 2) == 1)) then bV ((irem c.hm0 2) == 1) else undef)), (57, bV ((((irem c.lm0 2) == 1) || ((irem c.wm0 2) == 1)) || ((irem c.hm0 2) == 1))), (58, pV p1 21), (59, iV .i64 c.ms), (60, bV (decide (c.ms < 1))), (61, bV (decide (c.ms < 1))), (62, (bif !(decide (c.ms < 1)) then pV p1 21 else undef)), (63, (bif !(decide (c.ms < 1)) then iV .i64 c.ms else undef)), (64, (bif !(decide (c.ms < 1)) then bV (decide (c.ms > 4096)) else undef)), (65, bV (j1 c)), (66, bV (j1 c)), (67, (bif !(j1 c) then pV p1 22 else undef)), (68, (bif !(j1 c) then iV .i64 c.mm else undef)), (69, (bif !(j1 c) then bV (decide (c.mm < 1)) else undef)), (70, bV (j2 c)), (71, bV (j2 c)), (72, (bif !(j2 c) then pV p1 22 else undef)), (73, (bif !(j2 c) then iV .i64 c.mm else undef)), (74, (bif !(j2 c) then bV (decide (c.mm > 256)) else undef)), (75, bV (j3 c)), (76, bV (j3 c)), (77, (bif !(j3 c) then pV p1 23 else undef)), (78, (bif !(j3 c) then iV .i64 c.mc else undef)), (79, (bif !(j3 c) then bV (decide (c.mc < 1)) else undef)), (80, bV (j4 c)), (81, bV (j4 c)), (82, (bif !(j4 c) then pV p1 23 else undef)), (83, (bif !(j4 c) then iV .i64 c.mc else undef)), (84, (bif !(j4 c) then bV (decide (c.mc > 32)) else undef)), (85, bV (j5 c)), (86, bV (j5 c)), (87, (bif !(j5 c) then pV p1 24 else undef)), (88, (bif !(j5 c) then iV .i64 c.mu else undef)), (89, (bif !(j5 c) then bV (decide (c.mu < 1)) else undef)), (90, bV (j6 c)), (91, bV (j6 c)), (92, (bif !(j6 c) then pV p1 24 else undef)), (93, (bif !(j6 c) then iV .i64 c.mu else undef)), (94, (bif !(j6 c) then bV (decide (c.mu > 16)) else undef)), (95, bV ((j6 c) || (decide (c.mu > 16)))), (96, pV p1 25), (97, Value.slice c.fa c.fl c.fc), (98, iV .i64 ((c.fl : Nat) : Int)), (99, bV (j7 c)), (100, bV (j7 c)), (101, (bif !(j7 c) then pV p1 26 else undef)), (102, (bif !(j7 c) then iV .u32 c.dmz else undef)), (103, (bif !(j7 c) then bV (c.dmz != 0) else undef)), (104, (bif !(j7 c) then bV (c.dmz != 0) else undef)), (105, (bif (!(j7 c)) && (c.dmz != 0) then Value.agg (cfL c).toArray else undef)), (106, (bif (!(j7 c)) && (c.dmz != 0) then pV p1 26 else undef)), (107, (bif (!(j7 c)) && (c.dmz != 0) then iV .u32 c.dmz else undef)), (108, (bif (!(j7 c)) && (c.dmz != 0) then bV (host c c.dmz) else undef)), (109, (bif (!(j7 c)) && (c.dmz != 0) then bV (!(host c c.dmz)) else undef)), (110, (bif !(j7 c) then bV ((c.dmz != 0) && (!(host c c.dmz))) else undef)), (111, bV ((j7 c) || ((c.dmz != 0) && (!(host c c.dmz))))), (112, bV ((j7 c) || ((c.dmz != 0) && (!(host c c.dmz))))), (113, (bif !((j7 c) || ((c.dmz != 0) && (!(host c c.dmz)))) then pV p1 27 else undef)), (114, (bif !((j7 c) || ((c.dmz != 0) && (!(host c c.dmz)))) then Value.string c.uu else undef)), (115, (bif !((j7 c) || ((c.dmz != 0) && (!(host c c.dmz)))) then bV (uuid c.uu) else undef)), (116, (bif !((j7 c) || ((c.dmz != 0) && (!(host c c.dmz)))) then bV (!(uuid c.uu)) else undef)), (117, bV (((j7 c) || ((c.dmz != 0) && (!(host c c.dmz)))) || (!(uuid c.uu)))), (118, iV .i64 ((k : Nat) : Int)), (119, pV p1 25), (120, Value.slice c.fa c.fl c.fc), (121, iV .i64 ((c.fl : Nat) : Int)), (122, bV (decide (((k : Nat) : Int) < ((c.fl : Nat) : Int)))), (125, pV p1 25), (126, Value.slice c.fa c.fl c.fc), (127, iV .i64 ((k : Nat) : Int)), (128, Value.pointer (some ((c.fa.getD default).add (k * 4)))), (129, Value.agg ([iV .u8 ((F k).proto), iV .u16 ((F k).port), iV .u16 ((F k).dest), iV .u32 ((F k).host)]).toArray), (130, pV p4 0), (131, iV .u8 ((F k).proto)), (132, bV (((F k).proto) != 6)), (133, bV (((F k).proto) != 6)), (134, (bif ((F k).proto) != 6 then pV p4 0 else undef)), (135, (bif ((F k).proto) != 6 then iV .u8 ((F k).proto) else undef)), (136, (bif ((F k).proto) != 6 then bV (((F k).proto) != 17) else undef)), (137, bV (j8 F k)), (138, bV (j8 F k)), (139, (bif !(j8 F k) then pV p4 1 else undef)), (140, (bif !(j8 F k) then iV .u16 ((F k).port) else undef)), (141, (bif !(j8 F k) then bV (((F k).port) == 0) else undef)), (142, bV (j9 F k)), (143, bV (j9 F k)), (144, (bif !(j9 F k) then pV p4 2 else undef)), (145, (bif !(j9 F k) then iV .u16 ((F k).dest) else undef)), (146, (bif !(j9 F k) then bV (((F k).dest) == 0) else undef)), (147, bV (jA F k)), (148, bV (jA F k)), (149, (bif !(jA F k) then Value.agg (cfL c).toArray else undef)), (150, (bif !(jA F k) then pV p4 3 else undef)), (151, (bif !(jA F k) then iV .u32 ((F k).host) else undef)), (152, (bif !(jA F k) then bV (host c ((F k).host)) else undef)), (153, (bif !(jA F k) then bV (!(host c ((F k).host))) else undef)), (154, bV ((jA F k) || (!(host c ((F k).host))))), (5, iV .i64 ((m : Nat) : Int))] f124) (S' := fun w_ => Mem w [] [cb p4 [iV .u8 ((F k).proto), iV .u16 ((F k).port), iV .u16 ((F k).dest), iV .u32 ((F k).host)] 81, cb p1 (cfL c) 28] w_ ∧ m ≤ k ∧ (∀ j : Nat, j < m → isF F (F k).proto (F k).port j = false)) rfl rfl ?_
        refine W.and (fun hpp => ?_)
        obtain ⟨hp125, hp126⟩ := hpp
        have mle := hp125
        have hno := hp126
        refine W.seq (fun K127 hK127 => ?_)
        refine W.seq (fun K128 hK128 => ?_)
        refine W.region ?_
        refine Wl.ys (v := iV .i64 ((m : Nat) : Int)) rfl rfl (Ys.pure (fun _ => kr)) ?_
        refine Wl.ys (v := iV .i64 ((k : Nat) : Int)) rfl rfl (Ys.pure (fun _ => kr)) ?_
        refine Wl.ys (v := bV (decide (((m : Nat) : Int) < ((k : Nat) : Int)))) rfl rfl (Ys.pure (fun _ => kr)) ?_
        refine Wl.nil ?_
        refine hK128 _ _ ?_
        refine W.cond (decide (((m : Nat) : Int) < ((k : Nat) : Int))) kr (fun h129 => ?_) (fun h130 => ?_)
        ·have qh129 := h129; try simp only [zA] at qh129
         refine W.skip' ?_
         refine hK127 _ _ ?_
         refine W.seq (fun K131 hK131 => ?_)
         refine W.block ?_
         refine W.seq (fun K132 hK132 => ?_)
         refine W.draws 20 kr kr (fun _ _ h => h.drawn _) ?_
         refine Wt.ys (v := pV p1 25) rfl rfl (Ys.pure (fun _ => kr)) ?_
         refine Wt.ys (v := Value.slice c.fa c.fl c.fc) rfl rfl (Ys.load (b := p1) (o' := 25) (i := 1) (cs := (cfL c)) (v := Value.slice c.fa c.fl c.fc) rfl kr Try.isAgg26 rfl rfl) ?_
         refine Wt.ys (v := iV .i64 ((m : Nat) : Int)) rfl rfl (Ys.pure (fun _ => kr)) ?_
         refine Wt.ys (v := Value.pointer (some ((c.fa.getD default).add (m * 4)))) rfl rfl (Ys.indexAddr (k := .i64) (a := c.fa) (len := c.fl) (cap := c.fc) (i := ((m : Nat) : Int)) (sz := 4) rfl kr kr Try.runUnderlying26 Try.sizeOf81 (hsl.here om) om om) ?_
         refine Wt.ys (v := Value.pointer (some ((c.fa.getD default).add (m * 4)))) rfl rfl (Ys.pure (fun _ => kr)) ?_
         refine Wt.ys (v := iV .u8 ((F m).proto)) rfl rfl (Ys.loadOld (v := iV .u8 ((F m).proto)) rfl kr Try.isAgg5 (adr_lt _ () (hsl.lt om)) (sp) (hsl.cell m om 0 _ rfl)) ?_
         refine Wt.ys (v := pV p4 0) rfl rfl (Ys.pure (fun _ => kr)) ?_
         refine Wt.ys (v := iV .u8 ((F k).proto)) rfl rfl (Ys.load (b := p4) (o' := 0) (i := 0) (cs := [iV .u8 ((F k).proto), iV .u16 ((F k).port), iV .u16 ((F k).dest), iV .u32 ((F k).host)]) (v := iV .u8 ((F k).proto)) rfl kr Try.isAgg5 rfl rfl) ?_
         refine Wt.ys (v := bV (((F m).proto) == ((F k).proto))) rfl rfl (Ys.pure (fun _ => kr)) ?_
         refine Wt.ys (v := bV (((F m).proto) == ((F k).proto))) rfl rfl (Ys.pure (fun _ => kr)) ?_
         refine Wt.guard (v := pV p1 25) (((F m).proto) == ((F k).proto)) (wantT rfl kr) rfl (fun hg133 => ?_) ?_
         ·have qhg133 := hg133; try simp only [zA] at qhg133
          exact Ys.pure (fun _ => kr)
         refine Wt.guard (v := Value.slice c.fa c.fl c.fc) (((F m).proto) == ((F k).proto)) (wantT rfl kr) rfl (fun hg134 => ?_) ?_
         ·have qhg134 := hg134; try simp only [zA] at qhg134
          refine Ys.at (t := 170) (v0 := pV p1 25) (lz (g := ((F m).proto) == ((F k).proto)) (u := undef) hg134 kr) ?_
          exact Ys.load (b := p1) (o' := 25) (i := 1) (cs := (cfL c)) (v := Value.slice c.fa c.fl c.fc) rfl kr Try.isAgg26 rfl rfl
         refine Wt.guard (v := iV .i64 ((m : Nat) : Int)) (((F m).proto) == ((F k).proto)) (wantT rfl kr) rfl (fun hg135 => ?_) ?_
         ·have qhg135 := hg135; try simp only [zA] at qhg135
          exact Ys.pure (fun _ => kr)
         refine Wt.guard (v := Value.pointer (some ((c.fa.getD default).add (m * 4)))) (((F m).proto) == ((F k).proto)) (wantT rfl kr) rfl (fun hg136 => ?_) ?_
         ·have qhg136 := hg136; try simp only [zA] at qhg136
          refine Ys.at (t := 171) (v0 := Value.slice c.fa c.fl c.fc) (lz (g := ((F m).proto) == ((F k).proto)) (u := undef) hg136 kr) ?_
          refine Ys.at (t := 172) (v0 := iV .i64 ((m : Nat) : Int)) (lz (g := ((F m).proto) == ((F k).proto)) (u := undef) hg136 kr) ?_
          exact Ys.indexAddr (k := .i64) (a := c.fa) (len := c.fl) (cap := c.fc) (i := ((m : Nat) : Int)) (sz := 4) rfl kr kr Try.runUnderlying26 Try.sizeOf81 (hsl.here om) om om
         refine Wt.guard (v := Value.pointer (some (((c.fa.getD default).add (m * 4)).add 1))) (((F m).proto) == ((F k).proto)) (wantT rfl kr) rfl (fun hg137 => ?_) ?_
         ·have qhg137 := hg137; try simp only [zA] at qhg137
          refine Ys.at (t := 173) (v0 := Value.pointer (some ((c.fa.getD default).add (m * 4)))) (lz (g := ((F m).proto) == ((F k).proto)) (u := undef) hg137 kr) ?_
          exact Ys.pure (fun _ => kr)
         refine Wt.guard (v := iV .u16 ((F m).port)) (((F m).proto) == ((F k).proto)) (wantT rfl kr) rfl (fun hg138 => ?_) ?_
         ·have qhg138 := hg138; try simp only [zA] at qhg138
          refine Ys.at (t := 174) (v0 := Value.pointer (some (((c.fa.getD default).add (m * 4)).add 1))) (lz (g := ((F m).proto) == ((F k).proto)) (u := undef) hg138 kr) ?_
          exact Ys.loadOld (v := iV .u16 ((F m).port)) rfl kr Try.isAgg29 (adr_lt2 _ _ () (hsl.lt om)) (sp) (hsl.cell m om 1 _ rfl)
         refine Wt.guard (v := pV p4 1) (((F m).proto) == ((F k).proto)) (wantT rfl kr) rfl (fun hg139 => ?_) ?_
         ·have qhg139 := hg139; try simp only [zA] at qhg139
          exact Ys.pure (fun _ => kr)
         refine Wt.guard (v := iV .u16 ((F k).port)) (((F m).proto) == ((F k).proto)) (wantT rfl kr) rfl (fun hg140 => ?_) ?_
         ·have qhg140 := hg140; try simp only [zA] at qhg140
          refine Ys.at (t := 176) (v0 := pV p4 1) (lz (g := ((F m).proto) == ((F k).proto)) (u := undef) hg140 kr) ?_
          exact Ys.load (b := p4) (o' := 1) (i := 0) (cs := [iV .u8 ((F k).proto), iV .u16 ((F k).port), iV .u16 ((F k).dest), iV .u32 ((F k).host)]) (v := iV .u16 ((F k).port)) rfl kr Try.isAgg29 rfl rfl
         refine Wt.guard (v := bV (((F m).port) == ((F k).port))) (((F m).proto) == ((F k).proto)) (wantT rfl kr) rfl (fun hg141 => ?_) ?_
         ·have qhg141 := hg141; try simp only [zA] at qhg141
          refine Ys.at (t := 175) (v0 := iV .u16 ((F m).port)) (lz (g := ((F m).proto) == ((F k).proto)) (u := undef) hg141 kr) ?_
          refine Ys.at (t := 177) (v0 := iV .u16 ((F k).port)) (lz (g := ((F m).proto) == ((F k).proto)) (u := undef) hg141 kr) ?_
          exact Ys.pure (fun _ => kr)
         refine Wt.ys (v := bV ((((F m).proto) == ((F k).proto)) && (((F m).port) == ((F k).port)))) rfl rfl (Ys.and (e := ((F m).proto) == ((F k).proto)) (b := ((F m).port) == ((F k).port)) rfl kr kr kr) ?_
         refine Wt.nil rfl kr ?_
         refine hK132 _ _ ?_
         refine W.cond ((((F m).proto) == ((F k).proto)) && (((F m).port) == ((F k).port))) kr (fun h142 => ?_) (fun h143 => ?_)
         ·have qh142 := h142; try simp only [zA] at qh142
          refine W.seq (fun K144 hK144 => ?_)
          refine W.region ?_
          refine Wl.ys (v := iV .i64 40) rfl rfl (Ys.pure (fun _ => kr)) ?_
          refine Wl.nil ?_
          refine hK144 _ _ ?_
          refine W.ret ?_
          show ∀ w_, _ → bodyPost Try.prog Try.f10 _ Exit.ret _ w_
          exact fun w_ hS_ => ret1 rfl (RV.tmp (v := iV .i64 40) kr) hS_ ⟨by clear hK1 hK2 hK3 hK16 hK17 hK31 hK32 hK46 hK47 hK72 hK73 hK91 hK92 hJ93 hK97 hK98 hK101 hK102 hK103 hK104 hK122 hJ123 hK127 hK128 hK131 hK132 hK144; refine congrArg Ending.returned ?_; exact int_congr (chk_bad2 (hb0 h14 h29 h44 h70 h89) (fall_dup (i := k) (j := m) om om h142)), hS_.below⟩
         ·have qh143 := h143; try simp only [zA] at qh143
          refine W.skip' ?_
          refine hK131 _ _ ?_
          refine W.region ?_
          refine Wl.ys (v := iV .i64 ((m : Nat) : Int)) rfl rfl (Ys.pure (fun _ => kr)) ?_
          refine Wl.ys (v := iV .i64 ((m + 1 : Nat) : Int)) rfl rfl ((Ys.pure (v := .int .i64 (iadd .i64 ((m : Nat) : Int) 1)) (fun _ => kr)).conseq (int_congr (iadd_eq om om om))) ?_
          refine Wl.ys (v := iV .i64 ((m + 1 : Nat) : Int)) rfl rfl (Ys.pure (fun _ => kr)) ?_
          refine Wl.nil ?_
          refine fun w_ hS_ => hJ123 (m + 1) _ _ (by first | omega | (dsimp only; omega)) ?_ ⟨hS_, ⟨by omega, fun j hj => by rcases Nat.lt_succ_iff_lt_or_eq.1 hj with hj | hj; exact hno j hj; subst hj; exact h143⟩⟩
          refine ⟨rfl, rfl, rfl, rfl, rfl, rfl, rfl, rfl, rfl, rfl, rfl, rfl, rfl, rfl, rfl, rfl, rfl, rfl, rfl, rfl, rfl, rfl, rfl, rfl, rfl, rfl, rfl, rfl, rfl, rfl, rfl, rfl, rfl, rfl, rfl, rfl, rfl, rfl, rfl, rfl, rfl, rfl, rfl, rfl, rfl, rfl, rfl, rfl, rfl, rfl, rfl, rfl, rfl, rfl, rfl, rfl, rfl, rfl, rfl, rfl, rfl, rfl, rfl, rfl, rfl, rfl, rfl, rfl, rfl, rfl, rfl, rfl, rfl, rfl, rfl, rfl, rfl, rfl, rfl, rfl, rfl, rfl, rfl, rfl, rfl, rfl, rfl, rfl, rfl, rfl, rfl, rfl, rfl, rfl, rfl, rfl, rfl, rfl, rfl, rfl, rfl, rfl, rfl, rfl, rfl, rfl, rfl, rfl, rfl, rfl, rfl, rfl, rfl, rfl, rfl, rfl, rfl, rfl, rfl, rfl, rfl, rfl, rfl, rfl, rfl, rfl, rfl, rfl, rfl, rfl, rfl, rfl, rfl, rfl, rfl, rfl, rfl, rfl, rfl, rfl, rfl, rfl, rfl, rfl, rfl, rfl, rfl, rfl, rfl, rfl, rfl, (by first | rfl | exact int_congr om | simp), trivial⟩
        ·have qh130 := h130; try simp only [zA] at qh130
         refine W.exit ?_
         refine hK101 _ _ ?_
         refine W.region ?_
         refine Wl.ys (v := iV .i64 ((k : Nat) : Int)) rfl rfl (Ys.pure (fun _ => kr)) ?_
         refine Wl.ys (v := iV .i64 ((k + 1 : Nat) : Int)) rfl rfl ((Ys.pure (v := .int .i64 (iadd .i64 ((k : Nat) : Int) 1)) (fun _ => kr)).conseq (int_congr (iadd_eq om om om))) ?_
         refine Wl.ys (v := iV .i64 ((k + 1 : Nat) : Int)) rfl rfl (Ys.pure (fun _ => kr)) ?_
         refine Wl.nil ?_
         refine fun w_ hS_ => hJ93 (k + 1) _ _ (by first | omega | (dsimp only; omega)) ?_ ⟨(hS_.sublist (List.Sublist.cons _ (List.Sublist.cons_cons _ List.Sublist.slnil))), ⟨by omega, fun j hj => by rcases Nat.lt_succ_iff_lt_or_eq.1 hj with hj | hj; exact hall j hj; subst hj; exact fok_mk h120 (fun i hi => hno i om)⟩⟩
         refine ⟨rfl, rfl, rfl, rfl, rfl, rfl, rfl, rfl, rfl, rfl, rfl, rfl, rfl, rfl, rfl, rfl, rfl, rfl, rfl, rfl, rfl, rfl, rfl, rfl, rfl, rfl, rfl, rfl, rfl, rfl, rfl, rfl, rfl, rfl, rfl, rfl, rfl, rfl, rfl, rfl, rfl, rfl, rfl, rfl, rfl, rfl, rfl, rfl, rfl, rfl, rfl, rfl, rfl, rfl, rfl, rfl, rfl, rfl, rfl, rfl, rfl, rfl, rfl, rfl, rfl, rfl, rfl, rfl, rfl, rfl, rfl, rfl, rfl, rfl, rfl, rfl, rfl, rfl, rfl, rfl, rfl, rfl, rfl, rfl, rfl, rfl, rfl, rfl, rfl, rfl, rfl, rfl, rfl, rfl, rfl, rfl, rfl, rfl, rfl, rfl, rfl, rfl, rfl, rfl, rfl, rfl, rfl, rfl, rfl, rfl, rfl, rfl, rfl, rfl, (by first | rfl | exact int_congr om | simp), trivial⟩
      ·have qh100 := h100; try simp only [zA] at qh100
       refine W.exit ?_
       refine hK91 _ _ ?_
       refine W.seq (fun K145 hK145 => ?_)
       refine W.region ?_
       refine Wl.ys (v := iV .i64 0) rfl rfl (Ys.pure (fun _ => kr)) ?_
       refine Wl.nil ?_
       refine hK145 _ _ ?_
       refine W.ret ?_
       show ∀ w_, _ → bodyPost Try.prog Try.f10 _ Exit.ret _ w_
       exact fun w_ hS_ => ret1 rfl (RV.tmp (v := iV .i64 0) kr) hS_ ⟨by clear hK1 hK2 hK3 hK16 hK17 hK31 hK32 hK46 hK47 hK72 hK73 hK91 hK92 hJ93 hK97 hK98 hK145; refine congrArg Ending.returned ?_; exact int_congr (chk_ok (hb0 h14 h29 h44 h70 h89) (decide_eq_true (fun i hi => hall i om))), hS_.below⟩
end Go.Proofs.Ytjkhmbigoloeiaa.Conf
