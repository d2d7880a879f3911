import Derived.Test.YtjkhmbigoloeiaaJOConf
import Derived.Laws.RangeAny
import Derived.Laws.RangeString
set_option linter.unusedVariables false
set_option linter.unusedSimpArgs false
namespace Go.Proofs.Ytjkhmbigoloeiaa.Conf
open Go.RowKit Obase
def okR (k : Nat) (r : Int) : Bool := decide ((((k : Int) = 8 ∨ (k : Int) = 13 ∨ (k : Int) = 18 ∨ (k : Int) = 23) ∧ r = 45) ∨ (¬ ((k : Int) = 8 ∨ (k : Int) = 13 ∨ (k : Int) = 18 ∨ (k : Int) = 23) ∧ ((48 ≤ r ∧ r ≤ 57) ∨ (97 ≤ r ∧ r ≤ 102))))
def okB (s : ByteArray) (k : Nat) : Bool := okR k (byt s k)
def uuid (s : ByteArray) : Bool := (((s.size : Nat) : Int) == 36) && decide (∀ j : Nat, j < 36 → okB s j = true)
theorem bad (s : ByteArray) (k : Nat) (h : k < s.size) (ho : okB s k = false) : false = uuid s := by
 unfold uuid
 by_cases h36 : s.size = 36
 ·rw [show (decide (∀ j : Nat, j < 36 → okB s j = true)) = false from decide_eq_false (fun hall => by have := hall k om; rw [ho] at this; cases this), Bool.and_false]
 ·rw [show ((((s.size : Nat) : Int)) == 36) = false by simp; omega, Bool.false_and]
theorem good (s : ByteArray) (k : Nat) (hk : ¬ k < s.size) (hall : ∀ j : Nat, j < k → okB s j = true) : (((s.size : Nat) : Int) == 36) = uuid s := by
 unfold uuid
 by_cases h36 : s.size = 36
 ·rw [show (decide (∀ j : Nat, j < 36 → okB s j = true)) = true from decide_eq_true (fun j hj => hall j om), Bool.and_true]
 ·rw [show ((((s.size : Nat) : Int)) == 36) = false by simp; omega, Bool.false_and]
theorem good2 (s : ByteArray) (h36 : ((s.size : Nat) : Int) = 36) (k : Nat) (hk : 36 ≤ k) (hall : ∀ j : Nat, j < k → okB s j = true) : true = uuid s := by
 rw [← good s 36 om (fun j hj => hall j om)]; simp [h36]
theorem short (s : ByteArray) (h : ¬ ((s.size : Nat) : Int) = 36) : false = uuid s := by
 unfold uuid
 rw [show ((((s.size : Nat) : Int)) == 36) = false by simpa using h, Bool.false_and]
theorem notT (a : Bool) : (!a) = true ↔ ¬ (a = true) := by cases a <;> simp
theorem beqB (a b : Bool) : (a == b) = true ↔ (a = true ↔ b = true) := by cases a <;> cases b <;> simp
theorem beqI (a b : Int) : (a == b) = true ↔ a = b := by simp
theorem ref_ok (k : Nat) (b : Int) : ((!(((((((k : Nat) : Int) == 8) || (((k : Nat) : Int) == 13)) || (((k : Nat) : Int) == 18)) || (((k : Nat) : Int) == 23)) == (b == 45))) || ((!((((((k : Nat) : Int) == 8) || (((k : Nat) : Int) == 13)) || (((k : Nat) : Int) == 18)) || (((k : Nat) : Int) == 23))) && (!(((decide (b ≥ 48)) && (decide (b ≤ 57))) || ((decide (b ≥ 97)) && (decide (b ≤ 102))))))) = !(okR k b) := by
 unfold okR
 rw [Bool.eq_iff_iff]
 simp only [Bool.or_eq_true, Bool.and_eq_true, notT, beqB, beqI, decide_eq_true_eq]
 omega
theorem Bool.not_eq_false_iff_eq_true_ {b : Bool} (h : (!b) = false) : b = true := by simpa using h
theorem not_true_ {b : Bool} (h : (!b) = true) : b = false := by simpa using h
abbrev q1 (k : Nat) : Bool := (((k : Nat) : Int) == 8) || (((k : Nat) : Int) == 13)
abbrev q2 (k : Nat) : Bool := (q1 k) || (((k : Nat) : Int) == 18)
abbrev q3 (k : Nat) : Bool := (q2 k) || (((k : Nat) : Int) == 23)
theorem uuid2_c (s : ByteArray) (w : World) : Calls Try.prog 35 #[Value.string s] w (Ret w (.bool (uuid s))) := by
 refine calls_W (M := []) (L := []) (n := 63) Try.func35 rfl rfl sp (Mem.refl _) ?_
 refine W.seq (fun K1 hK1 => ?_)
 refine W.region ?_
 refine Wl.ys (v := bV false) rfl rfl (Ys.pure (fun _ => kr)) ?_
 refine Wl.nil ?_
 refine hK1 _ _ ?_
 refine W.seq (fun K2 hK2 => ?_)
 refine W.seq (fun K3 hK3 => ?_)
 refine W.region ?_
 refine Wl.ys (v := Value.string s) rfl rfl (Ys.pure (fun _ => kr)) ?_
 refine Wl.ys (v := iV .i64 ((s.size : Nat) : Int)) rfl rfl (Ys.pure (fun _ => kr)) ?_
 refine Wl.ys (v := bV (((s.size : Nat) : Int) != 36)) rfl rfl (Ys.pure (fun _ => kr)) ?_
 refine Wl.nil ?_
 refine hK3 _ _ ?_
 refine W.cond (((s.size : Nat) : Int) != 36) kr (fun h4 => ?_) (fun h5 => ?_)
 ·have qh4 := h4; try simp only [zA] at qh4
  refine W.seq (fun K6 hK6 => ?_)
  refine W.region ?_
  refine Wl.ys (v := bV false) rfl rfl (Ys.pure (fun _ => kr)) ?_
  refine Wl.nil ?_
  refine hK6 _ _ ?_
  refine W.ret ?_
  show ∀ w_, _ → bodyPost Try.prog Try.f35 _ Exit.ret _ w_
  exact fun w_ hS_ => ret1 rfl (RV.tmp (v := bV false) kr) hS_ ⟨by clear hK1 hK2 hK3 hK6; refine congrArg Ending.returned ?_; exact bool_congr (short s qh4), hS_.below⟩
 ·have qh5 := h5; try simp only [zA] at qh5
  refine W.skip' ?_
  refine hK2 _ _ ?_
  refine W.seq (fun K7 hK7 => ?_)
  refine W.seq (fun K8 hK8 => ?_)
  refine W.region ?_
  refine Wl.ys (v := iV .i64 0) rfl rfl (Ys.pure (fun _ => kr)) ?_
  refine Wl.nil ?_
  refine hK8 _ _ ?_
  refine W.block ?_
  refine W.loop (γ := Nat) (fun g_ => [(0, Value.string s), (6, Value.string s), (7, iV .i64 ((s.size : Nat) : Int)), (8, bV (((s.size : Nat) : Int) != 36)), (3, iV .i64 ((g_ : Nat) : Int))]) (fun g_ w_ => Mem w [] [] w_ ∧ g_ ≤ 36 ∧ (∀ j : Nat, j < g_ → okB s j = true)) (fun g_ => 36 - g_) (0) ?_ ?_ (fun g_ f10 J9 hJ9 => ?_)
  ·refine ⟨rfl, rfl, rfl, rfl, (by first | rfl | exact int_congr om | simp), trivial⟩
  ·exact fun w_ hS_ => ⟨hS_, ⟨by omega, fun j hj => absurd hj (Nat.not_lt_zero _)⟩⟩
  obtain ⟨k, hgg_⟩ : ∃ x, x = g_ := ⟨_, rfl⟩; subst hgg_
  refine W.castS (f' := upds [(0, Value.string s), (6, Value.string s), (7, iV .i64 ((s.size : Nat) : Int)), (8, bV (((s.size : Nat) : Int) != 36)), (3, iV .i64 ((k : Nat) : Int))] f10) (S' := fun w_ => Mem w [] [] w_ ∧ k ≤ 36 ∧ (∀ j : Nat, j < k → okB s j = true)) rfl rfl ?_
  refine W.and (fun hpp => ?_)
  obtain ⟨hp11, hp12⟩ := hpp
  have kle := hp11
  have hall := hp12
  refine W.seq (fun K13 hK13 => ?_)
  refine W.seq (fun K14 hK14 => ?_)
  refine W.region ?_
  refine Wl.ys (v := iV .i64 ((k : Nat) : Int)) rfl rfl (Ys.pure (fun _ => kr)) ?_
  refine Wl.ys (v := bV (decide (((k : Nat) : Int) < 36))) rfl rfl (Ys.pure (fun _ => kr)) ?_
  refine Wl.nil ?_
  refine hK14 _ _ ?_
  refine W.cond (decide (((k : Nat) : Int) < 36)) kr (fun h15 => ?_) (fun h16 => ?_)
  ·have qh15 := h15; try simp only [zA] at qh15
   refine W.skip' ?_
   refine hK13 _ _ ?_
   refine W.seq (fun K17 hK17 => ?_)
   refine W.block ?_
   refine W.seq (fun K18 hK18 => ?_)
   refine W.region ?_
   refine Wl.ys (v := iV .i64 ((k : Nat) : Int)) rfl rfl (Ys.pure (fun _ => kr)) ?_
   refine Wl.ys (v := bV (((k : Nat) : Int) == 8)) rfl rfl (Ys.pure (fun _ => kr)) ?_
   refine Wl.ys (v := bV (((k : Nat) : Int) == 8)) rfl rfl (Ys.pure (fun _ => kr)) ?_
   refine Wl.guard (v := iV .i64 ((k : Nat) : Int)) (!(((k : Nat) : Int) == 8)) (wantF rfl kr) rfl (fun hg19 => ?_) ?_
   ·have qhg19 := hg19; try simp only [zA] at qhg19
    exact Ys.pure (fun _ => kr)
   refine Wl.guard (v := bV (((k : Nat) : Int) == 13)) (!(((k : Nat) : Int) == 8)) (wantF rfl kr) rfl (fun hg20 => ?_) ?_
   ·have qhg20 := hg20; try simp only [zA] at qhg20
    refine Ys.at (t := 16) (v0 := iV .i64 ((k : Nat) : Int)) (lz (g := !(((k : Nat) : Int) == 8)) (u := undef) hg20 kr) ?_
    exact Ys.pure (fun _ => kr)
   refine Wl.ys (v := bV (q1 k)) rfl rfl (Ys.or' (e := ((k : Nat) : Int) == 8) (b := ((k : Nat) : Int) == 13) rfl kr kr kr) ?_
   refine Wl.ys (v := bV (q1 k)) rfl rfl (Ys.pure (fun _ => kr)) ?_
   refine Wl.guard (v := iV .i64 ((k : Nat) : Int)) (!(q1 k)) (wantF rfl kr) rfl (fun hg21 => ?_) ?_
   ·have qhg21 := hg21; try simp only [zA] at qhg21
    exact Ys.pure (fun _ => kr)
   refine Wl.guard (v := bV (((k : Nat) : Int) == 18)) (!(q1 k)) (wantF rfl kr) rfl (fun hg22 => ?_) ?_
   ·have qhg22 := hg22; try simp only [zA] at qhg22
    refine Ys.at (t := 20) (v0 := iV .i64 ((k : Nat) : Int)) (lz (g := !(q1 k)) (u := undef) hg22 kr) ?_
    exact Ys.pure (fun _ => kr)
   refine Wl.ys (v := bV (q2 k)) rfl rfl (Ys.or' (e := (((k : Nat) : Int) == 8) || (((k : Nat) : Int) == 13)) (b := ((k : Nat) : Int) == 18) rfl kr kr kr) ?_
   refine Wl.ys (v := bV (q2 k)) rfl rfl (Ys.pure (fun _ => kr)) ?_
   refine Wl.guard (v := iV .i64 ((k : Nat) : Int)) (!(q2 k)) (wantF rfl kr) rfl (fun hg23 => ?_) ?_
   ·have qhg23 := hg23; try simp only [zA] at qhg23
    exact Ys.pure (fun _ => kr)
   refine Wl.guard (v := bV (((k : Nat) : Int) == 23)) (!(q2 k)) (wantF rfl kr) rfl (fun hg24 => ?_) ?_
   ·have qhg24 := hg24; try simp only [zA] at qhg24
    refine Ys.at (t := 24) (v0 := iV .i64 ((k : Nat) : Int)) (lz (g := !(q2 k)) (u := undef) hg24 kr) ?_
    exact Ys.pure (fun _ => kr)
   refine Wl.ys (v := bV (q3 k)) rfl rfl (Ys.or' (e := (q1 k) || (((k : Nat) : Int) == 18)) (b := ((k : Nat) : Int) == 23) rfl kr kr kr) ?_
   refine Wl.ys (v := bV (q3 k)) rfl rfl (Ys.pure (fun _ => kr)) ?_
   refine Wl.nil ?_
   refine hK18 _ _ ?_
   refine W.seq (fun K25 hK25 => ?_)
   refine W.region ?_
   refine Wl.ys (v := Value.string s) rfl rfl (Ys.pure (fun _ => kr)) ?_
   refine Wl.ys (v := iV .i64 ((k : Nat) : Int)) rfl rfl (Ys.pure (fun _ => kr)) ?_
   refine Wl.ys (v := iV .u8 (byt s k)) rfl rfl (Ys.indexStr (s := s) (i := ((k : Nat) : Int)) (k := .i64) rfl kr kr Try.runUnderlying9 om om) ?_
   refine Wl.ys (v := bV (decide ((byt s k) ≥ 48))) rfl rfl (Ys.pure (fun _ => kr)) ?_
   refine Wl.ys (v := bV (decide ((byt s k) ≥ 48))) rfl rfl (Ys.pure (fun _ => kr)) ?_
   refine Wl.guard (v := Value.string s) (decide ((byt s k) ≥ 48)) (wantT rfl kr) rfl (fun hg26 => ?_) ?_
   ·have qhg26 := hg26; try simp only [zA] at qhg26
    exact Ys.pure (fun _ => kr)
   refine Wl.guard (v := iV .i64 ((k : Nat) : Int)) (decide ((byt s k) ≥ 48)) (wantT rfl kr) rfl (fun hg27 => ?_) ?_
   ·have qhg27 := hg27; try simp only [zA] at qhg27
    exact Ys.pure (fun _ => kr)
   refine Wl.guard (v := iV .u8 (byt s k)) (decide ((byt s k) ≥ 48)) (wantT rfl kr) rfl (fun hg28 => ?_) ?_
   ·have qhg28 := hg28; try simp only [zA] at qhg28
    refine Ys.at (t := 32) (v0 := Value.string s) (lz (g := decide ((byt s k) ≥ 48)) (u := undef) hg28 kr) ?_
    refine Ys.at (t := 33) (v0 := iV .i64 ((k : Nat) : Int)) (lz (g := decide ((byt s k) ≥ 48)) (u := undef) hg28 kr) ?_
    exact Ys.indexStr (s := s) (i := ((k : Nat) : Int)) (k := .i64) rfl kr kr Try.runUnderlying9 om om
   refine Wl.guard (v := bV (decide ((byt s k) ≤ 57))) (decide ((byt s k) ≥ 48)) (wantT rfl kr) rfl (fun hg29 => ?_) ?_
   ·have qhg29 := hg29; try simp only [zA] at qhg29
    refine Ys.at (t := 34) (v0 := iV .u8 (byt s k)) (lz (g := decide ((byt s k) ≥ 48)) (u := undef) hg29 kr) ?_
    exact Ys.pure (fun _ => kr)
   refine Wl.ys (v := bV ((decide ((byt s k) ≥ 48)) && (decide ((byt s k) ≤ 57)))) rfl rfl (Ys.and (e := decide ((byt s k) ≥ 48)) (b := decide ((byt s k) ≤ 57)) rfl kr kr kr) ?_
   refine Wl.ys (v := bV ((decide ((byt s k) ≥ 48)) && (decide ((byt s k) ≤ 57)))) rfl rfl (Ys.pure (fun _ => kr)) ?_
   refine Wl.guard (v := Value.string s) (!((decide ((byt s k) ≥ 48)) && (decide ((byt s k) ≤ 57)))) (wantF rfl kr) rfl (fun hg30 => ?_) ?_
   ·have qhg30 := hg30; try simp only [zA] at qhg30
    exact Ys.pure (fun _ => kr)
   refine Wl.guard (v := iV .i64 ((k : Nat) : Int)) (!((decide ((byt s k) ≥ 48)) && (decide ((byt s k) ≤ 57)))) (wantF rfl kr) rfl (fun hg31 => ?_) ?_
   ·have qhg31 := hg31; try simp only [zA] at qhg31
    exact Ys.pure (fun _ => kr)
   refine Wl.guard (v := iV .u8 (byt s k)) (!((decide ((byt s k) ≥ 48)) && (decide ((byt s k) ≤ 57)))) (wantF rfl kr) rfl (fun hg32 => ?_) ?_
   ·have qhg32 := hg32; try simp only [zA] at qhg32
    refine Ys.at (t := 38) (v0 := Value.string s) (lz (g := !((decide ((byt s k) ≥ 48)) && (decide ((byt s k) ≤ 57)))) (u := undef) hg32 kr) ?_
    refine Ys.at (t := 39) (v0 := iV .i64 ((k : Nat) : Int)) (lz (g := !((decide ((byt s k) ≥ 48)) && (decide ((byt s k) ≤ 57)))) (u := undef) hg32 kr) ?_
    exact Ys.indexStr (s := s) (i := ((k : Nat) : Int)) (k := .i64) rfl kr kr Try.runUnderlying9 om om
   refine Wl.guard (v := bV (decide ((byt s k) ≥ 97))) (!((decide ((byt s k) ≥ 48)) && (decide ((byt s k) ≤ 57)))) (wantF rfl kr) rfl (fun hg33 => ?_) ?_
   ·have qhg33 := hg33; try simp only [zA] at qhg33
    refine Ys.at (t := 40) (v0 := iV .u8 (byt s k)) (lz (g := !((decide ((byt s k) ≥ 48)) && (decide ((byt s k) ≤ 57)))) (u := undef) hg33 kr) ?_
    exact Ys.pure (fun _ => kr)
   refine Wl.guard (v := bV (decide ((byt s k) ≥ 97))) (!((decide ((byt s k) ≥ 48)) && (decide ((byt s k) ≤ 57)))) (wantF rfl kr) rfl (fun hg34 => ?_) ?_
   ·have qhg34 := hg34; try simp only [zA] at qhg34
    refine Ys.at (t := 41) (v0 := bV (decide ((byt s k) ≥ 97))) (lz (g := !((decide ((byt s k) ≥ 48)) && (decide ((byt s k) ≤ 57)))) (u := undef) hg34 kr) ?_
    exact Ys.pure (fun _ => kr)
   refine Wl.guard (v := Value.string s) ((!((decide ((byt s k) ≥ 48)) && (decide ((byt s k) ≤ 57)))) && (decide ((byt s k) ≥ 97))) (wantTz rfl rfl kr) rfl (fun hg35 => ?_) ?_
   ·have qhg35 := hg35; try simp only [zA] at qhg35
    exact Ys.pure (fun _ => kr)
   refine Wl.guard (v := iV .i64 ((k : Nat) : Int)) ((!((decide ((byt s k) ≥ 48)) && (decide ((byt s k) ≤ 57)))) && (decide ((byt s k) ≥ 97))) (wantTz rfl rfl kr) rfl (fun hg36 => ?_) ?_
   ·have qhg36 := hg36; try simp only [zA] at qhg36
    exact Ys.pure (fun _ => kr)
   refine Wl.guard (v := iV .u8 (byt s k)) ((!((decide ((byt s k) ≥ 48)) && (decide ((byt s k) ≤ 57)))) && (decide ((byt s k) ≥ 97))) (wantTz rfl rfl kr) rfl (fun hg37 => ?_) ?_
   ·have qhg37 := hg37; try simp only [zA] at qhg37
    refine Ys.at (t := 43) (v0 := Value.string s) (lz (g := (!((decide ((byt s k) ≥ 48)) && (decide ((byt s k) ≤ 57)))) && (decide ((byt s k) ≥ 97))) (u := undef) hg37 kr) ?_
    refine Ys.at (t := 44) (v0 := iV .i64 ((k : Nat) : Int)) (lz (g := (!((decide ((byt s k) ≥ 48)) && (decide ((byt s k) ≤ 57)))) && (decide ((byt s k) ≥ 97))) (u := undef) hg37 kr) ?_
    exact Ys.indexStr (s := s) (i := ((k : Nat) : Int)) (k := .i64) rfl kr kr Try.runUnderlying9 om om
   refine Wl.guard (v := bV (decide ((byt s k) ≤ 102))) ((!((decide ((byt s k) ≥ 48)) && (decide ((byt s k) ≤ 57)))) && (decide ((byt s k) ≥ 97))) (wantTz rfl rfl kr) rfl (fun hg38 => ?_) ?_
   ·have qhg38 := hg38; try simp only [zA] at qhg38
    refine Ys.at (t := 45) (v0 := iV .u8 (byt s k)) (lz (g := (!((decide ((byt s k) ≥ 48)) && (decide ((byt s k) ≤ 57)))) && (decide ((byt s k) ≥ 97))) (u := undef) hg38 kr) ?_
    exact Ys.pure (fun _ => kr)
   refine Wl.guard (v := bV ((decide ((byt s k) ≥ 97)) && (decide ((byt s k) ≤ 102)))) (!((decide ((byt s k) ≥ 48)) && (decide ((byt s k) ≤ 57)))) (wantF rfl kr) rfl (fun hg39 => ?_) ?_
   ·have qhg39 := hg39; try simp only [zA] at qhg39
    refine Ys.at (t := 42) (v0 := bV (decide ((byt s k) ≥ 97))) (lz (g := !((decide ((byt s k) ≥ 48)) && (decide ((byt s k) ≤ 57)))) (u := undef) hg39 kr) ?_
    refine Ys.at (t := 46) (v0 := (bif decide ((byt s k) ≥ 97) then bV (decide ((byt s k) ≤ 102)) else undef)) (lz2 (g := !((decide ((byt s k) ≥ 48)) && (decide ((byt s k) ≤ 57)))) hg39 kr) ?_
    exact Ys.and (e := decide ((byt s k) ≥ 97)) (b := decide ((byt s k) ≤ 102)) rfl kr kr kr
   refine Wl.ys (v := bV (((decide ((byt s k) ≥ 48)) && (decide ((byt s k) ≤ 57))) || ((decide ((byt s k) ≥ 97)) && (decide ((byt s k) ≤ 102))))) rfl rfl (Ys.or' (e := (decide ((byt s k) ≥ 48)) && (decide ((byt s k) ≤ 57))) (b := (decide ((byt s k) ≥ 97)) && (decide ((byt s k) ≤ 102))) rfl kr kr kr) ?_
   refine Wl.ys (v := bV (((decide ((byt s k) ≥ 48)) && (decide ((byt s k) ≤ 57))) || ((decide ((byt s k) ≥ 97)) && (decide ((byt s k) ≤ 102))))) rfl rfl (Ys.pure (fun _ => kr)) ?_
   refine Wl.nil ?_
   refine hK25 _ _ ?_
   refine W.seq (fun K40 hK40 => ?_)
   refine W.region ?_
   refine Wl.ys (v := bV (q3 k)) rfl rfl (Ys.pure (fun _ => kr)) ?_
   refine Wl.ys (v := Value.string s) rfl rfl (Ys.pure (fun _ => kr)) ?_
   refine Wl.ys (v := iV .i64 ((k : Nat) : Int)) rfl rfl (Ys.pure (fun _ => kr)) ?_
   refine Wl.ys (v := iV .u8 (byt s k)) rfl rfl (Ys.indexStr (s := s) (i := ((k : Nat) : Int)) (k := .i64) rfl kr kr Try.runUnderlying9 om om) ?_
   refine Wl.ys (v := bV ((byt s k) == 45)) rfl rfl (Ys.pure (fun _ => kr)) ?_
   refine Wl.ys (v := bV (!((q3 k) == ((byt s k) == 45)))) rfl rfl (Ys.pure (fun _ => kr)) ?_
   refine Wl.ys (v := bV (!((q3 k) == ((byt s k) == 45)))) rfl rfl (Ys.pure (fun _ => kr)) ?_
   refine Wl.guard (v := bV (q3 k)) (!(!((q3 k) == ((byt s k) == 45)))) (wantF rfl kr) rfl (fun hg41 => ?_) ?_
   ·have qhg41 := hg41; try simp only [zA] at qhg41
    exact Ys.pure (fun _ => kr)
   refine Wl.guard (v := bV (!(q3 k))) (!(!((q3 k) == ((byt s k) == 45)))) (wantF rfl kr) rfl (fun hg42 => ?_) ?_
   ·have qhg42 := hg42; try simp only [zA] at qhg42
    refine Ys.at (t := 56) (v0 := bV (q3 k)) (lz (g := !(!((q3 k) == ((byt s k) == 45)))) (u := undef) hg42 kr) ?_
    exact Ys.pure (fun _ => kr)
   refine Wl.guard (v := bV (!(q3 k))) (!(!((q3 k) == ((byt s k) == 45)))) (wantF rfl kr) rfl (fun hg43 => ?_) ?_
   ·have qhg43 := hg43; try simp only [zA] at qhg43
    refine Ys.at (t := 57) (v0 := bV (!(q3 k))) (lz (g := !(!((q3 k) == ((byt s k) == 45)))) (u := undef) hg43 kr) ?_
    exact Ys.pure (fun _ => kr)
   refine Wl.guard (v := bV (((decide ((byt s k) ≥ 48)) && (decide ((byt s k) ≤ 57))) || ((decide ((byt s k) ≥ 97)) && (decide ((byt s k) ≤ 102))))) ((!(!((q3 k) == ((byt s k) == 45)))) && !(q3 k)) (wantTz rfl rfl kr) rfl (fun hg44 => ?_) ?_
   ·have qhg44 := hg44; try simp only [zA] at qhg44
    exact Ys.pure (fun _ => kr)
   refine Wl.guard (v := bV (!(((decide ((byt s k) ≥ 48)) && (decide ((byt s k) ≤ 57))) || ((decide ((byt s k) ≥ 97)) && (decide ((byt s k) ≤ 102)))))) ((!(!((q3 k) == ((byt s k) == 45)))) && !(q3 k)) (wantTz rfl rfl kr) rfl (fun hg45 => ?_) ?_
   ·have qhg45 := hg45; try simp only [zA] at qhg45
    refine Ys.at (t := 59) (v0 := bV (((decide ((byt s k) ≥ 48)) && (decide ((byt s k) ≤ 57))) || ((decide ((byt s k) ≥ 97)) && (decide ((byt s k) ≤ 102))))) (lz (g := (!(!((q3 k) == ((byt s k) == 45)))) && !(q3 k)) (u := undef) hg45 kr) ?_
    exact Ys.pure (fun _ => kr)
   refine Wl.guard (v := bV ((!(q3 k)) && (!(((decide ((byt s k) ≥ 48)) && (decide ((byt s k) ≤ 57))) || ((decide ((byt s k) ≥ 97)) && (decide ((byt s k) ≤ 102))))))) (!(!((q3 k) == ((byt s k) == 45)))) (wantF rfl kr) rfl (fun hg46 => ?_) ?_
   ·have qhg46 := hg46; try simp only [zA] at qhg46
    refine Ys.at (t := 58) (v0 := bV (!(q3 k))) (lz (g := !(!((q3 k) == ((byt s k) == 45)))) (u := undef) hg46 kr) ?_
    refine Ys.at (t := 60) (v0 := (bif !(q3 k) then bV (!(((decide ((byt s k) ≥ 48)) && (decide ((byt s k) ≤ 57))) || ((decide ((byt s k) ≥ 97)) && (decide ((byt s k) ≤ 102))))) else undef)) (lz2 (g := !(!((q3 k) == ((byt s k) == 45)))) hg46 kr) ?_
    exact Ys.and (e := !(q3 k)) (b := !(((decide ((byt s k) ≥ 48)) && (decide ((byt s k) ≤ 57))) || ((decide ((byt s k) ≥ 97)) && (decide ((byt s k) ≤ 102))))) rfl kr kr kr
   refine Wl.ys (v := bV ((!((q3 k) == ((byt s k) == 45))) || ((!(q3 k)) && (!(((decide ((byt s k) ≥ 48)) && (decide ((byt s k) ≤ 57))) || ((decide ((byt s k) ≥ 97)) && (decide ((byt s k) ≤ 102)))))))) rfl rfl (Ys.or' (e := !((q3 k) == ((byt s k) == 45))) (b := (!(q3 k)) && (!(((decide ((byt s k) ≥ 48)) && (decide ((byt s k) ≤ 57))) || ((decide ((byt s k) ≥ 97)) && (decide ((byt s k) ≤ 102)))))) rfl kr kr kr) ?_
   refine Wl.nil ?_
   refine hK40 _ _ ?_
   refine W.cond ((!((q3 k) == ((byt s k) == 45))) || ((!(q3 k)) && (!(((decide ((byt s k) ≥ 48)) && (decide ((byt s k) ≤ 57))) || ((decide ((byt s k) ≥ 97)) && (decide ((byt s k) ≤ 102))))))) kr (fun h47 => ?_) (fun h48 => ?_)
   ·have qh47 := h47; try simp only [zA] at qh47
    refine W.seq (fun K49 hK49 => ?_)
    refine W.region ?_
    refine Wl.ys (v := bV false) rfl rfl (Ys.pure (fun _ => kr)) ?_
    refine Wl.nil ?_
    refine hK49 _ _ ?_
    refine W.ret ?_
    show ∀ w_, _ → bodyPost Try.prog Try.f35 _ Exit.ret _ w_
    exact fun w_ hS_ => ret1 rfl (RV.tmp (v := bV false) kr) hS_ ⟨by clear hK1 hK2 hK3 hK7 hK8 hJ9 hK13 hK14 hK17 hK18 hK25 hK40 hK49; refine congrArg Ending.returned ?_; exact bool_congr (bad s k om (not_true_ ((ref_ok k (byt s k)).symm.trans h47))), hS_.below⟩
   ·have qh48 := h48; try simp only [zA] at qh48
    refine W.skip' ?_
    refine hK17 _ _ ?_
    refine W.region ?_
    refine Wl.ys (v := iV .i64 ((k : Nat) : Int)) rfl rfl (Ys.pure (fun _ => kr)) ?_
    refine Wl.ys (v := iV .i64 ((k + 1 : Nat) : Int)) rfl rfl ((Ys.pure (v := .int .i64 (iadd .i64 ((k : Nat) : Int) 1)) (fun _ => kr)).conseq (int_congr (iadd_eq om om om))) ?_
    refine Wl.ys (v := iV .i64 ((k + 1 : Nat) : Int)) rfl rfl (Ys.pure (fun _ => kr)) ?_
    refine Wl.nil ?_
    refine fun w_ hS_ => hJ9 (k + 1) _ _ (by first | omega | (dsimp only; omega)) ?_ ⟨hS_, ⟨by omega, fun j hj => by rcases Nat.lt_succ_iff_lt_or_eq.1 hj with hj | hj; exact hall j hj; subst hj; exact Bool.not_eq_false_iff_eq_true_ ((ref_ok j (byt s j)).symm.trans h48)⟩⟩
    refine ⟨rfl, rfl, rfl, rfl, (by first | rfl | exact int_congr om | simp), trivial⟩
  ·have qh16 := h16; try simp only [zA] at qh16
   refine W.exit ?_
   refine hK7 _ _ ?_
   refine W.seq (fun K50 hK50 => ?_)
   refine W.region ?_
   refine Wl.ys (v := bV true) rfl rfl (Ys.pure (fun _ => kr)) ?_
   refine Wl.nil ?_
   refine hK50 _ _ ?_
   refine W.ret ?_
   show ∀ w_, _ → bodyPost Try.prog Try.f35 _ Exit.ret _ w_
   exact fun w_ hS_ => ret1 rfl (RV.tmp (v := bV true) kr) hS_ ⟨by clear hK1 hK2 hK3 hK7 hK8 hJ9 hK13 hK14 hK50; refine congrArg Ending.returned ?_; exact bool_congr (good2 s om k om hall), hS_.below⟩
end Go.Proofs.Ytjkhmbigoloeiaa.Conf
