import Derived.Test.YtjkhmbigoloeiaaJOConf2
import Derived.Test.YtjkhmbigoloeiaaJOArgs
import Derived.Laws.RangeAny
import Derived.Laws.RangeString
set_option linter.unusedVariables false
set_option linter.unusedSimpArgs false
namespace Go.Proofs.Ytjkhmbigoloeiaa.Conf
open Go.RowKit Obase
def isF (F : Nat → Fwd) (proto port : Int) (k : Nat) : Bool := (F k).proto == proto && (F k).port == port
def findN (F : Nat → Fwd) (proto port : Int) : Nat → Nat → Option Nat
  | 0, _ => none
  | n + 1, k => bif isF F proto port k then some k else findN F proto port n (k + 1)
def find (F : Nat → Fwd) (proto port : Int) (len : Nat) : Fwd × Bool :=
  match findN F proto port len 0 with
  | none => (⟨0, 0, 0, 0⟩, false)
  | some k => (F k, true)
theorem findN_some (F : Nat → Fwd) (proto port : Int) (len k : Nat) : ∀ n j, j + n = len → j ≤ k → k < len → (∀ i, i < k → isF F proto port i = false) → isF F proto port k = true → findN F proto port n j = some k := by
 intro n
 induction n with
 | zero => intro j h1 h2 h3; omega
 | succ n ih =>
  intro j h1 h2 h3 h4 h5
  unfold findN
  by_cases hj : j = k
  ·subst hj; rw [h5]; rfl
  ·rw [h4 j om]; exact ih (j + 1) om om h3 h4 h5
theorem findN_none (F : Nat → Fwd) (proto port : Int) (len : Nat) : ∀ n j, j + n = len → (∀ i, i < len → isF F proto port i = false) → findN F proto port n j = none := by
 intro n
 induction n with
 | zero => intro j h1 h2; rfl
 | succ n ih =>
  intro j h1 h2
  unfold findN
  rw [h2 j om]; exact ih (j + 1) om h2
theorem find_some (F : Nat → Fwd) (proto port : Int) (len k : Nat) (h3 : k < len) (h4 : ∀ i, i < k → isF F proto port i = false) (h5 : isF F proto port k = true) : find F proto port len = (F k, true) := by
 unfold find; rw [findN_some F proto port len k len 0 om om h3 h4 h5]
theorem find_none (F : Nat → Fwd) (proto port : Int) (len : Nat) (h4 : ∀ i, i < len → isF F proto port i = false) : find F proto port len = (⟨0, 0, 0, 0⟩, false) := by
 unfold find; rw [findN_none F proto port len len 0 om h4]
def fwv (x : Fwd) : List Value := [.int .u8 x.proto, .int .u16 x.port, .int .u16 x.dest, .int .u32 x.host]
theorem find_c (c : Cfg) (proto port : Int) (F : Nat → Fwd) (w : World) (hsl : Sl w c.fa c.fl 4 (fun k => [iV .u8 ((F k).proto), iV .u16 ((F k).port), iV .u16 ((F k).dest), iV .u32 ((F k).host)])) (hlen : c.fl ≤ 4611686018427387904) : Calls Try.prog 89 #[Value.agg (cfL c).toArray, iV .u8 proto, iV .u16 port] w (Ret w (.tuple #[.agg (fwv (find F proto port c.fl).1).toArray, .bool (find F proto port c.fl).2])) := by
 refine calls_W (M := []) (L := []) (n := 30) Try.func89 rfl rfl sp (Mem.refl _) ?_
 refine W.seq (fun K1 hK1 => ?_)
 refine W.region ?_
 refine Wl.box (v := Value.agg (cfL c).toArray) (cs := (cfL c)) rfl rfl rfl kr rfl (fun p3 => ?_)
 refine Wl.alloc (z := Value.agg ([iV .u8 0, iV .u16 0, iV .u16 0, iV .u32 0]).toArray) (cs := [iV .u8 0, iV .u16 0, iV .u16 0, iV .u32 0]) rfl rfl rfl Try.zeroValue81 rfl (fun p6 => ?_)
 refine Wl.ys (v := bV false) rfl rfl (Ys.pure (fun _ => kr)) ?_
 refine Wl.nil ?_
 refine hK1 _ _ ?_
 refine W.seq (fun K2 hK2 => ?_)
 refine W.seq (fun K3 hK3 => ?_)
 refine W.region ?_
 refine Wl.ys (v := pV p3 25) rfl rfl (Ys.pure (fun _ => kr)) ?_
 refine Wl.ys (v := Value.slice c.fa c.fl c.fc) rfl rfl (Ys.load (b := p3) (o' := 25) (i := 1) (cs := (cfL c)) (v := Value.slice c.fa c.fl c.fc) rfl kr Try.isAgg26 rfl rfl) ?_
 refine Wl.ys (v := iV .i64 ((c.fl : Nat) : Int)) rfl rfl (Ys.pure (fun _ => kr)) ?_
 refine Wl.ys (v := iV .i64 0) rfl rfl (Ys.pure (fun _ => kr)) ?_
 refine Wl.nil ?_
 refine hK3 _ _ ?_
 refine W.block ?_
 refine W.loop (γ := Nat) (fun g_ => [(0, Value.agg (cfL c).toArray), (1, iV .u8 proto), (2, iV .u16 port), (3, pV p3 0), (6, pV p6 0), (10, pV p3 25), (11, Value.slice c.fa c.fl c.fc), (12, iV .i64 ((c.fl : Nat) : Int)), (13, iV .i64 ((g_ : Nat) : Int))]) (fun g_ w_ => Mem w [] [cb p6 [iV .u8 0, iV .u16 0, iV .u16 0, iV .u32 0] 81, cb p3 (cfL c) 28] w_ ∧ g_ ≤ c.fl ∧ (∀ j : Nat, j < g_ → isF F proto port j = false)) (fun g_ => c.fl - g_) (0) ?_ ?_ (fun g_ f5 J4 hJ4 => ?_)
 ·refine ⟨rfl, rfl, rfl, rfl, rfl, rfl, rfl, rfl, (by first | rfl | exact int_congr om | simp), trivial⟩
 ·exact fun w_ hS_ => ⟨hS_, ⟨Nat.zero_le _, fun j hj => absurd hj (Nat.not_lt_zero _)⟩⟩
 obtain ⟨k, hgg_⟩ : ∃ x, x = g_ := ⟨_, rfl⟩; subst hgg_
 refine W.castS (f' := upds [(0, Value.agg (cfL c).toArray), (1, iV .u8 proto), (2, iV .u16 port), (3, pV p3 0), (6, pV p6 0), (10, pV p3 25), (11, Value.slice c.fa c.fl c.fc), (12, iV .i64 ((c.fl : Nat) : Int)), (13, iV .i64 ((k : Nat) : Int))] f5) (S' := fun w_ => Mem w [] [cb p6 [iV .u8 0, iV .u16 0, iV .u16 0, iV .u32 0] 81, cb p3 (cfL c) 28] w_ ∧ k ≤ c.fl ∧ (∀ j : Nat, j < k → isF F proto port j = false)) rfl rfl ?_
 refine W.and (fun hpp => ?_)
 obtain ⟨hp6, hp7⟩ := hpp
 have kle := hp6
 have hall := hp7
 refine W.seq (fun K8 hK8 => ?_)
 refine W.region ?_
 refine Wl.ys (v := bV (decide (((k : Nat) : Int) < ((c.fl : Nat) : Int)))) rfl rfl (Ys.pure (fun _ => kr)) ?_
 refine Wl.nil ?_
 refine hK8 _ _ ?_
 refine W.seq (fun K9 hK9 => ?_)
 refine W.cond (decide (((k : Nat) : Int) < ((c.fl : Nat) : Int))) kr (fun h10 => ?_) (fun h11 => ?_)
 ·have qh10 := h10; try simp only [zA] at qh10
  refine W.skip' ?_
  refine hK9 _ _ ?_
  refine W.seq (fun K12 hK12 => ?_)
  refine W.block ?_
  refine W.seq (fun K13 hK13 => ?_)
  refine W.region ?_
  refine Wl.ys (v := Value.pointer (some ((c.fa.getD default).add (k * 4)))) rfl rfl (Ys.indexAddr (k := .i64) (a := c.fa) (len := c.fl) (cap := c.fc) (i := ((k : Nat) : Int)) (sz := 4) rfl kr kr Try.runUnderlying26 Try.sizeOf81 (hsl.here om) om om) ?_
  refine Wl.ys (v := Value.agg ([iV .u8 ((F k).proto), iV .u16 ((F k).port), iV .u16 ((F k).dest), iV .u32 ((F k).host)]).toArray) rfl rfl (Ys.loadOldN (vs := [iV .u8 ((F k).proto), iV .u16 ((F k).port), iV .u16 ((F k).dest), iV .u32 ((F k).host)]) rfl kr Try.isAgg81 Try.sizeOf81 (adr_lt _ () (hsl.lt om)) (sp) rfl (hsl.cell k om)) ?_
  refine Wl.alloc (z := Value.agg ([iV .u8 0, iV .u16 0, iV .u16 0, iV .u32 0]).toArray) (cs := [iV .u8 0, iV .u16 0, iV .u16 0, iV .u32 0]) rfl rfl rfl Try.zeroValue81 rfl (fun p9 => ?_)
  refine Wl.storeN (b := p9) (o' := 0) (i := 0) (cs := [iV .u8 0, iV .u16 0, iV .u16 0, iV .u32 0]) (vs := [iV .u8 ((F k).proto), iV .u16 ((F k).port), iV .u16 ((F k).dest), iV .u32 ((F k).host)]) (cs' := [iV .u8 ((F k).proto), iV .u16 ((F k).port), iV .u16 ((F k).dest), iV .u32 ((F k).host)]) (L' := [cb p9 [iV .u8 ((F k).proto), iV .u16 ((F k).port), iV .u16 ((F k).dest), iV .u32 ((F k).host)] 81, cb p6 [iV .u8 0, iV .u16 0, iV .u16 0, iV .u32 0] 81, cb p3 (cfL c) 28]) rfl rfl rfl kr kr Try.sizeOf81 (by simp [Value.oneCell']) rfl sp rfl rfl ?_
  refine Wl.nil ?_
  refine hK13 _ _ ?_
  refine W.seq (fun K14 hK14 => ?_)
  refine W.region ?_
  refine Wl.ys (v := pV p9 0) rfl rfl (Ys.pure (fun _ => kr)) ?_
  refine Wl.ys (v := iV .u8 ((F k).proto)) rfl rfl (Ys.load (b := p9) (o' := 0) (i := 0) (cs := [iV .u8 ((F k).proto), iV .u16 ((F k).port), iV .u16 ((F k).dest), iV .u32 ((F k).host)]) (v := iV .u8 ((F k).proto)) rfl kr Try.isAgg5 rfl rfl) ?_
  refine Wl.ys (v := iV .u8 proto) rfl rfl (Ys.pure (fun _ => kr)) ?_
  refine Wl.ys (v := bV (((F k).proto) == proto)) rfl rfl (Ys.pure (fun _ => kr)) ?_
  refine Wl.ys (v := bV (((F k).proto) == proto)) rfl rfl (Ys.pure (fun _ => kr)) ?_
  refine Wl.guard (v := pV p9 1) (((F k).proto) == proto) (wantT rfl kr) rfl (fun hg15 => ?_) ?_
  ·have qhg15 := hg15; try simp only [zA] at qhg15
   exact Ys.pure (fun _ => kr)
  refine Wl.guard (v := iV .u16 ((F k).port)) (((F k).proto) == proto) (wantT rfl kr) rfl (fun hg16 => ?_) ?_
  ·have qhg16 := hg16; try simp only [zA] at qhg16
   refine Ys.at (t := 22) (v0 := pV p9 1) (lz (g := ((F k).proto) == proto) (u := undef) hg16 kr) ?_
   exact Ys.load (b := p9) (o' := 1) (i := 0) (cs := [iV .u8 ((F k).proto), iV .u16 ((F k).port), iV .u16 ((F k).dest), iV .u32 ((F k).host)]) (v := iV .u16 ((F k).port)) rfl kr Try.isAgg29 rfl rfl
  refine Wl.guard (v := iV .u16 port) (((F k).proto) == proto) (wantT rfl kr) rfl (fun hg17 => ?_) ?_
  ·have qhg17 := hg17; try simp only [zA] at qhg17
   exact Ys.pure (fun _ => kr)
  refine Wl.guard (v := bV (((F k).port) == port)) (((F k).proto) == proto) (wantT rfl kr) rfl (fun hg18 => ?_) ?_
  ·have qhg18 := hg18; try simp only [zA] at qhg18
   refine Ys.at (t := 23) (v0 := iV .u16 ((F k).port)) (lz (g := ((F k).proto) == proto) (u := undef) hg18 kr) ?_
   refine Ys.at (t := 24) (v0 := iV .u16 port) (lz (g := ((F k).proto) == proto) (u := undef) hg18 kr) ?_
   exact Ys.pure (fun _ => kr)
  refine Wl.ys (v := bV ((((F k).proto) == proto) && (((F k).port) == port))) rfl rfl (Ys.and (e := ((F k).proto) == proto) (b := ((F k).port) == port) rfl kr kr kr) ?_
  refine Wl.nil ?_
  refine hK14 _ _ ?_
  refine W.cond ((((F k).proto) == proto) && (((F k).port) == port)) kr (fun h19 => ?_) (fun h20 => ?_)
  ·have qh19 := h19; try simp only [zA] at qh19
   refine W.seq (fun K21 hK21 => ?_)
   refine W.region ?_
   refine Wl.ys (v := Value.agg ([iV .u8 ((F k).proto), iV .u16 ((F k).port), iV .u16 ((F k).dest), iV .u32 ((F k).host)]).toArray) rfl rfl (Ys.loadN (b := p9) (o' := 0) (i := 0) (cs := [iV .u8 ((F k).proto), iV .u16 ((F k).port), iV .u16 ((F k).dest), iV .u32 ((F k).host)]) (vs := [iV .u8 ((F k).proto), iV .u16 ((F k).port), iV .u16 ((F k).dest), iV .u32 ((F k).host)]) rfl kr Try.isAgg81 Try.sizeOf81 rfl rfl rfl) ?_
   refine Wl.storeN (b := p6) (o' := 0) (i := 1) (cs := [iV .u8 0, iV .u16 0, iV .u16 0, iV .u32 0]) (vs := [iV .u8 ((F k).proto), iV .u16 ((F k).port), iV .u16 ((F k).dest), iV .u32 ((F k).host)]) (cs' := [iV .u8 ((F k).proto), iV .u16 ((F k).port), iV .u16 ((F k).dest), iV .u32 ((F k).host)]) (L' := [cb p9 [iV .u8 ((F k).proto), iV .u16 ((F k).port), iV .u16 ((F k).dest), iV .u32 ((F k).host)] 81, cb p6 [iV .u8 ((F k).proto), iV .u16 ((F k).port), iV .u16 ((F k).dest), iV .u32 ((F k).host)] 81, cb p3 (cfL c) 28]) rfl rfl rfl kr kr Try.sizeOf81 (by simp [Value.oneCell']) rfl sp rfl rfl ?_
   refine Wl.ys (v := bV true) rfl rfl (Ys.pure (fun _ => kr)) ?_
   refine Wl.nil ?_
   refine hK21 _ _ ?_
   refine W.ret ?_
   show ∀ w_, _ → bodyPost Try.prog Try.f89 _ Exit.ret _ w_
   exact fun w_ hS_ => ret2 rfl (RV.cellN (b := p6) (o' := 0) (i := 1) (cs := [iV .u8 ((F k).proto), iV .u16 ((F k).port), iV .u16 ((F k).dest), iV .u32 ((F k).host)]) (vs := [iV .u8 ((F k).proto), iV .u16 ((F k).port), iV .u16 ((F k).dest), iV .u32 ((F k).host)]) kr Try.isAgg81 Try.sizeOf81 rfl rfl rfl) (RV.tmp (v := bV true) kr) hS_ ⟨by clear hK1 hK2 hK3 hJ4 hK8 hK9 hK12 hK13 hK14 hK21; refine congrArg Ending.returned ?_; rw [find_some F proto port c.fl k om hall h19]; rfl, hS_.below⟩
  ·have qh20 := h20; try simp only [zA] at qh20
   refine W.skip' ?_
   refine hK12 _ _ ?_
   refine W.region ?_
   refine Wl.ys (v := iV .i64 ((k + 1 : Nat) : Int)) rfl rfl ((Ys.pure (v := .int .i64 (iadd .i64 ((k : Nat) : Int) 1)) (fun _ => kr)).conseq (int_congr (iadd_eq om om om))) ?_
   refine Wl.ys (v := iV .i64 ((k + 1 : Nat) : Int)) rfl rfl (Ys.pure (fun _ => kr)) ?_
   refine Wl.nil ?_
   refine fun w_ hS_ => hJ4 (k + 1) _ _ (by first | omega | (dsimp only; omega)) ?_ ⟨(hS_.sublist (List.Sublist.cons _ (List.Sublist.cons_cons _ (List.Sublist.cons_cons _ List.Sublist.slnil)))), ⟨by omega, fun j hj => by rcases Nat.lt_succ_iff_lt_or_eq.1 hj with hj | hj; exact hall j hj; subst hj; exact h20⟩⟩
   refine ⟨rfl, rfl, rfl, rfl, rfl, rfl, rfl, rfl, (by first | rfl | exact int_congr om | simp), trivial⟩
 ·have qh11 := h11; try simp only [zA] at qh11
  refine W.exit ?_
  refine hK2 _ _ ?_
  refine W.seq (fun K22 hK22 => ?_)
  refine W.region ?_
  refine Wl.ys (v := Value.agg ([iV .u8 0, iV .u16 0, iV .u16 0, iV .u32 0]).toArray) rfl rfl (Ys.pure (fun _ => kr)) ?_
  refine Wl.storeN (b := p6) (o' := 0) (i := 0) (cs := [iV .u8 0, iV .u16 0, iV .u16 0, iV .u32 0]) (vs := [iV .u8 0, iV .u16 0, iV .u16 0, iV .u32 0]) (cs' := [iV .u8 0, iV .u16 0, iV .u16 0, iV .u32 0]) (L' := [cb p6 [iV .u8 0, iV .u16 0, iV .u16 0, iV .u32 0] 81, cb p3 (cfL c) 28]) rfl rfl rfl kr kr Try.sizeOf81 (by simp [Value.oneCell']) rfl sp rfl rfl ?_
  refine Wl.ys (v := bV false) rfl rfl (Ys.pure (fun _ => kr)) ?_
  refine Wl.nil ?_
  refine hK22 _ _ ?_
  refine W.ret ?_
  show ∀ w_, _ → bodyPost Try.prog Try.f89 _ Exit.ret _ w_
  exact fun w_ hS_ => ret2 rfl (RV.cellN (b := p6) (o' := 0) (i := 0) (cs := [iV .u8 0, iV .u16 0, iV .u16 0, iV .u32 0]) (vs := [iV .u8 0, iV .u16 0, iV .u16 0, iV .u32 0]) kr Try.isAgg81 Try.sizeOf81 rfl rfl rfl) (RV.tmp (v := bV false) kr) hS_ ⟨by clear hK1 hK2 hK3 hJ4 hK8 hK9 hK22; refine congrArg Ending.returned ?_; rw [find_none F proto port c.fl (fun i hi => hall i om)]; rfl, hS_.below⟩
theorem find2_c (c : Cfg) (proto port : Int) (F : Nat → Fwd) (w : World) (hsl : Sl w c.fa c.fl 4 (fun k => [iV .u8 ((F k).proto), iV .u16 ((F k).port), iV .u16 ((F k).dest), iV .u32 ((F k).host)])) (hlen : c.fl ≤ 4611686018427387904) : Calls Try.prog 31 #[Value.agg (cfL c).toArray, iV .u8 proto, iV .u16 port] w (Ret w (.tuple #[.agg (fwv (find F proto port c.fl).1).toArray, .bool (find F proto port c.fl).2])) := by
 refine calls_W (M := []) (L := []) (n := 40) Try.func31 rfl rfl sp (Mem.refl _) ?_
 refine W.seq (fun K1 hK1 => ?_)
 refine W.region ?_
 refine Wl.box (v := Value.agg (cfL c).toArray) (cs := (cfL c)) rfl rfl rfl kr rfl (fun p3 => ?_)
 refine Wl.alloc (z := Value.agg ([iV .u8 0, iV .u16 0, iV .u16 0, iV .u32 0]).toArray) (cs := [iV .u8 0, iV .u16 0, iV .u16 0, iV .u32 0]) rfl rfl rfl Try.zeroValue81 rfl (fun p6 => ?_)
 refine Wl.ys (v := bV false) rfl rfl (Ys.pure (fun _ => kr)) ?_
 refine Wl.nil ?_
 refine hK1 _ _ ?_
 refine W.seq (fun K2 hK2 => ?_)
 refine W.seq (fun K3 hK3 => ?_)
 refine W.region ?_
 refine Wl.ys (v := iV .i64 0) rfl rfl (Ys.pure (fun _ => kr)) ?_
 refine Wl.nil ?_
 refine hK3 _ _ ?_
 refine W.block ?_
 refine W.loop (γ := Nat) (fun g_ => [(0, Value.agg (cfL c).toArray), (1, iV .u8 proto), (2, iV .u16 port), (3, pV p3 0), (6, pV p6 0), (8, iV .i64 ((g_ : Nat) : Int))]) (fun g_ w_ => Mem w [] [cb p6 [iV .u8 0, iV .u16 0, iV .u16 0, iV .u32 0] 81, cb p3 (cfL c) 28] w_ ∧ g_ ≤ c.fl ∧ (∀ j : Nat, j < g_ → isF F proto port j = false)) (fun g_ => c.fl - g_) (0) ?_ ?_ (fun g_ f5 J4 hJ4 => ?_)
 ·refine ⟨rfl, rfl, rfl, rfl, rfl, (by first | rfl | exact int_congr om | simp), trivial⟩
 ·exact fun w_ hS_ => ⟨hS_, ⟨Nat.zero_le _, fun j hj => absurd hj (Nat.not_lt_zero _)⟩⟩
 obtain ⟨k, hgg_⟩ : ∃ x, x = g_ := ⟨_, rfl⟩; subst hgg_
 refine W.castS (f' := upds [(0, Value.agg (cfL c).toArray), (1, iV .u8 proto), (2, iV .u16 port), (3, pV p3 0), (6, pV p6 0), (8, iV .i64 ((k : Nat) : Int))] f5) (S' := fun w_ => Mem w [] [cb p6 [iV .u8 0, iV .u16 0, iV .u16 0, iV .u32 0] 81, cb p3 (cfL c) 28] w_ ∧ k ≤ c.fl ∧ (∀ j : Nat, j < k → isF F proto port j = false)) rfl rfl ?_
 refine W.and (fun hpp => ?_)
 obtain ⟨hp6, hp7⟩ := hpp
 have kle := hp6
 have hall := hp7
 refine W.seq (fun K8 hK8 => ?_)
 refine W.seq (fun K9 hK9 => ?_)
 refine W.region ?_
 refine Wl.ys (v := iV .i64 ((k : Nat) : Int)) rfl rfl (Ys.pure (fun _ => kr)) ?_
 refine Wl.ys (v := pV p3 25) rfl rfl (Ys.pure (fun _ => kr)) ?_
 refine Wl.ys (v := Value.slice c.fa c.fl c.fc) rfl rfl (Ys.load (b := p3) (o' := 25) (i := 1) (cs := (cfL c)) (v := Value.slice c.fa c.fl c.fc) rfl kr Try.isAgg26 rfl rfl) ?_
 refine Wl.ys (v := iV .i64 ((c.fl : Nat) : Int)) rfl rfl (Ys.pure (fun _ => kr)) ?_
 refine Wl.ys (v := bV (decide (((k : Nat) : Int) < ((c.fl : Nat) : Int)))) rfl rfl (Ys.pure (fun _ => kr)) ?_
 refine Wl.nil ?_
 refine hK9 _ _ ?_
 refine W.cond (decide (((k : Nat) : Int) < ((c.fl : Nat) : Int))) kr (fun h10 => ?_) (fun h11 => ?_)
 ·have qh10 := h10; try simp only [zA] at qh10
  refine W.skip' ?_
  refine hK8 _ _ ?_
  refine W.seq (fun K12 hK12 => ?_)
  refine W.block ?_
  refine W.seq (fun K13 hK13 => ?_)
  refine W.region ?_
  refine Wl.ys (v := pV p3 25) rfl rfl (Ys.pure (fun _ => kr)) ?_
  refine Wl.ys (v := Value.slice c.fa c.fl c.fc) rfl rfl (Ys.load (b := p3) (o' := 25) (i := 1) (cs := (cfL c)) (v := Value.slice c.fa c.fl c.fc) rfl kr Try.isAgg26 rfl rfl) ?_
  refine Wl.ys (v := iV .i64 ((k : Nat) : Int)) rfl rfl (Ys.pure (fun _ => kr)) ?_
  refine Wl.ys (v := Value.pointer (some ((c.fa.getD default).add (k * 4)))) rfl rfl (Ys.indexAddr (k := .i64) (a := c.fa) (len := c.fl) (cap := c.fc) (i := ((k : Nat) : Int)) (sz := 4) rfl kr kr Try.runUnderlying26 Try.sizeOf81 (hsl.here om) om om) ?_
  refine Wl.ys (v := Value.pointer (some ((c.fa.getD default).add (k * 4)))) rfl rfl (Ys.pure (fun _ => kr)) ?_
  refine Wl.ys (v := iV .u8 ((F k).proto)) rfl rfl (Ys.loadOld (v := iV .u8 ((F k).proto)) rfl kr Try.isAgg5 (adr_lt _ () (hsl.lt om)) (sp) (hsl.cell k om 0 _ rfl)) ?_
  refine Wl.ys (v := iV .u8 proto) rfl rfl (Ys.pure (fun _ => kr)) ?_
  refine Wl.ys (v := bV (((F k).proto) == proto)) rfl rfl (Ys.pure (fun _ => kr)) ?_
  refine Wl.ys (v := bV (((F k).proto) == proto)) rfl rfl (Ys.pure (fun _ => kr)) ?_
  refine Wl.guard (v := pV p3 25) (((F k).proto) == proto) (wantT rfl kr) rfl (fun hg14 => ?_) ?_
  ·have qhg14 := hg14; try simp only [zA] at qhg14
   exact Ys.pure (fun _ => kr)
  refine Wl.guard (v := Value.slice c.fa c.fl c.fc) (((F k).proto) == proto) (wantT rfl kr) rfl (fun hg15 => ?_) ?_
  ·have qhg15 := hg15; try simp only [zA] at qhg15
   refine Ys.at (t := 25) (v0 := pV p3 25) (lz (g := ((F k).proto) == proto) (u := undef) hg15 kr) ?_
   exact Ys.load (b := p3) (o' := 25) (i := 1) (cs := (cfL c)) (v := Value.slice c.fa c.fl c.fc) rfl kr Try.isAgg26 rfl rfl
  refine Wl.guard (v := iV .i64 ((k : Nat) : Int)) (((F k).proto) == proto) (wantT rfl kr) rfl (fun hg16 => ?_) ?_
  ·have qhg16 := hg16; try simp only [zA] at qhg16
   exact Ys.pure (fun _ => kr)
  refine Wl.guard (v := Value.pointer (some ((c.fa.getD default).add (k * 4)))) (((F k).proto) == proto) (wantT rfl kr) rfl (fun hg17 => ?_) ?_
  ·have qhg17 := hg17; try simp only [zA] at qhg17
   refine Ys.at (t := 26) (v0 := Value.slice c.fa c.fl c.fc) (lz (g := ((F k).proto) == proto) (u := undef) hg17 kr) ?_
   refine Ys.at (t := 27) (v0 := iV .i64 ((k : Nat) : Int)) (lz (g := ((F k).proto) == proto) (u := undef) hg17 kr) ?_
   exact Ys.indexAddr (k := .i64) (a := c.fa) (len := c.fl) (cap := c.fc) (i := ((k : Nat) : Int)) (sz := 4) rfl kr kr Try.runUnderlying26 Try.sizeOf81 (hsl.here om) om om
  refine Wl.guard (v := Value.pointer (some (((c.fa.getD default).add (k * 4)).add 1))) (((F k).proto) == proto) (wantT rfl kr) rfl (fun hg18 => ?_) ?_
  ·have qhg18 := hg18; try simp only [zA] at qhg18
   refine Ys.at (t := 28) (v0 := Value.pointer (some ((c.fa.getD default).add (k * 4)))) (lz (g := ((F k).proto) == proto) (u := undef) hg18 kr) ?_
   exact Ys.pure (fun _ => kr)
  refine Wl.guard (v := iV .u16 ((F k).port)) (((F k).proto) == proto) (wantT rfl kr) rfl (fun hg19 => ?_) ?_
  ·have qhg19 := hg19; try simp only [zA] at qhg19
   refine Ys.at (t := 29) (v0 := Value.pointer (some (((c.fa.getD default).add (k * 4)).add 1))) (lz (g := ((F k).proto) == proto) (u := undef) hg19 kr) ?_
   exact Ys.loadOld (v := iV .u16 ((F k).port)) rfl kr Try.isAgg29 (adr_lt2 _ _ () (hsl.lt om)) (sp) (hsl.cell k om 1 _ rfl)
  refine Wl.guard (v := iV .u16 port) (((F k).proto) == proto) (wantT rfl kr) rfl (fun hg20 => ?_) ?_
  ·have qhg20 := hg20; try simp only [zA] at qhg20
   exact Ys.pure (fun _ => kr)
  refine Wl.guard (v := bV (((F k).port) == port)) (((F k).proto) == proto) (wantT rfl kr) rfl (fun hg21 => ?_) ?_
  ·have qhg21 := hg21; try simp only [zA] at qhg21
   refine Ys.at (t := 30) (v0 := iV .u16 ((F k).port)) (lz (g := ((F k).proto) == proto) (u := undef) hg21 kr) ?_
   refine Ys.at (t := 31) (v0 := iV .u16 port) (lz (g := ((F k).proto) == proto) (u := undef) hg21 kr) ?_
   exact Ys.pure (fun _ => kr)
  refine Wl.ys (v := bV ((((F k).proto) == proto) && (((F k).port) == port))) rfl rfl (Ys.and (e := ((F k).proto) == proto) (b := ((F k).port) == port) rfl kr kr kr) ?_
  refine Wl.nil ?_
  refine hK13 _ _ ?_
  refine W.cond ((((F k).proto) == proto) && (((F k).port) == port)) kr (fun h22 => ?_) (fun h23 => ?_)
  ·have qh22 := h22; try simp only [zA] at qh22
   refine W.seq (fun K24 hK24 => ?_)
   refine W.region ?_
   refine Wl.ys (v := pV p3 25) rfl rfl (Ys.pure (fun _ => kr)) ?_
   refine Wl.ys (v := Value.slice c.fa c.fl c.fc) rfl rfl (Ys.load (b := p3) (o' := 25) (i := 1) (cs := (cfL c)) (v := Value.slice c.fa c.fl c.fc) rfl kr Try.isAgg26 rfl rfl) ?_
   refine Wl.ys (v := iV .i64 ((k : Nat) : Int)) rfl rfl (Ys.pure (fun _ => kr)) ?_
   refine Wl.ys (v := Value.pointer (some ((c.fa.getD default).add (k * 4)))) rfl rfl (Ys.indexAddr (k := .i64) (a := c.fa) (len := c.fl) (cap := c.fc) (i := ((k : Nat) : Int)) (sz := 4) rfl kr kr Try.runUnderlying26 Try.sizeOf81 (hsl.here om) om om) ?_
   refine Wl.ys (v := Value.agg ([iV .u8 ((F k).proto), iV .u16 ((F k).port), iV .u16 ((F k).dest), iV .u32 ((F k).host)]).toArray) rfl rfl (Ys.loadOldN (vs := [iV .u8 ((F k).proto), iV .u16 ((F k).port), iV .u16 ((F k).dest), iV .u32 ((F k).host)]) rfl kr Try.isAgg81 Try.sizeOf81 (adr_lt _ () (hsl.lt om)) (sp) rfl (hsl.cell k om)) ?_
   refine Wl.storeN (b := p6) (o' := 0) (i := 0) (cs := [iV .u8 0, iV .u16 0, iV .u16 0, iV .u32 0]) (vs := [iV .u8 ((F k).proto), iV .u16 ((F k).port), iV .u16 ((F k).dest), iV .u32 ((F k).host)]) (cs' := [iV .u8 ((F k).proto), iV .u16 ((F k).port), iV .u16 ((F k).dest), iV .u32 ((F k).host)]) (L' := [cb p6 [iV .u8 ((F k).proto), iV .u16 ((F k).port), iV .u16 ((F k).dest), iV .u32 ((F k).host)] 81, cb p3 (cfL c) 28]) rfl rfl rfl kr kr Try.sizeOf81 (by simp [Value.oneCell']) rfl sp rfl rfl ?_
   refine Wl.ys (v := bV true) rfl rfl (Ys.pure (fun _ => kr)) ?_
   refine Wl.nil ?_
   refine hK24 _ _ ?_
   refine W.ret ?_
   show ∀ w_, _ → bodyPost Try.prog Try.f31 _ Exit.ret _ w_
   exact fun w_ hS_ => ret2 rfl (RV.cellN (b := p6) (o' := 0) (i := 0) (cs := [iV .u8 ((F k).proto), iV .u16 ((F k).port), iV .u16 ((F k).dest), iV .u32 ((F k).host)]) (vs := [iV .u8 ((F k).proto), iV .u16 ((F k).port), iV .u16 ((F k).dest), iV .u32 ((F k).host)]) kr Try.isAgg81 Try.sizeOf81 rfl rfl rfl) (RV.tmp (v := bV true) kr) hS_ ⟨by clear hK1 hK2 hK3 hJ4 hK8 hK9 hK12 hK13 hK24; refine congrArg Ending.returned ?_; rw [find_some F proto port c.fl k om hall h22]; rfl, hS_.below⟩
  ·have qh23 := h23; try simp only [zA] at qh23
   refine W.skip' ?_
   refine hK12 _ _ ?_
   refine W.region ?_
   refine Wl.ys (v := iV .i64 ((k : Nat) : Int)) rfl rfl (Ys.pure (fun _ => kr)) ?_
   refine Wl.ys (v := iV .i64 ((k + 1 : Nat) : Int)) rfl rfl ((Ys.pure (v := .int .i64 (iadd .i64 ((k : Nat) : Int) 1)) (fun _ => kr)).conseq (int_congr (iadd_eq om om om))) ?_
   refine Wl.ys (v := iV .i64 ((k + 1 : Nat) : Int)) rfl rfl (Ys.pure (fun _ => kr)) ?_
   refine Wl.nil ?_
   refine fun w_ hS_ => hJ4 (k + 1) _ _ (by first | omega | (dsimp only; omega)) ?_ ⟨hS_, ⟨by omega, fun j hj => by rcases Nat.lt_succ_iff_lt_or_eq.1 hj with hj | hj; exact hall j hj; subst hj; exact h23⟩⟩
   refine ⟨rfl, rfl, rfl, rfl, rfl, (by first | rfl | exact int_congr om | simp), trivial⟩
 ·have qh11 := h11; try simp only [zA] at qh11
  refine W.exit ?_
  refine hK2 _ _ ?_
  refine W.seq (fun K25 hK25 => ?_)
  refine W.region ?_
  refine Wl.ys (v := Value.agg ([iV .u8 0, iV .u16 0, iV .u16 0, iV .u32 0]).toArray) rfl rfl (Ys.pure (fun _ => kr)) ?_
  refine Wl.storeN (b := p6) (o' := 0) (i := 0) (cs := [iV .u8 0, iV .u16 0, iV .u16 0, iV .u32 0]) (vs := [iV .u8 0, iV .u16 0, iV .u16 0, iV .u32 0]) (cs' := [iV .u8 0, iV .u16 0, iV .u16 0, iV .u32 0]) (L' := [cb p6 [iV .u8 0, iV .u16 0, iV .u16 0, iV .u32 0] 81, cb p3 (cfL c) 28]) rfl rfl rfl kr kr Try.sizeOf81 (by simp [Value.oneCell']) rfl sp rfl rfl ?_
  refine Wl.ys (v := bV false) rfl rfl (Ys.pure (fun _ => kr)) ?_
  refine Wl.nil ?_
  refine hK25 _ _ ?_
  refine W.ret ?_
  show ∀ w_, _ → bodyPost Try.prog Try.f31 _ Exit.ret _ w_
  exact fun w_ hS_ => ret2 rfl (RV.cellN (b := p6) (o' := 0) (i := 0) (cs := [iV .u8 0, iV .u16 0, iV .u16 0, iV .u32 0]) (vs := [iV .u8 0, iV .u16 0, iV .u16 0, iV .u32 0]) kr Try.isAgg81 Try.sizeOf81 rfl rfl rfl) (RV.tmp (v := bV false) kr) hS_ ⟨by clear hK1 hK2 hK3 hJ4 hK8 hK9 hK25; refine congrArg Ending.returned ?_; rw [find_none F proto port c.fl (fun i hi => hall i om)]; rfl, hS_.below⟩
end Go.Proofs.Ytjkhmbigoloeiaa.Conf
