/-
  TrackOver: called with any arguments the law returns true and its arguments read as before. No condition.
-/
import Derived.Test.YtegdeobjfdiilaaTrack
import Derived.Test.YtegdeobjfdiilaaEq
set_option linter.unusedVariables false
set_option linter.unusedSimpArgs false
namespace Go.Proofs.Ytegdeobjfdiilaa.TrackOver
open Go.ChangeShapes Go.WideShapes Go.ChangeAt Go.RowKit Base Track
def run (X : Nat → Int × Bool) : Nat → St
  | 0 => ⟨false, false, false, false, false⟩
  | k + 1 => next (run X k) (X k).1 (X k).2
def nextB (a b c d e o g x y z : Bool) : St :=
  bif (o && (e || (c && d))) && g then ⟨true, false, false, false, false⟩ else
  bif o then ⟨a || x, b, c || y, d, e || z⟩ else ⟨a, b || x, c, d || y, e || z⟩
theorem next_eq (s : St) (n : Int) (o : Bool) : next s n o = nextB s.a s.b s.c s.d s.e o (begins n) (band .u8 n 2 != 0) (band .u8 n 1 != 0) (band .u8 n 4 != 0) := rfl
theorem stayB : ∀ a b c d e o g x y z : Bool, (((e || (c && d)) && (!((nextB a b c d e o g x y z).e || ((nextB a b c d e o g x y z).c && (nextB a b c d e o g x y z).d)))) && (!((o && g) && (((nextB a b c d e o g x y z).a == true) && (((nextB a b c d e o g x y z).b == false) && (((nextB a b c d e o g x y z).c == false) && (((nextB a b c d e o g x y z).d == false) && (((nextB a b c d e o g x y z).e == false) && true)))))))) = false := by decide +kernel
theorem stays (s : St) (n : Int) (o : Bool) : (((over s) && (!((next s n o).e || ((next s n o).c && (next s n o).d)))) && (!((o && (begins n)) && (((next s n o).a == true) && (((next s n o).b == false) && (((next s n o).c == false) && (((next s n o).d == false) && (((next s n o).e == false) && true)))))))) = false := by
  rw [next_eq]; exact stayB _ _ _ _ _ _ _ _ _ _
theorem lastB : ∀ a b c d e : Bool, ((decide ((limit 6 ⟨a, b, c, d, e⟩) > 240)) && (((e || (c && d)) || (!a)) || (!b))) = false := by decide +kernel
theorem lasts (s : St) : ((decide ((limit 6 s) > 240)) && (((s.e || (s.c && s.d)) || (!s.a)) || (!s.b))) = false := lastB s.a s.b s.c s.d s.e
set_option maxHeartbeats 1000000 in
theorem walk (xs : Option Addr) (len cap : Nat) (X : Nat → Int × Bool) (w : World) (hsl : Sl w xs len 2 (fun i => [Value.int .u8 ((X i).1), Value.bool ((X i).2)])) : Calls Try.prog 7 #[Value.slice xs len cap] w (Ret w (.bool true)) := by
  refine calls_W (M := []) (L := []) (n := 74) Try.func7 rfl rfl (by simp) (Mem.refl _) ?_
  refine W.seq (fun K1 hK1 => ?_)
  refine W.region ?_
  refine Wl.ys (v := Value.bool false) rfl rfl (Ys.pure (fun _ => by kernel_rfl)) ?_
  refine Wl.nil ?_
  refine hK1 _ _ ?_
  refine W.seq (fun K2 hK2 => ?_)
  refine W.seq (fun K3 hK3 => ?_)
  refine W.region ?_
  refine Wl.ys (v := Value.bool true) rfl rfl (Ys.call (k := 20) (args := #[]) (fun _ => by kernel_rfl) (fun _ hSc => speaks_c  _)) ?_
  refine Wl.ys (v := Value.bool false) rfl rfl (Ys.pure (fun _ => by kernel_rfl)) ?_
  refine Wl.nil ?_
  refine hK3 _ _ ?_
  refine W.condF (by kernel_rfl) ?_
  refine W.skip' ?_
  refine hK2 _ _ ?_
  refine W.seq (fun K4 hK4 => ?_)
  refine W.seq (fun K5 hK5 => ?_)
  refine W.region ?_
  refine Wl.ys (v := Value.slice xs len cap) rfl rfl (Ys.pure (fun _ => by kernel_rfl)) ?_
  refine Wl.ys (v := Value.int .i64 ((len : Nat) : Int)) rfl rfl (Ys.pure (fun _ => by kernel_rfl)) ?_
  refine Wl.ys (v := Value.bool (decide (((len : Nat) : Int) > 500))) rfl rfl (Ys.pure (fun _ => by kernel_rfl)) ?_
  refine Wl.nil ?_
  refine hK5 _ _ ?_
  refine W.cond (decide (((len : Nat) : Int) > 500)) (by kernel_rfl) (fun h6 => ?_) (fun h7 => ?_)
  · have qh6 := h6; try simp only [Bool.and_eq_true, Bool.or_eq_true, Bool.not_eq_true', Bool.not_eq_false', Bool.and_eq_false_iff, Bool.or_eq_false_iff, decide_eq_true_eq, decide_eq_false_iff_not, beq_iff_eq, bne_iff_ne, beq_eq_false_iff_ne, bne_eq_false_iff_eq] at qh6
    refine W.seq (fun K8 hK8 => ?_)
    refine W.region ?_
    refine Wl.ys (v := Value.bool true) rfl rfl (Ys.pure (fun _ => by kernel_rfl)) ?_
    refine Wl.nil ?_
    refine hK8 _ _ ?_
    refine W.ret ?_
    show ∀ w_, _ → bodyPost Try.prog Try.f7 _ Exit.ret _ w_
    exact fun w_ hS_ => ret1 rfl (RV.tmp (v := Value.bool true) (by kernel_rfl)) hS_ ⟨rfl, hS_.below⟩
  · have qh7 := h7; try simp only [Bool.and_eq_true, Bool.or_eq_true, Bool.not_eq_true', Bool.not_eq_false', Bool.and_eq_false_iff, Bool.or_eq_false_iff, decide_eq_true_eq, decide_eq_false_iff_not, beq_iff_eq, bne_iff_ne, beq_eq_false_iff_ne, bne_eq_false_iff_eq] at qh7
    refine W.skip' ?_
    refine hK4 _ _ ?_
    refine W.seq (fun K9 hK9 => ?_)
    refine W.region ?_
    refine Wl.ys (v := Value.agg ([Value.bool false, Value.bool false, Value.bool false, Value.bool false, Value.bool false]).toArray) rfl rfl (Ys.pure (fun _ => by kernel_rfl)) ?_
    refine Wl.alloc (z := Value.agg ([Value.bool false, Value.bool false, Value.bool false, Value.bool false, Value.bool false]).toArray) (cs := [Value.bool false, Value.bool false, Value.bool false, Value.bool false, Value.bool false]) rfl rfl rfl Try.zeroValue40 rfl (fun p3 => ?_)
    refine Wl.storeN (b := p3) (o' := 0) (i := 0) (cs := [Value.bool false, Value.bool false, Value.bool false, Value.bool false, Value.bool false]) (vs := [Value.bool false, Value.bool false, Value.bool false, Value.bool false, Value.bool false]) (cs' := [Value.bool false, Value.bool false, Value.bool false, Value.bool false, Value.bool false]) (L' := [⟨p3, [Value.bool false, Value.bool false, Value.bool false, Value.bool false, Value.bool false], 40⟩]) rfl rfl rfl (by kernel_rfl) (by kernel_rfl) Try.sizeOf40 (by simp [Value.oneCell']) rfl (by simp) rfl rfl ?_
    refine Wl.ys (v := Value.bool false) rfl rfl (Ys.pure (fun _ => by kernel_rfl)) ?_
    refine Wl.nil ?_
    refine hK9 _ _ ?_
    refine W.seq (fun K10 hK10 => ?_)
    refine W.seq (fun K11 hK11 => ?_)
    refine W.region ?_
    refine Wl.ys (v := Value.slice xs len cap) rfl rfl (Ys.pure (fun _ => by kernel_rfl)) ?_
    refine Wl.ys (v := Value.int .i64 ((len : Nat) : Int)) rfl rfl (Ys.pure (fun _ => by kernel_rfl)) ?_
    refine Wl.ys (v := Value.int .i64 0) rfl rfl (Ys.pure (fun _ => by kernel_rfl)) ?_
    refine Wl.nil ?_
    refine hK11 _ _ ?_
    refine W.block ?_
    refine W.loop (γ := Nat) (fun g_ => [(0, Value.slice xs len cap), (3, Value.pointer (some ⟨p3, 0, none⟩)), (8, Value.bool true), (9, Value.bool false), (10, Value.slice xs len cap), (11, Value.int .i64 ((len : Nat) : Int)), (12, Value.bool (decide (((len : Nat) : Int) > 500))), (13, Value.agg ([Value.bool false, Value.bool false, Value.bool false, Value.bool false, Value.bool false]).toArray), (14, Value.slice xs len cap), (15, Value.int .i64 ((len : Nat) : Int)), (4, Value.bool (over (run X g_))), (16, Value.int .i64 ((g_ : Nat) : Int))]) (fun g_ w_ => Mem w [] [⟨p3, [Value.bool ((run X g_).a), Value.bool ((run X g_).b), Value.bool ((run X g_).c), Value.bool ((run X g_).d), Value.bool ((run X g_).e)], 40⟩] w_ ∧ g_ ≤ len) (fun g_ => len - g_) (0) ?_ ?_ (fun g_ f13 J12 hJ12 => ?_)
    · refine ⟨rfl, rfl, rfl, rfl, rfl, rfl, rfl, rfl, rfl, rfl, (by first | rfl | exact int_congr (by omega) | simp), (by first | rfl | exact int_congr (by omega) | simp), trivial⟩
    · exact fun w_ hS_ => ⟨hS_, by first | omega | trivial⟩
    obtain ⟨k, hgg_⟩ : ∃ x, x = g_ := ⟨_, rfl⟩; subst hgg_
    refine W.castS (f' := upds [(0, Value.slice xs len cap), (3, Value.pointer (some ⟨p3, 0, none⟩)), (8, Value.bool true), (9, Value.bool false), (10, Value.slice xs len cap), (11, Value.int .i64 ((len : Nat) : Int)), (12, Value.bool (decide (((len : Nat) : Int) > 500))), (13, Value.agg ([Value.bool false, Value.bool false, Value.bool false, Value.bool false, Value.bool false]).toArray), (14, Value.slice xs len cap), (15, Value.int .i64 ((len : Nat) : Int)), (4, Value.bool (over (run X k))), (16, Value.int .i64 ((k : Nat) : Int))] f13) (S' := fun w_ => Mem w [] [⟨p3, [Value.bool ((run X k).a), Value.bool ((run X k).b), Value.bool ((run X k).c), Value.bool ((run X k).d), Value.bool ((run X k).e)], 40⟩] w_ ∧ k ≤ len) rfl rfl ?_
    refine W.and (fun hpp => ?_)
    have hp14 := hpp
    refine W.seq (fun K15 hK15 => ?_)
    refine W.region ?_
    refine Wl.ys (v := Value.bool (decide (((k : Nat) : Int) < ((len : Nat) : Int)))) rfl rfl (Ys.pure (fun _ => by kernel_rfl)) ?_
    refine Wl.nil ?_
    refine hK15 _ _ ?_
    refine W.seq (fun K16 hK16 => ?_)
    refine W.cond (decide (((k : Nat) : Int) < ((len : Nat) : Int))) (by kernel_rfl) (fun h17 => ?_) (fun h18 => ?_)
    · have qh17 := h17; try simp only [Bool.and_eq_true, Bool.or_eq_true, Bool.not_eq_true', Bool.not_eq_false', Bool.and_eq_false_iff, Bool.or_eq_false_iff, decide_eq_true_eq, decide_eq_false_iff_not, beq_iff_eq, bne_iff_ne, beq_eq_false_iff_ne, bne_eq_false_iff_eq] at qh17
      refine W.skip' ?_
      refine hK16 _ _ ?_
      refine W.seq (fun K19 hK19 => ?_)
      refine W.block ?_
      refine W.seq (fun K20 hK20 => ?_)
      refine W.region ?_
      refine Wl.ys (v := Value.pointer (some ((xs.getD default).add (k * 2)))) rfl rfl (Ys.indexAddr (k := .i64) (a := xs) (len := len) (cap := cap) (i := ((k : Nat) : Int)) (sz := 2) rfl (by kernel_rfl) (by kernel_rfl) Try.runUnderlying41 Try.sizeOf43 (hsl.here (by omega)) (by omega) (by omega)) ?_
      refine Wl.ys (v := Value.agg ([Value.int .u8 ((X k).1), Value.bool ((X k).2)]).toArray) rfl rfl (Ys.loadOldN (vs := [Value.int .u8 ((X k).1), Value.bool ((X k).2)]) rfl (by kernel_rfl) Try.isAgg43 Try.sizeOf43 (adr_lt _ () (hsl.lt (by omega))) ((by simp)) rfl (hsl.cell k (by omega))) ?_
      refine Wl.alloc (z := Value.agg ([Value.int .u8 0, Value.bool false]).toArray) (cs := [Value.int .u8 0, Value.bool false]) rfl rfl rfl Try.zeroValue43 rfl (fun p6 => ?_)
      refine Wl.storeN (b := p6) (o' := 0) (i := 0) (cs := [Value.int .u8 0, Value.bool false]) (vs := [Value.int .u8 ((X k).1), Value.bool ((X k).2)]) (cs' := [Value.int .u8 ((X k).1), Value.bool ((X k).2)]) (L' := [⟨p6, [Value.int .u8 ((X k).1), Value.bool ((X k).2)], 43⟩, ⟨p3, [Value.bool ((run X k).a), Value.bool ((run X k).b), Value.bool ((run X k).c), Value.bool ((run X k).d), Value.bool ((run X k).e)], 40⟩]) rfl rfl rfl (by kernel_rfl) (by kernel_rfl) Try.sizeOf43 (by simp [Value.oneCell']) rfl (by simp) rfl rfl ?_
      refine Wl.nil ?_
      refine hK20 _ _ ?_
      refine W.seq (fun K21 hK21 => ?_)
      refine W.region ?_
      refine Wl.ys (v := Value.agg ([Value.bool ((run X k).a), Value.bool ((run X k).b), Value.bool ((run X k).c), Value.bool ((run X k).d), Value.bool ((run X k).e)]).toArray) rfl rfl (Ys.loadN (b := p3) (o' := 0) (i := 1) (cs := [Value.bool ((run X k).a), Value.bool ((run X k).b), Value.bool ((run X k).c), Value.bool ((run X k).d), Value.bool ((run X k).e)]) (vs := [Value.bool ((run X k).a), Value.bool ((run X k).b), Value.bool ((run X k).c), Value.bool ((run X k).d), Value.bool ((run X k).e)]) rfl (by kernel_rfl) Try.isAgg40 Try.sizeOf40 rfl rfl rfl) ?_
      refine Wl.ys (v := Value.pointer (some ⟨p6, 0, none⟩)) rfl rfl (Ys.pure (fun _ => by kernel_rfl)) ?_
      refine Wl.ys (v := Value.int .u8 ((X k).1)) rfl rfl (Ys.load (b := p6) (o' := 0) (i := 0) (cs := [Value.int .u8 ((X k).1), Value.bool ((X k).2)]) (v := Value.int .u8 ((X k).1)) rfl (by kernel_rfl) Try.isAgg5 rfl rfl) ?_
      refine Wl.ys (v := Value.pointer (some ⟨p6, 1, none⟩)) rfl rfl (Ys.pure (fun _ => by kernel_rfl)) ?_
      refine Wl.ys (v := Value.bool ((X k).2)) rfl rfl (Ys.load (b := p6) (o' := 1) (i := 0) (cs := [Value.int .u8 ((X k).1), Value.bool ((X k).2)]) (v := Value.bool ((X k).2)) rfl (by kernel_rfl) Try.isAgg4 rfl rfl) ?_
      refine Wl.ys (v := Value.agg ([Value.bool ((next (run X k) ((X k).1) ((X k).2)).a), Value.bool ((next (run X k) ((X k).1) ((X k).2)).b), Value.bool ((next (run X k) ((X k).1) ((X k).2)).c), Value.bool ((next (run X k) ((X k).1) ((X k).2)).d), Value.bool ((next (run X k) ((X k).1) ((X k).2)).e)]).toArray) rfl rfl (Ys.call (k := 23) (args := #[Value.agg ([Value.bool ((run X k).a), Value.bool ((run X k).b), Value.bool ((run X k).c), Value.bool ((run X k).d), Value.bool ((run X k).e)]).toArray, Value.int .u8 ((X k).1), Value.bool ((X k).2)]) (fun _ => by kernel_rfl) (fun _ hSc => next_c (run X k) ((X k).1) ((X k).2) _)) ?_
      refine Wl.storeN (b := p3) (o' := 0) (i := 1) (cs := [Value.bool ((run X k).a), Value.bool ((run X k).b), Value.bool ((run X k).c), Value.bool ((run X k).d), Value.bool ((run X k).e)]) (vs := [Value.bool ((next (run X k) ((X k).1) ((X k).2)).a), Value.bool ((next (run X k) ((X k).1) ((X k).2)).b), Value.bool ((next (run X k) ((X k).1) ((X k).2)).c), Value.bool ((next (run X k) ((X k).1) ((X k).2)).d), Value.bool ((next (run X k) ((X k).1) ((X k).2)).e)]) (cs' := [Value.bool ((next (run X k) ((X k).1) ((X k).2)).a), Value.bool ((next (run X k) ((X k).1) ((X k).2)).b), Value.bool ((next (run X k) ((X k).1) ((X k).2)).c), Value.bool ((next (run X k) ((X k).1) ((X k).2)).d), Value.bool ((next (run X k) ((X k).1) ((X k).2)).e)]) (L' := [⟨p6, [Value.int .u8 ((X k).1), Value.bool ((X k).2)], 43⟩, ⟨p3, [Value.bool ((next (run X k) ((X k).1) ((X k).2)).a), Value.bool ((next (run X k) ((X k).1) ((X k).2)).b), Value.bool ((next (run X k) ((X k).1) ((X k).2)).c), Value.bool ((next (run X k) ((X k).1) ((X k).2)).d), Value.bool ((next (run X k) ((X k).1) ((X k).2)).e)], 40⟩]) rfl rfl rfl (by kernel_rfl) (by kernel_rfl) Try.sizeOf40 (by simp [Value.oneCell']) rfl (by simp) rfl rfl ?_
      refine Wl.nil ?_
      refine hK21 _ _ ?_
      refine W.seq (fun K22 hK22 => ?_)
      refine W.region ?_
      refine Wl.ys (v := Value.pointer (some ⟨p3, 4, none⟩)) rfl rfl (Ys.pure (fun _ => by kernel_rfl)) ?_
      refine Wl.ys (v := Value.bool ((next (run X k) ((X k).1) ((X k).2)).e)) rfl rfl (Ys.load (b := p3) (o' := 4) (i := 1) (cs := [Value.bool ((next (run X k) ((X k).1) ((X k).2)).a), Value.bool ((next (run X k) ((X k).1) ((X k).2)).b), Value.bool ((next (run X k) ((X k).1) ((X k).2)).c), Value.bool ((next (run X k) ((X k).1) ((X k).2)).d), Value.bool ((next (run X k) ((X k).1) ((X k).2)).e)]) (v := Value.bool ((next (run X k) ((X k).1) ((X k).2)).e)) rfl (by kernel_rfl) Try.isAgg4 rfl rfl) ?_
      refine Wl.ys (v := Value.bool ((next (run X k) ((X k).1) ((X k).2)).e)) rfl rfl (Ys.pure (fun _ => by kernel_rfl)) ?_
      refine Wl.guard (v := Value.pointer (some ⟨p3, 2, none⟩)) (!((next (run X k) ((X k).1) ((X k).2)).e)) (wantF rfl (by kernel_rfl)) rfl (fun hg23 => ?_) ?_
      · exact Ys.pure (fun _ => by kernel_rfl)
      refine Wl.guard (v := Value.bool ((next (run X k) ((X k).1) ((X k).2)).c)) (!((next (run X k) ((X k).1) ((X k).2)).e)) (wantF rfl (by kernel_rfl)) rfl (fun hg24 => ?_) ?_
      · refine Ys.at (t := 29) (v0 := Value.pointer (some ⟨p3, 2, none⟩)) (lz (g := !((next (run X k) ((X k).1) ((X k).2)).e)) (u := undef) hg24 (by kernel_rfl)) ?_
        exact Ys.load (b := p3) (o' := 2) (i := 1) (cs := [Value.bool ((next (run X k) ((X k).1) ((X k).2)).a), Value.bool ((next (run X k) ((X k).1) ((X k).2)).b), Value.bool ((next (run X k) ((X k).1) ((X k).2)).c), Value.bool ((next (run X k) ((X k).1) ((X k).2)).d), Value.bool ((next (run X k) ((X k).1) ((X k).2)).e)]) (v := Value.bool ((next (run X k) ((X k).1) ((X k).2)).c)) rfl (by kernel_rfl) Try.isAgg4 rfl rfl
      refine Wl.guard (v := Value.bool ((next (run X k) ((X k).1) ((X k).2)).c)) (!((next (run X k) ((X k).1) ((X k).2)).e)) (wantF rfl (by kernel_rfl)) rfl (fun hg25 => ?_) ?_
      · refine Ys.at (t := 30) (v0 := Value.bool ((next (run X k) ((X k).1) ((X k).2)).c)) (lz (g := !((next (run X k) ((X k).1) ((X k).2)).e)) (u := undef) hg25 (by kernel_rfl)) ?_
        exact Ys.pure (fun _ => by kernel_rfl)
      refine Wl.guard (v := Value.pointer (some ⟨p3, 3, none⟩)) ((!((next (run X k) ((X k).1) ((X k).2)).e)) && ((next (run X k) ((X k).1) ((X k).2)).c)) (wantTz rfl rfl (by kernel_rfl)) rfl (fun hg26 => ?_) ?_
      · exact Ys.pure (fun _ => by kernel_rfl)
      refine Wl.guard (v := Value.bool ((next (run X k) ((X k).1) ((X k).2)).d)) ((!((next (run X k) ((X k).1) ((X k).2)).e)) && ((next (run X k) ((X k).1) ((X k).2)).c)) (wantTz rfl rfl (by kernel_rfl)) rfl (fun hg27 => ?_) ?_
      · refine Ys.at (t := 32) (v0 := Value.pointer (some ⟨p3, 3, none⟩)) (lz (g := (!((next (run X k) ((X k).1) ((X k).2)).e)) && ((next (run X k) ((X k).1) ((X k).2)).c)) (u := undef) hg27 (by kernel_rfl)) ?_
        exact Ys.load (b := p3) (o' := 3) (i := 1) (cs := [Value.bool ((next (run X k) ((X k).1) ((X k).2)).a), Value.bool ((next (run X k) ((X k).1) ((X k).2)).b), Value.bool ((next (run X k) ((X k).1) ((X k).2)).c), Value.bool ((next (run X k) ((X k).1) ((X k).2)).d), Value.bool ((next (run X k) ((X k).1) ((X k).2)).e)]) (v := Value.bool ((next (run X k) ((X k).1) ((X k).2)).d)) rfl (by kernel_rfl) Try.isAgg4 rfl rfl
      refine Wl.guard (v := Value.bool (((next (run X k) ((X k).1) ((X k).2)).c) && ((next (run X k) ((X k).1) ((X k).2)).d))) (!((next (run X k) ((X k).1) ((X k).2)).e)) (wantF rfl (by kernel_rfl)) rfl (fun hg28 => ?_) ?_
      · refine Ys.at (t := 31) (v0 := Value.bool ((next (run X k) ((X k).1) ((X k).2)).c)) (lz (g := !((next (run X k) ((X k).1) ((X k).2)).e)) (u := undef) hg28 (by kernel_rfl)) ?_
        refine Ys.at (t := 33) (v0 := (bif (next (run X k) ((X k).1) ((X k).2)).c then Value.bool ((next (run X k) ((X k).1) ((X k).2)).d) else undef)) (lz2 (g := !((next (run X k) ((X k).1) ((X k).2)).e)) hg28 (by kernel_rfl)) ?_
        exact Ys.and (e := (next (run X k) ((X k).1) ((X k).2)).c) (b := (next (run X k) ((X k).1) ((X k).2)).d) rfl (by kernel_rfl) (by kernel_rfl) (by kernel_rfl)
      refine Wl.ys (v := Value.bool (((next (run X k) ((X k).1) ((X k).2)).e) || (((next (run X k) ((X k).1) ((X k).2)).c) && ((next (run X k) ((X k).1) ((X k).2)).d)))) rfl rfl (Ys.or' (e := (next (run X k) ((X k).1) ((X k).2)).e) (b := ((next (run X k) ((X k).1) ((X k).2)).c) && ((next (run X k) ((X k).1) ((X k).2)).d)) rfl (by kernel_rfl) (by kernel_rfl) (by kernel_rfl)) ?_
      refine Wl.ys (v := Value.bool (((next (run X k) ((X k).1) ((X k).2)).e) || (((next (run X k) ((X k).1) ((X k).2)).c) && ((next (run X k) ((X k).1) ((X k).2)).d)))) rfl rfl (Ys.pure (fun _ => by kernel_rfl)) ?_
      refine Wl.nil ?_
      refine hK22 _ _ ?_
      refine W.seq (fun K29 hK29 => ?_)
      refine W.seq (fun K30 hK30 => ?_)
      refine W.region ?_
      refine Wl.ys (v := Value.bool (over (run X k))) rfl rfl (Ys.pure (fun _ => by kernel_rfl)) ?_
      refine Wl.ys (v := Value.bool (over (run X k))) rfl rfl (Ys.pure (fun _ => by kernel_rfl)) ?_
      refine Wl.guard (v := Value.bool (((next (run X k) ((X k).1) ((X k).2)).e) || (((next (run X k) ((X k).1) ((X k).2)).c) && ((next (run X k) ((X k).1) ((X k).2)).d)))) (over (run X k)) (wantT rfl (by kernel_rfl)) rfl (fun hg31 => ?_) ?_
      · exact Ys.pure (fun _ => by kernel_rfl)
      refine Wl.guard (v := Value.bool (!(((next (run X k) ((X k).1) ((X k).2)).e) || (((next (run X k) ((X k).1) ((X k).2)).c) && ((next (run X k) ((X k).1) ((X k).2)).d))))) (over (run X k)) (wantT rfl (by kernel_rfl)) rfl (fun hg32 => ?_) ?_
      · refine Ys.at (t := 38) (v0 := Value.bool (((next (run X k) ((X k).1) ((X k).2)).e) || (((next (run X k) ((X k).1) ((X k).2)).c) && ((next (run X k) ((X k).1) ((X k).2)).d)))) (lz (g := over (run X k)) (u := undef) hg32 (by kernel_rfl)) ?_
        exact Ys.pure (fun _ => by kernel_rfl)
      refine Wl.ys (v := Value.bool ((over (run X k)) && (!(((next (run X k) ((X k).1) ((X k).2)).e) || (((next (run X k) ((X k).1) ((X k).2)).c) && ((next (run X k) ((X k).1) ((X k).2)).d)))))) rfl rfl (Ys.and (e := over (run X k)) (b := !(((next (run X k) ((X k).1) ((X k).2)).e) || (((next (run X k) ((X k).1) ((X k).2)).c) && ((next (run X k) ((X k).1) ((X k).2)).d)))) rfl (by kernel_rfl) (by kernel_rfl) (by kernel_rfl)) ?_
      refine Wl.ys (v := Value.bool ((over (run X k)) && (!(((next (run X k) ((X k).1) ((X k).2)).e) || (((next (run X k) ((X k).1) ((X k).2)).c) && ((next (run X k) ((X k).1) ((X k).2)).d)))))) rfl rfl (Ys.pure (fun _ => by kernel_rfl)) ?_
      refine Wl.guard (v := Value.pointer (some ⟨p6, 1, none⟩)) ((over (run X k)) && (!(((next (run X k) ((X k).1) ((X k).2)).e) || (((next (run X k) ((X k).1) ((X k).2)).c) && ((next (run X k) ((X k).1) ((X k).2)).d))))) (wantT rfl (by kernel_rfl)) rfl (fun hg33 => ?_) ?_
      · exact Ys.pure (fun _ => by kernel_rfl)
      refine Wl.guard (v := Value.bool ((X k).2)) ((over (run X k)) && (!(((next (run X k) ((X k).1) ((X k).2)).e) || (((next (run X k) ((X k).1) ((X k).2)).c) && ((next (run X k) ((X k).1) ((X k).2)).d))))) (wantT rfl (by kernel_rfl)) rfl (fun hg34 => ?_) ?_
      · refine Ys.at (t := 42) (v0 := Value.pointer (some ⟨p6, 1, none⟩)) (lz (g := (over (run X k)) && (!(((next (run X k) ((X k).1) ((X k).2)).e) || (((next (run X k) ((X k).1) ((X k).2)).c) && ((next (run X k) ((X k).1) ((X k).2)).d))))) (u := undef) hg34 (by kernel_rfl)) ?_
        exact Ys.load (b := p6) (o' := 1) (i := 0) (cs := [Value.int .u8 ((X k).1), Value.bool ((X k).2)]) (v := Value.bool ((X k).2)) rfl (by kernel_rfl) Try.isAgg4 rfl rfl
      refine Wl.guard (v := Value.bool ((X k).2)) ((over (run X k)) && (!(((next (run X k) ((X k).1) ((X k).2)).e) || (((next (run X k) ((X k).1) ((X k).2)).c) && ((next (run X k) ((X k).1) ((X k).2)).d))))) (wantT rfl (by kernel_rfl)) rfl (fun hg35 => ?_) ?_
      · refine Ys.at (t := 43) (v0 := Value.bool ((X k).2)) (lz (g := (over (run X k)) && (!(((next (run X k) ((X k).1) ((X k).2)).e) || (((next (run X k) ((X k).1) ((X k).2)).c) && ((next (run X k) ((X k).1) ((X k).2)).d))))) (u := undef) hg35 (by kernel_rfl)) ?_
        exact Ys.pure (fun _ => by kernel_rfl)
      refine Wl.guard (v := Value.pointer (some ⟨p6, 0, none⟩)) (((over (run X k)) && (!(((next (run X k) ((X k).1) ((X k).2)).e) || (((next (run X k) ((X k).1) ((X k).2)).c) && ((next (run X k) ((X k).1) ((X k).2)).d))))) && ((X k).2)) (wantTz rfl rfl (by kernel_rfl)) rfl (fun hg36 => ?_) ?_
      · exact Ys.pure (fun _ => by kernel_rfl)
      refine Wl.guard (v := Value.int .u8 ((X k).1)) (((over (run X k)) && (!(((next (run X k) ((X k).1) ((X k).2)).e) || (((next (run X k) ((X k).1) ((X k).2)).c) && ((next (run X k) ((X k).1) ((X k).2)).d))))) && ((X k).2)) (wantTz rfl rfl (by kernel_rfl)) rfl (fun hg37 => ?_) ?_
      · refine Ys.at (t := 45) (v0 := Value.pointer (some ⟨p6, 0, none⟩)) (lz (g := ((over (run X k)) && (!(((next (run X k) ((X k).1) ((X k).2)).e) || (((next (run X k) ((X k).1) ((X k).2)).c) && ((next (run X k) ((X k).1) ((X k).2)).d))))) && ((X k).2)) (u := undef) hg37 (by kernel_rfl)) ?_
        exact Ys.load (b := p6) (o' := 0) (i := 0) (cs := [Value.int .u8 ((X k).1), Value.bool ((X k).2)]) (v := Value.int .u8 ((X k).1)) rfl (by kernel_rfl) Try.isAgg5 rfl rfl
      refine Wl.guard (v := Value.bool (begins ((X k).1))) (((over (run X k)) && (!(((next (run X k) ((X k).1) ((X k).2)).e) || (((next (run X k) ((X k).1) ((X k).2)).c) && ((next (run X k) ((X k).1) ((X k).2)).d))))) && ((X k).2)) (wantTz rfl rfl (by kernel_rfl)) rfl (fun hg38 => ?_) ?_
      · refine Ys.at (t := 46) (v0 := Value.int .u8 ((X k).1)) (lz (g := ((over (run X k)) && (!(((next (run X k) ((X k).1) ((X k).2)).e) || (((next (run X k) ((X k).1) ((X k).2)).c) && ((next (run X k) ((X k).1) ((X k).2)).d))))) && ((X k).2)) (u := undef) hg38 (by kernel_rfl)) ?_
        exact Ys.call (k := 21) (args := #[Value.int .u8 ((X k).1)]) (fun _ => by kernel_rfl) (fun _ hSc => begins_c ((X k).1) _)
      refine Wl.guard (v := Value.bool (((X k).2) && (begins ((X k).1)))) ((over (run X k)) && (!(((next (run X k) ((X k).1) ((X k).2)).e) || (((next (run X k) ((X k).1) ((X k).2)).c) && ((next (run X k) ((X k).1) ((X k).2)).d))))) (wantT rfl (by kernel_rfl)) rfl (fun hg39 => ?_) ?_
      · refine Ys.at (t := 44) (v0 := Value.bool ((X k).2)) (lz (g := (over (run X k)) && (!(((next (run X k) ((X k).1) ((X k).2)).e) || (((next (run X k) ((X k).1) ((X k).2)).c) && ((next (run X k) ((X k).1) ((X k).2)).d))))) (u := undef) hg39 (by kernel_rfl)) ?_
        refine Ys.at (t := 47) (v0 := (bif (X k).2 then Value.bool (begins ((X k).1)) else undef)) (lz2 (g := (over (run X k)) && (!(((next (run X k) ((X k).1) ((X k).2)).e) || (((next (run X k) ((X k).1) ((X k).2)).c) && ((next (run X k) ((X k).1) ((X k).2)).d))))) hg39 (by kernel_rfl)) ?_
        exact Ys.and (e := (X k).2) (b := begins ((X k).1)) rfl (by kernel_rfl) (by kernel_rfl) (by kernel_rfl)
      refine Wl.guard (v := Value.bool (((X k).2) && (begins ((X k).1)))) ((over (run X k)) && (!(((next (run X k) ((X k).1) ((X k).2)).e) || (((next (run X k) ((X k).1) ((X k).2)).c) && ((next (run X k) ((X k).1) ((X k).2)).d))))) (wantT rfl (by kernel_rfl)) rfl (fun hg40 => ?_) ?_
      · refine Ys.at (t := 48) (v0 := Value.bool (((X k).2) && (begins ((X k).1)))) (lz (g := (over (run X k)) && (!(((next (run X k) ((X k).1) ((X k).2)).e) || (((next (run X k) ((X k).1) ((X k).2)).c) && ((next (run X k) ((X k).1) ((X k).2)).d))))) (u := undef) hg40 (by kernel_rfl)) ?_
        exact Ys.pure (fun _ => by kernel_rfl)
      refine Wl.guard (v := Value.agg ([Value.bool ((next (run X k) ((X k).1) ((X k).2)).a), Value.bool ((next (run X k) ((X k).1) ((X k).2)).b), Value.bool ((next (run X k) ((X k).1) ((X k).2)).c), Value.bool ((next (run X k) ((X k).1) ((X k).2)).d), Value.bool ((next (run X k) ((X k).1) ((X k).2)).e)]).toArray) (((over (run X k)) && (!(((next (run X k) ((X k).1) ((X k).2)).e) || (((next (run X k) ((X k).1) ((X k).2)).c) && ((next (run X k) ((X k).1) ((X k).2)).d))))) && (((X k).2) && (begins ((X k).1)))) (wantTz rfl rfl (by kernel_rfl)) rfl (fun hg41 => ?_) ?_
      · exact Ys.loadN (b := p3) (o' := 0) (i := 1) (cs := [Value.bool ((next (run X k) ((X k).1) ((X k).2)).a), Value.bool ((next (run X k) ((X k).1) ((X k).2)).b), Value.bool ((next (run X k) ((X k).1) ((X k).2)).c), Value.bool ((next (run X k) ((X k).1) ((X k).2)).d), Value.bool ((next (run X k) ((X k).1) ((X k).2)).e)]) (vs := [Value.bool ((next (run X k) ((X k).1) ((X k).2)).a), Value.bool ((next (run X k) ((X k).1) ((X k).2)).b), Value.bool ((next (run X k) ((X k).1) ((X k).2)).c), Value.bool ((next (run X k) ((X k).1) ((X k).2)).d), Value.bool ((next (run X k) ((X k).1) ((X k).2)).e)]) rfl (by kernel_rfl) Try.isAgg40 Try.sizeOf40 rfl rfl rfl
      refine Wl.guard (v := Value.agg ([Value.bool true, Value.bool false, Value.bool false, Value.bool false, Value.bool false]).toArray) (((over (run X k)) && (!(((next (run X k) ((X k).1) ((X k).2)).e) || (((next (run X k) ((X k).1) ((X k).2)).c) && ((next (run X k) ((X k).1) ((X k).2)).d))))) && (((X k).2) && (begins ((X k).1)))) (wantTz rfl rfl (by kernel_rfl)) rfl (fun hg42 => ?_) ?_
      · exact Ys.pure (fun _ => by kernel_rfl)
      refine Wl.guard (v := Value.bool ((((next (run X k) ((X k).1) ((X k).2)).a) == true) && ((((next (run X k) ((X k).1) ((X k).2)).b) == false) && ((((next (run X k) ((X k).1) ((X k).2)).c) == false) && ((((next (run X k) ((X k).1) ((X k).2)).d) == false) && ((((next (run X k) ((X k).1) ((X k).2)).e) == false) && true)))))) (((over (run X k)) && (!(((next (run X k) ((X k).1) ((X k).2)).e) || (((next (run X k) ((X k).1) ((X k).2)).c) && ((next (run X k) ((X k).1) ((X k).2)).d))))) && (((X k).2) && (begins ((X k).1)))) (wantTz rfl rfl (by kernel_rfl)) rfl (fun hg43 => ?_) ?_
      · refine Ys.at (t := 50) (v0 := Value.agg ([Value.bool ((next (run X k) ((X k).1) ((X k).2)).a), Value.bool ((next (run X k) ((X k).1) ((X k).2)).b), Value.bool ((next (run X k) ((X k).1) ((X k).2)).c), Value.bool ((next (run X k) ((X k).1) ((X k).2)).d), Value.bool ((next (run X k) ((X k).1) ((X k).2)).e)]).toArray) (lz (g := ((over (run X k)) && (!(((next (run X k) ((X k).1) ((X k).2)).e) || (((next (run X k) ((X k).1) ((X k).2)).c) && ((next (run X k) ((X k).1) ((X k).2)).d))))) && (((X k).2) && (begins ((X k).1)))) (u := undef) hg43 (by kernel_rfl)) ?_
        refine Ys.at (t := 51) (v0 := Value.agg ([Value.bool true, Value.bool false, Value.bool false, Value.bool false, Value.bool false]).toArray) (lz (g := ((over (run X k)) && (!(((next (run X k) ((X k).1) ((X k).2)).e) || (((next (run X k) ((X k).1) ((X k).2)).c) && ((next (run X k) ((X k).1) ((X k).2)).d))))) && (((X k).2) && (begins ((X k).1)))) (u := undef) hg43 (by kernel_rfl)) ?_
        exact Ys.eqv (ls := [.bool, .bool, .bool, .bool, .bool]) (cs := [Value.bool ((next (run X k) ((X k).1) ((X k).2)).a), Value.bool ((next (run X k) ((X k).1) ((X k).2)).b), Value.bool ((next (run X k) ((X k).1) ((X k).2)).c), Value.bool ((next (run X k) ((X k).1) ((X k).2)).d), Value.bool ((next (run X k) ((X k).1) ((X k).2)).e)]) (cs' := [Value.bool true, Value.bool false, Value.bool false, Value.bool false, Value.bool false]) (b := (((next (run X k) ((X k).1) ((X k).2)).a) == true) && ((((next (run X k) ((X k).1) ((X k).2)).b) == false) && ((((next (run X k) ((X k).1) ((X k).2)).c) == false) && ((((next (run X k) ((X k).1) ((X k).2)).d) == false) && ((((next (run X k) ((X k).1) ((X k).2)).e) == false) && true))))) rfl (by kernel_rfl) (by kernel_rfl) (by kernel_rfl) (by kernel_rfl) Try.eqGuardType40 ⟨⟨_, rfl⟩, ⟨_, rfl⟩, ⟨_, rfl⟩, ⟨_, rfl⟩, ⟨_, rfl⟩, trivial⟩ ⟨⟨_, rfl⟩, ⟨_, rfl⟩, ⟨_, rfl⟩, ⟨_, rfl⟩, ⟨_, rfl⟩, trivial⟩ (by kernel_rfl)
      refine Wl.guard (v := Value.bool ((((X k).2) && (begins ((X k).1))) && ((((next (run X k) ((X k).1) ((X k).2)).a) == true) && ((((next (run X k) ((X k).1) ((X k).2)).b) == false) && ((((next (run X k) ((X k).1) ((X k).2)).c) == false) && ((((next (run X k) ((X k).1) ((X k).2)).d) == false) && ((((next (run X k) ((X k).1) ((X k).2)).e) == false) && true))))))) ((over (run X k)) && (!(((next (run X k) ((X k).1) ((X k).2)).e) || (((next (run X k) ((X k).1) ((X k).2)).c) && ((next (run X k) ((X k).1) ((X k).2)).d))))) (wantT rfl (by kernel_rfl)) rfl (fun hg44 => ?_) ?_
      · refine Ys.at (t := 49) (v0 := Value.bool (((X k).2) && (begins ((X k).1)))) (lz (g := (over (run X k)) && (!(((next (run X k) ((X k).1) ((X k).2)).e) || (((next (run X k) ((X k).1) ((X k).2)).c) && ((next (run X k) ((X k).1) ((X k).2)).d))))) (u := undef) hg44 (by kernel_rfl)) ?_
        refine Ys.at (t := 52) (v0 := (bif ((X k).2) && (begins ((X k).1)) then Value.bool ((((next (run X k) ((X k).1) ((X k).2)).a) == true) && ((((next (run X k) ((X k).1) ((X k).2)).b) == false) && ((((next (run X k) ((X k).1) ((X k).2)).c) == false) && ((((next (run X k) ((X k).1) ((X k).2)).d) == false) && ((((next (run X k) ((X k).1) ((X k).2)).e) == false) && true))))) else undef)) (lz2 (g := (over (run X k)) && (!(((next (run X k) ((X k).1) ((X k).2)).e) || (((next (run X k) ((X k).1) ((X k).2)).c) && ((next (run X k) ((X k).1) ((X k).2)).d))))) hg44 (by kernel_rfl)) ?_
        exact Ys.and (e := ((X k).2) && (begins ((X k).1))) (b := (((next (run X k) ((X k).1) ((X k).2)).a) == true) && ((((next (run X k) ((X k).1) ((X k).2)).b) == false) && ((((next (run X k) ((X k).1) ((X k).2)).c) == false) && ((((next (run X k) ((X k).1) ((X k).2)).d) == false) && ((((next (run X k) ((X k).1) ((X k).2)).e) == false) && true))))) rfl (by kernel_rfl) (by kernel_rfl) (by kernel_rfl)
      refine Wl.guard (v := Value.bool (!((((X k).2) && (begins ((X k).1))) && ((((next (run X k) ((X k).1) ((X k).2)).a) == true) && ((((next (run X k) ((X k).1) ((X k).2)).b) == false) && ((((next (run X k) ((X k).1) ((X k).2)).c) == false) && ((((next (run X k) ((X k).1) ((X k).2)).d) == false) && ((((next (run X k) ((X k).1) ((X k).2)).e) == false) && true)))))))) ((over (run X k)) && (!(((next (run X k) ((X k).1) ((X k).2)).e) || (((next (run X k) ((X k).1) ((X k).2)).c) && ((next (run X k) ((X k).1) ((X k).2)).d))))) (wantT rfl (by kernel_rfl)) rfl (fun hg45 => ?_) ?_
      · refine Ys.at (t := 53) (v0 := Value.bool ((((X k).2) && (begins ((X k).1))) && ((((next (run X k) ((X k).1) ((X k).2)).a) == true) && ((((next (run X k) ((X k).1) ((X k).2)).b) == false) && ((((next (run X k) ((X k).1) ((X k).2)).c) == false) && ((((next (run X k) ((X k).1) ((X k).2)).d) == false) && ((((next (run X k) ((X k).1) ((X k).2)).e) == false) && true))))))) (lz (g := (over (run X k)) && (!(((next (run X k) ((X k).1) ((X k).2)).e) || (((next (run X k) ((X k).1) ((X k).2)).c) && ((next (run X k) ((X k).1) ((X k).2)).d))))) (u := undef) hg45 (by kernel_rfl)) ?_
        exact Ys.pure (fun _ => by kernel_rfl)
      refine Wl.ys (v := Value.bool (((over (run X k)) && (!(((next (run X k) ((X k).1) ((X k).2)).e) || (((next (run X k) ((X k).1) ((X k).2)).c) && ((next (run X k) ((X k).1) ((X k).2)).d))))) && (!((((X k).2) && (begins ((X k).1))) && ((((next (run X k) ((X k).1) ((X k).2)).a) == true) && ((((next (run X k) ((X k).1) ((X k).2)).b) == false) && ((((next (run X k) ((X k).1) ((X k).2)).c) == false) && ((((next (run X k) ((X k).1) ((X k).2)).d) == false) && ((((next (run X k) ((X k).1) ((X k).2)).e) == false) && true))))))))) rfl rfl (Ys.and (e := (over (run X k)) && (!(((next (run X k) ((X k).1) ((X k).2)).e) || (((next (run X k) ((X k).1) ((X k).2)).c) && ((next (run X k) ((X k).1) ((X k).2)).d))))) (b := !((((X k).2) && (begins ((X k).1))) && ((((next (run X k) ((X k).1) ((X k).2)).a) == true) && ((((next (run X k) ((X k).1) ((X k).2)).b) == false) && ((((next (run X k) ((X k).1) ((X k).2)).c) == false) && ((((next (run X k) ((X k).1) ((X k).2)).d) == false) && ((((next (run X k) ((X k).1) ((X k).2)).e) == false) && true))))))) rfl (by kernel_rfl) (by kernel_rfl) (by kernel_rfl)) ?_
      refine Wl.nil ?_
      refine hK30 _ _ ?_
      refine W.cond (((over (run X k)) && (!(((next (run X k) ((X k).1) ((X k).2)).e) || (((next (run X k) ((X k).1) ((X k).2)).c) && ((next (run X k) ((X k).1) ((X k).2)).d))))) && (!((((X k).2) && (begins ((X k).1))) && ((((next (run X k) ((X k).1) ((X k).2)).a) == true) && ((((next (run X k) ((X k).1) ((X k).2)).b) == false) && ((((next (run X k) ((X k).1) ((X k).2)).c) == false) && ((((next (run X k) ((X k).1) ((X k).2)).d) == false) && ((((next (run X k) ((X k).1) ((X k).2)).e) == false) && true)))))))) (by kernel_rfl) (fun h46 => ?_) (fun h47 => ?_)
      · have qh46 := h46; try simp only [Bool.and_eq_true, Bool.or_eq_true, Bool.not_eq_true', Bool.not_eq_false', Bool.and_eq_false_iff, Bool.or_eq_false_iff, decide_eq_true_eq, decide_eq_false_iff_not, beq_iff_eq, bne_iff_ne, beq_eq_false_iff_ne, bne_eq_false_iff_eq] at qh46
        refine W.seq (fun K48 hK48 => ?_)
        refine W.region ?_
        refine Wl.ys (v := Value.bool false) rfl rfl (Ys.pure (fun _ => by kernel_rfl)) ?_
        refine Wl.nil ?_
        refine hK48 _ _ ?_
        refine W.ret ?_
        show ∀ w_, _ → bodyPost Try.prog Try.f7 _ Exit.ret _ w_
        exact fun w_ hS_ => ret1 rfl (RV.tmp (v := Value.bool false) (by kernel_rfl)) hS_ ⟨by clear hK1 hK2 hK3 hK4 hK5 hK9 hK10 hK11 hJ12 hK15 hK16 hK19 hK20 hK21 hK22 hK29 hK30 hK48; refine congrArg Ending.returned ?_; exact absurd (h46.symm.trans (stays (run X k) (X k).1 (X k).2)) (by decide), hS_.below⟩
      · have qh47 := h47; try simp only [Bool.and_eq_true, Bool.or_eq_true, Bool.not_eq_true', Bool.not_eq_false', Bool.and_eq_false_iff, Bool.or_eq_false_iff, decide_eq_true_eq, decide_eq_false_iff_not, beq_iff_eq, bne_iff_ne, beq_eq_false_iff_ne, bne_eq_false_iff_eq] at qh47
        refine W.skip' ?_
        refine hK29 _ _ ?_
        refine W.seq (fun K49 hK49 => ?_)
        refine W.region ?_
        refine Wl.ys (v := Value.bool (((next (run X k) ((X k).1) ((X k).2)).e) || (((next (run X k) ((X k).1) ((X k).2)).c) && ((next (run X k) ((X k).1) ((X k).2)).d)))) rfl rfl (Ys.pure (fun _ => by kernel_rfl)) ?_
        refine Wl.ys (v := Value.bool (((next (run X k) ((X k).1) ((X k).2)).e) || (((next (run X k) ((X k).1) ((X k).2)).c) && ((next (run X k) ((X k).1) ((X k).2)).d)))) rfl rfl (Ys.pure (fun _ => by kernel_rfl)) ?_
        refine Wl.nil ?_
        refine hK49 _ _ ?_
        refine W.seq (fun K50 hK50 => ?_)
        refine W.region ?_
        refine Wl.ys (v := Value.agg ([Value.bool ((next (run X k) ((X k).1) ((X k).2)).a), Value.bool ((next (run X k) ((X k).1) ((X k).2)).b), Value.bool ((next (run X k) ((X k).1) ((X k).2)).c), Value.bool ((next (run X k) ((X k).1) ((X k).2)).d), Value.bool ((next (run X k) ((X k).1) ((X k).2)).e)]).toArray) rfl rfl (Ys.loadN (b := p3) (o' := 0) (i := 1) (cs := [Value.bool ((next (run X k) ((X k).1) ((X k).2)).a), Value.bool ((next (run X k) ((X k).1) ((X k).2)).b), Value.bool ((next (run X k) ((X k).1) ((X k).2)).c), Value.bool ((next (run X k) ((X k).1) ((X k).2)).d), Value.bool ((next (run X k) ((X k).1) ((X k).2)).e)]) (vs := [Value.bool ((next (run X k) ((X k).1) ((X k).2)).a), Value.bool ((next (run X k) ((X k).1) ((X k).2)).b), Value.bool ((next (run X k) ((X k).1) ((X k).2)).c), Value.bool ((next (run X k) ((X k).1) ((X k).2)).d), Value.bool ((next (run X k) ((X k).1) ((X k).2)).e)]) rfl (by kernel_rfl) Try.isAgg40 Try.sizeOf40 rfl rfl rfl) ?_
        refine Wl.ys (v := Value.int .u64 (limit 6 (next (run X k) ((X k).1) ((X k).2)))) rfl rfl (Ys.call (k := 25) (args := #[Value.int .u8 6, Value.agg ([Value.bool ((next (run X k) ((X k).1) ((X k).2)).a), Value.bool ((next (run X k) ((X k).1) ((X k).2)).b), Value.bool ((next (run X k) ((X k).1) ((X k).2)).c), Value.bool ((next (run X k) ((X k).1) ((X k).2)).d), Value.bool ((next (run X k) ((X k).1) ((X k).2)).e)]).toArray]) (fun _ => by kernel_rfl) (fun _ hSc => limit_c 6 (next (run X k) ((X k).1) ((X k).2)) _)) ?_
        refine Wl.ys (v := Value.bool (decide ((limit 6 (next (run X k) ((X k).1) ((X k).2))) > 240))) rfl rfl (Ys.pure (fun _ => by kernel_rfl)) ?_
        refine Wl.ys (v := Value.bool (decide ((limit 6 (next (run X k) ((X k).1) ((X k).2))) > 240))) rfl rfl (Ys.pure (fun _ => by kernel_rfl)) ?_
        refine Wl.guard (v := Value.bool (((next (run X k) ((X k).1) ((X k).2)).e) || (((next (run X k) ((X k).1) ((X k).2)).c) && ((next (run X k) ((X k).1) ((X k).2)).d)))) (decide ((limit 6 (next (run X k) ((X k).1) ((X k).2))) > 240)) (wantT rfl (by kernel_rfl)) rfl (fun hg51 => ?_) ?_
        · have qhg51 := hg51; try simp only [Bool.and_eq_true, Bool.or_eq_true, Bool.not_eq_true', Bool.not_eq_false', Bool.and_eq_false_iff, Bool.or_eq_false_iff, decide_eq_true_eq, decide_eq_false_iff_not, beq_iff_eq, bne_iff_ne, beq_eq_false_iff_ne, bne_eq_false_iff_eq] at qhg51
          exact Ys.pure (fun _ => by kernel_rfl)
        refine Wl.guard (v := Value.bool (((next (run X k) ((X k).1) ((X k).2)).e) || (((next (run X k) ((X k).1) ((X k).2)).c) && ((next (run X k) ((X k).1) ((X k).2)).d)))) (decide ((limit 6 (next (run X k) ((X k).1) ((X k).2))) > 240)) (wantT rfl (by kernel_rfl)) rfl (fun hg52 => ?_) ?_
        · have qhg52 := hg52; try simp only [Bool.and_eq_true, Bool.or_eq_true, Bool.not_eq_true', Bool.not_eq_false', Bool.and_eq_false_iff, Bool.or_eq_false_iff, decide_eq_true_eq, decide_eq_false_iff_not, beq_iff_eq, bne_iff_ne, beq_eq_false_iff_ne, bne_eq_false_iff_eq] at qhg52
          refine Ys.at (t := 61) (v0 := Value.bool (((next (run X k) ((X k).1) ((X k).2)).e) || (((next (run X k) ((X k).1) ((X k).2)).c) && ((next (run X k) ((X k).1) ((X k).2)).d)))) (lz (g := decide ((limit 6 (next (run X k) ((X k).1) ((X k).2))) > 240)) (u := undef) hg52 (by kernel_rfl)) ?_
          exact Ys.pure (fun _ => by kernel_rfl)
        refine Wl.guard (v := Value.pointer (some ⟨p3, 0, none⟩)) ((decide ((limit 6 (next (run X k) ((X k).1) ((X k).2))) > 240)) && !(((next (run X k) ((X k).1) ((X k).2)).e) || (((next (run X k) ((X k).1) ((X k).2)).c) && ((next (run X k) ((X k).1) ((X k).2)).d)))) (wantFz rfl rfl (by kernel_rfl)) rfl (fun hg53 => ?_) ?_
        · have qhg53 := hg53; try simp only [Bool.and_eq_true, Bool.or_eq_true, Bool.not_eq_true', Bool.not_eq_false', Bool.and_eq_false_iff, Bool.or_eq_false_iff, decide_eq_true_eq, decide_eq_false_iff_not, beq_iff_eq, bne_iff_ne, beq_eq_false_iff_ne, bne_eq_false_iff_eq] at qhg53
          exact Ys.pure (fun _ => by kernel_rfl)
        refine Wl.guard (v := Value.bool ((next (run X k) ((X k).1) ((X k).2)).a)) ((decide ((limit 6 (next (run X k) ((X k).1) ((X k).2))) > 240)) && !(((next (run X k) ((X k).1) ((X k).2)).e) || (((next (run X k) ((X k).1) ((X k).2)).c) && ((next (run X k) ((X k).1) ((X k).2)).d)))) (wantFz rfl rfl (by kernel_rfl)) rfl (fun hg54 => ?_) ?_
        · have qhg54 := hg54; try simp only [Bool.and_eq_true, Bool.or_eq_true, Bool.not_eq_true', Bool.not_eq_false', Bool.and_eq_false_iff, Bool.or_eq_false_iff, decide_eq_true_eq, decide_eq_false_iff_not, beq_iff_eq, bne_iff_ne, beq_eq_false_iff_ne, bne_eq_false_iff_eq] at qhg54
          refine Ys.at (t := 63) (v0 := Value.pointer (some ⟨p3, 0, none⟩)) (lz (g := (decide ((limit 6 (next (run X k) ((X k).1) ((X k).2))) > 240)) && !(((next (run X k) ((X k).1) ((X k).2)).e) || (((next (run X k) ((X k).1) ((X k).2)).c) && ((next (run X k) ((X k).1) ((X k).2)).d)))) (u := undef) hg54 (by kernel_rfl)) ?_
          exact Ys.load (b := p3) (o' := 0) (i := 1) (cs := [Value.bool ((next (run X k) ((X k).1) ((X k).2)).a), Value.bool ((next (run X k) ((X k).1) ((X k).2)).b), Value.bool ((next (run X k) ((X k).1) ((X k).2)).c), Value.bool ((next (run X k) ((X k).1) ((X k).2)).d), Value.bool ((next (run X k) ((X k).1) ((X k).2)).e)]) (v := Value.bool ((next (run X k) ((X k).1) ((X k).2)).a)) rfl (by kernel_rfl) Try.isAgg4 rfl rfl
        refine Wl.guard (v := Value.bool (!((next (run X k) ((X k).1) ((X k).2)).a))) ((decide ((limit 6 (next (run X k) ((X k).1) ((X k).2))) > 240)) && !(((next (run X k) ((X k).1) ((X k).2)).e) || (((next (run X k) ((X k).1) ((X k).2)).c) && ((next (run X k) ((X k).1) ((X k).2)).d)))) (wantFz rfl rfl (by kernel_rfl)) rfl (fun hg55 => ?_) ?_
        · have qhg55 := hg55; try simp only [Bool.and_eq_true, Bool.or_eq_true, Bool.not_eq_true', Bool.not_eq_false', Bool.and_eq_false_iff, Bool.or_eq_false_iff, decide_eq_true_eq, decide_eq_false_iff_not, beq_iff_eq, bne_iff_ne, beq_eq_false_iff_ne, bne_eq_false_iff_eq] at qhg55
          refine Ys.at (t := 64) (v0 := Value.bool ((next (run X k) ((X k).1) ((X k).2)).a)) (lz (g := (decide ((limit 6 (next (run X k) ((X k).1) ((X k).2))) > 240)) && !(((next (run X k) ((X k).1) ((X k).2)).e) || (((next (run X k) ((X k).1) ((X k).2)).c) && ((next (run X k) ((X k).1) ((X k).2)).d)))) (u := undef) hg55 (by kernel_rfl)) ?_
          exact Ys.pure (fun _ => by kernel_rfl)
        refine Wl.guard (v := Value.bool ((((next (run X k) ((X k).1) ((X k).2)).e) || (((next (run X k) ((X k).1) ((X k).2)).c) && ((next (run X k) ((X k).1) ((X k).2)).d))) || (!((next (run X k) ((X k).1) ((X k).2)).a)))) (decide ((limit 6 (next (run X k) ((X k).1) ((X k).2))) > 240)) (wantT rfl (by kernel_rfl)) rfl (fun hg56 => ?_) ?_
        · have qhg56 := hg56; try simp only [Bool.and_eq_true, Bool.or_eq_true, Bool.not_eq_true', Bool.not_eq_false', Bool.and_eq_false_iff, Bool.or_eq_false_iff, decide_eq_true_eq, decide_eq_false_iff_not, beq_iff_eq, bne_iff_ne, beq_eq_false_iff_ne, bne_eq_false_iff_eq] at qhg56
          refine Ys.at (t := 62) (v0 := Value.bool (((next (run X k) ((X k).1) ((X k).2)).e) || (((next (run X k) ((X k).1) ((X k).2)).c) && ((next (run X k) ((X k).1) ((X k).2)).d)))) (lz (g := decide ((limit 6 (next (run X k) ((X k).1) ((X k).2))) > 240)) (u := undef) hg56 (by kernel_rfl)) ?_
          refine Ys.at (t := 65) (v0 := (bif !(((next (run X k) ((X k).1) ((X k).2)).e) || (((next (run X k) ((X k).1) ((X k).2)).c) && ((next (run X k) ((X k).1) ((X k).2)).d))) then Value.bool (!((next (run X k) ((X k).1) ((X k).2)).a)) else undef)) (lz2 (g := decide ((limit 6 (next (run X k) ((X k).1) ((X k).2))) > 240)) hg56 (by kernel_rfl)) ?_
          exact Ys.or' (e := ((next (run X k) ((X k).1) ((X k).2)).e) || (((next (run X k) ((X k).1) ((X k).2)).c) && ((next (run X k) ((X k).1) ((X k).2)).d))) (b := !((next (run X k) ((X k).1) ((X k).2)).a)) rfl (by kernel_rfl) (by kernel_rfl) (by kernel_rfl)
        refine Wl.guard (v := Value.bool ((((next (run X k) ((X k).1) ((X k).2)).e) || (((next (run X k) ((X k).1) ((X k).2)).c) && ((next (run X k) ((X k).1) ((X k).2)).d))) || (!((next (run X k) ((X k).1) ((X k).2)).a)))) (decide ((limit 6 (next (run X k) ((X k).1) ((X k).2))) > 240)) (wantT rfl (by kernel_rfl)) rfl (fun hg57 => ?_) ?_
        · have qhg57 := hg57; try simp only [Bool.and_eq_true, Bool.or_eq_true, Bool.not_eq_true', Bool.not_eq_false', Bool.and_eq_false_iff, Bool.or_eq_false_iff, decide_eq_true_eq, decide_eq_false_iff_not, beq_iff_eq, bne_iff_ne, beq_eq_false_iff_ne, bne_eq_false_iff_eq] at qhg57
          refine Ys.at (t := 66) (v0 := Value.bool ((((next (run X k) ((X k).1) ((X k).2)).e) || (((next (run X k) ((X k).1) ((X k).2)).c) && ((next (run X k) ((X k).1) ((X k).2)).d))) || (!((next (run X k) ((X k).1) ((X k).2)).a)))) (lz (g := decide ((limit 6 (next (run X k) ((X k).1) ((X k).2))) > 240)) (u := undef) hg57 (by kernel_rfl)) ?_
          exact Ys.pure (fun _ => by kernel_rfl)
        refine Wl.guard (v := Value.pointer (some ⟨p3, 1, none⟩)) ((decide ((limit 6 (next (run X k) ((X k).1) ((X k).2))) > 240)) && !((((next (run X k) ((X k).1) ((X k).2)).e) || (((next (run X k) ((X k).1) ((X k).2)).c) && ((next (run X k) ((X k).1) ((X k).2)).d))) || (!((next (run X k) ((X k).1) ((X k).2)).a)))) (wantFz rfl rfl (by kernel_rfl)) rfl (fun hg58 => ?_) ?_
        · have qhg58 := hg58; try simp only [Bool.and_eq_true, Bool.or_eq_true, Bool.not_eq_true', Bool.not_eq_false', Bool.and_eq_false_iff, Bool.or_eq_false_iff, decide_eq_true_eq, decide_eq_false_iff_not, beq_iff_eq, bne_iff_ne, beq_eq_false_iff_ne, bne_eq_false_iff_eq] at qhg58
          exact Ys.pure (fun _ => by kernel_rfl)
        refine Wl.guard (v := Value.bool ((next (run X k) ((X k).1) ((X k).2)).b)) ((decide ((limit 6 (next (run X k) ((X k).1) ((X k).2))) > 240)) && !((((next (run X k) ((X k).1) ((X k).2)).e) || (((next (run X k) ((X k).1) ((X k).2)).c) && ((next (run X k) ((X k).1) ((X k).2)).d))) || (!((next (run X k) ((X k).1) ((X k).2)).a)))) (wantFz rfl rfl (by kernel_rfl)) rfl (fun hg59 => ?_) ?_
        · have qhg59 := hg59; try simp only [Bool.and_eq_true, Bool.or_eq_true, Bool.not_eq_true', Bool.not_eq_false', Bool.and_eq_false_iff, Bool.or_eq_false_iff, decide_eq_true_eq, decide_eq_false_iff_not, beq_iff_eq, bne_iff_ne, beq_eq_false_iff_ne, bne_eq_false_iff_eq] at qhg59
          refine Ys.at (t := 68) (v0 := Value.pointer (some ⟨p3, 1, none⟩)) (lz (g := (decide ((limit 6 (next (run X k) ((X k).1) ((X k).2))) > 240)) && !((((next (run X k) ((X k).1) ((X k).2)).e) || (((next (run X k) ((X k).1) ((X k).2)).c) && ((next (run X k) ((X k).1) ((X k).2)).d))) || (!((next (run X k) ((X k).1) ((X k).2)).a)))) (u := undef) hg59 (by kernel_rfl)) ?_
          exact Ys.load (b := p3) (o' := 1) (i := 1) (cs := [Value.bool ((next (run X k) ((X k).1) ((X k).2)).a), Value.bool ((next (run X k) ((X k).1) ((X k).2)).b), Value.bool ((next (run X k) ((X k).1) ((X k).2)).c), Value.bool ((next (run X k) ((X k).1) ((X k).2)).d), Value.bool ((next (run X k) ((X k).1) ((X k).2)).e)]) (v := Value.bool ((next (run X k) ((X k).1) ((X k).2)).b)) rfl (by kernel_rfl) Try.isAgg4 rfl rfl
        refine Wl.guard (v := Value.bool (!((next (run X k) ((X k).1) ((X k).2)).b))) ((decide ((limit 6 (next (run X k) ((X k).1) ((X k).2))) > 240)) && !((((next (run X k) ((X k).1) ((X k).2)).e) || (((next (run X k) ((X k).1) ((X k).2)).c) && ((next (run X k) ((X k).1) ((X k).2)).d))) || (!((next (run X k) ((X k).1) ((X k).2)).a)))) (wantFz rfl rfl (by kernel_rfl)) rfl (fun hg60 => ?_) ?_
        · have qhg60 := hg60; try simp only [Bool.and_eq_true, Bool.or_eq_true, Bool.not_eq_true', Bool.not_eq_false', Bool.and_eq_false_iff, Bool.or_eq_false_iff, decide_eq_true_eq, decide_eq_false_iff_not, beq_iff_eq, bne_iff_ne, beq_eq_false_iff_ne, bne_eq_false_iff_eq] at qhg60
          refine Ys.at (t := 69) (v0 := Value.bool ((next (run X k) ((X k).1) ((X k).2)).b)) (lz (g := (decide ((limit 6 (next (run X k) ((X k).1) ((X k).2))) > 240)) && !((((next (run X k) ((X k).1) ((X k).2)).e) || (((next (run X k) ((X k).1) ((X k).2)).c) && ((next (run X k) ((X k).1) ((X k).2)).d))) || (!((next (run X k) ((X k).1) ((X k).2)).a)))) (u := undef) hg60 (by kernel_rfl)) ?_
          exact Ys.pure (fun _ => by kernel_rfl)
        refine Wl.guard (v := Value.bool (((((next (run X k) ((X k).1) ((X k).2)).e) || (((next (run X k) ((X k).1) ((X k).2)).c) && ((next (run X k) ((X k).1) ((X k).2)).d))) || (!((next (run X k) ((X k).1) ((X k).2)).a))) || (!((next (run X k) ((X k).1) ((X k).2)).b)))) (decide ((limit 6 (next (run X k) ((X k).1) ((X k).2))) > 240)) (wantT rfl (by kernel_rfl)) rfl (fun hg61 => ?_) ?_
        · have qhg61 := hg61; try simp only [Bool.and_eq_true, Bool.or_eq_true, Bool.not_eq_true', Bool.not_eq_false', Bool.and_eq_false_iff, Bool.or_eq_false_iff, decide_eq_true_eq, decide_eq_false_iff_not, beq_iff_eq, bne_iff_ne, beq_eq_false_iff_ne, bne_eq_false_iff_eq] at qhg61
          refine Ys.at (t := 67) (v0 := Value.bool ((((next (run X k) ((X k).1) ((X k).2)).e) || (((next (run X k) ((X k).1) ((X k).2)).c) && ((next (run X k) ((X k).1) ((X k).2)).d))) || (!((next (run X k) ((X k).1) ((X k).2)).a)))) (lz (g := decide ((limit 6 (next (run X k) ((X k).1) ((X k).2))) > 240)) (u := undef) hg61 (by kernel_rfl)) ?_
          refine Ys.at (t := 70) (v0 := (bif !((((next (run X k) ((X k).1) ((X k).2)).e) || (((next (run X k) ((X k).1) ((X k).2)).c) && ((next (run X k) ((X k).1) ((X k).2)).d))) || (!((next (run X k) ((X k).1) ((X k).2)).a))) then Value.bool (!((next (run X k) ((X k).1) ((X k).2)).b)) else undef)) (lz2 (g := decide ((limit 6 (next (run X k) ((X k).1) ((X k).2))) > 240)) hg61 (by kernel_rfl)) ?_
          exact Ys.or' (e := (((next (run X k) ((X k).1) ((X k).2)).e) || (((next (run X k) ((X k).1) ((X k).2)).c) && ((next (run X k) ((X k).1) ((X k).2)).d))) || (!((next (run X k) ((X k).1) ((X k).2)).a))) (b := !((next (run X k) ((X k).1) ((X k).2)).b)) rfl (by kernel_rfl) (by kernel_rfl) (by kernel_rfl)
        refine Wl.ys (v := Value.bool ((decide ((limit 6 (next (run X k) ((X k).1) ((X k).2))) > 240)) && (((((next (run X k) ((X k).1) ((X k).2)).e) || (((next (run X k) ((X k).1) ((X k).2)).c) && ((next (run X k) ((X k).1) ((X k).2)).d))) || (!((next (run X k) ((X k).1) ((X k).2)).a))) || (!((next (run X k) ((X k).1) ((X k).2)).b))))) rfl rfl (Ys.and (e := decide ((limit 6 (next (run X k) ((X k).1) ((X k).2))) > 240)) (b := ((((next (run X k) ((X k).1) ((X k).2)).e) || (((next (run X k) ((X k).1) ((X k).2)).c) && ((next (run X k) ((X k).1) ((X k).2)).d))) || (!((next (run X k) ((X k).1) ((X k).2)).a))) || (!((next (run X k) ((X k).1) ((X k).2)).b))) rfl (by kernel_rfl) (by kernel_rfl) (by kernel_rfl)) ?_
        refine Wl.nil ?_
        refine hK50 _ _ ?_
        refine W.cond ((decide ((limit 6 (next (run X k) ((X k).1) ((X k).2))) > 240)) && (((((next (run X k) ((X k).1) ((X k).2)).e) || (((next (run X k) ((X k).1) ((X k).2)).c) && ((next (run X k) ((X k).1) ((X k).2)).d))) || (!((next (run X k) ((X k).1) ((X k).2)).a))) || (!((next (run X k) ((X k).1) ((X k).2)).b)))) (by kernel_rfl) (fun h62 => ?_) (fun h63 => ?_)
        · have qh62 := h62; try simp only [Bool.and_eq_true, Bool.or_eq_true, Bool.not_eq_true', Bool.not_eq_false', Bool.and_eq_false_iff, Bool.or_eq_false_iff, decide_eq_true_eq, decide_eq_false_iff_not, beq_iff_eq, bne_iff_ne, beq_eq_false_iff_ne, bne_eq_false_iff_eq] at qh62
          refine W.seq (fun K64 hK64 => ?_)
          refine W.region ?_
          refine Wl.ys (v := Value.bool false) rfl rfl (Ys.pure (fun _ => by kernel_rfl)) ?_
          refine Wl.nil ?_
          refine hK64 _ _ ?_
          refine W.ret ?_
          show ∀ w_, _ → bodyPost Try.prog Try.f7 _ Exit.ret _ w_
          exact fun w_ hS_ => ret1 rfl (RV.tmp (v := Value.bool false) (by kernel_rfl)) hS_ ⟨by clear hK1 hK2 hK3 hK4 hK5 hK9 hK10 hK11 hJ12 hK15 hK16 hK19 hK20 hK21 hK22 hK29 hK30 hK49 hK50 hK64; refine congrArg Ending.returned ?_; exact absurd (h62.symm.trans (lasts (next (run X k) (X k).1 (X k).2))) (by decide), hS_.below⟩
        · have qh63 := h63; try simp only [Bool.and_eq_true, Bool.or_eq_true, Bool.not_eq_true', Bool.not_eq_false', Bool.and_eq_false_iff, Bool.or_eq_false_iff, decide_eq_true_eq, decide_eq_false_iff_not, beq_iff_eq, bne_iff_ne, beq_eq_false_iff_ne, bne_eq_false_iff_eq] at qh63
          refine W.skip' ?_
          refine hK19 _ _ ?_
          refine W.region ?_
          refine Wl.ys (v := Value.int .i64 ((k + 1 : Nat) : Int)) rfl rfl ((Ys.pure (v := .int .i64 (iadd .i64 ((k : Nat) : Int) 1)) (fun _ => by kernel_rfl)).conseq (int_congr (iadd_eq (by omega) (by omega) (by omega)))) ?_
          refine Wl.ys (v := Value.int .i64 ((k + 1 : Nat) : Int)) rfl rfl (Ys.pure (fun _ => by kernel_rfl)) ?_
          refine Wl.nil ?_
          refine fun w_ hS_ => hJ12 (k + 1) _ _ (by first | omega | (dsimp only; omega)) ?_ ⟨(hS_.sublist (List.Sublist.cons _ (List.Sublist.cons_cons _ List.Sublist.slnil))), by first | omega | trivial⟩
          refine ⟨rfl, rfl, rfl, rfl, rfl, rfl, rfl, rfl, rfl, rfl, (by first | rfl | exact int_congr (by omega) | simp), (by first | rfl | exact int_congr (by omega) | simp), trivial⟩
    · have qh18 := h18; try simp only [Bool.and_eq_true, Bool.or_eq_true, Bool.not_eq_true', Bool.not_eq_false', Bool.and_eq_false_iff, Bool.or_eq_false_iff, decide_eq_true_eq, decide_eq_false_iff_not, beq_iff_eq, bne_iff_ne, beq_eq_false_iff_ne, bne_eq_false_iff_eq] at qh18
      refine W.exit ?_
      refine hK10 _ _ ?_
      refine W.seq (fun K65 hK65 => ?_)
      refine W.region ?_
      refine Wl.ys (v := Value.bool true) rfl rfl (Ys.pure (fun _ => by kernel_rfl)) ?_
      refine Wl.nil ?_
      refine hK65 _ _ ?_
      refine W.ret ?_
      show ∀ w_, _ → bodyPost Try.prog Try.f7 _ Exit.ret _ w_
      exact fun w_ hS_ => ret1 rfl (RV.tmp (v := Value.bool true) (by kernel_rfl)) hS_ ⟨rfl, hS_.below⟩

theorem own : ownKnob Try.prog.godebug = none := by kernel_rfl
theorem laidOut : laidOutB Try.prog = true := by kernel_rfl
set_option maxRecDepth 100000 in
set_option maxHeartbeats 400000 in
theorem lifted (os : Os) (started : os.Started) (H : Type) (enc : TypeId × Value → H) :
    ReturnsInHanded {} Try.checked os 7 .any (Rows.trackOverSpec.pre6 enc Try.prog Try.f7 Rows.trackOverRow.domain false) (Rows.trackOverSpec.post enc Try.prog Try.f7 false true false false) := by
  refine returnsInHanded_of_change (C := Try.checked) own started (by kernel_rfl) Try.func7
    (ChangeSpec.witness6 (enc := enc) (C := Try.checked) false ⟨#[], #[Value.slice none 0 0], []⟩ 12 (by kernel_rfl) (by kernel_rfl) (by kernel_rfl) (by kernel_rfl)) ?_
  intro W base args ds gs before hval0 hW hcnd _
  have hval : ∀ (j : Nat) t v, Try.f7.params[j]? = some t → args[j]? = some v → Value.okWide Try.prog W .any base t v := hval0
  have hW' := hW
  obtain ⟨p, q, hA0, hV, rfl, hfz, hnd⟩ := hW
  have hA : DataW.TrodAll enc Try.prog W 0 (fun _ => true) true Try.f7.params.toList args.toList ds p := hA0
  rw [Try.params7] at hA hval
  obtain ⟨v0, vs0, d0, ds0, p0, q0, hargs, rfl, rfl, h0, r0⟩ := trodAll_cons hA
  obtain ⟨rfl, rfl, rfl⟩ := trodAll_nil r0
  obtain rfl : args = #[v0] := by cases args; simp_all
  obtain ⟨rfl, rfl⟩ := trodVars_none hV
  have k0 := h0
  have lt0 : ∀ x ∈ p0, x.block < W.heap.size := by obtain ⟨m, hm⟩ := k0; exact DataW.trod_lt m _ _ _ hm
  obtain ⟨xs, len, cap, rfl⟩ := okWide_slice Try.underlying41 (hval 0 41 v0 rfl rfl)
  obtain ⟨m0, hm0⟩ := h0
  have F0 := flat_ok (P := Try.prog) 3 41 [.slice 43] (by kernel_rfl) _ _ _ hm0
  simp only [F2_cons, F2_nil, leafOK] at F0
  obtain ⟨_, _, E0, ⟨a_, l_, c_, rfl, lc0, cm0, hs0, hr0⟩, rfl⟩ := F0
  have E0' : xs = a_ ∧ len = l_ ∧ cap = c_ := by simpa [Value.cells] using E0
  obtain ⟨rfl, rfl, rfl⟩ := E0'
  obtain ⟨X, sl0, pX0⟩ := sl_of (e := 43) (sz := 2) (α := Int × Bool) (g := fun y => [Value.int .u8 y.1, Value.bool y.2]) (p := fun y => True) (by kernel_rfl) (by decide) lc0 hs0 hr0 (fun m cs x hx => by
    have F := flat_ok (P := Try.prog) 8 43 [.int .u8, .bool] (by kernel_rfl) _ _ _ hx
    simp only [F2_cons, F2_nil, leafOK] at F
    obtain ⟨_, _, rfl, ⟨y0, rfl, wy0⟩, _, _, rfl, ⟨y1, rfl⟩, rfl⟩ := F
    have by0 := bounds_u8 wy0
    exact ⟨(y0, y1), rfl, by first | trivial | (refine ⟨?_, ?_⟩ <;> (dsimp only; omega)) | (dsimp only; omega) | (simp; omega)⟩)
  clear hA0 hval0
  refine Calls.mono (walk xs len cap X W sl0) fun e W' ⟨he, bel⟩ => ?_
  subst he
  exact ⟨_, rfl, _, _, _, [], _, [], hW', trodAll_mk1 (shut_bool Try.underlying4 _), (trodAll_cons_mk (Below.trod laidOut (by kernel_rfl) (of_decide_eq_true (by kernel_rfl)) k0 bel lt0) trodAll_mk0), rfl, bel.frame _, fun h => by cases h⟩

theorem over : Rows.trackOverRow.holds Try.pinned (OpenSpec.ofChange Rows.trackOverSpec) :=
  OpenClaim.holds_of_wide 7 Try.f7 rfl rfl rfl rfl rfl rfl rfl ⟨rfl, rfl, rfl, rfl, rfl⟩ rfl rfl rfl rfl rfl (by kernel_rfl) Try.func7 (by kernel_rfl)
    (of_decide_eq_true (by kernel_rfl)) (by unfold Func.isWrapper; first | (rw [if_pos (by decide +kernel)]; kernel_rfl) | (rw [if_neg (by decide +kernel)]; exact ⟨rfl, rfl⟩))
    (fun os started H enc _ => lifted os started H enc)

theorem proved : Rows.TrackOverSaid :=
  over
end Go.Proofs.Ytegdeobjfdiilaa.TrackOver
