/-
  What the functions of track and of its reference return, for all arguments. No condition.
-/
import Derived.Test.YtegdeobjfdiilaaRows
import Derived.Test.YtegdeobjfdiilaaBase
set_option linter.unusedVariables false
set_option linter.unusedSimpArgs false
namespace Go.Proofs.Ytegdeobjfdiilaa.Track
open Go.RowKit Base
structure St where
  (a b c d e : Bool)
def begins (n : Int) : Bool := band .u8 n 22 == 2
def over (s : St) : Bool := s.e || (s.c && s.d)
def next (s : St) (n : Int) (out : Bool) : St :=
  bif (out && over s) && begins n then ⟨true, false, false, false, false⟩ else
  bif out then ⟨s.a || band .u8 n 2 != 0, s.b, s.c || band .u8 n 1 != 0, s.d, s.e || band .u8 n 4 != 0⟩ else ⟨s.a, s.b || band .u8 n 2 != 0, s.c, s.d || band .u8 n 1 != 0, s.e || band .u8 n 4 != 0⟩
def limit (n : Int) (s : St) : Int := bif n == 1 then 60 else bif n == 17 then 300 else bif n == 6 then bif (s.a && s.b) && !(over s) then 7440 else 240 else 0
def bitn (n k : Int) : Bool := irem (ishr .u8 n k) 2 == 1
def begins2 (n : Int) : Bool := (bitn n 1 && !(bitn n 4)) && !(bitn n 2)
def next2 (s : St) (n : Int) (out : Bool) : St :=
  bif (begins2 n && out) && over s then ⟨true, false, false, false, false⟩ else
  ⟨bif bitn n 1 && out then true else s.a, bif bitn n 1 && !out then true else s.b, bif bitn n 0 && out then true else s.c, bif bitn n 0 && !out then true else s.d, bif bitn n 2 then true else s.e⟩
def limit2 (n : Int) (s : St) : Int := bif n == 1 then 60 else bif n == 17 then 300 else bif n != 6 then 0 else bif (over s || !s.a) || !s.b then 240 else 7440
def lawBegins (a b : Int) : Bool :=
  let r := bandn .u8 b 22
  ((((begins a == begins (bor .u8 (band .u8 a 22) r)) && begins (bor .u8 2 r)) && !(begins (bor .u8 18 r))) && !(begins (bor .u8 6 r))) && !(begins r)
theorem begins_c (n : Int) (w : World) : Calls Try.prog 21 #[Value.int .u8 n] w (Ret w (.bool (begins n))) := by
  refine calls_W (M := []) (L := []) (n := 6) Try.func21 rfl rfl (by simp) (Mem.refl _) ?_
  refine W.seq (fun K1 hK1 => ?_)
  refine W.region ?_
  refine Wl.ys (v := Value.bool false) rfl rfl (Ys.pure (fun _ => by kernel_rfl)) ?_
  refine Wl.nil ?_
  refine hK1 _ _ ?_
  refine W.seq (fun K2 hK2 => ?_)
  refine W.region ?_
  refine Wl.ys (v := Value.int .u8 n) rfl rfl (Ys.pure (fun _ => by kernel_rfl)) ?_
  refine Wl.ys (v := Value.int .u8 (band .u8 n 22)) rfl rfl (Ys.pure (fun _ => by kernel_rfl)) ?_
  refine Wl.ys (v := Value.bool ((band .u8 n 22) == 2)) rfl rfl (Ys.pure (fun _ => by kernel_rfl)) ?_
  refine Wl.ys (v := Value.bool ((band .u8 n 22) == 2)) rfl rfl (Ys.pure (fun _ => by kernel_rfl)) ?_
  refine Wl.nil ?_
  refine hK2 _ _ ?_
  refine W.ret ?_
  show ∀ w_, _ → bodyPost Try.prog Try.f21 _ Exit.ret _ w_
  exact fun w_ hS_ => ret1 rfl (RV.tmp (v := Value.bool ((band .u8 n 22) == 2)) (by kernel_rfl)) hS_ ⟨rfl, hS_.below⟩

theorem over_c (s : St) (w : World) : Calls Try.prog 35 #[Value.agg ([Value.bool s.a, Value.bool s.b, Value.bool s.c, Value.bool s.d, Value.bool s.e]).toArray] w (Ret w (.bool (over s))) := by
  refine calls_W (M := []) (L := []) (n := 13) Try.func35 rfl rfl (by simp) (Mem.refl _) ?_
  refine W.seq (fun K1 hK1 => ?_)
  refine W.region ?_
  refine Wl.box (v := Value.agg ([Value.bool s.a, Value.bool s.b, Value.bool s.c, Value.bool s.d, Value.bool s.e]).toArray) (cs := [Value.bool s.a, Value.bool s.b, Value.bool s.c, Value.bool s.d, Value.bool s.e]) rfl rfl rfl (by kernel_rfl) rfl (fun p1 => ?_)
  refine Wl.ys (v := Value.bool false) rfl rfl (Ys.pure (fun _ => by kernel_rfl)) ?_
  refine Wl.nil ?_
  refine hK1 _ _ ?_
  refine W.seq (fun K2 hK2 => ?_)
  refine W.region ?_
  refine Wl.ys (v := Value.pointer (some ⟨p1, 4, none⟩)) rfl rfl (Ys.pure (fun _ => by kernel_rfl)) ?_
  refine Wl.ys (v := Value.bool s.e) rfl rfl (Ys.load (b := p1) (o' := 4) (i := 0) (cs := [Value.bool s.a, Value.bool s.b, Value.bool s.c, Value.bool s.d, Value.bool s.e]) (v := Value.bool s.e) rfl (by kernel_rfl) Try.isAgg4 rfl rfl) ?_
  refine Wl.ys (v := Value.bool s.e) rfl rfl (Ys.pure (fun _ => by kernel_rfl)) ?_
  refine Wl.guard (v := Value.pointer (some ⟨p1, 2, none⟩)) (!s.e) (wantF rfl (by kernel_rfl)) rfl (fun hg3 => ?_) ?_
  · exact Ys.pure (fun _ => by kernel_rfl)
  refine Wl.guard (v := Value.bool s.c) (!s.e) (wantF rfl (by kernel_rfl)) rfl (fun hg4 => ?_) ?_
  · refine Ys.at (t := 6) (v0 := Value.pointer (some ⟨p1, 2, none⟩)) (lz (g := !s.e) (u := undef) hg4 (by kernel_rfl)) ?_
    exact Ys.load (b := p1) (o' := 2) (i := 0) (cs := [Value.bool s.a, Value.bool s.b, Value.bool s.c, Value.bool s.d, Value.bool s.e]) (v := Value.bool s.c) rfl (by kernel_rfl) Try.isAgg4 rfl rfl
  refine Wl.guard (v := Value.bool s.c) (!s.e) (wantF rfl (by kernel_rfl)) rfl (fun hg5 => ?_) ?_
  · refine Ys.at (t := 7) (v0 := Value.bool s.c) (lz (g := !s.e) (u := undef) hg5 (by kernel_rfl)) ?_
    exact Ys.pure (fun _ => by kernel_rfl)
  refine Wl.guard (v := Value.pointer (some ⟨p1, 3, none⟩)) ((!s.e) && s.c) (wantTz rfl rfl (by kernel_rfl)) rfl (fun hg6 => ?_) ?_
  · exact Ys.pure (fun _ => by kernel_rfl)
  refine Wl.guard (v := Value.bool s.d) ((!s.e) && s.c) (wantTz rfl rfl (by kernel_rfl)) rfl (fun hg7 => ?_) ?_
  · refine Ys.at (t := 9) (v0 := Value.pointer (some ⟨p1, 3, none⟩)) (lz (g := (!s.e) && s.c) (u := undef) hg7 (by kernel_rfl)) ?_
    exact Ys.load (b := p1) (o' := 3) (i := 0) (cs := [Value.bool s.a, Value.bool s.b, Value.bool s.c, Value.bool s.d, Value.bool s.e]) (v := Value.bool s.d) rfl (by kernel_rfl) Try.isAgg4 rfl rfl
  refine Wl.guard (v := Value.bool (s.c && s.d)) (!s.e) (wantF rfl (by kernel_rfl)) rfl (fun hg8 => ?_) ?_
  · refine Ys.at (t := 8) (v0 := Value.bool s.c) (lz (g := !s.e) (u := undef) hg8 (by kernel_rfl)) ?_
    refine Ys.at (t := 10) (v0 := (bif s.c then Value.bool s.d else undef)) (lz2 (g := !s.e) hg8 (by kernel_rfl)) ?_
    exact Ys.and (e := s.c) (b := s.d) rfl (by kernel_rfl) (by kernel_rfl) (by kernel_rfl)
  refine Wl.ys (v := Value.bool (s.e || (s.c && s.d))) rfl rfl (Ys.or' (e := s.e) (b := s.c && s.d) rfl (by kernel_rfl) (by kernel_rfl) (by kernel_rfl)) ?_
  refine Wl.ys (v := Value.bool (s.e || (s.c && s.d))) rfl rfl (Ys.pure (fun _ => by kernel_rfl)) ?_
  refine Wl.nil ?_
  refine hK2 _ _ ?_
  refine W.ret ?_
  show ∀ w_, _ → bodyPost Try.prog Try.f35 _ Exit.ret _ w_
  exact fun w_ hS_ => ret1 rfl (RV.tmp (v := Value.bool (s.e || (s.c && s.d))) (by kernel_rfl)) hS_ ⟨rfl, hS_.below⟩

theorem over2_c (s : St) (w : World) : Calls Try.prog 36 #[Value.agg ([Value.bool s.a, Value.bool s.b, Value.bool s.c, Value.bool s.d, Value.bool s.e]).toArray] w (Ret w (.bool (over s))) := by
  refine calls_W (M := []) (L := []) (n := 13) Try.func36 rfl rfl (by simp) (Mem.refl _) ?_
  refine W.seq (fun K1 hK1 => ?_)
  refine W.region ?_
  refine Wl.box (v := Value.agg ([Value.bool s.a, Value.bool s.b, Value.bool s.c, Value.bool s.d, Value.bool s.e]).toArray) (cs := [Value.bool s.a, Value.bool s.b, Value.bool s.c, Value.bool s.d, Value.bool s.e]) rfl rfl rfl (by kernel_rfl) rfl (fun p1 => ?_)
  refine Wl.ys (v := Value.bool false) rfl rfl (Ys.pure (fun _ => by kernel_rfl)) ?_
  refine Wl.nil ?_
  refine hK1 _ _ ?_
  refine W.seq (fun K2 hK2 => ?_)
  refine W.region ?_
  refine Wl.ys (v := Value.pointer (some ⟨p1, 4, none⟩)) rfl rfl (Ys.pure (fun _ => by kernel_rfl)) ?_
  refine Wl.ys (v := Value.bool s.e) rfl rfl (Ys.load (b := p1) (o' := 4) (i := 0) (cs := [Value.bool s.a, Value.bool s.b, Value.bool s.c, Value.bool s.d, Value.bool s.e]) (v := Value.bool s.e) rfl (by kernel_rfl) Try.isAgg4 rfl rfl) ?_
  refine Wl.ys (v := Value.bool s.e) rfl rfl (Ys.pure (fun _ => by kernel_rfl)) ?_
  refine Wl.guard (v := Value.pointer (some ⟨p1, 2, none⟩)) (!s.e) (wantF rfl (by kernel_rfl)) rfl (fun hg3 => ?_) ?_
  · exact Ys.pure (fun _ => by kernel_rfl)
  refine Wl.guard (v := Value.bool s.c) (!s.e) (wantF rfl (by kernel_rfl)) rfl (fun hg4 => ?_) ?_
  · refine Ys.at (t := 6) (v0 := Value.pointer (some ⟨p1, 2, none⟩)) (lz (g := !s.e) (u := undef) hg4 (by kernel_rfl)) ?_
    exact Ys.load (b := p1) (o' := 2) (i := 0) (cs := [Value.bool s.a, Value.bool s.b, Value.bool s.c, Value.bool s.d, Value.bool s.e]) (v := Value.bool s.c) rfl (by kernel_rfl) Try.isAgg4 rfl rfl
  refine Wl.guard (v := Value.bool s.c) (!s.e) (wantF rfl (by kernel_rfl)) rfl (fun hg5 => ?_) ?_
  · refine Ys.at (t := 7) (v0 := Value.bool s.c) (lz (g := !s.e) (u := undef) hg5 (by kernel_rfl)) ?_
    exact Ys.pure (fun _ => by kernel_rfl)
  refine Wl.guard (v := Value.pointer (some ⟨p1, 3, none⟩)) ((!s.e) && s.c) (wantTz rfl rfl (by kernel_rfl)) rfl (fun hg6 => ?_) ?_
  · exact Ys.pure (fun _ => by kernel_rfl)
  refine Wl.guard (v := Value.bool s.d) ((!s.e) && s.c) (wantTz rfl rfl (by kernel_rfl)) rfl (fun hg7 => ?_) ?_
  · refine Ys.at (t := 9) (v0 := Value.pointer (some ⟨p1, 3, none⟩)) (lz (g := (!s.e) && s.c) (u := undef) hg7 (by kernel_rfl)) ?_
    exact Ys.load (b := p1) (o' := 3) (i := 0) (cs := [Value.bool s.a, Value.bool s.b, Value.bool s.c, Value.bool s.d, Value.bool s.e]) (v := Value.bool s.d) rfl (by kernel_rfl) Try.isAgg4 rfl rfl
  refine Wl.guard (v := Value.bool (s.c && s.d)) (!s.e) (wantF rfl (by kernel_rfl)) rfl (fun hg8 => ?_) ?_
  · refine Ys.at (t := 8) (v0 := Value.bool s.c) (lz (g := !s.e) (u := undef) hg8 (by kernel_rfl)) ?_
    refine Ys.at (t := 10) (v0 := (bif s.c then Value.bool s.d else undef)) (lz2 (g := !s.e) hg8 (by kernel_rfl)) ?_
    exact Ys.and (e := s.c) (b := s.d) rfl (by kernel_rfl) (by kernel_rfl) (by kernel_rfl)
  refine Wl.ys (v := Value.bool (s.e || (s.c && s.d))) rfl rfl (Ys.or' (e := s.e) (b := s.c && s.d) rfl (by kernel_rfl) (by kernel_rfl) (by kernel_rfl)) ?_
  refine Wl.ys (v := Value.bool (s.e || (s.c && s.d))) rfl rfl (Ys.pure (fun _ => by kernel_rfl)) ?_
  refine Wl.nil ?_
  refine hK2 _ _ ?_
  refine W.ret ?_
  show ∀ w_, _ → bodyPost Try.prog Try.f36 _ Exit.ret _ w_
  exact fun w_ hS_ => ret1 rfl (RV.tmp (v := Value.bool (s.e || (s.c && s.d))) (by kernel_rfl)) hS_ ⟨rfl, hS_.below⟩

theorem next_c (s : St) (n : Int) (out : Bool) (w : World) : Calls Try.prog 23 #[Value.agg ([Value.bool s.a, Value.bool s.b, Value.bool s.c, Value.bool s.d, Value.bool s.e]).toArray, Value.int .u8 n, Value.bool out] w (Ret w (.agg ([Value.bool ((next s n out).a), Value.bool ((next s n out).b), Value.bool ((next s n out).c), Value.bool ((next s n out).d), Value.bool ((next s n out).e)]).toArray)) := by
  refine calls_W (M := []) (L := []) (n := 59) Try.func23 rfl rfl (by simp) (Mem.refl _) ?_
  refine W.seq (fun K1 hK1 => ?_)
  refine W.region ?_
  refine Wl.box (v := Value.agg ([Value.bool s.a, Value.bool s.b, Value.bool s.c, Value.bool s.d, Value.bool s.e]).toArray) (cs := [Value.bool s.a, Value.bool s.b, Value.bool s.c, Value.bool s.d, Value.bool s.e]) rfl rfl rfl (by kernel_rfl) rfl (fun p3 => ?_)
  refine Wl.alloc (z := Value.agg ([Value.bool false, Value.bool false, Value.bool false, Value.bool false, Value.bool false]).toArray) (cs := [Value.bool false, Value.bool false, Value.bool false, Value.bool false, Value.bool false]) rfl rfl rfl Try.zeroValue40 rfl (fun p6 => ?_)
  refine Wl.nil ?_
  refine hK1 _ _ ?_
  refine W.seq (fun K2 hK2 => ?_)
  refine W.seq (fun K3 hK3 => ?_)
  refine W.region ?_
  refine Wl.ys (v := Value.bool out) rfl rfl (Ys.pure (fun _ => by kernel_rfl)) ?_
  refine Wl.ys (v := Value.bool out) rfl rfl (Ys.pure (fun _ => by kernel_rfl)) ?_
  refine Wl.guard (v := Value.agg ([Value.bool s.a, Value.bool s.b, Value.bool s.c, Value.bool s.d, Value.bool s.e]).toArray) (out) (wantT rfl (by kernel_rfl)) rfl (fun hg4 => ?_) ?_
  · exact Ys.loadN (b := p3) (o' := 0) (i := 1) (cs := [Value.bool s.a, Value.bool s.b, Value.bool s.c, Value.bool s.d, Value.bool s.e]) (vs := [Value.bool s.a, Value.bool s.b, Value.bool s.c, Value.bool s.d, Value.bool s.e]) rfl (by kernel_rfl) Try.isAgg40 Try.sizeOf40 rfl rfl rfl
  refine Wl.guard (v := Value.bool (over s)) (out) (wantT rfl (by kernel_rfl)) rfl (fun hg5 => ?_) ?_
  · refine Ys.at (t := 11) (v0 := Value.agg ([Value.bool s.a, Value.bool s.b, Value.bool s.c, Value.bool s.d, Value.bool s.e]).toArray) (lz (g := out) (u := undef) hg5 (by kernel_rfl)) ?_
    exact Ys.call (k := 35) (args := #[Value.agg ([Value.bool s.a, Value.bool s.b, Value.bool s.c, Value.bool s.d, Value.bool s.e]).toArray]) (fun _ => by kernel_rfl) (fun _ hSc => over_c s _)
  refine Wl.ys (v := Value.bool (out && (over s))) rfl rfl (Ys.and (e := out) (b := over s) rfl (by kernel_rfl) (by kernel_rfl) (by kernel_rfl)) ?_
  refine Wl.ys (v := Value.bool (out && (over s))) rfl rfl (Ys.pure (fun _ => by kernel_rfl)) ?_
  refine Wl.guard (v := Value.int .u8 n) (out && (over s)) (wantT rfl (by kernel_rfl)) rfl (fun hg6 => ?_) ?_
  · exact Ys.pure (fun _ => by kernel_rfl)
  refine Wl.guard (v := Value.bool (begins n)) (out && (over s)) (wantT rfl (by kernel_rfl)) rfl (fun hg7 => ?_) ?_
  · refine Ys.at (t := 15) (v0 := Value.int .u8 n) (lz (g := out && (over s)) (u := undef) hg7 (by kernel_rfl)) ?_
    exact Ys.call (k := 21) (args := #[Value.int .u8 n]) (fun _ => by kernel_rfl) (fun _ hSc => begins_c n _)
  refine Wl.ys (v := Value.bool ((out && (over s)) && (begins n))) rfl rfl (Ys.and (e := out && (over s)) (b := begins n) rfl (by kernel_rfl) (by kernel_rfl) (by kernel_rfl)) ?_
  refine Wl.nil ?_
  refine hK3 _ _ ?_
  refine W.cond ((out && (over s)) && (begins n)) (by kernel_rfl) (fun h8 => ?_) (fun h9 => ?_)
  · refine W.seq (fun K10 hK10 => ?_)
    refine W.region ?_
    refine Wl.ys (v := Value.agg ([Value.bool true, Value.bool false, Value.bool false, Value.bool false, Value.bool false]).toArray) rfl rfl (Ys.pure (fun _ => by kernel_rfl)) ?_
    refine Wl.storeN (b := p6) (o' := 0) (i := 0) (cs := [Value.bool false, Value.bool false, Value.bool false, Value.bool false, Value.bool false]) (vs := [Value.bool true, Value.bool false, Value.bool false, Value.bool false, Value.bool false]) (cs' := [Value.bool true, Value.bool false, Value.bool false, Value.bool false, Value.bool false]) (L' := [⟨p6, [Value.bool true, Value.bool false, Value.bool false, Value.bool false, Value.bool false], 40⟩, ⟨p3, [Value.bool s.a, Value.bool s.b, Value.bool s.c, Value.bool s.d, Value.bool s.e], 40⟩]) rfl rfl rfl (by kernel_rfl) (by kernel_rfl) Try.sizeOf40 (by simp [Value.oneCell']) rfl (by simp) rfl rfl ?_
    refine Wl.nil ?_
    refine hK10 _ _ ?_
    refine W.ret ?_
    show ∀ w_, _ → bodyPost Try.prog Try.f23 _ Exit.ret _ w_
    exact fun w_ hS_ => ret1 rfl (RV.cellN (b := p6) (o' := 0) (i := 0) (cs := [Value.bool true, Value.bool false, Value.bool false, Value.bool false, Value.bool false]) (vs := [Value.bool true, Value.bool false, Value.bool false, Value.bool false, Value.bool false]) (by kernel_rfl) Try.isAgg40 Try.sizeOf40 rfl rfl rfl) hS_ ⟨by clear hK1 hK2 hK3 hK10; refine congrArg Ending.returned ?_; rw [next, h8] <;> rfl, hS_.below⟩
  · refine W.skip' ?_
    refine hK2 _ _ ?_
    refine W.seq (fun K11 hK11 => ?_)
    refine W.region ?_
    refine Wl.ys (v := Value.int .u8 n) rfl rfl (Ys.pure (fun _ => by kernel_rfl)) ?_
    refine Wl.ys (v := Value.int .u8 (band .u8 n 2)) rfl rfl (Ys.pure (fun _ => by kernel_rfl)) ?_
    refine Wl.ys (v := Value.bool ((band .u8 n 2) != 0)) rfl rfl (Ys.pure (fun _ => by kernel_rfl)) ?_
    refine Wl.ys (v := Value.int .u8 n) rfl rfl (Ys.pure (fun _ => by kernel_rfl)) ?_
    refine Wl.ys (v := Value.int .u8 (band .u8 n 1)) rfl rfl (Ys.pure (fun _ => by kernel_rfl)) ?_
    refine Wl.ys (v := Value.bool ((band .u8 n 1) != 0)) rfl rfl (Ys.pure (fun _ => by kernel_rfl)) ?_
    refine Wl.ys (v := Value.bool ((band .u8 n 2) != 0)) rfl rfl (Ys.pure (fun _ => by kernel_rfl)) ?_
    refine Wl.ys (v := Value.bool ((band .u8 n 1) != 0)) rfl rfl (Ys.pure (fun _ => by kernel_rfl)) ?_
    refine Wl.nil ?_
    refine hK11 _ _ ?_
    refine W.seq (fun K12 hK12 => ?_)
    refine W.region ?_
    refine Wl.ys (v := Value.pointer (some ⟨p3, 4, none⟩)) rfl rfl (Ys.pure (fun _ => by kernel_rfl)) ?_
    refine Wl.ys (v := Value.bool s.e) rfl rfl (Ys.load (b := p3) (o' := 4) (i := 1) (cs := [Value.bool s.a, Value.bool s.b, Value.bool s.c, Value.bool s.d, Value.bool s.e]) (v := Value.bool s.e) rfl (by kernel_rfl) Try.isAgg4 rfl rfl) ?_
    refine Wl.ys (v := Value.bool s.e) rfl rfl (Ys.pure (fun _ => by kernel_rfl)) ?_
    refine Wl.guard (v := Value.int .u8 n) (!s.e) (wantF rfl (by kernel_rfl)) rfl (fun hg13 => ?_) ?_
    · exact Ys.pure (fun _ => by kernel_rfl)
    refine Wl.guard (v := Value.int .u8 (band .u8 n 4)) (!s.e) (wantF rfl (by kernel_rfl)) rfl (fun hg14 => ?_) ?_
    · refine Ys.at (t := 28) (v0 := Value.int .u8 n) (lz (g := !s.e) (u := undef) hg14 (by kernel_rfl)) ?_
      exact Ys.pure (fun _ => by kernel_rfl)
    refine Wl.guard (v := Value.bool ((band .u8 n 4) != 0)) (!s.e) (wantF rfl (by kernel_rfl)) rfl (fun hg15 => ?_) ?_
    · refine Ys.at (t := 29) (v0 := Value.int .u8 (band .u8 n 4)) (lz (g := !s.e) (u := undef) hg15 (by kernel_rfl)) ?_
      exact Ys.pure (fun _ => by kernel_rfl)
    refine Wl.ys (v := Value.bool (s.e || ((band .u8 n 4) != 0))) rfl rfl (Ys.or' (e := s.e) (b := (band .u8 n 4) != 0) rfl (by kernel_rfl) (by kernel_rfl) (by kernel_rfl)) ?_
    refine Wl.ys (v := Value.pointer (some ⟨p3, 4, none⟩)) rfl rfl (Ys.pure (fun _ => by kernel_rfl)) ?_
    refine Wl.store (b := p3) (o' := 4) (i := 1) (cs := [Value.bool s.a, Value.bool s.b, Value.bool s.c, Value.bool s.d, Value.bool s.e]) (v := Value.bool (s.e || ((band .u8 n 4) != 0))) (L' := [⟨p6, [Value.bool false, Value.bool false, Value.bool false, Value.bool false, Value.bool false], 40⟩, ⟨p3, [Value.bool s.a, Value.bool s.b, Value.bool s.c, Value.bool s.d, Value.bool (s.e || ((band .u8 n 4) != 0))], 40⟩]) rfl rfl rfl (by kernel_rfl) (by kernel_rfl) Try.sizeOf4 rfl rfl (by simp) rfl ?_
    refine Wl.nil ?_
    refine hK12 _ _ ?_
    refine W.seq (fun K16 hK16 => ?_)
    refine W.seq (fun K17 hK17 => ?_)
    refine W.region ?_
    refine Wl.ys (v := Value.bool out) rfl rfl (Ys.pure (fun _ => by kernel_rfl)) ?_
    refine Wl.nil ?_
    refine hK17 _ _ ?_
    refine W.cond (out) (by kernel_rfl) (fun h18 => ?_) (fun h19 => ?_)
    · refine W.region ?_
      refine Wl.ys (v := Value.pointer (some ⟨p3, 0, none⟩)) rfl rfl (Ys.pure (fun _ => by kernel_rfl)) ?_
      refine Wl.ys (v := Value.bool s.a) rfl rfl (Ys.load (b := p3) (o' := 0) (i := 1) (cs := [Value.bool s.a, Value.bool s.b, Value.bool s.c, Value.bool s.d, Value.bool (s.e || ((band .u8 n 4) != 0))]) (v := Value.bool s.a) rfl (by kernel_rfl) Try.isAgg4 rfl rfl) ?_
      refine Wl.ys (v := Value.bool s.a) rfl rfl (Ys.pure (fun _ => by kernel_rfl)) ?_
      refine Wl.guard (v := Value.bool ((band .u8 n 2) != 0)) (!s.a) (wantF rfl (by kernel_rfl)) rfl (fun hg20 => ?_) ?_
      · exact Ys.pure (fun _ => by kernel_rfl)
      refine Wl.ys (v := Value.bool (s.a || ((band .u8 n 2) != 0))) rfl rfl (Ys.or' (e := s.a) (b := (band .u8 n 2) != 0) rfl (by kernel_rfl) (by kernel_rfl) (by kernel_rfl)) ?_
      refine Wl.ys (v := Value.pointer (some ⟨p3, 2, none⟩)) rfl rfl (Ys.pure (fun _ => by kernel_rfl)) ?_
      refine Wl.ys (v := Value.bool s.c) rfl rfl (Ys.load (b := p3) (o' := 2) (i := 1) (cs := [Value.bool s.a, Value.bool s.b, Value.bool s.c, Value.bool s.d, Value.bool (s.e || ((band .u8 n 4) != 0))]) (v := Value.bool s.c) rfl (by kernel_rfl) Try.isAgg4 rfl rfl) ?_
      refine Wl.ys (v := Value.bool s.c) rfl rfl (Ys.pure (fun _ => by kernel_rfl)) ?_
      refine Wl.guard (v := Value.bool ((band .u8 n 1) != 0)) (!s.c) (wantF rfl (by kernel_rfl)) rfl (fun hg21 => ?_) ?_
      · exact Ys.pure (fun _ => by kernel_rfl)
      refine Wl.ys (v := Value.bool (s.c || ((band .u8 n 1) != 0))) rfl rfl (Ys.or' (e := s.c) (b := (band .u8 n 1) != 0) rfl (by kernel_rfl) (by kernel_rfl) (by kernel_rfl)) ?_
      refine Wl.ys (v := Value.pointer (some ⟨p3, 0, none⟩)) rfl rfl (Ys.pure (fun _ => by kernel_rfl)) ?_
      refine Wl.store (b := p3) (o' := 0) (i := 1) (cs := [Value.bool s.a, Value.bool s.b, Value.bool s.c, Value.bool s.d, Value.bool (s.e || ((band .u8 n 4) != 0))]) (v := Value.bool (s.a || ((band .u8 n 2) != 0))) (L' := [⟨p6, [Value.bool false, Value.bool false, Value.bool false, Value.bool false, Value.bool false], 40⟩, ⟨p3, [Value.bool (s.a || ((band .u8 n 2) != 0)), Value.bool s.b, Value.bool s.c, Value.bool s.d, Value.bool (s.e || ((band .u8 n 4) != 0))], 40⟩]) rfl rfl rfl (by kernel_rfl) (by kernel_rfl) Try.sizeOf4 rfl rfl (by simp) rfl ?_
      refine Wl.ys (v := Value.pointer (some ⟨p3, 2, none⟩)) rfl rfl (Ys.pure (fun _ => by kernel_rfl)) ?_
      refine Wl.store (b := p3) (o' := 2) (i := 1) (cs := [Value.bool (s.a || ((band .u8 n 2) != 0)), Value.bool s.b, Value.bool s.c, Value.bool s.d, Value.bool (s.e || ((band .u8 n 4) != 0))]) (v := Value.bool (s.c || ((band .u8 n 1) != 0))) (L' := [⟨p6, [Value.bool false, Value.bool false, Value.bool false, Value.bool false, Value.bool false], 40⟩, ⟨p3, [Value.bool (s.a || ((band .u8 n 2) != 0)), Value.bool s.b, Value.bool (s.c || ((band .u8 n 1) != 0)), Value.bool s.d, Value.bool (s.e || ((band .u8 n 4) != 0))], 40⟩]) rfl rfl rfl (by kernel_rfl) (by kernel_rfl) Try.sizeOf4 rfl rfl (by simp) rfl ?_
      refine Wl.nil ?_
      refine hK16 _ _ ?_
      refine W.seq (fun K22 hK22 => ?_)
      refine W.region ?_
      refine Wl.ys (v := Value.agg ([Value.bool (s.a || ((band .u8 n 2) != 0)), Value.bool s.b, Value.bool (s.c || ((band .u8 n 1) != 0)), Value.bool s.d, Value.bool (s.e || ((band .u8 n 4) != 0))]).toArray) rfl rfl (Ys.loadN (b := p3) (o' := 0) (i := 1) (cs := [Value.bool (s.a || ((band .u8 n 2) != 0)), Value.bool s.b, Value.bool (s.c || ((band .u8 n 1) != 0)), Value.bool s.d, Value.bool (s.e || ((band .u8 n 4) != 0))]) (vs := [Value.bool (s.a || ((band .u8 n 2) != 0)), Value.bool s.b, Value.bool (s.c || ((band .u8 n 1) != 0)), Value.bool s.d, Value.bool (s.e || ((band .u8 n 4) != 0))]) rfl (by kernel_rfl) Try.isAgg40 Try.sizeOf40 rfl rfl rfl) ?_
      refine Wl.storeN (b := p6) (o' := 0) (i := 0) (cs := [Value.bool false, Value.bool false, Value.bool false, Value.bool false, Value.bool false]) (vs := [Value.bool (s.a || ((band .u8 n 2) != 0)), Value.bool s.b, Value.bool (s.c || ((band .u8 n 1) != 0)), Value.bool s.d, Value.bool (s.e || ((band .u8 n 4) != 0))]) (cs' := [Value.bool (s.a || ((band .u8 n 2) != 0)), Value.bool s.b, Value.bool (s.c || ((band .u8 n 1) != 0)), Value.bool s.d, Value.bool (s.e || ((band .u8 n 4) != 0))]) (L' := [⟨p6, [Value.bool (s.a || ((band .u8 n 2) != 0)), Value.bool s.b, Value.bool (s.c || ((band .u8 n 1) != 0)), Value.bool s.d, Value.bool (s.e || ((band .u8 n 4) != 0))], 40⟩, ⟨p3, [Value.bool (s.a || ((band .u8 n 2) != 0)), Value.bool s.b, Value.bool (s.c || ((band .u8 n 1) != 0)), Value.bool s.d, Value.bool (s.e || ((band .u8 n 4) != 0))], 40⟩]) rfl rfl rfl (by kernel_rfl) (by kernel_rfl) Try.sizeOf40 (by simp [Value.oneCell']) rfl (by simp) rfl rfl ?_
      refine Wl.nil ?_
      refine hK22 _ _ ?_
      refine W.ret ?_
      show ∀ w_, _ → bodyPost Try.prog Try.f23 _ Exit.ret _ w_
      exact fun w_ hS_ => ret1 rfl (RV.cellN (b := p6) (o' := 0) (i := 0) (cs := [Value.bool (s.a || ((band .u8 n 2) != 0)), Value.bool s.b, Value.bool (s.c || ((band .u8 n 1) != 0)), Value.bool s.d, Value.bool (s.e || ((band .u8 n 4) != 0))]) (vs := [Value.bool (s.a || ((band .u8 n 2) != 0)), Value.bool s.b, Value.bool (s.c || ((band .u8 n 1) != 0)), Value.bool s.d, Value.bool (s.e || ((band .u8 n 4) != 0))]) (by kernel_rfl) Try.isAgg40 Try.sizeOf40 rfl rfl rfl) hS_ ⟨by clear hK1 hK2 hK3 hK11 hK12 hK16 hK17 hK22; refine congrArg Ending.returned ?_; rw [next, h9, h18] <;> rfl, hS_.below⟩
    · refine W.region ?_
      refine Wl.ys (v := Value.pointer (some ⟨p3, 1, none⟩)) rfl rfl (Ys.pure (fun _ => by kernel_rfl)) ?_
      refine Wl.ys (v := Value.bool s.b) rfl rfl (Ys.load (b := p3) (o' := 1) (i := 1) (cs := [Value.bool s.a, Value.bool s.b, Value.bool s.c, Value.bool s.d, Value.bool (s.e || ((band .u8 n 4) != 0))]) (v := Value.bool s.b) rfl (by kernel_rfl) Try.isAgg4 rfl rfl) ?_
      refine Wl.ys (v := Value.bool s.b) rfl rfl (Ys.pure (fun _ => by kernel_rfl)) ?_
      refine Wl.guard (v := Value.bool ((band .u8 n 2) != 0)) (!s.b) (wantF rfl (by kernel_rfl)) rfl (fun hg23 => ?_) ?_
      · exact Ys.pure (fun _ => by kernel_rfl)
      refine Wl.ys (v := Value.bool (s.b || ((band .u8 n 2) != 0))) rfl rfl (Ys.or' (e := s.b) (b := (band .u8 n 2) != 0) rfl (by kernel_rfl) (by kernel_rfl) (by kernel_rfl)) ?_
      refine Wl.ys (v := Value.pointer (some ⟨p3, 3, none⟩)) rfl rfl (Ys.pure (fun _ => by kernel_rfl)) ?_
      refine Wl.ys (v := Value.bool s.d) rfl rfl (Ys.load (b := p3) (o' := 3) (i := 1) (cs := [Value.bool s.a, Value.bool s.b, Value.bool s.c, Value.bool s.d, Value.bool (s.e || ((band .u8 n 4) != 0))]) (v := Value.bool s.d) rfl (by kernel_rfl) Try.isAgg4 rfl rfl) ?_
      refine Wl.ys (v := Value.bool s.d) rfl rfl (Ys.pure (fun _ => by kernel_rfl)) ?_
      refine Wl.guard (v := Value.bool ((band .u8 n 1) != 0)) (!s.d) (wantF rfl (by kernel_rfl)) rfl (fun hg24 => ?_) ?_
      · exact Ys.pure (fun _ => by kernel_rfl)
      refine Wl.ys (v := Value.bool (s.d || ((band .u8 n 1) != 0))) rfl rfl (Ys.or' (e := s.d) (b := (band .u8 n 1) != 0) rfl (by kernel_rfl) (by kernel_rfl) (by kernel_rfl)) ?_
      refine Wl.ys (v := Value.pointer (some ⟨p3, 1, none⟩)) rfl rfl (Ys.pure (fun _ => by kernel_rfl)) ?_
      refine Wl.store (b := p3) (o' := 1) (i := 1) (cs := [Value.bool s.a, Value.bool s.b, Value.bool s.c, Value.bool s.d, Value.bool (s.e || ((band .u8 n 4) != 0))]) (v := Value.bool (s.b || ((band .u8 n 2) != 0))) (L' := [⟨p6, [Value.bool false, Value.bool false, Value.bool false, Value.bool false, Value.bool false], 40⟩, ⟨p3, [Value.bool s.a, Value.bool (s.b || ((band .u8 n 2) != 0)), Value.bool s.c, Value.bool s.d, Value.bool (s.e || ((band .u8 n 4) != 0))], 40⟩]) rfl rfl rfl (by kernel_rfl) (by kernel_rfl) Try.sizeOf4 rfl rfl (by simp) rfl ?_
      refine Wl.ys (v := Value.pointer (some ⟨p3, 3, none⟩)) rfl rfl (Ys.pure (fun _ => by kernel_rfl)) ?_
      refine Wl.store (b := p3) (o' := 3) (i := 1) (cs := [Value.bool s.a, Value.bool (s.b || ((band .u8 n 2) != 0)), Value.bool s.c, Value.bool s.d, Value.bool (s.e || ((band .u8 n 4) != 0))]) (v := Value.bool (s.d || ((band .u8 n 1) != 0))) (L' := [⟨p6, [Value.bool false, Value.bool false, Value.bool false, Value.bool false, Value.bool false], 40⟩, ⟨p3, [Value.bool s.a, Value.bool (s.b || ((band .u8 n 2) != 0)), Value.bool s.c, Value.bool (s.d || ((band .u8 n 1) != 0)), Value.bool (s.e || ((band .u8 n 4) != 0))], 40⟩]) rfl rfl rfl (by kernel_rfl) (by kernel_rfl) Try.sizeOf4 rfl rfl (by simp) rfl ?_
      refine Wl.nil ?_
      refine hK16 _ _ ?_
      refine W.seq (fun K25 hK25 => ?_)
      refine W.region ?_
      refine Wl.ys (v := Value.agg ([Value.bool s.a, Value.bool (s.b || ((band .u8 n 2) != 0)), Value.bool s.c, Value.bool (s.d || ((band .u8 n 1) != 0)), Value.bool (s.e || ((band .u8 n 4) != 0))]).toArray) rfl rfl (Ys.loadN (b := p3) (o' := 0) (i := 1) (cs := [Value.bool s.a, Value.bool (s.b || ((band .u8 n 2) != 0)), Value.bool s.c, Value.bool (s.d || ((band .u8 n 1) != 0)), Value.bool (s.e || ((band .u8 n 4) != 0))]) (vs := [Value.bool s.a, Value.bool (s.b || ((band .u8 n 2) != 0)), Value.bool s.c, Value.bool (s.d || ((band .u8 n 1) != 0)), Value.bool (s.e || ((band .u8 n 4) != 0))]) rfl (by kernel_rfl) Try.isAgg40 Try.sizeOf40 rfl rfl rfl) ?_
      refine Wl.storeN (b := p6) (o' := 0) (i := 0) (cs := [Value.bool false, Value.bool false, Value.bool false, Value.bool false, Value.bool false]) (vs := [Value.bool s.a, Value.bool (s.b || ((band .u8 n 2) != 0)), Value.bool s.c, Value.bool (s.d || ((band .u8 n 1) != 0)), Value.bool (s.e || ((band .u8 n 4) != 0))]) (cs' := [Value.bool s.a, Value.bool (s.b || ((band .u8 n 2) != 0)), Value.bool s.c, Value.bool (s.d || ((band .u8 n 1) != 0)), Value.bool (s.e || ((band .u8 n 4) != 0))]) (L' := [⟨p6, [Value.bool s.a, Value.bool (s.b || ((band .u8 n 2) != 0)), Value.bool s.c, Value.bool (s.d || ((band .u8 n 1) != 0)), Value.bool (s.e || ((band .u8 n 4) != 0))], 40⟩, ⟨p3, [Value.bool s.a, Value.bool (s.b || ((band .u8 n 2) != 0)), Value.bool s.c, Value.bool (s.d || ((band .u8 n 1) != 0)), Value.bool (s.e || ((band .u8 n 4) != 0))], 40⟩]) rfl rfl rfl (by kernel_rfl) (by kernel_rfl) Try.sizeOf40 (by simp [Value.oneCell']) rfl (by simp) rfl rfl ?_
      refine Wl.nil ?_
      refine hK25 _ _ ?_
      refine W.ret ?_
      show ∀ w_, _ → bodyPost Try.prog Try.f23 _ Exit.ret _ w_
      exact fun w_ hS_ => ret1 rfl (RV.cellN (b := p6) (o' := 0) (i := 0) (cs := [Value.bool s.a, Value.bool (s.b || ((band .u8 n 2) != 0)), Value.bool s.c, Value.bool (s.d || ((band .u8 n 1) != 0)), Value.bool (s.e || ((band .u8 n 4) != 0))]) (vs := [Value.bool s.a, Value.bool (s.b || ((band .u8 n 2) != 0)), Value.bool s.c, Value.bool (s.d || ((band .u8 n 1) != 0)), Value.bool (s.e || ((band .u8 n 4) != 0))]) (by kernel_rfl) Try.isAgg40 Try.sizeOf40 rfl rfl rfl) hS_ ⟨by clear hK1 hK2 hK3 hK11 hK12 hK16 hK17 hK25; refine congrArg Ending.returned ?_; rw [next, h9, h19] <;> rfl, hS_.below⟩

theorem limit_c (n : Int) (s : St) (w : World) : Calls Try.prog 25 #[Value.int .u8 n, Value.agg ([Value.bool s.a, Value.bool s.b, Value.bool s.c, Value.bool s.d, Value.bool s.e]).toArray] w (Ret w (.int .u64 (limit n s))) := by
  refine calls_W (M := []) (L := []) (n := 23) Try.func25 rfl rfl (by simp) (Mem.refl _) ?_
  refine W.seq (fun K1 hK1 => ?_)
  refine W.region ?_
  refine Wl.box (v := Value.agg ([Value.bool s.a, Value.bool s.b, Value.bool s.c, Value.bool s.d, Value.bool s.e]).toArray) (cs := [Value.bool s.a, Value.bool s.b, Value.bool s.c, Value.bool s.d, Value.bool s.e]) rfl rfl rfl (by kernel_rfl) rfl (fun p3 => ?_)
  refine Wl.ys (v := Value.int .u64 0) rfl rfl (Ys.pure (fun _ => by kernel_rfl)) ?_
  refine Wl.nil ?_
  refine hK1 _ _ ?_
  refine W.seq (fun K2 hK2 => ?_)
  refine W.seq (fun K3 hK3 => ?_)
  refine W.region ?_
  refine Wl.ys (v := Value.int .u8 n) rfl rfl (Ys.pure (fun _ => by kernel_rfl)) ?_
  refine Wl.nil ?_
  refine hK3 _ _ ?_
  refine W.block ?_
  refine W.seq (fun K4 hK4 => ?_)
  refine W.region ?_
  refine Wl.ys (v := Value.bool (n == 1)) rfl rfl (Ys.pure (fun _ => by kernel_rfl)) ?_
  refine Wl.ys (v := Value.bool (n == 1)) rfl rfl (Ys.pure (fun _ => by kernel_rfl)) ?_
  refine Wl.nil ?_
  refine hK4 _ _ ?_
  refine W.cond (n == 1) (by kernel_rfl) (fun h5 => ?_) (fun h6 => ?_)
  · have qh5 := h5; try simp only [Bool.and_eq_true, Bool.or_eq_true, Bool.not_eq_true', Bool.not_eq_false', Bool.and_eq_false_iff, Bool.or_eq_false_iff, decide_eq_true_eq, decide_eq_false_iff_not, beq_iff_eq, bne_iff_ne, beq_eq_false_iff_ne, bne_eq_false_iff_eq] at qh5
    refine W.seq (fun K7 hK7 => ?_)
    refine W.region ?_
    refine Wl.ys (v := Value.int .u64 60) rfl rfl (Ys.pure (fun _ => by kernel_rfl)) ?_
    refine Wl.nil ?_
    refine hK7 _ _ ?_
    refine W.ret ?_
    show ∀ w_, _ → bodyPost Try.prog Try.f25 _ Exit.ret _ w_
    exact fun w_ hS_ => ret1 rfl (RV.tmp (v := Value.int .u64 60) (by kernel_rfl)) hS_ ⟨by clear hK1 hK2 hK3 hK4 hK7; refine congrArg Ending.returned ?_; rw [limit, h5] <;> rfl, hS_.below⟩
  · have qh6 := h6; try simp only [Bool.and_eq_true, Bool.or_eq_true, Bool.not_eq_true', Bool.not_eq_false', Bool.and_eq_false_iff, Bool.or_eq_false_iff, decide_eq_true_eq, decide_eq_false_iff_not, beq_iff_eq, bne_iff_ne, beq_eq_false_iff_ne, bne_eq_false_iff_eq] at qh6
    refine W.seq (fun K8 hK8 => ?_)
    refine W.region ?_
    refine Wl.ys (v := Value.bool (n == 17)) rfl rfl (Ys.pure (fun _ => by kernel_rfl)) ?_
    refine Wl.ys (v := Value.bool (n == 17)) rfl rfl (Ys.pure (fun _ => by kernel_rfl)) ?_
    refine Wl.nil ?_
    refine hK8 _ _ ?_
    refine W.cond (n == 17) (by kernel_rfl) (fun h9 => ?_) (fun h10 => ?_)
    · have qh9 := h9; try simp only [Bool.and_eq_true, Bool.or_eq_true, Bool.not_eq_true', Bool.not_eq_false', Bool.and_eq_false_iff, Bool.or_eq_false_iff, decide_eq_true_eq, decide_eq_false_iff_not, beq_iff_eq, bne_iff_ne, beq_eq_false_iff_ne, bne_eq_false_iff_eq] at qh9
      refine W.seq (fun K11 hK11 => ?_)
      refine W.region ?_
      refine Wl.ys (v := Value.int .u64 300) rfl rfl (Ys.pure (fun _ => by kernel_rfl)) ?_
      refine Wl.nil ?_
      refine hK11 _ _ ?_
      refine W.ret ?_
      show ∀ w_, _ → bodyPost Try.prog Try.f25 _ Exit.ret _ w_
      exact fun w_ hS_ => ret1 rfl (RV.tmp (v := Value.int .u64 300) (by kernel_rfl)) hS_ ⟨by clear hK1 hK2 hK3 hK4 hK8 hK11; refine congrArg Ending.returned ?_; rw [limit, h6, h9] <;> rfl, hS_.below⟩
    · have qh10 := h10; try simp only [Bool.and_eq_true, Bool.or_eq_true, Bool.not_eq_true', Bool.not_eq_false', Bool.and_eq_false_iff, Bool.or_eq_false_iff, decide_eq_true_eq, decide_eq_false_iff_not, beq_iff_eq, bne_iff_ne, beq_eq_false_iff_ne, bne_eq_false_iff_eq] at qh10
      refine W.seq (fun K12 hK12 => ?_)
      refine W.region ?_
      refine Wl.ys (v := Value.bool (n == 6)) rfl rfl (Ys.pure (fun _ => by kernel_rfl)) ?_
      refine Wl.ys (v := Value.bool (n == 6)) rfl rfl (Ys.pure (fun _ => by kernel_rfl)) ?_
      refine Wl.nil ?_
      refine hK12 _ _ ?_
      refine W.cond (n == 6) (by kernel_rfl) (fun h13 => ?_) (fun h14 => ?_)
      · have qh13 := h13; try simp only [Bool.and_eq_true, Bool.or_eq_true, Bool.not_eq_true', Bool.not_eq_false', Bool.and_eq_false_iff, Bool.or_eq_false_iff, decide_eq_true_eq, decide_eq_false_iff_not, beq_iff_eq, bne_iff_ne, beq_eq_false_iff_ne, bne_eq_false_iff_eq] at qh13
        refine W.seq (fun K15 hK15 => ?_)
        refine W.seq (fun K16 hK16 => ?_)
        refine W.region ?_
        refine Wl.ys (v := Value.pointer (some ⟨p3, 0, none⟩)) rfl rfl (Ys.pure (fun _ => by kernel_rfl)) ?_
        refine Wl.ys (v := Value.bool s.a) rfl rfl (Ys.load (b := p3) (o' := 0) (i := 0) (cs := [Value.bool s.a, Value.bool s.b, Value.bool s.c, Value.bool s.d, Value.bool s.e]) (v := Value.bool s.a) rfl (by kernel_rfl) Try.isAgg4 rfl rfl) ?_
        refine Wl.ys (v := Value.bool s.a) rfl rfl (Ys.pure (fun _ => by kernel_rfl)) ?_
        refine Wl.guard (v := Value.pointer (some ⟨p3, 1, none⟩)) (s.a) (wantT rfl (by kernel_rfl)) rfl (fun hg17 => ?_) ?_
        · exact Ys.pure (fun _ => by kernel_rfl)
        refine Wl.guard (v := Value.bool s.b) (s.a) (wantT rfl (by kernel_rfl)) rfl (fun hg18 => ?_) ?_
        · refine Ys.at (t := 15) (v0 := Value.pointer (some ⟨p3, 1, none⟩)) (lz (g := s.a) (u := undef) hg18 (by kernel_rfl)) ?_
          exact Ys.load (b := p3) (o' := 1) (i := 0) (cs := [Value.bool s.a, Value.bool s.b, Value.bool s.c, Value.bool s.d, Value.bool s.e]) (v := Value.bool s.b) rfl (by kernel_rfl) Try.isAgg4 rfl rfl
        refine Wl.ys (v := Value.bool (s.a && s.b)) rfl rfl (Ys.and (e := s.a) (b := s.b) rfl (by kernel_rfl) (by kernel_rfl) (by kernel_rfl)) ?_
        refine Wl.ys (v := Value.bool (s.a && s.b)) rfl rfl (Ys.pure (fun _ => by kernel_rfl)) ?_
        refine Wl.guard (v := Value.agg ([Value.bool s.a, Value.bool s.b, Value.bool s.c, Value.bool s.d, Value.bool s.e]).toArray) (s.a && s.b) (wantT rfl (by kernel_rfl)) rfl (fun hg19 => ?_) ?_
        · exact Ys.loadN (b := p3) (o' := 0) (i := 0) (cs := [Value.bool s.a, Value.bool s.b, Value.bool s.c, Value.bool s.d, Value.bool s.e]) (vs := [Value.bool s.a, Value.bool s.b, Value.bool s.c, Value.bool s.d, Value.bool s.e]) rfl (by kernel_rfl) Try.isAgg40 Try.sizeOf40 rfl rfl rfl
        refine Wl.guard (v := Value.bool (over s)) (s.a && s.b) (wantT rfl (by kernel_rfl)) rfl (fun hg20 => ?_) ?_
        · refine Ys.at (t := 19) (v0 := Value.agg ([Value.bool s.a, Value.bool s.b, Value.bool s.c, Value.bool s.d, Value.bool s.e]).toArray) (lz (g := s.a && s.b) (u := undef) hg20 (by kernel_rfl)) ?_
          exact Ys.call (k := 35) (args := #[Value.agg ([Value.bool s.a, Value.bool s.b, Value.bool s.c, Value.bool s.d, Value.bool s.e]).toArray]) (fun _ => by kernel_rfl) (fun _ hSc => over_c s _)
        refine Wl.guard (v := Value.bool (!(over s))) (s.a && s.b) (wantT rfl (by kernel_rfl)) rfl (fun hg21 => ?_) ?_
        · refine Ys.at (t := 20) (v0 := Value.bool (over s)) (lz (g := s.a && s.b) (u := undef) hg21 (by kernel_rfl)) ?_
          exact Ys.pure (fun _ => by kernel_rfl)
        refine Wl.ys (v := Value.bool ((s.a && s.b) && (!(over s)))) rfl rfl (Ys.and (e := s.a && s.b) (b := !(over s)) rfl (by kernel_rfl) (by kernel_rfl) (by kernel_rfl)) ?_
        refine Wl.nil ?_
        refine hK16 _ _ ?_
        refine W.cond ((s.a && s.b) && (!(over s))) (by kernel_rfl) (fun h22 => ?_) (fun h23 => ?_)
        · refine W.seq (fun K24 hK24 => ?_)
          refine W.region ?_
          refine Wl.ys (v := Value.int .u64 7440) rfl rfl (Ys.pure (fun _ => by kernel_rfl)) ?_
          refine Wl.nil ?_
          refine hK24 _ _ ?_
          refine W.ret ?_
          show ∀ w_, _ → bodyPost Try.prog Try.f25 _ Exit.ret _ w_
          exact fun w_ hS_ => ret1 rfl (RV.tmp (v := Value.int .u64 7440) (by kernel_rfl)) hS_ ⟨by clear hK1 hK2 hK3 hK4 hK8 hK12 hK15 hK16 hK24; refine congrArg Ending.returned ?_; rw [limit, h6, h10, h13, h22] <;> rfl, hS_.below⟩
        · refine W.skip' ?_
          refine hK15 _ _ ?_
          refine W.seq (fun K25 hK25 => ?_)
          refine W.region ?_
          refine Wl.ys (v := Value.int .u64 240) rfl rfl (Ys.pure (fun _ => by kernel_rfl)) ?_
          refine Wl.nil ?_
          refine hK25 _ _ ?_
          refine W.ret ?_
          show ∀ w_, _ → bodyPost Try.prog Try.f25 _ Exit.ret _ w_
          exact fun w_ hS_ => ret1 rfl (RV.tmp (v := Value.int .u64 240) (by kernel_rfl)) hS_ ⟨by clear hK1 hK2 hK3 hK4 hK8 hK12 hK15 hK16 hK25; refine congrArg Ending.returned ?_; rw [limit, h6, h10, h13, h23] <;> rfl, hS_.below⟩
      · have qh14 := h14; try simp only [Bool.and_eq_true, Bool.or_eq_true, Bool.not_eq_true', Bool.not_eq_false', Bool.and_eq_false_iff, Bool.or_eq_false_iff, decide_eq_true_eq, decide_eq_false_iff_not, beq_iff_eq, bne_iff_ne, beq_eq_false_iff_ne, bne_eq_false_iff_eq] at qh14
        refine W.skip' ?_
        refine hK2 _ _ ?_
        refine W.seq (fun K26 hK26 => ?_)
        refine W.region ?_
        refine Wl.ys (v := Value.int .u64 0) rfl rfl (Ys.pure (fun _ => by kernel_rfl)) ?_
        refine Wl.nil ?_
        refine hK26 _ _ ?_
        refine W.ret ?_
        show ∀ w_, _ → bodyPost Try.prog Try.f25 _ Exit.ret _ w_
        exact fun w_ hS_ => ret1 rfl (RV.tmp (v := Value.int .u64 0) (by kernel_rfl)) hS_ ⟨by clear hK1 hK2 hK3 hK4 hK8 hK12 hK26; refine congrArg Ending.returned ?_; rw [limit, h6, h10, h14] <;> rfl, hS_.below⟩

theorem bit0_c (n : Int) (w : World) : Calls Try.prog 34 #[Value.int .u8 n, Value.int .i64 0] w (Ret w (.bool (bitn n 0))) := by
  refine calls_W (M := []) (L := []) (n := 11) Try.func34 rfl rfl (by simp) (Mem.refl _) ?_
  refine W.seq (fun K1 hK1 => ?_)
  refine W.region ?_
  refine Wl.ys (v := Value.bool false) rfl rfl (Ys.pure (fun _ => by kernel_rfl)) ?_
  refine Wl.nil ?_
  refine hK1 _ _ ?_
  refine W.seq (fun K2 hK2 => ?_)
  refine W.region ?_
  refine Wl.ys (v := Value.int .u8 n) rfl rfl (Ys.pure (fun _ => by kernel_rfl)) ?_
  refine Wl.ys (v := Value.int .i64 0) rfl rfl (Ys.pure (fun _ => by kernel_rfl)) ?_
  refine Wl.ys (v := Value.int .u64 0) rfl rfl (Ys.pure (fun _ => by kernel_rfl)) ?_
  refine Wl.ys (v := Value.int .u8 (ishr .u8 n 0)) rfl rfl (Ys.pure (fun _ => by kernel_rfl)) ?_
  refine Wl.ys (v := Value.int .u8 (irem (ishr .u8 n 0) 2)) rfl rfl (Ys.pure (fun _ => by kernel_rfl)) ?_
  refine Wl.ys (v := Value.bool ((irem (ishr .u8 n 0) 2) == 1)) rfl rfl (Ys.pure (fun _ => by kernel_rfl)) ?_
  refine Wl.ys (v := Value.bool ((irem (ishr .u8 n 0) 2) == 1)) rfl rfl (Ys.pure (fun _ => by kernel_rfl)) ?_
  refine Wl.nil ?_
  refine hK2 _ _ ?_
  refine W.ret ?_
  show ∀ w_, _ → bodyPost Try.prog Try.f34 _ Exit.ret _ w_
  exact fun w_ hS_ => ret1 rfl (RV.tmp (v := Value.bool ((irem (ishr .u8 n 0) 2) == 1)) (by kernel_rfl)) hS_ ⟨rfl, hS_.below⟩

theorem bit1_c (n : Int) (w : World) : Calls Try.prog 34 #[Value.int .u8 n, Value.int .i64 1] w (Ret w (.bool (bitn n 1))) := by
  refine calls_W (M := []) (L := []) (n := 11) Try.func34 rfl rfl (by simp) (Mem.refl _) ?_
  refine W.seq (fun K1 hK1 => ?_)
  refine W.region ?_
  refine Wl.ys (v := Value.bool false) rfl rfl (Ys.pure (fun _ => by kernel_rfl)) ?_
  refine Wl.nil ?_
  refine hK1 _ _ ?_
  refine W.seq (fun K2 hK2 => ?_)
  refine W.region ?_
  refine Wl.ys (v := Value.int .u8 n) rfl rfl (Ys.pure (fun _ => by kernel_rfl)) ?_
  refine Wl.ys (v := Value.int .i64 1) rfl rfl (Ys.pure (fun _ => by kernel_rfl)) ?_
  refine Wl.ys (v := Value.int .u64 1) rfl rfl (Ys.pure (fun _ => by kernel_rfl)) ?_
  refine Wl.ys (v := Value.int .u8 (ishr .u8 n 1)) rfl rfl (Ys.pure (fun _ => by kernel_rfl)) ?_
  refine Wl.ys (v := Value.int .u8 (irem (ishr .u8 n 1) 2)) rfl rfl (Ys.pure (fun _ => by kernel_rfl)) ?_
  refine Wl.ys (v := Value.bool ((irem (ishr .u8 n 1) 2) == 1)) rfl rfl (Ys.pure (fun _ => by kernel_rfl)) ?_
  refine Wl.ys (v := Value.bool ((irem (ishr .u8 n 1) 2) == 1)) rfl rfl (Ys.pure (fun _ => by kernel_rfl)) ?_
  refine Wl.nil ?_
  refine hK2 _ _ ?_
  refine W.ret ?_
  show ∀ w_, _ → bodyPost Try.prog Try.f34 _ Exit.ret _ w_
  exact fun w_ hS_ => ret1 rfl (RV.tmp (v := Value.bool ((irem (ishr .u8 n 1) 2) == 1)) (by kernel_rfl)) hS_ ⟨rfl, hS_.below⟩

theorem bit2_c (n : Int) (w : World) : Calls Try.prog 34 #[Value.int .u8 n, Value.int .i64 2] w (Ret w (.bool (bitn n 2))) := by
  refine calls_W (M := []) (L := []) (n := 11) Try.func34 rfl rfl (by simp) (Mem.refl _) ?_
  refine W.seq (fun K1 hK1 => ?_)
  refine W.region ?_
  refine Wl.ys (v := Value.bool false) rfl rfl (Ys.pure (fun _ => by kernel_rfl)) ?_
  refine Wl.nil ?_
  refine hK1 _ _ ?_
  refine W.seq (fun K2 hK2 => ?_)
  refine W.region ?_
  refine Wl.ys (v := Value.int .u8 n) rfl rfl (Ys.pure (fun _ => by kernel_rfl)) ?_
  refine Wl.ys (v := Value.int .i64 2) rfl rfl (Ys.pure (fun _ => by kernel_rfl)) ?_
  refine Wl.ys (v := Value.int .u64 2) rfl rfl (Ys.pure (fun _ => by kernel_rfl)) ?_
  refine Wl.ys (v := Value.int .u8 (ishr .u8 n 2)) rfl rfl (Ys.pure (fun _ => by kernel_rfl)) ?_
  refine Wl.ys (v := Value.int .u8 (irem (ishr .u8 n 2) 2)) rfl rfl (Ys.pure (fun _ => by kernel_rfl)) ?_
  refine Wl.ys (v := Value.bool ((irem (ishr .u8 n 2) 2) == 1)) rfl rfl (Ys.pure (fun _ => by kernel_rfl)) ?_
  refine Wl.ys (v := Value.bool ((irem (ishr .u8 n 2) 2) == 1)) rfl rfl (Ys.pure (fun _ => by kernel_rfl)) ?_
  refine Wl.nil ?_
  refine hK2 _ _ ?_
  refine W.ret ?_
  show ∀ w_, _ → bodyPost Try.prog Try.f34 _ Exit.ret _ w_
  exact fun w_ hS_ => ret1 rfl (RV.tmp (v := Value.bool ((irem (ishr .u8 n 2) 2) == 1)) (by kernel_rfl)) hS_ ⟨rfl, hS_.below⟩

theorem bit4_c (n : Int) (w : World) : Calls Try.prog 34 #[Value.int .u8 n, Value.int .i64 4] w (Ret w (.bool (bitn n 4))) := by
  refine calls_W (M := []) (L := []) (n := 11) Try.func34 rfl rfl (by simp) (Mem.refl _) ?_
  refine W.seq (fun K1 hK1 => ?_)
  refine W.region ?_
  refine Wl.ys (v := Value.bool false) rfl rfl (Ys.pure (fun _ => by kernel_rfl)) ?_
  refine Wl.nil ?_
  refine hK1 _ _ ?_
  refine W.seq (fun K2 hK2 => ?_)
  refine W.region ?_
  refine Wl.ys (v := Value.int .u8 n) rfl rfl (Ys.pure (fun _ => by kernel_rfl)) ?_
  refine Wl.ys (v := Value.int .i64 4) rfl rfl (Ys.pure (fun _ => by kernel_rfl)) ?_
  refine Wl.ys (v := Value.int .u64 4) rfl rfl (Ys.pure (fun _ => by kernel_rfl)) ?_
  refine Wl.ys (v := Value.int .u8 (ishr .u8 n 4)) rfl rfl (Ys.pure (fun _ => by kernel_rfl)) ?_
  refine Wl.ys (v := Value.int .u8 (irem (ishr .u8 n 4) 2)) rfl rfl (Ys.pure (fun _ => by kernel_rfl)) ?_
  refine Wl.ys (v := Value.bool ((irem (ishr .u8 n 4) 2) == 1)) rfl rfl (Ys.pure (fun _ => by kernel_rfl)) ?_
  refine Wl.ys (v := Value.bool ((irem (ishr .u8 n 4) 2) == 1)) rfl rfl (Ys.pure (fun _ => by kernel_rfl)) ?_
  refine Wl.nil ?_
  refine hK2 _ _ ?_
  refine W.ret ?_
  show ∀ w_, _ → bodyPost Try.prog Try.f34 _ Exit.ret _ w_
  exact fun w_ hS_ => ret1 rfl (RV.tmp (v := Value.bool ((irem (ishr .u8 n 4) 2) == 1)) (by kernel_rfl)) hS_ ⟨rfl, hS_.below⟩

theorem begins2_c (n : Int) (w : World) : Calls Try.prog 22 #[Value.int .u8 n] w (Ret w (.bool (begins2 n))) := by
  refine calls_W (M := []) (L := []) (n := 15) Try.func22 rfl rfl (by simp) (Mem.refl _) ?_
  refine W.seq (fun K1 hK1 => ?_)
  refine W.region ?_
  refine Wl.ys (v := Value.bool false) rfl rfl (Ys.pure (fun _ => by kernel_rfl)) ?_
  refine Wl.nil ?_
  refine hK1 _ _ ?_
  refine W.seq (fun K2 hK2 => ?_)
  refine W.region ?_
  refine Wl.ys (v := Value.int .u8 n) rfl rfl (Ys.pure (fun _ => by kernel_rfl)) ?_
  refine Wl.ys (v := Value.bool (bitn n 1)) rfl rfl (Ys.call (k := 34) (args := #[Value.int .u8 n, Value.int .i64 1]) (fun _ => by kernel_rfl) (fun _ hSc => bit1_c n _)) ?_
  refine Wl.ys (v := Value.bool (bitn n 1)) rfl rfl (Ys.pure (fun _ => by kernel_rfl)) ?_
  refine Wl.guard (v := Value.int .u8 n) (bitn n 1) (wantT rfl (by kernel_rfl)) rfl (fun hg3 => ?_) ?_
  · exact Ys.pure (fun _ => by kernel_rfl)
  refine Wl.guard (v := Value.bool (bitn n 4)) (bitn n 1) (wantT rfl (by kernel_rfl)) rfl (fun hg4 => ?_) ?_
  · refine Ys.at (t := 6) (v0 := Value.int .u8 n) (lz (g := bitn n 1) (u := undef) hg4 (by kernel_rfl)) ?_
    exact Ys.call (k := 34) (args := #[Value.int .u8 n, Value.int .i64 4]) (fun _ => by kernel_rfl) (fun _ hSc => bit4_c n _)
  refine Wl.guard (v := Value.bool (!(bitn n 4))) (bitn n 1) (wantT rfl (by kernel_rfl)) rfl (fun hg5 => ?_) ?_
  · refine Ys.at (t := 7) (v0 := Value.bool (bitn n 4)) (lz (g := bitn n 1) (u := undef) hg5 (by kernel_rfl)) ?_
    exact Ys.pure (fun _ => by kernel_rfl)
  refine Wl.ys (v := Value.bool ((bitn n 1) && (!(bitn n 4)))) rfl rfl (Ys.and (e := bitn n 1) (b := !(bitn n 4)) rfl (by kernel_rfl) (by kernel_rfl) (by kernel_rfl)) ?_
  refine Wl.ys (v := Value.bool ((bitn n 1) && (!(bitn n 4)))) rfl rfl (Ys.pure (fun _ => by kernel_rfl)) ?_
  refine Wl.guard (v := Value.int .u8 n) ((bitn n 1) && (!(bitn n 4))) (wantT rfl (by kernel_rfl)) rfl (fun hg6 => ?_) ?_
  · exact Ys.pure (fun _ => by kernel_rfl)
  refine Wl.guard (v := Value.bool (bitn n 2)) ((bitn n 1) && (!(bitn n 4))) (wantT rfl (by kernel_rfl)) rfl (fun hg7 => ?_) ?_
  · refine Ys.at (t := 11) (v0 := Value.int .u8 n) (lz (g := (bitn n 1) && (!(bitn n 4))) (u := undef) hg7 (by kernel_rfl)) ?_
    exact Ys.call (k := 34) (args := #[Value.int .u8 n, Value.int .i64 2]) (fun _ => by kernel_rfl) (fun _ hSc => bit2_c n _)
  refine Wl.guard (v := Value.bool (!(bitn n 2))) ((bitn n 1) && (!(bitn n 4))) (wantT rfl (by kernel_rfl)) rfl (fun hg8 => ?_) ?_
  · refine Ys.at (t := 12) (v0 := Value.bool (bitn n 2)) (lz (g := (bitn n 1) && (!(bitn n 4))) (u := undef) hg8 (by kernel_rfl)) ?_
    exact Ys.pure (fun _ => by kernel_rfl)
  refine Wl.ys (v := Value.bool (((bitn n 1) && (!(bitn n 4))) && (!(bitn n 2)))) rfl rfl (Ys.and (e := (bitn n 1) && (!(bitn n 4))) (b := !(bitn n 2)) rfl (by kernel_rfl) (by kernel_rfl) (by kernel_rfl)) ?_
  refine Wl.ys (v := Value.bool (((bitn n 1) && (!(bitn n 4))) && (!(bitn n 2)))) rfl rfl (Ys.pure (fun _ => by kernel_rfl)) ?_
  refine Wl.nil ?_
  refine hK2 _ _ ?_
  refine W.ret ?_
  show ∀ w_, _ → bodyPost Try.prog Try.f22 _ Exit.ret _ w_
  exact fun w_ hS_ => ret1 rfl (RV.tmp (v := Value.bool (((bitn n 1) && (!(bitn n 4))) && (!(bitn n 2)))) (by kernel_rfl)) hS_ ⟨rfl, hS_.below⟩

theorem next2_c (s : St) (n : Int) (out : Bool) (w : World) : Calls Try.prog 24 #[Value.agg ([Value.bool s.a, Value.bool s.b, Value.bool s.c, Value.bool s.d, Value.bool s.e]).toArray, Value.int .u8 n, Value.bool out] w (Ret w (.agg ([Value.bool ((next2 s n out).a), Value.bool ((next2 s n out).b), Value.bool ((next2 s n out).c), Value.bool ((next2 s n out).d), Value.bool ((next2 s n out).e)]).toArray)) := by
  refine calls_W (M := []) (L := []) (n := 47) Try.func24 rfl rfl (by simp) (Mem.refl _) ?_
  refine W.seq (fun K1 hK1 => ?_)
  refine W.region ?_
  refine Wl.box (v := Value.agg ([Value.bool s.a, Value.bool s.b, Value.bool s.c, Value.bool s.d, Value.bool s.e]).toArray) (cs := [Value.bool s.a, Value.bool s.b, Value.bool s.c, Value.bool s.d, Value.bool s.e]) rfl rfl rfl (by kernel_rfl) rfl (fun p3 => ?_)
  refine Wl.alloc (z := Value.agg ([Value.bool false, Value.bool false, Value.bool false, Value.bool false, Value.bool false]).toArray) (cs := [Value.bool false, Value.bool false, Value.bool false, Value.bool false, Value.bool false]) rfl rfl rfl Try.zeroValue40 rfl (fun p6 => ?_)
  refine Wl.nil ?_
  refine hK1 _ _ ?_
  refine W.seq (fun K2 hK2 => ?_)
  refine W.seq (fun K3 hK3 => ?_)
  refine W.region ?_
  refine Wl.ys (v := Value.int .u8 n) rfl rfl (Ys.pure (fun _ => by kernel_rfl)) ?_
  refine Wl.ys (v := Value.bool (begins2 n)) rfl rfl (Ys.call (k := 22) (args := #[Value.int .u8 n]) (fun _ => by kernel_rfl) (fun _ hSc => begins2_c n _)) ?_
  refine Wl.ys (v := Value.bool (begins2 n)) rfl rfl (Ys.pure (fun _ => by kernel_rfl)) ?_
  refine Wl.guard (v := Value.bool out) (begins2 n) (wantT rfl (by kernel_rfl)) rfl (fun hg4 => ?_) ?_
  · exact Ys.pure (fun _ => by kernel_rfl)
  refine Wl.ys (v := Value.bool ((begins2 n) && out)) rfl rfl (Ys.and (e := begins2 n) (b := out) rfl (by kernel_rfl) (by kernel_rfl) (by kernel_rfl)) ?_
  refine Wl.ys (v := Value.bool ((begins2 n) && out)) rfl rfl (Ys.pure (fun _ => by kernel_rfl)) ?_
  refine Wl.guard (v := Value.agg ([Value.bool s.a, Value.bool s.b, Value.bool s.c, Value.bool s.d, Value.bool s.e]).toArray) ((begins2 n) && out) (wantT rfl (by kernel_rfl)) rfl (fun hg5 => ?_) ?_
  · exact Ys.loadN (b := p3) (o' := 0) (i := 1) (cs := [Value.bool s.a, Value.bool s.b, Value.bool s.c, Value.bool s.d, Value.bool s.e]) (vs := [Value.bool s.a, Value.bool s.b, Value.bool s.c, Value.bool s.d, Value.bool s.e]) rfl (by kernel_rfl) Try.isAgg40 Try.sizeOf40 rfl rfl rfl
  refine Wl.guard (v := Value.bool (over s)) ((begins2 n) && out) (wantT rfl (by kernel_rfl)) rfl (fun hg6 => ?_) ?_
  · refine Ys.at (t := 13) (v0 := Value.agg ([Value.bool s.a, Value.bool s.b, Value.bool s.c, Value.bool s.d, Value.bool s.e]).toArray) (lz (g := (begins2 n) && out) (u := undef) hg6 (by kernel_rfl)) ?_
    exact Ys.call (k := 36) (args := #[Value.agg ([Value.bool s.a, Value.bool s.b, Value.bool s.c, Value.bool s.d, Value.bool s.e]).toArray]) (fun _ => by kernel_rfl) (fun _ hSc => over2_c s _)
  refine Wl.ys (v := Value.bool (((begins2 n) && out) && (over s))) rfl rfl (Ys.and (e := (begins2 n) && out) (b := over s) rfl (by kernel_rfl) (by kernel_rfl) (by kernel_rfl)) ?_
  refine Wl.nil ?_
  refine hK3 _ _ ?_
  refine W.cond (((begins2 n) && out) && (over s)) (by kernel_rfl) (fun h7 => ?_) (fun h8 => ?_)
  · refine W.seq (fun K9 hK9 => ?_)
    refine W.region ?_
    refine Wl.ys (v := Value.agg ([Value.bool true, Value.bool false, Value.bool false, Value.bool false, Value.bool false]).toArray) rfl rfl (Ys.pure (fun _ => by kernel_rfl)) ?_
    refine Wl.storeN (b := p6) (o' := 0) (i := 0) (cs := [Value.bool false, Value.bool false, Value.bool false, Value.bool false, Value.bool false]) (vs := [Value.bool true, Value.bool false, Value.bool false, Value.bool false, Value.bool false]) (cs' := [Value.bool true, Value.bool false, Value.bool false, Value.bool false, Value.bool false]) (L' := [⟨p6, [Value.bool true, Value.bool false, Value.bool false, Value.bool false, Value.bool false], 40⟩, ⟨p3, [Value.bool s.a, Value.bool s.b, Value.bool s.c, Value.bool s.d, Value.bool s.e], 40⟩]) rfl rfl rfl (by kernel_rfl) (by kernel_rfl) Try.sizeOf40 (by simp [Value.oneCell']) rfl (by simp) rfl rfl ?_
    refine Wl.nil ?_
    refine hK9 _ _ ?_
    refine W.ret ?_
    show ∀ w_, _ → bodyPost Try.prog Try.f24 _ Exit.ret _ w_
    exact fun w_ hS_ => ret1 rfl (RV.cellN (b := p6) (o' := 0) (i := 0) (cs := [Value.bool true, Value.bool false, Value.bool false, Value.bool false, Value.bool false]) (vs := [Value.bool true, Value.bool false, Value.bool false, Value.bool false, Value.bool false]) (by kernel_rfl) Try.isAgg40 Try.sizeOf40 rfl rfl rfl) hS_ ⟨by clear hK1 hK2 hK3 hK9; refine congrArg Ending.returned ?_; rw [next2, h7] <;> rfl, hS_.below⟩
  · refine W.skip' ?_
    refine hK2 _ _ ?_
    refine W.seq (fun K10 hK10 => ?_)
    refine W.meet (γ := Unit) K10 (fun _ => [(0, Value.agg ([Value.bool s.a, Value.bool s.b, Value.bool s.c, Value.bool s.d, Value.bool s.e]).toArray), (1, Value.int .u8 n), (2, Value.bool out), (3, Value.pointer (some ⟨p3, 0, none⟩)), (6, Value.pointer (some ⟨p6, 0, none⟩)), (7, Value.int .u8 n), (8, Value.bool (begins2 n)), (9, Value.bool (begins2 n)), (11, Value.bool ((begins2 n) && out)), (12, Value.bool ((begins2 n) && out)), (15, Value.bool (((begins2 n) && out) && (over s))), (17, Value.int .u8 n), (18, Value.bool (bitn n 1)), (19, Value.bool (bitn n 1)), (21, Value.bool ((bitn n 1) && out))]) (fun _ w_ => Mem w [] [⟨p6, [Value.bool false, Value.bool false, Value.bool false, Value.bool false, Value.bool false], 40⟩, ⟨p3, [Value.bool (bif (bitn n 1) && out then true else s.a), Value.bool s.b, Value.bool s.c, Value.bool s.d, Value.bool s.e], 40⟩] w_ ∧ True) (fun J11 hJ11 => ?_) (fun _ f12 => ?_)
    · refine W.seq (fun K13 hK13 => ?_)
      refine W.region ?_
      refine Wl.ys (v := Value.int .u8 n) rfl rfl (Ys.pure (fun _ => by kernel_rfl)) ?_
      refine Wl.ys (v := Value.bool (bitn n 1)) rfl rfl (Ys.call (k := 34) (args := #[Value.int .u8 n, Value.int .i64 1]) (fun _ => by kernel_rfl) (fun _ hSc => bit1_c n _)) ?_
      refine Wl.ys (v := Value.bool (bitn n 1)) rfl rfl (Ys.pure (fun _ => by kernel_rfl)) ?_
      refine Wl.guard (v := Value.bool out) (bitn n 1) (wantT rfl (by kernel_rfl)) rfl (fun hg14 => ?_) ?_
      · exact Ys.pure (fun _ => by kernel_rfl)
      refine Wl.ys (v := Value.bool ((bitn n 1) && out)) rfl rfl (Ys.and (e := bitn n 1) (b := out) rfl (by kernel_rfl) (by kernel_rfl) (by kernel_rfl)) ?_
      refine Wl.nil ?_
      refine hK13 _ _ ?_
      refine W.cond ((bitn n 1) && out) (by kernel_rfl) (fun h15 => ?_) (fun h16 => ?_)
      · refine W.region ?_
        refine Wl.ys (v := Value.pointer (some ⟨p3, 0, none⟩)) rfl rfl (Ys.pure (fun _ => by kernel_rfl)) ?_
        refine Wl.store (b := p3) (o' := 0) (i := 1) (cs := [Value.bool s.a, Value.bool s.b, Value.bool s.c, Value.bool s.d, Value.bool s.e]) (v := Value.bool true) (L' := [⟨p6, [Value.bool false, Value.bool false, Value.bool false, Value.bool false, Value.bool false], 40⟩, ⟨p3, [Value.bool true, Value.bool s.b, Value.bool s.c, Value.bool s.d, Value.bool s.e], 40⟩]) rfl rfl rfl (by kernel_rfl) (by kernel_rfl) Try.sizeOf4 rfl rfl (by simp) rfl ?_
        refine Wl.nil ?_
        refine fun w_ hS_ => hJ11 () _ _ ?_ ⟨(Mem.cast (L := [⟨p6, [Value.bool false, Value.bool false, Value.bool false, Value.bool false, Value.bool false], 40⟩, ⟨p3, [Value.bool true, Value.bool s.b, Value.bool s.c, Value.bool s.d, Value.bool s.e], 40⟩]) (L' := [⟨p6, [Value.bool false, Value.bool false, Value.bool false, Value.bool false, Value.bool false], 40⟩, ⟨p3, [Value.bool (bif (bitn n 1) && out then true else s.a), Value.bool s.b, Value.bool s.c, Value.bool s.d, Value.bool s.e], 40⟩]) (by rw [h15] <;> rfl) hS_), trivial⟩
        refine ⟨rfl, rfl, rfl, rfl, rfl, rfl, rfl, rfl, rfl, rfl, rfl, rfl, rfl, rfl, rfl, trivial⟩
      · refine W.skip' ?_
        refine fun w_ hS_ => hJ11 () _ _ ?_ ⟨(Mem.cast (L := [⟨p6, [Value.bool false, Value.bool false, Value.bool false, Value.bool false, Value.bool false], 40⟩, ⟨p3, [Value.bool s.a, Value.bool s.b, Value.bool s.c, Value.bool s.d, Value.bool s.e], 40⟩]) (L' := [⟨p6, [Value.bool false, Value.bool false, Value.bool false, Value.bool false, Value.bool false], 40⟩, ⟨p3, [Value.bool (bif (bitn n 1) && out then true else s.a), Value.bool s.b, Value.bool s.c, Value.bool s.d, Value.bool s.e], 40⟩]) (by rw [h16] <;> rfl) hS_), trivial⟩
        refine ⟨rfl, rfl, rfl, rfl, rfl, rfl, rfl, rfl, rfl, rfl, rfl, rfl, rfl, rfl, rfl, trivial⟩
    · refine hK10 (upds [(0, Value.agg ([Value.bool s.a, Value.bool s.b, Value.bool s.c, Value.bool s.d, Value.bool s.e]).toArray), (1, Value.int .u8 n), (2, Value.bool out), (3, Value.pointer (some ⟨p3, 0, none⟩)), (6, Value.pointer (some ⟨p6, 0, none⟩)), (7, Value.int .u8 n), (8, Value.bool (begins2 n)), (9, Value.bool (begins2 n)), (11, Value.bool ((begins2 n) && out)), (12, Value.bool ((begins2 n) && out)), (15, Value.bool (((begins2 n) && out) && (over s))), (17, Value.int .u8 n), (18, Value.bool (bitn n 1)), (19, Value.bool (bitn n 1)), (21, Value.bool ((bitn n 1) && out))] f12) (fun w_ => Mem w [] [⟨p6, [Value.bool false, Value.bool false, Value.bool false, Value.bool false, Value.bool false], 40⟩, ⟨p3, [Value.bool (bif (bitn n 1) && out then true else s.a), Value.bool s.b, Value.bool s.c, Value.bool s.d, Value.bool s.e], 40⟩] w_ ∧ True) ?_
      refine W.and (fun _ => ?_)
      refine W.seq (fun K17 hK17 => ?_)
      refine W.meet (γ := Unit) K17 (fun _ => [(0, Value.agg ([Value.bool s.a, Value.bool s.b, Value.bool s.c, Value.bool s.d, Value.bool s.e]).toArray), (1, Value.int .u8 n), (2, Value.bool out), (3, Value.pointer (some ⟨p3, 0, none⟩)), (6, Value.pointer (some ⟨p6, 0, none⟩)), (7, Value.int .u8 n), (8, Value.bool (begins2 n)), (9, Value.bool (begins2 n)), (11, Value.bool ((begins2 n) && out)), (12, Value.bool ((begins2 n) && out)), (15, Value.bool (((begins2 n) && out) && (over s))), (17, Value.int .u8 n), (18, Value.bool (bitn n 1)), (19, Value.bool (bitn n 1)), (21, Value.bool ((bitn n 1) && out)), (23, Value.int .u8 n), (24, Value.bool (bitn n 1)), (25, Value.bool (bitn n 1)), (28, Value.bool ((bitn n 1) && (!out)))]) (fun _ w_ => Mem w [] [⟨p6, [Value.bool false, Value.bool false, Value.bool false, Value.bool false, Value.bool false], 40⟩, ⟨p3, [Value.bool (bif (bitn n 1) && out then true else s.a), Value.bool (bif (bitn n 1) && (!out) then true else s.b), Value.bool s.c, Value.bool s.d, Value.bool s.e], 40⟩] w_ ∧ True) (fun J18 hJ18 => ?_) (fun _ f19 => ?_)
      · refine W.seq (fun K20 hK20 => ?_)
        refine W.region ?_
        refine Wl.ys (v := Value.int .u8 n) rfl rfl (Ys.pure (fun _ => by kernel_rfl)) ?_
        refine Wl.ys (v := Value.bool (bitn n 1)) rfl rfl (Ys.call (k := 34) (args := #[Value.int .u8 n, Value.int .i64 1]) (fun _ => by kernel_rfl) (fun _ hSc => bit1_c n _)) ?_
        refine Wl.ys (v := Value.bool (bitn n 1)) rfl rfl (Ys.pure (fun _ => by kernel_rfl)) ?_
        refine Wl.guard (v := Value.bool out) (bitn n 1) (wantT rfl (by kernel_rfl)) rfl (fun hg21 => ?_) ?_
        · exact Ys.pure (fun _ => by kernel_rfl)
        refine Wl.guard (v := Value.bool (!out)) (bitn n 1) (wantT rfl (by kernel_rfl)) rfl (fun hg22 => ?_) ?_
        · refine Ys.at (t := 26) (v0 := Value.bool out) (lz (g := bitn n 1) (u := undef) hg22 (by kernel_rfl)) ?_
          exact Ys.pure (fun _ => by kernel_rfl)
        refine Wl.ys (v := Value.bool ((bitn n 1) && (!out))) rfl rfl (Ys.and (e := bitn n 1) (b := !out) rfl (by kernel_rfl) (by kernel_rfl) (by kernel_rfl)) ?_
        refine Wl.nil ?_
        refine hK20 _ _ ?_
        refine W.cond ((bitn n 1) && (!out)) (by kernel_rfl) (fun h23 => ?_) (fun h24 => ?_)
        · refine W.region ?_
          refine Wl.ys (v := Value.pointer (some ⟨p3, 1, none⟩)) rfl rfl (Ys.pure (fun _ => by kernel_rfl)) ?_
          refine Wl.store (b := p3) (o' := 1) (i := 1) (cs := [Value.bool (bif (bitn n 1) && out then true else s.a), Value.bool s.b, Value.bool s.c, Value.bool s.d, Value.bool s.e]) (v := Value.bool true) (L' := [⟨p6, [Value.bool false, Value.bool false, Value.bool false, Value.bool false, Value.bool false], 40⟩, ⟨p3, [Value.bool (bif (bitn n 1) && out then true else s.a), Value.bool true, Value.bool s.c, Value.bool s.d, Value.bool s.e], 40⟩]) rfl rfl rfl (by kernel_rfl) (by kernel_rfl) Try.sizeOf4 rfl rfl (by simp) rfl ?_
          refine Wl.nil ?_
          refine fun w_ hS_ => hJ18 () _ _ ?_ ⟨(Mem.cast (L := [⟨p6, [Value.bool false, Value.bool false, Value.bool false, Value.bool false, Value.bool false], 40⟩, ⟨p3, [Value.bool (bif (bitn n 1) && out then true else s.a), Value.bool true, Value.bool s.c, Value.bool s.d, Value.bool s.e], 40⟩]) (L' := [⟨p6, [Value.bool false, Value.bool false, Value.bool false, Value.bool false, Value.bool false], 40⟩, ⟨p3, [Value.bool (bif (bitn n 1) && out then true else s.a), Value.bool (bif (bitn n 1) && (!out) then true else s.b), Value.bool s.c, Value.bool s.d, Value.bool s.e], 40⟩]) (by rw [h23] <;> rfl) hS_), trivial⟩
          refine ⟨rfl, rfl, rfl, rfl, rfl, rfl, rfl, rfl, rfl, rfl, rfl, rfl, rfl, rfl, rfl, rfl, rfl, rfl, rfl, trivial⟩
        · refine W.skip' ?_
          refine fun w_ hS_ => hJ18 () _ _ ?_ ⟨(Mem.cast (L := [⟨p6, [Value.bool false, Value.bool false, Value.bool false, Value.bool false, Value.bool false], 40⟩, ⟨p3, [Value.bool (bif (bitn n 1) && out then true else s.a), Value.bool s.b, Value.bool s.c, Value.bool s.d, Value.bool s.e], 40⟩]) (L' := [⟨p6, [Value.bool false, Value.bool false, Value.bool false, Value.bool false, Value.bool false], 40⟩, ⟨p3, [Value.bool (bif (bitn n 1) && out then true else s.a), Value.bool (bif (bitn n 1) && (!out) then true else s.b), Value.bool s.c, Value.bool s.d, Value.bool s.e], 40⟩]) (by rw [h24] <;> rfl) hS_), trivial⟩
          refine ⟨rfl, rfl, rfl, rfl, rfl, rfl, rfl, rfl, rfl, rfl, rfl, rfl, rfl, rfl, rfl, rfl, rfl, rfl, rfl, trivial⟩
      · refine hK17 (upds [(0, Value.agg ([Value.bool s.a, Value.bool s.b, Value.bool s.c, Value.bool s.d, Value.bool s.e]).toArray), (1, Value.int .u8 n), (2, Value.bool out), (3, Value.pointer (some ⟨p3, 0, none⟩)), (6, Value.pointer (some ⟨p6, 0, none⟩)), (7, Value.int .u8 n), (8, Value.bool (begins2 n)), (9, Value.bool (begins2 n)), (11, Value.bool ((begins2 n) && out)), (12, Value.bool ((begins2 n) && out)), (15, Value.bool (((begins2 n) && out) && (over s))), (17, Value.int .u8 n), (18, Value.bool (bitn n 1)), (19, Value.bool (bitn n 1)), (21, Value.bool ((bitn n 1) && out)), (23, Value.int .u8 n), (24, Value.bool (bitn n 1)), (25, Value.bool (bitn n 1)), (28, Value.bool ((bitn n 1) && (!out)))] f19) (fun w_ => Mem w [] [⟨p6, [Value.bool false, Value.bool false, Value.bool false, Value.bool false, Value.bool false], 40⟩, ⟨p3, [Value.bool (bif (bitn n 1) && out then true else s.a), Value.bool (bif (bitn n 1) && (!out) then true else s.b), Value.bool s.c, Value.bool s.d, Value.bool s.e], 40⟩] w_ ∧ True) ?_
        refine W.and (fun _ => ?_)
        refine W.seq (fun K25 hK25 => ?_)
        refine W.meet (γ := Unit) K25 (fun _ => [(0, Value.agg ([Value.bool s.a, Value.bool s.b, Value.bool s.c, Value.bool s.d, Value.bool s.e]).toArray), (1, Value.int .u8 n), (2, Value.bool out), (3, Value.pointer (some ⟨p3, 0, none⟩)), (6, Value.pointer (some ⟨p6, 0, none⟩)), (7, Value.int .u8 n), (8, Value.bool (begins2 n)), (9, Value.bool (begins2 n)), (11, Value.bool ((begins2 n) && out)), (12, Value.bool ((begins2 n) && out)), (15, Value.bool (((begins2 n) && out) && (over s))), (17, Value.int .u8 n), (18, Value.bool (bitn n 1)), (19, Value.bool (bitn n 1)), (21, Value.bool ((bitn n 1) && out)), (23, Value.int .u8 n), (24, Value.bool (bitn n 1)), (25, Value.bool (bitn n 1)), (28, Value.bool ((bitn n 1) && (!out))), (30, Value.int .u8 n), (31, Value.bool (bitn n 0)), (32, Value.bool (bitn n 0)), (34, Value.bool ((bitn n 0) && out))]) (fun _ w_ => Mem w [] [⟨p6, [Value.bool false, Value.bool false, Value.bool false, Value.bool false, Value.bool false], 40⟩, ⟨p3, [Value.bool (bif (bitn n 1) && out then true else s.a), Value.bool (bif (bitn n 1) && (!out) then true else s.b), Value.bool (bif (bitn n 0) && out then true else s.c), Value.bool s.d, Value.bool s.e], 40⟩] w_ ∧ True) (fun J26 hJ26 => ?_) (fun _ f27 => ?_)
        · refine W.seq (fun K28 hK28 => ?_)
          refine W.region ?_
          refine Wl.ys (v := Value.int .u8 n) rfl rfl (Ys.pure (fun _ => by kernel_rfl)) ?_
          refine Wl.ys (v := Value.bool (bitn n 0)) rfl rfl (Ys.call (k := 34) (args := #[Value.int .u8 n, Value.int .i64 0]) (fun _ => by kernel_rfl) (fun _ hSc => bit0_c n _)) ?_
          refine Wl.ys (v := Value.bool (bitn n 0)) rfl rfl (Ys.pure (fun _ => by kernel_rfl)) ?_
          refine Wl.guard (v := Value.bool out) (bitn n 0) (wantT rfl (by kernel_rfl)) rfl (fun hg29 => ?_) ?_
          · exact Ys.pure (fun _ => by kernel_rfl)
          refine Wl.ys (v := Value.bool ((bitn n 0) && out)) rfl rfl (Ys.and (e := bitn n 0) (b := out) rfl (by kernel_rfl) (by kernel_rfl) (by kernel_rfl)) ?_
          refine Wl.nil ?_
          refine hK28 _ _ ?_
          refine W.cond ((bitn n 0) && out) (by kernel_rfl) (fun h30 => ?_) (fun h31 => ?_)
          · refine W.region ?_
            refine Wl.ys (v := Value.pointer (some ⟨p3, 2, none⟩)) rfl rfl (Ys.pure (fun _ => by kernel_rfl)) ?_
            refine Wl.store (b := p3) (o' := 2) (i := 1) (cs := [Value.bool (bif (bitn n 1) && out then true else s.a), Value.bool (bif (bitn n 1) && (!out) then true else s.b), Value.bool s.c, Value.bool s.d, Value.bool s.e]) (v := Value.bool true) (L' := [⟨p6, [Value.bool false, Value.bool false, Value.bool false, Value.bool false, Value.bool false], 40⟩, ⟨p3, [Value.bool (bif (bitn n 1) && out then true else s.a), Value.bool (bif (bitn n 1) && (!out) then true else s.b), Value.bool true, Value.bool s.d, Value.bool s.e], 40⟩]) rfl rfl rfl (by kernel_rfl) (by kernel_rfl) Try.sizeOf4 rfl rfl (by simp) rfl ?_
            refine Wl.nil ?_
            refine fun w_ hS_ => hJ26 () _ _ ?_ ⟨(Mem.cast (L := [⟨p6, [Value.bool false, Value.bool false, Value.bool false, Value.bool false, Value.bool false], 40⟩, ⟨p3, [Value.bool (bif (bitn n 1) && out then true else s.a), Value.bool (bif (bitn n 1) && (!out) then true else s.b), Value.bool true, Value.bool s.d, Value.bool s.e], 40⟩]) (L' := [⟨p6, [Value.bool false, Value.bool false, Value.bool false, Value.bool false, Value.bool false], 40⟩, ⟨p3, [Value.bool (bif (bitn n 1) && out then true else s.a), Value.bool (bif (bitn n 1) && (!out) then true else s.b), Value.bool (bif (bitn n 0) && out then true else s.c), Value.bool s.d, Value.bool s.e], 40⟩]) (by rw [h30] <;> rfl) hS_), trivial⟩
            refine ⟨rfl, rfl, rfl, rfl, rfl, rfl, rfl, rfl, rfl, rfl, rfl, rfl, rfl, rfl, rfl, rfl, rfl, rfl, rfl, rfl, rfl, rfl, rfl, trivial⟩
          · refine W.skip' ?_
            refine fun w_ hS_ => hJ26 () _ _ ?_ ⟨(Mem.cast (L := [⟨p6, [Value.bool false, Value.bool false, Value.bool false, Value.bool false, Value.bool false], 40⟩, ⟨p3, [Value.bool (bif (bitn n 1) && out then true else s.a), Value.bool (bif (bitn n 1) && (!out) then true else s.b), Value.bool s.c, Value.bool s.d, Value.bool s.e], 40⟩]) (L' := [⟨p6, [Value.bool false, Value.bool false, Value.bool false, Value.bool false, Value.bool false], 40⟩, ⟨p3, [Value.bool (bif (bitn n 1) && out then true else s.a), Value.bool (bif (bitn n 1) && (!out) then true else s.b), Value.bool (bif (bitn n 0) && out then true else s.c), Value.bool s.d, Value.bool s.e], 40⟩]) (by rw [h31] <;> rfl) hS_), trivial⟩
            refine ⟨rfl, rfl, rfl, rfl, rfl, rfl, rfl, rfl, rfl, rfl, rfl, rfl, rfl, rfl, rfl, rfl, rfl, rfl, rfl, rfl, rfl, rfl, rfl, trivial⟩
        · refine hK25 (upds [(0, Value.agg ([Value.bool s.a, Value.bool s.b, Value.bool s.c, Value.bool s.d, Value.bool s.e]).toArray), (1, Value.int .u8 n), (2, Value.bool out), (3, Value.pointer (some ⟨p3, 0, none⟩)), (6, Value.pointer (some ⟨p6, 0, none⟩)), (7, Value.int .u8 n), (8, Value.bool (begins2 n)), (9, Value.bool (begins2 n)), (11, Value.bool ((begins2 n) && out)), (12, Value.bool ((begins2 n) && out)), (15, Value.bool (((begins2 n) && out) && (over s))), (17, Value.int .u8 n), (18, Value.bool (bitn n 1)), (19, Value.bool (bitn n 1)), (21, Value.bool ((bitn n 1) && out)), (23, Value.int .u8 n), (24, Value.bool (bitn n 1)), (25, Value.bool (bitn n 1)), (28, Value.bool ((bitn n 1) && (!out))), (30, Value.int .u8 n), (31, Value.bool (bitn n 0)), (32, Value.bool (bitn n 0)), (34, Value.bool ((bitn n 0) && out))] f27) (fun w_ => Mem w [] [⟨p6, [Value.bool false, Value.bool false, Value.bool false, Value.bool false, Value.bool false], 40⟩, ⟨p3, [Value.bool (bif (bitn n 1) && out then true else s.a), Value.bool (bif (bitn n 1) && (!out) then true else s.b), Value.bool (bif (bitn n 0) && out then true else s.c), Value.bool s.d, Value.bool s.e], 40⟩] w_ ∧ True) ?_
          refine W.and (fun _ => ?_)
          refine W.seq (fun K32 hK32 => ?_)
          refine W.meet (γ := Unit) K32 (fun _ => [(0, Value.agg ([Value.bool s.a, Value.bool s.b, Value.bool s.c, Value.bool s.d, Value.bool s.e]).toArray), (1, Value.int .u8 n), (2, Value.bool out), (3, Value.pointer (some ⟨p3, 0, none⟩)), (6, Value.pointer (some ⟨p6, 0, none⟩)), (7, Value.int .u8 n), (8, Value.bool (begins2 n)), (9, Value.bool (begins2 n)), (11, Value.bool ((begins2 n) && out)), (12, Value.bool ((begins2 n) && out)), (15, Value.bool (((begins2 n) && out) && (over s))), (17, Value.int .u8 n), (18, Value.bool (bitn n 1)), (19, Value.bool (bitn n 1)), (21, Value.bool ((bitn n 1) && out)), (23, Value.int .u8 n), (24, Value.bool (bitn n 1)), (25, Value.bool (bitn n 1)), (28, Value.bool ((bitn n 1) && (!out))), (30, Value.int .u8 n), (31, Value.bool (bitn n 0)), (32, Value.bool (bitn n 0)), (34, Value.bool ((bitn n 0) && out)), (36, Value.int .u8 n), (37, Value.bool (bitn n 0)), (38, Value.bool (bitn n 0)), (41, Value.bool ((bitn n 0) && (!out)))]) (fun _ w_ => Mem w [] [⟨p6, [Value.bool false, Value.bool false, Value.bool false, Value.bool false, Value.bool false], 40⟩, ⟨p3, [Value.bool (bif (bitn n 1) && out then true else s.a), Value.bool (bif (bitn n 1) && (!out) then true else s.b), Value.bool (bif (bitn n 0) && out then true else s.c), Value.bool (bif (bitn n 0) && (!out) then true else s.d), Value.bool s.e], 40⟩] w_ ∧ True) (fun J33 hJ33 => ?_) (fun _ f34 => ?_)
          · refine W.seq (fun K35 hK35 => ?_)
            refine W.region ?_
            refine Wl.ys (v := Value.int .u8 n) rfl rfl (Ys.pure (fun _ => by kernel_rfl)) ?_
            refine Wl.ys (v := Value.bool (bitn n 0)) rfl rfl (Ys.call (k := 34) (args := #[Value.int .u8 n, Value.int .i64 0]) (fun _ => by kernel_rfl) (fun _ hSc => bit0_c n _)) ?_
            refine Wl.ys (v := Value.bool (bitn n 0)) rfl rfl (Ys.pure (fun _ => by kernel_rfl)) ?_
            refine Wl.guard (v := Value.bool out) (bitn n 0) (wantT rfl (by kernel_rfl)) rfl (fun hg36 => ?_) ?_
            · exact Ys.pure (fun _ => by kernel_rfl)
            refine Wl.guard (v := Value.bool (!out)) (bitn n 0) (wantT rfl (by kernel_rfl)) rfl (fun hg37 => ?_) ?_
            · refine Ys.at (t := 39) (v0 := Value.bool out) (lz (g := bitn n 0) (u := undef) hg37 (by kernel_rfl)) ?_
              exact Ys.pure (fun _ => by kernel_rfl)
            refine Wl.ys (v := Value.bool ((bitn n 0) && (!out))) rfl rfl (Ys.and (e := bitn n 0) (b := !out) rfl (by kernel_rfl) (by kernel_rfl) (by kernel_rfl)) ?_
            refine Wl.nil ?_
            refine hK35 _ _ ?_
            refine W.cond ((bitn n 0) && (!out)) (by kernel_rfl) (fun h38 => ?_) (fun h39 => ?_)
            · refine W.region ?_
              refine Wl.ys (v := Value.pointer (some ⟨p3, 3, none⟩)) rfl rfl (Ys.pure (fun _ => by kernel_rfl)) ?_
              refine Wl.store (b := p3) (o' := 3) (i := 1) (cs := [Value.bool (bif (bitn n 1) && out then true else s.a), Value.bool (bif (bitn n 1) && (!out) then true else s.b), Value.bool (bif (bitn n 0) && out then true else s.c), Value.bool s.d, Value.bool s.e]) (v := Value.bool true) (L' := [⟨p6, [Value.bool false, Value.bool false, Value.bool false, Value.bool false, Value.bool false], 40⟩, ⟨p3, [Value.bool (bif (bitn n 1) && out then true else s.a), Value.bool (bif (bitn n 1) && (!out) then true else s.b), Value.bool (bif (bitn n 0) && out then true else s.c), Value.bool true, Value.bool s.e], 40⟩]) rfl rfl rfl (by kernel_rfl) (by kernel_rfl) Try.sizeOf4 rfl rfl (by simp) rfl ?_
              refine Wl.nil ?_
              refine fun w_ hS_ => hJ33 () _ _ ?_ ⟨(Mem.cast (L := [⟨p6, [Value.bool false, Value.bool false, Value.bool false, Value.bool false, Value.bool false], 40⟩, ⟨p3, [Value.bool (bif (bitn n 1) && out then true else s.a), Value.bool (bif (bitn n 1) && (!out) then true else s.b), Value.bool (bif (bitn n 0) && out then true else s.c), Value.bool true, Value.bool s.e], 40⟩]) (L' := [⟨p6, [Value.bool false, Value.bool false, Value.bool false, Value.bool false, Value.bool false], 40⟩, ⟨p3, [Value.bool (bif (bitn n 1) && out then true else s.a), Value.bool (bif (bitn n 1) && (!out) then true else s.b), Value.bool (bif (bitn n 0) && out then true else s.c), Value.bool (bif (bitn n 0) && (!out) then true else s.d), Value.bool s.e], 40⟩]) (by rw [h38] <;> rfl) hS_), trivial⟩
              refine ⟨rfl, rfl, rfl, rfl, rfl, rfl, rfl, rfl, rfl, rfl, rfl, rfl, rfl, rfl, rfl, rfl, rfl, rfl, rfl, rfl, rfl, rfl, rfl, rfl, rfl, rfl, rfl, trivial⟩
            · refine W.skip' ?_
              refine fun w_ hS_ => hJ33 () _ _ ?_ ⟨(Mem.cast (L := [⟨p6, [Value.bool false, Value.bool false, Value.bool false, Value.bool false, Value.bool false], 40⟩, ⟨p3, [Value.bool (bif (bitn n 1) && out then true else s.a), Value.bool (bif (bitn n 1) && (!out) then true else s.b), Value.bool (bif (bitn n 0) && out then true else s.c), Value.bool s.d, Value.bool s.e], 40⟩]) (L' := [⟨p6, [Value.bool false, Value.bool false, Value.bool false, Value.bool false, Value.bool false], 40⟩, ⟨p3, [Value.bool (bif (bitn n 1) && out then true else s.a), Value.bool (bif (bitn n 1) && (!out) then true else s.b), Value.bool (bif (bitn n 0) && out then true else s.c), Value.bool (bif (bitn n 0) && (!out) then true else s.d), Value.bool s.e], 40⟩]) (by rw [h39] <;> rfl) hS_), trivial⟩
              refine ⟨rfl, rfl, rfl, rfl, rfl, rfl, rfl, rfl, rfl, rfl, rfl, rfl, rfl, rfl, rfl, rfl, rfl, rfl, rfl, rfl, rfl, rfl, rfl, rfl, rfl, rfl, rfl, trivial⟩
          · refine hK32 (upds [(0, Value.agg ([Value.bool s.a, Value.bool s.b, Value.bool s.c, Value.bool s.d, Value.bool s.e]).toArray), (1, Value.int .u8 n), (2, Value.bool out), (3, Value.pointer (some ⟨p3, 0, none⟩)), (6, Value.pointer (some ⟨p6, 0, none⟩)), (7, Value.int .u8 n), (8, Value.bool (begins2 n)), (9, Value.bool (begins2 n)), (11, Value.bool ((begins2 n) && out)), (12, Value.bool ((begins2 n) && out)), (15, Value.bool (((begins2 n) && out) && (over s))), (17, Value.int .u8 n), (18, Value.bool (bitn n 1)), (19, Value.bool (bitn n 1)), (21, Value.bool ((bitn n 1) && out)), (23, Value.int .u8 n), (24, Value.bool (bitn n 1)), (25, Value.bool (bitn n 1)), (28, Value.bool ((bitn n 1) && (!out))), (30, Value.int .u8 n), (31, Value.bool (bitn n 0)), (32, Value.bool (bitn n 0)), (34, Value.bool ((bitn n 0) && out)), (36, Value.int .u8 n), (37, Value.bool (bitn n 0)), (38, Value.bool (bitn n 0)), (41, Value.bool ((bitn n 0) && (!out)))] f34) (fun w_ => Mem w [] [⟨p6, [Value.bool false, Value.bool false, Value.bool false, Value.bool false, Value.bool false], 40⟩, ⟨p3, [Value.bool (bif (bitn n 1) && out then true else s.a), Value.bool (bif (bitn n 1) && (!out) then true else s.b), Value.bool (bif (bitn n 0) && out then true else s.c), Value.bool (bif (bitn n 0) && (!out) then true else s.d), Value.bool s.e], 40⟩] w_ ∧ True) ?_
            refine W.and (fun _ => ?_)
            refine W.seq (fun K40 hK40 => ?_)
            refine W.seq (fun K41 hK41 => ?_)
            refine W.region ?_
            refine Wl.ys (v := Value.int .u8 n) rfl rfl (Ys.pure (fun _ => by kernel_rfl)) ?_
            refine Wl.ys (v := Value.bool (bitn n 2)) rfl rfl (Ys.call (k := 34) (args := #[Value.int .u8 n, Value.int .i64 2]) (fun _ => by kernel_rfl) (fun _ hSc => bit2_c n _)) ?_
            refine Wl.nil ?_
            refine hK41 _ _ ?_
            refine W.cond (bitn n 2) (by kernel_rfl) (fun h42 => ?_) (fun h43 => ?_)
            · refine W.region ?_
              refine Wl.ys (v := Value.pointer (some ⟨p3, 4, none⟩)) rfl rfl (Ys.pure (fun _ => by kernel_rfl)) ?_
              refine Wl.store (b := p3) (o' := 4) (i := 1) (cs := [Value.bool (bif (bitn n 1) && out then true else s.a), Value.bool (bif (bitn n 1) && (!out) then true else s.b), Value.bool (bif (bitn n 0) && out then true else s.c), Value.bool (bif (bitn n 0) && (!out) then true else s.d), Value.bool s.e]) (v := Value.bool true) (L' := [⟨p6, [Value.bool false, Value.bool false, Value.bool false, Value.bool false, Value.bool false], 40⟩, ⟨p3, [Value.bool (bif (bitn n 1) && out then true else s.a), Value.bool (bif (bitn n 1) && (!out) then true else s.b), Value.bool (bif (bitn n 0) && out then true else s.c), Value.bool (bif (bitn n 0) && (!out) then true else s.d), Value.bool true], 40⟩]) rfl rfl rfl (by kernel_rfl) (by kernel_rfl) Try.sizeOf4 rfl rfl (by simp) rfl ?_
              refine Wl.nil ?_
              refine hK40 _ _ ?_
              refine W.seq (fun K44 hK44 => ?_)
              refine W.region ?_
              refine Wl.ys (v := Value.agg ([Value.bool (bif (bitn n 1) && out then true else s.a), Value.bool (bif (bitn n 1) && (!out) then true else s.b), Value.bool (bif (bitn n 0) && out then true else s.c), Value.bool (bif (bitn n 0) && (!out) then true else s.d), Value.bool true]).toArray) rfl rfl (Ys.loadN (b := p3) (o' := 0) (i := 1) (cs := [Value.bool (bif (bitn n 1) && out then true else s.a), Value.bool (bif (bitn n 1) && (!out) then true else s.b), Value.bool (bif (bitn n 0) && out then true else s.c), Value.bool (bif (bitn n 0) && (!out) then true else s.d), Value.bool true]) (vs := [Value.bool (bif (bitn n 1) && out then true else s.a), Value.bool (bif (bitn n 1) && (!out) then true else s.b), Value.bool (bif (bitn n 0) && out then true else s.c), Value.bool (bif (bitn n 0) && (!out) then true else s.d), Value.bool true]) rfl (by kernel_rfl) Try.isAgg40 Try.sizeOf40 rfl rfl rfl) ?_
              refine Wl.storeN (b := p6) (o' := 0) (i := 0) (cs := [Value.bool false, Value.bool false, Value.bool false, Value.bool false, Value.bool false]) (vs := [Value.bool (bif (bitn n 1) && out then true else s.a), Value.bool (bif (bitn n 1) && (!out) then true else s.b), Value.bool (bif (bitn n 0) && out then true else s.c), Value.bool (bif (bitn n 0) && (!out) then true else s.d), Value.bool true]) (cs' := [Value.bool (bif (bitn n 1) && out then true else s.a), Value.bool (bif (bitn n 1) && (!out) then true else s.b), Value.bool (bif (bitn n 0) && out then true else s.c), Value.bool (bif (bitn n 0) && (!out) then true else s.d), Value.bool true]) (L' := [⟨p6, [Value.bool (bif (bitn n 1) && out then true else s.a), Value.bool (bif (bitn n 1) && (!out) then true else s.b), Value.bool (bif (bitn n 0) && out then true else s.c), Value.bool (bif (bitn n 0) && (!out) then true else s.d), Value.bool true], 40⟩, ⟨p3, [Value.bool (bif (bitn n 1) && out then true else s.a), Value.bool (bif (bitn n 1) && (!out) then true else s.b), Value.bool (bif (bitn n 0) && out then true else s.c), Value.bool (bif (bitn n 0) && (!out) then true else s.d), Value.bool true], 40⟩]) rfl rfl rfl (by kernel_rfl) (by kernel_rfl) Try.sizeOf40 (by simp [Value.oneCell']) rfl (by simp) rfl rfl ?_
              refine Wl.nil ?_
              refine hK44 _ _ ?_
              refine W.ret ?_
              show ∀ w_, _ → bodyPost Try.prog Try.f24 _ Exit.ret _ w_
              exact fun w_ hS_ => ret1 rfl (RV.cellN (b := p6) (o' := 0) (i := 0) (cs := [Value.bool (bif (bitn n 1) && out then true else s.a), Value.bool (bif (bitn n 1) && (!out) then true else s.b), Value.bool (bif (bitn n 0) && out then true else s.c), Value.bool (bif (bitn n 0) && (!out) then true else s.d), Value.bool true]) (vs := [Value.bool (bif (bitn n 1) && out then true else s.a), Value.bool (bif (bitn n 1) && (!out) then true else s.b), Value.bool (bif (bitn n 0) && out then true else s.c), Value.bool (bif (bitn n 0) && (!out) then true else s.d), Value.bool true]) (by kernel_rfl) Try.isAgg40 Try.sizeOf40 rfl rfl rfl) hS_ ⟨by clear hK1 hK2 hK3 hK10 hK17 hK25 hK32 hK40 hK41 hK44; refine congrArg Ending.returned ?_; rw [next2, h8, h42] <;> rfl, hS_.below⟩
            · refine W.skip' ?_
              refine hK40 _ _ ?_
              refine W.seq (fun K45 hK45 => ?_)
              refine W.region ?_
              refine Wl.ys (v := Value.agg ([Value.bool (bif (bitn n 1) && out then true else s.a), Value.bool (bif (bitn n 1) && (!out) then true else s.b), Value.bool (bif (bitn n 0) && out then true else s.c), Value.bool (bif (bitn n 0) && (!out) then true else s.d), Value.bool s.e]).toArray) rfl rfl (Ys.loadN (b := p3) (o' := 0) (i := 1) (cs := [Value.bool (bif (bitn n 1) && out then true else s.a), Value.bool (bif (bitn n 1) && (!out) then true else s.b), Value.bool (bif (bitn n 0) && out then true else s.c), Value.bool (bif (bitn n 0) && (!out) then true else s.d), Value.bool s.e]) (vs := [Value.bool (bif (bitn n 1) && out then true else s.a), Value.bool (bif (bitn n 1) && (!out) then true else s.b), Value.bool (bif (bitn n 0) && out then true else s.c), Value.bool (bif (bitn n 0) && (!out) then true else s.d), Value.bool s.e]) rfl (by kernel_rfl) Try.isAgg40 Try.sizeOf40 rfl rfl rfl) ?_
              refine Wl.storeN (b := p6) (o' := 0) (i := 0) (cs := [Value.bool false, Value.bool false, Value.bool false, Value.bool false, Value.bool false]) (vs := [Value.bool (bif (bitn n 1) && out then true else s.a), Value.bool (bif (bitn n 1) && (!out) then true else s.b), Value.bool (bif (bitn n 0) && out then true else s.c), Value.bool (bif (bitn n 0) && (!out) then true else s.d), Value.bool s.e]) (cs' := [Value.bool (bif (bitn n 1) && out then true else s.a), Value.bool (bif (bitn n 1) && (!out) then true else s.b), Value.bool (bif (bitn n 0) && out then true else s.c), Value.bool (bif (bitn n 0) && (!out) then true else s.d), Value.bool s.e]) (L' := [⟨p6, [Value.bool (bif (bitn n 1) && out then true else s.a), Value.bool (bif (bitn n 1) && (!out) then true else s.b), Value.bool (bif (bitn n 0) && out then true else s.c), Value.bool (bif (bitn n 0) && (!out) then true else s.d), Value.bool s.e], 40⟩, ⟨p3, [Value.bool (bif (bitn n 1) && out then true else s.a), Value.bool (bif (bitn n 1) && (!out) then true else s.b), Value.bool (bif (bitn n 0) && out then true else s.c), Value.bool (bif (bitn n 0) && (!out) then true else s.d), Value.bool s.e], 40⟩]) rfl rfl rfl (by kernel_rfl) (by kernel_rfl) Try.sizeOf40 (by simp [Value.oneCell']) rfl (by simp) rfl rfl ?_
              refine Wl.nil ?_
              refine hK45 _ _ ?_
              refine W.ret ?_
              show ∀ w_, _ → bodyPost Try.prog Try.f24 _ Exit.ret _ w_
              exact fun w_ hS_ => ret1 rfl (RV.cellN (b := p6) (o' := 0) (i := 0) (cs := [Value.bool (bif (bitn n 1) && out then true else s.a), Value.bool (bif (bitn n 1) && (!out) then true else s.b), Value.bool (bif (bitn n 0) && out then true else s.c), Value.bool (bif (bitn n 0) && (!out) then true else s.d), Value.bool s.e]) (vs := [Value.bool (bif (bitn n 1) && out then true else s.a), Value.bool (bif (bitn n 1) && (!out) then true else s.b), Value.bool (bif (bitn n 0) && out then true else s.c), Value.bool (bif (bitn n 0) && (!out) then true else s.d), Value.bool s.e]) (by kernel_rfl) Try.isAgg40 Try.sizeOf40 rfl rfl rfl) hS_ ⟨by clear hK1 hK2 hK3 hK10 hK17 hK25 hK32 hK40 hK41 hK45; refine congrArg Ending.returned ?_; rw [next2, h8, h43] <;> rfl, hS_.below⟩

theorem limit2_c (n : Int) (s : St) (w : World) : Calls Try.prog 26 #[Value.int .u8 n, Value.agg ([Value.bool s.a, Value.bool s.b, Value.bool s.c, Value.bool s.d, Value.bool s.e]).toArray] w (Ret w (.int .u64 (limit2 n s))) := by
  refine calls_W (M := []) (L := []) (n := 23) Try.func26 rfl rfl (by simp) (Mem.refl _) ?_
  refine W.seq (fun K1 hK1 => ?_)
  refine W.region ?_
  refine Wl.box (v := Value.agg ([Value.bool s.a, Value.bool s.b, Value.bool s.c, Value.bool s.d, Value.bool s.e]).toArray) (cs := [Value.bool s.a, Value.bool s.b, Value.bool s.c, Value.bool s.d, Value.bool s.e]) rfl rfl rfl (by kernel_rfl) rfl (fun p3 => ?_)
  refine Wl.ys (v := Value.int .u64 0) rfl rfl (Ys.pure (fun _ => by kernel_rfl)) ?_
  refine Wl.nil ?_
  refine hK1 _ _ ?_
  refine W.seq (fun K2 hK2 => ?_)
  refine W.seq (fun K3 hK3 => ?_)
  refine W.region ?_
  refine Wl.ys (v := Value.int .u8 n) rfl rfl (Ys.pure (fun _ => by kernel_rfl)) ?_
  refine Wl.ys (v := Value.bool (n == 1)) rfl rfl (Ys.pure (fun _ => by kernel_rfl)) ?_
  refine Wl.nil ?_
  refine hK3 _ _ ?_
  refine W.cond (n == 1) (by kernel_rfl) (fun h4 => ?_) (fun h5 => ?_)
  · have qh4 := h4; try simp only [Bool.and_eq_true, Bool.or_eq_true, Bool.not_eq_true', Bool.not_eq_false', Bool.and_eq_false_iff, Bool.or_eq_false_iff, decide_eq_true_eq, decide_eq_false_iff_not, beq_iff_eq, bne_iff_ne, beq_eq_false_iff_ne, bne_eq_false_iff_eq] at qh4
    refine W.seq (fun K6 hK6 => ?_)
    refine W.region ?_
    refine Wl.ys (v := Value.int .u64 60) rfl rfl (Ys.pure (fun _ => by kernel_rfl)) ?_
    refine Wl.nil ?_
    refine hK6 _ _ ?_
    refine W.ret ?_
    show ∀ w_, _ → bodyPost Try.prog Try.f26 _ Exit.ret _ w_
    exact fun w_ hS_ => ret1 rfl (RV.tmp (v := Value.int .u64 60) (by kernel_rfl)) hS_ ⟨by clear hK1 hK2 hK3 hK6; refine congrArg Ending.returned ?_; rw [limit2, h4] <;> rfl, hS_.below⟩
  · have qh5 := h5; try simp only [Bool.and_eq_true, Bool.or_eq_true, Bool.not_eq_true', Bool.not_eq_false', Bool.and_eq_false_iff, Bool.or_eq_false_iff, decide_eq_true_eq, decide_eq_false_iff_not, beq_iff_eq, bne_iff_ne, beq_eq_false_iff_ne, bne_eq_false_iff_eq] at qh5
    refine W.skip' ?_
    refine hK2 _ _ ?_
    refine W.seq (fun K7 hK7 => ?_)
    refine W.seq (fun K8 hK8 => ?_)
    refine W.region ?_
    refine Wl.ys (v := Value.int .u8 n) rfl rfl (Ys.pure (fun _ => by kernel_rfl)) ?_
    refine Wl.ys (v := Value.bool (n == 17)) rfl rfl (Ys.pure (fun _ => by kernel_rfl)) ?_
    refine Wl.nil ?_
    refine hK8 _ _ ?_
    refine W.cond (n == 17) (by kernel_rfl) (fun h9 => ?_) (fun h10 => ?_)
    · have qh9 := h9; try simp only [Bool.and_eq_true, Bool.or_eq_true, Bool.not_eq_true', Bool.not_eq_false', Bool.and_eq_false_iff, Bool.or_eq_false_iff, decide_eq_true_eq, decide_eq_false_iff_not, beq_iff_eq, bne_iff_ne, beq_eq_false_iff_ne, bne_eq_false_iff_eq] at qh9
      refine W.seq (fun K11 hK11 => ?_)
      refine W.region ?_
      refine Wl.ys (v := Value.int .u64 300) rfl rfl (Ys.pure (fun _ => by kernel_rfl)) ?_
      refine Wl.nil ?_
      refine hK11 _ _ ?_
      refine W.ret ?_
      show ∀ w_, _ → bodyPost Try.prog Try.f26 _ Exit.ret _ w_
      exact fun w_ hS_ => ret1 rfl (RV.tmp (v := Value.int .u64 300) (by kernel_rfl)) hS_ ⟨by clear hK1 hK2 hK3 hK7 hK8 hK11; refine congrArg Ending.returned ?_; rw [limit2, h5, h9] <;> rfl, hS_.below⟩
    · have qh10 := h10; try simp only [Bool.and_eq_true, Bool.or_eq_true, Bool.not_eq_true', Bool.not_eq_false', Bool.and_eq_false_iff, Bool.or_eq_false_iff, decide_eq_true_eq, decide_eq_false_iff_not, beq_iff_eq, bne_iff_ne, beq_eq_false_iff_ne, bne_eq_false_iff_eq] at qh10
      refine W.skip' ?_
      refine hK7 _ _ ?_
      refine W.seq (fun K12 hK12 => ?_)
      refine W.seq (fun K13 hK13 => ?_)
      refine W.region ?_
      refine Wl.ys (v := Value.int .u8 n) rfl rfl (Ys.pure (fun _ => by kernel_rfl)) ?_
      refine Wl.ys (v := Value.bool (n != 6)) rfl rfl (Ys.pure (fun _ => by kernel_rfl)) ?_
      refine Wl.nil ?_
      refine hK13 _ _ ?_
      refine W.cond (n != 6) (by kernel_rfl) (fun h14 => ?_) (fun h15 => ?_)
      · have qh14 := h14; try simp only [Bool.and_eq_true, Bool.or_eq_true, Bool.not_eq_true', Bool.not_eq_false', Bool.and_eq_false_iff, Bool.or_eq_false_iff, decide_eq_true_eq, decide_eq_false_iff_not, beq_iff_eq, bne_iff_ne, beq_eq_false_iff_ne, bne_eq_false_iff_eq] at qh14
        refine W.seq (fun K16 hK16 => ?_)
        refine W.region ?_
        refine Wl.ys (v := Value.int .u64 0) rfl rfl (Ys.pure (fun _ => by kernel_rfl)) ?_
        refine Wl.nil ?_
        refine hK16 _ _ ?_
        refine W.ret ?_
        show ∀ w_, _ → bodyPost Try.prog Try.f26 _ Exit.ret _ w_
        exact fun w_ hS_ => ret1 rfl (RV.tmp (v := Value.int .u64 0) (by kernel_rfl)) hS_ ⟨by clear hK1 hK2 hK3 hK7 hK8 hK12 hK13 hK16; refine congrArg Ending.returned ?_; rw [limit2, h5, h10, h14] <;> rfl, hS_.below⟩
      · have qh15 := h15; try simp only [Bool.and_eq_true, Bool.or_eq_true, Bool.not_eq_true', Bool.not_eq_false', Bool.and_eq_false_iff, Bool.or_eq_false_iff, decide_eq_true_eq, decide_eq_false_iff_not, beq_iff_eq, bne_iff_ne, beq_eq_false_iff_ne, bne_eq_false_iff_eq] at qh15
        refine W.skip' ?_
        refine hK12 _ _ ?_
        refine W.seq (fun K17 hK17 => ?_)
        refine W.seq (fun K18 hK18 => ?_)
        refine W.region ?_
        refine Wl.ys (v := Value.agg ([Value.bool s.a, Value.bool s.b, Value.bool s.c, Value.bool s.d, Value.bool s.e]).toArray) rfl rfl (Ys.loadN (b := p3) (o' := 0) (i := 0) (cs := [Value.bool s.a, Value.bool s.b, Value.bool s.c, Value.bool s.d, Value.bool s.e]) (vs := [Value.bool s.a, Value.bool s.b, Value.bool s.c, Value.bool s.d, Value.bool s.e]) rfl (by kernel_rfl) Try.isAgg40 Try.sizeOf40 rfl rfl rfl) ?_
        refine Wl.ys (v := Value.bool (over s)) rfl rfl (Ys.call (k := 36) (args := #[Value.agg ([Value.bool s.a, Value.bool s.b, Value.bool s.c, Value.bool s.d, Value.bool s.e]).toArray]) (fun _ => by kernel_rfl) (fun _ hSc => over2_c s _)) ?_
        refine Wl.ys (v := Value.bool (over s)) rfl rfl (Ys.pure (fun _ => by kernel_rfl)) ?_
        refine Wl.guard (v := Value.pointer (some ⟨p3, 0, none⟩)) (!(over s)) (wantF rfl (by kernel_rfl)) rfl (fun hg19 => ?_) ?_
        · exact Ys.pure (fun _ => by kernel_rfl)
        refine Wl.guard (v := Value.bool s.a) (!(over s)) (wantF rfl (by kernel_rfl)) rfl (fun hg20 => ?_) ?_
        · refine Ys.at (t := 14) (v0 := Value.pointer (some ⟨p3, 0, none⟩)) (lz (g := !(over s)) (u := undef) hg20 (by kernel_rfl)) ?_
          exact Ys.load (b := p3) (o' := 0) (i := 0) (cs := [Value.bool s.a, Value.bool s.b, Value.bool s.c, Value.bool s.d, Value.bool s.e]) (v := Value.bool s.a) rfl (by kernel_rfl) Try.isAgg4 rfl rfl
        refine Wl.guard (v := Value.bool (!s.a)) (!(over s)) (wantF rfl (by kernel_rfl)) rfl (fun hg21 => ?_) ?_
        · refine Ys.at (t := 15) (v0 := Value.bool s.a) (lz (g := !(over s)) (u := undef) hg21 (by kernel_rfl)) ?_
          exact Ys.pure (fun _ => by kernel_rfl)
        refine Wl.ys (v := Value.bool ((over s) || (!s.a))) rfl rfl (Ys.or' (e := over s) (b := !s.a) rfl (by kernel_rfl) (by kernel_rfl) (by kernel_rfl)) ?_
        refine Wl.ys (v := Value.bool ((over s) || (!s.a))) rfl rfl (Ys.pure (fun _ => by kernel_rfl)) ?_
        refine Wl.guard (v := Value.pointer (some ⟨p3, 1, none⟩)) (!((over s) || (!s.a))) (wantF rfl (by kernel_rfl)) rfl (fun hg22 => ?_) ?_
        · exact Ys.pure (fun _ => by kernel_rfl)
        refine Wl.guard (v := Value.bool s.b) (!((over s) || (!s.a))) (wantF rfl (by kernel_rfl)) rfl (fun hg23 => ?_) ?_
        · refine Ys.at (t := 19) (v0 := Value.pointer (some ⟨p3, 1, none⟩)) (lz (g := !((over s) || (!s.a))) (u := undef) hg23 (by kernel_rfl)) ?_
          exact Ys.load (b := p3) (o' := 1) (i := 0) (cs := [Value.bool s.a, Value.bool s.b, Value.bool s.c, Value.bool s.d, Value.bool s.e]) (v := Value.bool s.b) rfl (by kernel_rfl) Try.isAgg4 rfl rfl
        refine Wl.guard (v := Value.bool (!s.b)) (!((over s) || (!s.a))) (wantF rfl (by kernel_rfl)) rfl (fun hg24 => ?_) ?_
        · refine Ys.at (t := 20) (v0 := Value.bool s.b) (lz (g := !((over s) || (!s.a))) (u := undef) hg24 (by kernel_rfl)) ?_
          exact Ys.pure (fun _ => by kernel_rfl)
        refine Wl.ys (v := Value.bool (((over s) || (!s.a)) || (!s.b))) rfl rfl (Ys.or' (e := (over s) || (!s.a)) (b := !s.b) rfl (by kernel_rfl) (by kernel_rfl) (by kernel_rfl)) ?_
        refine Wl.nil ?_
        refine hK18 _ _ ?_
        refine W.cond (((over s) || (!s.a)) || (!s.b)) (by kernel_rfl) (fun h25 => ?_) (fun h26 => ?_)
        · refine W.seq (fun K27 hK27 => ?_)
          refine W.region ?_
          refine Wl.ys (v := Value.int .u64 240) rfl rfl (Ys.pure (fun _ => by kernel_rfl)) ?_
          refine Wl.nil ?_
          refine hK27 _ _ ?_
          refine W.ret ?_
          show ∀ w_, _ → bodyPost Try.prog Try.f26 _ Exit.ret _ w_
          exact fun w_ hS_ => ret1 rfl (RV.tmp (v := Value.int .u64 240) (by kernel_rfl)) hS_ ⟨by clear hK1 hK2 hK3 hK7 hK8 hK12 hK13 hK17 hK18 hK27; refine congrArg Ending.returned ?_; rw [limit2, h5, h10, h15, h25] <;> rfl, hS_.below⟩
        · refine W.skip' ?_
          refine hK17 _ _ ?_
          refine W.seq (fun K28 hK28 => ?_)
          refine W.region ?_
          refine Wl.ys (v := Value.int .u64 7440) rfl rfl (Ys.pure (fun _ => by kernel_rfl)) ?_
          refine Wl.nil ?_
          refine hK28 _ _ ?_
          refine W.ret ?_
          show ∀ w_, _ → bodyPost Try.prog Try.f26 _ Exit.ret _ w_
          exact fun w_ hS_ => ret1 rfl (RV.tmp (v := Value.int .u64 7440) (by kernel_rfl)) hS_ ⟨by clear hK1 hK2 hK3 hK7 hK8 hK12 hK13 hK17 hK18 hK28; refine congrArg Ending.returned ?_; rw [limit2, h5, h10, h15, h26] <;> rfl, hS_.below⟩

theorem speaks_c  (w : World) : Calls Try.prog 20 #[] w (Ret w (.bool true)) := by
  refine calls_W (M := []) (L := []) (n := 12) Try.func20 rfl rfl (by simp) (Mem.refl _) ?_
  refine W.seq (fun K1 hK1 => ?_)
  refine W.region ?_
  refine Wl.ys (v := Value.bool false) rfl rfl (Ys.pure (fun _ => by kernel_rfl)) ?_
  refine Wl.nil ?_
  refine hK1 _ _ ?_
  refine W.seq (fun K2 hK2 => ?_)
  refine W.region ?_
  refine Wl.ys (v := Value.agg ([Value.bool false, Value.bool false, Value.bool false, Value.bool false, Value.bool false]).toArray) rfl rfl (Ys.pure (fun _ => by kernel_rfl)) ?_
  refine Wl.ys (v := Value.agg ([Value.bool ((next (St.mk false false false false false) 2 true).a), Value.bool ((next (St.mk false false false false false) 2 true).b), Value.bool ((next (St.mk false false false false false) 2 true).c), Value.bool ((next (St.mk false false false false false) 2 true).d), Value.bool ((next (St.mk false false false false false) 2 true).e)]).toArray) rfl rfl (Ys.call (k := 23) (args := #[Value.agg ([Value.bool false, Value.bool false, Value.bool false, Value.bool false, Value.bool false]).toArray, Value.int .u8 2, Value.bool true]) (fun _ => by kernel_rfl) (fun _ hSc => next_c (St.mk false false false false false) 2 true _)) ?_
  refine Wl.alloc (z := Value.agg ([Value.bool false, Value.bool false, Value.bool false, Value.bool false, Value.bool false]).toArray) (cs := [Value.bool false, Value.bool false, Value.bool false, Value.bool false, Value.bool false]) rfl rfl rfl Try.zeroValue40 rfl (fun p1 => ?_)
  refine Wl.storeN (b := p1) (o' := 0) (i := 0) (cs := [Value.bool false, Value.bool false, Value.bool false, Value.bool false, Value.bool false]) (vs := [Value.bool ((next (St.mk false false false false false) 2 true).a), Value.bool ((next (St.mk false false false false false) 2 true).b), Value.bool ((next (St.mk false false false false false) 2 true).c), Value.bool ((next (St.mk false false false false false) 2 true).d), Value.bool ((next (St.mk false false false false false) 2 true).e)]) (cs' := [Value.bool ((next (St.mk false false false false false) 2 true).a), Value.bool ((next (St.mk false false false false false) 2 true).b), Value.bool ((next (St.mk false false false false false) 2 true).c), Value.bool ((next (St.mk false false false false false) 2 true).d), Value.bool ((next (St.mk false false false false false) 2 true).e)]) (L' := [⟨p1, [Value.bool ((next (St.mk false false false false false) 2 true).a), Value.bool ((next (St.mk false false false false false) 2 true).b), Value.bool ((next (St.mk false false false false false) 2 true).c), Value.bool ((next (St.mk false false false false false) 2 true).d), Value.bool ((next (St.mk false false false false false) 2 true).e)], 40⟩]) rfl rfl rfl (by kernel_rfl) (by kernel_rfl) Try.sizeOf40 (by simp [Value.oneCell']) rfl (by simp) rfl rfl ?_
  refine Wl.nil ?_
  refine hK2 _ _ ?_
  refine W.seq (fun K3 hK3 => ?_)
  refine W.region ?_
  refine Wl.ys (v := Value.agg ([Value.bool ((next (St.mk false false false false false) 2 true).a), Value.bool ((next (St.mk false false false false false) 2 true).b), Value.bool ((next (St.mk false false false false false) 2 true).c), Value.bool ((next (St.mk false false false false false) 2 true).d), Value.bool ((next (St.mk false false false false false) 2 true).e)]).toArray) rfl rfl (Ys.loadN (b := p1) (o' := 0) (i := 0) (cs := [Value.bool ((next (St.mk false false false false false) 2 true).a), Value.bool ((next (St.mk false false false false false) 2 true).b), Value.bool ((next (St.mk false false false false false) 2 true).c), Value.bool ((next (St.mk false false false false false) 2 true).d), Value.bool ((next (St.mk false false false false false) 2 true).e)]) (vs := [Value.bool ((next (St.mk false false false false false) 2 true).a), Value.bool ((next (St.mk false false false false false) 2 true).b), Value.bool ((next (St.mk false false false false false) 2 true).c), Value.bool ((next (St.mk false false false false false) 2 true).d), Value.bool ((next (St.mk false false false false false) 2 true).e)]) rfl (by kernel_rfl) Try.isAgg40 Try.sizeOf40 rfl rfl rfl) ?_
  refine Wl.ys (v := Value.agg ([Value.bool ((next (next (St.mk false false false false false) 2 true) 18 false).a), Value.bool ((next (next (St.mk false false false false false) 2 true) 18 false).b), Value.bool ((next (next (St.mk false false false false false) 2 true) 18 false).c), Value.bool ((next (next (St.mk false false false false false) 2 true) 18 false).d), Value.bool ((next (next (St.mk false false false false false) 2 true) 18 false).e)]).toArray) rfl rfl (Ys.call (k := 23) (args := #[Value.agg ([Value.bool ((next (St.mk false false false false false) 2 true).a), Value.bool ((next (St.mk false false false false false) 2 true).b), Value.bool ((next (St.mk false false false false false) 2 true).c), Value.bool ((next (St.mk false false false false false) 2 true).d), Value.bool ((next (St.mk false false false false false) 2 true).e)]).toArray, Value.int .u8 18, Value.bool false]) (fun _ => by kernel_rfl) (fun _ hSc => next_c (next (St.mk false false false false false) 2 true) 18 false _)) ?_
  refine Wl.storeN (b := p1) (o' := 0) (i := 0) (cs := [Value.bool ((next (St.mk false false false false false) 2 true).a), Value.bool ((next (St.mk false false false false false) 2 true).b), Value.bool ((next (St.mk false false false false false) 2 true).c), Value.bool ((next (St.mk false false false false false) 2 true).d), Value.bool ((next (St.mk false false false false false) 2 true).e)]) (vs := [Value.bool ((next (next (St.mk false false false false false) 2 true) 18 false).a), Value.bool ((next (next (St.mk false false false false false) 2 true) 18 false).b), Value.bool ((next (next (St.mk false false false false false) 2 true) 18 false).c), Value.bool ((next (next (St.mk false false false false false) 2 true) 18 false).d), Value.bool ((next (next (St.mk false false false false false) 2 true) 18 false).e)]) (cs' := [Value.bool ((next (next (St.mk false false false false false) 2 true) 18 false).a), Value.bool ((next (next (St.mk false false false false false) 2 true) 18 false).b), Value.bool ((next (next (St.mk false false false false false) 2 true) 18 false).c), Value.bool ((next (next (St.mk false false false false false) 2 true) 18 false).d), Value.bool ((next (next (St.mk false false false false false) 2 true) 18 false).e)]) (L' := [⟨p1, [Value.bool ((next (next (St.mk false false false false false) 2 true) 18 false).a), Value.bool ((next (next (St.mk false false false false false) 2 true) 18 false).b), Value.bool ((next (next (St.mk false false false false false) 2 true) 18 false).c), Value.bool ((next (next (St.mk false false false false false) 2 true) 18 false).d), Value.bool ((next (next (St.mk false false false false false) 2 true) 18 false).e)], 40⟩]) rfl rfl rfl (by kernel_rfl) (by kernel_rfl) Try.sizeOf40 (by simp [Value.oneCell']) rfl (by simp) rfl rfl ?_
  refine Wl.nil ?_
  refine hK3 _ _ ?_
  refine W.seq (fun K4 hK4 => ?_)
  refine W.region ?_
  refine Wl.ys (v := Value.agg ([Value.bool ((next (next (St.mk false false false false false) 2 true) 18 false).a), Value.bool ((next (next (St.mk false false false false false) 2 true) 18 false).b), Value.bool ((next (next (St.mk false false false false false) 2 true) 18 false).c), Value.bool ((next (next (St.mk false false false false false) 2 true) 18 false).d), Value.bool ((next (next (St.mk false false false false false) 2 true) 18 false).e)]).toArray) rfl rfl (Ys.loadN (b := p1) (o' := 0) (i := 0) (cs := [Value.bool ((next (next (St.mk false false false false false) 2 true) 18 false).a), Value.bool ((next (next (St.mk false false false false false) 2 true) 18 false).b), Value.bool ((next (next (St.mk false false false false false) 2 true) 18 false).c), Value.bool ((next (next (St.mk false false false false false) 2 true) 18 false).d), Value.bool ((next (next (St.mk false false false false false) 2 true) 18 false).e)]) (vs := [Value.bool ((next (next (St.mk false false false false false) 2 true) 18 false).a), Value.bool ((next (next (St.mk false false false false false) 2 true) 18 false).b), Value.bool ((next (next (St.mk false false false false false) 2 true) 18 false).c), Value.bool ((next (next (St.mk false false false false false) 2 true) 18 false).d), Value.bool ((next (next (St.mk false false false false false) 2 true) 18 false).e)]) rfl (by kernel_rfl) Try.isAgg40 Try.sizeOf40 rfl rfl rfl) ?_
  refine Wl.ys (v := Value.int .u64 (limit 6 (next (next (St.mk false false false false false) 2 true) 18 false))) rfl rfl (Ys.call (k := 25) (args := #[Value.int .u8 6, Value.agg ([Value.bool ((next (next (St.mk false false false false false) 2 true) 18 false).a), Value.bool ((next (next (St.mk false false false false false) 2 true) 18 false).b), Value.bool ((next (next (St.mk false false false false false) 2 true) 18 false).c), Value.bool ((next (next (St.mk false false false false false) 2 true) 18 false).d), Value.bool ((next (next (St.mk false false false false false) 2 true) 18 false).e)]).toArray]) (fun _ => by kernel_rfl) (fun _ hSc => limit_c 6 (next (next (St.mk false false false false false) 2 true) 18 false) _)) ?_
  refine Wl.ys (v := Value.bool ((limit 6 (next (next (St.mk false false false false false) 2 true) 18 false)) == 7440)) rfl rfl (Ys.pure (fun _ => by kernel_rfl)) ?_
  refine Wl.ys (v := Value.bool ((limit 6 (next (next (St.mk false false false false false) 2 true) 18 false)) == 7440)) rfl rfl (Ys.pure (fun _ => by kernel_rfl)) ?_
  refine Wl.guard (v := Value.bool (begins 2)) ((limit 6 (next (next (St.mk false false false false false) 2 true) 18 false)) == 7440) (wantT rfl (by kernel_rfl)) rfl (fun hg5 => ?_) ?_
  · have qhg5 := hg5; try simp only [Bool.and_eq_true, Bool.or_eq_true, Bool.not_eq_true', Bool.not_eq_false', Bool.and_eq_false_iff, Bool.or_eq_false_iff, decide_eq_true_eq, decide_eq_false_iff_not, beq_iff_eq, bne_iff_ne, beq_eq_false_iff_ne, bne_eq_false_iff_eq] at qhg5
    exact Ys.call (k := 21) (args := #[Value.int .u8 2]) (fun _ => by kernel_rfl) (fun _ hSc => begins_c 2 _)
  refine Wl.ys (v := Value.bool (((limit 6 (next (next (St.mk false false false false false) 2 true) 18 false)) == 7440) && (begins 2))) rfl rfl (Ys.and (e := (limit 6 (next (next (St.mk false false false false false) 2 true) 18 false)) == 7440) (b := begins 2) rfl (by kernel_rfl) (by kernel_rfl) (by kernel_rfl)) ?_
  refine Wl.ys (v := Value.bool (((limit 6 (next (next (St.mk false false false false false) 2 true) 18 false)) == 7440) && (begins 2))) rfl rfl (Ys.pure (fun _ => by kernel_rfl)) ?_
  refine Wl.nil ?_
  refine hK4 _ _ ?_
  refine W.ret ?_
  show ∀ w_, _ → bodyPost Try.prog Try.f20 _ Exit.ret _ w_
  exact fun w_ hS_ => ret1 rfl (RV.tmp (v := Value.bool (((limit 6 (next (next (St.mk false false false false false) 2 true) 18 false)) == 7440) && (begins 2))) (by kernel_rfl)) hS_ ⟨by clear hK1 hK2 hK3 hK4; refine congrArg Ending.returned ?_; refine bool_congr ?_; decide, hS_.below⟩

theorem trackBegins_c (a b : Int) (w : World) : Calls Try.prog 8 #[Value.int .u8 a, Value.int .u8 b] w (Ret w (.bool (lawBegins a b))) := by
  refine calls_W (M := []) (L := []) (n := 42) Try.func8 rfl rfl (by simp) (Mem.refl _) ?_
  refine W.seq (fun K1 hK1 => ?_)
  refine W.region ?_
  refine Wl.ys (v := Value.bool false) rfl rfl (Ys.pure (fun _ => by kernel_rfl)) ?_
  refine Wl.nil ?_
  refine hK1 _ _ ?_
  refine W.seq (fun K2 hK2 => ?_)
  refine W.seq (fun K3 hK3 => ?_)
  refine W.region ?_
  refine Wl.ys (v := Value.bool true) rfl rfl (Ys.call (k := 20) (args := #[]) (fun _ => by kernel_rfl) (fun _ hSc => speaks_c  _)) ?_
  refine Wl.ys (v := Value.bool false) rfl rfl (Ys.pure (fun _ => by kernel_rfl)) ?_
  refine Wl.nil ?_
  refine hK3 _ _ ?_
  refine W.condF (by kernel_rfl) ?_
  refine W.skip' ?_
  refine hK2 _ _ ?_
  refine W.seq (fun K4 hK4 => ?_)
  refine W.region ?_
  refine Wl.ys (v := Value.int .u8 b) rfl rfl (Ys.pure (fun _ => by kernel_rfl)) ?_
  refine Wl.ys (v := Value.int .u8 (bandn .u8 b 22)) rfl rfl (Ys.pure (fun _ => by kernel_rfl)) ?_
  refine Wl.ys (v := Value.int .u8 (bandn .u8 b 22)) rfl rfl (Ys.pure (fun _ => by kernel_rfl)) ?_
  refine Wl.nil ?_
  refine hK4 _ _ ?_
  refine W.seq (fun K5 hK5 => ?_)
  refine W.region ?_
  refine Wl.ys (v := Value.int .u8 a) rfl rfl (Ys.pure (fun _ => by kernel_rfl)) ?_
  refine Wl.ys (v := Value.bool (begins a)) rfl rfl (Ys.call (k := 21) (args := #[Value.int .u8 a]) (fun _ => by kernel_rfl) (fun _ hSc => begins_c a _)) ?_
  refine Wl.ys (v := Value.int .u8 a) rfl rfl (Ys.pure (fun _ => by kernel_rfl)) ?_
  refine Wl.ys (v := Value.int .u8 (band .u8 a 22)) rfl rfl (Ys.pure (fun _ => by kernel_rfl)) ?_
  refine Wl.ys (v := Value.int .u8 (bandn .u8 b 22)) rfl rfl (Ys.pure (fun _ => by kernel_rfl)) ?_
  refine Wl.ys (v := Value.int .u8 (bor .u8 (band .u8 a 22) (bandn .u8 b 22))) rfl rfl (Ys.pure (fun _ => by kernel_rfl)) ?_
  refine Wl.ys (v := Value.bool (begins (bor .u8 (band .u8 a 22) (bandn .u8 b 22)))) rfl rfl (Ys.call (k := 21) (args := #[Value.int .u8 (bor .u8 (band .u8 a 22) (bandn .u8 b 22))]) (fun _ => by kernel_rfl) (fun _ hSc => begins_c (bor .u8 (band .u8 a 22) (bandn .u8 b 22)) _)) ?_
  refine Wl.ys (v := Value.bool ((begins a) == (begins (bor .u8 (band .u8 a 22) (bandn .u8 b 22))))) rfl rfl (Ys.pure (fun _ => by kernel_rfl)) ?_
  refine Wl.ys (v := Value.bool ((begins a) == (begins (bor .u8 (band .u8 a 22) (bandn .u8 b 22))))) rfl rfl (Ys.pure (fun _ => by kernel_rfl)) ?_
  refine Wl.nil ?_
  refine hK5 _ _ ?_
  refine W.seq (fun K6 hK6 => ?_)
  refine W.region ?_
  refine Wl.ys (v := Value.bool ((begins a) == (begins (bor .u8 (band .u8 a 22) (bandn .u8 b 22))))) rfl rfl (Ys.pure (fun _ => by kernel_rfl)) ?_
  refine Wl.ys (v := Value.bool ((begins a) == (begins (bor .u8 (band .u8 a 22) (bandn .u8 b 22))))) rfl rfl (Ys.pure (fun _ => by kernel_rfl)) ?_
  refine Wl.guard (v := Value.int .u8 (bandn .u8 b 22)) ((begins a) == (begins (bor .u8 (band .u8 a 22) (bandn .u8 b 22)))) (wantT rfl (by kernel_rfl)) rfl (fun hg7 => ?_) ?_
  · have qhg7 := hg7; try simp only [Bool.and_eq_true, Bool.or_eq_true, Bool.not_eq_true', Bool.not_eq_false', Bool.and_eq_false_iff, Bool.or_eq_false_iff, decide_eq_true_eq, decide_eq_false_iff_not, beq_iff_eq, bne_iff_ne, beq_eq_false_iff_ne, bne_eq_false_iff_eq] at qhg7
    exact Ys.pure (fun _ => by kernel_rfl)
  refine Wl.guard (v := Value.int .u8 (bor .u8 2 (bandn .u8 b 22))) ((begins a) == (begins (bor .u8 (band .u8 a 22) (bandn .u8 b 22)))) (wantT rfl (by kernel_rfl)) rfl (fun hg8 => ?_) ?_
  · have qhg8 := hg8; try simp only [Bool.and_eq_true, Bool.or_eq_true, Bool.not_eq_true', Bool.not_eq_false', Bool.and_eq_false_iff, Bool.or_eq_false_iff, decide_eq_true_eq, decide_eq_false_iff_not, beq_iff_eq, bne_iff_ne, beq_eq_false_iff_ne, bne_eq_false_iff_eq] at qhg8
    refine Ys.at (t := 21) (v0 := Value.int .u8 (bandn .u8 b 22)) (lz (g := (begins a) == (begins (bor .u8 (band .u8 a 22) (bandn .u8 b 22)))) (u := undef) hg8 (by kernel_rfl)) ?_
    exact Ys.pure (fun _ => by kernel_rfl)
  refine Wl.guard (v := Value.bool (begins (bor .u8 2 (bandn .u8 b 22)))) ((begins a) == (begins (bor .u8 (band .u8 a 22) (bandn .u8 b 22)))) (wantT rfl (by kernel_rfl)) rfl (fun hg9 => ?_) ?_
  · have qhg9 := hg9; try simp only [Bool.and_eq_true, Bool.or_eq_true, Bool.not_eq_true', Bool.not_eq_false', Bool.and_eq_false_iff, Bool.or_eq_false_iff, decide_eq_true_eq, decide_eq_false_iff_not, beq_iff_eq, bne_iff_ne, beq_eq_false_iff_ne, bne_eq_false_iff_eq] at qhg9
    refine Ys.at (t := 22) (v0 := Value.int .u8 (bor .u8 2 (bandn .u8 b 22))) (lz (g := (begins a) == (begins (bor .u8 (band .u8 a 22) (bandn .u8 b 22)))) (u := undef) hg9 (by kernel_rfl)) ?_
    exact Ys.call (k := 21) (args := #[Value.int .u8 (bor .u8 2 (bandn .u8 b 22))]) (fun _ => by kernel_rfl) (fun _ hSc => begins_c (bor .u8 2 (bandn .u8 b 22)) _)
  refine Wl.ys (v := Value.bool (((begins a) == (begins (bor .u8 (band .u8 a 22) (bandn .u8 b 22)))) && (begins (bor .u8 2 (bandn .u8 b 22))))) rfl rfl (Ys.and (e := (begins a) == (begins (bor .u8 (band .u8 a 22) (bandn .u8 b 22)))) (b := begins (bor .u8 2 (bandn .u8 b 22))) rfl (by kernel_rfl) (by kernel_rfl) (by kernel_rfl)) ?_
  refine Wl.ys (v := Value.bool (((begins a) == (begins (bor .u8 (band .u8 a 22) (bandn .u8 b 22)))) && (begins (bor .u8 2 (bandn .u8 b 22))))) rfl rfl (Ys.pure (fun _ => by kernel_rfl)) ?_
  refine Wl.guard (v := Value.int .u8 (bandn .u8 b 22)) (((begins a) == (begins (bor .u8 (band .u8 a 22) (bandn .u8 b 22)))) && (begins (bor .u8 2 (bandn .u8 b 22)))) (wantT rfl (by kernel_rfl)) rfl (fun hg10 => ?_) ?_
  · have qhg10 := hg10; try simp only [Bool.and_eq_true, Bool.or_eq_true, Bool.not_eq_true', Bool.not_eq_false', Bool.and_eq_false_iff, Bool.or_eq_false_iff, decide_eq_true_eq, decide_eq_false_iff_not, beq_iff_eq, bne_iff_ne, beq_eq_false_iff_ne, bne_eq_false_iff_eq] at qhg10
    exact Ys.pure (fun _ => by kernel_rfl)
  refine Wl.guard (v := Value.int .u8 (bor .u8 18 (bandn .u8 b 22))) (((begins a) == (begins (bor .u8 (band .u8 a 22) (bandn .u8 b 22)))) && (begins (bor .u8 2 (bandn .u8 b 22)))) (wantT rfl (by kernel_rfl)) rfl (fun hg11 => ?_) ?_
  · have qhg11 := hg11; try simp only [Bool.and_eq_true, Bool.or_eq_true, Bool.not_eq_true', Bool.not_eq_false', Bool.and_eq_false_iff, Bool.or_eq_false_iff, decide_eq_true_eq, decide_eq_false_iff_not, beq_iff_eq, bne_iff_ne, beq_eq_false_iff_ne, bne_eq_false_iff_eq] at qhg11
    refine Ys.at (t := 26) (v0 := Value.int .u8 (bandn .u8 b 22)) (lz (g := ((begins a) == (begins (bor .u8 (band .u8 a 22) (bandn .u8 b 22)))) && (begins (bor .u8 2 (bandn .u8 b 22)))) (u := undef) hg11 (by kernel_rfl)) ?_
    exact Ys.pure (fun _ => by kernel_rfl)
  refine Wl.guard (v := Value.bool (begins (bor .u8 18 (bandn .u8 b 22)))) (((begins a) == (begins (bor .u8 (band .u8 a 22) (bandn .u8 b 22)))) && (begins (bor .u8 2 (bandn .u8 b 22)))) (wantT rfl (by kernel_rfl)) rfl (fun hg12 => ?_) ?_
  · have qhg12 := hg12; try simp only [Bool.and_eq_true, Bool.or_eq_true, Bool.not_eq_true', Bool.not_eq_false', Bool.and_eq_false_iff, Bool.or_eq_false_iff, decide_eq_true_eq, decide_eq_false_iff_not, beq_iff_eq, bne_iff_ne, beq_eq_false_iff_ne, bne_eq_false_iff_eq] at qhg12
    refine Ys.at (t := 27) (v0 := Value.int .u8 (bor .u8 18 (bandn .u8 b 22))) (lz (g := ((begins a) == (begins (bor .u8 (band .u8 a 22) (bandn .u8 b 22)))) && (begins (bor .u8 2 (bandn .u8 b 22)))) (u := undef) hg12 (by kernel_rfl)) ?_
    exact Ys.call (k := 21) (args := #[Value.int .u8 (bor .u8 18 (bandn .u8 b 22))]) (fun _ => by kernel_rfl) (fun _ hSc => begins_c (bor .u8 18 (bandn .u8 b 22)) _)
  refine Wl.guard (v := Value.bool (!(begins (bor .u8 18 (bandn .u8 b 22))))) (((begins a) == (begins (bor .u8 (band .u8 a 22) (bandn .u8 b 22)))) && (begins (bor .u8 2 (bandn .u8 b 22)))) (wantT rfl (by kernel_rfl)) rfl (fun hg13 => ?_) ?_
  · have qhg13 := hg13; try simp only [Bool.and_eq_true, Bool.or_eq_true, Bool.not_eq_true', Bool.not_eq_false', Bool.and_eq_false_iff, Bool.or_eq_false_iff, decide_eq_true_eq, decide_eq_false_iff_not, beq_iff_eq, bne_iff_ne, beq_eq_false_iff_ne, bne_eq_false_iff_eq] at qhg13
    refine Ys.at (t := 28) (v0 := Value.bool (begins (bor .u8 18 (bandn .u8 b 22)))) (lz (g := ((begins a) == (begins (bor .u8 (band .u8 a 22) (bandn .u8 b 22)))) && (begins (bor .u8 2 (bandn .u8 b 22)))) (u := undef) hg13 (by kernel_rfl)) ?_
    exact Ys.pure (fun _ => by kernel_rfl)
  refine Wl.ys (v := Value.bool ((((begins a) == (begins (bor .u8 (band .u8 a 22) (bandn .u8 b 22)))) && (begins (bor .u8 2 (bandn .u8 b 22)))) && (!(begins (bor .u8 18 (bandn .u8 b 22)))))) rfl rfl (Ys.and (e := ((begins a) == (begins (bor .u8 (band .u8 a 22) (bandn .u8 b 22)))) && (begins (bor .u8 2 (bandn .u8 b 22)))) (b := !(begins (bor .u8 18 (bandn .u8 b 22)))) rfl (by kernel_rfl) (by kernel_rfl) (by kernel_rfl)) ?_
  refine Wl.ys (v := Value.bool ((((begins a) == (begins (bor .u8 (band .u8 a 22) (bandn .u8 b 22)))) && (begins (bor .u8 2 (bandn .u8 b 22)))) && (!(begins (bor .u8 18 (bandn .u8 b 22)))))) rfl rfl (Ys.pure (fun _ => by kernel_rfl)) ?_
  refine Wl.guard (v := Value.int .u8 (bandn .u8 b 22)) ((((begins a) == (begins (bor .u8 (band .u8 a 22) (bandn .u8 b 22)))) && (begins (bor .u8 2 (bandn .u8 b 22)))) && (!(begins (bor .u8 18 (bandn .u8 b 22))))) (wantT rfl (by kernel_rfl)) rfl (fun hg14 => ?_) ?_
  · have qhg14 := hg14; try simp only [Bool.and_eq_true, Bool.or_eq_true, Bool.not_eq_true', Bool.not_eq_false', Bool.and_eq_false_iff, Bool.or_eq_false_iff, decide_eq_true_eq, decide_eq_false_iff_not, beq_iff_eq, bne_iff_ne, beq_eq_false_iff_ne, bne_eq_false_iff_eq] at qhg14
    exact Ys.pure (fun _ => by kernel_rfl)
  refine Wl.guard (v := Value.int .u8 (bor .u8 6 (bandn .u8 b 22))) ((((begins a) == (begins (bor .u8 (band .u8 a 22) (bandn .u8 b 22)))) && (begins (bor .u8 2 (bandn .u8 b 22)))) && (!(begins (bor .u8 18 (bandn .u8 b 22))))) (wantT rfl (by kernel_rfl)) rfl (fun hg15 => ?_) ?_
  · have qhg15 := hg15; try simp only [Bool.and_eq_true, Bool.or_eq_true, Bool.not_eq_true', Bool.not_eq_false', Bool.and_eq_false_iff, Bool.or_eq_false_iff, decide_eq_true_eq, decide_eq_false_iff_not, beq_iff_eq, bne_iff_ne, beq_eq_false_iff_ne, bne_eq_false_iff_eq] at qhg15
    refine Ys.at (t := 32) (v0 := Value.int .u8 (bandn .u8 b 22)) (lz (g := (((begins a) == (begins (bor .u8 (band .u8 a 22) (bandn .u8 b 22)))) && (begins (bor .u8 2 (bandn .u8 b 22)))) && (!(begins (bor .u8 18 (bandn .u8 b 22))))) (u := undef) hg15 (by kernel_rfl)) ?_
    exact Ys.pure (fun _ => by kernel_rfl)
  refine Wl.guard (v := Value.bool (begins (bor .u8 6 (bandn .u8 b 22)))) ((((begins a) == (begins (bor .u8 (band .u8 a 22) (bandn .u8 b 22)))) && (begins (bor .u8 2 (bandn .u8 b 22)))) && (!(begins (bor .u8 18 (bandn .u8 b 22))))) (wantT rfl (by kernel_rfl)) rfl (fun hg16 => ?_) ?_
  · have qhg16 := hg16; try simp only [Bool.and_eq_true, Bool.or_eq_true, Bool.not_eq_true', Bool.not_eq_false', Bool.and_eq_false_iff, Bool.or_eq_false_iff, decide_eq_true_eq, decide_eq_false_iff_not, beq_iff_eq, bne_iff_ne, beq_eq_false_iff_ne, bne_eq_false_iff_eq] at qhg16
    refine Ys.at (t := 33) (v0 := Value.int .u8 (bor .u8 6 (bandn .u8 b 22))) (lz (g := (((begins a) == (begins (bor .u8 (band .u8 a 22) (bandn .u8 b 22)))) && (begins (bor .u8 2 (bandn .u8 b 22)))) && (!(begins (bor .u8 18 (bandn .u8 b 22))))) (u := undef) hg16 (by kernel_rfl)) ?_
    exact Ys.call (k := 21) (args := #[Value.int .u8 (bor .u8 6 (bandn .u8 b 22))]) (fun _ => by kernel_rfl) (fun _ hSc => begins_c (bor .u8 6 (bandn .u8 b 22)) _)
  refine Wl.guard (v := Value.bool (!(begins (bor .u8 6 (bandn .u8 b 22))))) ((((begins a) == (begins (bor .u8 (band .u8 a 22) (bandn .u8 b 22)))) && (begins (bor .u8 2 (bandn .u8 b 22)))) && (!(begins (bor .u8 18 (bandn .u8 b 22))))) (wantT rfl (by kernel_rfl)) rfl (fun hg17 => ?_) ?_
  · have qhg17 := hg17; try simp only [Bool.and_eq_true, Bool.or_eq_true, Bool.not_eq_true', Bool.not_eq_false', Bool.and_eq_false_iff, Bool.or_eq_false_iff, decide_eq_true_eq, decide_eq_false_iff_not, beq_iff_eq, bne_iff_ne, beq_eq_false_iff_ne, bne_eq_false_iff_eq] at qhg17
    refine Ys.at (t := 34) (v0 := Value.bool (begins (bor .u8 6 (bandn .u8 b 22)))) (lz (g := (((begins a) == (begins (bor .u8 (band .u8 a 22) (bandn .u8 b 22)))) && (begins (bor .u8 2 (bandn .u8 b 22)))) && (!(begins (bor .u8 18 (bandn .u8 b 22))))) (u := undef) hg17 (by kernel_rfl)) ?_
    exact Ys.pure (fun _ => by kernel_rfl)
  refine Wl.ys (v := Value.bool (((((begins a) == (begins (bor .u8 (band .u8 a 22) (bandn .u8 b 22)))) && (begins (bor .u8 2 (bandn .u8 b 22)))) && (!(begins (bor .u8 18 (bandn .u8 b 22))))) && (!(begins (bor .u8 6 (bandn .u8 b 22)))))) rfl rfl (Ys.and (e := (((begins a) == (begins (bor .u8 (band .u8 a 22) (bandn .u8 b 22)))) && (begins (bor .u8 2 (bandn .u8 b 22)))) && (!(begins (bor .u8 18 (bandn .u8 b 22))))) (b := !(begins (bor .u8 6 (bandn .u8 b 22)))) rfl (by kernel_rfl) (by kernel_rfl) (by kernel_rfl)) ?_
  refine Wl.ys (v := Value.bool (((((begins a) == (begins (bor .u8 (band .u8 a 22) (bandn .u8 b 22)))) && (begins (bor .u8 2 (bandn .u8 b 22)))) && (!(begins (bor .u8 18 (bandn .u8 b 22))))) && (!(begins (bor .u8 6 (bandn .u8 b 22)))))) rfl rfl (Ys.pure (fun _ => by kernel_rfl)) ?_
  refine Wl.guard (v := Value.int .u8 (bandn .u8 b 22)) (((((begins a) == (begins (bor .u8 (band .u8 a 22) (bandn .u8 b 22)))) && (begins (bor .u8 2 (bandn .u8 b 22)))) && (!(begins (bor .u8 18 (bandn .u8 b 22))))) && (!(begins (bor .u8 6 (bandn .u8 b 22))))) (wantT rfl (by kernel_rfl)) rfl (fun hg18 => ?_) ?_
  · have qhg18 := hg18; try simp only [Bool.and_eq_true, Bool.or_eq_true, Bool.not_eq_true', Bool.not_eq_false', Bool.and_eq_false_iff, Bool.or_eq_false_iff, decide_eq_true_eq, decide_eq_false_iff_not, beq_iff_eq, bne_iff_ne, beq_eq_false_iff_ne, bne_eq_false_iff_eq] at qhg18
    exact Ys.pure (fun _ => by kernel_rfl)
  refine Wl.guard (v := Value.bool (begins (bandn .u8 b 22))) (((((begins a) == (begins (bor .u8 (band .u8 a 22) (bandn .u8 b 22)))) && (begins (bor .u8 2 (bandn .u8 b 22)))) && (!(begins (bor .u8 18 (bandn .u8 b 22))))) && (!(begins (bor .u8 6 (bandn .u8 b 22))))) (wantT rfl (by kernel_rfl)) rfl (fun hg19 => ?_) ?_
  · have qhg19 := hg19; try simp only [Bool.and_eq_true, Bool.or_eq_true, Bool.not_eq_true', Bool.not_eq_false', Bool.and_eq_false_iff, Bool.or_eq_false_iff, decide_eq_true_eq, decide_eq_false_iff_not, beq_iff_eq, bne_iff_ne, beq_eq_false_iff_ne, bne_eq_false_iff_eq] at qhg19
    refine Ys.at (t := 38) (v0 := Value.int .u8 (bandn .u8 b 22)) (lz (g := ((((begins a) == (begins (bor .u8 (band .u8 a 22) (bandn .u8 b 22)))) && (begins (bor .u8 2 (bandn .u8 b 22)))) && (!(begins (bor .u8 18 (bandn .u8 b 22))))) && (!(begins (bor .u8 6 (bandn .u8 b 22))))) (u := undef) hg19 (by kernel_rfl)) ?_
    exact Ys.call (k := 21) (args := #[Value.int .u8 (bandn .u8 b 22)]) (fun _ => by kernel_rfl) (fun _ hSc => begins_c (bandn .u8 b 22) _)
  refine Wl.guard (v := Value.bool (!(begins (bandn .u8 b 22)))) (((((begins a) == (begins (bor .u8 (band .u8 a 22) (bandn .u8 b 22)))) && (begins (bor .u8 2 (bandn .u8 b 22)))) && (!(begins (bor .u8 18 (bandn .u8 b 22))))) && (!(begins (bor .u8 6 (bandn .u8 b 22))))) (wantT rfl (by kernel_rfl)) rfl (fun hg20 => ?_) ?_
  · have qhg20 := hg20; try simp only [Bool.and_eq_true, Bool.or_eq_true, Bool.not_eq_true', Bool.not_eq_false', Bool.and_eq_false_iff, Bool.or_eq_false_iff, decide_eq_true_eq, decide_eq_false_iff_not, beq_iff_eq, bne_iff_ne, beq_eq_false_iff_ne, bne_eq_false_iff_eq] at qhg20
    refine Ys.at (t := 39) (v0 := Value.bool (begins (bandn .u8 b 22))) (lz (g := ((((begins a) == (begins (bor .u8 (band .u8 a 22) (bandn .u8 b 22)))) && (begins (bor .u8 2 (bandn .u8 b 22)))) && (!(begins (bor .u8 18 (bandn .u8 b 22))))) && (!(begins (bor .u8 6 (bandn .u8 b 22))))) (u := undef) hg20 (by kernel_rfl)) ?_
    exact Ys.pure (fun _ => by kernel_rfl)
  refine Wl.ys (v := Value.bool ((((((begins a) == (begins (bor .u8 (band .u8 a 22) (bandn .u8 b 22)))) && (begins (bor .u8 2 (bandn .u8 b 22)))) && (!(begins (bor .u8 18 (bandn .u8 b 22))))) && (!(begins (bor .u8 6 (bandn .u8 b 22))))) && (!(begins (bandn .u8 b 22))))) rfl rfl (Ys.and (e := ((((begins a) == (begins (bor .u8 (band .u8 a 22) (bandn .u8 b 22)))) && (begins (bor .u8 2 (bandn .u8 b 22)))) && (!(begins (bor .u8 18 (bandn .u8 b 22))))) && (!(begins (bor .u8 6 (bandn .u8 b 22))))) (b := !(begins (bandn .u8 b 22))) rfl (by kernel_rfl) (by kernel_rfl) (by kernel_rfl)) ?_
  refine Wl.ys (v := Value.bool ((((((begins a) == (begins (bor .u8 (band .u8 a 22) (bandn .u8 b 22)))) && (begins (bor .u8 2 (bandn .u8 b 22)))) && (!(begins (bor .u8 18 (bandn .u8 b 22))))) && (!(begins (bor .u8 6 (bandn .u8 b 22))))) && (!(begins (bandn .u8 b 22))))) rfl rfl (Ys.pure (fun _ => by kernel_rfl)) ?_
  refine Wl.nil ?_
  refine hK6 _ _ ?_
  refine W.ret ?_
  show ∀ w_, _ → bodyPost Try.prog Try.f8 _ Exit.ret _ w_
  exact fun w_ hS_ => ret1 rfl (RV.tmp (v := Value.bool ((((((begins a) == (begins (bor .u8 (band .u8 a 22) (bandn .u8 b 22)))) && (begins (bor .u8 2 (bandn .u8 b 22)))) && (!(begins (bor .u8 18 (bandn .u8 b 22))))) && (!(begins (bor .u8 6 (bandn .u8 b 22))))) && (!(begins (bandn .u8 b 22))))) (by kernel_rfl)) hS_ ⟨rfl, hS_.below⟩

end Go.Proofs.Ytegdeobjfdiilaa.Track
