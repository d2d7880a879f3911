/-
  Packets that are held. No condition.
-/
import Derived.Test.YtjkhmbigoloeiaaNk1
set_option linter.unusedVariables false
set_option linter.unusedSimpArgs false
set_option maxRecDepth 20000
namespace Go.Proofs.Ytjkhmbigoloeiaa.Oct
open Go.RowKit Base
attribute [local irreducible] Ys Yc Ht HtS HtIn Wl Wd W Mem pf dpf Wa Wo

/-- A packet that is held. -/
structure Hd where
  id : Int
  dst : Int
  came : Int
structure Pk where
  id : Int
  dst : Int
abbrev hd0 : Hd := ⟨0, 0, 0⟩
abbrev pk0 : Pk := ⟨0, 0⟩
def Hd.pk (x : Hd) : Pk := ⟨x.id, x.dst⟩
def hd (x : Hd) : List Value := [Value.int .u8 0, Value.int .u8 0, Value.int .u16 x.id, Value.int .u32 0, Value.int .u32 x.dst, Value.slice none 0 0, Value.int .u64 x.came]
def pk (x : Pk) : List Value := [Value.int .u8 0, Value.int .u8 0, Value.int .u16 x.id, Value.int .u32 0, Value.int .u32 x.dst, Value.slice none 0 0]
theorem hd_len (x : Hd) : (hd x).length = 7 := rfl
theorem pk_len (x : Pk) : (pk x).length = 6 := rfl
theorem hd_one (x : Hd) : ∀ v ∈ hd x, v.oneCell' = true := by simp [hd, Value.oneCell']
theorem pk_one (x : Pk) : ∀ v ∈ pk x, v.oneCell' = true := by simp [pk, Value.oneCell']
theorem hd_zlen (xs : List Hd) : (mm hd xs).length = xs.length * 7 := mm_len hd_len xs
theorem pk_zlen (xs : List Pk) : (mm pk xs).length = xs.length * 6 := mm_len pk_len xs
/-- The place of the first one that meets p; below 0: none does. -/
def fidx {α : Type} (p : α → Bool) (xs : List α) : Int := bif xs.any p then ((xs.findIdx p : Nat) : Int) else -1
theorem fidx_no {α : Type} {p : α → Bool} (d : α) {xs : List α} (h : ∀ j, j < xs.length → p (xs.getD j d) = false) : fidx p xs = -1 := by
  have : xs.any p = false := by
    rw [List.any_eq_false]
    intro x hx
    obtain ⟨j, hj, rfl⟩ := List.getElem_of_mem hx
    have := h j hj
    rw [List.getD_eq_getElem?_getD, List.getElem?_eq_getElem hj] at this
    simpa using this
  unfold fidx; rw [this]; rfl
theorem fidx_hit {α : Type} {p : α → Bool} (d : α) {xs : List α} {i : Nat} (hi : i < xs.length) (hno : ∀ j, j < i → p (xs.getD j d) = false) (h : p (xs.getD i d) = true) : fidx p xs = ((i : Nat) : Int) := by
  have g : ∀ j (hj : j < xs.length), xs.getD j d = xs[j] := fun j hj => by rw [List.getD_eq_getElem?_getD, List.getElem?_eq_getElem hj]; rfl
  have ha : xs.any p = true := List.any_eq_true.2 ⟨xs[i], List.getElem_mem hi, by rw [← g i hi]; exact h⟩
  unfold fidx; rw [ha]
  show ((xs.findIdx p : Nat) : Int) = _
  congr 1
  rw [List.findIdx_eq hi]
  exact ⟨by rw [← g i hi]; exact h, fun j hj => by rw [← g j (by omega)]; exact hno j hj⟩
theorem fidx_any {α : Type} (p : α → Bool) (xs : List α) : decide (fidx p xs ≥ 0) = xs.any p := by
  unfold fidx
  cases xs.any p
  · rfl
  · simp
/-- Is it one like this, that came now? -/
def likeH (d n : Int) (x : Hd) : Bool := (x.dst == d) && (x.came == n)
theorem hold1_c (x : Hd) (i d n : Int) (pp pn : Nat) (w : World) (hpp : At w (some ⟨pp, 0, none⟩) [Value.int .u8 0, Value.int .u8 0, Value.int .u16 i, Value.int .u32 0, Value.int .u32 d, Value.slice none 0 0]) (hpn : At w (some ⟨pn, 0, none⟩) [Value.int .u64 n]) : Calls Try.prog 41 #[Value.agg ([Value.int .u8 0, Value.int .u8 0, Value.int .u16 x.id, Value.int .u32 0, Value.int .u32 x.dst, Value.slice none 0 0, Value.int .u64 x.came]).toArray, Value.pointer (some ⟨pp, 0, none⟩), Value.pointer (some ⟨pn, 0, none⟩)] w (Ret w (.bool (likeH d n x))) := by
  refine calls_W (M := []) (LL := []) (n := 17) Try.func41 rfl rfl (by simp) (Mem.refl _) ?_
  refine W.seq (fun K1 hK1 => ?_)
  refine W.region ?_
  refine Wl.ht rfl (Ht.box (v := Value.agg ([Value.int .u8 0, Value.int .u8 0, Value.int .u16 x.id, Value.int .u32 0, Value.int .u32 x.dst, Value.slice none 0 0, Value.int .u64 x.came]).toArray) (cs := [Value.int .u8 0, Value.int .u8 0, Value.int .u16 x.id, Value.int .u32 0, Value.int .u32 x.dst, Value.slice none 0 0, Value.int .u64 x.came]) rfl rfl (by kernel_rfl) rfl) (fun p3 => ?_)
  refine Wl.run 1 (by kernel_rfl) ?_
  refine Wl.nil ?_
  refine hK1 _ _ _ ?_
  refine W.prune' [1, 2, 3] [Value.pointer (some ⟨pp, 0, none⟩), Value.pointer (some ⟨pn, 0, none⟩), Value.pointer (some ⟨p3, 0, none⟩)] (by kernel_rfl) (fun f2 => ?_)
  refine W.seq (fun K3 hK3 => ?_)
  refine W.region ?_
  refine Wl.run 2 (by kernel_rfl) ?_
  refine Wl.ys (v := Value.int .u32 x.dst) rfl rfl (Ys.load (b := p3) (o' := 4) (i := 0) (j := 0) (cs := [Value.int .u8 0, Value.int .u8 0, Value.int .u16 x.id, Value.int .u32 0, Value.int .u32 x.dst, Value.slice none 0 0, Value.int .u64 x.came]) (v := Value.int .u32 x.dst) rfl (by kernel_rfl) Try.isAgg25 rfl rfl rfl) ?_
  refine Wl.run 1 (by kernel_rfl) ?_
  refine Wl.ys (v := Value.int .u32 d) rfl rfl (Ys.ld (a := ⟨pp, 4, none⟩) rfl (by kernel_rfl) Try.isAgg25 (fun w_ h_ => by have x_ := (hpp.mem0 h_).ld (q := 4) (v := Value.int .u32 d) rfl; rw [ela_own0] at x_; exact x_)) ?_
  refine Wl.run 2 (by kernel_rfl) ?_
  refine Wl.guard (v := Value.pointer (some ⟨p3, 6, none⟩)) (x.dst == d) rfl (wantT rfl (by kernel_rfl)) rfl (fun hg4 => ?_) ?_
  · have qhg4 := hg4; try simp only [Bool.and_eq_true, Bool.or_eq_true, Bool.not_eq_true', Bool.not_eq_false', Bool.and_eq_false_iff, Bool.or_eq_false_iff, decide_eq_true_eq, decide_eq_false_iff_not, beq_iff_eq, bne_iff_ne, beq_eq_false_iff_ne, bne_eq_false_iff_eq] at qhg4
    exact Ys.pure (fun _ => by kernel_rfl)
  refine Wl.guard (v := Value.int .u64 x.came) (x.dst == d) rfl (wantT rfl (by kernel_rfl)) rfl (fun hg5 => ?_) ?_
  · have qhg5 := hg5; try simp only [Bool.and_eq_true, Bool.or_eq_true, Bool.not_eq_true', Bool.not_eq_false', Bool.and_eq_false_iff, Bool.or_eq_false_iff, decide_eq_true_eq, decide_eq_false_iff_not, beq_iff_eq, bne_iff_ne, beq_eq_false_iff_ne, bne_eq_false_iff_eq] at qhg5
    refine Ys.at (t := 12) (v0 := Value.pointer (some ⟨p3, 6, none⟩)) (lz (g := x.dst == d) (u := undef) hg5 (by kernel_rfl)) ?_
    exact Ys.load (b := p3) (o' := 6) (i := 0) (j := 0) (cs := [Value.int .u8 0, Value.int .u8 0, Value.int .u16 x.id, Value.int .u32 0, Value.int .u32 x.dst, Value.slice none 0 0, Value.int .u64 x.came]) (v := Value.int .u64 x.came) rfl (by kernel_rfl) Try.isAgg39 rfl rfl rfl
  refine Wl.guard (v := Value.int .u64 n) (x.dst == d) rfl (wantT rfl (by kernel_rfl)) rfl (fun hg6 => ?_) ?_
  · have qhg6 := hg6; try simp only [Bool.and_eq_true, Bool.or_eq_true, Bool.not_eq_true', Bool.not_eq_false', Bool.and_eq_false_iff, Bool.or_eq_false_iff, decide_eq_true_eq, decide_eq_false_iff_not, beq_iff_eq, bne_iff_ne, beq_eq_false_iff_ne, bne_eq_false_iff_eq] at qhg6
    exact Ys.ld (a := ⟨pn, 0, none⟩) rfl (by kernel_rfl) Try.isAgg39 (fun w_ h_ => by have x_ := (hpn.mem0 h_).ld (q := 0) (v := Value.int .u64 n) rfl; rw [ela_own0] at x_; exact x_)
  refine Wl.guard (v := Value.bool (x.came == n)) (x.dst == d) rfl (wantT rfl (by kernel_rfl)) rfl (fun hg7 => ?_) ?_
  · have qhg7 := hg7; try simp only [Bool.and_eq_true, Bool.or_eq_true, Bool.not_eq_true', Bool.not_eq_false', Bool.and_eq_false_iff, Bool.or_eq_false_iff, decide_eq_true_eq, decide_eq_false_iff_not, beq_iff_eq, bne_iff_ne, beq_eq_false_iff_ne, bne_eq_false_iff_eq] at qhg7
    refine Ys.at (t := 13) (v0 := Value.int .u64 x.came) (lz (g := x.dst == d) (u := undef) hg7 (by kernel_rfl)) ?_
    refine Ys.at (t := 14) (v0 := Value.int .u64 n) (lz (g := x.dst == d) (u := undef) hg7 (by kernel_rfl)) ?_
    exact Ys.pure (fun _ => by kernel_rfl)
  refine Wl.ys (v := Value.bool ((x.dst == d) && (x.came == n))) rfl rfl (Ys.and (e := x.dst == d) (b := x.came == n) rfl (by kernel_rfl) (by kernel_rfl) (by kernel_rfl)) ?_
  refine Wl.run 1 (by kernel_rfl) ?_
  refine Wl.nil ?_
  refine hK3 _ _ _ ?_
  refine W.pick (LL' := []) [] (by decide) rfl ?_
  refine W.prune' [4] [Value.bool ((x.dst == d) && (x.came == n))] (by kernel_rfl) (fun f8 => ?_)
  refine W.ret ?_
  show ∀ w_, _ → bodyPostM (fence none) 0 Try.prog Try.f41 _ Exit.ret _ w_
  exact fun w_ hS_ => fin_ret (ret1 rfl (RV.tmp (v := Value.bool ((x.dst == d) && (x.came == n))) (by kernel_rfl)) hS_ ⟨rfl, hS_.below⟩)

theorem ixHold_c (xs : List Hd) (a : Option Addr) (cap : Nat) (i d n : Int) (pp pn : Nat) (w : World) (hls : At w a (mm hd xs)) (hn : xs.length ≤ 100000) (hpp : At w (some ⟨pp, 0, none⟩) [Value.int .u8 0, Value.int .u8 0, Value.int .u16 i, Value.int .u32 0, Value.int .u32 d, Value.slice none 0 0]) (hpn : At w (some ⟨pn, 0, none⟩) [Value.int .u64 n]) : Calls Try.prog 79 #[Value.slice a xs.length cap, Value.func (.func 41) #[] #[Value.pointer (some ⟨pp, 0, none⟩), Value.pointer (some ⟨pn, 0, none⟩)]] w (Ret w (.int .i64 (fidx (likeH d n) xs))) := by
  refine calls_W (M := []) (LL := []) (n := 19) Try.func79 rfl rfl (by simp) (Mem.refl _) ?_
  refine W.seq (fun K1 hK1 => ?_)
  refine W.region ?_
  refine Wl.run 1 (by kernel_rfl) ?_
  refine Wl.nil ?_
  refine hK1 _ _ _ ?_
  refine W.seq (fun K2 hK2 => ?_)
  refine W.seq (fun K3 hK3 => ?_)
  refine W.region ?_
  refine Wl.run 3 (by kernel_rfl) ?_
  refine Wl.nil ?_
  refine hK3 _ _ _ ?_
  refine W.prune' [0, 1, 7, 8] [Value.slice a xs.length cap, Value.func (.func 41) #[] #[Value.pointer (some ⟨pp, 0, none⟩), Value.pointer (some ⟨pn, 0, none⟩)], Value.int .i64 ((xs.length : Nat) : Int), Value.int .i64 0] (by kernel_rfl) (fun f4 => ?_)
  refine W.block ?_
  refine W.loop1 [0, 1, 7, 8] (fun (k : Nat) => [Value.slice a xs.length cap, Value.func (.func 41) #[] #[Value.pointer (some ⟨pp, 0, none⟩), Value.pointer (some ⟨pn, 0, none⟩)], Value.int .i64 ((xs.length : Nat) : Int), Value.int .i64 ((k : Nat) : Int)]) (fun (k : Nat) => k ≤ xs.length ∧ ∀ j, j < k → likeH d n (xs.getD j hd0) = false) (fun (k : Nat) => []) (fun (k : Nat) => xs.length - k) 0 (by kernel_rfl) ⟨(Nat.zero_le _), (fun j h => absurd h (Nat.not_lt_zero j))⟩ (by rfl) (fun k f6 J5 hp7 hJ5 => ?_)
  obtain ⟨hk, hno⟩ := hp7
  refine W.seq (fun K8 hK8 => ?_)
  refine W.region ?_
  refine Wl.run 1 (by kernel_rfl) ?_
  refine Wl.nil ?_
  refine hK8 _ _ _ ?_
  refine W.seq (fun K9 hK9 => ?_)
  refine W.cond (decide (((k : Nat) : Int) < ((xs.length : Nat) : Int))) (by kernel_rfl) (fun h10 => ?_) (fun h11 => ?_)
  · have qh10 := h10; try simp only [Bool.and_eq_true, Bool.or_eq_true, Bool.not_eq_true', Bool.not_eq_false', Bool.and_eq_false_iff, Bool.or_eq_false_iff, decide_eq_true_eq, decide_eq_false_iff_not, beq_iff_eq, bne_iff_ne, beq_eq_false_iff_ne, bne_eq_false_iff_eq] at qh10
    refine W.skip' ?_
    refine hK9 _ _ _ ?_
    refine W.prune' [0, 1, 7, 8] [Value.slice a xs.length cap, Value.func (.func 41) #[] #[Value.pointer (some ⟨pp, 0, none⟩), Value.pointer (some ⟨pn, 0, none⟩)], Value.int .i64 ((xs.length : Nat) : Int), Value.int .i64 ((k : Nat) : Int)] (by kernel_rfl) (fun f12 => ?_)
    refine W.seq (fun K13 hK13 => ?_)
    refine W.block ?_
    refine W.seq (fun K14 hK14 => ?_)
    refine W.region ?_
    refine Wl.run 2 (by kernel_rfl) ?_
    refine Wl.nil ?_
    refine hK14 _ _ _ ?_
    refine W.prune' [0, 1, 5, 7, 8] [Value.slice a xs.length cap, Value.func (.func 41) #[] #[Value.pointer (some ⟨pp, 0, none⟩), Value.pointer (some ⟨pn, 0, none⟩)], Value.int .i64 ((k : Nat) : Int), Value.int .i64 ((xs.length : Nat) : Int), Value.int .i64 ((k : Nat) : Int)] (by kernel_rfl) (fun f15 => ?_)
    refine W.seq (fun K16 hK16 => ?_)
    refine W.region ?_
    refine Wl.run 3 (by kernel_rfl) ?_
    refine Wl.ys (v := Value.pointer (some (ela a (k * 7)))) rfl rfl (Ys.byMem fun w_ h_ => Ys.indexAddr (k := .i64) (a := a) (len := xs.length) (cap := cap) (i := ((k : Nat) : Int)) (sz := 7) rfl (by kernel_rfl) (by kernel_rfl) Try.runUnderlying94 Try.sizeOf101 (by omega) (by omega) ((hls.mem0 h_).here (by rw [mm_len (g := hd) (sz := 7) (fun _ => rfl)]; first | omega | (simp; omega)))) ?_
    refine Wl.ys (v := Value.agg ([Value.int .u8 0, Value.int .u8 0, Value.int .u16 ((xs.getD k hd0).id), Value.int .u32 0, Value.int .u32 ((xs.getD k hd0).dst), Value.slice none 0 0, Value.int .u64 ((xs.getD k hd0).came)]).toArray) rfl rfl (Ys.ldN (a := ela a (k * 7)) (vs := [Value.int .u8 0, Value.int .u8 0, Value.int .u16 ((xs.getD k hd0).id), Value.int .u32 0, Value.int .u32 ((xs.getD k hd0).dst), Value.slice none 0 0, Value.int .u64 ((xs.getD k hd0).came)]) rfl (by kernel_rfl) Try.isAgg101 Try.sizeOf101 rfl (fun w_ h_ => (hls.mem0 h_).ldN (mm_get (g := hd) (sz := 7) (fun _ => rfl) hd0 (xs := xs) (k := k) (by omega)))) ?_
    refine Wl.yc (v := Value.bool (likeH d n (xs.getD k hd0))) rfl rfl (Yc.call (k := 41) (args := #[Value.agg ([Value.int .u8 0, Value.int .u8 0, Value.int .u16 ((xs.getD k hd0).id), Value.int .u32 0, Value.int .u32 ((xs.getD k hd0).dst), Value.slice none 0 0, Value.int .u64 ((xs.getD k hd0).came)]).toArray, Value.pointer (some ⟨pp, 0, none⟩), Value.pointer (some ⟨pn, 0, none⟩)]) (fun _ => by kernel_rfl) (fun w_ hm_ => (hold1_c (xs.getD k hd0) i d n pp pn _ (hpp.mem0 hm_) (hpn.mem0 hm_)))) ?_
    refine Wl.nil ?_
    refine hK16 _ _ _ ?_
    refine W.prune' [0, 1, 5, 7, 8, 16] [Value.slice a xs.length cap, Value.func (.func 41) #[] #[Value.pointer (some ⟨pp, 0, none⟩), Value.pointer (some ⟨pn, 0, none⟩)], Value.int .i64 ((k : Nat) : Int), Value.int .i64 ((xs.length : Nat) : Int), Value.int .i64 ((k : Nat) : Int), Value.bool (likeH d n (xs.getD k hd0))] (by kernel_rfl) (fun f17 => ?_)
    refine W.cond (likeH d n (xs.getD k hd0)) (by kernel_rfl) (fun h18 => ?_) (fun h19 => ?_)
    · refine W.seq (fun K20 hK20 => ?_)
      refine W.region ?_
      refine Wl.run 2 (by kernel_rfl) ?_
      refine Wl.nil ?_
      refine hK20 _ _ _ ?_
      refine W.prune' [4] [Value.int .i64 ((k : Nat) : Int)] (by kernel_rfl) (fun f21 => ?_)
      refine W.ret ?_
      show ∀ w_, _ → bodyPostM (fence none) 0 Try.prog Try.f79 _ Exit.ret _ w_
      exact fun w_ hS_ => fin_ret (ret1 rfl (RV.tmp (v := Value.int .i64 ((k : Nat) : Int)) (by kernel_rfl)) hS_ ⟨by clear hK1 hK2 hK3 hJ5 hK8 hK9 hK13 hK14 hK16 hK20; refine congrArg Ending.returned ?_; exact int_congr (fidx_hit hd0 (by omega) hno h18).symm, hS_.below⟩)
    · refine W.skip' ?_
      refine hK13 _ _ _ ?_
      refine W.prune' [0, 1, 7, 8] [Value.slice a xs.length cap, Value.func (.func 41) #[] #[Value.pointer (some ⟨pp, 0, none⟩), Value.pointer (some ⟨pn, 0, none⟩)], Value.int .i64 ((xs.length : Nat) : Int), Value.int .i64 ((k : Nat) : Int)] (by kernel_rfl) (fun f22 => ?_)
      refine W.region ?_
      refine Wl.ys (v := Value.int .i64 ((k + 1 : Nat) : Int)) rfl rfl ((Ys.pure (v := .int .i64 (iadd .i64 ((k : Nat) : Int) 1)) (fun _ => by kernel_rfl)).conseq (int_congr (iadd_eq (by omega) (by omega) (by omega)))) ?_
      refine Wl.run 1 (by kernel_rfl) ?_
      refine Wl.nil ?_
      refine fun w_ h_ => hJ5 (k + 1) _ w_ (by omega) ⟨(by omega), (fun j hj => by rcases Nat.lt_succ_iff_lt_or_eq.1 hj with h | rfl; exact hno j h; exact h19)⟩ ?_ h_
      kernel_rfl
  · have qh11 := h11; try simp only [Bool.and_eq_true, Bool.or_eq_true, Bool.not_eq_true', Bool.not_eq_false', Bool.and_eq_false_iff, Bool.or_eq_false_iff, decide_eq_true_eq, decide_eq_false_iff_not, beq_iff_eq, bne_iff_ne, beq_eq_false_iff_ne, bne_eq_false_iff_eq] at qh11
    refine W.exit ?_
    refine hK2 _ _ _ ?_
    refine W.prune' [] [] (by kernel_rfl) (fun f23 => ?_)
    refine W.seq (fun K24 hK24 => ?_)
    refine W.region ?_
    refine Wl.run 1 (by kernel_rfl) ?_
    refine Wl.nil ?_
    refine hK24 _ _ _ ?_
    refine W.ret ?_
    show ∀ w_, _ → bodyPostM (fence none) 0 Try.prog Try.f79 _ Exit.ret _ w_
    exact fun w_ hS_ => fin_ret (ret1 rfl (RV.tmp (v := Value.int .i64 (-1)) (by kernel_rfl)) hS_ ⟨by clear hK1 hK2 hK3 hJ5 hK8 hK9 hK24; refine congrArg Ending.returned ?_; exact int_congr (fidx_no hd0 (fun j hj => hno j (by omega))).symm, hS_.below⟩)

theorem ctHold_c (xs : List Hd) (a : Option Addr) (cap : Nat) (i d n : Int) (pp pn : Nat) (w : World) (hls : At w a (mm hd xs)) (hn : xs.length ≤ 100000) (hpp : At w (some ⟨pp, 0, none⟩) [Value.int .u8 0, Value.int .u8 0, Value.int .u16 i, Value.int .u32 0, Value.int .u32 d, Value.slice none 0 0]) (hpn : At w (some ⟨pn, 0, none⟩) [Value.int .u64 n]) : Calls Try.prog 40 #[Value.slice a xs.length cap, Value.func (.func 41) #[] #[Value.pointer (some ⟨pp, 0, none⟩), Value.pointer (some ⟨pn, 0, none⟩)]] w (Ret w (.bool (xs.any (likeH d n)))) := by
  refine calls_W (M := []) (LL := []) (n := 9) Try.func40 rfl rfl (by simp) (Mem.refl _) ?_
  refine W.seq (fun K1 hK1 => ?_)
  refine W.region ?_
  refine Wl.run 1 (by kernel_rfl) ?_
  refine Wl.nil ?_
  refine hK1 _ _ _ ?_
  refine W.seq (fun K2 hK2 => ?_)
  refine W.region ?_
  refine Wl.run 2 (by kernel_rfl) ?_
  refine Wl.yc (v := Value.int .i64 (fidx (likeH d n) xs)) rfl rfl (Yc.call (k := 79) (args := #[Value.slice a xs.length cap, Value.func (.func 41) #[] #[Value.pointer (some ⟨pp, 0, none⟩), Value.pointer (some ⟨pn, 0, none⟩)]]) (fun _ => by kernel_rfl) (fun w_ hm_ => (ixHold_c xs a cap i d n pp pn _ (hls.mem0 hm_) (by first | omega | (simp; done)) (hpp.mem0 hm_) (hpn.mem0 hm_)))) ?_
  refine Wl.run 2 (by kernel_rfl) ?_
  refine Wl.nil ?_
  refine hK2 _ _ _ ?_
  refine W.prune' [4] [Value.bool (decide ((fidx (likeH d n) xs) ≥ 0))] (by kernel_rfl) (fun f3 => ?_)
  refine W.ret ?_
  show ∀ w_, _ → bodyPostM (fence none) 0 Try.prog Try.f40 _ Exit.ret _ w_
  exact fun w_ hS_ => fin_ret (ret1 rfl (RV.tmp (v := Value.bool (decide ((fidx (likeH d n) xs) ≥ 0))) (by kernel_rfl)) hS_ ⟨by clear hK1 hK2; refine congrArg Ending.returned ?_; exact bool_congr (fidx_any _ _), hS_.below⟩)

theorem clone0_c  (w : World) : Calls Try.prog 42 #[Value.slice none 0 0] w (Ret w (.slice none 0 0)) := by
  refine calls_W (M := []) (LL := []) (n := 8) Try.func42 rfl rfl (by simp) (Mem.refl _) ?_
  refine W.seq (fun K1 hK1 => ?_)
  refine W.region ?_
  refine Wl.run 1 (by kernel_rfl) ?_
  refine Wl.nil ?_
  refine hK1 _ _ _ ?_
  refine W.seq (fun K2 hK2 => ?_)
  refine W.seq (fun K3 hK3 => ?_)
  refine W.region ?_
  refine Wl.run 2 (by kernel_rfl) ?_
  refine Wl.nil ?_
  refine hK3 _ _ _ ?_
  refine W.prune' [0, 4] [Value.slice none 0 0, Value.bool true] (by kernel_rfl) (fun f4 => ?_)
  refine W.condT (by kernel_rfl) ?_
  refine W.seq (fun K5 hK5 => ?_)
  refine W.region ?_
  refine Wl.run 1 (by kernel_rfl) ?_
  refine Wl.nil ?_
  refine hK5 _ _ _ ?_
  refine W.ret ?_
  show ∀ w_, _ → bodyPostM (fence none) 0 Try.prog Try.f42 _ Exit.ret _ w_
  exact fun w_ hS_ => fin_ret (ret1 rfl (RV.tmp (v := Value.slice none 0 0) (by kernel_rfl)) hS_ ⟨rfl, hS_.below⟩)

theorem hold_c (hs : List Hd) (h : FS) (i d n : Int) (tb c : Nat) (M : List Nat) (w : World) (hl : Mem w M [h.seg 101 (mm hd hs), [cb c [Value.pointer (some ⟨tb, 0, none⟩), Value.slice h.a hs.length h.cap] 96]] w) (okh : h.ok 7 hs.length) (hn : hs.length < 16) : Calls Try.prog 15 #[Value.pointer (some ⟨c, 0, none⟩), Value.agg ([Value.int .u8 0, Value.int .u8 0, Value.int .u16 i, Value.int .u32 0, Value.int .u32 d, Value.slice none 0 0]).toArray, Value.int .u64 n] w (RetM w (fun g' : FS => g'.ok 7 (hs ++ [(⟨i, d, n⟩ : Hd)]).length) (fun _ => .bool (!(hs.any (likeH d n)))) M (fun g' => [g'.seg 101 (mm hd (hs ++ [(⟨i, d, n⟩ : Hd)])), [cb c [.pointer (some ⟨tb, 0, none⟩), .slice g'.a (hs ++ [(⟨i, d, n⟩ : Hd)]).length g'.cap] 96]])) := by
  refine calls_W (M := M) (LL := [h.seg 101 (mm hd hs), [cb c [Value.pointer (some ⟨tb, 0, none⟩), Value.slice h.a hs.length h.cap] 96]]) (n := 38) Try.func15 rfl rfl (by simp) (hl) ?_
  refine W.seq (fun K1 hK1 => ?_)
  refine W.region ?_
  refine Wl.ht rfl (Ht.box (v := Value.agg ([Value.int .u8 0, Value.int .u8 0, Value.int .u16 i, Value.int .u32 0, Value.int .u32 d, Value.slice none 0 0]).toArray) (cs := [Value.int .u8 0, Value.int .u8 0, Value.int .u16 i, Value.int .u32 0, Value.int .u32 d, Value.slice none 0 0]) rfl rfl (by kernel_rfl) rfl) (fun p4 => ?_)
  refine Wl.ht rfl (Ht.box (v := Value.int .u64 n) (cs := [Value.int .u64 n]) rfl rfl (by kernel_rfl) rfl) (fun p5 => ?_)
  refine Wl.run 1 (by kernel_rfl) ?_
  refine Wl.nil ?_
  refine hK1 _ _ _ ?_
  refine W.prune' [0, 4, 5] [Value.pointer (some ⟨c, 0, none⟩), Value.pointer (some ⟨p4, 0, none⟩), Value.pointer (some ⟨p5, 0, none⟩)] (by kernel_rfl) (fun f2 => ?_)
  refine W.seq (fun K3 hK3 => ?_)
  refine W.region ?_
  refine Wl.run 3 (by kernel_rfl) ?_
  refine Wl.ys (v := Value.slice h.a hs.length h.cap) rfl rfl (Ys.load (b := c) (o' := 1) (i := 3) (j := 0) (cs := [Value.pointer (some ⟨tb, 0, none⟩), Value.slice h.a hs.length h.cap]) (v := Value.slice h.a hs.length h.cap) rfl (by kernel_rfl) Try.isAgg94 rfl rfl rfl) ?_
  refine Wl.run 1 (by kernel_rfl) ?_
  refine Wl.yc (v := Value.bool (hs.any (likeH d n))) rfl rfl (Yc.call (k := 40) (args := #[Value.slice h.a hs.length h.cap, Value.func (.func 41) #[] #[Value.pointer (some ⟨p4, 0, none⟩), Value.pointer (some ⟨p5, 0, none⟩)]]) (fun _ => by kernel_rfl) (fun w_ hm_ => (ctHold_c hs h.a h.cap i d n p4 p5 _ (FS.at (i := 2) (t := 101) hm_ rfl (FS.nil_cs okh (hd_zlen _))) (by first | omega | (simp; done)) (At.lit0 (i := 1) (j := 0) (t := 47) (b := p4) hm_ rfl rfl) (At.lit0 (i := 0) (j := 0) (t := 39) (b := p5) hm_ rfl rfl)))) ?_
  refine Wl.run 1 (by kernel_rfl) ?_
  refine Wl.nil ?_
  refine hK3 _ _ _ ?_
  refine W.prune' [0, 4, 5, 7] [Value.pointer (some ⟨c, 0, none⟩), Value.pointer (some ⟨p4, 0, none⟩), Value.pointer (some ⟨p5, 0, none⟩), Value.bool (hs.any (likeH d n))] (by kernel_rfl) (fun f4 => ?_)
  refine W.seq (fun K5 hK5 => ?_)
  refine W.seq (fun K6 hK6 => ?_)
  refine W.region ?_
  refine Wl.run 3 (by kernel_rfl) ?_
  refine Wl.ys (v := Value.slice h.a hs.length h.cap) rfl rfl (Ys.load (b := c) (o' := 1) (i := 3) (j := 0) (cs := [Value.pointer (some ⟨tb, 0, none⟩), Value.slice h.a hs.length h.cap]) (v := Value.slice h.a hs.length h.cap) rfl (by kernel_rfl) Try.isAgg94 rfl rfl rfl) ?_
  refine Wl.run 2 (by kernel_rfl) ?_
  refine Wl.nil ?_
  refine hK6 _ _ _ ?_
  refine W.prune' [0, 4, 5, 7, 19] [Value.pointer (some ⟨c, 0, none⟩), Value.pointer (some ⟨p4, 0, none⟩), Value.pointer (some ⟨p5, 0, none⟩), Value.bool (hs.any (likeH d n)), Value.bool (decide (((hs.length : Nat) : Int) < 16))] (by kernel_rfl) (fun f7 => ?_)
  refine W.cond (decide (((hs.length : Nat) : Int) < 16)) (by kernel_rfl) (fun h8 => ?_) (fun h9 => ?_)
  · have qh8 := h8; try simp only [Bool.and_eq_true, Bool.or_eq_true, Bool.not_eq_true', Bool.not_eq_false', Bool.and_eq_false_iff, Bool.or_eq_false_iff, decide_eq_true_eq, decide_eq_false_iff_not, beq_iff_eq, bne_iff_ne, beq_eq_false_iff_ne, bne_eq_false_iff_eq] at qh8
    refine W.seq (fun K10 hK10 => ?_)
    refine W.region ?_
    refine Wl.run 1 (by kernel_rfl) ?_
    refine Wl.ys (v := Value.slice none 0 0) rfl rfl (Ys.load (b := p4) (o' := 5) (i := 1) (j := 0) (cs := [Value.int .u8 0, Value.int .u8 0, Value.int .u16 i, Value.int .u32 0, Value.int .u32 d, Value.slice none 0 0]) (v := Value.slice none 0 0) rfl (by kernel_rfl) Try.isAgg45 rfl rfl rfl) ?_
    refine Wl.yc (v := Value.slice none 0 0) rfl rfl (Yc.call (k := 42) (args := #[Value.slice none 0 0]) (fun _ => by kernel_rfl) (fun w_ hm_ => (clone0_c _))) ?_
    refine Wl.run 1 (by kernel_rfl) ?_
    refine Wl.ht rfl (Ht.store (b := p4) (o' := 5) (i := 1) (j := 0) (cs := [Value.int .u8 0, Value.int .u8 0, Value.int .u16 i, Value.int .u32 0, Value.int .u32 d, Value.slice none 0 0]) (cs' := [Value.int .u8 0, Value.int .u8 0, Value.int .u16 i, Value.int .u32 0, Value.int .u32 d, Value.slice none 0 0]) (v := Value.slice none 0 0) (LL' := [[cb p5 [Value.int .u64 n] 39], [cb p4 [Value.int .u8 0, Value.int .u8 0, Value.int .u16 i, Value.int .u32 0, Value.int .u32 d, Value.slice none 0 0] 47], h.seg 101 (mm hd hs), [cb c [Value.pointer (some ⟨tb, 0, none⟩), Value.slice h.a hs.length h.cap] 96]]) rfl rfl (by kernel_rfl) (by kernel_rfl) Try.sizeOf45 rfl rfl rfl (by simp) rfl rfl) (fun _ => ?_)
    refine Wl.nil ?_
    refine hK10 _ _ _ ?_
    refine W.prune' [0, 4, 5, 7] [Value.pointer (some ⟨c, 0, none⟩), Value.pointer (some ⟨p4, 0, none⟩), Value.pointer (some ⟨p5, 0, none⟩), Value.bool (hs.any (likeH d n))] (by kernel_rfl) (fun f11 => ?_)
    refine W.draws [(0, true), (1, true), (2, true), (3, true), (4, true), (5, true), (6, false), (7, false), (8, false), (9, false), (10, false), (11, false), (12, false)] [0, 1, 2, 3, 4, 5] (Mem w M [[cb p5 [Value.int .u64 n] 39], [cb p4 [Value.int .u8 0, Value.int .u8 0, Value.int .u16 i, Value.int .u32 0, Value.int .u32 d, Value.slice none 0 0] 47], [cb c [Value.pointer (some ⟨tb, 0, none⟩), Value.slice h.a hs.length h.cap] 96]]) (by kernel_rfl) (by kernel_rfl) (by kernel_rfl) rfl (by kernel_rfl) (fun _ _ h_ => h_.drawn _) (fun _ h_ => h_.pick [0, 1, 3] (by decide) rfl) ?_
    refine Wd.run 4 (by kernel_rfl) ?_
    refine Wd.ys (v := Value.slice h.a hs.length h.cap) rfl rfl rfl (Ys.load (b := c) (o' := 1) (i := 2) (j := 0) (cs := [Value.pointer (some ⟨tb, 0, none⟩), Value.slice h.a hs.length h.cap]) (v := Value.slice h.a hs.length h.cap) rfl (by kernel_rfl) Try.isAgg94 rfl rfl rfl) ?_
    refine Wd.ys (v := Value.agg ([Value.int .u8 0, Value.int .u8 0, Value.int .u16 i, Value.int .u32 0, Value.int .u32 d, Value.slice none 0 0]).toArray) rfl rfl rfl (Ys.loadN (b := p4) (o' := 0) (i := 1) (j := 0) (cs := [Value.int .u8 0, Value.int .u8 0, Value.int .u16 i, Value.int .u32 0, Value.int .u32 d, Value.slice none 0 0]) (vs := [Value.int .u8 0, Value.int .u8 0, Value.int .u16 i, Value.int .u32 0, Value.int .u32 d, Value.slice none 0 0]) rfl (by kernel_rfl) Try.isAgg47 Try.sizeOf47 rfl rfl rfl rfl) ?_
    refine Wd.yc (v := Value.int .u64 n) rfl rfl rfl (Ys.yc (Ys.load (b := p5) (o' := 0) (i := 0) (j := 0) (cs := [Value.int .u64 n]) (v := Value.int .u64 n) rfl (by kernel_rfl) Try.isAgg39 rfl rfl rfl)) (.inr fun _ h_ => h_.pick [0, 1, 3] (by decide) rfl) ?_
    refine Wd.yc (v := Value.agg ([Value.int .u8 0, Value.int .u8 0, Value.int .u16 i, Value.int .u32 0, Value.int .u32 d, Value.slice none 0 0, Value.int .u64 n]).toArray) rfl rfl rfl (Ys.yc (Ys.pure (fun _ => by kernel_rfl))) (.inr fun _ h_ => h_.pick [0, 1, 3] (by decide) rfl) ?_
    refine Wd.ht rfl rfl (Ht.made (mk := fun b_ => .slice (some ⟨b_, 0, none⟩) 1 1) (t := 101) (cs := [Value.int .u8 0, Value.int .u8 0, Value.int .u16 i, Value.int .u32 0, Value.int .u32 d, Value.slice none 0 0, Value.int .u64 n]) rfl (fun _ => by kernel_rfl)) (.inr fun _ _ h_ => h_.pick [1, 2, 4] (by decide) rfl) (fun p32 => ?_)
    refine Wd.htS rfl rfl (HtS.append (eu := 101) (xv := Value.slice (some ⟨p32, 0, none⟩) 1 1) (i := 3) (g := h) (e := 101) (ii := (Try.prog.info? 101).getD default) (z := Value.agg ([Value.int .u8 0, Value.int .u8 0, Value.int .u16 0, Value.int .u32 0, Value.int .u32 0, Value.slice none 0 0, Value.int .u64 0]).toArray) (sz := 7) (bytes := 48) (nn := hs.length) (m := 1) (k := (hs ++ [(⟨i, d, n⟩ : Hd)]).length) (xs := mm hd hs) (news := mm hd [(⟨i, d, n⟩ : Hd)]) (cs' := mm hd (hs ++ [(⟨i, d, n⟩ : Hd)])) (Lo := fun g12 => [[cb p32 [Value.int .u8 0, Value.int .u8 0, Value.int .u16 i, Value.int .u32 0, Value.int .u32 d, Value.slice none 0 0, Value.int .u64 n] 101], [cb p5 [Value.int .u64 n] 39], [cb p4 [Value.int .u8 0, Value.int .u8 0, Value.int .u16 i, Value.int .u32 0, Value.int .u32 d, Value.slice none 0 0] 47], g12.seg 101 (mm hd (hs ++ [(⟨i, d, n⟩ : Hd)])), [cb c [Value.pointer (some ⟨tb, 0, none⟩), Value.slice h.a hs.length h.cap] 96]]) rfl rfl (by kernel_rfl) (by kernel_rfl) (by kernel_rfl) (by kernel_rfl) (by kernel_rfl) (by kernel_rfl) (by kernel_rfl) (by kernel_rfl) (by kernel_rfl) rfl okh (hd_zlen _) (fun _ => rfl) (Src.at (a := some ⟨p32, 0, none⟩) (by first | rfl | (rw [mm_len (g := hd) (sz := 7) (fun _ => rfl)]; done) | (rw [mm_len (g := hd) (sz := 7) (fun _ => rfl)]; simp)) (fun w_ h_ => (At.lit0 (i := 0) (j := 0) (t := 101) (b := p32) h_ rfl rfl))) (by first | rfl | (rw [mm_len (g := hd) (sz := 7) (fun _ => rfl)]; done) | (rw [mm_len (g := hd) (sz := 7) (fun _ => rfl)]; simp)) (mm_one hd_one _) (by first | omega | (simp; done) | (simp; omega)) (by simp only [maxLen]; first | omega | (simp; done) | (simp; omega)) (by first | omega | (simp; done) | (simp; omega)) (mm_app _ _).symm (fun _ => rfl)) (.inr fun _ _ h_ => h_.pick [1, 2, 4] (by decide) rfl) (fun g12 hx17 => ?_)
    obtain ⟨ok13, hn14, hn15⟩ := hx17
    refine Wd.yc (v := Value.pointer (some ⟨c, 0, none⟩)) rfl rfl rfl (Ys.yc (Ys.pure (fun _ => by kernel_rfl))) (.inl (by kernel_rfl)) ?_
    refine Wd.yc (v := Value.pointer (some ⟨c, 1, none⟩)) rfl rfl rfl (Ys.yc (Ys.pure (fun _ => by kernel_rfl))) (.inl (by kernel_rfl)) ?_
    refine Wd.ht rfl rfl (Ht.store (b := c) (o' := 1) (i := 4) (j := 0) (cs := [Value.pointer (some ⟨tb, 0, none⟩), Value.slice h.a hs.length h.cap]) (cs' := [Value.pointer (some ⟨tb, 0, none⟩), Value.slice g12.a ((hs ++ [(⟨i, d, n⟩ : Hd)]).length) g12.cap]) (v := Value.slice g12.a ((hs ++ [(⟨i, d, n⟩ : Hd)]).length) g12.cap) (LL' := [[cb p32 [Value.int .u8 0, Value.int .u8 0, Value.int .u16 i, Value.int .u32 0, Value.int .u32 d, Value.slice none 0 0, Value.int .u64 n] 101], [cb p5 [Value.int .u64 n] 39], [cb p4 [Value.int .u8 0, Value.int .u8 0, Value.int .u16 i, Value.int .u32 0, Value.int .u32 d, Value.slice none 0 0] 47], g12.seg 101 (mm hd (hs ++ [(⟨i, d, n⟩ : Hd)])), [cb c [Value.pointer (some ⟨tb, 0, none⟩), Value.slice g12.a ((hs ++ [(⟨i, d, n⟩ : Hd)]).length) g12.cap] 96]]) rfl rfl (by kernel_rfl) (by kernel_rfl) Try.sizeOf94 rfl rfl rfl (by simp) rfl rfl) (.inl (by kernel_rfl)) (fun _ => ?_)
    refine Wd.nil ?_
    refine hK5 _ _ _ ?_
    refine W.pick (LL' := [g12.seg 101 (mm hd (hs ++ [(⟨i, d, n⟩ : Hd)])), [cb c [Value.pointer (some ⟨tb, 0, none⟩), Value.slice g12.a ((hs ++ [(⟨i, d, n⟩ : Hd)]).length) g12.cap] 96]]) [3, 4] (by decide) rfl ?_
    refine W.prune' [7] [Value.bool (hs.any (likeH d n))] (by kernel_rfl) (fun f18 => ?_)
    refine W.seq (fun K19 hK19 => ?_)
    refine W.region ?_
    refine Wl.run 3 (by kernel_rfl) ?_
    refine Wl.nil ?_
    refine hK19 _ _ _ ?_
    refine W.prune' [6] [Value.bool (!(hs.any (likeH d n)))] (by kernel_rfl) (fun f20 => ?_)
    refine W.ret ?_
    show ∀ w_, _ → bodyPostM (fence none) 0 Try.prog Try.f15 _ Exit.ret _ w_
    exact fun w_ hS_ => fin_ret (ret1 rfl (RV.tmp (v := Value.bool (!(hs.any (likeH d n)))) (by kernel_rfl)) hS_ ⟨g12, ok13, rfl, (hS_.pick [0, 1] (by decide) rfl)⟩)
  · have qh9 := h9; try simp only [Bool.and_eq_true, Bool.or_eq_true, Bool.not_eq_true', Bool.not_eq_false', Bool.and_eq_false_iff, Bool.or_eq_false_iff, decide_eq_true_eq, decide_eq_false_iff_not, beq_iff_eq, bne_iff_ne, beq_eq_false_iff_ne, bne_eq_false_iff_eq] at qh9
    (exfalso; omega)

end Go.Proofs.Ytjkhmbigoloeiaa.Oct
