/-
  OctetNums. No condition.
-/
import Derived.Test.YtegeijaicjackaaOct9
set_option linter.unusedVariables false
set_option linter.unusedSimpArgs false
set_option maxRecDepth 20000
namespace Go.Proofs.Ytegeijaicjackaa.Oct
open Go.RowKit Base
attribute [local irreducible] Ys Yc Ht HtIn Wl Wd W Mem pf dpf

/-- Numbers of k bytes as bytes. -/
def bk (k : Nat) (ns : List Nat) : List UInt8 := (ns.map (be k)).flatten
theorem bk_step {m : Nat} {ns : List Nat} {k : Nat} (h : k < ns.length) : bk m (ns.take (k + 1)) = bk m (ns.take k) ++ be m (ns.getD k 0) := by
  unfold bk; rw [List.take_add_one, List.map_append, List.flatten_append]; simp [h]
theorem bk_len (m : Nat) : ∀ ns : List Nat, (bk m ns).length = m * ns.length
  | [] => by simp [bk]
  | n :: ns => by
    have := bk_len m ns
    unfold bk at this ⊢
    rw [List.map_cons, List.flatten_cons, List.length_append, be_len, this, List.length_cons, Nat.mul_succ]; omega
theorem bk_drop {m : Nat} {ns : List Nat} {k : Nat} (h : k < ns.length) : bk m (ns.drop k) = be m (ns.getD k 0) ++ bk m (ns.drop (k + 1)) := by
  have e : ns.drop k = ns[k] :: ns.drop (k + 1) := List.drop_eq_getElem_cons h
  rw [e]
  unfold bk
  rw [List.map_cons, List.flatten_cons, List.getD_eq_getElem?_getD, List.getElem?_eq_getElem h]
  rfl
theorem bv_be : ∀ (k n : Nat), bv (be k n) = n % 256 ^ k
  | 0, n => by rw [be, Nat.pow_zero, Nat.mod_one]; rfl
  | k + 1, n => by
    have h1 : n % 256 ^ (k + 1) = n % 256 + 256 * (n / 256 % 256 ^ k) := by rw [Nat.pow_succ, Nat.mul_comm (256 ^ k) 256, Nat.mod_mul]
    rw [be, bv_snoc, bv_be k, UInt8.toNat_ofNat', h1]
    show _ + n % 256 = _
    omega
theorem eOut_be {k n : Nat} {ys : List UInt8} : eOut (be k n ++ ys) ((k : Nat) : Int) = be k n := by
  rw [eOut_t (by rw [asked_nat, List.length_append, be_len]; omega), asked_nat]
  exact List.take_left' (be_len k n)
theorem eRest_be {k n : Nat} {ys : List UInt8} : eRest (be k n ++ ys) ((k : Nat) : Int) = ys := by
  rw [eRest_t (by rw [asked_nat, List.length_append, be_len]; omega), asked_nat]
  exact List.drop_left' (be_len k n)
theorem eBad_be {k n : Nat} {ys : List UInt8} {b : Bool} : eBad (be k n ++ ys) b ((k : Nat) : Int) = b := eBad_t (by rw [asked_nat, List.length_append, be_len]; omega)
theorem mask_eq {n k : Nat} (hk : k < 8) (hn : n < 18446744073709551616) : band .u64 ((n : Nat) : Int) (isub .u64 (ishl .u64 1 ((8 * k : Nat) : Int)) 1) = ((n % 256 ^ k : Nat) : Int) := by
  have h1 : ishl .u64 1 ((8 * k : Nat) : Int) = ((2 ^ (8 * k) : Nat) : Int) := by
    have := ishl_mod (k := .u64) rfl 1 (8 * k) (by show 8 * k ≤ 64; omega)
    rw [Nat.one_mul, Nat.mod_eq_of_lt (by exact Nat.pow_lt_pow_right (by decide) (by show 8 * k < 64; omega))] at this
    exact this
  have h2 : isub .u64 ((2 ^ (8 * k) : Nat) : Int) 1 = ((2 ^ (8 * k) - 1 : Nat) : Int) := by
    have hp := Nat.two_pow_pos (8 * k)
    exact isub_natu (k := .u64) (a := 2 ^ (8 * k)) (b := 1) rfl (by omega) (by exact Nat.pow_lt_pow_right (by decide) (by show 8 * k < 64; omega))
  rw [h1, h2, band_mask (k := .u64) rfl (c := 8 * k) hn (by show 8 * k ≤ 64; omega) _ rfl]
  congr 2
  rw [show (256 : Nat) = 2 ^ 8 by rfl, ← Nat.pow_mul]
theorem mod_big {n : Nat} (hn : n < 18446744073709551616) : n % 256 ^ 8 = n := Nat.mod_eq_of_lt (by simpa using hn)
theorem nums_c (size : Int) (ns : List Nat) (na : Option Addr) (ncap : Nat) (w : World) (hns : At w na (mc n64 ns)) (hnl : ns.length ≤ 9223372036854775807) (hnb : ∀ x ∈ ns, x < 18446744073709551616) : Calls Try.prog 12 #[Value.int .i64 size, Value.slice na ns.length ncap] w (Ret w (.bool true)) := by
  have hs8 := size8_le size
  refine calls_W (M := []) (LL := []) (n := 75) Try.func12 rfl rfl (by simp) (Mem.refl _) ?_
  refine W.seq (fun K1 hK1 => ?_)
  refine W.region ?_
  refine Wl.run 1 (by kernel_rfl) ?_
  refine Wl.nil ?_
  refine hK1 _ _ _ ?_
  refine W.seq (fun K2 hK2 => ?_)
  refine W.seq (fun K3 hK3 => ?_)
  refine W.region ?_
  refine Wl.yc (v := Value.bool true) rfl rfl (Yc.call (k := 13) (args := #[]) (fun _ => by kernel_rfl) (fun w_ hm_ => speaks_c _)) ?_
  refine Wl.run 1 (by kernel_rfl) ?_
  refine Wl.nil ?_
  refine hK3 _ _ _ ?_
  refine W.prune' [0, 1, 14] [Value.int .i64 size, Value.slice na ns.length ncap, Value.bool false] (by kernel_rfl) (fun f4 => ?_)
  refine W.condF (by kernel_rfl) ?_
  refine W.skip' ?_
  refine hK2 _ _ _ ?_
  refine W.prune' [0, 1] [Value.int .i64 size, Value.slice na ns.length ncap] (by kernel_rfl) (fun f5 => ?_)
  refine W.seq (fun K6 hK6 => ?_)
  refine W.seq (fun K7 hK7 => ?_)
  refine W.region ?_
  refine Wl.run 3 (by kernel_rfl) ?_
  refine Wl.nil ?_
  refine hK7 _ _ _ ?_
  refine W.prune' [0, 1, 17] [Value.int .i64 size, Value.slice na ns.length ncap, Value.bool (decide (((ns.length : Nat) : Int) > 1000))] (by kernel_rfl) (fun f8 => ?_)
  refine W.cond (decide (((ns.length : Nat) : Int) > 1000)) (by kernel_rfl) (fun h9 => ?_) (fun h10 => ?_)
  · have qh9 := h9; try simp only [Bool.and_eq_true, Bool.or_eq_true, Bool.not_eq_true', Bool.not_eq_false', Bool.and_eq_false_iff, Bool.or_eq_false_iff, decide_eq_true_eq, decide_eq_false_iff_not, beq_iff_eq, bne_iff_ne, beq_eq_false_iff_ne, bne_eq_false_iff_eq] at qh9
    refine W.seq (fun K11 hK11 => ?_)
    refine W.region ?_
    refine Wl.run 1 (by kernel_rfl) ?_
    refine Wl.nil ?_
    refine hK11 _ _ _ ?_
    refine W.ret ?_
    show ∀ w_, _ → bodyPostM (fence none) 0 Try.prog Try.f12 _ Exit.ret _ w_
    exact fun w_ hS_ => fin_ret (ret1 rfl (RV.tmp (v := Value.bool true) (by kernel_rfl)) hS_ ⟨rfl, hS_.below⟩)
  · have qh10 := h10; try simp only [Bool.and_eq_true, Bool.or_eq_true, Bool.not_eq_true', Bool.not_eq_false', Bool.and_eq_false_iff, Bool.or_eq_false_iff, decide_eq_true_eq, decide_eq_false_iff_not, beq_iff_eq, bne_iff_ne, beq_eq_false_iff_ne, bne_eq_false_iff_eq] at qh10
    refine W.skip' ?_
    refine hK6 _ _ _ ?_
    refine W.prune' [0, 1] [Value.int .i64 size, Value.slice na ns.length ncap] (by kernel_rfl) (fun f12 => ?_)
    refine W.seq (fun K13 hK13 => ?_)
    refine W.region ?_
    refine Wl.ht rfl (Ht.made (mk := fun b_ => .slice (some ⟨b_, 0, none⟩) 0 0) (t := 5) (cs := []) rfl (fun _ => by kernel_rfl)) (fun p18 => ?_)
    refine Wl.run 1 (by kernel_rfl) ?_
    refine Wl.nil ?_
    refine hK13 _ _ _ ?_
    refine W.prune' [0, 1, 5] [Value.int .i64 size, Value.slice na ns.length ncap, Value.slice (some ⟨p18, 0, none⟩) 0 0] (by kernel_rfl) (fun f14 => ?_)
    refine W.seq (fun K15 hK15 => ?_)
    refine W.seq (fun K16 hK16 => ?_)
    refine W.region ?_
    refine Wl.run 3 (by kernel_rfl) ?_
    refine Wl.nil ?_
    refine hK16 _ _ _ ?_
    refine W.prune' [0, 1, 5, 19, 20, 21] [Value.int .i64 size, Value.slice na ns.length ncap, Value.slice (some ⟨p18, 0, none⟩) 0 0, Value.slice na ns.length ncap, Value.int .i64 ((ns.length : Nat) : Int), Value.int .i64 0] (by kernel_rfl) (fun f17 => ?_)
    refine W.block ?_
    refine W.loop2 [0, 1, 5, 19, 20, 21] (fun (k : Nat) (g : FS) => [Value.int .i64 size, Value.slice na ns.length ncap, Value.slice g.a ((bk (size8 size) (ns.take k)).length) g.cap, Value.slice na ns.length ncap, Value.int .i64 ((ns.length : Nat) : Int), Value.int .i64 ((k : Nat) : Int)]) (fun (k : Nat) (g : FS) => k ≤ ns.length ∧ g.ok 1 (bk (size8 size) (ns.take k)).length) (fun (k : Nat) (g : FS) => [g.seg 5 (mc b8 (bk (size8 size) (ns.take k)))]) (fun (k : Nat) (g : FS) => ns.length - k) 0 ⟨false, p18, 0, []⟩ (by kernel_rfl) ⟨(Nat.zero_le _), (FS.lit_ok (by decide))⟩ (by rfl) (fun k g f19 J18 hp20 hJ18 => ?_)
    obtain ⟨hk, ok⟩ := hp20
    have hbl := bk_len (size8 size) (ns.take k); rw [List.length_take] at hbl; have hbm := Nat.mul_le_mul hs8 (Nat.min_le_right k ns.length)
    refine W.seq (fun K21 hK21 => ?_)
    refine W.region ?_
    refine Wl.run 1 (by kernel_rfl) ?_
    refine Wl.nil ?_
    refine hK21 _ _ _ ?_
    refine W.seq (fun K22 hK22 => ?_)
    refine W.cond (decide (((k : Nat) : Int) < ((ns.length : Nat) : Int))) (by kernel_rfl) (fun h23 => ?_) (fun h24 => ?_)
    · have qh23 := h23; try simp only [Bool.and_eq_true, Bool.or_eq_true, Bool.not_eq_true', Bool.not_eq_false', Bool.and_eq_false_iff, Bool.or_eq_false_iff, decide_eq_true_eq, decide_eq_false_iff_not, beq_iff_eq, bne_iff_ne, beq_eq_false_iff_ne, bne_eq_false_iff_eq] at qh23
      refine W.skip' ?_
      refine hK22 _ _ _ ?_
      refine W.prune' [0, 1, 5, 19, 20, 21] [Value.int .i64 size, Value.slice na ns.length ncap, Value.slice g.a ((bk (size8 size) (ns.take k)).length) g.cap, Value.slice na ns.length ncap, Value.int .i64 ((ns.length : Nat) : Int), Value.int .i64 ((k : Nat) : Int)] (by kernel_rfl) (fun f25 => ?_)
      refine W.seq (fun K26 hK26 => ?_)
      refine W.block ?_
      refine W.seq (fun K27 hK27 => ?_)
      refine W.region ?_
      refine Wl.ys (v := Value.pointer (some (ela na (k * 1)))) rfl rfl (Ys.byMem fun w_ h_ => Ys.indexAddr (k := .i64) (a := na) (len := ns.length) (cap := ncap) (i := ((k : Nat) : Int)) (sz := 1) rfl (by kernel_rfl) (by kernel_rfl) Try.runUnderlying58 Try.sizeOf35 (by omega) (by omega) ((hns.mem0 h_).here (by rw [mc_len]; first | omega | (simp; omega)))) ?_
      refine Wl.ys (v := Value.int .u64 ((ns.getD k 0 : Nat) : Int)) rfl rfl (Ys.ld (a := ela na (k * 1)) rfl (by kernel_rfl) Try.isAgg35 (fun w_ h_ => (hns.mem0 h_).ld (mc_get1 0 (by first | omega | (simp; omega))))) ?_
      have hb28 := getD_mem (p := fun x => x < 18446744073709551616) hnb (d := 0) (k := k) (by omega)
      refine Wl.run 1 (by kernel_rfl) ?_
      refine Wl.nil ?_
      refine hK27 _ _ _ ?_
      refine W.prune' [0, 1, 5, 7, 19, 20, 21] [Value.int .i64 size, Value.slice na ns.length ncap, Value.slice g.a ((bk (size8 size) (ns.take k)).length) g.cap, Value.int .u64 ((ns.getD k 0 : Nat) : Int), Value.slice na ns.length ncap, Value.int .i64 ((ns.length : Nat) : Int), Value.int .i64 ((k : Nat) : Int)] (by kernel_rfl) (fun f29 => ?_)
      refine W.seq (fun K30 hK30 => ?_)
      refine W.region ?_
      refine Wl.run 2 (by kernel_rfl) ?_
      refine Wl.ht rfl (Ht.call (β := FS) (k := 24) (args := #[Value.int .i64 size, Value.int .u64 ((ns.getD k 0 : Nat) : Int)]) (Lin := []) (Lk := [g.seg 5 (mc b8 (bk (size8 size) (ns.take k)))]) (Mi := []) (Lo := fun g31 => [g31.seg 5 (mc b8 (be (size8 size) (ns.getD k 0))), g.seg 5 (mc b8 (bk (size8 size) (ns.take k)))]) [] [0] rfl (fun _ => by kernel_rfl) (by decide) rfl rfl rfl (fun w_ hm_ hl_ => num_c size (ns.getD k 0) (by omega) _) (fun _ => rfl)) (fun x34 => ?_)
      obtain ⟨g31, ok32, nn33⟩ := x34
      refine Wl.castL (LL' := [g31.seg 5 (mc b8 (be (size8 size) (ns.getD k 0))), g.seg 5 (mc b8 (bk (size8 size) (ns.take k)))]) rfl ?_
      refine Wl.run 1 (by kernel_rfl) ?_
      refine Wl.nil ?_
      refine hK30 _ _ _ ?_
      refine W.prune' [0, 1, 5, 7, 8, 19, 20, 21] [Value.int .i64 size, Value.slice na ns.length ncap, Value.slice g.a ((bk (size8 size) (ns.take k)).length) g.cap, Value.int .u64 ((ns.getD k 0 : Nat) : Int), Value.slice g31.a (size8 size) g31.cap, Value.slice na ns.length ncap, Value.int .i64 ((ns.length : Nat) : Int), Value.int .i64 ((k : Nat) : Int)] (by kernel_rfl) (fun f35 => ?_)
      refine W.seq (fun K36 hK36 => ?_)
      refine W.seq (fun K37 hK37 => ?_)
      refine W.draws [(0, true), (1, true), (2, true), (3, false), (4, false), (5, false), (6, false)] [0, 1, 2] (Mem w [] [g31.seg 5 (mc b8 (be (size8 size) (ns.getD k 0))), g.seg 5 (mc b8 (bk (size8 size) (ns.take k)))]) (by kernel_rfl) (by kernel_rfl) (by kernel_rfl) rfl (by kernel_rfl) (fun _ _ h_ => h_.drawn _) (fun _ h_ => h_) ?_
      refine Wd.run 1 (by kernel_rfl) ?_
      refine Wd.ys (v := Value.string (bstr (be (size8 size) (ns.getD k 0)))) rfl rfl rfl (Ys.bytesStr (a := g31.a) (len := size8 size) (cap := g31.cap) (xs := be (size8 size) (ns.getD k 0)) (e := 5) rfl (by kernel_rfl) (by kernel_rfl) (by kernel_rfl) (by kernel_rfl) ((by first | rfl | (simp [be_len]; done) | (simp [be_len]; omega))) (fun w_ h_ => (FS.at (i := 0) (t := 5) h_ rfl (FS.nil_cs ok32 (by rw [mc_len, be_len, Nat.mul_one]))))) ?_
      refine Wd.run 1 (by kernel_rfl) ?_
      refine Wd.yc (v := Value.int .u64 ((ns.getD k 0 : Nat) : Int)) rfl rfl rfl (Ys.yc (Ys.pure (fun _ => by kernel_rfl))) (.inr fun _ h_ => h_) ?_
      refine Wd.ht rfl rfl (Ht.call (β := FS) (k := 29) (args := #[Value.int .i64 size, Value.int .u64 ((ns.getD k 0 : Nat) : Int)]) (Lin := []) (Lk := [g31.seg 5 (mc b8 (be (size8 size) (ns.getD k 0))), g.seg 5 (mc b8 (bk (size8 size) (ns.take k)))]) (Mi := []) (Lo := fun g38 => [g38.seg 5 (mc b8 (be (size8 size) (ns.getD k 0))), g31.seg 5 (mc b8 (be (size8 size) (ns.getD k 0))), g.seg 5 (mc b8 (bk (size8 size) (ns.take k)))]) [] [0, 1] rfl (fun _ => by kernel_rfl) (by decide) rfl rfl rfl (fun w_ hm_ hl_ => rnum_c size (ns.getD k 0) (by omega) _) (fun _ => rfl)) (.inr fun _ _ h_ => h_.pick [1, 2] (by decide) rfl) (fun x41 => ?_)
      obtain ⟨g38, ok39, nn40⟩ := x41
      refine Wd.castL (LL' := [g38.seg 5 (mc b8 (be (size8 size) (ns.getD k 0))), g31.seg 5 (mc b8 (be (size8 size) (ns.getD k 0))), g.seg 5 (mc b8 (bk (size8 size) (ns.take k)))]) rfl ?_
      refine Wd.yc (v := Value.string (bstr (be (size8 size) (ns.getD k 0)))) rfl rfl rfl (Ys.yc (Ys.bytesStr (a := g38.a) (len := size8 size) (cap := g38.cap) (xs := be (size8 size) (ns.getD k 0)) (e := 5) rfl (by kernel_rfl) (by kernel_rfl) (by kernel_rfl) (by kernel_rfl) ((by first | rfl | (simp [be_len]; done) | (simp [be_len]; omega))) (fun w_ h_ => (FS.at (i := 0) (t := 5) h_ rfl (FS.nil_cs ok39 (by rw [mc_len, be_len, Nat.mul_one])))))) (.inr fun _ h_ => h_.pick [1, 2] (by decide) rfl) ?_
      refine Wd.yc (v := Value.bool (!((be (size8 size) (ns.getD k 0)) == (be (size8 size) (ns.getD k 0))))) rfl rfl rfl (Ys.yc ((Ys.pure (v := .bool (!((bstr (be (size8 size) (ns.getD k 0))).toList == (bstr (be (size8 size) (ns.getD k 0))).toList))) (fun _ => by kernel_rfl)).conseq (bool_congr ((congrArg (! ·) (bstr_eq _ _)))))) (.inr fun _ h_ => h_.pick [1, 2] (by decide) rfl) ?_
      refine Wd.nil ?_
      refine hK37 _ _ _ ?_
      refine W.pick (LL' := [g31.seg 5 (mc b8 (be (size8 size) (ns.getD k 0))), g.seg 5 (mc b8 (bk (size8 size) (ns.take k)))]) [1, 2] (by decide) rfl ?_
      refine W.prune' [0, 1, 5, 8, 19, 20, 21, 34] [Value.int .i64 size, Value.slice na ns.length ncap, Value.slice g.a ((bk (size8 size) (ns.take k)).length) g.cap, Value.slice g31.a (size8 size) g31.cap, Value.slice na ns.length ncap, Value.int .i64 ((ns.length : Nat) : Int), Value.int .i64 ((k : Nat) : Int), Value.bool (!((be (size8 size) (ns.getD k 0)) == (be (size8 size) (ns.getD k 0))))] (by kernel_rfl) (fun f42 => ?_)
      refine W.cond (!((be (size8 size) (ns.getD k 0)) == (be (size8 size) (ns.getD k 0)))) (by kernel_rfl) (fun h43 => ?_) (fun h44 => ?_)
      · have qh43 := h43; try simp only [Bool.and_eq_true, Bool.or_eq_true, Bool.not_eq_true', Bool.not_eq_false', Bool.and_eq_false_iff, Bool.or_eq_false_iff, decide_eq_true_eq, decide_eq_false_iff_not, beq_iff_eq, bne_iff_ne, beq_eq_false_iff_ne, bne_eq_false_iff_eq] at qh43
        exact absurd h43 (by simp)
      · have qh44 := h44; try simp only [Bool.and_eq_true, Bool.or_eq_true, Bool.not_eq_true', Bool.not_eq_false', Bool.and_eq_false_iff, Bool.or_eq_false_iff, decide_eq_true_eq, decide_eq_false_iff_not, beq_iff_eq, bne_iff_ne, beq_eq_false_iff_ne, bne_eq_false_iff_eq] at qh44
        refine W.skip' ?_
        refine hK36 _ _ _ ?_
        refine W.prune' [0, 1, 5, 8, 19, 20, 21] [Value.int .i64 size, Value.slice na ns.length ncap, Value.slice g.a ((bk (size8 size) (ns.take k)).length) g.cap, Value.slice g31.a (size8 size) g31.cap, Value.slice na ns.length ncap, Value.int .i64 ((ns.length : Nat) : Int), Value.int .i64 ((k : Nat) : Int)] (by kernel_rfl) (fun f45 => ?_)
        refine W.region ?_
        refine Wl.run 2 (by kernel_rfl) ?_
        refine Wl.ht rfl (Ht.made (mk := fun b_ => .slice (some ⟨b_, 0, none⟩) 2 2) (t := 22) (cs := [Value.slice g.a ((bk (size8 size) (ns.take k)).length) g.cap, Value.slice g31.a (size8 size) g31.cap]) rfl (fun _ => by kernel_rfl)) (fun p37 => ?_)
        refine Wl.ht rfl (Ht.call (β := FS) (k := 23) (args := #[Value.slice (some ⟨p37, 0, none⟩) 2 2]) (Lin := []) (Lk := [[cb p37 [Value.slice g.a ((bk (size8 size) (ns.take k)).length) g.cap, Value.slice g31.a (size8 size) g31.cap] 22], g31.seg 5 (mc b8 (be (size8 size) (ns.getD k 0))), g.seg 5 (mc b8 (bk (size8 size) (ns.take k)))]) (Mi := []) (Lo := fun g46 => [g46.seg 5 (mc b8 ((bk (size8 size) (ns.take k)) ++ (be (size8 size) (ns.getD k 0)))), [cb p37 [Value.slice g.a ((bk (size8 size) (ns.take k)).length) g.cap, Value.slice g31.a (size8 size) g31.cap] 22], g31.seg 5 (mc b8 (be (size8 size) (ns.getD k 0))), g.seg 5 (mc b8 (bk (size8 size) (ns.take k)))]) [] [0, 1, 2] rfl (fun _ => by kernel_rfl) (by decide) rfl rfl rfl (fun w_ hm_ hl_ => (ojoinn_c [⟨g.a, (bk (size8 size) (ns.take k)), g.cap⟩, ⟨g31.a, (be (size8 size) (ns.getD k 0)), g31.cap⟩] ((bk (size8 size) (ns.take k)) ++ (be (size8 size) (ns.getD k 0))) (some ⟨p37, 0, none⟩) 2 2 (((bk (size8 size) (ns.take k)).length) + (size8 size)) _ rfl (by simp [jn]) (by simp [be_len]; try omega) (by first | exact At.lit0 (i := 0) (j := 0) (t := 22) (b := p37) hm_ rfl rfl | (rw [show mc slv ([⟨g.a, (bk (size8 size) (ns.take k)), g.cap⟩, ⟨g31.a, (be (size8 size) (ns.getD k 0)), g31.cap⟩] : List SV) = [Value.slice g.a ((bk (size8 size) (ns.take k)).length) g.cap, Value.slice g31.a (size8 size) g31.cap] by (simp [mc, be_len]; try omega)]; exact At.lit0 (i := 0) (j := 0) (t := 22) (b := p37) hm_ rfl rfl)) (List.forall_mem_cons.2 ⟨(FS.at (i := 2) (t := 5) hm_ rfl (FS.nil_cs ok (mc_len1 _))), (List.forall_mem_cons.2 ⟨(FS.at (i := 1) (t := 5) hm_ rfl (FS.nil_cs ok32 (by rw [mc_len, be_len, Nat.mul_one]))), (fun _ h => by cases h)⟩)⟩) (by first | omega | (simp [be_len]; omega)) (by simp) (by simp))) (fun _ => rfl)) (fun x49 => ?_)
        obtain ⟨g46, ok47, nn48⟩ := x49
        refine Wl.castL (LL' := [g46.seg 5 (mc b8 ((bk (size8 size) (ns.take k)) ++ (be (size8 size) (ns.getD k 0)))), [cb p37 [Value.slice g.a ((bk (size8 size) (ns.take k)).length) g.cap, Value.slice g31.a (size8 size) g31.cap] 22], g31.seg 5 (mc b8 (be (size8 size) (ns.getD k 0))), g.seg 5 (mc b8 (bk (size8 size) (ns.take k)))]) rfl ?_
        refine Wl.run 1 (by kernel_rfl) ?_
        refine Wl.nil ?_
        refine hK26 _ _ _ ?_
        refine W.pick (LL' := [g46.seg 5 (mc b8 ((bk (size8 size) (ns.take k)) ++ (be (size8 size) (ns.getD k 0))))]) [0] (by decide) rfl ?_
        refine W.prune' [0, 1, 5, 19, 20, 21] [Value.int .i64 size, Value.slice na ns.length ncap, Value.slice g46.a (((bk (size8 size) (ns.take k)).length) + (size8 size)) g46.cap, Value.slice na ns.length ncap, Value.int .i64 ((ns.length : Nat) : Int), Value.int .i64 ((k : Nat) : Int)] (by kernel_rfl) (fun f50 => ?_)
        refine W.region ?_
        refine Wl.ys (v := Value.int .i64 ((k + 1 : Nat) : Int)) rfl rfl ((Ys.pure (v := .int .i64 (iadd .i64 ((k : Nat) : Int) 1)) (fun _ => by kernel_rfl)).conseq (int_congr (iadd_eq (by omega) (by omega) (by omega)))) ?_
        refine Wl.run 1 (by kernel_rfl) ?_
        refine Wl.nil ?_
        refine fun w_ h_ => hJ18 (k + 1) g46 _ w_ (by omega) ⟨(by omega), (by rw [bk_step (by omega), List.length_append, be_len]; exact ok47)⟩ ?_ (Mem.cast (LL := [g46.seg 5 (mc b8 ((bk (size8 size) (ns.take k)) ++ (be (size8 size) (ns.getD k 0))))]) (by rw [bk_step (by omega)]) h_)
        refine Eq.trans (b := ([Value.int .i64 size, Value.slice na ns.length ncap, Value.slice g46.a (((bk (size8 size) (ns.take k)).length) + (size8 size)) g46.cap, Value.slice na ns.length ncap, Value.int .i64 ((ns.length : Nat) : Int), Value.int .i64 ((k + 1 : Nat) : Int)] : List Value)) (by kernel_rfl) (by rw [bk_step (by omega), List.length_append, be_len])
    · have qh24 := h24; try simp only [Bool.and_eq_true, Bool.or_eq_true, Bool.not_eq_true', Bool.not_eq_false', Bool.and_eq_false_iff, Bool.or_eq_false_iff, decide_eq_true_eq, decide_eq_false_iff_not, beq_iff_eq, bne_iff_ne, beq_eq_false_iff_ne, bne_eq_false_iff_eq] at qh24
      refine W.exit ?_
      refine hK15 _ _ _ ?_
      refine W.prune' [0, 1, 5] [Value.int .i64 size, Value.slice na ns.length ncap, Value.slice g.a ((bk (size8 size) (ns.take k)).length) g.cap] (by kernel_rfl) (fun f51 => ?_)
      refine W.seq (fun K52 hK52 => ?_)
      have hte : ns.take k = ns := List.take_of_length_le (by omega)
      refine W.region ?_
      refine Wl.run 1 (by kernel_rfl) ?_
      refine Wl.ht rfl (Ht.call (β := NE) (k := 16) (args := #[Value.slice g.a ((bk (size8 size) (ns.take k)).length) g.cap]) (Lin := []) (Lk := [g.seg 5 (mc b8 (bk (size8 size) (ns.take k)))]) (Mi := []) (Lo := fun ne53 => [[cb ne53.b [Value.slice ne53.g.a ((bk (size8 size) (ns.take k)).length) ne53.g.cap, Value.bool false] 66], ne53.g.seg 5 (mc b8 (bk (size8 size) (ns.take k))), g.seg 5 (mc b8 (bk (size8 size) (ns.take k)))]) [] [0] rfl (fun _ => by kernel_rfl) (by decide) rfl rfl rfl (fun w_ hm_ hl_ => (neweyen_c (bk (size8 size) (ns.take k)) g.a ((bk (size8 size) (ns.take k)).length) g.cap _ rfl (FS.at (i := 0) (t := 5) hm_ rfl (FS.nil_cs ok (mc_len1 _))) (by first | omega | (simp; omega)))) (fun _ => rfl)) (fun x56 => ?_)
      obtain ⟨ne53, ok54⟩ := x56
      refine Wl.castL (LL' := [[cb ne53.b [Value.slice ne53.g.a ((bk (size8 size) (ns.take k)).length) ne53.g.cap, Value.bool false] 66], ne53.g.seg 5 (mc b8 (bk (size8 size) (ns.take k))), g.seg 5 (mc b8 (bk (size8 size) (ns.take k)))]) rfl ?_
      refine Wl.run 1 (by kernel_rfl) ?_
      refine Wl.nil ?_
      refine hK52 _ _ _ ?_
      refine W.pick (LL' := [[cb ne53.b [Value.slice ne53.g.a ((bk (size8 size) (ns.take k)).length) ne53.g.cap, Value.bool false] 66], ne53.g.seg 5 (mc b8 (bk (size8 size) (ns.take k)))]) [0, 1] (by decide) rfl ?_
      refine W.prune' [0, 1, 9] [Value.int .i64 size, Value.slice na ns.length ncap, Value.pointer (some ⟨ne53.b, 0, none⟩)] (by kernel_rfl) (fun f57 => ?_)
      refine W.seq (fun K58 hK58 => ?_)
      refine W.seq (fun K59 hK59 => ?_)
      refine W.region ?_
      refine Wl.run 2 (by kernel_rfl) ?_
      refine Wl.nil ?_
      refine hK59 _ _ _ ?_
      refine W.prune' [0, 1, 9, 43] [Value.int .i64 size, Value.slice na ns.length ncap, Value.pointer (some ⟨ne53.b, 0, none⟩), Value.bool false] (by kernel_rfl) (fun f60 => ?_)
      refine W.condF (by kernel_rfl) ?_
      refine W.skip' ?_
      refine hK58 _ _ _ ?_
      refine W.prune' [0, 1, 9] [Value.int .i64 size, Value.slice na ns.length ncap, Value.pointer (some ⟨ne53.b, 0, none⟩)] (by kernel_rfl) (fun f61 => ?_)
      refine W.seq (fun K62 hK62 => ?_)
      refine W.seq (fun K63 hK63 => ?_)
      refine W.region ?_
      refine Wl.run 3 (by kernel_rfl) ?_
      refine Wl.nil ?_
      refine hK63 _ _ _ ?_
      refine W.prune' [0, 9, 44, 45, 46] [Value.int .i64 size, Value.pointer (some ⟨ne53.b, 0, none⟩), Value.slice na ns.length ncap, Value.int .i64 ((ns.length : Nat) : Int), Value.int .i64 0] (by kernel_rfl) (fun f64 => ?_)
      refine W.block ?_
      refine W.loop3 [0, 9, 44, 45, 46] (fun (q : Nat) (va : Option Addr) (vc : Nat) => [Value.int .i64 size, Value.pointer (some ⟨ne53.b, 0, none⟩), Value.slice na ns.length ncap, Value.int .i64 ((ns.length : Nat) : Int), Value.int .i64 ((q : Nat) : Int)]) (fun (q : Nat) (va : Option Addr) (vc : Nat) => q ≤ ns.length ∧ View va (bk (size8 size) (ns.drop q)) ne53.g.a ((bk (size8 size) (ns.take k))) ∧ (bk (size8 size) (ns.drop q)).length ≤ vc) (fun (q : Nat) (va : Option Addr) (vc : Nat) => [[cb ne53.b [Value.slice va ((bk (size8 size) (ns.drop q)).length) vc, Value.bool false] 66], ne53.g.seg 5 (mc b8 (bk (size8 size) (ns.take k)))]) (fun (q : Nat) (va : Option Addr) (vc : Nat) => ns.length - q) 0 ne53.g.a ne53.g.cap (by kernel_rfl) ⟨(Nat.zero_le _), (by rw [hte, List.drop_zero]; exact View.refl _ _), (by have := ok54.le; rw [hte] at this; simpa using this)⟩ (by rw [hte, List.drop_zero]) (fun q va vc f66 J65 hp67 hJ65 => ?_)
      obtain ⟨hq, hv, hc⟩ := hp67
      have hbl2 := bk_len (size8 size) (ns.drop q); rw [List.length_drop] at hbl2; have hbm2 := Nat.mul_le_mul hs8 (Nat.sub_le ns.length q)
      refine W.seq (fun K68 hK68 => ?_)
      refine W.region ?_
      refine Wl.run 1 (by kernel_rfl) ?_
      refine Wl.nil ?_
      refine hK68 _ _ _ ?_
      refine W.seq (fun K69 hK69 => ?_)
      refine W.cond (decide (((q : Nat) : Int) < ((ns.length : Nat) : Int))) (by kernel_rfl) (fun h70 => ?_) (fun h71 => ?_)
      · have qh70 := h70; try simp only [Bool.and_eq_true, Bool.or_eq_true, Bool.not_eq_true', Bool.not_eq_false', Bool.and_eq_false_iff, Bool.or_eq_false_iff, decide_eq_true_eq, decide_eq_false_iff_not, beq_iff_eq, bne_iff_ne, beq_eq_false_iff_ne, bne_eq_false_iff_eq] at qh70
        refine W.skip' ?_
        refine hK69 _ _ _ ?_
        refine W.prune' [0, 9, 44, 45, 46] [Value.int .i64 size, Value.pointer (some ⟨ne53.b, 0, none⟩), Value.slice na ns.length ncap, Value.int .i64 ((ns.length : Nat) : Int), Value.int .i64 ((q : Nat) : Int)] (by kernel_rfl) (fun f72 => ?_)
        refine W.seq (fun K73 hK73 => ?_)
        refine W.block ?_
        refine W.seq (fun K74 hK74 => ?_)
        refine W.region ?_
        refine Wl.ys (v := Value.pointer (some (ela na (q * 1)))) rfl rfl (Ys.byMem fun w_ h_ => Ys.indexAddr (k := .i64) (a := na) (len := ns.length) (cap := ncap) (i := ((q : Nat) : Int)) (sz := 1) rfl (by kernel_rfl) (by kernel_rfl) Try.runUnderlying58 Try.sizeOf35 (by omega) (by omega) ((hns.mem0 h_).here (by rw [mc_len]; first | omega | (simp; omega)))) ?_
        refine Wl.ys (v := Value.int .u64 ((ns.getD q 0 : Nat) : Int)) rfl rfl (Ys.ld (a := ela na (q * 1)) rfl (by kernel_rfl) Try.isAgg35 (fun w_ h_ => (hns.mem0 h_).ld (mc_get1 0 (by first | omega | (simp; omega))))) ?_
        have hb75 := getD_mem (p := fun x => x < 18446744073709551616) hnb (d := 0) (k := q) (by omega)
        refine Wl.run 1 (by kernel_rfl) ?_
        refine Wl.nil ?_
        refine hK74 _ _ _ ?_
        refine W.prune' [0, 9, 11, 44, 45, 46] [Value.int .i64 size, Value.pointer (some ⟨ne53.b, 0, none⟩), Value.int .u64 ((ns.getD q 0 : Nat) : Int), Value.slice na ns.length ncap, Value.int .i64 ((ns.length : Nat) : Int), Value.int .i64 ((q : Nat) : Int)] (by kernel_rfl) (fun f76 => ?_)
        refine W.seq (fun K77 hK77 => ?_)
        refine W.region ?_
        refine Wl.run 1 (by kernel_rfl) ?_
        refine Wl.yc (v := Value.int .i64 ((size8 size : Nat) : Int)) rfl rfl (Yc.call (k := 33) (args := #[Value.int .i64 size]) (fun _ => by kernel_rfl) (fun w_ hm_ => rsize_c _ _)) ?_
        refine Wl.run 1 (by kernel_rfl) ?_
        refine Wl.nil ?_
        refine hK77 _ _ _ ?_
        refine W.prune' [0, 9, 11, 12, 44, 45, 46] [Value.int .i64 size, Value.pointer (some ⟨ne53.b, 0, none⟩), Value.int .u64 ((ns.getD q 0 : Nat) : Int), Value.int .i64 ((size8 size : Nat) : Int), Value.slice na ns.length ncap, Value.int .i64 ((ns.length : Nat) : Int), Value.int .i64 ((q : Nat) : Int)] (by kernel_rfl) (fun f78 => ?_)
        refine W.seq (fun K79 hK79 => ?_)
        refine W.meet0 (w0 := w) (M := []) K79 [0, 9, 11, 44, 45, 46] ([Value.int .i64 size, Value.pointer (some ⟨ne53.b, 0, none⟩), Value.int .u64 ((ns.getD q 0 % 256 ^ size8 size : Nat) : Int), Value.slice na ns.length ncap, Value.int .i64 ((ns.length : Nat) : Int), Value.int .i64 ((q : Nat) : Int)]) (True) ([[cb ne53.b [Value.slice va ((bk (size8 size) (ns.drop q)).length) vc, Value.bool false] 66], ne53.g.seg 5 (mc b8 (bk (size8 size) (ns.take k)))]) (fun J80 hJ80 => ?_) (fun  f81 hp82 => ?_)
        · refine W.seq (fun K83 hK83 => ?_)
          refine W.region ?_
          refine Wl.run 2 (by kernel_rfl) ?_
          refine Wl.nil ?_
          refine hK83 _ _ _ ?_
          refine W.prune' [0, 9, 11, 12, 44, 45, 46, 53] [Value.int .i64 size, Value.pointer (some ⟨ne53.b, 0, none⟩), Value.int .u64 ((ns.getD q 0 : Nat) : Int), Value.int .i64 ((size8 size : Nat) : Int), Value.slice na ns.length ncap, Value.int .i64 ((ns.length : Nat) : Int), Value.int .i64 ((q : Nat) : Int), Value.bool (decide (((size8 size : Nat) : Int) < 8))] (by kernel_rfl) (fun f84 => ?_)
          refine W.cond (decide (((size8 size : Nat) : Int) < 8)) (by kernel_rfl) (fun h85 => ?_) (fun h86 => ?_)
          · have qh85 := h85; try simp only [Bool.and_eq_true, Bool.or_eq_true, Bool.not_eq_true', Bool.not_eq_false', Bool.and_eq_false_iff, Bool.or_eq_false_iff, decide_eq_true_eq, decide_eq_false_iff_not, beq_iff_eq, bne_iff_ne, beq_eq_false_iff_ne, bne_eq_false_iff_eq] at qh85
            refine W.region ?_
            refine Wl.run 2 (by kernel_rfl) ?_
            refine Wl.ys (v := Value.int .i64 ((8 * (size8 size) : Nat) : Int)) rfl rfl ((Ys.pure (v := .int .i64 (imul .i64 8 ((size8 size : Nat) : Int))) (fun _ => by kernel_rfl)).conseq (int_congr (imul_eq (by first | omega | rfl | (push_cast; rfl)) (by omega) (by omega)))) ?_
            refine Wl.ys (v := Value.int .u64 ((8 * (size8 size) : Nat) : Int)) rfl rfl ((Ys.pure (v := .int .u64 (icnv .u64 ((8 * (size8 size) : Nat) : Int))) (fun _ => by kernel_rfl)).conseq (int_congr (wrap_u64 (by omega) (by omega)))) ?_
            refine Wl.ys (v := Value.int .u64 (ishl .u64 1 ((8 * (size8 size) : Nat) : Int))) rfl rfl (Ys.shl (k := .u64) (k' := .u64) (a := 1) (b := ((8 * (size8 size) : Nat) : Int)) rfl (by kernel_rfl) (by kernel_rfl) (by omega)) ?_
            refine Wl.run 3 (by kernel_rfl) ?_
            refine Wl.nil ?_
            refine fun w_ h_ => hJ80 _ w_ trivial ?_ h_
            refine Eq.trans (b := ([Value.int .i64 size, Value.pointer (some ⟨ne53.b, 0, none⟩), Value.int .u64 (band .u64 ((ns.getD q 0 : Nat) : Int) (isub .u64 (ishl .u64 1 ((8 * (size8 size) : Nat) : Int)) 1)), Value.slice na ns.length ncap, Value.int .i64 ((ns.length : Nat) : Int), Value.int .i64 ((q : Nat) : Int)] : List Value)) (by kernel_rfl) (by rw [mask_eq (by omega) (by omega)])
          · have qh86 := h86; try simp only [Bool.and_eq_true, Bool.or_eq_true, Bool.not_eq_true', Bool.not_eq_false', Bool.and_eq_false_iff, Bool.or_eq_false_iff, decide_eq_true_eq, decide_eq_false_iff_not, beq_iff_eq, bne_iff_ne, beq_eq_false_iff_ne, bne_eq_false_iff_eq] at qh86
            refine W.skip' ?_
            refine fun w_ h_ => hJ80 _ w_ trivial ?_ h_
            refine Eq.trans (b := ([Value.int .i64 size, Value.pointer (some ⟨ne53.b, 0, none⟩), Value.int .u64 ((ns.getD q 0 : Nat) : Int), Value.slice na ns.length ncap, Value.int .i64 ((ns.length : Nat) : Int), Value.int .i64 ((q : Nat) : Int)] : List Value)) (by kernel_rfl) (by rw [show size8 size = 8 by omega, mod_big (by omega)])
        · refine hK79 _ _ _ ?_
          refine W.seq (fun K87 hK87 => ?_)
          refine W.region ?_
          refine Wl.run 2 (by kernel_rfl) ?_
          refine Wl.ht rfl (Ht.call (β := EV) (k := 17) (args := #[Value.pointer (some ⟨ne53.b, 0, none⟩), Value.int .i64 size]) (Lin := [[cb ne53.b [Value.slice va ((bk (size8 size) (ns.drop q)).length) vc, Value.bool false] 66]]) (Lk := [ne53.g.seg 5 (mc b8 (bk (size8 size) (ns.take k)))]) (Mi := [ne53.b]) (Lo := fun ev88 => [[cb ne53.b [Value.slice ev88.a ((eRest (bk (size8 size) (ns.drop q)) ((size8 size : Nat) : Int)).length) ev88.cap, Value.bool (eBad (bk (size8 size) (ns.drop q)) false ((size8 size : Nat) : Int))] 66], ne53.g.seg 5 (mc b8 (bk (size8 size) (ns.take k)))]) [0] [1] rfl (fun _ => by kernel_rfl) (by decide) rfl rfl rfl (fun w_ hm_ hl_ => (enumn_c (bk (size8 size) (ns.drop q)) va ((bk (size8 size) (ns.drop q)).length) vc false ne53.b size _ rfl hl_ (hv _ (FS.at (i := 1) (t := 5) hm_ rfl (FS.nil_cs ok54 (mc_len1 _)))) (by first | omega | (simp; omega)) (by first | omega | (simp; omega)))) (fun _ => rfl)) (fun x92 => ?_)
          obtain ⟨ev88, hv89, hc90⟩ := x92
          refine Wl.castL (LL' := [[cb ne53.b [Value.slice ev88.a ((eRest (bk (size8 size) (ns.drop q)) ((size8 size : Nat) : Int)).length) ev88.cap, Value.bool (eBad (bk (size8 size) (ns.drop q)) false ((size8 size : Nat) : Int))] 66], ne53.g.seg 5 (mc b8 (bk (size8 size) (ns.take k)))]) rfl ?_
          refine Wl.run 2 (by kernel_rfl) ?_
          refine Wl.nil ?_
          refine hK87 _ _ _ ?_
          refine W.prune' [0, 9, 44, 45, 46, 65] [Value.int .i64 size, Value.pointer (some ⟨ne53.b, 0, none⟩), Value.slice na ns.length ncap, Value.int .i64 ((ns.length : Nat) : Int), Value.int .i64 ((q : Nat) : Int), Value.bool (((bv (eOut (bk (size8 size) (ns.drop q)) ((size8 size : Nat) : Int)) : Nat) : Int) != ((ns.getD q 0 % 256 ^ size8 size : Nat) : Int))] (by kernel_rfl) (fun f93 => ?_)
          refine W.cond (((bv (eOut (bk (size8 size) (ns.drop q)) ((size8 size : Nat) : Int)) : Nat) : Int) != ((ns.getD q 0 % 256 ^ size8 size : Nat) : Int)) (by kernel_rfl) (fun h94 => ?_) (fun h95 => ?_)
          · have qh94 := h94; try simp only [Bool.and_eq_true, Bool.or_eq_true, Bool.not_eq_true', Bool.not_eq_false', Bool.and_eq_false_iff, Bool.or_eq_false_iff, decide_eq_true_eq, decide_eq_false_iff_not, beq_iff_eq, bne_iff_ne, beq_eq_false_iff_ne, bne_eq_false_iff_eq] at qh94
            (exfalso; have hbd := bk_drop (m := size8 size) (k := q) (ns := ns) (by omega); rw [hbd, eOut_be, bv_be] at qh94; exact qh94 rfl)
          · have qh95 := h95; try simp only [Bool.and_eq_true, Bool.or_eq_true, Bool.not_eq_true', Bool.not_eq_false', Bool.and_eq_false_iff, Bool.or_eq_false_iff, decide_eq_true_eq, decide_eq_false_iff_not, beq_iff_eq, bne_iff_ne, beq_eq_false_iff_ne, bne_eq_false_iff_eq] at qh95
            refine W.skip' ?_
            refine hK73 _ _ _ ?_
            refine W.prune' [0, 9, 44, 45, 46] [Value.int .i64 size, Value.pointer (some ⟨ne53.b, 0, none⟩), Value.slice na ns.length ncap, Value.int .i64 ((ns.length : Nat) : Int), Value.int .i64 ((q : Nat) : Int)] (by kernel_rfl) (fun f96 => ?_)
            refine W.region ?_
            refine Wl.ys (v := Value.int .i64 ((q + 1 : Nat) : Int)) rfl rfl ((Ys.pure (v := .int .i64 (iadd .i64 ((q : Nat) : Int) 1)) (fun _ => by kernel_rfl)).conseq (int_congr (iadd_eq (by omega) (by omega) (by omega)))) ?_
            refine Wl.run 1 (by kernel_rfl) ?_
            refine Wl.nil ?_
            have hbd := bk_drop (m := size8 size) (k := q) (ns := ns) (by omega)
            refine fun w_ h_ => hJ65 (q + 1) ev88.a ev88.cap _ w_ (by omega) ⟨(by omega), (by have hx := hv89; rw [hbd, eRest_be, ← hbd] at hx; exact hx.trans hv), (by have hx := hc90; rw [hbd, eRest_be] at hx; exact hx)⟩ ?_ (Mem.cast (LL := [[cb ne53.b [Value.slice ev88.a ((eRest (bk (size8 size) (ns.drop q)) ((size8 size : Nat) : Int)).length) ev88.cap, Value.bool (eBad (bk (size8 size) (ns.drop q)) false ((size8 size : Nat) : Int))] 66], ne53.g.seg 5 (mc b8 (bk (size8 size) (ns.take k)))]) (by rw [hbd, eRest_be, eBad_be]) h_)
            kernel_rfl
      · have qh71 := h71; try simp only [Bool.and_eq_true, Bool.or_eq_true, Bool.not_eq_true', Bool.not_eq_false', Bool.and_eq_false_iff, Bool.or_eq_false_iff, decide_eq_true_eq, decide_eq_false_iff_not, beq_iff_eq, bne_iff_ne, beq_eq_false_iff_ne, bne_eq_false_iff_eq] at qh71
        refine W.exit ?_
        refine hK62 _ _ _ ?_
        refine W.prune' [9] [Value.pointer (some ⟨ne53.b, 0, none⟩)] (by kernel_rfl) (fun f97 => ?_)
        refine W.seq (fun K98 hK98 => ?_)
        refine W.region ?_
        refine Wl.run 1 (by kernel_rfl) ?_
        refine Wl.yc (v := Value.int .i64 (((bk (size8 size) (ns.drop q)).length : Nat) : Int)) rfl rfl (Yc.call (k := 21) (args := #[Value.pointer (some ⟨ne53.b, 0, none⟩)]) (fun _ => by kernel_rfl) (fun w_ hm_ => (leftn_c (bk (size8 size) (ns.drop q)) va ((bk (size8 size) (ns.drop q)).length) vc false ne53.b _ rfl (hm_.one (i := 0) rfl) (hv _ (FS.at (i := 1) (t := 5) hm_ rfl (FS.nil_cs ok54 (mc_len1 _))))))) ?_
        refine Wl.run 2 (by kernel_rfl) ?_
        refine Wl.guard (v := Value.pointer (some ⟨ne53.b, 0, none⟩)) ((((bk (size8 size) (ns.drop q)).length : Nat) : Int) == 0) rfl (wantT rfl (by kernel_rfl)) rfl (fun hg99 => ?_) ?_
        · have qhg99 := hg99; try simp only [Bool.and_eq_true, Bool.or_eq_true, Bool.not_eq_true', Bool.not_eq_false', Bool.and_eq_false_iff, Bool.or_eq_false_iff, decide_eq_true_eq, decide_eq_false_iff_not, beq_iff_eq, bne_iff_ne, beq_eq_false_iff_ne, bne_eq_false_iff_eq] at qhg99
          exact Ys.pure (fun _ => by kernel_rfl)
        refine Wl.guardc (v := Value.bool false) ((((bk (size8 size) (ns.drop q)).length : Nat) : Int) == 0) rfl (wantT rfl (by kernel_rfl)) rfl (fun hg100 => ?_) ?_
        · have qhg100 := hg100; try simp only [Bool.and_eq_true, Bool.or_eq_true, Bool.not_eq_true', Bool.not_eq_false', Bool.and_eq_false_iff, Bool.or_eq_false_iff, decide_eq_true_eq, decide_eq_false_iff_not, beq_iff_eq, bne_iff_ne, beq_eq_false_iff_ne, bne_eq_false_iff_eq] at qhg100
          refine Yc.at (t := 71) (v0 := Value.pointer (some ⟨ne53.b, 0, none⟩)) (lz (g := (((bk (size8 size) (ns.drop q)).length : Nat) : Int) == 0) (u := undef) hg100 (by kernel_rfl)) ?_
          exact Yc.call (k := 22) (args := #[Value.pointer (some ⟨ne53.b, 0, none⟩)]) (fun _ => by kernel_rfl) (fun w_ hm_ => (badn_c (bk (size8 size) (ns.drop q)) va ((bk (size8 size) (ns.drop q)).length) vc false ne53.b _ rfl (hm_.one (i := 0) rfl) (hv _ (FS.at (i := 1) (t := 5) hm_ rfl (FS.nil_cs ok54 (mc_len1 _))))))
        refine Wl.guard (v := Value.bool true) ((((bk (size8 size) (ns.drop q)).length : Nat) : Int) == 0) rfl (wantT rfl (by kernel_rfl)) rfl (fun hg101 => ?_) ?_
        · have qhg101 := hg101; try simp only [Bool.and_eq_true, Bool.or_eq_true, Bool.not_eq_true', Bool.not_eq_false', Bool.and_eq_false_iff, Bool.or_eq_false_iff, decide_eq_true_eq, decide_eq_false_iff_not, beq_iff_eq, bne_iff_ne, beq_eq_false_iff_ne, bne_eq_false_iff_eq] at qhg101
          refine Ys.at (t := 72) (v0 := Value.bool false) (lz (g := (((bk (size8 size) (ns.drop q)).length : Nat) : Int) == 0) (u := undef) hg101 (by kernel_rfl)) ?_
          exact Ys.pure (fun _ => by kernel_rfl)
        refine Wl.ys (v := Value.bool (((((bk (size8 size) (ns.drop q)).length : Nat) : Int) == 0) && true)) rfl rfl (Ys.and (e := (((bk (size8 size) (ns.drop q)).length : Nat) : Int) == 0) (b := true) rfl (by kernel_rfl) (by kernel_rfl) (by kernel_rfl)) ?_
        refine Wl.run 1 (by kernel_rfl) ?_
        refine Wl.nil ?_
        refine hK98 _ _ _ ?_
        refine W.pick (LL' := []) [] (by decide) rfl ?_
        refine W.prune' [4] [Value.bool (((((bk (size8 size) (ns.drop q)).length : Nat) : Int) == 0) && true)] (by kernel_rfl) (fun f102 => ?_)
        refine W.ret ?_
        show ∀ w_, _ → bodyPostM (fence none) 0 Try.prog Try.f12 _ Exit.ret _ w_
        exact fun w_ hS_ => fin_ret (ret1 rfl (RV.tmp (v := Value.bool (((((bk (size8 size) (ns.drop q)).length : Nat) : Int) == 0) && true)) (by kernel_rfl)) hS_ ⟨by clear hK1 hK2 hK3 hK6 hK7 hK13 hK15 hK16 hJ18 hK21 hK22 hK52 hK58 hK59 hK62 hK63 hJ65 hK68 hK69 hK98; refine congrArg Ending.returned ?_; exact bool_congr (by have hqn : q = ns.length := (by omega); subst hqn; rw [List.drop_length]; rfl), hS_.below⟩)

end Go.Proofs.Ytegeijaicjackaa.Oct
