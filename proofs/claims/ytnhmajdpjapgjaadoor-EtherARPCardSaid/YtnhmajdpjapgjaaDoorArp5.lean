/-
  The document's ReadARP. No condition.
-/
import Derived.Test.YtnhmajdpjapgjaaDoorArp4
set_option linter.unusedVariables false
set_option linter.unusedSimpArgs false
set_option maxRecDepth 20000
namespace Go.Proofs.YtnhmajdpjapgjaaDoor.Oct
open Go.RowKit Base
attribute [local irreducible] Ys Yc Ht HtIn Wl Wd W Mem pf dpf Wa Wo

theorem mac_step {xs : List UInt8} {k : Nat} (h : k < 6) (hx : 6 ≤ xs.length) : (xs.take k ++ List.replicate (6 - k) (0 : UInt8)).set k (xs.getD k 0) = xs.take (k + 1) ++ List.replicate (6 - (k + 1)) (0 : UInt8) := by
  have hl : (xs.take k).length = k := by simp; omega
  rw [List.set_append_right _ _ (by omega), hl, Nat.sub_self, List.take_add_one, show 6 - k = (6 - (k + 1)) + 1 by omega, List.replicate_succ]
  rw [List.getD_eq_getElem?_getD, List.getElem?_eq_getElem (show k < xs.length by omega)]
  simp only [List.set_cons_zero, Option.toList, Option.getD_some, List.append_assoc, List.singleton_append]
theorem six {xs : List UInt8} (h : 6 ≤ xs.length) : xs.take 6 = [xs.getD 0 0, xs.getD 1 0, xs.getD 2 0, xs.getD 3 0, xs.getD 4 0, xs.getD 5 0] := by
  match xs, h with
  | a :: b :: c :: d :: e :: f :: l, _ => rfl
theorem mac_c (xs : List UInt8) (a : Option Addr) (cap : Nat) (w : World) (hat : At w a (byc xs)) (hx : 6 ≤ xs.length) (hl : xs.length ≤ 9223372036854775807) : Calls Tryd.prog 41 #[Value.slice a xs.length cap] w (Ret w (.agg #[.int .u8 (((xs.getD 0 0).toNat : Nat) : Int), .int .u8 (((xs.getD 1 0).toNat : Nat) : Int), .int .u8 (((xs.getD 2 0).toNat : Nat) : Int), .int .u8 (((xs.getD 3 0).toNat : Nat) : Int), .int .u8 (((xs.getD 4 0).toNat : Nat) : Int), .int .u8 (((xs.getD 5 0).toNat : Nat) : Int)])) := by
  refine calls_W (M := []) (LL := []) (n := 17) Tryd.func41 rfl rfl (by simp) (Mem.refl _) ?_
  refine W.seq (fun K1 hK1 => ?_)
  refine W.region ?_
  refine Wl.ht rfl (Ht.alloc (z := Value.agg ([Value.int .u8 0, Value.int .u8 0, Value.int .u8 0, Value.int .u8 0, Value.int .u8 0, Value.int .u8 0]).toArray) (cs := [Value.int .u8 0, Value.int .u8 0, Value.int .u8 0, Value.int .u8 0, Value.int .u8 0, Value.int .u8 0]) rfl rfl Tryd.zeroValue36 rfl) (fun p2 => ?_)
  refine Wl.nil ?_
  refine hK1 _ _ _ ?_
  refine W.seq (fun K2 hK2 => ?_)
  refine W.region ?_
  refine Wl.run 1 (by kernel_rfl) ?_
  refine Wl.ht rfl (Ht.alloc (z := Value.agg ([Value.int .u8 0, Value.int .u8 0, Value.int .u8 0, Value.int .u8 0, Value.int .u8 0, Value.int .u8 0]).toArray) (cs := [Value.int .u8 0, Value.int .u8 0, Value.int .u8 0, Value.int .u8 0, Value.int .u8 0, Value.int .u8 0]) rfl rfl Tryd.zeroValue36 rfl) (fun p3 => ?_)
  refine Wl.ht rfl (Ht.storeN (b := p3) (o' := 0) (i := 0) (j := 0) (cs := [Value.int .u8 0, Value.int .u8 0, Value.int .u8 0, Value.int .u8 0, Value.int .u8 0, Value.int .u8 0]) (vs := [Value.int .u8 0, Value.int .u8 0, Value.int .u8 0, Value.int .u8 0, Value.int .u8 0, Value.int .u8 0]) (cs' := [Value.int .u8 0, Value.int .u8 0, Value.int .u8 0, Value.int .u8 0, Value.int .u8 0, Value.int .u8 0]) (LL' := [[cb p3 [Value.int .u8 0, Value.int .u8 0, Value.int .u8 0, Value.int .u8 0, Value.int .u8 0, Value.int .u8 0] 36], [cb p2 [Value.int .u8 0, Value.int .u8 0, Value.int .u8 0, Value.int .u8 0, Value.int .u8 0, Value.int .u8 0] 36]]) rfl rfl (by kernel_rfl) (by kernel_rfl) Tryd.sizeOf36 (by simp [Value.oneCell']) rfl rfl (by simp) rfl rfl) (fun _ => ?_)
  refine Wl.nil ?_
  refine hK2 _ _ _ ?_
  refine W.prune' [0, 2, 3] [Value.slice a xs.length cap, Value.pointer (some ⟨p2, 0, none⟩), Value.pointer (some ⟨p3, 0, none⟩)] (by kernel_rfl) (fun f3 => ?_)
  refine W.seq (fun K4 hK4 => ?_)
  refine W.seq (fun K5 hK5 => ?_)
  refine W.region ?_
  refine Wl.run 1 (by kernel_rfl) ?_
  refine Wl.nil ?_
  refine hK5 _ _ _ ?_
  refine W.block ?_
  refine W.loop1 [0, 2, 3, 4] (fun (k : Nat) => [Value.slice a xs.length cap, Value.pointer (some ⟨p2, 0, none⟩), Value.pointer (some ⟨p3, 0, none⟩), Value.int .i64 ((k : Nat) : Int)]) (fun (k : Nat) => k ≤ 6) (fun (k : Nat) => [[cb p3 (mc b8 (xs.take k ++ List.replicate (6 - k) (0 : UInt8))) 36], [cb p2 [Value.int .u8 0, Value.int .u8 0, Value.int .u8 0, Value.int .u8 0, Value.int .u8 0, Value.int .u8 0] 36]]) (fun (k : Nat) => 6 - k) 0 (by kernel_rfl) (by first | omega | trivial | simp) (by rfl) (fun k f7 J6 hp8 hJ6 => ?_)
  have hk := hp8
  refine W.seq (fun K9 hK9 => ?_)
  refine W.seq (fun K10 hK10 => ?_)
  refine W.region ?_
  refine Wl.run 2 (by kernel_rfl) ?_
  refine Wl.nil ?_
  refine hK10 _ _ _ ?_
  refine W.prune' [0, 2, 3, 4, 7] [Value.slice a xs.length cap, Value.pointer (some ⟨p2, 0, none⟩), Value.pointer (some ⟨p3, 0, none⟩), Value.int .i64 ((k : Nat) : Int), Value.bool (decide (((k : Nat) : Int) < 6))] (by kernel_rfl) (fun f11 => ?_)
  refine W.cond (decide (((k : Nat) : Int) < 6)) (by kernel_rfl) (fun h12 => ?_) (fun h13 => ?_)
  · have qh12 := h12; try simp only [Bool.and_eq_true, Bool.or_eq_true, Bool.not_eq_true', Bool.not_eq_false', Bool.and_eq_false_iff, Bool.or_eq_false_iff, decide_eq_true_eq, decide_eq_false_iff_not, beq_iff_eq, bne_iff_ne, beq_eq_false_iff_ne, bne_eq_false_iff_eq] at qh12
    refine W.skip' ?_
    refine hK9 _ _ _ ?_
    refine W.prune' [0, 2, 3, 4] [Value.slice a xs.length cap, Value.pointer (some ⟨p2, 0, none⟩), Value.pointer (some ⟨p3, 0, none⟩), Value.int .i64 ((k : Nat) : Int)] (by kernel_rfl) (fun f14 => ?_)
    refine W.seq (fun K15 hK15 => ?_)
    refine W.block ?_
    refine W.region ?_
    refine Wl.run 3 (by kernel_rfl) ?_
    refine Wl.ys (v := Value.pointer (some (ela a (k * 1)))) rfl rfl (Ys.byMem fun w_ h_ => Ys.indexAddr (k := .i64) (a := a) (len := xs.length) (cap := cap) (i := ((k : Nat) : Int)) (sz := 1) rfl (by kernel_rfl) (by kernel_rfl) Tryd.runUnderlying37 Tryd.sizeOf5 (by omega) (by omega) ((hat.mem0 h_).here (by rw [mc_len]; first | omega | (simp; omega)))) ?_
    refine Wl.ys (v := Value.int .u8 (((xs.getD k 0).toNat : Nat) : Int)) rfl rfl (Ys.ld (a := ela a (k * 1)) rfl (by kernel_rfl) Tryd.isAgg5 (fun w_ h_ => (hat.mem0 h_).ld (mc_get1 0 (by first | omega | (simp; omega))))) ?_
    have hb16 : (xs.getD k 0).toNat < 256 := UInt8.toNat_lt _
    refine Wl.ys (v := Value.pointer (some ⟨p3, k * 1, none⟩)) rfl rfl ((Ys.indexArr (k := .i64) (i := ((k : Nat) : Int)) (sz := 1) rfl (by kernel_rfl) (by kernel_rfl) Tryd.runUnderlying36 Tryd.sizeOf5 (by omega) (by omega)).conseq (by rw [Nat.zero_add]; try rfl)) ?_
    refine Wl.ht rfl (Ht.store (b := p3) (o' := k * 1) (i := 0) (j := 0) (cs := mc b8 (xs.take k ++ List.replicate (6 - k) (0 : UInt8))) (cs' := mc b8 ((xs.take k ++ List.replicate (6 - k) (0 : UInt8)).set k (xs.getD k 0))) (v := Value.int .u8 (((xs.getD k 0).toNat : Nat) : Int)) (LL' := [[cb p3 (mc b8 ((xs.take k ++ List.replicate (6 - k) (0 : UInt8)).set k (xs.getD k 0))) 36], [cb p2 [Value.int .u8 0, Value.int .u8 0, Value.int .u8 0, Value.int .u8 0, Value.int .u8 0, Value.int .u8 0] 36]]) rfl rfl (by kernel_rfl) (by kernel_rfl) Tryd.sizeOf5 rfl rfl rfl (by simp [mc]; omega) (mc_set1 (g := b8) (xs.take k ++ List.replicate (6 - k) (0 : UInt8)) k (xs.getD k 0)) rfl) (fun _ => ?_)
    refine Wl.nil ?_
    refine hK15 _ _ _ ?_
    refine W.prune' [0, 2, 3, 4] [Value.slice a xs.length cap, Value.pointer (some ⟨p2, 0, none⟩), Value.pointer (some ⟨p3, 0, none⟩), Value.int .i64 ((k : Nat) : Int)] (by kernel_rfl) (fun f17 => ?_)
    refine W.region ?_
    refine Wl.run 1 (by kernel_rfl) ?_
    refine Wl.ys (v := Value.int .i64 ((k + 1 : Nat) : Int)) rfl rfl ((Ys.pure (v := .int .i64 (iadd .i64 ((k : Nat) : Int) 1)) (fun _ => by kernel_rfl)).conseq (int_congr (iadd_eq (by omega) (by omega) (by omega)))) ?_
    refine Wl.run 1 (by kernel_rfl) ?_
    refine Wl.nil ?_
    refine fun w_ h_ => hJ6 (k + 1) _ w_ (by omega) (by first | omega | trivial | simp) ?_ (Mem.cast (LL := [[cb p3 (mc b8 ((xs.take k ++ List.replicate (6 - k) (0 : UInt8)).set k (xs.getD k 0))) 36], [cb p2 [Value.int .u8 0, Value.int .u8 0, Value.int .u8 0, Value.int .u8 0, Value.int .u8 0, Value.int .u8 0] 36]]) (by rw [mac_step (by omega) hx]) h_)
    kernel_rfl
  · have qh13 := h13; try simp only [Bool.and_eq_true, Bool.or_eq_true, Bool.not_eq_true', Bool.not_eq_false', Bool.and_eq_false_iff, Bool.or_eq_false_iff, decide_eq_true_eq, decide_eq_false_iff_not, beq_iff_eq, bne_iff_ne, beq_eq_false_iff_ne, bne_eq_false_iff_eq] at qh13
    refine W.exit ?_
    refine hK4 _ _ _ ?_
    refine W.prune' [2, 3] [Value.pointer (some ⟨p2, 0, none⟩), Value.pointer (some ⟨p3, 0, none⟩)] (by kernel_rfl) (fun f18 => ?_)
    refine W.seq (fun K19 hK19 => ?_)
    have hk6 : k = 6 := by omega
    have h6 := six hx
    refine W.pick (LL' := [[cb p3 [Value.int .u8 (((xs.getD 0 0).toNat : Nat) : Int), Value.int .u8 (((xs.getD 1 0).toNat : Nat) : Int), Value.int .u8 (((xs.getD 2 0).toNat : Nat) : Int), Value.int .u8 (((xs.getD 3 0).toNat : Nat) : Int), Value.int .u8 (((xs.getD 4 0).toNat : Nat) : Int), Value.int .u8 (((xs.getD 5 0).toNat : Nat) : Int)] 36], [cb p2 [Value.int .u8 0, Value.int .u8 0, Value.int .u8 0, Value.int .u8 0, Value.int .u8 0, Value.int .u8 0] 36]]) [0, 1] (by decide) (by rw [hk6, h6]; rfl) ?_
    refine W.region ?_
    refine Wl.ys (v := Value.agg ([Value.int .u8 (((xs.getD 0 0).toNat : Nat) : Int), Value.int .u8 (((xs.getD 1 0).toNat : Nat) : Int), Value.int .u8 (((xs.getD 2 0).toNat : Nat) : Int), Value.int .u8 (((xs.getD 3 0).toNat : Nat) : Int), Value.int .u8 (((xs.getD 4 0).toNat : Nat) : Int), Value.int .u8 (((xs.getD 5 0).toNat : Nat) : Int)]).toArray) rfl rfl (Ys.loadN (b := p3) (o' := 0) (i := 0) (j := 0) (cs := [Value.int .u8 (((xs.getD 0 0).toNat : Nat) : Int), Value.int .u8 (((xs.getD 1 0).toNat : Nat) : Int), Value.int .u8 (((xs.getD 2 0).toNat : Nat) : Int), Value.int .u8 (((xs.getD 3 0).toNat : Nat) : Int), Value.int .u8 (((xs.getD 4 0).toNat : Nat) : Int), Value.int .u8 (((xs.getD 5 0).toNat : Nat) : Int)]) (vs := [Value.int .u8 (((xs.getD 0 0).toNat : Nat) : Int), Value.int .u8 (((xs.getD 1 0).toNat : Nat) : Int), Value.int .u8 (((xs.getD 2 0).toNat : Nat) : Int), Value.int .u8 (((xs.getD 3 0).toNat : Nat) : Int), Value.int .u8 (((xs.getD 4 0).toNat : Nat) : Int), Value.int .u8 (((xs.getD 5 0).toNat : Nat) : Int)]) rfl (by kernel_rfl) Tryd.isAgg36 Tryd.sizeOf36 rfl rfl rfl rfl) ?_
    refine Wl.ht rfl (Ht.storeN (b := p2) (o' := 0) (i := 1) (j := 0) (cs := [Value.int .u8 0, Value.int .u8 0, Value.int .u8 0, Value.int .u8 0, Value.int .u8 0, Value.int .u8 0]) (vs := [Value.int .u8 (((xs.getD 0 0).toNat : Nat) : Int), Value.int .u8 (((xs.getD 1 0).toNat : Nat) : Int), Value.int .u8 (((xs.getD 2 0).toNat : Nat) : Int), Value.int .u8 (((xs.getD 3 0).toNat : Nat) : Int), Value.int .u8 (((xs.getD 4 0).toNat : Nat) : Int), Value.int .u8 (((xs.getD 5 0).toNat : Nat) : Int)]) (cs' := [Value.int .u8 (((xs.getD 0 0).toNat : Nat) : Int), Value.int .u8 (((xs.getD 1 0).toNat : Nat) : Int), Value.int .u8 (((xs.getD 2 0).toNat : Nat) : Int), Value.int .u8 (((xs.getD 3 0).toNat : Nat) : Int), Value.int .u8 (((xs.getD 4 0).toNat : Nat) : Int), Value.int .u8 (((xs.getD 5 0).toNat : Nat) : Int)]) (LL' := [[cb p3 [Value.int .u8 (((xs.getD 0 0).toNat : Nat) : Int), Value.int .u8 (((xs.getD 1 0).toNat : Nat) : Int), Value.int .u8 (((xs.getD 2 0).toNat : Nat) : Int), Value.int .u8 (((xs.getD 3 0).toNat : Nat) : Int), Value.int .u8 (((xs.getD 4 0).toNat : Nat) : Int), Value.int .u8 (((xs.getD 5 0).toNat : Nat) : Int)] 36], [cb p2 [Value.int .u8 (((xs.getD 0 0).toNat : Nat) : Int), Value.int .u8 (((xs.getD 1 0).toNat : Nat) : Int), Value.int .u8 (((xs.getD 2 0).toNat : Nat) : Int), Value.int .u8 (((xs.getD 3 0).toNat : Nat) : Int), Value.int .u8 (((xs.getD 4 0).toNat : Nat) : Int), Value.int .u8 (((xs.getD 5 0).toNat : Nat) : Int)] 36]]) rfl rfl (by kernel_rfl) (by kernel_rfl) Tryd.sizeOf36 (by simp [Value.oneCell']) rfl rfl (by simp) rfl rfl) (fun _ => ?_)
    refine Wl.nil ?_
    refine hK19 _ _ _ ?_
    refine W.pick (LL' := [[cb p2 [Value.int .u8 (((xs.getD 0 0).toNat : Nat) : Int), Value.int .u8 (((xs.getD 1 0).toNat : Nat) : Int), Value.int .u8 (((xs.getD 2 0).toNat : Nat) : Int), Value.int .u8 (((xs.getD 3 0).toNat : Nat) : Int), Value.int .u8 (((xs.getD 4 0).toNat : Nat) : Int), Value.int .u8 (((xs.getD 5 0).toNat : Nat) : Int)] 36]]) [1] (by decide) rfl ?_
    refine W.prune' [2] [Value.pointer (some ⟨p2, 0, none⟩)] (by kernel_rfl) (fun f20 => ?_)
    refine W.ret ?_
    show ∀ w_, _ → bodyPostM (fence none) 0 Tryd.prog Tryd.f41 _ Exit.ret _ w_
    exact fun w_ hS_ => fin_ret (ret1 rfl (RV.cellN (b := p2) (o' := 0) (i := 0) (j := 0) (cs := [Value.int .u8 (((xs.getD 0 0).toNat : Nat) : Int), Value.int .u8 (((xs.getD 1 0).toNat : Nat) : Int), Value.int .u8 (((xs.getD 2 0).toNat : Nat) : Int), Value.int .u8 (((xs.getD 3 0).toNat : Nat) : Int), Value.int .u8 (((xs.getD 4 0).toNat : Nat) : Int), Value.int .u8 (((xs.getD 5 0).toNat : Nat) : Int)]) (vs := [Value.int .u8 (((xs.getD 0 0).toNat : Nat) : Int), Value.int .u8 (((xs.getD 1 0).toNat : Nat) : Int), Value.int .u8 (((xs.getD 2 0).toNat : Nat) : Int), Value.int .u8 (((xs.getD 3 0).toNat : Nat) : Int), Value.int .u8 (((xs.getD 4 0).toNat : Nat) : Int), Value.int .u8 (((xs.getD 5 0).toNat : Nat) : Int)]) (by kernel_rfl) Tryd.isAgg36 Tryd.sizeOf36 rfl rfl rfl rfl) hS_ ⟨rfl, hS_.below⟩)

theorem macn_c (xs : List UInt8) (a : Option Addr) (len cap : Nat) (w : World) (hn : len = xs.length) (hat : At w a (byc xs)) (hx : 6 ≤ xs.length) (hl : len ≤ 9223372036854775807) : Calls Tryd.prog 41 #[.slice a len cap] w (Ret w (.agg #[.int .u8 (((xs.getD 0 0).toNat : Nat) : Int), .int .u8 (((xs.getD 1 0).toNat : Nat) : Int), .int .u8 (((xs.getD 2 0).toNat : Nat) : Int), .int .u8 (((xs.getD 3 0).toNat : Nat) : Int), .int .u8 (((xs.getD 4 0).toNat : Nat) : Int), .int .u8 (((xs.getD 5 0).toNat : Nat) : Int)])) := by
  subst hn; exact mac_c xs a cap w hat hx hl

theorem tget {ys : List UInt8} {k i : Nat} (h : i < k) : (ys.take k).getD i 0 = ys.getD i 0 := by
  rw [List.getD_eq_getElem?_getD, List.getD_eq_getElem?_getD, List.getElem?_take, if_pos h]
theorem u8_eq0 (g : UInt8) : g = 0 ↔ g.toNat = 0 := ⟨fun h => by rw [h]; rfl, fun h => UInt8.toNat_inj.1 h⟩
theorem arK_eq {xs : List UInt8} (h : 8 ≤ xs.length) : arK xs = (xs.getD 6 0).toNat * 256 + (xs.getD 7 0).toNat := by
  match xs, h with
  | a :: b :: c :: d :: e :: f :: g :: i :: l, _ =>
    have h1 := UInt8.toNat_lt g; have h2 := UInt8.toNat_lt i
    show bv [g, i] % 65536 = g.toNat * 256 + i.toNat
    simp [bv]; omega
theorem ok7 {xs : List UInt8} (h : 28 ≤ xs.length) : apOK xs = true ↔ (xs.take 7 = [0, 1, 8, 0, 6, 4, 0] ∧ ((xs.getD 7 0).toNat = 1 ∨ (xs.getD 7 0).toNat = 2)) := by
  unfold apOK
  rw [Bool.and_eq_true, beq_iff_eq, decide_eq_true_eq, arK_eq (by omega)]
  match xs, h with
  | a :: b :: c :: d :: e :: f :: g :: i :: l, _ =>
    have h1 := UInt8.toNat_lt g; have h2 := UInt8.toNat_lt i
    show ([a, b, c, d, e, f] = _ ∧ (g.toNat * 256 + i.toNat = 1 ∨ g.toNat * 256 + i.toNat = 2)) ↔ ([a, b, c, d, e, f, g] = _ ∧ (i.toNat = 1 ∨ i.toNat = 2))
    simp only [List.cons.injEq, and_true, u8_eq0 g]
    constructor
    · rintro ⟨⟨h1, h2, h3, h4, h5, h6⟩, h7⟩
      exact ⟨⟨h1, h2, h3, h4, h5, h6, by omega⟩, by omega⟩
    · rintro ⟨⟨h1, h2, h3, h4, h5, h6, h7⟩, h8⟩
      exact ⟨⟨h1, h2, h3, h4, h5, h6⟩, by omega⟩
set_option maxHeartbeats 1000000 in
theorem rrarp_c (xs : List UInt8) (a : Option Addr) (cap : Nat) (w : World) (hat : At w a (byc xs)) (hlc : xs.length ≤ cap) (hl : xs.length ≤ 70368744177664) : Calls Tryd.prog 28 #[Value.slice a xs.length cap] w (Ret w (.tuple #[.agg [Value.int .u16 ((aO xs : Nat) : Int), Value.int .u8 (((aM xs 8 0).toNat : Nat) : Int), Value.int .u8 (((aM xs 8 1).toNat : Nat) : Int), Value.int .u8 (((aM xs 8 2).toNat : Nat) : Int), Value.int .u8 (((aM xs 8 3).toNat : Nat) : Int), Value.int .u8 (((aM xs 8 4).toNat : Nat) : Int), Value.int .u8 (((aM xs 8 5).toNat : Nat) : Int), Value.int .u8 (((aM xs 18 0).toNat : Nat) : Int), Value.int .u8 (((aM xs 18 1).toNat : Nat) : Int), Value.int .u8 (((aM xs 18 2).toNat : Nat) : Int), Value.int .u8 (((aM xs 18 3).toNat : Nat) : Int), Value.int .u8 (((aM xs 18 4).toNat : Nat) : Int), Value.int .u8 (((aM xs 18 5).toNat : Nat) : Int), Value.int .u32 ((aN xs 14 : Nat) : Int), Value.int .u32 ((aN xs 24 : Nat) : Int)].toArray, .int .i64 (aC xs)])) := by
  refine calls_W (M := []) (LL := []) (n := 51) Tryd.func28 rfl rfl (by simp) (Mem.refl _) ?_
  refine W.seq (fun K1 hK1 => ?_)
  refine W.region ?_
  refine Wl.ht rfl (Ht.alloc (z := Value.agg ([Value.int .u16 0, Value.int .u8 0, Value.int .u8 0, Value.int .u8 0, Value.int .u8 0, Value.int .u8 0, Value.int .u8 0, Value.int .u8 0, Value.int .u8 0, Value.int .u8 0, Value.int .u8 0, Value.int .u8 0, Value.int .u8 0, Value.int .u32 0, Value.int .u32 0]).toArray) (cs := [Value.int .u16 0, Value.int .u8 0, Value.int .u8 0, Value.int .u8 0, Value.int .u8 0, Value.int .u8 0, Value.int .u8 0, Value.int .u8 0, Value.int .u8 0, Value.int .u8 0, Value.int .u8 0, Value.int .u8 0, Value.int .u8 0, Value.int .u32 0, Value.int .u32 0]) rfl rfl Tryd.zeroValue43 rfl) (fun p2 => ?_)
  refine Wl.run 1 (by kernel_rfl) ?_
  refine Wl.nil ?_
  refine hK1 _ _ _ ?_
  refine W.prune' [0, 2] [Value.slice a xs.length cap, Value.pointer (some ⟨p2, 0, none⟩)] (by kernel_rfl) (fun f2 => ?_)
  refine W.seq (fun K3 hK3 => ?_)
  refine W.seq (fun K4 hK4 => ?_)
  refine W.region ?_
  refine Wl.run 3 (by kernel_rfl) ?_
  refine Wl.nil ?_
  refine hK4 _ _ _ ?_
  refine W.prune' [0, 2, 8] [Value.slice a xs.length cap, Value.pointer (some ⟨p2, 0, none⟩), Value.bool (decide (((xs.length : Nat) : Int) < 28))] (by kernel_rfl) (fun f5 => ?_)
  refine W.cond (decide (((xs.length : Nat) : Int) < 28)) (by kernel_rfl) (fun h6 => ?_) (fun h7 => ?_)
  · have qh6 := h6; try simp only [Bool.and_eq_true, Bool.or_eq_true, Bool.not_eq_true', Bool.not_eq_false', Bool.and_eq_false_iff, Bool.or_eq_false_iff, decide_eq_true_eq, decide_eq_false_iff_not, beq_iff_eq, bne_iff_ne, beq_eq_false_iff_ne, bne_eq_false_iff_eq] at qh6
    refine W.seq (fun K8 hK8 => ?_)
    refine W.region ?_
    refine Wl.run 1 (by kernel_rfl) ?_
    refine Wl.ht rfl (Ht.storeN (b := p2) (o' := 0) (i := 0) (j := 0) (cs := [Value.int .u16 0, Value.int .u8 0, Value.int .u8 0, Value.int .u8 0, Value.int .u8 0, Value.int .u8 0, Value.int .u8 0, Value.int .u8 0, Value.int .u8 0, Value.int .u8 0, Value.int .u8 0, Value.int .u8 0, Value.int .u8 0, Value.int .u32 0, Value.int .u32 0]) (vs := [Value.int .u16 0, Value.int .u8 0, Value.int .u8 0, Value.int .u8 0, Value.int .u8 0, Value.int .u8 0, Value.int .u8 0, Value.int .u8 0, Value.int .u8 0, Value.int .u8 0, Value.int .u8 0, Value.int .u8 0, Value.int .u8 0, Value.int .u32 0, Value.int .u32 0]) (cs' := [Value.int .u16 0, Value.int .u8 0, Value.int .u8 0, Value.int .u8 0, Value.int .u8 0, Value.int .u8 0, Value.int .u8 0, Value.int .u8 0, Value.int .u8 0, Value.int .u8 0, Value.int .u8 0, Value.int .u8 0, Value.int .u8 0, Value.int .u32 0, Value.int .u32 0]) (LL' := [[cb p2 [Value.int .u16 0, Value.int .u8 0, Value.int .u8 0, Value.int .u8 0, Value.int .u8 0, Value.int .u8 0, Value.int .u8 0, Value.int .u8 0, Value.int .u8 0, Value.int .u8 0, Value.int .u8 0, Value.int .u8 0, Value.int .u8 0, Value.int .u32 0, Value.int .u32 0] 43]]) rfl rfl (by kernel_rfl) (by kernel_rfl) Tryd.sizeOf43 (by simp [Value.oneCell']) rfl rfl (by simp) rfl rfl) (fun _ => ?_)
    refine Wl.run 1 (by kernel_rfl) ?_
    refine Wl.nil ?_
    refine hK8 _ _ _ ?_
    refine W.prune' [2, 3] [Value.pointer (some ⟨p2, 0, none⟩), Value.int .i64 10] (by kernel_rfl) (fun f9 => ?_)
    refine W.ret ?_
    have hG : aG xs = false := by unfold aG; rw [decide_eq_true (show xs.length < 28 by omega)]; rfl
    have hC : aC xs = 10 := by unfold aC; rw [if_pos (by omega)]
    show ∀ w_, _ → bodyPostM (fence none) 0 Tryd.prog Tryd.f28 _ Exit.ret _ w_
    exact fun w_ hS_ => fin_ret (ret2 rfl (RV.cellN (b := p2) (o' := 0) (i := 0) (j := 0) (cs := [Value.int .u16 0, Value.int .u8 0, Value.int .u8 0, Value.int .u8 0, Value.int .u8 0, Value.int .u8 0, Value.int .u8 0, Value.int .u8 0, Value.int .u8 0, Value.int .u8 0, Value.int .u8 0, Value.int .u8 0, Value.int .u8 0, Value.int .u32 0, Value.int .u32 0]) (vs := [Value.int .u16 0, Value.int .u8 0, Value.int .u8 0, Value.int .u8 0, Value.int .u8 0, Value.int .u8 0, Value.int .u8 0, Value.int .u8 0, Value.int .u8 0, Value.int .u8 0, Value.int .u8 0, Value.int .u8 0, Value.int .u8 0, Value.int .u32 0, Value.int .u32 0]) (by kernel_rfl) Tryd.isAgg43 Tryd.sizeOf43 rfl rfl rfl rfl) (RV.tmp (v := Value.int .i64 10) (by kernel_rfl)) hS_ ⟨by clear hK1 hK3 hK4 hK8; refine congrArg Ending.returned ?_; simp only [aO, aM, aN, hG, cond_false, hC]; rfl, hS_.below⟩)
  · have qh7 := h7; try simp only [Bool.and_eq_true, Bool.or_eq_true, Bool.not_eq_true', Bool.not_eq_false', Bool.and_eq_false_iff, Bool.or_eq_false_iff, decide_eq_true_eq, decide_eq_false_iff_not, beq_iff_eq, bne_iff_ne, beq_eq_false_iff_ne, bne_eq_false_iff_eq] at qh7
    refine W.skip' ?_
    refine hK3 _ _ _ ?_
    refine W.prune' [0, 2] [Value.slice a xs.length cap, Value.pointer (some ⟨p2, 0, none⟩)] (by kernel_rfl) (fun f10 => ?_)
    refine W.seq (fun K11 hK11 => ?_)
    refine W.seq (fun K12 hK12 => ?_)
    refine W.region ?_
    refine Wl.run 1 (by kernel_rfl) ?_
    refine Wl.ys (v := Value.slice a 7 cap) rfl rfl (Ys.sliceH (a := a) (len := xs.length) (cap := cap) (sz := 1) (k := .i64) (i := 7) rfl (by kernel_rfl) (by kernel_rfl) Tryd.runUnderlying37 Tryd.sizeOf5 (by omega) (by omega)) ?_
    refine Wl.ys (v := Value.string (bstr (xs.take 7))) rfl rfl (Ys.bytesStr (a := a) (len := 7) (cap := cap) (xs := xs.take 7) (e := 5) rfl (by kernel_rfl) (by kernel_rfl) (by kernel_rfl) (by kernel_rfl) ((by first | rfl | (simp [be_len]; done) | (simp [be_len]; omega))) (fun w_ h_ => ((hat.mem0 h_).mtake 7))) ?_
    refine Wl.ys (v := Value.bool (!((xs.take 7) == [0, 1, 8, 0, 6, 4, 0]))) rfl rfl ((Ys.pure (v := .bool (!((bstr (xs.take 7)).toList == (bstr [0, 1, 8, 0, 6, 4, 0]).toList))) (fun _ => by kernel_rfl)).conseq (bool_congr ((congrArg (! ·) (bstr_eq _ _))))) ?_
    refine Wl.run 1 (by kernel_rfl) ?_
    refine Wl.guard (v := Value.slice a xs.length cap) (!(!((xs.take 7) == [0, 1, 8, 0, 6, 4, 0]))) rfl (wantF rfl (by kernel_rfl)) rfl (fun hg13 => ?_) ?_
    · have qhg13 := hg13; try simp only [Bool.and_eq_true, Bool.or_eq_true, Bool.not_eq_true', Bool.not_eq_false', Bool.and_eq_false_iff, Bool.or_eq_false_iff, decide_eq_true_eq, decide_eq_false_iff_not, beq_iff_eq, bne_iff_ne, beq_eq_false_iff_ne, bne_eq_false_iff_eq] at qhg13
      exact Ys.pure (fun _ => by kernel_rfl)
    refine Wl.guard (v := Value.pointer (some (ela a 7))) (!(!((xs.take 7) == [0, 1, 8, 0, 6, 4, 0]))) rfl (wantF rfl (by kernel_rfl)) rfl (fun hg14 => ?_) ?_
    · have qhg14 := hg14; try simp only [Bool.and_eq_true, Bool.or_eq_true, Bool.not_eq_true', Bool.not_eq_false', Bool.and_eq_false_iff, Bool.or_eq_false_iff, decide_eq_true_eq, decide_eq_false_iff_not, beq_iff_eq, bne_iff_ne, beq_eq_false_iff_ne, bne_eq_false_iff_eq] at qhg14
      refine Ys.at (t := 15) (v0 := Value.slice a xs.length cap) (lz (g := !(!((xs.take 7) == [0, 1, 8, 0, 6, 4, 0]))) (u := undef) hg14 (by kernel_rfl)) ?_
      exact Ys.byMem fun w_ h_ => Ys.indexAddr (k := .i64) (a := a) (len := xs.length) (cap := cap) (i := 7) (sz := 1) rfl (by kernel_rfl) (by kernel_rfl) Tryd.runUnderlying37 Tryd.sizeOf5 (by omega) (by omega) ((hat.mem0 h_).here (by rw [mc_len]; first | omega | (simp; omega)))
    refine Wl.guard (v := Value.int .u8 (((xs.getD 7 0).toNat : Nat) : Int)) (!(!((xs.take 7) == [0, 1, 8, 0, 6, 4, 0]))) rfl (wantF rfl (by kernel_rfl)) rfl (fun hg15 => ?_) ?_
    · have qhg15 := hg15; try simp only [Bool.and_eq_true, Bool.or_eq_true, Bool.not_eq_true', Bool.not_eq_false', Bool.and_eq_false_iff, Bool.or_eq_false_iff, decide_eq_true_eq, decide_eq_false_iff_not, beq_iff_eq, bne_iff_ne, beq_eq_false_iff_ne, bne_eq_false_iff_eq] at qhg15
      refine Ys.at (t := 16) (v0 := Value.pointer (some (ela a 7))) (lz (g := !(!((xs.take 7) == [0, 1, 8, 0, 6, 4, 0]))) (u := undef) hg15 (by kernel_rfl)) ?_
      exact Ys.ld (a := ela a 7) rfl (by kernel_rfl) Tryd.isAgg5 (fun w_ h_ => (hat.mem0 h_).ld (mc_get 0 (by first | omega | (simp; omega))))
    refine Wl.guard (v := Value.bool ((((xs.getD 7 0).toNat : Nat) : Int) != 1)) (!(!((xs.take 7) == [0, 1, 8, 0, 6, 4, 0]))) rfl (wantF rfl (by kernel_rfl)) rfl (fun hg16 => ?_) ?_
    · have qhg16 := hg16; try simp only [Bool.and_eq_true, Bool.or_eq_true, Bool.not_eq_true', Bool.not_eq_false', Bool.and_eq_false_iff, Bool.or_eq_false_iff, decide_eq_true_eq, decide_eq_false_iff_not, beq_iff_eq, bne_iff_ne, beq_eq_false_iff_ne, bne_eq_false_iff_eq] at qhg16
      refine Ys.at (t := 17) (v0 := Value.int .u8 (((xs.getD 7 0).toNat : Nat) : Int)) (lz (g := !(!((xs.take 7) == [0, 1, 8, 0, 6, 4, 0]))) (u := undef) hg16 (by kernel_rfl)) ?_
      exact Ys.pure (fun _ => by kernel_rfl)
    refine Wl.guard (v := Value.bool ((((xs.getD 7 0).toNat : Nat) : Int) != 1)) (!(!((xs.take 7) == [0, 1, 8, 0, 6, 4, 0]))) rfl (wantF rfl (by kernel_rfl)) rfl (fun hg17 => ?_) ?_
    · have qhg17 := hg17; try simp only [Bool.and_eq_true, Bool.or_eq_true, Bool.not_eq_true', Bool.not_eq_false', Bool.and_eq_false_iff, Bool.or_eq_false_iff, decide_eq_true_eq, decide_eq_false_iff_not, beq_iff_eq, bne_iff_ne, beq_eq_false_iff_ne, bne_eq_false_iff_eq] at qhg17
      refine Ys.at (t := 18) (v0 := Value.bool ((((xs.getD 7 0).toNat : Nat) : Int) != 1)) (lz (g := !(!((xs.take 7) == [0, 1, 8, 0, 6, 4, 0]))) (u := undef) hg17 (by kernel_rfl)) ?_
      exact Ys.pure (fun _ => by kernel_rfl)
    refine Wl.guard (v := Value.slice a xs.length cap) ((!(!((xs.take 7) == [0, 1, 8, 0, 6, 4, 0]))) && ((((xs.getD 7 0).toNat : Nat) : Int) != 1)) rfl (wantTz rfl rfl (by kernel_rfl)) rfl (fun hg18 => ?_) ?_
    · have qhg18 := hg18; try simp only [Bool.and_eq_true, Bool.or_eq_true, Bool.not_eq_true', Bool.not_eq_false', Bool.and_eq_false_iff, Bool.or_eq_false_iff, decide_eq_true_eq, decide_eq_false_iff_not, beq_iff_eq, bne_iff_ne, beq_eq_false_iff_ne, bne_eq_false_iff_eq] at qhg18
      exact Ys.pure (fun _ => by kernel_rfl)
    refine Wl.guard (v := Value.pointer (some (ela a 7))) ((!(!((xs.take 7) == [0, 1, 8, 0, 6, 4, 0]))) && ((((xs.getD 7 0).toNat : Nat) : Int) != 1)) rfl (wantTz rfl rfl (by kernel_rfl)) rfl (fun hg19 => ?_) ?_
    · have qhg19 := hg19; try simp only [Bool.and_eq_true, Bool.or_eq_true, Bool.not_eq_true', Bool.not_eq_false', Bool.and_eq_false_iff, Bool.or_eq_false_iff, decide_eq_true_eq, decide_eq_false_iff_not, beq_iff_eq, bne_iff_ne, beq_eq_false_iff_ne, bne_eq_false_iff_eq] at qhg19
      refine Ys.at (t := 20) (v0 := Value.slice a xs.length cap) (lz (g := (!(!((xs.take 7) == [0, 1, 8, 0, 6, 4, 0]))) && ((((xs.getD 7 0).toNat : Nat) : Int) != 1)) (u := undef) hg19 (by kernel_rfl)) ?_
      exact Ys.byMem fun w_ h_ => Ys.indexAddr (k := .i64) (a := a) (len := xs.length) (cap := cap) (i := 7) (sz := 1) rfl (by kernel_rfl) (by kernel_rfl) Tryd.runUnderlying37 Tryd.sizeOf5 (by omega) (by omega) ((hat.mem0 h_).here (by rw [mc_len]; first | omega | (simp; omega)))
    refine Wl.guard (v := Value.int .u8 (((xs.getD 7 0).toNat : Nat) : Int)) ((!(!((xs.take 7) == [0, 1, 8, 0, 6, 4, 0]))) && ((((xs.getD 7 0).toNat : Nat) : Int) != 1)) rfl (wantTz rfl rfl (by kernel_rfl)) rfl (fun hg20 => ?_) ?_
    · have qhg20 := hg20; try simp only [Bool.and_eq_true, Bool.or_eq_true, Bool.not_eq_true', Bool.not_eq_false', Bool.and_eq_false_iff, Bool.or_eq_false_iff, decide_eq_true_eq, decide_eq_false_iff_not, beq_iff_eq, bne_iff_ne, beq_eq_false_iff_ne, bne_eq_false_iff_eq] at qhg20
      refine Ys.at (t := 21) (v0 := Value.pointer (some (ela a 7))) (lz (g := (!(!((xs.take 7) == [0, 1, 8, 0, 6, 4, 0]))) && ((((xs.getD 7 0).toNat : Nat) : Int) != 1)) (u := undef) hg20 (by kernel_rfl)) ?_
      exact Ys.ld (a := ela a 7) rfl (by kernel_rfl) Tryd.isAgg5 (fun w_ h_ => (hat.mem0 h_).ld (mc_get 0 (by first | omega | (simp; omega))))
    refine Wl.guard (v := Value.bool ((((xs.getD 7 0).toNat : Nat) : Int) != 2)) ((!(!((xs.take 7) == [0, 1, 8, 0, 6, 4, 0]))) && ((((xs.getD 7 0).toNat : Nat) : Int) != 1)) rfl (wantTz rfl rfl (by kernel_rfl)) rfl (fun hg21 => ?_) ?_
    · have qhg21 := hg21; try simp only [Bool.and_eq_true, Bool.or_eq_true, Bool.not_eq_true', Bool.not_eq_false', Bool.and_eq_false_iff, Bool.or_eq_false_iff, decide_eq_true_eq, decide_eq_false_iff_not, beq_iff_eq, bne_iff_ne, beq_eq_false_iff_ne, bne_eq_false_iff_eq] at qhg21
      refine Ys.at (t := 22) (v0 := Value.int .u8 (((xs.getD 7 0).toNat : Nat) : Int)) (lz (g := (!(!((xs.take 7) == [0, 1, 8, 0, 6, 4, 0]))) && ((((xs.getD 7 0).toNat : Nat) : Int) != 1)) (u := undef) hg21 (by kernel_rfl)) ?_
      exact Ys.pure (fun _ => by kernel_rfl)
    refine Wl.guard (v := Value.bool (((((xs.getD 7 0).toNat : Nat) : Int) != 1) && ((((xs.getD 7 0).toNat : Nat) : Int) != 2))) (!(!((xs.take 7) == [0, 1, 8, 0, 6, 4, 0]))) rfl (wantF rfl (by kernel_rfl)) rfl (fun hg22 => ?_) ?_
    · have qhg22 := hg22; try simp only [Bool.and_eq_true, Bool.or_eq_true, Bool.not_eq_true', Bool.not_eq_false', Bool.and_eq_false_iff, Bool.or_eq_false_iff, decide_eq_true_eq, decide_eq_false_iff_not, beq_iff_eq, bne_iff_ne, beq_eq_false_iff_ne, bne_eq_false_iff_eq] at qhg22
      refine Ys.at (t := 19) (v0 := Value.bool ((((xs.getD 7 0).toNat : Nat) : Int) != 1)) (lz (g := !(!((xs.take 7) == [0, 1, 8, 0, 6, 4, 0]))) (u := undef) hg22 (by kernel_rfl)) ?_
      refine Ys.at (t := 23) (v0 := (bif (((xs.getD 7 0).toNat : Nat) : Int) != 1 then Value.bool ((((xs.getD 7 0).toNat : Nat) : Int) != 2) else undef)) (lz2 (g := !(!((xs.take 7) == [0, 1, 8, 0, 6, 4, 0]))) hg22 (by kernel_rfl)) ?_
      exact Ys.and (e := (((xs.getD 7 0).toNat : Nat) : Int) != 1) (b := (((xs.getD 7 0).toNat : Nat) : Int) != 2) rfl (by kernel_rfl) (by kernel_rfl) (by kernel_rfl)
    refine Wl.ys (v := Value.bool ((!((xs.take 7) == [0, 1, 8, 0, 6, 4, 0])) || (((((xs.getD 7 0).toNat : Nat) : Int) != 1) && ((((xs.getD 7 0).toNat : Nat) : Int) != 2)))) rfl rfl (Ys.or' (e := !((xs.take 7) == [0, 1, 8, 0, 6, 4, 0])) (b := ((((xs.getD 7 0).toNat : Nat) : Int) != 1) && ((((xs.getD 7 0).toNat : Nat) : Int) != 2)) rfl (by kernel_rfl) (by kernel_rfl) (by kernel_rfl)) ?_
    refine Wl.nil ?_
    refine hK12 _ _ _ ?_
    refine W.prune' [0, 2, 25] [Value.slice a xs.length cap, Value.pointer (some ⟨p2, 0, none⟩), Value.bool ((!((xs.take 7) == [0, 1, 8, 0, 6, 4, 0])) || (((((xs.getD 7 0).toNat : Nat) : Int) != 1) && ((((xs.getD 7 0).toNat : Nat) : Int) != 2)))] (by kernel_rfl) (fun f23 => ?_)
    refine W.cond ((!((xs.take 7) == [0, 1, 8, 0, 6, 4, 0])) || (((((xs.getD 7 0).toNat : Nat) : Int) != 1) && ((((xs.getD 7 0).toNat : Nat) : Int) != 2))) (by kernel_rfl) (fun h24 => ?_) (fun h25 => ?_)
    · have qh24 := h24; try simp only [Bool.and_eq_true, Bool.or_eq_true, Bool.not_eq_true', Bool.not_eq_false', Bool.and_eq_false_iff, Bool.or_eq_false_iff, decide_eq_true_eq, decide_eq_false_iff_not, beq_iff_eq, bne_iff_ne, beq_eq_false_iff_ne, bne_eq_false_iff_eq] at qh24
      refine W.seq (fun K26 hK26 => ?_)
      refine W.region ?_
      refine Wl.run 1 (by kernel_rfl) ?_
      refine Wl.ht rfl (Ht.storeN (b := p2) (o' := 0) (i := 0) (j := 0) (cs := [Value.int .u16 0, Value.int .u8 0, Value.int .u8 0, Value.int .u8 0, Value.int .u8 0, Value.int .u8 0, Value.int .u8 0, Value.int .u8 0, Value.int .u8 0, Value.int .u8 0, Value.int .u8 0, Value.int .u8 0, Value.int .u8 0, Value.int .u32 0, Value.int .u32 0]) (vs := [Value.int .u16 0, Value.int .u8 0, Value.int .u8 0, Value.int .u8 0, Value.int .u8 0, Value.int .u8 0, Value.int .u8 0, Value.int .u8 0, Value.int .u8 0, Value.int .u8 0, Value.int .u8 0, Value.int .u8 0, Value.int .u8 0, Value.int .u32 0, Value.int .u32 0]) (cs' := [Value.int .u16 0, Value.int .u8 0, Value.int .u8 0, Value.int .u8 0, Value.int .u8 0, Value.int .u8 0, Value.int .u8 0, Value.int .u8 0, Value.int .u8 0, Value.int .u8 0, Value.int .u8 0, Value.int .u8 0, Value.int .u8 0, Value.int .u32 0, Value.int .u32 0]) (LL' := [[cb p2 [Value.int .u16 0, Value.int .u8 0, Value.int .u8 0, Value.int .u8 0, Value.int .u8 0, Value.int .u8 0, Value.int .u8 0, Value.int .u8 0, Value.int .u8 0, Value.int .u8 0, Value.int .u8 0, Value.int .u8 0, Value.int .u8 0, Value.int .u32 0, Value.int .u32 0] 43]]) rfl rfl (by kernel_rfl) (by kernel_rfl) Tryd.sizeOf43 (by simp [Value.oneCell']) rfl rfl (by simp) rfl rfl) (fun _ => ?_)
      refine Wl.run 1 (by kernel_rfl) ?_
      refine Wl.nil ?_
      refine hK26 _ _ _ ?_
      refine W.prune' [2, 3] [Value.pointer (some ⟨p2, 0, none⟩), Value.int .i64 11] (by kernel_rfl) (fun f27 => ?_)
      refine W.ret ?_
      have hOK : apOK xs = false := Bool.eq_false_iff.2 (fun hz_ => by obtain ⟨z1_, z2_⟩ := (ok7 (by omega)).1 hz_; rcases qh24 with z_ | z_ <;> first | exact z_ z1_ | omega)
      have hG : aG xs = false := by unfold aG; rw [decide_eq_false (show ¬ xs.length < 28 by omega), hOK]; rfl
      have hC : aC xs = 11 := by unfold aC; rw [if_neg (by omega), hOK]; rfl
      show ∀ w_, _ → bodyPostM (fence none) 0 Tryd.prog Tryd.f28 _ Exit.ret _ w_
      exact fun w_ hS_ => fin_ret (ret2 rfl (RV.cellN (b := p2) (o' := 0) (i := 0) (j := 0) (cs := [Value.int .u16 0, Value.int .u8 0, Value.int .u8 0, Value.int .u8 0, Value.int .u8 0, Value.int .u8 0, Value.int .u8 0, Value.int .u8 0, Value.int .u8 0, Value.int .u8 0, Value.int .u8 0, Value.int .u8 0, Value.int .u8 0, Value.int .u32 0, Value.int .u32 0]) (vs := [Value.int .u16 0, Value.int .u8 0, Value.int .u8 0, Value.int .u8 0, Value.int .u8 0, Value.int .u8 0, Value.int .u8 0, Value.int .u8 0, Value.int .u8 0, Value.int .u8 0, Value.int .u8 0, Value.int .u8 0, Value.int .u8 0, Value.int .u32 0, Value.int .u32 0]) (by kernel_rfl) Tryd.isAgg43 Tryd.sizeOf43 rfl rfl rfl rfl) (RV.tmp (v := Value.int .i64 11) (by kernel_rfl)) hS_ ⟨by clear hK1 hK3 hK4 hK11 hK12 hK26; refine congrArg Ending.returned ?_; simp only [aO, aM, aN, hG, cond_false, hC]; rfl, hS_.below⟩)
    · have qh25 := h25; try simp only [Bool.and_eq_true, Bool.or_eq_true, Bool.not_eq_true', Bool.not_eq_false', Bool.and_eq_false_iff, Bool.or_eq_false_iff, decide_eq_true_eq, decide_eq_false_iff_not, beq_iff_eq, bne_iff_ne, beq_eq_false_iff_ne, bne_eq_false_iff_eq] at qh25
      refine W.skip' ?_
      refine hK11 _ _ _ ?_
      refine W.prune' [0, 2] [Value.slice a xs.length cap, Value.pointer (some ⟨p2, 0, none⟩)] (by kernel_rfl) (fun f28 => ?_)
      refine W.seq (fun K29 hK29 => ?_)
      refine W.region ?_
      refine Wl.run 2 (by kernel_rfl) ?_
      refine Wl.ht rfl (Ht.box (v := Value.agg ([Value.slice a xs.length cap, Value.int .i64 14, Value.bool false]).toArray) (cs := [Value.slice a xs.length cap, Value.int .i64 14, Value.bool false]) rfl rfl (by kernel_rfl) rfl) (fun p29 => ?_)
      refine Wl.run 1 (by kernel_rfl) ?_
      refine Wl.nil ?_
      refine hK29 _ _ _ ?_
      refine W.prune' [0, 2, 4] [Value.slice a xs.length cap, Value.pointer (some ⟨p2, 0, none⟩), Value.pointer (some ⟨p29, 0, none⟩)] (by kernel_rfl) (fun f30 => ?_)
      refine W.seq (fun K31 hK31 => ?_)
      refine W.region ?_
      refine Wl.run 1 (by kernel_rfl) ?_
      refine Wl.ht rfl (Ht.call (β := Unit) (k := 40) (args := #[Value.pointer (some ⟨p29, 0, none⟩), Value.int .i64 4]) (Lin := [[cb p29 [Value.slice a xs.length cap, Value.int .i64 14, Value.bool false] 88]]) (Lk := [[cb p2 [Value.int .u16 0, Value.int .u8 0, Value.int .u8 0, Value.int .u8 0, Value.int .u8 0, Value.int .u8 0, Value.int .u8 0, Value.int .u8 0, Value.int .u8 0, Value.int .u8 0, Value.int .u8 0, Value.int .u8 0, Value.int .u8 0, Value.int .u32 0, Value.int .u32 0] 43]]) (Mi := [p29]) (Lo := fun u32 => [[cb p29 [Value.slice a xs.length cap, Value.int .i64 ((rI xs 14 ((size8 4 : Nat) : Int) : Nat) : Int), Value.bool (eBad (xs.drop 14) false ((size8 4 : Nat) : Int))] 88], [cb p2 [Value.int .u16 0, Value.int .u8 0, Value.int .u8 0, Value.int .u8 0, Value.int .u8 0, Value.int .u8 0, Value.int .u8 0, Value.int .u8 0, Value.int .u8 0, Value.int .u8 0, Value.int .u8 0, Value.int .u8 0, Value.int .u8 0, Value.int .u32 0, Value.int .u32 0] 43]]) [0] [1] rfl (fun _ => by kernel_rfl) (by decide) rfl rfl rfl (fun w_ hm_ hl_ => (renum_c xs a cap 14 false p29 4 _ hl_ (hat.mem0 hm_) (by first | omega | assumption) (by omega) (by omega))) (fun _ => rfl)) (fun x33 => ?_)
      obtain ⟨u32, _⟩ := x33
      refine Wl.castL (LL' := [[cb p29 [Value.slice a xs.length cap, Value.int .i64 ((rI xs 14 ((size8 4 : Nat) : Int) : Nat) : Int), Value.bool (eBad (xs.drop 14) false ((size8 4 : Nat) : Int))] 88], [cb p2 [Value.int .u16 0, Value.int .u8 0, Value.int .u8 0, Value.int .u8 0, Value.int .u8 0, Value.int .u8 0, Value.int .u8 0, Value.int .u8 0, Value.int .u8 0, Value.int .u8 0, Value.int .u8 0, Value.int .u8 0, Value.int .u8 0, Value.int .u32 0, Value.int .u32 0] 43]]) rfl ?_
      refine Wl.ys (v := Value.int .u32 (((bv (eOut (xs.drop 14) ((size8 4 : Nat) : Int))) % 4294967296 : Nat) : Int)) rfl rfl ((Ys.pure (v := .int .u32 (icnv .u32 ((bv (eOut (xs.drop 14) ((size8 4 : Nat) : Int)) : Nat) : Int))) (fun _ => by kernel_rfl)).conseq (int_congr (icnv_mod rfl _))) ?_
      refine Wl.run 1 (by kernel_rfl) ?_
      refine Wl.nil ?_
      refine hK31 _ _ _ ?_
      refine W.prune' [0, 2, 4, 5] [Value.slice a xs.length cap, Value.pointer (some ⟨p2, 0, none⟩), Value.pointer (some ⟨p29, 0, none⟩), Value.int .u32 (((bv (eOut (xs.drop 14) ((size8 4 : Nat) : Int))) % 4294967296 : Nat) : Int)] (by kernel_rfl) (fun f34 => ?_)
      refine W.seq (fun K35 hK35 => ?_)
      refine W.region ?_
      refine Wl.run 3 (by kernel_rfl) ?_
      refine Wl.ht rfl (Ht.store (b := p29) (o' := 1) (i := 0) (j := 0) (cs := [Value.slice a xs.length cap, Value.int .i64 ((rI xs 14 ((size8 4 : Nat) : Int) : Nat) : Int), Value.bool (eBad (xs.drop 14) false ((size8 4 : Nat) : Int))]) (cs' := [Value.slice a xs.length cap, Value.int .i64 24, Value.bool (eBad (xs.drop 14) false ((size8 4 : Nat) : Int))]) (v := Value.int .i64 24) (LL' := [[cb p29 [Value.slice a xs.length cap, Value.int .i64 24, Value.bool (eBad (xs.drop 14) false ((size8 4 : Nat) : Int))] 88], [cb p2 [Value.int .u16 0, Value.int .u8 0, Value.int .u8 0, Value.int .u8 0, Value.int .u8 0, Value.int .u8 0, Value.int .u8 0, Value.int .u8 0, Value.int .u8 0, Value.int .u8 0, Value.int .u8 0, Value.int .u8 0, Value.int .u8 0, Value.int .u32 0, Value.int .u32 0] 43]]) rfl rfl (by kernel_rfl) (by kernel_rfl) Tryd.sizeOf3 rfl rfl rfl (by simp) rfl rfl) (fun _ => ?_)
      refine Wl.nil ?_
      refine hK35 _ _ _ ?_
      refine W.prune' [0, 2, 4, 5] [Value.slice a xs.length cap, Value.pointer (some ⟨p2, 0, none⟩), Value.pointer (some ⟨p29, 0, none⟩), Value.int .u32 (((bv (eOut (xs.drop 14) ((size8 4 : Nat) : Int))) % 4294967296 : Nat) : Int)] (by kernel_rfl) (fun f36 => ?_)
      refine W.seq (fun K37 hK37 => ?_)
      refine W.draws [(0, true), (1, true), (2, true), (3, true), (4, true), (5, true), (7, true), (8, true), (9, true), (11, true), (6, false), (10, false), (12, false), (13, false), (14, false), (15, false), (16, false)] [0, 1, 2, 3, 4, 5, 7, 8, 9, 11] (Mem w [] [[cb p2 [Value.int .u16 0, Value.int .u8 0, Value.int .u8 0, Value.int .u8 0, Value.int .u8 0, Value.int .u8 0, Value.int .u8 0, Value.int .u8 0, Value.int .u8 0, Value.int .u8 0, Value.int .u8 0, Value.int .u8 0, Value.int .u8 0, Value.int .u32 0, Value.int .u32 0] 43]]) (by kernel_rfl) (by kernel_rfl) (by kernel_rfl) rfl (by kernel_rfl) (fun _ _ h_ => h_.drawn _) (fun _ h_ => h_.pick [1] (by decide) rfl) ?_
      refine Wd.run 1 (by kernel_rfl) ?_
      refine Wd.ys (v := Value.pointer (some (ela a 7))) rfl rfl rfl (Ys.byMem fun w_ h_ => Ys.indexAddr (k := .i64) (a := a) (len := xs.length) (cap := cap) (i := 7) (sz := 1) rfl (by kernel_rfl) (by kernel_rfl) Tryd.runUnderlying37 Tryd.sizeOf5 (by omega) (by omega) ((hat.mem0 h_).here (by rw [mc_len]; first | omega | (simp; omega)))) ?_
      refine Wd.ys (v := Value.int .u8 (((xs.getD 7 0).toNat : Nat) : Int)) rfl rfl rfl (Ys.ld (a := ela a 7) rfl (by kernel_rfl) Tryd.isAgg5 (fun w_ h_ => (hat.mem0 h_).ld (mc_get 0 (by first | omega | (simp; omega))))) ?_
      have hb38 : (xs.getD 7 0).toNat < 256 := UInt8.toNat_lt _
      refine Wd.ys (v := Value.int .u16 (((xs.getD 7 0).toNat : Nat) : Int)) rfl rfl rfl ((Ys.pure (v := .int .u16 (icnv .u16 (((xs.getD 7 0).toNat : Nat) : Int))) (fun _ => by kernel_rfl)).conseq (int_congr (wrap_u16 (by omega) (by omega)))) ?_
      refine Wd.run 1 (by kernel_rfl) ?_
      refine Wd.ys (v := Value.slice (sla a cap 8 1) (xs.length - 8) (cap - 8)) rfl rfl rfl (Ys.sliceL (a := a) (len := xs.length) (cap := cap) (sz := 1) (k := .i64) (i := 8) rfl (by kernel_rfl) (by kernel_rfl) Tryd.runUnderlying37 Tryd.sizeOf5 (by omega) (by omega)) ?_
      refine Wd.run 2 (by kernel_rfl) ?_
      refine Wd.ys (v := Value.slice (sla a cap 18 1) (xs.length - 18) (cap - 18)) rfl rfl rfl (Ys.sliceL (a := a) (len := xs.length) (cap := cap) (sz := 1) (k := .i64) (i := 18) rfl (by kernel_rfl) (by kernel_rfl) Tryd.runUnderlying37 Tryd.sizeOf5 (by omega) (by omega)) ?_
      refine Wd.run 1 (by kernel_rfl) ?_
      refine Wd.yc (v := Value.agg ([Value.int .u8 ((((xs.drop 8).getD 0 0).toNat : Nat) : Int), Value.int .u8 ((((xs.drop 8).getD 1 0).toNat : Nat) : Int), Value.int .u8 ((((xs.drop 8).getD 2 0).toNat : Nat) : Int), Value.int .u8 ((((xs.drop 8).getD 3 0).toNat : Nat) : Int), Value.int .u8 ((((xs.drop 8).getD 4 0).toNat : Nat) : Int), Value.int .u8 ((((xs.drop 8).getD 5 0).toNat : Nat) : Int)]).toArray) rfl rfl rfl (Yc.call (k := 41) (args := #[Value.slice (sla a cap 8 1) (xs.length - 8) (cap - 8)]) (fun _ => by kernel_rfl) (fun w_ hm_ => (macn_c (xs.drop 8) (sla a cap 8 1) (xs.length - 8) (cap - 8) _ (by first | rfl | (simp; done)) ((hat.mem0 hm_).mdrop cap 8 (by omega)) (by first | omega | (simp; omega)) (by first | omega | (simp; omega))))) (.inr fun _ h_ => h_.pick [1] (by decide) rfl) ?_
      refine Wd.yc (v := Value.agg ([Value.int .u8 ((((xs.drop 18).getD 0 0).toNat : Nat) : Int), Value.int .u8 ((((xs.drop 18).getD 1 0).toNat : Nat) : Int), Value.int .u8 ((((xs.drop 18).getD 2 0).toNat : Nat) : Int), Value.int .u8 ((((xs.drop 18).getD 3 0).toNat : Nat) : Int), Value.int .u8 ((((xs.drop 18).getD 4 0).toNat : Nat) : Int), Value.int .u8 ((((xs.drop 18).getD 5 0).toNat : Nat) : Int)]).toArray) rfl rfl rfl (Yc.call (k := 41) (args := #[Value.slice (sla a cap 18 1) (xs.length - 18) (cap - 18)]) (fun _ => by kernel_rfl) (fun w_ hm_ => (macn_c (xs.drop 18) (sla a cap 18 1) (xs.length - 18) (cap - 18) _ (by first | rfl | (simp; done)) ((hat.mem0 hm_).mdrop cap 18 (by omega)) (by first | omega | (simp; omega)) (by first | omega | (simp; omega))))) (.inr fun _ h_ => h_.pick [1] (by decide) rfl) ?_
      refine Wd.ht rfl rfl (Ht.call (β := Unit) (k := 40) (args := #[Value.pointer (some ⟨p29, 0, none⟩), Value.int .i64 4]) (Lin := [[cb p29 [Value.slice a xs.length cap, Value.int .i64 24, Value.bool (eBad (xs.drop 14) false ((size8 4 : Nat) : Int))] 88]]) (Lk := [[cb p2 [Value.int .u16 0, Value.int .u8 0, Value.int .u8 0, Value.int .u8 0, Value.int .u8 0, Value.int .u8 0, Value.int .u8 0, Value.int .u8 0, Value.int .u8 0, Value.int .u8 0, Value.int .u8 0, Value.int .u8 0, Value.int .u8 0, Value.int .u32 0, Value.int .u32 0] 43]]) (Mi := [p29]) (Lo := fun u39 => [[cb p29 [Value.slice a xs.length cap, Value.int .i64 ((rI xs 24 ((size8 4 : Nat) : Int) : Nat) : Int), Value.bool (eBad (xs.drop 24) (eBad (xs.drop 14) false ((size8 4 : Nat) : Int)) ((size8 4 : Nat) : Int))] 88], [cb p2 [Value.int .u16 0, Value.int .u8 0, Value.int .u8 0, Value.int .u8 0, Value.int .u8 0, Value.int .u8 0, Value.int .u8 0, Value.int .u8 0, Value.int .u8 0, Value.int .u8 0, Value.int .u8 0, Value.int .u8 0, Value.int .u8 0, Value.int .u32 0, Value.int .u32 0] 43]]) [0] [1] rfl (fun _ => by kernel_rfl) (by decide) rfl rfl rfl (fun w_ hm_ hl_ => (renum_c xs a cap 24 (eBad (xs.drop 14) false ((size8 4 : Nat) : Int)) p29 4 _ hl_ (hat.mem0 hm_) (by first | omega | assumption) (by omega) (by omega))) (fun _ => rfl)) (.inr fun _ _ h_ => h_.pick [1] (by decide) rfl) (fun x40 => ?_)
      obtain ⟨u39, _⟩ := x40
      refine Wd.castL (LL' := [[cb p29 [Value.slice a xs.length cap, Value.int .i64 ((rI xs 24 ((size8 4 : Nat) : Int) : Nat) : Int), Value.bool (eBad (xs.drop 24) (eBad (xs.drop 14) false ((size8 4 : Nat) : Int)) ((size8 4 : Nat) : Int))] 88], [cb p2 [Value.int .u16 0, Value.int .u8 0, Value.int .u8 0, Value.int .u8 0, Value.int .u8 0, Value.int .u8 0, Value.int .u8 0, Value.int .u8 0, Value.int .u8 0, Value.int .u8 0, Value.int .u8 0, Value.int .u8 0, Value.int .u8 0, Value.int .u32 0, Value.int .u32 0] 43]]) rfl ?_
      refine Wd.yc (v := Value.int .u32 (((bv (eOut (xs.drop 24) ((size8 4 : Nat) : Int))) % 4294967296 : Nat) : Int)) rfl rfl rfl (Ys.yc ((Ys.pure (v := .int .u32 (icnv .u32 ((bv (eOut (xs.drop 24) ((size8 4 : Nat) : Int)) : Nat) : Int))) (fun _ => by kernel_rfl)).conseq (int_congr (icnv_mod rfl _)))) (.inr fun _ h_ => h_.pick [1] (by decide) rfl) ?_
      refine Wd.yc (v := Value.agg ([Value.int .u16 (((xs.getD 7 0).toNat : Nat) : Int), Value.int .u8 ((((xs.drop 8).getD 0 0).toNat : Nat) : Int), Value.int .u8 ((((xs.drop 8).getD 1 0).toNat : Nat) : Int), Value.int .u8 ((((xs.drop 8).getD 2 0).toNat : Nat) : Int), Value.int .u8 ((((xs.drop 8).getD 3 0).toNat : Nat) : Int), Value.int .u8 ((((xs.drop 8).getD 4 0).toNat : Nat) : Int), Value.int .u8 ((((xs.drop 8).getD 5 0).toNat : Nat) : Int), Value.int .u8 ((((xs.drop 18).getD 0 0).toNat : Nat) : Int), Value.int .u8 ((((xs.drop 18).getD 1 0).toNat : Nat) : Int), Value.int .u8 ((((xs.drop 18).getD 2 0).toNat : Nat) : Int), Value.int .u8 ((((xs.drop 18).getD 3 0).toNat : Nat) : Int), Value.int .u8 ((((xs.drop 18).getD 4 0).toNat : Nat) : Int), Value.int .u8 ((((xs.drop 18).getD 5 0).toNat : Nat) : Int), Value.int .u32 (((bv (eOut (xs.drop 14) ((size8 4 : Nat) : Int))) % 4294967296 : Nat) : Int), Value.int .u32 (((bv (eOut (xs.drop 24) ((size8 4 : Nat) : Int))) % 4294967296 : Nat) : Int)]).toArray) rfl rfl rfl (Ys.yc (Ys.pure (fun _ => by kernel_rfl))) (.inr fun _ h_ => h_.pick [1] (by decide) rfl) ?_
      refine Wd.ht rfl rfl (Ht.storeN (b := p2) (o' := 0) (i := 1) (j := 0) (cs := [Value.int .u16 0, Value.int .u8 0, Value.int .u8 0, Value.int .u8 0, Value.int .u8 0, Value.int .u8 0, Value.int .u8 0, Value.int .u8 0, Value.int .u8 0, Value.int .u8 0, Value.int .u8 0, Value.int .u8 0, Value.int .u8 0, Value.int .u32 0, Value.int .u32 0]) (vs := [Value.int .u16 (((xs.getD 7 0).toNat : Nat) : Int), Value.int .u8 ((((xs.drop 8).getD 0 0).toNat : Nat) : Int), Value.int .u8 ((((xs.drop 8).getD 1 0).toNat : Nat) : Int), Value.int .u8 ((((xs.drop 8).getD 2 0).toNat : Nat) : Int), Value.int .u8 ((((xs.drop 8).getD 3 0).toNat : Nat) : Int), Value.int .u8 ((((xs.drop 8).getD 4 0).toNat : Nat) : Int), Value.int .u8 ((((xs.drop 8).getD 5 0).toNat : Nat) : Int), Value.int .u8 ((((xs.drop 18).getD 0 0).toNat : Nat) : Int), Value.int .u8 ((((xs.drop 18).getD 1 0).toNat : Nat) : Int), Value.int .u8 ((((xs.drop 18).getD 2 0).toNat : Nat) : Int), Value.int .u8 ((((xs.drop 18).getD 3 0).toNat : Nat) : Int), Value.int .u8 ((((xs.drop 18).getD 4 0).toNat : Nat) : Int), Value.int .u8 ((((xs.drop 18).getD 5 0).toNat : Nat) : Int), Value.int .u32 (((bv (eOut (xs.drop 14) ((size8 4 : Nat) : Int))) % 4294967296 : Nat) : Int), Value.int .u32 (((bv (eOut (xs.drop 24) ((size8 4 : Nat) : Int))) % 4294967296 : Nat) : Int)]) (cs' := [Value.int .u16 (((xs.getD 7 0).toNat : Nat) : Int), Value.int .u8 ((((xs.drop 8).getD 0 0).toNat : Nat) : Int), Value.int .u8 ((((xs.drop 8).getD 1 0).toNat : Nat) : Int), Value.int .u8 ((((xs.drop 8).getD 2 0).toNat : Nat) : Int), Value.int .u8 ((((xs.drop 8).getD 3 0).toNat : Nat) : Int), Value.int .u8 ((((xs.drop 8).getD 4 0).toNat : Nat) : Int), Value.int .u8 ((((xs.drop 8).getD 5 0).toNat : Nat) : Int), Value.int .u8 ((((xs.drop 18).getD 0 0).toNat : Nat) : Int), Value.int .u8 ((((xs.drop 18).getD 1 0).toNat : Nat) : Int), Value.int .u8 ((((xs.drop 18).getD 2 0).toNat : Nat) : Int), Value.int .u8 ((((xs.drop 18).getD 3 0).toNat : Nat) : Int), Value.int .u8 ((((xs.drop 18).getD 4 0).toNat : Nat) : Int), Value.int .u8 ((((xs.drop 18).getD 5 0).toNat : Nat) : Int), Value.int .u32 (((bv (eOut (xs.drop 14) ((size8 4 : Nat) : Int))) % 4294967296 : Nat) : Int), Value.int .u32 (((bv (eOut (xs.drop 24) ((size8 4 : Nat) : Int))) % 4294967296 : Nat) : Int)]) (LL' := [[cb p29 [Value.slice a xs.length cap, Value.int .i64 ((rI xs 24 ((size8 4 : Nat) : Int) : Nat) : Int), Value.bool (eBad (xs.drop 24) (eBad (xs.drop 14) false ((size8 4 : Nat) : Int)) ((size8 4 : Nat) : Int))] 88], [cb p2 [Value.int .u16 (((xs.getD 7 0).toNat : Nat) : Int), Value.int .u8 ((((xs.drop 8).getD 0 0).toNat : Nat) : Int), Value.int .u8 ((((xs.drop 8).getD 1 0).toNat : Nat) : Int), Value.int .u8 ((((xs.drop 8).getD 2 0).toNat : Nat) : Int), Value.int .u8 ((((xs.drop 8).getD 3 0).toNat : Nat) : Int), Value.int .u8 ((((xs.drop 8).getD 4 0).toNat : Nat) : Int), Value.int .u8 ((((xs.drop 8).getD 5 0).toNat : Nat) : Int), Value.int .u8 ((((xs.drop 18).getD 0 0).toNat : Nat) : Int), Value.int .u8 ((((xs.drop 18).getD 1 0).toNat : Nat) : Int), Value.int .u8 ((((xs.drop 18).getD 2 0).toNat : Nat) : Int), Value.int .u8 ((((xs.drop 18).getD 3 0).toNat : Nat) : Int), Value.int .u8 ((((xs.drop 18).getD 4 0).toNat : Nat) : Int), Value.int .u8 ((((xs.drop 18).getD 5 0).toNat : Nat) : Int), Value.int .u32 (((bv (eOut (xs.drop 14) ((size8 4 : Nat) : Int))) % 4294967296 : Nat) : Int), Value.int .u32 (((bv (eOut (xs.drop 24) ((size8 4 : Nat) : Int))) % 4294967296 : Nat) : Int)] 43]]) rfl rfl (by kernel_rfl) (by kernel_rfl) Tryd.sizeOf43 (by simp [Value.oneCell']) rfl rfl (by simp) rfl rfl) (.inl (by kernel_rfl)) (fun _ => ?_)
      refine Wd.yc (v := Value.int .i64 0) rfl rfl rfl (Ys.yc (Ys.pure (fun _ => by kernel_rfl))) (.inl (by kernel_rfl)) ?_
      refine Wd.nil ?_
      refine hK37 _ _ _ ?_
      refine W.pick (LL' := [[cb p2 [Value.int .u16 (((xs.getD 7 0).toNat : Nat) : Int), Value.int .u8 ((((xs.drop 8).getD 0 0).toNat : Nat) : Int), Value.int .u8 ((((xs.drop 8).getD 1 0).toNat : Nat) : Int), Value.int .u8 ((((xs.drop 8).getD 2 0).toNat : Nat) : Int), Value.int .u8 ((((xs.drop 8).getD 3 0).toNat : Nat) : Int), Value.int .u8 ((((xs.drop 8).getD 4 0).toNat : Nat) : Int), Value.int .u8 ((((xs.drop 8).getD 5 0).toNat : Nat) : Int), Value.int .u8 ((((xs.drop 18).getD 0 0).toNat : Nat) : Int), Value.int .u8 ((((xs.drop 18).getD 1 0).toNat : Nat) : Int), Value.int .u8 ((((xs.drop 18).getD 2 0).toNat : Nat) : Int), Value.int .u8 ((((xs.drop 18).getD 3 0).toNat : Nat) : Int), Value.int .u8 ((((xs.drop 18).getD 4 0).toNat : Nat) : Int), Value.int .u8 ((((xs.drop 18).getD 5 0).toNat : Nat) : Int), Value.int .u32 (((bv (eOut (xs.drop 14) ((size8 4 : Nat) : Int))) % 4294967296 : Nat) : Int), Value.int .u32 (((bv (eOut (xs.drop 24) ((size8 4 : Nat) : Int))) % 4294967296 : Nat) : Int)] 43]]) [1] (by decide) rfl ?_
      refine W.prune' [2, 3] [Value.pointer (some ⟨p2, 0, none⟩), Value.int .i64 0] (by kernel_rfl) (fun f41 => ?_)
      refine W.ret ?_
      have hOK : apOK xs = true := (ok7 (by omega)).2 ⟨qh25.1, by have z_ := qh25.2; omega⟩
      have hz7 := (ok7 (by omega)).1 hOK
      have h6_ : (xs.getD 6 0).toNat = 0 := by have z_ : (xs.take 7).getD 6 0 = 0 := (by rw [hz7.1]; rfl); rw [tget (by decide)] at z_; rw [z_]; rfl
      have hK_ : arK xs = (xs.getD 7 0).toNat := by rw [arK_eq (by omega), h6_]; omega
      have hG : aG xs = true := by unfold aG; rw [decide_eq_false (show ¬ xs.length < 28 by omega), hOK]; rfl
      have hC : aC xs = 0 := by unfold aC; rw [if_neg (by omega), hOK]; rfl
      have e14 : eOut (xs.drop 14) ((size8 4 : Nat) : Int) = (xs.drop 14).take 4 := eOut_k (k := 4) (by omega)
      have e24 : eOut (xs.drop 24) ((size8 4 : Nat) : Int) = (xs.drop 24).take 4 := eOut_k (k := 4) (by omega)
      show ∀ w_, _ → bodyPostM (fence none) 0 Tryd.prog Tryd.f28 _ Exit.ret _ w_
      exact fun w_ hS_ => fin_ret (ret2 rfl (RV.cellN (b := p2) (o' := 0) (i := 0) (j := 0) (cs := [Value.int .u16 (((xs.getD 7 0).toNat : Nat) : Int), Value.int .u8 ((((xs.drop 8).getD 0 0).toNat : Nat) : Int), Value.int .u8 ((((xs.drop 8).getD 1 0).toNat : Nat) : Int), Value.int .u8 ((((xs.drop 8).getD 2 0).toNat : Nat) : Int), Value.int .u8 ((((xs.drop 8).getD 3 0).toNat : Nat) : Int), Value.int .u8 ((((xs.drop 8).getD 4 0).toNat : Nat) : Int), Value.int .u8 ((((xs.drop 8).getD 5 0).toNat : Nat) : Int), Value.int .u8 ((((xs.drop 18).getD 0 0).toNat : Nat) : Int), Value.int .u8 ((((xs.drop 18).getD 1 0).toNat : Nat) : Int), Value.int .u8 ((((xs.drop 18).getD 2 0).toNat : Nat) : Int), Value.int .u8 ((((xs.drop 18).getD 3 0).toNat : Nat) : Int), Value.int .u8 ((((xs.drop 18).getD 4 0).toNat : Nat) : Int), Value.int .u8 ((((xs.drop 18).getD 5 0).toNat : Nat) : Int), Value.int .u32 (((bv (eOut (xs.drop 14) ((size8 4 : Nat) : Int))) % 4294967296 : Nat) : Int), Value.int .u32 (((bv (eOut (xs.drop 24) ((size8 4 : Nat) : Int))) % 4294967296 : Nat) : Int)]) (vs := [Value.int .u16 (((xs.getD 7 0).toNat : Nat) : Int), Value.int .u8 ((((xs.drop 8).getD 0 0).toNat : Nat) : Int), Value.int .u8 ((((xs.drop 8).getD 1 0).toNat : Nat) : Int), Value.int .u8 ((((xs.drop 8).getD 2 0).toNat : Nat) : Int), Value.int .u8 ((((xs.drop 8).getD 3 0).toNat : Nat) : Int), Value.int .u8 ((((xs.drop 8).getD 4 0).toNat : Nat) : Int), Value.int .u8 ((((xs.drop 8).getD 5 0).toNat : Nat) : Int), Value.int .u8 ((((xs.drop 18).getD 0 0).toNat : Nat) : Int), Value.int .u8 ((((xs.drop 18).getD 1 0).toNat : Nat) : Int), Value.int .u8 ((((xs.drop 18).getD 2 0).toNat : Nat) : Int), Value.int .u8 ((((xs.drop 18).getD 3 0).toNat : Nat) : Int), Value.int .u8 ((((xs.drop 18).getD 4 0).toNat : Nat) : Int), Value.int .u8 ((((xs.drop 18).getD 5 0).toNat : Nat) : Int), Value.int .u32 (((bv (eOut (xs.drop 14) ((size8 4 : Nat) : Int))) % 4294967296 : Nat) : Int), Value.int .u32 (((bv (eOut (xs.drop 24) ((size8 4 : Nat) : Int))) % 4294967296 : Nat) : Int)]) (by kernel_rfl) Tryd.isAgg43 Tryd.sizeOf43 rfl rfl rfl rfl) (RV.tmp (v := Value.int .i64 0) (by kernel_rfl)) hS_ ⟨by clear hK1 hK3 hK4 hK11 hK12 hK29 hK31 hK35 hK37; refine congrArg Ending.returned ?_; simp only [aO, aM, aN, hG, cond_true, hC, hK_, e14, e24, Nat.mod_eq_of_lt (bv4_lt xs _), tget (ys := xs.drop 8) (k := 6) (i := 0) (by decide), tget (ys := xs.drop 8) (k := 6) (i := 1) (by decide), tget (ys := xs.drop 8) (k := 6) (i := 2) (by decide), tget (ys := xs.drop 8) (k := 6) (i := 3) (by decide), tget (ys := xs.drop 8) (k := 6) (i := 4) (by decide), tget (ys := xs.drop 8) (k := 6) (i := 5) (by decide), tget (ys := xs.drop 18) (k := 6) (i := 0) (by decide), tget (ys := xs.drop 18) (k := 6) (i := 1) (by decide), tget (ys := xs.drop 18) (k := 6) (i := 2) (by decide), tget (ys := xs.drop 18) (k := 6) (i := 3) (by decide), tget (ys := xs.drop 18) (k := 6) (i := 4) (by decide), tget (ys := xs.drop 18) (k := 6) (i := 5) (by decide)]; try rfl, hS_.below⟩)

theorem rrarpn_c (xs : List UInt8) (a : Option Addr) (len cap : Nat) (w : World) (hn : len = xs.length) (hat : At w a (byc xs)) (hlc : len ≤ cap) (hl : len ≤ 70368744177664) : Calls Tryd.prog 28 #[.slice a len cap] w (Ret w (.tuple #[.agg [Value.int .u16 ((aO xs : Nat) : Int), Value.int .u8 (((aM xs 8 0).toNat : Nat) : Int), Value.int .u8 (((aM xs 8 1).toNat : Nat) : Int), Value.int .u8 (((aM xs 8 2).toNat : Nat) : Int), Value.int .u8 (((aM xs 8 3).toNat : Nat) : Int), Value.int .u8 (((aM xs 8 4).toNat : Nat) : Int), Value.int .u8 (((aM xs 8 5).toNat : Nat) : Int), Value.int .u8 (((aM xs 18 0).toNat : Nat) : Int), Value.int .u8 (((aM xs 18 1).toNat : Nat) : Int), Value.int .u8 (((aM xs 18 2).toNat : Nat) : Int), Value.int .u8 (((aM xs 18 3).toNat : Nat) : Int), Value.int .u8 (((aM xs 18 4).toNat : Nat) : Int), Value.int .u8 (((aM xs 18 5).toNat : Nat) : Int), Value.int .u32 ((aN xs 14 : Nat) : Int), Value.int .u32 ((aN xs 24 : Nat) : Int)].toArray, .int .i64 (aC xs)])) := by
  subst hn; exact rrarp_c xs a cap w hat hlc hl

end Go.Proofs.YtnhmajdpjapgjaaDoor.Oct
