import Derived.Test.YtejeafjkhomdoaaKOct10
import Derived.Test.YtejeafjkhomdoaaKVG
set_option linter.unusedVariables false
set_option linter.unusedSimpArgs false
set_option maxRecDepth 20000
namespace Go.Proofs.Ytejeafjkhomdoaa.Oct
open Go.RowKit Base
attribute [local irreducible] Ys Yc Ht HtIn Wl Wd W Mem pf dpf
theorem pairs_iter (xs : List UInt8) (a : Option Addr) (cap : Nat) (p1 : Nat) (M : List Nat) (τ : Type) (yv : Value) (U : τ → List Blk) (Φ : Nat → τ → Prop) (Ψ : τ → Prop) (s0 : τ) (w : World) (hat : At w a (byc xs)) (hne : 0 < (byc xs).length → (a.getD default).block ∉ M) (hy : xs.length ≤ 1000000000) (hyl : (∀ i s (R : List (List Blk)), i < (pw xs).length → Φ i s → Yld Try.prog yv ((fun i : Nat => [Value.int .i64 ((i : Nat) : Int), Value.int .u16 (((pw xs).getD i 0 : Nat) : Int)]) i).toArray (Mem w M (U s :: R)) (fun b w' => ∃ s', (bif b then Φ (i + 1) s' else Ψ s') ∧ Mem w M (U s' :: R) w'))) (h0 : Φ 0 s0) (hl : Mem w M [U s0, [cb p1 [.slice a xs.length cap] 25]] w) : Calls Try.prog 86 #[yv, Value.pointer (some ⟨p1, 0, none⟩)] w (RetM w (fun s : τ => Φ (pw xs).length s ∨ Ψ s) (fun _ => .tuple #[]) M (fun s => [U s, [cb p1 [.slice a xs.length cap] 25]])) := by
  refine calls_W (M := M) (LL := [U s0, [cb p1 [Value.slice a xs.length cap] 25]]) (n := 36) Try.func86 rfl rfl (by simp) (hl) ?_
  refine W.seq (fun K1 hK1 => ?_)
  refine W.region ?_
  refine Wl.run 1 (by kernel_rfl) ?_
  refine Wl.nil ?_
  refine hK1 _ _ _ ?_
  refine W.block ?_
  refine W.loop2 [0, 1, 3] (fun (k : Nat) (s : τ) => [yv, Value.pointer (some ⟨p1, 0, none⟩), nV .i64 (2 * k)]) (fun (k : Nat) (s : τ) => k ≤ (pw xs).length ∧ Φ k s) (fun (k : Nat) (s : τ) => [U s, [cb p1 [Value.slice a xs.length cap] 25]]) (fun (k : Nat) (s : τ) => (pw xs).length - k) 0 s0 (Eq.trans (b := ([yv, Value.pointer (some ⟨p1, 0, none⟩), Value.int .i64 0] : List Value)) (by kernel_rfl) (by simp)) ⟨(Nat.zero_le _), h0⟩ (by rfl) (fun k s f3 J2 hp4 hJ2 => ?_)
  obtain ⟨hk, hphi⟩ := hp4
  have hpl := pw_len xs
  refine W.seq (fun K5 hK5 => ?_)
  refine W.seq (fun K6 hK6 => ?_)
  refine W.region ?_
  refine Wl.run 1 (by kernel_rfl) ?_
  refine Wl.ys (v := Value.slice a xs.length cap) rfl rfl (Ys.load (b := p1) (o' := 0) (i := 1) (j := 0) (cs := [Value.slice a xs.length cap]) (v := Value.slice a xs.length cap) rfl (by kernel_rfl) Try.isAgg25 rfl rfl rfl) ?_
  refine Wl.run 2 (by kernel_rfl) ?_
  refine Wl.nil ?_
  refine hK6 _ _ _ ?_
  refine W.prune' [0, 1, 3, 8] [yv, Value.pointer (some ⟨p1, 0, none⟩), nV .i64 (2 * k), Value.bool (decide (((2 * k : Nat) : Int) < ((xs.length : Nat) : Int)))] (by kernel_rfl) (fun f7 => ?_)
  refine W.cond (decide (((2 * k : Nat) : Int) < ((xs.length : Nat) : Int))) (by kernel_rfl) (fun h8 => ?_) (fun h9 => ?_)
  · have qh8 := h8; try simp only [Bool.and_eq_true, Bool.or_eq_true, Bool.not_eq_true', Bool.not_eq_false', Bool.and_eq_false_iff, Bool.or_eq_false_iff, decide_eq_true_eq, decide_eq_false_iff_not, beq_iff_eq, bne_iff_ne, beq_eq_false_iff_ne, bne_eq_false_iff_eq] at qh8
    refine W.skip' ?_
    refine hK5 _ _ _ ?_
    refine W.prune' [0, 1, 3] [yv, Value.pointer (some ⟨p1, 0, none⟩), nV .i64 (2 * k)] (by kernel_rfl) (fun f10 => ?_)
    refine W.seq (fun K11 hK11 => ?_)
    refine W.block ?_
    refine W.seq (fun K12 hK12 => ?_)
    refine W.region ?_
    refine Wl.ys (v := Value.slice a xs.length cap) rfl rfl (Ys.load (b := p1) (o' := 0) (i := 1) (j := 0) (cs := [Value.slice a xs.length cap]) (v := Value.slice a xs.length cap) rfl (by kernel_rfl) Try.isAgg25 rfl rfl rfl) ?_
    refine Wl.run 1 (by kernel_rfl) ?_
    refine Wl.ys (v := Value.pointer (some (ela a ((2 * k) * 1)))) rfl rfl (Ys.byMem fun w_ h_ => Ys.indexAddr (k := .i64) (a := a) (len := xs.length) (cap := cap) (i := ((2 * k : Nat) : Int)) (sz := 1) rfl (by kernel_rfl) (by kernel_rfl) Try.runUnderlying25 Try.sizeOf5 (by omega) (by omega) ((hat.mem' h_ hne).here (by rw [mc_len]; first | omega | (simp; omega)))) ?_
    refine Wl.ys (v := nV .u8 ((xs.getD (2 * k) 0).toNat)) rfl rfl (Ys.ld (a := ela a ((2 * k) * 1)) rfl (by kernel_rfl) Try.isAgg5 (fun w_ h_ => (hat.mem' h_ hne).ld (mc_get1 0 (by first | omega | (simp; omega))))) ?_
    have hb13 : (xs.getD (2 * k) 0).toNat < 256 := UInt8.toNat_lt _
    refine Wl.ys (v := nV .u16 ((xs.getD (2 * k) 0).toNat)) rfl rfl ((Ys.pure (v := .int .u16 (icnv .u16 (((xs.getD (2 * k) 0).toNat : Nat) : Int))) (fun _ => by kernel_rfl)).conseq (int_congr (wrap_u16 (by omega) (by omega)))) ?_
    refine Wl.ys (v := nV .u16 ((((xs.getD (2 * k) 0).toNat) * 256) % 65536)) rfl rfl ((Ys.pure (v := .int .u16 (ishl .u16 (((xs.getD (2 * k) 0).toNat : Nat) : Int) ((8 : Nat) : Int))) (fun _ => by kernel_rfl)).conseq (int_congr (ishl_mod rfl ((xs.getD (2 * k) 0).toNat) 8 (by decide)))) ?_
    refine Wl.run 1 (by kernel_rfl) ?_
    refine Wl.nil ?_
    refine hK12 _ _ _ ?_
    refine W.prune' [0, 1, 3, 4] [yv, Value.pointer (some ⟨p1, 0, none⟩), nV .i64 (2 * k), nV .u16 ((((xs.getD (2 * k) 0).toNat) * 256) % 65536)] (by kernel_rfl) (fun f14 => ?_)
    refine W.seq (fun K15 hK15 => ?_)
    refine W.meet0 (w0 := w) (M := M) K15 [0, 1, 3, 4] ([yv, Value.pointer (some ⟨p1, 0, none⟩), nV .i64 (2 * k), nV .u16 ((pw xs).getD k 0)]) (True) ([U s, [cb p1 [Value.slice a xs.length cap] 25]]) (fun J16 hJ16 => ?_) (fun  f17 hp18 => ?_)
    · refine W.seq (fun K19 hK19 => ?_)
      refine W.region ?_
      refine Wl.run 1 (by kernel_rfl) ?_
      refine Wl.ys (v := nV .i64 ((2 * k) + 1)) rfl rfl ((Ys.pure (v := .int .i64 (iadd .i64 ((2 * k : Nat) : Int) 1)) (fun _ => by kernel_rfl)).conseq (int_congr (iadd_eq (by omega) (by omega) (by omega)))) ?_
      refine Wl.ys (v := Value.slice a xs.length cap) rfl rfl (Ys.load (b := p1) (o' := 0) (i := 1) (j := 0) (cs := [Value.slice a xs.length cap]) (v := Value.slice a xs.length cap) rfl (by kernel_rfl) Try.isAgg25 rfl rfl rfl) ?_
      refine Wl.run 2 (by kernel_rfl) ?_
      refine Wl.nil ?_
      refine hK19 _ _ _ ?_
      refine W.prune' [0, 1, 3, 4, 21] [yv, Value.pointer (some ⟨p1, 0, none⟩), nV .i64 (2 * k), nV .u16 ((((xs.getD (2 * k) 0).toNat) * 256) % 65536), Value.bool (decide ((((2 * k) + 1 : Nat) : Int) < ((xs.length : Nat) : Int)))] (by kernel_rfl) (fun f20 => ?_)
      refine W.cond (decide ((((2 * k) + 1 : Nat) : Int) < ((xs.length : Nat) : Int))) (by kernel_rfl) (fun h21 => ?_) (fun h22 => ?_)
      · have qh21 := h21; try simp only [Bool.and_eq_true, Bool.or_eq_true, Bool.not_eq_true', Bool.not_eq_false', Bool.and_eq_false_iff, Bool.or_eq_false_iff, decide_eq_true_eq, decide_eq_false_iff_not, beq_iff_eq, bne_iff_ne, beq_eq_false_iff_ne, bne_eq_false_iff_eq] at qh21
        refine W.region ?_
        refine Wl.run 1 (by kernel_rfl) ?_
        refine Wl.ys (v := Value.slice a xs.length cap) rfl rfl (Ys.load (b := p1) (o' := 0) (i := 1) (j := 0) (cs := [Value.slice a xs.length cap]) (v := Value.slice a xs.length cap) rfl (by kernel_rfl) Try.isAgg25 rfl rfl rfl) ?_
        refine Wl.run 1 (by kernel_rfl) ?_
        refine Wl.ys (v := nV .i64 ((2 * k) + 1)) rfl rfl ((Ys.pure (v := .int .i64 (iadd .i64 ((2 * k : Nat) : Int) 1)) (fun _ => by kernel_rfl)).conseq (int_congr (iadd_eq (by omega) (by omega) (by omega)))) ?_
        refine Wl.ys (v := Value.pointer (some (ela a (((2 * k) + 1) * 1)))) rfl rfl (Ys.byMem fun w_ h_ => Ys.indexAddr (k := .i64) (a := a) (len := xs.length) (cap := cap) (i := (((2 * k) + 1 : Nat) : Int)) (sz := 1) rfl (by kernel_rfl) (by kernel_rfl) Try.runUnderlying25 Try.sizeOf5 (by omega) (by omega) ((hat.mem' h_ hne).here (by rw [mc_len]; first | omega | (simp; omega)))) ?_
        refine Wl.ys (v := nV .u8 ((xs.getD ((2 * k) + 1) 0).toNat)) rfl rfl (Ys.ld (a := ela a (((2 * k) + 1) * 1)) rfl (by kernel_rfl) Try.isAgg5 (fun w_ h_ => (hat.mem' h_ hne).ld (mc_get1 0 (by first | omega | (simp; omega))))) ?_
        have hb23 : (xs.getD ((2 * k) + 1) 0).toNat < 256 := UInt8.toNat_lt _
        refine Wl.ys (v := nV .u16 ((xs.getD ((2 * k) + 1) 0).toNat)) rfl rfl ((Ys.pure (v := .int .u16 (icnv .u16 (((xs.getD ((2 * k) + 1) 0).toNat : Nat) : Int))) (fun _ => by kernel_rfl)).conseq (int_congr (wrap_u16 (by omega) (by omega)))) ?_
        refine Wl.ys (v := nV .u16 (((((xs.getD (2 * k) 0).toNat) * 256) % 65536) ||| ((xs.getD ((2 * k) + 1) 0).toNat))) rfl rfl ((Ys.pure (v := .int .u16 (bor .u16 (((((xs.getD (2 * k) 0).toNat) * 256) % 65536 : Nat) : Int) (((xs.getD ((2 * k) + 1) 0).toNat : Nat) : Int))) (fun _ => by kernel_rfl)).conseq (int_congr (bor_nat rfl (by show _ < 65536; omega) (by show _ < 65536; omega)))) ?_
        refine Wl.run 1 (by kernel_rfl) ?_
        refine Wl.nil ?_
        refine fun w_ h_ => hJ16 _ w_ trivial ?_ h_
        refine Eq.trans (b := ([yv, Value.pointer (some ⟨p1, 0, none⟩), nV .i64 (2 * k), nV .u16 (((((xs.getD (2 * k) 0).toNat) * 256) % 65536) ||| ((xs.getD ((2 * k) + 1) 0).toNat))] : List Value)) (by kernel_rfl) (by rw [pw_or (by omega)])
      · have qh22 := h22; try simp only [Bool.and_eq_true, Bool.or_eq_true, Bool.not_eq_true', Bool.not_eq_false', Bool.and_eq_false_iff, Bool.or_eq_false_iff, decide_eq_true_eq, decide_eq_false_iff_not, beq_iff_eq, bne_iff_ne, beq_eq_false_iff_ne, bne_eq_false_iff_eq] at qh22
        refine W.skip' ?_
        refine fun w_ h_ => hJ16 _ w_ trivial ?_ h_
        refine Eq.trans (b := ([yv, Value.pointer (some ⟨p1, 0, none⟩), nV .i64 (2 * k), nV .u16 ((((xs.getD (2 * k) 0).toNat) * 256) % 65536)] : List Value)) (by kernel_rfl) (by rw [pw_lone (by omega) (by omega)])
    · refine hK15 _ _ _ ?_
      refine W.seq (fun K24 hK24 => ?_)
      refine W.region ?_
      refine Wl.run 2 (by kernel_rfl) ?_
      refine Wl.ys (v := nV .i64 ((2 * k) / 2)) rfl rfl ((Ys.pure (v := .int .i64 (iquo .i64 ((2 * k : Nat) : Int) 2)) (fun _ => by kernel_rfl)).conseq (int_congr (iquo_nat (by omega)))) ?_
      refine Wl.run 1 (by kernel_rfl) ?_
      refine Wl.htIn rfl (HtIn.yield (σ := τ) (Φ := fun b s => bif b then Φ (k + 1) s else Ψ s) (Lf := fun s => [U s, [cb p1 [Value.slice a xs.length cap] 25]]) (args := #[nV .i64 ((2 * k) / 2), nV .u16 ((pw xs).getD k 0)]) rfl rfl (fun _ => by kernel_rfl) (Yld.cast (by have he_ : 2 * k / 2 = k := (by omega); try rw [he_]) (hyl (k) s [[cb p1 [Value.slice a xs.length cap] 25]] (by omega) hphi))) (fun x28 => ?_)
      obtain ⟨⟨b25, s26⟩, hs27⟩ := x28
      refine Wl.castL (LL' := [U s26, [cb p1 [Value.slice a xs.length cap] 25]]) rfl ?_
      refine Wl.run 1 (by kernel_rfl) ?_
      refine Wl.nil ?_
      refine hK24 _ _ _ ?_
      refine W.prune' [0, 1, 3, 35] [yv, Value.pointer (some ⟨p1, 0, none⟩), nV .i64 (2 * k), Value.bool (!b25)] (by kernel_rfl) (fun f29 => ?_)
      refine W.cond (!b25) (by kernel_rfl) (fun h30 => ?_) (fun h31 => ?_)
      · refine W.ret ?_
        show ∀ w_, _ → bodyPostM (fence none) 0 Try.prog Try.f86 _ Exit.ret _ w_
        exact fun w_ hS_ => fin_ret (ret0 rfl  ⟨s26, (.inr (by have hb_ : b25 = false := (by simpa using h30); rw [hb_] at hs27; exact hs27)), rfl, hS_⟩)
      · refine W.skip' ?_
        refine hK11 _ _ _ ?_
        refine W.prune' [0, 1, 3] [yv, Value.pointer (some ⟨p1, 0, none⟩), nV .i64 (2 * k)] (by kernel_rfl) (fun f32 => ?_)
        refine W.region ?_
        refine Wl.run 1 (by kernel_rfl) ?_
        refine Wl.ys (v := nV .i64 ((2 * k) + 2)) rfl rfl ((Ys.pure (v := .int .i64 (iadd .i64 ((2 * k : Nat) : Int) 2)) (fun _ => by kernel_rfl)).conseq (int_congr (iadd_eq (by omega) (by omega) (by omega)))) ?_
        refine Wl.run 1 (by kernel_rfl) ?_
        refine Wl.nil ?_
        refine fun w_ h_ => hJ2 (k + 1) s26 _ w_ (by omega) ⟨(by omega), (by have hb_ : b25 = true := (by simpa using h31); rw [hb_] at hs27; exact hs27)⟩ ?_ h_
        refine Eq.trans (b := ([yv, Value.pointer (some ⟨p1, 0, none⟩), nV .i64 ((2 * k) + 2)] : List Value)) (by kernel_rfl) (by simp; try omega)
  · have qh9 := h9; try simp only [Bool.and_eq_true, Bool.or_eq_true, Bool.not_eq_true', Bool.not_eq_false', Bool.and_eq_false_iff, Bool.or_eq_false_iff, decide_eq_true_eq, decide_eq_false_iff_not, beq_iff_eq, bne_iff_ne, beq_eq_false_iff_ne, bne_eq_false_iff_eq] at qh9
    refine W.exit ?_
    show ∀ w_, _ → bodyPostM (fence none) 0 Try.prog Try.f86 _ Exit.normal _ w_
    exact fun w_ hS_ => fin_normal (ret0 rfl  ⟨s, (.inl (by rw [show (pw xs).length = k by omega]; exact hphi)), rfl, hS_⟩)
theorem pairs_it (xs : List UInt8) (a : Option Addr) (len cap : Nat) (p1 : Nat) (M : List Nat) (w : World) (hn : len = xs.length) (hat : At w a (byc xs)) (hne : 0 < (byc xs).length → (a.getD default).block ∉ M) (hy : xs.length ≤ 1000000000) :
    Iter Try.prog 86 #[.pointer (some ⟨p1, 0, none⟩)] (fun i : Nat => [Value.int .i64 ((i : Nat) : Int), Value.int .u16 (((pw xs).getD i 0 : Nat) : Int)]) (pw xs).length [[cb p1 [.slice a len cap] 25]] w M := by
  subst hn; exact fun τ yv U Φ Ψ s0 hyl h0 hl => pairs_iter xs a cap p1 M τ yv U Φ Ψ s0 w hat hne hy hyl h0 hl
end Go.Proofs.Ytejeafjkhomdoaa.Oct
