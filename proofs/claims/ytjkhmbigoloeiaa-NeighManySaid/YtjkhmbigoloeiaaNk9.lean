/-
  Hosts: Find, Len, New. No condition.
-/
import Derived.Test.YtjkhmbigoloeiaaNk8
import Derived.Test.YtjkhmbigoloeiaaCg
set_option linter.unusedVariables false
set_option linter.unusedSimpArgs false
set_option maxRecDepth 20000
namespace Go.Proofs.Ytjkhmbigoloeiaa.Oct
open Go.RowKit Base
attribute [local irreducible] Ys Yc Ht HtS HtIn Wl Wd W Mem pf dpf Wa Wo

/-- Is a host's address known? -/
def fndB (xs : List (Int × Host)) (k n : Int) : Bool := hasK xs k && !(decide ((getK (⟨0, 0, 0, 0, 0, 0, 0⟩ : Host) xs k).ends ≤ n))
theorem fnd_one {k n : Int} {v : Host} {b : Bool} (h : decide (v.ends ≤ n) = b) : fndB [(k, v)] k n = !b := by subst h; simp [fndB, hasK, getK]
theorem get_one {k : Int} {v z : Host} : getK z [(k, v)] k = v := by simp [getK]
/-- Two cells that are one or the other. -/
theorem lrn_nil {X : List (Int × Host)} {a : Int} {v : Host} (h : Lrn [] X a v) : X = [(a, v)] := by
  have hl : X.length = 1 := h.len
  match X, hl with
  | [p], _ => have := h.mem; simp at this; rw [this]
theorem find9_c (xs : List (Int × Host)) (a : Option Addr) (cap : Nat) (most : Int) (tb : Nat) (hx : Option Addr) (hn_ hc_ : Nat) (c : Nat) (k n : Int) (w : World) (htb : At w (some ⟨tb, 0, none⟩) [Value.slice a xs.length cap, Value.int .i64 most, Value.func (.func 37) #[] #[]]) (hls : At w a (mm prH xs)) (hn : xs.length ≤ 100000) (hs : Srt LO.int xs) (hcc : At w (some ⟨c, 0, none⟩) [Value.pointer (some ⟨tb, 0, none⟩), Value.slice hx hn_ hc_]) : Calls Try.prog 13 #[Value.pointer (some ⟨c, 0, none⟩), Value.int .u32 k, Value.int .u64 n] w (Ret w (Value.tuple #[Value.agg ([Value.int .u8 (bif fndB xs k n then (getK (⟨0, 0, 0, 0, 0, 0, 0⟩ : Host) xs k).m0 else 0), Value.int .u8 (bif fndB xs k n then (getK (⟨0, 0, 0, 0, 0, 0, 0⟩ : Host) xs k).m1 else 0), Value.int .u8 (bif fndB xs k n then (getK (⟨0, 0, 0, 0, 0, 0, 0⟩ : Host) xs k).m2 else 0), Value.int .u8 (bif fndB xs k n then (getK (⟨0, 0, 0, 0, 0, 0, 0⟩ : Host) xs k).m3 else 0), Value.int .u8 (bif fndB xs k n then (getK (⟨0, 0, 0, 0, 0, 0, 0⟩ : Host) xs k).m4 else 0), Value.int .u8 (bif fndB xs k n then (getK (⟨0, 0, 0, 0, 0, 0, 0⟩ : Host) xs k).m5 else 0)]).toArray, Value.bool (fndB xs k n)])) := by
  refine calls_W (M := []) (LL := []) (n := 30) Try.func13 rfl rfl (by simp) (Mem.refl _) ?_
  refine W.seq (fun K1 hK1 => ?_)
  refine W.region ?_
  refine Wl.ht rfl (Ht.alloc (z := Value.agg ([Value.int .u8 0, Value.int .u8 0, Value.int .u8 0, Value.int .u8 0, Value.int .u8 0, Value.int .u8 0]).toArray) (cs := [Value.int .u8 0, Value.int .u8 0, Value.int .u8 0, Value.int .u8 0, Value.int .u8 0, Value.int .u8 0]) rfl rfl Try.zeroValue23 rfl) (fun p6 => ?_)
  refine Wl.run 1 (by kernel_rfl) ?_
  refine Wl.nil ?_
  refine hK1 _ _ _ ?_
  refine W.prune' [0, 1, 2, 6] [Value.pointer (some ⟨c, 0, none⟩), Value.int .u32 k, Value.int .u64 n, Value.pointer (some ⟨p6, 0, none⟩)] (by kernel_rfl) (fun f2 => ?_)
  refine W.seq (fun K3 hK3 => ?_)
  refine W.region ?_
  refine Wl.run 3 (by kernel_rfl) ?_
  refine Wl.ys (v := Value.pointer (some ⟨tb, 0, none⟩)) rfl rfl (Ys.ld (a := ⟨c, 0, none⟩) rfl (by kernel_rfl) Try.isAgg89 (fun w_ h_ => by have x_ := (hcc.mem0 h_).ld (q := 0) (v := Value.pointer (some ⟨tb, 0, none⟩)) rfl; rw [ela_own0] at x_; exact x_)) ?_
  refine Wl.run 1 (by kernel_rfl) ?_
  refine Wl.yc (v := Value.tuple #[Value.agg ([Value.int .u8 ((getK (⟨0, 0, 0, 0, 0, 0, 0⟩ : Host) xs k).m0), Value.int .u8 ((getK (⟨0, 0, 0, 0, 0, 0, 0⟩ : Host) xs k).m1), Value.int .u8 ((getK (⟨0, 0, 0, 0, 0, 0, 0⟩ : Host) xs k).m2), Value.int .u8 ((getK (⟨0, 0, 0, 0, 0, 0, 0⟩ : Host) xs k).m3), Value.int .u8 ((getK (⟨0, 0, 0, 0, 0, 0, 0⟩ : Host) xs k).m4), Value.int .u8 ((getK (⟨0, 0, 0, 0, 0, 0, 0⟩ : Host) xs k).m5), Value.int .u64 ((getK (⟨0, 0, 0, 0, 0, 0, 0⟩ : Host) xs k).ends)]).toArray, Value.bool (hasK xs k)]) rfl rfl (Yc.call (k := 39) (args := #[Value.pointer (some ⟨tb, 0, none⟩), Value.int .u32 k]) (fun _ => by kernel_rfl) (fun w_ hm_ => (getH_c xs a cap most tb k _ (htb.mem0 hm_) (hls.mem0 hm_) (by first | omega | (simp; done)) hs))) ?_
  refine Wl.run 3 (by kernel_rfl) ?_
  refine Wl.ht rfl (Ht.alloc (z := Value.agg ([Value.int .u8 0, Value.int .u8 0, Value.int .u8 0, Value.int .u8 0, Value.int .u8 0, Value.int .u8 0, Value.int .u64 0]).toArray) (cs := [Value.int .u8 0, Value.int .u8 0, Value.int .u8 0, Value.int .u8 0, Value.int .u8 0, Value.int .u8 0, Value.int .u64 0]) rfl rfl Try.zeroValue92 rfl) (fun p8 => ?_)
  refine Wl.ht rfl (Ht.storeN (b := p8) (o' := 0) (i := 0) (j := 0) (cs := [Value.int .u8 0, Value.int .u8 0, Value.int .u8 0, Value.int .u8 0, Value.int .u8 0, Value.int .u8 0, Value.int .u64 0]) (vs := [Value.int .u8 ((getK (⟨0, 0, 0, 0, 0, 0, 0⟩ : Host) xs k).m0), Value.int .u8 ((getK (⟨0, 0, 0, 0, 0, 0, 0⟩ : Host) xs k).m1), Value.int .u8 ((getK (⟨0, 0, 0, 0, 0, 0, 0⟩ : Host) xs k).m2), Value.int .u8 ((getK (⟨0, 0, 0, 0, 0, 0, 0⟩ : Host) xs k).m3), Value.int .u8 ((getK (⟨0, 0, 0, 0, 0, 0, 0⟩ : Host) xs k).m4), Value.int .u8 ((getK (⟨0, 0, 0, 0, 0, 0, 0⟩ : Host) xs k).m5), Value.int .u64 ((getK (⟨0, 0, 0, 0, 0, 0, 0⟩ : Host) xs k).ends)]) (cs' := [Value.int .u8 ((getK (⟨0, 0, 0, 0, 0, 0, 0⟩ : Host) xs k).m0), Value.int .u8 ((getK (⟨0, 0, 0, 0, 0, 0, 0⟩ : Host) xs k).m1), Value.int .u8 ((getK (⟨0, 0, 0, 0, 0, 0, 0⟩ : Host) xs k).m2), Value.int .u8 ((getK (⟨0, 0, 0, 0, 0, 0, 0⟩ : Host) xs k).m3), Value.int .u8 ((getK (⟨0, 0, 0, 0, 0, 0, 0⟩ : Host) xs k).m4), Value.int .u8 ((getK (⟨0, 0, 0, 0, 0, 0, 0⟩ : Host) xs k).m5), Value.int .u64 ((getK (⟨0, 0, 0, 0, 0, 0, 0⟩ : Host) xs k).ends)]) (LL' := [[cb p8 [Value.int .u8 ((getK (⟨0, 0, 0, 0, 0, 0, 0⟩ : Host) xs k).m0), Value.int .u8 ((getK (⟨0, 0, 0, 0, 0, 0, 0⟩ : Host) xs k).m1), Value.int .u8 ((getK (⟨0, 0, 0, 0, 0, 0, 0⟩ : Host) xs k).m2), Value.int .u8 ((getK (⟨0, 0, 0, 0, 0, 0, 0⟩ : Host) xs k).m3), Value.int .u8 ((getK (⟨0, 0, 0, 0, 0, 0, 0⟩ : Host) xs k).m4), Value.int .u8 ((getK (⟨0, 0, 0, 0, 0, 0, 0⟩ : Host) xs k).m5), Value.int .u64 ((getK (⟨0, 0, 0, 0, 0, 0, 0⟩ : Host) xs k).ends)] 92], [cb p6 [Value.int .u8 0, Value.int .u8 0, Value.int .u8 0, Value.int .u8 0, Value.int .u8 0, Value.int .u8 0] 23]]) rfl rfl (by kernel_rfl) (by kernel_rfl) Try.sizeOf92 (by simp [Value.oneCell']) rfl rfl (by simp) rfl rfl) (fun _ => ?_)
  refine Wl.run 1 (by kernel_rfl) ?_
  refine Wl.nil ?_
  refine hK3 _ _ _ ?_
  refine W.prune' [2, 6, 8, 9] [Value.int .u64 n, Value.pointer (some ⟨p6, 0, none⟩), Value.pointer (some ⟨p8, 0, none⟩), Value.bool (hasK xs k)] (by kernel_rfl) (fun f4 => ?_)
  refine W.seq (fun K5 hK5 => ?_)
  refine W.seq (fun K6 hK6 => ?_)
  refine W.region ?_
  refine Wl.run 3 (by kernel_rfl) ?_
  refine Wl.guard (v := Value.pointer (some ⟨p8, 6, none⟩)) (!(!(hasK xs k))) rfl (wantF rfl (by kernel_rfl)) rfl (fun hg7 => ?_) ?_
  · exact Ys.pure (fun _ => by kernel_rfl)
  refine Wl.guard (v := Value.int .u64 ((getK (⟨0, 0, 0, 0, 0, 0, 0⟩ : Host) xs k).ends)) (!(!(hasK xs k))) rfl (wantF rfl (by kernel_rfl)) rfl (fun hg8 => ?_) ?_
  · refine Ys.at (t := 22) (v0 := Value.pointer (some ⟨p8, 6, none⟩)) (lz (g := !(!(hasK xs k))) (u := undef) hg8 (by kernel_rfl)) ?_
    exact Ys.load (b := p8) (o' := 6) (i := 0) (j := 0) (cs := [Value.int .u8 ((getK (⟨0, 0, 0, 0, 0, 0, 0⟩ : Host) xs k).m0), Value.int .u8 ((getK (⟨0, 0, 0, 0, 0, 0, 0⟩ : Host) xs k).m1), Value.int .u8 ((getK (⟨0, 0, 0, 0, 0, 0, 0⟩ : Host) xs k).m2), Value.int .u8 ((getK (⟨0, 0, 0, 0, 0, 0, 0⟩ : Host) xs k).m3), Value.int .u8 ((getK (⟨0, 0, 0, 0, 0, 0, 0⟩ : Host) xs k).m4), Value.int .u8 ((getK (⟨0, 0, 0, 0, 0, 0, 0⟩ : Host) xs k).m5), Value.int .u64 ((getK (⟨0, 0, 0, 0, 0, 0, 0⟩ : Host) xs k).ends)]) (v := Value.int .u64 ((getK (⟨0, 0, 0, 0, 0, 0, 0⟩ : Host) xs k).ends)) rfl (by kernel_rfl) Try.isAgg39 rfl rfl rfl
  refine Wl.guard (v := Value.int .u64 n) (!(!(hasK xs k))) rfl (wantF rfl (by kernel_rfl)) rfl (fun hg9 => ?_) ?_
  · exact Ys.pure (fun _ => by kernel_rfl)
  refine Wl.guard (v := Value.bool (decide (((getK (⟨0, 0, 0, 0, 0, 0, 0⟩ : Host) xs k).ends) ≤ n))) (!(!(hasK xs k))) rfl (wantF rfl (by kernel_rfl)) rfl (fun hg10 => ?_) ?_
  · refine Ys.at (t := 23) (v0 := Value.int .u64 ((getK (⟨0, 0, 0, 0, 0, 0, 0⟩ : Host) xs k).ends)) (lz (g := !(!(hasK xs k))) (u := undef) hg10 (by kernel_rfl)) ?_
    refine Ys.at (t := 24) (v0 := Value.int .u64 n) (lz (g := !(!(hasK xs k))) (u := undef) hg10 (by kernel_rfl)) ?_
    exact Ys.pure (fun _ => by kernel_rfl)
  refine Wl.ys (v := Value.bool ((!(hasK xs k)) || (decide (((getK (⟨0, 0, 0, 0, 0, 0, 0⟩ : Host) xs k).ends) ≤ n)))) rfl rfl (Ys.or' (e := !(hasK xs k)) (b := decide (((getK (⟨0, 0, 0, 0, 0, 0, 0⟩ : Host) xs k).ends) ≤ n)) rfl (by kernel_rfl) (by kernel_rfl) (by kernel_rfl)) ?_
  refine Wl.nil ?_
  refine hK6 _ _ _ ?_
  refine W.prune' [6, 8, 26] [Value.pointer (some ⟨p6, 0, none⟩), Value.pointer (some ⟨p8, 0, none⟩), Value.bool ((!(hasK xs k)) || (decide (((getK (⟨0, 0, 0, 0, 0, 0, 0⟩ : Host) xs k).ends) ≤ n)))] (by kernel_rfl) (fun f11 => ?_)
  refine W.cond ((!(hasK xs k)) || (decide (((getK (⟨0, 0, 0, 0, 0, 0, 0⟩ : Host) xs k).ends) ≤ n))) (by kernel_rfl) (fun h12 => ?_) (fun h13 => ?_)
  · have qh12 := h12; try simp only [Bool.and_eq_true, Bool.or_eq_true, Bool.not_eq_true', Bool.not_eq_false', Bool.and_eq_false_iff, Bool.or_eq_false_iff, decide_eq_true_eq, decide_eq_false_iff_not, beq_iff_eq, bne_iff_ne, beq_eq_false_iff_ne, bne_eq_false_iff_eq] at qh12
    refine W.seq (fun K14 hK14 => ?_)
    refine W.region ?_
    refine Wl.run 1 (by kernel_rfl) ?_
    refine Wl.ht rfl (Ht.storeN (b := p6) (o' := 0) (i := 1) (j := 0) (cs := [Value.int .u8 0, Value.int .u8 0, Value.int .u8 0, Value.int .u8 0, Value.int .u8 0, Value.int .u8 0]) (vs := [Value.int .u8 0, Value.int .u8 0, Value.int .u8 0, Value.int .u8 0, Value.int .u8 0, Value.int .u8 0]) (cs' := [Value.int .u8 0, Value.int .u8 0, Value.int .u8 0, Value.int .u8 0, Value.int .u8 0, Value.int .u8 0]) (LL' := [[cb p8 [Value.int .u8 ((getK (⟨0, 0, 0, 0, 0, 0, 0⟩ : Host) xs k).m0), Value.int .u8 ((getK (⟨0, 0, 0, 0, 0, 0, 0⟩ : Host) xs k).m1), Value.int .u8 ((getK (⟨0, 0, 0, 0, 0, 0, 0⟩ : Host) xs k).m2), Value.int .u8 ((getK (⟨0, 0, 0, 0, 0, 0, 0⟩ : Host) xs k).m3), Value.int .u8 ((getK (⟨0, 0, 0, 0, 0, 0, 0⟩ : Host) xs k).m4), Value.int .u8 ((getK (⟨0, 0, 0, 0, 0, 0, 0⟩ : Host) xs k).m5), Value.int .u64 ((getK (⟨0, 0, 0, 0, 0, 0, 0⟩ : Host) xs k).ends)] 92], [cb p6 [Value.int .u8 0, Value.int .u8 0, Value.int .u8 0, Value.int .u8 0, Value.int .u8 0, Value.int .u8 0] 23]]) rfl rfl (by kernel_rfl) (by kernel_rfl) Try.sizeOf23 (by simp [Value.oneCell']) rfl rfl (by simp) rfl rfl) (fun _ => ?_)
    refine Wl.run 1 (by kernel_rfl) ?_
    refine Wl.nil ?_
    refine hK14 _ _ _ ?_
    refine W.pick (LL' := [[cb p6 [Value.int .u8 0, Value.int .u8 0, Value.int .u8 0, Value.int .u8 0, Value.int .u8 0, Value.int .u8 0] 23]]) [1] (by decide) rfl ?_
    refine W.prune' [6, 7] [Value.pointer (some ⟨p6, 0, none⟩), Value.bool false] (by kernel_rfl) (fun f15 => ?_)
    refine W.ret ?_
    have hF : fndB xs k n = false := by unfold fndB; have z_ := h12; revert z_; cases hasK xs k <;> cases (decide ((getK (⟨0, 0, 0, 0, 0, 0, 0⟩ : Host) xs k).ends ≤ n)) <;> simp
    show ∀ w_, _ → bodyPostM (fence none) 0 Try.prog Try.f13 _ Exit.ret _ w_
    exact fun w_ hS_ => fin_ret (ret2 rfl (RV.cellN (b := p6) (o' := 0) (i := 0) (j := 0) (cs := [Value.int .u8 0, Value.int .u8 0, Value.int .u8 0, Value.int .u8 0, Value.int .u8 0, Value.int .u8 0]) (vs := [Value.int .u8 0, Value.int .u8 0, Value.int .u8 0, Value.int .u8 0, Value.int .u8 0, Value.int .u8 0]) (by kernel_rfl) Try.isAgg23 Try.sizeOf23 rfl rfl rfl rfl) (RV.tmp (v := Value.bool false) (by kernel_rfl)) hS_ ⟨by clear hK1 hK3 hK5 hK6 hK14; refine congrArg Ending.returned ?_; rw [hF]; rfl, hS_.below⟩)
  · have qh13 := h13; try simp only [Bool.and_eq_true, Bool.or_eq_true, Bool.not_eq_true', Bool.not_eq_false', Bool.and_eq_false_iff, Bool.or_eq_false_iff, decide_eq_true_eq, decide_eq_false_iff_not, beq_iff_eq, bne_iff_ne, beq_eq_false_iff_ne, bne_eq_false_iff_eq] at qh13
    refine W.skip' ?_
    refine hK5 _ _ _ ?_
    refine W.prune' [6, 8] [Value.pointer (some ⟨p6, 0, none⟩), Value.pointer (some ⟨p8, 0, none⟩)] (by kernel_rfl) (fun f16 => ?_)
    refine W.seq (fun K17 hK17 => ?_)
    refine W.region ?_
    refine Wl.run 1 (by kernel_rfl) ?_
    refine Wl.ys (v := Value.agg ([Value.int .u8 ((getK (⟨0, 0, 0, 0, 0, 0, 0⟩ : Host) xs k).m0), Value.int .u8 ((getK (⟨0, 0, 0, 0, 0, 0, 0⟩ : Host) xs k).m1), Value.int .u8 ((getK (⟨0, 0, 0, 0, 0, 0, 0⟩ : Host) xs k).m2), Value.int .u8 ((getK (⟨0, 0, 0, 0, 0, 0, 0⟩ : Host) xs k).m3), Value.int .u8 ((getK (⟨0, 0, 0, 0, 0, 0, 0⟩ : Host) xs k).m4), Value.int .u8 ((getK (⟨0, 0, 0, 0, 0, 0, 0⟩ : Host) xs k).m5)]).toArray) rfl rfl (Ys.loadN (b := p8) (o' := 0) (i := 0) (j := 0) (cs := [Value.int .u8 ((getK (⟨0, 0, 0, 0, 0, 0, 0⟩ : Host) xs k).m0), Value.int .u8 ((getK (⟨0, 0, 0, 0, 0, 0, 0⟩ : Host) xs k).m1), Value.int .u8 ((getK (⟨0, 0, 0, 0, 0, 0, 0⟩ : Host) xs k).m2), Value.int .u8 ((getK (⟨0, 0, 0, 0, 0, 0, 0⟩ : Host) xs k).m3), Value.int .u8 ((getK (⟨0, 0, 0, 0, 0, 0, 0⟩ : Host) xs k).m4), Value.int .u8 ((getK (⟨0, 0, 0, 0, 0, 0, 0⟩ : Host) xs k).m5), Value.int .u64 ((getK (⟨0, 0, 0, 0, 0, 0, 0⟩ : Host) xs k).ends)]) (vs := [Value.int .u8 ((getK (⟨0, 0, 0, 0, 0, 0, 0⟩ : Host) xs k).m0), Value.int .u8 ((getK (⟨0, 0, 0, 0, 0, 0, 0⟩ : Host) xs k).m1), Value.int .u8 ((getK (⟨0, 0, 0, 0, 0, 0, 0⟩ : Host) xs k).m2), Value.int .u8 ((getK (⟨0, 0, 0, 0, 0, 0, 0⟩ : Host) xs k).m3), Value.int .u8 ((getK (⟨0, 0, 0, 0, 0, 0, 0⟩ : Host) xs k).m4), Value.int .u8 ((getK (⟨0, 0, 0, 0, 0, 0, 0⟩ : Host) xs k).m5)]) rfl (by kernel_rfl) Try.isAgg23 Try.sizeOf23 rfl rfl rfl rfl) ?_
    refine Wl.ht rfl (Ht.storeN (b := p6) (o' := 0) (i := 1) (j := 0) (cs := [Value.int .u8 0, Value.int .u8 0, Value.int .u8 0, Value.int .u8 0, Value.int .u8 0, Value.int .u8 0]) (vs := [Value.int .u8 ((getK (⟨0, 0, 0, 0, 0, 0, 0⟩ : Host) xs k).m0), Value.int .u8 ((getK (⟨0, 0, 0, 0, 0, 0, 0⟩ : Host) xs k).m1), Value.int .u8 ((getK (⟨0, 0, 0, 0, 0, 0, 0⟩ : Host) xs k).m2), Value.int .u8 ((getK (⟨0, 0, 0, 0, 0, 0, 0⟩ : Host) xs k).m3), Value.int .u8 ((getK (⟨0, 0, 0, 0, 0, 0, 0⟩ : Host) xs k).m4), Value.int .u8 ((getK (⟨0, 0, 0, 0, 0, 0, 0⟩ : Host) xs k).m5)]) (cs' := [Value.int .u8 ((getK (⟨0, 0, 0, 0, 0, 0, 0⟩ : Host) xs k).m0), Value.int .u8 ((getK (⟨0, 0, 0, 0, 0, 0, 0⟩ : Host) xs k).m1), Value.int .u8 ((getK (⟨0, 0, 0, 0, 0, 0, 0⟩ : Host) xs k).m2), Value.int .u8 ((getK (⟨0, 0, 0, 0, 0, 0, 0⟩ : Host) xs k).m3), Value.int .u8 ((getK (⟨0, 0, 0, 0, 0, 0, 0⟩ : Host) xs k).m4), Value.int .u8 ((getK (⟨0, 0, 0, 0, 0, 0, 0⟩ : Host) xs k).m5)]) (LL' := [[cb p8 [Value.int .u8 ((getK (⟨0, 0, 0, 0, 0, 0, 0⟩ : Host) xs k).m0), Value.int .u8 ((getK (⟨0, 0, 0, 0, 0, 0, 0⟩ : Host) xs k).m1), Value.int .u8 ((getK (⟨0, 0, 0, 0, 0, 0, 0⟩ : Host) xs k).m2), Value.int .u8 ((getK (⟨0, 0, 0, 0, 0, 0, 0⟩ : Host) xs k).m3), Value.int .u8 ((getK (⟨0, 0, 0, 0, 0, 0, 0⟩ : Host) xs k).m4), Value.int .u8 ((getK (⟨0, 0, 0, 0, 0, 0, 0⟩ : Host) xs k).m5), Value.int .u64 ((getK (⟨0, 0, 0, 0, 0, 0, 0⟩ : Host) xs k).ends)] 92], [cb p6 [Value.int .u8 ((getK (⟨0, 0, 0, 0, 0, 0, 0⟩ : Host) xs k).m0), Value.int .u8 ((getK (⟨0, 0, 0, 0, 0, 0, 0⟩ : Host) xs k).m1), Value.int .u8 ((getK (⟨0, 0, 0, 0, 0, 0, 0⟩ : Host) xs k).m2), Value.int .u8 ((getK (⟨0, 0, 0, 0, 0, 0, 0⟩ : Host) xs k).m3), Value.int .u8 ((getK (⟨0, 0, 0, 0, 0, 0, 0⟩ : Host) xs k).m4), Value.int .u8 ((getK (⟨0, 0, 0, 0, 0, 0, 0⟩ : Host) xs k).m5)] 23]]) rfl rfl (by kernel_rfl) (by kernel_rfl) Try.sizeOf23 (by simp [Value.oneCell']) rfl rfl (by simp) rfl rfl) (fun _ => ?_)
    refine Wl.run 1 (by kernel_rfl) ?_
    refine Wl.nil ?_
    refine hK17 _ _ _ ?_
    refine W.pick (LL' := [[cb p6 [Value.int .u8 ((getK (⟨0, 0, 0, 0, 0, 0, 0⟩ : Host) xs k).m0), Value.int .u8 ((getK (⟨0, 0, 0, 0, 0, 0, 0⟩ : Host) xs k).m1), Value.int .u8 ((getK (⟨0, 0, 0, 0, 0, 0, 0⟩ : Host) xs k).m2), Value.int .u8 ((getK (⟨0, 0, 0, 0, 0, 0, 0⟩ : Host) xs k).m3), Value.int .u8 ((getK (⟨0, 0, 0, 0, 0, 0, 0⟩ : Host) xs k).m4), Value.int .u8 ((getK (⟨0, 0, 0, 0, 0, 0, 0⟩ : Host) xs k).m5)] 23]]) [1] (by decide) rfl ?_
    refine W.prune' [6, 7] [Value.pointer (some ⟨p6, 0, none⟩), Value.bool true] (by kernel_rfl) (fun f18 => ?_)
    refine W.ret ?_
    have hF : fndB xs k n = true := by unfold fndB; have z_ := h13; revert z_; cases hasK xs k <;> cases (decide ((getK (⟨0, 0, 0, 0, 0, 0, 0⟩ : Host) xs k).ends ≤ n)) <;> simp
    show ∀ w_, _ → bodyPostM (fence none) 0 Try.prog Try.f13 _ Exit.ret _ w_
    exact fun w_ hS_ => fin_ret (ret2 rfl (RV.cellN (b := p6) (o' := 0) (i := 0) (j := 0) (cs := [Value.int .u8 ((getK (⟨0, 0, 0, 0, 0, 0, 0⟩ : Host) xs k).m0), Value.int .u8 ((getK (⟨0, 0, 0, 0, 0, 0, 0⟩ : Host) xs k).m1), Value.int .u8 ((getK (⟨0, 0, 0, 0, 0, 0, 0⟩ : Host) xs k).m2), Value.int .u8 ((getK (⟨0, 0, 0, 0, 0, 0, 0⟩ : Host) xs k).m3), Value.int .u8 ((getK (⟨0, 0, 0, 0, 0, 0, 0⟩ : Host) xs k).m4), Value.int .u8 ((getK (⟨0, 0, 0, 0, 0, 0, 0⟩ : Host) xs k).m5)]) (vs := [Value.int .u8 ((getK (⟨0, 0, 0, 0, 0, 0, 0⟩ : Host) xs k).m0), Value.int .u8 ((getK (⟨0, 0, 0, 0, 0, 0, 0⟩ : Host) xs k).m1), Value.int .u8 ((getK (⟨0, 0, 0, 0, 0, 0, 0⟩ : Host) xs k).m2), Value.int .u8 ((getK (⟨0, 0, 0, 0, 0, 0, 0⟩ : Host) xs k).m3), Value.int .u8 ((getK (⟨0, 0, 0, 0, 0, 0, 0⟩ : Host) xs k).m4), Value.int .u8 ((getK (⟨0, 0, 0, 0, 0, 0, 0⟩ : Host) xs k).m5)]) (by kernel_rfl) Try.isAgg23 Try.sizeOf23 rfl rfl rfl rfl) (RV.tmp (v := Value.bool true) (by kernel_rfl)) hS_ ⟨by clear hK1 hK3 hK5 hK6 hK17; refine congrArg Ending.returned ?_; rw [hF]; rfl, hS_.below⟩)

theorem find1T_c (k n : Int) (v : Host) (a : Option Addr) (cap : Nat) (most : Int) (tb : Nat) (hx : Option Addr) (hn_ hc_ : Nat) (c : Nat) (w : World) (htb : At w (some ⟨tb, 0, none⟩) [Value.slice a 1 cap, Value.int .i64 most, Value.func (.func 37) #[] #[]]) (hls : At w a (mm prH [(k, v)])) (hcc : At w (some ⟨c, 0, none⟩) [Value.pointer (some ⟨tb, 0, none⟩), Value.slice hx hn_ hc_]) (hv : decide (v.ends ≤ n) = false) : Calls Try.prog 13 #[.pointer (some ⟨c, 0, none⟩), .int .u32 k, .int .u64 n] w (Ret w (Value.tuple #[Value.agg ([Value.int .u8 v.m0, Value.int .u8 v.m1, Value.int .u8 v.m2, Value.int .u8 v.m3, Value.int .u8 v.m4, Value.int .u8 v.m5]).toArray, Value.bool true])) := by
  have h := find9_c [(k, v)] a cap most tb hx hn_ hc_ c k n w htb hls (by simp) (List.pairwise_singleton _ _) hcc
  rw [fnd_one hv, get_one] at h
  exact h
theorem find1F_c (k n : Int) (v : Host) (a : Option Addr) (cap : Nat) (most : Int) (tb : Nat) (hx : Option Addr) (hn_ hc_ : Nat) (c : Nat) (w : World) (htb : At w (some ⟨tb, 0, none⟩) [Value.slice a 1 cap, Value.int .i64 most, Value.func (.func 37) #[] #[]]) (hls : At w a (mm prH [(k, v)])) (hcc : At w (some ⟨c, 0, none⟩) [Value.pointer (some ⟨tb, 0, none⟩), Value.slice hx hn_ hc_]) (hv : decide (v.ends ≤ n) = true) : Calls Try.prog 13 #[.pointer (some ⟨c, 0, none⟩), .int .u32 k, .int .u64 n] w (Ret w (Value.tuple #[Value.agg ([Value.int .u8 0, Value.int .u8 0, Value.int .u8 0, Value.int .u8 0, Value.int .u8 0, Value.int .u8 0]).toArray, Value.bool false])) := by
  have h := find9_c [(k, v)] a cap most tb hx hn_ hc_ c k n w htb hls (by simp) (List.pairwise_singleton _ _) hcc
  rw [fnd_one hv, get_one] at h
  exact h
theorem len9_c (xs : List (Int × Host)) (a : Option Addr) (cap : Nat) (most : Int) (tb : Nat) (hx : Option Addr) (hn_ hc_ : Nat) (c : Nat)  (w : World) (htb : At w (some ⟨tb, 0, none⟩) [Value.slice a xs.length cap, Value.int .i64 most, Value.func (.func 37) #[] #[]]) (hls : At w a (mm prH xs)) (hn : xs.length ≤ 100000) (hs : Srt LO.int xs) (hcc : At w (some ⟨c, 0, none⟩) [Value.pointer (some ⟨tb, 0, none⟩), Value.slice hx hn_ hc_]) : Calls Try.prog 17 #[Value.pointer (some ⟨c, 0, none⟩)] w (Ret w (Value.tuple #[Value.int .i64 ((xs.length : Nat) : Int), Value.int .i64 ((hn_ : Nat) : Int)])) := by
  refine calls_W (M := []) (LL := []) (n := 14) Try.func17 rfl rfl (by simp) (Mem.refl _) ?_
  refine W.seq (fun K1 hK1 => ?_)
  refine W.region ?_
  refine Wl.run 2 (by kernel_rfl) ?_
  refine Wl.nil ?_
  refine hK1 _ _ _ ?_
  refine W.prune' [0] [Value.pointer (some ⟨c, 0, none⟩)] (by kernel_rfl) (fun f2 => ?_)
  refine W.seq (fun K3 hK3 => ?_)
  refine W.draws [(0, true), (1, true), (2, true), (3, true), (5, true), (6, true), (7, true), (8, true), (9, true), (4, false), (10, false), (11, false)] [0, 1, 2, 3, 5, 6, 7, 8, 9] (Mem w [] []) (by kernel_rfl) (by kernel_rfl) (by kernel_rfl) rfl (by kernel_rfl) (fun _ _ h_ => h_.drawn _) (fun _ h_ => h_) ?_
  refine Wd.run 3 (by kernel_rfl) ?_
  refine Wd.ys (v := Value.pointer (some ⟨tb, 0, none⟩)) rfl rfl rfl (Ys.ld (a := ⟨c, 0, none⟩) rfl (by kernel_rfl) Try.isAgg89 (fun w_ h_ => by have x_ := (hcc.mem0 h_).ld (q := 0) (v := Value.pointer (some ⟨tb, 0, none⟩)) rfl; rw [ela_own0] at x_; exact x_)) ?_
  refine Wd.run 3 (by kernel_rfl) ?_
  refine Wd.ys (v := Value.slice hx hn_ hc_) rfl rfl rfl (Ys.ld (a := ⟨c, 1, none⟩) rfl (by kernel_rfl) Try.isAgg94 (fun w_ h_ => by have x_ := (hcc.mem0 h_).ld (q := 1) (v := Value.slice hx hn_ hc_) rfl; rw [ela_own0] at x_; exact x_)) ?_
  refine Wd.run 1 (by kernel_rfl) ?_
  refine Wd.yc (v := Value.int .i64 ((xs.length : Nat) : Int)) rfl rfl rfl (Yc.call (k := 48) (args := #[Value.pointer (some ⟨tb, 0, none⟩)]) (fun _ => by kernel_rfl) (fun w_ hm_ => (lenH_c xs a cap most tb  _ (htb.mem0 hm_) (hls.mem0 hm_) (by first | omega | (simp; done)) hs))) (.inr fun _ h_ => h_) ?_
  refine Wd.yc (v := Value.int .i64 ((xs.length : Nat) : Int)) rfl rfl rfl (Ys.yc (Ys.pure (fun _ => by kernel_rfl))) (.inr fun _ h_ => h_) ?_
  refine Wd.yc (v := Value.int .i64 ((hn_ : Nat) : Int)) rfl rfl rfl (Ys.yc (Ys.pure (fun _ => by kernel_rfl))) (.inl (by kernel_rfl)) ?_
  refine Wd.nil ?_
  refine hK3 _ _ _ ?_
  refine W.prune' [2, 3] [Value.int .i64 ((xs.length : Nat) : Int), Value.int .i64 ((hn_ : Nat) : Int)] (by kernel_rfl) (fun f4 => ?_)
  refine W.ret ?_
  show ∀ w_, _ → bodyPostM (fence none) 0 Try.prog Try.f17 _ Exit.ret _ w_
  exact fun w_ hS_ => fin_ret (ret2 rfl (RV.tmp (v := Value.int .i64 ((xs.length : Nat) : Int)) (by kernel_rfl)) (RV.tmp (v := Value.int .i64 ((hn_ : Nat) : Int)) (by kernel_rfl)) hS_ ⟨rfl, hS_.below⟩)

theorem new9_c  (w : World) : Calls Try.prog 11 #[] w (RetM w (fun _ : Nat × Nat => True) (fun q => .pointer (some ⟨q.1, 0, none⟩)) [] (fun q => [[cb q.1 [Value.pointer (some ⟨q.2, 0, none⟩), Value.slice none 0 0] 96], [cb q.2 [Value.slice none 0 0, Value.int .i64 256, Value.func (.func 37) #[] #[]] 138]])) := by
  refine calls_W (M := []) (LL := []) (n := 4) Try.func11 rfl rfl (by simp) (Mem.refl _) ?_
  refine W.seq (fun K1 hK1 => ?_)
  refine W.region ?_
  refine Wl.run 1 (by kernel_rfl) ?_
  refine Wl.nil ?_
  refine hK1 _ _ _ ?_
  refine W.seq (fun K2 hK2 => ?_)
  refine W.region ?_
  refine Wl.htS rfl (HtS.call (β := Nat) (k := 36) (args := #[Value.int .i64 256, Value.func (.func 37) #[] #[]]) (Lin := []) (Lk := []) (Mi := []) (Lo := fun tb3 => [[cb tb3 [Value.slice none 0 0, Value.int .i64 256, Value.func (.func 37) #[] #[]] 138]]) [] [] rfl (fun _ => by kernel_rfl) (by decide) rfl rfl rfl (fun w_ hm_ hl_ => (newH_c 256 _)) (fun _ => rfl)) (fun tb3 _ => ?_)
  refine Wl.run 1 (by kernel_rfl) ?_
  refine Wl.ht rfl (Ht.box (v := Value.agg ([Value.pointer (some ⟨tb3, 0, none⟩), Value.slice none 0 0]).toArray) (cs := [Value.pointer (some ⟨tb3, 0, none⟩), Value.slice none 0 0]) rfl rfl (by kernel_rfl) rfl) (fun p3 => ?_)
  refine Wl.run 1 (by kernel_rfl) ?_
  refine Wl.nil ?_
  refine hK2 _ _ _ ?_
  refine W.prune' [0] [Value.pointer (some ⟨p3, 0, none⟩)] (by kernel_rfl) (fun f5 => ?_)
  refine W.ret ?_
  show ∀ w_, _ → bodyPostM (fence none) 0 Try.prog Try.f11 _ Exit.ret _ w_
  exact fun w_ hS_ => fin_ret (ret1 rfl (RV.tmp (v := Value.pointer (some ⟨p3, 0, none⟩)) (by kernel_rfl)) hS_ ⟨(p3, tb3), trivial, rfl, (hS_.pick [0, 1] (by decide) rfl)⟩)

end Go.Proofs.Ytjkhmbigoloeiaa.Oct
