import Derived.Test.YtejeafjkhomdoaaKOct5
set_option linter.unusedVariables false
set_option linter.unusedSimpArgs false
set_option maxRecDepth 20000
namespace Go.Proofs.Ytejeafjkhomdoaa.Oct
open Go.RowKit Base
attribute [local irreducible] Ys Yc Ht HtIn Wl Wd W Mem pf dpf
theorem pw_add {xs : List UInt8} {k : Nat} (h : 2 * k + 1 < xs.length) : (256 * (xs.getD (2 * k) 0).toNat % 65536 + (xs.getD (2 * k + 1) 0).toNat) % 65536 = (pw xs).getD k 0 := by
  have h1 := UInt8.toNat_lt (xs.getD (2 * k) 0); have h2 := UInt8.toNat_lt (xs.getD (2 * k + 1) 0)
  rw [pw_get1 xs k h]; omega
theorem pw_lone2 {xs : List UInt8} {k : Nat} (h : 2 * k < xs.length) (h1 : ¬ 2 * k + 1 < xs.length) : 256 * (xs.getD (2 * k) 0).toNat % 65536 = (pw xs).getD k 0 := by
  have h2 := UInt8.toNat_lt (xs.getD (2 * k) 0)
  rw [pw_get0 xs k (by omega)]; omega
theorem rpairs_c (xs : List UInt8) (a : Option Addr) (cap : Nat) (w : World) (hat : At w a (byc xs)) (hy : xs.length ≤ 1000000000) : Calls Try.prog 79 #[Value.slice a xs.length cap] w (RetM w (fun g : FS => g.ok 1 (pw xs).length) (fun g => .slice g.a (pw xs).length g.cap) [] (fun g => [g.seg 22 (mc n16 (pw xs))])) := by
  refine calls_W (M := []) (LL := []) (n := 37) Try.func79 rfl rfl (by simp) (Mem.refl _) ?_
  refine W.seq (fun K1 hK1 => ?_)
  refine W.region ?_
  refine Wl.run 1 (by kernel_rfl) ?_
  refine Wl.nil ?_
  refine hK1 _ _ _ ?_
  refine W.seq (fun K2 hK2 => ?_)
  refine W.region ?_
  refine Wl.ht rfl (Ht.made (mk := fun b_ => .slice (some ⟨b_, 0, none⟩) 0 0) (t := 22) (cs := []) rfl (fun _ => by kernel_rfl)) (fun p6 => ?_)
  refine Wl.run 1 (by kernel_rfl) ?_
  refine Wl.nil ?_
  refine hK2 _ _ _ ?_
  refine W.prune' [0, 3] [Value.slice a xs.length cap, Value.slice (some ⟨p6, 0, none⟩) 0 0] (by kernel_rfl) (fun f3 => ?_)
  refine W.seq (fun K4 hK4 => ?_)
  refine W.seq (fun K5 hK5 => ?_)
  refine W.region ?_
  refine Wl.run 1 (by kernel_rfl) ?_
  refine Wl.nil ?_
  refine hK5 _ _ _ ?_
  refine W.block ?_
  refine W.loop2 [0, 3, 4] (fun (k : Nat) (h : FS) => [Value.slice a xs.length cap, Value.slice h.a k h.cap, nV .i64 (2 * k)]) (fun (k : Nat) (h : FS) => k ≤ (pw xs).length ∧ h.ok 1 k) (fun (k : Nat) (h : FS) => [h.seg 22 (mc n16 ((pw xs).take k))]) (fun (k : Nat) (h : FS) => (pw xs).length - k) 0 ⟨false, p6, 0, []⟩ (Eq.trans (b := ([Value.slice a xs.length cap, Value.slice (some ⟨p6, 0, none⟩) 0 0, Value.int .i64 0] : List Value)) (by kernel_rfl) (by simp [FS.a])) ⟨(Nat.zero_le _), (FS.lit_ok (by decide))⟩ (by simp [mc, FS.seg]) (fun k h f7 J6 hp8 hJ6 => ?_)
  obtain ⟨hk, okh⟩ := hp8
  have hpl := pw_len xs
  refine W.seq (fun K9 hK9 => ?_)
  refine W.seq (fun K10 hK10 => ?_)
  refine W.region ?_
  refine Wl.run 4 (by kernel_rfl) ?_
  refine Wl.nil ?_
  refine hK10 _ _ _ ?_
  refine W.prune' [0, 3, 4, 10] [Value.slice a xs.length cap, Value.slice h.a k h.cap, nV .i64 (2 * k), Value.bool (decide (((2 * k : Nat) : Int) < ((xs.length : Nat) : Int)))] (by kernel_rfl) (fun f11 => ?_)
  refine W.cond (decide (((2 * k : Nat) : Int) < ((xs.length : Nat) : Int))) (by kernel_rfl) (fun h12 => ?_) (fun h13 => ?_)
  · have qh12 := h12; try simp only [Bool.and_eq_true, Bool.or_eq_true, Bool.not_eq_true', Bool.not_eq_false', Bool.and_eq_false_iff, Bool.or_eq_false_iff, decide_eq_true_eq, decide_eq_false_iff_not, beq_iff_eq, bne_iff_ne, beq_eq_false_iff_ne, bne_eq_false_iff_eq] at qh12
    refine W.skip' ?_
    refine hK9 _ _ _ ?_
    refine W.prune' [0, 3, 4] [Value.slice a xs.length cap, Value.slice h.a k h.cap, nV .i64 (2 * k)] (by kernel_rfl) (fun f14 => ?_)
    refine W.seq (fun K15 hK15 => ?_)
    refine W.block ?_
    refine W.seq (fun K16 hK16 => ?_)
    refine W.region ?_
    refine Wl.run 2 (by kernel_rfl) ?_
    refine Wl.ys (v := Value.pointer (some (ela a ((2 * k) * 1)))) rfl rfl (Ys.byMem fun w_ h_ => Ys.indexAddr (k := .i64) (a := a) (len := xs.length) (cap := cap) (i := ((2 * k : Nat) : Int)) (sz := 1) rfl (by kernel_rfl) (by kernel_rfl) Try.runUnderlying25 Try.sizeOf5 (by omega) (by omega) ((hat.mem0 h_).here (by rw [mc_len]; first | omega | (simp; omega)))) ?_
    refine Wl.ys (v := nV .u8 ((xs.getD (2 * k) 0).toNat)) rfl rfl (Ys.ld (a := ela a ((2 * k) * 1)) rfl (by kernel_rfl) Try.isAgg5 (fun w_ h_ => (hat.mem0 h_).ld (mc_get1 0 (by first | omega | (simp; omega))))) ?_
    have hb17 : (xs.getD (2 * k) 0).toNat < 256 := UInt8.toNat_lt _
    refine Wl.ys (v := nV .u16 ((xs.getD (2 * k) 0).toNat)) rfl rfl ((Ys.pure (v := .int .u16 (icnv .u16 (((xs.getD (2 * k) 0).toNat : Nat) : Int))) (fun _ => by kernel_rfl)).conseq (int_congr (wrap_u16 (by omega) (by omega)))) ?_
    refine Wl.ys (v := nV .u16 ((256 * ((xs.getD (2 * k) 0).toNat)) % 65536)) rfl rfl ((Ys.pure (v := .int .u16 (imul .u16 ((256 : Nat) : Int) (((xs.getD (2 * k) 0).toNat : Nat) : Int))) (fun _ => by kernel_rfl)).conseq (int_congr (imul_mod rfl))) ?_
    refine Wl.run 1 (by kernel_rfl) ?_
    refine Wl.nil ?_
    refine hK16 _ _ _ ?_
    refine W.prune' [0, 3, 4, 5] [Value.slice a xs.length cap, Value.slice h.a k h.cap, nV .i64 (2 * k), nV .u16 ((256 * ((xs.getD (2 * k) 0).toNat)) % 65536)] (by kernel_rfl) (fun f18 => ?_)
    refine W.seq (fun K19 hK19 => ?_)
    refine W.meet0 (w0 := w) (M := []) K19 [0, 3, 4, 5] ([Value.slice a xs.length cap, Value.slice h.a k h.cap, nV .i64 (2 * k), nV .u16 ((pw xs).getD k 0)]) (True) ([h.seg 22 (mc n16 ((pw xs).take k))]) (fun J20 hJ20 => ?_) (fun  f21 hp22 => ?_)
    · refine W.seq (fun K23 hK23 => ?_)
      refine W.region ?_
      refine Wl.run 3 (by kernel_rfl) ?_
      refine Wl.ys (v := Value.int .i64 (((xs.length : Nat) : Int) - 1)) rfl rfl ((Ys.pure (v := .int .i64 (isub .i64 ((xs.length : Nat) : Int) 1)) (fun _ => by kernel_rfl)).conseq (int_congr (isub_eq rfl (by omega) (by omega)))) ?_
      refine Wl.run 1 (by kernel_rfl) ?_
      refine Wl.nil ?_
      refine hK23 _ _ _ ?_
      refine W.prune' [0, 3, 4, 5, 23] [Value.slice a xs.length cap, Value.slice h.a k h.cap, nV .i64 (2 * k), nV .u16 ((256 * ((xs.getD (2 * k) 0).toNat)) % 65536), Value.bool (decide (((2 * k : Nat) : Int) < (((xs.length : Nat) : Int) - 1)))] (by kernel_rfl) (fun f24 => ?_)
      refine W.cond (decide (((2 * k : Nat) : Int) < (((xs.length : Nat) : Int) - 1))) (by kernel_rfl) (fun h25 => ?_) (fun h26 => ?_)
      · have qh25 := h25; try simp only [Bool.and_eq_true, Bool.or_eq_true, Bool.not_eq_true', Bool.not_eq_false', Bool.and_eq_false_iff, Bool.or_eq_false_iff, decide_eq_true_eq, decide_eq_false_iff_not, beq_iff_eq, bne_iff_ne, beq_eq_false_iff_ne, bne_eq_false_iff_eq] at qh25
        refine W.region ?_
        refine Wl.run 3 (by kernel_rfl) ?_
        refine Wl.ys (v := nV .i64 ((2 * k) + 1)) rfl rfl ((Ys.pure (v := .int .i64 (iadd .i64 ((2 * k : Nat) : Int) 1)) (fun _ => by kernel_rfl)).conseq (int_congr (iadd_eq (by omega) (by omega) (by omega)))) ?_
        refine Wl.ys (v := Value.pointer (some (ela a (((2 * k) + 1) * 1)))) rfl rfl (Ys.byMem fun w_ h_ => Ys.indexAddr (k := .i64) (a := a) (len := xs.length) (cap := cap) (i := (((2 * k) + 1 : Nat) : Int)) (sz := 1) rfl (by kernel_rfl) (by kernel_rfl) Try.runUnderlying25 Try.sizeOf5 (by omega) (by omega) ((hat.mem0 h_).here (by rw [mc_len]; first | omega | (simp; omega)))) ?_
        refine Wl.ys (v := nV .u8 ((xs.getD ((2 * k) + 1) 0).toNat)) rfl rfl (Ys.ld (a := ela a (((2 * k) + 1) * 1)) rfl (by kernel_rfl) Try.isAgg5 (fun w_ h_ => (hat.mem0 h_).ld (mc_get1 0 (by first | omega | (simp; omega))))) ?_
        have hb27 : (xs.getD ((2 * k) + 1) 0).toNat < 256 := UInt8.toNat_lt _
        refine Wl.ys (v := nV .u16 ((xs.getD ((2 * k) + 1) 0).toNat)) rfl rfl ((Ys.pure (v := .int .u16 (icnv .u16 (((xs.getD ((2 * k) + 1) 0).toNat : Nat) : Int))) (fun _ => by kernel_rfl)).conseq (int_congr (wrap_u16 (by omega) (by omega)))) ?_
        refine Wl.ys (v := nV .u16 ((((256 * ((xs.getD (2 * k) 0).toNat)) % 65536) + ((xs.getD ((2 * k) + 1) 0).toNat)) % 65536)) rfl rfl ((Ys.pure (v := .int .u16 (iadd .u16 (((256 * ((xs.getD (2 * k) 0).toNat)) % 65536 : Nat) : Int) (((xs.getD ((2 * k) + 1) 0).toNat : Nat) : Int))) (fun _ => by kernel_rfl)).conseq (int_congr (iadd_mod rfl))) ?_
        refine Wl.run 1 (by kernel_rfl) ?_
        refine Wl.nil ?_
        refine fun w_ h_ => hJ20 _ w_ trivial ?_ h_
        refine Eq.trans (b := ([Value.slice a xs.length cap, Value.slice h.a k h.cap, nV .i64 (2 * k), nV .u16 ((((256 * ((xs.getD (2 * k) 0).toNat)) % 65536) + ((xs.getD ((2 * k) + 1) 0).toNat)) % 65536)] : List Value)) (by kernel_rfl) (by rw [pw_add (by omega)])
      · have qh26 := h26; try simp only [Bool.and_eq_true, Bool.or_eq_true, Bool.not_eq_true', Bool.not_eq_false', Bool.and_eq_false_iff, Bool.or_eq_false_iff, decide_eq_true_eq, decide_eq_false_iff_not, beq_iff_eq, bne_iff_ne, beq_eq_false_iff_ne, bne_eq_false_iff_eq] at qh26
        refine W.skip' ?_
        refine fun w_ h_ => hJ20 _ w_ trivial ?_ h_
        refine Eq.trans (b := ([Value.slice a xs.length cap, Value.slice h.a k h.cap, nV .i64 (2 * k), nV .u16 ((256 * ((xs.getD (2 * k) 0).toNat)) % 65536)] : List Value)) (by kernel_rfl) (by rw [pw_lone2 (by omega) (by omega)])
    · refine hK19 _ _ _ ?_
      refine W.region ?_
      refine Wl.run 2 (by kernel_rfl) ?_
      refine Wl.ht rfl (Ht.made (mk := fun b_ => .slice (some ⟨b_, 0, none⟩) 1 1) (t := 22) (cs := [nV .u16 ((pw xs).getD k 0)]) rfl (fun _ => by kernel_rfl)) (fun p34 => ?_)
      refine Wl.ht rfl (Ht.append (eu := 22) (xv := Value.slice (some ⟨p34, 0, none⟩) 1 1) (i := 1) (g := h) (e := 22) (ii := (Try.prog.info? 22).getD default) (z := Value.int .u16 0) (sz := 1) (bytes := 2) (nn := k) (m := 1) (k := k + 1) (xs := mc n16 ((pw xs).take k)) (news := mc n16 [(pw xs).getD k 0]) (cs' := mc n16 (((pw xs).take k) ++ [(pw xs).getD k 0])) (Lo := fun g28 => [[cb p34 [nV .u16 ((pw xs).getD k 0)] 22], g28.seg 22 (mc n16 (((pw xs).take k) ++ [(pw xs).getD k 0]))]) rfl rfl (by kernel_rfl) (by kernel_rfl) (by kernel_rfl) (by kernel_rfl) (by kernel_rfl) (by kernel_rfl) (by kernel_rfl) (by kernel_rfl) (by kernel_rfl) rfl okh (by simp [mc]; omega) (fun _ => rfl) (Src.at (a := some ⟨p34, 0, none⟩) (by first | rfl | (rw [mc_len, List.length_take]; omega) | (rw [mc_len, List.length_take, List.length_drop]; omega) | (simp [mc, be_len]; done) | (simp [mc, be_len]; omega)) (fun w_ h_ => (At.lit0 (i := 0) (j := 0) (t := 22) (b := p34) h_ rfl rfl))) (by first | rfl | (rw [mc_len, List.length_take]; omega) | (rw [mc_len, List.length_take, List.length_drop]; omega) | (simp [mc, be_len]; done) | (simp [mc, be_len]; omega)) (mc_one (fun _ => rfl) _) (by first | omega | (simp; done) | (simp; omega)) (by simp only [maxLen]; first | omega | (simp; done) | (simp; omega)) (by first | omega | (simp; done) | (simp; omega)) (mc_app _ _) (fun _ => rfl)) (fun x32 => ?_)
      obtain ⟨g28, ok29, hn30, hn31⟩ := x32
      refine Wl.castL (LL' := [[cb p34 [nV .u16 ((pw xs).getD k 0)] 22], g28.seg 22 (mc n16 (((pw xs).take k) ++ [(pw xs).getD k 0]))]) rfl ?_
      refine Wl.run 1 (by kernel_rfl) ?_
      refine Wl.nil ?_
      refine hK15 _ _ _ ?_
      refine W.pick (LL' := [g28.seg 22 (mc n16 (((pw xs).take k) ++ [(pw xs).getD k 0]))]) [1] (by decide) rfl ?_
      refine W.prune' [0, 3, 4] [Value.slice a xs.length cap, Value.slice g28.a (k + 1) g28.cap, nV .i64 (2 * k)] (by kernel_rfl) (fun f33 => ?_)
      refine W.region ?_
      refine Wl.run 1 (by kernel_rfl) ?_
      refine Wl.ys (v := nV .i64 ((2 * k) + 2)) rfl rfl ((Ys.pure (v := .int .i64 (iadd .i64 ((2 * k : Nat) : Int) 2)) (fun _ => by kernel_rfl)).conseq (int_congr (iadd_eq (by omega) (by omega) (by omega)))) ?_
      refine Wl.run 1 (by kernel_rfl) ?_
      refine Wl.nil ?_
      refine fun w_ h_ => hJ6 (k + 1) g28 _ w_ (by omega) ⟨(by omega), (by simpa using ok29)⟩ ?_ (Mem.cast (LL := [g28.seg 22 (mc n16 (((pw xs).take k) ++ [(pw xs).getD k 0]))]) (by rw [pw_step (by omega)]) h_)
      refine Eq.trans (b := ([Value.slice a xs.length cap, Value.slice g28.a (k + 1) g28.cap, nV .i64 ((2 * k) + 2)] : List Value)) (by kernel_rfl) (by simp; try omega)
  · have qh13 := h13; try simp only [Bool.and_eq_true, Bool.or_eq_true, Bool.not_eq_true', Bool.not_eq_false', Bool.and_eq_false_iff, Bool.or_eq_false_iff, decide_eq_true_eq, decide_eq_false_iff_not, beq_iff_eq, bne_iff_ne, beq_eq_false_iff_ne, bne_eq_false_iff_eq] at qh13
    refine W.exit ?_
    refine hK4 _ _ _ ?_
    refine W.prune' [3] [Value.slice h.a k h.cap] (by kernel_rfl) (fun f34 => ?_)
    refine W.seq (fun K35 hK35 => ?_)
    refine W.region ?_
    refine Wl.run 2 (by kernel_rfl) ?_
    refine Wl.nil ?_
    refine hK35 _ _ _ ?_
    refine W.prune' [2] [Value.slice h.a k h.cap] (by kernel_rfl) (fun f36 => ?_)
    refine W.ret ?_
    show ∀ w_, _ → bodyPostM (fence none) 0 Try.prog Try.f79 _ Exit.ret _ w_
    exact fun w_ hS_ => fin_ret (ret1 rfl (RV.tmp (v := Value.slice h.a k h.cap) (by kernel_rfl)) hS_ ⟨h, (by have hk2 : (pw xs).length = k := (by omega); rw [hk2]; exact okh), congrArg Ending.returned ((by have hk2 : (pw xs).length = k := (by omega); rw [hk2])), (Mem.cast (by rw [List.take_of_length_le (by omega)]) hS_)⟩)
theorem rpairsn_c (xs : List UInt8) (a : Option Addr) (len cap : Nat) (w : World) (hn : len = xs.length) (hat : At w a (byc xs)) (hy : xs.length ≤ 1000000000) : Calls Try.prog 79 #[.slice a len cap] w (RetM w (fun g : FS => g.ok 1 (pw xs).length) (fun g => .slice g.a (pw xs).length g.cap) [] (fun g => [g.seg 22 (mc n16 (pw xs))])) := by
  subst hn; exact rpairs_c xs a cap w hat hy
end Go.Proofs.Ytejeafjkhomdoaa.Oct
