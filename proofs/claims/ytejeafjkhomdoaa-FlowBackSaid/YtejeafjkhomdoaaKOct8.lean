import Derived.Test.YtejeafjkhomdoaaKOct7
set_option linter.unusedVariables false
set_option linter.unusedSimpArgs false
set_option maxRecDepth 20000
namespace Go.Proofs.Ytejeafjkhomdoaa.Oct
open Go.RowKit Base
attribute [local irreducible] Ys Yc Ht HtIn Wl Wd W Mem pf dpf
structure SV where
  a : Option Addr
  xs : List UInt8
  cap : Nat
instance : Inhabited SV := ⟨⟨none, [], 0⟩⟩
abbrev slv (p : SV) : Value := .slice p.a p.xs.length p.cap
def jn (ps : List SV) : List UInt8 := (ps.map (·.xs)).flatten
theorem jn_step {ps : List SV} {k : Nat} (h : k < ps.length) : jn (ps.take (k + 1)) = jn (ps.take k) ++ (ps.getD k default).xs := by
  unfold jn; rw [List.take_add_one, List.map_append, List.flatten_append]; simp [h]
theorem jn_take_le (ps : List SV) (k : Nat) : (jn (ps.take k)).length ≤ (jn ps).length := by
  have : jn ps = jn (ps.take k) ++ jn (ps.drop k) := by unfold jn; rw [← List.flatten_append, ← List.map_append, List.take_append_drop]
  rw [this, List.length_append]; omega
theorem jn_all {ps : List SV} {k : Nat} (h : ps.length ≤ k) : jn (ps.take k) = jn ps := by rw [List.take_of_length_le h]
theorem jn_one {ps : List SV} (h : ps.length = 1) : jn ps = (ps.getD 0 default).xs := by
  match ps, h with
  | [p], _ => simp [jn]
theorem jn_take1 {ps : List SV} (h : 0 < ps.length) : jn (ps.take 1) = (ps.getD 0 default).xs := by
  match ps, h with
  | p :: _, _ => simp [jn]
theorem getD_in {ps : List SV} {k : Nat} (h : k < ps.length) : ps.getD k default ∈ ps := by
  rw [List.getD_eq_getElem?_getD, List.getElem?_eq_getElem h]; exact List.getElem_mem h
theorem getD_drop1 (ps : List SV) (k : Nat) : (ps.drop 1).getD k default = ps.getD (k + 1) default := by
  simp [List.getD_eq_getElem?_getD, List.getElem?_drop, Nat.add_comm]
theorem jn_el {ps : List SV} {k : Nat} (h : k < ps.length) : (ps.getD k default).xs.length ≤ (jn ps).length := by
  have h1 := congrArg List.length (jn_step h)
  have h2 := jn_take_le ps (k + 1)
  rw [List.length_append] at h1; omega
theorem jn_el1 {ps : List SV} {k : Nat} (h : k + 1 < ps.length) : (jn (ps.take (k + 1))).length + ((ps.drop 1).getD k default).xs.length ≤ (jn ps).length := by
  rw [getD_drop1]
  have h1 := congrArg List.length (jn_step h)
  have h2 := jn_take_le ps (k + 1 + 1)
  rw [List.length_append] at h1; omega
theorem put_take {zs ys xs : List UInt8} {k : Nat} (h : zs.take k = xs) (hk : k ≤ zs.length) (hl : k + ys.length ≤ zs.length) : (zs.take k ++ ys ++ zs.drop (k + ys.length)).take (k + ys.length) = xs ++ ys := by
  have hkl : (zs.take k ++ ys).length = k + ys.length := by simp; omega
  rw [← hkl, List.take_left, h]
theorem put_nil {zs ys xs : List UInt8} {k : Nat} (h : zs.take k = xs) : (zs.take k ++ [] ++ zs.drop (k + ([] : List UInt8).length)).take k ++ ys ++ (zs.take k ++ [] ++ zs.drop (k + ([] : List UInt8).length)).drop (k + ys.length) = zs.take k ++ ys ++ zs.drop (k + ys.length) := by
  rw [List.append_nil, List.length_nil, Nat.add_zero, List.take_append_drop]
theorem put_len {zs ys : List UInt8} {k : Nat} (hl : k + ys.length ≤ zs.length) : (zs.take k ++ ys ++ zs.drop (k + ys.length)).length = zs.length := by
  simp; omega
theorem join_c (ps : List SV) (pa : Option Addr) (pcap : Nat) (w : World) (hpa : At w pa (mc slv ps)) (hp : ∀ p ∈ ps, At w p.a (byc p.xs)) (htot : (jn ps).length ≤ 1000000000000) (hn : ps.length ≤ 1000000000) (hpc : ps.length ≤ pcap) : Calls Try.prog 81 #[Value.slice pa ps.length pcap, Value.slice none 0 0] w (RetM w (fun g : FS => g.ok 1 (jn ps).length ∧ (2 ≤ ps.length → g.nil = false)) (fun g => .slice g.a (jn ps).length g.cap) [] (fun g => [g.seg 5 (byc (jn ps))])) := by
  refine calls_W (M := []) (LL := []) (n := 92) Try.func81 rfl rfl (by simp) (Mem.refl _) ?_
  refine W.seq (fun K1 hK1 => ?_)
  refine W.region ?_
  refine Wl.run 1 (by kernel_rfl) ?_
  refine Wl.nil ?_
  refine hK1 _ _ _ ?_
  refine W.seq (fun K2 hK2 => ?_)
  refine W.seq (fun K3 hK3 => ?_)
  refine W.region ?_
  refine Wl.run 3 (by kernel_rfl) ?_
  refine Wl.nil ?_
  refine hK3 _ _ _ ?_
  refine W.prune' [0, 1, 14] [Value.slice pa ps.length pcap, Value.slice none 0 0, Value.bool (((ps.length : Nat) : Int) == 0)] (by kernel_rfl) (fun f4 => ?_)
  refine W.cond (((ps.length : Nat) : Int) == 0) (by kernel_rfl) (fun h5 => ?_) (fun h6 => ?_)
  · have qh5 := h5; try simp only [Bool.and_eq_true, Bool.or_eq_true, Bool.not_eq_true', Bool.not_eq_false', Bool.and_eq_false_iff, Bool.or_eq_false_iff, decide_eq_true_eq, decide_eq_false_iff_not, beq_iff_eq, bne_iff_ne, beq_eq_false_iff_ne, bne_eq_false_iff_eq] at qh5
    refine W.seq (fun K7 hK7 => ?_)
    refine W.region ?_
    refine Wl.ht rfl (Ht.made (mk := fun b_ => .slice (some ⟨b_, 0, none⟩) 0 0) (t := 5) (cs := []) rfl (fun _ => by kernel_rfl)) (fun p15 => ?_)
    refine Wl.run 1 (by kernel_rfl) ?_
    refine Wl.nil ?_
    refine hK7 _ _ _ ?_
    refine W.prune' [4] [Value.slice (some ⟨p15, 0, none⟩) 0 0] (by kernel_rfl) (fun f8 => ?_)
    refine W.ret ?_
    show ∀ w_, _ → bodyPostM (fence none) 0 Try.prog Try.f81 _ Exit.ret _ w_
    exact fun w_ hS_ => fin_ret (ret1 rfl (RV.tmp (v := Value.slice (some ⟨p15, 0, none⟩) 0 0) (by kernel_rfl)) hS_ ⟨⟨false, p15, 0, []⟩, ⟨(by rw [List.length_eq_zero_iff.1 (show ps.length = 0 by omega)]; exact FS.lit_ok (by decide)), fun _ => rfl⟩, congrArg Ending.returned ((by rw [List.length_eq_zero_iff.1 (show ps.length = 0 by omega)]; rfl)), (Mem.cast (by rw [List.length_eq_zero_iff.1 (show ps.length = 0 by omega)]; rfl) hS_)⟩)
  · have qh6 := h6; try simp only [Bool.and_eq_true, Bool.or_eq_true, Bool.not_eq_true', Bool.not_eq_false', Bool.and_eq_false_iff, Bool.or_eq_false_iff, decide_eq_true_eq, decide_eq_false_iff_not, beq_iff_eq, bne_iff_ne, beq_eq_false_iff_ne, bne_eq_false_iff_eq] at qh6
    refine W.skip' ?_
    refine hK2 _ _ _ ?_
    refine W.prune' [0, 1] [Value.slice pa ps.length pcap, Value.slice none 0 0] (by kernel_rfl) (fun f9 => ?_)
    refine W.seq (fun K10 hK10 => ?_)
    refine W.seq (fun K11 hK11 => ?_)
    refine W.region ?_
    refine Wl.run 3 (by kernel_rfl) ?_
    refine Wl.nil ?_
    refine hK11 _ _ _ ?_
    refine W.prune' [0, 1, 18] [Value.slice pa ps.length pcap, Value.slice none 0 0, Value.bool (((ps.length : Nat) : Int) == 1)] (by kernel_rfl) (fun f12 => ?_)
    refine W.cond (((ps.length : Nat) : Int) == 1) (by kernel_rfl) (fun h13 => ?_) (fun h14 => ?_)
    · have qh13 := h13; try simp only [Bool.and_eq_true, Bool.or_eq_true, Bool.not_eq_true', Bool.not_eq_false', Bool.and_eq_false_iff, Bool.or_eq_false_iff, decide_eq_true_eq, decide_eq_false_iff_not, beq_iff_eq, bne_iff_ne, beq_eq_false_iff_ne, bne_eq_false_iff_eq] at qh13
      refine W.seq (fun K15 hK15 => ?_)
      refine W.region ?_
      refine Wl.run 1 (by kernel_rfl) ?_
      refine Wl.ys (v := Value.pointer (some (ela pa 0))) rfl rfl (Ys.byMem fun w_ h_ => Ys.indexAddr (k := .i64) (a := pa) (len := ps.length) (cap := pcap) (i := 0) (sz := 1) rfl (by kernel_rfl) (by kernel_rfl) Try.runUnderlying128 Try.sizeOf25 (by omega) (by omega) ((hpa.mem0 h_).here (by rw [mc_len]; first | omega | (simp; omega)))) ?_
      refine Wl.ys (v := Value.slice ((ps.getD 0 default).a) ((ps.getD 0 default).xs.length) ((ps.getD 0 default).cap)) rfl rfl (Ys.ld (a := ela pa 0) rfl (by kernel_rfl) Try.isAgg25 (fun w_ h_ => (hpa.mem0 h_).ld (mc_get default (by first | omega | (simp; omega))))) ?_
      have hb16 := jn_el (ps := ps) (k := 0) (by omega)
      refine Wl.push ?_
      refine Wl.ht rfl (Ht.append (eu := 5) (xv := Value.slice ((ps.getD 0 default).a) ((ps.getD 0 default).xs.length) ((ps.getD 0 default).cap)) (i := 0) (g := FS.nul) (e := 5) (ii := (Try.prog.info? 5).getD default) (z := Value.int .u8 0) (sz := 1) (bytes := 1) (nn := 0) (m := (ps.getD 0 default).xs.length) (k := (ps.getD 0 default).xs.length) (xs := mc b8 []) (news := mc b8 ((ps.getD 0 default).xs)) (cs' := mc b8 ((ps.getD 0 default).xs)) (Lo := fun g17 => [g17.seg 5 (mc b8 ((ps.getD 0 default).xs))]) rfl rfl (by kernel_rfl) (by kernel_rfl) (by kernel_rfl) (by kernel_rfl) (by kernel_rfl) (by kernel_rfl) (by kernel_rfl) (by kernel_rfl) (by kernel_rfl) rfl (FS.nul_ok _) (by first | rfl | simp [mc, be_len]) (fun _ => rfl) (Src.at (a := (ps.getD 0 default).a) (by first | rfl | (rw [mc_len, List.length_take]; omega) | (rw [mc_len, List.length_take, List.length_drop]; omega) | (simp [mc, be_len]; done) | (simp [mc, be_len]; omega)) (fun w_ h_ => ((hp _ (getD_in (by omega))).mem0 h_))) (by first | rfl | (rw [mc_len, List.length_take]; omega) | (rw [mc_len, List.length_take, List.length_drop]; omega) | (simp [mc, be_len]; done) | (simp [mc, be_len]; omega)) (mc_one (fun _ => rfl) _) (by first | omega | (simp; done) | (simp; omega)) (by simp only [maxLen]; first | omega | (simp; done) | (simp; omega)) (by first | omega | (simp; done) | (simp; omega)) rfl (fun _ => rfl)) (fun x21 => ?_)
      obtain ⟨g17, ok18, hn19, hn20⟩ := x21
      refine Wl.castL (LL' := [g17.seg 5 (mc b8 ((ps.getD 0 default).xs))]) rfl ?_
      refine Wl.run 1 (by kernel_rfl) ?_
      refine Wl.nil ?_
      refine hK15 _ _ _ ?_
      refine W.prune' [4] [Value.slice g17.a ((ps.getD 0 default).xs.length) g17.cap] (by kernel_rfl) (fun f22 => ?_)
      refine W.ret ?_
      show ∀ w_, _ → bodyPostM (fence none) 0 Try.prog Try.f81 _ Exit.ret _ w_
      exact fun w_ hS_ => fin_ret (ret1 rfl (RV.tmp (v := Value.slice g17.a ((ps.getD 0 default).xs.length) g17.cap) (by kernel_rfl)) hS_ ⟨g17, ⟨(by rw [jn_one (by omega)]; exact ok18), fun h => absurd h (by omega)⟩, congrArg Ending.returned ((by rw [jn_one (by omega)])), (Mem.cast (by rw [jn_one (by omega)]) hS_)⟩)
    · have qh14 := h14; try simp only [Bool.and_eq_true, Bool.or_eq_true, Bool.not_eq_true', Bool.not_eq_false', Bool.and_eq_false_iff, Bool.or_eq_false_iff, decide_eq_true_eq, decide_eq_false_iff_not, beq_iff_eq, bne_iff_ne, beq_eq_false_iff_ne, bne_eq_false_iff_eq] at qh14
      refine W.skip' ?_
      refine hK10 _ _ _ ?_
      refine W.prune' [0, 1] [Value.slice pa ps.length pcap, Value.slice none 0 0] (by kernel_rfl) (fun f23 => ?_)
      refine W.seq (fun K24 hK24 => ?_)
      refine W.region ?_
      refine Wl.run 1 (by kernel_rfl) ?_
      refine Wl.nil ?_
      refine hK24 _ _ _ ?_
      refine W.seq (fun K25 hK25 => ?_)
      refine W.seq (fun K26 hK26 => ?_)
      refine W.region ?_
      refine Wl.run 3 (by kernel_rfl) ?_
      refine Wl.nil ?_
      refine hK26 _ _ _ ?_
      refine W.prune' [0, 1, 5, 25] [Value.slice pa ps.length pcap, Value.slice none 0 0, Value.int .i64 0, Value.bool false] (by kernel_rfl) (fun f27 => ?_)
      refine W.condF (by kernel_rfl) ?_
      refine W.skip' ?_
      refine hK25 _ _ _ ?_
      refine W.prune' [0, 1, 5] [Value.slice pa ps.length pcap, Value.slice none 0 0, Value.int .i64 0] (by kernel_rfl) (fun f28 => ?_)
      refine W.seq (fun K29 hK29 => ?_)
      refine W.seq (fun K30 hK30 => ?_)
      refine W.region ?_
      refine Wl.run 3 (by kernel_rfl) ?_
      refine Wl.nil ?_
      refine hK30 _ _ _ ?_
      refine W.prune' [0, 1, 5, 42, 43, 44] [Value.slice pa ps.length pcap, Value.slice none 0 0, Value.int .i64 0, Value.slice pa ps.length pcap, nV .i64 ps.length, Value.int .i64 0] (by kernel_rfl) (fun f31 => ?_)
      refine W.block ?_
      refine W.loop1 [0, 1, 5, 42, 43, 44] (fun (k : Nat) => [Value.slice pa ps.length pcap, Value.slice none 0 0, nV .i64 ((jn (ps.take k)).length), Value.slice pa ps.length pcap, nV .i64 ps.length, nV .i64 k]) (fun (k : Nat) => k ≤ ps.length) (fun (k : Nat) => []) (fun (k : Nat) => ps.length - k) 0 (Eq.trans (b := ([Value.slice pa ps.length pcap, Value.slice none 0 0, Value.int .i64 0, Value.slice pa ps.length pcap, nV .i64 ps.length, Value.int .i64 0] : List Value)) (by kernel_rfl) (by simp [jn])) (by first | omega | trivial | simp) (by rfl) (fun k f33 J32 hp34 hJ32 => ?_)
      have hk := hp34
      have htl := jn_take_le ps k; have htk := jn_take_le ps (k + 1)
      refine W.seq (fun K35 hK35 => ?_)
      refine W.region ?_
      refine Wl.run 1 (by kernel_rfl) ?_
      refine Wl.nil ?_
      refine hK35 _ _ _ ?_
      refine W.seq (fun K36 hK36 => ?_)
      refine W.cond (decide (((k : Nat) : Int) < ((ps.length : Nat) : Int))) (by kernel_rfl) (fun h37 => ?_) (fun h38 => ?_)
      · have qh37 := h37; try simp only [Bool.and_eq_true, Bool.or_eq_true, Bool.not_eq_true', Bool.not_eq_false', Bool.and_eq_false_iff, Bool.or_eq_false_iff, decide_eq_true_eq, decide_eq_false_iff_not, beq_iff_eq, bne_iff_ne, beq_eq_false_iff_ne, bne_eq_false_iff_eq] at qh37
        refine W.skip' ?_
        refine hK36 _ _ _ ?_
        refine W.prune' [0, 1, 5, 42, 43, 44] [Value.slice pa ps.length pcap, Value.slice none 0 0, nV .i64 ((jn (ps.take k)).length), Value.slice pa ps.length pcap, nV .i64 ps.length, nV .i64 k] (by kernel_rfl) (fun f39 => ?_)
        refine W.seq (fun K40 hK40 => ?_)
        refine W.block ?_
        refine W.seq (fun K41 hK41 => ?_)
        refine W.region ?_
        refine Wl.ys (v := Value.pointer (some (ela pa (k * 1)))) rfl rfl (Ys.byMem fun w_ h_ => Ys.indexAddr (k := .i64) (a := pa) (len := ps.length) (cap := pcap) (i := ((k : Nat) : Int)) (sz := 1) rfl (by kernel_rfl) (by kernel_rfl) Try.runUnderlying128 Try.sizeOf25 (by omega) (by omega) ((hpa.mem0 h_).here (by rw [mc_len]; first | omega | (simp; omega)))) ?_
        refine Wl.ys (v := Value.slice ((ps.getD k default).a) ((ps.getD k default).xs.length) ((ps.getD k default).cap)) rfl rfl (Ys.ld (a := ela pa (k * 1)) rfl (by kernel_rfl) Try.isAgg25 (fun w_ h_ => (hpa.mem0 h_).ld (mc_get1 default (by first | omega | (simp; omega))))) ?_
        have hb42 := jn_el (ps := ps) (k := k) (by omega)
        refine Wl.run 1 (by kernel_rfl) ?_
        refine Wl.nil ?_
        refine hK41 _ _ _ ?_
        refine W.prune' [0, 1, 5, 7, 42, 43, 44] [Value.slice pa ps.length pcap, Value.slice none 0 0, nV .i64 ((jn (ps.take k)).length), Value.slice ((ps.getD k default).a) ((ps.getD k default).xs.length) ((ps.getD k default).cap), Value.slice pa ps.length pcap, nV .i64 ps.length, nV .i64 k] (by kernel_rfl) (fun f43 => ?_)
        refine W.seq (fun K44 hK44 => ?_)
        refine W.seq (fun K45 hK45 => ?_)
        refine W.region ?_
        refine Wl.run 3 (by kernel_rfl) ?_
        refine Wl.ys (v := Value.int .i64 (9223372036854775807 - (((jn (ps.take k)).length : Nat) : Int))) rfl rfl ((Ys.pure (v := .int .i64 (isub .i64 9223372036854775807 (((jn (ps.take k)).length : Nat) : Int))) (fun _ => by kernel_rfl)).conseq (int_congr (isub_eq rfl (by omega) (by omega)))) ?_
        refine Wl.run 1 (by kernel_rfl) ?_
        refine Wl.nil ?_
        refine hK45 _ _ _ ?_
        refine W.prune' [0, 1, 5, 7, 42, 43, 44, 52] [Value.slice pa ps.length pcap, Value.slice none 0 0, nV .i64 ((jn (ps.take k)).length), Value.slice ((ps.getD k default).a) ((ps.getD k default).xs.length) ((ps.getD k default).cap), Value.slice pa ps.length pcap, nV .i64 ps.length, nV .i64 k, Value.bool (decide ((((ps.getD k default).xs.length : Nat) : Int) > (9223372036854775807 - (((jn (ps.take k)).length : Nat) : Int))))] (by kernel_rfl) (fun f46 => ?_)
        refine W.cond (decide ((((ps.getD k default).xs.length : Nat) : Int) > (9223372036854775807 - (((jn (ps.take k)).length : Nat) : Int)))) (by kernel_rfl) (fun h47 => ?_) (fun h48 => ?_)
        · have qh47 := h47; try simp only [Bool.and_eq_true, Bool.or_eq_true, Bool.not_eq_true', Bool.not_eq_false', Bool.and_eq_false_iff, Bool.or_eq_false_iff, decide_eq_true_eq, decide_eq_false_iff_not, beq_iff_eq, bne_iff_ne, beq_eq_false_iff_ne, bne_eq_false_iff_eq] at qh47
          (exfalso; have hjs := congrArg List.length (jn_step (ps := ps) (k := k) (by omega)); rw [List.length_append] at hjs; omega)
        · have qh48 := h48; try simp only [Bool.and_eq_true, Bool.or_eq_true, Bool.not_eq_true', Bool.not_eq_false', Bool.and_eq_false_iff, Bool.or_eq_false_iff, decide_eq_true_eq, decide_eq_false_iff_not, beq_iff_eq, bne_iff_ne, beq_eq_false_iff_ne, bne_eq_false_iff_eq] at qh48
          refine W.skip' ?_
          refine hK44 _ _ _ ?_
          refine W.prune' [0, 1, 5, 7, 42, 43, 44] [Value.slice pa ps.length pcap, Value.slice none 0 0, nV .i64 ((jn (ps.take k)).length), Value.slice ((ps.getD k default).a) ((ps.getD k default).xs.length) ((ps.getD k default).cap), Value.slice pa ps.length pcap, nV .i64 ps.length, nV .i64 k] (by kernel_rfl) (fun f49 => ?_)
          refine W.region ?_
          refine Wl.run 3 (by kernel_rfl) ?_
          refine Wl.ys (v := nV .i64 (((jn (ps.take k)).length) + ((ps.getD k default).xs.length))) rfl rfl ((Ys.pure (v := .int .i64 (iadd .i64 (((jn (ps.take k)).length : Nat) : Int) (((ps.getD k default).xs.length : Nat) : Int))) (fun _ => by kernel_rfl)).conseq (int_congr (iadd_eq (by omega) (by omega) (by omega)))) ?_
          refine Wl.run 1 (by kernel_rfl) ?_
          refine Wl.nil ?_
          refine hK40 _ _ _ ?_
          refine W.prune' [0, 1, 5, 42, 43, 44] [Value.slice pa ps.length pcap, Value.slice none 0 0, nV .i64 (((jn (ps.take k)).length) + ((ps.getD k default).xs.length)), Value.slice pa ps.length pcap, nV .i64 ps.length, nV .i64 k] (by kernel_rfl) (fun f50 => ?_)
          refine W.region ?_
          refine Wl.ys (v := nV .i64 (k + 1)) rfl rfl ((Ys.pure (v := .int .i64 (iadd .i64 ((k : Nat) : Int) 1)) (fun _ => by kernel_rfl)).conseq (int_congr (iadd_eq (by omega) (by omega) (by omega)))) ?_
          refine Wl.run 1 (by kernel_rfl) ?_
          refine Wl.nil ?_
          have hjs := congrArg List.length (jn_step (ps := ps) (k := k) (by omega)); rw [List.length_append] at hjs
          refine fun w_ h_ => hJ32 (k + 1) _ w_ (by omega) (by first | omega | trivial | simp) ?_ h_
          refine Eq.trans (b := ([Value.slice pa ps.length pcap, Value.slice none 0 0, nV .i64 (((jn (ps.take k)).length) + ((ps.getD k default).xs.length)), Value.slice pa ps.length pcap, nV .i64 ps.length, nV .i64 (k + 1)] : List Value)) (by kernel_rfl) (by rw [hjs])
      · have qh38 := h38; try simp only [Bool.and_eq_true, Bool.or_eq_true, Bool.not_eq_true', Bool.not_eq_false', Bool.and_eq_false_iff, Bool.or_eq_false_iff, decide_eq_true_eq, decide_eq_false_iff_not, beq_iff_eq, bne_iff_ne, beq_eq_false_iff_ne, bne_eq_false_iff_eq] at qh38
        refine W.exit ?_
        refine hK29 _ _ _ ?_
        refine W.prune' [0, 1, 5] [Value.slice pa ps.length pcap, Value.slice none 0 0, nV .i64 ((jn (ps.take k)).length)] (by kernel_rfl) (fun f51 => ?_)
        refine W.seq (fun K52 hK52 => ?_)
        have hke : (jn (ps.take k)).length = (jn ps).length := by rw [jn_all (by omega)]
        refine W.region ?_
        refine Wl.run 1 (by kernel_rfl) ?_
        refine Wl.ht rfl (Ht.makeNoZero (ps := #[3]) (t := 25) (e := 5) (k := (jn (ps.take k)).length) (fid := 85) (fn := Try.f85) rfl rfl (by kernel_rfl) (by kernel_rfl) Try.func85 (by kernel_rfl) (by kernel_rfl) (by kernel_rfl) (by kernel_rfl) (by kernel_rfl) (by omega)) (fun x56 => ?_)
        obtain ⟨mz53, hz54, hz55⟩ := x56
        refine Wl.castL (LL' := [[cb mz53.b (mc b8 mz53.zs) 5]]) rfl ?_
        refine Wl.run 2 (by kernel_rfl) ?_
        refine Wl.ys (v := Value.slice (some ⟨mz53.b, 0, none⟩) ((jn (ps.take k)).length) ((jn (ps.take k)).length)) rfl rfl (Ys.sliceHM (a := some ⟨mz53.b, 0, none⟩) (len := (jn (ps.take k)).length) (cap := mz53.zs.length) (sz := 1) (k := .i64) (i := (((jn (ps.take k)).length : Nat) : Int)) (k' := .i64) (j := (((jn (ps.take k)).length : Nat) : Int)) rfl (by kernel_rfl) (by kernel_rfl) (by kernel_rfl) Try.runUnderlying25 Try.sizeOf5 (by omega) (by omega) (by omega)) ?_
        refine Wl.run 1 (by kernel_rfl) ?_
        refine Wl.nil ?_
        refine hK52 _ _ _ ?_
        refine W.prune' [0, 1, 8] [Value.slice pa ps.length pcap, Value.slice none 0 0, Value.slice (some ⟨mz53.b, 0, none⟩) ((jn (ps.take k)).length) ((jn (ps.take k)).length)] (by kernel_rfl) (fun f57 => ?_)
        refine W.seq (fun K58 hK58 => ?_)
        refine W.region ?_
        refine Wl.run 2 (by kernel_rfl) ?_
        refine Wl.ys (v := Value.pointer (some (ela pa 0))) rfl rfl (Ys.byMem fun w_ h_ => Ys.indexAddr (k := .i64) (a := pa) (len := ps.length) (cap := pcap) (i := 0) (sz := 1) rfl (by kernel_rfl) (by kernel_rfl) Try.runUnderlying128 Try.sizeOf25 (by omega) (by omega) ((hpa.mem0 h_).here (by rw [mc_len]; first | omega | (simp; omega)))) ?_
        refine Wl.ys (v := Value.slice ((ps.getD 0 default).a) ((ps.getD 0 default).xs.length) ((ps.getD 0 default).cap)) rfl rfl (Ys.ld (a := ela pa 0) rfl (by kernel_rfl) Try.isAgg25 (fun w_ h_ => (hpa.mem0 h_).ld (mc_get default (by first | omega | (simp; omega))))) ?_
        have hb59 := jn_el (ps := ps) (k := 0) (by omega)
        refine Wl.ht rfl (Ht.copy (dl := (jn (ps.take k)).length) (dc := (jn (ps.take k)).length) (m := (ps.getD 0 default).xs.length) (q := (ps.getD 0 default).xs.length) (sz := 1) (o' := 0) (i := 0) (j := 0) (e := 5) (ii := (Try.prog.info? 5).getD default) (b := mz53.b) (t := 5) (xv := Value.slice ((ps.getD 0 default).a) ((ps.getD 0 default).xs.length) ((ps.getD 0 default).cap)) (cs := mc b8 mz53.zs) (news := mc b8 ((ps.getD 0 default).xs)) (cs' := mc b8 (mz53.zs.take 0 ++ ((ps.getD 0 default).xs) ++ mz53.zs.drop (0 + ((ps.getD 0 default).xs).length))) (LL' := [[cb mz53.b (mc b8 (mz53.zs.take 0 ++ ((ps.getD 0 default).xs) ++ mz53.zs.drop (0 + ((ps.getD 0 default).xs).length))) 5]]) rfl rfl (by kernel_rfl) (by kernel_rfl) (by kernel_rfl) (by kernel_rfl) (by kernel_rfl) rfl rfl (fun _ => rfl) (by show min _ _ = _; first | omega | (simp; omega)) (Src.at (a := (ps.getD 0 default).a) (by first | rfl | (rw [mc_len, List.length_take]; omega) | (rw [mc_len, List.length_take, List.length_drop]; omega) | (simp [mc, be_len]; done) | (simp [mc, be_len]; omega)) (fun w_ h_ => ((hp _ (getD_in (by omega))).mem0 h_))) (by first | (simp only [mc_len]; omega) | (simp only [mc_len, List.length_append, List.length_take, List.length_drop]; omega) | (simp [mc, be_len]; try omega)) (mc_one (fun _ => rfl) _) (mc_put (g := b8) mz53.zs ((ps.getD 0 default).xs) 0) rfl) (fun _ => ?_)
        refine Wl.run 1 (by kernel_rfl) ?_
        refine Wl.nil ?_
        refine hK58 _ _ _ ?_
        refine W.prune' [0, 1, 8, 9] [Value.slice pa ps.length pcap, Value.slice none 0 0, Value.slice (some ⟨mz53.b, 0, none⟩) ((jn (ps.take k)).length) ((jn (ps.take k)).length), nV .i64 ((ps.getD 0 default).xs.length)] (by kernel_rfl) (fun f60 => ?_)
        refine W.seq (fun K61 hK61 => ?_)
        refine W.seq (fun K62 hK62 => ?_)
        refine W.region ?_
        refine Wl.run 1 (by kernel_rfl) ?_
        refine Wl.ys (v := Value.slice (sla pa pcap 1 1) (ps.length - 1) (pcap - 1)) rfl rfl (Ys.sliceL (a := pa) (len := ps.length) (cap := pcap) (sz := 1) (k := .i64) (i := 1) rfl (by kernel_rfl) (by kernel_rfl) Try.runUnderlying128 Try.sizeOf25 (by omega) (by omega)) ?_
        refine Wl.run 2 (by kernel_rfl) ?_
        refine Wl.nil ?_
        refine hK62 _ _ _ ?_
        refine W.prune' [1, 8, 9, 70, 71, 72] [Value.slice none 0 0, Value.slice (some ⟨mz53.b, 0, none⟩) ((jn (ps.take k)).length) ((jn (ps.take k)).length), nV .i64 ((ps.getD 0 default).xs.length), Value.slice (sla pa pcap 1 1) (ps.length - 1) (pcap - 1), nV .i64 (ps.length - 1), Value.int .i64 0] (by kernel_rfl) (fun f63 => ?_)
        refine W.block ?_
        refine W.loop2 [1, 8, 9, 70, 71, 72] (fun (m : Nat) (zs : List UInt8) => [Value.slice none 0 0, Value.slice (some ⟨mz53.b, 0, none⟩) ((jn (ps.take k)).length) ((jn (ps.take k)).length), nV .i64 ((jn (ps.take (m + 1))).length), Value.slice (sla pa pcap 1 1) (ps.length - 1) (pcap - 1), nV .i64 (ps.length - 1), nV .i64 m]) (fun (m : Nat) (zs : List UInt8) => m + 1 ≤ ps.length ∧ zs.length = mz53.zs.length ∧ zs.take (jn (ps.take (m + 1))).length = jn (ps.take (m + 1))) (fun (m : Nat) (zs : List UInt8) => [[cb mz53.b (mc b8 zs) 5]]) (fun (m : Nat) (zs : List UInt8) => ps.length - m) 0 (mz53.zs.take 0 ++ ((ps.getD 0 default).xs) ++ mz53.zs.drop (0 + ((ps.getD 0 default).xs).length)) (Eq.trans (b := ([Value.slice none 0 0, Value.slice (some ⟨mz53.b, 0, none⟩) ((jn (ps.take k)).length) ((jn (ps.take k)).length), nV .i64 ((ps.getD 0 default).xs.length), Value.slice (sla pa pcap 1 1) (ps.length - 1) (pcap - 1), nV .i64 (ps.length - 1), Value.int .i64 0] : List Value)) (by kernel_rfl) (by rw [Nat.zero_add, jn_take1 (by omega)]; rfl)) ⟨(by omega), (put_len (k := 0) (by omega)), (by rw [jn_take1 (by omega)]; simp)⟩ (by rfl) (fun m zs f65 J64 hp66 hJ64 => ?_)
        obtain ⟨hm, hzl, hzt⟩ := hp66
        have htl2 := jn_take_le ps (m + 1); have htk2 := jn_take_le ps (m + 1 + 1)
        refine W.seq (fun K67 hK67 => ?_)
        refine W.region ?_
        refine Wl.run 1 (by kernel_rfl) ?_
        refine Wl.nil ?_
        refine hK67 _ _ _ ?_
        refine W.seq (fun K68 hK68 => ?_)
        refine W.cond (decide (((m : Nat) : Int) < ((ps.length - 1 : Nat) : Int))) (by kernel_rfl) (fun h69 => ?_) (fun h70 => ?_)
        · have qh69 := h69; try simp only [Bool.and_eq_true, Bool.or_eq_true, Bool.not_eq_true', Bool.not_eq_false', Bool.and_eq_false_iff, Bool.or_eq_false_iff, decide_eq_true_eq, decide_eq_false_iff_not, beq_iff_eq, bne_iff_ne, beq_eq_false_iff_ne, bne_eq_false_iff_eq] at qh69
          refine W.skip' ?_
          refine hK68 _ _ _ ?_
          refine W.prune' [1, 8, 9, 70, 71, 72] [Value.slice none 0 0, Value.slice (some ⟨mz53.b, 0, none⟩) ((jn (ps.take k)).length) ((jn (ps.take k)).length), nV .i64 ((jn (ps.take (m + 1))).length), Value.slice (sla pa pcap 1 1) (ps.length - 1) (pcap - 1), nV .i64 (ps.length - 1), nV .i64 m] (by kernel_rfl) (fun f71 => ?_)
          refine W.seq (fun K72 hK72 => ?_)
          refine W.block ?_
          refine W.seq (fun K73 hK73 => ?_)
          refine W.region ?_
          refine Wl.ys (v := Value.pointer (some (ela (sla pa pcap 1 1) (m * 1)))) rfl rfl (Ys.byMem fun w_ h_ => Ys.indexAddr (k := .i64) (a := sla pa pcap 1 1) (len := ps.length - 1) (cap := pcap - 1) (i := ((m : Nat) : Int)) (sz := 1) rfl (by kernel_rfl) (by kernel_rfl) Try.runUnderlying128 Try.sizeOf25 (by omega) (by omega) (((hpa.mem0 h_).mdrop pcap 1 (by omega)).here (by rw [mc_len]; first | omega | (simp; omega)))) ?_
          refine Wl.ys (v := Value.slice (((ps.drop 1).getD m default).a) (((ps.drop 1).getD m default).xs.length) (((ps.drop 1).getD m default).cap)) rfl rfl (Ys.ld (a := ela (sla pa pcap 1 1) (m * 1)) rfl (by kernel_rfl) Try.isAgg25 (fun w_ h_ => ((hpa.mem0 h_).mdrop pcap 1 (by omega)).ld (mc_get1 default (by first | omega | (simp; omega))))) ?_
          have hb74 := jn_el1 (ps := ps) (k := m) (by omega)
          refine Wl.run 1 (by kernel_rfl) ?_
          refine Wl.nil ?_
          refine hK73 _ _ _ ?_
          refine W.prune' [1, 8, 9, 11, 70, 71, 72] [Value.slice none 0 0, Value.slice (some ⟨mz53.b, 0, none⟩) ((jn (ps.take k)).length) ((jn (ps.take k)).length), nV .i64 ((jn (ps.take (m + 1))).length), Value.slice (((ps.drop 1).getD m default).a) (((ps.drop 1).getD m default).xs.length) (((ps.drop 1).getD m default).cap), Value.slice (sla pa pcap 1 1) (ps.length - 1) (pcap - 1), nV .i64 (ps.length - 1), nV .i64 m] (by kernel_rfl) (fun f75 => ?_)
          refine W.seq (fun K76 hK76 => ?_)
          refine W.region ?_
          refine Wl.run 3 (by kernel_rfl) ?_
          refine Wl.ys (v := Value.slice (sla (some ⟨mz53.b, 0, none⟩) ((jn (ps.take k)).length) ((jn (ps.take (m + 1))).length) 1) (((jn (ps.take k)).length) - ((jn (ps.take (m + 1))).length)) (((jn (ps.take k)).length) - ((jn (ps.take (m + 1))).length))) rfl rfl (Ys.sliceL (a := some ⟨mz53.b, 0, none⟩) (len := (jn (ps.take k)).length) (cap := (jn (ps.take k)).length) (sz := 1) (k := .i64) (i := (((jn (ps.take (m + 1))).length : Nat) : Int)) rfl (by kernel_rfl) (by kernel_rfl) Try.runUnderlying25 Try.sizeOf5 (by omega) (by omega)) ?_
          refine Wl.run 1 (by kernel_rfl) ?_
          refine Wl.ht rfl (Ht.copySub (cap := ((jn (ps.take k)).length)) (dl := ((jn (ps.take k)).length) - ((jn (ps.take (m + 1))).length)) (dc := ((jn (ps.take k)).length) - ((jn (ps.take (m + 1))).length)) (m := 0) (q := 0) (sz := 1) (o' := (jn (ps.take (m + 1))).length) (i := 0) (j := 0) (e := 5) (ii := (Try.prog.info? 5).getD default) (b := mz53.b) (t := 5) (xv := Value.slice none 0 0) (cs := mc b8 zs) (news := mc b8 []) (cs' := mc b8 (zs.take ((jn (ps.take (m + 1))).length) ++ [] ++ zs.drop ((jn (ps.take (m + 1))).length + [].length))) (LL' := [[cb mz53.b (mc b8 (zs.take ((jn (ps.take (m + 1))).length) ++ [] ++ zs.drop ((jn (ps.take (m + 1))).length + [].length))) 5]]) rfl rfl (by kernel_rfl) (by kernel_rfl) (by kernel_rfl) (by kernel_rfl) (by omega) (by kernel_rfl) rfl rfl (fun _ => rfl) (by show min _ _ = _; first | omega | (simp; omega)) (Src.at (a := none) (by simp [mc]) (fun _ _ => At.nil _ _)) (by first | rfl | (rw [mc_len, List.length_take]; omega) | (rw [mc_len, List.length_take, List.length_drop]; omega) | (simp [mc, be_len]; done) | (simp [mc, be_len]; omega)) (by first | (simp only [mc_len]; omega) | (simp only [mc_len, List.length_append, List.length_take, List.length_drop]; omega) | (simp [mc, be_len]; try omega)) (mc_one (fun _ => rfl) _) (mc_put1 (g := b8) zs [] ((jn (ps.take (m + 1))).length)) rfl) (fun _ => ?_)
          refine Wl.ys (v := nV .i64 (((jn (ps.take (m + 1))).length) + 0)) rfl rfl ((Ys.pure (v := .int .i64 (iadd .i64 (((jn (ps.take (m + 1))).length : Nat) : Int) 0)) (fun _ => by kernel_rfl)).conseq (int_congr (iadd_eq (by omega) (by omega) (by omega)))) ?_
          refine Wl.run 1 (by kernel_rfl) ?_
          refine Wl.nil ?_
          refine hK76 _ _ _ ?_
          refine W.prune' [1, 8, 9, 11, 70, 71, 72] [Value.slice none 0 0, Value.slice (some ⟨mz53.b, 0, none⟩) ((jn (ps.take k)).length) ((jn (ps.take k)).length), nV .i64 (((jn (ps.take (m + 1))).length) + 0), Value.slice (((ps.drop 1).getD m default).a) (((ps.drop 1).getD m default).xs.length) (((ps.drop 1).getD m default).cap), Value.slice (sla pa pcap 1 1) (ps.length - 1) (pcap - 1), nV .i64 (ps.length - 1), nV .i64 m] (by kernel_rfl) (fun f77 => ?_)
          refine W.region ?_
          refine Wl.run 3 (by kernel_rfl) ?_
          refine Wl.ys (v := Value.slice (sla (some ⟨mz53.b, 0, none⟩) ((jn (ps.take k)).length) (((jn (ps.take (m + 1))).length) + 0) 1) (((jn (ps.take k)).length) - (((jn (ps.take (m + 1))).length) + 0)) (((jn (ps.take k)).length) - (((jn (ps.take (m + 1))).length) + 0))) rfl rfl (Ys.sliceL (a := some ⟨mz53.b, 0, none⟩) (len := (jn (ps.take k)).length) (cap := (jn (ps.take k)).length) (sz := 1) (k := .i64) (i := ((((jn (ps.take (m + 1))).length) + 0 : Nat) : Int)) rfl (by kernel_rfl) (by kernel_rfl) Try.runUnderlying25 Try.sizeOf5 (by omega) (by omega)) ?_
          refine Wl.run 1 (by kernel_rfl) ?_
          refine Wl.ht rfl (Ht.copySub (cap := ((jn (ps.take k)).length)) (dl := ((jn (ps.take k)).length) - (((jn (ps.take (m + 1))).length) + 0)) (dc := ((jn (ps.take k)).length) - (((jn (ps.take (m + 1))).length) + 0)) (m := ((ps.drop 1).getD m default).xs.length) (q := ((ps.drop 1).getD m default).xs.length) (sz := 1) (o' := ((jn (ps.take (m + 1))).length) + 0) (i := 0) (j := 0) (e := 5) (ii := (Try.prog.info? 5).getD default) (b := mz53.b) (t := 5) (xv := Value.slice (((ps.drop 1).getD m default).a) (((ps.drop 1).getD m default).xs.length) (((ps.drop 1).getD m default).cap)) (cs := mc b8 (zs.take ((jn (ps.take (m + 1))).length) ++ [] ++ zs.drop ((jn (ps.take (m + 1))).length + [].length))) (news := mc b8 (((ps.drop 1).getD m default).xs)) (cs' := mc b8 ((zs.take ((jn (ps.take (m + 1))).length) ++ [] ++ zs.drop ((jn (ps.take (m + 1))).length + [].length)).take (((jn (ps.take (m + 1))).length) + 0) ++ (((ps.drop 1).getD m default).xs) ++ (zs.take ((jn (ps.take (m + 1))).length) ++ [] ++ zs.drop ((jn (ps.take (m + 1))).length + [].length)).drop (((jn (ps.take (m + 1))).length) + 0 + (((ps.drop 1).getD m default).xs).length))) (LL' := [[cb mz53.b (mc b8 ((zs.take ((jn (ps.take (m + 1))).length) ++ [] ++ zs.drop ((jn (ps.take (m + 1))).length + [].length)).take (((jn (ps.take (m + 1))).length) + 0) ++ (((ps.drop 1).getD m default).xs) ++ (zs.take ((jn (ps.take (m + 1))).length) ++ [] ++ zs.drop ((jn (ps.take (m + 1))).length + [].length)).drop (((jn (ps.take (m + 1))).length) + 0 + (((ps.drop 1).getD m default).xs).length))) 5]]) rfl rfl (by kernel_rfl) (by kernel_rfl) (by kernel_rfl) (by kernel_rfl) (by omega) (by kernel_rfl) rfl rfl (fun _ => rfl) (by show min _ _ = _; first | omega | (simp; omega)) (Src.at (a := ((ps.drop 1).getD m default).a) (by first | rfl | (rw [mc_len, List.length_take]; omega) | (rw [mc_len, List.length_take, List.length_drop]; omega) | (simp [mc, be_len]; done) | (simp [mc, be_len]; omega)) (fun w_ h_ => ((hp _ (by rw [getD_drop1]; exact getD_in (by omega))).mem0 h_))) (by first | rfl | (rw [mc_len, List.length_take]; omega) | (rw [mc_len, List.length_take, List.length_drop]; omega) | (simp [mc, be_len]; done) | (simp [mc, be_len]; omega)) (by first | (simp only [mc_len]; omega) | (simp only [mc_len, List.length_append, List.length_take, List.length_drop]; omega) | (simp [mc, be_len]; try omega)) (mc_one (fun _ => rfl) _) (mc_put1 (g := b8) (zs.take ((jn (ps.take (m + 1))).length) ++ [] ++ zs.drop ((jn (ps.take (m + 1))).length + [].length)) (((ps.drop 1).getD m default).xs) (((jn (ps.take (m + 1))).length) + 0)) rfl) (fun _ => ?_)
          refine Wl.ys (v := nV .i64 ((((jn (ps.take (m + 1))).length) + 0) + (((ps.drop 1).getD m default).xs.length))) rfl rfl ((Ys.pure (v := .int .i64 (iadd .i64 ((((jn (ps.take (m + 1))).length) + 0 : Nat) : Int) ((((ps.drop 1).getD m default).xs.length : Nat) : Int))) (fun _ => by kernel_rfl)).conseq (int_congr (iadd_eq (by omega) (by omega) (by omega)))) ?_
          refine Wl.run 1 (by kernel_rfl) ?_
          refine Wl.nil ?_
          refine hK72 _ _ _ ?_
          refine W.prune' [1, 8, 9, 70, 71, 72] [Value.slice none 0 0, Value.slice (some ⟨mz53.b, 0, none⟩) ((jn (ps.take k)).length) ((jn (ps.take k)).length), nV .i64 ((((jn (ps.take (m + 1))).length) + 0) + (((ps.drop 1).getD m default).xs.length)), Value.slice (sla pa pcap 1 1) (ps.length - 1) (pcap - 1), nV .i64 (ps.length - 1), nV .i64 m] (by kernel_rfl) (fun f78 => ?_)
          refine W.region ?_
          refine Wl.ys (v := nV .i64 (m + 1)) rfl rfl ((Ys.pure (v := .int .i64 (iadd .i64 ((m : Nat) : Int) 1)) (fun _ => by kernel_rfl)).conseq (int_congr (iadd_eq (by omega) (by omega) (by omega)))) ?_
          refine Wl.run 1 (by kernel_rfl) ?_
          refine Wl.nil ?_
          have hjs := congrArg List.length (jn_step (ps := ps) (k := m + 1) (by omega)); rw [List.length_append] at hjs
          refine fun w_ h_ => hJ64 (m + 1) ((zs.take ((jn (ps.take (m + 1))).length) ++ [] ++ zs.drop ((jn (ps.take (m + 1))).length + [].length)).take (((jn (ps.take (m + 1))).length) + 0) ++ (((ps.drop 1).getD m default).xs) ++ (zs.take ((jn (ps.take (m + 1))).length) ++ [] ++ zs.drop ((jn (ps.take (m + 1))).length + [].length)).drop (((jn (ps.take (m + 1))).length) + 0 + (((ps.drop 1).getD m default).xs).length)) _ w_ (by omega) ⟨(by omega), (by rw [getD_drop1, Nat.add_zero (jn (ps.take (m + 1))).length, put_nil hzt]; exact (put_len (by omega)).trans hzl), (by rw [getD_drop1, Nat.add_zero (jn (ps.take (m + 1))).length, put_nil hzt, hjs, put_take hzt (by omega) (by omega), jn_step (k := m + 1) (by omega)])⟩ ?_ h_
          refine Eq.trans (b := ([Value.slice none 0 0, Value.slice (some ⟨mz53.b, 0, none⟩) ((jn (ps.take k)).length) ((jn (ps.take k)).length), nV .i64 ((((jn (ps.take (m + 1))).length) + 0) + (((ps.drop 1).getD m default).xs.length)), Value.slice (sla pa pcap 1 1) (ps.length - 1) (pcap - 1), nV .i64 (ps.length - 1), nV .i64 (m + 1)] : List Value)) (by kernel_rfl) (by rw [getD_drop1, Nat.add_zero, hjs])
        · have qh70 := h70; try simp only [Bool.and_eq_true, Bool.or_eq_true, Bool.not_eq_true', Bool.not_eq_false', Bool.and_eq_false_iff, Bool.or_eq_false_iff, decide_eq_true_eq, decide_eq_false_iff_not, beq_iff_eq, bne_iff_ne, beq_eq_false_iff_ne, bne_eq_false_iff_eq] at qh70
          refine W.exit ?_
          refine hK61 _ _ _ ?_
          refine W.prune' [8] [Value.slice (some ⟨mz53.b, 0, none⟩) ((jn (ps.take k)).length) ((jn (ps.take k)).length)] (by kernel_rfl) (fun f79 => ?_)
          refine W.seq (fun K80 hK80 => ?_)
          refine W.region ?_
          refine Wl.run 2 (by kernel_rfl) ?_
          refine Wl.nil ?_
          refine hK80 _ _ _ ?_
          refine W.prune' [4] [Value.slice (some ⟨mz53.b, 0, none⟩) ((jn (ps.take k)).length) ((jn (ps.take k)).length)] (by kernel_rfl) (fun f81 => ?_)
          refine W.ret ?_
          show ∀ w_, _ → bodyPostM (fence none) 0 Try.prog Try.f81 _ Exit.ret _ w_
          exact fun w_ hS_ => fin_ret (ret1 rfl (RV.tmp (v := Value.slice (some ⟨mz53.b, 0, none⟩) ((jn (ps.take k)).length) ((jn (ps.take k)).length)) (by kernel_rfl)) hS_ ⟨⟨false, mz53.b, (jn ps).length, mc b8 (zs.drop (jn ps).length)⟩, ⟨⟨fun h => (by cases h), Nat.le_refl _, by simp only [maxLen]; omega, by simp only [mc_len, List.length_drop]; omega⟩, fun _ => rfl⟩, congrArg Ending.returned ((by simp only [hke]; rfl)), (Mem.cast (by have he := jn_all (ps := ps) (k := m + 1) (by omega); rw [he] at hzt; show [[cb _ (mc b8 zs) 5]] = [[cb _ (mc b8 (jn ps) ++ mc b8 (zs.drop (jn ps).length)) 5]]; rw [mc_app]; conv => lhs; rw [← List.take_append_drop (jn ps).length zs, hzt]) hS_)⟩)
end Go.Proofs.Ytejeafjkhomdoaa.Oct
