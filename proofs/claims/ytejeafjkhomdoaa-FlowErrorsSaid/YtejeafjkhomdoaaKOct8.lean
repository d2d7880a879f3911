import Derived.Test.YtejeafjkhomdoaaKOct6
import Derived.Test.YtejeafjkhomdoaaKVG
set_option linter.unusedVariables false
set_option linter.unusedSimpArgs false
set_option maxRecDepth 20000
namespace Go.Proofs.Ytejeafjkhomdoaa.Oct
open Go.RowKit Base
attribute [local irreducible] Ys Yc Ht HtS HtIn Wl Wd W Mem pf dpf
structure SV where
  a : Option Addr
  xs : List UInt8
  cap : Nat
instance : Inhabited SV := ⟨⟨none, [], 0⟩⟩
abbrev slv (p : SV) : Value := .slice p.a p.xs.length p.cap
def jn (ps : List SV) : List UInt8 := (ps.map (·.xs)).flatten
theorem jn_step {ps : List SV} {k : Nat} (h : k < ps.length) : jn (ps.take (k + 1)) = jn (ps.take k) ++ (ps.getD k default).xs := by
  unfold jn; rw [List.take_add_one, List.map_append, List.flatten_append]; simp [h]
theorem jn_take_le (ps : List SV) (k : Nat) : (jn (ps.take k)).length ≤ (jn ps).length := by
  have : jn ps = jn (ps.take k) ++ jn (ps.drop k) := by unfold jn; rw [← List.flatten_append, ← List.map_append, List.take_append_drop]
  rw [this, List.length_append]; omega
theorem jn_all {ps : List SV} {k : Nat} (h : ps.length ≤ k) : jn (ps.take k) = jn ps := by rw [List.take_of_length_le h]
theorem jn_one {ps : List SV} (h : ps.length = 1) : jn ps = (ps.getD 0 default).xs := by
  match ps, h with
  | [p], _ => simp [jn]
theorem jn_take1 {ps : List SV} (h : 0 < ps.length) : jn (ps.take 1) = (ps.getD 0 default).xs := by
  match ps, h with
  | p :: _, _ => simp [jn]
theorem getD_in {ps : List SV} {k : Nat} (h : k < ps.length) : ps.getD k default ∈ ps := by
  rw [List.getD_eq_getElem?_getD, List.getElem?_eq_getElem h]; exact List.getElem_mem h
theorem getD_drop1 (ps : List SV) (k : Nat) : (ps.drop 1).getD k default = ps.getD (k + 1) default := by
  simp [List.getD_eq_getElem?_getD, List.getElem?_drop, Nat.add_comm]
theorem jn_el {ps : List SV} {k : Nat} (h : k < ps.length) : (ps.getD k default).xs.length ≤ (jn ps).length := by
  have h1 := congrArg List.length (jn_step h)
  have h2 := jn_take_le ps (k + 1)
  rw [List.length_append] at h1; omega
theorem jn_el1 {ps : List SV} {k : Nat} (h : k + 1 < ps.length) : (jn (ps.take (k + 1))).length + ((ps.drop 1).getD k default).xs.length ≤ (jn ps).length := by
  rw [getD_drop1]
  have h1 := congrArg List.length (jn_step h)
  have h2 := jn_take_le ps (k + 1 + 1)
  rw [List.length_append] at h1; omega
theorem put_take {zs ys xs : List UInt8} {k : Nat} (h : zs.take k = xs) (hk : k ≤ zs.length) (hl : k + ys.length ≤ zs.length) : (zs.take k ++ ys ++ zs.drop (k + ys.length)).take (k + ys.length) = xs ++ ys := by
  have hkl : (zs.take k ++ ys).length = k + ys.length := by simp; omega
  rw [← hkl, List.take_left, h]
theorem put_nil {zs ys xs : List UInt8} {k : Nat} (h : zs.take k = xs) : (zs.take k ++ [] ++ zs.drop (k + ([] : List UInt8).length)).take k ++ ys ++ (zs.take k ++ [] ++ zs.drop (k + ([] : List UInt8).length)).drop (k + ys.length) = zs.take k ++ ys ++ zs.drop (k + ys.length) := by
  rw [List.append_nil, List.length_nil, Nat.add_zero, List.take_append_drop]
theorem put_len {zs ys : List UInt8} {k : Nat} (hl : k + ys.length ≤ zs.length) : (zs.take k ++ ys ++ zs.drop (k + ys.length)).length = zs.length := by
  simp; omega
theorem join_c (ps : List SV) (pa : Option Addr) (pcap : Nat) (w : World) (hpa : At w pa (mc slv ps)) (hp : ∀ p ∈ ps, At w p.a (byc p.xs)) (htot : (jn ps).length ≤ 1000000000000) (hn : ps.length ≤ 1000000000) (hpc : ps.length ≤ pcap) : Calls Try.prog 81 #[Value.slice pa ps.length pcap, Value.slice none 0 0] w (RetM w (fun g : FS => g.ok 1 (jn ps).length ∧ (2 ≤ ps.length → g.nil = false)) (fun g => .slice g.a (jn ps).length g.cap) [] (fun g => [g.seg 5 (byc (jn ps))])) := by
 refine calls_W (M := []) (LL := []) (n := 92) Try.func81 rfl rfl ma10 (Mem.refl _) (W.seq (fun K1 hK1 => ?_))
 refine W.region (Wl.run 1 ma0 (Wl.nil (hK1 _ _ _ (W.seq (fun K2 hK2 => ?_)))))
 refine W.seq (fun K3 hK3 => W.region (Wl.run 3 ma0 (Wl.nil (hK3 _ _ _ ?_))))
 refine W.cond (((ps.length : Nat) : Int) == 0) ma0 (fun h4 => ?_) (fun h5 => ?_)
 ·have qh4 := h4; try simp only [zA] at qh4
  refine W.seq (fun K6 hK6 => W.region (Wl.ht rfl (Ht.made (mk := fun b_ => .slice (some ⟨b_, 0, none⟩) 0 0) (t := 5) (cs := []) rfl (fun _ => kr)) (fun p15 => Wl.run 1 ma0 (Wl.nil ?_))))
  refine hK6 _ _ _ (W.ret ?_)
  show ∀ w_, _ → bodyPostM (fence none) 0 Try.prog Try.f81 _ Exit.ret _ w_
  exact fun w_ hS_ => fin_ret (ret1 rfl (RV.tmp (v := Value.slice (some ⟨p15, 0, none⟩) 0 0) ma0) hS_ ⟨⟨false, p15, 0, []⟩, ⟨(by rw [List.length_eq_zero_iff.1 (show ps.length = 0 by omega)]; exact FS.lit_ok ma2), fun _ => rfl⟩, congrArg Ending.returned ((by rw [List.length_eq_zero_iff.1 (show ps.length = 0 by omega)]; rfl)), (Mem.cast (by rw [List.length_eq_zero_iff.1 (show ps.length = 0 by omega)]; rfl) hS_)⟩)
 ·have qh5 := h5; try simp only [zA] at qh5
  refine W.skip' (hK2 _ _ _ (W.seq (fun K7 hK7 => W.seq (fun K8 hK8 => W.region ?_))))
  refine Wl.run 3 ma0 (Wl.nil (hK8 _ _ _ ?_))
  refine W.cond (((ps.length : Nat) : Int) == 1) ma0 (fun h9 => ?_) (fun h10 => ?_)
  ·have qh9 := h9; try simp only [zA] at qh9
   refine W.seq (fun K11 hK11 => W.region (Wl.run 1 ma0 (Wl.ys (v := Value.pointer (some (ela pa 0))) rfl rfl (Ys.byMem fun w_ h_ => Ys.indexAddr (k := .i64) (a := pa) (len := ps.length) (cap := pcap) (i := 0) (sz := 1) rfl ma0 ma0 Try.runUnderlying128 Try.sizeOf25 ma1 ma1 ((hpa.mem0 h_).here ma17)) (Wl.ys (v := Value.slice ((ps.getD 0 default).a) ((ps.getD 0 default).xs.length) ((ps.getD 0 default).cap)) rfl rfl (Ys.ld (a := ela pa 0) rfl ma0 Try.isAgg25 (fun w_ h_ => (hpa.mem0 h_).ld (mc_get default ma8))) ?_))))
   have hb12 := jn_el (ps := ps) (k := 0) ma1
   refine Wl.push (Wl.htS rfl (HtS.append (eu := 5) (xv := Value.slice ((ps.getD 0 default).a) ((ps.getD 0 default).xs.length) ((ps.getD 0 default).cap)) (i := 0) (g := FS.nul) (e := 5) (ii := (Try.prog.info? 5).getD default) (z := iV .u8 0) (sz := 1) (bytes := 1) (nn := 0) (m := (ps.getD 0 default).xs.length) (k := (ps.getD 0 default).xs.length) (xs := mc b8 []) (news := mc b8 ((ps.getD 0 default).xs)) (cs' := mc b8 ((ps.getD 0 default).xs)) (Lo := fun g13 => [g13.seg 5 (mc b8 ((ps.getD 0 default).xs))]) rfl rfl ma0 ma0 ma0 ma0 ma0 ma0 ma0 ma0 ma0 rfl (FS.nul_ok _) (by first | rfl | simp [mc, be_len]) (fun _ => rfl) (Src.at (a := (ps.getD 0 default).a) ma6 (fun w_ h_ => ((hp _ (getD_in ma1)).mem0 h_))) ma6 (mc_one (fun _ => rfl) _) ma5 ma13 ma5 rfl (fun _ => rfl)) (fun g13 hx18 => ?_))
   obtain ⟨ok14, hn15, hn16⟩ := hx18
   refine Wl.run 1 ma0 (Wl.nil (hK11 _ _ _ (W.prune' [4] [sV g13 ((ps.getD 0 default).xs.length)] ma0 (fun f19 => W.ret ?_))))
   show ∀ w_, _ → bodyPostM (fence none) 0 Try.prog Try.f81 _ Exit.ret _ w_
   exact fun w_ hS_ => fin_ret (ret1 rfl (RV.tmp (v := sV g13 ((ps.getD 0 default).xs.length)) ma0) hS_ ⟨g13, ⟨(by rw [jn_one ma1]; exact ok14), fun h => absurd h ma1⟩, congrArg Ending.returned ((by rw [jn_one ma1])), (Mem.cast (by rw [jn_one ma1]) hS_)⟩)
  ·have qh10 := h10; try simp only [zA] at qh10
   refine W.skip' (hK7 _ _ _ (W.seq (fun K20 hK20 => W.region (Wl.run 1 ma0 ?_))))
   refine Wl.nil (hK20 _ _ _ (W.seq (fun K21 hK21 => W.seq (fun K22 hK22 => W.region ?_))))
   refine Wl.run 3 ma0 (Wl.nil (hK22 _ _ _ (W.condF ma0 (W.skip' ?_))))
   refine hK21 _ _ _ (W.prune' [0, 1, 5] [Value.slice pa ps.length pcap, Value.slice none 0 0, iV .i64 0] ma0 (fun f23 => ?_))
   refine W.seq (fun K24 hK24 => W.seq (fun K25 hK25 => ?_))
   refine W.region (Wl.run 3 ma0 (Wl.nil (hK25 _ _ _ (W.block ?_))))
   refine W.loop1 [0, 1, 5, 42, 43, 44] (fun (k : Nat) => [Value.slice pa ps.length pcap, Value.slice none 0 0, nV .i64 ((jn (ps.take k)).length), Value.slice pa ps.length pcap, nV .i64 ps.length, nV .i64 k]) (fun (k : Nat) => k ≤ ps.length) (fun (k : Nat) => []) (fun (k : Nat) => ps.length - k) 0 (Eq.trans (b := ([Value.slice pa ps.length pcap, Value.slice none 0 0, iV .i64 0, Value.slice pa ps.length pcap, nV .i64 ps.length, iV .i64 0] : List Value)) ma0 (by simp [jn])) ma26 (by rfl) (fun k f27 J26 hp28 hJ26 => ?_)
   have hk := hp28
   have htl := jn_take_le ps k; have htk := jn_take_le ps (k + 1)
   refine W.seq (fun K29 hK29 => W.region (Wl.run 1 ma0 (Wl.nil (hK29 _ _ _ ?_))))
   refine W.seq (fun K30 hK30 => ?_)
   refine W.cond (decide (((k : Nat) : Int) < (ps.length : Int))) ma0 (fun h31 => ?_) (fun h32 => ?_)
   ·have qh31 := h31; try simp only [zA] at qh31
    refine W.skip' (hK30 _ _ _ (W.seq (fun K33 hK33 => W.block (W.seq (fun K34 hK34 => ?_)))))
    refine W.region (Wl.ys (v := Value.pointer (some (ela pa (k * 1)))) rfl rfl (Ys.byMem fun w_ h_ => Ys.indexAddr (k := .i64) (a := pa) (len := ps.length) (cap := pcap) (i := (k : Int)) (sz := 1) rfl ma0 ma0 Try.runUnderlying128 Try.sizeOf25 ma1 ma1 ((hpa.mem0 h_).here ma17)) (Wl.ys (v := Value.slice ((ps.getD k default).a) ((ps.getD k default).xs.length) ((ps.getD k default).cap)) rfl rfl (Ys.ld (a := ela pa (k * 1)) rfl ma0 Try.isAgg25 (fun w_ h_ => (hpa.mem0 h_).ld (mc_get1 default ma8))) ?_))
    have hb35 := jn_el (ps := ps) (k := k) ma1
    refine Wl.run 1 ma0 (Wl.nil (hK34 _ _ _ (W.seq (fun K36 hK36 => W.seq (fun K37 hK37 => ?_)))))
    refine W.region (Wl.run 3 ma0 (Wl.ys (v := iV .i64 (9223372036854775807 - ((jn (ps.take k)).length : Int))) rfl rfl ((Ys.pure (v := .int .i64 (isub .i64 9223372036854775807 ((jn (ps.take k)).length : Int))) (fun _ => kr)).conseq (int_congr (isub_eq rfl ma1 ma1))) (Wl.run 1 ma0 (Wl.nil ?_))))
    refine hK37 _ _ _ ?_
    refine W.cond (decide ((((ps.getD k default).xs.length : Nat) : Int) > (9223372036854775807 - ((jn (ps.take k)).length : Int)))) ma0 (fun h38 => ?_) (fun h39 => ?_)
    ·have qh38 := h38; try simp only [zA] at qh38
     (exfalso; have hjs := congrArg List.length (jn_step (ps := ps) (k := k) ma1); rw [List.length_append] at hjs; omega)
    ·have qh39 := h39; try simp only [zA] at qh39
     refine W.skip' (hK36 _ _ _ (W.region (Wl.run 3 ma0 (Wl.ys (v := nV .i64 (((jn (ps.take k)).length) + ((ps.getD k default).xs.length))) rfl rfl ((Ys.pure (v := .int .i64 (iadd .i64 ((jn (ps.take k)).length : Int) ((ps.getD k default).xs.length : Int))) (fun _ => kr)).conseq (int_congr (iadd_eq ma1 ma1 ma1))) ?_))))
     refine Wl.run 1 ma0 (Wl.nil (hK33 _ _ _ (W.prune' [0, 1, 5, 42, 43, 44] [Value.slice pa ps.length pcap, Value.slice none 0 0, nV .i64 (((jn (ps.take k)).length) + ((ps.getD k default).xs.length)), Value.slice pa ps.length pcap, nV .i64 ps.length, nV .i64 k] ma0 (fun f40 => W.region ?_))))
     refine Wl.ys (v := nV .i64 (k + 1)) rfl rfl ((Ys.pure (v := .int .i64 (iadd .i64 (k : Int) 1)) (fun _ => kr)).conseq (int_congr (iadd_eq ma1 ma1 ma1))) (Wl.run 1 ma0 (Wl.nil ?_))
     have hjs := congrArg List.length (jn_step (ps := ps) (k := k) ma1); rw [List.length_append] at hjs
     refine fun w_ h_ => hJ26 (k + 1) _ w_ ma1 ma26 ?_ h_
     refine Eq.trans (b := ([Value.slice pa ps.length pcap, Value.slice none 0 0, nV .i64 (((jn (ps.take k)).length) + ((ps.getD k default).xs.length)), Value.slice pa ps.length pcap, nV .i64 ps.length, nV .i64 (k + 1)] : List Value)) ma0 (by rw [hjs])
   ·have qh32 := h32; try simp only [zA] at qh32
    refine W.exit (hK24 _ _ _ (W.seq (fun K41 hK41 => ?_)))
    have hke : (jn (ps.take k)).length = (jn ps).length := by rw [jn_all ma1]
    refine W.region (Wl.run 1 ma0 (Wl.ht rfl (Ht.makeNoZero (ps := #[3]) (t := 25) (e := 5) (k := (jn (ps.take k)).length) (fid := 85) (fn := Try.f85) rfl rfl ma0 ma0 Try.func85 ma0 ma0 ma0 ma0 ma0 ma1) (fun x45 => ?_)))
    obtain ⟨mz42, hz43, hz44⟩ := x45
    refine Wl.castL (LL' := [[cb mz42.b (mc b8 mz42.zs) 5]]) rfl (Wl.run 2 ma0 (Wl.ys (v := Value.slice (some ⟨mz42.b, 0, none⟩) ((jn (ps.take k)).length) ((jn (ps.take k)).length)) rfl rfl (Ys.sliceHM (a := some ⟨mz42.b, 0, none⟩) (len := (jn (ps.take k)).length) (cap := mz42.zs.length) (sz := 1) (k := .i64) (i := ((jn (ps.take k)).length : Int)) (k' := .i64) (j := ((jn (ps.take k)).length : Int)) rfl ma0 ma0 ma0 Try.runUnderlying25 Try.sizeOf5 ma1 ma1 ma1) (Wl.run 1 ma0 (Wl.nil ?_))))
    refine hK41 _ _ _ (W.prune' [0, 1, 8] [Value.slice pa ps.length pcap, Value.slice none 0 0, Value.slice (some ⟨mz42.b, 0, none⟩) ((jn (ps.take k)).length) ((jn (ps.take k)).length)] ma0 (fun f46 => ?_))
    refine W.seq (fun K47 hK47 => W.region (Wl.run 2 ma0 (Wl.ys (v := Value.pointer (some (ela pa 0))) rfl rfl (Ys.byMem fun w_ h_ => Ys.indexAddr (k := .i64) (a := pa) (len := ps.length) (cap := pcap) (i := 0) (sz := 1) rfl ma0 ma0 Try.runUnderlying128 Try.sizeOf25 ma1 ma1 ((hpa.mem0 h_).here ma17)) (Wl.ys (v := Value.slice ((ps.getD 0 default).a) ((ps.getD 0 default).xs.length) ((ps.getD 0 default).cap)) rfl rfl (Ys.ld (a := ela pa 0) rfl ma0 Try.isAgg25 (fun w_ h_ => (hpa.mem0 h_).ld (mc_get default ma8))) ?_))))
    have hb48 := jn_el (ps := ps) (k := 0) ma1
    refine Wl.ht rfl (Ht.copy (dl := (jn (ps.take k)).length) (dc := (jn (ps.take k)).length) (m := (ps.getD 0 default).xs.length) (q := (ps.getD 0 default).xs.length) (sz := 1) (o' := 0) (i := 0) (j := 0) (e := 5) (ii := (Try.prog.info? 5).getD default) (b := mz42.b) (t := 5) (xv := Value.slice ((ps.getD 0 default).a) ((ps.getD 0 default).xs.length) ((ps.getD 0 default).cap)) (cs := mc b8 mz42.zs) (news := mc b8 ((ps.getD 0 default).xs)) (cs' := mc b8 (mz42.zs.take 0 ++ ((ps.getD 0 default).xs) ++ mz42.zs.drop (0 + ((ps.getD 0 default).xs).length))) (LL' := [[cb mz42.b (mc b8 (mz42.zs.take 0 ++ ((ps.getD 0 default).xs) ++ mz42.zs.drop (0 + ((ps.getD 0 default).xs).length))) 5]]) rfl rfl ma0 ma0 ma0 ma0 ma0 rfl rfl (fun _ => rfl) (by show min _ _ = _; first | omega | (simp; omega)) (Src.at (a := (ps.getD 0 default).a) ma6 (fun w_ h_ => ((hp _ (getD_in ma1)).mem0 h_))) ma19 (mc_one (fun _ => rfl) _) (mc_put (g := b8) mz42.zs ((ps.getD 0 default).xs) 0) rfl) (fun _ => Wl.run 1 ma0 (Wl.nil (hK47 _ _ _ (W.seq (fun K49 hK49 => ?_)))))
    refine W.seq (fun K50 hK50 => W.region (Wl.run 1 ma0 (Wl.ys (v := Value.slice (sla pa pcap 1 1) (ps.length - 1) (pcap - 1)) rfl rfl (Ys.sliceL (a := pa) (len := ps.length) (cap := pcap) (sz := 1) (k := .i64) (i := 1) rfl ma0 ma0 Try.runUnderlying128 Try.sizeOf25 ma1 ma1) (Wl.run 2 ma0 ?_))))
    refine Wl.nil (hK50 _ _ _ (W.block (W.loop2 [1, 8, 9, 70, 71, 72] (fun (m : Nat) (zs : List UInt8) => [Value.slice none 0 0, Value.slice (some ⟨mz42.b, 0, none⟩) ((jn (ps.take k)).length) ((jn (ps.take k)).length), nV .i64 ((jn (ps.take (m + 1))).length), Value.slice (sla pa pcap 1 1) (ps.length - 1) (pcap - 1), nV .i64 (ps.length - 1), nV .i64 m]) (fun (m : Nat) (zs : List UInt8) => m + 1 ≤ ps.length ∧ zs.length = mz42.zs.length ∧ zs.take (jn (ps.take (m + 1))).length = jn (ps.take (m + 1))) (fun (m : Nat) (zs : List UInt8) => [[cb mz42.b (mc b8 zs) 5]]) (fun (m : Nat) (zs : List UInt8) => ps.length - m) 0 (mz42.zs.take 0 ++ ((ps.getD 0 default).xs) ++ mz42.zs.drop (0 + ((ps.getD 0 default).xs).length)) (Eq.trans (b := ([Value.slice none 0 0, Value.slice (some ⟨mz42.b, 0, none⟩) ((jn (ps.take k)).length) ((jn (ps.take k)).length), nV .i64 ((ps.getD 0 default).xs.length), Value.slice (sla pa pcap 1 1) (ps.length - 1) (pcap - 1), nV .i64 (ps.length - 1), iV .i64 0] : List Value)) ma0 (by rw [Nat.zero_add, jn_take1 ma1]; rfl)) ⟨ma1, (put_len (k := 0) ma1), (by rw [jn_take1 ma1]; simp)⟩ (by rfl) (fun m zs f52 J51 hp53 hJ51 => ?_))))
    obtain ⟨hm, hzl, hzt⟩ := hp53
    have htl2 := jn_take_le ps (m + 1); have htk2 := jn_take_le ps (m + 1 + 1)
    refine W.seq (fun K54 hK54 => W.region (Wl.run 1 ma0 (Wl.nil (hK54 _ _ _ ?_))))
    refine W.seq (fun K55 hK55 => ?_)
    refine W.cond (decide (((m : Nat) : Int) < ((ps.length - 1 : Nat) : Int))) ma0 (fun h56 => ?_) (fun h57 => ?_)
    ·have qh56 := h56; try simp only [zA] at qh56
     refine W.skip' (hK55 _ _ _ (W.seq (fun K58 hK58 => W.block (W.seq (fun K59 hK59 => ?_)))))
     refine W.region (Wl.ys (v := Value.pointer (some (ela (sla pa pcap 1 1) (m * 1)))) rfl rfl (Ys.byMem fun w_ h_ => Ys.indexAddr (k := .i64) (a := sla pa pcap 1 1) (len := ps.length - 1) (cap := pcap - 1) (i := (m : Int)) (sz := 1) rfl ma0 ma0 Try.runUnderlying128 Try.sizeOf25 ma1 ma1 (((hpa.mem0 h_).mdrop pcap 1 ma1).here ma17)) (Wl.ys (v := Value.slice (((ps.drop 1).getD m default).a) (((ps.drop 1).getD m default).xs.length) (((ps.drop 1).getD m default).cap)) rfl rfl (Ys.ld (a := ela (sla pa pcap 1 1) (m * 1)) rfl ma0 Try.isAgg25 (fun w_ h_ => ((hpa.mem0 h_).mdrop pcap 1 ma1).ld (mc_get1 default ma8))) ?_))
     have hb60 := jn_el1 (ps := ps) (k := m) ma1
     refine Wl.run 1 ma0 (Wl.nil (hK59 _ _ _ (W.seq (fun K61 hK61 => W.region ?_))))
     refine Wl.run 3 ma0 (Wl.ys (v := Value.slice (sla (some ⟨mz42.b, 0, none⟩) ((jn (ps.take k)).length) ((jn (ps.take (m + 1))).length) 1) (((jn (ps.take k)).length) - ((jn (ps.take (m + 1))).length)) (((jn (ps.take k)).length) - ((jn (ps.take (m + 1))).length))) rfl rfl (Ys.sliceL (a := some ⟨mz42.b, 0, none⟩) (len := (jn (ps.take k)).length) (cap := (jn (ps.take k)).length) (sz := 1) (k := .i64) (i := ((jn (ps.take (m + 1))).length : Int)) rfl ma0 ma0 Try.runUnderlying25 Try.sizeOf5 ma1 ma1) (Wl.run 1 ma0 (Wl.ht rfl (Ht.copySub (cap := ((jn (ps.take k)).length)) (dl := ((jn (ps.take k)).length) - ((jn (ps.take (m + 1))).length)) (dc := ((jn (ps.take k)).length) - ((jn (ps.take (m + 1))).length)) (m := 0) (q := 0) (sz := 1) (o' := (jn (ps.take (m + 1))).length) (i := 0) (j := 0) (e := 5) (ii := (Try.prog.info? 5).getD default) (b := mz42.b) (t := 5) (xv := Value.slice none 0 0) (cs := mc b8 zs) (news := mc b8 []) (cs' := mc b8 (zs.take ((jn (ps.take (m + 1))).length) ++ [] ++ zs.drop ((jn (ps.take (m + 1))).length + [].length))) (LL' := [[cb mz42.b (mc b8 (zs.take ((jn (ps.take (m + 1))).length) ++ [] ++ zs.drop ((jn (ps.take (m + 1))).length + [].length))) 5]]) rfl rfl ma0 ma0 ma0 ma0 ma1 ma0 rfl rfl (fun _ => rfl) (by show min _ _ = _; first | omega | (simp; omega)) (Src.at (a := none) (by simp [mc]) (fun _ _ => At.nil _ _)) ma6 ma19 (mc_one (fun _ => rfl) _) (mc_put1 (g := b8) zs [] ((jn (ps.take (m + 1))).length)) rfl) (fun _ => Wl.ys (v := nV .i64 (((jn (ps.take (m + 1))).length) + 0)) rfl rfl ((Ys.pure (v := .int .i64 (iadd .i64 ((jn (ps.take (m + 1))).length : Int) 0)) (fun _ => kr)).conseq (int_congr (iadd_eq ma1 ma1 ma1))) ?_))))
     refine Wl.run 1 ma0 (Wl.nil (hK61 _ _ _ (W.prune' [1, 8, 9, 11, 70, 71, 72] [Value.slice none 0 0, Value.slice (some ⟨mz42.b, 0, none⟩) ((jn (ps.take k)).length) ((jn (ps.take k)).length), nV .i64 (((jn (ps.take (m + 1))).length) + 0), Value.slice (((ps.drop 1).getD m default).a) (((ps.drop 1).getD m default).xs.length) (((ps.drop 1).getD m default).cap), Value.slice (sla pa pcap 1 1) (ps.length - 1) (pcap - 1), nV .i64 (ps.length - 1), nV .i64 m] ma0 (fun f62 => W.region ?_))))
     refine Wl.run 3 ma0 (Wl.ys (v := Value.slice (sla (some ⟨mz42.b, 0, none⟩) ((jn (ps.take k)).length) (((jn (ps.take (m + 1))).length) + 0) 1) (((jn (ps.take k)).length) - (((jn (ps.take (m + 1))).length) + 0)) (((jn (ps.take k)).length) - (((jn (ps.take (m + 1))).length) + 0))) rfl rfl (Ys.sliceL (a := some ⟨mz42.b, 0, none⟩) (len := (jn (ps.take k)).length) (cap := (jn (ps.take k)).length) (sz := 1) (k := .i64) (i := ((((jn (ps.take (m + 1))).length) + 0 : Nat) : Int)) rfl ma0 ma0 Try.runUnderlying25 Try.sizeOf5 ma1 ma1) (Wl.run 1 ma0 (Wl.ht rfl (Ht.copySub (cap := ((jn (ps.take k)).length)) (dl := ((jn (ps.take k)).length) - (((jn (ps.take (m + 1))).length) + 0)) (dc := ((jn (ps.take k)).length) - (((jn (ps.take (m + 1))).length) + 0)) (m := ((ps.drop 1).getD m default).xs.length) (q := ((ps.drop 1).getD m default).xs.length) (sz := 1) (o' := ((jn (ps.take (m + 1))).length) + 0) (i := 0) (j := 0) (e := 5) (ii := (Try.prog.info? 5).getD default) (b := mz42.b) (t := 5) (xv := Value.slice (((ps.drop 1).getD m default).a) (((ps.drop 1).getD m default).xs.length) (((ps.drop 1).getD m default).cap)) (cs := mc b8 (zs.take ((jn (ps.take (m + 1))).length) ++ [] ++ zs.drop ((jn (ps.take (m + 1))).length + [].length))) (news := mc b8 (((ps.drop 1).getD m default).xs)) (cs' := mc b8 ((zs.take ((jn (ps.take (m + 1))).length) ++ [] ++ zs.drop ((jn (ps.take (m + 1))).length + [].length)).take (((jn (ps.take (m + 1))).length) + 0) ++ (((ps.drop 1).getD m default).xs) ++ (zs.take ((jn (ps.take (m + 1))).length) ++ [] ++ zs.drop ((jn (ps.take (m + 1))).length + [].length)).drop (((jn (ps.take (m + 1))).length) + 0 + (((ps.drop 1).getD m default).xs).length))) (LL' := [[cb mz42.b (mc b8 ((zs.take ((jn (ps.take (m + 1))).length) ++ [] ++ zs.drop ((jn (ps.take (m + 1))).length + [].length)).take (((jn (ps.take (m + 1))).length) + 0) ++ (((ps.drop 1).getD m default).xs) ++ (zs.take ((jn (ps.take (m + 1))).length) ++ [] ++ zs.drop ((jn (ps.take (m + 1))).length + [].length)).drop (((jn (ps.take (m + 1))).length) + 0 + (((ps.drop 1).getD m default).xs).length))) 5]]) rfl rfl ma0 ma0 ma0 ma0 ma1 ma0 rfl rfl (fun _ => rfl) (by show min _ _ = _; first | omega | (simp; omega)) (Src.at (a := ((ps.drop 1).getD m default).a) ma6 (fun w_ h_ => ((hp _ (by rw [getD_drop1]; exact getD_in ma1)).mem0 h_))) ma6 ma19 (mc_one (fun _ => rfl) _) (mc_put1 (g := b8) (zs.take ((jn (ps.take (m + 1))).length) ++ [] ++ zs.drop ((jn (ps.take (m + 1))).length + [].length)) (((ps.drop 1).getD m default).xs) (((jn (ps.take (m + 1))).length) + 0)) rfl) (fun _ => Wl.ys (v := nV .i64 ((((jn (ps.take (m + 1))).length) + 0) + (((ps.drop 1).getD m default).xs.length))) rfl rfl ((Ys.pure (v := .int .i64 (iadd .i64 ((((jn (ps.take (m + 1))).length) + 0 : Nat) : Int) (((ps.drop 1).getD m default).xs.length : Int))) (fun _ => kr)).conseq (int_congr (iadd_eq ma1 ma1 ma1))) ?_))))
     refine Wl.run 1 ma0 (Wl.nil (hK58 _ _ _ (W.region (Wl.ys (v := nV .i64 (m + 1)) rfl rfl ((Ys.pure (v := .int .i64 (iadd .i64 (m : Int) 1)) (fun _ => kr)).conseq (int_congr (iadd_eq ma1 ma1 ma1))) ?_))))
     refine Wl.run 1 ma0 (Wl.nil ?_)
     have hjs := congrArg List.length (jn_step (ps := ps) (k := m + 1) ma1); rw [List.length_append] at hjs
     refine fun w_ h_ => hJ51 (m + 1) ((zs.take ((jn (ps.take (m + 1))).length) ++ [] ++ zs.drop ((jn (ps.take (m + 1))).length + [].length)).take (((jn (ps.take (m + 1))).length) + 0) ++ (((ps.drop 1).getD m default).xs) ++ (zs.take ((jn (ps.take (m + 1))).length) ++ [] ++ zs.drop ((jn (ps.take (m + 1))).length + [].length)).drop (((jn (ps.take (m + 1))).length) + 0 + (((ps.drop 1).getD m default).xs).length)) _ w_ ma1 ⟨ma1, (by rw [getD_drop1, Nat.add_zero (jn (ps.take (m + 1))).length, put_nil hzt]; exact (put_len ma1).trans hzl), (by rw [getD_drop1, Nat.add_zero (jn (ps.take (m + 1))).length, put_nil hzt, hjs, put_take hzt ma1 ma1, jn_step (k := m + 1) ma1])⟩ ?_ h_
     refine Eq.trans (b := ([Value.slice none 0 0, Value.slice (some ⟨mz42.b, 0, none⟩) ((jn (ps.take k)).length) ((jn (ps.take k)).length), nV .i64 ((((jn (ps.take (m + 1))).length) + 0) + (((ps.drop 1).getD m default).xs.length)), Value.slice (sla pa pcap 1 1) (ps.length - 1) (pcap - 1), nV .i64 (ps.length - 1), nV .i64 (m + 1)] : List Value)) ma0 (by rw [getD_drop1, Nat.add_zero, hjs])
    ·have qh57 := h57; try simp only [zA] at qh57
     refine W.exit (hK49 _ _ _ (W.seq (fun K63 hK63 => W.region (Wl.run 2 ma0 ?_))))
     refine Wl.nil (hK63 _ _ _ (W.ret ?_))
     show ∀ w_, _ → bodyPostM (fence none) 0 Try.prog Try.f81 _ Exit.ret _ w_
     exact fun w_ hS_ => fin_ret (ret1 rfl (RV.tmp (v := Value.slice (some ⟨mz42.b, 0, none⟩) ((jn (ps.take k)).length) ((jn (ps.take k)).length)) ma0) hS_ ⟨⟨false, mz42.b, (jn ps).length, mc b8 (zs.drop (jn ps).length)⟩, ⟨⟨fun h => (by cases h), Nat.le_refl _, by simp only [maxLen]; omega, by simp only [mc_len, List.length_drop]; omega⟩, fun _ => rfl⟩, congrArg Ending.returned ((by simp only [hke]; rfl)), (Mem.cast (by have he := jn_all (ps := ps) (k := m + 1) ma1; rw [he] at hzt; show [[cb _ (mc b8 zs) 5]] = [[cb _ (mc b8 (jn ps) ++ mc b8 (zs.drop (jn ps).length)) 5]]; rw [mc_app]; conv => lhs; rw [← List.take_append_drop (jn ps).length zs, hzt]) hS_)⟩)
end Go.Proofs.Ytejeafjkhomdoaa.Oct
