/-
  OctetJoins. No condition.
-/
import Derived.Test.YtegeijaicjackaaOct17
set_option linter.unusedVariables false
set_option linter.unusedSimpArgs false
set_option maxRecDepth 20000
namespace Go.Proofs.Ytegeijaicjackaa.Oct
open Go.RowKit Base
attribute [local irreducible] Ys Yc Ht HtIn Wl Wd W Mem pf dpf

/-- Owned texts: where each lies, what it is. -/
abbrev slq (q : FS × List UInt8) : Value := .slice q.1.a q.2.length q.1.cap
def fl (qs : List (FS × List UInt8)) : List Blk := qs.flatMap fun q => q.1.seg 5 (byc q.2)
instance : Inhabited FS := ⟨⟨true, 0, 0, []⟩⟩
def toSV (q : FS × List UInt8) : SV := ⟨q.1.a, q.2, q.1.cap⟩
theorem slq_slv (qs : List (FS × List UInt8)) : mc slq qs = mc slv (qs.map toSV) := by simp [mc, toSV]
theorem jn_SV (qs : List (FS × List UInt8)) : jn (qs.map toSV) = (qs.map (·.2)).flatten := by unfold jn; rw [List.map_map]; rfl
theorem fl_at {w0 w : World} {M : List Nat} {LL : List (List Blk)} {i : Nat} {qs : List (FS × List UInt8)} (hm : Mem w0 M LL w) (hi : LL[i]? = some (fl qs)) (hok : ∀ q ∈ qs, q.1.ok 1 q.2.length) : ∀ q ∈ qs, At w q.1.a (byc q.2) := fun q hq => by
  cases e : q.1.nil with
  | true =>
    have h1 := ((hok q hq).h0 e).1
    rw [List.length_eq_zero_iff.1 h1]; exact At.nil _ _
  | false =>
    have hmem : cb q.1.b (byc q.2 ++ q.1.rest) 5 ∈ fl qs := by
      unfold fl; rw [List.mem_flatMap]; exact ⟨q, hq, by rw [FS.seg_own e]; exact List.mem_singleton.2 rfl⟩
    obtain ⟨j, hj⟩ := List.getElem?_of_mem hmem
    rw [FS.a_own e]
    exact At.lit (j := j) (t := 5) hm hi hj
theorem qs_in {qs : List (FS × List UInt8)} {k : Nat} (h : k < qs.length) : qs.getD k default ∈ qs := by
  rw [List.getD_eq_getElem?_getD, List.getElem?_eq_getElem h]; exact List.getElem_mem h
theorem qs_xs {qs : List (FS × List UInt8)} {ps : List SV} {k : Nat} (h : qs.map (·.2) = ps.map (·.xs)) (hk : k < ps.length) : (qs.getD k default).2 = (ps.getD k default).xs := by
  have hl : qs.length = ps.length := by simpa using congrArg List.length h
  have := congrArg (fun l => l[k]?) h
  simp [List.getElem?_map] at this
  rw [List.getD_eq_getElem?_getD, List.getD_eq_getElem?_getD]
  rw [List.getElem?_eq_getElem hk, List.getElem?_eq_getElem (by omega)] at this ⊢
  simpa using this
theorem qs_step {qs : List (FS × List UInt8)} {ps : List SV} {k : Nat} {g : FS} (h : qs.map (·.2) = (ps.take k).map (·.xs)) (hk : k < ps.length) : (qs ++ [(g, (ps.getD k default).xs)]).map (·.2) = (ps.take (k + 1)).map (·.xs) := by
  rw [List.map_append, h, List.take_add_one, List.map_append]; simp [hk]
theorem fl_snoc (qs : List (FS × List UInt8)) (g : FS) (xs : List UInt8) : fl (qs ++ [(g, xs)]) = fl qs ++ g.seg 5 (byc xs) := by simp [fl]
theorem ok_snoc {qs : List (FS × List UInt8)} {g : FS} {xs : List UInt8} (h : ∀ q ∈ qs, q.1.ok 1 q.2.length) (h1 : g.ok 1 xs.length) : ∀ q ∈ qs ++ [(g, xs)], q.1.ok 1 q.2.length := fun q hq => by
  rcases List.mem_append.1 hq with hq | hq
  · exact h q hq
  · obtain rfl := List.mem_singleton.1 hq; exact h1
theorem joins_c (ps : List SV) (pa : Option Addr) (pcap : Nat) (w : World) (hpa : At w pa (mc slv ps)) (hp : ∀ p ∈ ps, At w p.a (byc p.xs)) (hpl : ∀ p ∈ ps, p.xs.length ≤ 9223372036854775807) (hpc : ps.length ≤ pcap) (hn : ps.length ≤ 9223372036854775807) : Calls Try.prog 5 #[Value.slice pa ps.length pcap] w (Ret w (.bool true)) := by
  refine calls_W (M := []) (LL := []) (n := 71) Try.func5 rfl rfl (by simp) (Mem.refl _) ?_
  refine W.seq (fun K1 hK1 => ?_)
  refine W.region ?_
  refine Wl.run 1 (by kernel_rfl) ?_
  refine Wl.nil ?_
  refine hK1 _ _ _ ?_
  refine W.seq (fun K2 hK2 => ?_)
  refine W.seq (fun K3 hK3 => ?_)
  refine W.region ?_
  refine Wl.yc (v := Value.bool true) rfl rfl (Yc.call (k := 13) (args := #[]) (fun _ => by kernel_rfl) (fun w_ hm_ => speaks_c _)) ?_
  refine Wl.run 1 (by kernel_rfl) ?_
  refine Wl.nil ?_
  refine hK3 _ _ _ ?_
  refine W.prune' [0, 11] [Value.slice pa ps.length pcap, Value.bool false] (by kernel_rfl) (fun f4 => ?_)
  refine W.condF (by kernel_rfl) ?_
  refine W.skip' ?_
  refine hK2 _ _ _ ?_
  refine W.prune' [0] [Value.slice pa ps.length pcap] (by kernel_rfl) (fun f5 => ?_)
  refine W.seq (fun K6 hK6 => ?_)
  refine W.seq (fun K7 hK7 => ?_)
  refine W.region ?_
  refine Wl.run 3 (by kernel_rfl) ?_
  refine Wl.nil ?_
  refine hK7 _ _ _ ?_
  refine W.prune' [0, 14] [Value.slice pa ps.length pcap, Value.bool (decide (((ps.length : Nat) : Int) > 100))] (by kernel_rfl) (fun f8 => ?_)
  refine W.cond (decide (((ps.length : Nat) : Int) > 100)) (by kernel_rfl) (fun h9 => ?_) (fun h10 => ?_)
  · have qh9 := h9; try simp only [Bool.and_eq_true, Bool.or_eq_true, Bool.not_eq_true', Bool.not_eq_false', Bool.and_eq_false_iff, Bool.or_eq_false_iff, decide_eq_true_eq, decide_eq_false_iff_not, beq_iff_eq, bne_iff_ne, beq_eq_false_iff_ne, bne_eq_false_iff_eq] at qh9
    refine W.seq (fun K11 hK11 => ?_)
    refine W.region ?_
    refine Wl.run 1 (by kernel_rfl) ?_
    refine Wl.nil ?_
    refine hK11 _ _ _ ?_
    refine W.ret ?_
    show ∀ w_, _ → bodyPostM (fence none) 0 Try.prog Try.f5 _ Exit.ret _ w_
    exact fun w_ hS_ => fin_ret (ret1 rfl (RV.tmp (v := Value.bool true) (by kernel_rfl)) hS_ ⟨rfl, hS_.below⟩)
  · have qh10 := h10; try simp only [Bool.and_eq_true, Bool.or_eq_true, Bool.not_eq_true', Bool.not_eq_false', Bool.and_eq_false_iff, Bool.or_eq_false_iff, decide_eq_true_eq, decide_eq_false_iff_not, beq_iff_eq, bne_iff_ne, beq_eq_false_iff_ne, bne_eq_false_iff_eq] at qh10
    refine W.skip' ?_
    refine hK6 _ _ _ ?_
    refine W.prune' [0] [Value.slice pa ps.length pcap] (by kernel_rfl) (fun f12 => ?_)
    refine W.seq (fun K13 hK13 => ?_)
    refine W.region ?_
    refine Wl.ht rfl (Ht.made (mk := fun b_ => .slice (some ⟨b_, 0, none⟩) 0 0) (t := 22) (cs := []) rfl (fun _ => by kernel_rfl)) (fun p15 => ?_)
    refine Wl.run 2 (by kernel_rfl) ?_
    refine Wl.nil ?_
    refine hK13 _ _ _ ?_
    refine W.prune' [0, 3, 4] [Value.slice pa ps.length pcap, Value.slice (some ⟨p15, 0, none⟩) 0 0, Value.string (bstr [])] (by kernel_rfl) (fun f14 => ?_)
    refine W.seq (fun K15 hK15 => ?_)
    refine W.seq (fun K16 hK16 => ?_)
    refine W.conseq (S' := Mem w [] [fl [], [cb p15 [] 22]]) (fun _ h_ => Mem.push h_) ?_
    refine W.region ?_
    refine Wl.run 3 (by kernel_rfl) ?_
    refine Wl.nil ?_
    refine hK16 _ _ _ ?_
    refine W.prune' [0, 3, 4, 16, 17, 18] [Value.slice pa ps.length pcap, Value.slice (some ⟨p15, 0, none⟩) 0 0, Value.string (bstr []), Value.slice pa ps.length pcap, Value.int .i64 ((ps.length : Nat) : Int), Value.int .i64 0] (by kernel_rfl) (fun f17 => ?_)
    refine W.block ?_
    refine W.loop3 [0, 3, 4, 16, 17, 18] (fun (k : Nat) (G : FS) (qs : List (FS × List UInt8)) => [Value.slice pa ps.length pcap, Value.slice G.a qs.length G.cap, Value.string (bstr (jn (ps.take k))), Value.slice pa ps.length pcap, Value.int .i64 ((ps.length : Nat) : Int), Value.int .i64 ((k : Nat) : Int)]) (fun (k : Nat) (G : FS) (qs : List (FS × List UInt8)) => k ≤ ps.length ∧ (jn (ps.take k)).length ≤ 1000 * k ∧ G.ok 1 qs.length ∧ qs.map (·.2) = (ps.take k).map (·.xs) ∧ ∀ q ∈ qs, q.1.ok 1 q.2.length) (fun (k : Nat) (G : FS) (qs : List (FS × List UInt8)) => [fl qs, G.seg 22 (mc slq qs)]) (fun (k : Nat) (G : FS) (qs : List (FS × List UInt8)) => ps.length - k) 0 ⟨false, p15, 0, []⟩ [] (Eq.trans (b := ([Value.slice pa ps.length pcap, Value.slice (some ⟨p15, 0, none⟩) 0 0, Value.string (bstr []), Value.slice pa ps.length pcap, Value.int .i64 ((ps.length : Nat) : Int), Value.int .i64 0] : List Value)) (by kernel_rfl) (by simp [jn, FS.a, bstr]; try rfl)) ⟨(Nat.zero_le _), (by simp [jn]), (FS.lit_ok (by decide)), rfl, (fun _ h => by cases h)⟩ (by simp [mc, fl, FS.seg]) (fun k G qs f19 J18 hp20 hJ18 => ?_)
    obtain ⟨hk, hkl, okG, hqs, hqk⟩ := hp20
    have hql : qs.length = k := (by have h_ := congrArg List.length hqs; simp at h_; omega)
    refine W.seq (fun K21 hK21 => ?_)
    refine W.region ?_
    refine Wl.run 1 (by kernel_rfl) ?_
    refine Wl.nil ?_
    refine hK21 _ _ _ ?_
    refine W.seq (fun K22 hK22 => ?_)
    refine W.cond (decide (((k : Nat) : Int) < ((ps.length : Nat) : Int))) (by kernel_rfl) (fun h23 => ?_) (fun h24 => ?_)
    · have qh23 := h23; try simp only [Bool.and_eq_true, Bool.or_eq_true, Bool.not_eq_true', Bool.not_eq_false', Bool.and_eq_false_iff, Bool.or_eq_false_iff, decide_eq_true_eq, decide_eq_false_iff_not, beq_iff_eq, bne_iff_ne, beq_eq_false_iff_ne, bne_eq_false_iff_eq] at qh23
      refine W.skip' ?_
      refine hK22 _ _ _ ?_
      refine W.prune' [0, 3, 4, 16, 17, 18] [Value.slice pa ps.length pcap, Value.slice G.a qs.length G.cap, Value.string (bstr (jn (ps.take k))), Value.slice pa ps.length pcap, Value.int .i64 ((ps.length : Nat) : Int), Value.int .i64 ((k : Nat) : Int)] (by kernel_rfl) (fun f25 => ?_)
      refine W.seq (fun K26 hK26 => ?_)
      refine W.block ?_
      refine W.seq (fun K27 hK27 => ?_)
      refine W.region ?_
      refine Wl.ys (v := Value.pointer (some (ela pa (k * 1)))) rfl rfl (Ys.byMem fun w_ h_ => Ys.indexAddr (k := .i64) (a := pa) (len := ps.length) (cap := pcap) (i := ((k : Nat) : Int)) (sz := 1) rfl (by kernel_rfl) (by kernel_rfl) Try.runUnderlying40 Try.sizeOf22 (by omega) (by omega) ((hpa.mem0 h_).here (by rw [mc_len]; first | omega | (simp; omega)))) ?_
      refine Wl.ys (v := Value.slice ((ps.getD k default).a) ((ps.getD k default).xs.length) ((ps.getD k default).cap)) rfl rfl (Ys.ld (a := ela pa (k * 1)) rfl (by kernel_rfl) Try.isAgg22 (fun w_ h_ => (hpa.mem0 h_).ld (mc_get1 default (by first | omega | (simp; omega))))) ?_
      have hb28 := hpl _ (getD_in (ps := ps) (k := k) (by omega))
      refine Wl.run 1 (by kernel_rfl) ?_
      refine Wl.nil ?_
      refine hK27 _ _ _ ?_
      refine W.prune' [0, 3, 4, 6, 16, 17, 18] [Value.slice pa ps.length pcap, Value.slice G.a qs.length G.cap, Value.string (bstr (jn (ps.take k))), Value.slice ((ps.getD k default).a) ((ps.getD k default).xs.length) ((ps.getD k default).cap), Value.slice pa ps.length pcap, Value.int .i64 ((ps.length : Nat) : Int), Value.int .i64 ((k : Nat) : Int)] (by kernel_rfl) (fun f29 => ?_)
      refine W.seq (fun K30 hK30 => ?_)
      refine W.seq (fun K31 hK31 => ?_)
      refine W.region ?_
      refine Wl.run 3 (by kernel_rfl) ?_
      refine Wl.nil ?_
      refine hK31 _ _ _ ?_
      refine W.prune' [0, 3, 4, 6, 16, 17, 18, 24] [Value.slice pa ps.length pcap, Value.slice G.a qs.length G.cap, Value.string (bstr (jn (ps.take k))), Value.slice ((ps.getD k default).a) ((ps.getD k default).xs.length) ((ps.getD k default).cap), Value.slice pa ps.length pcap, Value.int .i64 ((ps.length : Nat) : Int), Value.int .i64 ((k : Nat) : Int), Value.bool (decide ((((ps.getD k default).xs.length : Nat) : Int) > 1000))] (by kernel_rfl) (fun f32 => ?_)
      refine W.cond (decide ((((ps.getD k default).xs.length : Nat) : Int) > 1000)) (by kernel_rfl) (fun h33 => ?_) (fun h34 => ?_)
      · have qh33 := h33; try simp only [Bool.and_eq_true, Bool.or_eq_true, Bool.not_eq_true', Bool.not_eq_false', Bool.and_eq_false_iff, Bool.or_eq_false_iff, decide_eq_true_eq, decide_eq_false_iff_not, beq_iff_eq, bne_iff_ne, beq_eq_false_iff_ne, bne_eq_false_iff_eq] at qh33
        refine W.seq (fun K35 hK35 => ?_)
        refine W.region ?_
        refine Wl.run 1 (by kernel_rfl) ?_
        refine Wl.nil ?_
        refine hK35 _ _ _ ?_
        refine W.ret ?_
        show ∀ w_, _ → bodyPostM (fence none) 0 Try.prog Try.f5 _ Exit.ret _ w_
        exact fun w_ hS_ => fin_ret (ret1 rfl (RV.tmp (v := Value.bool true) (by kernel_rfl)) hS_ ⟨rfl, hS_.below⟩)
      · have qh34 := h34; try simp only [Bool.and_eq_true, Bool.or_eq_true, Bool.not_eq_true', Bool.not_eq_false', Bool.and_eq_false_iff, Bool.or_eq_false_iff, decide_eq_true_eq, decide_eq_false_iff_not, beq_iff_eq, bne_iff_ne, beq_eq_false_iff_ne, bne_eq_false_iff_eq] at qh34
        refine W.skip' ?_
        refine hK30 _ _ _ ?_
        refine W.prune' [0, 3, 4, 6, 16, 17, 18] [Value.slice pa ps.length pcap, Value.slice G.a qs.length G.cap, Value.string (bstr (jn (ps.take k))), Value.slice ((ps.getD k default).a) ((ps.getD k default).xs.length) ((ps.getD k default).cap), Value.slice pa ps.length pcap, Value.int .i64 ((ps.length : Nat) : Int), Value.int .i64 ((k : Nat) : Int)] (by kernel_rfl) (fun f36 => ?_)
        refine W.seq (fun K37 hK37 => ?_)
        refine W.region ?_
        refine Wl.run 1 (by kernel_rfl) ?_
        refine Wl.ht rfl (Ht.made (mk := fun b_ => .slice (some ⟨b_, 0, none⟩) 0 0) (t := 5) (cs := []) rfl (fun _ => by kernel_rfl)) (fun p26 => ?_)
        refine Wl.run 1 (by kernel_rfl) ?_
        refine Wl.ht rfl (Ht.append (eu := 5) (xv := Value.slice ((ps.getD k default).a) ((ps.getD k default).xs.length) ((ps.getD k default).cap)) (i := 0) (g := (FS.mk false p26 0 [])) (e := 5) (ii := (Try.prog.info? 5).getD default) (z := Value.int .u8 0) (sz := 1) (bytes := 1) (nn := 0) (m := (ps.getD k default).xs.length) (k := (ps.getD k default).xs.length) (xs := mc b8 []) (news := mc b8 ((ps.getD k default).xs)) (cs' := mc b8 ((ps.getD k default).xs)) (Lo := fun g38 => [g38.seg 5 (mc b8 ((ps.getD k default).xs)), fl qs, G.seg 22 (mc slq qs)]) rfl rfl (by kernel_rfl) (by kernel_rfl) (by kernel_rfl) (by kernel_rfl) (by kernel_rfl) (by kernel_rfl) (by kernel_rfl) (by kernel_rfl) (by kernel_rfl) rfl (FS.lit_ok (by decide)) (by first | rfl | simp [mc, be_len]) (fun _ => rfl) (Src.at (a := (ps.getD k default).a) (by first | rfl | (simp [mc, be_len]; done) | (simp [mc, be_len]; omega)) (fun w_ h_ => ((hp _ (getD_in (by omega))).mem0 h_))) (by first | rfl | (simp [mc, be_len]; done) | (simp [mc, be_len]; omega)) (mc_one (fun _ => rfl) _) (by first | omega | (simp; done) | (simp; omega)) (by simp only [maxLen]; first | omega | (simp; omega)) (by first | omega | (simp; omega)) rfl (fun _ => rfl)) (fun x42 => ?_)
        obtain ⟨g38, ok39, hn40, hn41⟩ := x42
        refine Wl.castL (LL' := [g38.seg 5 (mc b8 ((ps.getD k default).xs)), fl qs, G.seg 22 (mc slq qs)]) rfl ?_
        refine Wl.ht rfl (Ht.made (mk := fun b_ => .slice (some ⟨b_, 0, none⟩) 1 1) (t := 22) (cs := [Value.slice g38.a ((ps.getD k default).xs.length) g38.cap]) rfl (fun _ => by kernel_rfl)) (fun p29 => ?_)
        refine Wl.ht rfl (Ht.append (eu := 22) (xv := Value.slice (some ⟨p29, 0, none⟩) 1 1) (i := 3) (g := G) (e := 22) (ii := (Try.prog.info? 22).getD default) (z := Value.slice none 0 0) (sz := 1) (bytes := 24) (nn := qs.length) (m := 1) (k := (qs ++ [(g38, (ps.getD k default).xs)]).length) (xs := mc slq qs) (news := mc slq [(g38, (ps.getD k default).xs)]) (cs' := mc slq (qs ++ [(g38, (ps.getD k default).xs)])) (Lo := fun g43 => [[cb p29 [Value.slice g38.a ((ps.getD k default).xs.length) g38.cap] 22], g38.seg 5 (mc b8 ((ps.getD k default).xs)), fl qs, g43.seg 22 (mc slq (qs ++ [(g38, (ps.getD k default).xs)]))]) rfl rfl (by kernel_rfl) (by kernel_rfl) (by kernel_rfl) (by kernel_rfl) (by kernel_rfl) (by kernel_rfl) (by kernel_rfl) (by kernel_rfl) (by kernel_rfl) rfl okG (mc_len1 _) (fun _ => rfl) (Src.at (a := some ⟨p29, 0, none⟩) (by first | rfl | (simp [mc, be_len]; done) | (simp [mc, be_len]; omega)) (fun w_ h_ => (At.lit0 (i := 0) (j := 0) (t := 22) (b := p29) h_ rfl rfl))) (by first | rfl | (simp [mc, be_len]; done) | (simp [mc, be_len]; omega)) (mc_one (fun _ => rfl) _) (by first | omega | (simp; done) | (simp; omega)) (by simp only [maxLen]; first | omega | (simp; omega)) (by first | omega | (simp; omega)) (mc_app _ _) (fun _ => rfl)) (fun x47 => ?_)
        obtain ⟨g43, ok44, hn45, hn46⟩ := x47
        refine Wl.castL (LL' := [[cb p29 [Value.slice g38.a ((ps.getD k default).xs.length) g38.cap] 22], g38.seg 5 (mc b8 ((ps.getD k default).xs)), fl qs, g43.seg 22 (mc slq (qs ++ [(g38, (ps.getD k default).xs)]))]) rfl ?_
        refine Wl.run 1 (by kernel_rfl) ?_
        refine Wl.nil ?_
        refine hK37 _ _ _ ?_
        refine W.pick (LL' := [g38.seg 5 (mc b8 ((ps.getD k default).xs)), fl qs, g43.seg 22 (mc slq (qs ++ [(g38, (ps.getD k default).xs)]))]) [1, 2, 3] (by decide) rfl ?_
        refine W.prune' [0, 3, 4, 6, 16, 17, 18] [Value.slice pa ps.length pcap, Value.slice g43.a ((qs ++ [(g38, (ps.getD k default).xs)]).length) g43.cap, Value.string (bstr (jn (ps.take k))), Value.slice ((ps.getD k default).a) ((ps.getD k default).xs.length) ((ps.getD k default).cap), Value.slice pa ps.length pcap, Value.int .i64 ((ps.length : Nat) : Int), Value.int .i64 ((k : Nat) : Int)] (by kernel_rfl) (fun f48 => ?_)
        refine W.region ?_
        refine Wl.run 2 (by kernel_rfl) ?_
        refine Wl.ys (v := Value.string (bstr ((ps.getD k default).xs))) rfl rfl (Ys.bytesStr (a := (ps.getD k default).a) (len := (ps.getD k default).xs.length) (cap := (ps.getD k default).cap) (xs := (ps.getD k default).xs) (e := 5) rfl (by kernel_rfl) (by kernel_rfl) (by kernel_rfl) (by kernel_rfl) ((by first | rfl | (simp [be_len]; done) | (simp [be_len]; omega))) (fun w_ h_ => ((hp _ (getD_in (by omega))).mem0 h_))) ?_
        refine Wl.ys (v := Value.string (bstr ((jn (ps.take k)) ++ ((ps.getD k default).xs)))) rfl rfl (Ys.addStr (xs := (jn (ps.take k))) (ys := ((ps.getD k default).xs)) rfl (by kernel_rfl) (by kernel_rfl) (by first | omega | (simp; omega))) ?_
        refine Wl.run 1 (by kernel_rfl) ?_
        refine Wl.nil ?_
        refine hK26 _ _ _ ?_
        refine W.prune' [0, 3, 4, 16, 17, 18] [Value.slice pa ps.length pcap, Value.slice g43.a ((qs ++ [(g38, (ps.getD k default).xs)]).length) g43.cap, Value.string (bstr ((jn (ps.take k)) ++ ((ps.getD k default).xs))), Value.slice pa ps.length pcap, Value.int .i64 ((ps.length : Nat) : Int), Value.int .i64 ((k : Nat) : Int)] (by kernel_rfl) (fun f49 => ?_)
        refine W.region ?_
        refine Wl.ys (v := Value.int .i64 ((k + 1 : Nat) : Int)) rfl rfl ((Ys.pure (v := .int .i64 (iadd .i64 ((k : Nat) : Int) 1)) (fun _ => by kernel_rfl)).conseq (int_congr (iadd_eq (by omega) (by omega) (by omega)))) ?_
        refine Wl.run 1 (by kernel_rfl) ?_
        refine Wl.nil ?_
        have hjs := congrArg List.length (jn_step (ps := ps) (k := k) (by omega)); rw [List.length_append] at hjs
        refine Mem.pickK (LL' := [g43.seg 22 (mc slq (qs ++ [(g38, (ps.getD k default).xs)])), fl qs, g38.seg 5 (mc b8 ((ps.getD k default).xs))]) [2, 1, 0] (by decide) rfl ?_
        refine Mem.flatK (LL' := [g43.seg 22 (mc slq (qs ++ [(g38, (ps.getD k default).xs)])), fl (qs ++ [(g38, (ps.getD k default).xs)])]) (by rw [show fl (qs ++ [(g38, (ps.getD k default).xs)]) = _ from fl_snoc _ _ _]; simp) ?_
        refine fun w_ h_ => hJ18 (k + 1) g43 (qs ++ [(g38, (ps.getD k default).xs)]) _ w_ (by omega) ⟨(by omega), (by omega), (by simpa using ok44), (qs_step hqs (by omega)), (ok_snoc hqk ok39)⟩ ?_ (h_.pick [1, 0] (by decide) rfl)
        refine Eq.trans (b := ([Value.slice pa ps.length pcap, Value.slice g43.a ((qs ++ [(g38, (ps.getD k default).xs)]).length) g43.cap, Value.string (bstr ((jn (ps.take k)) ++ ((ps.getD k default).xs))), Value.slice pa ps.length pcap, Value.int .i64 ((ps.length : Nat) : Int), Value.int .i64 ((k + 1 : Nat) : Int)] : List Value)) (by kernel_rfl) (by rw [jn_step (by omega)]; try simp)
    · have qh24 := h24; try simp only [Bool.and_eq_true, Bool.or_eq_true, Bool.not_eq_true', Bool.not_eq_false', Bool.and_eq_false_iff, Bool.or_eq_false_iff, decide_eq_true_eq, decide_eq_false_iff_not, beq_iff_eq, bne_iff_ne, beq_eq_false_iff_ne, bne_eq_false_iff_eq] at qh24
      refine W.exit ?_
      refine hK15 _ _ _ ?_
      refine W.prune' [0, 3, 4] [Value.slice pa ps.length pcap, Value.slice G.a qs.length G.cap, Value.string (bstr (jn (ps.take k)))] (by kernel_rfl) (fun f50 => ?_)
      refine W.seq (fun K51 hK51 => ?_)
      have hql : qs.length = k := (by have h_ := congrArg List.length hqs; simp at h_; omega)
      have hte : ps.take k = ps := List.take_of_length_le (by omega)
      have hjq : jn (qs.map toSV) = jn ps := (by rw [jn_SV, hqs, hte]; rfl)
      have hjl : (jn (qs.map toSV)).length ≤ 100000 := (by rw [hjq, ← hte]; omega)
      refine W.region ?_
      refine Wl.run 1 (by kernel_rfl) ?_
      refine Wl.ht rfl (Ht.call (β := FS) (k := 23) (args := #[Value.slice G.a qs.length G.cap]) (Lin := []) (Lk := [fl qs, G.seg 22 (mc slq qs)]) (Mi := []) (Lo := fun g52 => [g52.seg 5 (mc b8 (jn (qs.map toSV))), fl qs, G.seg 22 (mc slq qs)]) [] [0, 1] rfl (fun _ => by kernel_rfl) (by decide) rfl rfl rfl (fun w_ hm_ hl_ => (ojoinn_c (qs.map toSV) _ G.a qs.length G.cap (jn (qs.map toSV)).length _ (by simp) rfl rfl (by rw [← slq_slv]; exact (FS.at (i := 1) (t := 22) hm_ rfl (FS.nil_cs okG (mc_len1 _)))) (fun p hp_ => by obtain ⟨q, hq, rfl⟩ := List.mem_map.1 hp_; exact fl_at (i := 0) hm_ rfl hqk q hq) (by omega) (by simp; omega) (by have := okG.le; simpa using this))) (fun _ => rfl)) (fun x55 => ?_)
      obtain ⟨g52, ok53, nn54⟩ := x55
      refine Wl.castL (LL' := [g52.seg 5 (mc b8 (jn (qs.map toSV))), fl qs, G.seg 22 (mc slq qs)]) rfl ?_
      refine Wl.run 1 (by kernel_rfl) ?_
      refine Wl.nil ?_
      refine hK51 _ _ _ ?_
      refine W.prune' [0, 3, 4, 7] [Value.slice pa ps.length pcap, Value.slice G.a qs.length G.cap, Value.string (bstr (jn (ps.take k))), Value.slice g52.a ((jn (qs.map toSV)).length) g52.cap] (by kernel_rfl) (fun f56 => ?_)
      refine W.seq (fun K57 hK57 => ?_)
      refine W.seq (fun K58 hK58 => ?_)
      refine W.region ?_
      refine Wl.run 1 (by kernel_rfl) ?_
      refine Wl.ys (v := Value.string (bstr (jn (qs.map toSV)))) rfl rfl (Ys.bytesStr (a := g52.a) (len := (jn (qs.map toSV)).length) (cap := g52.cap) (xs := jn (qs.map toSV)) (e := 5) rfl (by kernel_rfl) (by kernel_rfl) (by kernel_rfl) (by kernel_rfl) (rfl) (fun w_ h_ => (FS.at (i := 0) (t := 5) h_ rfl (FS.nil_cs ok53 (mc_len1 _))))) ?_
      refine Wl.run 1 (by kernel_rfl) ?_
      refine Wl.ys (v := Value.bool (!((jn (qs.map toSV)) == (jn (ps.take k))))) rfl rfl ((Ys.pure (v := .bool (!((bstr (jn (qs.map toSV))).toList == (bstr (jn (ps.take k))).toList))) (fun _ => by kernel_rfl)).conseq (bool_congr ((congrArg (! ·) (bstr_eq _ _))))) ?_
      refine Wl.nil ?_
      refine hK58 _ _ _ ?_
      refine W.prune' [0, 3, 7, 41] [Value.slice pa ps.length pcap, Value.slice G.a qs.length G.cap, Value.slice g52.a ((jn (qs.map toSV)).length) g52.cap, Value.bool (!((jn (qs.map toSV)) == (jn (ps.take k))))] (by kernel_rfl) (fun f59 => ?_)
      refine W.cond (!((jn (qs.map toSV)) == (jn (ps.take k)))) (by kernel_rfl) (fun h60 => ?_) (fun h61 => ?_)
      · have qh60 := h60; try simp only [Bool.and_eq_true, Bool.or_eq_true, Bool.not_eq_true', Bool.not_eq_false', Bool.and_eq_false_iff, Bool.or_eq_false_iff, decide_eq_true_eq, decide_eq_false_iff_not, beq_iff_eq, bne_iff_ne, beq_eq_false_iff_ne, bne_eq_false_iff_eq] at qh60
        (exfalso; rw [hjq, hte] at h60; simp at h60)
      · have qh61 := h61; try simp only [Bool.and_eq_true, Bool.or_eq_true, Bool.not_eq_true', Bool.not_eq_false', Bool.and_eq_false_iff, Bool.or_eq_false_iff, decide_eq_true_eq, decide_eq_false_iff_not, beq_iff_eq, bne_iff_ne, beq_eq_false_iff_ne, bne_eq_false_iff_eq] at qh61
        refine W.skip' ?_
        refine hK57 _ _ _ ?_
        refine W.prune' [0, 3, 7] [Value.slice pa ps.length pcap, Value.slice G.a qs.length G.cap, Value.slice g52.a ((jn (qs.map toSV)).length) g52.cap] (by kernel_rfl) (fun f62 => ?_)
        refine W.seq (fun K63 hK63 => ?_)
        refine W.seq (fun K64 hK64 => ?_)
        refine W.region ?_
        refine Wl.run 3 (by kernel_rfl) ?_
        refine Wl.nil ?_
        refine hK64 _ _ _ ?_
        refine W.prune' [0, 3, 7, 43, 44] [Value.slice pa ps.length pcap, Value.slice G.a qs.length G.cap, Value.slice g52.a ((jn (qs.map toSV)).length) g52.cap, Value.int .i64 (((jn (qs.map toSV)).length : Nat) : Int), Value.int .i64 0] (by kernel_rfl) (fun f65 => ?_)
        refine W.block ?_
        refine W.loop2 [0, 3, 7, 43, 44] (fun (i : Nat) (zs : List UInt8) => [Value.slice pa ps.length pcap, Value.slice G.a qs.length G.cap, Value.slice g52.a ((jn (qs.map toSV)).length) g52.cap, Value.int .i64 (((jn (qs.map toSV)).length : Nat) : Int), Value.int .i64 ((i : Nat) : Int)]) (fun (i : Nat) (zs : List UInt8) => zs.length = ((jn (qs.map toSV)).length) ∧ i ≤ ((jn (qs.map toSV)).length)) (fun (i : Nat) (zs : List UInt8) => [g52.seg 5 (mc b8 zs), fl qs, G.seg 22 (mc slq qs)]) (fun (i : Nat) (zs : List UInt8) => ((jn (qs.map toSV)).length) - i) 0 (jn (qs.map toSV)) (by kernel_rfl) ⟨(by first | rfl | (simp; done)), (Nat.zero_le _)⟩ (by rfl) (fun i zs f67 J66 hp68 hJ66 => ?_)
        obtain ⟨hzl, hi⟩ := hp68
        refine W.seq (fun K69 hK69 => ?_)
        refine W.region ?_
        refine Wl.run 1 (by kernel_rfl) ?_
        refine Wl.nil ?_
        refine hK69 _ _ _ ?_
        refine W.seq (fun K70 hK70 => ?_)
        refine W.cond (decide (((i : Nat) : Int) < (((jn (qs.map toSV)).length : Nat) : Int))) (by kernel_rfl) (fun h71 => ?_) (fun h72 => ?_)
        · have qh71 := h71; try simp only [Bool.and_eq_true, Bool.or_eq_true, Bool.not_eq_true', Bool.not_eq_false', Bool.and_eq_false_iff, Bool.or_eq_false_iff, decide_eq_true_eq, decide_eq_false_iff_not, beq_iff_eq, bne_iff_ne, beq_eq_false_iff_ne, bne_eq_false_iff_eq] at qh71
          refine W.skip' ?_
          refine hK70 _ _ _ ?_
          refine W.prune' [0, 3, 7, 43, 44] [Value.slice pa ps.length pcap, Value.slice G.a qs.length G.cap, Value.slice g52.a ((jn (qs.map toSV)).length) g52.cap, Value.int .i64 (((jn (qs.map toSV)).length : Nat) : Int), Value.int .i64 ((i : Nat) : Int)] (by kernel_rfl) (fun f73 => ?_)
          refine W.seq (fun K74 hK74 => ?_)
          refine W.block ?_
          refine W.seq (fun K75 hK75 => ?_)
          refine W.region ?_
          refine Wl.run 2 (by kernel_rfl) ?_
          refine Wl.nil ?_
          refine hK75 _ _ _ ?_
          refine W.prune' [0, 3, 7, 8, 43, 44] [Value.slice pa ps.length pcap, Value.slice G.a qs.length G.cap, Value.slice g52.a ((jn (qs.map toSV)).length) g52.cap, Value.int .i64 ((i : Nat) : Int), Value.int .i64 (((jn (qs.map toSV)).length : Nat) : Int), Value.int .i64 ((i : Nat) : Int)] (by kernel_rfl) (fun f76 => ?_)
          refine W.region ?_
          refine Wl.run 2 (by kernel_rfl) ?_
          refine Wl.ys (v := Value.pointer (some (ela g52.a (i * 1)))) rfl rfl (Ys.indexAddr (k := .i64) (a := g52.a) (len := (jn (qs.map toSV)).length) (cap := g52.cap) (i := ((i : Nat) : Int)) (sz := 1) rfl (by kernel_rfl) (by kernel_rfl) Try.runUnderlying22 Try.sizeOf5 (by omega) (by omega) (by rw [FS.a_own (FS.notnil ok53 (by omega))]; rfl)) ?_
          refine Wl.ht rfl (Ht.storeFS (i := 0) (g := g52) (q := i * 1) (ty := 5) (cs := mc b8 zs) (cs' := mc b8 (zs.set i (238 : UInt8))) (v := Value.int .u8 238) (LL' := [g52.seg 5 (mc b8 (zs.set i (238 : UInt8))), fl qs, G.seg 22 (mc slq qs)]) rfl rfl (by kernel_rfl) (by kernel_rfl) Try.sizeOf5 rfl (FS.notnil ok53 (by omega)) rfl (by simp [mc, be_len]; omega) (mc_set1 (g := b8) zs i (238 : UInt8)) rfl) (fun _ => ?_)
          refine Wl.nil ?_
          refine hK74 _ _ _ ?_
          refine W.prune' [0, 3, 7, 43, 44] [Value.slice pa ps.length pcap, Value.slice G.a qs.length G.cap, Value.slice g52.a ((jn (qs.map toSV)).length) g52.cap, Value.int .i64 (((jn (qs.map toSV)).length : Nat) : Int), Value.int .i64 ((i : Nat) : Int)] (by kernel_rfl) (fun f77 => ?_)
          refine W.region ?_
          refine Wl.ys (v := Value.int .i64 ((i + 1 : Nat) : Int)) rfl rfl ((Ys.pure (v := .int .i64 (iadd .i64 ((i : Nat) : Int) 1)) (fun _ => by kernel_rfl)).conseq (int_congr (iadd_eq (by omega) (by omega) (by omega)))) ?_
          refine Wl.run 1 (by kernel_rfl) ?_
          refine Wl.nil ?_
          refine fun w_ h_ => hJ66 (i + 1) (zs.set i (238 : UInt8)) _ w_ (by omega) ⟨(by simpa using hzl), (by omega)⟩ ?_ h_
          kernel_rfl
        · have qh72 := h72; try simp only [Bool.and_eq_true, Bool.or_eq_true, Bool.not_eq_true', Bool.not_eq_false', Bool.and_eq_false_iff, Bool.or_eq_false_iff, decide_eq_true_eq, decide_eq_false_iff_not, beq_iff_eq, bne_iff_ne, beq_eq_false_iff_ne, bne_eq_false_iff_eq] at qh72
          refine W.exit ?_
          refine hK63 _ _ _ ?_
          refine W.pick (LL' := [fl qs, G.seg 22 (mc slq qs)]) [1, 2] (by decide) rfl ?_
          refine W.prune' [0, 3] [Value.slice pa ps.length pcap, Value.slice G.a qs.length G.cap] (by kernel_rfl) (fun f78 => ?_)
          refine W.seq (fun K79 hK79 => ?_)
          refine W.seq (fun K80 hK80 => ?_)
          refine W.region ?_
          refine Wl.run 3 (by kernel_rfl) ?_
          refine Wl.nil ?_
          refine hK80 _ _ _ ?_
          refine W.prune' [0, 3, 52, 53] [Value.slice pa ps.length pcap, Value.slice G.a qs.length G.cap, Value.int .i64 ((qs.length : Nat) : Int), Value.int .i64 0] (by kernel_rfl) (fun f81 => ?_)
          refine W.block ?_
          refine W.loop1 [0, 3, 52, 53] (fun (j : Nat) => [Value.slice pa ps.length pcap, Value.slice G.a qs.length G.cap, Value.int .i64 ((qs.length : Nat) : Int), Value.int .i64 ((j : Nat) : Int)]) (fun (j : Nat) => j ≤ qs.length) (fun (j : Nat) => [fl qs, G.seg 22 (mc slq qs)]) (fun (j : Nat) => qs.length - j) 0 (by kernel_rfl) (by first | omega | trivial | simp) (by rfl) (fun j f83 J82 hp84 hJ82 => ?_)
          have hj := hp84
          refine W.seq (fun K85 hK85 => ?_)
          refine W.region ?_
          refine Wl.run 1 (by kernel_rfl) ?_
          refine Wl.nil ?_
          refine hK85 _ _ _ ?_
          refine W.seq (fun K86 hK86 => ?_)
          refine W.cond (decide (((j : Nat) : Int) < ((qs.length : Nat) : Int))) (by kernel_rfl) (fun h87 => ?_) (fun h88 => ?_)
          · have qh87 := h87; try simp only [Bool.and_eq_true, Bool.or_eq_true, Bool.not_eq_true', Bool.not_eq_false', Bool.and_eq_false_iff, Bool.or_eq_false_iff, decide_eq_true_eq, decide_eq_false_iff_not, beq_iff_eq, bne_iff_ne, beq_eq_false_iff_ne, bne_eq_false_iff_eq] at qh87
            refine W.skip' ?_
            refine hK86 _ _ _ ?_
            refine W.prune' [0, 3, 52, 53] [Value.slice pa ps.length pcap, Value.slice G.a qs.length G.cap, Value.int .i64 ((qs.length : Nat) : Int), Value.int .i64 ((j : Nat) : Int)] (by kernel_rfl) (fun f89 => ?_)
            refine W.seq (fun K90 hK90 => ?_)
            refine W.block ?_
            refine W.seq (fun K91 hK91 => ?_)
            refine W.region ?_
            refine Wl.run 2 (by kernel_rfl) ?_
            refine Wl.nil ?_
            refine hK91 _ _ _ ?_
            refine W.prune' [0, 3, 9, 52, 53] [Value.slice pa ps.length pcap, Value.slice G.a qs.length G.cap, Value.int .i64 ((j : Nat) : Int), Value.int .i64 ((qs.length : Nat) : Int), Value.int .i64 ((j : Nat) : Int)] (by kernel_rfl) (fun f92 => ?_)
            refine W.seq (fun K93 hK93 => ?_)
            refine W.draws [(0, true), (1, true), (2, true), (3, true), (4, true), (5, true), (6, false), (7, false), (8, false), (9, false), (10, false)] [0, 1, 2, 3, 4, 5] (Mem w [] [fl qs, G.seg 22 (mc slq qs)]) (by kernel_rfl) (by kernel_rfl) (by kernel_rfl) rfl (by kernel_rfl) (fun _ _ h_ => h_.drawn _) (fun _ h_ => h_) ?_
            refine Wd.run 2 (by kernel_rfl) ?_
            refine Wd.ys (v := Value.pointer (some (ela G.a (j * 1)))) rfl rfl rfl (Ys.indexAddr (k := .i64) (a := G.a) (len := qs.length) (cap := G.cap) (i := ((j : Nat) : Int)) (sz := 1) rfl (by kernel_rfl) (by kernel_rfl) Try.runUnderlying40 Try.sizeOf22 (by omega) (by omega) (by rw [FS.a_own (FS.notnil okG (by omega))]; rfl)) ?_
            refine Wd.ys (v := Value.slice ((qs.getD j default).1.a) ((qs.getD j default).2.length) ((qs.getD j default).1.cap)) rfl rfl rfl (Ys.ld (a := ela G.a (j * 1)) rfl (by kernel_rfl) Try.isAgg22 (fun w_ h_ => (FS.at (i := 1) (t := 22) h_ rfl (FS.nil_cs okG (mc_len1 _))).ld (mc_get1 default (by first | omega | (simp; omega))))) ?_
            refine Wd.ys (v := Value.string (bstr ((qs.getD j default).2))) rfl rfl rfl (Ys.bytesStr (a := (qs.getD j default).1.a) (len := (qs.getD j default).2.length) (cap := (qs.getD j default).1.cap) (xs := (qs.getD j default).2) (e := 5) rfl (by kernel_rfl) (by kernel_rfl) (by kernel_rfl) (by kernel_rfl) ((by first | rfl | (simp [be_len]; done) | (simp [be_len]; omega))) (fun w_ h_ => (fl_at (i := 0) h_ rfl hqk _ (qs_in (by omega))))) ?_
            refine Wd.run 1 (by kernel_rfl) ?_
            refine Wd.yc (v := Value.int .i64 ((j : Nat) : Int)) rfl rfl rfl (Ys.yc (Ys.pure (fun _ => by kernel_rfl))) (.inr fun _ h_ => h_) ?_
            refine Wd.yc (v := Value.pointer (some (ela pa (j * 1)))) rfl rfl rfl (Ys.yc (Ys.byMem fun w_ h_ => Ys.indexAddr (k := .i64) (a := pa) (len := ps.length) (cap := pcap) (i := ((j : Nat) : Int)) (sz := 1) rfl (by kernel_rfl) (by kernel_rfl) Try.runUnderlying40 Try.sizeOf22 (by omega) (by omega) ((hpa.mem0 h_).here (by rw [mc_len]; first | omega | (simp; omega))))) (.inr fun _ h_ => h_) ?_
            refine Wd.yc (v := Value.slice ((ps.getD j default).a) ((ps.getD j default).xs.length) ((ps.getD j default).cap)) rfl rfl rfl (Ys.yc (Ys.ld (a := ela pa (j * 1)) rfl (by kernel_rfl) Try.isAgg22 (fun w_ h_ => (hpa.mem0 h_).ld (mc_get1 default (by first | omega | (simp; omega)))))) (.inr fun _ h_ => h_) ?_
            have hb94 := hpl _ (getD_in (ps := ps) (k := j) (by omega))
            refine Wd.yc (v := Value.string (bstr ((ps.getD j default).xs))) rfl rfl rfl (Ys.yc (Ys.bytesStr (a := (ps.getD j default).a) (len := (ps.getD j default).xs.length) (cap := (ps.getD j default).cap) (xs := (ps.getD j default).xs) (e := 5) rfl (by kernel_rfl) (by kernel_rfl) (by kernel_rfl) (by kernel_rfl) ((by first | rfl | (simp [be_len]; done) | (simp [be_len]; omega))) (fun w_ h_ => ((hp _ (getD_in (by omega))).mem0 h_)))) (.inr fun _ h_ => h_) ?_
            refine Wd.yc (v := Value.bool (!(((qs.getD j default).2) == ((ps.getD j default).xs)))) rfl rfl rfl (Ys.yc ((Ys.pure (v := .bool (!((bstr ((qs.getD j default).2)).toList == (bstr ((ps.getD j default).xs)).toList))) (fun _ => by kernel_rfl)).conseq (bool_congr ((congrArg (! ·) (bstr_eq _ _)))))) (.inr fun _ h_ => h_) ?_
            refine Wd.nil ?_
            refine hK93 _ _ _ ?_
            refine W.prune' [0, 3, 52, 53, 66] [Value.slice pa ps.length pcap, Value.slice G.a qs.length G.cap, Value.int .i64 ((qs.length : Nat) : Int), Value.int .i64 ((j : Nat) : Int), Value.bool (!(((qs.getD j default).2) == ((ps.getD j default).xs)))] (by kernel_rfl) (fun f95 => ?_)
            refine W.cond (!(((qs.getD j default).2) == ((ps.getD j default).xs))) (by kernel_rfl) (fun h96 => ?_) (fun h97 => ?_)
            · have qh96 := h96; try simp only [Bool.and_eq_true, Bool.or_eq_true, Bool.not_eq_true', Bool.not_eq_false', Bool.and_eq_false_iff, Bool.or_eq_false_iff, decide_eq_true_eq, decide_eq_false_iff_not, beq_iff_eq, bne_iff_ne, beq_eq_false_iff_ne, bne_eq_false_iff_eq] at qh96
              (exfalso; rw [qs_xs (ps := ps) (k := j) (by rw [hqs, hte]) (by omega)] at h96; simp at h96)
            · have qh97 := h97; try simp only [Bool.and_eq_true, Bool.or_eq_true, Bool.not_eq_true', Bool.not_eq_false', Bool.and_eq_false_iff, Bool.or_eq_false_iff, decide_eq_true_eq, decide_eq_false_iff_not, beq_iff_eq, bne_iff_ne, beq_eq_false_iff_ne, bne_eq_false_iff_eq] at qh97
              refine W.skip' ?_
              refine hK90 _ _ _ ?_
              refine W.prune' [0, 3, 52, 53] [Value.slice pa ps.length pcap, Value.slice G.a qs.length G.cap, Value.int .i64 ((qs.length : Nat) : Int), Value.int .i64 ((j : Nat) : Int)] (by kernel_rfl) (fun f98 => ?_)
              refine W.region ?_
              refine Wl.ys (v := Value.int .i64 ((j + 1 : Nat) : Int)) rfl rfl ((Ys.pure (v := .int .i64 (iadd .i64 ((j : Nat) : Int) 1)) (fun _ => by kernel_rfl)).conseq (int_congr (iadd_eq (by omega) (by omega) (by omega)))) ?_
              refine Wl.run 1 (by kernel_rfl) ?_
              refine Wl.nil ?_
              refine fun w_ h_ => hJ82 (j + 1) _ w_ (by omega) (by first | omega | trivial | simp) ?_ h_
              kernel_rfl
          · have qh88 := h88; try simp only [Bool.and_eq_true, Bool.or_eq_true, Bool.not_eq_true', Bool.not_eq_false', Bool.and_eq_false_iff, Bool.or_eq_false_iff, decide_eq_true_eq, decide_eq_false_iff_not, beq_iff_eq, bne_iff_ne, beq_eq_false_iff_ne, bne_eq_false_iff_eq] at qh88
            refine W.exit ?_
            refine hK79 _ _ _ ?_
            refine W.pick (LL' := [fl qs]) [0] (by decide) rfl ?_
            refine W.prune' [] [] (by kernel_rfl) (fun f99 => ?_)
            refine W.seq (fun K100 hK100 => ?_)
            refine W.region ?_
            refine Wl.ht rfl (Ht.call (β := FS) (k := 23) (args := #[Value.slice none 0 0]) (Lin := []) (Lk := [fl qs]) (Mi := []) (Lo := fun g101 => [g101.seg 5 (mc b8 []), fl qs]) [] [0] rfl (fun _ => by kernel_rfl) (by decide) rfl rfl rfl (fun w_ hm_ hl_ => (ojoinn_c [] [] none 0 0 0 _ rfl rfl rfl (At.nil _ _) (fun _ h => by cases h) (by decide) (by decide) (by decide))) (fun _ => rfl)) (fun x104 => ?_)
            obtain ⟨g101, ok102, nn103⟩ := x104
            refine Wl.castL (LL' := [g101.seg 5 (mc b8 []), fl qs]) rfl ?_
            refine Wl.run 3 (by kernel_rfl) ?_
            refine Wl.nil ?_
            refine hK100 _ _ _ ?_
            refine W.pick (LL' := [fl qs]) [1] (by decide) rfl ?_
            refine W.prune' [2] [Value.bool true] (by kernel_rfl) (fun f105 => ?_)
            refine W.ret ?_
            show ∀ w_, _ → bodyPostM (fence none) 0 Try.prog Try.f5 _ Exit.ret _ w_
            exact fun w_ hS_ => fin_ret (ret1 rfl (RV.tmp (v := Value.bool true) (by kernel_rfl)) hS_ ⟨rfl, hS_.below⟩)

end Go.Proofs.Ytegeijaicjackaa.Oct
