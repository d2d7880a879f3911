/-
  Mappings' tables: what changes them. No condition.
-/
import Derived.Test.YtjkhmbigoloeiaaMa1
import Derived.Test.YtjkhmbigoloeiaaMa2
set_option linter.unusedVariables false
set_option linter.unusedSimpArgs false
set_option maxRecDepth 20000
namespace Go.Proofs.Ytjkhmbigoloeiaa.Oct
open Go.RowKit Base
attribute [local irreducible] Ys Yc Ht HtS HtIn Wl Wd W Mem pf dpf Wa Wo

theorem insxM_c (g : FS) (xs X : List ((Int × Int × Int) × (Ent))) (x : (Int × Int × Int) × (Ent)) (vb i : Nat) (M : List Nat) (w : World) (hX : xs.take i ++ x :: xs.drop i = X) (hl : Mem w M [g.seg 161 (mm prM xs), [cb vb (prM x) 161]] w) (ok : g.ok 11 xs.length) (hi : i ≤ xs.length) (hn : xs.length ≤ 100000) :
    Calls Try.prog 112 #[.slice g.a xs.length g.cap, .int .i64 ((i : Nat) : Int), .slice (some ⟨vb, 0, none⟩) 1 1] w (RetM w (fun g' : FS => g'.ok 11 X.length ∧ g'.nil = false) (fun g' => .slice g'.a X.length g'.cap) M (fun g' => [g'.seg 161 (mm prM X)])) := by
  subst hX
  have h := insRM_c g (mm prM xs) (prM x) vb xs.length i M w hl ok (mm_len prM_len _) hi hn rfl (mm_one prM_one _) (prM_one _)
  have e : (mm prM xs).take (i * 11) ++ (prM x ++ (mm prM xs).drop (i * 11)) = mm prM (xs.take i ++ x :: xs.drop i) := by rw [mm_take prM_len, mm_drop prM_len, mm_app, mm_cons]
  have el : (xs.take i ++ x :: xs.drop i).length = xs.length + 1 := by simp; omega
  rw [e] at h; rw [el]; exact h
theorem delxM_c (g : FS) (xs X : List ((Int × Int × Int) × (Ent))) (i : Nat) (M : List Nat) (w : World) (hX : xs.take i ++ xs.drop (i + 1) = X) (hl : Mem w M [g.seg 161 (mm prM xs)] w) (ok : g.ok 11 xs.length) (hi : i < xs.length) (hn : xs.length ≤ 100000) :
    Calls Try.prog 93 #[.slice g.a xs.length g.cap, .int .i64 ((i : Nat) : Int), .int .i64 ((i + 1 : Nat) : Int)] w (RetM w (fun g' : FS => g'.ok 11 X.length ∧ g'.nil = false) (fun g' => .slice g'.a X.length g'.cap) M (fun g' => [g'.seg 161 (mm prM X)])) := by
  subst hX
  have h := delRM_c g (mm prM xs) xs.length i M w hl ok (mm_len prM_len _) hi hn (mm_one prM_one _)
  have e : (mm prM xs).take (i * 11) ++ (mm prM xs).drop ((i + 1) * 11) = mm prM (xs.take i ++ xs.drop (i + 1)) := by rw [mm_take prM_len, mm_drop prM_len, mm_app]
  have el : (xs.take i ++ xs.drop (i + 1)).length = xs.length - 1 := by simp; omega
  rw [e] at h; rw [el]; exact h

theorem putM_c (xs : List ((Int × Int × Int) × (Ent))) (g : FS) (most : Int) (tb : Nat) (M : List Nat) (k : Int × Int × Int) (v : Ent) (w : World) (hl : Mem w M [g.seg 161 (mm prM xs), [cb tb [Value.slice g.a xs.length g.cap, Value.int .i64 most, Value.func (.func 52) #[] #[]] 151]] w) (ok : g.ok 11 xs.length) (hn : xs.length ≤ 100000) (hs : Srt ordM xs) : Calls Try.prog 91 #[Value.pointer (some ⟨tb, 0, none⟩), Value.agg ([Value.int .u8 k.1, Value.int .u16 k.2.1, Value.int .u32 k.2.2]).toArray, Value.agg ([Value.int .u8 v.proto, Value.int .u16 v.ext, Value.int .u16 v.to, Value.int .u32 v.remote, Value.int .u32 v.host, Value.bool v.on, Value.string v.words, Value.int .u64 v.ends]).toArray] w (RetM w (fun g' : FS => g'.ok 11 (putX ordM most xs k v).length) (fun _ => Value.int .i64 (putR most xs k)) M (fun g' => [g'.seg 161 (mm prM (putX ordM most xs k v)), [cb tb [.slice g'.a (putX ordM most xs k v).length g'.cap, .int .i64 most, Value.func (.func 52) #[] #[]] 151]])) := by
  refine calls_W (M := M) (LL := [g.seg 161 (mm prM xs), [cb tb [Value.slice g.a xs.length g.cap, Value.int .i64 most, Value.func (.func 52) #[] #[]] 151]]) (n := 49) Try.func91 rfl rfl (by simp) (hl) ?_
  refine W.seq (fun K1 hK1 => ?_)
  refine W.region ?_
  refine Wl.ht rfl (Ht.box (v := Value.agg ([Value.int .u8 k.1, Value.int .u16 k.2.1, Value.int .u32 k.2.2]).toArray) (cs := [Value.int .u8 k.1, Value.int .u16 k.2.1, Value.int .u32 k.2.2]) rfl rfl (by kernel_rfl) rfl) (fun p4 => ?_)
  refine Wl.ht rfl (Ht.box (v := Value.agg ([Value.int .u8 v.proto, Value.int .u16 v.ext, Value.int .u16 v.to, Value.int .u32 v.remote, Value.int .u32 v.host, Value.bool v.on, Value.string v.words, Value.int .u64 v.ends]).toArray) (cs := [Value.int .u8 v.proto, Value.int .u16 v.ext, Value.int .u16 v.to, Value.int .u32 v.remote, Value.int .u32 v.host, Value.bool v.on, Value.string v.words, Value.int .u64 v.ends]) rfl rfl (by kernel_rfl) rfl) (fun p5 => ?_)
  refine Wl.run 1 (by kernel_rfl) ?_
  refine Wl.nil ?_
  refine hK1 _ _ _ ?_
  refine W.prune' [0, 4, 5] [Value.pointer (some ⟨tb, 0, none⟩), Value.pointer (some ⟨p4, 0, none⟩), Value.pointer (some ⟨p5, 0, none⟩)] (by kernel_rfl) (fun f2 => ?_)
  refine W.seq (fun K3 hK3 => ?_)
  refine W.region ?_
  refine Wl.run 1 (by kernel_rfl) ?_
  refine Wl.ys (v := Value.agg ([Value.int .u8 k.1, Value.int .u16 k.2.1, Value.int .u32 k.2.2]).toArray) rfl rfl (Ys.loadN (b := p4) (o' := 0) (i := 1) (j := 0) (cs := [Value.int .u8 k.1, Value.int .u16 k.2.1, Value.int .u32 k.2.2]) (vs := [Value.int .u8 k.1, Value.int .u16 k.2.1, Value.int .u32 k.2.2]) rfl (by kernel_rfl) Try.isAgg115 Try.sizeOf115 rfl rfl rfl rfl) ?_
  refine Wl.yc (v := Value.tuple #[Value.int .i64 ((posK ordM xs k : Nat) : Int), Value.bool (hasK xs k)]) rfl rfl (Yc.call (k := 92) (args := #[Value.pointer (some ⟨tb, 0, none⟩), Value.agg ([Value.int .u8 k.1, Value.int .u16 k.2.1, Value.int .u32 k.2.2]).toArray]) (fun _ => by kernel_rfl) (fun w_ hm_ => (findM_c xs g.a g.cap most tb k _ (At.lit0 (i := 3) (j := 0) (t := 151) (b := tb) hm_ rfl rfl) (FS.at (i := 2) (t := 161) hm_ rfl (FS.nil_cs ok (prM_zlen _))) (by first | omega | (simp; done)) hs))) ?_
  refine Wl.run 5 (by kernel_rfl) ?_
  refine Wl.nil ?_
  refine hK3 _ _ _ ?_
  refine W.prune' [0, 4, 5, 7, 8] [Value.pointer (some ⟨tb, 0, none⟩), Value.pointer (some ⟨p4, 0, none⟩), Value.pointer (some ⟨p5, 0, none⟩), Value.int .i64 ((posK ordM xs k : Nat) : Int), Value.bool (hasK xs k)] (by kernel_rfl) (fun f4 => ?_)
  refine W.seq (fun K5 hK5 => ?_)
  refine W.block ?_
  refine W.seq (fun K6 hK6 => ?_)
  refine W.region ?_
  refine Wl.run 2 (by kernel_rfl) ?_
  refine Wl.nil ?_
  refine hK6 _ _ _ ?_
  refine W.prune' [0, 4, 5, 7, 28] [Value.pointer (some ⟨tb, 0, none⟩), Value.pointer (some ⟨p4, 0, none⟩), Value.pointer (some ⟨p5, 0, none⟩), Value.int .i64 ((posK ordM xs k : Nat) : Int), Value.bool (hasK xs k)] (by kernel_rfl) (fun f7 => ?_)
  refine W.cond (hasK xs k) (by kernel_rfl) (fun h8 => ?_) (fun h9 => ?_)
  · have hps_ := hasK_at dM hs h8
    refine W.draws [(0, true), (1, true), (2, true), (3, true), (4, true), (5, false), (6, false), (7, false), (8, false)] [0, 1, 2, 3, 4] (Mem w M [[cb p5 [Value.int .u8 v.proto, Value.int .u16 v.ext, Value.int .u16 v.to, Value.int .u32 v.remote, Value.int .u32 v.host, Value.bool v.on, Value.string v.words, Value.int .u64 v.ends] 62], [cb p4 [Value.int .u8 k.1, Value.int .u16 k.2.1, Value.int .u32 k.2.2] 115], g.seg 161 (mm prM xs), [cb tb [Value.slice g.a xs.length g.cap, Value.int .i64 most, Value.func (.func 52) #[] #[]] 151]]) (by kernel_rfl) (by kernel_rfl) (by kernel_rfl) rfl (by kernel_rfl) (fun _ _ h_ => h_.drawn _) (fun _ h_ => h_) ?_
    refine Wd.run 3 (by kernel_rfl) ?_
    refine Wd.ys (v := Value.slice g.a xs.length g.cap) rfl rfl rfl (Ys.load (b := tb) (o' := 0) (i := 3) (j := 0) (cs := [Value.slice g.a xs.length g.cap, Value.int .i64 most, Value.func (.func 52) #[] #[]]) (v := Value.slice g.a xs.length g.cap) rfl (by kernel_rfl) Try.isAgg149 rfl rfl rfl) ?_
    refine Wd.run 1 (by kernel_rfl) ?_
    refine Wd.yc (v := Value.agg ([Value.int .u8 v.proto, Value.int .u16 v.ext, Value.int .u16 v.to, Value.int .u32 v.remote, Value.int .u32 v.host, Value.bool v.on, Value.string v.words, Value.int .u64 v.ends]).toArray) rfl rfl rfl (Ys.yc (Ys.loadN (b := p5) (o' := 0) (i := 0) (j := 0) (cs := [Value.int .u8 v.proto, Value.int .u16 v.ext, Value.int .u16 v.to, Value.int .u32 v.remote, Value.int .u32 v.host, Value.bool v.on, Value.string v.words, Value.int .u64 v.ends]) (vs := [Value.int .u8 v.proto, Value.int .u16 v.ext, Value.int .u16 v.to, Value.int .u32 v.remote, Value.int .u32 v.host, Value.bool v.on, Value.string v.words, Value.int .u64 v.ends]) rfl (by kernel_rfl) Try.isAgg62 Try.sizeOf62 rfl rfl rfl rfl)) (.inr fun _ h_ => h_) ?_
    refine Wd.yc (v := Value.pointer (some (ela g.a ((posK ordM xs k) * 11)))) rfl rfl rfl (Ys.yc (Ys.indexAddr (k := .i64) (a := g.a) (len := xs.length) (cap := g.cap) (i := ((posK ordM xs k : Nat) : Int)) (sz := 11) rfl (by kernel_rfl) (by kernel_rfl) Try.runUnderlying149 Try.sizeOf161 (by omega) (by omega) (by rw [FS.a_own (FS.notnil ok (by omega))]; rfl))) (.inl (by kernel_rfl)) ?_
    refine Wd.yc (v := Value.pointer (some ((ela g.a ((posK ordM xs k) * 11)).add 3))) rfl rfl rfl (Ys.yc (Ys.pure (fun _ => by kernel_rfl))) (.inl (by kernel_rfl)) ?_
    refine Wd.ht rfl rfl (Ht.storeFSN (k := 3) (i := 2) (g := g) (q := (posK ordM xs k) * 11) (ty := 161) (cs := mm prM xs) (vs := [Value.int .u8 v.proto, Value.int .u16 v.ext, Value.int .u16 v.to, Value.int .u32 v.remote, Value.int .u32 v.host, Value.bool v.on, Value.string v.words, Value.int .u64 v.ends]) (cs' := mm prM (xs.set (posK ordM xs k) (((xs.getD (posK ordM xs k) dM).1), v))) (LL' := [[cb p5 [Value.int .u8 v.proto, Value.int .u16 v.ext, Value.int .u16 v.to, Value.int .u32 v.remote, Value.int .u32 v.host, Value.bool v.on, Value.string v.words, Value.int .u64 v.ends] 62], [cb p4 [Value.int .u8 k.1, Value.int .u16 k.2.1, Value.int .u32 k.2.2] 115], g.seg 161 (mm prM (xs.set (posK ordM xs k) (((xs.getD (posK ordM xs k) dM).1), v))), [cb tb [Value.slice g.a xs.length g.cap, Value.int .i64 most, Value.func (.func 52) #[] #[]] 151]]) rfl rfl (by kernel_rfl) (by kernel_rfl) Try.sizeOf62 (by simp [Value.oneCell']) (FS.notnil ok (by omega)) rfl (by rw [mm_len (g := prM) (sz := 11) (fun _ => rfl)]; (try simp only [List.length_cons, List.length_nil]); omega) (mm_putAt (g := prM) (sz := 11) (fun _ => rfl) dM (((xs.getD (posK ordM xs k) dM).1), v) (by first | decide | (simp only [List.length_cons, List.length_nil]; omega)) (by omega) rfl) rfl) (.inl (by kernel_rfl)) (fun _ => ?_)
    refine Wd.nil ?_
    refine hK5 _ _ _ ?_
    refine W.pick (LL' := [g.seg 161 (mm prM (xs.set (posK ordM xs k) (((xs.getD (posK ordM xs k) dM).1), v))), [cb tb [Value.slice g.a xs.length g.cap, Value.int .i64 most, Value.func (.func 52) #[] #[]] 151]]) [2, 3] (by decide) rfl ?_
    refine W.prune' [] [] (by kernel_rfl) (fun f10 => ?_)
    refine W.seq (fun K11 hK11 => ?_)
    refine W.region ?_
    refine Wl.run 1 (by kernel_rfl) ?_
    refine Wl.nil ?_
    refine hK11 _ _ _ ?_
    refine W.ret ?_
    have hB : putX ordM most xs k v = xs.set (posK ordM xs k) (((xs.getD (posK ordM xs k) dM).1), v) := by unfold putX; rw [h8]; simp only [cond_true, cond_false]; rw [put_has hs h8, hps_.2]
    show ∀ w_, _ → bodyPostM (fence none) 0 Try.prog Try.f91 _ Exit.ret _ w_
    exact fun w_ hS_ => fin_ret (ret1 rfl (RV.tmp (v := Value.int .i64 0) (by kernel_rfl)) hS_ ⟨g, (by rw [hB, List.length_set]; exact ok), congrArg Ending.returned ((by unfold putR; simp only [h8, cond_true, cond_false])), (Mem.cast (by rw [hB, List.length_set]; rfl) (hS_.pick [0, 1] (by decide) rfl))⟩)
  · refine W.seq (fun K12 hK12 => ?_)
    refine W.draws [(0, true), (1, true), (2, true), (3, true), (4, true), (5, false), (6, false), (7, false), (8, false), (9, false), (10, false)] [0, 1, 2, 3, 4] (Mem w M [[cb p5 [Value.int .u8 v.proto, Value.int .u16 v.ext, Value.int .u16 v.to, Value.int .u32 v.remote, Value.int .u32 v.host, Value.bool v.on, Value.string v.words, Value.int .u64 v.ends] 62], [cb p4 [Value.int .u8 k.1, Value.int .u16 k.2.1, Value.int .u32 k.2.2] 115], g.seg 161 (mm prM xs), [cb tb [Value.slice g.a xs.length g.cap, Value.int .i64 most, Value.func (.func 52) #[] #[]] 151]]) (by kernel_rfl) (by kernel_rfl) (by kernel_rfl) rfl (by kernel_rfl) (fun _ _ h_ => h_.drawn _) (fun _ h_ => h_) ?_
    refine Wd.run 3 (by kernel_rfl) ?_
    refine Wd.ys (v := Value.slice g.a xs.length g.cap) rfl rfl rfl (Ys.load (b := tb) (o' := 0) (i := 3) (j := 0) (cs := [Value.slice g.a xs.length g.cap, Value.int .i64 most, Value.func (.func 52) #[] #[]]) (v := Value.slice g.a xs.length g.cap) rfl (by kernel_rfl) Try.isAgg149 rfl rfl rfl) ?_
    refine Wd.run 1 (by kernel_rfl) ?_
    refine Wd.yc (v := Value.pointer (some ⟨tb, 0, none⟩)) rfl rfl rfl (Ys.yc (Ys.pure (fun _ => by kernel_rfl))) (.inr fun _ h_ => h_) ?_
    refine Wd.yc (v := Value.pointer (some ⟨tb, 0, none⟩)) rfl rfl rfl (Ys.yc (Ys.pure (fun _ => by kernel_rfl))) (.inr fun _ h_ => h_) ?_
    refine Wd.yc (v := Value.pointer (some ⟨tb, 1, none⟩)) rfl rfl rfl (Ys.yc (Ys.pure (fun _ => by kernel_rfl))) (.inr fun _ h_ => h_) ?_
    refine Wd.yc (v := Value.int .i64 most) rfl rfl rfl (Ys.yc (Ys.load (b := tb) (o' := 1) (i := 3) (j := 0) (cs := [Value.slice g.a xs.length g.cap, Value.int .i64 most, Value.func (.func 52) #[] #[]]) (v := Value.int .i64 most) rfl (by kernel_rfl) Try.isAgg3 rfl rfl rfl)) (.inr fun _ h_ => h_) ?_
    refine Wd.yc (v := Value.bool (decide (((xs.length : Nat) : Int) ≥ most))) rfl rfl rfl (Ys.yc (Ys.pure (fun _ => by kernel_rfl))) (.inr fun _ h_ => h_) ?_
    refine Wd.yc (v := Value.bool (decide (((xs.length : Nat) : Int) ≥ most))) rfl rfl rfl (Ys.yc (Ys.pure (fun _ => by kernel_rfl))) (.inr fun _ h_ => h_) ?_
    refine Wd.nil ?_
    refine hK12 _ _ _ ?_
    refine W.prune' [0, 4, 5, 7, 38] [Value.pointer (some ⟨tb, 0, none⟩), Value.pointer (some ⟨p4, 0, none⟩), Value.pointer (some ⟨p5, 0, none⟩), Value.int .i64 ((posK ordM xs k : Nat) : Int), Value.bool (decide (((xs.length : Nat) : Int) ≥ most))] (by kernel_rfl) (fun f13 => ?_)
    refine W.cond (decide (((xs.length : Nat) : Int) ≥ most)) (by kernel_rfl) (fun h14 => ?_) (fun h15 => ?_)
    · have qh14 := h14; try simp only [Bool.and_eq_true, Bool.or_eq_true, Bool.not_eq_true', Bool.not_eq_false', Bool.and_eq_false_iff, Bool.or_eq_false_iff, decide_eq_true_eq, decide_eq_false_iff_not, beq_iff_eq, bne_iff_ne, beq_eq_false_iff_ne, bne_eq_false_iff_eq] at qh14
      refine W.seq (fun K16 hK16 => ?_)
      refine W.region ?_
      refine Wl.run 1 (by kernel_rfl) ?_
      refine Wl.nil ?_
      refine hK16 _ _ _ ?_
      refine W.ret ?_
      have hB : putX ordM most xs k v = xs := by unfold putX; rw [h9]; simp only [cond_true, cond_false]; rw [h14]; simp only [cond_true, cond_false]
      show ∀ w_, _ → bodyPostM (fence none) 0 Try.prog Try.f91 _ Exit.ret _ w_
      exact fun w_ hS_ => fin_ret (ret1 rfl (RV.tmp (v := Value.int .i64 20) (by kernel_rfl)) hS_ ⟨g, (by rw [hB]; exact ok), congrArg Ending.returned ((by unfold putR; simp only [h9, h14, cond_true, cond_false])), (Mem.cast (by rw [hB]; rfl) (hS_.pick [2, 3] (by decide) rfl))⟩)
    · have qh15 := h15; try simp only [Bool.and_eq_true, Bool.or_eq_true, Bool.not_eq_true', Bool.not_eq_false', Bool.and_eq_false_iff, Bool.or_eq_false_iff, decide_eq_true_eq, decide_eq_false_iff_not, beq_iff_eq, bne_iff_ne, beq_eq_false_iff_ne, bne_eq_false_iff_eq] at qh15
      refine W.draws [(0, true), (1, true), (2, true), (3, true), (4, true), (5, true), (6, true), (7, false), (8, false), (9, false), (10, false), (11, false), (12, false), (13, false)] [0, 1, 2, 3, 4, 5, 6] (Mem w M [[cb p5 [Value.int .u8 v.proto, Value.int .u16 v.ext, Value.int .u16 v.to, Value.int .u32 v.remote, Value.int .u32 v.host, Value.bool v.on, Value.string v.words, Value.int .u64 v.ends] 62], [cb p4 [Value.int .u8 k.1, Value.int .u16 k.2.1, Value.int .u32 k.2.2] 115], [cb tb [Value.slice g.a xs.length g.cap, Value.int .i64 most, Value.func (.func 52) #[] #[]] 151]]) (by kernel_rfl) (by kernel_rfl) (by kernel_rfl) rfl (by kernel_rfl) (fun _ _ h_ => h_.drawn _) (fun _ h_ => h_.pick [0, 1, 3] (by decide) rfl) ?_
      refine Wd.run 4 (by kernel_rfl) ?_
      refine Wd.ys (v := Value.slice g.a xs.length g.cap) rfl rfl rfl (Ys.load (b := tb) (o' := 0) (i := 2) (j := 0) (cs := [Value.slice g.a xs.length g.cap, Value.int .i64 most, Value.func (.func 52) #[] #[]]) (v := Value.slice g.a xs.length g.cap) rfl (by kernel_rfl) Try.isAgg149 rfl rfl rfl) ?_
      refine Wd.run 1 (by kernel_rfl) ?_
      refine Wd.ys (v := Value.agg ([Value.int .u8 k.1, Value.int .u16 k.2.1, Value.int .u32 k.2.2]).toArray) rfl rfl rfl (Ys.loadN (b := p4) (o' := 0) (i := 1) (j := 0) (cs := [Value.int .u8 k.1, Value.int .u16 k.2.1, Value.int .u32 k.2.2]) (vs := [Value.int .u8 k.1, Value.int .u16 k.2.1, Value.int .u32 k.2.2]) rfl (by kernel_rfl) Try.isAgg115 Try.sizeOf115 rfl rfl rfl rfl) ?_
      refine Wd.yc (v := Value.agg ([Value.int .u8 v.proto, Value.int .u16 v.ext, Value.int .u16 v.to, Value.int .u32 v.remote, Value.int .u32 v.host, Value.bool v.on, Value.string v.words, Value.int .u64 v.ends]).toArray) rfl rfl rfl (Ys.yc (Ys.loadN (b := p5) (o' := 0) (i := 0) (j := 0) (cs := [Value.int .u8 v.proto, Value.int .u16 v.ext, Value.int .u16 v.to, Value.int .u32 v.remote, Value.int .u32 v.host, Value.bool v.on, Value.string v.words, Value.int .u64 v.ends]) (vs := [Value.int .u8 v.proto, Value.int .u16 v.ext, Value.int .u16 v.to, Value.int .u32 v.remote, Value.int .u32 v.host, Value.bool v.on, Value.string v.words, Value.int .u64 v.ends]) rfl (by kernel_rfl) Try.isAgg62 Try.sizeOf62 rfl rfl rfl rfl)) (.inr fun _ h_ => h_.pick [0, 1, 3] (by decide) rfl) ?_
      refine Wd.yc (v := Value.agg ([Value.int .u8 k.1, Value.int .u16 k.2.1, Value.int .u32 k.2.2, Value.int .u8 v.proto, Value.int .u16 v.ext, Value.int .u16 v.to, Value.int .u32 v.remote, Value.int .u32 v.host, Value.bool v.on, Value.string v.words, Value.int .u64 v.ends]).toArray) rfl rfl rfl (Ys.yc (Ys.pure (fun _ => by kernel_rfl))) (.inr fun _ h_ => h_.pick [0, 1, 3] (by decide) rfl) ?_
      refine Wd.ht rfl rfl (Ht.made (mk := fun b_ => .slice (some ⟨b_, 0, none⟩) 1 1) (t := 161) (cs := [Value.int .u8 k.1, Value.int .u16 k.2.1, Value.int .u32 k.2.2, Value.int .u8 v.proto, Value.int .u16 v.ext, Value.int .u16 v.to, Value.int .u32 v.remote, Value.int .u32 v.host, Value.bool v.on, Value.string v.words, Value.int .u64 v.ends]) rfl (fun _ => by kernel_rfl)) (.inr fun _ _ h_ => h_.pick [1, 2, 4] (by decide) rfl) (fun p24 => ?_)
      obtain ⟨Z17, hZ18⟩ : ∃ Z, xs.take (posK ordM xs k) ++ (k, v) :: xs.drop (posK ordM xs k) = Z := ⟨_, rfl⟩
      refine Wd.htS rfl rfl (HtS.call (β := FS) (k := 112) (args := #[Value.slice g.a xs.length g.cap, Value.int .i64 ((posK ordM xs k : Nat) : Int), Value.slice (some ⟨p24, 0, none⟩) 1 1]) (Lin := [g.seg 161 (mm prM xs), [cb p24 [Value.int .u8 k.1, Value.int .u16 k.2.1, Value.int .u32 k.2.2, Value.int .u8 v.proto, Value.int .u16 v.ext, Value.int .u16 v.to, Value.int .u32 v.remote, Value.int .u32 v.host, Value.bool v.on, Value.string v.words, Value.int .u64 v.ends] 161]]) (Lk := [[cb p5 [Value.int .u8 v.proto, Value.int .u16 v.ext, Value.int .u16 v.to, Value.int .u32 v.remote, Value.int .u32 v.host, Value.bool v.on, Value.string v.words, Value.int .u64 v.ends] 62], [cb p4 [Value.int .u8 k.1, Value.int .u16 k.2.1, Value.int .u32 k.2.2] 115], [cb tb [Value.slice g.a xs.length g.cap, Value.int .i64 most, Value.func (.func 52) #[] #[]] 151]]) (Lo := fun g19 => [g19.seg 161 (mm prM Z17), [cb p5 [Value.int .u8 v.proto, Value.int .u16 v.ext, Value.int .u16 v.to, Value.int .u32 v.remote, Value.int .u32 v.host, Value.bool v.on, Value.string v.words, Value.int .u64 v.ends] 62], [cb p4 [Value.int .u8 k.1, Value.int .u16 k.2.1, Value.int .u32 k.2.2] 115], [cb tb [Value.slice g.a xs.length g.cap, Value.int .i64 most, Value.func (.func 52) #[] #[]] 151]]) [3, 0] [1, 2, 4] rfl (fun _ => by kernel_rfl) (by decide) rfl rfl rfl (fun w_ hm_ hl_ => (insxM_c g xs Z17 (k, v) p24 (posK ordM xs k) _ _ hZ18 hl_ ok (by have z_ := @posK_le; first | omega | exact posK_le) (by omega))) (fun _ => rfl)) (.inr fun _ _ h_ => h_.pick [1, 2, 3] (by decide) rfl) (fun g19 hx23 => ?_)
      obtain ⟨ok20, nn21⟩ := hx23
      refine Wd.yc (v := Value.pointer (some ⟨tb, 0, none⟩)) rfl rfl rfl (Ys.yc (Ys.pure (fun _ => by kernel_rfl))) (.inl (by kernel_rfl)) ?_
      refine Wd.yc (v := Value.pointer (some ⟨tb, 0, none⟩)) rfl rfl rfl (Ys.yc (Ys.pure (fun _ => by kernel_rfl))) (.inl (by kernel_rfl)) ?_
      refine Wd.ht rfl rfl (Ht.store (b := tb) (o' := 0) (i := 3) (j := 0) (cs := [Value.slice g.a xs.length g.cap, Value.int .i64 most, Value.func (.func 52) #[] #[]]) (cs' := [Value.slice g19.a Z17.length g19.cap, Value.int .i64 most, Value.func (.func 52) #[] #[]]) (v := Value.slice g19.a Z17.length g19.cap) (LL' := [g19.seg 161 (mm prM Z17), [cb p5 [Value.int .u8 v.proto, Value.int .u16 v.ext, Value.int .u16 v.to, Value.int .u32 v.remote, Value.int .u32 v.host, Value.bool v.on, Value.string v.words, Value.int .u64 v.ends] 62], [cb p4 [Value.int .u8 k.1, Value.int .u16 k.2.1, Value.int .u32 k.2.2] 115], [cb tb [Value.slice g19.a Z17.length g19.cap, Value.int .i64 most, Value.func (.func 52) #[] #[]] 151]]) rfl rfl (by kernel_rfl) (by kernel_rfl) Try.sizeOf149 rfl rfl rfl (by simp) rfl rfl) (.inl (by kernel_rfl)) (fun _ => ?_)
      refine Wd.nil ?_
      refine hK5 _ _ _ ?_
      refine W.pick (LL' := [g19.seg 161 (mm prM Z17), [cb tb [Value.slice g19.a Z17.length g19.cap, Value.int .i64 most, Value.func (.func 52) #[] #[]] 151]]) [0, 3] (by decide) rfl ?_
      refine W.prune' [] [] (by kernel_rfl) (fun f24 => ?_)
      refine W.seq (fun K25 hK25 => ?_)
      refine W.region ?_
      refine Wl.run 1 (by kernel_rfl) ?_
      refine Wl.nil ?_
      refine hK25 _ _ _ ?_
      refine W.ret ?_
      have hB : putX ordM most xs k v = Z17 := by unfold putX; rw [h9]; simp only [cond_true, cond_false]; rw [h15]; simp only [cond_true, cond_false]; rw [put_not h9]; exact hZ18
      show ∀ w_, _ → bodyPostM (fence none) 0 Try.prog Try.f91 _ Exit.ret _ w_
      exact fun w_ hS_ => fin_ret (ret1 rfl (RV.tmp (v := Value.int .i64 0) (by kernel_rfl)) hS_ ⟨g19, (by rw [hB]; exact ok20), congrArg Ending.returned ((by unfold putR; simp only [h9, h15, cond_true, cond_false])), (Mem.cast (by rw [hB]; rfl) (hS_.pick [0, 1] (by decide) rfl))⟩)

theorem dropM_c (xs : List ((Int × Int × Int) × (Ent))) (g : FS) (most : Int) (tb : Nat) (M : List Nat) (k : Int × Int × Int) (w : World) (hl : Mem w M [g.seg 161 (mm prM xs), [cb tb [Value.slice g.a xs.length g.cap, Value.int .i64 most, Value.func (.func 52) #[] #[]] 151]] w) (ok : g.ok 11 xs.length) (hn : xs.length ≤ 100000) (hs : Srt ordM xs) : Calls Try.prog 58 #[Value.pointer (some ⟨tb, 0, none⟩), Value.agg ([Value.int .u8 k.1, Value.int .u16 k.2.1, Value.int .u32 k.2.2]).toArray] w (RetM w (fun g' : FS => g'.ok 11 (dropK xs k).length) (fun _ => Value.bool (hasK xs k)) M (fun g' => [g'.seg 161 (mm prM (dropK xs k)), [cb tb [.slice g'.a (dropK xs k).length g'.cap, .int .i64 most, Value.func (.func 52) #[] #[]] 151]])) := by
  refine calls_W (M := M) (LL := [g.seg 161 (mm prM xs), [cb tb [Value.slice g.a xs.length g.cap, Value.int .i64 most, Value.func (.func 52) #[] #[]] 151]]) (n := 26) Try.func58 rfl rfl (by simp) (hl) ?_
  refine W.seq (fun K1 hK1 => ?_)
  refine W.region ?_
  refine Wl.ht rfl (Ht.box (v := Value.agg ([Value.int .u8 k.1, Value.int .u16 k.2.1, Value.int .u32 k.2.2]).toArray) (cs := [Value.int .u8 k.1, Value.int .u16 k.2.1, Value.int .u32 k.2.2]) rfl rfl (by kernel_rfl) rfl) (fun p3 => ?_)
  refine Wl.run 1 (by kernel_rfl) ?_
  refine Wl.nil ?_
  refine hK1 _ _ _ ?_
  refine W.prune' [0, 3] [Value.pointer (some ⟨tb, 0, none⟩), Value.pointer (some ⟨p3, 0, none⟩)] (by kernel_rfl) (fun f2 => ?_)
  refine W.seq (fun K3 hK3 => ?_)
  refine W.region ?_
  refine Wl.run 1 (by kernel_rfl) ?_
  refine Wl.ys (v := Value.agg ([Value.int .u8 k.1, Value.int .u16 k.2.1, Value.int .u32 k.2.2]).toArray) rfl rfl (Ys.loadN (b := p3) (o' := 0) (i := 0) (j := 0) (cs := [Value.int .u8 k.1, Value.int .u16 k.2.1, Value.int .u32 k.2.2]) (vs := [Value.int .u8 k.1, Value.int .u16 k.2.1, Value.int .u32 k.2.2]) rfl (by kernel_rfl) Try.isAgg115 Try.sizeOf115 rfl rfl rfl rfl) ?_
  refine Wl.yc (v := Value.tuple #[Value.int .i64 ((posK ordM xs k : Nat) : Int), Value.bool (hasK xs k)]) rfl rfl (Yc.call (k := 92) (args := #[Value.pointer (some ⟨tb, 0, none⟩), Value.agg ([Value.int .u8 k.1, Value.int .u16 k.2.1, Value.int .u32 k.2.2]).toArray]) (fun _ => by kernel_rfl) (fun w_ hm_ => (findM_c xs g.a g.cap most tb k _ (At.lit0 (i := 2) (j := 0) (t := 151) (b := tb) hm_ rfl rfl) (FS.at (i := 1) (t := 161) hm_ rfl (FS.nil_cs ok (prM_zlen _))) (by first | omega | (simp; done)) hs))) ?_
  refine Wl.run 5 (by kernel_rfl) ?_
  refine Wl.nil ?_
  refine hK3 _ _ _ ?_
  refine W.pick (LL' := [g.seg 161 (mm prM xs), [cb tb [Value.slice g.a xs.length g.cap, Value.int .i64 most, Value.func (.func 52) #[] #[]] 151]]) [1, 2] (by decide) rfl ?_
  refine W.prune' [0, 5, 6] [Value.pointer (some ⟨tb, 0, none⟩), Value.int .i64 ((posK ordM xs k : Nat) : Int), Value.bool (hasK xs k)] (by kernel_rfl) (fun f4 => ?_)
  refine W.seq (fun K5 hK5 => ?_)
  refine W.seq (fun K6 hK6 => ?_)
  refine W.region ?_
  refine Wl.run 1 (by kernel_rfl) ?_
  refine Wl.nil ?_
  refine hK6 _ _ _ ?_
  refine W.cond (hasK xs k) (by kernel_rfl) (fun h7 => ?_) (fun h8 => ?_)
  · have hps_ := hasK_at dM hs h7
    refine W.region ?_
    refine Wl.run 4 (by kernel_rfl) ?_
    refine Wl.ys (v := Value.slice g.a xs.length g.cap) rfl rfl (Ys.load (b := tb) (o' := 0) (i := 1) (j := 0) (cs := [Value.slice g.a xs.length g.cap, Value.int .i64 most, Value.func (.func 52) #[] #[]]) (v := Value.slice g.a xs.length g.cap) rfl (by kernel_rfl) Try.isAgg149 rfl rfl rfl) ?_
    refine Wl.run 2 (by kernel_rfl) ?_
    refine Wl.ys (v := Value.int .i64 (((posK ordM xs k) + 1 : Nat) : Int)) rfl rfl ((Ys.pure (v := .int .i64 (iadd .i64 ((posK ordM xs k : Nat) : Int) 1)) (fun _ => by kernel_rfl)).conseq (int_congr (iadd_eq (by omega) (by omega) (by omega)))) ?_
    obtain ⟨Z9, hZ10⟩ : ∃ Z, xs.take (posK ordM xs k) ++ xs.drop ((posK ordM xs k) + 1) = Z := ⟨_, rfl⟩
    refine Wl.htS rfl (HtS.call (β := FS) (k := 93) (args := #[Value.slice g.a xs.length g.cap, Value.int .i64 ((posK ordM xs k : Nat) : Int), Value.int .i64 (((posK ordM xs k) + 1 : Nat) : Int)]) (Lin := [g.seg 161 (mm prM xs)]) (Lk := [[cb tb [Value.slice g.a xs.length g.cap, Value.int .i64 most, Value.func (.func 52) #[] #[]] 151]]) (Lo := fun g11 => [g11.seg 161 (mm prM Z9), [cb tb [Value.slice g.a xs.length g.cap, Value.int .i64 most, Value.func (.func 52) #[] #[]] 151]]) [0] [1] rfl (fun _ => by kernel_rfl) (by decide) rfl rfl rfl (fun w_ hm_ hl_ => (delxM_c g xs Z9 (posK ordM xs k) _ _ hZ10 hl_ ok hps_.1 (by omega))) (fun _ => rfl)) (fun g11 hx15 => ?_)
    obtain ⟨ok12, nn13⟩ := hx15
    refine Wl.run 2 (by kernel_rfl) ?_
    refine Wl.ht rfl (Ht.store (b := tb) (o' := 0) (i := 1) (j := 0) (cs := [Value.slice g.a xs.length g.cap, Value.int .i64 most, Value.func (.func 52) #[] #[]]) (cs' := [Value.slice g11.a Z9.length g11.cap, Value.int .i64 most, Value.func (.func 52) #[] #[]]) (v := Value.slice g11.a Z9.length g11.cap) (LL' := [g11.seg 161 (mm prM Z9), [cb tb [Value.slice g11.a Z9.length g11.cap, Value.int .i64 most, Value.func (.func 52) #[] #[]] 151]]) rfl rfl (by kernel_rfl) (by kernel_rfl) Try.sizeOf149 rfl rfl rfl (by simp) rfl rfl) (fun _ => ?_)
    refine Wl.nil ?_
    refine hK5 _ _ _ ?_
    refine W.prune' [6] [Value.bool (hasK xs k)] (by kernel_rfl) (fun f16 => ?_)
    refine W.seq (fun K17 hK17 => ?_)
    refine W.region ?_
    refine Wl.run 2 (by kernel_rfl) ?_
    refine Wl.nil ?_
    refine hK17 _ _ _ ?_
    refine W.prune' [4] [Value.bool (hasK xs k)] (by kernel_rfl) (fun f18 => ?_)
    refine W.ret ?_
    have hB : dropK xs k = Z9 := by rw [drop_has hs h7]; exact hZ10
    show ∀ w_, _ → bodyPostM (fence none) 0 Try.prog Try.f58 _ Exit.ret _ w_
    exact fun w_ hS_ => fin_ret (ret1 rfl (RV.tmp (v := Value.bool (hasK xs k)) (by kernel_rfl)) hS_ ⟨g11, (by rw [hB]; exact ok12), congrArg Ending.returned ((by rw [h7])), (Mem.cast (by rw [hB]; rfl) (hS_.pick [0, 1] (by decide) rfl))⟩)
  · refine W.skip' ?_
    refine hK5 _ _ _ ?_
    refine W.prune' [6] [Value.bool (hasK xs k)] (by kernel_rfl) (fun f19 => ?_)
    refine W.seq (fun K20 hK20 => ?_)
    refine W.region ?_
    refine Wl.run 2 (by kernel_rfl) ?_
    refine Wl.nil ?_
    refine hK20 _ _ _ ?_
    refine W.prune' [4] [Value.bool (hasK xs k)] (by kernel_rfl) (fun f21 => ?_)
    refine W.ret ?_
    have hB : dropK xs k = xs := by exact drop_not h8
    show ∀ w_, _ → bodyPostM (fence none) 0 Try.prog Try.f58 _ Exit.ret _ w_
    exact fun w_ hS_ => fin_ret (ret1 rfl (RV.tmp (v := Value.bool (hasK xs k)) (by kernel_rfl)) hS_ ⟨g, (by rw [hB]; exact ok), congrArg Ending.returned ((by rw [h8])), (Mem.cast (by rw [hB]; rfl) (hS_.pick [0, 1] (by decide) rfl))⟩)

end Go.Proofs.Ytjkhmbigoloeiaa.Oct
