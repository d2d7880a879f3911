/-
  Packets of one host. No condition.
-/
import Derived.Test.YtjkhmbigoloeiaaNk5
set_option linter.unusedVariables false
set_option linter.unusedSimpArgs false
set_option maxRecDepth 20000
namespace Go.Proofs.Ytjkhmbigoloeiaa.Oct
open Go.RowKit Base
attribute [local irreducible] Ys Yc Ht HtS HtIn Wl Wd W Mem pf dpf Wa Wo

theorem learn1_c (x : Hd) (ys : List Pk) (g : FS) (a : Int) (pa po : Nat) (M : List Nat) (w : World) (hl : Mem w M [g.seg 47 (mm pk ys), [cb po [Value.slice g.a ys.length g.cap] 36], [cb pa [Value.int .u32 a] 25]] w) (okg : g.ok 6 ys.length) (hy : ys.length ≤ 1000) (hxa : x.dst = a) : Calls Try.prog 47 #[Value.agg ([Value.int .u8 0, Value.int .u8 0, Value.int .u16 x.id, Value.int .u32 0, Value.int .u32 x.dst, Value.slice none 0 0, Value.int .u64 x.came]).toArray, Value.pointer (some ⟨pa, 0, none⟩), Value.pointer (some ⟨po, 0, none⟩)] w (RetM w (fun g' : FS => g'.ok 6 (ys ++ [x.pk]).length) (fun _ => .bool true) M (fun g' => [g'.seg 47 (mm pk (ys ++ [x.pk])), [cb po [.slice g'.a (ys ++ [x.pk]).length g'.cap] 36], [cb pa [Value.int .u32 a] 25]])) := by
  refine calls_W (M := M) (LL := [g.seg 47 (mm pk ys), [cb po [Value.slice g.a ys.length g.cap] 36], [cb pa [Value.int .u32 a] 25]]) (n := 20) Try.func47 rfl rfl (by simp) (hl) ?_
  refine W.seq (fun K1 hK1 => ?_)
  refine W.region ?_
  refine Wl.ht rfl (Ht.box (v := Value.agg ([Value.int .u8 0, Value.int .u8 0, Value.int .u16 x.id, Value.int .u32 0, Value.int .u32 x.dst, Value.slice none 0 0, Value.int .u64 x.came]).toArray) (cs := [Value.int .u8 0, Value.int .u8 0, Value.int .u16 x.id, Value.int .u32 0, Value.int .u32 x.dst, Value.slice none 0 0, Value.int .u64 x.came]) rfl rfl (by kernel_rfl) rfl) (fun p3 => ?_)
  refine Wl.run 1 (by kernel_rfl) ?_
  refine Wl.nil ?_
  refine hK1 _ _ _ ?_
  refine W.prune' [1, 2, 3] [Value.pointer (some ⟨pa, 0, none⟩), Value.pointer (some ⟨po, 0, none⟩), Value.pointer (some ⟨p3, 0, none⟩)] (by kernel_rfl) (fun f2 => ?_)
  refine W.seq (fun K3 hK3 => ?_)
  refine W.seq (fun K4 hK4 => ?_)
  refine W.region ?_
  refine Wl.run 2 (by kernel_rfl) ?_
  refine Wl.ys (v := Value.int .u32 x.dst) rfl rfl (Ys.load (b := p3) (o' := 4) (i := 0) (j := 0) (cs := [Value.int .u8 0, Value.int .u8 0, Value.int .u16 x.id, Value.int .u32 0, Value.int .u32 x.dst, Value.slice none 0 0, Value.int .u64 x.came]) (v := Value.int .u32 x.dst) rfl (by kernel_rfl) Try.isAgg25 rfl rfl rfl) ?_
  refine Wl.ys (v := Value.int .u32 a) rfl rfl (Ys.load (b := pa) (o' := 0) (i := 3) (j := 0) (cs := [Value.int .u32 a]) (v := Value.int .u32 a) rfl (by kernel_rfl) Try.isAgg25 rfl rfl rfl) ?_
  refine Wl.ys (v := Value.bool true) rfl rfl ((Ys.pure (v := Value.bool (x.dst == a)) (fun _ => by kernel_rfl)).conseq (bool_congr ((beq_iff_eq.2 hxa)))) ?_
  refine Wl.nil ?_
  refine hK4 _ _ _ ?_
  refine W.prune' [1, 2, 3, 9] [Value.pointer (some ⟨pa, 0, none⟩), Value.pointer (some ⟨po, 0, none⟩), Value.pointer (some ⟨p3, 0, none⟩), Value.bool true] (by kernel_rfl) (fun f5 => ?_)
  refine W.condT (by kernel_rfl) ?_
  refine W.region ?_
  refine Wl.ys (v := Value.slice g.a ys.length g.cap) rfl rfl (Ys.load (b := po) (o' := 0) (i := 2) (j := 0) (cs := [Value.slice g.a ys.length g.cap]) (v := Value.slice g.a ys.length g.cap) rfl (by kernel_rfl) Try.isAgg36 rfl rfl rfl) ?_
  refine Wl.run 1 (by kernel_rfl) ?_
  refine Wl.ys (v := Value.agg ([Value.int .u8 0, Value.int .u8 0, Value.int .u16 x.id, Value.int .u32 0, Value.int .u32 x.dst, Value.slice none 0 0]).toArray) rfl rfl (Ys.loadN (b := p3) (o' := 0) (i := 0) (j := 0) (cs := [Value.int .u8 0, Value.int .u8 0, Value.int .u16 x.id, Value.int .u32 0, Value.int .u32 x.dst, Value.slice none 0 0, Value.int .u64 x.came]) (vs := [Value.int .u8 0, Value.int .u8 0, Value.int .u16 x.id, Value.int .u32 0, Value.int .u32 x.dst, Value.slice none 0 0]) rfl (by kernel_rfl) Try.isAgg47 Try.sizeOf47 rfl rfl rfl rfl) ?_
  refine Wl.ht rfl (Ht.made (mk := fun b_ => .slice (some ⟨b_, 0, none⟩) 1 1) (t := 47) (cs := [Value.int .u8 0, Value.int .u8 0, Value.int .u16 x.id, Value.int .u32 0, Value.int .u32 x.dst, Value.slice none 0 0]) rfl (fun _ => by kernel_rfl)) (fun p13 => ?_)
  refine Wl.htS rfl (HtS.append (eu := 47) (xv := Value.slice (some ⟨p13, 0, none⟩) 1 1) (i := 2) (g := g) (e := 47) (ii := (Try.prog.info? 47).getD default) (z := Value.agg ([Value.int .u8 0, Value.int .u8 0, Value.int .u16 0, Value.int .u32 0, Value.int .u32 0, Value.slice none 0 0]).toArray) (sz := 6) (bytes := 40) (nn := ys.length) (m := 1) (k := (ys ++ [Hd.pk x]).length) (xs := mm pk ys) (news := mm pk [Hd.pk x]) (cs' := mm pk (ys ++ [Hd.pk x])) (Lo := fun g6 => [[cb p13 [Value.int .u8 0, Value.int .u8 0, Value.int .u16 x.id, Value.int .u32 0, Value.int .u32 x.dst, Value.slice none 0 0] 47], [cb p3 [Value.int .u8 0, Value.int .u8 0, Value.int .u16 x.id, Value.int .u32 0, Value.int .u32 x.dst, Value.slice none 0 0, Value.int .u64 x.came] 101], g6.seg 47 (mm pk (ys ++ [Hd.pk x])), [cb po [Value.slice g.a ys.length g.cap] 36], [cb pa [Value.int .u32 a] 25]]) rfl rfl (by kernel_rfl) (by kernel_rfl) (by kernel_rfl) (by kernel_rfl) (by kernel_rfl) (by kernel_rfl) (by kernel_rfl) (by kernel_rfl) (by kernel_rfl) rfl okg (pk_zlen _) (fun _ => rfl) (Src.at (a := some ⟨p13, 0, none⟩) (by first | rfl | (rw [mm_len (g := pk) (sz := 6) (fun _ => rfl)]; done) | (rw [mm_len (g := pk) (sz := 6) (fun _ => rfl)]; simp)) (fun w_ h_ => (At.lit0 (i := 0) (j := 0) (t := 47) (b := p13) h_ rfl rfl))) (by first | rfl | (rw [mm_len (g := pk) (sz := 6) (fun _ => rfl)]; done) | (rw [mm_len (g := pk) (sz := 6) (fun _ => rfl)]; simp)) (mm_one pk_one _) (by first | omega | (simp; done) | (simp; omega)) (by simp only [maxLen]; first | omega | (simp; done) | (simp; omega)) (by first | omega | (simp; done) | (simp; omega)) (mm_app _ _).symm (fun _ => rfl)) (fun g6 hx11 => ?_)
  obtain ⟨ok7, hn8, hn9⟩ := hx11
  refine Wl.ht rfl (Ht.store (b := po) (o' := 0) (i := 3) (j := 0) (cs := [Value.slice g.a ys.length g.cap]) (cs' := [Value.slice g6.a ((ys ++ [Hd.pk x]).length) g6.cap]) (v := Value.slice g6.a ((ys ++ [Hd.pk x]).length) g6.cap) (LL' := [[cb p13 [Value.int .u8 0, Value.int .u8 0, Value.int .u16 x.id, Value.int .u32 0, Value.int .u32 x.dst, Value.slice none 0 0] 47], [cb p3 [Value.int .u8 0, Value.int .u8 0, Value.int .u16 x.id, Value.int .u32 0, Value.int .u32 x.dst, Value.slice none 0 0, Value.int .u64 x.came] 101], g6.seg 47 (mm pk (ys ++ [Hd.pk x])), [cb po [Value.slice g6.a ((ys ++ [Hd.pk x]).length) g6.cap] 36], [cb pa [Value.int .u32 a] 25]]) rfl rfl (by kernel_rfl) (by kernel_rfl) Try.sizeOf36 rfl rfl rfl (by simp) rfl rfl) (fun _ => ?_)
  refine Wl.nil ?_
  refine hK3 _ _ _ ?_
  refine W.pick (LL' := [[cb p3 [Value.int .u8 0, Value.int .u8 0, Value.int .u16 x.id, Value.int .u32 0, Value.int .u32 x.dst, Value.slice none 0 0, Value.int .u64 x.came] 101], g6.seg 47 (mm pk (ys ++ [Hd.pk x])), [cb po [Value.slice g6.a ((ys ++ [Hd.pk x]).length) g6.cap] 36], [cb pa [Value.int .u32 a] 25]]) [1, 2, 3, 4] (by decide) rfl ?_
  refine W.prune' [1, 3] [Value.pointer (some ⟨pa, 0, none⟩), Value.pointer (some ⟨p3, 0, none⟩)] (by kernel_rfl) (fun f12 => ?_)
  refine W.seq (fun K13 hK13 => ?_)
  refine W.region ?_
  refine Wl.run 2 (by kernel_rfl) ?_
  refine Wl.ys (v := Value.int .u32 x.dst) rfl rfl (Ys.load (b := p3) (o' := 4) (i := 0) (j := 0) (cs := [Value.int .u8 0, Value.int .u8 0, Value.int .u16 x.id, Value.int .u32 0, Value.int .u32 x.dst, Value.slice none 0 0, Value.int .u64 x.came]) (v := Value.int .u32 x.dst) rfl (by kernel_rfl) Try.isAgg25 rfl rfl rfl) ?_
  refine Wl.ys (v := Value.int .u32 a) rfl rfl (Ys.load (b := pa) (o' := 0) (i := 3) (j := 0) (cs := [Value.int .u32 a]) (v := Value.int .u32 a) rfl (by kernel_rfl) Try.isAgg25 rfl rfl rfl) ?_
  refine Wl.ys (v := Value.bool true) rfl rfl ((Ys.pure (v := Value.bool (x.dst == a)) (fun _ => by kernel_rfl)).conseq (bool_congr ((beq_iff_eq.2 hxa)))) ?_
  refine Wl.run 1 (by kernel_rfl) ?_
  refine Wl.nil ?_
  refine hK13 _ _ _ ?_
  refine W.pick (LL' := [g6.seg 47 (mm pk (ys ++ [Hd.pk x])), [cb po [Value.slice g6.a ((ys ++ [Hd.pk x]).length) g6.cap] 36], [cb pa [Value.int .u32 a] 25]]) [1, 2, 3] (by decide) rfl ?_
  refine W.prune' [4] [Value.bool true] (by kernel_rfl) (fun f14 => ?_)
  refine W.ret ?_
  show ∀ w_, _ → bodyPostM (fence none) 0 Try.prog Try.f47 _ Exit.ret _ w_
  exact fun w_ hS_ => fin_ret (ret1 rfl (RV.tmp (v := Value.bool true) (by kernel_rfl)) hS_ ⟨g6, ok7, rfl, (hS_.pick [0, 1, 2] (by decide) rfl)⟩)

theorem getD_memH {xs : List Hd} {i : Nat} (h : i < xs.length) : xs.getD i hd0 ∈ xs := by
  rw [List.getD_eq_getElem?_getD, List.getElem?_eq_getElem h]; exact List.getElem_mem h
theorem take_map {xs : List Hd} {i : Nat} (h : i < xs.length) : (xs.take i).map Hd.pk ++ [(xs.getD i hd0).pk] = (xs.take (i + 1)).map Hd.pk := by
  rw [List.take_add_one, List.map_append]
  congr 1
  simp [h]
theorem ixLearn_c (xs : List Hd) (ax : Option Addr) (cap : Nat) (ys : List Pk) (g : FS) (a : Int) (pa po : Nat) (M : List Nat) (w : World) (hl : Mem w M [g.seg 47 (mm pk ys), [cb po [Value.slice g.a ys.length g.cap] 36], [cb pa [Value.int .u32 a] 25]] w) (okg : g.ok 6 ys.length) (hy : ys.length ≤ 1000) (hls : At w ax (mm hd xs)) (hne : 0 < (mm hd xs).length → (ax.getD default).block ∉ M) (hn : xs.length ≤ 1000) (hall : ∀ x ∈ xs, x.dst = a) : Calls Try.prog 79 #[Value.slice ax xs.length cap, Value.func (.func 47) #[] #[Value.pointer (some ⟨pa, 0, none⟩), Value.pointer (some ⟨po, 0, none⟩)]] w (RetM w (fun g' : FS => g'.ok 6 (ys ++ (xs.take 1).map Hd.pk).length) (fun _ => .int .i64 (bif xs.isEmpty then -1 else 0)) M (fun g' => [g'.seg 47 (mm pk (ys ++ (xs.take 1).map Hd.pk)), [cb po [.slice g'.a (ys ++ (xs.take 1).map Hd.pk).length g'.cap] 36], [cb pa [Value.int .u32 a] 25]])) := by
  refine calls_W (M := M) (LL := [g.seg 47 (mm pk ys), [cb po [Value.slice g.a ys.length g.cap] 36], [cb pa [Value.int .u32 a] 25]]) (n := 19) Try.func79 rfl rfl (by simp) (hl) ?_
  refine W.seq (fun K1 hK1 => ?_)
  refine W.region ?_
  refine Wl.run 1 (by kernel_rfl) ?_
  refine Wl.nil ?_
  refine hK1 _ _ _ ?_
  refine W.seq (fun K2 hK2 => ?_)
  refine W.seq (fun K3 hK3 => ?_)
  refine W.region ?_
  refine Wl.run 3 (by kernel_rfl) ?_
  refine Wl.nil ?_
  refine hK3 _ _ _ ?_
  refine W.prune' [0, 1, 7, 8] [Value.slice ax xs.length cap, Value.func (.func 47) #[] #[Value.pointer (some ⟨pa, 0, none⟩), Value.pointer (some ⟨po, 0, none⟩)], Value.int .i64 ((xs.length : Nat) : Int), Value.int .i64 0] (by kernel_rfl) (fun f4 => ?_)
  refine W.block ?_
  refine W.loop1 [0, 1, 7, 8] (fun (k : Nat) => [Value.slice ax xs.length cap, Value.func (.func 47) #[] #[Value.pointer (some ⟨pa, 0, none⟩), Value.pointer (some ⟨po, 0, none⟩)], Value.int .i64 ((xs.length : Nat) : Int), Value.int .i64 ((k : Nat) : Int)]) (fun (k : Nat) => k = 0) (fun (k : Nat) => [g.seg 47 (mm pk ys), [cb po [Value.slice g.a ys.length g.cap] 36], [cb pa [Value.int .u32 a] 25]]) (fun (k : Nat) => xs.length - k) 0 (by kernel_rfl) rfl (by rfl) (fun k f6 J5 hp7 hJ5 => ?_)
  have hk := hp7
  refine W.seq (fun K8 hK8 => ?_)
  refine W.region ?_
  refine Wl.run 1 (by kernel_rfl) ?_
  refine Wl.nil ?_
  refine hK8 _ _ _ ?_
  refine W.seq (fun K9 hK9 => ?_)
  refine W.cond (decide (((k : Nat) : Int) < ((xs.length : Nat) : Int))) (by kernel_rfl) (fun h10 => ?_) (fun h11 => ?_)
  · have qh10 := h10; try simp only [Bool.and_eq_true, Bool.or_eq_true, Bool.not_eq_true', Bool.not_eq_false', Bool.and_eq_false_iff, Bool.or_eq_false_iff, decide_eq_true_eq, decide_eq_false_iff_not, beq_iff_eq, bne_iff_ne, beq_eq_false_iff_ne, bne_eq_false_iff_eq] at qh10
    refine W.skip' ?_
    refine hK9 _ _ _ ?_
    refine W.prune' [0, 1, 7, 8] [Value.slice ax xs.length cap, Value.func (.func 47) #[] #[Value.pointer (some ⟨pa, 0, none⟩), Value.pointer (some ⟨po, 0, none⟩)], Value.int .i64 ((xs.length : Nat) : Int), Value.int .i64 ((k : Nat) : Int)] (by kernel_rfl) (fun f12 => ?_)
    refine W.seq (fun K13 hK13 => ?_)
    refine W.block ?_
    refine W.seq (fun K14 hK14 => ?_)
    refine W.region ?_
    refine Wl.run 2 (by kernel_rfl) ?_
    refine Wl.nil ?_
    refine hK14 _ _ _ ?_
    refine W.prune' [0, 1, 5, 7, 8] [Value.slice ax xs.length cap, Value.func (.func 47) #[] #[Value.pointer (some ⟨pa, 0, none⟩), Value.pointer (some ⟨po, 0, none⟩)], Value.int .i64 ((k : Nat) : Int), Value.int .i64 ((xs.length : Nat) : Int), Value.int .i64 ((k : Nat) : Int)] (by kernel_rfl) (fun f15 => ?_)
    refine W.seq (fun K16 hK16 => ?_)
    refine W.region ?_
    refine Wl.run 3 (by kernel_rfl) ?_
    refine Wl.ys (v := Value.pointer (some (ela ax (k * 7)))) rfl rfl (Ys.byMem fun w_ h_ => Ys.indexAddr (k := .i64) (a := ax) (len := xs.length) (cap := cap) (i := ((k : Nat) : Int)) (sz := 7) rfl (by kernel_rfl) (by kernel_rfl) Try.runUnderlying94 Try.sizeOf101 (by omega) (by omega) ((hls.mem' h_ hne).here (by rw [mm_len (g := hd) (sz := 7) (fun _ => rfl)]; first | omega | (simp; omega)))) ?_
    refine Wl.ys (v := Value.agg ([Value.int .u8 0, Value.int .u8 0, Value.int .u16 ((xs.getD k hd0).id), Value.int .u32 0, Value.int .u32 ((xs.getD k hd0).dst), Value.slice none 0 0, Value.int .u64 ((xs.getD k hd0).came)]).toArray) rfl rfl (Ys.ldN (a := ela ax (k * 7)) (vs := [Value.int .u8 0, Value.int .u8 0, Value.int .u16 ((xs.getD k hd0).id), Value.int .u32 0, Value.int .u32 ((xs.getD k hd0).dst), Value.slice none 0 0, Value.int .u64 ((xs.getD k hd0).came)]) rfl (by kernel_rfl) Try.isAgg101 Try.sizeOf101 rfl (fun w_ h_ => (hls.mem' h_ hne).ldN (mm_get (g := hd) (sz := 7) (fun _ => rfl) hd0 (xs := xs) (k := k) (by omega)))) ?_
    refine Wl.htS rfl (HtS.call (β := FS) (k := 47) (args := #[Value.agg ([Value.int .u8 0, Value.int .u8 0, Value.int .u16 ((xs.getD k hd0).id), Value.int .u32 0, Value.int .u32 ((xs.getD k hd0).dst), Value.slice none 0 0, Value.int .u64 ((xs.getD k hd0).came)]).toArray, Value.pointer (some ⟨pa, 0, none⟩), Value.pointer (some ⟨po, 0, none⟩)]) (Lin := [g.seg 47 (mm pk ys), [cb po [Value.slice g.a ys.length g.cap] 36], [cb pa [Value.int .u32 a] 25]]) (Lk := []) (Lo := fun g17 => [g17.seg 47 (mm pk (ys ++ [Hd.pk (xs.getD k hd0)])), [cb po [Value.slice g17.a ((ys ++ [Hd.pk (xs.getD k hd0)]).length) g17.cap] 36], [cb pa [Value.int .u32 a] 25]]) [0, 1, 2] [] rfl (fun _ => by kernel_rfl) (by decide) rfl rfl rfl (fun w_ hm_ hl_ => (learn1_c (xs.getD k hd0) ys g a pa po _ _ hl_ okg (by first | omega | (simp; omega)) (hall _ (getD_memH (by omega))))) (fun _ => rfl)) (fun g17 ok18 => ?_)
    refine Wl.nil ?_
    refine hK16 _ _ _ ?_
    refine W.prune' [0, 1, 5, 7, 8, 16] [Value.slice ax xs.length cap, Value.func (.func 47) #[] #[Value.pointer (some ⟨pa, 0, none⟩), Value.pointer (some ⟨po, 0, none⟩)], Value.int .i64 ((k : Nat) : Int), Value.int .i64 ((xs.length : Nat) : Int), Value.int .i64 ((k : Nat) : Int), Value.bool true] (by kernel_rfl) (fun f20 => ?_)
    refine W.condT (by kernel_rfl) ?_
    refine W.seq (fun K21 hK21 => ?_)
    refine W.region ?_
    refine Wl.run 2 (by kernel_rfl) ?_
    refine Wl.nil ?_
    refine hK21 _ _ _ ?_
    refine W.prune' [4] [Value.int .i64 ((k : Nat) : Int)] (by kernel_rfl) (fun f22 => ?_)
    refine W.ret ?_
    have hB : (xs.take 1).map Hd.pk = [(xs.getD k hd0).pk] := by subst hk; rw [← take_map (xs := xs) (i := 0) (by omega)]; rfl
    have hE : xs.isEmpty = false := by cases xs with | nil => (exfalso; have z_ := qh10; simp only [List.length_nil] at z_; omega) | cons x l => rfl
    show ∀ w_, _ → bodyPostM (fence none) 0 Try.prog Try.f79 _ Exit.ret _ w_
    exact fun w_ hS_ => fin_ret (ret1 rfl (RV.tmp (v := Value.int .i64 ((k : Nat) : Int)) (by kernel_rfl)) hS_ ⟨g17, (by rw [hB]; exact ok18), congrArg Ending.returned ((by rw [hE, hk]; try rfl)), (Mem.cast (LL := [g17.seg 47 (mm pk (ys ++ [Hd.pk (xs.getD k hd0)])), [cb po [Value.slice g17.a ((ys ++ [Hd.pk (xs.getD k hd0)]).length) g17.cap] 36], [cb pa [Value.int .u32 a] 25]]) (by rw [hB]; try rfl) (hS_.pick [0, 1, 2] (by decide) rfl))⟩)
  · have qh11 := h11; try simp only [Bool.and_eq_true, Bool.or_eq_true, Bool.not_eq_true', Bool.not_eq_false', Bool.and_eq_false_iff, Bool.or_eq_false_iff, decide_eq_true_eq, decide_eq_false_iff_not, beq_iff_eq, bne_iff_ne, beq_eq_false_iff_ne, bne_eq_false_iff_eq] at qh11
    refine W.exit ?_
    refine hK2 _ _ _ ?_
    refine W.prune' [] [] (by kernel_rfl) (fun f23 => ?_)
    refine W.seq (fun K24 hK24 => ?_)
    refine W.region ?_
    refine Wl.run 1 (by kernel_rfl) ?_
    refine Wl.nil ?_
    refine hK24 _ _ _ ?_
    refine W.ret ?_
    obtain rfl : xs = [] := List.length_eq_zero_iff.1 (by omega)
    show ∀ w_, _ → bodyPostM (fence none) 0 Try.prog Try.f79 _ Exit.ret _ w_
    exact fun w_ hS_ => fin_ret (ret1 rfl (RV.tmp (v := Value.int .i64 (-1)) (by kernel_rfl)) hS_ ⟨g, (by simpa using okg), rfl, (Mem.cast (LL := [g.seg 47 (mm pk ys), [cb po [Value.slice g.a ys.length g.cap] 36], [cb pa [Value.int .u32 a] 25]]) (by simp) (hS_.pick [0, 1, 2] (by decide) rfl))⟩)

theorem delLearn_c (xs : List Hd) (h : FS) (ys : List Pk) (g : FS) (a : Int) (pa po : Nat) (M : List Nat) (w : World) (hl : Mem w M [h.seg 101 (mm hd xs), g.seg 47 (mm pk ys), [cb po [Value.slice g.a ys.length g.cap] 36], [cb pa [Value.int .u32 a] 25]] w) (okg : g.ok 6 ys.length) (okh : h.ok 7 xs.length) (hy : ys.length ≤ 500) (hn : xs.length ≤ 500) (hall : ∀ x ∈ xs, x.dst = a) : Calls Try.prog 46 #[Value.slice h.a xs.length h.cap, Value.func (.func 47) #[] #[Value.pointer (some ⟨pa, 0, none⟩), Value.pointer (some ⟨po, 0, none⟩)]] w (RetM w (fun q : FS × FS => q.1.ok 7 0 ∧ q.2.ok 6 (ys ++ xs.map Hd.pk).length) (fun q => .slice q.1.a 0 q.1.cap) M (fun q => [q.1.seg 101 (mm hd []), q.2.seg 47 (mm pk (ys ++ xs.map Hd.pk)), [cb po [.slice q.2.a (ys ++ xs.map Hd.pk).length q.2.cap] 36], [cb pa [Value.int .u32 a] 25]])) := by
  refine calls_W (M := M) (LL := [h.seg 101 (mm hd xs), g.seg 47 (mm pk ys), [cb po [Value.slice g.a ys.length g.cap] 36], [cb pa [Value.int .u32 a] 25]]) (n := 42) Try.func46 rfl rfl (by simp) (hl) ?_
  refine W.seq (fun K1 hK1 => ?_)
  refine W.region ?_
  refine Wl.run 1 (by kernel_rfl) ?_
  refine Wl.nil ?_
  refine hK1 _ _ _ ?_
  refine W.seq (fun K2 hK2 => ?_)
  refine W.region ?_
  refine Wl.run 2 (by kernel_rfl) ?_
  refine Wl.htS rfl (HtS.call (β := FS) (k := 79) (args := #[Value.slice h.a xs.length h.cap, Value.func (.func 47) #[] #[Value.pointer (some ⟨pa, 0, none⟩), Value.pointer (some ⟨po, 0, none⟩)]]) (Lin := [g.seg 47 (mm pk ys), [cb po [Value.slice g.a ys.length g.cap] 36], [cb pa [Value.int .u32 a] 25]]) (Lk := [h.seg 101 (mm hd xs)]) (Lo := fun g3 => [g3.seg 47 (mm pk (ys ++ (xs.take 1).map Hd.pk)), [cb po [Value.slice g3.a ((ys ++ (xs.take 1).map Hd.pk).length) g3.cap] 36], [cb pa [Value.int .u32 a] 25], h.seg 101 (mm hd xs)]) [1, 2, 3] [0] rfl (fun _ => by kernel_rfl) (by decide) rfl rfl rfl (fun w_ hm_ hl_ => (ixLearn_c xs h.a h.cap ys g a pa po _ _ hl_ okg (by first | omega | (simp; omega)) (FS.at (i := 0) (t := 101) hm_ rfl (FS.nil_cs okh (hd_zlen _))) (fun h0 => FS.other hm_ [1, 2, 3] 0 (by decide) rfl okh (hd_zlen _) rfl h0) (by omega) hall)) (fun _ => rfl)) (fun g3 ok4 => ?_)
  refine Wl.run 1 (by kernel_rfl) ?_
  refine Wl.nil ?_
  refine hK2 _ _ _ ?_
  refine W.prune' [0, 1, 5] [Value.slice h.a xs.length h.cap, Value.func (.func 47) #[] #[Value.pointer (some ⟨pa, 0, none⟩), Value.pointer (some ⟨po, 0, none⟩)], Value.int .i64 (bif xs.isEmpty then -1 else 0)] (by kernel_rfl) (fun f6 => ?_)
  refine W.seq (fun K7 hK7 => ?_)
  refine W.seq (fun K8 hK8 => ?_)
  refine W.region ?_
  refine Wl.run 2 (by kernel_rfl) ?_
  refine Wl.nil ?_
  refine hK8 _ _ _ ?_
  refine W.prune' [0, 1, 5, 12] [Value.slice h.a xs.length h.cap, Value.func (.func 47) #[] #[Value.pointer (some ⟨pa, 0, none⟩), Value.pointer (some ⟨po, 0, none⟩)], Value.int .i64 (bif xs.isEmpty then -1 else 0), Value.bool ((bif xs.isEmpty then -1 else 0) == (-1))] (by kernel_rfl) (fun f9 => ?_)
  refine W.cond ((bif xs.isEmpty then -1 else 0) == (-1)) (by kernel_rfl) (fun h10 => ?_) (fun h11 => ?_)
  · have qh10 := h10; try simp only [Bool.and_eq_true, Bool.or_eq_true, Bool.not_eq_true', Bool.not_eq_false', Bool.and_eq_false_iff, Bool.or_eq_false_iff, decide_eq_true_eq, decide_eq_false_iff_not, beq_iff_eq, bne_iff_ne, beq_eq_false_iff_ne, bne_eq_false_iff_eq] at qh10
    refine W.seq (fun K12 hK12 => ?_)
    refine W.region ?_
    refine Wl.run 2 (by kernel_rfl) ?_
    refine Wl.nil ?_
    refine hK12 _ _ _ ?_
    refine W.prune' [4] [Value.slice h.a xs.length h.cap] (by kernel_rfl) (fun f13 => ?_)
    refine W.ret ?_
    have hx0 : xs = [] := by cases xs with | nil => rfl | cons x l => (exfalso; cases h10)
    show ∀ w_, _ → bodyPostM (fence none) 0 Try.prog Try.f46 _ Exit.ret _ w_
    exact fun w_ hS_ => fin_ret (ret1 rfl (RV.tmp (v := Value.slice h.a xs.length h.cap) (by kernel_rfl)) hS_ ⟨(h, g3), ⟨(by rw [hx0] at okh; exact okh), (by rw [hx0] at ok4; simpa [hx0] using ok4)⟩, congrArg Ending.returned ((by rw [hx0]; rfl)), (Mem.cast (LL := [h.seg 101 (mm hd xs), g3.seg 47 (mm pk (ys ++ (xs.take 1).map Hd.pk)), [cb po [Value.slice g3.a ((ys ++ (xs.take 1).map Hd.pk).length) g3.cap] 36], [cb pa [Value.int .u32 a] 25]]) (by simp [hx0]) (hS_.pick [3, 0, 1, 2] (by decide) rfl))⟩)
  · have qh11 := h11; try simp only [Bool.and_eq_true, Bool.or_eq_true, Bool.not_eq_true', Bool.not_eq_false', Bool.and_eq_false_iff, Bool.or_eq_false_iff, decide_eq_true_eq, decide_eq_false_iff_not, beq_iff_eq, bne_iff_ne, beq_eq_false_iff_ne, bne_eq_false_iff_eq] at qh11
    refine W.skip' ?_
    refine hK7 _ _ _ ?_
    refine W.prune' [0, 1, 5] [Value.slice h.a xs.length h.cap, Value.func (.func 47) #[] #[Value.pointer (some ⟨pa, 0, none⟩), Value.pointer (some ⟨po, 0, none⟩)], Value.int .i64 (bif xs.isEmpty then -1 else 0)] (by kernel_rfl) (fun f14 => ?_)
    refine W.seq (fun K15 hK15 => ?_)
    refine W.seq (fun K16 hK16 => ?_)
    have hE : xs.isEmpty = false := by cases hx_ : xs.isEmpty with | true => (exfalso; rw [hx_] at h11; cases h11) | false => rfl
    have h0_ : 0 < xs.length := by cases xs with | nil => (exfalso; cases hE) | cons x l => simp
    have hI_ : (bif xs.isEmpty then (-1 : Int) else 0) = 0 := by rw [hE]; rfl
    refine W.region ?_
    refine Wl.run 1 (by kernel_rfl) ?_
    refine Wl.ys (v := Value.int .i64 ((bif xs.isEmpty then -1 else 0) + 1)) rfl rfl ((Ys.pure (v := .int .i64 (iadd .i64 (bif xs.isEmpty then -1 else 0) 1)) (fun _ => by kernel_rfl)).conseq (int_congr (iadd_eq (by omega) (by omega) (by omega)))) ?_
    refine Wl.run 1 (by kernel_rfl) ?_
    refine Wl.nil ?_
    refine hK16 _ _ _ ?_
    refine W.prune' [0, 1, 5, 6] [Value.slice h.a xs.length h.cap, Value.func (.func 47) #[] #[Value.pointer (some ⟨pa, 0, none⟩), Value.pointer (some ⟨po, 0, none⟩)], Value.int .i64 (bif xs.isEmpty then -1 else 0), Value.int .i64 ((bif xs.isEmpty then -1 else 0) + 1)] (by kernel_rfl) (fun f17 => ?_)
    refine W.block ?_
    refine W.loop2 [0, 1, 5, 6] (fun (j : Nat) (g1 : FS) => [Value.slice h.a xs.length h.cap, Value.func (.func 47) #[] #[Value.pointer (some ⟨pa, 0, none⟩), Value.pointer (some ⟨po, 0, none⟩)], Value.int .i64 0, Value.int .i64 ((j : Nat) : Int)]) (fun (j : Nat) (g1 : FS) => 1 ≤ j ∧ j ≤ xs.length ∧ g1.ok 6 (ys ++ (xs.take j).map Hd.pk).length) (fun (j : Nat) (g1 : FS) => [g1.seg 47 (mm pk (ys ++ (xs.take j).map Hd.pk)), [cb po [Value.slice g1.a ((ys ++ (xs.take j).map Hd.pk).length) g1.cap] 36], [cb pa [Value.int .u32 a] 25], h.seg 101 (mm hd xs)]) (fun (j : Nat) (g1 : FS) => xs.length - j) 1 g3 (Eq.trans (b := ([Value.slice h.a xs.length h.cap, Value.func (.func 47) #[] #[Value.pointer (some ⟨pa, 0, none⟩), Value.pointer (some ⟨po, 0, none⟩)], Value.int .i64 (bif xs.isEmpty then -1 else 0), Value.int .i64 ((bif xs.isEmpty then -1 else 0) + 1)] : List Value)) (by kernel_rfl) (by rw [hE]; rfl)) ⟨(by omega), (by omega), ok4⟩ (by rfl) (fun j g1 f19 J18 hp20 hJ18 => ?_)
    obtain ⟨hj, hjn, okj⟩ := hp20
    have htl_ : ((xs.take j).map Hd.pk).length ≤ xs.length := by simp; omega
    refine W.seq (fun K21 hK21 => ?_)
    refine W.seq (fun K22 hK22 => ?_)
    refine W.region ?_
    refine Wl.run 4 (by kernel_rfl) ?_
    refine Wl.nil ?_
    refine hK22 _ _ _ ?_
    refine W.prune' [0, 1, 5, 6, 19] [Value.slice h.a xs.length h.cap, Value.func (.func 47) #[] #[Value.pointer (some ⟨pa, 0, none⟩), Value.pointer (some ⟨po, 0, none⟩)], Value.int .i64 0, Value.int .i64 ((j : Nat) : Int), Value.bool (decide (((j : Nat) : Int) < ((xs.length : Nat) : Int)))] (by kernel_rfl) (fun f23 => ?_)
    refine W.cond (decide (((j : Nat) : Int) < ((xs.length : Nat) : Int))) (by kernel_rfl) (fun h24 => ?_) (fun h25 => ?_)
    · have qh24 := h24; try simp only [Bool.and_eq_true, Bool.or_eq_true, Bool.not_eq_true', Bool.not_eq_false', Bool.and_eq_false_iff, Bool.or_eq_false_iff, decide_eq_true_eq, decide_eq_false_iff_not, beq_iff_eq, bne_iff_ne, beq_eq_false_iff_ne, bne_eq_false_iff_eq] at qh24
      refine W.skip' ?_
      refine hK21 _ _ _ ?_
      refine W.prune' [0, 1, 5, 6] [Value.slice h.a xs.length h.cap, Value.func (.func 47) #[] #[Value.pointer (some ⟨pa, 0, none⟩), Value.pointer (some ⟨po, 0, none⟩)], Value.int .i64 0, Value.int .i64 ((j : Nat) : Int)] (by kernel_rfl) (fun f26 => ?_)
      refine W.seq (fun K27 hK27 => ?_)
      refine W.block ?_
      refine W.seq (fun K28 hK28 => ?_)
      refine W.region ?_
      refine Wl.run 2 (by kernel_rfl) ?_
      refine Wl.ys (v := Value.pointer (some (ela h.a (j * 7)))) rfl rfl (Ys.indexAddr (k := .i64) (a := h.a) (len := xs.length) (cap := h.cap) (i := ((j : Nat) : Int)) (sz := 7) rfl (by kernel_rfl) (by kernel_rfl) Try.runUnderlying94 Try.sizeOf101 (by omega) (by omega) (by rw [FS.a_own (FS.notnil okh (by omega))]; rfl)) ?_
      refine Wl.ys (v := Value.agg ([Value.int .u8 0, Value.int .u8 0, Value.int .u16 ((xs.getD j hd0).id), Value.int .u32 0, Value.int .u32 ((xs.getD j hd0).dst), Value.slice none 0 0, Value.int .u64 ((xs.getD j hd0).came)]).toArray) rfl rfl (Ys.ldN (a := ela h.a (j * 7)) (vs := [Value.int .u8 0, Value.int .u8 0, Value.int .u16 ((xs.getD j hd0).id), Value.int .u32 0, Value.int .u32 ((xs.getD j hd0).dst), Value.slice none 0 0, Value.int .u64 ((xs.getD j hd0).came)]) rfl (by kernel_rfl) Try.isAgg101 Try.sizeOf101 rfl (fun w_ h_ => (FS.at (i := 3) (t := 101) h_ rfl (FS.nil_cs okh (hd_zlen _))).ldN (mm_get (g := hd) (sz := 7) (fun _ => rfl) hd0 (xs := xs) (k := j) (by omega)))) ?_
      refine Wl.ht rfl (Ht.alloc (z := Value.agg ([Value.int .u8 0, Value.int .u8 0, Value.int .u16 0, Value.int .u32 0, Value.int .u32 0, Value.slice none 0 0, Value.int .u64 0]).toArray) (cs := [Value.int .u8 0, Value.int .u8 0, Value.int .u16 0, Value.int .u32 0, Value.int .u32 0, Value.slice none 0 0, Value.int .u64 0]) rfl rfl Try.zeroValue101 rfl) (fun p7 => ?_)
      refine Wl.ht rfl (Ht.storeN (b := p7) (o' := 0) (i := 0) (j := 0) (cs := [Value.int .u8 0, Value.int .u8 0, Value.int .u16 0, Value.int .u32 0, Value.int .u32 0, Value.slice none 0 0, Value.int .u64 0]) (vs := [Value.int .u8 0, Value.int .u8 0, Value.int .u16 ((xs.getD j hd0).id), Value.int .u32 0, Value.int .u32 ((xs.getD j hd0).dst), Value.slice none 0 0, Value.int .u64 ((xs.getD j hd0).came)]) (cs' := [Value.int .u8 0, Value.int .u8 0, Value.int .u16 ((xs.getD j hd0).id), Value.int .u32 0, Value.int .u32 ((xs.getD j hd0).dst), Value.slice none 0 0, Value.int .u64 ((xs.getD j hd0).came)]) (LL' := [[cb p7 [Value.int .u8 0, Value.int .u8 0, Value.int .u16 ((xs.getD j hd0).id), Value.int .u32 0, Value.int .u32 ((xs.getD j hd0).dst), Value.slice none 0 0, Value.int .u64 ((xs.getD j hd0).came)] 101], g1.seg 47 (mm pk (ys ++ (xs.take j).map Hd.pk)), [cb po [Value.slice g1.a ((ys ++ (xs.take j).map Hd.pk).length) g1.cap] 36], [cb pa [Value.int .u32 a] 25], h.seg 101 (mm hd xs)]) rfl rfl (by kernel_rfl) (by kernel_rfl) Try.sizeOf101 (by simp [Value.oneCell']) rfl rfl (by simp) rfl rfl) (fun _ => ?_)
      refine Wl.nil ?_
      refine hK28 _ _ _ ?_
      refine W.prune' [0, 1, 5, 6, 7] [Value.slice h.a xs.length h.cap, Value.func (.func 47) #[] #[Value.pointer (some ⟨pa, 0, none⟩), Value.pointer (some ⟨po, 0, none⟩)], Value.int .i64 0, Value.int .i64 ((j : Nat) : Int), Value.pointer (some ⟨p7, 0, none⟩)] (by kernel_rfl) (fun f29 => ?_)
      refine W.seq (fun K30 hK30 => ?_)
      refine W.region ?_
      refine Wl.run 1 (by kernel_rfl) ?_
      refine Wl.ys (v := Value.agg ([Value.int .u8 0, Value.int .u8 0, Value.int .u16 ((xs.getD j hd0).id), Value.int .u32 0, Value.int .u32 ((xs.getD j hd0).dst), Value.slice none 0 0, Value.int .u64 ((xs.getD j hd0).came)]).toArray) rfl rfl (Ys.loadN (b := p7) (o' := 0) (i := 0) (j := 0) (cs := [Value.int .u8 0, Value.int .u8 0, Value.int .u16 ((xs.getD j hd0).id), Value.int .u32 0, Value.int .u32 ((xs.getD j hd0).dst), Value.slice none 0 0, Value.int .u64 ((xs.getD j hd0).came)]) (vs := [Value.int .u8 0, Value.int .u8 0, Value.int .u16 ((xs.getD j hd0).id), Value.int .u32 0, Value.int .u32 ((xs.getD j hd0).dst), Value.slice none 0 0, Value.int .u64 ((xs.getD j hd0).came)]) rfl (by kernel_rfl) Try.isAgg101 Try.sizeOf101 rfl rfl rfl rfl) ?_
      refine Wl.htS rfl (HtS.call (β := FS) (k := 47) (args := #[Value.agg ([Value.int .u8 0, Value.int .u8 0, Value.int .u16 ((xs.getD j hd0).id), Value.int .u32 0, Value.int .u32 ((xs.getD j hd0).dst), Value.slice none 0 0, Value.int .u64 ((xs.getD j hd0).came)]).toArray, Value.pointer (some ⟨pa, 0, none⟩), Value.pointer (some ⟨po, 0, none⟩)]) (Lin := [g1.seg 47 (mm pk (ys ++ (xs.take j).map Hd.pk)), [cb po [Value.slice g1.a ((ys ++ (xs.take j).map Hd.pk).length) g1.cap] 36], [cb pa [Value.int .u32 a] 25]]) (Lk := [[cb p7 [Value.int .u8 0, Value.int .u8 0, Value.int .u16 ((xs.getD j hd0).id), Value.int .u32 0, Value.int .u32 ((xs.getD j hd0).dst), Value.slice none 0 0, Value.int .u64 ((xs.getD j hd0).came)] 101], h.seg 101 (mm hd xs)]) (Lo := fun g31 => [g31.seg 47 (mm pk ((ys ++ (xs.take j).map Hd.pk) ++ [Hd.pk (xs.getD j hd0)])), [cb po [Value.slice g31.a (((ys ++ (xs.take j).map Hd.pk) ++ [Hd.pk (xs.getD j hd0)]).length) g31.cap] 36], [cb pa [Value.int .u32 a] 25], [cb p7 [Value.int .u8 0, Value.int .u8 0, Value.int .u16 ((xs.getD j hd0).id), Value.int .u32 0, Value.int .u32 ((xs.getD j hd0).dst), Value.slice none 0 0, Value.int .u64 ((xs.getD j hd0).came)] 101], h.seg 101 (mm hd xs)]) [1, 2, 3] [0, 4] rfl (fun _ => by kernel_rfl) (by decide) rfl rfl rfl (fun w_ hm_ hl_ => (learn1_c (xs.getD j hd0) (ys ++ (xs.take j).map Hd.pk) g1 a pa po _ _ hl_ okj (by first | omega | (simp; omega)) (hall _ (getD_memH (by omega))))) (fun _ => rfl)) (fun g31 ok32 => ?_)
      refine Wl.run 1 (by kernel_rfl) ?_
      refine Wl.nil ?_
      refine hK30 _ _ _ ?_
      refine W.prune' [0, 1, 5, 6, 7, 29] [Value.slice h.a xs.length h.cap, Value.func (.func 47) #[] #[Value.pointer (some ⟨pa, 0, none⟩), Value.pointer (some ⟨po, 0, none⟩)], Value.int .i64 0, Value.int .i64 ((j : Nat) : Int), Value.pointer (some ⟨p7, 0, none⟩), Value.bool false] (by kernel_rfl) (fun f34 => ?_)
      refine W.condF (by kernel_rfl) ?_
      refine W.skip' ?_
      refine hK27 _ _ _ ?_
      refine W.pick (LL' := [g31.seg 47 (mm pk ((ys ++ (xs.take j).map Hd.pk) ++ [Hd.pk (xs.getD j hd0)])), [cb po [Value.slice g31.a (((ys ++ (xs.take j).map Hd.pk) ++ [Hd.pk (xs.getD j hd0)]).length) g31.cap] 36], [cb pa [Value.int .u32 a] 25], h.seg 101 (mm hd xs)]) [0, 1, 2, 4] (by decide) rfl ?_
      refine W.prune' [0, 1, 5, 6] [Value.slice h.a xs.length h.cap, Value.func (.func 47) #[] #[Value.pointer (some ⟨pa, 0, none⟩), Value.pointer (some ⟨po, 0, none⟩)], Value.int .i64 0, Value.int .i64 ((j : Nat) : Int)] (by kernel_rfl) (fun f35 => ?_)
      refine W.region ?_
      refine Wl.run 1 (by kernel_rfl) ?_
      refine Wl.ys (v := Value.int .i64 ((j + 1 : Nat) : Int)) rfl rfl ((Ys.pure (v := .int .i64 (iadd .i64 ((j : Nat) : Int) 1)) (fun _ => by kernel_rfl)).conseq (int_congr (iadd_eq (by omega) (by omega) (by omega)))) ?_
      refine Wl.run 1 (by kernel_rfl) ?_
      refine Wl.nil ?_
      refine fun w_ h_ => hJ18 (j + 1) g31 _ w_ (by omega) ⟨(by omega), (by omega), (by rw [← take_map (by omega), ← List.append_assoc]; exact ok32)⟩ ?_ (Mem.cast (LL := [g31.seg 47 (mm pk ((ys ++ (xs.take j).map Hd.pk) ++ [Hd.pk (xs.getD j hd0)])), [cb po [Value.slice g31.a (((ys ++ (xs.take j).map Hd.pk) ++ [Hd.pk (xs.getD j hd0)]).length) g31.cap] 36], [cb pa [Value.int .u32 a] 25], h.seg 101 (mm hd xs)]) (by rw [← take_map (by omega), ← List.append_assoc]) h_)
      kernel_rfl
    · have qh25 := h25; try simp only [Bool.and_eq_true, Bool.or_eq_true, Bool.not_eq_true', Bool.not_eq_false', Bool.and_eq_false_iff, Bool.or_eq_false_iff, decide_eq_true_eq, decide_eq_false_iff_not, beq_iff_eq, bne_iff_ne, beq_eq_false_iff_ne, bne_eq_false_iff_eq] at qh25
      refine W.exit ?_
      refine hK15 _ _ _ ?_
      refine W.prune' [0, 5] [Value.slice h.a xs.length h.cap, Value.int .i64 0] (by kernel_rfl) (fun f36 => ?_)
      refine W.seq (fun K37 hK37 => ?_)
      have hn39 := FS.notnil okh h0_
      obtain ⟨gn38, hb, hc, hr⟩ := h
      obtain rfl : gn38 = false := hn39
      have hc40 : xs.length ≤ hc := okh.le
      refine W.region ?_
      refine Wl.run 2 (by kernel_rfl) ?_
      refine Wl.ys (v := Value.slice (sla (some ⟨hb, 0, none⟩) hc 0 7) (xs.length - 0) (hc - 0)) rfl rfl (Ys.sliceL (a := some ⟨hb, 0, none⟩) (len := xs.length) (cap := hc) (sz := 7) (k := .i64) (i := 0) rfl (by kernel_rfl) (by kernel_rfl) Try.runUnderlying94 Try.sizeOf101 (by omega) (by omega)) ?_
      obtain ⟨Z41, hZ42⟩ : ∃ Z, (Builtin.zeroCells #[Value.int .u8 0, Value.int .u8 0, Value.int .u16 0, Value.int .u32 0, Value.int .u32 0, Value.slice none 0 0, Value.int .u64 0] (xs.length - 1 + 1)).toList = Z := ⟨_, rfl⟩
      have hl43 : Z41.length = xs.length * 7 := by rw [← hZ42, Array.length_toList, size_zeroCells]; show (xs.length - 1 + 1) * 7 = _; congr 1; omega
      have h144 : ∀ v ∈ Z41, v.oneCell' = true := hZ42 ▸ zeroCells_one (by decide) (by simp [Value.oneCell']) _
      refine Wl.ht rfl (Ht.clear (t := 94) (e := 101) (ii := (Try.prog.info? 101).getD default) (z := Value.agg ([Value.int .u8 0, Value.int .u8 0, Value.int .u16 0, Value.int .u32 0, Value.int .u32 0, Value.slice none 0 0, Value.int .u64 0]).toArray) (m := xs.length - 1) (cap := hc - 0) (o' := 0) (i := 3) (j := 0) (b := hb) (ty := 101) (cs := (mm hd xs) ++ hr) (cs' := Z41 ++ hr) (zs := Z41) (LL' := [g1.seg 47 (mm pk (ys ++ (xs.take j).map Hd.pk)), [cb po [Value.slice g1.a ((ys ++ (xs.take j).map Hd.pk).length) g1.cap] 36], [cb pa [Value.int .u32 a] 25], [cb hb (Z41 ++ hr) 101]]) rfl rfl (by kernel_rfl) (by kernel_rfl) (by kernel_rfl) (Eq.trans (b := Value.slice (sla (some ⟨hb, 0, none⟩) hc 0 7) (xs.length - 0) (hc - 0)) (by kernel_rfl) (by rw [sla0]; congr 1; omega)) rfl rfl hZ42 (by rw [List.length_append, hl43, (hd_zlen _)]; omega) h144 (putAt_all (by rw [hl43, (hd_zlen _)])) rfl) (fun _ => ?_)
      refine Wl.nil ?_
      refine hK37 _ _ _ ?_
      refine W.prune' [0, 5] [Value.slice (some ⟨hb, 0, none⟩) xs.length hc, Value.int .i64 0] (by kernel_rfl) (fun f45 => ?_)
      refine W.seq (fun K46 hK46 => ?_)
      refine W.region ?_
      refine Wl.run 2 (by kernel_rfl) ?_
      refine Wl.ys (v := Value.slice (some ⟨hb, 0, none⟩) 0 hc) rfl rfl (Ys.sliceH (a := some ⟨hb, 0, none⟩) (len := xs.length) (cap := hc) (sz := 7) (k := .i64) (i := 0) rfl (by kernel_rfl) (by kernel_rfl) Try.runUnderlying94 Try.sizeOf101 (by omega) (by omega)) ?_
      refine Wl.run 1 (by kernel_rfl) ?_
      refine Wl.nil ?_
      refine hK46 _ _ _ ?_
      refine W.prune' [4] [Value.slice (some ⟨hb, 0, none⟩) 0 hc] (by kernel_rfl) (fun f47 => ?_)
      refine W.ret ?_
      have hB : (xs.take j).map Hd.pk = xs.map Hd.pk := by rw [List.take_of_length_le (by omega)]
      show ∀ w_, _ → bodyPostM (fence none) 0 Try.prog Try.f46 _ Exit.ret _ w_
      exact fun w_ hS_ => fin_ret (ret1 rfl (RV.tmp (v := Value.slice (some ⟨hb, 0, none⟩) 0 hc) (by kernel_rfl)) hS_ ⟨(⟨false, hb, hc, Z41 ++ hr⟩, g1), ⟨⟨fun h => (by cases h), Nat.zero_le _, okh.mx, (by show hc * 7 ≤ _; have z_ : hc * 7 ≤ xs.length * 7 + hr.length := okh.len; rw [List.length_append, hl43]; omega)⟩, (by rw [← hB]; exact okj)⟩, rfl, (Mem.cast (LL := [[cb hb (Z41 ++ hr) 101], g1.seg 47 (mm pk (ys ++ (xs.take j).map Hd.pk)), [cb po [Value.slice g1.a ((ys ++ (xs.take j).map Hd.pk).length) g1.cap] 36], [cb pa [Value.int .u32 a] 25]]) (by rw [← hB]; rfl) (hS_.pick [3, 0, 1, 2] (by decide) rfl))⟩)

end Go.Proofs.Ytjkhmbigoloeiaa.Oct
