/-
  Hosts. No condition.
-/
import Derived.Test.YtjkhmbigoloeiaaNk4
import Derived.Test.YtjkhmbigoloeiaaNk6
set_option linter.unusedVariables false
set_option linter.unusedSimpArgs false
set_option maxRecDepth 20000
namespace Go.Proofs.Ytjkhmbigoloeiaa.Oct
open Go.RowKit Base
attribute [local irreducible] Ys Yc Ht HtS HtIn Wl Wd W Mem pf dpf Wa Wo

theorem first_c (xs : List (Int × Host)) (a : Option Addr) (cap : Nat) (most : Int) (tb : Nat) (hx : Option Addr) (hn_ hc_ : Nat) (c : Nat)  (w : World) (htb : At w (some ⟨tb, 0, none⟩) [Value.slice a xs.length cap, Value.int .i64 most, Value.func (.func 37) #[] #[]]) (hls : At w a (mm prH xs)) (hn : xs.length ≤ 100000) (hs : Srt LO.int xs) (hcc : At w (some ⟨c, 0, none⟩) [Value.pointer (some ⟨tb, 0, none⟩), Value.slice hx hn_ hc_]) : Calls Try.prog 45 #[Value.pointer (some ⟨c, 0, none⟩)] w (RetM w (fun b : Int => xs ≠ [] → hasK xs b = true) (fun b => .int .u32 b) [] (fun _ => [])) := by
  refine calls_W (M := []) (LL := []) (n := 26) Try.func45 rfl rfl (by simp) (Mem.refl _) ?_
  refine W.seq (fun K1 hK1 => ?_)
  refine W.region ?_
  refine Wl.ht rfl (Ht.alloc (z := Value.int .u32 0) (cs := [Value.int .u32 0]) rfl rfl Try.zeroValue25 rfl) (fun p2 => ?_)
  refine Wl.nil ?_
  refine hK1 _ _ _ ?_
  refine W.seq (fun K2 hK2 => ?_)
  refine W.region ?_
  refine Wl.ht rfl (Ht.alloc (z := Value.int .u64 0) (cs := [Value.int .u64 0]) rfl rfl Try.zeroValue39 rfl) (fun p3 => ?_)
  refine Wl.ht rfl (Ht.alloc (z := Value.bool false) (cs := [Value.bool false]) rfl rfl Try.zeroValue4 rfl) (fun p4 => ?_)
  refine Wl.ht rfl (Ht.store (b := p3) (o' := 0) (i := 1) (j := 0) (cs := [Value.int .u64 0]) (cs' := [Value.int .u64 0]) (v := Value.int .u64 0) (LL' := [[cb p4 [Value.bool false] 4], [cb p3 [Value.int .u64 0] 39], [cb p2 [Value.int .u32 0] 25]]) rfl rfl (by kernel_rfl) (by kernel_rfl) Try.sizeOf39 rfl rfl rfl (by simp) rfl rfl) (fun _ => ?_)
  refine Wl.ht rfl (Ht.store (b := p4) (o' := 0) (i := 0) (j := 0) (cs := [Value.bool false]) (cs' := [Value.bool false]) (v := Value.bool false) (LL' := [[cb p4 [Value.bool false] 4], [cb p3 [Value.int .u64 0] 39], [cb p2 [Value.int .u32 0] 25]]) rfl rfl (by kernel_rfl) (by kernel_rfl) Try.sizeOf4 rfl rfl rfl (by simp) rfl rfl) (fun _ => ?_)
  refine Wl.nil ?_
  refine hK2 _ _ _ ?_
  refine W.prune' [0, 2, 3, 4] [Value.pointer (some ⟨c, 0, none⟩), Value.pointer (some ⟨p2, 0, none⟩), Value.pointer (some ⟨p3, 0, none⟩), Value.pointer (some ⟨p4, 0, none⟩)] (by kernel_rfl) (fun f3 => ?_)
  refine W.seq (fun K4 hK4 => ?_)
  refine W.seq (fun K5 hK5 => ?_)
  refine W.region ?_
  refine Wl.run 3 (by kernel_rfl) ?_
  refine Wl.ys (v := Value.pointer (some ⟨tb, 0, none⟩)) rfl rfl (Ys.ld (a := ⟨c, 0, none⟩) rfl (by kernel_rfl) Try.isAgg89 (fun w_ h_ => by have x_ := (hcc.mem0 h_).ld (q := 0) (v := Value.pointer (some ⟨tb, 0, none⟩)) rfl; rw [ela_own0] at x_; exact x_)) ?_
  refine Wl.htS rfl (HtS.call (β := Nat) (k := 82) (args := #[Value.pointer (some ⟨tb, 0, none⟩)]) (Lin := []) (Lk := [[cb p4 [Value.bool false] 4], [cb p3 [Value.int .u64 0] 39], [cb p2 [Value.int .u32 0] 25]]) (Mi := []) (Lo := fun ab6 => [[cb ab6 [Value.pointer (some ⟨tb, 0, none⟩)] 89], [cb p4 [Value.bool false] 4], [cb p3 [Value.int .u64 0] 39], [cb p2 [Value.int .u32 0] 25]]) [] [0, 1, 2] rfl (fun _ => by kernel_rfl) (by decide) rfl rfl rfl (fun w_ hm_ hl_ => (allH_c tb _)) (fun _ => rfl)) (fun ab6 _ => ?_)
  refine Wl.nil ?_
  refine hK5 _ _ _ ?_
  refine W.prune' [2, 3, 4, 11] [Value.pointer (some ⟨p2, 0, none⟩), Value.pointer (some ⟨p3, 0, none⟩), Value.pointer (some ⟨p4, 0, none⟩), Value.func (.func 106) #[] #[Value.pointer (some ⟨ab6, 0, none⟩)]] (by kernel_rfl) (fun f8 => ?_)
  refine W.block ?_
  refine W.range2 (σ := Int × Int × Bool) (enc := fun i => [Value.int .u32 ((xs.getD i dH).1), Value.agg ([Value.int .u8 (((xs.getD i dH).2).m0), Value.int .u8 (((xs.getD i dH).2).m1), Value.int .u8 (((xs.getD i dH).2).m2), Value.int .u8 (((xs.getD i dH).2).m3), Value.int .u8 (((xs.getD i dH).2).m4), Value.int .u8 (((xs.getD i dH).2).m5), Value.int .u64 (((xs.getD i dH).2).ends)]).toArray]) (N := xs.length) (Lu := fun (s : Int × Int × Bool) => [[cb p4 [Value.bool s.2.2] 4], [cb p3 [Value.int .u64 s.2.1] 39], [cb p2 [Value.int .u32 s.1] 25]]) (Li := [[cb ab6 [Value.pointer (some ⟨tb, 0, none⟩)] 89]]) (Lk := []) [1, 2, 3] [0] [] (0, 0, false) (fun i (s : Int × Int × Bool) => (s.2.2 = true → hasK xs s.1 = true) ∧ (0 < i → s.2.2 = true)) (fun c_ (s : Int × Int × Bool) => False) [12, 13] (by kernel_rfl) (fun _ _ => rfl) (by decide) (by rfl) rfl rfl rfl (fun _ => rfl) (⟨(fun h => by cases h), (fun h => absurd h (Nat.lt_irrefl 0))⟩) (fun D_ l_ ob_ w1_ hm_ => (allH_it xs a cap most tb ab6 _ w1_ (htb.mem0 hm_) (hls.mem0 hm_) (by first | omega | (simp; done)))) ?_ ?_ ?_
  · intro D9 l10 ob11 ob12 i s14 u15 Mu16 J17 hi18 hp19 hcv20 hJ21
    obtain ⟨b, l, y⟩ := s14
    obtain ⟨hy, hi⟩ := hp19
    refine W.seq (fun K22 hK22 => ?_)
    refine W.region ?_
    refine Wl.run 1 (by kernel_rfl) ?_
    refine Wl.nil ?_
    refine hK22 _ _ _ ?_
    refine W.region ?_
    refine Wl.ht rfl (Ht.alloc (z := Value.agg ([Value.int .u8 0, Value.int .u8 0, Value.int .u8 0, Value.int .u8 0, Value.int .u8 0, Value.int .u8 0, Value.int .u64 0]).toArray) (cs := [Value.int .u8 0, Value.int .u8 0, Value.int .u8 0, Value.int .u8 0, Value.int .u8 0, Value.int .u8 0, Value.int .u64 0]) rfl rfl Try.zeroValue92 rfl) (fun p6 => ?_)
    refine Wl.ht rfl (Ht.storeN (b := p6) (o' := 0) (i := 0) (j := 0) (cs := [Value.int .u8 0, Value.int .u8 0, Value.int .u8 0, Value.int .u8 0, Value.int .u8 0, Value.int .u8 0, Value.int .u64 0]) (vs := [Value.int .u8 (((xs.getD i dH).2).m0), Value.int .u8 (((xs.getD i dH).2).m1), Value.int .u8 (((xs.getD i dH).2).m2), Value.int .u8 (((xs.getD i dH).2).m3), Value.int .u8 (((xs.getD i dH).2).m4), Value.int .u8 (((xs.getD i dH).2).m5), Value.int .u64 (((xs.getD i dH).2).ends)]) (cs' := [Value.int .u8 (((xs.getD i dH).2).m0), Value.int .u8 (((xs.getD i dH).2).m1), Value.int .u8 (((xs.getD i dH).2).m2), Value.int .u8 (((xs.getD i dH).2).m3), Value.int .u8 (((xs.getD i dH).2).m4), Value.int .u8 (((xs.getD i dH).2).m5), Value.int .u64 (((xs.getD i dH).2).ends)]) (LL' := [[cb p6 [Value.int .u8 (((xs.getD i dH).2).m0), Value.int .u8 (((xs.getD i dH).2).m1), Value.int .u8 (((xs.getD i dH).2).m2), Value.int .u8 (((xs.getD i dH).2).m3), Value.int .u8 (((xs.getD i dH).2).m4), Value.int .u8 (((xs.getD i dH).2).m5), Value.int .u64 (((xs.getD i dH).2).ends)] 92], dB D9, lB l10 ob11, [cb p4 [Value.bool y] 4], [cb p3 [Value.int .u64 l] 39], [cb p2 [Value.int .u32 b] 25]]) rfl rfl (by kernel_rfl) (by kernel_rfl) Try.sizeOf92 (by simp [Value.oneCell']) rfl rfl (by simp) rfl rfl) (fun _ => ?_)
    refine Wl.nil ?_
    refine fun w_ h_ => hJ21 _ [[cb p6 [Value.int .u8 (((xs.getD i dH).2).m0), Value.int .u8 (((xs.getD i dH).2).m1), Value.int .u8 (((xs.getD i dH).2).m2), Value.int .u8 (((xs.getD i dH).2).m3), Value.int .u8 (((xs.getD i dH).2).m4), Value.int .u8 (((xs.getD i dH).2).m5), Value.int .u64 (((xs.getD i dH).2).ends)] 92], [cb p4 [Value.bool y] 4], [cb p3 [Value.int .u64 l] 39], [cb p2 [Value.int .u32 b] 25]] ?_ w_ (h_.pick [1, 2, 0, 3, 4, 5] (by decide) rfl)
    refine W.prune' [2, 3, 4, 5, 6] [Value.pointer (some ⟨p2, 0, none⟩), Value.pointer (some ⟨p3, 0, none⟩), Value.pointer (some ⟨p4, 0, none⟩), Value.int .u32 ((xs.getD i dH).1), Value.pointer (some ⟨p6, 0, none⟩)] (by kernel_rfl) (fun f23 => ?_)
    refine W.block ?_
    refine W.seq (fun K24 hK24 => ?_)
    refine W.region ?_
    refine Wl.ys (v := Value.bool y) rfl rfl (Ys.load (b := p4) (o' := 0) (i := 3) (j := 0) (cs := [Value.bool y]) (v := Value.bool y) rfl (by kernel_rfl) Try.isAgg4 rfl rfl rfl) ?_
    refine Wl.run 2 (by kernel_rfl) ?_
    refine Wl.guard (v := Value.pointer (some ⟨p6, 6, none⟩)) (!(!y)) rfl (wantF rfl (by kernel_rfl)) rfl (fun hg25 => ?_) ?_
    · exact Ys.pure (fun _ => by kernel_rfl)
    refine Wl.guard (v := Value.int .u64 (((xs.getD i dH).2).ends)) (!(!y)) rfl (wantF rfl (by kernel_rfl)) rfl (fun hg26 => ?_) ?_
    · refine Ys.at (t := 17) (v0 := Value.pointer (some ⟨p6, 6, none⟩)) (lz (g := !(!y)) (u := undef) hg26 (by kernel_rfl)) ?_
      exact Ys.load (b := p6) (o' := 6) (i := 2) (j := 0) (cs := [Value.int .u8 (((xs.getD i dH).2).m0), Value.int .u8 (((xs.getD i dH).2).m1), Value.int .u8 (((xs.getD i dH).2).m2), Value.int .u8 (((xs.getD i dH).2).m3), Value.int .u8 (((xs.getD i dH).2).m4), Value.int .u8 (((xs.getD i dH).2).m5), Value.int .u64 (((xs.getD i dH).2).ends)]) (v := Value.int .u64 (((xs.getD i dH).2).ends)) rfl (by kernel_rfl) Try.isAgg39 rfl rfl rfl
    refine Wl.guard (v := Value.int .u64 l) (!(!y)) rfl (wantF rfl (by kernel_rfl)) rfl (fun hg27 => ?_) ?_
    · exact Ys.load (b := p3) (o' := 0) (i := 4) (j := 0) (cs := [Value.int .u64 l]) (v := Value.int .u64 l) rfl (by kernel_rfl) Try.isAgg39 rfl rfl rfl
    refine Wl.guard (v := Value.bool (decide ((((xs.getD i dH).2).ends) < l))) (!(!y)) rfl (wantF rfl (by kernel_rfl)) rfl (fun hg28 => ?_) ?_
    · refine Ys.at (t := 18) (v0 := Value.int .u64 (((xs.getD i dH).2).ends)) (lz (g := !(!y)) (u := undef) hg28 (by kernel_rfl)) ?_
      refine Ys.at (t := 19) (v0 := Value.int .u64 l) (lz (g := !(!y)) (u := undef) hg28 (by kernel_rfl)) ?_
      exact Ys.pure (fun _ => by kernel_rfl)
    refine Wl.ys (v := Value.bool ((!y) || (decide ((((xs.getD i dH).2).ends) < l)))) rfl rfl (Ys.or' (e := !y) (b := decide ((((xs.getD i dH).2).ends) < l)) rfl (by kernel_rfl) (by kernel_rfl) (by kernel_rfl)) ?_
    refine Wl.nil ?_
    refine hK24 _ _ _ ?_
    refine W.prune' [2, 3, 4, 5, 6, 21] [Value.pointer (some ⟨p2, 0, none⟩), Value.pointer (some ⟨p3, 0, none⟩), Value.pointer (some ⟨p4, 0, none⟩), Value.int .u32 ((xs.getD i dH).1), Value.pointer (some ⟨p6, 0, none⟩), Value.bool ((!y) || (decide ((((xs.getD i dH).2).ends) < l)))] (by kernel_rfl) (fun f29 => ?_)
    refine W.cond ((!y) || (decide ((((xs.getD i dH).2).ends) < l))) (by kernel_rfl) (fun h30 => ?_) (fun h31 => ?_)
    · have qh30 := h30; try simp only [Bool.and_eq_true, Bool.or_eq_true, Bool.not_eq_true', Bool.not_eq_false', Bool.and_eq_false_iff, Bool.or_eq_false_iff, decide_eq_true_eq, decide_eq_false_iff_not, beq_iff_eq, bne_iff_ne, beq_eq_false_iff_ne, bne_eq_false_iff_eq] at qh30
      refine W.draws [(0, true), (1, true), (2, true), (3, false), (4, false), (5, false)] [0, 1, 2] (Mem u15 Mu16 [dB D9, lB l10 ob12, [cb p6 [Value.int .u8 (((xs.getD i dH).2).m0), Value.int .u8 (((xs.getD i dH).2).m1), Value.int .u8 (((xs.getD i dH).2).m2), Value.int .u8 (((xs.getD i dH).2).m3), Value.int .u8 (((xs.getD i dH).2).m4), Value.int .u8 (((xs.getD i dH).2).m5), Value.int .u64 (((xs.getD i dH).2).ends)] 92], [cb p4 [Value.bool y] 4], [cb p3 [Value.int .u64 l] 39]]) (by kernel_rfl) (by kernel_rfl) (by kernel_rfl) rfl (by kernel_rfl) (fun _ _ h_ => h_.drawn _) (fun _ h_ => h_.pick [0, 1, 2, 3, 4] (by decide) rfl) ?_
      refine Wd.run 2 (by kernel_rfl) ?_
      refine Wd.ys (v := Value.int .u64 (((xs.getD i dH).2).ends)) rfl rfl rfl (Ys.load (b := p6) (o' := 6) (i := 2) (j := 0) (cs := [Value.int .u8 (((xs.getD i dH).2).m0), Value.int .u8 (((xs.getD i dH).2).m1), Value.int .u8 (((xs.getD i dH).2).m2), Value.int .u8 (((xs.getD i dH).2).m3), Value.int .u8 (((xs.getD i dH).2).m4), Value.int .u8 (((xs.getD i dH).2).m5), Value.int .u64 (((xs.getD i dH).2).ends)]) (v := Value.int .u64 (((xs.getD i dH).2).ends)) rfl (by kernel_rfl) Try.isAgg39 rfl rfl rfl) ?_
      refine Wd.ht rfl rfl (Ht.store (b := p2) (o' := 0) (i := 5) (j := 0) (cs := [Value.int .u32 b]) (cs' := [Value.int .u32 ((xs.getD i dH).1)]) (v := Value.int .u32 ((xs.getD i dH).1)) (LL' := [dB D9, lB l10 ob12, [cb p6 [Value.int .u8 (((xs.getD i dH).2).m0), Value.int .u8 (((xs.getD i dH).2).m1), Value.int .u8 (((xs.getD i dH).2).m2), Value.int .u8 (((xs.getD i dH).2).m3), Value.int .u8 (((xs.getD i dH).2).m4), Value.int .u8 (((xs.getD i dH).2).m5), Value.int .u64 (((xs.getD i dH).2).ends)] 92], [cb p4 [Value.bool y] 4], [cb p3 [Value.int .u64 l] 39], [cb p2 [Value.int .u32 ((xs.getD i dH).1)] 25]]) rfl rfl (by kernel_rfl) (by kernel_rfl) Try.sizeOf25 rfl rfl rfl (by simp) rfl rfl) (.inr fun _ _ h_ => h_.pick [0, 1, 2, 3, 4] (by decide) rfl) (fun _ => ?_)
      refine Wd.ht rfl rfl (Ht.store (b := p3) (o' := 0) (i := 4) (j := 0) (cs := [Value.int .u64 l]) (cs' := [Value.int .u64 (((xs.getD i dH).2).ends)]) (v := Value.int .u64 (((xs.getD i dH).2).ends)) (LL' := [dB D9, lB l10 ob12, [cb p6 [Value.int .u8 (((xs.getD i dH).2).m0), Value.int .u8 (((xs.getD i dH).2).m1), Value.int .u8 (((xs.getD i dH).2).m2), Value.int .u8 (((xs.getD i dH).2).m3), Value.int .u8 (((xs.getD i dH).2).m4), Value.int .u8 (((xs.getD i dH).2).m5), Value.int .u64 (((xs.getD i dH).2).ends)] 92], [cb p4 [Value.bool y] 4], [cb p3 [Value.int .u64 (((xs.getD i dH).2).ends)] 39], [cb p2 [Value.int .u32 ((xs.getD i dH).1)] 25]]) rfl rfl (by kernel_rfl) (by kernel_rfl) Try.sizeOf39 rfl rfl rfl (by simp) rfl rfl) (.inl (by kernel_rfl)) (fun _ => ?_)
      refine Wd.ht rfl rfl (Ht.store (b := p4) (o' := 0) (i := 3) (j := 0) (cs := [Value.bool y]) (cs' := [Value.bool true]) (v := Value.bool true) (LL' := [dB D9, lB l10 ob12, [cb p6 [Value.int .u8 (((xs.getD i dH).2).m0), Value.int .u8 (((xs.getD i dH).2).m1), Value.int .u8 (((xs.getD i dH).2).m2), Value.int .u8 (((xs.getD i dH).2).m3), Value.int .u8 (((xs.getD i dH).2).m4), Value.int .u8 (((xs.getD i dH).2).m5), Value.int .u64 (((xs.getD i dH).2).ends)] 92], [cb p4 [Value.bool true] 4], [cb p3 [Value.int .u64 (((xs.getD i dH).2).ends)] 39], [cb p2 [Value.int .u32 ((xs.getD i dH).1)] 25]]) rfl rfl (by kernel_rfl) (by kernel_rfl) Try.sizeOf4 rfl rfl rfl (by simp) rfl rfl) (.inl (by kernel_rfl)) (fun _ => ?_)
      refine Wd.nil ?_
      exact fun w_ h_ => Exists.intro (((xs.getD i dH).1), ((xs.getD i dH).2).ends, true) (And.intro ⟨(fun _ => hasK_mem.2 ⟨(xs.getD i dH).2, getD_mem' dH (by omega)⟩), (fun _ => rfl)⟩ (h_.pick [0, 1, 3, 4, 5] (by decide) rfl))
    · have qh31 := h31; try simp only [Bool.and_eq_true, Bool.or_eq_true, Bool.not_eq_true', Bool.not_eq_false', Bool.and_eq_false_iff, Bool.or_eq_false_iff, decide_eq_true_eq, decide_eq_false_iff_not, beq_iff_eq, bne_iff_ne, beq_eq_false_iff_ne, bne_eq_false_iff_eq] at qh31
      refine W.skip' ?_
      exact fun w_ h_ => Exists.intro (b, l, y) (And.intro ⟨hy, (fun _ => by have z_ := h31; cases y with | true => rfl | false => (exfalso; simp at z_))⟩ (h_.pick [0, 1, 3, 4, 5] (by decide) rfl))
  · intro D32 l33 ob34 s35 hp36
    obtain ⟨b, l, y⟩ := s35
    obtain ⟨hy, hi⟩ := hp36
    refine Mem.pickK (LL' := [[cb ab6 [Value.pointer (some ⟨tb, 0, none⟩)] 89], [cb p4 [Value.bool y] 4], [cb p3 [Value.int .u64 l] 39], [cb p2 [Value.int .u32 b] 25], dB D32]) [5, 2, 3, 4, 0] (by decide) rfl ?_
    refine hK4 _ _ _ ?_
    refine W.pick (LL' := [[cb p2 [Value.int .u32 b] 25], dB D32]) [3, 4] (by decide) rfl ?_
    refine W.prune' [2] [Value.pointer (some ⟨p2, 0, none⟩)] (by kernel_rfl) (fun f37 => ?_)
    refine W.seq (fun K38 hK38 => ?_)
    refine W.region ?_
    refine Wl.ys (v := Value.int .u32 b) rfl rfl (Ys.load (b := p2) (o' := 0) (i := 0) (j := 0) (cs := [Value.int .u32 b]) (v := Value.int .u32 b) rfl (by kernel_rfl) Try.isAgg25 rfl rfl rfl) ?_
    refine Wl.ht rfl (Ht.store (b := p2) (o' := 0) (i := 0) (j := 0) (cs := [Value.int .u32 b]) (cs' := [Value.int .u32 b]) (v := Value.int .u32 b) (LL' := [[cb p2 [Value.int .u32 b] 25], dB D32]) rfl rfl (by kernel_rfl) (by kernel_rfl) Try.sizeOf25 rfl rfl rfl (by simp) rfl rfl) (fun _ => ?_)
    refine Wl.nil ?_
    refine hK38 _ _ _ ?_
    refine W.prune' [2] [Value.pointer (some ⟨p2, 0, none⟩)] (by kernel_rfl) (fun f39 => ?_)
    refine W.ret ?_
    show ∀ w_, _ → bodyPostM (fence none) 0 Try.prog Try.f45 _ Exit.ret _ w_
    exact fun w_ h0_ => fin_mark (h0_.mark (i := 1) rfl).1 (by have hS_ : Mem w [] [[cb p2 [Value.int .u32 b] 25], [⟨D32, .deferred none⟩]] _ := (h0_.mark (i := 1) rfl).2; exact ret1 rfl (RV.cell1 (b := p2) (o' := 0) (i := 0) (j := 0) (cs := [Value.int .u32 b]) (v := Value.int .u32 b) (by kernel_rfl) Try.isAgg25 rfl rfl rfl) hS_ ⟨b, (fun h0 => hy (hi (List.length_pos_iff.2 h0))), rfl, (hS_.pick [] (by decide) rfl)⟩)
  · intro D_ l_ ob_ c_ s_ h_; exact h_.elim

end Go.Proofs.Ytjkhmbigoloeiaa.Oct
