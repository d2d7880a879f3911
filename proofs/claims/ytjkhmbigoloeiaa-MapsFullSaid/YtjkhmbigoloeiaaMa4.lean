/-
  Mappings' tables: all of them. No condition.
-/
import Derived.Test.YtjkhmbigoloeiaaMa3
set_option linter.unusedVariables false
set_option linter.unusedSimpArgs false
set_option maxRecDepth 20000
namespace Go.Proofs.Ytjkhmbigoloeiaa.Oct
open Go.RowKit Base
attribute [local irreducible] Ys Yc Ht HtS HtIn Wl Wd W Mem pf dpf Wa Wo

theorem cloneM_c (xs : List ((Int × Int × Int) × (Ent))) (a : Option Addr) (cap : Nat) (w : World) (hls : At w a (mm prM xs)) (hn : xs.length ≤ 100000) : Calls Try.prog 111 #[Value.slice a xs.length cap] w (RetM w (fun g' : FS => g'.ok 11 xs.length) (fun g' => .slice g'.a xs.length g'.cap) [] (fun g' => [g'.seg 161 (mm prM xs)])) := by
  refine calls_W (M := []) (LL := []) (n := 8) Try.func111 rfl rfl (by simp) (Mem.refl _) ?_
  refine W.seq (fun K1 hK1 => ?_)
  refine W.region ?_
  refine Wl.run 1 (by kernel_rfl) ?_
  refine Wl.nil ?_
  refine hK1 _ _ _ ?_
  refine W.seq (fun K2 hK2 => ?_)
  refine W.seq (fun K3 hK3 => ?_)
  refine W.region ?_
  refine Wl.run 1 (by kernel_rfl) ?_
  refine Wl.ys (v := Value.bool a.isNone) rfl rfl (Ys.pure (fun _ => by generalize a = a_; cases a_ <;> kernel_rfl)) ?_
  refine Wl.nil ?_
  refine hK3 _ _ _ ?_
  refine W.prune' [0, 4] [Value.slice a xs.length cap, Value.bool a.isNone] (by kernel_rfl) (fun f4 => ?_)
  refine W.cond (a.isNone) (by kernel_rfl) (fun h5 => ?_) (fun h6 => ?_)
  · refine W.seq (fun K7 hK7 => ?_)
    refine W.region ?_
    refine Wl.run 1 (by kernel_rfl) ?_
    refine Wl.nil ?_
    refine hK7 _ _ _ ?_
    refine W.ret ?_
    have hx0_ : xs = [] := List.length_eq_zero_iff.1 (by have z_ := At.of_none hls h5; rw [prM_zlen] at z_; omega)
    show ∀ w_, _ → bodyPostM (fence none) 0 Try.prog Try.f111 _ Exit.ret _ w_
    exact fun w_ hS_ => fin_ret (ret1 rfl (RV.tmp (v := Value.slice none 0 0) (by kernel_rfl)) hS_ ⟨FS.nul, (by rw [hx0_]; exact FS.nul_ok 11), congrArg Ending.returned ((by rw [hx0_]; rfl)), (Mem.cast (by rw [hx0_]; rfl) (Mem.push hS_))⟩)
  · refine W.skip' ?_
    refine hK2 _ _ _ ?_
    refine W.prune' [0] [Value.slice a xs.length cap] (by kernel_rfl) (fun f8 => ?_)
    refine W.seq (fun K9 hK9 => ?_)
    refine W.region ?_
    refine Wl.ht rfl (Ht.made (mk := fun b_ => .slice (some ⟨b_, 0, none⟩) 0 0) (t := 161) (cs := []) rfl (fun _ => by kernel_rfl)) (fun p5 => ?_)
    refine Wl.run 1 (by kernel_rfl) ?_
    refine Wl.htS rfl (HtS.append (eu := 161) (xv := Value.slice a xs.length cap) (i := 0) (g := (FS.mk false p5 0 [])) (e := 161) (ii := (Try.prog.info? 161).getD default) (z := Value.agg ([Value.int .u8 0, Value.int .u16 0, Value.int .u32 0, Value.int .u8 0, Value.int .u16 0, Value.int .u16 0, Value.int .u32 0, Value.int .u32 0, Value.bool false, Value.string (bstr []), Value.int .u64 0]).toArray) (sz := 11) (bytes := 56) (nn := 0) (m := xs.length) (k := xs.length) (xs := mm prM []) (news := mm prM xs) (cs' := mm prM xs) (Lo := fun g10 => [g10.seg 161 (mm prM xs)]) rfl rfl (by kernel_rfl) (by kernel_rfl) (by kernel_rfl) (by kernel_rfl) (by kernel_rfl) (by kernel_rfl) (by kernel_rfl) (by kernel_rfl) (by kernel_rfl) rfl (FS.lit_ok (by decide)) rfl (fun _ => rfl) (Src.at (a := a) (mm_len (g := prM) (sz := 11) (fun _ => rfl) _) (fun w_ h_ => (hls.mem0 h_))) (mm_len (g := prM) (sz := 11) (fun _ => rfl) _) (mm_one prM_one _) (by first | omega | (simp; done) | (simp; omega)) (by simp only [maxLen]; first | omega | (simp; done) | (simp; omega)) (by first | omega | (simp; done) | (simp; omega)) rfl (fun _ => rfl)) (fun g10 hx15 => ?_)
    obtain ⟨ok11, hn12, hn13⟩ := hx15
    refine Wl.run 1 (by kernel_rfl) ?_
    refine Wl.nil ?_
    refine hK9 _ _ _ ?_
    refine W.prune' [2] [Value.slice g10.a xs.length g10.cap] (by kernel_rfl) (fun f16 => ?_)
    refine W.ret ?_
    show ∀ w_, _ → bodyPostM (fence none) 0 Try.prog Try.f111 _ Exit.ret _ w_
    exact fun w_ hS_ => fin_ret (ret1 rfl (RV.tmp (v := Value.slice g10.a xs.length g10.cap) (by kernel_rfl)) hS_ ⟨g10, ok11, rfl, (hS_.pick [0] (by decide) rfl)⟩)

theorem allM_c (tb : Nat) (w : World) : Calls Try.prog 90 #[Value.pointer (some ⟨tb, 0, none⟩)] w (RetM w (fun _ : Nat => True) (fun b => .func (.func 110) #[] #[.pointer (some ⟨b, 0, none⟩)]) [] (fun b => [[cb b [.pointer (some ⟨tb, 0, none⟩)] 112]])) := by
  refine calls_W (M := []) (LL := []) (n := 4) Try.func90 rfl rfl (by simp) (Mem.refl _) ?_
  refine W.seq (fun K1 hK1 => ?_)
  refine W.region ?_
  refine Wl.ht rfl (Ht.box (v := Value.pointer (some ⟨tb, 0, none⟩)) (cs := [Value.pointer (some ⟨tb, 0, none⟩)]) rfl rfl (by kernel_rfl) rfl) (fun p1 => ?_)
  refine Wl.run 1 (by kernel_rfl) ?_
  refine Wl.nil ?_
  refine hK1 _ _ _ ?_
  refine W.prune' [1] [Value.pointer (some ⟨p1, 0, none⟩)] (by kernel_rfl) (fun f2 => ?_)
  refine W.seq (fun K3 hK3 => ?_)
  refine W.region ?_
  refine Wl.run 2 (by kernel_rfl) ?_
  refine Wl.nil ?_
  refine hK3 _ _ _ ?_
  refine W.prune' [2] [Value.func (.func 110) #[] #[Value.pointer (some ⟨p1, 0, none⟩)]] (by kernel_rfl) (fun f4 => ?_)
  refine W.ret ?_
  show ∀ w_, _ → bodyPostM (fence none) 0 Try.prog Try.f90 _ Exit.ret _ w_
  exact fun w_ hS_ => fin_ret (ret1 rfl (RV.tmp (v := Value.func (.func 110) #[] #[Value.pointer (some ⟨p1, 0, none⟩)]) (by kernel_rfl)) hS_ ⟨p1, trivial, rfl, (hS_.pick [0] (by decide) rfl)⟩)

theorem iterM_c (xs : List ((Int × Int × Int) × (Ent))) (a : Option Addr) (cap : Nat) (most : Int) (tb pt : Nat) (M : List Nat) (τ : Type) (yv : Value) (U : τ → List Blk) (Φ : Nat → τ → Prop) (Ψ : τ → Prop) (s0 : τ) (w : World) (htb : At w (some ⟨tb, 0, none⟩) [Value.slice a xs.length cap, Value.int .i64 most, Value.func (.func 52) #[] #[]]) (hls : At w a (mm prM xs)) (hn : xs.length ≤ 100000) (hyl : (∀ i s (R : List (List Blk)) (u : World) (Mu : List Nat), i < xs.length → Φ i s → Keeps w M u Mu → Yld Try.prog yv ((fun k : Nat => [Value.agg ([Value.int .u8 (((xs.getD k dM).1).1), Value.int .u16 (((xs.getD k dM).1).2.1), Value.int .u32 (((xs.getD k dM).1).2.2)]).toArray, Value.agg ([Value.int .u8 (((xs.getD k dM).2).proto), Value.int .u16 (((xs.getD k dM).2).ext), Value.int .u16 (((xs.getD k dM).2).to), Value.int .u32 (((xs.getD k dM).2).remote), Value.int .u32 (((xs.getD k dM).2).host), Value.bool (((xs.getD k dM).2).on), Value.string (((xs.getD k dM).2).words), Value.int .u64 (((xs.getD k dM).2).ends)]).toArray]) i).toArray (Mem u Mu (U s :: R)) (fun b w' => ∃ s', (bif b then Φ (i + 1) s' else Ψ s') ∧ Mem u Mu (U s' :: R) w'))) (h0 : Φ 0 s0) (hl : Mem w M [U s0, [cb pt [Value.pointer (some ⟨tb, 0, none⟩)] 112]] w) (hMs : ∀ k ∈ M, k ∈ ([U s0, [cb pt [Value.pointer (some ⟨tb, 0, none⟩)] 112]] : List (List Blk)).flatten.map (·.b)) : Calls Try.prog 110 #[yv, Value.pointer (some ⟨pt, 0, none⟩)] w (RetM w (fun s : τ => Φ xs.length s ∨ Ψ s) (fun _ => .tuple #[]) M (fun s => [U s, [cb pt [Value.pointer (some ⟨tb, 0, none⟩)] 112]])) := by
  refine calls_W (M := M) (LL := [U s0, [cb pt [Value.pointer (some ⟨tb, 0, none⟩)] 112]]) (n := 23) Try.func110 rfl rfl (by simp) (hl) ?_
  refine W.seq (fun K1 hK1 => ?_)
  refine W.region ?_
  refine Wl.ys (v := Value.pointer (some ⟨tb, 0, none⟩)) rfl rfl (Ys.load (b := pt) (o' := 0) (i := 1) (j := 0) (cs := [Value.pointer (some ⟨tb, 0, none⟩)]) (v := Value.pointer (some ⟨tb, 0, none⟩)) rfl (by kernel_rfl) Try.isAgg112 rfl rfl rfl) ?_
  refine Wl.run 2 (by kernel_rfl) ?_
  refine Wl.ys (v := Value.slice a xs.length cap) rfl rfl (Ys.ld (a := ⟨tb, 0, none⟩) rfl (by kernel_rfl) Try.isAgg149 (fun w_ h_ => by have x_ := (At.held htb hl hMs h_).ld (q := 0) (v := Value.slice a xs.length cap) rfl; rw [ela_own0] at x_; exact x_)) ?_
  refine Wl.htS rfl (HtS.call (β := FS) (k := 111) (args := #[Value.slice a xs.length cap]) (Lin := []) (Lk := [U s0, [cb pt [Value.pointer (some ⟨tb, 0, none⟩)] 112]]) (Mi := []) (Lo := fun g2 => [g2.seg 161 (mm prM xs), U s0, [cb pt [Value.pointer (some ⟨tb, 0, none⟩)] 112]]) [] [0, 1] rfl (fun _ => by kernel_rfl) (by decide) rfl rfl rfl (fun w_ hm_ hl_ => (cloneM_c xs a cap _ (At.held hls hl hMs hm_) (by first | omega | (simp; done)))) (fun _ => rfl)) (fun g2 ok3 => ?_)
  refine Wl.run 2 (by kernel_rfl) ?_
  refine Wl.nil ?_
  refine hK1 _ _ _ ?_
  refine W.prune' [0, 9, 10, 11] [yv, Value.slice g2.a xs.length g2.cap, Value.int .i64 ((xs.length : Nat) : Int), Value.int .i64 0] (by kernel_rfl) (fun f5 => ?_)
  refine W.block ?_
  refine W.loop2 [0, 9, 10, 11] (fun (k : Nat) (s : τ) => [yv, Value.slice g2.a xs.length g2.cap, Value.int .i64 ((xs.length : Nat) : Int), Value.int .i64 ((k : Nat) : Int)]) (fun (k : Nat) (s : τ) => k ≤ xs.length ∧ Φ k s) (fun (k : Nat) (s : τ) => [g2.seg 161 (mm prM xs), U s, [cb pt [Value.pointer (some ⟨tb, 0, none⟩)] 112]]) (fun (k : Nat) (s : τ) => xs.length - k) 0 s0 (by kernel_rfl) ⟨(Nat.zero_le _), h0⟩ (by rfl) (fun k s f7 J6 hp8 hJ6 => ?_)
  obtain ⟨hk, hphi⟩ := hp8
  refine W.seq (fun K9 hK9 => ?_)
  refine W.region ?_
  refine Wl.run 1 (by kernel_rfl) ?_
  refine Wl.nil ?_
  refine hK9 _ _ _ ?_
  refine W.seq (fun K10 hK10 => ?_)
  refine W.cond (decide (((k : Nat) : Int) < ((xs.length : Nat) : Int))) (by kernel_rfl) (fun h11 => ?_) (fun h12 => ?_)
  · have qh11 := h11; try simp only [Bool.and_eq_true, Bool.or_eq_true, Bool.not_eq_true', Bool.not_eq_false', Bool.and_eq_false_iff, Bool.or_eq_false_iff, decide_eq_true_eq, decide_eq_false_iff_not, beq_iff_eq, bne_iff_ne, beq_eq_false_iff_ne, bne_eq_false_iff_eq] at qh11
    refine W.skip' ?_
    refine hK10 _ _ _ ?_
    refine W.prune' [0, 9, 10, 11] [yv, Value.slice g2.a xs.length g2.cap, Value.int .i64 ((xs.length : Nat) : Int), Value.int .i64 ((k : Nat) : Int)] (by kernel_rfl) (fun f13 => ?_)
    refine W.seq (fun K14 hK14 => ?_)
    refine W.block ?_
    refine W.seq (fun K15 hK15 => ?_)
    refine W.region ?_
    refine Wl.ys (v := Value.pointer (some (ela g2.a (k * 11)))) rfl rfl (Ys.indexAddr (k := .i64) (a := g2.a) (len := xs.length) (cap := g2.cap) (i := ((k : Nat) : Int)) (sz := 11) rfl (by kernel_rfl) (by kernel_rfl) Try.runUnderlying149 Try.sizeOf161 (by omega) (by omega) (by rw [FS.a_own (FS.notnil ok3 (by omega))]; rfl)) ?_
    refine Wl.ys (v := Value.agg ([Value.int .u8 (((xs.getD k dM).1).1), Value.int .u16 (((xs.getD k dM).1).2.1), Value.int .u32 (((xs.getD k dM).1).2.2), Value.int .u8 (((xs.getD k dM).2).proto), Value.int .u16 (((xs.getD k dM).2).ext), Value.int .u16 (((xs.getD k dM).2).to), Value.int .u32 (((xs.getD k dM).2).remote), Value.int .u32 (((xs.getD k dM).2).host), Value.bool (((xs.getD k dM).2).on), Value.string (((xs.getD k dM).2).words), Value.int .u64 (((xs.getD k dM).2).ends)]).toArray) rfl rfl (Ys.ldN (a := ela g2.a (k * 11)) (vs := [Value.int .u8 (((xs.getD k dM).1).1), Value.int .u16 (((xs.getD k dM).1).2.1), Value.int .u32 (((xs.getD k dM).1).2.2), Value.int .u8 (((xs.getD k dM).2).proto), Value.int .u16 (((xs.getD k dM).2).ext), Value.int .u16 (((xs.getD k dM).2).to), Value.int .u32 (((xs.getD k dM).2).remote), Value.int .u32 (((xs.getD k dM).2).host), Value.bool (((xs.getD k dM).2).on), Value.string (((xs.getD k dM).2).words), Value.int .u64 (((xs.getD k dM).2).ends)]) rfl (by kernel_rfl) Try.isAgg161 Try.sizeOf161 rfl (fun w_ h_ => (FS.at (i := 0) (t := 161) h_ rfl (FS.nil_cs ok3 (prM_zlen _))).ldN (mm_get (g := prM) (sz := 11) (fun _ => rfl) dM (xs := xs) (k := k) (by omega)))) ?_
    refine Wl.ht rfl (Ht.alloc (z := Value.agg ([Value.int .u8 0, Value.int .u16 0, Value.int .u32 0, Value.int .u8 0, Value.int .u16 0, Value.int .u16 0, Value.int .u32 0, Value.int .u32 0, Value.bool false, Value.string (bstr []), Value.int .u64 0]).toArray) (cs := [Value.int .u8 0, Value.int .u16 0, Value.int .u32 0, Value.int .u8 0, Value.int .u16 0, Value.int .u16 0, Value.int .u32 0, Value.int .u32 0, Value.bool false, Value.string (bstr []), Value.int .u64 0]) rfl rfl Try.zeroValue161 rfl) (fun p4 => ?_)
    refine Wl.ht rfl (Ht.storeN (b := p4) (o' := 0) (i := 0) (j := 0) (cs := [Value.int .u8 0, Value.int .u16 0, Value.int .u32 0, Value.int .u8 0, Value.int .u16 0, Value.int .u16 0, Value.int .u32 0, Value.int .u32 0, Value.bool false, Value.string (bstr []), Value.int .u64 0]) (vs := [Value.int .u8 (((xs.getD k dM).1).1), Value.int .u16 (((xs.getD k dM).1).2.1), Value.int .u32 (((xs.getD k dM).1).2.2), Value.int .u8 (((xs.getD k dM).2).proto), Value.int .u16 (((xs.getD k dM).2).ext), Value.int .u16 (((xs.getD k dM).2).to), Value.int .u32 (((xs.getD k dM).2).remote), Value.int .u32 (((xs.getD k dM).2).host), Value.bool (((xs.getD k dM).2).on), Value.string (((xs.getD k dM).2).words), Value.int .u64 (((xs.getD k dM).2).ends)]) (cs' := [Value.int .u8 (((xs.getD k dM).1).1), Value.int .u16 (((xs.getD k dM).1).2.1), Value.int .u32 (((xs.getD k dM).1).2.2), Value.int .u8 (((xs.getD k dM).2).proto), Value.int .u16 (((xs.getD k dM).2).ext), Value.int .u16 (((xs.getD k dM).2).to), Value.int .u32 (((xs.getD k dM).2).remote), Value.int .u32 (((xs.getD k dM).2).host), Value.bool (((xs.getD k dM).2).on), Value.string (((xs.getD k dM).2).words), Value.int .u64 (((xs.getD k dM).2).ends)]) (LL' := [[cb p4 [Value.int .u8 (((xs.getD k dM).1).1), Value.int .u16 (((xs.getD k dM).1).2.1), Value.int .u32 (((xs.getD k dM).1).2.2), Value.int .u8 (((xs.getD k dM).2).proto), Value.int .u16 (((xs.getD k dM).2).ext), Value.int .u16 (((xs.getD k dM).2).to), Value.int .u32 (((xs.getD k dM).2).remote), Value.int .u32 (((xs.getD k dM).2).host), Value.bool (((xs.getD k dM).2).on), Value.string (((xs.getD k dM).2).words), Value.int .u64 (((xs.getD k dM).2).ends)] 161], g2.seg 161 (mm prM xs), U s, [cb pt [Value.pointer (some ⟨tb, 0, none⟩)] 112]]) rfl rfl (by kernel_rfl) (by kernel_rfl) Try.sizeOf161 (by simp [Value.oneCell']) rfl rfl (by simp) rfl rfl) (fun _ => ?_)
    refine Wl.nil ?_
    refine hK15 _ _ _ ?_
    refine W.prune' [0, 4, 9, 10, 11] [yv, Value.pointer (some ⟨p4, 0, none⟩), Value.slice g2.a xs.length g2.cap, Value.int .i64 ((xs.length : Nat) : Int), Value.int .i64 ((k : Nat) : Int)] (by kernel_rfl) (fun f16 => ?_)
    refine W.seq (fun K17 hK17 => ?_)
    refine W.region ?_
    refine Wl.run 2 (by kernel_rfl) ?_
    refine Wl.ys (v := Value.agg ([Value.int .u8 (((xs.getD k dM).1).1), Value.int .u16 (((xs.getD k dM).1).2.1), Value.int .u32 (((xs.getD k dM).1).2.2)]).toArray) rfl rfl (Ys.loadN (b := p4) (o' := 0) (i := 0) (j := 0) (cs := [Value.int .u8 (((xs.getD k dM).1).1), Value.int .u16 (((xs.getD k dM).1).2.1), Value.int .u32 (((xs.getD k dM).1).2.2), Value.int .u8 (((xs.getD k dM).2).proto), Value.int .u16 (((xs.getD k dM).2).ext), Value.int .u16 (((xs.getD k dM).2).to), Value.int .u32 (((xs.getD k dM).2).remote), Value.int .u32 (((xs.getD k dM).2).host), Value.bool (((xs.getD k dM).2).on), Value.string (((xs.getD k dM).2).words), Value.int .u64 (((xs.getD k dM).2).ends)]) (vs := [Value.int .u8 (((xs.getD k dM).1).1), Value.int .u16 (((xs.getD k dM).1).2.1), Value.int .u32 (((xs.getD k dM).1).2.2)]) rfl (by kernel_rfl) Try.isAgg115 Try.sizeOf115 rfl rfl rfl rfl) ?_
    refine Wl.run 1 (by kernel_rfl) ?_
    refine Wl.ys (v := Value.agg ([Value.int .u8 (((xs.getD k dM).2).proto), Value.int .u16 (((xs.getD k dM).2).ext), Value.int .u16 (((xs.getD k dM).2).to), Value.int .u32 (((xs.getD k dM).2).remote), Value.int .u32 (((xs.getD k dM).2).host), Value.bool (((xs.getD k dM).2).on), Value.string (((xs.getD k dM).2).words), Value.int .u64 (((xs.getD k dM).2).ends)]).toArray) rfl rfl (Ys.loadN (b := p4) (o' := 3) (i := 0) (j := 0) (cs := [Value.int .u8 (((xs.getD k dM).1).1), Value.int .u16 (((xs.getD k dM).1).2.1), Value.int .u32 (((xs.getD k dM).1).2.2), Value.int .u8 (((xs.getD k dM).2).proto), Value.int .u16 (((xs.getD k dM).2).ext), Value.int .u16 (((xs.getD k dM).2).to), Value.int .u32 (((xs.getD k dM).2).remote), Value.int .u32 (((xs.getD k dM).2).host), Value.bool (((xs.getD k dM).2).on), Value.string (((xs.getD k dM).2).words), Value.int .u64 (((xs.getD k dM).2).ends)]) (vs := [Value.int .u8 (((xs.getD k dM).2).proto), Value.int .u16 (((xs.getD k dM).2).ext), Value.int .u16 (((xs.getD k dM).2).to), Value.int .u32 (((xs.getD k dM).2).remote), Value.int .u32 (((xs.getD k dM).2).host), Value.bool (((xs.getD k dM).2).on), Value.string (((xs.getD k dM).2).words), Value.int .u64 (((xs.getD k dM).2).ends)]) rfl (by kernel_rfl) Try.isAgg62 Try.sizeOf62 rfl rfl rfl rfl) ?_
    refine Wl.htIn rfl (HtIn.yield (σ := τ) (Φ := fun b s => bif b then Φ (k + 1) s else Ψ s) (Lf := fun s => [U s, [cb p4 [Value.int .u8 (((xs.getD k dM).1).1), Value.int .u16 (((xs.getD k dM).1).2.1), Value.int .u32 (((xs.getD k dM).1).2.2), Value.int .u8 (((xs.getD k dM).2).proto), Value.int .u16 (((xs.getD k dM).2).ext), Value.int .u16 (((xs.getD k dM).2).to), Value.int .u32 (((xs.getD k dM).2).remote), Value.int .u32 (((xs.getD k dM).2).host), Value.bool (((xs.getD k dM).2).on), Value.string (((xs.getD k dM).2).words), Value.int .u64 (((xs.getD k dM).2).ends)] 161], g2.seg 161 (mm prM xs), [cb pt [Value.pointer (some ⟨tb, 0, none⟩)] 112]]) (args := #[Value.agg ([Value.int .u8 (((xs.getD k dM).1).1), Value.int .u16 (((xs.getD k dM).1).2.1), Value.int .u32 (((xs.getD k dM).1).2.2)]).toArray, Value.agg ([Value.int .u8 (((xs.getD k dM).2).proto), Value.int .u16 (((xs.getD k dM).2).ext), Value.int .u16 (((xs.getD k dM).2).to), Value.int .u32 (((xs.getD k dM).2).remote), Value.int .u32 (((xs.getD k dM).2).host), Value.bool (((xs.getD k dM).2).on), Value.string (((xs.getD k dM).2).words), Value.int .u64 (((xs.getD k dM).2).ends)]).toArray]) rfl rfl (fun _ => by kernel_rfl) (Yld.cast rfl (Yld.pre (fun _ h_ => h_.pick [2, 0, 1, 3] (by decide) rfl) <| hyl (k) s [[cb p4 [Value.int .u8 (((xs.getD k dM).1).1), Value.int .u16 (((xs.getD k dM).1).2.1), Value.int .u32 (((xs.getD k dM).1).2.2), Value.int .u8 (((xs.getD k dM).2).proto), Value.int .u16 (((xs.getD k dM).2).ext), Value.int .u16 (((xs.getD k dM).2).to), Value.int .u32 (((xs.getD k dM).2).remote), Value.int .u32 (((xs.getD k dM).2).host), Value.bool (((xs.getD k dM).2).on), Value.string (((xs.getD k dM).2).words), Value.int .u64 (((xs.getD k dM).2).ends)] 161], g2.seg 161 (mm prM xs), [cb pt [Value.pointer (some ⟨tb, 0, none⟩)] 112]] w M (by omega) hphi (Keeps.refl _ _)))) (fun x21 => ?_)
    obtain ⟨⟨b18, s19⟩, hs20⟩ := x21
    refine Wl.castL (LL' := [U s19, [cb p4 [Value.int .u8 (((xs.getD k dM).1).1), Value.int .u16 (((xs.getD k dM).1).2.1), Value.int .u32 (((xs.getD k dM).1).2.2), Value.int .u8 (((xs.getD k dM).2).proto), Value.int .u16 (((xs.getD k dM).2).ext), Value.int .u16 (((xs.getD k dM).2).to), Value.int .u32 (((xs.getD k dM).2).remote), Value.int .u32 (((xs.getD k dM).2).host), Value.bool (((xs.getD k dM).2).on), Value.string (((xs.getD k dM).2).words), Value.int .u64 (((xs.getD k dM).2).ends)] 161], g2.seg 161 (mm prM xs), [cb pt [Value.pointer (some ⟨tb, 0, none⟩)] 112]]) rfl ?_
    refine Wl.run 1 (by kernel_rfl) ?_
    refine Wl.nil ?_
    refine hK17 _ _ _ ?_
    refine W.pick (LL' := [U s19, g2.seg 161 (mm prM xs), [cb pt [Value.pointer (some ⟨tb, 0, none⟩)] 112]]) [0, 2, 3] (by decide) rfl ?_
    refine W.prune' [0, 9, 10, 11, 21] [yv, Value.slice g2.a xs.length g2.cap, Value.int .i64 ((xs.length : Nat) : Int), Value.int .i64 ((k : Nat) : Int), Value.bool (!b18)] (by kernel_rfl) (fun f22 => ?_)
    refine W.cond (!b18) (by kernel_rfl) (fun h23 => ?_) (fun h24 => ?_)
    · refine W.ret ?_
      show ∀ w_, _ → bodyPostM (fence none) 0 Try.prog Try.f110 _ Exit.ret _ w_
      exact fun w_ hS_ => fin_ret (ret0 rfl  ⟨s19, (.inr (by have hb_ : b18 = false := (by simpa using h23); rw [hb_] at hs20; exact hs20)), rfl, (hS_.pick [0, 2] (by decide) rfl)⟩)
    · refine W.skip' ?_
      refine hK14 _ _ _ ?_
      refine W.prune' [0, 9, 10, 11] [yv, Value.slice g2.a xs.length g2.cap, Value.int .i64 ((xs.length : Nat) : Int), Value.int .i64 ((k : Nat) : Int)] (by kernel_rfl) (fun f25 => ?_)
      refine W.region ?_
      refine Wl.ys (v := Value.int .i64 ((k + 1 : Nat) : Int)) rfl rfl ((Ys.pure (v := .int .i64 (iadd .i64 ((k : Nat) : Int) 1)) (fun _ => by kernel_rfl)).conseq (int_congr (iadd_eq (by omega) (by omega) (by omega)))) ?_
      refine Wl.run 1 (by kernel_rfl) ?_
      refine Wl.nil ?_
      refine fun w_ h_ => hJ6 (k + 1) s19 _ w_ (by omega) ⟨(by omega), (by have hb_ : b18 = true := (by simpa using h24); rw [hb_] at hs20; exact hs20)⟩ ?_ (h_.pick [1, 0, 2] (by decide) rfl)
      kernel_rfl
  · have qh12 := h12; try simp only [Bool.and_eq_true, Bool.or_eq_true, Bool.not_eq_true', Bool.not_eq_false', Bool.and_eq_false_iff, Bool.or_eq_false_iff, decide_eq_true_eq, decide_eq_false_iff_not, beq_iff_eq, bne_iff_ne, beq_eq_false_iff_ne, bne_eq_false_iff_eq] at qh12
    refine W.exit ?_
    show ∀ w_, _ → bodyPostM (fence none) 0 Try.prog Try.f110 _ Exit.normal _ w_
    exact fun w_ hS_ => fin_normal (ret0 rfl  ⟨s, (.inl (by rw [show xs.length = k by omega]; exact hphi)), rfl, (hS_.pick [1, 2] (by decide) rfl)⟩)

theorem allM_it (xs : List ((Int × Int × Int) × (Ent))) (a : Option Addr) (cap : Nat) (most : Int) (tb pt : Nat) (M : List Nat) (w : World) (htb : At w (some ⟨tb, 0, none⟩) [Value.slice a xs.length cap, Value.int .i64 most, Value.func (.func 52) #[] #[]]) (hls : At w a (mm prM xs)) (hn : xs.length ≤ 100000) :
    Iter2 Try.prog 110 #[.pointer (some ⟨pt, 0, none⟩)] (fun k : Nat => [Value.agg ([Value.int .u8 (((xs.getD k dM).1).1), Value.int .u16 (((xs.getD k dM).1).2.1), Value.int .u32 (((xs.getD k dM).1).2.2)]).toArray, Value.agg ([Value.int .u8 (((xs.getD k dM).2).proto), Value.int .u16 (((xs.getD k dM).2).ext), Value.int .u16 (((xs.getD k dM).2).to), Value.int .u32 (((xs.getD k dM).2).remote), Value.int .u32 (((xs.getD k dM).2).host), Value.bool (((xs.getD k dM).2).on), Value.string (((xs.getD k dM).2).words), Value.int .u64 (((xs.getD k dM).2).ends)]).toArray]) xs.length [[cb pt [Value.pointer (some ⟨tb, 0, none⟩)] 112]] w M := fun τ yv U Φ Ψ s0 hyl h0 hl hMs => iterM_c xs a cap most tb pt M τ yv U Φ Ψ s0 w htb hls hn hyl h0 hl hMs
end Go.Proofs.Ytjkhmbigoloeiaa.Oct
