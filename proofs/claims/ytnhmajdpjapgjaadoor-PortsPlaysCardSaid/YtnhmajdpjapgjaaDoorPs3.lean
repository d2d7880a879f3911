/-
  The document's example. No condition.
-/
import Derived.Test.YtnhmajdpjapgjaaDoorPs2
set_option linter.unusedVariables false
set_option linter.unusedSimpArgs false
set_option maxRecDepth 20000
namespace Go.Proofs.YtnhmajdpjapgjaaDoor.Oct
open Go.RowKit Base
attribute [local irreducible] Ys Yc Ht HtS HtIn Wl Wd W Mem pf dpf

theorem up_f {T : Nat → Bool} {p q : Nat} (v : Bool) (h : (q == p) = false) : up T p v q = T q := by unfold up; rw [h]; rfl
theorem speaks_law : tkB (fun _ => false) 1024 = true ∧ pkV (tkT (fun _ => false) 1024) 0 = 1025 ∧ pkV (pkT (tkT (fun _ => false) 1024) 0) 64511 = 65535 ∧ pkV (pkT (pkT (tkT (fun _ => false) 1024) 0) 64511) 64511 = 1026 := by
  obtain ⟨hB, hT, _⟩ := tk_ok (T := fun _ => false) (p := 1024) (by decide) rfl 0
  refine ⟨hB, ?_⟩
  rw [hT]
  obtain ⟨T1, h1⟩ : ∃ T1, T1 = up (fun _ => false) 1024 true := ⟨_, rfl⟩
  rw [← h1]
  have a1 : T1 1024 = true := by rw [h1, up_same]
  have a2 : ∀ q, q ≠ 1024 → T1 q = false := fun q hq => by rw [h1, up_other _ _ hq]
  have e1 : pk T1 0 = 1025 := by
    unfold pk
    have z : nf T1 (1024 + 0 % 64512) = 1025 := by
      show nf T1 1024 = 1025
      rw [nf_step (by decide) a1, nf_stop (by decide) (a2 1025 (by decide))]
    rw [z]; rfl
  have v1 : pkV T1 0 = 1025 := by unfold pkV; rw [e1]; rfl
  obtain ⟨T2, h2⟩ : ∃ T2, T2 = pkT T1 0 := ⟨_, rfl⟩
  rw [← h2]
  have b0 : T2 = up T1 1025 true := by rw [h2]; unfold pkT; rw [e1]; rfl
  have b1 : T2 1025 = true := by rw [b0, up_same]
  have b2 : T2 1024 = true := by rw [b0, up_other _ _ (by decide), a1]
  have b3 : ∀ q, q ≠ 1024 → q ≠ 1025 → T2 q = false := fun q h h' => by rw [b0, up_other _ _ h', a2 q h]
  have e2 : pk T2 64511 = 65535 := by
    unfold pk
    have z : nf T2 (1024 + 64511 % 64512) = 65535 := by
      show nf T2 65535 = 65535
      exact nf_stop (by decide) (b3 _ (by decide) (by decide))
    rw [z]; rfl
  have v2 : pkV T2 64511 = 65535 := by unfold pkV; rw [e2]; rfl
  obtain ⟨T3, h3⟩ : ∃ T3, T3 = pkT T2 64511 := ⟨_, rfl⟩
  rw [← h3]
  have c0 : T3 = up T2 65535 true := by rw [h3]; unfold pkT; rw [e2]; rfl
  have e3 : pk T3 64511 = 1026 := by
    unfold pk
    have z : nf T3 (1024 + 64511 % 64512) = 65536 := by
      show nf T3 65535 = 65536
      rw [nf_step (by decide) (by rw [c0, up_same]), nf_end (Nat.le_refl _)]
    rw [z, if_neg (by decide), nf_step (by decide) (by rw [c0, up_other _ _ (by decide), b2]), nf_step (by decide) (by rw [c0, up_other _ _ (by decide), b1]), nf_stop (by decide) (by rw [c0, up_other _ _ (by decide)]; exact b3 _ (by decide) (by decide))]
  have v3 : pkV T3 64511 = 1026 := by unfold pkV; rw [e3]; rfl
  exact ⟨v1, v2, v3⟩
theorem speaks7_c  (w : World) (htab : At w (some ⟨1, 0, none⟩) (byc dbt)) : Calls Tryd.prog 10 #[] w (Ret w (.bool true)) := by
  refine calls_W (M := []) (LL := []) (n := 41) Tryd.func10 rfl rfl (by simp) (Mem.refl _) ?_
  refine W.seq (fun K1 hK1 => ?_)
  refine W.region ?_
  refine Wl.run 1 (by kernel_rfl) ?_
  refine Wl.nil ?_
  refine hK1 _ _ _ ?_
  refine W.seq (fun K2 hK2 => ?_)
  refine W.region ?_
  refine Wl.htS rfl (HtS.call (β := Nat) (k := 11) (args := #[]) (Lin := []) (Lk := []) (Mi := []) (Lo := fun pb3 => [[cb pb3 (psC (fun _ => false) 0) 74]]) [] [] rfl (fun _ => by kernel_rfl) (by decide) rfl rfl rfl (fun w_ hm_ hl_ => (new_c _)) (fun _ => rfl)) (fun pb3 _ => ?_)
  refine Wl.run 1 (by kernel_rfl) ?_
  refine Wl.nil ?_
  refine hK2 _ _ _ ?_
  refine W.prune' [1] [Value.pointer (some ⟨pb3, 0, none⟩)] (by kernel_rfl) (fun f5 => ?_)
  refine W.seq (fun K6 hK6 => ?_)
  refine W.seq (fun K7 hK7 => ?_)
  refine W.region ?_
  refine Wl.run 3 (by kernel_rfl) ?_
  refine Wl.guard (v := Value.pointer (some ⟨pb3, 0, none⟩)) (true) rfl (by kernel_rfl) rfl (fun _ => Ys.pure (fun _ => by kernel_rfl)) ?_
  have hN10 := tkN_bd (fun _ => false) 1024 0
  refine Wl.htwS rfl (by kernel_rfl) (HtS.call (β := Unit) (k := 15) (args := #[Value.pointer (some ⟨pb3, 0, none⟩), Value.int .u16 1024]) (Lin := [[cb pb3 (psC (fun _ => false) 0) 74]]) (Lk := []) (Mi := [pb3]) (Lo := fun u8 => [[cb pb3 (psC (tkT (fun _ => false) 1024) (tkN (fun _ => false) 1024 0)) 74]]) [0] [] rfl (fun _ => by kernel_rfl) (by decide) rfl rfl rfl (fun w_ hm_ hl_ => (take_c (fun _ => false) 0 pb3 1024 _ hl_ (by omega) (by omega) (by omega))) (fun _ => rfl)) (fun u8 _ => ?_)
  refine Wl.guard (v := Value.bool (!(tkB (fun _ => false) 1024))) (true) rfl (by kernel_rfl) rfl (fun _ => Ys.pure (fun _ => by kernel_rfl)) ?_
  refine Wl.run 1 (by kernel_rfl) ?_
  refine Wl.nil ?_
  refine hK7 _ _ _ ?_
  refine W.prune' [1, 15] [Value.pointer (some ⟨pb3, 0, none⟩), Value.bool (!(tkB (fun _ => false) 1024))] (by kernel_rfl) (fun f11 => ?_)
  refine W.cond (!(tkB (fun _ => false) 1024)) (by kernel_rfl) (fun h12 => ?_) (fun h13 => ?_)
  · exact absurd (speaks_law.1.symm.trans (by simpa using h12)) (by decide)
  · refine W.skip' ?_
    refine hK6 _ _ _ ?_
    refine W.prune' [1] [Value.pointer (some ⟨pb3, 0, none⟩)] (by kernel_rfl) (fun f14 => ?_)
    refine W.seq (fun K15 hK15 => ?_)
    refine W.region ?_
    refine Wl.run 1 (by kernel_rfl) ?_
    have hN18 := pkN_bd (tkT (fun _ => false) 1024) 0 (tkN (fun _ => false) 1024 0)
    have hV19 := pkV_lt (tkT (fun _ => false) 1024) 0
    refine Wl.htS rfl (HtS.call (β := Unit) (k := 12) (args := #[Value.pointer (some ⟨pb3, 0, none⟩), Value.int .u64 0]) (Lin := [[cb pb3 (psC (tkT (fun _ => false) 1024) (tkN (fun _ => false) 1024 0)) 74]]) (Lk := []) (Mi := [pb3]) (Lo := fun u16 => [[cb pb3 (psC (pkT (tkT (fun _ => false) 1024) 0) (pkN (tkT (fun _ => false) 1024) 0 (tkN (fun _ => false) 1024 0))) 74]]) [0] [] rfl (fun _ => by kernel_rfl) (by decide) rfl rfl rfl (fun w_ hm_ hl_ => (pick_c (tkT (fun _ => false) 1024) (tkN (fun _ => false) 1024 0) pb3 0 _ hl_ (by omega) (by omega) (htab.mem0 hm_) (by omega))) (fun _ => rfl)) (fun u16 _ => ?_)
    refine Wl.run 5 (by kernel_rfl) ?_
    refine Wl.nil ?_
    refine hK15 _ _ _ ?_
    refine W.prune' [1, 2] [Value.pointer (some ⟨pb3, 0, none⟩), Value.int .u16 ((pkV (tkT (fun _ => false) 1024) 0 : Nat) : Int)] (by kernel_rfl) (fun f20 => ?_)
    refine W.seq (fun K21 hK21 => ?_)
    refine W.region ?_
    refine Wl.run 1 (by kernel_rfl) ?_
    have hN24 := pkN_bd (pkT (tkT (fun _ => false) 1024) 0) 64511 (pkN (tkT (fun _ => false) 1024) 0 (tkN (fun _ => false) 1024 0))
    have hV25 := pkV_lt (pkT (tkT (fun _ => false) 1024) 0) 64511
    refine Wl.htS rfl (HtS.call (β := Unit) (k := 12) (args := #[Value.pointer (some ⟨pb3, 0, none⟩), Value.int .u64 64511]) (Lin := [[cb pb3 (psC (pkT (tkT (fun _ => false) 1024) 0) (pkN (tkT (fun _ => false) 1024) 0 (tkN (fun _ => false) 1024 0))) 74]]) (Lk := []) (Mi := [pb3]) (Lo := fun u22 => [[cb pb3 (psC (pkT (pkT (tkT (fun _ => false) 1024) 0) 64511) (pkN (pkT (tkT (fun _ => false) 1024) 0) 64511 (pkN (tkT (fun _ => false) 1024) 0 (tkN (fun _ => false) 1024 0)))) 74]]) [0] [] rfl (fun _ => by kernel_rfl) (by decide) rfl rfl rfl (fun w_ hm_ hl_ => (pick_c (pkT (tkT (fun _ => false) 1024) 0) (pkN (tkT (fun _ => false) 1024) 0 (tkN (fun _ => false) 1024 0)) pb3 64511 _ hl_ (by omega) (by omega) (htab.mem0 hm_) (by omega))) (fun _ => rfl)) (fun u22 _ => ?_)
    refine Wl.run 5 (by kernel_rfl) ?_
    refine Wl.nil ?_
    refine hK21 _ _ _ ?_
    refine W.prune' [1, 2, 4] [Value.pointer (some ⟨pb3, 0, none⟩), Value.int .u16 ((pkV (tkT (fun _ => false) 1024) 0 : Nat) : Int), Value.int .u16 ((pkV (pkT (tkT (fun _ => false) 1024) 0) 64511 : Nat) : Int)] (by kernel_rfl) (fun f26 => ?_)
    refine W.seq (fun K27 hK27 => ?_)
    refine W.region ?_
    refine Wl.run 1 (by kernel_rfl) ?_
    have hN30 := pkN_bd (pkT (pkT (tkT (fun _ => false) 1024) 0) 64511) 64511 (pkN (pkT (tkT (fun _ => false) 1024) 0) 64511 (pkN (tkT (fun _ => false) 1024) 0 (tkN (fun _ => false) 1024 0)))
    have hV31 := pkV_lt (pkT (pkT (tkT (fun _ => false) 1024) 0) 64511) 64511
    refine Wl.htS rfl (HtS.call (β := Unit) (k := 12) (args := #[Value.pointer (some ⟨pb3, 0, none⟩), Value.int .u64 64511]) (Lin := [[cb pb3 (psC (pkT (pkT (tkT (fun _ => false) 1024) 0) 64511) (pkN (pkT (tkT (fun _ => false) 1024) 0) 64511 (pkN (tkT (fun _ => false) 1024) 0 (tkN (fun _ => false) 1024 0)))) 74]]) (Lk := []) (Mi := [pb3]) (Lo := fun u28 => [[cb pb3 (psC (pkT (pkT (pkT (tkT (fun _ => false) 1024) 0) 64511) 64511) (pkN (pkT (pkT (tkT (fun _ => false) 1024) 0) 64511) 64511 (pkN (pkT (tkT (fun _ => false) 1024) 0) 64511 (pkN (tkT (fun _ => false) 1024) 0 (tkN (fun _ => false) 1024 0))))) 74]]) [0] [] rfl (fun _ => by kernel_rfl) (by decide) rfl rfl rfl (fun w_ hm_ hl_ => (pick_c (pkT (pkT (tkT (fun _ => false) 1024) 0) 64511) (pkN (pkT (tkT (fun _ => false) 1024) 0) 64511 (pkN (tkT (fun _ => false) 1024) 0 (tkN (fun _ => false) 1024 0))) pb3 64511 _ hl_ (by omega) (by omega) (htab.mem0 hm_) (by omega))) (fun _ => rfl)) (fun u28 _ => ?_)
    refine Wl.run 5 (by kernel_rfl) ?_
    refine Wl.nil ?_
    refine hK27 _ _ _ ?_
    refine W.pick (LL' := []) [] (by decide) rfl ?_
    refine W.prune' [2, 4, 6] [Value.int .u16 ((pkV (tkT (fun _ => false) 1024) 0 : Nat) : Int), Value.int .u16 ((pkV (pkT (tkT (fun _ => false) 1024) 0) 64511 : Nat) : Int), Value.int .u16 ((pkV (pkT (pkT (tkT (fun _ => false) 1024) 0) 64511) 64511 : Nat) : Int)] (by kernel_rfl) (fun f32 => ?_)
    refine W.seq (fun K33 hK33 => ?_)
    refine W.region ?_
    refine Wl.run 3 (by kernel_rfl) ?_
    refine Wl.guard (v := Value.int .u16 ((pkV (pkT (tkT (fun _ => false) 1024) 0) 64511 : Nat) : Int)) (((pkV (tkT (fun _ => false) 1024) 0 : Nat) : Int) == 1025) rfl (wantT rfl (by kernel_rfl)) rfl (fun hg34 => ?_) ?_
    · have qhg34 := hg34; try simp only [Bool.and_eq_true, Bool.or_eq_true, Bool.not_eq_true', Bool.not_eq_false', Bool.and_eq_false_iff, Bool.or_eq_false_iff, decide_eq_true_eq, decide_eq_false_iff_not, beq_iff_eq, bne_iff_ne, beq_eq_false_iff_ne, bne_eq_false_iff_eq] at qhg34
      exact Ys.pure (fun _ => by kernel_rfl)
    refine Wl.guard (v := Value.bool (((pkV (pkT (tkT (fun _ => false) 1024) 0) 64511 : Nat) : Int) == 65535)) (((pkV (tkT (fun _ => false) 1024) 0 : Nat) : Int) == 1025) rfl (wantT rfl (by kernel_rfl)) rfl (fun hg35 => ?_) ?_
    · have qhg35 := hg35; try simp only [Bool.and_eq_true, Bool.or_eq_true, Bool.not_eq_true', Bool.not_eq_false', Bool.and_eq_false_iff, Bool.or_eq_false_iff, decide_eq_true_eq, decide_eq_false_iff_not, beq_iff_eq, bne_iff_ne, beq_eq_false_iff_ne, bne_eq_false_iff_eq] at qhg35
      refine Ys.at (t := 34) (v0 := Value.int .u16 ((pkV (pkT (tkT (fun _ => false) 1024) 0) 64511 : Nat) : Int)) (lz (g := ((pkV (tkT (fun _ => false) 1024) 0 : Nat) : Int) == 1025) (u := undef) hg35 (by kernel_rfl)) ?_
      exact Ys.pure (fun _ => by kernel_rfl)
    refine Wl.ys (v := Value.bool ((((pkV (tkT (fun _ => false) 1024) 0 : Nat) : Int) == 1025) && (((pkV (pkT (tkT (fun _ => false) 1024) 0) 64511 : Nat) : Int) == 65535))) rfl rfl (Ys.and (e := ((pkV (tkT (fun _ => false) 1024) 0 : Nat) : Int) == 1025) (b := ((pkV (pkT (tkT (fun _ => false) 1024) 0) 64511 : Nat) : Int) == 65535) rfl (by kernel_rfl) (by kernel_rfl) (by kernel_rfl)) ?_
    refine Wl.run 1 (by kernel_rfl) ?_
    refine Wl.guard (v := Value.int .u16 ((pkV (pkT (pkT (tkT (fun _ => false) 1024) 0) 64511) 64511 : Nat) : Int)) ((((pkV (tkT (fun _ => false) 1024) 0 : Nat) : Int) == 1025) && (((pkV (pkT (tkT (fun _ => false) 1024) 0) 64511 : Nat) : Int) == 65535)) rfl (wantT rfl (by kernel_rfl)) rfl (fun hg36 => ?_) ?_
    · have qhg36 := hg36; try simp only [Bool.and_eq_true, Bool.or_eq_true, Bool.not_eq_true', Bool.not_eq_false', Bool.and_eq_false_iff, Bool.or_eq_false_iff, decide_eq_true_eq, decide_eq_false_iff_not, beq_iff_eq, bne_iff_ne, beq_eq_false_iff_ne, bne_eq_false_iff_eq] at qhg36
      exact Ys.pure (fun _ => by kernel_rfl)
    refine Wl.guard (v := Value.bool (((pkV (pkT (pkT (tkT (fun _ => false) 1024) 0) 64511) 64511 : Nat) : Int) == 1026)) ((((pkV (tkT (fun _ => false) 1024) 0 : Nat) : Int) == 1025) && (((pkV (pkT (tkT (fun _ => false) 1024) 0) 64511 : Nat) : Int) == 65535)) rfl (wantT rfl (by kernel_rfl)) rfl (fun hg37 => ?_) ?_
    · have qhg37 := hg37; try simp only [Bool.and_eq_true, Bool.or_eq_true, Bool.not_eq_true', Bool.not_eq_false', Bool.and_eq_false_iff, Bool.or_eq_false_iff, decide_eq_true_eq, decide_eq_false_iff_not, beq_iff_eq, bne_iff_ne, beq_eq_false_iff_ne, bne_eq_false_iff_eq] at qhg37
      refine Ys.at (t := 38) (v0 := Value.int .u16 ((pkV (pkT (pkT (tkT (fun _ => false) 1024) 0) 64511) 64511 : Nat) : Int)) (lz (g := (((pkV (tkT (fun _ => false) 1024) 0 : Nat) : Int) == 1025) && (((pkV (pkT (tkT (fun _ => false) 1024) 0) 64511 : Nat) : Int) == 65535)) (u := undef) hg37 (by kernel_rfl)) ?_
      exact Ys.pure (fun _ => by kernel_rfl)
    refine Wl.ys (v := Value.bool (((((pkV (tkT (fun _ => false) 1024) 0 : Nat) : Int) == 1025) && (((pkV (pkT (tkT (fun _ => false) 1024) 0) 64511 : Nat) : Int) == 65535)) && (((pkV (pkT (pkT (tkT (fun _ => false) 1024) 0) 64511) 64511 : Nat) : Int) == 1026))) rfl rfl (Ys.and (e := (((pkV (tkT (fun _ => false) 1024) 0 : Nat) : Int) == 1025) && (((pkV (pkT (tkT (fun _ => false) 1024) 0) 64511 : Nat) : Int) == 65535)) (b := ((pkV (pkT (pkT (tkT (fun _ => false) 1024) 0) 64511) 64511 : Nat) : Int) == 1026) rfl (by kernel_rfl) (by kernel_rfl) (by kernel_rfl)) ?_
    refine Wl.run 1 (by kernel_rfl) ?_
    refine Wl.nil ?_
    refine hK33 _ _ _ ?_
    refine W.prune' [0] [Value.bool (((((pkV (tkT (fun _ => false) 1024) 0 : Nat) : Int) == 1025) && (((pkV (pkT (tkT (fun _ => false) 1024) 0) 64511 : Nat) : Int) == 65535)) && (((pkV (pkT (pkT (tkT (fun _ => false) 1024) 0) 64511) 64511 : Nat) : Int) == 1026))] (by kernel_rfl) (fun f38 => ?_)
    refine W.ret ?_
    show ∀ w_, _ → bodyPostM (fence none) 0 Tryd.prog Tryd.f10 _ Exit.ret _ w_
    exact fun w_ hS_ => fin_ret (ret1 rfl (RV.tmp (v := Value.bool (((((pkV (tkT (fun _ => false) 1024) 0 : Nat) : Int) == 1025) && (((pkV (pkT (tkT (fun _ => false) 1024) 0) 64511 : Nat) : Int) == 65535)) && (((pkV (pkT (pkT (tkT (fun _ => false) 1024) 0) 64511) 64511 : Nat) : Int) == 1026))) (by kernel_rfl)) hS_ ⟨by clear hK1 hK2 hK6 hK7 hK15 hK21 hK27 hK33; refine congrArg Ending.returned ?_; obtain ⟨z0_, z1_, z2_, z3_⟩ := speaks_law; rw [z1_, z2_, z3_]; rfl, hS_.below⟩)

end Go.Proofs.YtnhmajdpjapgjaaDoor.Oct
