import Derived.Test.YtejeafjkhomdoaaKFl5
import Derived.Test.YtejeafjkhomdoaaKTr10
import Derived.Test.YtejeafjkhomdoaaKTr8
set_option linter.unusedVariables false
set_option linter.unusedSimpArgs false
set_option maxRecDepth 20000
namespace Go.Proofs.Ytejeafjkhomdoaa.Oct
open Go.RowKit Base
attribute [local irreducible] Ys Yc Ht HtS HtIn Wl Wd W Mem pf dpf Wa Wo
theorem bv_w4 {xs : List UInt8} {k : Nat} (h : k + 4 ≤ xs.length) : bv ((xs.drop k).take 4) = a4 xs k := by
  obtain ⟨a, b, c, d, r, e⟩ : ∃ a b c d r, xs.drop k = a :: b :: c :: d :: r := by
    have hl : 4 ≤ (xs.drop k).length := by rw [List.length_drop]; omega
    match hx : xs.drop k, hl with
    | a :: b :: c :: d :: r, _ => exact ⟨a, b, c, d, r, rfl⟩
  have g : ∀ i, xs.getD (k + i) 0 = (xs.drop k).getD i 0 := fun i => by simp [List.getElem?_drop]
  have g0 := g 0; have g1 := g 1; have g2 := g 2; have g3 := g 3
  rw [e] at g0 g1 g2 g3 ⊢
  unfold a4 w2
  rw [show k + 2 + 1 = k + 3 from rfl, show xs.getD k 0 = a from g0, g1, g2, g3]
  simp [bv]; omega
structure Told (pr : UInt8) (s d : Nat) (xs Z : List UInt8) : Prop where
  c : inC Z = false
  p : Z.getD 9 0 = pr
  s : a4 Z 12 = s
  d : a4 Z 16 = d
  f : w2 Z 20 = w2 xs 0
  t : w2 Z 22 = w2 xs 2
  k : Z.getD 20 0 = xs.getD 0 0
  o : Z.getD 21 0 = xs.getD 1 0
  i : w2 Z 24 = w2 xs 4
theorem told28 (tt pr : UInt8) (id s d : Nat) (xs : List UInt8) (hs : s < 4294967296) (hd : d < 4294967296) (h8 : 8 ≤ xs.length) (hx : ¬ 1480 < xs.length) (m : Nat) (hm : 28 ≤ m) : Told pr s d xs ((iB tt pr id s d xs).take m) := by
  obtain ⟨x0, x1, x2, x3, x4, x5, x6, x7, r, rfl⟩ : ∃ x0 x1 x2 x3 x4 x5 x6 x7 r, xs = x0 :: x1 :: x2 :: x3 :: x4 :: x5 :: x6 :: x7 :: r := by
    match xs, h8 with
    | x0 :: x1 :: x2 :: x3 :: x4 :: x5 :: x6 :: x7 :: r, _ => exact ⟨x0, x1, x2, x3, x4, x5, x6, x7, r, rfl⟩
  obtain ⟨m, rfl⟩ : ∃ j, m = j + 28 := ⟨m - 28, by omega⟩
  obtain ⟨c, hc⟩ : ∃ c, cks (iH tt pr id s d (r.length + 8)) = c := ⟨_, rfl⟩
  have e : (iB tt pr id s d (x0 :: x1 :: x2 :: x3 :: x4 :: x5 :: x6 :: x7 :: r)).take (m + 28) = 69 :: 0 :: UInt8.ofNat ((20 + (r.length + 8)) / 256) :: UInt8.ofNat (20 + (r.length + 8)) :: UInt8.ofNat (id / 256) :: UInt8.ofNat id :: UInt8.ofNat (16384 / 256) :: UInt8.ofNat 16384 :: tt :: pr :: UInt8.ofNat (c / 256) :: UInt8.ofNat c :: UInt8.ofNat (s / 256 / 256 / 256) :: UInt8.ofNat (s / 256 / 256) :: UInt8.ofNat (s / 256) :: UInt8.ofNat s :: UInt8.ofNat (d / 256 / 256 / 256) :: UInt8.ofNat (d / 256 / 256) :: UInt8.ofNat (d / 256) :: UInt8.ofNat d :: x0 :: x1 :: x2 :: x3 :: x4 :: x5 :: x6 :: x7 :: r.take m := by
    unfold iB; rw [if_neg hx]; simp only [List.length_cons]; rw [hc]; rfl
  rw [e]
  constructor
  · unfold inC w2; simp; omega
  · rfl
  · unfold a4 w2; simp; omega
  · unfold a4 w2; simp; omega
  · rfl
  · rfl
  · rfl
  · rfl
  · rfl
theorem mg_of {xs : List UInt8} (h : mR xs = 0) : mg xs = true ∧ 8 ≤ xs.length := by
  refine ⟨by unfold mg; rw [h]; rfl, ?_⟩
  by_cases hl : xs.length < 8
  · unfold mR at h; rw [if_pos hl] at h; cases h
  · omega
theorem mT_of {xs : List UInt8} (h : mR xs = 0) (k : Nat) : mT xs k = xs.getD k 0 := by unfold mT; rw [(mg_of h).1]; rfl
theorem msI_of {xs : List UInt8} (h : mR xs = 0) : msI xs = w2 xs 4 := by
  have := mg_of h
  unfold msI mN; rw [this.1]; simp only [cond_true]; rw [bv_w4 ma1]
  unfold a4; have h4 := w2_lt xs 4; have h6 := w2_lt xs (4 + 2); omega
inductive Goes (pr : UInt8) (s d : Nat) (xs : List UInt8) : Prop
  | tcp (h6 : pr = 6) (hR : tR s d xs = 0) (h8 : 20 ≤ xs.length)
  | udp (h17 : pr = 17) (hR : uR s d xs = 0) (h8 : 8 ≤ xs.length)
  | query (h1 : pr = 1) (hR : mR xs = 0) (hQ : ecO (xs.getD 0 0) (xs.getD 1 0) = true) (hm : msQ xs = true) (h8 : 8 ≤ xs.length)
  | err (h1 : pr = 1) (hR : mR xs = 0) (hE : msR xs = true) (hm : msQ xs = false) (h8 : 8 ≤ xs.length)
theorem goes_of {pr : UInt8} {s d : Nat} {xs : List UInt8} (h : ofE pr s d xs = 0) : Goes pr s d xs := by
  unfold ofE at h
  cases h6 : isT pr
  · cases h17 : isU pr
    · cases h1 : isI pr
      · rw [h6, h17, h1] at h; cases h
      · have e1 : pr = 1 := UInt8.toNat_inj.1 (by have z_ : (((pr.toNat : Nat) : Int) == 1) = true := h1; have y_ := beq_iff_eq.1 z_; show pr.toNat = 1; omega)
        rw [h6, h17, h1] at h
        have h : msE xs = 0 := h
        have hz : mR xs = 0 := by
          unfold msE at h; by_cases hz : mR xs = 0
          · exact hz
          · rw [show (mR xs == 0) = false from beq_eq_false_iff_ne.2 hz] at h; exact h
        have hq := mg_of hz
        cases hm : msQ xs
        · cases hr : msR xs
          · unfold msE at h; rw [hz, hm, hr] at h; cases h
          · exact .err e1 hz hr hm hq.2
        · refine .query e1 hz ?_ hm hq.2
          unfold msQ at hm; rw [hz, mT_of hz, mT_of hz] at hm; simpa using hm
    · rw [h6, h17] at h
      refine .udp (UInt8.toNat_inj.1 (by have z_ : (((pr.toNat : Nat) : Int) == 17) = true := h17; have y_ := beq_iff_eq.1 z_; show pr.toNat = 17; omega)) h ?_
      by_cases hl : xs.length < 8
      · simp only [cond_true, cond_false] at h; unfold uR at h; rw [if_pos hl] at h; cases h
      · omega
  · rw [h6] at h
    refine .tcp (UInt8.toNat_inj.1 (by have z_ : (((pr.toNat : Nat) : Int) == 6) = true := h6; have y_ := beq_iff_eq.1 z_; show pr.toNat = 6; omega)) h ?_
    by_cases hl : xs.length < 20
    · simp only [cond_true, cond_false] at h; unfold tR at h; rw [if_pos hl] at h; cases h
    · omega
theorem ofZ_of {pr : UInt8} {s d : Nat} {xs : List UInt8} (h : ofE pr s d xs = 0) : ofZ pr s d xs = true := by unfold ofZ; rw [h]; rfl
theorem err_flow {own to : Nat} {ki co : UInt8} {Y Z : List UInt8} (z1 : mR Y = 0) (z2 : mT Y 0 = ki) (z3 : mT Y 1 = co) (z5 : mD Y = Z) (hk : isEr ki = true) (hO : inO Z = true) :
    ofE 1 own to Y = 0 ∧ ofK 1 own to Y = 3 ∧ ofP 1 own to Y = inP Z ∧ ofS 1 own to Y = inA Z 16 ∧ ofD 1 own to Y = inA Z 12 ∧ ofF 1 own to Y = inT Z ∧ ofT 1 own to Y = inF Z := by
  have hq : ecO ki co = false := by
    unfold isEr eqk at hk; unfold ecO
    simp only [Bool.or_eq_true, beq_iff_eq] at hk
    have e8 : (((ki.toNat : Nat) : Int) == 8) = false := beq_eq_false_iff_ne.2 ma1
    have e0 : (((ki.toNat : Nat) : Int) == 0) = false := beq_eq_false_iff_ne.2 ma1
    rw [e8, e0]; simp
  have hQ : msQ Y = false := by unfold msQ; rw [z1, z2, z3, hq]; rfl
  have hR : msR Y = true := by unfold msR; rw [z1, z2, z3, z5, hq, hk, hO]; rfl
  have hE : ofE 1 own to Y = 0 := by show msE Y = 0; unfold msE; rw [z1, hQ, hR]; rfl
  have hZ := ofZ_of hE
  refine ⟨hE, ?_, ?_, ?_, ?_, ?_, ?_⟩
  · unfold ofK; rw [hZ]; show msK Y = 3; unfold msK; rw [hQ, hR]; rfl
  · unfold ofP; rw [hZ]; show msP 1 Y = _; unfold msP; rw [hR, z5]; rfl
  · unfold ofS; rw [hZ]; show msS own 16 Y = _; unfold msS; rw [hR, z5]; rfl
  · unfold ofD; rw [hZ]; show msS to 12 Y = _; unfold msS; rw [hR, z5]; rfl
  · unfold ofF; rw [hZ]; show msF 0 Y = _; unfold msF; rw [hR, z5]; rfl
  · unfold ofT; rw [hZ]; show msT 0 Y = _; unfold msT; rw [hR, z5]; rfl
theorem told_flow {pr : UInt8} {s d : Nat} {xs Z : List UInt8} (h : Told pr s d xs Z) (hE : ofE pr s d xs = 0) (hK : ofK pr s d xs ≠ 3) :
    inO Z = true ∧ inP Z = ofP pr s d xs ∧ inA Z 16 = ofD pr s d xs ∧ inA Z 12 = ofS pr s d xs ∧ inT Z = ofT pr s d xs ∧ inF Z = ofF pr s d xs := by
  have hZ := ofZ_of hE
  have a16 : inA Z 16 = d := by unfold inA; rw [h.c]; exact h.d
  have a12 : inA Z 12 = s := by unfold inA; rw [h.c]; exact h.s
  have hP : inP Z = pr := by unfold inP; rw [h.c]; exact h.p
  rw [a16, a12, hP]
  cases goes_of hE with
  | tcp h6 hR h8 =>
    subst h6
    have e6 : i9 Z 6 = true := by unfold i9; rw [h.p]; rfl
    have tg_ : tg s d xs = true := by unfold tg; rw [hR]; rfl
    refine ⟨?_, ?_, ?_, ?_, ?_, ?_⟩
    · unfold inO; rw [h.c, e6]; rfl
    · unfold ofP; rw [hZ]; rfl
    · unfold ofD; rw [hZ]; rfl
    · unfold ofS; rw [hZ]; rfl
    · unfold inT ofT; rw [h.c, e6, hZ, h.t]; show _ = tF s d xs 2; unfold tF; rw [tg_]; rfl
    · unfold inF ofF; rw [h.c, e6, hZ, h.f]; show _ = tF s d xs 0; unfold tF; rw [tg_]; rfl
  | udp h6 hR h8 =>
    subst h6
    have e6 : i9 Z 6 = false := by unfold i9; rw [h.p]; rfl
    have e17 : i9 Z 17 = true := by unfold i9; rw [h.p]; rfl
    have tg_ : ug s d xs = true := by unfold ug; rw [hR]; rfl
    refine ⟨?_, ?_, ?_, ?_, ?_, ?_⟩
    · unfold inO; rw [h.c, e6, e17]; rfl
    · unfold ofP; rw [hZ]; rfl
    · unfold ofD; rw [hZ]; rfl
    · unfold ofS; rw [hZ]; rfl
    · unfold inT ofT; rw [h.c, e6, e17, hZ, h.t]; show _ = uF s d xs 2; unfold uF; rw [tg_]; rfl
    · unfold inF ofF; rw [h.c, e6, e17, hZ, h.f]; show _ = uF s d xs 0; unfold uF; rw [tg_]; rfl
  | query h6 hR hQ hm h8 =>
    subst h6
    have e6 : i9 Z 6 = false := by unfold i9; rw [h.p]; rfl
    have e17 : i9 Z 17 = false := by unfold i9; rw [h.p]; rfl
    have e1 : i9 Z 1 = true := by unfold i9; rw [h.p]; rfl
    have hr : msR xs = false := by
      unfold msR; have hm' := hm; unfold msQ at hm'; rw [hR] at hm' ⊢; simp at hm'; simp [hm']
    refine ⟨?_, ?_, ?_, ?_, ?_, ?_⟩
    · unfold inO; rw [h.c, e6, e17, e1, h.k, h.o]; exact hQ
    · unfold ofP; rw [hZ]; show _ = msP 1 xs; unfold msP; rw [hr]; rfl
    · unfold ofD; rw [hZ]; show _ = msS d 12 xs; unfold msS; rw [hr]; rfl
    · unfold ofS; rw [hZ]; show _ = msS s 16 xs; unfold msS; rw [hr]; rfl
    · unfold inT ofT; rw [h.c, e6, e17, e1, hZ, h.k, h.i]; show _ = msT 0 xs; unfold msT; rw [hr, hm, mT_of hR, msI_of hR]; rfl
    · unfold inF ofF; rw [h.c, e6, e17, e1, hZ, h.k, h.i]; show _ = msF 0 xs; unfold msF; rw [hr, hm, mT_of hR, msI_of hR]; rfl
  | err h1 hR hr hm h8 =>
    subst h1
    exfalso; apply hK; unfold ofK; rw [hZ]; show msK xs = 3; unfold msK; rw [hm, hr]; rfl
theorem Goes.le {pr : UInt8} {s d : Nat} {xs : List UInt8} (h : Goes pr s d xs) : 8 ≤ xs.length := by cases h <;> omega
theorem tF_lt8 (s d : Nat) (xs : List UInt8) (k : Nat) : tF s d xs k < 65536 := by
  unfold tF; cases tg s d xs
  · show (0 : Nat) < _; decide
  · exact w2_lt xs k
theorem mE_read (xs : List UInt8) : uE (mD xs).length = 0 := by
  cases hg : mg xs
  · unfold mD; rw [hg]; rfl
  · have hR : mR xs = 0 := by unfold mg at hg; simpa using hg
    unfold mR at hR
    split at hR
    · cases hR
    · split at hR
      · cases hR
      · have : (mD xs).length = xs.length - 8 := by unfold mD; rw [hg]; simp only [cond_true, List.length_drop]
        unfold uE; rw [if_neg ma1]
theorem and_lt16 {a b : Nat} (h : b < 65536) : a &&& b < 65536 := Nat.lt_of_le_of_lt Nat.and_le_right h
theorem uF_lt8 (s d : Nat) (xs : List UInt8) (k : Nat) : uF s d xs k < 65536 := by
  unfold uF; cases ug s d xs
  · show (0 : Nat) < _; decide
  · exact w2_lt xs k
theorem msI_lt (xs : List UInt8) : msI xs < 65536 := by unfold msI; omega
theorem ofF_lt (pr : UInt8) (s d : Nat) (xs : List UInt8) : ofF pr s d xs < 65536 := by
  unfold ofF msF
  have h1 := tF_lt8 s d xs 0; have h2 := uF_lt8 s d xs 0; have h3 := inT_lt (mD xs); have h4 := msI_lt xs
  cases ofZ pr s d xs <;> cases isT pr <;> cases isU pr <;> cases msR xs <;> cases msQ xs <;> simp only [cond_true, cond_false] <;> first | omega | exact sel_lt ma1 ma1
theorem ofT_lt (pr : UInt8) (s d : Nat) (xs : List UInt8) : ofT pr s d xs < 65536 := by
  unfold ofT msT
  have h1 := tF_lt8 s d xs 2; have h2 := uF_lt8 s d xs 2; have h3 := inF_lt (mD xs); have h4 := msI_lt xs
  cases ofZ pr s d xs <;> cases isT pr <;> cases isU pr <;> cases msR xs <;> cases msQ xs <;> simp only [cond_true, cond_false] <;> first | omega | exact sel_lt ma1 ma1
theorem ofS_lt {pr : UInt8} {s d : Nat} {xs : List UInt8} (hs : s < 4294967296) : ofS pr s d xs < 4294967296 := by
  unfold ofS msS
  have h3 := inA_lt (mD xs) 16
  cases ofZ pr s d xs <;> cases isT pr <;> cases isU pr <;> cases msR xs <;> simp only [cond_true, cond_false] <;> omega
theorem ofD_lt {pr : UInt8} {s d : Nat} {xs : List UInt8} (hd : d < 4294967296) : ofD pr s d xs < 4294967296 := by
  unfold ofD msS
  have h3 := inA_lt (mD xs) 12
  cases ofZ pr s d xs <;> cases isT pr <;> cases isU pr <;> cases msR xs <;> simp only [cond_true, cond_false] <;> omega
theorem ofP_of {pr : UInt8} {s d : Nat} {xs : List UInt8} (hE : ofE pr s d xs = 0) (hK : ofK pr s d xs ≠ 3) : ofP pr s d xs = pr := by
  have hZ := ofZ_of hE
  cases goes_of hE with
  | tcp h1 _ _ => subst h1; unfold ofP; rw [hZ]; rfl
  | udp h1 _ _ => subst h1; unfold ofP; rw [hZ]; rfl
  | query h1 hR hQ hm _ =>
    subst h1; unfold ofP; rw [hZ]; show msP 1 xs = 1
    have hr : msR xs = false := by unfold msR; have hm' := hm; unfold msQ at hm'; rw [hR] at hm' ⊢; simp at hm'; simp [hm']
    unfold msP; rw [hr]; rfl
  | err h1 _ hr hm _ => subst h1; exfalso; apply hK; unfold ofK; rw [hZ]; show msK xs = 3; unfold msK; rw [hm, hr]; rfl
structure Ends (pr : UInt8) (s d : Nat) (xs : List UInt8) (k : Int) (fr to : Nat) : Prop where
  ee : ofE pr s d xs = 0
  ek : ofK pr s d xs = k
  ep : ofP pr s d xs = pr
  es : ofS pr s d xs = s
  ed : ofD pr s d xs = d
  ef : ofF pr s d xs = fr
  et : ofT pr s d xs = to
theorem Ends.tcp {s d fr to : Nat} {xs : List UInt8} (hR : tR s d xs = 0) (hf : tF s d xs 0 = fr) (ht : tF s d xs 2 = to) : Ends 6 s d xs 1 fr to := by
  have hE : ofE 6 s d xs = 0 := hR
  have hZ := ofZ_of hE
  exact ⟨hE, by unfold ofK; rw [hZ]; rfl, by unfold ofP; rw [hZ]; rfl, by unfold ofS; rw [hZ]; rfl, by unfold ofD; rw [hZ]; rfl, by unfold ofF; rw [hZ]; exact hf, by unfold ofT; rw [hZ]; exact ht⟩
theorem Ends.udp {s d fr to : Nat} {xs : List UInt8} (hR : uR s d xs = 0) (hf : uF s d xs 0 = fr) (ht : uF s d xs 2 = to) : Ends 17 s d xs 1 fr to := by
  have hE : ofE 17 s d xs = 0 := hR
  have hZ := ofZ_of hE
  exact ⟨hE, by unfold ofK; rw [hZ]; rfl, by unfold ofP; rw [hZ]; rfl, by unfold ofS; rw [hZ]; rfl, by unfold ofD; rw [hZ]; rfl, by unfold ofF; rw [hZ]; exact hf, by unfold ofT; rw [hZ]; exact ht⟩
theorem Ends.query {s d : Nat} {xs : List UInt8} (hR : mR xs = 0) (hq : ecO (mT xs 0) (mT xs 1) = true) : Ends 1 s d xs 2 (sel (ecA (mT xs 0)) (msI xs) 0) (sel (ecA (mT xs 0)) 0 (msI xs)) := by
  have hQ : msQ xs = true := by unfold msQ; rw [hR, hq]; rfl
  have hr : msR xs = false := by unfold msR; rw [hR, hq]; rfl
  have hE : ofE 1 s d xs = 0 := by show msE xs = 0; unfold msE; rw [hR, hQ]; rfl
  have hZ := ofZ_of hE
  refine ⟨hE, ?_, ?_, ?_, ?_, ?_, ?_⟩
  · unfold ofK; rw [hZ]; show msK xs = 2; unfold msK; rw [hQ]; rfl
  · unfold ofP; rw [hZ]; show msP 1 xs = _; unfold msP; rw [hr]; rfl
  · unfold ofS; rw [hZ]; show msS s 16 xs = _; unfold msS; rw [hr]; rfl
  · unfold ofD; rw [hZ]; show msS d 12 xs = _; unfold msS; rw [hr]; rfl
  · unfold ofF; rw [hZ]; show msF 0 xs = _; unfold msF; rw [hr, hQ]; rfl
  · unfold ofT; rw [hZ]; show msT 0 xs = _; unfold msT; rw [hr, hQ]; rfl
theorem query_of {pr : UInt8} {s d : Nat} {xs : List UInt8} (hE : ofE pr s d xs = 0) (hK : ofK pr s d xs ≠ 3) (h1 : pr = 1) : mR xs = 0 ∧ ecO (mT xs 0) (mT xs 1) = true := by
  cases goes_of hE with
  | tcp h _ _ => subst h; exact absurd h1 ma2
  | udp h _ _ => subst h; exact absurd h1 ma2
  | query _ hR hQ _ _ => exact ⟨hR, by rw [mT_of hR, mT_of hR]; exact hQ⟩
  | err h1 _ hr hm _ => subst h1; exfalso; apply hK; unfold ofK; rw [ofZ_of hE]; show msK xs = 3; unfold msK; rw [hm, hr]; rfl
theorem hq_two {pr : UInt8} {s d : Nat} {xs : List UInt8} (hE : ofE pr s d xs = 0) (hK : ofK pr s d xs ≠ 3) (ff ft : Nat) : pr = 1 → (ecA (mT xs 0) = true → ofT pr s d xs &&& ft = 0) ∧ (ecA (mT xs 0) = false → ofF pr s d xs &&& ff = 0) := fun h1 => by
  obtain ⟨hR, hQ⟩ := query_of hE hK h1
  subst h1
  have he := Ends.query (s := s) (d := d) hR hQ
  refine ⟨fun ha => ?_, fun ha => ?_⟩
  · rw [he.et, ha]; show 0 &&& ft = 0; exact Nat.zero_and ft
  · rw [he.ef, ha]; show 0 &&& ff = 0; exact Nat.zero_and ff
theorem hq_one {pr : UInt8} {s d : Nat} {xs : List UInt8} (hE : ofE pr s d xs = 0) (hK : ofK pr s d xs ≠ 3) (h2 : ofK pr s d xs ≠ 2) (ff ft : Nat) : pr = 1 → (ecA (mT xs 0) = true → ft = 0) ∧ (ecA (mT xs 0) = false → ff = 0) := fun h1 => by
  obtain ⟨hR, hQ⟩ := query_of hE hK h1
  subst h1
  exact absurd (Ends.query (s := s) (d := d) hR hQ).ek h2
end Go.Proofs.Ytejeafjkhomdoaa.Oct
