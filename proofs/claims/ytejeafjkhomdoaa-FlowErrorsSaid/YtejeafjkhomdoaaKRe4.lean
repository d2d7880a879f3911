import Derived.Test.YtejeafjkhomdoaaKRe2
set_option linter.unusedVariables false
set_option linter.unusedSimpArgs false
set_option maxRecDepth 20000
namespace Go.Proofs.Ytejeafjkhomdoaa.Oct
open Go.RowKit Base
attribute [local irreducible] Ys Yc Ht HtS HtIn Wl Wd W Mem pf dpf Wa Wo
theorem rtB_len (op : UInt8) (os od og ot ns nd nf nt : Nat) (zs : List UInt8) : (rtB op os od og ot ns nd nf nt zs).length = zs.length := by
  have h5 : (rt5 zs os od ns nd).length = zs.length := by unfold rt5 rt4; simp only [bput_len]
  have h7 : (rt7 zs os od ns nd nf nt).length = zs.length := by unfold rt7; simp only [bput_len, h5]
  unfold rtB
  cases isI op
  · simp only [cond_false]
    cases (isU op && (((w2 zs 26 : Nat) : Int) != 0))
    · simp only [cond_false]
      cases (isT op && decide (((zs.length : Nat) : Int) ≥ 38))
      · exact h7
      · simp only [cond_true, bput_len, h7]
    · simp only [cond_true, bput_len, h7]
  · simp only [cond_true]; unfold rtI; simp only [bput_len, h5]
theorem inO_C {Z : List UInt8} (h : inO Z = true) : inC Z = false := by
  cases hc : inC Z
  · rfl
  · unfold inO at h; rw [hc] at h; cases h
theorem inC_len {Z : List UInt8} (h : inC Z = false) : 28 ≤ Z.length := by
  unfold inC at h; simp only [Bool.or_eq_false_iff, decide_eq_false_iff_not] at h; omega
theorem inP_eq {Z : List UInt8} (h : inO Z = true) : inP Z = Z.getD 9 0 := by unfold inP; rw [inO_C h]; rfl
theorem inA_eq {Z : List UInt8} (h : inO Z = true) (k : Nat) : inA Z k = a4 Z k := by unfold inA; rw [inO_C h]; rfl
theorem in_port {Z : List UInt8} (h : inO Z = true) (h1 : i9 Z 1 = false) : inF Z = w2 Z 20 ∧ inT Z = w2 Z 22 := by
  have hC := inO_C h
  unfold inF inT
  unfold inO at h
  rw [hC] at h ⊢
  rw [h1] at h ⊢
  cases h6 : i9 Z 6
  · rw [h6] at h
    cases h17 : i9 Z 17
    · rw [h17] at h; cases h
    · exact ⟨rfl, rfl⟩
  · exact ⟨rfl, rfl⟩
theorem rtB_norm {Z : List UInt8} (h : inO Z = true) (ns nd nf nt : Nat) : rtB (inP Z) (inA Z 12) (inA Z 16) (inF Z) (inT Z) ns nd nf nt Z = rtB (Z.getD 9 0) (a4 Z 12) (a4 Z 16) (w2 Z 20) (w2 Z 22) ns nd nf nt Z := by
  rw [inP_eq h, inA_eq h, inA_eq h]
  cases h1 : i9 Z 1
  · obtain ⟨e1, e2⟩ := in_port h h1
    rw [e1, e2]
  · unfold rtB
    rw [show isI (Z.getD 9 0) = true from h1]
    rfl
theorem w2_bne (zs : List UInt8) {k n p : Nat} (h : p + 2 ≤ k ∨ k + 2 ≤ p) : w2 (bput zs k n) p = w2 zs p := w2_ne rfl h
theorem w2_beq (zs : List UInt8) {k n : Nat} (hl : k + 2 ≤ zs.length) (hn : n < 65536) : w2 (bput zs k n) k = n := w2_eq rfl hl hn
theorem hw_lw {n : Nat} (h : n < 4294967296) : hw n * 65536 + lw n = n := by unfold hw lw; omega
structure Re (Z R : List UInt8) (ns nd : Nat) : Prop where
  l : R.length = Z.length
  b0 : R.getD 0 0 = Z.getD 0 0
  b6 : w2 R 6 = w2 Z 6
  b9 : R.getD 9 0 = Z.getD 9 0
  a12 : a4 R 12 = ns
  a16 : a4 R 16 = nd
theorem re5 {Z : List UInt8} (hl : 28 ≤ Z.length) {ns nd : Nat} (os od : Nat) (hs : ns < 4294967296) (hd : nd < 4294967296) : Re Z (rt5 Z os od ns nd) ns nd := by
  have L : ∀ zs : List UInt8, ∀ k n, (bput zs k n).length = zs.length := bput_len
  have h1 := hw_lt ns; have h2 := lw_lt ns; have h3 := hw_lt nd; have h4 := lw_lt nd
  have e1 := hw_lw hs
  have e2 := hw_lw hd
  unfold rt5 rt4
  generalize upl _ _ = c
  constructor
  · simp only [bput_len]
  · iterate 5 rw [bput_get _ ma1]
  · iterate 5 rw [w2_bne _ ma1]
  · iterate 5 rw [bput_get _ ma1]
  · unfold a4
    rw [w2_bne _ ma1, w2_bne _ ma1, w2_bne _ ma1, w2_bne _ ma1, w2_beq _ ma1 h1]
    rw [w2_bne _ ma1, w2_bne _ ma1, w2_bne _ ma1, w2_beq _ (by rw [L]; omega) h2]; exact e1
  · unfold a4
    rw [w2_bne _ ma1, w2_bne _ ma1, w2_beq _ (by rw [L, L]; omega) h3]
    rw [w2_bne _ ma1, w2_beq _ (by rw [L, L, L]; omega) h4]; exact e2
theorem Re.put {Z R : List UInt8} {ns nd : Nat} (h : Re Z R ns nd) {k : Nat} (n : Nat) (hk : 20 ≤ k) : Re Z (bput R k n) ns nd := by
  constructor
  · rw [bput_len]; exact h.l
  · rw [bput_get _ ma1]; exact h.b0
  · rw [w2_bne _ ma1]; exact h.b6
  · rw [bput_get _ ma1]; exact h.b9
  · unfold a4; rw [w2_bne _ ma1, w2_bne _ ma1]; exact h.a12
  · unfold a4; rw [w2_bne _ ma1, w2_bne _ ma1]; exact h.a16
theorem Re.inC {Z R : List UInt8} {ns nd : Nat} (h : Re Z R ns nd) : inC R = inC Z := by
  unfold Oct.inC; rw [h.l, h.b0, h.b6]
theorem Re.i9 {Z R : List UInt8} {ns nd : Nat} (h : Re Z R ns nd) (k : Int) : i9 R k = i9 Z k := by unfold Oct.i9; rw [h.b9]
structure Rf (Z R : List UInt8) (ns nd f t : Nat) : Prop where
  o : inO R = true
  p : inP R = inP Z
  s : inA R 12 = ns
  d : inA R 16 = nd
  f : inF R = f
  t : inT R = t
theorem Re.rf {Z R : List UInt8} {ns nd f t : Nat} (h : Re Z R ns nd) (hO : inO R = true) (hf : inF R = f) (ht : inT R = t) : Rf Z R ns nd f t := by
  refine ⟨hO, ?_, ?_, ?_, hf, ht⟩
  · rw [inP_eq hO]
    unfold inP; rw [← h.inC, inO_C hO, h.b9]; rfl
  · rw [inA_eq hO, h.a12]
  · rw [inA_eq hO, h.a16]
theorem Re.ports {Z R : List UInt8} {ns nd : Nat} (h : Re Z R ns nd) (hO : inO Z = true) (h1 : Oct.i9 Z 1 = false) : inO R = true ∧ inF R = w2 R 20 ∧ inT R = w2 R 22 := by
  have e : inO R = true := by
    unfold inO at hO ⊢
    rw [h.inC, h.i9, h.i9, h.i9]
    rw [h1] at hO ⊢
    exact hO
  exact ⟨e, in_port e (by rw [h.i9]; exact h1)⟩
theorem i9_1 {Z : List UInt8} (h : i9 Z 1 = true) : i9 Z 6 = false ∧ i9 Z 17 = false := by
  unfold i9 at h ⊢
  have := beq_iff_eq.1 h
  rw [this]; exact ⟨rfl, rfl⟩
theorem rt_flow {Z : List UInt8} (hO : inO Z = true) {ns nd nf nt : Nat} (hs : ns < 4294967296) (hd : nd < 4294967296) (hf : nf < 65536) (ht : nt < 65536) (h1 : i9 Z 1 = true → (ecA (Z.getD 20 0) = true → nt = 0) ∧ (ecA (Z.getD 20 0) = false → nf = 0)) :
    Rf Z (rtB (inP Z) (inA Z 12) (inA Z 16) (inF Z) (inT Z) ns nd nf nt Z) ns nd nf nt := by
  rw [rtB_norm hO]
  have hl := inC_len (inO_C hO)
  have r5 := re5 hl (a4 Z 12) (a4 Z 16) hs hd
  have hl5 : 28 ≤ (rt5 Z (a4 Z 12) (a4 Z 16) ns nd).length := by rw [r5.l]; exact hl
  unfold rtB
  cases hi : i9 Z 1
  · rw [show isI (Z.getD 9 0) = false from hi]
    simp only [cond_false]
    have r7 : Re Z (rt7 Z (a4 Z 12) (a4 Z 16) ns nd nf nt) ns nd := by unfold rt7; exact (r5.put nf ma1).put nt ma1
    have e20 : w2 (rt7 Z (a4 Z 12) (a4 Z 16) ns nd nf nt) 20 = nf := by unfold rt7; rw [w2_bne _ ma1, w2_beq _ ma1 hf]
    have e22 : w2 (rt7 Z (a4 Z 12) (a4 Z 16) ns nd nf nt) 22 = nt := by unfold rt7; rw [w2_beq _ (by rw [bput_len]; omega) ht]
    have fin : ∀ R, Re Z R ns nd → w2 R 20 = nf → w2 R 22 = nt → Rf Z R ns nd nf nt := fun R hR ha hb => by
      obtain ⟨q1, q2, q3⟩ := hR.ports hO hi
      exact hR.rf q1 (q2.trans ha) (q3.trans hb)
    cases (isU (Z.getD 9 0) && (((w2 Z 26 : Nat) : Int) != 0))
    · simp only [cond_false]
      cases (isT (Z.getD 9 0) && decide (((Z.length : Nat) : Int) ≥ 38))
      · exact fin _ r7 e20 e22
      · simp only [cond_true]; exact fin _ (r7.put _ ma1) ((w2_bne _ ma1).trans e20) ((w2_bne _ ma1).trans e22)
    · simp only [cond_true]; exact fin _ (r7.put _ ma1) ((w2_bne _ ma1).trans e20) ((w2_bne _ ma1).trans e22)
  · rw [show isI (Z.getD 9 0) = true from hi]
    simp only [cond_true]
    obtain ⟨q1, q2⟩ := h1 hi
    obtain ⟨id, hid⟩ : ∃ id, id = (bif !(ecA (Z.getD 20 0)) then nt else nf) := ⟨_, rfl⟩
    rw [← hid]
    have hidl : id < 65536 := by rw [hid]; cases ecA (Z.getD 20 0) <;> assumption
    unfold rtI
    have hR : Re Z (bput (bput (rt5 Z (a4 Z 12) (a4 Z 16) ns nd) 22 (upl (w2 Z 22) [(w2 Z 24, id)])) 24 id) ns nd := (r5.put _ ma1).put _ ma1
    have e24 : w2 (bput (bput (rt5 Z (a4 Z 12) (a4 Z 16) ns nd) 22 (upl (w2 Z 22) [(w2 Z 24, id)])) 24 id) 24 = id := w2_beq _ (by rw [bput_len]; omega) hidl
    have g : ∀ p, 20 ≤ p → p < 22 → (bput (bput (rt5 Z (a4 Z 12) (a4 Z 16) ns nd) 22 (upl (w2 Z 22) [(w2 Z 24, id)])) 24 id).getD p 0 = Z.getD p 0 := fun p h h' => by
      unfold rt5 rt4
      iterate 7 rw [bput_get _ ma1]
    have g20 := g 20 ma1 ma1; have g21 := g 21 ma1 ma1
    generalize (bput (bput (rt5 Z (a4 Z 12) (a4 Z 16) ns nd) 22 (upl (w2 Z 22) [(w2 Z 24, id)])) 24 id) = R at hR e24 g20 g21
    obtain ⟨i6, i17⟩ := i9_1 hi
    have hOR : inO R = true := by
      unfold inO at hO ⊢
      rw [hR.inC, hR.i9, hR.i9, hR.i9, g20, g21]; exact hO
    refine hR.rf hOR ?_ ?_
    · unfold inF; rw [inO_C hOR, hR.i9, hR.i9, hR.i9, i6, i17, hi, g20, e24]
      simp only [cond_true, cond_false]
      cases ha : ecA (Z.getD 20 0)
      · rw [q2 ha]; rfl
      · rw [ha] at hid; exact hid
    · unfold inT; rw [inO_C hOR, hR.i9, hR.i9, hR.i9, i6, i17, hi, g20, e24]
      simp only [cond_true, cond_false]
      cases ha : ecA (Z.getD 20 0)
      · rw [ha] at hid; exact hid
      · rw [q1 ha]; rfl
structure K3 (pr : UInt8) (s d : Nat) (xs : List UInt8) : Prop where
  e : ofE pr s d xs = 0
  p1 : pr = 1
  r : mR xs = 0
  o : inO (mD xs) = true
  k : isEr (mT xs 0) = true
  P : ofP pr s d xs = inP (mD xs)
  S : ofS pr s d xs = inA (mD xs) 16
  D : ofD pr s d xs = inA (mD xs) 12
  F : ofF pr s d xs = inT (mD xs)
  T : ofT pr s d xs = inF (mD xs)
theorem k3_of {pr : UInt8} {s d : Nat} {xs : List UInt8} (h : ofK pr s d xs = 3) : K3 pr s d xs := by
  have hE : ofE pr s d xs = 0 := by
    unfold ofK at h
    cases hz : ofZ pr s d xs
    · rw [hz] at h; cases h
    · unfold ofZ at hz; simpa using hz
  have hZ := ofZ_of hE
  cases goes_of hE with
  | tcp h1 _ _ => subst h1; unfold ofK at h; rw [hZ] at h; exact absurd h (by show ¬ ((1 : Int) = 3); decide)
  | udp h1 _ _ => subst h1; unfold ofK at h; rw [hZ] at h; exact absurd h (by show ¬ ((1 : Int) = 3); decide)
  | query h1 hR hQ hm _ => subst h1; unfold ofK at h; rw [hZ] at h; have h : msK xs = 3 := h; unfold msK at h; rw [hm] at h; cases h
  | err h1 hR hr hm _ =>
    subst h1
    have hr' := hr
    unfold msR at hr'
    simp only [Bool.and_eq_true] at hr'
    refine ⟨hE, rfl, hR, hr'.2.2, hr'.2.1, ?_, ?_, ?_, ?_, ?_⟩
    · unfold ofP; rw [hZ]; show msP 1 xs = _; unfold msP; rw [hr]; rfl
    · unfold ofS; rw [hZ]; show msS s 16 xs = _; unfold msS; rw [hr]; rfl
    · unfold ofD; rw [hZ]; show msS d 12 xs = _; unfold msS; rw [hr]; rfl
    · unfold ofF; rw [hZ]; show msF 0 xs = _; unfold msF; rw [hr]; rfl
    · unfold ofT; rw [hZ]; show msT 0 xs = _; unfold msT; rw [hr]; rfl
def rx3 (pr : UInt8) (s d : Nat) (xs : List UInt8) (fs fd ff ft : Nat) : List UInt8 := mB (mT xs 0) (mT xs 1) (mN xs) (rtB (ofP pr s d xs) (ofD pr s d xs) (ofS pr s d xs) (ofT pr s d xs) (ofF pr s d xs) fd fs ft ff (mD xs))
def rxA (s o f : Nat) : Nat := bif (s : Int) == (o : Int) then f else s
theorem rxA_lt {s o f : Nat} (h1 : s < 4294967296) (h2 : f < 4294967296) : rxA s o f < 4294967296 := by unfold rxA; cases (((s : Nat) : Int) == (o : Int)) <;> assumption
theorem rx3_flow {pr : UInt8} {s d : Nat} {xs : List UInt8} (h : K3 pr s d xs) {fs fd ff ft : Nat} (own to : Nat) (hs : fs < 4294967296) (hd : fd < 4294967296) (hf : ff < 65536) (ht : ft < 65536)
    (hq : ofP pr s d xs = 1 → (ecA ((mD xs).getD 20 0) = true → ff = 0) ∧ (ecA ((mD xs).getD 20 0) = false → ft = 0)) :
    ofE pr own to (rx3 pr s d xs fs fd ff ft) = 0 ∧ ofK pr own to (rx3 pr s d xs fs fd ff ft) = 3 ∧ ofP pr own to (rx3 pr s d xs fs fd ff ft) = ofP pr s d xs ∧ ofS pr own to (rx3 pr s d xs fs fd ff ft) = fs ∧ ofD pr own to (rx3 pr s d xs fs fd ff ft) = fd ∧ ofF pr own to (rx3 pr s d xs fs fd ff ft) = ff ∧ ofT pr own to (rx3 pr s d xs fs fd ff ft) = ft := by
  obtain ⟨R, hR⟩ : ∃ R, R = rtB (ofP pr s d xs) (ofD pr s d xs) (ofS pr s d xs) (ofT pr s d xs) (ofF pr s d xs) fd fs ft ff (mD xs) := ⟨_, rfl⟩
  have hlen : uE R.length = 0 := by rw [hR, rtB_len]; exact mE_read xs
  obtain ⟨z1, z2, z3, z4, z5⟩ := msg_back (ty := mT xs 0) (co := mT xs 1) (re := mN xs) (xs := R) (by have := mN_lt xs; omega) hlen
  have hY : rx3 pr s d xs fs fd ff ft = mB (mT xs 0) (mT xs 1) (mN xs) R := by unfold rx3; rw [hR]
  have hf' : Rf (mD xs) R fd fs ft ff := by
    rw [hR, h.P, h.D, h.S, h.F, h.T]
    refine rt_flow h.o hd hs ht hf fun hi => hq ?_
    rw [h.P, inP_eq h.o]
    exact UInt8.toNat_inj.1 (by have z_ : (((((mD xs).getD 9 0).toNat : Nat) : Int) == 1) = true := hi; have y_ := beq_iff_eq.1 z_; show _ = 1; omega)
  rw [hY, h.P, h.p1]
  obtain ⟨a1, a2, a3, a4, a5, a6, a7⟩ := err_flow (own := own) (to := to) z1 z2 z3 z5 h.k hf'.o
  exact ⟨a1, a2, a3.trans hf'.p, a4.trans hf'.d, a5.trans hf'.s, a6.trans hf'.t, a7.trans hf'.f⟩
end Go.Proofs.Ytejeafjkhomdoaa.Oct
