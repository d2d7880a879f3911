import Derived.Test.YtejeafjkhomdoaaKFl5
import Derived.Test.YtejeafjkhomdoaaKTr11
set_option linter.unusedVariables false
set_option linter.unusedSimpArgs false
set_option maxRecDepth 20000
namespace Go.Proofs.Ytejeafjkhomdoaa.Oct
open Go.RowKit Base
attribute [local irreducible] Ys Yc Ht HtIn Wl Wd W Mem pf dpf Wa Wo
structure Told (pr : UInt8) (s d : Nat) (xs Z : List UInt8) : Prop where
  c : inC Z = false
  p : Z.getD 9 0 = pr
  s : a4 Z 12 = s
  d : a4 Z 16 = d
  f : w2 Z 20 = w2 xs 0
  t : w2 Z 22 = w2 xs 2
  k : Z.getD 20 0 = xs.getD 0 0
  o : Z.getD 21 0 = xs.getD 1 0
  i : w2 Z 24 = w2 xs 4
theorem mg_of {xs : List UInt8} (h : mR xs = 0) : mg xs = true ∧ 8 ≤ xs.length := by
  refine ⟨by unfold mg; rw [h]; rfl, ?_⟩
  by_cases hl : xs.length < 8
  · unfold mR at h; rw [if_pos hl] at h; cases h
  · omega
theorem mT_of {xs : List UInt8} (h : mR xs = 0) (k : Nat) : mT xs k = xs.getD k 0 := by unfold mT; rw [(mg_of h).1]; rfl
inductive Goes (pr : UInt8) (s d : Nat) (xs : List UInt8) : Prop
  | tcp (h6 : pr = 6) (hR : tR s d xs = 0) (h8 : 20 ≤ xs.length)
  | udp (h17 : pr = 17) (hR : uR s d xs = 0) (h8 : 8 ≤ xs.length)
  | query (h1 : pr = 1) (hR : mR xs = 0) (hQ : ecO (xs.getD 0 0) (xs.getD 1 0) = true) (hm : msQ xs = true) (h8 : 8 ≤ xs.length)
  | err (h1 : pr = 1) (hR : mR xs = 0) (hE : msR xs = true) (hm : msQ xs = false) (h8 : 8 ≤ xs.length)
theorem goes_of {pr : UInt8} {s d : Nat} {xs : List UInt8} (h : ofE pr s d xs = 0) : Goes pr s d xs := by
  unfold ofE at h
  cases h6 : isT pr
  · cases h17 : isU pr
    · cases h1 : isI pr
      · rw [h6, h17, h1] at h; cases h
      · have e1 : pr = 1 := UInt8.toNat_inj.1 (by have z_ : (((pr.toNat : Nat) : Int) == 1) = true := h1; have y_ := beq_iff_eq.1 z_; show pr.toNat = 1; omega)
        rw [h6, h17, h1] at h
        have h : msE xs = 0 := h
        have hz : mR xs = 0 := by
          unfold msE at h; by_cases hz : mR xs = 0
          · exact hz
          · rw [show (mR xs == 0) = false from beq_eq_false_iff_ne.2 hz] at h; exact h
        have hq := mg_of hz
        cases hm : msQ xs
        · cases hr : msR xs
          · unfold msE at h; rw [hz, hm, hr] at h; cases h
          · exact .err e1 hz hr hm hq.2
        · refine .query e1 hz ?_ hm hq.2
          unfold msQ at hm; rw [hz, mT_of hz, mT_of hz] at hm; simpa using hm
    · rw [h6, h17] at h
      refine .udp (UInt8.toNat_inj.1 (by have z_ : (((pr.toNat : Nat) : Int) == 17) = true := h17; have y_ := beq_iff_eq.1 z_; show pr.toNat = 17; omega)) h ?_
      by_cases hl : xs.length < 8
      · simp only [cond_true, cond_false] at h; unfold uR at h; rw [if_pos hl] at h; cases h
      · omega
  · rw [h6] at h
    refine .tcp (UInt8.toNat_inj.1 (by have z_ : (((pr.toNat : Nat) : Int) == 6) = true := h6; have y_ := beq_iff_eq.1 z_; show pr.toNat = 6; omega)) h ?_
    by_cases hl : xs.length < 20
    · simp only [cond_true, cond_false] at h; unfold tR at h; rw [if_pos hl] at h; cases h
    · omega
theorem ofZ_of {pr : UInt8} {s d : Nat} {xs : List UInt8} (h : ofE pr s d xs = 0) : ofZ pr s d xs = true := by unfold ofZ; rw [h]; rfl
theorem Goes.le {pr : UInt8} {s d : Nat} {xs : List UInt8} (h : Goes pr s d xs) : 8 ≤ xs.length := by cases h <;> omega
theorem tF_lt8 (s d : Nat) (xs : List UInt8) (k : Nat) : tF s d xs k < 65536 := by
  unfold tF; cases tg s d xs
  · show (0 : Nat) < _; decide
  · exact w2_lt xs k
theorem tW_lt8 (s d : Nat) (xs : List UInt8) (k : Nat) : tW s d xs k < 4294967296 := by
  unfold tW; cases tg s d xs
  · show (0 : Nat) < _; decide
  · exact bv4_lt' xs k
theorem tE_read (s d : Nat) (xs : List UInt8) : tE (tO s d xs).length (tD s d xs).length = 0 := by
  cases hg : tg s d xs
  · unfold tO tD; rw [hg]; rfl
  · have hR : tR s d xs = 0 := by unfold tg at hg; simpa using hg
    unfold tR at hR
    split at hR
    · cases hR
    · split at hR
      · cases hR
      · split at hR
        · cases hR
        · rename_i h1 h2 h3
          have hb := UInt8.toNat_lt (xs.getD 12 0)
          have hK : tK xs = 4 * ((xs.getD 12 0).toNat / 16) := rfl
          have ho : (tO s d xs).length = tK xs - 20 := by unfold tO; rw [hg]; simp only [cond_true, List.length_take, List.length_drop]; omega
          have hd : (tD s d xs).length = xs.length - tK xs := by unfold tD; rw [hg]; simp only [cond_true, List.length_drop]
          rw [ho, hd]; unfold tE; rw [if_neg (by omega), if_neg (by omega)]
theorem uE_read (s d : Nat) (xs : List UInt8) : uE (uD s d xs).length = 0 := by
  cases hg : ug s d xs
  · unfold uD; rw [hg]; rfl
  · have hR : uR s d xs = 0 := by unfold ug at hg; simpa using hg
    unfold uR at hR
    split at hR
    · cases hR
    · split at hR
      · cases hR
      · have : (uD s d xs).length ≤ xs.length - 8 := by unfold uD; rw [hg]; simp only [cond_true, List.length_take, List.length_drop]; omega
        unfold uE; rw [if_neg (by omega)]
theorem mE_read (xs : List UInt8) : uE (mD xs).length = 0 := by
  cases hg : mg xs
  · unfold mD; rw [hg]; rfl
  · have hR : mR xs = 0 := by unfold mg at hg; simpa using hg
    unfold mR at hR
    split at hR
    · cases hR
    · split at hR
      · cases hR
      · have : (mD xs).length = xs.length - 8 := by unfold mD; rw [hg]; simp only [cond_true, List.length_drop]
        unfold uE; rw [if_neg (by omega)]
theorem tO_le8 (s d : Nat) (xs : List UInt8) : (tO s d xs).length ≤ xs.length := by
  unfold tO; cases tg s d xs
  · simp
  · simp only [cond_true, List.length_take, List.length_drop]; omega
theorem tD_le8 (s d : Nat) (xs : List UInt8) : (tD s d xs).length ≤ xs.length := by
  unfold tD; cases tg s d xs
  · simp
  · simp only [cond_true, List.length_drop]; omega
theorem uD_le8 (s d : Nat) (xs : List UInt8) : (uD s d xs).length ≤ xs.length := by
  unfold uD; cases ug s d xs
  · simp
  · simp only [cond_true, List.length_take, List.length_drop]; omega
def rwG (pr : UInt8) (s d : Nat) (xs : List UInt8) (fp : UInt8) : Bool := !(ofE pr s d xs != 0) && !(((fp.toNat : Nat) : Int) != (((ofP pr s d xs).toNat : Nat) : Int))
def rwX (pr : UInt8) (s d : Nat) (xs : List UInt8) (fp : UInt8) : Int := bif ofE pr s d xs != 0 then ofE pr s d xs else bif ((fp.toNat : Nat) : Int) != (((ofP pr s d xs).toNat : Nat) : Int) then 1 else 0
def rId (n i : Nat) : Nat := n % 65536 ||| i * 65536 % 4294967296
def rwB (pr : UInt8) (s d : Nat) (xs : List UInt8) (fp : UInt8) (fs fd ff ft : Nat) : List UInt8 :=
  bif rwG pr s d xs fp then (bif isT pr then tB fs fd ff ft (tW s d xs 4) (tW s d xs 8) (tL s d xs) (tF s d xs 14) (tF s d xs 18) (tO s d xs) (tD s d xs) else
    bif isU pr then uB fs fd ff ft (uP s d xs) (uD s d xs) else mB (mT xs 0) (mT xs 1) (rId (mN xs) (bif !(ecA (mT xs 0)) then ft else ff)) (mD xs)) else []
theorem rwB_le (pr : UInt8) (s d : Nat) (xs : List UInt8) (fp : UInt8) (fs fd ff ft : Nat) : (rwB pr s d xs fp fs fd ff ft).length ≤ 1480 := by
  unfold rwB
  cases rwG pr s d xs fp
  · simp
  · cases isT pr
    · cases isU pr
      · exact mB_le ..
      · exact uB_le ..
    · exact tB_le ..
theorem rId_lt (n i : Nat) : rId n i < 4294967296 := Nat.or_lt_two_pow (n := 32) (by omega) (by omega)
theorem and_lt16 {a b : Nat} (h : b < 65536) : a &&& b < 65536 := Nat.lt_of_le_of_lt Nat.and_le_right h
theorem uF_lt8 (s d : Nat) (xs : List UInt8) (k : Nat) : uF s d xs k < 65536 := by
  unfold uF; cases ug s d xs
  · show (0 : Nat) < _; decide
  · exact w2_lt xs k
theorem msI_lt (xs : List UInt8) : msI xs < 65536 := by unfold msI; omega
theorem ofF_lt (pr : UInt8) (s d : Nat) (xs : List UInt8) : ofF pr s d xs < 65536 := by
  unfold ofF msF
  have h1 := tF_lt8 s d xs 0; have h2 := uF_lt8 s d xs 0; have h3 := inT_lt (mD xs); have h4 := msI_lt xs
  cases ofZ pr s d xs <;> cases isT pr <;> cases isU pr <;> cases msR xs <;> cases msQ xs <;> simp only [cond_true, cond_false] <;> first | omega | exact sel_lt (by omega) (by omega)
theorem ofT_lt (pr : UInt8) (s d : Nat) (xs : List UInt8) : ofT pr s d xs < 65536 := by
  unfold ofT msT
  have h1 := tF_lt8 s d xs 2; have h2 := uF_lt8 s d xs 2; have h3 := inF_lt (mD xs); have h4 := msI_lt xs
  cases ofZ pr s d xs <;> cases isT pr <;> cases isU pr <;> cases msR xs <;> cases msQ xs <;> simp only [cond_true, cond_false] <;> first | omega | exact sel_lt (by omega) (by omega)
theorem ofS_lt {pr : UInt8} {s d : Nat} {xs : List UInt8} (hs : s < 4294967296) : ofS pr s d xs < 4294967296 := by
  unfold ofS msS
  have h3 := inA_lt (mD xs) 16
  cases ofZ pr s d xs <;> cases isT pr <;> cases isU pr <;> cases msR xs <;> simp only [cond_true, cond_false] <;> omega
theorem ofD_lt {pr : UInt8} {s d : Nat} {xs : List UInt8} (hd : d < 4294967296) : ofD pr s d xs < 4294967296 := by
  unfold ofD msS
  have h3 := inA_lt (mD xs) 12
  cases ofZ pr s d xs <;> cases isT pr <;> cases isU pr <;> cases msR xs <;> simp only [cond_true, cond_false] <;> omega
theorem rId_add (n i : Nat) : rId n i = n % 65536 + i % 65536 * 65536 := by
  unfold rId
  rw [show i * 65536 % 4294967296 = 2 ^ 16 * (i % 65536) by omega, Nat.or_comm, ← Nat.two_pow_add_eq_or_of_lt (show n % 65536 < 2 ^ 16 by omega)]
  omega
theorem rId_rId (n i j : Nat) : rId (rId n i) j = rId n j := by rw [rId_add, rId_add, rId_add]; omega
theorem udp_back {s d fr to : Nat} {pl : Bool} {xs : List UInt8} (hf : fr < 65536) (ht : to < 65536) (h1 : uE xs.length = 0) :
    ∃ Y, Y = uB s d fr to pl xs ∧ uR s d Y = 0 ∧ uF s d Y 0 = fr ∧ uF s d Y 2 = to ∧ uP s d Y = pl ∧ uD s d Y = xs := by
  have h := td_back (s := s) (d := d) (pl := pl) (xs := xs) (ys := []) hf ht h1 (by have := uB_le s d fr to pl xs; simp only [List.length_nil]; omega)
  rw [List.append_nil] at h
  simp only [Bool.and_eq_true, beq_iff_eq] at h
  obtain ⟨a, ⟨⟨b, c⟩, e⟩, f⟩ := h
  exact ⟨_, rfl, a, by omega, by omega, e, f⟩
theorem ofP_of {pr : UInt8} {s d : Nat} {xs : List UInt8} (hE : ofE pr s d xs = 0) (hK : ofK pr s d xs ≠ 3) : ofP pr s d xs = pr := by
  have hZ := ofZ_of hE
  cases goes_of hE with
  | tcp h1 _ _ => subst h1; unfold ofP; rw [hZ]; rfl
  | udp h1 _ _ => subst h1; unfold ofP; rw [hZ]; rfl
  | query h1 hR hQ hm _ =>
    subst h1; unfold ofP; rw [hZ]; show msP 1 xs = 1
    have hr : msR xs = false := by unfold msR; have hm' := hm; unfold msQ at hm'; rw [hR] at hm' ⊢; simp at hm'; simp [hm']
    unfold msP; rw [hr]; rfl
  | err h1 _ hr hm _ => subst h1; exfalso; apply hK; unfold ofK; rw [hZ]; show msK xs = 3; unfold msK; rw [hm, hr]; rfl
theorem rwG_of {pr : UInt8} {s d : Nat} {xs : List UInt8} {fp : UInt8} (hE : ofE pr s d xs = 0) (hP : ofP pr s d xs = fp) : rwG pr s d xs fp = true ∧ rwX pr s d xs fp = 0 := by
  constructor
  · unfold rwG; rw [hE, hP]; simp
  · unfold rwX; rw [hE, hP]; simp
structure Ends (pr : UInt8) (s d : Nat) (xs : List UInt8) (k : Int) (fr to : Nat) : Prop where
  ee : ofE pr s d xs = 0
  ek : ofK pr s d xs = k
  ep : ofP pr s d xs = pr
  es : ofS pr s d xs = s
  ed : ofD pr s d xs = d
  ef : ofF pr s d xs = fr
  et : ofT pr s d xs = to
theorem Ends.tcp {s d fr to : Nat} {xs : List UInt8} (hR : tR s d xs = 0) (hf : tF s d xs 0 = fr) (ht : tF s d xs 2 = to) : Ends 6 s d xs 1 fr to := by
  have hE : ofE 6 s d xs = 0 := hR
  have hZ := ofZ_of hE
  exact ⟨hE, by unfold ofK; rw [hZ]; rfl, by unfold ofP; rw [hZ]; rfl, by unfold ofS; rw [hZ]; rfl, by unfold ofD; rw [hZ]; rfl, by unfold ofF; rw [hZ]; exact hf, by unfold ofT; rw [hZ]; exact ht⟩
theorem Ends.udp {s d fr to : Nat} {xs : List UInt8} (hR : uR s d xs = 0) (hf : uF s d xs 0 = fr) (ht : uF s d xs 2 = to) : Ends 17 s d xs 1 fr to := by
  have hE : ofE 17 s d xs = 0 := hR
  have hZ := ofZ_of hE
  exact ⟨hE, by unfold ofK; rw [hZ]; rfl, by unfold ofP; rw [hZ]; rfl, by unfold ofS; rw [hZ]; rfl, by unfold ofD; rw [hZ]; rfl, by unfold ofF; rw [hZ]; exact hf, by unfold ofT; rw [hZ]; exact ht⟩
theorem Ends.query {s d : Nat} {xs : List UInt8} (hR : mR xs = 0) (hq : ecO (mT xs 0) (mT xs 1) = true) : Ends 1 s d xs 2 (sel (ecA (mT xs 0)) (msI xs) 0) (sel (ecA (mT xs 0)) 0 (msI xs)) := by
  have hQ : msQ xs = true := by unfold msQ; rw [hR, hq]; rfl
  have hr : msR xs = false := by unfold msR; rw [hR, hq]; rfl
  have hE : ofE 1 s d xs = 0 := by show msE xs = 0; unfold msE; rw [hR, hQ]; rfl
  have hZ := ofZ_of hE
  refine ⟨hE, ?_, ?_, ?_, ?_, ?_, ?_⟩
  · unfold ofK; rw [hZ]; show msK xs = 2; unfold msK; rw [hQ]; rfl
  · unfold ofP; rw [hZ]; show msP 1 xs = _; unfold msP; rw [hr]; rfl
  · unfold ofS; rw [hZ]; show msS s 16 xs = _; unfold msS; rw [hr]; rfl
  · unfold ofD; rw [hZ]; show msS d 12 xs = _; unfold msS; rw [hr]; rfl
  · unfold ofF; rw [hZ]; show msF 0 xs = _; unfold msF; rw [hr, hQ]; rfl
  · unfold ofT; rw [hZ]; show msT 0 xs = _; unfold msT; rw [hr, hQ]; rfl
theorem rwB_of {pr : UInt8} {s d : Nat} {xs : List UInt8} {fp : UInt8} {fs fd ff ft : Nat} (hG : rwG pr s d xs fp = true) : rwB pr s d xs fp fs fd ff ft =
    (bif isT pr then tB fs fd ff ft (tW s d xs 4) (tW s d xs 8) (tL s d xs) (tF s d xs 14) (tF s d xs 18) (tO s d xs) (tD s d xs) else
    bif isU pr then uB fs fd ff ft (uP s d xs) (uD s d xs) else mB (mT xs 0) (mT xs 1) (rId (mN xs) (bif !(ecA (mT xs 0)) then ft else ff)) (mD xs)) := by unfold rwB; rw [hG]; rfl
theorem query_of {pr : UInt8} {s d : Nat} {xs : List UInt8} (hE : ofE pr s d xs = 0) (hK : ofK pr s d xs ≠ 3) (h1 : pr = 1) : mR xs = 0 ∧ ecO (mT xs 0) (mT xs 1) = true := by
  cases goes_of hE with
  | tcp h _ _ => subst h; exact absurd h1 (by decide)
  | udp h _ _ => subst h; exact absurd h1 (by decide)
  | query _ hR hQ _ _ => exact ⟨hR, by rw [mT_of hR, mT_of hR]; exact hQ⟩
  | err h1 _ hr hm _ => subst h1; exfalso; apply hK; unfold ofK; rw [ofZ_of hE]; show msK xs = 3; unfold msK; rw [hm, hr]; rfl
theorem hq_two {pr : UInt8} {s d : Nat} {xs : List UInt8} (hE : ofE pr s d xs = 0) (hK : ofK pr s d xs ≠ 3) (ff ft : Nat) : pr = 1 → (ecA (mT xs 0) = true → ofT pr s d xs &&& ft = 0) ∧ (ecA (mT xs 0) = false → ofF pr s d xs &&& ff = 0) := fun h1 => by
  obtain ⟨hR, hQ⟩ := query_of hE hK h1
  subst h1
  have he := Ends.query (s := s) (d := d) hR hQ
  refine ⟨fun ha => ?_, fun ha => ?_⟩
  · rw [he.et, ha]; show 0 &&& ft = 0; exact Nat.zero_and ft
  · rw [he.ef, ha]; show 0 &&& ff = 0; exact Nat.zero_and ff
theorem hq_one {pr : UInt8} {s d : Nat} {xs : List UInt8} (hE : ofE pr s d xs = 0) (hK : ofK pr s d xs ≠ 3) (h2 : ofK pr s d xs ≠ 2) (ff ft : Nat) : pr = 1 → (ecA (mT xs 0) = true → ft = 0) ∧ (ecA (mT xs 0) = false → ff = 0) := fun h1 => by
  obtain ⟨hR, hQ⟩ := query_of hE hK h1
  subst h1
  exact absurd (Ends.query (s := s) (d := d) hR hQ).ek h2
theorem back_law {pr : UInt8} {s d : Nat} {xs : List UInt8} {fs fd ff ft : Nat} (hff : ff < 65536) (hft : ft < 65536) (hE : ofE pr s d xs = 0) (hK : ofK pr s d xs ≠ 3)
    (hq : pr = 1 → (ecA (mT xs 0) = true → ft = 0) ∧ (ecA (mT xs 0) = false → ff = 0)) :
    ∃ Y, rwB pr s d xs pr fs fd ff ft = Y ∧ Ends pr fs fd Y (ofK pr s d xs) ff ft ∧ ∀ S D F T, rwB pr fs fd Y pr S D F T = rwB pr s d xs pr S D F T := by
  have hG := (rwG_of hE (ofP_of hE hK)).1
  have hB := fun (fs fd ff ft : Nat) => rwB_of (fs := fs) (fd := fd) (ff := ff) (ft := ft) hG
  cases goes_of hE with
  | tcp h1 hR h8 =>
    subst h1
    obtain ⟨Y, hY, z0, z1, z2, z3, z4, z5, z6, z7, z8, z9⟩ := seg_back (s := fs) (d := fd) (fl := tL s d xs) (os := tO s d xs) (xs := tD s d xs) hff hft (tW_lt8 s d xs 4) (tW_lt8 s d xs 8) (tF_lt8 s d xs 14) (tF_lt8 s d xs 18) (tE_read s d xs)
    have he : Ends 6 fs fd Y 1 ff ft := Ends.tcp z0 z1 z2
    refine ⟨Y, by rw [hB, hY]; rfl, ?_, fun S D F T => ?_⟩
    · rw [(Ends.tcp (s := s) (d := d) hR rfl rfl).ek]; exact he
    · rw [hB, rwB_of (rwG_of he.ee he.ep).1]
      show tB S D F T _ _ _ _ _ _ _ = tB S D F T _ _ _ _ _ _ _
      rw [z3, z4, z5, z6, z7, z8, z9]
  | udp h1 hR h8 =>
    subst h1
    obtain ⟨Y, hY, z0, z1, z2, z3, z4⟩ := udp_back (s := fs) (d := fd) (pl := uP s d xs) (xs := uD s d xs) hff hft (uE_read s d xs)
    have he : Ends 17 fs fd Y 1 ff ft := Ends.udp z0 z1 z2
    refine ⟨Y, by rw [hB, hY]; rfl, ?_, fun S D F T => ?_⟩
    · rw [(Ends.udp (s := s) (d := d) hR rfl rfl).ek]; exact he
    · rw [hB, rwB_of (rwG_of he.ee he.ep).1]
      show uB S D F T _ _ = uB S D F T _ _
      rw [z3, z4]
  | query h1 hR hQ hm h8 =>
    subst h1
    have hQ' : ecO (mT xs 0) (mT xs 1) = true := by rw [mT_of hR, mT_of hR]; exact hQ
    obtain ⟨i, hi⟩ : ∃ i, i = (bif !(ecA (mT xs 0)) then ft else ff) := ⟨_, rfl⟩
    have hil : i < 65536 := by rw [hi]; cases ecA (mT xs 0) <;> assumption
    obtain ⟨z1, z2, z3, z4, z5⟩ := msg_back (ty := mT xs 0) (co := mT xs 1) (re := rId (mN xs) i) (xs := mD xs) (rId_lt _ _) (mE_read xs)
    obtain ⟨Y, hY⟩ : ∃ Y, Y = mB (mT xs 0) (mT xs 1) (rId (mN xs) i) (mD xs) := ⟨_, rfl⟩
    rw [← hY] at z1 z2 z3 z4 z5
    have hI : msI Y = i := by unfold msI; rw [z4, rId_add]; omega
    have he0 := Ends.query (s := fs) (d := fd) z1 (by rw [z2, z3]; exact hQ')
    have he : Ends 1 fs fd Y 2 ff ft := by
      rw [z2, hI] at he0
      obtain ⟨qa, qb⟩ := hq rfl
      cases ha : ecA (mT xs 0)
      · rw [ha] at he0 hi; rw [show ff = 0 from qb ha]; rw [show i = ft from hi] at he0; exact he0
      · rw [ha] at he0 hi; rw [show ft = 0 from qa ha]; rw [show i = ff from hi] at he0; exact he0
    refine ⟨Y, by rw [hB, hY, hi]; rfl, ?_, fun S D F T => ?_⟩
    · rw [(Ends.query (s := s) (d := d) hR hQ').ek]; exact he
    · rw [hB, rwB_of (rwG_of he.ee he.ep).1]
      show mB (mT Y 0) (mT Y 1) (rId (mN Y) (bif !(ecA (mT Y 0)) then T else F)) (mD Y) = mB (mT xs 0) (mT xs 1) (rId (mN xs) (bif !(ecA (mT xs 0)) then T else F)) (mD xs)
      rw [z2, z3, z4, z5, rId_rId]
  | err h1 _ hr hm _ => subst h1; exfalso; apply hK; unfold ofK; rw [ofZ_of hE]; show msK xs = 3; unfold msK; rw [hm, hr]; rfl
theorem rwq_c (tt pr : UInt8) (id s d : Nat) (xs : List UInt8) (a : Option Addr) (cap : Nat) (fp : UInt8) (fs fd ff ft : Nat) (w : World) (hk : ofK pr s d xs ≠ 3) (hfs : fs < 4294967296) (hfd : fd < 4294967296) (hff : ff < 65536) (hft : ft < 65536) (hat : At w a (byc xs)) (hi : id < 65536) (hs : s < 4294967296) (hd : d < 4294967296) (hl : xs.length ≤ 100000) (hlc : xs.length ≤ cap) : Calls Try.prog 18 #[Value.agg ([Value.int .u8 ((tt.toNat : Nat) : Int), Value.int .u8 ((pr.toNat : Nat) : Int), Value.int .u16 ((id : Nat) : Int), Value.int .u32 ((s : Nat) : Int), Value.int .u32 ((d : Nat) : Int), Value.slice a xs.length cap]).toArray, Value.agg ([Value.int .u8 ((fp.toNat : Nat) : Int), Value.int .u32 ((fs : Nat) : Int), Value.int .u32 ((fd : Nat) : Int), Value.int .u16 ((ff : Nat) : Int), Value.int .u16 ((ft : Nat) : Int)]).toArray] w (RetM w (fun g : FS => g.ok 1 (rwB pr s d xs fp fs fd ff ft).length) (fun g => .tuple #[.agg ([Value.int .u8 (((anU (rwG pr s d xs fp) tt).toNat : Nat) : Int), Value.int .u8 (((anU (rwG pr s d xs fp) pr).toNat : Nat) : Int), Value.int .u16 ((anN (rwG pr s d xs fp) id : Nat) : Int), Value.int .u32 ((anN (rwG pr s d xs fp) fs : Nat) : Int), Value.int .u32 ((anN (rwG pr s d xs fp) fd : Nat) : Int), Value.slice g.a ((rwB pr s d xs fp fs fd ff ft).length) g.cap]).toArray, .int .i64 (rwX pr s d xs fp)]) [] (fun g => [g.seg 5 (byc (rwB pr s d xs fp fs fd ff ft))])) := by
  have hmn_ := mN_lt xs; have hml_ := mD_le xs; have ht14_ := tF_lt8 s d xs 14; have ht18_ := tF_lt8 s d xs 18; have ht4_ := tW_lt8 s d xs 4; have ht8_ := tW_lt8 s d xs 8; have htO_ := tO_le8 s d xs; have htD_ := tD_le8 s d xs; have huD_ := uD_le8 s d xs
  refine calls_W (M := []) (LL := []) (n := 167) Try.func18 rfl rfl (by simp) (Mem.refl _) ?_
  refine W.seq (fun K1 hK1 => ?_)
  refine W.region ?_
  refine Wl.ht rfl (Ht.box (v := Value.agg ([nV .u8 tt.toNat, nV .u8 pr.toNat, nV .u16 id, nV .u32 s, nV .u32 d, Value.slice a xs.length cap]).toArray) (cs := [nV .u8 tt.toNat, nV .u8 pr.toNat, nV .u16 id, nV .u32 s, nV .u32 d, Value.slice a xs.length cap]) rfl rfl (by kernel_rfl) rfl) (fun p2 => ?_)
  refine Wl.ht rfl (Ht.box (v := Value.agg ([nV .u8 fp.toNat, nV .u32 fs, nV .u32 fd, nV .u16 ff, nV .u16 ft]).toArray) (cs := [nV .u8 fp.toNat, nV .u32 fs, nV .u32 fd, nV .u16 ff, nV .u16 ft]) rfl rfl (by kernel_rfl) rfl) (fun p3 => ?_)
  refine Wl.ht rfl (Ht.alloc (z := Value.agg ([Value.int .u8 0, Value.int .u8 0, Value.int .u16 0, Value.int .u32 0, Value.int .u32 0, Value.slice none 0 0]).toArray) (cs := [Value.int .u8 0, Value.int .u8 0, Value.int .u16 0, Value.int .u32 0, Value.int .u32 0, Value.slice none 0 0]) rfl rfl Try.zeroValue27 rfl) (fun p4 => ?_)
  refine Wl.run 1 (by kernel_rfl) ?_
  refine Wl.nil ?_
  refine hK1 _ _ _ ?_
  refine W.prune' [2, 3, 4] [Value.pointer (some ⟨p2, 0, none⟩), Value.pointer (some ⟨p3, 0, none⟩), Value.pointer (some ⟨p4, 0, none⟩)] (by kernel_rfl) (fun f2 => ?_)
  refine W.seq (fun K3 hK3 => ?_)
  refine W.region ?_
  refine Wl.ys (v := Value.agg ([nV .u8 tt.toNat, nV .u8 pr.toNat, nV .u16 id, nV .u32 s, nV .u32 d, Value.slice a xs.length cap]).toArray) rfl rfl (Ys.loadN (b := p2) (o' := 0) (i := 2) (j := 0) (cs := [nV .u8 tt.toNat, nV .u8 pr.toNat, nV .u16 id, nV .u32 s, nV .u32 d, Value.slice a xs.length cap]) (vs := [nV .u8 tt.toNat, nV .u8 pr.toNat, nV .u16 id, nV .u32 s, nV .u32 d, Value.slice a xs.length cap]) rfl (by kernel_rfl) Try.isAgg27 Try.sizeOf27 rfl rfl rfl rfl) ?_
  refine Wl.yc (v := Value.tuple #[Value.agg ([nV .u8 ((ofP pr s d xs).toNat), nV .u32 (ofS pr s d xs), nV .u32 (ofD pr s d xs), nV .u16 (ofF pr s d xs), nV .u16 (ofT pr s d xs)]).toArray, Value.int .i64 (ofK pr s d xs), Value.int .i64 (ofE pr s d xs)]) rfl rfl (Yc.call (k := 11) (args := #[Value.agg ([nV .u8 tt.toNat, nV .u8 pr.toNat, nV .u16 id, nV .u32 s, nV .u32 d, Value.slice a xs.length cap]).toArray]) (fun _ => by kernel_rfl) (fun w_ hm_ => (ofn_c tt pr id s d xs a cap xs.length _ (by first | rfl | (rw [List.length_take]; omega) | (simp; done) | (simp [be_len, be_len, psh_len]; omega)) (hat.mem0 hm_) (by first | omega | exact anN_lt (by omega)) (by first | omega | exact anN_lt (by omega)) (by first | omega | exact anN_lt (by omega)) (by first | omega | (simp; done) | (simp; omega)) (by first | omega | (simp; done) | (simp; omega))))) ?_
  refine Wl.run 4 (by kernel_rfl) ?_
  refine Wl.ht rfl (Ht.alloc (z := Value.agg ([Value.int .u8 0, Value.int .u32 0, Value.int .u32 0, Value.int .u16 0, Value.int .u16 0]).toArray) (cs := [Value.int .u8 0, Value.int .u32 0, Value.int .u32 0, Value.int .u16 0, Value.int .u16 0]) rfl rfl Try.zeroValue30 rfl) (fun p6 => ?_)
  refine Wl.ht rfl (Ht.storeN (b := p6) (o' := 0) (i := 0) (j := 0) (cs := [Value.int .u8 0, Value.int .u32 0, Value.int .u32 0, Value.int .u16 0, Value.int .u16 0]) (vs := [nV .u8 ((ofP pr s d xs).toNat), nV .u32 (ofS pr s d xs), nV .u32 (ofD pr s d xs), nV .u16 (ofF pr s d xs), nV .u16 (ofT pr s d xs)]) (cs' := [nV .u8 ((ofP pr s d xs).toNat), nV .u32 (ofS pr s d xs), nV .u32 (ofD pr s d xs), nV .u16 (ofF pr s d xs), nV .u16 (ofT pr s d xs)]) (LL' := [[cb p6 [nV .u8 ((ofP pr s d xs).toNat), nV .u32 (ofS pr s d xs), nV .u32 (ofD pr s d xs), nV .u16 (ofF pr s d xs), nV .u16 (ofT pr s d xs)] 30], [cb p4 [Value.int .u8 0, Value.int .u8 0, Value.int .u16 0, Value.int .u32 0, Value.int .u32 0, Value.slice none 0 0] 27], [cb p3 [nV .u8 fp.toNat, nV .u32 fs, nV .u32 fd, nV .u16 ff, nV .u16 ft] 30], [cb p2 [nV .u8 tt.toNat, nV .u8 pr.toNat, nV .u16 id, nV .u32 s, nV .u32 d, Value.slice a xs.length cap] 27]]) rfl rfl (by kernel_rfl) (by kernel_rfl) Try.sizeOf30 (by simp [Value.oneCell']) rfl rfl (by simp) rfl rfl) (fun _ => ?_)
  refine Wl.run 2 (by kernel_rfl) ?_
  refine Wl.nil ?_
  refine hK3 _ _ _ ?_
  refine W.prune' [2, 3, 4, 6, 7, 8] [Value.pointer (some ⟨p2, 0, none⟩), Value.pointer (some ⟨p3, 0, none⟩), Value.pointer (some ⟨p4, 0, none⟩), Value.pointer (some ⟨p6, 0, none⟩), Value.int .i64 (ofK pr s d xs), Value.int .i64 (ofE pr s d xs)] (by kernel_rfl) (fun f4 => ?_)
  refine W.seq (fun K5 hK5 => ?_)
  refine W.block ?_
  refine W.seq (fun K6 hK6 => ?_)
  refine W.region ?_
  refine Wl.run 3 (by kernel_rfl) ?_
  refine Wl.nil ?_
  refine hK6 _ _ _ ?_
  refine W.prune' [2, 3, 4, 6, 7, 8, 27] [Value.pointer (some ⟨p2, 0, none⟩), Value.pointer (some ⟨p3, 0, none⟩), Value.pointer (some ⟨p4, 0, none⟩), Value.pointer (some ⟨p6, 0, none⟩), Value.int .i64 (ofK pr s d xs), Value.int .i64 (ofE pr s d xs), Value.bool ((ofE pr s d xs) != 0)] (by kernel_rfl) (fun f7 => ?_)
  refine W.cond ((ofE pr s d xs) != 0) (by kernel_rfl) (fun h8 => ?_) (fun h9 => ?_)
  · have qh8 := h8; try simp only [Bool.and_eq_true, Bool.or_eq_true, Bool.not_eq_true', Bool.not_eq_false', Bool.and_eq_false_iff, Bool.or_eq_false_iff, decide_eq_true_eq, decide_eq_false_iff_not, beq_iff_eq, bne_iff_ne, beq_eq_false_iff_ne, bne_eq_false_iff_eq] at qh8
    refine W.seq (fun K10 hK10 => ?_)
    refine W.region ?_
    refine Wl.run 2 (by kernel_rfl) ?_
    refine Wl.ht rfl (Ht.storeN (b := p4) (o' := 0) (i := 1) (j := 0) (cs := [Value.int .u8 0, Value.int .u8 0, Value.int .u16 0, Value.int .u32 0, Value.int .u32 0, Value.slice none 0 0]) (vs := [Value.int .u8 0, Value.int .u8 0, Value.int .u16 0, Value.int .u32 0, Value.int .u32 0, Value.slice none 0 0]) (cs' := [Value.int .u8 0, Value.int .u8 0, Value.int .u16 0, Value.int .u32 0, Value.int .u32 0, Value.slice none 0 0]) (LL' := [[cb p6 [nV .u8 ((ofP pr s d xs).toNat), nV .u32 (ofS pr s d xs), nV .u32 (ofD pr s d xs), nV .u16 (ofF pr s d xs), nV .u16 (ofT pr s d xs)] 30], [cb p4 [Value.int .u8 0, Value.int .u8 0, Value.int .u16 0, Value.int .u32 0, Value.int .u32 0, Value.slice none 0 0] 27], [cb p3 [nV .u8 fp.toNat, nV .u32 fs, nV .u32 fd, nV .u16 ff, nV .u16 ft] 30], [cb p2 [nV .u8 tt.toNat, nV .u8 pr.toNat, nV .u16 id, nV .u32 s, nV .u32 d, Value.slice a xs.length cap] 27]]) rfl rfl (by kernel_rfl) (by kernel_rfl) Try.sizeOf27 (by simp [Value.oneCell']) rfl rfl (by simp) rfl rfl) (fun _ => ?_)
    refine Wl.run 1 (by kernel_rfl) ?_
    refine Wl.nil ?_
    refine hK10 _ _ _ ?_
    refine W.pick (LL' := [[cb p4 [Value.int .u8 0, Value.int .u8 0, Value.int .u16 0, Value.int .u32 0, Value.int .u32 0, Value.slice none 0 0] 27]]) [1] (by decide) rfl ?_
    refine W.prune' [4, 5] [Value.pointer (some ⟨p4, 0, none⟩), Value.int .i64 (ofE pr s d xs)] (by kernel_rfl) (fun f11 => ?_)
    refine W.ret ?_
    have hG : rwG pr s d xs fp = false := by unfold rwG; rw [h8]; rfl
    have hX : rwX pr s d xs fp = ofE pr s d xs := by unfold rwX; rw [h8]; rfl
    have hB : rwB pr s d xs fp fs fd ff ft = [] := by unfold rwB; rw [hG]; rfl
    show ∀ w_, _ → bodyPostM (fence none) 0 Try.prog Try.f18 _ Exit.ret _ w_
    exact fun w_ hS_ => fin_ret (ret2 rfl (RV.cellN (b := p4) (o' := 0) (i := 0) (j := 0) (cs := [Value.int .u8 0, Value.int .u8 0, Value.int .u16 0, Value.int .u32 0, Value.int .u32 0, Value.slice none 0 0]) (vs := [Value.int .u8 0, Value.int .u8 0, Value.int .u16 0, Value.int .u32 0, Value.int .u32 0, Value.slice none 0 0]) (by kernel_rfl) Try.isAgg27 Try.sizeOf27 rfl rfl rfl rfl) (RV.tmp (v := Value.int .i64 (ofE pr s d xs)) (by kernel_rfl)) hS_ ⟨FS.nul, (by rw [hB]; exact FS.nul_ok 1), congrArg Ending.returned ((by rw [hB, hG, hX]; rfl)), (Mem.cast (by rw [hB]; rfl) (Mem.push (hS_.pick [] (by decide) rfl)))⟩)
  · have qh9 := h9; try simp only [Bool.and_eq_true, Bool.or_eq_true, Bool.not_eq_true', Bool.not_eq_false', Bool.and_eq_false_iff, Bool.or_eq_false_iff, decide_eq_true_eq, decide_eq_false_iff_not, beq_iff_eq, bne_iff_ne, beq_eq_false_iff_ne, bne_eq_false_iff_eq] at qh9
    refine W.seq (fun K12 hK12 => ?_)
    refine W.region ?_
    refine Wl.run 1 (by kernel_rfl) ?_
    refine Wl.ys (v := nV .u8 fp.toNat) rfl rfl (Ys.load (b := p3) (o' := 0) (i := 2) (j := 0) (cs := [nV .u8 fp.toNat, nV .u32 fs, nV .u32 fd, nV .u16 ff, nV .u16 ft]) (v := nV .u8 fp.toNat) rfl (by kernel_rfl) Try.isAgg5 rfl rfl rfl) ?_
    refine Wl.run 1 (by kernel_rfl) ?_
    refine Wl.ys (v := nV .u8 ((ofP pr s d xs).toNat)) rfl rfl (Ys.load (b := p6) (o' := 0) (i := 0) (j := 0) (cs := [nV .u8 ((ofP pr s d xs).toNat), nV .u32 (ofS pr s d xs), nV .u32 (ofD pr s d xs), nV .u16 (ofF pr s d xs), nV .u16 (ofT pr s d xs)]) (v := nV .u8 ((ofP pr s d xs).toNat)) rfl (by kernel_rfl) Try.isAgg5 rfl rfl rfl) ?_
    refine Wl.run 2 (by kernel_rfl) ?_
    refine Wl.nil ?_
    refine hK12 _ _ _ ?_
    refine W.prune' [2, 3, 4, 6, 7, 32] [Value.pointer (some ⟨p2, 0, none⟩), Value.pointer (some ⟨p3, 0, none⟩), Value.pointer (some ⟨p4, 0, none⟩), Value.pointer (some ⟨p6, 0, none⟩), Value.int .i64 (ofK pr s d xs), Value.bool (((fp.toNat : Nat) : Int) != (((ofP pr s d xs).toNat : Nat) : Int))] (by kernel_rfl) (fun f13 => ?_)
    refine W.cond (((fp.toNat : Nat) : Int) != (((ofP pr s d xs).toNat : Nat) : Int)) (by kernel_rfl) (fun h14 => ?_) (fun h15 => ?_)
    · have qh14 := h14; try simp only [Bool.and_eq_true, Bool.or_eq_true, Bool.not_eq_true', Bool.not_eq_false', Bool.and_eq_false_iff, Bool.or_eq_false_iff, decide_eq_true_eq, decide_eq_false_iff_not, beq_iff_eq, bne_iff_ne, beq_eq_false_iff_ne, bne_eq_false_iff_eq] at qh14
      refine W.seq (fun K16 hK16 => ?_)
      refine W.region ?_
      refine Wl.run 1 (by kernel_rfl) ?_
      refine Wl.ht rfl (Ht.storeN (b := p4) (o' := 0) (i := 1) (j := 0) (cs := [Value.int .u8 0, Value.int .u8 0, Value.int .u16 0, Value.int .u32 0, Value.int .u32 0, Value.slice none 0 0]) (vs := [Value.int .u8 0, Value.int .u8 0, Value.int .u16 0, Value.int .u32 0, Value.int .u32 0, Value.slice none 0 0]) (cs' := [Value.int .u8 0, Value.int .u8 0, Value.int .u16 0, Value.int .u32 0, Value.int .u32 0, Value.slice none 0 0]) (LL' := [[cb p6 [nV .u8 ((ofP pr s d xs).toNat), nV .u32 (ofS pr s d xs), nV .u32 (ofD pr s d xs), nV .u16 (ofF pr s d xs), nV .u16 (ofT pr s d xs)] 30], [cb p4 [Value.int .u8 0, Value.int .u8 0, Value.int .u16 0, Value.int .u32 0, Value.int .u32 0, Value.slice none 0 0] 27], [cb p3 [nV .u8 fp.toNat, nV .u32 fs, nV .u32 fd, nV .u16 ff, nV .u16 ft] 30], [cb p2 [nV .u8 tt.toNat, nV .u8 pr.toNat, nV .u16 id, nV .u32 s, nV .u32 d, Value.slice a xs.length cap] 27]]) rfl rfl (by kernel_rfl) (by kernel_rfl) Try.sizeOf27 (by simp [Value.oneCell']) rfl rfl (by simp) rfl rfl) (fun _ => ?_)
      refine Wl.run 1 (by kernel_rfl) ?_
      refine Wl.nil ?_
      refine hK16 _ _ _ ?_
      refine W.pick (LL' := [[cb p4 [Value.int .u8 0, Value.int .u8 0, Value.int .u16 0, Value.int .u32 0, Value.int .u32 0, Value.slice none 0 0] 27]]) [1] (by decide) rfl ?_
      refine W.prune' [4, 5] [Value.pointer (some ⟨p4, 0, none⟩), Value.int .i64 1] (by kernel_rfl) (fun f17 => ?_)
      refine W.ret ?_
      have hG : rwG pr s d xs fp = false := by unfold rwG; rw [h9, h14]; rfl
      have hX : rwX pr s d xs fp = 1 := by unfold rwX; rw [h9, h14]; rfl
      have hB : rwB pr s d xs fp fs fd ff ft = [] := by unfold rwB; rw [hG]; rfl
      show ∀ w_, _ → bodyPostM (fence none) 0 Try.prog Try.f18 _ Exit.ret _ w_
      exact fun w_ hS_ => fin_ret (ret2 rfl (RV.cellN (b := p4) (o' := 0) (i := 0) (j := 0) (cs := [Value.int .u8 0, Value.int .u8 0, Value.int .u16 0, Value.int .u32 0, Value.int .u32 0, Value.slice none 0 0]) (vs := [Value.int .u8 0, Value.int .u8 0, Value.int .u16 0, Value.int .u32 0, Value.int .u32 0, Value.slice none 0 0]) (by kernel_rfl) Try.isAgg27 Try.sizeOf27 rfl rfl rfl rfl) (RV.tmp (v := Value.int .i64 1) (by kernel_rfl)) hS_ ⟨FS.nul, (by rw [hB]; exact FS.nul_ok 1), congrArg Ending.returned ((by rw [hB, hG, hX]; rfl)), (Mem.cast (by rw [hB]; rfl) (Mem.push (hS_.pick [] (by decide) rfl)))⟩)
    · have qh15 := h15; try simp only [Bool.and_eq_true, Bool.or_eq_true, Bool.not_eq_true', Bool.not_eq_false', Bool.and_eq_false_iff, Bool.or_eq_false_iff, decide_eq_true_eq, decide_eq_false_iff_not, beq_iff_eq, bne_iff_ne, beq_eq_false_iff_ne, bne_eq_false_iff_eq] at qh15
      refine W.skip' ?_
      refine hK5 _ _ _ ?_
      refine W.prune' [2, 3, 4, 6, 7] [Value.pointer (some ⟨p2, 0, none⟩), Value.pointer (some ⟨p3, 0, none⟩), Value.pointer (some ⟨p4, 0, none⟩), Value.pointer (some ⟨p6, 0, none⟩), Value.int .i64 (ofK pr s d xs)] (by kernel_rfl) (fun f18 => ?_)
      refine W.seq (fun K19 hK19 => ?_)
      refine W.draws [(0, true), (1, true), (2, true), (3, true), (4, true), (5, true), (6, false), (7, false), (8, false)] [0, 1, 2, 3, 4, 5] (Mem w [] [[cb p6 [nV .u8 ((ofP pr s d xs).toNat), nV .u32 (ofS pr s d xs), nV .u32 (ofD pr s d xs), nV .u16 (ofF pr s d xs), nV .u16 (ofT pr s d xs)] 30], [cb p4 [Value.int .u8 0, Value.int .u8 0, Value.int .u16 0, Value.int .u32 0, Value.int .u32 0, Value.slice none 0 0] 27], [cb p3 [nV .u8 fp.toNat, nV .u32 fs, nV .u32 fd, nV .u16 ff, nV .u16 ft] 30], [cb p2 [nV .u8 tt.toNat, nV .u8 pr.toNat, nV .u16 id, nV .u32 s, nV .u32 d, Value.slice a xs.length cap] 27]]) (by kernel_rfl) (by kernel_rfl) (by kernel_rfl) rfl (by kernel_rfl) (fun _ _ h_ => h_.drawn _) (fun _ h_ => h_) ?_
      refine Wd.run 1 (by kernel_rfl) ?_
      refine Wd.ys (v := nV .u32 s) rfl rfl rfl (Ys.load (b := p2) (o' := 3) (i := 3) (j := 0) (cs := [nV .u8 tt.toNat, nV .u8 pr.toNat, nV .u16 id, nV .u32 s, nV .u32 d, Value.slice a xs.length cap]) (v := nV .u32 s) rfl (by kernel_rfl) Try.isAgg24 rfl rfl rfl) ?_
      refine Wd.run 1 (by kernel_rfl) ?_
      refine Wd.ys (v := nV .u32 d) rfl rfl rfl (Ys.load (b := p2) (o' := 4) (i := 3) (j := 0) (cs := [nV .u8 tt.toNat, nV .u8 pr.toNat, nV .u16 id, nV .u32 s, nV .u32 d, Value.slice a xs.length cap]) (v := nV .u32 d) rfl (by kernel_rfl) Try.isAgg24 rfl rfl rfl) ?_
      refine Wd.run 1 (by kernel_rfl) ?_
      refine Wd.ys (v := Value.slice a xs.length cap) rfl rfl rfl (Ys.load (b := p2) (o' := 5) (i := 3) (j := 0) (cs := [nV .u8 tt.toNat, nV .u8 pr.toNat, nV .u16 id, nV .u32 s, nV .u32 d, Value.slice a xs.length cap]) (v := Value.slice a xs.length cap) rfl (by kernel_rfl) Try.isAgg25 rfl rfl rfl) ?_
      refine Wd.yc (v := nV .u32 s) rfl rfl rfl (Ys.yc (Ys.pure (fun _ => by kernel_rfl))) (.inr fun _ h_ => h_) ?_
      refine Wd.yc (v := nV .u32 d) rfl rfl rfl (Ys.yc (Ys.pure (fun _ => by kernel_rfl))) (.inr fun _ h_ => h_) ?_
      refine Wd.yc (v := Value.slice a xs.length cap) rfl rfl rfl (Ys.yc (Ys.pure (fun _ => by kernel_rfl))) (.inl (by kernel_rfl)) ?_
      refine Wd.nil ?_
      refine hK19 _ _ _ ?_
      refine W.prune' [2, 3, 4, 6, 7, 9, 10, 11] [Value.pointer (some ⟨p2, 0, none⟩), Value.pointer (some ⟨p3, 0, none⟩), Value.pointer (some ⟨p4, 0, none⟩), Value.pointer (some ⟨p6, 0, none⟩), Value.int .i64 (ofK pr s d xs), nV .u32 s, nV .u32 d, Value.slice a xs.length cap] (by kernel_rfl) (fun f20 => ?_)
      refine W.seq (fun K21 hK21 => ?_)
      refine W.seq (fun K22 hK22 => ?_)
      refine W.region ?_
      refine Wl.run 3 (by kernel_rfl) ?_
      refine Wl.guard (v := nV .u32 s) (!((ofK pr s d xs) != 3)) rfl (wantF rfl (by kernel_rfl)) rfl (fun hg23 => ?_) ?_
      · have qhg23 := hg23; try simp only [Bool.and_eq_true, Bool.or_eq_true, Bool.not_eq_true', Bool.not_eq_false', Bool.and_eq_false_iff, Bool.or_eq_false_iff, decide_eq_true_eq, decide_eq_false_iff_not, beq_iff_eq, bne_iff_ne, beq_eq_false_iff_ne, bne_eq_false_iff_eq] at qhg23
        exact Ys.pure (fun _ => by kernel_rfl)
      refine Wl.guard (v := Value.pointer (some ⟨p6, 1, none⟩)) (!((ofK pr s d xs) != 3)) rfl (wantF rfl (by kernel_rfl)) rfl (fun hg24 => ?_) ?_
      · have qhg24 := hg24; try simp only [Bool.and_eq_true, Bool.or_eq_true, Bool.not_eq_true', Bool.not_eq_false', Bool.and_eq_false_iff, Bool.or_eq_false_iff, decide_eq_true_eq, decide_eq_false_iff_not, beq_iff_eq, bne_iff_ne, beq_eq_false_iff_ne, bne_eq_false_iff_eq] at qhg24
        exact Ys.pure (fun _ => by kernel_rfl)
      refine Wl.guard (v := nV .u32 (ofS pr s d xs)) (!((ofK pr s d xs) != 3)) rfl (wantF rfl (by kernel_rfl)) rfl (fun hg25 => ?_) ?_
      · have qhg25 := hg25; try simp only [Bool.and_eq_true, Bool.or_eq_true, Bool.not_eq_true', Bool.not_eq_false', Bool.and_eq_false_iff, Bool.or_eq_false_iff, decide_eq_true_eq, decide_eq_false_iff_not, beq_iff_eq, bne_iff_ne, beq_eq_false_iff_ne, bne_eq_false_iff_eq] at qhg25
        refine Ys.at (t := 49) (v0 := Value.pointer (some ⟨p6, 1, none⟩)) (lz (g := !((ofK pr s d xs) != 3)) (u := undef) hg25 (by kernel_rfl)) ?_
        exact Ys.load (b := p6) (o' := 1) (i := 0) (j := 0) (cs := [nV .u8 ((ofP pr s d xs).toNat), nV .u32 (ofS pr s d xs), nV .u32 (ofD pr s d xs), nV .u16 (ofF pr s d xs), nV .u16 (ofT pr s d xs)]) (v := nV .u32 (ofS pr s d xs)) rfl (by kernel_rfl) Try.isAgg24 rfl rfl rfl
      refine Wl.guard (v := Value.bool (((s : Nat) : Int) == ((ofS pr s d xs : Nat) : Int))) (!((ofK pr s d xs) != 3)) rfl (wantF rfl (by kernel_rfl)) rfl (fun hg26 => ?_) ?_
      · have qhg26 := hg26; try simp only [Bool.and_eq_true, Bool.or_eq_true, Bool.not_eq_true', Bool.not_eq_false', Bool.and_eq_false_iff, Bool.or_eq_false_iff, decide_eq_true_eq, decide_eq_false_iff_not, beq_iff_eq, bne_iff_ne, beq_eq_false_iff_ne, bne_eq_false_iff_eq] at qhg26
        refine Ys.at (t := 48) (v0 := nV .u32 s) (lz (g := !((ofK pr s d xs) != 3)) (u := undef) hg26 (by kernel_rfl)) ?_
        refine Ys.at (t := 50) (v0 := nV .u32 (ofS pr s d xs)) (lz (g := !((ofK pr s d xs) != 3)) (u := undef) hg26 (by kernel_rfl)) ?_
        exact Ys.pure (fun _ => by kernel_rfl)
      refine Wl.ys (v := Value.bool (((ofK pr s d xs) != 3) || (((s : Nat) : Int) == ((ofS pr s d xs : Nat) : Int)))) rfl rfl (Ys.or' (e := (ofK pr s d xs) != 3) (b := ((s : Nat) : Int) == ((ofS pr s d xs : Nat) : Int)) rfl (by kernel_rfl) (by kernel_rfl) (by kernel_rfl)) ?_
      refine Wl.nil ?_
      refine hK22 _ _ _ ?_
      refine W.prune' [2, 3, 4, 6, 7, 9, 10, 11, 52] [Value.pointer (some ⟨p2, 0, none⟩), Value.pointer (some ⟨p3, 0, none⟩), Value.pointer (some ⟨p4, 0, none⟩), Value.pointer (some ⟨p6, 0, none⟩), Value.int .i64 (ofK pr s d xs), nV .u32 s, nV .u32 d, Value.slice a xs.length cap, Value.bool (((ofK pr s d xs) != 3) || (((s : Nat) : Int) == ((ofS pr s d xs : Nat) : Int)))] (by kernel_rfl) (fun f27 => ?_)
      refine W.cond (((ofK pr s d xs) != 3) || (((s : Nat) : Int) == ((ofS pr s d xs : Nat) : Int))) (by kernel_rfl) (fun h28 => ?_) (fun h29 => ?_)
      · have qh28 := h28; try simp only [Bool.and_eq_true, Bool.or_eq_true, Bool.not_eq_true', Bool.not_eq_false', Bool.and_eq_false_iff, Bool.or_eq_false_iff, decide_eq_true_eq, decide_eq_false_iff_not, beq_iff_eq, bne_iff_ne, beq_eq_false_iff_ne, bne_eq_false_iff_eq] at qh28
        refine W.region ?_
        refine Wl.run 1 (by kernel_rfl) ?_
        refine Wl.ys (v := nV .u32 fs) rfl rfl (Ys.load (b := p3) (o' := 1) (i := 2) (j := 0) (cs := [nV .u8 fp.toNat, nV .u32 fs, nV .u32 fd, nV .u16 ff, nV .u16 ft]) (v := nV .u32 fs) rfl (by kernel_rfl) Try.isAgg24 rfl rfl rfl) ?_
        refine Wl.run 1 (by kernel_rfl) ?_
        refine Wl.ht rfl (Ht.store (b := p2) (o' := 3) (i := 3) (j := 0) (cs := [nV .u8 tt.toNat, nV .u8 pr.toNat, nV .u16 id, nV .u32 s, nV .u32 d, Value.slice a xs.length cap]) (cs' := [nV .u8 tt.toNat, nV .u8 pr.toNat, nV .u16 id, nV .u32 fs, nV .u32 d, Value.slice a xs.length cap]) (v := nV .u32 fs) (LL' := [[cb p6 [nV .u8 ((ofP pr s d xs).toNat), nV .u32 (ofS pr s d xs), nV .u32 (ofD pr s d xs), nV .u16 (ofF pr s d xs), nV .u16 (ofT pr s d xs)] 30], [cb p4 [Value.int .u8 0, Value.int .u8 0, Value.int .u16 0, Value.int .u32 0, Value.int .u32 0, Value.slice none 0 0] 27], [cb p3 [nV .u8 fp.toNat, nV .u32 fs, nV .u32 fd, nV .u16 ff, nV .u16 ft] 30], [cb p2 [nV .u8 tt.toNat, nV .u8 pr.toNat, nV .u16 id, nV .u32 fs, nV .u32 d, Value.slice a xs.length cap] 27]]) rfl rfl (by kernel_rfl) (by kernel_rfl) Try.sizeOf24 rfl rfl rfl (by simp) rfl rfl) (fun _ => ?_)
        refine Wl.nil ?_
        refine hK21 _ _ _ ?_
        refine W.prune' [2, 3, 4, 6, 7, 9, 10, 11] [Value.pointer (some ⟨p2, 0, none⟩), Value.pointer (some ⟨p3, 0, none⟩), Value.pointer (some ⟨p4, 0, none⟩), Value.pointer (some ⟨p6, 0, none⟩), Value.int .i64 (ofK pr s d xs), nV .u32 s, nV .u32 d, Value.slice a xs.length cap] (by kernel_rfl) (fun f30 => ?_)
        refine W.seq (fun K31 hK31 => ?_)
        refine W.seq (fun K32 hK32 => ?_)
        refine W.region ?_
        refine Wl.run 3 (by kernel_rfl) ?_
        refine Wl.guard (v := nV .u32 d) (!((ofK pr s d xs) != 3)) rfl (wantF rfl (by kernel_rfl)) rfl (fun hg33 => ?_) ?_
        · have qhg33 := hg33; try simp only [Bool.and_eq_true, Bool.or_eq_true, Bool.not_eq_true', Bool.not_eq_false', Bool.and_eq_false_iff, Bool.or_eq_false_iff, decide_eq_true_eq, decide_eq_false_iff_not, beq_iff_eq, bne_iff_ne, beq_eq_false_iff_ne, bne_eq_false_iff_eq] at qhg33
          exact Ys.pure (fun _ => by kernel_rfl)
        refine Wl.guard (v := Value.pointer (some ⟨p6, 2, none⟩)) (!((ofK pr s d xs) != 3)) rfl (wantF rfl (by kernel_rfl)) rfl (fun hg34 => ?_) ?_
        · have qhg34 := hg34; try simp only [Bool.and_eq_true, Bool.or_eq_true, Bool.not_eq_true', Bool.not_eq_false', Bool.and_eq_false_iff, Bool.or_eq_false_iff, decide_eq_true_eq, decide_eq_false_iff_not, beq_iff_eq, bne_iff_ne, beq_eq_false_iff_ne, bne_eq_false_iff_eq] at qhg34
          exact Ys.pure (fun _ => by kernel_rfl)
        refine Wl.guard (v := nV .u32 (ofD pr s d xs)) (!((ofK pr s d xs) != 3)) rfl (wantF rfl (by kernel_rfl)) rfl (fun hg35 => ?_) ?_
        · have qhg35 := hg35; try simp only [Bool.and_eq_true, Bool.or_eq_true, Bool.not_eq_true', Bool.not_eq_false', Bool.and_eq_false_iff, Bool.or_eq_false_iff, decide_eq_true_eq, decide_eq_false_iff_not, beq_iff_eq, bne_iff_ne, beq_eq_false_iff_ne, bne_eq_false_iff_eq] at qhg35
          refine Ys.at (t := 60) (v0 := Value.pointer (some ⟨p6, 2, none⟩)) (lz (g := !((ofK pr s d xs) != 3)) (u := undef) hg35 (by kernel_rfl)) ?_
          exact Ys.load (b := p6) (o' := 2) (i := 0) (j := 0) (cs := [nV .u8 ((ofP pr s d xs).toNat), nV .u32 (ofS pr s d xs), nV .u32 (ofD pr s d xs), nV .u16 (ofF pr s d xs), nV .u16 (ofT pr s d xs)]) (v := nV .u32 (ofD pr s d xs)) rfl (by kernel_rfl) Try.isAgg24 rfl rfl rfl
        refine Wl.guard (v := Value.bool (((d : Nat) : Int) == ((ofD pr s d xs : Nat) : Int))) (!((ofK pr s d xs) != 3)) rfl (wantF rfl (by kernel_rfl)) rfl (fun hg36 => ?_) ?_
        · have qhg36 := hg36; try simp only [Bool.and_eq_true, Bool.or_eq_true, Bool.not_eq_true', Bool.not_eq_false', Bool.and_eq_false_iff, Bool.or_eq_false_iff, decide_eq_true_eq, decide_eq_false_iff_not, beq_iff_eq, bne_iff_ne, beq_eq_false_iff_ne, bne_eq_false_iff_eq] at qhg36
          refine Ys.at (t := 59) (v0 := nV .u32 d) (lz (g := !((ofK pr s d xs) != 3)) (u := undef) hg36 (by kernel_rfl)) ?_
          refine Ys.at (t := 61) (v0 := nV .u32 (ofD pr s d xs)) (lz (g := !((ofK pr s d xs) != 3)) (u := undef) hg36 (by kernel_rfl)) ?_
          exact Ys.pure (fun _ => by kernel_rfl)
        refine Wl.ys (v := Value.bool (((ofK pr s d xs) != 3) || (((d : Nat) : Int) == ((ofD pr s d xs : Nat) : Int)))) rfl rfl (Ys.or' (e := (ofK pr s d xs) != 3) (b := ((d : Nat) : Int) == ((ofD pr s d xs : Nat) : Int)) rfl (by kernel_rfl) (by kernel_rfl) (by kernel_rfl)) ?_
        refine Wl.nil ?_
        refine hK32 _ _ _ ?_
        refine W.prune' [2, 3, 4, 6, 7, 9, 10, 11, 63] [Value.pointer (some ⟨p2, 0, none⟩), Value.pointer (some ⟨p3, 0, none⟩), Value.pointer (some ⟨p4, 0, none⟩), Value.pointer (some ⟨p6, 0, none⟩), Value.int .i64 (ofK pr s d xs), nV .u32 s, nV .u32 d, Value.slice a xs.length cap, Value.bool (((ofK pr s d xs) != 3) || (((d : Nat) : Int) == ((ofD pr s d xs : Nat) : Int)))] (by kernel_rfl) (fun f37 => ?_)
        refine W.cond (((ofK pr s d xs) != 3) || (((d : Nat) : Int) == ((ofD pr s d xs : Nat) : Int))) (by kernel_rfl) (fun h38 => ?_) (fun h39 => ?_)
        · have qh38 := h38; try simp only [Bool.and_eq_true, Bool.or_eq_true, Bool.not_eq_true', Bool.not_eq_false', Bool.and_eq_false_iff, Bool.or_eq_false_iff, decide_eq_true_eq, decide_eq_false_iff_not, beq_iff_eq, bne_iff_ne, beq_eq_false_iff_ne, bne_eq_false_iff_eq] at qh38
          refine W.region ?_
          refine Wl.run 1 (by kernel_rfl) ?_
          refine Wl.ys (v := nV .u32 fd) rfl rfl (Ys.load (b := p3) (o' := 2) (i := 2) (j := 0) (cs := [nV .u8 fp.toNat, nV .u32 fs, nV .u32 fd, nV .u16 ff, nV .u16 ft]) (v := nV .u32 fd) rfl (by kernel_rfl) Try.isAgg24 rfl rfl rfl) ?_
          refine Wl.run 1 (by kernel_rfl) ?_
          refine Wl.ht rfl (Ht.store (b := p2) (o' := 4) (i := 3) (j := 0) (cs := [nV .u8 tt.toNat, nV .u8 pr.toNat, nV .u16 id, nV .u32 fs, nV .u32 d, Value.slice a xs.length cap]) (cs' := [nV .u8 tt.toNat, nV .u8 pr.toNat, nV .u16 id, nV .u32 fs, nV .u32 fd, Value.slice a xs.length cap]) (v := nV .u32 fd) (LL' := [[cb p6 [nV .u8 ((ofP pr s d xs).toNat), nV .u32 (ofS pr s d xs), nV .u32 (ofD pr s d xs), nV .u16 (ofF pr s d xs), nV .u16 (ofT pr s d xs)] 30], [cb p4 [Value.int .u8 0, Value.int .u8 0, Value.int .u16 0, Value.int .u32 0, Value.int .u32 0, Value.slice none 0 0] 27], [cb p3 [nV .u8 fp.toNat, nV .u32 fs, nV .u32 fd, nV .u16 ff, nV .u16 ft] 30], [cb p2 [nV .u8 tt.toNat, nV .u8 pr.toNat, nV .u16 id, nV .u32 fs, nV .u32 fd, Value.slice a xs.length cap] 27]]) rfl rfl (by kernel_rfl) (by kernel_rfl) Try.sizeOf24 rfl rfl rfl (by simp) rfl rfl) (fun _ => ?_)
          refine Wl.nil ?_
          refine hK31 _ _ _ ?_
          refine W.prune' [2, 3, 4, 6, 7, 9, 10, 11] [Value.pointer (some ⟨p2, 0, none⟩), Value.pointer (some ⟨p3, 0, none⟩), Value.pointer (some ⟨p4, 0, none⟩), Value.pointer (some ⟨p6, 0, none⟩), Value.int .i64 (ofK pr s d xs), nV .u32 s, nV .u32 d, Value.slice a xs.length cap] (by kernel_rfl) (fun f40 => ?_)
          refine W.seq (fun K41 hK41 => ?_)
          refine W.seq (fun K42 hK42 => ?_)
          refine W.region ?_
          refine Wl.run 1 (by kernel_rfl) ?_
          refine Wl.ys (v := nV .u8 pr.toNat) rfl rfl (Ys.load (b := p2) (o' := 1) (i := 3) (j := 0) (cs := [nV .u8 tt.toNat, nV .u8 pr.toNat, nV .u16 id, nV .u32 fs, nV .u32 fd, Value.slice a xs.length cap]) (v := nV .u8 pr.toNat) rfl (by kernel_rfl) Try.isAgg5 rfl rfl rfl) ?_
          refine Wl.nil ?_
          refine hK42 _ _ _ ?_
          refine W.prune' [2, 3, 4, 6, 7, 9, 10, 11, 68] [Value.pointer (some ⟨p2, 0, none⟩), Value.pointer (some ⟨p3, 0, none⟩), Value.pointer (some ⟨p4, 0, none⟩), Value.pointer (some ⟨p6, 0, none⟩), Value.int .i64 (ofK pr s d xs), nV .u32 s, nV .u32 d, Value.slice a xs.length cap, nV .u8 pr.toNat] (by kernel_rfl) (fun f43 => ?_)
          refine W.block ?_
          refine W.seq (fun K44 hK44 => ?_)
          refine W.region ?_
          refine Wl.run 2 (by kernel_rfl) ?_
          refine Wl.nil ?_
          refine hK44 _ _ _ ?_
          refine W.prune' [2, 3, 4, 6, 7, 9, 10, 11, 68, 112] [Value.pointer (some ⟨p2, 0, none⟩), Value.pointer (some ⟨p3, 0, none⟩), Value.pointer (some ⟨p4, 0, none⟩), Value.pointer (some ⟨p6, 0, none⟩), Value.int .i64 (ofK pr s d xs), nV .u32 s, nV .u32 d, Value.slice a xs.length cap, nV .u8 pr.toNat, Value.bool (((pr.toNat : Nat) : Int) == 6)] (by kernel_rfl) (fun f45 => ?_)
          refine W.cond (((pr.toNat : Nat) : Int) == 6) (by kernel_rfl) (fun h46 => ?_) (fun h47 => ?_)
          · have qh46 := h46; try simp only [Bool.and_eq_true, Bool.or_eq_true, Bool.not_eq_true', Bool.not_eq_false', Bool.and_eq_false_iff, Bool.or_eq_false_iff, decide_eq_true_eq, decide_eq_false_iff_not, beq_iff_eq, bne_iff_ne, beq_eq_false_iff_ne, bne_eq_false_iff_eq] at qh46
            refine W.seq (fun K48 hK48 => ?_)
            refine W.region ?_
            refine Wl.run 3 (by kernel_rfl) ?_
            refine Wl.ht rfl (Ht.call (β := FS × FS) (k := 22) (args := #[nV .u32 s, nV .u32 d, Value.slice a xs.length cap]) (Lin := []) (Lk := [[cb p6 [nV .u8 ((ofP pr s d xs).toNat), nV .u32 (ofS pr s d xs), nV .u32 (ofD pr s d xs), nV .u16 (ofF pr s d xs), nV .u16 (ofT pr s d xs)] 30], [cb p4 [Value.int .u8 0, Value.int .u8 0, Value.int .u16 0, Value.int .u32 0, Value.int .u32 0, Value.slice none 0 0] 27], [cb p3 [nV .u8 fp.toNat, nV .u32 fs, nV .u32 fd, nV .u16 ff, nV .u16 ft] 30], [cb p2 [nV .u8 tt.toNat, nV .u8 pr.toNat, nV .u16 id, nV .u32 fs, nV .u32 fd, Value.slice a xs.length cap] 27]]) (Mi := []) (Lo := fun gg49 => [gg49.1.seg 5 (mc b8 (tO s d xs)), gg49.2.seg 5 (mc b8 (tD s d xs)), [cb p6 [nV .u8 ((ofP pr s d xs).toNat), nV .u32 (ofS pr s d xs), nV .u32 (ofD pr s d xs), nV .u16 (ofF pr s d xs), nV .u16 (ofT pr s d xs)] 30], [cb p4 [Value.int .u8 0, Value.int .u8 0, Value.int .u16 0, Value.int .u32 0, Value.int .u32 0, Value.slice none 0 0] 27], [cb p3 [nV .u8 fp.toNat, nV .u32 fs, nV .u32 fd, nV .u16 ff, nV .u16 ft] 30], [cb p2 [nV .u8 tt.toNat, nV .u8 pr.toNat, nV .u16 id, nV .u32 fs, nV .u32 fd, Value.slice a xs.length cap] 27]]) [] [0, 1, 2, 3] rfl (fun _ => by kernel_rfl) (by decide) rfl rfl rfl (fun w_ hm_ hl_ => (rtcpn_c s d xs a cap xs.length _ (by first | rfl | (rw [List.length_take]; omega) | (simp; done) | (simp [be_len, be_len, psh_len]; omega)) (hat.mem0 hm_) (by omega) (by omega) (by first | omega | (simp; omega)) (by first | omega | (simp; omega)))) (fun _ => rfl)) (fun x52 => ?_)
            obtain ⟨gg49, ok50, ok51⟩ := x52
            refine Wl.castL (LL' := [gg49.1.seg 5 (mc b8 (tO s d xs)), gg49.2.seg 5 (mc b8 (tD s d xs)), [cb p6 [nV .u8 ((ofP pr s d xs).toNat), nV .u32 (ofS pr s d xs), nV .u32 (ofD pr s d xs), nV .u16 (ofF pr s d xs), nV .u16 (ofT pr s d xs)] 30], [cb p4 [Value.int .u8 0, Value.int .u8 0, Value.int .u16 0, Value.int .u32 0, Value.int .u32 0, Value.slice none 0 0] 27], [cb p3 [nV .u8 fp.toNat, nV .u32 fs, nV .u32 fd, nV .u16 ff, nV .u16 ft] 30], [cb p2 [nV .u8 tt.toNat, nV .u8 pr.toNat, nV .u16 id, nV .u32 fs, nV .u32 fd, Value.slice a xs.length cap] 27]]) rfl ?_
            refine Wl.run 3 (by kernel_rfl) ?_
            refine Wl.ht rfl (Ht.alloc (z := Value.agg ([Value.int .u16 0, Value.int .u16 0, Value.int .u32 0, Value.int .u32 0, Value.int .u8 0, Value.int .u16 0, Value.int .u16 0, Value.slice none 0 0, Value.slice none 0 0]).toArray) (cs := [Value.int .u16 0, Value.int .u16 0, Value.int .u32 0, Value.int .u32 0, Value.int .u8 0, Value.int .u16 0, Value.int .u16 0, Value.slice none 0 0, Value.slice none 0 0]) rfl rfl Try.zeroValue52 rfl) (fun p12 => ?_)
            refine Wl.ht rfl (Ht.storeN (b := p12) (o' := 0) (i := 0) (j := 0) (cs := [Value.int .u16 0, Value.int .u16 0, Value.int .u32 0, Value.int .u32 0, Value.int .u8 0, Value.int .u16 0, Value.int .u16 0, Value.slice none 0 0, Value.slice none 0 0]) (vs := [nV .u16 (tF s d xs 0), nV .u16 (tF s d xs 2), nV .u32 (tW s d xs 4), nV .u32 (tW s d xs 8), nV .u8 ((tL s d xs).toNat), nV .u16 (tF s d xs 14), nV .u16 (tF s d xs 18), Value.slice gg49.1.a ((tO s d xs).length) gg49.1.cap, Value.slice gg49.2.a ((tD s d xs).length) gg49.2.cap]) (cs' := [nV .u16 (tF s d xs 0), nV .u16 (tF s d xs 2), nV .u32 (tW s d xs 4), nV .u32 (tW s d xs 8), nV .u8 ((tL s d xs).toNat), nV .u16 (tF s d xs 14), nV .u16 (tF s d xs 18), Value.slice gg49.1.a ((tO s d xs).length) gg49.1.cap, Value.slice gg49.2.a ((tD s d xs).length) gg49.2.cap]) (LL' := [[cb p12 [nV .u16 (tF s d xs 0), nV .u16 (tF s d xs 2), nV .u32 (tW s d xs 4), nV .u32 (tW s d xs 8), nV .u8 ((tL s d xs).toNat), nV .u16 (tF s d xs 14), nV .u16 (tF s d xs 18), Value.slice gg49.1.a ((tO s d xs).length) gg49.1.cap, Value.slice gg49.2.a ((tD s d xs).length) gg49.2.cap] 52], gg49.1.seg 5 (mc b8 (tO s d xs)), gg49.2.seg 5 (mc b8 (tD s d xs)), [cb p6 [nV .u8 ((ofP pr s d xs).toNat), nV .u32 (ofS pr s d xs), nV .u32 (ofD pr s d xs), nV .u16 (ofF pr s d xs), nV .u16 (ofT pr s d xs)] 30], [cb p4 [Value.int .u8 0, Value.int .u8 0, Value.int .u16 0, Value.int .u32 0, Value.int .u32 0, Value.slice none 0 0] 27], [cb p3 [nV .u8 fp.toNat, nV .u32 fs, nV .u32 fd, nV .u16 ff, nV .u16 ft] 30], [cb p2 [nV .u8 tt.toNat, nV .u8 pr.toNat, nV .u16 id, nV .u32 fs, nV .u32 fd, Value.slice a xs.length cap] 27]]) rfl rfl (by kernel_rfl) (by kernel_rfl) Try.sizeOf52 (by simp [Value.oneCell']) rfl rfl (by simp) rfl rfl) (fun _ => ?_)
            refine Wl.run 1 (by kernel_rfl) ?_
            refine Wl.nil ?_
            refine hK48 _ _ _ ?_
            refine W.pick (LL' := [[cb p12 [nV .u16 (tF s d xs 0), nV .u16 (tF s d xs 2), nV .u32 (tW s d xs 4), nV .u32 (tW s d xs 8), nV .u8 ((tL s d xs).toNat), nV .u16 (tF s d xs 14), nV .u16 (tF s d xs 18), Value.slice gg49.1.a ((tO s d xs).length) gg49.1.cap, Value.slice gg49.2.a ((tD s d xs).length) gg49.2.cap] 52], gg49.1.seg 5 (mc b8 (tO s d xs)), gg49.2.seg 5 (mc b8 (tD s d xs)), [cb p4 [Value.int .u8 0, Value.int .u8 0, Value.int .u16 0, Value.int .u32 0, Value.int .u32 0, Value.slice none 0 0] 27], [cb p3 [nV .u8 fp.toNat, nV .u32 fs, nV .u32 fd, nV .u16 ff, nV .u16 ft] 30], [cb p2 [nV .u8 tt.toNat, nV .u8 pr.toNat, nV .u16 id, nV .u32 fs, nV .u32 fd, Value.slice a xs.length cap] 27]]) [0, 1, 2, 4, 5, 6] (by decide) rfl ?_
            refine W.prune' [2, 3, 4, 12] [Value.pointer (some ⟨p2, 0, none⟩), Value.pointer (some ⟨p3, 0, none⟩), Value.pointer (some ⟨p4, 0, none⟩), Value.pointer (some ⟨p12, 0, none⟩)] (by kernel_rfl) (fun f53 => ?_)
            refine W.seq (fun K54 hK54 => ?_)
            refine W.draws [(0, true), (1, true), (2, true), (3, true), (4, false), (5, false), (6, false), (7, false)] [0, 1, 2, 3] (Mem w [] [gg49.1.seg 5 (mc b8 (tO s d xs)), gg49.2.seg 5 (mc b8 (tD s d xs)), [cb p4 [Value.int .u8 0, Value.int .u8 0, Value.int .u16 0, Value.int .u32 0, Value.int .u32 0, Value.slice none 0 0] 27], [cb p3 [nV .u8 fp.toNat, nV .u32 fs, nV .u32 fd, nV .u16 ff, nV .u16 ft] 30], [cb p2 [nV .u8 tt.toNat, nV .u8 pr.toNat, nV .u16 id, nV .u32 fs, nV .u32 fd, Value.slice a xs.length cap] 27]]) (by kernel_rfl) (by kernel_rfl) (by kernel_rfl) rfl (by kernel_rfl) (fun _ _ h_ => h_.drawn _) (fun _ h_ => h_.pick [1, 2, 3, 4, 5] (by decide) rfl) ?_
            refine Wd.run 1 (by kernel_rfl) ?_
            refine Wd.ys (v := nV .u16 ff) rfl rfl rfl (Ys.load (b := p3) (o' := 3) (i := 3) (j := 0) (cs := [nV .u8 fp.toNat, nV .u32 fs, nV .u32 fd, nV .u16 ff, nV .u16 ft]) (v := nV .u16 ff) rfl (by kernel_rfl) Try.isAgg22 rfl rfl rfl) ?_
            refine Wd.run 1 (by kernel_rfl) ?_
            refine Wd.ys (v := nV .u16 ft) rfl rfl rfl (Ys.load (b := p3) (o' := 4) (i := 3) (j := 0) (cs := [nV .u8 fp.toNat, nV .u32 fs, nV .u32 fd, nV .u16 ff, nV .u16 ft]) (v := nV .u16 ft) rfl (by kernel_rfl) Try.isAgg22 rfl rfl rfl) ?_
            refine Wd.yc (v := Value.pointer (some ⟨p12, 0, none⟩)) rfl rfl rfl (Ys.yc (Ys.pure (fun _ => by kernel_rfl))) (.inr fun _ h_ => h_.pick [1, 2, 3, 4, 5] (by decide) rfl) ?_
            refine Wd.ht rfl rfl (Ht.store (b := p12) (o' := 0) (i := 0) (j := 0) (cs := [nV .u16 (tF s d xs 0), nV .u16 (tF s d xs 2), nV .u32 (tW s d xs 4), nV .u32 (tW s d xs 8), nV .u8 ((tL s d xs).toNat), nV .u16 (tF s d xs 14), nV .u16 (tF s d xs 18), Value.slice gg49.1.a ((tO s d xs).length) gg49.1.cap, Value.slice gg49.2.a ((tD s d xs).length) gg49.2.cap]) (cs' := [nV .u16 ff, nV .u16 (tF s d xs 2), nV .u32 (tW s d xs 4), nV .u32 (tW s d xs 8), nV .u8 ((tL s d xs).toNat), nV .u16 (tF s d xs 14), nV .u16 (tF s d xs 18), Value.slice gg49.1.a ((tO s d xs).length) gg49.1.cap, Value.slice gg49.2.a ((tD s d xs).length) gg49.2.cap]) (v := nV .u16 ff) (LL' := [[cb p12 [nV .u16 ff, nV .u16 (tF s d xs 2), nV .u32 (tW s d xs 4), nV .u32 (tW s d xs 8), nV .u8 ((tL s d xs).toNat), nV .u16 (tF s d xs 14), nV .u16 (tF s d xs 18), Value.slice gg49.1.a ((tO s d xs).length) gg49.1.cap, Value.slice gg49.2.a ((tD s d xs).length) gg49.2.cap] 52], gg49.1.seg 5 (mc b8 (tO s d xs)), gg49.2.seg 5 (mc b8 (tD s d xs)), [cb p4 [Value.int .u8 0, Value.int .u8 0, Value.int .u16 0, Value.int .u32 0, Value.int .u32 0, Value.slice none 0 0] 27], [cb p3 [nV .u8 fp.toNat, nV .u32 fs, nV .u32 fd, nV .u16 ff, nV .u16 ft] 30], [cb p2 [nV .u8 tt.toNat, nV .u8 pr.toNat, nV .u16 id, nV .u32 fs, nV .u32 fd, Value.slice a xs.length cap] 27]]) rfl rfl (by kernel_rfl) (by kernel_rfl) Try.sizeOf22 rfl rfl rfl (by simp) rfl rfl) (.inr fun _ _ h_ => h_.pick [1, 2, 3, 4, 5] (by decide) rfl) (fun _ => ?_)
            refine Wd.yc (v := Value.pointer (some ⟨p12, 1, none⟩)) rfl rfl rfl (Ys.yc (Ys.pure (fun _ => by kernel_rfl))) (.inl (by kernel_rfl)) ?_
            refine Wd.ht rfl rfl (Ht.store (b := p12) (o' := 1) (i := 0) (j := 0) (cs := [nV .u16 ff, nV .u16 (tF s d xs 2), nV .u32 (tW s d xs 4), nV .u32 (tW s d xs 8), nV .u8 ((tL s d xs).toNat), nV .u16 (tF s d xs 14), nV .u16 (tF s d xs 18), Value.slice gg49.1.a ((tO s d xs).length) gg49.1.cap, Value.slice gg49.2.a ((tD s d xs).length) gg49.2.cap]) (cs' := [nV .u16 ff, nV .u16 ft, nV .u32 (tW s d xs 4), nV .u32 (tW s d xs 8), nV .u8 ((tL s d xs).toNat), nV .u16 (tF s d xs 14), nV .u16 (tF s d xs 18), Value.slice gg49.1.a ((tO s d xs).length) gg49.1.cap, Value.slice gg49.2.a ((tD s d xs).length) gg49.2.cap]) (v := nV .u16 ft) (LL' := [[cb p12 [nV .u16 ff, nV .u16 ft, nV .u32 (tW s d xs 4), nV .u32 (tW s d xs 8), nV .u8 ((tL s d xs).toNat), nV .u16 (tF s d xs 14), nV .u16 (tF s d xs 18), Value.slice gg49.1.a ((tO s d xs).length) gg49.1.cap, Value.slice gg49.2.a ((tD s d xs).length) gg49.2.cap] 52], gg49.1.seg 5 (mc b8 (tO s d xs)), gg49.2.seg 5 (mc b8 (tD s d xs)), [cb p4 [Value.int .u8 0, Value.int .u8 0, Value.int .u16 0, Value.int .u32 0, Value.int .u32 0, Value.slice none 0 0] 27], [cb p3 [nV .u8 fp.toNat, nV .u32 fs, nV .u32 fd, nV .u16 ff, nV .u16 ft] 30], [cb p2 [nV .u8 tt.toNat, nV .u8 pr.toNat, nV .u16 id, nV .u32 fs, nV .u32 fd, Value.slice a xs.length cap] 27]]) rfl rfl (by kernel_rfl) (by kernel_rfl) Try.sizeOf22 rfl rfl rfl (by simp) rfl rfl) (.inl (by kernel_rfl)) (fun _ => ?_)
            refine Wd.nil ?_
            refine hK54 _ _ _ ?_
            refine W.pick (LL' := [[cb p12 [nV .u16 ff, nV .u16 ft, nV .u32 (tW s d xs 4), nV .u32 (tW s d xs 8), nV .u8 ((tL s d xs).toNat), nV .u16 (tF s d xs 14), nV .u16 (tF s d xs 18), Value.slice gg49.1.a ((tO s d xs).length) gg49.1.cap, Value.slice gg49.2.a ((tD s d xs).length) gg49.2.cap] 52], gg49.1.seg 5 (mc b8 (tO s d xs)), gg49.2.seg 5 (mc b8 (tD s d xs)), [cb p4 [Value.int .u8 0, Value.int .u8 0, Value.int .u16 0, Value.int .u32 0, Value.int .u32 0, Value.slice none 0 0] 27], [cb p2 [nV .u8 tt.toNat, nV .u8 pr.toNat, nV .u16 id, nV .u32 fs, nV .u32 fd, Value.slice a xs.length cap] 27]]) [0, 1, 2, 3, 5] (by decide) rfl ?_
            refine W.prune' [2, 4, 12] [Value.pointer (some ⟨p2, 0, none⟩), Value.pointer (some ⟨p4, 0, none⟩), Value.pointer (some ⟨p12, 0, none⟩)] (by kernel_rfl) (fun f55 => ?_)
            refine W.region ?_
            refine Wl.run 1 (by kernel_rfl) ?_
            refine Wl.ys (v := nV .u32 fs) rfl rfl (Ys.load (b := p2) (o' := 3) (i := 4) (j := 0) (cs := [nV .u8 tt.toNat, nV .u8 pr.toNat, nV .u16 id, nV .u32 fs, nV .u32 fd, Value.slice a xs.length cap]) (v := nV .u32 fs) rfl (by kernel_rfl) Try.isAgg24 rfl rfl rfl) ?_
            refine Wl.run 1 (by kernel_rfl) ?_
            refine Wl.ys (v := nV .u32 fd) rfl rfl (Ys.load (b := p2) (o' := 4) (i := 4) (j := 0) (cs := [nV .u8 tt.toNat, nV .u8 pr.toNat, nV .u16 id, nV .u32 fs, nV .u32 fd, Value.slice a xs.length cap]) (v := nV .u32 fd) rfl (by kernel_rfl) Try.isAgg24 rfl rfl rfl) ?_
            refine Wl.ys (v := Value.agg ([nV .u16 ff, nV .u16 ft, nV .u32 (tW s d xs 4), nV .u32 (tW s d xs 8), nV .u8 ((tL s d xs).toNat), nV .u16 (tF s d xs 14), nV .u16 (tF s d xs 18), Value.slice gg49.1.a ((tO s d xs).length) gg49.1.cap, Value.slice gg49.2.a ((tD s d xs).length) gg49.2.cap]).toArray) rfl rfl (Ys.loadN (b := p12) (o' := 0) (i := 0) (j := 0) (cs := [nV .u16 ff, nV .u16 ft, nV .u32 (tW s d xs 4), nV .u32 (tW s d xs 8), nV .u8 ((tL s d xs).toNat), nV .u16 (tF s d xs 14), nV .u16 (tF s d xs 18), Value.slice gg49.1.a ((tO s d xs).length) gg49.1.cap, Value.slice gg49.2.a ((tD s d xs).length) gg49.2.cap]) (vs := [nV .u16 ff, nV .u16 ft, nV .u32 (tW s d xs 4), nV .u32 (tW s d xs 8), nV .u8 ((tL s d xs).toNat), nV .u16 (tF s d xs 14), nV .u16 (tF s d xs 18), Value.slice gg49.1.a ((tO s d xs).length) gg49.1.cap, Value.slice gg49.2.a ((tD s d xs).length) gg49.2.cap]) rfl (by kernel_rfl) Try.isAgg52 Try.sizeOf52 rfl rfl rfl rfl) ?_
            have hl59 := tB_le fs fd ff ft (tW s d xs 4) (tW s d xs 8) (tL s d xs) (tF s d xs 14) (tF s d xs 18) (tO s d xs) (tD s d xs)
            refine Wl.ht rfl (Ht.call (β := FS) (k := 34) (args := #[nV .u32 fs, nV .u32 fd, Value.agg ([nV .u16 ff, nV .u16 ft, nV .u32 (tW s d xs 4), nV .u32 (tW s d xs 8), nV .u8 ((tL s d xs).toNat), nV .u16 (tF s d xs 14), nV .u16 (tF s d xs 18), Value.slice gg49.1.a ((tO s d xs).length) gg49.1.cap, Value.slice gg49.2.a ((tD s d xs).length) gg49.2.cap]).toArray]) (Lin := []) (Lk := [[cb p12 [nV .u16 ff, nV .u16 ft, nV .u32 (tW s d xs 4), nV .u32 (tW s d xs 8), nV .u8 ((tL s d xs).toNat), nV .u16 (tF s d xs 14), nV .u16 (tF s d xs 18), Value.slice gg49.1.a ((tO s d xs).length) gg49.1.cap, Value.slice gg49.2.a ((tD s d xs).length) gg49.2.cap] 52], gg49.1.seg 5 (mc b8 (tO s d xs)), gg49.2.seg 5 (mc b8 (tD s d xs)), [cb p4 [Value.int .u8 0, Value.int .u8 0, Value.int .u16 0, Value.int .u32 0, Value.int .u32 0, Value.slice none 0 0] 27], [cb p2 [nV .u8 tt.toNat, nV .u8 pr.toNat, nV .u16 id, nV .u32 fs, nV .u32 fd, Value.slice a xs.length cap] 27]]) (Mi := []) (Lo := fun g56 => [g56.seg 5 (mc b8 (tB fs fd ff ft (tW s d xs 4) (tW s d xs 8) (tL s d xs) (tF s d xs 14) (tF s d xs 18) (tO s d xs) (tD s d xs))), [cb p12 [nV .u16 ff, nV .u16 ft, nV .u32 (tW s d xs 4), nV .u32 (tW s d xs 8), nV .u8 ((tL s d xs).toNat), nV .u16 (tF s d xs 14), nV .u16 (tF s d xs 18), Value.slice gg49.1.a ((tO s d xs).length) gg49.1.cap, Value.slice gg49.2.a ((tD s d xs).length) gg49.2.cap] 52], gg49.1.seg 5 (mc b8 (tO s d xs)), gg49.2.seg 5 (mc b8 (tD s d xs)), [cb p4 [Value.int .u8 0, Value.int .u8 0, Value.int .u16 0, Value.int .u32 0, Value.int .u32 0, Value.slice none 0 0] 27], [cb p2 [nV .u8 tt.toNat, nV .u8 pr.toNat, nV .u16 id, nV .u32 fs, nV .u32 fd, Value.slice a xs.length cap] 27]]) [] [0, 1, 2, 3, 4] rfl (fun _ => by kernel_rfl) (by decide) rfl rfl rfl (fun w_ hm_ hl_ => (wtcpn_c fs fd ff ft (tW s d xs 4) (tW s d xs 8) (tL s d xs) (tF s d xs 14) (tF s d xs 18) (tO s d xs) (tD s d xs) gg49.1.a gg49.2.a gg49.1.cap gg49.2.cap ((tO s d xs).length) ((tD s d xs).length) _ (by first | rfl | (rw [List.length_take]; omega) | (simp; done) | (simp [be_len, be_len, psh_len]; omega)) (by first | rfl | (rw [List.length_take]; omega) | (simp; done) | (simp [be_len, be_len, psh_len]; omega)) (FS.at (i := 1) (t := 5) hm_ rfl (FS.nil_cs ok50 (mc_len1 _))) (FS.at (i := 2) (t := 5) hm_ rfl (FS.nil_cs ok51 (mc_len1 _))) (by omega) (by omega) (by omega) (by omega) (by omega) (by omega) (by omega) (by omega) (by first | omega | (simp; done) | (simp; omega)) (by first | omega | (simp; done) | (simp; omega)) (by have z_ := ok50.le; first | exact z_ | omega | (simp at z_ ⊢; omega)) (by have z_ := ok51.le; first | exact z_ | omega | (simp at z_ ⊢; omega)))) (fun _ => rfl)) (fun x58 => ?_)
            obtain ⟨g56, ok57⟩ := x58
            refine Wl.castL (LL' := [g56.seg 5 (mc b8 (tB fs fd ff ft (tW s d xs 4) (tW s d xs 8) (tL s d xs) (tF s d xs 14) (tF s d xs 18) (tO s d xs) (tD s d xs))), [cb p12 [nV .u16 ff, nV .u16 ft, nV .u32 (tW s d xs 4), nV .u32 (tW s d xs 8), nV .u8 ((tL s d xs).toNat), nV .u16 (tF s d xs 14), nV .u16 (tF s d xs 18), Value.slice gg49.1.a ((tO s d xs).length) gg49.1.cap, Value.slice gg49.2.a ((tD s d xs).length) gg49.2.cap] 52], gg49.1.seg 5 (mc b8 (tO s d xs)), gg49.2.seg 5 (mc b8 (tD s d xs)), [cb p4 [Value.int .u8 0, Value.int .u8 0, Value.int .u16 0, Value.int .u32 0, Value.int .u32 0, Value.slice none 0 0] 27], [cb p2 [nV .u8 tt.toNat, nV .u8 pr.toNat, nV .u16 id, nV .u32 fs, nV .u32 fd, Value.slice a xs.length cap] 27]]) rfl ?_
            refine Wl.run 4 (by kernel_rfl) ?_
            refine Wl.ht rfl (Ht.store (b := p2) (o' := 5) (i := 5) (j := 0) (cs := [nV .u8 tt.toNat, nV .u8 pr.toNat, nV .u16 id, nV .u32 fs, nV .u32 fd, Value.slice a xs.length cap]) (cs' := [nV .u8 tt.toNat, nV .u8 pr.toNat, nV .u16 id, nV .u32 fs, nV .u32 fd, Value.slice g56.a ((tB fs fd ff ft (tW s d xs 4) (tW s d xs 8) (tL s d xs) (tF s d xs 14) (tF s d xs 18) (tO s d xs) (tD s d xs)).length) g56.cap]) (v := Value.slice g56.a ((tB fs fd ff ft (tW s d xs 4) (tW s d xs 8) (tL s d xs) (tF s d xs 14) (tF s d xs 18) (tO s d xs) (tD s d xs)).length) g56.cap) (LL' := [g56.seg 5 (mc b8 (tB fs fd ff ft (tW s d xs 4) (tW s d xs 8) (tL s d xs) (tF s d xs 14) (tF s d xs 18) (tO s d xs) (tD s d xs))), [cb p12 [nV .u16 ff, nV .u16 ft, nV .u32 (tW s d xs 4), nV .u32 (tW s d xs 8), nV .u8 ((tL s d xs).toNat), nV .u16 (tF s d xs 14), nV .u16 (tF s d xs 18), Value.slice gg49.1.a ((tO s d xs).length) gg49.1.cap, Value.slice gg49.2.a ((tD s d xs).length) gg49.2.cap] 52], gg49.1.seg 5 (mc b8 (tO s d xs)), gg49.2.seg 5 (mc b8 (tD s d xs)), [cb p4 [Value.int .u8 0, Value.int .u8 0, Value.int .u16 0, Value.int .u32 0, Value.int .u32 0, Value.slice none 0 0] 27], [cb p2 [nV .u8 tt.toNat, nV .u8 pr.toNat, nV .u16 id, nV .u32 fs, nV .u32 fd, Value.slice g56.a ((tB fs fd ff ft (tW s d xs 4) (tW s d xs 8) (tL s d xs) (tF s d xs 14) (tF s d xs 18) (tO s d xs) (tD s d xs)).length) g56.cap] 27]]) rfl rfl (by kernel_rfl) (by kernel_rfl) Try.sizeOf25 rfl rfl rfl (by simp) rfl rfl) (fun _ => ?_)
            refine Wl.run 1 (by kernel_rfl) ?_
            refine Wl.nil ?_
            refine hK41 _ _ _ ?_
            refine W.pick (LL' := [g56.seg 5 (mc b8 (tB fs fd ff ft (tW s d xs 4) (tW s d xs 8) (tL s d xs) (tF s d xs 14) (tF s d xs 18) (tO s d xs) (tD s d xs))), [cb p4 [Value.int .u8 0, Value.int .u8 0, Value.int .u16 0, Value.int .u32 0, Value.int .u32 0, Value.slice none 0 0] 27], [cb p2 [nV .u8 tt.toNat, nV .u8 pr.toNat, nV .u16 id, nV .u32 fs, nV .u32 fd, Value.slice g56.a ((tB fs fd ff ft (tW s d xs 4) (tW s d xs 8) (tL s d xs) (tF s d xs 14) (tF s d xs 18) (tO s d xs) (tD s d xs)).length) g56.cap] 27]]) [0, 4, 5] (by decide) rfl ?_
            refine W.prune' [2, 4, 8] [Value.pointer (some ⟨p2, 0, none⟩), Value.pointer (some ⟨p4, 0, none⟩), Value.int .i64 (tE (tO s d xs).length (tD s d xs).length)] (by kernel_rfl) (fun f60 => ?_)
            refine W.seq (fun K61 hK61 => ?_)
            refine W.seq (fun K62 hK62 => ?_)
            refine W.region ?_
            refine Wl.run 2 (by kernel_rfl) ?_
            refine Wl.nil ?_
            refine hK62 _ _ _ ?_
            refine W.prune' [2, 4, 8, 163] [Value.pointer (some ⟨p2, 0, none⟩), Value.pointer (some ⟨p4, 0, none⟩), Value.int .i64 (tE (tO s d xs).length (tD s d xs).length), Value.bool ((tE (tO s d xs).length (tD s d xs).length) != 0)] (by kernel_rfl) (fun f63 => ?_)
            refine W.cond ((tE (tO s d xs).length (tD s d xs).length) != 0) (by kernel_rfl) (fun h64 => ?_) (fun h65 => ?_)
            · have qh64 := h64; try simp only [Bool.and_eq_true, Bool.or_eq_true, Bool.not_eq_true', Bool.not_eq_false', Bool.and_eq_false_iff, Bool.or_eq_false_iff, decide_eq_true_eq, decide_eq_false_iff_not, beq_iff_eq, bne_iff_ne, beq_eq_false_iff_ne, bne_eq_false_iff_eq] at qh64
              (exfalso; rw [tE_read] at h64; cases h64)
            · have qh65 := h65; try simp only [Bool.and_eq_true, Bool.or_eq_true, Bool.not_eq_true', Bool.not_eq_false', Bool.and_eq_false_iff, Bool.or_eq_false_iff, decide_eq_true_eq, decide_eq_false_iff_not, beq_iff_eq, bne_iff_ne, beq_eq_false_iff_ne, bne_eq_false_iff_eq] at qh65
              refine W.skip' ?_
              refine hK61 _ _ _ ?_
              refine W.prune' [2, 4] [Value.pointer (some ⟨p2, 0, none⟩), Value.pointer (some ⟨p4, 0, none⟩)] (by kernel_rfl) (fun f66 => ?_)
              refine W.seq (fun K67 hK67 => ?_)
              refine W.region ?_
              refine Wl.ys (v := Value.agg ([nV .u8 tt.toNat, nV .u8 pr.toNat, nV .u16 id, nV .u32 fs, nV .u32 fd, Value.slice g56.a ((tB fs fd ff ft (tW s d xs 4) (tW s d xs 8) (tL s d xs) (tF s d xs 14) (tF s d xs 18) (tO s d xs) (tD s d xs)).length) g56.cap]).toArray) rfl rfl (Ys.loadN (b := p2) (o' := 0) (i := 2) (j := 0) (cs := [nV .u8 tt.toNat, nV .u8 pr.toNat, nV .u16 id, nV .u32 fs, nV .u32 fd, Value.slice g56.a ((tB fs fd ff ft (tW s d xs 4) (tW s d xs 8) (tL s d xs) (tF s d xs 14) (tF s d xs 18) (tO s d xs) (tD s d xs)).length) g56.cap]) (vs := [nV .u8 tt.toNat, nV .u8 pr.toNat, nV .u16 id, nV .u32 fs, nV .u32 fd, Value.slice g56.a ((tB fs fd ff ft (tW s d xs 4) (tW s d xs 8) (tL s d xs) (tF s d xs 14) (tF s d xs 18) (tO s d xs) (tD s d xs)).length) g56.cap]) rfl (by kernel_rfl) Try.isAgg27 Try.sizeOf27 rfl rfl rfl rfl) ?_
              refine Wl.ht rfl (Ht.storeN (b := p4) (o' := 0) (i := 1) (j := 0) (cs := [Value.int .u8 0, Value.int .u8 0, Value.int .u16 0, Value.int .u32 0, Value.int .u32 0, Value.slice none 0 0]) (vs := [nV .u8 tt.toNat, nV .u8 pr.toNat, nV .u16 id, nV .u32 fs, nV .u32 fd, Value.slice g56.a ((tB fs fd ff ft (tW s d xs 4) (tW s d xs 8) (tL s d xs) (tF s d xs 14) (tF s d xs 18) (tO s d xs) (tD s d xs)).length) g56.cap]) (cs' := [nV .u8 tt.toNat, nV .u8 pr.toNat, nV .u16 id, nV .u32 fs, nV .u32 fd, Value.slice g56.a ((tB fs fd ff ft (tW s d xs 4) (tW s d xs 8) (tL s d xs) (tF s d xs 14) (tF s d xs 18) (tO s d xs) (tD s d xs)).length) g56.cap]) (LL' := [g56.seg 5 (mc b8 (tB fs fd ff ft (tW s d xs 4) (tW s d xs 8) (tL s d xs) (tF s d xs 14) (tF s d xs 18) (tO s d xs) (tD s d xs))), [cb p4 [nV .u8 tt.toNat, nV .u8 pr.toNat, nV .u16 id, nV .u32 fs, nV .u32 fd, Value.slice g56.a ((tB fs fd ff ft (tW s d xs 4) (tW s d xs 8) (tL s d xs) (tF s d xs 14) (tF s d xs 18) (tO s d xs) (tD s d xs)).length) g56.cap] 27], [cb p2 [nV .u8 tt.toNat, nV .u8 pr.toNat, nV .u16 id, nV .u32 fs, nV .u32 fd, Value.slice g56.a ((tB fs fd ff ft (tW s d xs 4) (tW s d xs 8) (tL s d xs) (tF s d xs 14) (tF s d xs 18) (tO s d xs) (tD s d xs)).length) g56.cap] 27]]) rfl rfl (by kernel_rfl) (by kernel_rfl) Try.sizeOf27 (by simp [Value.oneCell']) rfl rfl (by simp) rfl rfl) (fun _ => ?_)
              refine Wl.run 1 (by kernel_rfl) ?_
              refine Wl.nil ?_
              refine hK67 _ _ _ ?_
              refine W.pick (LL' := [g56.seg 5 (mc b8 (tB fs fd ff ft (tW s d xs 4) (tW s d xs 8) (tL s d xs) (tF s d xs 14) (tF s d xs 18) (tO s d xs) (tD s d xs))), [cb p4 [nV .u8 tt.toNat, nV .u8 pr.toNat, nV .u16 id, nV .u32 fs, nV .u32 fd, Value.slice g56.a ((tB fs fd ff ft (tW s d xs 4) (tW s d xs 8) (tL s d xs) (tF s d xs 14) (tF s d xs 18) (tO s d xs) (tD s d xs)).length) g56.cap] 27]]) [0, 1] (by decide) rfl ?_
              refine W.prune' [4, 5] [Value.pointer (some ⟨p4, 0, none⟩), Value.int .i64 0] (by kernel_rfl) (fun f68 => ?_)
              refine W.ret ?_
              have hG : rwG pr s d xs fp = true := by unfold rwG; rw [h9, h15]; rfl
              have hX : rwX pr s d xs fp = 0 := by unfold rwX; rw [h9, h15]; rfl
              have hB : rwB pr s d xs fp fs fd ff ft = tB fs fd ff ft (tW s d xs 4) (tW s d xs 8) (tL s d xs) (tF s d xs 14) (tF s d xs 18) (tO s d xs) (tD s d xs) := by unfold rwB; rw [hG, show isT pr = true from h46]; rfl
              show ∀ w_, _ → bodyPostM (fence none) 0 Try.prog Try.f18 _ Exit.ret _ w_
              exact fun w_ hS_ => fin_ret (ret2 rfl (RV.cellN (b := p4) (o' := 0) (i := 1) (j := 0) (cs := [nV .u8 tt.toNat, nV .u8 pr.toNat, nV .u16 id, nV .u32 fs, nV .u32 fd, Value.slice g56.a ((tB fs fd ff ft (tW s d xs 4) (tW s d xs 8) (tL s d xs) (tF s d xs 14) (tF s d xs 18) (tO s d xs) (tD s d xs)).length) g56.cap]) (vs := [nV .u8 tt.toNat, nV .u8 pr.toNat, nV .u16 id, nV .u32 fs, nV .u32 fd, Value.slice g56.a ((tB fs fd ff ft (tW s d xs 4) (tW s d xs 8) (tL s d xs) (tF s d xs 14) (tF s d xs 18) (tO s d xs) (tD s d xs)).length) g56.cap]) (by kernel_rfl) Try.isAgg27 Try.sizeOf27 rfl rfl rfl rfl) (RV.tmp (v := Value.int .i64 0) (by kernel_rfl)) hS_ ⟨g56, (by rw [hB]; exact ok57), congrArg Ending.returned ((by rw [hB, hG, hX]; rfl)), (Mem.cast (by rw [hB]; rfl) (hS_.pick [0] (by decide) rfl))⟩)
          · have qh47 := h47; try simp only [Bool.and_eq_true, Bool.or_eq_true, Bool.not_eq_true', Bool.not_eq_false', Bool.and_eq_false_iff, Bool.or_eq_false_iff, decide_eq_true_eq, decide_eq_false_iff_not, beq_iff_eq, bne_iff_ne, beq_eq_false_iff_ne, bne_eq_false_iff_eq] at qh47
            refine W.seq (fun K69 hK69 => ?_)
            refine W.region ?_
            refine Wl.run 2 (by kernel_rfl) ?_
            refine Wl.nil ?_
            refine hK69 _ _ _ ?_
            refine W.prune' [2, 3, 4, 6, 7, 9, 10, 11, 137] [Value.pointer (some ⟨p2, 0, none⟩), Value.pointer (some ⟨p3, 0, none⟩), Value.pointer (some ⟨p4, 0, none⟩), Value.pointer (some ⟨p6, 0, none⟩), Value.int .i64 (ofK pr s d xs), nV .u32 s, nV .u32 d, Value.slice a xs.length cap, Value.bool (((pr.toNat : Nat) : Int) == 17)] (by kernel_rfl) (fun f70 => ?_)
            refine W.cond (((pr.toNat : Nat) : Int) == 17) (by kernel_rfl) (fun h71 => ?_) (fun h72 => ?_)
            · have qh71 := h71; try simp only [Bool.and_eq_true, Bool.or_eq_true, Bool.not_eq_true', Bool.not_eq_false', Bool.and_eq_false_iff, Bool.or_eq_false_iff, decide_eq_true_eq, decide_eq_false_iff_not, beq_iff_eq, bne_iff_ne, beq_eq_false_iff_ne, bne_eq_false_iff_eq] at qh71
              refine W.seq (fun K73 hK73 => ?_)
              refine W.region ?_
              refine Wl.run 3 (by kernel_rfl) ?_
              refine Wl.ht rfl (Ht.call (β := FS) (k := 23) (args := #[nV .u32 s, nV .u32 d, Value.slice a xs.length cap]) (Lin := []) (Lk := [[cb p6 [nV .u8 ((ofP pr s d xs).toNat), nV .u32 (ofS pr s d xs), nV .u32 (ofD pr s d xs), nV .u16 (ofF pr s d xs), nV .u16 (ofT pr s d xs)] 30], [cb p4 [Value.int .u8 0, Value.int .u8 0, Value.int .u16 0, Value.int .u32 0, Value.int .u32 0, Value.slice none 0 0] 27], [cb p3 [nV .u8 fp.toNat, nV .u32 fs, nV .u32 fd, nV .u16 ff, nV .u16 ft] 30], [cb p2 [nV .u8 tt.toNat, nV .u8 pr.toNat, nV .u16 id, nV .u32 fs, nV .u32 fd, Value.slice a xs.length cap] 27]]) (Mi := []) (Lo := fun g74 => [g74.seg 5 (mc b8 (uD s d xs)), [cb p6 [nV .u8 ((ofP pr s d xs).toNat), nV .u32 (ofS pr s d xs), nV .u32 (ofD pr s d xs), nV .u16 (ofF pr s d xs), nV .u16 (ofT pr s d xs)] 30], [cb p4 [Value.int .u8 0, Value.int .u8 0, Value.int .u16 0, Value.int .u32 0, Value.int .u32 0, Value.slice none 0 0] 27], [cb p3 [nV .u8 fp.toNat, nV .u32 fs, nV .u32 fd, nV .u16 ff, nV .u16 ft] 30], [cb p2 [nV .u8 tt.toNat, nV .u8 pr.toNat, nV .u16 id, nV .u32 fs, nV .u32 fd, Value.slice a xs.length cap] 27]]) [] [0, 1, 2, 3] rfl (fun _ => by kernel_rfl) (by decide) rfl rfl rfl (fun w_ hm_ hl_ => (rudpn_c s d xs a cap xs.length _ (by first | rfl | (rw [List.length_take]; omega) | (simp; done) | (simp [be_len, be_len, psh_len]; omega)) (hat.mem0 hm_) (by omega) (by omega) (by first | omega | (simp; omega)) (by first | omega | (simp; omega)))) (fun _ => rfl)) (fun x76 => ?_)
              obtain ⟨g74, ok75⟩ := x76
              refine Wl.castL (LL' := [g74.seg 5 (mc b8 (uD s d xs)), [cb p6 [nV .u8 ((ofP pr s d xs).toNat), nV .u32 (ofS pr s d xs), nV .u32 (ofD pr s d xs), nV .u16 (ofF pr s d xs), nV .u16 (ofT pr s d xs)] 30], [cb p4 [Value.int .u8 0, Value.int .u8 0, Value.int .u16 0, Value.int .u32 0, Value.int .u32 0, Value.slice none 0 0] 27], [cb p3 [nV .u8 fp.toNat, nV .u32 fs, nV .u32 fd, nV .u16 ff, nV .u16 ft] 30], [cb p2 [nV .u8 tt.toNat, nV .u8 pr.toNat, nV .u16 id, nV .u32 fs, nV .u32 fd, Value.slice a xs.length cap] 27]]) rfl ?_
              refine Wl.run 3 (by kernel_rfl) ?_
              refine Wl.ht rfl (Ht.alloc (z := Value.agg ([Value.int .u16 0, Value.int .u16 0, Value.bool false, Value.slice none 0 0]).toArray) (cs := [Value.int .u16 0, Value.int .u16 0, Value.bool false, Value.slice none 0 0]) rfl rfl Try.zeroValue56 rfl) (fun p14 => ?_)
              refine Wl.ht rfl (Ht.storeN (b := p14) (o' := 0) (i := 0) (j := 0) (cs := [Value.int .u16 0, Value.int .u16 0, Value.bool false, Value.slice none 0 0]) (vs := [nV .u16 (uF s d xs 0), nV .u16 (uF s d xs 2), Value.bool (uP s d xs), Value.slice g74.a ((uD s d xs).length) g74.cap]) (cs' := [nV .u16 (uF s d xs 0), nV .u16 (uF s d xs 2), Value.bool (uP s d xs), Value.slice g74.a ((uD s d xs).length) g74.cap]) (LL' := [[cb p14 [nV .u16 (uF s d xs 0), nV .u16 (uF s d xs 2), Value.bool (uP s d xs), Value.slice g74.a ((uD s d xs).length) g74.cap] 56], g74.seg 5 (mc b8 (uD s d xs)), [cb p6 [nV .u8 ((ofP pr s d xs).toNat), nV .u32 (ofS pr s d xs), nV .u32 (ofD pr s d xs), nV .u16 (ofF pr s d xs), nV .u16 (ofT pr s d xs)] 30], [cb p4 [Value.int .u8 0, Value.int .u8 0, Value.int .u16 0, Value.int .u32 0, Value.int .u32 0, Value.slice none 0 0] 27], [cb p3 [nV .u8 fp.toNat, nV .u32 fs, nV .u32 fd, nV .u16 ff, nV .u16 ft] 30], [cb p2 [nV .u8 tt.toNat, nV .u8 pr.toNat, nV .u16 id, nV .u32 fs, nV .u32 fd, Value.slice a xs.length cap] 27]]) rfl rfl (by kernel_rfl) (by kernel_rfl) Try.sizeOf56 (by simp [Value.oneCell']) rfl rfl (by simp) rfl rfl) (fun _ => ?_)
              refine Wl.run 1 (by kernel_rfl) ?_
              refine Wl.nil ?_
              refine hK73 _ _ _ ?_
              refine W.pick (LL' := [[cb p14 [nV .u16 (uF s d xs 0), nV .u16 (uF s d xs 2), Value.bool (uP s d xs), Value.slice g74.a ((uD s d xs).length) g74.cap] 56], g74.seg 5 (mc b8 (uD s d xs)), [cb p4 [Value.int .u8 0, Value.int .u8 0, Value.int .u16 0, Value.int .u32 0, Value.int .u32 0, Value.slice none 0 0] 27], [cb p3 [nV .u8 fp.toNat, nV .u32 fs, nV .u32 fd, nV .u16 ff, nV .u16 ft] 30], [cb p2 [nV .u8 tt.toNat, nV .u8 pr.toNat, nV .u16 id, nV .u32 fs, nV .u32 fd, Value.slice a xs.length cap] 27]]) [0, 1, 3, 4, 5] (by decide) rfl ?_
              refine W.prune' [2, 3, 4, 14] [Value.pointer (some ⟨p2, 0, none⟩), Value.pointer (some ⟨p3, 0, none⟩), Value.pointer (some ⟨p4, 0, none⟩), Value.pointer (some ⟨p14, 0, none⟩)] (by kernel_rfl) (fun f77 => ?_)
              refine W.seq (fun K78 hK78 => ?_)
              refine W.draws [(0, true), (1, true), (2, true), (3, true), (4, false), (5, false), (6, false), (7, false)] [0, 1, 2, 3] (Mem w [] [g74.seg 5 (mc b8 (uD s d xs)), [cb p4 [Value.int .u8 0, Value.int .u8 0, Value.int .u16 0, Value.int .u32 0, Value.int .u32 0, Value.slice none 0 0] 27], [cb p3 [nV .u8 fp.toNat, nV .u32 fs, nV .u32 fd, nV .u16 ff, nV .u16 ft] 30], [cb p2 [nV .u8 tt.toNat, nV .u8 pr.toNat, nV .u16 id, nV .u32 fs, nV .u32 fd, Value.slice a xs.length cap] 27]]) (by kernel_rfl) (by kernel_rfl) (by kernel_rfl) rfl (by kernel_rfl) (fun _ _ h_ => h_.drawn _) (fun _ h_ => h_.pick [1, 2, 3, 4] (by decide) rfl) ?_
              refine Wd.run 1 (by kernel_rfl) ?_
              refine Wd.ys (v := nV .u16 ff) rfl rfl rfl (Ys.load (b := p3) (o' := 3) (i := 2) (j := 0) (cs := [nV .u8 fp.toNat, nV .u32 fs, nV .u32 fd, nV .u16 ff, nV .u16 ft]) (v := nV .u16 ff) rfl (by kernel_rfl) Try.isAgg22 rfl rfl rfl) ?_
              refine Wd.run 1 (by kernel_rfl) ?_
              refine Wd.ys (v := nV .u16 ft) rfl rfl rfl (Ys.load (b := p3) (o' := 4) (i := 2) (j := 0) (cs := [nV .u8 fp.toNat, nV .u32 fs, nV .u32 fd, nV .u16 ff, nV .u16 ft]) (v := nV .u16 ft) rfl (by kernel_rfl) Try.isAgg22 rfl rfl rfl) ?_
              refine Wd.yc (v := Value.pointer (some ⟨p14, 0, none⟩)) rfl rfl rfl (Ys.yc (Ys.pure (fun _ => by kernel_rfl))) (.inr fun _ h_ => h_.pick [1, 2, 3, 4] (by decide) rfl) ?_
              refine Wd.ht rfl rfl (Ht.store (b := p14) (o' := 0) (i := 0) (j := 0) (cs := [nV .u16 (uF s d xs 0), nV .u16 (uF s d xs 2), Value.bool (uP s d xs), Value.slice g74.a ((uD s d xs).length) g74.cap]) (cs' := [nV .u16 ff, nV .u16 (uF s d xs 2), Value.bool (uP s d xs), Value.slice g74.a ((uD s d xs).length) g74.cap]) (v := nV .u16 ff) (LL' := [[cb p14 [nV .u16 ff, nV .u16 (uF s d xs 2), Value.bool (uP s d xs), Value.slice g74.a ((uD s d xs).length) g74.cap] 56], g74.seg 5 (mc b8 (uD s d xs)), [cb p4 [Value.int .u8 0, Value.int .u8 0, Value.int .u16 0, Value.int .u32 0, Value.int .u32 0, Value.slice none 0 0] 27], [cb p3 [nV .u8 fp.toNat, nV .u32 fs, nV .u32 fd, nV .u16 ff, nV .u16 ft] 30], [cb p2 [nV .u8 tt.toNat, nV .u8 pr.toNat, nV .u16 id, nV .u32 fs, nV .u32 fd, Value.slice a xs.length cap] 27]]) rfl rfl (by kernel_rfl) (by kernel_rfl) Try.sizeOf22 rfl rfl rfl (by simp) rfl rfl) (.inr fun _ _ h_ => h_.pick [1, 2, 3, 4] (by decide) rfl) (fun _ => ?_)
              refine Wd.yc (v := Value.pointer (some ⟨p14, 1, none⟩)) rfl rfl rfl (Ys.yc (Ys.pure (fun _ => by kernel_rfl))) (.inl (by kernel_rfl)) ?_
              refine Wd.ht rfl rfl (Ht.store (b := p14) (o' := 1) (i := 0) (j := 0) (cs := [nV .u16 ff, nV .u16 (uF s d xs 2), Value.bool (uP s d xs), Value.slice g74.a ((uD s d xs).length) g74.cap]) (cs' := [nV .u16 ff, nV .u16 ft, Value.bool (uP s d xs), Value.slice g74.a ((uD s d xs).length) g74.cap]) (v := nV .u16 ft) (LL' := [[cb p14 [nV .u16 ff, nV .u16 ft, Value.bool (uP s d xs), Value.slice g74.a ((uD s d xs).length) g74.cap] 56], g74.seg 5 (mc b8 (uD s d xs)), [cb p4 [Value.int .u8 0, Value.int .u8 0, Value.int .u16 0, Value.int .u32 0, Value.int .u32 0, Value.slice none 0 0] 27], [cb p3 [nV .u8 fp.toNat, nV .u32 fs, nV .u32 fd, nV .u16 ff, nV .u16 ft] 30], [cb p2 [nV .u8 tt.toNat, nV .u8 pr.toNat, nV .u16 id, nV .u32 fs, nV .u32 fd, Value.slice a xs.length cap] 27]]) rfl rfl (by kernel_rfl) (by kernel_rfl) Try.sizeOf22 rfl rfl rfl (by simp) rfl rfl) (.inl (by kernel_rfl)) (fun _ => ?_)
              refine Wd.nil ?_
              refine hK78 _ _ _ ?_
              refine W.pick (LL' := [[cb p14 [nV .u16 ff, nV .u16 ft, Value.bool (uP s d xs), Value.slice g74.a ((uD s d xs).length) g74.cap] 56], g74.seg 5 (mc b8 (uD s d xs)), [cb p4 [Value.int .u8 0, Value.int .u8 0, Value.int .u16 0, Value.int .u32 0, Value.int .u32 0, Value.slice none 0 0] 27], [cb p2 [nV .u8 tt.toNat, nV .u8 pr.toNat, nV .u16 id, nV .u32 fs, nV .u32 fd, Value.slice a xs.length cap] 27]]) [0, 1, 2, 4] (by decide) rfl ?_
              refine W.prune' [2, 4, 14] [Value.pointer (some ⟨p2, 0, none⟩), Value.pointer (some ⟨p4, 0, none⟩), Value.pointer (some ⟨p14, 0, none⟩)] (by kernel_rfl) (fun f79 => ?_)
              refine W.region ?_
              refine Wl.run 1 (by kernel_rfl) ?_
              refine Wl.ys (v := nV .u32 fs) rfl rfl (Ys.load (b := p2) (o' := 3) (i := 3) (j := 0) (cs := [nV .u8 tt.toNat, nV .u8 pr.toNat, nV .u16 id, nV .u32 fs, nV .u32 fd, Value.slice a xs.length cap]) (v := nV .u32 fs) rfl (by kernel_rfl) Try.isAgg24 rfl rfl rfl) ?_
              refine Wl.run 1 (by kernel_rfl) ?_
              refine Wl.ys (v := nV .u32 fd) rfl rfl (Ys.load (b := p2) (o' := 4) (i := 3) (j := 0) (cs := [nV .u8 tt.toNat, nV .u8 pr.toNat, nV .u16 id, nV .u32 fs, nV .u32 fd, Value.slice a xs.length cap]) (v := nV .u32 fd) rfl (by kernel_rfl) Try.isAgg24 rfl rfl rfl) ?_
              refine Wl.ys (v := Value.agg ([nV .u16 ff, nV .u16 ft, Value.bool (uP s d xs), Value.slice g74.a ((uD s d xs).length) g74.cap]).toArray) rfl rfl (Ys.loadN (b := p14) (o' := 0) (i := 0) (j := 0) (cs := [nV .u16 ff, nV .u16 ft, Value.bool (uP s d xs), Value.slice g74.a ((uD s d xs).length) g74.cap]) (vs := [nV .u16 ff, nV .u16 ft, Value.bool (uP s d xs), Value.slice g74.a ((uD s d xs).length) g74.cap]) rfl (by kernel_rfl) Try.isAgg56 Try.sizeOf56 rfl rfl rfl rfl) ?_
              have hl83 := uB_le fs fd ff ft (uP s d xs) (uD s d xs)
              refine Wl.ht rfl (Ht.call (β := FS) (k := 35) (args := #[nV .u32 fs, nV .u32 fd, Value.agg ([nV .u16 ff, nV .u16 ft, Value.bool (uP s d xs), Value.slice g74.a ((uD s d xs).length) g74.cap]).toArray]) (Lin := []) (Lk := [[cb p14 [nV .u16 ff, nV .u16 ft, Value.bool (uP s d xs), Value.slice g74.a ((uD s d xs).length) g74.cap] 56], g74.seg 5 (mc b8 (uD s d xs)), [cb p4 [Value.int .u8 0, Value.int .u8 0, Value.int .u16 0, Value.int .u32 0, Value.int .u32 0, Value.slice none 0 0] 27], [cb p2 [nV .u8 tt.toNat, nV .u8 pr.toNat, nV .u16 id, nV .u32 fs, nV .u32 fd, Value.slice a xs.length cap] 27]]) (Mi := []) (Lo := fun g80 => [g80.seg 5 (mc b8 (uB fs fd ff ft (uP s d xs) (uD s d xs))), [cb p14 [nV .u16 ff, nV .u16 ft, Value.bool (uP s d xs), Value.slice g74.a ((uD s d xs).length) g74.cap] 56], g74.seg 5 (mc b8 (uD s d xs)), [cb p4 [Value.int .u8 0, Value.int .u8 0, Value.int .u16 0, Value.int .u32 0, Value.int .u32 0, Value.slice none 0 0] 27], [cb p2 [nV .u8 tt.toNat, nV .u8 pr.toNat, nV .u16 id, nV .u32 fs, nV .u32 fd, Value.slice a xs.length cap] 27]]) [] [0, 1, 2, 3] rfl (fun _ => by kernel_rfl) (by decide) rfl rfl rfl (fun w_ hm_ hl_ => (wudpn_c fs fd ff ft (uP s d xs) (uD s d xs) g74.a g74.cap ((uD s d xs).length) _ (by first | rfl | (rw [List.length_take]; omega) | (simp; done) | (simp [be_len, be_len, psh_len]; omega)) (FS.at (i := 1) (t := 5) hm_ rfl (FS.nil_cs ok75 (mc_len1 _))) (by omega) (by omega) (by omega) (by omega) (by first | omega | (simp; done) | (simp; omega)) (by have z_ := ok75.le; first | exact z_ | omega | (simp at z_ ⊢; omega)))) (fun _ => rfl)) (fun x82 => ?_)
              obtain ⟨g80, ok81⟩ := x82
              refine Wl.castL (LL' := [g80.seg 5 (mc b8 (uB fs fd ff ft (uP s d xs) (uD s d xs))), [cb p14 [nV .u16 ff, nV .u16 ft, Value.bool (uP s d xs), Value.slice g74.a ((uD s d xs).length) g74.cap] 56], g74.seg 5 (mc b8 (uD s d xs)), [cb p4 [Value.int .u8 0, Value.int .u8 0, Value.int .u16 0, Value.int .u32 0, Value.int .u32 0, Value.slice none 0 0] 27], [cb p2 [nV .u8 tt.toNat, nV .u8 pr.toNat, nV .u16 id, nV .u32 fs, nV .u32 fd, Value.slice a xs.length cap] 27]]) rfl ?_
              refine Wl.run 4 (by kernel_rfl) ?_
              refine Wl.ht rfl (Ht.store (b := p2) (o' := 5) (i := 4) (j := 0) (cs := [nV .u8 tt.toNat, nV .u8 pr.toNat, nV .u16 id, nV .u32 fs, nV .u32 fd, Value.slice a xs.length cap]) (cs' := [nV .u8 tt.toNat, nV .u8 pr.toNat, nV .u16 id, nV .u32 fs, nV .u32 fd, Value.slice g80.a ((uB fs fd ff ft (uP s d xs) (uD s d xs)).length) g80.cap]) (v := Value.slice g80.a ((uB fs fd ff ft (uP s d xs) (uD s d xs)).length) g80.cap) (LL' := [g80.seg 5 (mc b8 (uB fs fd ff ft (uP s d xs) (uD s d xs))), [cb p14 [nV .u16 ff, nV .u16 ft, Value.bool (uP s d xs), Value.slice g74.a ((uD s d xs).length) g74.cap] 56], g74.seg 5 (mc b8 (uD s d xs)), [cb p4 [Value.int .u8 0, Value.int .u8 0, Value.int .u16 0, Value.int .u32 0, Value.int .u32 0, Value.slice none 0 0] 27], [cb p2 [nV .u8 tt.toNat, nV .u8 pr.toNat, nV .u16 id, nV .u32 fs, nV .u32 fd, Value.slice g80.a ((uB fs fd ff ft (uP s d xs) (uD s d xs)).length) g80.cap] 27]]) rfl rfl (by kernel_rfl) (by kernel_rfl) Try.sizeOf25 rfl rfl rfl (by simp) rfl rfl) (fun _ => ?_)
              refine Wl.run 1 (by kernel_rfl) ?_
              refine Wl.nil ?_
              refine hK41 _ _ _ ?_
              refine W.pick (LL' := [g80.seg 5 (mc b8 (uB fs fd ff ft (uP s d xs) (uD s d xs))), [cb p4 [Value.int .u8 0, Value.int .u8 0, Value.int .u16 0, Value.int .u32 0, Value.int .u32 0, Value.slice none 0 0] 27], [cb p2 [nV .u8 tt.toNat, nV .u8 pr.toNat, nV .u16 id, nV .u32 fs, nV .u32 fd, Value.slice g80.a ((uB fs fd ff ft (uP s d xs) (uD s d xs)).length) g80.cap] 27]]) [0, 3, 4] (by decide) rfl ?_
              refine W.prune' [2, 4, 8] [Value.pointer (some ⟨p2, 0, none⟩), Value.pointer (some ⟨p4, 0, none⟩), Value.int .i64 (uE (uD s d xs).length)] (by kernel_rfl) (fun f84 => ?_)
              refine W.seq (fun K85 hK85 => ?_)
              refine W.seq (fun K86 hK86 => ?_)
              refine W.region ?_
              refine Wl.run 2 (by kernel_rfl) ?_
              refine Wl.nil ?_
              refine hK86 _ _ _ ?_
              refine W.prune' [2, 4, 8, 163] [Value.pointer (some ⟨p2, 0, none⟩), Value.pointer (some ⟨p4, 0, none⟩), Value.int .i64 (uE (uD s d xs).length), Value.bool ((uE (uD s d xs).length) != 0)] (by kernel_rfl) (fun f87 => ?_)
              refine W.cond ((uE (uD s d xs).length) != 0) (by kernel_rfl) (fun h88 => ?_) (fun h89 => ?_)
              · have qh88 := h88; try simp only [Bool.and_eq_true, Bool.or_eq_true, Bool.not_eq_true', Bool.not_eq_false', Bool.and_eq_false_iff, Bool.or_eq_false_iff, decide_eq_true_eq, decide_eq_false_iff_not, beq_iff_eq, bne_iff_ne, beq_eq_false_iff_ne, bne_eq_false_iff_eq] at qh88
                (exfalso; rw [uE_read] at h88; cases h88)
              · have qh89 := h89; try simp only [Bool.and_eq_true, Bool.or_eq_true, Bool.not_eq_true', Bool.not_eq_false', Bool.and_eq_false_iff, Bool.or_eq_false_iff, decide_eq_true_eq, decide_eq_false_iff_not, beq_iff_eq, bne_iff_ne, beq_eq_false_iff_ne, bne_eq_false_iff_eq] at qh89
                refine W.skip' ?_
                refine hK85 _ _ _ ?_
                refine W.prune' [2, 4] [Value.pointer (some ⟨p2, 0, none⟩), Value.pointer (some ⟨p4, 0, none⟩)] (by kernel_rfl) (fun f90 => ?_)
                refine W.seq (fun K91 hK91 => ?_)
                refine W.region ?_
                refine Wl.ys (v := Value.agg ([nV .u8 tt.toNat, nV .u8 pr.toNat, nV .u16 id, nV .u32 fs, nV .u32 fd, Value.slice g80.a ((uB fs fd ff ft (uP s d xs) (uD s d xs)).length) g80.cap]).toArray) rfl rfl (Ys.loadN (b := p2) (o' := 0) (i := 2) (j := 0) (cs := [nV .u8 tt.toNat, nV .u8 pr.toNat, nV .u16 id, nV .u32 fs, nV .u32 fd, Value.slice g80.a ((uB fs fd ff ft (uP s d xs) (uD s d xs)).length) g80.cap]) (vs := [nV .u8 tt.toNat, nV .u8 pr.toNat, nV .u16 id, nV .u32 fs, nV .u32 fd, Value.slice g80.a ((uB fs fd ff ft (uP s d xs) (uD s d xs)).length) g80.cap]) rfl (by kernel_rfl) Try.isAgg27 Try.sizeOf27 rfl rfl rfl rfl) ?_
                refine Wl.ht rfl (Ht.storeN (b := p4) (o' := 0) (i := 1) (j := 0) (cs := [Value.int .u8 0, Value.int .u8 0, Value.int .u16 0, Value.int .u32 0, Value.int .u32 0, Value.slice none 0 0]) (vs := [nV .u8 tt.toNat, nV .u8 pr.toNat, nV .u16 id, nV .u32 fs, nV .u32 fd, Value.slice g80.a ((uB fs fd ff ft (uP s d xs) (uD s d xs)).length) g80.cap]) (cs' := [nV .u8 tt.toNat, nV .u8 pr.toNat, nV .u16 id, nV .u32 fs, nV .u32 fd, Value.slice g80.a ((uB fs fd ff ft (uP s d xs) (uD s d xs)).length) g80.cap]) (LL' := [g80.seg 5 (mc b8 (uB fs fd ff ft (uP s d xs) (uD s d xs))), [cb p4 [nV .u8 tt.toNat, nV .u8 pr.toNat, nV .u16 id, nV .u32 fs, nV .u32 fd, Value.slice g80.a ((uB fs fd ff ft (uP s d xs) (uD s d xs)).length) g80.cap] 27], [cb p2 [nV .u8 tt.toNat, nV .u8 pr.toNat, nV .u16 id, nV .u32 fs, nV .u32 fd, Value.slice g80.a ((uB fs fd ff ft (uP s d xs) (uD s d xs)).length) g80.cap] 27]]) rfl rfl (by kernel_rfl) (by kernel_rfl) Try.sizeOf27 (by simp [Value.oneCell']) rfl rfl (by simp) rfl rfl) (fun _ => ?_)
                refine Wl.run 1 (by kernel_rfl) ?_
                refine Wl.nil ?_
                refine hK91 _ _ _ ?_
                refine W.pick (LL' := [g80.seg 5 (mc b8 (uB fs fd ff ft (uP s d xs) (uD s d xs))), [cb p4 [nV .u8 tt.toNat, nV .u8 pr.toNat, nV .u16 id, nV .u32 fs, nV .u32 fd, Value.slice g80.a ((uB fs fd ff ft (uP s d xs) (uD s d xs)).length) g80.cap] 27]]) [0, 1] (by decide) rfl ?_
                refine W.prune' [4, 5] [Value.pointer (some ⟨p4, 0, none⟩), Value.int .i64 0] (by kernel_rfl) (fun f92 => ?_)
                refine W.ret ?_
                have hG : rwG pr s d xs fp = true := by unfold rwG; rw [h9, h15]; rfl
                have hX : rwX pr s d xs fp = 0 := by unfold rwX; rw [h9, h15]; rfl
                have hB : rwB pr s d xs fp fs fd ff ft = uB fs fd ff ft (uP s d xs) (uD s d xs) := by unfold rwB; rw [hG, show isT pr = false from h47, show isU pr = true from h71]; rfl
                show ∀ w_, _ → bodyPostM (fence none) 0 Try.prog Try.f18 _ Exit.ret _ w_
                exact fun w_ hS_ => fin_ret (ret2 rfl (RV.cellN (b := p4) (o' := 0) (i := 1) (j := 0) (cs := [nV .u8 tt.toNat, nV .u8 pr.toNat, nV .u16 id, nV .u32 fs, nV .u32 fd, Value.slice g80.a ((uB fs fd ff ft (uP s d xs) (uD s d xs)).length) g80.cap]) (vs := [nV .u8 tt.toNat, nV .u8 pr.toNat, nV .u16 id, nV .u32 fs, nV .u32 fd, Value.slice g80.a ((uB fs fd ff ft (uP s d xs) (uD s d xs)).length) g80.cap]) (by kernel_rfl) Try.isAgg27 Try.sizeOf27 rfl rfl rfl rfl) (RV.tmp (v := Value.int .i64 0) (by kernel_rfl)) hS_ ⟨g80, (by rw [hB]; exact ok81), congrArg Ending.returned ((by rw [hB, hG, hX]; rfl)), (Mem.cast (by rw [hB]; rfl) (hS_.pick [0] (by decide) rfl))⟩)
            · have qh72 := h72; try simp only [Bool.and_eq_true, Bool.or_eq_true, Bool.not_eq_true', Bool.not_eq_false', Bool.and_eq_false_iff, Bool.or_eq_false_iff, decide_eq_true_eq, decide_eq_false_iff_not, beq_iff_eq, bne_iff_ne, beq_eq_false_iff_ne, bne_eq_false_iff_eq] at qh72
              refine W.seq (fun K93 hK93 => ?_)
              refine W.region ?_
              refine Wl.run 1 (by kernel_rfl) ?_
              refine Wl.ht rfl (Ht.call (β := FS) (k := 36) (args := #[Value.slice a xs.length cap]) (Lin := []) (Lk := [[cb p6 [nV .u8 ((ofP pr s d xs).toNat), nV .u32 (ofS pr s d xs), nV .u32 (ofD pr s d xs), nV .u16 (ofF pr s d xs), nV .u16 (ofT pr s d xs)] 30], [cb p4 [Value.int .u8 0, Value.int .u8 0, Value.int .u16 0, Value.int .u32 0, Value.int .u32 0, Value.slice none 0 0] 27], [cb p3 [nV .u8 fp.toNat, nV .u32 fs, nV .u32 fd, nV .u16 ff, nV .u16 ft] 30], [cb p2 [nV .u8 tt.toNat, nV .u8 pr.toNat, nV .u16 id, nV .u32 fs, nV .u32 fd, Value.slice a xs.length cap] 27]]) (Mi := []) (Lo := fun g94 => [g94.seg 5 (mc b8 (mD xs)), [cb p6 [nV .u8 ((ofP pr s d xs).toNat), nV .u32 (ofS pr s d xs), nV .u32 (ofD pr s d xs), nV .u16 (ofF pr s d xs), nV .u16 (ofT pr s d xs)] 30], [cb p4 [Value.int .u8 0, Value.int .u8 0, Value.int .u16 0, Value.int .u32 0, Value.int .u32 0, Value.slice none 0 0] 27], [cb p3 [nV .u8 fp.toNat, nV .u32 fs, nV .u32 fd, nV .u16 ff, nV .u16 ft] 30], [cb p2 [nV .u8 tt.toNat, nV .u8 pr.toNat, nV .u16 id, nV .u32 fs, nV .u32 fd, Value.slice a xs.length cap] 27]]) [] [0, 1, 2, 3] rfl (fun _ => by kernel_rfl) (by decide) rfl rfl rfl (fun w_ hm_ hl_ => (ricmpn_c xs a cap xs.length _ (by first | rfl | (rw [List.length_take]; omega) | (simp; done) | (simp [be_len, be_len, psh_len]; omega)) (hat.mem0 hm_) (by first | omega | (simp; omega)) (by first | omega | (simp; omega)))) (fun _ => rfl)) (fun x96 => ?_)
              obtain ⟨g94, ok95⟩ := x96
              refine Wl.castL (LL' := [g94.seg 5 (mc b8 (mD xs)), [cb p6 [nV .u8 ((ofP pr s d xs).toNat), nV .u32 (ofS pr s d xs), nV .u32 (ofD pr s d xs), nV .u16 (ofF pr s d xs), nV .u16 (ofT pr s d xs)] 30], [cb p4 [Value.int .u8 0, Value.int .u8 0, Value.int .u16 0, Value.int .u32 0, Value.int .u32 0, Value.slice none 0 0] 27], [cb p3 [nV .u8 fp.toNat, nV .u32 fs, nV .u32 fd, nV .u16 ff, nV .u16 ft] 30], [cb p2 [nV .u8 tt.toNat, nV .u8 pr.toNat, nV .u16 id, nV .u32 fs, nV .u32 fd, Value.slice a xs.length cap] 27]]) rfl ?_
              refine Wl.run 3 (by kernel_rfl) ?_
              refine Wl.ht rfl (Ht.alloc (z := Value.agg ([Value.int .u8 0, Value.int .u8 0, Value.int .u32 0, Value.slice none 0 0]).toArray) (cs := [Value.int .u8 0, Value.int .u8 0, Value.int .u32 0, Value.slice none 0 0]) rfl rfl Try.zeroValue65 rfl) (fun p16 => ?_)
              refine Wl.ht rfl (Ht.storeN (b := p16) (o' := 0) (i := 0) (j := 0) (cs := [Value.int .u8 0, Value.int .u8 0, Value.int .u32 0, Value.slice none 0 0]) (vs := [nV .u8 ((mT xs 0).toNat), nV .u8 ((mT xs 1).toNat), nV .u32 (mN xs), Value.slice g94.a ((mD xs).length) g94.cap]) (cs' := [nV .u8 ((mT xs 0).toNat), nV .u8 ((mT xs 1).toNat), nV .u32 (mN xs), Value.slice g94.a ((mD xs).length) g94.cap]) (LL' := [[cb p16 [nV .u8 ((mT xs 0).toNat), nV .u8 ((mT xs 1).toNat), nV .u32 (mN xs), Value.slice g94.a ((mD xs).length) g94.cap] 65], g94.seg 5 (mc b8 (mD xs)), [cb p6 [nV .u8 ((ofP pr s d xs).toNat), nV .u32 (ofS pr s d xs), nV .u32 (ofD pr s d xs), nV .u16 (ofF pr s d xs), nV .u16 (ofT pr s d xs)] 30], [cb p4 [Value.int .u8 0, Value.int .u8 0, Value.int .u16 0, Value.int .u32 0, Value.int .u32 0, Value.slice none 0 0] 27], [cb p3 [nV .u8 fp.toNat, nV .u32 fs, nV .u32 fd, nV .u16 ff, nV .u16 ft] 30], [cb p2 [nV .u8 tt.toNat, nV .u8 pr.toNat, nV .u16 id, nV .u32 fs, nV .u32 fd, Value.slice a xs.length cap] 27]]) rfl rfl (by kernel_rfl) (by kernel_rfl) Try.sizeOf65 (by simp [Value.oneCell']) rfl rfl (by simp) rfl rfl) (fun _ => ?_)
              refine Wl.run 1 (by kernel_rfl) ?_
              refine Wl.nil ?_
              refine hK93 _ _ _ ?_
              refine W.prune' [2, 3, 4, 6, 7, 16] [Value.pointer (some ⟨p2, 0, none⟩), Value.pointer (some ⟨p3, 0, none⟩), Value.pointer (some ⟨p4, 0, none⟩), Value.pointer (some ⟨p6, 0, none⟩), Value.int .i64 (ofK pr s d xs), Value.pointer (some ⟨p16, 0, none⟩)] (by kernel_rfl) (fun f97 => ?_)
              refine W.seq (fun K98 hK98 => ?_)
              refine W.seq (fun K99 hK99 => ?_)
              refine W.region ?_
              refine Wl.run 2 (by kernel_rfl) ?_
              refine Wl.nil ?_
              refine hK99 _ _ _ ?_
              refine W.prune' [2, 3, 4, 6, 16, 75] [Value.pointer (some ⟨p2, 0, none⟩), Value.pointer (some ⟨p3, 0, none⟩), Value.pointer (some ⟨p4, 0, none⟩), Value.pointer (some ⟨p6, 0, none⟩), Value.pointer (some ⟨p16, 0, none⟩), Value.bool ((ofK pr s d xs) == 3)] (by kernel_rfl) (fun f100 => ?_)
              refine W.cond ((ofK pr s d xs) == 3) (by kernel_rfl) (fun h101 => ?_) (fun h102 => ?_)
              · have qh101 := h101; try simp only [Bool.and_eq_true, Bool.or_eq_true, Bool.not_eq_true', Bool.not_eq_false', Bool.and_eq_false_iff, Bool.or_eq_false_iff, decide_eq_true_eq, decide_eq_false_iff_not, beq_iff_eq, bne_iff_ne, beq_eq_false_iff_ne, bne_eq_false_iff_eq] at qh101
                (exfalso; simp at h101; exact hk h101)
              · have qh102 := h102; try simp only [Bool.and_eq_true, Bool.or_eq_true, Bool.not_eq_true', Bool.not_eq_false', Bool.and_eq_false_iff, Bool.or_eq_false_iff, decide_eq_true_eq, decide_eq_false_iff_not, beq_iff_eq, bne_iff_ne, beq_eq_false_iff_ne, bne_eq_false_iff_eq] at qh102
                refine W.seq (fun K103 hK103 => ?_)
                refine W.region ?_
                refine Wl.run 1 (by kernel_rfl) ?_
                refine Wl.ys (v := nV .u16 ff) rfl rfl (Ys.load (b := p3) (o' := 3) (i := 4) (j := 0) (cs := [nV .u8 fp.toNat, nV .u32 fs, nV .u32 fd, nV .u16 ff, nV .u16 ft]) (v := nV .u16 ff) rfl (by kernel_rfl) Try.isAgg22 rfl rfl rfl) ?_
                refine Wl.run 1 (by kernel_rfl) ?_
                refine Wl.nil ?_
                refine hK103 _ _ _ ?_
                refine W.pick (LL' := [[cb p16 [nV .u8 ((mT xs 0).toNat), nV .u8 ((mT xs 1).toNat), nV .u32 (mN xs), Value.slice g94.a ((mD xs).length) g94.cap] 65], g94.seg 5 (mc b8 (mD xs)), [cb p4 [Value.int .u8 0, Value.int .u8 0, Value.int .u16 0, Value.int .u32 0, Value.int .u32 0, Value.slice none 0 0] 27], [cb p3 [nV .u8 fp.toNat, nV .u32 fs, nV .u32 fd, nV .u16 ff, nV .u16 ft] 30], [cb p2 [nV .u8 tt.toNat, nV .u8 pr.toNat, nV .u16 id, nV .u32 fs, nV .u32 fd, Value.slice a xs.length cap] 27]]) [0, 1, 3, 4, 5] (by decide) rfl ?_
                refine W.prune' [2, 3, 4, 16, 18] [Value.pointer (some ⟨p2, 0, none⟩), Value.pointer (some ⟨p3, 0, none⟩), Value.pointer (some ⟨p4, 0, none⟩), Value.pointer (some ⟨p16, 0, none⟩), nV .u16 ff] (by kernel_rfl) (fun f104 => ?_)
                refine W.seq (fun K105 hK105 => ?_)
                refine W.seq (fun K106 hK106 => ?_)
                refine W.region ?_
                refine Wl.run 1 (by kernel_rfl) ?_
                refine Wl.ys (v := nV .u8 ((mT xs 0).toNat)) rfl rfl (Ys.load (b := p16) (o' := 0) (i := 0) (j := 0) (cs := [nV .u8 ((mT xs 0).toNat), nV .u8 ((mT xs 1).toNat), nV .u32 (mN xs), Value.slice g94.a ((mD xs).length) g94.cap]) (v := nV .u8 ((mT xs 0).toNat)) rfl (by kernel_rfl) Try.isAgg5 rfl rfl rfl) ?_
                refine Wl.run 1 (by kernel_rfl) ?_
                refine Wl.ys (v := nV .u8 ((mT xs 1).toNat)) rfl rfl (Ys.load (b := p16) (o' := 1) (i := 0) (j := 0) (cs := [nV .u8 ((mT xs 0).toNat), nV .u8 ((mT xs 1).toNat), nV .u32 (mN xs), Value.slice g94.a ((mD xs).length) g94.cap]) (v := nV .u8 ((mT xs 1).toNat)) rfl (by kernel_rfl) Try.isAgg5 rfl rfl rfl) ?_
                refine Wl.yc (v := Value.tuple #[Value.bool (ecA (mT xs 0)), Value.bool (ecO (mT xs 0) (mT xs 1))]) rfl rfl (Yc.call (k := 38) (args := #[nV .u8 ((mT xs 0).toNat), nV .u8 ((mT xs 1).toNat)]) (fun _ => by kernel_rfl) (fun w_ hm_ => (echo_c (mT xs 0) (mT xs 1) _))) ?_
                refine Wl.run 5 (by kernel_rfl) ?_
                refine Wl.nil ?_
                refine hK106 _ _ _ ?_
                refine W.prune' [2, 3, 4, 16, 18, 19] [Value.pointer (some ⟨p2, 0, none⟩), Value.pointer (some ⟨p3, 0, none⟩), Value.pointer (some ⟨p4, 0, none⟩), Value.pointer (some ⟨p16, 0, none⟩), nV .u16 ff, Value.bool (ecA (mT xs 0))] (by kernel_rfl) (fun f107 => ?_)
                refine W.seq (fun K108 hK108 => ?_)
                refine W.region ?_
                refine Wl.run 2 (by kernel_rfl) ?_
                refine Wl.nil ?_
                refine hK108 _ _ _ ?_
                refine W.prune' [2, 3, 4, 16, 18, 95] [Value.pointer (some ⟨p2, 0, none⟩), Value.pointer (some ⟨p3, 0, none⟩), Value.pointer (some ⟨p4, 0, none⟩), Value.pointer (some ⟨p16, 0, none⟩), nV .u16 ff, Value.bool (!(ecA (mT xs 0)))] (by kernel_rfl) (fun f109 => ?_)
                refine W.cond (!(ecA (mT xs 0))) (by kernel_rfl) (fun h110 => ?_) (fun h111 => ?_)
                · refine W.region ?_
                  refine Wl.run 1 (by kernel_rfl) ?_
                  refine Wl.ys (v := nV .u16 ft) rfl rfl (Ys.load (b := p3) (o' := 4) (i := 3) (j := 0) (cs := [nV .u8 fp.toNat, nV .u32 fs, nV .u32 fd, nV .u16 ff, nV .u16 ft]) (v := nV .u16 ft) rfl (by kernel_rfl) Try.isAgg22 rfl rfl rfl) ?_
                  refine Wl.run 1 (by kernel_rfl) ?_
                  refine Wl.nil ?_
                  refine hK105 _ _ _ ?_
                  refine W.pick (LL' := [[cb p16 [nV .u8 ((mT xs 0).toNat), nV .u8 ((mT xs 1).toNat), nV .u32 (mN xs), Value.slice g94.a ((mD xs).length) g94.cap] 65], g94.seg 5 (mc b8 (mD xs)), [cb p4 [Value.int .u8 0, Value.int .u8 0, Value.int .u16 0, Value.int .u32 0, Value.int .u32 0, Value.slice none 0 0] 27], [cb p2 [nV .u8 tt.toNat, nV .u8 pr.toNat, nV .u16 id, nV .u32 fs, nV .u32 fd, Value.slice a xs.length cap] 27]]) [0, 1, 2, 4] (by decide) rfl ?_
                  refine W.prune' [2, 4, 16, 18] [Value.pointer (some ⟨p2, 0, none⟩), Value.pointer (some ⟨p4, 0, none⟩), Value.pointer (some ⟨p16, 0, none⟩), nV .u16 ft] (by kernel_rfl) (fun f112 => ?_)
                  refine W.region ?_
                  refine Wl.run 1 (by kernel_rfl) ?_
                  refine Wl.ys (v := nV .u32 (mN xs)) rfl rfl (Ys.load (b := p16) (o' := 2) (i := 0) (j := 0) (cs := [nV .u8 ((mT xs 0).toNat), nV .u8 ((mT xs 1).toNat), nV .u32 (mN xs), Value.slice g94.a ((mD xs).length) g94.cap]) (v := nV .u32 (mN xs)) rfl (by kernel_rfl) Try.isAgg23 rfl rfl rfl) ?_
                  refine Wl.ys (v := nV .u32 ((mN xs) % 65536)) rfl rfl ((Ys.pure (v := .int .u32 (band .u32 ((mN xs : Nat) : Int) ((65535 : Nat) : Int))) (fun _ => by kernel_rfl)).conseq (int_congr (band_mask rfl (a := mN xs) (c := 16) (by show _ < 4294967296; omega) (by decide) 65535 rfl))) ?_
                  refine Wl.run 1 (by kernel_rfl) ?_
                  refine Wl.ys (v := nV .u32 ft) rfl rfl ((Ys.pure (v := .int .u32 (icnv .u32 ((ft : Nat) : Int))) (fun _ => by kernel_rfl)).conseq (int_congr (wrap_u32 (by omega) (by omega)))) ?_
                  refine Wl.ys (v := nV .u32 ((ft * 65536) % 4294967296)) rfl rfl ((Ys.pure (v := .int .u32 (ishl .u32 ((ft : Nat) : Int) ((16 : Nat) : Int))) (fun _ => by kernel_rfl)).conseq (int_congr (ishl_mod rfl ft 16 (by decide)))) ?_
                  refine Wl.ys (v := nV .u32 (((mN xs) % 65536) ||| ((ft * 65536) % 4294967296))) rfl rfl ((Ys.pure (v := .int .u32 (bor .u32 (((mN xs) % 65536 : Nat) : Int) (((ft * 65536) % 4294967296 : Nat) : Int))) (fun _ => by kernel_rfl)).conseq (int_congr (bor_nat rfl (by show _ < 4294967296; omega) (by show _ < 4294967296; omega)))) ?_
                  refine Wl.run 1 (by kernel_rfl) ?_
                  refine Wl.ht rfl (Ht.store (b := p16) (o' := 2) (i := 0) (j := 0) (cs := [nV .u8 ((mT xs 0).toNat), nV .u8 ((mT xs 1).toNat), nV .u32 (mN xs), Value.slice g94.a ((mD xs).length) g94.cap]) (cs' := [nV .u8 ((mT xs 0).toNat), nV .u8 ((mT xs 1).toNat), nV .u32 (((mN xs) % 65536) ||| ((ft * 65536) % 4294967296)), Value.slice g94.a ((mD xs).length) g94.cap]) (v := nV .u32 (((mN xs) % 65536) ||| ((ft * 65536) % 4294967296))) (LL' := [[cb p16 [nV .u8 ((mT xs 0).toNat), nV .u8 ((mT xs 1).toNat), nV .u32 (((mN xs) % 65536) ||| ((ft * 65536) % 4294967296)), Value.slice g94.a ((mD xs).length) g94.cap] 65], g94.seg 5 (mc b8 (mD xs)), [cb p4 [Value.int .u8 0, Value.int .u8 0, Value.int .u16 0, Value.int .u32 0, Value.int .u32 0, Value.slice none 0 0] 27], [cb p2 [nV .u8 tt.toNat, nV .u8 pr.toNat, nV .u16 id, nV .u32 fs, nV .u32 fd, Value.slice a xs.length cap] 27]]) rfl rfl (by kernel_rfl) (by kernel_rfl) Try.sizeOf23 rfl rfl rfl (by simp) rfl rfl) (fun _ => ?_)
                  refine Wl.nil ?_
                  refine hK98 _ _ _ ?_
                  refine W.prune' [2, 4, 16] [Value.pointer (some ⟨p2, 0, none⟩), Value.pointer (some ⟨p4, 0, none⟩), Value.pointer (some ⟨p16, 0, none⟩)] (by kernel_rfl) (fun f113 => ?_)
                  refine W.region ?_
                  refine Wl.ys (v := Value.agg ([nV .u8 ((mT xs 0).toNat), nV .u8 ((mT xs 1).toNat), nV .u32 (((mN xs) % 65536) ||| ((ft * 65536) % 4294967296)), Value.slice g94.a ((mD xs).length) g94.cap]).toArray) rfl rfl (Ys.loadN (b := p16) (o' := 0) (i := 0) (j := 0) (cs := [nV .u8 ((mT xs 0).toNat), nV .u8 ((mT xs 1).toNat), nV .u32 (((mN xs) % 65536) ||| ((ft * 65536) % 4294967296)), Value.slice g94.a ((mD xs).length) g94.cap]) (vs := [nV .u8 ((mT xs 0).toNat), nV .u8 ((mT xs 1).toNat), nV .u32 (((mN xs) % 65536) ||| ((ft * 65536) % 4294967296)), Value.slice g94.a ((mD xs).length) g94.cap]) rfl (by kernel_rfl) Try.isAgg65 Try.sizeOf65 rfl rfl rfl rfl) ?_
                  have hl117 := mB_le (mT xs 0) (mT xs 1) (((mN xs) % 65536) ||| ((ft * 65536) % 4294967296)) (mD xs)
                  refine Wl.ht rfl (Ht.call (β := FS) (k := 39) (args := #[Value.agg ([nV .u8 ((mT xs 0).toNat), nV .u8 ((mT xs 1).toNat), nV .u32 (((mN xs) % 65536) ||| ((ft * 65536) % 4294967296)), Value.slice g94.a ((mD xs).length) g94.cap]).toArray]) (Lin := []) (Lk := [[cb p16 [nV .u8 ((mT xs 0).toNat), nV .u8 ((mT xs 1).toNat), nV .u32 (((mN xs) % 65536) ||| ((ft * 65536) % 4294967296)), Value.slice g94.a ((mD xs).length) g94.cap] 65], g94.seg 5 (mc b8 (mD xs)), [cb p4 [Value.int .u8 0, Value.int .u8 0, Value.int .u16 0, Value.int .u32 0, Value.int .u32 0, Value.slice none 0 0] 27], [cb p2 [nV .u8 tt.toNat, nV .u8 pr.toNat, nV .u16 id, nV .u32 fs, nV .u32 fd, Value.slice a xs.length cap] 27]]) (Mi := []) (Lo := fun g114 => [g114.seg 5 (mc b8 (mB (mT xs 0) (mT xs 1) (((mN xs) % 65536) ||| ((ft * 65536) % 4294967296)) (mD xs))), [cb p16 [nV .u8 ((mT xs 0).toNat), nV .u8 ((mT xs 1).toNat), nV .u32 (((mN xs) % 65536) ||| ((ft * 65536) % 4294967296)), Value.slice g94.a ((mD xs).length) g94.cap] 65], g94.seg 5 (mc b8 (mD xs)), [cb p4 [Value.int .u8 0, Value.int .u8 0, Value.int .u16 0, Value.int .u32 0, Value.int .u32 0, Value.slice none 0 0] 27], [cb p2 [nV .u8 tt.toNat, nV .u8 pr.toNat, nV .u16 id, nV .u32 fs, nV .u32 fd, Value.slice a xs.length cap] 27]]) [] [0, 1, 2, 3] rfl (fun _ => by kernel_rfl) (by decide) rfl rfl rfl (fun w_ hm_ hl_ => (wicmpn_c (mT xs 0) (mT xs 1) (((mN xs) % 65536) ||| ((ft * 65536) % 4294967296)) (mD xs) g94.a g94.cap ((mD xs).length) _ (by first | rfl | (rw [List.length_take]; omega) | (simp; done) | (simp [be_len, be_len, psh_len]; omega)) (FS.at (i := 1) (t := 5) hm_ rfl (FS.nil_cs ok95 (mc_len1 _))) (by first | omega | exact Nat.or_lt_two_pow (n := 32) (by omega) (by omega)) (by first | omega | (simp; done) | (simp; omega)) (by have z_ := ok95.le; first | exact z_ | omega | (simp at z_ ⊢; omega)))) (fun _ => rfl)) (fun x116 => ?_)
                  obtain ⟨g114, ok115⟩ := x116
                  refine Wl.castL (LL' := [g114.seg 5 (mc b8 (mB (mT xs 0) (mT xs 1) (((mN xs) % 65536) ||| ((ft * 65536) % 4294967296)) (mD xs))), [cb p16 [nV .u8 ((mT xs 0).toNat), nV .u8 ((mT xs 1).toNat), nV .u32 (((mN xs) % 65536) ||| ((ft * 65536) % 4294967296)), Value.slice g94.a ((mD xs).length) g94.cap] 65], g94.seg 5 (mc b8 (mD xs)), [cb p4 [Value.int .u8 0, Value.int .u8 0, Value.int .u16 0, Value.int .u32 0, Value.int .u32 0, Value.slice none 0 0] 27], [cb p2 [nV .u8 tt.toNat, nV .u8 pr.toNat, nV .u16 id, nV .u32 fs, nV .u32 fd, Value.slice a xs.length cap] 27]]) rfl ?_
                  refine Wl.run 4 (by kernel_rfl) ?_
                  refine Wl.ht rfl (Ht.store (b := p2) (o' := 5) (i := 4) (j := 0) (cs := [nV .u8 tt.toNat, nV .u8 pr.toNat, nV .u16 id, nV .u32 fs, nV .u32 fd, Value.slice a xs.length cap]) (cs' := [nV .u8 tt.toNat, nV .u8 pr.toNat, nV .u16 id, nV .u32 fs, nV .u32 fd, Value.slice g114.a ((mB (mT xs 0) (mT xs 1) (((mN xs) % 65536) ||| ((ft * 65536) % 4294967296)) (mD xs)).length) g114.cap]) (v := Value.slice g114.a ((mB (mT xs 0) (mT xs 1) (((mN xs) % 65536) ||| ((ft * 65536) % 4294967296)) (mD xs)).length) g114.cap) (LL' := [g114.seg 5 (mc b8 (mB (mT xs 0) (mT xs 1) (((mN xs) % 65536) ||| ((ft * 65536) % 4294967296)) (mD xs))), [cb p16 [nV .u8 ((mT xs 0).toNat), nV .u8 ((mT xs 1).toNat), nV .u32 (((mN xs) % 65536) ||| ((ft * 65536) % 4294967296)), Value.slice g94.a ((mD xs).length) g94.cap] 65], g94.seg 5 (mc b8 (mD xs)), [cb p4 [Value.int .u8 0, Value.int .u8 0, Value.int .u16 0, Value.int .u32 0, Value.int .u32 0, Value.slice none 0 0] 27], [cb p2 [nV .u8 tt.toNat, nV .u8 pr.toNat, nV .u16 id, nV .u32 fs, nV .u32 fd, Value.slice g114.a ((mB (mT xs 0) (mT xs 1) (((mN xs) % 65536) ||| ((ft * 65536) % 4294967296)) (mD xs)).length) g114.cap] 27]]) rfl rfl (by kernel_rfl) (by kernel_rfl) Try.sizeOf25 rfl rfl rfl (by simp) rfl rfl) (fun _ => ?_)
                  refine Wl.run 1 (by kernel_rfl) ?_
                  refine Wl.nil ?_
                  refine hK41 _ _ _ ?_
                  refine W.pick (LL' := [g114.seg 5 (mc b8 (mB (mT xs 0) (mT xs 1) (((mN xs) % 65536) ||| ((ft * 65536) % 4294967296)) (mD xs))), [cb p4 [Value.int .u8 0, Value.int .u8 0, Value.int .u16 0, Value.int .u32 0, Value.int .u32 0, Value.slice none 0 0] 27], [cb p2 [nV .u8 tt.toNat, nV .u8 pr.toNat, nV .u16 id, nV .u32 fs, nV .u32 fd, Value.slice g114.a ((mB (mT xs 0) (mT xs 1) (((mN xs) % 65536) ||| ((ft * 65536) % 4294967296)) (mD xs)).length) g114.cap] 27]]) [0, 3, 4] (by decide) rfl ?_
                  refine W.prune' [2, 4, 8] [Value.pointer (some ⟨p2, 0, none⟩), Value.pointer (some ⟨p4, 0, none⟩), Value.int .i64 (uE (mD xs).length)] (by kernel_rfl) (fun f118 => ?_)
                  refine W.seq (fun K119 hK119 => ?_)
                  refine W.seq (fun K120 hK120 => ?_)
                  refine W.region ?_
                  refine Wl.run 2 (by kernel_rfl) ?_
                  refine Wl.nil ?_
                  refine hK120 _ _ _ ?_
                  refine W.prune' [2, 4, 8, 163] [Value.pointer (some ⟨p2, 0, none⟩), Value.pointer (some ⟨p4, 0, none⟩), Value.int .i64 (uE (mD xs).length), Value.bool ((uE (mD xs).length) != 0)] (by kernel_rfl) (fun f121 => ?_)
                  refine W.cond ((uE (mD xs).length) != 0) (by kernel_rfl) (fun h122 => ?_) (fun h123 => ?_)
                  · have qh122 := h122; try simp only [Bool.and_eq_true, Bool.or_eq_true, Bool.not_eq_true', Bool.not_eq_false', Bool.and_eq_false_iff, Bool.or_eq_false_iff, decide_eq_true_eq, decide_eq_false_iff_not, beq_iff_eq, bne_iff_ne, beq_eq_false_iff_ne, bne_eq_false_iff_eq] at qh122
                    (exfalso; rw [mE_read] at h122; cases h122)
                  · have qh123 := h123; try simp only [Bool.and_eq_true, Bool.or_eq_true, Bool.not_eq_true', Bool.not_eq_false', Bool.and_eq_false_iff, Bool.or_eq_false_iff, decide_eq_true_eq, decide_eq_false_iff_not, beq_iff_eq, bne_iff_ne, beq_eq_false_iff_ne, bne_eq_false_iff_eq] at qh123
                    refine W.skip' ?_
                    refine hK119 _ _ _ ?_
                    refine W.prune' [2, 4] [Value.pointer (some ⟨p2, 0, none⟩), Value.pointer (some ⟨p4, 0, none⟩)] (by kernel_rfl) (fun f124 => ?_)
                    refine W.seq (fun K125 hK125 => ?_)
                    refine W.region ?_
                    refine Wl.ys (v := Value.agg ([nV .u8 tt.toNat, nV .u8 pr.toNat, nV .u16 id, nV .u32 fs, nV .u32 fd, Value.slice g114.a ((mB (mT xs 0) (mT xs 1) (((mN xs) % 65536) ||| ((ft * 65536) % 4294967296)) (mD xs)).length) g114.cap]).toArray) rfl rfl (Ys.loadN (b := p2) (o' := 0) (i := 2) (j := 0) (cs := [nV .u8 tt.toNat, nV .u8 pr.toNat, nV .u16 id, nV .u32 fs, nV .u32 fd, Value.slice g114.a ((mB (mT xs 0) (mT xs 1) (((mN xs) % 65536) ||| ((ft * 65536) % 4294967296)) (mD xs)).length) g114.cap]) (vs := [nV .u8 tt.toNat, nV .u8 pr.toNat, nV .u16 id, nV .u32 fs, nV .u32 fd, Value.slice g114.a ((mB (mT xs 0) (mT xs 1) (((mN xs) % 65536) ||| ((ft * 65536) % 4294967296)) (mD xs)).length) g114.cap]) rfl (by kernel_rfl) Try.isAgg27 Try.sizeOf27 rfl rfl rfl rfl) ?_
                    refine Wl.ht rfl (Ht.storeN (b := p4) (o' := 0) (i := 1) (j := 0) (cs := [Value.int .u8 0, Value.int .u8 0, Value.int .u16 0, Value.int .u32 0, Value.int .u32 0, Value.slice none 0 0]) (vs := [nV .u8 tt.toNat, nV .u8 pr.toNat, nV .u16 id, nV .u32 fs, nV .u32 fd, Value.slice g114.a ((mB (mT xs 0) (mT xs 1) (((mN xs) % 65536) ||| ((ft * 65536) % 4294967296)) (mD xs)).length) g114.cap]) (cs' := [nV .u8 tt.toNat, nV .u8 pr.toNat, nV .u16 id, nV .u32 fs, nV .u32 fd, Value.slice g114.a ((mB (mT xs 0) (mT xs 1) (((mN xs) % 65536) ||| ((ft * 65536) % 4294967296)) (mD xs)).length) g114.cap]) (LL' := [g114.seg 5 (mc b8 (mB (mT xs 0) (mT xs 1) (((mN xs) % 65536) ||| ((ft * 65536) % 4294967296)) (mD xs))), [cb p4 [nV .u8 tt.toNat, nV .u8 pr.toNat, nV .u16 id, nV .u32 fs, nV .u32 fd, Value.slice g114.a ((mB (mT xs 0) (mT xs 1) (((mN xs) % 65536) ||| ((ft * 65536) % 4294967296)) (mD xs)).length) g114.cap] 27], [cb p2 [nV .u8 tt.toNat, nV .u8 pr.toNat, nV .u16 id, nV .u32 fs, nV .u32 fd, Value.slice g114.a ((mB (mT xs 0) (mT xs 1) (((mN xs) % 65536) ||| ((ft * 65536) % 4294967296)) (mD xs)).length) g114.cap] 27]]) rfl rfl (by kernel_rfl) (by kernel_rfl) Try.sizeOf27 (by simp [Value.oneCell']) rfl rfl (by simp) rfl rfl) (fun _ => ?_)
                    refine Wl.run 1 (by kernel_rfl) ?_
                    refine Wl.nil ?_
                    refine hK125 _ _ _ ?_
                    refine W.pick (LL' := [g114.seg 5 (mc b8 (mB (mT xs 0) (mT xs 1) (((mN xs) % 65536) ||| ((ft * 65536) % 4294967296)) (mD xs))), [cb p4 [nV .u8 tt.toNat, nV .u8 pr.toNat, nV .u16 id, nV .u32 fs, nV .u32 fd, Value.slice g114.a ((mB (mT xs 0) (mT xs 1) (((mN xs) % 65536) ||| ((ft * 65536) % 4294967296)) (mD xs)).length) g114.cap] 27]]) [0, 1] (by decide) rfl ?_
                    refine W.prune' [4, 5] [Value.pointer (some ⟨p4, 0, none⟩), Value.int .i64 0] (by kernel_rfl) (fun f126 => ?_)
                    refine W.ret ?_
                    have hG : rwG pr s d xs fp = true := by unfold rwG; rw [h9, h15]; rfl
                    have hX : rwX pr s d xs fp = 0 := by unfold rwX; rw [h9, h15]; rfl
                    have hB : rwB pr s d xs fp fs fd ff ft = mB (mT xs 0) (mT xs 1) (((mN xs) % 65536) ||| ((ft * 65536) % 4294967296)) (mD xs) := by unfold rwB; rw [hG, show isT pr = false from h47, show isU pr = false from h72, h110]; rfl
                    show ∀ w_, _ → bodyPostM (fence none) 0 Try.prog Try.f18 _ Exit.ret _ w_
                    exact fun w_ hS_ => fin_ret (ret2 rfl (RV.cellN (b := p4) (o' := 0) (i := 1) (j := 0) (cs := [nV .u8 tt.toNat, nV .u8 pr.toNat, nV .u16 id, nV .u32 fs, nV .u32 fd, Value.slice g114.a ((mB (mT xs 0) (mT xs 1) (((mN xs) % 65536) ||| ((ft * 65536) % 4294967296)) (mD xs)).length) g114.cap]) (vs := [nV .u8 tt.toNat, nV .u8 pr.toNat, nV .u16 id, nV .u32 fs, nV .u32 fd, Value.slice g114.a ((mB (mT xs 0) (mT xs 1) (((mN xs) % 65536) ||| ((ft * 65536) % 4294967296)) (mD xs)).length) g114.cap]) (by kernel_rfl) Try.isAgg27 Try.sizeOf27 rfl rfl rfl rfl) (RV.tmp (v := Value.int .i64 0) (by kernel_rfl)) hS_ ⟨g114, (by rw [hB]; exact ok115), congrArg Ending.returned ((by rw [hB, hG, hX]; rfl)), (Mem.cast (by rw [hB]; rfl) (hS_.pick [0] (by decide) rfl))⟩)
                · refine W.skip' ?_
                  refine hK105 _ _ _ ?_
                  refine W.pick (LL' := [[cb p16 [nV .u8 ((mT xs 0).toNat), nV .u8 ((mT xs 1).toNat), nV .u32 (mN xs), Value.slice g94.a ((mD xs).length) g94.cap] 65], g94.seg 5 (mc b8 (mD xs)), [cb p4 [Value.int .u8 0, Value.int .u8 0, Value.int .u16 0, Value.int .u32 0, Value.int .u32 0, Value.slice none 0 0] 27], [cb p2 [nV .u8 tt.toNat, nV .u8 pr.toNat, nV .u16 id, nV .u32 fs, nV .u32 fd, Value.slice a xs.length cap] 27]]) [0, 1, 2, 4] (by decide) rfl ?_
                  refine W.prune' [2, 4, 16, 18] [Value.pointer (some ⟨p2, 0, none⟩), Value.pointer (some ⟨p4, 0, none⟩), Value.pointer (some ⟨p16, 0, none⟩), nV .u16 ff] (by kernel_rfl) (fun f127 => ?_)
                  refine W.region ?_
                  refine Wl.run 1 (by kernel_rfl) ?_
                  refine Wl.ys (v := nV .u32 (mN xs)) rfl rfl (Ys.load (b := p16) (o' := 2) (i := 0) (j := 0) (cs := [nV .u8 ((mT xs 0).toNat), nV .u8 ((mT xs 1).toNat), nV .u32 (mN xs), Value.slice g94.a ((mD xs).length) g94.cap]) (v := nV .u32 (mN xs)) rfl (by kernel_rfl) Try.isAgg23 rfl rfl rfl) ?_
                  refine Wl.ys (v := nV .u32 ((mN xs) % 65536)) rfl rfl ((Ys.pure (v := .int .u32 (band .u32 ((mN xs : Nat) : Int) ((65535 : Nat) : Int))) (fun _ => by kernel_rfl)).conseq (int_congr (band_mask rfl (a := mN xs) (c := 16) (by show _ < 4294967296; omega) (by decide) 65535 rfl))) ?_
                  refine Wl.run 1 (by kernel_rfl) ?_
                  refine Wl.ys (v := nV .u32 ff) rfl rfl ((Ys.pure (v := .int .u32 (icnv .u32 ((ff : Nat) : Int))) (fun _ => by kernel_rfl)).conseq (int_congr (wrap_u32 (by omega) (by omega)))) ?_
                  refine Wl.ys (v := nV .u32 ((ff * 65536) % 4294967296)) rfl rfl ((Ys.pure (v := .int .u32 (ishl .u32 ((ff : Nat) : Int) ((16 : Nat) : Int))) (fun _ => by kernel_rfl)).conseq (int_congr (ishl_mod rfl ff 16 (by decide)))) ?_
                  refine Wl.ys (v := nV .u32 (((mN xs) % 65536) ||| ((ff * 65536) % 4294967296))) rfl rfl ((Ys.pure (v := .int .u32 (bor .u32 (((mN xs) % 65536 : Nat) : Int) (((ff * 65536) % 4294967296 : Nat) : Int))) (fun _ => by kernel_rfl)).conseq (int_congr (bor_nat rfl (by show _ < 4294967296; omega) (by show _ < 4294967296; omega)))) ?_
                  refine Wl.run 1 (by kernel_rfl) ?_
                  refine Wl.ht rfl (Ht.store (b := p16) (o' := 2) (i := 0) (j := 0) (cs := [nV .u8 ((mT xs 0).toNat), nV .u8 ((mT xs 1).toNat), nV .u32 (mN xs), Value.slice g94.a ((mD xs).length) g94.cap]) (cs' := [nV .u8 ((mT xs 0).toNat), nV .u8 ((mT xs 1).toNat), nV .u32 (((mN xs) % 65536) ||| ((ff * 65536) % 4294967296)), Value.slice g94.a ((mD xs).length) g94.cap]) (v := nV .u32 (((mN xs) % 65536) ||| ((ff * 65536) % 4294967296))) (LL' := [[cb p16 [nV .u8 ((mT xs 0).toNat), nV .u8 ((mT xs 1).toNat), nV .u32 (((mN xs) % 65536) ||| ((ff * 65536) % 4294967296)), Value.slice g94.a ((mD xs).length) g94.cap] 65], g94.seg 5 (mc b8 (mD xs)), [cb p4 [Value.int .u8 0, Value.int .u8 0, Value.int .u16 0, Value.int .u32 0, Value.int .u32 0, Value.slice none 0 0] 27], [cb p2 [nV .u8 tt.toNat, nV .u8 pr.toNat, nV .u16 id, nV .u32 fs, nV .u32 fd, Value.slice a xs.length cap] 27]]) rfl rfl (by kernel_rfl) (by kernel_rfl) Try.sizeOf23 rfl rfl rfl (by simp) rfl rfl) (fun _ => ?_)
                  refine Wl.nil ?_
                  refine hK98 _ _ _ ?_
                  refine W.prune' [2, 4, 16] [Value.pointer (some ⟨p2, 0, none⟩), Value.pointer (some ⟨p4, 0, none⟩), Value.pointer (some ⟨p16, 0, none⟩)] (by kernel_rfl) (fun f128 => ?_)
                  refine W.region ?_
                  refine Wl.ys (v := Value.agg ([nV .u8 ((mT xs 0).toNat), nV .u8 ((mT xs 1).toNat), nV .u32 (((mN xs) % 65536) ||| ((ff * 65536) % 4294967296)), Value.slice g94.a ((mD xs).length) g94.cap]).toArray) rfl rfl (Ys.loadN (b := p16) (o' := 0) (i := 0) (j := 0) (cs := [nV .u8 ((mT xs 0).toNat), nV .u8 ((mT xs 1).toNat), nV .u32 (((mN xs) % 65536) ||| ((ff * 65536) % 4294967296)), Value.slice g94.a ((mD xs).length) g94.cap]) (vs := [nV .u8 ((mT xs 0).toNat), nV .u8 ((mT xs 1).toNat), nV .u32 (((mN xs) % 65536) ||| ((ff * 65536) % 4294967296)), Value.slice g94.a ((mD xs).length) g94.cap]) rfl (by kernel_rfl) Try.isAgg65 Try.sizeOf65 rfl rfl rfl rfl) ?_
                  have hl132 := mB_le (mT xs 0) (mT xs 1) (((mN xs) % 65536) ||| ((ff * 65536) % 4294967296)) (mD xs)
                  refine Wl.ht rfl (Ht.call (β := FS) (k := 39) (args := #[Value.agg ([nV .u8 ((mT xs 0).toNat), nV .u8 ((mT xs 1).toNat), nV .u32 (((mN xs) % 65536) ||| ((ff * 65536) % 4294967296)), Value.slice g94.a ((mD xs).length) g94.cap]).toArray]) (Lin := []) (Lk := [[cb p16 [nV .u8 ((mT xs 0).toNat), nV .u8 ((mT xs 1).toNat), nV .u32 (((mN xs) % 65536) ||| ((ff * 65536) % 4294967296)), Value.slice g94.a ((mD xs).length) g94.cap] 65], g94.seg 5 (mc b8 (mD xs)), [cb p4 [Value.int .u8 0, Value.int .u8 0, Value.int .u16 0, Value.int .u32 0, Value.int .u32 0, Value.slice none 0 0] 27], [cb p2 [nV .u8 tt.toNat, nV .u8 pr.toNat, nV .u16 id, nV .u32 fs, nV .u32 fd, Value.slice a xs.length cap] 27]]) (Mi := []) (Lo := fun g129 => [g129.seg 5 (mc b8 (mB (mT xs 0) (mT xs 1) (((mN xs) % 65536) ||| ((ff * 65536) % 4294967296)) (mD xs))), [cb p16 [nV .u8 ((mT xs 0).toNat), nV .u8 ((mT xs 1).toNat), nV .u32 (((mN xs) % 65536) ||| ((ff * 65536) % 4294967296)), Value.slice g94.a ((mD xs).length) g94.cap] 65], g94.seg 5 (mc b8 (mD xs)), [cb p4 [Value.int .u8 0, Value.int .u8 0, Value.int .u16 0, Value.int .u32 0, Value.int .u32 0, Value.slice none 0 0] 27], [cb p2 [nV .u8 tt.toNat, nV .u8 pr.toNat, nV .u16 id, nV .u32 fs, nV .u32 fd, Value.slice a xs.length cap] 27]]) [] [0, 1, 2, 3] rfl (fun _ => by kernel_rfl) (by decide) rfl rfl rfl (fun w_ hm_ hl_ => (wicmpn_c (mT xs 0) (mT xs 1) (((mN xs) % 65536) ||| ((ff * 65536) % 4294967296)) (mD xs) g94.a g94.cap ((mD xs).length) _ (by first | rfl | (rw [List.length_take]; omega) | (simp; done) | (simp [be_len, be_len, psh_len]; omega)) (FS.at (i := 1) (t := 5) hm_ rfl (FS.nil_cs ok95 (mc_len1 _))) (by first | omega | exact Nat.or_lt_two_pow (n := 32) (by omega) (by omega)) (by first | omega | (simp; done) | (simp; omega)) (by have z_ := ok95.le; first | exact z_ | omega | (simp at z_ ⊢; omega)))) (fun _ => rfl)) (fun x131 => ?_)
                  obtain ⟨g129, ok130⟩ := x131
                  refine Wl.castL (LL' := [g129.seg 5 (mc b8 (mB (mT xs 0) (mT xs 1) (((mN xs) % 65536) ||| ((ff * 65536) % 4294967296)) (mD xs))), [cb p16 [nV .u8 ((mT xs 0).toNat), nV .u8 ((mT xs 1).toNat), nV .u32 (((mN xs) % 65536) ||| ((ff * 65536) % 4294967296)), Value.slice g94.a ((mD xs).length) g94.cap] 65], g94.seg 5 (mc b8 (mD xs)), [cb p4 [Value.int .u8 0, Value.int .u8 0, Value.int .u16 0, Value.int .u32 0, Value.int .u32 0, Value.slice none 0 0] 27], [cb p2 [nV .u8 tt.toNat, nV .u8 pr.toNat, nV .u16 id, nV .u32 fs, nV .u32 fd, Value.slice a xs.length cap] 27]]) rfl ?_
                  refine Wl.run 4 (by kernel_rfl) ?_
                  refine Wl.ht rfl (Ht.store (b := p2) (o' := 5) (i := 4) (j := 0) (cs := [nV .u8 tt.toNat, nV .u8 pr.toNat, nV .u16 id, nV .u32 fs, nV .u32 fd, Value.slice a xs.length cap]) (cs' := [nV .u8 tt.toNat, nV .u8 pr.toNat, nV .u16 id, nV .u32 fs, nV .u32 fd, Value.slice g129.a ((mB (mT xs 0) (mT xs 1) (((mN xs) % 65536) ||| ((ff * 65536) % 4294967296)) (mD xs)).length) g129.cap]) (v := Value.slice g129.a ((mB (mT xs 0) (mT xs 1) (((mN xs) % 65536) ||| ((ff * 65536) % 4294967296)) (mD xs)).length) g129.cap) (LL' := [g129.seg 5 (mc b8 (mB (mT xs 0) (mT xs 1) (((mN xs) % 65536) ||| ((ff * 65536) % 4294967296)) (mD xs))), [cb p16 [nV .u8 ((mT xs 0).toNat), nV .u8 ((mT xs 1).toNat), nV .u32 (((mN xs) % 65536) ||| ((ff * 65536) % 4294967296)), Value.slice g94.a ((mD xs).length) g94.cap] 65], g94.seg 5 (mc b8 (mD xs)), [cb p4 [Value.int .u8 0, Value.int .u8 0, Value.int .u16 0, Value.int .u32 0, Value.int .u32 0, Value.slice none 0 0] 27], [cb p2 [nV .u8 tt.toNat, nV .u8 pr.toNat, nV .u16 id, nV .u32 fs, nV .u32 fd, Value.slice g129.a ((mB (mT xs 0) (mT xs 1) (((mN xs) % 65536) ||| ((ff * 65536) % 4294967296)) (mD xs)).length) g129.cap] 27]]) rfl rfl (by kernel_rfl) (by kernel_rfl) Try.sizeOf25 rfl rfl rfl (by simp) rfl rfl) (fun _ => ?_)
                  refine Wl.run 1 (by kernel_rfl) ?_
                  refine Wl.nil ?_
                  refine hK41 _ _ _ ?_
                  refine W.pick (LL' := [g129.seg 5 (mc b8 (mB (mT xs 0) (mT xs 1) (((mN xs) % 65536) ||| ((ff * 65536) % 4294967296)) (mD xs))), [cb p4 [Value.int .u8 0, Value.int .u8 0, Value.int .u16 0, Value.int .u32 0, Value.int .u32 0, Value.slice none 0 0] 27], [cb p2 [nV .u8 tt.toNat, nV .u8 pr.toNat, nV .u16 id, nV .u32 fs, nV .u32 fd, Value.slice g129.a ((mB (mT xs 0) (mT xs 1) (((mN xs) % 65536) ||| ((ff * 65536) % 4294967296)) (mD xs)).length) g129.cap] 27]]) [0, 3, 4] (by decide) rfl ?_
                  refine W.prune' [2, 4, 8] [Value.pointer (some ⟨p2, 0, none⟩), Value.pointer (some ⟨p4, 0, none⟩), Value.int .i64 (uE (mD xs).length)] (by kernel_rfl) (fun f133 => ?_)
                  refine W.seq (fun K134 hK134 => ?_)
                  refine W.seq (fun K135 hK135 => ?_)
                  refine W.region ?_
                  refine Wl.run 2 (by kernel_rfl) ?_
                  refine Wl.nil ?_
                  refine hK135 _ _ _ ?_
                  refine W.prune' [2, 4, 8, 163] [Value.pointer (some ⟨p2, 0, none⟩), Value.pointer (some ⟨p4, 0, none⟩), Value.int .i64 (uE (mD xs).length), Value.bool ((uE (mD xs).length) != 0)] (by kernel_rfl) (fun f136 => ?_)
                  refine W.cond ((uE (mD xs).length) != 0) (by kernel_rfl) (fun h137 => ?_) (fun h138 => ?_)
                  · have qh137 := h137; try simp only [Bool.and_eq_true, Bool.or_eq_true, Bool.not_eq_true', Bool.not_eq_false', Bool.and_eq_false_iff, Bool.or_eq_false_iff, decide_eq_true_eq, decide_eq_false_iff_not, beq_iff_eq, bne_iff_ne, beq_eq_false_iff_ne, bne_eq_false_iff_eq] at qh137
                    (exfalso; rw [mE_read] at h137; cases h137)
                  · have qh138 := h138; try simp only [Bool.and_eq_true, Bool.or_eq_true, Bool.not_eq_true', Bool.not_eq_false', Bool.and_eq_false_iff, Bool.or_eq_false_iff, decide_eq_true_eq, decide_eq_false_iff_not, beq_iff_eq, bne_iff_ne, beq_eq_false_iff_ne, bne_eq_false_iff_eq] at qh138
                    refine W.skip' ?_
                    refine hK134 _ _ _ ?_
                    refine W.prune' [2, 4] [Value.pointer (some ⟨p2, 0, none⟩), Value.pointer (some ⟨p4, 0, none⟩)] (by kernel_rfl) (fun f139 => ?_)
                    refine W.seq (fun K140 hK140 => ?_)
                    refine W.region ?_
                    refine Wl.ys (v := Value.agg ([nV .u8 tt.toNat, nV .u8 pr.toNat, nV .u16 id, nV .u32 fs, nV .u32 fd, Value.slice g129.a ((mB (mT xs 0) (mT xs 1) (((mN xs) % 65536) ||| ((ff * 65536) % 4294967296)) (mD xs)).length) g129.cap]).toArray) rfl rfl (Ys.loadN (b := p2) (o' := 0) (i := 2) (j := 0) (cs := [nV .u8 tt.toNat, nV .u8 pr.toNat, nV .u16 id, nV .u32 fs, nV .u32 fd, Value.slice g129.a ((mB (mT xs 0) (mT xs 1) (((mN xs) % 65536) ||| ((ff * 65536) % 4294967296)) (mD xs)).length) g129.cap]) (vs := [nV .u8 tt.toNat, nV .u8 pr.toNat, nV .u16 id, nV .u32 fs, nV .u32 fd, Value.slice g129.a ((mB (mT xs 0) (mT xs 1) (((mN xs) % 65536) ||| ((ff * 65536) % 4294967296)) (mD xs)).length) g129.cap]) rfl (by kernel_rfl) Try.isAgg27 Try.sizeOf27 rfl rfl rfl rfl) ?_
                    refine Wl.ht rfl (Ht.storeN (b := p4) (o' := 0) (i := 1) (j := 0) (cs := [Value.int .u8 0, Value.int .u8 0, Value.int .u16 0, Value.int .u32 0, Value.int .u32 0, Value.slice none 0 0]) (vs := [nV .u8 tt.toNat, nV .u8 pr.toNat, nV .u16 id, nV .u32 fs, nV .u32 fd, Value.slice g129.a ((mB (mT xs 0) (mT xs 1) (((mN xs) % 65536) ||| ((ff * 65536) % 4294967296)) (mD xs)).length) g129.cap]) (cs' := [nV .u8 tt.toNat, nV .u8 pr.toNat, nV .u16 id, nV .u32 fs, nV .u32 fd, Value.slice g129.a ((mB (mT xs 0) (mT xs 1) (((mN xs) % 65536) ||| ((ff * 65536) % 4294967296)) (mD xs)).length) g129.cap]) (LL' := [g129.seg 5 (mc b8 (mB (mT xs 0) (mT xs 1) (((mN xs) % 65536) ||| ((ff * 65536) % 4294967296)) (mD xs))), [cb p4 [nV .u8 tt.toNat, nV .u8 pr.toNat, nV .u16 id, nV .u32 fs, nV .u32 fd, Value.slice g129.a ((mB (mT xs 0) (mT xs 1) (((mN xs) % 65536) ||| ((ff * 65536) % 4294967296)) (mD xs)).length) g129.cap] 27], [cb p2 [nV .u8 tt.toNat, nV .u8 pr.toNat, nV .u16 id, nV .u32 fs, nV .u32 fd, Value.slice g129.a ((mB (mT xs 0) (mT xs 1) (((mN xs) % 65536) ||| ((ff * 65536) % 4294967296)) (mD xs)).length) g129.cap] 27]]) rfl rfl (by kernel_rfl) (by kernel_rfl) Try.sizeOf27 (by simp [Value.oneCell']) rfl rfl (by simp) rfl rfl) (fun _ => ?_)
                    refine Wl.run 1 (by kernel_rfl) ?_
                    refine Wl.nil ?_
                    refine hK140 _ _ _ ?_
                    refine W.pick (LL' := [g129.seg 5 (mc b8 (mB (mT xs 0) (mT xs 1) (((mN xs) % 65536) ||| ((ff * 65536) % 4294967296)) (mD xs))), [cb p4 [nV .u8 tt.toNat, nV .u8 pr.toNat, nV .u16 id, nV .u32 fs, nV .u32 fd, Value.slice g129.a ((mB (mT xs 0) (mT xs 1) (((mN xs) % 65536) ||| ((ff * 65536) % 4294967296)) (mD xs)).length) g129.cap] 27]]) [0, 1] (by decide) rfl ?_
                    refine W.prune' [4, 5] [Value.pointer (some ⟨p4, 0, none⟩), Value.int .i64 0] (by kernel_rfl) (fun f141 => ?_)
                    refine W.ret ?_
                    have hG : rwG pr s d xs fp = true := by unfold rwG; rw [h9, h15]; rfl
                    have hX : rwX pr s d xs fp = 0 := by unfold rwX; rw [h9, h15]; rfl
                    have hB : rwB pr s d xs fp fs fd ff ft = mB (mT xs 0) (mT xs 1) (((mN xs) % 65536) ||| ((ff * 65536) % 4294967296)) (mD xs) := by unfold rwB; rw [hG, show isT pr = false from h47, show isU pr = false from h72, h111]; rfl
                    show ∀ w_, _ → bodyPostM (fence none) 0 Try.prog Try.f18 _ Exit.ret _ w_
                    exact fun w_ hS_ => fin_ret (ret2 rfl (RV.cellN (b := p4) (o' := 0) (i := 1) (j := 0) (cs := [nV .u8 tt.toNat, nV .u8 pr.toNat, nV .u16 id, nV .u32 fs, nV .u32 fd, Value.slice g129.a ((mB (mT xs 0) (mT xs 1) (((mN xs) % 65536) ||| ((ff * 65536) % 4294967296)) (mD xs)).length) g129.cap]) (vs := [nV .u8 tt.toNat, nV .u8 pr.toNat, nV .u16 id, nV .u32 fs, nV .u32 fd, Value.slice g129.a ((mB (mT xs 0) (mT xs 1) (((mN xs) % 65536) ||| ((ff * 65536) % 4294967296)) (mD xs)).length) g129.cap]) (by kernel_rfl) Try.isAgg27 Try.sizeOf27 rfl rfl rfl rfl) (RV.tmp (v := Value.int .i64 0) (by kernel_rfl)) hS_ ⟨g129, (by rw [hB]; exact ok130), congrArg Ending.returned ((by rw [hB, hG, hX]; rfl)), (Mem.cast (by rw [hB]; rfl) (hS_.pick [0] (by decide) rfl))⟩)
        · have qh39 := h39; try simp only [Bool.and_eq_true, Bool.or_eq_true, Bool.not_eq_true', Bool.not_eq_false', Bool.and_eq_false_iff, Bool.or_eq_false_iff, decide_eq_true_eq, decide_eq_false_iff_not, beq_iff_eq, bne_iff_ne, beq_eq_false_iff_ne, bne_eq_false_iff_eq] at qh39
          (exfalso; simp at h39; exact hk h39.1)
      · have qh29 := h29; try simp only [Bool.and_eq_true, Bool.or_eq_true, Bool.not_eq_true', Bool.not_eq_false', Bool.and_eq_false_iff, Bool.or_eq_false_iff, decide_eq_true_eq, decide_eq_false_iff_not, beq_iff_eq, bne_iff_ne, beq_eq_false_iff_ne, bne_eq_false_iff_eq] at qh29
        (exfalso; simp at h29; exact hk h29.1)
theorem rwqn_c (tt pr : UInt8) (id s d : Nat) (xs : List UInt8) (a : Option Addr) (cap : Nat) (fp : UInt8) (fs fd ff ft : Nat) (len : Nat) (w : World) (hn : len = xs.length) (hk : ofK pr s d xs ≠ 3) (hfs : fs < 4294967296) (hfd : fd < 4294967296) (hff : ff < 65536) (hft : ft < 65536) (hat : At w a (byc xs)) (hi : id < 65536) (hs : s < 4294967296) (hd : d < 4294967296) (hl : xs.length ≤ 100000) (hlc : xs.length ≤ cap)  : Calls Try.prog 18 #[Value.agg ([Value.int .u8 ((tt.toNat : Nat) : Int), Value.int .u8 ((pr.toNat : Nat) : Int), Value.int .u16 ((id : Nat) : Int), Value.int .u32 ((s : Nat) : Int), Value.int .u32 ((d : Nat) : Int), Value.slice a len cap]).toArray, Value.agg ([Value.int .u8 ((fp.toNat : Nat) : Int), Value.int .u32 ((fs : Nat) : Int), Value.int .u32 ((fd : Nat) : Int), Value.int .u16 ((ff : Nat) : Int), Value.int .u16 ((ft : Nat) : Int)]).toArray] w (RetM w (fun g : FS => g.ok 1 (rwB pr s d xs fp fs fd ff ft).length) (fun g => .tuple #[.agg ([Value.int .u8 (((anU (rwG pr s d xs fp) tt).toNat : Nat) : Int), Value.int .u8 (((anU (rwG pr s d xs fp) pr).toNat : Nat) : Int), Value.int .u16 ((anN (rwG pr s d xs fp) id : Nat) : Int), Value.int .u32 ((anN (rwG pr s d xs fp) fs : Nat) : Int), Value.int .u32 ((anN (rwG pr s d xs fp) fd : Nat) : Int), Value.slice g.a ((rwB pr s d xs fp fs fd ff ft).length) g.cap]).toArray, .int .i64 (rwX pr s d xs fp)]) [] (fun g => [g.seg 5 (byc (rwB pr s d xs fp fs fd ff ft))])) := by
  subst hn; exact rwq_c tt pr id s d xs a cap fp fs fd ff ft w hk hfs hfd hff hft hat hi hs hd hl hlc
theorem rwqy_c (tt pr : UInt8) (id s d : Nat) (xs : List UInt8) (a : Option Addr) (cap : Nat) (fp : UInt8) (fs fd ff ft : Nat) (len : Nat) (w : World) (Y : List UInt8) (hE : ofE pr s d xs = 0) (hP : ofP pr s d xs = fp) (hY : rwB pr s d xs fp fs fd ff ft = Y) (hn : len = xs.length) (hk : ofK pr s d xs ≠ 3) (hfs : fs < 4294967296) (hfd : fd < 4294967296) (hff : ff < 65536) (hft : ft < 65536) (hat : At w a (byc xs)) (hi : id < 65536) (hs : s < 4294967296) (hd : d < 4294967296) (hl : xs.length ≤ 100000) (hlc : xs.length ≤ cap)  : Calls Try.prog 18 #[Value.agg ([Value.int .u8 ((tt.toNat : Nat) : Int), Value.int .u8 ((pr.toNat : Nat) : Int), Value.int .u16 ((id : Nat) : Int), Value.int .u32 ((s : Nat) : Int), Value.int .u32 ((d : Nat) : Int), Value.slice a len cap]).toArray, Value.agg ([Value.int .u8 ((fp.toNat : Nat) : Int), Value.int .u32 ((fs : Nat) : Int), Value.int .u32 ((fd : Nat) : Int), Value.int .u16 ((ff : Nat) : Int), Value.int .u16 ((ft : Nat) : Int)]).toArray] w (RetM w (fun g : FS => g.ok 1 Y.length) (fun g => .tuple #[.agg ([Value.int .u8 ((tt.toNat : Nat) : Int), Value.int .u8 ((pr.toNat : Nat) : Int), Value.int .u16 ((id : Nat) : Int), Value.int .u32 ((fs : Nat) : Int), Value.int .u32 ((fd : Nat) : Int), Value.slice g.a Y.length g.cap]).toArray, .int .i64 0]) [] (fun g => [g.seg 5 (byc Y)])) := by
  have h := rwqn_c tt pr id s d xs a cap fp fs fd ff ft len w hn hk hfs hfd hff hft hat hi hs hd hl hlc
  obtain ⟨hG, hX⟩ := rwG_of hE hP
  rw [hG, hX, hY] at h
  exact h
end Go.Proofs.Ytejeafjkhomdoaa.Oct
