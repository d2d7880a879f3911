import Derived.Test.YtejeafjkhomdoaaKFl5
import Derived.Test.YtejeafjkhomdoaaKTr11
set_option linter.unusedVariables false
set_option linter.unusedSimpArgs false
set_option maxRecDepth 20000
namespace Go.Proofs.Ytejeafjkhomdoaa.Oct
open Go.RowKit Base
attribute [local irreducible] Ys Yc Ht HtS HtIn Wl Wd W Mem pf dpf Wa Wo
structure Told (pr : UInt8) (s d : Nat) (xs Z : List UInt8) : Prop where
  c : inC Z = false
  p : Z.getD 9 0 = pr
  s : a4 Z 12 = s
  d : a4 Z 16 = d
  f : w2 Z 20 = w2 xs 0
  t : w2 Z 22 = w2 xs 2
  k : Z.getD 20 0 = xs.getD 0 0
  o : Z.getD 21 0 = xs.getD 1 0
  i : w2 Z 24 = w2 xs 4
theorem mg_of {xs : List UInt8} (h : mR xs = 0) : mg xs = true ∧ 8 ≤ xs.length := by
  refine ⟨by unfold mg; rw [h]; rfl, ?_⟩
  by_cases hl : xs.length < 8
  · unfold mR at h; rw [if_pos hl] at h; cases h
  · omega
theorem mT_of {xs : List UInt8} (h : mR xs = 0) (k : Nat) : mT xs k = xs.getD k 0 := by unfold mT; rw [(mg_of h).1]; rfl
inductive Goes (pr : UInt8) (s d : Nat) (xs : List UInt8) : Prop
  | tcp (h6 : pr = 6) (hR : tR s d xs = 0) (h8 : 20 ≤ xs.length)
  | udp (h17 : pr = 17) (hR : uR s d xs = 0) (h8 : 8 ≤ xs.length)
  | query (h1 : pr = 1) (hR : mR xs = 0) (hQ : ecO (xs.getD 0 0) (xs.getD 1 0) = true) (hm : msQ xs = true) (h8 : 8 ≤ xs.length)
  | err (h1 : pr = 1) (hR : mR xs = 0) (hE : msR xs = true) (hm : msQ xs = false) (h8 : 8 ≤ xs.length)
theorem goes_of {pr : UInt8} {s d : Nat} {xs : List UInt8} (h : ofE pr s d xs = 0) : Goes pr s d xs := by
  unfold ofE at h
  cases h6 : isT pr
  · cases h17 : isU pr
    · cases h1 : isI pr
      · rw [h6, h17, h1] at h; cases h
      · have e1 : pr = 1 := UInt8.toNat_inj.1 (by have z_ : (((pr.toNat : Nat) : Int) == 1) = true := h1; have y_ := beq_iff_eq.1 z_; show pr.toNat = 1; omega)
        rw [h6, h17, h1] at h
        have h : msE xs = 0 := h
        have hz : mR xs = 0 := by
          unfold msE at h; by_cases hz : mR xs = 0
          · exact hz
          · rw [show (mR xs == 0) = false from beq_eq_false_iff_ne.2 hz] at h; exact h
        have hq := mg_of hz
        cases hm : msQ xs
        · cases hr : msR xs
          · unfold msE at h; rw [hz, hm, hr] at h; cases h
          · exact .err e1 hz hr hm hq.2
        · refine .query e1 hz ?_ hm hq.2
          unfold msQ at hm; rw [hz, mT_of hz, mT_of hz] at hm; simpa using hm
    · rw [h6, h17] at h
      refine .udp (UInt8.toNat_inj.1 (by have z_ : (((pr.toNat : Nat) : Int) == 17) = true := h17; have y_ := beq_iff_eq.1 z_; show pr.toNat = 17; omega)) h ?_
      by_cases hl : xs.length < 8
      · simp only [cond_true, cond_false] at h; unfold uR at h; rw [if_pos hl] at h; cases h
      · omega
  · rw [h6] at h
    refine .tcp (UInt8.toNat_inj.1 (by have z_ : (((pr.toNat : Nat) : Int) == 6) = true := h6; have y_ := beq_iff_eq.1 z_; show pr.toNat = 6; omega)) h ?_
    by_cases hl : xs.length < 20
    · simp only [cond_true, cond_false] at h; unfold tR at h; rw [if_pos hl] at h; cases h
    · omega
theorem ofZ_of {pr : UInt8} {s d : Nat} {xs : List UInt8} (h : ofE pr s d xs = 0) : ofZ pr s d xs = true := by unfold ofZ; rw [h]; rfl
theorem err_flow {own to : Nat} {ki co : UInt8} {Y Z : List UInt8} (z1 : mR Y = 0) (z2 : mT Y 0 = ki) (z3 : mT Y 1 = co) (z5 : mD Y = Z) (hk : isEr ki = true) (hO : inO Z = true) :
    ofE 1 own to Y = 0 ∧ ofK 1 own to Y = 3 ∧ ofP 1 own to Y = inP Z ∧ ofS 1 own to Y = inA Z 16 ∧ ofD 1 own to Y = inA Z 12 ∧ ofF 1 own to Y = inT Z ∧ ofT 1 own to Y = inF Z := by
  have hq : ecO ki co = false := by
    unfold isEr eqk at hk; unfold ecO
    simp only [Bool.or_eq_true, beq_iff_eq] at hk
    have e8 : (((ki.toNat : Nat) : Int) == 8) = false := beq_eq_false_iff_ne.2 ma1
    have e0 : (((ki.toNat : Nat) : Int) == 0) = false := beq_eq_false_iff_ne.2 ma1
    rw [e8, e0]; simp
  have hQ : msQ Y = false := by unfold msQ; rw [z1, z2, z3, hq]; rfl
  have hR : msR Y = true := by unfold msR; rw [z1, z2, z3, z5, hq, hk, hO]; rfl
  have hE : ofE 1 own to Y = 0 := by show msE Y = 0; unfold msE; rw [z1, hQ, hR]; rfl
  have hZ := ofZ_of hE
  refine ⟨hE, ?_, ?_, ?_, ?_, ?_, ?_⟩
  · unfold ofK; rw [hZ]; show msK Y = 3; unfold msK; rw [hQ, hR]; rfl
  · unfold ofP; rw [hZ]; show msP 1 Y = _; unfold msP; rw [hR, z5]; rfl
  · unfold ofS; rw [hZ]; show msS own 16 Y = _; unfold msS; rw [hR, z5]; rfl
  · unfold ofD; rw [hZ]; show msS to 12 Y = _; unfold msS; rw [hR, z5]; rfl
  · unfold ofF; rw [hZ]; show msF 0 Y = _; unfold msF; rw [hR, z5]; rfl
  · unfold ofT; rw [hZ]; show msT 0 Y = _; unfold msT; rw [hR, z5]; rfl
theorem Goes.le {pr : UInt8} {s d : Nat} {xs : List UInt8} (h : Goes pr s d xs) : 8 ≤ xs.length := by cases h <;> omega
theorem tF_lt8 (s d : Nat) (xs : List UInt8) (k : Nat) : tF s d xs k < 65536 := by
  unfold tF; cases tg s d xs
  · show (0 : Nat) < _; decide
  · exact w2_lt xs k
theorem tW_lt8 (s d : Nat) (xs : List UInt8) (k : Nat) : tW s d xs k < 4294967296 := by
  unfold tW; cases tg s d xs
  · show (0 : Nat) < _; decide
  · exact bv4_lt' xs k
theorem tE_read (s d : Nat) (xs : List UInt8) : tE (tO s d xs).length (tD s d xs).length = 0 := by
  cases hg : tg s d xs
  · unfold tO tD; rw [hg]; rfl
  · have hR : tR s d xs = 0 := by unfold tg at hg; simpa using hg
    unfold tR at hR
    split at hR
    · cases hR
    · split at hR
      · cases hR
      · split at hR
        · cases hR
        · rename_i h1 h2 h3
          have hb := UInt8.toNat_lt (xs.getD 12 0)
          have hK : tK xs = 4 * ((xs.getD 12 0).toNat / 16) := rfl
          have ho : (tO s d xs).length = tK xs - 20 := by unfold tO; rw [hg]; simp only [cond_true, List.length_take, List.length_drop]; omega
          have hd : (tD s d xs).length = xs.length - tK xs := by unfold tD; rw [hg]; simp only [cond_true, List.length_drop]
          rw [ho, hd]; unfold tE; rw [if_neg ma1, if_neg ma1]
theorem uE_read (s d : Nat) (xs : List UInt8) : uE (uD s d xs).length = 0 := by
  cases hg : ug s d xs
  · unfold uD; rw [hg]; rfl
  · have hR : uR s d xs = 0 := by unfold ug at hg; simpa using hg
    unfold uR at hR
    split at hR
    · cases hR
    · split at hR
      · cases hR
      · have : (uD s d xs).length ≤ xs.length - 8 := by unfold uD; rw [hg]; simp only [cond_true, List.length_take, List.length_drop]; omega
        unfold uE; rw [if_neg ma1]
theorem mE_read (xs : List UInt8) : uE (mD xs).length = 0 := by
  cases hg : mg xs
  · unfold mD; rw [hg]; rfl
  · have hR : mR xs = 0 := by unfold mg at hg; simpa using hg
    unfold mR at hR
    split at hR
    · cases hR
    · split at hR
      · cases hR
      · have : (mD xs).length = xs.length - 8 := by unfold mD; rw [hg]; simp only [cond_true, List.length_drop]
        unfold uE; rw [if_neg ma1]
theorem tO_le8 (s d : Nat) (xs : List UInt8) : (tO s d xs).length ≤ xs.length := by
  unfold tO; cases tg s d xs
  · simp
  · simp only [cond_true, List.length_take, List.length_drop]; omega
theorem tD_le8 (s d : Nat) (xs : List UInt8) : (tD s d xs).length ≤ xs.length := by
  unfold tD; cases tg s d xs
  · simp
  · simp only [cond_true, List.length_drop]; omega
theorem uD_le8 (s d : Nat) (xs : List UInt8) : (uD s d xs).length ≤ xs.length := by
  unfold uD; cases ug s d xs
  · simp
  · simp only [cond_true, List.length_take, List.length_drop]; omega
def rwG (pr : UInt8) (s d : Nat) (xs : List UInt8) (fp : UInt8) : Bool := !(ofE pr s d xs != 0) && !(((fp.toNat : Nat) : Int) != ((ofP pr s d xs).toNat : Int))
def rwX (pr : UInt8) (s d : Nat) (xs : List UInt8) (fp : UInt8) : Int := bif ofE pr s d xs != 0 then ofE pr s d xs else bif (fp.toNat : Int) != ((ofP pr s d xs).toNat : Int) then 1 else 0
def rId (n i : Nat) : Nat := n % 65536 ||| i * 65536 % 4294967296
def rwB (pr : UInt8) (s d : Nat) (xs : List UInt8) (fp : UInt8) (fs fd ff ft : Nat) : List UInt8 :=
  bif rwG pr s d xs fp then (bif isT pr then tB fs fd ff ft (tW s d xs 4) (tW s d xs 8) (tL s d xs) (tF s d xs 14) (tF s d xs 18) (tO s d xs) (tD s d xs) else
    bif isU pr then uB fs fd ff ft (uP s d xs) (uD s d xs) else mB (mT xs 0) (mT xs 1) (rId (mN xs) (bif !(ecA (mT xs 0)) then ft else ff)) (mD xs)) else []
theorem rwB_le (pr : UInt8) (s d : Nat) (xs : List UInt8) (fp : UInt8) (fs fd ff ft : Nat) : (rwB pr s d xs fp fs fd ff ft).length ≤ 1480 := by
  unfold rwB
  cases rwG pr s d xs fp
  · simp
  · cases isT pr
    · cases isU pr
      · exact mB_le ..
      · exact uB_le ..
    · exact tB_le ..
theorem rId_lt (n i : Nat) : rId n i < 4294967296 := Nat.or_lt_two_pow (n := 32) ma1 ma1
theorem uF_lt8 (s d : Nat) (xs : List UInt8) (k : Nat) : uF s d xs k < 65536 := by
  unfold uF; cases ug s d xs
  · show (0 : Nat) < _; decide
  · exact w2_lt xs k
theorem msI_lt (xs : List UInt8) : msI xs < 65536 := by unfold msI; omega
theorem ofF_lt (pr : UInt8) (s d : Nat) (xs : List UInt8) : ofF pr s d xs < 65536 := by
  unfold ofF msF
  have h1 := tF_lt8 s d xs 0; have h2 := uF_lt8 s d xs 0; have h3 := inT_lt (mD xs); have h4 := msI_lt xs
  cases ofZ pr s d xs <;> cases isT pr <;> cases isU pr <;> cases msR xs <;> cases msQ xs <;> simp only [cond_true, cond_false] <;> first | omega | exact sel_lt ma1 ma1
theorem ofT_lt (pr : UInt8) (s d : Nat) (xs : List UInt8) : ofT pr s d xs < 65536 := by
  unfold ofT msT
  have h1 := tF_lt8 s d xs 2; have h2 := uF_lt8 s d xs 2; have h3 := inF_lt (mD xs); have h4 := msI_lt xs
  cases ofZ pr s d xs <;> cases isT pr <;> cases isU pr <;> cases msR xs <;> cases msQ xs <;> simp only [cond_true, cond_false] <;> first | omega | exact sel_lt ma1 ma1
theorem ofS_lt {pr : UInt8} {s d : Nat} {xs : List UInt8} (hs : s < 4294967296) : ofS pr s d xs < 4294967296 := by
  unfold ofS msS
  have h3 := inA_lt (mD xs) 16
  cases ofZ pr s d xs <;> cases isT pr <;> cases isU pr <;> cases msR xs <;> simp only [cond_true, cond_false] <;> omega
theorem ofD_lt {pr : UInt8} {s d : Nat} {xs : List UInt8} (hd : d < 4294967296) : ofD pr s d xs < 4294967296 := by
  unfold ofD msS
  have h3 := inA_lt (mD xs) 12
  cases ofZ pr s d xs <;> cases isT pr <;> cases isU pr <;> cases msR xs <;> simp only [cond_true, cond_false] <;> omega
theorem rId_add (n i : Nat) : rId n i = n % 65536 + i % 65536 * 65536 := by
  unfold rId
  rw [show i * 65536 % 4294967296 = 2 ^ 16 * (i % 65536) by omega, Nat.or_comm, ← Nat.two_pow_add_eq_or_of_lt (show n % 65536 < 2 ^ 16 by omega)]
  omega
theorem udp_back {s d fr to : Nat} {pl : Bool} {xs : List UInt8} (hf : fr < 65536) (ht : to < 65536) (h1 : uE xs.length = 0) :
    ∃ Y, Y = uB s d fr to pl xs ∧ uR s d Y = 0 ∧ uF s d Y 0 = fr ∧ uF s d Y 2 = to ∧ uP s d Y = pl ∧ uD s d Y = xs := by
  have h := td_back (s := s) (d := d) (pl := pl) (xs := xs) (ys := []) hf ht h1 (by have := uB_le s d fr to pl xs; simp only [List.length_nil]; omega)
  rw [List.append_nil] at h
  simp only [Bool.and_eq_true, beq_iff_eq] at h
  obtain ⟨a, ⟨⟨b, c⟩, e⟩, f⟩ := h
  exact ⟨_, rfl, a, by omega, by omega, e, f⟩
theorem rwG_of {pr : UInt8} {s d : Nat} {xs : List UInt8} {fp : UInt8} (hE : ofE pr s d xs = 0) (hP : ofP pr s d xs = fp) : rwG pr s d xs fp = true ∧ rwX pr s d xs fp = 0 := by
  constructor
  · unfold rwG; rw [hE, hP]; simp
  · unfold rwX; rw [hE, hP]; simp
structure Ends (pr : UInt8) (s d : Nat) (xs : List UInt8) (k : Int) (fr to : Nat) : Prop where
  ee : ofE pr s d xs = 0
  ek : ofK pr s d xs = k
  ep : ofP pr s d xs = pr
  es : ofS pr s d xs = s
  ed : ofD pr s d xs = d
  ef : ofF pr s d xs = fr
  et : ofT pr s d xs = to
theorem Ends.tcp {s d fr to : Nat} {xs : List UInt8} (hR : tR s d xs = 0) (hf : tF s d xs 0 = fr) (ht : tF s d xs 2 = to) : Ends 6 s d xs 1 fr to := by
  have hE : ofE 6 s d xs = 0 := hR
  have hZ := ofZ_of hE
  exact ⟨hE, by unfold ofK; rw [hZ]; rfl, by unfold ofP; rw [hZ]; rfl, by unfold ofS; rw [hZ]; rfl, by unfold ofD; rw [hZ]; rfl, by unfold ofF; rw [hZ]; exact hf, by unfold ofT; rw [hZ]; exact ht⟩
theorem Ends.udp {s d fr to : Nat} {xs : List UInt8} (hR : uR s d xs = 0) (hf : uF s d xs 0 = fr) (ht : uF s d xs 2 = to) : Ends 17 s d xs 1 fr to := by
  have hE : ofE 17 s d xs = 0 := hR
  have hZ := ofZ_of hE
  exact ⟨hE, by unfold ofK; rw [hZ]; rfl, by unfold ofP; rw [hZ]; rfl, by unfold ofS; rw [hZ]; rfl, by unfold ofD; rw [hZ]; rfl, by unfold ofF; rw [hZ]; exact hf, by unfold ofT; rw [hZ]; exact ht⟩
theorem Ends.query {s d : Nat} {xs : List UInt8} (hR : mR xs = 0) (hq : ecO (mT xs 0) (mT xs 1) = true) : Ends 1 s d xs 2 (sel (ecA (mT xs 0)) (msI xs) 0) (sel (ecA (mT xs 0)) 0 (msI xs)) := by
  have hQ : msQ xs = true := by unfold msQ; rw [hR, hq]; rfl
  have hr : msR xs = false := by unfold msR; rw [hR, hq]; rfl
  have hE : ofE 1 s d xs = 0 := by show msE xs = 0; unfold msE; rw [hR, hQ]; rfl
  have hZ := ofZ_of hE
  refine ⟨hE, ?_, ?_, ?_, ?_, ?_, ?_⟩
  · unfold ofK; rw [hZ]; show msK xs = 2; unfold msK; rw [hQ]; rfl
  · unfold ofP; rw [hZ]; show msP 1 xs = _; unfold msP; rw [hr]; rfl
  · unfold ofS; rw [hZ]; show msS s 16 xs = _; unfold msS; rw [hr]; rfl
  · unfold ofD; rw [hZ]; show msS d 12 xs = _; unfold msS; rw [hr]; rfl
  · unfold ofF; rw [hZ]; show msF 0 xs = _; unfold msF; rw [hr, hQ]; rfl
  · unfold ofT; rw [hZ]; show msT 0 xs = _; unfold msT; rw [hr, hQ]; rfl
theorem rwB_of {pr : UInt8} {s d : Nat} {xs : List UInt8} {fp : UInt8} {fs fd ff ft : Nat} (hG : rwG pr s d xs fp = true) : rwB pr s d xs fp fs fd ff ft =
    (bif isT pr then tB fs fd ff ft (tW s d xs 4) (tW s d xs 8) (tL s d xs) (tF s d xs 14) (tF s d xs 18) (tO s d xs) (tD s d xs) else
    bif isU pr then uB fs fd ff ft (uP s d xs) (uD s d xs) else mB (mT xs 0) (mT xs 1) (rId (mN xs) (bif !(ecA (mT xs 0)) then ft else ff)) (mD xs)) := by unfold rwB; rw [hG]; rfl
abbrev cFl8_1472_0 (p4 : Nat) : List Blk := [cb p4 zl2 27]
abbrev cFl8_1472_1 (a : Option Addr) (cap fd fs id p2 : Nat) (pr tt : UInt8) (xs : List UInt8) : List Blk := [cb p2 [nV .u8 tt.toNat, nV .u8 pr.toNat, nV .u16 id, nV .u32 fs, nV .u32 fd, Value.slice a xs.length cap] 27]
abbrev cFl8_1472_2 (fd ff fs ft p3 : Nat) (fp : UInt8) : List Blk := [cb p3 [nV .u8 fp.toNat, nV .u32 fs, nV .u32 fd, nV .u16 ff, nV .u16 ft] 30]
abbrev cFl8_1472_3 (d p6 s : Nat) (pr : UInt8) (xs : List UInt8) : List Blk := [cb p6 [nV .u8 ((ofP pr s d xs).toNat), nV .u32 (ofS pr s d xs), nV .u32 (ofD pr s d xs), nV .u16 (ofF pr s d xs), nV .u16 (ofT pr s d xs)] 30]
abbrev cFl8_1472_4 (ft p16 : Nat) (g77 : FS) (xs : List UInt8) : List Blk := [cb p16 [nV .u8 ((mT xs 0).toNat), nV .u8 ((mT xs 1).toNat), nV .u32 (((mN xs) % 65536) ||| ((ft * 65536) % 4294967296)), sV g77 ((mD xs).length)] 65]
abbrev cFl8_1472_5 (ff p16 : Nat) (g77 : FS) (xs : List UInt8) : List Blk := [cb p16 [nV .u8 ((mT xs 0).toNat), nV .u8 ((mT xs 1).toNat), nV .u32 (((mN xs) % 65536) ||| ((ff * 65536) % 4294967296)), sV g77 ((mD xs).length)] 65]
abbrev cFl8_1472_6 (d fd ff fs ft id p2 s : Nat) (g47 : FS) (pr tt : UInt8) (xs : List UInt8) : List Blk := [cb p2 [nV .u8 tt.toNat, nV .u8 pr.toNat, nV .u16 id, nV .u32 fs, nV .u32 fd, sV g47 ((tB fs fd ff ft (tW s d xs 4) (tW s d xs 8) (tL s d xs) (tF s d xs 14) (tF s d xs 18) (tO s d xs) (tD s d xs)).length)] 27]
abbrev cFl8_1472_7 (fd ff fs id p2 : Nat) (g104 : FS) (pr tt : UInt8) (xs : List UInt8) : List Blk := [cb p2 [nV .u8 tt.toNat, nV .u8 pr.toNat, nV .u16 id, nV .u32 fs, nV .u32 fd, sV g104 ((mB (mT xs 0) (mT xs 1) (((mN xs) % 65536) ||| ((ff * 65536) % 4294967296)) (mD xs)).length)] 27]
abbrev cFl8_1472_8 (fd fs ft id p2 : Nat) (g93 : FS) (pr tt : UInt8) (xs : List UInt8) : List Blk := [cb p2 [nV .u8 tt.toNat, nV .u8 pr.toNat, nV .u16 id, nV .u32 fs, nV .u32 fd, sV g93 ((mB (mT xs 0) (mT xs 1) (((mN xs) % 65536) ||| ((ft * 65536) % 4294967296)) (mD xs)).length)] 27]
theorem rwq_c (tt pr : UInt8) (id s d : Nat) (xs : List UInt8) (a : Option Addr) (cap : Nat) (fp : UInt8) (fs fd ff ft : Nat) (w : World) (hk : ofK pr s d xs ≠ 3) (hfs : fs < 4294967296) (hfd : fd < 4294967296) (hff : ff < 65536) (hft : ft < 65536) (hat : At w a (byc xs)) (hi : id < 65536) (hs : s < 4294967296) (hd : d < 4294967296) (hl : xs.length ≤ 100000) (hlc : xs.length ≤ cap) : Calls Try.prog 18 #[aV [nV .u8 tt.toNat, nV .u8 pr.toNat, nV .u16 id, nV .u32 s, nV .u32 d, Value.slice a xs.length cap], aV [nV .u8 fp.toNat, nV .u32 fs, nV .u32 fd, nV .u16 ff, nV .u16 ft]] w (RetM w (fun g : FS => g.ok 1 (rwB pr s d xs fp fs fd ff ft).length) (fun g => .tuple #[.agg ([nV .u8 ((anU (rwG pr s d xs fp) tt).toNat), nV .u8 ((anU (rwG pr s d xs fp) pr).toNat), nV .u16 (anN (rwG pr s d xs fp) id), nV .u32 (anN (rwG pr s d xs fp) fs), nV .u32 (anN (rwG pr s d xs fp) fd), sV g ((rwB pr s d xs fp fs fd ff ft).length)]).toArray, .int .i64 (rwX pr s d xs fp)]) [] (fun g => [g.seg 5 (byc (rwB pr s d xs fp fs fd ff ft))])) := by
 have hmn_ := mN_lt xs; have hml_ := mD_le xs; have ht14_ := tF_lt8 s d xs 14; have ht18_ := tF_lt8 s d xs 18; have ht4_ := tW_lt8 s d xs 4; have ht8_ := tW_lt8 s d xs 8; have htO_ := tO_le8 s d xs; have htD_ := tD_le8 s d xs; have huD_ := uD_le8 s d xs
 refine calls_W (M := []) (LL := []) (n := 167) Try.func18 rfl rfl ma12 (Mem.refl _) (W.seq (fun K1 hK1 => ?_))
 refine W.region (Wl.ht rfl (Ht.box (v := aV [nV .u8 tt.toNat, nV .u8 pr.toNat, nV .u16 id, nV .u32 s, nV .u32 d, Value.slice a xs.length cap]) (cs := [nV .u8 tt.toNat, nV .u8 pr.toNat, nV .u16 id, nV .u32 s, nV .u32 d, Value.slice a xs.length cap]) rfl rfl ma0 rfl) (fun p2 => ?_))
 refine Wl.ht rfl (Ht.box (v := aV [nV .u8 fp.toNat, nV .u32 fs, nV .u32 fd, nV .u16 ff, nV .u16 ft]) (cs := [nV .u8 fp.toNat, nV .u32 fs, nV .u32 fd, nV .u16 ff, nV .u16 ft]) rfl rfl ma0 rfl) (fun p3 => Wl.ht rfl (Ht.alloc (z := aV zl2) (cs := zl2) rfl rfl Try.zeroValue27 rfl) (fun p4 => ?_))
 refine Wl.run 1 ma0 (Wl.nil (hK1 _ _ _ (W.seq (fun K2 hK2 => W.region ?_))))
 refine Wl.ys rfl rfl (Ys.loadN (b := p2) (o' := 0) (i := 2) (j := 0) (vs := [nV .u8 tt.toNat, nV .u8 pr.toNat, nV .u16 id, nV .u32 s, nV .u32 d, Value.slice a xs.length cap]) rfl ma0 Try.isAgg27 Try.sizeOf27 rfl rfl rfl rfl) (Wl.yc (v := Value.tuple #[aV [nV .u8 ((ofP pr s d xs).toNat), nV .u32 (ofS pr s d xs), nV .u32 (ofD pr s d xs), nV .u16 (ofF pr s d xs), nV .u16 (ofT pr s d xs)], iV .i64 (ofK pr s d xs), iV .i64 (ofE pr s d xs)]) rfl rfl (Yc.call (fun _ => kr) (fun w_ hm_ => (ofn_c tt pr id s d xs a cap xs.length _ ma5 (hat.mem0 hm_) ma18 ma18 ma18 ma4 ma4))) (Wl.run 4 ma0 (Wl.ht rfl (Ht.alloc (z := aV zl0) (cs := zl0) rfl rfl Try.zeroValue30 rfl) (fun p6 => Wl.ht rfl (Ht.storeN (b := p6) (o' := 0) (i := 0) (j := 0) (vs := [nV .u8 ((ofP pr s d xs).toNat), nV .u32 (ofS pr s d xs), nV .u32 (ofD pr s d xs), nV .u16 (ofF pr s d xs), nV .u16 (ofT pr s d xs)]) (LL' := [cFl8_1472_3 d p6 s pr xs, cFl8_1472_0 p4, cFl8_1472_2 fd ff fs ft p3 fp, [cb p2 [nV .u8 tt.toNat, nV .u8 pr.toNat, nV .u16 id, nV .u32 s, nV .u32 d, Value.slice a xs.length cap] 27]]) rfl rfl ma0 ma0 Try.sizeOf30 ma9 rfl rfl ma12 rfl rfl) (fun _ => ?_)))))
 refine Wl.run 2 ma0 (Wl.nil (hK2 _ _ _ (W.seq (fun K3 hK3 => W.block ?_))))
 refine W.seq (fun K4 hK4 => W.region (Wl.run 3 ma0 (Wl.nil (hK4 _ _ _ ?_))))
 refine W.prune' [2, 3, 4, 6, 7, 8, 27] [pV p2 0, pV p3 0, pV p4 0, pV p6 0, iV .i64 (ofK pr s d xs), iV .i64 (ofE pr s d xs), bV ((ofE pr s d xs) != 0)] ma0 (fun f5 => ?_)
 refine W.cond ((ofE pr s d xs) != 0) ma0 (fun h6 => ?_) (fun h7 => ?_)
 ·have qh6 := h6; try simp only [zA] at qh6
  refine W.seq (fun K8 hK8 => W.region (Wl.run 2 ma0 (Wl.ht rfl (Ht.storeN (b := p4) (o' := 0) (i := 1) (j := 0) (vs := zl2) (LL' := [cFl8_1472_3 d p6 s pr xs, cFl8_1472_0 p4, cFl8_1472_2 fd ff fs ft p3 fp, [cb p2 [nV .u8 tt.toNat, nV .u8 pr.toNat, nV .u16 id, nV .u32 s, nV .u32 d, Value.slice a xs.length cap] 27]]) rfl rfl ma0 ma0 Try.sizeOf27 ma9 rfl rfl ma12 rfl rfl) (fun _ => Wl.run 1 ma0 ?_))))
  refine Wl.nil (hK8 _ _ _ (W.ret ?_))
  have hG : rwG pr s d xs fp = false := by unfold rwG; rw [h6]; rfl
  have hX : rwX pr s d xs fp = ofE pr s d xs := by unfold rwX; rw [h6]; rfl
  have hB : rwB pr s d xs fp fs fd ff ft = [] := by unfold rwB; rw [hG]; rfl
  show ∀ w_, _ → bodyPostM (fence none) 0 Try.prog Try.f18 _ Exit.ret _ w_
  exact fun w_ hS_ => fin_ret (ret2 rfl (RV.cellN (b := p4) (o' := 0) (i := 1) (j := 0) (cs := zl2) (vs := zl2) ma0 Try.isAgg27 Try.sizeOf27 rfl rfl rfl rfl) (RV.tmp (v := iV .i64 (ofE pr s d xs)) ma0) hS_ ⟨FS.nul, (by rw [hB]; exact FS.nul_ok 1), congrArg Ending.returned ((by rw [hB, hG, hX]; rfl)), (Mem.cast (by rw [hB]; rfl) (Mem.push (hS_.pick [] ma3 rfl)))⟩)
 ·have qh7 := h7; try simp only [zA] at qh7
  refine W.seq (fun K9 hK9 => W.region (Wl.run 1 ma0 (Wl.ys rfl rfl (Ys.l1 p3 0 2 0 Try.isAgg5) (Wl.run 1 ma0 ?_))))
  refine Wl.ys rfl rfl (Ys.l1 p6 0 0 0 Try.isAgg5) (Wl.run 2 ma0 (Wl.nil (hK9 _ _ _ ?_)))
  refine W.cond (((fp.toNat : Nat) : Int) != ((ofP pr s d xs).toNat : Int)) ma0 (fun h10 => ?_) (fun h11 => ?_)
  ·have qh10 := h10; try simp only [zA] at qh10
   refine W.seq (fun K12 hK12 => W.region (Wl.run 1 ma0 (Wl.ht rfl (Ht.storeN (b := p4) (o' := 0) (i := 1) (j := 0) (vs := zl2) (LL' := [cFl8_1472_3 d p6 s pr xs, cFl8_1472_0 p4, cFl8_1472_2 fd ff fs ft p3 fp, [cb p2 [nV .u8 tt.toNat, nV .u8 pr.toNat, nV .u16 id, nV .u32 s, nV .u32 d, Value.slice a xs.length cap] 27]]) rfl rfl ma0 ma0 Try.sizeOf27 ma9 rfl rfl ma12 rfl rfl) (fun _ => Wl.run 1 ma0 ?_))))
   refine Wl.nil (hK12 _ _ _ (W.pick (LL' := [cFl8_1472_0 p4]) [1] ma3 rfl (W.prune' [4, 5] [pV p4 0, iV .i64 1] ma0 (fun f13 => W.ret ?_))))
   have hG : rwG pr s d xs fp = false := by unfold rwG; rw [h7, h10]; rfl
   have hX : rwX pr s d xs fp = 1 := by unfold rwX; rw [h7, h10]; rfl
   have hB : rwB pr s d xs fp fs fd ff ft = [] := by unfold rwB; rw [hG]; rfl
   show ∀ w_, _ → bodyPostM (fence none) 0 Try.prog Try.f18 _ Exit.ret _ w_
   exact fun w_ hS_ => fin_ret (ret2 rfl (RV.cellN (b := p4) (o' := 0) (i := 0) (j := 0) (cs := zl2) (vs := zl2) ma0 Try.isAgg27 Try.sizeOf27 rfl rfl rfl rfl) (RV.tmp (v := iV .i64 1) ma0) hS_ ⟨FS.nul, (by rw [hB]; exact FS.nul_ok 1), congrArg Ending.returned ((by rw [hB, hG, hX]; rfl)), (Mem.cast (by rw [hB]; rfl) (Mem.push (hS_.pick [] ma3 rfl)))⟩)
  ·have qh11 := h11; try simp only [zA] at qh11
   refine W.skip' (hK3 _ _ _ (W.seq (fun K14 hK14 => W.draws [(0, true), (1, true), (2, true), (3, true), (4, true), (5, true), (6, false), (7, false), (8, false)] [0, 1, 2, 3, 4, 5] (Mem w [] [cFl8_1472_3 d p6 s pr xs, cFl8_1472_0 p4, cFl8_1472_2 fd ff fs ft p3 fp, [cb p2 [nV .u8 tt.toNat, nV .u8 pr.toNat, nV .u16 id, nV .u32 s, nV .u32 d, Value.slice a xs.length cap] 27]]) ma0 ma0 ma0 rfl ma0 (fun _ _ h_ => h_.drawn _) (fun _ h_ => h_) (Wd.run 1 ma0 ?_))))
   refine Wd.ys rfl rfl rfl (Ys.l1 p2 3 3 0 Try.isAgg24) (Wd.run 1 ma0 (Wd.ys rfl rfl rfl (Ys.l1 p2 4 3 0 Try.isAgg24) (Wd.run 1 ma0 (Wd.ys rfl rfl rfl (Ys.l1 p2 5 3 0 Try.isAgg25) ?_))))
   refine Wd.yc (v := nV .u32 s) rfl rfl rfl (Ys.yc (Ys.pure (fun _ => kr))) (.inr fun _ h_ => h_) (Wd.yc (v := nV .u32 d) rfl rfl rfl (Ys.yc (Ys.pure (fun _ => kr))) (.inr fun _ h_ => h_) (Wd.yc (v := Value.slice a xs.length cap) rfl rfl rfl (Ys.yc (Ys.pure (fun _ => kr))) (.inl ma0) (Wd.nil (hK14 _ _ _ ?_))))
   refine W.prune' [2, 3, 4, 6, 7, 9, 10, 11] [pV p2 0, pV p3 0, pV p4 0, pV p6 0, iV .i64 (ofK pr s d xs), nV .u32 s, nV .u32 d, Value.slice a xs.length cap] ma0 (fun f15 => W.seq (fun K16 hK16 => ?_))
   refine W.seq (fun K17 hK17 => W.region (Wl.run 3 ma0 ?_))
   refine Wl.guard (v := nV .u32 s) (!((ofK pr s d xs) != 3)) rfl (wantF rfl ma0) rfl (fun hg18 => ?_) ?_
   ·exact Ys.pure (fun _ => kr)
   refine Wl.guard (v := pV p6 1) (!((ofK pr s d xs) != 3)) rfl (wantF rfl ma0) rfl (fun hg19 => ?_) ?_
   ·exact Ys.pure (fun _ => kr)
   refine Wl.guard (v := nV .u32 (ofS pr s d xs)) (!((ofK pr s d xs) != 3)) rfl (wantF rfl ma0) rfl (fun hg20 => ?_) ?_
   ·refine Ys.at (t := 49) (v0 := pV p6 1) (lz (g := !((ofK pr s d xs) != 3)) (u := undef) hg20 ma0) ?_
    exact Ys.l1 p6 1 0 0 Try.isAgg24
   refine Wl.guard (v := bV (((s : Nat) : Int) == (ofS pr s d xs : Int))) (!((ofK pr s d xs) != 3)) rfl (wantF rfl ma0) rfl (fun hg21 => ?_) ?_
   ·refine Ys.at (t := 48) (v0 := nV .u32 s) (lz (g := !((ofK pr s d xs) != 3)) (u := undef) hg21 ma0) (Ys.at (t := 50) (v0 := nV .u32 (ofS pr s d xs)) (lz (g := !((ofK pr s d xs) != 3)) (u := undef) hg21 ma0) ?_)
    exact Ys.pure (fun _ => kr)
   refine Wl.ys (v := bV (((ofK pr s d xs) != 3) || (((s : Nat) : Int) == (ofS pr s d xs : Int)))) rfl rfl (Ys.or' (e := (ofK pr s d xs) != 3) (b := (s : Int) == (ofS pr s d xs : Int)) rfl ma0 ma0 ma0) (Wl.nil (hK17 _ _ _ ?_))
   refine W.cond (((ofK pr s d xs) != 3) || (((s : Nat) : Int) == (ofS pr s d xs : Int))) ma0 (fun h22 => ?_) (fun h23 => ?_)
   ·have qh22 := h22; try simp only [zA] at qh22
    refine W.region (Wl.run 1 ma0 (Wl.ys rfl rfl (Ys.l1 p3 1 2 0 Try.isAgg24) (Wl.run 1 ma0 (Wl.ht rfl (Ht.store (b := p2) (o' := 3) (i := 3) (j := 0) (v := nV .u32 fs) (LL' := [cFl8_1472_3 d p6 s pr xs, cFl8_1472_0 p4, cFl8_1472_2 fd ff fs ft p3 fp, [cb p2 [nV .u8 tt.toNat, nV .u8 pr.toNat, nV .u16 id, nV .u32 fs, nV .u32 d, Value.slice a xs.length cap] 27]]) rfl rfl ma0 ma0 Try.sizeOf24 rfl rfl rfl ma12 rfl rfl) (fun _ => ?_)))))
    refine Wl.nil (hK16 _ _ _ (W.prune' [2, 3, 4, 6, 7, 9, 10, 11] [pV p2 0, pV p3 0, pV p4 0, pV p6 0, iV .i64 (ofK pr s d xs), nV .u32 s, nV .u32 d, Value.slice a xs.length cap] ma0 (fun f24 => W.seq (fun K25 hK25 => W.seq (fun K26 hK26 => ?_)))))
    refine W.region (Wl.run 3 ma0 ?_)
    refine Wl.guard (v := nV .u32 d) (!((ofK pr s d xs) != 3)) rfl (wantF rfl ma0) rfl (fun hg27 => ?_) ?_
    ·exact Ys.pure (fun _ => kr)
    refine Wl.guard (v := pV p6 2) (!((ofK pr s d xs) != 3)) rfl (wantF rfl ma0) rfl (fun hg28 => ?_) ?_
    ·exact Ys.pure (fun _ => kr)
    refine Wl.guard (v := nV .u32 (ofD pr s d xs)) (!((ofK pr s d xs) != 3)) rfl (wantF rfl ma0) rfl (fun hg29 => ?_) ?_
    ·refine Ys.at (t := 60) (v0 := pV p6 2) (lz (g := !((ofK pr s d xs) != 3)) (u := undef) hg29 ma0) ?_
     exact Ys.l1 p6 2 0 0 Try.isAgg24
    refine Wl.guard (v := bV (((d : Nat) : Int) == (ofD pr s d xs : Int))) (!((ofK pr s d xs) != 3)) rfl (wantF rfl ma0) rfl (fun hg30 => ?_) ?_
    ·refine Ys.at (t := 59) (v0 := nV .u32 d) (lz (g := !((ofK pr s d xs) != 3)) (u := undef) hg30 ma0) (Ys.at (t := 61) (v0 := nV .u32 (ofD pr s d xs)) (lz (g := !((ofK pr s d xs) != 3)) (u := undef) hg30 ma0) ?_)
     exact Ys.pure (fun _ => kr)
    refine Wl.ys (v := bV (((ofK pr s d xs) != 3) || (((d : Nat) : Int) == (ofD pr s d xs : Int)))) rfl rfl (Ys.or' (e := (ofK pr s d xs) != 3) (b := (d : Int) == (ofD pr s d xs : Int)) rfl ma0 ma0 ma0) (Wl.nil (hK26 _ _ _ ?_))
    refine W.cond (((ofK pr s d xs) != 3) || (((d : Nat) : Int) == (ofD pr s d xs : Int))) ma0 (fun h31 => ?_) (fun h32 => ?_)
    ·have qh31 := h31; try simp only [zA] at qh31
     refine W.region (Wl.run 1 ma0 (Wl.ys rfl rfl (Ys.l1 p3 2 2 0 Try.isAgg24) (Wl.run 1 ma0 (Wl.ht rfl (Ht.store (b := p2) (o' := 4) (i := 3) (j := 0) (v := nV .u32 fd) (LL' := [cFl8_1472_3 d p6 s pr xs, cFl8_1472_0 p4, cFl8_1472_2 fd ff fs ft p3 fp, cFl8_1472_1 a cap fd fs id p2 pr tt xs]) rfl rfl ma0 ma0 Try.sizeOf24 rfl rfl rfl ma12 rfl rfl) (fun _ => ?_)))))
     refine Wl.nil (hK25 _ _ _ (W.prune' [2, 3, 4, 6, 7, 9, 10, 11] [pV p2 0, pV p3 0, pV p4 0, pV p6 0, iV .i64 (ofK pr s d xs), nV .u32 s, nV .u32 d, Value.slice a xs.length cap] ma0 (fun f33 => W.seq (fun K34 hK34 => W.seq (fun K35 hK35 => ?_)))))
     refine W.region (Wl.run 1 ma0 (Wl.ys rfl rfl (Ys.l1 p2 1 3 0 Try.isAgg5) (Wl.nil (hK35 _ _ _ ?_))))
     refine W.block (W.seq (fun K36 hK36 => ?_))
     refine W.region (Wl.run 2 ma0 (Wl.nil (hK36 _ _ _ ?_)))
     refine W.cond (((pr.toNat : Nat) : Int) == 6) ma0 (fun h37 => ?_) (fun h38 => ?_)
     ·have qh37 := h37; try simp only [zA] at qh37
      refine W.seq (fun K39 hK39 => W.region (Wl.run 3 ma0 (Wl.htS rfl (HtS.call (β := FS × FS) (k := 22) (args := #[nV .u32 s, nV .u32 d, Value.slice a xs.length cap]) (Lin := []) (Lk := [cFl8_1472_3 d p6 s pr xs, cFl8_1472_0 p4, cFl8_1472_2 fd ff fs ft p3 fp, cFl8_1472_1 a cap fd fs id p2 pr tt xs]) (Mi := []) (Lo := fun gg40 => [gg40.1.seg 5 (mc b8 (tO s d xs)), gg40.2.seg 5 (mc b8 (tD s d xs)), cFl8_1472_3 d p6 s pr xs, cFl8_1472_0 p4, cFl8_1472_2 fd ff fs ft p3 fp, cFl8_1472_1 a cap fd fs id p2 pr tt xs]) [] [0, 1, 2, 3] rfl (fun _ => kr) ma3 rfl rfl rfl (fun w_ hm_ hl_ => (rtcpn_c s d xs a cap xs.length _ ma5 (hat.mem0 hm_) ma1 ma1 ma7 ma7)) (fun _ => rfl)) (fun gg40 hx44 => ?_))))
      obtain ⟨ok41, ok42⟩ := hx44
      refine Wl.run 3 ma0 (Wl.ht rfl (Ht.alloc (z := aV zl1) (cs := zl1) rfl rfl Try.zeroValue52 rfl) (fun p12 => ?_))
      refine Wl.ht rfl (Ht.storeN (b := p12) (o' := 0) (i := 0) (j := 0) (vs := [nV .u16 (tF s d xs 0), nV .u16 (tF s d xs 2), nV .u32 (tW s d xs 4), nV .u32 (tW s d xs 8), nV .u8 ((tL s d xs).toNat), nV .u16 (tF s d xs 14), nV .u16 (tF s d xs 18), Value.slice gg40.1.a ((tO s d xs).length) gg40.1.cap, Value.slice gg40.2.a ((tD s d xs).length) gg40.2.cap]) (LL' := [[cb p12 [nV .u16 (tF s d xs 0), nV .u16 (tF s d xs 2), nV .u32 (tW s d xs 4), nV .u32 (tW s d xs 8), nV .u8 ((tL s d xs).toNat), nV .u16 (tF s d xs 14), nV .u16 (tF s d xs 18), Value.slice gg40.1.a ((tO s d xs).length) gg40.1.cap, Value.slice gg40.2.a ((tD s d xs).length) gg40.2.cap] 52], gg40.1.seg 5 (mc b8 (tO s d xs)), gg40.2.seg 5 (mc b8 (tD s d xs)), cFl8_1472_3 d p6 s pr xs, cFl8_1472_0 p4, cFl8_1472_2 fd ff fs ft p3 fp, cFl8_1472_1 a cap fd fs id p2 pr tt xs]) rfl rfl ma0 ma0 Try.sizeOf52 ma9 rfl rfl ma12 rfl rfl) (fun _ => Wl.run 1 ma0 (Wl.nil (hK39 _ _ _ (W.pick (LL' := [[cb p12 [nV .u16 (tF s d xs 0), nV .u16 (tF s d xs 2), nV .u32 (tW s d xs 4), nV .u32 (tW s d xs 8), nV .u8 ((tL s d xs).toNat), nV .u16 (tF s d xs 14), nV .u16 (tF s d xs 18), Value.slice gg40.1.a ((tO s d xs).length) gg40.1.cap, Value.slice gg40.2.a ((tD s d xs).length) gg40.2.cap] 52], gg40.1.seg 5 (mc b8 (tO s d xs)), gg40.2.seg 5 (mc b8 (tD s d xs)), cFl8_1472_0 p4, cFl8_1472_2 fd ff fs ft p3 fp, cFl8_1472_1 a cap fd fs id p2 pr tt xs]) [0, 1, 2, 4, 5, 6] ma3 rfl ?_))))
      refine W.prune' [2, 3, 4, 12] [pV p2 0, pV p3 0, pV p4 0, pV p12 0] ma0 (fun f45 => W.seq (fun K46 hK46 => ?_))
      refine W.draws [(0, true), (1, true), (2, true), (3, true), (4, false), (5, false), (6, false), (7, false)] [0, 1, 2, 3] (Mem w [] [gg40.1.seg 5 (mc b8 (tO s d xs)), gg40.2.seg 5 (mc b8 (tD s d xs)), cFl8_1472_0 p4, cFl8_1472_2 fd ff fs ft p3 fp, cFl8_1472_1 a cap fd fs id p2 pr tt xs]) ma0 ma0 ma0 rfl ma0 (fun _ _ h_ => h_.drawn _) (fun _ h_ => h_.pick [1, 2, 3, 4, 5] ma3 rfl) (Wd.run 1 ma0 (Wd.ys rfl rfl rfl (Ys.l1 p3 3 3 0 Try.isAgg22) (Wd.run 1 ma0 (Wd.ys rfl rfl rfl (Ys.l1 p3 4 3 0 Try.isAgg22) ?_))))
      refine Wd.yc (v := pV p12 0) rfl rfl rfl (Ys.yc (Ys.pure (fun _ => kr))) (.inr fun _ h_ => h_.pick [1, 2, 3, 4, 5] ma3 rfl) (Wd.ht rfl rfl (Ht.store (b := p12) (o' := 0) (i := 0) (j := 0) (v := nV .u16 ff) (LL' := [[cb p12 [nV .u16 ff, nV .u16 (tF s d xs 2), nV .u32 (tW s d xs 4), nV .u32 (tW s d xs 8), nV .u8 ((tL s d xs).toNat), nV .u16 (tF s d xs 14), nV .u16 (tF s d xs 18), Value.slice gg40.1.a ((tO s d xs).length) gg40.1.cap, Value.slice gg40.2.a ((tD s d xs).length) gg40.2.cap] 52], gg40.1.seg 5 (mc b8 (tO s d xs)), gg40.2.seg 5 (mc b8 (tD s d xs)), cFl8_1472_0 p4, cFl8_1472_2 fd ff fs ft p3 fp, cFl8_1472_1 a cap fd fs id p2 pr tt xs]) rfl rfl ma0 ma0 Try.sizeOf22 rfl rfl rfl ma12 rfl rfl) (.inr fun _ _ h_ => h_.pick [1, 2, 3, 4, 5] ma3 rfl) (fun _ => ?_))
      refine Wd.yc (v := pV p12 1) rfl rfl rfl (Ys.yc (Ys.pure (fun _ => kr))) (.inl ma0) (Wd.ht rfl rfl (Ht.store (b := p12) (o' := 1) (i := 0) (j := 0) (v := nV .u16 ft) (LL' := [[cb p12 [nV .u16 ff, nV .u16 ft, nV .u32 (tW s d xs 4), nV .u32 (tW s d xs 8), nV .u8 ((tL s d xs).toNat), nV .u16 (tF s d xs 14), nV .u16 (tF s d xs 18), Value.slice gg40.1.a ((tO s d xs).length) gg40.1.cap, Value.slice gg40.2.a ((tD s d xs).length) gg40.2.cap] 52], gg40.1.seg 5 (mc b8 (tO s d xs)), gg40.2.seg 5 (mc b8 (tD s d xs)), cFl8_1472_0 p4, cFl8_1472_2 fd ff fs ft p3 fp, cFl8_1472_1 a cap fd fs id p2 pr tt xs]) rfl rfl ma0 ma0 Try.sizeOf22 rfl rfl rfl ma12 rfl rfl) (.inl ma0) (fun _ => ?_))
      refine Wd.nil (hK46 _ _ _ (W.region (Wl.run 1 ma0 (Wl.ys rfl rfl (Ys.l1 p2 3 5 0 Try.isAgg24) ?_))))
      refine Wl.run 1 ma0 (Wl.ys rfl rfl (Ys.l1 p2 4 5 0 Try.isAgg24) (Wl.ys rfl rfl (Ys.loadN (b := p12) (o' := 0) (i := 0) (j := 0) (vs := [nV .u16 ff, nV .u16 ft, nV .u32 (tW s d xs 4), nV .u32 (tW s d xs 8), nV .u8 ((tL s d xs).toNat), nV .u16 (tF s d xs 14), nV .u16 (tF s d xs 18), Value.slice gg40.1.a ((tO s d xs).length) gg40.1.cap, Value.slice gg40.2.a ((tD s d xs).length) gg40.2.cap]) rfl ma0 Try.isAgg52 Try.sizeOf52 rfl rfl rfl rfl) ?_))
      have hl50 := tB_le fs fd ff ft (tW s d xs 4) (tW s d xs 8) (tL s d xs) (tF s d xs 14) (tF s d xs 18) (tO s d xs) (tD s d xs)
      refine Wl.htS rfl (HtS.call (β := FS) (k := 34) (args := #[nV .u32 fs, nV .u32 fd, aV [nV .u16 ff, nV .u16 ft, nV .u32 (tW s d xs 4), nV .u32 (tW s d xs 8), nV .u8 ((tL s d xs).toNat), nV .u16 (tF s d xs 14), nV .u16 (tF s d xs 18), Value.slice gg40.1.a ((tO s d xs).length) gg40.1.cap, Value.slice gg40.2.a ((tD s d xs).length) gg40.2.cap]]) (Lin := []) (Lk := [[cb p12 [nV .u16 ff, nV .u16 ft, nV .u32 (tW s d xs 4), nV .u32 (tW s d xs 8), nV .u8 ((tL s d xs).toNat), nV .u16 (tF s d xs 14), nV .u16 (tF s d xs 18), Value.slice gg40.1.a ((tO s d xs).length) gg40.1.cap, Value.slice gg40.2.a ((tD s d xs).length) gg40.2.cap] 52], gg40.1.seg 5 (mc b8 (tO s d xs)), gg40.2.seg 5 (mc b8 (tD s d xs)), cFl8_1472_0 p4, cFl8_1472_2 fd ff fs ft p3 fp, cFl8_1472_1 a cap fd fs id p2 pr tt xs]) (Mi := []) (Lo := fun g47 => [g47.seg 5 (mc b8 (tB fs fd ff ft (tW s d xs 4) (tW s d xs 8) (tL s d xs) (tF s d xs 14) (tF s d xs 18) (tO s d xs) (tD s d xs))), [cb p12 [nV .u16 ff, nV .u16 ft, nV .u32 (tW s d xs 4), nV .u32 (tW s d xs 8), nV .u8 ((tL s d xs).toNat), nV .u16 (tF s d xs 14), nV .u16 (tF s d xs 18), Value.slice gg40.1.a ((tO s d xs).length) gg40.1.cap, Value.slice gg40.2.a ((tD s d xs).length) gg40.2.cap] 52], gg40.1.seg 5 (mc b8 (tO s d xs)), gg40.2.seg 5 (mc b8 (tD s d xs)), cFl8_1472_0 p4, cFl8_1472_2 fd ff fs ft p3 fp, cFl8_1472_1 a cap fd fs id p2 pr tt xs]) [] [0, 1, 2, 3, 4, 5] rfl (fun _ => kr) ma3 rfl rfl rfl (fun w_ hm_ hl_ => (wtcpn_c fs fd ff ft (tW s d xs 4) (tW s d xs 8) (tL s d xs) (tF s d xs 14) (tF s d xs 18) (tO s d xs) (tD s d xs) gg40.1.a gg40.2.a gg40.1.cap gg40.2.cap ((tO s d xs).length) ((tD s d xs).length) _ ma5 ma5 (FS.at (i := 1) (t := 5) hm_ rfl (FS.nil_cs ok41 (mc_len1 _))) (FS.at (i := 2) (t := 5) hm_ rfl (FS.nil_cs ok42 (mc_len1 _))) ma1 ma1 ma1 ma1 ma1 ma1 ma1 ma1 ma4 ma4 (by have z_ := ok41.le; first | exact z_ | omega | (simp at z_ ⊢; omega)) (by have z_ := ok42.le; first | exact z_ | omega | (simp at z_ ⊢; omega)))) (fun _ => rfl)) (fun g47 ok48 => Wl.run 4 ma0 (Wl.ht rfl (Ht.store (b := p2) (o' := 5) (i := 6) (j := 0) (v := sV g47 ((tB fs fd ff ft (tW s d xs 4) (tW s d xs 8) (tL s d xs) (tF s d xs 14) (tF s d xs 18) (tO s d xs) (tD s d xs)).length)) (LL' := [g47.seg 5 (mc b8 (tB fs fd ff ft (tW s d xs 4) (tW s d xs 8) (tL s d xs) (tF s d xs 14) (tF s d xs 18) (tO s d xs) (tD s d xs))), [cb p12 [nV .u16 ff, nV .u16 ft, nV .u32 (tW s d xs 4), nV .u32 (tW s d xs 8), nV .u8 ((tL s d xs).toNat), nV .u16 (tF s d xs 14), nV .u16 (tF s d xs 18), Value.slice gg40.1.a ((tO s d xs).length) gg40.1.cap, Value.slice gg40.2.a ((tD s d xs).length) gg40.2.cap] 52], gg40.1.seg 5 (mc b8 (tO s d xs)), gg40.2.seg 5 (mc b8 (tD s d xs)), cFl8_1472_0 p4, cFl8_1472_2 fd ff fs ft p3 fp, cFl8_1472_6 d fd ff fs ft id p2 s g47 pr tt xs]) rfl rfl ma0 ma0 Try.sizeOf25 rfl rfl rfl ma12 rfl rfl) (fun _ => Wl.run 1 ma0 (Wl.nil ?_))))
      refine hK34 _ _ _ (W.pick (LL' := [g47.seg 5 (mc b8 (tB fs fd ff ft (tW s d xs 4) (tW s d xs 8) (tL s d xs) (tF s d xs 14) (tF s d xs 18) (tO s d xs) (tD s d xs))), cFl8_1472_0 p4, cFl8_1472_6 d fd ff fs ft id p2 s g47 pr tt xs]) [0, 4, 6] ma3 rfl (W.prune' [2, 4, 8] [pV p2 0, pV p4 0, iV .i64 (tE (tO s d xs).length (tD s d xs).length)] ma0 (fun f51 => W.seq (fun K52 hK52 => W.seq (fun K53 hK53 => ?_)))))
      refine W.region (Wl.run 2 ma0 (Wl.nil (hK53 _ _ _ ?_)))
      refine W.cond ((tE (tO s d xs).length (tD s d xs).length) != 0) ma0 (fun h54 => ?_) (fun h55 => ?_)
      ·(exfalso; rw [tE_read] at h54; cases h54)
      ·have qh55 := h55; try simp only [zA] at qh55
       refine W.skip' (hK52 _ _ _ (W.seq (fun K56 hK56 => W.region (Wl.ys rfl rfl (Ys.loadN (b := p2) (o' := 0) (i := 2) (j := 0) (vs := [nV .u8 tt.toNat, nV .u8 pr.toNat, nV .u16 id, nV .u32 fs, nV .u32 fd, sV g47 ((tB fs fd ff ft (tW s d xs 4) (tW s d xs 8) (tL s d xs) (tF s d xs 14) (tF s d xs 18) (tO s d xs) (tD s d xs)).length)]) rfl ma0 Try.isAgg27 Try.sizeOf27 rfl rfl rfl rfl) ?_))))
       refine Wl.ht rfl (Ht.storeN (b := p4) (o' := 0) (i := 1) (j := 0) (vs := [nV .u8 tt.toNat, nV .u8 pr.toNat, nV .u16 id, nV .u32 fs, nV .u32 fd, sV g47 ((tB fs fd ff ft (tW s d xs 4) (tW s d xs 8) (tL s d xs) (tF s d xs 14) (tF s d xs 18) (tO s d xs) (tD s d xs)).length)]) (LL' := [g47.seg 5 (mc b8 (tB fs fd ff ft (tW s d xs 4) (tW s d xs 8) (tL s d xs) (tF s d xs 14) (tF s d xs 18) (tO s d xs) (tD s d xs))), [cb p4 [nV .u8 tt.toNat, nV .u8 pr.toNat, nV .u16 id, nV .u32 fs, nV .u32 fd, sV g47 ((tB fs fd ff ft (tW s d xs 4) (tW s d xs 8) (tL s d xs) (tF s d xs 14) (tF s d xs 18) (tO s d xs) (tD s d xs)).length)] 27], cFl8_1472_6 d fd ff fs ft id p2 s g47 pr tt xs]) rfl rfl ma0 ma0 Try.sizeOf27 ma9 rfl rfl ma12 rfl rfl) (fun _ => Wl.run 1 ma0 (Wl.nil (hK56 _ _ _ (W.ret ?_))))
       have hG : rwG pr s d xs fp = true := by unfold rwG; rw [h7, h11]; rfl
       have hX : rwX pr s d xs fp = 0 := by unfold rwX; rw [h7, h11]; rfl
       have hB : rwB pr s d xs fp fs fd ff ft = tB fs fd ff ft (tW s d xs 4) (tW s d xs 8) (tL s d xs) (tF s d xs 14) (tF s d xs 18) (tO s d xs) (tD s d xs) := by unfold rwB; rw [hG, show isT pr = true from h37]; rfl
       show ∀ w_, _ → bodyPostM (fence none) 0 Try.prog Try.f18 _ Exit.ret _ w_
       exact fun w_ hS_ => fin_ret (ret2 rfl (RV.cellN (b := p4) (o' := 0) (i := 1) (j := 0) (cs := [nV .u8 tt.toNat, nV .u8 pr.toNat, nV .u16 id, nV .u32 fs, nV .u32 fd, sV g47 ((tB fs fd ff ft (tW s d xs 4) (tW s d xs 8) (tL s d xs) (tF s d xs 14) (tF s d xs 18) (tO s d xs) (tD s d xs)).length)]) (vs := [nV .u8 tt.toNat, nV .u8 pr.toNat, nV .u16 id, nV .u32 fs, nV .u32 fd, sV g47 ((tB fs fd ff ft (tW s d xs 4) (tW s d xs 8) (tL s d xs) (tF s d xs 14) (tF s d xs 18) (tO s d xs) (tD s d xs)).length)]) ma0 Try.isAgg27 Try.sizeOf27 rfl rfl rfl rfl) (RV.tmp (v := iV .i64 0) ma0) hS_ ⟨g47, (by rw [hB]; exact ok48), congrArg Ending.returned ((by rw [hB, hG, hX]; rfl)), (Mem.cast (by rw [hB]; rfl) (hS_.pick [0] ma3 rfl))⟩)
     ·have qh38 := h38; try simp only [zA] at qh38
      refine W.seq (fun K57 hK57 => W.region (Wl.run 2 ma0 (Wl.nil (hK57 _ _ _ ?_))))
      refine W.cond (((pr.toNat : Nat) : Int) == 17) ma0 (fun h58 => ?_) (fun h59 => ?_)
      ·have qh58 := h58; try simp only [zA] at qh58
       refine W.seq (fun K60 hK60 => W.region (Wl.run 3 ma0 (Wl.htS rfl (HtS.call (β := FS) (k := 23) (args := #[nV .u32 s, nV .u32 d, Value.slice a xs.length cap]) (Lin := []) (Lk := [cFl8_1472_3 d p6 s pr xs, cFl8_1472_0 p4, cFl8_1472_2 fd ff fs ft p3 fp, cFl8_1472_1 a cap fd fs id p2 pr tt xs]) (Mi := []) (Lo := fun g61 => [g61.seg 5 (mc b8 (uD s d xs)), cFl8_1472_3 d p6 s pr xs, cFl8_1472_0 p4, cFl8_1472_2 fd ff fs ft p3 fp, cFl8_1472_1 a cap fd fs id p2 pr tt xs]) [] [0, 1, 2, 3] rfl (fun _ => kr) ma3 rfl rfl rfl (fun w_ hm_ hl_ => (rudpn_c s d xs a cap xs.length _ ma5 (hat.mem0 hm_) ma1 ma1 ma7 ma7)) (fun _ => rfl)) (fun g61 ok62 => Wl.run 3 ma0 ?_))))
       refine Wl.ht rfl (Ht.alloc (z := aV zl3) (cs := zl3) rfl rfl Try.zeroValue56 rfl) (fun p14 => Wl.ht rfl (Ht.storeN (b := p14) (o' := 0) (i := 0) (j := 0) (vs := [nV .u16 (uF s d xs 0), nV .u16 (uF s d xs 2), bV (uP s d xs), sV g61 ((uD s d xs).length)]) (LL' := [[cb p14 [nV .u16 (uF s d xs 0), nV .u16 (uF s d xs 2), bV (uP s d xs), sV g61 ((uD s d xs).length)] 56], g61.seg 5 (mc b8 (uD s d xs)), cFl8_1472_3 d p6 s pr xs, cFl8_1472_0 p4, cFl8_1472_2 fd ff fs ft p3 fp, cFl8_1472_1 a cap fd fs id p2 pr tt xs]) rfl rfl ma0 ma0 Try.sizeOf56 ma9 rfl rfl ma12 rfl rfl) (fun _ => ?_))
       refine Wl.run 1 ma0 (Wl.nil (hK60 _ _ _ (W.pick (LL' := [[cb p14 [nV .u16 (uF s d xs 0), nV .u16 (uF s d xs 2), bV (uP s d xs), sV g61 ((uD s d xs).length)] 56], g61.seg 5 (mc b8 (uD s d xs)), cFl8_1472_0 p4, cFl8_1472_2 fd ff fs ft p3 fp, cFl8_1472_1 a cap fd fs id p2 pr tt xs]) [0, 1, 3, 4, 5] ma3 rfl (W.prune' [2, 3, 4, 14] [pV p2 0, pV p3 0, pV p4 0, pV p14 0] ma0 (fun f64 => ?_)))))
       refine W.seq (fun K65 hK65 => W.draws [(0, true), (1, true), (2, true), (3, true), (4, false), (5, false), (6, false), (7, false)] [0, 1, 2, 3] (Mem w [] [g61.seg 5 (mc b8 (uD s d xs)), cFl8_1472_0 p4, cFl8_1472_2 fd ff fs ft p3 fp, cFl8_1472_1 a cap fd fs id p2 pr tt xs]) ma0 ma0 ma0 rfl ma0 (fun _ _ h_ => h_.drawn _) (fun _ h_ => h_.pick [1, 2, 3, 4] ma3 rfl) (Wd.run 1 ma0 (Wd.ys rfl rfl rfl (Ys.l1 p3 3 2 0 Try.isAgg22) (Wd.run 1 ma0 ?_))))
       refine Wd.ys rfl rfl rfl (Ys.l1 p3 4 2 0 Try.isAgg22) (Wd.yc (v := pV p14 0) rfl rfl rfl (Ys.yc (Ys.pure (fun _ => kr))) (.inr fun _ h_ => h_.pick [1, 2, 3, 4] ma3 rfl) (Wd.ht rfl rfl (Ht.store (b := p14) (o' := 0) (i := 0) (j := 0) (v := nV .u16 ff) (LL' := [[cb p14 [nV .u16 ff, nV .u16 (uF s d xs 2), bV (uP s d xs), sV g61 ((uD s d xs).length)] 56], g61.seg 5 (mc b8 (uD s d xs)), cFl8_1472_0 p4, cFl8_1472_2 fd ff fs ft p3 fp, cFl8_1472_1 a cap fd fs id p2 pr tt xs]) rfl rfl ma0 ma0 Try.sizeOf22 rfl rfl rfl ma12 rfl rfl) (.inr fun _ _ h_ => h_.pick [1, 2, 3, 4] ma3 rfl) (fun _ => Wd.yc (v := pV p14 1) rfl rfl rfl (Ys.yc (Ys.pure (fun _ => kr))) (.inl ma0) (Wd.ht rfl rfl (Ht.store (b := p14) (o' := 1) (i := 0) (j := 0) (v := nV .u16 ft) (LL' := [[cb p14 [nV .u16 ff, nV .u16 ft, bV (uP s d xs), sV g61 ((uD s d xs).length)] 56], g61.seg 5 (mc b8 (uD s d xs)), cFl8_1472_0 p4, cFl8_1472_2 fd ff fs ft p3 fp, cFl8_1472_1 a cap fd fs id p2 pr tt xs]) rfl rfl ma0 ma0 Try.sizeOf22 rfl rfl rfl ma12 rfl rfl) (.inl ma0) (fun _ => ?_)))))
       refine Wd.nil (hK65 _ _ _ (W.region (Wl.run 1 ma0 (Wl.ys rfl rfl (Ys.l1 p2 3 4 0 Try.isAgg24) ?_))))
       refine Wl.run 1 ma0 (Wl.ys rfl rfl (Ys.l1 p2 4 4 0 Try.isAgg24) (Wl.ys rfl rfl (Ys.loadN (b := p14) (o' := 0) (i := 0) (j := 0) (vs := [nV .u16 ff, nV .u16 ft, bV (uP s d xs), sV g61 ((uD s d xs).length)]) rfl ma0 Try.isAgg56 Try.sizeOf56 rfl rfl rfl rfl) ?_))
       have hl69 := uB_le fs fd ff ft (uP s d xs) (uD s d xs)
       refine Wl.htS rfl (HtS.call (β := FS) (k := 35) (args := #[nV .u32 fs, nV .u32 fd, aV [nV .u16 ff, nV .u16 ft, bV (uP s d xs), sV g61 ((uD s d xs).length)]]) (Lin := []) (Lk := [[cb p14 [nV .u16 ff, nV .u16 ft, bV (uP s d xs), sV g61 ((uD s d xs).length)] 56], g61.seg 5 (mc b8 (uD s d xs)), cFl8_1472_0 p4, cFl8_1472_2 fd ff fs ft p3 fp, cFl8_1472_1 a cap fd fs id p2 pr tt xs]) (Mi := []) (Lo := fun g66 => [g66.seg 5 (mc b8 (uB fs fd ff ft (uP s d xs) (uD s d xs))), [cb p14 [nV .u16 ff, nV .u16 ft, bV (uP s d xs), sV g61 ((uD s d xs).length)] 56], g61.seg 5 (mc b8 (uD s d xs)), cFl8_1472_0 p4, cFl8_1472_2 fd ff fs ft p3 fp, cFl8_1472_1 a cap fd fs id p2 pr tt xs]) [] [0, 1, 2, 3, 4] rfl (fun _ => kr) ma3 rfl rfl rfl (fun w_ hm_ hl_ => (wudpn_c fs fd ff ft (uP s d xs) (uD s d xs) g61.a g61.cap ((uD s d xs).length) _ ma5 (FS.at (i := 1) (t := 5) hm_ rfl (FS.nil_cs ok62 (mc_len1 _))) ma1 ma1 ma1 ma1 ma4 (by have z_ := ok62.le; first | exact z_ | omega | (simp at z_ ⊢; omega)))) (fun _ => rfl)) (fun g66 ok67 => Wl.run 4 ma0 (Wl.ht rfl (Ht.store (b := p2) (o' := 5) (i := 5) (j := 0) (v := sV g66 ((uB fs fd ff ft (uP s d xs) (uD s d xs)).length)) (LL' := [g66.seg 5 (mc b8 (uB fs fd ff ft (uP s d xs) (uD s d xs))), [cb p14 [nV .u16 ff, nV .u16 ft, bV (uP s d xs), sV g61 ((uD s d xs).length)] 56], g61.seg 5 (mc b8 (uD s d xs)), cFl8_1472_0 p4, cFl8_1472_2 fd ff fs ft p3 fp, [cb p2 [nV .u8 tt.toNat, nV .u8 pr.toNat, nV .u16 id, nV .u32 fs, nV .u32 fd, sV g66 ((uB fs fd ff ft (uP s d xs) (uD s d xs)).length)] 27]]) rfl rfl ma0 ma0 Try.sizeOf25 rfl rfl rfl ma12 rfl rfl) (fun _ => Wl.run 1 ma0 (Wl.nil ?_))))
       refine hK34 _ _ _ (W.pick (LL' := [g66.seg 5 (mc b8 (uB fs fd ff ft (uP s d xs) (uD s d xs))), cFl8_1472_0 p4, [cb p2 [nV .u8 tt.toNat, nV .u8 pr.toNat, nV .u16 id, nV .u32 fs, nV .u32 fd, sV g66 ((uB fs fd ff ft (uP s d xs) (uD s d xs)).length)] 27]]) [0, 3, 5] ma3 rfl (W.prune' [2, 4, 8] [pV p2 0, pV p4 0, iV .i64 (uE (uD s d xs).length)] ma0 (fun f70 => W.seq (fun K71 hK71 => W.seq (fun K72 hK72 => ?_)))))
       refine W.region (Wl.run 2 ma0 (Wl.nil (hK72 _ _ _ ?_)))
       refine W.cond ((uE (uD s d xs).length) != 0) ma0 (fun h73 => ?_) (fun h74 => ?_)
       ·(exfalso; rw [uE_read] at h73; cases h73)
       ·have qh74 := h74; try simp only [zA] at qh74
        refine W.skip' (hK71 _ _ _ (W.seq (fun K75 hK75 => W.region (Wl.ys rfl rfl (Ys.loadN (b := p2) (o' := 0) (i := 2) (j := 0) (vs := [nV .u8 tt.toNat, nV .u8 pr.toNat, nV .u16 id, nV .u32 fs, nV .u32 fd, sV g66 ((uB fs fd ff ft (uP s d xs) (uD s d xs)).length)]) rfl ma0 Try.isAgg27 Try.sizeOf27 rfl rfl rfl rfl) ?_))))
        refine Wl.ht rfl (Ht.storeN (b := p4) (o' := 0) (i := 1) (j := 0) (vs := [nV .u8 tt.toNat, nV .u8 pr.toNat, nV .u16 id, nV .u32 fs, nV .u32 fd, sV g66 ((uB fs fd ff ft (uP s d xs) (uD s d xs)).length)]) (LL' := [g66.seg 5 (mc b8 (uB fs fd ff ft (uP s d xs) (uD s d xs))), [cb p4 [nV .u8 tt.toNat, nV .u8 pr.toNat, nV .u16 id, nV .u32 fs, nV .u32 fd, sV g66 ((uB fs fd ff ft (uP s d xs) (uD s d xs)).length)] 27], [cb p2 [nV .u8 tt.toNat, nV .u8 pr.toNat, nV .u16 id, nV .u32 fs, nV .u32 fd, sV g66 ((uB fs fd ff ft (uP s d xs) (uD s d xs)).length)] 27]]) rfl rfl ma0 ma0 Try.sizeOf27 ma9 rfl rfl ma12 rfl rfl) (fun _ => Wl.run 1 ma0 (Wl.nil (hK75 _ _ _ (W.ret ?_))))
        have hG : rwG pr s d xs fp = true := by unfold rwG; rw [h7, h11]; rfl
        have hX : rwX pr s d xs fp = 0 := by unfold rwX; rw [h7, h11]; rfl
        have hB : rwB pr s d xs fp fs fd ff ft = uB fs fd ff ft (uP s d xs) (uD s d xs) := by unfold rwB; rw [hG, show isT pr = false from h38, show isU pr = true from h58]; rfl
        show ∀ w_, _ → bodyPostM (fence none) 0 Try.prog Try.f18 _ Exit.ret _ w_
        exact fun w_ hS_ => fin_ret (ret2 rfl (RV.cellN (b := p4) (o' := 0) (i := 1) (j := 0) (cs := [nV .u8 tt.toNat, nV .u8 pr.toNat, nV .u16 id, nV .u32 fs, nV .u32 fd, sV g66 ((uB fs fd ff ft (uP s d xs) (uD s d xs)).length)]) (vs := [nV .u8 tt.toNat, nV .u8 pr.toNat, nV .u16 id, nV .u32 fs, nV .u32 fd, sV g66 ((uB fs fd ff ft (uP s d xs) (uD s d xs)).length)]) ma0 Try.isAgg27 Try.sizeOf27 rfl rfl rfl rfl) (RV.tmp (v := iV .i64 0) ma0) hS_ ⟨g66, (by rw [hB]; exact ok67), congrArg Ending.returned ((by rw [hB, hG, hX]; rfl)), (Mem.cast (by rw [hB]; rfl) (hS_.pick [0] ma3 rfl))⟩)
      ·have qh59 := h59; try simp only [zA] at qh59
       refine W.seq (fun K76 hK76 => W.region (Wl.run 1 ma0 (Wl.htS rfl (HtS.call (β := FS) (k := 36) (args := #[Value.slice a xs.length cap]) (Lin := []) (Lk := [cFl8_1472_3 d p6 s pr xs, cFl8_1472_0 p4, cFl8_1472_2 fd ff fs ft p3 fp, cFl8_1472_1 a cap fd fs id p2 pr tt xs]) (Mi := []) (Lo := fun g77 => [g77.seg 5 (mc b8 (mD xs)), cFl8_1472_3 d p6 s pr xs, cFl8_1472_0 p4, cFl8_1472_2 fd ff fs ft p3 fp, cFl8_1472_1 a cap fd fs id p2 pr tt xs]) [] [0, 1, 2, 3] rfl (fun _ => kr) ma3 rfl rfl rfl (fun w_ hm_ hl_ => (ricmpn_c xs a cap xs.length _ ma5 (hat.mem0 hm_) ma7 ma7)) (fun _ => rfl)) (fun g77 ok78 => Wl.run 3 ma0 ?_))))
       refine Wl.ht rfl (Ht.alloc (z := aV zl4) (cs := zl4) rfl rfl Try.zeroValue65 rfl) (fun p16 => Wl.ht rfl (Ht.storeN (b := p16) (o' := 0) (i := 0) (j := 0) (vs := [nV .u8 ((mT xs 0).toNat), nV .u8 ((mT xs 1).toNat), nV .u32 (mN xs), sV g77 ((mD xs).length)]) (LL' := [[cb p16 [nV .u8 ((mT xs 0).toNat), nV .u8 ((mT xs 1).toNat), nV .u32 (mN xs), sV g77 ((mD xs).length)] 65], g77.seg 5 (mc b8 (mD xs)), cFl8_1472_3 d p6 s pr xs, cFl8_1472_0 p4, cFl8_1472_2 fd ff fs ft p3 fp, cFl8_1472_1 a cap fd fs id p2 pr tt xs]) rfl rfl ma0 ma0 Try.sizeOf65 ma9 rfl rfl ma12 rfl rfl) (fun _ => ?_))
       refine Wl.run 1 ma0 (Wl.nil (hK76 _ _ _ (W.prune' [2, 3, 4, 6, 7, 16] [pV p2 0, pV p3 0, pV p4 0, pV p6 0, iV .i64 (ofK pr s d xs), pV p16 0] ma0 (fun f80 => W.seq (fun K81 hK81 => ?_)))))
       refine W.seq (fun K82 hK82 => W.region (Wl.run 2 ma0 (Wl.nil (hK82 _ _ _ ?_))))
       refine W.cond ((ofK pr s d xs) == 3) ma0 (fun h83 => ?_) (fun h84 => ?_)
       ·have qh83 := h83; try simp only [zA] at qh83
        (exfalso; simp at h83; exact hk h83)
       ·have qh84 := h84; try simp only [zA] at qh84
        refine W.seq (fun K85 hK85 => W.region (Wl.run 1 ma0 (Wl.ys rfl rfl (Ys.l1 p3 3 4 0 Try.isAgg22) (Wl.run 1 ma0 ?_))))
        refine Wl.nil (hK85 _ _ _ (W.seq (fun K86 hK86 => W.seq (fun K87 hK87 => W.region ?_))))
        refine Wl.run 1 ma0 (Wl.ys rfl rfl (Ys.l1 p16 0 0 0 Try.isAgg5) (Wl.run 1 ma0 (Wl.ys rfl rfl (Ys.l1 p16 1 0 0 Try.isAgg5) (Wl.yc (v := Value.tuple #[bV (ecA (mT xs 0)), bV (ecO (mT xs 0) (mT xs 1))]) rfl rfl (Yc.call (fun _ => kr) (fun w_ hm_ => (echo_c (mT xs 0) (mT xs 1) _))) ?_))))
        refine Wl.run 5 ma0 (Wl.nil (hK87 _ _ _ (W.pick (LL' := [[cb p16 [nV .u8 ((mT xs 0).toNat), nV .u8 ((mT xs 1).toNat), nV .u32 (mN xs), sV g77 ((mD xs).length)] 65], g77.seg 5 (mc b8 (mD xs)), cFl8_1472_0 p4, cFl8_1472_2 fd ff fs ft p3 fp, cFl8_1472_1 a cap fd fs id p2 pr tt xs]) [0, 1, 3, 4, 5] ma3 rfl (W.prune' [2, 3, 4, 16, 18, 19] [pV p2 0, pV p3 0, pV p4 0, pV p16 0, nV .u16 ff, bV (ecA (mT xs 0))] ma0 (fun f88 => ?_)))))
        refine W.seq (fun K89 hK89 => W.region (Wl.run 2 ma0 (Wl.nil (hK89 _ _ _ ?_))))
        refine W.cond (!(ecA (mT xs 0))) ma0 (fun h90 => ?_) (fun h91 => ?_)
        ·refine W.region (Wl.run 1 ma0 (Wl.ys rfl rfl (Ys.l1 p3 4 3 0 Try.isAgg22) (Wl.run 1 ma0 (Wl.nil ?_))))
         refine hK86 _ _ _ (W.region (Wl.run 1 ma0 (Wl.ys rfl rfl (Ys.l1 p16 2 0 0 Try.isAgg23) (Wl.ys (v := nV .u32 ((mN xs) % 65536)) rfl rfl ((Ys.pure (v := .int .u32 (band .u32 (mN xs : Int) ((65535 : Nat) : Int))) (fun _ => kr)).conseq (int_congr (band_mask rfl (a := mN xs) (c := 16) ma24 ma3 65535 rfl))) ?_))))
         refine Wl.run 1 ma0 (Wl.ys (v := nV .u32 ft) rfl rfl ((Ys.pure (v := .int .u32 (icnv .u32 (ft : Int))) (fun _ => kr)).conseq (int_congr (wrap_u32 ma1 ma1))) (Wl.ys (v := nV .u32 ((ft * 65536) % 4294967296)) rfl rfl ((Ys.pure (v := .int .u32 (ishl .u32 (ft : Int) ((16 : Nat) : Int))) (fun _ => kr)).conseq (int_congr (ishl_mod rfl ft 16 ma3))) (Wl.ys (v := nV .u32 (((mN xs) % 65536) ||| ((ft * 65536) % 4294967296))) rfl rfl ((Ys.pure (v := .int .u32 (bor .u32 (((mN xs) % 65536 : Nat) : Int) (((ft * 65536) % 4294967296 : Nat) : Int))) (fun _ => kr)).conseq (int_congr (bor_nat rfl ma24 ma24))) (Wl.run 1 ma0 ?_))))
         refine Wl.ht rfl (Ht.store (b := p16) (o' := 2) (i := 0) (j := 0) (v := nV .u32 (((mN xs) % 65536) ||| ((ft * 65536) % 4294967296))) (LL' := [cFl8_1472_4 ft p16 g77 xs, g77.seg 5 (mc b8 (mD xs)), cFl8_1472_0 p4, cFl8_1472_2 fd ff fs ft p3 fp, cFl8_1472_1 a cap fd fs id p2 pr tt xs]) rfl rfl ma0 ma0 Try.sizeOf23 rfl rfl rfl ma12 rfl rfl) (fun _ => Wl.nil (hK81 _ _ _ (W.pick (LL' := [cFl8_1472_4 ft p16 g77 xs, g77.seg 5 (mc b8 (mD xs)), cFl8_1472_0 p4, cFl8_1472_1 a cap fd fs id p2 pr tt xs]) [0, 1, 2, 4] ma3 rfl (W.prune' [2, 4, 16] [pV p2 0, pV p4 0, pV p16 0] ma0 (fun f92 => ?_)))))
         refine W.region (Wl.ys rfl rfl (Ys.loadN (b := p16) (o' := 0) (i := 0) (j := 0) (vs := [nV .u8 ((mT xs 0).toNat), nV .u8 ((mT xs 1).toNat), nV .u32 (((mN xs) % 65536) ||| ((ft * 65536) % 4294967296)), sV g77 ((mD xs).length)]) rfl ma0 Try.isAgg65 Try.sizeOf65 rfl rfl rfl rfl) ?_)
         have hl96 := mB_le (mT xs 0) (mT xs 1) (((mN xs) % 65536) ||| ((ft * 65536) % 4294967296)) (mD xs)
         refine Wl.htS rfl (HtS.call (β := FS) (k := 39) (args := #[aV [nV .u8 ((mT xs 0).toNat), nV .u8 ((mT xs 1).toNat), nV .u32 (((mN xs) % 65536) ||| ((ft * 65536) % 4294967296)), sV g77 ((mD xs).length)]]) (Lin := []) (Lk := [cFl8_1472_4 ft p16 g77 xs, g77.seg 5 (mc b8 (mD xs)), cFl8_1472_0 p4, cFl8_1472_1 a cap fd fs id p2 pr tt xs]) (Mi := []) (Lo := fun g93 => [g93.seg 5 (mc b8 (mB (mT xs 0) (mT xs 1) (((mN xs) % 65536) ||| ((ft * 65536) % 4294967296)) (mD xs))), cFl8_1472_4 ft p16 g77 xs, g77.seg 5 (mc b8 (mD xs)), cFl8_1472_0 p4, cFl8_1472_1 a cap fd fs id p2 pr tt xs]) [] [0, 1, 2, 3] rfl (fun _ => kr) ma3 rfl rfl rfl (fun w_ hm_ hl_ => (wicmpn_c (mT xs 0) (mT xs 1) (((mN xs) % 65536) ||| ((ft * 65536) % 4294967296)) (mD xs) g77.a g77.cap ((mD xs).length) _ ma5 (FS.at (i := 1) (t := 5) hm_ rfl (FS.nil_cs ok78 (mc_len1 _))) ma29 ma4 (by have z_ := ok78.le; first | exact z_ | omega | (simp at z_ ⊢; omega)))) (fun _ => rfl)) (fun g93 ok94 => Wl.run 4 ma0 (Wl.ht rfl (Ht.store (b := p2) (o' := 5) (i := 4) (j := 0) (v := sV g93 ((mB (mT xs 0) (mT xs 1) (((mN xs) % 65536) ||| ((ft * 65536) % 4294967296)) (mD xs)).length)) (LL' := [g93.seg 5 (mc b8 (mB (mT xs 0) (mT xs 1) (((mN xs) % 65536) ||| ((ft * 65536) % 4294967296)) (mD xs))), cFl8_1472_4 ft p16 g77 xs, g77.seg 5 (mc b8 (mD xs)), cFl8_1472_0 p4, cFl8_1472_8 fd fs ft id p2 g93 pr tt xs]) rfl rfl ma0 ma0 Try.sizeOf25 rfl rfl rfl ma12 rfl rfl) (fun _ => Wl.run 1 ma0 (Wl.nil ?_))))
         refine hK34 _ _ _ (W.seq (fun K97 hK97 => ?_))
         refine W.seq (fun K98 hK98 => W.region (Wl.run 2 ma0 (Wl.nil (hK98 _ _ _ ?_))))
         refine W.cond ((uE (mD xs).length) != 0) ma0 (fun h99 => ?_) (fun h100 => ?_)
         ·(exfalso; rw [mE_read] at h99; cases h99)
         ·have qh100 := h100; try simp only [zA] at qh100
          refine W.skip' (hK97 _ _ _ (W.pick (LL' := [g93.seg 5 (mc b8 (mB (mT xs 0) (mT xs 1) (((mN xs) % 65536) ||| ((ft * 65536) % 4294967296)) (mD xs))), cFl8_1472_0 p4, cFl8_1472_8 fd fs ft id p2 g93 pr tt xs]) [0, 3, 4] ma3 rfl (W.prune' [2, 4] [pV p2 0, pV p4 0] ma0 (fun f101 => W.seq (fun K102 hK102 => ?_)))))
          refine W.region (Wl.ys rfl rfl (Ys.loadN (b := p2) (o' := 0) (i := 2) (j := 0) (vs := [nV .u8 tt.toNat, nV .u8 pr.toNat, nV .u16 id, nV .u32 fs, nV .u32 fd, sV g93 ((mB (mT xs 0) (mT xs 1) (((mN xs) % 65536) ||| ((ft * 65536) % 4294967296)) (mD xs)).length)]) rfl ma0 Try.isAgg27 Try.sizeOf27 rfl rfl rfl rfl) (Wl.ht rfl (Ht.storeN (b := p4) (o' := 0) (i := 1) (j := 0) (vs := [nV .u8 tt.toNat, nV .u8 pr.toNat, nV .u16 id, nV .u32 fs, nV .u32 fd, sV g93 ((mB (mT xs 0) (mT xs 1) (((mN xs) % 65536) ||| ((ft * 65536) % 4294967296)) (mD xs)).length)]) (LL' := [g93.seg 5 (mc b8 (mB (mT xs 0) (mT xs 1) (((mN xs) % 65536) ||| ((ft * 65536) % 4294967296)) (mD xs))), [cb p4 [nV .u8 tt.toNat, nV .u8 pr.toNat, nV .u16 id, nV .u32 fs, nV .u32 fd, sV g93 ((mB (mT xs 0) (mT xs 1) (((mN xs) % 65536) ||| ((ft * 65536) % 4294967296)) (mD xs)).length)] 27], cFl8_1472_8 fd fs ft id p2 g93 pr tt xs]) rfl rfl ma0 ma0 Try.sizeOf27 ma9 rfl rfl ma12 rfl rfl) (fun _ => Wl.run 1 ma0 (Wl.nil ?_))))
          refine hK102 _ _ _ (W.ret ?_)
          have hG : rwG pr s d xs fp = true := by unfold rwG; rw [h7, h11]; rfl
          have hX : rwX pr s d xs fp = 0 := by unfold rwX; rw [h7, h11]; rfl
          have hB : rwB pr s d xs fp fs fd ff ft = mB (mT xs 0) (mT xs 1) (((mN xs) % 65536) ||| ((ft * 65536) % 4294967296)) (mD xs) := by unfold rwB; rw [hG, show isT pr = false from h38, show isU pr = false from h59, h90]; rfl
          show ∀ w_, _ → bodyPostM (fence none) 0 Try.prog Try.f18 _ Exit.ret _ w_
          exact fun w_ hS_ => fin_ret (ret2 rfl (RV.cellN (b := p4) (o' := 0) (i := 1) (j := 0) (cs := [nV .u8 tt.toNat, nV .u8 pr.toNat, nV .u16 id, nV .u32 fs, nV .u32 fd, sV g93 ((mB (mT xs 0) (mT xs 1) (((mN xs) % 65536) ||| ((ft * 65536) % 4294967296)) (mD xs)).length)]) (vs := [nV .u8 tt.toNat, nV .u8 pr.toNat, nV .u16 id, nV .u32 fs, nV .u32 fd, sV g93 ((mB (mT xs 0) (mT xs 1) (((mN xs) % 65536) ||| ((ft * 65536) % 4294967296)) (mD xs)).length)]) ma0 Try.isAgg27 Try.sizeOf27 rfl rfl rfl rfl) (RV.tmp (v := iV .i64 0) ma0) hS_ ⟨g93, (by rw [hB]; exact ok94), congrArg Ending.returned ((by rw [hB, hG, hX]; rfl)), (Mem.cast (by rw [hB]; rfl) (hS_.pick [0] ma3 rfl))⟩)
        ·refine W.skip' (hK86 _ _ _ (W.region (Wl.run 1 ma0 (Wl.ys rfl rfl (Ys.l1 p16 2 0 0 Try.isAgg23) ?_))))
         refine Wl.ys (v := nV .u32 ((mN xs) % 65536)) rfl rfl ((Ys.pure (v := .int .u32 (band .u32 (mN xs : Int) ((65535 : Nat) : Int))) (fun _ => kr)).conseq (int_congr (band_mask rfl (a := mN xs) (c := 16) ma24 ma3 65535 rfl))) (Wl.run 1 ma0 (Wl.ys (v := nV .u32 ff) rfl rfl ((Ys.pure (v := .int .u32 (icnv .u32 (ff : Int))) (fun _ => kr)).conseq (int_congr (wrap_u32 ma1 ma1))) (Wl.ys (v := nV .u32 ((ff * 65536) % 4294967296)) rfl rfl ((Ys.pure (v := .int .u32 (ishl .u32 (ff : Int) ((16 : Nat) : Int))) (fun _ => kr)).conseq (int_congr (ishl_mod rfl ff 16 ma3))) (Wl.ys (v := nV .u32 (((mN xs) % 65536) ||| ((ff * 65536) % 4294967296))) rfl rfl ((Ys.pure (v := .int .u32 (bor .u32 (((mN xs) % 65536 : Nat) : Int) (((ff * 65536) % 4294967296 : Nat) : Int))) (fun _ => kr)).conseq (int_congr (bor_nat rfl ma24 ma24))) ?_))))
         refine Wl.run 1 ma0 (Wl.ht rfl (Ht.store (b := p16) (o' := 2) (i := 0) (j := 0) (v := nV .u32 (((mN xs) % 65536) ||| ((ff * 65536) % 4294967296))) (LL' := [cFl8_1472_5 ff p16 g77 xs, g77.seg 5 (mc b8 (mD xs)), cFl8_1472_0 p4, cFl8_1472_2 fd ff fs ft p3 fp, cFl8_1472_1 a cap fd fs id p2 pr tt xs]) rfl rfl ma0 ma0 Try.sizeOf23 rfl rfl rfl ma12 rfl rfl) (fun _ => ?_))
         refine Wl.nil (hK81 _ _ _ (W.pick (LL' := [cFl8_1472_5 ff p16 g77 xs, g77.seg 5 (mc b8 (mD xs)), cFl8_1472_0 p4, cFl8_1472_1 a cap fd fs id p2 pr tt xs]) [0, 1, 2, 4] ma3 rfl (W.prune' [2, 4, 16] [pV p2 0, pV p4 0, pV p16 0] ma0 (fun f103 => W.region ?_))))
         refine Wl.ys rfl rfl (Ys.loadN (b := p16) (o' := 0) (i := 0) (j := 0) (vs := [nV .u8 ((mT xs 0).toNat), nV .u8 ((mT xs 1).toNat), nV .u32 (((mN xs) % 65536) ||| ((ff * 65536) % 4294967296)), sV g77 ((mD xs).length)]) rfl ma0 Try.isAgg65 Try.sizeOf65 rfl rfl rfl rfl) ?_
         have hl107 := mB_le (mT xs 0) (mT xs 1) (((mN xs) % 65536) ||| ((ff * 65536) % 4294967296)) (mD xs)
         refine Wl.htS rfl (HtS.call (β := FS) (k := 39) (args := #[aV [nV .u8 ((mT xs 0).toNat), nV .u8 ((mT xs 1).toNat), nV .u32 (((mN xs) % 65536) ||| ((ff * 65536) % 4294967296)), sV g77 ((mD xs).length)]]) (Lin := []) (Lk := [cFl8_1472_5 ff p16 g77 xs, g77.seg 5 (mc b8 (mD xs)), cFl8_1472_0 p4, cFl8_1472_1 a cap fd fs id p2 pr tt xs]) (Mi := []) (Lo := fun g104 => [g104.seg 5 (mc b8 (mB (mT xs 0) (mT xs 1) (((mN xs) % 65536) ||| ((ff * 65536) % 4294967296)) (mD xs))), cFl8_1472_5 ff p16 g77 xs, g77.seg 5 (mc b8 (mD xs)), cFl8_1472_0 p4, cFl8_1472_1 a cap fd fs id p2 pr tt xs]) [] [0, 1, 2, 3] rfl (fun _ => kr) ma3 rfl rfl rfl (fun w_ hm_ hl_ => (wicmpn_c (mT xs 0) (mT xs 1) (((mN xs) % 65536) ||| ((ff * 65536) % 4294967296)) (mD xs) g77.a g77.cap ((mD xs).length) _ ma5 (FS.at (i := 1) (t := 5) hm_ rfl (FS.nil_cs ok78 (mc_len1 _))) ma29 ma4 (by have z_ := ok78.le; first | exact z_ | omega | (simp at z_ ⊢; omega)))) (fun _ => rfl)) (fun g104 ok105 => Wl.run 4 ma0 (Wl.ht rfl (Ht.store (b := p2) (o' := 5) (i := 4) (j := 0) (v := sV g104 ((mB (mT xs 0) (mT xs 1) (((mN xs) % 65536) ||| ((ff * 65536) % 4294967296)) (mD xs)).length)) (LL' := [g104.seg 5 (mc b8 (mB (mT xs 0) (mT xs 1) (((mN xs) % 65536) ||| ((ff * 65536) % 4294967296)) (mD xs))), cFl8_1472_5 ff p16 g77 xs, g77.seg 5 (mc b8 (mD xs)), cFl8_1472_0 p4, cFl8_1472_7 fd ff fs id p2 g104 pr tt xs]) rfl rfl ma0 ma0 Try.sizeOf25 rfl rfl rfl ma12 rfl rfl) (fun _ => Wl.run 1 ma0 (Wl.nil ?_))))
         refine hK34 _ _ _ (W.seq (fun K108 hK108 => ?_))
         refine W.seq (fun K109 hK109 => W.region (Wl.run 2 ma0 (Wl.nil (hK109 _ _ _ ?_))))
         refine W.cond ((uE (mD xs).length) != 0) ma0 (fun h110 => ?_) (fun h111 => ?_)
         ·(exfalso; rw [mE_read] at h110; cases h110)
         ·have qh111 := h111; try simp only [zA] at qh111
          refine W.skip' (hK108 _ _ _ (W.pick (LL' := [g104.seg 5 (mc b8 (mB (mT xs 0) (mT xs 1) (((mN xs) % 65536) ||| ((ff * 65536) % 4294967296)) (mD xs))), cFl8_1472_0 p4, cFl8_1472_7 fd ff fs id p2 g104 pr tt xs]) [0, 3, 4] ma3 rfl (W.prune' [2, 4] [pV p2 0, pV p4 0] ma0 (fun f112 => W.seq (fun K113 hK113 => ?_)))))
          refine W.region (Wl.ys rfl rfl (Ys.loadN (b := p2) (o' := 0) (i := 2) (j := 0) (vs := [nV .u8 tt.toNat, nV .u8 pr.toNat, nV .u16 id, nV .u32 fs, nV .u32 fd, sV g104 ((mB (mT xs 0) (mT xs 1) (((mN xs) % 65536) ||| ((ff * 65536) % 4294967296)) (mD xs)).length)]) rfl ma0 Try.isAgg27 Try.sizeOf27 rfl rfl rfl rfl) (Wl.ht rfl (Ht.storeN (b := p4) (o' := 0) (i := 1) (j := 0) (vs := [nV .u8 tt.toNat, nV .u8 pr.toNat, nV .u16 id, nV .u32 fs, nV .u32 fd, sV g104 ((mB (mT xs 0) (mT xs 1) (((mN xs) % 65536) ||| ((ff * 65536) % 4294967296)) (mD xs)).length)]) (LL' := [g104.seg 5 (mc b8 (mB (mT xs 0) (mT xs 1) (((mN xs) % 65536) ||| ((ff * 65536) % 4294967296)) (mD xs))), [cb p4 [nV .u8 tt.toNat, nV .u8 pr.toNat, nV .u16 id, nV .u32 fs, nV .u32 fd, sV g104 ((mB (mT xs 0) (mT xs 1) (((mN xs) % 65536) ||| ((ff * 65536) % 4294967296)) (mD xs)).length)] 27], cFl8_1472_7 fd ff fs id p2 g104 pr tt xs]) rfl rfl ma0 ma0 Try.sizeOf27 ma9 rfl rfl ma12 rfl rfl) (fun _ => Wl.run 1 ma0 (Wl.nil ?_))))
          refine hK113 _ _ _ (W.ret ?_)
          have hG : rwG pr s d xs fp = true := by unfold rwG; rw [h7, h11]; rfl
          have hX : rwX pr s d xs fp = 0 := by unfold rwX; rw [h7, h11]; rfl
          have hB : rwB pr s d xs fp fs fd ff ft = mB (mT xs 0) (mT xs 1) (((mN xs) % 65536) ||| ((ff * 65536) % 4294967296)) (mD xs) := by unfold rwB; rw [hG, show isT pr = false from h38, show isU pr = false from h59, h91]; rfl
          show ∀ w_, _ → bodyPostM (fence none) 0 Try.prog Try.f18 _ Exit.ret _ w_
          exact fun w_ hS_ => fin_ret (ret2 rfl (RV.cellN (b := p4) (o' := 0) (i := 1) (j := 0) (cs := [nV .u8 tt.toNat, nV .u8 pr.toNat, nV .u16 id, nV .u32 fs, nV .u32 fd, sV g104 ((mB (mT xs 0) (mT xs 1) (((mN xs) % 65536) ||| ((ff * 65536) % 4294967296)) (mD xs)).length)]) (vs := [nV .u8 tt.toNat, nV .u8 pr.toNat, nV .u16 id, nV .u32 fs, nV .u32 fd, sV g104 ((mB (mT xs 0) (mT xs 1) (((mN xs) % 65536) ||| ((ff * 65536) % 4294967296)) (mD xs)).length)]) ma0 Try.isAgg27 Try.sizeOf27 rfl rfl rfl rfl) (RV.tmp (v := iV .i64 0) ma0) hS_ ⟨g104, (by rw [hB]; exact ok105), congrArg Ending.returned ((by rw [hB, hG, hX]; rfl)), (Mem.cast (by rw [hB]; rfl) (hS_.pick [0] ma3 rfl))⟩)
    ·have qh32 := h32; try simp only [zA] at qh32
     (exfalso; simp at h32; exact hk h32.1)
   ·have qh23 := h23; try simp only [zA] at qh23
    (exfalso; simp at h23; exact hk h23.1)
end Go.Proofs.Ytejeafjkhomdoaa.Oct
