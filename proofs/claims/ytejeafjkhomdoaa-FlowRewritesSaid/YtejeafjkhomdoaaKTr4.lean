import Derived.Test.YtejeafjkhomdoaaKTr3
set_option linter.unusedVariables false
set_option linter.unusedSimpArgs false
set_option maxRecDepth 20000
namespace Go.Proofs.Ytejeafjkhomdoaa.Oct
open Go.RowKit Base
attribute [local irreducible] Ys Yc Ht HtS HtIn Wl Wd W Mem pf dpf Wa Wo
theorem wudpn_c (s d fr to : Nat) (pl : Bool) (xs : List UInt8) (a : Option Addr) (cap : Nat) (len : Nat) (w : World) (hn : len = xs.length) (hat : At w a (byc xs)) (hs : s < 4294967296) (hd : d < 4294967296) (hf : fr < 65536) (ht : to < 65536) (hl : xs.length ≤ 100000) (hlc : xs.length ≤ cap)  : Calls Try.prog 35 #[.int .u32 (s : Int), .int .u32 (d : Int), Value.agg ([Value.int .u16 (fr : Int), Value.int .u16 (to : Int), Value.bool pl, Value.slice a len cap]).toArray] w (RetM w (fun g : FS => g.ok 1 (uB s d fr to pl xs).length) (fun g => .tuple #[.slice g.a (uB s d fr to pl xs).length g.cap, .int .i64 (uE xs.length)]) [] (fun g => [g.seg 5 (byc (uB s d fr to pl xs))])) := by
  subst hn; exact wudp_c s d fr to pl xs a cap w hat hs hd hf ht hl hlc
theorem rwudpn_c (s d fr to : Nat) (pl : Bool) (xs : List UInt8) (a : Option Addr) (cap : Nat) (len : Nat) (w : World) (hn : len = xs.length) (hat : At w a (byc xs)) (hs : s < 4294967296) (hd : d < 4294967296) (hf : fr < 65536) (ht : to < 65536) (hl : xs.length ≤ 100000) (hlc : xs.length ≤ cap)  : Calls Try.prog 41 #[.int .u32 (s : Int), .int .u32 (d : Int), Value.agg ([Value.int .u16 (fr : Int), Value.int .u16 (to : Int), Value.bool pl, Value.slice a len cap]).toArray] w (RetM w (fun g : FS => g.ok 1 (uB s d fr to pl xs).length) (fun g => .tuple #[.slice g.a (uB s d fr to pl xs).length g.cap, .int .i64 (uE xs.length)]) [] (fun g => [g.seg 5 (byc (uB s d fr to pl xs))])) := by
  subst hn; exact rwudp_c s d fr to pl xs a cap w hat hs hd hf ht hl hlc
theorem rudpn_c (s d : Nat) (xs : List UInt8) (a : Option Addr) (cap : Nat) (len : Nat) (w : World) (hn : len = xs.length) (hat : At w a (byc xs)) (hs : s < 4294967296) (hd : d < 4294967296) (hl : len ≤ 100000) (hlc : len ≤ cap) : Calls Try.prog 23 #[.int .u32 (s : Int), .int .u32 (d : Int), .slice a len cap] w (RetM w (fun g : FS => g.ok 1 (uD s d xs).length) (fun g => .tuple #[.agg [.int .u16 ((uF s d xs 0 : Nat) : Int), .int .u16 ((uF s d xs 2 : Nat) : Int), .bool (uP s d xs), .slice g.a (uD s d xs).length g.cap].toArray, .int .i64 (uR s d xs)]) [] (fun g => [g.seg 5 (byc (uD s d xs))])) := by
  subst hn; exact rudp_c s d xs a cap w hat hs hd hl hlc
theorem rrudpn_c (s d : Nat) (xs : List UInt8) (a : Option Addr) (cap : Nat) (len : Nat) (w : World) (hn : len = xs.length) (hat : At w a (byc xs)) (hs : s < 4294967296) (hd : d < 4294967296) (hl : len ≤ 100000) (hlc : len ≤ cap) : Calls Try.prog 26 #[.int .u32 (s : Int), .int .u32 (d : Int), .slice a len cap] w (RetM w (fun g : FS => g.ok 1 (uD s d xs).length) (fun g => .tuple #[.agg [.int .u16 ((uF s d xs 0 : Nat) : Int), .int .u16 ((uF s d xs 2 : Nat) : Int), .bool (uP s d xs), .slice g.a (uD s d xs).length g.cap].toArray, .int .i64 (uR s d xs)]) [] (fun g => [g.seg 5 (byc (uD s d xs))])) := by
  subst hn; exact rrudp_c s d xs a cap w hat hs hd hl hlc
theorem pw_mid {pre zs : List UInt8} {n : Nat} (hp : pre.length % 2 = 0) (hn : n < 65536) : (pw (pre ++ (be 2 n ++ zs))).sum = (pw pre).sum + n + (pw zs).sum := by
  rw [pw_app _ _ hp, pw_app _ _ (by rw [be_len]), pw_be2 hn]
  simp; omega
theorem fd_seal (S : Nat) : fd (S + sealN (65535 - fd S)) = 65535 := by
  by_cases h0 : S = 0
  · subst h0; decide
  · obtain ⟨r, hr⟩ : ∃ r, r = (S - 1) % 65535 := ⟨_, rfl⟩
    have hf : fd S = r + 1 := by unfold fd; rw [if_neg h0, hr]
    have hr2 : r < 65535 := by omega
    rw [hf]
    unfold sealN
    by_cases h1 : 65535 - (r + 1) = 0
    · rw [if_pos h1]; unfold fd; rw [if_neg ma1]; omega
    · rw [if_neg h1]; unfold fd; rw [if_neg ma1]; omega
theorem seal_zero {pre zs : List UInt8} (hp : pre.length % 2 = 0) : cks (pre ++ (be 2 (sealN (cks (pre ++ (be 2 0 ++ zs)))) ++ zs)) = 0 := by
  have h0 := pw_mid (pre := pre) (zs := zs) (n := 0) hp ma3
  have hc := cks_le (pre ++ (be 2 0 ++ zs))
  have hs : sealN (cks (pre ++ (be 2 0 ++ zs))) < 65536 := by unfold sealN; split <;> omega
  have h1 := pw_mid (pre := pre) (zs := zs) hp hs
  have hS : cks (pre ++ (be 2 0 ++ zs)) = 65535 - fd ((pw pre).sum + (pw zs).sum) := by unfold cks; rw [h0, Nat.add_zero]
  unfold cks at *
  rw [h1, hS]
  have := fd_seal ((pw pre).sum + (pw zs).sum)
  rw [show (pw pre).sum + sealN (65535 - fd ((pw pre).sum + (pw zs).sum)) + (pw zs).sum = (pw pre).sum + (pw zs).sum + sealN (65535 - fd ((pw pre).sum + (pw zs).sum)) by omega, this]
def uX (fr to m : Nat) (xs : List UInt8) : List UInt8 := (UInt8.ofNat (fr / 256) :: UInt8.ofNat fr :: UInt8.ofNat (to / 256) :: UInt8.ofNat to :: UInt8.ofNat ((8 + xs.length) / 256) :: UInt8.ofNat (8 + xs.length) :: UInt8.ofNat (m / 256) :: UInt8.ofNat m :: xs)
theorem uX_app (fr to m : Nat) (xs : List UInt8) : uX fr to m xs = (be 2 fr ++ be 2 to ++ be 2 (8 + xs.length)) ++ (be 2 m ++ xs) := rfl
theorem sput_uH (fr to n : Nat) (xs : List UInt8) : sput (uH fr to xs) 6 n = uX fr to n xs := rfl
theorem uH_X (fr to : Nat) (xs : List UInt8) : uH fr to xs = uX fr to 0 xs := rfl
theorem uB_X {s d fr to : Nat} {pl : Bool} {xs : List UInt8} (h : ¬ 1472 < xs.length) : uB s d fr to pl xs = uX fr to (bif pl then 0 else sealN (uC s d fr to xs)) xs := by
  unfold uB; rw [if_neg h]; cases pl
  · simp only [cond_false]; exact sput_uH fr to _ xs
  · simp only [cond_true]; exact uH_X fr to xs
theorem uX_zero (s d fr to : Nat) (xs : List UInt8) : cks (psh s d 17 (8 + xs.length) ++ uX fr to (sealN (uC s d fr to xs)) xs) = 0 := by
  have e : uC s d fr to xs = cks ((psh s d 17 (8 + xs.length) ++ (be 2 fr ++ be 2 to ++ be 2 (8 + xs.length))) ++ (be 2 0 ++ xs)) := by
    unfold uC uH; simp only [List.append_assoc]
  rw [uX_app, ← List.append_assoc, e]
  exact seal_zero (by simp [psh_len, be_len])
theorem sealN_pos (c : Nat) : sealN c ≠ 0 := by unfold sealN; split <;> omega
theorem sealN_lt {c : Nat} (h : c ≤ 65535) : sealN c < 65536 := by unfold sealN; split <;> omega
theorem two_back {n : Nat} (h : n < 65536) : 256 * (UInt8.ofNat (n / 256)).toNat + (UInt8.ofNat n).toNat = n := by
  rw [UInt8.toNat_ofNat', UInt8.toNat_ofNat']; omega
theorem uX_w {fr to m : Nat} {xs ys : List UInt8} (hf : fr < 65536) (ht : to < 65536) (hm : m < 65536) (hx : ¬ 1472 < xs.length) :
    w2 (uX fr to m xs ++ ys) 0 = fr ∧ w2 (uX fr to m xs ++ ys) 2 = to ∧ w2 (uX fr to m xs ++ ys) 4 = 8 + xs.length ∧ w2 (uX fr to m xs ++ ys) 6 = m :=
  ⟨two_back hf, two_back ht, two_back ma1, two_back hm⟩
theorem uX_len (fr to m : Nat) (xs : List UInt8) : (uX fr to m xs).length = 8 + xs.length := by unfold uX; simp only [List.length_cons]; omega
theorem td_back {s d fr to : Nat} {pl : Bool} {xs ys : List UInt8} (hf : fr < 65536) (ht : to < 65536) (h1 : uE xs.length = 0) (h2 : (uB s d fr to pl xs).length + ys.length ≤ 1480) : (((uR s d ((uB s d fr to pl xs) ++ ys)) == 0) && ((((((uF s d ((uB s d fr to pl xs) ++ ys) 0) : Int) == (fr : Int)) && ((((uF s d ((uB s d fr to pl xs) ++ ys) 2) : Nat) : Int) == (to : Int))) && ((uP s d ((uB s d fr to pl xs) ++ ys)) == pl)) && ((uD s d ((uB s d fr to pl xs) ++ ys)) == xs))) = true := by
  have hx : ¬ 1472 < xs.length := by
    unfold uE at h1; split at h1
    · cases h1
    · assumption
  rw [uB_X hx] at h2 ⊢
  obtain ⟨m, hm⟩ : ∃ m, m = bif pl then 0 else sealN (uC s d fr to xs) := ⟨_, rfl⟩
  rw [← hm] at h2 ⊢
  have hml : m < 65536 := by
    rw [hm]; cases pl
    · have hq : uC s d fr to xs ≤ 65535 := by unfold uC; exact cks_le _
      simp only [cond_false]; exact sealN_lt hq
    · simp only [cond_true]; decide
  obtain ⟨e0, e2, e4, e6⟩ := uX_w (ys := ys) hf ht hml hx
  have hl := uX_len fr to m xs
  obtain ⟨Z, hZ⟩ : ∃ Z, Z = uX fr to m xs ++ ys := ⟨_, rfl⟩
  rw [← hZ] at e0 e2 e4 e6 ⊢
  have hZl : Z.length = 8 + xs.length + ys.length := by rw [hZ, List.length_append, hl]
  have htk : Z.take (8 + xs.length) = uX fr to m xs := by rw [hZ, ← hl]; exact List.take_left ..
  have hsum : ¬ (w2 Z 6 ≠ 0 ∧ cks (psh s d 17 (w2 Z 4) ++ Z.take (w2 Z 4)) ≠ 0) := by
    rw [e4, e6, htk]
    cases pl
    · have hm2 := hm; simp only [cond_false] at hm2
      rw [hm2, uX_zero]; simp
    · have hm2 := hm; simp only [cond_true] at hm2
      simp [hm2]
  have hR : uR s d Z = 0 := by unfold uR; rw [if_neg ma1, if_neg ma1, if_neg ma1, if_neg hsum]
  have hG : ug s d Z = true := by unfold ug; rw [hR]; rfl
  have hD : uD s d Z = xs := by
    unfold uD; rw [hG, e4, show 8 + xs.length - 8 = xs.length by omega, hZ]
    show (xs ++ ys).take xs.length = xs
    exact List.take_left ..
  have hP : uP s d Z = pl := by
    unfold uP; rw [hG, e6, hm]; cases pl
    · simp [sealN_pos]
    · rfl
  have f0 : uF s d Z 0 = fr := by unfold uF; rw [hG, e0]; rfl
  have f2 : uF s d Z 2 = to := by unfold uF; rw [hG, e2]; rfl
  rw [hR, f0, f2, hP, hD]; simp
end Go.Proofs.Ytejeafjkhomdoaa.Oct
