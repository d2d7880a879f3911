import Derived.Test.YtejeafjkhomdoaaKRe2
set_option linter.unusedVariables false
set_option linter.unusedSimpArgs false
set_option maxRecDepth 20000
namespace Go.Proofs.Ytejeafjkhomdoaa.Oct
open Go.RowKit Base
attribute [local irreducible] Ys Yc Ht HtS HtIn Wl Wd W Mem pf dpf Wa Wo
theorem hw_a4 (z : List UInt8) (k : Nat) : hw (a4 z k) = w2 z k := by unfold hw a4; have h1 := w2_lt z k; have h2 := w2_lt z (k + 2); omega
theorem lw_a4 (z : List UInt8) (k : Nat) : lw (a4 z k) = w2 z (k + 2) := by unfold lw a4; have h1 := w2_lt z k; have h2 := w2_lt z (k + 2); omega
theorem bput_sort (zs : List UInt8) (k n j m : Nat) (h : j + 2 ≤ k) : bput (bput zs k n) j m = bput (bput zs j m) k n := bput_comm zs h
def nxL (ns nd nf nt : Nat) : List Nat := [hw ns, lw ns, hw nd, lw nd, nf, nt]
theorem nxL_lt {ns nd nf nt : Nat} (h1 : ns < 4294967296) (h2 : nd < 4294967296) (h3 : nf < 65536) (h4 : nt < 65536) (i : Nat) : (nxL ns nd nf nt).getD i 0 < 65536 := by
  unfold nxL
  match i with
  | 0 => exact hw_lt ns
  | 1 => exact lw_lt ns
  | 2 => exact hw_lt nd
  | 3 => exact lw_lt nd
  | 4 => exact h3
  | 5 => exact h4
  | _ + 6 => simp
def rlS (dp : Bool) (k i o n : Nat) (z : List UInt8) : List UInt8 :=
  bput (bif dp then bput (bif decide (((i : Nat) : Int) < 4) then bput z 10 (upc (w2 z 10) o n) else z) k (upc (w2 z k) o n) else (bif decide (((i : Nat) : Int) < 4) then bput z 10 (upc (w2 z 10) o n) else z)) (12 + 2 * i) n
def rlp (zs : List UInt8) (NX : List Nat) (is1 dp : Bool) (k : Nat) : Nat → List UInt8
  | 0 => zs
  | i + 1 => bif decide (((i : Nat) : Int) > 3) && is1 then rlp zs NX is1 dp k i else rlS dp k i (w2 (rlp zs NX is1 dp k i) (12 + 2 * i)) (NX.getD i 0) (rlp zs NX is1 dp k i)
theorem rlp_s {zs z : List UInt8} {NX : List Nat} {is1 dp : Bool} {k i : Nat} (h : rlp zs NX is1 dp k i = z) (hc : (decide (((i : Nat) : Int) > 3) && is1) = false) : rlp zs NX is1 dp k (i + 1) = rlS dp k i (w2 z (12 + 2 * i)) (NX.getD i 0) z := by
  show (bif _ then _ else _) = _
  rw [hc, h]; rfl
theorem rlp_1 {zs z : List UInt8} {NX : List Nat} {is1 dp : Bool} {k i : Nat} (h : rlp zs NX is1 dp k i = z) (hc : (decide (((i : Nat) : Int) > 3) && is1) = true) : rlp zs NX is1 dp k (i + 1) = z := by
  show (bif _ then _ else _) = _
  rw [hc, h]; rfl
theorem w2_bne' (zs : List UInt8) (k n p : Nat) (h : p + 2 ≤ k ∨ k + 2 ≤ p) : w2 (bput zs k n) p = w2 zs p := w2_ne rfl h
theorem w2_beq' (zs : List UInt8) (k n : Nat) (hl : k + 2 ≤ zs.length) (hn : n < 65536) : w2 (bput zs k n) k = n := w2_eq rfl hl hn
theorem upc_lt' (n a b : Nat) : upc n a b < 65536 := upc_lt n a b
theorem set_getD (zs : List UInt8) (k : Nat) : zs.set k (zs.getD k 0) = zs := by
  apply List.ext_getElem?
  intro i
  by_cases h : i = k
  · subst h
    by_cases hl : i < zs.length
    · rw [List.getElem?_set_self hl]; simp [hl]
    · rw [List.getElem?_eq_none (by simp; omega), List.getElem?_eq_none ma1]
  · rw [List.getElem?_set_ne ma1]
theorem bput_self (zs : List UInt8) (k : Nat) : bput zs k (w2 zs k) = zs := by
  have h1 : UInt8.ofNat (w2 zs k / 256) = zs.getD k 0 := by
    have := UInt8.toNat_lt (zs.getD (k + 1) 0); have := UInt8.toNat_lt (zs.getD k 0)
    refine UInt8.toNat_inj.1 ?_
    rw [UInt8.toNat_ofNat']; unfold w2; omega
  have h2 : UInt8.ofNat (w2 zs k % 256) = zs.getD (k + 1) 0 := by
    have := UInt8.toNat_lt (zs.getD (k + 1) 0); have := UInt8.toNat_lt (zs.getD k 0)
    refine UInt8.toNat_inj.1 ?_
    rw [UInt8.toNat_ofNat']; unfold w2; omega
  unfold bput
  rw [h1, h2, set_getD, set_getD]
theorem rl_a {P : List UInt8} {c o n i k : Nat} (hi : i < 4) (hl : 28 ≤ P.length) (hc : c < 65536) : rlS false k i o n (bput P 10 c) = bput (bput P (12 + 2 * i) n) 10 (upc c o n) := by
  unfold rlS
  rw [show (decide (((i : Nat) : Int) < 4)) = true from decide_eq_true ma1]
  simp only [cond_true, cond_false]
  rw [w2_beq' P 10 c ma1 hc, bput_same, ← bput_sort _ _ _ _ _ (show 10 + 2 ≤ 12 + 2 * i by omega)]
theorem rl_k {P : List UInt8} {c d o n i k : Nat} (hi : i < 4) (hk : k = 26 ∨ k = 36) (hl : k + 2 ≤ P.length) (hc : c < 65536) (hd : d < 65536) : rlS true k i o n (bput (bput P 10 c) k d) = bput (bput (bput P (12 + 2 * i) n) 10 (upc c o n)) k (upc d o n) := by
  unfold rlS
  rw [show (decide (((i : Nat) : Int) < 4)) = true from decide_eq_true ma1]
  simp only [cond_true, cond_false]
  rw [w2_bne' _ k d 10 ma1, w2_beq' P 10 c ma1 hc, w2_beq' _ k d (by rw [bput_len]; omega) hd]
  rw [bput_sort _ k d 10 _ ma1, bput_same, bput_same, bput_sort _ k _ (12 + 2 * i) _ ma1, ← bput_sort _ _ _ _ _ (show 10 + 2 ≤ 12 + 2 * i by omega)]
theorem rl_p {P : List UInt8} {c d o n i k : Nat} (hi : i = 4 ∨ i = 5) (hk : k = 26 ∨ k = 36) (hl : k + 2 ≤ P.length) (hd : d < 65536) : rlS true k i o n (bput (bput P 10 c) k d) = bput (bput (bput P (12 + 2 * i) n) 10 c) k (upc d o n) := by
  unfold rlS
  rw [show (decide (((i : Nat) : Int) < 4)) = false from decide_eq_false ma1]
  simp only [cond_true, cond_false]
  rw [w2_beq' _ k d (by rw [bput_len]; omega) hd]
  rw [bput_same, bput_sort _ k _ (12 + 2 * i) _ ma1, ← bput_sort _ _ _ _ _ (show 10 + 2 ≤ 12 + 2 * i by omega)]
theorem rlp4 {zs : List UInt8} (ns nd nf nt : Nat) (is1 : Bool) (hl : 28 ≤ zs.length) : rlp zs (nxL ns nd nf nt) is1 false 0 4 = rt5 zs (a4 zs 12) (a4 zs 16) ns nd := by
  have L := bput_len
  have e0 : rlp zs (nxL ns nd nf nt) is1 false 0 0 = bput zs 10 (w2 zs 10) := (bput_self zs 10).symm
  have e1 := (rlp_s (i := 0) e0 rfl).trans (rl_a ma1 hl (w2_lt _ _))
  have e2 := (rlp_s (i := 1) e1 rfl).trans (rl_a ma1 (by rw [L]; exact hl) (upc_lt' _ _ _))
  have e3 := (rlp_s (i := 2) e2 rfl).trans (rl_a ma1 (by rw [L, L]; exact hl) (upc_lt' _ _ _))
  have e4 := (rlp_s (i := 3) e3 rfl).trans (rl_a ma1 (by rw [L, L, L]; exact hl) (upc_lt' _ _ _))
  rw [e4, w2_bne' _ _ _ _ ma1, w2_bne' _ _ _ _ ma1, w2_bne' _ _ _ _ ma1, w2_bne' _ _ _ _ ma1, w2_bne' _ _ _ _ ma1, w2_bne' _ _ _ _ ma1, w2_bne' _ _ _ _ ma1, w2_bne' _ _ _ _ ma1, w2_bne' _ _ _ _ ma1, w2_bne' _ _ _ _ ma1]
  unfold rt5 rt4 rtL upl
  simp only [List.foldl_cons, List.foldl_nil, hw_a4, lw_a4]
  rfl
theorem rlp_is1 {zs : List UInt8} (ns nd nf nt : Nat) (hl : 28 ≤ zs.length) : rlp zs (nxL ns nd nf nt) true false 0 6 = rt5 zs (a4 zs 12) (a4 zs 16) ns nd := rlp_1 (i := 5) (rlp_1 (i := 4) (rlp4 ns nd nf nt true hl) rfl) rfl
theorem rlp_no {zs : List UInt8} (ns nd nf nt : Nat) (hl : 28 ≤ zs.length) : rlp zs (nxL ns nd nf nt) false false 0 6 = rt7 zs (a4 zs 12) (a4 zs 16) ns nd nf nt := by
  have e5 := rlp_s (i := 4) (rlp4 ns nd nf nt false hl) rfl
  have e6 := rlp_s (i := 5) e5 rfl
  rw [e6]; rfl
theorem rlp_k {zs : List UInt8} (ns nd nf nt : Nat) (k : Nat) (hk : k = 26 ∨ k = 36) (hkl : k + 2 ≤ zs.length) : rlp zs (nxL ns nd nf nt) false true k 6 = bput (rt7 zs (a4 zs 12) (a4 zs 16) ns nd nf nt) k (upl (w2 zs k) (rtL (a4 zs 12) (a4 zs 16) ns nd ++ [(w2 zs 20, nf), (w2 zs 22, nt)])) := by
  have L := bput_len
  have e0 : rlp zs (nxL ns nd nf nt) false true k 0 = bput (bput zs 10 (w2 zs 10)) k (w2 zs k) := by rw [bput_self, bput_self]; rfl
  have e1 := (rlp_s (i := 0) e0 rfl).trans (rl_k ma1 hk hkl (w2_lt _ _) (w2_lt _ _))
  have e2 := (rlp_s (i := 1) e1 rfl).trans (rl_k ma1 hk (by rw [L]; exact hkl) (upc_lt' _ _ _) (upc_lt' _ _ _))
  have e3 := (rlp_s (i := 2) e2 rfl).trans (rl_k ma1 hk (by rw [L, L]; exact hkl) (upc_lt' _ _ _) (upc_lt' _ _ _))
  have e4 := (rlp_s (i := 3) e3 rfl).trans (rl_k ma1 hk (by rw [L, L, L]; exact hkl) (upc_lt' _ _ _) (upc_lt' _ _ _))
  have e5 := (rlp_s (i := 4) e4 rfl).trans (rl_p ma1 hk (by rw [L, L, L, L]; exact hkl) (upc_lt' _ _ _))
  have e6 := (rlp_s (i := 5) e5 rfl).trans (rl_p ma1 hk (by rw [L, L, L, L, L]; exact hkl) (upc_lt' _ _ _))
  rw [e6]
  simp (disch := omega) only [w2_bne', Nat.reduceMul, Nat.reduceAdd]
  unfold rt7 rt5 rt4 rtL upl
  simp only [List.foldl_cons, List.foldl_nil, List.cons_append, List.nil_append, hw_a4, lw_a4, Nat.reduceAdd]
  rw [show (nxL ns nd nf nt).getD 0 0 = hw ns from rfl, show (nxL ns nd nf nt).getD 1 0 = lw ns from rfl, show (nxL ns nd nf nt).getD 2 0 = hw nd from rfl, show (nxL ns nd nf nt).getD 3 0 = lw nd from rfl, show (nxL ns nd nf nt).getD 4 0 = nf from rfl, show (nxL ns nd nf nt).getD 5 0 = nt from rfl]
  rw [bput_sort _ 22 nt 10 _ ma1, bput_sort _ 20 nf 10 _ ma1]
end Go.Proofs.Ytejeafjkhomdoaa.Oct
