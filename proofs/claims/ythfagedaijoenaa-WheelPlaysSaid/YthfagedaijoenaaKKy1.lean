import Derived.Test.YthfagedaijoenaaProg
import Derived.Test.YthfagedaijoenaaKVL
set_option linter.unusedVariables false
set_option linter.unusedSimpArgs false
set_option maxRecDepth 20000
namespace Go.Proofs.Ythfagedaijoenaa.Oct
open Go.RowKit Base
attribute [local irreducible] Ys Yc Ht HtS HtIn Wl Wd W Mem pf dpf Wa Wo
theorem drop_take {cs r : List Value} {n i s : Nat} (hc : cs.length = n * s) (hi : i ≤ n) : ((cs ++ r).drop (i * s)).take ((n - i) * s) = cs.drop (i * s) := by
  have h : i * s ≤ n * s := Nat.mul_le_mul_right _ hi
  rw [List.drop_append_of_le_length ma1, List.take_append_of_le_length (by rw [List.length_drop, hc, Nat.sub_mul]; omega)]
  exact List.take_of_length_le (by rw [List.length_drop, hc, Nat.sub_mul]; omega)
theorem one_drop {cs : List Value} (h : ∀ v ∈ cs, v.oneCell' = true) (k : Nat) : ∀ v ∈ cs.drop k, v.oneCell' = true := fun v hv => h v (List.mem_of_mem_drop hv)
theorem putAt_app {a b c : List Value} {o : Nat} {v : List Value} (ho : o = a.length) (hv : v.length = b.length) : putAt (a ++ (b ++ c)) o v = a ++ (v ++ c) := by
  subst ho; unfold putAt
  rw [List.take_left, hv, ← List.drop_drop, List.drop_left, List.drop_left]
theorem ins_in {cs r news A1 A2 : List Value} {n i : Nat} (hc : cs.length = n * 2) (hi : i < n) (hn : news.length = 2) (hr : 2 ≤ r.length) (h1 : putAt (cs ++ r) ((i + 1) * 2) (cs.drop (i * 2)) = A1) (h2 : putAt A1 (i * 2) news = A2) :
    A2 = (cs.take (i * 2) ++ (news ++ cs.drop (i * 2))) ++ r.drop 2 := by
  subst h1; subst h2
  obtain ⟨a, b, rfl, ha⟩ : ∃ a b, cs = a ++ b ∧ a.length = i * 2 := ⟨cs.take (i * 2), cs.drop (i * 2), (List.take_append_drop _ _).symm, by rw [List.length_take]; omega⟩
  rw [List.length_append] at hc
  obtain ⟨x, r', rfl, hx⟩ : ∃ x r', r = x ++ r' ∧ x.length = 2 := ⟨r.take 2, r.drop 2, (List.take_append_drop _ _).symm, by rw [List.length_take]; omega⟩
  rw [← ha, List.drop_left, List.take_left]
  have e : putAt (a ++ b ++ (x ++ r')) ((i + 1) * 2) b = a ++ (b.take 2 ++ (b ++ r')) := by
    have hb : b = b.take 2 ++ b.drop 2 := (List.take_append_drop _ _).symm
    have hb2 : (b.take 2).length = 2 := by rw [List.length_take]; omega
    have e1 : a ++ b ++ (x ++ r') = (a ++ b.take 2) ++ ((b.drop 2 ++ x) ++ r') := by
      rw [List.append_assoc, List.append_assoc, List.append_assoc]
      congr 1
      rw [← List.append_assoc (b.take 2), ← hb]
    rw [e1, putAt_app (by rw [List.length_append, hb2]; omega) (by rw [List.length_append, List.length_drop, hx]; omega), List.append_assoc]
  rw [e, putAt_app rfl (by rw [List.length_take, hn]; omega)]
  rw [show (x ++ r').drop 2 = r' by rw [← hx, List.drop_left]]
  simp only [List.append_assoc]
theorem ins_own {cs R news A1 A2 : List Value} {n i : Nat} (hc : cs.length = n * 2) (hi : i < n) (hn : news.length = 2) (hR : (n + 1 - i) * 2 ≤ R.length) (h1 : putAt (cs.take (i * 2) ++ R) (i * 2) news = A1) (h2 : putAt A1 ((i + 1) * 2) (cs.drop (i * 2)) = A2) :
    A2 = (cs.take (i * 2) ++ (news ++ cs.drop (i * 2))) ++ R.drop ((n + 1 - i) * 2) := by
  subst h1; subst h2
  have ha : (cs.take (i * 2)).length = i * 2 := by rw [List.length_take]; omega
  have hd : (cs.drop (i * 2)).length = (n - i) * 2 := by rw [List.length_drop]; omega
  obtain ⟨x, y, z, rfl, hx, hy⟩ : ∃ x y z, R = x ++ (y ++ z) ∧ x.length = 2 ∧ y.length = (n - i) * 2 :=
    ⟨R.take 2, (R.drop 2).take ((n - i) * 2), (R.drop 2).drop ((n - i) * 2), by rw [List.take_append_drop, List.take_append_drop], by rw [List.length_take]; omega, by rw [List.length_take, List.length_drop]; omega⟩
  rw [putAt_app ha.symm (by rw [hn, hx]), ← List.append_assoc, putAt_app (by rw [List.length_append, ha, hn]; omega) (by rw [hd, hy])]
  rw [show (n + 1 - i) * 2 = (x ++ y).length by rw [List.length_append, hx, hy]; omega, ← List.append_assoc x, List.drop_left]
  simp only [List.append_assoc]
theorem del_in {cs r zs A1 A2 : List Value} {n i : Nat} (hc : cs.length = n * 2) (hi : i < n) (hz : zs.length = 2) (h1 : putAt (cs ++ r) (i * 2) (cs.drop ((i + 1) * 2)) = A1) (h2 : putAt A1 ((n - 1) * 2) zs = A2) :
    A2 = (cs.take (i * 2) ++ cs.drop ((i + 1) * 2)) ++ (zs ++ r) := by
  subst h1; subst h2
  obtain ⟨a, x, b, rfl, ha, hx⟩ : ∃ a x b, cs = a ++ (x ++ b) ∧ a.length = i * 2 ∧ x.length = 2 :=
    ⟨cs.take (i * 2), (cs.drop (i * 2)).take 2, (cs.drop (i * 2)).drop 2, by rw [List.take_append_drop, List.take_append_drop], by rw [List.length_take]; omega, by rw [List.length_take, List.length_drop]; omega⟩
  simp only [List.length_append] at hc
  have e1 : (a ++ (x ++ b)).drop ((i + 1) * 2) = b := by
    rw [show (i + 1) * 2 = (a ++ x).length by rw [List.length_append, ha, hx]; omega, ← List.append_assoc, List.drop_left]
  have e2 : (a ++ (x ++ b)).take (i * 2) = a := by rw [← ha, List.take_left]
  rw [e1, e2]
  have hb : x ++ b = (x ++ b).take b.length ++ (x ++ b).drop b.length := (List.take_append_drop _ _).symm
  have e3 : a ++ (x ++ b) ++ r = a ++ ((x ++ b).take b.length ++ ((x ++ b).drop b.length ++ r)) := by
    rw [List.append_assoc, ← List.append_assoc ((x ++ b).take b.length), ← hb]
  rw [e3, putAt_app ha.symm (by rw [List.length_take, List.length_append]; omega), ← List.append_assoc]
  rw [putAt_app (by rw [List.length_append, ha]; omega) (by rw [List.length_drop, List.length_append, hz]; omega)]
end Go.Proofs.Ythfagedaijoenaa.Oct
