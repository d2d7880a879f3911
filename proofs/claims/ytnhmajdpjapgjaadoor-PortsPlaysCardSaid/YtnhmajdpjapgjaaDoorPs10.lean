/-
  The document's ports, as ports that are taken. No condition.
-/
import Derived.Test.YtnhmajdpjapgjaaDoorPs9
set_option linter.unusedVariables false
set_option linter.unusedSimpArgs false
set_option maxRecDepth 20000
namespace Go.Proofs.YtnhmajdpjapgjaaDoor.Oct
open Go.RowKit Base
attribute [local irreducible] Ys Yc Ht HtS HtIn Wl Wd W Mem pf dpf Wa Wo

/-- The ports ahead of p, p itself, and those behind it. -/
theorem pl_split (T : Nat → Bool) {p m : Nat} (hp : p < m) : ∃ R : List Nat, (∀ x ∈ R, p < x) ∧ ∀ U : Nat → Bool, (∀ q, q ≠ p → U q = T q) → plI U m = plI T p ++ ((bif U p then [p] else []) ++ R) := by
  obtain ⟨d, rfl⟩ : ∃ d, m = (p + 1) + d := ⟨m - (p + 1), by omega⟩
  refine ⟨((List.range d).map (p + 1 + ·)).filter T, fun x hx => ?_, fun U hU => ?_⟩
  · obtain ⟨h1, _⟩ := List.mem_filter.1 hx
    obtain ⟨j, _, rfl⟩ := List.mem_map.1 h1
    omega
  · unfold plI
    rw [List.range_add, List.filter_append, List.range_succ, List.filter_append, List.append_assoc]
    have e1 : (List.range p).filter U = (List.range p).filter T := List.filter_congr fun q hq => hU q (by have := List.mem_range.1 hq; omega)
    have e2 : ((List.range d).map (p + 1 + ·)).filter U = ((List.range d).map (p + 1 + ·)).filter T := List.filter_congr fun q hq => hU q (by obtain ⟨j, _, rfl⟩ := List.mem_map.1 hq; omega)
    rw [e1, e2]
    rfl
theorem pl_mem {T : Nat → Bool} {p m : Nat} : p ∈ plI T m ↔ p < m ∧ T p = true := by unfold plI; rw [List.mem_filter, List.mem_range]
theorem ci_mem {L : List Nat} {p : Nat} : ((p : Nat) : Int) ∈ ci L ↔ p ∈ L := by
  unfold ci
  rw [List.mem_map]
  exact ⟨fun ⟨a, h1, h2⟩ => (Int.ofNat.inj h2) ▸ h1, fun h => ⟨p, h, rfl⟩⟩
theorem ci_app (A B : List Nat) : ci (A ++ B) = ci A ++ ci B := List.map_append ..
theorem has_ci {T : Nat → Bool} {p m : Nat} (hm : m = 65536) (hp : p < 65536) : hasI (ci (plI T m)) ((p : Nat) : Int) = T p := by
  rw [Bool.eq_iff_iff, hasI_mem, ci_mem, pl_mem]
  exact ⟨fun h => h.2, fun h => ⟨by omega, h⟩⟩
theorem ins_mid {p : Int} {B : List Int} (hB : ∀ x ∈ B, p < x) : ∀ A : List Int, (∀ x ∈ A, x ≤ p) → insP (A ++ B) p = A ++ p :: B
  | [], _ => by
    unfold insP
    cases B with
    | nil => rfl
    | cons b B =>
      have := hB b (List.mem_cons_self ..)
      simp [show ¬ b ≤ p by omega]
  | a :: A, h => by
    have ha := h a (List.mem_cons_self ..)
    have ih := ins_mid hB A (fun x hx => h x (List.mem_cons_of_mem _ hx))
    unfold insP at ih ⊢
    simp [ha]
    exact ih
theorem tkI_ci {T : Nat → Bool} {p m : Nat} (hm : m = 65536) (hp : p < 65536) : tkI (ci (plI T m)) ((p : Nat) : Int) = tkB T p := by
  unfold tkI tkB
  rw [has_ci hm hp]
  congr 2
  exact decide_eq_decide.2 (by omega)
theorem tk_ci {T : Nat → Bool} {p m : Nat} (hm : m = 65536) (hp : p < 65536) : takeL (ci (plI T m)) ((p : Nat) : Int) = ci (plI (tkT T p) m) := by
  unfold takeL
  rw [tkI_ci hm hp]
  unfold tkT
  cases h : tkB T p with
  | false => rfl
  | true =>
    have hT : T p = false := by unfold tkB at h; cases ht : T p <;> simp [ht] at h ⊢
    simp only [cond_true]
    obtain ⟨R, h1, h2⟩ := pl_split T (p := p) (m := m) (by omega)
    rw [h2 (up T p true) (fun q hq => up_other _ _ hq), h2 T (fun _ _ => rfl), hT, up_same]
    simp only [cond_true, cond_false, List.nil_append]
    rw [ci_app, ci_app]
    refine ins_mid (fun x hx => ?_) _ (fun x hx => ?_)
    · obtain ⟨q, hq, rfl⟩ := List.mem_map.1 hx
      have := h1 q hq; omega
    · obtain ⟨q, hq, rfl⟩ := List.mem_map.1 hx
      have := (pl_mem.1 hq).1; omega
theorem fi_mid {p : Int} {B : List Int} : ∀ A : List Int, p ∉ A → (A ++ p :: B).findIdx (fun x => x == p) = A.length
  | [], _ => by simp [List.findIdx_cons]
  | a :: A, h => by
    have ha : (a == p) = false := beq_eq_false_iff_ne.2 fun e => h (e ▸ List.mem_cons_self ..)
    have ih := fi_mid (B := B) A (fun hx => h (List.mem_cons_of_mem _ hx))
    rw [List.cons_append, List.findIdx_cons, ha, ih]; rfl
theorem give_mid {p : Int} {A B : List Int} (h : p ∉ A) : giveL (A ++ p :: B) p = A ++ B := by
  unfold giveL
  rw [fi_mid A h, List.eraseIdx_append_of_length_le (Nat.le_refl _), Nat.sub_self]; rfl
theorem gv_ci {T : Nat → Bool} {p m : Nat} (hm : m = 65536) (hp : p < 65536) : giveL (ci (plI T m)) ((p : Nat) : Int) = ci (plI (gvT T p) m) := by
  unfold gvT
  cases h : T p with
  | false => exact give_no ((has_ci hm hp).trans h)
  | true =>
    simp only [cond_true]
    obtain ⟨R, h1, h2⟩ := pl_split T (p := p) (m := m) (by omega)
    rw [h2 (up T p false) (fun q hq => up_other _ _ hq), h2 T (fun _ _ => rfl), h, up_same]
    simp only [cond_true, cond_false, List.nil_append]
    rw [ci_app, ci_app, ci_app]
    exact give_mid fun hx => absurd (pl_mem.1 (ci_mem.1 hx)).1 (Nat.lt_irrefl p)
theorem pk_ci {T : Nat → Bool} {d k m : Nat} (hm : m = 65536) (h : PkR (ci (plI T m)) (d % 64512) k) :
    decide (k < 64512) = decide (pk T d < 65536) ∧ (bif decide (k < 64512) then pkP (d % 64512) k else 0) = ((pkV T d : Nat) : Int) ∧ (bif decide (k < 64512) then takeL (ci (plI T m)) (pkP (d % 64512) k) else ci (plI T m)) = ci (plI (pkT T d) m) := by
  have hf := Nat.mod_lt d (show 0 < 64512 by decide)
  have hle := h.le
  have no : ∀ j, j < k → T (1024 + (d % 64512 + j) % 64512) = true := fun j hj => by
    have := h.no j hj
    have hl := Nat.mod_lt (d % 64512 + j) (show 0 < 64512 by decide)
    unfold pkP at this
    rw [has_ci hm (by omega)] at this; exact this
  have key : (k < 64512 → pk T d = 1024 + (d % 64512 + k) % 64512 ∧ T (pk T d) = false) ∧ (k = 64512 → pk T d = 65536) := by
    have ye : k < 64512 → T (1024 + (d % 64512 + k) % 64512) = false := fun hk => by
      have := h.ye hk
      have hl := Nat.mod_lt (d % 64512 + k) (show 0 < 64512 by decide)
      unfold pkP at this
      rw [has_ci hm (by omega)] at this; exact this
    generalize hF : d % 64512 = f at *
    have e0 : pk T d = if nf T (1024 + f) < 65536 then nf T (1024 + f) else nf T 1024 := by unfold pk; rw [hF]
    have wrap : 64512 ≤ f + k → nf T (1024 + f) = 65536 ∧ nf T 1024 = nf T (1024 + (f + k - 64512)) := fun hw => by
      constructor
      · rw [nf_skip (64512 - f) (by omega) (fun j hj => ?_), nf_end (by omega)]; omega
        have := no j (by omega)
        rw [Nat.mod_eq_of_lt (by omega), ← Nat.add_assoc] at this; exact this
      · refine nf_skip (f + k - 64512) (by omega) (fun j hj => ?_)
        have := no (64512 - f + j) (by omega)
        rw [show f + (64512 - f + j) = 64512 + j by omega, Nat.add_mod_left, Nat.mod_eq_of_lt (by omega)] at this; exact this
    refine ⟨fun hk => ?_, fun hk => ?_⟩
    · have hy := ye hk
      rcases Nat.lt_or_ge (f + k) 64512 with hw | hw
      · rw [Nat.mod_eq_of_lt hw] at hy ⊢
        have e : nf T (1024 + f) = 1024 + (f + k) := by
          rw [nf_skip k (by omega) (fun j hj => ?_), Nat.add_assoc, nf_stop (by omega) hy]
          have := no j hj
          rw [Nat.mod_eq_of_lt (by omega), ← Nat.add_assoc] at this; exact this
        rw [e0, e, if_pos (by omega)]; exact ⟨rfl, hy⟩
      · obtain ⟨w1, w2⟩ := wrap hw
        rw [show (f + k) % 64512 = f + k - 64512 by omega] at hy ⊢
        rw [e0, w1, if_neg (by omega), w2, nf_stop (by omega) hy]; exact ⟨rfl, hy⟩
    · obtain ⟨w1, w2⟩ := wrap (by omega)
      rw [e0, w1, if_neg (by omega), w2, show 1024 + (f + k - 64512) = 1024 + f by omega]; exact w1
  rcases Nat.lt_or_ge k 64512 with hk | hk
  · obtain ⟨e, ht⟩ := key.1 hk
    have hl := Nat.mod_lt (d % 64512 + k) (show 0 < 64512 by decide)
    have hlt : pk T d < 65536 := by omega
    have hP : pkP (d % 64512) k = ((pk T d : Nat) : Int) := by unfold pkP; rw [e]
    have hB : tkB T (pk T d) = true := by unfold tkB; rw [ht, decide_eq_false (by omega)]; rfl
    rw [decide_eq_true hk, decide_eq_true hlt, hP]
    refine ⟨rfl, by unfold pkV; rw [if_pos hlt]; rfl, ?_⟩
    simp only [cond_true]
    rw [tk_ci hm hlt]
    unfold pkT tkT
    rw [decide_eq_true hlt, hB]
  · have e := key.2 (by omega)
    have hn : ¬ pk T d < 65536 := by omega
    rw [decide_eq_false (by omega), decide_eq_false hn]
    refine ⟨rfl, by unfold pkV; rw [if_neg hn]; rfl, ?_⟩
    unfold pkT
    rw [decide_eq_false hn]; rfl
/-- All the ports that are taken, rising; how many. -/
def plA (T : Nat → Bool) : List Int := ci (plI T 65536)
def cnA (T : Nat → Bool) : Nat := (plA T).length
theorem cn_pl {T : Nat → Bool} {m : Nat} (hm : m = 65536) : (ci (plI T m)).length = cnA T := by subst hm; rfl
theorem cnA_le (T : Nat → Bool) : cnA T ≤ 65536 := by
  have e : cnA T = (plI T 65536).length := ci_len _
  rw [e]; exact plI_le T 65536
theorem pl_up_len {T : Nat → Bool} {p m : Nat} (hp : p < m) (v : Bool) : (ci (plI (up T p v) m)).length + (bif T p then 1 else 0) = (ci (plI T m)).length + (bif v then 1 else 0) := by
  obtain ⟨R, h1, h2⟩ := pl_split T (p := p) (m := m) hp
  rw [h2 (up T p v) (fun q hq => up_other _ _ hq), h2 T (fun _ _ => rfl), up_same]
  simp only [ci_len, List.length_append]
  cases v <;> cases T p <;> simp only [cond_true, cond_false, List.length_cons, List.length_nil] <;> omega
theorem cnA_up {T : Nat → Bool} {p : Nat} (hp : p < 65536) (v : Bool) : cnA (up T p v) + (bif T p then 1 else 0) = cnA T + (bif v then 1 else 0) := pl_up_len hp v
theorem tkN_A {T : Nat → Bool} {p : Nat} (hp : p < 65536) : tkN T p ((cnA T : Nat) : Int) = ((cnA (tkT T p) : Nat) : Int) := by
  have h := cnA_up (T := T) hp true
  unfold tkN tkT
  cases hB : tkB T p with
  | false => rfl
  | true =>
    have hT : T p = false := by unfold tkB at hB; cases ht : T p <;> simp [ht] at hB ⊢
    rw [hT] at h
    simp only [cond_true, cond_false] at h ⊢
    omega
theorem gvN_A {T : Nat → Bool} {p : Nat} (hp : p < 65536) : gvN T p ((cnA T : Nat) : Int) = ((cnA (gvT T p) : Nat) : Int) := by
  have h := cnA_up (T := T) hp false
  unfold gvN gvT
  cases hT : T p with
  | false => rfl
  | true =>
    rw [hT] at h
    simp only [cond_true, cond_false] at h ⊢
    omega
theorem pkN_A {T : Nat → Bool} {d : Nat} : pkN T d ((cnA T : Nat) : Int) = ((cnA (pkT T d) : Nat) : Int) := by
  unfold pkN pkT
  by_cases hlt : pk T d < 65536
  · have h := cnA_up (T := T) hlt true
    rw [(pk_le T d).2.2.1 hlt] at h
    rw [decide_eq_true hlt]
    simp only [cond_true, cond_false] at h ⊢
    omega
  · rw [decide_eq_false hlt]; rfl
theorem lst_pl {T : Nat → Bool} {m : Nat} (q : Int) (hm : m = 65536) (hq : (((ci (plI T m)).length : Nat) : Int) ≤ q) : ci (lst T q) = ci (plI T m) := by
  subst hm
  unfold lst
  rw [List.take_of_length_le]
  rw [ci_len] at hq
  unfold mxN imax
  split <;> omega
theorem lst_A {T : Nat → Bool} (q : Int) (hq : ((cnA T : Nat) : Int) ≤ q) : ci (lst T q) = plA T := lst_pl q rfl hq
theorem plA_nil : plA (fun _ => false) = [] := by
  have : plI (fun _ => false) 65536 = [] := List.filter_eq_nil_iff.2 fun a _ => by simp
  unfold plA; rw [this]; rfl
theorem plA_len (T : Nat → Bool) : (plA T).length = cnA T := rfl
theorem has_A {T : Nat → Bool} {p : Nat} (hp : p < 65536) : hasI (plA T) ((p : Nat) : Int) = T p := has_ci rfl hp
theorem tk_A {T : Nat → Bool} {p : Nat} (hp : p < 65536) : takeL (plA T) ((p : Nat) : Int) = plA (tkT T p) := tk_ci rfl hp
theorem tkI_A {T : Nat → Bool} {p : Nat} (hp : p < 65536) : tkI (plA T) ((p : Nat) : Int) = tkB T p := tkI_ci rfl hp
theorem gv_A {T : Nat → Bool} {p : Nat} (hp : p < 65536) : giveL (plA T) ((p : Nat) : Int) = plA (gvT T p) := gv_ci rfl hp
theorem pk_A {T : Nat → Bool} {d k : Nat} (h : PkR (plA T) (d % 64512) k) :
    decide (k < 64512) = decide (pk T d < 65536) ∧ (bif decide (k < 64512) then pkP (d % 64512) k else 0) = ((pkV T d : Nat) : Int) ∧ (bif decide (k < 64512) then takeL (plA T) (pkP (d % 64512) k) else plA T) = plA (pkT T d) := pk_ci rfl h

attribute [local irreducible] plA cnA
theorem rtakeT_c (T : Nat → Bool) (gr : FS) (rb p : Nat) (M : List Nat) (w : World) (hl : Mem w M [gr.seg 3 (mc (Value.int .i64) (plA T)), [cb rb [Value.slice gr.a (cnA T) gr.cap] 58]] w) (okr : gr.ok 1 (cnA T)) (hp : p < 65536) : Calls Tryd.prog 22 #[Value.pointer (some ⟨rb, 0, none⟩), Value.int .i64 ((p : Nat) : Int)] w (RetM w (fun g' : FS => g'.ok 1 (cnA (tkT T p))) (fun _ => .bool (tkB T p)) M (fun g' => [g'.seg 3 (mc (Value.int .i64) (plA (tkT T p))), [cb rb [Value.slice g'.a (cnA (tkT T p)) g'.cap] 58]])) := by
  have h := rtake_c (plA T) gr rb M ((p : Nat) : Int) w (by rw [plA_len]; exact hl) (by rw [plA_len]; exact okr) (by rw [plA_len]; have := cnA_le T; omega)
  rw [tkI_A hp, tk_A hp, plA_len] at h
  exact h
theorem rgiveT_c (T : Nat → Bool) (gr : FS) (rb p : Nat) (M : List Nat) (w : World) (hl : Mem w M [gr.seg 3 (mc (Value.int .i64) (plA T)), [cb rb [Value.slice gr.a (cnA T) gr.cap] 58]] w) (okr : gr.ok 1 (cnA T)) (hp : p < 65536) : Calls Tryd.prog 23 #[Value.pointer (some ⟨rb, 0, none⟩), Value.int .i64 ((p : Nat) : Int)] w (RetM w (fun g' : FS => g'.ok 1 (cnA (gvT T p))) (fun _ => .bool (T p)) M (fun g' => [g'.seg 3 (mc (Value.int .i64) (plA (gvT T p))), [cb rb [Value.slice g'.a (cnA (gvT T p)) g'.cap] 58]])) := by
  have h := rgive_c (plA T) gr rb M ((p : Nat) : Int) w (by rw [plA_len]; exact hl) (by rw [plA_len]; exact okr) (by rw [plA_len]; have := cnA_le T; omega)
  rw [has_A hp, gv_A hp, plA_len] at h
  exact h
theorem rpickT_c (T : Nat → Bool) (gr : FS) (rb d : Nat) (M : List Nat) (w : World) (hl : Mem w M [gr.seg 3 (mc (Value.int .i64) (plA T)), [cb rb [Value.slice gr.a (cnA T) gr.cap] 58]] w) (okr : gr.ok 1 (cnA T)) (hd : d < 18446744073709551616) : Calls Tryd.prog 24 #[Value.pointer (some ⟨rb, 0, none⟩), Value.int .u64 ((d : Nat) : Int)] w (RetM w (fun g' : FS => g'.ok 1 (cnA (pkT T d))) (fun _ => .tuple #[.int .i64 ((pkV T d : Nat) : Int), .bool (decide (pk T d < 65536))]) M (fun g' => [g'.seg 3 (mc (Value.int .i64) (plA (pkT T d))), [cb rb [Value.slice g'.a (cnA (pkT T d)) g'.cap] 58]])) := by
  refine (rpick_c (plA T) gr rb d M w (by rw [plA_len]; exact hl) (by rw [plA_len]; exact okr) (by rw [plA_len]; have := cnA_le T; omega) hd).mono ?_
  rintro e w' ⟨⟨g, k⟩, ⟨hok, hk⟩, he, hm'⟩
  obtain ⟨a1, a2, a3⟩ := pk_A hk
  dsimp only at he hok hm'
  rw [a1] at a3 a2
  rw [a1] at he hok hm'
  rw [a2] at he
  rw [a3, plA_len] at hok hm'
  exact ⟨g, hok, he, hm'⟩
theorem rhasT_c (T : Nat → Bool) (a : Option Addr) (cap rb p : Nat) (w : World) (hrb : At w (some ⟨rb, 0, none⟩) [.slice a (cnA T) cap]) (hLs : At w a (mc (Value.int .i64) (plA T))) (hp : p < 65536) : Calls Tryd.prog 25 #[Value.pointer (some ⟨rb, 0, none⟩), Value.int .i64 ((p : Nat) : Int)] w (Ret w (.bool (T p))) := by
  have h := rhas_c (plA T) a cap rb ((p : Nat) : Int) w (by rw [plA_len]; exact hrb) hLs (by rw [plA_len]; have := cnA_le T; omega)
  rw [has_A hp] at h
  exact h
end Go.Proofs.YtnhmajdpjapgjaaDoor.Oct
