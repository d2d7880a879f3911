/-
  The document's ports. No condition.
-/
import Derived.Test.YtnhmajdpjapgjaaDoorPs7
set_option linter.unusedVariables false
set_option linter.unusedSimpArgs false
set_option maxRecDepth 20000
namespace Go.Proofs.YtnhmajdpjapgjaaDoor.Oct
open Go.RowKit Base
attribute [local irreducible] Ys Yc Ht HtS HtIn Wl Wd W Mem pf dpf Wa Wo

theorem be_len (n : Nat) : n + 0 = n := Nat.add_zero n
/-- Is a number in a list? -/
def hasI (L : List Int) (p : Int) : Bool := L.any fun x => x == p
theorem hasI_none {L : List Int} {p : Int} (h : ∀ j, j < L.length → (L.getD j 0 == p) = false) : hasI L p = false := by
  unfold hasI
  rw [List.any_eq_false]
  intro x hx
  obtain ⟨j, hj, rfl⟩ := List.getElem_of_mem hx
  have := h j hj
  rw [List.getD_eq_getElem?_getD, List.getElem?_eq_getElem hj] at this
  simpa using this
theorem hasI_some {L : List Int} {p : Int} {j : Nat} (hj : j < L.length) (h : (L.getD j 0 == p) = true) : hasI L p = true :=
  List.any_eq_true.2 ⟨L.getD j 0, by rw [List.getD_eq_getElem?_getD, List.getElem?_eq_getElem hj]; exact List.getElem_mem hj, h⟩
theorem hasI_mem {L : List Int} {p : Int} : hasI L p = true ↔ p ∈ L := by unfold hasI; simp
/-- A number put in, taken out. -/
def insP (L : List Int) (p : Int) : List Int := L.takeWhile (fun x => decide (x ≤ p)) ++ p :: L.dropWhile (fun x => decide (x ≤ p))
def tkI (L : List Int) (p : Int) : Bool := !(decide (p < 1024) || hasI L p)
def takeL (L : List Int) (p : Int) : List Int := bif tkI L p then insP L p else L
def giveL (L : List Int) (p : Int) : List Int := L.eraseIdx (L.findIdx fun x => x == p)
theorem tw_take {L : List Int} {p : Int} : ∀ {L : List Int} {j : Nat}, (∀ q, q < j → L.getD q 0 ≤ p) → j ≤ L.length → (j < L.length → p < L.getD j 0) → L.takeWhile (fun x => decide (x ≤ p)) = L.take j ∧ L.dropWhile (fun x => decide (x ≤ p)) = L.drop j
  | [], j, _, _, _ => by simp
  | x :: L, 0, _, _, h3 => by
    have : ¬ x ≤ p := by have := h3 (by simp); simp at this; omega
    simp [this]
  | x :: L, j + 1, h1, h2, h3 => by
    have hx : x ≤ p := by have := h1 0 (Nat.succ_pos j); simpa using this
    have ih := tw_take (L := L) (p := p) (j := j) (fun q hq => by have := h1 (q + 1) (by omega); simpa using this) (by simpa using h2) (fun hj => by have := h3 (by simpa using hj); simpa using this)
    simp [hx, ih.1, ih.2]
theorem ins_at {L : List Int} {p : Int} {j : Nat} (h1 : ∀ q, q < j → L.getD q 0 ≤ p) (h2 : j ≤ L.length) (h3 : j < L.length → p < L.getD j 0) : L.take j ++ p :: L.drop j = insP L p := by
  obtain ⟨a, b⟩ := tw_take (L := L) h1 h2 h3
  unfold insP; rw [a, b]
theorem insP_len {L : List Int} {p : Int} : (insP L p).length = L.length + 1 := by
  unfold insP
  have := congrArg List.length (List.takeWhile_append_dropWhile (p := fun x => decide (x ≤ p)) (l := L))
  rw [List.length_append] at this
  rw [List.length_append, List.length_cons]; omega
theorem takeL_len {L : List Int} {p : Int} : (takeL L p).length ≤ L.length + 1 := by
  unfold takeL; cases tkI L p
  · exact Nat.le_succ _
  · exact Nat.le_of_eq insP_len
theorem fi_first {L : List Int} {p : Int} {i : Nat} (hi : i < L.length) (hno : ∀ j, j < i → (L.getD j 0 == p) = false) (h : (L.getD i 0 == p) = true) : L.findIdx (fun x => x == p) = i := by
  have g : ∀ j (hj : j < L.length), L.getD j 0 = L[j] := fun j hj => by rw [List.getD_eq_getElem?_getD, List.getElem?_eq_getElem hj]; rfl
  rw [List.findIdx_eq hi]
  exact ⟨by rw [← g i hi]; exact h, fun j hj => by rw [← g j (by omega)]; exact hno j hj⟩
theorem give_at {L : List Int} {p : Int} {i : Nat} (hi : i < L.length) (hno : ∀ j, j < i → (L.getD j 0 == p) = false) (h : (L.getD i 0 == p) = true) : L.take i ++ L.drop (i + 1) = giveL L p := by
  unfold giveL; rw [fi_first hi hno h, List.eraseIdx_eq_take_drop_succ]
theorem give_no {L : List Int} {p : Int} (h : hasI L p = false) : giveL L p = L := by
  unfold giveL
  have : L.findIdx (fun x => x == p) = L.length := List.findIdx_eq_length.2 fun x hx => by
    unfold hasI at h
    rw [List.any_eq_false] at h
    simpa using h x hx
  rw [this]; exact List.eraseIdx_of_length_le (Nat.le_refl _)
theorem giveL_len {L : List Int} {p : Int} : (giveL L p).length ≤ L.length := by unfold giveL; rw [List.length_eraseIdx]; split <;> omega
/-- The place k of a port from f on, round about; the first one that is free. -/
def pkP (f k : Nat) : Int := ((1024 + (f + k) % 64512 : Nat) : Int)
structure PkR (L : List Int) (f k : Nat) : Prop where
  le : k ≤ 64512
  no : ∀ j, j < k → hasI L (pkP f j) = true
  ye : k < 64512 → hasI L (pkP f k) = false
/-- What Take's loop has when it has seen i numbers. -/
structure TkS (L : List Int) (p : Int) (i j : Nat) (put : Bool) (out : List Int) : Prop where
  ji : j ≤ i
  il : i ≤ L.length
  low : ∀ q, q < j → L.getD q 0 ≤ p
  np : put = false → j = i
  yp : put = true → j < L.length ∧ p < L.getD j 0
  eq : out = L.take j ++ (bif put then p :: (L.drop j).take (i - j) else [])
theorem TkS.len {L : List Int} {p : Int} {i j : Nat} {put : Bool} {out : List Int} (h : TkS L p i j put out) : out.length ≤ L.length + 1 := by
  have h1 := h.ji
  have h2 := h.il
  rw [h.eq, List.length_append, List.length_take]
  cases put
  · simp; omega
  · simp only [cond_true, List.length_cons, List.length_take, List.length_drop]; omega
theorem tks_0 {L : List Int} {p : Int} : TkS L p 0 0 false [] := ⟨Nat.le_refl _, Nat.zero_le _, fun q h => absurd h (Nat.not_lt_zero q), fun _ => rfl, fun h => (by cases h), by simp⟩
theorem takeI_snoc {L : List Int} {k : Nat} (hk : k < L.length) : L.take (k + 1) = L.take k ++ [L.getD k 0] := by
  rw [List.take_add_one, List.getElem?_eq_getElem hk, List.getD_eq_getElem?_getD, List.getElem?_eq_getElem hk]; rfl
theorem tkp_true {L : List Int} {p : Int} {i : Nat} {put : Bool} (h : ((!put) && decide (L.getD i 0 > p)) = true) : (put || decide (p < L.getD i 0)) = true := by
  simp only [Bool.and_eq_true] at h
  have h2 : decide (p < L.getD i 0) = true := h.2
  rw [h2, Bool.or_true]
theorem tkp_false {L : List Int} {p : Int} {i : Nat} {put : Bool} (h : ((!put) && decide (L.getD i 0 > p)) = false) : (put || decide (p < L.getD i 0)) = put := by
  cases put
  · have h2 : decide (p < L.getD i 0) = false := by simpa using h
    rw [h2]; rfl
  · rfl
theorem tks_true {L : List Int} {p : Int} {i j : Nat} {put : Bool} {out : List Int} (h : TkS L p i j put out) (hi : i < L.length) (hc : ((!put) && decide (L.getD i 0 > p)) = true) :
    TkS L p (i + 1) (bif put then j else bif decide (p < L.getD i 0) then j else i + 1) (put || decide (p < L.getD i 0)) ((out ++ [p]) ++ [L.getD i 0]) := by
  have hp : put = false := by cases put <;> simp at hc ⊢
  have hd : decide (p < L.getD i 0) = true := by simp only [Bool.and_eq_true] at hc; exact hc.2
  subst hp
  have hj := h.np rfl
  subst hj
  rw [hd]
  simp only [cond_false, cond_true, Bool.false_or]
  refine ⟨by omega, by omega, h.low, fun e => (by cases e), fun _ => ⟨hi, of_decide_eq_true hd⟩, ?_⟩
  rw [h.eq]
  have e : (L.drop j).take (j + 1 - j) = [L.getD j 0] := by
    rw [show j + 1 - j = 1 by omega, List.drop_eq_getElem_cons hi, List.getD_eq_getElem?_getD, List.getElem?_eq_getElem hi]; rfl
  rw [e]
  simp
theorem tks_false {L : List Int} {p : Int} {i j : Nat} {put : Bool} {out : List Int} (h : TkS L p i j put out) (hi : i < L.length) (hc : ((!put) && decide (L.getD i 0 > p)) = false) :
    TkS L p (i + 1) (bif put then j else bif decide (p < L.getD i 0) then j else i + 1) (put || decide (p < L.getD i 0)) (out ++ [L.getD i 0]) := by
  have h1 := h.ji
  cases put with
  | false =>
    have hd : decide (p < L.getD i 0) = false := by simpa using hc
    have hj := h.np rfl
    subst hj
    rw [hd]
    simp only [cond_false, Bool.false_or]
    refine ⟨Nat.le_refl _, by omega, fun q hq => ?_, fun _ => rfl, fun e => (by cases e), ?_⟩
    · rcases Nat.lt_succ_iff_lt_or_eq.1 hq with h2 | h2
      · exact h.low q h2
      · subst h2; have := of_decide_eq_false hd; omega
    · rw [h.eq, takeI_snoc hi]; simp
  | true =>
    obtain ⟨h2, h3⟩ := h.yp rfl
    simp only [cond_true, Bool.true_or]
    refine ⟨by omega, by omega, h.low, fun e => (by cases e), fun _ => ⟨h2, h3⟩, ?_⟩
    rw [h.eq]
    simp only [cond_true]
    have e : (L.drop j).take (i + 1 - j) = (L.drop j).take (i - j) ++ [L.getD i 0] := by
      have hk : i - j < (L.drop j).length := by rw [List.length_drop]; omega
      rw [show i + 1 - j = (i - j) + 1 by omega, takeI_snoc hk]
      congr 2
      rw [List.getD_eq_getElem?_getD, List.getElem?_drop, show j + (i - j) = i by omega, List.getD_eq_getElem?_getD]
    rw [e]; simp
theorem tks_end0 {L : List Int} {p : Int} {i j : Nat} {out : List Int} (h : TkS L p i j false out) (hi : i = L.length) : out ++ [p] = insP L p := by
  have hj := h.np rfl
  rw [← ins_at (j := j) h.low (by omega) (fun hh => by omega), h.eq, List.drop_eq_nil_of_le (by omega)]
  simp
theorem tks_end1 {L : List Int} {p : Int} {i j : Nat} {out : List Int} (h : TkS L p i j true out) (hi : i = L.length) : out = insP L p := by
  obtain ⟨h2, h3⟩ := h.yp rfl
  rw [← ins_at (j := j) h.low (by omega) (fun _ => h3), h.eq]
  simp only [cond_true]
  have e : (L.drop j).take (i - j) = L.drop j := List.take_of_length_le (by rw [List.length_drop]; omega)
  rw [e]

theorem rhas_c (L : List Int) (a : Option Addr) (cap : Nat) (rb : Nat) (p : Int) (w : World) (hrb : At w (some ⟨rb, 0, none⟩) [.slice a L.length cap]) (hLs : At w a (mc (Value.int .i64) L)) (hLn : L.length ≤ 70000) : Calls Tryd.prog 25 #[Value.pointer (some ⟨rb, 0, none⟩), Value.int .i64 p] w (Ret w (.bool (hasI L p))) := by
  refine calls_W (M := []) (LL := []) (n := 24) Tryd.func25 rfl rfl (by simp) (Mem.refl _) ?_
  refine W.seq (fun K1 hK1 => ?_)
  refine W.region ?_
  refine Wl.run 1 (by kernel_rfl) ?_
  refine Wl.nil ?_
  refine hK1 _ _ _ ?_
  refine W.seq (fun K2 hK2 => ?_)
  refine W.seq (fun K3 hK3 => ?_)
  refine W.region ?_
  refine Wl.run 1 (by kernel_rfl) ?_
  refine Wl.nil ?_
  refine hK3 _ _ _ ?_
  refine W.block ?_
  refine W.loop1 [0, 1, 5] (fun (i : Nat) => [Value.pointer (some ⟨rb, 0, none⟩), Value.int .i64 p, Value.int .i64 ((i : Nat) : Int)]) (fun (i : Nat) => i ≤ L.length ∧ (∀ j, j < i → (L.getD j 0 == p) = false)) (fun (i : Nat) => []) (fun (i : Nat) => L.length - i) 0 (by kernel_rfl) ⟨(Nat.zero_le _), (fun j hj => absurd hj (Nat.not_lt_zero j))⟩ (by rfl) (fun i f5 J4 hp6 hJ4 => ?_)
  obtain ⟨hi, hno⟩ := hp6
  refine W.seq (fun K7 hK7 => ?_)
  refine W.seq (fun K8 hK8 => ?_)
  refine W.region ?_
  refine Wl.run 4 (by kernel_rfl) ?_
  refine Wl.ys (v := Value.slice a L.length cap) rfl rfl (Ys.ld (a := ⟨rb, 0, none⟩) rfl (by kernel_rfl) Tryd.isAgg50 (fun w_ h_ => by have x_ := (hrb.mem0 h_).ld (q := 0) (v := Value.slice a L.length cap) rfl; rw [ela_own0] at x_; exact x_)) ?_
  refine Wl.run 2 (by kernel_rfl) ?_
  refine Wl.nil ?_
  refine hK8 _ _ _ ?_
  refine W.prune' [0, 1, 5, 12] [Value.pointer (some ⟨rb, 0, none⟩), Value.int .i64 p, Value.int .i64 ((i : Nat) : Int), Value.bool (decide (((i : Nat) : Int) < ((L.length : Nat) : Int)))] (by kernel_rfl) (fun f9 => ?_)
  refine W.cond (decide (((i : Nat) : Int) < ((L.length : Nat) : Int))) (by kernel_rfl) (fun h10 => ?_) (fun h11 => ?_)
  · have qh10 := h10; try simp only [Bool.and_eq_true, Bool.or_eq_true, Bool.not_eq_true', Bool.not_eq_false', Bool.and_eq_false_iff, Bool.or_eq_false_iff, decide_eq_true_eq, decide_eq_false_iff_not, beq_iff_eq, bne_iff_ne, beq_eq_false_iff_ne, bne_eq_false_iff_eq] at qh10
    refine W.skip' ?_
    refine hK7 _ _ _ ?_
    refine W.prune' [0, 1, 5] [Value.pointer (some ⟨rb, 0, none⟩), Value.int .i64 p, Value.int .i64 ((i : Nat) : Int)] (by kernel_rfl) (fun f12 => ?_)
    refine W.seq (fun K13 hK13 => ?_)
    refine W.block ?_
    refine W.seq (fun K14 hK14 => ?_)
    refine W.region ?_
    refine Wl.run 3 (by kernel_rfl) ?_
    refine Wl.ys (v := Value.slice a L.length cap) rfl rfl (Ys.ld (a := ⟨rb, 0, none⟩) rfl (by kernel_rfl) Tryd.isAgg50 (fun w_ h_ => by have x_ := (hrb.mem0 h_).ld (q := 0) (v := Value.slice a L.length cap) rfl; rw [ela_own0] at x_; exact x_)) ?_
    refine Wl.run 1 (by kernel_rfl) ?_
    refine Wl.ys (v := Value.pointer (some (ela a (i * 1)))) rfl rfl (Ys.byMem fun w_ h_ => Ys.indexAddr (k := .i64) (a := a) (len := L.length) (cap := cap) (i := ((i : Nat) : Int)) (sz := 1) rfl (by kernel_rfl) (by kernel_rfl) Tryd.runUnderlying50 Tryd.sizeOf3 (by omega) (by omega) ((hLs.mem0 h_).here (by rw [mc_len]; first | omega | (simp; omega)))) ?_
    refine Wl.ys (v := Value.int .i64 (L.getD i 0)) rfl rfl (Ys.ld (a := ela a (i * 1)) rfl (by kernel_rfl) Tryd.isAgg3 (fun w_ h_ => (hLs.mem0 h_).ld (mc_get1 0 (by first | omega | (simp; omega))))) ?_
    refine Wl.run 2 (by kernel_rfl) ?_
    refine Wl.nil ?_
    refine hK14 _ _ _ ?_
    refine W.prune' [0, 1, 5, 23] [Value.pointer (some ⟨rb, 0, none⟩), Value.int .i64 p, Value.int .i64 ((i : Nat) : Int), Value.bool ((L.getD i 0) == p)] (by kernel_rfl) (fun f15 => ?_)
    refine W.cond ((L.getD i 0) == p) (by kernel_rfl) (fun h16 => ?_) (fun h17 => ?_)
    · have qh16 := h16; try simp only [Bool.and_eq_true, Bool.or_eq_true, Bool.not_eq_true', Bool.not_eq_false', Bool.and_eq_false_iff, Bool.or_eq_false_iff, decide_eq_true_eq, decide_eq_false_iff_not, beq_iff_eq, bne_iff_ne, beq_eq_false_iff_ne, bne_eq_false_iff_eq] at qh16
      refine W.seq (fun K18 hK18 => ?_)
      refine W.region ?_
      refine Wl.run 1 (by kernel_rfl) ?_
      refine Wl.nil ?_
      refine hK18 _ _ _ ?_
      refine W.ret ?_
      show ∀ w_, _ → bodyPostM (fence none) 0 Tryd.prog Tryd.f25 _ Exit.ret _ w_
      exact fun w_ hS_ => fin_ret (ret1 rfl (RV.tmp (v := Value.bool true) (by kernel_rfl)) hS_ ⟨by clear hK1 hK2 hK3 hJ4 hK7 hK8 hK13 hK14 hK18; refine congrArg Ending.returned ?_; rw [hasI_some (by omega) h16], hS_.below⟩)
    · have qh17 := h17; try simp only [Bool.and_eq_true, Bool.or_eq_true, Bool.not_eq_true', Bool.not_eq_false', Bool.and_eq_false_iff, Bool.or_eq_false_iff, decide_eq_true_eq, decide_eq_false_iff_not, beq_iff_eq, bne_iff_ne, beq_eq_false_iff_ne, bne_eq_false_iff_eq] at qh17
      refine W.skip' ?_
      refine hK13 _ _ _ ?_
      refine W.prune' [0, 1, 5] [Value.pointer (some ⟨rb, 0, none⟩), Value.int .i64 p, Value.int .i64 ((i : Nat) : Int)] (by kernel_rfl) (fun f19 => ?_)
      refine W.region ?_
      refine Wl.run 1 (by kernel_rfl) ?_
      refine Wl.ys (v := Value.int .i64 ((i + 1 : Nat) : Int)) rfl rfl ((Ys.pure (v := .int .i64 (iadd .i64 ((i : Nat) : Int) 1)) (fun _ => by kernel_rfl)).conseq (int_congr (iadd_eq (by omega) (by omega) (by omega)))) ?_
      refine Wl.run 1 (by kernel_rfl) ?_
      refine Wl.nil ?_
      refine fun w_ h_ => hJ4 (i + 1) _ w_ (by omega) ⟨(by omega), (fun j hj => (Nat.lt_succ_iff_lt_or_eq.1 hj).elim (hno j) (fun e_ => by subst e_; exact h17))⟩ ?_ h_
      kernel_rfl
  · have qh11 := h11; try simp only [Bool.and_eq_true, Bool.or_eq_true, Bool.not_eq_true', Bool.not_eq_false', Bool.and_eq_false_iff, Bool.or_eq_false_iff, decide_eq_true_eq, decide_eq_false_iff_not, beq_iff_eq, bne_iff_ne, beq_eq_false_iff_ne, bne_eq_false_iff_eq] at qh11
    refine W.exit ?_
    refine hK2 _ _ _ ?_
    refine W.prune' [] [] (by kernel_rfl) (fun f20 => ?_)
    refine W.seq (fun K21 hK21 => ?_)
    refine W.region ?_
    refine Wl.run 1 (by kernel_rfl) ?_
    refine Wl.nil ?_
    refine hK21 _ _ _ ?_
    refine W.ret ?_
    show ∀ w_, _ → bodyPostM (fence none) 0 Tryd.prog Tryd.f25 _ Exit.ret _ w_
    exact fun w_ hS_ => fin_ret (ret1 rfl (RV.tmp (v := Value.bool false) (by kernel_rfl)) hS_ ⟨by clear hK1 hK2 hK3 hJ4 hK7 hK8 hK21; refine congrArg Ending.returned ?_; rw [hasI_none (fun j hj => hno j (by omega))], hS_.below⟩)

theorem rtake_c (L : List Int) (gr : FS) (rb : Nat) (M : List Nat) (p : Int) (w : World) (hl : Mem w M [gr.seg 3 (mc (Value.int .i64) L), [cb rb [Value.slice gr.a L.length gr.cap] 58]] w) (okr : gr.ok 1 L.length) (hLn : L.length ≤ 70000) : Calls Tryd.prog 22 #[Value.pointer (some ⟨rb, 0, none⟩), Value.int .i64 p] w (RetM w (fun g' : FS => g'.ok 1 (takeL L p).length) (fun _ => .bool (tkI L p)) M (fun g' => [g'.seg 3 (mc (Value.int .i64) (takeL L p)), [cb rb [Value.slice g'.a ((takeL L p).length) g'.cap] 58]])) := by
  refine calls_W (M := M) (LL := [gr.seg 3 (mc (Value.int .i64) L), [cb rb [Value.slice gr.a L.length gr.cap] 58]]) (n := 62) Tryd.func22 rfl rfl (by simp) (hl) ?_
  refine W.seq (fun K1 hK1 => ?_)
  refine W.region ?_
  refine Wl.run 1 (by kernel_rfl) ?_
  refine Wl.nil ?_
  refine hK1 _ _ _ ?_
  refine W.seq (fun K2 hK2 => ?_)
  refine W.seq (fun K3 hK3 => ?_)
  refine W.region ?_
  refine Wl.run 3 (by kernel_rfl) ?_
  refine Wl.guard (v := Value.pointer (some ⟨rb, 0, none⟩)) (!(decide (p < 1024))) rfl (wantF rfl (by kernel_rfl)) rfl (fun hg4 => ?_) ?_
  · have qhg4 := hg4; try simp only [Bool.and_eq_true, Bool.or_eq_true, Bool.not_eq_true', Bool.not_eq_false', Bool.and_eq_false_iff, Bool.or_eq_false_iff, decide_eq_true_eq, decide_eq_false_iff_not, beq_iff_eq, bne_iff_ne, beq_eq_false_iff_ne, bne_eq_false_iff_eq] at qhg4
    exact Ys.pure (fun _ => by kernel_rfl)
  refine Wl.guard (v := Value.int .i64 p) (!(decide (p < 1024))) rfl (wantF rfl (by kernel_rfl)) rfl (fun hg5 => ?_) ?_
  · have qhg5 := hg5; try simp only [Bool.and_eq_true, Bool.or_eq_true, Bool.not_eq_true', Bool.not_eq_false', Bool.and_eq_false_iff, Bool.or_eq_false_iff, decide_eq_true_eq, decide_eq_false_iff_not, beq_iff_eq, bne_iff_ne, beq_eq_false_iff_ne, bne_eq_false_iff_eq] at qhg5
    exact Ys.pure (fun _ => by kernel_rfl)
  refine Wl.guardc (v := Value.bool (hasI L p)) (!(decide (p < 1024))) rfl (wantF rfl (by kernel_rfl)) rfl (fun hg6 => ?_) ?_
  · have qhg6 := hg6; try simp only [Bool.and_eq_true, Bool.or_eq_true, Bool.not_eq_true', Bool.not_eq_false', Bool.and_eq_false_iff, Bool.or_eq_false_iff, decide_eq_true_eq, decide_eq_false_iff_not, beq_iff_eq, bne_iff_ne, beq_eq_false_iff_ne, bne_eq_false_iff_eq] at qhg6
    refine Yc.at (t := 11) (v0 := Value.pointer (some ⟨rb, 0, none⟩)) (lz (g := !(decide (p < 1024))) (u := undef) hg6 (by kernel_rfl)) ?_
    refine Yc.at (t := 12) (v0 := Value.int .i64 p) (lz (g := !(decide (p < 1024))) (u := undef) hg6 (by kernel_rfl)) ?_
    exact Yc.call (k := 25) (args := #[Value.pointer (some ⟨rb, 0, none⟩), Value.int .i64 p]) (fun _ => by kernel_rfl) (fun w_ hm_ => (rhas_c L gr.a gr.cap rb p _ (At.lit0 (i := 1) (j := 0) (t := 58) (b := rb) hm_ rfl rfl) (FS.at (i := 0) (t := 3) hm_ rfl (FS.nil_cs okr (mc_len1 _))) (by first | omega | (simp; done))))
  refine Wl.ys (v := Value.bool ((decide (p < 1024)) || (hasI L p))) rfl rfl (Ys.or' (e := decide (p < 1024)) (b := hasI L p) rfl (by kernel_rfl) (by kernel_rfl) (by kernel_rfl)) ?_
  refine Wl.nil ?_
  refine hK3 _ _ _ ?_
  refine W.prune' [0, 1, 14] [Value.pointer (some ⟨rb, 0, none⟩), Value.int .i64 p, Value.bool ((decide (p < 1024)) || (hasI L p))] (by kernel_rfl) (fun f7 => ?_)
  refine W.cond ((decide (p < 1024)) || (hasI L p)) (by kernel_rfl) (fun h8 => ?_) (fun h9 => ?_)
  · have qh8 := h8; try simp only [Bool.and_eq_true, Bool.or_eq_true, Bool.not_eq_true', Bool.not_eq_false', Bool.and_eq_false_iff, Bool.or_eq_false_iff, decide_eq_true_eq, decide_eq_false_iff_not, beq_iff_eq, bne_iff_ne, beq_eq_false_iff_ne, bne_eq_false_iff_eq] at qh8
    refine W.seq (fun K10 hK10 => ?_)
    refine W.region ?_
    refine Wl.run 1 (by kernel_rfl) ?_
    refine Wl.nil ?_
    refine hK10 _ _ _ ?_
    refine W.ret ?_
    have hB_ : tkI L p = false := by unfold tkI; rw [h8]; rfl
    have hX_ : takeL L p = L := by unfold takeL; rw [hB_]; rfl
    show ∀ w_, _ → bodyPostM (fence none) 0 Tryd.prog Tryd.f22 _ Exit.ret _ w_
    exact fun w_ hS_ => fin_ret (ret1 rfl (RV.tmp (v := Value.bool false) (by kernel_rfl)) hS_ ⟨gr, (by rw [hX_]; exact okr), congrArg Ending.returned ((by rw [hB_])), (Mem.cast (LL := [gr.seg 3 (mc (Value.int .i64) L), [cb rb [Value.slice gr.a L.length gr.cap] 58]]) (by rw [hX_]; try rfl) (hS_.pick [0, 1] (by decide) rfl))⟩)
  · have qh9 := h9; try simp only [Bool.and_eq_true, Bool.or_eq_true, Bool.not_eq_true', Bool.not_eq_false', Bool.and_eq_false_iff, Bool.or_eq_false_iff, decide_eq_true_eq, decide_eq_false_iff_not, beq_iff_eq, bne_iff_ne, beq_eq_false_iff_ne, bne_eq_false_iff_eq] at qh9
    refine W.skip' ?_
    refine hK2 _ _ _ ?_
    refine W.prune' [0, 1] [Value.pointer (some ⟨rb, 0, none⟩), Value.int .i64 p] (by kernel_rfl) (fun f11 => ?_)
    refine W.seq (fun K12 hK12 => ?_)
    refine W.region ?_
    refine Wl.ht rfl (Ht.made (mk := fun b_ => .slice (some ⟨b_, 0, none⟩) 0 0) (t := 3) (cs := []) rfl (fun _ => by kernel_rfl)) (fun p15 => ?_)
    refine Wl.run 2 (by kernel_rfl) ?_
    refine Wl.nil ?_
    refine hK12 _ _ _ ?_
    refine W.prune' [0, 1, 5, 6] [Value.pointer (some ⟨rb, 0, none⟩), Value.int .i64 p, Value.slice (some ⟨p15, 0, none⟩) 0 0, Value.bool false] (by kernel_rfl) (fun f13 => ?_)
    refine W.seq (fun K14 hK14 => ?_)
    refine W.seq (fun K15 hK15 => ?_)
    obtain ⟨O0_, hO0_⟩ : ∃ z : List Int, z = [] := ⟨_, rfl⟩
    obtain ⟨go0_, hgo0_⟩ : ∃ z : FS, z = FS.mk false p15 0 [] := ⟨_, rfl⟩
    have oko0_ : go0_.ok 1 O0_.length := by rw [hO0_, hgo0_]; exact FS.lit_ok (by decide)
    have hol0_ : O0_.length = 0 := by rw [hO0_]; rfl
    refine W.conseq (S' := Mem w M [go0_.seg 3 (mc (Value.int .i64) O0_), gr.seg 3 (mc (Value.int .i64) L), [cb rb [Value.slice gr.a L.length gr.cap] 58]]) (fun w_ h_ => Mem.cast (LL := [[cb p15 [] 3], gr.seg 3 (mc (Value.int .i64) L), [cb rb [Value.slice gr.a L.length gr.cap] 58]]) (by rw [hO0_, hgo0_]; rfl) h_) ?_
    refine W.prune' [0, 1, 5, 6] [Value.pointer (some ⟨rb, 0, none⟩), Value.int .i64 p, Value.slice go0_.a O0_.length go0_.cap, Value.bool false] (Eq.trans (b := ([Value.pointer (some ⟨rb, 0, none⟩), Value.int .i64 p, Value.slice (some ⟨p15, 0, none⟩) 0 0, Value.bool false] : List Value)) (by kernel_rfl) (by rw [hO0_, hgo0_]; rfl)) (fun f16 => ?_)
    refine W.region ?_
    refine Wl.run 1 (by kernel_rfl) ?_
    refine Wl.nil ?_
    refine hK15 _ _ _ ?_
    refine W.block ?_
    refine W.loop5 [0, 1, 5, 6, 7] (fun (i : Nat) (j : Nat) (put : Bool) (out : List Int) (go : FS) => [Value.pointer (some ⟨rb, 0, none⟩), Value.int .i64 p, Value.slice go.a out.length go.cap, Value.bool put, Value.int .i64 ((i : Nat) : Int)]) (fun (i : Nat) (j : Nat) (put : Bool) (out : List Int) (go : FS) => i ≤ L.length ∧ go.ok 1 out.length ∧ TkS L p i j put out) (fun (i : Nat) (j : Nat) (put : Bool) (out : List Int) (go : FS) => [go.seg 3 (mc (Value.int .i64) out), gr.seg 3 (mc (Value.int .i64) L), [cb rb [Value.slice gr.a L.length gr.cap] 58]]) (fun (i : Nat) (j : Nat) (put : Bool) (out : List Int) (go : FS) => L.length - i) 0 0 false O0_ go0_ (by kernel_rfl) ⟨(Nat.zero_le _), oko0_, (by rw [hO0_]; exact tks_0)⟩ (by rfl) (fun i j put out go f18 J17 hp19 hJ17 => ?_)
    obtain ⟨hi, oko, hst⟩ := hp19
    have hol_ := hst.len
    refine W.seq (fun K20 hK20 => ?_)
    refine W.seq (fun K21 hK21 => ?_)
    refine W.region ?_
    refine Wl.run 4 (by kernel_rfl) ?_
    refine Wl.ys (v := Value.slice gr.a L.length gr.cap) rfl rfl (Ys.load (b := rb) (o' := 0) (i := 2) (j := 0) (cs := [Value.slice gr.a L.length gr.cap]) (v := Value.slice gr.a L.length gr.cap) rfl (by kernel_rfl) Tryd.isAgg50 rfl rfl rfl) ?_
    refine Wl.run 2 (by kernel_rfl) ?_
    refine Wl.nil ?_
    refine hK21 _ _ _ ?_
    refine W.prune' [0, 1, 5, 6, 7, 22] [Value.pointer (some ⟨rb, 0, none⟩), Value.int .i64 p, Value.slice go.a out.length go.cap, Value.bool put, Value.int .i64 ((i : Nat) : Int), Value.bool (decide (((i : Nat) : Int) < ((L.length : Nat) : Int)))] (by kernel_rfl) (fun f22 => ?_)
    refine W.cond (decide (((i : Nat) : Int) < ((L.length : Nat) : Int))) (by kernel_rfl) (fun h23 => ?_) (fun h24 => ?_)
    · have qh23 := h23; try simp only [Bool.and_eq_true, Bool.or_eq_true, Bool.not_eq_true', Bool.not_eq_false', Bool.and_eq_false_iff, Bool.or_eq_false_iff, decide_eq_true_eq, decide_eq_false_iff_not, beq_iff_eq, bne_iff_ne, beq_eq_false_iff_ne, bne_eq_false_iff_eq] at qh23
      refine W.skip' ?_
      refine hK20 _ _ _ ?_
      refine W.prune' [0, 1, 5, 6, 7] [Value.pointer (some ⟨rb, 0, none⟩), Value.int .i64 p, Value.slice go.a out.length go.cap, Value.bool put, Value.int .i64 ((i : Nat) : Int)] (by kernel_rfl) (fun f25 => ?_)
      refine W.seq (fun K26 hK26 => ?_)
      refine W.block ?_
      refine W.seq (fun K27 hK27 => ?_)
      refine W.seq (fun K28 hK28 => ?_)
      refine W.region ?_
      refine Wl.run 3 (by kernel_rfl) ?_
      refine Wl.guard (v := Value.pointer (some ⟨rb, 0, none⟩)) (!put) rfl (wantT rfl (by kernel_rfl)) rfl (fun hg29 => ?_) ?_
      · exact Ys.pure (fun _ => by kernel_rfl)
      refine Wl.guard (v := Value.pointer (some ⟨rb, 0, none⟩)) (!put) rfl (wantT rfl (by kernel_rfl)) rfl (fun hg30 => ?_) ?_
      · refine Ys.at (t := 28) (v0 := Value.pointer (some ⟨rb, 0, none⟩)) (lz (g := !put) (u := undef) hg30 (by kernel_rfl)) ?_
        exact Ys.pure (fun _ => by kernel_rfl)
      refine Wl.guard (v := Value.pointer (some ⟨rb, 0, none⟩)) (!put) rfl (wantT rfl (by kernel_rfl)) rfl (fun hg31 => ?_) ?_
      · refine Ys.at (t := 29) (v0 := Value.pointer (some ⟨rb, 0, none⟩)) (lz (g := !put) (u := undef) hg31 (by kernel_rfl)) ?_
        exact Ys.pure (fun _ => by kernel_rfl)
      refine Wl.guard (v := Value.slice gr.a L.length gr.cap) (!put) rfl (wantT rfl (by kernel_rfl)) rfl (fun hg32 => ?_) ?_
      · refine Ys.at (t := 30) (v0 := Value.pointer (some ⟨rb, 0, none⟩)) (lz (g := !put) (u := undef) hg32 (by kernel_rfl)) ?_
        exact Ys.load (b := rb) (o' := 0) (i := 2) (j := 0) (cs := [Value.slice gr.a L.length gr.cap]) (v := Value.slice gr.a L.length gr.cap) rfl (by kernel_rfl) Tryd.isAgg50 rfl rfl rfl
      refine Wl.guard (v := Value.int .i64 ((i : Nat) : Int)) (!put) rfl (wantT rfl (by kernel_rfl)) rfl (fun hg33 => ?_) ?_
      · exact Ys.pure (fun _ => by kernel_rfl)
      refine Wl.guard (v := Value.pointer (some (ela gr.a (i * 1)))) (!put) rfl (wantT rfl (by kernel_rfl)) rfl (fun hg34 => ?_) ?_
      · refine Ys.at (t := 31) (v0 := Value.slice gr.a L.length gr.cap) (lz (g := !put) (u := undef) hg34 (by kernel_rfl)) ?_
        refine Ys.at (t := 32) (v0 := Value.int .i64 ((i : Nat) : Int)) (lz (g := !put) (u := undef) hg34 (by kernel_rfl)) ?_
        exact Ys.indexAddr (k := .i64) (a := gr.a) (len := L.length) (cap := gr.cap) (i := ((i : Nat) : Int)) (sz := 1) rfl (by kernel_rfl) (by kernel_rfl) Tryd.runUnderlying50 Tryd.sizeOf3 (by omega) (by omega) (by rw [FS.a_own (FS.notnil okr (by omega))]; rfl)
      refine Wl.guard (v := Value.int .i64 (L.getD i 0)) (!put) rfl (wantT rfl (by kernel_rfl)) rfl (fun hg35 => ?_) ?_
      · refine Ys.at (t := 33) (v0 := Value.pointer (some (ela gr.a (i * 1)))) (lz (g := !put) (u := undef) hg35 (by kernel_rfl)) ?_
        exact Ys.ld (a := ela gr.a (i * 1)) rfl (by kernel_rfl) Tryd.isAgg3 (fun w_ h_ => (FS.at (i := 1) (t := 3) h_ rfl (FS.nil_cs okr (mc_len1 _))).ld (mc_get1 0 (by first | omega | (simp; omega))))
      refine Wl.guard (v := Value.int .i64 p) (!put) rfl (wantT rfl (by kernel_rfl)) rfl (fun hg36 => ?_) ?_
      · exact Ys.pure (fun _ => by kernel_rfl)
      refine Wl.guard (v := Value.bool (decide ((L.getD i 0) > p))) (!put) rfl (wantT rfl (by kernel_rfl)) rfl (fun hg37 => ?_) ?_
      · refine Ys.at (t := 34) (v0 := Value.int .i64 (L.getD i 0)) (lz (g := !put) (u := undef) hg37 (by kernel_rfl)) ?_
        refine Ys.at (t := 35) (v0 := Value.int .i64 p) (lz (g := !put) (u := undef) hg37 (by kernel_rfl)) ?_
        exact Ys.pure (fun _ => by kernel_rfl)
      refine Wl.ys (v := Value.bool ((!put) && (decide ((L.getD i 0) > p)))) rfl rfl (Ys.and (e := !put) (b := decide ((L.getD i 0) > p)) rfl (by kernel_rfl) (by kernel_rfl) (by kernel_rfl)) ?_
      refine Wl.nil ?_
      refine hK28 _ _ _ ?_
      refine W.prune' [0, 1, 5, 6, 7, 28, 29, 30, 31, 32, 33, 34, 35, 36, 37] [Value.pointer (some ⟨rb, 0, none⟩), Value.int .i64 p, Value.slice go.a out.length go.cap, Value.bool put, Value.int .i64 ((i : Nat) : Int), (bif !put then Value.pointer (some ⟨rb, 0, none⟩) else undef), (bif !put then Value.pointer (some ⟨rb, 0, none⟩) else undef), (bif !put then Value.pointer (some ⟨rb, 0, none⟩) else undef), (bif !put then Value.slice gr.a L.length gr.cap else undef), (bif !put then Value.int .i64 ((i : Nat) : Int) else undef), (bif !put then Value.pointer (some (ela gr.a (i * 1))) else undef), (bif !put then Value.int .i64 (L.getD i 0) else undef), (bif !put then Value.int .i64 p else undef), (bif !put then Value.bool (decide ((L.getD i 0) > p)) else undef), Value.bool ((!put) && (decide ((L.getD i 0) > p)))] (by kernel_rfl) (fun f38 => ?_)
      refine W.cond ((!put) && (decide ((L.getD i 0) > p))) (by kernel_rfl) (fun h39 => ?_) (fun h40 => ?_)
      · have qh39 := h39; try simp only [Bool.and_eq_true, Bool.or_eq_true, Bool.not_eq_true', Bool.not_eq_false', Bool.and_eq_false_iff, Bool.or_eq_false_iff, decide_eq_true_eq, decide_eq_false_iff_not, beq_iff_eq, bne_iff_ne, beq_eq_false_iff_ne, bne_eq_false_iff_eq] at qh39
        refine W.seq (fun K41 hK41 => ?_)
        refine W.region ?_
        refine Wl.run 2 (by kernel_rfl) ?_
        refine Wl.ht rfl (Ht.made (mk := fun b_ => .slice (some ⟨b_, 0, none⟩) 1 1) (t := 3) (cs := [Value.int .i64 p]) rfl (fun _ => by kernel_rfl)) (fun p40 => ?_)
        refine Wl.htS rfl (HtS.append (eu := 3) (xv := Value.slice (some ⟨p40, 0, none⟩) 1 1) (i := 1) (g := go) (e := 3) (ii := (Tryd.prog.info? 3).getD default) (z := Value.int .i64 0) (sz := 1) (bytes := 8) (nn := out.length) (m := 1) (k := (out ++ [p]).length) (xs := mc (Value.int .i64) out) (news := mc (Value.int .i64) [p]) (cs' := mc (Value.int .i64) (out ++ [p])) (Lo := fun g42 => [[cb p40 [Value.int .i64 p] 3], g42.seg 3 (mc (Value.int .i64) (out ++ [p])), gr.seg 3 (mc (Value.int .i64) L), [cb rb [Value.slice gr.a L.length gr.cap] 58]]) rfl rfl (by kernel_rfl) (by kernel_rfl) (by kernel_rfl) (by kernel_rfl) (by kernel_rfl) (by kernel_rfl) (by kernel_rfl) (by kernel_rfl) (by kernel_rfl) rfl oko (mc_len1 _) (fun _ => rfl) (Src.at (a := some ⟨p40, 0, none⟩) (by first | rfl | (rw [mc_len, List.length_take]; omega) | (rw [mc_len, List.length_take, List.length_drop]; omega) | (simp [mc, be_len]; done) | (simp [mc, be_len]; omega)) (fun w_ h_ => (At.lit0 (i := 0) (j := 0) (t := 3) (b := p40) h_ rfl rfl))) (by first | rfl | (rw [mc_len, List.length_take]; omega) | (rw [mc_len, List.length_take, List.length_drop]; omega) | (simp [mc, be_len]; done) | (simp [mc, be_len]; omega)) (mc_one (fun _ => rfl) _) (by first | omega | (simp; done) | (simp; omega)) (by simp only [maxLen]; first | omega | (simp; done) | (simp; omega)) (by first | omega | (simp; done) | (simp; omega)) (mc_app _ _) (fun _ => rfl)) (fun g42 hx47 => ?_)
        obtain ⟨ok43, hn44, hn45⟩ := hx47
        refine Wl.run 1 (by kernel_rfl) ?_
        refine Wl.nil ?_
        refine hK41 _ _ _ ?_
        refine W.pick (LL' := [g42.seg 3 (mc (Value.int .i64) (out ++ [p])), gr.seg 3 (mc (Value.int .i64) L), [cb rb [Value.slice gr.a L.length gr.cap] 58]]) [1, 2, 3] (by decide) rfl ?_
        refine W.prune' [0, 1, 5, 7, 28, 29, 30, 31, 32, 33, 34, 35, 36] [Value.pointer (some ⟨rb, 0, none⟩), Value.int .i64 p, Value.slice g42.a ((out ++ [p]).length) g42.cap, Value.int .i64 ((i : Nat) : Int), (bif !put then Value.pointer (some ⟨rb, 0, none⟩) else undef), (bif !put then Value.pointer (some ⟨rb, 0, none⟩) else undef), (bif !put then Value.pointer (some ⟨rb, 0, none⟩) else undef), (bif !put then Value.slice gr.a L.length gr.cap else undef), (bif !put then Value.int .i64 ((i : Nat) : Int) else undef), (bif !put then Value.pointer (some (ela gr.a (i * 1))) else undef), (bif !put then Value.int .i64 (L.getD i 0) else undef), (bif !put then Value.int .i64 p else undef), (bif !put then Value.bool (decide ((L.getD i 0) > p)) else undef)] (by kernel_rfl) (fun f48 => ?_)
        refine W.region ?_
        refine Wl.run 1 (by kernel_rfl) ?_
        refine Wl.nil ?_
        refine hK27 _ _ _ ?_
        refine W.prune' [0, 1, 5, 6, 7, 28, 29, 30, 31, 32, 33, 34, 35, 36] [Value.pointer (some ⟨rb, 0, none⟩), Value.int .i64 p, Value.slice g42.a ((out ++ [p]).length) g42.cap, Value.bool true, Value.int .i64 ((i : Nat) : Int), (bif !put then Value.pointer (some ⟨rb, 0, none⟩) else undef), (bif !put then Value.pointer (some ⟨rb, 0, none⟩) else undef), (bif !put then Value.pointer (some ⟨rb, 0, none⟩) else undef), (bif !put then Value.slice gr.a L.length gr.cap else undef), (bif !put then Value.int .i64 ((i : Nat) : Int) else undef), (bif !put then Value.pointer (some (ela gr.a (i * 1))) else undef), (bif !put then Value.int .i64 (L.getD i 0) else undef), (bif !put then Value.int .i64 p else undef), (bif !put then Value.bool (decide ((L.getD i 0) > p)) else undef)] (by kernel_rfl) (fun f49 => ?_)
        refine W.region ?_
        refine Wl.run 4 (by kernel_rfl) ?_
        refine Wl.ys (v := Value.slice gr.a L.length gr.cap) rfl rfl (Ys.load (b := rb) (o' := 0) (i := 2) (j := 0) (cs := [Value.slice gr.a L.length gr.cap]) (v := Value.slice gr.a L.length gr.cap) rfl (by kernel_rfl) Tryd.isAgg50 rfl rfl rfl) ?_
        refine Wl.run 1 (by kernel_rfl) ?_
        refine Wl.ys (v := Value.pointer (some (ela gr.a (i * 1)))) rfl rfl (Ys.indexAddr (k := .i64) (a := gr.a) (len := L.length) (cap := gr.cap) (i := ((i : Nat) : Int)) (sz := 1) rfl (by kernel_rfl) (by kernel_rfl) Tryd.runUnderlying50 Tryd.sizeOf3 (by omega) (by omega) (by rw [FS.a_own (FS.notnil okr (by omega))]; rfl)) ?_
        refine Wl.ys (v := Value.int .i64 (L.getD i 0)) rfl rfl (Ys.ld (a := ela gr.a (i * 1)) rfl (by kernel_rfl) Tryd.isAgg3 (fun w_ h_ => (FS.at (i := 1) (t := 3) h_ rfl (FS.nil_cs okr (mc_len1 _))).ld (mc_get1 0 (by first | omega | (simp; omega))))) ?_
        refine Wl.ht rfl (Ht.made (mk := fun b_ => .slice (some ⟨b_, 0, none⟩) 1 1) (t := 3) (cs := [Value.int .i64 (L.getD i 0)]) rfl (fun _ => by kernel_rfl)) (fun p50 => ?_)
        refine Wl.htS rfl (HtS.append (eu := 3) (xv := Value.slice (some ⟨p50, 0, none⟩) 1 1) (i := 1) (g := g42) (e := 3) (ii := (Tryd.prog.info? 3).getD default) (z := Value.int .i64 0) (sz := 1) (bytes := 8) (nn := (out ++ [p]).length) (m := 1) (k := ((out ++ [p]) ++ [L.getD i 0]).length) (xs := mc (Value.int .i64) (out ++ [p])) (news := mc (Value.int .i64) [L.getD i 0]) (cs' := mc (Value.int .i64) ((out ++ [p]) ++ [L.getD i 0])) (Lo := fun g50 => [[cb p50 [Value.int .i64 (L.getD i 0)] 3], g50.seg 3 (mc (Value.int .i64) ((out ++ [p]) ++ [L.getD i 0])), gr.seg 3 (mc (Value.int .i64) L), [cb rb [Value.slice gr.a L.length gr.cap] 58]]) rfl rfl (by kernel_rfl) (by kernel_rfl) (by kernel_rfl) (by kernel_rfl) (by kernel_rfl) (by kernel_rfl) (by kernel_rfl) (by kernel_rfl) (by kernel_rfl) rfl ok43 (mc_len1 _) (fun _ => rfl) (Src.at (a := some ⟨p50, 0, none⟩) (by first | rfl | (rw [mc_len, List.length_take]; omega) | (rw [mc_len, List.length_take, List.length_drop]; omega) | (simp [mc, be_len]; done) | (simp [mc, be_len]; omega)) (fun w_ h_ => (At.lit0 (i := 0) (j := 0) (t := 3) (b := p50) h_ rfl rfl))) (by first | rfl | (rw [mc_len, List.length_take]; omega) | (rw [mc_len, List.length_take, List.length_drop]; omega) | (simp [mc, be_len]; done) | (simp [mc, be_len]; omega)) (mc_one (fun _ => rfl) _) (by first | omega | (simp; done) | (simp; omega)) (by simp only [maxLen]; first | omega | (simp; done) | (simp; omega)) (by first | omega | (simp; done) | (simp; omega)) (mc_app _ _) (fun _ => rfl)) (fun g50 hx55 => ?_)
        obtain ⟨ok51, hn52, hn53⟩ := hx55
        refine Wl.run 1 (by kernel_rfl) ?_
        refine Wl.nil ?_
        refine hK26 _ _ _ ?_
        refine W.pick (LL' := [g50.seg 3 (mc (Value.int .i64) ((out ++ [p]) ++ [L.getD i 0])), gr.seg 3 (mc (Value.int .i64) L), [cb rb [Value.slice gr.a L.length gr.cap] 58]]) [1, 2, 3] (by decide) rfl ?_
        refine W.prune' [0, 1, 5, 6, 7, 28, 29, 30, 31, 32, 33, 34, 35, 36] [Value.pointer (some ⟨rb, 0, none⟩), Value.int .i64 p, Value.slice g50.a (((out ++ [p]) ++ [L.getD i 0]).length) g50.cap, Value.bool true, Value.int .i64 ((i : Nat) : Int), (bif !put then Value.pointer (some ⟨rb, 0, none⟩) else undef), (bif !put then Value.pointer (some ⟨rb, 0, none⟩) else undef), (bif !put then Value.pointer (some ⟨rb, 0, none⟩) else undef), (bif !put then Value.slice gr.a L.length gr.cap else undef), (bif !put then Value.int .i64 ((i : Nat) : Int) else undef), (bif !put then Value.pointer (some (ela gr.a (i * 1))) else undef), (bif !put then Value.int .i64 (L.getD i 0) else undef), (bif !put then Value.int .i64 p else undef), (bif !put then Value.bool (decide ((L.getD i 0) > p)) else undef)] (by kernel_rfl) (fun f56 => ?_)
        refine W.region ?_
        refine Wl.run 1 (by kernel_rfl) ?_
        refine Wl.ys (v := Value.int .i64 ((i + 1 : Nat) : Int)) rfl rfl ((Ys.pure (v := .int .i64 (iadd .i64 ((i : Nat) : Int) 1)) (fun _ => by kernel_rfl)).conseq (int_congr (iadd_eq (by omega) (by omega) (by omega)))) ?_
        refine Wl.run 1 (by kernel_rfl) ?_
        refine Wl.nil ?_
        have hst2_ : TkS L p (i + 1) (bif put then j else bif decide (p < L.getD i 0) then j else i + 1) (put || decide (p < L.getD i 0)) ((out ++ [p]) ++ [L.getD i 0]) := tks_true hst (by omega) h39
        have hput_ : (put || decide (p < L.getD i 0)) = true := tkp_true h39
        refine fun w_ h_ => hJ17 (i + 1) (bif put then j else bif decide (p < L.getD i 0) then j else i + 1) (put || decide (p < L.getD i 0)) ((out ++ [p]) ++ [L.getD i 0]) g50 _ w_ (by omega) ⟨(by omega), ok51, hst2_⟩ ?_ h_
        refine Eq.trans (b := ([Value.pointer (some ⟨rb, 0, none⟩), Value.int .i64 p, Value.slice g50.a (((out ++ [p]) ++ [L.getD i 0]).length) g50.cap, Value.bool true, Value.int .i64 ((i + 1 : Nat) : Int)] : List Value)) (by kernel_rfl) (by rw [hput_])
      · have qh40 := h40; try simp only [Bool.and_eq_true, Bool.or_eq_true, Bool.not_eq_true', Bool.not_eq_false', Bool.and_eq_false_iff, Bool.or_eq_false_iff, decide_eq_true_eq, decide_eq_false_iff_not, beq_iff_eq, bne_iff_ne, beq_eq_false_iff_ne, bne_eq_false_iff_eq] at qh40
        refine W.skip' ?_
        refine hK27 _ _ _ ?_
        refine W.prune' [0, 1, 5, 6, 7, 28, 29, 30, 31, 32, 33, 34, 35, 36] [Value.pointer (some ⟨rb, 0, none⟩), Value.int .i64 p, Value.slice go.a out.length go.cap, Value.bool put, Value.int .i64 ((i : Nat) : Int), (bif !put then Value.pointer (some ⟨rb, 0, none⟩) else undef), (bif !put then Value.pointer (some ⟨rb, 0, none⟩) else undef), (bif !put then Value.pointer (some ⟨rb, 0, none⟩) else undef), (bif !put then Value.slice gr.a L.length gr.cap else undef), (bif !put then Value.int .i64 ((i : Nat) : Int) else undef), (bif !put then Value.pointer (some (ela gr.a (i * 1))) else undef), (bif !put then Value.int .i64 (L.getD i 0) else undef), (bif !put then Value.int .i64 p else undef), (bif !put then Value.bool (decide ((L.getD i 0) > p)) else undef)] (by kernel_rfl) (fun f57 => ?_)
        refine W.region ?_
        refine Wl.run 4 (by kernel_rfl) ?_
        refine Wl.ys (v := Value.slice gr.a L.length gr.cap) rfl rfl (Ys.load (b := rb) (o' := 0) (i := 2) (j := 0) (cs := [Value.slice gr.a L.length gr.cap]) (v := Value.slice gr.a L.length gr.cap) rfl (by kernel_rfl) Tryd.isAgg50 rfl rfl rfl) ?_
        refine Wl.run 1 (by kernel_rfl) ?_
        refine Wl.ys (v := Value.pointer (some (ela gr.a (i * 1)))) rfl rfl (Ys.indexAddr (k := .i64) (a := gr.a) (len := L.length) (cap := gr.cap) (i := ((i : Nat) : Int)) (sz := 1) rfl (by kernel_rfl) (by kernel_rfl) Tryd.runUnderlying50 Tryd.sizeOf3 (by omega) (by omega) (by rw [FS.a_own (FS.notnil okr (by omega))]; rfl)) ?_
        refine Wl.ys (v := Value.int .i64 (L.getD i 0)) rfl rfl (Ys.ld (a := ela gr.a (i * 1)) rfl (by kernel_rfl) Tryd.isAgg3 (fun w_ h_ => (FS.at (i := 1) (t := 3) h_ rfl (FS.nil_cs okr (mc_len1 _))).ld (mc_get1 0 (by first | omega | (simp; omega))))) ?_
        refine Wl.ht rfl (Ht.made (mk := fun b_ => .slice (some ⟨b_, 0, none⟩) 1 1) (t := 3) (cs := [Value.int .i64 (L.getD i 0)]) rfl (fun _ => by kernel_rfl)) (fun p50 => ?_)
        refine Wl.htS rfl (HtS.append (eu := 3) (xv := Value.slice (some ⟨p50, 0, none⟩) 1 1) (i := 1) (g := go) (e := 3) (ii := (Tryd.prog.info? 3).getD default) (z := Value.int .i64 0) (sz := 1) (bytes := 8) (nn := out.length) (m := 1) (k := (out ++ [L.getD i 0]).length) (xs := mc (Value.int .i64) out) (news := mc (Value.int .i64) [L.getD i 0]) (cs' := mc (Value.int .i64) (out ++ [L.getD i 0])) (Lo := fun g58 => [[cb p50 [Value.int .i64 (L.getD i 0)] 3], g58.seg 3 (mc (Value.int .i64) (out ++ [L.getD i 0])), gr.seg 3 (mc (Value.int .i64) L), [cb rb [Value.slice gr.a L.length gr.cap] 58]]) rfl rfl (by kernel_rfl) (by kernel_rfl) (by kernel_rfl) (by kernel_rfl) (by kernel_rfl) (by kernel_rfl) (by kernel_rfl) (by kernel_rfl) (by kernel_rfl) rfl oko (mc_len1 _) (fun _ => rfl) (Src.at (a := some ⟨p50, 0, none⟩) (by first | rfl | (rw [mc_len, List.length_take]; omega) | (rw [mc_len, List.length_take, List.length_drop]; omega) | (simp [mc, be_len]; done) | (simp [mc, be_len]; omega)) (fun w_ h_ => (At.lit0 (i := 0) (j := 0) (t := 3) (b := p50) h_ rfl rfl))) (by first | rfl | (rw [mc_len, List.length_take]; omega) | (rw [mc_len, List.length_take, List.length_drop]; omega) | (simp [mc, be_len]; done) | (simp [mc, be_len]; omega)) (mc_one (fun _ => rfl) _) (by first | omega | (simp; done) | (simp; omega)) (by simp only [maxLen]; first | omega | (simp; done) | (simp; omega)) (by first | omega | (simp; done) | (simp; omega)) (mc_app _ _) (fun _ => rfl)) (fun g58 hx63 => ?_)
        obtain ⟨ok59, hn60, hn61⟩ := hx63
        refine Wl.run 1 (by kernel_rfl) ?_
        refine Wl.nil ?_
        refine hK26 _ _ _ ?_
        refine W.pick (LL' := [g58.seg 3 (mc (Value.int .i64) (out ++ [L.getD i 0])), gr.seg 3 (mc (Value.int .i64) L), [cb rb [Value.slice gr.a L.length gr.cap] 58]]) [1, 2, 3] (by decide) rfl ?_
        refine W.prune' [0, 1, 5, 6, 7, 28, 29, 30, 31, 32, 33, 34, 35, 36] [Value.pointer (some ⟨rb, 0, none⟩), Value.int .i64 p, Value.slice g58.a ((out ++ [L.getD i 0]).length) g58.cap, Value.bool put, Value.int .i64 ((i : Nat) : Int), (bif !put then Value.pointer (some ⟨rb, 0, none⟩) else undef), (bif !put then Value.pointer (some ⟨rb, 0, none⟩) else undef), (bif !put then Value.pointer (some ⟨rb, 0, none⟩) else undef), (bif !put then Value.slice gr.a L.length gr.cap else undef), (bif !put then Value.int .i64 ((i : Nat) : Int) else undef), (bif !put then Value.pointer (some (ela gr.a (i * 1))) else undef), (bif !put then Value.int .i64 (L.getD i 0) else undef), (bif !put then Value.int .i64 p else undef), (bif !put then Value.bool (decide ((L.getD i 0) > p)) else undef)] (by kernel_rfl) (fun f64 => ?_)
        refine W.region ?_
        refine Wl.run 1 (by kernel_rfl) ?_
        refine Wl.ys (v := Value.int .i64 ((i + 1 : Nat) : Int)) rfl rfl ((Ys.pure (v := .int .i64 (iadd .i64 ((i : Nat) : Int) 1)) (fun _ => by kernel_rfl)).conseq (int_congr (iadd_eq (by omega) (by omega) (by omega)))) ?_
        refine Wl.run 1 (by kernel_rfl) ?_
        refine Wl.nil ?_
        have hst2_ : TkS L p (i + 1) (bif put then j else bif decide (p < L.getD i 0) then j else i + 1) (put || decide (p < L.getD i 0)) (out ++ [L.getD i 0]) := tks_false hst (by omega) h40
        have hput_ : (put || decide (p < L.getD i 0)) = put := tkp_false h40
        refine fun w_ h_ => hJ17 (i + 1) (bif put then j else bif decide (p < L.getD i 0) then j else i + 1) (put || decide (p < L.getD i 0)) (out ++ [L.getD i 0]) g58 _ w_ (by omega) ⟨(by omega), ok59, hst2_⟩ ?_ h_
        refine Eq.trans (b := ([Value.pointer (some ⟨rb, 0, none⟩), Value.int .i64 p, Value.slice g58.a ((out ++ [L.getD i 0]).length) g58.cap, Value.bool put, Value.int .i64 ((i + 1 : Nat) : Int)] : List Value)) (by kernel_rfl) (by rw [hput_])
    · have qh24 := h24; try simp only [Bool.and_eq_true, Bool.or_eq_true, Bool.not_eq_true', Bool.not_eq_false', Bool.and_eq_false_iff, Bool.or_eq_false_iff, decide_eq_true_eq, decide_eq_false_iff_not, beq_iff_eq, bne_iff_ne, beq_eq_false_iff_ne, bne_eq_false_iff_eq] at qh24
      refine W.exit ?_
      refine hK14 _ _ _ ?_
      refine W.prune' [0, 1, 5, 6] [Value.pointer (some ⟨rb, 0, none⟩), Value.int .i64 p, Value.slice go.a out.length go.cap, Value.bool put] (by kernel_rfl) (fun f65 => ?_)
      refine W.seq (fun K66 hK66 => ?_)
      refine W.seq (fun K67 hK67 => ?_)
      refine W.region ?_
      refine Wl.run 2 (by kernel_rfl) ?_
      refine Wl.nil ?_
      refine hK67 _ _ _ ?_
      refine W.prune' [0, 1, 5, 53] [Value.pointer (some ⟨rb, 0, none⟩), Value.int .i64 p, Value.slice go.a out.length go.cap, Value.bool (!put)] (by kernel_rfl) (fun f68 => ?_)
      refine W.cond (!put) (by kernel_rfl) (fun h69 => ?_) (fun h70 => ?_)
      · refine W.region ?_
        refine Wl.run 2 (by kernel_rfl) ?_
        refine Wl.ht rfl (Ht.made (mk := fun b_ => .slice (some ⟨b_, 0, none⟩) 1 1) (t := 3) (cs := [Value.int .i64 p]) rfl (fun _ => by kernel_rfl)) (fun p56 => ?_)
        refine Wl.htS rfl (HtS.append (eu := 3) (xv := Value.slice (some ⟨p56, 0, none⟩) 1 1) (i := 1) (g := go) (e := 3) (ii := (Tryd.prog.info? 3).getD default) (z := Value.int .i64 0) (sz := 1) (bytes := 8) (nn := out.length) (m := 1) (k := (out ++ [p]).length) (xs := mc (Value.int .i64) out) (news := mc (Value.int .i64) [p]) (cs' := mc (Value.int .i64) (out ++ [p])) (Lo := fun g71 => [[cb p56 [Value.int .i64 p] 3], g71.seg 3 (mc (Value.int .i64) (out ++ [p])), gr.seg 3 (mc (Value.int .i64) L), [cb rb [Value.slice gr.a L.length gr.cap] 58]]) rfl rfl (by kernel_rfl) (by kernel_rfl) (by kernel_rfl) (by kernel_rfl) (by kernel_rfl) (by kernel_rfl) (by kernel_rfl) (by kernel_rfl) (by kernel_rfl) rfl oko (mc_len1 _) (fun _ => rfl) (Src.at (a := some ⟨p56, 0, none⟩) (by first | rfl | (rw [mc_len, List.length_take]; omega) | (rw [mc_len, List.length_take, List.length_drop]; omega) | (simp [mc, be_len]; done) | (simp [mc, be_len]; omega)) (fun w_ h_ => (At.lit0 (i := 0) (j := 0) (t := 3) (b := p56) h_ rfl rfl))) (by first | rfl | (rw [mc_len, List.length_take]; omega) | (rw [mc_len, List.length_take, List.length_drop]; omega) | (simp [mc, be_len]; done) | (simp [mc, be_len]; omega)) (mc_one (fun _ => rfl) _) (by first | omega | (simp; done) | (simp; omega)) (by simp only [maxLen]; first | omega | (simp; done) | (simp; omega)) (by first | omega | (simp; done) | (simp; omega)) (mc_app _ _) (fun _ => rfl)) (fun g71 hx76 => ?_)
        obtain ⟨ok72, hn73, hn74⟩ := hx76
        refine Wl.run 1 (by kernel_rfl) ?_
        refine Wl.nil ?_
        refine hK66 _ _ _ ?_
        refine W.pick (LL' := [g71.seg 3 (mc (Value.int .i64) (out ++ [p])), gr.seg 3 (mc (Value.int .i64) L), [cb rb [Value.slice gr.a L.length gr.cap] 58]]) [1, 2, 3] (by decide) rfl ?_
        refine W.prune' [0, 5] [Value.pointer (some ⟨rb, 0, none⟩), Value.slice g71.a ((out ++ [p]).length) g71.cap] (by kernel_rfl) (fun f77 => ?_)
        refine W.seq (fun K78 hK78 => ?_)
        refine W.region ?_
        refine Wl.run 4 (by kernel_rfl) ?_
        refine Wl.ht rfl (Ht.store (b := rb) (o' := 0) (i := 2) (j := 0) (cs := [Value.slice gr.a L.length gr.cap]) (cs' := [Value.slice g71.a ((out ++ [p]).length) g71.cap]) (v := Value.slice g71.a ((out ++ [p]).length) g71.cap) (LL' := [g71.seg 3 (mc (Value.int .i64) (out ++ [p])), gr.seg 3 (mc (Value.int .i64) L), [cb rb [Value.slice g71.a ((out ++ [p]).length) g71.cap] 58]]) rfl rfl (by kernel_rfl) (by kernel_rfl) Tryd.sizeOf50 rfl rfl rfl (by simp) rfl rfl) (fun _ => ?_)
        refine Wl.nil ?_
        refine hK78 _ _ _ ?_
        refine W.prune' [] [] (by kernel_rfl) (fun f79 => ?_)
        refine W.seq (fun K80 hK80 => ?_)
        refine W.region ?_
        refine Wl.run 1 (by kernel_rfl) ?_
        refine Wl.nil ?_
        refine hK80 _ _ _ ?_
        refine W.ret ?_
        have hB_ : tkI L p = true := by unfold tkI; rw [h9]; rfl
        have hput2_ : put = false := by simpa using h69
        have hX_ : takeL L p = out ++ [p] := by rw [hput2_] at hst; unfold takeL; rw [hB_]; exact (tks_end0 hst (by omega)).symm
        show ∀ w_, _ → bodyPostM (fence none) 0 Tryd.prog Tryd.f22 _ Exit.ret _ w_
        exact fun w_ hS_ => fin_ret (ret1 rfl (RV.tmp (v := Value.bool true) (by kernel_rfl)) hS_ ⟨g71, (by rw [hX_]; exact ok72), congrArg Ending.returned ((by rw [hB_])), (Mem.cast (LL := [g71.seg 3 (mc (Value.int .i64) (out ++ [p])), [cb rb [Value.slice g71.a ((out ++ [p]).length) g71.cap] 58]]) (by rw [hX_]; try rfl) (hS_.pick [0, 2] (by decide) rfl))⟩)
      · refine W.skip' ?_
        refine hK66 _ _ _ ?_
        refine W.prune' [0, 5] [Value.pointer (some ⟨rb, 0, none⟩), Value.slice go.a out.length go.cap] (by kernel_rfl) (fun f81 => ?_)
        refine W.seq (fun K82 hK82 => ?_)
        refine W.region ?_
        refine Wl.run 4 (by kernel_rfl) ?_
        refine Wl.ht rfl (Ht.store (b := rb) (o' := 0) (i := 2) (j := 0) (cs := [Value.slice gr.a L.length gr.cap]) (cs' := [Value.slice go.a out.length go.cap]) (v := Value.slice go.a out.length go.cap) (LL' := [go.seg 3 (mc (Value.int .i64) out), gr.seg 3 (mc (Value.int .i64) L), [cb rb [Value.slice go.a out.length go.cap] 58]]) rfl rfl (by kernel_rfl) (by kernel_rfl) Tryd.sizeOf50 rfl rfl rfl (by simp) rfl rfl) (fun _ => ?_)
        refine Wl.nil ?_
        refine hK82 _ _ _ ?_
        refine W.prune' [] [] (by kernel_rfl) (fun f83 => ?_)
        refine W.seq (fun K84 hK84 => ?_)
        refine W.region ?_
        refine Wl.run 1 (by kernel_rfl) ?_
        refine Wl.nil ?_
        refine hK84 _ _ _ ?_
        refine W.ret ?_
        have hB_ : tkI L p = true := by unfold tkI; rw [h9]; rfl
        have hput2_ : put = true := by simpa using h70
        have hX_ : takeL L p = out := by rw [hput2_] at hst; unfold takeL; rw [hB_]; exact (tks_end1 hst (by omega)).symm
        show ∀ w_, _ → bodyPostM (fence none) 0 Tryd.prog Tryd.f22 _ Exit.ret _ w_
        exact fun w_ hS_ => fin_ret (ret1 rfl (RV.tmp (v := Value.bool true) (by kernel_rfl)) hS_ ⟨go, (by rw [hX_]; exact oko), congrArg Ending.returned ((by rw [hB_])), (Mem.cast (LL := [go.seg 3 (mc (Value.int .i64) out), [cb rb [Value.slice go.a out.length go.cap] 58]]) (by rw [hX_]; try rfl) (hS_.pick [0, 2] (by decide) rfl))⟩)

theorem rgive_c (L : List Int) (gr : FS) (rb : Nat) (M : List Nat) (p : Int) (w : World) (hl : Mem w M [gr.seg 3 (mc (Value.int .i64) L), [cb rb [Value.slice gr.a L.length gr.cap] 58]] w) (okr : gr.ok 1 L.length) (hLn : L.length ≤ 70000) : Calls Tryd.prog 23 #[Value.pointer (some ⟨rb, 0, none⟩), Value.int .i64 p] w (RetM w (fun g' : FS => g'.ok 1 (giveL L p).length) (fun _ => .bool (hasI L p)) M (fun g' => [g'.seg 3 (mc (Value.int .i64) (giveL L p)), [cb rb [Value.slice g'.a ((giveL L p).length) g'.cap] 58]])) := by
  have hrc_ := okr.le
  refine calls_W (M := M) (LL := [gr.seg 3 (mc (Value.int .i64) L), [cb rb [Value.slice gr.a L.length gr.cap] 58]]) (n := 43) Tryd.func23 rfl rfl (by simp) (hl) ?_
  refine W.seq (fun K1 hK1 => ?_)
  refine W.region ?_
  refine Wl.run 1 (by kernel_rfl) ?_
  refine Wl.nil ?_
  refine hK1 _ _ _ ?_
  refine W.seq (fun K2 hK2 => ?_)
  refine W.seq (fun K3 hK3 => ?_)
  refine W.region ?_
  refine Wl.run 1 (by kernel_rfl) ?_
  refine Wl.nil ?_
  refine hK3 _ _ _ ?_
  refine W.block ?_
  refine W.loop1 [0, 1, 5] (fun (i : Nat) => [Value.pointer (some ⟨rb, 0, none⟩), Value.int .i64 p, Value.int .i64 ((i : Nat) : Int)]) (fun (i : Nat) => i ≤ L.length ∧ (∀ j, j < i → (L.getD j 0 == p) = false)) (fun (i : Nat) => [gr.seg 3 (mc (Value.int .i64) L), [cb rb [Value.slice gr.a L.length gr.cap] 58]]) (fun (i : Nat) => L.length - i) 0 (by kernel_rfl) ⟨(Nat.zero_le _), (fun j hj => absurd hj (Nat.not_lt_zero j))⟩ (by rfl) (fun i f5 J4 hp6 hJ4 => ?_)
  obtain ⟨hi, hno⟩ := hp6
  refine W.seq (fun K7 hK7 => ?_)
  refine W.seq (fun K8 hK8 => ?_)
  refine W.region ?_
  refine Wl.run 4 (by kernel_rfl) ?_
  refine Wl.ys (v := Value.slice gr.a L.length gr.cap) rfl rfl (Ys.load (b := rb) (o' := 0) (i := 1) (j := 0) (cs := [Value.slice gr.a L.length gr.cap]) (v := Value.slice gr.a L.length gr.cap) rfl (by kernel_rfl) Tryd.isAgg50 rfl rfl rfl) ?_
  refine Wl.run 2 (by kernel_rfl) ?_
  refine Wl.nil ?_
  refine hK8 _ _ _ ?_
  refine W.prune' [0, 1, 5, 12] [Value.pointer (some ⟨rb, 0, none⟩), Value.int .i64 p, Value.int .i64 ((i : Nat) : Int), Value.bool (decide (((i : Nat) : Int) < ((L.length : Nat) : Int)))] (by kernel_rfl) (fun f9 => ?_)
  refine W.cond (decide (((i : Nat) : Int) < ((L.length : Nat) : Int))) (by kernel_rfl) (fun h10 => ?_) (fun h11 => ?_)
  · have qh10 := h10; try simp only [Bool.and_eq_true, Bool.or_eq_true, Bool.not_eq_true', Bool.not_eq_false', Bool.and_eq_false_iff, Bool.or_eq_false_iff, decide_eq_true_eq, decide_eq_false_iff_not, beq_iff_eq, bne_iff_ne, beq_eq_false_iff_ne, bne_eq_false_iff_eq] at qh10
    refine W.skip' ?_
    refine hK7 _ _ _ ?_
    refine W.prune' [0, 1, 5] [Value.pointer (some ⟨rb, 0, none⟩), Value.int .i64 p, Value.int .i64 ((i : Nat) : Int)] (by kernel_rfl) (fun f12 => ?_)
    refine W.seq (fun K13 hK13 => ?_)
    refine W.block ?_
    refine W.seq (fun K14 hK14 => ?_)
    refine W.region ?_
    refine Wl.run 3 (by kernel_rfl) ?_
    refine Wl.ys (v := Value.slice gr.a L.length gr.cap) rfl rfl (Ys.load (b := rb) (o' := 0) (i := 1) (j := 0) (cs := [Value.slice gr.a L.length gr.cap]) (v := Value.slice gr.a L.length gr.cap) rfl (by kernel_rfl) Tryd.isAgg50 rfl rfl rfl) ?_
    refine Wl.run 1 (by kernel_rfl) ?_
    refine Wl.ys (v := Value.pointer (some (ela gr.a (i * 1)))) rfl rfl (Ys.indexAddr (k := .i64) (a := gr.a) (len := L.length) (cap := gr.cap) (i := ((i : Nat) : Int)) (sz := 1) rfl (by kernel_rfl) (by kernel_rfl) Tryd.runUnderlying50 Tryd.sizeOf3 (by omega) (by omega) (by rw [FS.a_own (FS.notnil okr (by omega))]; rfl)) ?_
    refine Wl.ys (v := Value.int .i64 (L.getD i 0)) rfl rfl (Ys.ld (a := ela gr.a (i * 1)) rfl (by kernel_rfl) Tryd.isAgg3 (fun w_ h_ => (FS.at (i := 0) (t := 3) h_ rfl (FS.nil_cs okr (mc_len1 _))).ld (mc_get1 0 (by first | omega | (simp; omega))))) ?_
    refine Wl.run 2 (by kernel_rfl) ?_
    refine Wl.nil ?_
    refine hK14 _ _ _ ?_
    refine W.prune' [0, 1, 5, 23] [Value.pointer (some ⟨rb, 0, none⟩), Value.int .i64 p, Value.int .i64 ((i : Nat) : Int), Value.bool ((L.getD i 0) == p)] (by kernel_rfl) (fun f15 => ?_)
    refine W.cond ((L.getD i 0) == p) (by kernel_rfl) (fun h16 => ?_) (fun h17 => ?_)
    · have qh16 := h16; try simp only [Bool.and_eq_true, Bool.or_eq_true, Bool.not_eq_true', Bool.not_eq_false', Bool.and_eq_false_iff, Bool.or_eq_false_iff, decide_eq_true_eq, decide_eq_false_iff_not, beq_iff_eq, bne_iff_ne, beq_eq_false_iff_ne, bne_eq_false_iff_eq] at qh16
      refine W.seq (fun K18 hK18 => ?_)
      refine W.draws [(0, true), (2, true), (3, true), (4, true), (5, true), (6, true), (7, true), (9, true), (10, true), (11, true), (12, true), (13, true), (14, true), (15, true), (1, false), (8, false), (16, false), (17, false), (18, false), (19, false)] [0, 2, 3, 4, 5, 6, 7, 9, 10, 11, 12, 13, 14, 15] (Mem w M [gr.seg 3 (mc (Value.int .i64) L), [cb rb [Value.slice gr.a L.length gr.cap] 58]]) (by kernel_rfl) (by kernel_rfl) (by kernel_rfl) rfl (by kernel_rfl) (fun _ _ h_ => h_.drawn _) (fun _ h_ => h_) ?_
      refine Wd.run 4 (by kernel_rfl) ?_
      refine Wd.ys (v := Value.slice gr.a L.length gr.cap) rfl rfl rfl (Ys.load (b := rb) (o' := 0) (i := 1) (j := 0) (cs := [Value.slice gr.a L.length gr.cap]) (v := Value.slice gr.a L.length gr.cap) rfl (by kernel_rfl) Tryd.isAgg50 rfl rfl rfl) ?_
      refine Wd.run 1 (by kernel_rfl) ?_
      refine Wd.ys (v := Value.slice gr.a i gr.cap) rfl rfl rfl (Ys.sliceH (a := gr.a) (len := L.length) (cap := gr.cap) (sz := 1) (k := .i64) (i := ((i : Nat) : Int)) rfl (by kernel_rfl) (by kernel_rfl) Tryd.runUnderlying50 Tryd.sizeOf3 (by omega) (by omega)) ?_
      refine Wd.run 3 (by kernel_rfl) ?_
      refine Wd.ys (v := Value.slice gr.a L.length gr.cap) rfl rfl rfl (Ys.load (b := rb) (o' := 0) (i := 1) (j := 0) (cs := [Value.slice gr.a L.length gr.cap]) (v := Value.slice gr.a L.length gr.cap) rfl (by kernel_rfl) Tryd.isAgg50 rfl rfl rfl) ?_
      refine Wd.run 1 (by kernel_rfl) ?_
      refine Wd.ys (v := Value.int .i64 ((i + 1 : Nat) : Int)) rfl rfl rfl ((Ys.pure (v := .int .i64 (iadd .i64 ((i : Nat) : Int) 1)) (fun _ => by kernel_rfl)).conseq (int_congr (iadd_eq (by omega) (by omega) (by omega)))) ?_
      refine Wd.ys (v := Value.slice (sla gr.a gr.cap (i + 1) 1) (L.length - (i + 1)) (gr.cap - (i + 1))) rfl rfl rfl (Ys.sliceL (a := gr.a) (len := L.length) (cap := gr.cap) (sz := 1) (k := .i64) (i := ((i + 1 : Nat) : Int)) rfl (by kernel_rfl) (by kernel_rfl) Tryd.runUnderlying50 Tryd.sizeOf3 (by omega) (by omega)) ?_
      refine Wd.ht rfl rfl (Ht.made (mk := fun b_ => .slice (some ⟨b_, 0, none⟩) 0 0) (t := 3) (cs := []) rfl (fun _ => by kernel_rfl)) (.inr fun _ _ h_ => h_.pick [1, 2] (by decide) rfl) (fun p25 => ?_)
      refine Wd.htS rfl rfl (HtS.append (eu := 3) (xv := Value.slice gr.a i gr.cap) (i := 0) (g := (FS.mk false p25 0 [])) (e := 3) (ii := (Tryd.prog.info? 3).getD default) (z := Value.int .i64 0) (sz := 1) (bytes := 8) (nn := 0) (m := i) (k := i) (xs := mc (Value.int .i64) []) (news := mc (Value.int .i64) (L.take i)) (cs' := mc (Value.int .i64) (L.take i)) (Lo := fun g19 => [g19.seg 3 (mc (Value.int .i64) (L.take i)), gr.seg 3 (mc (Value.int .i64) L), [cb rb [Value.slice gr.a L.length gr.cap] 58]]) rfl rfl (by kernel_rfl) (by kernel_rfl) (by kernel_rfl) (by kernel_rfl) (by kernel_rfl) (by kernel_rfl) (by kernel_rfl) (by kernel_rfl) (by kernel_rfl) rfl (FS.lit_ok (by decide)) (by first | rfl | simp [mc, be_len]) (fun _ => rfl) (Src.at (a := gr.a) (by first | rfl | (rw [mc_len, List.length_take]; omega) | (rw [mc_len, List.length_take, List.length_drop]; omega) | (simp [mc, be_len]; done) | (simp [mc, be_len]; omega)) (fun w_ h_ => ((FS.at (i := 1) (t := 3) h_ rfl (FS.nil_cs okr (mc_len1 _))).mtake i))) (by first | rfl | (rw [mc_len, List.length_take]; omega) | (rw [mc_len, List.length_take, List.length_drop]; omega) | (simp [mc, be_len]; done) | (simp [mc, be_len]; omega)) (mc_one (fun _ => rfl) _) (by first | omega | (simp; done) | (simp; omega)) (by simp only [maxLen]; first | omega | (simp; done) | (simp; omega)) (by first | omega | (simp; done) | (simp; omega)) rfl (fun _ => rfl)) (.inr fun _ _ h_ => h_.pick [1, 2] (by decide) rfl) (fun g19 hx24 => ?_)
      obtain ⟨ok20, hn21, hn22⟩ := hx24
      refine Wd.htS rfl rfl (HtS.append (eu := 3) (xv := Value.slice (sla gr.a gr.cap (i + 1) 1) (L.length - (i + 1)) (gr.cap - (i + 1))) (i := 0) (g := g19) (e := 3) (ii := (Tryd.prog.info? 3).getD default) (z := Value.int .i64 0) (sz := 1) (bytes := 8) (nn := i) (m := L.length - (i + 1)) (k := i + (L.length - (i + 1))) (xs := mc (Value.int .i64) (L.take i)) (news := mc (Value.int .i64) (L.drop (i + 1))) (cs' := mc (Value.int .i64) ((L.take i) ++ (L.drop (i + 1)))) (Lo := fun g25 => [g25.seg 3 (mc (Value.int .i64) ((L.take i) ++ (L.drop (i + 1)))), gr.seg 3 (mc (Value.int .i64) L), [cb rb [Value.slice gr.a L.length gr.cap] 58]]) rfl rfl (by kernel_rfl) (by kernel_rfl) (by kernel_rfl) (by kernel_rfl) (by kernel_rfl) (by kernel_rfl) (by kernel_rfl) (by kernel_rfl) (by kernel_rfl) rfl ok20 (by simp [mc, be_len]; try omega) (fun _ => rfl) (Src.at (a := sla gr.a gr.cap (i + 1) 1) (by first | rfl | (rw [mc_len, List.length_take]; omega) | (rw [mc_len, List.length_take, List.length_drop]; omega) | (simp [mc, be_len]; done) | (simp [mc, be_len]; omega)) (fun w_ h_ => ((FS.at (i := 1) (t := 3) h_ rfl (FS.nil_cs okr (mc_len1 _))).mdrop gr.cap (i + 1) (by omega)))) (by first | rfl | (rw [mc_len, List.length_take]; omega) | (rw [mc_len, List.length_take, List.length_drop]; omega) | (simp [mc, be_len]; done) | (simp [mc, be_len]; omega)) (mc_one (fun _ => rfl) _) (by first | omega | (simp; done) | (simp; omega)) (by simp only [maxLen]; first | omega | (simp; done) | (simp; omega)) (by first | omega | (simp; done) | (simp; omega)) (mc_app _ _) (fun _ => rfl)) (.inr fun _ _ h_ => h_.pick [1, 2] (by decide) rfl) (fun g25 hx30 => ?_)
      obtain ⟨ok26, hn27, hn28⟩ := hx30
      refine Wd.yc (v := Value.pointer (some ⟨rb, 0, none⟩)) rfl rfl rfl (Ys.yc (Ys.pure (fun _ => by kernel_rfl))) (.inl (by kernel_rfl)) ?_
      refine Wd.yc (v := Value.pointer (some ⟨rb, 0, none⟩)) rfl rfl rfl (Ys.yc (Ys.pure (fun _ => by kernel_rfl))) (.inl (by kernel_rfl)) ?_
      refine Wd.ht rfl rfl (Ht.store (b := rb) (o' := 0) (i := 2) (j := 0) (cs := [Value.slice gr.a L.length gr.cap]) (cs' := [Value.slice g25.a (i + (L.length - (i + 1))) g25.cap]) (v := Value.slice g25.a (i + (L.length - (i + 1))) g25.cap) (LL' := [g25.seg 3 (mc (Value.int .i64) ((L.take i) ++ (L.drop (i + 1)))), gr.seg 3 (mc (Value.int .i64) L), [cb rb [Value.slice g25.a (i + (L.length - (i + 1))) g25.cap] 58]]) rfl rfl (by kernel_rfl) (by kernel_rfl) Tryd.sizeOf50 rfl rfl rfl (by simp) rfl rfl) (.inl (by kernel_rfl)) (fun _ => ?_)
      refine Wd.nil ?_
      refine hK18 _ _ _ ?_
      refine W.prune' [] [] (by kernel_rfl) (fun f31 => ?_)
      refine W.seq (fun K32 hK32 => ?_)
      refine W.region ?_
      refine Wl.run 1 (by kernel_rfl) ?_
      refine Wl.nil ?_
      refine hK32 _ _ _ ?_
      refine W.ret ?_
      have hB_ : hasI L p = true := hasI_some (by omega) h16
      have hX_ : giveL L p = L.take i ++ L.drop (i + 1) := (give_at (by omega) hno h16).symm
      have hN_ : (giveL L p).length = i + (L.length - (i + 1)) := by rw [hX_, List.length_append, List.length_take, List.length_drop]; omega
      show ∀ w_, _ → bodyPostM (fence none) 0 Tryd.prog Tryd.f23 _ Exit.ret _ w_
      exact fun w_ hS_ => fin_ret (ret1 rfl (RV.tmp (v := Value.bool true) (by kernel_rfl)) hS_ ⟨g25, (by rw [hN_]; exact ok26), congrArg Ending.returned ((by rw [hB_])), (Mem.cast (LL := [g25.seg 3 (mc (Value.int .i64) ((L.take i) ++ (L.drop (i + 1)))), [cb rb [Value.slice g25.a (i + (L.length - (i + 1))) g25.cap] 58]]) (by rw [hN_, hX_]) (hS_.pick [0, 2] (by decide) rfl))⟩)
    · have qh17 := h17; try simp only [Bool.and_eq_true, Bool.or_eq_true, Bool.not_eq_true', Bool.not_eq_false', Bool.and_eq_false_iff, Bool.or_eq_false_iff, decide_eq_true_eq, decide_eq_false_iff_not, beq_iff_eq, bne_iff_ne, beq_eq_false_iff_ne, bne_eq_false_iff_eq] at qh17
      refine W.skip' ?_
      refine hK13 _ _ _ ?_
      refine W.prune' [0, 1, 5] [Value.pointer (some ⟨rb, 0, none⟩), Value.int .i64 p, Value.int .i64 ((i : Nat) : Int)] (by kernel_rfl) (fun f33 => ?_)
      refine W.region ?_
      refine Wl.run 1 (by kernel_rfl) ?_
      refine Wl.ys (v := Value.int .i64 ((i + 1 : Nat) : Int)) rfl rfl ((Ys.pure (v := .int .i64 (iadd .i64 ((i : Nat) : Int) 1)) (fun _ => by kernel_rfl)).conseq (int_congr (iadd_eq (by omega) (by omega) (by omega)))) ?_
      refine Wl.run 1 (by kernel_rfl) ?_
      refine Wl.nil ?_
      refine fun w_ h_ => hJ4 (i + 1) _ w_ (by omega) ⟨(by omega), (fun j hj => (Nat.lt_succ_iff_lt_or_eq.1 hj).elim (hno j) (fun e_ => by subst e_; exact h17))⟩ ?_ h_
      kernel_rfl
  · have qh11 := h11; try simp only [Bool.and_eq_true, Bool.or_eq_true, Bool.not_eq_true', Bool.not_eq_false', Bool.and_eq_false_iff, Bool.or_eq_false_iff, decide_eq_true_eq, decide_eq_false_iff_not, beq_iff_eq, bne_iff_ne, beq_eq_false_iff_ne, bne_eq_false_iff_eq] at qh11
    refine W.exit ?_
    refine hK2 _ _ _ ?_
    refine W.prune' [] [] (by kernel_rfl) (fun f34 => ?_)
    refine W.seq (fun K35 hK35 => ?_)
    refine W.region ?_
    refine Wl.run 1 (by kernel_rfl) ?_
    refine Wl.nil ?_
    refine hK35 _ _ _ ?_
    refine W.ret ?_
    have hB_ : hasI L p = false := hasI_none (fun j hj => hno j (by omega))
    have hX_ : giveL L p = L := give_no hB_
    show ∀ w_, _ → bodyPostM (fence none) 0 Tryd.prog Tryd.f23 _ Exit.ret _ w_
    exact fun w_ hS_ => fin_ret (ret1 rfl (RV.tmp (v := Value.bool false) (by kernel_rfl)) hS_ ⟨gr, (by rw [hX_]; exact okr), congrArg Ending.returned ((by rw [hB_])), (Mem.cast (LL := [gr.seg 3 (mc (Value.int .i64) L), [cb rb [Value.slice gr.a L.length gr.cap] 58]]) (by rw [hX_]) (hS_.pick [0, 1] (by decide) rfl))⟩)

theorem rpick_c (L : List Int) (gr : FS) (rb d : Nat) (M : List Nat) (w : World) (hl : Mem w M [gr.seg 3 (mc (Value.int .i64) L), [cb rb [Value.slice gr.a L.length gr.cap] 58]] w) (okr : gr.ok 1 L.length) (hLn : L.length ≤ 69000) (hd : d < 18446744073709551616) : Calls Tryd.prog 24 #[Value.pointer (some ⟨rb, 0, none⟩), Value.int .u64 ((d : Nat) : Int)] w (RetM w (fun x : FS × Nat => x.1.ok 1 (bif decide (x.2 < 64512) then takeL L (pkP (d % 64512) x.2) else L).length ∧ PkR L (d % 64512) x.2) (fun x => .tuple #[.int .i64 (bif decide (x.2 < 64512) then pkP (d % 64512) x.2 else 0), .bool (decide (x.2 < 64512))]) M (fun x => [x.1.seg 3 (mc (Value.int .i64) (bif decide (x.2 < 64512) then takeL L (pkP (d % 64512) x.2) else L)), [cb rb [Value.slice x.1.a ((bif decide (x.2 < 64512) then takeL L (pkP (d % 64512) x.2) else L).length) x.1.cap] 58]])) := by
  have hdm_ := Nat.mod_lt d (show 0 < 64512 by decide)
  refine calls_W (M := M) (LL := [gr.seg 3 (mc (Value.int .i64) L), [cb rb [Value.slice gr.a L.length gr.cap] 58]]) (n := 29) Tryd.func24 rfl rfl (by simp) (hl) ?_
  refine W.seq (fun K1 hK1 => ?_)
  refine W.region ?_
  refine Wl.run 2 (by kernel_rfl) ?_
  refine Wl.nil ?_
  refine hK1 _ _ _ ?_
  refine W.prune' [0, 1] [Value.pointer (some ⟨rb, 0, none⟩), Value.int .u64 ((d : Nat) : Int)] (by kernel_rfl) (fun f2 => ?_)
  refine W.seq (fun K3 hK3 => ?_)
  refine W.region ?_
  refine Wl.run 1 (by kernel_rfl) ?_
  refine Wl.ys (v := Value.int .u64 ((d % 64512 : Nat) : Int)) rfl rfl ((Ys.pure (v := .int .u64 (irem ((d : Nat) : Int) ((64512 : Nat) : Int))) (fun _ => by kernel_rfl)).conseq (int_congr (rfl))) ?_
  refine Wl.ys (v := Value.int .i64 ((d % 64512 : Nat) : Int)) rfl rfl ((Ys.pure (v := .int .i64 (icnv .i64 ((d % 64512 : Nat) : Int))) (fun _ => by kernel_rfl)).conseq (int_congr (wrap_i64 (by omega) (by omega)))) ?_
  refine Wl.run 1 (by kernel_rfl) ?_
  refine Wl.nil ?_
  refine hK3 _ _ _ ?_
  refine W.prune' [0, 6] [Value.pointer (some ⟨rb, 0, none⟩), Value.int .i64 ((d % 64512 : Nat) : Int)] (by kernel_rfl) (fun f4 => ?_)
  refine W.seq (fun K5 hK5 => ?_)
  refine W.seq (fun K6 hK6 => ?_)
  refine W.region ?_
  refine Wl.run 1 (by kernel_rfl) ?_
  refine Wl.nil ?_
  refine hK6 _ _ _ ?_
  refine W.block ?_
  refine W.loop1 [0, 6, 7] (fun (k : Nat) => [Value.pointer (some ⟨rb, 0, none⟩), Value.int .i64 ((d % 64512 : Nat) : Int), Value.int .i64 ((k : Nat) : Int)]) (fun (k : Nat) => k ≤ 64512 ∧ (∀ j, j < k → hasI L (pkP (d % 64512) j) = true)) (fun (k : Nat) => [gr.seg 3 (mc (Value.int .i64) L), [cb rb [Value.slice gr.a L.length gr.cap] 58]]) (fun (k : Nat) => 64512 - k) 0 (by kernel_rfl) ⟨(Nat.zero_le _), (fun j hj => absurd hj (Nat.not_lt_zero j))⟩ (by rfl) (fun k f8 J7 hp9 hJ7 => ?_)
  obtain ⟨hk, hno⟩ := hp9
  refine W.seq (fun K10 hK10 => ?_)
  refine W.seq (fun K11 hK11 => ?_)
  refine W.region ?_
  refine Wl.run 2 (by kernel_rfl) ?_
  refine Wl.nil ?_
  refine hK11 _ _ _ ?_
  refine W.prune' [0, 6, 7, 13] [Value.pointer (some ⟨rb, 0, none⟩), Value.int .i64 ((d % 64512 : Nat) : Int), Value.int .i64 ((k : Nat) : Int), Value.bool (decide (((k : Nat) : Int) < 64512))] (by kernel_rfl) (fun f12 => ?_)
  refine W.cond (decide (((k : Nat) : Int) < 64512)) (by kernel_rfl) (fun h13 => ?_) (fun h14 => ?_)
  · have qh13 := h13; try simp only [Bool.and_eq_true, Bool.or_eq_true, Bool.not_eq_true', Bool.not_eq_false', Bool.and_eq_false_iff, Bool.or_eq_false_iff, decide_eq_true_eq, decide_eq_false_iff_not, beq_iff_eq, bne_iff_ne, beq_eq_false_iff_ne, bne_eq_false_iff_eq] at qh13
    refine W.skip' ?_
    refine hK10 _ _ _ ?_
    refine W.prune' [0, 6, 7] [Value.pointer (some ⟨rb, 0, none⟩), Value.int .i64 ((d % 64512 : Nat) : Int), Value.int .i64 ((k : Nat) : Int)] (by kernel_rfl) (fun f15 => ?_)
    refine W.seq (fun K16 hK16 => ?_)
    refine W.block ?_
    refine W.seq (fun K17 hK17 => ?_)
    refine W.region ?_
    refine Wl.run 2 (by kernel_rfl) ?_
    refine Wl.ys (v := Value.int .i64 (((d % 64512) + k : Nat) : Int)) rfl rfl ((Ys.pure (v := .int .i64 (iadd .i64 ((d % 64512 : Nat) : Int) ((k : Nat) : Int))) (fun _ => by kernel_rfl)).conseq (int_congr (iadd_eq (by omega) (by omega) (by omega)))) ?_
    refine Wl.ys (v := Value.int .i64 ((((d % 64512) + k) % 64512 : Nat) : Int)) rfl rfl ((Ys.pure (v := .int .i64 (irem (((d % 64512) + k : Nat) : Int) 64512)) (fun _ => by kernel_rfl)).conseq (int_congr (rfl))) ?_
    refine Wl.ys (v := Value.int .i64 (pkP (d % 64512) k)) rfl rfl (Ys.conseq (v := Value.int .i64 ((1024 + (((d % 64512) + k) % 64512) : Nat) : Int)) (int_congr (rfl)) ((Ys.pure (v := .int .i64 (iadd .i64 1024 ((((d % 64512) + k) % 64512 : Nat) : Int))) (fun _ => by kernel_rfl)).conseq (int_congr (iadd_eq (by omega) (by omega) (by omega))))) ?_
    refine Wl.run 1 (by kernel_rfl) ?_
    refine Wl.nil ?_
    refine hK17 _ _ _ ?_
    refine W.prune' [0, 6, 7, 8] [Value.pointer (some ⟨rb, 0, none⟩), Value.int .i64 ((d % 64512 : Nat) : Int), Value.int .i64 ((k : Nat) : Int), Value.int .i64 (pkP (d % 64512) k)] (by kernel_rfl) (fun f18 => ?_)
    refine W.seq (fun K19 hK19 => ?_)
    refine W.region ?_
    refine Wl.run 2 (by kernel_rfl) ?_
    refine Wl.yc (v := Value.bool (hasI L (pkP (d % 64512) k))) rfl rfl (Yc.call (k := 25) (args := #[Value.pointer (some ⟨rb, 0, none⟩), Value.int .i64 (pkP (d % 64512) k)]) (fun _ => by kernel_rfl) (fun w_ hm_ => (rhas_c L gr.a gr.cap rb (pkP (d % 64512) k) _ (At.lit0 (i := 1) (j := 0) (t := 58) (b := rb) hm_ rfl rfl) (FS.at (i := 0) (t := 3) hm_ rfl (FS.nil_cs okr (mc_len1 _))) (by first | omega | (simp; done))))) ?_
    refine Wl.run 1 (by kernel_rfl) ?_
    refine Wl.nil ?_
    refine hK19 _ _ _ ?_
    refine W.prune' [0, 6, 7, 8, 24] [Value.pointer (some ⟨rb, 0, none⟩), Value.int .i64 ((d % 64512 : Nat) : Int), Value.int .i64 ((k : Nat) : Int), Value.int .i64 (pkP (d % 64512) k), Value.bool (!(hasI L (pkP (d % 64512) k)))] (by kernel_rfl) (fun f20 => ?_)
    refine W.cond (!(hasI L (pkP (d % 64512) k))) (by kernel_rfl) (fun h21 => ?_) (fun h22 => ?_)
    · refine W.seq (fun K23 hK23 => ?_)
      refine W.region ?_
      obtain ⟨Z26, hZ27⟩ : ∃ z, takeL L (pkP (d % 64512) k) = z := ⟨_, rfl⟩
      have lZ26 : Z26.length ≤ L.length + 1 := hZ27 ▸ takeL_len
      refine Wl.run 2 (by kernel_rfl) ?_
      refine Wl.htS rfl (HtS.call (β := FS) (k := 22) (args := #[Value.pointer (some ⟨rb, 0, none⟩), Value.int .i64 (pkP (d % 64512) k)]) (Lin := [gr.seg 3 (mc (Value.int .i64) L), [cb rb [Value.slice gr.a L.length gr.cap] 58]]) (Lk := []) (Lo := fun gr24 => [gr24.seg 3 (mc (Value.int .i64) Z26), [cb rb [Value.slice gr24.a Z26.length gr24.cap] 58]]) [0, 1] [] rfl (fun _ => by kernel_rfl) (by decide) rfl rfl rfl (fun w_ hm_ hl_ => (hZ27 ▸ rtake_c L gr rb _ (pkP (d % 64512) k) _ hl_ okr (by omega))) (fun _ => rfl)) (fun gr24 okr25 => ?_)
      refine Wl.nil ?_
      refine hK23 _ _ _ ?_
      refine W.prune' [8] [Value.int .i64 (pkP (d % 64512) k)] (by kernel_rfl) (fun f29 => ?_)
      refine W.seq (fun K30 hK30 => ?_)
      refine W.region ?_
      refine Wl.run 3 (by kernel_rfl) ?_
      refine Wl.nil ?_
      refine hK30 _ _ _ ?_
      refine W.prune' [4, 5] [Value.int .i64 (pkP (d % 64512) k), Value.bool true] (by kernel_rfl) (fun f31 => ?_)
      refine W.ret ?_
      have hD_ : decide (k < 64512) = true := decide_eq_true (by omega)
      show ∀ w_, _ → bodyPostM (fence none) 0 Tryd.prog Tryd.f24 _ Exit.ret _ w_
      exact fun w_ hS_ => fin_ret (ret2 rfl (RV.tmp (v := Value.int .i64 (pkP (d % 64512) k)) (by kernel_rfl)) (RV.tmp (v := Value.bool true) (by kernel_rfl)) hS_ ⟨(gr24, k), ⟨(by dsimp only; rw [hD_]; simp only [cond_true]; rw [hZ27]; exact okr25), ⟨hk, hno, fun _ => (by simpa using h21)⟩⟩, congrArg Ending.returned ((by dsimp only; rw [hD_]; rfl)), (Mem.cast (LL := [gr24.seg 3 (mc (Value.int .i64) Z26), [cb rb [Value.slice gr24.a Z26.length gr24.cap] 58]]) (by dsimp only; rw [hD_, ← hZ27]; rfl) (hS_.pick [0, 1] (by decide) rfl))⟩)
    · refine W.skip' ?_
      refine hK16 _ _ _ ?_
      refine W.prune' [0, 6, 7] [Value.pointer (some ⟨rb, 0, none⟩), Value.int .i64 ((d % 64512 : Nat) : Int), Value.int .i64 ((k : Nat) : Int)] (by kernel_rfl) (fun f32 => ?_)
      refine W.region ?_
      refine Wl.run 1 (by kernel_rfl) ?_
      refine Wl.ys (v := Value.int .i64 ((k + 1 : Nat) : Int)) rfl rfl ((Ys.pure (v := .int .i64 (iadd .i64 ((k : Nat) : Int) 1)) (fun _ => by kernel_rfl)).conseq (int_congr (iadd_eq (by omega) (by omega) (by omega)))) ?_
      refine Wl.run 1 (by kernel_rfl) ?_
      refine Wl.nil ?_
      refine fun w_ h_ => hJ7 (k + 1) _ w_ (by omega) ⟨(by omega), (fun j hj => (Nat.lt_succ_iff_lt_or_eq.1 hj).elim (hno j) (fun e_ => by subst e_; simpa using h22))⟩ ?_ h_
      kernel_rfl
  · have qh14 := h14; try simp only [Bool.and_eq_true, Bool.or_eq_true, Bool.not_eq_true', Bool.not_eq_false', Bool.and_eq_false_iff, Bool.or_eq_false_iff, decide_eq_true_eq, decide_eq_false_iff_not, beq_iff_eq, bne_iff_ne, beq_eq_false_iff_ne, bne_eq_false_iff_eq] at qh14
    refine W.exit ?_
    refine hK5 _ _ _ ?_
    refine W.prune' [] [] (by kernel_rfl) (fun f33 => ?_)
    refine W.seq (fun K34 hK34 => ?_)
    refine W.region ?_
    refine Wl.run 2 (by kernel_rfl) ?_
    refine Wl.nil ?_
    refine hK34 _ _ _ ?_
    refine W.prune' [4, 5] [Value.int .i64 0, Value.bool false] (by kernel_rfl) (fun f35 => ?_)
    refine W.ret ?_
    have hD_ : decide (k < 64512) = false := decide_eq_false (by omega)
    show ∀ w_, _ → bodyPostM (fence none) 0 Tryd.prog Tryd.f24 _ Exit.ret _ w_
    exact fun w_ hS_ => fin_ret (ret2 rfl (RV.tmp (v := Value.int .i64 0) (by kernel_rfl)) (RV.tmp (v := Value.bool false) (by kernel_rfl)) hS_ ⟨(gr, k), ⟨(by dsimp only; rw [hD_]; exact okr), ⟨hk, hno, fun z_ => absurd z_ (by omega)⟩⟩, congrArg Ending.returned ((by dsimp only; rw [hD_]; rfl)), (Mem.cast (LL := [gr.seg 3 (mc (Value.int .i64) L), [cb rb [Value.slice gr.a L.length gr.cap] 58]]) (by dsimp only; rw [hD_]; rfl) (hS_.pick [0, 1] (by decide) rfl))⟩)

end Go.Proofs.YtnhmajdpjapgjaaDoor.Oct
