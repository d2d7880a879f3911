/-
  A small Hoare logic over whatever program: a rule for a region that draws its order; frames as functions of the slot; assertions on the memory as lists of whole blocks; triples for single operations; rules for regions, tests, loops, calls and returns. No condition.
-/
import Derived.StillTail
import Derived.WalkKit
import Derived.KernelRfl
set_option linter.unusedVariables false
set_option linter.unusedSimpArgs false
namespace Go.Proofs.Ytjkhmbigoloeiaa.Obase
open Go.RowKit
section
variable {P : Program} {ops : Array Oper} {Q : Exit → Act → World → Prop} {md : Region.Mode} {S : World → Prop}
def NoExit : Exit → Act → World → Prop := fun _ _ _ => False
def YieldsS (P : Program) (ops : Array Oper) (S : World → Prop) (o : Oper) (v : Value) (a : Act) : Prop :=
  (Region.wanted o (yielded ops a.tmps) = true ∧ ∀ w, S w → ∀ K : Act → World → Prop, (∀ w', S w' → K (a.put o.dst v) w') → o.wp P a w K NoExit) ∨
  (Region.wanted o (yielded ops a.tmps) = false ∧ v = undef)
theorem wp_of_noExit {o : Oper} {a : Act} {w : World} {K : Act → World → Prop} (h : o.wp P a w K NoExit) : o.wp P a w K Q := by
  unfold Oper.wp at *
  generalize (execOp a.eval o).run P w = r at *
  cases r with
  | ok n w' =>
    cases n <;> simp only [Oper.upon] at h ⊢
    case value => exact h
    case skip => exact h
    case defer => exact h
    case enter =>
      refine Calls.mono h fun e w'' he => ?_
      cases e with
      | returned v => exact he
      | panicked c => exact he.elim
      | outgrown => obtain ⟨_, _, he⟩ := he; exact he.elim
    case row => exact h
  | halt x w' =>
    cases x <;> simp only [Oper.upon] at h ⊢
    case panic => exact h.elim
theorem YieldsS.wpOp {i : Nat} {o : Oper} {v : Value} {a : Act} (hi : ops[i]? = some o) (hy : YieldsS P ops S o v a)
    {K : Act → World → Prop} {w : World} (hS : S w) (h : ∀ w', S w' → K (a.put o.dst v) w') : wpOp P ops Q i K a w := by
  unfold Go.wpOp
  simp only [hi]
  rcases hy with ⟨hw, hv⟩ | ⟨hw, rfl⟩
  · simp only [hw, if_true]; exact .inl (wp_of_noExit (hv w hS K h))
  · simp only [hw, Bool.false_eq_true, if_false]; exact h _ hS
theorem upon_put {o : Oper} {a : Act} {r : Result Next} {x : Option Tmp} {u : Value} {K : Act → World → Prop} (hx : ∀ d, x = some d → o.dst ≠ some d)
    (h : o.upon P a (fun a' w' => K (a'.put x u) w') NoExit r) : o.upon P (a.put x u) K NoExit r := by
  cases r with
  | ok n w' =>
    cases n <;> simp only [Oper.upon] at h ⊢
    case value v => rw [Act.put_comm a u v hx]; exact h
    case skip => rw [Act.put_comm a u undef hx]; exact h
    case defer d => rw [Act.put_defers, Act.put_comm _ u undef hx]; exact h
    case enter f args =>
      refine Calls.mono h fun e w'' he => ?_
      cases e with
      | returned v => show K ((a.put x u).put o.dst v) w''; rw [Act.put_comm a u v hx]; exact he
      | panicked c => exact he.elim
      | outgrown => obtain ⟨_, _, he⟩ := he; exact he.elim
    case row row args => exact Rows.mono h fun v w'' he => (by rw [Act.put_comm a u v hx]; exact he)
  | halt y w' =>
    cases y <;> simp only [Oper.upon] at h ⊢
    case panic => exact h
theorem YieldsS.put {oi oj : Oper} {v : Value} {a : Act} (hap : oi.apart ops oj = true) (hsi : ∀ cs b, oi.op ≠ .select cs b) (hy : YieldsS P ops S oi v a) (u : Value) :
    YieldsS P ops S oi v (a.put oj.dst u) := by
  obtain ⟨h1, h2, h3⟩ := Oper.apart_spec hap
  unfold YieldsS at *
  rw [wanted_put oi a oj.dst u h3]
  refine hy.imp (fun ⟨hw, hv⟩ => ⟨hw, fun w hS K hK => ?_⟩) id
  unfold Oper.wp at *
  rw [execOp_put oi hsi a oj.dst u h3]
  have h2' : ∀ d, oj.dst = some d → oi.dst ≠ some d := fun d hd he => h2 d he hd
  exact upon_put h2' (hv w hS (fun a' w' => K (a'.put oj.dst u) w') (fun w' hw' => by rw [Act.put_comm a v u h2]; exact hK w' hw'))
theorem YieldsS.defers {o : Oper} {v : Value} {a : Act} (d : Deferred) (hy : YieldsS P ops S o v a) : YieldsS P ops S o v { a with defers := d :: a.defers } := by
  unfold YieldsS at *
  refine hy.imp (fun ⟨hw, hv⟩ => ⟨hw, fun w hS K hK => ?_⟩) id
  have h := hv w hS (fun a' w' => a'.defers = a.defers ∧ K { a' with defers := d :: a'.defers } w') (fun w' hw' => ⟨by cases hd : o.dst <;> simp [Act.put], by have := hK w' hw'; cases hd : o.dst <;> simpa [Act.put, hd] using this⟩)
  unfold Oper.wp at *
  change o.upon P _ _ _ ((execOp a.eval o).run P w)
  generalize (execOp a.eval o).run P w = r at *
  cases r with
  | ok n w' =>
    cases n <;> simp only [Oper.upon] at h ⊢
    case value u => cases hd : o.dst <;> simpa [Act.put, hd] using h.2
    case skip => cases hd : o.dst <;> simpa [Act.put, hd] using h.2
    case defer d' => exfalso; have := congrArg List.length h.1; cases hd : o.dst <;> simp [Act.put, hd] at this
    case enter f args =>
      refine Calls.mono h fun e w'' he => ?_
      cases e with
      | returned u => cases hd : o.dst <;> simpa [Act.put, hd] using he.2
      | panicked c => exact he.elim
      | outgrown => obtain ⟨_, _, he⟩ := he; exact he.elim
    case row row args => exact Rows.mono h fun u w'' he => (by cases hd : o.dst <;> simpa [Act.put, hd] using he.2)
  | halt x w' =>
    cases x <;> simp only [Oper.upon] at h ⊢
    case panic => exact h.elim
theorem wpOp_putS {j : Nat} {oi oj : Oper} {v : Value} (hj : ops[j]? = some oj) (hap : oi.apart ops oj = true)
    (hsi : ∀ cs b, oi.op ≠ .select cs b) (hsj : ∀ cs b, oj.op ≠ .select cs b) {K : Act → World → Prop} {a : Act} {w : World}
    (hy : YieldsS P ops S oi v a) (h : wpOp P ops NoExit j K (a.put oi.dst v) w) :
    wpOp P ops Q j (fun a' w' => YieldsS P ops S oi v a' ∧ K (a'.put oi.dst v) w') a w := by
  obtain ⟨h1, h2, h3⟩ := Oper.apart_spec hap
  unfold wpOp at *
  simp only [hj] at *
  rw [wanted_put oj a oi.dst v h1] at h
  split
  · rename_i hw
    simp only [hw, if_true] at h
    rcases h with h | ⟨_, _, _, hlets⟩
    case inr => exact hlets.elim
    refine .inl ?_
    unfold Oper.wp at *
    rw [execOp_put oj hsj a oi.dst v h1] at h
    generalize (execOp a.eval oj).run P w = r at *
    cases r with
    | ok n w' =>
      cases n <;> simp only [Oper.upon] at h ⊢
      case value u => exact ⟨hy.put hap hsi u, by rw [← Act.put_comm a v u h2]; exact h⟩
      case skip => exact ⟨hy.put hap hsi _, by rw [← Act.put_comm a v undef h2]; exact h⟩
      case defer d =>
        refine ⟨(hy.defers d).put hap hsi _, ?_⟩
        rw [← Act.put_comm _ v undef h2, ← Act.put_defers]
        exact h
      case enter f args =>
        refine Calls.mono h fun e w'' he => ?_
        cases e with
        | returned u => exact ⟨hy.put hap hsi u, by rw [← Act.put_comm a v u h2]; exact he⟩
        | panicked c => exact he.elim
        | outgrown => obtain ⟨_, _, he⟩ := he; exact he.elim
      case row row args => exact Rows.mono h fun u w'' he => ⟨hy.put hap hsi u, by rw [← Act.put_comm a v u h2]; exact he⟩
    | halt x w' =>
      cases x <;> simp only [Oper.upon] at h ⊢
      case panic u => exact h.elim
  · rename_i hw
    simp only [hw] at h
    exact ⟨hy.put hap hsi _, by rw [← Act.put_comm a v undef h2]; exact h⟩
def wpAnyS (P : Program) (md : Region.Mode) (ops : Array Oper) (Q : Exit → Act → World → Prop) (S : World → Prop) (n : Nat) : Nat → Array Bool → Act → Prop
  | 0, listed, a => (∀ j ∈ Region.ready md ops listed, n ≤ j) ∧ ∀ w, S w → wpAny P md ops Q (ops.size - n) listed a w
  | f + 1, listed, a =>
    Region.ready md ops listed ≠ [] ∧ ∀ i ∈ Region.ready md ops listed, i < n ∧ ∀ w, S w → wpOp P ops NoExit i (fun a' w' => S w' ∧ wpAnyS P md ops Q S n f (listed.setIfInBounds i true) a') a w
theorem wpOp_noExit {i : Nat} {K : Act → World → Prop} {a : Act} {w : World} (h : wpOp P ops NoExit i K a w) : wpOp P ops Q i K a w := by
  unfold wpOp at *
  split
  · rename_i ho; simpa [ho] using h
  · rename_i o ho
    simp only [ho] at h
    split
    · rename_i hw
      simp only [hw, if_true] at h
      rcases h with h | ⟨_, _, _, hlets⟩
      · exact .inl (wp_of_noExit h)
      · exact hlets.elim
    · rename_i hw; simpa [hw] using h
theorem wpAny_of_S {n : Nat} : ∀ (f : Nat) (listed : Array Bool) (a : Act) (w : World), S w → wpAnyS P md ops Q S n f listed a → wpAny P md ops Q (f + (ops.size - n)) listed a w
  | 0, listed, a, w, hS, h => by rw [Nat.zero_add]; exact h.2 w hS
  | f + 1, listed, a, w, hS, h => by
    rw [show f + 1 + (ops.size - n) = (f + (ops.size - n)) + 1 by omega]
    exact ⟨fun h0 => absurd h0 h.1, fun i hi => wpOp_mono (fun a' w' h' => wpAny_of_S f _ a' w' h'.1 h'.2) (wpOp_noExit ((h.2 i hi).2 w hS))⟩
def headB (md : Region.Mode) (ops : Array Oper) (n : Nat) : Bool :=
  n == ops.size || (decide (n < ops.size) && Region.sinkB md ops n && Region.chainB md ops n)
theorem headB_spec {n i : Nat} {listed : Array Bool} (h : headB md ops n = true) (inv : HeadInv md ops n listed) (hi : i < n) (hun : listed.getD i true = false) :
    ∀ t, t ∈ Region.ready md ops listed → t < n := by
  intro t ht
  simp only [headB, Bool.or_eq_true, beq_iff_eq, Bool.and_eq_true, decide_eq_true_eq] at h
  rcases h with h | ⟨⟨hn, hs⟩, hc⟩
  · obtain ⟨_, o, ho, _⟩ := mem_ready.1 ht
    have := (Array.getElem?_eq_some_iff.1 ho).1
    omega
  · rcases Nat.lt_or_ge t n with h | h
    · exact h
    · exact absurd ht (tail_waits hs hc hn inv _ i rfl hi hun t h)
theorem wpAnyS_first {n i : Nat} {oi : Oper} {v : Value} (hi : ops[i]? = some oi) (hsel : ∀ (j : Nat) (o : Oper) cs b, ops[j]? = some o → o.op ≠ .select cs b)
    (hh : headB md ops n = true) (hin : i < n) :
    ∀ (f : Nat) (listed : Array Bool) (a : Act), HeadInv md ops n listed →
      (∀ j oj, ops[j]? = some oj → j ≠ i → listed.getD j true = false → (∀ e ∈ oj.after, Region.binds md e = true → e.on ≠ i) → oi.apart ops oj = true) →
      i ∈ Region.ready md ops listed → YieldsS P ops S oi v a →
      wpAnyS P md ops Q S n f (listed.setIfInBounds i true) (a.put oi.dst v) → wpAnyS P md ops Q S n (f + 1) listed a := by
  intro f
  induction f with
  | zero =>
    intro listed a inv _ hr hy H
    have hun := (mem_ready.1 hr).1
    refine ⟨fun h => (by rw [h] at hr; cases hr), fun j hj => ?_⟩
    have hjn := headB_spec hh inv hin hun j hj
    refine ⟨hjn, fun w hS => ?_⟩
    by_cases hji : j = i
    · subst hji; exact hy.wpOp hi hS (fun w' hw' => ⟨hw', H⟩)
    · have := H.1 j (ready_mono hj hji)
      omega
  | succ f ih =>
    intro listed a inv hfree hr hy H
    have hun := (mem_ready.1 hr).1
    refine ⟨fun h => (by rw [h] at hr; cases hr), fun j hj => ?_⟩
    have hjn := headB_spec hh inv hin hun j hj
    refine ⟨hjn, fun w hS => ?_⟩
    by_cases hji : j = i
    · subst hji; exact hy.wpOp hi hS (fun w' hw' => ⟨hw', H⟩)
    · have h1 := (H.2 j (ready_mono hj hji)).2 w hS
      obtain ⟨hjun, oj, hoj, hall⟩ := mem_ready.1 hj
      have hnot : ∀ e ∈ oj.after, Region.binds md e = true → e.on ≠ i := fun e he hb heq => by
        have h1 := hall e he hb
        rw [heq] at h1
        rcases Nat.lt_or_ge i listed.size with h' | h'
        · simp [h'] at hun h1; rw [hun] at h1; cases h1
        · simp [Array.getElem?_eq_none h'] at h1
      have h2 := wpOp_putS (Q := NoExit) hoj (hfree j oj hoj hji hjun hnot) (fun cs b => hsel i oi cs b hi) (fun cs b => hsel j oj cs b hoj) hy h1
      have hfree' : ∀ k ok, ops[k]? = some ok → k ≠ i → (listed.setIfInBounds j true).getD k true = false →
          (∀ e ∈ ok.after, Region.binds md e = true → e.on ≠ i) → oi.apart ops ok = true := fun k ok hk hki hun hno => by
        refine hfree k ok hk hki ?_ hno
        by_cases hjk : j = k
        · subst hjk; exact hjun
        · rw [getD_set_ne true hjk] at hun; exact hun
      refine wpOp_mono (fun a' w' h3 => ⟨h3.2.1, ih (listed.setIfInBounds j true) a' (inv.set hj hjn) hfree' (ready_mono hr (Ne.symm hji)) h3.1 ?_⟩) h2
      rw [Array.setIfInBounds_comm _ _ hji]
      exact h3.2.2
def firsts (size : Nat) : Nat → Array Bool
  | 0 => Array.replicate size false
  | i + 1 => (firsts size i).setIfInBounds i true
def textB (md : Region.Mode) (ops : Array Oper) (n : Nat) : Bool :=
  decide (n ≤ ops.size) && headB md ops n && Region.noSelect ops && (Region.ready md ops (firsts ops.size n)).all (fun j => decide (n ≤ j)) &&
  (List.range n).all fun i => (Region.ready md ops (firsts ops.size i)).contains i && Region.free md ops (firsts ops.size i) i
def wpTake (P : Program) (md : Region.Mode) (ops : Array Oper) (Q : Exit → Act → World → Prop) (S : World → Prop) (n : Nat) : List Oper → Nat → Act → Prop
  | [], _, a => ∀ w, S w → wpAny P md ops Q (ops.size - n) (firsts ops.size n) a w
  | o :: rest, i, a => ∃ v, YieldsS P ops S o v a ∧ wpTake P md ops Q S n rest (i + 1) (a.put o.dst v)
theorem wpTake_sound {n : Nat} (ht : textB md ops n = true) : ∀ (rest : List Oper) (i : Nat) (a : Act), i + rest.length = n → (∀ j o, rest[j]? = some o → ops[i + j]? = some o) →
    HeadInv md ops n (firsts ops.size i) → wpTake P md ops Q S n rest i a → wpAnyS P md ops Q S n rest.length (firsts ops.size i) a := by
  simp only [textB, Bool.and_eq_true, decide_eq_true_eq, List.all_eq_true, List.mem_range] at ht
  obtain ⟨⟨⟨⟨hn, hh⟩, hs⟩, hd⟩, hall⟩ := ht
  intro rest
  induction rest with
  | nil =>
    intro i a hi _ _ h
    simp only [List.length_nil, Nat.add_zero] at hi
    subst hi
    exact ⟨fun j hj => hd j hj, h⟩
  | cons o rest ih =>
    intro i a hi hget inv ⟨v, hy, h⟩
    simp only [List.length_cons] at hi
    have hin : i < n := by omega
    have ho : ops[i]? = some o := by simpa using hget 0 o (by simp)
    obtain ⟨hr, hf⟩ := hall i hin
    have hr' : i ∈ Region.ready md ops (firsts ops.size i) := by simpa using hr
    refine wpAnyS_first ho (Region.noSelect_spec hs) hh hin _ _ _ inv (Region.free_spec ho hf) hr' hy ?_
    exact ih (i + 1) _ (by omega) (fun j o' hj => by have := hget (j + 1) o' (by simpa using hj); rw [← this]; congr 1; omega) (inv.set hr' hin) h
theorem firsts_inv (md : Region.Mode) (ops : Array Oper) (n : Nat) : HeadInv md ops n (firsts ops.size 0) where
  size := by simp [firsts]
  closed := by
    intro j oj _ hl
    simp [firsts] at hl
    rcases Nat.lt_or_ge j ops.size with h | h
    · simp [h] at hl
    · simp [h] at hl
  tail := by intro t _ ht; simp [firsts, ht]
theorem wp_region_S {id n : Nat} {a : Act} {w : World} (S : World → Prop) (hm : P.follows .mixedOrders = true) (ht : textB .any ops n = true) (hS : S { w with drawn := w.drawn + 1 })
    (h : wpTake P .any ops Q S n (ops.toList.take n) 0 a) : (Code.region id ops true).wp P Q a w := by
  have hn : n ≤ ops.size := by
    simp only [textB, Bool.and_eq_true, decide_eq_true_eq] at ht; exact ht.1.1.1.1
  refine wp_region_any hm ?_
  have h1 := wpTake_sound (P := P) (Q := Q) (S := S) ht (ops.toList.take n) 0 a (by simp; omega) (fun j o hj => by
    rw [List.getElem?_take] at hj
    split at hj
    · simpa using hj
    · cases hj) (firsts_inv _ _ _) h
  have h2 := wpAny_of_S _ _ _ _ hS h1
  have e : (ops.toList.take n).length + (ops.size - n) = ops.size := by simp; omega
  rw [e] at h2
  exact h2
theorem wp_region_lit_S {id : Nat} {l : List Oper} {a : Act} {w : World} (n : Nat) (S : World → Prop) (hm : P.follows .mixedOrders = true) (ht : textB .any l.toArray n = true) (hS : S { w with drawn := w.drawn + 1 })
    (h : wpTake P .any l.toArray Q S n (l.take n) 0 a) : (Code.region id l.toArray true).wp P Q a w :=
  wp_region_S S hm ht hS (by simpa using h)
theorem wpTake_end {n i : Nat} {a : Act} (hn : n = ops.size) (hr : Region.ready md ops (firsts ops.size n) = []) (h : ∀ w, S w → Q .normal a w) : wpTake P md ops Q S n [] i a :=
  fun w hS => wpAny_done hr (h w hS) _
def chainFrom (md : Region.Mode) (ops : Array Oper) : Nat → Array Bool → List Nat → Bool
  | 0, listed, is => (Region.ready md ops listed).isEmpty && is.isEmpty
  | f + 1, listed, is => match is with
    | [] => false
    | i :: is => Region.ready md ops listed == [i] && chainFrom md ops f (listed.setIfInBounds i true) is
theorem wpAny_chain : ∀ (f : Nat) (listed : Array Bool) (is : List Nat) (a : Act) (w : World), chainFrom md ops f listed is = true → wpOps P ops Q is a w → wpAny P md ops Q f listed a w
  | 0, listed, is, a, w, hc, h => by
    simp only [chainFrom, Bool.and_eq_true, List.isEmpty_iff] at hc
    rw [hc.2] at h
    exact ⟨hc.1, h⟩
  | f + 1, listed, [], a, w, hc, h => by simp [chainFrom] at hc
  | f + 1, listed, i :: is, a, w, hc, h => by
    simp only [chainFrom, Bool.and_eq_true, beq_iff_eq] at hc
    refine ⟨fun h0 => (by rw [hc.1] at h0; cases h0), fun j hj => ?_⟩
    rw [hc.1] at hj
    obtain rfl : j = i := by simpa using hj
    rw [wpOps_cons] at h
    exact wpOp_mono (fun a' w' h' => wpAny_chain f _ is a' w' hc.2 h') h
theorem wpTake_tail {n i : Nat} {l : List Oper} {a : Act} (hc : chainFrom md l.toArray (l.length - n) (firsts l.length n) (List.range' n (l.length - n)) = true)
    (h : ∀ w, S w → wpList P l.toArray Q (l.drop n) a w) : wpTake P md l.toArray Q S n [] i a := fun w hS => by
  simp only [List.size_toArray]
  refine wpAny_chain _ _ (List.range' n (l.length - n)) _ _ hc ?_
  have e := wpOps_eq_wpList (P := P) (ops := l.toArray) (Q := Q) (l.drop n) n (fun j => by simp)
  rw [List.length_drop] at e
  rw [e]
  exact h w hS
end
abbrev nV (k : IntKind) (n : Nat) : Value := .int k ((n : Nat) : Int)
abbrev iV (k : IntKind) (n : Int) : Value := .int k n
abbrev bV (b : Bool) : Value := .bool b
abbrev pV (b o : Nat) : Value := .pointer (some ⟨b, o, none⟩)
theorem zA : (∀ a b : Bool, ((a && b) = true) = (a = true ∧ b = true)) ∧ (∀ a b : Bool, ((a || b) = true) = (a = true ∨ b = true)) ∧ (∀ b : Bool, ((!b) = true) = (b = false)) ∧ (∀ b : Bool, ((!b) = false) = (b = true)) ∧ (∀ a b : Bool, ((a && b) = false) ↔ (a = false ∨ b = false)) ∧ (∀ a b : Bool, ((a || b) = false) ↔ (a = false ∧ b = false)) ∧ (∀ (p : Prop) [Decidable p], (decide p = true) = p) ∧ (∀ (p : Prop) [Decidable p], decide p = false ↔ ¬p)
  ∧ (∀ (α : Type) [BEq α] [LawfulBEq α] (a b : α), ((a == b) = true) ↔ a = b) ∧ (∀ (α : Type) [BEq α] [LawfulBEq α] (a b : α), ((a != b) = true) ↔ a ≠ b) ∧ (∀ (α : Type) [BEq α] [LawfulBEq α] (a b : α), ((a == b) = false) ↔ a ≠ b) ∧ (∀ (α : Type) [BEq α] [LawfulBEq α] (a b : α), ((a != b) = false) ↔ a = b) :=
  ⟨Bool.and_eq_true, Bool.or_eq_true, Bool.not_eq_true', Bool.not_eq_false', fun _ _ => Bool.and_eq_false_iff, fun _ _ => Bool.or_eq_false_iff, fun _ _ => decide_eq_true_eq, fun _ _ => decide_eq_false_iff_not, fun _ _ _ _ _ => beq_iff_eq, fun _ _ _ _ _ => bne_iff_ne, fun _ _ _ _ _ => beq_eq_false_iff_ne, fun _ _ _ _ _ => bne_eq_false_iff_eq⟩
theorem kr.{u} {α : Sort u} {a b : α} (h : a = b := by kernel_rfl) : a = b := h
theorem om {p : Prop} (h : p := by omega) : p := h
theorem de {p : Prop} (h : p := by decide) : p := h
theorem sp {p : Prop} (h : p := by simp) : p := h
end Go.Proofs.Ytjkhmbigoloeiaa.Obase
namespace Go.Proofs.Ytjkhmbigoloeiaa.Obase
open Go.RowKit
/-! ### Frames -/
def upd (f : Nat → Value) (d : Nat) (v : Value) : Nat → Value := fun k => bif Nat.beq k d then v else f k
def Fr (n : Nat) (f : Nat → Value) : Act := { tmps := Array.ofFn (n := n) fun i => f i.1, defers := [] }
def ev (n : Nat) (f : Nat → Value) : Operand → Value
  | .tmp t => bif Nat.blt t n then f t else undef
  | .const v => v
  | .global g => .pointer (some ⟨g, 0, none⟩)
  | .func k => .func (.func k) #[] #[]
theorem Fr_eval (n : Nat) (f : Nat → Value) : (Fr n f).eval = ev n f := by
  funext x
  cases x with
  | tmp t =>
    by_cases h : t < n
    · have hb : Nat.blt t n = true := by simpa [Nat.blt_eq] using h
      simp [Act.eval, ev, Fr, h, hb, Array.getD]
    · have hb : Nat.blt t n = false := by
        cases hb : Nat.blt t n with
        | false => rfl
        | true => exact absurd (by simpa [Nat.blt_eq] using hb) h
      simp [Act.eval, ev, Fr, h, hb, Array.getD]
  | const v => rfl
  | global g => rfl
  | func k => rfl
theorem Fr_put (n : Nat) (f : Nat → Value) (d : Nat) (v : Value) : (Fr n f).put (some d) v = Fr n (upd f d v) := by
  simp only [Act.put, Fr, Act.mk.injEq, and_true]
  apply Array.ext
  · simp
  · intro i h1 h2
    simp only [Array.size_setIfInBounds, Array.size_ofFn] at h1
    by_cases hi : d = i
    · subst hi
      simp [upd]
    · rw [Array.getElem_setIfInBounds_ne (by simpa using h1) hi]
      have hb : Nat.beq i d = false := by
        cases hb : Nat.beq i d with
        | false => rfl
        | true => exact absurd (Nat.eq_of_beq_eq_true hb).symm hi
      simp [upd, hb]
theorem Fr_put_none (n : Nat) (f : Nat → Value) (v : Value) : (Fr n f).put none v = Fr n f := rfl
def yl (ops : Array Oper) (n : Nat) (f : Nat → Value) (j : Nat) : Option Bool :=
  match (ops[j]?).bind (·.dst) with
  | some t => match ev n f (.tmp t) with
    | .bool b => some b
    | _ => none
  | none => none
theorem yl_undef (n t : Nat) (f : Nat → Value) (h : ¬ t < n) : ev n f (.tmp t) = undef := by
  have hb : Nat.blt t n = false := by
    cases hb : Nat.blt t n with
    | false => rfl
    | true => exact absurd (by simpa [Nat.blt_eq] using hb) h
  simp [ev, hb]
theorem yielded_Fr (ops : Array Oper) (n : Nat) (f : Nat → Value) : yielded ops (Fr n f).tmps = yl ops n f := by
  funext j
  unfold yielded yl
  cases hd : (ops[j]?).bind (·.dst) with
  | none => rfl
  | some t =>
    simp only [Option.bind_some]
    by_cases h : t < n
    · have hb : Nat.blt t n = true := by simpa [Nat.blt_eq] using h
      have e : (Fr n f).tmps[t]? = some (f t) := by simp [Fr, h]
      rw [e]
      simp only [ev, hb, cond_true]
      cases f t <;> rfl
    · have e : (Fr n f).tmps[t]? = none := Array.getElem?_eq_none (by simpa [Fr] using h)
      rw [e, yl_undef n t f h]
      rfl
theorem wanted_of_yl {ops : Array Oper} {n : Nat} {f : Nat → Value} {o : Oper} {j : Nat} {want e : Bool} (hg : o.guard = some (j, want)) (h : yl ops n f j = some e) :
    Region.wanted o (yl ops n f) = (e == want) := by
  simp [Region.wanted, hg, h]
theorem upd_self {f : Nat → Value} {d : Nat} {v : Value} (h : f d = v) : upd f d v = f := by
  funext k
  unfold upd
  cases hk : Nat.beq k d with
  | false => rfl
  | true => rw [Nat.eq_of_beq_eq_true hk]; exact h.symm
def upds : List (Nat × Value) → (Nat → Value) → Nat → Value
  | [], f => f
  | (d, v) :: l, f => upd (upds l f) d v
def Holds (f : Nat → Value) : List (Nat × Value) → Prop
  | [] => True
  | (d, v) :: l => f d = v ∧ Holds f l
theorem upds_holds : ∀ {l : List (Nat × Value)} {f : Nat → Value}, Holds f l → upds l f = f
  | [], _, _ => rfl
  | (d, v) :: l, f, h => by
    show upd (upds l f) d v = f
    rw [upds_holds h.2]
    exact upd_self h.1
/-! ### The memory -/
structure Blk where
  b : Nat
  o : Obj
abbrev cb (b : Nat) (cs : List Value) (t : TypeId) : Blk := ⟨b, .cells cs.toArray t (0, 0)⟩
structure Mem (w0 : World) (M : List Nat) (L : List Blk) (w : World) : Prop where
  os : w.os = w0.os
  tape : w.tape = w0.tape
  output : w.output = w0.output
  size : w0.heap.size ≤ w.heap.size
  same : ∀ k, k < w0.heap.size → k ∉ M → w.heap[k]? = w0.heap[k]?
  here : ∀ p ∈ L, w.heap[p.b]? = some p.o
  nodup : (L.map (·.b)).Nodup
  old : ∀ p ∈ L, p.b < w0.heap.size → p.b ∈ M
theorem Mem.refl (w : World) : Mem w [] [] w := ⟨rfl, rfl, rfl, Nat.le_refl _, fun _ _ _ => rfl, fun p hp => (by cases hp), List.nodup_nil, fun p hp => (by cases hp)⟩
theorem Mem.drawn {w0 w : World} {M : List Nat} {L : List Blk} (h : Mem w0 M L w) (k : Nat) : Mem w0 M L { w with drawn := k } :=
  ⟨h.os, h.tape, h.output, h.size, h.same, h.here, h.nodup, h.old⟩
theorem Mem.lt {w0 w : World} {M : List Nat} {L : List Blk} (h : Mem w0 M L w) {p : Blk} (hp : p ∈ L) : p.b < w.heap.size := by
  have := h.here p hp
  exact (Array.getElem?_eq_some_iff.1 this).1
theorem Mem.below {w0 w : World} {L : List Blk} (h : Mem w0 [] L w) : Below w0.heap.size w0 w :=
  ⟨h.os, h.tape, h.output, h.size, fun k hk => h.same k hk (by simp)⟩
theorem Mem.at {w0 w : World} {M : List Nat} {L : List Blk} (h : Mem w0 M L w) {i : Nat} {p : Blk} (hi : L[i]? = some p) : w.heap[p.b]? = some p.o :=
  h.here p (List.mem_of_getElem? hi)
theorem Mem.cell {w0 w : World} {M : List Nat} {L : List Blk} (h : Mem w0 M L w) {i b o : Nat} {cs : List Value} {t : TypeId} {v : Value} (hi : L[i]? = some (cb b cs t)) (hv : cs[o]? = some v) :
    w.cell? ⟨b, o, none⟩ = some v := by
  have := h.at hi
  simp only at this
  simp [World.cell?, this, hv]
theorem Mem.cell_old {w0 w : World} {M : List Nat} {L : List Blk} (h : Mem w0 M L w) {a : Addr} (ha : a.block < w0.heap.size) (hm : a.block ∉ M) : w.cell? a = w0.cell? a :=
  World.cell?_of_block (h.same _ ha hm)
theorem Mem.allocO {w0 w : World} {M : List Nat} {L : List Blk} (h : Mem w0 M L w) (o : Obj) :
    Mem w0 M (⟨w.heap.size, o⟩ :: L) { w with heap := w.heap.push o } where
  os := h.os
  tape := h.tape
  output := h.output
  size := by have := h.size; simp; omega
  same := fun k hk hm => by
    have hs := h.size
    show (w.heap.push _)[k]? = _
    rw [Array.getElem?_push, if_neg (by omega)]
    exact h.same k hk hm
  here := fun p hp => by
    show (w.heap.push _)[p.b]? = _
    rcases List.mem_cons.1 hp with rfl | hp
    · simp
    · have := h.lt hp
      rw [Array.getElem?_push, if_neg (by omega)]
      exact h.here p hp
  nodup := by
    simp only [List.map_cons, List.nodup_cons]
    refine ⟨fun hm => ?_, h.nodup⟩
    obtain ⟨p, hp, hb⟩ := List.mem_map.1 hm
    have := h.lt hp
    omega
  old := fun p hp hb => by
    rcases List.mem_cons.1 hp with rfl | hp
    · have := h.size; simp at hb; omega
    · exact h.old p hp hb
theorem Mem.alloc {w0 w : World} {M : List Nat} {L : List Blk} (h : Mem w0 M L w) (cs : List Value) (t : TypeId) :
    Mem w0 M ((cb w.heap.size cs t) :: L) { w with heap := w.heap.push (.cells cs.toArray t (0, 0)) } := h.allocO _
theorem Mem.putO {w0 w w' : World} {M : List Nat} {L : List Blk} (h : Mem w0 M L w) {i b : Nat} {o o' : Obj} (hi : L[i]? = some ⟨b, o⟩)
    (hos : w'.os = w.os) (htape : w'.tape = w.tape) (hout : w'.output = w.output) (hsize : w.heap.size ≤ w'.heap.size) (hoth : ∀ k, k < w.heap.size → k ≠ b → w'.heap[k]? = w.heap[k]?)
    (hb : w'.heap[b]? = some o') : Mem w0 M (L.set i ⟨b, o'⟩) w' where
  os := hos.trans h.os
  tape := htape.trans h.tape
  output := hout.trans h.output
  size := Nat.le_trans h.size hsize
  same := fun k hk hm => by
    have hmem := List.mem_of_getElem? hi
    have hs := h.size
    rw [hoth k (by omega) (fun e => hm (e ▸ h.old _ hmem (e ▸ hk)))]
    exact h.same k hk hm
  here := fun p hp => by
    rcases List.mem_or_eq_of_mem_set hp with hp' | rfl
    · by_cases hpb : p.b = b
      · -- the block itself: nodup says that p stands at i, but there stands the new one
        obtain ⟨j, hj, hpj⟩ := List.getElem_of_mem hp
        simp only [List.length_set] at hj
        by_cases hji : i = j
        · subst hji
          rw [List.getElem_set_self] at hpj
          rw [← hpj]; exact hb
        · rw [List.getElem_set_ne hji] at hpj
          obtain ⟨hi', hpi⟩ := List.getElem?_eq_some_iff.1 hi
          have hnd := h.nodup
          have e1 : (L.map (·.b))[j]'(by simpa using hj) = b := by simp [hpj, hpb]
          have e2 : (L.map (·.b))[i]'(by simpa using hi') = b := by simp [hpi]
          have := (List.getElem_inj hnd).1 (e1.trans e2.symm)
          exact absurd this.symm hji
      · rw [hoth p.b (h.lt hp') hpb]
        exact h.here p hp'
    · exact hb
  nodup := by
    obtain ⟨hi', hpi⟩ := List.getElem?_eq_some_iff.1 hi
    have e : (L.set i ⟨b, o'⟩).map (·.b) = L.map (·.b) := by
      rw [List.map_set]
      apply List.ext_getElem?
      intro j
      by_cases hji : i = j
      · subst hji
        simp [hi', hpi]
      · rw [List.getElem?_set_ne hji]
    rw [e]; exact h.nodup
  old := fun p hp hlt => by
    rcases List.mem_or_eq_of_mem_set hp with hp | rfl
    · exact h.old p hp hlt
    · exact h.old ⟨b, o⟩ (List.mem_of_getElem? hi) hlt
theorem Mem.put {w0 w w' : World} {M : List Nat} {L : List Blk} (h : Mem w0 M L w) {i b : Nat} {cs cs' : List Value} {t : TypeId} (hi : L[i]? = some (cb b cs t))
    (hos : w'.os = w.os) (htape : w'.tape = w.tape) (hout : w'.output = w.output) (hsize : w.heap.size ≤ w'.heap.size) (hoth : ∀ k, k < w.heap.size → k ≠ b → w'.heap[k]? = w.heap[k]?)
    (hb : w'.heap[b]? = some (.cells cs'.toArray t (0, 0))) : Mem w0 M (L.set i (cb b cs' t)) w' := h.putO hi hos htape hout hsize hoth hb
theorem Mem.setCell {w0 w : World} {M : List Nat} {L : List Blk} (h : Mem w0 M L w) {i b o : Nat} {cs : List Value} {t : TypeId} (hi : L[i]? = some (cb b cs t)) (v : Value) :
    Mem w0 M (L.set i (cb b (cs.set o v) t)) (w.setCell ⟨b, o, none⟩ v) := by
  have hb := h.at hi
  simp only at hb
  refine h.put hi rfl rfl rfl (by simp [World.setCell]) (fun k _ hk => ?_) ?_
  · simp only [World.setCell, Array.getElem?_modify]; rw [if_neg (by omega)]
  · simp only [World.setCell, Array.getElem?_modify, if_true, hb]
    simp
theorem Mem.sub {w0 w : World} {M : List Nat} {L L' : List Blk} (h : Mem w0 M L w) (hs : ∀ p ∈ L', p ∈ L) (hn : (L'.map (·.b)).Nodup) : Mem w0 M L' w :=
  ⟨h.os, h.tape, h.output, h.size, h.same, fun p hp => h.here p (hs p hp), hn, fun p hp => h.old p (hs p hp)⟩
theorem Mem.ext {w0 w w' : World} {M : List Nat} {L : List Blk} (h : Mem w0 M L w) (hb : Below w.heap.size w w') : Mem w0 M L w' :=
  ⟨hb.os.trans h.os, hb.tape.trans h.tape, hb.output.trans h.output, Nat.le_trans h.size hb.size, fun k hk hm => (hb.block k (by have := h.size; omega)).trans (h.same k hk hm),
    fun p hp => (hb.block _ (h.lt hp)).trans (h.here p hp), h.nodup, h.old⟩
/-! ### Triples -/
section
variable {P : Program} {ops : Array Oper} {Q : Exit → Act → World → Prop} {S S' : World → Prop} {n : Nat} {f f' : Nat → Value} {o : Oper} {rest : List Oper} {v : Value} {d : Nat}
def Ys (P : Program) (n : Nat) (S : World → Prop) (f : Nat → Value) (o : Oper) (v : Value) : Prop :=
  ∀ w, S w → ∀ K : Act → World → Prop, (∀ w', S w' → K ((Fr n f).put o.dst v) w') → o.wp P (Fr n f) w K NoExit
def Ht {β : Type} (P : Program) (n : Nat) (S : World → Prop) (f : Nat → Value) (o : Oper) (f' : β → Nat → Value) (S' : β → World → Prop) : Prop :=
  ∀ w, S w → ∀ K : Act → World → Prop, (∀ b w', S' b w' → K (Fr n (f' b)) w') → o.wp P (Fr n f) w K NoExit
def Wl (P : Program) (ops : Array Oper) (Q : Exit → Act → World → Prop) (l : List Oper) (n : Nat) (f : Nat → Value) (S : World → Prop) : Prop :=
  ∀ w, S w → wpList P ops Q l (Fr n f) w
def Wt (P : Program) (ops : Array Oper) (Q : Exit → Act → World → Prop) (m i : Nat) (l : List Oper) (n : Nat) (f : Nat → Value) (S : World → Prop) : Prop :=
  wpTake P .any ops Q S m l i (Fr n f)
def W (P : Program) (Q : Exit → Act → World → Prop) (c : Code) (n : Nat) (f : Nat → Value) (S : World → Prop) : Prop :=
  ∀ w, S w → c.wp P Q (Fr n f) w
theorem Wl.ys (hg : o.guard = none) (hd : o.dst = some d) (h : Ys P n S f o v) (hr : Wl P ops Q rest n (upd f d v) S) : Wl P ops Q (o :: rest) n f S := fun w hS =>
  wpList_plain hg fun _ hK => wp_of_noExit (h w hS _ fun w' hw' => by rw [hd, Fr_put]; exact hK _ _ (hr w' hw'))
theorem Wl.skip (hg : Region.wanted o (yl ops n f) = false) (hd : o.dst = some d) (hr : Wl P ops Q rest n (upd f d undef) S) : Wl P ops Q (o :: rest) n f S := fun w hS =>
  wpList_step fun K hK => by rw [yielded_Fr, hg]; simp only [Bool.false_eq_true, if_false]; rw [hd, Fr_put]; exact hK _ _ (hr w hS)
theorem Wl.guard (g : Bool) (hg : Region.wanted o (yl ops n f) = g) (hd : o.dst = some d) (h : g = true → Ys P n S f o v) (hr : Wl P ops Q rest n (upd f d (bif g then v else undef)) S) : Wl P ops Q (o :: rest) n f S := fun w hS =>
  wpList_step fun K hK => by
    rw [yielded_Fr, hg]
    cases g with
    | false => simp only [Bool.false_eq_true, if_false]; rw [hd, Fr_put]; exact hK _ _ (hr w hS)
    | true => simp only [if_true]; exact wp_of_noExit (h rfl w hS _ fun w' hw' => by rw [hd, Fr_put]; exact hK _ _ (hr w' hw'))
theorem Wl.ht {β : Type} {f' : β → Nat → Value} {S' : β → World → Prop} (hg : o.guard = none) (h : Ht P n S f o f' S') (hr : ∀ b, Wl P ops Q rest n (f' b) (S' b)) : Wl P ops Q (o :: rest) n f S := fun w hS =>
  wpList_plain hg fun _ hK => wp_of_noExit (h w hS _ fun b w' hw' => hK _ _ (hr b w' hw'))
theorem Wl.nil (h : ∀ w, S w → Q .normal (Fr n f) w) : Wl P ops Q [] n f S := fun w hS => h w hS
theorem Wt.ys {m i : Nat} (hg : o.guard = none) (hd : o.dst = some d) (h : Ys P n S f o v) (hr : Wt P ops Q m (i + 1) rest n (upd f d v) S) : Wt P ops Q m i (o :: rest) n f S :=
  ⟨v, .inl ⟨by simp [Region.wanted, hg], h⟩, by rw [hd, Fr_put]; exact hr⟩
theorem Wt.skip {m i : Nat} (hg : Region.wanted o (yl ops n f) = false) (hd : o.dst = some d) (hr : Wt P ops Q m (i + 1) rest n (upd f d undef) S) : Wt P ops Q m i (o :: rest) n f S :=
  ⟨undef, .inr ⟨by rw [yielded_Fr]; exact hg, rfl⟩, by rw [hd, Fr_put]; exact hr⟩
theorem Wt.guard {m i : Nat} (g : Bool) (hg : Region.wanted o (yl ops n f) = g) (hd : o.dst = some d) (h : g = true → Ys P n S f o v) (hr : Wt P ops Q m (i + 1) rest n (upd f d (bif g then v else undef)) S) : Wt P ops Q m i (o :: rest) n f S := by
  cases g with
  | false => exact Wt.skip hg hd hr
  | true => exact ⟨v, .inl ⟨by rw [yielded_Fr]; exact hg, h rfl⟩, by rw [hd, Fr_put]; exact hr⟩
theorem Wt.nil {m i : Nat} (hm : m = ops.size) (hr : Region.ready .any ops (firsts ops.size m) = []) (h : ∀ w, S w → Q .normal (Fr n f) w) : Wt P ops Q m i [] n f S := wpTake_end hm hr h
theorem Wt.tail {m i : Nat} {l : List Oper} (hc : chainFrom .any l.toArray (l.length - m) (firsts l.length m) (List.range' m (l.length - m)) = true)
    (h : Wl P l.toArray Q (l.drop m) n f S) : Wt P l.toArray Q m i [] n f S := wpTake_tail hc h
theorem W.region {id : Nat} {l : List Oper} (h : Wl P l.toArray Q l n f S) : W P Q (.region id l.toArray false) n f S := fun w hS => wp_region_lit (h w hS)
theorem W.draws {id : Nat} {l : List Oper} (m : Nat) (hm : P.follows .mixedOrders = true) (ht : textB .any l.toArray m = true) (hS : ∀ w k, S w → S { w with drawn := k })
    (h : Wt P l.toArray Q m 0 (l.take m) n f S) : W P Q (.region id l.toArray true) n f S := fun w hw => wp_region_lit_S m S hm ht (hS w _ hw) h
/-! ### Code -/
theorem W.seq {x y : Code} (h : ∀ K : Act → World → Prop, (∀ f' (S' : World → Prop), W P Q y n f' S' → ∀ w, S' w → K (Fr n f') w) → W P (Exit.then K Q) x n f S) : W P Q (.seq x y) n f S := fun w hS =>
  wp_seq_k fun K hK => h K (fun f' S' hW w' hw' => hK _ _ (hW w' hw')) w hS
theorem W.skip' (h : ∀ w, S w → Q .normal (Fr n f) w) : W P Q .skip n f S := fun w hS => wp_skip (h w hS)
theorem W.ret (h : ∀ w, S w → Q .ret (Fr n f) w) : W P Q .ret n f S := fun w hS => wp_ret (h w hS)
theorem W.exit {id : Nat} (h : ∀ w, S w → Q (.exit id) (Fr n f) w) : W P Q (.exit id) n f S := fun w hS => wp_exit (h w hS)
theorem W.block {id : Nat} {c : Code} (h : W P (Exit.inBlock id Q) c n f S) : W P Q (.block id c) n f S := fun w hS => wp_block (h w hS)
theorem W.condT {x : Operand} {c1 c2 : Code} (hx : ev n f x = .bool true) (h : W P Q c1 n f S) : W P Q (.cond x c1 c2) n f S := fun w hS => wp_cond_true (by rw [Fr_eval]; exact hx) (h w hS)
theorem W.condF {x : Operand} {c1 c2 : Code} (hx : ev n f x = .bool false) (h : W P Q c2 n f S) : W P Q (.cond x c1 c2) n f S := fun w hS => wp_cond_false (by rw [Fr_eval]; exact hx) (h w hS)
theorem W.cond {x : Operand} {c1 c2 : Code} (e : Bool) (hx : ev n f x = .bool e) (h1 : e = true → W P Q c1 n f S) (h2 : e = false → W P Q c2 n f S) : W P Q (.cond x c1 c2) n f S := fun w hS =>
  wp_cond_split (t := e) (by rw [Fr_eval]; exact hx) (fun h => h1 h w hS) (fun h => h2 h w hS)
theorem W.meet {x : Code} {γ : Type} (K : Act → World → Prop) (F : γ → List (Nat × Value)) (T : γ → World → Prop)
    (first : ∀ J : Act → World → Prop, (∀ g f' w, Holds f' (F g) → T g w → J (Fr n f') w) → W P (Exit.then J Q) x n f S)
    (after : ∀ g f', ∀ w, T g w → K (Fr n (upds (F g) f')) w) : W P (Exit.then K Q) x n f S := fun w hS => by
  refine wp_mono (first (fun a w => ∃ g f', a = Fr n (upds (F g) f') ∧ T g w) (fun g f' w hF hT => ⟨g, f', by rw [upds_holds hF], hT⟩) w hS) ?_
  intro e a' w' hq
  cases e with
  | normal => obtain ⟨g, f', rfl, hT⟩ := hq; exact after g f' w' hT
  | exit id => exact hq
  | goto l => exact hq
  | ret => exact hq
  | panic ch => exact hq
  | outgrown => exact hq
theorem W.loop {c : Code} {γ : Type} (F : γ → List (Nat × Value)) (T : γ → World → Prop) (μ : γ → Nat) (g0 : γ) (h0 : Holds f (F g0)) (hS : ∀ w, S w → T g0 w)
    (round : ∀ (g : γ) (f' : Nat → Value) (J : Act → World → Prop), (∀ g' f'' w, μ g' < μ g → Holds f'' (F g') → T g' w → J (Fr n f'') w) → W P (Exit.then J Q) c n (upds (F g) f') (T g)) :
    W P Q (.loop c) n f S := fun w hw => by
  classical
  let I : Act → World → Prop := fun a w => ∃ g f', a = Fr n (upds (F g) f') ∧ T g w
  let p : Act → World → Nat → Prop := fun a w k => ∃ g f', a = Fr n (upds (F g) f') ∧ T g w ∧ μ g = k
  have least : ∀ q : Nat → Prop, (∃ k, q k) → ∃ k, q k ∧ ∀ j, q j → k ≤ j := fun q ⟨k, hk⟩ => by
    induction k using Nat.strongRecOn with
    | _ k ih =>
      by_cases h : ∃ j, j < k ∧ q j
      · obtain ⟨j, hj, hq⟩ := h; exact ih j hj hq
      · exact ⟨k, hk, fun j hj => Nat.le_of_not_lt fun hlt => h ⟨j, hlt, hj⟩⟩
  let m : Act → World → Nat := fun a w => if h : ∃ k, p a w k then Classical.choose (least _ h) else 0
  have hm : ∀ a w, I a w → ∃ g f', a = Fr n (upds (F g) f') ∧ T g w ∧ μ g = m a w := fun a w ⟨g, f', ha, hT⟩ => by
    have h : ∃ k, p a w k := ⟨μ g, g, f', ha, hT, rfl⟩
    have := (Classical.choose_spec (least _ h)).1
    simp only [m, dif_pos h]
    exact this
  have hle : ∀ g f' w, T g w → m (Fr n (upds (F g) f')) w ≤ μ g := fun g f' w hT => by
    have h : ∃ k, p (Fr n (upds (F g) f')) w k := ⟨μ g, g, f', rfl, hT, rfl⟩
    simp only [m, dif_pos h]
    exact (Classical.choose_spec (least _ h)).2 _ ⟨g, f', rfl, hT, rfl⟩
  refine wp_loop I m ⟨g0, f, by rw [upds_holds h0], hS w hw⟩ fun a w' hI => ?_
  obtain ⟨g, f', rfl, hT, hμ⟩ := hm a w' hI
  refine round g f' _ (fun g' f'' w'' hlt hF hT' => ?_) w' hT
  have e : Fr n f'' = Fr n (upds (F g') f'') := by rw [upds_holds hF]
  refine ⟨⟨g', f'', e, hT'⟩, ?_⟩
  have := hle g' f'' w'' hT'
  rw [← e] at this
  omega
theorem W.prune {c : Code} (l : List (Nat × Value)) (hl : Holds f l) (h : ∀ f', W P Q c n (upds l f') S) : W P Q c n f S := by
  have := h f
  rwa [upds_holds hl] at this
theorem W.conseq {c : Code} (hS : ∀ w, S w → S' w) (h : W P Q c n f S') : W P Q c n f S := fun w hw => h w (hS w hw)
end
end Go.Proofs.Ytjkhmbigoloeiaa.Obase
namespace Go.Proofs.Ytjkhmbigoloeiaa.Obase
section
variable {P : Program} {Q : Exit → Act → World → Prop} {S S' : World → Prop} {n : Nat} {f f' : Nat → Value} {c : Code} {w0 w : World} {M : List Nat} {L L' : List Blk}
theorem W.castS (hf : f = f') (hS : S = S') (h : W P Q c n f' S') : W P Q c n f S := by subst hf; subst hS; exact h
theorem W.and {p : Prop} (h : p → W P Q c n f S) : W P Q c n f (fun w => S w ∧ p) := fun w ⟨hS, hp⟩ => h hp w hS
theorem Mem.sublist (h : Mem w0 M L w) (hs : L'.Sublist L) : Mem w0 M L' w := h.sub (fun p hp => hs.subset hp) ((hs.map _).nodup h.nodup)
theorem Mem.cast (e : L = L') (h : Mem w0 M L w) : Mem w0 M L' w := e ▸ h
end
end Go.Proofs.Ytjkhmbigoloeiaa.Obase
namespace Go.Proofs.Ytjkhmbigoloeiaa.Obase
theorem lz2 {x : Value} {g c : Bool} {v u : Value} (h : g = true) (e : x = (bif (g && c) then v else u)) : x = (bif c then v else u) := by rw [e, h]; rfl
end Go.Proofs.Ytjkhmbigoloeiaa.Obase
namespace Go.Proofs.Ytjkhmbigoloeiaa.Obase
open Go.RowKit
section
variable {P : Program} {Q : Exit → Act → World → Prop} {S : World → Prop} {n : Nat} {f : Nat → Value} {o : Oper} {v : Value} {d : Nat} {w0 : World} {M : List Nat} {L : List Blk}
theorem Ys.pure (h : ∀ w, (execOp (ev n f) o).run P w = .ok (.value v) w) : Ys P n S f o v := fun w hS K hK => by
  unfold Oper.wp
  rw [Fr_eval, h w]
  exact hK w hS
theorem Ys.reads (h : ∀ w, S w → (execOp (ev n f) o).run P w = .ok (.value v) w) : Ys P n S f o v := fun w hS K hK => by
  unfold Oper.wp
  rw [Fr_eval, h w hS]
  exact hK w hS
theorem Ys.conseq {v' : Value} (e : v = v') (h : Ys P n S f o v) : Ys P n S f o v' := e ▸ h
theorem Ys.pick {c x y : Operand} {e : Bool} (hop : o.op = .pick c x y) (hc : ev n f c = .bool e) : Ys P n S f o (bif e then ev n f x else ev n f y) := Ys.pure fun w => by
  simp only [execOp, hop, hc, asBool]
  cases e <;> rfl
theorem Ys.and {c x y : Operand} {e b : Bool} (hop : o.op = .pick c x y) (hc : ev n f c = .bool e) (hx : ev n f x = bif e then .bool b else undef) (hy : ev n f y = .bool false) : Ys P n S f o (.bool (e && b)) :=
  (Ys.pick hop hc).conseq (by cases e <;> simp [hx, hy])
theorem run_loadVar1 {t : TypeId} {a : Addr} {w : World} (ht : ∀ w, (isAgg t).run P w = .ok false w) (hc : w.cell? a = some v) : (loadVar t a).run P w = .ok v w := by
  simp [loadVar, ht, hc]
theorem run_loadVarN {t : TypeId} {a : Addr} {w : World} {vs : List Value} (ht : ∀ w, (isAgg t).run P w = .ok true w) (hz : ∀ w, (sizeOf t).run P w = .ok vs.length w) (hc : ∀ j v, vs[j]? = some v → w.cell? (a.add j) = some v) :
    (loadVar t a).run P w = .ok (.agg vs.toArray) w := by
  have hl := run_loadCells_list (P := P) w a vs hc
  simp [loadVar, ht, hz, hl]
theorem add_lit (b o j : Nat) : (⟨b, o, none⟩ : Addr).add j = ⟨b, o + j, none⟩ := by
  unfold Addr.add; split <;> simp_all
theorem Mem.cells {w : World} (h : Mem w0 M L w) {i b o sz : Nat} {cs vs : List Value} {t : TypeId} (hi : L[i]? = some (cb b cs t)) (hv : (cs.drop o).take sz = vs) :
    ∀ j v, vs[j]? = some v → w.cell? ((⟨b, o, none⟩ : Addr).add j) = some v := fun j v hj => by
  rw [add_lit]
  refine h.cell hi ?_
  rw [← hv, List.getElem?_take] at hj
  split at hj
  · simpa using hj
  · cases hj
theorem execOp_load {t : TypeId} {x : Operand} {a : Addr} {w : World} (hop : o.op = .load t x) (hx : ev n f x = .pointer (some a)) (h : (loadVar t a).run P w = .ok v w) : (execOp (ev n f) o).run P w = .ok (.value v) w := by
  simp [execOp, hop, hx, Instr.loadAt, Instr.sureAddr, h]
theorem Ys.load {t : TypeId} {x : Operand} {b i o' : Nat} {cs : List Value} {ty : TypeId} (hop : o.op = .load t x) (hx : ev n f x = .pointer (some ⟨b, o', none⟩)) (ht : ∀ w, (isAgg t).run P w = .ok false w)
    (hi : L[i]? = some (cb b cs ty)) (hv : cs[o']? = some v) : Ys P n (Mem w0 M L) f o v := Ys.reads fun _ hS => execOp_load hop hx (run_loadVar1 ht (hS.cell hi hv))
theorem Ys.loadN {t : TypeId} {x : Operand} {b i o' sz : Nat} {cs vs : List Value} {ty : TypeId} (hop : o.op = .load t x) (hx : ev n f x = .pointer (some ⟨b, o', none⟩)) (ht : ∀ w, (isAgg t).run P w = .ok true w)
    (hz : ∀ w, (sizeOf t).run P w = .ok sz w) (hi : L[i]? = some (cb b cs ty)) (hv : (cs.drop o').take sz = vs) (hl : vs.length = sz) : Ys P n (Mem w0 M L) f o (.agg vs.toArray) :=
  Ys.reads fun _ hS => execOp_load hop hx (run_loadVarN ht (by rw [hl]; exact hz) (hS.cells hi hv))
theorem Ys.loadOld {t : TypeId} {x : Operand} {a : Addr} (hop : o.op = .load t x) (hx : ev n f x = .pointer (some a)) (ht : ∀ w, (isAgg t).run P w = .ok false w)
    (ha : a.block < w0.heap.size) (hm : a.block ∉ M) (hv : w0.cell? a = some v) : Ys P n (Mem w0 M L) f o v := Ys.reads fun _ hS => execOp_load hop hx (run_loadVar1 ht (by rw [hS.cell_old ha hm]; exact hv))
theorem Ys.loadOldN {t : TypeId} {x : Operand} {a : Addr} {sz : Nat} {vs : List Value} (hop : o.op = .load t x) (hx : ev n f x = .pointer (some a)) (ht : ∀ w, (isAgg t).run P w = .ok true w)
    (hz : ∀ w, (sizeOf t).run P w = .ok sz w) (ha : a.block < w0.heap.size) (hm : a.block ∉ M) (hl : vs.length = sz) (hv : ∀ j v, vs[j]? = some v → w0.cell? (a.add j) = some v) : Ys P n (Mem w0 M L) f o (.agg vs.toArray) :=
  Ys.reads fun _ hS => execOp_load hop hx (run_loadVarN ht (by rw [hl]; exact hz) (fun j v hj => by
    rw [hS.cell_old (by unfold Addr.add; split <;> exact ha) (by unfold Addr.add; split <;> exact hm)]; exact hv j v hj))
theorem execOp_store {t : TypeId} {x y : Operand} {a : Addr} {w w' : World} (hop : o.op = .store t x y) (hx : ev n f x = .pointer (some a)) (hy : ev n f y = v) (h : (storeVar t a v).run P w = .ok () w') : (execOp (ev n f) o).run P w = .ok .skip w' := by
  simp [execOp, hop, hx, hy, Instr.storeAt, Instr.sureAddr, h]
theorem cells_one (hv : v.oneCell' = true) : v.cells = #[v] := by
  cases v <;> first | rfl | cases hv
theorem Mem.free {w : World} (h : Mem w0 M L w) {i b o : Nat} {cs : List Value} {t : TypeId} (hi : L[i]? = some (cb b cs t)) : w.frozen? ⟨b, o, none⟩ = false := by
  have := h.at hi
  simp only at this
  simp [World.frozen?, this]
theorem run_store1 {w : World} (h : Mem w0 M L w) {i b o : Nat} {cs : List Value} {t : TypeId} (hi : L[i]? = some (cb b cs t)) (ho : o < cs.length) (hv : v.oneCell' = true) :
    (store ⟨b, o, none⟩ v).run P w = .ok () (w.setCell ⟨b, o, none⟩ v) := by
  rw [run_store P w _ v _ hv, h.cell hi (List.getElem?_eq_getElem ho), h.free hi]
  simp
theorem Ht.store {t : TypeId} {x y : Operand} {b i o' : Nat} {cs : List Value} {ty : TypeId} {L' : List Blk} (hd : o.dst = none) (hop : o.op = .store t x y) (hx : ev n f x = .pointer (some ⟨b, o', none⟩)) (hy : ev n f y = v)
    (hz : ∀ w, (sizeOf t).run P w = .ok 1 w) (hv : v.oneCell' = true) (hi : L[i]? = some (cb b cs ty)) (ho : o' < cs.length) (hL : L.set i (cb b (cs.set o' v) ty) = L') :
    Ht (β := Unit) P n (Mem w0 M L) f o (fun _ => f) (fun _ => Mem w0 M L') := fun w hS K hK => by
  have hs : (storeVar t ⟨b, o', none⟩ v).run P w = .ok () (w.setCell ⟨b, o', none⟩ v) := by
    simp only [storeVar, Sem.run_bind, hz, cells_one hv, Result.andThen_ok]
    have : (⟨b, o', none⟩ : Addr).add 0 = ⟨b, o', none⟩ := rfl
    simp [storeCells, this, run_store1 hS hi ho hv]
  unfold Oper.wp
  rw [Fr_eval, execOp_store hop hx hy hs]
  have := hK () _ (hL ▸ hS.setCell hi v)
  simp only [Oper.upon, hd, Fr_put_none]
  exact this
def putAt (cs : List Value) (o : Nat) (vs : List Value) : List Value := cs.take o ++ (vs ++ cs.drop (o + vs.length))
theorem putAt_get (cs : List Value) (o : Nat) (vs : List Value) (j : Nat) (h : o + vs.length ≤ cs.length) : (putAt cs o vs)[j]? = if j < o then cs[j]? else if j < o + vs.length then vs[j - o]? else cs[j]? := by
  unfold putAt
  by_cases h1 : j < o
  · rw [if_pos h1, List.getElem?_append_left (by simp; omega), List.getElem?_take, if_pos h1]
  · rw [if_neg h1, List.getElem?_append_right (by simp; omega)]
    have e : (cs.take o).length = o := by simp; omega
    rw [e]
    by_cases h2 : j < o + vs.length
    · rw [if_pos h2, List.getElem?_append_left (by omega)]
    · rw [if_neg h2, List.getElem?_append_right (by omega), List.getElem?_drop]
      congr 1
      omega
theorem run_storeCells {b i : Nat} {t : TypeId} : ∀ (vs : List Value) (o k : Nat) (cs : List Value) (L : List Blk) (w : World), Mem w0 M L w → L[i]? = some (cb b cs t) → o + k + vs.length ≤ cs.length → (∀ v ∈ vs, v.oneCell' = true) →
    ∃ w', (storeCells ⟨b, o, none⟩ vs k).run P w = .ok () w' ∧ Mem w0 M (L.set i (cb b (putAt cs (o + k) vs) t)) w'
  | [], o, k, cs, L, w, h, hi, hl, _ => by
    refine ⟨w, rfl, ?_⟩
    have e : putAt cs (o + k) [] = cs := by simp [putAt]
    rw [e]
    obtain ⟨hi', hp⟩ := List.getElem?_eq_some_iff.1 hi
    rw [← hp, List.set_getElem_self]
    exact h
  | v :: rest, o, k, cs, L, w, h, hi, hl, h1 => by
    simp only [List.length_cons] at hl
    have hst := run_store1 (P := P) h hi (o := o + k) (by omega) (h1 v (List.mem_cons_self ..))
    have h2 := h.setCell hi (o := o + k) v
    obtain ⟨hi', hp⟩ := List.getElem?_eq_some_iff.1 hi
    obtain ⟨w', hr, hm⟩ := run_storeCells (b := b) (i := i) (t := t) rest o (k + 1) (cs.set (o + k) v) (L.set i (cb b (cs.set (o + k) v) t)) _ h2 (by simp [hi']) (by simp; omega) (fun x hx => h1 x (List.mem_cons_of_mem _ hx))
    refine ⟨w', ?_, ?_⟩
    · simp only [storeCells, Sem.run_bind, add_lit, hst, Result.andThen_ok, hr]
    · rw [List.set_set] at hm
      have e : putAt (cs.set (o + k) v) (o + (k + 1)) rest = putAt cs (o + k) (v :: rest) := by
        apply List.ext_getElem?
        intro j
        rw [putAt_get _ _ _ _ (by simp; omega), putAt_get _ _ _ _ (by simp; omega), List.getElem?_set]
        simp only [List.length_cons]
        by_cases h1 : j < o + k
        · rw [if_pos (by omega), if_neg (by omega), if_pos h1]
        · by_cases h2 : j = o + k
          · subst h2
            rw [if_pos (by omega), if_pos rfl, if_pos (by omega), if_neg (by omega), if_pos (by omega)]
            simp
          · rw [if_neg (by omega), if_neg h1]
            by_cases h3 : j < o + k + (rest.length + 1)
            · rw [if_pos (by omega), if_pos h3, show j - (o + k) = (j - (o + (k + 1))) + 1 by omega, List.getElem?_cons_succ]
            · rw [if_neg (by omega), if_neg h3, if_neg (by omega)]
      rw [← e]
      exact hm
theorem Ht.storeN {t : TypeId} {x y : Operand} {b i o' : Nat} {cs vs cs' : List Value} {ty : TypeId} {L' : List Blk} (hd : o.dst = none) (hop : o.op = .store t x y) (hx : ev n f x = .pointer (some ⟨b, o', none⟩)) (hy : ev n f y = .agg vs.toArray)
    (hz : ∀ w, (sizeOf t).run P w = .ok vs.length w) (hv : ∀ v ∈ vs, v.oneCell' = true) (hi : L[i]? = some (cb b cs ty)) (ho : o' + vs.length ≤ cs.length) (hcs : putAt cs o' vs = cs') (hL : L.set i (cb b (cs') ty) = L') :
    Ht (β := Unit) P n (Mem w0 M L) f o (fun _ => f) (fun _ => Mem w0 M L') := fun w hS K hK => by
  obtain ⟨w', hr, hm⟩ := run_storeCells (P := P) vs o' 0 cs L w hS hi (by omega) hv
  have hs : (storeVar t ⟨b, o', none⟩ (.agg vs.toArray)).run P w = .ok () w' := by
    simp only [storeVar, Sem.run_bind, hz, Value.cells, Result.andThen_ok]
    simpa using hr
  unfold Oper.wp
  rw [Fr_eval, execOp_store hop hx hy hs]
  rw [Nat.add_zero, hcs, hL] at hm
  have := hK () _ hm
  simp only [Oper.upon, hd, Fr_put_none]
  exact this
/-! ### New blocks -/
theorem Ht.alloc {t : TypeId} {z : Value} {cs : List Value} (hd : o.dst = some d) (hop : o.op = .alloc t) (hz : ∀ w, (zeroValue t).run P w = .ok z w) (hcs : z.cells.toList = cs) :
    Ht P n (Mem w0 M L) f o (fun b => upd f d (.pointer (some ⟨b, 0, none⟩))) (fun b => Mem w0 M ((cb b (cs) t) :: L)) := fun w hS K hK => by
  have e : z.cells = cs.toArray := by rw [← hcs]
  have hr : (execOp (ev n f) o).run P w = .ok (.value (.pointer (some ⟨w.heap.size, 0, none⟩))) { w with heap := w.heap.push (.cells cs.toArray t (0, 0)) } := by
    simp [execOp, hop, Instr.alloc, hz, newVar, newRow, newObj, Sem.run, e]
  unfold Oper.wp
  rw [Fr_eval, hr]
  simp only [Oper.upon, hd, Fr_put]
  exact hK _ _ (hS.alloc cs t)
theorem Ht.box {t : TypeId} {x : Operand} {cs : List Value} (hd : o.dst = some d) (hop : o.op = .box t x) (hx : ev n f x = v) (hcs : v.cells.toList = cs) :
    Ht P n (Mem w0 M L) f o (fun b => upd f d (.pointer (some ⟨b, 0, none⟩))) (fun b => Mem w0 M ((cb b (cs) t) :: L)) := fun w hS K hK => by
  have e : v.cells = cs.toArray := by rw [← hcs]
  have hr : (execOp (ev n f) o).run P w = .ok (.value (.pointer (some ⟨w.heap.size, 0, none⟩))) { w with heap := w.heap.push (.cells cs.toArray t (0, 0)) } := by
    simp [execOp, hop, hx, Instr.box, newVar, newRow, newObj, Sem.run, e]
  unfold Oper.wp
  rw [Fr_eval, hr]
  simp only [Oper.upon, hd, Fr_put]
  exact hK _ _ (hS.alloc cs t)
section
variable {ops : Array Oper} {rest : List Oper}
theorem Wl.box {t : TypeId} {x : Operand} {cs : List Value} (hg : o.guard = none) (hd : o.dst = some d) (hop : o.op = .box t x) (hx : ev n f x = v) (hcs : v.cells.toList = cs)
    (hr : ∀ b, Wl P ops Q rest n (upd f d (.pointer (some ⟨b, 0, none⟩))) (Mem w0 M ((cb b (cs) t) :: L))) : Wl P ops Q (o :: rest) n f (Mem w0 M L) := Wl.ht hg (Ht.box hd hop hx hcs) hr
theorem Wl.alloc {t : TypeId} {z : Value} {cs : List Value} (hg : o.guard = none) (hd : o.dst = some d) (hop : o.op = .alloc t) (hz : ∀ w, (zeroValue t).run P w = .ok z w) (hcs : z.cells.toList = cs)
    (hr : ∀ b, Wl P ops Q rest n (upd f d (.pointer (some ⟨b, 0, none⟩))) (Mem w0 M ((cb b (cs) t) :: L))) : Wl P ops Q (o :: rest) n f (Mem w0 M L) := Wl.ht hg (Ht.alloc hd hop hz hcs) hr
theorem Wl.store {t : TypeId} {x y : Operand} {b i o' : Nat} {cs : List Value} {ty : TypeId} {L' : List Blk} (hg : o.guard = none) (hd : o.dst = none) (hop : o.op = .store t x y) (hx : ev n f x = .pointer (some ⟨b, o', none⟩)) (hy : ev n f y = v)
    (hz : ∀ w, (sizeOf t).run P w = .ok 1 w) (hv : v.oneCell' = true) (hi : L[i]? = some (cb b cs ty)) (ho : o' < cs.length) (hL : L.set i (cb b (cs.set o' v) ty) = L')
    (hr : Wl P ops Q rest n f (Mem w0 M L')) : Wl P ops Q (o :: rest) n f (Mem w0 M L) := Wl.ht hg (Ht.store hd hop hx hy hz hv hi ho hL) (fun _ => hr)
theorem Wl.storeN {t : TypeId} {x y : Operand} {b i o' : Nat} {cs vs cs' : List Value} {ty : TypeId} {L' : List Blk} (hg : o.guard = none) (hd : o.dst = none) (hop : o.op = .store t x y) (hx : ev n f x = .pointer (some ⟨b, o', none⟩)) (hy : ev n f y = .agg vs.toArray)
    (hz : ∀ w, (sizeOf t).run P w = .ok vs.length w) (hv : ∀ v ∈ vs, v.oneCell' = true) (hi : L[i]? = some (cb b cs ty)) (ho : o' + vs.length ≤ cs.length) (hcs : putAt cs o' vs = cs') (hL : L.set i (cb b (cs') ty) = L')
    (hr : Wl P ops Q rest n f (Mem w0 M L')) : Wl P ops Q (o :: rest) n f (Mem w0 M L) := Wl.ht hg (Ht.storeN hd hop hx hy hz hv hi ho hcs hL) (fun _ => hr)
end
abbrev sit (b : Nat) (s : ByteArray) (pos : Nat) : Blk := ⟨b, .stringIter s pos⟩
section
variable {ops : Array Oper} {rest : List Oper}
theorem Wl.range {t : TypeId} {x : Operand} {s : ByteArray} (hg : o.guard = none) (hd : o.dst = some d) (hop : o.op = .range t x) (hx : ev n f x = .string s) (hu : ∀ w, (underlying t).run P w = .ok .string w)
    (hr : ∀ b, Wl P ops Q rest n (upd f d (.pointer (some ⟨b, 0, none⟩))) (Mem w0 M (sit b s 0 :: L))) : Wl P ops Q (o :: rest) n f (Mem w0 M L) := Wl.ht hg (fun w hS K hK => by
  have hr : (execOp (ev n f) o).run P w = .ok (.value (.pointer (some ⟨w.heap.size, 0, none⟩))) { w with heap := w.heap.push (.stringIter s 0) } := by
    simp [execOp, hop, hx, Instr.range, hu, newObj, Sem.run]
  unfold Oper.wp
  rw [Fr_eval, hr]
  simp only [Oper.upon, hd, Fr_put]
  exact hK _ _ (hS.allocO _)) hr
end
/-! ### Calls -/
def Ret (w : World) (v : Value) (e : Ending) (w' : World) : Prop := e = .returned v ∧ Below w.heap.size w w'
def RetM {β : Type} (w : World) (v : β → Value) (M : List Nat) (L : β → List Blk) (e : Ending) (w' : World) : Prop := ∃ g, e = .returned (v g) ∧ Mem w M (L g) w'
theorem Ys.call {k : FuncId} {args : Array Value} (h : ∀ w, (execOp (ev n f) o).run P w = .ok (.enter k args) w) (hc : ∀ w, Mem w0 M L w → Calls P k args w (Ret w v)) : Ys P n (Mem w0 M L) f o v := fun w hS K hK => by
  unfold Oper.wp
  rw [Fr_eval, h w]
  refine Calls.mono (hc w hS) ?_
  rintro e w' ⟨rfl, hb⟩
  exact hK _ (hS.ext hb)
theorem Ht.call {β : Type} {k : FuncId} {args : Array Value} {vf : β → Value} {Lf : β → List Blk} (hd : o.dst = some d) (h : ∀ w, (execOp (ev n f) o).run P w = .ok (.enter k args) w)
    (hc : ∀ w, Mem w0 M L w → Calls P k args w (fun e w' => ∃ g, e = .returned (vf g) ∧ Mem w0 M (Lf g) w')) : Ht P n (Mem w0 M L) f o (fun g => upd f d (vf g)) (fun g => Mem w0 M (Lf g)) := fun w hS K hK => by
  unfold Oper.wp
  rw [Fr_eval, h w]
  refine Calls.mono (hc w hS) ?_
  rintro e w' ⟨g, rfl, hm⟩
  simp only [hd, Fr_put]
  exact hK _ _ hm
/-! ### Entering and leaving -/
theorem calls_W {k : FuncId} {fn : Func} {c : Code} {args : Array Value} {R : Ending → World → Prop} (hf : P.funcs[k]? = some fn) (hb : fn.body = some c) (hn : fn.ntmps = n) (hl : args.size ≤ n)
    (hM : Mem w0 M L w0) (h : W P (bodyPost P fn R) c n (fun i => args.getD i undef) (Mem w0 M L)) : Calls P k args w0 R := by
  refine calls_of_wp hf hb ?_
  have e : ({ tmps := args ++ Array.replicate (fn.ntmps - args.size) undef, defers := [] } : Act) = Fr n (fun i => args.getD i undef) := by
    simp only [Fr, Act.mk.injEq, and_true]
    apply Array.ext
    · simp [hn]; omega
    · intro i h1 h2
      simp only [Array.size_ofFn] at h2
      rw [Array.getElem_ofFn]
      by_cases hi : i < args.size
      · rw [Array.getElem_append_left hi]; simp [Array.getD, hi]
      · rw [Array.getElem_append_right (by omega)]; simp [Array.getD, hi]
  rw [e]
  exact h w0 hM
def RV (P : Program) (S : World → Prop) (n : Nat) (f : Nat → Value) : ResultVar → Value → Prop
  | .tmp t, v => ev n f (.tmp t) = v
  | .cell a t, v => ∃ adr, ev n f (.tmp a) = .pointer (some adr) ∧ ∀ w, S w → (loadVar t adr).run P w = .ok v w
theorem getD_Fr (t : Nat) : (Fr n f).tmps.getD t undef = ev n f (.tmp t) := by
  have := congrFun (Fr_eval n f) (.tmp t)
  exact this
def readRV : ResultVar → Array Value → Sem Value
  | .tmp t, tmps => pure (tmps.getD t undef)
  | .cell a t, tmps => do loadVar t (← asAddr (tmps.getD a undef))
theorem run_readRV {r : ResultVar} {w : World} (hS : S w) (h : RV P S n f r v) : (readRV r (Fr n f).tmps).run P w = .ok v w := by
  cases r with
  | tmp t => simp only [readRV, getD_Fr]; rw [show ev n f (.tmp t) = v from h]; rfl
  | cell a t =>
    obtain ⟨adr, ha, hl⟩ := h
    simp only [readRV, getD_Fr, ha, Sem.run_bind]
    simp [asAddr, hl w hS]
theorem results_eq (fn : Func) (tmps : Array Value) : results fn tmps = (do
    let vs ← fn.results.mapM fun r => readRV r tmps
    pure (if h : vs.size = 1 then vs[0] else .tuple vs)) := by
  unfold results
  congr 2
  funext r
  cases r <;> rfl
theorem ret1 {fn : Func} {R : Ending → World → Prop} {r : ResultVar} {w : World} (hres : fn.results = #[r]) (hv : RV P S n f r v) (hS : S w) (hR : R (.returned v) w) : bodyPost P fn R .ret (Fr n f) w := by
  refine ⟨rfl, v, ?_, hR⟩
  rw [results_eq]
  simp [hres, run_readRV hS hv]
theorem ret2 {fn : Func} {R : Ending → World → Prop} {r1 r2 : ResultVar} {v1 v2 : Value} {w : World} (hres : fn.results = #[r1, r2]) (hv1 : RV P S n f r1 v1) (hv2 : RV P S n f r2 v2) (hS : S w) (hR : R (.returned (.tuple #[v1, v2])) w) : bodyPost P fn R .ret (Fr n f) w := by
  refine ⟨rfl, _, ?_, hR⟩
  rw [results_eq]
  simp [hres, run_readRV hS hv1, run_readRV hS hv2]
theorem ret0 {fn : Func} {R : Ending → World → Prop} {w : World} (hres : fn.results = #[]) (hR : R (.returned (.tuple #[])) w) : bodyPost P fn R .ret (Fr n f) w := by
  refine ⟨rfl, _, ?_, hR⟩
  rw [results_eq]
  simp [hres]
theorem RV.tmp {t : Nat} (h : ev n f (.tmp t) = v) : RV P S n f (.tmp t) v := h
theorem RV.cell1 {t : TypeId} {a b i o' : Nat} {cs : List Value} {ty : TypeId} (hx : ev n f (.tmp a) = .pointer (some ⟨b, o', none⟩)) (ht : ∀ w, (isAgg t).run P w = .ok false w) (hi : L[i]? = some (cb b cs ty)) (hv : cs[o']? = some v) :
    RV P (Mem w0 M L) n f (.cell a t) v := ⟨_, hx, fun _ hS => run_loadVar1 ht (hS.cell hi hv)⟩
theorem RV.cellN {t : TypeId} {a b i o' sz : Nat} {cs vs : List Value} {ty : TypeId} (hx : ev n f (.tmp a) = .pointer (some ⟨b, o', none⟩)) (ht : ∀ w, (isAgg t).run P w = .ok true w) (hz : ∀ w, (sizeOf t).run P w = .ok sz w)
    (hi : L[i]? = some (cb b cs ty)) (hv : (cs.drop o').take sz = vs) (hl : vs.length = sz) : RV P (Mem w0 M L) n f (.cell a t) (.agg vs.toArray) := ⟨_, hx, fun _ hS => run_loadVarN ht (by rw [hl]; exact hz) (hS.cells hi hv)⟩
end
end Go.Proofs.Ytjkhmbigoloeiaa.Obase
/-! ### Numbers -/
namespace Go.Proofs.Ytjkhmbigoloeiaa.Obase
def iadd (k : IntKind) (a b : Int) : Int := k.wrap (a + b)
def isub (k : IntKind) (a b : Int) : Int := k.wrap (a - b)
def imul (k : IntKind) (a b : Int) : Int := k.wrap (a * b)
def band (k : IntKind) (a b : Int) : Int := k.wrap ((BitVec.ofInt k.bits a &&& BitVec.ofInt k.bits b).toNat)
def bor (k : IntKind) (a b : Int) : Int := k.wrap ((BitVec.ofInt k.bits a ||| BitVec.ofInt k.bits b).toNat)
def bxor (k : IntKind) (a b : Int) : Int := k.wrap ((BitVec.ofInt k.bits a ^^^ BitVec.ofInt k.bits b).toNat)
def bandn (k : IntKind) (a b : Int) : Int := k.wrap ((BitVec.ofInt k.bits a &&& ~~~ BitVec.ofInt k.bits b).toNat)
def ishl (k : IntKind) (a b : Int) : Int := k.wrap (a * 2 ^ (min b.toNat k.bits))
def ishr (k : IntKind) (a b : Int) : Int := a.fdiv (2 ^ (min b.toNat k.bits))
def iquo (k : IntKind) (a b : Int) : Int := k.wrap (a.tdiv b)
def irem (a b : Int) : Int := a.tmod b
def icnv (k : IntKind) (a : Int) : Int := k.wrap a
def imin (a b : Int) : Int := if b < a then b else a
def imax (a b : Int) : Int := if b > a then b else a
theorem wrap_i64 {x : Int} (h1 : -9223372036854775808 ≤ x) (h2 : x ≤ 9223372036854775807) : IntKind.i64.wrap x = x := by
  simp only [IntKind.wrap, IntKind.bits, IntKind.signed, Bool.true_and, Nat.reduceSub, Int.reducePow]
  by_cases h : x % 18446744073709551616 ≥ 9223372036854775808
  · rw [if_pos (by simpa using h)]; omega
  · rw [if_neg (by simpa using h)]; omega
theorem imin_bd (a b : Int) : imin a b ≤ a ∧ imin a b ≤ b ∧ (imin a b = a ∨ imin a b = b) := by unfold imin; split <;> omega
theorem imax_bd (a b : Int) : a ≤ imax a b ∧ b ≤ imax a b ∧ (imax a b = a ∨ imax a b = b) := by unfold imax; split <;> omega
theorem iadd_eq {a b c : Int} (h : a + b = c) (h1 : -9223372036854775808 ≤ c) (h2 : c ≤ 9223372036854775807) : iadd .i64 a b = c := by unfold iadd; rw [h, wrap_i64 h1 h2]
theorem isub_eq {a b c : Int} (h : a - b = c) (h1 : -9223372036854775808 ≤ c) (h2 : c ≤ 9223372036854775807) : isub .i64 a b = c := by unfold isub; rw [h, wrap_i64 h1 h2]
theorem wrap_u {k : IntKind} {x : Int} (hs : k.signed = false) (h1 : 0 ≤ x) (h2 : x < 2 ^ k.bits) : k.wrap x = x := by
  simp only [IntKind.wrap, hs, Bool.false_and, Bool.false_eq_true, if_false]
  exact Int.emod_eq_of_lt h1 h2
theorem wrap_u32 {x : Int} (h1 : 0 ≤ x) (h2 : x < 4294967296) : IntKind.u32.wrap x = x := wrap_u rfl h1 (by simpa [IntKind.bits] using h2)
theorem wrap_u64 {x : Int} (h1 : 0 ≤ x) (h2 : x < 18446744073709551616) : IntKind.u64.wrap x = x := wrap_u rfl h1 (by simpa [IntKind.bits] using h2)
section
variable {P : Program} {S : World → Prop} {n : Nat} {f : Nat → Value} {o : Oper} {v : Value}
theorem int_congr {k : IntKind} {a b : Int} (h : a = b) : Value.int k a = Value.int k b := by rw [h]
theorem bool_congr {a b : Bool} (h : a = b) : Value.bool a = Value.bool b := by rw [h]
theorem Ys.shr {t ty : TypeId} {x y : Operand} {k k' : IntKind} {a b : Int} (hop : o.op = .binOp .shr t x y ty) (hx : ev n f x = .int k a) (hy : ev n f y = .int k' b) (h : 0 ≤ b) : Ys P n S f o (.int k (ishr k a b)) := Ys.pure fun w => by
  simp only [execOp, hop, hx, hy]
  have e : (eqGuard .shr t x y (.int k a) (.int k' b)).run P w = .ok () w := rfl
  rw [Sem.run_bind, Sem.run_bind, e]
  simp [binOp, Op.shift, Int.not_lt.2 h, ishr]
def byt (s : ByteArray) (k : Nat) : Int := ((s[k]?).getD 0).toNat
theorem Ys.indexStr {t : TypeId} {x ix : Operand} {k : IntKind} {s : ByteArray} {i : Int} (hop : o.op = .index t x ix) (hx : ev n f x = .string s) (hi : ev n f ix = .int k i) (hu : ∀ w, (underlying t).run P w = .ok .string w) (h0 : 0 ≤ i) (h1 : i < s.size) :
    Ys P n S f o (.int .u8 (byt s i.toNat)) := Ys.pure fun w => by
  have hlt : i.toNat < s.size := by omega
  simp [execOp, hop, hx, hi, Instr.index, asIntOf, hu, h0, byt, hlt]
theorem lz {x : Value} {g : Bool} {v u : Value} (h : g = true) (e : x = (bif g then v else u)) : x = v := by rw [e, h]; rfl
theorem Ys.at {t : Nat} {v0 : Value} (h : f t = v0) (hy : Ys P n S (upd f t v0) o v) : Ys P n S f o v := by rwa [upd_self h] at hy
theorem wantT {ops : Array Oper} {j : Nat} {e : Bool} (hg : o.guard = some (j, true)) (h : yl ops n f j = some e) : Region.wanted o (yl ops n f) = e := by
  rw [wanted_of_yl hg h]; cases e <;> rfl
theorem wantF {ops : Array Oper} {j : Nat} {e : Bool} (hg : o.guard = some (j, false)) (h : yl ops n f j = some e) : Region.wanted o (yl ops n f) = !e := by
  rw [wanted_of_yl hg h]; cases e <;> rfl
theorem wantTz {ops : Array Oper} {j t : Nat} {g e : Bool} (hg : o.guard = some (j, true)) (hd : (ops[j]?).bind (·.dst) = some t) (h : ev n f (.tmp t) = (bif g then .bool e else undef)) : Region.wanted o (yl ops n f) = (g && e) := by
  cases g <;> simp [Region.wanted, hg, yl, hd, h, undef]
theorem wantFz {ops : Array Oper} {j t : Nat} {g e : Bool} (hg : o.guard = some (j, false)) (hd : (ops[j]?).bind (·.dst) = some t) (h : ev n f (.tmp t) = (bif g then .bool e else undef)) : Region.wanted o (yl ops n f) = (g && !e) := by
  cases g <;> simp [Region.wanted, hg, yl, hd, h, undef]
theorem Ys.or' {c x y : Operand} {e b : Bool} (hop : o.op = .pick c x y) (hc : ev n f c = .bool e) (hx : ev n f x = .bool true) (hy : ev n f y = bif (!e) then .bool b else undef) : Ys P n S f o (.bool (e || b)) :=
  (Ys.pick hop hc).conseq (by cases e <;> simp [hx, hy])
end
end Go.Proofs.Ytjkhmbigoloeiaa.Obase
attribute [irreducible] Go.Proofs.Ytjkhmbigoloeiaa.Obase.Ys Go.Proofs.Ytjkhmbigoloeiaa.Obase.Ht Go.Proofs.Ytjkhmbigoloeiaa.Obase.Wl Go.Proofs.Ytjkhmbigoloeiaa.Obase.Wt Go.Proofs.Ytjkhmbigoloeiaa.Obase.W
