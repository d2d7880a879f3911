import Derived.StillTail
import Derived.OrdersIn
import Derived.RangeFuncIn
import Derived.RangeFuncLeaves
import Derived.RangeFuncRecord
import Derived.WalkKit
import Derived.KernelRfl
set_option linter.unusedVariables false
set_option linter.unusedSimpArgs false
namespace Go.Proofs.YtmonlaoaengfdaaGreatDoor.Base
open Go.RowKit
abbrev fence (r : Option Nat) : Fence := { Fence.wide with round := r }
def NoExit : Exit → Act → World → Prop := fun _ _ _ => False
def nodef (o : Oper) : Bool := match o.op with
  | .defer _ => false
  | _ => true
theorem nodef_spec {o : Oper} (h : nodef o = true) : ∀ c, o.op ≠ .defer c := fun c hc => by simp [nodef, hc] at h
theorem callsIn_of {P : Program} {f : FuncId} {args : Array Value} {w : World} {R : Ending → World → Prop} {r : Option Nat} {n : Nat} (h : Calls P f args w R) : CallsIn (fence r) n P f args w R := by
  have h1 : CallsIn Fence.wide n P f args w R := callsIn_wide.2 h
  cases r with
  | none => exact h1
  | some l => exact h1
theorem callsIn_to {P : Program} {f : FuncId} {args : Array Value} {w : World} {R : Ending → World → Prop} {r : Option Nat} {n : Nat} (h : CallsIn (fence r) n P f args w R) : Calls P f args w R := by
  have h1 : CallsIn Fence.wide n P f args w R := by
    cases r with
    | none => exact h
    | some l => exact h
  exact callsIn_wide.1 h1
theorem rowsIn_of {P : Program} {row : String} {args : Array Value} {w : World} {R : Value → World → Prop} {r : Option Nat} {n : Nat} (h : Rows P row args w R) : RowsIn (fence r) n P row args w R := fun c cs _ => by
  obtain ⟨v, w', hr, hs⟩ := h c cs
  have h2 : StepsIn (Machine.fenced P Fence.wide) P (lone (Frame.ofRow P row args .normal) (c :: cs) w) (lone (c.finish v) cs w') := stepsIn_wide.2 hs
  refine ⟨v, w', hr, ?_⟩
  cases r with
  | none => exact h2
  | some l => exact h2
theorem wpIn_of_wp {P : Program} {Q : Exit → Act → World → Prop} {r : Option Nat} {n : Nat} {o : Oper} {a : Act} {w : World} {K : Act → World → Prop} (hd : nodef o = true) (h : o.wp P a w K NoExit) : o.wpIn (fence r) n P a w K Q := by
  refine ⟨fun _ _ => trivial, ?_⟩
  have e : o.semAt (fence r).round a.eval = execOp a.eval o := Oper.semAt_eq _ _ _ (nodef_spec hd)
  rw [e]
  unfold Oper.wp at h
  generalize (execOp a.eval o).run P w = r' at *
  cases r' with
  | ok x w' =>
    cases x <;> simp only [Oper.upon] at h <;> simp only [Oper.uponIn]
    case value => exact h
    case skip => exact h
    case defer => exact h
    case enter =>
      refine ⟨fun h => (by cases h), callsIn_of (Calls.mono h fun e w'' he => ?_)⟩
      cases e with
      | returned v => exact he
      | panicked c => exact he.elim
      | outgrown => obtain ⟨_, _, he⟩ := he; exact he.elim
    case row => exact ⟨fun h => (by cases h), rowsIn_of h⟩
    all_goals exact h.elim
  | halt x w' =>
    cases x <;> simp only [Oper.upon] at h
    all_goals exact h.elim
theorem wpIn_noExit {P : Program} {Q : Exit → Act → World → Prop} {r : Option Nat} {n : Nat} {o : Oper} {a : Act} {w : World} {K : Act → World → Prop} (h : o.wpIn (fence r) n P a w K NoExit) : o.wpIn (fence r) n P a w K Q := by
  refine ⟨fun _ _ => trivial, ?_⟩
  have h := h.2
  generalize (o.semAt (fence r).round a.eval).run P w = r' at *
  cases r' with
  | ok x w' =>
    cases x <;> simp only [Oper.uponIn] at h ⊢
    case value => exact h
    case skip => exact h
    case defer => exact h
    case enter =>
      refine ⟨h.1, CallsIn.mono h.2 fun e w'' he => ?_⟩
      cases e with
      | returned v => exact he
      | panicked c => exact he.elim
      | outgrown => obtain ⟨_, _, he⟩ := he; exact he.elim
    case row => exact h
    case round =>
      refine ⟨h.1, RoundIn.mono h.2 fun e w'' he => ?_⟩
      cases e with
      | returned v => exact he
      | panicked c => exact he.elim
      | outgrown => obtain ⟨_, _, he⟩ := he; exact he.elim
  | halt x w' =>
    cases x <;> simp only [Oper.uponIn] at h ⊢
    all_goals exact h.elim
def wl (r : Option Nat) (P : Program) (ops : Array Oper) (K : Act → World → Prop) : List Oper → Act → World → Prop
  | [], a, w => K a w
  | o :: l, a, w => if Region.wanted o (yielded ops a.tmps) then o.wpIn (fence r) 0 P a w (wl r P ops K l) NoExit else wl r P ops K l (a.put o.dst undef) w
theorem wl_in {r : Option Nat} {P : Program} {ops : Array Oper} {K : Act → World → Prop} {Q : Exit → Act → World → Prop} (hK : ∀ a w, K a w → Q .normal a w) : ∀ (l : List Oper) (k : Nat) (a : Act) (w : World), (∀ j, l[j]? = ops[k + j]? ∨ l.length ≤ j) → wl r P ops K l a w → wpOpsIn (fence r) 0 P ops Q (List.range' k l.length) a w
  | [], k, a, w, _, h => by simpa [wpOpsIn] using hK a w h
  | o :: l, k, a, w, hg, h => by
    have h0 : ops[k]? = some o := by
      rcases hg 0 with e | e
      · simpa using e.symm
      · simp at e
    have ih := fun a w => wl_in (r := r) (P := P) hK l (k + 1) a w (fun j => by
      rcases hg (j + 1) with e | e
      · left; rw [← show (o :: l)[j + 1]? = l[j]? from rfl, e]; congr 1; omega
      · right; simpa using e)
    simp only [List.length_cons, List.range'_succ, wpOpsIn, h0]
    simp only [wl] at h
    split at h
    · rename_i hw
      rw [if_pos hw]
      exact Oper.wpIn_mono ih (wpIn_noExit h)
    · rename_i hw
      rw [if_neg hw]
      exact ⟨fun _ _ => trivial, ih _ _ h⟩
section
variable {P : Program} {ops : Array Oper} {Q : Exit → Act → World → Prop} {md : Region.Mode} {S : World → Prop} {r : Option Nat} {K : Act → World → Prop}
def YieldsR (P : Program) (ops : Array Oper) (S : World → Prop) (o : Oper) (v : Value) (a : Act) : Prop :=
  (Region.wanted o (yielded ops a.tmps) = true ∧ ∀ w, S w → (execOp a.eval o).run P w = .ok (.value v) w) ∨
  (Region.wanted o (yielded ops a.tmps) = false ∧ v = undef)
theorem YieldsR.wpOp {i : Nat} {o : Oper} {v : Value} {a : Act} (hi : ops[i]? = some o) (hy : YieldsR P ops S o v a)
    {K : Act → World → Prop} {w : World} (hS : S w) (h : K (a.put o.dst v) w) : wpOp P ops Q i K a w := by
  unfold Go.wpOp
  simp only [hi]
  rcases hy with ⟨hw, hv⟩ | ⟨hw, rfl⟩
  · simp only [hw, if_true]; refine .inl ?_; unfold Oper.wp; rw [hv w hS]; exact h
  · simp only [hw, Bool.false_eq_true, if_false]; exact h
theorem YieldsR.put {oi oj : Oper} {v : Value} {a : Act} (hap : oi.apart ops oj = true) (hsi : ∀ cs b, oi.op ≠ .select cs b) (hy : YieldsR P ops S oi v a) (u : Value) :
    YieldsR P ops S oi v (a.put oj.dst u) := by
  obtain ⟨h1, h2, h3⟩ := Oper.apart_spec hap
  unfold YieldsR at *
  rw [wanted_put oi a oj.dst u h3, execOp_put oi hsi a oj.dst u h3]
  exact hy
theorem YieldsR.defers {o : Oper} {v : Value} {a : Act} (d : Deferred) (hy : YieldsR P ops S o v a) : YieldsR P ops S o v { a with defers := d :: a.defers } := hy
theorem wpOp_putY {j : Nat} {oi oj : Oper} {v : Value} {Y : Act → Prop} (hj : ops[j]? = some oj) (hap : oi.apart ops oj = true)
    (hsj : ∀ cs b, oj.op ≠ .select cs b) {K : Act → World → Prop} {a : Act} {w : World}
    (hyp : ∀ a u, Y a → Y (a.put oj.dst u)) (hyd : ∀ (a : Act) (d : Deferred), Y a → Y { a with defers := d :: a.defers }) (hy : Y a) (h : wpOp P ops NoExit j K (a.put oi.dst v) w) :
    wpOp P ops Q j (fun a' w' => Y a' ∧ K (a'.put oi.dst v) w') a w := by
  obtain ⟨h1, h2, h3⟩ := Oper.apart_spec hap
  unfold wpOp at *
  simp only [hj] at *
  rw [wanted_put oj a oi.dst v h1] at h
  split
  · rename_i hw
    simp only [hw, if_true] at h
    rcases h with h | ⟨_, _, _, hlets⟩
    case inr => exact hlets.elim
    refine .inl ?_
    unfold Oper.wp at *
    rw [execOp_put oj hsj a oi.dst v h1] at h
    generalize (execOp a.eval oj).run P w = r at *
    cases r with
    | ok n w' =>
      cases n <;> simp only [Oper.upon] at h ⊢
      case value u => exact ⟨hyp _ u hy, by rw [← Act.put_comm a v u h2]; exact h⟩
      case skip => exact ⟨hyp _ _ hy, by rw [← Act.put_comm a v undef h2]; exact h⟩
      case defer d =>
        refine ⟨hyp _ _ (hyd _ d hy), ?_⟩
        rw [← Act.put_comm _ v undef h2, ← Act.put_defers]
        exact h
      case enter f args =>
        refine Calls.mono h fun e w'' he => ?_
        cases e with
        | returned u => exact ⟨hyp _ u hy, by rw [← Act.put_comm a v u h2]; exact he⟩
        | panicked c => exact he.elim
        | outgrown => obtain ⟨_, _, he⟩ := he; exact he.elim
      case row row args => exact Rows.mono h fun u w'' he => ⟨hyp _ u hy, by rw [← Act.put_comm a v u h2]; exact he⟩
    | halt x w' =>
      cases x <;> simp only [Oper.upon] at h ⊢
      case panic u => exact h.elim
  · rename_i hw
    simp only [hw] at h
    exact ⟨hyp _ _ hy, by rw [← Act.put_comm a v undef h2]; exact h⟩
def nodefs (ops : Array Oper) : Bool := ops.all nodef
theorem nodefs_spec {i : Nat} {o : Oper} (h : nodefs ops = true) (hi : ops[i]? = some o) : nodef o = true := by
  obtain ⟨hl, e⟩ := Array.getElem?_eq_some_iff.1 hi
  have h2 := Array.all_eq_true.1 h i hl
  rw [e] at h2
  exact h2
theorem wpOpIn_of {i : Nat} {K : Act → World → Prop} {a : Act} {w : World} (hd : nodefs ops = true) (h : wpOp P ops NoExit i K a w) : wpOpIn (fence r) 0 P ops Q i K a w := by
  unfold wpOp at h
  unfold wpOpIn
  split
  · rename_i ho; simpa [ho] using h
  · rename_i o ho
    simp only [ho] at h
    split
    · rename_i hw
      simp only [hw, if_true] at h
      rcases h with h | ⟨_, _, _, hlets⟩
      · exact wpIn_of_wp (nodefs_spec hd ho) h
      · exact hlets.elim
    · rename_i hw; simp only [hw] at h; exact ⟨fun _ _ => trivial, by simpa using h⟩
def waits (md : Region.Mode) (ops : Array Oper) (A : List Nat) (j : Nat) : Bool := A.all fun i => match ops[j]? with
  | some oj => oj.after.any fun e => Region.binds md e && e.on == i
  | none => false
theorem waits_not {A : List Nat} {i j : Nat} {oj : Oper} (hi : i ∈ A) (hj : ops[j]? = some oj) (hn : ∀ e ∈ oj.after, Region.binds md e = true → e.on ≠ i) : waits md ops A j ≠ true := fun h => by
  have := List.all_eq_true.1 h i hi
  rw [hj] at this
  simp only [Array.any_eq_true, Bool.and_eq_true, beq_iff_eq] at this
  obtain ⟨q, hq, hb, he⟩ := this
  exact hn _ (Array.getElem_mem hq) hb he
def wpAnyS (P : Program) (md : Region.Mode) (ops : Array Oper) (K : Act → World → Prop) (S : World → Prop) (A : List Nat) : Nat → Array Bool → Act → World → Prop
  | 0, listed, a, w => Region.ready md ops listed = [] ∧ K a w
  | f + 1, listed, a, w => (Region.ready md ops listed = [] → K a w) ∧
    ∀ i ∈ Region.ready md ops listed, wpOp P ops NoExit i (fun a' w' => (waits md ops A i = true ∨ S w') ∧ wpAnyS P md ops K S A f (listed.setIfInBounds i true) a' w') a w
theorem wpAnyS_in {A : List Nat} (hd : nodefs ops = true) (hK : ∀ a w, K a w → Q .normal a w) : ∀ (f : Nat) (listed : Array Bool) (a : Act) (w : World), wpAnyS P md ops K S A f listed a w → wpAnyIn (fence r) 0 P md ops Q f listed a w
  | 0, listed, a, w, h => ⟨h.1, hK _ _ h.2⟩
  | f + 1, listed, a, w, h => ⟨fun h0 => hK _ _ (h.1 h0), fun i hi => wpOpIn_mono (fun a' w' h' => wpAnyS_in hd hK f _ a' w' h'.2) (wpOpIn_of hd (h.2 i hi))⟩
theorem wpAnyS_first {A : List Nat} {i : Nat} {oi : Oper} {v : Value} (hA : i ∈ A) (hi : ops[i]? = some oi) (hsel : ∀ (j : Nat) (o : Oper) cs b, ops[j]? = some o → o.op ≠ .select cs b) :
    ∀ (f : Nat) (listed : Array Bool) (a : Act) (w : World),
      (∀ j oj, ops[j]? = some oj → j ≠ i → listed.getD j true = false → (∀ e ∈ oj.after, Region.binds md e = true → e.on ≠ i) → oi.apart ops oj = true) →
      i ∈ Region.ready md ops listed → YieldsR P ops S oi v a → S w →
      wpAnyS P md ops K S A f (listed.setIfInBounds i true) (a.put oi.dst v) w → wpAnyS P md ops K S A (f + 1) listed a w := by
  intro f
  induction f with
  | zero =>
    intro listed a w _ hr hy hS H
    refine ⟨fun h => (by rw [h] at hr; cases hr), fun j hj => ?_⟩
    by_cases hji : j = i
    · subst hji; exact hy.wpOp hi hS ⟨.inr hS, H⟩
    · have := ready_mono hj hji
      rw [H.1] at this
      cases this
  | succ f ih =>
    intro listed a w hfree hr hy hS H
    refine ⟨fun h => (by rw [h] at hr; cases hr), fun j hj => ?_⟩
    by_cases hji : j = i
    · subst hji; exact hy.wpOp hi hS ⟨.inr hS, H⟩
    · have hun := (mem_ready.1 hr).1
      have h1 := H.2 j (ready_mono hj hji)
      obtain ⟨hjun, oj, hoj, hall⟩ := mem_ready.1 hj
      have hnot : ∀ e ∈ oj.after, Region.binds md e = true → e.on ≠ i := fun e he hb heq => by
        have h1 := hall e he hb
        rw [heq] at h1
        rcases Nat.lt_or_ge i listed.size with h' | h'
        · simp [h'] at hun h1; rw [hun] at h1; cases h1
        · simp [Array.getElem?_eq_none h'] at h1
      have hw := waits_not (md := md) hA hoj hnot
      have hap := hfree j oj hoj hji hjun hnot
      have h2 := wpOp_putY (Q := NoExit) (Y := YieldsR P ops S oi v) hoj hap (fun cs b => hsel j oj cs b hoj) (fun a u hy => hy.put hap (fun cs b => hsel i oi cs b hi) u) (fun a d hy => hy.defers d) hy h1
      have hfree' : ∀ k ok, ops[k]? = some ok → k ≠ i → (listed.setIfInBounds j true).getD k true = false →
          (∀ e ∈ ok.after, Region.binds md e = true → e.on ≠ i) → oi.apart ops ok = true := fun k ok hk hki hun hno => by
        refine hfree k ok hk hki ?_ hno
        by_cases hjk : j = k
        · subst hjk; exact hjun
        · rw [getD_set_ne true hjk] at hun; exact hun
      refine wpOp_mono (fun a' w' h3 => ⟨h3.2.1, ih (listed.setIfInBounds j true) a' w' hfree' (ready_mono hr (Ne.symm hji)) h3.1 (h3.2.1.resolve_left hw) ?_⟩) h2
      rw [Array.setIfInBounds_comm _ _ hji]
      exact h3.2.2
def planB (md : Region.Mode) (ops : Array Oper) (A : List Nat) : Array Bool → List (Nat × Bool) → Bool
  | listed, [] => (Region.ready md ops listed).isEmpty
  | listed, (i, true) :: l => A.contains i && (Region.ready md ops listed).contains i && Region.free md ops listed i && planB md ops A (listed.setIfInBounds i true) l
  | listed, (i, false) :: l => (Region.ready md ops listed == [i]) && (!waits md ops A i || l.all (fun p => !p.2)) && planB md ops A (listed.setIfInBounds i true) l
def wd (P : Program) (md : Region.Mode) (ops : Array Oper) (K : Act → World → Prop) (S : World → Prop) (A : List Nat) : List (Nat × Bool) → Act → World → Prop
  | [], a, w => K a w
  | (i, true) :: l, a, w => ∃ o v, ops[i]? = some o ∧ YieldsR P ops S o v a ∧ wd P md ops K S A l (a.put o.dst v) w
  | (i, false) :: l, a, w => wpOp P ops NoExit i (fun a' w' => (waits md ops A i = true ∨ S w') ∧ wd P md ops K S A l a' w') a w
theorem wd_sound {A : List Nat} (hsel : Region.noSelect ops = true) : ∀ (l : List (Nat × Bool)) (listed : Array Bool) (a : Act) (w : World), planB md ops A listed l = true → (S w ∨ l.all (fun p => !p.2) = true) → wd P md ops K S A l a w → wpAnyS P md ops K S A l.length listed a w
  | [], listed, a, w, hp, hS, h => by
    simp only [planB, List.isEmpty_iff] at hp
    exact ⟨hp, h⟩
  | (i, true) :: l, listed, a, w, hp, hS, h => by
    simp only [planB, Bool.and_eq_true] at hp
    obtain ⟨o, v, ho, hy, hw⟩ := h
    have hS : S w := hS.resolve_right (by simp)
    exact wpAnyS_first (by simpa using hp.1.1.1) ho (Region.noSelect_spec hsel) l.length listed a w (Region.free_spec ho hp.1.2) (by simpa using hp.1.1.2) hy hS (wd_sound hsel l _ _ w hp.2 (.inl hS) hw)
  | (i, false) :: l, listed, a, w, hp, hS, h => by
    simp only [planB, Bool.and_eq_true, beq_iff_eq] at hp
    refine ⟨fun h0 => (by rw [hp.1.1] at h0; cases h0), fun j hj => ?_⟩
    rw [hp.1.1] at hj
    obtain rfl : j = i := by simpa using hj
    refine wpOp_mono (fun a' w' h' => ⟨h'.1, wd_sound hsel l _ a' w' hp.2 ?_ h'.2⟩) h
    rcases h'.1 with hw | hw
    · right; have h3 := hp.1.2; rw [hw] at h3; simpa using h3
    · exact .inl hw
theorem wp_region_plan {id : Nat} {l : List Oper} {a : Act} {w : World} (pl : List (Nat × Bool)) (A : List Nat) (S : World → Prop) (hm : P.follows .mixedOrders = true) (hd : nodefs l.toArray = true) (hsel : Region.noSelect l.toArray = true)
    (hl : pl.length = l.length) (hp : planB .any l.toArray A (Array.replicate l.length false) pl = true) (hK : ∀ a w, K a w → Q .normal a w) (hS : S { w with drawn := w.drawn + 1 })
    (h : wd P .any l.toArray K S A pl a { w with drawn := w.drawn + 1 }) : (Code.region id l.toArray true).wpIn (fence r) 0 P Q a w := by
  refine wpIn_region_any hm ?_
  have h1 := wpAnyS_in (r := r) (Q := Q) hd hK _ _ _ _ (wd_sound (md := .any) hsel pl (Array.replicate l.length false) a _ hp (.inl hS) h)
  rw [hl] at h1
  simpa using h1
end
abbrev nV (k : IntKind) (n : Nat) : Value := .int k ((n : Nat) : Int)
abbrev iV (k : IntKind) (n : Int) : Value := .int k n
abbrev bV (b : Bool) : Value := .bool b
abbrev pV (b o : Nat) : Value := .pointer (some ⟨b, o, none⟩)
abbrev aV (l : List Value) : Value := .agg l.toArray
theorem zA : (∀ a b : Bool, ((a && b) = true) = (a = true ∧ b = true)) ∧ (∀ a b : Bool, ((a || b) = true) = (a = true ∨ b = true)) ∧ (∀ b : Bool, ((!b) = true) = (b = false)) ∧ (∀ b : Bool, ((!b) = false) = (b = true)) ∧ (∀ a b : Bool, ((a && b) = false) ↔ (a = false ∨ b = false)) ∧ (∀ a b : Bool, ((a || b) = false) ↔ (a = false ∧ b = false)) ∧ (∀ (p : Prop) [Decidable p], (decide p = true) = p) ∧ (∀ (p : Prop) [Decidable p], decide p = false ↔ ¬p)
  ∧ (∀ (α : Type) [BEq α] [LawfulBEq α] (a b : α), ((a == b) = true) ↔ a = b) ∧ (∀ (α : Type) [BEq α] [LawfulBEq α] (a b : α), ((a != b) = true) ↔ a ≠ b) ∧ (∀ (α : Type) [BEq α] [LawfulBEq α] (a b : α), ((a == b) = false) ↔ a ≠ b) ∧ (∀ (α : Type) [BEq α] [LawfulBEq α] (a b : α), ((a != b) = false) ↔ a = b) :=
  ⟨Bool.and_eq_true, Bool.or_eq_true, Bool.not_eq_true', Bool.not_eq_false', fun _ _ => Bool.and_eq_false_iff, fun _ _ => Bool.or_eq_false_iff, fun _ _ => decide_eq_true_eq, fun _ _ => decide_eq_false_iff_not, fun _ _ _ _ _ => beq_iff_eq, fun _ _ _ _ _ => bne_iff_ne, fun _ _ _ _ _ => beq_eq_false_iff_ne, fun _ _ _ _ _ => bne_eq_false_iff_eq⟩
theorem kr.{u} {α : Sort u} {a b : α} (h : a = b := by kernel_rfl) : a = b := h
theorem om {p : Prop} (h : p := by omega) : p := h
theorem de {p : Prop} (h : p := by decide) : p := h
theorem sp {p : Prop} (h : p := by simp) : p := h
theorem ma0 {p : Prop} (h : p := by kernel_rfl) : p := h
theorem ma1 {p : Prop} (h : p := by omega) : p := h
theorem ma2 {p : Prop} (h : p := by decide) : p := h
theorem ma3 {p : Prop} (h : p := by first | rfl | (rw [mc_len, List.length_take]; omega) | (rw [mc_len, List.length_take, List.length_drop]; omega) | (simp [mc, be_len]; done) | (simp [mc, be_len]; omega)) : p := h
theorem ma4 {p : Prop} (h : p := by first | rfl | (rw [mc_len, List.length_take]; omega) | (rw [mc_len, List.length_take, List.length_drop]; omega) | (simp [mc, be_len, psh_len]; done) | (simp [mc, be_len, psh_len]; omega)) : p := h
theorem ma5 {p : Prop} (h : p := by first | omega | (simp; done) | (simp; omega)) : p := h
theorem ma6 {p : Prop} (h : p := by simp) : p := h
theorem ma7 {p : Prop} (h : p := by simp [Value.oneCell']) : p := h
theorem ma8 {p : Prop} (h : p := by simp only [maxLen]; first | omega | (simp; done) | (simp; omega)) : p := h
theorem ma9 {p : Prop} (h : p := by rw [(show (cs.drop (i * 6)).length = (n - i) * 6 by rw [List.length_drop, hcs]; omega)]; (try simp only [List.length_append, List.length_take]); omega) : p := h
theorem ma10 {p : Prop} (h : p := by rw [hnl]; (try simp only [List.length_append, List.length_take]); omega) : p := h
theorem ma11 {p : Prop} (h : p := by first | omega | (simp; omega)) : p := h
theorem ma12 {p : Prop} (h : p := by first | omega | (simp; done)) : p := h
theorem ma13 {p : Prop} (h : p := by first | omega | (simp [be_len, be_len, psh_len]; done) | (simp [be_len, be_len, psh_len]; omega)) : p := h
theorem ma14 {p : Prop} (h : p := by rw [mc_len]; first | omega | (simp; omega)) : p := h
theorem ma15 {p : Prop} (h : p := by first | (simp only [mc_len]; omega) | (simp only [mc_len, List.length_append, List.length_take, List.length_drop]; omega) | (simp [mc, be_len]; try omega)) : p := h
theorem ma16 {p : Prop} (h : p := by rw [(show (cs.drop (i * 5)).length = (n - i) * 5 by rw [List.length_drop, hcs]; omega)]; (try simp only [List.length_append, List.length_take]); omega) : p := h
theorem ma17 {p : Prop} (h : p := by rw [(show (cs.drop (i * 2)).length = (n - i) * 2 by rw [List.length_drop, hcs]; omega)]; (try simp only [List.length_append, List.length_take]); omega) : p := h
theorem ma18 {p : Prop} (h : p := by show _ < 18446744073709551616; omega) : p := h
theorem ma19 {p : Prop} (h : p := by first | rfl | omega | (rw [List.length_take]; omega) | (simp; done) | (simp [be_len, be_len, psh_len]; omega)) : p := h
theorem ma20 {p : Prop} (h : p := by simp [mc, be_len, psh_len]; try omega) : p := h
theorem ma21 {p : Prop} (h : p := by rw [mc_len, be_len, Nat.mul_one]; try rfl) : p := h
theorem ma22 {p : Prop} (h : p := by show min _ _ = _; omega) : p := h
theorem ma23 {p : Prop} (h : p := by first | (simp; done) | (simp; omega)) : p := h
theorem ma24 {p : Prop} (h : p := by unfold bnd; first | rw [if_pos (by omega)] | rw [if_neg (by omega), if_pos (by omega)] | rw [if_neg (by omega), if_neg (by omega)]) : p := h
theorem ma25 {p : Prop} (h : p := by rw [List.length_drop, hc, Nat.sub_mul]; omega) : p := h
theorem ma26 {p : Prop} (h : p := by first | rfl | (simp [be_len, be_len, psh_len]; done) | (simp [be_len, be_len, psh_len]; omega)) : p := h
theorem ma27 {p : Prop} (h : p := by show _ < 65536; omega) : p := h
theorem ma28 {p : Prop} (h : p := by rw [FS.a_own (FS.notnil ok (by omega))]; rfl) : p := h
theorem ma29 {p : Prop} (h : p := by first | omega | trivial | simp) : p := h
abbrev zl0 : List Value := [iV .u8 0, iV .u8 0, iV .u16 0, iV .u32 0, iV .u32 0, Value.slice none 0 0]
abbrev zl1 : List Value := [iV .u8 0, iV .u32 0, iV .u32 0, iV .u16 0, iV .u16 0]
abbrev zl2 : List Value := [iV .u16 0, iV .u16 0, bV false, Value.slice none 0 0]
abbrev zl3 : List Value := [Value.pointer none]
abbrev zl4 : List Value := [iV .u8 0, iV .u16 0, iV .u16 0, iV .u32 0]
abbrev zl5 : List Value := [iV .u16 0, iV .i64 0]
abbrev zl6 : List Value := [iV .u8 0, iV .u16 0, iV .u16 0, iV .u32 0, iV .u32 0]
abbrev zl7 : List Value := [iV .u8 0, iV .u32 0, iV .u16 0]
abbrev zl8 : List Value := [iV .u8 0, iV .u32 0, iV .u32 0, iV .u16 0, iV .u16 0, Value.pointer none]
abbrev zl9 : List Value := [iV .i64 0]
abbrev zl10 : List Value := [Value.slice none 0 0]
abbrev zl11 : List Value := [iV .u8 0, iV .u8 0]
abbrev zl12 : List Value := [iV .u8 0, iV .u32 0, iV .u16 0, iV .u16 0, iV .i64 0]
end Go.Proofs.YtmonlaoaengfdaaGreatDoor.Base
