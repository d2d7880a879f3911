/-
  How the arguments of a law are opened: a value of a type made of numbers, bools, strings, slices, structs and arrays is a row of such cells. No condition.
-/
import Derived.Test.YtjkhmbigoloeiaaJOBase
import Derived.ProofKit
import Derived.OpenShut
import Derived.ChangeArms
import Derived.Deep.Slices
import Derived.ShutString
import Derived.ChangeOld
set_option linter.unusedVariables false
set_option linter.unusedSimpArgs false
namespace Go.Proofs.Ytjkhmbigoloeiaa.Obase
open Go.RowKit
inductive Leaf where
  | int (k : IntKind)
  | bool
  | string
  | slice (e : TypeId)
def F2 {α β : Type} (R : α → β → Prop) : List α → List β → Prop
  | [], [] => True
  | a :: as, b :: bs => R a b ∧ F2 R as bs
  | _, _ => False
theorem F2.append {α β : Type} {R : α → β → Prop} : ∀ {a : List α} {b : List β} {a' : List α} {b' : List β}, F2 R a b → F2 R a' b' → F2 R (a ++ a') (b ++ b')
  | [], [], _, _, _, h => h
  | _ :: _, _ :: _, _, _, h1, h2 => ⟨h1.1, F2.append h1.2 h2⟩
  | [], _ :: _, _, _, h, _ => h.elim
  | _ :: _, [], _, _, h, _ => h.elim
def flatFields (r : TypeId → Option (List Leaf)) (P : Program) (total : Nat) : List Field → Nat → Option (List Leaf)
  | [], off => if off = total then some [] else none
  | f :: fs, off => if f.offset = off then (r f.type).bind fun a => if a.length = P.cellsOf f.type then (flatFields r P total fs (off + a.length)).map (a ++ ·) else none else none
def flat (P : Program) : Nat → TypeId → Option (List Leaf)
  | 0, _ => none
  | k + 1, t => match P.underlying t with
    | some .bool => some [.bool]
    | some (.int k) => some [.int k]
    | some .string => some [.string]
    | some (.slice e) => some [.slice e]
    | some (.struct fs) => flatFields (flat P k) P (P.cellsOf t) fs.toList 0
    | some (.array n e) => (flat P k e).bind fun a => if a.length = P.cellsOf e ∧ n * a.length = P.cellsOf t then some (List.replicate n a).flatten else none
    | _ => none
section
variable {H : Type} (enc : TypeId × Value → H) (P : Program) (w : World) (base : Nat) (spare : Nat → Bool) (held : Bool)
def leafOK : Leaf → Value → Prop
  | .int k, v => ∃ n, v = .int k n ∧ (Lit.int k n).wf = true
  | .bool, v => ∃ b, v = .bool b
  | .string, v => ∃ s : ByteArray, v = .string s ∧ s.size ≤ maxLen
  | .slice e, v => ∃ a len cap, v = .slice a len cap ∧ len ≤ cap ∧ cap ≤ maxLen ∧ (0 < cap → ∃ adr, a = some adr) ∧ ∀ adr, a = some adr → ∀ i, i < len →
      ∃ cs m x, w.cells? base (adr.add (i * P.cellsOf e)) (P.cellsOf e) = some cs ∧ DataW.trod enc P w base spare held m e cs = some x
variable {enc P w base spare held}
theorem fields_ok {r : TypeId → Option (List Leaf)} {total m : Nat} {cs : List Value} (hr : ∀ t ls, r t = some ls → ∀ cs x, DataW.trod enc P w base spare held m t cs = some x → F2 (leafOK enc P w base spare held) ls cs)
    (hc : cs.length = total) : ∀ (fs : List Field) (off : Nat) (ls : List Leaf), flatFields r P total fs off = some ls →
    (∀ f ∈ fs, ∃ x, DataW.trod enc P w base spare held m f.type ((cs.drop f.offset).take (P.cellsOf f.type)) = some x) → F2 (leafOK enc P w base spare held) ls (cs.drop off)
  | [], off, ls, h, _ => by
    simp only [flatFields] at h
    split at h
    · rename_i ho
      obtain rfl := Option.some.inj h
      rw [ho, ← hc, List.drop_length]
      trivial
    · cases h
  | f :: fs, off, ls, h, hx => by
    simp only [flatFields] at h
    split at h
    · rename_i ho
      obtain ⟨a, ha, h⟩ := Option.bind_eq_some_iff.1 h
      split at h
      · rename_i hl
        obtain ⟨ls', h', rfl⟩ := Option.map_eq_some_iff.1 h
        obtain ⟨x, hxx⟩ := hx f (List.mem_cons_self ..)
        have h1 := hr f.type a ha _ x hxx
        have h2 := fields_ok hr hc fs _ ls' h' (fun g hg => hx g (List.mem_cons_of_mem _ hg))
        rw [ho, ← hl] at h1
        have e : cs.drop off = (cs.drop off).take a.length ++ cs.drop (off + a.length) := by
          rw [← List.drop_drop, List.take_append_drop]
        rw [e]
        exact h1.append h2
      · cases h
    · cases h
theorem reps_ok {a : List Leaf} {c m n : Nat} {e : TypeId} {cs : List Value} (hl : a.length = c) (hc : cs.length = n * c)
    (hx : ∀ i, i < n → ∃ x, DataW.trod enc P w base spare held m e ((cs.drop (i * c)).take c) = some x)
    (hr : ∀ cs x, DataW.trod enc P w base spare held m e cs = some x → F2 (leafOK enc P w base spare held) a cs) : ∀ (k i : Nat), i + k = n → F2 (leafOK enc P w base spare held) (List.replicate k a).flatten (cs.drop (i * c))
  | 0, i, h => by
    have : cs.drop (i * c) = [] := by
      apply List.drop_eq_nil_of_le
      rw [hc, show i = n by omega]
      exact Nat.le_refl _
    rw [this]
    simp [F2]
  | k + 1, i, h => by
    obtain ⟨x, hxx⟩ := hx i om
    have h1 := hr _ x hxx
    have h2 := reps_ok hl hc hx hr k (i + 1) om
    have e' : cs.drop (i * c) = (cs.drop (i * c)).take c ++ cs.drop ((i + 1) * c) := by
      rw [Nat.succ_mul, ← List.drop_drop, List.take_append_drop]
    rw [e', List.replicate_succ, List.flatten_cons]
    exact h1.append h2
theorem flat_ok : ∀ (k : Nat) (t : TypeId) (ls : List Leaf), flat P k t = some ls → ∀ (m : Nat) (cs : List Value) (x : DataW H × List MemPlace), DataW.trod enc P w base spare held m t cs = some x → F2 (leafOK enc P w base spare held) ls cs
  | 0, _, _, h => by simp [flat] at h
  | k + 1, t, ls, h => by
    intro m cs x hx
    simp only [flat] at h
    split at h
    · rename_i hu
      obtain rfl := Option.some.inj h
      obtain ⟨b, rfl, _⟩ := DataW.trod_bool hu hx
      exact ⟨⟨b, rfl⟩, trivial⟩
    · rename_i hu
      obtain rfl := Option.some.inj h
      obtain ⟨n, rfl, _, hw⟩ := DataW.trod_int hu hx
      exact ⟨⟨n, rfl, hw⟩, trivial⟩
    · rename_i hu
      obtain rfl := Option.some.inj h
      obtain ⟨s, rfl, _, hs⟩ := DataW.trod_string hu hx
      exact ⟨⟨s, rfl, hs⟩, trivial⟩
    · rename_i e hu
      obtain rfl := Option.some.inj h
      rcases DataW.trod_slice hu hx with ⟨rfl, _⟩ | ⟨a, len, cap, elems, rest, n, _, rfl, _, hb, hl, hm, hel, hall, _, _⟩
      · exact ⟨⟨none, 0, 0, rfl, Nat.le_refl _, Nat.zero_le _, fun h => absurd h (Nat.lt_irrefl _), fun _ h => by cases h⟩, trivial⟩
      · refine ⟨⟨some a, len, cap, rfl, hl, hm, fun _ => ⟨a, rfl⟩, fun adr had i hi => ?_⟩, trivial⟩
        obtain rfl := Option.some.inj had
        have h1 := hall i hi
        rw [List.getElem?_eq_getElem om] at h1
        obtain ⟨cs', h2, h3⟩ := Option.bind_eq_some_iff.1 h1
        exact ⟨cs', n, _, h2, h3⟩
    · rename_i fs hu
      obtain ⟨xs, n, _, _, hc, hlen, hall⟩ := DataW.trod_struct hu hx
      have := fields_ok (enc := enc) (w := w) (base := base) (spare := spare) (held := held) (m := n) (cs := cs) (fun t ls h cs x hx => flat_ok k t ls h n cs x hx) hc fs.toList 0 ls h (fun f hf => by
        obtain ⟨i, hi, rfl⟩ := List.getElem_of_mem hf
        have h1 := hall i fs.toList[i] (by simp at hi ⊢)
        simp only [Array.length_toList] at hi
        rw [List.getElem?_eq_getElem om] at h1
        exact ⟨_, h1⟩)
      simpa using this
    · rename_i n e hu
      obtain ⟨xs, m', _, _, hc, hlen, hall⟩ := DataW.trod_array hu hx
      obtain ⟨a, ha, h⟩ := Option.bind_eq_some_iff.1 h
      split at h
      · rename_i hl
        obtain rfl := Option.some.inj h
        have := reps_ok (enc := enc) (P := P) (w := w) (base := base) (spare := spare) (held := held) (a := a) (c := P.cellsOf e) (m := m') (n := n) (e := e) (cs := cs) hl.1 (by rw [hc, ← hl.2, hl.1]) (fun i hi => by
          have h1 := hall i hi
          rw [List.getElem?_eq_getElem om] at h1
          exact ⟨_, h1⟩) (fun cs x hx => flat_ok k e a ha m' cs x hx) n 0 om
        simpa using this
      · cases h
    · cases h
end
structure Sl (w : World) (a : Option Addr) (len sz : Nat) (g : Nat → List Value) : Prop where
  here : 0 < len → a = some (a.getD default)
  lt : 0 < len → (a.getD default).block < w.heap.size
  cell : ∀ i, i < len → ∀ j v, (g i)[j]? = some v → w.cell? (((a.getD default).add (i * sz)).add j) = some v
theorem cell_lt {w : World} {a : Addr} {v : Value} (h : w.cell? a = some v) : a.block < w.heap.size := by
 unfold World.cell? at h
 split at h
 ·rename_i hb
  exact (Array.getElem?_eq_some_iff.1 hb).1
 ·cases h
theorem add_block (a : Addr) (i : Nat) : (a.add i).block = a.block := by unfold Addr.add; split <;> rfl
theorem adr_lt {w : World} {a : Addr} (i : Nat) (_h0 : Unit) (h : a.block < w.heap.size) : (a.add i).block < w.heap.size := by rw [add_block]; exact h
theorem adr_lt2 {w : World} {a : Addr} (i j : Nat) (_h0 : Unit) (h : a.block < w.heap.size) : ((a.add i).add j).block < w.heap.size := by rw [add_block, add_block]; exact h
section
variable {P : Program} {S : World → Prop} {n : Nat} {f : Nat → Value} {o : Oper} {w0 : World} {M : List Nat} {L : List Blk}
theorem Ys.indexAddr {t e : TypeId} {x ix : Operand} {a : Option Addr} {len cap sz : Nat} {k : IntKind} {i : Int} {adr : Addr} (hop : o.op = .indexAddr t x ix) (hx : ev n f x = .slice a len cap) (hi : ev n f ix = .int k i)
    (hu : ∀ w, (underlying t).run P w = .ok (.slice e) w) (hz : ∀ w, (sizeOf e).run P w = .ok sz w) (ha : a = some adr) (h0 : 0 ≤ i) (h1 : i < len) : Ys P n S f o (.pointer (some (adr.add (i.toNat * sz)))) := Ys.pure fun w => by
  subst ha
  simp [execOp, hop, hx, hi, Instr.indexAt, asIntOf, hu, hz, h0, h1]
end
end Go.Proofs.Ytjkhmbigoloeiaa.Obase
namespace Go.Proofs.Ytjkhmbigoloeiaa.Obase
theorem F2_nil {α β : Type} {R : α → β → Prop} (l : List β) : F2 R [] l ↔ l = [] := by cases l <;> simp [F2]
theorem F2_cons {α β : Type} {R : α → β → Prop} (a : α) (as : List α) (l : List β) : F2 R (a :: as) l ↔ ∃ b bs, l = b :: bs ∧ R a b ∧ F2 R as bs := by
 cases l with
 | nil => simp [F2]
 | cons b bs =>
  refine ⟨fun h => ⟨b, bs, rfl, h.1, h.2⟩, ?_⟩
  rintro ⟨b', bs', e, h1, h2⟩
  obtain ⟨rfl, rfl⟩ := List.cons.inj e
  exact ⟨h1, h2⟩
end Go.Proofs.Ytjkhmbigoloeiaa.Obase
namespace Go.Proofs.Ytjkhmbigoloeiaa.Obase
theorem Sl.mem {w0 w : World} {L : List Blk} {a : Option Addr} {len sz : Nat} {g : Nat → List Value} (h : Sl w0 a len sz g) (hm : Mem w0 [] L w) : Sl w a len sz g where
  here := h.here
  lt := fun h0 => Nat.lt_of_lt_of_le (h.lt h0) hm.size
  cell := fun i hi j v hj => by rw [hm.cell_old (by rw [add_block, add_block]; exact h.lt om) sp]; exact h.cell i hi j v hj
end Go.Proofs.Ytjkhmbigoloeiaa.Obase
namespace Go.Proofs.Ytjkhmbigoloeiaa.Obase
theorem F2_un {α β : Type} {R : α → β → Prop} {a : α} {as : List α} {l : List β} (h : F2 R (a :: as) l) : ∃ b bs, l = b :: bs ∧ R a b ∧ F2 R as bs := (F2_cons a as l).1 h
theorem F2_un0 {α β : Type} {R : α → β → Prop} {l : List β} (h : F2 R [] l) : l = [] := (F2_nil l).1 h
end Go.Proofs.Ytjkhmbigoloeiaa.Obase
