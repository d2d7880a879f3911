import Derived.Test.YtgohlpdgeicncaaKVG
import Derived.Laws.StructEq
import Derived.ChangeKeysEq
set_option linter.unusedVariables false
set_option linter.unusedSimpArgs false
namespace Go.Proofs.Ytgohlpdgeicncaa.Base
open Go.RowKit
inductive Lf where
  | int (k : IntKind)
  | bool
  | string
theorem F2.length {α β : Type} {R : α → β → Prop} : ∀ {a : List α} {b : List β}, F2 R a b → a.length = b.length
  | [], [], _ => rfl
  | _ :: _, _ :: _, h => by simp [F2.length h.2]
  | [], _ :: _, h => h.elim
  | _ :: _, [], h => h.elim
theorem F2.split {α β : Type} {R : α → β → Prop} : ∀ {a a' : List α} {l : List β}, F2 R (a ++ a') l → F2 R a (l.take a.length) ∧ F2 R a' (l.drop a.length)
  | [], _, _, h => ⟨by simp [F2], by simpa using h⟩
  | x :: a, a', [], h => by simp [F2] at h
  | x :: a, a', y :: l, h => by
    have h2 : F2 R (a ++ a') l := h.2
    obtain ⟨i1, i2⟩ := F2.split h2
    exact ⟨⟨h.1, i1⟩, i2⟩
section
variable {P : Program}
variable {S : World → Prop} {n : Nat} {f : Nat → Value} {o : Oper} {b : Bool}
end
section
variable {S : World → Prop} {P : Program} {n : Nat} {f : Nat → Value} {o : Oper}
end
end Go.Proofs.Ytgohlpdgeicncaa.Base
