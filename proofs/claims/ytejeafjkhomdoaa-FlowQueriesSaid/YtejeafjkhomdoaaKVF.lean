import Derived.Test.YtejeafjkhomdoaaKVE
import Derived.ProofKit
import Derived.OpenShut
import Derived.ChangeArms
import Derived.Deep.Slices
import Derived.ShutString
import Derived.ChangeOld
set_option linter.unusedVariables false
set_option linter.unusedSimpArgs false
namespace Go.Proofs.Ytejeafjkhomdoaa.Base
open Go.RowKit
inductive Leaf where
  | int (k : IntKind)
  | bool
  | string
  | slice (e : TypeId)
def F2 {α β : Type} (R : α → β → Prop) : List α → List β → Prop
  | [], [] => True
  | a :: as, b :: bs => R a b ∧ F2 R as bs
  | _, _ => False
theorem F2.append {α β : Type} {R : α → β → Prop} : ∀ {a : List α} {b : List β} {a' : List α} {b' : List β}, F2 R a b → F2 R a' b' → F2 R (a ++ a') (b ++ b')
  | [], [], _, _, _, h => h
  | _ :: _, _ :: _, _, _, h1, h2 => ⟨h1.1, F2.append h1.2 h2⟩
  | [], _ :: _, _, _, h, _ => h.elim
  | _ :: _, [], _, _, h, _ => h.elim
def flatFields (r : TypeId → Option (List Leaf)) (P : Program) (total : Nat) : List Field → Nat → Option (List Leaf)
  | [], off => if off = total then some [] else none
  | f :: fs, off => if f.offset = off then (r f.type).bind fun a => if a.length = P.cellsOf f.type then (flatFields r P total fs (off + a.length)).map (a ++ ·) else none else none
def flat (P : Program) : Nat → TypeId → Option (List Leaf)
  | 0, _ => none
  | k + 1, t => match P.underlying t with
    | some .bool => some [.bool]
    | some (.int k) => some [.int k]
    | some .string => some [.string]
    | some (.slice e) => some [.slice e]
    | some (.struct fs) => flatFields (flat P k) P (P.cellsOf t) fs.toList 0
    | some (.array n e) => (flat P k e).bind fun a => if a.length = P.cellsOf e ∧ n * a.length = P.cellsOf t then some (List.replicate n a).flatten else none
    | _ => none
section
variable {H : Type} (enc : TypeId × Value → H) (P : Program) (w : World) (base : Nat) (spare : Nat → Bool) (held : Bool)
variable {enc P w base spare held}
end
end Go.Proofs.Ytejeafjkhomdoaa.Base
