import Derived.Test.YtjkhmbigoloeiaaJVI
import Derived.LoopNIn
set_option linter.unusedVariables false
set_option linter.unusedSimpArgs false
namespace Go.Proofs.Ytjkhmbigoloeiaa.Base
section
variable {r : Option Nat} {P : Program} {Q : Exit → Act → World → Prop} {S : World → Prop} {n : Nat} {ds : List Deferred} {f : Nat → Value}
def Wr (r : Option Nat) (P : Program) (Q : Exit → Act → World → Prop) (c : Code) (m : Nat) (n : Nat) (ds : List Deferred) (f : Nat → Value) (S : World → Prop) : Prop := ∀ w, S w → Code.roundsIn (fence r) 0 P c Q m (Fr n ds f) w
theorem W.rounds {c : Code} (m : Nat) (h : Wr r P Q c m n ds f S) : W r P Q (.loop c) n ds f S := fun w hS => wpIn_loop_rounds m (h w hS)
theorem Wr.step {c : Code} {m : Nat} (h : ∀ K : Act → World → Prop, (∀ ds f' (S' : World → Prop), Wr r P Q c m n ds f' S' → ∀ w, S' w → K (Fr n ds f') w) → W r P (Exit.then K Q) c n ds f S) : Wr r P Q c (m + 1) n ds f S := fun w hS => by
  rw [roundsIn_succ]
  exact h _ (fun ds f' S' hW w' hw' => hW w' hw') w hS
end
end Go.Proofs.Ytjkhmbigoloeiaa.Base
