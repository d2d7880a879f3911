import Derived.Test.YtgohlpdgeicncaaKVH
set_option linter.unusedVariables false
set_option linter.unusedSimpArgs false
namespace Go.Proofs.Ytgohlpdgeicncaa.Base
open Go.RowKit
section
variable {P : Program} {n : Nat} {S : World → Prop} {f : Nat → Value} {r : Option Nat} {ops : Array Oper} {K : Act → World → Prop} {ds : List Deferred}
theorem Wl.at {l : List Oper} (t : Nat) {v0 : Value} (h : f t = v0) (hr : Wl r P ops K l n ds (upd f t v0) S) : Wl r P ops K l n ds f S := by rwa [upd_self h] at hr
theorem Wl.split {l : List Oper} (e : Bool) (h1 : e = true → Wl r P ops K l n ds f S) (h2 : e = false → Wl r P ops K l n ds f S) : Wl r P ops K l n ds f S := by
  cases e
  · exact h2 rfl
  · exact h1 rfl
theorem Wd.at {T : World → Prop} {A : List Nat} {pl : List (Nat × Bool)} (t : Nat) {v0 : Value} (h : f t = v0) (hr : Wd P ops K S A pl n ds (upd f t v0) T) : Wd P ops K S A pl n ds f T := by rwa [upd_self h] at hr
theorem Wd.split {T : World → Prop} {A : List Nat} {pl : List (Nat × Bool)} (e : Bool) (h1 : e = true → Wd P ops K S A pl n ds f T) (h2 : e = false → Wd P ops K S A pl n ds f T) : Wd P ops K S A pl n ds f T := by
  cases e
  · exact h2 rfl
  · exact h1 rfl
end
end Go.Proofs.Ytgohlpdgeicncaa.Base
