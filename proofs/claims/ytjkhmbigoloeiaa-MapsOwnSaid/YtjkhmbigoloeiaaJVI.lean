import Derived.Test.YtjkhmbigoloeiaaJVH
set_option linter.unusedVariables false
set_option linter.unusedSimpArgs false
namespace Go.Proofs.Ytjkhmbigoloeiaa.Base
open Go.RowKit
section
variable {P : Program} {n : Nat} {S : World → Prop} {f : Nat → Value} {r : Option Nat} {ops : Array Oper} {K : Act → World → Prop} {ds : List Deferred}
theorem Wl.at {l : List Oper} (t : Nat) {v0 : Value} (h : f t = v0) (hr : Wl r P ops K l n ds (upd f t v0) S) : Wl r P ops K l n ds f S := by rwa [upd_self h] at hr
theorem Wl.split {l : List Oper} (e : Bool) (h1 : e = true → Wl r P ops K l n ds f S) (h2 : e = false → Wl r P ops K l n ds f S) : Wl r P ops K l n ds f S := by
  cases e
  · exact h2 rfl
  · exact h1 rfl
theorem Wd.at {T : World → Prop} {A : List Nat} {pl : List (Nat × Bool)} (t : Nat) {v0 : Value} (h : f t = v0) (hr : Wd P ops K S A pl n ds (upd f t v0) T) : Wd P ops K S A pl n ds f T := by rwa [upd_self h] at hr
theorem Wd.split {T : World → Prop} {A : List Nat} {pl : List (Nat × Bool)} (e : Bool) (h1 : e = true → Wd P ops K S A pl n ds f T) (h2 : e = false → Wd P ops K S A pl n ds f T) : Wd P ops K S A pl n ds f T := by
  cases e
  · exact h2 rfl
  · exact h1 rfl
theorem Wa.lets {γ : Type} {w0 : World} {M : List Nat} {T : World → Prop} {A : List Nat} {k : Nat} {listed : Array Bool} (ks : List Nat) (vs : γ → List Value) (Φ : γ → Prop) (Lf : γ → List (List Blk)) (k' : Nat) (listed' : Array Bool)
    (hJ : ∀ g, Φ g → ∀ f', Wa P ops K S A k' listed' n ds (upds (ks.zip (vs g)) f') (Mem w0 M (Lf g)))
    (hr : (∀ g, Φ g → ∀ f', Wa P ops K S A k' listed' n ds (upds (ks.zip (vs g)) f') (Mem w0 M (Lf g))) → Wa P ops K S A k listed n ds f T) : Wa P ops K S A k listed n ds f T := hr hJ
theorem Wa.join {T T' : World → Prop} {A : List Nat} {k : Nat} {listed : Array Bool} (ks : List Nat) (vs : List Value) (listed' : Array Bool) (h : ∀ f', Wa P ops K S A k listed' n ds (upds (ks.zip vs) f') T') (hl : ks.map f = vs) (he : listed = listed') (hT : ∀ w, T w → T' w) : Wa P ops K S A k listed n ds f T := by
  have h1 := h f
  rw [upds_holds (holds_of hl)] at h1
  rw [he]
  exact h1.conseq hT
theorem boolv {x : Value} {e b : Bool} (hx : x = .bool e) (h : e = b) : x = .bool b := by rw [hx, h]
end
end Go.Proofs.Ytjkhmbigoloeiaa.Base
