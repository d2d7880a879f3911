import Derived.Test.YtjkhmbigoloeiaaJVD
import Derived.Lib.MakeNoZero
set_option linter.unusedVariables false
set_option linter.unusedSimpArgs false
namespace Go.Proofs.Ytjkhmbigoloeiaa.Base
theorem ishr_nat {k : IntKind} (a c : Nat) (hc : c ≤ k.bits) : ishr k ((a : Nat) : Int) ((c : Nat) : Int) = ((a / 2 ^ c : Nat) : Int) := by
  unfold ishr
  rw [Int.toNat_natCast, Nat.min_eq_left hc, Int.fdiv_eq_ediv_of_nonneg _ (by exact Int.pow_nonneg (by decide))]
  rw [Int.natCast_ediv, Int.natCast_pow]
  rfl
theorem wrap_nat {k : IntKind} (hs : k.signed = false) (a : Nat) : k.wrap ((a : Nat) : Int) = ((a % 2 ^ k.bits : Nat) : Int) := by
  simp only [IntKind.wrap, hs, Bool.false_and, Bool.false_eq_true, if_false]
  rw [Int.natCast_emod, Int.natCast_pow]
  rfl
theorem iadd_natu {k : IntKind} {a b : Nat} (hs : k.signed = false) (h : a + b < 2 ^ k.bits) : iadd k ((a : Nat) : Int) ((b : Nat) : Int) = ((a + b : Nat) : Int) := by
  unfold iadd
  rw [← Int.natCast_add, wrap_nat hs, Nat.mod_eq_of_lt h]
theorem icnv_mod {k : IntKind} (hs : k.signed = false) (a : Nat) : icnv k ((a : Nat) : Int) = ((a % 2 ^ k.bits : Nat) : Int) := by
  unfold icnv; exact wrap_nat hs a
theorem bv_nat (m a : Nat) : (BitVec.ofInt m ((a : Nat) : Int)).toNat = a % 2 ^ m := by
  rw [BitVec.ofInt_natCast, BitVec.toNat_ofNat]
theorem Mem.push {w0 w : World} {M : List Nat} {LL : List (List Blk)} (h : Mem w0 M LL w) : Mem w0 M ([] :: LL) w := h
theorem Wl.push {r : Option Nat} {P : Program} {ops : Array Oper} {K : Act → World → Prop} {l : List Oper} {n : Nat} {ds : List Deferred} {f : Nat → Value} {w0 : World} {M : List Nat} {LL : List (List Blk)} (h : Wl r P ops K l n ds f (Mem w0 M ([] :: LL))) : Wl r P ops K l n ds f (Mem w0 M LL) := Wl.conseq (fun _ h => h) h
/-! ### Views -/
section
variable {w0 w : World} {M : List Nat} {LL : List (List Blk)} {a a' a'' : Option Addr}
theorem At.mem' {cs : List Value} (h : At w0 a cs) (hm : Mem w0 M LL w) (hM : 0 < cs.length → (a.getD default).block ∉ M) : At w a cs := h.of_block fun h0 => Mem0.same hm _ (h.lt h0) (hM h0)
theorem At.ne {α : Type} {g : α → Value} {xs : List α} {cs : List Value} {b : Nat} {t : TypeId} {fz : Nat × Nat} (h : At w a (mc g xs)) (hb : w.heap[b]? = some (.cells cs.toArray t fz)) (hd : ∀ v ∈ cs, ∀ x, v ≠ g x) (h0 : 0 < (mc g xs).length) : (a.getD default).block ≠ b := fun e => by
  rw [mc_len] at h0
  have hx : (mc g xs)[0]? = some (g xs[0]) := by simp [mc, h0]
  have h1 := h.cell 0 _ hx
  unfold World.cell? at h1
  rw [add_block, e, hb] at h1
  simp only at h1
  split at h1
  · cases h1
  · have h2 : cs[((a.getD default).add 0).off]? = some (g xs[0]) := by simpa using h1
    exact hd _ (List.mem_of_getElem? h2) _ rfl
def View (a' : Option Addr) (zs : List UInt8) (a : Option Addr) (ys : List UInt8) : Prop := ∀ w, At w a (byc ys) → At w a' (byc zs)
theorem View.refl (a : Option Addr) (ys : List UInt8) : View a ys a ys := fun _ h => h
theorem View.trans {zs ys xs : List UInt8} (h : View a'' zs a' ys) (k : View a' ys a xs) : View a'' zs a xs := fun w hw => h w (k w hw)
theorem View.nil (a' a : Option Addr) (ys : List UInt8) : View a' [] a ys := fun w _ => At.nil w a'
theorem View.drop {ys : List UInt8} (cap k : Nat) (h : ys.length ≤ cap) : View (sla a cap k 1) (ys.drop k) a ys := fun w hw => hw.mdrop cap k h
end
theorem Mem.one {w0 w : World} {M : List Nat} {LL : List (List Blk)} {i : Nat} {s : List Blk} (h : Mem w0 M LL w) (hi : LL[i]? = some s) : Mem w (s.map (·.b)) [s] w := by
  have h1 : Mem w0 M ([s] ++ []) w := h.pick [i] (by simp) (by simp [pickL, hi])
  have h2 := h1.local
  simpa using h2
/-! ### New bytes, whatever they are -/
structure MZ where
  b : Nat
  zs : List UInt8
end Go.Proofs.Ytjkhmbigoloeiaa.Base
