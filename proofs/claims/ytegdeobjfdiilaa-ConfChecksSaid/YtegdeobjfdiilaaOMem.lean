/-
  Slices: what is cut from them, and memory made for them. No condition.
-/
import Derived.Test.YtegdeobjfdiilaaOArgs
set_option linter.unusedVariables false
set_option linter.unusedSimpArgs false
namespace Go.Proofs.Ytegdeobjfdiilaa.Obase
theorem adr_add0 (a : Addr) : a.add 0 = a := by
  unfold Addr.add
  split <;> simp_all
theorem adr_own (b i j : Nat) : ((((some (⟨b, 0, none⟩ : Addr)).getD default).add i).add j) = ⟨b, i + j, none⟩ := by
  simp only [Option.getD_some, Addr.add]
  by_cases h1 : i = 0 <;> by_cases h2 : j = 0 <;> simp [h1, h2]
theorem map_add0 (a : Option Addr) : a.map (fun x => x.add 0) = a := by cases a <;> simp [adr_add0]
section
variable {P : Program} {S : World → Prop} {n : Nat} {f : Nat → Value} {o : Oper} {w0 : World} {M : List Nat} {L : List Blk}
theorem Ys.slice0 {t e : TypeId} {x h : Operand} {a : Option Addr} {len cap sz : Nat} {k : IntKind} {i : Int} (hop : o.op = .slice t x none (some h) none) (hx : ev n f x = .slice a len cap) (hi : ev n f h = .int k i)
    (hu : ∀ w, (underlying t).run P w = .ok (.slice e) w) (hz : ∀ w, (sizeOf e).run P w = .ok sz w) (h0 : 0 ≤ i) (h1 : i ≤ cap) : Ys P n S f o (.slice a i.toNat cap) := Ys.pure fun w => by
  simp [execOp, hop, hx, hi, Instr.sliceAt, Instr.slice, hu, Instr.sliceBounds, Instr.sliceBound, asIntOf, h0, h1, hz, map_add0]
variable {Q : Exit → Act → World → Prop} {ops : Array Oper} {rest : List Oper} {d : Nat}
/-- An operation that makes one block of cells and leaves what tells of it. -/
theorem Ht.made {mk : Nat → Value} {t : TypeId} {cs : List Value} (hd : o.dst = some d)
    (hr : ∀ w, (execOp (ev n f) o).run P w = .ok (.value (mk w.heap.size)) { w with heap := w.heap.push (.cells cs.toArray t (0, 0)) }) :
    Ht P n (Mem w0 M L) f o (fun b => upd f d (mk b)) (fun b => Mem w0 M ((cb b (cs) t) :: L)) := by
  unfold Ht
  intro w hS K hK
  unfold Oper.wp
  rw [Fr_eval, hr]
  simp only [Oper.upon, hd, Fr_put]
  exact hK _ _ (hS.alloc cs t)
theorem Wl.made (mk : Nat → Value) {t : TypeId} {cs : List Value} (hg : o.guard = none) (hd : o.dst = some d)
    (hr : ∀ w, (execOp (ev n f) o).run P w = .ok (.value (mk w.heap.size)) { w with heap := w.heap.push (.cells cs.toArray t (0, 0)) })
    (hw : ∀ b, Wl P ops Q rest n (upd f d (mk b)) (Mem w0 M ((cb b (cs) t) :: L))) : Wl P ops Q (o :: rest) n f (Mem w0 M L) := Wl.ht hg (Ht.made hd hr) hw
theorem Sl.own {w : World} {i b len sz : Nat} {cs : List Value} {t : TypeId} {g : Nat → List Value} (h : Mem w0 M L w) (hi : L[i]? = some (cb b cs t))
    (hg : ∀ i, i < len → ∀ j v, (g i)[j]? = some v → cs[i * sz + j]? = some v) : Sl w (some ⟨b, 0, none⟩) len sz g where
  here := fun _ => rfl
  lt := fun _ => h.lt (List.mem_of_getElem? hi)
  cell := fun i hi' j v hj => by
    have e := h.cell hi (hg i hi' j v hj)
    rw [adr_own]; exact e
end
end Go.Proofs.Ytegdeobjfdiilaa.Obase
