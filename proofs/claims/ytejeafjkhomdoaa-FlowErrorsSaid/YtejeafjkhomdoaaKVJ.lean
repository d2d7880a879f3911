import Derived.Test.YtejeafjkhomdoaaKVI
set_option linter.unusedVariables false
set_option linter.unusedSimpArgs false
namespace Go.Proofs.Ytejeafjkhomdoaa.Base
open Go.RowKit
section
variable {P : Program} {n : Nat} {f : Nat → Value} {o : Oper} {v : Value} {d : Nat} {w0 w : World} {M : List Nat} {LL LL' : List (List Blk)} {s : List Blk} {i j b : Nat}
abbrev cz (b : Nat) (cs : List Value) (t : TypeId) : Blk := ⟨b, .cells cs.toArray t (cs.length, cs.length + 1)⟩
theorem At.cz {cs : List Value} {t : TypeId} (hm : Mem w0 M LL w) (hi : LL[i]? = some s) (hj : s[j]? = some (cz b cs t)) : At w (some ⟨b, 0, none⟩) cs := by
  have hb := hm.at hi hj
  refine ⟨fun _ => rfl, fun q v hv => ?_⟩
  simp only [Option.getD_some]
  rw [add_lit, Nat.zero_add]
  simp only at hb
  simp [World.cell?, hb, hv]
theorem Ht.stringish {t e ty : TypeId} {x : Operand} {len cap : Nat} {cs : List Value} (hd : o.dst = some d) (hop : o.op = .convert t t x) (hx : ev n f x = .slice (some ⟨b, 0, none⟩) len cap) (ht : P.underlying t = some (.slice e)) (he : P.underlying e = some (.int .u8))
    (hi : LL[i]? = some s) (hj : s[j]? = some (cb b cs ty)) (hL : LL.set i (s.set j (cz b cs ty)) = LL') :
    Ht (β := Unit) P n (Mem w0 M LL) f o (fun _ => upd f d (.slice (some ⟨b, 0, none⟩) len cap)) (fun _ => Mem w0 M LL') := fun ds w hS K hK => by
  have hb := hS.at hi hj
  simp only at hb
  have hsh : w.shape? b = some (ty, cs.length) := by unfold World.shape?; rw [hb]; simp
  have h1 : (execOp (ev n f) o).run P w = .ok (.value (.slice (some ⟨b, 0, none⟩) len cap)) (w.freeze ⟨b, cs.length, none⟩ 1) := by
    simp [execOp, hop, hx, convert, run_underlying ht, run_underlying he, markStringish, hsh]
  have hm : Mem w0 M LL' (w.freeze ⟨b, cs.length, none⟩ 1) := by
    subst hL
    obtain ⟨k, hk, hset⟩ := seg_flat LL i j s _ hi hj
    unfold Mem
    rw [hset]
    refine Mem0.putO hS hk rfl rfl rfl (by simp [World.freeze]) (fun k' _ hk' => ?_) ?_
    · simp only [World.freeze, if_neg (show ¬ (1 : Nat) = 0 by decide), Array.getElem?_modify]; rw [if_neg (by omega)]
    · simp only [World.freeze, if_neg (show ¬ (1 : Nat) = 0 by decide), Array.getElem?_modify, if_true, hb]
      simp
  unfold Oper.wp
  rw [Fr_eval, h1]
  simp only [Oper.upon, hd, Fr_put]
  exact hK () _ hm
end
end Go.Proofs.Ytejeafjkhomdoaa.Base
