import Derived.Test.YtjkhmbigoloeiaaJVI
import Derived.Lib.Overlaps
set_option linter.unusedVariables false
set_option linter.unusedSimpArgs false
namespace Go.Proofs.Ytjkhmbigoloeiaa.Base
open Go.RowKit
section
variable {r : Option Nat} {P : Program} {ops : Array Oper} {Q : Exit → Act → World → Prop} {K : Act → World → Prop} {S : World → Prop} {n : Nat} {ds : List Deferred} {f : Nat → Value} {o : Oper} {rest : List Oper} {v : Value} {d : Nat} {w0 w : World} {M : List Nat} {LL LL' : List (List Blk)} {s s' : List Blk} {i j i' j' b b' : Nat} {a : Option Addr} {cs cs' : List Value}
theorem Ys.sliceLHM {t e : TypeId} {x l h m : Operand} {len cap sz : Nat} {k k' k'' : IntKind} {i j q : Int} (hop : o.op = .slice t x (some l) (some h) (some m)) (hx : ev n f x = .slice a len cap) (hi : ev n f l = .int k i) (hj : ev n f h = .int k' j) (hq : ev n f m = .int k'' q)
    (hu : ∀ w, (underlying t).run P w = .ok (.slice e) w) (hz : ∀ w, (sizeOf e).run P w = .ok sz w) (h0 : 0 ≤ i) (h1 : i ≤ j) (h2 : j ≤ q) (h3 : q ≤ cap) : Ys P n S f o (.slice (sla a q.toNat i.toNat sz) (j.toNat - i.toNat) (q.toNat - i.toNat)) := Ys.pure fun w => by
  obtain ⟨j, rfl⟩ := Int.eq_ofNat_of_zero_le (show 0 ≤ j by omega)
  obtain ⟨q, rfl⟩ := Int.eq_ofNat_of_zero_le (show 0 ≤ q by omega)
  have h2' : j ≤ q := by omega
  have h3' : q ≤ cap := by omega
  simp [execOp, hop, hx, hi, hj, hq, Instr.sliceAt, Instr.slice, hu, Instr.sliceBounds, Instr.sliceBound, asIntOf, h0, h1, h2', h3', hz, sla]
theorem sla_some {b cap k sz : Nat} (h : k < cap) : sla (some ⟨b, 0, none⟩) cap k sz = some ⟨b, k * sz, none⟩ := by
  unfold sla; rw [if_neg (by omega)]; simp [add_lit]
theorem At.dropN {w : World} {a : Option Addr} {cs : List Value} (h : At w a cs) {cap k sz : Nat} (hk : k < cap) : At w (sla a cap k sz) (cs.drop (k * sz)) := by
  unfold sla; rw [if_neg (by omega)]
  have := h.sub (k * sz) cs.length
  rwa [List.take_of_length_le (by simp)] at this
theorem At.dropT {w : World} {a : Option Addr} {cs : List Value} (h : At w a cs) {cap k m sz : Nat} (hk : k < cap ∨ m = 0) : At w (sla a cap k sz) ((cs.drop (k * sz)).take (m * sz)) := by
  rcases hk with hk | rfl
  · exact (h.dropN hk).take _
  · rw [Nat.zero_mul, List.take_zero]; exact At.nil _ _
theorem Mem.shape (h : Mem w0 M LL w) {t : TypeId} (hi : LL[i]? = some s) (hj : s[j]? = some (cb b cs t)) : w.shape? b = some (t, cs.length) := by
  have := h.at hi hj
  simp only at this
  simp [World.shape?, this]
theorem Mem.apart (h : Mem w0 M LL w) (hi : LL[i]? = some s) (hi' : LL[i']? = some s') {p p' : Blk} (hne : i ≠ i') (hj : s[j]? = some p) (hj' : s'[j']? = some p') : p.b ≠ p'.b := by
  have hn := (nodup_segs.1 (Mem0.nodup h)).2
  have := apart_at hn hne
  rw [hi, hi'] at this
  exact this p (List.mem_of_getElem? hj) p' (List.mem_of_getElem? hj')
theorem Ys.overlaps {k : FuncId} {fn : Func} {tS tR e : TypeId} {sz la ca lb cp o1 o2 : Nat} {t t' : TypeId} (hd : ∀ w, (execOp (ev n f) o).run P w = (callFunc k #[.slice (some ⟨b, o1, none⟩) la ca, .slice (some ⟨b', o2, none⟩) lb cp]).run P w) (hf : P.funcs[k]? = some fn)
    (hname : (fn.name == "runtime.NumGoroutine") = false) (hb : fn.body.isNone = true) (hnx : Extern.findNext fn = none) (he : Extern.find fn = some (Extern.SlicesOverlaps.overlaps #[tS, tS] #[tR])) (ht : P.underlying tS = some (.slice e)) (hz : ∀ w, (Go.sizeOf e).run P w = .ok sz w)
    (hne : i ≠ i') (hi : LL[i]? = some s) (hj : s[j]? = some (cb b cs t)) (hi' : LL[i']? = some s') (hj' : s'[j']? = some (cb b' cs' t')) (h0 : 0 < cs'.length) : Ys P n (Mem w0 M LL) f o (.bool false) := Ys.reads fun w hS => by
  obtain ⟨kb, hkb⟩ : ∃ kb, kb = cs'.length := ⟨_, rfl⟩
  have h1 := Lib.run_overlaps_apart (P := P) w tS tR e ht sz hz ⟨b, o1, none⟩ ⟨b', o2, none⟩ la ca lb cp (hS.apart hi hi' hne hj hj') t t' cs.length cs'.length (hS.shape hi hj) (hS.shape hi' hj') (by omega) (hS.free hi hj) (hS.free hi hj)
  rw [hd, run_callFunc_extern hf hname hb hnx he, h1]; rfl
theorem Ht.appendIn {t u e : TypeId} {eu : TypeId} {ii : TypeInfo} {x y : Operand} {xv : Value} {nn m k cap sz : Nat} {ty : TypeId} {news : List Value} (hd : o.dst = some d)
    (ho : o.op = .call { callee := .builtin .append, args := #[x, y], argTypes := #[t, u] }) (ht : P.underlying t = some (.slice e)) (hu : P.underlying u = some (.slice eu)) (hi : P.info? e = some ii) (hsize : ii.size = sz)
    (hx : ev n f x = .slice (some ⟨b, 0, none⟩) nn cap) (hy : ev n f y = xv) (hL : LL[i]? = some s) (hj : s[j]? = some (cb b cs ty)) (hlen : ∀ w, (Builtin.lenOf xv).run P w = .ok m w) (hk : nn + m = k) (hroom : k ≤ cap) (hsrc : Src P (Mem w0 M LL) sz m xv news)
    (hl : nn * sz + news.length ≤ cs.length) (h1 : ∀ v ∈ news, v.oneCell' = true) (hcs : putAt cs (nn * sz) news = cs') (hL' : LL.set i (s.set j (cb b cs' ty)) = LL') :
    Ht (β := Unit) P n (Mem w0 M LL) f o (fun _ => upd f d (.slice (some ⟨b, 0, none⟩) k cap)) (fun _ => Mem w0 M LL') := fun ds w hS K hK => by
  subst hsize; subst hk
  obtain ⟨w', hst, hm⟩ := run_storeCells (P := P) hS news (nn * ii.size) 0 hL hj hl h1
  rw [hcs, hL'] at hm
  have hs := hsrc w hS
  have hu' := run_underlying (P := P) hu
  have hrun : (Builtin.append_ #[t, u] o.type #[ev n f x, ev n f y]).run P w = .ok (.slice (some ⟨b, 0, none⟩) (nn + m) cap) w' := by
    simp [Builtin.append_, hx, hy, run_underlying ht, hu', sizeOf, typeInfo, hi, hlen, hroom, hs, Addr.add_lit, hst]
  unfold Oper.wp execOp
  simp only [ho, resolve, invoke, builtin, Sem.run_bind, Sem.run_pure, Result.andThen_ok, List.map_toArray, List.map_cons, List.map_nil, Fr_eval, hrun]
  simp only [Oper.upon, hd, Fr_put]
  exact hK () w' hm
theorem Ht.appendZ {LL' : Nat → List Value → List (List Blk)} {t u e : TypeId} {ii : TypeInfo} {z : Value} {ku : IntKind} {x y : Operand} {nn m k cap sz bytes : Nat} {lv : Int} {xs : List Value} {kk : IntKind} (hd : o.dst = some d)
    (ho : o.op = .call { callee := .builtin .append, args := #[x, y], argTypes := #[t, u] }) (ht : P.underlying t = some (.slice e)) (hu : P.underlying u = some (.int ku)) (hi : P.info? e = some ii) (hz : ii.zero = some z)
    (hsize : ii.size = sz) (hby : ii.bytes = bytes) (hzs : z.cells.size = sz) (hx : ev n f x = .slice a nn cap) (hy : ev n f y = .int kk lv) (hm : lv = ((m : Nat) : Int)) (hat : ∀ w, Mem w0 M LL w → At w a xs) (hxs : xs.length = nn * sz)
    (hk : nn + m = k) (hcap : nn ≤ cap) (hno : cap < k) (h63 : k ≤ 1000000000) (hbytes : k * bytes ≤ 140737488355328) (hL' : ∀ (b : Nat) (R : List Value), [cb b (xs ++ R) e] :: LL = LL' b R) :
    Ht (β := { q : Nat × Nat × List Value // k ≤ q.2.1 ∧ q.2.1 ≤ maxLen ∧ q.2.2.length + nn * sz = q.2.1 * sz }) P n (Mem w0 M LL) f o (fun q => upd f d (.slice (some ⟨q.1.1, 0, none⟩) k q.1.2.1)) (fun q => Mem w0 M (LL' q.1.1 q.1.2.2)) := fun ds w hS K hK => by
  subst hby; subst hk; subst hm; subst hsize
  have hu' := run_underlying (P := P) hu
  have hn : ¬ (nn + m ≤ cap) := by omega
  have h63' : ¬ (9223372036854775807 < ((nn : Int) + (m : Int))) := by omega
  have hfits : Builtin.nextslicecap (nn + m) cap * ii.bytes ≤ 281474976710656 := growslice_fits (by omega) hbytes
  have h48' : ¬ (281474976710656 < Builtin.nextslicecap (nn + m) cap * ii.bytes) := by omega
  have hwr : IntKind.i64.wrap ((m : Nat) : Int) = ((m : Nat) : Int) := wrap_i64 (by omega) (by omega)
  have hmb : m * ii.bytes ≤ 140737488355328 := Nat.le_trans (Nat.mul_le_mul_right _ (by omega)) hbytes
  have hmb' : ¬ (281474976710656 < ((m : Nat) : Int) * ((ii.bytes : Nat) : Int)) := by rw [← Int.natCast_mul]; omega
  have hneg : ¬ (((m : Nat) : Int) < 0) := by omega
  have hfo : (Builtin.firstCells ii.size nn (.slice a nn cap)).run P w.drew = .ok xs.toArray w.drew :=
    Src.at (P := P) (S := fun w' => w' = w.drew) hxs (fun w' e => by subst e; exact (hat w hS).of_block fun _ => rfl) w.drew rfl
  have hge := grownCap_ge w (nn + m) cap e
  have hlem := grownCap_le_maxLen w (nn + m) cap e (by simp only [maxLen]; omega)
  obtain ⟨zc, hzc⟩ : ∃ zc : Array Value, zc = if m * ii.size = 0 then #[] else Builtin.zeroCells z.cells m := ⟨_, rfl⟩
  have hzl : zc.size = m * ii.size := by
    rw [hzc]; split
    · rename_i h; rw [h]; rfl
    · rw [size_zeroCells, hzs]
  have hrun : (Builtin.append_ #[t, u] o.type #[ev n f x, ev n f y]).run P w = .ok (.slice (some ⟨w.heap.size, 0, none⟩) (nn + m) (grownCap w (nn + m) cap e)) (w.drew.alloc (.cells (xs ++ (zc.toList ++ (Builtin.zeroCells z.cells (grownCap w (nn + m) cap e - (nn + m))).toList)).toArray e)) := by
    simp only [hx, hy]
    simp [Builtin.append_, run_underlying ht, hu', sizeOf, typeInfo, zeroValue, hi, hz, asInt, asIntOf, hwr, hneg, hmb', hn, h63', h48', Question.forced, hfo, newRow, grownCap]
    by_cases h : m * ii.size = 0
    · rw [if_pos h, hzc, if_pos h]
      congr 3
      apply Array.ext'; simp
    · rw [if_neg h, hzc, if_neg h]
      congr 3
      apply Array.ext'; simp
  have h2 := (hS.drawn (w.drawn + 1)).alloc (xs ++ (zc.toList ++ (Builtin.zeroCells z.cells (grownCap w (nn + m) cap e - (nn + m))).toList)) e
  rw [hL'] at h2
  unfold Oper.wp execOp
  simp only [ho, resolve, invoke, builtin, Sem.run_bind, Sem.run_pure, Result.andThen_ok, List.map_toArray, List.map_cons, List.map_nil, Fr_eval, hrun]
  simp only [Oper.upon, hd, Fr_put]
  refine hK ⟨(w.heap.size, grownCap w (nn + m) cap e, zc.toList ++ (Builtin.zeroCells z.cells (grownCap w (nn + m) cap e - (nn + m))).toList), hge, hlem, ?_⟩ _ h2
  simp only [List.length_append, Array.length_toList, hzl, size_zeroCells, hzs]
  rw [show m * ii.size + (grownCap w (nn + m) cap e - (nn + m)) * ii.size + nn * ii.size = (nn + m + (grownCap w (nn + m) cap e - (nn + m))) * ii.size by rw [Nat.add_mul, Nat.add_mul]; omega]
  rw [show nn + m + (grownCap w (nn + m) cap e - (nn + m)) = grownCap w (nn + m) cap e by omega]
theorem Ht.clear {t e : TypeId} {ii : TypeInfo} {z : Value} {x : Operand} {m cap o' : Nat} {ty : TypeId} {zs : List Value} (hd : o.dst = none)
    (ho : o.op = .call { callee := .builtin .clear, args := #[x], argTypes := #[t] }) (ht : P.underlying t = some (.slice e)) (hi : P.info? e = some ii) (hz : ii.zero = some z)
    (hx : ev n f x = .slice (some ⟨b, o', none⟩) (m + 1) cap) (hL : LL[i]? = some s) (hj : s[j]? = some (cb b cs ty)) (hzs : (Builtin.zeroCells z.cells (m + 1)).toList = zs)
    (hl : o' + zs.length ≤ cs.length) (h1 : ∀ v ∈ zs, v.oneCell' = true) (hcs : putAt cs o' zs = cs') (hL' : LL.set i (s.set j (cb b cs' ty)) = LL') :
    Ht (β := Unit) P n (Mem w0 M LL) f o (fun _ => f) (fun _ => Mem w0 M LL') := fun ds w hS K hK => by
  subst hzs
  obtain ⟨w', hst, hm⟩ := run_storeCells (P := P) hS _ o' 0 hL hj hl h1
  rw [hcs, hL'] at hm
  have hrun : (Builtin.clear_ #[t] o.type #[ev n f x]).run P w = .ok (.tuple #[]) w' := by
    simp [Builtin.clear_, hx, run_underlying ht, zeroValue, typeInfo, hi, hz, hst]
  unfold Oper.wp execOp
  simp only [ho, resolve, invoke, builtin, Sem.run_bind, Sem.run_pure, Result.andThen_ok, List.map_toArray, List.map_cons, List.map_nil, Fr_eval, hrun]
  simp only [Oper.upon, hd, Fr_put_none]
  exact hK () w' hm
end
section
variable {P : Program} {w0 w w' : World} {M : List Nat} {LL : List (List Blk)}
end
section
variable {r : Option Nat} {P : Program} {Q : Exit → Act → World → Prop} {n : Nat} {ds : List Deferred} {f : Nat → Value} {w0 : World} {M : List Nat} {LL : List (List Blk)}
end
end Go.Proofs.Ytjkhmbigoloeiaa.Base
