import Derived.Test.YtjkhmbigoloeiaaJVC
set_option linter.unusedVariables false
set_option linter.unusedSimpArgs false
namespace Go.Proofs.Ytjkhmbigoloeiaa.Base
open Go.RowKit
structure At (w : World) (a : Option Addr) (cs : List Value) : Prop where
  here : 0 < cs.length → a = some (a.getD default)
  cell : ∀ q v, cs[q]? = some v → w.cell? ((a.getD default).add q) = some v
theorem At.nil (w : World) (a : Option Addr) : At w a [] := ⟨fun h => absurd h (Nat.lt_irrefl _), fun q v h => by simp at h⟩
theorem At.lt {w : World} {a : Option Addr} {cs : List Value} (h : At w a cs) (h0 : 0 < cs.length) : (a.getD default).block < w.heap.size := by
  have := cell_lt (h.cell 0 _ (List.getElem?_eq_getElem h0))
  rwa [add_block] at this
theorem At.of_block {w w' : World} {a : Option Addr} {cs : List Value} (h : At w a cs) (hb : 0 < cs.length → w'.heap[(a.getD default).block]? = w.heap[(a.getD default).block]?) : At w' a cs :=
  ⟨h.here, fun q v hv => by
    rw [World.cell?_of_block (w := w) (by rw [add_block]; exact hb (by have := (List.getElem?_eq_some_iff.1 hv).1; omega))]
    exact h.cell q v hv⟩
theorem At.below {w w' : World} {a : Option Addr} {cs : List Value} (h : At w a cs) (hb : Below w.heap.size w w') : At w' a cs := h.of_block fun h0 => hb.block _ (h.lt h0)
theorem At.sub {w : World} {a : Option Addr} {cs : List Value} (h : At w a cs) (k m : Nat) : At w (a.map (·.add k)) ((cs.drop k).take m) := by
  have hlen : ((cs.drop k).take m).length ≤ cs.length - k := by simp; omega
  refine ⟨fun h0 => ?_, fun q v hv => ?_⟩
  · have := h.here (by omega)
    rw [this]; rfl
  · have hq := (List.getElem?_eq_some_iff.1 hv).1
    have := h.here (by omega)
    rw [this] at h ⊢
    simp only [Option.map_some, Option.getD_some]
    rw [adr_add_add]
    have h2 := h.cell (k + q) v (by
      rw [List.getElem?_take] at hv
      split at hv
      · simpa using hv
      · cases hv)
    simpa using h2
theorem At.take {w : World} {a : Option Addr} {cs : List Value} (h : At w a cs) (m : Nat) : At w a (cs.take m) :=
  ⟨fun h0 => h.here (by simp at h0; omega), fun q v hv => h.cell q v (by
    rw [List.getElem?_take] at hv
    split at hv
    · exact hv
    · cases hv)⟩
def sla (a : Option Addr) (cap k sz : Nat) : Option Addr := if cap = k then a else a.map (·.add (k * sz))
theorem At.drop {w : World} {a : Option Addr} {cs : List Value} (h : At w a cs) (cap k sz : Nat) (hl : cs.length ≤ cap * sz) : At w (sla a cap k sz) (cs.drop (k * sz)) := by
  unfold sla
  split
  · rename_i e
    have : cs.drop (k * sz) = [] := List.drop_eq_nil_of_le (by rw [← e]; exact hl)
    rw [this]; exact At.nil _ _
  · have := h.sub (k * sz) cs.length
    rwa [List.take_of_length_le (by simp)] at this
/-! ### Owned slices -/
structure FS where
  nil : Bool
  b : Nat
  cap : Nat
  rest : List Value
def FS.a (g : FS) : Option Addr := bif g.nil then none else some ⟨g.b, 0, none⟩
def FS.seg (g : FS) (t : TypeId) (cs : List Value) : List Blk := bif g.nil then [] else [cb g.b (cs ++ g.rest) t]
theorem FS.a_mk (b c : Nat) (r : List Value) : (FS.mk false b c r).a = some ⟨b, 0, none⟩ := rfl
structure FS.ok (g : FS) (sz len : Nat) : Prop where
  h0 : g.nil = true → len = 0 ∧ g.cap = 0
  le : len ≤ g.cap
  mx : g.cap ≤ maxLen
  len : g.cap * sz ≤ len * sz + g.rest.length
section
variable {r : Option Nat} {P : Program} {ops : Array Oper} {Q : Exit → Act → World → Prop} {K : Act → World → Prop} {S : World → Prop} {n : Nat} {ds : List Deferred} {f : Nat → Value} {o : Oper} {rest : List Oper} {v : Value} {d : Nat} {w0 w : World} {M : List Nat} {LL LL' : List (List Blk)} {s : List Blk} {i j b : Nat} {a : Option Addr} {cs : List Value}
theorem At.mem (h : At w0 a cs) (hm : Mem w0 M LL w) (hM : (a.getD default).block ∉ M) : At w a cs := h.of_block fun h0 => Mem0.same hm _ (h.lt h0) hM
theorem At.mem0 (h : At w0 a cs) (hm : Mem w0 [] LL w) : At w a cs := h.mem hm (by simp)
theorem At.own {t : TypeId} {xs : List Value} {k : Nat} (hm : Mem w0 M LL w) (hi : LL[i]? = some s) (hj : s[j]? = some (cb b xs t)) (hx : ∀ q v, cs[q]? = some v → xs[k + q]? = some v) : At w (some ⟨b, k, none⟩) cs :=
  ⟨fun _ => rfl, fun q v hv => by
    simp only [Option.getD_some]
    rw [add_lit]
    exact hm.cell hi hj (hx q v hv)⟩
theorem At.lit {t : TypeId} {xs : List Value} (hm : Mem w0 M LL w) (hi : LL[i]? = some s) (hj : s[j]? = some (cb b (cs ++ xs) t)) : At w (some ⟨b, 0, none⟩) cs :=
  At.own hm hi hj fun q v hv => by rw [Nat.zero_add, List.getElem?_append_left (List.getElem?_eq_some_iff.1 hv).1]; exact hv
theorem At.lit0 {t : TypeId} (hm : Mem w0 M LL w) (hi : LL[i]? = some s) (hj : s[j]? = some (cb b cs t)) : At w (some ⟨b, 0, none⟩) cs :=
  At.own hm hi hj fun q v hv => by rw [Nat.zero_add]; exact hv
/-! ### A slice's element -/
def ela (a : Option Addr) (q : Nat) : Addr := (a.getD default).add q
theorem Ys.indexAddr {t e : TypeId} {x ix : Operand} {len cap sz : Nat} {k : IntKind} {i : Int} (hop : o.op = .indexAddr t x ix) (hx : ev n f x = .slice a len cap) (hi : ev n f ix = .int k i)
    (hu : ∀ w, (underlying t).run P w = .ok (.slice e) w) (hz : ∀ w, (sizeOf e).run P w = .ok sz w) (h0 : 0 ≤ i) (h1 : i < len) (ha : a = some (a.getD default)) : Ys P n S f o (.pointer (some (ela a (i.toNat * sz)))) := Ys.pure fun w => by
  obtain ⟨adr, rfl⟩ : ∃ adr, a = some adr := ⟨_, ha⟩
  simp [execOp, hop, hx, hi, Instr.indexAt, asIntOf, hu, hz, h0, h1, ela]
theorem At.ld (h : At w a cs) {q : Nat} (hq : cs[q]? = some v) : w.cell? (ela a q) = some v := h.cell q v hq
theorem At.ldF (h : At w a cs) {q k : Nat} (hq : cs[q + k]? = some v) : w.cell? ((ela a q).add k) = some v := by
  unfold ela; rw [adr_add_add]; exact h.cell _ v hq
theorem At.ldN (h : At w a cs) {q : Nat} {vs : List Value} (hv : ∀ j v, vs[j]? = some v → cs[q + j]? = some v) : ∀ j v, vs[j]? = some v → w.cell? ((ela a q).add j) = some v := fun j v hj => h.ldF (hv j v hj)
theorem At.ldNF (h : At w a cs) {q k : Nat} {vs : List Value} (hv : ∀ j v, vs[j]? = some v → cs[q + k + j]? = some v) : ∀ j v, vs[j]? = some v → w.cell? (((ela a q).add k).add j) = some v := fun j v hj => by
  rw [adr_add_add]; exact h.ldF (by rw [← Nat.add_assoc]; exact hv j v hj)
theorem ela_own (b k q : Nat) : ela (some ⟨b, k, none⟩) q = ⟨b, k + q, none⟩ := by unfold ela; simp only [Option.getD_some]; exact add_lit _ _ _
theorem ela_own0 (b q : Nat) : ela (some ⟨b, 0, none⟩) q = ⟨b, q, none⟩ := by rw [ela_own, Nat.zero_add]
theorem Ys.byMem (h : ∀ w, S w → Ys P n S f o v) : Ys P n S f o v := fun w hS => h w hS w hS
/-! ### What is cut from a slice -/
theorem sla0 (cap sz : Nat) : sla a cap 0 sz = a := by
  unfold sla; split
  · rfl
  · cases a <;> simp [adr_add0]
theorem Ys.sliceL {t e : TypeId} {x l : Operand} {len cap sz : Nat} {k : IntKind} {i : Int} (hop : o.op = .slice t x (some l) none none) (hx : ev n f x = .slice a len cap) (hi : ev n f l = .int k i)
    (hu : ∀ w, (underlying t).run P w = .ok (.slice e) w) (hz : ∀ w, (sizeOf e).run P w = .ok sz w) (h0 : 0 ≤ i) (h1 : i ≤ len) : Ys P n S f o (.slice (sla a cap i.toNat sz) (len - i.toNat) (cap - i.toNat)) := Ys.pure fun w => by
  simp [execOp, hop, hx, hi, Instr.sliceAt, Instr.slice, hu, Instr.sliceBounds, Instr.sliceBound, asIntOf, h0, h1, hz, sla]
theorem Ys.sliceH {t e : TypeId} {x h : Operand} {len cap sz : Nat} {k : IntKind} {i : Int} (hop : o.op = .slice t x none (some h) none) (hx : ev n f x = .slice a len cap) (hi : ev n f h = .int k i)
    (hu : ∀ w, (underlying t).run P w = .ok (.slice e) w) (hz : ∀ w, (sizeOf e).run P w = .ok sz w) (h0 : 0 ≤ i) (h1 : i ≤ cap) : Ys P n S f o (.slice a i.toNat cap) := Ys.pure fun w => by
  have e := sla0 (a := a) cap sz
  unfold sla at e
  simp only [Nat.zero_mul] at e
  simp [execOp, hop, hx, hi, Instr.sliceAt, Instr.slice, hu, Instr.sliceBounds, Instr.sliceBound, asIntOf, h0, h1, hz, e]
theorem Ys.sliceLH {t e : TypeId} {x l h : Operand} {len cap sz : Nat} {k k' : IntKind} {i j : Int} (hop : o.op = .slice t x (some l) (some h) none) (hx : ev n f x = .slice a len cap) (hi : ev n f l = .int k i) (hj : ev n f h = .int k' j)
    (hu : ∀ w, (underlying t).run P w = .ok (.slice e) w) (hz : ∀ w, (sizeOf e).run P w = .ok sz w) (h0 : 0 ≤ i) (h1 : i ≤ j) (h2 : j ≤ cap) : Ys P n S f o (.slice (sla a cap i.toNat sz) (j.toNat - i.toNat) (cap - i.toNat)) := Ys.pure fun w => by
  obtain ⟨j, rfl⟩ := Int.eq_ofNat_of_zero_le (show 0 ≤ j by omega)
  have h2' : j ≤ cap := by omega
  simp [execOp, hop, hx, hi, hj, Instr.sliceAt, Instr.slice, hu, Instr.sliceBounds, Instr.sliceBound, asIntOf, h0, h1, h2', hz, sla]
abbrev FS.nul : FS := ⟨true, 0, 0, []⟩
theorem FS.nul_ok (sz : Nat) : FS.nul.ok sz 0 := ⟨fun _ => ⟨rfl, rfl⟩, Nat.le_refl _, Nat.zero_le _, by simp⟩
theorem FS.lit_ok {b sz k : Nat} (h : k ≤ maxLen) : (FS.mk false b k []).ok sz k := ⟨fun h => (by cases h), Nat.le_refl _, h, by simp⟩
theorem FS.notnil {g : FS} {sz len : Nat} (h : g.ok sz len) (hl : 0 < len) : g.nil = false := by
  cases e : g.nil with
  | false => rfl
  | true => have := (h.h0 e).1; omega
theorem FS.a_own {g : FS} (h : g.nil = false) : g.a = some ⟨g.b, 0, none⟩ := by simp [FS.a, h]
theorem FS.seg_own {g : FS} {t : TypeId} (h : g.nil = false) : g.seg t cs = [cb g.b (cs ++ g.rest) t] := by simp [FS.seg, h]
theorem FS.at {g : FS} {t : TypeId} (hm : Mem w0 M LL w) (hi : LL[i]? = some (g.seg t cs)) (h : g.nil = true → cs = []) : At w g.a cs := by
  cases e : g.nil with
  | true => rw [h e]; exact At.nil _ _
  | false =>
    rw [FS.seg_own e] at hi
    rw [FS.a_own e]
    exact At.lit (j := 0) (b := g.b) (t := t) hm hi rfl
theorem FS.nil_cs {g : FS} {sz len : Nat} (h : g.ok sz len) (hl : cs.length = len * sz) : g.nil = true → cs = [] := fun e => by
  rw [(h.h0 e).1, Nat.zero_mul] at hl
  exact List.length_eq_zero_iff.1 hl
theorem ela_fs {g : FS} (h : g.nil = false) (q : Nat) : ela g.a q = ⟨g.b, q, none⟩ := by rw [FS.a_own h, ela_own]; simp
def Src (P : Program) (S : World → Prop) (sz m : Nat) (x : Value) (news : List Value) : Prop := ∀ w, S w → (Builtin.firstCells sz m x).run P w = .ok news.toArray w
theorem Src.at {sz m len cap : Nat} {news : List Value} (hl : news.length = m * sz) (h : ∀ w, S w → At w a news) : Src P S sz m (.slice a len cap) news := fun w hS => by
  have h := h w hS
  cases a with
  | none =>
    have : news = [] := by
      cases news with
      | nil => rfl
      | cons x l => have := h.here (by simp); cases this
    subst this
    exact run_firstCells_none (P := P) w sz m len cap
  | some adr => exact run_firstCells_some (P := P) w sz m adr len cap news hl (fun q v hq => by simpa using h.cell q v hq)
theorem run_append_own' {t u ty e : TypeId} {eu : TypeId} {ii : TypeInfo} {z : Value} {g : FS} {nn m sz : Nat} {xs news : List Value} {x : Value} (ht : P.underlying t = some (.slice e)) (hu : P.underlying u = some (.slice eu)) (hi : P.info? e = some ii) (hz : ii.zero = some z) (hsize : ii.size = sz) (hzs : z.cells.size = sz)
    (hS : Mem w0 M LL w) (hL : LL[i]? = some (g.seg e xs)) (ok : g.ok sz nn) (hxs : xs.length = nn * sz) (hlen : (Builtin.lenOf x).run P w = .ok m w) (hsrc : ∀ k, (Builtin.firstCells sz m x).run P { w with drawn := k } = .ok news.toArray { w with drawn := k }) (hl : news.length = m * sz) (h1 : ∀ v ∈ news, v.oneCell' = true)
    (h63 : nn + m ≤ maxLen) (hbytes : (nn + m) * ii.bytes ≤ 140737488355328) :
    ∃ (g' : FS) (w' : World), (Builtin.append_ #[t, u] ty #[.slice g.a nn g.cap, x]).run P w = .ok (.slice g'.a (nn + m) g'.cap) w' ∧ Mem w0 M (LL.set i (g'.seg e (xs ++ news))) w' ∧ g'.ok sz (nn + m) ∧ (0 < nn + m → g'.nil = false) ∧ (g.nil = false → g'.nil = false) := by
  subst hsize
  have hu' := run_underlying (P := P) hu
  by_cases hroom : nn + m ≤ g.cap
  · cases hn : g.nil with
    | true =>
      have h0 := ok.h0 hn
      have hm0 : m = 0 := by omega
      have hx0 : xs = [] := FS.nil_cs ok hxs hn
      have hnw : news = [] := by rw [hm0, Nat.zero_mul] at hl; exact List.length_eq_zero_iff.1 hl
      refine ⟨g, w, ?_, ?_, ?_, ?_, fun h => (by cases h)⟩
      · have ha : g.a = none := by simp [FS.a, hn]
        rw [ha]
        have hs := hsrc w.drawn
        simp [Builtin.append_, run_underlying ht, hu', sizeOf, typeInfo, hi, hlen, hroom, hs]
      · rw [hnw, List.append_nil]
        obtain ⟨hlt, hLe⟩ := List.getElem?_eq_some_iff.1 hL
        rw [← hLe, List.set_getElem_self]; exact hS
      · rw [hm0]; exact ok
      · intro h; omega
    | false =>
      rw [FS.seg_own hn] at hL
      have hs := hsrc w.drawn
      have hcapl := ok.len
      have hfit : nn * ii.size + news.length ≤ (xs ++ g.rest).length := by
        rw [List.length_append, hxs, hl, ← Nat.add_mul]; exact Nat.le_trans (Nat.mul_le_mul_right _ hroom) hcapl
      obtain ⟨w', hst, hm'⟩ := run_storeCells (P := P) (j := 0) (b := g.b) (t := e) hS news (nn * ii.size) 0 hL rfl hfit h1
      have hset : putAt (xs ++ g.rest) (nn * ii.size) news = xs ++ news ++ g.rest.drop news.length := by
        unfold putAt
        rw [← hxs, List.take_left, List.drop_append, List.drop_of_length_le (by omega)]
        simp
      rw [hset] at hm'
      refine ⟨⟨false, g.b, g.cap, g.rest.drop news.length⟩, w', ?_, ?_, ?_, fun _ => rfl, fun _ => rfl⟩
      · rw [FS.a_own hn]
        simp [Builtin.append_, run_underlying ht, hu', sizeOf, typeInfo, hi, hlen, hroom, hs, Addr.add_lit, hst, FS.a]
      · simpa [FS.seg] using hm'
      · refine ⟨fun h => (by cases h), hroom, ok.mx, ?_⟩
        rw [List.length_append, hxs] at hfit
        simp only [List.length_drop, hl] at hfit ⊢
        rw [Nat.add_mul]
        omega
  · have hn : ¬ (nn + m ≤ g.cap) := hroom
    have h63' : ¬ (9223372036854775807 < ((nn : Int) + (m : Int))) := by simp only [maxLen] at h63; omega
    have hle := ok.le
    have hfits : Builtin.nextslicecap (nn + m) g.cap * ii.bytes ≤ 281474976710656 := growslice_fits (by omega) hbytes
    have h48' : ¬ (281474976710656 < Builtin.nextslicecap (nn + m) g.cap * ii.bytes) := by omega
    have hat : At w g.a xs := FS.at hS hL (FS.nil_cs ok hxs)
    have hfo : (Builtin.firstCells ii.size nn (.slice g.a nn g.cap)).run P w.drew = .ok xs.toArray w.drew :=
      Src.at (P := P) (S := fun w' => w' = w.drew) hxs (fun w' e => by subst e; exact hat.of_block fun _ => rfl) w.drew rfl
    have hf : (Builtin.firstCells ii.size m x).run P w.drew = .ok news.toArray w.drew := hsrc (w.drawn + 1)
    have hge := grownCap_ge w (nn + m) g.cap e
    have hlem := grownCap_le_maxLen w (nn + m) g.cap e h63
    refine ⟨⟨false, w.heap.size, grownCap w (nn + m) g.cap e, (Builtin.zeroCells z.cells (grownCap w (nn + m) g.cap e - (nn + m))).toList⟩, w.drew.alloc (.cells (xs ++ news ++ (Builtin.zeroCells z.cells (grownCap w (nn + m) g.cap e - (nn + m))).toList).toArray e), ?_, ?_, ?_, fun _ => rfl, fun _ => rfl⟩
    · simp [Builtin.append_, run_underlying ht, hu', sizeOf, typeInfo, zeroValue, hi, hz, hlen, hn, h63', h48', Question.forced, hf, hfo, newRow, grownCap, FS.a_mk]
      congr 2
      apply Array.ext'
      simp [List.append_assoc]
    · have h2 := (hS.drawn (w.drawn + 1)).alloc (xs ++ news ++ (Builtin.zeroCells z.cells (grownCap w (nn + m) g.cap e - (nn + m))).toList) e
      have hlt := (List.getElem?_eq_some_iff.1 hL).1
      -- the old segment is dropped, the new one stands in its place
      obtain ⟨k, hk⟩ : ∃ k, k = LL.length := ⟨_, rfl⟩
      refine h2.pick ((List.range LL.length).map fun q => if q = i then 0 else q + 1) ?_ ?_
      · rw [List.Nodup, List.pairwise_map]
        refine List.Pairwise.imp_of_mem ?_ (List.nodup_range (n := LL.length))
        intro p q _ _ hpq e
        split at e <;> split at e <;> omega
      · unfold pickL
        apply List.ext_getElem?
        intro q
        rw [List.map_map, List.getElem?_map, List.getElem?_set]
        by_cases hq : q < LL.length
        · rw [List.getElem?_range hq]
          simp only [Option.map_some, Function.comp]
          by_cases hqi : q = i
          · subst hqi
            rw [if_pos rfl, if_pos rfl, if_pos hq]
            simp [FS.seg]
          · rw [if_neg hqi, if_neg (fun e => hqi e.symm)]
            simp [List.getElem?_eq_getElem hq]
        · rw [List.getElem?_eq_none (by simpa using hq : (List.range LL.length).length ≤ q)]
          split
          · rename_i e; subst e; exact absurd hlt hq
          · rw [List.getElem?_eq_none (by omega)]; rfl
    · refine ⟨fun h => (by cases h), hge, hlem, ?_⟩
      simp only [Array.length_toList, size_zeroCells, hzs, ← Nat.add_mul]
      rw [show nn + m + (grownCap w (nn + m) g.cap e - (nn + m)) = grownCap w (nn + m) g.cap e by omega]
      exact Nat.le_refl _
theorem Ht.append {t u e : TypeId} {eu : TypeId} {ii : TypeInfo} {z : Value} {s x : Operand} {g : FS} {xv : Value} {nn m k sz bytes : Nat} {xs news cs' : List Value} {Lo : FS → List (List Blk)} (hd : o.dst = some d)
    (ho : o.op = .call { callee := .builtin .append, args := #[s, x], argTypes := #[t, u] }) (ht : P.underlying t = some (.slice e)) (hu : P.underlying u = some (.slice eu)) (hi : P.info? e = some ii) (hz : ii.zero = some z)
    (hsize : ii.size = sz) (hby : ii.bytes = bytes) (hzs : z.cells.size = sz) (hs : ev n f s = .slice g.a nn g.cap) (hx : ev n f x = xv) (hL : LL[i]? = some (g.seg e xs)) (ok : g.ok sz nn) (hxs : xs.length = nn * sz)
    (hlen : ∀ w, (Builtin.lenOf xv).run P w = .ok m w) (hsrc : Src P (Mem w0 M LL) sz m xv news) (hl : news.length = m * sz) (h1 : ∀ v ∈ news, v.oneCell' = true) (hk : nn + m = k) (h63 : k ≤ maxLen) (hbytes : k * bytes ≤ 140737488355328)
    (hcs : xs ++ news = cs') (hLo : ∀ g', LL.set i (g'.seg e cs') = Lo g') :
    Ht (β := { g' : FS // g'.ok sz k ∧ (0 < k → g'.nil = false) ∧ (g.nil = false → g'.nil = false) }) P n (Mem w0 M LL) f o (fun g' => upd f d (.slice g'.1.a k g'.1.cap)) (fun g' => Mem w0 M (Lo g'.1)) := fun ds w hS K hK => by
  subst hby; subst hk; subst hcs
  obtain ⟨g', w', hrun, hm, hok, hnn, hnn2⟩ := run_append_own' (P := P) (t := t) (u := u) (ty := o.type) (x := xv) ht hu hi hz hsize hzs hS hL ok hxs (hlen w) (fun k => hsrc _ (hS.drawn k)) hl h1 h63 hbytes
  rw [hLo] at hm
  unfold Oper.wp execOp
  simp only [ho, resolve, invoke, builtin, Sem.run_bind, Sem.run_pure, Result.andThen_ok, List.map_toArray, List.map_cons, List.map_nil, Fr_eval, hs, hx, hrun]
  simp only [Oper.upon, hd, Fr_put]
  exact hK ⟨g', hok, hnn, hnn2⟩ w' hm
theorem HtS.append {t u e : TypeId} {eu : TypeId} {ii : TypeInfo} {z : Value} {s x : Operand} {g : FS} {xv : Value} {nn m k sz bytes : Nat} {xs news cs' : List Value} {Lo : FS → List (List Blk)} (hd : o.dst = some d)
    (ho : o.op = .call { callee := .builtin .append, args := #[s, x], argTypes := #[t, u] }) (ht : P.underlying t = some (.slice e)) (hu : P.underlying u = some (.slice eu)) (hi : P.info? e = some ii) (hz : ii.zero = some z)
    (hsize : ii.size = sz) (hby : ii.bytes = bytes) (hzs : z.cells.size = sz) (hs : ev n f s = .slice g.a nn g.cap) (hx : ev n f x = xv) (hL : LL[i]? = some (g.seg e xs)) (ok : g.ok sz nn) (hxs : xs.length = nn * sz)
    (hlen : ∀ w, (Builtin.lenOf xv).run P w = .ok m w) (hsrc : Src P (Mem w0 M LL) sz m xv news) (hl : news.length = m * sz) (h1 : ∀ v ∈ news, v.oneCell' = true) (hk : nn + m = k) (h63 : k ≤ maxLen) (hbytes : k * bytes ≤ 140737488355328)
    (hcs : xs ++ news = cs') (hLo : ∀ g', LL.set i (g'.seg e cs') = Lo g') :
    HtS P n (Mem w0 M LL) f o (fun g' : FS => g'.ok sz k ∧ (0 < k → g'.nil = false) ∧ (g.nil = false → g'.nil = false)) (fun g' => upd f d (.slice g'.a k g'.cap)) (fun g' => Mem w0 M (Lo g')) :=
  Ht.append hd ho ht hu hi hz hsize hby hzs hs hx hL ok hxs hlen hsrc hl h1 hk h63 hbytes hcs hLo
theorem Ht.copy {td tx e : TypeId} {ii : TypeInfo} {x y : Operand} {xv : Value} {dl dc m q sz o' : Nat} {t : TypeId} {cs' news : List Value} (hd : o.dst = some d)
    (ho : o.op = .call { callee := .builtin .copy, args := #[x, y], argTypes := #[td, tx] }) (ht : P.underlying td = some (.slice e)) (hi : P.info? e = some ii) (hsize : ii.size = sz)
    (hx : ev n f x = .slice (some ⟨b, o', none⟩) dl dc) (hy : ev n f y = xv) (hL : LL[i]? = some s) (hj : s[j]? = some (cb b cs t)) (hlen : ∀ w, (Builtin.lenOf xv).run P w = .ok m w) (hq : Nat.min m dl = q) (hsrc : Src P (Mem w0 M LL) sz q xv news)
    (hl : o' + news.length ≤ cs.length) (h1 : ∀ v ∈ news, v.oneCell' = true) (hcs : putAt cs o' news = cs') (hL' : LL.set i (s.set j (cb b cs' t)) = LL') :
    Ht (β := Unit) P n (Mem w0 M LL) f o (fun _ => upd f d (.int .i64 q)) (fun _ => Mem w0 M LL') := fun ds w hS K hK => by
  subst hsize
  obtain ⟨w', hst, hm⟩ := run_storeCells (P := P) hS news o' 0 hL hj hl h1
  rw [hcs, hL'] at hm
  have hs := hsrc w hS
  have hrun : (Builtin.copy_ #[td, tx] o.type #[ev n f x, ev n f y]).run P w = .ok (goInt q) w' := by
    simp [Builtin.copy_, hx, hy, run_underlying ht, sizeOf, typeInfo, hi, hlen, hq, hs, hst]
  unfold Oper.wp execOp
  simp only [ho, resolve, invoke, builtin, Sem.run_bind, Sem.run_pure, Result.andThen_ok, List.map_toArray, List.map_cons, List.map_nil, Fr_eval, hrun]
  simp only [Oper.upon, hd, Fr_put]
  exact hK () w' hm
theorem putAt_nil' (cs : List Value) (o : Nat) (news : List Value) (h : news.length = 0) : putAt cs o news = cs := by
  obtain rfl := List.length_eq_zero_iff.1 h
  exact putAt_nil cs o
theorem Ht.copySub {td tx e : TypeId} {ii : TypeInfo} {x y : Operand} {xv : Value} {dl dc m q sz o' cap : Nat} {t : TypeId} {cs' news : List Value} (hd : o.dst = some d)
    (ho : o.op = .call { callee := .builtin .copy, args := #[x, y], argTypes := #[td, tx] }) (ht : P.underlying td = some (.slice e)) (hi : P.info? e = some ii) (hsize : ii.size = sz)
    (hx : ev n f x = .slice (sla (some ⟨b, 0, none⟩) cap o' sz) dl dc) (hz : cap = o' → q = 0) (hy : ev n f y = xv) (hL : LL[i]? = some s) (hj : s[j]? = some (cb b cs t)) (hlen : ∀ w, (Builtin.lenOf xv).run P w = .ok m w) (hq : Nat.min m dl = q) (hsrc : Src P (Mem w0 M LL) sz q xv news) (hnl : news.length = q * sz)
    (hl : o' * sz + news.length ≤ cs.length) (h1 : ∀ v ∈ news, v.oneCell' = true) (hcs : putAt cs (o' * sz) news = cs') (hL' : LL.set i (s.set j (cb b cs' t)) = LL') :
    Ht (β := Unit) P n (Mem w0 M LL) f o (fun _ => upd f d (.int .i64 q)) (fun _ => Mem w0 M LL') := by
  by_cases hc : cap = o'
  · have hq0 := hz hc
    have hn0 : news.length = 0 := by rw [hnl, hq0, Nat.zero_mul]
    unfold sla at hx
    rw [if_pos hc] at hx
    exact Ht.copy (o' := 0) hd ho ht hi hsize hx hy hL hj hlen hq hsrc (by omega) h1 (by rw [putAt_nil' _ _ _ hn0, ← hcs, putAt_nil' _ _ _ hn0]) hL'
  · unfold sla at hx
    rw [if_neg hc] at hx
    simp only [Option.map_some, add_lit, Nat.zero_add] at hx
    exact Ht.copy (o' := o' * sz) hd ho ht hi hsize hx hy hL hj hlen hq hsrc hl h1 hcs hL'
/-! ### Elements of one cell each -/
def mc {α : Type} (g : α → Value) (xs : List α) : List Value := xs.map g
section
variable {α : Type} {g : α → Value}
theorem mc_len (xs : List α) : (mc g xs).length = xs.length := by simp [mc]
theorem mc_drop1 (xs : List α) (k : Nat) : (mc g xs).drop (k * 1) = mc g (xs.drop k) := by simp [mc]
end
section
variable {α : Type} {g : α → Value} {w : World} {a : Option Addr} {xs : List α}
theorem At.mdrop (h : At w a (mc g xs)) (cap k : Nat) (hl : xs.length ≤ cap) : At w (sla a cap k 1) (mc g (xs.drop k)) := by
  have := h.drop cap k 1 (by rw [mc_len]; omega)
  rwa [mc_drop1] at this
end
abbrev b8 (b : UInt8) : Value := .int .u8 ((b.toNat : Nat) : Int)
abbrev byc (xs : List UInt8) : List Value := mc b8 xs
def bstr (xs : List UInt8) : ByteArray := ⟨xs.toArray⟩
end
abbrev sV (g : FS) (n : Nat) : Value := .slice g.a n g.cap
end Go.Proofs.Ytjkhmbigoloeiaa.Base
