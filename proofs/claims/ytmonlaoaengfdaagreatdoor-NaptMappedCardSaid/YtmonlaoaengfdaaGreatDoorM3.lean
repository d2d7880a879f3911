import Derived.Test.YtmonlaoaengfdaaGreatDoorM2
import Derived.Lib.MakeNoZero
set_option linter.unusedVariables false
set_option linter.unusedSimpArgs false
namespace Go.Proofs.YtmonlaoaengfdaaGreatDoor.Base
open Go.RowKit
structure At (w : World) (a : Option Addr) (cs : List Value) : Prop where
  here : 0 < cs.length → a = some (a.getD default)
  cell : ∀ q v, cs[q]? = some v → w.cell? ((a.getD default).add q) = some v
theorem At.nil (w : World) (a : Option Addr) : At w a [] := ⟨fun h => absurd h (Nat.lt_irrefl _), fun q v h => by simp at h⟩
theorem At.lt {w : World} {a : Option Addr} {cs : List Value} (h : At w a cs) (h0 : 0 < cs.length) : (a.getD default).block < w.heap.size := by
  have := cell_lt (h.cell 0 _ (List.getElem?_eq_getElem h0))
  rwa [add_block] at this
theorem At.of_block {w w' : World} {a : Option Addr} {cs : List Value} (h : At w a cs) (hb : 0 < cs.length → w'.heap[(a.getD default).block]? = w.heap[(a.getD default).block]?) : At w' a cs :=
  ⟨h.here, fun q v hv => by
    rw [World.cell?_of_block (w := w) (by rw [add_block]; exact hb (by have := (List.getElem?_eq_some_iff.1 hv).1; omega))]
    exact h.cell q v hv⟩
theorem At.below {w w' : World} {a : Option Addr} {cs : List Value} (h : At w a cs) (hb : Below w.heap.size w w') : At w' a cs := h.of_block fun h0 => hb.block _ (h.lt h0)
theorem At.sub {w : World} {a : Option Addr} {cs : List Value} (h : At w a cs) (k m : Nat) : At w (a.map (·.add k)) ((cs.drop k).take m) := by
  have hlen : ((cs.drop k).take m).length ≤ cs.length - k := by simp; omega
  refine ⟨fun h0 => ?_, fun q v hv => ?_⟩
  · have := h.here (by omega)
    rw [this]; rfl
  · have hq := (List.getElem?_eq_some_iff.1 hv).1
    have := h.here (by omega)
    rw [this] at h ⊢
    simp only [Option.map_some, Option.getD_some]
    rw [adr_add_add]
    have h2 := h.cell (k + q) v (by
      rw [List.getElem?_take] at hv
      split at hv
      · simpa using hv
      · cases hv)
    simpa using h2
theorem At.take {w : World} {a : Option Addr} {cs : List Value} (h : At w a cs) (m : Nat) : At w a (cs.take m) :=
  ⟨fun h0 => h.here (by simp at h0; omega), fun q v hv => h.cell q v (by
    rw [List.getElem?_take] at hv
    split at hv
    · exact hv
    · cases hv)⟩
def sla (a : Option Addr) (cap k sz : Nat) : Option Addr := if cap = k then a else a.map (·.add (k * sz))
theorem At.drop {w : World} {a : Option Addr} {cs : List Value} (h : At w a cs) (cap k sz : Nat) (hl : cs.length ≤ cap * sz) : At w (sla a cap k sz) (cs.drop (k * sz)) := by
  unfold sla
  split
  · rename_i e
    have : cs.drop (k * sz) = [] := List.drop_eq_nil_of_le (by rw [← e]; exact hl)
    rw [this]; exact At.nil _ _
  · have := h.sub (k * sz) cs.length
    rwa [List.take_of_length_le (by simp)] at this
/-! ### Owned slices -/
structure FS where
  nil : Bool
  b : Nat
  cap : Nat
  rest : List Value
def FS.a (g : FS) : Option Addr := bif g.nil then none else some ⟨g.b, 0, none⟩
def FS.seg (g : FS) (t : TypeId) (cs : List Value) : List Blk := bif g.nil then [] else [cb g.b (cs ++ g.rest) t]
theorem FS.a_mk (b c : Nat) (r : List Value) : (FS.mk false b c r).a = some ⟨b, 0, none⟩ := rfl
structure FS.ok (g : FS) (sz len : Nat) : Prop where
  h0 : g.nil = true → len = 0 ∧ g.cap = 0
  le : len ≤ g.cap
  mx : g.cap ≤ maxLen
  len : g.cap * sz ≤ len * sz + g.rest.length
section
variable {r : Option Nat} {P : Program} {ops : Array Oper} {Q : Exit → Act → World → Prop} {K : Act → World → Prop} {S : World → Prop} {n : Nat} {ds : List Deferred} {f : Nat → Value} {o : Oper} {rest : List Oper} {v : Value} {d : Nat} {w0 w : World} {M : List Nat} {LL LL' : List (List Blk)} {s : List Blk} {i j b : Nat} {a : Option Addr} {cs : List Value}
theorem At.mem (h : At w0 a cs) (hm : Mem w0 M LL w) (hM : (a.getD default).block ∉ M) : At w a cs := h.of_block fun h0 => Mem0.same hm _ (h.lt h0) hM
theorem At.mem0 (h : At w0 a cs) (hm : Mem w0 [] LL w) : At w a cs := h.mem hm (by simp)
theorem At.own {t : TypeId} {xs : List Value} {k : Nat} (hm : Mem w0 M LL w) (hi : LL[i]? = some s) (hj : s[j]? = some (cb b xs t)) (hx : ∀ q v, cs[q]? = some v → xs[k + q]? = some v) : At w (some ⟨b, k, none⟩) cs :=
  ⟨fun _ => rfl, fun q v hv => by
    simp only [Option.getD_some]
    rw [add_lit]
    exact hm.cell hi hj (hx q v hv)⟩
theorem At.lit {t : TypeId} {xs : List Value} (hm : Mem w0 M LL w) (hi : LL[i]? = some s) (hj : s[j]? = some (cb b (cs ++ xs) t)) : At w (some ⟨b, 0, none⟩) cs :=
  At.own hm hi hj fun q v hv => by rw [Nat.zero_add, List.getElem?_append_left (List.getElem?_eq_some_iff.1 hv).1]; exact hv
theorem At.lit0 {t : TypeId} (hm : Mem w0 M LL w) (hi : LL[i]? = some s) (hj : s[j]? = some (cb b cs t)) : At w (some ⟨b, 0, none⟩) cs :=
  At.own hm hi hj fun q v hv => by rw [Nat.zero_add]; exact hv
/-! ### A slice's element -/
def ela (a : Option Addr) (q : Nat) : Addr := (a.getD default).add q
theorem Ys.indexAddr {t e : TypeId} {x ix : Operand} {len cap sz : Nat} {k : IntKind} {i : Int} (hop : o.op = .indexAddr t x ix) (hx : ev n f x = .slice a len cap) (hi : ev n f ix = .int k i)
    (hu : ∀ w, (underlying t).run P w = .ok (.slice e) w) (hz : ∀ w, (sizeOf e).run P w = .ok sz w) (h0 : 0 ≤ i) (h1 : i < len) (ha : a = some (a.getD default)) : Ys P n S f o (.pointer (some (ela a (i.toNat * sz)))) := Ys.pure fun w => by
  obtain ⟨adr, rfl⟩ : ∃ adr, a = some adr := ⟨_, ha⟩
  simp [execOp, hop, hx, hi, Instr.indexAt, asIntOf, hu, hz, h0, h1, ela]
theorem Ys.indexArr {t e : TypeId} {x ix : Operand} {len sz o' : Nat} {k : IntKind} {i : Int} (hop : o.op = .indexAddr t x ix) (hx : ev n f x = .pointer (some ⟨b, o', none⟩)) (hi : ev n f ix = .int k i)
    (hu : ∀ w, (underlying t).run P w = .ok (.array len e) w) (hz : ∀ w, (sizeOf e).run P w = .ok sz w) (h0 : 0 ≤ i) (h1 : i < len) : Ys P n S f o (.pointer (some ⟨b, o' + i.toNat * sz, none⟩)) := Ys.pure fun w => by
  simp [execOp, hop, hx, hi, Instr.indexAt, Instr.sureAddr, asIntOf, hu, hz, h0, h1, add_lit]
theorem At.ld (h : At w a cs) {q : Nat} (hq : cs[q]? = some v) : w.cell? (ela a q) = some v := h.cell q v hq
theorem At.ldF (h : At w a cs) {q k : Nat} (hq : cs[q + k]? = some v) : w.cell? ((ela a q).add k) = some v := by
  unfold ela; rw [adr_add_add]; exact h.cell _ v hq
theorem At.ldN (h : At w a cs) {q : Nat} {vs : List Value} (hv : ∀ j v, vs[j]? = some v → cs[q + j]? = some v) : ∀ j v, vs[j]? = some v → w.cell? ((ela a q).add j) = some v := fun j v hj => h.ldF (hv j v hj)
theorem At.ldNF (h : At w a cs) {q k : Nat} {vs : List Value} (hv : ∀ j v, vs[j]? = some v → cs[q + k + j]? = some v) : ∀ j v, vs[j]? = some v → w.cell? (((ela a q).add k).add j) = some v := fun j v hj => by
  rw [adr_add_add]; exact h.ldF (by rw [← Nat.add_assoc]; exact hv j v hj)
theorem ela_own (b k q : Nat) : ela (some ⟨b, k, none⟩) q = ⟨b, k + q, none⟩ := by unfold ela; simp only [Option.getD_some]; exact add_lit _ _ _
theorem ela_own0 (b q : Nat) : ela (some ⟨b, 0, none⟩) q = ⟨b, q, none⟩ := by rw [ela_own, Nat.zero_add]
theorem Ys.byMem (h : ∀ w, S w → Ys P n S f o v) : Ys P n S f o v := fun w hS => h w hS w hS
/-! ### What is cut from a slice -/
theorem sla0 (cap sz : Nat) : sla a cap 0 sz = a := by
  unfold sla; split
  · rfl
  · cases a <;> simp [adr_add0]
theorem Ys.sliceL {t e : TypeId} {x l : Operand} {len cap sz : Nat} {k : IntKind} {i : Int} (hop : o.op = .slice t x (some l) none none) (hx : ev n f x = .slice a len cap) (hi : ev n f l = .int k i)
    (hu : ∀ w, (underlying t).run P w = .ok (.slice e) w) (hz : ∀ w, (sizeOf e).run P w = .ok sz w) (h0 : 0 ≤ i) (h1 : i ≤ len) : Ys P n S f o (.slice (sla a cap i.toNat sz) (len - i.toNat) (cap - i.toNat)) := Ys.pure fun w => by
  simp [execOp, hop, hx, hi, Instr.sliceAt, Instr.slice, hu, Instr.sliceBounds, Instr.sliceBound, asIntOf, h0, h1, hz, sla]
theorem Ys.sliceH {t e : TypeId} {x h : Operand} {len cap sz : Nat} {k : IntKind} {i : Int} (hop : o.op = .slice t x none (some h) none) (hx : ev n f x = .slice a len cap) (hi : ev n f h = .int k i)
    (hu : ∀ w, (underlying t).run P w = .ok (.slice e) w) (hz : ∀ w, (sizeOf e).run P w = .ok sz w) (h0 : 0 ≤ i) (h1 : i ≤ cap) : Ys P n S f o (.slice a i.toNat cap) := Ys.pure fun w => by
  have e := sla0 (a := a) cap sz
  unfold sla at e
  simp only [Nat.zero_mul] at e
  simp [execOp, hop, hx, hi, Instr.sliceAt, Instr.slice, hu, Instr.sliceBounds, Instr.sliceBound, asIntOf, h0, h1, hz, e]
theorem Ys.sliceLH {t e : TypeId} {x l h : Operand} {len cap sz : Nat} {k k' : IntKind} {i j : Int} (hop : o.op = .slice t x (some l) (some h) none) (hx : ev n f x = .slice a len cap) (hi : ev n f l = .int k i) (hj : ev n f h = .int k' j)
    (hu : ∀ w, (underlying t).run P w = .ok (.slice e) w) (hz : ∀ w, (sizeOf e).run P w = .ok sz w) (h0 : 0 ≤ i) (h1 : i ≤ j) (h2 : j ≤ cap) : Ys P n S f o (.slice (sla a cap i.toNat sz) (j.toNat - i.toNat) (cap - i.toNat)) := Ys.pure fun w => by
  obtain ⟨j, rfl⟩ := Int.eq_ofNat_of_zero_le (show 0 ≤ j by omega)
  have h2' : j ≤ cap := by omega
  simp [execOp, hop, hx, hi, hj, Instr.sliceAt, Instr.slice, hu, Instr.sliceBounds, Instr.sliceBound, asIntOf, h0, h1, h2', hz, sla]
theorem Ys.sliceHM {t e : TypeId} {x h m : Operand} {len cap sz : Nat} {k k' : IntKind} {i j : Int} (hop : o.op = .slice t x none (some h) (some m)) (hx : ev n f x = .slice a len cap) (hi : ev n f h = .int k i) (hj : ev n f m = .int k' j)
    (hu : ∀ w, (underlying t).run P w = .ok (.slice e) w) (hz : ∀ w, (sizeOf e).run P w = .ok sz w) (h0 : 0 ≤ i) (h1 : i ≤ j) (h2 : j ≤ cap) : Ys P n S f o (.slice a i.toNat j.toNat) := Ys.pure fun w => by
  obtain ⟨j, rfl⟩ := Int.eq_ofNat_of_zero_le (show 0 ≤ j by omega)
  have h2' : j ≤ cap := by omega
  have e := sla0 (a := a) j sz
  unfold sla at e
  simp only [Nat.zero_mul] at e
  simp [execOp, hop, hx, hi, hj, Instr.sliceAt, Instr.slice, hu, Instr.sliceBounds, Instr.sliceBound, asIntOf, h0, h1, h2', hz, e]
abbrev FS.nul : FS := ⟨true, 0, 0, []⟩
theorem FS.nul_ok (sz : Nat) : FS.nul.ok sz 0 := ⟨fun _ => ⟨rfl, rfl⟩, Nat.le_refl _, Nat.zero_le _, by simp⟩
theorem FS.lit_ok {b sz k : Nat} (h : k ≤ maxLen) : (FS.mk false b k []).ok sz k := ⟨fun h => (by cases h), Nat.le_refl _, h, by simp⟩
theorem FS.notnil {g : FS} {sz len : Nat} (h : g.ok sz len) (hl : 0 < len) : g.nil = false := by
  cases e : g.nil with
  | false => rfl
  | true => have := (h.h0 e).1; omega
theorem FS.a_own {g : FS} (h : g.nil = false) : g.a = some ⟨g.b, 0, none⟩ := by simp [FS.a, h]
theorem FS.seg_own {g : FS} {t : TypeId} (h : g.nil = false) : g.seg t cs = [cb g.b (cs ++ g.rest) t] := by simp [FS.seg, h]
theorem FS.at {g : FS} {t : TypeId} (hm : Mem w0 M LL w) (hi : LL[i]? = some (g.seg t cs)) (h : g.nil = true → cs = []) : At w g.a cs := by
  cases e : g.nil with
  | true => rw [h e]; exact At.nil _ _
  | false =>
    rw [FS.seg_own e] at hi
    rw [FS.a_own e]
    exact At.lit (j := 0) (b := g.b) (t := t) hm hi rfl
theorem FS.nil_cs {g : FS} {sz len : Nat} (h : g.ok sz len) (hl : cs.length = len * sz) : g.nil = true → cs = [] := fun e => by
  rw [(h.h0 e).1, Nat.zero_mul] at hl
  exact List.length_eq_zero_iff.1 hl
theorem ela_fs {g : FS} (h : g.nil = false) (q : Nat) : ela g.a q = ⟨g.b, q, none⟩ := by rw [FS.a_own h, ela_own]; simp
theorem Ht.storeFS {t : TypeId} {x y : Operand} {g : FS} {q : Nat} {cs' : List Value} {ty : TypeId} (hd : o.dst = none) (hop : o.op = .store t x y) (hx : ev n f x = .pointer (some (ela g.a q))) (hy : ev n f y = v)
    (hz : ∀ w, (sizeOf t).run P w = .ok 1 w) (hv : v.oneCell' = true) (hn : g.nil = false) (hi : LL[i]? = some (g.seg ty cs)) (ho : q < cs.length) (hcs : cs.set q v = cs') (hL : LL.set i (g.seg ty cs') = LL') :
    Ht (β := Unit) P n (Mem w0 M LL) f o (fun _ => f) (fun _ => Mem w0 M LL') := by
  rw [FS.seg_own hn] at hi hL
  rw [ela_fs hn] at hx
  exact Ht.store (o' := q) (j := 0) hd hop hx hy hz hv hi rfl (by simp; omega) (by rw [List.set_append_left _ _ ho, hcs]) (by simpa using hL)
def Src (P : Program) (S : World → Prop) (sz m : Nat) (x : Value) (news : List Value) : Prop := ∀ w, S w → (Builtin.firstCells sz m x).run P w = .ok news.toArray w
theorem Src.at {sz m len cap : Nat} {news : List Value} (hl : news.length = m * sz) (h : ∀ w, S w → At w a news) : Src P S sz m (.slice a len cap) news := fun w hS => by
  have h := h w hS
  cases a with
  | none =>
    have : news = [] := by
      cases news with
      | nil => rfl
      | cons x l => have := h.here (by simp); cases this
    subst this
    exact run_firstCells_none (P := P) w sz m len cap
  | some adr => exact run_firstCells_some (P := P) w sz m adr len cap news hl (fun q v hq => by simpa using h.cell q v hq)
theorem run_append_own' {t u ty e : TypeId} {eu : TypeId} {ii : TypeInfo} {z : Value} {g : FS} {nn m sz : Nat} {xs news : List Value} {x : Value} (ht : P.underlying t = some (.slice e)) (hu : P.underlying u = some (.slice eu)) (hi : P.info? e = some ii) (hz : ii.zero = some z) (hsize : ii.size = sz) (hzs : z.cells.size = sz)
    (hS : Mem w0 M LL w) (hL : LL[i]? = some (g.seg e xs)) (ok : g.ok sz nn) (hxs : xs.length = nn * sz) (hlen : (Builtin.lenOf x).run P w = .ok m w) (hsrc : ∀ k, (Builtin.firstCells sz m x).run P { w with drawn := k } = .ok news.toArray { w with drawn := k }) (hl : news.length = m * sz) (h1 : ∀ v ∈ news, v.oneCell' = true)
    (h63 : nn + m ≤ maxLen) (hbytes : (nn + m) * ii.bytes ≤ 140737488355328) :
    ∃ (g' : FS) (w' : World), (Builtin.append_ #[t, u] ty #[.slice g.a nn g.cap, x]).run P w = .ok (.slice g'.a (nn + m) g'.cap) w' ∧ Mem w0 M (LL.set i (g'.seg e (xs ++ news))) w' ∧ g'.ok sz (nn + m) ∧ (0 < nn + m → g'.nil = false) ∧ (g.nil = false → g'.nil = false) := by
  subst hsize
  have hu' := run_underlying (P := P) hu
  by_cases hroom : nn + m ≤ g.cap
  · cases hn : g.nil with
    | true =>
      have h0 := ok.h0 hn
      have hm0 : m = 0 := by omega
      have hx0 : xs = [] := FS.nil_cs ok hxs hn
      have hnw : news = [] := by rw [hm0, Nat.zero_mul] at hl; exact List.length_eq_zero_iff.1 hl
      refine ⟨g, w, ?_, ?_, ?_, ?_, fun h => (by cases h)⟩
      · have ha : g.a = none := by simp [FS.a, hn]
        rw [ha]
        have hs := hsrc w.drawn
        simp [Builtin.append_, run_underlying ht, hu', sizeOf, typeInfo, hi, hlen, hroom, hs]
      · rw [hnw, List.append_nil]
        obtain ⟨hlt, hLe⟩ := List.getElem?_eq_some_iff.1 hL
        rw [← hLe, List.set_getElem_self]; exact hS
      · rw [hm0]; exact ok
      · intro h; omega
    | false =>
      rw [FS.seg_own hn] at hL
      have hs := hsrc w.drawn
      have hcapl := ok.len
      have hfit : nn * ii.size + news.length ≤ (xs ++ g.rest).length := by
        rw [List.length_append, hxs, hl, ← Nat.add_mul]; exact Nat.le_trans (Nat.mul_le_mul_right _ hroom) hcapl
      obtain ⟨w', hst, hm'⟩ := run_storeCells (P := P) (j := 0) (b := g.b) (t := e) hS news (nn * ii.size) 0 hL rfl hfit h1
      have hset : putAt (xs ++ g.rest) (nn * ii.size) news = xs ++ news ++ g.rest.drop news.length := by
        unfold putAt
        rw [← hxs, List.take_left, List.drop_append, List.drop_of_length_le (by omega)]
        simp
      rw [hset] at hm'
      refine ⟨⟨false, g.b, g.cap, g.rest.drop news.length⟩, w', ?_, ?_, ?_, fun _ => rfl, fun _ => rfl⟩
      · rw [FS.a_own hn]
        simp [Builtin.append_, run_underlying ht, hu', sizeOf, typeInfo, hi, hlen, hroom, hs, Addr.add_lit, hst, FS.a]
      · simpa [FS.seg] using hm'
      · refine ⟨fun h => (by cases h), hroom, ok.mx, ?_⟩
        rw [List.length_append, hxs] at hfit
        simp only [List.length_drop, hl] at hfit ⊢
        rw [Nat.add_mul]
        omega
  · have hn : ¬ (nn + m ≤ g.cap) := hroom
    have h63' : ¬ (9223372036854775807 < ((nn : Int) + (m : Int))) := by simp only [maxLen] at h63; omega
    have hle := ok.le
    have hfits : Builtin.nextslicecap (nn + m) g.cap * ii.bytes ≤ 281474976710656 := growslice_fits (by omega) hbytes
    have h48' : ¬ (281474976710656 < Builtin.nextslicecap (nn + m) g.cap * ii.bytes) := by omega
    have hat : At w g.a xs := FS.at hS hL (FS.nil_cs ok hxs)
    have hfo : (Builtin.firstCells ii.size nn (.slice g.a nn g.cap)).run P w.drew = .ok xs.toArray w.drew :=
      Src.at (P := P) (S := fun w' => w' = w.drew) hxs (fun w' e => by subst e; exact hat.of_block fun _ => rfl) w.drew rfl
    have hf : (Builtin.firstCells ii.size m x).run P w.drew = .ok news.toArray w.drew := hsrc (w.drawn + 1)
    have hge := grownCap_ge w (nn + m) g.cap e
    have hlem := grownCap_le_maxLen w (nn + m) g.cap e h63
    refine ⟨⟨false, w.heap.size, grownCap w (nn + m) g.cap e, (Builtin.zeroCells z.cells (grownCap w (nn + m) g.cap e - (nn + m))).toList⟩, w.drew.alloc (.cells (xs ++ news ++ (Builtin.zeroCells z.cells (grownCap w (nn + m) g.cap e - (nn + m))).toList).toArray e), ?_, ?_, ?_, fun _ => rfl, fun _ => rfl⟩
    · simp [Builtin.append_, run_underlying ht, hu', sizeOf, typeInfo, zeroValue, hi, hz, hlen, hn, h63', h48', Question.forced, hf, hfo, newRow, grownCap, FS.a_mk]
      congr 2
      apply Array.ext'
      simp [List.append_assoc]
    · have h2 := (hS.drawn (w.drawn + 1)).alloc (xs ++ news ++ (Builtin.zeroCells z.cells (grownCap w (nn + m) g.cap e - (nn + m))).toList) e
      have hlt := (List.getElem?_eq_some_iff.1 hL).1
      -- the old segment is dropped, the new one stands in its place
      obtain ⟨k, hk⟩ : ∃ k, k = LL.length := ⟨_, rfl⟩
      refine h2.pick ((List.range LL.length).map fun q => if q = i then 0 else q + 1) ?_ ?_
      · rw [List.Nodup, List.pairwise_map]
        refine List.Pairwise.imp_of_mem ?_ (List.nodup_range (n := LL.length))
        intro p q _ _ hpq e
        split at e <;> split at e <;> omega
      · unfold pickL
        apply List.ext_getElem?
        intro q
        rw [List.map_map, List.getElem?_map, List.getElem?_set]
        by_cases hq : q < LL.length
        · rw [List.getElem?_range hq]
          simp only [Option.map_some, Function.comp]
          by_cases hqi : q = i
          · subst hqi
            rw [if_pos rfl, if_pos rfl, if_pos hq]
            simp [FS.seg]
          · rw [if_neg hqi, if_neg (fun e => hqi e.symm)]
            simp [List.getElem?_eq_getElem hq]
        · rw [List.getElem?_eq_none (by simpa using hq : (List.range LL.length).length ≤ q)]
          split
          · rename_i e; subst e; exact absurd hlt hq
          · rw [List.getElem?_eq_none (by omega)]; rfl
    · refine ⟨fun h => (by cases h), hge, hlem, ?_⟩
      simp only [Array.length_toList, size_zeroCells, hzs, ← Nat.add_mul]
      rw [show nn + m + (grownCap w (nn + m) g.cap e - (nn + m)) = grownCap w (nn + m) g.cap e by omega]
      exact Nat.le_refl _
theorem Ht.append {t u e : TypeId} {eu : TypeId} {ii : TypeInfo} {z : Value} {s x : Operand} {g : FS} {xv : Value} {nn m k sz bytes : Nat} {xs news cs' : List Value} {Lo : FS → List (List Blk)} (hd : o.dst = some d)
    (ho : o.op = .call { callee := .builtin .append, args := #[s, x], argTypes := #[t, u] }) (ht : P.underlying t = some (.slice e)) (hu : P.underlying u = some (.slice eu)) (hi : P.info? e = some ii) (hz : ii.zero = some z)
    (hsize : ii.size = sz) (hby : ii.bytes = bytes) (hzs : z.cells.size = sz) (hs : ev n f s = .slice g.a nn g.cap) (hx : ev n f x = xv) (hL : LL[i]? = some (g.seg e xs)) (ok : g.ok sz nn) (hxs : xs.length = nn * sz)
    (hlen : ∀ w, (Builtin.lenOf xv).run P w = .ok m w) (hsrc : Src P (Mem w0 M LL) sz m xv news) (hl : news.length = m * sz) (h1 : ∀ v ∈ news, v.oneCell' = true) (hk : nn + m = k) (h63 : k ≤ maxLen) (hbytes : k * bytes ≤ 140737488355328)
    (hcs : xs ++ news = cs') (hLo : ∀ g', LL.set i (g'.seg e cs') = Lo g') :
    Ht (β := { g' : FS // g'.ok sz k ∧ (0 < k → g'.nil = false) ∧ (g.nil = false → g'.nil = false) }) P n (Mem w0 M LL) f o (fun g' => upd f d (.slice g'.1.a k g'.1.cap)) (fun g' => Mem w0 M (Lo g'.1)) := fun ds w hS K hK => by
  subst hby; subst hk; subst hcs
  obtain ⟨g', w', hrun, hm, hok, hnn, hnn2⟩ := run_append_own' (P := P) (t := t) (u := u) (ty := o.type) (x := xv) ht hu hi hz hsize hzs hS hL ok hxs (hlen w) (fun k => hsrc _ (hS.drawn k)) hl h1 h63 hbytes
  rw [hLo] at hm
  unfold Oper.wp execOp
  simp only [ho, resolve, invoke, builtin, Sem.run_bind, Sem.run_pure, Result.andThen_ok, List.map_toArray, List.map_cons, List.map_nil, Fr_eval, hs, hx, hrun]
  simp only [Oper.upon, hd, Fr_put]
  exact hK ⟨g', hok, hnn, hnn2⟩ w' hm
theorem HtS.append {t u e : TypeId} {eu : TypeId} {ii : TypeInfo} {z : Value} {s x : Operand} {g : FS} {xv : Value} {nn m k sz bytes : Nat} {xs news cs' : List Value} {Lo : FS → List (List Blk)} (hd : o.dst = some d)
    (ho : o.op = .call { callee := .builtin .append, args := #[s, x], argTypes := #[t, u] }) (ht : P.underlying t = some (.slice e)) (hu : P.underlying u = some (.slice eu)) (hi : P.info? e = some ii) (hz : ii.zero = some z)
    (hsize : ii.size = sz) (hby : ii.bytes = bytes) (hzs : z.cells.size = sz) (hs : ev n f s = .slice g.a nn g.cap) (hx : ev n f x = xv) (hL : LL[i]? = some (g.seg e xs)) (ok : g.ok sz nn) (hxs : xs.length = nn * sz)
    (hlen : ∀ w, (Builtin.lenOf xv).run P w = .ok m w) (hsrc : Src P (Mem w0 M LL) sz m xv news) (hl : news.length = m * sz) (h1 : ∀ v ∈ news, v.oneCell' = true) (hk : nn + m = k) (h63 : k ≤ maxLen) (hbytes : k * bytes ≤ 140737488355328)
    (hcs : xs ++ news = cs') (hLo : ∀ g', LL.set i (g'.seg e cs') = Lo g') :
    HtS P n (Mem w0 M LL) f o (fun g' : FS => g'.ok sz k ∧ (0 < k → g'.nil = false) ∧ (g.nil = false → g'.nil = false)) (fun g' => upd f d (.slice g'.a k g'.cap)) (fun g' => Mem w0 M (Lo g')) :=
  Ht.append hd ho ht hu hi hz hsize hby hzs hs hx hL ok hxs hlen hsrc hl h1 hk h63 hbytes hcs hLo
theorem Ht.make {t e : TypeId} {ii : TypeInfo} {z : Value} {l c : Operand} {kl kc : IntKind} {lv : Int} {sz bytes : Nat} {cs : List Value} (hd : o.dst = some d) (hop : o.op = .makeSlice t l c) (ht : P.underlying t = some (.slice e)) (hi : P.info? e = some ii) (hz : ii.zero = some z)
    (hsize : ii.size = sz) (hby : ii.bytes = bytes) (hl : ev n f l = .int kl lv) (hc : ev n f c = .int kc lv) (h0 : 0 ≤ lv) (hbytes : (bytes : Int) * lv ≤ 281474976710656) (h63 : lv ≤ 9223372036854775807) (hcs : (madeCells z.cells (lv.toNat * sz)).toList = cs) :
    Ht P n (Mem w0 M LL) f o (fun b => upd f d (.slice (some ⟨b, 0, none⟩) lv.toNat lv.toNat)) (fun b => Mem w0 M ([cb b cs e] :: LL)) := Ht.made (mk := fun b => .slice (some ⟨b, 0, none⟩) lv.toNat lv.toNat) hd fun w => by
  subst hsize; subst hby; subst hcs
  have h := run_make (P := P) w t e ii z ht hi hz kl kc lv lv h0 (Int.le_refl _) hbytes h63
  simp [execOp, hop, hl, hc, h]
theorem Ht.copy {td tx e : TypeId} {ii : TypeInfo} {x y : Operand} {xv : Value} {dl dc m q sz o' : Nat} {t : TypeId} {cs' news : List Value} (hd : o.dst = some d)
    (ho : o.op = .call { callee := .builtin .copy, args := #[x, y], argTypes := #[td, tx] }) (ht : P.underlying td = some (.slice e)) (hi : P.info? e = some ii) (hsize : ii.size = sz)
    (hx : ev n f x = .slice (some ⟨b, o', none⟩) dl dc) (hy : ev n f y = xv) (hL : LL[i]? = some s) (hj : s[j]? = some (cb b cs t)) (hlen : ∀ w, (Builtin.lenOf xv).run P w = .ok m w) (hq : Nat.min m dl = q) (hsrc : Src P (Mem w0 M LL) sz q xv news)
    (hl : o' + news.length ≤ cs.length) (h1 : ∀ v ∈ news, v.oneCell' = true) (hcs : putAt cs o' news = cs') (hL' : LL.set i (s.set j (cb b cs' t)) = LL') :
    Ht (β := Unit) P n (Mem w0 M LL) f o (fun _ => upd f d (.int .i64 q)) (fun _ => Mem w0 M LL') := fun ds w hS K hK => by
  subst hsize
  obtain ⟨w', hst, hm⟩ := run_storeCells (P := P) hS news o' 0 hL hj hl h1
  rw [hcs, hL'] at hm
  have hs := hsrc w hS
  have hrun : (Builtin.copy_ #[td, tx] o.type #[ev n f x, ev n f y]).run P w = .ok (goInt q) w' := by
    simp [Builtin.copy_, hx, hy, run_underlying ht, sizeOf, typeInfo, hi, hlen, hq, hs, hst]
  unfold Oper.wp execOp
  simp only [ho, resolve, invoke, builtin, Sem.run_bind, Sem.run_pure, Result.andThen_ok, List.map_toArray, List.map_cons, List.map_nil, Fr_eval, hrun]
  simp only [Oper.upon, hd, Fr_put]
  exact hK () w' hm
theorem putAt_nil' (cs : List Value) (o : Nat) (news : List Value) (h : news.length = 0) : putAt cs o news = cs := by
  obtain rfl := List.length_eq_zero_iff.1 h
  exact putAt_nil cs o
theorem Ht.copySub {td tx e : TypeId} {ii : TypeInfo} {x y : Operand} {xv : Value} {dl dc m q sz o' cap : Nat} {t : TypeId} {cs' news : List Value} (hd : o.dst = some d)
    (ho : o.op = .call { callee := .builtin .copy, args := #[x, y], argTypes := #[td, tx] }) (ht : P.underlying td = some (.slice e)) (hi : P.info? e = some ii) (hsize : ii.size = sz)
    (hx : ev n f x = .slice (sla (some ⟨b, 0, none⟩) cap o' sz) dl dc) (hz : cap = o' → q = 0) (hy : ev n f y = xv) (hL : LL[i]? = some s) (hj : s[j]? = some (cb b cs t)) (hlen : ∀ w, (Builtin.lenOf xv).run P w = .ok m w) (hq : Nat.min m dl = q) (hsrc : Src P (Mem w0 M LL) sz q xv news) (hnl : news.length = q * sz)
    (hl : o' * sz + news.length ≤ cs.length) (h1 : ∀ v ∈ news, v.oneCell' = true) (hcs : putAt cs (o' * sz) news = cs') (hL' : LL.set i (s.set j (cb b cs' t)) = LL') :
    Ht (β := Unit) P n (Mem w0 M LL) f o (fun _ => upd f d (.int .i64 q)) (fun _ => Mem w0 M LL') := by
  by_cases hc : cap = o'
  · have hq0 := hz hc
    have hn0 : news.length = 0 := by rw [hnl, hq0, Nat.zero_mul]
    unfold sla at hx
    rw [if_pos hc] at hx
    exact Ht.copy (o' := 0) hd ho ht hi hsize hx hy hL hj hlen hq hsrc (by omega) h1 (by rw [putAt_nil' _ _ _ hn0, ← hcs, putAt_nil' _ _ _ hn0]) hL'
  · unfold sla at hx
    rw [if_neg hc] at hx
    simp only [Option.map_some, add_lit, Nat.zero_add] at hx
    exact Ht.copy (o' := o' * sz) hd ho ht hi hsize hx hy hL hj hlen hq hsrc hl h1 hcs hL'
/-! ### Elements of one cell each -/
def mc {α : Type} (g : α → Value) (xs : List α) : List Value := xs.map g
section
variable {α : Type} {g : α → Value}
theorem mc_len (xs : List α) : (mc g xs).length = xs.length := by simp [mc]
theorem mc_len1 (xs : List α) : (mc g xs).length = xs.length * 1 := by simp [mc]
theorem mc_get {xs : List α} {k : Nat} (d : α) (h : k < xs.length) : (mc g xs)[k]? = some (g (xs.getD k d)) := by
  simp [mc, h]
theorem mc_get1 {xs : List α} {k : Nat} (d : α) (h : k < xs.length) : (mc g xs)[k * 1]? = some (g (xs.getD k d)) := by
  rw [Nat.mul_one]; exact mc_get d h
theorem mc_app (xs ys : List α) : mc g xs ++ mc g ys = mc g (xs ++ ys) := by simp [mc]
theorem mc_drop1 (xs : List α) (k : Nat) : (mc g xs).drop (k * 1) = mc g (xs.drop k) := by simp [mc]
theorem mc_take (xs : List α) (k : Nat) : (mc g xs).take k = mc g (xs.take k) := by simp [mc]
theorem mc_one (hg : ∀ x, (g x).oneCell' = true) (xs : List α) : ∀ v ∈ mc g xs, v.oneCell' = true := fun v hv => by
  obtain ⟨b, _, rfl⟩ := List.mem_map.1 hv
  exact hg b
theorem mc_set1 (xs : List α) (k : Nat) (b : α) : (mc g xs).set (k * 1) (g b) = mc g (xs.set k b) := by simp [mc, List.map_set]
theorem mc_put (xs ys : List α) (k : Nat) : putAt (mc g xs) k (mc g ys) = mc g (xs.take k ++ ys ++ xs.drop (k + ys.length)) := by simp [mc, putAt]
theorem mc_put1 (xs ys : List α) (k : Nat) : putAt (mc g xs) (k * 1) (mc g ys) = mc g (xs.take k ++ ys ++ xs.drop (k + ys.length)) := by rw [Nat.mul_one]; exact mc_put xs ys k
theorem mc_zero (k : Nat) (x : α) (h : (g x).cells = #[g x]) : (madeCells (g x).cells (k * 1)).toList = mc g (List.replicate k x) := by
  rw [h, Nat.mul_one, toList_madeCells_one]
  simp [mc]
end
section
variable {α : Type} {g : α → Value} {w : World} {a : Option Addr} {xs : List α}
theorem At.mdrop (h : At w a (mc g xs)) (cap k : Nat) (hl : xs.length ≤ cap) : At w (sla a cap k 1) (mc g (xs.drop k)) := by
  have := h.drop cap k 1 (by rw [mc_len]; omega)
  rwa [mc_drop1] at this
theorem At.mtake (h : At w a (mc g xs)) (k : Nat) : At w a (mc g (xs.take k)) := by
  have := h.take k
  rwa [mc_take] at this
end
abbrev b8 (b : UInt8) : Value := .int .u8 ((b.toNat : Nat) : Int)
abbrev byc (xs : List UInt8) : List Value := mc b8 xs
def bstr (xs : List UInt8) : ByteArray := ⟨xs.toArray⟩
end
abbrev sV (g : FS) (n : Nat) : Value := .slice g.a n g.cap
end Go.Proofs.YtmonlaoaengfdaaGreatDoor.Base
namespace Go.Proofs.YtmonlaoaengfdaaGreatDoor.Base
theorem u8_wrapN (n : Nat) : IntKind.u8.wrap ((n : Nat) : Int) = (((UInt8.ofNat n).toNat : Nat) : Int) := by
  simp only [IntKind.wrap, IntKind.bits, IntKind.signed, Bool.false_and, Bool.false_eq_true, if_false]
  rw [UInt8.toNat_ofNat']
  rfl
theorem ishr_nat {k : IntKind} (a c : Nat) (hc : c ≤ k.bits) : ishr k ((a : Nat) : Int) ((c : Nat) : Int) = ((a / 2 ^ c : Nat) : Int) := by
  unfold ishr
  rw [Int.toNat_natCast, Nat.min_eq_left hc, Int.fdiv_eq_ediv_of_nonneg _ (by exact Int.pow_nonneg (by decide))]
  rw [Int.natCast_ediv, Int.natCast_pow]
  rfl
theorem wrap_nat {k : IntKind} (hs : k.signed = false) (a : Nat) : k.wrap ((a : Nat) : Int) = ((a % 2 ^ k.bits : Nat) : Int) := by
  simp only [IntKind.wrap, hs, Bool.false_and, Bool.false_eq_true, if_false]
  rw [Int.natCast_emod, Int.natCast_pow]
  rfl
theorem iquo_natu {k : IntKind} {a b : Nat} (hs : k.signed = false) (h : a < 2 ^ k.bits) : iquo k ((a : Nat) : Int) ((b : Nat) : Int) = ((a / b : Nat) : Int) := by
  unfold iquo
  have e : (a : Int).tdiv (b : Int) = ((a / b : Nat) : Int) := rfl
  rw [e, wrap_nat hs, Nat.mod_eq_of_lt (Nat.lt_of_le_of_lt (Nat.div_le_self _ _) h)]
theorem iadd_natu {k : IntKind} {a b : Nat} (hs : k.signed = false) (h : a + b < 2 ^ k.bits) : iadd k ((a : Nat) : Int) ((b : Nat) : Int) = ((a + b : Nat) : Int) := by
  unfold iadd
  rw [← Int.natCast_add, wrap_nat hs, Nat.mod_eq_of_lt h]
theorem iadd_mod {k : IntKind} {a b : Nat} (hs : k.signed = false) : iadd k ((a : Nat) : Int) ((b : Nat) : Int) = (((a + b) % 2 ^ k.bits : Nat) : Int) := by
  unfold iadd
  rw [← Int.natCast_add, wrap_nat hs]
theorem imul_natu {k : IntKind} {a b : Nat} (hs : k.signed = false) (h : a * b < 2 ^ k.bits) : imul k ((a : Nat) : Int) ((b : Nat) : Int) = ((a * b : Nat) : Int) := by
  unfold imul
  rw [← Int.natCast_mul, wrap_nat hs, Nat.mod_eq_of_lt h]
theorem imul_mod {k : IntKind} {a b : Nat} (hs : k.signed = false) : imul k ((a : Nat) : Int) ((b : Nat) : Int) = (((a * b) % 2 ^ k.bits : Nat) : Int) := by
  unfold imul
  rw [← Int.natCast_mul, wrap_nat hs]
theorem isub_natu {k : IntKind} {a b : Nat} (hs : k.signed = false) (h : b ≤ a) (h2 : a < 2 ^ k.bits) : isub k ((a : Nat) : Int) ((b : Nat) : Int) = ((a - b : Nat) : Int) := by
  unfold isub
  rw [← Int.natCast_sub h, wrap_nat hs, Nat.mod_eq_of_lt (by omega)]
theorem ishl_mod {k : IntKind} (hs : k.signed = false) (a c : Nat) (hc : c ≤ k.bits) : ishl k ((a : Nat) : Int) ((c : Nat) : Int) = (((a * 2 ^ c) % 2 ^ k.bits : Nat) : Int) := by
  unfold ishl
  rw [Int.toNat_natCast, Nat.min_eq_left hc, show ((a : Int) * 2 ^ c) = ((a * 2 ^ c : Nat) : Int) by push_cast; rfl, wrap_nat hs]
theorem icnv_mod {k : IntKind} (hs : k.signed = false) (a : Nat) : icnv k ((a : Nat) : Int) = ((a % 2 ^ k.bits : Nat) : Int) := by
  unfold icnv; exact wrap_nat hs a
theorem bv_nat (m a : Nat) : (BitVec.ofInt m ((a : Nat) : Int)).toNat = a % 2 ^ m := by
  rw [BitVec.ofInt_natCast, BitVec.toNat_ofNat]
theorem band_nat {k : IntKind} (hs : k.signed = false) {a b : Nat} (ha : a < 2 ^ k.bits) (hb : b < 2 ^ k.bits) : band k ((a : Nat) : Int) ((b : Nat) : Int) = ((a &&& b : Nat) : Int) := by
  unfold band
  rw [BitVec.toNat_and, bv_nat, bv_nat, Nat.mod_eq_of_lt ha, Nat.mod_eq_of_lt hb, wrap_nat hs, Nat.mod_eq_of_lt (Nat.lt_of_le_of_lt Nat.and_le_left ha)]
theorem bor_nat {k : IntKind} (hs : k.signed = false) {a b : Nat} (ha : a < 2 ^ k.bits) (hb : b < 2 ^ k.bits) : bor k ((a : Nat) : Int) ((b : Nat) : Int) = ((a ||| b : Nat) : Int) := by
  unfold bor
  rw [BitVec.toNat_or, bv_nat, bv_nat, Nat.mod_eq_of_lt ha, Nat.mod_eq_of_lt hb, wrap_nat hs, Nat.mod_eq_of_lt (Nat.or_lt_two_pow ha hb)]
theorem bxor_nat {k : IntKind} (hs : k.signed = false) {a b : Nat} (ha : a < 2 ^ k.bits) (hb : b < 2 ^ k.bits) : bxor k ((a : Nat) : Int) ((b : Nat) : Int) = ((a ^^^ b : Nat) : Int) := by
  unfold bxor
  rw [BitVec.toNat_xor, bv_nat, bv_nat, Nat.mod_eq_of_lt ha, Nat.mod_eq_of_lt hb, wrap_nat hs, Nat.mod_eq_of_lt (Nat.xor_lt_two_pow ha hb)]
theorem band_mask {k : IntKind} (hs : k.signed = false) {a c : Nat} (ha : a < 2 ^ k.bits) (hc : c ≤ k.bits) (m : Nat) (hm : m = 2 ^ c - 1) : band k ((a : Nat) : Int) ((m : Nat) : Int) = ((a % 2 ^ c : Nat) : Int) := by
  subst hm
  rw [band_nat hs ha (by have := Nat.pow_le_pow_right (n := 2) (by decide) hc; have := Nat.two_pow_pos c; omega), Nat.and_two_pow_sub_one_eq_mod]
theorem bnot_nat {k : IntKind} (hs : k.signed = false) {a : Nat} (ha : a < 2 ^ k.bits) (m : Nat) (hm : m = 2 ^ k.bits - 1) : bxor k ((m : Nat) : Int) ((a : Nat) : Int) = ((m - a : Nat) : Int) := by
  subst hm
  rw [bxor_nat hs (by have := Nat.two_pow_pos k.bits; omega) ha]
  congr 1
  apply Nat.eq_of_testBit_eq
  intro i
  rw [Nat.testBit_xor, Nat.testBit_two_pow_sub_one, Nat.sub_sub, Nat.add_comm 1 a, Nat.testBit_two_pow_sub_succ ha]
  by_cases hi : i < k.bits
  · simp [hi]
  · have : a.testBit i = false := Nat.testBit_lt_two_pow (Nat.lt_of_lt_of_le ha (Nat.pow_le_pow_right (by decide) (by omega)))
    simp [hi, this]
theorem shl_or {a b c : Nat} (h : b < 2 ^ c) : a * 2 ^ c ||| b = a * 2 ^ c + b := by
  rw [← Nat.shiftLeft_eq, ← Nat.shiftLeft_add_eq_or_of_lt h]
theorem Mem.push {w0 w : World} {M : List Nat} {LL : List (List Blk)} (h : Mem w0 M LL w) : Mem w0 M ([] :: LL) w := h
theorem Wl.push {r : Option Nat} {P : Program} {ops : Array Oper} {K : Act → World → Prop} {l : List Oper} {n : Nat} {ds : List Deferred} {f : Nat → Value} {w0 : World} {M : List Nat} {LL : List (List Blk)} (h : Wl r P ops K l n ds f (Mem w0 M ([] :: LL))) : Wl r P ops K l n ds f (Mem w0 M LL) := Wl.conseq (fun _ h => h) h
/-! ### Views -/
section
variable {w0 w : World} {M : List Nat} {LL : List (List Blk)} {a a' a'' : Option Addr}
theorem At.mem' {cs : List Value} (h : At w0 a cs) (hm : Mem w0 M LL w) (hM : 0 < cs.length → (a.getD default).block ∉ M) : At w a cs := h.of_block fun h0 => Mem0.same hm _ (h.lt h0) (hM h0)
theorem At.ne {α : Type} {g : α → Value} {xs : List α} {cs : List Value} {b : Nat} {t : TypeId} {fz : Nat × Nat} (h : At w a (mc g xs)) (hb : w.heap[b]? = some (.cells cs.toArray t fz)) (hd : ∀ v ∈ cs, ∀ x, v ≠ g x) (h0 : 0 < (mc g xs).length) : (a.getD default).block ≠ b := fun e => by
  rw [mc_len] at h0
  have hx : (mc g xs)[0]? = some (g xs[0]) := by simp [mc, h0]
  have h1 := h.cell 0 _ hx
  unfold World.cell? at h1
  rw [add_block, e, hb] at h1
  simp only at h1
  split at h1
  · cases h1
  · have h2 : cs[((a.getD default).add 0).off]? = some (g xs[0]) := by simpa using h1
    exact hd _ (List.mem_of_getElem? h2) _ rfl
def View (a' : Option Addr) (zs : List UInt8) (a : Option Addr) (ys : List UInt8) : Prop := ∀ w, At w a (byc ys) → At w a' (byc zs)
theorem View.refl (a : Option Addr) (ys : List UInt8) : View a ys a ys := fun _ h => h
theorem View.trans {zs ys xs : List UInt8} (h : View a'' zs a' ys) (k : View a' ys a xs) : View a'' zs a xs := fun w hw => h w (k w hw)
theorem View.nil (a' a : Option Addr) (ys : List UInt8) : View a' [] a ys := fun w _ => At.nil w a'
theorem View.drop {ys : List UInt8} (cap k : Nat) (h : ys.length ≤ cap) : View (sla a cap k 1) (ys.drop k) a ys := fun w hw => hw.mdrop cap k h
end
theorem Mem.one {w0 w : World} {M : List Nat} {LL : List (List Blk)} {i : Nat} {s : List Blk} (h : Mem w0 M LL w) (hi : LL[i]? = some s) : Mem w (s.map (·.b)) [s] w := by
  have h1 : Mem w0 M ([s] ++ []) w := h.pick [i] (by simp) (by simp [pickL, hi])
  have h2 := h1.local
  simpa using h2
abbrev n16 (n : Nat) : Value := .int .u16 ((n : Nat) : Int)
/-! ### New bytes, whatever they are -/
theorem digits_byc : ∀ (n t : Nat) (acc : List UInt8), ∃ zs : List UInt8, zs.length = acc.length + n ∧ Extern.BytealgMakeNoZero.digits n t (byc acc).toArray = (byc zs).toArray
  | 0, t, acc => ⟨acc, rfl, rfl⟩
  | n + 1, t, acc => by
    obtain ⟨zs, h1, h2⟩ := digits_byc n (t / 256) (acc ++ [UInt8.ofNat (t % 256)])
    refine ⟨zs, by rw [h1]; simp; omega, ?_⟩
    rw [Extern.BytealgMakeNoZero.digits, ← h2]
    congr 1
    apply Array.ext'
    simp only [Array.toList_push, byc, mc, List.map_append, List.map_cons, List.map_nil]
    congr 1
    unfold b8
    rw [UInt8.toNat_ofNat', Nat.mod_eq_of_lt (show t % 256 < 2 ^ 8 by have := Nat.mod_lt t (show 0 < 256 by decide); simpa using this)]
    rfl
structure MZ where
  b : Nat
  zs : List UInt8
theorem Ht.makeNoZero {P : Program} {n : Nat} {f : Nat → Value} {o : Oper} {d : Nat} {w0 : World} {M : List Nat} {LL : List (List Blk)} {ps : Array TypeId} {t e : TypeId} {k fid : Nat} {x y : Operand} {ats : Array TypeId} {fn : Func} (hd : o.dst = some d) (hop : o.op = .call { callee := .value x, args := #[y], argTypes := ats }) (hx : ev n f x = .func (.func fid) #[] #[]) (hy : ev n f y = .int .i64 ((k : Nat) : Int))
    (hfn : P.funcs[fid]? = some fn) (h1' : (fn.name == "runtime.NumGoroutine") = false) (h2' : fn.body.isNone = true) (h3' : Extern.findNext fn = none) (h4' : Extern.find fn = some (Extern.BytealgMakeNoZero.makeNoZero ps #[t])) (ht : P.underlying t = some (.slice e)) (hk : k ≤ 70368744177664) :
    Ht (β := { x : MZ // k ≤ x.zs.length ∧ x.zs.length ≤ maxLen }) P n (Mem w0 M LL) f o (fun x => upd f d (.slice (some ⟨x.1.b, 0, none⟩) k x.1.zs.length)) (fun x => Mem w0 M ([cb x.1.b (byc x.1.zs) e] :: LL)) := fun ds w hS K hK => by
  have hdef : Extern.BytealgMakeNoZero.makeNoZero ps #[t] #[.int .i64 k] =
      (do
        let .slice elem ← underlying t | stuck "bytealg.MakeNoZero: slice type expected"
        if (k : Int) < 0 || (k : Int) > 2 ^ 48 then runtimePanic (.error "makeslice: len out of range")
        let cap ← choose (.appendCap (k : Int).toNat 0 elem)
        askRoom cap
        let bytes ← choose (.extern "internal/bytealg.MakeNoZero.bytes" 0)
        let a ← newRow elem (Extern.BytealgMakeNoZero.digits cap bytes #[])
        pure (.slice (some a) (k : Int).toNat cap)) := rfl
  obtain ⟨zs, hz, hzs⟩ := digits_byc (grownCap w k 0 e) ((Question.extern "internal/bytealg.MakeNoZero.bytes" 0).cut (w.tape (w.drawn + 1) (.extern "internal/bytealg.MakeNoZero.bytes" 0))) []
  have hz' : zs.length = grownCap w k 0 e := by simpa using hz
  have hrun : (Extern.BytealgMakeNoZero.makeNoZero ps #[t] #[.int .i64 ((k : Nat) : Int)]).run P w = .ok (.slice (some ⟨w.heap.size, 0, none⟩) k zs.length) (w.drew.drew.alloc (.cells (byc zs).toArray e)) := by
    rw [hdef]
    have h1 : ¬ (k : Int) < 0 := by omega
    have h2 : ¬ (281474976710656 : Int) < (k : Int) := by omega
    have hz2 : Extern.BytealgMakeNoZero.digits (grownCap w k 0 e) ((Question.extern "internal/bytealg.MakeNoZero.bytes" 0).cut (w.tape (w.drawn + 1) (.extern "internal/bytealg.MakeNoZero.bytes" 0))) #[] = (byc zs).toArray := hzs
    simp [run_underlying ht, h1, h2, Question.forced, newRow, hz', ← hz2, grownCap]
  have hcf : (callFunc fid #[.int .i64 ((k : Nat) : Int)]).run P w = .ok (.value (.slice (some ⟨w.heap.size, 0, none⟩) k zs.length)) (w.drew.drew.alloc (.cells (byc zs).toArray e)) := by
    rw [run_callFunc_extern hfn h1' h2' h3' h4', hrun]
    rfl
  have hex : (execOp (ev n f) o).run P w = .ok (.value (.slice (some ⟨w.heap.size, 0, none⟩) k zs.length)) (w.drew.drew.alloc (.cells (byc zs).toArray e)) := by
    have hcf' := hcf
    simp only [execOp, hop, resolve, hx, hy, Sem.run_bind, Sem.run_pure, Result.andThen_ok, List.map_toArray, List.map_cons, List.map_nil]
    simp [Deferred.ofValue, invoke, hcf']
  unfold Oper.wp
  rw [Fr_eval, hex]
  simp only [Oper.upon, hd, Fr_put]
  have hm := ((hS.drawn (w.drawn + 1)).drawn (w.drawn + 1 + 1)).alloc (byc zs) e
  refine hK ⟨⟨w.heap.size, zs⟩, ?_, ?_⟩ _ hm
  · show k ≤ zs.length
    rw [hz']; exact grownCap_ge w k 0 e
  · show zs.length ≤ maxLen
    rw [hz']; exact grownCap_le_maxLen w k 0 e (by simp only [maxLen]; omega)
end Go.Proofs.YtmonlaoaengfdaaGreatDoor.Base
