import Derived.Test.YtmonlaoaengfdaaGreatDoorM0
set_option linter.unusedVariables false
set_option linter.unusedSimpArgs false
namespace Go.Proofs.YtmonlaoaengfdaaGreatDoor.Base
open Go.RowKit
/-! ### Frames -/
def upd (f : Nat → Value) (d : Nat) (v : Value) : Nat → Value := fun k => bif Nat.beq k d then v else f k
def Fr (n : Nat) (ds : List Deferred) (f : Nat → Value) : Act := { tmps := Array.ofFn (n := n) fun i => f i.1, defers := ds }
def ev (n : Nat) (f : Nat → Value) : Operand → Value
  | .tmp t => bif Nat.blt t n then f t else undef
  | .const v => v
  | .global g => .pointer (some ⟨g, 0, none⟩)
  | .func k => .func (.func k) #[] #[]
theorem Fr_eval (n : Nat) (ds : List Deferred) (f : Nat → Value) : (Fr n ds f).eval = ev n f := by
  funext x
  cases x with
  | tmp t =>
    by_cases h : t < n
    · have hb : Nat.blt t n = true := by simpa [Nat.blt_eq] using h
      simp [Act.eval, ev, Fr, h, hb, Array.getD]
    · have hb : Nat.blt t n = false := by
        cases hb : Nat.blt t n with
        | false => rfl
        | true => exact absurd (by simpa [Nat.blt_eq] using hb) h
      simp [Act.eval, ev, Fr, h, hb, Array.getD]
  | const v => rfl
  | global g => rfl
  | func k => rfl
theorem Fr_put (n : Nat) (ds : List Deferred) (f : Nat → Value) (d : Nat) (v : Value) : (Fr n ds f).put (some d) v = Fr n ds (upd f d v) := by
  simp only [Act.put, Fr, Act.mk.injEq, and_true]
  apply Array.ext
  · simp
  · intro i h1 h2
    simp only [Array.size_setIfInBounds, Array.size_ofFn] at h1
    by_cases hi : d = i
    · subst hi
      simp [upd]
    · rw [Array.getElem_setIfInBounds_ne (by simpa using h1) hi]
      have hb : Nat.beq i d = false := by
        cases hb : Nat.beq i d with
        | false => rfl
        | true => exact absurd (Nat.eq_of_beq_eq_true hb).symm hi
      simp [upd, hb]
theorem Fr_put_none (n : Nat) (ds : List Deferred) (f : Nat → Value) (v : Value) : (Fr n ds f).put none v = Fr n ds f := rfl
def yl (ops : Array Oper) (n : Nat) (f : Nat → Value) (j : Nat) : Option Bool :=
  match (ops[j]?).bind (·.dst) with
  | some t => match ev n f (.tmp t) with
    | .bool b => some b
    | _ => none
  | none => none
theorem yl_undef (n t : Nat) (f : Nat → Value) (h : ¬ t < n) : ev n f (.tmp t) = undef := by
  have hb : Nat.blt t n = false := by
    cases hb : Nat.blt t n with
    | false => rfl
    | true => exact absurd (by simpa [Nat.blt_eq] using hb) h
  simp [ev, hb]
theorem yielded_Fr (ops : Array Oper) (n : Nat) (ds : List Deferred) (f : Nat → Value) : yielded ops (Fr n ds f).tmps = yl ops n f := by
  funext j
  unfold yielded yl
  cases hd : (ops[j]?).bind (·.dst) with
  | none => rfl
  | some t =>
    simp only [Option.bind_some]
    by_cases h : t < n
    · have hb : Nat.blt t n = true := by simpa [Nat.blt_eq] using h
      have e : (Fr n ds f).tmps[t]? = some (f t) := by simp [Fr, h]
      rw [e]
      simp only [ev, hb, cond_true]
      cases f t <;> rfl
    · have e : (Fr n ds f).tmps[t]? = none := Array.getElem?_eq_none (by simpa [Fr] using h)
      rw [e, yl_undef n t f h]
      rfl
theorem wanted_of_yl {ops : Array Oper} {n : Nat} {f : Nat → Value} {o : Oper} {j : Nat} {want e : Bool} (hg : o.guard = some (j, want)) (h : yl ops n f j = some e) :
    Region.wanted o (yl ops n f) = (e == want) := by
  simp [Region.wanted, hg, h]
theorem upd_self {f : Nat → Value} {d : Nat} {v : Value} (h : f d = v) : upd f d v = f := by
  funext k
  unfold upd
  cases hk : Nat.beq k d with
  | false => rfl
  | true => rw [Nat.eq_of_beq_eq_true hk]; exact h.symm
def upds : List (Nat × Value) → (Nat → Value) → Nat → Value
  | [], f => f
  | (d, v) :: l, f => upd (upds l f) d v
def Holds (f : Nat → Value) : List (Nat × Value) → Prop
  | [] => True
  | (d, v) :: l => f d = v ∧ Holds f l
theorem upds_holds : ∀ {l : List (Nat × Value)} {f : Nat → Value}, Holds f l → upds l f = f
  | [], _, _ => rfl
  | (d, v) :: l, f, h => by
    show upd (upds l f) d v = f
    rw [upds_holds h.2]
    exact upd_self h.1
/-! ### The memory -/
structure Blk where
  b : Nat
  o : Obj
abbrev cb (b : Nat) (cs : List Value) (t : TypeId) : Blk := ⟨b, .cells cs.toArray t (0, 0)⟩
structure Mem0 (w0 : World) (M : List Nat) (L : List Blk) (w : World) : Prop where
  os : w.os = w0.os
  tape : w.tape = w0.tape
  output : w.output = w0.output
  size : w0.heap.size ≤ w.heap.size
  same : ∀ k, k < w0.heap.size → k ∉ M → w.heap[k]? = w0.heap[k]?
  here : ∀ p ∈ L, w.heap[p.b]? = some p.o
  nodup : (L.map (·.b)).Nodup
  old : ∀ p ∈ L, p.b < w0.heap.size → p.b ∈ M
theorem Mem0.refl (w : World) : Mem0 w [] [] w := ⟨rfl, rfl, rfl, Nat.le_refl _, fun _ _ _ => rfl, fun p hp => (by cases hp), List.nodup_nil, fun p hp => (by cases hp)⟩
theorem Mem0.drawn {w0 w : World} {M : List Nat} {L : List Blk} (h : Mem0 w0 M L w) (k : Nat) : Mem0 w0 M L { w with drawn := k } :=
  ⟨h.os, h.tape, h.output, h.size, h.same, h.here, h.nodup, h.old⟩
theorem Mem0.lt {w0 w : World} {M : List Nat} {L : List Blk} (h : Mem0 w0 M L w) {p : Blk} (hp : p ∈ L) : p.b < w.heap.size := by
  have := h.here p hp
  exact (Array.getElem?_eq_some_iff.1 this).1
theorem Mem0.below {w0 w : World} {L : List Blk} (h : Mem0 w0 [] L w) : Below w0.heap.size w0 w :=
  ⟨h.os, h.tape, h.output, h.size, fun k hk => h.same k hk (by simp)⟩
theorem Mem0.at {w0 w : World} {M : List Nat} {L : List Blk} (h : Mem0 w0 M L w) {i : Nat} {p : Blk} (hi : L[i]? = some p) : w.heap[p.b]? = some p.o :=
  h.here p (List.mem_of_getElem? hi)
theorem Mem0.cell {w0 w : World} {M : List Nat} {L : List Blk} (h : Mem0 w0 M L w) {i b o : Nat} {cs : List Value} {t : TypeId} {v : Value} (hi : L[i]? = some (cb b cs t)) (hv : cs[o]? = some v) :
    w.cell? ⟨b, o, none⟩ = some v := by
  have := h.at hi
  simp only at this
  simp [World.cell?, this, hv]
theorem Mem0.allocO {w0 w : World} {M : List Nat} {L : List Blk} (h : Mem0 w0 M L w) (o : Obj) :
    Mem0 w0 M (⟨w.heap.size, o⟩ :: L) { w with heap := w.heap.push o } where
  os := h.os
  tape := h.tape
  output := h.output
  size := by have := h.size; simp; omega
  same := fun k hk hm => by
    have hs := h.size
    show (w.heap.push _)[k]? = _
    rw [Array.getElem?_push, if_neg (by omega)]
    exact h.same k hk hm
  here := fun p hp => by
    show (w.heap.push _)[p.b]? = _
    rcases List.mem_cons.1 hp with rfl | hp
    · simp
    · have := h.lt hp
      rw [Array.getElem?_push, if_neg (by omega)]
      exact h.here p hp
  nodup := by
    simp only [List.map_cons, List.nodup_cons]
    refine ⟨fun hm => ?_, h.nodup⟩
    obtain ⟨p, hp, hb⟩ := List.mem_map.1 hm
    have := h.lt hp
    omega
  old := fun p hp hb => by
    rcases List.mem_cons.1 hp with rfl | hp
    · have := h.size; simp at hb; omega
    · exact h.old p hp hb
theorem Mem0.alloc {w0 w : World} {M : List Nat} {L : List Blk} (h : Mem0 w0 M L w) (cs : List Value) (t : TypeId) :
    Mem0 w0 M ((cb w.heap.size cs t) :: L) { w with heap := w.heap.push (.cells cs.toArray t (0, 0)) } := h.allocO _
theorem Mem0.putO {w0 w w' : World} {M : List Nat} {L : List Blk} (h : Mem0 w0 M L w) {i b : Nat} {o o' : Obj} (hi : L[i]? = some ⟨b, o⟩)
    (hos : w'.os = w.os) (htape : w'.tape = w.tape) (hout : w'.output = w.output) (hsize : w.heap.size ≤ w'.heap.size) (hoth : ∀ k, k < w.heap.size → k ≠ b → w'.heap[k]? = w.heap[k]?)
    (hb : w'.heap[b]? = some o') : Mem0 w0 M (L.set i ⟨b, o'⟩) w' where
  os := hos.trans h.os
  tape := htape.trans h.tape
  output := hout.trans h.output
  size := Nat.le_trans h.size hsize
  same := fun k hk hm => by
    have hmem := List.mem_of_getElem? hi
    have hs := h.size
    rw [hoth k (by omega) (fun e => hm (e ▸ h.old _ hmem (e ▸ hk)))]
    exact h.same k hk hm
  here := fun p hp => by
    rcases List.mem_or_eq_of_mem_set hp with hp' | rfl
    · by_cases hpb : p.b = b
      · -- the block itself: nodup says that p stands at i, but there stands the new one
        obtain ⟨j, hj, hpj⟩ := List.getElem_of_mem hp
        simp only [List.length_set] at hj
        by_cases hji : i = j
        · subst hji
          rw [List.getElem_set_self] at hpj
          rw [← hpj]; exact hb
        · rw [List.getElem_set_ne hji] at hpj
          obtain ⟨hi', hpi⟩ := List.getElem?_eq_some_iff.1 hi
          have hnd := h.nodup
          have e1 : (L.map (·.b))[j]'(by simpa using hj) = b := by simp [hpj, hpb]
          have e2 : (L.map (·.b))[i]'(by simpa using hi') = b := by simp [hpi]
          have := (List.getElem_inj hnd).1 (e1.trans e2.symm)
          exact absurd this.symm hji
      · rw [hoth p.b (h.lt hp') hpb]
        exact h.here p hp'
    · exact hb
  nodup := by
    obtain ⟨hi', hpi⟩ := List.getElem?_eq_some_iff.1 hi
    have e : (L.set i ⟨b, o'⟩).map (·.b) = L.map (·.b) := by
      rw [List.map_set]
      apply List.ext_getElem?
      intro j
      by_cases hji : i = j
      · subst hji
        simp [hi', hpi]
      · rw [List.getElem?_set_ne hji]
    rw [e]; exact h.nodup
  old := fun p hp hlt => by
    rcases List.mem_or_eq_of_mem_set hp with hp | rfl
    · exact h.old p hp hlt
    · exact h.old ⟨b, o⟩ (List.mem_of_getElem? hi) hlt
theorem Mem0.put {w0 w w' : World} {M : List Nat} {L : List Blk} (h : Mem0 w0 M L w) {i b : Nat} {cs cs' : List Value} {t : TypeId} (hi : L[i]? = some (cb b cs t))
    (hos : w'.os = w.os) (htape : w'.tape = w.tape) (hout : w'.output = w.output) (hsize : w.heap.size ≤ w'.heap.size) (hoth : ∀ k, k < w.heap.size → k ≠ b → w'.heap[k]? = w.heap[k]?)
    (hb : w'.heap[b]? = some (.cells cs'.toArray t (0, 0))) : Mem0 w0 M (L.set i (cb b cs' t)) w' := h.putO hi hos htape hout hsize hoth hb
theorem Mem0.setCell {w0 w : World} {M : List Nat} {L : List Blk} (h : Mem0 w0 M L w) {i b o : Nat} {cs : List Value} {t : TypeId} (hi : L[i]? = some (cb b cs t)) (v : Value) :
    Mem0 w0 M (L.set i (cb b (cs.set o v) t)) (w.setCell ⟨b, o, none⟩ v) := by
  have hb := h.at hi
  simp only at hb
  refine h.put hi rfl rfl rfl (by simp [World.setCell]) (fun k _ hk => ?_) ?_
  · simp only [World.setCell, Array.getElem?_modify]; rw [if_neg (by omega)]
  · simp only [World.setCell, Array.getElem?_modify, if_true, hb]
    simp
theorem Mem0.sub {w0 w : World} {M : List Nat} {L L' : List Blk} (h : Mem0 w0 M L w) (hs : ∀ p ∈ L', p ∈ L) (hn : (L'.map (·.b)).Nodup) : Mem0 w0 M L' w :=
  ⟨h.os, h.tape, h.output, h.size, h.same, fun p hp => h.here p (hs p hp), hn, fun p hp => h.old p (hs p hp)⟩
theorem Mem0.ext {w0 w w' : World} {M : List Nat} {L : List Blk} (h : Mem0 w0 M L w) (hb : Below w.heap.size w w') : Mem0 w0 M L w' :=
  ⟨hb.os.trans h.os, hb.tape.trans h.tape, hb.output.trans h.output, Nat.le_trans h.size hb.size, fun k hk hm => (hb.block k (by have := h.size; omega)).trans (h.same k hk hm),
    fun p hp => (hb.block _ (h.lt hp)).trans (h.here p hp), h.nodup, h.old⟩
/-! ### Segments -/
def Mem (w0 : World) (M : List Nat) (LL : List (List Blk)) (w : World) : Prop := Mem0 w0 M LL.flatten w
section
variable {w0 w w' : World} {M : List Nat} {LL LL' R : List (List Blk)} {i j b : Nat} {s : List Blk}
theorem seg_flat : ∀ (LL : List (List Blk)) (i j : Nat) (s : List Blk) (p : Blk), LL[i]? = some s → s[j]? = some p →
    ∃ k, LL.flatten[k]? = some p ∧ ∀ p', (LL.set i (s.set j p')).flatten = LL.flatten.set k p'
  | [], i, j, s, p, h, _ => by simp at h
  | t :: LL, 0, j, s, p, h, hj => by
    obtain rfl : t = s := by simpa using h
    have hl := (List.getElem?_eq_some_iff.1 hj).1
    refine ⟨j, ?_, fun p' => ?_⟩
    · rw [List.flatten_cons, List.getElem?_append_left hl]; exact hj
    · rw [List.set_cons_zero, List.flatten_cons, List.flatten_cons, List.set_append_left _ _ hl]
  | t :: LL, i + 1, j, s, p, h, hj => by
    obtain ⟨k, h1, h2⟩ := seg_flat LL i j s p (by simpa using h) hj
    refine ⟨t.length + k, ?_, fun p' => ?_⟩
    · rw [List.flatten_cons, List.getElem?_append_right (by omega)]; rw [show t.length + k - t.length = k by omega]; exact h1
    · rw [List.set_cons_succ, List.flatten_cons, List.flatten_cons, h2 p', List.set_append_right _ _ (by omega)]
      rw [show t.length + k - t.length = k by omega]
theorem Mem.refl (w : World) : Mem w [] [] w := Mem0.refl w
theorem Mem.drawn (h : Mem w0 M LL w) (k : Nat) : Mem w0 M LL { w with drawn := k } := Mem0.drawn h k
theorem Mem.size (h : Mem w0 M LL w) : w0.heap.size ≤ w.heap.size := Mem0.size h
theorem Mem.below (h : Mem w0 [] LL w) : Below w0.heap.size w0 w := Mem0.below h
theorem Mem.at (h : Mem w0 M LL w) {p : Blk} (hi : LL[i]? = some s) (hj : s[j]? = some p) : w.heap[p.b]? = some p.o := by
  obtain ⟨k, hk, _⟩ := seg_flat LL i j s p hi hj
  exact Mem0.at h hk
theorem Mem.lt (h : Mem w0 M LL w) {p : Blk} (hi : LL[i]? = some s) (hj : s[j]? = some p) : p.b < w.heap.size := (Array.getElem?_eq_some_iff.1 (h.at hi hj)).1
theorem Mem.cell (h : Mem w0 M LL w) {o : Nat} {cs : List Value} {t : TypeId} {v : Value} (hi : LL[i]? = some s) (hj : s[j]? = some (cb b cs t)) (hv : cs[o]? = some v) : w.cell? ⟨b, o, none⟩ = some v := by
  obtain ⟨k, hk, _⟩ := seg_flat LL i j s _ hi hj
  exact Mem0.cell h hk hv
theorem Mem.allocO (h : Mem w0 M LL w) (o : Obj) : Mem w0 M ([⟨w.heap.size, o⟩] :: LL) { w with heap := w.heap.push o } := Mem0.allocO h o
theorem Mem.alloc (h : Mem w0 M LL w) (cs : List Value) (t : TypeId) : Mem w0 M ([cb w.heap.size cs t] :: LL) { w with heap := w.heap.push (.cells cs.toArray t (0, 0)) } := Mem0.alloc h cs t
theorem Mem.putO {o o' : Obj} (h : Mem w0 M LL w) (hi : LL[i]? = some s) (hj : s[j]? = some ⟨b, o⟩)
    (hos : w'.os = w.os) (htape : w'.tape = w.tape) (hout : w'.output = w.output) (hsize : w.heap.size ≤ w'.heap.size) (hoth : ∀ k, k < w.heap.size → k ≠ b → w'.heap[k]? = w.heap[k]?)
    (hb : w'.heap[b]? = some o') : Mem w0 M (LL.set i (s.set j ⟨b, o'⟩)) w' := by
  obtain ⟨k, hk, hs⟩ := seg_flat LL i j s _ hi hj
  unfold Mem
  rw [hs]
  exact Mem0.putO h hk hos htape hout hsize hoth hb
theorem Mem.setCell (h : Mem w0 M LL w) {o : Nat} {cs : List Value} {t : TypeId} (hi : LL[i]? = some s) (hj : s[j]? = some (cb b cs t)) (v : Value) : Mem w0 M (LL.set i (s.set j (cb b (cs.set o v) t))) (w.setCell ⟨b, o, none⟩ v) := by
  obtain ⟨k, hk, hs⟩ := seg_flat LL i j s _ hi hj
  unfold Mem
  rw [hs]
  exact Mem0.setCell h hk v
theorem Mem.ext (h : Mem w0 M LL w) (hb : Below w.heap.size w w') : Mem w0 M LL w' := Mem0.ext h hb
theorem Mem.cast (e : LL = LL') (h : Mem w0 M LL w) : Mem w0 M LL' w := e ▸ h
def pickL (LL : List (List Blk)) (is : List Nat) : List (List Blk) := is.map fun i => (LL[i]?).getD []
theorem pick_sub (is : List Nat) : ∀ p ∈ (pickL LL is).flatten, p ∈ LL.flatten := fun p hp => by
  obtain ⟨s, hs, hp⟩ := List.mem_flatten.1 hp
  obtain ⟨i, _, rfl⟩ := List.mem_map.1 hs
  cases h : LL[i]? with
  | none => simp [h] at hp
  | some t =>
    simp only [h, Option.getD_some] at hp
    exact List.mem_flatten.2 ⟨t, List.mem_of_getElem? h, hp⟩
def Apart (s t : List Blk) : Prop := ∀ p ∈ s, ∀ q ∈ t, p.b ≠ q.b
theorem nodup_segs {LL : List (List Blk)} : (LL.flatten.map (·.b)).Nodup ↔ (∀ s ∈ LL, (s.map (·.b)).Nodup) ∧ LL.Pairwise Apart := by
  rw [List.map_flatten, List.Nodup, List.pairwise_flatten]
  constructor
  · rintro ⟨h1, h2⟩
    refine ⟨fun s hs => h1 _ (List.mem_map_of_mem hs), ?_⟩
    rw [List.pairwise_map] at h2
    refine h2.imp ?_
    intro s t h p hp q hq
    exact h _ (List.mem_map_of_mem hp) _ (List.mem_map_of_mem hq)
  · rintro ⟨h1, h2⟩
    refine ⟨fun l hl => ?_, ?_⟩
    · obtain ⟨s, hs, rfl⟩ := List.mem_map.1 hl; exact h1 s hs
    · rw [List.pairwise_map]
      refine h2.imp fun {s t} h x hx y hy => ?_
      obtain ⟨p, hp, rfl⟩ := List.mem_map.1 hx
      obtain ⟨q, hq, rfl⟩ := List.mem_map.1 hy
      exact h p hp q hq
theorem apart_at (hn : LL.Pairwise Apart) {i k : Nat} (hik : i ≠ k) : Apart ((LL[i]?).getD []) ((LL[k]?).getD []) := by
  rw [List.pairwise_iff_getElem] at hn
  by_cases hi : i < LL.length
  · by_cases hk : k < LL.length
    · rw [List.getElem?_eq_getElem hi, List.getElem?_eq_getElem hk]
      rcases Nat.lt_or_gt_of_ne hik with h | h
      · exact hn i k hi hk h
      · exact fun p hp q hq e => hn k i hk hi h q hq p hp e.symm
    · rw [List.getElem?_eq_none (by omega : LL.length ≤ k)]; intro p _ q hq; cases hq
  · rw [List.getElem?_eq_none (by omega : LL.length ≤ i)]; intro p hp; cases hp
theorem pick_nodup {is : List Nat} (hn : (LL.flatten.map (·.b)).Nodup) (hd : is.Nodup) : ((pickL LL is).flatten.map (·.b)).Nodup := by
  rw [nodup_segs] at hn ⊢
  refine ⟨fun s hs => ?_, ?_⟩
  · obtain ⟨i, _, rfl⟩ := List.mem_map.1 hs
    cases h : LL[i]? with
    | none => simp
    | some t => exact hn.1 t (List.mem_of_getElem? h)
  · unfold pickL
    rw [List.pairwise_map]
    exact List.Pairwise.imp (fun {i k} h => apart_at hn.2 h) hd
theorem Mem.pick (is : List Nat) (hd : is.Nodup) (h : Mem w0 M LL w) (e : pickL LL is = LL') : Mem w0 M LL' w := by
  subst e
  exact Mem0.sub h (pick_sub is) (pick_nodup h.nodup hd)
theorem Mem.local (h : Mem w0 M (LL ++ R) w) : Mem w (LL.flatten.map (·.b)) LL w where
  os := rfl
  tape := rfl
  output := rfl
  size := Nat.le_refl _
  same := fun _ _ _ => rfl
  here := fun p hp => Mem0.here h p (by rw [List.flatten_append]; exact List.mem_append_left _ hp)
  nodup := by have := Mem0.nodup h; rw [List.flatten_append, List.map_append, List.nodup_append] at this; exact this.1
  old := fun p hp _ => List.mem_map_of_mem hp
theorem Mem.back (h : Mem w0 M (LL ++ R) w) (hc : Mem w (LL.flatten.map (·.b)) LL' w') : Mem w0 M (LL' ++ R) w' := by
  have hnd := Mem0.nodup h
  rw [List.flatten_append, List.map_append, List.nodup_append] at hnd
  have hold : ∀ p ∈ LL.flatten, p.b < w.heap.size := fun p hp => Mem0.lt h (by rw [List.flatten_append]; exact List.mem_append_left _ hp)
  have hR : ∀ p ∈ R.flatten, p.b < w.heap.size ∧ p.b ∉ LL.flatten.map (·.b) := fun p hp => ⟨Mem0.lt h (by rw [List.flatten_append]; exact List.mem_append_right _ hp), fun hm => by
    exact hnd.2.2 _ hm _ (List.mem_map_of_mem hp) rfl⟩
  exact {
    os := hc.os.trans h.os
    tape := hc.tape.trans h.tape
    output := hc.output.trans h.output
    size := Nat.le_trans (Mem0.size h) (Mem0.size hc)
    same := fun k hk hm => by
      have hs := Mem0.size h
      rw [Mem0.same hc k (by omega) (fun hmm => by
        obtain ⟨p, hp, rfl⟩ := List.mem_map.1 hmm
        exact hm (Mem0.old h p (by rw [List.flatten_append]; exact List.mem_append_left _ hp) hk))]
      exact Mem0.same h k hk hm
    here := fun p hp => by
      rw [List.flatten_append] at hp
      rcases List.mem_append.1 hp with hp | hp
      · exact Mem0.here hc p hp
      · rw [Mem0.same hc p.b (hR p hp).1 (hR p hp).2]
        exact Mem0.here h p (by rw [List.flatten_append]; exact List.mem_append_right _ hp)
    nodup := by
      rw [List.flatten_append, List.map_append, List.nodup_append]
      refine ⟨Mem0.nodup hc, hnd.2.1, fun x hx y hy e => ?_⟩
      subst e
      obtain ⟨p, hp, rfl⟩ := List.mem_map.1 hx
      obtain ⟨q, hq, he⟩ := List.mem_map.1 hy
      have h1 := hR q hq
      rw [he] at h1
      exact h1.2 (Mem0.old hc p hp h1.1)
    old := fun p hp hlt => by
      rw [List.flatten_append] at hp
      have hs := Mem0.size h
      rcases List.mem_append.1 hp with hp | hp
      · obtain ⟨q, hq, he⟩ := List.mem_map.1 (Mem0.old hc p hp (by omega))
        rw [← he]
        exact Mem0.old h q (by rw [List.flatten_append]; exact List.mem_append_left _ hq) (by rw [he]; exact hlt)
      · exact Mem0.old h p (by rw [List.flatten_append]; exact List.mem_append_right _ hp) hlt }
end
/-! ### Triples -/
section
variable {r : Option Nat} {P : Program} {ops : Array Oper} {Q : Exit → Act → World → Prop} {S S' : World → Prop} {n : Nat} {ds : List Deferred} {f f' : Nat → Value} {o : Oper} {rest : List Oper} {v : Value} {d : Nat} {K : Act → World → Prop}
def Ys (P : Program) (n : Nat) (S : World → Prop) (f : Nat → Value) (o : Oper) (v : Value) : Prop :=
  ∀ w, S w → (execOp (ev n f) o).run P w = .ok (.value v) w
def Yc (P : Program) (n : Nat) (S : World → Prop) (f : Nat → Value) (o : Oper) (v : Value) : Prop :=
  ∀ ds w, S w → ∀ K : Act → World → Prop, (∀ w', S w' → K ((Fr n ds f).put o.dst v) w') → o.wp P (Fr n ds f) w K NoExit
theorem Ys.yc {P : Program} {n : Nat} {S : World → Prop} {f : Nat → Value} {o : Oper} {v : Value} (h : Ys P n S f o v) : Yc P n S f o v := fun ds w hS K hK => by
  unfold Oper.wp
  rw [Fr_eval, h w hS]
  exact hK w hS
def Ht {β : Type} (P : Program) (n : Nat) (S : World → Prop) (f : Nat → Value) (o : Oper) (f' : β → Nat → Value) (S' : β → World → Prop) : Prop :=
  ∀ ds w, S w → ∀ K : Act → World → Prop, (∀ b w', S' b w' → K (Fr n ds (f' b)) w') → o.wp P (Fr n ds f) w K NoExit
def HtIn {β : Type} (r : Option Nat) (P : Program) (n : Nat) (S : World → Prop) (f : Nat → Value) (o : Oper) (f' : β → Nat → Value) (S' : β → World → Prop) : Prop :=
  ∀ ds w, S w → ∀ K : Act → World → Prop, (∀ b w', S' b w' → K (Fr n ds (f' b)) w') → o.wpIn (fence r) 0 P (Fr n ds f) w K NoExit
def Wl (r : Option Nat) (P : Program) (ops : Array Oper) (K : Act → World → Prop) (l : List Oper) (n : Nat) (ds : List Deferred) (f : Nat → Value) (S : World → Prop) : Prop :=
  ∀ w, S w → wl r P ops K l (Fr n ds f) w
def Wd (P : Program) (ops : Array Oper) (K : Act → World → Prop) (S : World → Prop) (A : List Nat) (l : List (Nat × Bool)) (n : Nat) (ds : List Deferred) (f : Nat → Value) (T : World → Prop) : Prop :=
  ∀ w, T w → wd P .any ops K S A l (Fr n ds f) w
def W (r : Option Nat) (P : Program) (Q : Exit → Act → World → Prop) (c : Code) (n : Nat) (ds : List Deferred) (f : Nat → Value) (S : World → Prop) : Prop :=
  ∀ w, S w → c.wpIn (fence r) 0 P Q (Fr n ds f) w
def plain (o : Oper) : Bool := o.guard.isNone && nodef o
theorem plain_l (h : plain o = true) : o.guard = none := by simp [plain] at h; exact h.1
theorem plain_r (h : plain o = true) : nodef o = true := by simp [plain] at h; exact h.2
theorem Wl.yc (hg : plain o = true) (hd : o.dst = some d) (h : Yc P n S f o v) (hr : Wl r P ops K rest n ds (upd f d v) S) : Wl r P ops K (o :: rest) n ds f S := fun w hS => by
  unfold wl
  rw [if_pos (by simp [Region.wanted, plain_l hg])]
  exact wpIn_of_wp (plain_r hg) (h ds w hS _ fun w' hw' => by rw [hd, Fr_put]; exact hr w' hw')
theorem Wl.ys (hg : plain o = true) (hd : o.dst = some d) (h : Ys P n S f o v) (hr : Wl r P ops K rest n ds (upd f d v) S) : Wl r P ops K (o :: rest) n ds f S := Wl.yc hg hd h.yc hr
theorem Wl.guardc (g : Bool) (hn : nodef o = true) (hg : Region.wanted o (yl ops n f) = g) (hd : o.dst = some d) (h : g = true → Yc P n S f o v) (hr : Wl r P ops K rest n ds (upd f d (bif g then v else undef)) S) : Wl r P ops K (o :: rest) n ds f S := fun w hS => by
  unfold wl
  rw [yielded_Fr, hg]
  cases g with
  | false => simp only [Bool.false_eq_true, if_false]; rw [hd, Fr_put]; exact hr w hS
  | true => simp only [if_true]; exact wpIn_of_wp hn (h rfl ds w hS _ fun w' hw' => by rw [hd, Fr_put]; exact hr w' hw')
theorem Wl.guard (g : Bool) (hn : nodef o = true) (hg : Region.wanted o (yl ops n f) = g) (hd : o.dst = some d) (h : g = true → Ys P n S f o v) (hr : Wl r P ops K rest n ds (upd f d (bif g then v else undef)) S) : Wl r P ops K (o :: rest) n ds f S :=
  Wl.guardc g hn hg hd (fun e => (h e).yc) hr
theorem Wl.skip (hg : Region.wanted o (yl ops n f) = false) (hd : o.dst = some d) (hr : Wl r P ops K rest n ds (upd f d undef) S) : Wl r P ops K (o :: rest) n ds f S := fun w hS => by
  unfold wl
  rw [yielded_Fr, hg]
  simp only [Bool.false_eq_true, if_false]; rw [hd, Fr_put]; exact hr w hS
theorem Wl.htIn {β : Type} {f' : β → Nat → Value} {S' : β → World → Prop} (hg : o.guard = none) (h : HtIn r P n S f o f' S') (hr : ∀ b, Wl r P ops K rest n ds (f' b) (S' b)) : Wl r P ops K (o :: rest) n ds f S := fun w hS => by
  unfold wl
  rw [if_pos (by simp [Region.wanted, hg])]
  exact h ds w hS _ fun b w' hw' => hr b w' hw'
theorem Wl.ht {β : Type} {f' : β → Nat → Value} {S' : β → World → Prop} (hg : plain o = true) (h : Ht P n S f o f' S') (hr : ∀ b, Wl r P ops K rest n ds (f' b) (S' b)) : Wl r P ops K (o :: rest) n ds f S :=
  Wl.htIn (plain_l hg) (fun ds w hS K hK => wpIn_of_wp (plain_r hg) (h ds w hS K hK)) hr
theorem Wl.htw {β : Type} {f' : β → Nat → Value} {S' : β → World → Prop} (hn : nodef o = true) (hw : Region.wanted o (yl ops n f) = true) (h : Ht P n S f o f' S') (hr : ∀ b, Wl r P ops K rest n ds (f' b) (S' b)) : Wl r P ops K (o :: rest) n ds f S := fun w hS => by
  unfold wl
  rw [yielded_Fr, if_pos hw]
  exact wpIn_of_wp hn (h ds w hS _ fun b w' hw' => hr b w' hw')
theorem Wl.nil (h : ∀ w, S w → K (Fr n ds f) w) : Wl r P ops K [] n ds f S := fun w hS => h w hS
theorem Wl.conseq {l : List Oper} (hS : ∀ w, S w → S' w) (h : Wl r P ops K l n ds f S') : Wl r P ops K l n ds f S := fun w hw => h w (hS w hw)
section
variable {T : World → Prop} {i : Nat} {pl : List (Nat × Bool)} {A : List Nat}
theorem Wd.ys (hi : ops[i]? = some o) (hg : o.guard = none) (hd : o.dst = some d) (h : Ys P n S f o v) (hr : Wd P ops K S A pl n ds (upd f d v) T) : Wd P ops K S A ((i, true) :: pl) n ds f T := fun w hT =>
  ⟨o, v, hi, .inl ⟨by simp [Region.wanted, hg], by rw [Fr_eval]; exact h⟩, by rw [hd, Fr_put]; exact hr w hT⟩
theorem Wd.guard (g : Bool) (hi : ops[i]? = some o) (hg : Region.wanted o (yl ops n f) = g) (hd : o.dst = some d) (h : g = true → Ys P n S f o v) (hr : Wd P ops K S A pl n ds (upd f d (bif g then v else undef)) T) : Wd P ops K S A ((i, true) :: pl) n ds f T := fun w hT => by
  cases g with
  | false => exact ⟨o, undef, hi, .inr ⟨by rw [yielded_Fr]; exact hg, rfl⟩, by rw [hd, Fr_put]; exact hr w hT⟩
  | true => exact ⟨o, v, hi, .inl ⟨by rw [yielded_Fr]; exact hg, by rw [Fr_eval]; exact h rfl⟩, by rw [hd, Fr_put]; exact hr w hT⟩
theorem Wd.skip (hi : ops[i]? = some o) (hg : Region.wanted o (yl ops n f) = false) (hd : o.dst = some d) (hr : Wd P ops K S A pl n ds (upd f d undef) T) : Wd P ops K S A ((i, true) :: pl) n ds f T := Wd.guard (v := undef) false hi hg hd (fun h => by cases h) hr
theorem Wd.yc (hi : ops[i]? = some o) (hg : o.guard = none) (hd : o.dst = some d) (h : Yc P n T f o v) (hTS : waits .any ops A i = true ∨ ∀ w, T w → S w) (hr : Wd P ops K S A pl n ds (upd f d v) T) : Wd P ops K S A ((i, false) :: pl) n ds f T := fun w hT => by
  show wpOp P ops NoExit i _ _ w
  unfold wpOp
  simp only [hi]
  rw [if_pos (by simp [Region.wanted, hg])]
  exact .inl (h ds w hT _ fun w' hw' => ⟨hTS.imp_right fun h => h w' hw', by rw [hd, Fr_put]; exact hr w' hw'⟩)
theorem Wd.guardc (g : Bool) (hi : ops[i]? = some o) (hg : Region.wanted o (yl ops n f) = g) (hd : o.dst = some d) (h : g = true → Yc P n T f o v) (hTS : waits .any ops A i = true ∨ ∀ w, T w → S w) (hr : Wd P ops K S A pl n ds (upd f d (bif g then v else undef)) T) : Wd P ops K S A ((i, false) :: pl) n ds f T := fun w hT => by
  show wpOp P ops NoExit i _ _ w
  unfold wpOp
  simp only [hi]
  rw [yielded_Fr, hg]
  cases g with
  | false => simp only [Bool.false_eq_true, if_false]; exact ⟨hTS.imp_right fun h => h w hT, by rw [hd, Fr_put]; exact hr w hT⟩
  | true => rw [if_pos rfl]; exact .inl (h rfl ds w hT _ fun w' hw' => ⟨hTS.imp_right fun h => h w' hw', by rw [hd, Fr_put]; exact hr w' hw'⟩)
theorem Wd.skipc (hi : ops[i]? = some o) (hg : Region.wanted o (yl ops n f) = false) (hd : o.dst = some d) (hTS : waits .any ops A i = true ∨ ∀ w, T w → S w) (hr : Wd P ops K S A pl n ds (upd f d undef) T) : Wd P ops K S A ((i, false) :: pl) n ds f T := fun w hT => by
  show wpOp P ops NoExit i _ _ w
  unfold wpOp
  simp only [hi]
  rw [yielded_Fr, hg]
  simp only [Bool.false_eq_true, if_false]; exact ⟨hTS.imp_right fun h => h w hT, by rw [hd, Fr_put]; exact hr w hT⟩
theorem Wd.ht {β : Type} {f' : β → Nat → Value} {T' : β → World → Prop} (hi : ops[i]? = some o) (hg : o.guard = none) (h : Ht P n T f o f' T') (hTS : waits .any ops A i = true ∨ ∀ b w, T' b w → S w) (hr : ∀ b, Wd P ops K S A pl n ds (f' b) (T' b)) : Wd P ops K S A ((i, false) :: pl) n ds f T := fun w hT => by
  show wpOp P ops NoExit i _ _ w
  unfold wpOp
  simp only [hi]
  rw [if_pos (by simp [Region.wanted, hg])]
  exact .inl (h ds w hT _ fun b w' hw' => ⟨hTS.imp_right fun h => h b w' hw', hr b w' hw'⟩)
theorem Wd.htw {β : Type} {f' : β → Nat → Value} {T' : β → World → Prop} (hi : ops[i]? = some o) (hw : Region.wanted o (yl ops n f) = true) (h : Ht P n T f o f' T') (hTS : waits .any ops A i = true ∨ ∀ b w, T' b w → S w) (hr : ∀ b, Wd P ops K S A pl n ds (f' b) (T' b)) : Wd P ops K S A ((i, false) :: pl) n ds f T := fun w hT => by
  show wpOp P ops NoExit i _ _ w
  unfold wpOp
  simp only [hi]
  rw [yielded_Fr, if_pos hw]
  exact .inl (h ds w hT _ fun b w' hw' => ⟨hTS.imp_right fun h => h b w' hw', hr b w' hw'⟩)
theorem Wd.nil (h : ∀ w, T w → K (Fr n ds f) w) : Wd P ops K S A [] n ds f T := fun w hT => h w hT
theorem Wd.conseq {T' : World → Prop} (hT : ∀ w, T w → T' w) (h : Wd P ops K S A pl n ds f T') : Wd P ops K S A pl n ds f T := fun w hw => h w (hT w hw)
theorem Wd.castL {w0 : World} {M : List Nat} {LL LL' : List (List Blk)} (e : LL = LL') (h : Wd P ops K S A pl n ds f (Mem w0 M LL')) : Wd P ops K S A pl n ds f (Mem w0 M LL) := by rwa [e]
end
theorem W.region {id : Nat} {l : List Oper} (h : Wl r P l.toArray (Q .normal) l n ds f S) : W r P Q (.region id l.toArray false) n ds f S := fun w hS => wpIn_region (by
  have := wl_in (r := r) (P := P) (ops := l.toArray) (Q := Q) (fun _ _ h => h) l 0 _ w (fun j => by simp) (h w hS)
  rw [List.size_toArray, List.range_eq_range']
  exact this)
theorem W.draws {T : World → Prop} {id : Nat} {l : List Oper} (pl : List (Nat × Bool)) (A : List Nat) (S : World → Prop) (hm : P.follows .mixedOrders = true) (hd : nodefs l.toArray = true) (hsel : Region.noSelect l.toArray = true)
    (hl : pl.length = l.length) (hp : planB .any l.toArray A (Array.replicate l.length false) pl = true) (hT : ∀ w k, T w → T { w with drawn := k }) (hS : ∀ w, T w → S w)
    (h : Wd P l.toArray (Q .normal) S A pl n ds f T) : W r P Q (.region id l.toArray true) n ds f T := fun w hw =>
  wp_region_plan (K := Q .normal) pl A S hm hd hsel hl hp (fun _ _ h => h) (hS _ (hT w _ hw)) (h _ (hT w _ hw))
/-! ### Code -/
theorem W.seq {x y : Code} (h : ∀ K : Act → World → Prop, (∀ ds f' (S' : World → Prop), W r P Q y n ds f' S' → ∀ w, S' w → K (Fr n ds f') w) → W r P (Exit.then K Q) x n ds f S) : W r P Q (.seq x y) n ds f S := fun w hS =>
  wpIn_seq_k fun K hK => h K (fun ds f' S' hW w' hw' => hK _ _ (hW w' hw')) w hS
theorem W.skip' (h : ∀ w, S w → Q .normal (Fr n ds f) w) : W r P Q .skip n ds f S := fun w hS => wpIn_skip (h w hS)
theorem W.ret (h : ∀ w, S w → Q .ret (Fr n ds f) w) : W r P Q .ret n ds f S := fun w hS => wpIn_ret (h w hS)
theorem W.exit {id : Nat} (h : ∀ w, S w → Q (.exit id) (Fr n ds f) w) : W r P Q (.exit id) n ds f S := fun w hS => wpIn_exit (h w hS)
theorem W.block {id : Nat} {c : Code} (h : W r P (Exit.inBlock id Q) c n ds f S) : W r P Q (.block id c) n ds f S := fun w hS => wpIn_block (h w hS)
theorem W.condT {x : Operand} {c1 c2 : Code} (hx : ev n f x = .bool true) (h : W r P Q c1 n ds f S) : W r P Q (.cond x c1 c2) n ds f S := fun w hS => wpIn_cond_true (by rw [Fr_eval]; exact hx) (h w hS)
theorem W.condF {x : Operand} {c1 c2 : Code} (hx : ev n f x = .bool false) (h : W r P Q c2 n ds f S) : W r P Q (.cond x c1 c2) n ds f S := fun w hS => wpIn_cond_false (by rw [Fr_eval]; exact hx) (h w hS)
theorem W.cond {x : Operand} {c1 c2 : Code} (e : Bool) (hx : ev n f x = .bool e) (h1 : e = true → W r P Q c1 n ds f S) (h2 : e = false → W r P Q c2 n ds f S) : W r P Q (.cond x c1 c2) n ds f S := fun w hS => by
  cases e with
  | true => exact wpIn_cond_true (by rw [Fr_eval]; exact hx) (h1 rfl w hS)
  | false => exact wpIn_cond_false (by rw [Fr_eval]; exact hx) (h2 rfl w hS)
theorem W.meet {x : Code} {γ : Type} (K : Act → World → Prop) (F : γ → List (Nat × Value)) (T : γ → World → Prop)
    (first : ∀ J : Act → World → Prop, (∀ g f' w, Holds f' (F g) → T g w → J (Fr n ds f') w) → W r P (Exit.then J Q) x n ds f S)
    (after : ∀ g f', ∀ w, T g w → K (Fr n ds (upds (F g) f')) w) : W r P (Exit.then K Q) x n ds f S := fun w hS => by
  refine wpIn_mono (first (fun a w => ∃ g f', a = Fr n ds (upds (F g) f') ∧ T g w) (fun g f' w hF hT => ⟨g, f', by rw [upds_holds hF], hT⟩) w hS) ?_
  intro e a' w' hq
  cases e with
  | normal => obtain ⟨g, f', rfl, hT⟩ := hq; exact after g f' w' hT
  | exit id => exact hq
  | goto l => exact hq
  | ret => exact hq
  | panic ch => exact hq
  | outgrown => exact hq
theorem W.loop {c : Code} {γ : Type} (F : γ → List (Nat × Value)) (T : γ → World → Prop) (μ : γ → Nat) (g0 : γ) (h0 : Holds f (F g0)) (hS : ∀ w, S w → T g0 w)
    (round : ∀ (g : γ) (f' : Nat → Value) (J : Act → World → Prop), (∀ g' f'' w, μ g' < μ g → Holds f'' (F g') → T g' w → J (Fr n ds f'') w) → W r P (Exit.then J Q) c n ds (upds (F g) f') (T g)) :
    W r P Q (.loop c) n ds f S := fun w hw => by
  classical
  let I : Act → World → Prop := fun a w => ∃ g f', a = Fr n ds (upds (F g) f') ∧ T g w
  let p : Act → World → Nat → Prop := fun a w k => ∃ g f', a = Fr n ds (upds (F g) f') ∧ T g w ∧ μ g = k
  have least : ∀ q : Nat → Prop, (∃ k, q k) → ∃ k, q k ∧ ∀ j, q j → k ≤ j := fun q ⟨k, hk⟩ => by
    induction k using Nat.strongRecOn with
    | _ k ih =>
      by_cases h : ∃ j, j < k ∧ q j
      · obtain ⟨j, hj, hq⟩ := h; exact ih j hj hq
      · exact ⟨k, hk, fun j hj => Nat.le_of_not_lt fun hlt => h ⟨j, hlt, hj⟩⟩
  let m : Act → World → Nat := fun a w => if h : ∃ k, p a w k then Classical.choose (least _ h) else 0
  have hm : ∀ a w, I a w → ∃ g f', a = Fr n ds (upds (F g) f') ∧ T g w ∧ μ g = m a w := fun a w ⟨g, f', ha, hT⟩ => by
    have h : ∃ k, p a w k := ⟨μ g, g, f', ha, hT, rfl⟩
    have := (Classical.choose_spec (least _ h)).1
    simp only [m, dif_pos h]
    exact this
  have hle : ∀ g f' w, T g w → m (Fr n ds (upds (F g) f')) w ≤ μ g := fun g f' w hT => by
    have h : ∃ k, p (Fr n ds (upds (F g) f')) w k := ⟨μ g, g, f', rfl, hT, rfl⟩
    simp only [m, dif_pos h]
    exact (Classical.choose_spec (least _ h)).2 _ ⟨g, f', rfl, hT, rfl⟩
  refine wpIn_loop I m ⟨g0, f, by rw [upds_holds h0], hS w hw⟩ fun a w' hI => ?_
  obtain ⟨g, f', rfl, hT, hμ⟩ := hm a w' hI
  refine round g f' _ (fun g' f'' w'' hlt hF hT' => ?_) w' hT
  have e : Fr n ds f'' = Fr n ds (upds (F g') f'') := by rw [upds_holds hF]
  refine ⟨⟨g', f'', e, hT'⟩, ?_⟩
  have := hle g' f'' w'' hT'
  rw [← e] at this
  omega
theorem W.prune {c : Code} (l : List (Nat × Value)) (hl : Holds f l) (h : ∀ f', W r P Q c n ds (upds l f') S) : W r P Q c n ds f S := by
  have := h f
  rwa [upds_holds hl] at this
theorem K.prune {K : Act → World → Prop} {w : World} (l : List (Nat × Value)) (hl : Holds f l) (h : ∀ f', K (Fr n ds (upds l f')) w) : K (Fr n ds f) w := by
  have := h f
  rwa [upds_holds hl] at this
theorem W.conseq {c : Code} (hS : ∀ w, S w → S' w) (h : W r P Q c n ds f S') : W r P Q c n ds f S := fun w hw => h w (hS w hw)
theorem W.and {c : Code} {p : Prop} (h : p → W r P Q c n ds f S) : W r P Q c n ds f (fun w => S w ∧ p) := fun w ⟨hS, hp⟩ => h hp w hS
theorem holds_of : ∀ {ks : List Nat} {vs : List Value}, ks.map f = vs → Holds f (ks.zip vs)
  | [], _, _ => by cases ‹List Value› <;> trivial
  | k :: ks, [], h => by cases h
  | k :: ks, v :: vs, h => ⟨(List.cons.inj h).1, holds_of (List.cons.inj h).2⟩
theorem W.prune' {c : Code} (ks : List Nat) (vs : List Value) (hl : ks.map f = vs) (h : ∀ f', W r P Q c n ds (upds (ks.zip vs) f') S) : W r P Q c n ds f S := W.prune (ks.zip vs) (holds_of hl) h
variable {w0 : World} {M : List Nat} {LL : List (List Blk)}
theorem W.meet0 {x : Code} (K : Act → World → Prop) (ks : List Nat) (vs : List Value) (Φ : Prop) (Lf : List (List Blk))
    (first : ∀ J : Act → World → Prop, (∀ f' w, Φ → ks.map f' = vs → Mem w0 M (Lf) w → J (Fr n ds f') w) → W r P (Exit.then J Q) x n ds f S)
    (after : ∀ f', Φ → ∀ w, Mem w0 M (Lf) w → K (Fr n ds (upds (ks.zip (vs)) f')) w) : W r P (Exit.then K Q) x n ds f S :=
  W.meet (γ := Unit) K (fun g => ks.zip (vs)) (fun g w => Mem w0 M (Lf) w ∧ Φ) (fun J hJ => first J fun f' w hφ hk hm => hJ () f' w (holds_of hk) ⟨hm, hφ⟩)
    fun g f' w hT => after  f' hT.2 w hT.1
theorem W.loop1 {c : Code} {γ1 : Type} (ks : List Nat) (vs : γ1 → List Value) (Φ : γ1 → Prop) (Lf : γ1 → List (List Blk)) (μ : γ1 → Nat) (i1 : γ1) (h0 : ks.map f = vs i1) (hΦ : Φ i1) (hL : LL = Lf i1)
    (round : ∀ g1, ∀ f' J, Φ g1 → (∀ g1' f'' w, μ g1' < μ g1 → Φ g1' → ks.map f'' = vs g1' → Mem w0 M (Lf g1') w → J (Fr n ds f'') w) → W r P (Exit.then J Q) c n ds (upds (ks.zip (vs g1)) f') (Mem w0 M (Lf g1))) :
    W r P Q (.loop c) n ds f (Mem w0 M LL) :=
  W.loop (γ := γ1) (fun g => ks.zip (vs (g))) (fun g w => Mem w0 M (Lf (g)) w ∧ Φ (g)) (fun g => μ (g)) i1 (holds_of h0) (fun w hS => ⟨hL ▸ hS, hΦ⟩) fun g f' J hJ =>
    W.and fun hφ => round (g) f' J hφ fun g1' f'' w hμ hφ' hk hm => hJ g1' f'' w hμ (holds_of hk) ⟨hm, hφ'⟩
theorem W.loop2 {c : Code} {γ1 γ2 : Type} (ks : List Nat) (vs : γ1 → γ2 → List Value) (Φ : γ1 → γ2 → Prop) (Lf : γ1 → γ2 → List (List Blk)) (μ : γ1 → γ2 → Nat) (i1 : γ1) (i2 : γ2) (h0 : ks.map f = vs i1 i2) (hΦ : Φ i1 i2) (hL : LL = Lf i1 i2)
    (round : ∀ g1 g2, ∀ f' J, Φ g1 g2 → (∀ g1' g2' f'' w, μ g1' g2' < μ g1 g2 → Φ g1' g2' → ks.map f'' = vs g1' g2' → Mem w0 M (Lf g1' g2') w → J (Fr n ds f'') w) → W r P (Exit.then J Q) c n ds (upds (ks.zip (vs g1 g2)) f') (Mem w0 M (Lf g1 g2))) :
    W r P Q (.loop c) n ds f (Mem w0 M LL) :=
  W.loop (γ := γ1 × γ2) (fun g => ks.zip (vs (g.1) (g.2))) (fun g w => Mem w0 M (Lf (g.1) (g.2)) w ∧ Φ (g.1) (g.2)) (fun g => μ (g.1) (g.2)) (i1, i2) (holds_of h0) (fun w hS => ⟨hL ▸ hS, hΦ⟩) fun g f' J hJ =>
    W.and fun hφ => round (g.1) (g.2) f' J hφ fun g1' g2' f'' w hμ hφ' hk hm => hJ (g1', g2') f'' w hμ (holds_of hk) ⟨hm, hφ'⟩
theorem W.loop4 {c : Code} {γ1 γ2 γ3 γ4 : Type} (ks : List Nat) (vs : γ1 → γ2 → γ3 → γ4 → List Value) (Φ : γ1 → γ2 → γ3 → γ4 → Prop) (Lf : γ1 → γ2 → γ3 → γ4 → List (List Blk)) (μ : γ1 → γ2 → γ3 → γ4 → Nat) (i1 : γ1) (i2 : γ2) (i3 : γ3) (i4 : γ4) (h0 : ks.map f = vs i1 i2 i3 i4) (hΦ : Φ i1 i2 i3 i4) (hL : LL = Lf i1 i2 i3 i4)
    (round : ∀ g1 g2 g3 g4, ∀ f' J, Φ g1 g2 g3 g4 → (∀ g1' g2' g3' g4' f'' w, μ g1' g2' g3' g4' < μ g1 g2 g3 g4 → Φ g1' g2' g3' g4' → ks.map f'' = vs g1' g2' g3' g4' → Mem w0 M (Lf g1' g2' g3' g4') w → J (Fr n ds f'') w) → W r P (Exit.then J Q) c n ds (upds (ks.zip (vs g1 g2 g3 g4)) f') (Mem w0 M (Lf g1 g2 g3 g4))) :
    W r P Q (.loop c) n ds f (Mem w0 M LL) :=
  W.loop (γ := γ1 × γ2 × γ3 × γ4) (fun g => ks.zip (vs (g.1) (g.2.1) (g.2.2.1) (g.2.2.2))) (fun g w => Mem w0 M (Lf (g.1) (g.2.1) (g.2.2.1) (g.2.2.2)) w ∧ Φ (g.1) (g.2.1) (g.2.2.1) (g.2.2.2)) (fun g => μ (g.1) (g.2.1) (g.2.2.1) (g.2.2.2)) (i1, i2, i3, i4) (holds_of h0) (fun w hS => ⟨hL ▸ hS, hΦ⟩) fun g f' J hJ =>
    W.and fun hφ => round (g.1) (g.2.1) (g.2.2.1) (g.2.2.2) f' J hφ fun g1' g2' g3' g4' f'' w hμ hφ' hk hm => hJ (g1', g2', g3', g4') f'' w hμ (holds_of hk) ⟨hm, hφ'⟩
theorem W.meet5 {x : Code} {γ1 γ2 γ3 γ4 γ5 : Type} (K : Act → World → Prop) (ks : List Nat) (vs : γ1 → γ2 → γ3 → γ4 → γ5 → List Value) (Φ : γ1 → γ2 → γ3 → γ4 → γ5 → Prop) (Lf : γ1 → γ2 → γ3 → γ4 → γ5 → List (List Blk))
    (first : ∀ J : Act → World → Prop, (∀ g1 g2 g3 g4 g5, ∀ f' w, Φ g1 g2 g3 g4 g5 → ks.map f' = vs g1 g2 g3 g4 g5 → Mem w0 M (Lf g1 g2 g3 g4 g5) w → J (Fr n ds f') w) → W r P (Exit.then J Q) x n ds f S)
    (after : ∀ g1 g2 g3 g4 g5, ∀ f', Φ g1 g2 g3 g4 g5 → ∀ w, Mem w0 M (Lf g1 g2 g3 g4 g5) w → K (Fr n ds (upds (ks.zip (vs g1 g2 g3 g4 g5)) f')) w) : W r P (Exit.then K Q) x n ds f S :=
  W.meet (γ := γ1 × γ2 × γ3 × γ4 × γ5) K (fun g => ks.zip (vs (g.1) (g.2.1) (g.2.2.1) (g.2.2.2.1) (g.2.2.2.2))) (fun g w => Mem w0 M (Lf (g.1) (g.2.1) (g.2.2.1) (g.2.2.2.1) (g.2.2.2.2)) w ∧ Φ (g.1) (g.2.1) (g.2.2.1) (g.2.2.2.1) (g.2.2.2.2)) (fun J hJ => first J fun g1 g2 g3 g4 g5 f' w hφ hk hm => hJ (g1, g2, g3, g4, g5) f' w (holds_of hk) ⟨hm, hφ⟩)
    fun g f' w hT => after (g.1) (g.2.1) (g.2.2.1) (g.2.2.2.1) (g.2.2.2.2) f' hT.2 w hT.1
end
theorem lz2 {x : Value} {g c : Bool} {v u : Value} (h : g = true) (e : x = (bif (g && c) then v else u)) : x = (bif c then v else u) := by rw [e, h]; rfl
/-! ### Entering and leaving -/
section
variable {r : Option Nat} {P : Program} {S S' : World → Prop} {n : Nat} {ds : List Deferred} {f f' : Nat → Value} {o : Oper} {rest : List Oper} {v : Value} {d : Nat} {w0 : World} {M : List Nat} {LL LL' : List (List Blk)}
def Ret (w : World) (v : Value) (e : Ending) (w' : World) : Prop := e = .returned v ∧ Below w.heap.size w w'
def RetM {β : Type} (w : World) (Φ : β → Prop) (v : β → Value) (M : List Nat) (LL : β → List (List Blk)) (e : Ending) (w' : World) : Prop := ∃ g, Φ g ∧ e = .returned (v g) ∧ Mem w M (LL g) w'
theorem calls_W {k : FuncId} {fn : Func} {c : Code} {args : Array Value} {R : Ending → World → Prop} (hf : P.funcs[k]? = some fn) (hb : fn.body = some c) (hn : fn.ntmps = n) (hl : args.size ≤ n)
    (hM : Mem w0 M LL w0) (h : W none P (bodyPostM (fence none) 0 P fn R) c n [] (fun i => args.getD i undef) (Mem w0 M LL)) : Calls P k args w0 R := by
  refine callsIn_to (r := none) (n := 0) (callsIn_of_wp_marks hf hb trivial ?_)
  have e : ({ tmps := args ++ Array.replicate (fn.ntmps - args.size) undef, defers := [] } : Act) = Fr n [] (fun i => args.getD i undef) := by
    simp only [Fr, Act.mk.injEq, and_true]
    apply Array.ext
    · simp [hn]; omega
    · intro i h1 h2
      simp only [Array.size_ofFn] at h2
      rw [Array.getElem_ofFn]
      by_cases hi : i < args.size
      · rw [Array.getElem_append_left hi]; simp [Array.getD, hi]
      · rw [Array.getElem_append_right (by omega)]; simp [Array.getD, hi]
  rw [e]
  exact h w0 hM
def RV (P : Program) (S : World → Prop) (n : Nat) (f : Nat → Value) : ResultVar → Value → Prop
  | .tmp t, v => ev n f (.tmp t) = v
  | .cell a t, v => ∃ adr, ev n f (.tmp a) = .pointer (some adr) ∧ ∀ w, S w → (loadVar t adr).run P w = .ok v w
theorem getD_Fr (t : Nat) : (Fr n ds f).tmps.getD t undef = ev n f (.tmp t) := congrFun (Fr_eval n ds f) (.tmp t)
def readRV : ResultVar → Array Value → Sem Value
  | .tmp t, tmps => pure (tmps.getD t undef)
  | .cell a t, tmps => do loadVar t (← asAddr (tmps.getD a undef))
theorem run_readRV {r : ResultVar} {w : World} (hS : S w) (h : RV P S n f r v) : (readRV r (Fr n ds f).tmps).run P w = .ok v w := by
  cases r with
  | tmp t => simp only [readRV, getD_Fr]; rw [show ev n f (.tmp t) = v from h]; rfl
  | cell a t =>
    obtain ⟨adr, ha, hl⟩ := h
    simp only [readRV, getD_Fr, ha, Sem.run_bind]
    simp [asAddr, hl w hS]
theorem results_eq (fn : Func) (tmps : Array Value) : results fn tmps = (do
    let vs ← fn.results.mapM fun r => readRV r tmps
    pure (if h : vs.size = 1 then vs[0] else .tuple vs)) := by
  unfold results
  congr 2
  funext r
  cases r <;> rfl
abbrev Fin (P : Program) (fn : Func) (R : Ending → World → Prop) (a : Act) (w : World) : Prop := ∃ v, (results fn a.tmps).run P w = .ok v w ∧ R (.returned v) w
theorem fin_ret {fn : Func} {R : Ending → World → Prop} {w : World} (h : Fin P fn R (Fr n [] f) w) : bodyPostM (fence none) 0 P fn R .ret (Fr n [] f) w := by
  exact h
theorem fin_normal {fn : Func} {R : Ending → World → Prop} {w : World} (h : Fin P fn R (Fr n [] f) w) : bodyPostM (fence none) 0 P fn R .normal (Fr n [] f) w := fin_ret h
theorem fin_mark {fn : Func} {R : Ending → World → Prop} {D : Nat} {w : World} (hD : w.heap[D]? = some (.deferred (some [])))
    (h : Fin P fn R (Fr n [] f) (w.putObj D (.deferred none))) : bodyPostM (fence none) 0 P fn R .ret (Fr n [{ target := .collected D, args := #[] }] f) w :=
  ⟨by simp, .inl ⟨D, _, rfl, run_takeDeferred hD, h⟩⟩
theorem Mem.mark {w : World} {D i : Nat} (h : Mem w0 M LL w) (hi : LL[i]? = some [⟨D, .deferred (some [])⟩]) : w.heap[D]? = some (.deferred (some [])) ∧ Mem w0 M (LL.set i [⟨D, .deferred none⟩]) (w.putObj D (.deferred none)) := by
  have hd : w.heap[D]? = some (.deferred (some [])) := h.at (p := ⟨D, .deferred (some [])⟩) (j := 0) hi rfl
  refine ⟨hd, ?_⟩
  have hlt : D < w.heap.size := (Array.getElem?_eq_some_iff.1 hd).1
  exact h.putO (s := [⟨D, .deferred (some [])⟩]) (j := 0) hi rfl rfl rfl rfl (by simp) (fun k _ hk => World.putObj_heap_other hk) (World.putObj_heap_same hlt)
end
end Go.Proofs.YtmonlaoaengfdaaGreatDoor.Base
