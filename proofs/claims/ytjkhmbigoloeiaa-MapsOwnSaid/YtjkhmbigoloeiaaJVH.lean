import Derived.Test.YtjkhmbigoloeiaaJVG
import Derived.Laws.StructEq
import Derived.ChangeKeysEq
set_option linter.unusedVariables false
set_option linter.unusedSimpArgs false
namespace Go.Proofs.Ytjkhmbigoloeiaa.Base
open Go.RowKit
def leafEq : Value → Value → Bool
  | .int _ a, .int _ b => a == b
  | .bool a, .bool b => a == b
  | .string a, .string b => a == b
  | _, _ => false
def eqCells : List Value → List Value → Bool
  | [], [] => true
  | x :: xs, y :: ys => leafEq x y && eqCells xs ys
  | _, _ => false
theorem eqCells_append : ∀ {a b a' b' : List Value}, a.length = b.length → eqCells (a ++ a') (b ++ b') = (eqCells a b && eqCells a' b')
  | [], [], _, _, _ => by simp [eqCells]
  | x :: a, y :: b, a', b', h => by
    simp only [List.cons_append, eqCells, eqCells_append (a := a) (b := b) (by simpa using h), Bool.and_assoc]
  | [], _ :: _, _, _, h => by cases h
  | _ :: _, [], _, _, h => by cases h
inductive Lf where
  | int (k : IntKind)
  | bool
  | string
def lfOK : Lf → Value → Prop
  | .int k, v => ∃ n, v = .int k n
  | .bool, v => ∃ b, v = .bool b
  | .string, v => ∃ s, v = .string s
def eqFieldsF (r : TypeId → Option (List Lf)) (P : Program) (total : Nat) : List Field → Nat → Option (List Lf)
  | [], off => if off = total then some [] else none
  | f :: fs, off => if f.offset = off ∧ (f.name ≠ "_") then (r f.type).bind fun a => if a.length = P.cellsOf f.type then (eqFieldsF r P total fs (off + a.length)).map (a ++ ·) else none else none
def aggB (P : Program) (t : TypeId) : Bool :=
  match P.underlying t with
  | some (.struct _) | some (.array _ _) => true
  | _ => false
def eqFlat (P : Program) : Nat → TypeId → Option (List Lf)
  | 0, _ => none
  | k + 1, t => match P.underlying t with
    | some .bool => if P.cellsOf t = 1 then some [.bool] else none
    | some (.int k) => if P.cellsOf t = 1 then some [.int k] else none
    | some .string => if P.cellsOf t = 1 then some [.string] else none
    | some (.struct fs) => if P.stoodInHeld t = false then eqFieldsF (eqFlat P k) P (P.cellsOf t) fs.toList 0 else none
    | some (.array n e) => (eqFlat P k e).bind fun a => if a.length = P.cellsOf e ∧ n * a.length = P.cellsOf t then some (List.replicate n a).flatten else none
    | _ => none
def mkV (P : Program) (t : TypeId) (cs : List Value) : Value := if aggB P t then .agg cs.toArray else cs.headD undef
theorem F2.length {α β : Type} {R : α → β → Prop} : ∀ {a : List α} {b : List β}, F2 R a b → a.length = b.length
  | [], [], _ => rfl
  | _ :: _, _ :: _, h => by simp [F2.length h.2]
  | [], _ :: _, h => h.elim
  | _ :: _, [], h => h.elim
theorem F2.split {α β : Type} {R : α → β → Prop} : ∀ {a a' : List α} {l : List β}, F2 R (a ++ a') l → F2 R a (l.take a.length) ∧ F2 R a' (l.drop a.length)
  | [], _, _, h => ⟨by simp [F2], by simpa using h⟩
  | x :: a, a', [], h => by simp [F2] at h
  | x :: a, a', y :: l, h => by
    have h2 : F2 R (a ++ a') l := h.2
    obtain ⟨i1, i2⟩ := F2.split h2
    exact ⟨⟨h.1, i1⟩, i2⟩
section
variable {P : Program}
theorem run_isAggB (t : TypeId) (d : TypeDesc) (hu : P.underlying t = some d) (w : World) : (isAgg t).run P w = .ok (aggB P t) w := by
  unfold isAgg
  rw [Sem.run_bind, run_underlying hu w]
  cases d <;> simp [aggB, hu]
theorem run_part (t : TypeId) (d : TypeDesc) (hu : P.underlying t = some d) (xs : List Value) (off : Nat) (c : List Value) (hc : (xs.drop off).take (P.cellsOf t) = c) (hl : c.length = P.cellsOf t) (hp : aggB P t = false → P.cellsOf t = 1) (hi : (P.info? t).isSome) (w : World) :
    (part t xs.toArray off).run P w = .ok (mkV P t c) w := by
  unfold part
  rw [Sem.run_bind, run_isAggB t d hu w]
  simp only [Result.andThen_ok]
  cases ha : aggB P t with
  | true =>
    obtain ⟨i, hi⟩ := Option.isSome_iff_exists.1 hi
    have hz : P.cellsOf t = i.size := by simp [Program.cellsOf, hi]
    have e : xs.toArray.extract off (off + P.cellsOf t) = c.toArray := by
      rw [List.extract_toArray, List.extract_eq_take_drop, Nat.add_sub_cancel_left, hc]
    simp [sizeOf, typeInfo, hi, mkV, ha, ← hz]
    exact hc
  | false =>
    have h1 := hp ha
    rw [h1] at hl hc
    match c, hl with
    | [x], _ =>
      have : xs[off]? = some x := by
        have h2 : ((xs.drop off).take 1)[0]? = some x := by rw [hc]; rfl
        simpa using h2
      simp [this, mkV, ha]
def EqOK (P : Program) (k : Nat) : Prop := ∀ (t : TypeId) (ls : List Lf), eqFlat P k t = some ls → ls.length = P.cellsOf t ∧ (aggB P t = false → P.cellsOf t = 1) ∧ (∃ d, P.underlying t = some d) ∧
  ∀ (d : Nat), k ≤ d → ∀ (cs cs' : List Value) (w : World), F2 lfOK ls cs → F2 lfOK ls cs' → (Op.equalIn d t (mkV P t cs) (mkV P t cs')).run P w = .ok (eqCells cs cs') w
theorem info_of_underlying {t : TypeId} {d : TypeDesc} (h : P.underlying t = some d) : (P.info? t).isSome := by
  cases hi : P.info? t with
  | some i => rfl
  | none =>
    simp [Program.underlying, hi] at h
theorem eqFields_ok {k d total : Nat} (hk : EqOK P k) (hd : k ≤ d) {xs ys : List Value} (hx : xs.length = total) (hy : ys.length = total) : ∀ (fs : List Field) (off : Nat) (ls : List Lf) (w : World), eqFieldsF (eqFlat P k) P total fs off = some ls →
    F2 lfOK ls (xs.drop off) → F2 lfOK ls (ys.drop off) → (Op.eqFields d xs.toArray ys.toArray fs).run P w = .ok (eqCells (xs.drop off) (ys.drop off)) w
  | [], off, ls, w, h, hF, hG => by
    simp only [eqFieldsF] at h
    split at h
    · rename_i ho
      have e1 : xs.drop off = [] := by rw [ho, ← hx, List.drop_length]
      have e2 : ys.drop off = [] := by rw [ho, ← hy, List.drop_length]
      rw [e1, e2]
      rfl
    · cases h
  | f :: fs, off, ls, w, h, hF, hG => by
    simp only [eqFieldsF] at h
    split at h
    · rename_i ho
      obtain ⟨a, ha, h⟩ := Option.bind_eq_some_iff.1 h
      split at h
      · rename_i hl
        obtain ⟨ls', h', rfl⟩ := Option.map_eq_some_iff.1 h
        obtain ⟨hlen, hp, ⟨dd, hu⟩, heq⟩ := hk f.type a ha
        obtain ⟨f1, f2⟩ := hF.split
        obtain ⟨g1, g2⟩ := hG.split
        rw [List.drop_drop] at f2 g2
        have lf := f1.length
        have lg := g1.length
        have px := run_part (P := P) f.type dd hu xs f.offset ((xs.drop off).take a.length) (by rw [ho.1, hlen]) (by rw [← lf, hlen]) hp (info_of_underlying hu) w
        have py := run_part (P := P) f.type dd hu ys f.offset ((ys.drop off).take a.length) (by rw [ho.1, hlen]) (by rw [← lg, hlen]) hp (info_of_underlying hu) w
        have he := heq d hd _ _ w f1 g1
        have ih := eqFields_ok hk hd hx hy fs (off + a.length) ls' w h' f2 g2
        have ex : xs.drop off = (xs.drop off).take a.length ++ xs.drop (off + a.length) := by rw [← List.drop_drop, List.take_append_drop]
        have ey : ys.drop off = (ys.drop off).take a.length ++ ys.drop (off + a.length) := by rw [← List.drop_drop, List.take_append_drop]
        rw [ex, ey, eqCells_append (by rw [← lf, ← lg])]
        simp only [Op.eqFields, ho.2, if_true, Sem.run_bind, px, py, he, Result.andThen_ok, ne_eq, not_false_eq_true]
        cases hb : eqCells ((xs.drop off).take a.length) ((ys.drop off).take a.length) with
        | true => simpa using ih
        | false => simp
      · cases h
    · cases h
theorem eqReps_ok {k d c n : Nat} {e : TypeId} {a : List Lf} (hk : EqOK P k) (ha : eqFlat P k e = some a) (hd : k ≤ d) (hc : P.cellsOf e = c) {xs ys : List Value} (hx : xs.length = n * c) (hy : ys.length = n * c) : ∀ (m i : Nat) (w : World), i + m = n →
    F2 lfOK (List.replicate m a).flatten (xs.drop (i * c)) → F2 lfOK (List.replicate m a).flatten (ys.drop (i * c)) →
    (Op.eqItems d e c xs.toArray ys.toArray (List.range' i m)).run P w = .ok (eqCells (xs.drop (i * c)) (ys.drop (i * c))) w
  | 0, i, w, h, hF, hG => by
    have e1 : xs.drop (i * c) = [] := by rw [show i = n by omega, ← hx, List.drop_length]
    have e2 : ys.drop (i * c) = [] := by rw [show i = n by omega, ← hy, List.drop_length]
    rw [e1, e2]
    rfl
  | m + 1, i, w, h, hF, hG => by
    obtain ⟨hlen, hp, ⟨dd, hu⟩, heq⟩ := hk e a ha
    rw [List.replicate_succ, List.flatten_cons] at hF hG
    obtain ⟨f1, f2⟩ := hF.split
    obtain ⟨g1, g2⟩ := hG.split
    rw [hlen, hc, List.drop_drop, ← Nat.succ_mul] at f2 g2
    have lf := f1.length
    have lg := g1.length
    have px := run_part (P := P) e dd hu xs (i * c) ((xs.drop (i * c)).take a.length) (by rw [hlen]) (by rw [← lf, hlen]) hp (info_of_underlying hu) w
    have py := run_part (P := P) e dd hu ys (i * c) ((ys.drop (i * c)).take a.length) (by rw [hlen]) (by rw [← lg, hlen]) hp (info_of_underlying hu) w
    have he := heq d hd _ _ w f1 g1
    have ih := eqReps_ok hk ha hd hc hx hy m (i + 1) w (by omega) f2 g2
    have ex : xs.drop (i * c) = (xs.drop (i * c)).take a.length ++ xs.drop ((i + 1) * c) := by rw [hlen, hc, Nat.succ_mul, ← List.drop_drop, List.take_append_drop]
    have ey : ys.drop (i * c) = (ys.drop (i * c)).take a.length ++ ys.drop ((i + 1) * c) := by rw [hlen, hc, Nat.succ_mul, ← List.drop_drop, List.take_append_drop]
    rw [ex, ey, eqCells_append (by rw [← lf, ← lg]), List.range'_succ]
    simp only [Op.eqItems, Sem.run_bind, px, py, he, Result.andThen_ok]
    cases hb : eqCells ((xs.drop (i * c)).take a.length) ((ys.drop (i * c)).take a.length) with
    | true => simpa using ih
    | false => simp
theorem eqFieldsF_length {r : TypeId → Option (List Lf)} {total : Nat} : ∀ {fs : List Field} {off : Nat} {ls : List Lf}, eqFieldsF r P total fs off = some ls → off + ls.length = total
  | [], off, ls, h => by
    simp only [eqFieldsF] at h
    split at h
    · obtain rfl := Option.some.inj h; simpa
    · cases h
  | f :: fs, off, ls, h => by
    simp only [eqFieldsF] at h
    split at h
    · obtain ⟨a, ha, h⟩ := Option.bind_eq_some_iff.1 h
      split at h
      · obtain ⟨ls', h', rfl⟩ := Option.map_eq_some_iff.1 h
        have := eqFieldsF_length h'
        simp only [List.length_append]
        omega
      · cases h
    · cases h
theorem equal_flat : ∀ k, EqOK P k
  | 0 => fun t ls h => by simp [eqFlat] at h
  | k + 1 => fun t ls h => by
    have ih := equal_flat k
    simp only [eqFlat] at h
    split at h
    · rename_i hu
      split at h
      · rename_i h1
        obtain rfl := Option.some.inj h
        refine ⟨h1.symm, fun _ => h1, ⟨_, hu⟩, fun d hd cs cs' w hF hG => ?_⟩
        obtain ⟨d, rfl⟩ : ∃ e, d = e + 1 := ⟨d - 1, by omega⟩
        match cs, cs', hF, hG with
        | [_], [_], ⟨⟨a, rfl⟩, _⟩, ⟨⟨b, rfl⟩, _⟩ =>
          simp only [mkV, aggB, hu, Bool.false_eq_true, if_false, List.headD_cons, run_equalIn_bool' w d t a b hu]
          simp [eqCells, leafEq]
      · cases h
    · rename_i hu
      split at h
      · rename_i h1
        obtain rfl := Option.some.inj h
        refine ⟨h1.symm, fun _ => h1, ⟨_, hu⟩, fun d hd cs cs' w hF hG => ?_⟩
        obtain ⟨d, rfl⟩ : ∃ e, d = e + 1 := ⟨d - 1, by omega⟩
        match cs, cs', hF, hG with
        | [_], [_], ⟨⟨a, rfl⟩, _⟩, ⟨⟨b, rfl⟩, _⟩ =>
          simp only [mkV, aggB, hu, Bool.false_eq_true, if_false, List.headD_cons, run_equalIn_int w d t _ _ a b hu]
          simp [eqCells, leafEq]
      · cases h
    · rename_i hu
      split at h
      · rename_i h1
        obtain rfl := Option.some.inj h
        refine ⟨h1.symm, fun _ => h1, ⟨_, hu⟩, fun d hd cs cs' w hF hG => ?_⟩
        obtain ⟨d, rfl⟩ : ∃ e, d = e + 1 := ⟨d - 1, by omega⟩
        match cs, cs', hF, hG with
        | [_], [_], ⟨⟨a, rfl⟩, _⟩, ⟨⟨b, rfl⟩, _⟩ =>
          simp only [mkV, aggB, hu, Bool.false_eq_true, if_false, List.headD_cons]
          rw [run_equalIn_string w d t a b hu, ← beq_toListBytes]
          simp [eqCells, leafEq]
      · cases h
    · rename_i fs hu
      split at h
      · rename_i hst
        have hlen := eqFieldsF_length h
        rw [Nat.zero_add] at hlen
        have hagg : aggB P t = true := by simp [aggB, hu]
        refine ⟨hlen, fun hf => (by rw [hagg] at hf; cases hf), ⟨_, hu⟩, fun d hd cs cs' w hF hG => ?_⟩
        obtain ⟨d, rfl⟩ : ∃ e, d = e + 1 := ⟨d - 1, by omega⟩
        have hfo : P.fieldsOf t = fs := by simp [Program.fieldsOf, hu]
        have e1 := run_equalIn_struct (P := P) w d t cs.toArray cs'.toArray (by rw [hfo]; exact hu) hst
        have e2 := eqFields_ok (P := P) ih (d := d) (by omega) (xs := cs) (ys := cs') (total := P.cellsOf t) (by rw [← hF.length, hlen]) (by rw [← hG.length, hlen]) fs.toList 0 ls w h (by simpa using hF) (by simpa using hG)
        simp only [mkV, hagg, if_true]
        rw [e1, hfo, e2]
        simp
      · cases h
    · rename_i n e hu
      obtain ⟨a, ha, h⟩ := Option.bind_eq_some_iff.1 h
      split at h
      · rename_i hl
        obtain rfl := Option.some.inj h
        obtain ⟨hlen, hp, ⟨dd, hue⟩, heq⟩ := ih e a ha
        have hlt : (List.replicate n a).flatten.length = P.cellsOf t := by rw [← hl.2]; simp
        have hagg : aggB P t = true := by simp [aggB, hu]
        refine ⟨hlt, fun hf => (by rw [hagg] at hf; cases hf), ⟨_, hu⟩, fun d hd cs cs' w hF hG => ?_⟩
        obtain ⟨d, rfl⟩ : ∃ e, d = e + 1 := ⟨d - 1, by omega⟩
        obtain ⟨i, hi⟩ := Option.isSome_iff_exists.1 (info_of_underlying hue)
        have e1 := run_equalIn_array (P := P) w d cs.toArray cs'.toArray hu hi
        have e2 := eqReps_ok (P := P) ih ha (d := d) (c := P.cellsOf e) (n := n) (by omega) rfl (xs := cs) (ys := cs') (by rw [← hF.length, hlt, ← hl.2, hl.1]) (by rw [← hG.length, hlt, ← hl.2, hl.1]) n 0 w (by omega) (by simpa using hF) (by simpa using hG)
        simp only [mkV, hagg, if_true]
        rw [e1, List.range_eq_range', e2]
        simp
      · cases h
    · cases h
theorem run_eqv {t : TypeId} {ls : List Lf} {cs cs' : List Value} {x y : Operand} (hf : eqFlat P 100 t = some ls) (ha : aggB P t = true) (hg : P.eqGuardType P.depth t = false) (h1 : F2 lfOK ls cs) (h2 : F2 lfOK ls cs') (w : World) :
    (do eqGuard .eql t x y (.agg cs.toArray) (.agg cs'.toArray); binOp .eql t (.agg cs.toArray) (.agg cs'.toArray) : Sem Value).run P w = .ok (.bool (eqCells cs cs')) w := by
  have h := (equal_flat (P := P) 100 t ls hf).2.2.2 10000 (by decide) cs cs' w h1 h2
  simp only [mkV, ha, if_true] at h
  rw [Sem.run_bind, run_eqGuard_agg w .eql t x y cs.toArray cs'.toArray hg]
  simp only [Result.andThen_ok, run_eql_struct, h]
theorem run_nev {t : TypeId} {ls : List Lf} {cs cs' : List Value} {x y : Operand} (hf : eqFlat P 100 t = some ls) (ha : aggB P t = true) (hg : P.eqGuardType P.depth t = false) (h1 : F2 lfOK ls cs) (h2 : F2 lfOK ls cs') (w : World) :
    (do eqGuard .neq t x y (.agg cs.toArray) (.agg cs'.toArray); binOp .neq t (.agg cs.toArray) (.agg cs'.toArray) : Sem Value).run P w = .ok (.bool (!(eqCells cs cs'))) w := by
  have h := (equal_flat (P := P) 100 t ls hf).2.2.2 10000 (by decide) cs cs' w h1 h2
  simp only [mkV, ha, if_true] at h
  rw [Sem.run_bind, run_eqGuard_agg w .neq t x y cs.toArray cs'.toArray hg]
  simp only [Result.andThen_ok, run_neq_struct, h]
variable {S : World → Prop} {n : Nat} {f : Nat → Value} {o : Oper} {b : Bool}
theorem Ys.eqv {t ty : TypeId} {ls : List Lf} {cs cs' : List Value} {x y : Operand} (hop : o.op = .binOp .eql t x y ty) (hx : ev n f x = .agg cs.toArray) (hy : ev n f y = .agg cs'.toArray) (hf : eqFlat P 100 t = some ls) (ha : aggB P t = true) (hg : P.eqGuardType P.depth t = false) (h1 : F2 lfOK ls cs) (h2 : F2 lfOK ls cs') (hb : eqCells cs cs' = b) :
    Ys P n S f o (.bool b) := Ys.pure fun w => by
  subst hb
  have := run_eqv (P := P) (x := x) (y := y) hf ha hg h1 h2 w
  simp only [execOp, hop, hx, hy]
  rw [Sem.run_bind, this]
  rfl
theorem Ys.nev {t ty : TypeId} {ls : List Lf} {cs cs' : List Value} {x y : Operand} (hop : o.op = .binOp .neq t x y ty) (hx : ev n f x = .agg cs.toArray) (hy : ev n f y = .agg cs'.toArray) (hf : eqFlat P 100 t = some ls) (ha : aggB P t = true) (hg : P.eqGuardType P.depth t = false) (h1 : F2 lfOK ls cs) (h2 : F2 lfOK ls cs') (hb : eqCells cs cs' = b) :
    Ys P n S f o (.bool (!b)) := Ys.pure fun w => by
  subst hb
  have := run_nev (P := P) (x := x) (y := y) hf ha hg h1 h2 w
  simp only [execOp, hop, hx, hy]
  rw [Sem.run_bind, this]
  rfl
end
section
variable {S : World → Prop} {P : Program} {n : Nat} {f : Nat → Value} {o : Oper}
end
end Go.Proofs.Ytjkhmbigoloeiaa.Base
