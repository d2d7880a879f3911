import Derived.Test.YtmonlaoaengfdaaGreatDoorM1
import Derived.Laws.AppendOwn
import Derived.Laws.OwnMore
import Derived.Laws.MakeOwn
import Derived.Laws.CopyRow
import Derived.Laws.BytesString
import Derived.Laws.Slices
set_option linter.unusedVariables false
set_option linter.unusedSimpArgs false
namespace Go.Proofs.YtmonlaoaengfdaaGreatDoor.Base
open Go.RowKit
/-! ### Numbers -/
def iadd (k : IntKind) (a b : Int) : Int := k.wrap (a + b)
def isub (k : IntKind) (a b : Int) : Int := k.wrap (a - b)
def imul (k : IntKind) (a b : Int) : Int := k.wrap (a * b)
def band (k : IntKind) (a b : Int) : Int := k.wrap ((BitVec.ofInt k.bits a &&& BitVec.ofInt k.bits b).toNat)
def bor (k : IntKind) (a b : Int) : Int := k.wrap ((BitVec.ofInt k.bits a ||| BitVec.ofInt k.bits b).toNat)
def bxor (k : IntKind) (a b : Int) : Int := k.wrap ((BitVec.ofInt k.bits a ^^^ BitVec.ofInt k.bits b).toNat)
def ishl (k : IntKind) (a b : Int) : Int := k.wrap (a * 2 ^ (min b.toNat k.bits))
def ishr (k : IntKind) (a b : Int) : Int := a.fdiv (2 ^ (min b.toNat k.bits))
def iquo (k : IntKind) (a b : Int) : Int := k.wrap (a.tdiv b)
def irem (a b : Int) : Int := a.tmod b
def icnv (k : IntKind) (a : Int) : Int := k.wrap a
def imin (a b : Int) : Int := if b < a then b else a
def imax (a b : Int) : Int := if b > a then b else a
theorem wrap_i64 {x : Int} (h1 : -9223372036854775808 ≤ x) (h2 : x ≤ 9223372036854775807) : IntKind.i64.wrap x = x := by
  simp only [IntKind.wrap, IntKind.bits, IntKind.signed, Bool.true_and, Nat.reduceSub, Int.reducePow]
  by_cases h : x % 18446744073709551616 ≥ 9223372036854775808
  · rw [if_pos (by simpa using h)]; omega
  · rw [if_neg (by simpa using h)]; omega
theorem imin_bd (a b : Int) : imin a b ≤ a ∧ imin a b ≤ b ∧ (imin a b = a ∨ imin a b = b) := by unfold imin; split <;> omega
theorem imax_bd (a b : Int) : a ≤ imax a b ∧ b ≤ imax a b ∧ (imax a b = a ∨ imax a b = b) := by unfold imax; split <;> omega
theorem iadd_eq {a b c : Int} (h : a + b = c) (h1 : -9223372036854775808 ≤ c) (h2 : c ≤ 9223372036854775807) : iadd .i64 a b = c := by unfold iadd; rw [h, wrap_i64 h1 h2]
theorem isub_eq {a b c : Int} (h : a - b = c) (h1 : -9223372036854775808 ≤ c) (h2 : c ≤ 9223372036854775807) : isub .i64 a b = c := by unfold isub; rw [h, wrap_i64 h1 h2]
theorem imul_eq {a b c : Int} (h : a * b = c) (h1 : -9223372036854775808 ≤ c) (h2 : c ≤ 9223372036854775807) : imul .i64 a b = c := by unfold imul; rw [h, wrap_i64 h1 h2]
theorem iquo_nat {a b : Nat} (h : (a : Int) ≤ 9223372036854775807) : iquo .i64 (a : Int) (b : Int) = ((a / b : Nat) : Int) := by
  unfold iquo
  have e : (a : Int).tdiv (b : Int) = ((a / b : Nat) : Int) := rfl
  rw [e]
  have := Nat.div_le_self a b
  generalize a / b = q at *
  exact wrap_i64 (by omega) (by omega)
theorem wrap_u {k : IntKind} {x : Int} (hs : k.signed = false) (h1 : 0 ≤ x) (h2 : x < 2 ^ k.bits) : k.wrap x = x := by
  simp only [IntKind.wrap, hs, Bool.false_and, Bool.false_eq_true, if_false]
  exact Int.emod_eq_of_lt h1 h2
theorem wrap_u16 {x : Int} (h1 : 0 ≤ x) (h2 : x < 65536) : IntKind.u16.wrap x = x := wrap_u rfl h1 (by simpa [IntKind.bits] using h2)
theorem wrap_u64 {x : Int} (h1 : 0 ≤ x) (h2 : x < 18446744073709551616) : IntKind.u64.wrap x = x := wrap_u rfl h1 (by simpa [IntKind.bits] using h2)
/-! ### Runs of pure operations -/
def pv (P : Program) {α : Type} : Sem α → Option α
  | .pure a => some a
  | .program k => pv P (k P)
  | .mark _ k => pv P k
  | _ => none
theorem pv_run {P : Program} {α : Type} : ∀ {s : Sem α} {a : α}, pv P s = some a → ∀ w, s.run P w = .ok a w
  | .pure a, b, h, w => by cases h; rfl
  | .program k, b, h, w => pv_run (s := k P) h w
  | .mark m k, b, h, w => pv_run (s := k) h w
  | .load .., _, h, _ => by cases h
  | .store .., _, h, _ => by cases h
  | .new .., _, h, _ => by cases h
  | .shape .., _, h, _ => by cases h
  | .freeze .., _, h, _ => by cases h
  | .frozen .., _, h, _ => by cases h
  | .getObj .., _, h, _ => by cases h
  | .setObj .., _, h, _ => by cases h
  | .choose .., _, h, _ => by cases h
  | .sys .., _, h, _ => by cases h
  | .halt .., _, h, _ => by cases h
def stepV (P : Program) (n : Nat) (f : Nat → Value) (o : Oper) : Option Value := match pv P (execOp (ev n f) o) with
  | some (.value v) => some v
  | _ => none
def pureRun (P : Program) (n : Nat) : List Oper → (Nat → Value) → Option (Nat → Value)
  | [], f => some f
  | o :: l, f => match plain o, o.dst, stepV P n f o with
    | true, some d, some v => pureRun P n l (upd f d v)
    | _, _, _ => none
def pf (P : Program) (n k : Nat) (l : List Oper) (f : Nat → Value) : Nat → Value := (pureRun P n (l.take k) f).getD f
section
variable {r : Option Nat} {P : Program} {ops : Array Oper} {Q : Exit → Act → World → Prop} {K : Act → World → Prop} {S : World → Prop} {n : Nat} {ds : List Deferred} {f : Nat → Value} {o : Oper} {rest : List Oper} {v : Value} {d : Nat} {w0 : World} {M : List Nat} {LL LL' : List (List Blk)} {s : List Blk} {i j b : Nat}
theorem Ys.reads (h : ∀ w, S w → (execOp (ev n f) o).run P w = .ok (.value v) w) : Ys P n S f o v := h
theorem Ys.pure (h : ∀ w, (execOp (ev n f) o).run P w = .ok (.value v) w) : Ys P n S f o v := fun w _ => h w
theorem Ys.conseq {v' : Value} (e : v = v') (h : Ys P n S f o v) : Ys P n S f o v' := e ▸ h
theorem Ys.mono {S' : World → Prop} (hs : ∀ w, S w → S' w) (h : Ys P n S' f o v) : Ys P n S f o v := fun w hS => h w (hs w hS)
theorem Wl.run_ : ∀ (l : List Oper) (k : Nat) (f : Nat → Value) (f' : Nat → Value), pureRun P n (l.take k) f = some f' → Wl r P ops K (l.drop k) n ds f' S → Wl r P ops K l n ds f S
  | l, 0, f, f', h, hw => by simp [pureRun] at h; subst h; exact hw
  | [], k + 1, f, f', h, hw => by simp [pureRun] at h; subst h; simpa using hw
  | o :: l, k + 1, f, f', h, hw => by
    simp only [List.take_succ_cons, pureRun] at h
    split at h
    · rename_i d v hp hd hv
      have hy : Ys P n S f o v := Ys.pure fun w => by
        unfold stepV at hv
        split at hv
        · rename_i v' hpv
          obtain rfl := Option.some.inj hv
          exact pv_run hpv w
        · cases hv
      exact Wl.ys hp hd hy (Wl.run_ l k _ f' h (by simpa using hw))
    · cases h
theorem Wl.run {l : List Oper} (k : Nat) (h : (pureRun P n (l.take k) f).isSome = true) (hw : Wl r P ops K (l.drop k) n ds (pf P n k l f) S) : Wl r P ops K l n ds f S := by
  obtain ⟨f', hf⟩ := Option.isSome_iff_exists.1 h
  have e : pf P n k l f = f' := by simp [pf, hf]
  rw [e] at hw
  exact Wl.run_ l k f f' hf hw
def planRun (P : Program) (n : Nat) (ops : Array Oper) : List (Nat × Bool) → (Nat → Value) → Option (Nat → Value)
  | [], f => some f
  | (i, true) :: l, f => match ops[i]? with
    | some o => match plain o, o.dst, stepV P n f o with
      | true, some d, some v => planRun P n ops l (upd f d v)
      | _, _, _ => none
    | none => none
  | (_, false) :: _, _ => none
def dpf (P : Program) (n : Nat) (ops : Array Oper) (k : Nat) (l : List (Nat × Bool)) (f : Nat → Value) : Nat → Value := (planRun P n ops (l.take k) f).getD f
theorem Wd.run_ {T : World → Prop} {A : List Nat} : ∀ (l : List (Nat × Bool)) (k : Nat) (f f' : Nat → Value), planRun P n ops (l.take k) f = some f' → Wd P ops K S A (l.drop k) n ds f' T → Wd P ops K S A l n ds f T
  | l, 0, f, f', h, hw => by simp [planRun] at h; subst h; exact hw
  | [], k + 1, f, f', h, hw => by simp [planRun] at h; subst h; simpa using hw
  | (i, false) :: l, k + 1, f, f', h, hw => by simp [planRun] at h
  | (i, true) :: l, k + 1, f, f', h, hw => by
    simp only [List.take_succ_cons, planRun] at h
    split at h
    · rename_i o ho
      split at h
      · rename_i d v hp hd hv
        have hy : Ys P n S f o v := Ys.pure fun w => by
          unfold stepV at hv
          split at hv
          · rename_i v' hpv
            obtain rfl := Option.some.inj hv
            exact pv_run hpv w
          · cases hv
        exact Wd.ys ho (plain_l hp) hd hy (Wd.run_ l k _ f' h (by simpa using hw))
      · cases h
    · cases h
theorem Wd.run {T : World → Prop} {A : List Nat} {l : List (Nat × Bool)} (k : Nat) (h : (planRun P n ops (l.take k) f).isSome = true) (hw : Wd P ops K S A (l.drop k) n ds (dpf P n ops k l f) T) : Wd P ops K S A l n ds f T := by
  obtain ⟨f', hf⟩ := Option.isSome_iff_exists.1 h
  have e : dpf P n ops k l f = f' := by simp [dpf, hf]
  rw [e] at hw
  exact Wd.run_ l k f f' hf hw
theorem Ys.pick {c x y : Operand} {e : Bool} (hop : o.op = .pick c x y) (hc : ev n f c = .bool e) : Ys P n S f o (bif e then ev n f x else ev n f y) := Ys.pure fun w => by
  simp only [execOp, hop, hc, asBool]
  cases e <;> rfl
theorem Ys.and {c x y : Operand} {e b : Bool} (hop : o.op = .pick c x y) (hc : ev n f c = .bool e) (hx : ev n f x = bif e then .bool b else undef) (hy : ev n f y = .bool false) : Ys P n S f o (.bool (e && b)) :=
  (Ys.pick hop hc).conseq (by cases e <;> simp [hx, hy])
/-! ### Loads and stores -/
theorem run_loadVar1 {t : TypeId} {a : Addr} {w : World} (ht : ∀ w, (isAgg t).run P w = .ok false w) (hc : w.cell? a = some v) : (loadVar t a).run P w = .ok v w := by
  simp [loadVar, ht, hc]
theorem run_loadVarN {t : TypeId} {a : Addr} {w : World} {vs : List Value} (ht : ∀ w, (isAgg t).run P w = .ok true w) (hz : ∀ w, (sizeOf t).run P w = .ok vs.length w) (hc : ∀ j v, vs[j]? = some v → w.cell? (a.add j) = some v) :
    (loadVar t a).run P w = .ok (.agg vs.toArray) w := by
  have hl := run_loadCells_list (P := P) w a vs hc
  simp [loadVar, ht, hz, hl]
theorem add_lit (b o j : Nat) : (⟨b, o, none⟩ : Addr).add j = ⟨b, o + j, none⟩ := by
  unfold Addr.add; split <;> simp_all
theorem adr_add0 (a : Addr) : a.add 0 = a := by
  unfold Addr.add
  split <;> simp_all
theorem adr_add_add (a : Addr) (m n : Nat) : (a.add m).add n = a.add (m + n) := by
  unfold Addr.add
  by_cases h1 : m = 0 <;> by_cases h2 : n = 0 <;> simp [h1, h2, Nat.add_assoc]
theorem add_block (a : Addr) (i : Nat) : (a.add i).block = a.block := by unfold Addr.add; split <;> rfl
theorem cell_lt {w : World} {a : Addr} {v : Value} (h : w.cell? a = some v) : a.block < w.heap.size := by
  unfold World.cell? at h
  split at h
  · rename_i hb
    exact (Array.getElem?_eq_some_iff.1 hb).1
  · cases h
theorem execOp_load {t : TypeId} {x : Operand} {a : Addr} {w : World} (hop : o.op = .load t x) (hx : ev n f x = .pointer (some a)) (h : (loadVar t a).run P w = .ok v w) : (execOp (ev n f) o).run P w = .ok (.value v) w := by
  simp [execOp, hop, hx, Instr.loadAt, Instr.sureAddr, h]
theorem Ys.ld {t : TypeId} {x : Operand} {a : Addr} (hop : o.op = .load t x) (hx : ev n f x = .pointer (some a)) (ht : ∀ w, (isAgg t).run P w = .ok false w) (hc : ∀ w, S w → w.cell? a = some v) : Ys P n S f o v :=
  Ys.reads fun w hS => execOp_load hop hx (run_loadVar1 ht (hc w hS))
theorem Ys.ldN {t : TypeId} {x : Operand} {a : Addr} {sz : Nat} {vs : List Value} (hop : o.op = .load t x) (hx : ev n f x = .pointer (some a)) (ht : ∀ w, (isAgg t).run P w = .ok true w)
    (hz : ∀ w, (sizeOf t).run P w = .ok sz w) (hl : vs.length = sz) (hc : ∀ w, S w → ∀ j v, vs[j]? = some v → w.cell? (a.add j) = some v) : Ys P n S f o (.agg vs.toArray) :=
  Ys.reads fun w hS => execOp_load hop hx (run_loadVarN ht (by rw [hl]; exact hz) (hc w hS))
theorem Mem.cells {w : World} (h : Mem w0 M LL w) {o : Nat} {cs vs : List Value} {t : TypeId} (hi : LL[i]? = some s) (hj : s[j]? = some (cb b cs t)) (hv : ∀ q v, vs[q]? = some v → cs[o + q]? = some v) :
    ∀ q v, vs[q]? = some v → w.cell? ((⟨b, o, none⟩ : Addr).add q) = some v := fun q v hq => by
  rw [add_lit]
  exact h.cell hi hj (hv q v hq)
theorem lit_sub {cs vs : List Value} {o sz : Nat} (hv : (cs.drop o).take sz = vs) : ∀ q v, vs[q]? = some v → cs[o + q]? = some v := fun q v hj => by
  rw [← hv, List.getElem?_take] at hj
  split at hj
  · simpa using hj
  · cases hj
theorem Ys.load {t : TypeId} {x : Operand} {o' : Nat} {cs : List Value} {ty : TypeId} (hop : o.op = .load t x) (hx : ev n f x = .pointer (some ⟨b, o', none⟩)) (ht : ∀ w, (isAgg t).run P w = .ok false w)
    (hi : LL[i]? = some s) (hj : s[j]? = some (cb b cs ty)) (hv : cs[o']? = some v) : Ys P n (Mem w0 M LL) f o v := Ys.ld hop hx ht fun _ hS => hS.cell hi hj hv
theorem Ys.loadN {t : TypeId} {x : Operand} {o' sz : Nat} {cs vs : List Value} {ty : TypeId} (hop : o.op = .load t x) (hx : ev n f x = .pointer (some ⟨b, o', none⟩)) (ht : ∀ w, (isAgg t).run P w = .ok true w)
    (hz : ∀ w, (sizeOf t).run P w = .ok sz w) (hi : LL[i]? = some s) (hj : s[j]? = some (cb b cs ty)) (hv : (cs.drop o').take sz = vs) (hl : vs.length = sz) : Ys P n (Mem w0 M LL) f o (.agg vs.toArray) :=
  Ys.ldN hop hx ht hz hl fun _ hS => hS.cells hi hj (lit_sub hv)
theorem execOp_store {t : TypeId} {x y : Operand} {a : Addr} {w w' : World} (hop : o.op = .store t x y) (hx : ev n f x = .pointer (some a)) (hy : ev n f y = v) (h : (storeVar t a v).run P w = .ok () w') : (execOp (ev n f) o).run P w = .ok .skip w' := by
  simp [execOp, hop, hx, hy, Instr.storeAt, Instr.sureAddr, h]
theorem cells_one (hv : v.oneCell' = true) : v.cells = #[v] := by
  cases v <;> first | rfl | cases hv
theorem Mem.free {w : World} (h : Mem w0 M LL w) {o : Nat} {cs : List Value} {t : TypeId} (hi : LL[i]? = some s) (hj : s[j]? = some (cb b cs t)) : w.frozen? ⟨b, o, none⟩ = false := by
  have := h.at hi hj
  simp only at this
  simp [World.frozen?, this]
theorem run_store1 {w : World} (h : Mem w0 M LL w) {o : Nat} {cs : List Value} {t : TypeId} (hi : LL[i]? = some s) (hj : s[j]? = some (cb b cs t)) (ho : o < cs.length) (hv : v.oneCell' = true) :
    (store ⟨b, o, none⟩ v).run P w = .ok () (w.setCell ⟨b, o, none⟩ v) := by
  rw [run_store P w _ v _ hv, h.cell hi hj (List.getElem?_eq_getElem ho), h.free hi hj]
  simp
theorem Ht.store {t : TypeId} {x y : Operand} {o' : Nat} {cs cs' : List Value} {ty : TypeId} (hd : o.dst = none) (hop : o.op = .store t x y) (hx : ev n f x = .pointer (some ⟨b, o', none⟩)) (hy : ev n f y = v)
    (hz : ∀ w, (sizeOf t).run P w = .ok 1 w) (hv : v.oneCell' = true) (hi : LL[i]? = some s) (hj : s[j]? = some (cb b cs ty)) (ho : o' < cs.length) (hcs : cs.set o' v = cs') (hL : LL.set i (s.set j (cb b cs' ty)) = LL') :
    Ht (β := Unit) P n (Mem w0 M LL) f o (fun _ => f) (fun _ => Mem w0 M LL') := fun ds w hS K hK => by
  have hs : (storeVar t ⟨b, o', none⟩ v).run P w = .ok () (w.setCell ⟨b, o', none⟩ v) := by
    simp only [storeVar, Sem.run_bind, hz, cells_one hv, Result.andThen_ok]
    have : (⟨b, o', none⟩ : Addr).add 0 = ⟨b, o', none⟩ := rfl
    simp [storeCells, this, run_store1 hS hi hj ho hv]
  unfold Oper.wp
  rw [Fr_eval, execOp_store hop hx hy hs]
  subst hcs
  have := hK () _ (hL ▸ hS.setCell hi hj v)
  simp only [Oper.upon, hd, Fr_put_none]
  exact this
def putAt (cs : List Value) (o : Nat) (vs : List Value) : List Value := cs.take o ++ (vs ++ cs.drop (o + vs.length))
theorem putAt_len (cs : List Value) (o : Nat) (vs : List Value) (h : o + vs.length ≤ cs.length) : (putAt cs o vs).length = cs.length := by
  unfold putAt; simp; omega
theorem putAt_nil (cs : List Value) (o : Nat) : putAt cs o [] = cs := by simp [putAt]
theorem run_storeCells {w : World} (h : Mem w0 M LL w) (vs : List Value) (o k : Nat) {cs : List Value} {t : TypeId} (hi : LL[i]? = some s) (hj : s[j]? = some (cb b cs t)) (hl : o + vs.length ≤ cs.length) (h1 : ∀ v ∈ vs, v.oneCell' = true) :
    ∃ w', (storeCells ⟨b, o, none⟩ vs 0).run P w = .ok () w' ∧ Mem w0 M (LL.set i (s.set j (cb b (putAt cs o vs) t))) w' := by
  have hb := h.at hi hj
  simp only at hb
  have hst := run_storeCells_at P b o t vs 0 cs.toArray w hb (by simpa using hl) h1
  refine ⟨_, hst, ?_⟩
  have e : ((cs.toArray).toList.take (o + 0) ++ vs ++ (cs.toArray).toList.drop (o + 0 + vs.length)) = putAt cs o vs := by simp [putAt]
  rw [e]
  exact h.putO hi hj rfl rfl rfl (by simp [World.setRow]) (fun k _ hk => setRow_other w b k _ hk) (setRow_heap w b _ _ t _ hb)
theorem Ht.storeN {t : TypeId} {x y : Operand} {o' : Nat} {cs vs cs' : List Value} {ty : TypeId} (hd : o.dst = none) (hop : o.op = .store t x y) (hx : ev n f x = .pointer (some ⟨b, o', none⟩)) (hy : ev n f y = .agg vs.toArray)
    (hz : ∀ w, (sizeOf t).run P w = .ok vs.length w) (hv : ∀ v ∈ vs, v.oneCell' = true) (hi : LL[i]? = some s) (hj : s[j]? = some (cb b cs ty)) (ho : o' + vs.length ≤ cs.length) (hcs : putAt cs o' vs = cs') (hL : LL.set i (s.set j (cb b cs' ty)) = LL') :
    Ht (β := Unit) P n (Mem w0 M LL) f o (fun _ => f) (fun _ => Mem w0 M LL') := fun ds w hS K hK => by
  obtain ⟨w', hr, hm⟩ := run_storeCells (P := P) hS vs o' 0 hi hj ho hv
  have hs : (storeVar t ⟨b, o', none⟩ (.agg vs.toArray)).run P w = .ok () w' := by
    simp only [storeVar, Sem.run_bind, hz, Value.cells, Result.andThen_ok]
    simpa using hr
  unfold Oper.wp
  rw [Fr_eval, execOp_store hop hx hy hs]
  rw [hcs, hL] at hm
  have := hK () _ hm
  simp only [Oper.upon, hd, Fr_put_none]
  exact this
/-! ### New blocks -/
theorem Ht.made {mk : Nat → Value} {t : TypeId} {cs : List Value} (hd : o.dst = some d)
    (hr : ∀ w, (execOp (ev n f) o).run P w = .ok (.value (mk w.heap.size)) { w with heap := w.heap.push (.cells cs.toArray t (0, 0)) }) :
    Ht P n (Mem w0 M LL) f o (fun b => upd f d (mk b)) (fun b => Mem w0 M ([cb b cs t] :: LL)) := fun ds w hS K hK => by
  unfold Oper.wp
  rw [Fr_eval, hr]
  simp only [Oper.upon, hd, Fr_put]
  exact hK _ _ (hS.alloc cs t)
theorem Ht.alloc {t : TypeId} {z : Value} {cs : List Value} (hd : o.dst = some d) (hop : o.op = .alloc t) (hz : ∀ w, (zeroValue t).run P w = .ok z w) (hcs : z.cells.toList = cs) :
    Ht P n (Mem w0 M LL) f o (fun b => upd f d (.pointer (some ⟨b, 0, none⟩))) (fun b => Mem w0 M ([cb b cs t] :: LL)) := Ht.made (mk := fun b => .pointer (some ⟨b, 0, none⟩)) hd fun w => by
  have e : z.cells = cs.toArray := by rw [← hcs]
  simp [execOp, hop, Instr.alloc, hz, newVar, newRow, newObj, Sem.run, e]
theorem Ht.box {t : TypeId} {x : Operand} {cs : List Value} (hd : o.dst = some d) (hop : o.op = .box t x) (hx : ev n f x = v) (hcs : v.cells.toList = cs) :
    Ht P n (Mem w0 M LL) f o (fun b => upd f d (.pointer (some ⟨b, 0, none⟩))) (fun b => Mem w0 M ([cb b cs t] :: LL)) := Ht.made (mk := fun b => .pointer (some ⟨b, 0, none⟩)) hd fun w => by
  have e : v.cells = cs.toArray := by rw [← hcs]
  simp [execOp, hop, hx, Instr.box, newVar, newRow, newObj, Sem.run, e]
end
section
variable {r : Option Nat} {P : Program} {ops : Array Oper} {Q : Exit → Act → World → Prop} {K : Act → World → Prop} {S : World → Prop} {n : Nat} {ds : List Deferred} {f : Nat → Value} {o : Oper} {rest : List Oper} {v : Value} {d : Nat} {w0 : World} {M : List Nat} {LL LL' : List (List Blk)} {s : List Blk} {i j b : Nat}
/-! ### Calls -/
theorem Yc.call {k : FuncId} {args : Array Value} (h : ∀ w, (execOp (ev n f) o).run P w = .ok (.enter k args) w) (hc : ∀ w, Mem w0 M LL w → Calls P k args w (Ret w v)) : Yc P n (Mem w0 M LL) f o v := fun ds w hS K hK => by
  unfold Oper.wp
  rw [Fr_eval, h w]
  refine Calls.mono (hc w hS) ?_
  rintro e w' ⟨rfl, hb⟩
  exact hK _ (hS.ext hb)
theorem Ht.call {β : Type} {k : FuncId} {args : Array Value} {Φ : β → Prop} {vf : β → Value} {Lin Lk : List (List Blk)} {Lf Lo : β → List (List Blk)} {Mi : List Nat} (is ks : List Nat) (hd : o.dst = some d)
    (h : ∀ w, (execOp (ev n f) o).run P w = .ok (.enter k args) w) (hnd : (is ++ ks).Nodup) (hin : pickL LL is = Lin) (hk : pickL LL ks = Lk) (hM : Lin.flatten.map (·.b) = Mi)
    (hc : ∀ w, Mem w0 M LL w → Mem w Mi Lin w → Calls P k args w (RetM w Φ vf Mi Lf)) (hLo : ∀ g, Lf g ++ Lk = Lo g) :
    Ht (β := { g : β // Φ g }) P n (Mem w0 M LL) f o (fun g => upd f d (vf g.1)) (fun g => Mem w0 M (Lo g.1)) := fun ds w hS K hK => by
  subst hM
  have h1 : Mem w0 M (Lin ++ Lk) w := hS.pick (is ++ ks) hnd (by rw [← hin, ← hk]; simp [pickL])
  unfold Oper.wp
  rw [Fr_eval, h w]
  refine Calls.mono (hc w hS h1.local) ?_
  rintro e w' ⟨g, hΦ, rfl, hm⟩
  simp only [hd, Fr_put]
  exact hK ⟨g, hΦ⟩ _ (by show Mem w0 M (Lo g) w'; rw [← hLo g]; exact h1.back hm)
def HtS {β : Type} (P : Program) (n : Nat) (S : World → Prop) (f : Nat → Value) (o : Oper) (Φ : β → Prop) (f' : β → Nat → Value) (S' : β → World → Prop) : Prop :=
  Ht (β := { g : β // Φ g }) P n S f o (fun g => f' g.1) (fun g => S' g.1)
theorem HtS.call {β : Type} {k : FuncId} {args : Array Value} {Φ : β → Prop} {vf : β → Value} {Lin Lk : List (List Blk)} {Lf Lo : β → List (List Blk)} {Mi : List Nat} (is ks : List Nat) (hd : o.dst = some d)
    (h : ∀ w, (execOp (ev n f) o).run P w = .ok (.enter k args) w) (hnd : (is ++ ks).Nodup) (hin : pickL LL is = Lin) (hk : pickL LL ks = Lk) (hM : Lin.flatten.map (·.b) = Mi)
    (hc : ∀ w, Mem w0 M LL w → Mem w Mi Lin w → Calls P k args w (RetM w Φ vf Mi Lf)) (hLo : ∀ g, Lf g ++ Lk = Lo g) :
    HtS P n (Mem w0 M LL) f o Φ (fun g => upd f d (vf g)) (fun g => Mem w0 M (Lo g)) := Ht.call is ks hd h hnd hin hk hM hc hLo
theorem Wl.htS {β : Type} {Φ : β → Prop} {f' : β → Nat → Value} {S' : β → World → Prop} (hg : plain o = true) (h : HtS P n S f o Φ f' S') (hr : ∀ b, Φ b → Wl r P ops K rest n ds (f' b) (S' b)) : Wl r P ops K (o :: rest) n ds f S := Wl.ht hg h fun b => hr b.1 b.2
theorem Wd.htS {T : World → Prop} {i : Nat} {pl : List (Nat × Bool)} {A : List Nat} {β : Type} {Φ : β → Prop} {f' : β → Nat → Value} {T' : β → World → Prop} (hi : ops[i]? = some o) (hg : o.guard = none) (h : HtS P n T f o Φ f' T') (hTS : waits .any ops A i = true ∨ ∀ b w, T' b w → S w) (hr : ∀ b, Φ b → Wd P ops K S A pl n ds (f' b) (T' b)) : Wd P ops K S A ((i, false) :: pl) n ds f T :=
  Wd.ht hi hg h (hTS.imp_right fun h b w => h b.1 w) fun b => hr b.1 b.2
theorem Wd.htwS {T : World → Prop} {i : Nat} {pl : List (Nat × Bool)} {A : List Nat} {β : Type} {Φ : β → Prop} {f' : β → Nat → Value} {T' : β → World → Prop} (hi : ops[i]? = some o) (hw : Region.wanted o (yl ops n f) = true) (h : HtS P n T f o Φ f' T') (hTS : waits .any ops A i = true ∨ ∀ b w, T' b w → S w) (hr : ∀ b, Φ b → Wd P ops K S A pl n ds (f' b) (T' b)) : Wd P ops K S A ((i, false) :: pl) n ds f T :=
  Wd.htw hi hw h (hTS.imp_right fun h b w => h b.1 w) fun b => hr b.1 b.2
theorem Wl.htwS {β : Type} {Φ : β → Prop} {f' : β → Nat → Value} {S' : β → World → Prop} (hn : nodef o = true) (hw : Region.wanted o (yl ops n f) = true) (h : HtS P n S f o Φ f' S') (hr : ∀ b, Φ b → Wl r P ops K rest n ds (f' b) (S' b)) : Wl r P ops K (o :: rest) n ds f S := Wl.htw hn hw h fun b => hr b.1 b.2
theorem Ys.l1 (b o' i j : Nat) {t : TypeId} (ht : ∀ w, (isAgg t).run P w = .ok false w) {x : Operand} {cs : List Value} {ty : TypeId} (hop : o.op = .load t x := by rfl) (hx : ev n f x = .pointer (some ⟨b, o', none⟩) := by kernel_rfl)
    (hi : LL[i]? = some s := by rfl) (hj : s[j]? = some (cb b cs ty) := by rfl) (hv : cs[o']? = some v := by rfl) : Ys P n (Mem w0 M LL) f o v := Ys.load hop hx ht hi hj hv
theorem Wl.pick {l : List Oper} (is : List Nat) (hd : is.Nodup) (e : pickL LL is = LL') (h : Wl r P ops K l n ds f (Mem w0 M LL')) : Wl r P ops K l n ds f (Mem w0 M LL) := Wl.conseq (fun _ hS => hS.pick is hd e) h
theorem W.pick {c : Code} (is : List Nat) (hd : is.Nodup) (e : pickL LL is = LL') (h : W r P Q c n ds f (Mem w0 M LL')) : W r P Q c n ds f (Mem w0 M LL) := W.conseq (fun _ hS => hS.pick is hd e) h
theorem Wl.castL {l : List Oper} (e : LL = LL') (h : Wl r P ops K l n ds f (Mem w0 M LL')) : Wl r P ops K l n ds f (Mem w0 M LL) := by rwa [e]
/-! ### Results -/
theorem ret0 {fn : Func} {R : Ending → World → Prop} {w : World} (hres : fn.results = #[]) (hR : R (.returned (.tuple #[])) w) : Fin P fn R (Fr n ds f) w := by
  refine ⟨_, ?_, hR⟩
  rw [results_eq]
  simp [hres]
theorem ret1 {fn : Func} {R : Ending → World → Prop} {r : ResultVar} {w : World} (hres : fn.results = #[r]) (hv : RV P S n f r v) (hS : S w) (hR : R (.returned v) w) : Fin P fn R (Fr n ds f) w := by
  refine ⟨v, ?_, hR⟩
  rw [results_eq]
  simp [hres, run_readRV hS hv]
theorem ret2 {fn : Func} {R : Ending → World → Prop} {r1 r2 : ResultVar} {v1 v2 : Value} {w : World} (hres : fn.results = #[r1, r2]) (hv1 : RV P S n f r1 v1) (hv2 : RV P S n f r2 v2) (hS : S w) (hR : R (.returned (.tuple #[v1, v2])) w) : Fin P fn R (Fr n ds f) w := by
  refine ⟨_, ?_, hR⟩
  rw [results_eq]
  simp [hres, run_readRV hS hv1, run_readRV hS hv2]
theorem ret3 {fn : Func} {R : Ending → World → Prop} {r1 r2 r3 : ResultVar} {v1 v2 v3 : Value} {w : World} (hres : fn.results = #[r1, r2, r3]) (hv1 : RV P S n f r1 v1) (hv2 : RV P S n f r2 v2) (hv3 : RV P S n f r3 v3) (hS : S w)
    (hR : R (.returned (.tuple #[v1, v2, v3])) w) : Fin P fn R (Fr n ds f) w := by
  refine ⟨_, ?_, hR⟩
  rw [results_eq]
  simp [hres, run_readRV hS hv1, run_readRV hS hv2, run_readRV hS hv3]
theorem ret4 {fn : Func} {R : Ending → World → Prop} {r1 r2 r3 r4 : ResultVar} {v1 v2 v3 v4 : Value} {w : World} (hres : fn.results = #[r1, r2, r3, r4]) (hv1 : RV P S n f r1 v1) (hv2 : RV P S n f r2 v2) (hv3 : RV P S n f r3 v3) (hv4 : RV P S n f r4 v4) (hS : S w)
    (hR : R (.returned (.tuple #[v1, v2, v3, v4])) w) : Fin P fn R (Fr n ds f) w := by
  refine ⟨_, ?_, hR⟩
  rw [results_eq]
  simp [hres, run_readRV hS hv1, run_readRV hS hv2, run_readRV hS hv3, run_readRV hS hv4]
theorem RV.tmp {t : Nat} (h : ev n f (.tmp t) = v) : RV P S n f (.tmp t) v := h
theorem RV.cell1 {t : TypeId} {a o' : Nat} {cs : List Value} {ty : TypeId} (hx : ev n f (.tmp a) = .pointer (some ⟨b, o', none⟩)) (ht : ∀ w, (isAgg t).run P w = .ok false w) (hi : LL[i]? = some s) (hj : s[j]? = some (cb b cs ty)) (hv : cs[o']? = some v) :
    RV P (Mem w0 M LL) n f (.cell a t) v := ⟨_, hx, fun _ hS => run_loadVar1 ht (hS.cell hi hj hv)⟩
theorem RV.cellN {t : TypeId} {a o' sz : Nat} {cs vs : List Value} {ty : TypeId} (hx : ev n f (.tmp a) = .pointer (some ⟨b, o', none⟩)) (ht : ∀ w, (isAgg t).run P w = .ok true w) (hz : ∀ w, (sizeOf t).run P w = .ok sz w)
    (hi : LL[i]? = some s) (hj : s[j]? = some (cb b cs ty)) (hv : (cs.drop o').take sz = vs) (hl : vs.length = sz) : RV P (Mem w0 M LL) n f (.cell a t) (.agg vs.toArray) := ⟨_, hx, fun _ hS => run_loadVarN ht (by rw [hl]; exact hz) (hS.cells hi hj (lit_sub hv))⟩
end
/-! ### Shifts, guards -/
section
variable {P : Program} {S : World → Prop} {n : Nat} {f : Nat → Value} {o : Oper} {v : Value}
theorem int_congr {k : IntKind} {a b : Int} (h : a = b) : Value.int k a = Value.int k b := by rw [h]
theorem bool_congr {a b : Bool} (h : a = b) : Value.bool a = Value.bool b := by rw [h]
theorem Ys.shr {t ty : TypeId} {x y : Operand} {k k' : IntKind} {a b : Int} (hop : o.op = .binOp .shr t x y ty) (hx : ev n f x = .int k a) (hy : ev n f y = .int k' b) (h : 0 ≤ b) : Ys P n S f o (.int k (ishr k a b)) := Ys.pure fun w => by
  simp only [execOp, hop, hx, hy]
  have e : (eqGuard .shr t x y (.int k a) (.int k' b)).run P w = .ok () w := rfl
  rw [Sem.run_bind, Sem.run_bind, e]
  simp [binOp, Op.shift, Int.not_lt.2 h, ishr]
theorem Ys.shl {t ty : TypeId} {x y : Operand} {k k' : IntKind} {a b : Int} (hop : o.op = .binOp .shl t x y ty) (hx : ev n f x = .int k a) (hy : ev n f y = .int k' b) (h : 0 ≤ b) : Ys P n S f o (.int k (ishl k a b)) := Ys.pure fun w => by
  simp only [execOp, hop, hx, hy]
  have e : (eqGuard .shl t x y (.int k a) (.int k' b)).run P w = .ok () w := rfl
  rw [Sem.run_bind, Sem.run_bind, e]
  simp [binOp, Op.shift, Int.not_lt.2 h, ishl]
theorem lz {x : Value} {g : Bool} {v u : Value} (h : g = true) (e : x = (bif g then v else u)) : x = v := by rw [e, h]; rfl
theorem Ys.at {t : Nat} {v0 : Value} (h : f t = v0) (hy : Ys P n S (upd f t v0) o v) : Ys P n S f o v := by rwa [upd_self h] at hy
theorem Yc.at {t : Nat} {v0 : Value} (h : f t = v0) (hy : Yc P n S (upd f t v0) o v) : Yc P n S f o v := by rwa [upd_self h] at hy
theorem wantT {ops : Array Oper} {j : Nat} {e : Bool} (hg : o.guard = some (j, true)) (h : yl ops n f j = some e) : Region.wanted o (yl ops n f) = e := by
  rw [wanted_of_yl hg h]; cases e <;> rfl
theorem wantF {ops : Array Oper} {j : Nat} {e : Bool} (hg : o.guard = some (j, false)) (h : yl ops n f j = some e) : Region.wanted o (yl ops n f) = !e := by
  rw [wanted_of_yl hg h]; cases e <;> rfl
theorem wantTz {ops : Array Oper} {j t : Nat} {g e : Bool} (hg : o.guard = some (j, true)) (hd : (ops[j]?).bind (·.dst) = some t) (h : ev n f (.tmp t) = (bif g then .bool e else undef)) : Region.wanted o (yl ops n f) = (g && e) := by
  cases g <;> simp [Region.wanted, hg, yl, hd, h, undef]
theorem Ys.or' {c x y : Operand} {e b : Bool} (hop : o.op = .pick c x y) (hc : ev n f c = .bool e) (hx : ev n f x = .bool true) (hy : ev n f y = bif (!e) then .bool b else undef) : Ys P n S f o (.bool (e || b)) :=
  (Ys.pick hop hc).conseq (by cases e <;> simp [hx, hy])
end
end Go.Proofs.YtmonlaoaengfdaaGreatDoor.Base
