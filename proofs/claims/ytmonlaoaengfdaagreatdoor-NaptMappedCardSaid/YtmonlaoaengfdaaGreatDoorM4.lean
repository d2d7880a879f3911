import Derived.Test.YtmonlaoaengfdaaGreatDoorM3
import Derived.ProofKit
import Derived.OpenShut
import Derived.ChangeArms
import Derived.Deep.Slices
import Derived.ShutString
import Derived.ChangeOld
import Derived.Laws.StructEq
import Derived.ChangeKeysEq
set_option linter.unusedVariables false
set_option linter.unusedSimpArgs false
namespace Go.Proofs.YtmonlaoaengfdaaGreatDoor.Base
open Go.RowKit
inductive Leaf where
  | int (k : IntKind)
  | bool
  | string
  | slice (e : TypeId)
def F2 {α β : Type} (R : α → β → Prop) : List α → List β → Prop
  | [], [] => True
  | a :: as, b :: bs => R a b ∧ F2 R as bs
  | _, _ => False
theorem F2.append {α β : Type} {R : α → β → Prop} : ∀ {a : List α} {b : List β} {a' : List α} {b' : List β}, F2 R a b → F2 R a' b' → F2 R (a ++ a') (b ++ b')
  | [], [], _, _, _, h => h
  | _ :: _, _ :: _, _, _, h1, h2 => ⟨h1.1, F2.append h1.2 h2⟩
  | [], _ :: _, _, _, h, _ => h.elim
  | _ :: _, [], _, _, h, _ => h.elim
def flatFields (r : TypeId → Option (List Leaf)) (P : Program) (total : Nat) : List Field → Nat → Option (List Leaf)
  | [], off => if off = total then some [] else none
  | f :: fs, off => if f.offset = off then (r f.type).bind fun a => if a.length = P.cellsOf f.type then (flatFields r P total fs (off + a.length)).map (a ++ ·) else none else none
def flat (P : Program) : Nat → TypeId → Option (List Leaf)
  | 0, _ => none
  | k + 1, t => match P.underlying t with
    | some .bool => some [.bool]
    | some (.int k) => some [.int k]
    | some .string => some [.string]
    | some (.slice e) => some [.slice e]
    | some (.struct fs) => flatFields (flat P k) P (P.cellsOf t) fs.toList 0
    | some (.array n e) => (flat P k e).bind fun a => if a.length = P.cellsOf e ∧ n * a.length = P.cellsOf t then some (List.replicate n a).flatten else none
    | _ => none
section
variable {H : Type} (enc : TypeId × Value → H) (P : Program) (w : World) (base : Nat) (spare : Nat → Bool) (held : Bool)
def leafOK : Leaf → Value → Prop
  | .int k, v => ∃ n, v = .int k n ∧ (Lit.int k n).wf = true
  | .bool, v => ∃ b, v = .bool b
  | .string, v => ∃ s : ByteArray, v = .string s ∧ s.size ≤ maxLen
  | .slice e, v => ∃ a len cap, v = .slice a len cap ∧ len ≤ cap ∧ cap ≤ maxLen ∧ (0 < cap → ∃ adr, a = some adr) ∧ ∀ adr, a = some adr → ∀ i, i < len →
      ∃ cs m x, w.cells? base (adr.add (i * P.cellsOf e)) (P.cellsOf e) = some cs ∧ DataW.trod enc P w base spare held m e cs = some x
variable {enc P w base spare held}
theorem fields_ok {r : TypeId → Option (List Leaf)} {total m : Nat} {cs : List Value} (hr : ∀ t ls, r t = some ls → ∀ cs x, DataW.trod enc P w base spare held m t cs = some x → F2 (leafOK enc P w base spare held) ls cs)
    (hc : cs.length = total) : ∀ (fs : List Field) (off : Nat) (ls : List Leaf), flatFields r P total fs off = some ls →
    (∀ f ∈ fs, ∃ x, DataW.trod enc P w base spare held m f.type ((cs.drop f.offset).take (P.cellsOf f.type)) = some x) → F2 (leafOK enc P w base spare held) ls (cs.drop off)
  | [], off, ls, h, _ => by
    simp only [flatFields] at h
    split at h
    · rename_i ho
      obtain rfl := Option.some.inj h
      rw [ho, ← hc, List.drop_length]
      trivial
    · cases h
  | f :: fs, off, ls, h, hx => by
    simp only [flatFields] at h
    split at h
    · rename_i ho
      obtain ⟨a, ha, h⟩ := Option.bind_eq_some_iff.1 h
      split at h
      · rename_i hl
        obtain ⟨ls', h', rfl⟩ := Option.map_eq_some_iff.1 h
        obtain ⟨x, hxx⟩ := hx f (List.mem_cons_self ..)
        have h1 := hr f.type a ha _ x hxx
        have h2 := fields_ok hr hc fs _ ls' h' (fun g hg => hx g (List.mem_cons_of_mem _ hg))
        rw [ho, ← hl] at h1
        have e : cs.drop off = (cs.drop off).take a.length ++ cs.drop (off + a.length) := by
          rw [← List.drop_drop, List.take_append_drop]
        rw [e]
        exact h1.append h2
      · cases h
    · cases h
theorem reps_ok {a : List Leaf} {c m n : Nat} {e : TypeId} {cs : List Value} (hl : a.length = c) (hc : cs.length = n * c)
    (hx : ∀ i, i < n → ∃ x, DataW.trod enc P w base spare held m e ((cs.drop (i * c)).take c) = some x)
    (hr : ∀ cs x, DataW.trod enc P w base spare held m e cs = some x → F2 (leafOK enc P w base spare held) a cs) : ∀ (k i : Nat), i + k = n → F2 (leafOK enc P w base spare held) (List.replicate k a).flatten (cs.drop (i * c))
  | 0, i, h => by
    have : cs.drop (i * c) = [] := by
      apply List.drop_eq_nil_of_le
      rw [hc, show i = n by omega]
      exact Nat.le_refl _
    rw [this]
    simp [F2]
  | k + 1, i, h => by
    obtain ⟨x, hxx⟩ := hx i (by omega)
    have h1 := hr _ x hxx
    have h2 := reps_ok hl hc hx hr k (i + 1) (by omega)
    have e' : cs.drop (i * c) = (cs.drop (i * c)).take c ++ cs.drop ((i + 1) * c) := by
      rw [Nat.succ_mul, ← List.drop_drop, List.take_append_drop]
    rw [e', List.replicate_succ, List.flatten_cons]
    exact h1.append h2
theorem flat_ok : ∀ (k : Nat) (t : TypeId) (ls : List Leaf), flat P k t = some ls → ∀ (m : Nat) (cs : List Value) (x : DataW H × List MemPlace), DataW.trod enc P w base spare held m t cs = some x → F2 (leafOK enc P w base spare held) ls cs
  | 0, _, _, h => by simp [flat] at h
  | k + 1, t, ls, h => by
    intro m cs x hx
    simp only [flat] at h
    split at h
    · rename_i hu
      obtain rfl := Option.some.inj h
      obtain ⟨b, rfl, _⟩ := DataW.trod_bool hu hx
      exact ⟨⟨b, rfl⟩, trivial⟩
    · rename_i hu
      obtain rfl := Option.some.inj h
      obtain ⟨n, rfl, _, hw⟩ := DataW.trod_int hu hx
      exact ⟨⟨n, rfl, hw⟩, trivial⟩
    · rename_i hu
      obtain rfl := Option.some.inj h
      obtain ⟨s, rfl, _, hs⟩ := DataW.trod_string hu hx
      exact ⟨⟨s, rfl, hs⟩, trivial⟩
    · rename_i e hu
      obtain rfl := Option.some.inj h
      rcases DataW.trod_slice hu hx with ⟨rfl, _⟩ | ⟨a, len, cap, elems, rest, n, _, rfl, _, hb, hl, hm, hel, hall, _, _⟩
      · exact ⟨⟨none, 0, 0, rfl, Nat.le_refl _, Nat.zero_le _, fun h => absurd h (Nat.lt_irrefl _), fun _ h => by cases h⟩, trivial⟩
      · refine ⟨⟨some a, len, cap, rfl, hl, hm, fun _ => ⟨a, rfl⟩, fun adr had i hi => ?_⟩, trivial⟩
        obtain rfl := Option.some.inj had
        have h1 := hall i hi
        rw [List.getElem?_eq_getElem (by omega)] at h1
        obtain ⟨cs', h2, h3⟩ := Option.bind_eq_some_iff.1 h1
        exact ⟨cs', n, _, h2, h3⟩
    · rename_i fs hu
      obtain ⟨xs, n, _, _, hc, hlen, hall⟩ := DataW.trod_struct hu hx
      have := fields_ok (enc := enc) (w := w) (base := base) (spare := spare) (held := held) (m := n) (cs := cs) (fun t ls h cs x hx => flat_ok k t ls h n cs x hx) hc fs.toList 0 ls h (fun f hf => by
        obtain ⟨i, hi, rfl⟩ := List.getElem_of_mem hf
        have h1 := hall i fs.toList[i] (by simp at hi ⊢)
        simp only [Array.length_toList] at hi
        rw [List.getElem?_eq_getElem (by omega)] at h1
        exact ⟨_, h1⟩)
      simpa using this
    · rename_i n e hu
      obtain ⟨xs, m', _, _, hc, hlen, hall⟩ := DataW.trod_array hu hx
      obtain ⟨a, ha, h⟩ := Option.bind_eq_some_iff.1 h
      split at h
      · rename_i hl
        obtain rfl := Option.some.inj h
        have := reps_ok (enc := enc) (P := P) (w := w) (base := base) (spare := spare) (held := held) (a := a) (c := P.cellsOf e) (m := m') (n := n) (e := e) (cs := cs) hl.1 (by rw [hc, ← hl.2, hl.1]) (fun i hi => by
          have h1 := hall i hi
          rw [List.getElem?_eq_getElem (by omega)] at h1
          exact ⟨_, h1⟩) (fun cs x hx => flat_ok k e a ha m' cs x hx) n 0 (by omega)
        simpa using this
      · cases h
    · cases h
end
theorem F2_nil {α β : Type} {R : α → β → Prop} (l : List β) : F2 R [] l ↔ l = [] := by cases l <;> simp [F2]
theorem F2_cons {α β : Type} {R : α → β → Prop} (a : α) (as : List α) (l : List β) : F2 R (a :: as) l ↔ ∃ b bs, l = b :: bs ∧ R a b ∧ F2 R as bs := by
  cases l with
  | nil => simp [F2]
  | cons b bs =>
    refine ⟨fun h => ⟨b, bs, rfl, h.1, h.2⟩, ?_⟩
    rintro ⟨b', bs', e, h1, h2⟩
    obtain ⟨rfl, rfl⟩ := List.cons.inj e
    exact ⟨h1, h2⟩
theorem F2_un {α β : Type} {R : α → β → Prop} {a : α} {as : List α} {l : List β} (h : F2 R (a :: as) l) : ∃ b bs, l = b :: bs ∧ R a b ∧ F2 R as bs := (F2_cons a as l).1 h
theorem F2_un0 {α β : Type} {R : α → β → Prop} {l : List β} (h : F2 R [] l) : l = [] := (F2_nil l).1 h
end Go.Proofs.YtmonlaoaengfdaaGreatDoor.Base
namespace Go.Proofs.YtmonlaoaengfdaaGreatDoor.Base
open Go.RowKit
def YN (P : Program) (w : World) (T : Bool → World → Prop) : Next → Prop
  | .enter k a => Calls P k a w (fun e w' => ∃ b, e = .returned (.bool b) ∧ T b w')
  | .round l fn tmps assign body => RoundIn (fence none) 0 P l fn tmps assign body w (fun e w' => ∃ b, e = .returned (.bool b) ∧ T b w')
  | _ => False
def callv (yv : Value) (args : Array Value) : Sem Next := do
  let d ← Deferred.ofValue yv args
  invoke d.target d.args
def Yld (P : Program) (yv : Value) (args : Array Value) (S : World → Prop) (T : Bool → World → Prop) : Prop :=
  ∀ w, S w → ∃ nx, (callv yv args).run P w = .ok nx w ∧ YN P w T nx
theorem roundIn_any {r : Option Nat} {P : Program} {l : Nat} {f : FuncId} {tmps : Array Value} {assign body : Code} {w : World} {R : Ending → World → Prop} (h : RoundIn (fence none) 0 P l f tmps assign body w R) : RoundIn (fence r) 0 P l f tmps assign body w R := by
  cases r with
  | none => exact h
  | some q => exact h
section
variable {σ : Type} {r : Option Nat} {P : Program} {n : Nat} {ds : List Deferred} {f : Nat → Value} {S : World → Prop} {o : Oper} {d : Nat} {w0 : World} {M : List Nat} {LL : List (List Blk)} {yv : Value} {args : Array Value}
theorem Yld.func {k : FuncId} {lb all : Array Value} {T : Bool → World → Prop} (hk : ∀ w, (callv (.func (.func k) #[] lb) args).run P w = .ok (.enter k all) w)
    (h : ∀ w, S w → Calls P k all w (fun e w' => ∃ b, e = .returned (.bool b) ∧ T b w')) : Yld P (.func (.func k) #[] lb) args S T := fun w hw => ⟨_, hk w, h w hw⟩
theorem Yld.cast {args' : Array Value} {T : Bool → World → Prop} (e : args = args') (h : Yld P yv args' S T) : Yld P yv args S T := by subst e; exact h
theorem Mem.pickK {LL' : List (List Blk)} {G : World → Prop} (is : List Nat) (hd : is.Nodup) (e : pickL LL is = LL') (h : ∀ w, Mem w0 M LL' w → G w) : ∀ w, Mem w0 M LL w → G w := fun w hw => h w (hw.pick is hd e)
theorem HtIn.yield {Φ : Bool → σ → Prop} {Lf : σ → List (List Blk)} (hn : nodef o = true) (hd : o.dst = some d) (h : ∀ w, (execOp (ev n f) o).run P w = (callv yv args).run P w)
    (hy : Yld P yv args S (fun b w => ∃ s, Φ b s ∧ Mem w0 M (Lf s) w)) :
    HtIn (β := { g : Bool × σ // Φ g.1 g.2 }) r P n S f o (fun g => upd f d (.bool g.1.1)) (fun g => Mem w0 M (Lf g.1.2)) := fun ds w hS K hK => by
  refine ⟨fun _ _ => trivial, ?_⟩
  have e : o.semAt (fence r).round (Fr n ds f).eval = execOp (Fr n ds f).eval o := Oper.semAt_eq _ _ _ (nodef_spec hn)
  rw [e, Fr_eval, h w]
  obtain ⟨nx, hx, hn⟩ := hy w hS
  rw [hx]
  cases nx <;> simp only [YN] at hn <;> try exact hn.elim
  case enter k a =>
    refine ⟨fun h => (by cases h), callsIn_of (Calls.mono hn ?_)⟩
    rintro e w' ⟨b, rfl, s, hΦ, hm⟩
    simp only [hd, Fr_put]
    exact hK ⟨(b, s), hΦ⟩ w' hm
  case round l fn tmps assign body =>
    refine ⟨fun h => (by cases h), (roundIn_any hn).mono ?_⟩
    rintro e w' ⟨b, rfl, s, hΦ, hm⟩
    simp only [hd, Fr_put]
    exact hK ⟨(b, s), hΦ⟩ w' hm
def Iter (P : Program) (k : FuncId) (lb : Array Value) (enc : Nat → List Value) (N : Nat) (Li : List (List Blk)) (w1 : World) (M : List Nat) : Prop :=
  ∀ (τ : Type) (yv : Value) (U : τ → List Blk) (Φ : Nat → τ → Prop) (Ψ : τ → Prop) (s0 : τ),
    (∀ i s (R : List (List Blk)), i < N → Φ i s → Yld P yv (enc i).toArray (Mem w1 M (U s :: R)) (fun b w => ∃ s', (bif b then Φ (i + 1) s' else Ψ s') ∧ Mem w1 M (U s' :: R) w)) →
    Φ 0 s0 → Mem w1 M (U s0 :: Li) w1 → Calls P k (#[yv] ++ lb) w1 (RetM w1 (fun s => Φ N s ∨ Ψ s) (fun _ => .tuple #[]) M (fun s => U s :: Li))
theorem Mem.flat {w : World} {LL' : List (List Blk)} (e : LL.flatten = LL'.flatten) (h : Mem w0 M LL w) : Mem w0 M LL' w := by
  unfold Mem at h ⊢; rwa [← e]
theorem Mem.perm {w : World} {LL' : List (List Blk)} (p : LL'.flatten.Perm LL.flatten) (h : Mem w0 M LL w) : Mem w0 M LL' w :=
  Mem0.sub h (fun q hq => p.mem_iff.1 hq) ((p.map (·.b)).nodup_iff.2 (Mem0.nodup h))
abbrev dB (D : Nat) : List Blk := [⟨D, .deferred (some [])⟩]
abbrev lB (l : Nat) (o : Loop) : List Blk := [⟨l, .loop o⟩]
abbrev mk (D : Nat) : Deferred := { target := .collected D, args := #[] }
def RQ (u : World) (Mu : List Nat) (D l : Nat) (ob : Loop) (Lu : σ → List (List Blk)) (Φ : σ → Prop) (Ψ : Code → σ → Prop) : Exit → Act → World → Prop
  | .normal, _, w => ∃ s, Φ s ∧ Mem u Mu (dB D :: lB l ob :: Lu s) w
  | .ret, _, w => ∃ s, Ψ .ret s ∧ Mem u Mu (dB D :: lB l ob :: Lu s) w
  | .exit id, _, w => ∃ s, Ψ (.exit id) s ∧ Mem u Mu (dB D :: lB l ob :: Lu s) w
  | _, _, _ => False
theorem tmps_fold : ∀ (l : List (Nat × Value)) (f : Nat → Value), l.foldl (fun t (p : Nat × Value) => t.setIfInBounds p.1 p.2) (Fr n ds f).tmps = (Fr n [] (l.foldl (fun f p => upd f p.1 p.2) f)).tmps
  | [], f => rfl
  | (p, v) :: l, f => by
    have e : (Fr n ds f).tmps.setIfInBounds p v = (Fr n ds (upd f p v)).tmps := congrArg Act.tmps (Fr_put n ds f p v)
    simp only [List.foldl_cons]
    rw [e]
    exact tmps_fold l _
theorem At.into {w : World} {a : Option Addr} {cs : List Value} {L R : List (List Blk)} (h : At w0 a cs) (hM : 0 < cs.length → (a.getD default).block ∉ M) (hm : Mem w0 M (L ++ R) w) :
    At w a cs ∧ (0 < cs.length → (a.getD default).block ∉ L.flatten.map (·.b)) :=
  ⟨h.mem' hm hM, fun h0 hx => by
    obtain ⟨p, hp, e⟩ := List.mem_map.1 hx
    have h1 := h.lt h0
    exact hM h0 (e ▸ Mem0.old hm p (by rw [List.flatten_append]; exact List.mem_append_left _ hp) (by rw [e]; exact h1))⟩
theorem W.range {Q : Exit → Act → World → Prop} {g : Operand} {ps : Array Tmp} {assign body : Code} {k : FuncId} {lb : Array Value} {enc : Nat → List Value} {N : Nat} {Lu : σ → List (List Blk)} {Li Lk : List (List Blk)}
    (is js ks : List Nat) (s0 : σ) (Φ : Nat → σ → Prop) (Ψ : Code → σ → Prop) (psl : List Nat)
    (hg : ev n f g = .func (.func k) #[] lb) (hk : ∀ x w, (callFunc k x).run P w = .ok (.enter k x) w)
    (hnd : (is ++ js ++ ks).Nodup) (hi : pickL LL is = Lu s0) (hj : pickL LL js = Li) (hkk : pickL LL ks = Lk)
    (hps : ps.toList = psl) (henc : ∀ i, (enc i).length = psl.length) (h0 : Φ 0 s0)
    (hit : ∀ (D l : Nat) (ob : Loop) (w1 : World), Mem w0 M (((dB D :: lB l ob :: Lu s0) ++ Li) ++ Lk) w1 → Iter P k lb enc N Li w1 (((dB D :: lB l ob :: Lu s0) ++ Li).flatten.map (·.b)))
    (hbody : ∀ (D l : Nat) (ob ob' : Loop) (i : Nat) (s : σ) (u : World) (Mu : List Nat) (J : Act → World → Prop), i < N → Φ i s →
      (∀ a cs, At w0 a cs → (0 < cs.length → (a.getD default).block ∉ M) → At u a cs ∧ (0 < cs.length → (a.getD default).block ∉ Mu)) →
      (∀ f' L', W (some l) P (RQ u Mu D l ob' Lu (Φ (i + 1)) Ψ) body n [] f' (Mem u Mu (dB D :: lB l ob' :: L')) → ∀ w', Mem u Mu (dB D :: lB l ob :: L') w' → J (Fr n [] f') w') →
      W (some l) P (Exit.then J NoExit) assign n [] ((psl.zip (enc i)).foldl (fun f p => upd f p.1 p.2) f) (Mem u Mu (dB D :: lB l ob :: Lu s)))
    (hdone : ∀ (D l : Nat) (ob : Loop) (s : σ), Φ N s → ∀ w, Mem w0 M (((dB D :: lB l ob :: Lu s) ++ Li) ++ Lk) w → Q .normal (Fr n (mk D :: ds) f) w)
    (hstop : ∀ (D l : Nat) (ob : Loop) (c : Code) (s : σ), Ψ c s → W none P Q c n (mk D :: ds) f (Mem w0 M (((dB D :: lB l ob :: Lu s) ++ Li) ++ Lk))) :
    W none P Q (.rangeFunc g ps assign body) n ds f (Mem w0 M LL) := fun w hS => by
  have hS1 : Mem w0 M (Lu s0 ++ Li ++ Lk) w := hS.pick (is ++ js ++ ks) hnd (by rw [← hi, ← hj, ← hkk]; simp [pickL])
  refine wpIn_rangeFunc ?_
  intro fn _
  obtain ⟨rec, hrec⟩ : ∃ rec : LoopState → Option Code → Loop, rec = fun st pe => { state := st, pending := pe, fn, tmps := (Fr n ds f).tmps, params := ps, assign, body, defers := w.heap.size } := ⟨_, rfl⟩
  obtain ⟨D, hD⟩ : ∃ D, D = w.heap.size := ⟨_, rfl⟩
  obtain ⟨l, hl⟩ : ∃ l, l = w.heap.size + 1 := ⟨_, rfl⟩
  obtain ⟨w1, hw1⟩ : ∃ w1, (w.alloc (.deferred (some []))).alloc (.loop (rec .ready none)) = w1 := ⟨_, rfl⟩
  have hm : Mem w0 M (((dB D :: lB l (rec .ready none) :: Lu s0) ++ Li) ++ Lk) w1 := by
    have h1 := (hS1.allocO (.deferred (some []))).allocO (.loop (rec .ready none))
    rw [← hw1]
    refine Mem.perm ?_ h1
    simp only [List.flatten_append, List.flatten_cons, dB, lB, hD, hl, List.cons_append, List.nil_append, List.append_assoc, Array.size_push]
    exact List.Perm.swap _ _ _
  let U : σ × Option Code → List Blk := fun s => dB D ++ lB l (rec (if s.2.isNone then .ready else .done) s.2) ++ (Lu s.1).flatten
  have hU : ∀ (s : σ) (pe : Option Code) (R : List (List Blk)), (U (s, pe) :: R).flatten = ((dB D :: lB l (rec (if pe.isNone then .ready else .done) pe) :: Lu s) ++ R).flatten := fun s pe R => by
    simp [U, List.flatten_append]
  obtain ⟨M1, hM1⟩ : ∃ M1, M1 = ((dB D :: lB l (rec .ready none) :: Lu s0) ++ Li).flatten.map (·.b) := ⟨_, rfl⟩
  have hloc : Mem w1 M1 (U (s0, none) :: Li) w1 := by
    rw [hM1]; exact (Mem.local hm).flat (hU s0 none Li).symm
  have hback : ∀ {LL' : List (List Blk)} {w' : World}, Mem w1 M1 LL' w' → Mem w0 M (LL' ++ Lk) w' := fun h => Mem.back hm (by rw [hM1] at h; exact h)
  refine ⟨l, [mk D], w1, { target := .fn (.func k) lb, args := #[.func (.yield l) #[] #[]] }, w1, k, #[.func (.yield l) #[] #[]] ++ lb, w1, ?_, ?_, fun _ _ => trivial, ?_, fun h => (by cases h), ?_⟩
  · rw [← hw1, hrec, hl]; simp only [mk, hD]; exact run_enterLoop_outer _ _ _ _ _
  · simp only [resolve, Fr_eval, hg]
    simp [go_sem]; rfl
  · simp [invoke, go_sem, hk]
  have hI := hit D l _ w1 hm
  rw [← hM1] at hI
  refine callsIn_of (Calls.mono (hI (σ × Option Code) (.func (.yield l) #[] #[]) U (fun i s => Φ i s.1 ∧ s.2 = none) (fun s => ∃ c, s.2 = some c ∧ Ψ c s.1) (s0, none) ?_ ⟨h0, rfl⟩ hloc) ?_)
  · rintro i ⟨s, pe⟩ R hiN ⟨hΦ, hpe⟩ u hu
    simp only at hpe hΦ; subst hpe
    have hul : u.heap[l]? = some (.loop (rec .ready none)) := hu.at (i := 0) (j := 1) (p := ⟨l, _⟩) rfl rfl
    obtain ⟨Mu, hMu⟩ : ∃ Mu, Mu = (U (s, none)).map (·.b) := ⟨_, rfl⟩
    have hloc2 : Mem u Mu (dB D :: lB l (rec .ready none) :: Lu s) u := by
      have h1 : Mem u Mu [U (s, none)] u := by rw [hMu]; exact hu.one (i := 0) rfl
      exact h1.flat (by have := hU s none []; simpa using this)
    have hback2 : ∀ {s' : σ} {pe : Option Code} {w' : World}, Mem u Mu (dB D :: lB l (rec (if pe.isNone then .ready else .done) pe) :: Lu s') w' → Mem w1 M1 (U (s', pe) :: R) w' := fun {s' pe w'} h => by
      have h1 : Mem u ([U (s, none)].flatten.map (·.b)) [U (s', pe)] w' := by
        simp only [List.flatten_cons, List.flatten_nil, List.append_nil]; rw [← hMu]
        exact h.flat (by have := hU s' pe []; simpa using this.symm)
      exact Mem.back (LL := [U (s, none)]) (R := R) hu h1
    refine ⟨.round l fn ((ps.zip (enc i).toArray).foldl (fun t (p : Nat × Value) => t.setIfInBounds p.1 p.2) (Fr n ds f).tmps) assign body, ?_, ?_⟩
    · have := run_yield (P := P) (args := (enc i).toArray) hul (by rw [hrec]; simp only [List.size_toArray]; rw [henc, ← hps]; simp)
      rw [hrec] at this
      simp only [callv, Deferred.ofValue, Sem.run_bind]
      simp [go_sem, invoke, this]
    refine roundIn_of_wpIn (F := fence none) trivial ?_
    have et : (ps.zip (enc i).toArray).foldl (fun t (p : Nat × Value) => t.setIfInBounds p.1 p.2) (Fr n ds f).tmps = (Fr n [] ((psl.zip (enc i)).foldl (fun f p => upd f p.1 p.2) f)).tmps := by
      rw [← tmps_fold (ds := ds), ← hps]
      rw [← Array.foldl_toList, Array.toList_zip]
    rw [et]
    refine hbody D l (rec .ready none) (rec .busy none) i s u Mu _ hiN hΦ ?_ ?_ u hloc2
    · intro a cs hat hne
      have h1 : Mem w0 M ((U (s, none) :: R) ++ Lk) u := hback hu
      have h2 := At.into (L := [U (s, none)]) (R := R ++ Lk) hat hne (by simpa using h1)
      rw [hMu]; simpa using h2
    intro f' L' hW w' hm'
    have hl' : w'.heap[l]? = some (.loop (rec .ready none)) := hm'.at (i := 1) (j := 0) (p := ⟨l, _⟩) rfl rfl
    have hlt' := (Array.getElem?_eq_some_iff.1 hl').1
    refine ⟨w'.putObj l (.loop (rec .busy none)), ?_, ?_⟩
    · have := run_beginRound (P := P) hl' (by rw [hrec]); rw [this, hrec]
    have hm2 : Mem u Mu (dB D :: lB l (rec .busy none) :: L') (w'.putObj l (.loop (rec .busy none))) :=
      hm'.putO (s := lB l (rec .ready none)) (i := 1) (j := 0) rfl rfl rfl rfl rfl (by simp) (fun k _ hk => World.putObj_heap_other hk) (World.putObj_heap_same hlt')
    refine wpIn_mono (hW _ hm2) ?_
    have fin : ∀ (jump : Option Code) (s' : σ) (w3 : World), Mem u Mu (dB D :: lB l (rec .busy none) :: Lu s') w3 →
        (Instr.endRound l jump).run P w3 = .ok (.bool jump.isNone) (w3.putObj l (.loop (rec (if jump.isNone then .ready else .done) jump))) ∧
        Mem w1 M1 (U (s', jump) :: R) (w3.putObj l (.loop (rec (if jump.isNone then .ready else .done) jump))) := fun jump s' w3 h3 => by
      have hl3 : w3.heap[l]? = some (.loop (rec .busy none)) := h3.at (i := 1) (j := 0) (p := ⟨l, _⟩) rfl rfl
      have hlt3 := (Array.getElem?_eq_some_iff.1 hl3).1
      refine ⟨?_, hback2 ?_⟩
      · have := run_endRound (P := P) jump hl3; rw [this, hrec]
      · exact h3.putO (s := lB l (rec .busy none)) (i := 1) (j := 0) rfl rfl rfl rfl rfl (by simp) (fun k _ hk => World.putObj_heap_other hk) (World.putObj_heap_same hlt3)
    rintro e a3 w3 hp
    cases e with
    | normal =>
      obtain ⟨s', hs', h3⟩ := hp
      obtain ⟨hr, h4⟩ := fin none s' w3 h3
      exact ⟨_, _, hr, true, rfl, (s', none), ⟨hs', rfl⟩, h4⟩
    | ret =>
      obtain ⟨s', hs', h3⟩ := hp
      obtain ⟨hr, h4⟩ := fin (some .ret) s' w3 h3
      exact ⟨_, _, hr, false, rfl, (s', some .ret), ⟨_, rfl, hs'⟩, h4⟩
    | exit id =>
      obtain ⟨s', hs', h3⟩ := hp
      obtain ⟨hr, h4⟩ := fin (some (.exit id)) s' w3 h3
      exact ⟨_, _, hr, false, rfl, (s', some (.exit id)), ⟨_, rfl, hs'⟩, h4⟩
    | goto t => exact hp.elim
    | panic ch => exact hp.elim
    | outgrown => exact hp.elim
  · rintro e w2 ⟨⟨s, pe⟩, hor, rfl, hm2⟩
    have hl2 : w2.heap[l]? = some (.loop (rec (if pe.isNone then .ready else .done) pe)) := hm2.at (i := 0) (j := 1) (p := ⟨l, _⟩) rfl rfl
    have hlt2 := (Array.getElem?_eq_some_iff.1 hl2).1
    have he : (Instr.endLoop l).run P w2 = .ok pe (w2.putObj l (.loop (rec .exhausted pe))) := by
      have := run_endLoop (P := P) hl2 (by rw [hrec]; cases pe <;> simp); rw [this, hrec]
    have h3 : Mem w0 M (((dB D :: lB l (rec .exhausted pe) :: Lu s) ++ Li) ++ Lk) (w2.putObj l (.loop (rec .exhausted pe))) := by
      have h1 : Mem w0 M (((dB D :: lB l (rec (if pe.isNone then .ready else .done) pe) :: Lu s) ++ Li) ++ Lk) w2 := (hback hm2).flat (by rw [List.flatten_append, hU s pe Li, ← List.flatten_append])
      exact h1.putO (s := lB l (rec (if pe.isNone then .ready else .done) pe)) (i := 1) (j := 0) rfl rfl rfl rfl rfl (by simp) (fun k _ hk => World.putObj_heap_other hk) (World.putObj_heap_same hlt2)
    refine ⟨pe, _, he, ?_⟩
    rcases hor with ⟨hΦ, hpe⟩ | ⟨c, hpe, hΨ⟩
    · simp only at hpe hΦ; subst hpe
      exact hdone D l _ s hΦ _ h3
    · simp only at hpe hΨ; subst hpe
      exact hstop D l _ c s hΨ _ h3
theorem RQ.fin {u : World} {Mu : List Nat} {D l : Nat} {ob : Loop} {Lu : σ → List (List Blk)} {Φ : σ → Prop} {Ψ : Code → σ → Prop} {a : Act} {w : World} (s : σ) (h : Φ s) (hm : Mem u Mu (dB D :: lB l ob :: Lu s) w) : RQ u Mu D l ob Lu Φ Ψ .normal a w := ⟨s, h, hm⟩
theorem RQ.ret {u : World} {Mu : List Nat} {D l : Nat} {ob : Loop} {Lu : σ → List (List Blk)} {Φ : σ → Prop} {Ψ : Code → σ → Prop} {a : Act} {w : World} (s : σ) (h : Ψ .ret s) (hm : Mem u Mu (dB D :: lB l ob :: Lu s) w) : RQ u Mu D l ob Lu Φ Ψ .ret a w := ⟨s, h, hm⟩
theorem RQ.exit {id : Nat} {u : World} {Mu : List Nat} {D l : Nat} {ob : Loop} {Lu : σ → List (List Blk)} {Φ : σ → Prop} {Ψ : Code → σ → Prop} {a : Act} {w : World} (s : σ) (h : Ψ (.exit id) s) (hm : Mem u Mu (dB D :: lB l ob :: Lu s) w) : RQ u Mu D l ob Lu Φ Ψ (.exit id) a w := ⟨s, h, hm⟩
theorem Mem.other {w : World} {s : List Blk} {p : Blk} {L' : List (List Blk)} (hm : Mem w0 M LL w) (is : List Nat) (q : Nat) (hq : q ∉ is) (hi : LL[q]? = some s) (hp : p ∈ s) (e : pickL LL is = L') : p.b ∉ L'.flatten.map (·.b) := fun h => by
  subst e
  obtain ⟨p', hp', e⟩ := List.mem_map.1 h
  obtain ⟨s', hs', hp''⟩ := List.mem_flatten.1 hp'
  obtain ⟨i, hi', rfl⟩ := List.mem_map.1 hs'
  have hn := (nodup_segs.1 (Mem0.nodup hm)).2
  have h1 := apart_at hn (i := i) (k := q) (fun e => hq (e ▸ hi'))
  rw [hi] at h1
  exact h1 p' hp'' p hp e
theorem FS.other {w : World} {g : FS} {t : TypeId} {cs : List Value} {sz len : Nat} {L' : List (List Blk)} (hm : Mem w0 M LL w) (is : List Nat) (q : Nat) (hq : q ∉ is) (hi : LL[q]? = some (g.seg t cs)) (ok : g.ok sz len) (hl : cs.length = len * sz) (e : pickL LL is = L') (h0 : 0 < cs.length) : (g.a.getD default).block ∉ L'.flatten.map (·.b) := by
  have hn : g.nil = false := by
    cases hg : g.nil with
    | false => rfl
    | true => have := FS.nil_cs ok hl hg; subst this; simp at h0
  rw [FS.seg_own hn] at hi
  rw [FS.a_own hn]
  exact hm.other is q hq hi (List.mem_singleton.2 rfl) e
theorem Iter.cast {k : FuncId} {lb : Array Value} {enc enc' : Nat → List Value} {N N' : Nat} {Li Li' : List (List Blk)} {w1 : World} {M : List Nat} (h : Iter P k lb enc N Li w1 M) (he : enc = enc') (hN : N = N') (hL : Li = Li') : Iter P k lb enc' N' Li' w1 M := by
  subst he; subst hN; subst hL; exact h
end
/-! ### Numbers, once more -/
section
variable {P : Program} {n : Nat} {S : World → Prop} {f : Nat → Value} {o : Oper}
theorem Ys.sliceArrV {t e : TypeId} {x : Operand} {b len sz o' : Nat} (hop : o.op = .slice t x none none none) (hx : ev n f x = .pointer (some ⟨b, o', none⟩))
    (ha : ∀ w, (underlying t).run P w = .ok (.array len e) w) (hz : ∀ w, (sizeOf e).run P w = .ok sz w) : Ys P n S f o (.slice (some ⟨b, o', none⟩) len len) := Ys.pure fun w => by
  simp [execOp, hop, hx, Instr.sliceAt, Instr.slice, ha, asAddr, Instr.sureAddr, Instr.sliceBounds, hz, adr_add0]
end
/-! ### Elements of several cells -/
def mm {α : Type} (g : α → List Value) (xs : List α) : List Value := xs.flatMap g
section
variable {α : Type} {g : α → List Value} {sz : Nat}
theorem mm_len (hg : ∀ x, (g x).length = sz) : ∀ xs : List α, (mm g xs).length = xs.length * sz
  | [] => by simp [mm]
  | x :: xs => by
    have := mm_len hg xs
    unfold mm at this ⊢
    rw [List.flatMap_cons, List.length_append, hg, this, List.length_cons, Nat.succ_mul]; omega
theorem mm_get (hg : ∀ x, (g x).length = sz) (d : α) : ∀ {xs : List α} {k : Nat}, k < xs.length → ∀ j v, (g (xs.getD k d))[j]? = some v → (mm g xs)[k * sz + j]? = some v
  | [], k, h, _, _, _ => by simp at h
  | x :: xs, 0, h, j, v, hv => by
    have hj := (List.getElem?_eq_some_iff.1 hv).1
    unfold mm
    rw [List.flatMap_cons, Nat.zero_mul, Nat.zero_add, List.getElem?_append_left (by simpa using hj)]
    exact hv
  | x :: xs, k + 1, h, j, v, hv => by
    have ih := mm_get hg d (xs := xs) (k := k) (by simpa using h) j v (by simpa using hv)
    unfold mm at ih ⊢
    rw [List.flatMap_cons, List.getElem?_append_right (by rw [hg, Nat.succ_mul]; omega), hg]
    rw [show (k + 1) * sz + j - sz = k * sz + j by rw [Nat.succ_mul]; omega]
    exact ih
theorem mm_getF (hg : ∀ x, (g x).length = sz) (d : α) {xs : List α} {k : Nat} (h : k < xs.length) (j : Nat) {v : Value} (hv : (g (xs.getD k d))[j]? = some v) : (mm g xs)[k * sz + j]? = some v := mm_get hg d h j v hv
end
/-! ### Drawn regions in which several effects may come up -/
section
variable {r : Option Nat} {P : Program} {ops : Array Oper} {Q : Exit → Act → World → Prop} {K : Act → World → Prop} {S T : World → Prop} {A : List Nat} {k : Nat} {listed : Array Bool} {n : Nat} {ds : List Deferred} {f : Nat → Value} {o : Oper} {v : Value} {d i : Nat}
def Wa (P : Program) (ops : Array Oper) (K : Act → World → Prop) (S : World → Prop) (A : List Nat) (k : Nat) (listed : Array Bool) (n : Nat) (ds : List Deferred) (f : Nat → Value) (T : World → Prop) : Prop :=
  ∀ w, T w → wpAnyS P .any ops K S A k listed (Fr n ds f) w
def Wo (P : Program) (ops : Array Oper) (K : Act → World → Prop) (S : World → Prop) (A : List Nat) (k : Nat) (listed : Array Bool) (i : Nat) (n : Nat) (ds : List Deferred) (f : Nat → Value) (T : World → Prop) : Prop :=
  ∀ w, T w → wpOp P ops NoExit i (fun a' w' => (waits .any ops A i = true ∨ S w') ∧ wpAnyS P .any ops K S A k (listed.setIfInBounds i true) a' w') (Fr n ds f) w
theorem W.drawsA {id : Nat} {l : List Oper} (A : List Nat) (S : World → Prop) (hm : P.follows .mixedOrders = true) (hd : nodefs l.toArray = true)
    (hT : ∀ w k, T w → T { w with drawn := k }) (h : Wa P l.toArray (Q .normal) S A l.length (Array.replicate l.length false) n ds f T) : W r P Q (.region id l.toArray true) n ds f T := fun w hw => by
  refine wpIn_region_any hm ?_
  have h1 := wpAnyS_in (r := r) (Q := Q) hd (fun _ _ h => h) _ _ _ _ (h { w with drawn := w.drawn + 1 } (hT w _ hw))
  simpa using h1
theorem Wa.guard (g : Bool) (hsel : Region.noSelect ops = true) (hA : A.contains i = true) (hr : (Region.ready .any ops listed).contains i = true) (hf : Region.free .any ops listed i = true) (hTS : ∀ w, T w → S w)
    (hi : ops[i]? = some o) (hg : Region.wanted o (yl ops n f) = g) (hd : o.dst = some d) (h : g = true → Ys P n S f o v) (hr' : Wa P ops K S A k (listed.setIfInBounds i true) n ds (upd f d (bif g then v else undef)) T) : Wa P ops K S A (k + 1) listed n ds f T := fun w hw => by
  refine wpAnyS_first (v := bif g then v else undef) (by simpa using hA) hi (Region.noSelect_spec hsel) k listed _ w (Region.free_spec hi hf) (by simpa using hr) ?_ (hTS w hw) (by rw [hd, Fr_put]; exact hr' w hw)
  cases g with
  | false => exact .inr ⟨by rw [yielded_Fr]; exact hg, rfl⟩
  | true => exact .inl ⟨by rw [yielded_Fr]; exact hg, by rw [Fr_eval]; exact h rfl⟩
theorem Wa.ys (hsel : Region.noSelect ops = true) (hA : A.contains i = true) (hr : (Region.ready .any ops listed).contains i = true) (hf : Region.free .any ops listed i = true) (hTS : ∀ w, T w → S w)
    (hi : ops[i]? = some o) (hg : o.guard = none) (hd : o.dst = some d) (h : Ys P n S f o v) (hr' : Wa P ops K S A k (listed.setIfInBounds i true) n ds (upd f d v) T) : Wa P ops K S A (k + 1) listed n ds f T :=
  Wa.guard true hsel hA hr hf hTS hi (by simp [Region.wanted, hg]) hd (fun _ => h) hr'
theorem Wa.skip (hsel : Region.noSelect ops = true) (hA : A.contains i = true) (hr : (Region.ready .any ops listed).contains i = true) (hf : Region.free .any ops listed i = true) (hTS : ∀ w, T w → S w)
    (hi : ops[i]? = some o) (hg : Region.wanted o (yl ops n f) = false) (hd : o.dst = some d) (hr' : Wa P ops K S A k (listed.setIfInBounds i true) n ds (upd f d undef) T) : Wa P ops K S A (k + 1) listed n ds f T :=
  Wa.guard (v := undef) false hsel hA hr hf hTS hi hg hd (fun h => by cases h) hr'
theorem Wa.only (hr : Region.ready .any ops listed = [i]) (h : Wo P ops K S A k listed i n ds f T) : Wa P ops K S A (k + 1) listed n ds f T := fun w hw =>
  ⟨fun h0 => (by rw [hr] at h0; cases h0), fun j hj => by rw [hr] at hj; obtain rfl : j = i := by simpa using hj
                                                          exact h w hw⟩
theorem Wa.alt2 {j : Nat} (hr : Region.ready .any ops listed = [i, j]) (h1 : Wo P ops K S A k listed i n ds f T) (h2 : Wo P ops K S A k listed j n ds f T) : Wa P ops K S A (k + 1) listed n ds f T := fun w hw =>
  ⟨fun h0 => (by rw [hr] at h0; cases h0), fun q hq => by
    rw [hr] at hq
    rcases (by simpa using hq : q = i ∨ q = j) with rfl | rfl
    · exact h1 w hw
    · exact h2 w hw⟩
theorem Wa.nil (hr : Region.ready .any ops listed = []) (h : ∀ w, T w → K (Fr n ds f) w) : Wa P ops K S A 0 listed n ds f T := fun w hw => ⟨hr, h w hw⟩
theorem Wa.conseq {T' : World → Prop} (hT : ∀ w, T w → T' w) (h : Wa P ops K S A k listed n ds f T') : Wa P ops K S A k listed n ds f T := fun w hw => h w (hT w hw)
theorem Wo.conseq {T' : World → Prop} (hT : ∀ w, T w → T' w) (h : Wo P ops K S A k listed i n ds f T') : Wo P ops K S A k listed i n ds f T := fun w hw => h w (hT w hw)
theorem Wa.castL {w0 : World} {M : List Nat} {LL LL' : List (List Blk)} (e : LL = LL') (h : Wa P ops K S A k listed n ds f (Mem w0 M LL')) : Wa P ops K S A k listed n ds f (Mem w0 M LL) := by rwa [e]
theorem Wo.yc (hi : ops[i]? = some o) (hg : o.guard = none) (hd : o.dst = some d) (h : Yc P n T f o v) (hTS : waits .any ops A i = true ∨ ∀ w, T w → S w) (hr : Wa P ops K S A k (listed.setIfInBounds i true) n ds (upd f d v) T) : Wo P ops K S A k listed i n ds f T := fun w hT => by
  unfold wpOp
  simp only [hi]
  rw [if_pos (by simp [Region.wanted, hg])]
  exact .inl (h ds w hT _ fun w' hw' => ⟨hTS.imp_right fun h => h w' hw', by rw [hd, Fr_put]; exact hr w' hw'⟩)
theorem Wo.guardc (g : Bool) (hi : ops[i]? = some o) (hg : Region.wanted o (yl ops n f) = g) (hd : o.dst = some d) (h : g = true → Yc P n T f o v) (hTS : waits .any ops A i = true ∨ ∀ w, T w → S w) (hr : Wa P ops K S A k (listed.setIfInBounds i true) n ds (upd f d (bif g then v else undef)) T) : Wo P ops K S A k listed i n ds f T := fun w hT => by
  unfold wpOp
  simp only [hi]
  rw [yielded_Fr, hg]
  cases g with
  | false => simp only [Bool.false_eq_true, if_false]; exact ⟨hTS.imp_right fun h => h w hT, by rw [hd, Fr_put]; exact hr w hT⟩
  | true => rw [if_pos rfl]; exact .inl (h rfl ds w hT _ fun w' hw' => ⟨hTS.imp_right fun h => h w' hw', by rw [hd, Fr_put]; exact hr w' hw'⟩)
theorem Wo.skipc (hi : ops[i]? = some o) (hg : Region.wanted o (yl ops n f) = false) (hd : o.dst = some d) (hTS : waits .any ops A i = true ∨ ∀ w, T w → S w) (hr : Wa P ops K S A k (listed.setIfInBounds i true) n ds (upd f d undef) T) : Wo P ops K S A k listed i n ds f T := fun w hT => by
  unfold wpOp
  simp only [hi]
  rw [yielded_Fr, hg]
  simp only [Bool.false_eq_true, if_false]; exact ⟨hTS.imp_right fun h => h w hT, by rw [hd, Fr_put]; exact hr w hT⟩
theorem Wo.ht {β : Type} {f' : β → Nat → Value} {T' : β → World → Prop} (hi : ops[i]? = some o) (hg : o.guard = none) (h : Ht P n T f o f' T') (hTS : waits .any ops A i = true ∨ ∀ b w, T' b w → S w) (hr : ∀ b, Wa P ops K S A k (listed.setIfInBounds i true) n ds (f' b) (T' b)) : Wo P ops K S A k listed i n ds f T := fun w hT => by
  unfold wpOp
  simp only [hi]
  rw [if_pos (by simp [Region.wanted, hg])]
  exact .inl (h ds w hT _ fun b w' hw' => ⟨hTS.imp_right fun h => h b w' hw', hr b w' hw'⟩)
theorem Wo.htw {β : Type} {f' : β → Nat → Value} {T' : β → World → Prop} (hi : ops[i]? = some o) (hw : Region.wanted o (yl ops n f) = true) (h : Ht P n T f o f' T') (hTS : waits .any ops A i = true ∨ ∀ b w, T' b w → S w) (hr : ∀ b, Wa P ops K S A k (listed.setIfInBounds i true) n ds (f' b) (T' b)) : Wo P ops K S A k listed i n ds f T := fun w hT => by
  unfold wpOp
  simp only [hi]
  rw [yielded_Fr, if_pos hw]
  exact .inl (h ds w hT _ fun b w' hw' => ⟨hTS.imp_right fun h => h b w' hw', hr b w' hw'⟩)
theorem Wo.htS {β : Type} {Φ : β → Prop} {f' : β → Nat → Value} {T' : β → World → Prop} (hi : ops[i]? = some o) (hg : o.guard = none) (h : HtS P n T f o Φ f' T') (hTS : waits .any ops A i = true ∨ ∀ b w, T' b w → S w) (hr : ∀ b, Φ b → Wa P ops K S A k (listed.setIfInBounds i true) n ds (f' b) (T' b)) : Wo P ops K S A k listed i n ds f T :=
  Wo.ht hi hg h (hTS.imp_right fun h b w => h b.1 w) fun b => hr b.1 b.2
theorem Wo.htwS {β : Type} {Φ : β → Prop} {f' : β → Nat → Value} {T' : β → World → Prop} (hi : ops[i]? = some o) (hw : Region.wanted o (yl ops n f) = true) (h : HtS P n T f o Φ f' T') (hTS : waits .any ops A i = true ∨ ∀ b w, T' b w → S w) (hr : ∀ b, Φ b → Wa P ops K S A k (listed.setIfInBounds i true) n ds (f' b) (T' b)) : Wo P ops K S A k listed i n ds f T :=
  Wo.htw hi hw h (hTS.imp_right fun h b w => h b.1 w) fun b => hr b.1 b.2
end
theorem app_put {cs ys r cs' : List Value} {k : Nat} (hl : k + ys.length ≤ cs.length) (e : putAt cs k ys = cs') : putAt (cs ++ r) k ys = cs' ++ r := by
  subst e
  unfold putAt
  rw [List.take_append_of_le_length (by omega), List.drop_append_of_le_length (by omega)]
  simp
end Go.Proofs.YtmonlaoaengfdaaGreatDoor.Base
namespace Go.Proofs.YtmonlaoaengfdaaGreatDoor.Base
open Go.RowKit
def leafEq : Value → Value → Bool
  | .int _ a, .int _ b => a == b
  | .bool a, .bool b => a == b
  | .string a, .string b => a == b
  | _, _ => false
def eqCells : List Value → List Value → Bool
  | [], [] => true
  | x :: xs, y :: ys => leafEq x y && eqCells xs ys
  | _, _ => false
inductive Lf where
  | int (k : IntKind)
  | bool
  | string
theorem F2.length {α β : Type} {R : α → β → Prop} : ∀ {a : List α} {b : List β}, F2 R a b → a.length = b.length
  | [], [], _ => rfl
  | _ :: _, _ :: _, h => by simp [F2.length h.2]
  | [], _ :: _, h => h.elim
  | _ :: _, [], h => h.elim
theorem F2.split {α β : Type} {R : α → β → Prop} : ∀ {a a' : List α} {l : List β}, F2 R (a ++ a') l → F2 R a (l.take a.length) ∧ F2 R a' (l.drop a.length)
  | [], _, _, h => ⟨by simp [F2], by simpa using h⟩
  | x :: a, a', [], h => by simp [F2] at h
  | x :: a, a', y :: l, h => by
    have h2 : F2 R (a ++ a') l := h.2
    obtain ⟨i1, i2⟩ := F2.split h2
    exact ⟨⟨h.1, i1⟩, i2⟩
section
variable {P : Program}
variable {S : World → Prop} {n : Nat} {f : Nat → Value} {o : Oper} {b : Bool}
end
section
variable {S : World → Prop} {P : Program} {n : Nat} {f : Nat → Value} {o : Oper}
end
end Go.Proofs.YtmonlaoaengfdaaGreatDoor.Base
namespace Go.Proofs.YtmonlaoaengfdaaGreatDoor.Base
open Go.RowKit
section
variable {P : Program} {n : Nat} {S : World → Prop} {f : Nat → Value} {r : Option Nat} {ops : Array Oper} {K : Act → World → Prop} {ds : List Deferred}
theorem Wl.at {l : List Oper} (t : Nat) {v0 : Value} (h : f t = v0) (hr : Wl r P ops K l n ds (upd f t v0) S) : Wl r P ops K l n ds f S := by rwa [upd_self h] at hr
theorem Wl.split {l : List Oper} (e : Bool) (h1 : e = true → Wl r P ops K l n ds f S) (h2 : e = false → Wl r P ops K l n ds f S) : Wl r P ops K l n ds f S := by
  cases e
  · exact h2 rfl
  · exact h1 rfl
theorem Wd.at {T : World → Prop} {A : List Nat} {pl : List (Nat × Bool)} (t : Nat) {v0 : Value} (h : f t = v0) (hr : Wd P ops K S A pl n ds (upd f t v0) T) : Wd P ops K S A pl n ds f T := by rwa [upd_self h] at hr
theorem Wd.split {T : World → Prop} {A : List Nat} {pl : List (Nat × Bool)} (e : Bool) (h1 : e = true → Wd P ops K S A pl n ds f T) (h2 : e = false → Wd P ops K S A pl n ds f T) : Wd P ops K S A pl n ds f T := by
  cases e
  · exact h2 rfl
  · exact h1 rfl
theorem Wa.lets {γ : Type} {w0 : World} {M : List Nat} {T : World → Prop} {A : List Nat} {k : Nat} {listed : Array Bool} (ks : List Nat) (vs : γ → List Value) (Φ : γ → Prop) (Lf : γ → List (List Blk)) (k' : Nat) (listed' : Array Bool)
    (hJ : ∀ g, Φ g → ∀ f', Wa P ops K S A k' listed' n ds (upds (ks.zip (vs g)) f') (Mem w0 M (Lf g)))
    (hr : (∀ g, Φ g → ∀ f', Wa P ops K S A k' listed' n ds (upds (ks.zip (vs g)) f') (Mem w0 M (Lf g))) → Wa P ops K S A k listed n ds f T) : Wa P ops K S A k listed n ds f T := hr hJ
theorem Wa.join {T T' : World → Prop} {A : List Nat} {k : Nat} {listed : Array Bool} (ks : List Nat) (vs : List Value) (listed' : Array Bool) (h : ∀ f', Wa P ops K S A k listed' n ds (upds (ks.zip vs) f') T') (hl : ks.map f = vs) (he : listed = listed') (hT : ∀ w, T w → T' w) : Wa P ops K S A k listed n ds f T := by
  have h1 := h f
  rw [upds_holds (holds_of hl)] at h1
  rw [he]
  exact h1.conseq hT
theorem boolv {x : Value} {e b : Bool} (hx : x = .bool e) (h : e = b) : x = .bool b := by rw [hx, h]
end
end Go.Proofs.YtmonlaoaengfdaaGreatDoor.Base
