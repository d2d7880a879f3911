import Derived.Test.YtjkhmbigoloeiaaJVF
set_option linter.unusedVariables false
set_option linter.unusedSimpArgs false
namespace Go.Proofs.Ytjkhmbigoloeiaa.Base
open Go.RowKit
def YN (P : Program) (w : World) (T : Bool → World → Prop) : Next → Prop
  | .enter k a => Calls P k a w (fun e w' => ∃ b, e = .returned (.bool b) ∧ T b w')
  | .round l fn tmps assign body => RoundIn (fence none) 0 P l fn tmps assign body w (fun e w' => ∃ b, e = .returned (.bool b) ∧ T b w')
  | _ => False
def callv (yv : Value) (args : Array Value) : Sem Next := do
  let d ← Deferred.ofValue yv args
  invoke d.target d.args
def Yld (P : Program) (yv : Value) (args : Array Value) (S : World → Prop) (T : Bool → World → Prop) : Prop :=
  ∀ w, S w → ∃ nx, (callv yv args).run P w = .ok nx w ∧ YN P w T nx
theorem roundIn_any {r : Option Nat} {P : Program} {l : Nat} {f : FuncId} {tmps : Array Value} {assign body : Code} {w : World} {R : Ending → World → Prop} (h : RoundIn (fence none) 0 P l f tmps assign body w R) : RoundIn (fence r) 0 P l f tmps assign body w R := by
  cases r with
  | none => exact h
  | some q => exact h
section
variable {σ : Type} {r : Option Nat} {P : Program} {n : Nat} {ds : List Deferred} {f : Nat → Value} {S : World → Prop} {o : Oper} {d : Nat} {w0 : World} {M : List Nat} {LL : List (List Blk)} {yv : Value} {args : Array Value}
theorem Yld.func {k : FuncId} {lb all : Array Value} {T : Bool → World → Prop} (hk : ∀ w, (callv (.func (.func k) #[] lb) args).run P w = .ok (.enter k all) w)
    (h : ∀ w, S w → Calls P k all w (fun e w' => ∃ b, e = .returned (.bool b) ∧ T b w')) : Yld P (.func (.func k) #[] lb) args S T := fun w hw => ⟨_, hk w, h w hw⟩
theorem Yld.cast {args' : Array Value} {T : Bool → World → Prop} (e : args = args') (h : Yld P yv args' S T) : Yld P yv args S T := by subst e; exact h
theorem Mem.pickK {LL' : List (List Blk)} {G : World → Prop} (is : List Nat) (hd : is.Nodup) (e : pickL LL is = LL') (h : ∀ w, Mem w0 M LL' w → G w) : ∀ w, Mem w0 M LL w → G w := fun w hw => h w (hw.pick is hd e)
theorem HtIn.yield {Φ : Bool → σ → Prop} {Lf : σ → List (List Blk)} (hn : nodef o = true) (hd : o.dst = some d) (h : ∀ w, (execOp (ev n f) o).run P w = (callv yv args).run P w)
    (hy : Yld P yv args S (fun b w => ∃ s, Φ b s ∧ Mem w0 M (Lf s) w)) :
    HtIn (β := { g : Bool × σ // Φ g.1 g.2 }) r P n S f o (fun g => upd f d (.bool g.1.1)) (fun g => Mem w0 M (Lf g.1.2)) := fun ds w hS K hK => by
  refine ⟨fun _ _ => trivial, ?_⟩
  have e : o.semAt (fence r).round (Fr n ds f).eval = execOp (Fr n ds f).eval o := Oper.semAt_eq _ _ _ (nodef_spec hn)
  rw [e, Fr_eval, h w]
  obtain ⟨nx, hx, hn⟩ := hy w hS
  rw [hx]
  cases nx <;> simp only [YN] at hn <;> try exact hn.elim
  case enter k a =>
    refine ⟨fun h => (by cases h), callsIn_of (Calls.mono hn ?_)⟩
    rintro e w' ⟨b, rfl, s, hΦ, hm⟩
    simp only [hd, Fr_put]
    exact hK ⟨(b, s), hΦ⟩ w' hm
  case round l fn tmps assign body =>
    refine ⟨fun h => (by cases h), (roundIn_any hn).mono ?_⟩
    rintro e w' ⟨b, rfl, s, hΦ, hm⟩
    simp only [hd, Fr_put]
    exact hK ⟨(b, s), hΦ⟩ w' hm
def Iter (P : Program) (k : FuncId) (lb : Array Value) (enc : Nat → List Value) (N : Nat) (Li : List (List Blk)) (w1 : World) (M : List Nat) : Prop :=
  ∀ (τ : Type) (yv : Value) (U : τ → List Blk) (Φ : Nat → τ → Prop) (Ψ : τ → Prop) (s0 : τ),
    (∀ i s (R : List (List Blk)), i < N → Φ i s → Yld P yv (enc i).toArray (Mem w1 M (U s :: R)) (fun b w => ∃ s', (bif b then Φ (i + 1) s' else Ψ s') ∧ Mem w1 M (U s' :: R) w)) →
    Φ 0 s0 → Mem w1 M (U s0 :: Li) w1 → Calls P k (#[yv] ++ lb) w1 (RetM w1 (fun s => Φ N s ∨ Ψ s) (fun _ => .tuple #[]) M (fun s => U s :: Li))
theorem Mem.flat {w : World} {LL' : List (List Blk)} (e : LL.flatten = LL'.flatten) (h : Mem w0 M LL w) : Mem w0 M LL' w := by
  unfold Mem at h ⊢; rwa [← e]
theorem Mem.perm {w : World} {LL' : List (List Blk)} (p : LL'.flatten.Perm LL.flatten) (h : Mem w0 M LL w) : Mem w0 M LL' w :=
  Mem0.sub h (fun q hq => p.mem_iff.1 hq) ((p.map (·.b)).nodup_iff.2 (Mem0.nodup h))
abbrev dB (D : Nat) : List Blk := [⟨D, .deferred (some [])⟩]
abbrev lB (l : Nat) (o : Loop) : List Blk := [⟨l, .loop o⟩]
abbrev mk (D : Nat) : Deferred := { target := .collected D, args := #[] }
def RQ (u : World) (Mu : List Nat) (D l : Nat) (ob : Loop) (Lu : σ → List (List Blk)) (Φ : σ → Prop) (Ψ : Code → σ → Prop) : Exit → Act → World → Prop
  | .normal, _, w => ∃ s, Φ s ∧ Mem u Mu (dB D :: lB l ob :: Lu s) w
  | .ret, _, w => ∃ s, Ψ .ret s ∧ Mem u Mu (dB D :: lB l ob :: Lu s) w
  | .exit id, _, w => ∃ s, Ψ (.exit id) s ∧ Mem u Mu (dB D :: lB l ob :: Lu s) w
  | _, _, _ => False
theorem tmps_fold : ∀ (l : List (Nat × Value)) (f : Nat → Value), l.foldl (fun t (p : Nat × Value) => t.setIfInBounds p.1 p.2) (Fr n ds f).tmps = (Fr n [] (l.foldl (fun f p => upd f p.1 p.2) f)).tmps
  | [], f => rfl
  | (p, v) :: l, f => by
    have e : (Fr n ds f).tmps.setIfInBounds p v = (Fr n ds (upd f p v)).tmps := congrArg Act.tmps (Fr_put n ds f p v)
    simp only [List.foldl_cons]
    rw [e]
    exact tmps_fold l _
theorem At.into {w : World} {a : Option Addr} {cs : List Value} {L R : List (List Blk)} (h : At w0 a cs) (hM : 0 < cs.length → (a.getD default).block ∉ M) (hm : Mem w0 M (L ++ R) w) :
    At w a cs ∧ (0 < cs.length → (a.getD default).block ∉ L.flatten.map (·.b)) :=
  ⟨h.mem' hm hM, fun h0 hx => by
    obtain ⟨p, hp, e⟩ := List.mem_map.1 hx
    have h1 := h.lt h0
    exact hM h0 (e ▸ Mem0.old hm p (by rw [List.flatten_append]; exact List.mem_append_left _ hp) (by rw [e]; exact h1))⟩
theorem W.range {Q : Exit → Act → World → Prop} {g : Operand} {ps : Array Tmp} {assign body : Code} {k : FuncId} {lb : Array Value} {enc : Nat → List Value} {N : Nat} {Lu : σ → List (List Blk)} {Li Lk : List (List Blk)}
    (is js ks : List Nat) (s0 : σ) (Φ : Nat → σ → Prop) (Ψ : Code → σ → Prop) (psl : List Nat)
    (hg : ev n f g = .func (.func k) #[] lb) (hk : ∀ x w, (callFunc k x).run P w = .ok (.enter k x) w)
    (hnd : (is ++ js ++ ks).Nodup) (hi : pickL LL is = Lu s0) (hj : pickL LL js = Li) (hkk : pickL LL ks = Lk)
    (hps : ps.toList = psl) (henc : ∀ i, (enc i).length = psl.length) (h0 : Φ 0 s0)
    (hit : ∀ (D l : Nat) (ob : Loop) (w1 : World), Mem w0 M (((dB D :: lB l ob :: Lu s0) ++ Li) ++ Lk) w1 → Iter P k lb enc N Li w1 (((dB D :: lB l ob :: Lu s0) ++ Li).flatten.map (·.b)))
    (hbody : ∀ (D l : Nat) (ob ob' : Loop) (i : Nat) (s : σ) (u : World) (Mu : List Nat) (J : Act → World → Prop), i < N → Φ i s →
      (∀ a cs, At w0 a cs → (0 < cs.length → (a.getD default).block ∉ M) → At u a cs ∧ (0 < cs.length → (a.getD default).block ∉ Mu)) →
      (∀ f' L', W (some l) P (RQ u Mu D l ob' Lu (Φ (i + 1)) Ψ) body n [] f' (Mem u Mu (dB D :: lB l ob' :: L')) → ∀ w', Mem u Mu (dB D :: lB l ob :: L') w' → J (Fr n [] f') w') →
      W (some l) P (Exit.then J NoExit) assign n [] ((psl.zip (enc i)).foldl (fun f p => upd f p.1 p.2) f) (Mem u Mu (dB D :: lB l ob :: Lu s)))
    (hdone : ∀ (D l : Nat) (ob : Loop) (s : σ), Φ N s → ∀ w, Mem w0 M (((dB D :: lB l ob :: Lu s) ++ Li) ++ Lk) w → Q .normal (Fr n (mk D :: ds) f) w)
    (hstop : ∀ (D l : Nat) (ob : Loop) (c : Code) (s : σ), Ψ c s → W none P Q c n (mk D :: ds) f (Mem w0 M (((dB D :: lB l ob :: Lu s) ++ Li) ++ Lk))) :
    W none P Q (.rangeFunc g ps assign body) n ds f (Mem w0 M LL) := fun w hS => by
  have hS1 : Mem w0 M (Lu s0 ++ Li ++ Lk) w := hS.pick (is ++ js ++ ks) hnd (by rw [← hi, ← hj, ← hkk]; simp [pickL])
  refine wpIn_rangeFunc ?_
  intro fn _
  obtain ⟨rec, hrec⟩ : ∃ rec : LoopState → Option Code → Loop, rec = fun st pe => { state := st, pending := pe, fn, tmps := (Fr n ds f).tmps, params := ps, assign, body, defers := w.heap.size } := ⟨_, rfl⟩
  obtain ⟨D, hD⟩ : ∃ D, D = w.heap.size := ⟨_, rfl⟩
  obtain ⟨l, hl⟩ : ∃ l, l = w.heap.size + 1 := ⟨_, rfl⟩
  obtain ⟨w1, hw1⟩ : ∃ w1, (w.alloc (.deferred (some []))).alloc (.loop (rec .ready none)) = w1 := ⟨_, rfl⟩
  have hm : Mem w0 M (((dB D :: lB l (rec .ready none) :: Lu s0) ++ Li) ++ Lk) w1 := by
    have h1 := (hS1.allocO (.deferred (some []))).allocO (.loop (rec .ready none))
    rw [← hw1]
    refine Mem.perm ?_ h1
    simp only [List.flatten_append, List.flatten_cons, dB, lB, hD, hl, List.cons_append, List.nil_append, List.append_assoc, Array.size_push]
    exact List.Perm.swap _ _ _
  let U : σ × Option Code → List Blk := fun s => dB D ++ lB l (rec (if s.2.isNone then .ready else .done) s.2) ++ (Lu s.1).flatten
  have hU : ∀ (s : σ) (pe : Option Code) (R : List (List Blk)), (U (s, pe) :: R).flatten = ((dB D :: lB l (rec (if pe.isNone then .ready else .done) pe) :: Lu s) ++ R).flatten := fun s pe R => by
    simp [U, List.flatten_append]
  obtain ⟨M1, hM1⟩ : ∃ M1, M1 = ((dB D :: lB l (rec .ready none) :: Lu s0) ++ Li).flatten.map (·.b) := ⟨_, rfl⟩
  have hloc : Mem w1 M1 (U (s0, none) :: Li) w1 := by
    rw [hM1]; exact (Mem.local hm).flat (hU s0 none Li).symm
  have hback : ∀ {LL' : List (List Blk)} {w' : World}, Mem w1 M1 LL' w' → Mem w0 M (LL' ++ Lk) w' := fun h => Mem.back hm (by rw [hM1] at h; exact h)
  refine ⟨l, [mk D], w1, { target := .fn (.func k) lb, args := #[.func (.yield l) #[] #[]] }, w1, k, #[.func (.yield l) #[] #[]] ++ lb, w1, ?_, ?_, fun _ _ => trivial, ?_, fun h => (by cases h), ?_⟩
  · rw [← hw1, hrec, hl]; simp only [mk, hD]; exact run_enterLoop_outer _ _ _ _ _
  · simp only [resolve, Fr_eval, hg]
    simp [go_sem]; rfl
  · simp [invoke, go_sem, hk]
  have hI := hit D l _ w1 hm
  rw [← hM1] at hI
  refine callsIn_of (Calls.mono (hI (σ × Option Code) (.func (.yield l) #[] #[]) U (fun i s => Φ i s.1 ∧ s.2 = none) (fun s => ∃ c, s.2 = some c ∧ Ψ c s.1) (s0, none) ?_ ⟨h0, rfl⟩ hloc) ?_)
  · rintro i ⟨s, pe⟩ R hiN ⟨hΦ, hpe⟩ u hu
    simp only at hpe hΦ; subst hpe
    have hul : u.heap[l]? = some (.loop (rec .ready none)) := hu.at (i := 0) (j := 1) (p := ⟨l, _⟩) rfl rfl
    obtain ⟨Mu, hMu⟩ : ∃ Mu, Mu = (U (s, none)).map (·.b) := ⟨_, rfl⟩
    have hloc2 : Mem u Mu (dB D :: lB l (rec .ready none) :: Lu s) u := by
      have h1 : Mem u Mu [U (s, none)] u := by rw [hMu]; exact hu.one (i := 0) rfl
      exact h1.flat (by have := hU s none []; simpa using this)
    have hback2 : ∀ {s' : σ} {pe : Option Code} {w' : World}, Mem u Mu (dB D :: lB l (rec (if pe.isNone then .ready else .done) pe) :: Lu s') w' → Mem w1 M1 (U (s', pe) :: R) w' := fun {s' pe w'} h => by
      have h1 : Mem u ([U (s, none)].flatten.map (·.b)) [U (s', pe)] w' := by
        simp only [List.flatten_cons, List.flatten_nil, List.append_nil]; rw [← hMu]
        exact h.flat (by have := hU s' pe []; simpa using this.symm)
      exact Mem.back (LL := [U (s, none)]) (R := R) hu h1
    refine ⟨.round l fn ((ps.zip (enc i).toArray).foldl (fun t (p : Nat × Value) => t.setIfInBounds p.1 p.2) (Fr n ds f).tmps) assign body, ?_, ?_⟩
    · have := run_yield (P := P) (args := (enc i).toArray) hul (by rw [hrec]; simp only [List.size_toArray]; rw [henc, ← hps]; simp)
      rw [hrec] at this
      simp only [callv, Deferred.ofValue, Sem.run_bind]
      simp [go_sem, invoke, this]
    refine roundIn_of_wpIn (F := fence none) trivial ?_
    have et : (ps.zip (enc i).toArray).foldl (fun t (p : Nat × Value) => t.setIfInBounds p.1 p.2) (Fr n ds f).tmps = (Fr n [] ((psl.zip (enc i)).foldl (fun f p => upd f p.1 p.2) f)).tmps := by
      rw [← tmps_fold (ds := ds), ← hps]
      rw [← Array.foldl_toList, Array.toList_zip]
    rw [et]
    refine hbody D l (rec .ready none) (rec .busy none) i s u Mu _ hiN hΦ ?_ ?_ u hloc2
    · intro a cs hat hne
      have h1 : Mem w0 M ((U (s, none) :: R) ++ Lk) u := hback hu
      have h2 := At.into (L := [U (s, none)]) (R := R ++ Lk) hat hne (by simpa using h1)
      rw [hMu]; simpa using h2
    intro f' L' hW w' hm'
    have hl' : w'.heap[l]? = some (.loop (rec .ready none)) := hm'.at (i := 1) (j := 0) (p := ⟨l, _⟩) rfl rfl
    have hlt' := (Array.getElem?_eq_some_iff.1 hl').1
    refine ⟨w'.putObj l (.loop (rec .busy none)), ?_, ?_⟩
    · have := run_beginRound (P := P) hl' (by rw [hrec]); rw [this, hrec]
    have hm2 : Mem u Mu (dB D :: lB l (rec .busy none) :: L') (w'.putObj l (.loop (rec .busy none))) :=
      hm'.putO (s := lB l (rec .ready none)) (i := 1) (j := 0) rfl rfl rfl rfl rfl (by simp) (fun k _ hk => World.putObj_heap_other hk) (World.putObj_heap_same hlt')
    refine wpIn_mono (hW _ hm2) ?_
    have fin : ∀ (jump : Option Code) (s' : σ) (w3 : World), Mem u Mu (dB D :: lB l (rec .busy none) :: Lu s') w3 →
        (Instr.endRound l jump).run P w3 = .ok (.bool jump.isNone) (w3.putObj l (.loop (rec (if jump.isNone then .ready else .done) jump))) ∧
        Mem w1 M1 (U (s', jump) :: R) (w3.putObj l (.loop (rec (if jump.isNone then .ready else .done) jump))) := fun jump s' w3 h3 => by
      have hl3 : w3.heap[l]? = some (.loop (rec .busy none)) := h3.at (i := 1) (j := 0) (p := ⟨l, _⟩) rfl rfl
      have hlt3 := (Array.getElem?_eq_some_iff.1 hl3).1
      refine ⟨?_, hback2 ?_⟩
      · have := run_endRound (P := P) jump hl3; rw [this, hrec]
      · exact h3.putO (s := lB l (rec .busy none)) (i := 1) (j := 0) rfl rfl rfl rfl rfl (by simp) (fun k _ hk => World.putObj_heap_other hk) (World.putObj_heap_same hlt3)
    rintro e a3 w3 hp
    cases e with
    | normal =>
      obtain ⟨s', hs', h3⟩ := hp
      obtain ⟨hr, h4⟩ := fin none s' w3 h3
      exact ⟨_, _, hr, true, rfl, (s', none), ⟨hs', rfl⟩, h4⟩
    | ret =>
      obtain ⟨s', hs', h3⟩ := hp
      obtain ⟨hr, h4⟩ := fin (some .ret) s' w3 h3
      exact ⟨_, _, hr, false, rfl, (s', some .ret), ⟨_, rfl, hs'⟩, h4⟩
    | exit id =>
      obtain ⟨s', hs', h3⟩ := hp
      obtain ⟨hr, h4⟩ := fin (some (.exit id)) s' w3 h3
      exact ⟨_, _, hr, false, rfl, (s', some (.exit id)), ⟨_, rfl, hs'⟩, h4⟩
    | goto t => exact hp.elim
    | panic ch => exact hp.elim
    | outgrown => exact hp.elim
  · rintro e w2 ⟨⟨s, pe⟩, hor, rfl, hm2⟩
    have hl2 : w2.heap[l]? = some (.loop (rec (if pe.isNone then .ready else .done) pe)) := hm2.at (i := 0) (j := 1) (p := ⟨l, _⟩) rfl rfl
    have hlt2 := (Array.getElem?_eq_some_iff.1 hl2).1
    have he : (Instr.endLoop l).run P w2 = .ok pe (w2.putObj l (.loop (rec .exhausted pe))) := by
      have := run_endLoop (P := P) hl2 (by rw [hrec]; cases pe <;> simp); rw [this, hrec]
    have h3 : Mem w0 M (((dB D :: lB l (rec .exhausted pe) :: Lu s) ++ Li) ++ Lk) (w2.putObj l (.loop (rec .exhausted pe))) := by
      have h1 : Mem w0 M (((dB D :: lB l (rec (if pe.isNone then .ready else .done) pe) :: Lu s) ++ Li) ++ Lk) w2 := (hback hm2).flat (by rw [List.flatten_append, hU s pe Li, ← List.flatten_append])
      exact h1.putO (s := lB l (rec (if pe.isNone then .ready else .done) pe)) (i := 1) (j := 0) rfl rfl rfl rfl rfl (by simp) (fun k _ hk => World.putObj_heap_other hk) (World.putObj_heap_same hlt2)
    refine ⟨pe, _, he, ?_⟩
    rcases hor with ⟨hΦ, hpe⟩ | ⟨c, hpe, hΨ⟩
    · simp only at hpe hΦ; subst hpe
      exact hdone D l _ s hΦ _ h3
    · simp only at hpe hΨ; subst hpe
      exact hstop D l _ c s hΨ _ h3
theorem RQ.fin {u : World} {Mu : List Nat} {D l : Nat} {ob : Loop} {Lu : σ → List (List Blk)} {Φ : σ → Prop} {Ψ : Code → σ → Prop} {a : Act} {w : World} (s : σ) (h : Φ s) (hm : Mem u Mu (dB D :: lB l ob :: Lu s) w) : RQ u Mu D l ob Lu Φ Ψ .normal a w := ⟨s, h, hm⟩
theorem RQ.ret {u : World} {Mu : List Nat} {D l : Nat} {ob : Loop} {Lu : σ → List (List Blk)} {Φ : σ → Prop} {Ψ : Code → σ → Prop} {a : Act} {w : World} (s : σ) (h : Ψ .ret s) (hm : Mem u Mu (dB D :: lB l ob :: Lu s) w) : RQ u Mu D l ob Lu Φ Ψ .ret a w := ⟨s, h, hm⟩
theorem RQ.exit {id : Nat} {u : World} {Mu : List Nat} {D l : Nat} {ob : Loop} {Lu : σ → List (List Blk)} {Φ : σ → Prop} {Ψ : Code → σ → Prop} {a : Act} {w : World} (s : σ) (h : Ψ (.exit id) s) (hm : Mem u Mu (dB D :: lB l ob :: Lu s) w) : RQ u Mu D l ob Lu Φ Ψ (.exit id) a w := ⟨s, h, hm⟩
theorem Iter.cast {k : FuncId} {lb : Array Value} {enc enc' : Nat → List Value} {N N' : Nat} {Li Li' : List (List Blk)} {w1 : World} {M : List Nat} (h : Iter P k lb enc N Li w1 M) (he : enc = enc') (hN : N = N') (hL : Li = Li') : Iter P k lb enc' N' Li' w1 M := by
  subst he; subst hN; subst hL; exact h
end
/-! ### Numbers, once more -/
theorem band_i64 {x : Int} {c : Nat} (hc : c ≤ 62) (m M : Nat) (hm : m = 2 ^ c - 1) (hM : M = 2 ^ c) : band .i64 x ((m : Nat) : Int) = (((x % (M : Int)).toNat : Nat) : Int) := by
  subst hm; subst hM
  have hp : 2 ^ c ≤ 2 ^ 62 := Nat.pow_le_pow_right (by decide) hc
  have hp0 := Nat.two_pow_pos c
  obtain ⟨d, hd⟩ : ∃ d, 2 ^ 64 = 2 ^ c * d := ⟨2 ^ (64 - c), by rw [← Nat.pow_add]; congr 1; omega⟩
  unfold band
  rw [BitVec.toNat_and, bv_nat, Nat.mod_eq_of_lt (show 2 ^ c - 1 < 2 ^ IntKind.i64.bits by show _ < 2 ^ 64; omega), Nat.and_two_pow_sub_one_eq_mod, BitVec.toNat_ofInt]
  have h1 : (x % ((2 ^ 64 : Nat) : Int)).toNat % 2 ^ c = (x % ((2 ^ c : Nat) : Int)).toNat := by
    have h2 : ((x % ((2 ^ 64 : Nat) : Int)) % ((2 ^ c : Nat) : Int)) = x % ((2 ^ c : Nat) : Int) := Int.emod_emod_of_dvd _ ⟨(d : Int), by rw [hd]; push_cast; rfl⟩
    have h3 : (0 : Int) ≤ x % ((2 ^ 64 : Nat) : Int) := Int.emod_nonneg _ (by decide)
    rw [← h2]
    obtain ⟨q, hq⟩ := Int.eq_ofNat_of_zero_le h3
    rw [hq, ← Int.natCast_emod, Int.toNat_natCast, Int.toNat_natCast]
  have h4 : (x % ((2 ^ c : Nat) : Int)).toNat < 2 ^ c := by
    have := Int.emod_lt_of_pos x (show (0 : Int) < ((2 ^ c : Nat) : Int) by omega)
    have := Int.emod_nonneg x (show ((2 ^ c : Nat) : Int) ≠ 0 by omega)
    omega
  show IntKind.i64.wrap (((x % ((2 ^ 64 : Nat) : Int)).toNat % 2 ^ c : Nat) : Int) = _
  rw [h1, wrap_i64 (by omega) (by omega)]
section
variable {P : Program} {n : Nat} {S : World → Prop} {f : Nat → Value} {o : Oper}
end
/-! ### Elements of several cells -/
def mm {α : Type} (g : α → List Value) (xs : List α) : List Value := xs.flatMap g
section
variable {α : Type} {g : α → List Value} {sz : Nat}
theorem mm_len (hg : ∀ x, (g x).length = sz) : ∀ xs : List α, (mm g xs).length = xs.length * sz
  | [] => by simp [mm]
  | x :: xs => by
    have := mm_len hg xs
    unfold mm at this ⊢
    rw [List.flatMap_cons, List.length_append, hg, this, List.length_cons, Nat.succ_mul]; omega
theorem mm_get (hg : ∀ x, (g x).length = sz) (d : α) : ∀ {xs : List α} {k : Nat}, k < xs.length → ∀ j v, (g (xs.getD k d))[j]? = some v → (mm g xs)[k * sz + j]? = some v
  | [], k, h, _, _, _ => by simp at h
  | x :: xs, 0, h, j, v, hv => by
    have hj := (List.getElem?_eq_some_iff.1 hv).1
    unfold mm
    rw [List.flatMap_cons, Nat.zero_mul, Nat.zero_add, List.getElem?_append_left (by simpa using hj)]
    exact hv
  | x :: xs, k + 1, h, j, v, hv => by
    have ih := mm_get hg d (xs := xs) (k := k) (by simpa using h) j v (by simpa using hv)
    unfold mm at ih ⊢
    rw [List.flatMap_cons, List.getElem?_append_right (by rw [hg, Nat.succ_mul]; omega), hg]
    rw [show (k + 1) * sz + j - sz = k * sz + j by rw [Nat.succ_mul]; omega]
    exact ih
end
theorem at_ofN {H : Type} {enc : TypeId × Value → H} {P : Program} {w : World} {spare : Nat → Bool} {held : Bool} {e : TypeId} {a : Option Addr} {len cap sz : Nat} {α : Type} [Inhabited α] {g : α → List Value} {p : α → Prop} (hsz : P.cellsOf e = sz) (hgs : ∀ x, (g x).length = sz)
    (hlc : len ≤ cap) (hs : 0 < cap → ∃ adr, a = some adr)
    (h : ∀ adr, a = some adr → ∀ i, i < len → ∃ cs m x, w.cells? 0 (adr.add (i * P.cellsOf e)) (P.cellsOf e) = some cs ∧ DataW.trod enc P w 0 spare held m e cs = some x)
    (hg : ∀ m cs x, DataW.trod enc P w 0 spare held m e cs = some x → ∃ y, cs = g y ∧ p y) : ∃ xs : List α, xs.length = len ∧ At w a (mm g xs) ∧ ∀ x ∈ xs, p x := by
  by_cases h0 : 0 < len
  · obtain ⟨adr, rfl⟩ := hs (by omega)
    obtain ⟨X, hX⟩ := Deep.choose_lt (α := α) (p := fun i y => w.cells? 0 (adr.add (i * sz)) sz = some (g y) ∧ p y) (n := len) (fun i hi => by
      obtain ⟨cs, m, x, h1, h2⟩ := h adr rfl i hi
      obtain ⟨y, rfl, hp⟩ := hg m cs x h2
      exact ⟨y, by rw [hsz] at h1; exact h1, hp⟩)
    have key : ∀ (n i0 : Nat), i0 + n ≤ len → ∀ q v, (mm g ((List.range' i0 n).map X))[q]? = some v → w.cell? ((adr.add (i0 * sz)).add q) = some v := by
      intro n
      induction n with
      | zero => intro i0 _ q v hq; simp [mm] at hq
      | succ n ih =>
        intro i0 hle q v hq
        rw [List.range'_succ, List.map_cons] at hq
        unfold mm at hq
        rw [List.flatMap_cons] at hq
        rcases Nat.lt_or_ge q sz with hlt | hge
        · rw [List.getElem?_append_left (by rw [hgs]; exact hlt)] at hq
          obtain ⟨_, hl, hc⟩ := World.cells?_some (hX i0 (by omega)).1
          have h1 := hc q hlt
          rw [h1]; exact hq
        · rw [List.getElem?_append_right (by rw [hgs]; exact hge), hgs] at hq
          have h1 := ih (i0 + 1) (by omega) (q - sz) v hq
          rw [adr_add_add] at h1 ⊢
          rw [show i0 * sz + q = (i0 + 1) * sz + (q - sz) by rw [Nat.succ_mul]; omega]
          exact h1
    refine ⟨(List.range len).map X, by simp, ⟨fun _ => rfl, fun q v hq => ?_⟩, fun x hx => ?_⟩
    · have h1 := key len 0 (by omega) q v (by rw [← List.range_eq_range']; exact hq)
      simp only [Option.getD_some]
      rw [Nat.zero_mul, adr_add0] at h1
      exact h1
    · obtain ⟨i, hi, rfl⟩ := List.mem_map.1 hx
      exact (hX i (by simpa using hi)).2
  · obtain rfl : len = 0 := by omega
    exact ⟨[], rfl, At.nil _ _, fun x hx => by cases hx⟩
/-! ### Drawn regions in which several effects may come up -/
section
variable {r : Option Nat} {P : Program} {ops : Array Oper} {Q : Exit → Act → World → Prop} {K : Act → World → Prop} {S T : World → Prop} {A : List Nat} {k : Nat} {listed : Array Bool} {n : Nat} {ds : List Deferred} {f : Nat → Value} {o : Oper} {v : Value} {d i : Nat}
def Wa (P : Program) (ops : Array Oper) (K : Act → World → Prop) (S : World → Prop) (A : List Nat) (k : Nat) (listed : Array Bool) (n : Nat) (ds : List Deferred) (f : Nat → Value) (T : World → Prop) : Prop :=
  ∀ w, T w → wpAnyS P .any ops K S A k listed (Fr n ds f) w
def Wo (P : Program) (ops : Array Oper) (K : Act → World → Prop) (S : World → Prop) (A : List Nat) (k : Nat) (listed : Array Bool) (i : Nat) (n : Nat) (ds : List Deferred) (f : Nat → Value) (T : World → Prop) : Prop :=
  ∀ w, T w → wpOp P ops NoExit i (fun a' w' => (waits .any ops A i = true ∨ S w') ∧ wpAnyS P .any ops K S A k (listed.setIfInBounds i true) a' w') (Fr n ds f) w
theorem W.drawsA {id : Nat} {l : List Oper} (A : List Nat) (S : World → Prop) (hm : P.follows .mixedOrders = true) (hd : nodefs l.toArray = true)
    (hT : ∀ w k, T w → T { w with drawn := k }) (h : Wa P l.toArray (Q .normal) S A l.length (Array.replicate l.length false) n ds f T) : W r P Q (.region id l.toArray true) n ds f T := fun w hw => by
  refine wpIn_region_any hm ?_
  have h1 := wpAnyS_in (r := r) (Q := Q) hd (fun _ _ h => h) _ _ _ _ (h { w with drawn := w.drawn + 1 } (hT w _ hw))
  simpa using h1
theorem Wa.guard (g : Bool) (hsel : Region.noSelect ops = true) (hA : A.contains i = true) (hr : (Region.ready .any ops listed).contains i = true) (hf : Region.free .any ops listed i = true) (hTS : ∀ w, T w → S w)
    (hi : ops[i]? = some o) (hg : Region.wanted o (yl ops n f) = g) (hd : o.dst = some d) (h : g = true → Ys P n S f o v) (hr' : Wa P ops K S A k (listed.setIfInBounds i true) n ds (upd f d (bif g then v else undef)) T) : Wa P ops K S A (k + 1) listed n ds f T := fun w hw => by
  refine wpAnyS_first (v := bif g then v else undef) (by simpa using hA) hi (Region.noSelect_spec hsel) k listed _ w (Region.free_spec hi hf) (by simpa using hr) ?_ (hTS w hw) (by rw [hd, Fr_put]; exact hr' w hw)
  cases g with
  | false => exact .inr ⟨by rw [yielded_Fr]; exact hg, rfl⟩
  | true => exact .inl ⟨by rw [yielded_Fr]; exact hg, by rw [Fr_eval]; exact h rfl⟩
theorem Wa.ys (hsel : Region.noSelect ops = true) (hA : A.contains i = true) (hr : (Region.ready .any ops listed).contains i = true) (hf : Region.free .any ops listed i = true) (hTS : ∀ w, T w → S w)
    (hi : ops[i]? = some o) (hg : o.guard = none) (hd : o.dst = some d) (h : Ys P n S f o v) (hr' : Wa P ops K S A k (listed.setIfInBounds i true) n ds (upd f d v) T) : Wa P ops K S A (k + 1) listed n ds f T :=
  Wa.guard true hsel hA hr hf hTS hi (by simp [Region.wanted, hg]) hd (fun _ => h) hr'
theorem Wa.skip (hsel : Region.noSelect ops = true) (hA : A.contains i = true) (hr : (Region.ready .any ops listed).contains i = true) (hf : Region.free .any ops listed i = true) (hTS : ∀ w, T w → S w)
    (hi : ops[i]? = some o) (hg : Region.wanted o (yl ops n f) = false) (hd : o.dst = some d) (hr' : Wa P ops K S A k (listed.setIfInBounds i true) n ds (upd f d undef) T) : Wa P ops K S A (k + 1) listed n ds f T :=
  Wa.guard (v := undef) false hsel hA hr hf hTS hi hg hd (fun h => by cases h) hr'
theorem Wa.only (hr : Region.ready .any ops listed = [i]) (h : Wo P ops K S A k listed i n ds f T) : Wa P ops K S A (k + 1) listed n ds f T := fun w hw =>
  ⟨fun h0 => (by rw [hr] at h0; cases h0), fun j hj => by rw [hr] at hj; obtain rfl : j = i := by simpa using hj
                                                          exact h w hw⟩
theorem Wa.alt2 {j : Nat} (hr : Region.ready .any ops listed = [i, j]) (h1 : Wo P ops K S A k listed i n ds f T) (h2 : Wo P ops K S A k listed j n ds f T) : Wa P ops K S A (k + 1) listed n ds f T := fun w hw =>
  ⟨fun h0 => (by rw [hr] at h0; cases h0), fun q hq => by
    rw [hr] at hq
    rcases (by simpa using hq : q = i ∨ q = j) with rfl | rfl
    · exact h1 w hw
    · exact h2 w hw⟩
theorem Wa.nil (hr : Region.ready .any ops listed = []) (h : ∀ w, T w → K (Fr n ds f) w) : Wa P ops K S A 0 listed n ds f T := fun w hw => ⟨hr, h w hw⟩
theorem Wa.conseq {T' : World → Prop} (hT : ∀ w, T w → T' w) (h : Wa P ops K S A k listed n ds f T') : Wa P ops K S A k listed n ds f T := fun w hw => h w (hT w hw)
theorem Wo.conseq {T' : World → Prop} (hT : ∀ w, T w → T' w) (h : Wo P ops K S A k listed i n ds f T') : Wo P ops K S A k listed i n ds f T := fun w hw => h w (hT w hw)
theorem Wa.castL {w0 : World} {M : List Nat} {LL LL' : List (List Blk)} (e : LL = LL') (h : Wa P ops K S A k listed n ds f (Mem w0 M LL')) : Wa P ops K S A k listed n ds f (Mem w0 M LL) := by rwa [e]
theorem Wo.yc (hi : ops[i]? = some o) (hg : o.guard = none) (hd : o.dst = some d) (h : Yc P n T f o v) (hTS : waits .any ops A i = true ∨ ∀ w, T w → S w) (hr : Wa P ops K S A k (listed.setIfInBounds i true) n ds (upd f d v) T) : Wo P ops K S A k listed i n ds f T := fun w hT => by
  unfold wpOp
  simp only [hi]
  rw [if_pos (by simp [Region.wanted, hg])]
  exact .inl (h ds w hT _ fun w' hw' => ⟨hTS.imp_right fun h => h w' hw', by rw [hd, Fr_put]; exact hr w' hw'⟩)
theorem Wo.guardc (g : Bool) (hi : ops[i]? = some o) (hg : Region.wanted o (yl ops n f) = g) (hd : o.dst = some d) (h : g = true → Yc P n T f o v) (hTS : waits .any ops A i = true ∨ ∀ w, T w → S w) (hr : Wa P ops K S A k (listed.setIfInBounds i true) n ds (upd f d (bif g then v else undef)) T) : Wo P ops K S A k listed i n ds f T := fun w hT => by
  unfold wpOp
  simp only [hi]
  rw [yielded_Fr, hg]
  cases g with
  | false => simp only [Bool.false_eq_true, if_false]; exact ⟨hTS.imp_right fun h => h w hT, by rw [hd, Fr_put]; exact hr w hT⟩
  | true => rw [if_pos rfl]; exact .inl (h rfl ds w hT _ fun w' hw' => ⟨hTS.imp_right fun h => h w' hw', by rw [hd, Fr_put]; exact hr w' hw'⟩)
theorem Wo.skipc (hi : ops[i]? = some o) (hg : Region.wanted o (yl ops n f) = false) (hd : o.dst = some d) (hTS : waits .any ops A i = true ∨ ∀ w, T w → S w) (hr : Wa P ops K S A k (listed.setIfInBounds i true) n ds (upd f d undef) T) : Wo P ops K S A k listed i n ds f T := fun w hT => by
  unfold wpOp
  simp only [hi]
  rw [yielded_Fr, hg]
  simp only [Bool.false_eq_true, if_false]; exact ⟨hTS.imp_right fun h => h w hT, by rw [hd, Fr_put]; exact hr w hT⟩
theorem Wo.ht {β : Type} {f' : β → Nat → Value} {T' : β → World → Prop} (hi : ops[i]? = some o) (hg : o.guard = none) (h : Ht P n T f o f' T') (hTS : waits .any ops A i = true ∨ ∀ b w, T' b w → S w) (hr : ∀ b, Wa P ops K S A k (listed.setIfInBounds i true) n ds (f' b) (T' b)) : Wo P ops K S A k listed i n ds f T := fun w hT => by
  unfold wpOp
  simp only [hi]
  rw [if_pos (by simp [Region.wanted, hg])]
  exact .inl (h ds w hT _ fun b w' hw' => ⟨hTS.imp_right fun h => h b w' hw', hr b w' hw'⟩)
theorem Wo.htw {β : Type} {f' : β → Nat → Value} {T' : β → World → Prop} (hi : ops[i]? = some o) (hw : Region.wanted o (yl ops n f) = true) (h : Ht P n T f o f' T') (hTS : waits .any ops A i = true ∨ ∀ b w, T' b w → S w) (hr : ∀ b, Wa P ops K S A k (listed.setIfInBounds i true) n ds (f' b) (T' b)) : Wo P ops K S A k listed i n ds f T := fun w hT => by
  unfold wpOp
  simp only [hi]
  rw [yielded_Fr, if_pos hw]
  exact .inl (h ds w hT _ fun b w' hw' => ⟨hTS.imp_right fun h => h b w' hw', hr b w' hw'⟩)
theorem Wo.htS {β : Type} {Φ : β → Prop} {f' : β → Nat → Value} {T' : β → World → Prop} (hi : ops[i]? = some o) (hg : o.guard = none) (h : HtS P n T f o Φ f' T') (hTS : waits .any ops A i = true ∨ ∀ b w, T' b w → S w) (hr : ∀ b, Φ b → Wa P ops K S A k (listed.setIfInBounds i true) n ds (f' b) (T' b)) : Wo P ops K S A k listed i n ds f T :=
  Wo.ht hi hg h (hTS.imp_right fun h b w => h b.1 w) fun b => hr b.1 b.2
theorem Wo.htwS {β : Type} {Φ : β → Prop} {f' : β → Nat → Value} {T' : β → World → Prop} (hi : ops[i]? = some o) (hw : Region.wanted o (yl ops n f) = true) (h : HtS P n T f o Φ f' T') (hTS : waits .any ops A i = true ∨ ∀ b w, T' b w → S w) (hr : ∀ b, Φ b → Wa P ops K S A k (listed.setIfInBounds i true) n ds (f' b) (T' b)) : Wo P ops K S A k listed i n ds f T :=
  Wo.htw hi hw h (hTS.imp_right fun h b w => h b.1 w) fun b => hr b.1 b.2
end
end Go.Proofs.Ytjkhmbigoloeiaa.Base
