import Derived.Test.YtjkhmbigoloeiaaJVM
set_option linter.unusedVariables false
set_option linter.unusedSimpArgs false
namespace Go.Proofs.Ytjkhmbigoloeiaa.Base
open Go.RowKit
section
variable {r : Option Nat} {P : Program} {ops : Array Oper} {K : Act → World → Prop} {S : World → Prop} {n : Nat} {ds : List Deferred} {f : Nat → Value} {o : Oper} {rest : List Oper}
theorem Wl.htInw {β : Type} {f' : β → Nat → Value} {S' : β → World → Prop} (hw : Region.wanted o (yl ops n f) = true) (h : HtIn r P n S f o f' S') (hr : ∀ b, Wl r P ops K rest n ds (f' b) (S' b)) : Wl r P ops K (o :: rest) n ds f S := fun w hS => by
  unfold wl
  rw [yielded_Fr, if_pos hw]
  exact h ds w hS _ fun b w' hw' => hr b w' hw'
end
section
variable {σ : Type} {r : Option Nat} {P : Program} {n : Nat} {ds : List Deferred} {f : Nat → Value} {S : World → Prop} {o : Oper} {d : Nat} {w0 : World} {M : List Nat} {LL : List (List Blk)} {yv : Value} {args : Array Value}
def Iter4 (P : Program) (k : FuncId) (lb : Array Value) (enc : Nat → List Value) (N : Nat) (Li : List (List Blk)) (w1 : World) (M : List Nat) : Prop :=
  ∀ (τ : Type) (ly : Nat) (U : τ → List Blk) (Φ : Nat → τ → Prop) (Ψ : τ → Prop) (s0 : τ),
    (∀ i s (R : List (List Blk)) (u : World) (Mu : List Nat), i < N → Φ i s → Keeps w1 M u Mu → Yld P (.func (.yield ly) #[] #[]) (enc i).toArray (Mem u Mu (U s :: R)) (fun b w => ∃ s', (bif b then Φ (i + 1) s' else Ψ s') ∧ Mem u Mu (U s' :: R) w)) →
    Φ 0 s0 → Mem w1 M (U s0 :: Li) w1 → (∀ k ∈ M, k ∈ (U s0 :: Li).flatten.map (·.b)) → Calls P k (#[.func (.yield ly) #[] #[]] ++ lb) w1 (RetM w1 (fun s => Φ N s ∨ Ψ s) (fun _ => .tuple #[]) M (fun s => U s :: Li))
theorem W.range4 {Q : Exit → Act → World → Prop} {g : Operand} {ps : Array Tmp} {assign body : Code} {k : FuncId} {lb : Array Value} {enc : Nat → List Value} {N : Nat} {Lu : σ → List (List Blk)} {Li Lk : List (List Blk)}
    (is js ks : List Nat) (s0 : σ) (Φ : Nat → σ → Prop) (Ψ : Code → σ → Prop) (psl : List Nat)
    (hg : ev n f g = .func (.func k) #[] lb) (hk : ∀ x w, (callFunc k x).run P w = .ok (.enter k x) w)
    (hnd : (is ++ js ++ ks).Nodup) (hi : pickL LL is = Lu s0) (hj : pickL LL js = Li) (hkk : pickL LL ks = Lk)
    (hps : ps.toList = psl) (henc : ∀ i, (enc i).length = psl.length) (h0 : Φ 0 s0)
    (hit : ∀ (D l : Nat) (ob : Loop) (w1 : World), Mem w0 M (((dB D :: lB l ob :: Lu s0) ++ Li) ++ Lk) w1 → Iter4 P k lb enc N Li w1 (((dB D :: lB l ob :: Lu s0) ++ Li).flatten.map (·.b)))
    (hbody : ∀ (D l : Nat) (ob ob' : Loop) (i : Nat) (s : σ) (u : World) (Mu : List Nat) (J : Act → World → Prop), i < N → Φ i s → Keeps w0 M u Mu →
      (∀ f' L', W (some l) P (RQ u Mu D l ob' Lu (Φ (i + 1)) Ψ) body n [] f' (Mem u Mu (dB D :: lB l ob' :: L')) → ∀ w', Mem u Mu (dB D :: lB l ob :: L') w' → J (Fr n [] f') w') →
      W (some l) P (Exit.then J NoExit) assign n [] ((psl.zip (enc i)).foldl (fun f p => upd f p.1 p.2) f) (Mem u Mu (dB D :: lB l ob :: Lu s)))
    (hdone : ∀ (D l : Nat) (ob : Loop) (s : σ), Φ N s → ∀ w, Mem w0 M (((dB D :: lB l ob :: Lu s) ++ Li) ++ Lk) w → Q .normal (Fr n (mk D :: ds) f) w)
    (hstop : ∀ (D l : Nat) (ob : Loop) (c : Code) (s : σ), Ψ c s → W none P Q c n (mk D :: ds) f (Mem w0 M (((dB D :: lB l ob :: Lu s) ++ Li) ++ Lk))) :
    W none P Q (.rangeFunc g ps assign body) n ds f (Mem w0 M LL) := fun w hS => by
  have hS1 : Mem w0 M (Lu s0 ++ Li ++ Lk) w := hS.pick (is ++ js ++ ks) hnd (by rw [← hi, ← hj, ← hkk]; simp [pickL])
  refine wpIn_rangeFunc ?_
  intro fn _
  obtain ⟨rec, hrec⟩ : ∃ rec : LoopState → Option Code → Loop, rec = fun st pe => { state := st, pending := pe, fn, tmps := (Fr n ds f).tmps, params := ps, assign, body, defers := w.heap.size } := ⟨_, rfl⟩
  obtain ⟨D, hD⟩ : ∃ D, D = w.heap.size := ⟨_, rfl⟩
  obtain ⟨l, hl⟩ : ∃ l, l = w.heap.size + 1 := ⟨_, rfl⟩
  obtain ⟨w1, hw1⟩ : ∃ w1, (w.alloc (.deferred (some []))).alloc (.loop (rec .ready none)) = w1 := ⟨_, rfl⟩
  have hm : Mem w0 M (((dB D :: lB l (rec .ready none) :: Lu s0) ++ Li) ++ Lk) w1 := by
    have h1 := (hS1.allocO (.deferred (some []))).allocO (.loop (rec .ready none))
    rw [← hw1]
    refine Mem.perm ?_ h1
    simp only [List.flatten_append, List.flatten_cons, dB, lB, hD, hl, List.cons_append, List.nil_append, List.append_assoc, Array.size_push]
    exact List.Perm.swap _ _ _
  let U : σ × Option Code → List Blk := fun s => dB D ++ lB l (rec (if s.2.isNone then .ready else .done) s.2) ++ (Lu s.1).flatten
  have hU : ∀ (s : σ) (pe : Option Code) (R : List (List Blk)), (U (s, pe) :: R).flatten = ((dB D :: lB l (rec (if pe.isNone then .ready else .done) pe) :: Lu s) ++ R).flatten := fun s pe R => by
    simp [U, List.flatten_append]
  obtain ⟨M1, hM1⟩ : ∃ M1, M1 = ((dB D :: lB l (rec .ready none) :: Lu s0) ++ Li).flatten.map (·.b) := ⟨_, rfl⟩
  have hloc : Mem w1 M1 (U (s0, none) :: Li) w1 := by
    rw [hM1]; exact (Mem.local hm).flat (hU s0 none Li).symm
  have hsubM : ∀ k ∈ M1, k ∈ (U (s0, none) :: Li).flatten.map (·.b) := fun k hk => by
    rw [hU s0 none Li]; rw [hM1] at hk; exact hk
  have hback : ∀ {LL' : List (List Blk)} {w' : World}, Mem w1 M1 LL' w' → Mem w0 M (LL' ++ Lk) w' := fun h => Mem.back hm (by rw [hM1] at h; exact h)
  have hkp : Keeps w0 M w1 M1 := fun a cs hat hne => by
    have h2 := At.into (L := (dB D :: lB l (rec .ready none) :: Lu s0) ++ Li) (R := Lk) hat hne hm
    rw [hM1]; exact h2
  refine ⟨l, [mk D], w1, { target := .fn (.func k) lb, args := #[.func (.yield l) #[] #[]] }, w1, k, #[.func (.yield l) #[] #[]] ++ lb, w1, ?_, ?_, fun _ _ => trivial, ?_, fun h => (by cases h), ?_⟩
  · rw [← hw1, hrec, hl]; simp only [mk, hD]; exact run_enterLoop_outer _ _ _ _ _
  · simp only [resolve, Fr_eval, hg]
    simp [go_sem]; rfl
  · simp [invoke, go_sem, hk]
  have hI := hit D l _ w1 hm
  rw [← hM1] at hI
  refine callsIn_of (Calls.mono (hI (σ × Option Code) l U (fun i s => Φ i s.1 ∧ s.2 = none) (fun s => ∃ c, s.2 = some c ∧ Ψ c s.1) (s0, none) ?_ ⟨h0, rfl⟩ hloc hsubM) ?_)
  · rintro i ⟨s, pe⟩ R ub Mub hiN ⟨hΦ, hpe⟩ hkb u hu
    simp only at hpe hΦ; subst hpe
    have hul : u.heap[l]? = some (.loop (rec .ready none)) := hu.at (i := 0) (j := 1) (p := ⟨l, _⟩) rfl rfl
    obtain ⟨Mu, hMu⟩ : ∃ Mu, Mu = (U (s, none)).map (·.b) := ⟨_, rfl⟩
    have hloc2 : Mem u Mu (dB D :: lB l (rec .ready none) :: Lu s) u := by
      have h1 : Mem u Mu [U (s, none)] u := by rw [hMu]; exact hu.one (i := 0) rfl
      exact h1.flat (by have := hU s none []; simpa using this)
    have hback2 : ∀ {s' : σ} {pe : Option Code} {w' : World}, Mem u Mu (dB D :: lB l (rec (if pe.isNone then .ready else .done) pe) :: Lu s') w' → Mem ub Mub (U (s', pe) :: R) w' := fun {s' pe w'} h => by
      have h1 : Mem u ([U (s, none)].flatten.map (·.b)) [U (s', pe)] w' := by
        simp only [List.flatten_cons, List.flatten_nil, List.append_nil]; rw [← hMu]
        exact h.flat (by have := hU s' pe []; simpa using this.symm)
      exact Mem.back (LL := [U (s, none)]) (R := R) hu h1
    refine ⟨.round l fn ((ps.zip (enc i).toArray).foldl (fun t (p : Nat × Value) => t.setIfInBounds p.1 p.2) (Fr n ds f).tmps) assign body, ?_, ?_⟩
    · have := run_yield (P := P) (args := (enc i).toArray) hul (by rw [hrec]; simp only [List.size_toArray]; rw [henc, ← hps]; simp)
      rw [hrec] at this
      simp only [callv, Deferred.ofValue, Sem.run_bind]
      simp [go_sem, invoke, this]
    refine roundIn_of_wpIn (F := fence none) trivial ?_
    have et : (ps.zip (enc i).toArray).foldl (fun t (p : Nat × Value) => t.setIfInBounds p.1 p.2) (Fr n ds f).tmps = (Fr n [] ((psl.zip (enc i)).foldl (fun f p => upd f p.1 p.2) f)).tmps := by
      rw [← tmps_fold (ds := ds), ← hps]
      rw [← Array.foldl_toList, Array.toList_zip]
    rw [et]
    refine hbody D l (rec .ready none) (rec .busy none) i s u Mu _ hiN hΦ ?_ ?_ u hloc2
    · intro a cs hat hne
      obtain ⟨h1, h2⟩ := hkp.trans hkb a cs hat hne
      have h3 := At.into (L := [U (s, none)]) (R := R) h1 h2 (by simpa using hu)
      rw [hMu]; simpa using h3
    intro f' L' hW w' hm'
    have hl' : w'.heap[l]? = some (.loop (rec .ready none)) := hm'.at (i := 1) (j := 0) (p := ⟨l, _⟩) rfl rfl
    have hlt' := (Array.getElem?_eq_some_iff.1 hl').1
    refine ⟨w'.putObj l (.loop (rec .busy none)), ?_, ?_⟩
    · have := run_beginRound (P := P) hl' (by rw [hrec]); rw [this, hrec]
    have hm2 : Mem u Mu (dB D :: lB l (rec .busy none) :: L') (w'.putObj l (.loop (rec .busy none))) :=
      hm'.putO (s := lB l (rec .ready none)) (i := 1) (j := 0) rfl rfl rfl rfl rfl (by simp) (fun k _ hk => World.putObj_heap_other hk) (World.putObj_heap_same hlt')
    refine wpIn_mono (hW _ hm2) ?_
    have fin : ∀ (jump : Option Code) (s' : σ) (w3 : World), Mem u Mu (dB D :: lB l (rec .busy none) :: Lu s') w3 →
        (Instr.endRound l jump).run P w3 = .ok (.bool jump.isNone) (w3.putObj l (.loop (rec (if jump.isNone then .ready else .done) jump))) ∧
        Mem ub Mub (U (s', jump) :: R) (w3.putObj l (.loop (rec (if jump.isNone then .ready else .done) jump))) := fun jump s' w3 h3 => by
      have hl3 : w3.heap[l]? = some (.loop (rec .busy none)) := h3.at (i := 1) (j := 0) (p := ⟨l, _⟩) rfl rfl
      have hlt3 := (Array.getElem?_eq_some_iff.1 hl3).1
      refine ⟨?_, hback2 ?_⟩
      · have := run_endRound (P := P) jump hl3; rw [this, hrec]
      · exact h3.putO (s := lB l (rec .busy none)) (i := 1) (j := 0) rfl rfl rfl rfl rfl (by simp) (fun k _ hk => World.putObj_heap_other hk) (World.putObj_heap_same hlt3)
    rintro e a3 w3 hp
    cases e with
    | normal =>
      obtain ⟨s', hs', h3⟩ := hp
      obtain ⟨hr, h4⟩ := fin none s' w3 h3
      exact ⟨_, _, hr, true, rfl, (s', none), ⟨hs', rfl⟩, h4⟩
    | ret =>
      obtain ⟨s', hs', h3⟩ := hp
      obtain ⟨hr, h4⟩ := fin (some .ret) s' w3 h3
      exact ⟨_, _, hr, false, rfl, (s', some .ret), ⟨_, rfl, hs'⟩, h4⟩
    | exit id =>
      obtain ⟨s', hs', h3⟩ := hp
      obtain ⟨hr, h4⟩ := fin (some (.exit id)) s' w3 h3
      exact ⟨_, _, hr, false, rfl, (s', some (.exit id)), ⟨_, rfl, hs'⟩, h4⟩
    | goto t => exact hp.elim
    | panic ch => exact hp.elim
    | outgrown => exact hp.elim
  · rintro e w2 ⟨⟨s, pe⟩, hor, rfl, hm2⟩
    have hl2 : w2.heap[l]? = some (.loop (rec (if pe.isNone then .ready else .done) pe)) := hm2.at (i := 0) (j := 1) (p := ⟨l, _⟩) rfl rfl
    have hlt2 := (Array.getElem?_eq_some_iff.1 hl2).1
    have he : (Instr.endLoop l).run P w2 = .ok pe (w2.putObj l (.loop (rec .exhausted pe))) := by
      have := run_endLoop (P := P) hl2 (by rw [hrec]; cases pe <;> simp); rw [this, hrec]
    have h3 : Mem w0 M (((dB D :: lB l (rec .exhausted pe) :: Lu s) ++ Li) ++ Lk) (w2.putObj l (.loop (rec .exhausted pe))) := by
      have h1 : Mem w0 M (((dB D :: lB l (rec (if pe.isNone then .ready else .done) pe) :: Lu s) ++ Li) ++ Lk) w2 := (hback hm2).flat (by rw [List.flatten_append, hU s pe Li, ← List.flatten_append])
      exact h1.putO (s := lB l (rec (if pe.isNone then .ready else .done) pe)) (i := 1) (j := 0) rfl rfl rfl rfl rfl (by simp) (fun k _ hk => World.putObj_heap_other hk) (World.putObj_heap_same hlt2)
    refine ⟨pe, _, he, ?_⟩
    rcases hor with ⟨hΦ, hpe⟩ | ⟨c, hpe, hΨ⟩
    · simp only at hpe hΦ; subst hpe
      exact hdone D l _ s hΦ _ h3
    · simp only at hpe hΨ; subst hpe
      exact hstop D l _ c s hΨ _ h3
end
end Go.Proofs.Ytjkhmbigoloeiaa.Base
