/-
  Ranges over functions within loops: deferred marks that come up round by round; iterators that change what they hold. No condition.
-/
import Derived.Test.YtnhmajdpjapgjaaDoorVM
set_option linter.unusedVariables false
set_option linter.unusedSimpArgs false
namespace Go.Proofs.YtnhmajdpjapgjaaDoor.Base
open Go.RowKit
section
variable {σ : Type} {r : Option Nat} {P : Program} {n : Nat} {ds : List Deferred} {f : Nat → Value} {S : World → Prop} {Q : Exit → Act → World → Prop} {o : Oper} {d : Nat} {w0 : World} {M : List Nat} {LL : List (List Blk)} {yv : Value} {args : Array Value}
/-- An iterator that may change what it holds: nothing is told of that behind it. -/
def Iter3 (P : Program) (k : FuncId) (lb : Array Value) (enc : Nat → List Value) (N : Nat) (Li : List (List Blk)) (w1 : World) (M : List Nat) : Prop :=
  ∀ (τ : Type) (yv : Value) (U : τ → List Blk) (Φ : Nat → τ → Prop) (Ψ : τ → Prop) (s0 : τ),
    (∀ i s (R : List (List Blk)) (u : World) (Mu : List Nat), i < N → Φ i s → Keeps w1 M u Mu → Yld P yv (enc i).toArray (Mem u Mu (U s :: R)) (fun b w => ∃ s', (bif b then Φ (i + 1) s' else Ψ s') ∧ Mem u Mu (U s' :: R) w)) →
    Φ 0 s0 → Mem w1 M (U s0 :: Li) w1 → (∀ k ∈ M, k ∈ (U s0 :: Li).flatten.map (·.b)) → Calls P k (#[yv] ++ lb) w1 (RetM w1 (fun s => Φ N s ∨ Ψ s) (fun _ => .tuple #[]) M (fun s => [U s]))
/-- **A range over a function**, at an outermost loop; what the iterator held is let go. -/
theorem W.range3 {Q : Exit → Act → World → Prop} {g : Operand} {ps : Array Tmp} {assign body : Code} {k : FuncId} {lb : Array Value} {enc : Nat → List Value} {N : Nat} {Lu : σ → List (List Blk)} {Li Lk : List (List Blk)}
    (is js ks : List Nat) (s0 : σ) (Φ : Nat → σ → Prop) (Ψ : Code → σ → Prop) (psl : List Nat)
    (hg : ev n f g = .func (.func k) #[] lb) (hk : ∀ x w, (callFunc k x).run P w = .ok (.enter k x) w)
    (hnd : (is ++ js ++ ks).Nodup) (hi : pickL LL is = Lu s0) (hj : pickL LL js = Li) (hkk : pickL LL ks = Lk)
    (hps : ps.toList = psl) (henc : ∀ i, (enc i).length = psl.length) (h0 : Φ 0 s0)
    (hit : ∀ (D l : Nat) (ob : Loop) (w1 : World), Mem w0 M (((dB D :: lB l ob :: Lu s0) ++ Li) ++ Lk) w1 → Iter3 P k lb enc N Li w1 (((dB D :: lB l ob :: Lu s0) ++ Li).flatten.map (·.b)))
    (hbody : ∀ (D l : Nat) (ob ob' : Loop) (i : Nat) (s : σ) (u : World) (Mu : List Nat) (J : Act → World → Prop), i < N → Φ i s → Keeps w0 M u Mu →
      (∀ f' L', W (some l) P (RQ u Mu D l ob' Lu (Φ (i + 1)) Ψ) body n [] f' (Mem u Mu (dB D :: lB l ob' :: L')) → ∀ w', Mem u Mu (dB D :: lB l ob :: L') w' → J (Fr n [] f') w') →
      W (some l) P (Exit.then J NoExit) assign n [] ((psl.zip (enc i)).foldl (fun f p => upd f p.1 p.2) f) (Mem u Mu (dB D :: lB l ob :: Lu s)))
    (hdone : ∀ (D l : Nat) (ob : Loop) (s : σ), Φ N s → ∀ w, Mem w0 M ((dB D :: lB l ob :: Lu s) ++ Lk) w → Q .normal (Fr n (mk D :: ds) f) w)
    (hstop : ∀ (D l : Nat) (ob : Loop) (c : Code) (s : σ), Ψ c s → W none P Q c n (mk D :: ds) f (Mem w0 M ((dB D :: lB l ob :: Lu s) ++ Lk))) :
    W none P Q (.rangeFunc g ps assign body) n ds f (Mem w0 M LL) := fun w hS => by
  have hS1 : Mem w0 M (Lu s0 ++ Li ++ Lk) w := hS.pick (is ++ js ++ ks) hnd (by rw [← hi, ← hj, ← hkk]; simp [pickL])
  refine wpIn_rangeFunc ?_
  intro fn _
  obtain ⟨rec, hrec⟩ : ∃ rec : LoopState → Option Code → Loop, rec = fun st pe => { state := st, pending := pe, fn, tmps := (Fr n ds f).tmps, params := ps, assign, body, defers := w.heap.size } := ⟨_, rfl⟩
  obtain ⟨D, hD⟩ : ∃ D, D = w.heap.size := ⟨_, rfl⟩
  obtain ⟨l, hl⟩ : ∃ l, l = w.heap.size + 1 := ⟨_, rfl⟩
  obtain ⟨w1, hw1⟩ : ∃ w1, (w.alloc (.deferred (some []))).alloc (.loop (rec .ready none)) = w1 := ⟨_, rfl⟩
  have hm : Mem w0 M (((dB D :: lB l (rec .ready none) :: Lu s0) ++ Li) ++ Lk) w1 := by
    have h1 := (hS1.allocO (.deferred (some []))).allocO (.loop (rec .ready none))
    rw [← hw1]
    refine Mem.perm ?_ h1
    simp only [List.flatten_append, List.flatten_cons, dB, lB, hD, hl, List.cons_append, List.nil_append, List.append_assoc, Array.size_push]
    exact List.Perm.swap _ _ _
  let U : σ × Option Code → List Blk := fun s => dB D ++ lB l (rec (if s.2.isNone then .ready else .done) s.2) ++ (Lu s.1).flatten
  have hU : ∀ (s : σ) (pe : Option Code) (R : List (List Blk)), (U (s, pe) :: R).flatten = ((dB D :: lB l (rec (if pe.isNone then .ready else .done) pe) :: Lu s) ++ R).flatten := fun s pe R => by
    simp [U, List.flatten_append]
  obtain ⟨M1, hM1⟩ : ∃ M1, M1 = ((dB D :: lB l (rec .ready none) :: Lu s0) ++ Li).flatten.map (·.b) := ⟨_, rfl⟩
  have hloc : Mem w1 M1 (U (s0, none) :: Li) w1 := by
    rw [hM1]; exact (Mem.local hm).flat (hU s0 none Li).symm
  have hsubM : ∀ k ∈ M1, k ∈ (U (s0, none) :: Li).flatten.map (·.b) := fun k hk => by
    rw [hU s0 none Li]; rw [hM1] at hk; exact hk
  have hback : ∀ {LL' : List (List Blk)} {w' : World}, Mem w1 M1 LL' w' → Mem w0 M (LL' ++ Lk) w' := fun h => Mem.back hm (by rw [hM1] at h; exact h)
  have hkp : Keeps w0 M w1 M1 := fun a cs hat hne => by
    have h2 := At.into (L := (dB D :: lB l (rec .ready none) :: Lu s0) ++ Li) (R := Lk) hat hne hm
    rw [hM1]; exact h2
  refine ⟨l, [mk D], w1, { target := .fn (.func k) lb, args := #[.func (.yield l) #[] #[]] }, w1, k, #[.func (.yield l) #[] #[]] ++ lb, w1, ?_, ?_, fun _ _ => trivial, ?_, fun h => (by cases h), ?_⟩
  · rw [← hw1, hrec, hl]; simp only [mk, hD]; exact run_enterLoop_outer _ _ _ _ _
  · simp only [resolve, Fr_eval, hg]
    simp [go_sem]; rfl
  · simp [invoke, go_sem, hk]
  have hI := hit D l _ w1 hm
  rw [← hM1] at hI
  refine callsIn_of (Calls.mono (hI (σ × Option Code) (.func (.yield l) #[] #[]) U (fun i s => Φ i s.1 ∧ s.2 = none) (fun s => ∃ c, s.2 = some c ∧ Ψ c s.1) (s0, none) ?_ ⟨h0, rfl⟩ hloc hsubM) ?_)
  · rintro i ⟨s, pe⟩ R ub Mub hiN ⟨hΦ, hpe⟩ hkb u hu
    simp only at hpe hΦ; subst hpe
    have hul : u.heap[l]? = some (.loop (rec .ready none)) := hu.at (i := 0) (j := 1) (p := ⟨l, _⟩) rfl rfl
    obtain ⟨Mu, hMu⟩ : ∃ Mu, Mu = (U (s, none)).map (·.b) := ⟨_, rfl⟩
    have hloc2 : Mem u Mu (dB D :: lB l (rec .ready none) :: Lu s) u := by
      have h1 : Mem u Mu [U (s, none)] u := by rw [hMu]; exact hu.one (i := 0) rfl
      exact h1.flat (by have := hU s none []; simpa using this)
    have hback2 : ∀ {s' : σ} {pe : Option Code} {w' : World}, Mem u Mu (dB D :: lB l (rec (if pe.isNone then .ready else .done) pe) :: Lu s') w' → Mem ub Mub (U (s', pe) :: R) w' := fun {s' pe w'} h => by
      have h1 : Mem u ([U (s, none)].flatten.map (·.b)) [U (s', pe)] w' := by
        simp only [List.flatten_cons, List.flatten_nil, List.append_nil]; rw [← hMu]
        exact h.flat (by have := hU s' pe []; simpa using this.symm)
      exact Mem.back (LL := [U (s, none)]) (R := R) hu h1
    refine ⟨.round l fn ((ps.zip (enc i).toArray).foldl (fun t (p : Nat × Value) => t.setIfInBounds p.1 p.2) (Fr n ds f).tmps) assign body, ?_, ?_⟩
    · have := run_yield (P := P) (args := (enc i).toArray) hul (by rw [hrec]; simp only [List.size_toArray]; rw [henc, ← hps]; simp)
      rw [hrec] at this
      simp only [callv, Deferred.ofValue, Sem.run_bind]
      simp [go_sem, invoke, this]
    refine roundIn_of_wpIn (F := fence none) trivial ?_
    have et : (ps.zip (enc i).toArray).foldl (fun t (p : Nat × Value) => t.setIfInBounds p.1 p.2) (Fr n ds f).tmps = (Fr n [] ((psl.zip (enc i)).foldl (fun f p => upd f p.1 p.2) f)).tmps := by
      rw [← tmps_fold (ds := ds), ← hps]
      rw [← Array.foldl_toList, Array.toList_zip]
    rw [et]
    refine hbody D l (rec .ready none) (rec .busy none) i s u Mu _ hiN hΦ ?_ ?_ u hloc2
    · intro a cs hat hne
      obtain ⟨h1, h2⟩ := hkp.trans hkb a cs hat hne
      have h3 := At.into (L := [U (s, none)]) (R := R) h1 h2 (by simpa using hu)
      rw [hMu]; simpa using h3
    intro f' L' hW w' hm'
    have hl' : w'.heap[l]? = some (.loop (rec .ready none)) := hm'.at (i := 1) (j := 0) (p := ⟨l, _⟩) rfl rfl
    have hlt' := (Array.getElem?_eq_some_iff.1 hl').1
    refine ⟨w'.putObj l (.loop (rec .busy none)), ?_, ?_⟩
    · have := run_beginRound (P := P) hl' (by rw [hrec]); rw [this, hrec]
    have hm2 : Mem u Mu (dB D :: lB l (rec .busy none) :: L') (w'.putObj l (.loop (rec .busy none))) :=
      hm'.putO (s := lB l (rec .ready none)) (i := 1) (j := 0) rfl rfl rfl rfl rfl (by simp) (fun k _ hk => World.putObj_heap_other hk) (World.putObj_heap_same hlt')
    refine wpIn_mono (hW _ hm2) ?_
    have fin : ∀ (jump : Option Code) (s' : σ) (w3 : World), Mem u Mu (dB D :: lB l (rec .busy none) :: Lu s') w3 →
        (Instr.endRound l jump).run P w3 = .ok (.bool jump.isNone) (w3.putObj l (.loop (rec (if jump.isNone then .ready else .done) jump))) ∧
        Mem ub Mub (U (s', jump) :: R) (w3.putObj l (.loop (rec (if jump.isNone then .ready else .done) jump))) := fun jump s' w3 h3 => by
      have hl3 : w3.heap[l]? = some (.loop (rec .busy none)) := h3.at (i := 1) (j := 0) (p := ⟨l, _⟩) rfl rfl
      have hlt3 := (Array.getElem?_eq_some_iff.1 hl3).1
      refine ⟨?_, hback2 ?_⟩
      · have := run_endRound (P := P) jump hl3; rw [this, hrec]
      · exact h3.putO (s := lB l (rec .busy none)) (i := 1) (j := 0) rfl rfl rfl rfl rfl (by simp) (fun k _ hk => World.putObj_heap_other hk) (World.putObj_heap_same hlt3)
    rintro e a3 w3 hp
    cases e with
    | normal =>
      obtain ⟨s', hs', h3⟩ := hp
      obtain ⟨hr, h4⟩ := fin none s' w3 h3
      exact ⟨_, _, hr, true, rfl, (s', none), ⟨hs', rfl⟩, h4⟩
    | ret =>
      obtain ⟨s', hs', h3⟩ := hp
      obtain ⟨hr, h4⟩ := fin (some .ret) s' w3 h3
      exact ⟨_, _, hr, false, rfl, (s', some .ret), ⟨_, rfl, hs'⟩, h4⟩
    | exit id =>
      obtain ⟨s', hs', h3⟩ := hp
      obtain ⟨hr, h4⟩ := fin (some (.exit id)) s' w3 h3
      exact ⟨_, _, hr, false, rfl, (s', some (.exit id)), ⟨_, rfl, hs'⟩, h4⟩
    | goto t => exact hp.elim
    | panic ch => exact hp.elim
    | outgrown => exact hp.elim
  · rintro e w2 ⟨⟨s, pe⟩, hor, rfl, hm2⟩
    have hl2 : w2.heap[l]? = some (.loop (rec (if pe.isNone then .ready else .done) pe)) := hm2.at (i := 0) (j := 1) (p := ⟨l, _⟩) rfl rfl
    have hlt2 := (Array.getElem?_eq_some_iff.1 hl2).1
    have he : (Instr.endLoop l).run P w2 = .ok pe (w2.putObj l (.loop (rec .exhausted pe))) := by
      have := run_endLoop (P := P) hl2 (by rw [hrec]; cases pe <;> simp); rw [this, hrec]
    have h3 : Mem w0 M ((dB D :: lB l (rec .exhausted pe) :: Lu s) ++ Lk) (w2.putObj l (.loop (rec .exhausted pe))) := by
      have h1 : Mem w0 M ((dB D :: lB l (rec (if pe.isNone then .ready else .done) pe) :: Lu s) ++ Lk) w2 := (hback hm2).flat (by rw [List.flatten_append, hU s pe [], List.append_nil, ← List.flatten_append])
      exact h1.putO (s := lB l (rec (if pe.isNone then .ready else .done) pe)) (i := 1) (j := 0) rfl rfl rfl rfl rfl (by simp) (fun k _ hk => World.putObj_heap_other hk) (World.putObj_heap_same hlt2)
    refine ⟨pe, _, he, ?_⟩
    rcases hor with ⟨hΦ, hpe⟩ | ⟨c, hpe, hΨ⟩
    · simp only at hpe hΦ; subst hpe
      exact hdone D l _ s hΦ _ h3
    · simp only at hpe hΨ; subst hpe
      exact hstop D l _ c s hΨ _ h3
/-- A loop in which deferred marks come up: the relation bears a ghost g, the measure hangs on g alone. -/
theorem W.loopD {c : Code} {γ : Type} (F : γ → List (Nat × Value)) (E : γ → List Deferred) (T : γ → World → Prop) (μ : γ → Nat) (g0 : γ) (hE : E g0 = ds) (h0 : Holds f (F g0)) (hS : ∀ w, S w → T g0 w)
    (round : ∀ (g : γ) (f' : Nat → Value) (J : Act → World → Prop), (∀ g' f'' w, μ g' < μ g → Holds f'' (F g') → T g' w → J (Fr n (E g') f'') w) → W r P (Exit.then J Q) c n (E g) (upds (F g) f') (T g)) :
    W r P Q (.loop c) n ds f S := fun w hw => by
  classical
  let I : Act → World → Prop := fun a w => ∃ g f', a = Fr n (E g) (upds (F g) f') ∧ T g w
  let p : Act → World → Nat → Prop := fun a w k => ∃ g f', a = Fr n (E g) (upds (F g) f') ∧ T g w ∧ μ g = k
  have least : ∀ q : Nat → Prop, (∃ k, q k) → ∃ k, q k ∧ ∀ j, q j → k ≤ j := fun q ⟨k, hk⟩ => by
    induction k using Nat.strongRecOn with
    | _ k ih =>
      by_cases h : ∃ j, j < k ∧ q j
      · obtain ⟨j, hj, hq⟩ := h; exact ih j hj hq
      · exact ⟨k, hk, fun j hj => Nat.le_of_not_lt fun hlt => h ⟨j, hlt, hj⟩⟩
  let m : Act → World → Nat := fun a w => if h : ∃ k, p a w k then Classical.choose (least _ h) else 0
  have hm : ∀ a w, I a w → ∃ g f', a = Fr n (E g) (upds (F g) f') ∧ T g w ∧ μ g = m a w := fun a w ⟨g, f', ha, hT⟩ => by
    have h : ∃ k, p a w k := ⟨μ g, g, f', ha, hT, rfl⟩
    have := (Classical.choose_spec (least _ h)).1
    simp only [m, dif_pos h]
    exact this
  have hle : ∀ g f' w, T g w → m (Fr n (E g) (upds (F g) f')) w ≤ μ g := fun g f' w hT => by
    have h : ∃ k, p (Fr n (E g) (upds (F g) f')) w k := ⟨μ g, g, f', rfl, hT, rfl⟩
    simp only [m, dif_pos h]
    exact (Classical.choose_spec (least _ h)).2 _ ⟨g, f', rfl, hT, rfl⟩
  refine wpIn_loop I m ⟨g0, f, by rw [upds_holds h0, hE], hS w hw⟩ fun a w' hI => ?_
  obtain ⟨g, f', rfl, hT, hμ⟩ := hm a w' hI
  refine round g f' _ (fun g' f'' w'' hlt hF hT' => ?_) w' hT
  have e : Fr n (E g') f'' = Fr n (E g') (upds (F g') f'') := by rw [upds_holds hF]
  refine ⟨⟨g', f'', e, hT'⟩, ?_⟩
  have := hle g' f'' w'' hT'
  rw [← e] at this
  omega

theorem W.loopD2 {c : Code} {γ1 γ2 : Type} (ks : List Nat) (vs : γ1 → γ2 → List Value) (Φ : γ1 → γ2 → Prop) (Lf : γ1 → γ2 → List (List Blk)) (μ : γ1 → γ2 → Nat) (E : γ1 → γ2 → List Deferred) (i1 : γ1) (i2 : γ2) (hE : E i1 i2 = ds) (h0 : ks.map f = vs i1 i2) (hΦ : Φ i1 i2) (hL : LL = Lf i1 i2)
    (round : ∀ g1 g2, ∀ f' J, Φ g1 g2 → (∀ g1' g2' f'' w, μ g1' g2' < μ g1 g2 → Φ g1' g2' → ks.map f'' = vs g1' g2' → Mem w0 M (Lf g1' g2') w → J (Fr n (E g1' g2') f'') w) → W r P (Exit.then J Q) c n (E g1 g2) (upds (ks.zip (vs g1 g2)) f') (Mem w0 M (Lf g1 g2))) :
    W r P Q (.loop c) n ds f (Mem w0 M LL) :=
  W.loopD (γ := γ1 × γ2) (fun g => ks.zip (vs (g.1) (g.2))) (fun g => E (g.1) (g.2)) (fun g w => Mem w0 M (Lf (g.1) (g.2)) w ∧ Φ (g.1) (g.2)) (fun g => μ (g.1) (g.2)) (i1, i2) hE (holds_of h0) (fun w hS => ⟨hL ▸ hS, hΦ⟩) fun g f' J hJ =>
    W.and fun hφ => round (g.1) (g.2) f' J hφ fun g1' g2' f'' w hμ hφ' hk hm => hJ (g1', g2') f'' w hμ (holds_of hk) ⟨hm, hφ'⟩

theorem W.loopD3 {c : Code} {γ1 γ2 γ3 : Type} (ks : List Nat) (vs : γ1 → γ2 → γ3 → List Value) (Φ : γ1 → γ2 → γ3 → Prop) (Lf : γ1 → γ2 → γ3 → List (List Blk)) (μ : γ1 → γ2 → γ3 → Nat) (E : γ1 → γ2 → γ3 → List Deferred) (i1 : γ1) (i2 : γ2) (i3 : γ3) (hE : E i1 i2 i3 = ds) (h0 : ks.map f = vs i1 i2 i3) (hΦ : Φ i1 i2 i3) (hL : LL = Lf i1 i2 i3)
    (round : ∀ g1 g2 g3, ∀ f' J, Φ g1 g2 g3 → (∀ g1' g2' g3' f'' w, μ g1' g2' g3' < μ g1 g2 g3 → Φ g1' g2' g3' → ks.map f'' = vs g1' g2' g3' → Mem w0 M (Lf g1' g2' g3') w → J (Fr n (E g1' g2' g3') f'') w) → W r P (Exit.then J Q) c n (E g1 g2 g3) (upds (ks.zip (vs g1 g2 g3)) f') (Mem w0 M (Lf g1 g2 g3))) :
    W r P Q (.loop c) n ds f (Mem w0 M LL) :=
  W.loopD (γ := γ1 × γ2 × γ3) (fun g => ks.zip (vs (g.1) (g.2.1) (g.2.2))) (fun g => E (g.1) (g.2.1) (g.2.2)) (fun g w => Mem w0 M (Lf (g.1) (g.2.1) (g.2.2)) w ∧ Φ (g.1) (g.2.1) (g.2.2)) (fun g => μ (g.1) (g.2.1) (g.2.2)) (i1, i2, i3) hE (holds_of h0) (fun w hS => ⟨hL ▸ hS, hΦ⟩) fun g f' J hJ =>
    W.and fun hφ => round (g.1) (g.2.1) (g.2.2) f' J hφ fun g1' g2' g3' f'' w hμ hφ' hk hm => hJ (g1', g2', g3') f'' w hμ (holds_of hk) ⟨hm, hφ'⟩

theorem W.loopD4 {c : Code} {γ1 γ2 γ3 γ4 : Type} (ks : List Nat) (vs : γ1 → γ2 → γ3 → γ4 → List Value) (Φ : γ1 → γ2 → γ3 → γ4 → Prop) (Lf : γ1 → γ2 → γ3 → γ4 → List (List Blk)) (μ : γ1 → γ2 → γ3 → γ4 → Nat) (E : γ1 → γ2 → γ3 → γ4 → List Deferred) (i1 : γ1) (i2 : γ2) (i3 : γ3) (i4 : γ4) (hE : E i1 i2 i3 i4 = ds) (h0 : ks.map f = vs i1 i2 i3 i4) (hΦ : Φ i1 i2 i3 i4) (hL : LL = Lf i1 i2 i3 i4)
    (round : ∀ g1 g2 g3 g4, ∀ f' J, Φ g1 g2 g3 g4 → (∀ g1' g2' g3' g4' f'' w, μ g1' g2' g3' g4' < μ g1 g2 g3 g4 → Φ g1' g2' g3' g4' → ks.map f'' = vs g1' g2' g3' g4' → Mem w0 M (Lf g1' g2' g3' g4') w → J (Fr n (E g1' g2' g3' g4') f'') w) → W r P (Exit.then J Q) c n (E g1 g2 g3 g4) (upds (ks.zip (vs g1 g2 g3 g4)) f') (Mem w0 M (Lf g1 g2 g3 g4))) :
    W r P Q (.loop c) n ds f (Mem w0 M LL) :=
  W.loopD (γ := γ1 × γ2 × γ3 × γ4) (fun g => ks.zip (vs (g.1) (g.2.1) (g.2.2.1) (g.2.2.2))) (fun g => E (g.1) (g.2.1) (g.2.2.1) (g.2.2.2)) (fun g w => Mem w0 M (Lf (g.1) (g.2.1) (g.2.2.1) (g.2.2.2)) w ∧ Φ (g.1) (g.2.1) (g.2.2.1) (g.2.2.2)) (fun g => μ (g.1) (g.2.1) (g.2.2.1) (g.2.2.2)) (i1, i2, i3, i4) hE (holds_of h0) (fun w hS => ⟨hL ▸ hS, hΦ⟩) fun g f' J hJ =>
    W.and fun hφ => round (g.1) (g.2.1) (g.2.2.1) (g.2.2.2) f' J hφ fun g1' g2' g3' g4' f'' w hμ hφ' hk hm => hJ (g1', g2', g3', g4') f'' w hμ (holds_of hk) ⟨hm, hφ'⟩

theorem W.loopD5 {c : Code} {γ1 γ2 γ3 γ4 γ5 : Type} (ks : List Nat) (vs : γ1 → γ2 → γ3 → γ4 → γ5 → List Value) (Φ : γ1 → γ2 → γ3 → γ4 → γ5 → Prop) (Lf : γ1 → γ2 → γ3 → γ4 → γ5 → List (List Blk)) (μ : γ1 → γ2 → γ3 → γ4 → γ5 → Nat) (E : γ1 → γ2 → γ3 → γ4 → γ5 → List Deferred) (i1 : γ1) (i2 : γ2) (i3 : γ3) (i4 : γ4) (i5 : γ5) (hE : E i1 i2 i3 i4 i5 = ds) (h0 : ks.map f = vs i1 i2 i3 i4 i5) (hΦ : Φ i1 i2 i3 i4 i5) (hL : LL = Lf i1 i2 i3 i4 i5)
    (round : ∀ g1 g2 g3 g4 g5, ∀ f' J, Φ g1 g2 g3 g4 g5 → (∀ g1' g2' g3' g4' g5' f'' w, μ g1' g2' g3' g4' g5' < μ g1 g2 g3 g4 g5 → Φ g1' g2' g3' g4' g5' → ks.map f'' = vs g1' g2' g3' g4' g5' → Mem w0 M (Lf g1' g2' g3' g4' g5') w → J (Fr n (E g1' g2' g3' g4' g5') f'') w) → W r P (Exit.then J Q) c n (E g1 g2 g3 g4 g5) (upds (ks.zip (vs g1 g2 g3 g4 g5)) f') (Mem w0 M (Lf g1 g2 g3 g4 g5))) :
    W r P Q (.loop c) n ds f (Mem w0 M LL) :=
  W.loopD (γ := γ1 × γ2 × γ3 × γ4 × γ5) (fun g => ks.zip (vs (g.1) (g.2.1) (g.2.2.1) (g.2.2.2.1) (g.2.2.2.2))) (fun g => E (g.1) (g.2.1) (g.2.2.1) (g.2.2.2.1) (g.2.2.2.2)) (fun g w => Mem w0 M (Lf (g.1) (g.2.1) (g.2.2.1) (g.2.2.2.1) (g.2.2.2.2)) w ∧ Φ (g.1) (g.2.1) (g.2.2.1) (g.2.2.2.1) (g.2.2.2.2)) (fun g => μ (g.1) (g.2.1) (g.2.2.1) (g.2.2.2.1) (g.2.2.2.2)) (i1, i2, i3, i4, i5) hE (holds_of h0) (fun w hS => ⟨hL ▸ hS, hΦ⟩) fun g f' J hJ =>
    W.and fun hφ => round (g.1) (g.2.1) (g.2.2.1) (g.2.2.2.1) (g.2.2.2.2) f' J hφ fun g1' g2' g3' g4' g5' f'' w hμ hφ' hk hm => hJ (g1', g2', g3', g4', g5') f'' w hμ (holds_of hk) ⟨hm, hφ'⟩
/-- An array's element at a place. -/
theorem Ys.indexVal {n : Nat} {t e : TypeId} {x ix : Operand} {k : IntKind} {cs : List Value} {i len : Nat} {v : Value} (hop : o.op = .index t x ix) (hx : ev n f x = .agg cs.toArray) (hi : ev n f ix = .int k ((i : Nat) : Int)) (hu : ∀ w, (underlying t).run P w = .ok (.array len e) w)
    (hz : ∀ w, (sizeOf e).run P w = .ok 1 w) (ha : ∀ w, (isAgg e).run P w = .ok false w) (hl : i < len) (hc : cs[i]? = some v) : Ys P n S f o v := Ys.pure fun w => by
  have h0 : (0 : Int) ≤ ((i : Nat) : Int) ∧ ((i : Nat) : Int) < ((len : Nat) : Int) := by omega
  simp [execOp, hop, hx, hi, Instr.index, asIntOf, hu, h0, hz, part, ha, hc, hl]
/-- The marks that ranges have left, and their blocks. -/
abbrev dBs (es : List Nat) : List Blk := es.map fun D => ⟨D, .deferred (some [])⟩
theorem leaves_marks {fn : Func} {R : Ending → World → Prop} {X : World → Prop} (hX : ∀ w, Mem w0 M LL w → X w) (h : ∀ w, X w → Fin P fn R (Fr n [] f) w) : ∀ (es : List Nat) (w : World), Mem w0 M (dBs es :: LL) w → LeavesInM (fence none) 0 P fn (Fr n [] f).tmps R (es.map mk) .returning w
  | [], w, hm => h w (hX w (hm.flat (by simp)))
  | D :: es, w, hm => by
    have h1 : Mem w0 M ([⟨D, .deferred (some [])⟩] :: dBs es :: LL) w := hm.flat (by simp [dBs])
    obtain ⟨h2, h3⟩ := h1.mark (i := 0) rfl
    refine ⟨by simp, .inl ⟨D, _, rfl, run_takeDeferred h2, leaves_marks hX h es _ ?_⟩⟩
    have h4 : Mem0 w0 M (⟨D, .deferred none⟩ :: (dBs es :: LL).flatten) _ := h3
    exact Mem0.sub h4 (fun p hp => List.mem_cons_of_mem _ hp) (List.nodup_cons.1 h4.nodup).2
theorem fin_marks {fn : Func} {R : Ending → World → Prop} {es : List Nat} {w : World} (hm : Mem w0 M (dBs es :: LL) w) (h : ∀ w, Mem w0 M LL w → Fin P fn R (Fr n [] f) w) : bodyPostM (fence none) 0 P fn R .ret (Fr n (es.map mk) f) w :=
  leaves_marks (fun _ h => h) h es w hm
end
end Go.Proofs.YtnhmajdpjapgjaaDoor.Base
