import Derived.Test.YtjkhmbigoloeiaaJVL
set_option linter.unusedVariables false
set_option linter.unusedSimpArgs false
namespace Go.Proofs.Ytjkhmbigoloeiaa.Base
open Go.RowKit
theorem putAt_left {cs r vs : List Value} {o : Nat} (h : o + vs.length ≤ cs.length) : putAt (cs ++ r) o vs = putAt cs o vs ++ r := by
  unfold putAt
  rw [List.take_append_of_le_length (by omega), List.drop_append_of_le_length h]; simp only [List.append_assoc]
theorem mm_putAt {α : Type} {g : α → List Value} {sz : Nat} (hg : ∀ x, (g x).length = sz) (d y : α) {k : Nat} {vs : List Value} (hk : k + vs.length ≤ sz) : ∀ {xs : List α} {i : Nat}, i < xs.length → g y = putAt (g (xs.getD i d)) k vs →
    putAt (mm g xs) (i * sz + k) vs = mm g (xs.set i y)
  | [], i, h, _ => by simp at h
  | x :: xs, 0, _, hy => by
    simp only [List.getD_cons_zero] at hy
    rw [Nat.zero_mul, Nat.zero_add]
    show putAt (g x ++ mm g xs) k vs = g y ++ mm g xs
    rw [hy, putAt_left (by rw [hg]; exact hk)]
  | x :: xs, i + 1, h, hy => by
    simp only [List.getD_cons_succ] at hy
    have ih := mm_putAt hg d y hk (i := i) (by simpa using h) hy
    show putAt (g x ++ mm g xs) _ vs = g x ++ mm g (xs.set i y)
    rw [← ih]
    unfold putAt
    have e : (i + 1) * sz + k = (g x).length + (i * sz + k) := by rw [hg, Nat.add_mul]; omega
    rw [e, List.take_length_add_append, Nat.add_assoc, List.drop_length_add_append]; simp only [List.append_assoc]
theorem mm_getP {α : Type} {g : α → List Value} {sz : Nat} (hg : ∀ x, (g x).length = sz) (d : α) {xs : List α} {k : Nat} (h : k < xs.length) (fo m : Nat) {vs : List Value} (hv : ((g (xs.getD k d)).drop fo).take m = vs) : ∀ j v, vs[j]? = some v → (mm g xs)[k * sz + fo + j]? = some v := fun j v hj => by
  rw [Nat.add_assoc]; exact mm_get hg d h (fo + j) v (lit_sub hv j v hj)
section
variable {r : Option Nat} {P : Program} {S : World → Prop} {n : Nat} {f : Nat → Value} {o : Oper} {v : Value} {w0 w w1 : World} {M : List Nat} {LL LL' L0 : List (List Blk)} {i : Nat} {a : Option Addr} {cs cs' vs : List Value}
theorem Ht.storeFSN {t : TypeId} {x y : Operand} {g : FS} {q k : Nat} {ty : TypeId} (hd : o.dst = none) (hop : o.op = .store t x y) (hx : ev n f x = .pointer (some ((ela g.a q).add k))) (hy : ev n f y = .agg vs.toArray)
    (hz : ∀ w, (sizeOf t).run P w = .ok vs.length w) (hv : ∀ v ∈ vs, v.oneCell' = true) (hn : g.nil = false) (hi : LL[i]? = some (g.seg ty cs)) (ho : q + k + vs.length ≤ cs.length) (hcs : putAt cs (q + k) vs = cs') (hL : LL.set i (g.seg ty cs') = LL') :
    Ht (β := Unit) P n (Mem w0 M LL) f o (fun _ => f) (fun _ => Mem w0 M LL') := by
  rw [FS.seg_own hn] at hi hL
  rw [ela_fs hn, add_lit] at hx
  exact Ht.storeN (o' := q + k) (j := 0) hd hop hx hy hz hv hi rfl (by rw [List.length_append]; omega) (by rw [putAt_left ho, hcs]) (by simpa using hL)
theorem At.of_none (h : At w a cs) (hn : a.isNone = true) : cs.length = 0 := by
  cases cs with
  | nil => rfl
  | cons x l => have := h.here (by simp); rw [this] at hn; cases hn
theorem At.held (hat : At w1 a cs) (h0 : Mem w1 M L0 w1) (hM : ∀ k ∈ M, k ∈ L0.flatten.map (·.b)) (hm : Mem w1 M L0 w) : At w a cs := hat.of_block fun hc => by
  have hlt := hat.lt hc
  by_cases hk : (a.getD default).block ∈ M
  · obtain ⟨p, hp, hb⟩ := List.mem_map.1 (hM _ hk)
    have e1 := Mem0.here hm p hp
    have e0 := Mem0.here h0 p hp
    rw [hb] at e1 e0
    rw [e1, e0]
  · exact Mem0.same hm _ hlt hk
end
section
variable {σ : Type} {r : Option Nat} {P : Program} {n : Nat} {ds : List Deferred} {f : Nat → Value} {S : World → Prop} {o : Oper} {d : Nat} {w0 : World} {M : List Nat} {LL : List (List Blk)} {yv : Value} {args : Array Value}
theorem Yld.pre {T : Bool → World → Prop} {S' : World → Prop} (h : ∀ w, S w → S' w) (hy : Yld P yv args S' T) : Yld P yv args S T := fun w hw => hy w (h w hw)
abbrev Keeps (w0 : World) (M : List Nat) (u : World) (Mu : List Nat) : Prop := ∀ a cs, At w0 a cs → (0 < cs.length → (a.getD default).block ∉ M) → At u a cs ∧ (0 < cs.length → (a.getD default).block ∉ Mu)
theorem Keeps.refl (w : World) (M : List Nat) : Keeps w M w M := fun _ _ h k => ⟨h, k⟩
theorem Keeps.trans {w0 w1 u : World} {M M1 Mu : List Nat} (h : Keeps w0 M w1 M1) (k : Keeps w1 M1 u Mu) : Keeps w0 M u Mu := fun a cs ha hn => k a cs (h a cs ha hn).1 (h a cs ha hn).2
def Iter2 (P : Program) (k : FuncId) (lb : Array Value) (enc : Nat → List Value) (N : Nat) (Li : List (List Blk)) (w1 : World) (M : List Nat) : Prop :=
  ∀ (τ : Type) (yv : Value) (U : τ → List Blk) (Φ : Nat → τ → Prop) (Ψ : τ → Prop) (s0 : τ),
    (∀ i s (R : List (List Blk)) (u : World) (Mu : List Nat), i < N → Φ i s → Keeps w1 M u Mu → Yld P yv (enc i).toArray (Mem u Mu (U s :: R)) (fun b w => ∃ s', (bif b then Φ (i + 1) s' else Ψ s') ∧ Mem u Mu (U s' :: R) w)) →
    Φ 0 s0 → Mem w1 M (U s0 :: Li) w1 → (∀ k ∈ M, k ∈ (U s0 :: Li).flatten.map (·.b)) → Calls P k (#[yv] ++ lb) w1 (RetM w1 (fun s => Φ N s ∨ Ψ s) (fun _ => .tuple #[]) M (fun s => U s :: Li))
theorem W.range2 {Q : Exit → Act → World → Prop} {g : Operand} {ps : Array Tmp} {assign body : Code} {k : FuncId} {lb : Array Value} {enc : Nat → List Value} {N : Nat} {Lu : σ → List (List Blk)} {Li Lk : List (List Blk)}
    (is js ks : List Nat) (s0 : σ) (Φ : Nat → σ → Prop) (Ψ : Code → σ → Prop) (psl : List Nat)
    (hg : ev n f g = .func (.func k) #[] lb) (hk : ∀ x w, (callFunc k x).run P w = .ok (.enter k x) w)
    (hnd : (is ++ js ++ ks).Nodup) (hi : pickL LL is = Lu s0) (hj : pickL LL js = Li) (hkk : pickL LL ks = Lk)
    (hps : ps.toList = psl) (henc : ∀ i, (enc i).length = psl.length) (h0 : Φ 0 s0)
    (hit : ∀ (D l : Nat) (ob : Loop) (w1 : World), Mem w0 M (((dB D :: lB l ob :: Lu s0) ++ Li) ++ Lk) w1 → Iter2 P k lb enc N Li w1 (((dB D :: lB l ob :: Lu s0) ++ Li).flatten.map (·.b)))
    (hbody : ∀ (D l : Nat) (ob ob' : Loop) (i : Nat) (s : σ) (u : World) (Mu : List Nat) (J : Act → World → Prop), i < N → Φ i s → Keeps w0 M u Mu →
      (∀ f' L', W (some l) P (RQ u Mu D l ob' Lu (Φ (i + 1)) Ψ) body n [] f' (Mem u Mu (dB D :: lB l ob' :: L')) → ∀ w', Mem u Mu (dB D :: lB l ob :: L') w' → J (Fr n [] f') w') →
      W (some l) P (Exit.then J NoExit) assign n [] ((psl.zip (enc i)).foldl (fun f p => upd f p.1 p.2) f) (Mem u Mu (dB D :: lB l ob :: Lu s)))
    (hdone : ∀ (D l : Nat) (ob : Loop) (s : σ), Φ N s → ∀ w, Mem w0 M (((dB D :: lB l ob :: Lu s) ++ Li) ++ Lk) w → Q .normal (Fr n (mk D :: ds) f) w)
    (hstop : ∀ (D l : Nat) (ob : Loop) (c : Code) (s : σ), Ψ c s → W none P Q c n (mk D :: ds) f (Mem w0 M (((dB D :: lB l ob :: Lu s) ++ Li) ++ Lk))) :
    W none P Q (.rangeFunc g ps assign body) n ds f (Mem w0 M LL) := fun w hS => by
  have hS1 : Mem w0 M (Lu s0 ++ Li ++ Lk) w := hS.pick (is ++ js ++ ks) hnd (by rw [← hi, ← hj, ← hkk]; simp [pickL])
  refine wpIn_rangeFunc ?_
  intro fn _
  obtain ⟨rec, hrec⟩ : ∃ rec : LoopState → Option Code → Loop, rec = fun st pe => { state := st, pending := pe, fn, tmps := (Fr n ds f).tmps, params := ps, assign, body, defers := w.heap.size } := ⟨_, rfl⟩
  obtain ⟨D, hD⟩ : ∃ D, D = w.heap.size := ⟨_, rfl⟩
  obtain ⟨l, hl⟩ : ∃ l, l = w.heap.size + 1 := ⟨_, rfl⟩
  obtain ⟨w1, hw1⟩ : ∃ w1, (w.alloc (.deferred (some []))).alloc (.loop (rec .ready none)) = w1 := ⟨_, rfl⟩
  have hm : Mem w0 M (((dB D :: lB l (rec .ready none) :: Lu s0) ++ Li) ++ Lk) w1 := by
    have h1 := (hS1.allocO (.deferred (some []))).allocO (.loop (rec .ready none))
    rw [← hw1]
    refine Mem.perm ?_ h1
    simp only [List.flatten_append, List.flatten_cons, dB, lB, hD, hl, List.cons_append, List.nil_append, List.append_assoc, Array.size_push]
    exact List.Perm.swap _ _ _
  let U : σ × Option Code → List Blk := fun s => dB D ++ lB l (rec (if s.2.isNone then .ready else .done) s.2) ++ (Lu s.1).flatten
  have hU : ∀ (s : σ) (pe : Option Code) (R : List (List Blk)), (U (s, pe) :: R).flatten = ((dB D :: lB l (rec (if pe.isNone then .ready else .done) pe) :: Lu s) ++ R).flatten := fun s pe R => by
    simp [U, List.flatten_append]
  obtain ⟨M1, hM1⟩ : ∃ M1, M1 = ((dB D :: lB l (rec .ready none) :: Lu s0) ++ Li).flatten.map (·.b) := ⟨_, rfl⟩
  have hloc : Mem w1 M1 (U (s0, none) :: Li) w1 := by
    rw [hM1]; exact (Mem.local hm).flat (hU s0 none Li).symm
  have hsubM : ∀ k ∈ M1, k ∈ (U (s0, none) :: Li).flatten.map (·.b) := fun k hk => by
    rw [hU s0 none Li]; rw [hM1] at hk; exact hk
  have hback : ∀ {LL' : List (List Blk)} {w' : World}, Mem w1 M1 LL' w' → Mem w0 M (LL' ++ Lk) w' := fun h => Mem.back hm (by rw [hM1] at h; exact h)
  have hkp : Keeps w0 M w1 M1 := fun a cs hat hne => by
    have h2 := At.into (L := (dB D :: lB l (rec .ready none) :: Lu s0) ++ Li) (R := Lk) hat hne hm
    rw [hM1]; exact h2
  refine ⟨l, [mk D], w1, { target := .fn (.func k) lb, args := #[.func (.yield l) #[] #[]] }, w1, k, #[.func (.yield l) #[] #[]] ++ lb, w1, ?_, ?_, fun _ _ => trivial, ?_, fun h => (by cases h), ?_⟩
  · rw [← hw1, hrec, hl]; simp only [mk, hD]; exact run_enterLoop_outer _ _ _ _ _
  · simp only [resolve, Fr_eval, hg]
    simp [go_sem]; rfl
  · simp [invoke, go_sem, hk]
  have hI := hit D l _ w1 hm
  rw [← hM1] at hI
  refine callsIn_of (Calls.mono (hI (σ × Option Code) (.func (.yield l) #[] #[]) U (fun i s => Φ i s.1 ∧ s.2 = none) (fun s => ∃ c, s.2 = some c ∧ Ψ c s.1) (s0, none) ?_ ⟨h0, rfl⟩ hloc hsubM) ?_)
  · rintro i ⟨s, pe⟩ R ub Mub hiN ⟨hΦ, hpe⟩ hkb u hu
    simp only at hpe hΦ; subst hpe
    have hul : u.heap[l]? = some (.loop (rec .ready none)) := hu.at (i := 0) (j := 1) (p := ⟨l, _⟩) rfl rfl
    obtain ⟨Mu, hMu⟩ : ∃ Mu, Mu = (U (s, none)).map (·.b) := ⟨_, rfl⟩
    have hloc2 : Mem u Mu (dB D :: lB l (rec .ready none) :: Lu s) u := by
      have h1 : Mem u Mu [U (s, none)] u := by rw [hMu]; exact hu.one (i := 0) rfl
      exact h1.flat (by have := hU s none []; simpa using this)
    have hback2 : ∀ {s' : σ} {pe : Option Code} {w' : World}, Mem u Mu (dB D :: lB l (rec (if pe.isNone then .ready else .done) pe) :: Lu s') w' → Mem ub Mub (U (s', pe) :: R) w' := fun {s' pe w'} h => by
      have h1 : Mem u ([U (s, none)].flatten.map (·.b)) [U (s', pe)] w' := by
        simp only [List.flatten_cons, List.flatten_nil, List.append_nil]; rw [← hMu]
        exact h.flat (by have := hU s' pe []; simpa using this.symm)
      exact Mem.back (LL := [U (s, none)]) (R := R) hu h1
    refine ⟨.round l fn ((ps.zip (enc i).toArray).foldl (fun t (p : Nat × Value) => t.setIfInBounds p.1 p.2) (Fr n ds f).tmps) assign body, ?_, ?_⟩
    · have := run_yield (P := P) (args := (enc i).toArray) hul (by rw [hrec]; simp only [List.size_toArray]; rw [henc, ← hps]; simp)
      rw [hrec] at this
      simp only [callv, Deferred.ofValue, Sem.run_bind]
      simp [go_sem, invoke, this]
    refine roundIn_of_wpIn (F := fence none) trivial ?_
    have et : (ps.zip (enc i).toArray).foldl (fun t (p : Nat × Value) => t.setIfInBounds p.1 p.2) (Fr n ds f).tmps = (Fr n [] ((psl.zip (enc i)).foldl (fun f p => upd f p.1 p.2) f)).tmps := by
      rw [← tmps_fold (ds := ds), ← hps]
      rw [← Array.foldl_toList, Array.toList_zip]
    rw [et]
    refine hbody D l (rec .ready none) (rec .busy none) i s u Mu _ hiN hΦ ?_ ?_ u hloc2
    · intro a cs hat hne
      obtain ⟨h1, h2⟩ := hkp.trans hkb a cs hat hne
      have h3 := At.into (L := [U (s, none)]) (R := R) h1 h2 (by simpa using hu)
      rw [hMu]; simpa using h3
    intro f' L' hW w' hm'
    have hl' : w'.heap[l]? = some (.loop (rec .ready none)) := hm'.at (i := 1) (j := 0) (p := ⟨l, _⟩) rfl rfl
    have hlt' := (Array.getElem?_eq_some_iff.1 hl').1
    refine ⟨w'.putObj l (.loop (rec .busy none)), ?_, ?_⟩
    · have := run_beginRound (P := P) hl' (by rw [hrec]); rw [this, hrec]
    have hm2 : Mem u Mu (dB D :: lB l (rec .busy none) :: L') (w'.putObj l (.loop (rec .busy none))) :=
      hm'.putO (s := lB l (rec .ready none)) (i := 1) (j := 0) rfl rfl rfl rfl rfl (by simp) (fun k _ hk => World.putObj_heap_other hk) (World.putObj_heap_same hlt')
    refine wpIn_mono (hW _ hm2) ?_
    have fin : ∀ (jump : Option Code) (s' : σ) (w3 : World), Mem u Mu (dB D :: lB l (rec .busy none) :: Lu s') w3 →
        (Instr.endRound l jump).run P w3 = .ok (.bool jump.isNone) (w3.putObj l (.loop (rec (if jump.isNone then .ready else .done) jump))) ∧
        Mem ub Mub (U (s', jump) :: R) (w3.putObj l (.loop (rec (if jump.isNone then .ready else .done) jump))) := fun jump s' w3 h3 => by
      have hl3 : w3.heap[l]? = some (.loop (rec .busy none)) := h3.at (i := 1) (j := 0) (p := ⟨l, _⟩) rfl rfl
      have hlt3 := (Array.getElem?_eq_some_iff.1 hl3).1
      refine ⟨?_, hback2 ?_⟩
      · have := run_endRound (P := P) jump hl3; rw [this, hrec]
      · exact h3.putO (s := lB l (rec .busy none)) (i := 1) (j := 0) rfl rfl rfl rfl rfl (by simp) (fun k _ hk => World.putObj_heap_other hk) (World.putObj_heap_same hlt3)
    rintro e a3 w3 hp
    cases e with
    | normal =>
      obtain ⟨s', hs', h3⟩ := hp
      obtain ⟨hr, h4⟩ := fin none s' w3 h3
      exact ⟨_, _, hr, true, rfl, (s', none), ⟨hs', rfl⟩, h4⟩
    | ret =>
      obtain ⟨s', hs', h3⟩ := hp
      obtain ⟨hr, h4⟩ := fin (some .ret) s' w3 h3
      exact ⟨_, _, hr, false, rfl, (s', some .ret), ⟨_, rfl, hs'⟩, h4⟩
    | exit id =>
      obtain ⟨s', hs', h3⟩ := hp
      obtain ⟨hr, h4⟩ := fin (some (.exit id)) s' w3 h3
      exact ⟨_, _, hr, false, rfl, (s', some (.exit id)), ⟨_, rfl, hs'⟩, h4⟩
    | goto t => exact hp.elim
    | panic ch => exact hp.elim
    | outgrown => exact hp.elim
  · rintro e w2 ⟨⟨s, pe⟩, hor, rfl, hm2⟩
    have hl2 : w2.heap[l]? = some (.loop (rec (if pe.isNone then .ready else .done) pe)) := hm2.at (i := 0) (j := 1) (p := ⟨l, _⟩) rfl rfl
    have hlt2 := (Array.getElem?_eq_some_iff.1 hl2).1
    have he : (Instr.endLoop l).run P w2 = .ok pe (w2.putObj l (.loop (rec .exhausted pe))) := by
      have := run_endLoop (P := P) hl2 (by rw [hrec]; cases pe <;> simp); rw [this, hrec]
    have h3 : Mem w0 M (((dB D :: lB l (rec .exhausted pe) :: Lu s) ++ Li) ++ Lk) (w2.putObj l (.loop (rec .exhausted pe))) := by
      have h1 : Mem w0 M (((dB D :: lB l (rec (if pe.isNone then .ready else .done) pe) :: Lu s) ++ Li) ++ Lk) w2 := (hback hm2).flat (by rw [List.flatten_append, hU s pe Li, ← List.flatten_append])
      exact h1.putO (s := lB l (rec (if pe.isNone then .ready else .done) pe)) (i := 1) (j := 0) rfl rfl rfl rfl rfl (by simp) (fun k _ hk => World.putObj_heap_other hk) (World.putObj_heap_same hlt2)
    refine ⟨pe, _, he, ?_⟩
    rcases hor with ⟨hΦ, hpe⟩ | ⟨c, hpe, hΨ⟩
    · simp only at hpe hΦ; subst hpe
      exact hdone D l _ s hΦ _ h3
    · simp only at hpe hΨ; subst hpe
      exact hstop D l _ c s hΨ _ h3
theorem Iter2.cast {k : FuncId} {lb : Array Value} {enc enc' : Nat → List Value} {N N' : Nat} {Li Li' : List (List Blk)} {w1 : World} {M : List Nat} (h : Iter2 P k lb enc N Li w1 M) (he : enc = enc') (hN : N = N') (hL : Li = Li') : Iter2 P k lb enc' N' Li' w1 M := by
  subst he; subst hN; subst hL; exact h
end
end Go.Proofs.Ytjkhmbigoloeiaa.Base
