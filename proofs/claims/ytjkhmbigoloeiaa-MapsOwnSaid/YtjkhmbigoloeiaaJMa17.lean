import Derived.Test.YtjkhmbigoloeiaaJMa16
set_option linter.unusedVariables false
set_option linter.unusedSimpArgs false
set_option maxRecDepth 20000
namespace Go.Proofs.Ytjkhmbigoloeiaa.Oct
open Go.RowKit Base
attribute [local irreducible] Ys Yc Ht HtS HtIn Wl Wd W Mem pf dpf Wa Wo
open Conf (Fwd fwv)
structure Inv20 (fx : List Conf.Fwd) (lan bits : Int) (xs : List ((Int × Int × Int) × (Ent))) : Prop where
  key : ∀ p ∈ xs, p.1 = (p.2.proto, p.2.ext, p.2.remote)
  free : ∀ p ∈ xs, fnd fx p.2.proto p.2.ext = false
  host : ∀ p ∈ xs, hst lan bits p.2.host = true
  one : ∀ p ∈ xs, ∀ q ∈ xs, p.2.proto = q.2.proto → p.2.ext = q.2.ext → p.2.host = q.2.host ∧ p.2.to = q.2.to
theorem inv_nil {fx : List Conf.Fwd} {lan bits : Int} : Inv20 fx lan bits [] := ⟨fun p h => (by cases h), fun p h => (by cases h), fun p h => (by cases h), fun p h => (by cases h)⟩
theorem inv_sub {fx : List Conf.Fwd} {lan bits : Int} {xs ys : List ((Int × Int × Int) × (Ent))} (h : Inv20 fx lan bits xs) (hs : ∀ p ∈ ys, p ∈ xs) : Inv20 fx lan bits ys :=
  ⟨fun p hp => h.key p (hs p hp), fun p hp => h.free p (hs p hp), fun p hp => h.host p (hs p hp), fun p hp q hq => h.one p (hs p hp) q (hs q hq)⟩
theorem inv_cfg {fx fy : List Conf.Fwd} {lan bits lan2 bits2 most : Int} {xs ys : List ((Int × Int × Int) × (Ent))} (h : Inv20 fx lan bits xs) (hc : CfgR fy lan2 bits2 most xs ys) : Inv20 fy lan2 bits2 ys := by
  have hk : ∀ p ∈ ys, fnd fy p.2.proto p.2.ext = false ∧ hst lan2 bits2 p.2.host = true := fun p hp => by
    obtain ⟨h1, h2⟩ := hc.sub p hp
    unfold cfgK at h2
    rw [h.key p h1, Bool.and_eq_true, Bool.not_eq_true'] at h2
    exact h2
  exact ⟨fun p hp => h.key p (hc.sub p hp).1, fun p hp => (hk p hp).1, fun p hp => (hk p hp).2, fun p hp q hq => h.one p (hc.sub p hp).1 q (hc.sub q hq).1⟩
structure May20 (fx : List Conf.Fwd) (lan bits : Int) (xs : List ((Int × Int × Int) × (Ent))) (who lease : Int) (e : Ent) : Prop where
  free : fnd fx e.proto e.ext = false
  host : e.host = who
  hst : hst lan bits e.host = true
  alone : ∀ p ∈ xs, p.1.1 = e.proto → p.1.2.1 = e.ext → p.2.host = who ∧ p.2.to = e.to
  lease : lease ≤ 604800
theorem may_ok {fx : List Conf.Fwd} {lan bits most who lease : Int} {xs : List ((Int × Int × Int) × (Ent))} {e : Ent} (h1 : askV lan bits who e.proto e.host lease = 0) (h2 : mayV fx xs most who e.proto e.ext e.to e.remote = 0) : May20 fx lan bits xs who lease e := by
  unfold askV at h1
  cases ha : (!((e.proto == 6) || (e.proto == 17))) <;> rw [ha] at h1 <;> simp only [cond_true, cond_false] at h1
  · cases hb : ((e.host != who) || !(Oct.hst lan bits who)) <;> rw [hb] at h1 <;> simp only [cond_true, cond_false] at h1
    · cases hc : decide (lease > 604800) <;> rw [hc] at h1 <;> simp only [cond_true, cond_false] at h1
      · rw [Bool.or_eq_false_iff] at hb
        have hw : e.host = who := by simpa using hb.1
        have hh : Oct.hst lan bits e.host = true := by rw [hw]; simpa using hb.2
        unfold mayV at h2
        cases hd : fnd fx e.proto e.ext <;> rw [hd] at h2 <;> simp only [cond_true, cond_false] at h2
        · cases he : xs.any (cfl who e.proto e.ext e.to) <;> rw [he] at h2 <;> simp only [cond_true, cond_false] at h2
          · refine ⟨hd, hw, hh, fun p hp e1 e2 => ?_, by have := of_decide_eq_false hc; omega⟩
            rw [List.any_eq_false] at he
            have := he p hp
            unfold cfl at this
            rw [e1, e2] at this
            simpa using this
          · cases h2
        · cases h2
      · cases h1
    · cases h1
  · cases h1
theorem inv_put {fx : List Conf.Fwd} {lan bits most who lease : Int} {xs : List ((Int × Int × Int) × (Ent))} {e : Ent} {en : Int} (hs : Srt ordM xs) (h : Inv20 fx lan bits xs) (hm : May20 fx lan bits xs who lease e) : Inv20 fx lan bits (putX ordM most xs (e.proto, e.ext, e.remote) { e with ends := en }) := by
  have key : Inv20 fx lan bits (putK ordM xs (e.proto, e.ext, e.remote) { e with ends := en }) := by
    have hp : ∀ p ∈ putK ordM xs (e.proto, e.ext, e.remote) { e with ends := en }, p = ((e.proto, e.ext, e.remote), { e with ends := en }) ∨ p ∈ xs := fun p hp => ((mem_putK hs).1 hp).imp_right And.left
    refine ⟨fun p hp' => ?_, fun p hp' => ?_, fun p hp' => ?_, fun p hp' q hq' e1 e2 => ?_⟩
    · rcases hp p hp' with rfl | h'
      · rfl
      · exact h.key p h'
    · rcases hp p hp' with rfl | h'
      · exact hm.free
      · exact h.free p h'
    · rcases hp p hp' with rfl | h'
      · exact hm.hst
      · exact h.host p h'
    · rcases hp p hp' with rfl | h1 <;> rcases hp q hq' with rfl | h2
      · exact ⟨rfl, rfl⟩
      · have := hm.alone q h2 (by rw [h.key q h2]; exact e1.symm) (by rw [h.key q h2]; exact e2.symm)
        exact ⟨hm.host.trans this.1.symm, this.2.symm⟩
      · have := hm.alone p h1 (by rw [h.key p h1]; exact e1) (by rw [h.key p h1]; exact e2)
        exact ⟨this.1.trans hm.host.symm, this.2⟩
      · exact h.one p h1 q h2 e1 e2
  unfold putX
  cases hasK xs (e.proto, e.ext, e.remote)
  · cases decide (((xs.length : Nat) : Int) ≥ most)
    · exact key
    · exact h
  · exact key
theorem fstI_ok {q : Nat → Bool} : ∀ {n k i : Nat}, fstI q n k = some i → q i = true
  | 0, _, _, h => by cases h
  | n + 1, k, i, h => by
    unfold fstI at h
    cases hq : q k <;> rw [hq] at h <;> simp only [cond_true, cond_false] at h
    · exact fstI_ok h
    · cases h; exact hq
theorem add_ok {lan bits most who lease : Int} {fx : List Conf.Fwd} {xs : List ((Int × Int × Int) × (Ent))} {e : Ent} (h : (addV lan bits fx xs most who e lease == 0) = true) : askV lan bits who e.proto e.host lease = 0 ∧ mayV fx xs most who e.proto e.ext e.to e.remote = 0 := by
  unfold addV at h
  cases h1 : e.to == 0 <;> rw [h1] at h <;> simp only [cond_true, cond_false] at h
  · cases h2 : e.ext == 0 <;> rw [h2] at h <;> simp only [cond_true, cond_false] at h
    · cases h3 : askV lan bits who e.proto e.host lease == 0 <;> rw [h3] at h <;> simp only [cond_true, cond_false] at h
      · rw [h3] at h; cases h
      · exact ⟨by simpa using h3, by simpa using h⟩
    · cases h
  · cases h
theorem any_ok {lan bits most who lease : Int} {fx : List Conf.Fwd} {xs : List ((Int × Int × Int) × (Ent))} {e : Ent} (h : ((anyV lan bits fx xs most who e lease).2 == 0) = true) : askV lan bits who e.proto e.host lease = 0 ∧ mayV fx xs most who e.proto (anyV lan bits fx xs most who e lease).1 e.to e.remote = 0 := by
  unfold anyV at h ⊢
  cases h1 : e.to == 0 <;> rw [h1] at h <;> simp only [cond_true, cond_false] at h ⊢
  · cases h2 : askV lan bits who e.proto e.host lease != 0 <;> rw [h2] at h <;> simp only [cond_true, cond_false] at h ⊢
    · refine ⟨by simpa using h2, ?_⟩
      cases h3 : anyF xs most e <;> rw [h3] at h <;> simp only [cond_true, cond_false] at h ⊢
      · cases h4 : (e.ext != 0) && (mayV fx xs most who e.proto e.ext e.to e.remote == 0) <;> rw [h4] at h <;> simp only [cond_true, cond_false] at h ⊢
        · cases h5 : anyI fx xs most who e with
          | none => rw [h5] at h; cases h
          | some i =>
            have := fstI_ok (show fstI _ _ _ = some i from h5)
            show mayV fx xs most who e.proto (((1024 + i) % 65536 : Nat) : Int) e.to e.remote = 0
            simpa using this
        · rw [Bool.and_eq_true] at h4
          simpa using h4.2
      · cases h
    · rw [bne] at h2
      rw [Bool.not_eq_true'] at h2
      rw [h2] at h; cases h
  · cases h
theorem own_cases {who lease now n : Int} {e : Ent} {s : St20} {X : List ((Int × Int × Int) × (Ent))} (h : OwnR who lease now n e s X) (hs : Srt ordM s.xs) :
    (∃ e' : Ent, May20 s.fx s.c.lan s.c.bits s.xs who lease e' ∧ X = putX ordM s.most s.xs (e'.proto, e'.ext, e'.remote) { e' with ends := endsV lease now }) ∨ (∀ p ∈ X, p ∈ s.xs) ∧ (∀ p ∈ s.xs, p ∉ X → p.2.host = who) := by
  rcases h with rfl | rfl | rfl | rfl | rfl
  · exact .inr ⟨fun p hp => hp, fun p h1 h2 => absurd h1 h2⟩
  · refine .inr ?_
    unfold delX
    cases hd : delV s.xs who e.proto e.ext e.remote == 0
    · exact ⟨fun p hp => hp, fun p h1 h2 => absurd h1 h2⟩
    · refine ⟨fun p hp => (mem_dropK.1 hp).1, fun p h1 h2 => ?_⟩
      have hk : p.1 = (e.proto, e.ext, e.remote) := Classical.byContradiction fun hne => h2 (mem_dropK.2 ⟨h1, hne⟩)
      unfold delV at hd
      cases hh : (!(hasK s.xs (e.proto, e.ext, e.remote))) <;> rw [hh] at hd <;> simp only [cond_true, cond_false] at hd
      · have hg := getK_mem (v0 := (⟨0, 0, 0, 0, 0, false, bstr [], 0⟩ : Ent)) (k := (e.proto, e.ext, e.remote)) (v := p.2) hs (by rw [← hk]; exact h1)
        rw [hg] at hd
        cases hw : p.2.host != who <;> rw [hw] at hd <;> simp only [cond_true, cond_false] at hd
        · simpa using hw
        · cases hd
      · cases hd
  · refine .inr ?_
    unfold drgX
    cases decide (e.ext > n)
    · refine ⟨fun p hp => (List.mem_filter.1 hp).1, fun p h1 h2 => ?_⟩
      cases hq : rngQ e.proto e.ext n who p
      · exact absurd (List.mem_filter.2 ⟨h1, by rw [hq]; rfl⟩) h2
      · unfold rngQ at hq
        rw [Bool.and_eq_true] at hq
        simpa using hq.2
    · exact ⟨fun p hp => hp, fun p h1 h2 => absurd h1 h2⟩
  · unfold addX
    cases ha : addV s.c.lan s.c.bits s.fx s.xs s.most who e lease == 0
    · exact .inr ⟨fun p hp => hp, fun p h1 h2 => absurd h1 h2⟩
    · obtain ⟨h1, h2⟩ := add_ok ha
      exact .inl ⟨e, may_ok h1 h2, rfl⟩
  · unfold anyX
    cases ha : (anyV s.c.lan s.c.bits s.fx s.xs s.most who e lease).2 == 0
    · exact .inr ⟨fun p hp => hp, fun p h1 h2 => absurd h1 h2⟩
    · obtain ⟨h1, h2⟩ := any_ok ha
      exact .inl ⟨{ e with ext := (anyV s.c.lan s.c.bits s.fx s.xs s.most who e lease).1 }, may_ok h1 h2, rfl⟩
theorem inv_call {k who lease now n : Int} {e : Ent} {c2 : Conf.Cfg} {fy : List Conf.Fwd} {s s' : St20} (h : CallR k who lease now n e c2 fy s s') (hs : Srt ordM s.xs) (hi : Inv20 s.fx s.c.lan s.c.bits s.xs) : Inv20 s'.fx s'.c.lan s'.c.bits s'.xs := by
  rcases h with ⟨_, _, h1, h2, h3, h4, _⟩ | ⟨h1, h2, h3, h4, h5⟩
  · rw [h2, h3, h4]; exact inv_cfg hi h1
  · rw [h1, h2, h3]
    rcases h5 with ⟨_, _, h6⟩ | ⟨_, h6⟩ | ⟨_, _, h6⟩
    · rw [h6]; exact hi
    · rw [h6]; exact inv_sub hi fun p hp => (List.mem_filter.1 hp).1
    · rcases own_cases h6 hs with ⟨e', m, h7⟩ | ⟨h7, _⟩
      · rw [h7]; exact inv_put hs hi m
      · exact inv_sub hi h7
abbrev eA (s : St20) (k : Nat) : Ent := (s.xs.map Prod.snd).getD k dE
abbrev eB (s : St20) (k j : Nat) : Ent := ((s.xs.map Prod.snd).take k).getD j dE
abbrev eF (s t : St20) (j : Nat) : Ent := ((s.xs.map Prod.snd) ++ (t.xs.map Prod.snd)).getD j dE
abbrev eG (s t : St20) (j : Nat) : Bool := hasE (s.xs.map Prod.snd) (eF s t j)
abbrev eH (s t : St20) (j : Nat) : Bool := hasE (t.xs.map Prod.snd) (eF s t j)
end Go.Proofs.Ytjkhmbigoloeiaa.Oct
