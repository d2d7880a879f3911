import Derived.Test.YtmonlaoaengfdaaGreatDoorM31
set_option linter.unusedVariables false
set_option linter.unusedSimpArgs false
set_option maxRecDepth 20000
namespace Go.Proofs.YtmonlaoaengfdaaGreatDoor.Oct
open Go.RowKit Base
attribute [local irreducible] Ys Yc Ht HtS HtIn Wl Wd W Mem pf dpf Wa Wo
open Conf (Fwd fwv)
/-! A session that is opened, or let in, in plain Lean. -/
def RngFl (f : FlwT) : Prop := (0 ≤ f.1 ∧ f.1 ≤ 255) ∧ (0 ≤ f.2.1 ∧ f.2.1 ≤ 4294967295) ∧ (0 ≤ f.2.2.1 ∧ f.2.2.1 ≤ 4294967295) ∧ (0 ≤ f.2.2.2.1 ∧ f.2.2.2.1 ≤ 65535) ∧ (0 ≤ f.2.2.2.2 ∧ f.2.2.2.2 ≤ 65535)
theorem ruV_of {ms : List Mpg} {fx : List Conf.Fwd} {a b : Int} (h1 : ∀ w ∈ fx, ¬ (w.proto = a ∧ w.port = b)) (h2 : ∀ m ∈ ms, ¬ (m.proto = a ∧ m.ext = b)) : ruV ms fx a b = false := by
  unfold ruV
  rw [Bool.or_eq_false_iff]
  constructor
  · cases h : fnd fx a b with
    | false => rfl
    | true => obtain ⟨g1, g2, g3⟩ := fnd_yes h; exact absurd ⟨g2, g3⟩ (h1 _ g1)
  · rw [List.any_eq_false]; intro m hm hh
    unfold ruQ at hh; simp only [Bool.and_eq_true, beq_iff_eq] at hh
    exact h2 m hm hh
theorem tkn_not {P : List (Int × Int)} {p q : Nat} (hq : 1024 ≤ q) (h : tkn P p q = false) : (((p : Nat) : Int), (q : Int)) ∉ P := fun hm => by
  unfold tkn at h
  rw [decide_eq_true hq, Bool.true_and, List.any_eq_false] at h
  exact h _ hm ma6
section
variable {k : NK} {s : NS} {f : FlwT} {dr : Nat} {ext : Int} {gv : Bool}
theorem ruleV_some {ms : List Mpg} {fx : List Conf.Fwd} (h : ruleV ms fx f = some ext) : (∃ m ∈ ms, ruM f m = true ∧ ext = m.ext) ∨ ∃ w ∈ fx, ruW f w = true ∧ ext = w.port := by
  unfold ruleV at h
  cases hm : ms.find? (ruM f) with
  | some m => rw [hm] at h; exact .inl ⟨m, List.mem_of_find?_eq_some hm, List.find?_some hm, (Option.some.inj h).symm⟩
  | none =>
    rw [hm] at h
    cases hw : fx.find? (ruW f) with
    | none => rw [hw] at h; cases h
    | some w => rw [hw] at h; exact .inr ⟨w, List.mem_of_find?_eq_some hw, List.find?_some hw, (Option.some.inj h).symm⟩
theorem pk_free (hI : Inv k s) (hf : 0 ≤ f.1) (h : pk (s.p.TT f.1.toNat) dr < 65536) : (f.1, (pkV (s.p.TT f.1.toNat) dr : Int)) ∉ fxP k.fx ++ msP s.p.ms ++ zsP s.p.zs ∧ 1024 ≤ pkV (s.p.TT f.1.toNat) dr := by
  have h1 := pk_le (s.p.TT f.1.toNat) dr
  have hv : pkV (s.p.TT f.1.toNat) dr = pk (s.p.TT f.1.toNat) dr := by unfold pkV; rw [if_pos h]
  have h2 := h1.2.2.1 h
  rw [hv]
  refine ⟨fun hm => ?_, h1.2.1⟩
  have h3 : tkn (fxP k.fx ++ msP s.p.ms ++ zsP s.p.zs) f.1.toNat (pk (s.p.TT f.1.toNat) dr) = false := by rw [← hI.b.tks]; exact h2
  have h4 := tkn_not h1.2.1 h3
  rw [Int.toNat_of_nonneg hf] at h4
  exact h4 hm
theorem OpenX.rng (hI : Inv k s) (h : OpenX k s.p f dr ext gv) : 0 ≤ ext ∧ ext ≤ 65535 := by
  rcases h with ⟨h, _⟩ | ⟨_, _, h, rfl⟩ | ⟨_, _, _, _, rfl⟩
  · rcases ruleV_some h with ⟨m, hm, _, rfl⟩ | ⟨w, hw, _, rfl⟩
    · have := hI.mr m hm; omega
    · have := hI.fr w hw; omega
  · exact (hI.a.lse _ _ (getK_in (v0 := (⟨0, 0⟩ : Lse)) h)).2.2.1
  · have := pkV_lt (s.p.TT f.1.toNat) dr; omega
theorem OpenX.ho (hI : Inv k s) (hf : 0 ≤ f.1) (h : OpenX k s.p f dr ext gv) (id : Int) : hoV s.p.ms k.fx (nwE f ext id gv) = true := by
  rcases h with ⟨h, rfl⟩ | ⟨_, rfl, h, rfl⟩ | ⟨_, rfl, _, hp, rfl⟩
  · rcases ruleV_some h with ⟨m, hm, hr, rfl⟩ | ⟨w, hw, hr, rfl⟩
    · unfold hoV
      simp only [nwE, cond_false, Bool.or_eq_true]
      left
      refine List.any_eq_true.2 ⟨m, hm, ?_⟩
      unfold ruM at hr; unfold hoM
      simp only [Bool.and_eq_true, Bool.or_eq_true, beq_iff_eq] at hr ⊢
      exact ⟨⟨⟨⟨hr.1.1.1, trivial⟩, hr.1.1.2⟩, hr.1.2⟩, hr.2⟩
    · unfold hoV
      simp only [nwE, cond_false, Bool.or_eq_true]
      right
      unfold ruW at hr
      simp only [Bool.and_eq_true, beq_iff_eq] at hr
      obtain ⟨g1, g2⟩ := hI.fu w hw
      rw [hr.1.1] at g1 g2
      rw [g1, g2]; simp [hr.1.2, hr.2]
  · obtain ⟨h1, h2, h3, h4⟩ := hI.a.lse _ _ (getK_in (v0 := (⟨0, 0⟩ : Lse)) h)
    obtain ⟨x, hx, hg⟩ := cntE_pos (t := endF f) (es := s.p.es) ma1
    have h5 := h4 x hx hg
    have h6 := hI.b.rul x hx
    obtain ⟨hgv, he⟩ := gvE_iff.1 hg
    have hpr : x.2.pr = f.1 := (Prod.mk.inj he).1
    unfold hoV at h6 ⊢
    rw [hgv, hpr, h5] at h6
    exact h6
  · have hn := pk_free hI hf hp
    have hr : ruV s.p.ms k.fx f.1 (pkV (s.p.TT f.1.toNat) dr : Int) = false := by
      refine ruV_of (fun w hw hh => hn.1 ?_) (fun m hm hh => hn.1 ?_)
      · exact List.mem_append_left _ (List.mem_append_left _ (List.mem_map.2 ⟨w, hw, Prod.ext hh.1 hh.2⟩))
      · exact List.mem_append_left _ (List.mem_append_right _ (List.mem_map.2 ⟨m, hm, Prod.ext hh.1 hh.2⟩))
    unfold hoV
    show (bif true then !ruV s.p.ms k.fx f.1 (pkV (s.p.TT f.1.toNat) dr : Int) else _) = true
    rw [cond_true, hr]; rfl
theorem OpenX.gvn (hI : Inv k s) (hf : 0 ≤ f.1) (h : OpenX k s.p f dr ext gv) : gv = true → (∀ l, (endF f, l) ∈ s.p.zs → l.ext = ext) ∧ (∀ t l, (t, l) ∈ s.p.zs → t ≠ endF f → t.1 = f.1 → l.ext ≠ ext) := fun hgv => by
  rcases h with ⟨_, hg⟩ | ⟨_, _, h, rfl⟩ | ⟨_, _, h, hp, rfl⟩
  · rw [hgv] at hg; cases hg
  · have hm := getK_in (v0 := (⟨0, 0⟩ : Lse)) h
    refine ⟨fun l hl => by rw [getK_mem hI.ok.hzs hl], fun t l hl hne h1 h2 => hne ?_⟩
    exact hI.a.inj _ _ _ _ hl hm h1 h2
  · have hn := pk_free hI hf hp
    refine ⟨fun l hl => absurd rfl (hasK_not.1 h _ hl), fun t l hl _ h1 h2 => hn.1 ?_⟩
    exact List.mem_append_right _ (zsP_mem.2 ⟨t, l, hl, by rw [h1, h2]⟩)
end
theorem nwE_rng {f : FlwT} {ext id : Int} {gv : Bool} (hf : RngFl f) (he : 0 ≤ ext ∧ ext ≤ 65535) : RngE (nwE f ext id gv) := ⟨hf.1, hf.2.1, hf.2.2.1, hf.2.2.2.1, hf.2.2.2.2, he⟩
theorem new_ren {k : NK} {s : NS} {f : FlwT} {ext now : Int} {gv out : Bool} {xb pb : Nat} {e' : SesE} (hI : Inv k s) (hno : hasK s.p.xs f = false) (hroom : (s.p.xs.length : Int) < k.mo) (hl1 : s.p.lst + 1 ≤ 18446744073709551615)
    (hg : gv = true → (∀ l, (endF f, l) ∈ s.p.zs → l.ext = ext) ∧ (∀ t l, (t, l) ∈ s.p.zs → t ≠ endF f → t.1 = f.1 → l.ext ≠ ext)) (hr : RngE (nwE f ext s.p.lst gv)) (ho : hoV s.p.ms k.fx (nwE f ext s.p.lst gv) = true) (hn : RenE (nwE f ext s.p.lst gv) now out e') {p' : NP}
    (hp : p' = { addP k s.p f ext gv xb pb with ws := setS (addP k s.p f ext gv xb pb).ws s.p.lst e'.ends, es := s.p.es.take (posK ordF s.p.xs f) ++ (xb, e') :: s.p.es.drop (posK ordF s.p.xs f) }) :
    InvA k p' none ∧ InvB k p' ∧ p'.ms = s.p.ms ∧ p'.lst = s.p.lst + 1 := by
  have h1 := InvA.add (xb := xb) (pb := pb) hI.a hI.ok.hxs hI.ok.hys hI.ok.hzs hno hroom hl1 hg hr
  have h2 := InvB.add (xb := xb) (pb := pb) hI.b hI.a hI.ok.hzs hroom (fun h => (hg h).1) hr ho
  have he : (addE k s.p f ext gv xb pb).es = s.p.es.take (posK ordF s.p.xs f) ++ (xb, nwE f ext s.p.lst gv) :: s.p.es.drop (posK ordF s.p.xs f) := rfl
  have h3 := InvA.renew h1.1 (show OkS (addE k s.p f ext gv xb pb).ws from hI.ok.hws) he (.inr rfl) hn
  have h4 := InvB.renew h2 he hn
  subst hp
  exact ⟨h3, h4, h1.2.1, h1.2.2⟩
theorem old_ren {k : NK} {s : NS} {now : Int} {out : Bool} {b : Nat} {e e' : SesE} {A B : List (Nat × SesE)} (hI : Inv k s) (he : s.p.es = A ++ (b, e) :: B) (hn : RenE e now out e') {p' : NP}
    (hp : p' = { s.p with ws := setS s.p.ws e.id e'.ends, es := A ++ (b, e') :: B }) : InvA k p' none ∧ InvB k p' := by
  subst hp
  exact ⟨InvA.renew hI.a hI.ok.hws he (.inl rfl) hn, InvB.renew hI.b he hn⟩
theorem Inv.tk {k : NK} {s r : NS} (hI : Inv k s) (ok : NOk k r) {tk : Nat → Option Nat} (hp : r.p = { s.p with tk := tk }) : Inv k r :=
  ⟨ok, by rw [hp]; exact hI.a.withTk tk s.p.TT, ⟨by rw [hp]; exact hI.b.rul, by rw [hp]; exact hI.b.tks⟩, hI.fr, hI.fu, by rw [hp]; exact hI.mr⟩
end Go.Proofs.YtmonlaoaengfdaaGreatDoor.Oct
