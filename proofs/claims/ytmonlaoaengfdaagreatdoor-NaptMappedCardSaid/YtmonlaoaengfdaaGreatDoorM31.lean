import Derived.Test.YtmonlaoaengfdaaGreatDoorM30
import Derived.Test.YtmonlaoaengfdaaGreatDoorM25
set_option linter.unusedVariables false
set_option linter.unusedSimpArgs false
set_option maxRecDepth 20000
namespace Go.Proofs.YtmonlaoaengfdaaGreatDoor.Oct
open Go.RowKit Base
attribute [local irreducible] Ys Yc Ht HtS HtIn Wl Wd W Mem pf dpf Wa Wo
theorem iadd_u64_ (a b : Int) (h0 : 0 ≤ a + b) (h1 : a + b ≤ 18446744073709551615) : iadd .u64 a b = a + b := wrap_u64 h0 ma1
open Conf (Fwd fwv)
/-! The invariant: a session that is added. -/
def addE (k : NK) (p : NP) (f : FlwT) (ext : Int) (gv : Bool) (xb pb : Nat) : NP := { addP k p f ext gv xb pb with es := p.es.take (posK ordF p.xs f) ++ (xb, nwE f ext p.lst gv) :: p.es.drop (posK ordF p.xs f) }
section
variable {k : NK} {p : NP} {f : FlwT} {ext : Int} {gv : Bool} {xb pb : Nat}
theorem putX_new {K V : Type} [DecidableEq K] {o : LO K} {xs : List (K × V)} {key : K} {v : V} {mo : Int} (hno : hasK xs key = false) (hr : (xs.length : Int) < mo) : putX o mo xs key v = putK o xs key v := by
  unfold putX; rw [hno, decide_eq_false ma1]; rfl
theorem InvA.fresh (h : InvA k p none) : hasK p.ys p.lst = false := by
  rw [hasK_not]
  intro q hq e
  obtain ⟨x, hx, h1, _⟩ := (h.ids q.1 q.2).1 hq
  have := (h.lst.2 x hx).2
  omega
theorem InvA.add (h : InvA k p none) (hx : Srt ordF p.xs) (hy : Srt LO.int p.ys) (hz : Srt ordE p.zs) (hno : hasK p.xs f = false) (hroom : (p.xs.length : Int) < k.mo) (hl1 : p.lst + 1 ≤ 18446744073709551615)
    (hg : gv = true → (∀ l, (endF f, l) ∈ p.zs → l.ext = ext) ∧ (∀ t l, (t, l) ∈ p.zs → t ≠ endF f → t.1 = f.1 → l.ext ≠ ext)) (hr : RngE (nwE f ext p.lst gv)) :
    InvA k (addE k p f ext gv xb pb) (some p.lst) ∧ (addE k p f ext gv xb pb).ms = p.ms ∧ (addE k p f ext gv xb pb).lst = p.lst + 1 := by
  obtain ⟨i, hi⟩ : ∃ i, i = posK ordF p.xs f := ⟨_, rfl⟩
  obtain ⟨E, hE⟩ : ∃ E, E = nwE f ext p.lst gv := ⟨_, rfl⟩
  have ees : (addE k p f ext gv xb pb).es = p.es.take i ++ (xb, E) :: p.es.drop i := by rw [hi, hE]; rfl
  have hfl : flE E = f := by rw [hE]; rfl
  have hid : E.id = p.lst := by rw [hE]; rfl
  have hgv : E.given = gv := by rw [hE]; rfl
  have elst : (addE k p f ext gv xb pb).lst = p.lst + 1 := by
    show iadd .u64 p.lst 1 = _
    have := h.lst.1
    exact iadd_u64_ p.lst 1 ma1 ma1
  have hmem : ∀ x, x ∈ p.es.take i ++ (xb, E) :: p.es.drop i ↔ x = (xb, E) ∨ x ∈ p.es := fun x => by rw [mem_mid, List.take_append_drop]
  have hcnt : ∀ t, cntE t (p.es.take i ++ (xb, E) :: p.es.drop i) = cntE t p.es + (bif gvE t (xb, E) then 1 else 0) := fun t => by rw [cntE_mid, List.take_append_drop]
  have exs : (addE k p f ext gv xb pb).xs = (p.es.take i ++ (xb, E) :: p.es.drop i).map pxE := by
    show putX ordF k.mo p.xs f (some xb) = _
    rw [putX_new hno hroom, put_not hno, List.map_append, List.map_cons, List.map_take, List.map_drop, ← h.tie, ← hi, hE]
    rfl
  have hlen := h.xln
  have hyl := h.yln hy
  have eys : (addE k p f ext gv xb pb).ys = putK LO.int p.ys p.lst f := by
    show putX LO.int k.mo p.ys p.lst f = _
    exact putX_new h.fresh ma1
  have ezs : (addE k p f ext gv xb pb).zs = bif gv then putX ordE k.mo p.zs (endF f) (⟨ext, (getK (⟨0, 0⟩ : Lse) p.zs (endF f)).count + 1⟩ : Lse) else p.zs := rfl
  have hzl := h.zln hz
  have ezp : ∀ l, putX ordE k.mo p.zs (endF f) l = putK ordE p.zs (endF f) l := fun l => by
    cases hh : hasK p.zs (endF f) with
    | true => unfold putX; rw [hh]; rfl
    | false => exact putX_new hh ma1
  have hcz : gv = true → (getK (⟨0, 0⟩ : Lse) p.zs (endF f)).count = (cntE (endF f) p.es : Int) := fun hgt => by
    cases hh : hasK p.zs (endF f) with
    | true => exact (h.lse _ _ (getK_in hh)).1
    | false =>
      rw [get_not hh]
      have : cntE (endF f) p.es = 0 := by
        unfold cntE; rw [List.countP_eq_zero]
        intro x hx hg
        obtain ⟨h1, h2⟩ := gvE_iff.1 hg
        have := h.lsi x hx h1
        rw [h2, hh] at this; cases this
      rw [this]; rfl
  refine ⟨⟨?_, ?_, ?_, ?_, ?_, ?_, ?_, ?_, ?_⟩, rfl, elst⟩
  · rw [exs, ees]
  · intro j g
    rw [eys, ees, mem_putK hy, h.ids]
    constructor
    · rintro (h1 | ⟨⟨x, hx, h1, h2⟩, _⟩)
      · obtain ⟨rfl, rfl⟩ := Prod.mk.inj h1
        exact ⟨(xb, E), (hmem _).2 (.inl rfl), hid, hfl⟩
      · exact ⟨x, (hmem _).2 (.inr hx), h1, h2⟩
    · rintro ⟨x, hx, h1, h2⟩
      rcases (hmem _).1 hx with rfl | hx
      · left; rw [← h1, ← h2]; show (E.id, flE E) = _; rw [hid, hfl]
      · exact .inr ⟨⟨x, hx, h1, h2⟩, by show j ≠ p.lst; have := (h.lst.2 x hx).2; omega⟩
  · rw [ees]
    refine (List.perm_middle.map _).nodup_iff.2 ?_
    rw [List.take_append_drop, List.map_cons, List.nodup_cons]
    refine ⟨fun hm => ?_, h.idn⟩
    obtain ⟨x, hx, hh⟩ := List.mem_map.1 hm
    have := (h.lst.2 x hx).2
    simp only [hid] at hh
    omega
  · rw [elst, ees]
    have := h.lst.1
    refine ⟨by omega, fun x hx => ?_⟩
    rcases (hmem _).1 hx with rfl | hx
    · show 0 ≤ E.id ∧ E.id < p.lst + 1; rw [hid]; omega
    · have := h.lst.2 x hx; omega
  · intro j t
    show (t, j) ∈ p.ws ↔ _
    rw [ees, h.whl]
    constructor
    · rintro ⟨x, hx, h1, h2, _⟩
      refine ⟨x, (hmem _).2 (.inr hx), h1, h2, fun hh => ?_⟩
      have := (h.lst.2 x hx).2; have := Option.some.inj hh; omega
    · rintro ⟨x, hx, h1, h2, h3⟩
      rcases (hmem _).1 hx with rfl | hx
      · exact absurd (by rw [← h1]; exact congrArg some hid.symm) h3
      · exact ⟨x, hx, h1, h2, by simp⟩
  · intro t l hl
    rw [ezs] at hl; rw [ees, hcnt]
    cases hgt : gv with
    | false =>
      rw [hgt] at hl
      have hf : gvE t (xb, E) = false := by unfold gvE; simp [hgv, hgt]
      rw [hf]
      obtain ⟨h1, h2, h3, h4⟩ := h.lse t l hl
      refine ⟨by simpa using h1, h2, h3, fun x hx hgx => ?_⟩
      rcases (hmem _).1 hx with rfl | hx
      · rw [hf] at hgx; cases hgx
      · exact h4 x hx hgx
    | true =>
      rw [hgt] at hl
      obtain ⟨g1, g2⟩ := hg hgt
      simp only [cond_true] at hl
      rw [ezp] at hl
      rcases (mem_putK hz).1 hl with hl | ⟨hl, hne⟩
      · obtain ⟨rfl, rfl⟩ := Prod.mk.inj hl
        have ht : gvE (endF f) (xb, E) = true := gvE_iff.2 ⟨by rw [hgv, hgt], by rw [hfl]⟩
        rw [ht]
        have hr' := hr.ext
        have := hcz hgt
        refine ⟨by simp only [cond_true]; omega, by simp only; omega, hr', fun x hx hgx => ?_⟩
        rcases (hmem _).1 hx with rfl | hx
        · rw [hE]; rfl
        · cases hh : hasK p.zs (endF f) with
          | true =>
            have hm := getK_in (v0 := (⟨0, 0⟩ : Lse)) hh
            show x.2.ext = ext
            rw [(h.lse _ _ hm).2.2.2 x hx hgx]; exact g1 _ hm
          | false =>
            obtain ⟨h1, h2⟩ := gvE_iff.1 hgx
            have := h.lsi x hx h1
            rw [h2, hh] at this; cases this
      · have hf : gvE t (xb, E) = false := by
          cases hh : gvE t (xb, E) with
          | false => rfl
          | true => exact absurd ((gvE_iff.1 hh).2.symm.trans (by rw [hfl])) hne
        rw [hf]
        obtain ⟨h1, h2, h3, h4⟩ := h.lse t l hl
        refine ⟨by simpa using h1, h2, h3, fun x hx hgx => ?_⟩
        rcases (hmem _).1 hx with rfl | hx
        · rw [hf] at hgx; cases hgx
        · exact h4 x hx hgx
  · intro x hx hxg
    rw [ees] at hx; rw [ezs]
    cases hgt : gv with
    | false =>
      rcases (hmem _).1 hx with rfl | hx
      · simp only [hgv, hgt] at hxg; cases hxg
      · exact h.lsi x hx hxg
    | true =>
      simp only [cond_true]; rw [ezp]
      rcases (hmem _).1 hx with rfl | hx
      · exact hasK_mem.2 ⟨_, (mem_putK hz).2 (.inl (by show (endF (flE E), _) = _; rw [hfl]))⟩
      · obtain ⟨v, hv⟩ := hasK_mem.1 (h.lsi x hx hxg)
        by_cases he : endF (flE x.2) = endF f
        · exact hasK_mem.2 ⟨_, (mem_putK hz).2 (.inl (by rw [he]))⟩
        · exact hasK_mem.2 ⟨v, (mem_putK hz).2 (.inr ⟨hv, he⟩)⟩
  · rw [ezs]
    cases hgt : gv with
    | false => exact h.inj
    | true =>
      obtain ⟨g1, g2⟩ := hg hgt
      simp only [cond_true]; rw [ezp]
      intro t l t' l' h1 h2 h3 h4
      rcases (mem_putK hz).1 h1 with h1 | ⟨h1, n1⟩ <;> rcases (mem_putK hz).1 h2 with h2 | ⟨h2, n2⟩
      · rw [(Prod.mk.inj h1).1, (Prod.mk.inj h2).1]
      · obtain ⟨rfl, rfl⟩ := Prod.mk.inj h1
        exact absurd h4.symm (g2 t' l' h2 n2 h3.symm)
      · obtain ⟨rfl, rfl⟩ := Prod.mk.inj h2
        exact absurd h4 (g2 t l h1 n1 h3)
      · exact h.inj t l t' l' h1 h2 h3 h4
  · rw [ees]
    intro x hx
    rcases (hmem _).1 hx with rfl | hx
    · rw [hE]; exact hr
    · exact h.rng x hx
theorem InvB.add (hb : InvB k p) (h : InvA k p none) (hz : Srt ordE p.zs) (hroom : (p.xs.length : Int) < k.mo) (hg : gv = true → (∀ l, (endF f, l) ∈ p.zs → l.ext = ext)) (hr : RngE (nwE f ext p.lst gv)) (ho : hoV p.ms k.fx (nwE f ext p.lst gv) = true) :
    InvB k (addE k p f ext gv xb pb) := by
  refine ⟨fun x hx => ?_, ?_⟩
  · rcases mem_mid.1 hx with rfl | hx
    · exact ho
    · rw [List.take_append_drop] at hx; exact hb.rul x hx
  · cases hgt : gv with
    | false => exact hb.tks
    | true =>
      have hlen := h.xln
      have hzl := h.zln hz
      have ezp : ∀ l, putX ordE k.mo p.zs (endF f) l = putK ordE p.zs (endF f) l := fun l => by
        cases hh : hasK p.zs (endF f) with
        | true => unfold putX; rw [hh]; rfl
        | false => exact putX_new hh ma1
      show updF p.TT f.1.toNat (tkT (p.TT f.1.toNat) ext.toNat) = tkn (fxP k.fx ++ msP p.ms ++ zsP (putX ordE k.mo p.zs (endF f) (⟨ext, (getK (⟨0, 0⟩ : Lse) p.zs (endF f)).count + 1⟩ : Lse)))
      rw [hb.tks, tkn_take, ezp]
      refine tkn_congr fun x => ?_
      have e1 : (f.1.toNat : Int) = f.1 := Int.toNat_of_nonneg hr.pr.1
      have e2 : (ext.toNat : Int) = ext := Int.toNat_of_nonneg hr.ext.1
      rw [e1, e2]
      simp only [List.mem_append, List.mem_singleton, zsP_mem]
      constructor
      · rintro ((hx | ⟨t, l, hl, rfl⟩) | rfl)
        · exact .inl hx
        · right
          by_cases he : t = endF f
          · subst he; exact ⟨_, _, (mem_putK hz).2 (.inl rfl), by rw [hg hgt l hl]⟩
          · exact ⟨t, l, (mem_putK hz).2 (.inr ⟨hl, he⟩), rfl⟩
        · exact .inr ⟨_, _, (mem_putK hz).2 (.inl rfl), rfl⟩
      · rintro (hx | ⟨t, l, hl, rfl⟩)
        · exact .inl (.inl hx)
        · rcases (mem_putK hz).1 hl with hl | ⟨hl, _⟩
          · obtain ⟨rfl, rfl⟩ := Prod.mk.inj hl; exact .inr rfl
          · exact .inl (.inr ⟨t, l, hl, rfl⟩)
end
end Go.Proofs.YtmonlaoaengfdaaGreatDoor.Oct
namespace Go.Proofs.YtmonlaoaengfdaaGreatDoor.Oct
open Go.RowKit Base
attribute [local irreducible] Ys Yc Ht HtS HtIn Wl Wd W Mem pf dpf Wa Wo
open Conf (Fwd fwv)
theorem InvA.withMs {k : NK} {p : NP} {o : Option Int} (h : InvA k p o) (ms : List Mpg) : InvA k { p with ms := ms } o := ⟨h.tie, h.ids, h.idn, h.lst, h.whl, h.lse, h.lsi, h.inj, h.rng⟩
theorem InvA.withTk {k : NK} {p : NP} {o : Option Int} (h : InvA k p o) (tk : Nat → Option Nat) (TT : Nat → Nat → Bool) : InvA k { p with tk := tk, TT := TT } o := ⟨h.tie, h.ids, h.idn, h.lst, h.whl, h.lse, h.lsi, h.inj, h.rng⟩
theorem InvA.bd {k : NK} {p : NP} {o : Option Int} (h : InvA k p o) (hn : p.es.length ≤ 1000000) (t : EndT) : (0 ≤ (getK (⟨0, 0⟩ : Lse) p.zs t).count ∧ (getK (⟨0, 0⟩ : Lse) p.zs t).count ≤ 1000000) ∧ (0 ≤ (getK (⟨0, 0⟩ : Lse) p.zs t).ext ∧ (getK (⟨0, 0⟩ : Lse) p.zs t).ext ≤ 65535) := by
  cases hh : hasK p.zs t with
  | true =>
    obtain ⟨h1, h2, h3, _⟩ := h.lse _ _ (getK_in (v0 := (⟨0, 0⟩ : Lse)) hh)
    have : cntE t p.es ≤ p.es.length := List.countP_le_length
    exact ⟨⟨by omega, by omega⟩, h3⟩
  | false => rw [get_not hh]; exact ⟨⟨by decide, by decide⟩, by decide, by decide⟩
theorem InvA.zrg {k : NK} {p : NP} {o : Option Int} (h : InvA k p o) : ∀ x ∈ p.zs, 0 ≤ x.1.1 ∧ x.1.1 ≤ 255 ∧ 0 ≤ x.2.ext ∧ x.2.ext ≤ 65535 := fun z hz => by
  obtain ⟨h1, h2, h3, _⟩ := h.lse z.1 z.2 hz
  obtain ⟨x, hx, hg⟩ := cntE_pos (t := z.1) (es := p.es) ma1
  have hr := (h.rng x hx).pr
  have he : z.1.1 = x.2.pr := by rw [← (gvE_iff.1 hg).2]; rfl
  rw [he]; exact ⟨hr.1, hr.2, h3.1, h3.2⟩
structure Inv (k : NK) (s : NS) : Prop where
  ok : NOk k s
  a : InvA k s.p none
  b : InvB k s.p
  fr : RngF k.fx
  fu : FxU k.fx
  mr : RngM s.p.ms
theorem RngF.rs {fx : List Conf.Fwd} (h : RngF fx) : ∀ x ∈ fx, 0 ≤ x.proto ∧ x.proto ≤ 255 ∧ 0 ≤ x.port ∧ x.port ≤ 65535 := fun x hx => by have := h x hx; exact ⟨this.1, this.2.1, this.2.2.1, this.2.2.2.1⟩
theorem RngM.rs {ms : List Mpg} (h : RngM ms) : ∀ x ∈ ms, 0 ≤ x.proto ∧ x.proto ≤ 255 ∧ 0 ≤ x.ext ∧ x.ext ≤ 65535 := fun x hx => by have := h x hx; exact ⟨this.1, this.2.1, this.2.2.1, this.2.2.2.1⟩
theorem NOk.esl {k : NK} {s : NS} {o : Option Int} (ok : NOk k s) (h : InvA k s.p o) : s.p.es.length ≤ 50000 := by have := h.xln; have := (NOk.len ok).1; omega
theorem NG.split (k : NK) (s : NS) : NG k s = ((NBs k s).take 12).flatten ++ s.p.es.map entB := by
  have e : NBs k s = (NBs k s).take 12 ++ [s.p.es.map entB] := rfl
  show (NBs k s).flatten = _
  conv => lhs; rw [e]
  rw [List.flatten_append, List.flatten_cons, List.flatten_nil, List.append_nil]
theorem foc_perm {α : Type} {N : List α} {A B R : List α} {x : α} : (N ++ (A ++ B) ++ (x :: R)).Perm (N ++ (A ++ x :: B) ++ R) := by
  simp only [List.append_assoc]
  refine List.Perm.append_left _ (List.Perm.append_left _ ?_)
  rw [List.cons_append]
  exact List.perm_middle
section
variable {w0 w : World} {M : List Nat} {R : List (List Blk)} {k : NK} {s : NS} {A B : List (Nat × SesE)} {b : Nat} {e : SesE}
theorem NG.foc (he : s.p.es = A ++ (b, e) :: B) (h : Mem w0 M (NG k s :: R) w) : Mem w0 M (NG k (stE s (A ++ B)) :: [entB (b, e)] :: R) w := by
  refine h.perm ?_
  rw [List.flatten_cons, List.flatten_cons, List.flatten_cons, NG.split, NG.split]
  show ((((NBs k s).take 12).flatten ++ (A ++ B).map entB) ++ ([entB (b, e)] ++ R.flatten)).Perm _
  rw [he, List.map_append, List.map_append, List.map_cons]
  exact foc_perm
theorem NG.unf (he : s.p.es = A ++ B) (h : Mem w0 M (NG k s :: [entB (b, e)] :: R) w) : Mem w0 M (NG k (stE s (A ++ (b, e) :: B)) :: R) w := by
  refine h.perm ?_
  rw [List.flatten_cons, List.flatten_cons, List.flatten_cons, NG.split, NG.split]
  show ((((NBs k s).take 12).flatten ++ (A ++ (b, e) :: B).map entB) ++ R.flatten).Perm _
  rw [he, List.map_append, List.map_append, List.map_cons]
  exact foc_perm.symm
end
theorem stE_ok {k : NK} {s : NS} (ok : NOk k s) (es : List (Nat × SesE)) : NOk k (stE s es) := ⟨ok.okm, ok.okf, ok.oks, ok.oki, ok.oke, ok.okw, ok.hmn, ok.hfn, ok.hmo, ok.hxn, ok.hyn, ok.hzn, ok.hwn, ok.hxs, ok.hys, ok.hzs, ok.hws, ok.hz⟩
def stM (s : NS) (g : FS) (ms : List Mpg) : NS := { s with gm := g, p := { s.p with ms := ms } }
theorem stM_ok {k : NK} {s : NS} (ok : NOk k s) {g : FS} {ms : List Mpg} (hg : g.ok 5 ms.length) (hm : ms.length ≤ 100000) : NOk k (stM s g ms) := ⟨hg, ok.okf, ok.oks, ok.oki, ok.oke, ok.okw, hm, ok.hfn, ok.hmo, ok.hxn, ok.hyn, ok.hzn, ok.hwn, ok.hxs, ok.hys, ok.hzs, ok.hws, ok.hz⟩
theorem NG.mrg {w0 w : World} {M : List Nat} {R : List (List Blk)} {k : NK} {s : NS} {g : FS} {ms : List Mpg} (h : Mem w0 M ((NG k s).set 0 (cb k.nb (natL k (stM s g ms)) 91) :: g.seg 26 (mm mpM ms) :: R) w) : Mem w0 M (NG k (stM s g ms) :: R) w := by
  have e1 : (NG k s).set 0 (cb k.nb (natL k (stM s g ms)) 91) = ([[cb k.nb (natL k (stM s g ms)) 91], s.gm.seg 26 (mm mpM s.p.ms)] ++ (NBs k s).drop 2).flatten := by rfl
  have h2 : Mem w0 M ([[cb k.nb (natL k (stM s g ms)) 91], s.gm.seg 26 (mm mpM s.p.ms), ((NBs k s).drop 2).flatten, g.seg 26 (mm mpM ms), R.flatten]) w := Mem.flat (by
    rw [List.flatten_cons, e1]; simp only [List.flatten_append, List.flatten_cons, List.flatten_nil, List.append_nil, List.append_assoc]) h
  have h3 := h2.pick (LL' := [[cb k.nb (natL k (stM s g ms)) 91], g.seg 26 (mm mpM ms), ((NBs k s).drop 2).flatten, R.flatten]) [0, 3, 2, 4] ma2 rfl
  refine Mem.flat ?_ h3
  have e2 : NG k (stM s g ms) = ([[cb k.nb (natL k (stM s g ms)) 91], g.seg 26 (mm mpM ms)] ++ (NBs k s).drop 2).flatten := by rfl
  rw [List.flatten_cons, e2, List.flatten_append]
  first | done | simp only [List.flatten_cons, List.flatten_nil, List.append_nil, List.append_assoc]
def keepR (k : NK) (ms : List Mpg) (es : List (Nat × SesE)) : List (Nat × SesE) := es.filter fun x => hoV ms k.fx x.2
theorem drop_at {es : List (Nat × SesE)} {i b : Nat} {e : SesE} (h : es[i]? = some (b, e)) : es.drop i = (b, e) :: es.drop (i + 1) := by
  obtain ⟨hi, he⟩ := List.getElem?_eq_some_iff.1 h
  rw [List.drop_eq_getElem_cons hi, he]
theorem InvA.zs0 {k : NK} {p : NP} {o : Option Int} (h : InvA k p o) (h0 : p.es.length = 0) : p.zs.length = 0 := by
  rw [List.length_eq_zero_iff] at h0 ⊢
  cases hz : p.zs with
  | nil => rfl
  | cons x xs =>
    obtain ⟨_, h1, _, _⟩ := h.lse x.1 x.2 (by rw [hz]; exact List.mem_cons_self)
    obtain ⟨y, hy, _⟩ := cntE_pos (t := x.1) (es := p.es) ma1
    rw [h0] at hy; cases hy
theorem clonem_n (ms : List Mpg) (ma : Option Addr) (mc_ : Nat) (w : World) (hms : At w ma (mm mpM ms)) (hmn : ms.length ≤ 100000) : Calls Tryz.prog 37 #[Value.slice ma ms.length mc_] w (RetM w (fun g' : FS => g'.ok 5 ms.length) (fun g' => .slice g'.a ms.length g'.cap) [] (fun g' => [g'.seg 26 (mm mpM ms)])) := by
 refine calls_W (M := []) (LL := []) (n := 8) Tryz.func37 rfl rfl ma6 (Mem.refl _) (W.seq (fun K1 hK1 => ?_))
 refine W.region (Wl.run 1 ma0 (Wl.nil (hK1 _ _ _ (W.seq (fun K2 hK2 => ?_)))))
 refine W.seq (fun K3 hK3 => W.region (Wl.run 1 ma0 (Wl.ys (v := bV ma.isNone) rfl rfl (Ys.pure (fun _ => by generalize ma = a_; cases a_ <;> kernel_rfl)) (Wl.nil ?_))))
 refine hK3 _ _ _ (W.prune' [0, 4] [Value.slice ma ms.length mc_, bV ma.isNone] ma0 (fun f4 => ?_))
 refine W.cond (ma.isNone) ma0 (fun h5 => ?_) (fun h6 => ?_)
 ·refine W.seq (fun K7 hK7 => W.region (Wl.run 1 ma0 (Wl.nil (hK7 _ _ _ ?_))))
  refine W.ret ?_
  have hx0_ : ms = [] := List.length_eq_zero_iff.1 (by have z_ := At.of_none hms h5; rw [mpM_zlen] at z_; omega)
  show ∀ w_, _ → bodyPostM (fence none) 0 Tryz.prog Tryz.f37 _ Exit.ret _ w_
  exact fun w_ hS_ => fin_ret (ret1 rfl (RV.tmp (v := Value.slice none 0 0) ma0) hS_ ⟨FS.nul, (by rw [hx0_]; exact FS.nul_ok 5), congrArg Ending.returned ((by rw [hx0_]; rfl)), (Mem.cast (by rw [hx0_]; rfl) (Mem.push hS_))⟩)
 ·refine W.skip' (hK2 _ _ _ (W.prune' [0] [Value.slice ma ms.length mc_] ma0 (fun f8 => W.seq (fun K9 hK9 => W.region ?_))))
  refine Wl.ht rfl (Ht.made (mk := fun b_ => .slice (some ⟨b_, 0, none⟩) 0 0) (t := 26) (cs := []) rfl (fun _ => kr)) (fun p5 => Wl.run 1 ma0 (Wl.htS rfl (HtS.append (eu := 26) (xv := Value.slice ma ms.length mc_) (i := 0) (g := (FS.mk false p5 0 [])) (e := 26) (ii := (Tryz.prog.info? 26).getD default) (z := aV zl6) (sz := 5) (bytes := 16) (nn := 0) (m := ms.length) (k := ms.length) (xs := mm mpM []) (news := mm mpM ms) (cs' := mm mpM ms) (Lo := fun g10 => [g10.seg 26 (mm mpM ms)]) rfl rfl ma0 ma0 ma0 ma0 ma0 ma0 ma0 ma0 ma0 rfl (FS.lit_ok ma2) rfl (fun _ => rfl) (Src.at (a := ma) (mm_len (g := mpM) (sz := 5) (fun _ => rfl) _) (fun w_ h_ => (hms.mem0 h_))) (mm_len (g := mpM) (sz := 5) (fun _ => rfl) _) (mm_one mpM_one _) ma5 ma8 ma5 rfl (fun _ => rfl)) (fun g10 hx15 => ?_)))
  obtain ⟨ok11, hn12, hn13⟩ := hx15
  refine Wl.run 1 ma0 (Wl.nil (hK9 _ _ _ (W.prune' [2] [sV g10 ms.length] ma0 (fun f16 => W.ret ?_))))
  show ∀ w_, _ → bodyPostM (fence none) 0 Tryz.prog Tryz.f37 _ Exit.ret _ w_
  exact fun w_ hS_ => fin_ret (ret1 rfl (RV.tmp (v := sV g10 ms.length) ma0) hS_ ⟨g10, ok11, rfl, (hS_.pick [0] ma2 rfl)⟩)
abbrev cLb9_2187_0 (k : NK) (p2 : Nat) : List Blk := [cb p2 [Value.pointer (some ⟨k.nb, 0, none⟩)] 35]
theorem rules_n (k : NK) (s : NS) (M : List Nat) (ms : List Mpg) (ma : Option Addr) (mc_ : Nat) (w : World) (ok : NOk k s) (hl : Mem w M [NG k s] w) (hA : InvA k s.p none) (hF : RngF k.fx) (hU : FxU k.fx) (hM : RngM ms) (hms : At w ma (mm mpM ms)) (hmne : 0 < (mm mpM ms).length → (ma.getD default).block ∉ M) (hmn : ms.length ≤ 100000) (hf0 : k.fx.length = 0) (hx0 : s.p.xs.length = 0) : Calls Tryz.prog 11 #[Value.pointer (some ⟨k.nb, 0, none⟩), Value.slice ma ms.length mc_] w (RetM w (fun r : NS => Inv k r ∧ r.p.ms = ms ∧ r.p.lst = s.p.lst ∧ r.p.es = keepR k ms s.p.es) (fun _ => .tuple #[]) M (fun r => [NG k r])) := by
 obtain ⟨lxs, lys, lzs, lms, lfs⟩ := NOk.len ok; have hAm := hms; clear hms; have hms := hAm
 refine calls_W (M := M) (LL := [NG k s]) (n := 27) Tryz.func11 rfl rfl ma6 (hl) (W.seq (fun K1 hK1 => ?_))
 refine W.region (Wl.ht rfl (Ht.box (v := Value.pointer (some ⟨k.nb, 0, none⟩)) (cs := [Value.pointer (some ⟨k.nb, 0, none⟩)]) rfl rfl ma0 rfl) (fun p2 => ?_))
 refine Wl.nil (hK1 _ _ _ (W.seq (fun K2 hK2 => W.draws [(0, true), (1, false), (2, false), (3, false), (4, false), (5, false)] [0] (Mem w M [cLb9_2187_0 k p2, NG k s]) ma0 ma0 ma0 rfl ma0 (fun _ _ h_ => h_.drawn _) (fun _ h_ => h_) (Wd.ys rfl rfl rfl (Ys.l1 p2 0 0 0 Tryz.isAgg35) ?_))))
 refine Wd.yc (v := Value.slice ma ms.length mc_) rfl rfl rfl (Ys.yc (Ys.pure (fun _ => kr))) (.inr fun _ h_ => h_) (Wd.htS rfl rfl (HtS.call (β := FS) (k := 37) (args := #[Value.slice ma ms.length mc_]) (Lin := []) (Lk := [cLb9_2187_0 k p2, NG k s]) (Mi := []) (Lo := fun gm3 => [gm3.seg 26 (mm mpM ms), cLb9_2187_0 k p2, NG k s]) [] [0, 1] rfl (fun _ => kr) ma2 rfl rfl rfl (fun w_ hm_ hl_ => (clonem_n ms ma mc_ _ (hms.mem' hm_ hmne) ma12)) (fun _ => rfl)) (.inr fun _ _ h_ => h_.pick [1, 2] ma2 rfl) (fun gm3 okm4 => ?_))
 refine Wd.yc (v := Value.pointer (some ⟨k.nb, 0, none⟩)) rfl rfl rfl (Ys.yc (Ys.pure (fun _ => kr))) (.inl ma0) (Wd.yc (v := Value.pointer (some ⟨k.nb, 28, none⟩)) rfl rfl rfl (Ys.yc (Ys.pure (fun _ => kr))) (.inl ma0) (Wd.ht rfl rfl (Ht.store (b := k.nb) (o' := 28) (i := 2) (j := 0) (cs := natL k s) (cs' := natL k (stM s gm3 ms)) (v := Value.slice gm3.a ms.length gm3.cap) (LL' := [gm3.seg 26 (mm mpM ms), cLb9_2187_0 k p2, (NG k s).set 0 (cb k.nb (natL k (stM s gm3 ms)) 91)]) rfl rfl ma0 ma0 Tryz.sizeOf56 rfl rfl rfl (by rw [show (natL k s).length = 290 from natC_len rfl]; decide) ((natC_set_lo rfl ma2).trans rfl) rfl) (.inl ma0) (fun _ => Wd.nil (hK2 _ _ _ ?_))))
 refine W.prune' [2] [pV p2 0] ma0 (fun f6 => W.seq (fun K7 hK7 => ?_))
 refine W.seq (fun K8 hK8 => ?_)
 obtain ⟨s9, hzs9⟩ : ∃ z, z = (stM s gm3 ms) := ⟨_, rfl⟩
 have ok10 : NOk k s9 := hzs9 ▸ stM_ok ok okm4 ma1
 have hp11 : s9.p = { s.p with ms := ms } := by rw [hzs9]; rfl
 obtain ⟨lxs9, lys9, lzs9, lms9, lfs9⟩ := NOk.len ok10
 refine W.conseq (S' := Mem w M [NG k s9, cLb9_2187_0 k p2]) (fun w_ h_ => hzs9 ▸ NG.mrg (h_.pick [2, 0, 1] ma2 rfl)) (W.region (Wl.ys rfl rfl (Ys.l1 p2 0 1 0 Tryz.isAgg35) (Wl.run 2 ma0 (Wl.ys rfl rfl (Ys.load (b := k.nb) (o' := 29) (i := 0) (j := 0) (cs := natL k s9) (v := Value.pointer (some ⟨k.ts, 0, none⟩)) rfl ma0 Tryz.isAgg85 rfl rfl ((natC_lo rfl ma2).trans rfl)) ?_))))
 refine Wl.htS rfl (HtS.call (β := Nat) (k := 38) (args := #[Value.pointer (some ⟨k.ts, 0, none⟩)]) (Lin := []) (Lk := [NG k s9, cLb9_2187_0 k p2]) (Mi := []) (Lo := fun ab12 => [[cb ab12 [Value.pointer (some ⟨k.ts, 0, none⟩)] 85], NG k s9, cLb9_2187_0 k p2]) [] [0, 1] rfl (fun _ => kr) ma2 rfl rfl rfl (fun w_ hm_ hl_ => (allS_c k.ts _)) (fun _ => rfl)) (fun ab12 _ => Wl.nil (hK8 _ _ _ (W.prune' [2, 15] [pV p2 0, Value.func (.func 72) #[] #[pV ab12 0]] ma0 (fun f14 => W.block ?_))))
 have q_s9xs : s9.p.xs = s.p.xs := by rw [hp11]
 have q_s9xs : s9.p.xs = s.p.xs := by rw [hp11]
 have q_s9xs : s9.p.xs = s.p.xs := by rw [hp11]
 have q_s9xs : s9.p.xs = s.p.xs := by rw [hp11]
 refine W.range2 (σ := NS) (enc := fun i => [aV [iV .u8 (((s.p.xs.getD i dS).1).1), iV .u32 (((s.p.xs.getD i dS).1).2.1), iV .u32 (((s.p.xs.getD i dS).1).2.2.1), iV .u16 (((s.p.xs.getD i dS).1).2.2.2.1), iV .u16 (((s.p.xs.getD i dS).1).2.2.2.2)], Value.pointer (optA ((s.p.xs.getD i dS).2))]) (N := s.p.xs.length) (Lu := fun (gs_ : NS) => [NG k gs_, cLb9_2187_0 k p2]) (Li := [[cb ab12 [Value.pointer (some ⟨k.ts, 0, none⟩)] 85]]) (Lk := []) [1, 2] [0] [] s9 (fun i (gs_ : NS) => NOk k gs_ ∧ InvA k gs_.p none ∧ gs_.p.es = keepR k ms (s.p.es.take i) ++ s.p.es.drop i ∧ gs_.p.ms = ms ∧ gs_.p.lst = s.p.lst) (fun c_ (gs_ : NS) => False) [16, 17] ma0 (fun _ _ => rfl) ma2 (by rfl) rfl rfl rfl (fun _ => rfl) (⟨ok10, (by rw [hp11]; exact hA.withMs ms), (by rw [hp11]; rfl), (by rw [hp11]), (by rw [hp11])⟩) (fun D_ l_ ob_ w1_ hm_ => (allS_it s.p.xs s9.gs.a s9.gs.cap k.mo k.ts ab12 _ w1_ (by rw [← q_s9xs]; exact (NG.atS (i := 2) hm_ rfl)) (by rw [← q_s9xs]; exact (NG.xs (i := 2) hm_ rfl ok10)) ma12)) ?_ ?_ ?_
 ·intro D15 l16 ob17 ob18 i s20 u21 Mu22 J23 hi24 hp25 hcv26 hJ27
  obtain ⟨sg, rfl⟩ : ∃ a_, a_ = s20 := ⟨_, rfl⟩
  obtain ⟨oksg, hI, hes, hms, hlst⟩ := hp25
  obtain ⟨hie, eb, ee, hes0, heg, hxe⟩ := tie_at hA.tie hi24
  have hfe : sg.p.es = keepR k ms (s.p.es.take i) ++ (eb, ee) :: s.p.es.drop (i + 1) := by rw [hes, drop_at hes0]
  have hej : sg.p.es[(keepR k ms (s.p.es.take i)).length]? = some (eb, ee) := by rw [hfe, List.getElem?_append_right (Nat.le_refl _)]; simp
  obtain ⟨lxsg, lysg, lzsg, lmsg, lfsg⟩ := NOk.len oksg
  exfalso; omega
 ·intro D28 l29 ob30 s31 hp32
  obtain ⟨sg, rfl⟩ : ∃ a_, a_ = s31 := ⟨_, rfl⟩
  obtain ⟨oksg, hI, hes, hms, hlst⟩ := hp32
  obtain ⟨lxsg, lysg, lzsg, lmsg, lfsg⟩ := NOk.len oksg
  refine Mem.pickK (LL' := [[cb ab12 [Value.pointer (some ⟨k.ts, 0, none⟩)] 85], NG k sg, cLb9_2187_0 k p2, dB D28]) [4, 2, 3, 0] ma2 rfl (hK7 _ _ _ (W.pick (LL' := [NG k sg, cLb9_2187_0 k p2, dB D28]) [1, 2, 3] ma2 rfl (W.prune' [2] [pV p2 0] ma0 (fun f33 => ?_))))
  have hz1_ : sg.p.zs.length = 0 := hI.zs0 (by rw [hes, List.length_append]; have z_ := List.length_filter_le (fun x : Nat × SesE => hoV ms k.fx x.2) (s.p.es.take s.p.xs.length); have y_ := hx0; rw [hA.tie, List.length_map] at y_; unfold keepR; simp only [List.length_take, List.length_drop] at *; omega)
  have hfr_ := hF.rs
  have hmr_ : ∀ x ∈ sg.p.ms, 0 ≤ x.proto ∧ x.proto ≤ 255 ∧ 0 ≤ x.ext ∧ x.ext ≤ 65535 := by rw [hms]; exact hM.rs
  refine W.region (Wl.ys rfl rfl (Ys.l1 p2 0 1 0 Tryz.isAgg35) (Wl.htS rfl (HtS.call (β := Nat → Option Nat) (k := 36) (args := #[Value.pointer (some ⟨k.nb, 0, none⟩)]) (Lin := [NG k sg]) (Lk := [cLb9_2187_0 k p2, dB D28]) (Lo := fun tk34 => [NG k (stQ sg tk34 (tkn (fxP k.fx ++ msP sg.p.ms ++ zsP sg.p.zs))), cLb9_2187_0 k p2, dB D28]) [0] [1, 2] rfl (fun _ => kr) ma2 rfl rfl rfl (fun w_ hm_ hl_ => (reserve_n k sg _ _ oksg hl_ hfr_ hmr_ hI.zrg hf0 hz1_)) (fun _ => rfl)) (fun tk34 ok35 => Wl.nil ?_)))
  have hK_ : sg.p.es = keepR k ms s.p.es := by rw [hes, List.take_of_length_le (by rw [hA.tie, List.length_map]; exact Nat.le_refl _), List.drop_eq_nil_of_le (by rw [hA.tie, List.length_map]; exact Nat.le_refl _), List.append_nil]
  show ∀ w_, _ → bodyPostM (fence none) 0 Tryz.prog Tryz.f11 _ Exit.normal _ w_
  exact fun w_ h0_ => fin_mark (h0_.mark (i := 2) rfl).1 (by have hS_ : Mem w M [NG k (stQ sg tk34 (tkn (fxP k.fx ++ msP sg.p.ms ++ zsP sg.p.zs))), cLb9_2187_0 k p2, [⟨D28, .deferred none⟩]] _ := (h0_.mark (i := 2) rfl).2; exact ret0 rfl  ⟨(stQ sg tk34 (tkn (fxP k.fx ++ msP sg.p.ms ++ zsP sg.p.zs))), ⟨⟨ok35, hI.withTk _ _, ⟨fun x hx => by have z_ : x ∈ keepR k ms s.p.es := hK_ ▸ hx; have y_ := (List.mem_filter.1 z_).2; show hoV sg.p.ms k.fx x.2 = true; rw [hms]; exact y_, rfl⟩, hF, hU, by show RngM sg.p.ms; rw [hms]; exact hM⟩, hms, hlst, hK_⟩, rfl, (hS_.pick [0] ma2 rfl)⟩)
 ·intro D_ l_ ob_ c_ s_ h_; exact h_.elim
end Go.Proofs.YtmonlaoaengfdaaGreatDoor.Oct
namespace Go.Proofs.YtmonlaoaengfdaaGreatDoor.Base
open Go.RowKit
section
variable {σ : Type} {r : Option Nat} {P : Program} {n : Nat} {ds : List Deferred} {f : Nat → Value} {S : World → Prop} {o : Oper} {d : Nat} {w0 : World} {M : List Nat} {LL : List (List Blk)} {yv : Value} {args : Array Value}
theorem Yld.mono {T T' : Bool → World → Prop} (h : ∀ b w, T b w → T' b w) (hy : Yld P yv args S T) : Yld P yv args S T' := fun w hw => by
  obtain ⟨nx, hx, hn⟩ := hy w hw
  refine ⟨nx, hx, ?_⟩
  cases nx <;> simp only [YN] at hn ⊢ <;> try exact hn
  case enter k a => exact Calls.mono hn (by rintro e w' ⟨b, rfl, hb⟩; exact ⟨b, rfl, h b w' hb⟩)
  case round l fn tmps assign body => exact hn.mono (by rintro e w' ⟨b, rfl, hb⟩; exact ⟨b, rfl, h b w' hb⟩)
end
end Go.Proofs.YtmonlaoaengfdaaGreatDoor.Base
namespace Go.Proofs.YtmonlaoaengfdaaGreatDoor.Oct
open Go.RowKit Base
attribute [local irreducible] Ys Yc Ht HtS HtIn Wl Wd W Mem pf dpf Wa Wo
open Conf (Fwd fwv)
theorem NG.ws {w0 w : World} {M : List Nat} {LL : List (List Blk)} {k : NK} {s : NS} {i : Nat} (h : Mem w0 M LL w) (hi : LL[i]? = some (NG k s)) (ok : NOk k s) : At w s.gw.a (mm spk s.p.ws) := FS.at (i := 9) (NG.get h hi) rfl (FS.nil_cs ok.okw (mm_len spk_len _))
end Go.Proofs.YtmonlaoaengfdaaGreatDoor.Oct
namespace Go.Proofs.YtmonlaoaengfdaaGreatDoor.Oct
open Go.RowKit Base
attribute [local irreducible] Ys Yc Ht HtS HtIn Wl Wd W Mem pf dpf Wa Wo
open Conf (Fwd fwv)
/-! What has ended is taken out. -/
theorem mem_split {es : List (Nat × SesE)} {x : Nat × SesE} (h : x ∈ es) : ∃ A B, es = A ++ (x.1, x.2) :: B := by
  obtain ⟨A, B, e⟩ := List.append_of_mem h
  exact ⟨A, B, e⟩
end Go.Proofs.YtmonlaoaengfdaaGreatDoor.Oct
namespace Go.Proofs.YtmonlaoaengfdaaGreatDoor.Oct
open Go.RowKit Base
attribute [local irreducible] Ys Yc Ht HtS HtIn Wl Wd W Mem pf dpf Wa Wo
open Conf (Fwd fwv)
theorem InvA.byFl {k : NK} {p : NP} {o : Option Int} (h : InvA k p o) (hs : Srt ordF p.xs) {f : FlwT} (hf : hasK p.xs f = true) : ∃ A B b e, p.es = A ++ (b, e) :: B ∧ flE e = f ∧ getK none p.xs f = some b := by
  obtain ⟨v, hv⟩ := hasK_mem.1 hf
  rw [h.tie] at hv
  obtain ⟨x, hx, e1⟩ := List.mem_map.1 hv
  obtain ⟨A, B, e2⟩ := mem_split hx
  have e3 : flE x.2 = f := (Prod.mk.inj e1).1
  refine ⟨A, B, x.1, x.2, e2, e3, getK_mem hs ?_⟩
  rw [h.tie, ← e3]; exact List.mem_map.2 ⟨x, hx, rfl⟩
theorem mid_at {A B : List (Nat × SesE)} {es : List (Nat × SesE)} {b : Nat} {e : SesE} (h : es = A ++ (b, e) :: B) : es[A.length]? = some (b, e) := by
  rw [h, List.getElem?_append_right (Nat.le_refl _)]; simp
def AdmN (k : NK) (p : NP) (f : FlwT) (ext : Int) (bg : Bool) (r : NP × Option Nat × Option (Nat × SesE) × Int) : Prop :=
  r.1 = p ∧ r.2.1 = none ∧ r.2.2.1 = none ∧ (r.2.2.2 = 20 ∨ r.2.2.2 = 21) ∧ ((hasK p.xs f = false ∧ (bg = false ∨ k.mo ≤ (p.xs.length : Int))) ∨ ∃ x ∈ p.es, flE x.2 = f ∧ x.2.ext ≠ ext)
def AdmY (k : NK) (p : NP) (f : FlwT) (ext : Int) (gv bg : Bool) (r : NP × Option Nat × Option (Nat × SesE) × Int) : Prop :=
  r.2.2.2 = 0 ∧ hasK p.xs f = false ∧ bg = true ∧ (p.xs.length : Int) < k.mo ∧ ∃ xb pb, r.2.1 = some xb ∧ r.2.2.1 = some (xb, nwE f ext p.lst gv) ∧ r.1 = addP k p f ext gv xb pb
abbrev dLb12_2277_0 (ds dt fm sr : Int) (pr : Nat) : List Value := [nV .u8 pr, iV .u32 sr, iV .u32 ds, iV .u16 fm, iV .u16 dt]
abbrev dLb12_2277_1 (ds dt fm sr : Int) (ep pr : Nat) (s : NS) : List Value := [nV .u8 pr, iV .u32 sr, iV .u32 ds, iV .u16 fm, iV .u16 dt, nV .u16 ep, iV .u64 0, bV false, bV false, bV false, bV false, bV false, bV false, iV .u64 s.p.lst, bV false]
theorem admitF_n (k : NK) (s : NS) (M : List Nat) (pr : Nat) (sr ds fm dt : Int) (ep : Nat) (ttl pro pid src dst : Int) (ba : Option Addr) (bl bc : Nat) (bg : Bool) (w : World) (ok : NOk k s) (hl : Mem w M [NG k s] w) (hA : InvA k s.p none) (hpr : pr < 256) (hep : ep < 65536) (hct : 0 ≤ (getK (⟨0, 0⟩ : Lse) s.p.zs (((pr : Nat) : Int), sr, fm)).count ∧ (getK (⟨0, 0⟩ : Lse) s.p.zs (((pr : Nat) : Int), sr, fm)).count ≤ 1000000) (hbg : ∀ LL w1, Mem w M LL w1 → Calls Tryz.prog 99 #[pkG ttl pro pid src dst ba bl bc] w1 (Ret w1 (.bool bg))) (hno0_ : hasK s.p.xs (((pr : Nat) : Int), sr, ds, fm, dt) = false) : Calls Tryz.prog 48 #[Value.pointer (some ⟨k.nb, 0, none⟩), aV [nV .u8 pr, iV .u32 sr, iV .u32 ds, iV .u16 fm, iV .u16 dt], nV .u16 ep, bV false, aV [iV .u8 ttl, iV .u8 pro, iV .u16 pid, iV .u32 src, iV .u32 dst, Value.slice ba bl bc]] w (RetM w (fun r : NS × Option Nat × Option (Nat × SesE) × Int => NOk k r.1 ∧ (AdmN k s.p (((pr : Nat) : Int), sr, ds, fm, dt) (ep : Int) bg (r.1.p, r.2) ∨ AdmY k s.p (((pr : Nat) : Int), sr, ds, fm, dt) (ep : Int) false bg (r.1.p, r.2))) (fun r => .tuple #[.pointer (optA r.2.1), .int .i64 r.2.2.2]) M (fun r => [NG k r.1, entO r.2.2.1])) := by
 obtain ⟨lxs, lys, lzs, lms, lfs⟩ := NOk.len ok
 refine calls_W (M := M) (LL := [NG k s]) (n := 61) Tryz.func48 rfl rfl ma6 (hl) (W.seq (fun K1 hK1 => ?_))
 refine W.region (Wl.ht rfl (Ht.box (v := aV (dLb12_2277_0 ds dt fm sr pr)) (cs := (dLb12_2277_0 ds dt fm sr pr)) rfl rfl ma0 rfl) (fun p6 => ?_))
 refine Wl.ht rfl (Ht.box (v := aV [iV .u8 ttl, iV .u8 pro, iV .u16 pid, iV .u32 src, iV .u32 dst, Value.slice ba bl bc]) (cs := [iV .u8 ttl, iV .u8 pro, iV .u16 pid, iV .u32 src, iV .u32 dst, Value.slice ba bl bc]) rfl rfl ma0 rfl) (fun p9 => Wl.run 2 ma0 (Wl.nil (hK1 _ _ _ (W.prune' [0, 2, 3, 6, 9] [Value.pointer (some ⟨k.nb, 0, none⟩), nV .u16 ep, bV false, pV p6 0, pV p9 0] ma0 (fun f2 => ?_)))))
 refine W.seq (fun K3 hK3 => ?_)
 have hhk := hno0_
 refine W.draws [(0, true), (1, true), (2, true), (3, true), (4, false), (5, false), (6, false), (7, true), (8, true), (9, false), (10, false)] [0, 1, 2, 3, 7, 8] (Mem w M [[cb p9 [iV .u8 ttl, iV .u8 pro, iV .u16 pid, iV .u32 src, iV .u32 dst, Value.slice ba bl bc] 40], [cb p6 (dLb12_2277_0 ds dt fm sr pr) 47], NG k s]) ma0 ma0 ma0 rfl ma0 (fun _ _ h_ => h_.drawn _) (fun _ h_ => h_) (Wd.run 3 ma0 (Wd.ys rfl rfl rfl (Ys.load (b := k.nb) (o' := 29) (i := 2) (j := 0) (cs := natL k s) (v := Value.pointer (some ⟨k.ts, 0, none⟩)) rfl ma0 Tryz.isAgg85 rfl rfl ((natC_lo rfl ma2).trans rfl)) (Wd.yc (v := aV (dLb12_2277_0 ds dt fm sr pr)) rfl rfl rfl (Ys.yc (Ys.loadN (b := p6) (o' := 0) (i := 1) (j := 0) (vs := (dLb12_2277_0 ds dt fm sr pr)) rfl ma0 Tryz.isAgg47 Tryz.sizeOf47 rfl rfl rfl rfl)) (.inr fun _ h_ => h_) (Wd.yc (v := Value.tuple #[Value.pointer (optA (getK none s.p.xs (((pr : Nat) : Int), sr, ds, fm, dt))), bV (hasK s.p.xs (((pr : Nat) : Int), sr, ds, fm, dt))]) rfl rfl rfl (Yc.call (fun _ => kr) (fun w_ hm_ => (getS_c s.p.xs s.gs.a s.gs.cap k.mo k.ts (((pr : Nat) : Int), sr, ds, fm, dt) _ (NG.atS (i := 2) hm_ rfl) (NG.xs (i := 2) hm_ rfl ok) ma12 ok.hxs))) (.inr fun _ h_ => h_) ?_))))
 refine Wd.yc (v := Value.tuple #[Value.pointer (optA (getK none s.p.xs (((pr : Nat) : Int), sr, ds, fm, dt))), bV (hasK s.p.xs (((pr : Nat) : Int), sr, ds, fm, dt))]) rfl rfl rfl (Ys.yc (Ys.pure (fun _ => kr))) (.inr fun _ h_ => h_) (Wd.ys (v := Value.pointer none) rfl rfl rfl ((Ys.pure (v := Value.pointer (optA (getK none s.p.xs (((pr : Nat) : Int), sr, ds, fm, dt)))) (fun _ => kr)).conseq ((by rw [get_not hhk]; rfl))) (Wd.ys (v := bV false) rfl rfl rfl ((Ys.pure (v := bV (hasK s.p.xs (((pr : Nat) : Int), sr, ds, fm, dt))) (fun _ => kr)).conseq (bool_congr (hhk))) (Wd.yc (v := Value.pointer none) rfl rfl rfl (Ys.yc (Ys.pure (fun _ => kr))) (.inr fun _ h_ => h_) (Wd.yc (v := bV false) rfl rfl rfl (Ys.yc (Ys.pure (fun _ => kr))) (.inl ma0) ?_))))
 refine Wd.nil (hK3 _ _ _ (W.prune' [0, 2, 3, 6, 9, 12, 13] [Value.pointer (some ⟨k.nb, 0, none⟩), nV .u16 ep, bV false, pV p6 0, pV p9 0, Value.pointer none, bV false] ma0 (fun f4 => W.seq (fun K5 hK5 => W.block ?_))))
 refine W.seq (fun K6 hK6 => W.seq (fun K7 hK7 => ?_))
 refine W.region (Wl.run 2 ma0 (Wl.skip ma0 rfl (Wl.skip ma0 rfl (Wl.skip ma0 rfl ?_))))
 refine Wl.skip ma0 rfl (Wl.skip ma0 rfl (Wl.skip ma0 rfl (Wl.skip ma0 rfl (Wl.run 2 ma0 ?_))))
 refine Wl.nil (hK7 _ _ _ (W.prune' [0, 2, 3, 6, 9, 12, 13, 23] [Value.pointer (some ⟨k.nb, 0, none⟩), nV .u16 ep, bV false, pV p6 0, pV p9 0, Value.pointer none, bV false, bV false] ma0 (fun f8 => W.condF ma0 (W.region ?_))))
 refine Wl.run 3 ma0 (Wl.guard (v := aV [iV .u8 ttl, iV .u8 pro, iV .u16 pid, iV .u32 src, iV .u32 dst, Value.slice ba bl bc]) (true) rfl ma0 rfl (fun _ => Ys.loadN (b := p9) (o' := 0) (i := 0) (j := 0) (vs := [iV .u8 ttl, iV .u8 pro, iV .u16 pid, iV .u32 src, iV .u32 dst, Value.slice ba bl bc]) rfl ma0 Tryz.isAgg40 Tryz.sizeOf40 rfl rfl rfl rfl) (Wl.guardc (v := bV bg) (true) rfl ma0 rfl (fun _ => Yc.call (fun _ => kr) (fun w_ hm_ => (hbg _ _ hm_))) (Wl.guard (v := bV (!bg)) (true) rfl ma0 rfl (fun _ => Ys.pure (fun _ => kr)) (Wl.run 2 ma0 ?_))))
 refine Wl.nil (hK6 _ _ _ (W.pick (LL' := [[cb p6 (dLb12_2277_0 ds dt fm sr pr) 47], NG k s]) [1, 2] ma2 rfl (W.prune' [0, 2, 3, 6, 12, 13, 23] [Value.pointer (some ⟨k.nb, 0, none⟩), nV .u16 ep, bV false, pV p6 0, Value.pointer none, bV false, bV (!bg)] ma0 (fun f9 => ?_))))
 refine W.cond (!bg) ma0 (fun h10 => ?_) (fun h11 => ?_)
 ·refine W.seq (fun K12 hK12 => W.region (Wl.run 2 ma0 (Wl.nil (hK12 _ _ _ ?_))))
  refine W.pick (LL' := [NG k s]) [1] ma2 rfl (W.prune' [10, 11] [Value.pointer none, iV .i64 21] ma0 (fun f13 => ?_))
  refine W.ret ?_
  show ∀ w_, _ → bodyPostM (fence none) 0 Tryz.prog Tryz.f48 _ Exit.ret _ w_
  exact fun w_ hS_ => fin_ret (ret2 rfl (RV.tmp (v := Value.pointer none) ma0) (RV.tmp (v := iV .i64 21) ma0) hS_ ⟨(s, none, none, 21), ⟨ok, .inl ⟨rfl, rfl, rfl, .inr rfl, .inl ⟨hhk, .inl (by simpa using h10)⟩⟩⟩, rfl, (Mem.flat (LL := [NG k s]) rfl (hS_.pick [0] ma2 rfl))⟩)
 ·refine W.seq (fun K14 hK14 => W.region (Wl.run 2 ma0 (Wl.nil (hK14 _ _ _ ?_))))
  refine W.prune' [0, 2, 3, 6, 12, 41] [Value.pointer (some ⟨k.nb, 0, none⟩), nV .u16 ep, bV false, pV p6 0, Value.pointer none, bV false] ma0 (fun f15 => W.condF ma0 (W.seq (fun K16 hK16 => W.draws [(0, true), (1, true), (2, true), (3, true), (5, true), (6, true), (7, true), (8, true), (4, false), (9, false), (10, false), (11, false)] [0, 1, 2, 3, 5, 6, 7, 8] (Mem w M [[cb p6 (dLb12_2277_0 ds dt fm sr pr) 47], NG k s]) ma0 ma0 ma0 rfl ma0 (fun _ _ h_ => h_.drawn _) (fun _ h_ => h_) (Wd.run 3 ma0 ?_))))
  refine Wd.ys rfl rfl rfl (Ys.load (b := k.nb) (o' := 29) (i := 1) (j := 0) (cs := natL k s) (v := Value.pointer (some ⟨k.ts, 0, none⟩)) rfl ma0 Tryz.isAgg85 rfl rfl ((natC_lo rfl ma2).trans rfl)) (Wd.run 3 ma0 (Wd.ys rfl rfl rfl (Ys.load (b := k.nb) (o' := 29) (i := 1) (j := 0) (cs := natL k s) (v := Value.pointer (some ⟨k.ts, 0, none⟩)) rfl ma0 Tryz.isAgg85 rfl rfl ((natC_lo rfl ma2).trans rfl)) (Wd.yc (v := nV .i64 s.p.xs.length) rfl rfl rfl (Yc.call (fun _ => kr) (fun w_ hm_ => (lenS_c s.p.xs s.gs.a s.gs.cap k.mo k.ts  _ (NG.atS (i := 1) hm_ rfl) (NG.xs (i := 1) hm_ rfl ok) ma12 ok.hxs))) (.inr fun _ h_ => h_) (Wd.yc (v := iV .i64 k.mo) rfl rfl rfl (Yc.call (fun _ => kr) (fun w_ hm_ => (mostS_c s.p.xs s.gs.a s.gs.cap k.mo k.ts  _ (NG.atS (i := 1) hm_ rfl) (NG.xs (i := 1) hm_ rfl ok) ma12 ok.hxs))) (.inr fun _ h_ => h_) ?_))))
  refine Wd.yc (v := bV (decide (((s.p.xs.length : Nat) : Int) ≥ k.mo))) rfl rfl rfl (Ys.yc (Ys.pure (fun _ => kr))) (.inr fun _ h_ => h_) (Wd.yc (v := bV (decide (((s.p.xs.length : Nat) : Int) ≥ k.mo))) rfl rfl rfl (Ys.yc (Ys.pure (fun _ => kr))) (.inr fun _ h_ => h_) (Wd.nil (hK16 _ _ _ (W.prune' [0, 2, 3, 6, 44] [Value.pointer (some ⟨k.nb, 0, none⟩), nV .u16 ep, bV false, pV p6 0, bV (decide (((s.p.xs.length : Nat) : Int) ≥ k.mo))] ma0 (fun f17 => ?_)))))
  refine W.cond (decide (((s.p.xs.length : Nat) : Int) ≥ k.mo)) ma0 (fun h18 => ?_) (fun h19 => ?_)
  ·have qh18 := h18; try simp only [zA] at qh18
   refine W.seq (fun K20 hK20 => W.region (Wl.run 2 ma0 (Wl.nil (hK20 _ _ _ ?_))))
   refine W.pick (LL' := [NG k s]) [1] ma2 rfl (W.prune' [10, 11] [Value.pointer none, iV .i64 20] ma0 (fun f21 => ?_))
   refine W.ret ?_
   show ∀ w_, _ → bodyPostM (fence none) 0 Tryz.prog Tryz.f48 _ Exit.ret _ w_
   exact fun w_ hS_ => fin_ret (ret2 rfl (RV.tmp (v := Value.pointer none) ma0) (RV.tmp (v := iV .i64 20) ma0) hS_ ⟨(s, none, none, 20), ⟨ok, .inl ⟨rfl, rfl, rfl, .inl rfl, .inl ⟨hhk, .inr (by have z_ := of_decide_eq_true h18; omega)⟩⟩⟩, rfl, (Mem.flat (LL := [NG k s]) rfl (hS_.pick [0] ma2 rfl))⟩)
  ·have qh19 := h19; try simp only [zA] at qh19
   refine W.skip' (hK5 _ _ _ (W.prune' [0, 2, 3, 6] [Value.pointer (some ⟨k.nb, 0, none⟩), nV .u16 ep, bV false, pV p6 0] ma0 (fun f22 => W.seq (fun K23 hK23 => W.region ?_))))
   refine Wl.run 1 ma0 (Wl.ys rfl rfl (Ys.loadN (b := p6) (o' := 0) (i := 0) (j := 0) (vs := (dLb12_2277_0 ds dt fm sr pr)) rfl ma0 Tryz.isAgg47 Tryz.sizeOf47 rfl rfl rfl rfl) (Wl.run 2 ma0 (Wl.htS rfl (HtS.call (β := NS × Nat) (k := 101) (args := #[Value.pointer (some ⟨k.nb, 0, none⟩), aV (dLb12_2277_0 ds dt fm sr pr), nV .u16 ep, bV false]) (Lin := [NG k s]) (Lk := [[cb p6 (dLb12_2277_0 ds dt fm sr pr) 47]]) (Lo := fun q30 => [NG k q30.1, [cb q30.2 (dLb12_2277_1 ds dt fm sr ep pr s) 113], [cb p6 (dLb12_2277_0 ds dt fm sr pr) 47]]) [1] [0] rfl (fun _ => kr) ma2 rfl rfl rfl (fun w_ hm_ hl_ => (addF_n k s _ (((pr : Nat) : Int), sr, ds, fm, dt) (ep : Int) _ ok hl_)) (fun _ => rfl)) (fun q30 hx32 => ?_))))
   obtain ⟨s27, xb24⟩ := q30
   dsimp only at hx32
   obtain ⟨ok28, hp29⟩ := hx32
   refine Wl.castL (LL' := [NG k s27, [cb xb24 (dLb12_2277_1 ds dt fm sr ep pr s) 113], [cb p6 (dLb12_2277_0 ds dt fm sr pr) 47]]) rfl ?_
   obtain ⟨lxs27, lys27, lzs27, lms27, lfs27⟩ := NOk.len ok28
   refine Wl.run 2 ma0 (Wl.nil (hK23 _ _ _ (W.pick (LL' := [NG k s27, [cb xb24 (dLb12_2277_1 ds dt fm sr ep pr s) 113]]) [0, 1] ma2 rfl (W.prune' [10, 11] [pV xb24 0, iV .i64 0] ma0 (fun f33 => ?_)))))
   refine W.ret ?_
   show ∀ w_, _ → bodyPostM (fence none) 0 Tryz.prog Tryz.f48 _ Exit.ret _ w_
   exact fun w_ hS_ => fin_ret (ret2 rfl (RV.tmp (v := pV xb24 0) ma0) (RV.tmp (v := iV .i64 0) ma0) hS_ ⟨(s27, some xb24, some (xb24, nwE (((pr : Nat) : Int), sr, ds, fm, dt) (ep : Int) s.p.lst false), 0), ⟨ok28, .inr ⟨rfl, hhk, by simpa using h11, by have z_ := of_decide_eq_false h19; omega, xb24, 0, rfl, rfl, hp29⟩⟩, rfl, (hS_.pick [0, 1] ma2 rfl)⟩)
end Go.Proofs.YtmonlaoaengfdaaGreatDoor.Oct
