import Derived.Test.YtmonlaoaengfdaaGreatDoorM36
set_option linter.unusedVariables false
set_option linter.unusedSimpArgs false
set_option maxRecDepth 20000
namespace Go.Proofs.YtmonlaoaengfdaaGreatDoor.Oct
open Go.RowKit Base
attribute [local irreducible] Ys Yc Ht HtS HtIn Wl Wd W Mem pf dpf Wa Wo
open Conf (Fwd fwv)
theorem blk_notin {w0 w : World} {M : List Nat} {L R : List (List Blk)} {j i : Nat} {p : Blk} {B : List Blk} (h : Mem w0 M (L ++ R) w) (hR : R[j]? = some B) (hB : B[i]? = some p) : p.b ∉ L.flatten.map (·.b) := by
  have hnd := (by have h2 := h; unfold Mem at h2; exact Mem0.nodup h2 : ((L ++ R).flatten.map (·.b)).Nodup)
  rw [List.flatten_append, List.map_append, List.nodup_append] at hnd
  intro hm
  exact hnd.2.2 _ hm _ (List.mem_map_of_mem (List.mem_flatten.2 ⟨B, List.mem_of_getElem? hR, List.mem_of_getElem? hB⟩)) rfl
abbrev mpF (a b c d : Nat) : FlwT := (((17 : Nat) : Int), (a : Int), (b : Int), (c : Int), (d : Int))
section
variable {β : Type} {Φr : FlwT → β → Prop} {rv : FlwT → β → PkV} {re : FlwT → Int} {rs : FlwT → β → List Blk} {k : NK} {s r : NS} {cd now : Int} {qu : Bool} {pv : PkV} {bl : List Blk} {ex to rm mh sr wa po : Nat}
theorem mp_mapV (hms : s.p.ms = [⟨17, (ex : Int), (to : Int), (rm : Int), (mh : Int)⟩]) : mapV s.p.ms (mpF sr wa po ex) = if rm = sr ∨ rm = 0 then some ⟨17, (ex : Int), (to : Int), (rm : Int), (mh : Int)⟩ else none := by
  have h1 : ∀ r : Int, maQ (mpF sr wa po ex) r ⟨17, (ex : Int), (to : Int), (rm : Int), (mh : Int)⟩ = (((rm : Nat) : Int) == r) := fun r => by
    unfold maQ
    show ((((17 : Int) == ((17 : Nat) : Int)) && (((ex : Nat) : Int) == (ex : Int))) && (((rm : Nat) : Int) == r)) = _
    rw [beq_self_eq_true (ex : Int)]; rfl
  unfold mapV
  rw [hms, List.find?_cons, List.find?_cons, h1, h1]
  by_cases e1 : rm = sr
  · rw [if_pos (.inl e1), show (((rm : Nat) : Int) == (mpF sr wa po ex).2.1) = true from beq_iff_eq.2 (by show _ = (sr : Int); omega)]
  · rw [show (((rm : Nat) : Int) == (mpF sr wa po ex).2.1) = false from beq_eq_false_iff_ne.2 (by show _ ≠ (sr : Int); omega)]
    by_cases e2 : rm = 0
    · rw [if_pos (.inr e2), show (((rm : Nat) : Int) == 0) = true from beq_iff_eq.2 ma1]; rfl
    · rw [if_neg ma1, show (((rm : Nat) : Int) == 0) = false from beq_eq_false_iff_ne.2 ma1]; rfl
theorem mp_in (hI : Inv k s) (hms : s.p.ms = [⟨17, (ex : Int), (to : Int), (rm : Int), (mh : Int)⟩]) (hfx : k.fx = []) (hes : s.p.es = []) (hmo : k.mo = 8) (hdm : k.c.dmz = 0) (hw : k.c.wan = (wa : Int)) (hO : InR Φr rv re rs k s (mpF sr wa po ex) 1 0 true qu now r cd pv bl) :
    ((rm ≠ 0 ∧ rm ≠ sr) ∧ cd = 21 ∧ pv = pv0 ∧ r.p.es = []) ∨ ((rm = 0 ∨ rm = sr) ∧ (∃ b e', RenE (nwE (mpF mh sr to po) (ex : Int) s.p.lst false) now false e' ∧ r.p.es = [(b, e')]) ∧ Sent Φr rv re rs (mpF sr mh po to) cd pv bl) := by
  have hmV := mp_mapV (sr := sr) (wa := wa) (po := po) hms
  have hno : ∀ x ∈ s.p.es, False := fun x hx => by rw [hes] at hx; cases hx
  have hxl : s.p.xs.length = 0 := by rw [hI.a.xes, hes]; rfl
  by_cases hm : rm = sr ∨ rm = 0
  · right
    rw [if_pos hm] at hmV
    have ht : tgtV k.c k.fx s.p (mpF sr wa po ex) = ((((17 : Nat) : Int), (mh : Int), (to : Int)), false, none, 0) := by unfold tgtV; rw [hmV]; rfl
    refine ⟨by omega, ?_⟩
    cases hO with
    | no hcd hes' hpv why =>
      exfalso
      rcases why with h | h | ⟨h, _⟩ | ⟨h, _⟩ | ⟨_, h, _⟩ | ⟨_, _, ⟨_, h | h⟩ | ⟨x, hx, _⟩⟩
      · exact h rfl
      · exact h hw.symm
      · cases h
      · exact h rfl
      · rw [ht] at h; exact h rfl
      · cases h
      · omega
      · exact hno x hx
    | err ho hk => exact absurd rfl hk
    | old ho A B b e e' he => exact (hno (b, e) (by rw [he]; simp)).elim
    | new ho hk hn h0 hno' A B b e' he hr hes' hs =>
      have hn2 := List.append_eq_nil_iff.1 (he.symm.trans hes)
      rw [ht] at hs
      refine ⟨⟨b, e', ?_, by rw [hes', hn2.1, hn2.2]; rfl⟩, hs⟩
      have hg : inG k.c k.fx s.p (mpF sr wa po ex) = mpF mh sr to po := by unfold inG; rw [ht]
      rw [hg, ht] at hr
      exact hr
  · left
    rw [if_neg hm] at hmV
    have hkn : knF (mpF sr wa po ex) s.p.es = none := by rw [hes]; rfl
    have hc : (tgtV k.c k.fx s.p (mpF sr wa po ex)).2.2.2 = 21 := by unfold tgtV; rw [hmV, hkn, hfx, hdm]; rfl
    refine ⟨by omega, ?_⟩
    cases hO with
    | no hcd hes' hpv why =>
      refine ⟨?_, hpv, hes'.trans hes⟩
      rcases why with h | h | ⟨h, _⟩ | ⟨h, _⟩ | ⟨_, _, h⟩ | ⟨_, _, ⟨_, h | h⟩ | ⟨x, hx, _⟩⟩
      · exact absurd rfl h
      · exact absurd hw.symm h
      · cases h
      · exact absurd rfl h
      · rw [h, hc]
      · cases h
      · omega
      · exact (hno x hx).elim
    | err ho hk => exact absurd rfl hk
    | old ho A B b e e' he => exact (hno (b, e) (by rw [he]; simp)).elim
    | new ho hk hn h0 => rw [hc] at h0; cases h0
theorem mp_out {src now1 : Int} {dr : Nat} {id : Int} {f : FlwT} {ext : Int} {gv out bg : Bool} {b : Nat} {e1 : SesE} (hI : Inv k s) (hr1 : RenE (nwE f ext id gv) now1 out e1) (hes : s.p.es = [(b, e1)]) (hO : OutR Φr rv re rs k s f src 1 0 bg qu dr now r cd pv bl) : Sent Φr rv re rs (f.1, k.c.wan, f.2.2.1, ext, f.2.2.2.2) cd pv bl := by
  obtain ⟨h1, h2, _, _, _⟩ := hr1.nw
  have hk : hasK s.p.xs f = true := by rw [hI.a.tie, hes]; show (decide (flE e1 = f) || _) = true; rw [h1]; simp
  cases hO with
  | no hcd hes' why =>
    exfalso
    rcases why with h | ⟨h, _⟩ | ⟨h, _⟩ | ⟨_, h, _⟩
    · exact h rfl
    · cases h
    · cases h
    · rw [hk] at h; cases h
  | err ho hk => cases hk
  | old ho hk' hq A B b' e e' he hf hr hes' hs =>
    have hm : (b', e) ∈ s.p.es := by rw [he]; simp
    rw [hes] at hm
    obtain ⟨_, rfl⟩ := Prod.mk.inj (List.mem_singleton.1 hm)
    rw [h2] at hs; exact hs
  | new ho hk' hq hno => rw [hk] at hno; cases hno
end
abbrev dLb19_2493_0  : List Value := zl1
abbrev dLb19_2493_1  : List Value := zl0
theorem dofZ_c  (w : World) : Calls Tryz.prog 14 #[aV zl0] w (Ret w (Value.tuple #[aV zl1, iV .i64 0, iV .i64 11])) := by
 refine calls_W (M := []) (LL := []) (n := 137) Tryz.func14 rfl rfl ma6 (Mem.refl _) (W.seq (fun K1 hK1 => ?_))
 refine W.region (Wl.ht rfl (Ht.box (v := aV dLb19_2493_1) (cs := dLb19_2493_1) rfl rfl ma0 rfl) (fun p1 => ?_))
 refine Wl.ht rfl (Ht.alloc (z := aV dLb19_2493_0) (cs := dLb19_2493_0) rfl rfl Tryz.zeroValue47 rfl) (fun p2 => Wl.run 2 ma0 (Wl.nil (hK1 _ _ _ (W.prune' [1, 2] [pV p1 0, pV p2 0] ma0 (fun f2 => ?_)))))
 refine W.seq (fun K3 hK3 => W.region (Wl.run 1 ma0 (Wl.ys rfl rfl (Ys.l1 p1 1 1 0 Tryz.isAgg5) (Wl.run 1 ma0 ?_))))
 refine Wl.ys rfl rfl (Ys.l1 p1 3 1 0 Tryz.isAgg24) (Wl.run 1 ma0 (Wl.ys rfl rfl (Ys.l1 p1 4 1 0 Tryz.isAgg24) (Wl.run 1 ma0 (Wl.ht rfl (Ht.alloc (z := aV dLb19_2493_0) (cs := dLb19_2493_0) rfl rfl Tryz.zeroValue47 rfl) (fun p5 => ?_)))))
 refine Wl.ht rfl (Ht.storeN (b := p5) (o' := 0) (i := 0) (j := 0) (vs := dLb19_2493_0) (LL' := [[cb p5 dLb19_2493_0 47], [cb p2 dLb19_2493_0 47], [cb p1 dLb19_2493_1 40]]) rfl rfl ma0 ma0 Tryz.sizeOf47 ma7 rfl rfl ma6 rfl rfl) (fun _ => Wl.nil (hK3 _ _ _ (W.prune' [1, 2, 5] [pV p1 0, pV p2 0, pV p5 0] ma0 (fun f4 => W.seq (fun K5 hK5 => ?_)))))
 refine W.seq (fun K6 hK6 => W.region (Wl.run 1 ma0 (Wl.ys rfl rfl (Ys.l1 p1 1 2 0 Tryz.isAgg5) (Wl.run 1 ma0 ?_))))
 refine Wl.nil (hK6 _ _ _ (W.prune' [1, 2, 5, 23] [pV p1 0, pV p2 0, pV p5 0, bV false] ma0 (fun f7 => W.condF ma0 (W.skip' ?_))))
 refine hK5 _ _ _ (W.prune' [1, 2, 5] [pV p1 0, pV p2 0, pV p5 0] ma0 (fun f8 => ?_))
 refine W.seq (fun K9 hK9 => W.seq (fun K10 hK10 => ?_))
 refine W.region (Wl.run 1 ma0 (Wl.ys rfl rfl (Ys.l1 p1 1 2 0 Tryz.isAgg5) (Wl.run 1 ma0 (Wl.nil ?_))))
 refine hK10 _ _ _ (W.prune' [1, 2, 5, 47] [pV p1 0, pV p2 0, pV p5 0, bV false] ma0 (fun f11 => ?_))
 refine W.condF ma0 (W.skip' (hK9 _ _ _ (W.prune' [1, 2, 5] [pV p1 0, pV p2 0, pV p5 0] ma0 (fun f12 => W.seq (fun K13 hK13 => ?_)))))
 refine W.seq (fun K14 hK14 => W.region (Wl.run 1 ma0 (Wl.ys rfl rfl (Ys.l1 p1 1 2 0 Tryz.isAgg5) (Wl.run 1 ma0 ?_))))
 refine Wl.nil (hK14 _ _ _ (W.prune' [1, 2, 5, 71] [pV p1 0, pV p2 0, pV p5 0, bV true] ma0 (fun f15 => W.condT ma0 (W.seq (fun K16 hK16 => ?_)))))
 refine W.region (Wl.run 1 ma0 (Wl.ht rfl (Ht.storeN (b := p2) (o' := 0) (i := 1) (j := 0) (vs := dLb19_2493_0) (LL' := [[cb p5 dLb19_2493_0 47], [cb p2 dLb19_2493_0 47], [cb p1 dLb19_2493_1 40]]) rfl rfl ma0 ma0 Tryz.sizeOf47 ma7 rfl rfl ma6 rfl rfl) (fun _ => Wl.run 2 ma0 (Wl.nil ?_))))
 refine hK16 _ _ _ (W.pick (LL' := [[cb p2 dLb19_2493_0 47]]) [1] ma2 rfl (W.prune' [2, 3, 4] [pV p2 0, iV .i64 0, iV .i64 11] ma0 (fun f17 => W.ret ?_)))
 show ∀ w_, _ → bodyPostM (fence none) 0 Tryz.prog Tryz.f14 _ Exit.ret _ w_
 exact fun w_ hS_ => fin_ret (ret3 rfl (RV.cellN (b := p2) (o' := 0) (i := 0) (j := 0) (cs := zl1) (vs := zl1) ma0 Tryz.isAgg47 Tryz.sizeOf47 rfl rfl rfl rfl) (RV.tmp (v := iV .i64 0) ma0) (RV.tmp (v := iV .i64 11) ma0) hS_ ⟨rfl, hS_.below⟩)
section
variable {k : NK} {s : NS} {ex to rm mh sr wa po : Nat}
theorem mp_tg (hms : s.p.ms = [⟨17, (ex : Int), (to : Int), (rm : Int), (mh : Int)⟩]) (hfx : k.fx = []) (hes : s.p.es = []) (hdm : k.c.dmz = 0) : (tgtV k.c k.fx s.p (mpF sr wa po ex)).2.2.1 = none ∧ (tgtV k.c k.fx s.p (mpF sr wa po ex)).2.1 = false := by
  have hkn : knF (mpF sr wa po ex) s.p.es = none := by rw [hes]; rfl
  unfold tgtV
  rw [hkn, hfx, hdm]
  cases (mapV s.p.ms (mpF sr wa po ex)).isSome <;> exact ⟨rfl, rfl⟩
theorem mp_has {f : FlwT} {ext id now : Int} {gv out : Bool} {b : Nat} {e1 : SesE} (hI : Inv k s) (hr1 : RenE (nwE f ext id gv) now out e1) (hes : s.p.es = [(b, e1)]) : hasK s.p.xs f = true := by
  rw [hI.a.tie, hes]; show (decide (flE e1 = f) || _) = true; rw [hr1.nw.1]; simp
end
abbrev cLb19_2499_0 (p7 : Nat) : List Blk := [cb p7 [iV .u8 2, iV .u8 0, iV .u8 0, iV .u8 0, iV .u8 0, iV .u8 1, iV .u8 2, iV .u8 0, iV .u8 0, iV .u8 0, iV .u8 1, iV .u8 1, iV .u8 2, iV .u8 0, iV .u8 0, iV .u8 0, iV .u8 1, iV .u8 2, iV .u32 3232235777, iV .u32 3405803781, iV .i64 24, iV .i64 8, iV .i64 4, iV .i64 3, iV .i64 2, Value.slice none 0 0, iV .u32 0, Value.string (bstr [48, 48, 48, 48, 48, 48, 48, 48, 45, 49, 49, 49, 49, 45, 50, 50, 50, 50, 45, 51, 51, 51, 51, 45, 52, 52, 52, 52, 52, 52, 52, 52, 52, 52, 52, 52])] 32]
abbrev cLb19_2499_1 (ex mh p3 rm to : Nat) : List Blk := [cb p3 [iV .u8 17, nV .u16 ex, nV .u16 to, nV .u32 rm, nV .u32 mh] 26]
abbrev dLb19_2499_0  : List Value := [iV .u8 2, iV .u8 0, iV .u8 0, iV .u8 0, iV .u8 0, iV .u8 1, iV .u8 2, iV .u8 0, iV .u8 0, iV .u8 0, iV .u8 1, iV .u8 1, iV .u8 2, iV .u8 0, iV .u8 0, iV .u8 0, iV .u8 1, iV .u8 2, iV .u32 3232235777, iV .u32 3405803781, iV .i64 24, iV .i64 8, iV .i64 4, iV .i64 3, iV .i64 2, Value.slice none 0 0, iV .u32 0, Value.string (bstr [48, 48, 48, 48, 48, 48, 48, 48, 45, 49, 49, 49, 49, 45, 50, 50, 50, 50, 45, 51, 51, 51, 51, 45, 52, 52, 52, 52, 52, 52, 52, 52, 52, 52, 52, 52])]
abbrev dLb19_2499_1 (mh to : Nat) : Bool := (((mh : Int) != (mh : Int)) || (((to : Nat) : Int) != (to : Int)))
abbrev dLb19_2499_2  : List Value := zl0
abbrev dLb19_2499_3 (ex to : Nat) : Bool := (((ex : Int) == 0) || (((to : Nat) : Int) == 0))
abbrev dLb19_2499_4  : List Value := zl1
abbrev dLb19_2499_5 (sr : Nat) (x129 : FS) (ys130 : List UInt8) : List Value := [iV .u8 9, iV .u8 17, iV .u16 0, nV .u32 3405803781, nV .u32 sr, Value.slice x129.a ys130.length x129.cap]
abbrev dLb19_2499_6 (mh sr : Nat) (x78 : FS) (ys79 : List UInt8) : List Value := [iV .u8 9, iV .u8 17, iV .u16 0, nV .u32 sr, nV .u32 mh, Value.slice x78.a ys79.length x78.cap]
set_option maxHeartbeats 1000000 in
theorem mapped_c (pr0 : Int) (ex to rm mh sr po : Nat) (w : World) (htab : At w (some ⟨0, 0, none⟩) (byc dbt)) (hex : ex < 65536) (hto : to < 65536) (hrm : rm < 4294967296) (hmh : mh < 4294967296) (hsr : sr < 4294967296) (hpo : po < 65536) : Calls Tryz.prog 3 #[aV [iV .u8 pr0, nV .u16 ex, nV .u16 to, nV .u32 rm, nV .u32 mh], nV .u32 sr, nV .u16 po] w (Ret w (.bool true)) := by
 have hne : 0 < (byc dbt).length → (Option.getD (some (⟨0, 0, none⟩ : Addr)) default).block ∉ ([] : List Nat) := fun _ h_ => by cases h_
 have hrm_ : RngM ([⟨17, (ex : Int), (to : Int), (rm : Int), (mh : Int)⟩] : List Mpg) := fun x hx => by
  obtain rfl := List.mem_singleton.1 hx
  refine ⟨?_, ?_, ?_, ?_, ?_, ?_, ?_, ?_⟩ <;> (show _ ≤ _; dsimp only; omega)
 refine calls_W (M := []) (LL := []) (n := 139) Tryz.func3 rfl rfl ma6 (Mem.refl _) (W.seq (fun K1 hK1 => ?_))
 refine W.region (Wl.ht rfl (Ht.box (v := aV [iV .u8 pr0, nV .u16 ex, nV .u16 to, nV .u32 rm, nV .u32 mh]) (cs := [iV .u8 pr0, nV .u16 ex, nV .u16 to, nV .u32 rm, nV .u32 mh]) rfl rfl ma0 rfl) (fun p3 => ?_))
 refine Wl.run 1 ma0 (Wl.nil (hK1 _ _ _ (W.prune' [1, 2, 3] [nV .u32 sr, nV .u16 po, pV p3 0] ma0 (fun f2 => W.seq (fun K3 hK3 => ?_)))))
 refine W.seq (fun K4 hK4 => W.region (Wl.yc (v := bV true) rfl rfl (Yc.call (fun _ => kr) (fun w_ hm_ => (speaks12_c _ (htab.mem' hm_ hne)))) (Wl.run 1 ma0 (Wl.nil ?_))))
 refine hK4 _ _ _ (W.prune' [1, 2, 3, 19] [nV .u32 sr, nV .u16 po, pV p3 0, bV false] ma0 (fun f5 => ?_))
 refine W.condF ma0 (W.skip' (hK3 _ _ _ (W.prune' [1, 2, 3] [nV .u32 sr, nV .u16 po, pV p3 0] ma0 (fun f6 => W.seq (fun K7 hK7 => ?_)))))
 refine W.region (Wl.yc (v := aV dLb19_2499_0) rfl rfl (Yc.call (fun _ => kr) (fun w_ hm_ => (plain_c _))) (Wl.ht rfl (Ht.alloc (z := aV [iV .u8 0, iV .u8 0, iV .u8 0, iV .u8 0, iV .u8 0, iV .u8 0, iV .u8 0, iV .u8 0, iV .u8 0, iV .u8 0, iV .u8 0, iV .u8 0, iV .u8 0, iV .u8 0, iV .u8 0, iV .u8 0, iV .u8 0, iV .u8 0, iV .u32 0, iV .u32 0, iV .i64 0, iV .i64 0, iV .i64 0, iV .i64 0, iV .i64 0, Value.slice none 0 0, iV .u32 0, Value.string (bstr [])]) (cs := [iV .u8 0, iV .u8 0, iV .u8 0, iV .u8 0, iV .u8 0, iV .u8 0, iV .u8 0, iV .u8 0, iV .u8 0, iV .u8 0, iV .u8 0, iV .u8 0, iV .u8 0, iV .u8 0, iV .u8 0, iV .u8 0, iV .u8 0, iV .u8 0, iV .u32 0, iV .u32 0, iV .i64 0, iV .i64 0, iV .i64 0, iV .i64 0, iV .i64 0, Value.slice none 0 0, iV .u32 0, Value.string (bstr [])]) rfl rfl Tryz.zeroValue32 rfl) (fun p7 => Wl.ht rfl (Ht.storeN (b := p7) (o' := 0) (i := 0) (j := 0) (vs := dLb19_2499_0) (LL' := [cLb19_2499_0 p7, [cb p3 [iV .u8 pr0, nV .u16 ex, nV .u16 to, nV .u32 rm, nV .u32 mh] 26]]) rfl rfl ma0 ma0 Tryz.sizeOf32 ma7 rfl rfl ma6 rfl rfl) (fun _ => Wl.nil ?_))))
 refine hK7 _ _ _ (W.prune' [1, 2, 3, 7] [nV .u32 sr, nV .u16 po, pV p3 0, pV p7 0] ma0 (fun f8 => ?_))
 refine W.seq (fun K9 hK9 => W.region (Wl.run 1 ma0 (Wl.ht rfl (Ht.store (b := p3) (o' := 0) (i := 1) (j := 0) (v := iV .u8 17) (LL' := [cLb19_2499_0 p7, cLb19_2499_1 ex mh p3 rm to]) rfl rfl ma0 ma0 Tryz.sizeOf5 rfl rfl rfl ma6 rfl rfl) (fun _ => Wl.nil ?_))))
 refine hK9 _ _ _ (W.prune' [1, 2, 3, 7] [nV .u32 sr, nV .u16 po, pV p3 0, pV p7 0] ma0 (fun f10 => ?_))
 refine W.seq (fun K11 hK11 => W.seq (fun K12 hK12 => ?_))
 refine W.region (Wl.run 1 ma0 (Wl.ys rfl rfl (Ys.l1 p3 1 1 0 Tryz.isAgg22) (Wl.run 2 ma0 ?_)))
 refine Wl.guard (v := pV p3 2) (!(((ex : Nat) : Int) == 0)) rfl (wantF rfl ma0) rfl (fun hg13 => ?_) ?_
 ·exact Ys.pure (fun _ => kr)
 refine Wl.guard (v := nV .u16 to) (!(((ex : Nat) : Int) == 0)) rfl (wantF rfl ma0) rfl (fun hg14 => ?_) ?_
 ·refine Ys.at (t := 26) (v0 := pV p3 2) (lz (g := !(((ex : Nat) : Int) == 0)) (u := undef) hg14 ma0) ?_
  exact Ys.l1 p3 2 1 0 Tryz.isAgg22
 refine Wl.guard (v := bV (((to : Nat) : Int) == 0)) (!(((ex : Nat) : Int) == 0)) rfl (wantF rfl ma0) rfl (fun hg15 => ?_) ?_
 ·refine Ys.at (t := 27) (v0 := nV .u16 to) (lz (g := !(((ex : Nat) : Int) == 0)) (u := undef) hg15 ma0) ?_
  exact Ys.pure (fun _ => kr)
 refine Wl.ys (v := bV (dLb19_2499_3 ex to)) rfl rfl (Ys.or' (e := (ex : Int) == 0) (b := (to : Int) == 0) rfl ma0 ma0 ma0) (Wl.run 1 ma0 ?_)
 refine Wl.guard (v := aV dLb19_2499_0) (!(dLb19_2499_3 ex to)) rfl (wantF rfl ma0) rfl (fun hg16 => ?_) ?_
 ·exact Ys.loadN (b := p7) (o' := 0) (i := 0) (j := 0) (vs := dLb19_2499_0) rfl ma0 Tryz.isAgg32 Tryz.sizeOf32 rfl rfl rfl rfl
 refine Wl.guard (v := pV p3 4) (!(dLb19_2499_3 ex to)) rfl (wantF rfl ma0) rfl (fun hg17 => ?_) ?_
 ·exact Ys.pure (fun _ => kr)
 refine Wl.guard (v := nV .u32 mh) (!(dLb19_2499_3 ex to)) rfl (wantF rfl ma0) rfl (fun hg18 => ?_) ?_
 ·refine Ys.at (t := 32) (v0 := pV p3 4) (lz (g := !(dLb19_2499_3 ex to)) (u := undef) hg18 ma0) ?_
  exact Ys.l1 p3 4 1 0 Tryz.isAgg24
 refine Wl.guardc (v := bV (hst 3232235777 24 (mh : Int))) (!(dLb19_2499_3 ex to)) rfl (wantF rfl ma0) rfl (fun hg19 => ?_) ?_
 ·have qhg19 := hg19; try simp only [zA] at qhg19
  refine Yc.at (t := 31) (v0 := aV dLb19_2499_0) (lz (g := !(dLb19_2499_3 ex to)) (u := undef) hg19 ma0) (Yc.at (t := 33) (v0 := nV .u32 mh) (lz (g := !(dLb19_2499_3 ex to)) (u := undef) hg19 ma0) ?_)
  exact Yc.call (fun _ => kr) (fun w_ hm_ => (hostL_c (⟨2, 0, 0, 0, 0, 1, 2, 0, 0, 0, 1, 1, 2, 0, 0, 0, 1, 2, 3232235777, 3405803781, 24, 8, 4, 3, 2, none, 0, 0, 0, (bstr [48, 48, 48, 48, 48, 48, 48, 48, 45, 49, 49, 49, 49, 45, 50, 50, 50, 50, 45, 51, 51, 51, 51, 45, 52, 52, 52, 52, 52, 52, 52, 52, 52, 52, 52, 52])⟩ : Conf.Cfg) 3232235777 mh _ ma1 ma1))
 refine Wl.guard (v := bV (!(hst 3232235777 24 (mh : Int)))) (!(dLb19_2499_3 ex to)) rfl (wantF rfl ma0) rfl (fun hg20 => ?_) ?_
 ·refine Ys.at (t := 34) (v0 := bV (hst 3232235777 24 (mh : Int))) (lz (g := !(dLb19_2499_3 ex to)) (u := undef) hg20 ma0) ?_
  exact Ys.pure (fun _ => kr)
 refine Wl.ys (v := bV ((dLb19_2499_3 ex to) || (!(hst 3232235777 24 (mh : Int))))) rfl rfl (Ys.or' (e := (((ex : Nat) : Int) == 0) || (((to : Nat) : Int) == 0)) (b := !(hst 3232235777 24 (mh : Int))) rfl ma0 ma0 ma0) (Wl.nil (hK12 _ _ _ (W.prune' [1, 2, 3, 7, 36] [nV .u32 sr, nV .u16 po, pV p3 0, pV p7 0, bV ((dLb19_2499_3 ex to) || (!(hst 3232235777 24 (mh : Int))))] ma0 (fun f21 => ?_))))
 refine W.cond (((((ex : Nat) : Int) == 0) || (((to : Nat) : Int) == 0)) || (!(hst 3232235777 24 (mh : Int)))) ma0 (fun h22 => ?_) (fun h23 => ?_)
 ·refine W.seq (fun K24 hK24 => W.region (Wl.run 1 ma0 (Wl.nil (hK24 _ _ _ ?_))))
  refine W.ret ?_
  show ∀ w_, _ → bodyPostM (fence none) 0 Tryz.prog Tryz.f3 _ Exit.ret _ w_
  exact fun w_ hS_ => fin_ret (ret1 rfl (RV.tmp (v := bV true) ma0) hS_ ⟨rfl, hS_.below⟩)
 ·have qh23 := h23; try simp only [zA] at qh23
  refine W.skip' (hK11 _ _ _ (W.prune' [1, 2, 3, 7] [nV .u32 sr, nV .u16 po, pV p3 0, pV p7 0] ma0 (fun f25 => W.seq (fun K26 hK26 => W.region ?_))))
  refine Wl.ys rfl rfl (Ys.loadN (b := p7) (o' := 0) (i := 0) (j := 0) (vs := dLb19_2499_0) rfl ma0 Tryz.isAgg32 Tryz.sizeOf32 rfl rfl rfl rfl) (Wl.htS rfl (HtS.call (β := NK × NS) (k := 10) (args := #[aV dLb19_2499_0]) (Lin := []) (Lk := [cLb19_2499_0 p7, cLb19_2499_1 ex mh p3 rm to]) (Mi := []) (Lo := fun q31 => [NG q31.1 q31.2, cLb19_2499_0 p7, cLb19_2499_1 ex mh p3 rm to]) [] [0, 1] rfl (fun _ => kr) ma2 rfl rfl rfl (fun w_ hm_ hl_ => (newn_c (⟨2, 0, 0, 0, 0, 1, 2, 0, 0, 0, 1, 1, 2, 0, 0, 0, 1, 2, 3232235777, 3405803781, 24, 8, 4, 3, 2, none, 0, 0, 0, (bstr [48, 48, 48, 48, 48, 48, 48, 48, 45, 49, 49, 49, 49, 45, 50, 50, 50, 50, 45, 51, 51, 51, 51, 45, 52, 52, 52, 52, 52, 52, 52, 52, 52, 52, 52, 52])⟩ : Conf.Cfg) [] none 0 _ (At.nil _ _) ma2 ma2 rf_nil fu_nil rfl)) (fun _ => rfl)) (fun q31 hx33 => ?_))
  obtain ⟨kn27, sn28⟩ := q31
  dsimp only at hx33
  have hN29 := hx33
  refine Wl.castL (LL' := [NG kn27 sn28, cLb19_2499_0 p7, cLb19_2499_1 ex mh p3 rm to]) rfl (Wl.run 1 ma0 (Wl.nil (hK26 _ _ _ (W.prune' [1, 2, 3, 7, 8] [nV .u32 sr, nV .u16 po, pV p3 0, pV p7 0, Value.pointer (some ⟨kn27.nb, 0, none⟩)] ma0 (fun f34 => ?_)))))
  refine W.seq (fun K35 hK35 => W.region (Wl.run 1 ma0 (Wl.ys rfl rfl (Ys.loadN (b := p3) (o' := 0) (i := 2) (j := 0) (vs := [iV .u8 17, nV .u16 ex, nV .u16 to, nV .u32 rm, nV .u32 mh]) rfl ma0 Tryz.isAgg26 Tryz.sizeOf26 rfl rfl rfl rfl) (Wl.ht rfl (Ht.made (mk := fun b_ => .slice (some ⟨b_, 0, none⟩) 1 1) (t := 26) (cs := [iV .u8 17, nV .u16 ex, nV .u16 to, nV .u32 rm, nV .u32 mh]) rfl (fun _ => kr)) (fun p41 => ?_)))))
  refine Wl.htS rfl (HtS.call (β := NS) (k := 11) (args := #[Value.pointer (some ⟨kn27.nb, 0, none⟩), Value.slice (some ⟨p41, 0, none⟩) 1 1]) (Lin := [NG kn27 sn28]) (Lk := [[cb p41 [iV .u8 17, nV .u16 ex, nV .u16 to, nV .u32 rm, nV .u32 mh] 26], cLb19_2499_0 p7, cLb19_2499_1 ex mh p3 rm to]) (Lo := fun sr36 => [NG kn27 sr36, [cb p41 [iV .u8 17, nV .u16 ex, nV .u16 to, nV .u32 rm, nV .u32 mh] 26], cLb19_2499_0 p7, cLb19_2499_1 ex mh p3 rm to]) [1] [0, 2, 3] rfl (fun _ => kr) ma2 rfl rfl rfl (fun w_ hm_ hl_ => (rules_n kn27 sn28 _ ([⟨17, (ex : Int), (to : Int), (rm : Int), (mh : Int)⟩] : List Mpg) (some ⟨p41, 0, none⟩) 1 _ hN29.inv.ok hl_ hN29.inv.a (by rw [hN29.kfx]; exact rf_nil) (by rw [hN29.kfx]; exact fu_nil) hrm_ (At.lit0 (i := 0) (j := 0) (t := 26) (b := p41) hm_ rfl rfl) (fun _ => blk_notin (L := [NG kn27 sn28]) (R := [[cb p41 [iV .u8 17, nV .u16 ex, nV .u16 to, nV .u32 rm, nV .u32 mh] 26], cLb19_2499_0 p7, cLb19_2499_1 ex mh p3 rm to]) (j := 0) (i := 0) (Mem.pick (LL' := [NG kn27 sn28] ++ [[cb p41 [iV .u8 17, nV .u16 ex, nV .u16 to, nV .u32 rm, nV .u32 mh] 26], cLb19_2499_0 p7, cLb19_2499_1 ex mh p3 rm to]) [1, 0, 2, 3] ma2 hm_ rfl) rfl rfl) (by show 1 ≤ 100000; decide) (by rw [hN29.kfx]; rfl) (by rw [hN29.inv.a.xes, hN29.es]; rfl))) (fun _ => rfl)) (fun sr36 hx42 => ?_)
  obtain ⟨hI37, hms38, hls39, hes40⟩ := hx42
  have hes0_ : sr36.p.es = [] := by rw [hes40, hN29.es]; rfl
  have hmo_ : kn27.mo = 8 := by rw [hN29.kmo]; rfl
  have hlz_ : sr36.p.lst = 0 := hls39.trans hN29.lst
  refine Wl.nil (hK35 _ _ _ (W.pick (LL' := [NG kn27 sr36, cLb19_2499_0 p7, cLb19_2499_1 ex mh p3 rm to]) [0, 2, 3] ma2 rfl (W.prune' [1, 2, 3, 7, 8] [nV .u32 sr, nV .u16 po, pV p3 0, pV p7 0, Value.pointer (some ⟨kn27.nb, 0, none⟩)] ma0 (fun f43 => W.seq (fun K44 hK44 => ?_)))))
  refine W.region (Wl.run 3 ma0 (Wl.ys rfl rfl (Ys.l1 p7 19 1 0 Tryz.isAgg24) (Wl.run 2 ma0 (Wl.ys rfl rfl (Ys.l1 p3 1 2 0 Tryz.isAgg22) ?_))))
  refine Wl.htS rfl (HtS.call (β := FS × List UInt8) (k := 13) (args := #[nV .u32 sr, iV .u32 3405803781, nV .u16 po, nV .u16 ex]) (Lin := []) (Lk := [NG kn27 sr36, cLb19_2499_0 p7, cLb19_2499_1 ex mh p3 rm to]) (Mi := []) (Lo := fun q49 => [q49.1.seg 5 (mc b8 q49.2), NG kn27 sr36, cLb19_2499_0 p7, cLb19_2499_1 ex mh p3 rm to]) [] [0, 1, 2] rfl (fun _ => kr) ma2 rfl rfl rfl (fun w_ hm_ hl_ => (datagram_c sr 3405803781 po ex _ ma1 ma1 ma1 ma1)) (fun _ => rfl)) (fun q49 hx52 => ?_)
  obtain ⟨gd45, ys46⟩ := q49
  dsimp only at hx52
  obtain ⟨okd47, hdg48⟩ := hx52
  refine Wl.castL (LL' := [gd45.seg 5 (mc b8 ys46), NG kn27 sr36, cLb19_2499_0 p7, cLb19_2499_1 ex mh p3 rm to]) rfl ?_
  have hl51 := hdg48.hl
  refine Wl.htS rfl (HtS.call (β := NS × Int × PkV × List Blk) (k := 12) (args := #[Value.pointer (some ⟨kn27.nb, 0, none⟩), aV [iV .u8 9, iV .u8 17, iV .u16 0, nV .u32 sr, nV .u32 3405803781, Value.slice gd45.a ys46.length gd45.cap], iV .u64 1]) (Lin := [NG kn27 sr36]) (Lk := [gd45.seg 5 (mc b8 ys46), cLb19_2499_0 p7, cLb19_2499_1 ex mh p3 rm to]) (Lo := fun q61 => [NG kn27 q61.1, q61.2.2.2, gd45.seg 5 (mc b8 ys46), cLb19_2499_0 p7, cLb19_2499_1 ex mh p3 rm to]) [1] [0, 2, 3] rfl (fun _ => kr) ma2 rfl rfl rfl (fun w_ hm_ hl_ => (in_n kn27 sr36 _ 17 (sr : Int) ((3405803781 : Nat) : Int) (po : Int) ex 9 17 0 (sr : Int) ((3405803781 : Nat) : Int) gd45.a ys46.length gd45.cap 1 0 true false 0 false 1 FS (dgF sr 3405803781 ys46) (dgV 9 0 sr 3405803781 ys46) (fun _ => 0) (dgS sr 3405803781 ys46) _ hI37 hl_ (by rw [hls39, hN29.lst]; decide) (by rw [hN29.kc]; exact ⟨by decide, by decide⟩) ma2 ma1 (dg_rng hdg48) (dg_of hdg48 okd47.le (fun LL_ w2_ h2_ => FS.at (i := LL_.length + 0) (t := 5) (Mem.back (LL := [NG kn27 sr36]) (R := [gd45.seg 5 (mc b8 ys46), cLb19_2499_0 p7, cLb19_2499_1 ex mh p3 rm to]) (Mem.pick (LL' := [NG kn27 sr36] ++ [gd45.seg 5 (mc b8 ys46), cLb19_2499_0 p7, cLb19_2499_1 ex mh p3 rm to]) [1, 0, 2, 3] ma2 hm_ rfl) h2_) ((app_at 0).trans rfl) (FS.nil_cs okd47 (mc_len1 _)))) (dg_bg hdg48) (dg_fl hdg48) (dg_rw hdg48 okd47.le (fun LL_ w2_ h2_ => FS.at (i := LL_.length + 0) (t := 5) (Mem.back (LL := [NG kn27 sr36]) (R := [gd45.seg 5 (mc b8 ys46), cLb19_2499_0 p7, cLb19_2499_1 ex mh p3 rm to]) (Mem.pick (LL' := [NG kn27 sr36] ++ [gd45.seg 5 (mc b8 ys46), cLb19_2499_0 p7, cLb19_2499_1 ex mh p3 rm to]) [1, 0, 2, 3] ma2 hm_ rfl) h2_) ((app_at 0).trans rfl) (FS.nil_cs okd47 (mc_len1 _))))  (by rw [hN29.kc]; rfl) (mp_tg (k := kn27) hms38 hN29.kfx hes0_ (by rw [hN29.kc])).1 (mp_tg (k := kn27) hms38 hN29.kfx hes0_ (by rw [hN29.kc])).2 (hk_no hI37 (fun x hx => by rw [hes0_] at hx; cases hx)) (by rw [hI37.a.xes, hes0_]; rfl) (by rw [hN29.kc]) (by rw [hN29.kfx]; rfl))) (fun _ => rfl)) (fun q61 hx63 => ?_)
  obtain ⟨sr53, cd54, pv55, bl56⟩ := q61
  dsimp only at hx63
  obtain ⟨hI57, hms58, hls59, hO60⟩ := hx63
  refine Wl.castL (LL' := [NG kn27 sr53, bl56, gd45.seg 5 (mc b8 ys46), cLb19_2499_0 p7, cLb19_2499_1 ex mh p3 rm to]) rfl ?_
  have hq_ := mp_in hI37 hms38 hN29.kfx hes0_ hmo_ (by rw [hN29.kc]) (wa := 3405803781) (by rw [hN29.kc]; rfl) hO60
  rcases hq_ with hq_ | hq_
  ·obtain ⟨hrr_, rfl, rfl, hen_⟩ := hq_
   refine Wl.run 3 ma0 (Wl.ht rfl (Ht.alloc (z := aV dLb19_2499_2) (cs := dLb19_2499_2) rfl rfl Tryz.zeroValue40 rfl) (fun p9 => ?_))
   refine Wl.ht rfl (Ht.storeN (b := p9) (o' := 0) (i := 0) (j := 0) (vs := dLb19_2499_2) (LL' := [[cb p9 dLb19_2499_2 40], NG kn27 sr53, bl56, gd45.seg 5 (mc b8 ys46), cLb19_2499_0 p7, cLb19_2499_1 ex mh p3 rm to]) rfl rfl ma0 ma0 Tryz.sizeOf40 ma7 rfl rfl ma6 rfl rfl) (fun _ => Wl.run 1 ma0 (Wl.nil (hK44 _ _ _ (W.pick (LL' := [[cb p9 dLb19_2499_2 40], NG kn27 sr53, bl56, cLb19_2499_0 p7, cLb19_2499_1 ex mh p3 rm to]) [0, 1, 2, 4, 5] ma2 rfl ?_))))
   refine W.prune' [1, 2, 3, 7, 8, 9, 10] [nV .u32 sr, nV .u16 po, pV p3 0, pV p7 0, Value.pointer (some ⟨kn27.nb, 0, none⟩), pV p9 0, iV .i64 21] ma0 (fun f64 => W.seq (fun K65 hK65 => ?_))
   refine W.region (Wl.ys rfl rfl (Ys.loadN (b := p9) (o' := 0) (i := 0) (j := 0) (vs := dLb19_2499_2) rfl ma0 Tryz.isAgg40 Tryz.sizeOf40 rfl rfl rfl rfl) (Wl.yc (v := Value.tuple #[aV dLb19_2499_4, iV .i64 0, iV .i64 11]) rfl rfl (Yc.call (fun _ => kr) (fun w_ hm_ => (dofZ_c _))) (Wl.run 4 ma0 (Wl.ht rfl (Ht.alloc (z := aV dLb19_2499_4) (cs := dLb19_2499_4) rfl rfl Tryz.zeroValue47 rfl) (fun p11 => ?_)))))
   refine Wl.ht rfl (Ht.storeN (b := p11) (o' := 0) (i := 0) (j := 0) (vs := dLb19_2499_4) (LL' := [[cb p11 dLb19_2499_4 47], [cb p9 dLb19_2499_2 40], NG kn27 sr53, bl56, cLb19_2499_0 p7, cLb19_2499_1 ex mh p3 rm to]) rfl rfl ma0 ma0 Tryz.sizeOf47 ma7 rfl rfl ma6 rfl rfl) (fun _ => Wl.run 2 ma0 (Wl.nil (hK65 _ _ _ (W.pick (LL' := [[cb p11 dLb19_2499_4 47], NG kn27 sr53, bl56, cLb19_2499_0 p7, cLb19_2499_1 ex mh p3 rm to]) [0, 2, 3, 4, 5] ma2 rfl ?_))))
   refine W.prune' [1, 2, 3, 7, 8, 10, 11] [nV .u32 sr, nV .u16 po, pV p3 0, pV p7 0, Value.pointer (some ⟨kn27.nb, 0, none⟩), iV .i64 21, pV p11 0] ma0 (fun f66 => W.seq (fun K67 hK67 => ?_))
   refine W.seq (fun K68 hK68 => W.region (Wl.run 1 ma0 (Wl.ys rfl rfl (Ys.l1 p3 3 4 0 Tryz.isAgg24) (Wl.run 2 ma0 ?_))))
   refine Wl.guard (v := pV p3 3) (((rm : Nat) : Int) != 0) rfl (wantT rfl ma0) rfl (fun hg69 => ?_) ?_
   ·exact Ys.pure (fun _ => kr)
   refine Wl.guard (v := nV .u32 rm) (((rm : Nat) : Int) != 0) rfl (wantT rfl ma0) rfl (fun hg70 => ?_) ?_
   ·refine Ys.at (t := 65) (v0 := pV p3 3) (lz (g := (rm : Int) != 0) (u := undef) hg70 ma0) ?_
    exact Ys.l1 p3 3 4 0 Tryz.isAgg24
   refine Wl.guard (v := nV .u32 sr) (((rm : Nat) : Int) != 0) rfl (wantT rfl ma0) rfl (fun hg71 => ?_) ?_
   ·exact Ys.pure (fun _ => kr)
   refine Wl.guard (v := bV (((rm : Nat) : Int) != (sr : Int))) (((rm : Nat) : Int) != 0) rfl (wantT rfl ma0) rfl (fun hg72 => ?_) ?_
   ·refine Ys.at (t := 66) (v0 := nV .u32 rm) (lz (g := (rm : Int) != 0) (u := undef) hg72 ma0) (Ys.at (t := 67) (v0 := nV .u32 sr) (lz (g := (rm : Int) != 0) (u := undef) hg72 ma0) ?_)
    exact Ys.pure (fun _ => kr)
   refine Wl.ys (v := bV true) rfl rfl (Ys.conseq (v := bV (((rm : Int) != 0) && (((rm : Nat) : Int) != (sr : Int)))) (bool_congr ((by have z_ := hrr_; simp; omega))) (Ys.and (e := (rm : Int) != 0) (b := (rm : Int) != (sr : Int)) rfl ma0 ma0 ma0)) (Wl.nil (hK68 _ _ _ (W.prune' [1, 2, 3, 7, 8, 10, 11, 69] [nV .u32 sr, nV .u16 po, pV p3 0, pV p7 0, Value.pointer (some ⟨kn27.nb, 0, none⟩), iV .i64 21, pV p11 0, bV true] ma0 (fun f73 => W.condT ma0 ?_))))
   refine W.seq (fun K74 hK74 => W.region (Wl.run 3 ma0 (Wl.guard (v := Value.pointer (some ⟨kn27.nb, 0, none⟩)) (true) rfl ma0 rfl (fun _ => Ys.pure (fun _ => kr)) (Wl.htwS rfl ma0 (HtS.call (β := Unit) (k := 15) (args := #[Value.pointer (some ⟨kn27.nb, 0, none⟩)]) (Lin := [NG kn27 sr53]) (Lk := [[cb p11 dLb19_2499_4 47], bl56, cLb19_2499_0 p7, cLb19_2499_1 ex mh p3 rm to]) (Lo := fun u75 => [NG kn27 sr53, [cb p11 dLb19_2499_4 47], bl56, cLb19_2499_0 p7, cLb19_2499_1 ex mh p3 rm to]) [1] [0, 2, 3, 4] rfl (fun _ => kr) ma2 rfl rfl rfl (fun w_ hm_ hl_ => (len_n kn27 sr53 _ _ hI57.ok hl_)) (fun _ => rfl)) (fun u75 _ => ?_)))))
   refine Wl.guard (v := bV (((sr53.p.xs.length : Nat) : Int) == 0)) (true) rfl ma0 rfl (fun _ => Ys.pure (fun _ => kr)) (Wl.run 2 ma0 (Wl.nil (hK74 _ _ _ (W.pick (LL' := [NG kn27 sr53, bl56]) [0, 2] ma2 rfl ?_))))
   refine W.prune' [6] [bV (((sr53.p.xs.length : Nat) : Int) == 0)] ma0 (fun f77 => W.ret ?_)
   show ∀ w_, _ → bodyPostM (fence none) 0 Tryz.prog Tryz.f3 _ Exit.ret _ w_
   exact fun w_ hS_ => fin_ret (ret1 rfl (RV.tmp (v := bV (((sr53.p.xs.length : Nat) : Int) == 0)) ma0) hS_ ⟨by clear hK1 hK3 hK4 hK7 hK9 hK11 hK12 hK26 hK35 hK44 hK65 hK67 hK68 hK74; refine congrArg Ending.returned ?_; exact bool_congr (by rw [hI57.a.xes, hen_]; rfl), hS_.below⟩)
  ·obtain ⟨hrr_, ⟨be_, ee_, hre_, hee_⟩, hs_⟩ := hq_
   obtain ⟨rfl, x78, ys79, okx80, rfl, rfl, hD81⟩ := sent_dg2 (s2 := sr) (d2 := mh) (f2 := po) (t2 := to) hdg48 hs_ rfl ma1 ma1 ma1 ma1
   refine Wl.run 3 ma0 (Wl.ht rfl (Ht.alloc (z := aV dLb19_2499_2) (cs := dLb19_2499_2) rfl rfl Tryz.zeroValue40 rfl) (fun p9 => ?_))
   refine Wl.ht rfl (Ht.storeN (b := p9) (o' := 0) (i := 0) (j := 0) (vs := (dLb19_2499_6 mh sr x78 ys79)) (LL' := [[cb p9 (dLb19_2499_6 mh sr x78 ys79) 40], NG kn27 sr53, x78.seg 5 (mc b8 ys79), gd45.seg 5 (mc b8 ys46), cLb19_2499_0 p7, cLb19_2499_1 ex mh p3 rm to]) rfl rfl ma0 ma0 Tryz.sizeOf40 ma7 rfl rfl ma6 rfl rfl) (fun _ => Wl.run 1 ma0 (Wl.nil (hK44 _ _ _ (W.pick (LL' := [[cb p9 (dLb19_2499_6 mh sr x78 ys79) 40], NG kn27 sr53, x78.seg 5 (mc b8 ys79), cLb19_2499_0 p7, cLb19_2499_1 ex mh p3 rm to]) [0, 1, 2, 4, 5] ma2 rfl ?_))))
   refine W.prune' [1, 2, 3, 7, 8, 9, 10] [nV .u32 sr, nV .u16 po, pV p3 0, pV p7 0, Value.pointer (some ⟨kn27.nb, 0, none⟩), pV p9 0, iV .i64 0] ma0 (fun f82 => W.seq (fun K83 hK83 => ?_))
   refine W.region (Wl.ys rfl rfl (Ys.loadN (b := p9) (o' := 0) (i := 0) (j := 0) (vs := (dLb19_2499_6 mh sr x78 ys79)) rfl ma0 Tryz.isAgg40 Tryz.sizeOf40 rfl rfl rfl rfl) (Wl.yc (v := Value.tuple #[aV [iV .u8 17, nV .u32 sr, nV .u32 mh, nV .u16 po, nV .u16 to], iV .i64 1, iV .i64 0]) rfl rfl (Yc.call (fun _ => kr) (fun w_ hm_ => (dof_dg (ttl := 9) (pid := 0) hD81 okx80.le (FS.at (i := 2) (t := 5) hm_ rfl (FS.nil_cs okx80 (mc_len1 _)))))) (Wl.run 4 ma0 (Wl.ht rfl (Ht.alloc (z := aV dLb19_2499_4) (cs := dLb19_2499_4) rfl rfl Tryz.zeroValue47 rfl) (fun p11 => ?_)))))
   refine Wl.ht rfl (Ht.storeN (b := p11) (o' := 0) (i := 0) (j := 0) (vs := [iV .u8 17, nV .u32 sr, nV .u32 mh, nV .u16 po, nV .u16 to]) (LL' := [[cb p11 [iV .u8 17, nV .u32 sr, nV .u32 mh, nV .u16 po, nV .u16 to] 47], [cb p9 (dLb19_2499_6 mh sr x78 ys79) 40], NG kn27 sr53, x78.seg 5 (mc b8 ys79), cLb19_2499_0 p7, cLb19_2499_1 ex mh p3 rm to]) rfl rfl ma0 ma0 Tryz.sizeOf47 ma7 rfl rfl ma6 rfl rfl) (fun _ => Wl.run 2 ma0 (Wl.nil (hK83 _ _ _ (W.pick (LL' := [[cb p11 [iV .u8 17, nV .u32 sr, nV .u32 mh, nV .u16 po, nV .u16 to] 47], NG kn27 sr53, cLb19_2499_0 p7, cLb19_2499_1 ex mh p3 rm to]) [0, 2, 4, 5] ma2 rfl ?_))))
   refine W.prune' [1, 2, 3, 7, 8, 10, 11] [nV .u32 sr, nV .u16 po, pV p3 0, pV p7 0, Value.pointer (some ⟨kn27.nb, 0, none⟩), iV .i64 0, pV p11 0] ma0 (fun f84 => W.seq (fun K85 hK85 => ?_))
   refine W.seq (fun K86 hK86 => W.region (Wl.run 1 ma0 (Wl.ys rfl rfl (Ys.l1 p3 3 3 0 Tryz.isAgg24) (Wl.run 2 ma0 ?_))))
   refine Wl.guard (v := pV p3 3) (((rm : Nat) : Int) != 0) rfl (wantT rfl ma0) rfl (fun hg87 => ?_) ?_
   ·exact Ys.pure (fun _ => kr)
   refine Wl.guard (v := nV .u32 rm) (((rm : Nat) : Int) != 0) rfl (wantT rfl ma0) rfl (fun hg88 => ?_) ?_
   ·refine Ys.at (t := 65) (v0 := pV p3 3) (lz (g := (rm : Int) != 0) (u := undef) hg88 ma0) ?_
    exact Ys.l1 p3 3 3 0 Tryz.isAgg24
   refine Wl.guard (v := nV .u32 sr) (((rm : Nat) : Int) != 0) rfl (wantT rfl ma0) rfl (fun hg89 => ?_) ?_
   ·exact Ys.pure (fun _ => kr)
   refine Wl.guard (v := bV (((rm : Nat) : Int) != (sr : Int))) (((rm : Nat) : Int) != 0) rfl (wantT rfl ma0) rfl (fun hg90 => ?_) ?_
   ·refine Ys.at (t := 66) (v0 := nV .u32 rm) (lz (g := (rm : Int) != 0) (u := undef) hg90 ma0) (Ys.at (t := 67) (v0 := nV .u32 sr) (lz (g := (rm : Int) != 0) (u := undef) hg90 ma0) ?_)
    exact Ys.pure (fun _ => kr)
   refine Wl.ys (v := bV false) rfl rfl (Ys.conseq (v := bV (((rm : Int) != 0) && (((rm : Nat) : Int) != (sr : Int)))) (bool_congr ((by have z_ := hrr_; simp; omega))) (Ys.and (e := (rm : Int) != 0) (b := (rm : Int) != (sr : Int)) rfl ma0 ma0 ma0)) (Wl.nil (hK86 _ _ _ (W.prune' [1, 2, 3, 7, 8, 10, 11, 69] [nV .u32 sr, nV .u16 po, pV p3 0, pV p7 0, Value.pointer (some ⟨kn27.nb, 0, none⟩), iV .i64 0, pV p11 0, bV false] ma0 (fun f91 => W.condF ma0 ?_))))
   refine W.skip' (hK85 _ _ _ (W.prune' [1, 2, 3, 7, 8, 10, 11] [nV .u32 sr, nV .u16 po, pV p3 0, pV p7 0, Value.pointer (some ⟨kn27.nb, 0, none⟩), iV .i64 0, pV p11 0] ma0 (fun f92 => W.seq (fun K93 hK93 => W.seq (fun K94 hK94 => ?_)))))
   refine W.region (Wl.run 3 ma0 (Wl.guard (v := pV p11 2) (true) rfl ma0 rfl (fun _ => Ys.pure (fun _ => kr)) (Wl.guard (v := nV .u32 mh) (true) rfl ma0 rfl (fun _ => Ys.load (b := p11) (o' := 2) (i := 0) (j := 0) (v := nV .u32 mh) rfl ma0 Tryz.isAgg24 rfl rfl rfl) (Wl.guard (v := pV p3 4) (true) rfl ma0 rfl (fun _ => Ys.pure (fun _ => kr)) ?_))))
   refine Wl.guard (v := nV .u32 mh) (true) rfl ma0 rfl (fun _ => Ys.load (b := p3) (o' := 4) (i := 3) (j := 0) (v := nV .u32 mh) rfl ma0 Tryz.isAgg24 rfl rfl rfl) (Wl.guard (v := bV (((mh : Nat) : Int) != (mh : Int))) (true) rfl ma0 rfl (fun _ => Ys.pure (fun _ => kr)) (Wl.run 2 ma0 ?_))
   refine Wl.guard (v := pV p11 4) (!(((mh : Nat) : Int) != (mh : Int))) rfl (wantF rfl ma0) rfl (fun hg95 => ?_) ?_
   ·exact Ys.pure (fun _ => kr)
   refine Wl.guard (v := nV .u16 to) (!(((mh : Nat) : Int) != (mh : Int))) rfl (wantF rfl ma0) rfl (fun hg96 => ?_) ?_
   ·refine Ys.at (t := 87) (v0 := pV p11 4) (lz (g := !(((mh : Nat) : Int) != (mh : Int))) (u := undef) hg96 ma0) ?_
    exact Ys.l1 p11 4 0 0 Tryz.isAgg22
   refine Wl.guard (v := pV p3 2) (!(((mh : Nat) : Int) != (mh : Int))) rfl (wantF rfl ma0) rfl (fun hg97 => ?_) ?_
   ·exact Ys.pure (fun _ => kr)
   refine Wl.guard (v := nV .u16 to) (!(((mh : Nat) : Int) != (mh : Int))) rfl (wantF rfl ma0) rfl (fun hg98 => ?_) ?_
   ·refine Ys.at (t := 89) (v0 := pV p3 2) (lz (g := !(((mh : Nat) : Int) != (mh : Int))) (u := undef) hg98 ma0) ?_
    exact Ys.l1 p3 2 3 0 Tryz.isAgg22
   refine Wl.guard (v := bV (((to : Nat) : Int) != (to : Int))) (!(((mh : Nat) : Int) != (mh : Int))) rfl (wantF rfl ma0) rfl (fun hg99 => ?_) ?_
   ·refine Ys.at (t := 88) (v0 := nV .u16 to) (lz (g := !(((mh : Nat) : Int) != (mh : Int))) (u := undef) hg99 ma0) (Ys.at (t := 90) (v0 := nV .u16 to) (lz (g := !(((mh : Nat) : Int) != (mh : Int))) (u := undef) hg99 ma0) ?_)
    exact Ys.pure (fun _ => kr)
   refine Wl.ys (v := bV (dLb19_2499_1 mh to)) rfl rfl (Ys.or' (e := (mh : Int) != (mh : Int)) (b := (to : Int) != (to : Int)) rfl ma0 ma0 ma0) (Wl.run 1 ma0 ?_)
   refine Wl.guard (v := pV p11 1) (!(dLb19_2499_1 mh to)) rfl (wantF rfl ma0) rfl (fun hg100 => ?_) ?_
   ·exact Ys.pure (fun _ => kr)
   refine Wl.guard (v := nV .u32 sr) (!(dLb19_2499_1 mh to)) rfl (wantF rfl ma0) rfl (fun hg101 => ?_) ?_
   ·refine Ys.at (t := 94) (v0 := pV p11 1) (lz (g := !(dLb19_2499_1 mh to)) (u := undef) hg101 ma0) ?_
    exact Ys.l1 p11 1 0 0 Tryz.isAgg24
   refine Wl.guard (v := nV .u32 sr) (!(dLb19_2499_1 mh to)) rfl (wantF rfl ma0) rfl (fun hg102 => ?_) ?_
   ·exact Ys.pure (fun _ => kr)
   refine Wl.guard (v := bV (((sr : Nat) : Int) != (sr : Int))) (!(dLb19_2499_1 mh to)) rfl (wantF rfl ma0) rfl (fun hg103 => ?_) ?_
   ·refine Ys.at (t := 95) (v0 := nV .u32 sr) (lz (g := !(dLb19_2499_1 mh to)) (u := undef) hg103 ma0) (Ys.at (t := 96) (v0 := nV .u32 sr) (lz (g := !(dLb19_2499_1 mh to)) (u := undef) hg103 ma0) ?_)
    exact Ys.pure (fun _ => kr)
   refine Wl.ys (v := bV ((dLb19_2499_1 mh to) || (((sr : Nat) : Int) != (sr : Int)))) rfl rfl (Ys.or' (e := (((mh : Nat) : Int) != (mh : Int)) || (((to : Nat) : Int) != (to : Int))) (b := (sr : Int) != (sr : Int)) rfl ma0 ma0 ma0) (Wl.nil (hK94 _ _ _ (W.pick (LL' := [NG kn27 sr53, cLb19_2499_0 p7, cLb19_2499_1 ex mh p3 rm to]) [1, 2, 3] ma2 rfl (W.prune' [1, 2, 3, 7, 8, 98] [nV .u32 sr, nV .u16 po, pV p3 0, pV p7 0, Value.pointer (some ⟨kn27.nb, 0, none⟩), bV ((dLb19_2499_1 mh to) || (((sr : Nat) : Int) != (sr : Int)))] ma0 (fun f104 => ?_)))))
   refine W.cond (((((mh : Nat) : Int) != (mh : Int)) || (((to : Nat) : Int) != (to : Int))) || (((sr : Nat) : Int) != (sr : Int))) ma0 (fun h105 => ?_) (fun h106 => ?_)
   ·have qh105 := h105; try simp only [zA] at qh105
    refine W.seq (fun K107 hK107 => W.region (Wl.run 1 ma0 (Wl.nil (hK107 _ _ _ ?_))))
    refine W.ret ?_
    show ∀ w_, _ → bodyPostM (fence none) 0 Tryz.prog Tryz.f3 _ Exit.ret _ w_
    exact fun w_ hS_ => fin_ret (ret1 rfl (RV.tmp (v := bV false) ma0) hS_ ⟨by clear hK1 hK3 hK4 hK7 hK9 hK11 hK12 hK26 hK35 hK44 hK83 hK85 hK86 hK93 hK94 hK107; refine congrArg Ending.returned ?_; exact absurd h105 ma6, hS_.below⟩)
   ·have qh106 := h106; try simp only [zA] at qh106
    refine W.skip' (hK93 _ _ _ (W.prune' [1, 2, 3, 7, 8] [nV .u32 sr, nV .u16 po, pV p3 0, pV p7 0, Value.pointer (some ⟨kn27.nb, 0, none⟩)] ma0 (fun f108 => W.seq (fun K109 hK109 => W.region ?_))))
    refine Wl.run 2 ma0 (Wl.ys rfl rfl (Ys.l1 p3 4 2 0 Tryz.isAgg24) (Wl.run 2 ma0 (Wl.ys rfl rfl (Ys.l1 p3 2 2 0 Tryz.isAgg22) (Wl.run 1 ma0 ?_))))
    refine Wl.htS rfl (HtS.call (β := FS × List UInt8) (k := 13) (args := #[nV .u32 mh, nV .u32 sr, nV .u16 to, nV .u16 po]) (Lin := []) (Lk := [NG kn27 sr53, cLb19_2499_0 p7, cLb19_2499_1 ex mh p3 rm to]) (Mi := []) (Lo := fun q114 => [q114.1.seg 5 (mc b8 q114.2), NG kn27 sr53, cLb19_2499_0 p7, cLb19_2499_1 ex mh p3 rm to]) [] [0, 1, 2] rfl (fun _ => kr) ma2 rfl rfl rfl (fun w_ hm_ hl_ => (datagram_c mh sr to po _ ma1 ma1 ma1 ma1)) (fun _ => rfl)) (fun q114 hx117 => ?_)
    obtain ⟨gd110, ys111⟩ := q114
    dsimp only at hx117
    obtain ⟨okd112, hdg113⟩ := hx117
    refine Wl.castL (LL' := [gd110.seg 5 (mc b8 ys111), NG kn27 sr53, cLb19_2499_0 p7, cLb19_2499_1 ex mh p3 rm to]) rfl ?_
    have hl116 := hdg113.hl
    refine Wl.htS rfl (HtS.call (β := NS × Int × PkV × List Blk) (k := 16) (args := #[Value.pointer (some ⟨kn27.nb, 0, none⟩), aV [iV .u8 9, iV .u8 17, iV .u16 0, nV .u32 mh, nV .u32 sr, Value.slice gd110.a ys111.length gd110.cap], iV .u64 1, iV .u64 7]) (Lin := [NG kn27 sr53]) (Lk := [gd110.seg 5 (mc b8 ys111), cLb19_2499_0 p7, cLb19_2499_1 ex mh p3 rm to]) (Lo := fun q126 => [NG kn27 q126.1, q126.2.2.2, gd110.seg 5 (mc b8 ys111), cLb19_2499_0 p7, cLb19_2499_1 ex mh p3 rm to]) [1] [0, 2, 3] rfl (fun _ => kr) ma2 rfl rfl rfl (fun w_ hm_ hl_ => (outO_n kn27 sr53 _ 17 (mh : Int) (sr : Int) (to : Int) (po : Int) 9 17 0 (mh : Int) (sr : Int) gd110.a ys111.length gd110.cap 1 0 true false 0 false 1 7 FS (dgF mh sr ys111) (dgV 9 0 mh sr ys111) (fun _ => 0) (dgS mh sr ys111) _ hI57 hl_ ma1 (by rw [hN29.kc]; exact ⟨by decide, by decide⟩) ma2  (dg_rng hdg113) ma1 (dg_of hdg113 okd112.le (fun LL_ w2_ h2_ => FS.at (i := LL_.length + 0) (t := 5) (Mem.back (LL := [NG kn27 sr53]) (R := [gd110.seg 5 (mc b8 ys111), cLb19_2499_0 p7, cLb19_2499_1 ex mh p3 rm to]) (Mem.pick (LL' := [NG kn27 sr53] ++ [gd110.seg 5 (mc b8 ys111), cLb19_2499_0 p7, cLb19_2499_1 ex mh p3 rm to]) [1, 0, 2, 3] ma2 hm_ rfl) h2_) ((app_at 0).trans rfl) (FS.nil_cs okd112 (mc_len1 _)))) (dg_bg hdg113) (dg_fl hdg113) (dg_rw hdg113 okd112.le (fun LL_ w2_ h2_ => FS.at (i := LL_.length + 0) (t := 5) (Mem.back (LL := [NG kn27 sr53]) (R := [gd110.seg 5 (mc b8 ys111), cLb19_2499_0 p7, cLb19_2499_1 ex mh p3 rm to]) (Mem.pick (LL' := [NG kn27 sr53] ++ [gd110.seg 5 (mc b8 ys111), cLb19_2499_0 p7, cLb19_2499_1 ex mh p3 rm to]) [1, 0, 2, 3] ma2 hm_ rfl) h2_) ((app_at 0).trans rfl) (FS.nil_cs okd112 (mc_len1 _)))) (At.into (L := [NG kn27 sr53]) (R := [gd110.seg 5 (mc b8 ys111), cLb19_2499_0 p7, cLb19_2499_1 ex mh p3 rm to]) htab hne (Mem.pick (LL' := [NG kn27 sr53] ++ [gd110.seg 5 (mc b8 ys111), cLb19_2499_0 p7, cLb19_2499_1 ex mh p3 rm to]) [1, 0, 2, 3] ma2 hm_ rfl)).1 (At.into (L := [NG kn27 sr53]) (R := [gd110.seg 5 (mc b8 ys111), cLb19_2499_0 p7, cLb19_2499_1 ex mh p3 rm to]) htab hne (Mem.pick (LL' := [NG kn27 sr53] ++ [gd110.seg 5 (mc b8 ys111), cLb19_2499_0 p7, cLb19_2499_1 ex mh p3 rm to]) [1, 0, 2, 3] ma2 hm_ rfl)).2 (mp_has hI57 hre_ hee_))) (fun _ => rfl)) (fun q126 hx128 => ?_)
    obtain ⟨sr118, cd119, pv120, bl121⟩ := q126
    dsimp only at hx128
    obtain ⟨hI122, hms123, hls124, hO125⟩ := hx128
    refine Wl.castL (LL' := [NG kn27 sr118, bl121, gd110.seg 5 (mc b8 ys111), cLb19_2499_0 p7, cLb19_2499_1 ex mh p3 rm to]) rfl ?_
    skip
    ·obtain ⟨rfl, x129, ys130, okx131, rfl, rfl, hD132⟩ := sent_dg2 (s2 := 3405803781) (d2 := sr) (f2 := ex) (t2 := po) hdg113 (mp_out hI57 hre_ hee_ hO125) (by rw [hN29.kc]; rfl) ma2 ma1 ma1 ma1
     refine Wl.run 3 ma0 (Wl.ht rfl (Ht.alloc (z := aV dLb19_2499_2) (cs := dLb19_2499_2) rfl rfl Tryz.zeroValue40 rfl) (fun p14 => ?_))
     refine Wl.ht rfl (Ht.storeN (b := p14) (o' := 0) (i := 0) (j := 0) (vs := (dLb19_2499_5 sr x129 ys130)) (LL' := [[cb p14 (dLb19_2499_5 sr x129 ys130) 40], NG kn27 sr118, x129.seg 5 (mc b8 ys130), gd110.seg 5 (mc b8 ys111), cLb19_2499_0 p7, cLb19_2499_1 ex mh p3 rm to]) rfl rfl ma0 ma0 Tryz.sizeOf40 ma7 rfl rfl ma6 rfl rfl) (fun _ => Wl.run 1 ma0 (Wl.nil (hK109 _ _ _ (W.pick (LL' := [[cb p14 (dLb19_2499_5 sr x129 ys130) 40], NG kn27 sr118, x129.seg 5 (mc b8 ys130), cLb19_2499_0 p7, cLb19_2499_1 ex mh p3 rm to]) [0, 1, 2, 4, 5] ma2 rfl ?_))))
     refine W.prune' [1, 3, 7, 10, 14] [nV .u32 sr, pV p3 0, pV p7 0, iV .i64 0, pV p14 0] ma0 (fun f133 => W.seq (fun K134 hK134 => ?_))
     refine W.region (Wl.ys rfl rfl (Ys.loadN (b := p14) (o' := 0) (i := 0) (j := 0) (vs := (dLb19_2499_5 sr x129 ys130)) rfl ma0 Tryz.isAgg40 Tryz.sizeOf40 rfl rfl rfl rfl) (Wl.yc (v := Value.tuple #[aV [iV .u8 17, iV .u32 3405803781, nV .u32 sr, nV .u16 ex, nV .u16 po], iV .i64 1, iV .i64 0]) rfl rfl (Yc.call (fun _ => kr) (fun w_ hm_ => (dof_dg (ttl := 9) (pid := 0) hD132 okx131.le (FS.at (i := 2) (t := 5) hm_ rfl (FS.nil_cs okx131 (mc_len1 _)))))) (Wl.run 4 ma0 (Wl.ht rfl (Ht.alloc (z := aV dLb19_2499_4) (cs := dLb19_2499_4) rfl rfl Tryz.zeroValue47 rfl) (fun p15 => ?_)))))
     refine Wl.ht rfl (Ht.storeN (b := p15) (o' := 0) (i := 0) (j := 0) (vs := [iV .u8 17, iV .u32 3405803781, nV .u32 sr, nV .u16 ex, nV .u16 po]) (LL' := [[cb p15 [iV .u8 17, iV .u32 3405803781, nV .u32 sr, nV .u16 ex, nV .u16 po] 47], [cb p14 (dLb19_2499_5 sr x129 ys130) 40], NG kn27 sr118, x129.seg 5 (mc b8 ys130), cLb19_2499_0 p7, cLb19_2499_1 ex mh p3 rm to]) rfl rfl ma0 ma0 Tryz.sizeOf47 ma7 rfl rfl ma6 rfl rfl) (fun _ => Wl.run 2 ma0 (Wl.nil (hK134 _ _ _ (W.pick (LL' := [[cb p15 [iV .u8 17, iV .u32 3405803781, nV .u32 sr, nV .u16 ex, nV .u16 po] 47], NG kn27 sr118, cLb19_2499_0 p7, cLb19_2499_1 ex mh p3 rm to]) [0, 2, 4, 5] ma2 rfl ?_))))
     refine W.prune' [1, 3, 7, 10, 15] [nV .u32 sr, pV p3 0, pV p7 0, iV .i64 0, pV p15 0] ma0 (fun f135 => W.seq (fun K136 hK136 => ?_))
     refine W.region (Wl.run 3 ma0 (Wl.guard (v := pV p15 1) (true) rfl ma0 rfl (fun _ => Ys.pure (fun _ => kr)) (Wl.guard (v := iV .u32 3405803781) (true) rfl ma0 rfl (fun _ => Ys.load (b := p15) (o' := 1) (i := 0) (j := 0) (v := iV .u32 3405803781) rfl ma0 Tryz.isAgg24 rfl rfl rfl) (Wl.guard (v := pV p7 19) (true) rfl ma0 rfl (fun _ => Ys.pure (fun _ => kr)) ?_))))
     refine Wl.guard (v := iV .u32 3405803781) (true) rfl ma0 rfl (fun _ => Ys.load (b := p7) (o' := 19) (i := 2) (j := 0) (v := iV .u32 3405803781) rfl ma0 Tryz.isAgg24 rfl rfl rfl) (Wl.guard (v := bV true) (true) rfl ma0 rfl (fun _ => Ys.pure (fun _ => kr)) (Wl.run 2 ma0 (Wl.guard (v := pV p15 3) (true) rfl ma0 rfl (fun _ => Ys.pure (fun _ => kr)) (Wl.guard (v := nV .u16 ex) (true) rfl ma0 rfl (fun _ => Ys.load (b := p15) (o' := 3) (i := 0) (j := 0) (v := nV .u16 ex) rfl ma0 Tryz.isAgg22 rfl rfl rfl) ?_))))
     refine Wl.guard (v := pV p3 1) (true) rfl ma0 rfl (fun _ => Ys.pure (fun _ => kr)) (Wl.guard (v := nV .u16 ex) (true) rfl ma0 rfl (fun _ => Ys.load (b := p3) (o' := 1) (i := 3) (j := 0) (v := nV .u16 ex) rfl ma0 Tryz.isAgg22 rfl rfl rfl) (Wl.guard (v := bV (((ex : Nat) : Int) == (ex : Int))) (true) rfl ma0 rfl (fun _ => Ys.pure (fun _ => kr)) (Wl.run 2 ma0 ?_)))
     refine Wl.guard (v := pV p15 2) (((ex : Nat) : Int) == (ex : Int)) rfl (wantT rfl ma0) rfl (fun hg137 => ?_) ?_
     ·exact Ys.pure (fun _ => kr)
     refine Wl.guard (v := nV .u32 sr) (((ex : Nat) : Int) == (ex : Int)) rfl (wantT rfl ma0) rfl (fun hg138 => ?_) ?_
     ·refine Ys.at (t := 134) (v0 := pV p15 2) (lz (g := (ex : Int) == (ex : Int)) (u := undef) hg138 ma0) ?_
      exact Ys.l1 p15 2 0 0 Tryz.isAgg24
     refine Wl.guard (v := nV .u32 sr) (((ex : Nat) : Int) == (ex : Int)) rfl (wantT rfl ma0) rfl (fun hg139 => ?_) ?_
     ·exact Ys.pure (fun _ => kr)
     refine Wl.guard (v := bV (((sr : Nat) : Int) == (sr : Int))) (((ex : Nat) : Int) == (ex : Int)) rfl (wantT rfl ma0) rfl (fun hg140 => ?_) ?_
     ·refine Ys.at (t := 135) (v0 := nV .u32 sr) (lz (g := (ex : Int) == (ex : Int)) (u := undef) hg140 ma0) (Ys.at (t := 136) (v0 := nV .u32 sr) (lz (g := (ex : Int) == (ex : Int)) (u := undef) hg140 ma0) ?_)
      exact Ys.pure (fun _ => kr)
     refine Wl.ys (v := bV (((ex : Int) == (ex : Int)) && (((sr : Nat) : Int) == (sr : Int)))) rfl rfl (Ys.and (e := (ex : Int) == (ex : Int)) (b := (sr : Int) == (sr : Int)) rfl ma0 ma0 ma0) (Wl.run 1 ma0 (Wl.nil (hK136 _ _ _ (W.pick (LL' := [NG kn27 sr118]) [1] ma2 rfl ?_))))
     refine W.prune' [6] [bV (((ex : Int) == (ex : Int)) && (((sr : Nat) : Int) == (sr : Int)))] ma0 (fun f141 => W.ret ?_)
     show ∀ w_, _ → bodyPostM (fence none) 0 Tryz.prog Tryz.f3 _ Exit.ret _ w_
     exact fun w_ hS_ => fin_ret (ret1 rfl (RV.tmp (v := bV (((ex : Int) == (ex : Int)) && (((sr : Nat) : Int) == (sr : Int)))) ma0) hS_ ⟨by clear hK1 hK3 hK4 hK7 hK9 hK11 hK12 hK26 hK35 hK44 hK83 hK85 hK86 hK93 hK94 hK109 hK134 hK136; refine congrArg Ending.returned ?_; exact bool_congr ma6, hS_.below⟩)
end Go.Proofs.YtmonlaoaengfdaaGreatDoor.Oct
