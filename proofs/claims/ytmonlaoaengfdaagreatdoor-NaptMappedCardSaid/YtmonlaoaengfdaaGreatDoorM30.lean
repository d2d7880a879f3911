import Derived.Test.YtmonlaoaengfdaaGreatDoorM29
set_option linter.unusedVariables false
set_option linter.unusedSimpArgs false
set_option maxRecDepth 20000
namespace Go.Proofs.YtmonlaoaengfdaaGreatDoor.Oct
open Go.RowKit Base
attribute [local irreducible] Ys Yc Ht HtS HtIn Wl Wd W Mem pf dpf Wa Wo
open Conf (Fwd fwv)
def tkn (P : List (Int × Int)) : Nat → Nat → Bool := fun p q => decide (1024 ≤ q) && P.any fun x => (x.1 == (p : Int)) && (x.2 == (q : Int))
theorem tkn_nil : tkn [] = fun _ _ => false := by funext p q; simp [tkn]
theorem tkn_take {P : List (Int × Int)} {p q : Nat} : updF (tkn P) p (tkT (tkn P p) q) = tkn (P ++ [(((p : Nat) : Int), (q : Int))]) := by
  funext r t
  by_cases e : r = p
  · subst e
    rw [updF_same]
    unfold tkT tkB
    by_cases et : t = q
    · subst et
      by_cases hb : 1024 ≤ t
      · cases ht : tkn P r t with
        | true => simp only [ht, Bool.or_true, Bool.not_true, cond_false]; unfold tkn at ht ⊢; simp [hb] at ht ⊢
        | false => simp only [ht, Bool.or_false, show decide (t < 1024) = false from decide_eq_false ma1, Bool.not_false, cond_true]; rw [up_same]; unfold tkn; simp [hb]
      · rw [show decide (t < 1024) = true from decide_eq_true ma1]; simp only [Bool.true_or, Bool.not_true, cond_false]; unfold tkn; simp [hb]
    · have h2 : tkn (P ++ [(((r : Nat) : Int), (q : Int))]) r t = tkn P r t := by
        have e2 : (((q : Nat) : Int) == (t : Int)) = false := by rw [beq_eq_false_iff_ne]; omega
        unfold tkn; rw [List.any_append, List.any_cons, List.any_nil]; simp only [e2, Bool.and_false, Bool.or_false]
      rw [h2]
      cases (!(decide (q < 1024) || tkn P r q))
      · rfl
      · simp only [cond_true]; rw [up_other _ _ et]
  · rw [updF_other _ _ e]
    have e2 : (((p : Nat) : Int) == (r : Int)) = false := by rw [beq_eq_false_iff_ne]; omega
    unfold tkn; rw [List.any_append, List.any_cons, List.any_nil]; simp only [e2, Bool.false_and, Bool.or_false]
theorem take_one {α : Type} (d : α) {P : List α} {k : Nat} (h : k < P.length) : P.take k ++ [P.getD k d] = P.take (k + 1) := by
  rw [List.take_add_one, List.getD_eq_getElem?_getD, List.getElem?_eq_getElem h]; rfl
theorem tkC_none : tkC (fun _ => none) = List.replicate 256 (Value.pointer none) := by
  apply List.ext_getElem?
  intro i
  by_cases hi : i < 256
  · rw [tkC_get hi, List.getElem?_replicate, if_pos hi]; rfl
  · rw [List.getElem?_eq_none (by rw [tkC_len]; omega), List.getElem?_replicate, if_neg hi]
theorem natC_clear {cf : List Value} {m s e wh ids last : Value} {tk : Nat → Option Nat} (hc : cf.length = 28) : putAt (natC cf m s e tk wh ids last) 31 (List.replicate 256 (Value.pointer none)) = natC cf m s e (fun _ => none) wh ids last := by
  unfold natC putAt
  rw [tkC_none, List.length_replicate, List.take_append_of_le_length (by simp [hc]), List.take_of_length_le (by simp [hc]), List.drop_append, List.drop_eq_nil_of_le (by simp [hc]), List.nil_append, show 31 + 256 - (cf ++ [m, s, e]).length = 256 by simp [hc], List.drop_append, List.drop_eq_nil_of_le (by rw [tkC_len]; exact Nat.le_refl _), tkC_len]
  simp
theorem zero256 : (Builtin.zeroCells #[Value.pointer none] (255 + 1)).toList = List.replicate 256 (Value.pointer none) := by
  unfold Builtin.zeroCells
  rw [Array.toList_map, Array.toList_range]
  apply List.ext_getElem?
  intro i
  rw [List.getElem?_map]
  by_cases hi : i < 256
  · rw [List.getElem?_range (by show i < (255 + 1) * 1; omega), List.getElem?_replicate, if_pos hi]
    show some (#[Value.pointer none][i % 1]!) = _
    rw [Nat.mod_one]; rfl
  · rw [List.getElem?_eq_none (by rw [List.length_range]; show (255 + 1) * 1 ≤ i; omega), List.getElem?_replicate, if_neg hi]; rfl
def fxP (fx : List Conf.Fwd) : List (Int × Int) := fx.map fun w => (w.proto, w.port)
def msP (ms : List Mpg) : List (Int × Int) := ms.map fun m => (m.proto, m.ext)
def zsP (zs : List ((Int × Int × Int) × (Lse))) : List (Int × Int) := zs.map fun z => (z.1.1, z.2.ext)
theorem getD_map {α β : Type} {f : α → β} {xs : List α} {k : Nat} (d : α) (d' : β) (h : k < xs.length) : (xs.map f).getD k d' = f (xs.getD k d) := by
  rw [List.getD_eq_getElem?_getD, List.getElem?_map, List.getD_eq_getElem?_getD, List.getElem?_eq_getElem h]; rfl
theorem step_of {α : Type} {f : α → Int × Int} (d : α) {xs : List α} {k : Nat} {p q : Int} (hk : k < xs.length) (hp : (f (xs.getD k d)).1 = p) (hq : (f (xs.getD k d)).2 = q) : (xs.map f).take k ++ [(p, q)] = (xs.map f).take (k + 1) := by
  rw [← take_one (0, 0) (by rw [List.length_map]; exact hk), getD_map d (0, 0) hk, ← hp, ← hq]
theorem msP_step {ms : List Mpg} {k : Nat} {p q : Int} (hk : k < ms.length) (hp : (ms.getD k mp0).proto = p) (hq : (ms.getD k mp0).ext = q) : (msP ms).take k ++ [(p, q)] = (msP ms).take (k + 1) := step_of mp0 hk hp hq
theorem P_done {α : Type} {f : α → Int × Int} {xs : List α} {k : Nat} (h : xs.length ≤ k) : (xs.map f).take k = xs.map f := List.take_of_length_le (by rw [List.length_map]; exact h)
theorem getD_memd {α : Type} (d : α) {xs : List α} {k : Nat} (h : k < xs.length) : xs.getD k d ∈ xs := by
  rw [List.getD_eq_getElem?_getD, List.getElem?_eq_getElem h]; exact List.getElem_mem _
def stQ (s : NS) (tk : Nat → Option Nat) (TT : Nat → Nat → Bool) : NS := { s with p := { s.p with tk := tk, TT := TT } }
theorem stQ_ok0 {k : NK} {s : NS} (ok : NOk k s) : NOk k (stQ s (fun _ => none) (tkn [])) := ⟨ok.okm, ok.okf, ok.oks, ok.oki, ok.oke, ok.okw, ok.hmn, ok.hfn, ok.hmo, ok.hxn, ok.hyn, ok.hzn, ok.hwn, ok.hxs, ok.hys, ok.hzs, ok.hws, fun p _ => by show tkn [] p = _; rw [tkn_nil]⟩
theorem natL_clear {k : NK} {s : NS} : putAt (natL k s) 31 (List.replicate 256 (Value.pointer none)) = natL k (stQ s (fun _ => none) (tkn [])) := natC_clear rfl
theorem Mem.sublist {w0 w : World} {M : List Nat} {LL LL' : List (List Blk)} (hs : LL'.flatten.Sublist LL.flatten) (h : Mem w0 M LL w) : Mem w0 M LL' w := by
  unfold Mem at h ⊢
  exact Mem0.sub h (fun p hp => hs.mem hp) ((Mem0.nodup h).sublist (hs.map _))
theorem NG.clr {w0 w : World} {M : List Nat} {k : NK} {s : NS} {R : List (List Blk)} (h : Mem w0 M ((NG k s).set 0 (cb k.nb (natL k (stQ s (fun _ => none) (tkn []))) 91) :: R) w) : Mem w0 M (NG k (stQ s (fun _ => none) (tkn [])) :: R) w := by
  refine Mem.sublist ?_ h
  have e1 : (NG k s).set 0 (cb k.nb (natL k (stQ s (fun _ => none) (tkn []))) 91) = ((NBs k (stQ s (fun _ => none) (tkn []))).take 11).flatten ++ (setsB s.p.tk s.p.TT ++ s.p.es.map entB) := by
    rw [show setsB s.p.tk s.p.TT ++ s.p.es.map entB = ([setsB s.p.tk s.p.TT, s.p.es.map entB] : List (List Blk)).flatten by simp]
    rw [← List.flatten_append]; rfl
  have e2 : NG k (stQ s (fun _ => none) (tkn [])) = ((NBs k (stQ s (fun _ => none) (tkn []))).take 11).flatten ++ ([] ++ s.p.es.map entB) := by
    rw [← setsB_none (tkn [])]
    rw [show setsB (fun _ => none) (tkn []) ++ s.p.es.map entB = ([setsB (fun _ => none) (tkn []), s.p.es.map entB] : List (List Blk)).flatten by simp]
    rw [← List.flatten_append]; rfl
  rw [List.flatten_cons, List.flatten_cons, e1, e2]
  exact List.Sublist.append (List.Sublist.append (List.Sublist.refl _) (List.Sublist.append (List.nil_sublist _) (List.Sublist.refl _))) (List.Sublist.refl _)
abbrev cLb8_2046_0 (k : NK) (p1 : Nat) : List Blk := [cb p1 [Value.pointer (some ⟨k.nb, 0, none⟩)] 35]
theorem reserve_n (k : NK) (s : NS) (M : List Nat) (w : World) (ok : NOk k s) (hl : Mem w M [NG k s] w) (hfr : ∀ x ∈ k.fx, 0 ≤ x.proto ∧ x.proto ≤ 255 ∧ 0 ≤ x.port ∧ x.port ≤ 65535) (hmr : ∀ x ∈ s.p.ms, 0 ≤ x.proto ∧ x.proto ≤ 255 ∧ 0 ≤ x.ext ∧ x.ext ≤ 65535) (hzr : ∀ x ∈ s.p.zs, 0 ≤ x.1.1 ∧ x.1.1 ≤ 255 ∧ 0 ≤ x.2.ext ∧ x.2.ext ≤ 65535) (hf0 : k.fx.length = 0) (hz0 : s.p.zs.length = 0) : Calls Tryz.prog 36 #[Value.pointer (some ⟨k.nb, 0, none⟩)] w (RetM w (fun tk' : Nat → Option Nat => NOk k (stQ s tk' (tkn (fxP k.fx ++ msP s.p.ms ++ zsP s.p.zs)))) (fun _ => .tuple #[]) M (fun tk' => [NG k (stQ s tk' (tkn (fxP k.fx ++ msP s.p.ms ++ zsP s.p.zs)))])) := by
 obtain ⟨lxs, lys, lzs, lms, lfs⟩ := NOk.len ok
 refine calls_W (M := M) (LL := [NG k s]) (n := 61) Tryz.func36 rfl rfl ma6 (hl) (W.seq (fun K1 hK1 => ?_))
 refine W.region (Wl.ht rfl (Ht.box (v := Value.pointer (some ⟨k.nb, 0, none⟩)) (cs := [Value.pointer (some ⟨k.nb, 0, none⟩)]) rfl rfl ma0 rfl) (fun p1 => ?_))
 refine Wl.nil (hK1 _ _ _ (W.seq (fun K2 hK2 => W.region (Wl.ys rfl rfl (Ys.l1 p1 0 0 0 Tryz.isAgg35) ?_))))
 refine Wl.run 2 ma0 (Wl.ys (v := Value.slice (some ⟨k.nb, 31, none⟩) 256 256) rfl rfl (Ys.sliceArrV (b := k.nb) (o' := 31) (len := 256) (sz := 1) rfl ma0 Tryz.runUnderlying88 Tryz.sizeOf87) (Wl.ht rfl (Ht.clear (t := 165) (e := 87) (ii := (Tryz.prog.info? 87).getD default) (z := Value.pointer none) (m := 255) (cap := 256) (o' := 31) (i := 1) (j := 0) (b := k.nb) (ty := 91) (cs := natL k s) (cs' := natL k (stQ s (fun _ => none) (tkn []))) (zs := List.replicate 256 (Value.pointer none)) (LL' := [cLb8_2046_0 k p1, (NG k s).set 0 (cb k.nb (natL k (stQ s (fun _ => none) (tkn []))) 91)]) rfl rfl ma0 ma0 ma0 ma0 rfl rfl zero256 (by rw [show (natL k s).length = 290 from natC_len rfl, List.length_replicate]; decide) (fun v hv => by rw [List.eq_of_mem_replicate hv]; rfl) natL_clear rfl) (fun _ => Wl.nil (hK2 _ _ _ ?_))))
 refine W.prune' [1] [pV p1 0] ma0 (fun f3 => W.seq (fun K4 hK4 => ?_))
 refine W.seq (fun K5 hK5 => W.conseq (S' := Mem w M [NG k (stQ s (fun _ => none) (tkn [])), cLb8_2046_0 k p1]) (fun w_ h_ => NG.clr (h_.pick [1, 0] ma2 rfl)) ?_)
 have hF_ : ([] : List (Int × Int)) = (fxP k.fx).take 0 := rfl
 have ok0_ : NOk k (stQ s (fun _ => none) (tkn ((fxP k.fx).take 0))) := hF_ ▸ (stQ_ok0 ok)
 refine W.conseq (S' := Mem w M [NG k (stQ s (fun _ => none) (tkn ((fxP k.fx).take 0))), [cb p1 [Value.pointer (some ⟨k.nb, 0, none⟩)] 35]]) (fun w_ h_ => Mem.cast (LL := [NG k (stQ s (fun _ => none) (tkn [])), [cb p1 [Value.pointer (some ⟨k.nb, 0, none⟩)] 35]]) (by rw [hF_]) h_) (W.region (Wl.ys rfl rfl (Ys.l1 p1 0 1 0 Tryz.isAgg35) (Wl.run 3 ma0 (Wl.ys rfl rfl (Ys.load (b := k.nb) (o' := 25) (i := 0) (j := 0) (cs := natL k (stQ s (fun _ => none) (tkn ((fxP k.fx).take 0)))) (v := Value.slice k.gf.a k.fx.length k.gf.cap) rfl ma0 Tryz.isAgg30 rfl rfl ((natC_lo rfl ma2).trans rfl)) ?_))))
 refine Wl.run 2 ma0 (Wl.nil (hK5 _ _ _ (W.prune' [1, 16, 17, 18] [pV p1 0, Value.slice k.gf.a k.fx.length k.gf.cap, nV .i64 k.fx.length, iV .i64 0] ma0 (fun f6 => W.block ?_))))
 refine W.loop2 [1, 16, 17, 18] (fun (k1 : Nat) (tk1 : Nat → Option Nat) => [pV p1 0, Value.slice k.gf.a k.fx.length k.gf.cap, nV .i64 k.fx.length, nV .i64 k1]) (fun (k1 : Nat) (tk1 : Nat → Option Nat) => k1 ≤ k.fx.length ∧ NOk k (stQ s tk1 (tkn ((fxP k.fx).take k1)))) (fun (k1 : Nat) (tk1 : Nat → Option Nat) => [NG k (stQ s tk1 (tkn ((fxP k.fx).take k1))), cLb8_2046_0 k p1]) (fun (k1 : Nat) (tk1 : Nat → Option Nat) => k.fx.length - k1) 0 (fun _ => none) ma0 ⟨(Nat.zero_le _), ok0_⟩ (by rfl) (fun k1 tk1 f8 J7 hp9 hJ7 => ?_)
 obtain ⟨hk1, okq1⟩ := hp9
 refine W.seq (fun K10 hK10 => W.region (Wl.run 1 ma0 (Wl.nil (hK10 _ _ _ ?_))))
 refine W.seq (fun K11 hK11 => ?_)
 refine W.cond (decide (((k1 : Nat) : Int) < (k.fx.length : Int))) ma0 (fun h12 => ?_) (fun h13 => ?_)
 ·have qh12 := h12; try simp only [zA] at qh12
  exfalso; have z_ := of_decide_eq_true h12; omega
 ·have qh13 := h13; try simp only [zA] at qh13
  refine W.exit (hK4 _ _ _ (W.prune' [1] [pV p1 0] ma0 (fun f14 => W.seq (fun K15 hK15 => W.seq (fun K16 hK16 => ?_)))))
  have hF_ : (fxP k.fx).take k1 = fxP k.fx ++ (msP s.p.ms).take 0 := by rw [show (fxP k.fx).take k1 = fxP k.fx from P_done ma1]; simp
  have ok0_ : NOk k (stQ s tk1 (tkn (fxP k.fx ++ (msP s.p.ms).take 0))) := hF_ ▸ okq1
  refine W.conseq (S' := Mem w M [NG k (stQ s tk1 (tkn (fxP k.fx ++ (msP s.p.ms).take 0))), [cb p1 [Value.pointer (some ⟨k.nb, 0, none⟩)] 35]]) (fun w_ h_ => Mem.cast (LL := [NG k (stQ s tk1 (tkn ((fxP k.fx).take k1))), [cb p1 [Value.pointer (some ⟨k.nb, 0, none⟩)] 35]]) (by rw [hF_]) h_) (W.region (Wl.ys rfl rfl (Ys.l1 p1 0 1 0 Tryz.isAgg35) (Wl.run 2 ma0 (Wl.ys rfl rfl (Ys.load (b := k.nb) (o' := 28) (i := 0) (j := 0) (cs := natL k (stQ s tk1 (tkn (fxP k.fx ++ (msP s.p.ms).take 0)))) (v := Value.slice s.gm.a s.p.ms.length s.gm.cap) rfl ma0 Tryz.isAgg56 rfl rfl ((natC_lo rfl ma2).trans rfl)) ?_))))
  refine Wl.run 2 ma0 (Wl.nil (hK16 _ _ _ (W.prune' [1, 33, 34, 35] [pV p1 0, Value.slice s.gm.a s.p.ms.length s.gm.cap, nV .i64 s.p.ms.length, iV .i64 0] ma0 (fun f17 => W.block ?_))))
  refine W.loop2 [1, 33, 34, 35] (fun (k2 : Nat) (tk2 : Nat → Option Nat) => [pV p1 0, Value.slice s.gm.a s.p.ms.length s.gm.cap, nV .i64 s.p.ms.length, nV .i64 k2]) (fun (k2 : Nat) (tk2 : Nat → Option Nat) => k2 ≤ s.p.ms.length ∧ NOk k (stQ s tk2 (tkn (fxP k.fx ++ (msP s.p.ms).take k2)))) (fun (k2 : Nat) (tk2 : Nat → Option Nat) => [NG k (stQ s tk2 (tkn (fxP k.fx ++ (msP s.p.ms).take k2))), cLb8_2046_0 k p1]) (fun (k2 : Nat) (tk2 : Nat → Option Nat) => s.p.ms.length - k2) 0 tk1 ma0 ⟨(Nat.zero_le _), ok0_⟩ (by rfl) (fun k2 tk2 f19 J18 hp20 hJ18 => ?_)
  obtain ⟨hk2, okq2⟩ := hp20
  refine W.seq (fun K21 hK21 => W.region (Wl.run 1 ma0 (Wl.nil (hK21 _ _ _ ?_))))
  refine W.seq (fun K22 hK22 => ?_)
  refine W.cond (decide (((k2 : Nat) : Int) < (s.p.ms.length : Int))) ma0 (fun h23 => ?_) (fun h24 => ?_)
  ·have qh23 := h23; try simp only [zA] at qh23
   refine W.skip' (hK22 _ _ _ (W.prune' [1, 33, 34, 35] [pV p1 0, Value.slice s.gm.a s.p.ms.length s.gm.cap, nV .i64 s.p.ms.length, nV .i64 k2] ma0 (fun f25 => W.seq (fun K26 hK26 => W.block ?_))))
   refine W.seq (fun K27 hK27 => ?_)
   have hrg_ := hmr _ (getD_memd mp0 (xs := s.p.ms) (k := k2) ma1)
   obtain ⟨pn_, hpn_⟩ : ∃ n : Nat, (s.p.ms.getD k2 mp0).proto = (n : Int) := ⟨_, (Int.toNat_of_nonneg ma1).symm⟩
   obtain ⟨qn_, hqn_⟩ : ∃ n : Nat, (s.p.ms.getD k2 mp0).ext = (n : Int) := ⟨_, (Int.toNat_of_nonneg ma1).symm⟩
   have hpl_ : pn_ < 256 := by omega
   have hql_ : qn_ < 65536 := by omega
   refine W.region (Wl.ys (v := Value.pointer (some (ela s.gm.a (k2 * 5)))) rfl rfl (Ys.byMem fun w_ h_ => Ys.indexAddr (k := .i64) (a := s.gm.a) (len := s.p.ms.length) (cap := s.gm.cap) (i := (k2 : Int)) (sz := 5) rfl ma0 ma0 Tryz.runUnderlying56 Tryz.sizeOf26 ma1 ma1 ((@id (At _ s.gm.a (mm mpM s.p.ms)) (NG.ms (s := (stQ s tk2 (tkn (fxP k.fx ++ (msP s.p.ms).take k2)))) (i := 0) h_ rfl okq2)).here (by rw [mm_len (g := mpM) (sz := 5) (fun _ => rfl)]; first | omega | (simp; omega)))) (Wl.ys (v := aV [iV .u8 ((s.p.ms.getD k2 mp0).proto), iV .u16 ((s.p.ms.getD k2 mp0).ext), iV .u16 ((s.p.ms.getD k2 mp0).to), iV .u32 ((s.p.ms.getD k2 mp0).remote), iV .u32 ((s.p.ms.getD k2 mp0).host)]) rfl rfl (Ys.ldN (a := ela s.gm.a (k2 * 5)) (vs := [iV .u8 ((s.p.ms.getD k2 mp0).proto), iV .u16 ((s.p.ms.getD k2 mp0).ext), iV .u16 ((s.p.ms.getD k2 mp0).to), iV .u32 ((s.p.ms.getD k2 mp0).remote), iV .u32 ((s.p.ms.getD k2 mp0).host)]) rfl ma0 Tryz.isAgg26 Tryz.sizeOf26 rfl (fun w_ h_ => (@id (At _ s.gm.a (mm mpM s.p.ms)) (NG.ms (s := (stQ s tk2 (tkn (fxP k.fx ++ (msP s.p.ms).take k2)))) (i := 0) h_ rfl okq2)).ldN (mm_get (g := mpM) (sz := 5) (fun _ => rfl) mp0 (xs := s.p.ms) (k := k2) ma1))) (Wl.ht rfl (Ht.alloc (z := aV zl6) (cs := zl6) rfl rfl Tryz.zeroValue26 rfl) (fun p5 => Wl.ht rfl (Ht.storeN (b := p5) (o' := 0) (i := 0) (j := 0) (vs := [iV .u8 ((s.p.ms.getD k2 mp0).proto), iV .u16 ((s.p.ms.getD k2 mp0).ext), iV .u16 ((s.p.ms.getD k2 mp0).to), iV .u32 ((s.p.ms.getD k2 mp0).remote), iV .u32 ((s.p.ms.getD k2 mp0).host)]) (LL' := [[cb p5 [iV .u8 ((s.p.ms.getD k2 mp0).proto), iV .u16 ((s.p.ms.getD k2 mp0).ext), iV .u16 ((s.p.ms.getD k2 mp0).to), iV .u32 ((s.p.ms.getD k2 mp0).remote), iV .u32 ((s.p.ms.getD k2 mp0).host)] 26], NG k (stQ s tk2 (tkn (fxP k.fx ++ (msP s.p.ms).take k2))), cLb8_2046_0 k p1]) rfl rfl ma0 ma0 Tryz.sizeOf26 ma7 rfl rfl ma6 rfl rfl) (fun _ => ?_)))))
   refine Wl.nil (hK27 _ _ _ (W.prune' [1, 5, 33, 34, 35] [pV p1 0, pV p5 0, Value.slice s.gm.a s.p.ms.length s.gm.cap, nV .i64 s.p.ms.length, nV .i64 k2] ma0 (fun f28 => W.draws [(0, true), (1, true), (2, true), (4, true), (5, true), (3, false), (6, false)] [0, 1, 2, 4, 5] (fun w_ => ∃ s_ : NS, Mem w M [[cb p5 [iV .u8 ((s.p.ms.getD k2 mp0).proto), iV .u16 ((s.p.ms.getD k2 mp0).ext), iV .u16 ((s.p.ms.getD k2 mp0).to), iV .u32 ((s.p.ms.getD k2 mp0).remote), iV .u32 ((s.p.ms.getD k2 mp0).host)] 26], NG k s_, cLb8_2046_0 k p1] w_) ma0 ma0 ma0 rfl ma0 (fun _ _ h_ => h_.drawn _) (fun _ h_ => ⟨_, h_⟩) (Wd.ys rfl rfl rfl (Ys.ex (fun s_ => Ys.load (b := p1) (o' := 0) (i := 2) (j := 0) (v := Value.pointer (some ⟨k.nb, 0, none⟩)) rfl ma0 Tryz.isAgg35 rfl rfl rfl)) ?_))))
   refine Wd.run 1 ma0 (Wd.ys (v := nV .u8 pn_) rfl rfl rfl (Ys.ex (fun s_ => Ys.conseq (v := iV .u8 ((s.p.ms.getD k2 mp0).proto)) (int_congr (hpn_)) (Ys.l1 p5 0 0 0 Tryz.isAgg5))) (Wd.run 1 ma0 (Wd.ys (v := nV .u16 qn_) rfl rfl rfl (Ys.ex (fun s_ => Ys.conseq (v := iV .u16 ((s.p.ms.getD k2 mp0).ext)) (int_congr (hqn_)) (Ys.l1 p5 1 0 0 Tryz.isAgg22))) (Wd.htS rfl rfl (HtS.call (β := Nat) (k := 69) (args := #[Value.pointer (some ⟨k.nb, 0, none⟩), nV .u8 pn_]) (Lin := [NG k (stQ s tk2 (tkn (fxP k.fx ++ (msP s.p.ms).take k2)))]) (Lk := [[cb p5 [iV .u8 ((s.p.ms.getD k2 mp0).proto), iV .u16 ((s.p.ms.getD k2 mp0).ext), iV .u16 ((s.p.ms.getD k2 mp0).to), iV .u32 ((s.p.ms.getD k2 mp0).remote), iV .u32 ((s.p.ms.getD k2 mp0).host)] 26], cLb8_2046_0 k p1]) (Lo := fun pb29 => [NG k (stQ s (upo tk2 pn_ (some pb29)) (tkn (fxP k.fx ++ (msP s.p.ms).take k2))), [cb p5 [iV .u8 ((s.p.ms.getD k2 mp0).proto), iV .u16 ((s.p.ms.getD k2 mp0).ext), iV .u16 ((s.p.ms.getD k2 mp0).to), iV .u32 ((s.p.ms.getD k2 mp0).remote), iV .u32 ((s.p.ms.getD k2 mp0).host)] 26], cLb8_2046_0 k p1]) [1] [0, 2] rfl (fun _ => kr) ma2 rfl rfl rfl (fun w_ hm_ hl_ => (set_e ma1 okq2 hl_)) (fun _ => rfl)) (.inr fun _ _ h_ => ⟨_, h_.pick [1, 0, 2] ma2 rfl⟩) (fun pb29 hx33 => ?_)))))
   obtain ⟨ok30, hps31⟩ := hx33
   refine Wd.htS rfl rfl (HtS.call (β := Unit) (k := 70) (args := #[pV pb29 0, nV .u16 qn_]) (Lin := [NG k (stQ s (upo tk2 pn_ (some pb29)) (tkn (fxP k.fx ++ (msP s.p.ms).take k2)))]) (Lk := [[cb p5 [iV .u8 ((s.p.ms.getD k2 mp0).proto), iV .u16 ((s.p.ms.getD k2 mp0).ext), iV .u16 ((s.p.ms.getD k2 mp0).to), iV .u32 ((s.p.ms.getD k2 mp0).remote), iV .u32 ((s.p.ms.getD k2 mp0).host)] 26], cLb8_2046_0 k p1]) (Lo := fun u35 => [NG k (stQ s (upo tk2 pn_ (some pb29)) (updF (tkn (fxP k.fx ++ (msP s.p.ms).take k2)) pn_ (tkT ((tkn (fxP k.fx ++ (msP s.p.ms).take k2)) pn_) qn_))), [cb p5 [iV .u8 ((s.p.ms.getD k2 mp0).proto), iV .u16 ((s.p.ms.getD k2 mp0).ext), iV .u16 ((s.p.ms.getD k2 mp0).to), iV .u32 ((s.p.ms.getD k2 mp0).remote), iV .u32 ((s.p.ms.getD k2 mp0).host)] 26], cLb8_2046_0 k p1]) [0] [1, 2] rfl (fun _ => kr) ma2 rfl rfl rfl (fun w_ hm_ hl_ => (take_e ma1 ma1 (upo_same _ _ _) ok30 hl_)) (fun _ => rfl)) (.inr fun _ _ h_ => ⟨_, h_.pick [1, 0, 2] ma2 rfl⟩) (fun u35 ok34 => Wd.nil (hK26 _ _ _ (W.pick (LL' := [NG k (stQ s (upo tk2 pn_ (some pb29)) (updF (tkn (fxP k.fx ++ (msP s.p.ms).take k2)) pn_ (tkT ((tkn (fxP k.fx ++ (msP s.p.ms).take k2)) pn_) qn_))), cLb8_2046_0 k p1]) [0, 2] ma2 rfl (W.prune' [1, 33, 34, 35] [pV p1 0, Value.slice s.gm.a s.p.ms.length s.gm.cap, nV .i64 s.p.ms.length, nV .i64 k2] ma0 (fun f37 => ?_)))))
   refine W.region (Wl.ys (v := nV .i64 (k2 + 1)) rfl rfl ((Ys.pure (v := .int .i64 (iadd .i64 (k2 : Int) 1)) (fun _ => kr)).conseq (int_congr (iadd_eq ma1 ma1 ma1))) (Wl.run 1 ma0 (Wl.nil ?_)))
   have hE_ : (fxP k.fx ++ (msP s.p.ms).take k2) ++ [(((pn_ : Nat) : Int), (qn_ : Int))] = fxP k.fx ++ (msP s.p.ms).take (k2 + 1) := by rw [List.append_assoc]; exact congrArg (fun z_ => (fxP k.fx) ++ z_) (msP_step ma1 hpn_ hqn_)
   have hT_ : updF (tkn (fxP k.fx ++ (msP s.p.ms).take k2)) pn_ (tkT ((tkn (fxP k.fx ++ (msP s.p.ms).take k2)) pn_) qn_) = tkn (fxP k.fx ++ (msP s.p.ms).take (k2 + 1)) := by rw [tkn_take, hE_]
   refine fun w_ h_ => hJ18 (k2 + 1) (upo tk2 pn_ (some pb29)) _ w_ ma1 ⟨ma1, (hT_ ▸ ok34)⟩ ?_ (Mem.cast (LL := [NG k (stQ s (upo tk2 pn_ (some pb29)) (updF (tkn (fxP k.fx ++ (msP s.p.ms).take k2)) pn_ (tkT ((tkn (fxP k.fx ++ (msP s.p.ms).take k2)) pn_) qn_))), [cb p1 [Value.pointer (some ⟨k.nb, 0, none⟩)] 35]]) (by rw [hT_]) h_)
   kernel_rfl
  ·have qh24 := h24; try simp only [zA] at qh24
   refine W.exit (hK15 _ _ _ (W.prune' [1] [pV p1 0] ma0 (fun f38 => W.seq (fun K39 hK39 => ?_))))
   have hF_ : fxP k.fx ++ (msP s.p.ms).take k2 = fxP k.fx ++ msP s.p.ms ++ (zsP s.p.zs).take 0 := by rw [show (msP s.p.ms).take k2 = msP s.p.ms from P_done ma1]; simp
   have ok0_ : NOk k (stQ s tk2 (tkn (fxP k.fx ++ msP s.p.ms ++ (zsP s.p.zs).take 0))) := hF_ ▸ okq2
   refine W.conseq (S' := Mem w M [NG k (stQ s tk2 (tkn (fxP k.fx ++ msP s.p.ms ++ (zsP s.p.zs).take 0))), [cb p1 [Value.pointer (some ⟨k.nb, 0, none⟩)] 35]]) (fun w_ h_ => Mem.cast (LL := [NG k (stQ s tk2 (tkn (fxP k.fx ++ (msP s.p.ms).take k2))), [cb p1 [Value.pointer (some ⟨k.nb, 0, none⟩)] 35]]) (by rw [hF_]) h_) (W.region (Wl.ys rfl rfl (Ys.l1 p1 0 1 0 Tryz.isAgg35) (Wl.run 2 ma0 (Wl.ys rfl rfl (Ys.load (b := k.nb) (o' := 30) (i := 0) (j := 0) (cs := natL k (stQ s tk2 (tkn (fxP k.fx ++ msP s.p.ms ++ (zsP s.p.zs).take 0)))) (v := Value.pointer (some ⟨k.te, 0, none⟩)) rfl ma0 Tryz.isAgg86 rfl rfl ((natC_lo rfl ma2).trans rfl)) ?_))))
   refine Wl.htS rfl (HtS.call (β := Nat) (k := 71) (args := #[Value.pointer (some ⟨k.te, 0, none⟩)]) (Lin := []) (Lk := [NG k (stQ s tk2 (tkn (fxP k.fx ++ msP s.p.ms ++ (zsP s.p.zs).take 0))), cLb8_2046_0 k p1]) (Mi := []) (Lo := fun ab40 => [[cb ab40 [Value.pointer (some ⟨k.te, 0, none⟩)] 86], NG k (stQ s tk2 (tkn (fxP k.fx ++ msP s.p.ms ++ (zsP s.p.zs).take 0))), cLb8_2046_0 k p1]) [] [0, 1] rfl (fun _ => kr) ma2 rfl rfl rfl (fun w_ hm_ hl_ => (allD_c k.te _)) (fun _ => rfl)) (fun ab40 _ => Wl.nil (hK39 _ _ _ (W.prune' [1, 51] [pV p1 0, Value.func (.func 120) #[] #[pV ab40 0]] ma0 (fun f42 => W.block ?_))))
   refine W.range2 (σ := (Nat → Option Nat) × (Nat → Nat → Bool)) (enc := fun k3 => [aV [iV .u8 (((s.p.zs.getD k3 dD).1).1), iV .u32 (((s.p.zs.getD k3 dD).1).2.1), iV .u16 (((s.p.zs.getD k3 dD).1).2.2)], aV [iV .u16 (((s.p.zs.getD k3 dD).2).ext), iV .i64 (((s.p.zs.getD k3 dD).2).count)]]) (N := s.p.zs.length) (Lu := fun (gs_ : (Nat → Option Nat) × (Nat → Nat → Bool)) => [NG k (stQ s gs_.1 gs_.2), cLb8_2046_0 k p1]) (Li := [[cb ab40 [Value.pointer (some ⟨k.te, 0, none⟩)] 86]]) (Lk := []) [1, 2] [0] [] (tk2, tkn (fxP k.fx ++ msP s.p.ms ++ (zsP s.p.zs).take 0)) (fun k3 (gs_ : (Nat → Option Nat) × (Nat → Nat → Bool)) => gs_.2 = tkn (fxP k.fx ++ msP s.p.ms ++ (zsP s.p.zs).take k3) ∧ NOk k (stQ s gs_.1 gs_.2)) (fun c_ (gs_ : (Nat → Option Nat) × (Nat → Nat → Bool)) => False) [52, 53] ma0 (fun _ _ => rfl) ma2 (by rfl) rfl rfl rfl (fun _ => rfl) (⟨rfl, ok0_⟩) (fun D_ l_ ob_ w1_ hm_ => (allD_it s.p.zs s.ge.a s.ge.cap k.mo k.te ab40 _ w1_ (NG.atD (s := (stQ s tk2 (tkn (fxP k.fx ++ msP s.p.ms ++ (zsP s.p.zs).take 0)))) (i := 2) hm_ rfl) (@id (At _ s.ge.a (mm prD s.p.zs)) (NG.zs (s := (stQ s tk2 (tkn (fxP k.fx ++ msP s.p.ms ++ (zsP s.p.zs).take 0)))) (i := 2) hm_ rfl ok0_)) ma12)) ?_ ?_ ?_
   ·intro D43 l44 ob45 ob46 k3 s48 u49 Mu50 J51 hi52 hp53 hcv54 hJ55
    obtain ⟨tk3, T3⟩ := s48
    obtain ⟨hT3, okq3⟩ := hp53
    have hT3 : T3 = tkn (fxP k.fx ++ msP s.p.ms ++ (zsP s.p.zs).take k3) := hT3
    have okq3 : NOk k (stQ s tk3 T3) := okq3
    have hrg_ := hzr _ (getD_memd dD (xs := s.p.zs) (k := k3) ma1)
    obtain ⟨pn_, hpn_⟩ : ∃ n : Nat, (s.p.zs.getD k3 dD).1.1 = (n : Int) := ⟨_, (Int.toNat_of_nonneg ma1).symm⟩
    obtain ⟨qn_, hqn_⟩ : ∃ n : Nat, (s.p.zs.getD k3 dD).2.ext = (n : Int) := ⟨_, (Int.toNat_of_nonneg ma1).symm⟩
    have hpl_ : pn_ < 256 := by omega
    have hql_ : qn_ < 65536 := by omega
    exfalso; omega
   ·intro D56 l57 ob58 s59 hp60
    obtain ⟨tk3, T3⟩ := s59
    obtain ⟨hT3, okq3⟩ := hp60
    have hT3 : T3 = tkn (fxP k.fx ++ msP s.p.ms ++ (zsP s.p.zs).take s.p.zs.length) := hT3
    have okq3 : NOk k (stQ s tk3 T3) := okq3
    refine Mem.pickK (LL' := [[cb ab40 [Value.pointer (some ⟨k.te, 0, none⟩)] 86], NG k (stQ s tk3 T3), cLb8_2046_0 k p1, dB D56]) [4, 2, 3, 0] ma2 rfl ?_
    have hF_ : T3 = tkn (fxP k.fx ++ msP s.p.ms ++ zsP s.p.zs) := by rw [hT3, show (zsP s.p.zs).take s.p.zs.length = zsP s.p.zs from P_done (Nat.le_refl _)]
    show ∀ w_, _ → bodyPostM (fence none) 0 Tryz.prog Tryz.f36 _ Exit.normal _ w_
    exact fun w_ h0_ => fin_mark (h0_.mark (i := 3) rfl).1 (by have hS_ : Mem w M [[cb ab40 [Value.pointer (some ⟨k.te, 0, none⟩)] 86], NG k (stQ s tk3 T3), [cb p1 [Value.pointer (some ⟨k.nb, 0, none⟩)] 35], [⟨D56, .deferred none⟩]] _ := (h0_.mark (i := 3) rfl).2; exact ret0 rfl  ⟨tk3, (by rw [← hF_]; exact okq3), rfl, (Mem.cast (LL := [NG k (stQ s tk3 T3)]) (by rw [hF_]) (hS_.pick [1] ma2 rfl))⟩)
   ·intro D_ l_ ob_ c_ s_ h_; exact h_.elim
end Go.Proofs.YtmonlaoaengfdaaGreatDoor.Oct
namespace Go.Proofs.YtmonlaoaengfdaaGreatDoor.Oct
open Go.RowKit Base
attribute [local irreducible] Ys Yc Ht HtS HtIn Wl Wd W Mem pf dpf Wa Wo
open Conf (Fwd fwv)
/-! The invariant, in plain Lean. -/
def stE (s : NS) (es : List (Nat × SesE)) : NS := { s with p := { s.p with es := es } }
def gvE (t : EndT) (x : Nat × SesE) : Bool := x.2.given && decide (endF (flE x.2) = t)
def cntE (t : EndT) (es : List (Nat × SesE)) : Nat := es.countP (gvE t)
structure RngE (e : SesE) : Prop where
  pr : 0 ≤ e.pr ∧ e.pr ≤ 255
  src : 0 ≤ e.src ∧ e.src ≤ 4294967295
  dst : 0 ≤ e.dst ∧ e.dst ≤ 4294967295
  frm : 0 ≤ e.frm ∧ e.frm ≤ 65535
  dto : 0 ≤ e.dto ∧ e.dto ≤ 65535
  ext : 0 ≤ e.ext ∧ e.ext ≤ 65535
def RngF (fx : List Conf.Fwd) : Prop := ∀ x ∈ fx, 0 ≤ x.proto ∧ x.proto ≤ 255 ∧ 0 ≤ x.port ∧ x.port ≤ 65535 ∧ 0 ≤ x.host ∧ x.host ≤ 4294967295 ∧ 0 ≤ x.dest ∧ x.dest ≤ 65535
def RngM (ms : List Mpg) : Prop := ∀ x ∈ ms, 0 ≤ x.proto ∧ x.proto ≤ 255 ∧ 0 ≤ x.ext ∧ x.ext ≤ 65535 ∧ 0 ≤ x.to ∧ x.to ≤ 65535 ∧ 0 ≤ x.host ∧ x.host ≤ 4294967295
structure InvA (k : NK) (p : NP) (o : Option Int) : Prop where
  tie : p.xs = p.es.map pxE
  ids : ∀ i f, (i, f) ∈ p.ys ↔ ∃ x ∈ p.es, x.2.id = i ∧ flE x.2 = f
  idn : (p.es.map fun x => x.2.id).Nodup
  lst : 0 ≤ p.lst ∧ ∀ x ∈ p.es, 0 ≤ x.2.id ∧ x.2.id < p.lst
  whl : ∀ i t, (t, i) ∈ p.ws ↔ ∃ x ∈ p.es, x.2.id = i ∧ x.2.ends = t ∧ o ≠ some i
  lse : ∀ e l, (e, l) ∈ p.zs → l.count = (cntE e p.es : Int) ∧ 1 ≤ l.count ∧ (0 ≤ l.ext ∧ l.ext ≤ 65535) ∧ ∀ x ∈ p.es, gvE e x = true → x.2.ext = l.ext
  lsi : ∀ x ∈ p.es, x.2.given = true → hasK p.zs (endF (flE x.2)) = true
  inj : ∀ e l e' l', (e, l) ∈ p.zs → (e', l') ∈ p.zs → e.1 = e'.1 → l.ext = l'.ext → e = e'
  rng : ∀ x ∈ p.es, RngE x.2
theorem cntE_app (t : EndT) (A B : List (Nat × SesE)) : cntE t (A ++ B) = cntE t A + cntE t B := List.countP_append
theorem cntE_mid (t : EndT) (A B : List (Nat × SesE)) (x : Nat × SesE) : cntE t (A ++ x :: B) = cntE t (A ++ B) + (bif gvE t x then 1 else 0) := by
  rw [cntE_app, cntE_app]; unfold cntE; rw [List.countP_cons]; cases gvE t x <;> simp <;> omega
theorem cntE_pos {t : EndT} {es : List (Nat × SesE)} (h : 1 ≤ cntE t es) : ∃ x ∈ es, gvE t x = true := List.countP_pos_iff.1 h
theorem gvE_iff {t : EndT} {x : Nat × SesE} : gvE t x = true ↔ x.2.given = true ∧ endF (flE x.2) = t := by unfold gvE; simp
section
variable {k : NK} {p p' : NP} {o : Option Int} {A B : List (Nat × SesE)} {b : Nat} {e : SesE}
theorem InvA.srt (h : InvA k p o) (hs : Srt ordF p.xs) : (p.es.map pxE).Pairwise fun p q => ordF.lt p.1 q.1 = true := by rw [← h.tie]; exact hs
theorem id_other (hn : ((A ++ (b, e) :: B).map fun x => x.2.id).Nodup) : ∀ x ∈ A ++ B, x.2.id ≠ e.id := fun x hx hi => by
  have h1 : (((b, e) :: (A ++ B)).map fun x => x.2.id).Nodup := (List.perm_middle.map _).nodup_iff.1 hn
  rw [List.map_cons, List.nodup_cons] at h1
  exact h1.1 (by rw [← hi]; exact List.mem_map_of_mem hx)
theorem mem_mid {x y : Nat × SesE} : y ∈ A ++ x :: B ↔ y = x ∨ y ∈ A ++ B := by simp only [List.mem_append, List.mem_cons]; constructor <;> (intro h; rcases h with h | h | h <;> simp_all)
end
end Go.Proofs.YtmonlaoaengfdaaGreatDoor.Oct
namespace Go.Proofs.YtmonlaoaengfdaaGreatDoor.Oct
open Go.RowKit Base
attribute [local irreducible] Ys Yc Ht HtS HtIn Wl Wd W Mem pf dpf Wa Wo
open Conf (Fwd fwv)
/-! The invariant: sizes; a session that is renewed; that is added; the rules. -/
theorem nodup_len {α : Type} [DecidableEq α] : ∀ {l l' : List α}, l.Nodup → (∀ x ∈ l, x ∈ l') → l.length ≤ l'.length
  | [], _, _, _ => Nat.zero_le _
  | x :: l, l', hn, hs => by
    have hn' := List.nodup_cons.1 hn
    have hx := hs x (List.mem_cons_self ..)
    have h1 : l.length ≤ (l'.erase x).length := nodup_len hn'.2 fun y hy => (List.mem_erase_of_ne (fun e => hn'.1 (by rw [← e]; exact hy))).2 (hs y (List.mem_cons_of_mem _ hy))
    have h2 := List.length_erase_of_mem hx
    have h3 := List.length_pos_of_mem hx
    simp only [List.length_cons]; omega
theorem srt_nodup {K V : Type} [DecidableEq K] {o : LO K} {xs : List (K × V)} (h : Srt o xs) : (xs.map Prod.fst).Nodup := by
  unfold List.Nodup
  rw [List.pairwise_map]
  exact h.imp fun hlt => o.ne hlt
section
variable {k : NK} {p p' : NP} {o : Option Int} {A B : List (Nat × SesE)} {b : Nat} {e e' : SesE} {now : Int} {out : Bool}
theorem InvA.xln (h : InvA k p o) : p.xs.length = p.es.length := by rw [h.tie, List.length_map]
theorem InvA.yln (h : InvA k p o) (hs : Srt LO.int p.ys) : p.ys.length ≤ p.es.length := by
  have h1 := nodup_len (l' := p.es.map fun x => x.2.id) (srt_nodup hs) (fun i hi => by
    obtain ⟨q, hq, rfl⟩ := List.mem_map.1 hi
    obtain ⟨x, hx, h1, _⟩ := (h.ids q.1 q.2).1 hq
    exact List.mem_map.2 ⟨x, hx, h1⟩)
  simpa using h1
theorem InvA.wln (h : InvA k p o) (hw : OkS p.ws) : p.ws.length ≤ p.es.length := by
  have h1 := nodup_len (l' := p.es.map fun x => x.2.id) hw.nd (fun i hi => by
    unfold keysS at hi
    obtain ⟨q, hq, rfl⟩ := List.mem_map.1 hi
    obtain ⟨x, hx, h1, _⟩ := (h.whl q.2 q.1).1 hq
    exact List.mem_map.2 ⟨x, hx, h1⟩)
  rw [keysS_len, List.length_map] at h1; exact h1
theorem InvA.zln (h : InvA k p o) (hs : Srt ordE p.zs) : p.zs.length ≤ p.es.length := by
  have h1 := nodup_len (l' := p.es.map fun x => endF (flE x.2)) (srt_nodup hs) (fun t ht => by
    obtain ⟨q, hq, rfl⟩ := List.mem_map.1 ht
    obtain ⟨h1, h2, _⟩ := h.lse q.1 q.2 hq
    obtain ⟨x, hx, hg⟩ := cntE_pos (t := q.1) (es := p.es) ma1
    exact List.mem_map.2 ⟨x, hx, (gvE_iff.1 hg).2⟩)
  simpa using h1
theorem RenE.fl (hr : RenE e now out e') : flE e' = flE e := by unfold flE; rw [hr.pr, hr.src, hr.dst, hr.frm, hr.dto]
theorem RenE.gv (hr : RenE e now out e') (t : EndT) : gvE t (b, e') = gvE t (b, e) := by unfold gvE; simp only [hr.given, hr.fl]
theorem RenE.rng (hr : RenE e now out e') (h : RngE e) : RngE e' := ⟨by rw [hr.pr]; exact h.pr, by rw [hr.src]; exact h.src, by rw [hr.dst]; exact h.dst, by rw [hr.frm]; exact h.frm, by rw [hr.dto]; exact h.dto, by rw [hr.ext]; exact h.ext⟩
theorem InvA.renew (h : InvA k p o) (hw : OkS p.ws) (he : p.es = A ++ (b, e) :: B) (ho : o = none ∨ o = some e.id) (hr : RenE e now out e') : InvA k { p with ws := setS p.ws e.id e'.ends, es := A ++ (b, e') :: B } none := by
  have hidn := h.idn; rw [he] at hidn
  have hid := id_other hidn
  have hin : ∀ x, x ∈ A ++ B → x ∈ p.es := fun x hx => by rw [he]; exact mem_mid.2 (.inr hx)
  have hbe : (b, e) ∈ p.es := by rw [he]; exact mem_mid.2 (.inl rfl)
  have hc : ∀ t, cntE t (A ++ (b, e') :: B) = cntE t p.es := fun t => by rw [he, cntE_mid, cntE_mid, hr.gv]
  refine ⟨?_, ?_, ?_, ?_, ?_, ?_, ?_, h.inj, ?_⟩
  · show p.xs = _
    rw [h.tie, he, List.map_append, List.map_append, List.map_cons, List.map_cons]
    rw [show pxE (b, e') = pxE (b, e) by unfold pxE; rw [hr.fl]]
  · intro i f
    show (i, f) ∈ p.ys ↔ _
    rw [h.ids, he]
    constructor
    · rintro ⟨x, hx, h1, h2⟩
      rcases mem_mid.1 hx with rfl | hx
      · exact ⟨(b, e'), mem_mid.2 (.inl rfl), by rw [← h1]; exact hr.id, by rw [← h2]; exact hr.fl⟩
      · exact ⟨x, mem_mid.2 (.inr hx), h1, h2⟩
    · rintro ⟨x, hx, h1, h2⟩
      rcases mem_mid.1 hx with rfl | hx
      · exact ⟨(b, e), mem_mid.2 (.inl rfl), by rw [← h1]; exact hr.id.symm, by rw [← h2]; exact hr.fl.symm⟩
      · exact ⟨x, mem_mid.2 (.inr hx), h1, h2⟩
  · show ((A ++ (b, e') :: B).map fun x => x.2.id).Nodup
    have : (A ++ (b, e') :: B).map (fun x => x.2.id) = (A ++ (b, e) :: B).map (fun x => x.2.id) := by simp only [List.map_append, List.map_cons, hr.id]
    rw [this]; exact hidn
  · refine ⟨h.lst.1, fun x hx => ?_⟩
    rcases mem_mid.1 hx with rfl | hx
    · show 0 ≤ e'.id ∧ e'.id < p.lst; rw [hr.id]; exact h.lst.2 _ hbe
    · exact h.lst.2 x (hin x hx)
  · intro i t
    show (t, i) ∈ setS p.ws e.id e'.ends ↔ _
    rw [mem_setS hw, h.whl, he]
    constructor
    · rintro (h1 | ⟨⟨x, hx, h1, h2, h3⟩, h4⟩)
      · obtain ⟨rfl, rfl⟩ := Prod.mk.inj h1
        exact ⟨(b, e'), mem_mid.2 (.inl rfl), hr.id, rfl, by simp⟩
      · rcases mem_mid.1 hx with rfl | hx
        · exact absurd h1.symm h4
        · exact ⟨x, mem_mid.2 (.inr hx), h1, h2, by simp⟩
    · rintro ⟨x, hx, h1, h2, _⟩
      rcases mem_mid.1 hx with rfl | hx
      · left; rw [← h1, ← h2]; show (e'.ends, e'.id) = _; rw [hr.id]
      · right
        have hne : i ≠ e.id := by rw [← h1]; exact hid x hx
        refine ⟨⟨x, mem_mid.2 (.inr hx), h1, h2, ?_⟩, hne⟩
        rcases ho with ho | ho
        · rw [ho]; simp
        · rw [ho]; intro hh; exact hne (Option.some.inj hh).symm
  · intro t l hl
    obtain ⟨h1, h2, h3, h4⟩ := h.lse t l hl
    refine ⟨by rw [hc]; exact h1, h2, h3, fun x hx hg => ?_⟩
    rcases mem_mid.1 hx with rfl | hx
    · rw [hr.gv] at hg; show e'.ext = l.ext; rw [hr.ext]; exact h4 _ hbe hg
    · exact h4 x (hin x hx) hg
  · intro x hx hg
    rcases mem_mid.1 hx with rfl | hx
    · show hasK p.zs (endF (flE e')) = true
      rw [hr.fl]; exact h.lsi (b, e) hbe (by rw [← hg]; exact hr.given.symm)
    · exact h.lsi x (hin x hx) hg
  · intro x hx
    rcases mem_mid.1 hx with rfl | hx
    · exact hr.rng (h.rng _ hbe)
    · exact h.rng x (hin x hx)
end
end Go.Proofs.YtmonlaoaengfdaaGreatDoor.Oct
namespace Go.Proofs.YtmonlaoaengfdaaGreatDoor.Oct
open Go.RowKit Base
attribute [local irreducible] Ys Yc Ht HtS HtIn Wl Wd W Mem pf dpf Wa Wo
open Conf (Fwd fwv)
/-! The forwards that are found; the rules; a session that is added. -/
def fwQ (a b : Int) (w : Conf.Fwd) : Bool := (w.proto == a) && (w.port == b)
theorem fnd_find (xs : List Conf.Fwd) (a b : Int) : Conf.find (fun k => xs.getD k fz) a b xs.length = ((xs.find? (fwQ a b)).getD fz, (xs.find? (fwQ a b)).isSome) := by
  cases h : xs.find? (fwQ a b) with
  | none =>
    rw [List.find?_eq_none] at h
    rw [Conf.find_none _ _ _ _ (fun i hi => by
      have := h (xs.getD i fz) (by rw [List.getD_eq_getElem?_getD, List.getElem?_eq_getElem hi]; exact List.getElem_mem hi)
      show fwQ a b (xs.getD i fz) = false
      simpa using this)]
    rfl
  | some w =>
    obtain ⟨hw, i, hi, rfl, hno⟩ := List.find?_eq_some_iff_getElem.1 h
    have g : ∀ j (hj : j < xs.length), xs.getD j fz = xs[j] := fun j hj => by rw [List.getD_eq_getElem?_getD, List.getElem?_eq_getElem hj]; rfl
    rw [Conf.find_some _ _ _ _ i hi (fun j hj => by
      show fwQ a b (xs.getD j fz) = false
      rw [g j ma1]; simpa using hno j hj) (by show fwQ a b (xs.getD i fz) = true; rw [g i hi]; exact hw)]
    simp only [g i hi]; rfl
theorem fnd_eq (xs : List Conf.Fwd) (a b : Int) : fnd xs a b = (xs.find? (fwQ a b)).isSome := by unfold fnd; rw [fnd_find]
theorem fndV_eq (xs : List Conf.Fwd) (a b : Int) : fndV xs a b = (xs.find? (fwQ a b)).getD fz := by unfold fndV; rw [fnd_find]
theorem fnd_yes {xs : List Conf.Fwd} {a b : Int} (h : fnd xs a b = true) : fndV xs a b ∈ xs ∧ (fndV xs a b).proto = a ∧ (fndV xs a b).port = b := by
  rw [fnd_eq] at h
  obtain ⟨w, hw⟩ := Option.isSome_iff_exists.1 h
  have h1 := List.find?_some hw
  have h2 := List.mem_of_find?_eq_some hw
  rw [fndV_eq, hw]
  unfold fwQ at h1
  simp only [Bool.and_eq_true, beq_iff_eq] at h1
  exact ⟨h2, h1.1, h1.2⟩
def FxU (fx : List Conf.Fwd) : Prop := ∀ w ∈ fx, fnd fx w.proto w.port = true ∧ fndV fx w.proto w.port = w
theorem tkn_congr {P Q : List (Int × Int)} (h : ∀ x, x ∈ P ↔ x ∈ Q) : tkn P = tkn Q := by
  funext p q
  unfold tkn
  congr 1
  rw [Bool.eq_iff_iff, List.any_eq_true, List.any_eq_true]
  exact ⟨fun ⟨x, hx, hh⟩ => ⟨x, (h x).1 hx, hh⟩, fun ⟨x, hx, hh⟩ => ⟨x, (h x).2 hx, hh⟩⟩
structure InvB (k : NK) (p : NP) : Prop where
  rul : ∀ x ∈ p.es, hoV p.ms k.fx x.2 = true
  tks : p.TT = tkn (fxP k.fx ++ msP p.ms ++ zsP p.zs)
section
variable {k : NK} {p p' : NP} {o : Option Int} {A B : List (Nat × SesE)} {b : Nat} {e e' : SesE} {now : Int} {out : Bool}
theorem RenE.ho (hr : RenE e now out e') (ms : List Mpg) (fx : List Conf.Fwd) : hoV ms fx e' = hoV ms fx e := by
  have hm : hoM e' = hoM e := by funext m; unfold hoM; rw [hr.pr, hr.ext, hr.src, hr.frm, hr.dst]
  unfold hoV; rw [hm, hr.given, hr.pr, hr.ext, hr.src, hr.frm]
theorem InvB.renew (h : InvB k p) (he : p.es = A ++ (b, e) :: B) (hr : RenE e now out e') : InvB k { p with ws := setS p.ws e.id e'.ends, es := A ++ (b, e') :: B } := by
  refine ⟨fun x hx => ?_, h.tks⟩
  rcases mem_mid.1 hx with rfl | hx
  · show hoV p.ms k.fx e' = true
    rw [hr.ho]; exact h.rul (b, e) (by rw [he]; exact mem_mid.2 (.inl rfl))
  · exact h.rul x (by rw [he]; exact mem_mid.2 (.inr hx))
theorem zsP_mem {zs : List (EndT × Lse)} {x : Int × Int} : x ∈ zsP zs ↔ ∃ t l, (t, l) ∈ zs ∧ x = (t.1, l.ext) := by
  unfold zsP; rw [List.mem_map]
  exact ⟨fun ⟨z, hz, hh⟩ => ⟨z.1, z.2, hz, hh.symm⟩, fun ⟨t, l, hz, hh⟩ => ⟨(t, l), hz, hh.symm⟩⟩
end
end Go.Proofs.YtmonlaoaengfdaaGreatDoor.Oct
