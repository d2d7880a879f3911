import Derived.Test.YtmonlaoaengfdaaGreatDoorM26
set_option linter.unusedVariables false
set_option linter.unusedSimpArgs false
set_option maxRecDepth 20000
namespace Go.Proofs.YtmonlaoaengfdaaGreatDoor.Oct
open Go.RowKit Base
attribute [local irreducible] Ys Yc Ht HtS HtIn Wl Wd W Mem pf dpf Wa Wo
open Conf (Fwd fwv)
abbrev pkG (ttl pro pid src dst : Int) (ba : Option Addr) (bl bc : Nat) : Value := .agg [.int .u8 ttl, .int .u8 pro, .int .u16 pid, .int .u32 src, .int .u32 dst, .slice ba bl bc].toArray
theorem upo_upo (tk : Nat → Option Nat) (p : Nat) (a b : Option Nat) : upo (upo tk p a) p b = upo tk p b := by
  funext q
  by_cases h : q = p
  · subst h; rw [upo_same, upo_same]
  · rw [upo_other _ _ h, upo_other _ _ h, upo_other _ _ h]
theorem updF_updF {α : Type} (f : Nat → α) (p : Nat) (a b : α) : updF (updF f p a) p b = updF f p b := by
  funext q
  by_cases h : q = p
  · subst h; rw [updF_same, updF_same]
  · rw [updF_other _ _ h, updF_other _ _ h, updF_other _ _ h]
theorem tk_pk {T : Nat → Bool} {d : Nat} (h : pk T d < 65536) : tkT (pkT T d) (pkV T d) = tkT T (pkV T d) := by
  have h1 := pk_le T d
  have hv : pkV T d = pk T d := by unfold pkV; rw [if_pos h]
  have ht : pkT T d = up T (pk T d) true := by unfold pkT; rw [decide_eq_true h]; rfl
  have h2 : tkT T (pk T d) = up T (pk T d) true := (tk_ok h1.2.1 (h1.2.2.1 h) 0).2.1
  rw [hv, ht, h2]
  unfold tkT tkB
  rw [up_same]; simp
def OpenX (k : NK) (p : NP) (f : FlwT) (dr : Nat) (ext : Int) (gv : Bool) : Prop :=
  (ruleV p.ms k.fx f = some ext ∧ gv = false) ∨
  (ruleV p.ms k.fx f = none ∧ gv = true ∧ hasK p.zs (endF f) = true ∧ ext = (getK (⟨0, 0⟩ : Lse) p.zs (endF f)).ext) ∨
  (ruleV p.ms k.fx f = none ∧ gv = true ∧ hasK p.zs (endF f) = false ∧ pk (p.TT f.1.toNat) dr < 65536 ∧ ext = (pkV (p.TT f.1.toNat) dr : Int))
def entO : Option (Nat × SesE) → List Blk
  | none => []
  | some x => [entB x]
def OpenN (k : NK) (p : NP) (f : FlwT) (bg : Bool) (dr : Nat) (r : NP × Option (Nat × SesE) × Int) : Prop :=
  r.2.1 = none ∧ (r.2.2 = 20 ∨ r.2.2 = 21) ∧ (∃ tk', r.1 = { p with tk := tk' }) ∧ (bg = false ∨ k.mo ≤ (p.xs.length : Int) ∨ (ruleV p.ms k.fx f = none ∧ hasK p.zs (endF f) = false ∧ ¬ pk (p.TT f.1.toNat) dr < 65536))
def OpenY (k : NK) (p : NP) (f : FlwT) (bg : Bool) (dr : Nat) (r : NP × Option (Nat × SesE) × Int) : Prop :=
  r.2.2 = 0 ∧ bg = true ∧ (p.xs.length : Int) < k.mo ∧ ∃ ext gv xb pb, OpenX k p f dr ext gv ∧ r.2.1 = some (xb, nwE f ext p.lst gv) ∧ r.1 = addP k p f ext gv xb pb
def optP (x : Option (Nat × SesE)) : Value := .pointer (optA (x.map Prod.fst))
theorem isSome_not {α : Type} {o : Option α} (h : o.isSome = false) : o = none := by cases o with | none => rfl | some x => cases h
theorem addP_pick {k : NK} {p p2 : NP} {f : FlwT} {dr b xb pb : Nat} (hp2 : p2 = { p with tk := upo p.tk f.1.toNat (some b), TT := updF p.TT f.1.toNat (pkT (p.TT f.1.toNat) dr) }) (h : pk (p.TT f.1.toNat) dr < 65536) :
    addP k p2 f (pkV (p.TT f.1.toNat) dr : Int) true xb pb = addP k p f (pkV (p.TT f.1.toNat) dr : Int) true xb pb := by
  subst hp2
  unfold addP
  simp only [cond_true, upo_upo, updF_updF, updF_same, Int.toNat_natCast, tk_pk h]
theorem updF_id {p : NP} {n d : Nat} (h : ¬ pk (p.TT n) d < 65536) : updF p.TT n (pkT (p.TT n) d) = p.TT := by
  unfold pkT; rw [decide_eq_false h]; exact updF_self _ _
abbrev dLb3_1931_0 (f : FlwT) : List Value := [iV .u8 f.1, iV .u32 f.2.1, iV .u32 f.2.2.1, iV .u16 f.2.2.2.1, iV .u16 f.2.2.2.2]
theorem ruleL_c (c : Conf.Cfg) (fx : List Conf.Fwd) (fa : Option Addr) (fc : Nat) (ms : List Mpg) (ma : Option Addr) (mc_ : Nat) (ts te : Nat) (tk : Nat → Option Nat) (wb ti : Nat) (lst : Int) (nb : Nat) (f : FlwT) (w : World) (hnt : At w (some ⟨nb, 0, none⟩) (natC (cfC c (Value.slice fa fx.length fc)) (Value.slice ma ms.length mc_) (Value.pointer (some ⟨ts, 0, none⟩)) (Value.pointer (some ⟨te, 0, none⟩)) tk (Value.pointer (some ⟨wb, 0, none⟩)) (Value.pointer (some ⟨ti, 0, none⟩)) (Value.int .u64 lst))) (hfx : At w fa (mm Conf.fwv fx)) (hfn : fx.length ≤ 100000) (hms : At w ma (mm mpM ms)) (hmn : ms.length ≤ 100000) (hm0 : ms.length = 0) (hf0 : fx.length = 0) : Calls Tryz.prog 110 #[pV nb 0, aV [iV .u8 f.1, iV .u32 f.2.1, iV .u32 f.2.2.1, iV .u16 f.2.2.2.1, iV .u16 f.2.2.2.2]] w (Ret w (.tuple #[.int .u16 ((ruleV ms fx f).getD 0), .bool (ruleV ms fx f).isSome])) := by
 refine calls_W (M := []) (LL := []) (n := 85) Tryz.func110 rfl rfl ma6 (Mem.refl _) (W.seq (fun K1 hK1 => ?_))
 refine W.region (Wl.ht rfl (Ht.box (v := aV (dLb3_1931_0 f)) (cs := (dLb3_1931_0 f)) rfl rfl ma0 rfl) (fun p3 => ?_))
 refine Wl.run 2 ma0 (Wl.nil (hK1 _ _ _ (W.prune' [0, 3] [pV nb 0, pV p3 0] ma0 (fun f2 => W.seq (fun K3 hK3 => ?_)))))
 refine W.seq (fun K4 hK4 => W.region (Wl.run 3 ma0 (Wl.ys (v := Value.slice ma ms.length mc_) rfl rfl (Ys.ld (a := ⟨nb, 28, none⟩) rfl ma0 Tryz.isAgg56 (fun w_ h_ => by have x_ := (hnt.mem0 h_).ld (q := 28) ((natC_lo rfl ma2).trans rfl); rw [ela_own0] at x_; exact x_)) (Wl.run 2 ma0 ?_))))
 refine Wl.nil (hK4 _ _ _ (W.prune' [0, 3, 13, 14, 15] [pV nb 0, pV p3 0, Value.slice ma ms.length mc_, nV .i64 ms.length, iV .i64 0] ma0 (fun f5 => W.block (W.loop1 [0, 3, 13, 14, 15] (fun (i : Nat) => [pV nb 0, pV p3 0, Value.slice ma ms.length mc_, nV .i64 ms.length, nV .i64 i]) (fun (i : Nat) => i ≤ ms.length ∧ ∀ j, j < i → ruM f (ms.getD j mp0) = false) (fun (i : Nat) => [[cb p3 (dLb3_1931_0 f) 47]]) (fun (i : Nat) => ms.length - i) 0 ma0 ⟨(Nat.zero_le _), (fun j hj => absurd hj (Nat.not_lt_zero j))⟩ (by rfl) (fun i f7 J6 hp8 hJ6 => ?_)))))
 obtain ⟨hi, hno⟩ := hp8
 refine W.seq (fun K9 hK9 => W.region (Wl.run 1 ma0 (Wl.nil (hK9 _ _ _ ?_))))
 refine W.seq (fun K10 hK10 => ?_)
 refine W.cond (decide (((i : Nat) : Int) < (ms.length : Int))) ma0 (fun h11 => ?_) (fun h12 => ?_)
 ·have qh11 := h11; try simp only [zA] at qh11
  exfalso; have z_ := of_decide_eq_true h11; omega
 ·have qh12 := h12; try simp only [zA] at qh12
  refine W.exit (hK3 _ _ _ (W.prune' [0, 3] [pV nb 0, pV p3 0] ma0 (fun f13 => W.seq (fun K14 hK14 => W.seq (fun K15 hK15 => ?_)))))
  refine W.region (Wl.run 4 ma0 (Wl.ys (v := Value.slice fa fx.length fc) rfl rfl (Ys.ld (a := ⟨nb, 25, none⟩) rfl ma0 Tryz.isAgg30 (fun w_ h_ => by have x_ := (hnt.mem0 h_).ld (q := 25) ((natC_lo rfl ma2).trans rfl); rw [ela_own0] at x_; exact x_)) (Wl.run 2 ma0 (Wl.nil ?_))))
  refine hK15 _ _ _ (W.prune' [3, 57, 58, 59] [pV p3 0, Value.slice fa fx.length fc, nV .i64 fx.length, iV .i64 0] ma0 (fun f16 => ?_))
  refine W.block (W.loop1 [3, 57, 58, 59] (fun (k : Nat) => [pV p3 0, Value.slice fa fx.length fc, nV .i64 fx.length, nV .i64 k]) (fun (k : Nat) => k ≤ fx.length ∧ ∀ j, j < k → ruW f (fx.getD j fz) = false) (fun (k : Nat) => [[cb p3 (dLb3_1931_0 f) 47]]) (fun (k : Nat) => fx.length - k) 0 ma0 ⟨(Nat.zero_le _), (fun j hj => absurd hj (Nat.not_lt_zero j))⟩ (by rfl) (fun k f18 J17 hp19 hJ17 => ?_))
  obtain ⟨hk, hnw⟩ := hp19
  refine W.seq (fun K20 hK20 => W.region (Wl.run 1 ma0 (Wl.nil (hK20 _ _ _ ?_))))
  refine W.seq (fun K21 hK21 => ?_)
  refine W.cond (decide (((k : Nat) : Int) < (fx.length : Int))) ma0 (fun h22 => ?_) (fun h23 => ?_)
  ·have qh22 := h22; try simp only [zA] at qh22
   exfalso; have z_ := of_decide_eq_true h22; omega
  ·have qh23 := h23; try simp only [zA] at qh23
   refine W.exit (hK14 _ _ _ (W.pick (LL' := []) [] ma2 rfl (W.prune' [] [] ma0 (fun f24 => W.seq (fun K25 hK25 => ?_)))))
   refine W.region (Wl.run 2 ma0 (Wl.nil (hK25 _ _ _ (W.prune' [4, 5] [iV .u16 0, bV false] ma0 (fun f26 => ?_)))))
   refine W.ret ?_
   show ∀ w_, _ → bodyPostM (fence none) 0 Tryz.prog Tryz.f110 _ Exit.ret _ w_
   exact fun w_ hS_ => fin_ret (ret2 rfl (RV.tmp (v := iV .u16 0) ma0) (RV.tmp (v := bV false) ma0) hS_ ⟨by clear hK1 hK3 hK4 hJ6 hK9 hK10 hK14 hK15 hJ17 hK20 hK21 hK25; refine congrArg Ending.returned ?_; unfold ruleV; rw [find_no mp0 (fun j hj => hno j ma1), find_no fz (fun j hj => hnw j ma1)]; rfl, hS_.below⟩)
abbrev cLb3_1932_0 (ds dt fm sr : Int) (p5 pr : Nat) : List Blk := [cb p5 [nV .u8 pr, iV .u32 sr, iV .u32 ds, iV .u16 fm, iV .u16 dt] 47]
abbrev cLb3_1932_1 (fm sr : Int) (p12 pr : Nat) (s : NS) : List Blk := [cb p12 [iV .u16 ((getK (⟨0, 0⟩ : Lse) s.p.zs (((pr : Nat) : Int), sr, fm)).ext), iV .i64 ((getK (⟨0, 0⟩ : Lse) s.p.zs (((pr : Nat) : Int), sr, fm)).count)] 99]
abbrev cLb3_1932_2 (dr pr xb76 : Nat) (ds dt fm sr : Int) (s52 s59 : NS) : List Blk := [cb xb76 [nV .u8 pr, iV .u32 sr, iV .u32 ds, iV .u16 fm, iV .u16 dt, nV .u16 (pkV (s52.p.TT pr) dr), iV .u64 0, bV false, bV false, bV false, bV false, bV false, bV false, iV .u64 s59.p.lst, bV true] 113]
abbrev dLb3_1932_0 (fm sr : Int) (pr : Nat) (s : NS) : List Value := [iV .u16 ((getK (⟨0, 0⟩ : Lse) s.p.zs (((pr : Nat) : Int), sr, fm)).ext), iV .i64 ((getK (⟨0, 0⟩ : Lse) s.p.zs (((pr : Nat) : Int), sr, fm)).count)]
abbrev dLb3_1932_1 (ds dt fm sr : Int) (pr : Nat) : List Value := [nV .u8 pr, iV .u32 sr, iV .u32 ds, iV .u16 fm, iV .u16 dt]
theorem open_n (k : NK) (s : NS) (M : List Nat) (pr : Nat) (sr ds fm dt : Int) (ttl pro pid src dst : Int) (ba : Option Addr) (bl bc : Nat) (bg : Bool) (dr : Nat) (w : World) (ok : NOk k s) (hl : Mem w M [NG k s] w) (hpr : pr < 256) (hdr : dr < 18446744073709551616) (hct : 0 ≤ (getK (⟨0, 0⟩ : Lse) s.p.zs (((pr : Nat) : Int), sr, fm)).count ∧ (getK (⟨0, 0⟩ : Lse) s.p.zs (((pr : Nat) : Int), sr, fm)).count ≤ 1000000) (hext : 0 ≤ (getK (⟨0, 0⟩ : Lse) s.p.zs (((pr : Nat) : Int), sr, fm)).ext ∧ (getK (⟨0, 0⟩ : Lse) s.p.zs (((pr : Nat) : Int), sr, fm)).ext ≤ 65535) (hbg : ∀ LL w1, Mem w M LL w1 → Calls Tryz.prog 99 #[pkG ttl pro pid src dst ba bl bc] w1 (Ret w1 (.bool bg))) (htab : At w (some ⟨0, 0, none⟩) (byc dbt)) (hne : 0 < (byc dbt).length → (Option.getD (some (⟨0, 0, none⟩ : Addr)) default).block ∉ M) (hm0 : s.p.ms.length = 0) (hf0 : k.fx.length = 0) : Calls Tryz.prog 58 #[Value.pointer (some ⟨k.nb, 0, none⟩), aV [nV .u8 pr, iV .u32 sr, iV .u32 ds, iV .u16 fm, iV .u16 dt], aV [iV .u8 ttl, iV .u8 pro, iV .u16 pid, iV .u32 src, iV .u32 dst, Value.slice ba bl bc], nV .u64 dr] w (RetM w (fun r : NS × Option (Nat × SesE) × Int => NOk k r.1 ∧ (OpenN k s.p (((pr : Nat) : Int), sr, ds, fm, dt) bg dr (r.1.p, r.2) ∨ OpenY k s.p (((pr : Nat) : Int), sr, ds, fm, dt) bg dr (r.1.p, r.2))) (fun r => .tuple #[optP r.2.1, .int .i64 r.2.2]) M (fun r => [NG k r.1, entO r.2.1])) := by
 obtain ⟨lxs, lys, lzs, lms, lfs⟩ := NOk.len ok; obtain ⟨ep, hep⟩ : ∃ n : Nat, (getK (⟨0, 0⟩ : Lse) s.p.zs (((pr : Nat) : Int), sr, fm)).ext = (n : Int) := ⟨_, (Int.toNat_of_nonneg hext.1).symm⟩; have hpv_ := pkV_lt (s.p.TT pr) dr; have hru_ : (ruleV s.p.ms k.fx (((pr : Nat) : Int), sr, ds, fm, dt)).isSome = false := (by rw [List.length_eq_zero_iff.1 hm0, List.length_eq_zero_iff.1 hf0]; rfl)
 refine calls_W (M := M) (LL := [NG k s]) (n := 74) Tryz.func58 rfl rfl ma6 (hl) (W.seq (fun K1 hK1 => ?_))
 refine W.region (Wl.ht rfl (Ht.box (v := aV (dLb3_1932_1 ds dt fm sr pr)) (cs := (dLb3_1932_1 ds dt fm sr pr)) rfl rfl ma0 rfl) (fun p5 => ?_))
 refine Wl.ht rfl (Ht.box (v := aV [iV .u8 ttl, iV .u8 pro, iV .u16 pid, iV .u32 src, iV .u32 dst, Value.slice ba bl bc]) (cs := [iV .u8 ttl, iV .u8 pro, iV .u16 pid, iV .u32 src, iV .u32 dst, Value.slice ba bl bc]) rfl rfl ma0 rfl) (fun p6 => Wl.run 2 ma0 (Wl.nil (hK1 _ _ _ (W.prune' [0, 3, 5, 6] [Value.pointer (some ⟨k.nb, 0, none⟩), nV .u64 dr, pV p5 0, pV p6 0] ma0 (fun f2 => ?_)))))
 refine W.seq (fun K3 hK3 => W.block (W.seq (fun K4 hK4 => W.region (Wl.ys rfl rfl (Ys.loadN (b := p6) (o' := 0) (i := 0) (j := 0) (vs := [iV .u8 ttl, iV .u8 pro, iV .u16 pid, iV .u32 src, iV .u32 dst, Value.slice ba bl bc]) rfl ma0 Tryz.isAgg40 Tryz.sizeOf40 rfl rfl rfl rfl) ?_))))
 refine Wl.yc (v := bV bg) rfl rfl (Yc.call (fun _ => kr) (fun w_ hm_ => (hbg _ _ hm_))) (Wl.run 2 ma0 (Wl.nil (hK4 _ _ _ (W.pick (LL' := [cLb3_1932_0 ds dt fm sr p5 pr, NG k s]) [1, 2] ma2 rfl ?_))))
 refine W.prune' [0, 3, 5, 16] [Value.pointer (some ⟨k.nb, 0, none⟩), nV .u64 dr, pV p5 0, bV (!bg)] ma0 (fun f5 => ?_)
 refine W.cond (!bg) ma0 (fun h6 => ?_) (fun h7 => ?_)
 ·refine W.seq (fun K8 hK8 => W.region (Wl.run 2 ma0 (Wl.nil (hK8 _ _ _ ?_))))
  refine W.pick (LL' := [NG k s]) [1] ma2 rfl (W.prune' [8, 9] [Value.pointer none, iV .i64 21] ma0 (fun f9 => ?_))
  refine W.ret ?_
  show ∀ w_, _ → bodyPostM (fence none) 0 Tryz.prog Tryz.f58 _ Exit.ret _ w_
  exact fun w_ hS_ => fin_ret (ret2 rfl (RV.tmp (v := Value.pointer none) ma0) (RV.tmp (v := iV .i64 21) ma0) hS_ ⟨(s, none, 21), ⟨ok, .inl ⟨rfl, .inr rfl, ⟨s.p.tk, rfl⟩, .inl (by simpa using h6)⟩⟩, rfl, (Mem.flat (LL := [NG k s]) rfl hS_)⟩)
 ·refine W.seq (fun K10 hK10 => W.draws [(0, true), (1, true), (2, true), (3, true), (5, true), (6, true), (7, true), (8, true), (4, false), (9, false), (10, false), (11, false)] [0, 1, 2, 3, 5, 6, 7, 8] (Mem w M [cLb3_1932_0 ds dt fm sr p5 pr, NG k s]) ma0 ma0 ma0 rfl ma0 (fun _ _ h_ => h_.drawn _) (fun _ h_ => h_) (Wd.run 3 ma0 (Wd.ys rfl rfl rfl (Ys.load (b := k.nb) (o' := 29) (i := 1) (j := 0) (cs := natL k s) (v := Value.pointer (some ⟨k.ts, 0, none⟩)) rfl ma0 Tryz.isAgg85 rfl rfl ((natC_lo rfl ma2).trans rfl)) (Wd.run 3 ma0 ?_))))
  refine Wd.ys rfl rfl rfl (Ys.load (b := k.nb) (o' := 29) (i := 1) (j := 0) (cs := natL k s) (v := Value.pointer (some ⟨k.ts, 0, none⟩)) rfl ma0 Tryz.isAgg85 rfl rfl ((natC_lo rfl ma2).trans rfl)) (Wd.yc (v := nV .i64 s.p.xs.length) rfl rfl rfl (Yc.call (fun _ => kr) (fun w_ hm_ => (lenS_c s.p.xs s.gs.a s.gs.cap k.mo k.ts  _ (NG.atS (i := 1) hm_ rfl) (NG.xs (i := 1) hm_ rfl ok) ma12 ok.hxs))) (.inr fun _ h_ => h_) (Wd.yc (v := iV .i64 k.mo) rfl rfl rfl (Yc.call (fun _ => kr) (fun w_ hm_ => (mostS_c s.p.xs s.gs.a s.gs.cap k.mo k.ts  _ (NG.atS (i := 1) hm_ rfl) (NG.xs (i := 1) hm_ rfl ok) ma12 ok.hxs))) (.inr fun _ h_ => h_) (Wd.yc (v := bV (decide (((s.p.xs.length : Nat) : Int) ≥ k.mo))) rfl rfl rfl (Ys.yc (Ys.pure (fun _ => kr))) (.inr fun _ h_ => h_) (Wd.yc (v := bV (decide (((s.p.xs.length : Nat) : Int) ≥ k.mo))) rfl rfl rfl (Ys.yc (Ys.pure (fun _ => kr))) (.inr fun _ h_ => h_) ?_))))
  refine Wd.nil (hK10 _ _ _ (W.prune' [0, 3, 5, 20] [Value.pointer (some ⟨k.nb, 0, none⟩), nV .u64 dr, pV p5 0, bV (decide (((s.p.xs.length : Nat) : Int) ≥ k.mo))] ma0 (fun f11 => ?_)))
  refine W.cond (decide (((s.p.xs.length : Nat) : Int) ≥ k.mo)) ma0 (fun h12 => ?_) (fun h13 => ?_)
  ·have qh12 := h12; try simp only [zA] at qh12
   refine W.seq (fun K14 hK14 => W.region (Wl.run 2 ma0 (Wl.nil (hK14 _ _ _ ?_))))
   refine W.pick (LL' := [NG k s]) [1] ma2 rfl (W.prune' [8, 9] [Value.pointer none, iV .i64 20] ma0 (fun f15 => ?_))
   refine W.ret ?_
   show ∀ w_, _ → bodyPostM (fence none) 0 Tryz.prog Tryz.f58 _ Exit.ret _ w_
   exact fun w_ hS_ => fin_ret (ret2 rfl (RV.tmp (v := Value.pointer none) ma0) (RV.tmp (v := iV .i64 20) ma0) hS_ ⟨(s, none, 20), ⟨ok, .inl ⟨rfl, .inl rfl, ⟨s.p.tk, rfl⟩, .inr (.inl (by have z_ := of_decide_eq_true h12; omega))⟩⟩, rfl, (Mem.flat (LL := [NG k s]) rfl hS_)⟩)
  ·have qh13 := h13; try simp only [zA] at qh13
   refine W.skip' (hK3 _ _ _ (W.prune' [0, 3, 5] [Value.pointer (some ⟨k.nb, 0, none⟩), nV .u64 dr, pV p5 0] ma0 (fun f16 => W.seq (fun K17 hK17 => W.seq (fun K18 hK18 => ?_)))))
   refine W.region (Wl.run 1 ma0 (Wl.ys rfl rfl (Ys.loadN (b := p5) (o' := 0) (i := 0) (j := 0) (vs := (dLb3_1932_1 ds dt fm sr pr)) rfl ma0 Tryz.isAgg47 Tryz.sizeOf47 rfl rfl rfl rfl) (Wl.yc (v := Value.tuple #[iV .u16 ((ruleV s.p.ms k.fx (((pr : Nat) : Int), sr, ds, fm, dt)).getD 0), bV ((ruleV s.p.ms k.fx (((pr : Nat) : Int), sr, ds, fm, dt)).isSome)]) rfl rfl (Yc.call (fun _ => kr) (fun w_ hm_ => (ruleL_c k.c k.fx k.gf.a k.gf.cap s.p.ms s.gm.a s.gm.cap k.ts k.te s.p.tk k.wb k.ti s.p.lst k.nb (((pr : Nat) : Int), sr, ds, fm, dt) _ (At.lit0 (i := 1) (j := 0) (t := 91) (b := k.nb) hm_ rfl rfl) (NG.fx (i := 1) hm_ rfl ok) ma5 (NG.ms (i := 1) hm_ rfl ok) ma5 hm0 hf0))) (Wl.run 2 ma0 ?_))))
   refine Wl.ys (v := bV false) rfl rfl ((Ys.pure (v := bV ((ruleV s.p.ms k.fx (((pr : Nat) : Int), sr, ds, fm, dt)).isSome)) (fun _ => kr)).conseq (bool_congr (hru_))) (Wl.run 2 ma0 (Wl.nil (hK18 _ _ _ (W.prune' [0, 3, 5, 10, 11] [Value.pointer (some ⟨k.nb, 0, none⟩), nV .u64 dr, pV p5 0, iV .u16 ((ruleV s.p.ms k.fx (((pr : Nat) : Int), sr, ds, fm, dt)).getD 0), bV false] ma0 (fun f19 => ?_)))))
   refine W.seq (fun K20 hK20 => W.region (Wl.run 1 ma0 (Wl.nil (hK20 _ _ _ ?_))))
   refine W.condF ma0 (W.skip' (hK17 _ _ _ (W.prune' [0, 3, 5] [Value.pointer (some ⟨k.nb, 0, none⟩), nV .u64 dr, pV p5 0] ma0 (fun f21 => W.seq (fun K22 hK22 => ?_)))))
   refine W.seq (fun K23 hK23 => W.drawsA [0, 1, 2, 3, 4, 7, 8, 9, 12] (Mem w M [cLb3_1932_0 ds dt fm sr p5 pr, NG k s]) ma0 ma0 (fun _ _ h_ => h_.drawn _) ?_)
   refine Wa.lets (w0 := w) (M := M) [0, 3, 5, 12, 51, 52] (fun (z30 : Nat) => [Value.pointer (some ⟨k.nb, 0, none⟩), nV .u64 dr, pV p5 0, pV z30 0, aV (dLb3_1932_0 fm sr pr s), bV (hasK s.p.zs (((pr : Nat) : Int), sr, fm))]) (fun (z30 : Nat) => True) (fun (z30 : Nat) => [[cb z30 zl5 99], cLb3_1932_0 ds dt fm sr p5 pr, NG k s]) 2 #[true, true, true, true, true, true, true, true, true, true, true, false, false] (fun z30 hp31 f32 => ?_) (fun JD28 => ?_)
   ·obtain ⟨p12, rfl⟩ : ∃ a_, a_ = z30 := ⟨_, rfl⟩
    refine Wa.only (i := 11) ma0 (Wo.ht rfl rfl (Ht.storeN (b := p12) (o' := 0) (i := 0) (j := 0) (vs := (dLb3_1932_0 fm sr pr s)) (LL' := [cLb3_1932_1 fm sr p12 pr s, cLb3_1932_0 ds dt fm sr p5 pr, NG k s]) rfl rfl ma0 ma0 Tryz.sizeOf99 ma7 rfl rfl ma6 rfl rfl) (.inr fun _ _ h_ => h_.pick [1, 2] ma2 rfl) (fun _ => ?_))
    refine Wa.ys (v := bV (hasK s.p.zs (((pr : Nat) : Int), sr, fm))) (i := 12) ma0 ma0 ma0 ma0 (fun _ h_ => h_.pick [1, 2] ma2 rfl) rfl rfl rfl (Ys.pure (fun _ => kr)) (Wa.nil ma0 (hK23 _ _ _ (W.prune' [0, 3, 5, 12, 13] [Value.pointer (some ⟨k.nb, 0, none⟩), nV .u64 dr, pV p5 0, pV p12 0, bV (hasK s.p.zs (((pr : Nat) : Int), sr, fm))] ma0 (fun f33 => W.seq (fun K34 hK34 => ?_)))))
    refine W.region (Wl.run 1 ma0 (Wl.nil (hK34 _ _ _ ?_)))
    refine W.cond (hasK s.p.zs (((pr : Nat) : Int), sr, fm)) ma0 (fun h35 => ?_) (fun h36 => ?_)
    ·refine W.seq (fun K37 hK37 => W.region (Wl.run 1 ma0 (Wl.ys rfl rfl (Ys.loadN (b := p5) (o' := 0) (i := 1) (j := 0) (vs := (dLb3_1932_1 ds dt fm sr pr)) rfl ma0 Tryz.isAgg47 Tryz.sizeOf47 rfl rfl rfl rfl) (Wl.run 1 ma0 ?_))))
     refine Wl.ys (v := nV .u16 ep) rfl rfl (Ys.conseq (v := iV .u16 ((getK (⟨0, 0⟩ : Lse) s.p.zs (((pr : Nat) : Int), sr, fm)).ext)) (int_congr (hep)) (Ys.l1 p12 0 0 0 Tryz.isAgg22)) (Wl.htS rfl (HtS.call (β := NS × Nat × Nat) (k := 101) (args := #[Value.pointer (some ⟨k.nb, 0, none⟩), aV (dLb3_1932_1 ds dt fm sr pr), nV .u16 ep, bV true]) (Lin := [NG k s]) (Lk := [cLb3_1932_1 fm sr p12 pr s, cLb3_1932_0 ds dt fm sr p5 pr]) (Lo := fun q44 => [NG k q44.1, [cb q44.2.1 [nV .u8 pr, iV .u32 sr, iV .u32 ds, iV .u16 fm, iV .u16 dt, nV .u16 ep, iV .u64 0, bV false, bV false, bV false, bV false, bV false, bV false, iV .u64 s.p.lst, bV true] 113], cLb3_1932_1 fm sr p12 pr s, cLb3_1932_0 ds dt fm sr p5 pr]) [2] [0, 1] rfl (fun _ => kr) ma2 rfl rfl rfl (fun w_ hm_ hl_ => (addT_n k s _ pr sr ds fm dt ep _ ok hl_ ma1 ma1 hct)) (fun _ => rfl)) (fun q44 hx46 => ?_))
     obtain ⟨s41, xb38, pb39⟩ := q44
     dsimp only at hx46
     obtain ⟨ok42, hp43, hat40⟩ := hx46
     refine Wl.castL (LL' := [NG k s41, [cb xb38 [nV .u8 pr, iV .u32 sr, iV .u32 ds, iV .u16 fm, iV .u16 dt, nV .u16 ep, iV .u64 0, bV false, bV false, bV false, bV false, bV false, bV false, iV .u64 s.p.lst, bV true] 113], cLb3_1932_1 fm sr p12 pr s, cLb3_1932_0 ds dt fm sr p5 pr]) rfl ?_
     obtain ⟨lxs41, lys41, lzs41, lms41, lfs41⟩ := NOk.len ok42
     refine Wl.run 2 ma0 (Wl.nil (hK37 _ _ _ (W.pick (LL' := [NG k s41, [cb xb38 [nV .u8 pr, iV .u32 sr, iV .u32 ds, iV .u16 fm, iV .u16 dt, nV .u16 ep, iV .u64 0, bV false, bV false, bV false, bV false, bV false, bV false, iV .u64 s.p.lst, bV true] 113]]) [0, 1] ma2 rfl (W.prune' [8, 9] [pV xb38 0, iV .i64 0] ma0 (fun f47 => ?_)))))
     refine W.ret ?_
     show ∀ w_, _ → bodyPostM (fence none) 0 Tryz.prog Tryz.f58 _ Exit.ret _ w_
     exact fun w_ hS_ => fin_ret (ret2 rfl (RV.tmp (v := pV xb38 0) ma0) (RV.tmp (v := iV .i64 0) ma0) hS_ ⟨(s41, some (xb38, nwE (((pr : Nat) : Int), sr, ds, fm, dt) (ep : Int) s.p.lst true), 0), ⟨ok42, .inr ⟨rfl, by simpa using h7, by have z_ := of_decide_eq_false h13; omega, ⟨(ep : Int), true, xb38, pb39, .inr (.inl ⟨isSome_not hru_, rfl, h35, hep.symm⟩), rfl, hp43⟩⟩⟩, rfl, (hS_.pick [0, 1] ma2 rfl)⟩)
    ·refine W.skip' (hK22 _ _ _ (W.pick (LL' := [cLb3_1932_0 ds dt fm sr p5 pr, NG k s]) [1, 2] ma2 rfl (W.prune' [0, 3, 5] [Value.pointer (some ⟨k.nb, 0, none⟩), nV .u64 dr, pV p5 0] ma0 (fun f48 => W.seq (fun K49 hK49 => ?_)))))
     refine W.region (Wl.run 2 ma0 (Wl.ys rfl rfl (Ys.l1 p5 0 0 0 Tryz.isAgg5) (Wl.htS rfl (HtS.call (β := NS × Nat) (k := 69) (args := #[Value.pointer (some ⟨k.nb, 0, none⟩), nV .u8 pr]) (Lin := [NG k s]) (Lk := [cLb3_1932_0 ds dt fm sr p5 pr]) (Lo := fun q55 => [NG k q55.1, cLb3_1932_0 ds dt fm sr p5 pr]) [1] [0] rfl (fun _ => kr) ma2 rfl rfl rfl (fun w_ hm_ hl_ => (set_n ma1 ok hl_)) (fun _ => rfl)) (fun q55 hx58 => ?_))))
     obtain ⟨s52, pb50⟩ := q55
     dsimp only at hx58
     obtain ⟨ok53, hp54, htk51⟩ := hx58
     refine Wl.castL (LL' := [NG k s52, cLb3_1932_0 ds dt fm sr p5 pr]) rfl ?_
     obtain ⟨lxs52, lys52, lzs52, lms52, lfs52⟩ := NOk.len ok53
     have hset57 : s52.p.tk pr = some pb50 := by rw [hp54]; exact upo_same _ _ _
     refine Wl.run 1 ma0 (Wl.htS rfl (HtS.call (β := NS) (k := 111) (args := #[pV pb50 0, nV .u64 dr]) (Lin := [NG k s52]) (Lk := [cLb3_1932_0 ds dt fm sr p5 pr]) (Lo := fun s59 => [NG k s59, cLb3_1932_0 ds dt fm sr p5 pr]) [0] [1] rfl (fun _ => kr) ma2 rfl rfl rfl (fun w_ hm_ hl_ => (pick_n ma1 ma1 hset57 (htab.mem' hm_ hne) ok53 hl_)) (fun _ => rfl)) (fun s59 hx65 => ?_))
     obtain ⟨ok60, hp61⟩ := hx65
     obtain ⟨lxs59, lys59, lzs59, lms59, lfs59⟩ := NOk.len ok60
     have hset63 : s59.p.tk pr = some pb50 := by rw [hp61]; exact hset57
     have hpv64 := pkV_lt (s52.p.TT pr) dr
     refine Wl.run 5 ma0 (Wl.nil (hK49 _ _ _ (W.prune' [0, 5, 14, 15] [Value.pointer (some ⟨k.nb, 0, none⟩), pV p5 0, nV .u16 (pkV (s52.p.TT pr) dr), bV (decide (pk (s52.p.TT pr) dr < 65536))] ma0 (fun f66 => W.seq (fun K67 hK67 => ?_)))))
     refine W.seq (fun K68 hK68 => W.region (Wl.run 2 ma0 (Wl.nil (hK68 _ _ _ ?_))))
     refine W.prune' [0, 5, 14, 69] [Value.pointer (some ⟨k.nb, 0, none⟩), pV p5 0, nV .u16 (pkV (s52.p.TT pr) dr), bV (!(decide (pk (s52.p.TT pr) dr < 65536)))] ma0 (fun f69 => ?_)
     refine W.cond (!(decide (pk (s52.p.TT pr) dr < 65536))) ma0 (fun h70 => ?_) (fun h71 => ?_)
     ·have qh70 := h70; try simp only [zA] at qh70
      refine W.seq (fun K72 hK72 => W.region (Wl.run 2 ma0 (Wl.nil (hK72 _ _ _ ?_))))
      refine W.pick (LL' := [NG k s59]) [0] ma2 rfl (W.prune' [8, 9] [Value.pointer none, iV .i64 20] ma0 (fun f73 => ?_))
      refine W.ret ?_
      have hnp_ : ¬ pk (s.p.TT pr) dr < 65536 := by have z_ := h70; rw [show s52.p.TT = s.p.TT by rw [hp54]] at z_; simp at z_; omega
      show ∀ w_, _ → bodyPostM (fence none) 0 Tryz.prog Tryz.f58 _ Exit.ret _ w_
      exact fun w_ hS_ => fin_ret (ret2 rfl (RV.tmp (v := Value.pointer none) ma0) (RV.tmp (v := iV .i64 20) ma0) hS_ ⟨(s59, none, 20), ⟨ok60, .inl ⟨rfl, .inl rfl, ⟨s59.p.tk, by rw [hp61, hp54]; show ({ s.p with tk := _, TT := updF s.p.TT pr (pkT (s.p.TT pr) dr) } : NP) = _; rw [updF_id hnp_]⟩, .inr (.inr ⟨isSome_not hru_, h36, hnp_⟩)⟩⟩, rfl, (Mem.flat (LL := [NG k s59]) rfl hS_)⟩)
     ·have qh71 := h71; try simp only [zA] at qh71
      refine W.skip' (hK67 _ _ _ (W.prune' [0, 5, 14] [Value.pointer (some ⟨k.nb, 0, none⟩), pV p5 0, nV .u16 (pkV (s52.p.TT pr) dr)] ma0 (fun f74 => W.seq (fun K75 hK75 => W.region ?_))))
      refine Wl.run 1 ma0 (Wl.ys rfl rfl (Ys.loadN (b := p5) (o' := 0) (i := 1) (j := 0) (vs := (dLb3_1932_1 ds dt fm sr pr)) rfl ma0 Tryz.isAgg47 Tryz.sizeOf47 rfl rfl rfl rfl) (Wl.run 1 ma0 (Wl.htS rfl (HtS.call (β := NS × Nat × Nat) (k := 101) (args := #[Value.pointer (some ⟨k.nb, 0, none⟩), aV (dLb3_1932_1 ds dt fm sr pr), nV .u16 (pkV (s52.p.TT pr) dr), bV true]) (Lin := [NG k s59]) (Lk := [cLb3_1932_0 ds dt fm sr p5 pr]) (Lo := fun q82 => [NG k q82.1, [cb q82.2.1 [nV .u8 pr, iV .u32 sr, iV .u32 ds, iV .u16 fm, iV .u16 dt, nV .u16 (pkV (s52.p.TT pr) dr), iV .u64 0, bV false, bV false, bV false, bV false, bV false, bV false, iV .u64 s59.p.lst, bV true] 113], cLb3_1932_0 ds dt fm sr p5 pr]) [0] [1] rfl (fun _ => kr) ma2 rfl rfl rfl (fun w_ hm_ hl_ => (addT_n k s59 _ pr sr ds fm dt (pkV (s52.p.TT pr) dr) _ ok60 hl_ ma1 ma1 (by rw [show s59.p.zs = s.p.zs by rw [hp61, hp54]]; exact hct))) (fun _ => rfl)) (fun q82 hx84 => ?_))))
      obtain ⟨s79, xb76, pb77⟩ := q82
      dsimp only at hx84
      obtain ⟨ok80, hp81, hat78⟩ := hx84
      refine Wl.castL (LL' := [NG k s79, cLb3_1932_2 dr pr xb76 ds dt fm sr s52 s59, cLb3_1932_0 ds dt fm sr p5 pr]) rfl ?_
      obtain ⟨lxs79, lys79, lzs79, lms79, lfs79⟩ := NOk.len ok80
      refine Wl.run 2 ma0 (Wl.nil (hK75 _ _ _ (W.pick (LL' := [NG k s79, cLb3_1932_2 dr pr xb76 ds dt fm sr s52 s59]) [0, 1] ma2 rfl (W.prune' [8, 9] [pV xb76 0, iV .i64 0] ma0 (fun f85 => ?_)))))
      refine W.ret ?_
      have hT1_ : s52.p.TT = s.p.TT := by rw [hp54]
      have hpk_ : pk (s.p.TT pr) dr < 65536 := by have z_ := h71; rw [hT1_] at z_; simpa using z_
      have hl1_ : s59.p.lst = s.p.lst := by rw [hp61, hp54]
      have hP_ := (addP_pick (k := k) (p := s.p) (p2 := s59.p) (f := (((pr : Nat) : Int), sr, ds, fm, dt)) (xb := xb76) (pb := pb77) (b := pb50) (by rw [hp61, hp54]; rfl) hpk_)
      show ∀ w_, _ → bodyPostM (fence none) 0 Tryz.prog Tryz.f58 _ Exit.ret _ w_
      exact fun w_ hS_ => fin_ret (ret2 rfl (RV.tmp (v := pV xb76 0) ma0) (RV.tmp (v := iV .i64 0) ma0) hS_ ⟨(s79, some (xb76, nwE (((pr : Nat) : Int), sr, ds, fm, dt) (pkV (s.p.TT pr) dr : Int) s.p.lst true), 0), ⟨ok80, .inr ⟨rfl, by simpa using h7, by have z_ := of_decide_eq_false h13; omega, ⟨_, true, xb76, pb77, .inr (.inr ⟨isSome_not hru_, rfl, h36, hpk_, rfl⟩), rfl, (by rw [hp81, hT1_]; exact hP_)⟩⟩⟩, rfl, (Mem.cast (LL := [NG k s79, [cb xb76 [nV .u8 pr, iV .u32 sr, iV .u32 ds, iV .u16 fm, iV .u16 dt, nV .u16 (pkV (s52.p.TT pr) dr), iV .u64 0, bV false, bV false, bV false, bV false, bV false, bV false, iV .u64 s59.p.lst, bV true] 113]]) (by rw [hT1_, hl1_]; rfl) (hS_.pick [0, 1] ma2 rfl))⟩)
   ·refine Wa.lets (w0 := w) (M := M) [0, 3, 5, 12, 47, 49] (fun (z86 : Nat) => [Value.pointer (some ⟨k.nb, 0, none⟩), nV .u64 dr, pV p5 0, pV z86 0, Value.pointer (some ⟨k.te, 0, none⟩), aV [nV .u8 pr, iV .u32 sr, iV .u16 fm]]) (fun (z86 : Nat) => True) (fun (z86 : Nat) => [[cb z86 zl5 99], cLb3_1932_0 ds dt fm sr p5 pr, NG k s]) 6 #[true, true, true, true, true, true, false, false, false, false, true, false, false] (fun z86 hp87 f88 => ?_) (fun JD27 => ?_)
    ·obtain ⟨p12, rfl⟩ : ∃ a_, a_ = z86 := ⟨_, rfl⟩
     refine Wa.only (i := 6) ma0 (Wo.yc (v := Value.tuple #[aV (dLb3_1932_0 fm sr pr s), bV (hasK s.p.zs (((pr : Nat) : Int), sr, fm))]) rfl rfl rfl (Yc.call (fun _ => kr) (fun w_ hm_ => (getD_c s.p.zs s.ge.a s.ge.cap k.mo k.te (((pr : Nat) : Int), sr, fm) _ (NG.atD (i := 2) hm_ rfl) (NG.zs (i := 2) hm_ rfl ok) ma12 ok.hzs))) (.inr fun _ h_ => h_.pick [1, 2] ma2 rfl) (Wa.ys (v := Value.tuple #[aV (dLb3_1932_0 fm sr pr s), bV (hasK s.p.zs (((pr : Nat) : Int), sr, fm))]) (i := 7) ma0 ma0 ma0 ma0 (fun _ h_ => h_.pick [1, 2] ma2 rfl) rfl rfl rfl (Ys.pure (fun _ => kr)) (Wa.ys (v := aV (dLb3_1932_0 fm sr pr s)) (i := 8) ma0 ma0 ma0 ma0 (fun _ h_ => h_.pick [1, 2] ma2 rfl) rfl rfl rfl (Ys.pure (fun _ => kr)) (Wa.ys (v := bV (hasK s.p.zs (((pr : Nat) : Int), sr, fm))) (i := 9) ma0 ma0 ma0 ma0 (fun _ h_ => h_.pick [1, 2] ma2 rfl) rfl rfl rfl (Ys.pure (fun _ => kr)) ?_))))
     exact Wa.join [0, 3, 5, 12, 51, 52] [Value.pointer (some ⟨k.nb, 0, none⟩), nV .u64 dr, pV p5 0, pV p12 0, aV [iV .u16 ((getK (⟨0, 0⟩ : Lse) s.p.zs (((pr : Nat) : Int), sr, fm)).ext), iV .i64 ((getK (⟨0, 0⟩ : Lse) s.p.zs (((pr : Nat) : Int), sr, fm)).count)], bV (hasK s.p.zs (((pr : Nat) : Int), sr, fm))] #[true, true, true, true, true, true, true, true, true, true, true, false, false] (JD28 p12 trivial) ma0 ma0 (fun _ h_ => h_)
    ·refine Wa.ys (v := Value.pointer (some ⟨k.nb, 0, none⟩)) (i := 0) ma0 ma0 ma0 ma0 (fun _ h_ => h_) rfl rfl rfl (Ys.pure (fun _ => kr)) (Wa.ys (v := Value.pointer (some ⟨k.nb, 0, none⟩)) (i := 1) ma0 ma0 ma0 ma0 (fun _ h_ => h_) rfl rfl rfl (Ys.pure (fun _ => kr)) (Wa.ys (v := Value.pointer (some ⟨k.nb, 30, none⟩)) (i := 2) ma0 ma0 ma0 ma0 (fun _ h_ => h_) rfl rfl rfl (Ys.pure (fun _ => kr)) (Wa.ys (i := 3) ma0 ma0 ma0 ma0 (fun _ h_ => h_) rfl rfl rfl (Ys.load (b := k.nb) (o' := 30) (i := 1) (j := 0) (cs := natL k s) (v := Value.pointer (some ⟨k.te, 0, none⟩)) rfl ma0 Tryz.isAgg86 rfl rfl ((natC_lo rfl ma2).trans rfl)) (Wa.ys (v := aV (dLb3_1932_1 ds dt fm sr pr)) (i := 4) ma0 ma0 ma0 ma0 (fun _ h_ => h_) rfl rfl rfl (Ys.loadN (b := p5) (o' := 0) (i := 0) (j := 0) (vs := (dLb3_1932_1 ds dt fm sr pr)) rfl ma0 Tryz.isAgg47 Tryz.sizeOf47 rfl rfl rfl rfl) ?_))))
     refine Wa.alt2 (i := 5) (j := 10) ma0 ?_ ?_
     ·refine Wo.yc (v := aV [nV .u8 pr, iV .u32 sr, iV .u16 fm]) rfl rfl rfl (Yc.call (fun _ => kr) (fun w_ hm_ => (from_c (pr : Int) sr ds fm dt _))) (.inr fun _ h_ => h_) ?_
      refine Wa.alt2 (i := 6) (j := 10) ma0 ?_ ?_
      ·refine Wo.yc (v := Value.tuple #[aV (dLb3_1932_0 fm sr pr s), bV (hasK s.p.zs (((pr : Nat) : Int), sr, fm))]) rfl rfl rfl (Yc.call (fun _ => kr) (fun w_ hm_ => (getD_c s.p.zs s.ge.a s.ge.cap k.mo k.te (((pr : Nat) : Int), sr, fm) _ (NG.atD (i := 1) hm_ rfl) (NG.zs (i := 1) hm_ rfl ok) ma12 ok.hzs))) (.inr fun _ h_ => h_) (Wa.ys (v := Value.tuple #[aV (dLb3_1932_0 fm sr pr s), bV (hasK s.p.zs (((pr : Nat) : Int), sr, fm))]) (i := 7) ma0 ma0 ma0 ma0 (fun _ h_ => h_) rfl rfl rfl (Ys.pure (fun _ => kr)) (Wa.ys (v := aV (dLb3_1932_0 fm sr pr s)) (i := 8) ma0 ma0 ma0 ma0 (fun _ h_ => h_) rfl rfl rfl (Ys.pure (fun _ => kr)) (Wa.ys (v := bV (hasK s.p.zs (((pr : Nat) : Int), sr, fm))) (i := 9) ma0 ma0 ma0 ma0 (fun _ h_ => h_) rfl rfl rfl (Ys.pure (fun _ => kr)) (Wa.only (i := 10) ma0 ?_))))
       refine Wo.ht rfl rfl (Ht.alloc (z := aV zl5) (cs := zl5) rfl rfl Tryz.zeroValue99 rfl) (.inr fun _ _ h_ => h_.pick [1, 2] ma2 rfl) (fun p12 => ?_)
       exact Wa.join [0, 3, 5, 12, 51, 52] [Value.pointer (some ⟨k.nb, 0, none⟩), nV .u64 dr, pV p5 0, pV p12 0, aV [iV .u16 ((getK (⟨0, 0⟩ : Lse) s.p.zs (((pr : Nat) : Int), sr, fm)).ext), iV .i64 ((getK (⟨0, 0⟩ : Lse) s.p.zs (((pr : Nat) : Int), sr, fm)).count)], bV (hasK s.p.zs (((pr : Nat) : Int), sr, fm))] #[true, true, true, true, true, true, true, true, true, true, true, false, false] (JD28 p12 trivial) ma0 ma0 (fun _ h_ => h_)
      ·refine Wo.ht rfl rfl (Ht.alloc (z := aV zl5) (cs := zl5) rfl rfl Tryz.zeroValue99 rfl) (.inr fun _ _ h_ => h_.pick [1, 2] ma2 rfl) (fun p12 => ?_)
       exact Wa.join [0, 3, 5, 12, 47, 49] [Value.pointer (some ⟨k.nb, 0, none⟩), nV .u64 dr, pV p5 0, pV p12 0, Value.pointer (some ⟨k.te, 0, none⟩), aV [nV .u8 pr, iV .u32 sr, iV .u16 fm]] #[true, true, true, true, true, true, false, false, false, false, true, false, false] (JD27 p12 trivial) ma0 ma0 (fun _ h_ => h_)
     ·refine Wo.ht rfl rfl (Ht.alloc (z := aV zl5) (cs := zl5) rfl rfl Tryz.zeroValue99 rfl) (.inr fun _ _ h_ => h_.pick [1, 2] ma2 rfl) (fun p12 => Wa.only (i := 5) ma0 (Wo.yc (v := aV [nV .u8 pr, iV .u32 sr, iV .u16 fm]) rfl rfl rfl (Yc.call (fun _ => kr) (fun w_ hm_ => (from_c (pr : Int) sr ds fm dt _))) (.inr fun _ h_ => h_.pick [1, 2] ma2 rfl) ?_))
      exact Wa.join [0, 3, 5, 12, 47, 49] [Value.pointer (some ⟨k.nb, 0, none⟩), nV .u64 dr, pV p5 0, pV p12 0, Value.pointer (some ⟨k.te, 0, none⟩), aV [nV .u8 pr, iV .u32 sr, iV .u16 fm]] #[true, true, true, true, true, true, false, false, false, false, true, false, false] (JD27 p12 trivial) ma0 ma0 (fun _ h_ => h_)
end Go.Proofs.YtmonlaoaengfdaaGreatDoor.Oct
