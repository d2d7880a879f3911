import Derived.Test.YtmonlaoaengfdaaGreatDoorM34
import Derived.Test.YtmonlaoaengfdaaGreatDoorM4
import Derived.Test.YtmonlaoaengfdaaGreatDoorM24
set_option linter.unusedVariables false
set_option linter.unusedSimpArgs false
set_option maxRecDepth 20000
namespace Go.Proofs.YtmonlaoaengfdaaGreatDoor.Oct
open Go.RowKit Base
attribute [local irreducible] Ys Yc Ht HtS HtIn Wl Wd W Mem pf dpf Wa Wo
open Conf (Fwd fwv)
theorem clonef_c (fx : List Conf.Fwd) (fa : Option Addr) (fc : Nat) (w : World) (hfx : At w fa (mm Conf.fwv fx)) (hfn : fx.length ≤ 100000) : Calls Tryz.prog 63 #[Value.slice fa fx.length fc] w (RetM w (fun g' : FS => g'.ok 4 fx.length) (fun g' => .slice g'.a fx.length g'.cap) [] (fun g' => [g'.seg 65 (mm Conf.fwv fx)])) := by
 refine calls_W (M := []) (LL := []) (n := 8) Tryz.func63 rfl rfl ma6 (Mem.refl _) (W.seq (fun K1 hK1 => ?_))
 refine W.region (Wl.run 1 ma0 (Wl.nil (hK1 _ _ _ (W.seq (fun K2 hK2 => ?_)))))
 refine W.seq (fun K3 hK3 => W.region (Wl.run 1 ma0 (Wl.ys (v := bV fa.isNone) rfl rfl (Ys.pure (fun _ => by generalize fa = a_; cases a_ <;> kernel_rfl)) (Wl.nil ?_))))
 refine hK3 _ _ _ (W.prune' [0, 4] [Value.slice fa fx.length fc, bV fa.isNone] ma0 (fun f4 => ?_))
 refine W.cond (fa.isNone) ma0 (fun h5 => ?_) (fun h6 => ?_)
 ·refine W.seq (fun K7 hK7 => W.region (Wl.run 1 ma0 (Wl.nil (hK7 _ _ _ ?_))))
  refine W.ret ?_
  have hx0_ : fx = [] := List.length_eq_zero_iff.1 (by have z_ := At.of_none hfx h5; rw [fwv_zlen] at z_; omega)
  show ∀ w_, _ → bodyPostM (fence none) 0 Tryz.prog Tryz.f63 _ Exit.ret _ w_
  exact fun w_ hS_ => fin_ret (ret1 rfl (RV.tmp (v := Value.slice none 0 0) ma0) hS_ ⟨FS.nul, (by rw [hx0_]; exact FS.nul_ok 4), congrArg Ending.returned ((by rw [hx0_]; rfl)), (Mem.cast (by rw [hx0_]; rfl) (Mem.push hS_))⟩)
 ·refine W.skip' (hK2 _ _ _ (W.prune' [0] [Value.slice fa fx.length fc] ma0 (fun f8 => W.seq (fun K9 hK9 => W.region ?_))))
  refine Wl.ht rfl (Ht.made (mk := fun b_ => .slice (some ⟨b_, 0, none⟩) 0 0) (t := 65) (cs := []) rfl (fun _ => kr)) (fun p5 => Wl.run 1 ma0 (Wl.htS rfl (HtS.append (eu := 65) (xv := Value.slice fa fx.length fc) (i := 0) (g := (FS.mk false p5 0 [])) (e := 65) (ii := (Tryz.prog.info? 65).getD default) (z := aV zl4) (sz := 4) (bytes := 12) (nn := 0) (m := fx.length) (k := fx.length) (xs := mm fwv []) (news := mm fwv fx) (cs' := mm fwv fx) (Lo := fun g10 => [g10.seg 65 (mm fwv fx)]) rfl rfl ma0 ma0 ma0 ma0 ma0 ma0 ma0 ma0 ma0 rfl (FS.lit_ok ma2) rfl (fun _ => rfl) (Src.at (a := fa) (mm_len (g := fwv) (sz := 4) (fun _ => rfl) _) (fun w_ h_ => (hfx.mem0 h_))) (mm_len (g := fwv) (sz := 4) (fun _ => rfl) _) (mm_one fwv_one _) ma5 ma8 ma5 rfl (fun _ => rfl)) (fun g10 hx15 => ?_)))
  obtain ⟨ok11, hn12, hn13⟩ := hx15
  refine Wl.run 1 ma0 (Wl.nil (hK9 _ _ _ (W.prune' [2] [sV g10 fx.length] ma0 (fun f16 => W.ret ?_))))
  show ∀ w_, _ → bodyPostM (fence none) 0 Tryz.prog Tryz.f63 _ Exit.ret _ w_
  exact fun w_ hS_ => fin_ret (ret1 rfl (RV.tmp (v := sV g10 fx.length) ma0) hS_ ⟨g10, ok11, rfl, (hS_.pick [0] ma2 rfl)⟩)
abbrev cLb15_2369_0 (p2 : Nat) : List Blk := [cb p2 [iV .u8 0, iV .u8 0, iV .u8 0, iV .u8 0, iV .u8 0, iV .u8 0, iV .u8 0, iV .u8 0, iV .u8 0, iV .u8 0, iV .u8 0, iV .u8 0, iV .u8 0, iV .u8 0, iV .u8 0, iV .u8 0, iV .u8 0, iV .u8 0, iV .u32 0, iV .u32 0, iV .i64 0, iV .i64 0, iV .i64 0, iV .i64 0, iV .i64 0, Value.slice none 0 0, iV .u32 0, Value.string (bstr [])] 32]
abbrev dLb15_2369_0 (bits dmz hm0 hm1 hm2 hm3 hm4 hm5 lan lm0 lm1 lm2 lm3 lm4 lm5 m_c m_m m_u ms wan wm0 wm1 wm2 wm3 wm4 wm5 : Int) (fx : List Conf.Fwd) (gf4 : FS) (uu : ByteArray) : List Value := [iV .u8 lm0, iV .u8 lm1, iV .u8 lm2, iV .u8 lm3, iV .u8 lm4, iV .u8 lm5, iV .u8 wm0, iV .u8 wm1, iV .u8 wm2, iV .u8 wm3, iV .u8 wm4, iV .u8 wm5, iV .u8 hm0, iV .u8 hm1, iV .u8 hm2, iV .u8 hm3, iV .u8 hm4, iV .u8 hm5, iV .u32 lan, iV .u32 wan, iV .i64 bits, iV .i64 ms, iV .i64 m_m, iV .i64 m_c, iV .i64 m_u, Value.slice gf4.a fx.length gf4.cap, iV .u32 dmz, Value.string uu]
abbrev dLb15_2369_1 (bits dmz hm0 hm1 hm2 hm3 hm4 hm5 lan lm0 lm1 lm2 lm3 lm4 lm5 m_c m_m m_u ms wan wm0 wm1 wm2 wm3 wm4 wm5 : Int) (fa : Option Addr) (fc : Nat) (fx : List Conf.Fwd) (uu : ByteArray) : List Value := [iV .u8 lm0, iV .u8 lm1, iV .u8 lm2, iV .u8 lm3, iV .u8 lm4, iV .u8 lm5, iV .u8 wm0, iV .u8 wm1, iV .u8 wm2, iV .u8 wm3, iV .u8 wm4, iV .u8 wm5, iV .u8 hm0, iV .u8 hm1, iV .u8 hm2, iV .u8 hm3, iV .u8 hm4, iV .u8 hm5, iV .u32 lan, iV .u32 wan, iV .i64 bits, iV .i64 ms, iV .i64 m_m, iV .i64 m_c, iV .i64 m_u, Value.slice fa fx.length fc, iV .u32 dmz, Value.string uu]
theorem copy_c (lm0 lm1 lm2 lm3 lm4 lm5 wm0 wm1 wm2 wm3 wm4 wm5 hm0 hm1 hm2 hm3 hm4 hm5 lan wan bits ms m_m m_c m_u dmz : Int) (uu : ByteArray) (fx : List Conf.Fwd) (fa : Option Addr) (fc : Nat) (w : World) (hfx : At w fa (mm Conf.fwv fx)) (hfn : fx.length ≤ 100000) : Calls Tryz.prog 28 #[aV [iV .u8 lm0, iV .u8 lm1, iV .u8 lm2, iV .u8 lm3, iV .u8 lm4, iV .u8 lm5, iV .u8 wm0, iV .u8 wm1, iV .u8 wm2, iV .u8 wm3, iV .u8 wm4, iV .u8 wm5, iV .u8 hm0, iV .u8 hm1, iV .u8 hm2, iV .u8 hm3, iV .u8 hm4, iV .u8 hm5, iV .u32 lan, iV .u32 wan, iV .i64 bits, iV .i64 ms, iV .i64 m_m, iV .i64 m_c, iV .i64 m_u, Value.slice fa fx.length fc, iV .u32 dmz, Value.string uu]] w (RetM w (fun g : FS => g.ok 4 fx.length) (fun g => aV [iV .u8 lm0, iV .u8 lm1, iV .u8 lm2, iV .u8 lm3, iV .u8 lm4, iV .u8 lm5, iV .u8 wm0, iV .u8 wm1, iV .u8 wm2, iV .u8 wm3, iV .u8 wm4, iV .u8 wm5, iV .u8 hm0, iV .u8 hm1, iV .u8 hm2, iV .u8 hm3, iV .u8 hm4, iV .u8 hm5, iV .u32 lan, iV .u32 wan, iV .i64 bits, iV .i64 ms, iV .i64 m_m, iV .i64 m_c, iV .i64 m_u, sV g fx.length, iV .u32 dmz, Value.string uu]) [] (fun g => [g.seg 65 (mm Conf.fwv fx)])) := by
 refine calls_W (M := []) (LL := []) (n := 8) Tryz.func28 rfl rfl ma6 (Mem.refl _) (W.seq (fun K1 hK1 => ?_))
 refine W.region (Wl.ht rfl (Ht.box (v := aV (dLb15_2369_1 bits dmz hm0 hm1 hm2 hm3 hm4 hm5 lan lm0 lm1 lm2 lm3 lm4 lm5 m_c m_m m_u ms wan wm0 wm1 wm2 wm3 wm4 wm5 fa fc fx uu)) (cs := (dLb15_2369_1 bits dmz hm0 hm1 hm2 hm3 hm4 hm5 lan lm0 lm1 lm2 lm3 lm4 lm5 m_c m_m m_u ms wan wm0 wm1 wm2 wm3 wm4 wm5 fa fc fx uu)) rfl rfl ma0 rfl) (fun p1 => ?_))
 refine Wl.ht rfl (Ht.alloc (z := aV [iV .u8 0, iV .u8 0, iV .u8 0, iV .u8 0, iV .u8 0, iV .u8 0, iV .u8 0, iV .u8 0, iV .u8 0, iV .u8 0, iV .u8 0, iV .u8 0, iV .u8 0, iV .u8 0, iV .u8 0, iV .u8 0, iV .u8 0, iV .u8 0, iV .u32 0, iV .u32 0, iV .i64 0, iV .i64 0, iV .i64 0, iV .i64 0, iV .i64 0, Value.slice none 0 0, iV .u32 0, Value.string (bstr [])]) (cs := [iV .u8 0, iV .u8 0, iV .u8 0, iV .u8 0, iV .u8 0, iV .u8 0, iV .u8 0, iV .u8 0, iV .u8 0, iV .u8 0, iV .u8 0, iV .u8 0, iV .u8 0, iV .u8 0, iV .u8 0, iV .u8 0, iV .u8 0, iV .u8 0, iV .u32 0, iV .u32 0, iV .i64 0, iV .i64 0, iV .i64 0, iV .i64 0, iV .i64 0, Value.slice none 0 0, iV .u32 0, Value.string (bstr [])]) rfl rfl Tryz.zeroValue32 rfl) (fun p2 => Wl.nil (hK1 _ _ _ (W.prune' [1, 2] [pV p1 0, pV p2 0] ma0 (fun f2 => W.seq (fun K3 hK3 => ?_)))))
 refine W.region (Wl.run 1 ma0 (Wl.ys rfl rfl (Ys.l1 p1 25 1 0 Tryz.isAgg30) (Wl.htS rfl (HtS.call (β := FS) (k := 63) (args := #[Value.slice fa fx.length fc]) (Lin := []) (Lk := [cLb15_2369_0 p2, [cb p1 (dLb15_2369_1 bits dmz hm0 hm1 hm2 hm3 hm4 hm5 lan lm0 lm1 lm2 lm3 lm4 lm5 m_c m_m m_u ms wan wm0 wm1 wm2 wm3 wm4 wm5 fa fc fx uu) 32]]) (Mi := []) (Lo := fun gf4 => [gf4.seg 65 (mm fwv fx), cLb15_2369_0 p2, [cb p1 (dLb15_2369_1 bits dmz hm0 hm1 hm2 hm3 hm4 hm5 lan lm0 lm1 lm2 lm3 lm4 lm5 m_c m_m m_u ms wan wm0 wm1 wm2 wm3 wm4 wm5 fa fc fx uu) 32]]) [] [0, 1] rfl (fun _ => kr) ma2 rfl rfl rfl (fun w_ hm_ hl_ => (clonef_c fx fa fc _ (hfx.mem0 hm_) ma12)) (fun _ => rfl)) (fun gf4 okf5 => Wl.run 1 ma0 ?_))))
 refine Wl.ht rfl (Ht.store (b := p1) (o' := 25) (i := 2) (j := 0) (v := Value.slice gf4.a fx.length gf4.cap) (LL' := [gf4.seg 65 (mm fwv fx), cLb15_2369_0 p2, [cb p1 (dLb15_2369_0 bits dmz hm0 hm1 hm2 hm3 hm4 hm5 lan lm0 lm1 lm2 lm3 lm4 lm5 m_c m_m m_u ms wan wm0 wm1 wm2 wm3 wm4 wm5 fx gf4 uu) 32]]) rfl rfl ma0 ma0 Tryz.sizeOf30 rfl rfl rfl ma6 rfl rfl) (fun _ => Wl.nil (hK3 _ _ _ (W.prune' [1, 2] [pV p1 0, pV p2 0] ma0 (fun f7 => W.seq (fun K8 hK8 => ?_)))))
 refine W.region (Wl.ys rfl rfl (Ys.loadN (b := p1) (o' := 0) (i := 2) (j := 0) (vs := (dLb15_2369_0 bits dmz hm0 hm1 hm2 hm3 hm4 hm5 lan lm0 lm1 lm2 lm3 lm4 lm5 m_c m_m m_u ms wan wm0 wm1 wm2 wm3 wm4 wm5 fx gf4 uu)) rfl ma0 Tryz.isAgg32 Tryz.sizeOf32 rfl rfl rfl rfl) (Wl.ht rfl (Ht.storeN (b := p2) (o' := 0) (i := 1) (j := 0) (vs := (dLb15_2369_0 bits dmz hm0 hm1 hm2 hm3 hm4 hm5 lan lm0 lm1 lm2 lm3 lm4 lm5 m_c m_m m_u ms wan wm0 wm1 wm2 wm3 wm4 wm5 fx gf4 uu)) (LL' := [gf4.seg 65 (mm fwv fx), [cb p2 (dLb15_2369_0 bits dmz hm0 hm1 hm2 hm3 hm4 hm5 lan lm0 lm1 lm2 lm3 lm4 lm5 m_c m_m m_u ms wan wm0 wm1 wm2 wm3 wm4 wm5 fx gf4 uu) 32], [cb p1 (dLb15_2369_0 bits dmz hm0 hm1 hm2 hm3 hm4 hm5 lan lm0 lm1 lm2 lm3 lm4 lm5 m_c m_m m_u ms wan wm0 wm1 wm2 wm3 wm4 wm5 fx gf4 uu) 32]]) rfl rfl ma0 ma0 Tryz.sizeOf32 ma7 rfl rfl ma6 rfl rfl) (fun _ => Wl.nil (hK8 _ _ _ ?_))))
 refine W.pick (LL' := [gf4.seg 65 (mm fwv fx), [cb p2 (dLb15_2369_0 bits dmz hm0 hm1 hm2 hm3 hm4 hm5 lan lm0 lm1 lm2 lm3 lm4 lm5 m_c m_m m_u ms wan wm0 wm1 wm2 wm3 wm4 wm5 fx gf4 uu) 32]]) [0, 1] ma2 rfl (W.prune' [2] [pV p2 0] ma0 (fun f9 => ?_))
 refine W.ret ?_
 show ∀ w_, _ → bodyPostM (fence none) 0 Tryz.prog Tryz.f28 _ Exit.ret _ w_
 exact fun w_ hS_ => fin_ret (ret1 rfl (RV.cellN (b := p2) (o' := 0) (i := 1) (j := 0) (cs := [iV .u8 lm0, iV .u8 lm1, iV .u8 lm2, iV .u8 lm3, iV .u8 lm4, iV .u8 lm5, iV .u8 wm0, iV .u8 wm1, iV .u8 wm2, iV .u8 wm3, iV .u8 wm4, iV .u8 wm5, iV .u8 hm0, iV .u8 hm1, iV .u8 hm2, iV .u8 hm3, iV .u8 hm4, iV .u8 hm5, iV .u32 lan, iV .u32 wan, iV .i64 bits, iV .i64 ms, iV .i64 m_m, iV .i64 m_c, iV .i64 m_u, Value.slice gf4.a fx.length gf4.cap, iV .u32 dmz, Value.string uu]) (vs := [iV .u8 lm0, iV .u8 lm1, iV .u8 lm2, iV .u8 lm3, iV .u8 lm4, iV .u8 lm5, iV .u8 wm0, iV .u8 wm1, iV .u8 wm2, iV .u8 wm3, iV .u8 wm4, iV .u8 wm5, iV .u8 hm0, iV .u8 hm1, iV .u8 hm2, iV .u8 hm3, iV .u8 hm4, iV .u8 hm5, iV .u32 lan, iV .u32 wan, iV .i64 bits, iV .i64 ms, iV .i64 m_m, iV .i64 m_c, iV .i64 m_u, Value.slice gf4.a fx.length gf4.cap, iV .u32 dmz, Value.string uu]) ma0 Tryz.isAgg32 Tryz.sizeOf32 rfl rfl rfl rfl) hS_ ⟨gf4, okf5, rfl, (hS_.pick [0] ma2 rfl)⟩)
open Conf (Fwd fwv)
abbrev np0 : NP := ⟨[], [], [], [], [], fun _ => none, tkn [], 0, []⟩
abbrev ns0 : NS := ⟨np0, FS.nul, FS.nul, FS.nul, FS.nul, FS.nul⟩
theorem ng_new (nb ts te ti wb : Nat) (gf : FS) (c : Conf.Cfg) (fx : List Fwd) (mo : Int) : NG (⟨nb, ts, te, ti, wb, gf, c, fx, mo⟩ : NK) ns0 = ([[cb nb (natL (⟨nb, ts, te, ti, wb, gf, c, fx, mo⟩ : NK) ns0) 91], gf.seg 65 (mm fwv fx), [cb ts [Value.slice none 0 0, Value.int .i64 mo, Value.func (.func 31) #[] #[]] 153], [cb ti [Value.slice none 0 0, Value.int .i64 mo, Value.func (.func 35) #[] #[]] 163], [cb te [Value.slice none 0 0, Value.int .i64 mo, Value.func (.func 33) #[] #[]] 160], [cb wb [.slice none 0 0] 150]] : List (List Blk)).flatten := by
  show (NBs _ ns0).flatten = _
  unfold NBs
  show List.flatten [_, [], _, [], _, [], _, [], _, [], _, setsB (fun _ => none) (tkn []), []] = _
  rw [setsB_none]
  simp only [List.flatten_cons, List.nil_append, List.flatten_nil, List.append_nil]
  rfl
theorem nok_new {nb ts te ti wb : Nat} {gf : FS} {c : Conf.Cfg} {fx : List Fwd} (hg : gf.ok 4 fx.length) (hfn : fx.length ≤ 100000) (hm : c.ms ≤ 50000) : NOk (⟨nb, ts, te, ti, wb, gf, c, fx, imax c.ms 0⟩ : NK) ns0 := by
  have h1 : 0 ≤ imax c.ms 0 ∧ imax c.ms 0 ≤ 50000 := by unfold imax; split <;> omega
  exact ⟨FS.nul_ok 5, hg, FS.nul_ok 6, FS.nul_ok 6, FS.nul_ok 5, FS.nul_ok 2, Nat.zero_le _, hfn, h1, h1.1, h1.1, h1.1, Nat.zero_le _, List.Pairwise.nil, List.Pairwise.nil, List.Pairwise.nil, OkS.nil, fun p _ => by show tkn [] p = _; rw [tkn_nil]⟩
structure NewP (c : Conf.Cfg) (fx : List Fwd) (k : NK) (s : NS) : Prop where
  inv : Inv k s
  ms : s.p.ms = []
  es : s.p.es = []
  lst : s.p.lst = 0
  kc : k.c = c
  kfx : k.fx = fx
  kmo : k.mo = imax c.ms 0
theorem newp {nb ts te ti wb : Nat} {gf : FS} {c : Conf.Cfg} {fx : List Fwd} {tk : Nat → Option Nat} (ok : NOk (⟨nb, ts, te, ti, wb, gf, c, fx, imax c.ms 0⟩ : NK) (stQ ns0 tk (tkn (fxP fx ++ msP [] ++ zsP [])))) (hF : RngF fx) (hU : FxU fx) : NewP c fx (⟨nb, ts, te, ti, wb, gf, c, fx, imax c.ms 0⟩ : NK) (stQ ns0 tk (tkn (fxP fx ++ msP [] ++ zsP []))) := by
  have e : ∀ {α : Type} {x : α}, x ∈ ([] : List α) → False := fun h => by cases h
  refine ⟨⟨ok, ⟨rfl, fun i f => ⟨fun h => (e h).elim, fun ⟨x, hx, _⟩ => (e hx).elim⟩, List.Pairwise.nil, ⟨Int.le_refl _, fun x hx => (e hx).elim⟩, fun i t => ⟨fun h => (e h).elim, fun ⟨x, hx, _⟩ => (e hx).elim⟩, fun _ _ h => (e h).elim, fun _ h => (e h).elim, fun _ _ _ _ h => (e h).elim, fun _ h => (e h).elim⟩, ⟨fun _ h => (e h).elim, rfl⟩, hF, hU, fun _ h => (e h).elim⟩, rfl, rfl, rfl, rfl, rfl, rfl⟩
abbrev cLb15_2377_0 (c : Conf.Cfg) (fa : Option Addr) (fc p1 : Nat) (fx : List Fwd) : List Blk := [cb p1 [iV .u8 c.lm0, iV .u8 c.lm1, iV .u8 c.lm2, iV .u8 c.lm3, iV .u8 c.lm4, iV .u8 c.lm5, iV .u8 c.wm0, iV .u8 c.wm1, iV .u8 c.wm2, iV .u8 c.wm3, iV .u8 c.wm4, iV .u8 c.wm5, iV .u8 c.hm0, iV .u8 c.hm1, iV .u8 c.hm2, iV .u8 c.hm3, iV .u8 c.hm4, iV .u8 c.hm5, iV .u32 c.lan, iV .u32 c.wan, iV .i64 c.bits, iV .i64 c.ms, iV .i64 c.mm, iV .i64 c.mc, iV .i64 c.mu, Value.slice fa fx.length fc, iV .u32 c.dmz, Value.string c.uu] 32]
abbrev cLb15_2377_1 (c : Conf.Cfg) (tb11 : Nat) : List Blk := [cb tb11 [Value.slice none 0 0, iV .i64 (imax c.ms 0), Value.func (.func 31) #[] #[]] 153]
abbrev cLb15_2377_2 (c : Conf.Cfg) (tb15 : Nat) : List Blk := [cb tb15 [Value.slice none 0 0, iV .i64 (imax c.ms 0), Value.func (.func 33) #[] #[]] 160]
abbrev cLb15_2377_3 (c : Conf.Cfg) (tb19 : Nat) : List Blk := [cb tb19 [Value.slice none 0 0, iV .i64 (imax c.ms 0), Value.func (.func 35) #[] #[]] 163]
abbrev dLb15_2377_0 (c : Conf.Cfg) (fa : Option Addr) (fc : Nat) (fx : List Fwd) : List Value := [iV .u8 c.lm0, iV .u8 c.lm1, iV .u8 c.lm2, iV .u8 c.lm3, iV .u8 c.lm4, iV .u8 c.lm5, iV .u8 c.wm0, iV .u8 c.wm1, iV .u8 c.wm2, iV .u8 c.wm3, iV .u8 c.wm4, iV .u8 c.wm5, iV .u8 c.hm0, iV .u8 c.hm1, iV .u8 c.hm2, iV .u8 c.hm3, iV .u8 c.hm4, iV .u8 c.hm5, iV .u32 c.lan, iV .u32 c.wan, iV .i64 c.bits, iV .i64 c.ms, iV .i64 c.mm, iV .i64 c.mc, iV .i64 c.mu, Value.slice fa fx.length fc, iV .u32 c.dmz, Value.string c.uu]
theorem newn_c (c : Conf.Cfg) (fx : List Fwd) (fa : Option Addr) (fc : Nat) (w : World) (hfx : At w fa (mm Conf.fwv fx)) (hfn : fx.length ≤ 100000) (hms : c.ms ≤ 50000) (hF : RngF fx) (hU : FxU fx) (hf0 : fx.length = 0) : Calls Tryz.prog 10 #[aV [iV .u8 c.lm0, iV .u8 c.lm1, iV .u8 c.lm2, iV .u8 c.lm3, iV .u8 c.lm4, iV .u8 c.lm5, iV .u8 c.wm0, iV .u8 c.wm1, iV .u8 c.wm2, iV .u8 c.wm3, iV .u8 c.wm4, iV .u8 c.wm5, iV .u8 c.hm0, iV .u8 c.hm1, iV .u8 c.hm2, iV .u8 c.hm3, iV .u8 c.hm4, iV .u8 c.hm5, iV .u32 c.lan, iV .u32 c.wan, iV .i64 c.bits, iV .i64 c.ms, iV .i64 c.mm, iV .i64 c.mc, iV .i64 c.mu, Value.slice fa fx.length fc, iV .u32 c.dmz, Value.string c.uu]] w (RetM w (fun r : NK × NS => NewP c fx r.1 r.2) (fun r => .pointer (some ⟨r.1.nb, 0, none⟩)) [] (fun r => [NG r.1 r.2])) := by
 refine calls_W (M := []) (LL := []) (n := 30) Tryz.func10 rfl rfl ma6 (Mem.refl _) (W.seq (fun K1 hK1 => ?_))
 refine W.region (Wl.ht rfl (Ht.box (v := aV (dLb15_2377_0 c fa fc fx)) (cs := (dLb15_2377_0 c fa fc fx)) rfl rfl ma0 rfl) (fun p1 => ?_))
 refine Wl.run 1 ma0 (Wl.nil (hK1 _ _ _ (W.prune' [1] [pV p1 0] ma0 (fun f2 => W.seq (fun K3 hK3 => ?_)))))
 refine W.region (Wl.ys rfl rfl (Ys.loadN (b := p1) (o' := 0) (i := 0) (j := 0) (vs := (dLb15_2377_0 c fa fc fx)) rfl ma0 Tryz.isAgg32 Tryz.sizeOf32 rfl rfl rfl rfl) (Wl.htS rfl (HtS.call (β := FS) (k := 28) (args := #[aV (dLb15_2377_0 c fa fc fx)]) (Lin := []) (Lk := [cLb15_2377_0 c fa fc p1 fx]) (Mi := []) (Lo := fun gf4 => [gf4.seg 65 (mm fwv fx), cLb15_2377_0 c fa fc p1 fx]) [] [0] rfl (fun _ => kr) ma2 rfl rfl rfl (fun w_ hm_ hl_ => (copy_c c.lm0 c.lm1 c.lm2 c.lm3 c.lm4 c.lm5 c.wm0 c.wm1 c.wm2 c.wm3 c.wm4 c.wm5 c.hm0 c.hm1 c.hm2 c.hm3 c.hm4 c.hm5 c.lan c.wan c.bits c.ms c.mm c.mc c.mu c.dmz c.uu fx fa fc _ (hfx.mem0 hm_) ma12)) (fun _ => rfl)) (fun gf4 okf5 => Wl.htS rfl (HtS.call (β := Nat) (k := 29) (args := #[]) (Lin := []) (Lk := [gf4.seg 65 (mm fwv fx), cLb15_2377_0 c fa fc p1 fx]) (Mi := []) (Lo := fun wb7 => [[cb wb7 zl10 150], gf4.seg 65 (mm fwv fx), cLb15_2377_0 c fa fc p1 fx]) [] [0, 1] rfl (fun _ => kr) ma2 rfl rfl rfl (fun w_ hm_ hl_ => (wnew_c _)) (fun _ => rfl)) (fun wb7 _ => Wl.ys (v := Value.agg (natC (cfC c (Value.slice gf4.a fx.length gf4.cap)) (Value.slice none 0 0) (Value.pointer none) (Value.pointer none) (fun _ => none) (pV wb7 0) (Value.pointer none) (iV .u64 0)).toArray) rfl rfl (Ys.pure (fun _ => kr)) ?_))))
 refine Wl.ht rfl (Ht.box (v := Value.agg (natC (cfC c (Value.slice gf4.a fx.length gf4.cap)) (Value.slice none 0 0) (Value.pointer none) (Value.pointer none) (fun _ => none) (pV wb7 0) (Value.pointer none) (iV .u64 0)).toArray) (cs := natC (cfC c (Value.slice gf4.a fx.length gf4.cap)) (Value.slice none 0 0) (Value.pointer none) (Value.pointer none) (fun _ => none) (pV wb7 0) (Value.pointer none) (iV .u64 0)) rfl rfl ma0 rfl) (fun p8 => Wl.run 1 ma0 (Wl.nil (hK3 _ _ _ (W.prune' [1, 3] [pV p1 0, pV p8 0] ma0 (fun f9 => ?_)))))
 refine W.seq (fun K10 hK10 => W.region (Wl.run 2 ma0 (Wl.ys rfl rfl (Ys.l1 p1 21 3 0 Tryz.isAgg3) (Wl.htS rfl (HtS.call (β := Nat) (k := 30) (args := #[iV .i64 c.ms, Value.func (.func 31) #[] #[]]) (Lin := []) (Lk := [[cb p8 (natC (cfC c (Value.slice gf4.a fx.length gf4.cap)) (Value.slice none 0 0) (Value.pointer none) (Value.pointer none) (fun _ => none) (pV wb7 0) (Value.pointer none) (iV .u64 0)) 91], [cb wb7 zl10 150], gf4.seg 65 (mm fwv fx), cLb15_2377_0 c fa fc p1 fx]) (Mi := []) (Lo := fun tb11 => [cLb15_2377_1 c tb11, [cb p8 (natC (cfC c (Value.slice gf4.a fx.length gf4.cap)) (Value.slice none 0 0) (Value.pointer none) (Value.pointer none) (fun _ => none) (pV wb7 0) (Value.pointer none) (iV .u64 0)) 91], [cb wb7 zl10 150], gf4.seg 65 (mm fwv fx), cLb15_2377_0 c fa fc p1 fx]) [] [0, 1, 2, 3] rfl (fun _ => kr) ma2 rfl rfl rfl (fun w_ hm_ hl_ => (newS_c c.ms _)) (fun _ => rfl)) (fun tb11 _ => ?_)))))
 refine Wl.run 2 ma0 (Wl.ht rfl (Ht.store (b := p8) (o' := 29) (i := 1) (j := 0) (cs := natC (cfC c (Value.slice gf4.a fx.length gf4.cap)) (Value.slice none 0 0) (Value.pointer none) (Value.pointer none) (fun _ => none) (pV wb7 0) (Value.pointer none) (iV .u64 0)) (cs' := natC (cfC c (Value.slice gf4.a fx.length gf4.cap)) (Value.slice none 0 0) (pV tb11 0) (Value.pointer none) (fun _ => none) (pV wb7 0) (Value.pointer none) (iV .u64 0)) (v := pV tb11 0) (LL' := [cLb15_2377_1 c tb11, [cb p8 (natC (cfC c (Value.slice gf4.a fx.length gf4.cap)) (Value.slice none 0 0) (pV tb11 0) (Value.pointer none) (fun _ => none) (pV wb7 0) (Value.pointer none) (iV .u64 0)) 91], [cb wb7 zl10 150], gf4.seg 65 (mm fwv fx), cLb15_2377_0 c fa fc p1 fx]) rfl rfl ma0 ma0 Tryz.sizeOf85 rfl rfl rfl (by rw [natC_len rfl]; decide) ((natC_set_lo rfl ma2).trans rfl) rfl) (fun _ => ?_))
 refine Wl.nil (hK10 _ _ _ (W.prune' [1, 3] [pV p1 0, pV p8 0] ma0 (fun f13 => W.seq (fun K14 hK14 => W.region ?_))))
 refine Wl.run 2 ma0 (Wl.ys rfl rfl (Ys.l1 p1 21 4 0 Tryz.isAgg3) (Wl.htS rfl (HtS.call (β := Nat) (k := 32) (args := #[iV .i64 c.ms, Value.func (.func 33) #[] #[]]) (Lin := []) (Lk := [cLb15_2377_1 c tb11, [cb p8 (natC (cfC c (Value.slice gf4.a fx.length gf4.cap)) (Value.slice none 0 0) (pV tb11 0) (Value.pointer none) (fun _ => none) (pV wb7 0) (Value.pointer none) (iV .u64 0)) 91], [cb wb7 zl10 150], gf4.seg 65 (mm fwv fx), cLb15_2377_0 c fa fc p1 fx]) (Mi := []) (Lo := fun tb15 => [cLb15_2377_2 c tb15, cLb15_2377_1 c tb11, [cb p8 (natC (cfC c (Value.slice gf4.a fx.length gf4.cap)) (Value.slice none 0 0) (pV tb11 0) (Value.pointer none) (fun _ => none) (pV wb7 0) (Value.pointer none) (iV .u64 0)) 91], [cb wb7 zl10 150], gf4.seg 65 (mm fwv fx), cLb15_2377_0 c fa fc p1 fx]) [] [0, 1, 2, 3, 4] rfl (fun _ => kr) ma2 rfl rfl rfl (fun w_ hm_ hl_ => (newD_c c.ms _)) (fun _ => rfl)) (fun tb15 _ => Wl.run 2 ma0 (Wl.ht rfl (Ht.store (b := p8) (o' := 30) (i := 2) (j := 0) (cs := natC (cfC c (Value.slice gf4.a fx.length gf4.cap)) (Value.slice none 0 0) (pV tb11 0) (Value.pointer none) (fun _ => none) (pV wb7 0) (Value.pointer none) (iV .u64 0)) (cs' := natC (cfC c (Value.slice gf4.a fx.length gf4.cap)) (Value.slice none 0 0) (pV tb11 0) (pV tb15 0) (fun _ => none) (pV wb7 0) (Value.pointer none) (iV .u64 0)) (v := pV tb15 0) (LL' := [cLb15_2377_2 c tb15, cLb15_2377_1 c tb11, [cb p8 (natC (cfC c (Value.slice gf4.a fx.length gf4.cap)) (Value.slice none 0 0) (pV tb11 0) (pV tb15 0) (fun _ => none) (pV wb7 0) (Value.pointer none) (iV .u64 0)) 91], [cb wb7 zl10 150], gf4.seg 65 (mm fwv fx), cLb15_2377_0 c fa fc p1 fx]) rfl rfl ma0 ma0 Tryz.sizeOf86 rfl rfl rfl (by rw [natC_len rfl]; decide) ((natC_set_lo rfl ma2).trans rfl) rfl) (fun _ => ?_)))))
 refine Wl.nil (hK14 _ _ _ (W.prune' [1, 3] [pV p1 0, pV p8 0] ma0 (fun f17 => W.seq (fun K18 hK18 => W.region ?_))))
 refine Wl.run 2 ma0 (Wl.ys rfl rfl (Ys.l1 p1 21 5 0 Tryz.isAgg3) (Wl.htS rfl (HtS.call (β := Nat) (k := 34) (args := #[iV .i64 c.ms, Value.func (.func 35) #[] #[]]) (Lin := []) (Lk := [cLb15_2377_2 c tb15, cLb15_2377_1 c tb11, [cb p8 (natC (cfC c (Value.slice gf4.a fx.length gf4.cap)) (Value.slice none 0 0) (pV tb11 0) (pV tb15 0) (fun _ => none) (pV wb7 0) (Value.pointer none) (iV .u64 0)) 91], [cb wb7 zl10 150], gf4.seg 65 (mm fwv fx), cLb15_2377_0 c fa fc p1 fx]) (Mi := []) (Lo := fun tb19 => [cLb15_2377_3 c tb19, cLb15_2377_2 c tb15, cLb15_2377_1 c tb11, [cb p8 (natC (cfC c (Value.slice gf4.a fx.length gf4.cap)) (Value.slice none 0 0) (pV tb11 0) (pV tb15 0) (fun _ => none) (pV wb7 0) (Value.pointer none) (iV .u64 0)) 91], [cb wb7 zl10 150], gf4.seg 65 (mm fwv fx), cLb15_2377_0 c fa fc p1 fx]) [] [0, 1, 2, 3, 4, 5] rfl (fun _ => kr) ma2 rfl rfl rfl (fun w_ hm_ hl_ => (newN_c c.ms _)) (fun _ => rfl)) (fun tb19 _ => Wl.run 2 ma0 (Wl.ht rfl (Ht.store (b := p8) (o' := 288) (i := 3) (j := 0) (cs := natC (cfC c (Value.slice gf4.a fx.length gf4.cap)) (Value.slice none 0 0) (pV tb11 0) (pV tb15 0) (fun _ => none) (pV wb7 0) (Value.pointer none) (iV .u64 0)) (cs' := natC (cfC c (Value.slice gf4.a fx.length gf4.cap)) (Value.slice none 0 0) (pV tb11 0) (pV tb15 0) (fun _ => none) (pV wb7 0) (pV tb19 0) (iV .u64 0)) (v := pV tb19 0) (LL' := [cLb15_2377_3 c tb19, cLb15_2377_2 c tb15, cLb15_2377_1 c tb11, [cb p8 (natC (cfC c (Value.slice gf4.a fx.length gf4.cap)) (Value.slice none 0 0) (pV tb11 0) (pV tb15 0) (fun _ => none) (pV wb7 0) (pV tb19 0) (iV .u64 0)) 91], [cb wb7 zl10 150], gf4.seg 65 (mm fwv fx), cLb15_2377_0 c fa fc p1 fx]) rfl rfl ma0 ma0 Tryz.sizeOf89 rfl rfl rfl (by rw [natC_len rfl]; decide) ((natC_set_hi rfl 1).trans rfl) rfl) (fun _ => ?_)))))
 refine Wl.nil (hK18 _ _ _ (W.pick (LL' := [cLb15_2377_3 c tb19, cLb15_2377_2 c tb15, cLb15_2377_1 c tb11, [cb p8 (natC (cfC c (Value.slice gf4.a fx.length gf4.cap)) (Value.slice none 0 0) (pV tb11 0) (pV tb15 0) (fun _ => none) (pV wb7 0) (pV tb19 0) (iV .u64 0)) 91], [cb wb7 zl10 150], gf4.seg 65 (mm fwv fx)]) [0, 1, 2, 3, 4, 5] ma2 rfl (W.prune' [3] [pV p8 0] ma0 (fun f21 => W.seq (fun K22 hK22 => ?_)))))
 refine W.region (Wl.run 1 ma0 (Wl.htS rfl (HtS.call (β := Nat → Option Nat) (k := 36) (args := #[pV p8 0]) (Lin := [[cb p8 (natC (cfC c (Value.slice gf4.a fx.length gf4.cap)) (Value.slice none 0 0) (pV tb11 0) (pV tb15 0) (fun _ => none) (pV wb7 0) (pV tb19 0) (iV .u64 0)) 91], gf4.seg 65 (mm fwv fx), cLb15_2377_1 c tb11, cLb15_2377_3 c tb19, cLb15_2377_2 c tb15, [cb wb7 zl10 150]]) (Lk := []) (Lo := fun tk23 => [NG (⟨p8, tb11, tb15, tb19, wb7, gf4, c, fx, imax c.ms 0⟩ : NK) (stQ ns0 tk23 (tkn (fxP fx ++ msP [] ++ zsP [])))]) [3, 5, 2, 0, 1, 4] [] rfl (fun _ => kr) ma2 rfl rfl rfl (fun w_ hm_ hl_ => (reserve_n (⟨p8, tb11, tb15, tb19, wb7, gf4, c, fx, imax c.ms 0⟩ : NK) ns0 _ _ (nok_new okf5 hfn hms) (Mem.flat (((List.append_nil (NG (⟨p8, tb11, tb15, tb19, wb7, gf4, c, fx, imax c.ms 0⟩ : NK) ns0)).trans (ng_new _ _ _ _ _ _ _ _ _)).symm) hl_) hF.rs (fun _ h_ => by cases h_) (fun _ h_ => by cases h_) hf0 rfl)) (fun _ => rfl)) (fun tk23 ok24 => Wl.nil (hK22 _ _ _ ?_))))
 refine W.prune' [3] [pV p8 0] ma0 (fun f26 => W.seq (fun K27 hK27 => ?_))
 refine W.region (Wl.run 2 ma0 (Wl.nil (hK27 _ _ _ (W.prune' [2] [pV p8 0] ma0 (fun f28 => ?_)))))
 refine W.ret ?_
 show ∀ w_, _ → bodyPostM (fence none) 0 Tryz.prog Tryz.f10 _ Exit.ret _ w_
 exact fun w_ hS_ => fin_ret (ret1 rfl (RV.tmp (v := pV p8 0) ma0) hS_ ⟨((⟨p8, tb11, tb15, tb19, wb7, gf4, c, fx, imax c.ms 0⟩ : NK), (stQ ns0 tk23 (tkn (fxP fx ++ msP [] ++ zsP [])))), newp ok24 hF hU, rfl, (hS_.pick [0] ma2 rfl)⟩)
end Go.Proofs.YtmonlaoaengfdaaGreatDoor.Oct
namespace Go.Proofs.YtmonlaoaengfdaaGreatDoor.Oct
open Go.RowKit Base
attribute [local irreducible] Ys Yc Ht HtS HtIn Wl Wd W Mem pf dpf Wa Wo
open Conf (Fwd fwv)
structure DgP (s d : Nat) (xs : List UInt8) (fr to : Nat) : Prop where
  hs : s < 4294967296
  hd : d < 4294967296
  hl : xs.length ≤ 1480
  hr : uR s d xs = 0
  hf : uF s d xs 0 = fr
  ht : uF s d xs 2 = to
  hfb : fr < 65536
  htb : to < 65536
theorem ub_dg {s d fr to : Nat} {pl : Bool} {ys : List UInt8} (hs : s < 4294967296) (hd : d < 4294967296) (hf : fr < 65536) (ht : to < 65536) (hx : ys.length ≤ 1472) : DgP s d (uB s d fr to pl ys) fr to := by
  have h1 : uE ys.length = 0 := by unfold uE; rw [if_neg ma1]
  have h2 : (uB s d fr to pl ys).length = 8 + ys.length := uB_len ma1
  have h3 := td_back (s := s) (d := d) (pl := pl) (ys := []) hf ht h1 (by rw [h2]; simp; omega)
  rw [List.append_nil] at h3
  simp only [Bool.and_eq_true, beq_iff_eq] at h3
  exact ⟨hs, hd, by omega, h3.1, by have := h3.2.1.1.1; omega, by have := h3.2.1.1.2; omega, hf, ht⟩
theorem uD_le {s d : Nat} {xs : List UInt8} (h : xs.length ≤ 1480) : (uD s d xs).length ≤ 1472 := by
  unfold uD; cases ug s d xs
  · simp
  · simp only [cond_true, List.length_take, List.length_drop]; omega
def dgU (s d : Nat) (xs : List UInt8) (g : FlwT) : List UInt8 := uB g.2.1.toNat g.2.2.1.toNat g.2.2.2.1.toNat g.2.2.2.2.toNat (uP s d xs) (uD s d xs)
def dgF (s d : Nat) (xs : List UInt8) (g : FlwT) (x : FS) : Prop := x.ok 1 (dgU s d xs g).length
def dgV (ttl pid : Int) (s d : Nat) (xs : List UInt8) (g : FlwT) (x : FS) : PkV := ⟨ttl, 17, pid, g.2.1, g.2.2.1, x.a, (dgU s d xs g).length, x.cap⟩
def dgS (s d : Nat) (xs : List UInt8) (g : FlwT) (x : FS) : List Blk := x.seg 5 (mc b8 (dgU s d xs g))
section
variable {w : World} {M : List Nat} {ttl pid : Int} {s d : Nat} {xs : List UInt8} {a : Option Addr} {cap fr to : Nat}
theorem dg_of (h : DgP s d xs fr to) (hlc : xs.length ≤ cap) (hat : ∀ LL w1, Mem w M LL w1 → At w1 a (byc xs)) : ∀ LL w1, Mem w M LL w1 → Calls Tryz.prog 41 #[pkG ttl 17 pid (s : Int) (d : Int) a xs.length cap] w1 (Ret w1 (.tuple #[.agg [.int .u8 ((17 : Nat) : Int), .int .u32 (s : Int), .int .u32 (d : Int), .int .u16 (fr : Int), .int .u16 (to : Int)].toArray, .int .i64 1, .int .i64 0])) := fun LL w1 hm => by
  have z := ofU_c ttl pid s d xs a cap w1 (hat LL w1 hm) h.hs h.hd (by have := h.hl; omega) hlc h.hr
  rw [h.hf, h.ht] at z
  exact z
theorem dg_bg (h : DgP s d xs fr to) : ∀ LL w1, Mem w M LL w1 → Calls Tryz.prog 99 #[pkG ttl 17 pid (s : Int) (d : Int) a xs.length cap] w1 (Ret w1 (.bool true)) := fun LL w1 hm => beginsU_c ttl pid (s : Int) (d : Int) a xs.length cap w1
theorem dg_fl (h : DgP s d xs fr to) : ∀ LL w1, Mem w M LL w1 → Calls Tryz.prog 88 #[pkG ttl 17 pid (s : Int) (d : Int) a xs.length cap] w1 (Ret w1 (.tuple #[.int .u8 0, .bool false])) := fun LL w1 hm => flagsU_c ttl pid (s : Int) (d : Int) a xs.length cap w1
theorem dg_rw (h : DgP s d xs fr to) (hlc : xs.length ≤ cap) (hat : ∀ LL w1, Mem w M LL w1 → At w1 a (byc xs)) : ∀ g LL w1, Mem w M LL w1 → RngFl g → g.1 = ((17 : Nat) : Int) → Calls Tryz.prog 45 #[pkG ttl 17 pid (s : Int) (d : Int) a xs.length cap, flV g] w1 (RetM w1 (fun x : FS => dgF s d xs g x) (fun x => .tuple #[(dgV ttl pid s d xs g x).v, .int .i64 ((fun _ : FlwT => (0 : Int)) g)]) [] (fun x => [dgS s d xs g x])) := fun g LL w1 hm hg hp => by
  obtain ⟨g1, g2, g3, g4, g5⟩ := g
  obtain ⟨⟨a1, b1⟩, ⟨a2, b2⟩, ⟨a3, b3⟩, ⟨a4, b4⟩, ⟨a5, b5⟩⟩ := hg
  obtain ⟨q2, rfl⟩ := Int.eq_ofNat_of_zero_le a2
  obtain ⟨q3, rfl⟩ := Int.eq_ofNat_of_zero_le a3
  obtain ⟨q4, rfl⟩ := Int.eq_ofNat_of_zero_le a4
  obtain ⟨q5, rfl⟩ := Int.eq_ofNat_of_zero_le a5
  simp only at hp b2 b3 b4 b5
  subst hp
  exact rewriteU_c ttl pid s d xs a cap q2 q3 q4 q5 w1 (hat LL w1 hm) h.hs h.hd (by have := h.hl; omega) hlc h.hr ma1 ma1 ma1 ma1 (uD_le h.hl)
theorem sent_dg (h : DgP s d xs fr to) {g : FlwT} {cd : Int} {pv : PkV} {bl : List Blk} (hg : RngFl g) (hS : Sent (dgF s d xs) (dgV ttl pid s d xs) (fun _ => 0) (dgS s d xs) g cd pv bl) : cd = 0 ∧ ∃ (x : FS) (ys : List UInt8), x.ok 1 ys.length ∧ pv = ⟨ttl, 17, pid, g.2.1, g.2.2.1, x.a, ys.length, x.cap⟩ ∧ bl = x.seg 5 (mc b8 ys) ∧ DgP g.2.1.toNat g.2.2.1.toNat ys g.2.2.2.1.toNat g.2.2.2.2.toNat := by
  obtain ⟨hc, x, hx, hp, hb⟩ := hS
  obtain ⟨⟨a1, b1⟩, ⟨a2, b2⟩, ⟨a3, b3⟩, ⟨a4, b4⟩, ⟨a5, b5⟩⟩ := hg
  exact ⟨hc, x, dgU s d xs g, hx, hp, hb, ub_dg ma1 ma1 ma1 ma1 (uD_le h.hl)⟩
end
theorem app_at {L R : List (List Blk)} (j : Nat) : (L ++ R)[L.length + j]? = R[j]? := by rw [List.getElem?_append_right ma1, Nat.add_sub_cancel_left]
end Go.Proofs.YtmonlaoaengfdaaGreatDoor.Oct
namespace Go.Proofs.YtmonlaoaengfdaaGreatDoor.Oct
open Go.RowKit Base
attribute [local irreducible] Ys Yc Ht HtS HtIn Wl Wd W Mem pf dpf Wa Wo
open Conf (Fwd fwv)
theorem pk_fst {T : Nat → Bool} (h : T 1024 = false) : pk T 0 = 1024 := by
  have h1 : nf T (1024 + 0 % 64512) = 1024 := nf_stop ma2 h
  unfold pk; rw [h1]; rfl
theorem pk_snd {T : Nat → Bool} (h : T 1024 = true) (h2 : T 1025 = false) : pk T 0 = 1025 := by
  have h1 : nf T (1024 + 0 % 64512) = 1025 := (nf_step (p := 1024) ma2 h).trans (nf_stop ma2 h2)
  unfold pk; rw [h1]; rfl
theorem InvA.xes {k : NK} {p : NP} {o : Option Int} (h : InvA k p o) : p.xs.length = p.es.length := by rw [h.tie, List.length_map]
theorem Inv.zs {k : NK} {s : NS} (hI : Inv k s) (t : EndT) : hasK s.p.zs t = true ↔ ∃ x ∈ s.p.es, x.2.given = true ∧ endF (flE x.2) = t := by
  constructor
  · intro h
    obtain ⟨_, h1, _, _⟩ := hI.a.lse _ _ (getK_in (v0 := (⟨0, 0⟩ : Lse)) h)
    obtain ⟨x, hx, hg⟩ := cntE_pos (t := t) (es := s.p.es) ma1
    exact ⟨x, hx, gvE_iff.1 hg⟩
  · rintro ⟨x, hx, hg, rfl⟩; exact hI.a.lsi x hx hg
theorem Inv.zx {k : NK} {s : NS} (hI : Inv k s) {t : EndT} {x : Nat × SesE} (hx : x ∈ s.p.es) (hg : x.2.given = true) (ht : endF (flE x.2) = t) : (getK (⟨0, 0⟩ : Lse) s.p.zs t).ext = x.2.ext := by
  have h := (hI.zs t).2 ⟨x, hx, hg, ht⟩
  exact ((hI.a.lse _ _ (getK_in (v0 := (⟨0, 0⟩ : Lse)) h)).2.2.2 x hx (gvE_iff.2 ⟨hg, ht⟩)).symm
theorem Inv.tt {k : NK} {s : NS} (hI : Inv k s) (hms : s.p.ms = []) (hfx : k.fx = []) {p q : Nat} (hq : 1024 ≤ q) : s.p.TT p q = true ↔ ∃ x ∈ s.p.es, x.2.given = true ∧ x.2.pr = (p : Int) ∧ x.2.ext = (q : Int) := by
  rw [hI.b.tks, hms, hfx]
  show tkn (zsP s.p.zs) p q = true ↔ _
  unfold tkn
  rw [Bool.and_eq_true, decide_eq_true_eq, List.any_eq_true]
  constructor
  · rintro ⟨_, x, hx, he⟩
    rw [Bool.and_eq_true, beq_iff_eq, beq_iff_eq] at he
    obtain ⟨t, l, hz, rfl⟩ := zsP_mem.1 hx
    obtain ⟨_, h1, _, h4⟩ := hI.a.lse t l hz
    obtain ⟨y, hy, hg⟩ := cntE_pos (t := t) (es := s.p.es) ma1
    refine ⟨y, hy, (gvE_iff.1 hg).1, ?_, ?_⟩
    · rw [← he.1, ← (gvE_iff.1 hg).2]; rfl
    · rw [h4 y hy hg]; exact he.2
  · rintro ⟨x, hx, hg, hp, he⟩
    have h := hI.a.lsi x hx hg
    refine ⟨hq, _, zsP_mem.2 ⟨_, _, getK_in (v0 := (⟨0, 0⟩ : Lse)) h, rfl⟩, ?_⟩
    rw [Bool.and_eq_true, beq_iff_eq, beq_iff_eq]
    exact ⟨hp, by rw [hI.zx hx hg rfl]; exact he⟩
theorem out_new {β : Type} {Φr : FlwT → β → Prop} {rv : FlwT → β → PkV} {re : FlwT → Int} {rs : FlwT → β → List Blk} {k : NK} {s r : NS} {f : FlwT} {src now cd : Int} {qu : Bool} {dr : Nat} {pv : PkV} {bl : List Blk} (hI : Inv k s) (hms : s.p.ms = []) (hfx : k.fx = [])
    (hroom : (s.p.es.length : Int) < k.mo) (hno : ∀ x ∈ s.p.es, flE x.2 ≠ f) (hO : OutR Φr rv re rs k s f src 1 0 true qu dr now r cd pv bl) {ext : Int}
    (hx : (∃ x ∈ s.p.es, x.2.given = true ∧ endF (flE x.2) = endF f ∧ x.2.ext = ext) ∨ ((∀ x ∈ s.p.es, x.2.given = true → endF (flE x.2) ≠ endF f) ∧ pk (s.p.TT f.1.toNat) dr < 65536 ∧ ext = (pk (s.p.TT f.1.toNat) dr : Int))) :
    ∃ A B b e', s.p.es = A ++ B ∧ RenE (nwE f ext s.p.lst true) now true e' ∧ r.p.es = A ++ (b, e') :: B ∧ Sent Φr rv re rs (f.1, k.c.wan, f.2.2.1, ext, f.2.2.2.2) cd pv bl := by
  have hru : ruleV s.p.ms k.fx f = none := by rw [hms, hfx]; rfl
  have hxl := hI.a.xes
  cases hO with
  | no hcd hes why =>
    exfalso
    rcases why with h | ⟨h, _⟩ | ⟨h, _⟩ | ⟨_, _, h | h | ⟨_, h1, h2⟩⟩
    · exact h rfl
    · cases h
    · cases h
    · cases h
    · omega
    · rcases hx with ⟨x, hx, hg, ht, _⟩ | ⟨_, h, _⟩
      · rw [(hI.zs (endF f)).2 ⟨x, hx, hg, ht⟩] at h1; cases h1
      · exact h2 h
  | err ho hk => cases hk
  | old ho hk hq A B b e e' he hf => exact absurd hf (hno (b, e) (by rw [he]; simp))
  | new ho hk hq hno' ext' gv hox A B b e' he hr hes hs =>
    have hev : ext' = ext ∧ gv = true := by
      rcases hox with ⟨h, _⟩ | ⟨_, hg, hz, rfl⟩ | ⟨_, hg, hz, hp, rfl⟩
      · rw [hru] at h; cases h
      · refine ⟨?_, hg⟩
        rcases hx with ⟨x, hx, hg, ht, hxe⟩ | ⟨hn, _, _⟩
        · rw [hI.zx hx hg ht]; exact hxe
        · obtain ⟨x, hx, hg, ht⟩ := (hI.zs (endF f)).1 hz
          exact absurd ht (hn x hx hg)
      · refine ⟨?_, hg⟩
        rcases hx with ⟨x, hx, hg, ht, hxe⟩ | ⟨_, h, rfl⟩
        · rw [(hI.zs (endF f)).2 ⟨x, hx, hg, ht⟩] at hz; cases hz
        · unfold pkV; rw [if_pos hp]
    obtain ⟨rfl, rfl⟩ := hev
    exact ⟨A, B, b, e', he, hr, hes, hs⟩
theorem RenE.nw {f : FlwT} {ext id now : Int} {gv out : Bool} {e : SesE} (h : RenE (nwE f ext id gv) now out e) : flE e = f ∧ e.ext = ext ∧ e.given = gv ∧ e.pr = f.1 ∧ endF (flE e) = endF f := by
  have hf : flE e = f := by unfold flE; rw [h.pr, h.src, h.dst, h.frm, h.dto]; rfl
  exact ⟨hf, h.ext, h.given, h.pr, by rw [hf]⟩
end Go.Proofs.YtmonlaoaengfdaaGreatDoor.Oct
namespace Go.Proofs.YtmonlaoaengfdaaGreatDoor.Base
open Go.RowKit
section
variable {P : Program} {n : Nat} {f : Nat → Value} {o : Oper} {v : Value} {d : Nat} {w0 w : World} {M : List Nat} {LL LL' : List (List Blk)} {s : List Blk} {i j b : Nat}
abbrev cz (b : Nat) (cs : List Value) (t : TypeId) : Blk := ⟨b, .cells cs.toArray t (cs.length, cs.length + 1)⟩
theorem At.cz {cs : List Value} {t : TypeId} (hm : Mem w0 M LL w) (hi : LL[i]? = some s) (hj : s[j]? = some (cz b cs t)) : At w (some ⟨b, 0, none⟩) cs := by
  have hb := hm.at hi hj
  refine ⟨fun _ => rfl, fun q v hv => ?_⟩
  simp only [Option.getD_some]
  rw [add_lit, Nat.zero_add]
  simp only at hb
  simp [World.cell?, hb, hv]
theorem Ht.stringish {t e ty : TypeId} {x : Operand} {len cap : Nat} {cs : List Value} (hd : o.dst = some d) (hop : o.op = .convert t t x) (hx : ev n f x = .slice (some ⟨b, 0, none⟩) len cap) (ht : P.underlying t = some (.slice e)) (he : P.underlying e = some (.int .u8))
    (hi : LL[i]? = some s) (hj : s[j]? = some (cb b cs ty)) (hL : LL.set i (s.set j (cz b cs ty)) = LL') :
    Ht (β := Unit) P n (Mem w0 M LL) f o (fun _ => upd f d (.slice (some ⟨b, 0, none⟩) len cap)) (fun _ => Mem w0 M LL') := fun ds w hS K hK => by
  have hb := hS.at hi hj
  simp only at hb
  have hsh : w.shape? b = some (ty, cs.length) := by unfold World.shape?; rw [hb]; simp
  have h1 : (execOp (ev n f) o).run P w = .ok (.value (.slice (some ⟨b, 0, none⟩) len cap)) (w.freeze ⟨b, cs.length, none⟩ 1) := by
    simp [execOp, hop, hx, convert, run_underlying ht, run_underlying he, markStringish, hsh]
  have hm : Mem w0 M LL' (w.freeze ⟨b, cs.length, none⟩ 1) := by
    subst hL
    obtain ⟨k, hk, hset⟩ := seg_flat LL i j s _ hi hj
    unfold Mem
    rw [hset]
    refine Mem0.putO hS hk rfl rfl rfl (by simp [World.freeze]) (fun k' _ hk' => ?_) ?_
    · simp only [World.freeze, if_neg (show ¬ (1 : Nat) = 0 by decide), Array.getElem?_modify]; rw [if_neg (by omega)]
    · simp only [World.freeze, if_neg (show ¬ (1 : Nat) = 0 by decide), Array.getElem?_modify, if_true, hb]
      simp
  unfold Oper.wp
  rw [Fr_eval, h1]
  simp only [Oper.upon, hd, Fr_put]
  exact hK () _ hm
end
end Go.Proofs.YtmonlaoaengfdaaGreatDoor.Base
namespace Go.Proofs.YtmonlaoaengfdaaGreatDoor.Oct
open Go.RowKit Base
attribute [local irreducible] Ys Yc Ht HtS HtIn Wl Wd W Mem pf dpf Wa Wo
open Conf (Fwd fwv)
theorem len_n (k : NK) (s : NS) (M : List Nat) (w : World) (ok : NOk k s) (hl : Mem w M [NG k s] w) : Calls Tryz.prog 15 #[Value.pointer (some ⟨k.nb, 0, none⟩)] w (RetM w (fun _ : Unit => True) (fun _ => .int .i64 (s.p.xs.length : Int)) M (fun _ => [NG k s])) := by
 obtain ⟨lxs, lys, lzs, lms, lfs⟩ := NOk.len ok
 refine calls_W (M := M) (LL := [NG k s]) (n := 8) Tryz.func15 rfl rfl ma6 (hl) (W.seq (fun K1 hK1 => ?_))
 refine W.region (Wl.run 1 ma0 (Wl.nil (hK1 _ _ _ (W.seq (fun K2 hK2 => ?_)))))
 refine W.region (Wl.run 3 ma0 (Wl.ys rfl rfl (Ys.load (b := k.nb) (o' := 29) (i := 0) (j := 0) (cs := natL k s) (v := Value.pointer (some ⟨k.ts, 0, none⟩)) rfl ma0 Tryz.isAgg85 rfl rfl ((natC_lo rfl ma2).trans rfl)) (Wl.yc (v := nV .i64 s.p.xs.length) rfl rfl (Yc.call (fun _ => kr) (fun w_ hm_ => (lenS_c s.p.xs s.gs.a s.gs.cap k.mo k.ts  _ (NG.atS (i := 0) hm_ rfl) (NG.xs (i := 0) hm_ rfl ok) ma12 ok.hxs))) (Wl.run 1 ma0 ?_))))
 refine Wl.nil (hK2 _ _ _ (W.prune' [2] [nV .i64 s.p.xs.length] ma0 (fun f3 => W.ret ?_)))
 show ∀ w_, _ → bodyPostM (fence none) 0 Tryz.prog Tryz.f15 _ Exit.ret _ w_
 exact fun w_ hS_ => fin_ret (ret1 rfl (RV.tmp (v := nV .i64 s.p.xs.length) ma0) hS_ ⟨(), trivial, rfl, (hS_.pick [0] ma2 rfl)⟩)
abbrev cLb17_2448_0 (p8 : Nat) : List Blk := [cb p8 zl0 40]
theorem datagram_c (s d fr to : Nat) (w : World) (hs : s < 4294967296) (hd : d < 4294967296) (hf : fr < 65536) (ht : to < 65536) : Calls Tryz.prog 13 #[nV .u32 s, nV .u32 d, nV .u16 fr, nV .u16 to] w (RetM w (fun r : FS × List UInt8 => r.1.ok 1 r.2.length ∧ DgP s d r.2 fr to) (fun r => pkG 9 17 0 (s : Int) (d : Int) r.1.a r.2.length r.1.cap) [] (fun r => [r.1.seg 5 (mc b8 r.2)])) := by
 refine calls_W (M := []) (LL := []) (n := 26) Tryz.func13 rfl rfl ma6 (Mem.refl _) (W.seq (fun K1 hK1 => ?_))
 refine W.region (Wl.ht rfl (Ht.alloc (z := aV zl0) (cs := zl0) rfl rfl Tryz.zeroValue40 rfl) (fun p8 => ?_))
 refine Wl.nil (hK1 _ _ _ (W.seq (fun K2 hK2 => W.region (Wl.run 4 ma0 ?_))))
 refine Wl.ht rfl (Ht.made (mk := fun b_ => .slice (some ⟨b_, 0, none⟩) 1 1) (t := 5) (cs := [iV .u8 120]) rfl (fun _ => kr)) (fun p16 => Wl.ht rfl (Ht.stringish (b := p16) (e := 5) (ty := 5) (len := 1) (cap := 1) (i := 0) (j := 0) (cs := [iV .u8 120]) (LL' := [[cz p16 [iV .u8 120] 5], cLb17_2448_0 p8]) rfl rfl ma0 ma0 ma0 rfl rfl rfl) (fun _ => ?_))
 refine Wl.run 1 ma0 ?_
 have hl6 := uB_le s d fr to false [(120 : UInt8)]
 refine Wl.htS rfl (HtS.call (β := FS) (k := 49) (args := #[nV .u32 s, nV .u32 d, aV [nV .u16 fr, nV .u16 to, bV false, Value.slice (some ⟨p16, 0, none⟩) 1 1]]) (Lin := []) (Lk := [[cz p16 [iV .u8 120] 5], cLb17_2448_0 p8]) (Mi := []) (Lo := fun g3 => [g3.seg 5 (mc b8 (uB s d fr to false [(120 : UInt8)])), [cz p16 [iV .u8 120] 5], cLb17_2448_0 p8]) [] [0, 1] rfl (fun _ => kr) ma2 rfl rfl rfl (fun w_ hm_ hl_ => (rwudpn_c s d fr to false [(120 : UInt8)] (some ⟨p16, 0, none⟩) 1 1 _ ma19 (At.cz (i := 0) (j := 0) (t := 5) (b := p16) hm_ rfl rfl) ma1 ma1 ma1 ma1 ma5 ma5)) (fun _ => rfl)) (fun g3 ok4 => Wl.run 5 ma0 (Wl.nil (hK2 _ _ _ (W.pick (LL' := [g3.seg 5 (mc b8 (uB s d fr to false [(120 : UInt8)])), cLb17_2448_0 p8]) [0, 2] ma2 rfl ?_))))
 refine W.prune' [0, 1, 8, 9] [nV .u32 s, nV .u32 d, pV p8 0, sV g3 ((uB s d fr to false [(120 : UInt8)]).length)] ma0 (fun f7 => W.seq (fun K8 hK8 => ?_))
 refine W.region (Wl.run 4 ma0 (Wl.ht rfl (Ht.storeN (b := p8) (o' := 0) (i := 1) (j := 0) (vs := [iV .u8 9, iV .u8 17, iV .u16 0, nV .u32 s, nV .u32 d, sV g3 ((uB s d fr to false [(120 : UInt8)]).length)]) (LL' := [g3.seg 5 (mc b8 (uB s d fr to false [(120 : UInt8)])), [cb p8 [iV .u8 9, iV .u8 17, iV .u16 0, nV .u32 s, nV .u32 d, sV g3 ((uB s d fr to false [(120 : UInt8)]).length)] 40]]) rfl rfl ma0 ma0 Tryz.sizeOf40 ma7 rfl rfl ma6 rfl rfl) (fun _ => Wl.nil (hK8 _ _ _ ?_))))
 refine W.prune' [8] [pV p8 0] ma0 (fun f9 => W.ret ?_)
 show ∀ w_, _ → bodyPostM (fence none) 0 Tryz.prog Tryz.f13 _ Exit.ret _ w_
 exact fun w_ hS_ => fin_ret (ret1 rfl (RV.cellN (b := p8) (o' := 0) (i := 1) (j := 0) (cs := [iV .u8 9, iV .u8 17, iV .u16 0, nV .u32 s, nV .u32 d, sV g3 ((uB s d fr to false [(120 : UInt8)]).length)]) (vs := [iV .u8 9, iV .u8 17, iV .u16 0, nV .u32 s, nV .u32 d, sV g3 ((uB s d fr to false [(120 : UInt8)]).length)]) ma0 Tryz.isAgg40 Tryz.sizeOf40 rfl rfl rfl rfl) hS_ ⟨(g3, uB s d fr to false [(120 : UInt8)]), ⟨ok4, ub_dg (pl := false) (ys := [(120 : UInt8)]) hs hd hf ht ma2⟩, rfl, (hS_.pick [0] ma2 rfl)⟩)
theorem dof_dg {ttl pid : Int} {s d : Nat} {xs : List UInt8} {a : Option Addr} {cap fr to : Nat} {w : World} (h : DgP s d xs fr to) (hlc : xs.length ≤ cap) (hat : At w a (byc xs)) : Calls Tryz.prog 14 #[pkG ttl 17 pid (s : Int) (d : Int) a xs.length cap] w (Ret w (.tuple #[.agg [.int .u8 17, .int .u32 (s : Int), .int .u32 (d : Int), .int .u16 (fr : Int), .int .u16 (to : Int)].toArray, .int .i64 1, .int .i64 0])) := by
  have z := dofU_c ttl pid s d xs a cap w hat h.hs h.hd (by have := h.hl; omega) hlc h.hr
  rw [h.hf, h.ht] at z
  exact z
theorem dg_rng {s d fr to : Nat} {xs : List UInt8} (h : DgP s d xs fr to) : RngFl (((17 : Nat) : Int), (s : Int), (d : Int), (fr : Int), (to : Int)) := by
  have h1 := h.hs; have h2 := h.hd; have h3 := h.hfb; have h4 := h.htb
  refine ⟨⟨?_, ?_⟩, ⟨?_, ?_⟩, ⟨?_, ?_⟩, ⟨?_, ?_⟩, ?_, ?_⟩ <;> (show _ ≤ _; dsimp only; omega)
end Go.Proofs.YtmonlaoaengfdaaGreatDoor.Oct
