import Derived.Test.YtmonlaoaengfdaaGreatDoorM16
set_option linter.unusedVariables false
set_option linter.unusedSimpArgs false
set_option maxRecDepth 20000
namespace Go.Proofs.YtmonlaoaengfdaaGreatDoor.Oct
open Go.RowKit Base
attribute [local irreducible] Ys Yc Ht HtS HtIn Wl Wd W Mem pf dpf Wa Wo
open Conf (Fwd fwv)
theorem flagsU_c (ttl pid src dst : Int) (ba : Option Addr) (bl bc : Nat) (w : World) : Calls Tryz.prog 88 #[aV [iV .u8 ttl, iV .u8 17, iV .u16 pid, iV .u32 src, iV .u32 dst, Value.slice ba bl bc]] w (Ret w (.tuple #[.int .u8 0, .bool false])) := by
 refine calls_W (M := []) (LL := []) (n := 21) Tryz.func88 rfl rfl ma6 (Mem.refl _) (W.seq (fun K1 hK1 => ?_))
 refine W.region (Wl.ht rfl (Ht.box (v := aV [iV .u8 ttl, iV .u8 17, iV .u16 pid, iV .u32 src, iV .u32 dst, Value.slice ba bl bc]) (cs := [iV .u8 ttl, iV .u8 17, iV .u16 pid, iV .u32 src, iV .u32 dst, Value.slice ba bl bc]) rfl rfl ma0 rfl) (fun p1 => ?_))
 refine Wl.run 2 ma0 (Wl.nil (hK1 _ _ _ (W.prune' [1] [pV p1 0] ma0 (fun f2 => W.seq (fun K3 hK3 => ?_)))))
 refine W.seq (fun K4 hK4 => W.region (Wl.run 1 ma0 (Wl.ys rfl rfl (Ys.l1 p1 1 0 0 Tryz.isAgg5) (Wl.run 1 ma0 ?_))))
 refine Wl.nil (hK4 _ _ _ (W.prune' [1, 8] [pV p1 0, bV true] ma0 (fun f5 => W.condT ma0 (W.seq (fun K6 hK6 => ?_)))))
 refine W.region (Wl.run 2 ma0 (Wl.nil (hK6 _ _ _ (W.pick (LL' := []) [] ma2 rfl ?_))))
 refine W.prune' [2, 3] [iV .u8 0, bV false] ma0 (fun f7 => W.ret ?_)
 show ∀ w_, _ → bodyPostM (fence none) 0 Tryz.prog Tryz.f88 _ Exit.ret _ w_
 exact fun w_ hS_ => fin_ret (ret2 rfl (RV.tmp (v := iV .u8 0) ma0) (RV.tmp (v := bV false) ma0) hS_ ⟨rfl, hS_.below⟩)
theorem beginsU_c (ttl pid src dst : Int) (ba : Option Addr) (bl bc : Nat) (w : World) : Calls Tryz.prog 99 #[aV [iV .u8 ttl, iV .u8 17, iV .u16 pid, iV .u32 src, iV .u32 dst, Value.slice ba bl bc]] w (Ret w (.bool true)) := by
 refine calls_W (M := []) (LL := []) (n := 16) Tryz.func99 rfl rfl ma6 (Mem.refl _) (W.seq (fun K1 hK1 => ?_))
 refine W.region (Wl.ht rfl (Ht.box (v := aV [iV .u8 ttl, iV .u8 17, iV .u16 pid, iV .u32 src, iV .u32 dst, Value.slice ba bl bc]) (cs := [iV .u8 ttl, iV .u8 17, iV .u16 pid, iV .u32 src, iV .u32 dst, Value.slice ba bl bc]) rfl rfl ma0 rfl) (fun p1 => ?_))
 refine Wl.run 1 ma0 (Wl.nil (hK1 _ _ _ (W.prune' [1] [pV p1 0] ma0 (fun f2 => W.seq (fun K3 hK3 => ?_)))))
 refine W.region (Wl.ys rfl rfl (Ys.loadN (b := p1) (o' := 0) (i := 0) (j := 0) (vs := [iV .u8 ttl, iV .u8 17, iV .u16 pid, iV .u32 src, iV .u32 dst, Value.slice ba bl bc]) rfl ma0 Tryz.isAgg40 Tryz.sizeOf40 rfl rfl rfl rfl) (Wl.yc (v := Value.tuple #[iV .u8 0, bV false]) rfl rfl (Yc.call (fun _ => kr) (fun w_ hm_ => (flagsU_c ttl pid src dst ba bl bc _))) (Wl.run 5 ma0 (Wl.nil ?_))))
 refine hK3 _ _ _ (W.pick (LL' := []) [] ma2 rfl (W.prune' [3, 4] [iV .u8 0, bV false] ma0 (fun f4 => W.seq (fun K5 hK5 => W.region ?_))))
 refine Wl.run 3 ma0 (Wl.skip ma0 rfl (Wl.skip ma0 rfl (Wl.run 2 ma0 (Wl.nil ?_))))
 refine hK5 _ _ _ (W.prune' [2] [bV true] ma0 (fun f6 => ?_))
 refine W.ret ?_
 show ∀ w_, _ → bodyPostM (fence none) 0 Tryz.prog Tryz.f99 _ Exit.ret _ w_
 exact fun w_ hS_ => fin_ret (ret1 rfl (RV.tmp (v := bV true) ma0) hS_ ⟨rfl, hS_.below⟩)
structure SesE where
  (pr src dst frm dto ext ends : Int)
  lan : Bool
  (s0 s1 s2 s3 s4 : Bool)
  id : Int
  given : Bool
def sesC (x : SesE) : List Value := [.int .u8 x.pr, .int .u32 x.src, .int .u32 x.dst, .int .u16 x.frm, .int .u16 x.dto, .int .u16 x.ext, .int .u64 x.ends, .bool x.lan, .bool x.s0, .bool x.s1, .bool x.s2, .bool x.s3, .bool x.s4, .int .u64 x.id, .bool x.given]
def endU (now : Int) : Int := bif decide (iadd .u64 now 300 < now) then 18446744073709551615 else iadd .u64 now 300
end Go.Proofs.YtmonlaoaengfdaaGreatDoor.Oct
namespace Go.Proofs.YtmonlaoaengfdaaGreatDoor.Oct
open Go.RowKit Base
attribute [local irreducible] Ys Yc Ht HtS HtIn Wl Wd W Mem pf dpf Wa Wo
open Conf (Fwd fwv)
structure Mpg where
  proto : Int
  ext : Int
  to : Int
  remote : Int
  host : Int
abbrev mp0 : Mpg := (⟨0, 0, 0, 0, 0⟩ : Mpg)
instance : Inhabited Mpg := ⟨mp0⟩
def mpM (x : Mpg) : List Value := [Value.int .u8 x.proto, Value.int .u16 x.ext, Value.int .u16 x.to, Value.int .u32 x.remote, Value.int .u32 x.host]
theorem mpM_zlen (xs : List Mpg) : (mm mpM xs).length = xs.length * 5 := mm_len (g := mpM) (fun _ => rfl) xs
theorem mpM_one (x : Mpg) : ∀ v ∈ mpM x, v.oneCell' = true := by simp [mpM, Value.oneCell']
def ruM (f : FlwT) (m : Mpg) : Bool := (((m.proto == f.1) && (m.host == f.2.1)) && (m.to == f.2.2.2.1)) && ((m.remote == 0) || (m.remote == f.2.2.1))
def ruW (f : FlwT) (w : Conf.Fwd) : Bool := ((w.proto == f.1) && (w.host == f.2.1)) && (w.dest == f.2.2.2.1)
def ruleV (ms : List Mpg) (fx : List Conf.Fwd) (f : FlwT) : Option Int := match ms.find? (ruM f) with
  | some m => some m.ext
  | none => (fx.find? (ruW f)).map fun w => w.port
theorem find_at {α : Type} {q : α → Bool} (d : α) {xs : List α} {i : Nat} (hi : i < xs.length) (hno : ∀ j, j < i → q (xs.getD j d) = false) (h : q (xs.getD i d) = true) : xs.find? q = some (xs.getD i d) := by
  have g : ∀ j (hj : j < xs.length), xs.getD j d = xs[j] := fun j hj => by rw [List.getD_eq_getElem?_getD, List.getElem?_eq_getElem hj]; rfl
  have e : xs = xs.take i ++ xs.getD i d :: xs.drop (i + 1) := by rw [g i hi, ← List.drop_eq_getElem_cons hi, List.take_append_drop]
  conv => lhs; rw [e]
  rw [List.find?_append, List.find?_cons, h]
  have : (xs.take i).find? q = none := by
    rw [List.find?_eq_none]
    intro x hx
    obtain ⟨j, hj, rfl⟩ := List.getElem_of_mem hx
    rw [List.length_take] at hj
    rw [List.getElem_take]
    have := hno j ma1
    rw [g j ma1] at this
    rw [this]; decide
  rw [this]; rfl
theorem find_no {α : Type} {q : α → Bool} (d : α) {xs : List α} (hno : ∀ j, j < xs.length → q (xs.getD j d) = false) : xs.find? q = none := by
  rw [List.find?_eq_none]
  intro x hx
  obtain ⟨j, hj, rfl⟩ := List.getElem_of_mem hx
  have := hno j hj
  rw [List.getD_eq_getElem?_getD, List.getElem?_eq_getElem hj] at this
  have h2 : q xs[j] = false := this
  rw [h2]; decide
end Go.Proofs.YtmonlaoaengfdaaGreatDoor.Oct
namespace Go.Proofs.YtmonlaoaengfdaaGreatDoor.Oct
open Go.RowKit Base
attribute [local irreducible] Ys Yc Ht HtS HtIn Wl Wd W Mem pf dpf Wa Wo
open Conf (Fwd fwv)
def maQ (f : FlwT) (r : Int) (m : Mpg) : Bool := ((m.proto == f.1) && (m.ext == f.2.2.2.2)) && (m.remote == r)
def mapV (ms : List Mpg) (f : FlwT) : Option Mpg := match ms.find? (maQ f f.2.1) with
  | some m => some m
  | none => ms.find? (maQ f 0)
abbrev cLa11_1365_0 (f : FlwT) (p3 : Nat) : List Blk := [cb p3 [iV .u8 f.1, iV .u32 f.2.1, iV .u32 f.2.2.1, iV .u16 f.2.2.2.1, iV .u16 f.2.2.2.2] 47]
abbrev cLa11_1365_1 (p4 : Nat) : List Blk := [cb p4 zl6 26]
abbrev dLa11_1365_0 (f : FlwT) : List Value := [iV .u32 f.2.1, iV .u32 0]
abbrev dLa11_1365_1  : List Value := zl6
theorem mapping_c (c : Conf.Cfg) (fx : List Conf.Fwd) (fa : Option Addr) (fc : Nat) (ms : List Mpg) (ma : Option Addr) (mc_ : Nat) (ts te : Nat) (tk : Nat → Option Nat) (wb ti : Nat) (lst : Int) (nb : Nat) (f : FlwT) (w : World) (hnt : At w (some ⟨nb, 0, none⟩) (natC (cfC c (Value.slice fa fx.length fc)) (Value.slice ma ms.length mc_) (Value.pointer (some ⟨ts, 0, none⟩)) (Value.pointer (some ⟨te, 0, none⟩)) tk (Value.pointer (some ⟨wb, 0, none⟩)) (Value.pointer (some ⟨ti, 0, none⟩)) (Value.int .u64 lst))) (hfx : At w fa (mm Conf.fwv fx)) (hfn : fx.length ≤ 100000) (hms : At w ma (mm mpM ms)) (hmn : ms.length ≤ 100000) : Calls Tryz.prog 98 #[pV nb 0, aV [iV .u8 f.1, iV .u32 f.2.1, iV .u32 f.2.2.1, iV .u16 f.2.2.2.1, iV .u16 f.2.2.2.2]] w (Ret w (.tuple #[aV [iV .u8 (((mapV ms f).getD mp0).proto), iV .u16 (((mapV ms f).getD mp0).ext), iV .u16 (((mapV ms f).getD mp0).to), iV .u32 (((mapV ms f).getD mp0).remote), iV .u32 (((mapV ms f).getD mp0).host)], .bool (mapV ms f).isSome])) := by
 refine calls_W (M := []) (LL := []) (n := 47) Tryz.func98 rfl rfl ma6 (Mem.refl _) (W.seq (fun K1 hK1 => ?_))
 refine W.region (Wl.ht rfl (Ht.box (v := aV [iV .u8 f.1, iV .u32 f.2.1, iV .u32 f.2.2.1, iV .u16 f.2.2.2.1, iV .u16 f.2.2.2.2]) (cs := [iV .u8 f.1, iV .u32 f.2.1, iV .u32 f.2.2.1, iV .u16 f.2.2.2.1, iV .u16 f.2.2.2.2]) rfl rfl ma0 rfl) (fun p3 => ?_))
 refine Wl.ht rfl (Ht.alloc (z := aV dLa11_1365_1) (cs := dLa11_1365_1) rfl rfl Tryz.zeroValue26 rfl) (fun p4 => Wl.run 1 ma0 (Wl.nil (hK1 _ _ _ (W.prune' [0, 3, 4] [pV nb 0, pV p3 0, pV p4 0] ma0 (fun f2 => ?_)))))
 refine W.seq (fun K3 hK3 => W.seq (fun K4 hK4 => ?_))
 refine W.region (Wl.run 1 ma0 (Wl.ys rfl rfl (Ys.l1 p3 1 1 0 Tryz.isAgg24) (Wl.run 2 ma0 (Wl.nil ?_))))
 refine hK4 _ _ _ (W.prune' [0, 3, 4, 12, 13] [pV nb 0, pV p3 0, pV p4 0, aV (dLa11_1365_0 f), iV .i64 0] ma0 (fun f5 => ?_))
 refine W.block (W.rounds 3 (Wr.step (fun J6 hJ6 => W.seq (fun K7 hK7 => W.region ?_))))
 refine Wl.run 1 ma0 (Wl.nil (hK7 _ _ _ (W.seq (fun K8 hK8 => W.condT ma0 ?_))))
 refine W.skip' (hK8 _ _ _ (W.prune' [0, 3, 4, 12, 13] [pV nb 0, pV p3 0, pV p4 0, aV (dLa11_1365_0 f), iV .i64 0] ma0 (fun f9 => W.seq (fun K10 hK10 => W.block ?_))))
 refine W.seq (fun K11 hK11 => W.region (Wl.run 2 ma0 (Wl.nil (hK11 _ _ _ ?_))))
 refine W.prune' [0, 3, 4, 7, 12, 13] [pV nb 0, pV p3 0, pV p4 0, iV .u32 f.2.1, aV (dLa11_1365_0 f), iV .i64 0] ma0 (fun f12 => W.seq (fun K13 hK13 => ?_))
 refine W.region (Wl.run 3 ma0 (Wl.ys (v := Value.slice ma ms.length mc_) rfl rfl (Ys.ld (a := ⟨nb, 28, none⟩) rfl ma0 Tryz.isAgg56 (fun w_ h_ => by have x_ := (hnt.mem0 h_).ld (q := 28) ((natC_lo rfl ma2).trans rfl); rw [ela_own0] at x_; exact x_)) (Wl.run 2 ma0 (Wl.nil ?_))))
 refine hK13 _ _ _ (W.prune' [0, 3, 4, 7, 12, 13, 19, 20, 21] [pV nb 0, pV p3 0, pV p4 0, iV .u32 f.2.1, aV (dLa11_1365_0 f), iV .i64 0, Value.slice ma ms.length mc_, nV .i64 ms.length, iV .i64 0] ma0 (fun f14 => ?_))
 refine W.block (W.loop1 [0, 3, 4, 7, 12, 13, 19, 20, 21] (fun (i : Nat) => [pV nb 0, pV p3 0, pV p4 0, iV .u32 f.2.1, aV (dLa11_1365_0 f), iV .i64 0, Value.slice ma ms.length mc_, nV .i64 ms.length, nV .i64 i]) (fun (i : Nat) => i ≤ ms.length ∧ ∀ j, j < i → maQ f f.2.1 (ms.getD j mp0) = false) (fun (i : Nat) => [cLa11_1365_1 p4, cLa11_1365_0 f p3]) (fun (i : Nat) => ms.length - i) 0 ma0 ⟨(Nat.zero_le _), (fun j hj => absurd hj (Nat.not_lt_zero j))⟩ (by rfl) (fun i f16 J15 hp17 hJ15 => ?_))
 obtain ⟨hi, hno⟩ := hp17
 refine W.seq (fun K18 hK18 => W.region (Wl.run 1 ma0 (Wl.nil (hK18 _ _ _ ?_))))
 refine W.seq (fun K19 hK19 => ?_)
 refine W.cond (decide (((i : Nat) : Int) < (ms.length : Int))) ma0 (fun h20 => ?_) (fun h21 => ?_)
 ·have qh20 := h20; try simp only [zA] at qh20
  refine W.skip' (hK19 _ _ _ (W.prune' [0, 3, 4, 7, 12, 13, 19, 20, 21] [pV nb 0, pV p3 0, pV p4 0, iV .u32 f.2.1, aV (dLa11_1365_0 f), iV .i64 0, Value.slice ma ms.length mc_, nV .i64 ms.length, nV .i64 i] ma0 (fun f22 => W.seq (fun K23 hK23 => W.block ?_))))
  refine W.seq (fun K24 hK24 => W.region (Wl.ys (v := Value.pointer (some (ela ma (i * 5)))) rfl rfl (Ys.byMem fun w_ h_ => Ys.indexAddr (k := .i64) (a := ma) (len := ms.length) (cap := mc_) (i := (i : Int)) (sz := 5) rfl ma0 ma0 Tryz.runUnderlying56 Tryz.sizeOf26 ma1 ma1 ((hms.mem0 h_).here (by rw [mm_len (g := mpM) (sz := 5) (fun _ => rfl)]; first | omega | (simp; omega)))) (Wl.ys (v := aV [iV .u8 ((ms.getD i mp0).proto), iV .u16 ((ms.getD i mp0).ext), iV .u16 ((ms.getD i mp0).to), iV .u32 ((ms.getD i mp0).remote), iV .u32 ((ms.getD i mp0).host)]) rfl rfl (Ys.ldN (a := ela ma (i * 5)) (vs := [iV .u8 ((ms.getD i mp0).proto), iV .u16 ((ms.getD i mp0).ext), iV .u16 ((ms.getD i mp0).to), iV .u32 ((ms.getD i mp0).remote), iV .u32 ((ms.getD i mp0).host)]) rfl ma0 Tryz.isAgg26 Tryz.sizeOf26 rfl (fun w_ h_ => (hms.mem0 h_).ldN (mm_get (g := mpM) (sz := 5) (fun _ => rfl) mp0 (xs := ms) (k := i) ma1))) (Wl.ht rfl (Ht.alloc (z := aV dLa11_1365_1) (cs := dLa11_1365_1) rfl rfl Tryz.zeroValue26 rfl) (fun p9 => ?_)))))
  refine Wl.ht rfl (Ht.storeN (b := p9) (o' := 0) (i := 0) (j := 0) (vs := [iV .u8 ((ms.getD i mp0).proto), iV .u16 ((ms.getD i mp0).ext), iV .u16 ((ms.getD i mp0).to), iV .u32 ((ms.getD i mp0).remote), iV .u32 ((ms.getD i mp0).host)]) (LL' := [[cb p9 [iV .u8 ((ms.getD i mp0).proto), iV .u16 ((ms.getD i mp0).ext), iV .u16 ((ms.getD i mp0).to), iV .u32 ((ms.getD i mp0).remote), iV .u32 ((ms.getD i mp0).host)] 26], cLa11_1365_1 p4, cLa11_1365_0 f p3]) rfl rfl ma0 ma0 Tryz.sizeOf26 ma7 rfl rfl ma6 rfl rfl) (fun _ => Wl.nil (hK24 _ _ _ (W.prune' [0, 3, 4, 7, 9, 12, 13, 19, 20, 21] [pV nb 0, pV p3 0, pV p4 0, iV .u32 f.2.1, pV p9 0, aV (dLa11_1365_0 f), iV .i64 0, Value.slice ma ms.length mc_, nV .i64 ms.length, nV .i64 i] ma0 (fun f25 => W.seq (fun K26 hK26 => ?_)))))
  refine W.region (Wl.run 1 ma0 (Wl.ys rfl rfl (Ys.l1 p9 0 0 0 Tryz.isAgg5) (Wl.run 1 ma0 (Wl.ys rfl rfl (Ys.l1 p3 0 2 0 Tryz.isAgg5) ?_))))
  refine Wl.run 2 ma0 ?_
  refine Wl.guard (v := pV p9 1) (((ms.getD i mp0).proto) == f.1) rfl (wantT rfl ma0) rfl (fun hg27 => ?_) ?_
  ·exact Ys.pure (fun _ => kr)
  refine Wl.guard (v := iV .u16 ((ms.getD i mp0).ext)) (((ms.getD i mp0).proto) == f.1) rfl (wantT rfl ma0) rfl (fun hg28 => ?_) ?_
  ·refine Ys.at (t := 31) (v0 := pV p9 1) (lz (g := ((ms.getD i mp0).proto) == f.1) (u := undef) hg28 ma0) ?_
   exact Ys.l1 p9 1 0 0 Tryz.isAgg22
  refine Wl.guard (v := pV p3 4) (((ms.getD i mp0).proto) == f.1) rfl (wantT rfl ma0) rfl (fun hg29 => ?_) ?_
  ·exact Ys.pure (fun _ => kr)
  refine Wl.guard (v := iV .u16 f.2.2.2.2) (((ms.getD i mp0).proto) == f.1) rfl (wantT rfl ma0) rfl (fun hg30 => ?_) ?_
  ·refine Ys.at (t := 33) (v0 := pV p3 4) (lz (g := ((ms.getD i mp0).proto) == f.1) (u := undef) hg30 ma0) ?_
   exact Ys.l1 p3 4 2 0 Tryz.isAgg22
  refine Wl.guard (v := bV (((ms.getD i mp0).ext) == f.2.2.2.2)) (((ms.getD i mp0).proto) == f.1) rfl (wantT rfl ma0) rfl (fun hg31 => ?_) ?_
  ·refine Ys.at (t := 32) (v0 := iV .u16 ((ms.getD i mp0).ext)) (lz (g := ((ms.getD i mp0).proto) == f.1) (u := undef) hg31 ma0) (Ys.at (t := 34) (v0 := iV .u16 f.2.2.2.2) (lz (g := ((ms.getD i mp0).proto) == f.1) (u := undef) hg31 ma0) ?_)
   exact Ys.pure (fun _ => kr)
  refine Wl.ys (v := bV ((((ms.getD i mp0).proto) == f.1) && (((ms.getD i mp0).ext) == f.2.2.2.2))) rfl rfl (Ys.and (e := ((ms.getD i mp0).proto) == f.1) (b := ((ms.getD i mp0).ext) == f.2.2.2.2) rfl ma0 ma0 ma0) (Wl.run 1 ma0 ?_)
  refine Wl.guard (v := pV p9 3) ((((ms.getD i mp0).proto) == f.1) && (((ms.getD i mp0).ext) == f.2.2.2.2)) rfl (wantT rfl ma0) rfl (fun hg32 => ?_) ?_
  ·exact Ys.pure (fun _ => kr)
  refine Wl.guard (v := iV .u32 ((ms.getD i mp0).remote)) ((((ms.getD i mp0).proto) == f.1) && (((ms.getD i mp0).ext) == f.2.2.2.2)) rfl (wantT rfl ma0) rfl (fun hg33 => ?_) ?_
  ·refine Ys.at (t := 38) (v0 := pV p9 3) (lz (g := (((ms.getD i mp0).proto) == f.1) && (((ms.getD i mp0).ext) == f.2.2.2.2)) (u := undef) hg33 ma0) ?_
   exact Ys.l1 p9 3 0 0 Tryz.isAgg24
  refine Wl.guard (v := iV .u32 f.2.1) ((((ms.getD i mp0).proto) == f.1) && (((ms.getD i mp0).ext) == f.2.2.2.2)) rfl (wantT rfl ma0) rfl (fun hg34 => ?_) ?_
  ·exact Ys.pure (fun _ => kr)
  refine Wl.guard (v := bV (((ms.getD i mp0).remote) == f.2.1)) ((((ms.getD i mp0).proto) == f.1) && (((ms.getD i mp0).ext) == f.2.2.2.2)) rfl (wantT rfl ma0) rfl (fun hg35 => ?_) ?_
  ·refine Ys.at (t := 39) (v0 := iV .u32 ((ms.getD i mp0).remote)) (lz (g := (((ms.getD i mp0).proto) == f.1) && (((ms.getD i mp0).ext) == f.2.2.2.2)) (u := undef) hg35 ma0) (Ys.at (t := 40) (v0 := iV .u32 f.2.1) (lz (g := (((ms.getD i mp0).proto) == f.1) && (((ms.getD i mp0).ext) == f.2.2.2.2)) (u := undef) hg35 ma0) ?_)
   exact Ys.pure (fun _ => kr)
  refine Wl.ys (v := bV (((((ms.getD i mp0).proto) == f.1) && (((ms.getD i mp0).ext) == f.2.2.2.2)) && (((ms.getD i mp0).remote) == f.2.1))) rfl rfl (Ys.and (e := (((ms.getD i mp0).proto) == f.1) && (((ms.getD i mp0).ext) == f.2.2.2.2)) (b := ((ms.getD i mp0).remote) == f.2.1) rfl ma0 ma0 ma0) (Wl.nil (hK26 _ _ _ (W.prune' [0, 3, 4, 7, 9, 12, 13, 19, 20, 21, 31, 32, 33, 34, 35, 38, 39, 40, 41, 42] [pV nb 0, pV p3 0, pV p4 0, iV .u32 f.2.1, pV p9 0, aV (dLa11_1365_0 f), iV .i64 0, Value.slice ma ms.length mc_, nV .i64 ms.length, nV .i64 i, (bif ((ms.getD i mp0).proto) == f.1 then pV p9 1 else undef), (bif ((ms.getD i mp0).proto) == f.1 then iV .u16 ((ms.getD i mp0).ext) else undef), (bif ((ms.getD i mp0).proto) == f.1 then pV p3 4 else undef), (bif ((ms.getD i mp0).proto) == f.1 then iV .u16 f.2.2.2.2 else undef), (bif ((ms.getD i mp0).proto) == f.1 then bV (((ms.getD i mp0).ext) == f.2.2.2.2) else undef), (bif (((ms.getD i mp0).proto) == f.1) && (((ms.getD i mp0).ext) == f.2.2.2.2) then pV p9 3 else undef), (bif (((ms.getD i mp0).proto) == f.1) && (((ms.getD i mp0).ext) == f.2.2.2.2) then iV .u32 ((ms.getD i mp0).remote) else undef), (bif (((ms.getD i mp0).proto) == f.1) && (((ms.getD i mp0).ext) == f.2.2.2.2) then iV .u32 f.2.1 else undef), (bif (((ms.getD i mp0).proto) == f.1) && (((ms.getD i mp0).ext) == f.2.2.2.2) then bV (((ms.getD i mp0).remote) == f.2.1) else undef), bV (((((ms.getD i mp0).proto) == f.1) && (((ms.getD i mp0).ext) == f.2.2.2.2)) && (((ms.getD i mp0).remote) == f.2.1))] ma0 (fun f36 => ?_))))
  refine W.cond (((((ms.getD i mp0).proto) == f.1) && (((ms.getD i mp0).ext) == f.2.2.2.2)) && (((ms.getD i mp0).remote) == f.2.1)) ma0 (fun h37 => ?_) (fun h38 => ?_)
  ·have qh37 := h37; try simp only [zA] at qh37
   refine W.seq (fun K39 hK39 => W.region (Wl.ys rfl rfl (Ys.loadN (b := p9) (o' := 0) (i := 0) (j := 0) (vs := [iV .u8 ((ms.getD i mp0).proto), iV .u16 ((ms.getD i mp0).ext), iV .u16 ((ms.getD i mp0).to), iV .u32 ((ms.getD i mp0).remote), iV .u32 ((ms.getD i mp0).host)]) rfl ma0 Tryz.isAgg26 Tryz.sizeOf26 rfl rfl rfl rfl) (Wl.ht rfl (Ht.storeN (b := p4) (o' := 0) (i := 1) (j := 0) (vs := [iV .u8 ((ms.getD i mp0).proto), iV .u16 ((ms.getD i mp0).ext), iV .u16 ((ms.getD i mp0).to), iV .u32 ((ms.getD i mp0).remote), iV .u32 ((ms.getD i mp0).host)]) (LL' := [[cb p9 [iV .u8 ((ms.getD i mp0).proto), iV .u16 ((ms.getD i mp0).ext), iV .u16 ((ms.getD i mp0).to), iV .u32 ((ms.getD i mp0).remote), iV .u32 ((ms.getD i mp0).host)] 26], [cb p4 [iV .u8 ((ms.getD i mp0).proto), iV .u16 ((ms.getD i mp0).ext), iV .u16 ((ms.getD i mp0).to), iV .u32 ((ms.getD i mp0).remote), iV .u32 ((ms.getD i mp0).host)] 26], cLa11_1365_0 f p3]) rfl rfl ma0 ma0 Tryz.sizeOf26 ma7 rfl rfl ma6 rfl rfl) (fun _ => Wl.run 1 ma0 ?_))))
   refine Wl.nil (hK39 _ _ _ (W.pick (LL' := [[cb p4 [iV .u8 ((ms.getD i mp0).proto), iV .u16 ((ms.getD i mp0).ext), iV .u16 ((ms.getD i mp0).to), iV .u32 ((ms.getD i mp0).remote), iV .u32 ((ms.getD i mp0).host)] 26]]) [1] ma2 rfl (W.prune' [4, 5] [pV p4 0, bV true] ma0 (fun f40 => W.ret ?_))))
   show ∀ w_, _ → bodyPostM (fence none) 0 Tryz.prog Tryz.f98 _ Exit.ret _ w_
   exact fun w_ hS_ => fin_ret (ret2 rfl (RV.cellN (b := p4) (o' := 0) (i := 0) (j := 0) (cs := [iV .u8 ((ms.getD i mp0).proto), iV .u16 ((ms.getD i mp0).ext), iV .u16 ((ms.getD i mp0).to), iV .u32 ((ms.getD i mp0).remote), iV .u32 ((ms.getD i mp0).host)]) (vs := [iV .u8 ((ms.getD i mp0).proto), iV .u16 ((ms.getD i mp0).ext), iV .u16 ((ms.getD i mp0).to), iV .u32 ((ms.getD i mp0).remote), iV .u32 ((ms.getD i mp0).host)]) ma0 Tryz.isAgg26 Tryz.sizeOf26 rfl rfl rfl rfl) (RV.tmp (v := bV true) ma0) hS_ ⟨by clear hK1 hK3 hK4 hJ6 hK7 hK8 hK10 hK11 hK13 hJ15 hK18 hK19 hK23 hK24 hK26 hK39; refine congrArg Ending.returned ?_; unfold mapV; rw [find_at mp0 ma1 hno (show maQ f f.2.1 (ms.getD i mp0) = true from h37)]; rfl, hS_.below⟩)
  ·have qh38 := h38; try simp only [zA] at qh38
   refine W.skip' (hK23 _ _ _ (W.prune' [0, 3, 4, 7, 12, 13, 19, 20, 21, 31, 32, 33, 34, 35, 38, 39, 40, 41] [pV nb 0, pV p3 0, pV p4 0, iV .u32 f.2.1, aV (dLa11_1365_0 f), iV .i64 0, Value.slice ma ms.length mc_, nV .i64 ms.length, nV .i64 i, (bif ((ms.getD i mp0).proto) == f.1 then pV p9 1 else undef), (bif ((ms.getD i mp0).proto) == f.1 then iV .u16 ((ms.getD i mp0).ext) else undef), (bif ((ms.getD i mp0).proto) == f.1 then pV p3 4 else undef), (bif ((ms.getD i mp0).proto) == f.1 then iV .u16 f.2.2.2.2 else undef), (bif ((ms.getD i mp0).proto) == f.1 then bV (((ms.getD i mp0).ext) == f.2.2.2.2) else undef), (bif (((ms.getD i mp0).proto) == f.1) && (((ms.getD i mp0).ext) == f.2.2.2.2) then pV p9 3 else undef), (bif (((ms.getD i mp0).proto) == f.1) && (((ms.getD i mp0).ext) == f.2.2.2.2) then iV .u32 ((ms.getD i mp0).remote) else undef), (bif (((ms.getD i mp0).proto) == f.1) && (((ms.getD i mp0).ext) == f.2.2.2.2) then iV .u32 f.2.1 else undef), (bif (((ms.getD i mp0).proto) == f.1) && (((ms.getD i mp0).ext) == f.2.2.2.2) then bV (((ms.getD i mp0).remote) == f.2.1) else undef)] ma0 (fun f41 => W.region (Wl.ys (v := nV .i64 (i + 1)) rfl rfl ((Ys.pure (v := .int .i64 (iadd .i64 (i : Int) 1)) (fun _ => kr)).conseq (int_congr (iadd_eq ma1 ma1 ma1))) ?_))))
   refine Wl.run 1 ma0 (Wl.nil ?_)
   refine fun w_ h_ => hJ15 (i + 1) _ w_ ma1 ⟨ma1, (fun j hj => (Nat.lt_succ_iff_lt_or_eq.1 hj).elim (hno j) (fun e_ => by subst e_; exact h38))⟩ ?_ (h_.pick [1, 2] ma2 rfl)
   kernel_rfl
 ·have qh21 := h21; try simp only [zA] at qh21
  refine W.exit (hK10 _ _ _ (W.prune' [0, 3, 4, 12, 13] [pV nb 0, pV p3 0, pV p4 0, aV (dLa11_1365_0 f), iV .i64 0] ma0 (fun f42 => W.region (Wl.run 2 ma0 ?_))))
  refine Wl.nil (hJ6 _ _ _ (Wr.step (fun J43 hJ43 => W.prune' [0, 3, 4, 12, 13] [pV nb 0, pV p3 0, pV p4 0, aV (dLa11_1365_0 f), iV .i64 1] ma0 (fun f44 => W.seq (fun K45 hK45 => ?_)))))
  refine W.region (Wl.run 1 ma0 (Wl.nil (hK45 _ _ _ (W.seq (fun K46 hK46 => ?_)))))
  refine W.condT ma0 (W.skip' (hK46 _ _ _ (W.prune' [0, 3, 4, 12, 13] [pV nb 0, pV p3 0, pV p4 0, aV [iV .u32 f.2.1, iV .u32 0], iV .i64 1] ma0 (fun f47 => W.seq (fun K48 hK48 => ?_)))))
  refine W.block (W.seq (fun K49 hK49 => ?_))
  refine W.region (Wl.run 2 ma0 (Wl.nil (hK49 _ _ _ (W.prune' [0, 3, 4, 7, 12, 13] [pV nb 0, pV p3 0, pV p4 0, iV .u32 0, aV (dLa11_1365_0 f), iV .i64 1] ma0 (fun f50 => ?_)))))
  refine W.seq (fun K51 hK51 => W.region (Wl.run 3 ma0 (Wl.ys (v := Value.slice ma ms.length mc_) rfl rfl (Ys.ld (a := ⟨nb, 28, none⟩) rfl ma0 Tryz.isAgg56 (fun w_ h_ => by have x_ := (hnt.mem0 h_).ld (q := 28) ((natC_lo rfl ma2).trans rfl); rw [ela_own0] at x_; exact x_)) (Wl.run 2 ma0 ?_))))
  refine Wl.nil (hK51 _ _ _ (W.prune' [0, 3, 4, 7, 12, 13, 19, 20, 21] [pV nb 0, pV p3 0, pV p4 0, iV .u32 0, aV (dLa11_1365_0 f), iV .i64 1, Value.slice ma ms.length mc_, nV .i64 ms.length, iV .i64 0] ma0 (fun f52 => W.block (W.loop1 [0, 3, 4, 7, 12, 13, 19, 20, 21] (fun (k : Nat) => [pV nb 0, pV p3 0, pV p4 0, iV .u32 0, aV (dLa11_1365_0 f), iV .i64 1, Value.slice ma ms.length mc_, nV .i64 ms.length, nV .i64 k]) (fun (k : Nat) => k ≤ ms.length ∧ ∀ j, j < k → maQ f 0 (ms.getD j mp0) = false) (fun (k : Nat) => [cLa11_1365_1 p4, cLa11_1365_0 f p3]) (fun (k : Nat) => ms.length - k) 0 ma0 ⟨(Nat.zero_le _), (fun j hj => absurd hj (Nat.not_lt_zero j))⟩ (by rfl) (fun k f54 J53 hp55 hJ53 => ?_)))))
  obtain ⟨hk, hnw⟩ := hp55
  refine W.seq (fun K56 hK56 => W.region (Wl.run 1 ma0 (Wl.nil (hK56 _ _ _ ?_))))
  refine W.seq (fun K57 hK57 => ?_)
  refine W.cond (decide (((k : Nat) : Int) < (ms.length : Int))) ma0 (fun h58 => ?_) (fun h59 => ?_)
  ·have qh58 := h58; try simp only [zA] at qh58
   refine W.skip' (hK57 _ _ _ (W.prune' [0, 3, 4, 7, 12, 13, 19, 20, 21] [pV nb 0, pV p3 0, pV p4 0, iV .u32 0, aV (dLa11_1365_0 f), iV .i64 1, Value.slice ma ms.length mc_, nV .i64 ms.length, nV .i64 k] ma0 (fun f60 => W.seq (fun K61 hK61 => W.block ?_))))
   refine W.seq (fun K62 hK62 => W.region (Wl.ys (v := Value.pointer (some (ela ma (k * 5)))) rfl rfl (Ys.byMem fun w_ h_ => Ys.indexAddr (k := .i64) (a := ma) (len := ms.length) (cap := mc_) (i := (k : Int)) (sz := 5) rfl ma0 ma0 Tryz.runUnderlying56 Tryz.sizeOf26 ma1 ma1 ((hms.mem0 h_).here (by rw [mm_len (g := mpM) (sz := 5) (fun _ => rfl)]; first | omega | (simp; omega)))) (Wl.ys (v := aV [iV .u8 ((ms.getD k mp0).proto), iV .u16 ((ms.getD k mp0).ext), iV .u16 ((ms.getD k mp0).to), iV .u32 ((ms.getD k mp0).remote), iV .u32 ((ms.getD k mp0).host)]) rfl rfl (Ys.ldN (a := ela ma (k * 5)) (vs := [iV .u8 ((ms.getD k mp0).proto), iV .u16 ((ms.getD k mp0).ext), iV .u16 ((ms.getD k mp0).to), iV .u32 ((ms.getD k mp0).remote), iV .u32 ((ms.getD k mp0).host)]) rfl ma0 Tryz.isAgg26 Tryz.sizeOf26 rfl (fun w_ h_ => (hms.mem0 h_).ldN (mm_get (g := mpM) (sz := 5) (fun _ => rfl) mp0 (xs := ms) (k := k) ma1))) (Wl.ht rfl (Ht.alloc (z := aV dLa11_1365_1) (cs := dLa11_1365_1) rfl rfl Tryz.zeroValue26 rfl) (fun p9 => ?_)))))
   refine Wl.ht rfl (Ht.storeN (b := p9) (o' := 0) (i := 0) (j := 0) (vs := [iV .u8 ((ms.getD k mp0).proto), iV .u16 ((ms.getD k mp0).ext), iV .u16 ((ms.getD k mp0).to), iV .u32 ((ms.getD k mp0).remote), iV .u32 ((ms.getD k mp0).host)]) (LL' := [[cb p9 [iV .u8 ((ms.getD k mp0).proto), iV .u16 ((ms.getD k mp0).ext), iV .u16 ((ms.getD k mp0).to), iV .u32 ((ms.getD k mp0).remote), iV .u32 ((ms.getD k mp0).host)] 26], cLa11_1365_1 p4, cLa11_1365_0 f p3]) rfl rfl ma0 ma0 Tryz.sizeOf26 ma7 rfl rfl ma6 rfl rfl) (fun _ => Wl.nil (hK62 _ _ _ (W.prune' [0, 3, 4, 7, 9, 12, 13, 19, 20, 21] [pV nb 0, pV p3 0, pV p4 0, iV .u32 0, pV p9 0, aV (dLa11_1365_0 f), iV .i64 1, Value.slice ma ms.length mc_, nV .i64 ms.length, nV .i64 k] ma0 (fun f63 => W.seq (fun K64 hK64 => ?_)))))
   refine W.region (Wl.run 1 ma0 (Wl.ys rfl rfl (Ys.l1 p9 0 0 0 Tryz.isAgg5) (Wl.run 1 ma0 (Wl.ys rfl rfl (Ys.l1 p3 0 2 0 Tryz.isAgg5) ?_))))
   refine Wl.run 2 ma0 ?_
   refine Wl.guard (v := pV p9 1) (((ms.getD k mp0).proto) == f.1) rfl (wantT rfl ma0) rfl (fun hg65 => ?_) ?_
   ·exact Ys.pure (fun _ => kr)
   refine Wl.guard (v := iV .u16 ((ms.getD k mp0).ext)) (((ms.getD k mp0).proto) == f.1) rfl (wantT rfl ma0) rfl (fun hg66 => ?_) ?_
   ·refine Ys.at (t := 31) (v0 := pV p9 1) (lz (g := ((ms.getD k mp0).proto) == f.1) (u := undef) hg66 ma0) ?_
    exact Ys.l1 p9 1 0 0 Tryz.isAgg22
   refine Wl.guard (v := pV p3 4) (((ms.getD k mp0).proto) == f.1) rfl (wantT rfl ma0) rfl (fun hg67 => ?_) ?_
   ·exact Ys.pure (fun _ => kr)
   refine Wl.guard (v := iV .u16 f.2.2.2.2) (((ms.getD k mp0).proto) == f.1) rfl (wantT rfl ma0) rfl (fun hg68 => ?_) ?_
   ·refine Ys.at (t := 33) (v0 := pV p3 4) (lz (g := ((ms.getD k mp0).proto) == f.1) (u := undef) hg68 ma0) ?_
    exact Ys.l1 p3 4 2 0 Tryz.isAgg22
   refine Wl.guard (v := bV (((ms.getD k mp0).ext) == f.2.2.2.2)) (((ms.getD k mp0).proto) == f.1) rfl (wantT rfl ma0) rfl (fun hg69 => ?_) ?_
   ·refine Ys.at (t := 32) (v0 := iV .u16 ((ms.getD k mp0).ext)) (lz (g := ((ms.getD k mp0).proto) == f.1) (u := undef) hg69 ma0) (Ys.at (t := 34) (v0 := iV .u16 f.2.2.2.2) (lz (g := ((ms.getD k mp0).proto) == f.1) (u := undef) hg69 ma0) ?_)
    exact Ys.pure (fun _ => kr)
   refine Wl.ys (v := bV ((((ms.getD k mp0).proto) == f.1) && (((ms.getD k mp0).ext) == f.2.2.2.2))) rfl rfl (Ys.and (e := ((ms.getD k mp0).proto) == f.1) (b := ((ms.getD k mp0).ext) == f.2.2.2.2) rfl ma0 ma0 ma0) (Wl.run 1 ma0 ?_)
   refine Wl.guard (v := pV p9 3) ((((ms.getD k mp0).proto) == f.1) && (((ms.getD k mp0).ext) == f.2.2.2.2)) rfl (wantT rfl ma0) rfl (fun hg70 => ?_) ?_
   ·exact Ys.pure (fun _ => kr)
   refine Wl.guard (v := iV .u32 ((ms.getD k mp0).remote)) ((((ms.getD k mp0).proto) == f.1) && (((ms.getD k mp0).ext) == f.2.2.2.2)) rfl (wantT rfl ma0) rfl (fun hg71 => ?_) ?_
   ·refine Ys.at (t := 38) (v0 := pV p9 3) (lz (g := (((ms.getD k mp0).proto) == f.1) && (((ms.getD k mp0).ext) == f.2.2.2.2)) (u := undef) hg71 ma0) ?_
    exact Ys.l1 p9 3 0 0 Tryz.isAgg24
   refine Wl.guard (v := iV .u32 0) ((((ms.getD k mp0).proto) == f.1) && (((ms.getD k mp0).ext) == f.2.2.2.2)) rfl (wantT rfl ma0) rfl (fun hg72 => ?_) ?_
   ·exact Ys.pure (fun _ => kr)
   refine Wl.guard (v := bV (((ms.getD k mp0).remote) == 0)) ((((ms.getD k mp0).proto) == f.1) && (((ms.getD k mp0).ext) == f.2.2.2.2)) rfl (wantT rfl ma0) rfl (fun hg73 => ?_) ?_
   ·refine Ys.at (t := 39) (v0 := iV .u32 ((ms.getD k mp0).remote)) (lz (g := (((ms.getD k mp0).proto) == f.1) && (((ms.getD k mp0).ext) == f.2.2.2.2)) (u := undef) hg73 ma0) (Ys.at (t := 40) (v0 := iV .u32 0) (lz (g := (((ms.getD k mp0).proto) == f.1) && (((ms.getD k mp0).ext) == f.2.2.2.2)) (u := undef) hg73 ma0) ?_)
    exact Ys.pure (fun _ => kr)
   refine Wl.ys (v := bV (((((ms.getD k mp0).proto) == f.1) && (((ms.getD k mp0).ext) == f.2.2.2.2)) && (((ms.getD k mp0).remote) == 0))) rfl rfl (Ys.and (e := (((ms.getD k mp0).proto) == f.1) && (((ms.getD k mp0).ext) == f.2.2.2.2)) (b := ((ms.getD k mp0).remote) == 0) rfl ma0 ma0 ma0) (Wl.nil (hK64 _ _ _ (W.prune' [0, 3, 4, 7, 9, 12, 13, 19, 20, 21, 31, 32, 33, 34, 35, 38, 39, 40, 41, 42] [pV nb 0, pV p3 0, pV p4 0, iV .u32 0, pV p9 0, aV (dLa11_1365_0 f), iV .i64 1, Value.slice ma ms.length mc_, nV .i64 ms.length, nV .i64 k, (bif ((ms.getD k mp0).proto) == f.1 then pV p9 1 else undef), (bif ((ms.getD k mp0).proto) == f.1 then iV .u16 ((ms.getD k mp0).ext) else undef), (bif ((ms.getD k mp0).proto) == f.1 then pV p3 4 else undef), (bif ((ms.getD k mp0).proto) == f.1 then iV .u16 f.2.2.2.2 else undef), (bif ((ms.getD k mp0).proto) == f.1 then bV (((ms.getD k mp0).ext) == f.2.2.2.2) else undef), (bif (((ms.getD k mp0).proto) == f.1) && (((ms.getD k mp0).ext) == f.2.2.2.2) then pV p9 3 else undef), (bif (((ms.getD k mp0).proto) == f.1) && (((ms.getD k mp0).ext) == f.2.2.2.2) then iV .u32 ((ms.getD k mp0).remote) else undef), (bif (((ms.getD k mp0).proto) == f.1) && (((ms.getD k mp0).ext) == f.2.2.2.2) then iV .u32 0 else undef), (bif (((ms.getD k mp0).proto) == f.1) && (((ms.getD k mp0).ext) == f.2.2.2.2) then bV (((ms.getD k mp0).remote) == 0) else undef), bV (((((ms.getD k mp0).proto) == f.1) && (((ms.getD k mp0).ext) == f.2.2.2.2)) && (((ms.getD k mp0).remote) == 0))] ma0 (fun f74 => ?_))))
   refine W.cond (((((ms.getD k mp0).proto) == f.1) && (((ms.getD k mp0).ext) == f.2.2.2.2)) && (((ms.getD k mp0).remote) == 0)) ma0 (fun h75 => ?_) (fun h76 => ?_)
   ·have qh75 := h75; try simp only [zA] at qh75
    refine W.seq (fun K77 hK77 => W.region (Wl.ys rfl rfl (Ys.loadN (b := p9) (o' := 0) (i := 0) (j := 0) (vs := [iV .u8 ((ms.getD k mp0).proto), iV .u16 ((ms.getD k mp0).ext), iV .u16 ((ms.getD k mp0).to), iV .u32 ((ms.getD k mp0).remote), iV .u32 ((ms.getD k mp0).host)]) rfl ma0 Tryz.isAgg26 Tryz.sizeOf26 rfl rfl rfl rfl) (Wl.ht rfl (Ht.storeN (b := p4) (o' := 0) (i := 1) (j := 0) (vs := [iV .u8 ((ms.getD k mp0).proto), iV .u16 ((ms.getD k mp0).ext), iV .u16 ((ms.getD k mp0).to), iV .u32 ((ms.getD k mp0).remote), iV .u32 ((ms.getD k mp0).host)]) (LL' := [[cb p9 [iV .u8 ((ms.getD k mp0).proto), iV .u16 ((ms.getD k mp0).ext), iV .u16 ((ms.getD k mp0).to), iV .u32 ((ms.getD k mp0).remote), iV .u32 ((ms.getD k mp0).host)] 26], [cb p4 [iV .u8 ((ms.getD k mp0).proto), iV .u16 ((ms.getD k mp0).ext), iV .u16 ((ms.getD k mp0).to), iV .u32 ((ms.getD k mp0).remote), iV .u32 ((ms.getD k mp0).host)] 26], cLa11_1365_0 f p3]) rfl rfl ma0 ma0 Tryz.sizeOf26 ma7 rfl rfl ma6 rfl rfl) (fun _ => Wl.run 1 ma0 ?_))))
    refine Wl.nil (hK77 _ _ _ (W.pick (LL' := [[cb p4 [iV .u8 ((ms.getD k mp0).proto), iV .u16 ((ms.getD k mp0).ext), iV .u16 ((ms.getD k mp0).to), iV .u32 ((ms.getD k mp0).remote), iV .u32 ((ms.getD k mp0).host)] 26]]) [1] ma2 rfl (W.prune' [4, 5] [pV p4 0, bV true] ma0 (fun f78 => W.ret ?_))))
    show ∀ w_, _ → bodyPostM (fence none) 0 Tryz.prog Tryz.f98 _ Exit.ret _ w_
    exact fun w_ hS_ => fin_ret (ret2 rfl (RV.cellN (b := p4) (o' := 0) (i := 0) (j := 0) (cs := [iV .u8 ((ms.getD k mp0).proto), iV .u16 ((ms.getD k mp0).ext), iV .u16 ((ms.getD k mp0).to), iV .u32 ((ms.getD k mp0).remote), iV .u32 ((ms.getD k mp0).host)]) (vs := [iV .u8 ((ms.getD k mp0).proto), iV .u16 ((ms.getD k mp0).ext), iV .u16 ((ms.getD k mp0).to), iV .u32 ((ms.getD k mp0).remote), iV .u32 ((ms.getD k mp0).host)]) ma0 Tryz.isAgg26 Tryz.sizeOf26 rfl rfl rfl rfl) (RV.tmp (v := bV true) ma0) hS_ ⟨by clear hK1 hK3 hK4 hJ6 hK7 hK8 hK10 hK11 hK13 hJ15 hK18 hK19 hJ43 hK45 hK46 hK48 hK49 hK51 hJ53 hK56 hK57 hK61 hK62 hK64 hK77; refine congrArg Ending.returned ?_; unfold mapV; rw [find_no mp0 (fun j hj => hno j ma1), find_at mp0 ma1 hnw (show maQ f 0 (ms.getD k mp0) = true from h75)]; rfl, hS_.below⟩)
   ·have qh76 := h76; try simp only [zA] at qh76
    refine W.skip' (hK61 _ _ _ (W.prune' [0, 3, 4, 7, 12, 13, 19, 20, 21, 31, 32, 33, 34, 35, 38, 39, 40, 41] [pV nb 0, pV p3 0, pV p4 0, iV .u32 0, aV (dLa11_1365_0 f), iV .i64 1, Value.slice ma ms.length mc_, nV .i64 ms.length, nV .i64 k, (bif ((ms.getD k mp0).proto) == f.1 then pV p9 1 else undef), (bif ((ms.getD k mp0).proto) == f.1 then iV .u16 ((ms.getD k mp0).ext) else undef), (bif ((ms.getD k mp0).proto) == f.1 then pV p3 4 else undef), (bif ((ms.getD k mp0).proto) == f.1 then iV .u16 f.2.2.2.2 else undef), (bif ((ms.getD k mp0).proto) == f.1 then bV (((ms.getD k mp0).ext) == f.2.2.2.2) else undef), (bif (((ms.getD k mp0).proto) == f.1) && (((ms.getD k mp0).ext) == f.2.2.2.2) then pV p9 3 else undef), (bif (((ms.getD k mp0).proto) == f.1) && (((ms.getD k mp0).ext) == f.2.2.2.2) then iV .u32 ((ms.getD k mp0).remote) else undef), (bif (((ms.getD k mp0).proto) == f.1) && (((ms.getD k mp0).ext) == f.2.2.2.2) then iV .u32 0 else undef), (bif (((ms.getD k mp0).proto) == f.1) && (((ms.getD k mp0).ext) == f.2.2.2.2) then bV (((ms.getD k mp0).remote) == 0) else undef)] ma0 (fun f79 => W.region (Wl.ys (v := nV .i64 (k + 1)) rfl rfl ((Ys.pure (v := .int .i64 (iadd .i64 (k : Int) 1)) (fun _ => kr)).conseq (int_congr (iadd_eq ma1 ma1 ma1))) ?_))))
    refine Wl.run 1 ma0 (Wl.nil ?_)
    refine fun w_ h_ => hJ53 (k + 1) _ w_ ma1 ⟨ma1, (fun j hj => (Nat.lt_succ_iff_lt_or_eq.1 hj).elim (hnw j) (fun e_ => by subst e_; exact h76))⟩ ?_ (h_.pick [1, 2] ma2 rfl)
    kernel_rfl
  ·have qh59 := h59; try simp only [zA] at qh59
   refine W.exit (hK48 _ _ _ (W.prune' [0, 3, 4, 12, 13] [pV nb 0, pV p3 0, pV p4 0, aV (dLa11_1365_0 f), iV .i64 1] ma0 (fun f80 => W.region (Wl.run 2 ma0 ?_))))
   refine Wl.nil (hJ43 _ _ _ (Wr.step (fun J81 hJ81 => W.prune' [0, 3, 4, 12, 13] [pV nb 0, pV p3 0, pV p4 0, aV (dLa11_1365_0 f), iV .i64 2] ma0 (fun f82 => W.seq (fun K83 hK83 => ?_)))))
   refine W.region (Wl.run 1 ma0 (Wl.nil (hK83 _ _ _ (W.seq (fun K84 hK84 => ?_)))))
   refine W.condF ma0 (W.exit (hK3 _ _ _ (W.pick (LL' := [cLa11_1365_1 p4]) [0] ma2 rfl (W.prune' [4] [pV p4 0] ma0 (fun f85 => ?_)))))
   refine W.seq (fun K86 hK86 => W.region (Wl.run 1 ma0 (Wl.ht rfl (Ht.storeN (b := p4) (o' := 0) (i := 0) (j := 0) (vs := dLa11_1365_1) (LL' := [cLa11_1365_1 p4]) rfl rfl ma0 ma0 Tryz.sizeOf26 ma7 rfl rfl ma6 rfl rfl) (fun _ => Wl.run 1 ma0 ?_))))
   refine Wl.nil (hK86 _ _ _ (W.prune' [4, 5] [pV p4 0, bV false] ma0 (fun f87 => W.ret ?_)))
   show ∀ w_, _ → bodyPostM (fence none) 0 Tryz.prog Tryz.f98 _ Exit.ret _ w_
   exact fun w_ hS_ => fin_ret (ret2 rfl (RV.cellN (b := p4) (o' := 0) (i := 0) (j := 0) (cs := zl6) (vs := zl6) ma0 Tryz.isAgg26 Tryz.sizeOf26 rfl rfl rfl rfl) (RV.tmp (v := bV false) ma0) hS_ ⟨by clear hK1 hK3 hK4 hJ6 hK7 hK8 hK10 hK11 hK13 hJ15 hK18 hK19 hJ43 hK45 hK46 hK48 hK49 hK51 hJ53 hK56 hK57 hJ81 hK83 hK84 hK86; refine congrArg Ending.returned ?_; unfold mapV; rw [find_no mp0 (fun j hj => hno j ma1), find_no mp0 (fun j hj => hnw j ma1)]; rfl, hS_.below⟩)
end Go.Proofs.YtmonlaoaengfdaaGreatDoor.Oct
