import Derived.Test.YtjkhmbigoloeiaaJMa17
set_option linter.unusedVariables false
set_option linter.unusedSimpArgs false
set_option maxRecDepth 20000
namespace Go.Proofs.Ytjkhmbigoloeiaa.Oct
open Go.RowKit Base
attribute [local irreducible] Ys Yc Ht HtS HtIn Wl Wd W Mem pf dpf Wa Wo
open Conf (Fwd fwv)
structure Cll where
  kd : Int
  nn : Int
  who : Int
  e : Ent
  lease : Int
  tick : Int
  c : Conf.Cfg
  fy : List Conf.Fwd
abbrev cl0 : Cll := ⟨0, 0, 0, dE, 0, 0, ⟨0, 0, 0, 0, 0, 0, 0, 0, 0, 0, 0, 0, 0, 0, 0, 0, 0, 0, 0, 0, 0, 0, 0, 0, 0, none, 0, 0, 0, bstr []⟩, []⟩
instance : Inhabited Cll := ⟨cl0⟩
abbrev clC (x : Cll) : List Value := [Value.int .i64 x.kd, Value.int .i64 x.nn, Value.int .u32 x.who, Value.int .u8 x.e.proto, Value.int .u16 x.e.ext, Value.int .u16 x.e.to, Value.int .u32 x.e.remote, Value.int .u32 x.e.host, Value.bool x.e.on, Value.string x.e.words, Value.int .u64 x.e.ends, Value.int .u64 x.lease, Value.int .u64 x.tick, Value.int .u8 x.c.lm0, Value.int .u8 x.c.lm1, Value.int .u8 x.c.lm2, Value.int .u8 x.c.lm3, Value.int .u8 x.c.lm4, Value.int .u8 x.c.lm5, Value.int .u8 x.c.wm0, Value.int .u8 x.c.wm1, Value.int .u8 x.c.wm2, Value.int .u8 x.c.wm3, Value.int .u8 x.c.wm4, Value.int .u8 x.c.wm5, Value.int .u8 x.c.hm0, Value.int .u8 x.c.hm1, Value.int .u8 x.c.hm2, Value.int .u8 x.c.hm3, Value.int .u8 x.c.hm4, Value.int .u8 x.c.hm5, Value.int .u32 x.c.lan, Value.int .u32 x.c.wan, Value.int .i64 x.c.bits, Value.int .i64 x.c.ms, Value.int .i64 x.c.mm, Value.int .i64 x.c.mc, Value.int .i64 x.c.mu, Value.slice x.c.fa x.fy.length x.c.fc, Value.int .u32 x.c.dmz, Value.string x.c.uu]
def in32 (x : Int) : Prop := 0 ≤ x ∧ x ≤ 4294967295
structure ElOK (w : World) (x : Cll) : Prop where
  at' : At w x.c.fa (mm Conf.fwv x.fy)
  who : in32 x.who
  lan : in32 x.c.lan
  wan : in32 x.c.wan
  dmz : in32 x.c.dmz
  hosts : ∀ f ∈ x.fy, 0 ≤ f.host ∧ f.host ≤ 4294967295
  tick : 0 ≤ x.tick
  lease : 0 ≤ x.lease
theorem el_at {w : World} {os : List Cll} (h : ∀ x ∈ os, ElOK w x) (i : Nat) : ElOK w (os.getD i cl0) := by
  by_cases hi : i < os.length
  · rw [List.getD_eq_getElem?_getD, List.getElem?_eq_getElem hi]; exact h _ (List.getElem_mem hi)
  · rw [List.getD_eq_getElem?_getD, List.getElem?_eq_none ma3]
    exact ⟨At.nil _ _, ⟨by decide, by decide⟩, ⟨by decide, by decide⟩, ⟨by decide, by decide⟩, ⟨by decide, by decide⟩, fun f hf => (by cases hf), by decide, by decide⟩
def grQ (x : Cll) : Bool := decide (((x.e.words.size : Nat) : Int) > 1000) || decide (((x.fy.length : Nat) : Int) > 40)
def grt (os : List Cll) : Bool := decide (((os.length : Nat) : Int) > 100) || os.any grQ
theorem grt_no {os : List Cll} (h : grt os = false) : os.length ≤ 100 ∧ ∀ i, i < os.length → (os.getD i cl0).fy.length ≤ 40 := by
  unfold grt at h
  rw [Bool.or_eq_false_iff] at h
  have h1 := of_decide_eq_false h.1
  refine ⟨by omega, fun i hi => ?_⟩
  have h2 := h.2
  rw [List.any_eq_false] at h2
  have h3 := h2 (os.getD i cl0) (by rw [List.getD_eq_getElem?_getD, List.getElem?_eq_getElem hi]; exact List.getElem_mem hi)
  unfold grQ at h3
  simp only [Bool.or_eq_true, decide_eq_true_eq, not_or] at h3
  omega
theorem ckc_len {c : Conf.Cfg} {fy : List Conf.Fwd} (hfl : c.fl = fy.length) (h : ckc c fy = 0) : fy.length ≤ 32 ∧ 1 ≤ c.mm := by
  unfold ckc Conf.chk at h
  cases hb : Conf.headbad c with
  | true => rw [hb] at h; simp at h
  | false =>
    unfold Conf.headbad at hb
    simp only [Bool.or_eq_false_iff] at hb
    have h4 := hb.2.2.2.1
    have h5 := hb.2.2.2.2
    unfold Conf.b4 at h4
    unfold Conf.b5 at h5
    simp only [Bool.or_eq_false_iff, decide_eq_false_iff_not] at h4 h5
    constructor
    · omega
    · omega
theorem great_c (os : List Cll) (na : Option Addr) (ncap : Nat) (w : World) (hos : At w na (mm clC os)) (hon : os.length ≤ 9223372036854775807) : Calls Try.prog 27 #[Value.slice na os.length ncap] w (Ret w (.bool (grt os))) := by
 refine calls_W (M := []) (LL := []) (n := 27) Try.func27 rfl rfl ma7 (Mem.refl _) (W.seq (fun K1 hK1 => ?_))
 refine W.region (Wl.run 1 ma0 (Wl.nil (hK1 _ _ _ (W.seq (fun K2 hK2 => ?_)))))
 refine W.seq (fun K3 hK3 => W.region (Wl.run 3 ma0 (Wl.nil (hK3 _ _ _ ?_))))
 refine W.prune' [0, 7] [Value.slice na os.length ncap, bV (decide (((os.length : Nat) : Int) > 100))] ma0 (fun f4 => ?_)
 refine W.cond (decide (((os.length : Nat) : Int) > 100)) ma0 (fun h5 => ?_) (fun h6 => ?_)
 ·refine W.seq (fun K7 hK7 => W.region (Wl.run 1 ma0 (Wl.nil (hK7 _ _ _ ?_))))
  refine W.ret ?_
  show ∀ w_, _ → bodyPostM (fence none) 0 Try.prog Try.f27 _ Exit.ret _ w_
  exact fun w_ hS_ => fin_ret (ret1 rfl (RV.tmp (v := bV true) ma0) hS_ ⟨by clear hK1 hK2 hK3 hK7; refine congrArg Ending.returned ?_; exact bool_congr (by unfold grt; rw [h5]; rfl), hS_.below⟩)
 ·have qh6 := h6; try simp only [zA] at qh6
  refine W.skip' (hK2 _ _ _ (W.prune' [0] [Value.slice na os.length ncap] ma0 (fun f8 => W.seq (fun K9 hK9 => W.seq (fun K10 hK10 => ?_)))))
  refine W.region (Wl.run 3 ma0 (Wl.nil (hK10 _ _ _ (W.prune' [8, 9, 10] [Value.slice na os.length ncap, nV .i64 os.length, iV .i64 0] ma0 (fun f11 => ?_)))))
  refine W.block (W.loop1 [8, 9, 10] (fun (i : Nat) => [Value.slice na os.length ncap, nV .i64 os.length, nV .i64 i]) (fun (i : Nat) => i ≤ os.length ∧ ∀ j, j < i → grQ (os.getD j cl0) = false) (fun (i : Nat) => []) (fun (i : Nat) => os.length - i) 0 ma0 ⟨(Nat.zero_le _), (fun j hj => absurd hj (Nat.not_lt_zero j))⟩ (by rfl) (fun i f13 J12 hp14 hJ12 => ?_))
  obtain ⟨hi, hno⟩ := hp14
  refine W.seq (fun K15 hK15 => W.region (Wl.run 1 ma0 (Wl.nil (hK15 _ _ _ ?_))))
  refine W.seq (fun K16 hK16 => ?_)
  refine W.cond (decide (((i : Nat) : Int) < (os.length : Int))) ma0 (fun h17 => ?_) (fun h18 => ?_)
  ·have qh17 := h17; try simp only [zA] at qh17
   refine W.skip' (hK16 _ _ _ (W.prune' [8, 9, 10] [Value.slice na os.length ncap, nV .i64 os.length, nV .i64 i] ma0 (fun f19 => W.seq (fun K20 hK20 => W.block ?_))))
   refine W.seq (fun K21 hK21 => W.region (Wl.ys (v := Value.pointer (some (ela na (i * 41)))) rfl rfl (Ys.byMem fun w_ h_ => Ys.indexAddr (k := .i64) (a := na) (len := os.length) (cap := ncap) (i := (i : Int)) (sz := 41) rfl ma0 ma0 Try.runUnderlying71 Try.sizeOf74 ma3 ma3 ((hos.mem0 h_).here (by rw [mm_len (g := clC) (sz := 41) (fun _ => rfl)]; first | omega | (simp; omega)))) (Wl.ys (v := aV (clC (os.getD i cl0))) rfl rfl (Ys.ldN (a := ela na (i * 41)) (vs := (clC (os.getD i cl0))) rfl ma0 Try.isAgg74 Try.sizeOf74 rfl (fun w_ h_ => (hos.mem0 h_).ldN (mm_get (g := clC) (sz := 41) (fun _ => rfl) cl0 (xs := os) (k := i) ma3))) (Wl.ht rfl (Ht.alloc (z := aV [iV .i64 0, iV .i64 0, iV .u32 0, iV .u8 0, iV .u16 0, iV .u16 0, iV .u32 0, iV .u32 0, bV false, Value.string (bstr []), iV .u64 0, iV .u64 0, iV .u64 0, iV .u8 0, iV .u8 0, iV .u8 0, iV .u8 0, iV .u8 0, iV .u8 0, iV .u8 0, iV .u8 0, iV .u8 0, iV .u8 0, iV .u8 0, iV .u8 0, iV .u8 0, iV .u8 0, iV .u8 0, iV .u8 0, iV .u8 0, iV .u8 0, iV .u32 0, iV .u32 0, iV .i64 0, iV .i64 0, iV .i64 0, iV .i64 0, iV .i64 0, Value.slice none 0 0, iV .u32 0, Value.string (bstr [])]) (cs := [iV .i64 0, iV .i64 0, iV .u32 0, iV .u8 0, iV .u16 0, iV .u16 0, iV .u32 0, iV .u32 0, bV false, Value.string (bstr []), iV .u64 0, iV .u64 0, iV .u64 0, iV .u8 0, iV .u8 0, iV .u8 0, iV .u8 0, iV .u8 0, iV .u8 0, iV .u8 0, iV .u8 0, iV .u8 0, iV .u8 0, iV .u8 0, iV .u8 0, iV .u8 0, iV .u8 0, iV .u8 0, iV .u8 0, iV .u8 0, iV .u8 0, iV .u32 0, iV .u32 0, iV .i64 0, iV .i64 0, iV .i64 0, iV .i64 0, iV .i64 0, Value.slice none 0 0, iV .u32 0, Value.string (bstr [])]) rfl rfl Try.zeroValue74 rfl) (fun p4 => ?_)))))
   refine Wl.ht rfl (Ht.storeN (b := p4) (o' := 0) (i := 0) (j := 0) (vs := (clC (os.getD i cl0))) (LL' := [[cb p4 (clC (os.getD i cl0)) 74]]) rfl rfl ma0 ma0 Try.sizeOf74 ma9 rfl rfl ma7 rfl rfl) (fun _ => Wl.nil (hK21 _ _ _ (W.prune' [4, 8, 9, 10] [pV p4 0, Value.slice na os.length ncap, nV .i64 os.length, nV .i64 i] ma0 (fun f22 => W.seq (fun K23 hK23 => ?_)))))
   refine W.region (Wl.run 2 ma0 (Wl.ys rfl rfl (Ys.l1 p4 9 0 0 Try.isAgg9) (Wl.run 3 ma0 ?_)))
   refine Wl.guard (v := pV p4 13) (!(decide ((((((os.getD i cl0).e).words).size : Nat) : Int) > 1000))) rfl (wantF rfl ma0) rfl (fun hg24 => ?_) ?_
   ·exact Ys.pure (fun _ => kr)
   refine Wl.guard (v := pV p4 38) (!(decide ((((((os.getD i cl0).e).words).size : Nat) : Int) > 1000))) rfl (wantF rfl ma0) rfl (fun hg25 => ?_) ?_
   ·have qhg25 := hg25; try simp only [zA] at qhg25
    refine Ys.at (t := 20) (v0 := pV p4 13) (lz (g := !(decide ((((((os.getD i cl0).e).words).size : Nat) : Int) > 1000))) (u := undef) hg25 ma0) ?_
    exact Ys.pure (fun _ => kr)
   refine Wl.guard (v := Value.slice ((os.getD i cl0).c.fa) ((os.getD i cl0).fy.length) ((os.getD i cl0).c.fc)) (!(decide ((((((os.getD i cl0).e).words).size : Nat) : Int) > 1000))) rfl (wantF rfl ma0) rfl (fun hg26 => ?_) ?_
   ·have qhg26 := hg26; try simp only [zA] at qhg26
    refine Ys.at (t := 21) (v0 := pV p4 38) (lz (g := !(decide ((((((os.getD i cl0).e).words).size : Nat) : Int) > 1000))) (u := undef) hg26 ma0) ?_
    exact Ys.l1 p4 38 0 0 Try.isAgg26
   refine Wl.guard (v := nV .i64 ((os.getD i cl0).fy.length)) (!(decide ((((((os.getD i cl0).e).words).size : Nat) : Int) > 1000))) rfl (wantF rfl ma0) rfl (fun hg27 => ?_) ?_
   ·have qhg27 := hg27; try simp only [zA] at qhg27
    refine Ys.at (t := 22) (v0 := Value.slice ((os.getD i cl0).c.fa) ((os.getD i cl0).fy.length) ((os.getD i cl0).c.fc)) (lz (g := !(decide ((((((os.getD i cl0).e).words).size : Nat) : Int) > 1000))) (u := undef) hg27 ma0) ?_
    exact Ys.pure (fun _ => kr)
   refine Wl.guard (v := bV (decide ((((os.getD i cl0).fy.length : Nat) : Int) > 40))) (!(decide ((((((os.getD i cl0).e).words).size : Nat) : Int) > 1000))) rfl (wantF rfl ma0) rfl (fun hg28 => ?_) ?_
   ·have qhg28 := hg28; try simp only [zA] at qhg28
    refine Ys.at (t := 23) (v0 := nV .i64 ((os.getD i cl0).fy.length)) (lz (g := !(decide ((((((os.getD i cl0).e).words).size : Nat) : Int) > 1000))) (u := undef) hg28 ma0) ?_
    exact Ys.pure (fun _ => kr)
   refine Wl.ys (v := bV ((decide ((((((os.getD i cl0).e).words).size : Nat) : Int) > 1000)) || (decide ((((os.getD i cl0).fy.length : Nat) : Int) > 40)))) rfl rfl (Ys.or' (e := decide ((((((os.getD i cl0).e).words).size : Nat) : Int) > 1000)) (b := decide ((((os.getD i cl0).fy.length : Nat) : Int) > 40)) rfl ma0 ma0 ma0) (Wl.nil (hK23 _ _ _ (W.prune' [8, 9, 10, 20, 21, 22, 23, 24, 25] [Value.slice na os.length ncap, nV .i64 os.length, nV .i64 i, (bif !(decide ((((((os.getD i cl0).e).words).size : Nat) : Int) > 1000)) then pV p4 13 else undef), (bif !(decide ((((((os.getD i cl0).e).words).size : Nat) : Int) > 1000)) then pV p4 38 else undef), (bif !(decide ((((((os.getD i cl0).e).words).size : Nat) : Int) > 1000)) then Value.slice ((os.getD i cl0).c.fa) ((os.getD i cl0).fy.length) ((os.getD i cl0).c.fc) else undef), (bif !(decide ((((((os.getD i cl0).e).words).size : Nat) : Int) > 1000)) then nV .i64 ((os.getD i cl0).fy.length) else undef), (bif !(decide ((((((os.getD i cl0).e).words).size : Nat) : Int) > 1000)) then bV (decide ((((os.getD i cl0).fy.length : Nat) : Int) > 40)) else undef), bV ((decide ((((((os.getD i cl0).e).words).size : Nat) : Int) > 1000)) || (decide ((((os.getD i cl0).fy.length : Nat) : Int) > 40)))] ma0 (fun f29 => ?_))))
   refine W.cond ((decide ((((((os.getD i cl0).e).words).size : Nat) : Int) > 1000)) || (decide ((((os.getD i cl0).fy.length : Nat) : Int) > 40))) ma0 (fun h30 => ?_) (fun h31 => ?_)
   ·have qh30 := h30; try simp only [zA] at qh30
    refine W.seq (fun K32 hK32 => W.region (Wl.run 1 ma0 (Wl.nil (hK32 _ _ _ ?_))))
    refine W.ret ?_
    show ∀ w_, _ → bodyPostM (fence none) 0 Try.prog Try.f27 _ Exit.ret _ w_
    exact fun w_ hS_ => fin_ret (ret1 rfl (RV.tmp (v := bV true) ma0) hS_ ⟨by clear hK1 hK2 hK3 hK9 hK10 hJ12 hK15 hK16 hK20 hK21 hK23 hK32; refine congrArg Ending.returned ?_; exact bool_congr (by unfold grt; rw [any_some cl0 ma3 (show grQ (os.getD i cl0) = true from h30), Bool.or_true]), hS_.below⟩)
   ·have qh31 := h31; try simp only [zA] at qh31
    refine W.skip' (hK20 _ _ _ (W.prune' [8, 9, 10, 20, 21, 22, 23, 24] [Value.slice na os.length ncap, nV .i64 os.length, nV .i64 i, (bif !(decide ((((((os.getD i cl0).e).words).size : Nat) : Int) > 1000)) then pV p4 13 else undef), (bif !(decide ((((((os.getD i cl0).e).words).size : Nat) : Int) > 1000)) then pV p4 38 else undef), (bif !(decide ((((((os.getD i cl0).e).words).size : Nat) : Int) > 1000)) then Value.slice ((os.getD i cl0).c.fa) ((os.getD i cl0).fy.length) ((os.getD i cl0).c.fc) else undef), (bif !(decide ((((((os.getD i cl0).e).words).size : Nat) : Int) > 1000)) then nV .i64 ((os.getD i cl0).fy.length) else undef), (bif !(decide ((((((os.getD i cl0).e).words).size : Nat) : Int) > 1000)) then bV (decide ((((os.getD i cl0).fy.length : Nat) : Int) > 40)) else undef)] ma0 (fun f33 => W.region (Wl.ys (v := nV .i64 (i + 1)) rfl rfl ((Ys.pure (v := .int .i64 (iadd .i64 (i : Int) 1)) (fun _ => kr)).conseq (int_congr (iadd_eq ma3 ma3 ma3))) ?_))))
    refine Wl.run 1 ma0 (Wl.nil ?_)
    refine fun w_ h_ => hJ12 (i + 1) _ w_ ma3 ⟨ma3, (fun j hj => (Nat.lt_succ_iff_lt_or_eq.1 hj).elim (hno j) (fun e_ => by subst e_; exact h31))⟩ ?_ (h_.pick [] ma1 rfl)
    kernel_rfl
  ·have qh18 := h18; try simp only [zA] at qh18
   refine W.exit (hK9 _ _ _ (W.prune' [] [] ma0 (fun f34 => W.seq (fun K35 hK35 => W.region ?_))))
   refine Wl.run 1 ma0 (Wl.nil (hK35 _ _ _ (W.ret ?_)))
   show ∀ w_, _ → bodyPostM (fence none) 0 Try.prog Try.f27 _ Exit.ret _ w_
   exact fun w_ hS_ => fin_ret (ret1 rfl (RV.tmp (v := bV false) ma0) hS_ ⟨by clear hK1 hK2 hK3 hK9 hK10 hJ12 hK15 hK16 hK35; refine congrArg Ending.returned ?_; exact bool_congr (by unfold grt; rw [h6, any_none cl0 (fun j hj => hno j ma3)]; rfl), hS_.below⟩)
theorem dnew_c (lm0 lm1 lm2 lm3 lm4 lm5 wm0 wm1 wm2 wm3 wm4 wm5 hm0 hm1 hm2 hm3 hm4 hm5 lan wan bits ms m_m m_c m_u dmz : Int) (uu : ByteArray) (fa : Option Addr) (fl fc : Nat) (w : World) : Calls Try.prog 29 #[aV [iV .u8 lm0, iV .u8 lm1, iV .u8 lm2, iV .u8 lm3, iV .u8 lm4, iV .u8 lm5, iV .u8 wm0, iV .u8 wm1, iV .u8 wm2, iV .u8 wm3, iV .u8 wm4, iV .u8 wm5, iV .u8 hm0, iV .u8 hm1, iV .u8 hm2, iV .u8 hm3, iV .u8 hm4, iV .u8 hm5, iV .u32 lan, iV .u32 wan, iV .i64 bits, iV .i64 ms, iV .i64 m_m, iV .i64 m_c, iV .i64 m_u, Value.slice fa fl fc, iV .u32 dmz, Value.string uu]] w (RetM w (fun _ : Nat => True) (fun b => .pointer (some ⟨b, 0, none⟩)) [] (fun b => [[cb b [iV .u8 lm0, iV .u8 lm1, iV .u8 lm2, iV .u8 lm3, iV .u8 lm4, iV .u8 lm5, iV .u8 wm0, iV .u8 wm1, iV .u8 wm2, iV .u8 wm3, iV .u8 wm4, iV .u8 wm5, iV .u8 hm0, iV .u8 hm1, iV .u8 hm2, iV .u8 hm3, iV .u8 hm4, iV .u8 hm5, iV .u32 lan, iV .u32 wan, iV .i64 bits, iV .i64 ms, iV .i64 m_m, iV .i64 m_c, iV .i64 m_u, Value.slice fa fl fc, iV .u32 dmz, Value.string uu, Value.slice none 0 0, iV .u32 0] 133]])) := by
 refine calls_W (M := []) (LL := []) (n := 6) Try.func29 rfl rfl ma7 (Mem.refl _) (W.seq (fun K1 hK1 => ?_))
 refine W.region (Wl.ht rfl (Ht.box (v := aV [iV .u8 lm0, iV .u8 lm1, iV .u8 lm2, iV .u8 lm3, iV .u8 lm4, iV .u8 lm5, iV .u8 wm0, iV .u8 wm1, iV .u8 wm2, iV .u8 wm3, iV .u8 wm4, iV .u8 wm5, iV .u8 hm0, iV .u8 hm1, iV .u8 hm2, iV .u8 hm3, iV .u8 hm4, iV .u8 hm5, iV .u32 lan, iV .u32 wan, iV .i64 bits, iV .i64 ms, iV .i64 m_m, iV .i64 m_c, iV .i64 m_u, Value.slice fa fl fc, iV .u32 dmz, Value.string uu]) (cs := [iV .u8 lm0, iV .u8 lm1, iV .u8 lm2, iV .u8 lm3, iV .u8 lm4, iV .u8 lm5, iV .u8 wm0, iV .u8 wm1, iV .u8 wm2, iV .u8 wm3, iV .u8 wm4, iV .u8 wm5, iV .u8 hm0, iV .u8 hm1, iV .u8 hm2, iV .u8 hm3, iV .u8 hm4, iV .u8 hm5, iV .u32 lan, iV .u32 wan, iV .i64 bits, iV .i64 ms, iV .i64 m_m, iV .i64 m_c, iV .i64 m_u, Value.slice fa fl fc, iV .u32 dmz, Value.string uu]) rfl rfl ma0 rfl) (fun p1 => ?_))
 refine Wl.run 1 ma0 (Wl.nil (hK1 _ _ _ (W.prune' [1] [pV p1 0] ma0 (fun f2 => W.seq (fun K3 hK3 => ?_)))))
 refine W.region (Wl.ys rfl rfl (Ys.loadN (b := p1) (o' := 0) (i := 0) (j := 0) (vs := [iV .u8 lm0, iV .u8 lm1, iV .u8 lm2, iV .u8 lm3, iV .u8 lm4, iV .u8 lm5, iV .u8 wm0, iV .u8 wm1, iV .u8 wm2, iV .u8 wm3, iV .u8 wm4, iV .u8 wm5, iV .u8 hm0, iV .u8 hm1, iV .u8 hm2, iV .u8 hm3, iV .u8 hm4, iV .u8 hm5, iV .u32 lan, iV .u32 wan, iV .i64 bits, iV .i64 ms, iV .i64 m_m, iV .i64 m_c, iV .i64 m_u, Value.slice fa fl fc, iV .u32 dmz, Value.string uu]) rfl ma0 Try.isAgg28 Try.sizeOf28 rfl rfl rfl rfl) (Wl.run 1 ma0 (Wl.ht rfl (Ht.box (v := aV [iV .u8 lm0, iV .u8 lm1, iV .u8 lm2, iV .u8 lm3, iV .u8 lm4, iV .u8 lm5, iV .u8 wm0, iV .u8 wm1, iV .u8 wm2, iV .u8 wm3, iV .u8 wm4, iV .u8 wm5, iV .u8 hm0, iV .u8 hm1, iV .u8 hm2, iV .u8 hm3, iV .u8 hm4, iV .u8 hm5, iV .u32 lan, iV .u32 wan, iV .i64 bits, iV .i64 ms, iV .i64 m_m, iV .i64 m_c, iV .i64 m_u, Value.slice fa fl fc, iV .u32 dmz, Value.string uu, Value.slice none 0 0, iV .u32 0]) (cs := [iV .u8 lm0, iV .u8 lm1, iV .u8 lm2, iV .u8 lm3, iV .u8 lm4, iV .u8 lm5, iV .u8 wm0, iV .u8 wm1, iV .u8 wm2, iV .u8 wm3, iV .u8 wm4, iV .u8 wm5, iV .u8 hm0, iV .u8 hm1, iV .u8 hm2, iV .u8 hm3, iV .u8 hm4, iV .u8 hm5, iV .u32 lan, iV .u32 wan, iV .i64 bits, iV .i64 ms, iV .i64 m_m, iV .i64 m_c, iV .i64 m_u, Value.slice fa fl fc, iV .u32 dmz, Value.string uu, Value.slice none 0 0, iV .u32 0]) rfl rfl ma0 rfl) (fun p5 => Wl.run 1 ma0 ?_))))
 refine Wl.nil (hK3 _ _ _ (W.pick (LL' := [[cb p5 [iV .u8 lm0, iV .u8 lm1, iV .u8 lm2, iV .u8 lm3, iV .u8 lm4, iV .u8 lm5, iV .u8 wm0, iV .u8 wm1, iV .u8 wm2, iV .u8 wm3, iV .u8 wm4, iV .u8 wm5, iV .u8 hm0, iV .u8 hm1, iV .u8 hm2, iV .u8 hm3, iV .u8 hm4, iV .u8 hm5, iV .u32 lan, iV .u32 wan, iV .i64 bits, iV .i64 ms, iV .i64 m_m, iV .i64 m_c, iV .i64 m_u, Value.slice fa fl fc, iV .u32 dmz, Value.string uu, Value.slice none 0 0, iV .u32 0] 133]]) [0] ma1 rfl (W.prune' [2] [pV p5 0] ma0 (fun f4 => W.ret ?_))))
 show ∀ w_, _ → bodyPostM (fence none) 0 Try.prog Try.f29 _ Exit.ret _ w_
 exact fun w_ hS_ => fin_ret (ret1 rfl (RV.tmp (v := pV p5 0) ma0) hS_ ⟨p5, trivial, rfl, (hS_.pick [0] ma1 rfl)⟩)
abbrev cE (os : List Cll) (i : Nat) : Cll := os.getD i cl0
abbrev eK (os : List Cll) (i : Nat) : Int := (((cE os i).kd % 16).toNat : Nat)
end Go.Proofs.Ytjkhmbigoloeiaa.Oct
