import Derived.Test.YtmonlaoaengfdaaGreatDoorM18
import Derived.Test.YtmonlaoaengfdaaGreatDoorM4
set_option linter.unusedVariables false
set_option linter.unusedSimpArgs false
set_option maxRecDepth 20000
namespace Go.Proofs.YtmonlaoaengfdaaGreatDoor.Oct
open Go.RowKit Base
attribute [local irreducible] Ys Yc Ht HtS HtIn Wl Wd W Mem pf dpf
def pw : List UInt8 → List Nat
  | [] => []
  | [x] => [x.toNat * 256]
  | x :: y :: l => (x.toNat * 256 + y.toNat) :: pw l
theorem pw_len : ∀ xs : List UInt8, (pw xs).length = (xs.length + 1) / 2
  | [] => rfl
  | [x] => by simp [pw]
  | x :: y :: l => by simp only [pw, List.length_cons, pw_len l]; omega
theorem pw_get1 : ∀ (xs : List UInt8) (k : Nat), 2 * k + 1 < xs.length → (pw xs).getD k 0 = (xs.getD (2 * k) 0).toNat * 256 + (xs.getD (2 * k + 1) 0).toNat
  | [], k, h => by simp at h
  | [_], k, h => by simp at h
  | x :: y :: l, 0, h => by simp [pw]
  | x :: y :: l, k + 1, h => by
    have := pw_get1 l k (by simp at h; omega)
    simp only [pw, List.getD_cons_succ, this, show 2 * (k + 1) = 2 * k + 1 + 1 by omega, show 2 * k + 1 + 1 + 1 = 2 * k + 1 + 1 + 1 by rfl]
theorem pw_get0 : ∀ (xs : List UInt8) (k : Nat), 2 * k + 1 = xs.length → (pw xs).getD k 0 = (xs.getD (2 * k) 0).toNat * 256
  | [], k, h => by simp at h
  | [x], k, h => by
    obtain rfl : k = 0 := by simp at h; omega
    simp [pw]
  | x :: y :: l, 0, h => by simp at h
  | x :: y :: l, k + 1, h => by
    have := pw_get0 l k (by simp at h; omega)
    simp only [pw, List.getD_cons_succ, this, show 2 * (k + 1) = 2 * k + 1 + 1 by omega]
theorem pw_lt (xs : List UInt8) (k : Nat) : (pw xs).getD k 0 < 65536 := by
  by_cases h : k < (pw xs).length
  · have hl := pw_len xs
    rcases Nat.lt_or_ge (2 * k + 1) xs.length with h1 | h1
    · rw [pw_get1 xs k h1]
      have := UInt8.toNat_lt (xs.getD (2 * k) 0); have := UInt8.toNat_lt (xs.getD (2 * k + 1) 0); omega
    · rw [pw_get0 xs k ma1]
      have := UInt8.toNat_lt (xs.getD (2 * k) 0); omega
  · rw [List.getD_eq_getElem?_getD, List.getElem?_eq_none ma1]; decide
theorem pairs_mk (a : Option Addr) (len cap : Nat) (w : World) : Calls Tryz.prog 177 #[Value.slice a len cap] w (RetM w (fun _ : Nat => True) (fun b => .func (.func 185) #[] #[.pointer (some ⟨b, 0, none⟩)]) [] (fun b => [[cb b [.slice a len cap] 38]])) := by
 refine calls_W (M := []) (LL := []) (n := 4) Tryz.func177 rfl rfl ma6 (Mem.refl _) (W.seq (fun K1 hK1 => ?_))
 refine W.region (Wl.ht rfl (Ht.box (v := Value.slice a len cap) (cs := [Value.slice a len cap]) rfl rfl ma0 rfl) (fun p1 => ?_))
 refine Wl.run 1 ma0 (Wl.nil (hK1 _ _ _ (W.prune' [1] [pV p1 0] ma0 (fun f2 => W.seq (fun K3 hK3 => ?_)))))
 refine W.region (Wl.run 2 ma0 (Wl.nil (hK3 _ _ _ (W.prune' [2] [Value.func (.func 185) #[] #[pV p1 0]] ma0 (fun f4 => ?_)))))
 refine W.ret ?_
 show ∀ w_, _ → bodyPostM (fence none) 0 Tryz.prog Tryz.f177 _ Exit.ret _ w_
 exact fun w_ hS_ => fin_ret (ret1 rfl (RV.tmp (v := Value.func (.func 185) #[] #[pV p1 0]) ma0) hS_ ⟨p1, trivial, rfl, hS_⟩)
theorem pw_step {xs : List UInt8} {k : Nat} (h : 2 * k < xs.length) : (pw xs).take (k + 1) = (pw xs).take k ++ [(pw xs).getD k 0] := by
  have hl := pw_len xs
  have hk : k < (pw xs).length := by omega
  rw [List.take_add_one]; simp [hk]
theorem pw_or {xs : List UInt8} {k : Nat} (h : 2 * k + 1 < xs.length) : (xs.getD (2 * k) 0).toNat * 256 % 65536 ||| (xs.getD (2 * k + 1) 0).toNat = (pw xs).getD k 0 := by
  have h1 := UInt8.toNat_lt (xs.getD (2 * k) 0); have h2 := UInt8.toNat_lt (xs.getD (2 * k + 1) 0)
  rw [pw_get1 xs k h, Nat.mod_eq_of_lt ma1, show (xs.getD (2 * k) 0).toNat * 256 = (xs.getD (2 * k) 0).toNat * 2 ^ 8 by rfl, shl_or h2]
theorem pw_lone {xs : List UInt8} {k : Nat} (h : 2 * k < xs.length) (h1 : ¬ 2 * k + 1 < xs.length) : (xs.getD (2 * k) 0).toNat * 256 % 65536 = (pw xs).getD k 0 := by
  have h2 := UInt8.toNat_lt (xs.getD (2 * k) 0)
  rw [pw_get0 xs k ma1, Nat.mod_eq_of_lt ma1]
end Go.Proofs.YtmonlaoaengfdaaGreatDoor.Oct
namespace Go.Proofs.YtmonlaoaengfdaaGreatDoor.Oct
open Go.RowKit Base
attribute [local irreducible] Ys Yc Ht HtS HtIn Wl Wd W Mem pf dpf
theorem pw_add {xs : List UInt8} {k : Nat} (h : 2 * k + 1 < xs.length) : (256 * (xs.getD (2 * k) 0).toNat % 65536 + (xs.getD (2 * k + 1) 0).toNat) % 65536 = (pw xs).getD k 0 := by
  have h1 := UInt8.toNat_lt (xs.getD (2 * k) 0); have h2 := UInt8.toNat_lt (xs.getD (2 * k + 1) 0)
  rw [pw_get1 xs k h]; omega
theorem pw_lone2 {xs : List UInt8} {k : Nat} (h : 2 * k < xs.length) (h1 : ¬ 2 * k + 1 < xs.length) : 256 * (xs.getD (2 * k) 0).toNat % 65536 = (pw xs).getD k 0 := by
  have h2 := UInt8.toNat_lt (xs.getD (2 * k) 0)
  rw [pw_get0 xs k ma1]; omega
theorem rpairs_c (xs : List UInt8) (a : Option Addr) (cap : Nat) (w : World) (hat : At w a (byc xs)) (hy : xs.length ≤ 1000000000) : Calls Tryz.prog 158 #[Value.slice a xs.length cap] w (RetM w (fun g : FS => g.ok 1 (pw xs).length) (fun g => .slice g.a (pw xs).length g.cap) [] (fun g => [g.seg 22 (mc n16 (pw xs))])) := by
 refine calls_W (M := []) (LL := []) (n := 37) Tryz.func158 rfl rfl ma6 (Mem.refl _) (W.seq (fun K1 hK1 => ?_))
 refine W.region (Wl.run 1 ma0 (Wl.nil (hK1 _ _ _ (W.seq (fun K2 hK2 => ?_)))))
 refine W.region (Wl.ht rfl (Ht.made (mk := fun b_ => .slice (some ⟨b_, 0, none⟩) 0 0) (t := 22) (cs := []) rfl (fun _ => kr)) (fun p6 => ?_))
 refine Wl.run 1 ma0 (Wl.nil (hK2 _ _ _ (W.prune' [0, 3] [Value.slice a xs.length cap, Value.slice (some ⟨p6, 0, none⟩) 0 0] ma0 (fun f3 => W.seq (fun K4 hK4 => ?_)))))
 refine W.seq (fun K5 hK5 => W.region (Wl.run 1 ma0 (Wl.nil (hK5 _ _ _ ?_))))
 refine W.block (W.loop2 [0, 3, 4] (fun (k : Nat) (h : FS) => [Value.slice a xs.length cap, Value.slice h.a k h.cap, nV .i64 (2 * k)]) (fun (k : Nat) (h : FS) => k ≤ (pw xs).length ∧ h.ok 1 k) (fun (k : Nat) (h : FS) => [h.seg 22 (mc n16 ((pw xs).take k))]) (fun (k : Nat) (h : FS) => (pw xs).length - k) 0 ⟨false, p6, 0, []⟩ (Eq.trans (b := ([Value.slice a xs.length cap, Value.slice (some ⟨p6, 0, none⟩) 0 0, iV .i64 0] : List Value)) ma0 (by simp [FS.a])) ⟨(Nat.zero_le _), (FS.lit_ok ma2)⟩ (by simp [mc, FS.seg]) (fun k h f7 J6 hp8 hJ6 => ?_))
 obtain ⟨hk, okh⟩ := hp8
 have hpl := pw_len xs
 refine W.seq (fun K9 hK9 => W.seq (fun K10 hK10 => ?_))
 refine W.region (Wl.run 4 ma0 (Wl.nil (hK10 _ _ _ (W.prune' [0, 3, 4, 10] [Value.slice a xs.length cap, Value.slice h.a k h.cap, nV .i64 (2 * k), bV (decide (((2 * k : Nat) : Int) < (xs.length : Int)))] ma0 (fun f11 => ?_)))))
 refine W.cond (decide (((2 * k : Nat) : Int) < (xs.length : Int))) ma0 (fun h12 => ?_) (fun h13 => ?_)
 ·have qh12 := h12; try simp only [zA] at qh12
  refine W.skip' (hK9 _ _ _ (W.prune' [0, 3, 4] [Value.slice a xs.length cap, Value.slice h.a k h.cap, nV .i64 (2 * k)] ma0 (fun f14 => W.seq (fun K15 hK15 => W.block ?_))))
  refine W.seq (fun K16 hK16 => W.region (Wl.run 2 ma0 (Wl.ys (v := Value.pointer (some (ela a ((2 * k) * 1)))) rfl rfl (Ys.byMem fun w_ h_ => Ys.indexAddr (k := .i64) (a := a) (len := xs.length) (cap := cap) (i := ((2 * k : Nat) : Int)) (sz := 1) rfl ma0 ma0 Tryz.runUnderlying38 Tryz.sizeOf5 ma1 ma1 ((hat.mem0 h_).here ma14)) (Wl.ys (v := nV .u8 ((xs.getD (2 * k) 0).toNat)) rfl rfl (Ys.ld (a := ela a ((2 * k) * 1)) rfl ma0 Tryz.isAgg5 (fun w_ h_ => (hat.mem0 h_).ld (mc_get1 0 ma11))) ?_))))
  have hb17 : (xs.getD (2 * k) 0).toNat < 256 := UInt8.toNat_lt _
  refine Wl.ys (v := nV .u16 ((xs.getD (2 * k) 0).toNat)) rfl rfl ((Ys.pure (v := .int .u16 (icnv .u16 ((xs.getD (2 * k) 0).toNat : Int))) (fun _ => kr)).conseq (int_congr (wrap_u16 ma1 ma1))) (Wl.ys (v := nV .u16 ((256 * ((xs.getD (2 * k) 0).toNat)) % 65536)) rfl rfl ((Ys.pure (v := .int .u16 (imul .u16 ((256 : Nat) : Int) ((xs.getD (2 * k) 0).toNat : Int))) (fun _ => kr)).conseq (int_congr (imul_mod rfl))) (Wl.run 1 ma0 (Wl.nil (hK16 _ _ _ ?_))))
  refine W.prune' [0, 3, 4, 5] [Value.slice a xs.length cap, Value.slice h.a k h.cap, nV .i64 (2 * k), nV .u16 ((256 * ((xs.getD (2 * k) 0).toNat)) % 65536)] ma0 (fun f18 => W.seq (fun K19 hK19 => ?_))
  refine W.meet0 (w0 := w) (M := []) K19 [0, 3, 4, 5] ([Value.slice a xs.length cap, Value.slice h.a k h.cap, nV .i64 (2 * k), nV .u16 ((pw xs).getD k 0)]) (True) ([h.seg 22 (mc n16 ((pw xs).take k))]) (fun J20 hJ20 => ?_) (fun  f21 hp22 => ?_)
  ·refine W.seq (fun K23 hK23 => W.region (Wl.run 3 ma0 (Wl.ys (v := iV .i64 (((xs.length : Nat) : Int) - 1)) rfl rfl ((Ys.pure (v := .int .i64 (isub .i64 (xs.length : Int) 1)) (fun _ => kr)).conseq (int_congr (isub_eq rfl ma1 ma1))) (Wl.run 1 ma0 ?_))))
   refine Wl.nil (hK23 _ _ _ (W.prune' [0, 3, 4, 5, 23] [Value.slice a xs.length cap, Value.slice h.a k h.cap, nV .i64 (2 * k), nV .u16 ((256 * ((xs.getD (2 * k) 0).toNat)) % 65536), bV (decide (((2 * k : Nat) : Int) < (((xs.length : Nat) : Int) - 1)))] ma0 (fun f24 => ?_)))
   refine W.cond (decide (((2 * k : Nat) : Int) < (((xs.length : Nat) : Int) - 1))) ma0 (fun h25 => ?_) (fun h26 => ?_)
   ·have qh25 := h25; try simp only [zA] at qh25
    refine W.region (Wl.run 3 ma0 (Wl.ys (v := nV .i64 ((2 * k) + 1)) rfl rfl ((Ys.pure (v := .int .i64 (iadd .i64 ((2 * k : Nat) : Int) 1)) (fun _ => kr)).conseq (int_congr (iadd_eq ma1 ma1 ma1))) (Wl.ys (v := Value.pointer (some (ela a (((2 * k) + 1) * 1)))) rfl rfl (Ys.byMem fun w_ h_ => Ys.indexAddr (k := .i64) (a := a) (len := xs.length) (cap := cap) (i := (((2 * k) + 1 : Nat) : Int)) (sz := 1) rfl ma0 ma0 Tryz.runUnderlying38 Tryz.sizeOf5 ma1 ma1 ((hat.mem0 h_).here ma14)) (Wl.ys (v := nV .u8 ((xs.getD ((2 * k) + 1) 0).toNat)) rfl rfl (Ys.ld (a := ela a (((2 * k) + 1) * 1)) rfl ma0 Tryz.isAgg5 (fun w_ h_ => (hat.mem0 h_).ld (mc_get1 0 ma11))) ?_))))
    have hb27 : (xs.getD ((2 * k) + 1) 0).toNat < 256 := UInt8.toNat_lt _
    refine Wl.ys (v := nV .u16 ((xs.getD ((2 * k) + 1) 0).toNat)) rfl rfl ((Ys.pure (v := .int .u16 (icnv .u16 ((xs.getD ((2 * k) + 1) 0).toNat : Int))) (fun _ => kr)).conseq (int_congr (wrap_u16 ma1 ma1))) (Wl.ys (v := nV .u16 ((((256 * ((xs.getD (2 * k) 0).toNat)) % 65536) + ((xs.getD ((2 * k) + 1) 0).toNat)) % 65536)) rfl rfl ((Ys.pure (v := .int .u16 (iadd .u16 (((256 * ((xs.getD (2 * k) 0).toNat)) % 65536 : Nat) : Int) ((xs.getD ((2 * k) + 1) 0).toNat : Int))) (fun _ => kr)).conseq (int_congr (iadd_mod rfl))) (Wl.run 1 ma0 (Wl.nil ?_)))
    refine fun w_ h_ => hJ20 _ w_ trivial ?_ h_
    refine Eq.trans (b := ([Value.slice a xs.length cap, Value.slice h.a k h.cap, nV .i64 (2 * k), nV .u16 ((((256 * ((xs.getD (2 * k) 0).toNat)) % 65536) + ((xs.getD ((2 * k) + 1) 0).toNat)) % 65536)] : List Value)) ma0 (by rw [pw_add ma1])
   ·have qh26 := h26; try simp only [zA] at qh26
    refine W.skip' ?_
    refine fun w_ h_ => hJ20 _ w_ trivial ?_ h_
    refine Eq.trans (b := ([Value.slice a xs.length cap, Value.slice h.a k h.cap, nV .i64 (2 * k), nV .u16 ((256 * ((xs.getD (2 * k) 0).toNat)) % 65536)] : List Value)) ma0 (by rw [pw_lone2 ma1 ma1])
  ·refine hK19 _ _ _ (W.region (Wl.run 2 ma0 (Wl.ht rfl (Ht.made (mk := fun b_ => .slice (some ⟨b_, 0, none⟩) 1 1) (t := 22) (cs := [nV .u16 ((pw xs).getD k 0)]) rfl (fun _ => kr)) (fun p34 => Wl.htS rfl (HtS.append (eu := 22) (xv := Value.slice (some ⟨p34, 0, none⟩) 1 1) (i := 1) (g := h) (e := 22) (ii := (Tryz.prog.info? 22).getD default) (z := iV .u16 0) (sz := 1) (bytes := 2) (nn := k) (m := 1) (k := k + 1) (xs := mc n16 ((pw xs).take k)) (news := mc n16 [(pw xs).getD k 0]) (cs' := mc n16 (((pw xs).take k) ++ [(pw xs).getD k 0])) (Lo := fun g28 => [[cb p34 [nV .u16 ((pw xs).getD k 0)] 22], g28.seg 22 (mc n16 (((pw xs).take k) ++ [(pw xs).getD k 0]))]) rfl rfl ma0 ma0 ma0 ma0 ma0 ma0 ma0 ma0 ma0 rfl okh (by simp [mc]; omega) (fun _ => rfl) (Src.at (a := some ⟨p34, 0, none⟩) ma3 (fun w_ h_ => (At.lit0 (i := 0) (j := 0) (t := 22) (b := p34) h_ rfl rfl))) ma3 (mc_one (fun _ => rfl) _) ma5 ma8 ma5 (mc_app _ _) (fun _ => rfl)) (fun g28 hx33 => ?_)))))
   obtain ⟨ok29, hn30, hn31⟩ := hx33
   refine Wl.run 1 ma0 (Wl.nil (hK15 _ _ _ (W.pick (LL' := [g28.seg 22 (mc n16 (((pw xs).take k) ++ [(pw xs).getD k 0]))]) [1] ma2 rfl (W.prune' [0, 3, 4] [Value.slice a xs.length cap, sV g28 (k + 1), nV .i64 (2 * k)] ma0 (fun f34 => ?_)))))
   refine W.region (Wl.run 1 ma0 (Wl.ys (v := nV .i64 ((2 * k) + 2)) rfl rfl ((Ys.pure (v := .int .i64 (iadd .i64 ((2 * k : Nat) : Int) 2)) (fun _ => kr)).conseq (int_congr (iadd_eq ma1 ma1 ma1))) (Wl.run 1 ma0 (Wl.nil ?_))))
   refine fun w_ h_ => hJ6 (k + 1) g28 _ w_ ma1 ⟨ma1, (by simpa using ok29)⟩ ?_ (Mem.cast (LL := [g28.seg 22 (mc n16 (((pw xs).take k) ++ [(pw xs).getD k 0]))]) (by rw [pw_step ma1]) h_)
   refine Eq.trans (b := ([Value.slice a xs.length cap, sV g28 (k + 1), nV .i64 ((2 * k) + 2)] : List Value)) ma0 (by simp; try omega)
 ·have qh13 := h13; try simp only [zA] at qh13
  refine W.exit (hK4 _ _ _ (W.prune' [3] [Value.slice h.a k h.cap] ma0 (fun f35 => W.seq (fun K36 hK36 => W.region ?_))))
  refine Wl.run 2 ma0 (Wl.nil (hK36 _ _ _ (W.prune' [2] [Value.slice h.a k h.cap] ma0 (fun f37 => W.ret ?_))))
  show ∀ w_, _ → bodyPostM (fence none) 0 Tryz.prog Tryz.f158 _ Exit.ret _ w_
  exact fun w_ hS_ => fin_ret (ret1 rfl (RV.tmp (v := Value.slice h.a k h.cap) ma0) hS_ ⟨h, (by have hk2 : (pw xs).length = k := ma1; rw [hk2]; exact okh), congrArg Ending.returned ((by have hk2 : (pw xs).length = k := ma1; rw [hk2])), (Mem.cast (by rw [List.take_of_length_le ma1]) hS_)⟩)
theorem rpairsn_c (xs : List UInt8) (a : Option Addr) (len cap : Nat) (w : World) (hn : len = xs.length) (hat : At w a (byc xs)) (hy : xs.length ≤ 1000000000) : Calls Tryz.prog 158 #[.slice a len cap] w (RetM w (fun g : FS => g.ok 1 (pw xs).length) (fun g => .slice g.a (pw xs).length g.cap) [] (fun g => [g.seg 22 (mc n16 (pw xs))])) := by
  subst hn; exact rpairs_c xs a cap w hat hy
end Go.Proofs.YtmonlaoaengfdaaGreatDoor.Oct
namespace Go.Proofs.YtmonlaoaengfdaaGreatDoor.Oct
open Go.RowKit Base
attribute [local irreducible] Ys Yc Ht HtS HtIn Wl Wd W Mem pf dpf
structure SV where
  a : Option Addr
  xs : List UInt8
  cap : Nat
instance : Inhabited SV := ⟨⟨none, [], 0⟩⟩
abbrev slv (p : SV) : Value := .slice p.a p.xs.length p.cap
def jn (ps : List SV) : List UInt8 := (ps.map (·.xs)).flatten
theorem jn_step {ps : List SV} {k : Nat} (h : k < ps.length) : jn (ps.take (k + 1)) = jn (ps.take k) ++ (ps.getD k default).xs := by
  unfold jn; rw [List.take_add_one, List.map_append, List.flatten_append]; simp [h]
theorem jn_take_le (ps : List SV) (k : Nat) : (jn (ps.take k)).length ≤ (jn ps).length := by
  have : jn ps = jn (ps.take k) ++ jn (ps.drop k) := by unfold jn; rw [← List.flatten_append, ← List.map_append, List.take_append_drop]
  rw [this, List.length_append]; omega
theorem jn_all {ps : List SV} {k : Nat} (h : ps.length ≤ k) : jn (ps.take k) = jn ps := by rw [List.take_of_length_le h]
theorem jn_one {ps : List SV} (h : ps.length = 1) : jn ps = (ps.getD 0 default).xs := by
  match ps, h with
  | [p], _ => simp [jn]
theorem jn_take1 {ps : List SV} (h : 0 < ps.length) : jn (ps.take 1) = (ps.getD 0 default).xs := by
  match ps, h with
  | p :: _, _ => simp [jn]
theorem getD_in {ps : List SV} {k : Nat} (h : k < ps.length) : ps.getD k default ∈ ps := by
  rw [List.getD_eq_getElem?_getD, List.getElem?_eq_getElem h]; exact List.getElem_mem h
theorem getD_drop1 (ps : List SV) (k : Nat) : (ps.drop 1).getD k default = ps.getD (k + 1) default := by
  simp [List.getD_eq_getElem?_getD, List.getElem?_drop, Nat.add_comm]
theorem jn_el {ps : List SV} {k : Nat} (h : k < ps.length) : (ps.getD k default).xs.length ≤ (jn ps).length := by
  have h1 := congrArg List.length (jn_step h)
  have h2 := jn_take_le ps (k + 1)
  rw [List.length_append] at h1; omega
theorem jn_el1 {ps : List SV} {k : Nat} (h : k + 1 < ps.length) : (jn (ps.take (k + 1))).length + ((ps.drop 1).getD k default).xs.length ≤ (jn ps).length := by
  rw [getD_drop1]
  have h1 := congrArg List.length (jn_step h)
  have h2 := jn_take_le ps (k + 1 + 1)
  rw [List.length_append] at h1; omega
theorem put_take {zs ys xs : List UInt8} {k : Nat} (h : zs.take k = xs) (hk : k ≤ zs.length) (hl : k + ys.length ≤ zs.length) : (zs.take k ++ ys ++ zs.drop (k + ys.length)).take (k + ys.length) = xs ++ ys := by
  have hkl : (zs.take k ++ ys).length = k + ys.length := by simp; omega
  rw [← hkl, List.take_left, h]
theorem put_nil {zs ys xs : List UInt8} {k : Nat} (h : zs.take k = xs) : (zs.take k ++ [] ++ zs.drop (k + ([] : List UInt8).length)).take k ++ ys ++ (zs.take k ++ [] ++ zs.drop (k + ([] : List UInt8).length)).drop (k + ys.length) = zs.take k ++ ys ++ zs.drop (k + ys.length) := by
  rw [List.append_nil, List.length_nil, Nat.add_zero, List.take_append_drop]
theorem put_len {zs ys : List UInt8} {k : Nat} (hl : k + ys.length ≤ zs.length) : (zs.take k ++ ys ++ zs.drop (k + ys.length)).length = zs.length := by
  simp; omega
theorem join_c (ps : List SV) (pa : Option Addr) (pcap : Nat) (w : World) (hpa : At w pa (mc slv ps)) (hp : ∀ p ∈ ps, At w p.a (byc p.xs)) (htot : (jn ps).length ≤ 1000000000000) (hn : ps.length ≤ 1000000000) (hpc : ps.length ≤ pcap) : Calls Tryz.prog 176 #[Value.slice pa ps.length pcap, Value.slice none 0 0] w (RetM w (fun g : FS => g.ok 1 (jn ps).length ∧ (2 ≤ ps.length → g.nil = false)) (fun g => .slice g.a (jn ps).length g.cap) [] (fun g => [g.seg 5 (byc (jn ps))])) := by
 refine calls_W (M := []) (LL := []) (n := 92) Tryz.func176 rfl rfl ma6 (Mem.refl _) (W.seq (fun K1 hK1 => ?_))
 refine W.region (Wl.run 1 ma0 (Wl.nil (hK1 _ _ _ (W.seq (fun K2 hK2 => ?_)))))
 refine W.seq (fun K3 hK3 => W.region (Wl.run 3 ma0 (Wl.nil (hK3 _ _ _ ?_))))
 refine W.prune' [0, 1, 14] [Value.slice pa ps.length pcap, Value.slice none 0 0, bV (((ps.length : Nat) : Int) == 0)] ma0 (fun f4 => ?_)
 refine W.cond (((ps.length : Nat) : Int) == 0) ma0 (fun h5 => ?_) (fun h6 => ?_)
 ·have qh5 := h5; try simp only [zA] at qh5
  refine W.seq (fun K7 hK7 => W.region (Wl.ht rfl (Ht.made (mk := fun b_ => .slice (some ⟨b_, 0, none⟩) 0 0) (t := 5) (cs := []) rfl (fun _ => kr)) (fun p15 => Wl.run 1 ma0 (Wl.nil ?_))))
  refine hK7 _ _ _ (W.prune' [4] [Value.slice (some ⟨p15, 0, none⟩) 0 0] ma0 (fun f8 => ?_))
  refine W.ret ?_
  show ∀ w_, _ → bodyPostM (fence none) 0 Tryz.prog Tryz.f176 _ Exit.ret _ w_
  exact fun w_ hS_ => fin_ret (ret1 rfl (RV.tmp (v := Value.slice (some ⟨p15, 0, none⟩) 0 0) ma0) hS_ ⟨⟨false, p15, 0, []⟩, ⟨(by rw [List.length_eq_zero_iff.1 (show ps.length = 0 by omega)]; exact FS.lit_ok ma2), fun _ => rfl⟩, congrArg Ending.returned ((by rw [List.length_eq_zero_iff.1 (show ps.length = 0 by omega)]; rfl)), (Mem.cast (by rw [List.length_eq_zero_iff.1 (show ps.length = 0 by omega)]; rfl) hS_)⟩)
 ·have qh6 := h6; try simp only [zA] at qh6
  refine W.skip' (hK2 _ _ _ (W.prune' [0, 1] [Value.slice pa ps.length pcap, Value.slice none 0 0] ma0 (fun f9 => W.seq (fun K10 hK10 => W.seq (fun K11 hK11 => ?_)))))
  refine W.region (Wl.run 3 ma0 (Wl.nil (hK11 _ _ _ (W.prune' [0, 1, 18] [Value.slice pa ps.length pcap, Value.slice none 0 0, bV (((ps.length : Nat) : Int) == 1)] ma0 (fun f12 => ?_)))))
  refine W.cond (((ps.length : Nat) : Int) == 1) ma0 (fun h13 => ?_) (fun h14 => ?_)
  ·have qh13 := h13; try simp only [zA] at qh13
   refine W.seq (fun K15 hK15 => W.region (Wl.run 1 ma0 (Wl.ys (v := Value.pointer (some (ela pa 0))) rfl rfl (Ys.byMem fun w_ h_ => Ys.indexAddr (k := .i64) (a := pa) (len := ps.length) (cap := pcap) (i := 0) (sz := 1) rfl ma0 ma0 Tryz.runUnderlying284 Tryz.sizeOf38 ma1 ma1 ((hpa.mem0 h_).here ma14)) (Wl.ys (v := Value.slice ((ps.getD 0 default).a) ((ps.getD 0 default).xs.length) ((ps.getD 0 default).cap)) rfl rfl (Ys.ld (a := ela pa 0) rfl ma0 Tryz.isAgg38 (fun w_ h_ => (hpa.mem0 h_).ld (mc_get default ma11))) ?_))))
   have hb16 := jn_el (ps := ps) (k := 0) ma1
   refine Wl.push (Wl.htS rfl (HtS.append (eu := 5) (xv := Value.slice ((ps.getD 0 default).a) ((ps.getD 0 default).xs.length) ((ps.getD 0 default).cap)) (i := 0) (g := FS.nul) (e := 5) (ii := (Tryz.prog.info? 5).getD default) (z := iV .u8 0) (sz := 1) (bytes := 1) (nn := 0) (m := (ps.getD 0 default).xs.length) (k := (ps.getD 0 default).xs.length) (xs := mc b8 []) (news := mc b8 ((ps.getD 0 default).xs)) (cs' := mc b8 ((ps.getD 0 default).xs)) (Lo := fun g17 => [g17.seg 5 (mc b8 ((ps.getD 0 default).xs))]) rfl rfl ma0 ma0 ma0 ma0 ma0 ma0 ma0 ma0 ma0 rfl (FS.nul_ok _) (by first | rfl | simp [mc, be_len]) (fun _ => rfl) (Src.at (a := (ps.getD 0 default).a) ma3 (fun w_ h_ => ((hp _ (getD_in ma1)).mem0 h_))) ma3 (mc_one (fun _ => rfl) _) ma5 ma8 ma5 rfl (fun _ => rfl)) (fun g17 hx22 => ?_))
   obtain ⟨ok18, hn19, hn20⟩ := hx22
   refine Wl.run 1 ma0 (Wl.nil (hK15 _ _ _ (W.prune' [4] [sV g17 ((ps.getD 0 default).xs.length)] ma0 (fun f23 => W.ret ?_))))
   show ∀ w_, _ → bodyPostM (fence none) 0 Tryz.prog Tryz.f176 _ Exit.ret _ w_
   exact fun w_ hS_ => fin_ret (ret1 rfl (RV.tmp (v := sV g17 ((ps.getD 0 default).xs.length)) ma0) hS_ ⟨g17, ⟨(by rw [jn_one ma1]; exact ok18), fun h => absurd h ma1⟩, congrArg Ending.returned ((by rw [jn_one ma1])), (Mem.cast (by rw [jn_one ma1]) hS_)⟩)
  ·have qh14 := h14; try simp only [zA] at qh14
   refine W.skip' (hK10 _ _ _ (W.prune' [0, 1] [Value.slice pa ps.length pcap, Value.slice none 0 0] ma0 (fun f24 => W.seq (fun K25 hK25 => W.region ?_))))
   refine Wl.run 1 ma0 (Wl.nil (hK25 _ _ _ (W.seq (fun K26 hK26 => W.seq (fun K27 hK27 => ?_)))))
   refine W.region (Wl.run 3 ma0 (Wl.nil (hK27 _ _ _ (W.prune' [0, 1, 5, 25] [Value.slice pa ps.length pcap, Value.slice none 0 0, iV .i64 0, bV false] ma0 (fun f28 => ?_)))))
   refine W.condF ma0 (W.skip' (hK26 _ _ _ (W.prune' [0, 1, 5] [Value.slice pa ps.length pcap, Value.slice none 0 0, iV .i64 0] ma0 (fun f29 => W.seq (fun K30 hK30 => ?_)))))
   refine W.seq (fun K31 hK31 => W.region (Wl.run 3 ma0 (Wl.nil (hK31 _ _ _ ?_))))
   refine W.prune' [0, 1, 5, 42, 43, 44] [Value.slice pa ps.length pcap, Value.slice none 0 0, iV .i64 0, Value.slice pa ps.length pcap, nV .i64 ps.length, iV .i64 0] ma0 (fun f32 => W.block (W.loop1 [0, 1, 5, 42, 43, 44] (fun (k : Nat) => [Value.slice pa ps.length pcap, Value.slice none 0 0, nV .i64 ((jn (ps.take k)).length), Value.slice pa ps.length pcap, nV .i64 ps.length, nV .i64 k]) (fun (k : Nat) => k ≤ ps.length) (fun (k : Nat) => []) (fun (k : Nat) => ps.length - k) 0 (Eq.trans (b := ([Value.slice pa ps.length pcap, Value.slice none 0 0, iV .i64 0, Value.slice pa ps.length pcap, nV .i64 ps.length, iV .i64 0] : List Value)) ma0 (by simp [jn])) ma29 (by rfl) (fun k f34 J33 hp35 hJ33 => ?_)))
   have hk := hp35
   have htl := jn_take_le ps k; have htk := jn_take_le ps (k + 1)
   refine W.seq (fun K36 hK36 => W.region (Wl.run 1 ma0 (Wl.nil (hK36 _ _ _ ?_))))
   refine W.seq (fun K37 hK37 => ?_)
   refine W.cond (decide (((k : Nat) : Int) < (ps.length : Int))) ma0 (fun h38 => ?_) (fun h39 => ?_)
   ·have qh38 := h38; try simp only [zA] at qh38
    refine W.skip' (hK37 _ _ _ (W.prune' [0, 1, 5, 42, 43, 44] [Value.slice pa ps.length pcap, Value.slice none 0 0, nV .i64 ((jn (ps.take k)).length), Value.slice pa ps.length pcap, nV .i64 ps.length, nV .i64 k] ma0 (fun f40 => W.seq (fun K41 hK41 => W.block ?_))))
    refine W.seq (fun K42 hK42 => W.region (Wl.ys (v := Value.pointer (some (ela pa (k * 1)))) rfl rfl (Ys.byMem fun w_ h_ => Ys.indexAddr (k := .i64) (a := pa) (len := ps.length) (cap := pcap) (i := (k : Int)) (sz := 1) rfl ma0 ma0 Tryz.runUnderlying284 Tryz.sizeOf38 ma1 ma1 ((hpa.mem0 h_).here ma14)) (Wl.ys (v := Value.slice ((ps.getD k default).a) ((ps.getD k default).xs.length) ((ps.getD k default).cap)) rfl rfl (Ys.ld (a := ela pa (k * 1)) rfl ma0 Tryz.isAgg38 (fun w_ h_ => (hpa.mem0 h_).ld (mc_get1 default ma11))) ?_)))
    have hb43 := jn_el (ps := ps) (k := k) ma1
    refine Wl.run 1 ma0 (Wl.nil (hK42 _ _ _ (W.prune' [0, 1, 5, 7, 42, 43, 44] [Value.slice pa ps.length pcap, Value.slice none 0 0, nV .i64 ((jn (ps.take k)).length), Value.slice ((ps.getD k default).a) ((ps.getD k default).xs.length) ((ps.getD k default).cap), Value.slice pa ps.length pcap, nV .i64 ps.length, nV .i64 k] ma0 (fun f44 => W.seq (fun K45 hK45 => ?_)))))
    refine W.seq (fun K46 hK46 => W.region (Wl.run 3 ma0 (Wl.ys (v := iV .i64 (9223372036854775807 - ((jn (ps.take k)).length : Int))) rfl rfl ((Ys.pure (v := .int .i64 (isub .i64 9223372036854775807 ((jn (ps.take k)).length : Int))) (fun _ => kr)).conseq (int_congr (isub_eq rfl ma1 ma1))) (Wl.run 1 ma0 ?_))))
    refine Wl.nil (hK46 _ _ _ (W.prune' [0, 1, 5, 7, 42, 43, 44, 52] [Value.slice pa ps.length pcap, Value.slice none 0 0, nV .i64 ((jn (ps.take k)).length), Value.slice ((ps.getD k default).a) ((ps.getD k default).xs.length) ((ps.getD k default).cap), Value.slice pa ps.length pcap, nV .i64 ps.length, nV .i64 k, bV (decide ((((ps.getD k default).xs.length : Nat) : Int) > (9223372036854775807 - ((jn (ps.take k)).length : Int))))] ma0 (fun f47 => ?_)))
    refine W.cond (decide ((((ps.getD k default).xs.length : Nat) : Int) > (9223372036854775807 - ((jn (ps.take k)).length : Int)))) ma0 (fun h48 => ?_) (fun h49 => ?_)
    ·have qh48 := h48; try simp only [zA] at qh48
     (exfalso; have hjs := congrArg List.length (jn_step (ps := ps) (k := k) ma1); rw [List.length_append] at hjs; omega)
    ·have qh49 := h49; try simp only [zA] at qh49
     refine W.skip' (hK45 _ _ _ (W.prune' [0, 1, 5, 7, 42, 43, 44] [Value.slice pa ps.length pcap, Value.slice none 0 0, nV .i64 ((jn (ps.take k)).length), Value.slice ((ps.getD k default).a) ((ps.getD k default).xs.length) ((ps.getD k default).cap), Value.slice pa ps.length pcap, nV .i64 ps.length, nV .i64 k] ma0 (fun f50 => W.region (Wl.run 3 ma0 ?_))))
     refine Wl.ys (v := nV .i64 (((jn (ps.take k)).length) + ((ps.getD k default).xs.length))) rfl rfl ((Ys.pure (v := .int .i64 (iadd .i64 ((jn (ps.take k)).length : Int) ((ps.getD k default).xs.length : Int))) (fun _ => kr)).conseq (int_congr (iadd_eq ma1 ma1 ma1))) (Wl.run 1 ma0 (Wl.nil (hK41 _ _ _ (W.prune' [0, 1, 5, 42, 43, 44] [Value.slice pa ps.length pcap, Value.slice none 0 0, nV .i64 (((jn (ps.take k)).length) + ((ps.getD k default).xs.length)), Value.slice pa ps.length pcap, nV .i64 ps.length, nV .i64 k] ma0 (fun f51 => ?_)))))
     refine W.region (Wl.ys (v := nV .i64 (k + 1)) rfl rfl ((Ys.pure (v := .int .i64 (iadd .i64 (k : Int) 1)) (fun _ => kr)).conseq (int_congr (iadd_eq ma1 ma1 ma1))) (Wl.run 1 ma0 (Wl.nil ?_)))
     have hjs := congrArg List.length (jn_step (ps := ps) (k := k) ma1); rw [List.length_append] at hjs
     refine fun w_ h_ => hJ33 (k + 1) _ w_ ma1 ma29 ?_ h_
     refine Eq.trans (b := ([Value.slice pa ps.length pcap, Value.slice none 0 0, nV .i64 (((jn (ps.take k)).length) + ((ps.getD k default).xs.length)), Value.slice pa ps.length pcap, nV .i64 ps.length, nV .i64 (k + 1)] : List Value)) ma0 (by rw [hjs])
   ·have qh39 := h39; try simp only [zA] at qh39
    refine W.exit (hK30 _ _ _ (W.prune' [0, 1, 5] [Value.slice pa ps.length pcap, Value.slice none 0 0, nV .i64 ((jn (ps.take k)).length)] ma0 (fun f52 => W.seq (fun K53 hK53 => ?_))))
    have hke : (jn (ps.take k)).length = (jn ps).length := by rw [jn_all ma1]
    refine W.region (Wl.run 1 ma0 (Wl.ht rfl (Ht.makeNoZero (ps := #[3]) (t := 38) (e := 5) (k := (jn (ps.take k)).length) (fid := 184) (fn := Tryz.f184) rfl rfl ma0 ma0 Tryz.func184 ma0 ma0 ma0 ma0 ma0 ma1) (fun x57 => ?_)))
    obtain ⟨mz54, hz55, hz56⟩ := x57
    refine Wl.castL (LL' := [[cb mz54.b (mc b8 mz54.zs) 5]]) rfl (Wl.run 2 ma0 (Wl.ys (v := Value.slice (some ⟨mz54.b, 0, none⟩) ((jn (ps.take k)).length) ((jn (ps.take k)).length)) rfl rfl (Ys.sliceHM (a := some ⟨mz54.b, 0, none⟩) (len := (jn (ps.take k)).length) (cap := mz54.zs.length) (sz := 1) (k := .i64) (i := ((jn (ps.take k)).length : Int)) (k' := .i64) (j := ((jn (ps.take k)).length : Int)) rfl ma0 ma0 ma0 Tryz.runUnderlying38 Tryz.sizeOf5 ma1 ma1 ma1) (Wl.run 1 ma0 (Wl.nil ?_))))
    refine hK53 _ _ _ (W.prune' [0, 1, 8] [Value.slice pa ps.length pcap, Value.slice none 0 0, Value.slice (some ⟨mz54.b, 0, none⟩) ((jn (ps.take k)).length) ((jn (ps.take k)).length)] ma0 (fun f58 => ?_))
    refine W.seq (fun K59 hK59 => W.region (Wl.run 2 ma0 (Wl.ys (v := Value.pointer (some (ela pa 0))) rfl rfl (Ys.byMem fun w_ h_ => Ys.indexAddr (k := .i64) (a := pa) (len := ps.length) (cap := pcap) (i := 0) (sz := 1) rfl ma0 ma0 Tryz.runUnderlying284 Tryz.sizeOf38 ma1 ma1 ((hpa.mem0 h_).here ma14)) (Wl.ys (v := Value.slice ((ps.getD 0 default).a) ((ps.getD 0 default).xs.length) ((ps.getD 0 default).cap)) rfl rfl (Ys.ld (a := ela pa 0) rfl ma0 Tryz.isAgg38 (fun w_ h_ => (hpa.mem0 h_).ld (mc_get default ma11))) ?_))))
    have hb60 := jn_el (ps := ps) (k := 0) ma1
    refine Wl.ht rfl (Ht.copy (dl := (jn (ps.take k)).length) (dc := (jn (ps.take k)).length) (m := (ps.getD 0 default).xs.length) (q := (ps.getD 0 default).xs.length) (sz := 1) (o' := 0) (i := 0) (j := 0) (e := 5) (ii := (Tryz.prog.info? 5).getD default) (b := mz54.b) (t := 5) (xv := Value.slice ((ps.getD 0 default).a) ((ps.getD 0 default).xs.length) ((ps.getD 0 default).cap)) (cs := mc b8 mz54.zs) (news := mc b8 ((ps.getD 0 default).xs)) (cs' := mc b8 (mz54.zs.take 0 ++ ((ps.getD 0 default).xs) ++ mz54.zs.drop (0 + ((ps.getD 0 default).xs).length))) (LL' := [[cb mz54.b (mc b8 (mz54.zs.take 0 ++ ((ps.getD 0 default).xs) ++ mz54.zs.drop (0 + ((ps.getD 0 default).xs).length))) 5]]) rfl rfl ma0 ma0 ma0 ma0 ma0 rfl rfl (fun _ => rfl) (by show min _ _ = _; first | omega | (simp; omega)) (Src.at (a := (ps.getD 0 default).a) ma3 (fun w_ h_ => ((hp _ (getD_in ma1)).mem0 h_))) ma15 (mc_one (fun _ => rfl) _) (mc_put (g := b8) mz54.zs ((ps.getD 0 default).xs) 0) rfl) (fun _ => Wl.run 1 ma0 (Wl.nil (hK59 _ _ _ (W.prune' [0, 1, 8, 9] [Value.slice pa ps.length pcap, Value.slice none 0 0, Value.slice (some ⟨mz54.b, 0, none⟩) ((jn (ps.take k)).length) ((jn (ps.take k)).length), nV .i64 ((ps.getD 0 default).xs.length)] ma0 (fun f61 => ?_)))))
    refine W.seq (fun K62 hK62 => W.seq (fun K63 hK63 => ?_))
    refine W.region (Wl.run 1 ma0 (Wl.ys (v := Value.slice (sla pa pcap 1 1) (ps.length - 1) (pcap - 1)) rfl rfl (Ys.sliceL (a := pa) (len := ps.length) (cap := pcap) (sz := 1) (k := .i64) (i := 1) rfl ma0 ma0 Tryz.runUnderlying284 Tryz.sizeOf38 ma1 ma1) (Wl.run 2 ma0 (Wl.nil ?_))))
    refine hK63 _ _ _ (W.prune' [1, 8, 9, 70, 71, 72] [Value.slice none 0 0, Value.slice (some ⟨mz54.b, 0, none⟩) ((jn (ps.take k)).length) ((jn (ps.take k)).length), nV .i64 ((ps.getD 0 default).xs.length), Value.slice (sla pa pcap 1 1) (ps.length - 1) (pcap - 1), nV .i64 (ps.length - 1), iV .i64 0] ma0 (fun f64 => ?_))
    refine W.block (W.loop2 [1, 8, 9, 70, 71, 72] (fun (m : Nat) (zs : List UInt8) => [Value.slice none 0 0, Value.slice (some ⟨mz54.b, 0, none⟩) ((jn (ps.take k)).length) ((jn (ps.take k)).length), nV .i64 ((jn (ps.take (m + 1))).length), Value.slice (sla pa pcap 1 1) (ps.length - 1) (pcap - 1), nV .i64 (ps.length - 1), nV .i64 m]) (fun (m : Nat) (zs : List UInt8) => m + 1 ≤ ps.length ∧ zs.length = mz54.zs.length ∧ zs.take (jn (ps.take (m + 1))).length = jn (ps.take (m + 1))) (fun (m : Nat) (zs : List UInt8) => [[cb mz54.b (mc b8 zs) 5]]) (fun (m : Nat) (zs : List UInt8) => ps.length - m) 0 (mz54.zs.take 0 ++ ((ps.getD 0 default).xs) ++ mz54.zs.drop (0 + ((ps.getD 0 default).xs).length)) (Eq.trans (b := ([Value.slice none 0 0, Value.slice (some ⟨mz54.b, 0, none⟩) ((jn (ps.take k)).length) ((jn (ps.take k)).length), nV .i64 ((ps.getD 0 default).xs.length), Value.slice (sla pa pcap 1 1) (ps.length - 1) (pcap - 1), nV .i64 (ps.length - 1), iV .i64 0] : List Value)) ma0 (by rw [Nat.zero_add, jn_take1 ma1]; rfl)) ⟨ma1, (put_len (k := 0) ma1), (by rw [jn_take1 ma1]; simp)⟩ (by rfl) (fun m zs f66 J65 hp67 hJ65 => ?_))
    obtain ⟨hm, hzl, hzt⟩ := hp67
    have htl2 := jn_take_le ps (m + 1); have htk2 := jn_take_le ps (m + 1 + 1)
    refine W.seq (fun K68 hK68 => W.region (Wl.run 1 ma0 (Wl.nil (hK68 _ _ _ ?_))))
    refine W.seq (fun K69 hK69 => ?_)
    refine W.cond (decide (((m : Nat) : Int) < ((ps.length - 1 : Nat) : Int))) ma0 (fun h70 => ?_) (fun h71 => ?_)
    ·have qh70 := h70; try simp only [zA] at qh70
     refine W.skip' (hK69 _ _ _ (W.prune' [1, 8, 9, 70, 71, 72] [Value.slice none 0 0, Value.slice (some ⟨mz54.b, 0, none⟩) ((jn (ps.take k)).length) ((jn (ps.take k)).length), nV .i64 ((jn (ps.take (m + 1))).length), Value.slice (sla pa pcap 1 1) (ps.length - 1) (pcap - 1), nV .i64 (ps.length - 1), nV .i64 m] ma0 (fun f72 => W.seq (fun K73 hK73 => W.block ?_))))
     refine W.seq (fun K74 hK74 => W.region (Wl.ys (v := Value.pointer (some (ela (sla pa pcap 1 1) (m * 1)))) rfl rfl (Ys.byMem fun w_ h_ => Ys.indexAddr (k := .i64) (a := sla pa pcap 1 1) (len := ps.length - 1) (cap := pcap - 1) (i := (m : Int)) (sz := 1) rfl ma0 ma0 Tryz.runUnderlying284 Tryz.sizeOf38 ma1 ma1 (((hpa.mem0 h_).mdrop pcap 1 ma1).here ma14)) (Wl.ys (v := Value.slice (((ps.drop 1).getD m default).a) (((ps.drop 1).getD m default).xs.length) (((ps.drop 1).getD m default).cap)) rfl rfl (Ys.ld (a := ela (sla pa pcap 1 1) (m * 1)) rfl ma0 Tryz.isAgg38 (fun w_ h_ => ((hpa.mem0 h_).mdrop pcap 1 ma1).ld (mc_get1 default ma11))) ?_)))
     have hb75 := jn_el1 (ps := ps) (k := m) ma1
     refine Wl.run 1 ma0 (Wl.nil (hK74 _ _ _ (W.prune' [1, 8, 9, 11, 70, 71, 72] [Value.slice none 0 0, Value.slice (some ⟨mz54.b, 0, none⟩) ((jn (ps.take k)).length) ((jn (ps.take k)).length), nV .i64 ((jn (ps.take (m + 1))).length), Value.slice (((ps.drop 1).getD m default).a) (((ps.drop 1).getD m default).xs.length) (((ps.drop 1).getD m default).cap), Value.slice (sla pa pcap 1 1) (ps.length - 1) (pcap - 1), nV .i64 (ps.length - 1), nV .i64 m] ma0 (fun f76 => W.seq (fun K77 hK77 => ?_)))))
     refine W.region (Wl.run 3 ma0 (Wl.ys (v := Value.slice (sla (some ⟨mz54.b, 0, none⟩) ((jn (ps.take k)).length) ((jn (ps.take (m + 1))).length) 1) (((jn (ps.take k)).length) - ((jn (ps.take (m + 1))).length)) (((jn (ps.take k)).length) - ((jn (ps.take (m + 1))).length))) rfl rfl (Ys.sliceL (a := some ⟨mz54.b, 0, none⟩) (len := (jn (ps.take k)).length) (cap := (jn (ps.take k)).length) (sz := 1) (k := .i64) (i := ((jn (ps.take (m + 1))).length : Int)) rfl ma0 ma0 Tryz.runUnderlying38 Tryz.sizeOf5 ma1 ma1) (Wl.run 1 ma0 (Wl.ht rfl (Ht.copySub (cap := ((jn (ps.take k)).length)) (dl := ((jn (ps.take k)).length) - ((jn (ps.take (m + 1))).length)) (dc := ((jn (ps.take k)).length) - ((jn (ps.take (m + 1))).length)) (m := 0) (q := 0) (sz := 1) (o' := (jn (ps.take (m + 1))).length) (i := 0) (j := 0) (e := 5) (ii := (Tryz.prog.info? 5).getD default) (b := mz54.b) (t := 5) (xv := Value.slice none 0 0) (cs := mc b8 zs) (news := mc b8 []) (cs' := mc b8 (zs.take ((jn (ps.take (m + 1))).length) ++ [] ++ zs.drop ((jn (ps.take (m + 1))).length + [].length))) (LL' := [[cb mz54.b (mc b8 (zs.take ((jn (ps.take (m + 1))).length) ++ [] ++ zs.drop ((jn (ps.take (m + 1))).length + [].length))) 5]]) rfl rfl ma0 ma0 ma0 ma0 ma1 ma0 rfl rfl (fun _ => rfl) (by show min _ _ = _; first | omega | (simp; omega)) (Src.at (a := none) (by simp [mc]) (fun _ _ => At.nil _ _)) ma3 ma15 (mc_one (fun _ => rfl) _) (mc_put1 (g := b8) zs [] ((jn (ps.take (m + 1))).length)) rfl) (fun _ => ?_)))))
     refine Wl.ys (v := nV .i64 (((jn (ps.take (m + 1))).length) + 0)) rfl rfl ((Ys.pure (v := .int .i64 (iadd .i64 ((jn (ps.take (m + 1))).length : Int) 0)) (fun _ => kr)).conseq (int_congr (iadd_eq ma1 ma1 ma1))) (Wl.run 1 ma0 (Wl.nil (hK77 _ _ _ (W.prune' [1, 8, 9, 11, 70, 71, 72] [Value.slice none 0 0, Value.slice (some ⟨mz54.b, 0, none⟩) ((jn (ps.take k)).length) ((jn (ps.take k)).length), nV .i64 (((jn (ps.take (m + 1))).length) + 0), Value.slice (((ps.drop 1).getD m default).a) (((ps.drop 1).getD m default).xs.length) (((ps.drop 1).getD m default).cap), Value.slice (sla pa pcap 1 1) (ps.length - 1) (pcap - 1), nV .i64 (ps.length - 1), nV .i64 m] ma0 (fun f78 => ?_)))))
     refine W.region (Wl.run 3 ma0 (Wl.ys (v := Value.slice (sla (some ⟨mz54.b, 0, none⟩) ((jn (ps.take k)).length) (((jn (ps.take (m + 1))).length) + 0) 1) (((jn (ps.take k)).length) - (((jn (ps.take (m + 1))).length) + 0)) (((jn (ps.take k)).length) - (((jn (ps.take (m + 1))).length) + 0))) rfl rfl (Ys.sliceL (a := some ⟨mz54.b, 0, none⟩) (len := (jn (ps.take k)).length) (cap := (jn (ps.take k)).length) (sz := 1) (k := .i64) (i := ((((jn (ps.take (m + 1))).length) + 0 : Nat) : Int)) rfl ma0 ma0 Tryz.runUnderlying38 Tryz.sizeOf5 ma1 ma1) (Wl.run 1 ma0 (Wl.ht rfl (Ht.copySub (cap := ((jn (ps.take k)).length)) (dl := ((jn (ps.take k)).length) - (((jn (ps.take (m + 1))).length) + 0)) (dc := ((jn (ps.take k)).length) - (((jn (ps.take (m + 1))).length) + 0)) (m := ((ps.drop 1).getD m default).xs.length) (q := ((ps.drop 1).getD m default).xs.length) (sz := 1) (o' := ((jn (ps.take (m + 1))).length) + 0) (i := 0) (j := 0) (e := 5) (ii := (Tryz.prog.info? 5).getD default) (b := mz54.b) (t := 5) (xv := Value.slice (((ps.drop 1).getD m default).a) (((ps.drop 1).getD m default).xs.length) (((ps.drop 1).getD m default).cap)) (cs := mc b8 (zs.take ((jn (ps.take (m + 1))).length) ++ [] ++ zs.drop ((jn (ps.take (m + 1))).length + [].length))) (news := mc b8 (((ps.drop 1).getD m default).xs)) (cs' := mc b8 ((zs.take ((jn (ps.take (m + 1))).length) ++ [] ++ zs.drop ((jn (ps.take (m + 1))).length + [].length)).take (((jn (ps.take (m + 1))).length) + 0) ++ (((ps.drop 1).getD m default).xs) ++ (zs.take ((jn (ps.take (m + 1))).length) ++ [] ++ zs.drop ((jn (ps.take (m + 1))).length + [].length)).drop (((jn (ps.take (m + 1))).length) + 0 + (((ps.drop 1).getD m default).xs).length))) (LL' := [[cb mz54.b (mc b8 ((zs.take ((jn (ps.take (m + 1))).length) ++ [] ++ zs.drop ((jn (ps.take (m + 1))).length + [].length)).take (((jn (ps.take (m + 1))).length) + 0) ++ (((ps.drop 1).getD m default).xs) ++ (zs.take ((jn (ps.take (m + 1))).length) ++ [] ++ zs.drop ((jn (ps.take (m + 1))).length + [].length)).drop (((jn (ps.take (m + 1))).length) + 0 + (((ps.drop 1).getD m default).xs).length))) 5]]) rfl rfl ma0 ma0 ma0 ma0 ma1 ma0 rfl rfl (fun _ => rfl) (by show min _ _ = _; first | omega | (simp; omega)) (Src.at (a := ((ps.drop 1).getD m default).a) ma3 (fun w_ h_ => ((hp _ (by rw [getD_drop1]; exact getD_in ma1)).mem0 h_))) ma3 ma15 (mc_one (fun _ => rfl) _) (mc_put1 (g := b8) (zs.take ((jn (ps.take (m + 1))).length) ++ [] ++ zs.drop ((jn (ps.take (m + 1))).length + [].length)) (((ps.drop 1).getD m default).xs) (((jn (ps.take (m + 1))).length) + 0)) rfl) (fun _ => ?_)))))
     refine Wl.ys (v := nV .i64 ((((jn (ps.take (m + 1))).length) + 0) + (((ps.drop 1).getD m default).xs.length))) rfl rfl ((Ys.pure (v := .int .i64 (iadd .i64 ((((jn (ps.take (m + 1))).length) + 0 : Nat) : Int) (((ps.drop 1).getD m default).xs.length : Int))) (fun _ => kr)).conseq (int_congr (iadd_eq ma1 ma1 ma1))) (Wl.run 1 ma0 (Wl.nil (hK73 _ _ _ (W.prune' [1, 8, 9, 70, 71, 72] [Value.slice none 0 0, Value.slice (some ⟨mz54.b, 0, none⟩) ((jn (ps.take k)).length) ((jn (ps.take k)).length), nV .i64 ((((jn (ps.take (m + 1))).length) + 0) + (((ps.drop 1).getD m default).xs.length)), Value.slice (sla pa pcap 1 1) (ps.length - 1) (pcap - 1), nV .i64 (ps.length - 1), nV .i64 m] ma0 (fun f79 => ?_)))))
     refine W.region (Wl.ys (v := nV .i64 (m + 1)) rfl rfl ((Ys.pure (v := .int .i64 (iadd .i64 (m : Int) 1)) (fun _ => kr)).conseq (int_congr (iadd_eq ma1 ma1 ma1))) (Wl.run 1 ma0 (Wl.nil ?_)))
     have hjs := congrArg List.length (jn_step (ps := ps) (k := m + 1) ma1); rw [List.length_append] at hjs
     refine fun w_ h_ => hJ65 (m + 1) ((zs.take ((jn (ps.take (m + 1))).length) ++ [] ++ zs.drop ((jn (ps.take (m + 1))).length + [].length)).take (((jn (ps.take (m + 1))).length) + 0) ++ (((ps.drop 1).getD m default).xs) ++ (zs.take ((jn (ps.take (m + 1))).length) ++ [] ++ zs.drop ((jn (ps.take (m + 1))).length + [].length)).drop (((jn (ps.take (m + 1))).length) + 0 + (((ps.drop 1).getD m default).xs).length)) _ w_ ma1 ⟨ma1, (by rw [getD_drop1, Nat.add_zero (jn (ps.take (m + 1))).length, put_nil hzt]; exact (put_len ma1).trans hzl), (by rw [getD_drop1, Nat.add_zero (jn (ps.take (m + 1))).length, put_nil hzt, hjs, put_take hzt ma1 ma1, jn_step (k := m + 1) ma1])⟩ ?_ h_
     refine Eq.trans (b := ([Value.slice none 0 0, Value.slice (some ⟨mz54.b, 0, none⟩) ((jn (ps.take k)).length) ((jn (ps.take k)).length), nV .i64 ((((jn (ps.take (m + 1))).length) + 0) + (((ps.drop 1).getD m default).xs.length)), Value.slice (sla pa pcap 1 1) (ps.length - 1) (pcap - 1), nV .i64 (ps.length - 1), nV .i64 (m + 1)] : List Value)) ma0 (by rw [getD_drop1, Nat.add_zero, hjs])
    ·have qh71 := h71; try simp only [zA] at qh71
     refine W.exit (hK62 _ _ _ (W.prune' [8] [Value.slice (some ⟨mz54.b, 0, none⟩) ((jn (ps.take k)).length) ((jn (ps.take k)).length)] ma0 (fun f80 => W.seq (fun K81 hK81 => W.region ?_))))
     refine Wl.run 2 ma0 (Wl.nil (hK81 _ _ _ (W.prune' [4] [Value.slice (some ⟨mz54.b, 0, none⟩) ((jn (ps.take k)).length) ((jn (ps.take k)).length)] ma0 (fun f82 => W.ret ?_))))
     show ∀ w_, _ → bodyPostM (fence none) 0 Tryz.prog Tryz.f176 _ Exit.ret _ w_
     exact fun w_ hS_ => fin_ret (ret1 rfl (RV.tmp (v := Value.slice (some ⟨mz54.b, 0, none⟩) ((jn (ps.take k)).length) ((jn (ps.take k)).length)) ma0) hS_ ⟨⟨false, mz54.b, (jn ps).length, mc b8 (zs.drop (jn ps).length)⟩, ⟨⟨fun h => (by cases h), Nat.le_refl _, by simp only [maxLen]; omega, by simp only [mc_len, List.length_drop]; omega⟩, fun _ => rfl⟩, congrArg Ending.returned ((by simp only [hke]; rfl)), (Mem.cast (by have he := jn_all (ps := ps) (k := m + 1) ma1; rw [he] at hzt; show [[cb _ (mc b8 zs) 5]] = [[cb _ (mc b8 (jn ps) ++ mc b8 (zs.drop (jn ps).length)) 5]]; rw [mc_app]; conv => lhs; rw [← List.take_append_drop (jn ps).length zs, hzt]) hS_)⟩)
end Go.Proofs.YtmonlaoaengfdaaGreatDoor.Oct
namespace Go.Proofs.YtmonlaoaengfdaaGreatDoor.Oct
open Go.RowKit Base
attribute [local irreducible] Ys Yc Ht HtS HtIn Wl Wd W Mem pf dpf
theorem ojoin_c (ps : List SV) (pa : Option Addr) (pcap : Nat) (w : World) (hpa : At w pa (mc slv ps)) (hp : ∀ p ∈ ps, At w p.a (byc p.xs)) (htot : (jn ps).length ≤ 1000000000000) (hn : ps.length ≤ 1000000000) (hpc : ps.length ≤ pcap) : Calls Tryz.prog 144 #[Value.slice pa ps.length pcap] w (RetM w (fun g : FS => g.ok 1 (jn ps).length ∧ (2 ≤ ps.length → g.nil = false)) (fun g => .slice g.a (jn ps).length g.cap) [] (fun g => [g.seg 5 (byc (jn ps))])) := by
 refine calls_W (M := []) (LL := []) (n := 5) Tryz.func144 rfl rfl ma6 (Mem.refl _) (W.seq (fun K1 hK1 => ?_))
 refine W.region (Wl.run 1 ma0 (Wl.nil (hK1 _ _ _ (W.seq (fun K2 hK2 => ?_)))))
 refine W.region (Wl.run 1 ma0 (Wl.htS rfl (HtS.call (β := FS) (k := 176) (args := #[Value.slice pa ps.length pcap, Value.slice none 0 0]) (Lin := []) (Lk := []) (Mi := []) (Lo := fun g3 => [g3.seg 5 (mc b8 (jn ps))]) [] [] rfl (fun _ => kr) ma2 rfl rfl rfl (fun w_ hm_ hl_ => (join_c ps pa pcap _ (hpa.mem0 hm_) (fun p h => (hp p h).mem0 hm_) htot hn hpc)) (fun _ => rfl)) (fun g3 hx7 => ?_)))
 obtain ⟨ok4, nn5⟩ := hx7
 refine Wl.run 1 ma0 (Wl.nil (hK2 _ _ _ (W.prune' [2] [sV g3 ((jn ps).length)] ma0 (fun f8 => W.ret ?_))))
 show ∀ w_, _ → bodyPostM (fence none) 0 Tryz.prog Tryz.f144 _ Exit.ret _ w_
 exact fun w_ hS_ => fin_ret (ret1 rfl (RV.tmp (v := sV g3 ((jn ps).length)) ma0) hS_ ⟨g3, ⟨ok4, nn5⟩, rfl, hS_⟩)
theorem ojoinn_c (ps : List SV) (zs : List UInt8) (pa : Option Addr) (len pcap n : Nat) (w : World) (hl : len = ps.length) (hz : jn ps = zs) (hn' : zs.length = n) (hpa : At w pa (mc slv ps)) (hp : ∀ p ∈ ps, At w p.a (byc p.xs)) (htot : n ≤ 1000000000000) (hn : ps.length ≤ 1000000000) (hpc : ps.length ≤ pcap) :
    Calls Tryz.prog 144 #[.slice pa len pcap] w (RetM w (fun g : FS => g.ok 1 n ∧ (2 ≤ ps.length → g.nil = false)) (fun g => .slice g.a n g.cap) [] (fun g => [g.seg 5 (byc zs)])) := by
  subst hl; subst hz; subst hn'; exact ojoin_c ps pa pcap w hpa hp htot hn hpc
def b2 (ns : List Nat) : List UInt8 := (ns.map (be 2)).flatten
theorem be2 (n : Nat) : be 2 n = [UInt8.ofNat (n / 256), UInt8.ofNat n] := rfl
end Go.Proofs.YtmonlaoaengfdaaGreatDoor.Oct
