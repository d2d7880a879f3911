/-
  The law's pairs, the example. No condition.
-/
import Derived.Test.YtegeijaicjackaaOct4
set_option linter.unusedVariables false
set_option linter.unusedSimpArgs false
set_option maxRecDepth 20000
namespace Go.Proofs.Ytegeijaicjackaa.Oct
open Go.RowKit Base
attribute [local irreducible] Ys Yc Ht HtIn Wl Wd W Mem pf dpf

theorem pitern_c (xs : List UInt8) (a : Option Addr) (len cap : Nat) (g : FS) (most : Int) (p1 p6 p5 p3 : Nat) (M : List Nat) (w : World) (hn : len = xs.length) (hl : Mem w M [[cb p6 [.bool true] 4], [cb p5 [.slice g.a 0 g.cap] 24], [cb p3 [.int .i64 most] 3], g.seg 27 (mc n16 []), [cb p1 [.slice a len cap] 22]] w) (hat : At w a (byc xs)) (hne : 0 < (byc xs).length → (a.getD default).block ∉ M) (ok : g.ok 1 0) (hy : xs.length ≤ 1000000000) :
    Calls Try.prog 41 #[.func (.func 35) #[] #[.pointer (some ⟨p6, 0, none⟩), .pointer (some ⟨p5, 0, none⟩), .pointer (some ⟨p3, 0, none⟩)], .pointer (some ⟨p1, 0, none⟩)] w (RetM w (fun g : FS => g.ok 1 (told (pw xs).length most)) (fun _ => .tuple #[]) M (fun g => [[cb p6 [.bool true] 4], [cb p5 [.slice g.a (told (pw xs).length most) g.cap] 24], [cb p3 [.int .i64 most] 3], g.seg 27 (mc n16 ((pw xs).take (told (pw xs).length most))), [cb p1 [.slice a len cap] 22]])) := by
  subst hn; exact piter_c xs a cap g most p1 p6 p5 p3 M w hl hat hne ok hy
theorem told_le (n : Nat) (most : Int) : told n most ≤ n := by unfold told; split <;> omega

theorem lpairs_c (xs : List UInt8) (a : Option Addr) (cap : Nat) (most : Int) (w : World) (hat : At w a (byc xs)) (hy : xs.length ≤ 1000000000) : Calls Try.prog 14 #[Value.slice a xs.length cap, Value.int .i64 most] w (RetM w (fun g : FS => g.ok 1 (told (pw xs).length most)) (fun g => .slice g.a (told (pw xs).length most) g.cap) [] (fun g => [g.seg 27 (mc n16 ((pw xs).take (told (pw xs).length most)))])) := by
  refine calls_W (M := []) (LL := []) (n := 15) Try.func14 rfl rfl (by simp) (Mem.refl _) ?_
  refine W.seq (fun K1 hK1 => ?_)
  refine W.region ?_
  refine Wl.ht rfl (Ht.box (v := Value.int .i64 most) (cs := [Value.int .i64 most]) rfl rfl (by kernel_rfl) rfl) (fun p3 => ?_)
  refine Wl.run 1 (by kernel_rfl) ?_
  refine Wl.nil ?_
  refine hK1 _ _ _ ?_
  refine W.prune' [0, 3] [Value.slice a xs.length cap, Value.pointer (some ⟨p3, 0, none⟩)] (by kernel_rfl) (fun f2 => ?_)
  refine W.seq (fun K3 hK3 => ?_)
  refine W.region ?_
  refine Wl.ht rfl (Ht.made (mk := fun b_ => .slice (some ⟨b_, 0, none⟩) 0 0) (t := 27) (cs := []) rfl (fun _ => by kernel_rfl)) (fun p7 => ?_)
  refine Wl.ht rfl (Ht.alloc (z := Value.slice none 0 0) (cs := [Value.slice none 0 0]) rfl rfl Try.zeroValue24 rfl) (fun p5 => ?_)
  refine Wl.ht rfl (Ht.alloc (z := Value.bool false) (cs := [Value.bool false]) rfl rfl Try.zeroValue4 rfl) (fun p6 => ?_)
  refine Wl.ht rfl (Ht.store (b := p5) (o' := 0) (i := 1) (j := 0) (cs := [Value.slice none 0 0]) (cs' := [Value.slice (some ⟨p7, 0, none⟩) 0 0]) (v := Value.slice (some ⟨p7, 0, none⟩) 0 0) (LL' := [[cb p6 [Value.bool false] 4], [cb p5 [Value.slice (some ⟨p7, 0, none⟩) 0 0] 24], [cb p7 [] 27], [cb p3 [Value.int .i64 most] 3]]) rfl rfl (by kernel_rfl) (by kernel_rfl) Try.sizeOf24 rfl rfl rfl (by simp) rfl rfl) (fun _ => ?_)
  refine Wl.ht rfl (Ht.store (b := p6) (o' := 0) (i := 0) (j := 0) (cs := [Value.bool false]) (cs' := [Value.bool true]) (v := Value.bool true) (LL' := [[cb p6 [Value.bool true] 4], [cb p5 [Value.slice (some ⟨p7, 0, none⟩) 0 0] 24], [cb p7 [] 27], [cb p3 [Value.int .i64 most] 3]]) rfl rfl (by kernel_rfl) (by kernel_rfl) Try.sizeOf4 rfl rfl rfl (by simp) rfl rfl) (fun _ => ?_)
  refine Wl.nil ?_
  refine hK3 _ _ _ ?_
  refine W.prune' [0, 3, 5, 6] [Value.slice a xs.length cap, Value.pointer (some ⟨p3, 0, none⟩), Value.pointer (some ⟨p5, 0, none⟩), Value.pointer (some ⟨p6, 0, none⟩)] (by kernel_rfl) (fun f4 => ?_)
  refine W.seq (fun K5 hK5 => ?_)
  refine W.region ?_
  refine Wl.run 1 (by kernel_rfl) ?_
  refine Wl.ht rfl (Ht.call (β := Nat) (k := 34) (args := #[Value.slice a xs.length cap]) (Lin := []) (Lk := [[cb p6 [Value.bool true] 4], [cb p5 [Value.slice (some ⟨p7, 0, none⟩) 0 0] 24], [cb p7 [] 27], [cb p3 [Value.int .i64 most] 3]]) (Mi := []) (Lo := fun pb6 => [[cb pb6 [Value.slice a xs.length cap] 22], [cb p6 [Value.bool true] 4], [cb p5 [Value.slice (some ⟨p7, 0, none⟩) 0 0] 24], [cb p7 [] 27], [cb p3 [Value.int .i64 most] 3]]) [] [0, 1, 2, 3] rfl (fun _ => by kernel_rfl) (by decide) rfl rfl rfl (fun w_ hm_ hl_ => (pairs_mk a xs.length cap _)) (fun _ => rfl)) (fun x7 => ?_)
  obtain ⟨pb6, _⟩ := x7
  refine Wl.castL (LL' := [[cb pb6 [Value.slice a xs.length cap] 22], [cb p6 [Value.bool true] 4], [cb p5 [Value.slice (some ⟨p7, 0, none⟩) 0 0] 24], [cb p7 [] 27], [cb p3 [Value.int .i64 most] 3]]) rfl ?_
  refine Wl.run 1 (by kernel_rfl) ?_
  refine Wl.ht rfl (Ht.call (β := FS) (k := 41) (args := #[Value.func (.func 35) #[] #[Value.pointer (some ⟨p6, 0, none⟩), Value.pointer (some ⟨p5, 0, none⟩), Value.pointer (some ⟨p3, 0, none⟩)], Value.pointer (some ⟨pb6, 0, none⟩)]) (Lin := [[cb p6 [Value.bool true] 4], [cb p5 [Value.slice (some ⟨p7, 0, none⟩) 0 0] 24], [cb p3 [Value.int .i64 most] 3], [cb p7 [] 27], [cb pb6 [Value.slice a xs.length cap] 22]]) (Lk := []) (Mi := [p6, p5, p3, p7, pb6]) (Lo := fun g8 => [[cb p6 [Value.bool true] 4], [cb p5 [Value.slice g8.a (told (pw xs).length most) g8.cap] 24], [cb p3 [Value.int .i64 most] 3], g8.seg 27 (mc n16 ((pw xs).take (told (pw xs).length most))), [cb pb6 [Value.slice a xs.length cap] 22]]) [1, 2, 4, 3, 0] [] rfl (fun _ => by kernel_rfl) (by decide) rfl rfl rfl (fun w_ hm_ hl_ => (pitern_c xs a xs.length cap (FS.mk false p7 0 []) most pb6 p6 p5 p3 _ _ (by first | rfl | (simp; done)) hl_ (hat.mem0 hm_) (fun h0 => hm_.fresh_pick hat [1, 2, 4, 3, 0] rfl h0) (FS.lit_ok (by decide)) (by first | omega | (simp; done)))) (fun _ => rfl)) (fun x10 => ?_)
  obtain ⟨g8, ok9⟩ := x10
  refine Wl.castL (LL' := [[cb p6 [Value.bool true] 4], [cb p5 [Value.slice g8.a (told (pw xs).length most) g8.cap] 24], [cb p3 [Value.int .i64 most] 3], g8.seg 27 (mc n16 ((pw xs).take (told (pw xs).length most))), [cb pb6 [Value.slice a xs.length cap] 22]]) rfl ?_
  refine Wl.nil ?_
  refine hK5 _ _ _ ?_
  refine W.pick (LL' := [[cb p6 [Value.bool true] 4], [cb p5 [Value.slice g8.a (told (pw xs).length most) g8.cap] 24], g8.seg 27 (mc n16 ((pw xs).take (told (pw xs).length most)))]) [0, 1, 3] (by decide) rfl ?_
  refine W.prune' [5, 6] [Value.pointer (some ⟨p5, 0, none⟩), Value.pointer (some ⟨p6, 0, none⟩)] (by kernel_rfl) (fun f11 => ?_)
  refine W.seq (fun K12 hK12 => ?_)
  refine W.seq (fun K13 hK13 => ?_)
  refine W.region ?_
  refine Wl.ys (v := Value.bool true) rfl rfl (Ys.load (b := p6) (o' := 0) (i := 0) (j := 0) (cs := [Value.bool true]) (v := Value.bool true) rfl (by kernel_rfl) Try.isAgg4 rfl rfl rfl) ?_
  refine Wl.run 1 (by kernel_rfl) ?_
  refine Wl.nil ?_
  refine hK13 _ _ _ ?_
  refine W.pick (LL' := [[cb p5 [Value.slice g8.a (told (pw xs).length most) g8.cap] 24], g8.seg 27 (mc n16 ((pw xs).take (told (pw xs).length most)))]) [1, 2] (by decide) rfl ?_
  refine W.prune' [5, 13] [Value.pointer (some ⟨p5, 0, none⟩), Value.bool false] (by kernel_rfl) (fun f14 => ?_)
  refine W.condF (by kernel_rfl) ?_
  refine W.skip' ?_
  refine hK12 _ _ _ ?_
  refine W.prune' [5] [Value.pointer (some ⟨p5, 0, none⟩)] (by kernel_rfl) (fun f15 => ?_)
  refine W.seq (fun K16 hK16 => ?_)
  refine W.region ?_
  refine Wl.ys (v := Value.slice g8.a (told (pw xs).length most) g8.cap) rfl rfl (Ys.load (b := p5) (o' := 0) (i := 0) (j := 0) (cs := [Value.slice g8.a (told (pw xs).length most) g8.cap]) (v := Value.slice g8.a (told (pw xs).length most) g8.cap) rfl (by kernel_rfl) Try.isAgg24 rfl rfl rfl) ?_
  refine Wl.run 1 (by kernel_rfl) ?_
  refine Wl.nil ?_
  refine hK16 _ _ _ ?_
  refine W.pick (LL' := [g8.seg 27 (mc n16 ((pw xs).take (told (pw xs).length most)))]) [1] (by decide) rfl ?_
  refine W.prune' [4] [Value.slice g8.a (told (pw xs).length most) g8.cap] (by kernel_rfl) (fun f17 => ?_)
  refine W.ret ?_
  show ∀ w_, _ → bodyPostM (fence none) 0 Try.prog Try.f14 _ Exit.ret _ w_
  exact fun w_ hS_ => fin_ret (ret1 rfl (RV.tmp (v := Value.slice g8.a (told (pw xs).length most) g8.cap) (by kernel_rfl)) hS_ ⟨g8, ok9, rfl, hS_⟩)

theorem lpairsn_c (xs : List UInt8) (a : Option Addr) (len cap : Nat) (most : Int) (w : World) (hn : len = xs.length) (hat : At w a (byc xs)) (hy : xs.length ≤ 1000000000) : Calls Try.prog 14 #[.slice a len cap, .int .i64 most] w (RetM w (fun g : FS => g.ok 1 (told (pw xs).length most)) (fun g => .slice g.a (told (pw xs).length most) g.cap) [] (fun g => [g.seg 27 (mc n16 ((pw xs).take (told (pw xs).length most)))])) := by
  subst hn; exact lpairs_c xs a cap most w hat hy

theorem speaks_c  (w : World) : Calls Try.prog 13 #[] w (Ret w (.bool true)) := by
  refine calls_W (M := []) (LL := []) (n := 10) Try.func13 rfl rfl (by simp) (Mem.refl _) ?_
  refine W.seq (fun K1 hK1 => ?_)
  refine W.region ?_
  refine Wl.run 1 (by kernel_rfl) ?_
  refine Wl.nil ?_
  refine hK1 _ _ _ ?_
  refine W.seq (fun K2 hK2 => ?_)
  refine W.region ?_
  refine Wl.ht rfl (Ht.call (β := FS) (k := 24) (args := #[Value.int .i64 2, Value.int .u64 515]) (Lin := []) (Lk := []) (Mi := []) (Lo := fun g3 => [g3.seg 5 (mc b8 (be 2 515))]) [] [] rfl (fun _ => by kernel_rfl) (by decide) rfl rfl rfl (fun w_ hm_ hl_ => num_c 2 515 (by omega) _) (fun _ => rfl)) (fun x6 => ?_)
  obtain ⟨g3, ok4, nn5⟩ := x6
  refine Wl.castL (LL' := [g3.seg 5 (mc b8 (be 2 515))]) rfl ?_
  refine Wl.ys (v := Value.string (bstr (be 2 515))) rfl rfl (Ys.bytesStr (a := g3.a) (len := 2) (cap := g3.cap) (xs := be 2 515) (e := 5) rfl (by kernel_rfl) (by kernel_rfl) (by kernel_rfl) (by kernel_rfl) ((by first | rfl | (simp [be_len]; done) | (simp [be_len]; omega))) (fun w_ h_ => (FS.at (i := 0) (t := 5) h_ rfl (FS.nil_cs ok4 (by rw [mc_len, be_len, Nat.mul_one]; rfl))))) ?_
  refine Wl.ys (v := Value.bool true) rfl rfl ((Ys.pure (v := .bool ((bstr (be 2 515)).toList == (bstr [2, 3]).toList)) (fun _ => by kernel_rfl)).conseq (bool_congr ((bstr_eq _ _).trans (by decide +kernel)))) ?_
  refine Wl.run 1 (by kernel_rfl) ?_
  refine Wl.htw rfl (by kernel_rfl) (Ht.made (mk := fun b_ => .slice (some ⟨b_, 0, none⟩) 3 3) (t := 5) (cs := [Value.int .u8 1, Value.int .u8 2, Value.int .u8 3]) rfl (fun _ => by kernel_rfl)) (fun p5 => ?_)
  refine Wl.htw rfl (by kernel_rfl) (Ht.call (β := FS) (k := 14) (args := #[Value.slice (some ⟨p5, 0, none⟩) 3 3, Value.int .i64 9]) (Lin := []) (Lk := [[cb p5 [Value.int .u8 1, Value.int .u8 2, Value.int .u8 3] 5], g3.seg 5 (mc b8 (be 2 515))]) (Mi := []) (Lo := fun g7 => [g7.seg 27 (mc n16 ((pw [(1 : UInt8), (2 : UInt8), (3 : UInt8)]).take (told (pw [(1 : UInt8), (2 : UInt8), (3 : UInt8)]).length 9))), [cb p5 [Value.int .u8 1, Value.int .u8 2, Value.int .u8 3] 5], g3.seg 5 (mc b8 (be 2 515))]) [] [0, 1] rfl (fun _ => by kernel_rfl) (by decide) rfl rfl rfl (fun w_ hm_ hl_ => (lpairsn_c [(1 : UInt8), (2 : UInt8), (3 : UInt8)] (some ⟨p5, 0, none⟩) 3 3 9 _ (by first | rfl | (simp; done)) (At.lit0 (i := 0) (j := 0) (t := 5) (b := p5) hm_ rfl rfl) (by first | omega | (simp; done)))) (fun _ => rfl)) (fun x9 => ?_)
  obtain ⟨g7, ok8⟩ := x9
  refine Wl.castL (LL' := [g7.seg 27 (mc n16 ((pw [(1 : UInt8), (2 : UInt8), (3 : UInt8)]).take (told (pw [(1 : UInt8), (2 : UInt8), (3 : UInt8)]).length 9))), [cb p5 [Value.int .u8 1, Value.int .u8 2, Value.int .u8 3] 5], g3.seg 5 (mc b8 (be 2 515))]) rfl ?_
  refine Wl.guard (v := Value.int .i64 (((told (pw [(1 : UInt8), (2 : UInt8), (3 : UInt8)]).length 9) : Nat) : Int)) (true) rfl (by kernel_rfl) rfl (fun _ => Ys.pure (fun _ => by kernel_rfl)) ?_
  refine Wl.guard (v := Value.bool ((((told (pw [(1 : UInt8), (2 : UInt8), (3 : UInt8)]).length 9) : Nat) : Int) == 2)) (true) rfl (by kernel_rfl) rfl (fun _ => Ys.pure (fun _ => by kernel_rfl)) ?_
  refine Wl.run 2 (by kernel_rfl) ?_
  refine Wl.nil ?_
  refine hK2 _ _ _ ?_
  refine W.pick (LL' := []) [] (by decide) rfl ?_
  refine W.prune' [0] [Value.bool ((((told (pw [(1 : UInt8), (2 : UInt8), (3 : UInt8)]).length 9) : Nat) : Int) == 2)] (by kernel_rfl) (fun f10 => ?_)
  refine W.ret ?_
  show ∀ w_, _ → bodyPostM (fence none) 0 Try.prog Try.f13 _ Exit.ret _ w_
  exact fun w_ hS_ => fin_ret (ret1 rfl (RV.tmp (v := Value.bool ((((told (pw [(1 : UInt8), (2 : UInt8), (3 : UInt8)]).length 9) : Nat) : Int) == 2)) (by kernel_rfl)) hS_ ⟨by clear hK1 hK2; refine congrArg Ending.returned ?_; exact bool_congr (by decide +kernel), hS_.below⟩)

end Go.Proofs.Ytegeijaicjackaa.Oct
