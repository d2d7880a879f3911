import Derived.Test.YtgohlpdgeicncaaKTr3
set_option linter.unusedVariables false
set_option linter.unusedSimpArgs false
set_option maxRecDepth 20000
namespace Go.Proofs.Ytgohlpdgeicncaa.Oct
open Go.RowKit Base
attribute [local irreducible] Ys Yc Ht HtS HtIn Wl Wd W Mem pf dpf Wa Wo
theorem wudpn_c (s d fr to : Nat) (pl : Bool) (xs : List UInt8) (a : Option Addr) (cap : Nat) (len : Nat) (w : World) (hn : len = xs.length) (hat : At w a (byc xs)) (hs : s < 4294967296) (hd : d < 4294967296) (hf : fr < 65536) (ht : to < 65536) (hl : xs.length ≤ 100000) (hlc : xs.length ≤ cap)  : Calls Try.prog 14 #[.int .u32 (s : Int), .int .u32 (d : Int), Value.agg ([Value.int .u16 (fr : Int), Value.int .u16 (to : Int), Value.bool pl, Value.slice a len cap]).toArray] w (RetM w (fun g : FS => g.ok 1 (uB s d fr to pl xs).length) (fun g => .tuple #[.slice g.a (uB s d fr to pl xs).length g.cap, .int .i64 (uE xs.length)]) [] (fun g => [g.seg 5 (byc (uB s d fr to pl xs))])) := by
  subst hn; exact wudp_c s d fr to pl xs a cap w hat hs hd hf ht hl hlc
theorem speaks5_c  (w : World) : Calls Try.prog 13 #[] w (Ret w (.bool true)) := by
 refine calls_W (M := []) (LL := []) (n := 15) Try.func13 rfl rfl ma6 (Mem.refl _) (W.seq (fun K1 hK1 => ?_))
 refine W.region (Wl.run 1 ma0 (Wl.nil (hK1 _ _ _ (W.seq (fun K2 hK2 => ?_)))))
 refine W.region (Wl.run 1 ma0 ?_)
 have hl6 := uB_le 1 2 68 67 true ([] : List UInt8)
 refine Wl.htS rfl (HtS.call (β := FS) (k := 14) (args := #[iV .u32 1, iV .u32 2, aV [iV .u16 68, iV .u16 67, bV true, Value.slice none 0 0]]) (Lin := []) (Lk := []) (Mi := []) (Lo := fun g3 => [g3.seg 5 (mc b8 (uB 1 2 68 67 true ([] : List UInt8)))]) [] [] rfl (fun _ => kr) ma3 rfl rfl rfl (fun w_ hm_ hl_ => (wudpn_c 1 2 68 67 true ([] : List UInt8) none 0 0 _ ma5 (At.nil _ _) ma1 ma1 ma1 ma1 ma12 ma6)) (fun _ => rfl)) (fun g3 ok4 => Wl.run 5 ma0 (Wl.nil (hK2 _ _ _ (W.prune' [1, 2] [sV g3 ((uB 1 2 68 67 true ([] : List UInt8)).length), iV .i64 (uE ([] : List UInt8).length)] ma0 (fun f7 => ?_)))))
 refine W.seq (fun K8 hK8 => W.region (Wl.run 3 ma0 ?_))
 refine Wl.guard (v := sV g3 ((uB 1 2 68 67 true ([] : List UInt8)).length)) ((uE ([] : List UInt8).length) == 0) rfl (wantT rfl ma0) rfl (fun hg9 => ?_) ?_
 ·exact Ys.pure (fun _ => kr)
 refine Wl.guard (v := Value.string (bstr (uB 1 2 68 67 true ([] : List UInt8)))) ((uE ([] : List UInt8).length) == 0) rfl (wantT rfl ma0) rfl (fun hg10 => ?_) ?_
 ·refine Ys.at (t := 11) (v0 := sV g3 ((uB 1 2 68 67 true ([] : List UInt8)).length)) (lz (g := (uE ([] : List UInt8).length) == 0) (u := undef) hg10 ma0) ?_
  exact Ys.bytesStr (a := g3.a) (len := (uB 1 2 68 67 true ([] : List UInt8)).length) (cap := g3.cap) (xs := uB 1 2 68 67 true ([] : List UInt8)) (e := 5) rfl ma0 ma0 ma0 ma0 (rfl) (fun w_ h_ => (FS.at (i := 0) (t := 5) h_ rfl (FS.nil_cs ok4 (mc_len1 _))))
 refine Wl.guard (v := bV ((uB 1 2 68 67 true ([] : List UInt8)) == [0, 68, 0, 67, 0, 8, 0, 0])) ((uE ([] : List UInt8).length) == 0) rfl (wantT rfl ma0) rfl (fun hg11 => ?_) ?_
 ·refine Ys.at (t := 12) (v0 := Value.string (bstr (uB 1 2 68 67 true ([] : List UInt8)))) (lz (g := (uE ([] : List UInt8).length) == 0) (u := undef) hg11 ma0) ?_
  exact (Ys.pure (v := .bool ((bstr (uB 1 2 68 67 true ([] : List UInt8))).toList == (bstr [0, 68, 0, 67, 0, 8, 0, 0]).toList)) (fun _ => kr)).conseq (bool_congr ((bstr_eq _ _)))
 refine Wl.ys (v := bV (((uE ([] : List UInt8).length) == 0) && ((uB 1 2 68 67 true ([] : List UInt8)) == [0, 68, 0, 67, 0, 8, 0, 0]))) rfl rfl (Ys.and (e := (uE ([] : List UInt8).length) == 0) (b := (uB 1 2 68 67 true ([] : List UInt8)) == [0, 68, 0, 67, 0, 8, 0, 0]) rfl ma0 ma0 ma0) (Wl.run 1 ma0 (Wl.nil (hK8 _ _ _ (W.pick (LL' := []) [] ma3 rfl ?_))))
 refine W.prune' [0] [bV (((uE ([] : List UInt8).length) == 0) && ((uB 1 2 68 67 true ([] : List UInt8)) == [0, 68, 0, 67, 0, 8, 0, 0]))] ma0 (fun f12 => W.ret ?_)
 show ∀ w_, _ → bodyPostM (fence none) 0 Try.prog Try.f13 _ Exit.ret _ w_
 exact fun w_ hS_ => fin_ret (ret1 rfl (RV.tmp (v := bV (((uE ([] : List UInt8).length) == 0) && ((uB 1 2 68 67 true ([] : List UInt8)) == [0, 68, 0, 67, 0, 8, 0, 0]))) ma0) hS_ ⟨by clear hK1 hK2 hK8; refine congrArg Ending.returned ?_; exact bool_congr (by decide +kernel), hS_.below⟩)
theorem pw_mid {pre zs : List UInt8} {n : Nat} (hp : pre.length % 2 = 0) (hn : n < 65536) : (pw (pre ++ (be 2 n ++ zs))).sum = (pw pre).sum + n + (pw zs).sum := by
  rw [pw_app _ _ hp, pw_app _ _ (by rw [be_len]), pw_be2 hn]
  simp; omega
end Go.Proofs.Ytgohlpdgeicncaa.Oct
