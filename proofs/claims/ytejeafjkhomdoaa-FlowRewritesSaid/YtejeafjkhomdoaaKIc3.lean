import Derived.Test.YtejeafjkhomdoaaKIc1
set_option linter.unusedVariables false
set_option linter.unusedSimpArgs false
set_option maxRecDepth 20000
namespace Go.Proofs.Ytejeafjkhomdoaa.Oct
open Go.RowKit Base
attribute [local irreducible] Ys Yc Ht HtS HtIn Wl Wd W Mem pf dpf Wa Wo
theorem samepk_c (tt pr tu ps : UInt8) (id s d ie s2 d2 : Nat) (xs ys : List UInt8) (a c : Option Addr) (cap dap : Nat) (w : World) (hat : At w a (byc xs)) (hct : At w c (byc ys)) : Calls Try.prog 20 #[aV [nV .u8 tt.toNat, nV .u8 pr.toNat, nV .u16 id, nV .u32 s, nV .u32 d, Value.slice a xs.length cap], aV [nV .u8 tu.toNat, nV .u8 ps.toNat, nV .u16 ie, nV .u32 s2, nV .u32 d2, Value.slice c ys.length dap]] w (Ret w (.bool (((((((((tt.toNat : Nat) : Int) == (tu.toNat : Int)) && (((pr.toNat : Nat) : Int) == (ps.toNat : Int))) && (((id : Nat) : Int) == (ie : Int))) && (((s : Nat) : Int) == (s2 : Int))) && (((d : Nat) : Int) == (d2 : Int))) && (xs == ys))))) := by
 refine calls_W (M := []) (LL := []) (n := 47) Try.func20 rfl rfl ma12 (Mem.refl _) (W.seq (fun K1 hK1 => ?_))
 refine W.region (Wl.ht rfl (Ht.box (v := aV [nV .u8 tt.toNat, nV .u8 pr.toNat, nV .u16 id, nV .u32 s, nV .u32 d, Value.slice a xs.length cap]) (cs := [nV .u8 tt.toNat, nV .u8 pr.toNat, nV .u16 id, nV .u32 s, nV .u32 d, Value.slice a xs.length cap]) rfl rfl ma0 rfl) (fun p2 => ?_))
 refine Wl.ht rfl (Ht.box (v := aV [nV .u8 tu.toNat, nV .u8 ps.toNat, nV .u16 ie, nV .u32 s2, nV .u32 d2, Value.slice c ys.length dap]) (cs := [nV .u8 tu.toNat, nV .u8 ps.toNat, nV .u16 ie, nV .u32 s2, nV .u32 d2, Value.slice c ys.length dap]) rfl rfl ma0 rfl) (fun p3 => Wl.run 1 ma0 (Wl.nil (hK1 _ _ _ (W.seq (fun K2 hK2 => ?_)))))
 refine W.region (Wl.run 1 ma0 (Wl.ys rfl rfl (Ys.l1 p2 0 1 0 Try.isAgg5) (Wl.run 1 ma0 (Wl.ys rfl rfl (Ys.l1 p3 0 0 0 Try.isAgg5) ?_))))
 refine Wl.run 2 ma0 ?_
 refine Wl.guard (v := pV p2 1) (((tt.toNat : Nat) : Int) == (tu.toNat : Int)) rfl (wantT rfl ma0) rfl (fun hg3 => ?_) ?_
 ·exact Ys.pure (fun _ => kr)
 refine Wl.guard (v := nV .u8 pr.toNat) (((tt.toNat : Nat) : Int) == (tu.toNat : Int)) rfl (wantT rfl ma0) rfl (fun hg4 => ?_) ?_
 ·refine Ys.at (t := 11) (v0 := pV p2 1) (lz (g := (tt.toNat : Int) == (tu.toNat : Int)) (u := undef) hg4 ma0) ?_
  exact Ys.l1 p2 1 1 0 Try.isAgg5
 refine Wl.guard (v := pV p3 1) (((tt.toNat : Nat) : Int) == (tu.toNat : Int)) rfl (wantT rfl ma0) rfl (fun hg5 => ?_) ?_
 ·exact Ys.pure (fun _ => kr)
 refine Wl.guard (v := nV .u8 ps.toNat) (((tt.toNat : Nat) : Int) == (tu.toNat : Int)) rfl (wantT rfl ma0) rfl (fun hg6 => ?_) ?_
 ·refine Ys.at (t := 13) (v0 := pV p3 1) (lz (g := (tt.toNat : Int) == (tu.toNat : Int)) (u := undef) hg6 ma0) ?_
  exact Ys.l1 p3 1 0 0 Try.isAgg5
 refine Wl.guard (v := bV (((pr.toNat : Nat) : Int) == (ps.toNat : Int))) (((tt.toNat : Nat) : Int) == (tu.toNat : Int)) rfl (wantT rfl ma0) rfl (fun hg7 => ?_) ?_
 ·refine Ys.at (t := 12) (v0 := nV .u8 pr.toNat) (lz (g := (tt.toNat : Int) == (tu.toNat : Int)) (u := undef) hg7 ma0) (Ys.at (t := 14) (v0 := nV .u8 ps.toNat) (lz (g := (tt.toNat : Int) == (tu.toNat : Int)) (u := undef) hg7 ma0) ?_)
  exact Ys.pure (fun _ => kr)
 refine Wl.ys (v := bV (((tt.toNat : Int) == (tu.toNat : Int)) && (((pr.toNat : Nat) : Int) == (ps.toNat : Int)))) rfl rfl (Ys.and (e := (tt.toNat : Int) == (tu.toNat : Int)) (b := (pr.toNat : Int) == (ps.toNat : Int)) rfl ma0 ma0 ma0) (Wl.run 1 ma0 ?_)
 refine Wl.guard (v := pV p2 2) (((tt.toNat : Int) == (tu.toNat : Int)) && (((pr.toNat : Nat) : Int) == (ps.toNat : Int))) rfl (wantT rfl ma0) rfl (fun hg8 => ?_) ?_
 ·exact Ys.pure (fun _ => kr)
 refine Wl.guard (v := nV .u16 id) (((tt.toNat : Int) == (tu.toNat : Int)) && (((pr.toNat : Nat) : Int) == (ps.toNat : Int))) rfl (wantT rfl ma0) rfl (fun hg9 => ?_) ?_
 ·refine Ys.at (t := 18) (v0 := pV p2 2) (lz (g := (((tt.toNat : Nat) : Int) == (tu.toNat : Int)) && (((pr.toNat : Nat) : Int) == (ps.toNat : Int))) (u := undef) hg9 ma0) ?_
  exact Ys.l1 p2 2 1 0 Try.isAgg22
 refine Wl.guard (v := pV p3 2) (((tt.toNat : Int) == (tu.toNat : Int)) && (((pr.toNat : Nat) : Int) == (ps.toNat : Int))) rfl (wantT rfl ma0) rfl (fun hg10 => ?_) ?_
 ·exact Ys.pure (fun _ => kr)
 refine Wl.guard (v := nV .u16 ie) (((tt.toNat : Int) == (tu.toNat : Int)) && (((pr.toNat : Nat) : Int) == (ps.toNat : Int))) rfl (wantT rfl ma0) rfl (fun hg11 => ?_) ?_
 ·refine Ys.at (t := 20) (v0 := pV p3 2) (lz (g := (((tt.toNat : Nat) : Int) == (tu.toNat : Int)) && (((pr.toNat : Nat) : Int) == (ps.toNat : Int))) (u := undef) hg11 ma0) ?_
  exact Ys.l1 p3 2 0 0 Try.isAgg22
 refine Wl.guard (v := bV (((id : Nat) : Int) == (ie : Int))) (((tt.toNat : Int) == (tu.toNat : Int)) && (((pr.toNat : Nat) : Int) == (ps.toNat : Int))) rfl (wantT rfl ma0) rfl (fun hg12 => ?_) ?_
 ·refine Ys.at (t := 19) (v0 := nV .u16 id) (lz (g := (((tt.toNat : Nat) : Int) == (tu.toNat : Int)) && (((pr.toNat : Nat) : Int) == (ps.toNat : Int))) (u := undef) hg12 ma0) (Ys.at (t := 21) (v0 := nV .u16 ie) (lz (g := (((tt.toNat : Nat) : Int) == (tu.toNat : Int)) && (((pr.toNat : Nat) : Int) == (ps.toNat : Int))) (u := undef) hg12 ma0) ?_)
  exact Ys.pure (fun _ => kr)
 refine Wl.ys (v := bV (((((tt.toNat : Nat) : Int) == (tu.toNat : Int)) && (((pr.toNat : Nat) : Int) == (ps.toNat : Int))) && (((id : Nat) : Int) == (ie : Int)))) rfl rfl (Ys.and (e := (((tt.toNat : Nat) : Int) == (tu.toNat : Int)) && (((pr.toNat : Nat) : Int) == (ps.toNat : Int))) (b := (id : Int) == (ie : Int)) rfl ma0 ma0 ma0) (Wl.run 1 ma0 ?_)
 refine Wl.guard (v := pV p2 3) (((((tt.toNat : Nat) : Int) == (tu.toNat : Int)) && (((pr.toNat : Nat) : Int) == (ps.toNat : Int))) && (((id : Nat) : Int) == (ie : Int))) rfl (wantT rfl ma0) rfl (fun hg13 => ?_) ?_
 ·exact Ys.pure (fun _ => kr)
 refine Wl.guard (v := nV .u32 s) (((((tt.toNat : Nat) : Int) == (tu.toNat : Int)) && (((pr.toNat : Nat) : Int) == (ps.toNat : Int))) && (((id : Nat) : Int) == (ie : Int))) rfl (wantT rfl ma0) rfl (fun hg14 => ?_) ?_
 ·refine Ys.at (t := 25) (v0 := pV p2 3) (lz (g := (((tt.toNat : Int) == (tu.toNat : Int)) && (((pr.toNat : Nat) : Int) == (ps.toNat : Int))) && (((id : Nat) : Int) == (ie : Int))) (u := undef) hg14 ma0) ?_
  exact Ys.l1 p2 3 1 0 Try.isAgg24
 refine Wl.guard (v := pV p3 3) (((((tt.toNat : Nat) : Int) == (tu.toNat : Int)) && (((pr.toNat : Nat) : Int) == (ps.toNat : Int))) && (((id : Nat) : Int) == (ie : Int))) rfl (wantT rfl ma0) rfl (fun hg15 => ?_) ?_
 ·exact Ys.pure (fun _ => kr)
 refine Wl.guard (v := nV .u32 s2) (((((tt.toNat : Nat) : Int) == (tu.toNat : Int)) && (((pr.toNat : Nat) : Int) == (ps.toNat : Int))) && (((id : Nat) : Int) == (ie : Int))) rfl (wantT rfl ma0) rfl (fun hg16 => ?_) ?_
 ·refine Ys.at (t := 27) (v0 := pV p3 3) (lz (g := (((tt.toNat : Int) == (tu.toNat : Int)) && (((pr.toNat : Nat) : Int) == (ps.toNat : Int))) && (((id : Nat) : Int) == (ie : Int))) (u := undef) hg16 ma0) ?_
  exact Ys.l1 p3 3 0 0 Try.isAgg24
 refine Wl.guard (v := bV (((s : Nat) : Int) == (s2 : Int))) (((((tt.toNat : Nat) : Int) == (tu.toNat : Int)) && (((pr.toNat : Nat) : Int) == (ps.toNat : Int))) && (((id : Nat) : Int) == (ie : Int))) rfl (wantT rfl ma0) rfl (fun hg17 => ?_) ?_
 ·refine Ys.at (t := 26) (v0 := nV .u32 s) (lz (g := (((tt.toNat : Int) == (tu.toNat : Int)) && (((pr.toNat : Nat) : Int) == (ps.toNat : Int))) && (((id : Nat) : Int) == (ie : Int))) (u := undef) hg17 ma0) (Ys.at (t := 28) (v0 := nV .u32 s2) (lz (g := (((tt.toNat : Int) == (tu.toNat : Int)) && (((pr.toNat : Nat) : Int) == (ps.toNat : Int))) && (((id : Nat) : Int) == (ie : Int))) (u := undef) hg17 ma0) ?_)
  exact Ys.pure (fun _ => kr)
 refine Wl.ys (v := bV (((((tt.toNat : Int) == (tu.toNat : Int)) && (((pr.toNat : Nat) : Int) == (ps.toNat : Int))) && (((id : Nat) : Int) == (ie : Int))) && (((s : Nat) : Int) == (s2 : Int)))) rfl rfl (Ys.and (e := (((tt.toNat : Int) == (tu.toNat : Int)) && (((pr.toNat : Nat) : Int) == (ps.toNat : Int))) && (((id : Nat) : Int) == (ie : Int))) (b := (s : Int) == (s2 : Int)) rfl ma0 ma0 ma0) (Wl.run 1 ma0 ?_)
 refine Wl.guard (v := pV p2 4) (((((tt.toNat : Int) == (tu.toNat : Int)) && (((pr.toNat : Nat) : Int) == (ps.toNat : Int))) && (((id : Nat) : Int) == (ie : Int))) && (((s : Nat) : Int) == (s2 : Int))) rfl (wantT rfl ma0) rfl (fun hg18 => ?_) ?_
 ·exact Ys.pure (fun _ => kr)
 refine Wl.guard (v := nV .u32 d) (((((tt.toNat : Int) == (tu.toNat : Int)) && (((pr.toNat : Nat) : Int) == (ps.toNat : Int))) && (((id : Nat) : Int) == (ie : Int))) && (((s : Nat) : Int) == (s2 : Int))) rfl (wantT rfl ma0) rfl (fun hg19 => ?_) ?_
 ·refine Ys.at (t := 32) (v0 := pV p2 4) (lz (g := (((((tt.toNat : Nat) : Int) == (tu.toNat : Int)) && (((pr.toNat : Nat) : Int) == (ps.toNat : Int))) && (((id : Nat) : Int) == (ie : Int))) && (((s : Nat) : Int) == (s2 : Int))) (u := undef) hg19 ma0) ?_
  exact Ys.l1 p2 4 1 0 Try.isAgg24
 refine Wl.guard (v := pV p3 4) (((((tt.toNat : Int) == (tu.toNat : Int)) && (((pr.toNat : Nat) : Int) == (ps.toNat : Int))) && (((id : Nat) : Int) == (ie : Int))) && (((s : Nat) : Int) == (s2 : Int))) rfl (wantT rfl ma0) rfl (fun hg20 => ?_) ?_
 ·exact Ys.pure (fun _ => kr)
 refine Wl.guard (v := nV .u32 d2) (((((tt.toNat : Int) == (tu.toNat : Int)) && (((pr.toNat : Nat) : Int) == (ps.toNat : Int))) && (((id : Nat) : Int) == (ie : Int))) && (((s : Nat) : Int) == (s2 : Int))) rfl (wantT rfl ma0) rfl (fun hg21 => ?_) ?_
 ·refine Ys.at (t := 34) (v0 := pV p3 4) (lz (g := (((((tt.toNat : Nat) : Int) == (tu.toNat : Int)) && (((pr.toNat : Nat) : Int) == (ps.toNat : Int))) && (((id : Nat) : Int) == (ie : Int))) && (((s : Nat) : Int) == (s2 : Int))) (u := undef) hg21 ma0) ?_
  exact Ys.l1 p3 4 0 0 Try.isAgg24
 refine Wl.guard (v := bV (((d : Nat) : Int) == (d2 : Int))) (((((tt.toNat : Int) == (tu.toNat : Int)) && (((pr.toNat : Nat) : Int) == (ps.toNat : Int))) && (((id : Nat) : Int) == (ie : Int))) && (((s : Nat) : Int) == (s2 : Int))) rfl (wantT rfl ma0) rfl (fun hg22 => ?_) ?_
 ·refine Ys.at (t := 33) (v0 := nV .u32 d) (lz (g := (((((tt.toNat : Nat) : Int) == (tu.toNat : Int)) && (((pr.toNat : Nat) : Int) == (ps.toNat : Int))) && (((id : Nat) : Int) == (ie : Int))) && (((s : Nat) : Int) == (s2 : Int))) (u := undef) hg22 ma0) (Ys.at (t := 35) (v0 := nV .u32 d2) (lz (g := (((((tt.toNat : Nat) : Int) == (tu.toNat : Int)) && (((pr.toNat : Nat) : Int) == (ps.toNat : Int))) && (((id : Nat) : Int) == (ie : Int))) && (((s : Nat) : Int) == (s2 : Int))) (u := undef) hg22 ma0) ?_)
  exact Ys.pure (fun _ => kr)
 refine Wl.ys (v := bV (((((((tt.toNat : Nat) : Int) == (tu.toNat : Int)) && (((pr.toNat : Nat) : Int) == (ps.toNat : Int))) && (((id : Nat) : Int) == (ie : Int))) && (((s : Nat) : Int) == (s2 : Int))) && (((d : Nat) : Int) == (d2 : Int)))) rfl rfl (Ys.and (e := (((((tt.toNat : Nat) : Int) == (tu.toNat : Int)) && (((pr.toNat : Nat) : Int) == (ps.toNat : Int))) && (((id : Nat) : Int) == (ie : Int))) && (((s : Nat) : Int) == (s2 : Int))) (b := (d : Int) == (d2 : Int)) rfl ma0 ma0 ma0) (Wl.run 1 ma0 ?_)
 refine Wl.guard (v := pV p2 5) (((((((tt.toNat : Nat) : Int) == (tu.toNat : Int)) && (((pr.toNat : Nat) : Int) == (ps.toNat : Int))) && (((id : Nat) : Int) == (ie : Int))) && (((s : Nat) : Int) == (s2 : Int))) && (((d : Nat) : Int) == (d2 : Int))) rfl (wantT rfl ma0) rfl (fun hg23 => ?_) ?_
 ·exact Ys.pure (fun _ => kr)
 refine Wl.guard (v := Value.slice a xs.length cap) (((((((tt.toNat : Nat) : Int) == (tu.toNat : Int)) && (((pr.toNat : Nat) : Int) == (ps.toNat : Int))) && (((id : Nat) : Int) == (ie : Int))) && (((s : Nat) : Int) == (s2 : Int))) && (((d : Nat) : Int) == (d2 : Int))) rfl (wantT rfl ma0) rfl (fun hg24 => ?_) ?_
 ·refine Ys.at (t := 39) (v0 := pV p2 5) (lz (g := (((((tt.toNat : Int) == (tu.toNat : Int)) && (((pr.toNat : Nat) : Int) == (ps.toNat : Int))) && (((id : Nat) : Int) == (ie : Int))) && (((s : Nat) : Int) == (s2 : Int))) && (((d : Nat) : Int) == (d2 : Int))) (u := undef) hg24 ma0) ?_
  exact Ys.l1 p2 5 1 0 Try.isAgg25
 refine Wl.guard (v := Value.string (bstr xs)) (((((((tt.toNat : Nat) : Int) == (tu.toNat : Int)) && (((pr.toNat : Nat) : Int) == (ps.toNat : Int))) && (((id : Nat) : Int) == (ie : Int))) && (((s : Nat) : Int) == (s2 : Int))) && (((d : Nat) : Int) == (d2 : Int))) rfl (wantT rfl ma0) rfl (fun hg25 => ?_) ?_
 ·refine Ys.at (t := 40) (v0 := Value.slice a xs.length cap) (lz (g := (((((tt.toNat : Int) == (tu.toNat : Int)) && (((pr.toNat : Nat) : Int) == (ps.toNat : Int))) && (((id : Nat) : Int) == (ie : Int))) && (((s : Nat) : Int) == (s2 : Int))) && (((d : Nat) : Int) == (d2 : Int))) (u := undef) hg25 ma0) ?_
  exact Ys.bytesStr (a := a) (len := xs.length) (cap := cap) (xs := xs) (e := 5) rfl ma0 ma0 ma0 ma0 (rfl) (fun w_ h_ => (hat.mem0 h_))
 refine Wl.guard (v := pV p3 5) (((((((tt.toNat : Nat) : Int) == (tu.toNat : Int)) && (((pr.toNat : Nat) : Int) == (ps.toNat : Int))) && (((id : Nat) : Int) == (ie : Int))) && (((s : Nat) : Int) == (s2 : Int))) && (((d : Nat) : Int) == (d2 : Int))) rfl (wantT rfl ma0) rfl (fun hg26 => ?_) ?_
 ·exact Ys.pure (fun _ => kr)
 refine Wl.guard (v := Value.slice c ys.length dap) (((((((tt.toNat : Nat) : Int) == (tu.toNat : Int)) && (((pr.toNat : Nat) : Int) == (ps.toNat : Int))) && (((id : Nat) : Int) == (ie : Int))) && (((s : Nat) : Int) == (s2 : Int))) && (((d : Nat) : Int) == (d2 : Int))) rfl (wantT rfl ma0) rfl (fun hg27 => ?_) ?_
 ·refine Ys.at (t := 42) (v0 := pV p3 5) (lz (g := (((((tt.toNat : Int) == (tu.toNat : Int)) && (((pr.toNat : Nat) : Int) == (ps.toNat : Int))) && (((id : Nat) : Int) == (ie : Int))) && (((s : Nat) : Int) == (s2 : Int))) && (((d : Nat) : Int) == (d2 : Int))) (u := undef) hg27 ma0) ?_
  exact Ys.l1 p3 5 0 0 Try.isAgg25
 refine Wl.guard (v := Value.string (bstr ys)) (((((((tt.toNat : Nat) : Int) == (tu.toNat : Int)) && (((pr.toNat : Nat) : Int) == (ps.toNat : Int))) && (((id : Nat) : Int) == (ie : Int))) && (((s : Nat) : Int) == (s2 : Int))) && (((d : Nat) : Int) == (d2 : Int))) rfl (wantT rfl ma0) rfl (fun hg28 => ?_) ?_
 ·refine Ys.at (t := 43) (v0 := Value.slice c ys.length dap) (lz (g := (((((tt.toNat : Int) == (tu.toNat : Int)) && (((pr.toNat : Nat) : Int) == (ps.toNat : Int))) && (((id : Nat) : Int) == (ie : Int))) && (((s : Nat) : Int) == (s2 : Int))) && (((d : Nat) : Int) == (d2 : Int))) (u := undef) hg28 ma0) ?_
  exact Ys.bytesStr (a := c) (len := ys.length) (cap := dap) (xs := ys) (e := 5) rfl ma0 ma0 ma0 ma0 (rfl) (fun w_ h_ => (hct.mem0 h_))
 refine Wl.guard (v := bV (xs == ys)) (((((((tt.toNat : Nat) : Int) == (tu.toNat : Int)) && (((pr.toNat : Nat) : Int) == (ps.toNat : Int))) && (((id : Nat) : Int) == (ie : Int))) && (((s : Nat) : Int) == (s2 : Int))) && (((d : Nat) : Int) == (d2 : Int))) rfl (wantT rfl ma0) rfl (fun hg29 => ?_) ?_
 ·refine Ys.at (t := 41) (v0 := Value.string (bstr xs)) (lz (g := (((((tt.toNat : Int) == (tu.toNat : Int)) && (((pr.toNat : Nat) : Int) == (ps.toNat : Int))) && (((id : Nat) : Int) == (ie : Int))) && (((s : Nat) : Int) == (s2 : Int))) && (((d : Nat) : Int) == (d2 : Int))) (u := undef) hg29 ma0) (Ys.at (t := 44) (v0 := Value.string (bstr ys)) (lz (g := (((((tt.toNat : Int) == (tu.toNat : Int)) && (((pr.toNat : Nat) : Int) == (ps.toNat : Int))) && (((id : Nat) : Int) == (ie : Int))) && (((s : Nat) : Int) == (s2 : Int))) && (((d : Nat) : Int) == (d2 : Int))) (u := undef) hg29 ma0) ?_)
  exact (Ys.pure (v := .bool ((bstr xs).toList == (bstr ys).toList)) (fun _ => kr)).conseq (bool_congr ((bstr_eq _ _)))
 refine Wl.ys (v := bV (((((((tt.toNat : Int) == (tu.toNat : Int)) && (((pr.toNat : Nat) : Int) == (ps.toNat : Int))) && (((id : Nat) : Int) == (ie : Int))) && (((s : Nat) : Int) == (s2 : Int))) && (((d : Nat) : Int) == (d2 : Int))) && (xs == ys))) rfl rfl (Ys.and (e := (((((tt.toNat : Int) == (tu.toNat : Int)) && (((pr.toNat : Nat) : Int) == (ps.toNat : Int))) && (((id : Nat) : Int) == (ie : Int))) && (((s : Nat) : Int) == (s2 : Int))) && (((d : Nat) : Int) == (d2 : Int))) (b := xs == ys) rfl ma0 ma0 ma0) (Wl.run 1 ma0 (Wl.nil (hK2 _ _ _ (W.pick (LL' := []) [] ma3 rfl ?_))))
 refine W.prune' [4] [bV (((((((tt.toNat : Int) == (tu.toNat : Int)) && (((pr.toNat : Nat) : Int) == (ps.toNat : Int))) && (((id : Nat) : Int) == (ie : Int))) && (((s : Nat) : Int) == (s2 : Int))) && (((d : Nat) : Int) == (d2 : Int))) && (xs == ys))] ma0 (fun f30 => W.ret ?_)
 show ∀ w_, _ → bodyPostM (fence none) 0 Try.prog Try.f20 _ Exit.ret _ w_
 exact fun w_ hS_ => fin_ret (ret1 rfl (RV.tmp (v := bV (((((((tt.toNat : Int) == (tu.toNat : Int)) && (((pr.toNat : Nat) : Int) == (ps.toNat : Int))) && (((id : Nat) : Int) == (ie : Int))) && (((s : Nat) : Int) == (s2 : Int))) && (((d : Nat) : Int) == (d2 : Int))) && (xs == ys))) ma0) hS_ ⟨rfl, hS_.below⟩)
theorem samepkn_c (tt pr tu ps : UInt8) (id s d ie s2 d2 : Nat) (xs ys : List UInt8) (a c : Option Addr) (cap dap : Nat) (len len2 : Nat) (w : World) (hn : len = xs.length) (hn2 : len2 = ys.length) (hat : At w a (byc xs)) (hct : At w c (byc ys)) : Calls Try.prog 20 #[Value.agg ([Value.int .u8 (tt.toNat : Int), Value.int .u8 (pr.toNat : Int), Value.int .u16 (id : Int), Value.int .u32 (s : Int), Value.int .u32 (d : Int), Value.slice a len cap]).toArray, Value.agg ([Value.int .u8 (tu.toNat : Int), Value.int .u8 (ps.toNat : Int), Value.int .u16 (ie : Int), Value.int .u32 (s2 : Int), Value.int .u32 (d2 : Int), Value.slice c len2 dap]).toArray] w (Ret w (.bool (((((((((tt.toNat : Nat) : Int) == (tu.toNat : Int)) && (((pr.toNat : Nat) : Int) == (ps.toNat : Int))) && (((id : Nat) : Int) == (ie : Int))) && (((s : Nat) : Int) == (s2 : Int))) && (((d : Nat) : Int) == (d2 : Int))) && (xs == ys))))) := by
  subst hn; subst hn2; exact samepk_c tt pr tu ps id s d ie s2 d2 xs ys a c cap dap w hat hct
end Go.Proofs.Ytejeafjkhomdoaa.Oct
