/-
  TransDatagrams. No condition.
-/
import Derived.Test.YtgohlpdgeicncaaTr3
set_option linter.unusedVariables false
set_option linter.unusedSimpArgs false
set_option maxRecDepth 20000
namespace Go.Proofs.Ytgohlpdgeicncaa.Oct
open Go.RowKit Base
attribute [local irreducible] Ys Yc Ht HtIn Wl Wd W Mem pf dpf Wa Wo

theorem sameudp_c (fr to gr go : Nat) (pl ql : Bool) (xs ys : List UInt8) (a c : Option Addr) (cap dap : Nat) (w : World) (hat : At w a (byc xs)) (hct : At w c (byc ys)) : Calls Try.prog 16 #[Value.agg ([Value.int .u16 ((fr : Nat) : Int), Value.int .u16 ((to : Nat) : Int), Value.bool pl, Value.slice a xs.length cap]).toArray, Value.agg ([Value.int .u16 ((gr : Nat) : Int), Value.int .u16 ((go : Nat) : Int), Value.bool ql, Value.slice c ys.length dap]).toArray] w (Ret w (.bool (((((fr : Nat) : Int) == ((gr : Nat) : Int) && ((to : Nat) : Int) == ((go : Nat) : Int)) && (pl == ql)) && (xs == ys)))) := by
  refine calls_W (M := []) (LL := []) (n := 33) Try.func16 rfl rfl (by simp) (Mem.refl _) ?_
  refine W.seq (fun K1 hK1 => ?_)
  refine W.region ?_
  refine Wl.ht rfl (Ht.box (v := Value.agg ([Value.int .u16 ((fr : Nat) : Int), Value.int .u16 ((to : Nat) : Int), Value.bool pl, Value.slice a xs.length cap]).toArray) (cs := [Value.int .u16 ((fr : Nat) : Int), Value.int .u16 ((to : Nat) : Int), Value.bool pl, Value.slice a xs.length cap]) rfl rfl (by kernel_rfl) rfl) (fun p2 => ?_)
  refine Wl.ht rfl (Ht.box (v := Value.agg ([Value.int .u16 ((gr : Nat) : Int), Value.int .u16 ((go : Nat) : Int), Value.bool ql, Value.slice c ys.length dap]).toArray) (cs := [Value.int .u16 ((gr : Nat) : Int), Value.int .u16 ((go : Nat) : Int), Value.bool ql, Value.slice c ys.length dap]) rfl rfl (by kernel_rfl) rfl) (fun p3 => ?_)
  refine Wl.run 1 (by kernel_rfl) ?_
  refine Wl.nil ?_
  refine hK1 _ _ _ ?_
  refine W.prune' [2, 3] [Value.pointer (some ⟨p2, 0, none⟩), Value.pointer (some ⟨p3, 0, none⟩)] (by kernel_rfl) (fun f2 => ?_)
  refine W.seq (fun K3 hK3 => ?_)
  refine W.region ?_
  refine Wl.run 1 (by kernel_rfl) ?_
  refine Wl.ys (v := Value.int .u16 ((fr : Nat) : Int)) rfl rfl (Ys.load (b := p2) (o' := 0) (i := 1) (j := 0) (cs := [Value.int .u16 ((fr : Nat) : Int), Value.int .u16 ((to : Nat) : Int), Value.bool pl, Value.slice a xs.length cap]) (v := Value.int .u16 ((fr : Nat) : Int)) rfl (by kernel_rfl) Try.isAgg25 rfl rfl rfl) ?_
  refine Wl.run 1 (by kernel_rfl) ?_
  refine Wl.ys (v := Value.int .u16 ((gr : Nat) : Int)) rfl rfl (Ys.load (b := p3) (o' := 0) (i := 0) (j := 0) (cs := [Value.int .u16 ((gr : Nat) : Int), Value.int .u16 ((go : Nat) : Int), Value.bool ql, Value.slice c ys.length dap]) (v := Value.int .u16 ((gr : Nat) : Int)) rfl (by kernel_rfl) Try.isAgg25 rfl rfl rfl) ?_
  refine Wl.run 2 (by kernel_rfl) ?_
  refine Wl.guard (v := Value.pointer (some ⟨p2, 1, none⟩)) (((fr : Nat) : Int) == ((gr : Nat) : Int)) rfl (wantT rfl (by kernel_rfl)) rfl (fun hg4 => ?_) ?_
  · have qhg4 := hg4; try simp only [Bool.and_eq_true, Bool.or_eq_true, Bool.not_eq_true', Bool.not_eq_false', Bool.and_eq_false_iff, Bool.or_eq_false_iff, decide_eq_true_eq, decide_eq_false_iff_not, beq_iff_eq, bne_iff_ne, beq_eq_false_iff_ne, bne_eq_false_iff_eq] at qhg4
    exact Ys.pure (fun _ => by kernel_rfl)
  refine Wl.guard (v := Value.int .u16 ((to : Nat) : Int)) (((fr : Nat) : Int) == ((gr : Nat) : Int)) rfl (wantT rfl (by kernel_rfl)) rfl (fun hg5 => ?_) ?_
  · have qhg5 := hg5; try simp only [Bool.and_eq_true, Bool.or_eq_true, Bool.not_eq_true', Bool.not_eq_false', Bool.and_eq_false_iff, Bool.or_eq_false_iff, decide_eq_true_eq, decide_eq_false_iff_not, beq_iff_eq, bne_iff_ne, beq_eq_false_iff_ne, bne_eq_false_iff_eq] at qhg5
    refine Ys.at (t := 11) (v0 := Value.pointer (some ⟨p2, 1, none⟩)) (lz (g := ((fr : Nat) : Int) == ((gr : Nat) : Int)) (u := undef) hg5 (by kernel_rfl)) ?_
    exact Ys.load (b := p2) (o' := 1) (i := 1) (j := 0) (cs := [Value.int .u16 ((fr : Nat) : Int), Value.int .u16 ((to : Nat) : Int), Value.bool pl, Value.slice a xs.length cap]) (v := Value.int .u16 ((to : Nat) : Int)) rfl (by kernel_rfl) Try.isAgg25 rfl rfl rfl
  refine Wl.guard (v := Value.pointer (some ⟨p3, 1, none⟩)) (((fr : Nat) : Int) == ((gr : Nat) : Int)) rfl (wantT rfl (by kernel_rfl)) rfl (fun hg6 => ?_) ?_
  · have qhg6 := hg6; try simp only [Bool.and_eq_true, Bool.or_eq_true, Bool.not_eq_true', Bool.not_eq_false', Bool.and_eq_false_iff, Bool.or_eq_false_iff, decide_eq_true_eq, decide_eq_false_iff_not, beq_iff_eq, bne_iff_ne, beq_eq_false_iff_ne, bne_eq_false_iff_eq] at qhg6
    exact Ys.pure (fun _ => by kernel_rfl)
  refine Wl.guard (v := Value.int .u16 ((go : Nat) : Int)) (((fr : Nat) : Int) == ((gr : Nat) : Int)) rfl (wantT rfl (by kernel_rfl)) rfl (fun hg7 => ?_) ?_
  · have qhg7 := hg7; try simp only [Bool.and_eq_true, Bool.or_eq_true, Bool.not_eq_true', Bool.not_eq_false', Bool.and_eq_false_iff, Bool.or_eq_false_iff, decide_eq_true_eq, decide_eq_false_iff_not, beq_iff_eq, bne_iff_ne, beq_eq_false_iff_ne, bne_eq_false_iff_eq] at qhg7
    refine Ys.at (t := 13) (v0 := Value.pointer (some ⟨p3, 1, none⟩)) (lz (g := ((fr : Nat) : Int) == ((gr : Nat) : Int)) (u := undef) hg7 (by kernel_rfl)) ?_
    exact Ys.load (b := p3) (o' := 1) (i := 0) (j := 0) (cs := [Value.int .u16 ((gr : Nat) : Int), Value.int .u16 ((go : Nat) : Int), Value.bool ql, Value.slice c ys.length dap]) (v := Value.int .u16 ((go : Nat) : Int)) rfl (by kernel_rfl) Try.isAgg25 rfl rfl rfl
  refine Wl.guard (v := Value.bool (((to : Nat) : Int) == ((go : Nat) : Int))) (((fr : Nat) : Int) == ((gr : Nat) : Int)) rfl (wantT rfl (by kernel_rfl)) rfl (fun hg8 => ?_) ?_
  · have qhg8 := hg8; try simp only [Bool.and_eq_true, Bool.or_eq_true, Bool.not_eq_true', Bool.not_eq_false', Bool.and_eq_false_iff, Bool.or_eq_false_iff, decide_eq_true_eq, decide_eq_false_iff_not, beq_iff_eq, bne_iff_ne, beq_eq_false_iff_ne, bne_eq_false_iff_eq] at qhg8
    refine Ys.at (t := 12) (v0 := Value.int .u16 ((to : Nat) : Int)) (lz (g := ((fr : Nat) : Int) == ((gr : Nat) : Int)) (u := undef) hg8 (by kernel_rfl)) ?_
    refine Ys.at (t := 14) (v0 := Value.int .u16 ((go : Nat) : Int)) (lz (g := ((fr : Nat) : Int) == ((gr : Nat) : Int)) (u := undef) hg8 (by kernel_rfl)) ?_
    exact Ys.pure (fun _ => by kernel_rfl)
  refine Wl.ys (v := Value.bool ((((fr : Nat) : Int) == ((gr : Nat) : Int)) && (((to : Nat) : Int) == ((go : Nat) : Int)))) rfl rfl (Ys.and (e := ((fr : Nat) : Int) == ((gr : Nat) : Int)) (b := ((to : Nat) : Int) == ((go : Nat) : Int)) rfl (by kernel_rfl) (by kernel_rfl) (by kernel_rfl)) ?_
  refine Wl.run 1 (by kernel_rfl) ?_
  refine Wl.guard (v := Value.pointer (some ⟨p2, 2, none⟩)) ((((fr : Nat) : Int) == ((gr : Nat) : Int)) && (((to : Nat) : Int) == ((go : Nat) : Int))) rfl (wantT rfl (by kernel_rfl)) rfl (fun hg9 => ?_) ?_
  · have qhg9 := hg9; try simp only [Bool.and_eq_true, Bool.or_eq_true, Bool.not_eq_true', Bool.not_eq_false', Bool.and_eq_false_iff, Bool.or_eq_false_iff, decide_eq_true_eq, decide_eq_false_iff_not, beq_iff_eq, bne_iff_ne, beq_eq_false_iff_ne, bne_eq_false_iff_eq] at qhg9
    exact Ys.pure (fun _ => by kernel_rfl)
  refine Wl.guard (v := Value.bool pl) ((((fr : Nat) : Int) == ((gr : Nat) : Int)) && (((to : Nat) : Int) == ((go : Nat) : Int))) rfl (wantT rfl (by kernel_rfl)) rfl (fun hg10 => ?_) ?_
  · have qhg10 := hg10; try simp only [Bool.and_eq_true, Bool.or_eq_true, Bool.not_eq_true', Bool.not_eq_false', Bool.and_eq_false_iff, Bool.or_eq_false_iff, decide_eq_true_eq, decide_eq_false_iff_not, beq_iff_eq, bne_iff_ne, beq_eq_false_iff_ne, bne_eq_false_iff_eq] at qhg10
    refine Ys.at (t := 18) (v0 := Value.pointer (some ⟨p2, 2, none⟩)) (lz (g := (((fr : Nat) : Int) == ((gr : Nat) : Int)) && (((to : Nat) : Int) == ((go : Nat) : Int))) (u := undef) hg10 (by kernel_rfl)) ?_
    exact Ys.load (b := p2) (o' := 2) (i := 1) (j := 0) (cs := [Value.int .u16 ((fr : Nat) : Int), Value.int .u16 ((to : Nat) : Int), Value.bool pl, Value.slice a xs.length cap]) (v := Value.bool pl) rfl (by kernel_rfl) Try.isAgg4 rfl rfl rfl
  refine Wl.guard (v := Value.pointer (some ⟨p3, 2, none⟩)) ((((fr : Nat) : Int) == ((gr : Nat) : Int)) && (((to : Nat) : Int) == ((go : Nat) : Int))) rfl (wantT rfl (by kernel_rfl)) rfl (fun hg11 => ?_) ?_
  · have qhg11 := hg11; try simp only [Bool.and_eq_true, Bool.or_eq_true, Bool.not_eq_true', Bool.not_eq_false', Bool.and_eq_false_iff, Bool.or_eq_false_iff, decide_eq_true_eq, decide_eq_false_iff_not, beq_iff_eq, bne_iff_ne, beq_eq_false_iff_ne, bne_eq_false_iff_eq] at qhg11
    exact Ys.pure (fun _ => by kernel_rfl)
  refine Wl.guard (v := Value.bool ql) ((((fr : Nat) : Int) == ((gr : Nat) : Int)) && (((to : Nat) : Int) == ((go : Nat) : Int))) rfl (wantT rfl (by kernel_rfl)) rfl (fun hg12 => ?_) ?_
  · have qhg12 := hg12; try simp only [Bool.and_eq_true, Bool.or_eq_true, Bool.not_eq_true', Bool.not_eq_false', Bool.and_eq_false_iff, Bool.or_eq_false_iff, decide_eq_true_eq, decide_eq_false_iff_not, beq_iff_eq, bne_iff_ne, beq_eq_false_iff_ne, bne_eq_false_iff_eq] at qhg12
    refine Ys.at (t := 20) (v0 := Value.pointer (some ⟨p3, 2, none⟩)) (lz (g := (((fr : Nat) : Int) == ((gr : Nat) : Int)) && (((to : Nat) : Int) == ((go : Nat) : Int))) (u := undef) hg12 (by kernel_rfl)) ?_
    exact Ys.load (b := p3) (o' := 2) (i := 0) (j := 0) (cs := [Value.int .u16 ((gr : Nat) : Int), Value.int .u16 ((go : Nat) : Int), Value.bool ql, Value.slice c ys.length dap]) (v := Value.bool ql) rfl (by kernel_rfl) Try.isAgg4 rfl rfl rfl
  refine Wl.guard (v := Value.bool (pl == ql)) ((((fr : Nat) : Int) == ((gr : Nat) : Int)) && (((to : Nat) : Int) == ((go : Nat) : Int))) rfl (wantT rfl (by kernel_rfl)) rfl (fun hg13 => ?_) ?_
  · have qhg13 := hg13; try simp only [Bool.and_eq_true, Bool.or_eq_true, Bool.not_eq_true', Bool.not_eq_false', Bool.and_eq_false_iff, Bool.or_eq_false_iff, decide_eq_true_eq, decide_eq_false_iff_not, beq_iff_eq, bne_iff_ne, beq_eq_false_iff_ne, bne_eq_false_iff_eq] at qhg13
    refine Ys.at (t := 19) (v0 := Value.bool pl) (lz (g := (((fr : Nat) : Int) == ((gr : Nat) : Int)) && (((to : Nat) : Int) == ((go : Nat) : Int))) (u := undef) hg13 (by kernel_rfl)) ?_
    refine Ys.at (t := 21) (v0 := Value.bool ql) (lz (g := (((fr : Nat) : Int) == ((gr : Nat) : Int)) && (((to : Nat) : Int) == ((go : Nat) : Int))) (u := undef) hg13 (by kernel_rfl)) ?_
    exact Ys.pure (fun _ => by kernel_rfl)
  refine Wl.ys (v := Value.bool (((((fr : Nat) : Int) == ((gr : Nat) : Int)) && (((to : Nat) : Int) == ((go : Nat) : Int))) && (pl == ql))) rfl rfl (Ys.and (e := (((fr : Nat) : Int) == ((gr : Nat) : Int)) && (((to : Nat) : Int) == ((go : Nat) : Int))) (b := pl == ql) rfl (by kernel_rfl) (by kernel_rfl) (by kernel_rfl)) ?_
  refine Wl.run 1 (by kernel_rfl) ?_
  refine Wl.guard (v := Value.pointer (some ⟨p2, 3, none⟩)) (((((fr : Nat) : Int) == ((gr : Nat) : Int)) && (((to : Nat) : Int) == ((go : Nat) : Int))) && (pl == ql)) rfl (wantT rfl (by kernel_rfl)) rfl (fun hg14 => ?_) ?_
  · have qhg14 := hg14; try simp only [Bool.and_eq_true, Bool.or_eq_true, Bool.not_eq_true', Bool.not_eq_false', Bool.and_eq_false_iff, Bool.or_eq_false_iff, decide_eq_true_eq, decide_eq_false_iff_not, beq_iff_eq, bne_iff_ne, beq_eq_false_iff_ne, bne_eq_false_iff_eq] at qhg14
    exact Ys.pure (fun _ => by kernel_rfl)
  refine Wl.guard (v := Value.slice a xs.length cap) (((((fr : Nat) : Int) == ((gr : Nat) : Int)) && (((to : Nat) : Int) == ((go : Nat) : Int))) && (pl == ql)) rfl (wantT rfl (by kernel_rfl)) rfl (fun hg15 => ?_) ?_
  · have qhg15 := hg15; try simp only [Bool.and_eq_true, Bool.or_eq_true, Bool.not_eq_true', Bool.not_eq_false', Bool.and_eq_false_iff, Bool.or_eq_false_iff, decide_eq_true_eq, decide_eq_false_iff_not, beq_iff_eq, bne_iff_ne, beq_eq_false_iff_ne, bne_eq_false_iff_eq] at qhg15
    refine Ys.at (t := 25) (v0 := Value.pointer (some ⟨p2, 3, none⟩)) (lz (g := ((((fr : Nat) : Int) == ((gr : Nat) : Int)) && (((to : Nat) : Int) == ((go : Nat) : Int))) && (pl == ql)) (u := undef) hg15 (by kernel_rfl)) ?_
    exact Ys.load (b := p2) (o' := 3) (i := 1) (j := 0) (cs := [Value.int .u16 ((fr : Nat) : Int), Value.int .u16 ((to : Nat) : Int), Value.bool pl, Value.slice a xs.length cap]) (v := Value.slice a xs.length cap) rfl (by kernel_rfl) Try.isAgg26 rfl rfl rfl
  refine Wl.guard (v := Value.string (bstr xs)) (((((fr : Nat) : Int) == ((gr : Nat) : Int)) && (((to : Nat) : Int) == ((go : Nat) : Int))) && (pl == ql)) rfl (wantT rfl (by kernel_rfl)) rfl (fun hg16 => ?_) ?_
  · have qhg16 := hg16; try simp only [Bool.and_eq_true, Bool.or_eq_true, Bool.not_eq_true', Bool.not_eq_false', Bool.and_eq_false_iff, Bool.or_eq_false_iff, decide_eq_true_eq, decide_eq_false_iff_not, beq_iff_eq, bne_iff_ne, beq_eq_false_iff_ne, bne_eq_false_iff_eq] at qhg16
    refine Ys.at (t := 26) (v0 := Value.slice a xs.length cap) (lz (g := ((((fr : Nat) : Int) == ((gr : Nat) : Int)) && (((to : Nat) : Int) == ((go : Nat) : Int))) && (pl == ql)) (u := undef) hg16 (by kernel_rfl)) ?_
    exact Ys.bytesStr (a := a) (len := xs.length) (cap := cap) (xs := xs) (e := 5) rfl (by kernel_rfl) (by kernel_rfl) (by kernel_rfl) (by kernel_rfl) (rfl) (fun w_ h_ => (hat.mem0 h_))
  refine Wl.guard (v := Value.pointer (some ⟨p3, 3, none⟩)) (((((fr : Nat) : Int) == ((gr : Nat) : Int)) && (((to : Nat) : Int) == ((go : Nat) : Int))) && (pl == ql)) rfl (wantT rfl (by kernel_rfl)) rfl (fun hg17 => ?_) ?_
  · have qhg17 := hg17; try simp only [Bool.and_eq_true, Bool.or_eq_true, Bool.not_eq_true', Bool.not_eq_false', Bool.and_eq_false_iff, Bool.or_eq_false_iff, decide_eq_true_eq, decide_eq_false_iff_not, beq_iff_eq, bne_iff_ne, beq_eq_false_iff_ne, bne_eq_false_iff_eq] at qhg17
    exact Ys.pure (fun _ => by kernel_rfl)
  refine Wl.guard (v := Value.slice c ys.length dap) (((((fr : Nat) : Int) == ((gr : Nat) : Int)) && (((to : Nat) : Int) == ((go : Nat) : Int))) && (pl == ql)) rfl (wantT rfl (by kernel_rfl)) rfl (fun hg18 => ?_) ?_
  · have qhg18 := hg18; try simp only [Bool.and_eq_true, Bool.or_eq_true, Bool.not_eq_true', Bool.not_eq_false', Bool.and_eq_false_iff, Bool.or_eq_false_iff, decide_eq_true_eq, decide_eq_false_iff_not, beq_iff_eq, bne_iff_ne, beq_eq_false_iff_ne, bne_eq_false_iff_eq] at qhg18
    refine Ys.at (t := 28) (v0 := Value.pointer (some ⟨p3, 3, none⟩)) (lz (g := ((((fr : Nat) : Int) == ((gr : Nat) : Int)) && (((to : Nat) : Int) == ((go : Nat) : Int))) && (pl == ql)) (u := undef) hg18 (by kernel_rfl)) ?_
    exact Ys.load (b := p3) (o' := 3) (i := 0) (j := 0) (cs := [Value.int .u16 ((gr : Nat) : Int), Value.int .u16 ((go : Nat) : Int), Value.bool ql, Value.slice c ys.length dap]) (v := Value.slice c ys.length dap) rfl (by kernel_rfl) Try.isAgg26 rfl rfl rfl
  refine Wl.guard (v := Value.string (bstr ys)) (((((fr : Nat) : Int) == ((gr : Nat) : Int)) && (((to : Nat) : Int) == ((go : Nat) : Int))) && (pl == ql)) rfl (wantT rfl (by kernel_rfl)) rfl (fun hg19 => ?_) ?_
  · have qhg19 := hg19; try simp only [Bool.and_eq_true, Bool.or_eq_true, Bool.not_eq_true', Bool.not_eq_false', Bool.and_eq_false_iff, Bool.or_eq_false_iff, decide_eq_true_eq, decide_eq_false_iff_not, beq_iff_eq, bne_iff_ne, beq_eq_false_iff_ne, bne_eq_false_iff_eq] at qhg19
    refine Ys.at (t := 29) (v0 := Value.slice c ys.length dap) (lz (g := ((((fr : Nat) : Int) == ((gr : Nat) : Int)) && (((to : Nat) : Int) == ((go : Nat) : Int))) && (pl == ql)) (u := undef) hg19 (by kernel_rfl)) ?_
    exact Ys.bytesStr (a := c) (len := ys.length) (cap := dap) (xs := ys) (e := 5) rfl (by kernel_rfl) (by kernel_rfl) (by kernel_rfl) (by kernel_rfl) (rfl) (fun w_ h_ => (hct.mem0 h_))
  refine Wl.guard (v := Value.bool (xs == ys)) (((((fr : Nat) : Int) == ((gr : Nat) : Int)) && (((to : Nat) : Int) == ((go : Nat) : Int))) && (pl == ql)) rfl (wantT rfl (by kernel_rfl)) rfl (fun hg20 => ?_) ?_
  · have qhg20 := hg20; try simp only [Bool.and_eq_true, Bool.or_eq_true, Bool.not_eq_true', Bool.not_eq_false', Bool.and_eq_false_iff, Bool.or_eq_false_iff, decide_eq_true_eq, decide_eq_false_iff_not, beq_iff_eq, bne_iff_ne, beq_eq_false_iff_ne, bne_eq_false_iff_eq] at qhg20
    refine Ys.at (t := 27) (v0 := Value.string (bstr xs)) (lz (g := ((((fr : Nat) : Int) == ((gr : Nat) : Int)) && (((to : Nat) : Int) == ((go : Nat) : Int))) && (pl == ql)) (u := undef) hg20 (by kernel_rfl)) ?_
    refine Ys.at (t := 30) (v0 := Value.string (bstr ys)) (lz (g := ((((fr : Nat) : Int) == ((gr : Nat) : Int)) && (((to : Nat) : Int) == ((go : Nat) : Int))) && (pl == ql)) (u := undef) hg20 (by kernel_rfl)) ?_
    exact (Ys.pure (v := .bool ((bstr xs).toList == (bstr ys).toList)) (fun _ => by kernel_rfl)).conseq (bool_congr ((bstr_eq _ _)))
  refine Wl.ys (v := Value.bool ((((((fr : Nat) : Int) == ((gr : Nat) : Int)) && (((to : Nat) : Int) == ((go : Nat) : Int))) && (pl == ql)) && (xs == ys))) rfl rfl (Ys.and (e := ((((fr : Nat) : Int) == ((gr : Nat) : Int)) && (((to : Nat) : Int) == ((go : Nat) : Int))) && (pl == ql)) (b := xs == ys) rfl (by kernel_rfl) (by kernel_rfl) (by kernel_rfl)) ?_
  refine Wl.run 1 (by kernel_rfl) ?_
  refine Wl.nil ?_
  refine hK3 _ _ _ ?_
  refine W.pick (LL' := []) [] (by decide) rfl ?_
  refine W.prune' [4] [Value.bool ((((((fr : Nat) : Int) == ((gr : Nat) : Int)) && (((to : Nat) : Int) == ((go : Nat) : Int))) && (pl == ql)) && (xs == ys))] (by kernel_rfl) (fun f21 => ?_)
  refine W.ret ?_
  show ∀ w_, _ → bodyPostM (fence none) 0 Try.prog Try.f16 _ Exit.ret _ w_
  exact fun w_ hS_ => fin_ret (ret1 rfl (RV.tmp (v := Value.bool ((((((fr : Nat) : Int) == ((gr : Nat) : Int)) && (((to : Nat) : Int) == ((go : Nat) : Int))) && (pl == ql)) && (xs == ys))) (by kernel_rfl)) hS_ ⟨rfl, hS_.below⟩)

theorem sameudpn_c (fr to gr go : Nat) (pl ql : Bool) (xs ys : List UInt8) (a c : Option Addr) (cap dap : Nat) (len len2 : Nat) (w : World) (hn : len = xs.length) (hn2 : len2 = ys.length) (hat : At w a (byc xs)) (hct : At w c (byc ys)) : Calls Try.prog 16 #[Value.agg ([Value.int .u16 ((fr : Nat) : Int), Value.int .u16 ((to : Nat) : Int), Value.bool pl, Value.slice a len cap]).toArray, Value.agg ([Value.int .u16 ((gr : Nat) : Int), Value.int .u16 ((go : Nat) : Int), Value.bool ql, Value.slice c len2 dap]).toArray] w (Ret w (.bool (((((fr : Nat) : Int) == ((gr : Nat) : Int) && ((to : Nat) : Int) == ((go : Nat) : Int)) && (pl == ql)) && (xs == ys)))) := by
  subst hn; subst hn2; exact sameudp_c fr to gr go pl ql xs ys a c cap dap w hat hct

theorem wudpn_c (s d fr to : Nat) (pl : Bool) (xs : List UInt8) (a : Option Addr) (cap : Nat) (len : Nat) (w : World) (hn : len = xs.length) (hat : At w a (byc xs)) (hs : s < 4294967296) (hd : d < 4294967296) (hf : fr < 65536) (ht : to < 65536) (hl : xs.length ≤ 100000) (hlc : xs.length ≤ cap)  : Calls Try.prog 14 #[.int .u32 ((s : Nat) : Int), .int .u32 ((d : Nat) : Int), Value.agg ([Value.int .u16 ((fr : Nat) : Int), Value.int .u16 ((to : Nat) : Int), Value.bool pl, Value.slice a len cap]).toArray] w (RetM w (fun g : FS => g.ok 1 (uB s d fr to pl xs).length) (fun g => .tuple #[.slice g.a (uB s d fr to pl xs).length g.cap, .int .i64 (uE xs.length)]) [] (fun g => [g.seg 5 (byc (uB s d fr to pl xs))])) := by
  subst hn; exact wudp_c s d fr to pl xs a cap w hat hs hd hf ht hl hlc

theorem rwudpn_c (s d fr to : Nat) (pl : Bool) (xs : List UInt8) (a : Option Addr) (cap : Nat) (len : Nat) (w : World) (hn : len = xs.length) (hat : At w a (byc xs)) (hs : s < 4294967296) (hd : d < 4294967296) (hf : fr < 65536) (ht : to < 65536) (hl : xs.length ≤ 100000) (hlc : xs.length ≤ cap)  : Calls Try.prog 15 #[.int .u32 ((s : Nat) : Int), .int .u32 ((d : Nat) : Int), Value.agg ([Value.int .u16 ((fr : Nat) : Int), Value.int .u16 ((to : Nat) : Int), Value.bool pl, Value.slice a len cap]).toArray] w (RetM w (fun g : FS => g.ok 1 (uB s d fr to pl xs).length) (fun g => .tuple #[.slice g.a (uB s d fr to pl xs).length g.cap, .int .i64 (uE xs.length)]) [] (fun g => [g.seg 5 (byc (uB s d fr to pl xs))])) := by
  subst hn; exact rwudp_c s d fr to pl xs a cap w hat hs hd hf ht hl hlc

theorem rudpn_c (s d : Nat) (xs : List UInt8) (a : Option Addr) (cap : Nat) (len : Nat) (w : World) (hn : len = xs.length) (hat : At w a (byc xs)) (hs : s < 4294967296) (hd : d < 4294967296) (hl : len ≤ 100000) (hlc : len ≤ cap) : Calls Try.prog 17 #[.int .u32 ((s : Nat) : Int), .int .u32 ((d : Nat) : Int), .slice a len cap] w (RetM w (fun g : FS => g.ok 1 (uD s d xs).length) (fun g => .tuple #[.agg [.int .u16 ((uF s d xs 0 : Nat) : Int), .int .u16 ((uF s d xs 2 : Nat) : Int), .bool (uP s d xs), .slice g.a (uD s d xs).length g.cap].toArray, .int .i64 (uR s d xs)]) [] (fun g => [g.seg 5 (byc (uD s d xs))])) := by
  subst hn; exact rudp_c s d xs a cap w hat hs hd hl hlc

theorem rrudpn_c (s d : Nat) (xs : List UInt8) (a : Option Addr) (cap : Nat) (len : Nat) (w : World) (hn : len = xs.length) (hat : At w a (byc xs)) (hs : s < 4294967296) (hd : d < 4294967296) (hl : len ≤ 100000) (hlc : len ≤ cap) : Calls Try.prog 34 #[.int .u32 ((s : Nat) : Int), .int .u32 ((d : Nat) : Int), .slice a len cap] w (RetM w (fun g : FS => g.ok 1 (uD s d xs).length) (fun g => .tuple #[.agg [.int .u16 ((uF s d xs 0 : Nat) : Int), .int .u16 ((uF s d xs 2 : Nat) : Int), .bool (uP s d xs), .slice g.a (uD s d xs).length g.cap].toArray, .int .i64 (uR s d xs)]) [] (fun g => [g.seg 5 (byc (uD s d xs))])) := by
  subst hn; exact rrudp_c s d xs a cap w hat hs hd hl hlc

theorem speaks5_c  (w : World) : Calls Try.prog 13 #[] w (Ret w (.bool true)) := by
  refine calls_W (M := []) (LL := []) (n := 15) Try.func13 rfl rfl (by simp) (Mem.refl _) ?_
  refine W.seq (fun K1 hK1 => ?_)
  refine W.region ?_
  refine Wl.run 1 (by kernel_rfl) ?_
  refine Wl.nil ?_
  refine hK1 _ _ _ ?_
  refine W.seq (fun K2 hK2 => ?_)
  refine W.region ?_
  refine Wl.run 1 (by kernel_rfl) ?_
  have hl6 := uB_le 1 2 68 67 true ([] : List UInt8)
  refine Wl.ht rfl (Ht.call (β := FS) (k := 14) (args := #[Value.int .u32 1, Value.int .u32 2, Value.agg ([Value.int .u16 68, Value.int .u16 67, Value.bool true, Value.slice none 0 0]).toArray]) (Lin := []) (Lk := []) (Mi := []) (Lo := fun g3 => [g3.seg 5 (mc b8 (uB 1 2 68 67 true ([] : List UInt8)))]) [] [] rfl (fun _ => by kernel_rfl) (by decide) rfl rfl rfl (fun w_ hm_ hl_ => (wudpn_c 1 2 68 67 true ([] : List UInt8) none 0 0 _ (by first | rfl | (rw [List.length_take]; omega) | (simp; done) | (simp [be_len, be_len, psh_len]; omega)) (At.nil _ _) (by omega) (by omega) (by omega) (by omega) (by first | omega | (simp; done) | (simp; omega)) (by simp))) (fun _ => rfl)) (fun x5 => ?_)
  obtain ⟨g3, ok4⟩ := x5
  refine Wl.castL (LL' := [g3.seg 5 (mc b8 (uB 1 2 68 67 true ([] : List UInt8)))]) rfl ?_
  refine Wl.run 5 (by kernel_rfl) ?_
  refine Wl.nil ?_
  refine hK2 _ _ _ ?_
  refine W.prune' [1, 2] [Value.slice g3.a ((uB 1 2 68 67 true ([] : List UInt8)).length) g3.cap, Value.int .i64 (uE ([] : List UInt8).length)] (by kernel_rfl) (fun f7 => ?_)
  refine W.seq (fun K8 hK8 => ?_)
  refine W.region ?_
  refine Wl.run 3 (by kernel_rfl) ?_
  refine Wl.guard (v := Value.slice g3.a ((uB 1 2 68 67 true ([] : List UInt8)).length) g3.cap) ((uE ([] : List UInt8).length) == 0) rfl (wantT rfl (by kernel_rfl)) rfl (fun hg9 => ?_) ?_
  · have qhg9 := hg9; try simp only [Bool.and_eq_true, Bool.or_eq_true, Bool.not_eq_true', Bool.not_eq_false', Bool.and_eq_false_iff, Bool.or_eq_false_iff, decide_eq_true_eq, decide_eq_false_iff_not, beq_iff_eq, bne_iff_ne, beq_eq_false_iff_ne, bne_eq_false_iff_eq] at qhg9
    exact Ys.pure (fun _ => by kernel_rfl)
  refine Wl.guard (v := Value.string (bstr (uB 1 2 68 67 true ([] : List UInt8)))) ((uE ([] : List UInt8).length) == 0) rfl (wantT rfl (by kernel_rfl)) rfl (fun hg10 => ?_) ?_
  · have qhg10 := hg10; try simp only [Bool.and_eq_true, Bool.or_eq_true, Bool.not_eq_true', Bool.not_eq_false', Bool.and_eq_false_iff, Bool.or_eq_false_iff, decide_eq_true_eq, decide_eq_false_iff_not, beq_iff_eq, bne_iff_ne, beq_eq_false_iff_ne, bne_eq_false_iff_eq] at qhg10
    refine Ys.at (t := 11) (v0 := Value.slice g3.a ((uB 1 2 68 67 true ([] : List UInt8)).length) g3.cap) (lz (g := (uE ([] : List UInt8).length) == 0) (u := undef) hg10 (by kernel_rfl)) ?_
    exact Ys.bytesStr (a := g3.a) (len := (uB 1 2 68 67 true ([] : List UInt8)).length) (cap := g3.cap) (xs := uB 1 2 68 67 true ([] : List UInt8)) (e := 5) rfl (by kernel_rfl) (by kernel_rfl) (by kernel_rfl) (by kernel_rfl) (rfl) (fun w_ h_ => (FS.at (i := 0) (t := 5) h_ rfl (FS.nil_cs ok4 (mc_len1 _))))
  refine Wl.guard (v := Value.bool ((uB 1 2 68 67 true ([] : List UInt8)) == [0, 68, 0, 67, 0, 8, 0, 0])) ((uE ([] : List UInt8).length) == 0) rfl (wantT rfl (by kernel_rfl)) rfl (fun hg11 => ?_) ?_
  · have qhg11 := hg11; try simp only [Bool.and_eq_true, Bool.or_eq_true, Bool.not_eq_true', Bool.not_eq_false', Bool.and_eq_false_iff, Bool.or_eq_false_iff, decide_eq_true_eq, decide_eq_false_iff_not, beq_iff_eq, bne_iff_ne, beq_eq_false_iff_ne, bne_eq_false_iff_eq] at qhg11
    refine Ys.at (t := 12) (v0 := Value.string (bstr (uB 1 2 68 67 true ([] : List UInt8)))) (lz (g := (uE ([] : List UInt8).length) == 0) (u := undef) hg11 (by kernel_rfl)) ?_
    exact (Ys.pure (v := .bool ((bstr (uB 1 2 68 67 true ([] : List UInt8))).toList == (bstr [0, 68, 0, 67, 0, 8, 0, 0]).toList)) (fun _ => by kernel_rfl)).conseq (bool_congr ((bstr_eq _ _)))
  refine Wl.ys (v := Value.bool (((uE ([] : List UInt8).length) == 0) && ((uB 1 2 68 67 true ([] : List UInt8)) == [0, 68, 0, 67, 0, 8, 0, 0]))) rfl rfl (Ys.and (e := (uE ([] : List UInt8).length) == 0) (b := (uB 1 2 68 67 true ([] : List UInt8)) == [0, 68, 0, 67, 0, 8, 0, 0]) rfl (by kernel_rfl) (by kernel_rfl) (by kernel_rfl)) ?_
  refine Wl.run 1 (by kernel_rfl) ?_
  refine Wl.nil ?_
  refine hK8 _ _ _ ?_
  refine W.pick (LL' := []) [] (by decide) rfl ?_
  refine W.prune' [0] [Value.bool (((uE ([] : List UInt8).length) == 0) && ((uB 1 2 68 67 true ([] : List UInt8)) == [0, 68, 0, 67, 0, 8, 0, 0]))] (by kernel_rfl) (fun f12 => ?_)
  refine W.ret ?_
  show ∀ w_, _ → bodyPostM (fence none) 0 Try.prog Try.f13 _ Exit.ret _ w_
  exact fun w_ hS_ => fin_ret (ret1 rfl (RV.tmp (v := Value.bool (((uE ([] : List UInt8).length) == 0) && ((uB 1 2 68 67 true ([] : List UInt8)) == [0, 68, 0, 67, 0, 8, 0, 0]))) (by kernel_rfl)) hS_ ⟨by clear hK1 hK2 hK8; refine congrArg Ending.returned ?_; exact bool_congr (by decide +kernel), hS_.below⟩)

theorem pw_mid {pre zs : List UInt8} {n : Nat} (hp : pre.length % 2 = 0) (hn : n < 65536) : (pw (pre ++ (be 2 n ++ zs))).sum = (pw pre).sum + n + (pw zs).sum := by
  rw [pw_app _ _ hp, pw_app _ _ (by rw [be_len]), pw_be2 hn]
  simp; omega
theorem fd_seal (S : Nat) : fd (S + sealN (65535 - fd S)) = 65535 := by
  by_cases h0 : S = 0
  · subst h0; decide
  · obtain ⟨r, hr⟩ : ∃ r, r = (S - 1) % 65535 := ⟨_, rfl⟩
    have hf : fd S = r + 1 := by unfold fd; rw [if_neg h0, hr]
    have hr2 : r < 65535 := by omega
    rw [hf]
    unfold sealN
    by_cases h1 : 65535 - (r + 1) = 0
    · rw [if_pos h1]; unfold fd; rw [if_neg (by omega)]; omega
    · rw [if_neg h1]; unfold fd; rw [if_neg (by omega)]; omega
theorem seal_zero {pre zs : List UInt8} (hp : pre.length % 2 = 0) : cks (pre ++ (be 2 (sealN (cks (pre ++ (be 2 0 ++ zs)))) ++ zs)) = 0 := by
  have h0 := pw_mid (pre := pre) (zs := zs) (n := 0) hp (by decide)
  have hc := cks_le (pre ++ (be 2 0 ++ zs))
  have hs : sealN (cks (pre ++ (be 2 0 ++ zs))) < 65536 := by unfold sealN; split <;> omega
  have h1 := pw_mid (pre := pre) (zs := zs) hp hs
  have hS : cks (pre ++ (be 2 0 ++ zs)) = 65535 - fd ((pw pre).sum + (pw zs).sum) := by unfold cks; rw [h0, Nat.add_zero]
  unfold cks at *
  rw [h1, hS]
  have := fd_seal ((pw pre).sum + (pw zs).sum)
  rw [show (pw pre).sum + sealN (65535 - fd ((pw pre).sum + (pw zs).sum)) + (pw zs).sum = (pw pre).sum + (pw zs).sum + sealN (65535 - fd ((pw pre).sum + (pw zs).sum)) by omega, this]
/-- A datagram's bytes with whatever check sum. -/
def uX (fr to m : Nat) (xs : List UInt8) : List UInt8 := (UInt8.ofNat (fr / 256) :: UInt8.ofNat fr :: UInt8.ofNat (to / 256) :: UInt8.ofNat to :: UInt8.ofNat ((8 + xs.length) / 256) :: UInt8.ofNat (8 + xs.length) :: UInt8.ofNat (m / 256) :: UInt8.ofNat m :: xs)
theorem uX_app (fr to m : Nat) (xs : List UInt8) : uX fr to m xs = (be 2 fr ++ be 2 to ++ be 2 (8 + xs.length)) ++ (be 2 m ++ xs) := rfl
theorem sput_uH (fr to n : Nat) (xs : List UInt8) : sput (uH fr to xs) 6 n = uX fr to n xs := rfl
theorem uH_X (fr to : Nat) (xs : List UInt8) : uH fr to xs = uX fr to 0 xs := rfl
theorem uB_X {s d fr to : Nat} {pl : Bool} {xs : List UInt8} (h : ¬ 1472 < xs.length) : uB s d fr to pl xs = uX fr to (bif pl then 0 else sealN (uC s d fr to xs)) xs := by
  unfold uB; rw [if_neg h]; cases pl
  · simp only [cond_false]; exact sput_uH fr to _ xs
  · simp only [cond_true]; exact uH_X fr to xs
theorem uX_zero (s d fr to : Nat) (xs : List UInt8) : cks (psh s d 17 (8 + xs.length) ++ uX fr to (sealN (uC s d fr to xs)) xs) = 0 := by
  have e : uC s d fr to xs = cks ((psh s d 17 (8 + xs.length) ++ (be 2 fr ++ be 2 to ++ be 2 (8 + xs.length))) ++ (be 2 0 ++ xs)) := by
    unfold uC uH; simp only [List.append_assoc]
  rw [uX_app, ← List.append_assoc, e]
  exact seal_zero (by simp [psh_len, be_len])
theorem sealN_pos (c : Nat) : sealN c ≠ 0 := by unfold sealN; split <;> omega
theorem sealN_lt {c : Nat} (h : c ≤ 65535) : sealN c < 65536 := by unfold sealN; split <;> omega
theorem two_back {n : Nat} (h : n < 65536) : 256 * (UInt8.ofNat (n / 256)).toNat + (UInt8.ofNat n).toNat = n := by
  rw [UInt8.toNat_ofNat', UInt8.toNat_ofNat']; omega
theorem uX_w {fr to m : Nat} {xs ys : List UInt8} (hf : fr < 65536) (ht : to < 65536) (hm : m < 65536) (hx : ¬ 1472 < xs.length) :
    w2 (uX fr to m xs ++ ys) 0 = fr ∧ w2 (uX fr to m xs ++ ys) 2 = to ∧ w2 (uX fr to m xs ++ ys) 4 = 8 + xs.length ∧ w2 (uX fr to m xs ++ ys) 6 = m :=
  ⟨two_back hf, two_back ht, two_back (by omega), two_back hm⟩
theorem uX_len (fr to m : Nat) (xs : List UInt8) : (uX fr to m xs).length = 8 + xs.length := by unfold uX; simp only [List.length_cons]; omega
theorem td_back {s d fr to : Nat} {pl : Bool} {xs ys : List UInt8} (hf : fr < 65536) (ht : to < 65536) (h1 : uE xs.length = 0) (h2 : (uB s d fr to pl xs).length + ys.length ≤ 1480) : (((uR s d ((uB s d fr to pl xs) ++ ys)) == 0) && (((((((uF s d ((uB s d fr to pl xs) ++ ys) 0) : Nat) : Int) == ((fr : Nat) : Int)) && ((((uF s d ((uB s d fr to pl xs) ++ ys) 2) : Nat) : Int) == ((to : Nat) : Int))) && ((uP s d ((uB s d fr to pl xs) ++ ys)) == pl)) && ((uD s d ((uB s d fr to pl xs) ++ ys)) == xs))) = true := by
  have hx : ¬ 1472 < xs.length := by
    unfold uE at h1; split at h1
    · cases h1
    · assumption
  rw [uB_X hx] at h2 ⊢
  obtain ⟨m, hm⟩ : ∃ m, m = bif pl then 0 else sealN (uC s d fr to xs) := ⟨_, rfl⟩
  rw [← hm] at h2 ⊢
  have hml : m < 65536 := by
    rw [hm]; cases pl
    · have hq : uC s d fr to xs ≤ 65535 := by unfold uC; exact cks_le _
      simp only [cond_false]; exact sealN_lt hq
    · simp only [cond_true]; decide
  obtain ⟨e0, e2, e4, e6⟩ := uX_w (ys := ys) hf ht hml hx
  have hl := uX_len fr to m xs
  obtain ⟨Z, hZ⟩ : ∃ Z, Z = uX fr to m xs ++ ys := ⟨_, rfl⟩
  rw [← hZ] at e0 e2 e4 e6 ⊢
  have hZl : Z.length = 8 + xs.length + ys.length := by rw [hZ, List.length_append, hl]
  have htk : Z.take (8 + xs.length) = uX fr to m xs := by rw [hZ, ← hl]; exact List.take_left ..
  have hsum : ¬ (w2 Z 6 ≠ 0 ∧ cks (psh s d 17 (w2 Z 4) ++ Z.take (w2 Z 4)) ≠ 0) := by
    rw [e4, e6, htk]
    cases pl
    · have hm2 := hm; simp only [cond_false] at hm2
      rw [hm2, uX_zero]; simp
    · have hm2 := hm; simp only [cond_true] at hm2
      simp [hm2]
  have hR : uR s d Z = 0 := by unfold uR; rw [if_neg (by omega), if_neg (by omega), if_neg (by omega), if_neg hsum]
  have hG : ug s d Z = true := by unfold ug; rw [hR]; rfl
  have hD : uD s d Z = xs := by
    unfold uD; rw [hG, e4, show 8 + xs.length - 8 = xs.length by omega, hZ]
    show (xs ++ ys).take xs.length = xs
    exact List.take_left ..
  have hP : uP s d Z = pl := by
    unfold uP; rw [hG, e6, hm]; cases pl
    · simp [sealN_pos]
    · rfl
  have f0 : uF s d Z 0 = fr := by unfold uF; rw [hG, e0]; rfl
  have f2 : uF s d Z 2 = to := by unfold uF; rw [hG, e2]; rfl
  rw [hR, f0, f2, hP, hD]; simp
theorem datagrams_c (s d fr to : Nat) (pl : Bool) (xs ys : List UInt8) (a c : Option Addr) (cap dap : Nat) (w : World) (hat : At w a (byc xs)) (hct : At w c (byc ys)) (hs : s < 4294967296) (hd : d < 4294967296) (hf : fr < 65536) (ht : to < 65536) (hxc : xs.length ≤ cap) (hyc : ys.length ≤ dap) (hxl : xs.length ≤ 9223372036854775807) (hyl : ys.length ≤ 9223372036854775807) : Calls Try.prog 3 #[Value.agg ([Value.int .u32 ((s : Nat) : Int), Value.int .u32 ((d : Nat) : Int)]).toArray, Value.agg ([Value.int .u16 ((fr : Nat) : Int), Value.int .u16 ((to : Nat) : Int), Value.bool pl, Value.slice a xs.length cap]).toArray, Value.slice c ys.length dap] w (Ret w (.bool true)) := by
  refine calls_W (M := []) (LL := []) (n := 93) Try.func3 rfl rfl (by simp) (Mem.refl _) ?_
  refine W.seq (fun K1 hK1 => ?_)
  refine W.region ?_
  refine Wl.ht rfl (Ht.box (v := Value.agg ([Value.int .u32 ((s : Nat) : Int), Value.int .u32 ((d : Nat) : Int)]).toArray) (cs := [Value.int .u32 ((s : Nat) : Int), Value.int .u32 ((d : Nat) : Int)]) rfl rfl (by kernel_rfl) rfl) (fun p3 => ?_)
  refine Wl.ht rfl (Ht.box (v := Value.agg ([Value.int .u16 ((fr : Nat) : Int), Value.int .u16 ((to : Nat) : Int), Value.bool pl, Value.slice a xs.length cap]).toArray) (cs := [Value.int .u16 ((fr : Nat) : Int), Value.int .u16 ((to : Nat) : Int), Value.bool pl, Value.slice a xs.length cap]) rfl rfl (by kernel_rfl) rfl) (fun p4 => ?_)
  refine Wl.run 1 (by kernel_rfl) ?_
  refine Wl.nil ?_
  refine hK1 _ _ _ ?_
  refine W.prune' [2, 3, 4] [Value.slice c ys.length dap, Value.pointer (some ⟨p3, 0, none⟩), Value.pointer (some ⟨p4, 0, none⟩)] (by kernel_rfl) (fun f2 => ?_)
  refine W.seq (fun K3 hK3 => ?_)
  refine W.seq (fun K4 hK4 => ?_)
  refine W.region ?_
  refine Wl.yc (v := Value.bool true) rfl rfl (Yc.call (k := 13) (args := #[]) (fun _ => by kernel_rfl) (fun w_ hm_ => (speaks5_c _))) ?_
  refine Wl.run 1 (by kernel_rfl) ?_
  refine Wl.nil ?_
  refine hK4 _ _ _ ?_
  refine W.prune' [2, 3, 4, 15] [Value.slice c ys.length dap, Value.pointer (some ⟨p3, 0, none⟩), Value.pointer (some ⟨p4, 0, none⟩), Value.bool false] (by kernel_rfl) (fun f5 => ?_)
  refine W.condF (by kernel_rfl) ?_
  refine W.skip' ?_
  refine hK3 _ _ _ ?_
  refine W.prune' [2, 3, 4] [Value.slice c ys.length dap, Value.pointer (some ⟨p3, 0, none⟩), Value.pointer (some ⟨p4, 0, none⟩)] (by kernel_rfl) (fun f6 => ?_)
  refine W.seq (fun K7 hK7 => ?_)
  refine W.seq (fun K8 hK8 => ?_)
  refine W.region ?_
  refine Wl.run 1 (by kernel_rfl) ?_
  refine Wl.ys (v := Value.slice a xs.length cap) rfl rfl (Ys.load (b := p4) (o' := 3) (i := 0) (j := 0) (cs := [Value.int .u16 ((fr : Nat) : Int), Value.int .u16 ((to : Nat) : Int), Value.bool pl, Value.slice a xs.length cap]) (v := Value.slice a xs.length cap) rfl (by kernel_rfl) Try.isAgg26 rfl rfl rfl) ?_
  refine Wl.run 3 (by kernel_rfl) ?_
  refine Wl.guard (v := Value.slice c ys.length dap) (!(decide (((xs.length : Nat) : Int) > 3000))) rfl (wantF rfl (by kernel_rfl)) rfl (fun hg9 => ?_) ?_
  · have qhg9 := hg9; try simp only [Bool.and_eq_true, Bool.or_eq_true, Bool.not_eq_true', Bool.not_eq_false', Bool.and_eq_false_iff, Bool.or_eq_false_iff, decide_eq_true_eq, decide_eq_false_iff_not, beq_iff_eq, bne_iff_ne, beq_eq_false_iff_ne, bne_eq_false_iff_eq] at qhg9
    exact Ys.pure (fun _ => by kernel_rfl)
  refine Wl.guard (v := Value.int .i64 ((ys.length : Nat) : Int)) (!(decide (((xs.length : Nat) : Int) > 3000))) rfl (wantF rfl (by kernel_rfl)) rfl (fun hg10 => ?_) ?_
  · have qhg10 := hg10; try simp only [Bool.and_eq_true, Bool.or_eq_true, Bool.not_eq_true', Bool.not_eq_false', Bool.and_eq_false_iff, Bool.or_eq_false_iff, decide_eq_true_eq, decide_eq_false_iff_not, beq_iff_eq, bne_iff_ne, beq_eq_false_iff_ne, bne_eq_false_iff_eq] at qhg10
    refine Ys.at (t := 21) (v0 := Value.slice c ys.length dap) (lz (g := !(decide (((xs.length : Nat) : Int) > 3000))) (u := undef) hg10 (by kernel_rfl)) ?_
    exact Ys.pure (fun _ => by kernel_rfl)
  refine Wl.guard (v := Value.bool (decide (((ys.length : Nat) : Int) > 9))) (!(decide (((xs.length : Nat) : Int) > 3000))) rfl (wantF rfl (by kernel_rfl)) rfl (fun hg11 => ?_) ?_
  · have qhg11 := hg11; try simp only [Bool.and_eq_true, Bool.or_eq_true, Bool.not_eq_true', Bool.not_eq_false', Bool.and_eq_false_iff, Bool.or_eq_false_iff, decide_eq_true_eq, decide_eq_false_iff_not, beq_iff_eq, bne_iff_ne, beq_eq_false_iff_ne, bne_eq_false_iff_eq] at qhg11
    refine Ys.at (t := 22) (v0 := Value.int .i64 ((ys.length : Nat) : Int)) (lz (g := !(decide (((xs.length : Nat) : Int) > 3000))) (u := undef) hg11 (by kernel_rfl)) ?_
    exact Ys.pure (fun _ => by kernel_rfl)
  refine Wl.ys (v := Value.bool ((decide (((xs.length : Nat) : Int) > 3000)) || (decide (((ys.length : Nat) : Int) > 9)))) rfl rfl (Ys.or' (e := decide (((xs.length : Nat) : Int) > 3000)) (b := decide (((ys.length : Nat) : Int) > 9)) rfl (by kernel_rfl) (by kernel_rfl) (by kernel_rfl)) ?_
  refine Wl.nil ?_
  refine hK8 _ _ _ ?_
  refine W.prune' [2, 3, 4, 24] [Value.slice c ys.length dap, Value.pointer (some ⟨p3, 0, none⟩), Value.pointer (some ⟨p4, 0, none⟩), Value.bool ((decide (((xs.length : Nat) : Int) > 3000)) || (decide (((ys.length : Nat) : Int) > 9)))] (by kernel_rfl) (fun f12 => ?_)
  refine W.cond ((decide (((xs.length : Nat) : Int) > 3000)) || (decide (((ys.length : Nat) : Int) > 9))) (by kernel_rfl) (fun h13 => ?_) (fun h14 => ?_)
  · have qh13 := h13; try simp only [Bool.and_eq_true, Bool.or_eq_true, Bool.not_eq_true', Bool.not_eq_false', Bool.and_eq_false_iff, Bool.or_eq_false_iff, decide_eq_true_eq, decide_eq_false_iff_not, beq_iff_eq, bne_iff_ne, beq_eq_false_iff_ne, bne_eq_false_iff_eq] at qh13
    refine W.seq (fun K15 hK15 => ?_)
    refine W.region ?_
    refine Wl.run 1 (by kernel_rfl) ?_
    refine Wl.nil ?_
    refine hK15 _ _ _ ?_
    refine W.ret ?_
    show ∀ w_, _ → bodyPostM (fence none) 0 Try.prog Try.f3 _ Exit.ret _ w_
    exact fun w_ hS_ => fin_ret (ret1 rfl (RV.tmp (v := Value.bool true) (by kernel_rfl)) hS_ ⟨rfl, hS_.below⟩)
  · have qh14 := h14; try simp only [Bool.and_eq_true, Bool.or_eq_true, Bool.not_eq_true', Bool.not_eq_false', Bool.and_eq_false_iff, Bool.or_eq_false_iff, decide_eq_true_eq, decide_eq_false_iff_not, beq_iff_eq, bne_iff_ne, beq_eq_false_iff_ne, bne_eq_false_iff_eq] at qh14
    refine W.skip' ?_
    refine hK7 _ _ _ ?_
    refine W.prune' [2, 3, 4] [Value.slice c ys.length dap, Value.pointer (some ⟨p3, 0, none⟩), Value.pointer (some ⟨p4, 0, none⟩)] (by kernel_rfl) (fun f16 => ?_)
    refine W.seq (fun K17 hK17 => ?_)
    refine W.region ?_
    refine Wl.ys (v := Value.agg ([Value.int .u16 ((fr : Nat) : Int), Value.int .u16 ((to : Nat) : Int), Value.bool pl, Value.slice a xs.length cap]).toArray) rfl rfl (Ys.loadN (b := p4) (o' := 0) (i := 0) (j := 0) (cs := [Value.int .u16 ((fr : Nat) : Int), Value.int .u16 ((to : Nat) : Int), Value.bool pl, Value.slice a xs.length cap]) (vs := [Value.int .u16 ((fr : Nat) : Int), Value.int .u16 ((to : Nat) : Int), Value.bool pl, Value.slice a xs.length cap]) rfl (by kernel_rfl) Try.isAgg28 Try.sizeOf28 rfl rfl rfl rfl) ?_
    refine Wl.ht rfl (Ht.alloc (z := Value.agg ([Value.int .u16 0, Value.int .u16 0, Value.bool false, Value.slice none 0 0]).toArray) (cs := [Value.int .u16 0, Value.int .u16 0, Value.bool false, Value.slice none 0 0]) rfl rfl Try.zeroValue28 rfl) (fun p7 => ?_)
    refine Wl.ht rfl (Ht.storeN (b := p7) (o' := 0) (i := 0) (j := 0) (cs := [Value.int .u16 0, Value.int .u16 0, Value.bool false, Value.slice none 0 0]) (vs := [Value.int .u16 ((fr : Nat) : Int), Value.int .u16 ((to : Nat) : Int), Value.bool pl, Value.slice a xs.length cap]) (cs' := [Value.int .u16 ((fr : Nat) : Int), Value.int .u16 ((to : Nat) : Int), Value.bool pl, Value.slice a xs.length cap]) (LL' := [[cb p7 [Value.int .u16 ((fr : Nat) : Int), Value.int .u16 ((to : Nat) : Int), Value.bool pl, Value.slice a xs.length cap] 28], [cb p4 [Value.int .u16 ((fr : Nat) : Int), Value.int .u16 ((to : Nat) : Int), Value.bool pl, Value.slice a xs.length cap] 28], [cb p3 [Value.int .u32 ((s : Nat) : Int), Value.int .u32 ((d : Nat) : Int)] 24]]) rfl rfl (by kernel_rfl) (by kernel_rfl) Try.sizeOf28 (by simp [Value.oneCell']) rfl rfl (by simp) rfl rfl) (fun _ => ?_)
    refine Wl.nil ?_
    refine hK17 _ _ _ ?_
    refine W.prune' [2, 3, 4, 7] [Value.slice c ys.length dap, Value.pointer (some ⟨p3, 0, none⟩), Value.pointer (some ⟨p4, 0, none⟩), Value.pointer (some ⟨p7, 0, none⟩)] (by kernel_rfl) (fun f18 => ?_)
    refine W.seq (fun K19 hK19 => ?_)
    refine W.region ?_
    refine Wl.ht rfl (Ht.made (mk := fun b_ => .slice (some ⟨b_, 0, none⟩) 0 0) (t := 5) (cs := []) rfl (fun _ => by kernel_rfl)) (fun p26 => ?_)
    refine Wl.run 1 (by kernel_rfl) ?_
    refine Wl.ys (v := Value.slice a xs.length cap) rfl rfl (Ys.load (b := p4) (o' := 3) (i := 2) (j := 0) (cs := [Value.int .u16 ((fr : Nat) : Int), Value.int .u16 ((to : Nat) : Int), Value.bool pl, Value.slice a xs.length cap]) (v := Value.slice a xs.length cap) rfl (by kernel_rfl) Try.isAgg26 rfl rfl rfl) ?_
    refine Wl.ht rfl (Ht.append (eu := 5) (xv := Value.slice a xs.length cap) (i := 0) (g := (FS.mk false p26 0 [])) (e := 5) (ii := (Try.prog.info? 5).getD default) (z := Value.int .u8 0) (sz := 1) (bytes := 1) (nn := 0) (m := xs.length) (k := xs.length) (xs := mc b8 []) (news := mc b8 xs) (cs' := mc b8 xs) (Lo := fun g20 => [g20.seg 5 (mc b8 xs), [cb p7 [Value.int .u16 ((fr : Nat) : Int), Value.int .u16 ((to : Nat) : Int), Value.bool pl, Value.slice a xs.length cap] 28], [cb p4 [Value.int .u16 ((fr : Nat) : Int), Value.int .u16 ((to : Nat) : Int), Value.bool pl, Value.slice a xs.length cap] 28], [cb p3 [Value.int .u32 ((s : Nat) : Int), Value.int .u32 ((d : Nat) : Int)] 24]]) rfl rfl (by kernel_rfl) (by kernel_rfl) (by kernel_rfl) (by kernel_rfl) (by kernel_rfl) (by kernel_rfl) (by kernel_rfl) (by kernel_rfl) (by kernel_rfl) rfl (FS.lit_ok (by decide)) (by first | rfl | simp [mc, be_len, psh_len]) (fun _ => rfl) (Src.at (a := a) (mc_len1 _) (fun w_ h_ => (hat.mem0 h_))) (mc_len1 _) (mc_one (fun _ => rfl) _) (by first | omega | (simp; done) | (simp; omega)) (by simp only [maxLen]; first | omega | (simp; done) | (simp; omega)) (by first | omega | (simp; done) | (simp; omega)) rfl (fun _ => rfl)) (fun x24 => ?_)
    obtain ⟨g20, ok21, hn22, hn23⟩ := x24
    refine Wl.castL (LL' := [g20.seg 5 (mc b8 xs), [cb p7 [Value.int .u16 ((fr : Nat) : Int), Value.int .u16 ((to : Nat) : Int), Value.bool pl, Value.slice a xs.length cap] 28], [cb p4 [Value.int .u16 ((fr : Nat) : Int), Value.int .u16 ((to : Nat) : Int), Value.bool pl, Value.slice a xs.length cap] 28], [cb p3 [Value.int .u32 ((s : Nat) : Int), Value.int .u32 ((d : Nat) : Int)] 24]]) rfl ?_
    refine Wl.run 1 (by kernel_rfl) ?_
    refine Wl.ht rfl (Ht.store (b := p7) (o' := 3) (i := 1) (j := 0) (cs := [Value.int .u16 ((fr : Nat) : Int), Value.int .u16 ((to : Nat) : Int), Value.bool pl, Value.slice a xs.length cap]) (cs' := [Value.int .u16 ((fr : Nat) : Int), Value.int .u16 ((to : Nat) : Int), Value.bool pl, Value.slice g20.a xs.length g20.cap]) (v := Value.slice g20.a xs.length g20.cap) (LL' := [g20.seg 5 (mc b8 xs), [cb p7 [Value.int .u16 ((fr : Nat) : Int), Value.int .u16 ((to : Nat) : Int), Value.bool pl, Value.slice g20.a xs.length g20.cap] 28], [cb p4 [Value.int .u16 ((fr : Nat) : Int), Value.int .u16 ((to : Nat) : Int), Value.bool pl, Value.slice a xs.length cap] 28], [cb p3 [Value.int .u32 ((s : Nat) : Int), Value.int .u32 ((d : Nat) : Int)] 24]]) rfl rfl (by kernel_rfl) (by kernel_rfl) Try.sizeOf26 rfl rfl rfl (by simp) rfl rfl) (fun _ => ?_)
    refine Wl.nil ?_
    refine hK19 _ _ _ ?_
    refine W.prune' [2, 3, 4, 7] [Value.slice c ys.length dap, Value.pointer (some ⟨p3, 0, none⟩), Value.pointer (some ⟨p4, 0, none⟩), Value.pointer (some ⟨p7, 0, none⟩)] (by kernel_rfl) (fun f25 => ?_)
    refine W.seq (fun K26 hK26 => ?_)
    refine W.region ?_
    refine Wl.run 1 (by kernel_rfl) ?_
    refine Wl.ys (v := Value.int .u32 ((s : Nat) : Int)) rfl rfl (Ys.load (b := p3) (o' := 0) (i := 3) (j := 0) (cs := [Value.int .u32 ((s : Nat) : Int), Value.int .u32 ((d : Nat) : Int)]) (v := Value.int .u32 ((s : Nat) : Int)) rfl (by kernel_rfl) Try.isAgg23 rfl rfl rfl) ?_
    refine Wl.run 1 (by kernel_rfl) ?_
    refine Wl.ys (v := Value.int .u32 ((d : Nat) : Int)) rfl rfl (Ys.load (b := p3) (o' := 1) (i := 3) (j := 0) (cs := [Value.int .u32 ((s : Nat) : Int), Value.int .u32 ((d : Nat) : Int)]) (v := Value.int .u32 ((d : Nat) : Int)) rfl (by kernel_rfl) Try.isAgg23 rfl rfl rfl) ?_
    refine Wl.ys (v := Value.agg ([Value.int .u16 ((fr : Nat) : Int), Value.int .u16 ((to : Nat) : Int), Value.bool pl, Value.slice g20.a xs.length g20.cap]).toArray) rfl rfl (Ys.loadN (b := p7) (o' := 0) (i := 1) (j := 0) (cs := [Value.int .u16 ((fr : Nat) : Int), Value.int .u16 ((to : Nat) : Int), Value.bool pl, Value.slice g20.a xs.length g20.cap]) (vs := [Value.int .u16 ((fr : Nat) : Int), Value.int .u16 ((to : Nat) : Int), Value.bool pl, Value.slice g20.a xs.length g20.cap]) rfl (by kernel_rfl) Try.isAgg28 Try.sizeOf28 rfl rfl rfl rfl) ?_
    have hl30 := uB_le s d fr to pl xs
    refine Wl.ht rfl (Ht.call (β := FS) (k := 14) (args := #[Value.int .u32 ((s : Nat) : Int), Value.int .u32 ((d : Nat) : Int), Value.agg ([Value.int .u16 ((fr : Nat) : Int), Value.int .u16 ((to : Nat) : Int), Value.bool pl, Value.slice g20.a xs.length g20.cap]).toArray]) (Lin := []) (Lk := [g20.seg 5 (mc b8 xs), [cb p7 [Value.int .u16 ((fr : Nat) : Int), Value.int .u16 ((to : Nat) : Int), Value.bool pl, Value.slice g20.a xs.length g20.cap] 28], [cb p4 [Value.int .u16 ((fr : Nat) : Int), Value.int .u16 ((to : Nat) : Int), Value.bool pl, Value.slice a xs.length cap] 28], [cb p3 [Value.int .u32 ((s : Nat) : Int), Value.int .u32 ((d : Nat) : Int)] 24]]) (Mi := []) (Lo := fun g27 => [g27.seg 5 (mc b8 (uB s d fr to pl xs)), g20.seg 5 (mc b8 xs), [cb p7 [Value.int .u16 ((fr : Nat) : Int), Value.int .u16 ((to : Nat) : Int), Value.bool pl, Value.slice g20.a xs.length g20.cap] 28], [cb p4 [Value.int .u16 ((fr : Nat) : Int), Value.int .u16 ((to : Nat) : Int), Value.bool pl, Value.slice a xs.length cap] 28], [cb p3 [Value.int .u32 ((s : Nat) : Int), Value.int .u32 ((d : Nat) : Int)] 24]]) [] [0, 1, 2, 3] rfl (fun _ => by kernel_rfl) (by decide) rfl rfl rfl (fun w_ hm_ hl_ => (wudpn_c s d fr to pl xs g20.a g20.cap xs.length _ (by first | rfl | (rw [List.length_take]; omega) | (simp; done) | (simp [be_len, be_len, psh_len]; omega)) (FS.at (i := 0) (t := 5) hm_ rfl (FS.nil_cs ok21 (mc_len1 _))) (by omega) (by omega) (by omega) (by omega) (by first | omega | (simp; done) | (simp; omega)) (by have z_ := ok21.le; first | exact z_ | omega | (simp at z_ ⊢; omega)))) (fun _ => rfl)) (fun x29 => ?_)
    obtain ⟨g27, ok28⟩ := x29
    refine Wl.castL (LL' := [g27.seg 5 (mc b8 (uB s d fr to pl xs)), g20.seg 5 (mc b8 xs), [cb p7 [Value.int .u16 ((fr : Nat) : Int), Value.int .u16 ((to : Nat) : Int), Value.bool pl, Value.slice g20.a xs.length g20.cap] 28], [cb p4 [Value.int .u16 ((fr : Nat) : Int), Value.int .u16 ((to : Nat) : Int), Value.bool pl, Value.slice a xs.length cap] 28], [cb p3 [Value.int .u32 ((s : Nat) : Int), Value.int .u32 ((d : Nat) : Int)] 24]]) rfl ?_
    refine Wl.run 5 (by kernel_rfl) ?_
    refine Wl.nil ?_
    refine hK26 _ _ _ ?_
    refine W.prune' [2, 3, 4, 7, 8, 9] [Value.slice c ys.length dap, Value.pointer (some ⟨p3, 0, none⟩), Value.pointer (some ⟨p4, 0, none⟩), Value.pointer (some ⟨p7, 0, none⟩), Value.slice g27.a ((uB s d fr to pl xs).length) g27.cap, Value.int .i64 (uE xs.length)] (by kernel_rfl) (fun f31 => ?_)
    refine W.seq (fun K32 hK32 => ?_)
    refine W.region ?_
    refine Wl.run 1 (by kernel_rfl) ?_
    refine Wl.ys (v := Value.int .u32 ((s : Nat) : Int)) rfl rfl (Ys.load (b := p3) (o' := 0) (i := 4) (j := 0) (cs := [Value.int .u32 ((s : Nat) : Int), Value.int .u32 ((d : Nat) : Int)]) (v := Value.int .u32 ((s : Nat) : Int)) rfl (by kernel_rfl) Try.isAgg23 rfl rfl rfl) ?_
    refine Wl.run 1 (by kernel_rfl) ?_
    refine Wl.ys (v := Value.int .u32 ((d : Nat) : Int)) rfl rfl (Ys.load (b := p3) (o' := 1) (i := 4) (j := 0) (cs := [Value.int .u32 ((s : Nat) : Int), Value.int .u32 ((d : Nat) : Int)]) (v := Value.int .u32 ((d : Nat) : Int)) rfl (by kernel_rfl) Try.isAgg23 rfl rfl rfl) ?_
    refine Wl.ys (v := Value.agg ([Value.int .u16 ((fr : Nat) : Int), Value.int .u16 ((to : Nat) : Int), Value.bool pl, Value.slice a xs.length cap]).toArray) rfl rfl (Ys.loadN (b := p4) (o' := 0) (i := 3) (j := 0) (cs := [Value.int .u16 ((fr : Nat) : Int), Value.int .u16 ((to : Nat) : Int), Value.bool pl, Value.slice a xs.length cap]) (vs := [Value.int .u16 ((fr : Nat) : Int), Value.int .u16 ((to : Nat) : Int), Value.bool pl, Value.slice a xs.length cap]) rfl (by kernel_rfl) Try.isAgg28 Try.sizeOf28 rfl rfl rfl rfl) ?_
    have hl36 := uB_le s d fr to pl xs
    refine Wl.ht rfl (Ht.call (β := FS) (k := 15) (args := #[Value.int .u32 ((s : Nat) : Int), Value.int .u32 ((d : Nat) : Int), Value.agg ([Value.int .u16 ((fr : Nat) : Int), Value.int .u16 ((to : Nat) : Int), Value.bool pl, Value.slice a xs.length cap]).toArray]) (Lin := []) (Lk := [g27.seg 5 (mc b8 (uB s d fr to pl xs)), g20.seg 5 (mc b8 xs), [cb p7 [Value.int .u16 ((fr : Nat) : Int), Value.int .u16 ((to : Nat) : Int), Value.bool pl, Value.slice g20.a xs.length g20.cap] 28], [cb p4 [Value.int .u16 ((fr : Nat) : Int), Value.int .u16 ((to : Nat) : Int), Value.bool pl, Value.slice a xs.length cap] 28], [cb p3 [Value.int .u32 ((s : Nat) : Int), Value.int .u32 ((d : Nat) : Int)] 24]]) (Mi := []) (Lo := fun g33 => [g33.seg 5 (mc b8 (uB s d fr to pl xs)), g27.seg 5 (mc b8 (uB s d fr to pl xs)), g20.seg 5 (mc b8 xs), [cb p7 [Value.int .u16 ((fr : Nat) : Int), Value.int .u16 ((to : Nat) : Int), Value.bool pl, Value.slice g20.a xs.length g20.cap] 28], [cb p4 [Value.int .u16 ((fr : Nat) : Int), Value.int .u16 ((to : Nat) : Int), Value.bool pl, Value.slice a xs.length cap] 28], [cb p3 [Value.int .u32 ((s : Nat) : Int), Value.int .u32 ((d : Nat) : Int)] 24]]) [] [0, 1, 2, 3, 4] rfl (fun _ => by kernel_rfl) (by decide) rfl rfl rfl (fun w_ hm_ hl_ => (rwudpn_c s d fr to pl xs a cap xs.length _ (by first | rfl | (rw [List.length_take]; omega) | (simp; done) | (simp [be_len, be_len, psh_len]; omega)) (hat.mem0 hm_) (by omega) (by omega) (by omega) (by omega) (by first | omega | (simp; done) | (simp; omega)) (by first | omega | (simp; omega)))) (fun _ => rfl)) (fun x35 => ?_)
    obtain ⟨g33, ok34⟩ := x35
    refine Wl.castL (LL' := [g33.seg 5 (mc b8 (uB s d fr to pl xs)), g27.seg 5 (mc b8 (uB s d fr to pl xs)), g20.seg 5 (mc b8 xs), [cb p7 [Value.int .u16 ((fr : Nat) : Int), Value.int .u16 ((to : Nat) : Int), Value.bool pl, Value.slice g20.a xs.length g20.cap] 28], [cb p4 [Value.int .u16 ((fr : Nat) : Int), Value.int .u16 ((to : Nat) : Int), Value.bool pl, Value.slice a xs.length cap] 28], [cb p3 [Value.int .u32 ((s : Nat) : Int), Value.int .u32 ((d : Nat) : Int)] 24]]) rfl ?_
    refine Wl.run 5 (by kernel_rfl) ?_
    refine Wl.nil ?_
    refine hK32 _ _ _ ?_
    refine W.prune' [2, 3, 4, 7, 8, 9, 10, 11] [Value.slice c ys.length dap, Value.pointer (some ⟨p3, 0, none⟩), Value.pointer (some ⟨p4, 0, none⟩), Value.pointer (some ⟨p7, 0, none⟩), Value.slice g27.a ((uB s d fr to pl xs).length) g27.cap, Value.int .i64 (uE xs.length), Value.slice g33.a ((uB s d fr to pl xs).length) g33.cap, Value.int .i64 (uE xs.length)] (by kernel_rfl) (fun f37 => ?_)
    refine W.seq (fun K38 hK38 => ?_)
    refine W.seq (fun K39 hK39 => ?_)
    refine W.region ?_
    refine Wl.run 4 (by kernel_rfl) ?_
    refine Wl.guard (v := Value.slice g27.a ((uB s d fr to pl xs).length) g27.cap) (!((uE xs.length) != (uE xs.length))) rfl (wantF rfl (by kernel_rfl)) rfl (fun hg40 => ?_) ?_
    · have qhg40 := hg40; try simp only [Bool.and_eq_true, Bool.or_eq_true, Bool.not_eq_true', Bool.not_eq_false', Bool.and_eq_false_iff, Bool.or_eq_false_iff, decide_eq_true_eq, decide_eq_false_iff_not, beq_iff_eq, bne_iff_ne, beq_eq_false_iff_ne, bne_eq_false_iff_eq] at qhg40
      exact Ys.pure (fun _ => by kernel_rfl)
    refine Wl.guard (v := Value.string (bstr (uB s d fr to pl xs))) (!((uE xs.length) != (uE xs.length))) rfl (wantF rfl (by kernel_rfl)) rfl (fun hg41 => ?_) ?_
    · have qhg41 := hg41; try simp only [Bool.and_eq_true, Bool.or_eq_true, Bool.not_eq_true', Bool.not_eq_false', Bool.and_eq_false_iff, Bool.or_eq_false_iff, decide_eq_true_eq, decide_eq_false_iff_not, beq_iff_eq, bne_iff_ne, beq_eq_false_iff_ne, bne_eq_false_iff_eq] at qhg41
      refine Ys.at (t := 53) (v0 := Value.slice g27.a ((uB s d fr to pl xs).length) g27.cap) (lz (g := !((uE xs.length) != (uE xs.length))) (u := undef) hg41 (by kernel_rfl)) ?_
      exact Ys.bytesStr (a := g27.a) (len := (uB s d fr to pl xs).length) (cap := g27.cap) (xs := uB s d fr to pl xs) (e := 5) rfl (by kernel_rfl) (by kernel_rfl) (by kernel_rfl) (by kernel_rfl) (rfl) (fun w_ h_ => (FS.at (i := 1) (t := 5) h_ rfl (FS.nil_cs ok28 (mc_len1 _))))
    refine Wl.guard (v := Value.slice g33.a ((uB s d fr to pl xs).length) g33.cap) (!((uE xs.length) != (uE xs.length))) rfl (wantF rfl (by kernel_rfl)) rfl (fun hg42 => ?_) ?_
    · have qhg42 := hg42; try simp only [Bool.and_eq_true, Bool.or_eq_true, Bool.not_eq_true', Bool.not_eq_false', Bool.and_eq_false_iff, Bool.or_eq_false_iff, decide_eq_true_eq, decide_eq_false_iff_not, beq_iff_eq, bne_iff_ne, beq_eq_false_iff_ne, bne_eq_false_iff_eq] at qhg42
      exact Ys.pure (fun _ => by kernel_rfl)
    refine Wl.guard (v := Value.string (bstr (uB s d fr to pl xs))) (!((uE xs.length) != (uE xs.length))) rfl (wantF rfl (by kernel_rfl)) rfl (fun hg43 => ?_) ?_
    · have qhg43 := hg43; try simp only [Bool.and_eq_true, Bool.or_eq_true, Bool.not_eq_true', Bool.not_eq_false', Bool.and_eq_false_iff, Bool.or_eq_false_iff, decide_eq_true_eq, decide_eq_false_iff_not, beq_iff_eq, bne_iff_ne, beq_eq_false_iff_ne, bne_eq_false_iff_eq] at qhg43
      refine Ys.at (t := 55) (v0 := Value.slice g33.a ((uB s d fr to pl xs).length) g33.cap) (lz (g := !((uE xs.length) != (uE xs.length))) (u := undef) hg43 (by kernel_rfl)) ?_
      exact Ys.bytesStr (a := g33.a) (len := (uB s d fr to pl xs).length) (cap := g33.cap) (xs := uB s d fr to pl xs) (e := 5) rfl (by kernel_rfl) (by kernel_rfl) (by kernel_rfl) (by kernel_rfl) (rfl) (fun w_ h_ => (FS.at (i := 0) (t := 5) h_ rfl (FS.nil_cs ok34 (mc_len1 _))))
    refine Wl.guard (v := Value.bool (!((uB s d fr to pl xs) == (uB s d fr to pl xs)))) (!((uE xs.length) != (uE xs.length))) rfl (wantF rfl (by kernel_rfl)) rfl (fun hg44 => ?_) ?_
    · have qhg44 := hg44; try simp only [Bool.and_eq_true, Bool.or_eq_true, Bool.not_eq_true', Bool.not_eq_false', Bool.and_eq_false_iff, Bool.or_eq_false_iff, decide_eq_true_eq, decide_eq_false_iff_not, beq_iff_eq, bne_iff_ne, beq_eq_false_iff_ne, bne_eq_false_iff_eq] at qhg44
      refine Ys.at (t := 54) (v0 := Value.string (bstr (uB s d fr to pl xs))) (lz (g := !((uE xs.length) != (uE xs.length))) (u := undef) hg44 (by kernel_rfl)) ?_
      refine Ys.at (t := 56) (v0 := Value.string (bstr (uB s d fr to pl xs))) (lz (g := !((uE xs.length) != (uE xs.length))) (u := undef) hg44 (by kernel_rfl)) ?_
      exact (Ys.pure (v := .bool (!((bstr (uB s d fr to pl xs)).toList == (bstr (uB s d fr to pl xs)).toList))) (fun _ => by kernel_rfl)).conseq (bool_congr ((congrArg (! ·) (bstr_eq _ _))))
    refine Wl.ys (v := Value.bool (((uE xs.length) != (uE xs.length)) || (!((uB s d fr to pl xs) == (uB s d fr to pl xs))))) rfl rfl (Ys.or' (e := (uE xs.length) != (uE xs.length)) (b := !((uB s d fr to pl xs) == (uB s d fr to pl xs))) rfl (by kernel_rfl) (by kernel_rfl) (by kernel_rfl)) ?_
    refine Wl.run 1 (by kernel_rfl) ?_
    refine Wl.guard (v := Value.agg ([Value.int .u16 ((fr : Nat) : Int), Value.int .u16 ((to : Nat) : Int), Value.bool pl, Value.slice g20.a xs.length g20.cap]).toArray) (!(((uE xs.length) != (uE xs.length)) || (!((uB s d fr to pl xs) == (uB s d fr to pl xs))))) rfl (wantF rfl (by kernel_rfl)) rfl (fun hg45 => ?_) ?_
    · have qhg45 := hg45; try simp only [Bool.and_eq_true, Bool.or_eq_true, Bool.not_eq_true', Bool.not_eq_false', Bool.and_eq_false_iff, Bool.or_eq_false_iff, decide_eq_true_eq, decide_eq_false_iff_not, beq_iff_eq, bne_iff_ne, beq_eq_false_iff_ne, bne_eq_false_iff_eq] at qhg45
      exact Ys.loadN (b := p7) (o' := 0) (i := 3) (j := 0) (cs := [Value.int .u16 ((fr : Nat) : Int), Value.int .u16 ((to : Nat) : Int), Value.bool pl, Value.slice g20.a xs.length g20.cap]) (vs := [Value.int .u16 ((fr : Nat) : Int), Value.int .u16 ((to : Nat) : Int), Value.bool pl, Value.slice g20.a xs.length g20.cap]) rfl (by kernel_rfl) Try.isAgg28 Try.sizeOf28 rfl rfl rfl rfl
    refine Wl.guard (v := Value.agg ([Value.int .u16 ((fr : Nat) : Int), Value.int .u16 ((to : Nat) : Int), Value.bool pl, Value.slice a xs.length cap]).toArray) (!(((uE xs.length) != (uE xs.length)) || (!((uB s d fr to pl xs) == (uB s d fr to pl xs))))) rfl (wantF rfl (by kernel_rfl)) rfl (fun hg46 => ?_) ?_
    · have qhg46 := hg46; try simp only [Bool.and_eq_true, Bool.or_eq_true, Bool.not_eq_true', Bool.not_eq_false', Bool.and_eq_false_iff, Bool.or_eq_false_iff, decide_eq_true_eq, decide_eq_false_iff_not, beq_iff_eq, bne_iff_ne, beq_eq_false_iff_ne, bne_eq_false_iff_eq] at qhg46
      exact Ys.loadN (b := p4) (o' := 0) (i := 4) (j := 0) (cs := [Value.int .u16 ((fr : Nat) : Int), Value.int .u16 ((to : Nat) : Int), Value.bool pl, Value.slice a xs.length cap]) (vs := [Value.int .u16 ((fr : Nat) : Int), Value.int .u16 ((to : Nat) : Int), Value.bool pl, Value.slice a xs.length cap]) rfl (by kernel_rfl) Try.isAgg28 Try.sizeOf28 rfl rfl rfl rfl
    refine Wl.guardc (v := Value.bool ((((((fr : Nat) : Int) == ((fr : Nat) : Int)) && (((to : Nat) : Int) == ((to : Nat) : Int))) && (pl == pl)) && (xs == xs))) (!(((uE xs.length) != (uE xs.length)) || (!((uB s d fr to pl xs) == (uB s d fr to pl xs))))) rfl (wantF rfl (by kernel_rfl)) rfl (fun hg47 => ?_) ?_
    · have qhg47 := hg47; try simp only [Bool.and_eq_true, Bool.or_eq_true, Bool.not_eq_true', Bool.not_eq_false', Bool.and_eq_false_iff, Bool.or_eq_false_iff, decide_eq_true_eq, decide_eq_false_iff_not, beq_iff_eq, bne_iff_ne, beq_eq_false_iff_ne, bne_eq_false_iff_eq] at qhg47
      refine Yc.at (t := 60) (v0 := Value.agg ([Value.int .u16 ((fr : Nat) : Int), Value.int .u16 ((to : Nat) : Int), Value.bool pl, Value.slice g20.a xs.length g20.cap]).toArray) (lz (g := !(((uE xs.length) != (uE xs.length)) || (!((uB s d fr to pl xs) == (uB s d fr to pl xs))))) (u := undef) hg47 (by kernel_rfl)) ?_
      refine Yc.at (t := 61) (v0 := Value.agg ([Value.int .u16 ((fr : Nat) : Int), Value.int .u16 ((to : Nat) : Int), Value.bool pl, Value.slice a xs.length cap]).toArray) (lz (g := !(((uE xs.length) != (uE xs.length)) || (!((uB s d fr to pl xs) == (uB s d fr to pl xs))))) (u := undef) hg47 (by kernel_rfl)) ?_
      exact Yc.call (k := 16) (args := #[Value.agg ([Value.int .u16 ((fr : Nat) : Int), Value.int .u16 ((to : Nat) : Int), Value.bool pl, Value.slice g20.a xs.length g20.cap]).toArray, Value.agg ([Value.int .u16 ((fr : Nat) : Int), Value.int .u16 ((to : Nat) : Int), Value.bool pl, Value.slice a xs.length cap]).toArray]) (fun _ => by kernel_rfl) (fun w_ hm_ => (sameudpn_c fr to fr to pl pl xs xs g20.a a g20.cap cap xs.length xs.length _ (by first | rfl | (rw [List.length_take]; omega) | (simp; done) | (simp [be_len, be_len, psh_len]; omega)) (by first | rfl | (rw [List.length_take]; omega) | (simp; done) | (simp [be_len, be_len, psh_len]; omega)) (FS.at (i := 2) (t := 5) hm_ rfl (FS.nil_cs ok21 (mc_len1 _))) (hat.mem0 hm_)))
    refine Wl.guard (v := Value.bool (!((((((fr : Nat) : Int) == ((fr : Nat) : Int)) && (((to : Nat) : Int) == ((to : Nat) : Int))) && (pl == pl)) && (xs == xs)))) (!(((uE xs.length) != (uE xs.length)) || (!((uB s d fr to pl xs) == (uB s d fr to pl xs))))) rfl (wantF rfl (by kernel_rfl)) rfl (fun hg48 => ?_) ?_
    · have qhg48 := hg48; try simp only [Bool.and_eq_true, Bool.or_eq_true, Bool.not_eq_true', Bool.not_eq_false', Bool.and_eq_false_iff, Bool.or_eq_false_iff, decide_eq_true_eq, decide_eq_false_iff_not, beq_iff_eq, bne_iff_ne, beq_eq_false_iff_ne, bne_eq_false_iff_eq] at qhg48
      refine Ys.at (t := 62) (v0 := Value.bool ((((((fr : Nat) : Int) == ((fr : Nat) : Int)) && (((to : Nat) : Int) == ((to : Nat) : Int))) && (pl == pl)) && (xs == xs))) (lz (g := !(((uE xs.length) != (uE xs.length)) || (!((uB s d fr to pl xs) == (uB s d fr to pl xs))))) (u := undef) hg48 (by kernel_rfl)) ?_
      exact Ys.pure (fun _ => by kernel_rfl)
    refine Wl.ys (v := Value.bool ((((uE xs.length) != (uE xs.length)) || (!((uB s d fr to pl xs) == (uB s d fr to pl xs)))) || (!((((((fr : Nat) : Int) == ((fr : Nat) : Int)) && (((to : Nat) : Int) == ((to : Nat) : Int))) && (pl == pl)) && (xs == xs))))) rfl rfl (Ys.or' (e := ((uE xs.length) != (uE xs.length)) || (!((uB s d fr to pl xs) == (uB s d fr to pl xs)))) (b := !((((((fr : Nat) : Int) == ((fr : Nat) : Int)) && (((to : Nat) : Int) == ((to : Nat) : Int))) && (pl == pl)) && (xs == xs))) rfl (by kernel_rfl) (by kernel_rfl) (by kernel_rfl)) ?_
    refine Wl.nil ?_
    refine hK39 _ _ _ ?_
    refine W.pick (LL' := [g27.seg 5 (mc b8 (uB s d fr to pl xs)), [cb p4 [Value.int .u16 ((fr : Nat) : Int), Value.int .u16 ((to : Nat) : Int), Value.bool pl, Value.slice a xs.length cap] 28], [cb p3 [Value.int .u32 ((s : Nat) : Int), Value.int .u32 ((d : Nat) : Int)] 24]]) [1, 4, 5] (by decide) rfl ?_
    refine W.prune' [2, 3, 4, 8, 9, 64] [Value.slice c ys.length dap, Value.pointer (some ⟨p3, 0, none⟩), Value.pointer (some ⟨p4, 0, none⟩), Value.slice g27.a ((uB s d fr to pl xs).length) g27.cap, Value.int .i64 (uE xs.length), Value.bool ((((uE xs.length) != (uE xs.length)) || (!((uB s d fr to pl xs) == (uB s d fr to pl xs)))) || (!((((((fr : Nat) : Int) == ((fr : Nat) : Int)) && (((to : Nat) : Int) == ((to : Nat) : Int))) && (pl == pl)) && (xs == xs))))] (by kernel_rfl) (fun f49 => ?_)
    refine W.cond ((((uE xs.length) != (uE xs.length)) || (!((uB s d fr to pl xs) == (uB s d fr to pl xs)))) || (!((((((fr : Nat) : Int) == ((fr : Nat) : Int)) && (((to : Nat) : Int) == ((to : Nat) : Int))) && (pl == pl)) && (xs == xs)))) (by kernel_rfl) (fun h50 => ?_) (fun h51 => ?_)
    · have qh50 := h50; try simp only [Bool.and_eq_true, Bool.or_eq_true, Bool.not_eq_true', Bool.not_eq_false', Bool.and_eq_false_iff, Bool.or_eq_false_iff, decide_eq_true_eq, decide_eq_false_iff_not, beq_iff_eq, bne_iff_ne, beq_eq_false_iff_ne, bne_eq_false_iff_eq] at qh50
      (exfalso; simp at h50)
    · have qh51 := h51; try simp only [Bool.and_eq_true, Bool.or_eq_true, Bool.not_eq_true', Bool.not_eq_false', Bool.and_eq_false_iff, Bool.or_eq_false_iff, decide_eq_true_eq, decide_eq_false_iff_not, beq_iff_eq, bne_iff_ne, beq_eq_false_iff_ne, bne_eq_false_iff_eq] at qh51
      refine W.skip' ?_
      refine hK38 _ _ _ ?_
      refine W.prune' [2, 3, 4, 8, 9] [Value.slice c ys.length dap, Value.pointer (some ⟨p3, 0, none⟩), Value.pointer (some ⟨p4, 0, none⟩), Value.slice g27.a ((uB s d fr to pl xs).length) g27.cap, Value.int .i64 (uE xs.length)] (by kernel_rfl) (fun f52 => ?_)
      refine W.seq (fun K53 hK53 => ?_)
      refine W.seq (fun K54 hK54 => ?_)
      refine W.region ?_
      refine Wl.run 3 (by kernel_rfl) ?_
      refine Wl.guard (v := Value.slice g27.a ((uB s d fr to pl xs).length) g27.cap) (!((uE xs.length) != 0)) rfl (wantF rfl (by kernel_rfl)) rfl (fun hg55 => ?_) ?_
      · have qhg55 := hg55; try simp only [Bool.and_eq_true, Bool.or_eq_true, Bool.not_eq_true', Bool.not_eq_false', Bool.and_eq_false_iff, Bool.or_eq_false_iff, decide_eq_true_eq, decide_eq_false_iff_not, beq_iff_eq, bne_iff_ne, beq_eq_false_iff_ne, bne_eq_false_iff_eq] at qhg55
        exact Ys.pure (fun _ => by kernel_rfl)
      refine Wl.guard (v := Value.int .i64 (((uB s d fr to pl xs).length : Nat) : Int)) (!((uE xs.length) != 0)) rfl (wantF rfl (by kernel_rfl)) rfl (fun hg56 => ?_) ?_
      · have qhg56 := hg56; try simp only [Bool.and_eq_true, Bool.or_eq_true, Bool.not_eq_true', Bool.not_eq_false', Bool.and_eq_false_iff, Bool.or_eq_false_iff, decide_eq_true_eq, decide_eq_false_iff_not, beq_iff_eq, bne_iff_ne, beq_eq_false_iff_ne, bne_eq_false_iff_eq] at qhg56
        refine Ys.at (t := 68) (v0 := Value.slice g27.a ((uB s d fr to pl xs).length) g27.cap) (lz (g := !((uE xs.length) != 0)) (u := undef) hg56 (by kernel_rfl)) ?_
        exact Ys.pure (fun _ => by kernel_rfl)
      refine Wl.guard (v := Value.slice c ys.length dap) (!((uE xs.length) != 0)) rfl (wantF rfl (by kernel_rfl)) rfl (fun hg57 => ?_) ?_
      · have qhg57 := hg57; try simp only [Bool.and_eq_true, Bool.or_eq_true, Bool.not_eq_true', Bool.not_eq_false', Bool.and_eq_false_iff, Bool.or_eq_false_iff, decide_eq_true_eq, decide_eq_false_iff_not, beq_iff_eq, bne_iff_ne, beq_eq_false_iff_ne, bne_eq_false_iff_eq] at qhg57
        exact Ys.pure (fun _ => by kernel_rfl)
      refine Wl.guard (v := Value.int .i64 ((ys.length : Nat) : Int)) (!((uE xs.length) != 0)) rfl (wantF rfl (by kernel_rfl)) rfl (fun hg58 => ?_) ?_
      · have qhg58 := hg58; try simp only [Bool.and_eq_true, Bool.or_eq_true, Bool.not_eq_true', Bool.not_eq_false', Bool.and_eq_false_iff, Bool.or_eq_false_iff, decide_eq_true_eq, decide_eq_false_iff_not, beq_iff_eq, bne_iff_ne, beq_eq_false_iff_ne, bne_eq_false_iff_eq] at qhg58
        refine Ys.at (t := 70) (v0 := Value.slice c ys.length dap) (lz (g := !((uE xs.length) != 0)) (u := undef) hg58 (by kernel_rfl)) ?_
        exact Ys.pure (fun _ => by kernel_rfl)
      refine Wl.guard (v := Value.int .i64 ((((uB s d fr to pl xs).length) + ys.length : Nat) : Int)) (!((uE xs.length) != 0)) rfl (wantF rfl (by kernel_rfl)) rfl (fun hg59 => ?_) ?_
      · have qhg59 := hg59; try simp only [Bool.and_eq_true, Bool.or_eq_true, Bool.not_eq_true', Bool.not_eq_false', Bool.and_eq_false_iff, Bool.or_eq_false_iff, decide_eq_true_eq, decide_eq_false_iff_not, beq_iff_eq, bne_iff_ne, beq_eq_false_iff_ne, bne_eq_false_iff_eq] at qhg59
        refine Ys.at (t := 69) (v0 := Value.int .i64 (((uB s d fr to pl xs).length : Nat) : Int)) (lz (g := !((uE xs.length) != 0)) (u := undef) hg59 (by kernel_rfl)) ?_
        refine Ys.at (t := 71) (v0 := Value.int .i64 ((ys.length : Nat) : Int)) (lz (g := !((uE xs.length) != 0)) (u := undef) hg59 (by kernel_rfl)) ?_
        exact (Ys.pure (v := .int .i64 (iadd .i64 (((uB s d fr to pl xs).length : Nat) : Int) ((ys.length : Nat) : Int))) (fun _ => by kernel_rfl)).conseq (int_congr (iadd_eq (by omega) (by omega) (by omega)))
      refine Wl.guard (v := Value.bool (decide (((((uB s d fr to pl xs).length) + ys.length : Nat) : Int) > 1480))) (!((uE xs.length) != 0)) rfl (wantF rfl (by kernel_rfl)) rfl (fun hg60 => ?_) ?_
      · have qhg60 := hg60; try simp only [Bool.and_eq_true, Bool.or_eq_true, Bool.not_eq_true', Bool.not_eq_false', Bool.and_eq_false_iff, Bool.or_eq_false_iff, decide_eq_true_eq, decide_eq_false_iff_not, beq_iff_eq, bne_iff_ne, beq_eq_false_iff_ne, bne_eq_false_iff_eq] at qhg60
        refine Ys.at (t := 72) (v0 := Value.int .i64 ((((uB s d fr to pl xs).length) + ys.length : Nat) : Int)) (lz (g := !((uE xs.length) != 0)) (u := undef) hg60 (by kernel_rfl)) ?_
        exact Ys.pure (fun _ => by kernel_rfl)
      refine Wl.ys (v := Value.bool (((uE xs.length) != 0) || (decide (((((uB s d fr to pl xs).length) + ys.length : Nat) : Int) > 1480)))) rfl rfl (Ys.or' (e := (uE xs.length) != 0) (b := decide (((((uB s d fr to pl xs).length) + ys.length : Nat) : Int) > 1480)) rfl (by kernel_rfl) (by kernel_rfl) (by kernel_rfl)) ?_
      refine Wl.nil ?_
      refine hK54 _ _ _ ?_
      refine W.prune' [2, 3, 4, 8, 74] [Value.slice c ys.length dap, Value.pointer (some ⟨p3, 0, none⟩), Value.pointer (some ⟨p4, 0, none⟩), Value.slice g27.a ((uB s d fr to pl xs).length) g27.cap, Value.bool (((uE xs.length) != 0) || (decide (((((uB s d fr to pl xs).length) + ys.length : Nat) : Int) > 1480)))] (by kernel_rfl) (fun f61 => ?_)
      refine W.cond (((uE xs.length) != 0) || (decide (((((uB s d fr to pl xs).length) + ys.length : Nat) : Int) > 1480))) (by kernel_rfl) (fun h62 => ?_) (fun h63 => ?_)
      · have qh62 := h62; try simp only [Bool.and_eq_true, Bool.or_eq_true, Bool.not_eq_true', Bool.not_eq_false', Bool.and_eq_false_iff, Bool.or_eq_false_iff, decide_eq_true_eq, decide_eq_false_iff_not, beq_iff_eq, bne_iff_ne, beq_eq_false_iff_ne, bne_eq_false_iff_eq] at qh62
        refine W.seq (fun K64 hK64 => ?_)
        refine W.region ?_
        refine Wl.run 1 (by kernel_rfl) ?_
        refine Wl.nil ?_
        refine hK64 _ _ _ ?_
        refine W.ret ?_
        show ∀ w_, _ → bodyPostM (fence none) 0 Try.prog Try.f3 _ Exit.ret _ w_
        exact fun w_ hS_ => fin_ret (ret1 rfl (RV.tmp (v := Value.bool true) (by kernel_rfl)) hS_ ⟨rfl, hS_.below⟩)
      · have qh63 := h63; try simp only [Bool.and_eq_true, Bool.or_eq_true, Bool.not_eq_true', Bool.not_eq_false', Bool.and_eq_false_iff, Bool.or_eq_false_iff, decide_eq_true_eq, decide_eq_false_iff_not, beq_iff_eq, bne_iff_ne, beq_eq_false_iff_ne, bne_eq_false_iff_eq] at qh63
        refine W.skip' ?_
        refine hK53 _ _ _ ?_
        refine W.prune' [2, 3, 4, 8] [Value.slice c ys.length dap, Value.pointer (some ⟨p3, 0, none⟩), Value.pointer (some ⟨p4, 0, none⟩), Value.slice g27.a ((uB s d fr to pl xs).length) g27.cap] (by kernel_rfl) (fun f65 => ?_)
        refine W.seq (fun K66 hK66 => ?_)
        refine W.meet3 (w0 := w) (M := []) K66 [4, 12, 13] (fun (p12 : Nat) (g67 : FS) (g72 : FS) => [Value.pointer (some ⟨p4, 0, none⟩), Value.pointer (some ⟨p12, 0, none⟩), Value.int .i64 (uR s d ((uB s d fr to pl xs) ++ ys))]) (fun (p12 : Nat) (g67 : FS) (g72 : FS) => g67.ok 1 (((uB s d fr to pl xs) ++ ys).length) ∧ (0 < ((uB s d fr to pl xs) ++ ys).length → g67.nil = false) ∧ (g27.nil = false → g67.nil = false) ∧ g72.ok 1 (uD s d ((uB s d fr to pl xs) ++ ys)).length) (fun (p12 : Nat) (g67 : FS) (g72 : FS) => [[cb p12 [Value.int .u16 ((uF s d ((uB s d fr to pl xs) ++ ys) 0 : Nat) : Int), Value.int .u16 ((uF s d ((uB s d fr to pl xs) ++ ys) 2 : Nat) : Int), Value.bool (uP s d ((uB s d fr to pl xs) ++ ys)), Value.slice g72.a ((uD s d ((uB s d fr to pl xs) ++ ys)).length) g72.cap] 28], g72.seg 5 (mc b8 (uD s d ((uB s d fr to pl xs) ++ ys))), g67.seg 5 (mc b8 ((uB s d fr to pl xs) ++ ys)), [cb p4 [Value.int .u16 ((fr : Nat) : Int), Value.int .u16 ((to : Nat) : Int), Value.bool pl, Value.slice a xs.length cap] 28], [cb p3 [Value.int .u32 ((s : Nat) : Int), Value.int .u32 ((d : Nat) : Int)] 24]]) (fun J67 hJ67 => ?_) (fun p12 g67 g72 f68 hp69 => ?_)
        · refine W.drawsA [0, 1, 2, 3, 4, 5, 8, 9, 10, 13] (Mem w [] [[cb p4 [Value.int .u16 ((fr : Nat) : Int), Value.int .u16 ((to : Nat) : Int), Value.bool pl, Value.slice a xs.length cap] 28], [cb p3 [Value.int .u32 ((s : Nat) : Int), Value.int .u32 ((d : Nat) : Int)] 24]]) (by kernel_rfl) (by kernel_rfl) (fun _ _ h_ => h_.drawn _) ?_
          refine Wa.ys (v := Value.pointer (some ⟨p3, 0, none⟩)) (i := 0) (by kernel_rfl) (by kernel_rfl) (by kernel_rfl) (by kernel_rfl) (fun _ h_ => h_.pick [1, 2] (by decide) rfl) rfl rfl rfl (Ys.pure (fun _ => by kernel_rfl)) ?_
          refine Wa.ys (v := Value.int .u32 ((s : Nat) : Int)) (i := 1) (by kernel_rfl) (by kernel_rfl) (by kernel_rfl) (by kernel_rfl) (fun _ h_ => h_.pick [1, 2] (by decide) rfl) rfl rfl rfl (Ys.load (b := p3) (o' := 0) (i := 1) (j := 0) (cs := [Value.int .u32 ((s : Nat) : Int), Value.int .u32 ((d : Nat) : Int)]) (v := Value.int .u32 ((s : Nat) : Int)) rfl (by kernel_rfl) Try.isAgg23 rfl rfl rfl) ?_
          refine Wa.ys (v := Value.pointer (some ⟨p3, 1, none⟩)) (i := 2) (by kernel_rfl) (by kernel_rfl) (by kernel_rfl) (by kernel_rfl) (fun _ h_ => h_.pick [1, 2] (by decide) rfl) rfl rfl rfl (Ys.pure (fun _ => by kernel_rfl)) ?_
          refine Wa.ys (v := Value.int .u32 ((d : Nat) : Int)) (i := 3) (by kernel_rfl) (by kernel_rfl) (by kernel_rfl) (by kernel_rfl) (fun _ h_ => h_.pick [1, 2] (by decide) rfl) rfl rfl rfl (Ys.load (b := p3) (o' := 1) (i := 1) (j := 0) (cs := [Value.int .u32 ((s : Nat) : Int), Value.int .u32 ((d : Nat) : Int)]) (v := Value.int .u32 ((d : Nat) : Int)) rfl (by kernel_rfl) Try.isAgg23 rfl rfl rfl) ?_
          refine Wa.ys (v := Value.slice g27.a ((uB s d fr to pl xs).length) g27.cap) (i := 4) (by kernel_rfl) (by kernel_rfl) (by kernel_rfl) (by kernel_rfl) (fun _ h_ => h_.pick [1, 2] (by decide) rfl) rfl rfl rfl (Ys.pure (fun _ => by kernel_rfl)) ?_
          refine Wa.ys (v := Value.slice c ys.length dap) (i := 5) (by kernel_rfl) (by kernel_rfl) (by kernel_rfl) (by kernel_rfl) (fun _ h_ => h_.pick [1, 2] (by decide) rfl) rfl rfl rfl (Ys.pure (fun _ => by kernel_rfl)) ?_
          refine Wa.alt2 (i := 6) (j := 11) (by kernel_rfl) ?_ ?_
          · refine Wo.ht rfl rfl (Ht.append (eu := 5) (xv := Value.slice c ys.length dap) (i := 0) (g := g27) (e := 5) (ii := (Try.prog.info? 5).getD default) (z := Value.int .u8 0) (sz := 1) (bytes := 1) (nn := (uB s d fr to pl xs).length) (m := ys.length) (k := ((uB s d fr to pl xs) ++ ys).length) (xs := mc b8 (uB s d fr to pl xs)) (news := mc b8 ys) (cs' := mc b8 ((uB s d fr to pl xs) ++ ys)) (Lo := fun g70 => [g70.seg 5 (mc b8 ((uB s d fr to pl xs) ++ ys)), [cb p4 [Value.int .u16 ((fr : Nat) : Int), Value.int .u16 ((to : Nat) : Int), Value.bool pl, Value.slice a xs.length cap] 28], [cb p3 [Value.int .u32 ((s : Nat) : Int), Value.int .u32 ((d : Nat) : Int)] 24]]) rfl rfl (by kernel_rfl) (by kernel_rfl) (by kernel_rfl) (by kernel_rfl) (by kernel_rfl) (by kernel_rfl) (by kernel_rfl) (by kernel_rfl) (by kernel_rfl) rfl ok28 (mc_len1 _) (fun _ => rfl) (Src.at (a := c) (mc_len1 _) (fun w_ h_ => (hct.mem0 h_))) (mc_len1 _) (mc_one (fun _ => rfl) _) (by first | omega | (simp; done) | (simp; omega)) (by simp only [maxLen]; first | omega | (simp; done) | (simp; omega)) (by first | omega | (simp; done) | (simp; omega)) (mc_app _ _) (fun _ => rfl)) (.inr fun _ _ h_ => h_.pick [1, 2] (by decide) rfl) (fun x74 => ?_)
            obtain ⟨g70, ok71, hn72, hn73⟩ := x74
            refine Wa.castL (LL' := [g70.seg 5 (mc b8 ((uB s d fr to pl xs) ++ ys)), [cb p4 [Value.int .u16 ((fr : Nat) : Int), Value.int .u16 ((to : Nat) : Int), Value.bool pl, Value.slice a xs.length cap] 28], [cb p3 [Value.int .u32 ((s : Nat) : Int), Value.int .u32 ((d : Nat) : Int)] 24]]) rfl ?_
            refine Wa.alt2 (i := 7) (j := 11) (by kernel_rfl) ?_ ?_
            · refine Wo.ht rfl rfl (Ht.call (β := FS) (k := 17) (args := #[Value.int .u32 ((s : Nat) : Int), Value.int .u32 ((d : Nat) : Int), Value.slice g70.a (((uB s d fr to pl xs) ++ ys).length) g70.cap]) (Lin := []) (Lk := [g70.seg 5 (mc b8 ((uB s d fr to pl xs) ++ ys)), [cb p4 [Value.int .u16 ((fr : Nat) : Int), Value.int .u16 ((to : Nat) : Int), Value.bool pl, Value.slice a xs.length cap] 28], [cb p3 [Value.int .u32 ((s : Nat) : Int), Value.int .u32 ((d : Nat) : Int)] 24]]) (Mi := []) (Lo := fun g75 => [g75.seg 5 (mc b8 (uD s d ((uB s d fr to pl xs) ++ ys))), g70.seg 5 (mc b8 ((uB s d fr to pl xs) ++ ys)), [cb p4 [Value.int .u16 ((fr : Nat) : Int), Value.int .u16 ((to : Nat) : Int), Value.bool pl, Value.slice a xs.length cap] 28], [cb p3 [Value.int .u32 ((s : Nat) : Int), Value.int .u32 ((d : Nat) : Int)] 24]]) [] [0, 1, 2] rfl (fun _ => by kernel_rfl) (by decide) rfl rfl rfl (fun w_ hm_ hl_ => (rudpn_c s d ((uB s d fr to pl xs) ++ ys) g70.a g70.cap (((uB s d fr to pl xs) ++ ys).length) _ (by first | rfl | (rw [List.length_take]; omega) | (simp; done) | (simp [be_len, be_len, psh_len]; omega)) (FS.at (i := 0) (t := 5) hm_ rfl (FS.nil_cs ok71 (mc_len1 _))) (by omega) (by omega) (by first | omega | (simp; omega)) (ok71.le))) (fun _ => rfl)) (.inr fun _ _ h_ => h_.pick [2, 3] (by decide) rfl) (fun x77 => ?_)
              obtain ⟨g75, ok76⟩ := x77
              refine Wa.castL (LL' := [g75.seg 5 (mc b8 (uD s d ((uB s d fr to pl xs) ++ ys))), g70.seg 5 (mc b8 ((uB s d fr to pl xs) ++ ys)), [cb p4 [Value.int .u16 ((fr : Nat) : Int), Value.int .u16 ((to : Nat) : Int), Value.bool pl, Value.slice a xs.length cap] 28], [cb p3 [Value.int .u32 ((s : Nat) : Int), Value.int .u32 ((d : Nat) : Int)] 24]]) rfl ?_
              refine Wa.ys (v := Value.tuple #[Value.agg ([Value.int .u16 ((uF s d ((uB s d fr to pl xs) ++ ys) 0 : Nat) : Int), Value.int .u16 ((uF s d ((uB s d fr to pl xs) ++ ys) 2 : Nat) : Int), Value.bool (uP s d ((uB s d fr to pl xs) ++ ys)), Value.slice g75.a ((uD s d ((uB s d fr to pl xs) ++ ys)).length) g75.cap]).toArray, Value.int .i64 (uR s d ((uB s d fr to pl xs) ++ ys))]) (i := 8) (by kernel_rfl) (by kernel_rfl) (by kernel_rfl) (by kernel_rfl) (fun _ h_ => h_.pick [2, 3] (by decide) rfl) rfl rfl rfl (Ys.pure (fun _ => by kernel_rfl)) ?_
              refine Wa.ys (v := Value.agg ([Value.int .u16 ((uF s d ((uB s d fr to pl xs) ++ ys) 0 : Nat) : Int), Value.int .u16 ((uF s d ((uB s d fr to pl xs) ++ ys) 2 : Nat) : Int), Value.bool (uP s d ((uB s d fr to pl xs) ++ ys)), Value.slice g75.a ((uD s d ((uB s d fr to pl xs) ++ ys)).length) g75.cap]).toArray) (i := 9) (by kernel_rfl) (by kernel_rfl) (by kernel_rfl) (by kernel_rfl) (fun _ h_ => h_.pick [2, 3] (by decide) rfl) rfl rfl rfl (Ys.pure (fun _ => by kernel_rfl)) ?_
              refine Wa.ys (v := Value.int .i64 (uR s d ((uB s d fr to pl xs) ++ ys))) (i := 10) (by kernel_rfl) (by kernel_rfl) (by kernel_rfl) (by kernel_rfl) (fun _ h_ => h_.pick [2, 3] (by decide) rfl) rfl rfl rfl (Ys.pure (fun _ => by kernel_rfl)) ?_
              refine Wa.only (i := 11) (by kernel_rfl) ?_
              refine Wo.ht rfl rfl (Ht.alloc (z := Value.agg ([Value.int .u16 0, Value.int .u16 0, Value.bool false, Value.slice none 0 0]).toArray) (cs := [Value.int .u16 0, Value.int .u16 0, Value.bool false, Value.slice none 0 0]) rfl rfl Try.zeroValue28 rfl) (.inr fun _ _ h_ => h_.pick [3, 4] (by decide) rfl) (fun p12 => ?_)
              refine Wa.only (i := 12) (by kernel_rfl) ?_
              refine Wo.ht rfl rfl (Ht.storeN (b := p12) (o' := 0) (i := 0) (j := 0) (cs := [Value.int .u16 0, Value.int .u16 0, Value.bool false, Value.slice none 0 0]) (vs := [Value.int .u16 ((uF s d ((uB s d fr to pl xs) ++ ys) 0 : Nat) : Int), Value.int .u16 ((uF s d ((uB s d fr to pl xs) ++ ys) 2 : Nat) : Int), Value.bool (uP s d ((uB s d fr to pl xs) ++ ys)), Value.slice g75.a ((uD s d ((uB s d fr to pl xs) ++ ys)).length) g75.cap]) (cs' := [Value.int .u16 ((uF s d ((uB s d fr to pl xs) ++ ys) 0 : Nat) : Int), Value.int .u16 ((uF s d ((uB s d fr to pl xs) ++ ys) 2 : Nat) : Int), Value.bool (uP s d ((uB s d fr to pl xs) ++ ys)), Value.slice g75.a ((uD s d ((uB s d fr to pl xs) ++ ys)).length) g75.cap]) (LL' := [[cb p12 [Value.int .u16 ((uF s d ((uB s d fr to pl xs) ++ ys) 0 : Nat) : Int), Value.int .u16 ((uF s d ((uB s d fr to pl xs) ++ ys) 2 : Nat) : Int), Value.bool (uP s d ((uB s d fr to pl xs) ++ ys)), Value.slice g75.a ((uD s d ((uB s d fr to pl xs) ++ ys)).length) g75.cap] 28], g75.seg 5 (mc b8 (uD s d ((uB s d fr to pl xs) ++ ys))), g70.seg 5 (mc b8 ((uB s d fr to pl xs) ++ ys)), [cb p4 [Value.int .u16 ((fr : Nat) : Int), Value.int .u16 ((to : Nat) : Int), Value.bool pl, Value.slice a xs.length cap] 28], [cb p3 [Value.int .u32 ((s : Nat) : Int), Value.int .u32 ((d : Nat) : Int)] 24]]) rfl rfl (by kernel_rfl) (by kernel_rfl) Try.sizeOf28 (by simp [Value.oneCell']) rfl rfl (by simp) rfl rfl) (.inr fun _ _ h_ => h_.pick [3, 4] (by decide) rfl) (fun _ => ?_)
              refine Wa.ys (v := Value.int .i64 (uR s d ((uB s d fr to pl xs) ++ ys))) (i := 13) (by kernel_rfl) (by kernel_rfl) (by kernel_rfl) (by kernel_rfl) (fun _ h_ => h_.pick [3, 4] (by decide) rfl) rfl rfl rfl (Ys.pure (fun _ => by kernel_rfl)) ?_
              refine Wa.nil (by kernel_rfl) ?_
              refine fun w_ h_ => hJ67 p12 g70 g75 _ w_ ⟨ok71, hn72, hn73, ok76⟩ (by kernel_rfl) h_
            · refine Wo.ht rfl rfl (Ht.alloc (z := Value.agg ([Value.int .u16 0, Value.int .u16 0, Value.bool false, Value.slice none 0 0]).toArray) (cs := [Value.int .u16 0, Value.int .u16 0, Value.bool false, Value.slice none 0 0]) rfl rfl Try.zeroValue28 rfl) (.inr fun _ _ h_ => h_.pick [2, 3] (by decide) rfl) (fun p12 => ?_)
              refine Wa.only (i := 7) (by kernel_rfl) ?_
              refine Wo.ht rfl rfl (Ht.call (β := FS) (k := 17) (args := #[Value.int .u32 ((s : Nat) : Int), Value.int .u32 ((d : Nat) : Int), Value.slice g70.a (((uB s d fr to pl xs) ++ ys).length) g70.cap]) (Lin := []) (Lk := [[cb p12 [Value.int .u16 0, Value.int .u16 0, Value.bool false, Value.slice none 0 0] 28], g70.seg 5 (mc b8 ((uB s d fr to pl xs) ++ ys)), [cb p4 [Value.int .u16 ((fr : Nat) : Int), Value.int .u16 ((to : Nat) : Int), Value.bool pl, Value.slice a xs.length cap] 28], [cb p3 [Value.int .u32 ((s : Nat) : Int), Value.int .u32 ((d : Nat) : Int)] 24]]) (Mi := []) (Lo := fun g78 => [g78.seg 5 (mc b8 (uD s d ((uB s d fr to pl xs) ++ ys))), [cb p12 [Value.int .u16 0, Value.int .u16 0, Value.bool false, Value.slice none 0 0] 28], g70.seg 5 (mc b8 ((uB s d fr to pl xs) ++ ys)), [cb p4 [Value.int .u16 ((fr : Nat) : Int), Value.int .u16 ((to : Nat) : Int), Value.bool pl, Value.slice a xs.length cap] 28], [cb p3 [Value.int .u32 ((s : Nat) : Int), Value.int .u32 ((d : Nat) : Int)] 24]]) [] [0, 1, 2, 3] rfl (fun _ => by kernel_rfl) (by decide) rfl rfl rfl (fun w_ hm_ hl_ => (rudpn_c s d ((uB s d fr to pl xs) ++ ys) g70.a g70.cap (((uB s d fr to pl xs) ++ ys).length) _ (by first | rfl | (rw [List.length_take]; omega) | (simp; done) | (simp [be_len, be_len, psh_len]; omega)) (FS.at (i := 1) (t := 5) hm_ rfl (FS.nil_cs ok71 (mc_len1 _))) (by omega) (by omega) (by first | omega | (simp; omega)) (ok71.le))) (fun _ => rfl)) (.inr fun _ _ h_ => h_.pick [3, 4] (by decide) rfl) (fun x80 => ?_)
              obtain ⟨g78, ok79⟩ := x80
              refine Wa.castL (LL' := [g78.seg 5 (mc b8 (uD s d ((uB s d fr to pl xs) ++ ys))), [cb p12 [Value.int .u16 0, Value.int .u16 0, Value.bool false, Value.slice none 0 0] 28], g70.seg 5 (mc b8 ((uB s d fr to pl xs) ++ ys)), [cb p4 [Value.int .u16 ((fr : Nat) : Int), Value.int .u16 ((to : Nat) : Int), Value.bool pl, Value.slice a xs.length cap] 28], [cb p3 [Value.int .u32 ((s : Nat) : Int), Value.int .u32 ((d : Nat) : Int)] 24]]) rfl ?_
              refine Wa.ys (v := Value.tuple #[Value.agg ([Value.int .u16 ((uF s d ((uB s d fr to pl xs) ++ ys) 0 : Nat) : Int), Value.int .u16 ((uF s d ((uB s d fr to pl xs) ++ ys) 2 : Nat) : Int), Value.bool (uP s d ((uB s d fr to pl xs) ++ ys)), Value.slice g78.a ((uD s d ((uB s d fr to pl xs) ++ ys)).length) g78.cap]).toArray, Value.int .i64 (uR s d ((uB s d fr to pl xs) ++ ys))]) (i := 8) (by kernel_rfl) (by kernel_rfl) (by kernel_rfl) (by kernel_rfl) (fun _ h_ => h_.pick [3, 4] (by decide) rfl) rfl rfl rfl (Ys.pure (fun _ => by kernel_rfl)) ?_
              refine Wa.ys (v := Value.agg ([Value.int .u16 ((uF s d ((uB s d fr to pl xs) ++ ys) 0 : Nat) : Int), Value.int .u16 ((uF s d ((uB s d fr to pl xs) ++ ys) 2 : Nat) : Int), Value.bool (uP s d ((uB s d fr to pl xs) ++ ys)), Value.slice g78.a ((uD s d ((uB s d fr to pl xs) ++ ys)).length) g78.cap]).toArray) (i := 9) (by kernel_rfl) (by kernel_rfl) (by kernel_rfl) (by kernel_rfl) (fun _ h_ => h_.pick [3, 4] (by decide) rfl) rfl rfl rfl (Ys.pure (fun _ => by kernel_rfl)) ?_
              refine Wa.ys (v := Value.int .i64 (uR s d ((uB s d fr to pl xs) ++ ys))) (i := 10) (by kernel_rfl) (by kernel_rfl) (by kernel_rfl) (by kernel_rfl) (fun _ h_ => h_.pick [3, 4] (by decide) rfl) rfl rfl rfl (Ys.pure (fun _ => by kernel_rfl)) ?_
              refine Wa.only (i := 12) (by kernel_rfl) ?_
              refine Wo.ht rfl rfl (Ht.storeN (b := p12) (o' := 0) (i := 1) (j := 0) (cs := [Value.int .u16 0, Value.int .u16 0, Value.bool false, Value.slice none 0 0]) (vs := [Value.int .u16 ((uF s d ((uB s d fr to pl xs) ++ ys) 0 : Nat) : Int), Value.int .u16 ((uF s d ((uB s d fr to pl xs) ++ ys) 2 : Nat) : Int), Value.bool (uP s d ((uB s d fr to pl xs) ++ ys)), Value.slice g78.a ((uD s d ((uB s d fr to pl xs) ++ ys)).length) g78.cap]) (cs' := [Value.int .u16 ((uF s d ((uB s d fr to pl xs) ++ ys) 0 : Nat) : Int), Value.int .u16 ((uF s d ((uB s d fr to pl xs) ++ ys) 2 : Nat) : Int), Value.bool (uP s d ((uB s d fr to pl xs) ++ ys)), Value.slice g78.a ((uD s d ((uB s d fr to pl xs) ++ ys)).length) g78.cap]) (LL' := [g78.seg 5 (mc b8 (uD s d ((uB s d fr to pl xs) ++ ys))), [cb p12 [Value.int .u16 ((uF s d ((uB s d fr to pl xs) ++ ys) 0 : Nat) : Int), Value.int .u16 ((uF s d ((uB s d fr to pl xs) ++ ys) 2 : Nat) : Int), Value.bool (uP s d ((uB s d fr to pl xs) ++ ys)), Value.slice g78.a ((uD s d ((uB s d fr to pl xs) ++ ys)).length) g78.cap] 28], g70.seg 5 (mc b8 ((uB s d fr to pl xs) ++ ys)), [cb p4 [Value.int .u16 ((fr : Nat) : Int), Value.int .u16 ((to : Nat) : Int), Value.bool pl, Value.slice a xs.length cap] 28], [cb p3 [Value.int .u32 ((s : Nat) : Int), Value.int .u32 ((d : Nat) : Int)] 24]]) rfl rfl (by kernel_rfl) (by kernel_rfl) Try.sizeOf28 (by simp [Value.oneCell']) rfl rfl (by simp) rfl rfl) (.inr fun _ _ h_ => h_.pick [3, 4] (by decide) rfl) (fun _ => ?_)
              refine Wa.ys (v := Value.int .i64 (uR s d ((uB s d fr to pl xs) ++ ys))) (i := 13) (by kernel_rfl) (by kernel_rfl) (by kernel_rfl) (by kernel_rfl) (fun _ h_ => h_.pick [3, 4] (by decide) rfl) rfl rfl rfl (Ys.pure (fun _ => by kernel_rfl)) ?_
              refine Wa.nil (by kernel_rfl) ?_
              refine fun w_ h_ => hJ67 p12 g70 g78 _ w_ ⟨ok71, hn72, hn73, ok79⟩ (by kernel_rfl) (h_.pick [1, 0, 2, 3, 4] (by decide) rfl)
          · refine Wo.ht rfl rfl (Ht.alloc (z := Value.agg ([Value.int .u16 0, Value.int .u16 0, Value.bool false, Value.slice none 0 0]).toArray) (cs := [Value.int .u16 0, Value.int .u16 0, Value.bool false, Value.slice none 0 0]) rfl rfl Try.zeroValue28 rfl) (.inr fun _ _ h_ => h_.pick [2, 3] (by decide) rfl) (fun p12 => ?_)
            refine Wa.only (i := 6) (by kernel_rfl) ?_
            refine Wo.ht rfl rfl (Ht.append (eu := 5) (xv := Value.slice c ys.length dap) (i := 1) (g := g27) (e := 5) (ii := (Try.prog.info? 5).getD default) (z := Value.int .u8 0) (sz := 1) (bytes := 1) (nn := (uB s d fr to pl xs).length) (m := ys.length) (k := ((uB s d fr to pl xs) ++ ys).length) (xs := mc b8 (uB s d fr to pl xs)) (news := mc b8 ys) (cs' := mc b8 ((uB s d fr to pl xs) ++ ys)) (Lo := fun g81 => [[cb p12 [Value.int .u16 0, Value.int .u16 0, Value.bool false, Value.slice none 0 0] 28], g81.seg 5 (mc b8 ((uB s d fr to pl xs) ++ ys)), [cb p4 [Value.int .u16 ((fr : Nat) : Int), Value.int .u16 ((to : Nat) : Int), Value.bool pl, Value.slice a xs.length cap] 28], [cb p3 [Value.int .u32 ((s : Nat) : Int), Value.int .u32 ((d : Nat) : Int)] 24]]) rfl rfl (by kernel_rfl) (by kernel_rfl) (by kernel_rfl) (by kernel_rfl) (by kernel_rfl) (by kernel_rfl) (by kernel_rfl) (by kernel_rfl) (by kernel_rfl) rfl ok28 (mc_len1 _) (fun _ => rfl) (Src.at (a := c) (mc_len1 _) (fun w_ h_ => (hct.mem0 h_))) (mc_len1 _) (mc_one (fun _ => rfl) _) (by first | omega | (simp; done) | (simp; omega)) (by simp only [maxLen]; first | omega | (simp; done) | (simp; omega)) (by first | omega | (simp; done) | (simp; omega)) (mc_app _ _) (fun _ => rfl)) (.inr fun _ _ h_ => h_.pick [2, 3] (by decide) rfl) (fun x85 => ?_)
            obtain ⟨g81, ok82, hn83, hn84⟩ := x85
            refine Wa.castL (LL' := [[cb p12 [Value.int .u16 0, Value.int .u16 0, Value.bool false, Value.slice none 0 0] 28], g81.seg 5 (mc b8 ((uB s d fr to pl xs) ++ ys)), [cb p4 [Value.int .u16 ((fr : Nat) : Int), Value.int .u16 ((to : Nat) : Int), Value.bool pl, Value.slice a xs.length cap] 28], [cb p3 [Value.int .u32 ((s : Nat) : Int), Value.int .u32 ((d : Nat) : Int)] 24]]) rfl ?_
            refine Wa.only (i := 7) (by kernel_rfl) ?_
            refine Wo.ht rfl rfl (Ht.call (β := FS) (k := 17) (args := #[Value.int .u32 ((s : Nat) : Int), Value.int .u32 ((d : Nat) : Int), Value.slice g81.a (((uB s d fr to pl xs) ++ ys).length) g81.cap]) (Lin := []) (Lk := [[cb p12 [Value.int .u16 0, Value.int .u16 0, Value.bool false, Value.slice none 0 0] 28], g81.seg 5 (mc b8 ((uB s d fr to pl xs) ++ ys)), [cb p4 [Value.int .u16 ((fr : Nat) : Int), Value.int .u16 ((to : Nat) : Int), Value.bool pl, Value.slice a xs.length cap] 28], [cb p3 [Value.int .u32 ((s : Nat) : Int), Value.int .u32 ((d : Nat) : Int)] 24]]) (Mi := []) (Lo := fun g86 => [g86.seg 5 (mc b8 (uD s d ((uB s d fr to pl xs) ++ ys))), [cb p12 [Value.int .u16 0, Value.int .u16 0, Value.bool false, Value.slice none 0 0] 28], g81.seg 5 (mc b8 ((uB s d fr to pl xs) ++ ys)), [cb p4 [Value.int .u16 ((fr : Nat) : Int), Value.int .u16 ((to : Nat) : Int), Value.bool pl, Value.slice a xs.length cap] 28], [cb p3 [Value.int .u32 ((s : Nat) : Int), Value.int .u32 ((d : Nat) : Int)] 24]]) [] [0, 1, 2, 3] rfl (fun _ => by kernel_rfl) (by decide) rfl rfl rfl (fun w_ hm_ hl_ => (rudpn_c s d ((uB s d fr to pl xs) ++ ys) g81.a g81.cap (((uB s d fr to pl xs) ++ ys).length) _ (by first | rfl | (rw [List.length_take]; omega) | (simp; done) | (simp [be_len, be_len, psh_len]; omega)) (FS.at (i := 1) (t := 5) hm_ rfl (FS.nil_cs ok82 (mc_len1 _))) (by omega) (by omega) (by first | omega | (simp; omega)) (ok82.le))) (fun _ => rfl)) (.inr fun _ _ h_ => h_.pick [3, 4] (by decide) rfl) (fun x88 => ?_)
            obtain ⟨g86, ok87⟩ := x88
            refine Wa.castL (LL' := [g86.seg 5 (mc b8 (uD s d ((uB s d fr to pl xs) ++ ys))), [cb p12 [Value.int .u16 0, Value.int .u16 0, Value.bool false, Value.slice none 0 0] 28], g81.seg 5 (mc b8 ((uB s d fr to pl xs) ++ ys)), [cb p4 [Value.int .u16 ((fr : Nat) : Int), Value.int .u16 ((to : Nat) : Int), Value.bool pl, Value.slice a xs.length cap] 28], [cb p3 [Value.int .u32 ((s : Nat) : Int), Value.int .u32 ((d : Nat) : Int)] 24]]) rfl ?_
            refine Wa.ys (v := Value.tuple #[Value.agg ([Value.int .u16 ((uF s d ((uB s d fr to pl xs) ++ ys) 0 : Nat) : Int), Value.int .u16 ((uF s d ((uB s d fr to pl xs) ++ ys) 2 : Nat) : Int), Value.bool (uP s d ((uB s d fr to pl xs) ++ ys)), Value.slice g86.a ((uD s d ((uB s d fr to pl xs) ++ ys)).length) g86.cap]).toArray, Value.int .i64 (uR s d ((uB s d fr to pl xs) ++ ys))]) (i := 8) (by kernel_rfl) (by kernel_rfl) (by kernel_rfl) (by kernel_rfl) (fun _ h_ => h_.pick [3, 4] (by decide) rfl) rfl rfl rfl (Ys.pure (fun _ => by kernel_rfl)) ?_
            refine Wa.ys (v := Value.agg ([Value.int .u16 ((uF s d ((uB s d fr to pl xs) ++ ys) 0 : Nat) : Int), Value.int .u16 ((uF s d ((uB s d fr to pl xs) ++ ys) 2 : Nat) : Int), Value.bool (uP s d ((uB s d fr to pl xs) ++ ys)), Value.slice g86.a ((uD s d ((uB s d fr to pl xs) ++ ys)).length) g86.cap]).toArray) (i := 9) (by kernel_rfl) (by kernel_rfl) (by kernel_rfl) (by kernel_rfl) (fun _ h_ => h_.pick [3, 4] (by decide) rfl) rfl rfl rfl (Ys.pure (fun _ => by kernel_rfl)) ?_
            refine Wa.ys (v := Value.int .i64 (uR s d ((uB s d fr to pl xs) ++ ys))) (i := 10) (by kernel_rfl) (by kernel_rfl) (by kernel_rfl) (by kernel_rfl) (fun _ h_ => h_.pick [3, 4] (by decide) rfl) rfl rfl rfl (Ys.pure (fun _ => by kernel_rfl)) ?_
            refine Wa.only (i := 12) (by kernel_rfl) ?_
            refine Wo.ht rfl rfl (Ht.storeN (b := p12) (o' := 0) (i := 1) (j := 0) (cs := [Value.int .u16 0, Value.int .u16 0, Value.bool false, Value.slice none 0 0]) (vs := [Value.int .u16 ((uF s d ((uB s d fr to pl xs) ++ ys) 0 : Nat) : Int), Value.int .u16 ((uF s d ((uB s d fr to pl xs) ++ ys) 2 : Nat) : Int), Value.bool (uP s d ((uB s d fr to pl xs) ++ ys)), Value.slice g86.a ((uD s d ((uB s d fr to pl xs) ++ ys)).length) g86.cap]) (cs' := [Value.int .u16 ((uF s d ((uB s d fr to pl xs) ++ ys) 0 : Nat) : Int), Value.int .u16 ((uF s d ((uB s d fr to pl xs) ++ ys) 2 : Nat) : Int), Value.bool (uP s d ((uB s d fr to pl xs) ++ ys)), Value.slice g86.a ((uD s d ((uB s d fr to pl xs) ++ ys)).length) g86.cap]) (LL' := [g86.seg 5 (mc b8 (uD s d ((uB s d fr to pl xs) ++ ys))), [cb p12 [Value.int .u16 ((uF s d ((uB s d fr to pl xs) ++ ys) 0 : Nat) : Int), Value.int .u16 ((uF s d ((uB s d fr to pl xs) ++ ys) 2 : Nat) : Int), Value.bool (uP s d ((uB s d fr to pl xs) ++ ys)), Value.slice g86.a ((uD s d ((uB s d fr to pl xs) ++ ys)).length) g86.cap] 28], g81.seg 5 (mc b8 ((uB s d fr to pl xs) ++ ys)), [cb p4 [Value.int .u16 ((fr : Nat) : Int), Value.int .u16 ((to : Nat) : Int), Value.bool pl, Value.slice a xs.length cap] 28], [cb p3 [Value.int .u32 ((s : Nat) : Int), Value.int .u32 ((d : Nat) : Int)] 24]]) rfl rfl (by kernel_rfl) (by kernel_rfl) Try.sizeOf28 (by simp [Value.oneCell']) rfl rfl (by simp) rfl rfl) (.inr fun _ _ h_ => h_.pick [3, 4] (by decide) rfl) (fun _ => ?_)
            refine Wa.ys (v := Value.int .i64 (uR s d ((uB s d fr to pl xs) ++ ys))) (i := 13) (by kernel_rfl) (by kernel_rfl) (by kernel_rfl) (by kernel_rfl) (fun _ h_ => h_.pick [3, 4] (by decide) rfl) rfl rfl rfl (Ys.pure (fun _ => by kernel_rfl)) ?_
            refine Wa.nil (by kernel_rfl) ?_
            refine fun w_ h_ => hJ67 p12 g81 g86 _ w_ ⟨ok82, hn83, hn84, ok87⟩ (by kernel_rfl) (h_.pick [1, 0, 2, 3, 4] (by decide) rfl)
        · refine hK66 _ _ _ ?_
          obtain ⟨ok68, hn69, hn70, ok73⟩ := hp69
          refine W.seq (fun K89 hK89 => ?_)
          refine W.region ?_
          refine Wl.run 3 (by kernel_rfl) ?_
          refine Wl.guard (v := Value.agg ([Value.int .u16 ((uF s d ((uB s d fr to pl xs) ++ ys) 0 : Nat) : Int), Value.int .u16 ((uF s d ((uB s d fr to pl xs) ++ ys) 2 : Nat) : Int), Value.bool (uP s d ((uB s d fr to pl xs) ++ ys)), Value.slice g72.a ((uD s d ((uB s d fr to pl xs) ++ ys)).length) g72.cap]).toArray) ((uR s d ((uB s d fr to pl xs) ++ ys)) == 0) rfl (wantT rfl (by kernel_rfl)) rfl (fun hg90 => ?_) ?_
          · have qhg90 := hg90; try simp only [Bool.and_eq_true, Bool.or_eq_true, Bool.not_eq_true', Bool.not_eq_false', Bool.and_eq_false_iff, Bool.or_eq_false_iff, decide_eq_true_eq, decide_eq_false_iff_not, beq_iff_eq, bne_iff_ne, beq_eq_false_iff_ne, bne_eq_false_iff_eq] at qhg90
            exact Ys.loadN (b := p12) (o' := 0) (i := 0) (j := 0) (cs := [Value.int .u16 ((uF s d ((uB s d fr to pl xs) ++ ys) 0 : Nat) : Int), Value.int .u16 ((uF s d ((uB s d fr to pl xs) ++ ys) 2 : Nat) : Int), Value.bool (uP s d ((uB s d fr to pl xs) ++ ys)), Value.slice g72.a ((uD s d ((uB s d fr to pl xs) ++ ys)).length) g72.cap]) (vs := [Value.int .u16 ((uF s d ((uB s d fr to pl xs) ++ ys) 0 : Nat) : Int), Value.int .u16 ((uF s d ((uB s d fr to pl xs) ++ ys) 2 : Nat) : Int), Value.bool (uP s d ((uB s d fr to pl xs) ++ ys)), Value.slice g72.a ((uD s d ((uB s d fr to pl xs) ++ ys)).length) g72.cap]) rfl (by kernel_rfl) Try.isAgg28 Try.sizeOf28 rfl rfl rfl rfl
          refine Wl.guard (v := Value.agg ([Value.int .u16 ((fr : Nat) : Int), Value.int .u16 ((to : Nat) : Int), Value.bool pl, Value.slice a xs.length cap]).toArray) ((uR s d ((uB s d fr to pl xs) ++ ys)) == 0) rfl (wantT rfl (by kernel_rfl)) rfl (fun hg91 => ?_) ?_
          · have qhg91 := hg91; try simp only [Bool.and_eq_true, Bool.or_eq_true, Bool.not_eq_true', Bool.not_eq_false', Bool.and_eq_false_iff, Bool.or_eq_false_iff, decide_eq_true_eq, decide_eq_false_iff_not, beq_iff_eq, bne_iff_ne, beq_eq_false_iff_ne, bne_eq_false_iff_eq] at qhg91
            exact Ys.loadN (b := p4) (o' := 0) (i := 3) (j := 0) (cs := [Value.int .u16 ((fr : Nat) : Int), Value.int .u16 ((to : Nat) : Int), Value.bool pl, Value.slice a xs.length cap]) (vs := [Value.int .u16 ((fr : Nat) : Int), Value.int .u16 ((to : Nat) : Int), Value.bool pl, Value.slice a xs.length cap]) rfl (by kernel_rfl) Try.isAgg28 Try.sizeOf28 rfl rfl rfl rfl
          refine Wl.guardc (v := Value.bool (((((((uF s d ((uB s d fr to pl xs) ++ ys) 0) : Nat) : Int) == ((fr : Nat) : Int)) && ((((uF s d ((uB s d fr to pl xs) ++ ys) 2) : Nat) : Int) == ((to : Nat) : Int))) && ((uP s d ((uB s d fr to pl xs) ++ ys)) == pl)) && ((uD s d ((uB s d fr to pl xs) ++ ys)) == xs))) ((uR s d ((uB s d fr to pl xs) ++ ys)) == 0) rfl (wantT rfl (by kernel_rfl)) rfl (fun hg92 => ?_) ?_
          · have qhg92 := hg92; try simp only [Bool.and_eq_true, Bool.or_eq_true, Bool.not_eq_true', Bool.not_eq_false', Bool.and_eq_false_iff, Bool.or_eq_false_iff, decide_eq_true_eq, decide_eq_false_iff_not, beq_iff_eq, bne_iff_ne, beq_eq_false_iff_ne, bne_eq_false_iff_eq] at qhg92
            refine Yc.at (t := 89) (v0 := Value.agg ([Value.int .u16 ((uF s d ((uB s d fr to pl xs) ++ ys) 0 : Nat) : Int), Value.int .u16 ((uF s d ((uB s d fr to pl xs) ++ ys) 2 : Nat) : Int), Value.bool (uP s d ((uB s d fr to pl xs) ++ ys)), Value.slice g72.a ((uD s d ((uB s d fr to pl xs) ++ ys)).length) g72.cap]).toArray) (lz (g := (uR s d ((uB s d fr to pl xs) ++ ys)) == 0) (u := undef) hg92 (by kernel_rfl)) ?_
            refine Yc.at (t := 90) (v0 := Value.agg ([Value.int .u16 ((fr : Nat) : Int), Value.int .u16 ((to : Nat) : Int), Value.bool pl, Value.slice a xs.length cap]).toArray) (lz (g := (uR s d ((uB s d fr to pl xs) ++ ys)) == 0) (u := undef) hg92 (by kernel_rfl)) ?_
            exact Yc.call (k := 16) (args := #[Value.agg ([Value.int .u16 ((uF s d ((uB s d fr to pl xs) ++ ys) 0 : Nat) : Int), Value.int .u16 ((uF s d ((uB s d fr to pl xs) ++ ys) 2 : Nat) : Int), Value.bool (uP s d ((uB s d fr to pl xs) ++ ys)), Value.slice g72.a ((uD s d ((uB s d fr to pl xs) ++ ys)).length) g72.cap]).toArray, Value.agg ([Value.int .u16 ((fr : Nat) : Int), Value.int .u16 ((to : Nat) : Int), Value.bool pl, Value.slice a xs.length cap]).toArray]) (fun _ => by kernel_rfl) (fun w_ hm_ => (sameudpn_c (uF s d ((uB s d fr to pl xs) ++ ys) 0) (uF s d ((uB s d fr to pl xs) ++ ys) 2) fr to (uP s d ((uB s d fr to pl xs) ++ ys)) pl (uD s d ((uB s d fr to pl xs) ++ ys)) xs g72.a a g72.cap cap ((uD s d ((uB s d fr to pl xs) ++ ys)).length) xs.length _ (by first | rfl | (rw [List.length_take]; omega) | (simp; done) | (simp [be_len, be_len, psh_len]; omega)) (by first | rfl | (rw [List.length_take]; omega) | (simp; done) | (simp [be_len, be_len, psh_len]; omega)) (FS.at (i := 1) (t := 5) hm_ rfl (FS.nil_cs ok73 (mc_len1 _))) (hat.mem0 hm_)))
          refine Wl.ys (v := Value.bool (((uR s d ((uB s d fr to pl xs) ++ ys)) == 0) && (((((((uF s d ((uB s d fr to pl xs) ++ ys) 0) : Nat) : Int) == ((fr : Nat) : Int)) && ((((uF s d ((uB s d fr to pl xs) ++ ys) 2) : Nat) : Int) == ((to : Nat) : Int))) && ((uP s d ((uB s d fr to pl xs) ++ ys)) == pl)) && ((uD s d ((uB s d fr to pl xs) ++ ys)) == xs)))) rfl rfl (Ys.and (e := (uR s d ((uB s d fr to pl xs) ++ ys)) == 0) (b := ((((((uF s d ((uB s d fr to pl xs) ++ ys) 0) : Nat) : Int) == ((fr : Nat) : Int)) && ((((uF s d ((uB s d fr to pl xs) ++ ys) 2) : Nat) : Int) == ((to : Nat) : Int))) && ((uP s d ((uB s d fr to pl xs) ++ ys)) == pl)) && ((uD s d ((uB s d fr to pl xs) ++ ys)) == xs)) rfl (by kernel_rfl) (by kernel_rfl) (by kernel_rfl)) ?_
          refine Wl.run 1 (by kernel_rfl) ?_
          refine Wl.nil ?_
          refine hK89 _ _ _ ?_
          refine W.pick (LL' := []) [] (by decide) rfl ?_
          refine W.prune' [6] [Value.bool (((uR s d ((uB s d fr to pl xs) ++ ys)) == 0) && (((((((uF s d ((uB s d fr to pl xs) ++ ys) 0) : Nat) : Int) == ((fr : Nat) : Int)) && ((((uF s d ((uB s d fr to pl xs) ++ ys) 2) : Nat) : Int) == ((to : Nat) : Int))) && ((uP s d ((uB s d fr to pl xs) ++ ys)) == pl)) && ((uD s d ((uB s d fr to pl xs) ++ ys)) == xs)))] (by kernel_rfl) (fun f93 => ?_)
          refine W.ret ?_
          show ∀ w_, _ → bodyPostM (fence none) 0 Try.prog Try.f3 _ Exit.ret _ w_
          exact fun w_ hS_ => fin_ret (ret1 rfl (RV.tmp (v := Value.bool (((uR s d ((uB s d fr to pl xs) ++ ys)) == 0) && (((((((uF s d ((uB s d fr to pl xs) ++ ys) 0) : Nat) : Int) == ((fr : Nat) : Int)) && ((((uF s d ((uB s d fr to pl xs) ++ ys) 2) : Nat) : Int) == ((to : Nat) : Int))) && ((uP s d ((uB s d fr to pl xs) ++ ys)) == pl)) && ((uD s d ((uB s d fr to pl xs) ++ ys)) == xs)))) (by kernel_rfl)) hS_ ⟨by clear hK1 hK3 hK4 hK7 hK8 hK17 hK19 hK26 hK32 hK38 hK39 hK53 hK54 hK66 hK89; refine congrArg Ending.returned ?_; exact bool_congr (td_back hf ht (by simpa using qh63.1) (by have z_ := qh63.2; omega)), hS_.below⟩)

end Go.Proofs.Ytgohlpdgeicncaa.Oct
