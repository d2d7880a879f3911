/-
  TransMessages. No condition.
-/
import Derived.Test.YtgohlpdgeicncaaTr6
set_option linter.unusedVariables false
set_option linter.unusedSimpArgs false
set_option maxRecDepth 20000
namespace Go.Proofs.Ytgohlpdgeicncaa.Oct
open Go.RowKit Base
attribute [local irreducible] Ys Yc Ht HtIn Wl Wd W Mem pf dpf Wa Wo

theorem samemsg_c (ty co tz cp : UInt8) (re rf : Nat) (xs ys : List UInt8) (a c : Option Addr) (cap dap : Nat) (w : World) (hat : At w a (byc xs)) (hct : At w c (byc ys)) : Calls Try.prog 21 #[Value.agg ([Value.int .u8 ((ty.toNat : Nat) : Int), Value.int .u8 ((co.toNat : Nat) : Int), Value.int .u32 ((re : Nat) : Int), Value.slice a xs.length cap]).toArray, Value.agg ([Value.int .u8 ((tz.toNat : Nat) : Int), Value.int .u8 ((cp.toNat : Nat) : Int), Value.int .u32 ((rf : Nat) : Int), Value.slice c ys.length dap]).toArray] w (Ret w (.bool (((((ty.toNat : Nat) : Int) == ((tz.toNat : Nat) : Int) && ((co.toNat : Nat) : Int) == ((cp.toNat : Nat) : Int)) && (((re : Nat) : Int) == ((rf : Nat) : Int))) && (xs == ys)))) := by
  refine calls_W (M := []) (LL := []) (n := 33) Try.func21 rfl rfl (by simp) (Mem.refl _) ?_
  refine W.seq (fun K1 hK1 => ?_)
  refine W.region ?_
  refine Wl.ht rfl (Ht.box (v := Value.agg ([Value.int .u8 ((ty.toNat : Nat) : Int), Value.int .u8 ((co.toNat : Nat) : Int), Value.int .u32 ((re : Nat) : Int), Value.slice a xs.length cap]).toArray) (cs := [Value.int .u8 ((ty.toNat : Nat) : Int), Value.int .u8 ((co.toNat : Nat) : Int), Value.int .u32 ((re : Nat) : Int), Value.slice a xs.length cap]) rfl rfl (by kernel_rfl) rfl) (fun p2 => ?_)
  refine Wl.ht rfl (Ht.box (v := Value.agg ([Value.int .u8 ((tz.toNat : Nat) : Int), Value.int .u8 ((cp.toNat : Nat) : Int), Value.int .u32 ((rf : Nat) : Int), Value.slice c ys.length dap]).toArray) (cs := [Value.int .u8 ((tz.toNat : Nat) : Int), Value.int .u8 ((cp.toNat : Nat) : Int), Value.int .u32 ((rf : Nat) : Int), Value.slice c ys.length dap]) rfl rfl (by kernel_rfl) rfl) (fun p3 => ?_)
  refine Wl.run 1 (by kernel_rfl) ?_
  refine Wl.nil ?_
  refine hK1 _ _ _ ?_
  refine W.prune' [2, 3] [Value.pointer (some ⟨p2, 0, none⟩), Value.pointer (some ⟨p3, 0, none⟩)] (by kernel_rfl) (fun f2 => ?_)
  refine W.seq (fun K3 hK3 => ?_)
  refine W.region ?_
  refine Wl.run 1 (by kernel_rfl) ?_
  refine Wl.ys (v := Value.int .u8 ((ty.toNat : Nat) : Int)) rfl rfl (Ys.load (b := p2) (o' := 0) (i := 1) (j := 0) (cs := [Value.int .u8 ((ty.toNat : Nat) : Int), Value.int .u8 ((co.toNat : Nat) : Int), Value.int .u32 ((re : Nat) : Int), Value.slice a xs.length cap]) (v := Value.int .u8 ((ty.toNat : Nat) : Int)) rfl (by kernel_rfl) Try.isAgg5 rfl rfl rfl) ?_
  refine Wl.run 1 (by kernel_rfl) ?_
  refine Wl.ys (v := Value.int .u8 ((tz.toNat : Nat) : Int)) rfl rfl (Ys.load (b := p3) (o' := 0) (i := 0) (j := 0) (cs := [Value.int .u8 ((tz.toNat : Nat) : Int), Value.int .u8 ((cp.toNat : Nat) : Int), Value.int .u32 ((rf : Nat) : Int), Value.slice c ys.length dap]) (v := Value.int .u8 ((tz.toNat : Nat) : Int)) rfl (by kernel_rfl) Try.isAgg5 rfl rfl rfl) ?_
  refine Wl.run 2 (by kernel_rfl) ?_
  refine Wl.guard (v := Value.pointer (some ⟨p2, 1, none⟩)) (((ty.toNat : Nat) : Int) == ((tz.toNat : Nat) : Int)) rfl (wantT rfl (by kernel_rfl)) rfl (fun hg4 => ?_) ?_
  · have qhg4 := hg4; try simp only [Bool.and_eq_true, Bool.or_eq_true, Bool.not_eq_true', Bool.not_eq_false', Bool.and_eq_false_iff, Bool.or_eq_false_iff, decide_eq_true_eq, decide_eq_false_iff_not, beq_iff_eq, bne_iff_ne, beq_eq_false_iff_ne, bne_eq_false_iff_eq] at qhg4
    exact Ys.pure (fun _ => by kernel_rfl)
  refine Wl.guard (v := Value.int .u8 ((co.toNat : Nat) : Int)) (((ty.toNat : Nat) : Int) == ((tz.toNat : Nat) : Int)) rfl (wantT rfl (by kernel_rfl)) rfl (fun hg5 => ?_) ?_
  · have qhg5 := hg5; try simp only [Bool.and_eq_true, Bool.or_eq_true, Bool.not_eq_true', Bool.not_eq_false', Bool.and_eq_false_iff, Bool.or_eq_false_iff, decide_eq_true_eq, decide_eq_false_iff_not, beq_iff_eq, bne_iff_ne, beq_eq_false_iff_ne, bne_eq_false_iff_eq] at qhg5
    refine Ys.at (t := 11) (v0 := Value.pointer (some ⟨p2, 1, none⟩)) (lz (g := ((ty.toNat : Nat) : Int) == ((tz.toNat : Nat) : Int)) (u := undef) hg5 (by kernel_rfl)) ?_
    exact Ys.load (b := p2) (o' := 1) (i := 1) (j := 0) (cs := [Value.int .u8 ((ty.toNat : Nat) : Int), Value.int .u8 ((co.toNat : Nat) : Int), Value.int .u32 ((re : Nat) : Int), Value.slice a xs.length cap]) (v := Value.int .u8 ((co.toNat : Nat) : Int)) rfl (by kernel_rfl) Try.isAgg5 rfl rfl rfl
  refine Wl.guard (v := Value.pointer (some ⟨p3, 1, none⟩)) (((ty.toNat : Nat) : Int) == ((tz.toNat : Nat) : Int)) rfl (wantT rfl (by kernel_rfl)) rfl (fun hg6 => ?_) ?_
  · have qhg6 := hg6; try simp only [Bool.and_eq_true, Bool.or_eq_true, Bool.not_eq_true', Bool.not_eq_false', Bool.and_eq_false_iff, Bool.or_eq_false_iff, decide_eq_true_eq, decide_eq_false_iff_not, beq_iff_eq, bne_iff_ne, beq_eq_false_iff_ne, bne_eq_false_iff_eq] at qhg6
    exact Ys.pure (fun _ => by kernel_rfl)
  refine Wl.guard (v := Value.int .u8 ((cp.toNat : Nat) : Int)) (((ty.toNat : Nat) : Int) == ((tz.toNat : Nat) : Int)) rfl (wantT rfl (by kernel_rfl)) rfl (fun hg7 => ?_) ?_
  · have qhg7 := hg7; try simp only [Bool.and_eq_true, Bool.or_eq_true, Bool.not_eq_true', Bool.not_eq_false', Bool.and_eq_false_iff, Bool.or_eq_false_iff, decide_eq_true_eq, decide_eq_false_iff_not, beq_iff_eq, bne_iff_ne, beq_eq_false_iff_ne, bne_eq_false_iff_eq] at qhg7
    refine Ys.at (t := 13) (v0 := Value.pointer (some ⟨p3, 1, none⟩)) (lz (g := ((ty.toNat : Nat) : Int) == ((tz.toNat : Nat) : Int)) (u := undef) hg7 (by kernel_rfl)) ?_
    exact Ys.load (b := p3) (o' := 1) (i := 0) (j := 0) (cs := [Value.int .u8 ((tz.toNat : Nat) : Int), Value.int .u8 ((cp.toNat : Nat) : Int), Value.int .u32 ((rf : Nat) : Int), Value.slice c ys.length dap]) (v := Value.int .u8 ((cp.toNat : Nat) : Int)) rfl (by kernel_rfl) Try.isAgg5 rfl rfl rfl
  refine Wl.guard (v := Value.bool (((co.toNat : Nat) : Int) == ((cp.toNat : Nat) : Int))) (((ty.toNat : Nat) : Int) == ((tz.toNat : Nat) : Int)) rfl (wantT rfl (by kernel_rfl)) rfl (fun hg8 => ?_) ?_
  · have qhg8 := hg8; try simp only [Bool.and_eq_true, Bool.or_eq_true, Bool.not_eq_true', Bool.not_eq_false', Bool.and_eq_false_iff, Bool.or_eq_false_iff, decide_eq_true_eq, decide_eq_false_iff_not, beq_iff_eq, bne_iff_ne, beq_eq_false_iff_ne, bne_eq_false_iff_eq] at qhg8
    refine Ys.at (t := 12) (v0 := Value.int .u8 ((co.toNat : Nat) : Int)) (lz (g := ((ty.toNat : Nat) : Int) == ((tz.toNat : Nat) : Int)) (u := undef) hg8 (by kernel_rfl)) ?_
    refine Ys.at (t := 14) (v0 := Value.int .u8 ((cp.toNat : Nat) : Int)) (lz (g := ((ty.toNat : Nat) : Int) == ((tz.toNat : Nat) : Int)) (u := undef) hg8 (by kernel_rfl)) ?_
    exact Ys.pure (fun _ => by kernel_rfl)
  refine Wl.ys (v := Value.bool ((((ty.toNat : Nat) : Int) == ((tz.toNat : Nat) : Int)) && (((co.toNat : Nat) : Int) == ((cp.toNat : Nat) : Int)))) rfl rfl (Ys.and (e := ((ty.toNat : Nat) : Int) == ((tz.toNat : Nat) : Int)) (b := ((co.toNat : Nat) : Int) == ((cp.toNat : Nat) : Int)) rfl (by kernel_rfl) (by kernel_rfl) (by kernel_rfl)) ?_
  refine Wl.run 1 (by kernel_rfl) ?_
  refine Wl.guard (v := Value.pointer (some ⟨p2, 2, none⟩)) ((((ty.toNat : Nat) : Int) == ((tz.toNat : Nat) : Int)) && (((co.toNat : Nat) : Int) == ((cp.toNat : Nat) : Int))) rfl (wantT rfl (by kernel_rfl)) rfl (fun hg9 => ?_) ?_
  · have qhg9 := hg9; try simp only [Bool.and_eq_true, Bool.or_eq_true, Bool.not_eq_true', Bool.not_eq_false', Bool.and_eq_false_iff, Bool.or_eq_false_iff, decide_eq_true_eq, decide_eq_false_iff_not, beq_iff_eq, bne_iff_ne, beq_eq_false_iff_ne, bne_eq_false_iff_eq] at qhg9
    exact Ys.pure (fun _ => by kernel_rfl)
  refine Wl.guard (v := Value.int .u32 ((re : Nat) : Int)) ((((ty.toNat : Nat) : Int) == ((tz.toNat : Nat) : Int)) && (((co.toNat : Nat) : Int) == ((cp.toNat : Nat) : Int))) rfl (wantT rfl (by kernel_rfl)) rfl (fun hg10 => ?_) ?_
  · have qhg10 := hg10; try simp only [Bool.and_eq_true, Bool.or_eq_true, Bool.not_eq_true', Bool.not_eq_false', Bool.and_eq_false_iff, Bool.or_eq_false_iff, decide_eq_true_eq, decide_eq_false_iff_not, beq_iff_eq, bne_iff_ne, beq_eq_false_iff_ne, bne_eq_false_iff_eq] at qhg10
    refine Ys.at (t := 18) (v0 := Value.pointer (some ⟨p2, 2, none⟩)) (lz (g := (((ty.toNat : Nat) : Int) == ((tz.toNat : Nat) : Int)) && (((co.toNat : Nat) : Int) == ((cp.toNat : Nat) : Int))) (u := undef) hg10 (by kernel_rfl)) ?_
    exact Ys.load (b := p2) (o' := 2) (i := 1) (j := 0) (cs := [Value.int .u8 ((ty.toNat : Nat) : Int), Value.int .u8 ((co.toNat : Nat) : Int), Value.int .u32 ((re : Nat) : Int), Value.slice a xs.length cap]) (v := Value.int .u32 ((re : Nat) : Int)) rfl (by kernel_rfl) Try.isAgg22 rfl rfl rfl
  refine Wl.guard (v := Value.pointer (some ⟨p3, 2, none⟩)) ((((ty.toNat : Nat) : Int) == ((tz.toNat : Nat) : Int)) && (((co.toNat : Nat) : Int) == ((cp.toNat : Nat) : Int))) rfl (wantT rfl (by kernel_rfl)) rfl (fun hg11 => ?_) ?_
  · have qhg11 := hg11; try simp only [Bool.and_eq_true, Bool.or_eq_true, Bool.not_eq_true', Bool.not_eq_false', Bool.and_eq_false_iff, Bool.or_eq_false_iff, decide_eq_true_eq, decide_eq_false_iff_not, beq_iff_eq, bne_iff_ne, beq_eq_false_iff_ne, bne_eq_false_iff_eq] at qhg11
    exact Ys.pure (fun _ => by kernel_rfl)
  refine Wl.guard (v := Value.int .u32 ((rf : Nat) : Int)) ((((ty.toNat : Nat) : Int) == ((tz.toNat : Nat) : Int)) && (((co.toNat : Nat) : Int) == ((cp.toNat : Nat) : Int))) rfl (wantT rfl (by kernel_rfl)) rfl (fun hg12 => ?_) ?_
  · have qhg12 := hg12; try simp only [Bool.and_eq_true, Bool.or_eq_true, Bool.not_eq_true', Bool.not_eq_false', Bool.and_eq_false_iff, Bool.or_eq_false_iff, decide_eq_true_eq, decide_eq_false_iff_not, beq_iff_eq, bne_iff_ne, beq_eq_false_iff_ne, bne_eq_false_iff_eq] at qhg12
    refine Ys.at (t := 20) (v0 := Value.pointer (some ⟨p3, 2, none⟩)) (lz (g := (((ty.toNat : Nat) : Int) == ((tz.toNat : Nat) : Int)) && (((co.toNat : Nat) : Int) == ((cp.toNat : Nat) : Int))) (u := undef) hg12 (by kernel_rfl)) ?_
    exact Ys.load (b := p3) (o' := 2) (i := 0) (j := 0) (cs := [Value.int .u8 ((tz.toNat : Nat) : Int), Value.int .u8 ((cp.toNat : Nat) : Int), Value.int .u32 ((rf : Nat) : Int), Value.slice c ys.length dap]) (v := Value.int .u32 ((rf : Nat) : Int)) rfl (by kernel_rfl) Try.isAgg22 rfl rfl rfl
  refine Wl.guard (v := Value.bool (((re : Nat) : Int) == ((rf : Nat) : Int))) ((((ty.toNat : Nat) : Int) == ((tz.toNat : Nat) : Int)) && (((co.toNat : Nat) : Int) == ((cp.toNat : Nat) : Int))) rfl (wantT rfl (by kernel_rfl)) rfl (fun hg13 => ?_) ?_
  · have qhg13 := hg13; try simp only [Bool.and_eq_true, Bool.or_eq_true, Bool.not_eq_true', Bool.not_eq_false', Bool.and_eq_false_iff, Bool.or_eq_false_iff, decide_eq_true_eq, decide_eq_false_iff_not, beq_iff_eq, bne_iff_ne, beq_eq_false_iff_ne, bne_eq_false_iff_eq] at qhg13
    refine Ys.at (t := 19) (v0 := Value.int .u32 ((re : Nat) : Int)) (lz (g := (((ty.toNat : Nat) : Int) == ((tz.toNat : Nat) : Int)) && (((co.toNat : Nat) : Int) == ((cp.toNat : Nat) : Int))) (u := undef) hg13 (by kernel_rfl)) ?_
    refine Ys.at (t := 21) (v0 := Value.int .u32 ((rf : Nat) : Int)) (lz (g := (((ty.toNat : Nat) : Int) == ((tz.toNat : Nat) : Int)) && (((co.toNat : Nat) : Int) == ((cp.toNat : Nat) : Int))) (u := undef) hg13 (by kernel_rfl)) ?_
    exact Ys.pure (fun _ => by kernel_rfl)
  refine Wl.ys (v := Value.bool (((((ty.toNat : Nat) : Int) == ((tz.toNat : Nat) : Int)) && (((co.toNat : Nat) : Int) == ((cp.toNat : Nat) : Int))) && (((re : Nat) : Int) == ((rf : Nat) : Int)))) rfl rfl (Ys.and (e := (((ty.toNat : Nat) : Int) == ((tz.toNat : Nat) : Int)) && (((co.toNat : Nat) : Int) == ((cp.toNat : Nat) : Int))) (b := ((re : Nat) : Int) == ((rf : Nat) : Int)) rfl (by kernel_rfl) (by kernel_rfl) (by kernel_rfl)) ?_
  refine Wl.run 1 (by kernel_rfl) ?_
  refine Wl.guard (v := Value.pointer (some ⟨p2, 3, none⟩)) (((((ty.toNat : Nat) : Int) == ((tz.toNat : Nat) : Int)) && (((co.toNat : Nat) : Int) == ((cp.toNat : Nat) : Int))) && (((re : Nat) : Int) == ((rf : Nat) : Int))) rfl (wantT rfl (by kernel_rfl)) rfl (fun hg14 => ?_) ?_
  · have qhg14 := hg14; try simp only [Bool.and_eq_true, Bool.or_eq_true, Bool.not_eq_true', Bool.not_eq_false', Bool.and_eq_false_iff, Bool.or_eq_false_iff, decide_eq_true_eq, decide_eq_false_iff_not, beq_iff_eq, bne_iff_ne, beq_eq_false_iff_ne, bne_eq_false_iff_eq] at qhg14
    exact Ys.pure (fun _ => by kernel_rfl)
  refine Wl.guard (v := Value.slice a xs.length cap) (((((ty.toNat : Nat) : Int) == ((tz.toNat : Nat) : Int)) && (((co.toNat : Nat) : Int) == ((cp.toNat : Nat) : Int))) && (((re : Nat) : Int) == ((rf : Nat) : Int))) rfl (wantT rfl (by kernel_rfl)) rfl (fun hg15 => ?_) ?_
  · have qhg15 := hg15; try simp only [Bool.and_eq_true, Bool.or_eq_true, Bool.not_eq_true', Bool.not_eq_false', Bool.and_eq_false_iff, Bool.or_eq_false_iff, decide_eq_true_eq, decide_eq_false_iff_not, beq_iff_eq, bne_iff_ne, beq_eq_false_iff_ne, bne_eq_false_iff_eq] at qhg15
    refine Ys.at (t := 25) (v0 := Value.pointer (some ⟨p2, 3, none⟩)) (lz (g := ((((ty.toNat : Nat) : Int) == ((tz.toNat : Nat) : Int)) && (((co.toNat : Nat) : Int) == ((cp.toNat : Nat) : Int))) && (((re : Nat) : Int) == ((rf : Nat) : Int))) (u := undef) hg15 (by kernel_rfl)) ?_
    exact Ys.load (b := p2) (o' := 3) (i := 1) (j := 0) (cs := [Value.int .u8 ((ty.toNat : Nat) : Int), Value.int .u8 ((co.toNat : Nat) : Int), Value.int .u32 ((re : Nat) : Int), Value.slice a xs.length cap]) (v := Value.slice a xs.length cap) rfl (by kernel_rfl) Try.isAgg26 rfl rfl rfl
  refine Wl.guard (v := Value.string (bstr xs)) (((((ty.toNat : Nat) : Int) == ((tz.toNat : Nat) : Int)) && (((co.toNat : Nat) : Int) == ((cp.toNat : Nat) : Int))) && (((re : Nat) : Int) == ((rf : Nat) : Int))) rfl (wantT rfl (by kernel_rfl)) rfl (fun hg16 => ?_) ?_
  · have qhg16 := hg16; try simp only [Bool.and_eq_true, Bool.or_eq_true, Bool.not_eq_true', Bool.not_eq_false', Bool.and_eq_false_iff, Bool.or_eq_false_iff, decide_eq_true_eq, decide_eq_false_iff_not, beq_iff_eq, bne_iff_ne, beq_eq_false_iff_ne, bne_eq_false_iff_eq] at qhg16
    refine Ys.at (t := 26) (v0 := Value.slice a xs.length cap) (lz (g := ((((ty.toNat : Nat) : Int) == ((tz.toNat : Nat) : Int)) && (((co.toNat : Nat) : Int) == ((cp.toNat : Nat) : Int))) && (((re : Nat) : Int) == ((rf : Nat) : Int))) (u := undef) hg16 (by kernel_rfl)) ?_
    exact Ys.bytesStr (a := a) (len := xs.length) (cap := cap) (xs := xs) (e := 5) rfl (by kernel_rfl) (by kernel_rfl) (by kernel_rfl) (by kernel_rfl) (rfl) (fun w_ h_ => (hat.mem0 h_))
  refine Wl.guard (v := Value.pointer (some ⟨p3, 3, none⟩)) (((((ty.toNat : Nat) : Int) == ((tz.toNat : Nat) : Int)) && (((co.toNat : Nat) : Int) == ((cp.toNat : Nat) : Int))) && (((re : Nat) : Int) == ((rf : Nat) : Int))) rfl (wantT rfl (by kernel_rfl)) rfl (fun hg17 => ?_) ?_
  · have qhg17 := hg17; try simp only [Bool.and_eq_true, Bool.or_eq_true, Bool.not_eq_true', Bool.not_eq_false', Bool.and_eq_false_iff, Bool.or_eq_false_iff, decide_eq_true_eq, decide_eq_false_iff_not, beq_iff_eq, bne_iff_ne, beq_eq_false_iff_ne, bne_eq_false_iff_eq] at qhg17
    exact Ys.pure (fun _ => by kernel_rfl)
  refine Wl.guard (v := Value.slice c ys.length dap) (((((ty.toNat : Nat) : Int) == ((tz.toNat : Nat) : Int)) && (((co.toNat : Nat) : Int) == ((cp.toNat : Nat) : Int))) && (((re : Nat) : Int) == ((rf : Nat) : Int))) rfl (wantT rfl (by kernel_rfl)) rfl (fun hg18 => ?_) ?_
  · have qhg18 := hg18; try simp only [Bool.and_eq_true, Bool.or_eq_true, Bool.not_eq_true', Bool.not_eq_false', Bool.and_eq_false_iff, Bool.or_eq_false_iff, decide_eq_true_eq, decide_eq_false_iff_not, beq_iff_eq, bne_iff_ne, beq_eq_false_iff_ne, bne_eq_false_iff_eq] at qhg18
    refine Ys.at (t := 28) (v0 := Value.pointer (some ⟨p3, 3, none⟩)) (lz (g := ((((ty.toNat : Nat) : Int) == ((tz.toNat : Nat) : Int)) && (((co.toNat : Nat) : Int) == ((cp.toNat : Nat) : Int))) && (((re : Nat) : Int) == ((rf : Nat) : Int))) (u := undef) hg18 (by kernel_rfl)) ?_
    exact Ys.load (b := p3) (o' := 3) (i := 0) (j := 0) (cs := [Value.int .u8 ((tz.toNat : Nat) : Int), Value.int .u8 ((cp.toNat : Nat) : Int), Value.int .u32 ((rf : Nat) : Int), Value.slice c ys.length dap]) (v := Value.slice c ys.length dap) rfl (by kernel_rfl) Try.isAgg26 rfl rfl rfl
  refine Wl.guard (v := Value.string (bstr ys)) (((((ty.toNat : Nat) : Int) == ((tz.toNat : Nat) : Int)) && (((co.toNat : Nat) : Int) == ((cp.toNat : Nat) : Int))) && (((re : Nat) : Int) == ((rf : Nat) : Int))) rfl (wantT rfl (by kernel_rfl)) rfl (fun hg19 => ?_) ?_
  · have qhg19 := hg19; try simp only [Bool.and_eq_true, Bool.or_eq_true, Bool.not_eq_true', Bool.not_eq_false', Bool.and_eq_false_iff, Bool.or_eq_false_iff, decide_eq_true_eq, decide_eq_false_iff_not, beq_iff_eq, bne_iff_ne, beq_eq_false_iff_ne, bne_eq_false_iff_eq] at qhg19
    refine Ys.at (t := 29) (v0 := Value.slice c ys.length dap) (lz (g := ((((ty.toNat : Nat) : Int) == ((tz.toNat : Nat) : Int)) && (((co.toNat : Nat) : Int) == ((cp.toNat : Nat) : Int))) && (((re : Nat) : Int) == ((rf : Nat) : Int))) (u := undef) hg19 (by kernel_rfl)) ?_
    exact Ys.bytesStr (a := c) (len := ys.length) (cap := dap) (xs := ys) (e := 5) rfl (by kernel_rfl) (by kernel_rfl) (by kernel_rfl) (by kernel_rfl) (rfl) (fun w_ h_ => (hct.mem0 h_))
  refine Wl.guard (v := Value.bool (xs == ys)) (((((ty.toNat : Nat) : Int) == ((tz.toNat : Nat) : Int)) && (((co.toNat : Nat) : Int) == ((cp.toNat : Nat) : Int))) && (((re : Nat) : Int) == ((rf : Nat) : Int))) rfl (wantT rfl (by kernel_rfl)) rfl (fun hg20 => ?_) ?_
  · have qhg20 := hg20; try simp only [Bool.and_eq_true, Bool.or_eq_true, Bool.not_eq_true', Bool.not_eq_false', Bool.and_eq_false_iff, Bool.or_eq_false_iff, decide_eq_true_eq, decide_eq_false_iff_not, beq_iff_eq, bne_iff_ne, beq_eq_false_iff_ne, bne_eq_false_iff_eq] at qhg20
    refine Ys.at (t := 27) (v0 := Value.string (bstr xs)) (lz (g := ((((ty.toNat : Nat) : Int) == ((tz.toNat : Nat) : Int)) && (((co.toNat : Nat) : Int) == ((cp.toNat : Nat) : Int))) && (((re : Nat) : Int) == ((rf : Nat) : Int))) (u := undef) hg20 (by kernel_rfl)) ?_
    refine Ys.at (t := 30) (v0 := Value.string (bstr ys)) (lz (g := ((((ty.toNat : Nat) : Int) == ((tz.toNat : Nat) : Int)) && (((co.toNat : Nat) : Int) == ((cp.toNat : Nat) : Int))) && (((re : Nat) : Int) == ((rf : Nat) : Int))) (u := undef) hg20 (by kernel_rfl)) ?_
    exact (Ys.pure (v := .bool ((bstr xs).toList == (bstr ys).toList)) (fun _ => by kernel_rfl)).conseq (bool_congr ((bstr_eq _ _)))
  refine Wl.ys (v := Value.bool ((((((ty.toNat : Nat) : Int) == ((tz.toNat : Nat) : Int)) && (((co.toNat : Nat) : Int) == ((cp.toNat : Nat) : Int))) && (((re : Nat) : Int) == ((rf : Nat) : Int))) && (xs == ys))) rfl rfl (Ys.and (e := ((((ty.toNat : Nat) : Int) == ((tz.toNat : Nat) : Int)) && (((co.toNat : Nat) : Int) == ((cp.toNat : Nat) : Int))) && (((re : Nat) : Int) == ((rf : Nat) : Int))) (b := xs == ys) rfl (by kernel_rfl) (by kernel_rfl) (by kernel_rfl)) ?_
  refine Wl.run 1 (by kernel_rfl) ?_
  refine Wl.nil ?_
  refine hK3 _ _ _ ?_
  refine W.pick (LL' := []) [] (by decide) rfl ?_
  refine W.prune' [4] [Value.bool ((((((ty.toNat : Nat) : Int) == ((tz.toNat : Nat) : Int)) && (((co.toNat : Nat) : Int) == ((cp.toNat : Nat) : Int))) && (((re : Nat) : Int) == ((rf : Nat) : Int))) && (xs == ys))] (by kernel_rfl) (fun f21 => ?_)
  refine W.ret ?_
  show ∀ w_, _ → bodyPostM (fence none) 0 Try.prog Try.f21 _ Exit.ret _ w_
  exact fun w_ hS_ => fin_ret (ret1 rfl (RV.tmp (v := Value.bool ((((((ty.toNat : Nat) : Int) == ((tz.toNat : Nat) : Int)) && (((co.toNat : Nat) : Int) == ((cp.toNat : Nat) : Int))) && (((re : Nat) : Int) == ((rf : Nat) : Int))) && (xs == ys))) (by kernel_rfl)) hS_ ⟨rfl, hS_.below⟩)

theorem samemsgn_c (ty co tz cp : UInt8) (re rf : Nat) (xs ys : List UInt8) (a c : Option Addr) (cap dap : Nat) (len len2 : Nat) (w : World) (hn : len = xs.length) (hn2 : len2 = ys.length) (hat : At w a (byc xs)) (hct : At w c (byc ys)) : Calls Try.prog 21 #[Value.agg ([Value.int .u8 ((ty.toNat : Nat) : Int), Value.int .u8 ((co.toNat : Nat) : Int), Value.int .u32 ((re : Nat) : Int), Value.slice a len cap]).toArray, Value.agg ([Value.int .u8 ((tz.toNat : Nat) : Int), Value.int .u8 ((cp.toNat : Nat) : Int), Value.int .u32 ((rf : Nat) : Int), Value.slice c len2 dap]).toArray] w (Ret w (.bool (((((ty.toNat : Nat) : Int) == ((tz.toNat : Nat) : Int) && ((co.toNat : Nat) : Int) == ((cp.toNat : Nat) : Int)) && (((re : Nat) : Int) == ((rf : Nat) : Int))) && (xs == ys)))) := by
  subst hn; subst hn2; exact samemsg_c ty co tz cp re rf xs ys a c cap dap w hat hct

theorem wicmpn_c (ty co : UInt8) (re : Nat) (xs : List UInt8) (a : Option Addr) (cap : Nat) (len : Nat) (w : World) (hn : len = xs.length) (hat : At w a (byc xs)) (hr : re < 4294967296) (hl : xs.length ≤ 100000) (hlc : xs.length ≤ cap)  : Calls Try.prog 19 #[Value.agg ([Value.int .u8 ((ty.toNat : Nat) : Int), Value.int .u8 ((co.toNat : Nat) : Int), Value.int .u32 ((re : Nat) : Int), Value.slice a len cap]).toArray] w (RetM w (fun g : FS => g.ok 1 (mB ty co re xs).length) (fun g => .tuple #[.slice g.a (mB ty co re xs).length g.cap, .int .i64 (uE xs.length)]) [] (fun g => [g.seg 5 (byc (mB ty co re xs))])) := by
  subst hn; exact wicmp_c ty co re xs a cap w hat hr hl hlc

theorem rwicmpn_c (ty co : UInt8) (re : Nat) (xs : List UInt8) (a : Option Addr) (cap : Nat) (len : Nat) (w : World) (hn : len = xs.length) (hat : At w a (byc xs)) (hr : re < 4294967296) (hl : xs.length ≤ 9223372036854775807) (hlc : xs.length ≤ cap)  : Calls Try.prog 20 #[Value.agg ([Value.int .u8 ((ty.toNat : Nat) : Int), Value.int .u8 ((co.toNat : Nat) : Int), Value.int .u32 ((re : Nat) : Int), Value.slice a len cap]).toArray] w (RetM w (fun g : FS => g.ok 1 (mB ty co re xs).length) (fun g => .tuple #[.slice g.a (mB ty co re xs).length g.cap, .int .i64 (uE xs.length)]) [] (fun g => [g.seg 5 (byc (mB ty co re xs))])) := by
  subst hn; exact rwicmp_c ty co re xs a cap w hat hr hl hlc

theorem ricmpn_c (xs : List UInt8) (a : Option Addr) (cap : Nat) (len : Nat) (w : World) (hn : len = xs.length) (hat : At w a (byc xs)) (hl : len ≤ 100000) (hlc : len ≤ cap) : Calls Try.prog 22 #[.slice a len cap] w (RetM w (fun g : FS => g.ok 1 (mD xs).length) (fun g => .tuple #[.agg [.int .u8 (((mT xs 0).toNat : Nat) : Int), .int .u8 (((mT xs 1).toNat : Nat) : Int), .int .u32 ((mN xs : Nat) : Int), .slice g.a (mD xs).length g.cap].toArray, .int .i64 (mR xs)]) [] (fun g => [g.seg 5 (byc (mD xs))])) := by
  subst hn; exact ricmp_c xs a cap w hat hl hlc

theorem rricmpn_c (xs : List UInt8) (a : Option Addr) (cap : Nat) (len : Nat) (w : World) (hn : len = xs.length) (hat : At w a (byc xs)) (hl : len ≤ 100000) (hlc : len ≤ cap) : Calls Try.prog 31 #[.slice a len cap] w (RetM w (fun g : FS => g.ok 1 (mD xs).length) (fun g => .tuple #[.agg [.int .u8 (((mT xs 0).toNat : Nat) : Int), .int .u8 (((mT xs 1).toNat : Nat) : Int), .int .u32 ((mN xs : Nat) : Int), .slice g.a (mD xs).length g.cap].toArray, .int .i64 (mR xs)]) [] (fun g => [g.seg 5 (byc (mD xs))])) := by
  subst hn; exact rricmp_c xs a cap w hat hl hlc

theorem bv_be4 {re : Nat} (h : re < 4294967296) : bv (be 4 re) = re := by rw [bv_be]; exact Nat.mod_eq_of_lt h
theorem msg_back {ty co : UInt8} {re : Nat} {xs : List UInt8} (hr : re < 4294967296) (h1 : uE xs.length = 0) : mR (mB ty co re xs) = 0 ∧ mT (mB ty co re xs) 0 = ty ∧ mT (mB ty co re xs) 1 = co ∧ mN (mB ty co re xs) = re ∧ mD (mB ty co re xs) = xs := by
  have hx : ¬ 1472 < xs.length := by
    unfold uE at h1; split at h1
    · cases h1
    · assumption
  have h0 := mX_zero ty co re xs
  have hB : mB ty co re xs = mX ty co re (mC ty co re xs) xs := by unfold mB; rw [if_neg hx]
  rw [hB]
  obtain ⟨m, hm⟩ : ∃ m, m = mC ty co re xs := ⟨_, rfl⟩
  rw [← hm] at h0 ⊢
  have hl := mX_len ty co re m xs
  have hR : mR (mX ty co re m xs) = 0 := by unfold mR; rw [if_neg (by omega), if_neg (by omega), if_neg (by simp [h0])]
  have hG : mg (mX ty co re m xs) = true := by unfold mg; rw [hR]; rfl
  refine ⟨hR, ?_, ?_, ?_, ?_⟩
  · unfold mT; rw [hG]; rfl
  · unfold mT; rw [hG]; rfl
  · unfold mN; rw [hG]; simp only [cond_true]
    have e : ((mX ty co re m xs).drop 4).take 4 = be 4 re := rfl
    rw [e]; exact bv_be4 hr
  · unfold mD; rw [hG]; rfl
theorem messages_c (ty co : UInt8) (re : Nat) (xs : List UInt8) (a : Option Addr) (cap : Nat) (w : World) (hat : At w a (byc xs)) (hr : re < 4294967296) (hxc : xs.length ≤ cap) (hxl : xs.length ≤ 9223372036854775807) : Calls Try.prog 5 #[Value.agg ([Value.int .u8 ((ty.toNat : Nat) : Int), Value.int .u8 ((co.toNat : Nat) : Int), Value.int .u32 ((re : Nat) : Int), Value.slice a xs.length cap]).toArray] w (Ret w (.bool true)) := by
  refine calls_W (M := []) (LL := []) (n := 62) Try.func5 rfl rfl (by simp) (Mem.refl _) ?_
  refine W.seq (fun K1 hK1 => ?_)
  refine W.region ?_
  refine Wl.ht rfl (Ht.box (v := Value.agg ([Value.int .u8 ((ty.toNat : Nat) : Int), Value.int .u8 ((co.toNat : Nat) : Int), Value.int .u32 ((re : Nat) : Int), Value.slice a xs.length cap]).toArray) (cs := [Value.int .u8 ((ty.toNat : Nat) : Int), Value.int .u8 ((co.toNat : Nat) : Int), Value.int .u32 ((re : Nat) : Int), Value.slice a xs.length cap]) rfl rfl (by kernel_rfl) rfl) (fun p1 => ?_)
  refine Wl.run 1 (by kernel_rfl) ?_
  refine Wl.nil ?_
  refine hK1 _ _ _ ?_
  refine W.prune' [1] [Value.pointer (some ⟨p1, 0, none⟩)] (by kernel_rfl) (fun f2 => ?_)
  refine W.seq (fun K3 hK3 => ?_)
  refine W.seq (fun K4 hK4 => ?_)
  refine W.region ?_
  refine Wl.yc (v := Value.bool true) rfl rfl (Yc.call (k := 13) (args := #[]) (fun _ => by kernel_rfl) (fun w_ hm_ => (speaks5_c _))) ?_
  refine Wl.run 1 (by kernel_rfl) ?_
  refine Wl.nil ?_
  refine hK4 _ _ _ ?_
  refine W.prune' [1, 11] [Value.pointer (some ⟨p1, 0, none⟩), Value.bool false] (by kernel_rfl) (fun f5 => ?_)
  refine W.condF (by kernel_rfl) ?_
  refine W.skip' ?_
  refine hK3 _ _ _ ?_
  refine W.prune' [1] [Value.pointer (some ⟨p1, 0, none⟩)] (by kernel_rfl) (fun f6 => ?_)
  refine W.seq (fun K7 hK7 => ?_)
  refine W.seq (fun K8 hK8 => ?_)
  refine W.region ?_
  refine Wl.run 1 (by kernel_rfl) ?_
  refine Wl.ys (v := Value.slice a xs.length cap) rfl rfl (Ys.load (b := p1) (o' := 3) (i := 0) (j := 0) (cs := [Value.int .u8 ((ty.toNat : Nat) : Int), Value.int .u8 ((co.toNat : Nat) : Int), Value.int .u32 ((re : Nat) : Int), Value.slice a xs.length cap]) (v := Value.slice a xs.length cap) rfl (by kernel_rfl) Try.isAgg26 rfl rfl rfl) ?_
  refine Wl.run 2 (by kernel_rfl) ?_
  refine Wl.nil ?_
  refine hK8 _ _ _ ?_
  refine W.prune' [1, 15] [Value.pointer (some ⟨p1, 0, none⟩), Value.bool (decide (((xs.length : Nat) : Int) > 3000))] (by kernel_rfl) (fun f9 => ?_)
  refine W.cond (decide (((xs.length : Nat) : Int) > 3000)) (by kernel_rfl) (fun h10 => ?_) (fun h11 => ?_)
  · have qh10 := h10; try simp only [Bool.and_eq_true, Bool.or_eq_true, Bool.not_eq_true', Bool.not_eq_false', Bool.and_eq_false_iff, Bool.or_eq_false_iff, decide_eq_true_eq, decide_eq_false_iff_not, beq_iff_eq, bne_iff_ne, beq_eq_false_iff_ne, bne_eq_false_iff_eq] at qh10
    refine W.seq (fun K12 hK12 => ?_)
    refine W.region ?_
    refine Wl.run 1 (by kernel_rfl) ?_
    refine Wl.nil ?_
    refine hK12 _ _ _ ?_
    refine W.ret ?_
    show ∀ w_, _ → bodyPostM (fence none) 0 Try.prog Try.f5 _ Exit.ret _ w_
    exact fun w_ hS_ => fin_ret (ret1 rfl (RV.tmp (v := Value.bool true) (by kernel_rfl)) hS_ ⟨rfl, hS_.below⟩)
  · have qh11 := h11; try simp only [Bool.and_eq_true, Bool.or_eq_true, Bool.not_eq_true', Bool.not_eq_false', Bool.and_eq_false_iff, Bool.or_eq_false_iff, decide_eq_true_eq, decide_eq_false_iff_not, beq_iff_eq, bne_iff_ne, beq_eq_false_iff_ne, bne_eq_false_iff_eq] at qh11
    refine W.skip' ?_
    refine hK7 _ _ _ ?_
    refine W.prune' [1] [Value.pointer (some ⟨p1, 0, none⟩)] (by kernel_rfl) (fun f13 => ?_)
    refine W.seq (fun K14 hK14 => ?_)
    refine W.region ?_
    refine Wl.ys (v := Value.agg ([Value.int .u8 ((ty.toNat : Nat) : Int), Value.int .u8 ((co.toNat : Nat) : Int), Value.int .u32 ((re : Nat) : Int), Value.slice a xs.length cap]).toArray) rfl rfl (Ys.loadN (b := p1) (o' := 0) (i := 0) (j := 0) (cs := [Value.int .u8 ((ty.toNat : Nat) : Int), Value.int .u8 ((co.toNat : Nat) : Int), Value.int .u32 ((re : Nat) : Int), Value.slice a xs.length cap]) (vs := [Value.int .u8 ((ty.toNat : Nat) : Int), Value.int .u8 ((co.toNat : Nat) : Int), Value.int .u32 ((re : Nat) : Int), Value.slice a xs.length cap]) rfl (by kernel_rfl) Try.isAgg44 Try.sizeOf44 rfl rfl rfl rfl) ?_
    refine Wl.ht rfl (Ht.alloc (z := Value.agg ([Value.int .u8 0, Value.int .u8 0, Value.int .u32 0, Value.slice none 0 0]).toArray) (cs := [Value.int .u8 0, Value.int .u8 0, Value.int .u32 0, Value.slice none 0 0]) rfl rfl Try.zeroValue44 rfl) (fun p3 => ?_)
    refine Wl.ht rfl (Ht.storeN (b := p3) (o' := 0) (i := 0) (j := 0) (cs := [Value.int .u8 0, Value.int .u8 0, Value.int .u32 0, Value.slice none 0 0]) (vs := [Value.int .u8 ((ty.toNat : Nat) : Int), Value.int .u8 ((co.toNat : Nat) : Int), Value.int .u32 ((re : Nat) : Int), Value.slice a xs.length cap]) (cs' := [Value.int .u8 ((ty.toNat : Nat) : Int), Value.int .u8 ((co.toNat : Nat) : Int), Value.int .u32 ((re : Nat) : Int), Value.slice a xs.length cap]) (LL' := [[cb p3 [Value.int .u8 ((ty.toNat : Nat) : Int), Value.int .u8 ((co.toNat : Nat) : Int), Value.int .u32 ((re : Nat) : Int), Value.slice a xs.length cap] 44], [cb p1 [Value.int .u8 ((ty.toNat : Nat) : Int), Value.int .u8 ((co.toNat : Nat) : Int), Value.int .u32 ((re : Nat) : Int), Value.slice a xs.length cap] 44]]) rfl rfl (by kernel_rfl) (by kernel_rfl) Try.sizeOf44 (by simp [Value.oneCell']) rfl rfl (by simp) rfl rfl) (fun _ => ?_)
    refine Wl.nil ?_
    refine hK14 _ _ _ ?_
    refine W.prune' [1, 3] [Value.pointer (some ⟨p1, 0, none⟩), Value.pointer (some ⟨p3, 0, none⟩)] (by kernel_rfl) (fun f15 => ?_)
    refine W.seq (fun K16 hK16 => ?_)
    refine W.region ?_
    refine Wl.ht rfl (Ht.made (mk := fun b_ => .slice (some ⟨b_, 0, none⟩) 0 0) (t := 5) (cs := []) rfl (fun _ => by kernel_rfl)) (fun p17 => ?_)
    refine Wl.run 1 (by kernel_rfl) ?_
    refine Wl.ys (v := Value.slice a xs.length cap) rfl rfl (Ys.load (b := p1) (o' := 3) (i := 2) (j := 0) (cs := [Value.int .u8 ((ty.toNat : Nat) : Int), Value.int .u8 ((co.toNat : Nat) : Int), Value.int .u32 ((re : Nat) : Int), Value.slice a xs.length cap]) (v := Value.slice a xs.length cap) rfl (by kernel_rfl) Try.isAgg26 rfl rfl rfl) ?_
    refine Wl.ht rfl (Ht.append (eu := 5) (xv := Value.slice a xs.length cap) (i := 0) (g := (FS.mk false p17 0 [])) (e := 5) (ii := (Try.prog.info? 5).getD default) (z := Value.int .u8 0) (sz := 1) (bytes := 1) (nn := 0) (m := xs.length) (k := xs.length) (xs := mc b8 []) (news := mc b8 xs) (cs' := mc b8 xs) (Lo := fun g17 => [g17.seg 5 (mc b8 xs), [cb p3 [Value.int .u8 ((ty.toNat : Nat) : Int), Value.int .u8 ((co.toNat : Nat) : Int), Value.int .u32 ((re : Nat) : Int), Value.slice a xs.length cap] 44], [cb p1 [Value.int .u8 ((ty.toNat : Nat) : Int), Value.int .u8 ((co.toNat : Nat) : Int), Value.int .u32 ((re : Nat) : Int), Value.slice a xs.length cap] 44]]) rfl rfl (by kernel_rfl) (by kernel_rfl) (by kernel_rfl) (by kernel_rfl) (by kernel_rfl) (by kernel_rfl) (by kernel_rfl) (by kernel_rfl) (by kernel_rfl) rfl (FS.lit_ok (by decide)) (by first | rfl | simp [mc, be_len, psh_len]) (fun _ => rfl) (Src.at (a := a) (mc_len1 _) (fun w_ h_ => (hat.mem0 h_))) (mc_len1 _) (mc_one (fun _ => rfl) _) (by first | omega | (simp; done) | (simp; omega)) (by simp only [maxLen]; first | omega | (simp; done) | (simp; omega)) (by first | omega | (simp; done) | (simp; omega)) rfl (fun _ => rfl)) (fun x21 => ?_)
    obtain ⟨g17, ok18, hn19, hn20⟩ := x21
    refine Wl.castL (LL' := [g17.seg 5 (mc b8 xs), [cb p3 [Value.int .u8 ((ty.toNat : Nat) : Int), Value.int .u8 ((co.toNat : Nat) : Int), Value.int .u32 ((re : Nat) : Int), Value.slice a xs.length cap] 44], [cb p1 [Value.int .u8 ((ty.toNat : Nat) : Int), Value.int .u8 ((co.toNat : Nat) : Int), Value.int .u32 ((re : Nat) : Int), Value.slice a xs.length cap] 44]]) rfl ?_
    refine Wl.run 1 (by kernel_rfl) ?_
    refine Wl.ht rfl (Ht.store (b := p3) (o' := 3) (i := 1) (j := 0) (cs := [Value.int .u8 ((ty.toNat : Nat) : Int), Value.int .u8 ((co.toNat : Nat) : Int), Value.int .u32 ((re : Nat) : Int), Value.slice a xs.length cap]) (cs' := [Value.int .u8 ((ty.toNat : Nat) : Int), Value.int .u8 ((co.toNat : Nat) : Int), Value.int .u32 ((re : Nat) : Int), Value.slice g17.a xs.length g17.cap]) (v := Value.slice g17.a xs.length g17.cap) (LL' := [g17.seg 5 (mc b8 xs), [cb p3 [Value.int .u8 ((ty.toNat : Nat) : Int), Value.int .u8 ((co.toNat : Nat) : Int), Value.int .u32 ((re : Nat) : Int), Value.slice g17.a xs.length g17.cap] 44], [cb p1 [Value.int .u8 ((ty.toNat : Nat) : Int), Value.int .u8 ((co.toNat : Nat) : Int), Value.int .u32 ((re : Nat) : Int), Value.slice a xs.length cap] 44]]) rfl rfl (by kernel_rfl) (by kernel_rfl) Try.sizeOf26 rfl rfl rfl (by simp) rfl rfl) (fun _ => ?_)
    refine Wl.nil ?_
    refine hK16 _ _ _ ?_
    refine W.prune' [1, 3] [Value.pointer (some ⟨p1, 0, none⟩), Value.pointer (some ⟨p3, 0, none⟩)] (by kernel_rfl) (fun f22 => ?_)
    refine W.seq (fun K23 hK23 => ?_)
    refine W.region ?_
    refine Wl.ys (v := Value.agg ([Value.int .u8 ((ty.toNat : Nat) : Int), Value.int .u8 ((co.toNat : Nat) : Int), Value.int .u32 ((re : Nat) : Int), Value.slice g17.a xs.length g17.cap]).toArray) rfl rfl (Ys.loadN (b := p3) (o' := 0) (i := 1) (j := 0) (cs := [Value.int .u8 ((ty.toNat : Nat) : Int), Value.int .u8 ((co.toNat : Nat) : Int), Value.int .u32 ((re : Nat) : Int), Value.slice g17.a xs.length g17.cap]) (vs := [Value.int .u8 ((ty.toNat : Nat) : Int), Value.int .u8 ((co.toNat : Nat) : Int), Value.int .u32 ((re : Nat) : Int), Value.slice g17.a xs.length g17.cap]) rfl (by kernel_rfl) Try.isAgg44 Try.sizeOf44 rfl rfl rfl rfl) ?_
    have hl27 := mB_le ty co re xs
    refine Wl.ht rfl (Ht.call (β := FS) (k := 19) (args := #[Value.agg ([Value.int .u8 ((ty.toNat : Nat) : Int), Value.int .u8 ((co.toNat : Nat) : Int), Value.int .u32 ((re : Nat) : Int), Value.slice g17.a xs.length g17.cap]).toArray]) (Lin := []) (Lk := [g17.seg 5 (mc b8 xs), [cb p3 [Value.int .u8 ((ty.toNat : Nat) : Int), Value.int .u8 ((co.toNat : Nat) : Int), Value.int .u32 ((re : Nat) : Int), Value.slice g17.a xs.length g17.cap] 44], [cb p1 [Value.int .u8 ((ty.toNat : Nat) : Int), Value.int .u8 ((co.toNat : Nat) : Int), Value.int .u32 ((re : Nat) : Int), Value.slice a xs.length cap] 44]]) (Mi := []) (Lo := fun g24 => [g24.seg 5 (mc b8 (mB ty co re xs)), g17.seg 5 (mc b8 xs), [cb p3 [Value.int .u8 ((ty.toNat : Nat) : Int), Value.int .u8 ((co.toNat : Nat) : Int), Value.int .u32 ((re : Nat) : Int), Value.slice g17.a xs.length g17.cap] 44], [cb p1 [Value.int .u8 ((ty.toNat : Nat) : Int), Value.int .u8 ((co.toNat : Nat) : Int), Value.int .u32 ((re : Nat) : Int), Value.slice a xs.length cap] 44]]) [] [0, 1, 2] rfl (fun _ => by kernel_rfl) (by decide) rfl rfl rfl (fun w_ hm_ hl_ => (wicmpn_c ty co re xs g17.a g17.cap xs.length _ (by first | rfl | (rw [List.length_take]; omega) | (simp; done) | (simp [be_len, be_len, psh_len]; omega)) (FS.at (i := 0) (t := 5) hm_ rfl (FS.nil_cs ok18 (mc_len1 _))) (by omega) (by first | omega | (simp; done) | (simp; omega)) (by have z_ := ok18.le; first | exact z_ | omega | (simp at z_ ⊢; omega)))) (fun _ => rfl)) (fun x26 => ?_)
    obtain ⟨g24, ok25⟩ := x26
    refine Wl.castL (LL' := [g24.seg 5 (mc b8 (mB ty co re xs)), g17.seg 5 (mc b8 xs), [cb p3 [Value.int .u8 ((ty.toNat : Nat) : Int), Value.int .u8 ((co.toNat : Nat) : Int), Value.int .u32 ((re : Nat) : Int), Value.slice g17.a xs.length g17.cap] 44], [cb p1 [Value.int .u8 ((ty.toNat : Nat) : Int), Value.int .u8 ((co.toNat : Nat) : Int), Value.int .u32 ((re : Nat) : Int), Value.slice a xs.length cap] 44]]) rfl ?_
    refine Wl.run 5 (by kernel_rfl) ?_
    refine Wl.nil ?_
    refine hK23 _ _ _ ?_
    refine W.prune' [1, 3, 4, 5] [Value.pointer (some ⟨p1, 0, none⟩), Value.pointer (some ⟨p3, 0, none⟩), Value.slice g24.a ((mB ty co re xs).length) g24.cap, Value.int .i64 (uE xs.length)] (by kernel_rfl) (fun f28 => ?_)
    refine W.seq (fun K29 hK29 => ?_)
    refine W.region ?_
    refine Wl.ys (v := Value.agg ([Value.int .u8 ((ty.toNat : Nat) : Int), Value.int .u8 ((co.toNat : Nat) : Int), Value.int .u32 ((re : Nat) : Int), Value.slice a xs.length cap]).toArray) rfl rfl (Ys.loadN (b := p1) (o' := 0) (i := 3) (j := 0) (cs := [Value.int .u8 ((ty.toNat : Nat) : Int), Value.int .u8 ((co.toNat : Nat) : Int), Value.int .u32 ((re : Nat) : Int), Value.slice a xs.length cap]) (vs := [Value.int .u8 ((ty.toNat : Nat) : Int), Value.int .u8 ((co.toNat : Nat) : Int), Value.int .u32 ((re : Nat) : Int), Value.slice a xs.length cap]) rfl (by kernel_rfl) Try.isAgg44 Try.sizeOf44 rfl rfl rfl rfl) ?_
    have hl33 := mB_le ty co re xs
    refine Wl.ht rfl (Ht.call (β := FS) (k := 20) (args := #[Value.agg ([Value.int .u8 ((ty.toNat : Nat) : Int), Value.int .u8 ((co.toNat : Nat) : Int), Value.int .u32 ((re : Nat) : Int), Value.slice a xs.length cap]).toArray]) (Lin := []) (Lk := [g24.seg 5 (mc b8 (mB ty co re xs)), g17.seg 5 (mc b8 xs), [cb p3 [Value.int .u8 ((ty.toNat : Nat) : Int), Value.int .u8 ((co.toNat : Nat) : Int), Value.int .u32 ((re : Nat) : Int), Value.slice g17.a xs.length g17.cap] 44], [cb p1 [Value.int .u8 ((ty.toNat : Nat) : Int), Value.int .u8 ((co.toNat : Nat) : Int), Value.int .u32 ((re : Nat) : Int), Value.slice a xs.length cap] 44]]) (Mi := []) (Lo := fun g30 => [g30.seg 5 (mc b8 (mB ty co re xs)), g24.seg 5 (mc b8 (mB ty co re xs)), g17.seg 5 (mc b8 xs), [cb p3 [Value.int .u8 ((ty.toNat : Nat) : Int), Value.int .u8 ((co.toNat : Nat) : Int), Value.int .u32 ((re : Nat) : Int), Value.slice g17.a xs.length g17.cap] 44], [cb p1 [Value.int .u8 ((ty.toNat : Nat) : Int), Value.int .u8 ((co.toNat : Nat) : Int), Value.int .u32 ((re : Nat) : Int), Value.slice a xs.length cap] 44]]) [] [0, 1, 2, 3] rfl (fun _ => by kernel_rfl) (by decide) rfl rfl rfl (fun w_ hm_ hl_ => (rwicmpn_c ty co re xs a cap xs.length _ (by first | rfl | (rw [List.length_take]; omega) | (simp; done) | (simp [be_len, be_len, psh_len]; omega)) (hat.mem0 hm_) (by omega) (by first | omega | (simp; done) | (simp; omega)) (by first | omega | (simp; omega)))) (fun _ => rfl)) (fun x32 => ?_)
    obtain ⟨g30, ok31⟩ := x32
    refine Wl.castL (LL' := [g30.seg 5 (mc b8 (mB ty co re xs)), g24.seg 5 (mc b8 (mB ty co re xs)), g17.seg 5 (mc b8 xs), [cb p3 [Value.int .u8 ((ty.toNat : Nat) : Int), Value.int .u8 ((co.toNat : Nat) : Int), Value.int .u32 ((re : Nat) : Int), Value.slice g17.a xs.length g17.cap] 44], [cb p1 [Value.int .u8 ((ty.toNat : Nat) : Int), Value.int .u8 ((co.toNat : Nat) : Int), Value.int .u32 ((re : Nat) : Int), Value.slice a xs.length cap] 44]]) rfl ?_
    refine Wl.run 5 (by kernel_rfl) ?_
    refine Wl.nil ?_
    refine hK29 _ _ _ ?_
    refine W.prune' [1, 3, 4, 5, 6, 7] [Value.pointer (some ⟨p1, 0, none⟩), Value.pointer (some ⟨p3, 0, none⟩), Value.slice g24.a ((mB ty co re xs).length) g24.cap, Value.int .i64 (uE xs.length), Value.slice g30.a ((mB ty co re xs).length) g30.cap, Value.int .i64 (uE xs.length)] (by kernel_rfl) (fun f34 => ?_)
    refine W.seq (fun K35 hK35 => ?_)
    refine W.seq (fun K36 hK36 => ?_)
    refine W.region ?_
    refine Wl.run 4 (by kernel_rfl) ?_
    refine Wl.guard (v := Value.slice g24.a ((mB ty co re xs).length) g24.cap) (!((uE xs.length) != (uE xs.length))) rfl (wantF rfl (by kernel_rfl)) rfl (fun hg37 => ?_) ?_
    · have qhg37 := hg37; try simp only [Bool.and_eq_true, Bool.or_eq_true, Bool.not_eq_true', Bool.not_eq_false', Bool.and_eq_false_iff, Bool.or_eq_false_iff, decide_eq_true_eq, decide_eq_false_iff_not, beq_iff_eq, bne_iff_ne, beq_eq_false_iff_ne, bne_eq_false_iff_eq] at qhg37
      exact Ys.pure (fun _ => by kernel_rfl)
    refine Wl.guard (v := Value.string (bstr (mB ty co re xs))) (!((uE xs.length) != (uE xs.length))) rfl (wantF rfl (by kernel_rfl)) rfl (fun hg38 => ?_) ?_
    · have qhg38 := hg38; try simp only [Bool.and_eq_true, Bool.or_eq_true, Bool.not_eq_true', Bool.not_eq_false', Bool.and_eq_false_iff, Bool.or_eq_false_iff, decide_eq_true_eq, decide_eq_false_iff_not, beq_iff_eq, bne_iff_ne, beq_eq_false_iff_ne, bne_eq_false_iff_eq] at qhg38
      refine Ys.at (t := 36) (v0 := Value.slice g24.a ((mB ty co re xs).length) g24.cap) (lz (g := !((uE xs.length) != (uE xs.length))) (u := undef) hg38 (by kernel_rfl)) ?_
      exact Ys.bytesStr (a := g24.a) (len := (mB ty co re xs).length) (cap := g24.cap) (xs := mB ty co re xs) (e := 5) rfl (by kernel_rfl) (by kernel_rfl) (by kernel_rfl) (by kernel_rfl) (rfl) (fun w_ h_ => (FS.at (i := 1) (t := 5) h_ rfl (FS.nil_cs ok25 (mc_len1 _))))
    refine Wl.guard (v := Value.slice g30.a ((mB ty co re xs).length) g30.cap) (!((uE xs.length) != (uE xs.length))) rfl (wantF rfl (by kernel_rfl)) rfl (fun hg39 => ?_) ?_
    · have qhg39 := hg39; try simp only [Bool.and_eq_true, Bool.or_eq_true, Bool.not_eq_true', Bool.not_eq_false', Bool.and_eq_false_iff, Bool.or_eq_false_iff, decide_eq_true_eq, decide_eq_false_iff_not, beq_iff_eq, bne_iff_ne, beq_eq_false_iff_ne, bne_eq_false_iff_eq] at qhg39
      exact Ys.pure (fun _ => by kernel_rfl)
    refine Wl.guard (v := Value.string (bstr (mB ty co re xs))) (!((uE xs.length) != (uE xs.length))) rfl (wantF rfl (by kernel_rfl)) rfl (fun hg40 => ?_) ?_
    · have qhg40 := hg40; try simp only [Bool.and_eq_true, Bool.or_eq_true, Bool.not_eq_true', Bool.not_eq_false', Bool.and_eq_false_iff, Bool.or_eq_false_iff, decide_eq_true_eq, decide_eq_false_iff_not, beq_iff_eq, bne_iff_ne, beq_eq_false_iff_ne, bne_eq_false_iff_eq] at qhg40
      refine Ys.at (t := 38) (v0 := Value.slice g30.a ((mB ty co re xs).length) g30.cap) (lz (g := !((uE xs.length) != (uE xs.length))) (u := undef) hg40 (by kernel_rfl)) ?_
      exact Ys.bytesStr (a := g30.a) (len := (mB ty co re xs).length) (cap := g30.cap) (xs := mB ty co re xs) (e := 5) rfl (by kernel_rfl) (by kernel_rfl) (by kernel_rfl) (by kernel_rfl) (rfl) (fun w_ h_ => (FS.at (i := 0) (t := 5) h_ rfl (FS.nil_cs ok31 (mc_len1 _))))
    refine Wl.guard (v := Value.bool (!((mB ty co re xs) == (mB ty co re xs)))) (!((uE xs.length) != (uE xs.length))) rfl (wantF rfl (by kernel_rfl)) rfl (fun hg41 => ?_) ?_
    · have qhg41 := hg41; try simp only [Bool.and_eq_true, Bool.or_eq_true, Bool.not_eq_true', Bool.not_eq_false', Bool.and_eq_false_iff, Bool.or_eq_false_iff, decide_eq_true_eq, decide_eq_false_iff_not, beq_iff_eq, bne_iff_ne, beq_eq_false_iff_ne, bne_eq_false_iff_eq] at qhg41
      refine Ys.at (t := 37) (v0 := Value.string (bstr (mB ty co re xs))) (lz (g := !((uE xs.length) != (uE xs.length))) (u := undef) hg41 (by kernel_rfl)) ?_
      refine Ys.at (t := 39) (v0 := Value.string (bstr (mB ty co re xs))) (lz (g := !((uE xs.length) != (uE xs.length))) (u := undef) hg41 (by kernel_rfl)) ?_
      exact (Ys.pure (v := .bool (!((bstr (mB ty co re xs)).toList == (bstr (mB ty co re xs)).toList))) (fun _ => by kernel_rfl)).conseq (bool_congr ((congrArg (! ·) (bstr_eq _ _))))
    refine Wl.ys (v := Value.bool (((uE xs.length) != (uE xs.length)) || (!((mB ty co re xs) == (mB ty co re xs))))) rfl rfl (Ys.or' (e := (uE xs.length) != (uE xs.length)) (b := !((mB ty co re xs) == (mB ty co re xs))) rfl (by kernel_rfl) (by kernel_rfl) (by kernel_rfl)) ?_
    refine Wl.run 1 (by kernel_rfl) ?_
    refine Wl.guard (v := Value.agg ([Value.int .u8 ((ty.toNat : Nat) : Int), Value.int .u8 ((co.toNat : Nat) : Int), Value.int .u32 ((re : Nat) : Int), Value.slice g17.a xs.length g17.cap]).toArray) (!(((uE xs.length) != (uE xs.length)) || (!((mB ty co re xs) == (mB ty co re xs))))) rfl (wantF rfl (by kernel_rfl)) rfl (fun hg42 => ?_) ?_
    · have qhg42 := hg42; try simp only [Bool.and_eq_true, Bool.or_eq_true, Bool.not_eq_true', Bool.not_eq_false', Bool.and_eq_false_iff, Bool.or_eq_false_iff, decide_eq_true_eq, decide_eq_false_iff_not, beq_iff_eq, bne_iff_ne, beq_eq_false_iff_ne, bne_eq_false_iff_eq] at qhg42
      exact Ys.loadN (b := p3) (o' := 0) (i := 3) (j := 0) (cs := [Value.int .u8 ((ty.toNat : Nat) : Int), Value.int .u8 ((co.toNat : Nat) : Int), Value.int .u32 ((re : Nat) : Int), Value.slice g17.a xs.length g17.cap]) (vs := [Value.int .u8 ((ty.toNat : Nat) : Int), Value.int .u8 ((co.toNat : Nat) : Int), Value.int .u32 ((re : Nat) : Int), Value.slice g17.a xs.length g17.cap]) rfl (by kernel_rfl) Try.isAgg44 Try.sizeOf44 rfl rfl rfl rfl
    refine Wl.guard (v := Value.agg ([Value.int .u8 ((ty.toNat : Nat) : Int), Value.int .u8 ((co.toNat : Nat) : Int), Value.int .u32 ((re : Nat) : Int), Value.slice a xs.length cap]).toArray) (!(((uE xs.length) != (uE xs.length)) || (!((mB ty co re xs) == (mB ty co re xs))))) rfl (wantF rfl (by kernel_rfl)) rfl (fun hg43 => ?_) ?_
    · have qhg43 := hg43; try simp only [Bool.and_eq_true, Bool.or_eq_true, Bool.not_eq_true', Bool.not_eq_false', Bool.and_eq_false_iff, Bool.or_eq_false_iff, decide_eq_true_eq, decide_eq_false_iff_not, beq_iff_eq, bne_iff_ne, beq_eq_false_iff_ne, bne_eq_false_iff_eq] at qhg43
      exact Ys.loadN (b := p1) (o' := 0) (i := 4) (j := 0) (cs := [Value.int .u8 ((ty.toNat : Nat) : Int), Value.int .u8 ((co.toNat : Nat) : Int), Value.int .u32 ((re : Nat) : Int), Value.slice a xs.length cap]) (vs := [Value.int .u8 ((ty.toNat : Nat) : Int), Value.int .u8 ((co.toNat : Nat) : Int), Value.int .u32 ((re : Nat) : Int), Value.slice a xs.length cap]) rfl (by kernel_rfl) Try.isAgg44 Try.sizeOf44 rfl rfl rfl rfl
    refine Wl.guardc (v := Value.bool ((((((ty.toNat : Nat) : Int) == ((ty.toNat : Nat) : Int)) && (((co.toNat : Nat) : Int) == ((co.toNat : Nat) : Int))) && (((re : Nat) : Int) == ((re : Nat) : Int))) && (xs == xs))) (!(((uE xs.length) != (uE xs.length)) || (!((mB ty co re xs) == (mB ty co re xs))))) rfl (wantF rfl (by kernel_rfl)) rfl (fun hg44 => ?_) ?_
    · have qhg44 := hg44; try simp only [Bool.and_eq_true, Bool.or_eq_true, Bool.not_eq_true', Bool.not_eq_false', Bool.and_eq_false_iff, Bool.or_eq_false_iff, decide_eq_true_eq, decide_eq_false_iff_not, beq_iff_eq, bne_iff_ne, beq_eq_false_iff_ne, bne_eq_false_iff_eq] at qhg44
      refine Yc.at (t := 43) (v0 := Value.agg ([Value.int .u8 ((ty.toNat : Nat) : Int), Value.int .u8 ((co.toNat : Nat) : Int), Value.int .u32 ((re : Nat) : Int), Value.slice g17.a xs.length g17.cap]).toArray) (lz (g := !(((uE xs.length) != (uE xs.length)) || (!((mB ty co re xs) == (mB ty co re xs))))) (u := undef) hg44 (by kernel_rfl)) ?_
      refine Yc.at (t := 44) (v0 := Value.agg ([Value.int .u8 ((ty.toNat : Nat) : Int), Value.int .u8 ((co.toNat : Nat) : Int), Value.int .u32 ((re : Nat) : Int), Value.slice a xs.length cap]).toArray) (lz (g := !(((uE xs.length) != (uE xs.length)) || (!((mB ty co re xs) == (mB ty co re xs))))) (u := undef) hg44 (by kernel_rfl)) ?_
      exact Yc.call (k := 21) (args := #[Value.agg ([Value.int .u8 ((ty.toNat : Nat) : Int), Value.int .u8 ((co.toNat : Nat) : Int), Value.int .u32 ((re : Nat) : Int), Value.slice g17.a xs.length g17.cap]).toArray, Value.agg ([Value.int .u8 ((ty.toNat : Nat) : Int), Value.int .u8 ((co.toNat : Nat) : Int), Value.int .u32 ((re : Nat) : Int), Value.slice a xs.length cap]).toArray]) (fun _ => by kernel_rfl) (fun w_ hm_ => (samemsgn_c ty co ty co re re xs xs g17.a a g17.cap cap xs.length xs.length _ (by first | rfl | (rw [List.length_take]; omega) | (simp; done) | (simp [be_len, be_len, psh_len]; omega)) (by first | rfl | (rw [List.length_take]; omega) | (simp; done) | (simp [be_len, be_len, psh_len]; omega)) (FS.at (i := 2) (t := 5) hm_ rfl (FS.nil_cs ok18 (mc_len1 _))) (hat.mem0 hm_)))
    refine Wl.guard (v := Value.bool (!((((((ty.toNat : Nat) : Int) == ((ty.toNat : Nat) : Int)) && (((co.toNat : Nat) : Int) == ((co.toNat : Nat) : Int))) && (((re : Nat) : Int) == ((re : Nat) : Int))) && (xs == xs)))) (!(((uE xs.length) != (uE xs.length)) || (!((mB ty co re xs) == (mB ty co re xs))))) rfl (wantF rfl (by kernel_rfl)) rfl (fun hg45 => ?_) ?_
    · have qhg45 := hg45; try simp only [Bool.and_eq_true, Bool.or_eq_true, Bool.not_eq_true', Bool.not_eq_false', Bool.and_eq_false_iff, Bool.or_eq_false_iff, decide_eq_true_eq, decide_eq_false_iff_not, beq_iff_eq, bne_iff_ne, beq_eq_false_iff_ne, bne_eq_false_iff_eq] at qhg45
      refine Ys.at (t := 45) (v0 := Value.bool ((((((ty.toNat : Nat) : Int) == ((ty.toNat : Nat) : Int)) && (((co.toNat : Nat) : Int) == ((co.toNat : Nat) : Int))) && (((re : Nat) : Int) == ((re : Nat) : Int))) && (xs == xs))) (lz (g := !(((uE xs.length) != (uE xs.length)) || (!((mB ty co re xs) == (mB ty co re xs))))) (u := undef) hg45 (by kernel_rfl)) ?_
      exact Ys.pure (fun _ => by kernel_rfl)
    refine Wl.ys (v := Value.bool ((((uE xs.length) != (uE xs.length)) || (!((mB ty co re xs) == (mB ty co re xs)))) || (!((((((ty.toNat : Nat) : Int) == ((ty.toNat : Nat) : Int)) && (((co.toNat : Nat) : Int) == ((co.toNat : Nat) : Int))) && (((re : Nat) : Int) == ((re : Nat) : Int))) && (xs == xs))))) rfl rfl (Ys.or' (e := ((uE xs.length) != (uE xs.length)) || (!((mB ty co re xs) == (mB ty co re xs)))) (b := !((((((ty.toNat : Nat) : Int) == ((ty.toNat : Nat) : Int)) && (((co.toNat : Nat) : Int) == ((co.toNat : Nat) : Int))) && (((re : Nat) : Int) == ((re : Nat) : Int))) && (xs == xs))) rfl (by kernel_rfl) (by kernel_rfl) (by kernel_rfl)) ?_
    refine Wl.nil ?_
    refine hK36 _ _ _ ?_
    refine W.pick (LL' := [g24.seg 5 (mc b8 (mB ty co re xs)), [cb p1 [Value.int .u8 ((ty.toNat : Nat) : Int), Value.int .u8 ((co.toNat : Nat) : Int), Value.int .u32 ((re : Nat) : Int), Value.slice a xs.length cap] 44]]) [1, 4] (by decide) rfl ?_
    refine W.prune' [1, 4, 5, 47] [Value.pointer (some ⟨p1, 0, none⟩), Value.slice g24.a ((mB ty co re xs).length) g24.cap, Value.int .i64 (uE xs.length), Value.bool ((((uE xs.length) != (uE xs.length)) || (!((mB ty co re xs) == (mB ty co re xs)))) || (!((((((ty.toNat : Nat) : Int) == ((ty.toNat : Nat) : Int)) && (((co.toNat : Nat) : Int) == ((co.toNat : Nat) : Int))) && (((re : Nat) : Int) == ((re : Nat) : Int))) && (xs == xs))))] (by kernel_rfl) (fun f46 => ?_)
    refine W.cond ((((uE xs.length) != (uE xs.length)) || (!((mB ty co re xs) == (mB ty co re xs)))) || (!((((((ty.toNat : Nat) : Int) == ((ty.toNat : Nat) : Int)) && (((co.toNat : Nat) : Int) == ((co.toNat : Nat) : Int))) && (((re : Nat) : Int) == ((re : Nat) : Int))) && (xs == xs)))) (by kernel_rfl) (fun h47 => ?_) (fun h48 => ?_)
    · have qh47 := h47; try simp only [Bool.and_eq_true, Bool.or_eq_true, Bool.not_eq_true', Bool.not_eq_false', Bool.and_eq_false_iff, Bool.or_eq_false_iff, decide_eq_true_eq, decide_eq_false_iff_not, beq_iff_eq, bne_iff_ne, beq_eq_false_iff_ne, bne_eq_false_iff_eq] at qh47
      (exfalso; simp at h47)
    · have qh48 := h48; try simp only [Bool.and_eq_true, Bool.or_eq_true, Bool.not_eq_true', Bool.not_eq_false', Bool.and_eq_false_iff, Bool.or_eq_false_iff, decide_eq_true_eq, decide_eq_false_iff_not, beq_iff_eq, bne_iff_ne, beq_eq_false_iff_ne, bne_eq_false_iff_eq] at qh48
      refine W.skip' ?_
      refine hK35 _ _ _ ?_
      refine W.prune' [1, 4, 5] [Value.pointer (some ⟨p1, 0, none⟩), Value.slice g24.a ((mB ty co re xs).length) g24.cap, Value.int .i64 (uE xs.length)] (by kernel_rfl) (fun f49 => ?_)
      refine W.seq (fun K50 hK50 => ?_)
      refine W.seq (fun K51 hK51 => ?_)
      refine W.region ?_
      refine Wl.run 2 (by kernel_rfl) ?_
      refine Wl.nil ?_
      refine hK51 _ _ _ ?_
      refine W.prune' [1, 4, 49] [Value.pointer (some ⟨p1, 0, none⟩), Value.slice g24.a ((mB ty co re xs).length) g24.cap, Value.bool ((uE xs.length) != 0)] (by kernel_rfl) (fun f52 => ?_)
      refine W.cond ((uE xs.length) != 0) (by kernel_rfl) (fun h53 => ?_) (fun h54 => ?_)
      · have qh53 := h53; try simp only [Bool.and_eq_true, Bool.or_eq_true, Bool.not_eq_true', Bool.not_eq_false', Bool.and_eq_false_iff, Bool.or_eq_false_iff, decide_eq_true_eq, decide_eq_false_iff_not, beq_iff_eq, bne_iff_ne, beq_eq_false_iff_ne, bne_eq_false_iff_eq] at qh53
        refine W.seq (fun K55 hK55 => ?_)
        refine W.region ?_
        refine Wl.run 1 (by kernel_rfl) ?_
        refine Wl.nil ?_
        refine hK55 _ _ _ ?_
        refine W.ret ?_
        show ∀ w_, _ → bodyPostM (fence none) 0 Try.prog Try.f5 _ Exit.ret _ w_
        exact fun w_ hS_ => fin_ret (ret1 rfl (RV.tmp (v := Value.bool true) (by kernel_rfl)) hS_ ⟨rfl, hS_.below⟩)
      · have qh54 := h54; try simp only [Bool.and_eq_true, Bool.or_eq_true, Bool.not_eq_true', Bool.not_eq_false', Bool.and_eq_false_iff, Bool.or_eq_false_iff, decide_eq_true_eq, decide_eq_false_iff_not, beq_iff_eq, bne_iff_ne, beq_eq_false_iff_ne, bne_eq_false_iff_eq] at qh54
        refine W.skip' ?_
        refine hK50 _ _ _ ?_
        refine W.prune' [1, 4] [Value.pointer (some ⟨p1, 0, none⟩), Value.slice g24.a ((mB ty co re xs).length) g24.cap] (by kernel_rfl) (fun f56 => ?_)
        refine W.seq (fun K57 hK57 => ?_)
        refine W.region ?_
        refine Wl.run 1 (by kernel_rfl) ?_
        refine Wl.ht rfl (Ht.call (β := FS) (k := 22) (args := #[Value.slice g24.a ((mB ty co re xs).length) g24.cap]) (Lin := []) (Lk := [g24.seg 5 (mc b8 (mB ty co re xs)), [cb p1 [Value.int .u8 ((ty.toNat : Nat) : Int), Value.int .u8 ((co.toNat : Nat) : Int), Value.int .u32 ((re : Nat) : Int), Value.slice a xs.length cap] 44]]) (Mi := []) (Lo := fun g58 => [g58.seg 5 (mc b8 (mD (mB ty co re xs))), g24.seg 5 (mc b8 (mB ty co re xs)), [cb p1 [Value.int .u8 ((ty.toNat : Nat) : Int), Value.int .u8 ((co.toNat : Nat) : Int), Value.int .u32 ((re : Nat) : Int), Value.slice a xs.length cap] 44]]) [] [0, 1] rfl (fun _ => by kernel_rfl) (by decide) rfl rfl rfl (fun w_ hm_ hl_ => (ricmpn_c (mB ty co re xs) g24.a g24.cap ((mB ty co re xs).length) _ (by first | rfl | (rw [List.length_take]; omega) | (simp; done) | (simp [be_len, be_len, psh_len]; omega)) (FS.at (i := 0) (t := 5) hm_ rfl (FS.nil_cs ok25 (mc_len1 _))) (by first | omega | (simp; omega)) (ok25.le))) (fun _ => rfl)) (fun x60 => ?_)
        obtain ⟨g58, ok59⟩ := x60
        refine Wl.castL (LL' := [g58.seg 5 (mc b8 (mD (mB ty co re xs))), g24.seg 5 (mc b8 (mB ty co re xs)), [cb p1 [Value.int .u8 ((ty.toNat : Nat) : Int), Value.int .u8 ((co.toNat : Nat) : Int), Value.int .u32 ((re : Nat) : Int), Value.slice a xs.length cap] 44]]) rfl ?_
        refine Wl.run 3 (by kernel_rfl) ?_
        refine Wl.ht rfl (Ht.alloc (z := Value.agg ([Value.int .u8 0, Value.int .u8 0, Value.int .u32 0, Value.slice none 0 0]).toArray) (cs := [Value.int .u8 0, Value.int .u8 0, Value.int .u32 0, Value.slice none 0 0]) rfl rfl Try.zeroValue44 rfl) (fun p8 => ?_)
        refine Wl.ht rfl (Ht.storeN (b := p8) (o' := 0) (i := 0) (j := 0) (cs := [Value.int .u8 0, Value.int .u8 0, Value.int .u32 0, Value.slice none 0 0]) (vs := [Value.int .u8 (((mT (mB ty co re xs) 0).toNat : Nat) : Int), Value.int .u8 (((mT (mB ty co re xs) 1).toNat : Nat) : Int), Value.int .u32 ((mN (mB ty co re xs) : Nat) : Int), Value.slice g58.a ((mD (mB ty co re xs)).length) g58.cap]) (cs' := [Value.int .u8 (((mT (mB ty co re xs) 0).toNat : Nat) : Int), Value.int .u8 (((mT (mB ty co re xs) 1).toNat : Nat) : Int), Value.int .u32 ((mN (mB ty co re xs) : Nat) : Int), Value.slice g58.a ((mD (mB ty co re xs)).length) g58.cap]) (LL' := [[cb p8 [Value.int .u8 (((mT (mB ty co re xs) 0).toNat : Nat) : Int), Value.int .u8 (((mT (mB ty co re xs) 1).toNat : Nat) : Int), Value.int .u32 ((mN (mB ty co re xs) : Nat) : Int), Value.slice g58.a ((mD (mB ty co re xs)).length) g58.cap] 44], g58.seg 5 (mc b8 (mD (mB ty co re xs))), g24.seg 5 (mc b8 (mB ty co re xs)), [cb p1 [Value.int .u8 ((ty.toNat : Nat) : Int), Value.int .u8 ((co.toNat : Nat) : Int), Value.int .u32 ((re : Nat) : Int), Value.slice a xs.length cap] 44]]) rfl rfl (by kernel_rfl) (by kernel_rfl) Try.sizeOf44 (by simp [Value.oneCell']) rfl rfl (by simp) rfl rfl) (fun _ => ?_)
        refine Wl.run 1 (by kernel_rfl) ?_
        refine Wl.nil ?_
        refine hK57 _ _ _ ?_
        refine W.pick (LL' := [[cb p8 [Value.int .u8 (((mT (mB ty co re xs) 0).toNat : Nat) : Int), Value.int .u8 (((mT (mB ty co re xs) 1).toNat : Nat) : Int), Value.int .u32 ((mN (mB ty co re xs) : Nat) : Int), Value.slice g58.a ((mD (mB ty co re xs)).length) g58.cap] 44], g58.seg 5 (mc b8 (mD (mB ty co re xs))), [cb p1 [Value.int .u8 ((ty.toNat : Nat) : Int), Value.int .u8 ((co.toNat : Nat) : Int), Value.int .u32 ((re : Nat) : Int), Value.slice a xs.length cap] 44]]) [0, 1, 3] (by decide) rfl ?_
        refine W.prune' [1, 8, 9] [Value.pointer (some ⟨p1, 0, none⟩), Value.pointer (some ⟨p8, 0, none⟩), Value.int .i64 (mR (mB ty co re xs))] (by kernel_rfl) (fun f61 => ?_)
        refine W.seq (fun K62 hK62 => ?_)
        refine W.region ?_
        refine Wl.run 3 (by kernel_rfl) ?_
        refine Wl.guard (v := Value.agg ([Value.int .u8 (((mT (mB ty co re xs) 0).toNat : Nat) : Int), Value.int .u8 (((mT (mB ty co re xs) 1).toNat : Nat) : Int), Value.int .u32 ((mN (mB ty co re xs) : Nat) : Int), Value.slice g58.a ((mD (mB ty co re xs)).length) g58.cap]).toArray) ((mR (mB ty co re xs)) == 0) rfl (wantT rfl (by kernel_rfl)) rfl (fun hg63 => ?_) ?_
        · have qhg63 := hg63; try simp only [Bool.and_eq_true, Bool.or_eq_true, Bool.not_eq_true', Bool.not_eq_false', Bool.and_eq_false_iff, Bool.or_eq_false_iff, decide_eq_true_eq, decide_eq_false_iff_not, beq_iff_eq, bne_iff_ne, beq_eq_false_iff_ne, bne_eq_false_iff_eq] at qhg63
          exact Ys.loadN (b := p8) (o' := 0) (i := 0) (j := 0) (cs := [Value.int .u8 (((mT (mB ty co re xs) 0).toNat : Nat) : Int), Value.int .u8 (((mT (mB ty co re xs) 1).toNat : Nat) : Int), Value.int .u32 ((mN (mB ty co re xs) : Nat) : Int), Value.slice g58.a ((mD (mB ty co re xs)).length) g58.cap]) (vs := [Value.int .u8 (((mT (mB ty co re xs) 0).toNat : Nat) : Int), Value.int .u8 (((mT (mB ty co re xs) 1).toNat : Nat) : Int), Value.int .u32 ((mN (mB ty co re xs) : Nat) : Int), Value.slice g58.a ((mD (mB ty co re xs)).length) g58.cap]) rfl (by kernel_rfl) Try.isAgg44 Try.sizeOf44 rfl rfl rfl rfl
        refine Wl.guard (v := Value.agg ([Value.int .u8 ((ty.toNat : Nat) : Int), Value.int .u8 ((co.toNat : Nat) : Int), Value.int .u32 ((re : Nat) : Int), Value.slice a xs.length cap]).toArray) ((mR (mB ty co re xs)) == 0) rfl (wantT rfl (by kernel_rfl)) rfl (fun hg64 => ?_) ?_
        · have qhg64 := hg64; try simp only [Bool.and_eq_true, Bool.or_eq_true, Bool.not_eq_true', Bool.not_eq_false', Bool.and_eq_false_iff, Bool.or_eq_false_iff, decide_eq_true_eq, decide_eq_false_iff_not, beq_iff_eq, bne_iff_ne, beq_eq_false_iff_ne, bne_eq_false_iff_eq] at qhg64
          exact Ys.loadN (b := p1) (o' := 0) (i := 2) (j := 0) (cs := [Value.int .u8 ((ty.toNat : Nat) : Int), Value.int .u8 ((co.toNat : Nat) : Int), Value.int .u32 ((re : Nat) : Int), Value.slice a xs.length cap]) (vs := [Value.int .u8 ((ty.toNat : Nat) : Int), Value.int .u8 ((co.toNat : Nat) : Int), Value.int .u32 ((re : Nat) : Int), Value.slice a xs.length cap]) rfl (by kernel_rfl) Try.isAgg44 Try.sizeOf44 rfl rfl rfl rfl
        refine Wl.guardc (v := Value.bool (((((((mT (mB ty co re xs) 0).toNat : Nat) : Int) == ((ty.toNat : Nat) : Int)) && ((((mT (mB ty co re xs) 1).toNat : Nat) : Int) == ((co.toNat : Nat) : Int))) && ((((mN (mB ty co re xs)) : Nat) : Int) == ((re : Nat) : Int))) && ((mD (mB ty co re xs)) == xs))) ((mR (mB ty co re xs)) == 0) rfl (wantT rfl (by kernel_rfl)) rfl (fun hg65 => ?_) ?_
        · have qhg65 := hg65; try simp only [Bool.and_eq_true, Bool.or_eq_true, Bool.not_eq_true', Bool.not_eq_false', Bool.and_eq_false_iff, Bool.or_eq_false_iff, decide_eq_true_eq, decide_eq_false_iff_not, beq_iff_eq, bne_iff_ne, beq_eq_false_iff_ne, bne_eq_false_iff_eq] at qhg65
          refine Yc.at (t := 58) (v0 := Value.agg ([Value.int .u8 (((mT (mB ty co re xs) 0).toNat : Nat) : Int), Value.int .u8 (((mT (mB ty co re xs) 1).toNat : Nat) : Int), Value.int .u32 ((mN (mB ty co re xs) : Nat) : Int), Value.slice g58.a ((mD (mB ty co re xs)).length) g58.cap]).toArray) (lz (g := (mR (mB ty co re xs)) == 0) (u := undef) hg65 (by kernel_rfl)) ?_
          refine Yc.at (t := 59) (v0 := Value.agg ([Value.int .u8 ((ty.toNat : Nat) : Int), Value.int .u8 ((co.toNat : Nat) : Int), Value.int .u32 ((re : Nat) : Int), Value.slice a xs.length cap]).toArray) (lz (g := (mR (mB ty co re xs)) == 0) (u := undef) hg65 (by kernel_rfl)) ?_
          exact Yc.call (k := 21) (args := #[Value.agg ([Value.int .u8 (((mT (mB ty co re xs) 0).toNat : Nat) : Int), Value.int .u8 (((mT (mB ty co re xs) 1).toNat : Nat) : Int), Value.int .u32 ((mN (mB ty co re xs) : Nat) : Int), Value.slice g58.a ((mD (mB ty co re xs)).length) g58.cap]).toArray, Value.agg ([Value.int .u8 ((ty.toNat : Nat) : Int), Value.int .u8 ((co.toNat : Nat) : Int), Value.int .u32 ((re : Nat) : Int), Value.slice a xs.length cap]).toArray]) (fun _ => by kernel_rfl) (fun w_ hm_ => (samemsgn_c (mT (mB ty co re xs) 0) (mT (mB ty co re xs) 1) ty co (mN (mB ty co re xs)) re (mD (mB ty co re xs)) xs g58.a a g58.cap cap ((mD (mB ty co re xs)).length) xs.length _ (by first | rfl | (rw [List.length_take]; omega) | (simp; done) | (simp [be_len, be_len, psh_len]; omega)) (by first | rfl | (rw [List.length_take]; omega) | (simp; done) | (simp [be_len, be_len, psh_len]; omega)) (FS.at (i := 1) (t := 5) hm_ rfl (FS.nil_cs ok59 (mc_len1 _))) (hat.mem0 hm_)))
        refine Wl.ys (v := Value.bool (((mR (mB ty co re xs)) == 0) && (((((((mT (mB ty co re xs) 0).toNat : Nat) : Int) == ((ty.toNat : Nat) : Int)) && ((((mT (mB ty co re xs) 1).toNat : Nat) : Int) == ((co.toNat : Nat) : Int))) && ((((mN (mB ty co re xs)) : Nat) : Int) == ((re : Nat) : Int))) && ((mD (mB ty co re xs)) == xs)))) rfl rfl (Ys.and (e := (mR (mB ty co re xs)) == 0) (b := ((((((mT (mB ty co re xs) 0).toNat : Nat) : Int) == ((ty.toNat : Nat) : Int)) && ((((mT (mB ty co re xs) 1).toNat : Nat) : Int) == ((co.toNat : Nat) : Int))) && ((((mN (mB ty co re xs)) : Nat) : Int) == ((re : Nat) : Int))) && ((mD (mB ty co re xs)) == xs)) rfl (by kernel_rfl) (by kernel_rfl) (by kernel_rfl)) ?_
        refine Wl.run 1 (by kernel_rfl) ?_
        refine Wl.nil ?_
        refine hK62 _ _ _ ?_
        refine W.pick (LL' := []) [] (by decide) rfl ?_
        refine W.prune' [2] [Value.bool (((mR (mB ty co re xs)) == 0) && (((((((mT (mB ty co re xs) 0).toNat : Nat) : Int) == ((ty.toNat : Nat) : Int)) && ((((mT (mB ty co re xs) 1).toNat : Nat) : Int) == ((co.toNat : Nat) : Int))) && ((((mN (mB ty co re xs)) : Nat) : Int) == ((re : Nat) : Int))) && ((mD (mB ty co re xs)) == xs)))] (by kernel_rfl) (fun f66 => ?_)
        refine W.ret ?_
        show ∀ w_, _ → bodyPostM (fence none) 0 Try.prog Try.f5 _ Exit.ret _ w_
        exact fun w_ hS_ => fin_ret (ret1 rfl (RV.tmp (v := Value.bool (((mR (mB ty co re xs)) == 0) && (((((((mT (mB ty co re xs) 0).toNat : Nat) : Int) == ((ty.toNat : Nat) : Int)) && ((((mT (mB ty co re xs) 1).toNat : Nat) : Int) == ((co.toNat : Nat) : Int))) && ((((mN (mB ty co re xs)) : Nat) : Int) == ((re : Nat) : Int))) && ((mD (mB ty co re xs)) == xs)))) (by kernel_rfl)) hS_ ⟨by clear hK1 hK3 hK4 hK7 hK8 hK14 hK16 hK23 hK29 hK35 hK36 hK50 hK51 hK57 hK62; refine congrArg Ending.returned ?_; obtain ⟨z1_, z2_, z3_, z4_, z5_⟩ := msg_back (ty := ty) (co := co) (re := re) (xs := xs) hr (by simpa using qh54); exact bool_congr (by rw [z1_, z2_, z3_, z4_, z5_]; simp), hS_.below⟩)

end Go.Proofs.Ytgohlpdgeicncaa.Oct
