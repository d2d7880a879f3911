import Derived.Test.YtejeafjkhomdoaaKFl1
import Derived.Test.YtejeafjkhomdoaaKTr10
set_option linter.unusedVariables false
set_option linter.unusedSimpArgs false
set_option maxRecDepth 20000
namespace Go.Proofs.Ytejeafjkhomdoaa.Oct
open Go.RowKit Base
attribute [local irreducible] Ys Yc Ht HtIn Wl Wd W Mem pf dpf Wa Wo
def isT (pr : UInt8) : Bool := ((pr.toNat : Nat) : Int) == 6
def isU (pr : UInt8) : Bool := ((pr.toNat : Nat) : Int) == 17
def isI (pr : UInt8) : Bool := ((pr.toNat : Nat) : Int) == 1
def ofE (pr : UInt8) (s d : Nat) (xs : List UInt8) : Int := bif isT pr then tR s d xs else bif isU pr then uR s d xs else bif isI pr then msE xs else 11
def ofZ (pr : UInt8) (s d : Nat) (xs : List UInt8) : Bool := !(ofE pr s d xs != 0)
def ofK (pr : UInt8) (s d : Nat) (xs : List UInt8) : Int := bif ofZ pr s d xs then (bif isT pr then 1 else bif isU pr then 1 else msK xs) else 0
def ofP (pr : UInt8) (s d : Nat) (xs : List UInt8) : UInt8 := bif ofZ pr s d xs then (bif isT pr then pr else bif isU pr then pr else msP pr xs) else 0
def ofS (pr : UInt8) (s d : Nat) (xs : List UInt8) : Nat := bif ofZ pr s d xs then (bif isT pr then s else bif isU pr then s else msS s 16 xs) else 0
def ofD (pr : UInt8) (s d : Nat) (xs : List UInt8) : Nat := bif ofZ pr s d xs then (bif isT pr then d else bif isU pr then d else msS d 12 xs) else 0
def ofF (pr : UInt8) (s d : Nat) (xs : List UInt8) : Nat := bif ofZ pr s d xs then (bif isT pr then tF s d xs 0 else bif isU pr then uF s d xs 0 else msF 0 xs) else 0
def ofT (pr : UInt8) (s d : Nat) (xs : List UInt8) : Nat := bif ofZ pr s d xs then (bif isT pr then tF s d xs 2 else bif isU pr then uF s d xs 2 else msT 0 xs) else 0
theorem of_c (tt pr : UInt8) (id s d : Nat) (xs : List UInt8) (a : Option Addr) (cap : Nat) (w : World) (hat : At w a (byc xs)) (hi : id < 65536) (hs : s < 4294967296) (hd : d < 4294967296) (hl : xs.length ≤ 100000) (hlc : xs.length ≤ cap) : Calls Try.prog 11 #[Value.agg ([Value.int .u8 ((tt.toNat : Nat) : Int), Value.int .u8 ((pr.toNat : Nat) : Int), Value.int .u16 ((id : Nat) : Int), Value.int .u32 ((s : Nat) : Int), Value.int .u32 ((d : Nat) : Int), Value.slice a xs.length cap]).toArray] w (Ret w (.tuple #[.agg ([Value.int .u8 (((ofP pr s d xs).toNat : Nat) : Int), Value.int .u32 ((ofS pr s d xs : Nat) : Int), Value.int .u32 ((ofD pr s d xs : Nat) : Int), Value.int .u16 ((ofF pr s d xs : Nat) : Int), Value.int .u16 ((ofT pr s d xs : Nat) : Int)]).toArray, .int .i64 (ofK pr s d xs), .int .i64 (ofE pr s d xs)])) := by
  refine calls_W (M := []) (LL := []) (n := 71) Try.func11 rfl rfl (by simp) (Mem.refl _) ?_
  refine W.seq (fun K1 hK1 => ?_)
  refine W.region ?_
  refine Wl.ht rfl (Ht.box (v := Value.agg ([nV .u8 tt.toNat, nV .u8 pr.toNat, nV .u16 id, nV .u32 s, nV .u32 d, Value.slice a xs.length cap]).toArray) (cs := [nV .u8 tt.toNat, nV .u8 pr.toNat, nV .u16 id, nV .u32 s, nV .u32 d, Value.slice a xs.length cap]) rfl rfl (by kernel_rfl) rfl) (fun p1 => ?_)
  refine Wl.ht rfl (Ht.alloc (z := Value.agg ([Value.int .u8 0, Value.int .u32 0, Value.int .u32 0, Value.int .u16 0, Value.int .u16 0]).toArray) (cs := [Value.int .u8 0, Value.int .u32 0, Value.int .u32 0, Value.int .u16 0, Value.int .u16 0]) rfl rfl Try.zeroValue30 rfl) (fun p2 => ?_)
  refine Wl.run 2 (by kernel_rfl) ?_
  refine Wl.nil ?_
  refine hK1 _ _ _ ?_
  refine W.prune' [1, 2, 3] [Value.pointer (some ⟨p1, 0, none⟩), Value.pointer (some ⟨p2, 0, none⟩), Value.int .i64 0] (by kernel_rfl) (fun f2 => ?_)
  refine W.seq (fun K3 hK3 => ?_)
  refine W.region ?_
  refine Wl.run 1 (by kernel_rfl) ?_
  refine Wl.ys (v := nV .u8 pr.toNat) rfl rfl (Ys.load (b := p1) (o' := 1) (i := 1) (j := 0) (cs := [nV .u8 tt.toNat, nV .u8 pr.toNat, nV .u16 id, nV .u32 s, nV .u32 d, Value.slice a xs.length cap]) (v := nV .u8 pr.toNat) rfl (by kernel_rfl) Try.isAgg5 rfl rfl rfl) ?_
  refine Wl.run 1 (by kernel_rfl) ?_
  refine Wl.ys (v := nV .u32 s) rfl rfl (Ys.load (b := p1) (o' := 3) (i := 1) (j := 0) (cs := [nV .u8 tt.toNat, nV .u8 pr.toNat, nV .u16 id, nV .u32 s, nV .u32 d, Value.slice a xs.length cap]) (v := nV .u32 s) rfl (by kernel_rfl) Try.isAgg24 rfl rfl rfl) ?_
  refine Wl.run 1 (by kernel_rfl) ?_
  refine Wl.ys (v := nV .u32 d) rfl rfl (Ys.load (b := p1) (o' := 4) (i := 1) (j := 0) (cs := [nV .u8 tt.toNat, nV .u8 pr.toNat, nV .u16 id, nV .u32 s, nV .u32 d, Value.slice a xs.length cap]) (v := nV .u32 d) rfl (by kernel_rfl) Try.isAgg24 rfl rfl rfl) ?_
  refine Wl.run 1 (by kernel_rfl) ?_
  refine Wl.ht rfl (Ht.storeN (b := p2) (o' := 0) (i := 0) (j := 0) (cs := [Value.int .u8 0, Value.int .u32 0, Value.int .u32 0, Value.int .u16 0, Value.int .u16 0]) (vs := [nV .u8 pr.toNat, nV .u32 s, nV .u32 d, Value.int .u16 0, Value.int .u16 0]) (cs' := [nV .u8 pr.toNat, nV .u32 s, nV .u32 d, Value.int .u16 0, Value.int .u16 0]) (LL' := [[cb p2 [nV .u8 pr.toNat, nV .u32 s, nV .u32 d, Value.int .u16 0, Value.int .u16 0] 30], [cb p1 [nV .u8 tt.toNat, nV .u8 pr.toNat, nV .u16 id, nV .u32 s, nV .u32 d, Value.slice a xs.length cap] 27]]) rfl rfl (by kernel_rfl) (by kernel_rfl) Try.sizeOf30 (by simp [Value.oneCell']) rfl rfl (by simp) rfl rfl) (fun _ => ?_)
  refine Wl.nil ?_
  refine hK3 _ _ _ ?_
  refine W.prune' [1, 2, 3] [Value.pointer (some ⟨p1, 0, none⟩), Value.pointer (some ⟨p2, 0, none⟩), Value.int .i64 0] (by kernel_rfl) (fun f4 => ?_)
  refine W.seq (fun K5 hK5 => ?_)
  refine W.seq (fun K6 hK6 => ?_)
  refine W.region ?_
  refine Wl.run 1 (by kernel_rfl) ?_
  refine Wl.ys (v := nV .u8 pr.toNat) rfl rfl (Ys.load (b := p1) (o' := 1) (i := 1) (j := 0) (cs := [nV .u8 tt.toNat, nV .u8 pr.toNat, nV .u16 id, nV .u32 s, nV .u32 d, Value.slice a xs.length cap]) (v := nV .u8 pr.toNat) rfl (by kernel_rfl) Try.isAgg5 rfl rfl rfl) ?_
  refine Wl.nil ?_
  refine hK6 _ _ _ ?_
  refine W.prune' [1, 2, 3, 17] [Value.pointer (some ⟨p1, 0, none⟩), Value.pointer (some ⟨p2, 0, none⟩), Value.int .i64 0, nV .u8 pr.toNat] (by kernel_rfl) (fun f7 => ?_)
  refine W.block ?_
  refine W.seq (fun K8 hK8 => ?_)
  refine W.region ?_
  refine Wl.run 2 (by kernel_rfl) ?_
  refine Wl.nil ?_
  refine hK8 _ _ _ ?_
  refine W.prune' [1, 2, 3, 17, 18] [Value.pointer (some ⟨p1, 0, none⟩), Value.pointer (some ⟨p2, 0, none⟩), Value.int .i64 0, nV .u8 pr.toNat, Value.bool (((pr.toNat : Nat) : Int) == 6)] (by kernel_rfl) (fun f9 => ?_)
  refine W.cond (((pr.toNat : Nat) : Int) == 6) (by kernel_rfl) (fun h10 => ?_) (fun h11 => ?_)
  · have qh10 := h10; try simp only [Bool.and_eq_true, Bool.or_eq_true, Bool.not_eq_true', Bool.not_eq_false', Bool.and_eq_false_iff, Bool.or_eq_false_iff, decide_eq_true_eq, decide_eq_false_iff_not, beq_iff_eq, bne_iff_ne, beq_eq_false_iff_ne, bne_eq_false_iff_eq] at qh10
    refine W.seq (fun K12 hK12 => ?_)
    refine W.region ?_
    refine Wl.run 1 (by kernel_rfl) ?_
    refine Wl.ys (v := nV .u32 s) rfl rfl (Ys.load (b := p1) (o' := 3) (i := 1) (j := 0) (cs := [nV .u8 tt.toNat, nV .u8 pr.toNat, nV .u16 id, nV .u32 s, nV .u32 d, Value.slice a xs.length cap]) (v := nV .u32 s) rfl (by kernel_rfl) Try.isAgg24 rfl rfl rfl) ?_
    refine Wl.run 1 (by kernel_rfl) ?_
    refine Wl.ys (v := nV .u32 d) rfl rfl (Ys.load (b := p1) (o' := 4) (i := 1) (j := 0) (cs := [nV .u8 tt.toNat, nV .u8 pr.toNat, nV .u16 id, nV .u32 s, nV .u32 d, Value.slice a xs.length cap]) (v := nV .u32 d) rfl (by kernel_rfl) Try.isAgg24 rfl rfl rfl) ?_
    refine Wl.run 1 (by kernel_rfl) ?_
    refine Wl.ys (v := Value.slice a xs.length cap) rfl rfl (Ys.load (b := p1) (o' := 5) (i := 1) (j := 0) (cs := [nV .u8 tt.toNat, nV .u8 pr.toNat, nV .u16 id, nV .u32 s, nV .u32 d, Value.slice a xs.length cap]) (v := Value.slice a xs.length cap) rfl (by kernel_rfl) Try.isAgg25 rfl rfl rfl) ?_
    refine Wl.ht rfl (Ht.call (β := FS × FS) (k := 22) (args := #[nV .u32 s, nV .u32 d, Value.slice a xs.length cap]) (Lin := []) (Lk := [[cb p2 [nV .u8 pr.toNat, nV .u32 s, nV .u32 d, Value.int .u16 0, Value.int .u16 0] 30], [cb p1 [nV .u8 tt.toNat, nV .u8 pr.toNat, nV .u16 id, nV .u32 s, nV .u32 d, Value.slice a xs.length cap] 27]]) (Mi := []) (Lo := fun gg13 => [gg13.1.seg 5 (mc b8 (tO s d xs)), gg13.2.seg 5 (mc b8 (tD s d xs)), [cb p2 [nV .u8 pr.toNat, nV .u32 s, nV .u32 d, Value.int .u16 0, Value.int .u16 0] 30], [cb p1 [nV .u8 tt.toNat, nV .u8 pr.toNat, nV .u16 id, nV .u32 s, nV .u32 d, Value.slice a xs.length cap] 27]]) [] [0, 1] rfl (fun _ => by kernel_rfl) (by decide) rfl rfl rfl (fun w_ hm_ hl_ => (rtcpn_c s d xs a cap xs.length _ (by first | rfl | (rw [List.length_take]; omega) | (simp; done) | (simp [be_len, be_len, psh_len]; omega)) (hat.mem0 hm_) (by omega) (by omega) (by first | omega | (simp; omega)) (by first | omega | (simp; omega)))) (fun _ => rfl)) (fun x16 => ?_)
    obtain ⟨gg13, ok14, ok15⟩ := x16
    refine Wl.castL (LL' := [gg13.1.seg 5 (mc b8 (tO s d xs)), gg13.2.seg 5 (mc b8 (tD s d xs)), [cb p2 [nV .u8 pr.toNat, nV .u32 s, nV .u32 d, Value.int .u16 0, Value.int .u16 0] 30], [cb p1 [nV .u8 tt.toNat, nV .u8 pr.toNat, nV .u16 id, nV .u32 s, nV .u32 d, Value.slice a xs.length cap] 27]]) rfl ?_
    refine Wl.run 3 (by kernel_rfl) ?_
    refine Wl.ht rfl (Ht.alloc (z := Value.agg ([Value.int .u16 0, Value.int .u16 0, Value.int .u32 0, Value.int .u32 0, Value.int .u8 0, Value.int .u16 0, Value.int .u16 0, Value.slice none 0 0, Value.slice none 0 0]).toArray) (cs := [Value.int .u16 0, Value.int .u16 0, Value.int .u32 0, Value.int .u32 0, Value.int .u8 0, Value.int .u16 0, Value.int .u16 0, Value.slice none 0 0, Value.slice none 0 0]) rfl rfl Try.zeroValue52 rfl) (fun p5 => ?_)
    refine Wl.ht rfl (Ht.storeN (b := p5) (o' := 0) (i := 0) (j := 0) (cs := [Value.int .u16 0, Value.int .u16 0, Value.int .u32 0, Value.int .u32 0, Value.int .u8 0, Value.int .u16 0, Value.int .u16 0, Value.slice none 0 0, Value.slice none 0 0]) (vs := [nV .u16 (tF s d xs 0), nV .u16 (tF s d xs 2), nV .u32 (tW s d xs 4), nV .u32 (tW s d xs 8), nV .u8 ((tL s d xs).toNat), nV .u16 (tF s d xs 14), nV .u16 (tF s d xs 18), Value.slice gg13.1.a ((tO s d xs).length) gg13.1.cap, Value.slice gg13.2.a ((tD s d xs).length) gg13.2.cap]) (cs' := [nV .u16 (tF s d xs 0), nV .u16 (tF s d xs 2), nV .u32 (tW s d xs 4), nV .u32 (tW s d xs 8), nV .u8 ((tL s d xs).toNat), nV .u16 (tF s d xs 14), nV .u16 (tF s d xs 18), Value.slice gg13.1.a ((tO s d xs).length) gg13.1.cap, Value.slice gg13.2.a ((tD s d xs).length) gg13.2.cap]) (LL' := [[cb p5 [nV .u16 (tF s d xs 0), nV .u16 (tF s d xs 2), nV .u32 (tW s d xs 4), nV .u32 (tW s d xs 8), nV .u8 ((tL s d xs).toNat), nV .u16 (tF s d xs 14), nV .u16 (tF s d xs 18), Value.slice gg13.1.a ((tO s d xs).length) gg13.1.cap, Value.slice gg13.2.a ((tD s d xs).length) gg13.2.cap] 52], gg13.1.seg 5 (mc b8 (tO s d xs)), gg13.2.seg 5 (mc b8 (tD s d xs)), [cb p2 [nV .u8 pr.toNat, nV .u32 s, nV .u32 d, Value.int .u16 0, Value.int .u16 0] 30], [cb p1 [nV .u8 tt.toNat, nV .u8 pr.toNat, nV .u16 id, nV .u32 s, nV .u32 d, Value.slice a xs.length cap] 27]]) rfl rfl (by kernel_rfl) (by kernel_rfl) Try.sizeOf52 (by simp [Value.oneCell']) rfl rfl (by simp) rfl rfl) (fun _ => ?_)
    refine Wl.run 1 (by kernel_rfl) ?_
    refine Wl.nil ?_
    refine hK12 _ _ _ ?_
    refine W.pick (LL' := [[cb p5 [nV .u16 (tF s d xs 0), nV .u16 (tF s d xs 2), nV .u32 (tW s d xs 4), nV .u32 (tW s d xs 8), nV .u8 ((tL s d xs).toNat), nV .u16 (tF s d xs 14), nV .u16 (tF s d xs 18), Value.slice gg13.1.a ((tO s d xs).length) gg13.1.cap, Value.slice gg13.2.a ((tD s d xs).length) gg13.2.cap] 52], gg13.1.seg 5 (mc b8 (tO s d xs)), gg13.2.seg 5 (mc b8 (tD s d xs)), [cb p2 [nV .u8 pr.toNat, nV .u32 s, nV .u32 d, Value.int .u16 0, Value.int .u16 0] 30]]) [0, 1, 2, 3] (by decide) rfl ?_
    refine W.prune' [2, 5, 6] [Value.pointer (some ⟨p2, 0, none⟩), Value.pointer (some ⟨p5, 0, none⟩), Value.int .i64 (tR s d xs)] (by kernel_rfl) (fun f17 => ?_)
    refine W.draws [(0, true), (1, true), (2, true), (3, true), (4, true), (5, false), (6, false), (7, false), (8, false), (9, false), (10, false)] [0, 1, 2, 3, 4] (Mem w [] [[cb p5 [nV .u16 (tF s d xs 0), nV .u16 (tF s d xs 2), nV .u32 (tW s d xs 4), nV .u32 (tW s d xs 8), nV .u8 ((tL s d xs).toNat), nV .u16 (tF s d xs 14), nV .u16 (tF s d xs 18), Value.slice gg13.1.a ((tO s d xs).length) gg13.1.cap, Value.slice gg13.2.a ((tD s d xs).length) gg13.2.cap] 52], gg13.1.seg 5 (mc b8 (tO s d xs)), gg13.2.seg 5 (mc b8 (tD s d xs))]) (by kernel_rfl) (by kernel_rfl) (by kernel_rfl) rfl (by kernel_rfl) (fun _ _ h_ => h_.drawn _) (fun _ h_ => h_.pick [0, 1, 2] (by decide) rfl) ?_
    refine Wd.run 1 (by kernel_rfl) ?_
    refine Wd.ys (v := nV .u16 (tF s d xs 0)) rfl rfl rfl (Ys.load (b := p5) (o' := 0) (i := 0) (j := 0) (cs := [nV .u16 (tF s d xs 0), nV .u16 (tF s d xs 2), nV .u32 (tW s d xs 4), nV .u32 (tW s d xs 8), nV .u8 ((tL s d xs).toNat), nV .u16 (tF s d xs 14), nV .u16 (tF s d xs 18), Value.slice gg13.1.a ((tO s d xs).length) gg13.1.cap, Value.slice gg13.2.a ((tD s d xs).length) gg13.2.cap]) (v := nV .u16 (tF s d xs 0)) rfl (by kernel_rfl) Try.isAgg22 rfl rfl rfl) ?_
    refine Wd.run 1 (by kernel_rfl) ?_
    refine Wd.ys (v := nV .u16 (tF s d xs 2)) rfl rfl rfl (Ys.load (b := p5) (o' := 1) (i := 0) (j := 0) (cs := [nV .u16 (tF s d xs 0), nV .u16 (tF s d xs 2), nV .u32 (tW s d xs 4), nV .u32 (tW s d xs 8), nV .u8 ((tL s d xs).toNat), nV .u16 (tF s d xs 14), nV .u16 (tF s d xs 18), Value.slice gg13.1.a ((tO s d xs).length) gg13.1.cap, Value.slice gg13.2.a ((tD s d xs).length) gg13.2.cap]) (v := nV .u16 (tF s d xs 2)) rfl (by kernel_rfl) Try.isAgg22 rfl rfl rfl) ?_
    refine Wd.run 1 (by kernel_rfl) ?_
    refine Wd.yc (v := Value.pointer (some ⟨p2, 3, none⟩)) rfl rfl rfl (Ys.yc (Ys.pure (fun _ => by kernel_rfl))) (.inr fun _ h_ => h_.pick [0, 1, 2] (by decide) rfl) ?_
    refine Wd.ht rfl rfl (Ht.store (b := p2) (o' := 3) (i := 3) (j := 0) (cs := [nV .u8 pr.toNat, nV .u32 s, nV .u32 d, Value.int .u16 0, Value.int .u16 0]) (cs' := [nV .u8 pr.toNat, nV .u32 s, nV .u32 d, nV .u16 (tF s d xs 0), Value.int .u16 0]) (v := nV .u16 (tF s d xs 0)) (LL' := [[cb p5 [nV .u16 (tF s d xs 0), nV .u16 (tF s d xs 2), nV .u32 (tW s d xs 4), nV .u32 (tW s d xs 8), nV .u8 ((tL s d xs).toNat), nV .u16 (tF s d xs 14), nV .u16 (tF s d xs 18), Value.slice gg13.1.a ((tO s d xs).length) gg13.1.cap, Value.slice gg13.2.a ((tD s d xs).length) gg13.2.cap] 52], gg13.1.seg 5 (mc b8 (tO s d xs)), gg13.2.seg 5 (mc b8 (tD s d xs)), [cb p2 [nV .u8 pr.toNat, nV .u32 s, nV .u32 d, nV .u16 (tF s d xs 0), Value.int .u16 0] 30]]) rfl rfl (by kernel_rfl) (by kernel_rfl) Try.sizeOf22 rfl rfl rfl (by simp) rfl rfl) (.inr fun _ _ h_ => h_.pick [0, 1, 2] (by decide) rfl) (fun _ => ?_)
    refine Wd.yc (v := Value.pointer (some ⟨p2, 4, none⟩)) rfl rfl rfl (Ys.yc (Ys.pure (fun _ => by kernel_rfl))) (.inr fun _ h_ => h_.pick [0, 1, 2] (by decide) rfl) ?_
    refine Wd.ht rfl rfl (Ht.store (b := p2) (o' := 4) (i := 3) (j := 0) (cs := [nV .u8 pr.toNat, nV .u32 s, nV .u32 d, nV .u16 (tF s d xs 0), Value.int .u16 0]) (cs' := [nV .u8 pr.toNat, nV .u32 s, nV .u32 d, nV .u16 (tF s d xs 0), nV .u16 (tF s d xs 2)]) (v := nV .u16 (tF s d xs 2)) (LL' := [[cb p5 [nV .u16 (tF s d xs 0), nV .u16 (tF s d xs 2), nV .u32 (tW s d xs 4), nV .u32 (tW s d xs 8), nV .u8 ((tL s d xs).toNat), nV .u16 (tF s d xs 14), nV .u16 (tF s d xs 18), Value.slice gg13.1.a ((tO s d xs).length) gg13.1.cap, Value.slice gg13.2.a ((tD s d xs).length) gg13.2.cap] 52], gg13.1.seg 5 (mc b8 (tO s d xs)), gg13.2.seg 5 (mc b8 (tD s d xs)), [cb p2 [nV .u8 pr.toNat, nV .u32 s, nV .u32 d, nV .u16 (tF s d xs 0), nV .u16 (tF s d xs 2)] 30]]) rfl rfl (by kernel_rfl) (by kernel_rfl) Try.sizeOf22 rfl rfl rfl (by simp) rfl rfl) (.inr fun _ _ h_ => h_.pick [0, 1, 2] (by decide) rfl) (fun _ => ?_)
    refine Wd.yc (v := Value.int .i64 1) rfl rfl rfl (Ys.yc (Ys.pure (fun _ => by kernel_rfl))) (.inr fun _ h_ => h_.pick [0, 1, 2] (by decide) rfl) ?_
    refine Wd.yc (v := Value.int .i64 (tR s d xs)) rfl rfl rfl (Ys.yc (Ys.pure (fun _ => by kernel_rfl))) (.inl (by kernel_rfl)) ?_
    refine Wd.nil ?_
    refine hK5 _ _ _ ?_
    refine W.pick (LL' := [[cb p2 [nV .u8 pr.toNat, nV .u32 s, nV .u32 d, nV .u16 (tF s d xs 0), nV .u16 (tF s d xs 2)] 30]]) [3] (by decide) rfl ?_
    refine W.prune' [2, 3, 4] [Value.pointer (some ⟨p2, 0, none⟩), Value.int .i64 1, Value.int .i64 (tR s d xs)] (by kernel_rfl) (fun f18 => ?_)
    refine W.seq (fun K19 hK19 => ?_)
    refine W.seq (fun K20 hK20 => ?_)
    refine W.region ?_
    refine Wl.run 2 (by kernel_rfl) ?_
    refine Wl.nil ?_
    refine hK20 _ _ _ ?_
    refine W.prune' [2, 3, 4, 66] [Value.pointer (some ⟨p2, 0, none⟩), Value.int .i64 1, Value.int .i64 (tR s d xs), Value.bool ((tR s d xs) != 0)] (by kernel_rfl) (fun f21 => ?_)
    refine W.cond ((tR s d xs) != 0) (by kernel_rfl) (fun h22 => ?_) (fun h23 => ?_)
    · have qh22 := h22; try simp only [Bool.and_eq_true, Bool.or_eq_true, Bool.not_eq_true', Bool.not_eq_false', Bool.and_eq_false_iff, Bool.or_eq_false_iff, decide_eq_true_eq, decide_eq_false_iff_not, beq_iff_eq, bne_iff_ne, beq_eq_false_iff_ne, bne_eq_false_iff_eq] at qh22
      refine W.seq (fun K24 hK24 => ?_)
      refine W.region ?_
      refine Wl.run 2 (by kernel_rfl) ?_
      refine Wl.ht rfl (Ht.storeN (b := p2) (o' := 0) (i := 0) (j := 0) (cs := [nV .u8 pr.toNat, nV .u32 s, nV .u32 d, nV .u16 (tF s d xs 0), nV .u16 (tF s d xs 2)]) (vs := [Value.int .u8 0, Value.int .u32 0, Value.int .u32 0, Value.int .u16 0, Value.int .u16 0]) (cs' := [Value.int .u8 0, Value.int .u32 0, Value.int .u32 0, Value.int .u16 0, Value.int .u16 0]) (LL' := [[cb p2 [Value.int .u8 0, Value.int .u32 0, Value.int .u32 0, Value.int .u16 0, Value.int .u16 0] 30]]) rfl rfl (by kernel_rfl) (by kernel_rfl) Try.sizeOf30 (by simp [Value.oneCell']) rfl rfl (by simp) rfl rfl) (fun _ => ?_)
      refine Wl.run 2 (by kernel_rfl) ?_
      refine Wl.nil ?_
      refine hK24 _ _ _ ?_
      refine W.prune' [2, 3, 4] [Value.pointer (some ⟨p2, 0, none⟩), Value.int .i64 0, Value.int .i64 (tR s d xs)] (by kernel_rfl) (fun f25 => ?_)
      refine W.ret ?_
      have hisT_ : isT pr = true := h10
      have hE_ : ofE pr s d xs = tR s d xs := by simp only [ofE, hisT_, cond_true, cond_false]
      have hZ_ : ofZ pr s d xs = false := by unfold ofZ; rw [hE_, h22]; rfl
      show ∀ w_, _ → bodyPostM (fence none) 0 Try.prog Try.f11 _ Exit.ret _ w_
      exact fun w_ hS_ => fin_ret (ret3 rfl (RV.cellN (b := p2) (o' := 0) (i := 0) (j := 0) (cs := [Value.int .u8 0, Value.int .u32 0, Value.int .u32 0, Value.int .u16 0, Value.int .u16 0]) (vs := [Value.int .u8 0, Value.int .u32 0, Value.int .u32 0, Value.int .u16 0, Value.int .u16 0]) (by kernel_rfl) Try.isAgg30 Try.sizeOf30 rfl rfl rfl rfl) (RV.tmp (v := Value.int .i64 0) (by kernel_rfl)) (RV.tmp (v := Value.int .i64 (tR s d xs)) (by kernel_rfl)) hS_ ⟨by clear hK1 hK3 hK5 hK6 hK8 hK12 hK19 hK20 hK24; refine congrArg Ending.returned ?_; simp only [ofK, ofP, ofS, ofD, ofF, ofT, hE_, hZ_, hisT_, cond_true, cond_false]; try rfl, hS_.below⟩)
    · have qh23 := h23; try simp only [Bool.and_eq_true, Bool.or_eq_true, Bool.not_eq_true', Bool.not_eq_false', Bool.and_eq_false_iff, Bool.or_eq_false_iff, decide_eq_true_eq, decide_eq_false_iff_not, beq_iff_eq, bne_iff_ne, beq_eq_false_iff_ne, bne_eq_false_iff_eq] at qh23
      refine W.skip' ?_
      refine hK19 _ _ _ ?_
      refine W.prune' [2, 3] [Value.pointer (some ⟨p2, 0, none⟩), Value.int .i64 1] (by kernel_rfl) (fun f26 => ?_)
      refine W.seq (fun K27 hK27 => ?_)
      refine W.region ?_
      refine Wl.ys (v := Value.agg ([nV .u8 pr.toNat, nV .u32 s, nV .u32 d, nV .u16 (tF s d xs 0), nV .u16 (tF s d xs 2)]).toArray) rfl rfl (Ys.loadN (b := p2) (o' := 0) (i := 0) (j := 0) (cs := [nV .u8 pr.toNat, nV .u32 s, nV .u32 d, nV .u16 (tF s d xs 0), nV .u16 (tF s d xs 2)]) (vs := [nV .u8 pr.toNat, nV .u32 s, nV .u32 d, nV .u16 (tF s d xs 0), nV .u16 (tF s d xs 2)]) rfl (by kernel_rfl) Try.isAgg30 Try.sizeOf30 rfl rfl rfl rfl) ?_
      refine Wl.run 1 (by kernel_rfl) ?_
      refine Wl.ht rfl (Ht.storeN (b := p2) (o' := 0) (i := 0) (j := 0) (cs := [nV .u8 pr.toNat, nV .u32 s, nV .u32 d, nV .u16 (tF s d xs 0), nV .u16 (tF s d xs 2)]) (vs := [nV .u8 pr.toNat, nV .u32 s, nV .u32 d, nV .u16 (tF s d xs 0), nV .u16 (tF s d xs 2)]) (cs' := [nV .u8 pr.toNat, nV .u32 s, nV .u32 d, nV .u16 (tF s d xs 0), nV .u16 (tF s d xs 2)]) (LL' := [[cb p2 [nV .u8 pr.toNat, nV .u32 s, nV .u32 d, nV .u16 (tF s d xs 0), nV .u16 (tF s d xs 2)] 30]]) rfl rfl (by kernel_rfl) (by kernel_rfl) Try.sizeOf30 (by simp [Value.oneCell']) rfl rfl (by simp) rfl rfl) (fun _ => ?_)
      refine Wl.run 2 (by kernel_rfl) ?_
      refine Wl.nil ?_
      refine hK27 _ _ _ ?_
      refine W.prune' [2, 3, 4] [Value.pointer (some ⟨p2, 0, none⟩), Value.int .i64 1, Value.int .i64 0] (by kernel_rfl) (fun f28 => ?_)
      refine W.ret ?_
      have hisT_ : isT pr = true := h10
      have hE_ : ofE pr s d xs = tR s d xs := by simp only [ofE, hisT_, cond_true, cond_false]
      have hZ_ : ofZ pr s d xs = true := by unfold ofZ; rw [hE_, h23]; rfl
      show ∀ w_, _ → bodyPostM (fence none) 0 Try.prog Try.f11 _ Exit.ret _ w_
      exact fun w_ hS_ => fin_ret (ret3 rfl (RV.cellN (b := p2) (o' := 0) (i := 0) (j := 0) (cs := [nV .u8 pr.toNat, nV .u32 s, nV .u32 d, nV .u16 (tF s d xs 0), nV .u16 (tF s d xs 2)]) (vs := [nV .u8 pr.toNat, nV .u32 s, nV .u32 d, nV .u16 (tF s d xs 0), nV .u16 (tF s d xs 2)]) (by kernel_rfl) Try.isAgg30 Try.sizeOf30 rfl rfl rfl rfl) (RV.tmp (v := Value.int .i64 1) (by kernel_rfl)) (RV.tmp (v := Value.int .i64 0) (by kernel_rfl)) hS_ ⟨by clear hK1 hK3 hK5 hK6 hK8 hK12 hK19 hK20 hK27; refine congrArg Ending.returned ?_; simp only [ofK, ofP, ofS, ofD, ofF, ofT, hE_, hZ_, hisT_, cond_true, cond_false]; try (rw [show tR s d xs = (0 : Int) from by have z_ := h23; simpa using z_]); try rfl, hS_.below⟩)
  · have qh11 := h11; try simp only [Bool.and_eq_true, Bool.or_eq_true, Bool.not_eq_true', Bool.not_eq_false', Bool.and_eq_false_iff, Bool.or_eq_false_iff, decide_eq_true_eq, decide_eq_false_iff_not, beq_iff_eq, bne_iff_ne, beq_eq_false_iff_ne, bne_eq_false_iff_eq] at qh11
    refine W.seq (fun K29 hK29 => ?_)
    refine W.region ?_
    refine Wl.run 2 (by kernel_rfl) ?_
    refine Wl.nil ?_
    refine hK29 _ _ _ ?_
    refine W.prune' [1, 2, 3, 17, 37] [Value.pointer (some ⟨p1, 0, none⟩), Value.pointer (some ⟨p2, 0, none⟩), Value.int .i64 0, nV .u8 pr.toNat, Value.bool (((pr.toNat : Nat) : Int) == 17)] (by kernel_rfl) (fun f30 => ?_)
    refine W.cond (((pr.toNat : Nat) : Int) == 17) (by kernel_rfl) (fun h31 => ?_) (fun h32 => ?_)
    · have qh31 := h31; try simp only [Bool.and_eq_true, Bool.or_eq_true, Bool.not_eq_true', Bool.not_eq_false', Bool.and_eq_false_iff, Bool.or_eq_false_iff, decide_eq_true_eq, decide_eq_false_iff_not, beq_iff_eq, bne_iff_ne, beq_eq_false_iff_ne, bne_eq_false_iff_eq] at qh31
      refine W.seq (fun K33 hK33 => ?_)
      refine W.region ?_
      refine Wl.run 1 (by kernel_rfl) ?_
      refine Wl.ys (v := nV .u32 s) rfl rfl (Ys.load (b := p1) (o' := 3) (i := 1) (j := 0) (cs := [nV .u8 tt.toNat, nV .u8 pr.toNat, nV .u16 id, nV .u32 s, nV .u32 d, Value.slice a xs.length cap]) (v := nV .u32 s) rfl (by kernel_rfl) Try.isAgg24 rfl rfl rfl) ?_
      refine Wl.run 1 (by kernel_rfl) ?_
      refine Wl.ys (v := nV .u32 d) rfl rfl (Ys.load (b := p1) (o' := 4) (i := 1) (j := 0) (cs := [nV .u8 tt.toNat, nV .u8 pr.toNat, nV .u16 id, nV .u32 s, nV .u32 d, Value.slice a xs.length cap]) (v := nV .u32 d) rfl (by kernel_rfl) Try.isAgg24 rfl rfl rfl) ?_
      refine Wl.run 1 (by kernel_rfl) ?_
      refine Wl.ys (v := Value.slice a xs.length cap) rfl rfl (Ys.load (b := p1) (o' := 5) (i := 1) (j := 0) (cs := [nV .u8 tt.toNat, nV .u8 pr.toNat, nV .u16 id, nV .u32 s, nV .u32 d, Value.slice a xs.length cap]) (v := Value.slice a xs.length cap) rfl (by kernel_rfl) Try.isAgg25 rfl rfl rfl) ?_
      refine Wl.ht rfl (Ht.call (β := FS) (k := 23) (args := #[nV .u32 s, nV .u32 d, Value.slice a xs.length cap]) (Lin := []) (Lk := [[cb p2 [nV .u8 pr.toNat, nV .u32 s, nV .u32 d, Value.int .u16 0, Value.int .u16 0] 30], [cb p1 [nV .u8 tt.toNat, nV .u8 pr.toNat, nV .u16 id, nV .u32 s, nV .u32 d, Value.slice a xs.length cap] 27]]) (Mi := []) (Lo := fun g34 => [g34.seg 5 (mc b8 (uD s d xs)), [cb p2 [nV .u8 pr.toNat, nV .u32 s, nV .u32 d, Value.int .u16 0, Value.int .u16 0] 30], [cb p1 [nV .u8 tt.toNat, nV .u8 pr.toNat, nV .u16 id, nV .u32 s, nV .u32 d, Value.slice a xs.length cap] 27]]) [] [0, 1] rfl (fun _ => by kernel_rfl) (by decide) rfl rfl rfl (fun w_ hm_ hl_ => (rudpn_c s d xs a cap xs.length _ (by first | rfl | (rw [List.length_take]; omega) | (simp; done) | (simp [be_len, be_len, psh_len]; omega)) (hat.mem0 hm_) (by omega) (by omega) (by first | omega | (simp; omega)) (by first | omega | (simp; omega)))) (fun _ => rfl)) (fun x36 => ?_)
      obtain ⟨g34, ok35⟩ := x36
      refine Wl.castL (LL' := [g34.seg 5 (mc b8 (uD s d xs)), [cb p2 [nV .u8 pr.toNat, nV .u32 s, nV .u32 d, Value.int .u16 0, Value.int .u16 0] 30], [cb p1 [nV .u8 tt.toNat, nV .u8 pr.toNat, nV .u16 id, nV .u32 s, nV .u32 d, Value.slice a xs.length cap] 27]]) rfl ?_
      refine Wl.run 3 (by kernel_rfl) ?_
      refine Wl.ht rfl (Ht.alloc (z := Value.agg ([Value.int .u16 0, Value.int .u16 0, Value.bool false, Value.slice none 0 0]).toArray) (cs := [Value.int .u16 0, Value.int .u16 0, Value.bool false, Value.slice none 0 0]) rfl rfl Try.zeroValue56 rfl) (fun p7 => ?_)
      refine Wl.ht rfl (Ht.storeN (b := p7) (o' := 0) (i := 0) (j := 0) (cs := [Value.int .u16 0, Value.int .u16 0, Value.bool false, Value.slice none 0 0]) (vs := [nV .u16 (uF s d xs 0), nV .u16 (uF s d xs 2), Value.bool (uP s d xs), Value.slice g34.a ((uD s d xs).length) g34.cap]) (cs' := [nV .u16 (uF s d xs 0), nV .u16 (uF s d xs 2), Value.bool (uP s d xs), Value.slice g34.a ((uD s d xs).length) g34.cap]) (LL' := [[cb p7 [nV .u16 (uF s d xs 0), nV .u16 (uF s d xs 2), Value.bool (uP s d xs), Value.slice g34.a ((uD s d xs).length) g34.cap] 56], g34.seg 5 (mc b8 (uD s d xs)), [cb p2 [nV .u8 pr.toNat, nV .u32 s, nV .u32 d, Value.int .u16 0, Value.int .u16 0] 30], [cb p1 [nV .u8 tt.toNat, nV .u8 pr.toNat, nV .u16 id, nV .u32 s, nV .u32 d, Value.slice a xs.length cap] 27]]) rfl rfl (by kernel_rfl) (by kernel_rfl) Try.sizeOf56 (by simp [Value.oneCell']) rfl rfl (by simp) rfl rfl) (fun _ => ?_)
      refine Wl.run 1 (by kernel_rfl) ?_
      refine Wl.nil ?_
      refine hK33 _ _ _ ?_
      refine W.pick (LL' := [[cb p7 [nV .u16 (uF s d xs 0), nV .u16 (uF s d xs 2), Value.bool (uP s d xs), Value.slice g34.a ((uD s d xs).length) g34.cap] 56], g34.seg 5 (mc b8 (uD s d xs)), [cb p2 [nV .u8 pr.toNat, nV .u32 s, nV .u32 d, Value.int .u16 0, Value.int .u16 0] 30]]) [0, 1, 2] (by decide) rfl ?_
      refine W.prune' [2, 7, 8] [Value.pointer (some ⟨p2, 0, none⟩), Value.pointer (some ⟨p7, 0, none⟩), Value.int .i64 (uR s d xs)] (by kernel_rfl) (fun f37 => ?_)
      refine W.draws [(0, true), (1, true), (2, true), (3, true), (4, true), (5, false), (6, false), (7, false), (8, false), (9, false), (10, false)] [0, 1, 2, 3, 4] (Mem w [] [[cb p7 [nV .u16 (uF s d xs 0), nV .u16 (uF s d xs 2), Value.bool (uP s d xs), Value.slice g34.a ((uD s d xs).length) g34.cap] 56], g34.seg 5 (mc b8 (uD s d xs))]) (by kernel_rfl) (by kernel_rfl) (by kernel_rfl) rfl (by kernel_rfl) (fun _ _ h_ => h_.drawn _) (fun _ h_ => h_.pick [0, 1] (by decide) rfl) ?_
      refine Wd.run 1 (by kernel_rfl) ?_
      refine Wd.ys (v := nV .u16 (uF s d xs 0)) rfl rfl rfl (Ys.load (b := p7) (o' := 0) (i := 0) (j := 0) (cs := [nV .u16 (uF s d xs 0), nV .u16 (uF s d xs 2), Value.bool (uP s d xs), Value.slice g34.a ((uD s d xs).length) g34.cap]) (v := nV .u16 (uF s d xs 0)) rfl (by kernel_rfl) Try.isAgg22 rfl rfl rfl) ?_
      refine Wd.run 1 (by kernel_rfl) ?_
      refine Wd.ys (v := nV .u16 (uF s d xs 2)) rfl rfl rfl (Ys.load (b := p7) (o' := 1) (i := 0) (j := 0) (cs := [nV .u16 (uF s d xs 0), nV .u16 (uF s d xs 2), Value.bool (uP s d xs), Value.slice g34.a ((uD s d xs).length) g34.cap]) (v := nV .u16 (uF s d xs 2)) rfl (by kernel_rfl) Try.isAgg22 rfl rfl rfl) ?_
      refine Wd.run 1 (by kernel_rfl) ?_
      refine Wd.yc (v := Value.pointer (some ⟨p2, 3, none⟩)) rfl rfl rfl (Ys.yc (Ys.pure (fun _ => by kernel_rfl))) (.inr fun _ h_ => h_.pick [0, 1] (by decide) rfl) ?_
      refine Wd.ht rfl rfl (Ht.store (b := p2) (o' := 3) (i := 2) (j := 0) (cs := [nV .u8 pr.toNat, nV .u32 s, nV .u32 d, Value.int .u16 0, Value.int .u16 0]) (cs' := [nV .u8 pr.toNat, nV .u32 s, nV .u32 d, nV .u16 (uF s d xs 0), Value.int .u16 0]) (v := nV .u16 (uF s d xs 0)) (LL' := [[cb p7 [nV .u16 (uF s d xs 0), nV .u16 (uF s d xs 2), Value.bool (uP s d xs), Value.slice g34.a ((uD s d xs).length) g34.cap] 56], g34.seg 5 (mc b8 (uD s d xs)), [cb p2 [nV .u8 pr.toNat, nV .u32 s, nV .u32 d, nV .u16 (uF s d xs 0), Value.int .u16 0] 30]]) rfl rfl (by kernel_rfl) (by kernel_rfl) Try.sizeOf22 rfl rfl rfl (by simp) rfl rfl) (.inr fun _ _ h_ => h_.pick [0, 1] (by decide) rfl) (fun _ => ?_)
      refine Wd.yc (v := Value.pointer (some ⟨p2, 4, none⟩)) rfl rfl rfl (Ys.yc (Ys.pure (fun _ => by kernel_rfl))) (.inr fun _ h_ => h_.pick [0, 1] (by decide) rfl) ?_
      refine Wd.ht rfl rfl (Ht.store (b := p2) (o' := 4) (i := 2) (j := 0) (cs := [nV .u8 pr.toNat, nV .u32 s, nV .u32 d, nV .u16 (uF s d xs 0), Value.int .u16 0]) (cs' := [nV .u8 pr.toNat, nV .u32 s, nV .u32 d, nV .u16 (uF s d xs 0), nV .u16 (uF s d xs 2)]) (v := nV .u16 (uF s d xs 2)) (LL' := [[cb p7 [nV .u16 (uF s d xs 0), nV .u16 (uF s d xs 2), Value.bool (uP s d xs), Value.slice g34.a ((uD s d xs).length) g34.cap] 56], g34.seg 5 (mc b8 (uD s d xs)), [cb p2 [nV .u8 pr.toNat, nV .u32 s, nV .u32 d, nV .u16 (uF s d xs 0), nV .u16 (uF s d xs 2)] 30]]) rfl rfl (by kernel_rfl) (by kernel_rfl) Try.sizeOf22 rfl rfl rfl (by simp) rfl rfl) (.inr fun _ _ h_ => h_.pick [0, 1] (by decide) rfl) (fun _ => ?_)
      refine Wd.yc (v := Value.int .i64 1) rfl rfl rfl (Ys.yc (Ys.pure (fun _ => by kernel_rfl))) (.inr fun _ h_ => h_.pick [0, 1] (by decide) rfl) ?_
      refine Wd.yc (v := Value.int .i64 (uR s d xs)) rfl rfl rfl (Ys.yc (Ys.pure (fun _ => by kernel_rfl))) (.inl (by kernel_rfl)) ?_
      refine Wd.nil ?_
      refine hK5 _ _ _ ?_
      refine W.pick (LL' := [[cb p2 [nV .u8 pr.toNat, nV .u32 s, nV .u32 d, nV .u16 (uF s d xs 0), nV .u16 (uF s d xs 2)] 30]]) [2] (by decide) rfl ?_
      refine W.prune' [2, 3, 4] [Value.pointer (some ⟨p2, 0, none⟩), Value.int .i64 1, Value.int .i64 (uR s d xs)] (by kernel_rfl) (fun f38 => ?_)
      refine W.seq (fun K39 hK39 => ?_)
      refine W.seq (fun K40 hK40 => ?_)
      refine W.region ?_
      refine Wl.run 2 (by kernel_rfl) ?_
      refine Wl.nil ?_
      refine hK40 _ _ _ ?_
      refine W.prune' [2, 3, 4, 66] [Value.pointer (some ⟨p2, 0, none⟩), Value.int .i64 1, Value.int .i64 (uR s d xs), Value.bool ((uR s d xs) != 0)] (by kernel_rfl) (fun f41 => ?_)
      refine W.cond ((uR s d xs) != 0) (by kernel_rfl) (fun h42 => ?_) (fun h43 => ?_)
      · have qh42 := h42; try simp only [Bool.and_eq_true, Bool.or_eq_true, Bool.not_eq_true', Bool.not_eq_false', Bool.and_eq_false_iff, Bool.or_eq_false_iff, decide_eq_true_eq, decide_eq_false_iff_not, beq_iff_eq, bne_iff_ne, beq_eq_false_iff_ne, bne_eq_false_iff_eq] at qh42
        refine W.seq (fun K44 hK44 => ?_)
        refine W.region ?_
        refine Wl.run 2 (by kernel_rfl) ?_
        refine Wl.ht rfl (Ht.storeN (b := p2) (o' := 0) (i := 0) (j := 0) (cs := [nV .u8 pr.toNat, nV .u32 s, nV .u32 d, nV .u16 (uF s d xs 0), nV .u16 (uF s d xs 2)]) (vs := [Value.int .u8 0, Value.int .u32 0, Value.int .u32 0, Value.int .u16 0, Value.int .u16 0]) (cs' := [Value.int .u8 0, Value.int .u32 0, Value.int .u32 0, Value.int .u16 0, Value.int .u16 0]) (LL' := [[cb p2 [Value.int .u8 0, Value.int .u32 0, Value.int .u32 0, Value.int .u16 0, Value.int .u16 0] 30]]) rfl rfl (by kernel_rfl) (by kernel_rfl) Try.sizeOf30 (by simp [Value.oneCell']) rfl rfl (by simp) rfl rfl) (fun _ => ?_)
        refine Wl.run 2 (by kernel_rfl) ?_
        refine Wl.nil ?_
        refine hK44 _ _ _ ?_
        refine W.prune' [2, 3, 4] [Value.pointer (some ⟨p2, 0, none⟩), Value.int .i64 0, Value.int .i64 (uR s d xs)] (by kernel_rfl) (fun f45 => ?_)
        refine W.ret ?_
        have hisT_ : isT pr = false := h11
        have hisU_ : isU pr = true := h31
        have hE_ : ofE pr s d xs = uR s d xs := by simp only [ofE, hisT_, hisU_, cond_true, cond_false]
        have hZ_ : ofZ pr s d xs = false := by unfold ofZ; rw [hE_, h42]; rfl
        show ∀ w_, _ → bodyPostM (fence none) 0 Try.prog Try.f11 _ Exit.ret _ w_
        exact fun w_ hS_ => fin_ret (ret3 rfl (RV.cellN (b := p2) (o' := 0) (i := 0) (j := 0) (cs := [Value.int .u8 0, Value.int .u32 0, Value.int .u32 0, Value.int .u16 0, Value.int .u16 0]) (vs := [Value.int .u8 0, Value.int .u32 0, Value.int .u32 0, Value.int .u16 0, Value.int .u16 0]) (by kernel_rfl) Try.isAgg30 Try.sizeOf30 rfl rfl rfl rfl) (RV.tmp (v := Value.int .i64 0) (by kernel_rfl)) (RV.tmp (v := Value.int .i64 (uR s d xs)) (by kernel_rfl)) hS_ ⟨by clear hK1 hK3 hK5 hK6 hK8 hK29 hK33 hK39 hK40 hK44; refine congrArg Ending.returned ?_; simp only [ofK, ofP, ofS, ofD, ofF, ofT, hE_, hZ_, hisT_, hisU_, cond_true, cond_false]; try rfl, hS_.below⟩)
      · have qh43 := h43; try simp only [Bool.and_eq_true, Bool.or_eq_true, Bool.not_eq_true', Bool.not_eq_false', Bool.and_eq_false_iff, Bool.or_eq_false_iff, decide_eq_true_eq, decide_eq_false_iff_not, beq_iff_eq, bne_iff_ne, beq_eq_false_iff_ne, bne_eq_false_iff_eq] at qh43
        refine W.skip' ?_
        refine hK39 _ _ _ ?_
        refine W.prune' [2, 3] [Value.pointer (some ⟨p2, 0, none⟩), Value.int .i64 1] (by kernel_rfl) (fun f46 => ?_)
        refine W.seq (fun K47 hK47 => ?_)
        refine W.region ?_
        refine Wl.ys (v := Value.agg ([nV .u8 pr.toNat, nV .u32 s, nV .u32 d, nV .u16 (uF s d xs 0), nV .u16 (uF s d xs 2)]).toArray) rfl rfl (Ys.loadN (b := p2) (o' := 0) (i := 0) (j := 0) (cs := [nV .u8 pr.toNat, nV .u32 s, nV .u32 d, nV .u16 (uF s d xs 0), nV .u16 (uF s d xs 2)]) (vs := [nV .u8 pr.toNat, nV .u32 s, nV .u32 d, nV .u16 (uF s d xs 0), nV .u16 (uF s d xs 2)]) rfl (by kernel_rfl) Try.isAgg30 Try.sizeOf30 rfl rfl rfl rfl) ?_
        refine Wl.run 1 (by kernel_rfl) ?_
        refine Wl.ht rfl (Ht.storeN (b := p2) (o' := 0) (i := 0) (j := 0) (cs := [nV .u8 pr.toNat, nV .u32 s, nV .u32 d, nV .u16 (uF s d xs 0), nV .u16 (uF s d xs 2)]) (vs := [nV .u8 pr.toNat, nV .u32 s, nV .u32 d, nV .u16 (uF s d xs 0), nV .u16 (uF s d xs 2)]) (cs' := [nV .u8 pr.toNat, nV .u32 s, nV .u32 d, nV .u16 (uF s d xs 0), nV .u16 (uF s d xs 2)]) (LL' := [[cb p2 [nV .u8 pr.toNat, nV .u32 s, nV .u32 d, nV .u16 (uF s d xs 0), nV .u16 (uF s d xs 2)] 30]]) rfl rfl (by kernel_rfl) (by kernel_rfl) Try.sizeOf30 (by simp [Value.oneCell']) rfl rfl (by simp) rfl rfl) (fun _ => ?_)
        refine Wl.run 2 (by kernel_rfl) ?_
        refine Wl.nil ?_
        refine hK47 _ _ _ ?_
        refine W.prune' [2, 3, 4] [Value.pointer (some ⟨p2, 0, none⟩), Value.int .i64 1, Value.int .i64 0] (by kernel_rfl) (fun f48 => ?_)
        refine W.ret ?_
        have hisT_ : isT pr = false := h11
        have hisU_ : isU pr = true := h31
        have hE_ : ofE pr s d xs = uR s d xs := by simp only [ofE, hisT_, hisU_, cond_true, cond_false]
        have hZ_ : ofZ pr s d xs = true := by unfold ofZ; rw [hE_, h43]; rfl
        show ∀ w_, _ → bodyPostM (fence none) 0 Try.prog Try.f11 _ Exit.ret _ w_
        exact fun w_ hS_ => fin_ret (ret3 rfl (RV.cellN (b := p2) (o' := 0) (i := 0) (j := 0) (cs := [nV .u8 pr.toNat, nV .u32 s, nV .u32 d, nV .u16 (uF s d xs 0), nV .u16 (uF s d xs 2)]) (vs := [nV .u8 pr.toNat, nV .u32 s, nV .u32 d, nV .u16 (uF s d xs 0), nV .u16 (uF s d xs 2)]) (by kernel_rfl) Try.isAgg30 Try.sizeOf30 rfl rfl rfl rfl) (RV.tmp (v := Value.int .i64 1) (by kernel_rfl)) (RV.tmp (v := Value.int .i64 0) (by kernel_rfl)) hS_ ⟨by clear hK1 hK3 hK5 hK6 hK8 hK29 hK33 hK39 hK40 hK47; refine congrArg Ending.returned ?_; simp only [ofK, ofP, ofS, ofD, ofF, ofT, hE_, hZ_, hisT_, hisU_, cond_true, cond_false]; try (rw [show uR s d xs = (0 : Int) from by have z_ := h43; simpa using z_]); try rfl, hS_.below⟩)
    · have qh32 := h32; try simp only [Bool.and_eq_true, Bool.or_eq_true, Bool.not_eq_true', Bool.not_eq_false', Bool.and_eq_false_iff, Bool.or_eq_false_iff, decide_eq_true_eq, decide_eq_false_iff_not, beq_iff_eq, bne_iff_ne, beq_eq_false_iff_ne, bne_eq_false_iff_eq] at qh32
      refine W.seq (fun K49 hK49 => ?_)
      refine W.region ?_
      refine Wl.run 2 (by kernel_rfl) ?_
      refine Wl.nil ?_
      refine hK49 _ _ _ ?_
      refine W.prune' [1, 2, 3, 56] [Value.pointer (some ⟨p1, 0, none⟩), Value.pointer (some ⟨p2, 0, none⟩), Value.int .i64 0, Value.bool (((pr.toNat : Nat) : Int) == 1)] (by kernel_rfl) (fun f50 => ?_)
      refine W.cond (((pr.toNat : Nat) : Int) == 1) (by kernel_rfl) (fun h51 => ?_) (fun h52 => ?_)
      · have qh51 := h51; try simp only [Bool.and_eq_true, Bool.or_eq_true, Bool.not_eq_true', Bool.not_eq_false', Bool.and_eq_false_iff, Bool.or_eq_false_iff, decide_eq_true_eq, decide_eq_false_iff_not, beq_iff_eq, bne_iff_ne, beq_eq_false_iff_ne, bne_eq_false_iff_eq] at qh51
        refine W.region ?_
        refine Wl.ys (v := Value.agg ([nV .u8 tt.toNat, nV .u8 pr.toNat, nV .u16 id, nV .u32 s, nV .u32 d, Value.slice a xs.length cap]).toArray) rfl rfl (Ys.loadN (b := p1) (o' := 0) (i := 1) (j := 0) (cs := [nV .u8 tt.toNat, nV .u8 pr.toNat, nV .u16 id, nV .u32 s, nV .u32 d, Value.slice a xs.length cap]) (vs := [nV .u8 tt.toNat, nV .u8 pr.toNat, nV .u16 id, nV .u32 s, nV .u32 d, Value.slice a xs.length cap]) rfl (by kernel_rfl) Try.isAgg27 Try.sizeOf27 rfl rfl rfl rfl) ?_
        refine Wl.ys (v := Value.agg ([nV .u8 pr.toNat, nV .u32 s, nV .u32 d, Value.int .u16 0, Value.int .u16 0]).toArray) rfl rfl (Ys.loadN (b := p2) (o' := 0) (i := 0) (j := 0) (cs := [nV .u8 pr.toNat, nV .u32 s, nV .u32 d, Value.int .u16 0, Value.int .u16 0]) (vs := [nV .u8 pr.toNat, nV .u32 s, nV .u32 d, Value.int .u16 0, Value.int .u16 0]) rfl (by kernel_rfl) Try.isAgg30 Try.sizeOf30 rfl rfl rfl rfl) ?_
        refine Wl.yc (v := Value.tuple #[Value.agg ([nV .u8 ((msP pr xs).toNat), nV .u32 (msS s 16 xs), nV .u32 (msS d 12 xs), nV .u16 (msF 0 xs), nV .u16 (msT 0 xs)]).toArray, Value.int .i64 (msK xs), Value.int .i64 (msE xs)]) rfl rfl (Yc.call (k := 24) (args := #[Value.agg ([nV .u8 tt.toNat, nV .u8 pr.toNat, nV .u16 id, nV .u32 s, nV .u32 d, Value.slice a xs.length cap]).toArray, Value.agg ([nV .u8 pr.toNat, nV .u32 s, nV .u32 d, Value.int .u16 0, Value.int .u16 0]).toArray]) (fun _ => by kernel_rfl) (fun w_ hm_ => (messagen_c tt pr id s d xs a cap pr s d 0 0 xs.length _ (by first | rfl | (rw [List.length_take]; omega) | (simp; done) | (simp [be_len, be_len, psh_len]; omega)) (hat.mem0 hm_) (by first | omega | exact anN_lt (by omega)) (by first | omega | exact anN_lt (by omega)) (by first | omega | exact anN_lt (by omega)) (by first | omega | (simp; done) | (simp; omega)) (by first | omega | (simp; omega))))) ?_
        refine Wl.run 4 (by kernel_rfl) ?_
        refine Wl.ht rfl (Ht.storeN (b := p2) (o' := 0) (i := 0) (j := 0) (cs := [nV .u8 pr.toNat, nV .u32 s, nV .u32 d, Value.int .u16 0, Value.int .u16 0]) (vs := [nV .u8 ((msP pr xs).toNat), nV .u32 (msS s 16 xs), nV .u32 (msS d 12 xs), nV .u16 (msF 0 xs), nV .u16 (msT 0 xs)]) (cs' := [nV .u8 ((msP pr xs).toNat), nV .u32 (msS s 16 xs), nV .u32 (msS d 12 xs), nV .u16 (msF 0 xs), nV .u16 (msT 0 xs)]) (LL' := [[cb p2 [nV .u8 ((msP pr xs).toNat), nV .u32 (msS s 16 xs), nV .u32 (msS d 12 xs), nV .u16 (msF 0 xs), nV .u16 (msT 0 xs)] 30], [cb p1 [nV .u8 tt.toNat, nV .u8 pr.toNat, nV .u16 id, nV .u32 s, nV .u32 d, Value.slice a xs.length cap] 27]]) rfl rfl (by kernel_rfl) (by kernel_rfl) Try.sizeOf30 (by simp [Value.oneCell']) rfl rfl (by simp) rfl rfl) (fun _ => ?_)
        refine Wl.run 2 (by kernel_rfl) ?_
        refine Wl.nil ?_
        refine hK5 _ _ _ ?_
        refine W.pick (LL' := [[cb p2 [nV .u8 ((msP pr xs).toNat), nV .u32 (msS s 16 xs), nV .u32 (msS d 12 xs), nV .u16 (msF 0 xs), nV .u16 (msT 0 xs)] 30]]) [0] (by decide) rfl ?_
        refine W.prune' [2, 3, 4] [Value.pointer (some ⟨p2, 0, none⟩), Value.int .i64 (msK xs), Value.int .i64 (msE xs)] (by kernel_rfl) (fun f53 => ?_)
        refine W.seq (fun K54 hK54 => ?_)
        refine W.seq (fun K55 hK55 => ?_)
        refine W.region ?_
        refine Wl.run 2 (by kernel_rfl) ?_
        refine Wl.nil ?_
        refine hK55 _ _ _ ?_
        refine W.prune' [2, 3, 4, 66] [Value.pointer (some ⟨p2, 0, none⟩), Value.int .i64 (msK xs), Value.int .i64 (msE xs), Value.bool ((msE xs) != 0)] (by kernel_rfl) (fun f56 => ?_)
        refine W.cond ((msE xs) != 0) (by kernel_rfl) (fun h57 => ?_) (fun h58 => ?_)
        · have qh57 := h57; try simp only [Bool.and_eq_true, Bool.or_eq_true, Bool.not_eq_true', Bool.not_eq_false', Bool.and_eq_false_iff, Bool.or_eq_false_iff, decide_eq_true_eq, decide_eq_false_iff_not, beq_iff_eq, bne_iff_ne, beq_eq_false_iff_ne, bne_eq_false_iff_eq] at qh57
          refine W.seq (fun K59 hK59 => ?_)
          refine W.region ?_
          refine Wl.run 2 (by kernel_rfl) ?_
          refine Wl.ht rfl (Ht.storeN (b := p2) (o' := 0) (i := 0) (j := 0) (cs := [nV .u8 ((msP pr xs).toNat), nV .u32 (msS s 16 xs), nV .u32 (msS d 12 xs), nV .u16 (msF 0 xs), nV .u16 (msT 0 xs)]) (vs := [Value.int .u8 0, Value.int .u32 0, Value.int .u32 0, Value.int .u16 0, Value.int .u16 0]) (cs' := [Value.int .u8 0, Value.int .u32 0, Value.int .u32 0, Value.int .u16 0, Value.int .u16 0]) (LL' := [[cb p2 [Value.int .u8 0, Value.int .u32 0, Value.int .u32 0, Value.int .u16 0, Value.int .u16 0] 30]]) rfl rfl (by kernel_rfl) (by kernel_rfl) Try.sizeOf30 (by simp [Value.oneCell']) rfl rfl (by simp) rfl rfl) (fun _ => ?_)
          refine Wl.run 2 (by kernel_rfl) ?_
          refine Wl.nil ?_
          refine hK59 _ _ _ ?_
          refine W.prune' [2, 3, 4] [Value.pointer (some ⟨p2, 0, none⟩), Value.int .i64 0, Value.int .i64 (msE xs)] (by kernel_rfl) (fun f60 => ?_)
          refine W.ret ?_
          have hisT_ : isT pr = false := h11
          have hisU_ : isU pr = false := h32
          have hisI_ : isI pr = true := h51
          have hE_ : ofE pr s d xs = msE xs := by simp only [ofE, hisT_, hisU_, hisI_, cond_true, cond_false]
          have hZ_ : ofZ pr s d xs = false := by unfold ofZ; rw [hE_, h57]; rfl
          show ∀ w_, _ → bodyPostM (fence none) 0 Try.prog Try.f11 _ Exit.ret _ w_
          exact fun w_ hS_ => fin_ret (ret3 rfl (RV.cellN (b := p2) (o' := 0) (i := 0) (j := 0) (cs := [Value.int .u8 0, Value.int .u32 0, Value.int .u32 0, Value.int .u16 0, Value.int .u16 0]) (vs := [Value.int .u8 0, Value.int .u32 0, Value.int .u32 0, Value.int .u16 0, Value.int .u16 0]) (by kernel_rfl) Try.isAgg30 Try.sizeOf30 rfl rfl rfl rfl) (RV.tmp (v := Value.int .i64 0) (by kernel_rfl)) (RV.tmp (v := Value.int .i64 (msE xs)) (by kernel_rfl)) hS_ ⟨by clear hK1 hK3 hK5 hK6 hK8 hK29 hK49 hK54 hK55 hK59; refine congrArg Ending.returned ?_; simp only [ofK, ofP, ofS, ofD, ofF, ofT, hE_, hZ_, hisT_, hisU_, hisI_, cond_true, cond_false]; try rfl, hS_.below⟩)
        · have qh58 := h58; try simp only [Bool.and_eq_true, Bool.or_eq_true, Bool.not_eq_true', Bool.not_eq_false', Bool.and_eq_false_iff, Bool.or_eq_false_iff, decide_eq_true_eq, decide_eq_false_iff_not, beq_iff_eq, bne_iff_ne, beq_eq_false_iff_ne, bne_eq_false_iff_eq] at qh58
          refine W.skip' ?_
          refine hK54 _ _ _ ?_
          refine W.prune' [2, 3] [Value.pointer (some ⟨p2, 0, none⟩), Value.int .i64 (msK xs)] (by kernel_rfl) (fun f61 => ?_)
          refine W.seq (fun K62 hK62 => ?_)
          refine W.region ?_
          refine Wl.ys (v := Value.agg ([nV .u8 ((msP pr xs).toNat), nV .u32 (msS s 16 xs), nV .u32 (msS d 12 xs), nV .u16 (msF 0 xs), nV .u16 (msT 0 xs)]).toArray) rfl rfl (Ys.loadN (b := p2) (o' := 0) (i := 0) (j := 0) (cs := [nV .u8 ((msP pr xs).toNat), nV .u32 (msS s 16 xs), nV .u32 (msS d 12 xs), nV .u16 (msF 0 xs), nV .u16 (msT 0 xs)]) (vs := [nV .u8 ((msP pr xs).toNat), nV .u32 (msS s 16 xs), nV .u32 (msS d 12 xs), nV .u16 (msF 0 xs), nV .u16 (msT 0 xs)]) rfl (by kernel_rfl) Try.isAgg30 Try.sizeOf30 rfl rfl rfl rfl) ?_
          refine Wl.run 1 (by kernel_rfl) ?_
          refine Wl.ht rfl (Ht.storeN (b := p2) (o' := 0) (i := 0) (j := 0) (cs := [nV .u8 ((msP pr xs).toNat), nV .u32 (msS s 16 xs), nV .u32 (msS d 12 xs), nV .u16 (msF 0 xs), nV .u16 (msT 0 xs)]) (vs := [nV .u8 ((msP pr xs).toNat), nV .u32 (msS s 16 xs), nV .u32 (msS d 12 xs), nV .u16 (msF 0 xs), nV .u16 (msT 0 xs)]) (cs' := [nV .u8 ((msP pr xs).toNat), nV .u32 (msS s 16 xs), nV .u32 (msS d 12 xs), nV .u16 (msF 0 xs), nV .u16 (msT 0 xs)]) (LL' := [[cb p2 [nV .u8 ((msP pr xs).toNat), nV .u32 (msS s 16 xs), nV .u32 (msS d 12 xs), nV .u16 (msF 0 xs), nV .u16 (msT 0 xs)] 30]]) rfl rfl (by kernel_rfl) (by kernel_rfl) Try.sizeOf30 (by simp [Value.oneCell']) rfl rfl (by simp) rfl rfl) (fun _ => ?_)
          refine Wl.run 2 (by kernel_rfl) ?_
          refine Wl.nil ?_
          refine hK62 _ _ _ ?_
          refine W.prune' [2, 3, 4] [Value.pointer (some ⟨p2, 0, none⟩), Value.int .i64 (msK xs), Value.int .i64 0] (by kernel_rfl) (fun f63 => ?_)
          refine W.ret ?_
          have hisT_ : isT pr = false := h11
          have hisU_ : isU pr = false := h32
          have hisI_ : isI pr = true := h51
          have hE_ : ofE pr s d xs = msE xs := by simp only [ofE, hisT_, hisU_, hisI_, cond_true, cond_false]
          have hZ_ : ofZ pr s d xs = true := by unfold ofZ; rw [hE_, h58]; rfl
          show ∀ w_, _ → bodyPostM (fence none) 0 Try.prog Try.f11 _ Exit.ret _ w_
          exact fun w_ hS_ => fin_ret (ret3 rfl (RV.cellN (b := p2) (o' := 0) (i := 0) (j := 0) (cs := [nV .u8 ((msP pr xs).toNat), nV .u32 (msS s 16 xs), nV .u32 (msS d 12 xs), nV .u16 (msF 0 xs), nV .u16 (msT 0 xs)]) (vs := [nV .u8 ((msP pr xs).toNat), nV .u32 (msS s 16 xs), nV .u32 (msS d 12 xs), nV .u16 (msF 0 xs), nV .u16 (msT 0 xs)]) (by kernel_rfl) Try.isAgg30 Try.sizeOf30 rfl rfl rfl rfl) (RV.tmp (v := Value.int .i64 (msK xs)) (by kernel_rfl)) (RV.tmp (v := Value.int .i64 0) (by kernel_rfl)) hS_ ⟨by clear hK1 hK3 hK5 hK6 hK8 hK29 hK49 hK54 hK55 hK62; refine congrArg Ending.returned ?_; simp only [ofK, ofP, ofS, ofD, ofF, ofT, hE_, hZ_, hisT_, hisU_, hisI_, cond_true, cond_false]; try (rw [show msE xs = (0 : Int) from by have z_ := h58; simpa using z_]); try rfl, hS_.below⟩)
      · have qh52 := h52; try simp only [Bool.and_eq_true, Bool.or_eq_true, Bool.not_eq_true', Bool.not_eq_false', Bool.and_eq_false_iff, Bool.or_eq_false_iff, decide_eq_true_eq, decide_eq_false_iff_not, beq_iff_eq, bne_iff_ne, beq_eq_false_iff_ne, bne_eq_false_iff_eq] at qh52
        refine W.region ?_
        refine Wl.run 1 (by kernel_rfl) ?_
        refine Wl.nil ?_
        refine hK5 _ _ _ ?_
        refine W.pick (LL' := [[cb p2 [nV .u8 pr.toNat, nV .u32 s, nV .u32 d, Value.int .u16 0, Value.int .u16 0] 30]]) [0] (by decide) rfl ?_
        refine W.prune' [2, 3, 4] [Value.pointer (some ⟨p2, 0, none⟩), Value.int .i64 0, Value.int .i64 11] (by kernel_rfl) (fun f64 => ?_)
        refine W.seq (fun K65 hK65 => ?_)
        refine W.seq (fun K66 hK66 => ?_)
        refine W.region ?_
        refine Wl.run 2 (by kernel_rfl) ?_
        refine Wl.nil ?_
        refine hK66 _ _ _ ?_
        refine W.prune' [2, 3, 4, 66] [Value.pointer (some ⟨p2, 0, none⟩), Value.int .i64 0, Value.int .i64 11, Value.bool true] (by kernel_rfl) (fun f67 => ?_)
        refine W.condT (by kernel_rfl) ?_
        refine W.seq (fun K68 hK68 => ?_)
        refine W.region ?_
        refine Wl.run 2 (by kernel_rfl) ?_
        refine Wl.ht rfl (Ht.storeN (b := p2) (o' := 0) (i := 0) (j := 0) (cs := [nV .u8 pr.toNat, nV .u32 s, nV .u32 d, Value.int .u16 0, Value.int .u16 0]) (vs := [Value.int .u8 0, Value.int .u32 0, Value.int .u32 0, Value.int .u16 0, Value.int .u16 0]) (cs' := [Value.int .u8 0, Value.int .u32 0, Value.int .u32 0, Value.int .u16 0, Value.int .u16 0]) (LL' := [[cb p2 [Value.int .u8 0, Value.int .u32 0, Value.int .u32 0, Value.int .u16 0, Value.int .u16 0] 30]]) rfl rfl (by kernel_rfl) (by kernel_rfl) Try.sizeOf30 (by simp [Value.oneCell']) rfl rfl (by simp) rfl rfl) (fun _ => ?_)
        refine Wl.run 2 (by kernel_rfl) ?_
        refine Wl.nil ?_
        refine hK68 _ _ _ ?_
        refine W.prune' [2, 3, 4] [Value.pointer (some ⟨p2, 0, none⟩), Value.int .i64 0, Value.int .i64 11] (by kernel_rfl) (fun f69 => ?_)
        refine W.ret ?_
        have hisT_ : isT pr = false := h11
        have hisU_ : isU pr = false := h32
        have hisI_ : isI pr = false := h52
        have hE_ : ofE pr s d xs = 11 := by simp only [ofE, hisT_, hisU_, hisI_, cond_true, cond_false]
        have hZ_ : ofZ pr s d xs = false := by unfold ofZ; rw [hE_]; rfl
        show ∀ w_, _ → bodyPostM (fence none) 0 Try.prog Try.f11 _ Exit.ret _ w_
        exact fun w_ hS_ => fin_ret (ret3 rfl (RV.cellN (b := p2) (o' := 0) (i := 0) (j := 0) (cs := [Value.int .u8 0, Value.int .u32 0, Value.int .u32 0, Value.int .u16 0, Value.int .u16 0]) (vs := [Value.int .u8 0, Value.int .u32 0, Value.int .u32 0, Value.int .u16 0, Value.int .u16 0]) (by kernel_rfl) Try.isAgg30 Try.sizeOf30 rfl rfl rfl rfl) (RV.tmp (v := Value.int .i64 0) (by kernel_rfl)) (RV.tmp (v := Value.int .i64 11) (by kernel_rfl)) hS_ ⟨by clear hK1 hK3 hK5 hK6 hK8 hK29 hK49 hK65 hK66 hK68; refine congrArg Ending.returned ?_; simp only [ofK, ofP, ofS, ofD, ofF, ofT, hE_, hZ_, hisT_, hisU_, hisI_, cond_true, cond_false]; try rfl, hS_.below⟩)
theorem ofn_c (tt pr : UInt8) (id s d : Nat) (xs : List UInt8) (a : Option Addr) (cap : Nat) (len : Nat) (w : World) (hn : len = xs.length) (hat : At w a (byc xs)) (hi : id < 65536) (hs : s < 4294967296) (hd : d < 4294967296) (hl : xs.length ≤ 100000) (hlc : xs.length ≤ cap)  : Calls Try.prog 11 #[Value.agg ([Value.int .u8 ((tt.toNat : Nat) : Int), Value.int .u8 ((pr.toNat : Nat) : Int), Value.int .u16 ((id : Nat) : Int), Value.int .u32 ((s : Nat) : Int), Value.int .u32 ((d : Nat) : Int), Value.slice a len cap]).toArray] w (Ret w (.tuple #[.agg ([Value.int .u8 (((ofP pr s d xs).toNat : Nat) : Int), Value.int .u32 ((ofS pr s d xs : Nat) : Int), Value.int .u32 ((ofD pr s d xs : Nat) : Int), Value.int .u16 ((ofF pr s d xs : Nat) : Int), Value.int .u16 ((ofT pr s d xs : Nat) : Int)]).toArray, .int .i64 (ofK pr s d xs), .int .i64 (ofE pr s d xs)])) := by
  subst hn; exact of_c tt pr id s d xs a cap w hat hi hs hd hl hlc
end Go.Proofs.Ytejeafjkhomdoaa.Oct
