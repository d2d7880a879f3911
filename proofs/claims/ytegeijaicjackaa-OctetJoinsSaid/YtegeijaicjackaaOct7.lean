/-
  OctetReads. No condition.
-/
import Derived.Test.YtegeijaicjackaaOct6
set_option linter.unusedVariables false
set_option linter.unusedSimpArgs false
set_option maxRecDepth 20000
namespace Go.Proofs.Ytegeijaicjackaa.Oct
open Go.RowKit Base
attribute [local irreducible] Ys Yc Ht HtIn Wl Wd W Mem pf dpf

theorem eOut_ys (ys : List UInt8) (n : Int) : (eOut ys n).length ≤ ys.length := by
  unfold eOut; split
  · rw [List.length_take]; omega
  · simp
theorem getD_mem {α : Type} {p : α → Prop} {xs : List α} {k : Nat} {d : α} (h : ∀ x ∈ xs, p x) (hk : k < xs.length) : p (xs.getD k d) := by
  rw [List.getD_eq_getElem?_getD, List.getElem?_eq_getElem hk]; exact h _ (List.getElem_mem hk)
theorem reads_c (xs : List UInt8) (a : Option Addr) (cap : Nat) (ns : List Int) (na : Option Addr) (ncap : Nat) (w : World) (hat : At w a (byc xs)) (hns : At w na (mc (Value.int .i64) ns)) (hxl : xs.length ≤ 9223372036854775807) (hnl : ns.length ≤ 9223372036854775807) (hcp : xs.length ≤ cap) (hnb : ∀ x ∈ ns, -9223372036854775808 ≤ x ∧ x ≤ 9223372036854775807) : Calls Try.prog 4 #[Value.slice a xs.length cap, Value.slice na ns.length ncap] w (Ret w (.bool true)) := by
  refine calls_W (M := []) (LL := []) (n := 101) Try.func4 rfl rfl (by simp) (Mem.refl _) ?_
  refine W.seq (fun K1 hK1 => ?_)
  refine W.region ?_
  refine Wl.run 1 (by kernel_rfl) ?_
  refine Wl.nil ?_
  refine hK1 _ _ _ ?_
  refine W.seq (fun K2 hK2 => ?_)
  refine W.seq (fun K3 hK3 => ?_)
  refine W.region ?_
  refine Wl.yc (v := Value.bool true) rfl rfl (Yc.call (k := 13) (args := #[]) (fun _ => by kernel_rfl) (fun w_ hm_ => speaks_c _)) ?_
  refine Wl.run 1 (by kernel_rfl) ?_
  refine Wl.nil ?_
  refine hK3 _ _ _ ?_
  refine W.prune' [0, 1, 14] [Value.slice a xs.length cap, Value.slice na ns.length ncap, Value.bool false] (by kernel_rfl) (fun f4 => ?_)
  refine W.condF (by kernel_rfl) ?_
  refine W.skip' ?_
  refine hK2 _ _ _ ?_
  refine W.prune' [0, 1] [Value.slice a xs.length cap, Value.slice na ns.length ncap] (by kernel_rfl) (fun f5 => ?_)
  refine W.seq (fun K6 hK6 => ?_)
  refine W.seq (fun K7 hK7 => ?_)
  refine W.region ?_
  refine Wl.run 4 (by kernel_rfl) ?_
  refine Wl.guard (v := Value.slice na ns.length ncap) (!(decide (((xs.length : Nat) : Int) > 5000))) rfl (wantF rfl (by kernel_rfl)) rfl (fun hg8 => ?_) ?_
  · have qhg8 := hg8; try simp only [Bool.and_eq_true, Bool.or_eq_true, Bool.not_eq_true', Bool.not_eq_false', Bool.and_eq_false_iff, Bool.or_eq_false_iff, decide_eq_true_eq, decide_eq_false_iff_not, beq_iff_eq, bne_iff_ne, beq_eq_false_iff_ne, bne_eq_false_iff_eq] at qhg8
    exact Ys.pure (fun _ => by kernel_rfl)
  refine Wl.guard (v := Value.int .i64 ((ns.length : Nat) : Int)) (!(decide (((xs.length : Nat) : Int) > 5000))) rfl (wantF rfl (by kernel_rfl)) rfl (fun hg9 => ?_) ?_
  · have qhg9 := hg9; try simp only [Bool.and_eq_true, Bool.or_eq_true, Bool.not_eq_true', Bool.not_eq_false', Bool.and_eq_false_iff, Bool.or_eq_false_iff, decide_eq_true_eq, decide_eq_false_iff_not, beq_iff_eq, bne_iff_ne, beq_eq_false_iff_ne, bne_eq_false_iff_eq] at qhg9
    refine Ys.at (t := 19) (v0 := Value.slice na ns.length ncap) (lz (g := !(decide (((xs.length : Nat) : Int) > 5000))) (u := undef) hg9 (by kernel_rfl)) ?_
    exact Ys.pure (fun _ => by kernel_rfl)
  refine Wl.guard (v := Value.bool (decide (((ns.length : Nat) : Int) > 200))) (!(decide (((xs.length : Nat) : Int) > 5000))) rfl (wantF rfl (by kernel_rfl)) rfl (fun hg10 => ?_) ?_
  · have qhg10 := hg10; try simp only [Bool.and_eq_true, Bool.or_eq_true, Bool.not_eq_true', Bool.not_eq_false', Bool.and_eq_false_iff, Bool.or_eq_false_iff, decide_eq_true_eq, decide_eq_false_iff_not, beq_iff_eq, bne_iff_ne, beq_eq_false_iff_ne, bne_eq_false_iff_eq] at qhg10
    refine Ys.at (t := 20) (v0 := Value.int .i64 ((ns.length : Nat) : Int)) (lz (g := !(decide (((xs.length : Nat) : Int) > 5000))) (u := undef) hg10 (by kernel_rfl)) ?_
    exact Ys.pure (fun _ => by kernel_rfl)
  refine Wl.ys (v := Value.bool ((decide (((xs.length : Nat) : Int) > 5000)) || (decide (((ns.length : Nat) : Int) > 200)))) rfl rfl (Ys.or' (e := decide (((xs.length : Nat) : Int) > 5000)) (b := decide (((ns.length : Nat) : Int) > 200)) rfl (by kernel_rfl) (by kernel_rfl) (by kernel_rfl)) ?_
  refine Wl.nil ?_
  refine hK7 _ _ _ ?_
  refine W.prune' [0, 1, 22] [Value.slice a xs.length cap, Value.slice na ns.length ncap, Value.bool ((decide (((xs.length : Nat) : Int) > 5000)) || (decide (((ns.length : Nat) : Int) > 200)))] (by kernel_rfl) (fun f11 => ?_)
  refine W.cond ((decide (((xs.length : Nat) : Int) > 5000)) || (decide (((ns.length : Nat) : Int) > 200))) (by kernel_rfl) (fun h12 => ?_) (fun h13 => ?_)
  · have qh12 := h12; try simp only [Bool.and_eq_true, Bool.or_eq_true, Bool.not_eq_true', Bool.not_eq_false', Bool.and_eq_false_iff, Bool.or_eq_false_iff, decide_eq_true_eq, decide_eq_false_iff_not, beq_iff_eq, bne_iff_ne, beq_eq_false_iff_ne, bne_eq_false_iff_eq] at qh12
    refine W.seq (fun K14 hK14 => ?_)
    refine W.region ?_
    refine Wl.run 1 (by kernel_rfl) ?_
    refine Wl.nil ?_
    refine hK14 _ _ _ ?_
    refine W.ret ?_
    show ∀ w_, _ → bodyPostM (fence none) 0 Try.prog Try.f4 _ Exit.ret _ w_
    exact fun w_ hS_ => fin_ret (ret1 rfl (RV.tmp (v := Value.bool true) (by kernel_rfl)) hS_ ⟨rfl, hS_.below⟩)
  · have qh13 := h13; try simp only [Bool.and_eq_true, Bool.or_eq_true, Bool.not_eq_true', Bool.not_eq_false', Bool.and_eq_false_iff, Bool.or_eq_false_iff, decide_eq_true_eq, decide_eq_false_iff_not, beq_iff_eq, bne_iff_ne, beq_eq_false_iff_ne, bne_eq_false_iff_eq] at qh13
    refine W.skip' ?_
    refine hK6 _ _ _ ?_
    refine W.prune' [0, 1] [Value.slice a xs.length cap, Value.slice na ns.length ncap] (by kernel_rfl) (fun f15 => ?_)
    refine W.seq (fun K16 hK16 => ?_)
    refine W.region ?_
    refine Wl.ht rfl (Ht.made (mk := fun b_ => .slice (some ⟨b_, 0, none⟩) 0 0) (t := 5) (cs := []) rfl (fun _ => by kernel_rfl)) (fun p23 => ?_)
    refine Wl.run 1 (by kernel_rfl) ?_
    refine Wl.ht rfl (Ht.append (eu := 5) (xv := Value.slice a xs.length cap) (i := 0) (g := (FS.mk false p23 0 [])) (e := 5) (ii := (Try.prog.info? 5).getD default) (z := Value.int .u8 0) (sz := 1) (bytes := 1) (nn := 0) (m := xs.length) (k := xs.length) (xs := mc b8 []) (news := mc b8 xs) (cs' := mc b8 xs) (Lo := fun g17 => [g17.seg 5 (mc b8 xs)]) rfl rfl (by kernel_rfl) (by kernel_rfl) (by kernel_rfl) (by kernel_rfl) (by kernel_rfl) (by kernel_rfl) (by kernel_rfl) (by kernel_rfl) (by kernel_rfl) rfl (FS.lit_ok (by decide)) (by first | rfl | simp [mc, be_len]) (fun _ => rfl) (Src.at (a := a) (mc_len1 _) (fun w_ h_ => (hat.mem0 h_))) (mc_len1 _) (mc_one (fun _ => rfl) _) (by first | omega | (simp; done) | (simp; omega)) (by simp only [maxLen]; first | omega | (simp; omega)) (by first | omega | (simp; omega)) rfl (fun _ => rfl)) (fun x21 => ?_)
    obtain ⟨g17, ok18, hn19, hn20⟩ := x21
    refine Wl.castL (LL' := [g17.seg 5 (mc b8 xs)]) rfl ?_
    refine Wl.run 1 (by kernel_rfl) ?_
    refine Wl.nil ?_
    refine hK16 _ _ _ ?_
    refine W.prune' [0, 1, 5] [Value.slice a xs.length cap, Value.slice na ns.length ncap, Value.slice g17.a xs.length g17.cap] (by kernel_rfl) (fun f22 => ?_)
    refine W.seq (fun K23 hK23 => ?_)
    refine W.region ?_
    refine Wl.run 1 (by kernel_rfl) ?_
    refine Wl.ht rfl (Ht.call (β := NE) (k := 16) (args := #[Value.slice g17.a xs.length g17.cap]) (Lin := []) (Lk := [g17.seg 5 (mc b8 xs)]) (Mi := []) (Lo := fun ne24 => [[cb ne24.b [Value.slice ne24.g.a xs.length ne24.g.cap, Value.bool false] 66], ne24.g.seg 5 (mc b8 xs), g17.seg 5 (mc b8 xs)]) [] [0] rfl (fun _ => by kernel_rfl) (by decide) rfl rfl rfl (fun w_ hm_ hl_ => (neweyen_c xs g17.a xs.length g17.cap _ rfl (FS.at (i := 0) (t := 5) hm_ rfl (FS.nil_cs ok18 (mc_len1 _))) (by first | omega | (simp; omega)))) (fun _ => rfl)) (fun x27 => ?_)
    obtain ⟨ne24, ok25⟩ := x27
    refine Wl.castL (LL' := [[cb ne24.b [Value.slice ne24.g.a xs.length ne24.g.cap, Value.bool false] 66], ne24.g.seg 5 (mc b8 xs), g17.seg 5 (mc b8 xs)]) rfl ?_
    refine Wl.run 2 (by kernel_rfl) ?_
    refine Wl.ht rfl (Ht.box (v := Value.agg ([Value.slice a xs.length cap, Value.int .i64 0, Value.bool false]).toArray) (cs := [Value.slice a xs.length cap, Value.int .i64 0, Value.bool false]) rfl rfl (by kernel_rfl) rfl) (fun p30 => ?_)
    refine Wl.run 2 (by kernel_rfl) ?_
    refine Wl.nil ?_
    refine hK23 _ _ _ ?_
    refine W.prune' [1, 5, 6, 7] [Value.slice na ns.length ncap, Value.slice g17.a xs.length g17.cap, Value.pointer (some ⟨ne24.b, 0, none⟩), Value.pointer (some ⟨p30, 0, none⟩)] (by kernel_rfl) (fun f28 => ?_)
    refine W.seq (fun K29 hK29 => ?_)
    refine W.seq (fun K30 hK30 => ?_)
    refine W.region ?_
    refine Wl.run 2 (by kernel_rfl) ?_
    refine Wl.nil ?_
    refine hK30 _ _ _ ?_
    refine W.prune' [1, 5, 6, 7, 32] [Value.slice na ns.length ncap, Value.slice g17.a xs.length g17.cap, Value.pointer (some ⟨ne24.b, 0, none⟩), Value.pointer (some ⟨p30, 0, none⟩), Value.bool false] (by kernel_rfl) (fun f31 => ?_)
    refine W.condF (by kernel_rfl) ?_
    refine W.skip' ?_
    refine hK29 _ _ _ ?_
    refine W.prune' [1, 5, 6, 7] [Value.slice na ns.length ncap, Value.slice g17.a xs.length g17.cap, Value.pointer (some ⟨ne24.b, 0, none⟩), Value.pointer (some ⟨p30, 0, none⟩)] (by kernel_rfl) (fun f32 => ?_)
    refine W.seq (fun K33 hK33 => ?_)
    refine W.seq (fun K34 hK34 => ?_)
    refine W.region ?_
    refine Wl.run 3 (by kernel_rfl) ?_
    refine Wl.nil ?_
    refine hK34 _ _ _ ?_
    refine W.prune' [1, 5, 6, 7, 34, 35] [Value.slice na ns.length ncap, Value.slice g17.a xs.length g17.cap, Value.pointer (some ⟨ne24.b, 0, none⟩), Value.pointer (some ⟨p30, 0, none⟩), Value.int .i64 ((xs.length : Nat) : Int), Value.int .i64 0] (by kernel_rfl) (fun f35 => ?_)
    refine W.block ?_
    refine W.loop2 [1, 5, 6, 7, 34, 35] (fun (j : Nat) (zs : List UInt8) => [Value.slice na ns.length ncap, Value.slice g17.a xs.length g17.cap, Value.pointer (some ⟨ne24.b, 0, none⟩), Value.pointer (some ⟨p30, 0, none⟩), Value.int .i64 ((xs.length : Nat) : Int), Value.int .i64 ((j : Nat) : Int)]) (fun (j : Nat) (zs : List UInt8) => j ≤ xs.length ∧ zs.length = xs.length) (fun (j : Nat) (zs : List UInt8) => [[cb p30 [Value.slice a xs.length cap, Value.int .i64 0, Value.bool false] 34], [cb ne24.b [Value.slice ne24.g.a xs.length ne24.g.cap, Value.bool false] 66], ne24.g.seg 5 (mc b8 xs), g17.seg 5 (mc b8 zs)]) (fun (j : Nat) (zs : List UInt8) => xs.length - j) 0 xs (by kernel_rfl) ⟨(Nat.zero_le _), (by first | rfl | (simp; done))⟩ (by rfl) (fun j zs f37 J36 hp38 hJ36 => ?_)
    obtain ⟨hj, hz⟩ := hp38
    refine W.seq (fun K39 hK39 => ?_)
    refine W.region ?_
    refine Wl.run 1 (by kernel_rfl) ?_
    refine Wl.nil ?_
    refine hK39 _ _ _ ?_
    refine W.seq (fun K40 hK40 => ?_)
    refine W.cond (decide (((j : Nat) : Int) < ((xs.length : Nat) : Int))) (by kernel_rfl) (fun h41 => ?_) (fun h42 => ?_)
    · have qh41 := h41; try simp only [Bool.and_eq_true, Bool.or_eq_true, Bool.not_eq_true', Bool.not_eq_false', Bool.and_eq_false_iff, Bool.or_eq_false_iff, decide_eq_true_eq, decide_eq_false_iff_not, beq_iff_eq, bne_iff_ne, beq_eq_false_iff_ne, bne_eq_false_iff_eq] at qh41
      refine W.skip' ?_
      refine hK40 _ _ _ ?_
      refine W.prune' [1, 5, 6, 7, 34, 35] [Value.slice na ns.length ncap, Value.slice g17.a xs.length g17.cap, Value.pointer (some ⟨ne24.b, 0, none⟩), Value.pointer (some ⟨p30, 0, none⟩), Value.int .i64 ((xs.length : Nat) : Int), Value.int .i64 ((j : Nat) : Int)] (by kernel_rfl) (fun f43 => ?_)
      refine W.seq (fun K44 hK44 => ?_)
      refine W.block ?_
      refine W.seq (fun K45 hK45 => ?_)
      refine W.region ?_
      refine Wl.run 2 (by kernel_rfl) ?_
      refine Wl.nil ?_
      refine hK45 _ _ _ ?_
      refine W.prune' [1, 5, 6, 7, 8, 34, 35] [Value.slice na ns.length ncap, Value.slice g17.a xs.length g17.cap, Value.pointer (some ⟨ne24.b, 0, none⟩), Value.pointer (some ⟨p30, 0, none⟩), Value.int .i64 ((j : Nat) : Int), Value.int .i64 ((xs.length : Nat) : Int), Value.int .i64 ((j : Nat) : Int)] (by kernel_rfl) (fun f46 => ?_)
      refine W.region ?_
      refine Wl.run 2 (by kernel_rfl) ?_
      refine Wl.ys (v := Value.pointer (some (ela g17.a (j * 1)))) rfl rfl (Ys.indexAddr (k := .i64) (a := g17.a) (len := xs.length) (cap := g17.cap) (i := ((j : Nat) : Int)) (sz := 1) rfl (by kernel_rfl) (by kernel_rfl) Try.runUnderlying22 Try.sizeOf5 (by omega) (by omega) (by rw [FS.a_own (FS.notnil ok18 (by omega))]; rfl)) ?_
      refine Wl.ht rfl (Ht.storeFS (i := 3) (g := g17) (q := j * 1) (ty := 5) (cs := mc b8 zs) (cs' := mc b8 (zs.set j (238 : UInt8))) (v := Value.int .u8 238) (LL' := [[cb p30 [Value.slice a xs.length cap, Value.int .i64 0, Value.bool false] 34], [cb ne24.b [Value.slice ne24.g.a xs.length ne24.g.cap, Value.bool false] 66], ne24.g.seg 5 (mc b8 xs), g17.seg 5 (mc b8 (zs.set j (238 : UInt8)))]) rfl rfl (by kernel_rfl) (by kernel_rfl) Try.sizeOf5 rfl (FS.notnil ok18 (by omega)) rfl (by simp [mc, be_len]; omega) (mc_set1 (g := b8) zs j (238 : UInt8)) rfl) (fun _ => ?_)
      refine Wl.nil ?_
      refine hK44 _ _ _ ?_
      refine W.prune' [1, 5, 6, 7, 34, 35] [Value.slice na ns.length ncap, Value.slice g17.a xs.length g17.cap, Value.pointer (some ⟨ne24.b, 0, none⟩), Value.pointer (some ⟨p30, 0, none⟩), Value.int .i64 ((xs.length : Nat) : Int), Value.int .i64 ((j : Nat) : Int)] (by kernel_rfl) (fun f47 => ?_)
      refine W.region ?_
      refine Wl.ys (v := Value.int .i64 ((j + 1 : Nat) : Int)) rfl rfl ((Ys.pure (v := .int .i64 (iadd .i64 ((j : Nat) : Int) 1)) (fun _ => by kernel_rfl)).conseq (int_congr (iadd_eq (by omega) (by omega) (by omega)))) ?_
      refine Wl.run 1 (by kernel_rfl) ?_
      refine Wl.nil ?_
      refine fun w_ h_ => hJ36 (j + 1) (zs.set j (238 : UInt8)) _ w_ (by omega) ⟨(by omega), (by rw [List.length_set]; exact hz)⟩ ?_ h_
      kernel_rfl
    · have qh42 := h42; try simp only [Bool.and_eq_true, Bool.or_eq_true, Bool.not_eq_true', Bool.not_eq_false', Bool.and_eq_false_iff, Bool.or_eq_false_iff, decide_eq_true_eq, decide_eq_false_iff_not, beq_iff_eq, bne_iff_ne, beq_eq_false_iff_ne, bne_eq_false_iff_eq] at qh42
      refine W.exit ?_
      refine hK33 _ _ _ ?_
      refine W.pick (LL' := [[cb p30 [Value.slice a xs.length cap, Value.int .i64 0, Value.bool false] 34], [cb ne24.b [Value.slice ne24.g.a xs.length ne24.g.cap, Value.bool false] 66], ne24.g.seg 5 (mc b8 xs)]) [0, 1, 2] (by decide) rfl ?_
      refine W.prune' [1, 6, 7] [Value.slice na ns.length ncap, Value.pointer (some ⟨ne24.b, 0, none⟩), Value.pointer (some ⟨p30, 0, none⟩)] (by kernel_rfl) (fun f48 => ?_)
      refine W.seq (fun K49 hK49 => ?_)
      refine W.seq (fun K50 hK50 => ?_)
      refine W.region ?_
      refine Wl.run 3 (by kernel_rfl) ?_
      refine Wl.nil ?_
      refine hK50 _ _ _ ?_
      refine W.prune' [6, 7, 42, 43, 44] [Value.pointer (some ⟨ne24.b, 0, none⟩), Value.pointer (some ⟨p30, 0, none⟩), Value.slice na ns.length ncap, Value.int .i64 ((ns.length : Nat) : Int), Value.int .i64 0] (by kernel_rfl) (fun f51 => ?_)
      refine W.block ?_
      refine W.loop5 [6, 7, 42, 43, 44] (fun (q : Nat) (i : Nat) (bad : Bool) (va : Option Addr) (vc : Nat) => [Value.pointer (some ⟨ne24.b, 0, none⟩), Value.pointer (some ⟨p30, 0, none⟩), Value.slice na ns.length ncap, Value.int .i64 ((ns.length : Nat) : Int), Value.int .i64 ((q : Nat) : Int)]) (fun (q : Nat) (i : Nat) (bad : Bool) (va : Option Addr) (vc : Nat) => q ≤ ns.length ∧ i ≤ xs.length ∧ View va (xs.drop i) ne24.g.a xs ∧ (xs.drop i).length ≤ vc) (fun (q : Nat) (i : Nat) (bad : Bool) (va : Option Addr) (vc : Nat) => [[cb p30 [Value.slice a xs.length cap, Value.int .i64 ((i : Nat) : Int), Value.bool bad] 34], [cb ne24.b [Value.slice va ((xs.drop i).length) vc, Value.bool bad] 66], ne24.g.seg 5 (mc b8 xs)]) (fun (q : Nat) (i : Nat) (bad : Bool) (va : Option Addr) (vc : Nat) => ns.length - q) 0 0 false ne24.g.a ne24.g.cap (by kernel_rfl) ⟨(Nat.zero_le _), (Nat.zero_le _), (View.refl _ _), (by have := ok25; simpa using this.le)⟩ (by simp) (fun q i bad va vc f53 J52 hp54 hJ52 => ?_)
      obtain ⟨hq, hi, hv, hc⟩ := hp54
      have hld := List.length_drop (i := i) (l := xs)
      refine W.seq (fun K55 hK55 => ?_)
      refine W.region ?_
      refine Wl.run 1 (by kernel_rfl) ?_
      refine Wl.nil ?_
      refine hK55 _ _ _ ?_
      refine W.seq (fun K56 hK56 => ?_)
      refine W.cond (decide (((q : Nat) : Int) < ((ns.length : Nat) : Int))) (by kernel_rfl) (fun h57 => ?_) (fun h58 => ?_)
      · have qh57 := h57; try simp only [Bool.and_eq_true, Bool.or_eq_true, Bool.not_eq_true', Bool.not_eq_false', Bool.and_eq_false_iff, Bool.or_eq_false_iff, decide_eq_true_eq, decide_eq_false_iff_not, beq_iff_eq, bne_iff_ne, beq_eq_false_iff_ne, bne_eq_false_iff_eq] at qh57
        refine W.skip' ?_
        refine hK56 _ _ _ ?_
        refine W.prune' [6, 7, 42, 43, 44] [Value.pointer (some ⟨ne24.b, 0, none⟩), Value.pointer (some ⟨p30, 0, none⟩), Value.slice na ns.length ncap, Value.int .i64 ((ns.length : Nat) : Int), Value.int .i64 ((q : Nat) : Int)] (by kernel_rfl) (fun f59 => ?_)
        refine W.seq (fun K60 hK60 => ?_)
        refine W.block ?_
        refine W.seq (fun K61 hK61 => ?_)
        refine W.region ?_
        refine Wl.run 1 (by kernel_rfl) ?_
        refine Wl.ys (v := Value.pointer (some (ela na (q * 1)))) rfl rfl (Ys.byMem fun w_ h_ => Ys.indexAddr (k := .i64) (a := na) (len := ns.length) (cap := ncap) (i := ((q : Nat) : Int)) (sz := 1) rfl (by kernel_rfl) (by kernel_rfl) Try.runUnderlying29 Try.sizeOf3 (by omega) (by omega) ((hns.mem0 h_).here (by rw [mc_len]; first | omega | (simp; omega)))) ?_
        refine Wl.ys (v := Value.int .i64 (ns.getD q 0)) rfl rfl (Ys.ld (a := ela na (q * 1)) rfl (by kernel_rfl) Try.isAgg3 (fun w_ h_ => (hns.mem0 h_).ld (mc_get1 0 (by first | omega | (simp; omega))))) ?_
        have hb62 := getD_mem hnb (d := 0) (k := q) (by omega)
        refine Wl.run 2 (by kernel_rfl) ?_
        refine Wl.nil ?_
        refine hK61 _ _ _ ?_
        refine W.prune' [6, 7, 9, 10, 42, 43, 44] [Value.pointer (some ⟨ne24.b, 0, none⟩), Value.pointer (some ⟨p30, 0, none⟩), Value.int .i64 ((q : Nat) : Int), Value.int .i64 (ns.getD q 0), Value.slice na ns.length ncap, Value.int .i64 ((ns.length : Nat) : Int), Value.int .i64 ((q : Nat) : Int)] (by kernel_rfl) (fun f63 => ?_)
        refine W.seq (fun K64 hK64 => ?_)
        refine W.meet4 (w0 := w) (M := []) K64 [6, 7, 42, 43, 44] (fun (i2 : Nat) (bad2 : Bool) (va2 : Option Addr) (vc2 : Nat) => [Value.pointer (some ⟨ne24.b, 0, none⟩), Value.pointer (some ⟨p30, 0, none⟩), Value.slice na ns.length ncap, Value.int .i64 ((ns.length : Nat) : Int), Value.int .i64 ((q : Nat) : Int)]) (fun (i2 : Nat) (bad2 : Bool) (va2 : Option Addr) (vc2 : Nat) => i2 ≤ xs.length ∧ View va2 (xs.drop i2) ne24.g.a xs ∧ (xs.drop i2).length ≤ vc2) (fun (i2 : Nat) (bad2 : Bool) (va2 : Option Addr) (vc2 : Nat) => [[cb p30 [Value.slice a xs.length cap, Value.int .i64 ((i2 : Nat) : Int), Value.bool bad2] 34], [cb ne24.b [Value.slice va2 ((xs.drop i2).length) vc2, Value.bool bad2] 66], ne24.g.seg 5 (mc b8 xs)]) (fun J65 hJ65 => ?_) (fun i2 bad2 va2 vc2 f66 hp67 => ?_)
        · refine W.seq (fun K68 hK68 => ?_)
          refine W.region ?_
          refine Wl.run 3 (by kernel_rfl) ?_
          refine Wl.nil ?_
          refine hK68 _ _ _ ?_
          refine W.prune' [6, 7, 10, 42, 43, 44, 51] [Value.pointer (some ⟨ne24.b, 0, none⟩), Value.pointer (some ⟨p30, 0, none⟩), Value.int .i64 (ns.getD q 0), Value.slice na ns.length ncap, Value.int .i64 ((ns.length : Nat) : Int), Value.int .i64 ((q : Nat) : Int), Value.bool ((band .i64 ((q : Nat) : Int) 1) == 0)] (by kernel_rfl) (fun f69 => ?_)
          refine W.cond ((band .i64 ((q : Nat) : Int) 1) == 0) (by kernel_rfl) (fun h70 => ?_) (fun h71 => ?_)
          · have qh70 := h70; try simp only [Bool.and_eq_true, Bool.or_eq_true, Bool.not_eq_true', Bool.not_eq_false', Bool.and_eq_false_iff, Bool.or_eq_false_iff, decide_eq_true_eq, decide_eq_false_iff_not, beq_iff_eq, bne_iff_ne, beq_eq_false_iff_ne, bne_eq_false_iff_eq] at qh70
            refine W.seq (fun K72 hK72 => ?_)
            refine W.region ?_
            refine Wl.run 2 (by kernel_rfl) ?_
            refine Wl.ht rfl (Ht.call (β := EV) (k := 17) (args := #[Value.pointer (some ⟨ne24.b, 0, none⟩), Value.int .i64 (ns.getD q 0)]) (Lin := [[cb ne24.b [Value.slice va ((xs.drop i).length) vc, Value.bool bad] 66]]) (Lk := [[cb p30 [Value.slice a xs.length cap, Value.int .i64 ((i : Nat) : Int), Value.bool bad] 34], ne24.g.seg 5 (mc b8 xs)]) (Mi := [ne24.b]) (Lo := fun ev73 => [[cb ne24.b [Value.slice ev73.a ((eRest (xs.drop i) ((size8 (ns.getD q 0) : Nat) : Int)).length) ev73.cap, Value.bool (eBad (xs.drop i) bad ((size8 (ns.getD q 0) : Nat) : Int))] 66], [cb p30 [Value.slice a xs.length cap, Value.int .i64 ((i : Nat) : Int), Value.bool bad] 34], ne24.g.seg 5 (mc b8 xs)]) [1] [0, 2] rfl (fun _ => by kernel_rfl) (by decide) rfl rfl rfl (fun w_ hm_ hl_ => (enumn_c (xs.drop i) va ((xs.drop i).length) vc bad ne24.b (ns.getD q 0) _ rfl hl_ (hv _ (FS.at (i := 2) (t := 5) hm_ rfl (FS.nil_cs ok25 (mc_len1 _)))) (by first | omega | (simp; omega)) (by first | omega | (simp; omega)))) (fun _ => rfl)) (fun x77 => ?_)
            obtain ⟨ev73, hv74, hc75⟩ := x77
            refine Wl.castL (LL' := [[cb ne24.b [Value.slice ev73.a ((eRest (xs.drop i) ((size8 (ns.getD q 0) : Nat) : Int)).length) ev73.cap, Value.bool (eBad (xs.drop i) bad ((size8 (ns.getD q 0) : Nat) : Int))] 66], [cb p30 [Value.slice a xs.length cap, Value.int .i64 ((i : Nat) : Int), Value.bool bad] 34], ne24.g.seg 5 (mc b8 xs)]) rfl ?_
            refine Wl.run 2 (by kernel_rfl) ?_
            refine Wl.ht rfl (Ht.call (β := Unit) (k := 18) (args := #[Value.pointer (some ⟨p30, 0, none⟩), Value.int .i64 (ns.getD q 0)]) (Lin := [[cb p30 [Value.slice a xs.length cap, Value.int .i64 ((i : Nat) : Int), Value.bool bad] 34]]) (Lk := [[cb ne24.b [Value.slice ev73.a ((eRest (xs.drop i) ((size8 (ns.getD q 0) : Nat) : Int)).length) ev73.cap, Value.bool (eBad (xs.drop i) bad ((size8 (ns.getD q 0) : Nat) : Int))] 66], ne24.g.seg 5 (mc b8 xs)]) (Mi := [p30]) (Lo := fun u78 => [[cb p30 [Value.slice a xs.length cap, Value.int .i64 ((rI xs i ((size8 (ns.getD q 0) : Nat) : Int) : Nat) : Int), Value.bool (eBad (xs.drop i) bad ((size8 (ns.getD q 0) : Nat) : Int))] 34], [cb ne24.b [Value.slice ev73.a ((eRest (xs.drop i) ((size8 (ns.getD q 0) : Nat) : Int)).length) ev73.cap, Value.bool (eBad (xs.drop i) bad ((size8 (ns.getD q 0) : Nat) : Int))] 66], ne24.g.seg 5 (mc b8 xs)]) [1] [0, 2] rfl (fun _ => by kernel_rfl) (by decide) rfl rfl rfl (fun w_ hm_ hl_ => (renum_c xs a cap i bad p30 (ns.getD q 0) _ hl_ (hat.mem0 hm_) (by first | omega | assumption) (by omega) (by omega))) (fun _ => rfl)) (fun x79 => ?_)
            obtain ⟨u78, _⟩ := x79
            refine Wl.castL (LL' := [[cb p30 [Value.slice a xs.length cap, Value.int .i64 ((rI xs i ((size8 (ns.getD q 0) : Nat) : Int) : Nat) : Int), Value.bool (eBad (xs.drop i) bad ((size8 (ns.getD q 0) : Nat) : Int))] 34], [cb ne24.b [Value.slice ev73.a ((eRest (xs.drop i) ((size8 (ns.getD q 0) : Nat) : Int)).length) ev73.cap, Value.bool (eBad (xs.drop i) bad ((size8 (ns.getD q 0) : Nat) : Int))] 66], ne24.g.seg 5 (mc b8 xs)]) rfl ?_
            refine Wl.run 1 (by kernel_rfl) ?_
            refine Wl.nil ?_
            refine hK72 _ _ _ ?_
            refine W.prune' [6, 7, 42, 43, 44, 58] [Value.pointer (some ⟨ne24.b, 0, none⟩), Value.pointer (some ⟨p30, 0, none⟩), Value.slice na ns.length ncap, Value.int .i64 ((ns.length : Nat) : Int), Value.int .i64 ((q : Nat) : Int), Value.bool (((bv (eOut (xs.drop i) ((size8 (ns.getD q 0) : Nat) : Int)) : Nat) : Int) != ((bv (eOut (xs.drop i) ((size8 (ns.getD q 0) : Nat) : Int)) : Nat) : Int))] (by kernel_rfl) (fun f80 => ?_)
            refine W.cond (((bv (eOut (xs.drop i) ((size8 (ns.getD q 0) : Nat) : Int)) : Nat) : Int) != ((bv (eOut (xs.drop i) ((size8 (ns.getD q 0) : Nat) : Int)) : Nat) : Int)) (by kernel_rfl) (fun h81 => ?_) (fun h82 => ?_)
            · have qh81 := h81; try simp only [Bool.and_eq_true, Bool.or_eq_true, Bool.not_eq_true', Bool.not_eq_false', Bool.and_eq_false_iff, Bool.or_eq_false_iff, decide_eq_true_eq, decide_eq_false_iff_not, beq_iff_eq, bne_iff_ne, beq_eq_false_iff_ne, bne_eq_false_iff_eq] at qh81
              exact absurd rfl qh81
            · have qh82 := h82; try simp only [Bool.and_eq_true, Bool.or_eq_true, Bool.not_eq_true', Bool.not_eq_false', Bool.and_eq_false_iff, Bool.or_eq_false_iff, decide_eq_true_eq, decide_eq_false_iff_not, beq_iff_eq, bne_iff_ne, beq_eq_false_iff_ne, bne_eq_false_iff_eq] at qh82
              refine W.skip' ?_
              refine fun w_ h_ => hJ65 (rI xs i ((size8 (ns.getD q 0) : Nat) : Int)) (eBad (xs.drop i) bad ((size8 (ns.getD q 0) : Nat) : Int)) ev73.a ev73.cap _ w_ ⟨(rI_le _ hi), (by rw [rI_drop]; exact hv74.trans hv), (by rw [rI_drop]; exact hc75)⟩ (by kernel_rfl) (Mem.cast (LL := [[cb p30 [Value.slice a xs.length cap, Value.int .i64 ((rI xs i ((size8 (ns.getD q 0) : Nat) : Int) : Nat) : Int), Value.bool (eBad (xs.drop i) bad ((size8 (ns.getD q 0) : Nat) : Int))] 34], [cb ne24.b [Value.slice ev73.a ((eRest (xs.drop i) ((size8 (ns.getD q 0) : Nat) : Int)).length) ev73.cap, Value.bool (eBad (xs.drop i) bad ((size8 (ns.getD q 0) : Nat) : Int))] 66], ne24.g.seg 5 (mc b8 xs)]) (by rw [rI_drop]) h_)
          · have qh71 := h71; try simp only [Bool.and_eq_true, Bool.or_eq_true, Bool.not_eq_true', Bool.not_eq_false', Bool.and_eq_false_iff, Bool.or_eq_false_iff, decide_eq_true_eq, decide_eq_false_iff_not, beq_iff_eq, bne_iff_ne, beq_eq_false_iff_ne, bne_eq_false_iff_eq] at qh71
            refine W.seq (fun K83 hK83 => ?_)
            refine W.region ?_
            refine Wl.run 2 (by kernel_rfl) ?_
            refine Wl.ht rfl (Ht.call (β := EG) (k := 19) (args := #[Value.pointer (some ⟨ne24.b, 0, none⟩), Value.int .i64 (ns.getD q 0)]) (Lin := [[cb ne24.b [Value.slice va ((xs.drop i).length) vc, Value.bool bad] 66]]) (Lk := [[cb p30 [Value.slice a xs.length cap, Value.int .i64 ((i : Nat) : Int), Value.bool bad] 34], ne24.g.seg 5 (mc b8 xs)]) (Mi := [ne24.b]) (Lo := fun eg84 => [[cb ne24.b [Value.slice eg84.a ((eRest (xs.drop i) (ns.getD q 0)).length) eg84.cap, Value.bool (eBad (xs.drop i) bad (ns.getD q 0))] 66], eg84.g.seg 5 (mc b8 (eOut (xs.drop i) (ns.getD q 0))), [cb p30 [Value.slice a xs.length cap, Value.int .i64 ((i : Nat) : Int), Value.bool bad] 34], ne24.g.seg 5 (mc b8 xs)]) [1] [0, 2] rfl (fun _ => by kernel_rfl) (by decide) rfl rfl rfl (fun w_ hm_ hl_ => (bytesn_c (xs.drop i) va ((xs.drop i).length) vc bad ne24.b (ns.getD q 0) _ rfl hl_ (hv _ (FS.at (i := 2) (t := 5) hm_ rfl (FS.nil_cs ok25 (mc_len1 _)))) (by first | omega | (simp; omega)) (by first | omega | (simp; omega)))) (fun _ => rfl)) (fun x89 => ?_)
            obtain ⟨eg84, ok85, hv86, hc87⟩ := x89
            refine Wl.castL (LL' := [[cb ne24.b [Value.slice eg84.a ((eRest (xs.drop i) (ns.getD q 0)).length) eg84.cap, Value.bool (eBad (xs.drop i) bad (ns.getD q 0))] 66], eg84.g.seg 5 (mc b8 (eOut (xs.drop i) (ns.getD q 0))), [cb p30 [Value.slice a xs.length cap, Value.int .i64 ((i : Nat) : Int), Value.bool bad] 34], ne24.g.seg 5 (mc b8 xs)]) rfl ?_
            refine Wl.run 1 (by kernel_rfl) ?_
            refine Wl.nil ?_
            refine hK83 _ _ _ ?_
            refine W.prune' [6, 7, 10, 11, 42, 43, 44] [Value.pointer (some ⟨ne24.b, 0, none⟩), Value.pointer (some ⟨p30, 0, none⟩), Value.int .i64 (ns.getD q 0), Value.slice eg84.g.a ((eOut (xs.drop i) (ns.getD q 0)).length) eg84.g.cap, Value.slice na ns.length ncap, Value.int .i64 ((ns.length : Nat) : Int), Value.int .i64 ((q : Nat) : Int)] (by kernel_rfl) (fun f90 => ?_)
            refine W.seq (fun K91 hK91 => ?_)
            refine W.seq (fun K92 hK92 => ?_)
            refine W.draws [(0, true), (1, true), (2, true), (3, false), (4, false), (5, false), (6, false)] [0, 1, 2] (Mem w [] [[cb ne24.b [Value.slice eg84.a ((eRest (xs.drop i) (ns.getD q 0)).length) eg84.cap, Value.bool (eBad (xs.drop i) bad (ns.getD q 0))] 66], eg84.g.seg 5 (mc b8 (eOut (xs.drop i) (ns.getD q 0))), ne24.g.seg 5 (mc b8 xs)]) (by kernel_rfl) (by kernel_rfl) (by kernel_rfl) rfl (by kernel_rfl) (fun _ _ h_ => h_.drawn _) (fun _ h_ => h_.pick [0, 1, 3] (by decide) rfl) ?_
            refine Wd.run 1 (by kernel_rfl) ?_
            refine Wd.ys (v := Value.string (bstr (eOut (xs.drop i) (ns.getD q 0)))) rfl rfl rfl (Ys.bytesStr (a := eg84.g.a) (len := (eOut (xs.drop i) (ns.getD q 0)).length) (cap := eg84.g.cap) (xs := eOut (xs.drop i) (ns.getD q 0)) (e := 5) rfl (by kernel_rfl) (by kernel_rfl) (by kernel_rfl) (by kernel_rfl) (rfl) (fun w_ h_ => (FS.at (i := 1) (t := 5) h_ rfl (FS.nil_cs ok85 (mc_len1 _))))) ?_
            refine Wd.run 1 (by kernel_rfl) ?_
            refine Wd.yc (v := Value.int .i64 (ns.getD q 0)) rfl rfl rfl (Ys.yc (Ys.pure (fun _ => by kernel_rfl))) (.inr fun _ h_ => h_.pick [0, 1, 3] (by decide) rfl) ?_
            refine Wd.ht rfl rfl (Ht.call (β := FS) (k := 20) (args := #[Value.pointer (some ⟨p30, 0, none⟩), Value.int .i64 (ns.getD q 0)]) (Lin := [[cb p30 [Value.slice a xs.length cap, Value.int .i64 ((i : Nat) : Int), Value.bool bad] 34]]) (Lk := [[cb ne24.b [Value.slice eg84.a ((eRest (xs.drop i) (ns.getD q 0)).length) eg84.cap, Value.bool (eBad (xs.drop i) bad (ns.getD q 0))] 66], eg84.g.seg 5 (mc b8 (eOut (xs.drop i) (ns.getD q 0))), ne24.g.seg 5 (mc b8 xs)]) (Mi := [p30]) (Lo := fun g93 => [[cb p30 [Value.slice a xs.length cap, Value.int .i64 ((rI xs i (ns.getD q 0) : Nat) : Int), Value.bool (eBad (xs.drop i) bad (ns.getD q 0))] 34], g93.seg 5 (mc b8 (eOut (xs.drop i) (ns.getD q 0))), [cb ne24.b [Value.slice eg84.a ((eRest (xs.drop i) (ns.getD q 0)).length) eg84.cap, Value.bool (eBad (xs.drop i) bad (ns.getD q 0))] 66], eg84.g.seg 5 (mc b8 (eOut (xs.drop i) (ns.getD q 0))), ne24.g.seg 5 (mc b8 xs)]) [2] [0, 1, 3] rfl (fun _ => by kernel_rfl) (by decide) rfl rfl rfl (fun w_ hm_ hl_ => (rbytes_c xs a cap i bad p30 (ns.getD q 0) _ hl_ (hat.mem0 hm_) (by first | omega | assumption) (by omega) (by omega) (by omega))) (fun _ => rfl)) (.inr fun _ _ h_ => h_.pick [2, 3, 4] (by decide) rfl) (fun x95 => ?_)
            obtain ⟨g93, ok94⟩ := x95
            refine Wd.castL (LL' := [[cb p30 [Value.slice a xs.length cap, Value.int .i64 ((rI xs i (ns.getD q 0) : Nat) : Int), Value.bool (eBad (xs.drop i) bad (ns.getD q 0))] 34], g93.seg 5 (mc b8 (eOut (xs.drop i) (ns.getD q 0))), [cb ne24.b [Value.slice eg84.a ((eRest (xs.drop i) (ns.getD q 0)).length) eg84.cap, Value.bool (eBad (xs.drop i) bad (ns.getD q 0))] 66], eg84.g.seg 5 (mc b8 (eOut (xs.drop i) (ns.getD q 0))), ne24.g.seg 5 (mc b8 xs)]) rfl ?_
            refine Wd.yc (v := Value.string (bstr (eOut (xs.drop i) (ns.getD q 0)))) rfl rfl rfl (Ys.yc (Ys.bytesStr (a := g93.a) (len := (eOut (xs.drop i) (ns.getD q 0)).length) (cap := g93.cap) (xs := eOut (xs.drop i) (ns.getD q 0)) (e := 5) rfl (by kernel_rfl) (by kernel_rfl) (by kernel_rfl) (by kernel_rfl) (rfl) (fun w_ h_ => (FS.at (i := 1) (t := 5) h_ rfl (FS.nil_cs ok94 (mc_len1 _)))))) (.inr fun _ h_ => h_.pick [2, 3, 4] (by decide) rfl) ?_
            refine Wd.yc (v := Value.bool (!((eOut (xs.drop i) (ns.getD q 0)) == (eOut (xs.drop i) (ns.getD q 0))))) rfl rfl rfl (Ys.yc ((Ys.pure (v := .bool (!((bstr (eOut (xs.drop i) (ns.getD q 0))).toList == (bstr (eOut (xs.drop i) (ns.getD q 0))).toList))) (fun _ => by kernel_rfl)).conseq (bool_congr ((congrArg (! ·) (bstr_eq _ _)))))) (.inr fun _ h_ => h_.pick [2, 3, 4] (by decide) rfl) ?_
            refine Wd.nil ?_
            refine hK92 _ _ _ ?_
            refine W.pick (LL' := [[cb p30 [Value.slice a xs.length cap, Value.int .i64 ((rI xs i (ns.getD q 0) : Nat) : Int), Value.bool (eBad (xs.drop i) bad (ns.getD q 0))] 34], [cb ne24.b [Value.slice eg84.a ((eRest (xs.drop i) (ns.getD q 0)).length) eg84.cap, Value.bool (eBad (xs.drop i) bad (ns.getD q 0))] 66], eg84.g.seg 5 (mc b8 (eOut (xs.drop i) (ns.getD q 0))), ne24.g.seg 5 (mc b8 xs)]) [0, 2, 3, 4] (by decide) rfl ?_
            refine W.prune' [6, 7, 11, 42, 43, 44, 68] [Value.pointer (some ⟨ne24.b, 0, none⟩), Value.pointer (some ⟨p30, 0, none⟩), Value.slice eg84.g.a ((eOut (xs.drop i) (ns.getD q 0)).length) eg84.g.cap, Value.slice na ns.length ncap, Value.int .i64 ((ns.length : Nat) : Int), Value.int .i64 ((q : Nat) : Int), Value.bool (!((eOut (xs.drop i) (ns.getD q 0)) == (eOut (xs.drop i) (ns.getD q 0))))] (by kernel_rfl) (fun f96 => ?_)
            refine W.cond (!((eOut (xs.drop i) (ns.getD q 0)) == (eOut (xs.drop i) (ns.getD q 0)))) (by kernel_rfl) (fun h97 => ?_) (fun h98 => ?_)
            · have qh97 := h97; try simp only [Bool.and_eq_true, Bool.or_eq_true, Bool.not_eq_true', Bool.not_eq_false', Bool.and_eq_false_iff, Bool.or_eq_false_iff, decide_eq_true_eq, decide_eq_false_iff_not, beq_iff_eq, bne_iff_ne, beq_eq_false_iff_ne, bne_eq_false_iff_eq] at qh97
              exact absurd h97 (by simp)
            · have qh98 := h98; try simp only [Bool.and_eq_true, Bool.or_eq_true, Bool.not_eq_true', Bool.not_eq_false', Bool.and_eq_false_iff, Bool.or_eq_false_iff, decide_eq_true_eq, decide_eq_false_iff_not, beq_iff_eq, bne_iff_ne, beq_eq_false_iff_ne, bne_eq_false_iff_eq] at qh98
              refine W.skip' ?_
              refine hK91 _ _ _ ?_
              refine W.prune' [6, 7, 11, 42, 43, 44] [Value.pointer (some ⟨ne24.b, 0, none⟩), Value.pointer (some ⟨p30, 0, none⟩), Value.slice eg84.g.a ((eOut (xs.drop i) (ns.getD q 0)).length) eg84.g.cap, Value.slice na ns.length ncap, Value.int .i64 ((ns.length : Nat) : Int), Value.int .i64 ((q : Nat) : Int)] (by kernel_rfl) (fun f99 => ?_)
              refine W.seq (fun K100 hK100 => ?_)
              refine W.region ?_
              refine Wl.run 3 (by kernel_rfl) ?_
              refine Wl.nil ?_
              refine hK100 _ _ _ ?_
              refine W.prune' [6, 7, 11, 42, 43, 44, 70, 71] [Value.pointer (some ⟨ne24.b, 0, none⟩), Value.pointer (some ⟨p30, 0, none⟩), Value.slice eg84.g.a ((eOut (xs.drop i) (ns.getD q 0)).length) eg84.g.cap, Value.slice na ns.length ncap, Value.int .i64 ((ns.length : Nat) : Int), Value.int .i64 ((q : Nat) : Int), Value.int .i64 (((eOut (xs.drop i) (ns.getD q 0)).length : Nat) : Int), Value.int .i64 0] (by kernel_rfl) (fun f101 => ?_)
              refine W.block ?_
              refine W.loop2 [6, 7, 11, 42, 43, 44, 70, 71] (fun (j : Nat) (zs2 : List UInt8) => [Value.pointer (some ⟨ne24.b, 0, none⟩), Value.pointer (some ⟨p30, 0, none⟩), Value.slice eg84.g.a ((eOut (xs.drop i) (ns.getD q 0)).length) eg84.g.cap, Value.slice na ns.length ncap, Value.int .i64 ((ns.length : Nat) : Int), Value.int .i64 ((q : Nat) : Int), Value.int .i64 (((eOut (xs.drop i) (ns.getD q 0)).length : Nat) : Int), Value.int .i64 ((j : Nat) : Int)]) (fun (j : Nat) (zs2 : List UInt8) => j ≤ (eOut (xs.drop i) (ns.getD q 0)).length ∧ zs2.length = (eOut (xs.drop i) (ns.getD q 0)).length) (fun (j : Nat) (zs2 : List UInt8) => [[cb p30 [Value.slice a xs.length cap, Value.int .i64 ((rI xs i (ns.getD q 0) : Nat) : Int), Value.bool (eBad (xs.drop i) bad (ns.getD q 0))] 34], [cb ne24.b [Value.slice eg84.a ((eRest (xs.drop i) (ns.getD q 0)).length) eg84.cap, Value.bool (eBad (xs.drop i) bad (ns.getD q 0))] 66], eg84.g.seg 5 (mc b8 zs2), ne24.g.seg 5 (mc b8 xs)]) (fun (j : Nat) (zs2 : List UInt8) => ((eOut (xs.drop i) (ns.getD q 0)).length) - j) 0 (eOut (xs.drop i) (ns.getD q 0)) (by kernel_rfl) ⟨(Nat.zero_le _), (by first | rfl | (simp; done))⟩ (by rfl) (fun j zs2 f103 J102 hp104 hJ102 => ?_)
              obtain ⟨hj, hz⟩ := hp104
              have hob := eOut_ys (xs.drop i) (ns.getD q 0)
              refine W.seq (fun K105 hK105 => ?_)
              refine W.region ?_
              refine Wl.run 1 (by kernel_rfl) ?_
              refine Wl.nil ?_
              refine hK105 _ _ _ ?_
              refine W.seq (fun K106 hK106 => ?_)
              refine W.cond (decide (((j : Nat) : Int) < (((eOut (xs.drop i) (ns.getD q 0)).length : Nat) : Int))) (by kernel_rfl) (fun h107 => ?_) (fun h108 => ?_)
              · have qh107 := h107; try simp only [Bool.and_eq_true, Bool.or_eq_true, Bool.not_eq_true', Bool.not_eq_false', Bool.and_eq_false_iff, Bool.or_eq_false_iff, decide_eq_true_eq, decide_eq_false_iff_not, beq_iff_eq, bne_iff_ne, beq_eq_false_iff_ne, bne_eq_false_iff_eq] at qh107
                refine W.skip' ?_
                refine hK106 _ _ _ ?_
                refine W.prune' [6, 7, 11, 42, 43, 44, 70, 71] [Value.pointer (some ⟨ne24.b, 0, none⟩), Value.pointer (some ⟨p30, 0, none⟩), Value.slice eg84.g.a ((eOut (xs.drop i) (ns.getD q 0)).length) eg84.g.cap, Value.slice na ns.length ncap, Value.int .i64 ((ns.length : Nat) : Int), Value.int .i64 ((q : Nat) : Int), Value.int .i64 (((eOut (xs.drop i) (ns.getD q 0)).length : Nat) : Int), Value.int .i64 ((j : Nat) : Int)] (by kernel_rfl) (fun f109 => ?_)
                refine W.seq (fun K110 hK110 => ?_)
                refine W.block ?_
                refine W.seq (fun K111 hK111 => ?_)
                refine W.region ?_
                refine Wl.run 2 (by kernel_rfl) ?_
                refine Wl.nil ?_
                refine hK111 _ _ _ ?_
                refine W.prune' [6, 7, 11, 12, 42, 43, 44, 70, 71] [Value.pointer (some ⟨ne24.b, 0, none⟩), Value.pointer (some ⟨p30, 0, none⟩), Value.slice eg84.g.a ((eOut (xs.drop i) (ns.getD q 0)).length) eg84.g.cap, Value.int .i64 ((j : Nat) : Int), Value.slice na ns.length ncap, Value.int .i64 ((ns.length : Nat) : Int), Value.int .i64 ((q : Nat) : Int), Value.int .i64 (((eOut (xs.drop i) (ns.getD q 0)).length : Nat) : Int), Value.int .i64 ((j : Nat) : Int)] (by kernel_rfl) (fun f112 => ?_)
                refine W.region ?_
                refine Wl.run 2 (by kernel_rfl) ?_
                refine Wl.ys (v := Value.pointer (some (ela eg84.g.a (j * 1)))) rfl rfl (Ys.indexAddr (k := .i64) (a := eg84.g.a) (len := (eOut (xs.drop i) (ns.getD q 0)).length) (cap := eg84.g.cap) (i := ((j : Nat) : Int)) (sz := 1) rfl (by kernel_rfl) (by kernel_rfl) Try.runUnderlying22 Try.sizeOf5 (by omega) (by omega) (by rw [FS.a_own (FS.notnil ok85 (by omega))]; rfl)) ?_
                refine Wl.ht rfl (Ht.storeFS (i := 2) (g := eg84.g) (q := j * 1) (ty := 5) (cs := mc b8 zs2) (cs' := mc b8 (zs2.set j (238 : UInt8))) (v := Value.int .u8 238) (LL' := [[cb p30 [Value.slice a xs.length cap, Value.int .i64 ((rI xs i (ns.getD q 0) : Nat) : Int), Value.bool (eBad (xs.drop i) bad (ns.getD q 0))] 34], [cb ne24.b [Value.slice eg84.a ((eRest (xs.drop i) (ns.getD q 0)).length) eg84.cap, Value.bool (eBad (xs.drop i) bad (ns.getD q 0))] 66], eg84.g.seg 5 (mc b8 (zs2.set j (238 : UInt8))), ne24.g.seg 5 (mc b8 xs)]) rfl rfl (by kernel_rfl) (by kernel_rfl) Try.sizeOf5 rfl (FS.notnil ok85 (by omega)) rfl (by simp [mc, be_len]; omega) (mc_set1 (g := b8) zs2 j (238 : UInt8)) rfl) (fun _ => ?_)
                refine Wl.nil ?_
                refine hK110 _ _ _ ?_
                refine W.prune' [6, 7, 11, 42, 43, 44, 70, 71] [Value.pointer (some ⟨ne24.b, 0, none⟩), Value.pointer (some ⟨p30, 0, none⟩), Value.slice eg84.g.a ((eOut (xs.drop i) (ns.getD q 0)).length) eg84.g.cap, Value.slice na ns.length ncap, Value.int .i64 ((ns.length : Nat) : Int), Value.int .i64 ((q : Nat) : Int), Value.int .i64 (((eOut (xs.drop i) (ns.getD q 0)).length : Nat) : Int), Value.int .i64 ((j : Nat) : Int)] (by kernel_rfl) (fun f113 => ?_)
                refine W.region ?_
                refine Wl.ys (v := Value.int .i64 ((j + 1 : Nat) : Int)) rfl rfl ((Ys.pure (v := .int .i64 (iadd .i64 ((j : Nat) : Int) 1)) (fun _ => by kernel_rfl)).conseq (int_congr (iadd_eq (by omega) (by omega) (by omega)))) ?_
                refine Wl.run 1 (by kernel_rfl) ?_
                refine Wl.nil ?_
                refine fun w_ h_ => hJ102 (j + 1) (zs2.set j (238 : UInt8)) _ w_ (by omega) ⟨(by omega), (by rw [List.length_set]; exact hz)⟩ ?_ h_
                kernel_rfl
              · have qh108 := h108; try simp only [Bool.and_eq_true, Bool.or_eq_true, Bool.not_eq_true', Bool.not_eq_false', Bool.and_eq_false_iff, Bool.or_eq_false_iff, decide_eq_true_eq, decide_eq_false_iff_not, beq_iff_eq, bne_iff_ne, beq_eq_false_iff_ne, bne_eq_false_iff_eq] at qh108
                refine W.exit ?_
                refine fun w_ h_ => hJ65 (rI xs i (ns.getD q 0)) (eBad (xs.drop i) bad (ns.getD q 0)) eg84.a eg84.cap _ w_ ⟨(rI_le _ hi), (by rw [rI_drop]; exact hv86.trans hv), (by rw [rI_drop]; exact hc87)⟩ (by kernel_rfl) (Mem.cast (LL := [[cb p30 [Value.slice a xs.length cap, Value.int .i64 ((rI xs i (ns.getD q 0) : Nat) : Int), Value.bool (eBad (xs.drop i) bad (ns.getD q 0))] 34], [cb ne24.b [Value.slice eg84.a ((eRest (xs.drop i) (ns.getD q 0)).length) eg84.cap, Value.bool (eBad (xs.drop i) bad (ns.getD q 0))] 66], ne24.g.seg 5 (mc b8 xs)]) (by rw [rI_drop]) (h_.pick [0, 1, 3] (by decide) rfl))
        · refine hK64 _ _ _ ?_
          obtain ⟨hi2, hv2, hc2⟩ := hp67
          refine W.seq (fun K114 hK114 => ?_)
          refine W.draws [(0, true), (2, true), (3, true), (4, true), (5, true), (6, true), (7, true), (8, true), (9, true), (10, true), (11, true), (1, false), (12, false), (13, false), (14, true), (16, true), (17, true), (18, true), (19, true), (15, false), (20, false), (21, false)] [0, 2, 3, 4, 5, 6, 7, 8, 9, 10, 11, 14, 16, 17, 18, 19] (Mem w [] [[cb p30 [Value.slice a xs.length cap, Value.int .i64 ((i2 : Nat) : Int), Value.bool bad2] 34], [cb ne24.b [Value.slice va2 ((xs.drop i2).length) vc2, Value.bool bad2] 66], ne24.g.seg 5 (mc b8 xs)]) (by kernel_rfl) (by kernel_rfl) (by kernel_rfl) rfl (by kernel_rfl) (fun _ _ h_ => h_.drawn _) (fun _ h_ => h_) ?_
          refine Wd.run 4 (by kernel_rfl) ?_
          refine Wd.ys (v := Value.slice a xs.length cap) rfl rfl rfl (Ys.load (b := p30) (o' := 0) (i := 0) (j := 0) (cs := [Value.slice a xs.length cap, Value.int .i64 ((i2 : Nat) : Int), Value.bool bad2]) (v := Value.slice a xs.length cap) rfl (by kernel_rfl) Try.isAgg22 rfl rfl rfl) ?_
          refine Wd.run 4 (by kernel_rfl) ?_
          refine Wd.ys (v := Value.int .i64 ((i2 : Nat) : Int)) rfl rfl rfl (Ys.load (b := p30) (o' := 1) (i := 0) (j := 0) (cs := [Value.slice a xs.length cap, Value.int .i64 ((i2 : Nat) : Int), Value.bool bad2]) (v := Value.int .i64 ((i2 : Nat) : Int)) rfl (by kernel_rfl) Try.isAgg3 rfl rfl rfl) ?_
          refine Wd.ys (v := Value.int .i64 (((xs.length : Nat) : Int) - ((i2 : Nat) : Int))) rfl rfl rfl ((Ys.pure (v := .int .i64 (isub .i64 ((xs.length : Nat) : Int) ((i2 : Nat) : Int))) (fun _ => by kernel_rfl)).conseq (int_congr (isub_eq rfl (by omega) (by omega)))) ?_
          refine Wd.yc (v := Value.int .i64 (((xs.drop i2).length : Nat) : Int)) rfl rfl rfl (Yc.call (k := 21) (args := #[Value.pointer (some ⟨ne24.b, 0, none⟩)]) (fun _ => by kernel_rfl) (fun w_ hm_ => (leftn_c (xs.drop i2) va2 ((xs.drop i2).length) vc2 bad2 ne24.b _ rfl (hm_.one (i := 1) rfl) (hv2 _ (FS.at (i := 2) (t := 5) hm_ rfl (FS.nil_cs ok25 (mc_len1 _))))))) (.inr fun _ h_ => h_) ?_
          refine Wd.yc (v := Value.bool ((((xs.drop i2).length : Nat) : Int) != (((xs.length : Nat) : Int) - ((i2 : Nat) : Int)))) rfl rfl rfl (Ys.yc (Ys.pure (fun _ => by kernel_rfl))) (.inr fun _ h_ => h_) ?_
          refine Wd.yc (v := Value.bool ((((xs.drop i2).length : Nat) : Int) != (((xs.length : Nat) : Int) - ((i2 : Nat) : Int)))) rfl rfl rfl (Ys.yc (Ys.pure (fun _ => by kernel_rfl))) (.inr fun _ h_ => h_) ?_
          refine Wd.guard (v := Value.pointer (some ⟨ne24.b, 0, none⟩)) (!((((xs.drop i2).length : Nat) : Int) != (((xs.length : Nat) : Int) - ((i2 : Nat) : Int)))) rfl (wantF rfl (by kernel_rfl)) rfl (fun hg115 => ?_) ?_
          · have qhg115 := hg115; try simp only [Bool.and_eq_true, Bool.or_eq_true, Bool.not_eq_true', Bool.not_eq_false', Bool.and_eq_false_iff, Bool.or_eq_false_iff, decide_eq_true_eq, decide_eq_false_iff_not, beq_iff_eq, bne_iff_ne, beq_eq_false_iff_ne, bne_eq_false_iff_eq] at qhg115
            exact Ys.pure (fun _ => by kernel_rfl)
          refine Wd.guard (v := Value.pointer (some ⟨p30, 0, none⟩)) (!((((xs.drop i2).length : Nat) : Int) != (((xs.length : Nat) : Int) - ((i2 : Nat) : Int)))) rfl (wantF rfl (by kernel_rfl)) rfl (fun hg116 => ?_) ?_
          · have qhg116 := hg116; try simp only [Bool.and_eq_true, Bool.or_eq_true, Bool.not_eq_true', Bool.not_eq_false', Bool.and_eq_false_iff, Bool.or_eq_false_iff, decide_eq_true_eq, decide_eq_false_iff_not, beq_iff_eq, bne_iff_ne, beq_eq_false_iff_ne, bne_eq_false_iff_eq] at qhg116
            exact Ys.pure (fun _ => by kernel_rfl)
          refine Wd.guard (v := Value.pointer (some ⟨p30, 0, none⟩)) (!((((xs.drop i2).length : Nat) : Int) != (((xs.length : Nat) : Int) - ((i2 : Nat) : Int)))) rfl (wantF rfl (by kernel_rfl)) rfl (fun hg117 => ?_) ?_
          · have qhg117 := hg117; try simp only [Bool.and_eq_true, Bool.or_eq_true, Bool.not_eq_true', Bool.not_eq_false', Bool.and_eq_false_iff, Bool.or_eq_false_iff, decide_eq_true_eq, decide_eq_false_iff_not, beq_iff_eq, bne_iff_ne, beq_eq_false_iff_ne, bne_eq_false_iff_eq] at qhg117
            refine Ys.at (t := 94) (v0 := Value.pointer (some ⟨p30, 0, none⟩)) (lz (g := !((((xs.drop i2).length : Nat) : Int) != (((xs.length : Nat) : Int) - ((i2 : Nat) : Int)))) (u := undef) hg117 (by kernel_rfl)) ?_
            exact Ys.pure (fun _ => by kernel_rfl)
          refine Wd.guard (v := Value.pointer (some ⟨p30, 2, none⟩)) (!((((xs.drop i2).length : Nat) : Int) != (((xs.length : Nat) : Int) - ((i2 : Nat) : Int)))) rfl (wantF rfl (by kernel_rfl)) rfl (fun hg118 => ?_) ?_
          · have qhg118 := hg118; try simp only [Bool.and_eq_true, Bool.or_eq_true, Bool.not_eq_true', Bool.not_eq_false', Bool.and_eq_false_iff, Bool.or_eq_false_iff, decide_eq_true_eq, decide_eq_false_iff_not, beq_iff_eq, bne_iff_ne, beq_eq_false_iff_ne, bne_eq_false_iff_eq] at qhg118
            refine Ys.at (t := 95) (v0 := Value.pointer (some ⟨p30, 0, none⟩)) (lz (g := !((((xs.drop i2).length : Nat) : Int) != (((xs.length : Nat) : Int) - ((i2 : Nat) : Int)))) (u := undef) hg118 (by kernel_rfl)) ?_
            exact Ys.pure (fun _ => by kernel_rfl)
          refine Wd.guard (v := Value.bool bad2) (!((((xs.drop i2).length : Nat) : Int) != (((xs.length : Nat) : Int) - ((i2 : Nat) : Int)))) rfl (wantF rfl (by kernel_rfl)) rfl (fun hg119 => ?_) ?_
          · have qhg119 := hg119; try simp only [Bool.and_eq_true, Bool.or_eq_true, Bool.not_eq_true', Bool.not_eq_false', Bool.and_eq_false_iff, Bool.or_eq_false_iff, decide_eq_true_eq, decide_eq_false_iff_not, beq_iff_eq, bne_iff_ne, beq_eq_false_iff_ne, bne_eq_false_iff_eq] at qhg119
            refine Ys.at (t := 96) (v0 := Value.pointer (some ⟨p30, 2, none⟩)) (lz (g := !((((xs.drop i2).length : Nat) : Int) != (((xs.length : Nat) : Int) - ((i2 : Nat) : Int)))) (u := undef) hg119 (by kernel_rfl)) ?_
            exact Ys.load (b := p30) (o' := 2) (i := 0) (j := 0) (cs := [Value.slice a xs.length cap, Value.int .i64 ((i2 : Nat) : Int), Value.bool bad2]) (v := Value.bool bad2) rfl (by kernel_rfl) Try.isAgg4 rfl rfl rfl
          refine Wd.guardc (v := Value.bool bad2) (!((((xs.drop i2).length : Nat) : Int) != (((xs.length : Nat) : Int) - ((i2 : Nat) : Int)))) rfl (wantF rfl (by kernel_rfl)) rfl (fun hg120 => ?_) (.inr fun _ h_ => h_) ?_
          · have qhg120 := hg120; try simp only [Bool.and_eq_true, Bool.or_eq_true, Bool.not_eq_true', Bool.not_eq_false', Bool.and_eq_false_iff, Bool.or_eq_false_iff, decide_eq_true_eq, decide_eq_false_iff_not, beq_iff_eq, bne_iff_ne, beq_eq_false_iff_ne, bne_eq_false_iff_eq] at qhg120
            refine Yc.at (t := 92) (v0 := Value.pointer (some ⟨ne24.b, 0, none⟩)) (lz (g := !((((xs.drop i2).length : Nat) : Int) != (((xs.length : Nat) : Int) - ((i2 : Nat) : Int)))) (u := undef) hg120 (by kernel_rfl)) ?_
            exact Yc.call (k := 22) (args := #[Value.pointer (some ⟨ne24.b, 0, none⟩)]) (fun _ => by kernel_rfl) (fun w_ hm_ => (badn_c (xs.drop i2) va2 ((xs.drop i2).length) vc2 bad2 ne24.b _ rfl (hm_.one (i := 1) rfl) (hv2 _ (FS.at (i := 2) (t := 5) hm_ rfl (FS.nil_cs ok25 (mc_len1 _))))))
          refine Wd.guardc (v := Value.bool (!(bad2 == bad2))) (!((((xs.drop i2).length : Nat) : Int) != (((xs.length : Nat) : Int) - ((i2 : Nat) : Int)))) rfl (wantF rfl (by kernel_rfl)) rfl (fun hg121 => ?_) (.inr fun _ h_ => h_) ?_
          · have qhg121 := hg121; try simp only [Bool.and_eq_true, Bool.or_eq_true, Bool.not_eq_true', Bool.not_eq_false', Bool.and_eq_false_iff, Bool.or_eq_false_iff, decide_eq_true_eq, decide_eq_false_iff_not, beq_iff_eq, bne_iff_ne, beq_eq_false_iff_ne, bne_eq_false_iff_eq] at qhg121
            refine Ys.yc ?_
            refine Ys.at (t := 93) (v0 := Value.bool bad2) (lz (g := !((((xs.drop i2).length : Nat) : Int) != (((xs.length : Nat) : Int) - ((i2 : Nat) : Int)))) (u := undef) hg121 (by kernel_rfl)) ?_
            refine Ys.at (t := 97) (v0 := Value.bool bad2) (lz (g := !((((xs.drop i2).length : Nat) : Int) != (((xs.length : Nat) : Int) - ((i2 : Nat) : Int)))) (u := undef) hg121 (by kernel_rfl)) ?_
            exact Ys.pure (fun _ => by kernel_rfl)
          refine Wd.yc (v := Value.bool (((((xs.drop i2).length : Nat) : Int) != (((xs.length : Nat) : Int) - ((i2 : Nat) : Int))) || (!(bad2 == bad2)))) rfl rfl rfl (Ys.yc (Ys.or' (e := (((xs.drop i2).length : Nat) : Int) != (((xs.length : Nat) : Int) - ((i2 : Nat) : Int))) (b := !(bad2 == bad2)) rfl (by kernel_rfl) (by kernel_rfl) (by kernel_rfl))) (.inr fun _ h_ => h_) ?_
          refine Wd.nil ?_
          refine hK114 _ _ _ ?_
          refine W.prune' [6, 7, 42, 43, 44, 92, 93, 94, 95, 96, 97, 98, 99] [Value.pointer (some ⟨ne24.b, 0, none⟩), Value.pointer (some ⟨p30, 0, none⟩), Value.slice na ns.length ncap, Value.int .i64 ((ns.length : Nat) : Int), Value.int .i64 ((q : Nat) : Int), (bif !((((xs.drop i2).length : Nat) : Int) != (((xs.length : Nat) : Int) - ((i2 : Nat) : Int))) then Value.pointer (some ⟨ne24.b, 0, none⟩) else undef), (bif !((((xs.drop i2).length : Nat) : Int) != (((xs.length : Nat) : Int) - ((i2 : Nat) : Int))) then Value.bool bad2 else undef), (bif !((((xs.drop i2).length : Nat) : Int) != (((xs.length : Nat) : Int) - ((i2 : Nat) : Int))) then Value.pointer (some ⟨p30, 0, none⟩) else undef), (bif !((((xs.drop i2).length : Nat) : Int) != (((xs.length : Nat) : Int) - ((i2 : Nat) : Int))) then Value.pointer (some ⟨p30, 0, none⟩) else undef), (bif !((((xs.drop i2).length : Nat) : Int) != (((xs.length : Nat) : Int) - ((i2 : Nat) : Int))) then Value.pointer (some ⟨p30, 2, none⟩) else undef), (bif !((((xs.drop i2).length : Nat) : Int) != (((xs.length : Nat) : Int) - ((i2 : Nat) : Int))) then Value.bool bad2 else undef), (bif !((((xs.drop i2).length : Nat) : Int) != (((xs.length : Nat) : Int) - ((i2 : Nat) : Int))) then Value.bool (!(bad2 == bad2)) else undef), Value.bool (((((xs.drop i2).length : Nat) : Int) != (((xs.length : Nat) : Int) - ((i2 : Nat) : Int))) || (!(bad2 == bad2)))] (by kernel_rfl) (fun f122 => ?_)
          refine W.cond (((((xs.drop i2).length : Nat) : Int) != (((xs.length : Nat) : Int) - ((i2 : Nat) : Int))) || (!(bad2 == bad2))) (by kernel_rfl) (fun h123 => ?_) (fun h124 => ?_)
          · have qh123 := h123; try simp only [Bool.and_eq_true, Bool.or_eq_true, Bool.not_eq_true', Bool.not_eq_false', Bool.and_eq_false_iff, Bool.or_eq_false_iff, decide_eq_true_eq, decide_eq_false_iff_not, beq_iff_eq, bne_iff_ne, beq_eq_false_iff_ne, bne_eq_false_iff_eq] at qh123
            (have hq2 := h123; simp [hi2] at hq2; omega)
          · have qh124 := h124; try simp only [Bool.and_eq_true, Bool.or_eq_true, Bool.not_eq_true', Bool.not_eq_false', Bool.and_eq_false_iff, Bool.or_eq_false_iff, decide_eq_true_eq, decide_eq_false_iff_not, beq_iff_eq, bne_iff_ne, beq_eq_false_iff_ne, bne_eq_false_iff_eq] at qh124
            refine W.skip' ?_
            refine hK60 _ _ _ ?_
            refine W.prune' [6, 7, 42, 43, 44, 92, 93, 94, 95, 96, 97, 98] [Value.pointer (some ⟨ne24.b, 0, none⟩), Value.pointer (some ⟨p30, 0, none⟩), Value.slice na ns.length ncap, Value.int .i64 ((ns.length : Nat) : Int), Value.int .i64 ((q : Nat) : Int), (bif !((((xs.drop i2).length : Nat) : Int) != (((xs.length : Nat) : Int) - ((i2 : Nat) : Int))) then Value.pointer (some ⟨ne24.b, 0, none⟩) else undef), (bif !((((xs.drop i2).length : Nat) : Int) != (((xs.length : Nat) : Int) - ((i2 : Nat) : Int))) then Value.bool bad2 else undef), (bif !((((xs.drop i2).length : Nat) : Int) != (((xs.length : Nat) : Int) - ((i2 : Nat) : Int))) then Value.pointer (some ⟨p30, 0, none⟩) else undef), (bif !((((xs.drop i2).length : Nat) : Int) != (((xs.length : Nat) : Int) - ((i2 : Nat) : Int))) then Value.pointer (some ⟨p30, 0, none⟩) else undef), (bif !((((xs.drop i2).length : Nat) : Int) != (((xs.length : Nat) : Int) - ((i2 : Nat) : Int))) then Value.pointer (some ⟨p30, 2, none⟩) else undef), (bif !((((xs.drop i2).length : Nat) : Int) != (((xs.length : Nat) : Int) - ((i2 : Nat) : Int))) then Value.bool bad2 else undef), (bif !((((xs.drop i2).length : Nat) : Int) != (((xs.length : Nat) : Int) - ((i2 : Nat) : Int))) then Value.bool (!(bad2 == bad2)) else undef)] (by kernel_rfl) (fun f125 => ?_)
            refine W.region ?_
            refine Wl.ys (v := Value.int .i64 ((q + 1 : Nat) : Int)) rfl rfl ((Ys.pure (v := .int .i64 (iadd .i64 ((q : Nat) : Int) 1)) (fun _ => by kernel_rfl)).conseq (int_congr (iadd_eq (by omega) (by omega) (by omega)))) ?_
            refine Wl.run 1 (by kernel_rfl) ?_
            refine Wl.nil ?_
            refine fun w_ h_ => hJ52 (q + 1) i2 bad2 va2 vc2 _ w_ (by omega) ⟨(by omega), hi2, hv2, hc2⟩ ?_ h_
            kernel_rfl
      · have qh58 := h58; try simp only [Bool.and_eq_true, Bool.or_eq_true, Bool.not_eq_true', Bool.not_eq_false', Bool.and_eq_false_iff, Bool.or_eq_false_iff, decide_eq_true_eq, decide_eq_false_iff_not, beq_iff_eq, bne_iff_ne, beq_eq_false_iff_ne, bne_eq_false_iff_eq] at qh58
        refine W.exit ?_
        refine hK49 _ _ _ ?_
        refine W.pick (LL' := []) [] (by decide) rfl ?_
        refine W.prune' [] [] (by kernel_rfl) (fun f126 => ?_)
        refine W.seq (fun K127 hK127 => ?_)
        refine W.region ?_
        refine Wl.run 1 (by kernel_rfl) ?_
        refine Wl.nil ?_
        refine hK127 _ _ _ ?_
        refine W.ret ?_
        show ∀ w_, _ → bodyPostM (fence none) 0 Try.prog Try.f4 _ Exit.ret _ w_
        exact fun w_ hS_ => fin_ret (ret1 rfl (RV.tmp (v := Value.bool true) (by kernel_rfl)) hS_ ⟨rfl, hS_.below⟩)

end Go.Proofs.Ytegeijaicjackaa.Oct
