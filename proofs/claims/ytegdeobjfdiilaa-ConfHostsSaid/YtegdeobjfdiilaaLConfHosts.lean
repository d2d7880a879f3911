/-
  ConfHosts: called with any arguments the law returns true and its arguments read as before. No condition.
-/
import Derived.Test.YtegdeobjfdiilaaConf3
import Derived.Test.YtegdeobjfdiilaaEq
set_option linter.unusedVariables false
set_option linter.unusedSimpArgs false
namespace Go.Proofs.Ytegdeobjfdiilaa.ConfHosts
open Go.ChangeShapes Go.WideShapes Go.ChangeAt Go.RowKit Base Conf

set_option maxHeartbeats 1000000 in
theorem walk (c : Cfg) (a f0 f1 f2 f3 : Int) (F : Nat → Fwd) (w : World) (hsl : Sl w c.fa c.fl 4 (fun k => [Value.int .u8 ((F k).proto), Value.int .u16 ((F k).port), Value.int .u16 ((F k).dest), Value.int .u32 ((F k).host)])) (ha : 0 ≤ a ∧ a ≤ 4294967295) (hc : 0 ≤ c.lan ∧ c.lan ≤ 4294967295) : Calls Try.prog 4 #[Value.agg ([Value.int .u8 c.lm0, Value.int .u8 c.lm1, Value.int .u8 c.lm2, Value.int .u8 c.lm3, Value.int .u8 c.lm4, Value.int .u8 c.lm5, Value.int .u8 c.wm0, Value.int .u8 c.wm1, Value.int .u8 c.wm2, Value.int .u8 c.wm3, Value.int .u8 c.wm4, Value.int .u8 c.wm5, Value.int .u8 c.hm0, Value.int .u8 c.hm1, Value.int .u8 c.hm2, Value.int .u8 c.hm3, Value.int .u8 c.hm4, Value.int .u8 c.hm5, Value.int .u32 c.lan, Value.int .u32 c.wan, Value.int .i64 c.bits, Value.int .i64 c.ms, Value.int .i64 c.mm, Value.int .i64 c.mc, Value.int .i64 c.mu, Value.slice c.fa c.fl c.fc, Value.int .u32 c.dmz, Value.string c.uu]).toArray, Value.int .u32 a, Value.agg ([Value.int .u8 f0, Value.int .u16 f1, Value.int .u16 f2, Value.int .u32 f3]).toArray] w (Ret w (.bool true)) := by
  refine calls_W (M := []) (L := []) (n := 63) Try.func4 rfl rfl (by simp) (Mem.refl _) ?_
  refine W.seq (fun K1 hK1 => ?_)
  refine W.region ?_
  refine Wl.box (v := Value.agg ([Value.int .u8 c.lm0, Value.int .u8 c.lm1, Value.int .u8 c.lm2, Value.int .u8 c.lm3, Value.int .u8 c.lm4, Value.int .u8 c.lm5, Value.int .u8 c.wm0, Value.int .u8 c.wm1, Value.int .u8 c.wm2, Value.int .u8 c.wm3, Value.int .u8 c.wm4, Value.int .u8 c.wm5, Value.int .u8 c.hm0, Value.int .u8 c.hm1, Value.int .u8 c.hm2, Value.int .u8 c.hm3, Value.int .u8 c.hm4, Value.int .u8 c.hm5, Value.int .u32 c.lan, Value.int .u32 c.wan, Value.int .i64 c.bits, Value.int .i64 c.ms, Value.int .i64 c.mm, Value.int .i64 c.mc, Value.int .i64 c.mu, Value.slice c.fa c.fl c.fc, Value.int .u32 c.dmz, Value.string c.uu]).toArray) (cs := [Value.int .u8 c.lm0, Value.int .u8 c.lm1, Value.int .u8 c.lm2, Value.int .u8 c.lm3, Value.int .u8 c.lm4, Value.int .u8 c.lm5, Value.int .u8 c.wm0, Value.int .u8 c.wm1, Value.int .u8 c.wm2, Value.int .u8 c.wm3, Value.int .u8 c.wm4, Value.int .u8 c.wm5, Value.int .u8 c.hm0, Value.int .u8 c.hm1, Value.int .u8 c.hm2, Value.int .u8 c.hm3, Value.int .u8 c.hm4, Value.int .u8 c.hm5, Value.int .u32 c.lan, Value.int .u32 c.wan, Value.int .i64 c.bits, Value.int .i64 c.ms, Value.int .i64 c.mm, Value.int .i64 c.mc, Value.int .i64 c.mu, Value.slice c.fa c.fl c.fc, Value.int .u32 c.dmz, Value.string c.uu]) rfl rfl rfl (by kernel_rfl) rfl (fun p3 => ?_)
  refine Wl.box (v := Value.agg ([Value.int .u8 f0, Value.int .u16 f1, Value.int .u16 f2, Value.int .u32 f3]).toArray) (cs := [Value.int .u8 f0, Value.int .u16 f1, Value.int .u16 f2, Value.int .u32 f3]) rfl rfl rfl (by kernel_rfl) rfl (fun p5 => ?_)
  refine Wl.ys (v := Value.bool false) rfl rfl (Ys.pure (fun _ => by kernel_rfl)) ?_
  refine Wl.nil ?_
  refine hK1 _ _ ?_
  refine W.seq (fun K2 hK2 => ?_)
  refine W.seq (fun K3 hK3 => ?_)
  refine W.region ?_
  refine Wl.ys (v := Value.bool true) rfl rfl (Ys.call (k := 12) (args := #[]) (fun _ => by kernel_rfl) (fun _ hSc => speaks_c _)) ?_
  refine Wl.ys (v := Value.bool false) rfl rfl (Ys.pure (fun _ => by kernel_rfl)) ?_
  refine Wl.nil ?_
  refine hK3 _ _ ?_
  refine W.condF (by kernel_rfl) ?_
  refine W.skip' ?_
  refine hK2 _ _ ?_
  refine W.seq (fun K4 hK4 => ?_)
  refine W.seq (fun K5 hK5 => ?_)
  refine W.region ?_
  refine Wl.ys (v := Value.pointer (some ⟨p3, 25, none⟩)) rfl rfl (Ys.pure (fun _ => by kernel_rfl)) ?_
  refine Wl.ys (v := Value.slice c.fa c.fl c.fc) rfl rfl (Ys.load (b := p3) (o' := 25) (i := 1) (cs := [Value.int .u8 c.lm0, Value.int .u8 c.lm1, Value.int .u8 c.lm2, Value.int .u8 c.lm3, Value.int .u8 c.lm4, Value.int .u8 c.lm5, Value.int .u8 c.wm0, Value.int .u8 c.wm1, Value.int .u8 c.wm2, Value.int .u8 c.wm3, Value.int .u8 c.wm4, Value.int .u8 c.wm5, Value.int .u8 c.hm0, Value.int .u8 c.hm1, Value.int .u8 c.hm2, Value.int .u8 c.hm3, Value.int .u8 c.hm4, Value.int .u8 c.hm5, Value.int .u32 c.lan, Value.int .u32 c.wan, Value.int .i64 c.bits, Value.int .i64 c.ms, Value.int .i64 c.mm, Value.int .i64 c.mc, Value.int .i64 c.mu, Value.slice c.fa c.fl c.fc, Value.int .u32 c.dmz, Value.string c.uu]) (v := Value.slice c.fa c.fl c.fc) rfl (by kernel_rfl) Try.isAgg26 rfl rfl) ?_
  refine Wl.ys (v := Value.int .i64 ((c.fl : Nat) : Int)) rfl rfl (Ys.pure (fun _ => by kernel_rfl)) ?_
  refine Wl.ys (v := Value.bool (decide (((c.fl : Nat) : Int) > 100))) rfl rfl (Ys.pure (fun _ => by kernel_rfl)) ?_
  refine Wl.nil ?_
  refine hK5 _ _ ?_
  refine W.cond (decide (((c.fl : Nat) : Int) > 100)) (by kernel_rfl) (fun h6 => ?_) (fun h7 => ?_)
  · have qh6 := h6; try simp only [Bool.and_eq_true, Bool.or_eq_true, Bool.not_eq_true', Bool.not_eq_false', Bool.and_eq_false_iff, Bool.or_eq_false_iff, decide_eq_true_eq, decide_eq_false_iff_not, beq_iff_eq, bne_iff_ne, beq_eq_false_iff_ne, bne_eq_false_iff_eq] at qh6
    refine W.seq (fun K8 hK8 => ?_)
    refine W.region ?_
    refine Wl.ys (v := Value.bool true) rfl rfl (Ys.pure (fun _ => by kernel_rfl)) ?_
    refine Wl.nil ?_
    refine hK8 _ _ ?_
    refine W.ret ?_
    show ∀ w_, _ → bodyPost Try.prog Try.f4 _ Exit.ret _ w_
    exact fun w_ hS_ => ret1 rfl (RV.tmp (v := Value.bool true) (by kernel_rfl)) hS_ ⟨rfl, hS_.below⟩
  · have qh7 := h7; try simp only [Bool.and_eq_true, Bool.or_eq_true, Bool.not_eq_true', Bool.not_eq_false', Bool.and_eq_false_iff, Bool.or_eq_false_iff, decide_eq_true_eq, decide_eq_false_iff_not, beq_iff_eq, bne_iff_ne, beq_eq_false_iff_ne, bne_eq_false_iff_eq] at qh7
    refine W.skip' ?_
    refine hK4 _ _ ?_
    refine W.seq (fun K9 hK9 => ?_)
    refine W.region ?_
    refine Wl.ys (v := Value.agg ([Value.int .u8 c.lm0, Value.int .u8 c.lm1, Value.int .u8 c.lm2, Value.int .u8 c.lm3, Value.int .u8 c.lm4, Value.int .u8 c.lm5, Value.int .u8 c.wm0, Value.int .u8 c.wm1, Value.int .u8 c.wm2, Value.int .u8 c.wm3, Value.int .u8 c.wm4, Value.int .u8 c.wm5, Value.int .u8 c.hm0, Value.int .u8 c.hm1, Value.int .u8 c.hm2, Value.int .u8 c.hm3, Value.int .u8 c.hm4, Value.int .u8 c.hm5, Value.int .u32 c.lan, Value.int .u32 c.wan, Value.int .i64 c.bits, Value.int .i64 c.ms, Value.int .i64 c.mm, Value.int .i64 c.mc, Value.int .i64 c.mu, Value.slice c.fa c.fl c.fc, Value.int .u32 c.dmz, Value.string c.uu]).toArray) rfl rfl (Ys.loadN (b := p3) (o' := 0) (i := 1) (cs := [Value.int .u8 c.lm0, Value.int .u8 c.lm1, Value.int .u8 c.lm2, Value.int .u8 c.lm3, Value.int .u8 c.lm4, Value.int .u8 c.lm5, Value.int .u8 c.wm0, Value.int .u8 c.wm1, Value.int .u8 c.wm2, Value.int .u8 c.wm3, Value.int .u8 c.wm4, Value.int .u8 c.wm5, Value.int .u8 c.hm0, Value.int .u8 c.hm1, Value.int .u8 c.hm2, Value.int .u8 c.hm3, Value.int .u8 c.hm4, Value.int .u8 c.hm5, Value.int .u32 c.lan, Value.int .u32 c.wan, Value.int .i64 c.bits, Value.int .i64 c.ms, Value.int .i64 c.mm, Value.int .i64 c.mc, Value.int .i64 c.mu, Value.slice c.fa c.fl c.fc, Value.int .u32 c.dmz, Value.string c.uu]) (vs := [Value.int .u8 c.lm0, Value.int .u8 c.lm1, Value.int .u8 c.lm2, Value.int .u8 c.lm3, Value.int .u8 c.lm4, Value.int .u8 c.lm5, Value.int .u8 c.wm0, Value.int .u8 c.wm1, Value.int .u8 c.wm2, Value.int .u8 c.wm3, Value.int .u8 c.wm4, Value.int .u8 c.wm5, Value.int .u8 c.hm0, Value.int .u8 c.hm1, Value.int .u8 c.hm2, Value.int .u8 c.hm3, Value.int .u8 c.hm4, Value.int .u8 c.hm5, Value.int .u32 c.lan, Value.int .u32 c.wan, Value.int .i64 c.bits, Value.int .i64 c.ms, Value.int .i64 c.mm, Value.int .i64 c.mc, Value.int .i64 c.mu, Value.slice c.fa c.fl c.fc, Value.int .u32 c.dmz, Value.string c.uu]) rfl (by kernel_rfl) Try.isAgg28 Try.sizeOf28 rfl rfl rfl) ?_
    refine Wl.ys (v := Value.pointer (some ⟨p5, 0, none⟩)) rfl rfl (Ys.pure (fun _ => by kernel_rfl)) ?_
    refine Wl.ys (v := Value.int .u8 f0) rfl rfl (Ys.load (b := p5) (o' := 0) (i := 0) (cs := [Value.int .u8 f0, Value.int .u16 f1, Value.int .u16 f2, Value.int .u32 f3]) (v := Value.int .u8 f0) rfl (by kernel_rfl) Try.isAgg5 rfl rfl) ?_
    refine Wl.ys (v := Value.pointer (some ⟨p5, 1, none⟩)) rfl rfl (Ys.pure (fun _ => by kernel_rfl)) ?_
    refine Wl.ys (v := Value.int .u16 f1) rfl rfl (Ys.load (b := p5) (o' := 1) (i := 0) (cs := [Value.int .u8 f0, Value.int .u16 f1, Value.int .u16 f2, Value.int .u32 f3]) (v := Value.int .u16 f1) rfl (by kernel_rfl) Try.isAgg32 rfl rfl) ?_
    refine Wl.ys (v := Value.tuple #[.agg ([Value.int .u8 ((find F f0 f1 c.fl).1.proto), Value.int .u16 ((find F f0 f1 c.fl).1.port), Value.int .u16 ((find F f0 f1 c.fl).1.dest), Value.int .u32 ((find F f0 f1 c.fl).1.host)]).toArray, .bool ((find F f0 f1 c.fl).2)]) rfl rfl (Ys.call (k := 15) (args := #[Value.agg ([Value.int .u8 c.lm0, Value.int .u8 c.lm1, Value.int .u8 c.lm2, Value.int .u8 c.lm3, Value.int .u8 c.lm4, Value.int .u8 c.lm5, Value.int .u8 c.wm0, Value.int .u8 c.wm1, Value.int .u8 c.wm2, Value.int .u8 c.wm3, Value.int .u8 c.wm4, Value.int .u8 c.wm5, Value.int .u8 c.hm0, Value.int .u8 c.hm1, Value.int .u8 c.hm2, Value.int .u8 c.hm3, Value.int .u8 c.hm4, Value.int .u8 c.hm5, Value.int .u32 c.lan, Value.int .u32 c.wan, Value.int .i64 c.bits, Value.int .i64 c.ms, Value.int .i64 c.mm, Value.int .i64 c.mc, Value.int .i64 c.mu, Value.slice c.fa c.fl c.fc, Value.int .u32 c.dmz, Value.string c.uu]).toArray, Value.int .u8 f0, Value.int .u16 f1]) (fun _ => by kernel_rfl) (fun _ hSc => find_c c f0 f1 F _ (hsl.mem hSc) (by omega))) ?_
    refine Wl.ys (v := Value.tuple #[.agg ([Value.int .u8 ((find F f0 f1 c.fl).1.proto), Value.int .u16 ((find F f0 f1 c.fl).1.port), Value.int .u16 ((find F f0 f1 c.fl).1.dest), Value.int .u32 ((find F f0 f1 c.fl).1.host)]).toArray, .bool ((find F f0 f1 c.fl).2)]) rfl rfl (Ys.pure (fun _ => by kernel_rfl)) ?_
    refine Wl.ys (v := Value.agg ([Value.int .u8 ((find F f0 f1 c.fl).1.proto), Value.int .u16 ((find F f0 f1 c.fl).1.port), Value.int .u16 ((find F f0 f1 c.fl).1.dest), Value.int .u32 ((find F f0 f1 c.fl).1.host)]).toArray) rfl rfl (Ys.pure (fun _ => by kernel_rfl)) ?_
    refine Wl.ys (v := Value.bool ((find F f0 f1 c.fl).2)) rfl rfl (Ys.pure (fun _ => by kernel_rfl)) ?_
    refine Wl.alloc (z := Value.agg ([Value.int .u8 0, Value.int .u16 0, Value.int .u16 0, Value.int .u32 0]).toArray) (cs := [Value.int .u8 0, Value.int .u16 0, Value.int .u16 0, Value.int .u32 0]) rfl rfl rfl Try.zeroValue34 rfl (fun p7 => ?_)
    refine Wl.storeN (b := p7) (o' := 0) (i := 0) (cs := [Value.int .u8 0, Value.int .u16 0, Value.int .u16 0, Value.int .u32 0]) (vs := [Value.int .u8 ((find F f0 f1 c.fl).1.proto), Value.int .u16 ((find F f0 f1 c.fl).1.port), Value.int .u16 ((find F f0 f1 c.fl).1.dest), Value.int .u32 ((find F f0 f1 c.fl).1.host)]) (cs' := [Value.int .u8 ((find F f0 f1 c.fl).1.proto), Value.int .u16 ((find F f0 f1 c.fl).1.port), Value.int .u16 ((find F f0 f1 c.fl).1.dest), Value.int .u32 ((find F f0 f1 c.fl).1.host)]) (L' := [cb p7 [Value.int .u8 ((find F f0 f1 c.fl).1.proto), Value.int .u16 ((find F f0 f1 c.fl).1.port), Value.int .u16 ((find F f0 f1 c.fl).1.dest), Value.int .u32 ((find F f0 f1 c.fl).1.host)] 34, cb p5 [Value.int .u8 f0, Value.int .u16 f1, Value.int .u16 f2, Value.int .u32 f3] 34, cb p3 [Value.int .u8 c.lm0, Value.int .u8 c.lm1, Value.int .u8 c.lm2, Value.int .u8 c.lm3, Value.int .u8 c.lm4, Value.int .u8 c.lm5, Value.int .u8 c.wm0, Value.int .u8 c.wm1, Value.int .u8 c.wm2, Value.int .u8 c.wm3, Value.int .u8 c.wm4, Value.int .u8 c.wm5, Value.int .u8 c.hm0, Value.int .u8 c.hm1, Value.int .u8 c.hm2, Value.int .u8 c.hm3, Value.int .u8 c.hm4, Value.int .u8 c.hm5, Value.int .u32 c.lan, Value.int .u32 c.wan, Value.int .i64 c.bits, Value.int .i64 c.ms, Value.int .i64 c.mm, Value.int .i64 c.mc, Value.int .i64 c.mu, Value.slice c.fa c.fl c.fc, Value.int .u32 c.dmz, Value.string c.uu] 28]) rfl rfl rfl (by kernel_rfl) (by kernel_rfl) Try.sizeOf34 (by simp [Value.oneCell']) rfl (by simp) rfl rfl ?_
    refine Wl.ys (v := Value.bool ((find F f0 f1 c.fl).2)) rfl rfl (Ys.pure (fun _ => by kernel_rfl)) ?_
    refine Wl.nil ?_
    refine hK9 _ _ ?_
    refine W.seq (fun K10 hK10 => ?_)
    refine W.region ?_
    refine Wl.ys (v := Value.agg ([Value.int .u8 c.lm0, Value.int .u8 c.lm1, Value.int .u8 c.lm2, Value.int .u8 c.lm3, Value.int .u8 c.lm4, Value.int .u8 c.lm5, Value.int .u8 c.wm0, Value.int .u8 c.wm1, Value.int .u8 c.wm2, Value.int .u8 c.wm3, Value.int .u8 c.wm4, Value.int .u8 c.wm5, Value.int .u8 c.hm0, Value.int .u8 c.hm1, Value.int .u8 c.hm2, Value.int .u8 c.hm3, Value.int .u8 c.hm4, Value.int .u8 c.hm5, Value.int .u32 c.lan, Value.int .u32 c.wan, Value.int .i64 c.bits, Value.int .i64 c.ms, Value.int .i64 c.mm, Value.int .i64 c.mc, Value.int .i64 c.mu, Value.slice c.fa c.fl c.fc, Value.int .u32 c.dmz, Value.string c.uu]).toArray) rfl rfl (Ys.loadN (b := p3) (o' := 0) (i := 2) (cs := [Value.int .u8 c.lm0, Value.int .u8 c.lm1, Value.int .u8 c.lm2, Value.int .u8 c.lm3, Value.int .u8 c.lm4, Value.int .u8 c.lm5, Value.int .u8 c.wm0, Value.int .u8 c.wm1, Value.int .u8 c.wm2, Value.int .u8 c.wm3, Value.int .u8 c.wm4, Value.int .u8 c.wm5, Value.int .u8 c.hm0, Value.int .u8 c.hm1, Value.int .u8 c.hm2, Value.int .u8 c.hm3, Value.int .u8 c.hm4, Value.int .u8 c.hm5, Value.int .u32 c.lan, Value.int .u32 c.wan, Value.int .i64 c.bits, Value.int .i64 c.ms, Value.int .i64 c.mm, Value.int .i64 c.mc, Value.int .i64 c.mu, Value.slice c.fa c.fl c.fc, Value.int .u32 c.dmz, Value.string c.uu]) (vs := [Value.int .u8 c.lm0, Value.int .u8 c.lm1, Value.int .u8 c.lm2, Value.int .u8 c.lm3, Value.int .u8 c.lm4, Value.int .u8 c.lm5, Value.int .u8 c.wm0, Value.int .u8 c.wm1, Value.int .u8 c.wm2, Value.int .u8 c.wm3, Value.int .u8 c.wm4, Value.int .u8 c.wm5, Value.int .u8 c.hm0, Value.int .u8 c.hm1, Value.int .u8 c.hm2, Value.int .u8 c.hm3, Value.int .u8 c.hm4, Value.int .u8 c.hm5, Value.int .u32 c.lan, Value.int .u32 c.wan, Value.int .i64 c.bits, Value.int .i64 c.ms, Value.int .i64 c.mm, Value.int .i64 c.mc, Value.int .i64 c.mu, Value.slice c.fa c.fl c.fc, Value.int .u32 c.dmz, Value.string c.uu]) rfl (by kernel_rfl) Try.isAgg28 Try.sizeOf28 rfl rfl rfl) ?_
    refine Wl.ys (v := Value.pointer (some ⟨p5, 0, none⟩)) rfl rfl (Ys.pure (fun _ => by kernel_rfl)) ?_
    refine Wl.ys (v := Value.int .u8 f0) rfl rfl (Ys.load (b := p5) (o' := 0) (i := 1) (cs := [Value.int .u8 f0, Value.int .u16 f1, Value.int .u16 f2, Value.int .u32 f3]) (v := Value.int .u8 f0) rfl (by kernel_rfl) Try.isAgg5 rfl rfl) ?_
    refine Wl.ys (v := Value.pointer (some ⟨p5, 1, none⟩)) rfl rfl (Ys.pure (fun _ => by kernel_rfl)) ?_
    refine Wl.ys (v := Value.int .u16 f1) rfl rfl (Ys.load (b := p5) (o' := 1) (i := 1) (cs := [Value.int .u8 f0, Value.int .u16 f1, Value.int .u16 f2, Value.int .u32 f3]) (v := Value.int .u16 f1) rfl (by kernel_rfl) Try.isAgg32 rfl rfl) ?_
    refine Wl.ys (v := Value.tuple #[.agg ([Value.int .u8 ((find F f0 f1 c.fl).1.proto), Value.int .u16 ((find F f0 f1 c.fl).1.port), Value.int .u16 ((find F f0 f1 c.fl).1.dest), Value.int .u32 ((find F f0 f1 c.fl).1.host)]).toArray, .bool ((find F f0 f1 c.fl).2)]) rfl rfl (Ys.call (k := 16) (args := #[Value.agg ([Value.int .u8 c.lm0, Value.int .u8 c.lm1, Value.int .u8 c.lm2, Value.int .u8 c.lm3, Value.int .u8 c.lm4, Value.int .u8 c.lm5, Value.int .u8 c.wm0, Value.int .u8 c.wm1, Value.int .u8 c.wm2, Value.int .u8 c.wm3, Value.int .u8 c.wm4, Value.int .u8 c.wm5, Value.int .u8 c.hm0, Value.int .u8 c.hm1, Value.int .u8 c.hm2, Value.int .u8 c.hm3, Value.int .u8 c.hm4, Value.int .u8 c.hm5, Value.int .u32 c.lan, Value.int .u32 c.wan, Value.int .i64 c.bits, Value.int .i64 c.ms, Value.int .i64 c.mm, Value.int .i64 c.mc, Value.int .i64 c.mu, Value.slice c.fa c.fl c.fc, Value.int .u32 c.dmz, Value.string c.uu]).toArray, Value.int .u8 f0, Value.int .u16 f1]) (fun _ => by kernel_rfl) (fun _ hSc => find2_c c f0 f1 F _ (hsl.mem hSc) (by omega))) ?_
    refine Wl.ys (v := Value.tuple #[.agg ([Value.int .u8 ((find F f0 f1 c.fl).1.proto), Value.int .u16 ((find F f0 f1 c.fl).1.port), Value.int .u16 ((find F f0 f1 c.fl).1.dest), Value.int .u32 ((find F f0 f1 c.fl).1.host)]).toArray, .bool ((find F f0 f1 c.fl).2)]) rfl rfl (Ys.pure (fun _ => by kernel_rfl)) ?_
    refine Wl.ys (v := Value.agg ([Value.int .u8 ((find F f0 f1 c.fl).1.proto), Value.int .u16 ((find F f0 f1 c.fl).1.port), Value.int .u16 ((find F f0 f1 c.fl).1.dest), Value.int .u32 ((find F f0 f1 c.fl).1.host)]).toArray) rfl rfl (Ys.pure (fun _ => by kernel_rfl)) ?_
    refine Wl.ys (v := Value.bool ((find F f0 f1 c.fl).2)) rfl rfl (Ys.pure (fun _ => by kernel_rfl)) ?_
    refine Wl.alloc (z := Value.agg ([Value.int .u8 0, Value.int .u16 0, Value.int .u16 0, Value.int .u32 0]).toArray) (cs := [Value.int .u8 0, Value.int .u16 0, Value.int .u16 0, Value.int .u32 0]) rfl rfl rfl Try.zeroValue34 rfl (fun p9 => ?_)
    refine Wl.storeN (b := p9) (o' := 0) (i := 0) (cs := [Value.int .u8 0, Value.int .u16 0, Value.int .u16 0, Value.int .u32 0]) (vs := [Value.int .u8 ((find F f0 f1 c.fl).1.proto), Value.int .u16 ((find F f0 f1 c.fl).1.port), Value.int .u16 ((find F f0 f1 c.fl).1.dest), Value.int .u32 ((find F f0 f1 c.fl).1.host)]) (cs' := [Value.int .u8 ((find F f0 f1 c.fl).1.proto), Value.int .u16 ((find F f0 f1 c.fl).1.port), Value.int .u16 ((find F f0 f1 c.fl).1.dest), Value.int .u32 ((find F f0 f1 c.fl).1.host)]) (L' := [cb p9 [Value.int .u8 ((find F f0 f1 c.fl).1.proto), Value.int .u16 ((find F f0 f1 c.fl).1.port), Value.int .u16 ((find F f0 f1 c.fl).1.dest), Value.int .u32 ((find F f0 f1 c.fl).1.host)] 34, cb p7 [Value.int .u8 ((find F f0 f1 c.fl).1.proto), Value.int .u16 ((find F f0 f1 c.fl).1.port), Value.int .u16 ((find F f0 f1 c.fl).1.dest), Value.int .u32 ((find F f0 f1 c.fl).1.host)] 34, cb p5 [Value.int .u8 f0, Value.int .u16 f1, Value.int .u16 f2, Value.int .u32 f3] 34, cb p3 [Value.int .u8 c.lm0, Value.int .u8 c.lm1, Value.int .u8 c.lm2, Value.int .u8 c.lm3, Value.int .u8 c.lm4, Value.int .u8 c.lm5, Value.int .u8 c.wm0, Value.int .u8 c.wm1, Value.int .u8 c.wm2, Value.int .u8 c.wm3, Value.int .u8 c.wm4, Value.int .u8 c.wm5, Value.int .u8 c.hm0, Value.int .u8 c.hm1, Value.int .u8 c.hm2, Value.int .u8 c.hm3, Value.int .u8 c.hm4, Value.int .u8 c.hm5, Value.int .u32 c.lan, Value.int .u32 c.wan, Value.int .i64 c.bits, Value.int .i64 c.ms, Value.int .i64 c.mm, Value.int .i64 c.mc, Value.int .i64 c.mu, Value.slice c.fa c.fl c.fc, Value.int .u32 c.dmz, Value.string c.uu] 28]) rfl rfl rfl (by kernel_rfl) (by kernel_rfl) Try.sizeOf34 (by simp [Value.oneCell']) rfl (by simp) rfl rfl ?_
    refine Wl.ys (v := Value.bool ((find F f0 f1 c.fl).2)) rfl rfl (Ys.pure (fun _ => by kernel_rfl)) ?_
    refine Wl.nil ?_
    refine hK10 _ _ ?_
    refine W.seq (fun K11 hK11 => ?_)
    refine W.draws 29 (by kernel_rfl) (by kernel_rfl) (fun _ _ h => h.drawn _) ?_
    refine Wt.ys (v := Value.agg ([Value.int .u8 c.lm0, Value.int .u8 c.lm1, Value.int .u8 c.lm2, Value.int .u8 c.lm3, Value.int .u8 c.lm4, Value.int .u8 c.lm5, Value.int .u8 c.wm0, Value.int .u8 c.wm1, Value.int .u8 c.wm2, Value.int .u8 c.wm3, Value.int .u8 c.wm4, Value.int .u8 c.wm5, Value.int .u8 c.hm0, Value.int .u8 c.hm1, Value.int .u8 c.hm2, Value.int .u8 c.hm3, Value.int .u8 c.hm4, Value.int .u8 c.hm5, Value.int .u32 c.lan, Value.int .u32 c.wan, Value.int .i64 c.bits, Value.int .i64 c.ms, Value.int .i64 c.mm, Value.int .i64 c.mc, Value.int .i64 c.mu, Value.slice c.fa c.fl c.fc, Value.int .u32 c.dmz, Value.string c.uu]).toArray) rfl rfl (Ys.loadN (b := p3) (o' := 0) (i := 3) (cs := [Value.int .u8 c.lm0, Value.int .u8 c.lm1, Value.int .u8 c.lm2, Value.int .u8 c.lm3, Value.int .u8 c.lm4, Value.int .u8 c.lm5, Value.int .u8 c.wm0, Value.int .u8 c.wm1, Value.int .u8 c.wm2, Value.int .u8 c.wm3, Value.int .u8 c.wm4, Value.int .u8 c.wm5, Value.int .u8 c.hm0, Value.int .u8 c.hm1, Value.int .u8 c.hm2, Value.int .u8 c.hm3, Value.int .u8 c.hm4, Value.int .u8 c.hm5, Value.int .u32 c.lan, Value.int .u32 c.wan, Value.int .i64 c.bits, Value.int .i64 c.ms, Value.int .i64 c.mm, Value.int .i64 c.mc, Value.int .i64 c.mu, Value.slice c.fa c.fl c.fc, Value.int .u32 c.dmz, Value.string c.uu]) (vs := [Value.int .u8 c.lm0, Value.int .u8 c.lm1, Value.int .u8 c.lm2, Value.int .u8 c.lm3, Value.int .u8 c.lm4, Value.int .u8 c.lm5, Value.int .u8 c.wm0, Value.int .u8 c.wm1, Value.int .u8 c.wm2, Value.int .u8 c.wm3, Value.int .u8 c.wm4, Value.int .u8 c.wm5, Value.int .u8 c.hm0, Value.int .u8 c.hm1, Value.int .u8 c.hm2, Value.int .u8 c.hm3, Value.int .u8 c.hm4, Value.int .u8 c.hm5, Value.int .u32 c.lan, Value.int .u32 c.wan, Value.int .i64 c.bits, Value.int .i64 c.ms, Value.int .i64 c.mm, Value.int .i64 c.mc, Value.int .i64 c.mu, Value.slice c.fa c.fl c.fc, Value.int .u32 c.dmz, Value.string c.uu]) rfl (by kernel_rfl) Try.isAgg28 Try.sizeOf28 rfl rfl rfl) ?_
    refine Wt.ys (v := Value.int .u32 a) rfl rfl (Ys.pure (fun _ => by kernel_rfl)) ?_
    refine Wt.ys (v := Value.bool (host c a)) rfl rfl (Ys.call (k := 14) (args := #[Value.agg ([Value.int .u8 c.lm0, Value.int .u8 c.lm1, Value.int .u8 c.lm2, Value.int .u8 c.lm3, Value.int .u8 c.lm4, Value.int .u8 c.lm5, Value.int .u8 c.wm0, Value.int .u8 c.wm1, Value.int .u8 c.wm2, Value.int .u8 c.wm3, Value.int .u8 c.wm4, Value.int .u8 c.wm5, Value.int .u8 c.hm0, Value.int .u8 c.hm1, Value.int .u8 c.hm2, Value.int .u8 c.hm3, Value.int .u8 c.hm4, Value.int .u8 c.hm5, Value.int .u32 c.lan, Value.int .u32 c.wan, Value.int .i64 c.bits, Value.int .i64 c.ms, Value.int .i64 c.mm, Value.int .i64 c.mc, Value.int .i64 c.mu, Value.slice c.fa c.fl c.fc, Value.int .u32 c.dmz, Value.string c.uu]).toArray, Value.int .u32 a]) (fun _ => by kernel_rfl) (fun _ hSc => host_c c a _ )) ?_
    refine Wt.ys (v := Value.agg ([Value.int .u8 c.lm0, Value.int .u8 c.lm1, Value.int .u8 c.lm2, Value.int .u8 c.lm3, Value.int .u8 c.lm4, Value.int .u8 c.lm5, Value.int .u8 c.wm0, Value.int .u8 c.wm1, Value.int .u8 c.wm2, Value.int .u8 c.wm3, Value.int .u8 c.wm4, Value.int .u8 c.wm5, Value.int .u8 c.hm0, Value.int .u8 c.hm1, Value.int .u8 c.hm2, Value.int .u8 c.hm3, Value.int .u8 c.hm4, Value.int .u8 c.hm5, Value.int .u32 c.lan, Value.int .u32 c.wan, Value.int .i64 c.bits, Value.int .i64 c.ms, Value.int .i64 c.mm, Value.int .i64 c.mc, Value.int .i64 c.mu, Value.slice c.fa c.fl c.fc, Value.int .u32 c.dmz, Value.string c.uu]).toArray) rfl rfl (Ys.loadN (b := p3) (o' := 0) (i := 3) (cs := [Value.int .u8 c.lm0, Value.int .u8 c.lm1, Value.int .u8 c.lm2, Value.int .u8 c.lm3, Value.int .u8 c.lm4, Value.int .u8 c.lm5, Value.int .u8 c.wm0, Value.int .u8 c.wm1, Value.int .u8 c.wm2, Value.int .u8 c.wm3, Value.int .u8 c.wm4, Value.int .u8 c.wm5, Value.int .u8 c.hm0, Value.int .u8 c.hm1, Value.int .u8 c.hm2, Value.int .u8 c.hm3, Value.int .u8 c.hm4, Value.int .u8 c.hm5, Value.int .u32 c.lan, Value.int .u32 c.wan, Value.int .i64 c.bits, Value.int .i64 c.ms, Value.int .i64 c.mm, Value.int .i64 c.mc, Value.int .i64 c.mu, Value.slice c.fa c.fl c.fc, Value.int .u32 c.dmz, Value.string c.uu]) (vs := [Value.int .u8 c.lm0, Value.int .u8 c.lm1, Value.int .u8 c.lm2, Value.int .u8 c.lm3, Value.int .u8 c.lm4, Value.int .u8 c.lm5, Value.int .u8 c.wm0, Value.int .u8 c.wm1, Value.int .u8 c.wm2, Value.int .u8 c.wm3, Value.int .u8 c.wm4, Value.int .u8 c.wm5, Value.int .u8 c.hm0, Value.int .u8 c.hm1, Value.int .u8 c.hm2, Value.int .u8 c.hm3, Value.int .u8 c.hm4, Value.int .u8 c.hm5, Value.int .u32 c.lan, Value.int .u32 c.wan, Value.int .i64 c.bits, Value.int .i64 c.ms, Value.int .i64 c.mm, Value.int .i64 c.mc, Value.int .i64 c.mu, Value.slice c.fa c.fl c.fc, Value.int .u32 c.dmz, Value.string c.uu]) rfl (by kernel_rfl) Try.isAgg28 Try.sizeOf28 rfl rfl rfl) ?_
    refine Wt.ys (v := Value.int .u32 a) rfl rfl (Ys.pure (fun _ => by kernel_rfl)) ?_
    refine Wt.ys (v := Value.bool (host c a)) rfl rfl (Ys.call (k := 17) (args := #[Value.agg ([Value.int .u8 c.lm0, Value.int .u8 c.lm1, Value.int .u8 c.lm2, Value.int .u8 c.lm3, Value.int .u8 c.lm4, Value.int .u8 c.lm5, Value.int .u8 c.wm0, Value.int .u8 c.wm1, Value.int .u8 c.wm2, Value.int .u8 c.wm3, Value.int .u8 c.wm4, Value.int .u8 c.wm5, Value.int .u8 c.hm0, Value.int .u8 c.hm1, Value.int .u8 c.hm2, Value.int .u8 c.hm3, Value.int .u8 c.hm4, Value.int .u8 c.hm5, Value.int .u32 c.lan, Value.int .u32 c.wan, Value.int .i64 c.bits, Value.int .i64 c.ms, Value.int .i64 c.mm, Value.int .i64 c.mc, Value.int .i64 c.mu, Value.slice c.fa c.fl c.fc, Value.int .u32 c.dmz, Value.string c.uu]).toArray, Value.int .u32 a]) (fun _ => by kernel_rfl) (fun _ hSc => host2_c c a _ (by first | assumption | omega | decide) (by first | assumption | omega | decide))) ?_
    refine Wt.ys (v := Value.bool ((host c a) == (host c a))) rfl rfl (Ys.pure (fun _ => by kernel_rfl)) ?_
    refine Wt.ys (v := Value.bool ((host c a) == (host c a))) rfl rfl (Ys.pure (fun _ => by kernel_rfl)) ?_
    refine Wt.guard (v := Value.agg ([Value.int .u8 c.lm0, Value.int .u8 c.lm1, Value.int .u8 c.lm2, Value.int .u8 c.lm3, Value.int .u8 c.lm4, Value.int .u8 c.lm5, Value.int .u8 c.wm0, Value.int .u8 c.wm1, Value.int .u8 c.wm2, Value.int .u8 c.wm3, Value.int .u8 c.wm4, Value.int .u8 c.wm5, Value.int .u8 c.hm0, Value.int .u8 c.hm1, Value.int .u8 c.hm2, Value.int .u8 c.hm3, Value.int .u8 c.hm4, Value.int .u8 c.hm5, Value.int .u32 c.lan, Value.int .u32 c.wan, Value.int .i64 c.bits, Value.int .i64 c.ms, Value.int .i64 c.mm, Value.int .i64 c.mc, Value.int .i64 c.mu, Value.slice c.fa c.fl c.fc, Value.int .u32 c.dmz, Value.string c.uu]).toArray) ((host c a) == (host c a)) (wantT rfl (by kernel_rfl)) rfl (fun hg12 => ?_) ?_
    · have qhg12 := hg12; try simp only [Bool.and_eq_true, Bool.or_eq_true, Bool.not_eq_true', Bool.not_eq_false', Bool.and_eq_false_iff, Bool.or_eq_false_iff, decide_eq_true_eq, decide_eq_false_iff_not, beq_iff_eq, bne_iff_ne, beq_eq_false_iff_ne, bne_eq_false_iff_eq] at qhg12
      exact Ys.loadN (b := p3) (o' := 0) (i := 3) (cs := [Value.int .u8 c.lm0, Value.int .u8 c.lm1, Value.int .u8 c.lm2, Value.int .u8 c.lm3, Value.int .u8 c.lm4, Value.int .u8 c.lm5, Value.int .u8 c.wm0, Value.int .u8 c.wm1, Value.int .u8 c.wm2, Value.int .u8 c.wm3, Value.int .u8 c.wm4, Value.int .u8 c.wm5, Value.int .u8 c.hm0, Value.int .u8 c.hm1, Value.int .u8 c.hm2, Value.int .u8 c.hm3, Value.int .u8 c.hm4, Value.int .u8 c.hm5, Value.int .u32 c.lan, Value.int .u32 c.wan, Value.int .i64 c.bits, Value.int .i64 c.ms, Value.int .i64 c.mm, Value.int .i64 c.mc, Value.int .i64 c.mu, Value.slice c.fa c.fl c.fc, Value.int .u32 c.dmz, Value.string c.uu]) (vs := [Value.int .u8 c.lm0, Value.int .u8 c.lm1, Value.int .u8 c.lm2, Value.int .u8 c.lm3, Value.int .u8 c.lm4, Value.int .u8 c.lm5, Value.int .u8 c.wm0, Value.int .u8 c.wm1, Value.int .u8 c.wm2, Value.int .u8 c.wm3, Value.int .u8 c.wm4, Value.int .u8 c.wm5, Value.int .u8 c.hm0, Value.int .u8 c.hm1, Value.int .u8 c.hm2, Value.int .u8 c.hm3, Value.int .u8 c.hm4, Value.int .u8 c.hm5, Value.int .u32 c.lan, Value.int .u32 c.wan, Value.int .i64 c.bits, Value.int .i64 c.ms, Value.int .i64 c.mm, Value.int .i64 c.mc, Value.int .i64 c.mu, Value.slice c.fa c.fl c.fc, Value.int .u32 c.dmz, Value.string c.uu]) rfl (by kernel_rfl) Try.isAgg28 Try.sizeOf28 rfl rfl rfl
    refine Wt.guard (v := Value.pointer (some ⟨p3, 18, none⟩)) ((host c a) == (host c a)) (wantT rfl (by kernel_rfl)) rfl (fun hg13 => ?_) ?_
    · have qhg13 := hg13; try simp only [Bool.and_eq_true, Bool.or_eq_true, Bool.not_eq_true', Bool.not_eq_false', Bool.and_eq_false_iff, Bool.or_eq_false_iff, decide_eq_true_eq, decide_eq_false_iff_not, beq_iff_eq, bne_iff_ne, beq_eq_false_iff_ne, bne_eq_false_iff_eq] at qhg13
      exact Ys.pure (fun _ => by kernel_rfl)
    refine Wt.guard (v := Value.int .u32 c.lan) ((host c a) == (host c a)) (wantT rfl (by kernel_rfl)) rfl (fun hg14 => ?_) ?_
    · have qhg14 := hg14; try simp only [Bool.and_eq_true, Bool.or_eq_true, Bool.not_eq_true', Bool.not_eq_false', Bool.and_eq_false_iff, Bool.or_eq_false_iff, decide_eq_true_eq, decide_eq_false_iff_not, beq_iff_eq, bne_iff_ne, beq_eq_false_iff_ne, bne_eq_false_iff_eq] at qhg14
      refine Ys.at (t := 44) (v0 := Value.pointer (some ⟨p3, 18, none⟩)) (lz (g := (host c a) == (host c a)) (u := undef) hg14 (by kernel_rfl)) ?_
      exact Ys.load (b := p3) (o' := 18) (i := 3) (cs := [Value.int .u8 c.lm0, Value.int .u8 c.lm1, Value.int .u8 c.lm2, Value.int .u8 c.lm3, Value.int .u8 c.lm4, Value.int .u8 c.lm5, Value.int .u8 c.wm0, Value.int .u8 c.wm1, Value.int .u8 c.wm2, Value.int .u8 c.wm3, Value.int .u8 c.wm4, Value.int .u8 c.wm5, Value.int .u8 c.hm0, Value.int .u8 c.hm1, Value.int .u8 c.hm2, Value.int .u8 c.hm3, Value.int .u8 c.hm4, Value.int .u8 c.hm5, Value.int .u32 c.lan, Value.int .u32 c.wan, Value.int .i64 c.bits, Value.int .i64 c.ms, Value.int .i64 c.mm, Value.int .i64 c.mc, Value.int .i64 c.mu, Value.slice c.fa c.fl c.fc, Value.int .u32 c.dmz, Value.string c.uu]) (v := Value.int .u32 c.lan) rfl (by kernel_rfl) Try.isAgg25 rfl rfl
    refine Wt.guard (v := Value.bool (host c c.lan)) ((host c a) == (host c a)) (wantT rfl (by kernel_rfl)) rfl (fun hg15 => ?_) ?_
    · have qhg15 := hg15; try simp only [Bool.and_eq_true, Bool.or_eq_true, Bool.not_eq_true', Bool.not_eq_false', Bool.and_eq_false_iff, Bool.or_eq_false_iff, decide_eq_true_eq, decide_eq_false_iff_not, beq_iff_eq, bne_iff_ne, beq_eq_false_iff_ne, bne_eq_false_iff_eq] at qhg15
      refine Ys.at (t := 43) (v0 := Value.agg ([Value.int .u8 c.lm0, Value.int .u8 c.lm1, Value.int .u8 c.lm2, Value.int .u8 c.lm3, Value.int .u8 c.lm4, Value.int .u8 c.lm5, Value.int .u8 c.wm0, Value.int .u8 c.wm1, Value.int .u8 c.wm2, Value.int .u8 c.wm3, Value.int .u8 c.wm4, Value.int .u8 c.wm5, Value.int .u8 c.hm0, Value.int .u8 c.hm1, Value.int .u8 c.hm2, Value.int .u8 c.hm3, Value.int .u8 c.hm4, Value.int .u8 c.hm5, Value.int .u32 c.lan, Value.int .u32 c.wan, Value.int .i64 c.bits, Value.int .i64 c.ms, Value.int .i64 c.mm, Value.int .i64 c.mc, Value.int .i64 c.mu, Value.slice c.fa c.fl c.fc, Value.int .u32 c.dmz, Value.string c.uu]).toArray) (lz (g := (host c a) == (host c a)) (u := undef) hg15 (by kernel_rfl)) ?_
      refine Ys.at (t := 45) (v0 := Value.int .u32 c.lan) (lz (g := (host c a) == (host c a)) (u := undef) hg15 (by kernel_rfl)) ?_
      exact Ys.call (k := 14) (args := #[Value.agg ([Value.int .u8 c.lm0, Value.int .u8 c.lm1, Value.int .u8 c.lm2, Value.int .u8 c.lm3, Value.int .u8 c.lm4, Value.int .u8 c.lm5, Value.int .u8 c.wm0, Value.int .u8 c.wm1, Value.int .u8 c.wm2, Value.int .u8 c.wm3, Value.int .u8 c.wm4, Value.int .u8 c.wm5, Value.int .u8 c.hm0, Value.int .u8 c.hm1, Value.int .u8 c.hm2, Value.int .u8 c.hm3, Value.int .u8 c.hm4, Value.int .u8 c.hm5, Value.int .u32 c.lan, Value.int .u32 c.wan, Value.int .i64 c.bits, Value.int .i64 c.ms, Value.int .i64 c.mm, Value.int .i64 c.mc, Value.int .i64 c.mu, Value.slice c.fa c.fl c.fc, Value.int .u32 c.dmz, Value.string c.uu]).toArray, Value.int .u32 c.lan]) (fun _ => by kernel_rfl) (fun _ hSc => host_c c c.lan _ )
    refine Wt.guard (v := Value.agg ([Value.int .u8 c.lm0, Value.int .u8 c.lm1, Value.int .u8 c.lm2, Value.int .u8 c.lm3, Value.int .u8 c.lm4, Value.int .u8 c.lm5, Value.int .u8 c.wm0, Value.int .u8 c.wm1, Value.int .u8 c.wm2, Value.int .u8 c.wm3, Value.int .u8 c.wm4, Value.int .u8 c.wm5, Value.int .u8 c.hm0, Value.int .u8 c.hm1, Value.int .u8 c.hm2, Value.int .u8 c.hm3, Value.int .u8 c.hm4, Value.int .u8 c.hm5, Value.int .u32 c.lan, Value.int .u32 c.wan, Value.int .i64 c.bits, Value.int .i64 c.ms, Value.int .i64 c.mm, Value.int .i64 c.mc, Value.int .i64 c.mu, Value.slice c.fa c.fl c.fc, Value.int .u32 c.dmz, Value.string c.uu]).toArray) ((host c a) == (host c a)) (wantT rfl (by kernel_rfl)) rfl (fun hg16 => ?_) ?_
    · have qhg16 := hg16; try simp only [Bool.and_eq_true, Bool.or_eq_true, Bool.not_eq_true', Bool.not_eq_false', Bool.and_eq_false_iff, Bool.or_eq_false_iff, decide_eq_true_eq, decide_eq_false_iff_not, beq_iff_eq, bne_iff_ne, beq_eq_false_iff_ne, bne_eq_false_iff_eq] at qhg16
      exact Ys.loadN (b := p3) (o' := 0) (i := 3) (cs := [Value.int .u8 c.lm0, Value.int .u8 c.lm1, Value.int .u8 c.lm2, Value.int .u8 c.lm3, Value.int .u8 c.lm4, Value.int .u8 c.lm5, Value.int .u8 c.wm0, Value.int .u8 c.wm1, Value.int .u8 c.wm2, Value.int .u8 c.wm3, Value.int .u8 c.wm4, Value.int .u8 c.wm5, Value.int .u8 c.hm0, Value.int .u8 c.hm1, Value.int .u8 c.hm2, Value.int .u8 c.hm3, Value.int .u8 c.hm4, Value.int .u8 c.hm5, Value.int .u32 c.lan, Value.int .u32 c.wan, Value.int .i64 c.bits, Value.int .i64 c.ms, Value.int .i64 c.mm, Value.int .i64 c.mc, Value.int .i64 c.mu, Value.slice c.fa c.fl c.fc, Value.int .u32 c.dmz, Value.string c.uu]) (vs := [Value.int .u8 c.lm0, Value.int .u8 c.lm1, Value.int .u8 c.lm2, Value.int .u8 c.lm3, Value.int .u8 c.lm4, Value.int .u8 c.lm5, Value.int .u8 c.wm0, Value.int .u8 c.wm1, Value.int .u8 c.wm2, Value.int .u8 c.wm3, Value.int .u8 c.wm4, Value.int .u8 c.wm5, Value.int .u8 c.hm0, Value.int .u8 c.hm1, Value.int .u8 c.hm2, Value.int .u8 c.hm3, Value.int .u8 c.hm4, Value.int .u8 c.hm5, Value.int .u32 c.lan, Value.int .u32 c.wan, Value.int .i64 c.bits, Value.int .i64 c.ms, Value.int .i64 c.mm, Value.int .i64 c.mc, Value.int .i64 c.mu, Value.slice c.fa c.fl c.fc, Value.int .u32 c.dmz, Value.string c.uu]) rfl (by kernel_rfl) Try.isAgg28 Try.sizeOf28 rfl rfl rfl
    refine Wt.guard (v := Value.pointer (some ⟨p3, 18, none⟩)) ((host c a) == (host c a)) (wantT rfl (by kernel_rfl)) rfl (fun hg17 => ?_) ?_
    · have qhg17 := hg17; try simp only [Bool.and_eq_true, Bool.or_eq_true, Bool.not_eq_true', Bool.not_eq_false', Bool.and_eq_false_iff, Bool.or_eq_false_iff, decide_eq_true_eq, decide_eq_false_iff_not, beq_iff_eq, bne_iff_ne, beq_eq_false_iff_ne, bne_eq_false_iff_eq] at qhg17
      exact Ys.pure (fun _ => by kernel_rfl)
    refine Wt.guard (v := Value.int .u32 c.lan) ((host c a) == (host c a)) (wantT rfl (by kernel_rfl)) rfl (fun hg18 => ?_) ?_
    · have qhg18 := hg18; try simp only [Bool.and_eq_true, Bool.or_eq_true, Bool.not_eq_true', Bool.not_eq_false', Bool.and_eq_false_iff, Bool.or_eq_false_iff, decide_eq_true_eq, decide_eq_false_iff_not, beq_iff_eq, bne_iff_ne, beq_eq_false_iff_ne, bne_eq_false_iff_eq] at qhg18
      refine Ys.at (t := 48) (v0 := Value.pointer (some ⟨p3, 18, none⟩)) (lz (g := (host c a) == (host c a)) (u := undef) hg18 (by kernel_rfl)) ?_
      exact Ys.load (b := p3) (o' := 18) (i := 3) (cs := [Value.int .u8 c.lm0, Value.int .u8 c.lm1, Value.int .u8 c.lm2, Value.int .u8 c.lm3, Value.int .u8 c.lm4, Value.int .u8 c.lm5, Value.int .u8 c.wm0, Value.int .u8 c.wm1, Value.int .u8 c.wm2, Value.int .u8 c.wm3, Value.int .u8 c.wm4, Value.int .u8 c.wm5, Value.int .u8 c.hm0, Value.int .u8 c.hm1, Value.int .u8 c.hm2, Value.int .u8 c.hm3, Value.int .u8 c.hm4, Value.int .u8 c.hm5, Value.int .u32 c.lan, Value.int .u32 c.wan, Value.int .i64 c.bits, Value.int .i64 c.ms, Value.int .i64 c.mm, Value.int .i64 c.mc, Value.int .i64 c.mu, Value.slice c.fa c.fl c.fc, Value.int .u32 c.dmz, Value.string c.uu]) (v := Value.int .u32 c.lan) rfl (by kernel_rfl) Try.isAgg25 rfl rfl
    refine Wt.guard (v := Value.bool (host c c.lan)) ((host c a) == (host c a)) (wantT rfl (by kernel_rfl)) rfl (fun hg19 => ?_) ?_
    · have qhg19 := hg19; try simp only [Bool.and_eq_true, Bool.or_eq_true, Bool.not_eq_true', Bool.not_eq_false', Bool.and_eq_false_iff, Bool.or_eq_false_iff, decide_eq_true_eq, decide_eq_false_iff_not, beq_iff_eq, bne_iff_ne, beq_eq_false_iff_ne, bne_eq_false_iff_eq] at qhg19
      refine Ys.at (t := 47) (v0 := Value.agg ([Value.int .u8 c.lm0, Value.int .u8 c.lm1, Value.int .u8 c.lm2, Value.int .u8 c.lm3, Value.int .u8 c.lm4, Value.int .u8 c.lm5, Value.int .u8 c.wm0, Value.int .u8 c.wm1, Value.int .u8 c.wm2, Value.int .u8 c.wm3, Value.int .u8 c.wm4, Value.int .u8 c.wm5, Value.int .u8 c.hm0, Value.int .u8 c.hm1, Value.int .u8 c.hm2, Value.int .u8 c.hm3, Value.int .u8 c.hm4, Value.int .u8 c.hm5, Value.int .u32 c.lan, Value.int .u32 c.wan, Value.int .i64 c.bits, Value.int .i64 c.ms, Value.int .i64 c.mm, Value.int .i64 c.mc, Value.int .i64 c.mu, Value.slice c.fa c.fl c.fc, Value.int .u32 c.dmz, Value.string c.uu]).toArray) (lz (g := (host c a) == (host c a)) (u := undef) hg19 (by kernel_rfl)) ?_
      refine Ys.at (t := 49) (v0 := Value.int .u32 c.lan) (lz (g := (host c a) == (host c a)) (u := undef) hg19 (by kernel_rfl)) ?_
      exact Ys.call (k := 17) (args := #[Value.agg ([Value.int .u8 c.lm0, Value.int .u8 c.lm1, Value.int .u8 c.lm2, Value.int .u8 c.lm3, Value.int .u8 c.lm4, Value.int .u8 c.lm5, Value.int .u8 c.wm0, Value.int .u8 c.wm1, Value.int .u8 c.wm2, Value.int .u8 c.wm3, Value.int .u8 c.wm4, Value.int .u8 c.wm5, Value.int .u8 c.hm0, Value.int .u8 c.hm1, Value.int .u8 c.hm2, Value.int .u8 c.hm3, Value.int .u8 c.hm4, Value.int .u8 c.hm5, Value.int .u32 c.lan, Value.int .u32 c.wan, Value.int .i64 c.bits, Value.int .i64 c.ms, Value.int .i64 c.mm, Value.int .i64 c.mc, Value.int .i64 c.mu, Value.slice c.fa c.fl c.fc, Value.int .u32 c.dmz, Value.string c.uu]).toArray, Value.int .u32 c.lan]) (fun _ => by kernel_rfl) (fun _ hSc => host2_c c c.lan _ (by first | assumption | omega | decide) (by first | assumption | omega | decide))
    refine Wt.guard (v := Value.bool ((host c c.lan) == (host c c.lan))) ((host c a) == (host c a)) (wantT rfl (by kernel_rfl)) rfl (fun hg20 => ?_) ?_
    · have qhg20 := hg20; try simp only [Bool.and_eq_true, Bool.or_eq_true, Bool.not_eq_true', Bool.not_eq_false', Bool.and_eq_false_iff, Bool.or_eq_false_iff, decide_eq_true_eq, decide_eq_false_iff_not, beq_iff_eq, bne_iff_ne, beq_eq_false_iff_ne, bne_eq_false_iff_eq] at qhg20
      refine Ys.at (t := 46) (v0 := Value.bool (host c c.lan)) (lz (g := (host c a) == (host c a)) (u := undef) hg20 (by kernel_rfl)) ?_
      refine Ys.at (t := 50) (v0 := Value.bool (host c c.lan)) (lz (g := (host c a) == (host c a)) (u := undef) hg20 (by kernel_rfl)) ?_
      exact Ys.pure (fun _ => by kernel_rfl)
    refine Wt.ys (v := Value.bool (((host c a) == (host c a)) && ((host c c.lan) == (host c c.lan)))) rfl rfl (Ys.and (e := (host c a) == (host c a)) (b := (host c c.lan) == (host c c.lan)) rfl (by kernel_rfl) (by kernel_rfl) (by kernel_rfl)) ?_
    refine Wt.ys (v := Value.bool (((host c a) == (host c a)) && ((host c c.lan) == (host c c.lan)))) rfl rfl (Ys.pure (fun _ => by kernel_rfl)) ?_
    refine Wt.guard (v := Value.agg ([Value.int .u8 ((find F f0 f1 c.fl).1.proto), Value.int .u16 ((find F f0 f1 c.fl).1.port), Value.int .u16 ((find F f0 f1 c.fl).1.dest), Value.int .u32 ((find F f0 f1 c.fl).1.host)]).toArray) (((host c a) == (host c a)) && ((host c c.lan) == (host c c.lan))) (wantT rfl (by kernel_rfl)) rfl (fun hg21 => ?_) ?_
    · have qhg21 := hg21; try simp only [Bool.and_eq_true, Bool.or_eq_true, Bool.not_eq_true', Bool.not_eq_false', Bool.and_eq_false_iff, Bool.or_eq_false_iff, decide_eq_true_eq, decide_eq_false_iff_not, beq_iff_eq, bne_iff_ne, beq_eq_false_iff_ne, bne_eq_false_iff_eq] at qhg21
      exact Ys.loadN (b := p7) (o' := 0) (i := 1) (cs := [Value.int .u8 ((find F f0 f1 c.fl).1.proto), Value.int .u16 ((find F f0 f1 c.fl).1.port), Value.int .u16 ((find F f0 f1 c.fl).1.dest), Value.int .u32 ((find F f0 f1 c.fl).1.host)]) (vs := [Value.int .u8 ((find F f0 f1 c.fl).1.proto), Value.int .u16 ((find F f0 f1 c.fl).1.port), Value.int .u16 ((find F f0 f1 c.fl).1.dest), Value.int .u32 ((find F f0 f1 c.fl).1.host)]) rfl (by kernel_rfl) Try.isAgg34 Try.sizeOf34 rfl rfl rfl
    refine Wt.guard (v := Value.agg ([Value.int .u8 ((find F f0 f1 c.fl).1.proto), Value.int .u16 ((find F f0 f1 c.fl).1.port), Value.int .u16 ((find F f0 f1 c.fl).1.dest), Value.int .u32 ((find F f0 f1 c.fl).1.host)]).toArray) (((host c a) == (host c a)) && ((host c c.lan) == (host c c.lan))) (wantT rfl (by kernel_rfl)) rfl (fun hg22 => ?_) ?_
    · have qhg22 := hg22; try simp only [Bool.and_eq_true, Bool.or_eq_true, Bool.not_eq_true', Bool.not_eq_false', Bool.and_eq_false_iff, Bool.or_eq_false_iff, decide_eq_true_eq, decide_eq_false_iff_not, beq_iff_eq, bne_iff_ne, beq_eq_false_iff_ne, bne_eq_false_iff_eq] at qhg22
      exact Ys.loadN (b := p9) (o' := 0) (i := 0) (cs := [Value.int .u8 ((find F f0 f1 c.fl).1.proto), Value.int .u16 ((find F f0 f1 c.fl).1.port), Value.int .u16 ((find F f0 f1 c.fl).1.dest), Value.int .u32 ((find F f0 f1 c.fl).1.host)]) (vs := [Value.int .u8 ((find F f0 f1 c.fl).1.proto), Value.int .u16 ((find F f0 f1 c.fl).1.port), Value.int .u16 ((find F f0 f1 c.fl).1.dest), Value.int .u32 ((find F f0 f1 c.fl).1.host)]) rfl (by kernel_rfl) Try.isAgg34 Try.sizeOf34 rfl rfl rfl
    refine Wt.guard (v := Value.bool ((((find F f0 f1 c.fl).1.proto) == ((find F f0 f1 c.fl).1.proto)) && ((((find F f0 f1 c.fl).1.port) == ((find F f0 f1 c.fl).1.port)) && ((((find F f0 f1 c.fl).1.dest) == ((find F f0 f1 c.fl).1.dest)) && ((((find F f0 f1 c.fl).1.host) == ((find F f0 f1 c.fl).1.host)) && true))))) (((host c a) == (host c a)) && ((host c c.lan) == (host c c.lan))) (wantT rfl (by kernel_rfl)) rfl (fun hg23 => ?_) ?_
    · have qhg23 := hg23; try simp only [Bool.and_eq_true, Bool.or_eq_true, Bool.not_eq_true', Bool.not_eq_false', Bool.and_eq_false_iff, Bool.or_eq_false_iff, decide_eq_true_eq, decide_eq_false_iff_not, beq_iff_eq, bne_iff_ne, beq_eq_false_iff_ne, bne_eq_false_iff_eq] at qhg23
      refine Ys.at (t := 54) (v0 := Value.agg ([Value.int .u8 ((find F f0 f1 c.fl).1.proto), Value.int .u16 ((find F f0 f1 c.fl).1.port), Value.int .u16 ((find F f0 f1 c.fl).1.dest), Value.int .u32 ((find F f0 f1 c.fl).1.host)]).toArray) (lz (g := ((host c a) == (host c a)) && ((host c c.lan) == (host c c.lan))) (u := undef) hg23 (by kernel_rfl)) ?_
      refine Ys.at (t := 55) (v0 := Value.agg ([Value.int .u8 ((find F f0 f1 c.fl).1.proto), Value.int .u16 ((find F f0 f1 c.fl).1.port), Value.int .u16 ((find F f0 f1 c.fl).1.dest), Value.int .u32 ((find F f0 f1 c.fl).1.host)]).toArray) (lz (g := ((host c a) == (host c a)) && ((host c c.lan) == (host c c.lan))) (u := undef) hg23 (by kernel_rfl)) ?_
      exact Ys.eqv (ls := [.int .u8, .int .u16, .int .u16, .int .u32]) (cs := [Value.int .u8 ((find F f0 f1 c.fl).1.proto), Value.int .u16 ((find F f0 f1 c.fl).1.port), Value.int .u16 ((find F f0 f1 c.fl).1.dest), Value.int .u32 ((find F f0 f1 c.fl).1.host)]) (cs' := [Value.int .u8 ((find F f0 f1 c.fl).1.proto), Value.int .u16 ((find F f0 f1 c.fl).1.port), Value.int .u16 ((find F f0 f1 c.fl).1.dest), Value.int .u32 ((find F f0 f1 c.fl).1.host)]) (b := (((find F f0 f1 c.fl).1.proto) == ((find F f0 f1 c.fl).1.proto)) && ((((find F f0 f1 c.fl).1.port) == ((find F f0 f1 c.fl).1.port)) && ((((find F f0 f1 c.fl).1.dest) == ((find F f0 f1 c.fl).1.dest)) && ((((find F f0 f1 c.fl).1.host) == ((find F f0 f1 c.fl).1.host)) && true)))) rfl (by kernel_rfl) (by kernel_rfl) (by kernel_rfl) (by kernel_rfl) Try.eqGuardType34 ⟨⟨_, rfl⟩, ⟨_, rfl⟩, ⟨_, rfl⟩, ⟨_, rfl⟩, trivial⟩ ⟨⟨_, rfl⟩, ⟨_, rfl⟩, ⟨_, rfl⟩, ⟨_, rfl⟩, trivial⟩ (by kernel_rfl)
    refine Wt.ys (v := Value.bool ((((host c a) == (host c a)) && ((host c c.lan) == (host c c.lan))) && ((((find F f0 f1 c.fl).1.proto) == ((find F f0 f1 c.fl).1.proto)) && ((((find F f0 f1 c.fl).1.port) == ((find F f0 f1 c.fl).1.port)) && ((((find F f0 f1 c.fl).1.dest) == ((find F f0 f1 c.fl).1.dest)) && ((((find F f0 f1 c.fl).1.host) == ((find F f0 f1 c.fl).1.host)) && true)))))) rfl rfl (Ys.and (e := ((host c a) == (host c a)) && ((host c c.lan) == (host c c.lan))) (b := (((find F f0 f1 c.fl).1.proto) == ((find F f0 f1 c.fl).1.proto)) && ((((find F f0 f1 c.fl).1.port) == ((find F f0 f1 c.fl).1.port)) && ((((find F f0 f1 c.fl).1.dest) == ((find F f0 f1 c.fl).1.dest)) && ((((find F f0 f1 c.fl).1.host) == ((find F f0 f1 c.fl).1.host)) && true)))) rfl (by kernel_rfl) (by kernel_rfl) (by kernel_rfl)) ?_
    refine Wt.ys (v := Value.bool ((((host c a) == (host c a)) && ((host c c.lan) == (host c c.lan))) && ((((find F f0 f1 c.fl).1.proto) == ((find F f0 f1 c.fl).1.proto)) && ((((find F f0 f1 c.fl).1.port) == ((find F f0 f1 c.fl).1.port)) && ((((find F f0 f1 c.fl).1.dest) == ((find F f0 f1 c.fl).1.dest)) && ((((find F f0 f1 c.fl).1.host) == ((find F f0 f1 c.fl).1.host)) && true)))))) rfl rfl (Ys.pure (fun _ => by kernel_rfl)) ?_
    refine Wt.guard (v := Value.bool ((find F f0 f1 c.fl).2)) ((((host c a) == (host c a)) && ((host c c.lan) == (host c c.lan))) && ((((find F f0 f1 c.fl).1.proto) == ((find F f0 f1 c.fl).1.proto)) && ((((find F f0 f1 c.fl).1.port) == ((find F f0 f1 c.fl).1.port)) && ((((find F f0 f1 c.fl).1.dest) == ((find F f0 f1 c.fl).1.dest)) && ((((find F f0 f1 c.fl).1.host) == ((find F f0 f1 c.fl).1.host)) && true))))) (wantT rfl (by kernel_rfl)) rfl (fun hg24 => ?_) ?_
    · have qhg24 := hg24; try simp only [Bool.and_eq_true, Bool.or_eq_true, Bool.not_eq_true', Bool.not_eq_false', Bool.and_eq_false_iff, Bool.or_eq_false_iff, decide_eq_true_eq, decide_eq_false_iff_not, beq_iff_eq, bne_iff_ne, beq_eq_false_iff_ne, bne_eq_false_iff_eq] at qhg24
      exact Ys.pure (fun _ => by kernel_rfl)
    refine Wt.guard (v := Value.bool ((find F f0 f1 c.fl).2)) ((((host c a) == (host c a)) && ((host c c.lan) == (host c c.lan))) && ((((find F f0 f1 c.fl).1.proto) == ((find F f0 f1 c.fl).1.proto)) && ((((find F f0 f1 c.fl).1.port) == ((find F f0 f1 c.fl).1.port)) && ((((find F f0 f1 c.fl).1.dest) == ((find F f0 f1 c.fl).1.dest)) && ((((find F f0 f1 c.fl).1.host) == ((find F f0 f1 c.fl).1.host)) && true))))) (wantT rfl (by kernel_rfl)) rfl (fun hg25 => ?_) ?_
    · have qhg25 := hg25; try simp only [Bool.and_eq_true, Bool.or_eq_true, Bool.not_eq_true', Bool.not_eq_false', Bool.and_eq_false_iff, Bool.or_eq_false_iff, decide_eq_true_eq, decide_eq_false_iff_not, beq_iff_eq, bne_iff_ne, beq_eq_false_iff_ne, bne_eq_false_iff_eq] at qhg25
      exact Ys.pure (fun _ => by kernel_rfl)
    refine Wt.guard (v := Value.bool (((find F f0 f1 c.fl).2) == ((find F f0 f1 c.fl).2))) ((((host c a) == (host c a)) && ((host c c.lan) == (host c c.lan))) && ((((find F f0 f1 c.fl).1.proto) == ((find F f0 f1 c.fl).1.proto)) && ((((find F f0 f1 c.fl).1.port) == ((find F f0 f1 c.fl).1.port)) && ((((find F f0 f1 c.fl).1.dest) == ((find F f0 f1 c.fl).1.dest)) && ((((find F f0 f1 c.fl).1.host) == ((find F f0 f1 c.fl).1.host)) && true))))) (wantT rfl (by kernel_rfl)) rfl (fun hg26 => ?_) ?_
    · have qhg26 := hg26; try simp only [Bool.and_eq_true, Bool.or_eq_true, Bool.not_eq_true', Bool.not_eq_false', Bool.and_eq_false_iff, Bool.or_eq_false_iff, decide_eq_true_eq, decide_eq_false_iff_not, beq_iff_eq, bne_iff_ne, beq_eq_false_iff_ne, bne_eq_false_iff_eq] at qhg26
      refine Ys.at (t := 59) (v0 := Value.bool ((find F f0 f1 c.fl).2)) (lz (g := (((host c a) == (host c a)) && ((host c c.lan) == (host c c.lan))) && ((((find F f0 f1 c.fl).1.proto) == ((find F f0 f1 c.fl).1.proto)) && ((((find F f0 f1 c.fl).1.port) == ((find F f0 f1 c.fl).1.port)) && ((((find F f0 f1 c.fl).1.dest) == ((find F f0 f1 c.fl).1.dest)) && ((((find F f0 f1 c.fl).1.host) == ((find F f0 f1 c.fl).1.host)) && true))))) (u := undef) hg26 (by kernel_rfl)) ?_
      refine Ys.at (t := 60) (v0 := Value.bool ((find F f0 f1 c.fl).2)) (lz (g := (((host c a) == (host c a)) && ((host c c.lan) == (host c c.lan))) && ((((find F f0 f1 c.fl).1.proto) == ((find F f0 f1 c.fl).1.proto)) && ((((find F f0 f1 c.fl).1.port) == ((find F f0 f1 c.fl).1.port)) && ((((find F f0 f1 c.fl).1.dest) == ((find F f0 f1 c.fl).1.dest)) && ((((find F f0 f1 c.fl).1.host) == ((find F f0 f1 c.fl).1.host)) && true))))) (u := undef) hg26 (by kernel_rfl)) ?_
      exact Ys.pure (fun _ => by kernel_rfl)
    refine Wt.ys (v := Value.bool (((((host c a) == (host c a)) && ((host c c.lan) == (host c c.lan))) && ((((find F f0 f1 c.fl).1.proto) == ((find F f0 f1 c.fl).1.proto)) && ((((find F f0 f1 c.fl).1.port) == ((find F f0 f1 c.fl).1.port)) && ((((find F f0 f1 c.fl).1.dest) == ((find F f0 f1 c.fl).1.dest)) && ((((find F f0 f1 c.fl).1.host) == ((find F f0 f1 c.fl).1.host)) && true))))) && (((find F f0 f1 c.fl).2) == ((find F f0 f1 c.fl).2)))) rfl rfl (Ys.and (e := (((host c a) == (host c a)) && ((host c c.lan) == (host c c.lan))) && ((((find F f0 f1 c.fl).1.proto) == ((find F f0 f1 c.fl).1.proto)) && ((((find F f0 f1 c.fl).1.port) == ((find F f0 f1 c.fl).1.port)) && ((((find F f0 f1 c.fl).1.dest) == ((find F f0 f1 c.fl).1.dest)) && ((((find F f0 f1 c.fl).1.host) == ((find F f0 f1 c.fl).1.host)) && true))))) (b := ((find F f0 f1 c.fl).2) == ((find F f0 f1 c.fl).2)) rfl (by kernel_rfl) (by kernel_rfl) (by kernel_rfl)) ?_
    refine Wt.ys (v := Value.bool (((((host c a) == (host c a)) && ((host c c.lan) == (host c c.lan))) && ((((find F f0 f1 c.fl).1.proto) == ((find F f0 f1 c.fl).1.proto)) && ((((find F f0 f1 c.fl).1.port) == ((find F f0 f1 c.fl).1.port)) && ((((find F f0 f1 c.fl).1.dest) == ((find F f0 f1 c.fl).1.dest)) && ((((find F f0 f1 c.fl).1.host) == ((find F f0 f1 c.fl).1.host)) && true))))) && (((find F f0 f1 c.fl).2) == ((find F f0 f1 c.fl).2)))) rfl rfl (Ys.pure (fun _ => by kernel_rfl)) ?_
    refine Wt.nil rfl (by kernel_rfl) ?_
    refine hK11 _ _ ?_
    refine W.ret ?_
    show ∀ w_, _ → bodyPost Try.prog Try.f4 _ Exit.ret _ w_
    exact fun w_ hS_ => ret1 rfl (RV.tmp (v := Value.bool (((((host c a) == (host c a)) && ((host c c.lan) == (host c c.lan))) && ((((find F f0 f1 c.fl).1.proto) == ((find F f0 f1 c.fl).1.proto)) && ((((find F f0 f1 c.fl).1.port) == ((find F f0 f1 c.fl).1.port)) && ((((find F f0 f1 c.fl).1.dest) == ((find F f0 f1 c.fl).1.dest)) && ((((find F f0 f1 c.fl).1.host) == ((find F f0 f1 c.fl).1.host)) && true))))) && (((find F f0 f1 c.fl).2) == ((find F f0 f1 c.fl).2)))) (by kernel_rfl)) hS_ ⟨by clear hK1 hK2 hK3 hK4 hK5 hK9 hK10 hK11; refine congrArg Ending.returned ?_; exact congrArg Value.bool (by simp), hS_.below⟩

theorem opened2 {H : Type} {enc : TypeId × Value → H} {P : Program} {w : World} {base : Nat} {spare : Nat → Bool} {held : Bool} {l : List Value} (F : F2 (leafOK enc P w base spare held) [.int .u8, .int .u16, .int .u16, .int .u32] l) : ∃ (f0 : Int) (f1 : Int) (f2 : Int) (f3 : Int), l = [.int .u8 f0, .int .u16 f1, .int .u16 f2, .int .u32 f3] ∧ ((Lit.int .u8 f0).wf = true) ∧ ((Lit.int .u16 f1).wf = true) ∧ ((Lit.int .u16 f2).wf = true) ∧ ((Lit.int .u32 f3).wf = true) := by
  obtain ⟨_, _, rfl, ⟨f0, rfl, wf2_0⟩, F1_⟩ := F2_un F
  clear F
  obtain ⟨_, _, rfl, ⟨f1, rfl, wf2_1⟩, F2_⟩ := F2_un F1_
  clear F1_
  obtain ⟨_, _, rfl, ⟨f2, rfl, wf2_2⟩, F3_⟩ := F2_un F2_
  clear F2_
  obtain ⟨_, _, rfl, ⟨f3, rfl, wf2_3⟩, F4_⟩ := F2_un F3_
  clear F3_
  obtain rfl := F2_un0 F4_
  exact ⟨f0, f1, f2, f3, rfl, wf2_0, wf2_1, wf2_2, wf2_3⟩

theorem opened0 {H : Type} {enc : TypeId × Value → H} {P : Program} {w : World} {base : Nat} {spare : Nat → Bool} {held : Bool} {l : List Value} (F : F2 (leafOK enc P w base spare held) [.int .u8, .int .u8, .int .u8, .int .u8, .int .u8, .int .u8, .int .u8, .int .u8, .int .u8, .int .u8, .int .u8, .int .u8, .int .u8, .int .u8, .int .u8, .int .u8, .int .u8, .int .u8, .int .u32, .int .u32, .int .i64, .int .i64, .int .i64, .int .i64, .int .i64, .slice 34, .int .u32, .string] l) : ∃ (c_lm0 : Int) (c_lm1 : Int) (c_lm2 : Int) (c_lm3 : Int) (c_lm4 : Int) (c_lm5 : Int) (c_wm0 : Int) (c_wm1 : Int) (c_wm2 : Int) (c_wm3 : Int) (c_wm4 : Int) (c_wm5 : Int) (c_hm0 : Int) (c_hm1 : Int) (c_hm2 : Int) (c_hm3 : Int) (c_hm4 : Int) (c_hm5 : Int) (c_lan : Int) (c_wan : Int) (c_bits : Int) (c_ms : Int) (c_mm : Int) (c_mc : Int) (c_mu : Int) (fa : Option Addr) (fl fc : Nat) (c_dmz : Int) (c_uu : ByteArray), l = [.int .u8 c_lm0, .int .u8 c_lm1, .int .u8 c_lm2, .int .u8 c_lm3, .int .u8 c_lm4, .int .u8 c_lm5, .int .u8 c_wm0, .int .u8 c_wm1, .int .u8 c_wm2, .int .u8 c_wm3, .int .u8 c_wm4, .int .u8 c_wm5, .int .u8 c_hm0, .int .u8 c_hm1, .int .u8 c_hm2, .int .u8 c_hm3, .int .u8 c_hm4, .int .u8 c_hm5, .int .u32 c_lan, .int .u32 c_wan, .int .i64 c_bits, .int .i64 c_ms, .int .i64 c_mm, .int .i64 c_mc, .int .i64 c_mu, .slice fa fl fc, .int .u32 c_dmz, .string c_uu] ∧ ((Lit.int .u8 c_lm0).wf = true) ∧ ((Lit.int .u8 c_lm1).wf = true) ∧ ((Lit.int .u8 c_lm2).wf = true) ∧ ((Lit.int .u8 c_lm3).wf = true) ∧ ((Lit.int .u8 c_lm4).wf = true) ∧ ((Lit.int .u8 c_lm5).wf = true) ∧ ((Lit.int .u8 c_wm0).wf = true) ∧ ((Lit.int .u8 c_wm1).wf = true) ∧ ((Lit.int .u8 c_wm2).wf = true) ∧ ((Lit.int .u8 c_wm3).wf = true) ∧ ((Lit.int .u8 c_wm4).wf = true) ∧ ((Lit.int .u8 c_wm5).wf = true) ∧ ((Lit.int .u8 c_hm0).wf = true) ∧ ((Lit.int .u8 c_hm1).wf = true) ∧ ((Lit.int .u8 c_hm2).wf = true) ∧ ((Lit.int .u8 c_hm3).wf = true) ∧ ((Lit.int .u8 c_hm4).wf = true) ∧ ((Lit.int .u8 c_hm5).wf = true) ∧ ((Lit.int .u32 c_lan).wf = true) ∧ ((Lit.int .u32 c_wan).wf = true) ∧ ((Lit.int .i64 c_bits).wf = true) ∧ ((Lit.int .i64 c_ms).wf = true) ∧ ((Lit.int .i64 c_mm).wf = true) ∧ ((Lit.int .i64 c_mc).wf = true) ∧ ((Lit.int .i64 c_mu).wf = true) ∧ (fl ≤ fc ∧ fc ≤ maxLen ∧ (0 < fc → ∃ adr, fa = some adr) ∧ ∀ adr, fa = some adr → ∀ i, i < fl → ∃ cs m x, w.cells? base (adr.add (i * P.cellsOf 34)) (P.cellsOf 34) = some cs ∧ DataW.trod enc P w base spare held m 34 cs = some x) ∧ ((Lit.int .u32 c_dmz).wf = true) ∧ (c_uu.size ≤ maxLen) := by
  obtain ⟨_, _, rfl, ⟨c_lm0, rfl, wf0_0⟩, F1_⟩ := F2_un F
  clear F
  obtain ⟨_, _, rfl, ⟨c_lm1, rfl, wf0_1⟩, F2_⟩ := F2_un F1_
  clear F1_
  obtain ⟨_, _, rfl, ⟨c_lm2, rfl, wf0_2⟩, F3_⟩ := F2_un F2_
  clear F2_
  obtain ⟨_, _, rfl, ⟨c_lm3, rfl, wf0_3⟩, F4_⟩ := F2_un F3_
  clear F3_
  obtain ⟨_, _, rfl, ⟨c_lm4, rfl, wf0_4⟩, F5_⟩ := F2_un F4_
  clear F4_
  obtain ⟨_, _, rfl, ⟨c_lm5, rfl, wf0_5⟩, F6_⟩ := F2_un F5_
  clear F5_
  obtain ⟨_, _, rfl, ⟨c_wm0, rfl, wf0_6⟩, F7_⟩ := F2_un F6_
  clear F6_
  obtain ⟨_, _, rfl, ⟨c_wm1, rfl, wf0_7⟩, F8_⟩ := F2_un F7_
  clear F7_
  obtain ⟨_, _, rfl, ⟨c_wm2, rfl, wf0_8⟩, F9_⟩ := F2_un F8_
  clear F8_
  obtain ⟨_, _, rfl, ⟨c_wm3, rfl, wf0_9⟩, F10_⟩ := F2_un F9_
  clear F9_
  obtain ⟨_, _, rfl, ⟨c_wm4, rfl, wf0_10⟩, F11_⟩ := F2_un F10_
  clear F10_
  obtain ⟨_, _, rfl, ⟨c_wm5, rfl, wf0_11⟩, F12_⟩ := F2_un F11_
  clear F11_
  obtain ⟨_, _, rfl, ⟨c_hm0, rfl, wf0_12⟩, F13_⟩ := F2_un F12_
  clear F12_
  obtain ⟨_, _, rfl, ⟨c_hm1, rfl, wf0_13⟩, F14_⟩ := F2_un F13_
  clear F13_
  obtain ⟨_, _, rfl, ⟨c_hm2, rfl, wf0_14⟩, F15_⟩ := F2_un F14_
  clear F14_
  obtain ⟨_, _, rfl, ⟨c_hm3, rfl, wf0_15⟩, F16_⟩ := F2_un F15_
  clear F15_
  obtain ⟨_, _, rfl, ⟨c_hm4, rfl, wf0_16⟩, F17_⟩ := F2_un F16_
  clear F16_
  obtain ⟨_, _, rfl, ⟨c_hm5, rfl, wf0_17⟩, F18_⟩ := F2_un F17_
  clear F17_
  obtain ⟨_, _, rfl, ⟨c_lan, rfl, wf0_18⟩, F19_⟩ := F2_un F18_
  clear F18_
  obtain ⟨_, _, rfl, ⟨c_wan, rfl, wf0_19⟩, F20_⟩ := F2_un F19_
  clear F19_
  obtain ⟨_, _, rfl, ⟨c_bits, rfl, wf0_20⟩, F21_⟩ := F2_un F20_
  clear F20_
  obtain ⟨_, _, rfl, ⟨c_ms, rfl, wf0_21⟩, F22_⟩ := F2_un F21_
  clear F21_
  obtain ⟨_, _, rfl, ⟨c_mm, rfl, wf0_22⟩, F23_⟩ := F2_un F22_
  clear F22_
  obtain ⟨_, _, rfl, ⟨c_mc, rfl, wf0_23⟩, F24_⟩ := F2_un F23_
  clear F23_
  obtain ⟨_, _, rfl, ⟨c_mu, rfl, wf0_24⟩, F25_⟩ := F2_un F24_
  clear F24_
  obtain ⟨_, _, rfl, ⟨fa, fl, fc, rfl, sf0_25⟩, F26_⟩ := F2_un F25_
  clear F25_
  obtain ⟨_, _, rfl, ⟨c_dmz, rfl, wf0_26⟩, F27_⟩ := F2_un F26_
  clear F26_
  obtain ⟨_, _, rfl, ⟨c_uu, rfl, hs0_27⟩, F28_⟩ := F2_un F27_
  clear F27_
  obtain rfl := F2_un0 F28_
  exact ⟨c_lm0, c_lm1, c_lm2, c_lm3, c_lm4, c_lm5, c_wm0, c_wm1, c_wm2, c_wm3, c_wm4, c_wm5, c_hm0, c_hm1, c_hm2, c_hm3, c_hm4, c_hm5, c_lan, c_wan, c_bits, c_ms, c_mm, c_mc, c_mu, fa, fl, fc, c_dmz, c_uu, rfl, wf0_0, wf0_1, wf0_2, wf0_3, wf0_4, wf0_5, wf0_6, wf0_7, wf0_8, wf0_9, wf0_10, wf0_11, wf0_12, wf0_13, wf0_14, wf0_15, wf0_16, wf0_17, wf0_18, wf0_19, wf0_20, wf0_21, wf0_22, wf0_23, wf0_24, sf0_25, wf0_26, hs0_27⟩

theorem own : ownKnob Try.prog.godebug = none := by kernel_rfl
theorem laidOut : laidOutB Try.prog = true := by kernel_rfl
set_option maxRecDepth 100000 in
set_option maxHeartbeats 400000 in
theorem lifted (os : Os) (started : os.Started) (H : Type) (enc : TypeId × Value → H) :
    ReturnsInHanded {} Try.checked os 4 .any (Rows.confHostsSpec.pre6 enc Try.prog Try.f4 Rows.confHostsRow.domain false) (Rows.confHostsSpec.post enc Try.prog Try.f4 false true false false) := by
  refine returnsInHanded_of_change (C := Try.checked) own started (by kernel_rfl) Try.func4
    (ChangeSpec.witness6 (enc := enc) (C := Try.checked) false ⟨#[], #[Value.agg ([Value.int .u8 0, Value.int .u8 0, Value.int .u8 0, Value.int .u8 0, Value.int .u8 0, Value.int .u8 0, Value.int .u8 0, Value.int .u8 0, Value.int .u8 0, Value.int .u8 0, Value.int .u8 0, Value.int .u8 0, Value.int .u8 0, Value.int .u8 0, Value.int .u8 0, Value.int .u8 0, Value.int .u8 0, Value.int .u8 0, Value.int .u32 0, Value.int .u32 0, Value.int .i64 0, Value.int .i64 0, Value.int .i64 0, Value.int .i64 0, Value.int .i64 0, Value.slice none 0 0, Value.int .u32 0, Value.string (⟨#[]⟩)]).toArray, Value.int .u32 0, Value.agg ([Value.int .u8 0, Value.int .u16 0, Value.int .u16 0, Value.int .u32 0]).toArray], []⟩ 12 (by kernel_rfl) (by kernel_rfl) (by kernel_rfl) (by kernel_rfl)) ?_
  intro W base args ds gs before hval0 hW hcnd _
  have hval : ∀ (j : Nat) t v, Try.f4.params[j]? = some t → args[j]? = some v → Value.okWide Try.prog W .any base t v := hval0
  have hW' := hW
  obtain ⟨p, q, hA0, hV, rfl, hfz, hnd⟩ := hW
  have hA : DataW.TrodAll enc Try.prog W 0 (fun _ => true) true Try.f4.params.toList args.toList ds p := hA0
  rw [Try.params4] at hA hval
  obtain ⟨v0, vs0, d0, ds0, p0, q0, hargs, rfl, rfl, h0, r0⟩ := trodAll_cons hA
  obtain ⟨v1, vs1, d1, ds1, p1, q1, rfl, rfl, rfl, h1, r1⟩ := trodAll_cons r0
  obtain ⟨v2, vs2, d2, ds2, p2, q2, rfl, rfl, rfl, h2, r2⟩ := trodAll_cons r1
  obtain ⟨rfl, rfl, rfl⟩ := trodAll_nil r2
  obtain rfl : args = #[v0, v1, v2] := by cases args; simp_all
  obtain ⟨rfl, rfl⟩ := trodVars_none hV
  have k0 := h0
  have lt0 : ∀ x ∈ p0, x.block < W.heap.size := by obtain ⟨m, hm⟩ := k0; exact DataW.trod_lt m _ _ _ hm
  obtain ⟨cs0, rfl, hz0⟩ : ∃ cs, v0 = .agg cs ∧ cs.size = Try.prog.cellsOf 28 := by have hq := (hval 0 28 v0 rfl rfl); simp only [Value.okWide, Try.underlying28] at hq; obtain ⟨cs, e1, e2, _⟩ := hq; exact ⟨cs, e1, e2⟩
  obtain ⟨l0, rfl⟩ : ∃ l : List Value, cs0 = l.toArray := ⟨cs0.toList, by simp⟩
  obtain ⟨m0, hm0⟩ := h0
  obtain ⟨c_lm0, c_lm1, c_lm2, c_lm3, c_lm4, c_lm5, c_wm0, c_wm1, c_wm2, c_wm3, c_wm4, c_wm5, c_hm0, c_hm1, c_hm2, c_hm3, c_hm4, c_hm5, c_lan, c_wan, c_bits, c_ms, c_mm, c_mc, c_mu, fa, fl, fc, c_dmz, c_uu, hl0, wf0_0, wf0_1, wf0_2, wf0_3, wf0_4, wf0_5, wf0_6, wf0_7, wf0_8, wf0_9, wf0_10, wf0_11, wf0_12, wf0_13, wf0_14, wf0_15, wf0_16, wf0_17, wf0_18, wf0_19, wf0_20, wf0_21, wf0_22, wf0_23, wf0_24, sf0_25, wf0_26, hs0_27⟩ := opened0 (flat_ok (P := Try.prog) 8 28 [.int .u8, .int .u8, .int .u8, .int .u8, .int .u8, .int .u8, .int .u8, .int .u8, .int .u8, .int .u8, .int .u8, .int .u8, .int .u8, .int .u8, .int .u8, .int .u8, .int .u8, .int .u8, .int .u32, .int .u32, .int .i64, .int .i64, .int .i64, .int .i64, .int .i64, .slice 34, .int .u32, .string] (by kernel_rfl) _ _ _ hm0)
  obtain rfl : l0 = _ := hl0
  obtain ⟨lc0_25, cm0_25, hs0_25, hr0_25⟩ := sf0_25
  have bd0_0 := bounds_u8 wf0_0
  have bd0_1 := bounds_u8 wf0_1
  have bd0_2 := bounds_u8 wf0_2
  have bd0_3 := bounds_u8 wf0_3
  have bd0_4 := bounds_u8 wf0_4
  have bd0_5 := bounds_u8 wf0_5
  have bd0_6 := bounds_u8 wf0_6
  have bd0_7 := bounds_u8 wf0_7
  have bd0_8 := bounds_u8 wf0_8
  have bd0_9 := bounds_u8 wf0_9
  have bd0_10 := bounds_u8 wf0_10
  have bd0_11 := bounds_u8 wf0_11
  have bd0_12 := bounds_u8 wf0_12
  have bd0_13 := bounds_u8 wf0_13
  have bd0_14 := bounds_u8 wf0_14
  have bd0_15 := bounds_u8 wf0_15
  have bd0_16 := bounds_u8 wf0_16
  have bd0_17 := bounds_u8 wf0_17
  have bd0_18 := bounds_u32 wf0_18
  have bd0_19 := bounds_u32 wf0_19
  have bd0_20 := bounds_i64 wf0_20
  have bd0_21 := bounds_i64 wf0_21
  have bd0_22 := bounds_i64 wf0_22
  have bd0_23 := bounds_i64 wf0_23
  have bd0_24 := bounds_i64 wf0_24
  obtain ⟨F, sl0_25, pX0_25⟩ := sl_of (e := 34) (sz := 4) (α := Fwd) (g := fun y => [Value.int .u8 y.proto, Value.int .u16 y.port, Value.int .u16 y.dest, Value.int .u32 y.host]) (p := fun y => True) (by kernel_rfl) (by decide) lc0_25 hs0_25 hr0_25 (fun m cs x hx => by
    have F := flat_ok (P := Try.prog) 8 34 [.int .u8, .int .u16, .int .u16, .int .u32] (by kernel_rfl) _ _ _ hx
    simp only [F2_cons, F2_nil, leafOK] at F
    obtain ⟨_, _, rfl, ⟨y0, rfl, wy0⟩, _, _, rfl, ⟨y1, rfl, wy1⟩, _, _, rfl, ⟨y2, rfl, wy2⟩, _, _, rfl, ⟨y3, rfl, wy3⟩, rfl⟩ := F
    have by0 := bounds_u8 wy0; have by1 := bounds_u16 wy1; have by2 := bounds_u16 wy2; have by3 := bounds_u32 wy3
    exact ⟨⟨y0, y1, y2, y3⟩, rfl, by first | trivial | (refine ⟨?_, ?_⟩ <;> (dsimp only; omega)) | (dsimp only; omega) | (simp; omega)⟩)
  have bd0_26 := bounds_u32 wf0_26
  have k1 := h1
  have lt1 : ∀ x ∈ p1, x.block < W.heap.size := by obtain ⟨m, hm⟩ := k1; exact DataW.trod_lt m _ _ _ hm
  obtain ⟨a, rfl, rfl, rfl, wf1⟩ := open_int Try.underlying25 (hval 1 25 v1 rfl rfl) h1
  have bd1 := bounds_u32 wf1
  have k2 := h2
  have lt2 : ∀ x ∈ p2, x.block < W.heap.size := by obtain ⟨m, hm⟩ := k2; exact DataW.trod_lt m _ _ _ hm
  obtain ⟨cs2, rfl, hz2⟩ : ∃ cs, v2 = .agg cs ∧ cs.size = Try.prog.cellsOf 34 := by have hq := (hval 2 34 v2 rfl rfl); simp only [Value.okWide, Try.underlying34] at hq; obtain ⟨cs, e1, e2, _⟩ := hq; exact ⟨cs, e1, e2⟩
  obtain ⟨l2, rfl⟩ : ∃ l : List Value, cs2 = l.toArray := ⟨cs2.toList, by simp⟩
  obtain ⟨m2, hm2⟩ := h2
  obtain ⟨f0, f1, f2, f3, hl2, wf2_0, wf2_1, wf2_2, wf2_3⟩ := opened2 (flat_ok (P := Try.prog) 8 34 [.int .u8, .int .u16, .int .u16, .int .u32] (by kernel_rfl) _ _ _ hm2)
  obtain rfl : l2 = _ := hl2
  have bd2_0 := bounds_u8 wf2_0
  have bd2_1 := bounds_u16 wf2_1
  have bd2_2 := bounds_u16 wf2_2
  have bd2_3 := bounds_u32 wf2_3
  clear hA0 hval0
  refine Calls.mono (walk (Cfg.mk c_lm0 c_lm1 c_lm2 c_lm3 c_lm4 c_lm5 c_wm0 c_wm1 c_wm2 c_wm3 c_wm4 c_wm5 c_hm0 c_hm1 c_hm2 c_hm3 c_hm4 c_hm5 c_lan c_wan c_bits c_ms c_mm c_mc c_mu fa fl fc c_dmz c_uu) a f0 f1 f2 f3 F W sl0_25 bd1 bd0_18) fun e W' ⟨he, bel⟩ => ?_
  subst he
  exact ⟨_, rfl, _, _, _, [], _, [], hW', trodAll_mk1 (shut_bool Try.underlying4 _), (trodAll_cons_mk (Below.trod laidOut (by kernel_rfl) (of_decide_eq_true (by kernel_rfl)) k0 bel lt0) (trodAll_cons_mk (Below.trod laidOut (by kernel_rfl) (of_decide_eq_true (by kernel_rfl)) k1 bel lt1) (trodAll_cons_mk (Below.trod laidOut (by kernel_rfl) (of_decide_eq_true (by kernel_rfl)) k2 bel lt2) trodAll_mk0))), rfl, bel.frame _, fun h => by cases h⟩

theorem over : Rows.confHostsRow.holds Try.pinned (OpenSpec.ofChange Rows.confHostsSpec) :=
  OpenClaim.holds_of_wide 4 Try.f4 rfl rfl rfl rfl rfl rfl rfl ⟨rfl, rfl, rfl, rfl, rfl⟩ rfl rfl rfl rfl rfl (by kernel_rfl) Try.func4 (by kernel_rfl)
    (of_decide_eq_true (by kernel_rfl)) (by unfold Func.isWrapper; first | (rw [if_pos (by decide +kernel)]; kernel_rfl) | (rw [if_neg (by decide +kernel)]; exact ⟨rfl, rfl⟩))
    (fun os started H enc _ => lifted os started H enc)

theorem proved : Rows.ConfHostsSaid :=
  over
end Go.Proofs.Ytegdeobjfdiilaa.ConfHosts
