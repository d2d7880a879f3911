/-
  Configurations. No condition.
-/
import Derived.Test.YtjkhmbigoloeiaaKt
import Derived.Test.YtjkhmbigoloeiaaOConf3
set_option linter.unusedVariables false
set_option linter.unusedSimpArgs false
set_option maxRecDepth 20000
namespace Go.Proofs.Ytjkhmbigoloeiaa.Oct
open Go.RowKit Base
attribute [local irreducible] Ys Yc Ht HtS HtIn Wl Wd W Mem pf dpf Wa Wo

open Conf (Fwd fwv)
theorem fwv_len (x : Fwd) : (fwv x).length = 4 := rfl
theorem fwv_one (x : Fwd) : ∀ v ∈ fwv x, v.oneCell' = true := by simp [fwv, Value.oneCell']
theorem fwv_zlen (xs : List Fwd) : (mm fwv xs).length = xs.length * 4 := mm_len fwv_len xs
abbrev fz : Fwd := ⟨0, 0, 0, 0⟩
theorem sl_of_at {w : World} {a : Option Addr} {xs : List Fwd} {n : Nat} (hn : n = xs.length) (h : At w a (mm fwv xs)) : Obase.Sl w a n 4 (fun k => [Value.int .u8 ((xs.getD k fz).proto), Value.int .u16 ((xs.getD k fz).port), Value.int .u16 ((xs.getD k fz).dest), Value.int .u32 ((xs.getD k fz).host)]) := by
  subst hn
  have hl : (mm fwv xs).length = xs.length * 4 := mm_len fwv_len _
  refine ⟨fun h0 => h.here (by omega), fun h0 => h.lt (by omega), fun i hi j v hv => ?_⟩
  have h1 := mm_get (g := fwv) (sz := 4) (fun _ => rfl) fz (xs := xs) (k := i) hi j v hv
  have h2 := h.cell _ v h1
  rw [← adr_add_add] at h2
  exact h2
/-- Is an address a host's? -/
def hst (lan bits a : Int) : Bool := (Conf.within a lan bits && a != lan) && Conf.inner a bits
theorem hostA (c : Conf.Cfg) (a : Int) (w : World) : Calls Try.prog 38 #[.agg ([Value.int .u8 c.lm0, Value.int .u8 c.lm1, Value.int .u8 c.lm2, Value.int .u8 c.lm3, Value.int .u8 c.lm4, Value.int .u8 c.lm5, Value.int .u8 c.wm0, Value.int .u8 c.wm1, Value.int .u8 c.wm2, Value.int .u8 c.wm3, Value.int .u8 c.wm4, Value.int .u8 c.wm5, Value.int .u8 c.hm0, Value.int .u8 c.hm1, Value.int .u8 c.hm2, Value.int .u8 c.hm3, Value.int .u8 c.hm4, Value.int .u8 c.hm5, Value.int .u32 c.lan, Value.int .u32 c.wan, Value.int .i64 c.bits, Value.int .i64 c.ms, Value.int .i64 c.mm, Value.int .i64 c.mc, Value.int .i64 c.mu, Value.slice c.fa c.fl c.fc, Value.int .u32 c.dmz, Value.string c.uu]).toArray, .int .u32 a] w (Ret w (.bool (hst c.lan c.bits a))) := Conf.host_c c a w
theorem hostB (c : Conf.Cfg) (a : Int) (w : World) (ha : 0 ≤ a ∧ a ≤ 4294967295) (hc : 0 ≤ c.lan ∧ c.lan ≤ 4294967295) : Calls Try.prog 14 #[.agg ([Value.int .u8 c.lm0, Value.int .u8 c.lm1, Value.int .u8 c.lm2, Value.int .u8 c.lm3, Value.int .u8 c.lm4, Value.int .u8 c.lm5, Value.int .u8 c.wm0, Value.int .u8 c.wm1, Value.int .u8 c.wm2, Value.int .u8 c.wm3, Value.int .u8 c.wm4, Value.int .u8 c.wm5, Value.int .u8 c.hm0, Value.int .u8 c.hm1, Value.int .u8 c.hm2, Value.int .u8 c.hm3, Value.int .u8 c.hm4, Value.int .u8 c.hm5, Value.int .u32 c.lan, Value.int .u32 c.wan, Value.int .i64 c.bits, Value.int .i64 c.ms, Value.int .i64 c.mm, Value.int .i64 c.mc, Value.int .i64 c.mu, Value.slice c.fa c.fl c.fc, Value.int .u32 c.dmz, Value.string c.uu]).toArray, .int .u32 a] w (Ret w (.bool (hst c.lan c.bits a))) := Conf.host2_c c a w ha hc

theorem plain_c  (w : World) : Calls Try.prog 19 #[] w (Ret w (Value.agg ([Value.int .u8 2, Value.int .u8 0, Value.int .u8 0, Value.int .u8 0, Value.int .u8 0, Value.int .u8 1, Value.int .u8 2, Value.int .u8 0, Value.int .u8 0, Value.int .u8 0, Value.int .u8 1, Value.int .u8 1, Value.int .u8 2, Value.int .u8 0, Value.int .u8 0, Value.int .u8 0, Value.int .u8 1, Value.int .u8 2, Value.int .u32 3232235777, Value.int .u32 3405803781, Value.int .i64 24, Value.int .i64 8, Value.int .i64 4, Value.int .i64 3, Value.int .i64 2, Value.slice none 0 0, Value.int .u32 0, Value.string (bstr [48, 48, 48, 48, 48, 48, 48, 48, 45, 49, 49, 49, 49, 45, 50, 50, 50, 50, 45, 51, 51, 51, 51, 45, 52, 52, 52, 52, 52, 52, 52, 52, 52, 52, 52, 52])]).toArray)) := by
  refine calls_W (M := []) (LL := []) (n := 5) Try.func19 rfl rfl (by simp) (Mem.refl _) ?_
  refine W.seq (fun K1 hK1 => ?_)
  refine W.region ?_
  refine Wl.ht rfl (Ht.alloc (z := Value.agg ([Value.int .u8 0, Value.int .u8 0, Value.int .u8 0, Value.int .u8 0, Value.int .u8 0, Value.int .u8 0, Value.int .u8 0, Value.int .u8 0, Value.int .u8 0, Value.int .u8 0, Value.int .u8 0, Value.int .u8 0, Value.int .u8 0, Value.int .u8 0, Value.int .u8 0, Value.int .u8 0, Value.int .u8 0, Value.int .u8 0, Value.int .u32 0, Value.int .u32 0, Value.int .i64 0, Value.int .i64 0, Value.int .i64 0, Value.int .i64 0, Value.int .i64 0, Value.slice none 0 0, Value.int .u32 0, Value.string (bstr [])]).toArray) (cs := [Value.int .u8 0, Value.int .u8 0, Value.int .u8 0, Value.int .u8 0, Value.int .u8 0, Value.int .u8 0, Value.int .u8 0, Value.int .u8 0, Value.int .u8 0, Value.int .u8 0, Value.int .u8 0, Value.int .u8 0, Value.int .u8 0, Value.int .u8 0, Value.int .u8 0, Value.int .u8 0, Value.int .u8 0, Value.int .u8 0, Value.int .u32 0, Value.int .u32 0, Value.int .i64 0, Value.int .i64 0, Value.int .i64 0, Value.int .i64 0, Value.int .i64 0, Value.slice none 0 0, Value.int .u32 0, Value.string (bstr [])]) rfl rfl Try.zeroValue28 rfl) (fun p0 => ?_)
  refine Wl.nil ?_
  refine hK1 _ _ _ ?_
  refine W.seq (fun K2 hK2 => ?_)
  refine W.region ?_
  refine Wl.run 4 (by kernel_rfl) ?_
  refine Wl.ht rfl (Ht.storeN (b := p0) (o' := 0) (i := 0) (j := 0) (cs := [Value.int .u8 0, Value.int .u8 0, Value.int .u8 0, Value.int .u8 0, Value.int .u8 0, Value.int .u8 0, Value.int .u8 0, Value.int .u8 0, Value.int .u8 0, Value.int .u8 0, Value.int .u8 0, Value.int .u8 0, Value.int .u8 0, Value.int .u8 0, Value.int .u8 0, Value.int .u8 0, Value.int .u8 0, Value.int .u8 0, Value.int .u32 0, Value.int .u32 0, Value.int .i64 0, Value.int .i64 0, Value.int .i64 0, Value.int .i64 0, Value.int .i64 0, Value.slice none 0 0, Value.int .u32 0, Value.string (bstr [])]) (vs := [Value.int .u8 2, Value.int .u8 0, Value.int .u8 0, Value.int .u8 0, Value.int .u8 0, Value.int .u8 1, Value.int .u8 2, Value.int .u8 0, Value.int .u8 0, Value.int .u8 0, Value.int .u8 1, Value.int .u8 1, Value.int .u8 2, Value.int .u8 0, Value.int .u8 0, Value.int .u8 0, Value.int .u8 1, Value.int .u8 2, Value.int .u32 3232235777, Value.int .u32 3405803781, Value.int .i64 24, Value.int .i64 8, Value.int .i64 4, Value.int .i64 3, Value.int .i64 2, Value.slice none 0 0, Value.int .u32 0, Value.string (bstr [48, 48, 48, 48, 48, 48, 48, 48, 45, 49, 49, 49, 49, 45, 50, 50, 50, 50, 45, 51, 51, 51, 51, 45, 52, 52, 52, 52, 52, 52, 52, 52, 52, 52, 52, 52])]) (cs' := [Value.int .u8 2, Value.int .u8 0, Value.int .u8 0, Value.int .u8 0, Value.int .u8 0, Value.int .u8 1, Value.int .u8 2, Value.int .u8 0, Value.int .u8 0, Value.int .u8 0, Value.int .u8 1, Value.int .u8 1, Value.int .u8 2, Value.int .u8 0, Value.int .u8 0, Value.int .u8 0, Value.int .u8 1, Value.int .u8 2, Value.int .u32 3232235777, Value.int .u32 3405803781, Value.int .i64 24, Value.int .i64 8, Value.int .i64 4, Value.int .i64 3, Value.int .i64 2, Value.slice none 0 0, Value.int .u32 0, Value.string (bstr [48, 48, 48, 48, 48, 48, 48, 48, 45, 49, 49, 49, 49, 45, 50, 50, 50, 50, 45, 51, 51, 51, 51, 45, 52, 52, 52, 52, 52, 52, 52, 52, 52, 52, 52, 52])]) (LL' := [[cb p0 [Value.int .u8 2, Value.int .u8 0, Value.int .u8 0, Value.int .u8 0, Value.int .u8 0, Value.int .u8 1, Value.int .u8 2, Value.int .u8 0, Value.int .u8 0, Value.int .u8 0, Value.int .u8 1, Value.int .u8 1, Value.int .u8 2, Value.int .u8 0, Value.int .u8 0, Value.int .u8 0, Value.int .u8 1, Value.int .u8 2, Value.int .u32 3232235777, Value.int .u32 3405803781, Value.int .i64 24, Value.int .i64 8, Value.int .i64 4, Value.int .i64 3, Value.int .i64 2, Value.slice none 0 0, Value.int .u32 0, Value.string (bstr [48, 48, 48, 48, 48, 48, 48, 48, 45, 49, 49, 49, 49, 45, 50, 50, 50, 50, 45, 51, 51, 51, 51, 45, 52, 52, 52, 52, 52, 52, 52, 52, 52, 52, 52, 52])] 28]]) rfl rfl (by kernel_rfl) (by kernel_rfl) Try.sizeOf28 (by simp [Value.oneCell']) rfl rfl (by simp) rfl rfl) (fun _ => ?_)
  refine Wl.nil ?_
  refine hK2 _ _ _ ?_
  refine W.prune' [0] [Value.pointer (some ⟨p0, 0, none⟩)] (by kernel_rfl) (fun f3 => ?_)
  refine W.ret ?_
  show ∀ w_, _ → bodyPostM (fence none) 0 Try.prog Try.f19 _ Exit.ret _ w_
  exact fun w_ hS_ => fin_ret (ret1 rfl (RV.cellN (b := p0) (o' := 0) (i := 0) (j := 0) (cs := [Value.int .u8 2, Value.int .u8 0, Value.int .u8 0, Value.int .u8 0, Value.int .u8 0, Value.int .u8 1, Value.int .u8 2, Value.int .u8 0, Value.int .u8 0, Value.int .u8 0, Value.int .u8 1, Value.int .u8 1, Value.int .u8 2, Value.int .u8 0, Value.int .u8 0, Value.int .u8 0, Value.int .u8 1, Value.int .u8 2, Value.int .u32 3232235777, Value.int .u32 3405803781, Value.int .i64 24, Value.int .i64 8, Value.int .i64 4, Value.int .i64 3, Value.int .i64 2, Value.slice none 0 0, Value.int .u32 0, Value.string (bstr [48, 48, 48, 48, 48, 48, 48, 48, 45, 49, 49, 49, 49, 45, 50, 50, 50, 50, 45, 51, 51, 51, 51, 45, 52, 52, 52, 52, 52, 52, 52, 52, 52, 52, 52, 52])]) (vs := [Value.int .u8 2, Value.int .u8 0, Value.int .u8 0, Value.int .u8 0, Value.int .u8 0, Value.int .u8 1, Value.int .u8 2, Value.int .u8 0, Value.int .u8 0, Value.int .u8 0, Value.int .u8 1, Value.int .u8 1, Value.int .u8 2, Value.int .u8 0, Value.int .u8 0, Value.int .u8 0, Value.int .u8 1, Value.int .u8 2, Value.int .u32 3232235777, Value.int .u32 3405803781, Value.int .i64 24, Value.int .i64 8, Value.int .i64 4, Value.int .i64 3, Value.int .i64 2, Value.slice none 0 0, Value.int .u32 0, Value.string (bstr [48, 48, 48, 48, 48, 48, 48, 48, 45, 49, 49, 49, 49, 45, 50, 50, 50, 50, 45, 51, 51, 51, 51, 45, 52, 52, 52, 52, 52, 52, 52, 52, 52, 52, 52, 52])]) (by kernel_rfl) Try.isAgg28 Try.sizeOf28 rfl rfl rfl rfl) hS_ ⟨rfl, hS_.below⟩)

end Go.Proofs.Ytjkhmbigoloeiaa.Oct
