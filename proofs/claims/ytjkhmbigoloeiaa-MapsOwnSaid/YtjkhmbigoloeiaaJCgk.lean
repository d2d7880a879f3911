import Derived.Test.YtjkhmbigoloeiaaJCg
import Derived.Test.YtjkhmbigoloeiaaJOConf4
set_option linter.unusedVariables false
set_option linter.unusedSimpArgs false
set_option maxRecDepth 20000
namespace Go.Proofs.Ytjkhmbigoloeiaa.Oct
open Go.RowKit Base
attribute [local irreducible] Ys Yc Ht HtS HtIn Wl Wd W Mem pf dpf Wa Wo
open Conf (Fwd fwv)
def ckc (c : Conf.Cfg) (xs : List Fwd) : Int := Conf.chk c (fun k => xs.getD k fz)
theorem checkB (c : Conf.Cfg) (xs : List Fwd) (w : World) (hfl : c.fl = xs.length) (hat : At w c.fa (mm fwv xs)) (hn : xs.length ≤ 4611686018427387904) (hh : ∀ x ∈ xs, 0 ≤ x.host ∧ x.host ≤ 4294967295) (h1 : 0 ≤ c.lan ∧ c.lan ≤ 4294967295) (h2 : 0 ≤ c.wan ∧ c.wan ≤ 4294967295) (h3 : 0 ≤ c.dmz ∧ c.dmz ≤ 4294967295) :
    Calls Try.prog 10 #[.agg ([Value.int .u8 c.lm0, Value.int .u8 c.lm1, Value.int .u8 c.lm2, Value.int .u8 c.lm3, Value.int .u8 c.lm4, Value.int .u8 c.lm5, Value.int .u8 c.wm0, Value.int .u8 c.wm1, Value.int .u8 c.wm2, Value.int .u8 c.wm3, Value.int .u8 c.wm4, Value.int .u8 c.wm5, Value.int .u8 c.hm0, Value.int .u8 c.hm1, Value.int .u8 c.hm2, Value.int .u8 c.hm3, Value.int .u8 c.hm4, Value.int .u8 c.hm5, Value.int .u32 c.lan, Value.int .u32 c.wan, Value.int .i64 c.bits, Value.int .i64 c.ms, Value.int .i64 c.mm, Value.int .i64 c.mc, Value.int .i64 c.mu, Value.slice c.fa c.fl c.fc, Value.int .u32 c.dmz, Value.string c.uu]).toArray] w (Ret w (.int .i64 (ckc c xs))) :=
  Conf.check2_c c (fun k => xs.getD k fz) w (sl_of_at hfl hat) ma3 (fun i hi => by rw [List.getD_eq_getElem?_getD, List.getElem?_eq_getElem ma3]; exact hh _ (List.getElem_mem _)) h1 h2 h3
end Go.Proofs.Ytjkhmbigoloeiaa.Oct
