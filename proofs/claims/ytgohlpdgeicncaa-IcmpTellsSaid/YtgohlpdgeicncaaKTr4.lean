import Derived.Test.YtgohlpdgeicncaaKTr3
set_option linter.unusedVariables false
set_option linter.unusedSimpArgs false
set_option maxRecDepth 20000
namespace Go.Proofs.Ytgohlpdgeicncaa.Oct
open Go.RowKit Base
attribute [local irreducible] Ys Yc Ht HtIn Wl Wd W Mem pf dpf Wa Wo
theorem rwudpn_c (s d fr to : Nat) (pl : Bool) (xs : List UInt8) (a : Option Addr) (cap : Nat) (len : Nat) (w : World) (hn : len = xs.length) (hat : At w a (byc xs)) (hs : s < 4294967296) (hd : d < 4294967296) (hf : fr < 65536) (ht : to < 65536) (hl : xs.length ≤ 100000) (hlc : xs.length ≤ cap)  : Calls Try.prog 15 #[.int .u32 ((s : Nat) : Int), .int .u32 ((d : Nat) : Int), Value.agg ([Value.int .u16 ((fr : Nat) : Int), Value.int .u16 ((to : Nat) : Int), Value.bool pl, Value.slice a len cap]).toArray] w (RetM w (fun g : FS => g.ok 1 (uB s d fr to pl xs).length) (fun g => .tuple #[.slice g.a (uB s d fr to pl xs).length g.cap, .int .i64 (uE xs.length)]) [] (fun g => [g.seg 5 (byc (uB s d fr to pl xs))])) := by
  subst hn; exact rwudp_c s d fr to pl xs a cap w hat hs hd hf ht hl hlc
end Go.Proofs.Ytgohlpdgeicncaa.Oct
