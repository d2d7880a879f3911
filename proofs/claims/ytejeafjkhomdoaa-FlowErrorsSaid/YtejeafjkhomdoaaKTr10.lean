import Derived.Test.YtejeafjkhomdoaaKTr9
set_option linter.unusedVariables false
set_option linter.unusedSimpArgs false
set_option maxRecDepth 20000
namespace Go.Proofs.Ytejeafjkhomdoaa.Oct
open Go.RowKit Base
attribute [local irreducible] Ys Yc Ht HtS HtIn Wl Wd W Mem pf dpf Wa Wo
theorem rtcpn_c (s d : Nat) (xs : List UInt8) (a : Option Addr) (cap : Nat) (len : Nat) (w : World) (hn : len = xs.length) (hat : At w a (byc xs)) (hs : s < 4294967296) (hd : d < 4294967296) (hl : len ≤ 100000) (hlc : len ≤ cap) : Calls Try.prog 22 #[.int .u32 (s : Int), .int .u32 (d : Int), .slice a len cap] w (RetM w (fun g : FS × FS => g.1.ok 1 (tO s d xs).length ∧ g.2.ok 1 (tD s d xs).length) (fun g => .tuple #[.agg [.int .u16 ((tF s d xs 0 : Nat) : Int), .int .u16 ((tF s d xs 2 : Nat) : Int), .int .u32 ((tW s d xs 4 : Nat) : Int), .int .u32 ((tW s d xs 8 : Nat) : Int), .int .u8 ((tL s d xs).toNat : Int), .int .u16 ((tF s d xs 14 : Nat) : Int), .int .u16 ((tF s d xs 18 : Nat) : Int), .slice g.1.a (tO s d xs).length g.1.cap, .slice g.2.a (tD s d xs).length g.2.cap].toArray, .int .i64 (tR s d xs)]) [] (fun g => [g.1.seg 5 (byc (tO s d xs)), g.2.seg 5 (byc (tD s d xs))])) := by
  subst hn; exact rtcp_c s d xs a cap w hat hs hd hl hlc
end Go.Proofs.Ytejeafjkhomdoaa.Oct
