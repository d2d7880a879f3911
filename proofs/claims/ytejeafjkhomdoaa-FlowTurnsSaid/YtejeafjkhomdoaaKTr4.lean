import Derived.Test.YtejeafjkhomdoaaKTr3
set_option linter.unusedVariables false
set_option linter.unusedSimpArgs false
set_option maxRecDepth 20000
namespace Go.Proofs.Ytejeafjkhomdoaa.Oct
open Go.RowKit Base
attribute [local irreducible] Ys Yc Ht HtIn Wl Wd W Mem pf dpf Wa Wo
theorem rudpn_c (s d : Nat) (xs : List UInt8) (a : Option Addr) (cap : Nat) (len : Nat) (w : World) (hn : len = xs.length) (hat : At w a (byc xs)) (hs : s < 4294967296) (hd : d < 4294967296) (hl : len ≤ 100000) (hlc : len ≤ cap) : Calls Try.prog 23 #[.int .u32 ((s : Nat) : Int), .int .u32 ((d : Nat) : Int), .slice a len cap] w (RetM w (fun g : FS => g.ok 1 (uD s d xs).length) (fun g => .tuple #[.agg [.int .u16 ((uF s d xs 0 : Nat) : Int), .int .u16 ((uF s d xs 2 : Nat) : Int), .bool (uP s d xs), .slice g.a (uD s d xs).length g.cap].toArray, .int .i64 (uR s d xs)]) [] (fun g => [g.seg 5 (byc (uD s d xs))])) := by
  subst hn; exact rudp_c s d xs a cap w hat hs hd hl hlc
end Go.Proofs.Ytejeafjkhomdoaa.Oct
