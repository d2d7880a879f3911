import Derived.Test.YtejeafjkhomdoaaKTr6
set_option linter.unusedVariables false
set_option linter.unusedSimpArgs false
set_option maxRecDepth 20000
namespace Go.Proofs.Ytejeafjkhomdoaa.Oct
open Go.RowKit Base
attribute [local irreducible] Ys Yc Ht HtIn Wl Wd W Mem pf dpf Wa Wo
theorem rwicmpn_c (ty co : UInt8) (re : Nat) (xs : List UInt8) (a : Option Addr) (cap : Nat) (len : Nat) (w : World) (hn : len = xs.length) (hat : At w a (byc xs)) (hr : re < 4294967296) (hl : xs.length ≤ 9223372036854775807) (hlc : xs.length ≤ cap)  : Calls Try.prog 29 #[Value.agg ([Value.int .u8 ((ty.toNat : Nat) : Int), Value.int .u8 ((co.toNat : Nat) : Int), Value.int .u32 ((re : Nat) : Int), Value.slice a len cap]).toArray] w (RetM w (fun g : FS => g.ok 1 (mB ty co re xs).length) (fun g => .tuple #[.slice g.a (mB ty co re xs).length g.cap, .int .i64 (uE xs.length)]) [] (fun g => [g.seg 5 (byc (mB ty co re xs))])) := by
  subst hn; exact rwicmp_c ty co re xs a cap w hat hr hl hlc
theorem ricmpn_c (xs : List UInt8) (a : Option Addr) (cap : Nat) (len : Nat) (w : World) (hn : len = xs.length) (hat : At w a (byc xs)) (hl : len ≤ 100000) (hlc : len ≤ cap) : Calls Try.prog 36 #[.slice a len cap] w (RetM w (fun g : FS => g.ok 1 (mD xs).length) (fun g => .tuple #[.agg [.int .u8 (((mT xs 0).toNat : Nat) : Int), .int .u8 (((mT xs 1).toNat : Nat) : Int), .int .u32 ((mN xs : Nat) : Int), .slice g.a (mD xs).length g.cap].toArray, .int .i64 (mR xs)]) [] (fun g => [g.seg 5 (byc (mD xs))])) := by
  subst hn; exact ricmp_c xs a cap w hat hl hlc
end Go.Proofs.Ytejeafjkhomdoaa.Oct
