import Derived.Test.YtejeafjkhomdoaaKTr3
set_option linter.unusedVariables false
set_option linter.unusedSimpArgs false
set_option maxRecDepth 20000
namespace Go.Proofs.Ytejeafjkhomdoaa.Oct
open Go.RowKit Base
attribute [local irreducible] Ys Yc Ht HtS HtIn Wl Wd W Mem pf dpf Wa Wo
theorem rudpn_c (s d : Nat) (xs : List UInt8) (a : Option Addr) (cap : Nat) (len : Nat) (w : World) (hn : len = xs.length) (hat : At w a (byc xs)) (hs : s < 4294967296) (hd : d < 4294967296) (hl : len ≤ 100000) (hlc : len ≤ cap) : Calls Try.prog 23 #[.int .u32 (s : Int), .int .u32 (d : Int), .slice a len cap] w (RetM w (fun g : FS => g.ok 1 (uD s d xs).length) (fun g => .tuple #[.agg [.int .u16 ((uF s d xs 0 : Nat) : Int), .int .u16 ((uF s d xs 2 : Nat) : Int), .bool (uP s d xs), .slice g.a (uD s d xs).length g.cap].toArray, .int .i64 (uR s d xs)]) [] (fun g => [g.seg 5 (byc (uD s d xs))])) := by
  subst hn; exact rudp_c s d xs a cap w hat hs hd hl hlc
theorem pw_mid {pre zs : List UInt8} {n : Nat} (hp : pre.length % 2 = 0) (hn : n < 65536) : (pw (pre ++ (be 2 n ++ zs))).sum = (pw pre).sum + n + (pw zs).sum := by
  rw [pw_app _ _ hp, pw_app _ _ (by rw [be_len]), pw_be2 hn]
  simp; omega
end Go.Proofs.Ytejeafjkhomdoaa.Oct
