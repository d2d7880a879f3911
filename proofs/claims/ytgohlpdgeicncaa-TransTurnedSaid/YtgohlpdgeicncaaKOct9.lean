import Derived.Test.YtgohlpdgeicncaaKOct8
set_option linter.unusedVariables false
set_option linter.unusedSimpArgs false
set_option maxRecDepth 20000
namespace Go.Proofs.Ytgohlpdgeicncaa.Oct
open Go.RowKit Base
attribute [local irreducible] Ys Yc Ht HtS HtIn Wl Wd W Mem pf dpf
theorem ojoin_c (ps : List SV) (pa : Option Addr) (pcap : Nat) (w : World) (hpa : At w pa (mc slv ps)) (hp : ∀ p ∈ ps, At w p.a (byc p.xs)) (htot : (jn ps).length ≤ 1000000000000) (hn : ps.length ≤ 1000000000) (hpc : ps.length ≤ pcap) : Calls Try.prog 41 #[Value.slice pa ps.length pcap] w (RetM w (fun g : FS => g.ok 1 (jn ps).length ∧ (2 ≤ ps.length → g.nil = false)) (fun g => .slice g.a (jn ps).length g.cap) [] (fun g => [g.seg 5 (byc (jn ps))])) := by
 refine calls_W (M := []) (LL := []) (n := 5) Try.func41 rfl rfl ma6 (Mem.refl _) (W.seq (fun K1 hK1 => ?_))
 refine W.region (Wl.run 1 ma0 (Wl.nil (hK1 _ _ _ (W.seq (fun K2 hK2 => ?_)))))
 refine W.region (Wl.run 1 ma0 (Wl.htS rfl (HtS.call (β := FS) (k := 64) (args := #[Value.slice pa ps.length pcap, Value.slice none 0 0]) (Lin := []) (Lk := []) (Mi := []) (Lo := fun g3 => [g3.seg 5 (mc b8 (jn ps))]) [] [] rfl (fun _ => kr) ma3 rfl rfl rfl (fun w_ hm_ hl_ => (join_c ps pa pcap _ (hpa.mem0 hm_) (fun p h => (hp p h).mem0 hm_) htot hn hpc)) (fun _ => rfl)) (fun g3 hx7 => ?_)))
 obtain ⟨ok4, nn5⟩ := hx7
 refine Wl.run 1 ma0 (Wl.nil (hK2 _ _ _ (W.prune' [2] [sV g3 ((jn ps).length)] ma0 (fun f8 => W.ret ?_))))
 show ∀ w_, _ → bodyPostM (fence none) 0 Try.prog Try.f41 _ Exit.ret _ w_
 exact fun w_ hS_ => fin_ret (ret1 rfl (RV.tmp (v := sV g3 ((jn ps).length)) ma0) hS_ ⟨g3, ⟨ok4, nn5⟩, rfl, hS_⟩)
theorem ojoinn_c (ps : List SV) (zs : List UInt8) (pa : Option Addr) (len pcap n : Nat) (w : World) (hl : len = ps.length) (hz : jn ps = zs) (hn' : zs.length = n) (hpa : At w pa (mc slv ps)) (hp : ∀ p ∈ ps, At w p.a (byc p.xs)) (htot : n ≤ 1000000000000) (hn : ps.length ≤ 1000000000) (hpc : ps.length ≤ pcap) :
    Calls Try.prog 41 #[.slice pa len pcap] w (RetM w (fun g : FS => g.ok 1 n ∧ (2 ≤ ps.length → g.nil = false)) (fun g => .slice g.a n g.cap) [] (fun g => [g.seg 5 (byc zs)])) := by
  subst hl; subst hz; subst hn'; exact ojoin_c ps pa pcap w hpa hp htot hn hpc
theorem be2 (n : Nat) : be 2 n = [UInt8.ofNat (n / 256), UInt8.ofNat n] := rfl
end Go.Proofs.Ytgohlpdgeicncaa.Oct
