/-
  OctetBack. No condition.
-/
import Derived.Test.YtgohlpdgeicncaaOct8
set_option linter.unusedVariables false
set_option linter.unusedSimpArgs false
set_option maxRecDepth 20000
namespace Go.Proofs.Ytgohlpdgeicncaa.Oct
open Go.RowKit Base
attribute [local irreducible] Ys Yc Ht HtIn Wl Wd W Mem pf dpf

theorem ojoin_c (ps : List SV) (pa : Option Addr) (pcap : Nat) (w : World) (hpa : At w pa (mc slv ps)) (hp : ∀ p ∈ ps, At w p.a (byc p.xs)) (htot : (jn ps).length ≤ 1000000000000) (hn : ps.length ≤ 1000000000) (hpc : ps.length ≤ pcap) : Calls Try.prog 41 #[Value.slice pa ps.length pcap] w (RetM w (fun g : FS => g.ok 1 (jn ps).length ∧ (2 ≤ ps.length → g.nil = false)) (fun g => .slice g.a (jn ps).length g.cap) [] (fun g => [g.seg 5 (byc (jn ps))])) := by
  refine calls_W (M := []) (LL := []) (n := 5) Try.func41 rfl rfl (by simp) (Mem.refl _) ?_
  refine W.seq (fun K1 hK1 => ?_)
  refine W.region ?_
  refine Wl.run 1 (by kernel_rfl) ?_
  refine Wl.nil ?_
  refine hK1 _ _ _ ?_
  refine W.seq (fun K2 hK2 => ?_)
  refine W.region ?_
  refine Wl.run 1 (by kernel_rfl) ?_
  refine Wl.ht rfl (Ht.call (β := FS) (k := 64) (args := #[Value.slice pa ps.length pcap, Value.slice none 0 0]) (Lin := []) (Lk := []) (Mi := []) (Lo := fun g3 => [g3.seg 5 (mc b8 (jn ps))]) [] [] rfl (fun _ => by kernel_rfl) (by decide) rfl rfl rfl (fun w_ hm_ hl_ => (join_c ps pa pcap _ (hpa.mem0 hm_) (fun p h => (hp p h).mem0 hm_) htot hn hpc)) (fun _ => rfl)) (fun x6 => ?_)
  obtain ⟨g3, ok4, nn5⟩ := x6
  refine Wl.castL (LL' := [g3.seg 5 (mc b8 (jn ps))]) rfl ?_
  refine Wl.run 1 (by kernel_rfl) ?_
  refine Wl.nil ?_
  refine hK2 _ _ _ ?_
  refine W.prune' [2] [Value.slice g3.a ((jn ps).length) g3.cap] (by kernel_rfl) (fun f7 => ?_)
  refine W.ret ?_
  show ∀ w_, _ → bodyPostM (fence none) 0 Try.prog Try.f41 _ Exit.ret _ w_
  exact fun w_ hS_ => fin_ret (ret1 rfl (RV.tmp (v := Value.slice g3.a ((jn ps).length) g3.cap) (by kernel_rfl)) hS_ ⟨g3, ⟨ok4, nn5⟩, rfl, hS_⟩)

theorem ojoinn_c (ps : List SV) (zs : List UInt8) (pa : Option Addr) (len pcap n : Nat) (w : World) (hl : len = ps.length) (hz : jn ps = zs) (hn' : zs.length = n) (hpa : At w pa (mc slv ps)) (hp : ∀ p ∈ ps, At w p.a (byc p.xs)) (htot : n ≤ 1000000000000) (hn : ps.length ≤ 1000000000) (hpc : ps.length ≤ pcap) :
    Calls Try.prog 41 #[.slice pa len pcap] w (RetM w (fun g : FS => g.ok 1 n ∧ (2 ≤ ps.length → g.nil = false)) (fun g => .slice g.a n g.cap) [] (fun g => [g.seg 5 (byc zs)])) := by
  subst hl; subst hz; subst hn'; exact ojoin_c ps pa pcap w hpa hp htot hn hpc

/-- Numbers of two bytes as bytes. -/
def b2 (ns : List Nat) : List UInt8 := (ns.map (be 2)).flatten
theorem b2_step {ns : List Nat} {k : Nat} (h : k < ns.length) : b2 (ns.take (k + 1)) = b2 (ns.take k) ++ be 2 (ns.getD k 0) := by
  unfold b2; rw [List.take_add_one, List.map_append, List.flatten_append]; simp [h]
theorem b2_len : ∀ ns : List Nat, (b2 ns).length = 2 * ns.length
  | [] => rfl
  | n :: ns => by
    have := b2_len ns
    unfold b2 at this ⊢
    rw [List.map_cons, List.flatten_cons, List.length_append, be_len, this, List.length_cons]; omega
theorem be2 (n : Nat) : be 2 n = [UInt8.ofNat (n / 256), UInt8.ofNat n] := rfl
theorem pw_b2 : ∀ ns : List Nat, (∀ x ∈ ns, x < 65536) → pw (b2 ns) = ns
  | [], _ => rfl
  | n :: ns, h => by
    have ih := pw_b2 ns (fun x hx => h x (List.mem_cons_of_mem _ hx))
    have hn := h n (List.mem_cons_self ..)
    have e : b2 (n :: ns) = UInt8.ofNat (n / 256) :: UInt8.ofNat n :: b2 ns := rfl
    rw [e, pw, ih, UInt8.toNat_ofNat', UInt8.toNat_ofNat']
    congr 1
    omega
theorem told_len (n : Nat) : told n ((n : Nat) : Int) = n := by unfold told; split <;> omega
end Go.Proofs.Ytgohlpdgeicncaa.Oct
