/-
  Pairs. No condition.
-/
import Derived.Test.YtegeijaicjackaaOct3
set_option linter.unusedVariables false
set_option linter.unusedSimpArgs false
set_option maxRecDepth 20000
namespace Go.Proofs.Ytegeijaicjackaa.Oct
open Go.RowKit Base
attribute [local irreducible] Ys Yc Ht HtIn Wl Wd W Mem pf dpf

/-- The numbers of two bytes each. -/
def pw : List UInt8 → List Nat
  | [] => []
  | [x] => [x.toNat * 256]
  | x :: y :: l => (x.toNat * 256 + y.toNat) :: pw l
theorem pw_len : ∀ xs : List UInt8, (pw xs).length = (xs.length + 1) / 2
  | [] => rfl
  | [x] => by simp [pw]
  | x :: y :: l => by simp only [pw, List.length_cons, pw_len l]; omega
theorem pw_get1 : ∀ (xs : List UInt8) (k : Nat), 2 * k + 1 < xs.length → (pw xs).getD k 0 = (xs.getD (2 * k) 0).toNat * 256 + (xs.getD (2 * k + 1) 0).toNat
  | [], k, h => by simp at h
  | [_], k, h => by simp at h
  | x :: y :: l, 0, h => by simp [pw]
  | x :: y :: l, k + 1, h => by
    have := pw_get1 l k (by simp at h; omega)
    simp only [pw, List.getD_cons_succ, this, show 2 * (k + 1) = 2 * k + 1 + 1 by omega, show 2 * k + 1 + 1 + 1 = 2 * k + 1 + 1 + 1 by rfl]
theorem pw_get0 : ∀ (xs : List UInt8) (k : Nat), 2 * k + 1 = xs.length → (pw xs).getD k 0 = (xs.getD (2 * k) 0).toNat * 256
  | [], k, h => by simp at h
  | [x], k, h => by
    obtain rfl : k = 0 := by simp at h; omega
    simp [pw]
  | x :: y :: l, 0, h => by simp at h
  | x :: y :: l, k + 1, h => by
    have := pw_get0 l k (by simp at h; omega)
    simp only [pw, List.getD_cons_succ, this, show 2 * (k + 1) = 2 * k + 1 + 1 by omega]
theorem pw_lt (xs : List UInt8) (k : Nat) : (pw xs).getD k 0 < 65536 := by
  by_cases h : k < (pw xs).length
  · have hl := pw_len xs
    rcases Nat.lt_or_ge (2 * k + 1) xs.length with h1 | h1
    · rw [pw_get1 xs k h1]
      have := UInt8.toNat_lt (xs.getD (2 * k) 0); have := UInt8.toNat_lt (xs.getD (2 * k + 1) 0); omega
    · rw [pw_get0 xs k (by omega)]
      have := UInt8.toNat_lt (xs.getD (2 * k) 0); omega
  · rw [List.getD_eq_getElem?_getD, List.getElem?_eq_none (by omega)]; decide
/-- How many are told. -/
def told (n : Nat) (most : Int) : Nat := if n = 0 then 0 else min n (max most 1).toNat
theorem pairs_mk (a : Option Addr) (len cap : Nat) (w : World) : Calls Try.prog 34 #[Value.slice a len cap] w (RetM w (fun _ : Nat => True) (fun b => .func (.func 41) #[] #[.pointer (some ⟨b, 0, none⟩)]) [] (fun b => [[cb b [.slice a len cap] 22]])) := by
  refine calls_W (M := []) (LL := []) (n := 4) Try.func34 rfl rfl (by simp) (Mem.refl _) ?_
  refine W.seq (fun K1 hK1 => ?_)
  refine W.region ?_
  refine Wl.ht rfl (Ht.box (v := Value.slice a len cap) (cs := [Value.slice a len cap]) rfl rfl (by kernel_rfl) rfl) (fun p1 => ?_)
  refine Wl.run 1 (by kernel_rfl) ?_
  refine Wl.nil ?_
  refine hK1 _ _ _ ?_
  refine W.prune' [1] [Value.pointer (some ⟨p1, 0, none⟩)] (by kernel_rfl) (fun f2 => ?_)
  refine W.seq (fun K3 hK3 => ?_)
  refine W.region ?_
  refine Wl.run 2 (by kernel_rfl) ?_
  refine Wl.nil ?_
  refine hK3 _ _ _ ?_
  refine W.prune' [2] [Value.func (.func 41) #[] #[Value.pointer (some ⟨p1, 0, none⟩)]] (by kernel_rfl) (fun f4 => ?_)
  refine W.ret ?_
  show ∀ w_, _ → bodyPostM (fence none) 0 Try.prog Try.f34 _ Exit.ret _ w_
  exact fun w_ hS_ => fin_ret (ret1 rfl (RV.tmp (v := Value.func (.func 41) #[] #[Value.pointer (some ⟨p1, 0, none⟩)]) (by kernel_rfl)) hS_ ⟨p1, trivial, rfl, hS_⟩)

theorem yield_c (ns : List Nat) (g : FS) (okv : Bool) (most i : Int) (n p6 p5 p3 : Nat) (M : List Nat) (w : World) (hl : Mem w M [[cb p6 [.bool okv] 4], [cb p5 [.slice g.a ns.length g.cap] 24], [cb p3 [.int .i64 most] 3], g.seg 27 (mc n16 ns)] w) (ok : g.ok 1 ns.length) (hns : ns.length ≤ 1000000000) : Calls Try.prog 35 #[Value.int .i64 i, Value.int .u16 ((n : Nat) : Int), Value.pointer (some ⟨p6, 0, none⟩), Value.pointer (some ⟨p5, 0, none⟩), Value.pointer (some ⟨p3, 0, none⟩)] w (RetM w (fun g : FS => g.ok 1 (ns.length + 1)) (fun g => .bool (decide (((ns.length + 1 : Nat) : Int) < most))) M (fun g => [[cb p6 [.bool (okv && (i == ((ns.length : Nat) : Int)))] 4], [cb p5 [.slice g.a (ns.length + 1) g.cap] 24], [cb p3 [.int .i64 most] 3], g.seg 27 (mc n16 (ns ++ [n]))])) := by
  refine calls_W (M := M) (LL := [[cb p6 [Value.bool okv] 4], [cb p5 [Value.slice g.a ns.length g.cap] 24], [cb p3 [Value.int .i64 most] 3], g.seg 27 (mc n16 ns)]) (n := 23) Try.func35 rfl rfl (by simp) (hl) ?_
  refine W.seq (fun K1 hK1 => ?_)
  refine W.region ?_
  refine Wl.run 1 (by kernel_rfl) ?_
  refine Wl.nil ?_
  refine hK1 _ _ _ ?_
  refine W.seq (fun K2 hK2 => ?_)
  refine W.region ?_
  refine Wl.ys (v := Value.bool okv) rfl rfl (Ys.load (b := p6) (o' := 0) (i := 0) (j := 0) (cs := [Value.bool okv]) (v := Value.bool okv) rfl (by kernel_rfl) Try.isAgg4 rfl rfl rfl) ?_
  refine Wl.run 1 (by kernel_rfl) ?_
  refine Wl.guard (v := Value.int .i64 i) (okv) rfl (wantT rfl (by kernel_rfl)) rfl (fun hg3 => ?_) ?_
  · exact Ys.pure (fun _ => by kernel_rfl)
  refine Wl.guard (v := Value.slice g.a ns.length g.cap) (okv) rfl (wantT rfl (by kernel_rfl)) rfl (fun hg4 => ?_) ?_
  · exact Ys.load (b := p5) (o' := 0) (i := 1) (j := 0) (cs := [Value.slice g.a ns.length g.cap]) (v := Value.slice g.a ns.length g.cap) rfl (by kernel_rfl) Try.isAgg24 rfl rfl rfl
  refine Wl.guard (v := Value.int .i64 ((ns.length : Nat) : Int)) (okv) rfl (wantT rfl (by kernel_rfl)) rfl (fun hg5 => ?_) ?_
  · refine Ys.at (t := 11) (v0 := Value.slice g.a ns.length g.cap) (lz (g := okv) (u := undef) hg5 (by kernel_rfl)) ?_
    exact Ys.pure (fun _ => by kernel_rfl)
  refine Wl.guard (v := Value.bool (i == ((ns.length : Nat) : Int))) (okv) rfl (wantT rfl (by kernel_rfl)) rfl (fun hg6 => ?_) ?_
  · refine Ys.at (t := 10) (v0 := Value.int .i64 i) (lz (g := okv) (u := undef) hg6 (by kernel_rfl)) ?_
    refine Ys.at (t := 12) (v0 := Value.int .i64 ((ns.length : Nat) : Int)) (lz (g := okv) (u := undef) hg6 (by kernel_rfl)) ?_
    exact Ys.pure (fun _ => by kernel_rfl)
  refine Wl.ys (v := Value.bool (okv && (i == ((ns.length : Nat) : Int)))) rfl rfl (Ys.and (e := okv) (b := i == ((ns.length : Nat) : Int)) rfl (by kernel_rfl) (by kernel_rfl) (by kernel_rfl)) ?_
  refine Wl.ht rfl (Ht.store (b := p6) (o' := 0) (i := 0) (j := 0) (cs := [Value.bool okv]) (cs' := [Value.bool (okv && (i == ((ns.length : Nat) : Int)))]) (v := Value.bool (okv && (i == ((ns.length : Nat) : Int)))) (LL' := [[cb p6 [Value.bool (okv && (i == ((ns.length : Nat) : Int)))] 4], [cb p5 [Value.slice g.a ns.length g.cap] 24], [cb p3 [Value.int .i64 most] 3], g.seg 27 (mc n16 ns)]) rfl rfl (by kernel_rfl) (by kernel_rfl) Try.sizeOf4 rfl rfl rfl (by simp) rfl rfl) (fun _ => ?_)
  refine Wl.nil ?_
  refine hK2 _ _ _ ?_
  refine W.prune' [1, 3, 4] [Value.int .u16 ((n : Nat) : Int), Value.pointer (some ⟨p5, 0, none⟩), Value.pointer (some ⟨p3, 0, none⟩)] (by kernel_rfl) (fun f7 => ?_)
  refine W.seq (fun K8 hK8 => ?_)
  refine W.region ?_
  refine Wl.ys (v := Value.slice g.a ns.length g.cap) rfl rfl (Ys.load (b := p5) (o' := 0) (i := 1) (j := 0) (cs := [Value.slice g.a ns.length g.cap]) (v := Value.slice g.a ns.length g.cap) rfl (by kernel_rfl) Try.isAgg24 rfl rfl rfl) ?_
  refine Wl.run 1 (by kernel_rfl) ?_
  refine Wl.ht rfl (Ht.made (mk := fun b_ => .slice (some ⟨b_, 0, none⟩) 1 1) (t := 27) (cs := [Value.int .u16 ((n : Nat) : Int)]) rfl (fun _ => by kernel_rfl)) (fun p17 => ?_)
  refine Wl.ht rfl (Ht.append (eu := 27) (xv := Value.slice (some ⟨p17, 0, none⟩) 1 1) (i := 4) (g := g) (e := 27) (ii := (Try.prog.info? 27).getD default) (z := Value.int .u16 0) (sz := 1) (bytes := 2) (nn := ns.length) (m := 1) (k := (ns ++ [n]).length) (xs := mc n16 ns) (news := mc n16 [n]) (cs' := mc n16 (ns ++ [n])) (Lo := fun g9 => [[cb p17 [Value.int .u16 ((n : Nat) : Int)] 27], [cb p6 [Value.bool (okv && (i == ((ns.length : Nat) : Int)))] 4], [cb p5 [Value.slice g.a ns.length g.cap] 24], [cb p3 [Value.int .i64 most] 3], g9.seg 27 (mc n16 (ns ++ [n]))]) rfl rfl (by kernel_rfl) (by kernel_rfl) (by kernel_rfl) (by kernel_rfl) (by kernel_rfl) (by kernel_rfl) (by kernel_rfl) (by kernel_rfl) (by kernel_rfl) rfl ok (mc_len1 _) (fun _ => rfl) (Src.at (a := some ⟨p17, 0, none⟩) (by first | rfl | (simp [mc, be_len]; done) | (simp [mc, be_len]; omega)) (fun w_ h_ => (At.lit0 (i := 0) (j := 0) (t := 27) (b := p17) h_ rfl rfl))) (by first | rfl | (simp [mc, be_len]; done) | (simp [mc, be_len]; omega)) (mc_one (fun _ => rfl) _) (by first | omega | (simp; done) | (simp; omega)) (by simp only [maxLen]; first | omega | (simp; omega)) (by first | omega | (simp; omega)) (mc_app _ _) (fun _ => rfl)) (fun x13 => ?_)
  obtain ⟨g9, ok10, hn11, hn12⟩ := x13
  refine Wl.castL (LL' := [[cb p17 [Value.int .u16 ((n : Nat) : Int)] 27], [cb p6 [Value.bool (okv && (i == ((ns.length : Nat) : Int)))] 4], [cb p5 [Value.slice g.a ns.length g.cap] 24], [cb p3 [Value.int .i64 most] 3], g9.seg 27 (mc n16 (ns ++ [n]))]) rfl ?_
  refine Wl.ht rfl (Ht.store (b := p5) (o' := 0) (i := 2) (j := 0) (cs := [Value.slice g.a ns.length g.cap]) (cs' := [Value.slice g9.a ((ns ++ [n]).length) g9.cap]) (v := Value.slice g9.a ((ns ++ [n]).length) g9.cap) (LL' := [[cb p17 [Value.int .u16 ((n : Nat) : Int)] 27], [cb p6 [Value.bool (okv && (i == ((ns.length : Nat) : Int)))] 4], [cb p5 [Value.slice g9.a ((ns ++ [n]).length) g9.cap] 24], [cb p3 [Value.int .i64 most] 3], g9.seg 27 (mc n16 (ns ++ [n]))]) rfl rfl (by kernel_rfl) (by kernel_rfl) Try.sizeOf24 rfl rfl rfl (by simp) rfl rfl) (fun _ => ?_)
  refine Wl.nil ?_
  refine hK8 _ _ _ ?_
  refine W.pick (LL' := [[cb p6 [Value.bool (okv && (i == ((ns.length : Nat) : Int)))] 4], [cb p5 [Value.slice g9.a ((ns ++ [n]).length) g9.cap] 24], [cb p3 [Value.int .i64 most] 3], g9.seg 27 (mc n16 (ns ++ [n]))]) [1, 2, 3, 4] (by decide) rfl ?_
  refine W.prune' [3, 4] [Value.pointer (some ⟨p5, 0, none⟩), Value.pointer (some ⟨p3, 0, none⟩)] (by kernel_rfl) (fun f14 => ?_)
  refine W.seq (fun K15 hK15 => ?_)
  refine W.region ?_
  refine Wl.ys (v := Value.slice g9.a ((ns ++ [n]).length) g9.cap) rfl rfl (Ys.load (b := p5) (o' := 0) (i := 1) (j := 0) (cs := [Value.slice g9.a ((ns ++ [n]).length) g9.cap]) (v := Value.slice g9.a ((ns ++ [n]).length) g9.cap) rfl (by kernel_rfl) Try.isAgg24 rfl rfl rfl) ?_
  refine Wl.run 1 (by kernel_rfl) ?_
  refine Wl.ys (v := Value.int .i64 most) rfl rfl (Ys.load (b := p3) (o' := 0) (i := 2) (j := 0) (cs := [Value.int .i64 most]) (v := Value.int .i64 most) rfl (by kernel_rfl) Try.isAgg3 rfl rfl rfl) ?_
  refine Wl.run 2 (by kernel_rfl) ?_
  refine Wl.nil ?_
  refine hK15 _ _ _ ?_
  refine W.prune' [7] [Value.bool (decide ((((ns ++ [n]).length : Nat) : Int) < most))] (by kernel_rfl) (fun f16 => ?_)
  refine W.ret ?_
  show ∀ w_, _ → bodyPostM (fence none) 0 Try.prog Try.f35 _ Exit.ret _ w_
  exact fun w_ hS_ => fin_ret (ret1 rfl (RV.tmp (v := Value.bool (decide ((((ns ++ [n]).length : Nat) : Int) < most))) (by kernel_rfl)) hS_ ⟨g9, (by simpa using ok10), congrArg Ending.returned ((by simp)), (Mem.cast (by simp) (hS_.pick (LL' := [[cb p6 [Value.bool (okv && (i == ((ns.length : Nat) : Int)))] 4], [cb p5 [Value.slice g9.a ((ns ++ [n]).length) g9.cap] 24], [cb p3 [Value.int .i64 most] 3], g9.seg 27 (mc n16 (ns ++ [n]))]) [0, 1, 2, 3] (by decide) rfl))⟩)

theorem yieldn_c (ns : List Nat) (g : FS) (okv : Bool) (most i : Int) (n p6 p5 p3 : Nat) (M : List Nat) (len : Nat) (w : World) (hn : len = ns.length) (hl : Mem w M [[cb p6 [.bool okv] 4], [cb p5 [.slice g.a len g.cap] 24], [cb p3 [.int .i64 most] 3], g.seg 27 (mc n16 ns)] w) (ok : g.ok 1 len) (hns : len ≤ 1000000000) (u : Unit) :
    Calls Try.prog 35 #[.int .i64 i, .int .u16 ((n : Nat) : Int), .pointer (some ⟨p6, 0, none⟩), .pointer (some ⟨p5, 0, none⟩), .pointer (some ⟨p3, 0, none⟩)] w (RetM w (fun g : FS => g.ok 1 (len + 1)) (fun g => .bool (decide (((len + 1 : Nat) : Int) < most))) M (fun g => [[cb p6 [.bool (okv && (i == ((len : Nat) : Int)))] 4], [cb p5 [.slice g.a (len + 1) g.cap] 24], [cb p3 [.int .i64 most] 3], g.seg 27 (mc n16 (ns ++ [n]))])) := by
  subst hn; exact yield_c ns g okv most i n p6 p5 p3 M w hl ok hns

theorem pw_step {xs : List UInt8} {k : Nat} (h : 2 * k < xs.length) : (pw xs).take (k + 1) = (pw xs).take k ++ [(pw xs).getD k 0] := by
  have hl := pw_len xs
  have hk : k < (pw xs).length := by omega
  rw [List.take_add_one]; simp [hk]
theorem pw_or {xs : List UInt8} {k : Nat} (h : 2 * k + 1 < xs.length) : (xs.getD (2 * k) 0).toNat * 256 % 65536 ||| (xs.getD (2 * k + 1) 0).toNat = (pw xs).getD k 0 := by
  have h1 := UInt8.toNat_lt (xs.getD (2 * k) 0); have h2 := UInt8.toNat_lt (xs.getD (2 * k + 1) 0)
  rw [pw_get1 xs k h, Nat.mod_eq_of_lt (by omega), show (xs.getD (2 * k) 0).toNat * 256 = (xs.getD (2 * k) 0).toNat * 2 ^ 8 by rfl, shl_or h2]
theorem pw_lone {xs : List UInt8} {k : Nat} (h : 2 * k < xs.length) (h1 : ¬ 2 * k + 1 < xs.length) : (xs.getD (2 * k) 0).toNat * 256 % 65536 = (pw xs).getD k 0 := by
  have h2 := UInt8.toNat_lt (xs.getD (2 * k) 0)
  rw [pw_get0 xs k (by omega), Nat.mod_eq_of_lt (by omega)]
theorem told_stop {n k : Nat} {most : Int} (h : k = 0 ∨ ((k : Nat) : Int) < most) (h1 : ¬ ((k + 1 : Nat) : Int) < most) (h2 : k + 1 ≤ n) : told n most = k + 1 := by
  unfold told; rw [if_neg (by omega)]; omega
theorem told_all {n : Nat} {most : Int} (h : n = 0 ∨ ((n : Nat) : Int) < most) : told n most = n := by
  unfold told; split <;> omega
theorem piter_c (xs : List UInt8) (a : Option Addr) (cap : Nat) (g : FS) (most : Int) (p1 p6 p5 p3 : Nat) (M : List Nat) (w : World) (hl : Mem w M [[cb p6 [.bool true] 4], [cb p5 [.slice g.a 0 g.cap] 24], [cb p3 [.int .i64 most] 3], g.seg 27 (mc n16 []), [cb p1 [.slice a xs.length cap] 22]] w) (hat : At w a (byc xs)) (hne : 0 < (byc xs).length → (a.getD default).block ∉ M) (ok : g.ok 1 0) (hy : xs.length ≤ 1000000000) : Calls Try.prog 41 #[Value.func (.func 35) #[] #[Value.pointer (some ⟨p6, 0, none⟩), Value.pointer (some ⟨p5, 0, none⟩), Value.pointer (some ⟨p3, 0, none⟩)], Value.pointer (some ⟨p1, 0, none⟩)] w (RetM w (fun g : FS => g.ok 1 (told (pw xs).length most)) (fun _ => .tuple #[]) M (fun g => [[cb p6 [.bool true] 4], [cb p5 [.slice g.a (told (pw xs).length most) g.cap] 24], [cb p3 [.int .i64 most] 3], g.seg 27 (mc n16 ((pw xs).take (told (pw xs).length most))), [cb p1 [.slice a xs.length cap] 22]])) := by
  refine calls_W (M := M) (LL := [[cb p6 [Value.bool true] 4], [cb p5 [Value.slice g.a 0 g.cap] 24], [cb p3 [Value.int .i64 most] 3], g.seg 27 (mc n16 []), [cb p1 [Value.slice a xs.length cap] 22]]) (n := 36) Try.func41 rfl rfl (by simp) (hl) ?_
  refine W.seq (fun K1 hK1 => ?_)
  refine W.region ?_
  refine Wl.run 1 (by kernel_rfl) ?_
  refine Wl.nil ?_
  refine hK1 _ _ _ ?_
  refine W.block ?_
  refine W.loop2 [0, 1, 3] (fun (k : Nat) (h : FS) => [Value.func (.func 35) #[] #[Value.pointer (some ⟨p6, 0, none⟩), Value.pointer (some ⟨p5, 0, none⟩), Value.pointer (some ⟨p3, 0, none⟩)], Value.pointer (some ⟨p1, 0, none⟩), Value.int .i64 ((2 * k : Nat) : Int)]) (fun (k : Nat) (h : FS) => k ≤ (pw xs).length ∧ (k = 0 ∨ ((k : Nat) : Int) < most) ∧ h.ok 1 k) (fun (k : Nat) (h : FS) => [[cb p6 [Value.bool true] 4], [cb p5 [Value.slice h.a k h.cap] 24], [cb p3 [Value.int .i64 most] 3], h.seg 27 (mc n16 ((pw xs).take k)), [cb p1 [Value.slice a xs.length cap] 22]]) (fun (k : Nat) (h : FS) => (pw xs).length - k) 0 g (Eq.trans (b := ([Value.func (.func 35) #[] #[Value.pointer (some ⟨p6, 0, none⟩), Value.pointer (some ⟨p5, 0, none⟩), Value.pointer (some ⟨p3, 0, none⟩)], Value.pointer (some ⟨p1, 0, none⟩), Value.int .i64 0] : List Value)) (by kernel_rfl) (by simp)) ⟨(Nat.zero_le _), (.inl rfl), ok⟩ (by simp [mc]) (fun k h f3 J2 hp4 hJ2 => ?_)
  obtain ⟨hk, hm, okh⟩ := hp4
  have hpl := pw_len xs
  refine W.seq (fun K5 hK5 => ?_)
  refine W.seq (fun K6 hK6 => ?_)
  refine W.region ?_
  refine Wl.run 1 (by kernel_rfl) ?_
  refine Wl.ys (v := Value.slice a xs.length cap) rfl rfl (Ys.load (b := p1) (o' := 0) (i := 4) (j := 0) (cs := [Value.slice a xs.length cap]) (v := Value.slice a xs.length cap) rfl (by kernel_rfl) Try.isAgg22 rfl rfl rfl) ?_
  refine Wl.run 2 (by kernel_rfl) ?_
  refine Wl.nil ?_
  refine hK6 _ _ _ ?_
  refine W.prune' [0, 1, 3, 8] [Value.func (.func 35) #[] #[Value.pointer (some ⟨p6, 0, none⟩), Value.pointer (some ⟨p5, 0, none⟩), Value.pointer (some ⟨p3, 0, none⟩)], Value.pointer (some ⟨p1, 0, none⟩), Value.int .i64 ((2 * k : Nat) : Int), Value.bool (decide (((2 * k : Nat) : Int) < ((xs.length : Nat) : Int)))] (by kernel_rfl) (fun f7 => ?_)
  refine W.cond (decide (((2 * k : Nat) : Int) < ((xs.length : Nat) : Int))) (by kernel_rfl) (fun h8 => ?_) (fun h9 => ?_)
  · have qh8 := h8; try simp only [Bool.and_eq_true, Bool.or_eq_true, Bool.not_eq_true', Bool.not_eq_false', Bool.and_eq_false_iff, Bool.or_eq_false_iff, decide_eq_true_eq, decide_eq_false_iff_not, beq_iff_eq, bne_iff_ne, beq_eq_false_iff_ne, bne_eq_false_iff_eq] at qh8
    refine W.skip' ?_
    refine hK5 _ _ _ ?_
    refine W.prune' [0, 1, 3] [Value.func (.func 35) #[] #[Value.pointer (some ⟨p6, 0, none⟩), Value.pointer (some ⟨p5, 0, none⟩), Value.pointer (some ⟨p3, 0, none⟩)], Value.pointer (some ⟨p1, 0, none⟩), Value.int .i64 ((2 * k : Nat) : Int)] (by kernel_rfl) (fun f10 => ?_)
    refine W.seq (fun K11 hK11 => ?_)
    refine W.block ?_
    refine W.seq (fun K12 hK12 => ?_)
    refine W.region ?_
    refine Wl.ys (v := Value.slice a xs.length cap) rfl rfl (Ys.load (b := p1) (o' := 0) (i := 4) (j := 0) (cs := [Value.slice a xs.length cap]) (v := Value.slice a xs.length cap) rfl (by kernel_rfl) Try.isAgg22 rfl rfl rfl) ?_
    refine Wl.run 1 (by kernel_rfl) ?_
    refine Wl.ys (v := Value.pointer (some (ela a ((2 * k) * 1)))) rfl rfl (Ys.byMem fun w_ h_ => Ys.indexAddr (k := .i64) (a := a) (len := xs.length) (cap := cap) (i := ((2 * k : Nat) : Int)) (sz := 1) rfl (by kernel_rfl) (by kernel_rfl) Try.runUnderlying22 Try.sizeOf5 (by omega) (by omega) ((hat.mem' h_ hne).here (by rw [mc_len]; first | omega | (simp; omega)))) ?_
    refine Wl.ys (v := Value.int .u8 (((xs.getD (2 * k) 0).toNat : Nat) : Int)) rfl rfl (Ys.ld (a := ela a ((2 * k) * 1)) rfl (by kernel_rfl) Try.isAgg5 (fun w_ h_ => (hat.mem' h_ hne).ld (mc_get1 0 (by first | omega | (simp; omega))))) ?_
    have hb13 : (xs.getD (2 * k) 0).toNat < 256 := UInt8.toNat_lt _
    refine Wl.ys (v := Value.int .u16 (((xs.getD (2 * k) 0).toNat : Nat) : Int)) rfl rfl ((Ys.pure (v := .int .u16 (icnv .u16 (((xs.getD (2 * k) 0).toNat : Nat) : Int))) (fun _ => by kernel_rfl)).conseq (int_congr (wrap_u16 (by omega) (by omega)))) ?_
    refine Wl.ys (v := Value.int .u16 (((((xs.getD (2 * k) 0).toNat) * 256) % 65536 : Nat) : Int)) rfl rfl ((Ys.pure (v := .int .u16 (ishl .u16 (((xs.getD (2 * k) 0).toNat : Nat) : Int) ((8 : Nat) : Int))) (fun _ => by kernel_rfl)).conseq (int_congr (ishl_mod rfl ((xs.getD (2 * k) 0).toNat) 8 (by decide)))) ?_
    refine Wl.run 1 (by kernel_rfl) ?_
    refine Wl.nil ?_
    refine hK12 _ _ _ ?_
    refine W.prune' [0, 1, 3, 4] [Value.func (.func 35) #[] #[Value.pointer (some ⟨p6, 0, none⟩), Value.pointer (some ⟨p5, 0, none⟩), Value.pointer (some ⟨p3, 0, none⟩)], Value.pointer (some ⟨p1, 0, none⟩), Value.int .i64 ((2 * k : Nat) : Int), Value.int .u16 (((((xs.getD (2 * k) 0).toNat) * 256) % 65536 : Nat) : Int)] (by kernel_rfl) (fun f14 => ?_)
    refine W.seq (fun K15 hK15 => ?_)
    refine W.meet0 (w0 := w) (M := M) K15 [0, 1, 3, 4] ([Value.func (.func 35) #[] #[Value.pointer (some ⟨p6, 0, none⟩), Value.pointer (some ⟨p5, 0, none⟩), Value.pointer (some ⟨p3, 0, none⟩)], Value.pointer (some ⟨p1, 0, none⟩), Value.int .i64 ((2 * k : Nat) : Int), Value.int .u16 (((pw xs).getD k 0 : Nat) : Int)]) (True) ([[cb p6 [Value.bool true] 4], [cb p5 [Value.slice h.a k h.cap] 24], [cb p3 [Value.int .i64 most] 3], h.seg 27 (mc n16 ((pw xs).take k)), [cb p1 [Value.slice a xs.length cap] 22]]) (fun J16 hJ16 => ?_) (fun  f17 hp18 => ?_)
    · refine W.seq (fun K19 hK19 => ?_)
      refine W.region ?_
      refine Wl.run 1 (by kernel_rfl) ?_
      refine Wl.ys (v := Value.int .i64 (((2 * k) + 1 : Nat) : Int)) rfl rfl ((Ys.pure (v := .int .i64 (iadd .i64 ((2 * k : Nat) : Int) 1)) (fun _ => by kernel_rfl)).conseq (int_congr (iadd_eq (by omega) (by omega) (by omega)))) ?_
      refine Wl.ys (v := Value.slice a xs.length cap) rfl rfl (Ys.load (b := p1) (o' := 0) (i := 4) (j := 0) (cs := [Value.slice a xs.length cap]) (v := Value.slice a xs.length cap) rfl (by kernel_rfl) Try.isAgg22 rfl rfl rfl) ?_
      refine Wl.run 2 (by kernel_rfl) ?_
      refine Wl.nil ?_
      refine hK19 _ _ _ ?_
      refine W.prune' [0, 1, 3, 4, 21] [Value.func (.func 35) #[] #[Value.pointer (some ⟨p6, 0, none⟩), Value.pointer (some ⟨p5, 0, none⟩), Value.pointer (some ⟨p3, 0, none⟩)], Value.pointer (some ⟨p1, 0, none⟩), Value.int .i64 ((2 * k : Nat) : Int), Value.int .u16 (((((xs.getD (2 * k) 0).toNat) * 256) % 65536 : Nat) : Int), Value.bool (decide ((((2 * k) + 1 : Nat) : Int) < ((xs.length : Nat) : Int)))] (by kernel_rfl) (fun f20 => ?_)
      refine W.cond (decide ((((2 * k) + 1 : Nat) : Int) < ((xs.length : Nat) : Int))) (by kernel_rfl) (fun h21 => ?_) (fun h22 => ?_)
      · have qh21 := h21; try simp only [Bool.and_eq_true, Bool.or_eq_true, Bool.not_eq_true', Bool.not_eq_false', Bool.and_eq_false_iff, Bool.or_eq_false_iff, decide_eq_true_eq, decide_eq_false_iff_not, beq_iff_eq, bne_iff_ne, beq_eq_false_iff_ne, bne_eq_false_iff_eq] at qh21
        refine W.region ?_
        refine Wl.run 1 (by kernel_rfl) ?_
        refine Wl.ys (v := Value.slice a xs.length cap) rfl rfl (Ys.load (b := p1) (o' := 0) (i := 4) (j := 0) (cs := [Value.slice a xs.length cap]) (v := Value.slice a xs.length cap) rfl (by kernel_rfl) Try.isAgg22 rfl rfl rfl) ?_
        refine Wl.run 1 (by kernel_rfl) ?_
        refine Wl.ys (v := Value.int .i64 (((2 * k) + 1 : Nat) : Int)) rfl rfl ((Ys.pure (v := .int .i64 (iadd .i64 ((2 * k : Nat) : Int) 1)) (fun _ => by kernel_rfl)).conseq (int_congr (iadd_eq (by omega) (by omega) (by omega)))) ?_
        refine Wl.ys (v := Value.pointer (some (ela a (((2 * k) + 1) * 1)))) rfl rfl (Ys.byMem fun w_ h_ => Ys.indexAddr (k := .i64) (a := a) (len := xs.length) (cap := cap) (i := (((2 * k) + 1 : Nat) : Int)) (sz := 1) rfl (by kernel_rfl) (by kernel_rfl) Try.runUnderlying22 Try.sizeOf5 (by omega) (by omega) ((hat.mem' h_ hne).here (by rw [mc_len]; first | omega | (simp; omega)))) ?_
        refine Wl.ys (v := Value.int .u8 (((xs.getD ((2 * k) + 1) 0).toNat : Nat) : Int)) rfl rfl (Ys.ld (a := ela a (((2 * k) + 1) * 1)) rfl (by kernel_rfl) Try.isAgg5 (fun w_ h_ => (hat.mem' h_ hne).ld (mc_get1 0 (by first | omega | (simp; omega))))) ?_
        have hb23 : (xs.getD ((2 * k) + 1) 0).toNat < 256 := UInt8.toNat_lt _
        refine Wl.ys (v := Value.int .u16 (((xs.getD ((2 * k) + 1) 0).toNat : Nat) : Int)) rfl rfl ((Ys.pure (v := .int .u16 (icnv .u16 (((xs.getD ((2 * k) + 1) 0).toNat : Nat) : Int))) (fun _ => by kernel_rfl)).conseq (int_congr (wrap_u16 (by omega) (by omega)))) ?_
        refine Wl.ys (v := Value.int .u16 ((((((xs.getD (2 * k) 0).toNat) * 256) % 65536) ||| ((xs.getD ((2 * k) + 1) 0).toNat) : Nat) : Int)) rfl rfl ((Ys.pure (v := .int .u16 (bor .u16 (((((xs.getD (2 * k) 0).toNat) * 256) % 65536 : Nat) : Int) (((xs.getD ((2 * k) + 1) 0).toNat : Nat) : Int))) (fun _ => by kernel_rfl)).conseq (int_congr (bor_nat rfl (by show _ < 65536; omega) (by show _ < 65536; omega)))) ?_
        refine Wl.run 1 (by kernel_rfl) ?_
        refine Wl.nil ?_
        refine fun w_ h_ => hJ16 _ w_ trivial ?_ h_
        refine Eq.trans (b := ([Value.func (.func 35) #[] #[Value.pointer (some ⟨p6, 0, none⟩), Value.pointer (some ⟨p5, 0, none⟩), Value.pointer (some ⟨p3, 0, none⟩)], Value.pointer (some ⟨p1, 0, none⟩), Value.int .i64 ((2 * k : Nat) : Int), Value.int .u16 ((((((xs.getD (2 * k) 0).toNat) * 256) % 65536) ||| ((xs.getD ((2 * k) + 1) 0).toNat) : Nat) : Int)] : List Value)) (by kernel_rfl) (by rw [pw_or (by omega)])
      · have qh22 := h22; try simp only [Bool.and_eq_true, Bool.or_eq_true, Bool.not_eq_true', Bool.not_eq_false', Bool.and_eq_false_iff, Bool.or_eq_false_iff, decide_eq_true_eq, decide_eq_false_iff_not, beq_iff_eq, bne_iff_ne, beq_eq_false_iff_ne, bne_eq_false_iff_eq] at qh22
        refine W.skip' ?_
        refine fun w_ h_ => hJ16 _ w_ trivial ?_ h_
        refine Eq.trans (b := ([Value.func (.func 35) #[] #[Value.pointer (some ⟨p6, 0, none⟩), Value.pointer (some ⟨p5, 0, none⟩), Value.pointer (some ⟨p3, 0, none⟩)], Value.pointer (some ⟨p1, 0, none⟩), Value.int .i64 ((2 * k : Nat) : Int), Value.int .u16 (((((xs.getD (2 * k) 0).toNat) * 256) % 65536 : Nat) : Int)] : List Value)) (by kernel_rfl) (by rw [pw_lone (by omega) (by omega)])
    · refine hK15 _ _ _ ?_
      refine W.seq (fun K24 hK24 => ?_)
      refine W.region ?_
      refine Wl.run 2 (by kernel_rfl) ?_
      refine Wl.ys (v := Value.int .i64 (((2 * k) / 2 : Nat) : Int)) rfl rfl ((Ys.pure (v := .int .i64 (iquo .i64 ((2 * k : Nat) : Int) 2)) (fun _ => by kernel_rfl)).conseq (int_congr (iquo_nat (by omega)))) ?_
      refine Wl.run 1 (by kernel_rfl) ?_
      refine Wl.ht rfl (Ht.call (β := FS) (k := 35) (args := #[Value.int .i64 (((2 * k) / 2 : Nat) : Int), Value.int .u16 (((pw xs).getD k 0 : Nat) : Int), Value.pointer (some ⟨p6, 0, none⟩), Value.pointer (some ⟨p5, 0, none⟩), Value.pointer (some ⟨p3, 0, none⟩)]) (Lin := [[cb p6 [Value.bool true] 4], [cb p5 [Value.slice h.a k h.cap] 24], [cb p3 [Value.int .i64 most] 3], h.seg 27 (mc n16 ((pw xs).take k))]) (Lk := [[cb p1 [Value.slice a xs.length cap] 22]]) (Lo := fun g25 => [[cb p6 [Value.bool (true && ((((2 * k) / 2 : Nat) : Int) == ((k : Nat) : Int)))] 4], [cb p5 [Value.slice g25.a (k + 1) g25.cap] 24], [cb p3 [Value.int .i64 most] 3], g25.seg 27 (mc n16 (((pw xs).take k) ++ [(pw xs).getD k 0])), [cb p1 [Value.slice a xs.length cap] 22]]) [0, 1, 2, 3] [4] rfl (fun _ => by kernel_rfl) (by decide) rfl rfl rfl (fun w_ hm_ hl_ => (yieldn_c ((pw xs).take k) h true most (((2 * k) / 2 : Nat) : Int) ((pw xs).getD k 0) p6 p5 p3 _ k _ (by first | rfl | (simp; done) | (simp; omega)) hl_ okh (by omega) ())) (fun _ => rfl)) (fun x27 => ?_)
      obtain ⟨g25, ok26⟩ := x27
      refine Wl.castL (LL' := [[cb p6 [Value.bool (true && ((((2 * k) / 2 : Nat) : Int) == ((k : Nat) : Int)))] 4], [cb p5 [Value.slice g25.a (k + 1) g25.cap] 24], [cb p3 [Value.int .i64 most] 3], g25.seg 27 (mc n16 (((pw xs).take k) ++ [(pw xs).getD k 0])), [cb p1 [Value.slice a xs.length cap] 22]]) rfl ?_
      refine Wl.run 1 (by kernel_rfl) ?_
      refine Wl.nil ?_
      refine hK24 _ _ _ ?_
      refine W.prune' [0, 1, 3, 35] [Value.func (.func 35) #[] #[Value.pointer (some ⟨p6, 0, none⟩), Value.pointer (some ⟨p5, 0, none⟩), Value.pointer (some ⟨p3, 0, none⟩)], Value.pointer (some ⟨p1, 0, none⟩), Value.int .i64 ((2 * k : Nat) : Int), Value.bool (!(decide (((k + 1 : Nat) : Int) < most)))] (by kernel_rfl) (fun f28 => ?_)
      refine W.cond (!(decide (((k + 1 : Nat) : Int) < most))) (by kernel_rfl) (fun h29 => ?_) (fun h30 => ?_)
      · have qh29 := h29; try simp only [Bool.and_eq_true, Bool.or_eq_true, Bool.not_eq_true', Bool.not_eq_false', Bool.and_eq_false_iff, Bool.or_eq_false_iff, decide_eq_true_eq, decide_eq_false_iff_not, beq_iff_eq, bne_iff_ne, beq_eq_false_iff_ne, bne_eq_false_iff_eq] at qh29
        refine W.ret ?_
        show ∀ w_, _ → bodyPostM (fence none) 0 Try.prog Try.f41 _ Exit.ret _ w_
        exact fun w_ hS_ => fin_ret (ret0 rfl  ⟨g25, (by have ht : told (pw xs).length most = k + 1 := (told_stop hm (by have hq := qh29; simpa using hq) (by omega)); try dsimp only; (rw [ht]; exact ok26)), rfl, (Mem.cast (by have ht : told (pw xs).length most = k + 1 := (told_stop hm (by have hq := qh29; simpa using hq) (by omega)); try dsimp only; (rw [ht, pw_step (k := k) (by omega)]; simp [mc])) (hS_.pick (LL' := [[cb p6 [Value.bool (true && ((((2 * k) / 2 : Nat) : Int) == ((k : Nat) : Int)))] 4], [cb p5 [Value.slice g25.a (k + 1) g25.cap] 24], [cb p3 [Value.int .i64 most] 3], g25.seg 27 (mc n16 (((pw xs).take k) ++ [(pw xs).getD k 0])), [cb p1 [Value.slice a xs.length cap] 22]]) [0, 1, 2, 3, 4] (by decide) rfl))⟩)
      · have qh30 := h30; try simp only [Bool.and_eq_true, Bool.or_eq_true, Bool.not_eq_true', Bool.not_eq_false', Bool.and_eq_false_iff, Bool.or_eq_false_iff, decide_eq_true_eq, decide_eq_false_iff_not, beq_iff_eq, bne_iff_ne, beq_eq_false_iff_ne, bne_eq_false_iff_eq] at qh30
        refine W.skip' ?_
        refine hK11 _ _ _ ?_
        refine W.prune' [0, 1, 3] [Value.func (.func 35) #[] #[Value.pointer (some ⟨p6, 0, none⟩), Value.pointer (some ⟨p5, 0, none⟩), Value.pointer (some ⟨p3, 0, none⟩)], Value.pointer (some ⟨p1, 0, none⟩), Value.int .i64 ((2 * k : Nat) : Int)] (by kernel_rfl) (fun f31 => ?_)
        refine W.region ?_
        refine Wl.run 1 (by kernel_rfl) ?_
        refine Wl.ys (v := Value.int .i64 (((2 * k) + 2 : Nat) : Int)) rfl rfl ((Ys.pure (v := .int .i64 (iadd .i64 ((2 * k : Nat) : Int) 2)) (fun _ => by kernel_rfl)).conseq (int_congr (iadd_eq (by omega) (by omega) (by omega)))) ?_
        refine Wl.run 1 (by kernel_rfl) ?_
        refine Wl.nil ?_
        refine fun w_ h_ => hJ2 (k + 1) g25 _ w_ (by omega) ⟨(by omega), (.inr (by simpa using qh30)), ok26⟩ ?_ (Mem.cast (LL := [[cb p6 [Value.bool (true && ((((2 * k) / 2 : Nat) : Int) == ((k : Nat) : Int)))] 4], [cb p5 [Value.slice g25.a (k + 1) g25.cap] 24], [cb p3 [Value.int .i64 most] 3], g25.seg 27 (mc n16 (((pw xs).take k) ++ [(pw xs).getD k 0])), [cb p1 [Value.slice a xs.length cap] 22]]) (by rw [pw_step (by omega)]; simp) h_)
        refine Eq.trans (b := ([Value.func (.func 35) #[] #[Value.pointer (some ⟨p6, 0, none⟩), Value.pointer (some ⟨p5, 0, none⟩), Value.pointer (some ⟨p3, 0, none⟩)], Value.pointer (some ⟨p1, 0, none⟩), Value.int .i64 (((2 * k) + 2 : Nat) : Int)] : List Value)) (by kernel_rfl) (by simp; try omega)
  · have qh9 := h9; try simp only [Bool.and_eq_true, Bool.or_eq_true, Bool.not_eq_true', Bool.not_eq_false', Bool.and_eq_false_iff, Bool.or_eq_false_iff, decide_eq_true_eq, decide_eq_false_iff_not, beq_iff_eq, bne_iff_ne, beq_eq_false_iff_ne, bne_eq_false_iff_eq] at qh9
    refine W.exit ?_
    show ∀ w_, _ → bodyPostM (fence none) 0 Try.prog Try.f41 _ Exit.normal _ w_
    exact fun w_ hS_ => fin_normal (ret0 rfl  ⟨h, (by have ht : told (pw xs).length most = k := (by rw [told_all (by rw [show (pw xs).length = k by omega]; exact hm)]; omega); try dsimp only; (rw [ht]; exact okh)), rfl, (Mem.cast (by have ht : told (pw xs).length most = k := (by rw [told_all (by rw [show (pw xs).length = k by omega]; exact hm)]; omega); simp only [ht]) (hS_.pick (LL' := [[cb p6 [Value.bool true] 4], [cb p5 [Value.slice h.a k h.cap] 24], [cb p3 [Value.int .i64 most] 3], h.seg 27 (mc n16 ((pw xs).take k)), [cb p1 [Value.slice a xs.length cap] 22]]) [0, 1, 2, 3, 4] (by decide) rfl))⟩)

end Go.Proofs.Ytegeijaicjackaa.Oct
