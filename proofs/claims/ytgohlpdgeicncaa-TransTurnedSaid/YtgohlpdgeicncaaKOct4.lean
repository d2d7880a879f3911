import Derived.Test.YtgohlpdgeicncaaKOct3
set_option linter.unusedVariables false
set_option linter.unusedSimpArgs false
set_option maxRecDepth 20000
namespace Go.Proofs.Ytgohlpdgeicncaa.Oct
open Go.RowKit Base
attribute [local irreducible] Ys Yc Ht HtS HtIn Wl Wd W Mem pf dpf
def pw : List UInt8 → List Nat
  | [] => []
  | [x] => [x.toNat * 256]
  | x :: y :: l => (x.toNat * 256 + y.toNat) :: pw l
theorem pw_len : ∀ xs : List UInt8, (pw xs).length = (xs.length + 1) / 2
  | [] => rfl
  | [x] => by simp [pw]
  | x :: y :: l => by simp only [pw, List.length_cons, pw_len l]; omega
theorem pw_get1 : ∀ (xs : List UInt8) (k : Nat), 2 * k + 1 < xs.length → (pw xs).getD k 0 = (xs.getD (2 * k) 0).toNat * 256 + (xs.getD (2 * k + 1) 0).toNat
  | [], k, h => by simp at h
  | [_], k, h => by simp at h
  | x :: y :: l, 0, h => by simp [pw]
  | x :: y :: l, k + 1, h => by
    have := pw_get1 l k (by simp at h; omega)
    simp only [pw, List.getD_cons_succ, this, show 2 * (k + 1) = 2 * k + 1 + 1 by omega, show 2 * k + 1 + 1 + 1 = 2 * k + 1 + 1 + 1 by rfl]
theorem pw_get0 : ∀ (xs : List UInt8) (k : Nat), 2 * k + 1 = xs.length → (pw xs).getD k 0 = (xs.getD (2 * k) 0).toNat * 256
  | [], k, h => by simp at h
  | [x], k, h => by
    obtain rfl : k = 0 := by simp at h; omega
    simp [pw]
  | x :: y :: l, 0, h => by simp at h
  | x :: y :: l, k + 1, h => by
    have := pw_get0 l k (by simp at h; omega)
    simp only [pw, List.getD_cons_succ, this, show 2 * (k + 1) = 2 * k + 1 + 1 by omega]
theorem pw_lt (xs : List UInt8) (k : Nat) : (pw xs).getD k 0 < 65536 := by
  by_cases h : k < (pw xs).length
  · have hl := pw_len xs
    rcases Nat.lt_or_ge (2 * k + 1) xs.length with h1 | h1
    · rw [pw_get1 xs k h1]
      have := UInt8.toNat_lt (xs.getD (2 * k) 0); have := UInt8.toNat_lt (xs.getD (2 * k + 1) 0); omega
    · rw [pw_get0 xs k ma1]
      have := UInt8.toNat_lt (xs.getD (2 * k) 0); omega
  · rw [List.getD_eq_getElem?_getD, List.getElem?_eq_none ma1]; decide
theorem pairs_mk (a : Option Addr) (len cap : Nat) (w : World) : Calls Try.prog 66 #[Value.slice a len cap] w (RetM w (fun _ : Nat => True) (fun b => .func (.func 77) #[] #[.pointer (some ⟨b, 0, none⟩)]) [] (fun b => [[cb b [.slice a len cap] 26]])) := by
 refine calls_W (M := []) (LL := []) (n := 4) Try.func66 rfl rfl ma6 (Mem.refl _) (W.seq (fun K1 hK1 => ?_))
 refine W.region (Wl.ht rfl (Ht.box (v := Value.slice a len cap) (cs := [Value.slice a len cap]) rfl rfl ma0 rfl) (fun p1 => ?_))
 refine Wl.run 1 ma0 (Wl.nil (hK1 _ _ _ (W.prune' [1] [pV p1 0] ma0 (fun f2 => W.seq (fun K3 hK3 => ?_)))))
 refine W.region (Wl.run 2 ma0 (Wl.nil (hK3 _ _ _ (W.prune' [2] [Value.func (.func 77) #[] #[pV p1 0]] ma0 (fun f4 => ?_)))))
 refine W.ret ?_
 show ∀ w_, _ → bodyPostM (fence none) 0 Try.prog Try.f66 _ Exit.ret _ w_
 exact fun w_ hS_ => fin_ret (ret1 rfl (RV.tmp (v := Value.func (.func 77) #[] #[pV p1 0]) ma0) hS_ ⟨p1, trivial, rfl, hS_⟩)
theorem pw_or {xs : List UInt8} {k : Nat} (h : 2 * k + 1 < xs.length) : (xs.getD (2 * k) 0).toNat * 256 % 65536 ||| (xs.getD (2 * k + 1) 0).toNat = (pw xs).getD k 0 := by
  have h1 := UInt8.toNat_lt (xs.getD (2 * k) 0); have h2 := UInt8.toNat_lt (xs.getD (2 * k + 1) 0)
  rw [pw_get1 xs k h, Nat.mod_eq_of_lt ma1, show (xs.getD (2 * k) 0).toNat * 256 = (xs.getD (2 * k) 0).toNat * 2 ^ 8 by rfl, shl_or h2]
theorem pw_lone {xs : List UInt8} {k : Nat} (h : 2 * k < xs.length) (h1 : ¬ 2 * k + 1 < xs.length) : (xs.getD (2 * k) 0).toNat * 256 % 65536 = (pw xs).getD k 0 := by
  have h2 := UInt8.toNat_lt (xs.getD (2 * k) 0)
  rw [pw_get0 xs k ma1, Nat.mod_eq_of_lt ma1]
end Go.Proofs.Ytgohlpdgeicncaa.Oct
