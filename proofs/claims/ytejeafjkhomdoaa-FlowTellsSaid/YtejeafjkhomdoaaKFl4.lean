import Derived.Test.YtejeafjkhomdoaaKFl2
set_option linter.unusedVariables false
set_option linter.unusedSimpArgs false
set_option maxRecDepth 20000
namespace Go.Proofs.Ytejeafjkhomdoaa.Oct
open Go.RowKit Base
attribute [local irreducible] Ys Yc Ht HtIn Wl Wd W Mem pf dpf Wa Wo
theorem rword_c (xs : List UInt8) (a : Option Addr) (cap k : Nat) (w : World) (hat : At w a (byc xs)) (hk : k + 1 < xs.length) (hl : xs.length ≤ 1000000) (hlc : xs.length ≤ cap) : Calls Try.prog 56 #[Value.slice a xs.length cap, Value.int .i64 ((k : Nat) : Int)] w (Ret w (.int .u16 ((w2 xs k : Nat) : Int))) := by
  refine calls_W (M := []) (LL := []) (n := 18) Try.func56 rfl rfl (by simp) (Mem.refl _) ?_
  refine W.seq (fun K1 hK1 => ?_)
  refine W.region ?_
  refine Wl.run 1 (by kernel_rfl) ?_
  refine Wl.nil ?_
  refine hK1 _ _ _ ?_
  refine W.seq (fun K2 hK2 => ?_)
  refine W.draws [(0, true), (1, true), (2, true), (3, true), (4, true), (5, true), (6, true), (7, false), (8, false), (9, false), (10, false), (11, false), (12, false), (13, false)] [0, 1, 2, 3, 4, 5, 6] (Mem w [] []) (by kernel_rfl) (by kernel_rfl) (by kernel_rfl) rfl (by kernel_rfl) (fun _ _ h_ => h_.drawn _) (fun _ h_ => h_) ?_
  refine Wd.run 2 (by kernel_rfl) ?_
  refine Wd.ys (v := Value.pointer (some (ela a (k * 1)))) rfl rfl rfl (Ys.byMem fun w_ h_ => Ys.indexAddr (k := .i64) (a := a) (len := xs.length) (cap := cap) (i := ((k : Nat) : Int)) (sz := 1) rfl (by kernel_rfl) (by kernel_rfl) Try.runUnderlying25 Try.sizeOf5 (by omega) (by omega) ((hat.mem0 h_).here (by rw [mc_len]; first | omega | (simp; omega)))) ?_
  refine Wd.ys (v := Value.int .u8 (((xs.getD k 0).toNat : Nat) : Int)) rfl rfl rfl (Ys.ld (a := ela a (k * 1)) rfl (by kernel_rfl) Try.isAgg5 (fun w_ h_ => (hat.mem0 h_).ld (mc_get1 0 (by first | omega | (simp; omega))))) ?_
  have hb3 : (xs.getD k 0).toNat < 256 := UInt8.toNat_lt _
  refine Wd.ys (v := Value.int .u16 (((xs.getD k 0).toNat : Nat) : Int)) rfl rfl rfl ((Ys.pure (v := .int .u16 (icnv .u16 (((xs.getD k 0).toNat : Nat) : Int))) (fun _ => by kernel_rfl)).conseq (int_congr (wrap_u16 (by omega) (by omega)))) ?_
  refine Wd.ys (v := Value.int .u16 ((256 * ((xs.getD k 0).toNat) : Nat) : Int)) rfl rfl rfl ((Ys.pure (v := .int .u16 (imul .u16 ((256 : Nat) : Int) (((xs.getD k 0).toNat : Nat) : Int))) (fun _ => by kernel_rfl)).conseq (int_congr (imul_natu rfl (by show _ < 65536; omega)))) ?_
  refine Wd.run 1 (by kernel_rfl) ?_
  refine Wd.yc (v := Value.int .i64 ((k : Nat) : Int)) rfl rfl rfl (Ys.yc (Ys.pure (fun _ => by kernel_rfl))) (.inr fun _ h_ => h_) ?_
  refine Wd.yc (v := Value.int .i64 ((k + 1 : Nat) : Int)) rfl rfl rfl (Ys.yc ((Ys.pure (v := .int .i64 (iadd .i64 ((k : Nat) : Int) 1)) (fun _ => by kernel_rfl)).conseq (int_congr (iadd_eq (by omega) (by omega) (by omega))))) (.inr fun _ h_ => h_) ?_
  refine Wd.yc (v := Value.pointer (some (ela a ((k + 1) * 1)))) rfl rfl rfl (Ys.yc (Ys.byMem fun w_ h_ => Ys.indexAddr (k := .i64) (a := a) (len := xs.length) (cap := cap) (i := ((k + 1 : Nat) : Int)) (sz := 1) rfl (by kernel_rfl) (by kernel_rfl) Try.runUnderlying25 Try.sizeOf5 (by omega) (by omega) ((hat.mem0 h_).here (by rw [mc_len]; first | omega | (simp; omega))))) (.inr fun _ h_ => h_) ?_
  refine Wd.yc (v := Value.int .u8 (((xs.getD (k + 1) 0).toNat : Nat) : Int)) rfl rfl rfl (Ys.yc (Ys.ld (a := ela a ((k + 1) * 1)) rfl (by kernel_rfl) Try.isAgg5 (fun w_ h_ => (hat.mem0 h_).ld (mc_get1 0 (by first | omega | (simp; omega)))))) (.inr fun _ h_ => h_) ?_
  have hb4 : (xs.getD (k + 1) 0).toNat < 256 := UInt8.toNat_lt _
  refine Wd.yc (v := Value.int .u16 (((xs.getD (k + 1) 0).toNat : Nat) : Int)) rfl rfl rfl (Ys.yc ((Ys.pure (v := .int .u16 (icnv .u16 (((xs.getD (k + 1) 0).toNat : Nat) : Int))) (fun _ => by kernel_rfl)).conseq (int_congr (wrap_u16 (by omega) (by omega))))) (.inr fun _ h_ => h_) ?_
  refine Wd.yc (v := Value.int .u16 (((256 * ((xs.getD k 0).toNat)) + ((xs.getD (k + 1) 0).toNat) : Nat) : Int)) rfl rfl rfl (Ys.yc ((Ys.pure (v := .int .u16 (iadd .u16 ((256 * ((xs.getD k 0).toNat) : Nat) : Int) (((xs.getD (k + 1) 0).toNat : Nat) : Int))) (fun _ => by kernel_rfl)).conseq (int_congr (iadd_natu rfl (by show _ < 65536; omega))))) (.inr fun _ h_ => h_) ?_
  refine Wd.yc (v := Value.int .u16 (((256 * ((xs.getD k 0).toNat)) + ((xs.getD (k + 1) 0).toNat) : Nat) : Int)) rfl rfl rfl (Ys.yc (Ys.pure (fun _ => by kernel_rfl))) (.inl (by kernel_rfl)) ?_
  refine Wd.nil ?_
  refine hK2 _ _ _ ?_
  refine W.prune' [4] [Value.int .u16 (((256 * ((xs.getD k 0).toNat)) + ((xs.getD (k + 1) 0).toNat) : Nat) : Int)] (by kernel_rfl) (fun f5 => ?_)
  refine W.ret ?_
  show ∀ w_, _ → bodyPostM (fence none) 0 Try.prog Try.f56 _ Exit.ret _ w_
  exact fun w_ hS_ => fin_ret (ret1 rfl (RV.tmp (v := Value.int .u16 (((256 * ((xs.getD k 0).toNat)) + ((xs.getD (k + 1) 0).toNat) : Nat) : Int)) (by kernel_rfl)) hS_ ⟨rfl, hS_.below⟩)
theorem rwordn_c (xs : List UInt8) (a : Option Addr) (cap k : Nat) (len : Nat) (w : World) (hn : len = xs.length) (hat : At w a (byc xs)) (hk : k + 1 < xs.length) (hl : xs.length ≤ 1000000) (hlc : xs.length ≤ cap)  : Calls Try.prog 56 #[.slice a len cap, .int .i64 ((k : Nat) : Int)] w (Ret w (.int .u16 ((w2 xs k : Nat) : Int))) := by
  subst hn; exact rword_c xs a cap k w hat hk hl hlc
theorem raddr_c (xs : List UInt8) (a : Option Addr) (cap k : Nat) (w : World) (hat : At w a (byc xs)) (hk : k + 3 < xs.length) (hl : xs.length ≤ 1000000) (hlc : xs.length ≤ cap) : Calls Try.prog 57 #[Value.slice a xs.length cap, Value.int .i64 ((k : Nat) : Int)] w (Ret w (.int .u32 ((a4 xs k : Nat) : Int))) := by
  have hw1 := w2_lt xs k; have hw2 := w2_lt xs (k + 2)
  refine calls_W (M := []) (LL := []) (n := 16) Try.func57 rfl rfl (by simp) (Mem.refl _) ?_
  refine W.seq (fun K1 hK1 => ?_)
  refine W.region ?_
  refine Wl.run 1 (by kernel_rfl) ?_
  refine Wl.nil ?_
  refine hK1 _ _ _ ?_
  refine W.seq (fun K2 hK2 => ?_)
  refine W.region ?_
  refine Wl.run 2 (by kernel_rfl) ?_
  refine Wl.yc (v := Value.int .u16 ((w2 xs k : Nat) : Int)) rfl rfl (Yc.call (k := 56) (args := #[Value.slice a xs.length cap, Value.int .i64 ((k : Nat) : Int)]) (fun _ => by kernel_rfl) (fun w_ hm_ => (rwordn_c xs a cap k xs.length _ (by first | rfl | (rw [List.length_take]; omega) | (simp; done) | (simp [be_len, be_len, psh_len]; omega)) (hat.mem0 hm_) (by omega) (by omega) (by first | omega | (simp; omega))))) ?_
  refine Wl.ys (v := Value.int .u32 ((w2 xs k : Nat) : Int)) rfl rfl ((Ys.pure (v := .int .u32 (icnv .u32 ((w2 xs k : Nat) : Int))) (fun _ => by kernel_rfl)).conseq (int_congr (wrap_u32 (by omega) (by omega)))) ?_
  refine Wl.ys (v := Value.int .u32 ((65536 * (w2 xs k) : Nat) : Int)) rfl rfl ((Ys.pure (v := .int .u32 (imul .u32 ((65536 : Nat) : Int) ((w2 xs k : Nat) : Int))) (fun _ => by kernel_rfl)).conseq (int_congr (imul_natu rfl (by show _ < 4294967296; omega)))) ?_
  refine Wl.run 2 (by kernel_rfl) ?_
  refine Wl.ys (v := Value.int .i64 ((k + 2 : Nat) : Int)) rfl rfl ((Ys.pure (v := .int .i64 (iadd .i64 ((k : Nat) : Int) 2)) (fun _ => by kernel_rfl)).conseq (int_congr (iadd_eq (by omega) (by omega) (by omega)))) ?_
  refine Wl.yc (v := Value.int .u16 ((w2 xs (k + 2) : Nat) : Int)) rfl rfl (Yc.call (k := 56) (args := #[Value.slice a xs.length cap, Value.int .i64 ((k + 2 : Nat) : Int)]) (fun _ => by kernel_rfl) (fun w_ hm_ => (rwordn_c xs a cap (k + 2) xs.length _ (by first | rfl | (rw [List.length_take]; omega) | (simp; done) | (simp [be_len, be_len, psh_len]; omega)) (hat.mem0 hm_) (by omega) (by omega) (by first | omega | (simp; omega))))) ?_
  refine Wl.ys (v := Value.int .u32 ((w2 xs (k + 2) : Nat) : Int)) rfl rfl ((Ys.pure (v := .int .u32 (icnv .u32 ((w2 xs (k + 2) : Nat) : Int))) (fun _ => by kernel_rfl)).conseq (int_congr (wrap_u32 (by omega) (by omega)))) ?_
  refine Wl.ys (v := Value.int .u32 (((65536 * (w2 xs k)) + (w2 xs (k + 2)) : Nat) : Int)) rfl rfl ((Ys.pure (v := .int .u32 (iadd .u32 ((65536 * (w2 xs k) : Nat) : Int) ((w2 xs (k + 2) : Nat) : Int))) (fun _ => by kernel_rfl)).conseq (int_congr (iadd_natu rfl (by show _ < 4294967296; omega)))) ?_
  refine Wl.run 1 (by kernel_rfl) ?_
  refine Wl.nil ?_
  refine hK2 _ _ _ ?_
  refine W.prune' [4] [Value.int .u32 (((65536 * (w2 xs k)) + (w2 xs (k + 2)) : Nat) : Int)] (by kernel_rfl) (fun f3 => ?_)
  refine W.ret ?_
  show ∀ w_, _ → bodyPostM (fence none) 0 Try.prog Try.f57 _ Exit.ret _ w_
  exact fun w_ hS_ => fin_ret (ret1 rfl (RV.tmp (v := Value.int .u32 (((65536 * (w2 xs k)) + (w2 xs (k + 2)) : Nat) : Int)) (by kernel_rfl)) hS_ ⟨by clear hK1 hK2; refine congrArg Ending.returned ?_; first | rfl | exact int_congr (by unfold a4; omega), hS_.below⟩)
theorem raddrn_c (xs : List UInt8) (a : Option Addr) (cap k : Nat) (len : Nat) (w : World) (hn : len = xs.length) (hat : At w a (byc xs)) (hk : k + 3 < xs.length) (hl : xs.length ≤ 1000000) (hlc : xs.length ≤ cap)  : Calls Try.prog 57 #[.slice a len cap, .int .i64 ((k : Nat) : Int)] w (Ret w (.int .u32 ((a4 xs k : Nat) : Int))) := by
  subst hn; exact raddr_c xs a cap k w hat hk hl hlc
theorem rturn_c (pr : UInt8) (s d fr to : Nat) (w : World) : Calls Try.prog 14 #[Value.agg ([Value.int .u8 ((pr.toNat : Nat) : Int), Value.int .u32 ((s : Nat) : Int), Value.int .u32 ((d : Nat) : Int), Value.int .u16 ((fr : Nat) : Int), Value.int .u16 ((to : Nat) : Int)]).toArray] w (Ret w (.agg ([Value.int .u8 ((pr.toNat : Nat) : Int), Value.int .u32 ((d : Nat) : Int), Value.int .u32 ((s : Nat) : Int), Value.int .u16 ((to : Nat) : Int), Value.int .u16 ((fr : Nat) : Int)]).toArray)) := by
  refine calls_W (M := []) (LL := []) (n := 14) Try.func14 rfl rfl (by simp) (Mem.refl _) ?_
  refine W.seq (fun K1 hK1 => ?_)
  refine W.region ?_
  refine Wl.ht rfl (Ht.box (v := Value.agg ([Value.int .u8 ((pr.toNat : Nat) : Int), Value.int .u32 ((s : Nat) : Int), Value.int .u32 ((d : Nat) : Int), Value.int .u16 ((fr : Nat) : Int), Value.int .u16 ((to : Nat) : Int)]).toArray) (cs := [Value.int .u8 ((pr.toNat : Nat) : Int), Value.int .u32 ((s : Nat) : Int), Value.int .u32 ((d : Nat) : Int), Value.int .u16 ((fr : Nat) : Int), Value.int .u16 ((to : Nat) : Int)]) rfl rfl (by kernel_rfl) rfl) (fun p1 => ?_)
  refine Wl.ht rfl (Ht.alloc (z := Value.agg ([Value.int .u8 0, Value.int .u32 0, Value.int .u32 0, Value.int .u16 0, Value.int .u16 0]).toArray) (cs := [Value.int .u8 0, Value.int .u32 0, Value.int .u32 0, Value.int .u16 0, Value.int .u16 0]) rfl rfl Try.zeroValue30 rfl) (fun p2 => ?_)
  refine Wl.nil ?_
  refine hK1 _ _ _ ?_
  refine W.prune' [1, 2] [Value.pointer (some ⟨p1, 0, none⟩), Value.pointer (some ⟨p2, 0, none⟩)] (by kernel_rfl) (fun f2 => ?_)
  refine W.seq (fun K3 hK3 => ?_)
  refine W.region ?_
  refine Wl.run 1 (by kernel_rfl) ?_
  refine Wl.ys (v := Value.int .u8 ((pr.toNat : Nat) : Int)) rfl rfl (Ys.load (b := p1) (o' := 0) (i := 1) (j := 0) (cs := [Value.int .u8 ((pr.toNat : Nat) : Int), Value.int .u32 ((s : Nat) : Int), Value.int .u32 ((d : Nat) : Int), Value.int .u16 ((fr : Nat) : Int), Value.int .u16 ((to : Nat) : Int)]) (v := Value.int .u8 ((pr.toNat : Nat) : Int)) rfl (by kernel_rfl) Try.isAgg5 rfl rfl rfl) ?_
  refine Wl.run 1 (by kernel_rfl) ?_
  refine Wl.ys (v := Value.int .u32 ((d : Nat) : Int)) rfl rfl (Ys.load (b := p1) (o' := 2) (i := 1) (j := 0) (cs := [Value.int .u8 ((pr.toNat : Nat) : Int), Value.int .u32 ((s : Nat) : Int), Value.int .u32 ((d : Nat) : Int), Value.int .u16 ((fr : Nat) : Int), Value.int .u16 ((to : Nat) : Int)]) (v := Value.int .u32 ((d : Nat) : Int)) rfl (by kernel_rfl) Try.isAgg24 rfl rfl rfl) ?_
  refine Wl.run 1 (by kernel_rfl) ?_
  refine Wl.ys (v := Value.int .u32 ((s : Nat) : Int)) rfl rfl (Ys.load (b := p1) (o' := 1) (i := 1) (j := 0) (cs := [Value.int .u8 ((pr.toNat : Nat) : Int), Value.int .u32 ((s : Nat) : Int), Value.int .u32 ((d : Nat) : Int), Value.int .u16 ((fr : Nat) : Int), Value.int .u16 ((to : Nat) : Int)]) (v := Value.int .u32 ((s : Nat) : Int)) rfl (by kernel_rfl) Try.isAgg24 rfl rfl rfl) ?_
  refine Wl.run 1 (by kernel_rfl) ?_
  refine Wl.ys (v := Value.int .u16 ((to : Nat) : Int)) rfl rfl (Ys.load (b := p1) (o' := 4) (i := 1) (j := 0) (cs := [Value.int .u8 ((pr.toNat : Nat) : Int), Value.int .u32 ((s : Nat) : Int), Value.int .u32 ((d : Nat) : Int), Value.int .u16 ((fr : Nat) : Int), Value.int .u16 ((to : Nat) : Int)]) (v := Value.int .u16 ((to : Nat) : Int)) rfl (by kernel_rfl) Try.isAgg22 rfl rfl rfl) ?_
  refine Wl.run 1 (by kernel_rfl) ?_
  refine Wl.ys (v := Value.int .u16 ((fr : Nat) : Int)) rfl rfl (Ys.load (b := p1) (o' := 3) (i := 1) (j := 0) (cs := [Value.int .u8 ((pr.toNat : Nat) : Int), Value.int .u32 ((s : Nat) : Int), Value.int .u32 ((d : Nat) : Int), Value.int .u16 ((fr : Nat) : Int), Value.int .u16 ((to : Nat) : Int)]) (v := Value.int .u16 ((fr : Nat) : Int)) rfl (by kernel_rfl) Try.isAgg22 rfl rfl rfl) ?_
  refine Wl.run 1 (by kernel_rfl) ?_
  refine Wl.ht rfl (Ht.storeN (b := p2) (o' := 0) (i := 0) (j := 0) (cs := [Value.int .u8 0, Value.int .u32 0, Value.int .u32 0, Value.int .u16 0, Value.int .u16 0]) (vs := [Value.int .u8 ((pr.toNat : Nat) : Int), Value.int .u32 ((d : Nat) : Int), Value.int .u32 ((s : Nat) : Int), Value.int .u16 ((to : Nat) : Int), Value.int .u16 ((fr : Nat) : Int)]) (cs' := [Value.int .u8 ((pr.toNat : Nat) : Int), Value.int .u32 ((d : Nat) : Int), Value.int .u32 ((s : Nat) : Int), Value.int .u16 ((to : Nat) : Int), Value.int .u16 ((fr : Nat) : Int)]) (LL' := [[cb p2 [Value.int .u8 ((pr.toNat : Nat) : Int), Value.int .u32 ((d : Nat) : Int), Value.int .u32 ((s : Nat) : Int), Value.int .u16 ((to : Nat) : Int), Value.int .u16 ((fr : Nat) : Int)] 30], [cb p1 [Value.int .u8 ((pr.toNat : Nat) : Int), Value.int .u32 ((s : Nat) : Int), Value.int .u32 ((d : Nat) : Int), Value.int .u16 ((fr : Nat) : Int), Value.int .u16 ((to : Nat) : Int)] 30]]) rfl rfl (by kernel_rfl) (by kernel_rfl) Try.sizeOf30 (by simp [Value.oneCell']) rfl rfl (by simp) rfl rfl) (fun _ => ?_)
  refine Wl.nil ?_
  refine hK3 _ _ _ ?_
  refine W.pick (LL' := [[cb p2 [Value.int .u8 ((pr.toNat : Nat) : Int), Value.int .u32 ((d : Nat) : Int), Value.int .u32 ((s : Nat) : Int), Value.int .u16 ((to : Nat) : Int), Value.int .u16 ((fr : Nat) : Int)] 30]]) [0] (by decide) rfl ?_
  refine W.prune' [2] [Value.pointer (some ⟨p2, 0, none⟩)] (by kernel_rfl) (fun f4 => ?_)
  refine W.ret ?_
  show ∀ w_, _ → bodyPostM (fence none) 0 Try.prog Try.f14 _ Exit.ret _ w_
  exact fun w_ hS_ => fin_ret (ret1 rfl (RV.cellN (b := p2) (o' := 0) (i := 0) (j := 0) (cs := [Value.int .u8 ((pr.toNat : Nat) : Int), Value.int .u32 ((d : Nat) : Int), Value.int .u32 ((s : Nat) : Int), Value.int .u16 ((to : Nat) : Int), Value.int .u16 ((fr : Nat) : Int)]) (vs := [Value.int .u8 ((pr.toNat : Nat) : Int), Value.int .u32 ((d : Nat) : Int), Value.int .u32 ((s : Nat) : Int), Value.int .u16 ((to : Nat) : Int), Value.int .u16 ((fr : Nat) : Int)]) (by kernel_rfl) Try.isAgg30 Try.sizeOf30 rfl rfl rfl rfl) hS_ ⟨rfl, hS_.below⟩)
theorem in_tu {xs : List UInt8} (hC : inC xs = false) (h : (i9 xs 6 || i9 xs 17) = true) : inO xs = true ∧ inF xs = w2 xs 20 ∧ inT xs = w2 xs 22 := by
  unfold inO inF inT; rw [hC]
  cases h6 : i9 xs 6 <;> cases h17 : i9 xs 17 <;> simp_all
theorem in_no {xs : List UInt8} (h40 : (i9 xs 6 || i9 xs 17) = false) (h : ((!(i9 xs 1) || !((((xs.getD 21 0).toNat : Nat) : Int) == 0)) || (!((((xs.getD 20 0).toNat : Nat) : Int) == 0) && !((((xs.getD 20 0).toNat : Nat) : Int) == 8))) = true) : inO xs = false := by
  unfold inO ecO
  generalize ((((xs.getD 21 0).toNat : Nat) : Int) == 0) = a at *
  generalize ((((xs.getD 20 0).toNat : Nat) : Int) == 0) = b at *
  generalize ((((xs.getD 20 0).toNat : Nat) : Int) == 8) = c at *
  cases inC xs <;> cases h6 : i9 xs 6 <;> cases h17 : i9 xs 17 <;> cases h1 : i9 xs 1 <;> cases a <;> cases b <;> cases c <;> simp_all
theorem in_yes {xs : List UInt8} (hC : inC xs = false) (h40 : (i9 xs 6 || i9 xs 17) = false) (h : ((!(i9 xs 1) || !((((xs.getD 21 0).toNat : Nat) : Int) == 0)) || (!((((xs.getD 20 0).toNat : Nat) : Int) == 0) && !((((xs.getD 20 0).toNat : Nat) : Int) == 8))) = false) : inO xs = true ∧ inF xs = sel (ecA (xs.getD 20 0)) (w2 xs 24) 0 ∧ inT xs = sel (ecA (xs.getD 20 0)) 0 (w2 xs 24) := by
  unfold inO inF inT ecO
  generalize ((((xs.getD 21 0).toNat : Nat) : Int) == 0) = a at *
  generalize ((((xs.getD 20 0).toNat : Nat) : Int) == 0) = b at *
  generalize ((((xs.getD 20 0).toNat : Nat) : Int) == 8) = c at *
  rw [hC]
  cases h6 : i9 xs 6 <;> cases h17 : i9 xs 17 <;> cases h1 : i9 xs 1 <;> cases a <;> cases b <;> cases c <;> simp_all
theorem rinner_c (xs : List UInt8) (a : Option Addr) (cap : Nat) (w : World) (hat : At w a (byc xs)) (hl : xs.length ≤ 1000000) (hlc : xs.length ≤ cap) : Calls Try.prog 28 #[Value.slice a xs.length cap] w (Ret w (.tuple #[.agg ([Value.int .u8 (((anU (inO xs) (inP xs)).toNat : Nat) : Int), Value.int .u32 ((anN (inO xs) (inA xs 12) : Nat) : Int), Value.int .u32 ((anN (inO xs) (inA xs 16) : Nat) : Int), Value.int .u16 ((anN (inO xs) (inF xs) : Nat) : Int), Value.int .u16 ((anN (inO xs) (inT xs) : Nat) : Int)]).toArray, .bool (inO xs)])) := by
  have hw20 := w2_lt xs 20; have hw22 := w2_lt xs 22; have hw24 := w2_lt xs 24; have ha12 := a4_lt xs 12; have ha16 := a4_lt xs 16; have hw6 := w2_lt xs 6
  refine calls_W (M := []) (LL := []) (n := 80) Try.func28 rfl rfl (by simp) (Mem.refl _) ?_
  refine W.seq (fun K1 hK1 => ?_)
  refine W.region ?_
  refine Wl.ht rfl (Ht.alloc (z := Value.agg ([Value.int .u8 0, Value.int .u32 0, Value.int .u32 0, Value.int .u16 0, Value.int .u16 0]).toArray) (cs := [Value.int .u8 0, Value.int .u32 0, Value.int .u32 0, Value.int .u16 0, Value.int .u16 0]) rfl rfl Try.zeroValue30 rfl) (fun p2 => ?_)
  refine Wl.run 1 (by kernel_rfl) ?_
  refine Wl.nil ?_
  refine hK1 _ _ _ ?_
  refine W.prune' [0, 2] [Value.slice a xs.length cap, Value.pointer (some ⟨p2, 0, none⟩)] (by kernel_rfl) (fun f2 => ?_)
  refine W.seq (fun K3 hK3 => ?_)
  refine W.seq (fun K4 hK4 => ?_)
  refine W.region ?_
  refine Wl.run 4 (by kernel_rfl) ?_
  refine Wl.guard (v := Value.slice a xs.length cap) (!(decide (((xs.length : Nat) : Int) < 28))) rfl (wantF rfl (by kernel_rfl)) rfl (fun hg5 => ?_) ?_
  · have qhg5 := hg5; try simp only [Bool.and_eq_true, Bool.or_eq_true, Bool.not_eq_true', Bool.not_eq_false', Bool.and_eq_false_iff, Bool.or_eq_false_iff, decide_eq_true_eq, decide_eq_false_iff_not, beq_iff_eq, bne_iff_ne, beq_eq_false_iff_ne, bne_eq_false_iff_eq] at qhg5
    exact Ys.pure (fun _ => by kernel_rfl)
  refine Wl.guard (v := Value.pointer (some (ela a 0))) (!(decide (((xs.length : Nat) : Int) < 28))) rfl (wantF rfl (by kernel_rfl)) rfl (fun hg6 => ?_) ?_
  · have qhg6 := hg6; try simp only [Bool.and_eq_true, Bool.or_eq_true, Bool.not_eq_true', Bool.not_eq_false', Bool.and_eq_false_iff, Bool.or_eq_false_iff, decide_eq_true_eq, decide_eq_false_iff_not, beq_iff_eq, bne_iff_ne, beq_eq_false_iff_ne, bne_eq_false_iff_eq] at qhg6
    refine Ys.at (t := 9) (v0 := Value.slice a xs.length cap) (lz (g := !(decide (((xs.length : Nat) : Int) < 28))) (u := undef) hg6 (by kernel_rfl)) ?_
    exact Ys.byMem fun w_ h_ => Ys.indexAddr (k := .i64) (a := a) (len := xs.length) (cap := cap) (i := 0) (sz := 1) rfl (by kernel_rfl) (by kernel_rfl) Try.runUnderlying25 Try.sizeOf5 (by omega) (by omega) ((hat.mem0 h_).here (by rw [mc_len]; first | omega | (simp; omega)))
  refine Wl.guard (v := Value.int .u8 (((xs.getD 0 0).toNat : Nat) : Int)) (!(decide (((xs.length : Nat) : Int) < 28))) rfl (wantF rfl (by kernel_rfl)) rfl (fun hg7 => ?_) ?_
  · have qhg7 := hg7; try simp only [Bool.and_eq_true, Bool.or_eq_true, Bool.not_eq_true', Bool.not_eq_false', Bool.and_eq_false_iff, Bool.or_eq_false_iff, decide_eq_true_eq, decide_eq_false_iff_not, beq_iff_eq, bne_iff_ne, beq_eq_false_iff_ne, bne_eq_false_iff_eq] at qhg7
    refine Ys.at (t := 10) (v0 := Value.pointer (some (ela a 0))) (lz (g := !(decide (((xs.length : Nat) : Int) < 28))) (u := undef) hg7 (by kernel_rfl)) ?_
    exact Ys.ld (a := ela a 0) rfl (by kernel_rfl) Try.isAgg5 (fun w_ h_ => (hat.mem0 h_).ld (mc_get 0 (by first | omega | (simp; omega))))
  refine Wl.guard (v := Value.bool ((((xs.getD 0 0).toNat : Nat) : Int) != 69)) (!(decide (((xs.length : Nat) : Int) < 28))) rfl (wantF rfl (by kernel_rfl)) rfl (fun hg8 => ?_) ?_
  · have qhg8 := hg8; try simp only [Bool.and_eq_true, Bool.or_eq_true, Bool.not_eq_true', Bool.not_eq_false', Bool.and_eq_false_iff, Bool.or_eq_false_iff, decide_eq_true_eq, decide_eq_false_iff_not, beq_iff_eq, bne_iff_ne, beq_eq_false_iff_ne, bne_eq_false_iff_eq] at qhg8
    refine Ys.at (t := 11) (v0 := Value.int .u8 (((xs.getD 0 0).toNat : Nat) : Int)) (lz (g := !(decide (((xs.length : Nat) : Int) < 28))) (u := undef) hg8 (by kernel_rfl)) ?_
    exact Ys.pure (fun _ => by kernel_rfl)
  refine Wl.ys (v := Value.bool ((decide (((xs.length : Nat) : Int) < 28)) || ((((xs.getD 0 0).toNat : Nat) : Int) != 69))) rfl rfl (Ys.or' (e := decide (((xs.length : Nat) : Int) < 28)) (b := (((xs.getD 0 0).toNat : Nat) : Int) != 69) rfl (by kernel_rfl) (by kernel_rfl) (by kernel_rfl)) ?_
  refine Wl.run 1 (by kernel_rfl) ?_
  refine Wl.guard (v := Value.slice a xs.length cap) (!((decide (((xs.length : Nat) : Int) < 28)) || ((((xs.getD 0 0).toNat : Nat) : Int) != 69))) rfl (wantF rfl (by kernel_rfl)) rfl (fun hg9 => ?_) ?_
  · have qhg9 := hg9; try simp only [Bool.and_eq_true, Bool.or_eq_true, Bool.not_eq_true', Bool.not_eq_false', Bool.and_eq_false_iff, Bool.or_eq_false_iff, decide_eq_true_eq, decide_eq_false_iff_not, beq_iff_eq, bne_iff_ne, beq_eq_false_iff_ne, bne_eq_false_iff_eq] at qhg9
    exact Ys.pure (fun _ => by kernel_rfl)
  refine Wl.guardc (v := Value.int .u16 ((w2 xs 6 : Nat) : Int)) (!((decide (((xs.length : Nat) : Int) < 28)) || ((((xs.getD 0 0).toNat : Nat) : Int) != 69))) rfl (wantF rfl (by kernel_rfl)) rfl (fun hg10 => ?_) ?_
  · have qhg10 := hg10; try simp only [Bool.and_eq_true, Bool.or_eq_true, Bool.not_eq_true', Bool.not_eq_false', Bool.and_eq_false_iff, Bool.or_eq_false_iff, decide_eq_true_eq, decide_eq_false_iff_not, beq_iff_eq, bne_iff_ne, beq_eq_false_iff_ne, bne_eq_false_iff_eq] at qhg10
    refine Yc.at (t := 15) (v0 := Value.slice a xs.length cap) (lz (g := !((decide (((xs.length : Nat) : Int) < 28)) || ((((xs.getD 0 0).toNat : Nat) : Int) != 69))) (u := undef) hg10 (by kernel_rfl)) ?_
    exact Yc.call (k := 56) (args := #[Value.slice a xs.length cap, Value.int .i64 6]) (fun _ => by kernel_rfl) (fun w_ hm_ => (rwordn_c xs a cap 6 xs.length _ (by first | rfl | (rw [List.length_take]; omega) | (simp; done) | (simp [be_len, be_len, psh_len]; omega)) (hat.mem0 hm_) (by omega) (by omega) (by first | omega | (simp; omega))))
  refine Wl.guard (v := Value.int .u16 (((w2 xs 6) % 8192 : Nat) : Int)) (!((decide (((xs.length : Nat) : Int) < 28)) || ((((xs.getD 0 0).toNat : Nat) : Int) != 69))) rfl (wantF rfl (by kernel_rfl)) rfl (fun hg11 => ?_) ?_
  · have qhg11 := hg11; try simp only [Bool.and_eq_true, Bool.or_eq_true, Bool.not_eq_true', Bool.not_eq_false', Bool.and_eq_false_iff, Bool.or_eq_false_iff, decide_eq_true_eq, decide_eq_false_iff_not, beq_iff_eq, bne_iff_ne, beq_eq_false_iff_ne, bne_eq_false_iff_eq] at qhg11
    refine Ys.at (t := 16) (v0 := Value.int .u16 ((w2 xs 6 : Nat) : Int)) (lz (g := !((decide (((xs.length : Nat) : Int) < 28)) || ((((xs.getD 0 0).toNat : Nat) : Int) != 69))) (u := undef) hg11 (by kernel_rfl)) ?_
    exact (Ys.pure (v := .int .u16 (irem ((w2 xs 6 : Nat) : Int) ((8192 : Nat) : Int))) (fun _ => by kernel_rfl)).conseq (int_congr (rfl))
  refine Wl.guard (v := Value.bool ((((w2 xs 6) % 8192 : Nat) : Int) != 0)) (!((decide (((xs.length : Nat) : Int) < 28)) || ((((xs.getD 0 0).toNat : Nat) : Int) != 69))) rfl (wantF rfl (by kernel_rfl)) rfl (fun hg12 => ?_) ?_
  · have qhg12 := hg12; try simp only [Bool.and_eq_true, Bool.or_eq_true, Bool.not_eq_true', Bool.not_eq_false', Bool.and_eq_false_iff, Bool.or_eq_false_iff, decide_eq_true_eq, decide_eq_false_iff_not, beq_iff_eq, bne_iff_ne, beq_eq_false_iff_ne, bne_eq_false_iff_eq] at qhg12
    refine Ys.at (t := 17) (v0 := Value.int .u16 (((w2 xs 6) % 8192 : Nat) : Int)) (lz (g := !((decide (((xs.length : Nat) : Int) < 28)) || ((((xs.getD 0 0).toNat : Nat) : Int) != 69))) (u := undef) hg12 (by kernel_rfl)) ?_
    exact Ys.pure (fun _ => by kernel_rfl)
  refine Wl.ys (v := Value.bool (((decide (((xs.length : Nat) : Int) < 28)) || ((((xs.getD 0 0).toNat : Nat) : Int) != 69)) || ((((w2 xs 6) % 8192 : Nat) : Int) != 0))) rfl rfl (Ys.or' (e := (decide (((xs.length : Nat) : Int) < 28)) || ((((xs.getD 0 0).toNat : Nat) : Int) != 69)) (b := (((w2 xs 6) % 8192 : Nat) : Int) != 0) rfl (by kernel_rfl) (by kernel_rfl) (by kernel_rfl)) ?_
  refine Wl.nil ?_
  refine hK4 _ _ _ ?_
  refine W.prune' [0, 2, 19] [Value.slice a xs.length cap, Value.pointer (some ⟨p2, 0, none⟩), Value.bool (((decide (((xs.length : Nat) : Int) < 28)) || ((((xs.getD 0 0).toNat : Nat) : Int) != 69)) || ((((w2 xs 6) % 8192 : Nat) : Int) != 0))] (by kernel_rfl) (fun f13 => ?_)
  refine W.cond (((decide (((xs.length : Nat) : Int) < 28)) || ((((xs.getD 0 0).toNat : Nat) : Int) != 69)) || ((((w2 xs 6) % 8192 : Nat) : Int) != 0)) (by kernel_rfl) (fun h14 => ?_) (fun h15 => ?_)
  · have qh14 := h14; try simp only [Bool.and_eq_true, Bool.or_eq_true, Bool.not_eq_true', Bool.not_eq_false', Bool.and_eq_false_iff, Bool.or_eq_false_iff, decide_eq_true_eq, decide_eq_false_iff_not, beq_iff_eq, bne_iff_ne, beq_eq_false_iff_ne, bne_eq_false_iff_eq] at qh14
    refine W.seq (fun K16 hK16 => ?_)
    refine W.region ?_
    refine Wl.run 1 (by kernel_rfl) ?_
    refine Wl.ht rfl (Ht.storeN (b := p2) (o' := 0) (i := 0) (j := 0) (cs := [Value.int .u8 0, Value.int .u32 0, Value.int .u32 0, Value.int .u16 0, Value.int .u16 0]) (vs := [Value.int .u8 0, Value.int .u32 0, Value.int .u32 0, Value.int .u16 0, Value.int .u16 0]) (cs' := [Value.int .u8 0, Value.int .u32 0, Value.int .u32 0, Value.int .u16 0, Value.int .u16 0]) (LL' := [[cb p2 [Value.int .u8 0, Value.int .u32 0, Value.int .u32 0, Value.int .u16 0, Value.int .u16 0] 30]]) rfl rfl (by kernel_rfl) (by kernel_rfl) Try.sizeOf30 (by simp [Value.oneCell']) rfl rfl (by simp) rfl rfl) (fun _ => ?_)
    refine Wl.run 1 (by kernel_rfl) ?_
    refine Wl.nil ?_
    refine hK16 _ _ _ ?_
    refine W.prune' [2, 3] [Value.pointer (some ⟨p2, 0, none⟩), Value.bool false] (by kernel_rfl) (fun f17 => ?_)
    refine W.ret ?_
    have hC_ : inC xs = true := h14
    have hO_ : inO xs = false := by unfold inO; rw [hC_]; rfl
    show ∀ w_, _ → bodyPostM (fence none) 0 Try.prog Try.f28 _ Exit.ret _ w_
    exact fun w_ hS_ => fin_ret (ret2 rfl (RV.cellN (b := p2) (o' := 0) (i := 0) (j := 0) (cs := [Value.int .u8 0, Value.int .u32 0, Value.int .u32 0, Value.int .u16 0, Value.int .u16 0]) (vs := [Value.int .u8 0, Value.int .u32 0, Value.int .u32 0, Value.int .u16 0, Value.int .u16 0]) (by kernel_rfl) Try.isAgg30 Try.sizeOf30 rfl rfl rfl rfl) (RV.tmp (v := Value.bool false) (by kernel_rfl)) hS_ ⟨by clear hK1 hK3 hK4 hK16; refine congrArg Ending.returned ?_; simp only [anU, anN, hO_, cond_false]; rfl, hS_.below⟩)
  · have qh15 := h15; try simp only [Bool.and_eq_true, Bool.or_eq_true, Bool.not_eq_true', Bool.not_eq_false', Bool.and_eq_false_iff, Bool.or_eq_false_iff, decide_eq_true_eq, decide_eq_false_iff_not, beq_iff_eq, bne_iff_ne, beq_eq_false_iff_ne, bne_eq_false_iff_eq] at qh15
    refine W.skip' ?_
    refine hK3 _ _ _ ?_
    refine W.prune' [0, 2] [Value.slice a xs.length cap, Value.pointer (some ⟨p2, 0, none⟩)] (by kernel_rfl) (fun f18 => ?_)
    refine W.seq (fun K19 hK19 => ?_)
    refine W.drawsA [0, 1, 2, 3, 5, 7] (Mem w [] [[cb p2 [Value.int .u8 0, Value.int .u32 0, Value.int .u32 0, Value.int .u16 0, Value.int .u16 0] 30]]) (by kernel_rfl) (by kernel_rfl) (fun _ _ h_ => h_.drawn _) ?_
    refine Wa.lets (w0 := w) (M := []) [0, 2, 4, 28] (fun (z27 : Nat) => [Value.slice a xs.length cap, Value.pointer (some ⟨p2, 0, none⟩), Value.pointer (some ⟨z27, 0, none⟩), Value.agg ([Value.int .u8 (((xs.getD 9 0).toNat : Nat) : Int), Value.int .u32 ((a4 xs 12 : Nat) : Int), Value.int .u32 ((a4 xs 16 : Nat) : Int), Value.int .u16 0, Value.int .u16 0]).toArray]) (fun (z27 : Nat) => True) (fun (z27 : Nat) => [[cb z27 [Value.int .u8 0, Value.int .u32 0, Value.int .u32 0, Value.int .u16 0, Value.int .u16 0] 30], [cb p2 [Value.int .u8 0, Value.int .u32 0, Value.int .u32 0, Value.int .u16 0, Value.int .u16 0] 30]]) 1 #[true, true, true, true, true, true, true, true, true, false] (fun z27 hp28 f29 => ?_) (fun JD25 => ?_)
    · obtain ⟨p4, rfl⟩ : ∃ a_, a_ = z27 := ⟨_, rfl⟩
      refine Wa.only (i := 9) (by kernel_rfl) ?_
      refine Wo.ht rfl rfl (Ht.storeN (b := p4) (o' := 0) (i := 0) (j := 0) (cs := [Value.int .u8 0, Value.int .u32 0, Value.int .u32 0, Value.int .u16 0, Value.int .u16 0]) (vs := [Value.int .u8 (((xs.getD 9 0).toNat : Nat) : Int), Value.int .u32 ((a4 xs 12 : Nat) : Int), Value.int .u32 ((a4 xs 16 : Nat) : Int), Value.int .u16 0, Value.int .u16 0]) (cs' := [Value.int .u8 (((xs.getD 9 0).toNat : Nat) : Int), Value.int .u32 ((a4 xs 12 : Nat) : Int), Value.int .u32 ((a4 xs 16 : Nat) : Int), Value.int .u16 0, Value.int .u16 0]) (LL' := [[cb p4 [Value.int .u8 (((xs.getD 9 0).toNat : Nat) : Int), Value.int .u32 ((a4 xs 12 : Nat) : Int), Value.int .u32 ((a4 xs 16 : Nat) : Int), Value.int .u16 0, Value.int .u16 0] 30], [cb p2 [Value.int .u8 0, Value.int .u32 0, Value.int .u32 0, Value.int .u16 0, Value.int .u16 0] 30]]) rfl rfl (by kernel_rfl) (by kernel_rfl) Try.sizeOf30 (by simp [Value.oneCell']) rfl rfl (by simp) rfl rfl) (.inl (by kernel_rfl)) (fun _ => ?_)
      refine Wa.nil (by kernel_rfl) ?_
      refine hK19 _ _ _ ?_
      refine W.prune' [0, 2, 4] [Value.slice a xs.length cap, Value.pointer (some ⟨p2, 0, none⟩), Value.pointer (some ⟨p4, 0, none⟩)] (by kernel_rfl) (fun f30 => ?_)
      refine W.seq (fun K31 hK31 => ?_)
      refine W.seq (fun K32 hK32 => ?_)
      refine W.region ?_
      refine Wl.run 1 (by kernel_rfl) ?_
      refine Wl.ys (v := Value.pointer (some (ela a 9))) rfl rfl (Ys.byMem fun w_ h_ => Ys.indexAddr (k := .i64) (a := a) (len := xs.length) (cap := cap) (i := 9) (sz := 1) rfl (by kernel_rfl) (by kernel_rfl) Try.runUnderlying25 Try.sizeOf5 (by omega) (by omega) ((hat.mem0 h_).here (by rw [mc_len]; first | omega | (simp; omega)))) ?_
      refine Wl.ys (v := Value.int .u8 (((xs.getD 9 0).toNat : Nat) : Int)) rfl rfl (Ys.ld (a := ela a 9) rfl (by kernel_rfl) Try.isAgg5 (fun w_ h_ => (hat.mem0 h_).ld (mc_get 0 (by first | omega | (simp; omega))))) ?_
      have hb33 : (xs.getD 9 0).toNat < 256 := UInt8.toNat_lt _
      refine Wl.run 2 (by kernel_rfl) ?_
      refine Wl.guard (v := Value.slice a xs.length cap) (!((((xs.getD 9 0).toNat : Nat) : Int) == 6)) rfl (wantF rfl (by kernel_rfl)) rfl (fun hg34 => ?_) ?_
      · have qhg34 := hg34; try simp only [Bool.and_eq_true, Bool.or_eq_true, Bool.not_eq_true', Bool.not_eq_false', Bool.and_eq_false_iff, Bool.or_eq_false_iff, decide_eq_true_eq, decide_eq_false_iff_not, beq_iff_eq, bne_iff_ne, beq_eq_false_iff_ne, bne_eq_false_iff_eq] at qhg34
        exact Ys.pure (fun _ => by kernel_rfl)
      refine Wl.guard (v := Value.pointer (some (ela a 9))) (!((((xs.getD 9 0).toNat : Nat) : Int) == 6)) rfl (wantF rfl (by kernel_rfl)) rfl (fun hg35 => ?_) ?_
      · have qhg35 := hg35; try simp only [Bool.and_eq_true, Bool.or_eq_true, Bool.not_eq_true', Bool.not_eq_false', Bool.and_eq_false_iff, Bool.or_eq_false_iff, decide_eq_true_eq, decide_eq_false_iff_not, beq_iff_eq, bne_iff_ne, beq_eq_false_iff_ne, bne_eq_false_iff_eq] at qhg35
        refine Ys.at (t := 34) (v0 := Value.slice a xs.length cap) (lz (g := !((((xs.getD 9 0).toNat : Nat) : Int) == 6)) (u := undef) hg35 (by kernel_rfl)) ?_
        exact Ys.byMem fun w_ h_ => Ys.indexAddr (k := .i64) (a := a) (len := xs.length) (cap := cap) (i := 9) (sz := 1) rfl (by kernel_rfl) (by kernel_rfl) Try.runUnderlying25 Try.sizeOf5 (by omega) (by omega) ((hat.mem0 h_).here (by rw [mc_len]; first | omega | (simp; omega)))
      refine Wl.guard (v := Value.int .u8 (((xs.getD 9 0).toNat : Nat) : Int)) (!((((xs.getD 9 0).toNat : Nat) : Int) == 6)) rfl (wantF rfl (by kernel_rfl)) rfl (fun hg36 => ?_) ?_
      · have qhg36 := hg36; try simp only [Bool.and_eq_true, Bool.or_eq_true, Bool.not_eq_true', Bool.not_eq_false', Bool.and_eq_false_iff, Bool.or_eq_false_iff, decide_eq_true_eq, decide_eq_false_iff_not, beq_iff_eq, bne_iff_ne, beq_eq_false_iff_ne, bne_eq_false_iff_eq] at qhg36
        refine Ys.at (t := 35) (v0 := Value.pointer (some (ela a 9))) (lz (g := !((((xs.getD 9 0).toNat : Nat) : Int) == 6)) (u := undef) hg36 (by kernel_rfl)) ?_
        exact Ys.ld (a := ela a 9) rfl (by kernel_rfl) Try.isAgg5 (fun w_ h_ => (hat.mem0 h_).ld (mc_get 0 (by first | omega | (simp; omega))))
      refine Wl.guard (v := Value.bool ((((xs.getD 9 0).toNat : Nat) : Int) == 17)) (!((((xs.getD 9 0).toNat : Nat) : Int) == 6)) rfl (wantF rfl (by kernel_rfl)) rfl (fun hg37 => ?_) ?_
      · have qhg37 := hg37; try simp only [Bool.and_eq_true, Bool.or_eq_true, Bool.not_eq_true', Bool.not_eq_false', Bool.and_eq_false_iff, Bool.or_eq_false_iff, decide_eq_true_eq, decide_eq_false_iff_not, beq_iff_eq, bne_iff_ne, beq_eq_false_iff_ne, bne_eq_false_iff_eq] at qhg37
        refine Ys.at (t := 36) (v0 := Value.int .u8 (((xs.getD 9 0).toNat : Nat) : Int)) (lz (g := !((((xs.getD 9 0).toNat : Nat) : Int) == 6)) (u := undef) hg37 (by kernel_rfl)) ?_
        exact Ys.pure (fun _ => by kernel_rfl)
      refine Wl.ys (v := Value.bool (((((xs.getD 9 0).toNat : Nat) : Int) == 6) || ((((xs.getD 9 0).toNat : Nat) : Int) == 17))) rfl rfl (Ys.or' (e := (((xs.getD 9 0).toNat : Nat) : Int) == 6) (b := (((xs.getD 9 0).toNat : Nat) : Int) == 17) rfl (by kernel_rfl) (by kernel_rfl) (by kernel_rfl)) ?_
      refine Wl.nil ?_
      refine hK32 _ _ _ ?_
      refine W.prune' [0, 2, 4, 38] [Value.slice a xs.length cap, Value.pointer (some ⟨p2, 0, none⟩), Value.pointer (some ⟨p4, 0, none⟩), Value.bool (((((xs.getD 9 0).toNat : Nat) : Int) == 6) || ((((xs.getD 9 0).toNat : Nat) : Int) == 17))] (by kernel_rfl) (fun f38 => ?_)
      refine W.cond (((((xs.getD 9 0).toNat : Nat) : Int) == 6) || ((((xs.getD 9 0).toNat : Nat) : Int) == 17)) (by kernel_rfl) (fun h39 => ?_) (fun h40 => ?_)
      · have qh39 := h39; try simp only [Bool.and_eq_true, Bool.or_eq_true, Bool.not_eq_true', Bool.not_eq_false', Bool.and_eq_false_iff, Bool.or_eq_false_iff, decide_eq_true_eq, decide_eq_false_iff_not, beq_iff_eq, bne_iff_ne, beq_eq_false_iff_ne, bne_eq_false_iff_eq] at qh39
        refine W.seq (fun K41 hK41 => ?_)
        refine W.region ?_
        refine Wl.run 1 (by kernel_rfl) ?_
        refine Wl.yc (v := Value.int .u16 ((w2 xs 20 : Nat) : Int)) rfl rfl (Yc.call (k := 56) (args := #[Value.slice a xs.length cap, Value.int .i64 20]) (fun _ => by kernel_rfl) (fun w_ hm_ => (rwordn_c xs a cap 20 xs.length _ (by first | rfl | (rw [List.length_take]; omega) | (simp; done) | (simp [be_len, be_len, psh_len]; omega)) (hat.mem0 hm_) (by omega) (by omega) (by first | omega | (simp; omega))))) ?_
        refine Wl.run 1 (by kernel_rfl) ?_
        refine Wl.ht rfl (Ht.store (b := p4) (o' := 3) (i := 0) (j := 0) (cs := [Value.int .u8 (((xs.getD 9 0).toNat : Nat) : Int), Value.int .u32 ((a4 xs 12 : Nat) : Int), Value.int .u32 ((a4 xs 16 : Nat) : Int), Value.int .u16 0, Value.int .u16 0]) (cs' := [Value.int .u8 (((xs.getD 9 0).toNat : Nat) : Int), Value.int .u32 ((a4 xs 12 : Nat) : Int), Value.int .u32 ((a4 xs 16 : Nat) : Int), Value.int .u16 ((w2 xs 20 : Nat) : Int), Value.int .u16 0]) (v := Value.int .u16 ((w2 xs 20 : Nat) : Int)) (LL' := [[cb p4 [Value.int .u8 (((xs.getD 9 0).toNat : Nat) : Int), Value.int .u32 ((a4 xs 12 : Nat) : Int), Value.int .u32 ((a4 xs 16 : Nat) : Int), Value.int .u16 ((w2 xs 20 : Nat) : Int), Value.int .u16 0] 30], [cb p2 [Value.int .u8 0, Value.int .u32 0, Value.int .u32 0, Value.int .u16 0, Value.int .u16 0] 30]]) rfl rfl (by kernel_rfl) (by kernel_rfl) Try.sizeOf22 rfl rfl rfl (by simp) rfl rfl) (fun _ => ?_)
        refine Wl.nil ?_
        refine hK41 _ _ _ ?_
        refine W.prune' [0, 2, 4] [Value.slice a xs.length cap, Value.pointer (some ⟨p2, 0, none⟩), Value.pointer (some ⟨p4, 0, none⟩)] (by kernel_rfl) (fun f42 => ?_)
        refine W.seq (fun K43 hK43 => ?_)
        refine W.region ?_
        refine Wl.run 1 (by kernel_rfl) ?_
        refine Wl.yc (v := Value.int .u16 ((w2 xs 22 : Nat) : Int)) rfl rfl (Yc.call (k := 56) (args := #[Value.slice a xs.length cap, Value.int .i64 22]) (fun _ => by kernel_rfl) (fun w_ hm_ => (rwordn_c xs a cap 22 xs.length _ (by first | rfl | (rw [List.length_take]; omega) | (simp; done) | (simp [be_len, be_len, psh_len]; omega)) (hat.mem0 hm_) (by omega) (by omega) (by first | omega | (simp; omega))))) ?_
        refine Wl.run 1 (by kernel_rfl) ?_
        refine Wl.ht rfl (Ht.store (b := p4) (o' := 4) (i := 0) (j := 0) (cs := [Value.int .u8 (((xs.getD 9 0).toNat : Nat) : Int), Value.int .u32 ((a4 xs 12 : Nat) : Int), Value.int .u32 ((a4 xs 16 : Nat) : Int), Value.int .u16 ((w2 xs 20 : Nat) : Int), Value.int .u16 0]) (cs' := [Value.int .u8 (((xs.getD 9 0).toNat : Nat) : Int), Value.int .u32 ((a4 xs 12 : Nat) : Int), Value.int .u32 ((a4 xs 16 : Nat) : Int), Value.int .u16 ((w2 xs 20 : Nat) : Int), Value.int .u16 ((w2 xs 22 : Nat) : Int)]) (v := Value.int .u16 ((w2 xs 22 : Nat) : Int)) (LL' := [[cb p4 [Value.int .u8 (((xs.getD 9 0).toNat : Nat) : Int), Value.int .u32 ((a4 xs 12 : Nat) : Int), Value.int .u32 ((a4 xs 16 : Nat) : Int), Value.int .u16 ((w2 xs 20 : Nat) : Int), Value.int .u16 ((w2 xs 22 : Nat) : Int)] 30], [cb p2 [Value.int .u8 0, Value.int .u32 0, Value.int .u32 0, Value.int .u16 0, Value.int .u16 0] 30]]) rfl rfl (by kernel_rfl) (by kernel_rfl) Try.sizeOf22 rfl rfl rfl (by simp) rfl rfl) (fun _ => ?_)
        refine Wl.nil ?_
        refine hK43 _ _ _ ?_
        refine W.prune' [2, 4] [Value.pointer (some ⟨p2, 0, none⟩), Value.pointer (some ⟨p4, 0, none⟩)] (by kernel_rfl) (fun f44 => ?_)
        refine W.seq (fun K45 hK45 => ?_)
        refine W.region ?_
        refine Wl.ys (v := Value.agg ([Value.int .u8 (((xs.getD 9 0).toNat : Nat) : Int), Value.int .u32 ((a4 xs 12 : Nat) : Int), Value.int .u32 ((a4 xs 16 : Nat) : Int), Value.int .u16 ((w2 xs 20 : Nat) : Int), Value.int .u16 ((w2 xs 22 : Nat) : Int)]).toArray) rfl rfl (Ys.loadN (b := p4) (o' := 0) (i := 0) (j := 0) (cs := [Value.int .u8 (((xs.getD 9 0).toNat : Nat) : Int), Value.int .u32 ((a4 xs 12 : Nat) : Int), Value.int .u32 ((a4 xs 16 : Nat) : Int), Value.int .u16 ((w2 xs 20 : Nat) : Int), Value.int .u16 ((w2 xs 22 : Nat) : Int)]) (vs := [Value.int .u8 (((xs.getD 9 0).toNat : Nat) : Int), Value.int .u32 ((a4 xs 12 : Nat) : Int), Value.int .u32 ((a4 xs 16 : Nat) : Int), Value.int .u16 ((w2 xs 20 : Nat) : Int), Value.int .u16 ((w2 xs 22 : Nat) : Int)]) rfl (by kernel_rfl) Try.isAgg30 Try.sizeOf30 rfl rfl rfl rfl) ?_
        refine Wl.ht rfl (Ht.storeN (b := p2) (o' := 0) (i := 1) (j := 0) (cs := [Value.int .u8 0, Value.int .u32 0, Value.int .u32 0, Value.int .u16 0, Value.int .u16 0]) (vs := [Value.int .u8 (((xs.getD 9 0).toNat : Nat) : Int), Value.int .u32 ((a4 xs 12 : Nat) : Int), Value.int .u32 ((a4 xs 16 : Nat) : Int), Value.int .u16 ((w2 xs 20 : Nat) : Int), Value.int .u16 ((w2 xs 22 : Nat) : Int)]) (cs' := [Value.int .u8 (((xs.getD 9 0).toNat : Nat) : Int), Value.int .u32 ((a4 xs 12 : Nat) : Int), Value.int .u32 ((a4 xs 16 : Nat) : Int), Value.int .u16 ((w2 xs 20 : Nat) : Int), Value.int .u16 ((w2 xs 22 : Nat) : Int)]) (LL' := [[cb p4 [Value.int .u8 (((xs.getD 9 0).toNat : Nat) : Int), Value.int .u32 ((a4 xs 12 : Nat) : Int), Value.int .u32 ((a4 xs 16 : Nat) : Int), Value.int .u16 ((w2 xs 20 : Nat) : Int), Value.int .u16 ((w2 xs 22 : Nat) : Int)] 30], [cb p2 [Value.int .u8 (((xs.getD 9 0).toNat : Nat) : Int), Value.int .u32 ((a4 xs 12 : Nat) : Int), Value.int .u32 ((a4 xs 16 : Nat) : Int), Value.int .u16 ((w2 xs 20 : Nat) : Int), Value.int .u16 ((w2 xs 22 : Nat) : Int)] 30]]) rfl rfl (by kernel_rfl) (by kernel_rfl) Try.sizeOf30 (by simp [Value.oneCell']) rfl rfl (by simp) rfl rfl) (fun _ => ?_)
        refine Wl.run 1 (by kernel_rfl) ?_
        refine Wl.nil ?_
        refine hK45 _ _ _ ?_
        refine W.pick (LL' := [[cb p2 [Value.int .u8 (((xs.getD 9 0).toNat : Nat) : Int), Value.int .u32 ((a4 xs 12 : Nat) : Int), Value.int .u32 ((a4 xs 16 : Nat) : Int), Value.int .u16 ((w2 xs 20 : Nat) : Int), Value.int .u16 ((w2 xs 22 : Nat) : Int)] 30]]) [1] (by decide) rfl ?_
        refine W.prune' [2, 3] [Value.pointer (some ⟨p2, 0, none⟩), Value.bool true] (by kernel_rfl) (fun f46 => ?_)
        refine W.ret ?_
        have hC_ : inC xs = false := h15
        obtain ⟨hO_, hF_, hT_⟩ := in_tu hC_ h39
        show ∀ w_, _ → bodyPostM (fence none) 0 Try.prog Try.f28 _ Exit.ret _ w_
        exact fun w_ hS_ => fin_ret (ret2 rfl (RV.cellN (b := p2) (o' := 0) (i := 0) (j := 0) (cs := [Value.int .u8 (((xs.getD 9 0).toNat : Nat) : Int), Value.int .u32 ((a4 xs 12 : Nat) : Int), Value.int .u32 ((a4 xs 16 : Nat) : Int), Value.int .u16 ((w2 xs 20 : Nat) : Int), Value.int .u16 ((w2 xs 22 : Nat) : Int)]) (vs := [Value.int .u8 (((xs.getD 9 0).toNat : Nat) : Int), Value.int .u32 ((a4 xs 12 : Nat) : Int), Value.int .u32 ((a4 xs 16 : Nat) : Int), Value.int .u16 ((w2 xs 20 : Nat) : Int), Value.int .u16 ((w2 xs 22 : Nat) : Int)]) (by kernel_rfl) Try.isAgg30 Try.sizeOf30 rfl rfl rfl rfl) (RV.tmp (v := Value.bool true) (by kernel_rfl)) hS_ ⟨by clear hK1 hK3 hK4 hK19 hK31 hK32 hK41 hK43 hK45; refine congrArg Ending.returned ?_; simp only [anU, anN, hO_, hF_, hT_, inP, inA, hC_, cond_true, cond_false]; try rfl, hS_.below⟩)
      · have qh40 := h40; try simp only [Bool.and_eq_true, Bool.or_eq_true, Bool.not_eq_true', Bool.not_eq_false', Bool.and_eq_false_iff, Bool.or_eq_false_iff, decide_eq_true_eq, decide_eq_false_iff_not, beq_iff_eq, bne_iff_ne, beq_eq_false_iff_ne, bne_eq_false_iff_eq] at qh40
        refine W.skip' ?_
        refine hK31 _ _ _ ?_
        refine W.prune' [0, 2, 4] [Value.slice a xs.length cap, Value.pointer (some ⟨p2, 0, none⟩), Value.pointer (some ⟨p4, 0, none⟩)] (by kernel_rfl) (fun f47 => ?_)
        refine W.seq (fun K48 hK48 => ?_)
        refine W.seq (fun K49 hK49 => ?_)
        refine W.region ?_
        refine Wl.run 1 (by kernel_rfl) ?_
        refine Wl.ys (v := Value.pointer (some (ela a 9))) rfl rfl (Ys.byMem fun w_ h_ => Ys.indexAddr (k := .i64) (a := a) (len := xs.length) (cap := cap) (i := 9) (sz := 1) rfl (by kernel_rfl) (by kernel_rfl) Try.runUnderlying25 Try.sizeOf5 (by omega) (by omega) ((hat.mem0 h_).here (by rw [mc_len]; first | omega | (simp; omega)))) ?_
        refine Wl.ys (v := Value.int .u8 (((xs.getD 9 0).toNat : Nat) : Int)) rfl rfl (Ys.ld (a := ela a 9) rfl (by kernel_rfl) Try.isAgg5 (fun w_ h_ => (hat.mem0 h_).ld (mc_get 0 (by first | omega | (simp; omega))))) ?_
        have hb50 : (xs.getD 9 0).toNat < 256 := UInt8.toNat_lt _
        refine Wl.run 2 (by kernel_rfl) ?_
        refine Wl.guard (v := Value.slice a xs.length cap) (!((((xs.getD 9 0).toNat : Nat) : Int) != 1)) rfl (wantF rfl (by kernel_rfl)) rfl (fun hg51 => ?_) ?_
        · have qhg51 := hg51; try simp only [Bool.and_eq_true, Bool.or_eq_true, Bool.not_eq_true', Bool.not_eq_false', Bool.and_eq_false_iff, Bool.or_eq_false_iff, decide_eq_true_eq, decide_eq_false_iff_not, beq_iff_eq, bne_iff_ne, beq_eq_false_iff_ne, bne_eq_false_iff_eq] at qhg51
          exact Ys.pure (fun _ => by kernel_rfl)
        refine Wl.guard (v := Value.pointer (some (ela a 21))) (!((((xs.getD 9 0).toNat : Nat) : Int) != 1)) rfl (wantF rfl (by kernel_rfl)) rfl (fun hg52 => ?_) ?_
        · have qhg52 := hg52; try simp only [Bool.and_eq_true, Bool.or_eq_true, Bool.not_eq_true', Bool.not_eq_false', Bool.and_eq_false_iff, Bool.or_eq_false_iff, decide_eq_true_eq, decide_eq_false_iff_not, beq_iff_eq, bne_iff_ne, beq_eq_false_iff_ne, bne_eq_false_iff_eq] at qhg52
          refine Ys.at (t := 51) (v0 := Value.slice a xs.length cap) (lz (g := !((((xs.getD 9 0).toNat : Nat) : Int) != 1)) (u := undef) hg52 (by kernel_rfl)) ?_
          exact Ys.byMem fun w_ h_ => Ys.indexAddr (k := .i64) (a := a) (len := xs.length) (cap := cap) (i := 21) (sz := 1) rfl (by kernel_rfl) (by kernel_rfl) Try.runUnderlying25 Try.sizeOf5 (by omega) (by omega) ((hat.mem0 h_).here (by rw [mc_len]; first | omega | (simp; omega)))
        refine Wl.guard (v := Value.int .u8 (((xs.getD 21 0).toNat : Nat) : Int)) (!((((xs.getD 9 0).toNat : Nat) : Int) != 1)) rfl (wantF rfl (by kernel_rfl)) rfl (fun hg53 => ?_) ?_
        · have qhg53 := hg53; try simp only [Bool.and_eq_true, Bool.or_eq_true, Bool.not_eq_true', Bool.not_eq_false', Bool.and_eq_false_iff, Bool.or_eq_false_iff, decide_eq_true_eq, decide_eq_false_iff_not, beq_iff_eq, bne_iff_ne, beq_eq_false_iff_ne, bne_eq_false_iff_eq] at qhg53
          refine Ys.at (t := 52) (v0 := Value.pointer (some (ela a 21))) (lz (g := !((((xs.getD 9 0).toNat : Nat) : Int) != 1)) (u := undef) hg53 (by kernel_rfl)) ?_
          exact Ys.ld (a := ela a 21) rfl (by kernel_rfl) Try.isAgg5 (fun w_ h_ => (hat.mem0 h_).ld (mc_get 0 (by first | omega | (simp; omega))))
        refine Wl.guard (v := Value.bool ((((xs.getD 21 0).toNat : Nat) : Int) != 0)) (!((((xs.getD 9 0).toNat : Nat) : Int) != 1)) rfl (wantF rfl (by kernel_rfl)) rfl (fun hg54 => ?_) ?_
        · have qhg54 := hg54; try simp only [Bool.and_eq_true, Bool.or_eq_true, Bool.not_eq_true', Bool.not_eq_false', Bool.and_eq_false_iff, Bool.or_eq_false_iff, decide_eq_true_eq, decide_eq_false_iff_not, beq_iff_eq, bne_iff_ne, beq_eq_false_iff_ne, bne_eq_false_iff_eq] at qhg54
          refine Ys.at (t := 53) (v0 := Value.int .u8 (((xs.getD 21 0).toNat : Nat) : Int)) (lz (g := !((((xs.getD 9 0).toNat : Nat) : Int) != 1)) (u := undef) hg54 (by kernel_rfl)) ?_
          exact Ys.pure (fun _ => by kernel_rfl)
        refine Wl.ys (v := Value.bool (((((xs.getD 9 0).toNat : Nat) : Int) != 1) || ((((xs.getD 21 0).toNat : Nat) : Int) != 0))) rfl rfl (Ys.or' (e := (((xs.getD 9 0).toNat : Nat) : Int) != 1) (b := (((xs.getD 21 0).toNat : Nat) : Int) != 0) rfl (by kernel_rfl) (by kernel_rfl) (by kernel_rfl)) ?_
        refine Wl.run 1 (by kernel_rfl) ?_
        refine Wl.guard (v := Value.slice a xs.length cap) (!(((((xs.getD 9 0).toNat : Nat) : Int) != 1) || ((((xs.getD 21 0).toNat : Nat) : Int) != 0))) rfl (wantF rfl (by kernel_rfl)) rfl (fun hg55 => ?_) ?_
        · have qhg55 := hg55; try simp only [Bool.and_eq_true, Bool.or_eq_true, Bool.not_eq_true', Bool.not_eq_false', Bool.and_eq_false_iff, Bool.or_eq_false_iff, decide_eq_true_eq, decide_eq_false_iff_not, beq_iff_eq, bne_iff_ne, beq_eq_false_iff_ne, bne_eq_false_iff_eq] at qhg55
          exact Ys.pure (fun _ => by kernel_rfl)
        refine Wl.guard (v := Value.pointer (some (ela a 20))) (!(((((xs.getD 9 0).toNat : Nat) : Int) != 1) || ((((xs.getD 21 0).toNat : Nat) : Int) != 0))) rfl (wantF rfl (by kernel_rfl)) rfl (fun hg56 => ?_) ?_
        · have qhg56 := hg56; try simp only [Bool.and_eq_true, Bool.or_eq_true, Bool.not_eq_true', Bool.not_eq_false', Bool.and_eq_false_iff, Bool.or_eq_false_iff, decide_eq_true_eq, decide_eq_false_iff_not, beq_iff_eq, bne_iff_ne, beq_eq_false_iff_ne, bne_eq_false_iff_eq] at qhg56
          refine Ys.at (t := 57) (v0 := Value.slice a xs.length cap) (lz (g := !(((((xs.getD 9 0).toNat : Nat) : Int) != 1) || ((((xs.getD 21 0).toNat : Nat) : Int) != 0))) (u := undef) hg56 (by kernel_rfl)) ?_
          exact Ys.byMem fun w_ h_ => Ys.indexAddr (k := .i64) (a := a) (len := xs.length) (cap := cap) (i := 20) (sz := 1) rfl (by kernel_rfl) (by kernel_rfl) Try.runUnderlying25 Try.sizeOf5 (by omega) (by omega) ((hat.mem0 h_).here (by rw [mc_len]; first | omega | (simp; omega)))
        refine Wl.guard (v := Value.int .u8 (((xs.getD 20 0).toNat : Nat) : Int)) (!(((((xs.getD 9 0).toNat : Nat) : Int) != 1) || ((((xs.getD 21 0).toNat : Nat) : Int) != 0))) rfl (wantF rfl (by kernel_rfl)) rfl (fun hg57 => ?_) ?_
        · have qhg57 := hg57; try simp only [Bool.and_eq_true, Bool.or_eq_true, Bool.not_eq_true', Bool.not_eq_false', Bool.and_eq_false_iff, Bool.or_eq_false_iff, decide_eq_true_eq, decide_eq_false_iff_not, beq_iff_eq, bne_iff_ne, beq_eq_false_iff_ne, bne_eq_false_iff_eq] at qhg57
          refine Ys.at (t := 58) (v0 := Value.pointer (some (ela a 20))) (lz (g := !(((((xs.getD 9 0).toNat : Nat) : Int) != 1) || ((((xs.getD 21 0).toNat : Nat) : Int) != 0))) (u := undef) hg57 (by kernel_rfl)) ?_
          exact Ys.ld (a := ela a 20) rfl (by kernel_rfl) Try.isAgg5 (fun w_ h_ => (hat.mem0 h_).ld (mc_get 0 (by first | omega | (simp; omega))))
        refine Wl.guard (v := Value.bool ((((xs.getD 20 0).toNat : Nat) : Int) != 0)) (!(((((xs.getD 9 0).toNat : Nat) : Int) != 1) || ((((xs.getD 21 0).toNat : Nat) : Int) != 0))) rfl (wantF rfl (by kernel_rfl)) rfl (fun hg58 => ?_) ?_
        · have qhg58 := hg58; try simp only [Bool.and_eq_true, Bool.or_eq_true, Bool.not_eq_true', Bool.not_eq_false', Bool.and_eq_false_iff, Bool.or_eq_false_iff, decide_eq_true_eq, decide_eq_false_iff_not, beq_iff_eq, bne_iff_ne, beq_eq_false_iff_ne, bne_eq_false_iff_eq] at qhg58
          refine Ys.at (t := 59) (v0 := Value.int .u8 (((xs.getD 20 0).toNat : Nat) : Int)) (lz (g := !(((((xs.getD 9 0).toNat : Nat) : Int) != 1) || ((((xs.getD 21 0).toNat : Nat) : Int) != 0))) (u := undef) hg58 (by kernel_rfl)) ?_
          exact Ys.pure (fun _ => by kernel_rfl)
        refine Wl.guard (v := Value.bool ((((xs.getD 20 0).toNat : Nat) : Int) != 0)) (!(((((xs.getD 9 0).toNat : Nat) : Int) != 1) || ((((xs.getD 21 0).toNat : Nat) : Int) != 0))) rfl (wantF rfl (by kernel_rfl)) rfl (fun hg59 => ?_) ?_
        · have qhg59 := hg59; try simp only [Bool.and_eq_true, Bool.or_eq_true, Bool.not_eq_true', Bool.not_eq_false', Bool.and_eq_false_iff, Bool.or_eq_false_iff, decide_eq_true_eq, decide_eq_false_iff_not, beq_iff_eq, bne_iff_ne, beq_eq_false_iff_ne, bne_eq_false_iff_eq] at qhg59
          refine Ys.at (t := 60) (v0 := Value.bool ((((xs.getD 20 0).toNat : Nat) : Int) != 0)) (lz (g := !(((((xs.getD 9 0).toNat : Nat) : Int) != 1) || ((((xs.getD 21 0).toNat : Nat) : Int) != 0))) (u := undef) hg59 (by kernel_rfl)) ?_
          exact Ys.pure (fun _ => by kernel_rfl)
        refine Wl.guard (v := Value.slice a xs.length cap) ((!(((((xs.getD 9 0).toNat : Nat) : Int) != 1) || ((((xs.getD 21 0).toNat : Nat) : Int) != 0))) && ((((xs.getD 20 0).toNat : Nat) : Int) != 0)) rfl (wantTz rfl rfl (by kernel_rfl)) rfl (fun hg60 => ?_) ?_
        · have qhg60 := hg60; try simp only [Bool.and_eq_true, Bool.or_eq_true, Bool.not_eq_true', Bool.not_eq_false', Bool.and_eq_false_iff, Bool.or_eq_false_iff, decide_eq_true_eq, decide_eq_false_iff_not, beq_iff_eq, bne_iff_ne, beq_eq_false_iff_ne, bne_eq_false_iff_eq] at qhg60
          exact Ys.pure (fun _ => by kernel_rfl)
        refine Wl.guard (v := Value.pointer (some (ela a 20))) ((!(((((xs.getD 9 0).toNat : Nat) : Int) != 1) || ((((xs.getD 21 0).toNat : Nat) : Int) != 0))) && ((((xs.getD 20 0).toNat : Nat) : Int) != 0)) rfl (wantTz rfl rfl (by kernel_rfl)) rfl (fun hg61 => ?_) ?_
        · have qhg61 := hg61; try simp only [Bool.and_eq_true, Bool.or_eq_true, Bool.not_eq_true', Bool.not_eq_false', Bool.and_eq_false_iff, Bool.or_eq_false_iff, decide_eq_true_eq, decide_eq_false_iff_not, beq_iff_eq, bne_iff_ne, beq_eq_false_iff_ne, bne_eq_false_iff_eq] at qhg61
          refine Ys.at (t := 62) (v0 := Value.slice a xs.length cap) (lz (g := (!(((((xs.getD 9 0).toNat : Nat) : Int) != 1) || ((((xs.getD 21 0).toNat : Nat) : Int) != 0))) && ((((xs.getD 20 0).toNat : Nat) : Int) != 0)) (u := undef) hg61 (by kernel_rfl)) ?_
          exact Ys.byMem fun w_ h_ => Ys.indexAddr (k := .i64) (a := a) (len := xs.length) (cap := cap) (i := 20) (sz := 1) rfl (by kernel_rfl) (by kernel_rfl) Try.runUnderlying25 Try.sizeOf5 (by omega) (by omega) ((hat.mem0 h_).here (by rw [mc_len]; first | omega | (simp; omega)))
        refine Wl.guard (v := Value.int .u8 (((xs.getD 20 0).toNat : Nat) : Int)) ((!(((((xs.getD 9 0).toNat : Nat) : Int) != 1) || ((((xs.getD 21 0).toNat : Nat) : Int) != 0))) && ((((xs.getD 20 0).toNat : Nat) : Int) != 0)) rfl (wantTz rfl rfl (by kernel_rfl)) rfl (fun hg62 => ?_) ?_
        · have qhg62 := hg62; try simp only [Bool.and_eq_true, Bool.or_eq_true, Bool.not_eq_true', Bool.not_eq_false', Bool.and_eq_false_iff, Bool.or_eq_false_iff, decide_eq_true_eq, decide_eq_false_iff_not, beq_iff_eq, bne_iff_ne, beq_eq_false_iff_ne, bne_eq_false_iff_eq] at qhg62
          refine Ys.at (t := 63) (v0 := Value.pointer (some (ela a 20))) (lz (g := (!(((((xs.getD 9 0).toNat : Nat) : Int) != 1) || ((((xs.getD 21 0).toNat : Nat) : Int) != 0))) && ((((xs.getD 20 0).toNat : Nat) : Int) != 0)) (u := undef) hg62 (by kernel_rfl)) ?_
          exact Ys.ld (a := ela a 20) rfl (by kernel_rfl) Try.isAgg5 (fun w_ h_ => (hat.mem0 h_).ld (mc_get 0 (by first | omega | (simp; omega))))
        refine Wl.guard (v := Value.bool ((((xs.getD 20 0).toNat : Nat) : Int) != 8)) ((!(((((xs.getD 9 0).toNat : Nat) : Int) != 1) || ((((xs.getD 21 0).toNat : Nat) : Int) != 0))) && ((((xs.getD 20 0).toNat : Nat) : Int) != 0)) rfl (wantTz rfl rfl (by kernel_rfl)) rfl (fun hg63 => ?_) ?_
        · have qhg63 := hg63; try simp only [Bool.and_eq_true, Bool.or_eq_true, Bool.not_eq_true', Bool.not_eq_false', Bool.and_eq_false_iff, Bool.or_eq_false_iff, decide_eq_true_eq, decide_eq_false_iff_not, beq_iff_eq, bne_iff_ne, beq_eq_false_iff_ne, bne_eq_false_iff_eq] at qhg63
          refine Ys.at (t := 64) (v0 := Value.int .u8 (((xs.getD 20 0).toNat : Nat) : Int)) (lz (g := (!(((((xs.getD 9 0).toNat : Nat) : Int) != 1) || ((((xs.getD 21 0).toNat : Nat) : Int) != 0))) && ((((xs.getD 20 0).toNat : Nat) : Int) != 0)) (u := undef) hg63 (by kernel_rfl)) ?_
          exact Ys.pure (fun _ => by kernel_rfl)
        refine Wl.guard (v := Value.bool (((((xs.getD 20 0).toNat : Nat) : Int) != 0) && ((((xs.getD 20 0).toNat : Nat) : Int) != 8))) (!(((((xs.getD 9 0).toNat : Nat) : Int) != 1) || ((((xs.getD 21 0).toNat : Nat) : Int) != 0))) rfl (wantF rfl (by kernel_rfl)) rfl (fun hg64 => ?_) ?_
        · have qhg64 := hg64; try simp only [Bool.and_eq_true, Bool.or_eq_true, Bool.not_eq_true', Bool.not_eq_false', Bool.and_eq_false_iff, Bool.or_eq_false_iff, decide_eq_true_eq, decide_eq_false_iff_not, beq_iff_eq, bne_iff_ne, beq_eq_false_iff_ne, bne_eq_false_iff_eq] at qhg64
          refine Ys.at (t := 61) (v0 := Value.bool ((((xs.getD 20 0).toNat : Nat) : Int) != 0)) (lz (g := !(((((xs.getD 9 0).toNat : Nat) : Int) != 1) || ((((xs.getD 21 0).toNat : Nat) : Int) != 0))) (u := undef) hg64 (by kernel_rfl)) ?_
          refine Ys.at (t := 65) (v0 := (bif (((xs.getD 20 0).toNat : Nat) : Int) != 0 then Value.bool ((((xs.getD 20 0).toNat : Nat) : Int) != 8) else undef)) (lz2 (g := !(((((xs.getD 9 0).toNat : Nat) : Int) != 1) || ((((xs.getD 21 0).toNat : Nat) : Int) != 0))) hg64 (by kernel_rfl)) ?_
          exact Ys.and (e := (((xs.getD 20 0).toNat : Nat) : Int) != 0) (b := (((xs.getD 20 0).toNat : Nat) : Int) != 8) rfl (by kernel_rfl) (by kernel_rfl) (by kernel_rfl)
        refine Wl.ys (v := Value.bool ((((((xs.getD 9 0).toNat : Nat) : Int) != 1) || ((((xs.getD 21 0).toNat : Nat) : Int) != 0)) || (((((xs.getD 20 0).toNat : Nat) : Int) != 0) && ((((xs.getD 20 0).toNat : Nat) : Int) != 8)))) rfl rfl (Ys.or' (e := ((((xs.getD 9 0).toNat : Nat) : Int) != 1) || ((((xs.getD 21 0).toNat : Nat) : Int) != 0)) (b := ((((xs.getD 20 0).toNat : Nat) : Int) != 0) && ((((xs.getD 20 0).toNat : Nat) : Int) != 8)) rfl (by kernel_rfl) (by kernel_rfl) (by kernel_rfl)) ?_
        refine Wl.nil ?_
        refine hK49 _ _ _ ?_
        refine W.prune' [0, 2, 4, 67] [Value.slice a xs.length cap, Value.pointer (some ⟨p2, 0, none⟩), Value.pointer (some ⟨p4, 0, none⟩), Value.bool ((((((xs.getD 9 0).toNat : Nat) : Int) != 1) || ((((xs.getD 21 0).toNat : Nat) : Int) != 0)) || (((((xs.getD 20 0).toNat : Nat) : Int) != 0) && ((((xs.getD 20 0).toNat : Nat) : Int) != 8)))] (by kernel_rfl) (fun f65 => ?_)
        refine W.cond ((((((xs.getD 9 0).toNat : Nat) : Int) != 1) || ((((xs.getD 21 0).toNat : Nat) : Int) != 0)) || (((((xs.getD 20 0).toNat : Nat) : Int) != 0) && ((((xs.getD 20 0).toNat : Nat) : Int) != 8))) (by kernel_rfl) (fun h66 => ?_) (fun h67 => ?_)
        · have qh66 := h66; try simp only [Bool.and_eq_true, Bool.or_eq_true, Bool.not_eq_true', Bool.not_eq_false', Bool.and_eq_false_iff, Bool.or_eq_false_iff, decide_eq_true_eq, decide_eq_false_iff_not, beq_iff_eq, bne_iff_ne, beq_eq_false_iff_ne, bne_eq_false_iff_eq] at qh66
          refine W.seq (fun K68 hK68 => ?_)
          refine W.region ?_
          refine Wl.run 1 (by kernel_rfl) ?_
          refine Wl.ht rfl (Ht.storeN (b := p2) (o' := 0) (i := 1) (j := 0) (cs := [Value.int .u8 0, Value.int .u32 0, Value.int .u32 0, Value.int .u16 0, Value.int .u16 0]) (vs := [Value.int .u8 0, Value.int .u32 0, Value.int .u32 0, Value.int .u16 0, Value.int .u16 0]) (cs' := [Value.int .u8 0, Value.int .u32 0, Value.int .u32 0, Value.int .u16 0, Value.int .u16 0]) (LL' := [[cb p4 [Value.int .u8 (((xs.getD 9 0).toNat : Nat) : Int), Value.int .u32 ((a4 xs 12 : Nat) : Int), Value.int .u32 ((a4 xs 16 : Nat) : Int), Value.int .u16 0, Value.int .u16 0] 30], [cb p2 [Value.int .u8 0, Value.int .u32 0, Value.int .u32 0, Value.int .u16 0, Value.int .u16 0] 30]]) rfl rfl (by kernel_rfl) (by kernel_rfl) Try.sizeOf30 (by simp [Value.oneCell']) rfl rfl (by simp) rfl rfl) (fun _ => ?_)
          refine Wl.run 1 (by kernel_rfl) ?_
          refine Wl.nil ?_
          refine hK68 _ _ _ ?_
          refine W.pick (LL' := [[cb p2 [Value.int .u8 0, Value.int .u32 0, Value.int .u32 0, Value.int .u16 0, Value.int .u16 0] 30]]) [1] (by decide) rfl ?_
          refine W.prune' [2, 3] [Value.pointer (some ⟨p2, 0, none⟩), Value.bool false] (by kernel_rfl) (fun f69 => ?_)
          refine W.ret ?_
          have hC_ : inC xs = false := h15
          have hO_ := in_no h40 h66
          show ∀ w_, _ → bodyPostM (fence none) 0 Try.prog Try.f28 _ Exit.ret _ w_
          exact fun w_ hS_ => fin_ret (ret2 rfl (RV.cellN (b := p2) (o' := 0) (i := 0) (j := 0) (cs := [Value.int .u8 0, Value.int .u32 0, Value.int .u32 0, Value.int .u16 0, Value.int .u16 0]) (vs := [Value.int .u8 0, Value.int .u32 0, Value.int .u32 0, Value.int .u16 0, Value.int .u16 0]) (by kernel_rfl) Try.isAgg30 Try.sizeOf30 rfl rfl rfl rfl) (RV.tmp (v := Value.bool false) (by kernel_rfl)) hS_ ⟨by clear hK1 hK3 hK4 hK19 hK31 hK32 hK48 hK49 hK68; refine congrArg Ending.returned ?_; simp only [anU, anN, hO_, cond_false]; rfl, hS_.below⟩)
        · have qh67 := h67; try simp only [Bool.and_eq_true, Bool.or_eq_true, Bool.not_eq_true', Bool.not_eq_false', Bool.and_eq_false_iff, Bool.or_eq_false_iff, decide_eq_true_eq, decide_eq_false_iff_not, beq_iff_eq, bne_iff_ne, beq_eq_false_iff_ne, bne_eq_false_iff_eq] at qh67
          refine W.skip' ?_
          refine hK48 _ _ _ ?_
          refine W.prune' [0, 2, 4] [Value.slice a xs.length cap, Value.pointer (some ⟨p2, 0, none⟩), Value.pointer (some ⟨p4, 0, none⟩)] (by kernel_rfl) (fun f70 => ?_)
          refine W.seq (fun K71 hK71 => ?_)
          refine W.seq (fun K72 hK72 => ?_)
          refine W.region ?_
          refine Wl.run 1 (by kernel_rfl) ?_
          refine Wl.ys (v := Value.pointer (some (ela a 20))) rfl rfl (Ys.byMem fun w_ h_ => Ys.indexAddr (k := .i64) (a := a) (len := xs.length) (cap := cap) (i := 20) (sz := 1) rfl (by kernel_rfl) (by kernel_rfl) Try.runUnderlying25 Try.sizeOf5 (by omega) (by omega) ((hat.mem0 h_).here (by rw [mc_len]; first | omega | (simp; omega)))) ?_
          refine Wl.ys (v := Value.int .u8 (((xs.getD 20 0).toNat : Nat) : Int)) rfl rfl (Ys.ld (a := ela a 20) rfl (by kernel_rfl) Try.isAgg5 (fun w_ h_ => (hat.mem0 h_).ld (mc_get 0 (by first | omega | (simp; omega))))) ?_
          have hb73 : (xs.getD 20 0).toNat < 256 := UInt8.toNat_lt _
          refine Wl.run 1 (by kernel_rfl) ?_
          refine Wl.nil ?_
          refine hK72 _ _ _ ?_
          refine W.prune' [0, 2, 4, 72] [Value.slice a xs.length cap, Value.pointer (some ⟨p2, 0, none⟩), Value.pointer (some ⟨p4, 0, none⟩), Value.bool ((((xs.getD 20 0).toNat : Nat) : Int) == 8)] (by kernel_rfl) (fun f74 => ?_)
          refine W.cond ((((xs.getD 20 0).toNat : Nat) : Int) == 8) (by kernel_rfl) (fun h75 => ?_) (fun h76 => ?_)
          · have qh75 := h75; try simp only [Bool.and_eq_true, Bool.or_eq_true, Bool.not_eq_true', Bool.not_eq_false', Bool.and_eq_false_iff, Bool.or_eq_false_iff, decide_eq_true_eq, decide_eq_false_iff_not, beq_iff_eq, bne_iff_ne, beq_eq_false_iff_ne, bne_eq_false_iff_eq] at qh75
            refine W.region ?_
            refine Wl.run 1 (by kernel_rfl) ?_
            refine Wl.yc (v := Value.int .u16 ((w2 xs 24 : Nat) : Int)) rfl rfl (Yc.call (k := 56) (args := #[Value.slice a xs.length cap, Value.int .i64 24]) (fun _ => by kernel_rfl) (fun w_ hm_ => (rwordn_c xs a cap 24 xs.length _ (by first | rfl | (rw [List.length_take]; omega) | (simp; done) | (simp [be_len, be_len, psh_len]; omega)) (hat.mem0 hm_) (by omega) (by omega) (by first | omega | (simp; omega))))) ?_
            refine Wl.run 1 (by kernel_rfl) ?_
            refine Wl.ht rfl (Ht.store (b := p4) (o' := 3) (i := 0) (j := 0) (cs := [Value.int .u8 (((xs.getD 9 0).toNat : Nat) : Int), Value.int .u32 ((a4 xs 12 : Nat) : Int), Value.int .u32 ((a4 xs 16 : Nat) : Int), Value.int .u16 0, Value.int .u16 0]) (cs' := [Value.int .u8 (((xs.getD 9 0).toNat : Nat) : Int), Value.int .u32 ((a4 xs 12 : Nat) : Int), Value.int .u32 ((a4 xs 16 : Nat) : Int), Value.int .u16 ((w2 xs 24 : Nat) : Int), Value.int .u16 0]) (v := Value.int .u16 ((w2 xs 24 : Nat) : Int)) (LL' := [[cb p4 [Value.int .u8 (((xs.getD 9 0).toNat : Nat) : Int), Value.int .u32 ((a4 xs 12 : Nat) : Int), Value.int .u32 ((a4 xs 16 : Nat) : Int), Value.int .u16 ((w2 xs 24 : Nat) : Int), Value.int .u16 0] 30], [cb p2 [Value.int .u8 0, Value.int .u32 0, Value.int .u32 0, Value.int .u16 0, Value.int .u16 0] 30]]) rfl rfl (by kernel_rfl) (by kernel_rfl) Try.sizeOf22 rfl rfl rfl (by simp) rfl rfl) (fun _ => ?_)
            refine Wl.nil ?_
            refine hK71 _ _ _ ?_
            refine W.prune' [2, 4] [Value.pointer (some ⟨p2, 0, none⟩), Value.pointer (some ⟨p4, 0, none⟩)] (by kernel_rfl) (fun f77 => ?_)
            refine W.seq (fun K78 hK78 => ?_)
            refine W.region ?_
            refine Wl.ys (v := Value.agg ([Value.int .u8 (((xs.getD 9 0).toNat : Nat) : Int), Value.int .u32 ((a4 xs 12 : Nat) : Int), Value.int .u32 ((a4 xs 16 : Nat) : Int), Value.int .u16 ((w2 xs 24 : Nat) : Int), Value.int .u16 0]).toArray) rfl rfl (Ys.loadN (b := p4) (o' := 0) (i := 0) (j := 0) (cs := [Value.int .u8 (((xs.getD 9 0).toNat : Nat) : Int), Value.int .u32 ((a4 xs 12 : Nat) : Int), Value.int .u32 ((a4 xs 16 : Nat) : Int), Value.int .u16 ((w2 xs 24 : Nat) : Int), Value.int .u16 0]) (vs := [Value.int .u8 (((xs.getD 9 0).toNat : Nat) : Int), Value.int .u32 ((a4 xs 12 : Nat) : Int), Value.int .u32 ((a4 xs 16 : Nat) : Int), Value.int .u16 ((w2 xs 24 : Nat) : Int), Value.int .u16 0]) rfl (by kernel_rfl) Try.isAgg30 Try.sizeOf30 rfl rfl rfl rfl) ?_
            refine Wl.ht rfl (Ht.storeN (b := p2) (o' := 0) (i := 1) (j := 0) (cs := [Value.int .u8 0, Value.int .u32 0, Value.int .u32 0, Value.int .u16 0, Value.int .u16 0]) (vs := [Value.int .u8 (((xs.getD 9 0).toNat : Nat) : Int), Value.int .u32 ((a4 xs 12 : Nat) : Int), Value.int .u32 ((a4 xs 16 : Nat) : Int), Value.int .u16 ((w2 xs 24 : Nat) : Int), Value.int .u16 0]) (cs' := [Value.int .u8 (((xs.getD 9 0).toNat : Nat) : Int), Value.int .u32 ((a4 xs 12 : Nat) : Int), Value.int .u32 ((a4 xs 16 : Nat) : Int), Value.int .u16 ((w2 xs 24 : Nat) : Int), Value.int .u16 0]) (LL' := [[cb p4 [Value.int .u8 (((xs.getD 9 0).toNat : Nat) : Int), Value.int .u32 ((a4 xs 12 : Nat) : Int), Value.int .u32 ((a4 xs 16 : Nat) : Int), Value.int .u16 ((w2 xs 24 : Nat) : Int), Value.int .u16 0] 30], [cb p2 [Value.int .u8 (((xs.getD 9 0).toNat : Nat) : Int), Value.int .u32 ((a4 xs 12 : Nat) : Int), Value.int .u32 ((a4 xs 16 : Nat) : Int), Value.int .u16 ((w2 xs 24 : Nat) : Int), Value.int .u16 0] 30]]) rfl rfl (by kernel_rfl) (by kernel_rfl) Try.sizeOf30 (by simp [Value.oneCell']) rfl rfl (by simp) rfl rfl) (fun _ => ?_)
            refine Wl.run 1 (by kernel_rfl) ?_
            refine Wl.nil ?_
            refine hK78 _ _ _ ?_
            refine W.pick (LL' := [[cb p2 [Value.int .u8 (((xs.getD 9 0).toNat : Nat) : Int), Value.int .u32 ((a4 xs 12 : Nat) : Int), Value.int .u32 ((a4 xs 16 : Nat) : Int), Value.int .u16 ((w2 xs 24 : Nat) : Int), Value.int .u16 0] 30]]) [1] (by decide) rfl ?_
            refine W.prune' [2, 3] [Value.pointer (some ⟨p2, 0, none⟩), Value.bool true] (by kernel_rfl) (fun f79 => ?_)
            refine W.ret ?_
            have hC_ : inC xs = false := h15
            obtain ⟨hO_, hF_, hT_⟩ := in_yes hC_ h40 h67
            have hA_ : ecA (xs.getD 20 0) = true := h75
            show ∀ w_, _ → bodyPostM (fence none) 0 Try.prog Try.f28 _ Exit.ret _ w_
            exact fun w_ hS_ => fin_ret (ret2 rfl (RV.cellN (b := p2) (o' := 0) (i := 0) (j := 0) (cs := [Value.int .u8 (((xs.getD 9 0).toNat : Nat) : Int), Value.int .u32 ((a4 xs 12 : Nat) : Int), Value.int .u32 ((a4 xs 16 : Nat) : Int), Value.int .u16 ((w2 xs 24 : Nat) : Int), Value.int .u16 0]) (vs := [Value.int .u8 (((xs.getD 9 0).toNat : Nat) : Int), Value.int .u32 ((a4 xs 12 : Nat) : Int), Value.int .u32 ((a4 xs 16 : Nat) : Int), Value.int .u16 ((w2 xs 24 : Nat) : Int), Value.int .u16 0]) (by kernel_rfl) Try.isAgg30 Try.sizeOf30 rfl rfl rfl rfl) (RV.tmp (v := Value.bool true) (by kernel_rfl)) hS_ ⟨by clear hK1 hK3 hK4 hK19 hK31 hK32 hK48 hK49 hK71 hK72 hK78; refine congrArg Ending.returned ?_; simp only [anU, anN, hO_, hF_, hT_, hA_, sel, inP, inA, hC_, cond_true, cond_false]; try rfl, hS_.below⟩)
          · have qh76 := h76; try simp only [Bool.and_eq_true, Bool.or_eq_true, Bool.not_eq_true', Bool.not_eq_false', Bool.and_eq_false_iff, Bool.or_eq_false_iff, decide_eq_true_eq, decide_eq_false_iff_not, beq_iff_eq, bne_iff_ne, beq_eq_false_iff_ne, bne_eq_false_iff_eq] at qh76
            refine W.region ?_
            refine Wl.run 1 (by kernel_rfl) ?_
            refine Wl.yc (v := Value.int .u16 ((w2 xs 24 : Nat) : Int)) rfl rfl (Yc.call (k := 56) (args := #[Value.slice a xs.length cap, Value.int .i64 24]) (fun _ => by kernel_rfl) (fun w_ hm_ => (rwordn_c xs a cap 24 xs.length _ (by first | rfl | (rw [List.length_take]; omega) | (simp; done) | (simp [be_len, be_len, psh_len]; omega)) (hat.mem0 hm_) (by omega) (by omega) (by first | omega | (simp; omega))))) ?_
            refine Wl.run 1 (by kernel_rfl) ?_
            refine Wl.ht rfl (Ht.store (b := p4) (o' := 4) (i := 0) (j := 0) (cs := [Value.int .u8 (((xs.getD 9 0).toNat : Nat) : Int), Value.int .u32 ((a4 xs 12 : Nat) : Int), Value.int .u32 ((a4 xs 16 : Nat) : Int), Value.int .u16 0, Value.int .u16 0]) (cs' := [Value.int .u8 (((xs.getD 9 0).toNat : Nat) : Int), Value.int .u32 ((a4 xs 12 : Nat) : Int), Value.int .u32 ((a4 xs 16 : Nat) : Int), Value.int .u16 0, Value.int .u16 ((w2 xs 24 : Nat) : Int)]) (v := Value.int .u16 ((w2 xs 24 : Nat) : Int)) (LL' := [[cb p4 [Value.int .u8 (((xs.getD 9 0).toNat : Nat) : Int), Value.int .u32 ((a4 xs 12 : Nat) : Int), Value.int .u32 ((a4 xs 16 : Nat) : Int), Value.int .u16 0, Value.int .u16 ((w2 xs 24 : Nat) : Int)] 30], [cb p2 [Value.int .u8 0, Value.int .u32 0, Value.int .u32 0, Value.int .u16 0, Value.int .u16 0] 30]]) rfl rfl (by kernel_rfl) (by kernel_rfl) Try.sizeOf22 rfl rfl rfl (by simp) rfl rfl) (fun _ => ?_)
            refine Wl.nil ?_
            refine hK71 _ _ _ ?_
            refine W.prune' [2, 4] [Value.pointer (some ⟨p2, 0, none⟩), Value.pointer (some ⟨p4, 0, none⟩)] (by kernel_rfl) (fun f80 => ?_)
            refine W.seq (fun K81 hK81 => ?_)
            refine W.region ?_
            refine Wl.ys (v := Value.agg ([Value.int .u8 (((xs.getD 9 0).toNat : Nat) : Int), Value.int .u32 ((a4 xs 12 : Nat) : Int), Value.int .u32 ((a4 xs 16 : Nat) : Int), Value.int .u16 0, Value.int .u16 ((w2 xs 24 : Nat) : Int)]).toArray) rfl rfl (Ys.loadN (b := p4) (o' := 0) (i := 0) (j := 0) (cs := [Value.int .u8 (((xs.getD 9 0).toNat : Nat) : Int), Value.int .u32 ((a4 xs 12 : Nat) : Int), Value.int .u32 ((a4 xs 16 : Nat) : Int), Value.int .u16 0, Value.int .u16 ((w2 xs 24 : Nat) : Int)]) (vs := [Value.int .u8 (((xs.getD 9 0).toNat : Nat) : Int), Value.int .u32 ((a4 xs 12 : Nat) : Int), Value.int .u32 ((a4 xs 16 : Nat) : Int), Value.int .u16 0, Value.int .u16 ((w2 xs 24 : Nat) : Int)]) rfl (by kernel_rfl) Try.isAgg30 Try.sizeOf30 rfl rfl rfl rfl) ?_
            refine Wl.ht rfl (Ht.storeN (b := p2) (o' := 0) (i := 1) (j := 0) (cs := [Value.int .u8 0, Value.int .u32 0, Value.int .u32 0, Value.int .u16 0, Value.int .u16 0]) (vs := [Value.int .u8 (((xs.getD 9 0).toNat : Nat) : Int), Value.int .u32 ((a4 xs 12 : Nat) : Int), Value.int .u32 ((a4 xs 16 : Nat) : Int), Value.int .u16 0, Value.int .u16 ((w2 xs 24 : Nat) : Int)]) (cs' := [Value.int .u8 (((xs.getD 9 0).toNat : Nat) : Int), Value.int .u32 ((a4 xs 12 : Nat) : Int), Value.int .u32 ((a4 xs 16 : Nat) : Int), Value.int .u16 0, Value.int .u16 ((w2 xs 24 : Nat) : Int)]) (LL' := [[cb p4 [Value.int .u8 (((xs.getD 9 0).toNat : Nat) : Int), Value.int .u32 ((a4 xs 12 : Nat) : Int), Value.int .u32 ((a4 xs 16 : Nat) : Int), Value.int .u16 0, Value.int .u16 ((w2 xs 24 : Nat) : Int)] 30], [cb p2 [Value.int .u8 (((xs.getD 9 0).toNat : Nat) : Int), Value.int .u32 ((a4 xs 12 : Nat) : Int), Value.int .u32 ((a4 xs 16 : Nat) : Int), Value.int .u16 0, Value.int .u16 ((w2 xs 24 : Nat) : Int)] 30]]) rfl rfl (by kernel_rfl) (by kernel_rfl) Try.sizeOf30 (by simp [Value.oneCell']) rfl rfl (by simp) rfl rfl) (fun _ => ?_)
            refine Wl.run 1 (by kernel_rfl) ?_
            refine Wl.nil ?_
            refine hK81 _ _ _ ?_
            refine W.pick (LL' := [[cb p2 [Value.int .u8 (((xs.getD 9 0).toNat : Nat) : Int), Value.int .u32 ((a4 xs 12 : Nat) : Int), Value.int .u32 ((a4 xs 16 : Nat) : Int), Value.int .u16 0, Value.int .u16 ((w2 xs 24 : Nat) : Int)] 30]]) [1] (by decide) rfl ?_
            refine W.prune' [2, 3] [Value.pointer (some ⟨p2, 0, none⟩), Value.bool true] (by kernel_rfl) (fun f82 => ?_)
            refine W.ret ?_
            have hC_ : inC xs = false := h15
            obtain ⟨hO_, hF_, hT_⟩ := in_yes hC_ h40 h67
            have hA_ : ecA (xs.getD 20 0) = false := h76
            show ∀ w_, _ → bodyPostM (fence none) 0 Try.prog Try.f28 _ Exit.ret _ w_
            exact fun w_ hS_ => fin_ret (ret2 rfl (RV.cellN (b := p2) (o' := 0) (i := 0) (j := 0) (cs := [Value.int .u8 (((xs.getD 9 0).toNat : Nat) : Int), Value.int .u32 ((a4 xs 12 : Nat) : Int), Value.int .u32 ((a4 xs 16 : Nat) : Int), Value.int .u16 0, Value.int .u16 ((w2 xs 24 : Nat) : Int)]) (vs := [Value.int .u8 (((xs.getD 9 0).toNat : Nat) : Int), Value.int .u32 ((a4 xs 12 : Nat) : Int), Value.int .u32 ((a4 xs 16 : Nat) : Int), Value.int .u16 0, Value.int .u16 ((w2 xs 24 : Nat) : Int)]) (by kernel_rfl) Try.isAgg30 Try.sizeOf30 rfl rfl rfl rfl) (RV.tmp (v := Value.bool true) (by kernel_rfl)) hS_ ⟨by clear hK1 hK3 hK4 hK19 hK31 hK32 hK48 hK49 hK71 hK72 hK81; refine congrArg Ending.returned ?_; simp only [anU, anN, hO_, hF_, hT_, hA_, sel, inP, inA, hC_, cond_true, cond_false]; try rfl, hS_.below⟩)
    · refine Wa.lets (w0 := w) (M := []) [0, 2, 4, 23, 25, 26] (fun (z83 : Nat) => [Value.slice a xs.length cap, Value.pointer (some ⟨p2, 0, none⟩), Value.pointer (some ⟨z83, 0, none⟩), Value.int .u8 (((xs.getD 9 0).toNat : Nat) : Int), Value.int .u32 ((a4 xs 12 : Nat) : Int), Value.slice a xs.length cap]) (fun (z83 : Nat) => True) (fun (z83 : Nat) => [[cb z83 [Value.int .u8 0, Value.int .u32 0, Value.int .u32 0, Value.int .u16 0, Value.int .u16 0] 30], [cb p2 [Value.int .u8 0, Value.int .u32 0, Value.int .u32 0, Value.int .u16 0, Value.int .u16 0] 30]]) 3 #[true, true, true, true, true, true, false, false, true, false] (fun z83 hp84 f85 => ?_) (fun JD24 => ?_)
      · obtain ⟨p4, rfl⟩ : ∃ a_, a_ = z83 := ⟨_, rfl⟩
        refine Wa.only (i := 6) (by kernel_rfl) ?_
        refine Wo.yc (v := Value.int .u32 ((a4 xs 16 : Nat) : Int)) rfl rfl rfl (Yc.call (k := 57) (args := #[Value.slice a xs.length cap, Value.int .i64 16]) (fun _ => by kernel_rfl) (fun w_ hm_ => (raddrn_c xs a cap 16 xs.length _ (by first | rfl | (rw [List.length_take]; omega) | (simp; done) | (simp [be_len, be_len, psh_len]; omega)) (hat.mem0 hm_) (by omega) (by omega) (by first | omega | (simp; omega))))) (.inr fun _ h_ => h_.pick [1] (by decide) rfl) ?_
        refine Wa.ys (v := Value.agg ([Value.int .u8 (((xs.getD 9 0).toNat : Nat) : Int), Value.int .u32 ((a4 xs 12 : Nat) : Int), Value.int .u32 ((a4 xs 16 : Nat) : Int), Value.int .u16 0, Value.int .u16 0]).toArray) (i := 7) (by kernel_rfl) (by kernel_rfl) (by kernel_rfl) (by kernel_rfl) (fun _ h_ => h_.pick [1] (by decide) rfl) rfl rfl rfl (Ys.pure (fun _ => by kernel_rfl)) ?_
        exact Wa.join [0, 2, 4, 28] [Value.slice a xs.length cap, Value.pointer (some ⟨p2, 0, none⟩), Value.pointer (some ⟨p4, 0, none⟩), Value.agg ([Value.int .u8 (((xs.getD 9 0).toNat : Nat) : Int), Value.int .u32 ((a4 xs 12 : Nat) : Int), Value.int .u32 ((a4 xs 16 : Nat) : Int), Value.int .u16 0, Value.int .u16 0]).toArray] #[true, true, true, true, true, true, true, true, true, false] (JD25 p4 trivial) (by kernel_rfl) (by kernel_rfl) (fun _ h_ => h_)
      · refine Wa.ys (v := Value.slice a xs.length cap) (i := 0) (by kernel_rfl) (by kernel_rfl) (by kernel_rfl) (by kernel_rfl) (fun _ h_ => h_) rfl rfl rfl (Ys.pure (fun _ => by kernel_rfl)) ?_
        refine Wa.ys (v := Value.pointer (some (ela a 9))) (i := 1) (by kernel_rfl) (by kernel_rfl) (by kernel_rfl) (by kernel_rfl) (fun _ h_ => h_) rfl rfl rfl (Ys.byMem fun w_ h_ => Ys.indexAddr (k := .i64) (a := a) (len := xs.length) (cap := cap) (i := 9) (sz := 1) rfl (by kernel_rfl) (by kernel_rfl) Try.runUnderlying25 Try.sizeOf5 (by omega) (by omega) ((hat.mem0 h_).here (by rw [mc_len]; first | omega | (simp; omega)))) ?_
        refine Wa.ys (v := Value.int .u8 (((xs.getD 9 0).toNat : Nat) : Int)) (i := 2) (by kernel_rfl) (by kernel_rfl) (by kernel_rfl) (by kernel_rfl) (fun _ h_ => h_) rfl rfl rfl (Ys.ld (a := ela a 9) rfl (by kernel_rfl) Try.isAgg5 (fun w_ h_ => (hat.mem0 h_).ld (mc_get 0 (by first | omega | (simp; omega))))) ?_
        have hb86 : (xs.getD 9 0).toNat < 256 := UInt8.toNat_lt _
        refine Wa.ys (v := Value.slice a xs.length cap) (i := 3) (by kernel_rfl) (by kernel_rfl) (by kernel_rfl) (by kernel_rfl) (fun _ h_ => h_) rfl rfl rfl (Ys.pure (fun _ => by kernel_rfl)) ?_
        refine Wa.ys (v := Value.slice a xs.length cap) (i := 5) (by kernel_rfl) (by kernel_rfl) (by kernel_rfl) (by kernel_rfl) (fun _ h_ => h_) rfl rfl rfl (Ys.pure (fun _ => by kernel_rfl)) ?_
        refine Wa.alt2 (i := 4) (j := 8) (by kernel_rfl) ?_ ?_
        · refine Wo.yc (v := Value.int .u32 ((a4 xs 12 : Nat) : Int)) rfl rfl rfl (Yc.call (k := 57) (args := #[Value.slice a xs.length cap, Value.int .i64 12]) (fun _ => by kernel_rfl) (fun w_ hm_ => (raddrn_c xs a cap 12 xs.length _ (by first | rfl | (rw [List.length_take]; omega) | (simp; done) | (simp [be_len, be_len, psh_len]; omega)) (hat.mem0 hm_) (by omega) (by omega) (by first | omega | (simp; omega))))) (.inr fun _ h_ => h_) ?_
          refine Wa.alt2 (i := 6) (j := 8) (by kernel_rfl) ?_ ?_
          · refine Wo.yc (v := Value.int .u32 ((a4 xs 16 : Nat) : Int)) rfl rfl rfl (Yc.call (k := 57) (args := #[Value.slice a xs.length cap, Value.int .i64 16]) (fun _ => by kernel_rfl) (fun w_ hm_ => (raddrn_c xs a cap 16 xs.length _ (by first | rfl | (rw [List.length_take]; omega) | (simp; done) | (simp [be_len, be_len, psh_len]; omega)) (hat.mem0 hm_) (by omega) (by omega) (by first | omega | (simp; omega))))) (.inr fun _ h_ => h_) ?_
            refine Wa.ys (v := Value.agg ([Value.int .u8 (((xs.getD 9 0).toNat : Nat) : Int), Value.int .u32 ((a4 xs 12 : Nat) : Int), Value.int .u32 ((a4 xs 16 : Nat) : Int), Value.int .u16 0, Value.int .u16 0]).toArray) (i := 7) (by kernel_rfl) (by kernel_rfl) (by kernel_rfl) (by kernel_rfl) (fun _ h_ => h_) rfl rfl rfl (Ys.pure (fun _ => by kernel_rfl)) ?_
            refine Wa.only (i := 8) (by kernel_rfl) ?_
            refine Wo.ht rfl rfl (Ht.alloc (z := Value.agg ([Value.int .u8 0, Value.int .u32 0, Value.int .u32 0, Value.int .u16 0, Value.int .u16 0]).toArray) (cs := [Value.int .u8 0, Value.int .u32 0, Value.int .u32 0, Value.int .u16 0, Value.int .u16 0]) rfl rfl Try.zeroValue30 rfl) (.inr fun _ _ h_ => h_.pick [1] (by decide) rfl) (fun p4 => ?_)
            exact Wa.join [0, 2, 4, 28] [Value.slice a xs.length cap, Value.pointer (some ⟨p2, 0, none⟩), Value.pointer (some ⟨p4, 0, none⟩), Value.agg ([Value.int .u8 (((xs.getD 9 0).toNat : Nat) : Int), Value.int .u32 ((a4 xs 12 : Nat) : Int), Value.int .u32 ((a4 xs 16 : Nat) : Int), Value.int .u16 0, Value.int .u16 0]).toArray] #[true, true, true, true, true, true, true, true, true, false] (JD25 p4 trivial) (by kernel_rfl) (by kernel_rfl) (fun _ h_ => h_)
          · refine Wo.ht rfl rfl (Ht.alloc (z := Value.agg ([Value.int .u8 0, Value.int .u32 0, Value.int .u32 0, Value.int .u16 0, Value.int .u16 0]).toArray) (cs := [Value.int .u8 0, Value.int .u32 0, Value.int .u32 0, Value.int .u16 0, Value.int .u16 0]) rfl rfl Try.zeroValue30 rfl) (.inr fun _ _ h_ => h_.pick [1] (by decide) rfl) (fun p4 => ?_)
            exact Wa.join [0, 2, 4, 23, 25, 26] [Value.slice a xs.length cap, Value.pointer (some ⟨p2, 0, none⟩), Value.pointer (some ⟨p4, 0, none⟩), Value.int .u8 (((xs.getD 9 0).toNat : Nat) : Int), Value.int .u32 ((a4 xs 12 : Nat) : Int), Value.slice a xs.length cap] #[true, true, true, true, true, true, false, false, true, false] (JD24 p4 trivial) (by kernel_rfl) (by kernel_rfl) (fun _ h_ => h_)
        · refine Wo.ht rfl rfl (Ht.alloc (z := Value.agg ([Value.int .u8 0, Value.int .u32 0, Value.int .u32 0, Value.int .u16 0, Value.int .u16 0]).toArray) (cs := [Value.int .u8 0, Value.int .u32 0, Value.int .u32 0, Value.int .u16 0, Value.int .u16 0]) rfl rfl Try.zeroValue30 rfl) (.inr fun _ _ h_ => h_.pick [1] (by decide) rfl) (fun p4 => ?_)
          refine Wa.only (i := 4) (by kernel_rfl) ?_
          refine Wo.yc (v := Value.int .u32 ((a4 xs 12 : Nat) : Int)) rfl rfl rfl (Yc.call (k := 57) (args := #[Value.slice a xs.length cap, Value.int .i64 12]) (fun _ => by kernel_rfl) (fun w_ hm_ => (raddrn_c xs a cap 12 xs.length _ (by first | rfl | (rw [List.length_take]; omega) | (simp; done) | (simp [be_len, be_len, psh_len]; omega)) (hat.mem0 hm_) (by omega) (by omega) (by first | omega | (simp; omega))))) (.inr fun _ h_ => h_.pick [1] (by decide) rfl) ?_
          exact Wa.join [0, 2, 4, 23, 25, 26] [Value.slice a xs.length cap, Value.pointer (some ⟨p2, 0, none⟩), Value.pointer (some ⟨p4, 0, none⟩), Value.int .u8 (((xs.getD 9 0).toNat : Nat) : Int), Value.int .u32 ((a4 xs 12 : Nat) : Int), Value.slice a xs.length cap] #[true, true, true, true, true, true, false, false, true, false] (JD24 p4 trivial) (by kernel_rfl) (by kernel_rfl) (fun _ h_ => h_)
theorem rinnern_c (xs : List UInt8) (a : Option Addr) (cap len : Nat) (w : World) (hn : len = xs.length) (hat : At w a (byc xs)) (hl : xs.length ≤ 1000000) (hlc : xs.length ≤ cap) : Calls Try.prog 28 #[.slice a len cap] w (Ret w (.tuple #[.agg ([Value.int .u8 (((anU (inO xs) (inP xs)).toNat : Nat) : Int), Value.int .u32 ((anN (inO xs) (inA xs 12) : Nat) : Int), Value.int .u32 ((anN (inO xs) (inA xs 16) : Nat) : Int), Value.int .u16 ((anN (inO xs) (inF xs) : Nat) : Int), Value.int .u16 ((anN (inO xs) (inT xs) : Nat) : Int)]).toArray, .bool (inO xs)])) := by
  subst hn; exact rinner_c xs a cap w hat hl hlc
theorem ms_q8 {xs : List UInt8} (hm : mR xs = 0) (h : (((((mT xs 0).toNat : Nat) : Int) == 8) && ((((mT xs 1).toNat : Nat) : Int) == 0)) = true) : msQ xs = true ∧ msR xs = false ∧ ecA (mT xs 0) = true := by
  have hk := (Bool.and_eq_true _ _).mp h
  have hq : ecO (mT xs 0) (mT xs 1) = true := by unfold ecO; rw [hk.1, hk.2]; rfl
  exact ⟨by unfold msQ; rw [hm, hq]; rfl, by unfold msR; rw [hm, hq]; rfl, hk.1⟩
theorem ms_q0 {xs : List UInt8} (hm : mR xs = 0) (h : (((((mT xs 0).toNat : Nat) : Int) == 0) && ((((mT xs 1).toNat : Nat) : Int) == 0)) = true) : msQ xs = true ∧ msR xs = false ∧ ecA (mT xs 0) = false := by
  have hk := (Bool.and_eq_true _ _).mp h
  have hq : ecO (mT xs 0) (mT xs 1) = true := by unfold ecO; rw [hk.1, hk.2]; simp
  exact ⟨by unfold msQ; rw [hm, hq]; rfl, by unfold msR; rw [hm, hq]; rfl, by have e := beq_iff_eq.1 hk.1; unfold ecA; rw [e]; rfl⟩
theorem ms_no {xs : List UInt8} (hm : mR xs = 0) (h8 : (((((mT xs 0).toNat : Nat) : Int) == 8) && ((((mT xs 1).toNat : Nat) : Int) == 0)) = false) (h0 : (((((mT xs 0).toNat : Nat) : Int) == 0) && ((((mT xs 1).toNat : Nat) : Int) == 0)) = false) : msQ xs = false ∧ msR xs = !(((((((mT xs 0).toNat : Nat) : Int) != 3) && ((((mT xs 0).toNat : Nat) : Int) != 11)) && ((((mT xs 0).toNat : Nat) : Int) != 12)) || (!(inO (mD xs)))) := by
  have hq : ecO (mT xs 0) (mT xs 1) = false := by
    unfold ecO; rw [Bool.and_or_distrib_left, Bool.and_comm _ ((((mT xs 0).toNat : Nat) : Int) == 8), Bool.and_comm _ ((((mT xs 0).toNat : Nat) : Int) == 0), h8, h0]; rfl
  refine ⟨by unfold msQ; rw [hm, hq]; rfl, ?_⟩
  unfold msR isEr eqk; rw [hm, hq]; unfold bne
  cases inO (mD xs) <;> cases ((((mT xs 0).toNat : Nat) : Int) == 3) <;> cases ((((mT xs 0).toNat : Nat) : Int) == 11) <;> cases ((((mT xs 0).toNat : Nat) : Int) == 12) <;> rfl
theorem rof_c (tt pr : UInt8) (id s d : Nat) (xs : List UInt8) (a : Option Addr) (cap : Nat) (w : World) (hat : At w a (byc xs)) (hi : id < 65536) (hs : s < 4294967296) (hd : d < 4294967296) (hl : xs.length ≤ 100000) (hlc : xs.length ≤ cap) : Calls Try.prog 12 #[Value.agg ([Value.int .u8 ((tt.toNat : Nat) : Int), Value.int .u8 ((pr.toNat : Nat) : Int), Value.int .u16 ((id : Nat) : Int), Value.int .u32 ((s : Nat) : Int), Value.int .u32 ((d : Nat) : Int), Value.slice a xs.length cap]).toArray] w (Ret w (.tuple #[.agg ([Value.int .u8 (((ofP pr s d xs).toNat : Nat) : Int), Value.int .u32 ((ofS pr s d xs : Nat) : Int), Value.int .u32 ((ofD pr s d xs : Nat) : Int), Value.int .u16 ((ofF pr s d xs : Nat) : Int), Value.int .u16 ((ofT pr s d xs : Nat) : Int)]).toArray, .int .i64 (ofK pr s d xs), .int .i64 (ofE pr s d xs)])) := by
  have hmn_ := mN_lt xs; have hml_ := mD_le xs
  refine calls_W (M := []) (LL := []) (n := 137) Try.func12 rfl rfl (by simp) (Mem.refl _) ?_
  refine W.seq (fun K1 hK1 => ?_)
  refine W.region ?_
  refine Wl.ht rfl (Ht.box (v := Value.agg ([Value.int .u8 ((tt.toNat : Nat) : Int), Value.int .u8 ((pr.toNat : Nat) : Int), Value.int .u16 ((id : Nat) : Int), Value.int .u32 ((s : Nat) : Int), Value.int .u32 ((d : Nat) : Int), Value.slice a xs.length cap]).toArray) (cs := [Value.int .u8 ((tt.toNat : Nat) : Int), Value.int .u8 ((pr.toNat : Nat) : Int), Value.int .u16 ((id : Nat) : Int), Value.int .u32 ((s : Nat) : Int), Value.int .u32 ((d : Nat) : Int), Value.slice a xs.length cap]) rfl rfl (by kernel_rfl) rfl) (fun p1 => ?_)
  refine Wl.ht rfl (Ht.alloc (z := Value.agg ([Value.int .u8 0, Value.int .u32 0, Value.int .u32 0, Value.int .u16 0, Value.int .u16 0]).toArray) (cs := [Value.int .u8 0, Value.int .u32 0, Value.int .u32 0, Value.int .u16 0, Value.int .u16 0]) rfl rfl Try.zeroValue30 rfl) (fun p2 => ?_)
  refine Wl.run 2 (by kernel_rfl) ?_
  refine Wl.nil ?_
  refine hK1 _ _ _ ?_
  refine W.prune' [1, 2] [Value.pointer (some ⟨p1, 0, none⟩), Value.pointer (some ⟨p2, 0, none⟩)] (by kernel_rfl) (fun f2 => ?_)
  refine W.seq (fun K3 hK3 => ?_)
  refine W.region ?_
  refine Wl.run 1 (by kernel_rfl) ?_
  refine Wl.ys (v := Value.int .u8 ((pr.toNat : Nat) : Int)) rfl rfl (Ys.load (b := p1) (o' := 1) (i := 1) (j := 0) (cs := [Value.int .u8 ((tt.toNat : Nat) : Int), Value.int .u8 ((pr.toNat : Nat) : Int), Value.int .u16 ((id : Nat) : Int), Value.int .u32 ((s : Nat) : Int), Value.int .u32 ((d : Nat) : Int), Value.slice a xs.length cap]) (v := Value.int .u8 ((pr.toNat : Nat) : Int)) rfl (by kernel_rfl) Try.isAgg5 rfl rfl rfl) ?_
  refine Wl.run 1 (by kernel_rfl) ?_
  refine Wl.ys (v := Value.int .u32 ((s : Nat) : Int)) rfl rfl (Ys.load (b := p1) (o' := 3) (i := 1) (j := 0) (cs := [Value.int .u8 ((tt.toNat : Nat) : Int), Value.int .u8 ((pr.toNat : Nat) : Int), Value.int .u16 ((id : Nat) : Int), Value.int .u32 ((s : Nat) : Int), Value.int .u32 ((d : Nat) : Int), Value.slice a xs.length cap]) (v := Value.int .u32 ((s : Nat) : Int)) rfl (by kernel_rfl) Try.isAgg24 rfl rfl rfl) ?_
  refine Wl.run 1 (by kernel_rfl) ?_
  refine Wl.ys (v := Value.int .u32 ((d : Nat) : Int)) rfl rfl (Ys.load (b := p1) (o' := 4) (i := 1) (j := 0) (cs := [Value.int .u8 ((tt.toNat : Nat) : Int), Value.int .u8 ((pr.toNat : Nat) : Int), Value.int .u16 ((id : Nat) : Int), Value.int .u32 ((s : Nat) : Int), Value.int .u32 ((d : Nat) : Int), Value.slice a xs.length cap]) (v := Value.int .u32 ((d : Nat) : Int)) rfl (by kernel_rfl) Try.isAgg24 rfl rfl rfl) ?_
  refine Wl.run 1 (by kernel_rfl) ?_
  refine Wl.ht rfl (Ht.alloc (z := Value.agg ([Value.int .u8 0, Value.int .u32 0, Value.int .u32 0, Value.int .u16 0, Value.int .u16 0]).toArray) (cs := [Value.int .u8 0, Value.int .u32 0, Value.int .u32 0, Value.int .u16 0, Value.int .u16 0]) rfl rfl Try.zeroValue30 rfl) (fun p5 => ?_)
  refine Wl.ht rfl (Ht.storeN (b := p5) (o' := 0) (i := 0) (j := 0) (cs := [Value.int .u8 0, Value.int .u32 0, Value.int .u32 0, Value.int .u16 0, Value.int .u16 0]) (vs := [Value.int .u8 ((pr.toNat : Nat) : Int), Value.int .u32 ((s : Nat) : Int), Value.int .u32 ((d : Nat) : Int), Value.int .u16 0, Value.int .u16 0]) (cs' := [Value.int .u8 ((pr.toNat : Nat) : Int), Value.int .u32 ((s : Nat) : Int), Value.int .u32 ((d : Nat) : Int), Value.int .u16 0, Value.int .u16 0]) (LL' := [[cb p5 [Value.int .u8 ((pr.toNat : Nat) : Int), Value.int .u32 ((s : Nat) : Int), Value.int .u32 ((d : Nat) : Int), Value.int .u16 0, Value.int .u16 0] 30], [cb p2 [Value.int .u8 0, Value.int .u32 0, Value.int .u32 0, Value.int .u16 0, Value.int .u16 0] 30], [cb p1 [Value.int .u8 ((tt.toNat : Nat) : Int), Value.int .u8 ((pr.toNat : Nat) : Int), Value.int .u16 ((id : Nat) : Int), Value.int .u32 ((s : Nat) : Int), Value.int .u32 ((d : Nat) : Int), Value.slice a xs.length cap] 27]]) rfl rfl (by kernel_rfl) (by kernel_rfl) Try.sizeOf30 (by simp [Value.oneCell']) rfl rfl (by simp) rfl rfl) (fun _ => ?_)
  refine Wl.nil ?_
  refine hK3 _ _ _ ?_
  refine W.prune' [1, 2, 5] [Value.pointer (some ⟨p1, 0, none⟩), Value.pointer (some ⟨p2, 0, none⟩), Value.pointer (some ⟨p5, 0, none⟩)] (by kernel_rfl) (fun f4 => ?_)
  refine W.seq (fun K5 hK5 => ?_)
  refine W.seq (fun K6 hK6 => ?_)
  refine W.region ?_
  refine Wl.run 1 (by kernel_rfl) ?_
  refine Wl.ys (v := Value.int .u8 ((pr.toNat : Nat) : Int)) rfl rfl (Ys.load (b := p1) (o' := 1) (i := 2) (j := 0) (cs := [Value.int .u8 ((tt.toNat : Nat) : Int), Value.int .u8 ((pr.toNat : Nat) : Int), Value.int .u16 ((id : Nat) : Int), Value.int .u32 ((s : Nat) : Int), Value.int .u32 ((d : Nat) : Int), Value.slice a xs.length cap]) (v := Value.int .u8 ((pr.toNat : Nat) : Int)) rfl (by kernel_rfl) Try.isAgg5 rfl rfl rfl) ?_
  refine Wl.run 1 (by kernel_rfl) ?_
  refine Wl.nil ?_
  refine hK6 _ _ _ ?_
  refine W.prune' [1, 2, 5, 23] [Value.pointer (some ⟨p1, 0, none⟩), Value.pointer (some ⟨p2, 0, none⟩), Value.pointer (some ⟨p5, 0, none⟩), Value.bool (((pr.toNat : Nat) : Int) == 6)] (by kernel_rfl) (fun f7 => ?_)
  refine W.cond (((pr.toNat : Nat) : Int) == 6) (by kernel_rfl) (fun h8 => ?_) (fun h9 => ?_)
  · have qh8 := h8; try simp only [Bool.and_eq_true, Bool.or_eq_true, Bool.not_eq_true', Bool.not_eq_false', Bool.and_eq_false_iff, Bool.or_eq_false_iff, decide_eq_true_eq, decide_eq_false_iff_not, beq_iff_eq, bne_iff_ne, beq_eq_false_iff_ne, bne_eq_false_iff_eq] at qh8
    refine W.seq (fun K10 hK10 => ?_)
    refine W.region ?_
    refine Wl.run 1 (by kernel_rfl) ?_
    refine Wl.ys (v := Value.int .u32 ((s : Nat) : Int)) rfl rfl (Ys.load (b := p1) (o' := 3) (i := 2) (j := 0) (cs := [Value.int .u8 ((tt.toNat : Nat) : Int), Value.int .u8 ((pr.toNat : Nat) : Int), Value.int .u16 ((id : Nat) : Int), Value.int .u32 ((s : Nat) : Int), Value.int .u32 ((d : Nat) : Int), Value.slice a xs.length cap]) (v := Value.int .u32 ((s : Nat) : Int)) rfl (by kernel_rfl) Try.isAgg24 rfl rfl rfl) ?_
    refine Wl.run 1 (by kernel_rfl) ?_
    refine Wl.ys (v := Value.int .u32 ((d : Nat) : Int)) rfl rfl (Ys.load (b := p1) (o' := 4) (i := 2) (j := 0) (cs := [Value.int .u8 ((tt.toNat : Nat) : Int), Value.int .u8 ((pr.toNat : Nat) : Int), Value.int .u16 ((id : Nat) : Int), Value.int .u32 ((s : Nat) : Int), Value.int .u32 ((d : Nat) : Int), Value.slice a xs.length cap]) (v := Value.int .u32 ((d : Nat) : Int)) rfl (by kernel_rfl) Try.isAgg24 rfl rfl rfl) ?_
    refine Wl.run 1 (by kernel_rfl) ?_
    refine Wl.ys (v := Value.slice a xs.length cap) rfl rfl (Ys.load (b := p1) (o' := 5) (i := 2) (j := 0) (cs := [Value.int .u8 ((tt.toNat : Nat) : Int), Value.int .u8 ((pr.toNat : Nat) : Int), Value.int .u16 ((id : Nat) : Int), Value.int .u32 ((s : Nat) : Int), Value.int .u32 ((d : Nat) : Int), Value.slice a xs.length cap]) (v := Value.slice a xs.length cap) rfl (by kernel_rfl) Try.isAgg25 rfl rfl rfl) ?_
    refine Wl.ht rfl (Ht.call (β := FS × FS) (k := 25) (args := #[Value.int .u32 ((s : Nat) : Int), Value.int .u32 ((d : Nat) : Int), Value.slice a xs.length cap]) (Lin := []) (Lk := [[cb p5 [Value.int .u8 ((pr.toNat : Nat) : Int), Value.int .u32 ((s : Nat) : Int), Value.int .u32 ((d : Nat) : Int), Value.int .u16 0, Value.int .u16 0] 30], [cb p2 [Value.int .u8 0, Value.int .u32 0, Value.int .u32 0, Value.int .u16 0, Value.int .u16 0] 30], [cb p1 [Value.int .u8 ((tt.toNat : Nat) : Int), Value.int .u8 ((pr.toNat : Nat) : Int), Value.int .u16 ((id : Nat) : Int), Value.int .u32 ((s : Nat) : Int), Value.int .u32 ((d : Nat) : Int), Value.slice a xs.length cap] 27]]) (Mi := []) (Lo := fun gg11 => [gg11.1.seg 5 (mc b8 (tO s d xs)), gg11.2.seg 5 (mc b8 (tD s d xs)), [cb p5 [Value.int .u8 ((pr.toNat : Nat) : Int), Value.int .u32 ((s : Nat) : Int), Value.int .u32 ((d : Nat) : Int), Value.int .u16 0, Value.int .u16 0] 30], [cb p2 [Value.int .u8 0, Value.int .u32 0, Value.int .u32 0, Value.int .u16 0, Value.int .u16 0] 30], [cb p1 [Value.int .u8 ((tt.toNat : Nat) : Int), Value.int .u8 ((pr.toNat : Nat) : Int), Value.int .u16 ((id : Nat) : Int), Value.int .u32 ((s : Nat) : Int), Value.int .u32 ((d : Nat) : Int), Value.slice a xs.length cap] 27]]) [] [0, 1, 2] rfl (fun _ => by kernel_rfl) (by decide) rfl rfl rfl (fun w_ hm_ hl_ => (rrtcpn_c s d xs a cap xs.length _ (by first | rfl | (rw [List.length_take]; omega) | (simp; done) | (simp [be_len, be_len, psh_len]; omega)) (hat.mem0 hm_) (by omega) (by omega) (by first | omega | (simp; omega)) (by first | omega | (simp; omega)))) (fun _ => rfl)) (fun x14 => ?_)
    obtain ⟨gg11, ok12, ok13⟩ := x14
    refine Wl.castL (LL' := [gg11.1.seg 5 (mc b8 (tO s d xs)), gg11.2.seg 5 (mc b8 (tD s d xs)), [cb p5 [Value.int .u8 ((pr.toNat : Nat) : Int), Value.int .u32 ((s : Nat) : Int), Value.int .u32 ((d : Nat) : Int), Value.int .u16 0, Value.int .u16 0] 30], [cb p2 [Value.int .u8 0, Value.int .u32 0, Value.int .u32 0, Value.int .u16 0, Value.int .u16 0] 30], [cb p1 [Value.int .u8 ((tt.toNat : Nat) : Int), Value.int .u8 ((pr.toNat : Nat) : Int), Value.int .u16 ((id : Nat) : Int), Value.int .u32 ((s : Nat) : Int), Value.int .u32 ((d : Nat) : Int), Value.slice a xs.length cap] 27]]) rfl ?_
    refine Wl.run 3 (by kernel_rfl) ?_
    refine Wl.ht rfl (Ht.alloc (z := Value.agg ([Value.int .u16 0, Value.int .u16 0, Value.int .u32 0, Value.int .u32 0, Value.int .u8 0, Value.int .u16 0, Value.int .u16 0, Value.slice none 0 0, Value.slice none 0 0]).toArray) (cs := [Value.int .u16 0, Value.int .u16 0, Value.int .u32 0, Value.int .u32 0, Value.int .u8 0, Value.int .u16 0, Value.int .u16 0, Value.slice none 0 0, Value.slice none 0 0]) rfl rfl Try.zeroValue52 rfl) (fun p6 => ?_)
    refine Wl.ht rfl (Ht.storeN (b := p6) (o' := 0) (i := 0) (j := 0) (cs := [Value.int .u16 0, Value.int .u16 0, Value.int .u32 0, Value.int .u32 0, Value.int .u8 0, Value.int .u16 0, Value.int .u16 0, Value.slice none 0 0, Value.slice none 0 0]) (vs := [Value.int .u16 ((tF s d xs 0 : Nat) : Int), Value.int .u16 ((tF s d xs 2 : Nat) : Int), Value.int .u32 ((tW s d xs 4 : Nat) : Int), Value.int .u32 ((tW s d xs 8 : Nat) : Int), Value.int .u8 (((tL s d xs).toNat : Nat) : Int), Value.int .u16 ((tF s d xs 14 : Nat) : Int), Value.int .u16 ((tF s d xs 18 : Nat) : Int), Value.slice gg11.1.a ((tO s d xs).length) gg11.1.cap, Value.slice gg11.2.a ((tD s d xs).length) gg11.2.cap]) (cs' := [Value.int .u16 ((tF s d xs 0 : Nat) : Int), Value.int .u16 ((tF s d xs 2 : Nat) : Int), Value.int .u32 ((tW s d xs 4 : Nat) : Int), Value.int .u32 ((tW s d xs 8 : Nat) : Int), Value.int .u8 (((tL s d xs).toNat : Nat) : Int), Value.int .u16 ((tF s d xs 14 : Nat) : Int), Value.int .u16 ((tF s d xs 18 : Nat) : Int), Value.slice gg11.1.a ((tO s d xs).length) gg11.1.cap, Value.slice gg11.2.a ((tD s d xs).length) gg11.2.cap]) (LL' := [[cb p6 [Value.int .u16 ((tF s d xs 0 : Nat) : Int), Value.int .u16 ((tF s d xs 2 : Nat) : Int), Value.int .u32 ((tW s d xs 4 : Nat) : Int), Value.int .u32 ((tW s d xs 8 : Nat) : Int), Value.int .u8 (((tL s d xs).toNat : Nat) : Int), Value.int .u16 ((tF s d xs 14 : Nat) : Int), Value.int .u16 ((tF s d xs 18 : Nat) : Int), Value.slice gg11.1.a ((tO s d xs).length) gg11.1.cap, Value.slice gg11.2.a ((tD s d xs).length) gg11.2.cap] 52], gg11.1.seg 5 (mc b8 (tO s d xs)), gg11.2.seg 5 (mc b8 (tD s d xs)), [cb p5 [Value.int .u8 ((pr.toNat : Nat) : Int), Value.int .u32 ((s : Nat) : Int), Value.int .u32 ((d : Nat) : Int), Value.int .u16 0, Value.int .u16 0] 30], [cb p2 [Value.int .u8 0, Value.int .u32 0, Value.int .u32 0, Value.int .u16 0, Value.int .u16 0] 30], [cb p1 [Value.int .u8 ((tt.toNat : Nat) : Int), Value.int .u8 ((pr.toNat : Nat) : Int), Value.int .u16 ((id : Nat) : Int), Value.int .u32 ((s : Nat) : Int), Value.int .u32 ((d : Nat) : Int), Value.slice a xs.length cap] 27]]) rfl rfl (by kernel_rfl) (by kernel_rfl) Try.sizeOf52 (by simp [Value.oneCell']) rfl rfl (by simp) rfl rfl) (fun _ => ?_)
    refine Wl.run 1 (by kernel_rfl) ?_
    refine Wl.nil ?_
    refine hK10 _ _ _ ?_
    refine W.pick (LL' := [[cb p6 [Value.int .u16 ((tF s d xs 0 : Nat) : Int), Value.int .u16 ((tF s d xs 2 : Nat) : Int), Value.int .u32 ((tW s d xs 4 : Nat) : Int), Value.int .u32 ((tW s d xs 8 : Nat) : Int), Value.int .u8 (((tL s d xs).toNat : Nat) : Int), Value.int .u16 ((tF s d xs 14 : Nat) : Int), Value.int .u16 ((tF s d xs 18 : Nat) : Int), Value.slice gg11.1.a ((tO s d xs).length) gg11.1.cap, Value.slice gg11.2.a ((tD s d xs).length) gg11.2.cap] 52], gg11.1.seg 5 (mc b8 (tO s d xs)), gg11.2.seg 5 (mc b8 (tD s d xs)), [cb p5 [Value.int .u8 ((pr.toNat : Nat) : Int), Value.int .u32 ((s : Nat) : Int), Value.int .u32 ((d : Nat) : Int), Value.int .u16 0, Value.int .u16 0] 30], [cb p2 [Value.int .u8 0, Value.int .u32 0, Value.int .u32 0, Value.int .u16 0, Value.int .u16 0] 30]]) [0, 1, 2, 3, 4] (by decide) rfl ?_
    refine W.prune' [2, 5, 6, 7] [Value.pointer (some ⟨p2, 0, none⟩), Value.pointer (some ⟨p5, 0, none⟩), Value.pointer (some ⟨p6, 0, none⟩), Value.int .i64 (tR s d xs)] (by kernel_rfl) (fun f15 => ?_)
    refine W.seq (fun K16 hK16 => ?_)
    refine W.seq (fun K17 hK17 => ?_)
    refine W.region ?_
    refine Wl.run 2 (by kernel_rfl) ?_
    refine Wl.nil ?_
    refine hK17 _ _ _ ?_
    refine W.prune' [2, 5, 6, 7, 35] [Value.pointer (some ⟨p2, 0, none⟩), Value.pointer (some ⟨p5, 0, none⟩), Value.pointer (some ⟨p6, 0, none⟩), Value.int .i64 (tR s d xs), Value.bool ((tR s d xs) != 0)] (by kernel_rfl) (fun f18 => ?_)
    refine W.cond ((tR s d xs) != 0) (by kernel_rfl) (fun h19 => ?_) (fun h20 => ?_)
    · have qh19 := h19; try simp only [Bool.and_eq_true, Bool.or_eq_true, Bool.not_eq_true', Bool.not_eq_false', Bool.and_eq_false_iff, Bool.or_eq_false_iff, decide_eq_true_eq, decide_eq_false_iff_not, beq_iff_eq, bne_iff_ne, beq_eq_false_iff_ne, bne_eq_false_iff_eq] at qh19
      refine W.seq (fun K21 hK21 => ?_)
      refine W.region ?_
      refine Wl.run 2 (by kernel_rfl) ?_
      refine Wl.ht rfl (Ht.storeN (b := p2) (o' := 0) (i := 4) (j := 0) (cs := [Value.int .u8 0, Value.int .u32 0, Value.int .u32 0, Value.int .u16 0, Value.int .u16 0]) (vs := [Value.int .u8 0, Value.int .u32 0, Value.int .u32 0, Value.int .u16 0, Value.int .u16 0]) (cs' := [Value.int .u8 0, Value.int .u32 0, Value.int .u32 0, Value.int .u16 0, Value.int .u16 0]) (LL' := [[cb p6 [Value.int .u16 ((tF s d xs 0 : Nat) : Int), Value.int .u16 ((tF s d xs 2 : Nat) : Int), Value.int .u32 ((tW s d xs 4 : Nat) : Int), Value.int .u32 ((tW s d xs 8 : Nat) : Int), Value.int .u8 (((tL s d xs).toNat : Nat) : Int), Value.int .u16 ((tF s d xs 14 : Nat) : Int), Value.int .u16 ((tF s d xs 18 : Nat) : Int), Value.slice gg11.1.a ((tO s d xs).length) gg11.1.cap, Value.slice gg11.2.a ((tD s d xs).length) gg11.2.cap] 52], gg11.1.seg 5 (mc b8 (tO s d xs)), gg11.2.seg 5 (mc b8 (tD s d xs)), [cb p5 [Value.int .u8 ((pr.toNat : Nat) : Int), Value.int .u32 ((s : Nat) : Int), Value.int .u32 ((d : Nat) : Int), Value.int .u16 0, Value.int .u16 0] 30], [cb p2 [Value.int .u8 0, Value.int .u32 0, Value.int .u32 0, Value.int .u16 0, Value.int .u16 0] 30]]) rfl rfl (by kernel_rfl) (by kernel_rfl) Try.sizeOf30 (by simp [Value.oneCell']) rfl rfl (by simp) rfl rfl) (fun _ => ?_)
      refine Wl.run 2 (by kernel_rfl) ?_
      refine Wl.nil ?_
      refine hK21 _ _ _ ?_
      refine W.pick (LL' := [[cb p2 [Value.int .u8 0, Value.int .u32 0, Value.int .u32 0, Value.int .u16 0, Value.int .u16 0] 30]]) [4] (by decide) rfl ?_
      refine W.prune' [2, 3, 4] [Value.pointer (some ⟨p2, 0, none⟩), Value.int .i64 0, Value.int .i64 (tR s d xs)] (by kernel_rfl) (fun f22 => ?_)
      refine W.ret ?_
      have hisT_ : isT pr = true := h8
      have hE_ : ofE pr s d xs = tR s d xs := by simp only [ofE, hisT_, cond_true, cond_false]
      have hZ_ : ofZ pr s d xs = false := by unfold ofZ; rw [hE_, h19]; rfl
      show ∀ w_, _ → bodyPostM (fence none) 0 Try.prog Try.f12 _ Exit.ret _ w_
      exact fun w_ hS_ => fin_ret (ret3 rfl (RV.cellN (b := p2) (o' := 0) (i := 0) (j := 0) (cs := [Value.int .u8 0, Value.int .u32 0, Value.int .u32 0, Value.int .u16 0, Value.int .u16 0]) (vs := [Value.int .u8 0, Value.int .u32 0, Value.int .u32 0, Value.int .u16 0, Value.int .u16 0]) (by kernel_rfl) Try.isAgg30 Try.sizeOf30 rfl rfl rfl rfl) (RV.tmp (v := Value.int .i64 0) (by kernel_rfl)) (RV.tmp (v := Value.int .i64 (tR s d xs)) (by kernel_rfl)) hS_ ⟨by clear hK1 hK3 hK5 hK6 hK10 hK16 hK17 hK21; refine congrArg Ending.returned ?_; simp only [ofK, ofP, ofS, ofD, ofF, ofT, hE_, hZ_, hisT_, cond_true, cond_false]; try rfl, hS_.below⟩)
    · have qh20 := h20; try simp only [Bool.and_eq_true, Bool.or_eq_true, Bool.not_eq_true', Bool.not_eq_false', Bool.and_eq_false_iff, Bool.or_eq_false_iff, decide_eq_true_eq, decide_eq_false_iff_not, beq_iff_eq, bne_iff_ne, beq_eq_false_iff_ne, bne_eq_false_iff_eq] at qh20
      refine W.skip' ?_
      refine hK16 _ _ _ ?_
      refine W.prune' [2, 5, 6] [Value.pointer (some ⟨p2, 0, none⟩), Value.pointer (some ⟨p5, 0, none⟩), Value.pointer (some ⟨p6, 0, none⟩)] (by kernel_rfl) (fun f23 => ?_)
      refine W.seq (fun K24 hK24 => ?_)
      refine W.region ?_
      refine Wl.run 1 (by kernel_rfl) ?_
      refine Wl.ys (v := Value.int .u16 ((tF s d xs 0 : Nat) : Int)) rfl rfl (Ys.load (b := p6) (o' := 0) (i := 0) (j := 0) (cs := [Value.int .u16 ((tF s d xs 0 : Nat) : Int), Value.int .u16 ((tF s d xs 2 : Nat) : Int), Value.int .u32 ((tW s d xs 4 : Nat) : Int), Value.int .u32 ((tW s d xs 8 : Nat) : Int), Value.int .u8 (((tL s d xs).toNat : Nat) : Int), Value.int .u16 ((tF s d xs 14 : Nat) : Int), Value.int .u16 ((tF s d xs 18 : Nat) : Int), Value.slice gg11.1.a ((tO s d xs).length) gg11.1.cap, Value.slice gg11.2.a ((tD s d xs).length) gg11.2.cap]) (v := Value.int .u16 ((tF s d xs 0 : Nat) : Int)) rfl (by kernel_rfl) Try.isAgg22 rfl rfl rfl) ?_
      refine Wl.run 1 (by kernel_rfl) ?_
      refine Wl.ht rfl (Ht.store (b := p5) (o' := 3) (i := 3) (j := 0) (cs := [Value.int .u8 ((pr.toNat : Nat) : Int), Value.int .u32 ((s : Nat) : Int), Value.int .u32 ((d : Nat) : Int), Value.int .u16 0, Value.int .u16 0]) (cs' := [Value.int .u8 ((pr.toNat : Nat) : Int), Value.int .u32 ((s : Nat) : Int), Value.int .u32 ((d : Nat) : Int), Value.int .u16 ((tF s d xs 0 : Nat) : Int), Value.int .u16 0]) (v := Value.int .u16 ((tF s d xs 0 : Nat) : Int)) (LL' := [[cb p6 [Value.int .u16 ((tF s d xs 0 : Nat) : Int), Value.int .u16 ((tF s d xs 2 : Nat) : Int), Value.int .u32 ((tW s d xs 4 : Nat) : Int), Value.int .u32 ((tW s d xs 8 : Nat) : Int), Value.int .u8 (((tL s d xs).toNat : Nat) : Int), Value.int .u16 ((tF s d xs 14 : Nat) : Int), Value.int .u16 ((tF s d xs 18 : Nat) : Int), Value.slice gg11.1.a ((tO s d xs).length) gg11.1.cap, Value.slice gg11.2.a ((tD s d xs).length) gg11.2.cap] 52], gg11.1.seg 5 (mc b8 (tO s d xs)), gg11.2.seg 5 (mc b8 (tD s d xs)), [cb p5 [Value.int .u8 ((pr.toNat : Nat) : Int), Value.int .u32 ((s : Nat) : Int), Value.int .u32 ((d : Nat) : Int), Value.int .u16 ((tF s d xs 0 : Nat) : Int), Value.int .u16 0] 30], [cb p2 [Value.int .u8 0, Value.int .u32 0, Value.int .u32 0, Value.int .u16 0, Value.int .u16 0] 30]]) rfl rfl (by kernel_rfl) (by kernel_rfl) Try.sizeOf22 rfl rfl rfl (by simp) rfl rfl) (fun _ => ?_)
      refine Wl.nil ?_
      refine hK24 _ _ _ ?_
      refine W.prune' [2, 5, 6] [Value.pointer (some ⟨p2, 0, none⟩), Value.pointer (some ⟨p5, 0, none⟩), Value.pointer (some ⟨p6, 0, none⟩)] (by kernel_rfl) (fun f25 => ?_)
      refine W.seq (fun K26 hK26 => ?_)
      refine W.region ?_
      refine Wl.run 1 (by kernel_rfl) ?_
      refine Wl.ys (v := Value.int .u16 ((tF s d xs 2 : Nat) : Int)) rfl rfl (Ys.load (b := p6) (o' := 1) (i := 0) (j := 0) (cs := [Value.int .u16 ((tF s d xs 0 : Nat) : Int), Value.int .u16 ((tF s d xs 2 : Nat) : Int), Value.int .u32 ((tW s d xs 4 : Nat) : Int), Value.int .u32 ((tW s d xs 8 : Nat) : Int), Value.int .u8 (((tL s d xs).toNat : Nat) : Int), Value.int .u16 ((tF s d xs 14 : Nat) : Int), Value.int .u16 ((tF s d xs 18 : Nat) : Int), Value.slice gg11.1.a ((tO s d xs).length) gg11.1.cap, Value.slice gg11.2.a ((tD s d xs).length) gg11.2.cap]) (v := Value.int .u16 ((tF s d xs 2 : Nat) : Int)) rfl (by kernel_rfl) Try.isAgg22 rfl rfl rfl) ?_
      refine Wl.run 1 (by kernel_rfl) ?_
      refine Wl.ht rfl (Ht.store (b := p5) (o' := 4) (i := 3) (j := 0) (cs := [Value.int .u8 ((pr.toNat : Nat) : Int), Value.int .u32 ((s : Nat) : Int), Value.int .u32 ((d : Nat) : Int), Value.int .u16 ((tF s d xs 0 : Nat) : Int), Value.int .u16 0]) (cs' := [Value.int .u8 ((pr.toNat : Nat) : Int), Value.int .u32 ((s : Nat) : Int), Value.int .u32 ((d : Nat) : Int), Value.int .u16 ((tF s d xs 0 : Nat) : Int), Value.int .u16 ((tF s d xs 2 : Nat) : Int)]) (v := Value.int .u16 ((tF s d xs 2 : Nat) : Int)) (LL' := [[cb p6 [Value.int .u16 ((tF s d xs 0 : Nat) : Int), Value.int .u16 ((tF s d xs 2 : Nat) : Int), Value.int .u32 ((tW s d xs 4 : Nat) : Int), Value.int .u32 ((tW s d xs 8 : Nat) : Int), Value.int .u8 (((tL s d xs).toNat : Nat) : Int), Value.int .u16 ((tF s d xs 14 : Nat) : Int), Value.int .u16 ((tF s d xs 18 : Nat) : Int), Value.slice gg11.1.a ((tO s d xs).length) gg11.1.cap, Value.slice gg11.2.a ((tD s d xs).length) gg11.2.cap] 52], gg11.1.seg 5 (mc b8 (tO s d xs)), gg11.2.seg 5 (mc b8 (tD s d xs)), [cb p5 [Value.int .u8 ((pr.toNat : Nat) : Int), Value.int .u32 ((s : Nat) : Int), Value.int .u32 ((d : Nat) : Int), Value.int .u16 ((tF s d xs 0 : Nat) : Int), Value.int .u16 ((tF s d xs 2 : Nat) : Int)] 30], [cb p2 [Value.int .u8 0, Value.int .u32 0, Value.int .u32 0, Value.int .u16 0, Value.int .u16 0] 30]]) rfl rfl (by kernel_rfl) (by kernel_rfl) Try.sizeOf22 rfl rfl rfl (by simp) rfl rfl) (fun _ => ?_)
      refine Wl.nil ?_
      refine hK26 _ _ _ ?_
      refine W.pick (LL' := [[cb p5 [Value.int .u8 ((pr.toNat : Nat) : Int), Value.int .u32 ((s : Nat) : Int), Value.int .u32 ((d : Nat) : Int), Value.int .u16 ((tF s d xs 0 : Nat) : Int), Value.int .u16 ((tF s d xs 2 : Nat) : Int)] 30], [cb p2 [Value.int .u8 0, Value.int .u32 0, Value.int .u32 0, Value.int .u16 0, Value.int .u16 0] 30]]) [3, 4] (by decide) rfl ?_
      refine W.prune' [2, 5] [Value.pointer (some ⟨p2, 0, none⟩), Value.pointer (some ⟨p5, 0, none⟩)] (by kernel_rfl) (fun f27 => ?_)
      refine W.seq (fun K28 hK28 => ?_)
      refine W.region ?_
      refine Wl.ys (v := Value.agg ([Value.int .u8 ((pr.toNat : Nat) : Int), Value.int .u32 ((s : Nat) : Int), Value.int .u32 ((d : Nat) : Int), Value.int .u16 ((tF s d xs 0 : Nat) : Int), Value.int .u16 ((tF s d xs 2 : Nat) : Int)]).toArray) rfl rfl (Ys.loadN (b := p5) (o' := 0) (i := 0) (j := 0) (cs := [Value.int .u8 ((pr.toNat : Nat) : Int), Value.int .u32 ((s : Nat) : Int), Value.int .u32 ((d : Nat) : Int), Value.int .u16 ((tF s d xs 0 : Nat) : Int), Value.int .u16 ((tF s d xs 2 : Nat) : Int)]) (vs := [Value.int .u8 ((pr.toNat : Nat) : Int), Value.int .u32 ((s : Nat) : Int), Value.int .u32 ((d : Nat) : Int), Value.int .u16 ((tF s d xs 0 : Nat) : Int), Value.int .u16 ((tF s d xs 2 : Nat) : Int)]) rfl (by kernel_rfl) Try.isAgg30 Try.sizeOf30 rfl rfl rfl rfl) ?_
      refine Wl.ht rfl (Ht.storeN (b := p2) (o' := 0) (i := 1) (j := 0) (cs := [Value.int .u8 0, Value.int .u32 0, Value.int .u32 0, Value.int .u16 0, Value.int .u16 0]) (vs := [Value.int .u8 ((pr.toNat : Nat) : Int), Value.int .u32 ((s : Nat) : Int), Value.int .u32 ((d : Nat) : Int), Value.int .u16 ((tF s d xs 0 : Nat) : Int), Value.int .u16 ((tF s d xs 2 : Nat) : Int)]) (cs' := [Value.int .u8 ((pr.toNat : Nat) : Int), Value.int .u32 ((s : Nat) : Int), Value.int .u32 ((d : Nat) : Int), Value.int .u16 ((tF s d xs 0 : Nat) : Int), Value.int .u16 ((tF s d xs 2 : Nat) : Int)]) (LL' := [[cb p5 [Value.int .u8 ((pr.toNat : Nat) : Int), Value.int .u32 ((s : Nat) : Int), Value.int .u32 ((d : Nat) : Int), Value.int .u16 ((tF s d xs 0 : Nat) : Int), Value.int .u16 ((tF s d xs 2 : Nat) : Int)] 30], [cb p2 [Value.int .u8 ((pr.toNat : Nat) : Int), Value.int .u32 ((s : Nat) : Int), Value.int .u32 ((d : Nat) : Int), Value.int .u16 ((tF s d xs 0 : Nat) : Int), Value.int .u16 ((tF s d xs 2 : Nat) : Int)] 30]]) rfl rfl (by kernel_rfl) (by kernel_rfl) Try.sizeOf30 (by simp [Value.oneCell']) rfl rfl (by simp) rfl rfl) (fun _ => ?_)
      refine Wl.run 2 (by kernel_rfl) ?_
      refine Wl.nil ?_
      refine hK28 _ _ _ ?_
      refine W.pick (LL' := [[cb p2 [Value.int .u8 ((pr.toNat : Nat) : Int), Value.int .u32 ((s : Nat) : Int), Value.int .u32 ((d : Nat) : Int), Value.int .u16 ((tF s d xs 0 : Nat) : Int), Value.int .u16 ((tF s d xs 2 : Nat) : Int)] 30]]) [1] (by decide) rfl ?_
      refine W.prune' [2, 3, 4] [Value.pointer (some ⟨p2, 0, none⟩), Value.int .i64 1, Value.int .i64 0] (by kernel_rfl) (fun f29 => ?_)
      refine W.ret ?_
      have hisT_ : isT pr = true := h8
      have hE_ : ofE pr s d xs = tR s d xs := by simp only [ofE, hisT_, cond_true, cond_false]
      have hZ_ : ofZ pr s d xs = true := by unfold ofZ; rw [hE_, h20]; rfl
      show ∀ w_, _ → bodyPostM (fence none) 0 Try.prog Try.f12 _ Exit.ret _ w_
      exact fun w_ hS_ => fin_ret (ret3 rfl (RV.cellN (b := p2) (o' := 0) (i := 0) (j := 0) (cs := [Value.int .u8 ((pr.toNat : Nat) : Int), Value.int .u32 ((s : Nat) : Int), Value.int .u32 ((d : Nat) : Int), Value.int .u16 ((tF s d xs 0 : Nat) : Int), Value.int .u16 ((tF s d xs 2 : Nat) : Int)]) (vs := [Value.int .u8 ((pr.toNat : Nat) : Int), Value.int .u32 ((s : Nat) : Int), Value.int .u32 ((d : Nat) : Int), Value.int .u16 ((tF s d xs 0 : Nat) : Int), Value.int .u16 ((tF s d xs 2 : Nat) : Int)]) (by kernel_rfl) Try.isAgg30 Try.sizeOf30 rfl rfl rfl rfl) (RV.tmp (v := Value.int .i64 1) (by kernel_rfl)) (RV.tmp (v := Value.int .i64 0) (by kernel_rfl)) hS_ ⟨by clear hK1 hK3 hK5 hK6 hK10 hK16 hK17 hK24 hK26 hK28; refine congrArg Ending.returned ?_; simp only [ofK, ofP, ofS, ofD, ofF, ofT, hE_, hZ_, hisT_, cond_true, cond_false]; try (rw [show tR s d xs = (0 : Int) from by have z_ := h20; simpa using z_]); try rfl, hS_.below⟩)
  · have qh9 := h9; try simp only [Bool.and_eq_true, Bool.or_eq_true, Bool.not_eq_true', Bool.not_eq_false', Bool.and_eq_false_iff, Bool.or_eq_false_iff, decide_eq_true_eq, decide_eq_false_iff_not, beq_iff_eq, bne_iff_ne, beq_eq_false_iff_ne, bne_eq_false_iff_eq] at qh9
    refine W.skip' ?_
    refine hK5 _ _ _ ?_
    refine W.prune' [1, 2, 5] [Value.pointer (some ⟨p1, 0, none⟩), Value.pointer (some ⟨p2, 0, none⟩), Value.pointer (some ⟨p5, 0, none⟩)] (by kernel_rfl) (fun f30 => ?_)
    refine W.seq (fun K31 hK31 => ?_)
    refine W.seq (fun K32 hK32 => ?_)
    refine W.region ?_
    refine Wl.run 1 (by kernel_rfl) ?_
    refine Wl.ys (v := Value.int .u8 ((pr.toNat : Nat) : Int)) rfl rfl (Ys.load (b := p1) (o' := 1) (i := 2) (j := 0) (cs := [Value.int .u8 ((tt.toNat : Nat) : Int), Value.int .u8 ((pr.toNat : Nat) : Int), Value.int .u16 ((id : Nat) : Int), Value.int .u32 ((s : Nat) : Int), Value.int .u32 ((d : Nat) : Int), Value.slice a xs.length cap]) (v := Value.int .u8 ((pr.toNat : Nat) : Int)) rfl (by kernel_rfl) Try.isAgg5 rfl rfl rfl) ?_
    refine Wl.run 1 (by kernel_rfl) ?_
    refine Wl.nil ?_
    refine hK32 _ _ _ ?_
    refine W.prune' [1, 2, 5, 47] [Value.pointer (some ⟨p1, 0, none⟩), Value.pointer (some ⟨p2, 0, none⟩), Value.pointer (some ⟨p5, 0, none⟩), Value.bool (((pr.toNat : Nat) : Int) == 17)] (by kernel_rfl) (fun f33 => ?_)
    refine W.cond (((pr.toNat : Nat) : Int) == 17) (by kernel_rfl) (fun h34 => ?_) (fun h35 => ?_)
    · have qh34 := h34; try simp only [Bool.and_eq_true, Bool.or_eq_true, Bool.not_eq_true', Bool.not_eq_false', Bool.and_eq_false_iff, Bool.or_eq_false_iff, decide_eq_true_eq, decide_eq_false_iff_not, beq_iff_eq, bne_iff_ne, beq_eq_false_iff_ne, bne_eq_false_iff_eq] at qh34
      refine W.seq (fun K36 hK36 => ?_)
      refine W.region ?_
      refine Wl.run 1 (by kernel_rfl) ?_
      refine Wl.ys (v := Value.int .u32 ((s : Nat) : Int)) rfl rfl (Ys.load (b := p1) (o' := 3) (i := 2) (j := 0) (cs := [Value.int .u8 ((tt.toNat : Nat) : Int), Value.int .u8 ((pr.toNat : Nat) : Int), Value.int .u16 ((id : Nat) : Int), Value.int .u32 ((s : Nat) : Int), Value.int .u32 ((d : Nat) : Int), Value.slice a xs.length cap]) (v := Value.int .u32 ((s : Nat) : Int)) rfl (by kernel_rfl) Try.isAgg24 rfl rfl rfl) ?_
      refine Wl.run 1 (by kernel_rfl) ?_
      refine Wl.ys (v := Value.int .u32 ((d : Nat) : Int)) rfl rfl (Ys.load (b := p1) (o' := 4) (i := 2) (j := 0) (cs := [Value.int .u8 ((tt.toNat : Nat) : Int), Value.int .u8 ((pr.toNat : Nat) : Int), Value.int .u16 ((id : Nat) : Int), Value.int .u32 ((s : Nat) : Int), Value.int .u32 ((d : Nat) : Int), Value.slice a xs.length cap]) (v := Value.int .u32 ((d : Nat) : Int)) rfl (by kernel_rfl) Try.isAgg24 rfl rfl rfl) ?_
      refine Wl.run 1 (by kernel_rfl) ?_
      refine Wl.ys (v := Value.slice a xs.length cap) rfl rfl (Ys.load (b := p1) (o' := 5) (i := 2) (j := 0) (cs := [Value.int .u8 ((tt.toNat : Nat) : Int), Value.int .u8 ((pr.toNat : Nat) : Int), Value.int .u16 ((id : Nat) : Int), Value.int .u32 ((s : Nat) : Int), Value.int .u32 ((d : Nat) : Int), Value.slice a xs.length cap]) (v := Value.slice a xs.length cap) rfl (by kernel_rfl) Try.isAgg25 rfl rfl rfl) ?_
      refine Wl.ht rfl (Ht.call (β := FS) (k := 26) (args := #[Value.int .u32 ((s : Nat) : Int), Value.int .u32 ((d : Nat) : Int), Value.slice a xs.length cap]) (Lin := []) (Lk := [[cb p5 [Value.int .u8 ((pr.toNat : Nat) : Int), Value.int .u32 ((s : Nat) : Int), Value.int .u32 ((d : Nat) : Int), Value.int .u16 0, Value.int .u16 0] 30], [cb p2 [Value.int .u8 0, Value.int .u32 0, Value.int .u32 0, Value.int .u16 0, Value.int .u16 0] 30], [cb p1 [Value.int .u8 ((tt.toNat : Nat) : Int), Value.int .u8 ((pr.toNat : Nat) : Int), Value.int .u16 ((id : Nat) : Int), Value.int .u32 ((s : Nat) : Int), Value.int .u32 ((d : Nat) : Int), Value.slice a xs.length cap] 27]]) (Mi := []) (Lo := fun g37 => [g37.seg 5 (mc b8 (uD s d xs)), [cb p5 [Value.int .u8 ((pr.toNat : Nat) : Int), Value.int .u32 ((s : Nat) : Int), Value.int .u32 ((d : Nat) : Int), Value.int .u16 0, Value.int .u16 0] 30], [cb p2 [Value.int .u8 0, Value.int .u32 0, Value.int .u32 0, Value.int .u16 0, Value.int .u16 0] 30], [cb p1 [Value.int .u8 ((tt.toNat : Nat) : Int), Value.int .u8 ((pr.toNat : Nat) : Int), Value.int .u16 ((id : Nat) : Int), Value.int .u32 ((s : Nat) : Int), Value.int .u32 ((d : Nat) : Int), Value.slice a xs.length cap] 27]]) [] [0, 1, 2] rfl (fun _ => by kernel_rfl) (by decide) rfl rfl rfl (fun w_ hm_ hl_ => (rrudpn_c s d xs a cap xs.length _ (by first | rfl | (rw [List.length_take]; omega) | (simp; done) | (simp [be_len, be_len, psh_len]; omega)) (hat.mem0 hm_) (by omega) (by omega) (by first | omega | (simp; omega)) (by first | omega | (simp; omega)))) (fun _ => rfl)) (fun x39 => ?_)
      obtain ⟨g37, ok38⟩ := x39
      refine Wl.castL (LL' := [g37.seg 5 (mc b8 (uD s d xs)), [cb p5 [Value.int .u8 ((pr.toNat : Nat) : Int), Value.int .u32 ((s : Nat) : Int), Value.int .u32 ((d : Nat) : Int), Value.int .u16 0, Value.int .u16 0] 30], [cb p2 [Value.int .u8 0, Value.int .u32 0, Value.int .u32 0, Value.int .u16 0, Value.int .u16 0] 30], [cb p1 [Value.int .u8 ((tt.toNat : Nat) : Int), Value.int .u8 ((pr.toNat : Nat) : Int), Value.int .u16 ((id : Nat) : Int), Value.int .u32 ((s : Nat) : Int), Value.int .u32 ((d : Nat) : Int), Value.slice a xs.length cap] 27]]) rfl ?_
      refine Wl.run 3 (by kernel_rfl) ?_
      refine Wl.ht rfl (Ht.alloc (z := Value.agg ([Value.int .u16 0, Value.int .u16 0, Value.bool false, Value.slice none 0 0]).toArray) (cs := [Value.int .u16 0, Value.int .u16 0, Value.bool false, Value.slice none 0 0]) rfl rfl Try.zeroValue56 rfl) (fun p8 => ?_)
      refine Wl.ht rfl (Ht.storeN (b := p8) (o' := 0) (i := 0) (j := 0) (cs := [Value.int .u16 0, Value.int .u16 0, Value.bool false, Value.slice none 0 0]) (vs := [Value.int .u16 ((uF s d xs 0 : Nat) : Int), Value.int .u16 ((uF s d xs 2 : Nat) : Int), Value.bool (uP s d xs), Value.slice g37.a ((uD s d xs).length) g37.cap]) (cs' := [Value.int .u16 ((uF s d xs 0 : Nat) : Int), Value.int .u16 ((uF s d xs 2 : Nat) : Int), Value.bool (uP s d xs), Value.slice g37.a ((uD s d xs).length) g37.cap]) (LL' := [[cb p8 [Value.int .u16 ((uF s d xs 0 : Nat) : Int), Value.int .u16 ((uF s d xs 2 : Nat) : Int), Value.bool (uP s d xs), Value.slice g37.a ((uD s d xs).length) g37.cap] 56], g37.seg 5 (mc b8 (uD s d xs)), [cb p5 [Value.int .u8 ((pr.toNat : Nat) : Int), Value.int .u32 ((s : Nat) : Int), Value.int .u32 ((d : Nat) : Int), Value.int .u16 0, Value.int .u16 0] 30], [cb p2 [Value.int .u8 0, Value.int .u32 0, Value.int .u32 0, Value.int .u16 0, Value.int .u16 0] 30], [cb p1 [Value.int .u8 ((tt.toNat : Nat) : Int), Value.int .u8 ((pr.toNat : Nat) : Int), Value.int .u16 ((id : Nat) : Int), Value.int .u32 ((s : Nat) : Int), Value.int .u32 ((d : Nat) : Int), Value.slice a xs.length cap] 27]]) rfl rfl (by kernel_rfl) (by kernel_rfl) Try.sizeOf56 (by simp [Value.oneCell']) rfl rfl (by simp) rfl rfl) (fun _ => ?_)
      refine Wl.run 1 (by kernel_rfl) ?_
      refine Wl.nil ?_
      refine hK36 _ _ _ ?_
      refine W.pick (LL' := [[cb p8 [Value.int .u16 ((uF s d xs 0 : Nat) : Int), Value.int .u16 ((uF s d xs 2 : Nat) : Int), Value.bool (uP s d xs), Value.slice g37.a ((uD s d xs).length) g37.cap] 56], g37.seg 5 (mc b8 (uD s d xs)), [cb p5 [Value.int .u8 ((pr.toNat : Nat) : Int), Value.int .u32 ((s : Nat) : Int), Value.int .u32 ((d : Nat) : Int), Value.int .u16 0, Value.int .u16 0] 30], [cb p2 [Value.int .u8 0, Value.int .u32 0, Value.int .u32 0, Value.int .u16 0, Value.int .u16 0] 30]]) [0, 1, 2, 3] (by decide) rfl ?_
      refine W.prune' [2, 5, 8, 9] [Value.pointer (some ⟨p2, 0, none⟩), Value.pointer (some ⟨p5, 0, none⟩), Value.pointer (some ⟨p8, 0, none⟩), Value.int .i64 (uR s d xs)] (by kernel_rfl) (fun f40 => ?_)
      refine W.seq (fun K41 hK41 => ?_)
      refine W.seq (fun K42 hK42 => ?_)
      refine W.region ?_
      refine Wl.run 2 (by kernel_rfl) ?_
      refine Wl.nil ?_
      refine hK42 _ _ _ ?_
      refine W.prune' [2, 5, 8, 9, 59] [Value.pointer (some ⟨p2, 0, none⟩), Value.pointer (some ⟨p5, 0, none⟩), Value.pointer (some ⟨p8, 0, none⟩), Value.int .i64 (uR s d xs), Value.bool ((uR s d xs) != 0)] (by kernel_rfl) (fun f43 => ?_)
      refine W.cond ((uR s d xs) != 0) (by kernel_rfl) (fun h44 => ?_) (fun h45 => ?_)
      · have qh44 := h44; try simp only [Bool.and_eq_true, Bool.or_eq_true, Bool.not_eq_true', Bool.not_eq_false', Bool.and_eq_false_iff, Bool.or_eq_false_iff, decide_eq_true_eq, decide_eq_false_iff_not, beq_iff_eq, bne_iff_ne, beq_eq_false_iff_ne, bne_eq_false_iff_eq] at qh44
        refine W.seq (fun K46 hK46 => ?_)
        refine W.region ?_
        refine Wl.run 2 (by kernel_rfl) ?_
        refine Wl.ht rfl (Ht.storeN (b := p2) (o' := 0) (i := 3) (j := 0) (cs := [Value.int .u8 0, Value.int .u32 0, Value.int .u32 0, Value.int .u16 0, Value.int .u16 0]) (vs := [Value.int .u8 0, Value.int .u32 0, Value.int .u32 0, Value.int .u16 0, Value.int .u16 0]) (cs' := [Value.int .u8 0, Value.int .u32 0, Value.int .u32 0, Value.int .u16 0, Value.int .u16 0]) (LL' := [[cb p8 [Value.int .u16 ((uF s d xs 0 : Nat) : Int), Value.int .u16 ((uF s d xs 2 : Nat) : Int), Value.bool (uP s d xs), Value.slice g37.a ((uD s d xs).length) g37.cap] 56], g37.seg 5 (mc b8 (uD s d xs)), [cb p5 [Value.int .u8 ((pr.toNat : Nat) : Int), Value.int .u32 ((s : Nat) : Int), Value.int .u32 ((d : Nat) : Int), Value.int .u16 0, Value.int .u16 0] 30], [cb p2 [Value.int .u8 0, Value.int .u32 0, Value.int .u32 0, Value.int .u16 0, Value.int .u16 0] 30]]) rfl rfl (by kernel_rfl) (by kernel_rfl) Try.sizeOf30 (by simp [Value.oneCell']) rfl rfl (by simp) rfl rfl) (fun _ => ?_)
        refine Wl.run 2 (by kernel_rfl) ?_
        refine Wl.nil ?_
        refine hK46 _ _ _ ?_
        refine W.pick (LL' := [[cb p2 [Value.int .u8 0, Value.int .u32 0, Value.int .u32 0, Value.int .u16 0, Value.int .u16 0] 30]]) [3] (by decide) rfl ?_
        refine W.prune' [2, 3, 4] [Value.pointer (some ⟨p2, 0, none⟩), Value.int .i64 0, Value.int .i64 (uR s d xs)] (by kernel_rfl) (fun f47 => ?_)
        refine W.ret ?_
        have hisT_ : isT pr = false := h9
        have hisU_ : isU pr = true := h34
        have hE_ : ofE pr s d xs = uR s d xs := by simp only [ofE, hisT_, hisU_, cond_true, cond_false]
        have hZ_ : ofZ pr s d xs = false := by unfold ofZ; rw [hE_, h44]; rfl
        show ∀ w_, _ → bodyPostM (fence none) 0 Try.prog Try.f12 _ Exit.ret _ w_
        exact fun w_ hS_ => fin_ret (ret3 rfl (RV.cellN (b := p2) (o' := 0) (i := 0) (j := 0) (cs := [Value.int .u8 0, Value.int .u32 0, Value.int .u32 0, Value.int .u16 0, Value.int .u16 0]) (vs := [Value.int .u8 0, Value.int .u32 0, Value.int .u32 0, Value.int .u16 0, Value.int .u16 0]) (by kernel_rfl) Try.isAgg30 Try.sizeOf30 rfl rfl rfl rfl) (RV.tmp (v := Value.int .i64 0) (by kernel_rfl)) (RV.tmp (v := Value.int .i64 (uR s d xs)) (by kernel_rfl)) hS_ ⟨by clear hK1 hK3 hK5 hK6 hK31 hK32 hK36 hK41 hK42 hK46; refine congrArg Ending.returned ?_; simp only [ofK, ofP, ofS, ofD, ofF, ofT, hE_, hZ_, hisT_, hisU_, cond_true, cond_false]; try rfl, hS_.below⟩)
      · have qh45 := h45; try simp only [Bool.and_eq_true, Bool.or_eq_true, Bool.not_eq_true', Bool.not_eq_false', Bool.and_eq_false_iff, Bool.or_eq_false_iff, decide_eq_true_eq, decide_eq_false_iff_not, beq_iff_eq, bne_iff_ne, beq_eq_false_iff_ne, bne_eq_false_iff_eq] at qh45
        refine W.skip' ?_
        refine hK41 _ _ _ ?_
        refine W.prune' [2, 5, 8] [Value.pointer (some ⟨p2, 0, none⟩), Value.pointer (some ⟨p5, 0, none⟩), Value.pointer (some ⟨p8, 0, none⟩)] (by kernel_rfl) (fun f48 => ?_)
        refine W.seq (fun K49 hK49 => ?_)
        refine W.region ?_
        refine Wl.run 1 (by kernel_rfl) ?_
        refine Wl.ys (v := Value.int .u16 ((uF s d xs 0 : Nat) : Int)) rfl rfl (Ys.load (b := p8) (o' := 0) (i := 0) (j := 0) (cs := [Value.int .u16 ((uF s d xs 0 : Nat) : Int), Value.int .u16 ((uF s d xs 2 : Nat) : Int), Value.bool (uP s d xs), Value.slice g37.a ((uD s d xs).length) g37.cap]) (v := Value.int .u16 ((uF s d xs 0 : Nat) : Int)) rfl (by kernel_rfl) Try.isAgg22 rfl rfl rfl) ?_
        refine Wl.run 1 (by kernel_rfl) ?_
        refine Wl.ht rfl (Ht.store (b := p5) (o' := 3) (i := 2) (j := 0) (cs := [Value.int .u8 ((pr.toNat : Nat) : Int), Value.int .u32 ((s : Nat) : Int), Value.int .u32 ((d : Nat) : Int), Value.int .u16 0, Value.int .u16 0]) (cs' := [Value.int .u8 ((pr.toNat : Nat) : Int), Value.int .u32 ((s : Nat) : Int), Value.int .u32 ((d : Nat) : Int), Value.int .u16 ((uF s d xs 0 : Nat) : Int), Value.int .u16 0]) (v := Value.int .u16 ((uF s d xs 0 : Nat) : Int)) (LL' := [[cb p8 [Value.int .u16 ((uF s d xs 0 : Nat) : Int), Value.int .u16 ((uF s d xs 2 : Nat) : Int), Value.bool (uP s d xs), Value.slice g37.a ((uD s d xs).length) g37.cap] 56], g37.seg 5 (mc b8 (uD s d xs)), [cb p5 [Value.int .u8 ((pr.toNat : Nat) : Int), Value.int .u32 ((s : Nat) : Int), Value.int .u32 ((d : Nat) : Int), Value.int .u16 ((uF s d xs 0 : Nat) : Int), Value.int .u16 0] 30], [cb p2 [Value.int .u8 0, Value.int .u32 0, Value.int .u32 0, Value.int .u16 0, Value.int .u16 0] 30]]) rfl rfl (by kernel_rfl) (by kernel_rfl) Try.sizeOf22 rfl rfl rfl (by simp) rfl rfl) (fun _ => ?_)
        refine Wl.nil ?_
        refine hK49 _ _ _ ?_
        refine W.prune' [2, 5, 8] [Value.pointer (some ⟨p2, 0, none⟩), Value.pointer (some ⟨p5, 0, none⟩), Value.pointer (some ⟨p8, 0, none⟩)] (by kernel_rfl) (fun f50 => ?_)
        refine W.seq (fun K51 hK51 => ?_)
        refine W.region ?_
        refine Wl.run 1 (by kernel_rfl) ?_
        refine Wl.ys (v := Value.int .u16 ((uF s d xs 2 : Nat) : Int)) rfl rfl (Ys.load (b := p8) (o' := 1) (i := 0) (j := 0) (cs := [Value.int .u16 ((uF s d xs 0 : Nat) : Int), Value.int .u16 ((uF s d xs 2 : Nat) : Int), Value.bool (uP s d xs), Value.slice g37.a ((uD s d xs).length) g37.cap]) (v := Value.int .u16 ((uF s d xs 2 : Nat) : Int)) rfl (by kernel_rfl) Try.isAgg22 rfl rfl rfl) ?_
        refine Wl.run 1 (by kernel_rfl) ?_
        refine Wl.ht rfl (Ht.store (b := p5) (o' := 4) (i := 2) (j := 0) (cs := [Value.int .u8 ((pr.toNat : Nat) : Int), Value.int .u32 ((s : Nat) : Int), Value.int .u32 ((d : Nat) : Int), Value.int .u16 ((uF s d xs 0 : Nat) : Int), Value.int .u16 0]) (cs' := [Value.int .u8 ((pr.toNat : Nat) : Int), Value.int .u32 ((s : Nat) : Int), Value.int .u32 ((d : Nat) : Int), Value.int .u16 ((uF s d xs 0 : Nat) : Int), Value.int .u16 ((uF s d xs 2 : Nat) : Int)]) (v := Value.int .u16 ((uF s d xs 2 : Nat) : Int)) (LL' := [[cb p8 [Value.int .u16 ((uF s d xs 0 : Nat) : Int), Value.int .u16 ((uF s d xs 2 : Nat) : Int), Value.bool (uP s d xs), Value.slice g37.a ((uD s d xs).length) g37.cap] 56], g37.seg 5 (mc b8 (uD s d xs)), [cb p5 [Value.int .u8 ((pr.toNat : Nat) : Int), Value.int .u32 ((s : Nat) : Int), Value.int .u32 ((d : Nat) : Int), Value.int .u16 ((uF s d xs 0 : Nat) : Int), Value.int .u16 ((uF s d xs 2 : Nat) : Int)] 30], [cb p2 [Value.int .u8 0, Value.int .u32 0, Value.int .u32 0, Value.int .u16 0, Value.int .u16 0] 30]]) rfl rfl (by kernel_rfl) (by kernel_rfl) Try.sizeOf22 rfl rfl rfl (by simp) rfl rfl) (fun _ => ?_)
        refine Wl.nil ?_
        refine hK51 _ _ _ ?_
        refine W.pick (LL' := [[cb p5 [Value.int .u8 ((pr.toNat : Nat) : Int), Value.int .u32 ((s : Nat) : Int), Value.int .u32 ((d : Nat) : Int), Value.int .u16 ((uF s d xs 0 : Nat) : Int), Value.int .u16 ((uF s d xs 2 : Nat) : Int)] 30], [cb p2 [Value.int .u8 0, Value.int .u32 0, Value.int .u32 0, Value.int .u16 0, Value.int .u16 0] 30]]) [2, 3] (by decide) rfl ?_
        refine W.prune' [2, 5] [Value.pointer (some ⟨p2, 0, none⟩), Value.pointer (some ⟨p5, 0, none⟩)] (by kernel_rfl) (fun f52 => ?_)
        refine W.seq (fun K53 hK53 => ?_)
        refine W.region ?_
        refine Wl.ys (v := Value.agg ([Value.int .u8 ((pr.toNat : Nat) : Int), Value.int .u32 ((s : Nat) : Int), Value.int .u32 ((d : Nat) : Int), Value.int .u16 ((uF s d xs 0 : Nat) : Int), Value.int .u16 ((uF s d xs 2 : Nat) : Int)]).toArray) rfl rfl (Ys.loadN (b := p5) (o' := 0) (i := 0) (j := 0) (cs := [Value.int .u8 ((pr.toNat : Nat) : Int), Value.int .u32 ((s : Nat) : Int), Value.int .u32 ((d : Nat) : Int), Value.int .u16 ((uF s d xs 0 : Nat) : Int), Value.int .u16 ((uF s d xs 2 : Nat) : Int)]) (vs := [Value.int .u8 ((pr.toNat : Nat) : Int), Value.int .u32 ((s : Nat) : Int), Value.int .u32 ((d : Nat) : Int), Value.int .u16 ((uF s d xs 0 : Nat) : Int), Value.int .u16 ((uF s d xs 2 : Nat) : Int)]) rfl (by kernel_rfl) Try.isAgg30 Try.sizeOf30 rfl rfl rfl rfl) ?_
        refine Wl.ht rfl (Ht.storeN (b := p2) (o' := 0) (i := 1) (j := 0) (cs := [Value.int .u8 0, Value.int .u32 0, Value.int .u32 0, Value.int .u16 0, Value.int .u16 0]) (vs := [Value.int .u8 ((pr.toNat : Nat) : Int), Value.int .u32 ((s : Nat) : Int), Value.int .u32 ((d : Nat) : Int), Value.int .u16 ((uF s d xs 0 : Nat) : Int), Value.int .u16 ((uF s d xs 2 : Nat) : Int)]) (cs' := [Value.int .u8 ((pr.toNat : Nat) : Int), Value.int .u32 ((s : Nat) : Int), Value.int .u32 ((d : Nat) : Int), Value.int .u16 ((uF s d xs 0 : Nat) : Int), Value.int .u16 ((uF s d xs 2 : Nat) : Int)]) (LL' := [[cb p5 [Value.int .u8 ((pr.toNat : Nat) : Int), Value.int .u32 ((s : Nat) : Int), Value.int .u32 ((d : Nat) : Int), Value.int .u16 ((uF s d xs 0 : Nat) : Int), Value.int .u16 ((uF s d xs 2 : Nat) : Int)] 30], [cb p2 [Value.int .u8 ((pr.toNat : Nat) : Int), Value.int .u32 ((s : Nat) : Int), Value.int .u32 ((d : Nat) : Int), Value.int .u16 ((uF s d xs 0 : Nat) : Int), Value.int .u16 ((uF s d xs 2 : Nat) : Int)] 30]]) rfl rfl (by kernel_rfl) (by kernel_rfl) Try.sizeOf30 (by simp [Value.oneCell']) rfl rfl (by simp) rfl rfl) (fun _ => ?_)
        refine Wl.run 2 (by kernel_rfl) ?_
        refine Wl.nil ?_
        refine hK53 _ _ _ ?_
        refine W.pick (LL' := [[cb p2 [Value.int .u8 ((pr.toNat : Nat) : Int), Value.int .u32 ((s : Nat) : Int), Value.int .u32 ((d : Nat) : Int), Value.int .u16 ((uF s d xs 0 : Nat) : Int), Value.int .u16 ((uF s d xs 2 : Nat) : Int)] 30]]) [1] (by decide) rfl ?_
        refine W.prune' [2, 3, 4] [Value.pointer (some ⟨p2, 0, none⟩), Value.int .i64 1, Value.int .i64 0] (by kernel_rfl) (fun f54 => ?_)
        refine W.ret ?_
        have hisT_ : isT pr = false := h9
        have hisU_ : isU pr = true := h34
        have hE_ : ofE pr s d xs = uR s d xs := by simp only [ofE, hisT_, hisU_, cond_true, cond_false]
        have hZ_ : ofZ pr s d xs = true := by unfold ofZ; rw [hE_, h45]; rfl
        show ∀ w_, _ → bodyPostM (fence none) 0 Try.prog Try.f12 _ Exit.ret _ w_
        exact fun w_ hS_ => fin_ret (ret3 rfl (RV.cellN (b := p2) (o' := 0) (i := 0) (j := 0) (cs := [Value.int .u8 ((pr.toNat : Nat) : Int), Value.int .u32 ((s : Nat) : Int), Value.int .u32 ((d : Nat) : Int), Value.int .u16 ((uF s d xs 0 : Nat) : Int), Value.int .u16 ((uF s d xs 2 : Nat) : Int)]) (vs := [Value.int .u8 ((pr.toNat : Nat) : Int), Value.int .u32 ((s : Nat) : Int), Value.int .u32 ((d : Nat) : Int), Value.int .u16 ((uF s d xs 0 : Nat) : Int), Value.int .u16 ((uF s d xs 2 : Nat) : Int)]) (by kernel_rfl) Try.isAgg30 Try.sizeOf30 rfl rfl rfl rfl) (RV.tmp (v := Value.int .i64 1) (by kernel_rfl)) (RV.tmp (v := Value.int .i64 0) (by kernel_rfl)) hS_ ⟨by clear hK1 hK3 hK5 hK6 hK31 hK32 hK36 hK41 hK42 hK49 hK51 hK53; refine congrArg Ending.returned ?_; simp only [ofK, ofP, ofS, ofD, ofF, ofT, hE_, hZ_, hisT_, hisU_, cond_true, cond_false]; try (rw [show uR s d xs = (0 : Int) from by have z_ := h45; simpa using z_]); try rfl, hS_.below⟩)
    · have qh35 := h35; try simp only [Bool.and_eq_true, Bool.or_eq_true, Bool.not_eq_true', Bool.not_eq_false', Bool.and_eq_false_iff, Bool.or_eq_false_iff, decide_eq_true_eq, decide_eq_false_iff_not, beq_iff_eq, bne_iff_ne, beq_eq_false_iff_ne, bne_eq_false_iff_eq] at qh35
      refine W.skip' ?_
      refine hK31 _ _ _ ?_
      refine W.prune' [1, 2, 5] [Value.pointer (some ⟨p1, 0, none⟩), Value.pointer (some ⟨p2, 0, none⟩), Value.pointer (some ⟨p5, 0, none⟩)] (by kernel_rfl) (fun f55 => ?_)
      refine W.seq (fun K56 hK56 => ?_)
      refine W.seq (fun K57 hK57 => ?_)
      refine W.region ?_
      refine Wl.run 1 (by kernel_rfl) ?_
      refine Wl.ys (v := Value.int .u8 ((pr.toNat : Nat) : Int)) rfl rfl (Ys.load (b := p1) (o' := 1) (i := 2) (j := 0) (cs := [Value.int .u8 ((tt.toNat : Nat) : Int), Value.int .u8 ((pr.toNat : Nat) : Int), Value.int .u16 ((id : Nat) : Int), Value.int .u32 ((s : Nat) : Int), Value.int .u32 ((d : Nat) : Int), Value.slice a xs.length cap]) (v := Value.int .u8 ((pr.toNat : Nat) : Int)) rfl (by kernel_rfl) Try.isAgg5 rfl rfl rfl) ?_
      refine Wl.run 1 (by kernel_rfl) ?_
      refine Wl.nil ?_
      refine hK57 _ _ _ ?_
      refine W.prune' [1, 2, 5, 71] [Value.pointer (some ⟨p1, 0, none⟩), Value.pointer (some ⟨p2, 0, none⟩), Value.pointer (some ⟨p5, 0, none⟩), Value.bool (((pr.toNat : Nat) : Int) != 1)] (by kernel_rfl) (fun f58 => ?_)
      refine W.cond (((pr.toNat : Nat) : Int) != 1) (by kernel_rfl) (fun h59 => ?_) (fun h60 => ?_)
      · have qh59 := h59; try simp only [Bool.and_eq_true, Bool.or_eq_true, Bool.not_eq_true', Bool.not_eq_false', Bool.and_eq_false_iff, Bool.or_eq_false_iff, decide_eq_true_eq, decide_eq_false_iff_not, beq_iff_eq, bne_iff_ne, beq_eq_false_iff_ne, bne_eq_false_iff_eq] at qh59
        refine W.seq (fun K61 hK61 => ?_)
        refine W.region ?_
        refine Wl.run 1 (by kernel_rfl) ?_
        refine Wl.ht rfl (Ht.storeN (b := p2) (o' := 0) (i := 1) (j := 0) (cs := [Value.int .u8 0, Value.int .u32 0, Value.int .u32 0, Value.int .u16 0, Value.int .u16 0]) (vs := [Value.int .u8 0, Value.int .u32 0, Value.int .u32 0, Value.int .u16 0, Value.int .u16 0]) (cs' := [Value.int .u8 0, Value.int .u32 0, Value.int .u32 0, Value.int .u16 0, Value.int .u16 0]) (LL' := [[cb p5 [Value.int .u8 ((pr.toNat : Nat) : Int), Value.int .u32 ((s : Nat) : Int), Value.int .u32 ((d : Nat) : Int), Value.int .u16 0, Value.int .u16 0] 30], [cb p2 [Value.int .u8 0, Value.int .u32 0, Value.int .u32 0, Value.int .u16 0, Value.int .u16 0] 30], [cb p1 [Value.int .u8 ((tt.toNat : Nat) : Int), Value.int .u8 ((pr.toNat : Nat) : Int), Value.int .u16 ((id : Nat) : Int), Value.int .u32 ((s : Nat) : Int), Value.int .u32 ((d : Nat) : Int), Value.slice a xs.length cap] 27]]) rfl rfl (by kernel_rfl) (by kernel_rfl) Try.sizeOf30 (by simp [Value.oneCell']) rfl rfl (by simp) rfl rfl) (fun _ => ?_)
        refine Wl.run 2 (by kernel_rfl) ?_
        refine Wl.nil ?_
        refine hK61 _ _ _ ?_
        refine W.pick (LL' := [[cb p2 [Value.int .u8 0, Value.int .u32 0, Value.int .u32 0, Value.int .u16 0, Value.int .u16 0] 30]]) [1] (by decide) rfl ?_
        refine W.prune' [2, 3, 4] [Value.pointer (some ⟨p2, 0, none⟩), Value.int .i64 0, Value.int .i64 11] (by kernel_rfl) (fun f62 => ?_)
        refine W.ret ?_
        have hisT_ : isT pr = false := h9
        have hisU_ : isU pr = false := h35
        have hisI_ : isI pr = false := by have z_ := h59; unfold isI; unfold bne at z_; revert z_; cases ((pr.toNat : Nat) : Int) == 1 <;> simp
        have hE_ : ofE pr s d xs = 11 := by simp only [ofE, hisT_, hisU_, hisI_, cond_true, cond_false]
        have hZ_ : ofZ pr s d xs = false := by unfold ofZ; rw [hE_]; rfl
        show ∀ w_, _ → bodyPostM (fence none) 0 Try.prog Try.f12 _ Exit.ret _ w_
        exact fun w_ hS_ => fin_ret (ret3 rfl (RV.cellN (b := p2) (o' := 0) (i := 0) (j := 0) (cs := [Value.int .u8 0, Value.int .u32 0, Value.int .u32 0, Value.int .u16 0, Value.int .u16 0]) (vs := [Value.int .u8 0, Value.int .u32 0, Value.int .u32 0, Value.int .u16 0, Value.int .u16 0]) (by kernel_rfl) Try.isAgg30 Try.sizeOf30 rfl rfl rfl rfl) (RV.tmp (v := Value.int .i64 0) (by kernel_rfl)) (RV.tmp (v := Value.int .i64 11) (by kernel_rfl)) hS_ ⟨by clear hK1 hK3 hK5 hK6 hK31 hK32 hK56 hK57 hK61; refine congrArg Ending.returned ?_; simp only [ofK, ofP, ofS, ofD, ofF, ofT, hE_, hZ_, hisT_, hisU_, hisI_, cond_true, cond_false]; try rfl, hS_.below⟩)
      · have qh60 := h60; try simp only [Bool.and_eq_true, Bool.or_eq_true, Bool.not_eq_true', Bool.not_eq_false', Bool.and_eq_false_iff, Bool.or_eq_false_iff, decide_eq_true_eq, decide_eq_false_iff_not, beq_iff_eq, bne_iff_ne, beq_eq_false_iff_ne, bne_eq_false_iff_eq] at qh60
        refine W.skip' ?_
        refine hK56 _ _ _ ?_
        refine W.prune' [1, 2, 5] [Value.pointer (some ⟨p1, 0, none⟩), Value.pointer (some ⟨p2, 0, none⟩), Value.pointer (some ⟨p5, 0, none⟩)] (by kernel_rfl) (fun f63 => ?_)
        refine W.seq (fun K64 hK64 => ?_)
        refine W.region ?_
        refine Wl.run 1 (by kernel_rfl) ?_
        refine Wl.ys (v := Value.slice a xs.length cap) rfl rfl (Ys.load (b := p1) (o' := 5) (i := 2) (j := 0) (cs := [Value.int .u8 ((tt.toNat : Nat) : Int), Value.int .u8 ((pr.toNat : Nat) : Int), Value.int .u16 ((id : Nat) : Int), Value.int .u32 ((s : Nat) : Int), Value.int .u32 ((d : Nat) : Int), Value.slice a xs.length cap]) (v := Value.slice a xs.length cap) rfl (by kernel_rfl) Try.isAgg25 rfl rfl rfl) ?_
        refine Wl.ht rfl (Ht.call (β := FS) (k := 27) (args := #[Value.slice a xs.length cap]) (Lin := []) (Lk := [[cb p5 [Value.int .u8 ((pr.toNat : Nat) : Int), Value.int .u32 ((s : Nat) : Int), Value.int .u32 ((d : Nat) : Int), Value.int .u16 0, Value.int .u16 0] 30], [cb p2 [Value.int .u8 0, Value.int .u32 0, Value.int .u32 0, Value.int .u16 0, Value.int .u16 0] 30], [cb p1 [Value.int .u8 ((tt.toNat : Nat) : Int), Value.int .u8 ((pr.toNat : Nat) : Int), Value.int .u16 ((id : Nat) : Int), Value.int .u32 ((s : Nat) : Int), Value.int .u32 ((d : Nat) : Int), Value.slice a xs.length cap] 27]]) (Mi := []) (Lo := fun g65 => [g65.seg 5 (mc b8 (mD xs)), [cb p5 [Value.int .u8 ((pr.toNat : Nat) : Int), Value.int .u32 ((s : Nat) : Int), Value.int .u32 ((d : Nat) : Int), Value.int .u16 0, Value.int .u16 0] 30], [cb p2 [Value.int .u8 0, Value.int .u32 0, Value.int .u32 0, Value.int .u16 0, Value.int .u16 0] 30], [cb p1 [Value.int .u8 ((tt.toNat : Nat) : Int), Value.int .u8 ((pr.toNat : Nat) : Int), Value.int .u16 ((id : Nat) : Int), Value.int .u32 ((s : Nat) : Int), Value.int .u32 ((d : Nat) : Int), Value.slice a xs.length cap] 27]]) [] [0, 1, 2] rfl (fun _ => by kernel_rfl) (by decide) rfl rfl rfl (fun w_ hm_ hl_ => (rricmpn_c xs a cap xs.length _ (by first | rfl | (rw [List.length_take]; omega) | (simp; done) | (simp [be_len, be_len, psh_len]; omega)) (hat.mem0 hm_) (by first | omega | (simp; omega)) (by first | omega | (simp; omega)))) (fun _ => rfl)) (fun x67 => ?_)
        obtain ⟨g65, ok66⟩ := x67
        refine Wl.castL (LL' := [g65.seg 5 (mc b8 (mD xs)), [cb p5 [Value.int .u8 ((pr.toNat : Nat) : Int), Value.int .u32 ((s : Nat) : Int), Value.int .u32 ((d : Nat) : Int), Value.int .u16 0, Value.int .u16 0] 30], [cb p2 [Value.int .u8 0, Value.int .u32 0, Value.int .u32 0, Value.int .u16 0, Value.int .u16 0] 30], [cb p1 [Value.int .u8 ((tt.toNat : Nat) : Int), Value.int .u8 ((pr.toNat : Nat) : Int), Value.int .u16 ((id : Nat) : Int), Value.int .u32 ((s : Nat) : Int), Value.int .u32 ((d : Nat) : Int), Value.slice a xs.length cap] 27]]) rfl ?_
        refine Wl.run 3 (by kernel_rfl) ?_
        refine Wl.ht rfl (Ht.alloc (z := Value.agg ([Value.int .u8 0, Value.int .u8 0, Value.int .u32 0, Value.slice none 0 0]).toArray) (cs := [Value.int .u8 0, Value.int .u8 0, Value.int .u32 0, Value.slice none 0 0]) rfl rfl Try.zeroValue65 rfl) (fun p10 => ?_)
        refine Wl.ht rfl (Ht.storeN (b := p10) (o' := 0) (i := 0) (j := 0) (cs := [Value.int .u8 0, Value.int .u8 0, Value.int .u32 0, Value.slice none 0 0]) (vs := [Value.int .u8 (((mT xs 0).toNat : Nat) : Int), Value.int .u8 (((mT xs 1).toNat : Nat) : Int), Value.int .u32 ((mN xs : Nat) : Int), Value.slice g65.a ((mD xs).length) g65.cap]) (cs' := [Value.int .u8 (((mT xs 0).toNat : Nat) : Int), Value.int .u8 (((mT xs 1).toNat : Nat) : Int), Value.int .u32 ((mN xs : Nat) : Int), Value.slice g65.a ((mD xs).length) g65.cap]) (LL' := [[cb p10 [Value.int .u8 (((mT xs 0).toNat : Nat) : Int), Value.int .u8 (((mT xs 1).toNat : Nat) : Int), Value.int .u32 ((mN xs : Nat) : Int), Value.slice g65.a ((mD xs).length) g65.cap] 65], g65.seg 5 (mc b8 (mD xs)), [cb p5 [Value.int .u8 ((pr.toNat : Nat) : Int), Value.int .u32 ((s : Nat) : Int), Value.int .u32 ((d : Nat) : Int), Value.int .u16 0, Value.int .u16 0] 30], [cb p2 [Value.int .u8 0, Value.int .u32 0, Value.int .u32 0, Value.int .u16 0, Value.int .u16 0] 30], [cb p1 [Value.int .u8 ((tt.toNat : Nat) : Int), Value.int .u8 ((pr.toNat : Nat) : Int), Value.int .u16 ((id : Nat) : Int), Value.int .u32 ((s : Nat) : Int), Value.int .u32 ((d : Nat) : Int), Value.slice a xs.length cap] 27]]) rfl rfl (by kernel_rfl) (by kernel_rfl) Try.sizeOf65 (by simp [Value.oneCell']) rfl rfl (by simp) rfl rfl) (fun _ => ?_)
        refine Wl.run 1 (by kernel_rfl) ?_
        refine Wl.nil ?_
        refine hK64 _ _ _ ?_
        refine W.pick (LL' := [[cb p10 [Value.int .u8 (((mT xs 0).toNat : Nat) : Int), Value.int .u8 (((mT xs 1).toNat : Nat) : Int), Value.int .u32 ((mN xs : Nat) : Int), Value.slice g65.a ((mD xs).length) g65.cap] 65], g65.seg 5 (mc b8 (mD xs)), [cb p5 [Value.int .u8 ((pr.toNat : Nat) : Int), Value.int .u32 ((s : Nat) : Int), Value.int .u32 ((d : Nat) : Int), Value.int .u16 0, Value.int .u16 0] 30], [cb p2 [Value.int .u8 0, Value.int .u32 0, Value.int .u32 0, Value.int .u16 0, Value.int .u16 0] 30]]) [0, 1, 2, 3] (by decide) rfl ?_
        refine W.prune' [2, 5, 10, 11] [Value.pointer (some ⟨p2, 0, none⟩), Value.pointer (some ⟨p5, 0, none⟩), Value.pointer (some ⟨p10, 0, none⟩), Value.int .i64 (mR xs)] (by kernel_rfl) (fun f68 => ?_)
        refine W.seq (fun K69 hK69 => ?_)
        refine W.seq (fun K70 hK70 => ?_)
        refine W.region ?_
        refine Wl.run 2 (by kernel_rfl) ?_
        refine Wl.nil ?_
        refine hK70 _ _ _ ?_
        refine W.prune' [2, 5, 10, 11, 80] [Value.pointer (some ⟨p2, 0, none⟩), Value.pointer (some ⟨p5, 0, none⟩), Value.pointer (some ⟨p10, 0, none⟩), Value.int .i64 (mR xs), Value.bool ((mR xs) != 0)] (by kernel_rfl) (fun f71 => ?_)
        refine W.cond ((mR xs) != 0) (by kernel_rfl) (fun h72 => ?_) (fun h73 => ?_)
        · have qh72 := h72; try simp only [Bool.and_eq_true, Bool.or_eq_true, Bool.not_eq_true', Bool.not_eq_false', Bool.and_eq_false_iff, Bool.or_eq_false_iff, decide_eq_true_eq, decide_eq_false_iff_not, beq_iff_eq, bne_iff_ne, beq_eq_false_iff_ne, bne_eq_false_iff_eq] at qh72
          refine W.seq (fun K74 hK74 => ?_)
          refine W.region ?_
          refine Wl.run 2 (by kernel_rfl) ?_
          refine Wl.ht rfl (Ht.storeN (b := p2) (o' := 0) (i := 3) (j := 0) (cs := [Value.int .u8 0, Value.int .u32 0, Value.int .u32 0, Value.int .u16 0, Value.int .u16 0]) (vs := [Value.int .u8 0, Value.int .u32 0, Value.int .u32 0, Value.int .u16 0, Value.int .u16 0]) (cs' := [Value.int .u8 0, Value.int .u32 0, Value.int .u32 0, Value.int .u16 0, Value.int .u16 0]) (LL' := [[cb p10 [Value.int .u8 (((mT xs 0).toNat : Nat) : Int), Value.int .u8 (((mT xs 1).toNat : Nat) : Int), Value.int .u32 ((mN xs : Nat) : Int), Value.slice g65.a ((mD xs).length) g65.cap] 65], g65.seg 5 (mc b8 (mD xs)), [cb p5 [Value.int .u8 ((pr.toNat : Nat) : Int), Value.int .u32 ((s : Nat) : Int), Value.int .u32 ((d : Nat) : Int), Value.int .u16 0, Value.int .u16 0] 30], [cb p2 [Value.int .u8 0, Value.int .u32 0, Value.int .u32 0, Value.int .u16 0, Value.int .u16 0] 30]]) rfl rfl (by kernel_rfl) (by kernel_rfl) Try.sizeOf30 (by simp [Value.oneCell']) rfl rfl (by simp) rfl rfl) (fun _ => ?_)
          refine Wl.run 2 (by kernel_rfl) ?_
          refine Wl.nil ?_
          refine hK74 _ _ _ ?_
          refine W.pick (LL' := [[cb p2 [Value.int .u8 0, Value.int .u32 0, Value.int .u32 0, Value.int .u16 0, Value.int .u16 0] 30]]) [3] (by decide) rfl ?_
          refine W.prune' [2, 3, 4] [Value.pointer (some ⟨p2, 0, none⟩), Value.int .i64 0, Value.int .i64 (mR xs)] (by kernel_rfl) (fun f75 => ?_)
          refine W.ret ?_
          have hisT_ : isT pr = false := h9
          have hisU_ : isU pr = false := h35
          have hisI_ : isI pr = true := by have z_ := h60; unfold isI; unfold bne at z_; revert z_; cases ((pr.toNat : Nat) : Int) == 1 <;> simp
          have hn_ : (mR xs == 0) = false := by have z_ := h72; unfold bne at z_; revert z_; cases (mR xs == 0) <;> simp
          have hE_ : ofE pr s d xs = mR xs := by simp only [ofE, hisT_, hisU_, hisI_, cond_true, cond_false, msE, hn_]
          have hZ_ : ofZ pr s d xs = false := by unfold ofZ; rw [hE_, h72]; rfl
          show ∀ w_, _ → bodyPostM (fence none) 0 Try.prog Try.f12 _ Exit.ret _ w_
          exact fun w_ hS_ => fin_ret (ret3 rfl (RV.cellN (b := p2) (o' := 0) (i := 0) (j := 0) (cs := [Value.int .u8 0, Value.int .u32 0, Value.int .u32 0, Value.int .u16 0, Value.int .u16 0]) (vs := [Value.int .u8 0, Value.int .u32 0, Value.int .u32 0, Value.int .u16 0, Value.int .u16 0]) (by kernel_rfl) Try.isAgg30 Try.sizeOf30 rfl rfl rfl rfl) (RV.tmp (v := Value.int .i64 0) (by kernel_rfl)) (RV.tmp (v := Value.int .i64 (mR xs)) (by kernel_rfl)) hS_ ⟨by clear hK1 hK3 hK5 hK6 hK31 hK32 hK56 hK57 hK64 hK69 hK70 hK74; refine congrArg Ending.returned ?_; simp only [ofK, ofP, ofS, ofD, ofF, ofT, hE_, hZ_, hisT_, hisU_, hisI_, cond_true, cond_false]; try rfl, hS_.below⟩)
        · have qh73 := h73; try simp only [Bool.and_eq_true, Bool.or_eq_true, Bool.not_eq_true', Bool.not_eq_false', Bool.and_eq_false_iff, Bool.or_eq_false_iff, decide_eq_true_eq, decide_eq_false_iff_not, beq_iff_eq, bne_iff_ne, beq_eq_false_iff_ne, bne_eq_false_iff_eq] at qh73
          refine W.skip' ?_
          refine hK69 _ _ _ ?_
          refine W.prune' [2, 5, 10] [Value.pointer (some ⟨p2, 0, none⟩), Value.pointer (some ⟨p5, 0, none⟩), Value.pointer (some ⟨p10, 0, none⟩)] (by kernel_rfl) (fun f76 => ?_)
          refine W.seq (fun K77 hK77 => ?_)
          refine W.seq (fun K78 hK78 => ?_)
          refine W.region ?_
          refine Wl.run 1 (by kernel_rfl) ?_
          refine Wl.ys (v := Value.int .u8 (((mT xs 0).toNat : Nat) : Int)) rfl rfl (Ys.load (b := p10) (o' := 0) (i := 0) (j := 0) (cs := [Value.int .u8 (((mT xs 0).toNat : Nat) : Int), Value.int .u8 (((mT xs 1).toNat : Nat) : Int), Value.int .u32 ((mN xs : Nat) : Int), Value.slice g65.a ((mD xs).length) g65.cap]) (v := Value.int .u8 (((mT xs 0).toNat : Nat) : Int)) rfl (by kernel_rfl) Try.isAgg5 rfl rfl rfl) ?_
          refine Wl.run 2 (by kernel_rfl) ?_
          refine Wl.guard (v := Value.pointer (some ⟨p10, 1, none⟩)) ((((mT xs 0).toNat : Nat) : Int) == 8) rfl (wantT rfl (by kernel_rfl)) rfl (fun hg79 => ?_) ?_
          · have qhg79 := hg79; try simp only [Bool.and_eq_true, Bool.or_eq_true, Bool.not_eq_true', Bool.not_eq_false', Bool.and_eq_false_iff, Bool.or_eq_false_iff, decide_eq_true_eq, decide_eq_false_iff_not, beq_iff_eq, bne_iff_ne, beq_eq_false_iff_ne, bne_eq_false_iff_eq] at qhg79
            exact Ys.pure (fun _ => by kernel_rfl)
          refine Wl.guard (v := Value.int .u8 (((mT xs 1).toNat : Nat) : Int)) ((((mT xs 0).toNat : Nat) : Int) == 8) rfl (wantT rfl (by kernel_rfl)) rfl (fun hg80 => ?_) ?_
          · have qhg80 := hg80; try simp only [Bool.and_eq_true, Bool.or_eq_true, Bool.not_eq_true', Bool.not_eq_false', Bool.and_eq_false_iff, Bool.or_eq_false_iff, decide_eq_true_eq, decide_eq_false_iff_not, beq_iff_eq, bne_iff_ne, beq_eq_false_iff_ne, bne_eq_false_iff_eq] at qhg80
            refine Ys.at (t := 87) (v0 := Value.pointer (some ⟨p10, 1, none⟩)) (lz (g := (((mT xs 0).toNat : Nat) : Int) == 8) (u := undef) hg80 (by kernel_rfl)) ?_
            exact Ys.load (b := p10) (o' := 1) (i := 0) (j := 0) (cs := [Value.int .u8 (((mT xs 0).toNat : Nat) : Int), Value.int .u8 (((mT xs 1).toNat : Nat) : Int), Value.int .u32 ((mN xs : Nat) : Int), Value.slice g65.a ((mD xs).length) g65.cap]) (v := Value.int .u8 (((mT xs 1).toNat : Nat) : Int)) rfl (by kernel_rfl) Try.isAgg5 rfl rfl rfl
          refine Wl.guard (v := Value.bool ((((mT xs 1).toNat : Nat) : Int) == 0)) ((((mT xs 0).toNat : Nat) : Int) == 8) rfl (wantT rfl (by kernel_rfl)) rfl (fun hg81 => ?_) ?_
          · have qhg81 := hg81; try simp only [Bool.and_eq_true, Bool.or_eq_true, Bool.not_eq_true', Bool.not_eq_false', Bool.and_eq_false_iff, Bool.or_eq_false_iff, decide_eq_true_eq, decide_eq_false_iff_not, beq_iff_eq, bne_iff_ne, beq_eq_false_iff_ne, bne_eq_false_iff_eq] at qhg81
            refine Ys.at (t := 88) (v0 := Value.int .u8 (((mT xs 1).toNat : Nat) : Int)) (lz (g := (((mT xs 0).toNat : Nat) : Int) == 8) (u := undef) hg81 (by kernel_rfl)) ?_
            exact Ys.pure (fun _ => by kernel_rfl)
          refine Wl.ys (v := Value.bool (((((mT xs 0).toNat : Nat) : Int) == 8) && ((((mT xs 1).toNat : Nat) : Int) == 0))) rfl rfl (Ys.and (e := (((mT xs 0).toNat : Nat) : Int) == 8) (b := (((mT xs 1).toNat : Nat) : Int) == 0) rfl (by kernel_rfl) (by kernel_rfl) (by kernel_rfl)) ?_
          refine Wl.nil ?_
          refine hK78 _ _ _ ?_
          refine W.prune' [2, 5, 10, 90] [Value.pointer (some ⟨p2, 0, none⟩), Value.pointer (some ⟨p5, 0, none⟩), Value.pointer (some ⟨p10, 0, none⟩), Value.bool (((((mT xs 0).toNat : Nat) : Int) == 8) && ((((mT xs 1).toNat : Nat) : Int) == 0))] (by kernel_rfl) (fun f82 => ?_)
          refine W.cond (((((mT xs 0).toNat : Nat) : Int) == 8) && ((((mT xs 1).toNat : Nat) : Int) == 0)) (by kernel_rfl) (fun h83 => ?_) (fun h84 => ?_)
          · have qh83 := h83; try simp only [Bool.and_eq_true, Bool.or_eq_true, Bool.not_eq_true', Bool.not_eq_false', Bool.and_eq_false_iff, Bool.or_eq_false_iff, decide_eq_true_eq, decide_eq_false_iff_not, beq_iff_eq, bne_iff_ne, beq_eq_false_iff_ne, bne_eq_false_iff_eq] at qh83
            refine W.seq (fun K85 hK85 => ?_)
            refine W.region ?_
            refine Wl.run 1 (by kernel_rfl) ?_
            refine Wl.ys (v := Value.int .u32 ((mN xs : Nat) : Int)) rfl rfl (Ys.load (b := p10) (o' := 2) (i := 0) (j := 0) (cs := [Value.int .u8 (((mT xs 0).toNat : Nat) : Int), Value.int .u8 (((mT xs 1).toNat : Nat) : Int), Value.int .u32 ((mN xs : Nat) : Int), Value.slice g65.a ((mD xs).length) g65.cap]) (v := Value.int .u32 ((mN xs : Nat) : Int)) rfl (by kernel_rfl) Try.isAgg23 rfl rfl rfl) ?_
            refine Wl.ys (v := Value.int .u32 (((mN xs) / 65536 : Nat) : Int)) rfl rfl ((Ys.pure (v := .int .u32 (iquo .u32 ((mN xs : Nat) : Int) ((65536 : Nat) : Int))) (fun _ => by kernel_rfl)).conseq (int_congr (iquo_natu rfl (by show _ < 4294967296; omega)))) ?_
            refine Wl.ys (v := Value.int .u16 ((((mN xs) / 65536) % 65536 : Nat) : Int)) rfl rfl ((Ys.pure (v := .int .u16 (icnv .u16 (((mN xs) / 65536 : Nat) : Int))) (fun _ => by kernel_rfl)).conseq (int_congr (icnv_mod rfl _))) ?_
            refine Wl.run 1 (by kernel_rfl) ?_
            refine Wl.ht rfl (Ht.store (b := p5) (o' := 3) (i := 2) (j := 0) (cs := [Value.int .u8 ((pr.toNat : Nat) : Int), Value.int .u32 ((s : Nat) : Int), Value.int .u32 ((d : Nat) : Int), Value.int .u16 0, Value.int .u16 0]) (cs' := [Value.int .u8 ((pr.toNat : Nat) : Int), Value.int .u32 ((s : Nat) : Int), Value.int .u32 ((d : Nat) : Int), Value.int .u16 ((((mN xs) / 65536) % 65536 : Nat) : Int), Value.int .u16 0]) (v := Value.int .u16 ((((mN xs) / 65536) % 65536 : Nat) : Int)) (LL' := [[cb p10 [Value.int .u8 (((mT xs 0).toNat : Nat) : Int), Value.int .u8 (((mT xs 1).toNat : Nat) : Int), Value.int .u32 ((mN xs : Nat) : Int), Value.slice g65.a ((mD xs).length) g65.cap] 65], g65.seg 5 (mc b8 (mD xs)), [cb p5 [Value.int .u8 ((pr.toNat : Nat) : Int), Value.int .u32 ((s : Nat) : Int), Value.int .u32 ((d : Nat) : Int), Value.int .u16 ((((mN xs) / 65536) % 65536 : Nat) : Int), Value.int .u16 0] 30], [cb p2 [Value.int .u8 0, Value.int .u32 0, Value.int .u32 0, Value.int .u16 0, Value.int .u16 0] 30]]) rfl rfl (by kernel_rfl) (by kernel_rfl) Try.sizeOf22 rfl rfl rfl (by simp) rfl rfl) (fun _ => ?_)
            refine Wl.nil ?_
            refine hK85 _ _ _ ?_
            refine W.pick (LL' := [[cb p5 [Value.int .u8 ((pr.toNat : Nat) : Int), Value.int .u32 ((s : Nat) : Int), Value.int .u32 ((d : Nat) : Int), Value.int .u16 ((((mN xs) / 65536) % 65536 : Nat) : Int), Value.int .u16 0] 30], [cb p2 [Value.int .u8 0, Value.int .u32 0, Value.int .u32 0, Value.int .u16 0, Value.int .u16 0] 30]]) [2, 3] (by decide) rfl ?_
            refine W.prune' [2, 5] [Value.pointer (some ⟨p2, 0, none⟩), Value.pointer (some ⟨p5, 0, none⟩)] (by kernel_rfl) (fun f86 => ?_)
            refine W.seq (fun K87 hK87 => ?_)
            refine W.region ?_
            refine Wl.ys (v := Value.agg ([Value.int .u8 ((pr.toNat : Nat) : Int), Value.int .u32 ((s : Nat) : Int), Value.int .u32 ((d : Nat) : Int), Value.int .u16 ((((mN xs) / 65536) % 65536 : Nat) : Int), Value.int .u16 0]).toArray) rfl rfl (Ys.loadN (b := p5) (o' := 0) (i := 0) (j := 0) (cs := [Value.int .u8 ((pr.toNat : Nat) : Int), Value.int .u32 ((s : Nat) : Int), Value.int .u32 ((d : Nat) : Int), Value.int .u16 ((((mN xs) / 65536) % 65536 : Nat) : Int), Value.int .u16 0]) (vs := [Value.int .u8 ((pr.toNat : Nat) : Int), Value.int .u32 ((s : Nat) : Int), Value.int .u32 ((d : Nat) : Int), Value.int .u16 ((((mN xs) / 65536) % 65536 : Nat) : Int), Value.int .u16 0]) rfl (by kernel_rfl) Try.isAgg30 Try.sizeOf30 rfl rfl rfl rfl) ?_
            refine Wl.ht rfl (Ht.storeN (b := p2) (o' := 0) (i := 1) (j := 0) (cs := [Value.int .u8 0, Value.int .u32 0, Value.int .u32 0, Value.int .u16 0, Value.int .u16 0]) (vs := [Value.int .u8 ((pr.toNat : Nat) : Int), Value.int .u32 ((s : Nat) : Int), Value.int .u32 ((d : Nat) : Int), Value.int .u16 ((((mN xs) / 65536) % 65536 : Nat) : Int), Value.int .u16 0]) (cs' := [Value.int .u8 ((pr.toNat : Nat) : Int), Value.int .u32 ((s : Nat) : Int), Value.int .u32 ((d : Nat) : Int), Value.int .u16 ((((mN xs) / 65536) % 65536 : Nat) : Int), Value.int .u16 0]) (LL' := [[cb p5 [Value.int .u8 ((pr.toNat : Nat) : Int), Value.int .u32 ((s : Nat) : Int), Value.int .u32 ((d : Nat) : Int), Value.int .u16 ((((mN xs) / 65536) % 65536 : Nat) : Int), Value.int .u16 0] 30], [cb p2 [Value.int .u8 ((pr.toNat : Nat) : Int), Value.int .u32 ((s : Nat) : Int), Value.int .u32 ((d : Nat) : Int), Value.int .u16 ((((mN xs) / 65536) % 65536 : Nat) : Int), Value.int .u16 0] 30]]) rfl rfl (by kernel_rfl) (by kernel_rfl) Try.sizeOf30 (by simp [Value.oneCell']) rfl rfl (by simp) rfl rfl) (fun _ => ?_)
            refine Wl.run 2 (by kernel_rfl) ?_
            refine Wl.nil ?_
            refine hK87 _ _ _ ?_
            refine W.pick (LL' := [[cb p2 [Value.int .u8 ((pr.toNat : Nat) : Int), Value.int .u32 ((s : Nat) : Int), Value.int .u32 ((d : Nat) : Int), Value.int .u16 ((((mN xs) / 65536) % 65536 : Nat) : Int), Value.int .u16 0] 30]]) [1] (by decide) rfl ?_
            refine W.prune' [2, 3, 4] [Value.pointer (some ⟨p2, 0, none⟩), Value.int .i64 2, Value.int .i64 0] (by kernel_rfl) (fun f88 => ?_)
            refine W.ret ?_
            have hisT_ : isT pr = false := h9
            have hisU_ : isU pr = false := h35
            have hisI_ : isI pr = true := by have z_ := h60; unfold isI; unfold bne at z_; revert z_; cases ((pr.toNat : Nat) : Int) == 1 <;> simp
            have hm_ : mR xs = 0 := by have z_ := h73; simpa using z_
            have hn_ : (mR xs == 0) = true := by rw [hm_]; rfl
            obtain ⟨hQ_, hR_, hA_⟩ := ms_q8 hm_ h83
            have hE_ : ofE pr s d xs = 0 := by simp only [ofE, hisT_, hisU_, hisI_, cond_true, cond_false, msE, hn_, hQ_, hR_]; try rfl
            have hZ_ : ofZ pr s d xs = true := by unfold ofZ; rw [hE_]; rfl
            show ∀ w_, _ → bodyPostM (fence none) 0 Try.prog Try.f12 _ Exit.ret _ w_
            exact fun w_ hS_ => fin_ret (ret3 rfl (RV.cellN (b := p2) (o' := 0) (i := 0) (j := 0) (cs := [Value.int .u8 ((pr.toNat : Nat) : Int), Value.int .u32 ((s : Nat) : Int), Value.int .u32 ((d : Nat) : Int), Value.int .u16 ((((mN xs) / 65536) % 65536 : Nat) : Int), Value.int .u16 0]) (vs := [Value.int .u8 ((pr.toNat : Nat) : Int), Value.int .u32 ((s : Nat) : Int), Value.int .u32 ((d : Nat) : Int), Value.int .u16 ((((mN xs) / 65536) % 65536 : Nat) : Int), Value.int .u16 0]) (by kernel_rfl) Try.isAgg30 Try.sizeOf30 rfl rfl rfl rfl) (RV.tmp (v := Value.int .i64 2) (by kernel_rfl)) (RV.tmp (v := Value.int .i64 0) (by kernel_rfl)) hS_ ⟨by clear hK1 hK3 hK5 hK6 hK31 hK32 hK56 hK57 hK64 hK69 hK70 hK77 hK78 hK85 hK87; refine congrArg Ending.returned ?_; simp only [ofK, ofP, ofS, ofD, ofF, ofT, hE_, hZ_, hisT_, hisU_, hisI_, hQ_, hR_, msK, msP, msS, msF, msT, Bool.not_true, Bool.not_false, cond_true, cond_false, hA_, sel, msI]; try rfl, hS_.below⟩)
          · have qh84 := h84; try simp only [Bool.and_eq_true, Bool.or_eq_true, Bool.not_eq_true', Bool.not_eq_false', Bool.and_eq_false_iff, Bool.or_eq_false_iff, decide_eq_true_eq, decide_eq_false_iff_not, beq_iff_eq, bne_iff_ne, beq_eq_false_iff_ne, bne_eq_false_iff_eq] at qh84
            refine W.skip' ?_
            refine hK77 _ _ _ ?_
            refine W.prune' [2, 5, 10] [Value.pointer (some ⟨p2, 0, none⟩), Value.pointer (some ⟨p5, 0, none⟩), Value.pointer (some ⟨p10, 0, none⟩)] (by kernel_rfl) (fun f89 => ?_)
            refine W.seq (fun K90 hK90 => ?_)
            refine W.seq (fun K91 hK91 => ?_)
            refine W.region ?_
            refine Wl.run 1 (by kernel_rfl) ?_
            refine Wl.ys (v := Value.int .u8 (((mT xs 0).toNat : Nat) : Int)) rfl rfl (Ys.load (b := p10) (o' := 0) (i := 0) (j := 0) (cs := [Value.int .u8 (((mT xs 0).toNat : Nat) : Int), Value.int .u8 (((mT xs 1).toNat : Nat) : Int), Value.int .u32 ((mN xs : Nat) : Int), Value.slice g65.a ((mD xs).length) g65.cap]) (v := Value.int .u8 (((mT xs 0).toNat : Nat) : Int)) rfl (by kernel_rfl) Try.isAgg5 rfl rfl rfl) ?_
            refine Wl.run 2 (by kernel_rfl) ?_
            refine Wl.guard (v := Value.pointer (some ⟨p10, 1, none⟩)) ((((mT xs 0).toNat : Nat) : Int) == 0) rfl (wantT rfl (by kernel_rfl)) rfl (fun hg92 => ?_) ?_
            · have qhg92 := hg92; try simp only [Bool.and_eq_true, Bool.or_eq_true, Bool.not_eq_true', Bool.not_eq_false', Bool.and_eq_false_iff, Bool.or_eq_false_iff, decide_eq_true_eq, decide_eq_false_iff_not, beq_iff_eq, bne_iff_ne, beq_eq_false_iff_ne, bne_eq_false_iff_eq] at qhg92
              exact Ys.pure (fun _ => by kernel_rfl)
            refine Wl.guard (v := Value.int .u8 (((mT xs 1).toNat : Nat) : Int)) ((((mT xs 0).toNat : Nat) : Int) == 0) rfl (wantT rfl (by kernel_rfl)) rfl (fun hg93 => ?_) ?_
            · have qhg93 := hg93; try simp only [Bool.and_eq_true, Bool.or_eq_true, Bool.not_eq_true', Bool.not_eq_false', Bool.and_eq_false_iff, Bool.or_eq_false_iff, decide_eq_true_eq, decide_eq_false_iff_not, beq_iff_eq, bne_iff_ne, beq_eq_false_iff_ne, bne_eq_false_iff_eq] at qhg93
              refine Ys.at (t := 101) (v0 := Value.pointer (some ⟨p10, 1, none⟩)) (lz (g := (((mT xs 0).toNat : Nat) : Int) == 0) (u := undef) hg93 (by kernel_rfl)) ?_
              exact Ys.load (b := p10) (o' := 1) (i := 0) (j := 0) (cs := [Value.int .u8 (((mT xs 0).toNat : Nat) : Int), Value.int .u8 (((mT xs 1).toNat : Nat) : Int), Value.int .u32 ((mN xs : Nat) : Int), Value.slice g65.a ((mD xs).length) g65.cap]) (v := Value.int .u8 (((mT xs 1).toNat : Nat) : Int)) rfl (by kernel_rfl) Try.isAgg5 rfl rfl rfl
            refine Wl.guard (v := Value.bool ((((mT xs 1).toNat : Nat) : Int) == 0)) ((((mT xs 0).toNat : Nat) : Int) == 0) rfl (wantT rfl (by kernel_rfl)) rfl (fun hg94 => ?_) ?_
            · have qhg94 := hg94; try simp only [Bool.and_eq_true, Bool.or_eq_true, Bool.not_eq_true', Bool.not_eq_false', Bool.and_eq_false_iff, Bool.or_eq_false_iff, decide_eq_true_eq, decide_eq_false_iff_not, beq_iff_eq, bne_iff_ne, beq_eq_false_iff_ne, bne_eq_false_iff_eq] at qhg94
              refine Ys.at (t := 102) (v0 := Value.int .u8 (((mT xs 1).toNat : Nat) : Int)) (lz (g := (((mT xs 0).toNat : Nat) : Int) == 0) (u := undef) hg94 (by kernel_rfl)) ?_
              exact Ys.pure (fun _ => by kernel_rfl)
            refine Wl.ys (v := Value.bool (((((mT xs 0).toNat : Nat) : Int) == 0) && ((((mT xs 1).toNat : Nat) : Int) == 0))) rfl rfl (Ys.and (e := (((mT xs 0).toNat : Nat) : Int) == 0) (b := (((mT xs 1).toNat : Nat) : Int) == 0) rfl (by kernel_rfl) (by kernel_rfl) (by kernel_rfl)) ?_
            refine Wl.nil ?_
            refine hK91 _ _ _ ?_
            refine W.prune' [2, 5, 10, 104] [Value.pointer (some ⟨p2, 0, none⟩), Value.pointer (some ⟨p5, 0, none⟩), Value.pointer (some ⟨p10, 0, none⟩), Value.bool (((((mT xs 0).toNat : Nat) : Int) == 0) && ((((mT xs 1).toNat : Nat) : Int) == 0))] (by kernel_rfl) (fun f95 => ?_)
            refine W.cond (((((mT xs 0).toNat : Nat) : Int) == 0) && ((((mT xs 1).toNat : Nat) : Int) == 0)) (by kernel_rfl) (fun h96 => ?_) (fun h97 => ?_)
            · have qh96 := h96; try simp only [Bool.and_eq_true, Bool.or_eq_true, Bool.not_eq_true', Bool.not_eq_false', Bool.and_eq_false_iff, Bool.or_eq_false_iff, decide_eq_true_eq, decide_eq_false_iff_not, beq_iff_eq, bne_iff_ne, beq_eq_false_iff_ne, bne_eq_false_iff_eq] at qh96
              refine W.seq (fun K98 hK98 => ?_)
              refine W.region ?_
              refine Wl.run 1 (by kernel_rfl) ?_
              refine Wl.ys (v := Value.int .u32 ((mN xs : Nat) : Int)) rfl rfl (Ys.load (b := p10) (o' := 2) (i := 0) (j := 0) (cs := [Value.int .u8 (((mT xs 0).toNat : Nat) : Int), Value.int .u8 (((mT xs 1).toNat : Nat) : Int), Value.int .u32 ((mN xs : Nat) : Int), Value.slice g65.a ((mD xs).length) g65.cap]) (v := Value.int .u32 ((mN xs : Nat) : Int)) rfl (by kernel_rfl) Try.isAgg23 rfl rfl rfl) ?_
              refine Wl.ys (v := Value.int .u32 (((mN xs) / 65536 : Nat) : Int)) rfl rfl ((Ys.pure (v := .int .u32 (iquo .u32 ((mN xs : Nat) : Int) ((65536 : Nat) : Int))) (fun _ => by kernel_rfl)).conseq (int_congr (iquo_natu rfl (by show _ < 4294967296; omega)))) ?_
              refine Wl.ys (v := Value.int .u16 ((((mN xs) / 65536) % 65536 : Nat) : Int)) rfl rfl ((Ys.pure (v := .int .u16 (icnv .u16 (((mN xs) / 65536 : Nat) : Int))) (fun _ => by kernel_rfl)).conseq (int_congr (icnv_mod rfl _))) ?_
              refine Wl.run 1 (by kernel_rfl) ?_
              refine Wl.ht rfl (Ht.store (b := p5) (o' := 4) (i := 2) (j := 0) (cs := [Value.int .u8 ((pr.toNat : Nat) : Int), Value.int .u32 ((s : Nat) : Int), Value.int .u32 ((d : Nat) : Int), Value.int .u16 0, Value.int .u16 0]) (cs' := [Value.int .u8 ((pr.toNat : Nat) : Int), Value.int .u32 ((s : Nat) : Int), Value.int .u32 ((d : Nat) : Int), Value.int .u16 0, Value.int .u16 ((((mN xs) / 65536) % 65536 : Nat) : Int)]) (v := Value.int .u16 ((((mN xs) / 65536) % 65536 : Nat) : Int)) (LL' := [[cb p10 [Value.int .u8 (((mT xs 0).toNat : Nat) : Int), Value.int .u8 (((mT xs 1).toNat : Nat) : Int), Value.int .u32 ((mN xs : Nat) : Int), Value.slice g65.a ((mD xs).length) g65.cap] 65], g65.seg 5 (mc b8 (mD xs)), [cb p5 [Value.int .u8 ((pr.toNat : Nat) : Int), Value.int .u32 ((s : Nat) : Int), Value.int .u32 ((d : Nat) : Int), Value.int .u16 0, Value.int .u16 ((((mN xs) / 65536) % 65536 : Nat) : Int)] 30], [cb p2 [Value.int .u8 0, Value.int .u32 0, Value.int .u32 0, Value.int .u16 0, Value.int .u16 0] 30]]) rfl rfl (by kernel_rfl) (by kernel_rfl) Try.sizeOf22 rfl rfl rfl (by simp) rfl rfl) (fun _ => ?_)
              refine Wl.nil ?_
              refine hK98 _ _ _ ?_
              refine W.pick (LL' := [[cb p5 [Value.int .u8 ((pr.toNat : Nat) : Int), Value.int .u32 ((s : Nat) : Int), Value.int .u32 ((d : Nat) : Int), Value.int .u16 0, Value.int .u16 ((((mN xs) / 65536) % 65536 : Nat) : Int)] 30], [cb p2 [Value.int .u8 0, Value.int .u32 0, Value.int .u32 0, Value.int .u16 0, Value.int .u16 0] 30]]) [2, 3] (by decide) rfl ?_
              refine W.prune' [2, 5] [Value.pointer (some ⟨p2, 0, none⟩), Value.pointer (some ⟨p5, 0, none⟩)] (by kernel_rfl) (fun f99 => ?_)
              refine W.seq (fun K100 hK100 => ?_)
              refine W.region ?_
              refine Wl.ys (v := Value.agg ([Value.int .u8 ((pr.toNat : Nat) : Int), Value.int .u32 ((s : Nat) : Int), Value.int .u32 ((d : Nat) : Int), Value.int .u16 0, Value.int .u16 ((((mN xs) / 65536) % 65536 : Nat) : Int)]).toArray) rfl rfl (Ys.loadN (b := p5) (o' := 0) (i := 0) (j := 0) (cs := [Value.int .u8 ((pr.toNat : Nat) : Int), Value.int .u32 ((s : Nat) : Int), Value.int .u32 ((d : Nat) : Int), Value.int .u16 0, Value.int .u16 ((((mN xs) / 65536) % 65536 : Nat) : Int)]) (vs := [Value.int .u8 ((pr.toNat : Nat) : Int), Value.int .u32 ((s : Nat) : Int), Value.int .u32 ((d : Nat) : Int), Value.int .u16 0, Value.int .u16 ((((mN xs) / 65536) % 65536 : Nat) : Int)]) rfl (by kernel_rfl) Try.isAgg30 Try.sizeOf30 rfl rfl rfl rfl) ?_
              refine Wl.ht rfl (Ht.storeN (b := p2) (o' := 0) (i := 1) (j := 0) (cs := [Value.int .u8 0, Value.int .u32 0, Value.int .u32 0, Value.int .u16 0, Value.int .u16 0]) (vs := [Value.int .u8 ((pr.toNat : Nat) : Int), Value.int .u32 ((s : Nat) : Int), Value.int .u32 ((d : Nat) : Int), Value.int .u16 0, Value.int .u16 ((((mN xs) / 65536) % 65536 : Nat) : Int)]) (cs' := [Value.int .u8 ((pr.toNat : Nat) : Int), Value.int .u32 ((s : Nat) : Int), Value.int .u32 ((d : Nat) : Int), Value.int .u16 0, Value.int .u16 ((((mN xs) / 65536) % 65536 : Nat) : Int)]) (LL' := [[cb p5 [Value.int .u8 ((pr.toNat : Nat) : Int), Value.int .u32 ((s : Nat) : Int), Value.int .u32 ((d : Nat) : Int), Value.int .u16 0, Value.int .u16 ((((mN xs) / 65536) % 65536 : Nat) : Int)] 30], [cb p2 [Value.int .u8 ((pr.toNat : Nat) : Int), Value.int .u32 ((s : Nat) : Int), Value.int .u32 ((d : Nat) : Int), Value.int .u16 0, Value.int .u16 ((((mN xs) / 65536) % 65536 : Nat) : Int)] 30]]) rfl rfl (by kernel_rfl) (by kernel_rfl) Try.sizeOf30 (by simp [Value.oneCell']) rfl rfl (by simp) rfl rfl) (fun _ => ?_)
              refine Wl.run 2 (by kernel_rfl) ?_
              refine Wl.nil ?_
              refine hK100 _ _ _ ?_
              refine W.pick (LL' := [[cb p2 [Value.int .u8 ((pr.toNat : Nat) : Int), Value.int .u32 ((s : Nat) : Int), Value.int .u32 ((d : Nat) : Int), Value.int .u16 0, Value.int .u16 ((((mN xs) / 65536) % 65536 : Nat) : Int)] 30]]) [1] (by decide) rfl ?_
              refine W.prune' [2, 3, 4] [Value.pointer (some ⟨p2, 0, none⟩), Value.int .i64 2, Value.int .i64 0] (by kernel_rfl) (fun f101 => ?_)
              refine W.ret ?_
              have hisT_ : isT pr = false := h9
              have hisU_ : isU pr = false := h35
              have hisI_ : isI pr = true := by have z_ := h60; unfold isI; unfold bne at z_; revert z_; cases ((pr.toNat : Nat) : Int) == 1 <;> simp
              have hm_ : mR xs = 0 := by have z_ := h73; simpa using z_
              have hn_ : (mR xs == 0) = true := by rw [hm_]; rfl
              obtain ⟨hQ_, hR_, hA_⟩ := ms_q0 hm_ h96
              have hE_ : ofE pr s d xs = 0 := by simp only [ofE, hisT_, hisU_, hisI_, cond_true, cond_false, msE, hn_, hQ_, hR_]; try rfl
              have hZ_ : ofZ pr s d xs = true := by unfold ofZ; rw [hE_]; rfl
              show ∀ w_, _ → bodyPostM (fence none) 0 Try.prog Try.f12 _ Exit.ret _ w_
              exact fun w_ hS_ => fin_ret (ret3 rfl (RV.cellN (b := p2) (o' := 0) (i := 0) (j := 0) (cs := [Value.int .u8 ((pr.toNat : Nat) : Int), Value.int .u32 ((s : Nat) : Int), Value.int .u32 ((d : Nat) : Int), Value.int .u16 0, Value.int .u16 ((((mN xs) / 65536) % 65536 : Nat) : Int)]) (vs := [Value.int .u8 ((pr.toNat : Nat) : Int), Value.int .u32 ((s : Nat) : Int), Value.int .u32 ((d : Nat) : Int), Value.int .u16 0, Value.int .u16 ((((mN xs) / 65536) % 65536 : Nat) : Int)]) (by kernel_rfl) Try.isAgg30 Try.sizeOf30 rfl rfl rfl rfl) (RV.tmp (v := Value.int .i64 2) (by kernel_rfl)) (RV.tmp (v := Value.int .i64 0) (by kernel_rfl)) hS_ ⟨by clear hK1 hK3 hK5 hK6 hK31 hK32 hK56 hK57 hK64 hK69 hK70 hK77 hK78 hK90 hK91 hK98 hK100; refine congrArg Ending.returned ?_; simp only [ofK, ofP, ofS, ofD, ofF, ofT, hE_, hZ_, hisT_, hisU_, hisI_, hQ_, hR_, msK, msP, msS, msF, msT, Bool.not_true, Bool.not_false, cond_true, cond_false, hA_, sel, msI]; try rfl, hS_.below⟩)
            · have qh97 := h97; try simp only [Bool.and_eq_true, Bool.or_eq_true, Bool.not_eq_true', Bool.not_eq_false', Bool.and_eq_false_iff, Bool.or_eq_false_iff, decide_eq_true_eq, decide_eq_false_iff_not, beq_iff_eq, bne_iff_ne, beq_eq_false_iff_ne, bne_eq_false_iff_eq] at qh97
              refine W.skip' ?_
              refine hK90 _ _ _ ?_
              refine W.pick (LL' := [[cb p10 [Value.int .u8 (((mT xs 0).toNat : Nat) : Int), Value.int .u8 (((mT xs 1).toNat : Nat) : Int), Value.int .u32 ((mN xs : Nat) : Int), Value.slice g65.a ((mD xs).length) g65.cap] 65], g65.seg 5 (mc b8 (mD xs)), [cb p2 [Value.int .u8 0, Value.int .u32 0, Value.int .u32 0, Value.int .u16 0, Value.int .u16 0] 30]]) [0, 1, 3] (by decide) rfl ?_
              refine W.prune' [2, 10] [Value.pointer (some ⟨p2, 0, none⟩), Value.pointer (some ⟨p10, 0, none⟩)] (by kernel_rfl) (fun f102 => ?_)
              refine W.seq (fun K103 hK103 => ?_)
              refine W.region ?_
              refine Wl.run 1 (by kernel_rfl) ?_
              refine Wl.ys (v := Value.slice g65.a ((mD xs).length) g65.cap) rfl rfl (Ys.load (b := p10) (o' := 3) (i := 0) (j := 0) (cs := [Value.int .u8 (((mT xs 0).toNat : Nat) : Int), Value.int .u8 (((mT xs 1).toNat : Nat) : Int), Value.int .u32 ((mN xs : Nat) : Int), Value.slice g65.a ((mD xs).length) g65.cap]) (v := Value.slice g65.a ((mD xs).length) g65.cap) rfl (by kernel_rfl) Try.isAgg25 rfl rfl rfl) ?_
              refine Wl.yc (v := Value.tuple #[Value.agg ([Value.int .u8 (((anU (inO (mD xs)) (inP (mD xs))).toNat : Nat) : Int), Value.int .u32 ((anN (inO (mD xs)) (inA (mD xs) 12) : Nat) : Int), Value.int .u32 ((anN (inO (mD xs)) (inA (mD xs) 16) : Nat) : Int), Value.int .u16 ((anN (inO (mD xs)) (inF (mD xs)) : Nat) : Int), Value.int .u16 ((anN (inO (mD xs)) (inT (mD xs)) : Nat) : Int)]).toArray, Value.bool (inO (mD xs))]) rfl rfl (Yc.call (k := 28) (args := #[Value.slice g65.a ((mD xs).length) g65.cap]) (fun _ => by kernel_rfl) (fun w_ hm_ => (rinnern_c (mD xs) g65.a g65.cap ((mD xs).length) _ (by first | rfl | (rw [List.length_take]; omega) | (simp; done) | (simp [be_len, be_len, psh_len]; omega)) (FS.at (i := 1) (t := 5) hm_ rfl (FS.nil_cs ok66 (mc_len1 _))) (by first | omega | (simp; omega)) (by have z_ := ok66.le; first | exact z_ | omega | (simp at z_ ⊢; omega))))) ?_
              refine Wl.run 3 (by kernel_rfl) ?_
              refine Wl.ht rfl (Ht.alloc (z := Value.agg ([Value.int .u8 0, Value.int .u32 0, Value.int .u32 0, Value.int .u16 0, Value.int .u16 0]).toArray) (cs := [Value.int .u8 0, Value.int .u32 0, Value.int .u32 0, Value.int .u16 0, Value.int .u16 0]) rfl rfl Try.zeroValue30 rfl) (fun p12 => ?_)
              refine Wl.ht rfl (Ht.storeN (b := p12) (o' := 0) (i := 0) (j := 0) (cs := [Value.int .u8 0, Value.int .u32 0, Value.int .u32 0, Value.int .u16 0, Value.int .u16 0]) (vs := [Value.int .u8 (((anU (inO (mD xs)) (inP (mD xs))).toNat : Nat) : Int), Value.int .u32 ((anN (inO (mD xs)) (inA (mD xs) 12) : Nat) : Int), Value.int .u32 ((anN (inO (mD xs)) (inA (mD xs) 16) : Nat) : Int), Value.int .u16 ((anN (inO (mD xs)) (inF (mD xs)) : Nat) : Int), Value.int .u16 ((anN (inO (mD xs)) (inT (mD xs)) : Nat) : Int)]) (cs' := [Value.int .u8 (((anU (inO (mD xs)) (inP (mD xs))).toNat : Nat) : Int), Value.int .u32 ((anN (inO (mD xs)) (inA (mD xs) 12) : Nat) : Int), Value.int .u32 ((anN (inO (mD xs)) (inA (mD xs) 16) : Nat) : Int), Value.int .u16 ((anN (inO (mD xs)) (inF (mD xs)) : Nat) : Int), Value.int .u16 ((anN (inO (mD xs)) (inT (mD xs)) : Nat) : Int)]) (LL' := [[cb p12 [Value.int .u8 (((anU (inO (mD xs)) (inP (mD xs))).toNat : Nat) : Int), Value.int .u32 ((anN (inO (mD xs)) (inA (mD xs) 12) : Nat) : Int), Value.int .u32 ((anN (inO (mD xs)) (inA (mD xs) 16) : Nat) : Int), Value.int .u16 ((anN (inO (mD xs)) (inF (mD xs)) : Nat) : Int), Value.int .u16 ((anN (inO (mD xs)) (inT (mD xs)) : Nat) : Int)] 30], [cb p10 [Value.int .u8 (((mT xs 0).toNat : Nat) : Int), Value.int .u8 (((mT xs 1).toNat : Nat) : Int), Value.int .u32 ((mN xs : Nat) : Int), Value.slice g65.a ((mD xs).length) g65.cap] 65], g65.seg 5 (mc b8 (mD xs)), [cb p2 [Value.int .u8 0, Value.int .u32 0, Value.int .u32 0, Value.int .u16 0, Value.int .u16 0] 30]]) rfl rfl (by kernel_rfl) (by kernel_rfl) Try.sizeOf30 (by simp [Value.oneCell']) rfl rfl (by simp) rfl rfl) (fun _ => ?_)
              refine Wl.run 1 (by kernel_rfl) ?_
              refine Wl.nil ?_
              refine hK103 _ _ _ ?_
              refine W.prune' [2, 10, 12, 13] [Value.pointer (some ⟨p2, 0, none⟩), Value.pointer (some ⟨p10, 0, none⟩), Value.pointer (some ⟨p12, 0, none⟩), Value.bool (inO (mD xs))] (by kernel_rfl) (fun f104 => ?_)
              refine W.seq (fun K105 hK105 => ?_)
              refine W.seq (fun K106 hK106 => ?_)
              refine W.region ?_
              refine Wl.run 1 (by kernel_rfl) ?_
              refine Wl.ys (v := Value.int .u8 (((mT xs 0).toNat : Nat) : Int)) rfl rfl (Ys.load (b := p10) (o' := 0) (i := 1) (j := 0) (cs := [Value.int .u8 (((mT xs 0).toNat : Nat) : Int), Value.int .u8 (((mT xs 1).toNat : Nat) : Int), Value.int .u32 ((mN xs : Nat) : Int), Value.slice g65.a ((mD xs).length) g65.cap]) (v := Value.int .u8 (((mT xs 0).toNat : Nat) : Int)) rfl (by kernel_rfl) Try.isAgg5 rfl rfl rfl) ?_
              refine Wl.run 2 (by kernel_rfl) ?_
              refine Wl.guard (v := Value.pointer (some ⟨p10, 0, none⟩)) ((((mT xs 0).toNat : Nat) : Int) != 3) rfl (wantT rfl (by kernel_rfl)) rfl (fun hg107 => ?_) ?_
              · have qhg107 := hg107; try simp only [Bool.and_eq_true, Bool.or_eq_true, Bool.not_eq_true', Bool.not_eq_false', Bool.and_eq_false_iff, Bool.or_eq_false_iff, decide_eq_true_eq, decide_eq_false_iff_not, beq_iff_eq, bne_iff_ne, beq_eq_false_iff_ne, bne_eq_false_iff_eq] at qhg107
                exact Ys.pure (fun _ => by kernel_rfl)
              refine Wl.guard (v := Value.int .u8 (((mT xs 0).toNat : Nat) : Int)) ((((mT xs 0).toNat : Nat) : Int) != 3) rfl (wantT rfl (by kernel_rfl)) rfl (fun hg108 => ?_) ?_
              · have qhg108 := hg108; try simp only [Bool.and_eq_true, Bool.or_eq_true, Bool.not_eq_true', Bool.not_eq_false', Bool.and_eq_false_iff, Bool.or_eq_false_iff, decide_eq_true_eq, decide_eq_false_iff_not, beq_iff_eq, bne_iff_ne, beq_eq_false_iff_ne, bne_eq_false_iff_eq] at qhg108
                refine Ys.at (t := 121) (v0 := Value.pointer (some ⟨p10, 0, none⟩)) (lz (g := (((mT xs 0).toNat : Nat) : Int) != 3) (u := undef) hg108 (by kernel_rfl)) ?_
                exact Ys.load (b := p10) (o' := 0) (i := 1) (j := 0) (cs := [Value.int .u8 (((mT xs 0).toNat : Nat) : Int), Value.int .u8 (((mT xs 1).toNat : Nat) : Int), Value.int .u32 ((mN xs : Nat) : Int), Value.slice g65.a ((mD xs).length) g65.cap]) (v := Value.int .u8 (((mT xs 0).toNat : Nat) : Int)) rfl (by kernel_rfl) Try.isAgg5 rfl rfl rfl
              refine Wl.guard (v := Value.bool ((((mT xs 0).toNat : Nat) : Int) != 11)) ((((mT xs 0).toNat : Nat) : Int) != 3) rfl (wantT rfl (by kernel_rfl)) rfl (fun hg109 => ?_) ?_
              · have qhg109 := hg109; try simp only [Bool.and_eq_true, Bool.or_eq_true, Bool.not_eq_true', Bool.not_eq_false', Bool.and_eq_false_iff, Bool.or_eq_false_iff, decide_eq_true_eq, decide_eq_false_iff_not, beq_iff_eq, bne_iff_ne, beq_eq_false_iff_ne, bne_eq_false_iff_eq] at qhg109
                refine Ys.at (t := 122) (v0 := Value.int .u8 (((mT xs 0).toNat : Nat) : Int)) (lz (g := (((mT xs 0).toNat : Nat) : Int) != 3) (u := undef) hg109 (by kernel_rfl)) ?_
                exact Ys.pure (fun _ => by kernel_rfl)
              refine Wl.ys (v := Value.bool (((((mT xs 0).toNat : Nat) : Int) != 3) && ((((mT xs 0).toNat : Nat) : Int) != 11))) rfl rfl (Ys.and (e := (((mT xs 0).toNat : Nat) : Int) != 3) (b := (((mT xs 0).toNat : Nat) : Int) != 11) rfl (by kernel_rfl) (by kernel_rfl) (by kernel_rfl)) ?_
              refine Wl.run 1 (by kernel_rfl) ?_
              refine Wl.guard (v := Value.pointer (some ⟨p10, 0, none⟩)) (((((mT xs 0).toNat : Nat) : Int) != 3) && ((((mT xs 0).toNat : Nat) : Int) != 11)) rfl (wantT rfl (by kernel_rfl)) rfl (fun hg110 => ?_) ?_
              · have qhg110 := hg110; try simp only [Bool.and_eq_true, Bool.or_eq_true, Bool.not_eq_true', Bool.not_eq_false', Bool.and_eq_false_iff, Bool.or_eq_false_iff, decide_eq_true_eq, decide_eq_false_iff_not, beq_iff_eq, bne_iff_ne, beq_eq_false_iff_ne, bne_eq_false_iff_eq] at qhg110
                exact Ys.pure (fun _ => by kernel_rfl)
              refine Wl.guard (v := Value.int .u8 (((mT xs 0).toNat : Nat) : Int)) (((((mT xs 0).toNat : Nat) : Int) != 3) && ((((mT xs 0).toNat : Nat) : Int) != 11)) rfl (wantT rfl (by kernel_rfl)) rfl (fun hg111 => ?_) ?_
              · have qhg111 := hg111; try simp only [Bool.and_eq_true, Bool.or_eq_true, Bool.not_eq_true', Bool.not_eq_false', Bool.and_eq_false_iff, Bool.or_eq_false_iff, decide_eq_true_eq, decide_eq_false_iff_not, beq_iff_eq, bne_iff_ne, beq_eq_false_iff_ne, bne_eq_false_iff_eq] at qhg111
                refine Ys.at (t := 126) (v0 := Value.pointer (some ⟨p10, 0, none⟩)) (lz (g := ((((mT xs 0).toNat : Nat) : Int) != 3) && ((((mT xs 0).toNat : Nat) : Int) != 11)) (u := undef) hg111 (by kernel_rfl)) ?_
                exact Ys.load (b := p10) (o' := 0) (i := 1) (j := 0) (cs := [Value.int .u8 (((mT xs 0).toNat : Nat) : Int), Value.int .u8 (((mT xs 1).toNat : Nat) : Int), Value.int .u32 ((mN xs : Nat) : Int), Value.slice g65.a ((mD xs).length) g65.cap]) (v := Value.int .u8 (((mT xs 0).toNat : Nat) : Int)) rfl (by kernel_rfl) Try.isAgg5 rfl rfl rfl
              refine Wl.guard (v := Value.bool ((((mT xs 0).toNat : Nat) : Int) != 12)) (((((mT xs 0).toNat : Nat) : Int) != 3) && ((((mT xs 0).toNat : Nat) : Int) != 11)) rfl (wantT rfl (by kernel_rfl)) rfl (fun hg112 => ?_) ?_
              · have qhg112 := hg112; try simp only [Bool.and_eq_true, Bool.or_eq_true, Bool.not_eq_true', Bool.not_eq_false', Bool.and_eq_false_iff, Bool.or_eq_false_iff, decide_eq_true_eq, decide_eq_false_iff_not, beq_iff_eq, bne_iff_ne, beq_eq_false_iff_ne, bne_eq_false_iff_eq] at qhg112
                refine Ys.at (t := 127) (v0 := Value.int .u8 (((mT xs 0).toNat : Nat) : Int)) (lz (g := ((((mT xs 0).toNat : Nat) : Int) != 3) && ((((mT xs 0).toNat : Nat) : Int) != 11)) (u := undef) hg112 (by kernel_rfl)) ?_
                exact Ys.pure (fun _ => by kernel_rfl)
              refine Wl.ys (v := Value.bool ((((((mT xs 0).toNat : Nat) : Int) != 3) && ((((mT xs 0).toNat : Nat) : Int) != 11)) && ((((mT xs 0).toNat : Nat) : Int) != 12))) rfl rfl (Ys.and (e := ((((mT xs 0).toNat : Nat) : Int) != 3) && ((((mT xs 0).toNat : Nat) : Int) != 11)) (b := (((mT xs 0).toNat : Nat) : Int) != 12) rfl (by kernel_rfl) (by kernel_rfl) (by kernel_rfl)) ?_
              refine Wl.run 1 (by kernel_rfl) ?_
              refine Wl.guard (v := Value.bool (inO (mD xs))) (!((((((mT xs 0).toNat : Nat) : Int) != 3) && ((((mT xs 0).toNat : Nat) : Int) != 11)) && ((((mT xs 0).toNat : Nat) : Int) != 12))) rfl (wantF rfl (by kernel_rfl)) rfl (fun hg113 => ?_) ?_
              · have qhg113 := hg113; try simp only [Bool.and_eq_true, Bool.or_eq_true, Bool.not_eq_true', Bool.not_eq_false', Bool.and_eq_false_iff, Bool.or_eq_false_iff, decide_eq_true_eq, decide_eq_false_iff_not, beq_iff_eq, bne_iff_ne, beq_eq_false_iff_ne, bne_eq_false_iff_eq] at qhg113
                exact Ys.pure (fun _ => by kernel_rfl)
              refine Wl.guard (v := Value.bool (!(inO (mD xs)))) (!((((((mT xs 0).toNat : Nat) : Int) != 3) && ((((mT xs 0).toNat : Nat) : Int) != 11)) && ((((mT xs 0).toNat : Nat) : Int) != 12))) rfl (wantF rfl (by kernel_rfl)) rfl (fun hg114 => ?_) ?_
              · have qhg114 := hg114; try simp only [Bool.and_eq_true, Bool.or_eq_true, Bool.not_eq_true', Bool.not_eq_false', Bool.and_eq_false_iff, Bool.or_eq_false_iff, decide_eq_true_eq, decide_eq_false_iff_not, beq_iff_eq, bne_iff_ne, beq_eq_false_iff_ne, bne_eq_false_iff_eq] at qhg114
                refine Ys.at (t := 131) (v0 := Value.bool (inO (mD xs))) (lz (g := !((((((mT xs 0).toNat : Nat) : Int) != 3) && ((((mT xs 0).toNat : Nat) : Int) != 11)) && ((((mT xs 0).toNat : Nat) : Int) != 12))) (u := undef) hg114 (by kernel_rfl)) ?_
                exact Ys.pure (fun _ => by kernel_rfl)
              refine Wl.ys (v := Value.bool (((((((mT xs 0).toNat : Nat) : Int) != 3) && ((((mT xs 0).toNat : Nat) : Int) != 11)) && ((((mT xs 0).toNat : Nat) : Int) != 12)) || (!(inO (mD xs))))) rfl rfl (Ys.or' (e := (((((mT xs 0).toNat : Nat) : Int) != 3) && ((((mT xs 0).toNat : Nat) : Int) != 11)) && ((((mT xs 0).toNat : Nat) : Int) != 12)) (b := !(inO (mD xs))) rfl (by kernel_rfl) (by kernel_rfl) (by kernel_rfl)) ?_
              refine Wl.nil ?_
              refine hK106 _ _ _ ?_
              refine W.pick (LL' := [[cb p12 [Value.int .u8 (((anU (inO (mD xs)) (inP (mD xs))).toNat : Nat) : Int), Value.int .u32 ((anN (inO (mD xs)) (inA (mD xs) 12) : Nat) : Int), Value.int .u32 ((anN (inO (mD xs)) (inA (mD xs) 16) : Nat) : Int), Value.int .u16 ((anN (inO (mD xs)) (inF (mD xs)) : Nat) : Int), Value.int .u16 ((anN (inO (mD xs)) (inT (mD xs)) : Nat) : Int)] 30], [cb p2 [Value.int .u8 0, Value.int .u32 0, Value.int .u32 0, Value.int .u16 0, Value.int .u16 0] 30]]) [0, 3] (by decide) rfl ?_
              refine W.prune' [2, 12, 133] [Value.pointer (some ⟨p2, 0, none⟩), Value.pointer (some ⟨p12, 0, none⟩), Value.bool (((((((mT xs 0).toNat : Nat) : Int) != 3) && ((((mT xs 0).toNat : Nat) : Int) != 11)) && ((((mT xs 0).toNat : Nat) : Int) != 12)) || (!(inO (mD xs))))] (by kernel_rfl) (fun f115 => ?_)
              refine W.cond (((((((mT xs 0).toNat : Nat) : Int) != 3) && ((((mT xs 0).toNat : Nat) : Int) != 11)) && ((((mT xs 0).toNat : Nat) : Int) != 12)) || (!(inO (mD xs)))) (by kernel_rfl) (fun h116 => ?_) (fun h117 => ?_)
              · have qh116 := h116; try simp only [Bool.and_eq_true, Bool.or_eq_true, Bool.not_eq_true', Bool.not_eq_false', Bool.and_eq_false_iff, Bool.or_eq_false_iff, decide_eq_true_eq, decide_eq_false_iff_not, beq_iff_eq, bne_iff_ne, beq_eq_false_iff_ne, bne_eq_false_iff_eq] at qh116
                refine W.seq (fun K118 hK118 => ?_)
                refine W.region ?_
                refine Wl.run 1 (by kernel_rfl) ?_
                refine Wl.ht rfl (Ht.storeN (b := p2) (o' := 0) (i := 1) (j := 0) (cs := [Value.int .u8 0, Value.int .u32 0, Value.int .u32 0, Value.int .u16 0, Value.int .u16 0]) (vs := [Value.int .u8 0, Value.int .u32 0, Value.int .u32 0, Value.int .u16 0, Value.int .u16 0]) (cs' := [Value.int .u8 0, Value.int .u32 0, Value.int .u32 0, Value.int .u16 0, Value.int .u16 0]) (LL' := [[cb p12 [Value.int .u8 (((anU (inO (mD xs)) (inP (mD xs))).toNat : Nat) : Int), Value.int .u32 ((anN (inO (mD xs)) (inA (mD xs) 12) : Nat) : Int), Value.int .u32 ((anN (inO (mD xs)) (inA (mD xs) 16) : Nat) : Int), Value.int .u16 ((anN (inO (mD xs)) (inF (mD xs)) : Nat) : Int), Value.int .u16 ((anN (inO (mD xs)) (inT (mD xs)) : Nat) : Int)] 30], [cb p2 [Value.int .u8 0, Value.int .u32 0, Value.int .u32 0, Value.int .u16 0, Value.int .u16 0] 30]]) rfl rfl (by kernel_rfl) (by kernel_rfl) Try.sizeOf30 (by simp [Value.oneCell']) rfl rfl (by simp) rfl rfl) (fun _ => ?_)
                refine Wl.run 2 (by kernel_rfl) ?_
                refine Wl.nil ?_
                refine hK118 _ _ _ ?_
                refine W.pick (LL' := [[cb p2 [Value.int .u8 0, Value.int .u32 0, Value.int .u32 0, Value.int .u16 0, Value.int .u16 0] 30]]) [1] (by decide) rfl ?_
                refine W.prune' [2, 3, 4] [Value.pointer (some ⟨p2, 0, none⟩), Value.int .i64 0, Value.int .i64 11] (by kernel_rfl) (fun f119 => ?_)
                refine W.ret ?_
                have hisT_ : isT pr = false := h9
                have hisU_ : isU pr = false := h35
                have hisI_ : isI pr = true := by have z_ := h60; unfold isI; unfold bne at z_; revert z_; cases ((pr.toNat : Nat) : Int) == 1 <;> simp
                have hm_ : mR xs = 0 := by have z_ := h73; simpa using z_
                have hn_ : (mR xs == 0) = true := by rw [hm_]; rfl
                obtain ⟨hQ_, hR0_⟩ := ms_no hm_ h84 h97
                have hR_ := hR0_.trans (congrArg (!·) h116)
                have hE_ : ofE pr s d xs = 11 := by simp only [ofE, hisT_, hisU_, hisI_, cond_true, cond_false, msE, hn_, hQ_, hR_]; try rfl
                have hZ_ : ofZ pr s d xs = false := by unfold ofZ; rw [hE_]; rfl
                show ∀ w_, _ → bodyPostM (fence none) 0 Try.prog Try.f12 _ Exit.ret _ w_
                exact fun w_ hS_ => fin_ret (ret3 rfl (RV.cellN (b := p2) (o' := 0) (i := 0) (j := 0) (cs := [Value.int .u8 0, Value.int .u32 0, Value.int .u32 0, Value.int .u16 0, Value.int .u16 0]) (vs := [Value.int .u8 0, Value.int .u32 0, Value.int .u32 0, Value.int .u16 0, Value.int .u16 0]) (by kernel_rfl) Try.isAgg30 Try.sizeOf30 rfl rfl rfl rfl) (RV.tmp (v := Value.int .i64 0) (by kernel_rfl)) (RV.tmp (v := Value.int .i64 11) (by kernel_rfl)) hS_ ⟨by clear hK1 hK3 hK5 hK6 hK31 hK32 hK56 hK57 hK64 hK69 hK70 hK77 hK78 hK90 hK91 hK103 hK105 hK106 hK118; refine congrArg Ending.returned ?_; simp only [ofK, ofP, ofS, ofD, ofF, ofT, hE_, hZ_, hisT_, hisU_, hisI_, hQ_, hR_, msK, msP, msS, msF, msT, Bool.not_true, Bool.not_false, cond_true, cond_false]; try rfl, hS_.below⟩)
              · have qh117 := h117; try simp only [Bool.and_eq_true, Bool.or_eq_true, Bool.not_eq_true', Bool.not_eq_false', Bool.and_eq_false_iff, Bool.or_eq_false_iff, decide_eq_true_eq, decide_eq_false_iff_not, beq_iff_eq, bne_iff_ne, beq_eq_false_iff_ne, bne_eq_false_iff_eq] at qh117
                refine W.skip' ?_
                refine hK105 _ _ _ ?_
                refine W.prune' [2, 12] [Value.pointer (some ⟨p2, 0, none⟩), Value.pointer (some ⟨p12, 0, none⟩)] (by kernel_rfl) (fun f120 => ?_)
                refine W.seq (fun K121 hK121 => ?_)
                refine W.region ?_
                refine Wl.ys (v := Value.agg ([Value.int .u8 (((anU (inO (mD xs)) (inP (mD xs))).toNat : Nat) : Int), Value.int .u32 ((anN (inO (mD xs)) (inA (mD xs) 12) : Nat) : Int), Value.int .u32 ((anN (inO (mD xs)) (inA (mD xs) 16) : Nat) : Int), Value.int .u16 ((anN (inO (mD xs)) (inF (mD xs)) : Nat) : Int), Value.int .u16 ((anN (inO (mD xs)) (inT (mD xs)) : Nat) : Int)]).toArray) rfl rfl (Ys.loadN (b := p12) (o' := 0) (i := 0) (j := 0) (cs := [Value.int .u8 (((anU (inO (mD xs)) (inP (mD xs))).toNat : Nat) : Int), Value.int .u32 ((anN (inO (mD xs)) (inA (mD xs) 12) : Nat) : Int), Value.int .u32 ((anN (inO (mD xs)) (inA (mD xs) 16) : Nat) : Int), Value.int .u16 ((anN (inO (mD xs)) (inF (mD xs)) : Nat) : Int), Value.int .u16 ((anN (inO (mD xs)) (inT (mD xs)) : Nat) : Int)]) (vs := [Value.int .u8 (((anU (inO (mD xs)) (inP (mD xs))).toNat : Nat) : Int), Value.int .u32 ((anN (inO (mD xs)) (inA (mD xs) 12) : Nat) : Int), Value.int .u32 ((anN (inO (mD xs)) (inA (mD xs) 16) : Nat) : Int), Value.int .u16 ((anN (inO (mD xs)) (inF (mD xs)) : Nat) : Int), Value.int .u16 ((anN (inO (mD xs)) (inT (mD xs)) : Nat) : Int)]) rfl (by kernel_rfl) Try.isAgg30 Try.sizeOf30 rfl rfl rfl rfl) ?_
                refine Wl.yc (v := Value.agg ([Value.int .u8 (((anU (inO (mD xs)) (inP (mD xs))).toNat : Nat) : Int), Value.int .u32 (((anN (inO (mD xs)) (inA (mD xs) 16)) : Nat) : Int), Value.int .u32 (((anN (inO (mD xs)) (inA (mD xs) 12)) : Nat) : Int), Value.int .u16 (((anN (inO (mD xs)) (inT (mD xs))) : Nat) : Int), Value.int .u16 (((anN (inO (mD xs)) (inF (mD xs))) : Nat) : Int)]).toArray) rfl rfl (Yc.call (k := 14) (args := #[Value.agg ([Value.int .u8 (((anU (inO (mD xs)) (inP (mD xs))).toNat : Nat) : Int), Value.int .u32 ((anN (inO (mD xs)) (inA (mD xs) 12) : Nat) : Int), Value.int .u32 ((anN (inO (mD xs)) (inA (mD xs) 16) : Nat) : Int), Value.int .u16 ((anN (inO (mD xs)) (inF (mD xs)) : Nat) : Int), Value.int .u16 ((anN (inO (mD xs)) (inT (mD xs)) : Nat) : Int)]).toArray]) (fun _ => by kernel_rfl) (fun w_ hm_ => (rturn_c (anU (inO (mD xs)) (inP (mD xs))) (anN (inO (mD xs)) (inA (mD xs) 12)) (anN (inO (mD xs)) (inA (mD xs) 16)) (anN (inO (mD xs)) (inF (mD xs))) (anN (inO (mD xs)) (inT (mD xs))) _))) ?_
                refine Wl.ht rfl (Ht.storeN (b := p2) (o' := 0) (i := 1) (j := 0) (cs := [Value.int .u8 0, Value.int .u32 0, Value.int .u32 0, Value.int .u16 0, Value.int .u16 0]) (vs := [Value.int .u8 (((anU (inO (mD xs)) (inP (mD xs))).toNat : Nat) : Int), Value.int .u32 (((anN (inO (mD xs)) (inA (mD xs) 16)) : Nat) : Int), Value.int .u32 (((anN (inO (mD xs)) (inA (mD xs) 12)) : Nat) : Int), Value.int .u16 (((anN (inO (mD xs)) (inT (mD xs))) : Nat) : Int), Value.int .u16 (((anN (inO (mD xs)) (inF (mD xs))) : Nat) : Int)]) (cs' := [Value.int .u8 (((anU (inO (mD xs)) (inP (mD xs))).toNat : Nat) : Int), Value.int .u32 (((anN (inO (mD xs)) (inA (mD xs) 16)) : Nat) : Int), Value.int .u32 (((anN (inO (mD xs)) (inA (mD xs) 12)) : Nat) : Int), Value.int .u16 (((anN (inO (mD xs)) (inT (mD xs))) : Nat) : Int), Value.int .u16 (((anN (inO (mD xs)) (inF (mD xs))) : Nat) : Int)]) (LL' := [[cb p12 [Value.int .u8 (((anU (inO (mD xs)) (inP (mD xs))).toNat : Nat) : Int), Value.int .u32 ((anN (inO (mD xs)) (inA (mD xs) 12) : Nat) : Int), Value.int .u32 ((anN (inO (mD xs)) (inA (mD xs) 16) : Nat) : Int), Value.int .u16 ((anN (inO (mD xs)) (inF (mD xs)) : Nat) : Int), Value.int .u16 ((anN (inO (mD xs)) (inT (mD xs)) : Nat) : Int)] 30], [cb p2 [Value.int .u8 (((anU (inO (mD xs)) (inP (mD xs))).toNat : Nat) : Int), Value.int .u32 (((anN (inO (mD xs)) (inA (mD xs) 16)) : Nat) : Int), Value.int .u32 (((anN (inO (mD xs)) (inA (mD xs) 12)) : Nat) : Int), Value.int .u16 (((anN (inO (mD xs)) (inT (mD xs))) : Nat) : Int), Value.int .u16 (((anN (inO (mD xs)) (inF (mD xs))) : Nat) : Int)] 30]]) rfl rfl (by kernel_rfl) (by kernel_rfl) Try.sizeOf30 (by simp [Value.oneCell']) rfl rfl (by simp) rfl rfl) (fun _ => ?_)
                refine Wl.run 2 (by kernel_rfl) ?_
                refine Wl.nil ?_
                refine hK121 _ _ _ ?_
                refine W.pick (LL' := [[cb p2 [Value.int .u8 (((anU (inO (mD xs)) (inP (mD xs))).toNat : Nat) : Int), Value.int .u32 (((anN (inO (mD xs)) (inA (mD xs) 16)) : Nat) : Int), Value.int .u32 (((anN (inO (mD xs)) (inA (mD xs) 12)) : Nat) : Int), Value.int .u16 (((anN (inO (mD xs)) (inT (mD xs))) : Nat) : Int), Value.int .u16 (((anN (inO (mD xs)) (inF (mD xs))) : Nat) : Int)] 30]]) [1] (by decide) rfl ?_
                refine W.prune' [2, 3, 4] [Value.pointer (some ⟨p2, 0, none⟩), Value.int .i64 3, Value.int .i64 0] (by kernel_rfl) (fun f122 => ?_)
                refine W.ret ?_
                have hisT_ : isT pr = false := h9
                have hisU_ : isU pr = false := h35
                have hisI_ : isI pr = true := by have z_ := h60; unfold isI; unfold bne at z_; revert z_; cases ((pr.toNat : Nat) : Int) == 1 <;> simp
                have hm_ : mR xs = 0 := by have z_ := h73; simpa using z_
                have hn_ : (mR xs == 0) = true := by rw [hm_]; rfl
                obtain ⟨hQ_, hR0_⟩ := ms_no hm_ h84 h97
                have hR_ := hR0_.trans (congrArg (!·) h117)
                have hO_ : inO (mD xs) = true := by have z_ := h117; revert z_; cases inO (mD xs) <;> simp
                have hE_ : ofE pr s d xs = 0 := by simp only [ofE, hisT_, hisU_, hisI_, cond_true, cond_false, msE, hn_, hQ_, hR_]; try rfl
                have hZ_ : ofZ pr s d xs = true := by unfold ofZ; rw [hE_]; rfl
                show ∀ w_, _ → bodyPostM (fence none) 0 Try.prog Try.f12 _ Exit.ret _ w_
                exact fun w_ hS_ => fin_ret (ret3 rfl (RV.cellN (b := p2) (o' := 0) (i := 0) (j := 0) (cs := [Value.int .u8 (((anU (inO (mD xs)) (inP (mD xs))).toNat : Nat) : Int), Value.int .u32 (((anN (inO (mD xs)) (inA (mD xs) 16)) : Nat) : Int), Value.int .u32 (((anN (inO (mD xs)) (inA (mD xs) 12)) : Nat) : Int), Value.int .u16 (((anN (inO (mD xs)) (inT (mD xs))) : Nat) : Int), Value.int .u16 (((anN (inO (mD xs)) (inF (mD xs))) : Nat) : Int)]) (vs := [Value.int .u8 (((anU (inO (mD xs)) (inP (mD xs))).toNat : Nat) : Int), Value.int .u32 (((anN (inO (mD xs)) (inA (mD xs) 16)) : Nat) : Int), Value.int .u32 (((anN (inO (mD xs)) (inA (mD xs) 12)) : Nat) : Int), Value.int .u16 (((anN (inO (mD xs)) (inT (mD xs))) : Nat) : Int), Value.int .u16 (((anN (inO (mD xs)) (inF (mD xs))) : Nat) : Int)]) (by kernel_rfl) Try.isAgg30 Try.sizeOf30 rfl rfl rfl rfl) (RV.tmp (v := Value.int .i64 3) (by kernel_rfl)) (RV.tmp (v := Value.int .i64 0) (by kernel_rfl)) hS_ ⟨by clear hK1 hK3 hK5 hK6 hK31 hK32 hK56 hK57 hK64 hK69 hK70 hK77 hK78 hK90 hK91 hK103 hK105 hK106 hK121; refine congrArg Ending.returned ?_; simp only [ofK, ofP, ofS, ofD, ofF, ofT, hE_, hZ_, hisT_, hisU_, hisI_, hQ_, hR_, msK, msP, msS, msF, msT, Bool.not_true, Bool.not_false, cond_true, cond_false, hO_, anU, anN]; try rfl, hS_.below⟩)
theorem rofn_c (tt pr : UInt8) (id s d : Nat) (xs : List UInt8) (a : Option Addr) (cap : Nat) (len : Nat) (w : World) (hn : len = xs.length) (hat : At w a (byc xs)) (hi : id < 65536) (hs : s < 4294967296) (hd : d < 4294967296) (hl : xs.length ≤ 100000) (hlc : xs.length ≤ cap)  : Calls Try.prog 12 #[Value.agg ([Value.int .u8 ((tt.toNat : Nat) : Int), Value.int .u8 ((pr.toNat : Nat) : Int), Value.int .u16 ((id : Nat) : Int), Value.int .u32 ((s : Nat) : Int), Value.int .u32 ((d : Nat) : Int), Value.slice a len cap]).toArray] w (Ret w (.tuple #[.agg ([Value.int .u8 (((ofP pr s d xs).toNat : Nat) : Int), Value.int .u32 ((ofS pr s d xs : Nat) : Int), Value.int .u32 ((ofD pr s d xs : Nat) : Int), Value.int .u16 ((ofF pr s d xs : Nat) : Int), Value.int .u16 ((ofT pr s d xs : Nat) : Int)]).toArray, .int .i64 (ofK pr s d xs), .int .i64 (ofE pr s d xs)])) := by
  subst hn; exact rof_c tt pr id s d xs a cap w hat hi hs hd hl hlc
end Go.Proofs.Ytejeafjkhomdoaa.Oct
