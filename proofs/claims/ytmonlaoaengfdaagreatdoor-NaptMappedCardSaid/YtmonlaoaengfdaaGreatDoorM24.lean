import Derived.Test.YtmonlaoaengfdaaGreatDoorM23
import Derived.Test.YtmonlaoaengfdaaGreatDoorM17
set_option linter.unusedVariables false
set_option linter.unusedSimpArgs false
set_option maxRecDepth 20000
namespace Go.Proofs.YtmonlaoaengfdaaGreatDoor.Oct
open Go.RowKit Base
attribute [local irreducible] Ys Yc Ht HtS HtIn Wl Wd W Mem pf dpf Wa Wo
theorem wudpn_c (s d fr to : Nat) (pl : Bool) (xs : List UInt8) (a : Option Addr) (cap : Nat) (len : Nat) (w : World) (hn : len = xs.length) (hat : At w a (byc xs)) (hs : s < 4294967296) (hd : d < 4294967296) (hf : fr < 65536) (ht : to < 65536) (hl : xs.length ≤ 100000) (hlc : xs.length ≤ cap)  : Calls Tryz.prog 93 #[.int .u32 (s : Int), .int .u32 (d : Int), Value.agg ([Value.int .u16 (fr : Int), Value.int .u16 (to : Int), Value.bool pl, Value.slice a len cap]).toArray] w (RetM w (fun g : FS => g.ok 1 (uB s d fr to pl xs).length) (fun g => .tuple #[.slice g.a (uB s d fr to pl xs).length g.cap, .int .i64 (uE xs.length)]) [] (fun g => [g.seg 5 (byc (uB s d fr to pl xs))])) := by
  subst hn; exact wudp_c s d fr to pl xs a cap w hat hs hd hf ht hl hlc
theorem rwudpn_c (s d fr to : Nat) (pl : Bool) (xs : List UInt8) (a : Option Addr) (cap : Nat) (len : Nat) (w : World) (hn : len = xs.length) (hat : At w a (byc xs)) (hs : s < 4294967296) (hd : d < 4294967296) (hf : fr < 65536) (ht : to < 65536) (hl : xs.length ≤ 100000) (hlc : xs.length ≤ cap)  : Calls Tryz.prog 49 #[.int .u32 (s : Int), .int .u32 (d : Int), Value.agg ([Value.int .u16 (fr : Int), Value.int .u16 (to : Int), Value.bool pl, Value.slice a len cap]).toArray] w (RetM w (fun g : FS => g.ok 1 (uB s d fr to pl xs).length) (fun g => .tuple #[.slice g.a (uB s d fr to pl xs).length g.cap, .int .i64 (uE xs.length)]) [] (fun g => [g.seg 5 (byc (uB s d fr to pl xs))])) := by
  subst hn; exact rwudp_c s d fr to pl xs a cap w hat hs hd hf ht hl hlc
theorem rudpn_c (s d : Nat) (xs : List UInt8) (a : Option Addr) (cap : Nat) (len : Nat) (w : World) (hn : len = xs.length) (hat : At w a (byc xs)) (hs : s < 4294967296) (hd : d < 4294967296) (hl : len ≤ 100000) (hlc : len ≤ cap) : Calls Tryz.prog 85 #[.int .u32 (s : Int), .int .u32 (d : Int), .slice a len cap] w (RetM w (fun g : FS => g.ok 1 (uD s d xs).length) (fun g => .tuple #[.agg [.int .u16 ((uF s d xs 0 : Nat) : Int), .int .u16 ((uF s d xs 2 : Nat) : Int), .bool (uP s d xs), .slice g.a (uD s d xs).length g.cap].toArray, .int .i64 (uR s d xs)]) [] (fun g => [g.seg 5 (byc (uD s d xs))])) := by
  subst hn; exact rudp_c s d xs a cap w hat hs hd hl hlc
theorem rrudpn_c (s d : Nat) (xs : List UInt8) (a : Option Addr) (cap : Nat) (len : Nat) (w : World) (hn : len = xs.length) (hat : At w a (byc xs)) (hs : s < 4294967296) (hd : d < 4294967296) (hl : len ≤ 100000) (hlc : len ≤ cap) : Calls Tryz.prog 51 #[.int .u32 (s : Int), .int .u32 (d : Int), .slice a len cap] w (RetM w (fun g : FS => g.ok 1 (uD s d xs).length) (fun g => .tuple #[.agg [.int .u16 ((uF s d xs 0 : Nat) : Int), .int .u16 ((uF s d xs 2 : Nat) : Int), .bool (uP s d xs), .slice g.a (uD s d xs).length g.cap].toArray, .int .i64 (uR s d xs)]) [] (fun g => [g.seg 5 (byc (uD s d xs))])) := by
  subst hn; exact rrudp_c s d xs a cap w hat hs hd hl hlc
theorem pw_mid {pre zs : List UInt8} {n : Nat} (hp : pre.length % 2 = 0) (hn : n < 65536) : (pw (pre ++ (be 2 n ++ zs))).sum = (pw pre).sum + n + (pw zs).sum := by
  rw [pw_app _ _ hp, pw_app _ _ (by rw [be_len]), pw_be2 hn]
  simp; omega
theorem fd_seal (S : Nat) : fd (S + sealN (65535 - fd S)) = 65535 := by
  by_cases h0 : S = 0
  · subst h0; decide
  · obtain ⟨r, hr⟩ : ∃ r, r = (S - 1) % 65535 := ⟨_, rfl⟩
    have hf : fd S = r + 1 := by unfold fd; rw [if_neg h0, hr]
    have hr2 : r < 65535 := by omega
    rw [hf]
    unfold sealN
    by_cases h1 : 65535 - (r + 1) = 0
    · rw [if_pos h1]; unfold fd; rw [if_neg ma1]; omega
    · rw [if_neg h1]; unfold fd; rw [if_neg ma1]; omega
theorem seal_zero {pre zs : List UInt8} (hp : pre.length % 2 = 0) : cks (pre ++ (be 2 (sealN (cks (pre ++ (be 2 0 ++ zs)))) ++ zs)) = 0 := by
  have h0 := pw_mid (pre := pre) (zs := zs) (n := 0) hp ma2
  have hc := cks_le (pre ++ (be 2 0 ++ zs))
  have hs : sealN (cks (pre ++ (be 2 0 ++ zs))) < 65536 := by unfold sealN; split <;> omega
  have h1 := pw_mid (pre := pre) (zs := zs) hp hs
  have hS : cks (pre ++ (be 2 0 ++ zs)) = 65535 - fd ((pw pre).sum + (pw zs).sum) := by unfold cks; rw [h0, Nat.add_zero]
  unfold cks at *
  rw [h1, hS]
  have := fd_seal ((pw pre).sum + (pw zs).sum)
  rw [show (pw pre).sum + sealN (65535 - fd ((pw pre).sum + (pw zs).sum)) + (pw zs).sum = (pw pre).sum + (pw zs).sum + sealN (65535 - fd ((pw pre).sum + (pw zs).sum)) by omega, this]
def uX (fr to m : Nat) (xs : List UInt8) : List UInt8 := (UInt8.ofNat (fr / 256) :: UInt8.ofNat fr :: UInt8.ofNat (to / 256) :: UInt8.ofNat to :: UInt8.ofNat ((8 + xs.length) / 256) :: UInt8.ofNat (8 + xs.length) :: UInt8.ofNat (m / 256) :: UInt8.ofNat m :: xs)
theorem uX_app (fr to m : Nat) (xs : List UInt8) : uX fr to m xs = (be 2 fr ++ be 2 to ++ be 2 (8 + xs.length)) ++ (be 2 m ++ xs) := rfl
theorem sput_uH (fr to n : Nat) (xs : List UInt8) : sput (uH fr to xs) 6 n = uX fr to n xs := rfl
theorem uH_X (fr to : Nat) (xs : List UInt8) : uH fr to xs = uX fr to 0 xs := rfl
theorem uB_X {s d fr to : Nat} {pl : Bool} {xs : List UInt8} (h : ¬ 1472 < xs.length) : uB s d fr to pl xs = uX fr to (bif pl then 0 else sealN (uC s d fr to xs)) xs := by
  unfold uB; rw [if_neg h]; cases pl
  · simp only [cond_false]; exact sput_uH fr to _ xs
  · simp only [cond_true]; exact uH_X fr to xs
theorem uX_zero (s d fr to : Nat) (xs : List UInt8) : cks (psh s d 17 (8 + xs.length) ++ uX fr to (sealN (uC s d fr to xs)) xs) = 0 := by
  have e : uC s d fr to xs = cks ((psh s d 17 (8 + xs.length) ++ (be 2 fr ++ be 2 to ++ be 2 (8 + xs.length))) ++ (be 2 0 ++ xs)) := by
    unfold uC uH; simp only [List.append_assoc]
  rw [uX_app, ← List.append_assoc, e]
  exact seal_zero (by simp [psh_len, be_len])
theorem sealN_pos (c : Nat) : sealN c ≠ 0 := by unfold sealN; split <;> omega
theorem sealN_lt {c : Nat} (h : c ≤ 65535) : sealN c < 65536 := by unfold sealN; split <;> omega
theorem two_back {n : Nat} (h : n < 65536) : 256 * (UInt8.ofNat (n / 256)).toNat + (UInt8.ofNat n).toNat = n := by
  rw [UInt8.toNat_ofNat', UInt8.toNat_ofNat']; omega
theorem uX_w {fr to m : Nat} {xs ys : List UInt8} (hf : fr < 65536) (ht : to < 65536) (hm : m < 65536) (hx : ¬ 1472 < xs.length) :
    w2 (uX fr to m xs ++ ys) 0 = fr ∧ w2 (uX fr to m xs ++ ys) 2 = to ∧ w2 (uX fr to m xs ++ ys) 4 = 8 + xs.length ∧ w2 (uX fr to m xs ++ ys) 6 = m :=
  ⟨two_back hf, two_back ht, two_back ma1, two_back hm⟩
theorem uX_len (fr to m : Nat) (xs : List UInt8) : (uX fr to m xs).length = 8 + xs.length := by unfold uX; simp only [List.length_cons]; omega
theorem td_back {s d fr to : Nat} {pl : Bool} {xs ys : List UInt8} (hf : fr < 65536) (ht : to < 65536) (h1 : uE xs.length = 0) (h2 : (uB s d fr to pl xs).length + ys.length ≤ 1480) : (((uR s d ((uB s d fr to pl xs) ++ ys)) == 0) && ((((((uF s d ((uB s d fr to pl xs) ++ ys) 0) : Int) == (fr : Int)) && ((((uF s d ((uB s d fr to pl xs) ++ ys) 2) : Nat) : Int) == (to : Int))) && ((uP s d ((uB s d fr to pl xs) ++ ys)) == pl)) && ((uD s d ((uB s d fr to pl xs) ++ ys)) == xs))) = true := by
  have hx : ¬ 1472 < xs.length := by
    unfold uE at h1; split at h1
    · cases h1
    · assumption
  rw [uB_X hx] at h2 ⊢
  obtain ⟨m, hm⟩ : ∃ m, m = bif pl then 0 else sealN (uC s d fr to xs) := ⟨_, rfl⟩
  rw [← hm] at h2 ⊢
  have hml : m < 65536 := by
    rw [hm]; cases pl
    · have hq : uC s d fr to xs ≤ 65535 := by unfold uC; exact cks_le _
      simp only [cond_false]; exact sealN_lt hq
    · simp only [cond_true]; decide
  obtain ⟨e0, e2, e4, e6⟩ := uX_w (ys := ys) hf ht hml hx
  have hl := uX_len fr to m xs
  obtain ⟨Z, hZ⟩ : ∃ Z, Z = uX fr to m xs ++ ys := ⟨_, rfl⟩
  rw [← hZ] at e0 e2 e4 e6 ⊢
  have hZl : Z.length = 8 + xs.length + ys.length := by rw [hZ, List.length_append, hl]
  have htk : Z.take (8 + xs.length) = uX fr to m xs := by rw [hZ, ← hl]; exact List.take_left ..
  have hsum : ¬ (w2 Z 6 ≠ 0 ∧ cks (psh s d 17 (w2 Z 4) ++ Z.take (w2 Z 4)) ≠ 0) := by
    rw [e4, e6, htk]
    cases pl
    · have hm2 := hm; simp only [cond_false] at hm2
      rw [hm2, uX_zero]; simp
    · have hm2 := hm; simp only [cond_true] at hm2
      simp [hm2]
  have hR : uR s d Z = 0 := by unfold uR; rw [if_neg ma1, if_neg ma1, if_neg ma1, if_neg hsum]
  have hG : ug s d Z = true := by unfold ug; rw [hR]; rfl
  have hD : uD s d Z = xs := by
    unfold uD; rw [hG, e4, show 8 + xs.length - 8 = xs.length by omega, hZ]
    show (xs ++ ys).take xs.length = xs
    exact List.take_left ..
  have hP : uP s d Z = pl := by
    unfold uP; rw [hG, e6, hm]; cases pl
    · simp [sealN_pos]
    · rfl
  have f0 : uF s d Z 0 = fr := by unfold uF; rw [hG, e0]; rfl
  have f2 : uF s d Z 2 = to := by unfold uF; rw [hG, e2]; rfl
  rw [hR, f0, f2, hP, hD]; simp
end Go.Proofs.YtmonlaoaengfdaaGreatDoor.Oct
namespace Go.Proofs.YtmonlaoaengfdaaGreatDoor.Oct
open Go.RowKit Base
attribute [local irreducible] Ys Yc Ht HtS HtIn Wl Wd W Mem pf dpf Wa Wo
abbrev cLa12_1759_0 (d p7 s : Nat) (g13 : FS) (xs : List UInt8) : List Blk := [cb p7 [nV .u16 (uF s d xs 0), nV .u16 (uF s d xs 2), bV (uP s d xs), sV g13 ((uD s d xs).length)] 124]
abbrev cLa12_1759_1 (d p2 s : Nat) : List Blk := [cb p2 [iV .u8 17, nV .u32 s, nV .u32 d, iV .u16 0, iV .u16 0] 47]
abbrev dLa12_1759_0 (d s : Nat) (xs : List UInt8) : List Value := [iV .u8 17, nV .u32 s, nV .u32 d, nV .u16 (uF s d xs 0), nV .u16 (uF s d xs 2)]
theorem ofU_c (ttl pid : Int) (s d : Nat) (xs : List UInt8) (a : Option Addr) (cap : Nat) (w : World) (hat : At w a (byc xs)) (hs : s < 4294967296) (hd : d < 4294967296) (hl : xs.length ≤ 100000) (hlc : xs.length ≤ cap) (hr : uR s d xs = 0) : Calls Tryz.prog 41 #[aV [iV .u8 ttl, iV .u8 17, iV .u16 pid, nV .u32 s, nV .u32 d, Value.slice a xs.length cap]] w (Ret w (Value.tuple #[aV [iV .u8 17, nV .u32 s, nV .u32 d, nV .u16 (uF s d xs 0), nV .u16 (uF s d xs 2)], iV .i64 1, iV .i64 0])) := by
 refine calls_W (M := []) (LL := []) (n := 71) Tryz.func41 rfl rfl ma6 (Mem.refl _) (W.seq (fun K1 hK1 => ?_))
 refine W.region (Wl.ht rfl (Ht.box (v := aV [iV .u8 ttl, iV .u8 17, iV .u16 pid, nV .u32 s, nV .u32 d, Value.slice a xs.length cap]) (cs := [iV .u8 ttl, iV .u8 17, iV .u16 pid, nV .u32 s, nV .u32 d, Value.slice a xs.length cap]) rfl rfl ma0 rfl) (fun p1 => ?_))
 refine Wl.ht rfl (Ht.alloc (z := aV zl1) (cs := zl1) rfl rfl Tryz.zeroValue47 rfl) (fun p2 => Wl.run 2 ma0 (Wl.nil (hK1 _ _ _ (W.prune' [1, 2, 3] [pV p1 0, pV p2 0, iV .i64 0] ma0 (fun f2 => ?_)))))
 refine W.seq (fun K3 hK3 => W.region (Wl.run 1 ma0 (Wl.ys rfl rfl (Ys.l1 p1 1 1 0 Tryz.isAgg5) (Wl.run 1 ma0 ?_))))
 refine Wl.ys rfl rfl (Ys.l1 p1 3 1 0 Tryz.isAgg24) (Wl.run 1 ma0 (Wl.ys rfl rfl (Ys.l1 p1 4 1 0 Tryz.isAgg24) (Wl.run 1 ma0 (Wl.ht rfl (Ht.storeN (b := p2) (o' := 0) (i := 0) (j := 0) (vs := [iV .u8 17, nV .u32 s, nV .u32 d, iV .u16 0, iV .u16 0]) (LL' := [cLa12_1759_1 d p2 s, [cb p1 [iV .u8 ttl, iV .u8 17, iV .u16 pid, nV .u32 s, nV .u32 d, Value.slice a xs.length cap] 40]]) rfl rfl ma0 ma0 Tryz.sizeOf47 ma7 rfl rfl ma6 rfl rfl) (fun _ => ?_)))))
 refine Wl.nil (hK3 _ _ _ (W.prune' [1, 2, 3] [pV p1 0, pV p2 0, iV .i64 0] ma0 (fun f4 => W.seq (fun K5 hK5 => W.seq (fun K6 hK6 => ?_)))))
 refine W.region (Wl.run 1 ma0 (Wl.ys rfl rfl (Ys.l1 p1 1 1 0 Tryz.isAgg5) (Wl.nil (hK6 _ _ _ ?_))))
 refine W.prune' [1, 2, 3, 17] [pV p1 0, pV p2 0, iV .i64 0, iV .u8 17] ma0 (fun f7 => W.block (W.seq (fun K8 hK8 => W.region (Wl.run 2 ma0 ?_))))
 refine Wl.nil (hK8 _ _ _ (W.prune' [1, 2, 3, 17, 18] [pV p1 0, pV p2 0, iV .i64 0, iV .u8 17, bV false] ma0 (fun f9 => W.condF ma0 (W.seq (fun K10 hK10 => ?_)))))
 refine W.region (Wl.run 2 ma0 (Wl.nil (hK10 _ _ _ (W.prune' [1, 2, 3, 17, 37] [pV p1 0, pV p2 0, iV .i64 0, iV .u8 17, bV true] ma0 (fun f11 => ?_)))))
 refine W.condT ma0 (W.seq (fun K12 hK12 => ?_))
 refine W.region (Wl.run 1 ma0 (Wl.ys rfl rfl (Ys.l1 p1 3 1 0 Tryz.isAgg24) (Wl.run 1 ma0 (Wl.ys rfl rfl (Ys.l1 p1 4 1 0 Tryz.isAgg24) ?_))))
 refine Wl.run 1 ma0 (Wl.ys rfl rfl (Ys.l1 p1 5 1 0 Tryz.isAgg38) (Wl.htS rfl (HtS.call (β := FS) (k := 85) (args := #[nV .u32 s, nV .u32 d, Value.slice a xs.length cap]) (Lin := []) (Lk := [cLa12_1759_1 d p2 s, [cb p1 [iV .u8 ttl, iV .u8 17, iV .u16 pid, nV .u32 s, nV .u32 d, Value.slice a xs.length cap] 40]]) (Mi := []) (Lo := fun g13 => [g13.seg 5 (mc b8 (uD s d xs)), cLa12_1759_1 d p2 s, [cb p1 [iV .u8 ttl, iV .u8 17, iV .u16 pid, nV .u32 s, nV .u32 d, Value.slice a xs.length cap] 40]]) [] [0, 1] rfl (fun _ => kr) ma2 rfl rfl rfl (fun w_ hm_ hl_ => (rudpn_c s d xs a cap xs.length _ ma19 (hat.mem0 hm_) ma1 ma1 ma11 ma11)) (fun _ => rfl)) (fun g13 ok14 => Wl.run 3 ma0 (Wl.ht rfl (Ht.alloc (z := aV zl2) (cs := zl2) rfl rfl Tryz.zeroValue124 rfl) (fun p7 => ?_)))))
 refine Wl.ht rfl (Ht.storeN (b := p7) (o' := 0) (i := 0) (j := 0) (vs := [nV .u16 (uF s d xs 0), nV .u16 (uF s d xs 2), bV (uP s d xs), sV g13 ((uD s d xs).length)]) (LL' := [cLa12_1759_0 d p7 s g13 xs, g13.seg 5 (mc b8 (uD s d xs)), cLa12_1759_1 d p2 s, [cb p1 [iV .u8 ttl, iV .u8 17, iV .u16 pid, nV .u32 s, nV .u32 d, Value.slice a xs.length cap] 40]]) rfl rfl ma0 ma0 Tryz.sizeOf124 ma7 rfl rfl ma6 rfl rfl) (fun _ => Wl.run 1 ma0 (Wl.nil (hK12 _ _ _ (W.pick (LL' := [cLa12_1759_0 d p7 s g13 xs, g13.seg 5 (mc b8 (uD s d xs)), cLa12_1759_1 d p2 s]) [0, 1, 2] ma2 rfl ?_))))
 refine W.prune' [2, 7, 8] [pV p2 0, pV p7 0, iV .i64 (uR s d xs)] ma0 (fun f16 => W.draws [(0, true), (1, true), (2, true), (3, true), (4, true), (5, false), (6, false), (7, false), (8, false), (9, false), (10, false)] [0, 1, 2, 3, 4] (Mem w [] [cLa12_1759_0 d p7 s g13 xs, g13.seg 5 (mc b8 (uD s d xs))]) ma0 ma0 ma0 rfl ma0 (fun _ _ h_ => h_.drawn _) (fun _ h_ => h_.pick [0, 1] ma2 rfl) (Wd.run 1 ma0 (Wd.ys rfl rfl rfl (Ys.l1 p7 0 0 0 Tryz.isAgg22) (Wd.run 1 ma0 ?_))))
 refine Wd.ys rfl rfl rfl (Ys.l1 p7 1 0 0 Tryz.isAgg22) (Wd.run 1 ma0 (Wd.yc (v := pV p2 3) rfl rfl rfl (Ys.yc (Ys.pure (fun _ => kr))) (.inr fun _ h_ => h_.pick [0, 1] ma2 rfl) (Wd.ht rfl rfl (Ht.store (b := p2) (o' := 3) (i := 2) (j := 0) (v := nV .u16 (uF s d xs 0)) (LL' := [cLa12_1759_0 d p7 s g13 xs, g13.seg 5 (mc b8 (uD s d xs)), [cb p2 [iV .u8 17, nV .u32 s, nV .u32 d, nV .u16 (uF s d xs 0), iV .u16 0] 47]]) rfl rfl ma0 ma0 Tryz.sizeOf22 rfl rfl rfl ma6 rfl rfl) (.inr fun _ _ h_ => h_.pick [0, 1] ma2 rfl) (fun _ => Wd.yc (v := pV p2 4) rfl rfl rfl (Ys.yc (Ys.pure (fun _ => kr))) (.inr fun _ h_ => h_.pick [0, 1] ma2 rfl) ?_))))
 refine Wd.ht rfl rfl (Ht.store (b := p2) (o' := 4) (i := 2) (j := 0) (v := nV .u16 (uF s d xs 2)) (LL' := [cLa12_1759_0 d p7 s g13 xs, g13.seg 5 (mc b8 (uD s d xs)), [cb p2 (dLa12_1759_0 d s xs) 47]]) rfl rfl ma0 ma0 Tryz.sizeOf22 rfl rfl rfl ma6 rfl rfl) (.inr fun _ _ h_ => h_.pick [0, 1] ma2 rfl) (fun _ => Wd.yc (v := iV .i64 1) rfl rfl rfl (Ys.yc (Ys.pure (fun _ => kr))) (.inr fun _ h_ => h_.pick [0, 1] ma2 rfl) (Wd.yc (v := iV .i64 (uR s d xs)) rfl rfl rfl (Ys.yc (Ys.pure (fun _ => kr))) (.inl ma0) (Wd.nil (hK5 _ _ _ ?_))))
 refine W.pick (LL' := [[cb p2 (dLa12_1759_0 d s xs) 47]]) [2] ma2 rfl (W.prune' [2, 3, 4] [pV p2 0, iV .i64 1, iV .i64 (uR s d xs)] ma0 (fun f17 => ?_))
 refine W.seq (fun K18 hK18 => W.seq (fun K19 hK19 => ?_))
 refine W.region (Wl.run 2 ma0 (Wl.nil (hK19 _ _ _ (W.prune' [2, 3, 4, 66] [pV p2 0, iV .i64 1, iV .i64 (uR s d xs), bV ((uR s d xs) != 0)] ma0 (fun f20 => ?_)))))
 refine W.cond ((uR s d xs) != 0) ma0 (fun h21 => ?_) (fun h22 => ?_)
 ·(exfalso; rw [hr] at h21; cases h21)
 ·have qh22 := h22; try simp only [zA] at qh22
  refine W.skip' (hK18 _ _ _ (W.prune' [2, 3] [pV p2 0, iV .i64 1] ma0 (fun f23 => W.seq (fun K24 hK24 => W.region ?_))))
  refine Wl.ys rfl rfl (Ys.loadN (b := p2) (o' := 0) (i := 0) (j := 0) (vs := (dLa12_1759_0 d s xs)) rfl ma0 Tryz.isAgg47 Tryz.sizeOf47 rfl rfl rfl rfl) (Wl.run 1 ma0 (Wl.ht rfl (Ht.storeN (b := p2) (o' := 0) (i := 0) (j := 0) (vs := (dLa12_1759_0 d s xs)) (LL' := [[cb p2 (dLa12_1759_0 d s xs) 47]]) rfl rfl ma0 ma0 Tryz.sizeOf47 ma7 rfl rfl ma6 rfl rfl) (fun _ => Wl.run 2 ma0 (Wl.nil ?_))))
  refine hK24 _ _ _ (W.prune' [2, 3, 4] [pV p2 0, iV .i64 1, iV .i64 0] ma0 (fun f25 => ?_))
  refine W.ret ?_
  show ∀ w_, _ → bodyPostM (fence none) 0 Tryz.prog Tryz.f41 _ Exit.ret _ w_
  exact fun w_ hS_ => fin_ret (ret3 rfl (RV.cellN (b := p2) (o' := 0) (i := 0) (j := 0) (cs := [iV .u8 17, nV .u32 s, nV .u32 d, nV .u16 (uF s d xs 0), nV .u16 (uF s d xs 2)]) (vs := [iV .u8 17, nV .u32 s, nV .u32 d, nV .u16 (uF s d xs 0), nV .u16 (uF s d xs 2)]) ma0 Tryz.isAgg47 Tryz.sizeOf47 rfl rfl rfl rfl) (RV.tmp (v := iV .i64 1) ma0) (RV.tmp (v := iV .i64 0) ma0) hS_ ⟨rfl, hS_.below⟩)
end Go.Proofs.YtmonlaoaengfdaaGreatDoor.Oct
namespace Go.Proofs.YtmonlaoaengfdaaGreatDoor.Oct
open Go.RowKit Base
attribute [local irreducible] Ys Yc Ht HtS HtIn Wl Wd W Mem pf dpf Wa Wo
abbrev cLa13_1769_0 (p4 : Nat) : List Blk := [cb p4 zl0 40]
abbrev cLa13_1769_1 (a : Option Addr) (cap p2 qd qs : Nat) (pid ttl : Int) (xs : List UInt8) : List Blk := [cb p2 [iV .u8 ttl, iV .u8 17, iV .u16 pid, nV .u32 qs, nV .u32 qd, Value.slice a xs.length cap] 40]
abbrev cLa13_1769_2 (p3 qd qf qs qt : Nat) : List Blk := [cb p3 [iV .u8 17, nV .u32 qs, nV .u32 qd, nV .u16 qf, nV .u16 qt] 47]
abbrev cLa13_1769_3 (d p6 s : Nat) (xs : List UInt8) : List Blk := [cb p6 [iV .u8 17, nV .u32 s, nV .u32 d, nV .u16 (uF s d xs 0), nV .u16 (uF s d xs 2)] 47]
abbrev dLa13_1769_0 (d qd qf qs qt s : Nat) (g35 : FS) (pid ttl : Int) (xs : List UInt8) : List Value := [iV .u8 ttl, iV .u8 17, iV .u16 pid, nV .u32 qs, nV .u32 qd, sV g35 ((uB qs qd qf qt (uP s d xs) (uD s d xs)).length)]
theorem rewriteU_c (ttl pid : Int) (s d : Nat) (xs : List UInt8) (a : Option Addr) (cap : Nat) (qs qd qf qt : Nat) (w : World) (hat : At w a (byc xs)) (hs : s < 4294967296) (hd : d < 4294967296) (hl : xs.length ≤ 100000) (hlc : xs.length ≤ cap) (hr : uR s d xs = 0) (hqs : qs < 4294967296) (hqd : qd < 4294967296) (hqf : qf < 65536) (hqt : qt < 65536) (he : (uD s d xs).length ≤ 1472) : Calls Tryz.prog 45 #[aV [iV .u8 ttl, iV .u8 17, iV .u16 pid, nV .u32 s, nV .u32 d, Value.slice a xs.length cap], aV [iV .u8 17, nV .u32 qs, nV .u32 qd, nV .u16 qf, nV .u16 qt]] w (RetM w (fun g : FS => g.ok 1 (uB qs qd qf qt (uP s d xs) (uD s d xs)).length) (fun g => Value.tuple #[.agg [.int .u8 ttl, .int .u8 17, .int .u16 pid, .int .u32 (qs : Int), .int .u32 (qd : Int), .slice g.a (uB qs qd qf qt (uP s d xs) (uD s d xs)).length g.cap].toArray, .int .i64 0]) [] (fun g => [g.seg 5 (mc b8 (uB qs qd qf qt (uP s d xs) (uD s d xs)))])) := by
 have hle_ : uE (uD s d xs).length = 0 := by unfold uE; rw [if_neg ma1]
 refine calls_W (M := []) (LL := []) (n := 167) Tryz.func45 rfl rfl ma6 (Mem.refl _) (W.seq (fun K1 hK1 => ?_))
 refine W.region (Wl.ht rfl (Ht.box (v := aV [iV .u8 ttl, iV .u8 17, iV .u16 pid, nV .u32 s, nV .u32 d, Value.slice a xs.length cap]) (cs := [iV .u8 ttl, iV .u8 17, iV .u16 pid, nV .u32 s, nV .u32 d, Value.slice a xs.length cap]) rfl rfl ma0 rfl) (fun p2 => ?_))
 refine Wl.ht rfl (Ht.box (v := aV [iV .u8 17, nV .u32 qs, nV .u32 qd, nV .u16 qf, nV .u16 qt]) (cs := [iV .u8 17, nV .u32 qs, nV .u32 qd, nV .u16 qf, nV .u16 qt]) rfl rfl ma0 rfl) (fun p3 => Wl.ht rfl (Ht.alloc (z := aV zl0) (cs := zl0) rfl rfl Tryz.zeroValue40 rfl) (fun p4 => ?_))
 refine Wl.run 1 ma0 (Wl.nil (hK1 _ _ _ (W.prune' [2, 3, 4] [pV p2 0, pV p3 0, pV p4 0] ma0 (fun f2 => W.seq (fun K3 hK3 => ?_)))))
 refine W.region (Wl.ys rfl rfl (Ys.loadN (b := p2) (o' := 0) (i := 2) (j := 0) (vs := [iV .u8 ttl, iV .u8 17, iV .u16 pid, nV .u32 s, nV .u32 d, Value.slice a xs.length cap]) rfl ma0 Tryz.isAgg40 Tryz.sizeOf40 rfl rfl rfl rfl) (Wl.yc (v := Value.tuple #[aV [iV .u8 17, nV .u32 s, nV .u32 d, nV .u16 (uF s d xs 0), nV .u16 (uF s d xs 2)], iV .i64 1, iV .i64 0]) rfl rfl (Yc.call (fun _ => kr) (fun w_ hm_ => (ofU_c ttl pid s d xs a cap _ (hat.mem0 hm_) ma1 ma1 ma11 ma5 hr))) (Wl.run 4 ma0 (Wl.ht rfl (Ht.alloc (z := aV zl1) (cs := zl1) rfl rfl Tryz.zeroValue47 rfl) (fun p6 => ?_)))))
 refine Wl.ht rfl (Ht.storeN (b := p6) (o' := 0) (i := 0) (j := 0) (vs := [iV .u8 17, nV .u32 s, nV .u32 d, nV .u16 (uF s d xs 0), nV .u16 (uF s d xs 2)]) (LL' := [cLa13_1769_3 d p6 s xs, cLa13_1769_0 p4, cLa13_1769_2 p3 qd qf qs qt, [cb p2 [iV .u8 ttl, iV .u8 17, iV .u16 pid, nV .u32 s, nV .u32 d, Value.slice a xs.length cap] 40]]) rfl rfl ma0 ma0 Tryz.sizeOf47 ma7 rfl rfl ma6 rfl rfl) (fun _ => Wl.run 2 ma0 (Wl.nil (hK3 _ _ _ (W.prune' [2, 3, 4, 6, 7, 8] [pV p2 0, pV p3 0, pV p4 0, pV p6 0, iV .i64 1, iV .i64 0] ma0 (fun f4 => ?_)))))
 refine W.seq (fun K5 hK5 => W.block (W.seq (fun K6 hK6 => W.region (Wl.run 3 ma0 ?_))))
 refine Wl.nil (hK6 _ _ _ (W.prune' [2, 3, 4, 6, 7, 8, 27] [pV p2 0, pV p3 0, pV p4 0, pV p6 0, iV .i64 1, iV .i64 0, bV false] ma0 (fun f7 => W.condF ma0 (W.seq (fun K8 hK8 => ?_)))))
 refine W.region (Wl.run 1 ma0 (Wl.ys rfl rfl (Ys.l1 p3 0 2 0 Tryz.isAgg5) (Wl.run 1 ma0 (Wl.ys rfl rfl (Ys.l1 p6 0 0 0 Tryz.isAgg5) ?_))))
 refine Wl.run 2 ma0 (Wl.nil (hK8 _ _ _ (W.prune' [2, 3, 4, 6, 7, 32] [pV p2 0, pV p3 0, pV p4 0, pV p6 0, iV .i64 1, bV false] ma0 (fun f9 => W.condF ma0 ?_))))
 refine W.skip' (hK5 _ _ _ (W.prune' [2, 3, 4, 6, 7] [pV p2 0, pV p3 0, pV p4 0, pV p6 0, iV .i64 1] ma0 (fun f10 => W.seq (fun K11 hK11 => W.draws [(0, true), (1, true), (2, true), (3, true), (4, true), (5, true), (6, false), (7, false), (8, false)] [0, 1, 2, 3, 4, 5] (Mem w [] [cLa13_1769_3 d p6 s xs, cLa13_1769_0 p4, cLa13_1769_2 p3 qd qf qs qt, [cb p2 [iV .u8 ttl, iV .u8 17, iV .u16 pid, nV .u32 s, nV .u32 d, Value.slice a xs.length cap] 40]]) ma0 ma0 ma0 rfl ma0 (fun _ _ h_ => h_.drawn _) (fun _ h_ => h_) ?_))))
 refine Wd.run 1 ma0 (Wd.ys rfl rfl rfl (Ys.l1 p2 3 3 0 Tryz.isAgg24) (Wd.run 1 ma0 (Wd.ys rfl rfl rfl (Ys.l1 p2 4 3 0 Tryz.isAgg24) (Wd.run 1 ma0 ?_))))
 refine Wd.ys rfl rfl rfl (Ys.l1 p2 5 3 0 Tryz.isAgg38) (Wd.yc (v := nV .u32 s) rfl rfl rfl (Ys.yc (Ys.pure (fun _ => kr))) (.inr fun _ h_ => h_) (Wd.yc (v := nV .u32 d) rfl rfl rfl (Ys.yc (Ys.pure (fun _ => kr))) (.inr fun _ h_ => h_) (Wd.yc (v := Value.slice a xs.length cap) rfl rfl rfl (Ys.yc (Ys.pure (fun _ => kr))) (.inl ma0) (Wd.nil ?_))))
 refine hK11 _ _ _ (W.prune' [2, 3, 4, 6, 7, 9, 10, 11] [pV p2 0, pV p3 0, pV p4 0, pV p6 0, iV .i64 1, nV .u32 s, nV .u32 d, Value.slice a xs.length cap] ma0 (fun f12 => ?_))
 refine W.seq (fun K13 hK13 => W.seq (fun K14 hK14 => ?_))
 refine W.region (Wl.run 3 ma0 (Wl.skip ma0 rfl (Wl.skip ma0 rfl (Wl.skip ma0 rfl ?_))))
 refine Wl.skip ma0 rfl (Wl.run 1 ma0 (Wl.nil (hK14 _ _ _ (W.prune' [2, 3, 4, 6, 7, 9, 10, 11, 52] [pV p2 0, pV p3 0, pV p4 0, pV p6 0, iV .i64 1, nV .u32 s, nV .u32 d, Value.slice a xs.length cap, bV true] ma0 (fun f15 => ?_)))))
 refine W.condT ma0 (W.region (Wl.run 1 ma0 (Wl.ys rfl rfl (Ys.l1 p3 1 2 0 Tryz.isAgg24) (Wl.run 1 ma0 ?_))))
 refine Wl.ht rfl (Ht.store (b := p2) (o' := 3) (i := 3) (j := 0) (v := nV .u32 qs) (LL' := [cLa13_1769_3 d p6 s xs, cLa13_1769_0 p4, cLa13_1769_2 p3 qd qf qs qt, [cb p2 [iV .u8 ttl, iV .u8 17, iV .u16 pid, nV .u32 qs, nV .u32 d, Value.slice a xs.length cap] 40]]) rfl rfl ma0 ma0 Tryz.sizeOf24 rfl rfl rfl ma6 rfl rfl) (fun _ => Wl.nil (hK13 _ _ _ (W.prune' [2, 3, 4, 6, 7, 9, 10, 11] [pV p2 0, pV p3 0, pV p4 0, pV p6 0, iV .i64 1, nV .u32 s, nV .u32 d, Value.slice a xs.length cap] ma0 (fun f16 => W.seq (fun K17 hK17 => ?_)))))
 refine W.seq (fun K18 hK18 => W.region (Wl.run 3 ma0 (Wl.skip ma0 rfl (Wl.skip ma0 rfl ?_))))
 refine Wl.skip ma0 rfl (Wl.skip ma0 rfl (Wl.run 1 ma0 (Wl.nil (hK18 _ _ _ ?_))))
 refine W.prune' [2, 3, 4, 6, 7, 9, 10, 11, 63] [pV p2 0, pV p3 0, pV p4 0, pV p6 0, iV .i64 1, nV .u32 s, nV .u32 d, Value.slice a xs.length cap, bV true] ma0 (fun f19 => W.condT ma0 (W.region (Wl.run 1 ma0 (Wl.ys rfl rfl (Ys.l1 p3 2 2 0 Tryz.isAgg24) ?_))))
 refine Wl.run 1 ma0 (Wl.ht rfl (Ht.store (b := p2) (o' := 4) (i := 3) (j := 0) (v := nV .u32 qd) (LL' := [cLa13_1769_3 d p6 s xs, cLa13_1769_0 p4, cLa13_1769_2 p3 qd qf qs qt, cLa13_1769_1 a cap p2 qd qs pid ttl xs]) rfl rfl ma0 ma0 Tryz.sizeOf24 rfl rfl rfl ma6 rfl rfl) (fun _ => ?_))
 refine Wl.nil (hK17 _ _ _ (W.prune' [2, 3, 4, 6, 7, 9, 10, 11] [pV p2 0, pV p3 0, pV p4 0, pV p6 0, iV .i64 1, nV .u32 s, nV .u32 d, Value.slice a xs.length cap] ma0 (fun f20 => W.seq (fun K21 hK21 => W.seq (fun K22 hK22 => ?_)))))
 refine W.region (Wl.run 1 ma0 (Wl.ys rfl rfl (Ys.l1 p2 1 3 0 Tryz.isAgg5) (Wl.nil (hK22 _ _ _ ?_))))
 refine W.prune' [2, 3, 4, 6, 7, 9, 10, 11, 68] [pV p2 0, pV p3 0, pV p4 0, pV p6 0, iV .i64 1, nV .u32 s, nV .u32 d, Value.slice a xs.length cap, iV .u8 17] ma0 (fun f23 => W.block (W.seq (fun K24 hK24 => W.region (Wl.run 2 ma0 ?_))))
 refine Wl.nil (hK24 _ _ _ (W.prune' [2, 3, 4, 6, 7, 9, 10, 11, 68, 112] [pV p2 0, pV p3 0, pV p4 0, pV p6 0, iV .i64 1, nV .u32 s, nV .u32 d, Value.slice a xs.length cap, iV .u8 17, bV false] ma0 (fun f25 => W.condF ma0 (W.seq (fun K26 hK26 => ?_)))))
 refine W.region (Wl.run 2 ma0 (Wl.nil (hK26 _ _ _ (W.prune' [2, 3, 4, 6, 7, 9, 10, 11, 137] [pV p2 0, pV p3 0, pV p4 0, pV p6 0, iV .i64 1, nV .u32 s, nV .u32 d, Value.slice a xs.length cap, bV true] ma0 (fun f27 => ?_)))))
 refine W.condT ma0 (W.seq (fun K28 hK28 => ?_))
 refine W.region (Wl.run 3 ma0 (Wl.htS rfl (HtS.call (β := FS) (k := 85) (args := #[nV .u32 s, nV .u32 d, Value.slice a xs.length cap]) (Lin := []) (Lk := [cLa13_1769_3 d p6 s xs, cLa13_1769_0 p4, cLa13_1769_2 p3 qd qf qs qt, cLa13_1769_1 a cap p2 qd qs pid ttl xs]) (Mi := []) (Lo := fun g29 => [g29.seg 5 (mc b8 (uD s d xs)), cLa13_1769_3 d p6 s xs, cLa13_1769_0 p4, cLa13_1769_2 p3 qd qf qs qt, cLa13_1769_1 a cap p2 qd qs pid ttl xs]) [] [0, 1, 2, 3] rfl (fun _ => kr) ma2 rfl rfl rfl (fun w_ hm_ hl_ => (rudpn_c s d xs a cap xs.length _ ma19 (hat.mem0 hm_) ma1 ma1 ma11 ma11)) (fun _ => rfl)) (fun g29 ok30 => Wl.run 3 ma0 (Wl.ht rfl (Ht.alloc (z := aV zl2) (cs := zl2) rfl rfl Tryz.zeroValue124 rfl) (fun p14 => ?_)))))
 refine Wl.ht rfl (Ht.storeN (b := p14) (o' := 0) (i := 0) (j := 0) (vs := [nV .u16 (uF s d xs 0), nV .u16 (uF s d xs 2), bV (uP s d xs), sV g29 ((uD s d xs).length)]) (LL' := [[cb p14 [nV .u16 (uF s d xs 0), nV .u16 (uF s d xs 2), bV (uP s d xs), sV g29 ((uD s d xs).length)] 124], g29.seg 5 (mc b8 (uD s d xs)), cLa13_1769_3 d p6 s xs, cLa13_1769_0 p4, cLa13_1769_2 p3 qd qf qs qt, cLa13_1769_1 a cap p2 qd qs pid ttl xs]) rfl rfl ma0 ma0 Tryz.sizeOf124 ma7 rfl rfl ma6 rfl rfl) (fun _ => Wl.run 1 ma0 (Wl.nil (hK28 _ _ _ (W.pick (LL' := [[cb p14 [nV .u16 (uF s d xs 0), nV .u16 (uF s d xs 2), bV (uP s d xs), sV g29 ((uD s d xs).length)] 124], g29.seg 5 (mc b8 (uD s d xs)), cLa13_1769_0 p4, cLa13_1769_2 p3 qd qf qs qt, cLa13_1769_1 a cap p2 qd qs pid ttl xs]) [0, 1, 3, 4, 5] ma2 rfl ?_))))
 refine W.prune' [2, 3, 4, 14] [pV p2 0, pV p3 0, pV p4 0, pV p14 0] ma0 (fun f32 => W.seq (fun K33 hK33 => ?_))
 refine W.draws [(0, true), (1, true), (2, true), (3, true), (4, false), (5, false), (6, false), (7, false)] [0, 1, 2, 3] (Mem w [] [g29.seg 5 (mc b8 (uD s d xs)), cLa13_1769_0 p4, cLa13_1769_2 p3 qd qf qs qt, cLa13_1769_1 a cap p2 qd qs pid ttl xs]) ma0 ma0 ma0 rfl ma0 (fun _ _ h_ => h_.drawn _) (fun _ h_ => h_.pick [1, 2, 3, 4] ma2 rfl) (Wd.run 1 ma0 (Wd.ys rfl rfl rfl (Ys.l1 p3 3 2 0 Tryz.isAgg22) (Wd.run 1 ma0 (Wd.ys rfl rfl rfl (Ys.l1 p3 4 2 0 Tryz.isAgg22) ?_))))
 refine Wd.yc (v := pV p14 0) rfl rfl rfl (Ys.yc (Ys.pure (fun _ => kr))) (.inr fun _ h_ => h_.pick [1, 2, 3, 4] ma2 rfl) (Wd.ht rfl rfl (Ht.store (b := p14) (o' := 0) (i := 0) (j := 0) (v := nV .u16 qf) (LL' := [[cb p14 [nV .u16 qf, nV .u16 (uF s d xs 2), bV (uP s d xs), sV g29 ((uD s d xs).length)] 124], g29.seg 5 (mc b8 (uD s d xs)), cLa13_1769_0 p4, cLa13_1769_2 p3 qd qf qs qt, cLa13_1769_1 a cap p2 qd qs pid ttl xs]) rfl rfl ma0 ma0 Tryz.sizeOf22 rfl rfl rfl ma6 rfl rfl) (.inr fun _ _ h_ => h_.pick [1, 2, 3, 4] ma2 rfl) (fun _ => ?_))
 refine Wd.yc (v := pV p14 1) rfl rfl rfl (Ys.yc (Ys.pure (fun _ => kr))) (.inl ma0) (Wd.ht rfl rfl (Ht.store (b := p14) (o' := 1) (i := 0) (j := 0) (v := nV .u16 qt) (LL' := [[cb p14 [nV .u16 qf, nV .u16 qt, bV (uP s d xs), sV g29 ((uD s d xs).length)] 124], g29.seg 5 (mc b8 (uD s d xs)), cLa13_1769_0 p4, cLa13_1769_2 p3 qd qf qs qt, cLa13_1769_1 a cap p2 qd qs pid ttl xs]) rfl rfl ma0 ma0 Tryz.sizeOf22 rfl rfl rfl ma6 rfl rfl) (.inl ma0) (fun _ => ?_))
 refine Wd.nil (hK33 _ _ _ (W.pick (LL' := [[cb p14 [nV .u16 qf, nV .u16 qt, bV (uP s d xs), sV g29 ((uD s d xs).length)] 124], g29.seg 5 (mc b8 (uD s d xs)), cLa13_1769_0 p4, cLa13_1769_1 a cap p2 qd qs pid ttl xs]) [0, 1, 2, 4] ma2 rfl (W.prune' [2, 4, 14] [pV p2 0, pV p4 0, pV p14 0] ma0 (fun f34 => W.region ?_))))
 refine Wl.run 1 ma0 (Wl.ys rfl rfl (Ys.l1 p2 3 3 0 Tryz.isAgg24) (Wl.run 1 ma0 (Wl.ys rfl rfl (Ys.l1 p2 4 3 0 Tryz.isAgg24) (Wl.ys rfl rfl (Ys.loadN (b := p14) (o' := 0) (i := 0) (j := 0) (vs := [nV .u16 qf, nV .u16 qt, bV (uP s d xs), sV g29 ((uD s d xs).length)]) rfl ma0 Tryz.isAgg124 Tryz.sizeOf124 rfl rfl rfl rfl) ?_))))
 have hl38 := uB_le qs qd qf qt (uP s d xs) (uD s d xs)
 refine Wl.htS rfl (HtS.call (β := FS) (k := 93) (args := #[nV .u32 qs, nV .u32 qd, aV [nV .u16 qf, nV .u16 qt, bV (uP s d xs), sV g29 ((uD s d xs).length)]]) (Lin := []) (Lk := [[cb p14 [nV .u16 qf, nV .u16 qt, bV (uP s d xs), sV g29 ((uD s d xs).length)] 124], g29.seg 5 (mc b8 (uD s d xs)), cLa13_1769_0 p4, cLa13_1769_1 a cap p2 qd qs pid ttl xs]) (Mi := []) (Lo := fun g35 => [g35.seg 5 (mc b8 (uB qs qd qf qt (uP s d xs) (uD s d xs))), [cb p14 [nV .u16 qf, nV .u16 qt, bV (uP s d xs), sV g29 ((uD s d xs).length)] 124], g29.seg 5 (mc b8 (uD s d xs)), cLa13_1769_0 p4, cLa13_1769_1 a cap p2 qd qs pid ttl xs]) [] [0, 1, 2, 3] rfl (fun _ => kr) ma2 rfl rfl rfl (fun w_ hm_ hl_ => (wudpn_c qs qd qf qt (uP s d xs) (uD s d xs) g29.a g29.cap ((uD s d xs).length) _ ma19 (FS.at (i := 1) (t := 5) hm_ rfl (FS.nil_cs ok30 (mc_len1 _))) ma1 ma1 ma1 ma1 ma5 (by have z_ := ok30.le; first | exact z_ | omega | (simp at z_ ⊢; omega)))) (fun _ => rfl)) (fun g35 ok36 => Wl.run 4 ma0 (Wl.ht rfl (Ht.store (b := p2) (o' := 5) (i := 4) (j := 0) (v := sV g35 ((uB qs qd qf qt (uP s d xs) (uD s d xs)).length)) (LL' := [g35.seg 5 (mc b8 (uB qs qd qf qt (uP s d xs) (uD s d xs))), [cb p14 [nV .u16 qf, nV .u16 qt, bV (uP s d xs), sV g29 ((uD s d xs).length)] 124], g29.seg 5 (mc b8 (uD s d xs)), cLa13_1769_0 p4, [cb p2 (dLa13_1769_0 d qd qf qs qt s g35 pid ttl xs) 40]]) rfl rfl ma0 ma0 Tryz.sizeOf38 rfl rfl rfl ma6 rfl rfl) (fun _ => Wl.run 1 ma0 (Wl.nil ?_))))
 refine hK21 _ _ _ (W.pick (LL' := [g35.seg 5 (mc b8 (uB qs qd qf qt (uP s d xs) (uD s d xs))), cLa13_1769_0 p4, [cb p2 (dLa13_1769_0 d qd qf qs qt s g35 pid ttl xs) 40]]) [0, 3, 4] ma2 rfl (W.prune' [2, 4, 8] [pV p2 0, pV p4 0, iV .i64 (uE (uD s d xs).length)] ma0 (fun f39 => W.seq (fun K40 hK40 => W.seq (fun K41 hK41 => ?_)))))
 refine W.region (Wl.run 2 ma0 (Wl.nil (hK41 _ _ _ (W.prune' [2, 4, 8, 163] [pV p2 0, pV p4 0, iV .i64 (uE (uD s d xs).length), bV ((uE (uD s d xs).length) != 0)] ma0 (fun f42 => ?_)))))
 refine W.cond ((uE (uD s d xs).length) != 0) ma0 (fun h43 => ?_) (fun h44 => ?_)
 ·have qh43 := h43; try simp only [zA] at qh43
  (exfalso; unfold uE at h43; rw [if_neg ma1] at h43; cases h43)
 ·have qh44 := h44; try simp only [zA] at qh44
  refine W.skip' (hK40 _ _ _ (W.prune' [2, 4] [pV p2 0, pV p4 0] ma0 (fun f45 => W.seq (fun K46 hK46 => W.region ?_))))
  refine Wl.ys rfl rfl (Ys.loadN (b := p2) (o' := 0) (i := 2) (j := 0) (vs := (dLa13_1769_0 d qd qf qs qt s g35 pid ttl xs)) rfl ma0 Tryz.isAgg40 Tryz.sizeOf40 rfl rfl rfl rfl) (Wl.ht rfl (Ht.storeN (b := p4) (o' := 0) (i := 1) (j := 0) (vs := (dLa13_1769_0 d qd qf qs qt s g35 pid ttl xs)) (LL' := [g35.seg 5 (mc b8 (uB qs qd qf qt (uP s d xs) (uD s d xs))), [cb p4 (dLa13_1769_0 d qd qf qs qt s g35 pid ttl xs) 40], [cb p2 (dLa13_1769_0 d qd qf qs qt s g35 pid ttl xs) 40]]) rfl rfl ma0 ma0 Tryz.sizeOf40 ma7 rfl rfl ma6 rfl rfl) (fun _ => ?_))
  refine Wl.run 1 ma0 (Wl.nil (hK46 _ _ _ (W.pick (LL' := [g35.seg 5 (mc b8 (uB qs qd qf qt (uP s d xs) (uD s d xs))), [cb p4 (dLa13_1769_0 d qd qf qs qt s g35 pid ttl xs) 40]]) [0, 1] ma2 rfl (W.prune' [4, 5] [pV p4 0, iV .i64 0] ma0 (fun f47 => ?_)))))
  refine W.ret ?_
  show ∀ w_, _ → bodyPostM (fence none) 0 Tryz.prog Tryz.f45 _ Exit.ret _ w_
  exact fun w_ hS_ => fin_ret (ret2 rfl (RV.cellN (b := p4) (o' := 0) (i := 1) (j := 0) (cs := [iV .u8 ttl, iV .u8 17, iV .u16 pid, nV .u32 qs, nV .u32 qd, sV g35 ((uB qs qd qf qt (uP s d xs) (uD s d xs)).length)]) (vs := [iV .u8 ttl, iV .u8 17, iV .u16 pid, nV .u32 qs, nV .u32 qd, sV g35 ((uB qs qd qf qt (uP s d xs) (uD s d xs)).length)]) ma0 Tryz.isAgg40 Tryz.sizeOf40 rfl rfl rfl rfl) (RV.tmp (v := iV .i64 0) ma0) hS_ ⟨g35, ok36, rfl, (hS_.pick [0] ma2 rfl)⟩)
end Go.Proofs.YtmonlaoaengfdaaGreatDoor.Oct
