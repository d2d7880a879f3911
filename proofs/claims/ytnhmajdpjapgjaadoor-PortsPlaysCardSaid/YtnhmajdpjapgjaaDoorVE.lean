/-
  Numbers that are natural: what the operations on unsigned kinds make of them. No condition.
-/
import Derived.Test.YtnhmajdpjapgjaaDoorVD
import Derived.Lib.MakeNoZero
set_option linter.unusedVariables false
set_option linter.unusedSimpArgs false
namespace Go.Proofs.YtnhmajdpjapgjaaDoor.Base
theorem u8_wrapN (n : Nat) : IntKind.u8.wrap ((n : Nat) : Int) = (((UInt8.ofNat n).toNat : Nat) : Int) := by
  simp only [IntKind.wrap, IntKind.bits, IntKind.signed, Bool.false_and, Bool.false_eq_true, if_false]
  rw [UInt8.toNat_ofNat']
  rfl
theorem ishr_nat {k : IntKind} (a c : Nat) (hc : c ≤ k.bits) : ishr k ((a : Nat) : Int) ((c : Nat) : Int) = ((a / 2 ^ c : Nat) : Int) := by
  unfold ishr
  rw [Int.toNat_natCast, Nat.min_eq_left hc, Int.fdiv_eq_ediv_of_nonneg _ (by exact Int.pow_nonneg (by decide))]
  rw [Int.natCast_ediv, Int.natCast_pow]
  rfl
theorem wrap_nat {k : IntKind} (hs : k.signed = false) (a : Nat) : k.wrap ((a : Nat) : Int) = ((a % 2 ^ k.bits : Nat) : Int) := by
  simp only [IntKind.wrap, hs, Bool.false_and, Bool.false_eq_true, if_false]
  rw [Int.natCast_emod, Int.natCast_pow]
  rfl
theorem iquo_natu {k : IntKind} {a b : Nat} (hs : k.signed = false) (h : a < 2 ^ k.bits) : iquo k ((a : Nat) : Int) ((b : Nat) : Int) = ((a / b : Nat) : Int) := by
  unfold iquo
  have e : (a : Int).tdiv (b : Int) = ((a / b : Nat) : Int) := rfl
  rw [e, wrap_nat hs, Nat.mod_eq_of_lt (Nat.lt_of_le_of_lt (Nat.div_le_self _ _) h)]
theorem iadd_natu {k : IntKind} {a b : Nat} (hs : k.signed = false) (h : a + b < 2 ^ k.bits) : iadd k ((a : Nat) : Int) ((b : Nat) : Int) = ((a + b : Nat) : Int) := by
  unfold iadd
  rw [← Int.natCast_add, wrap_nat hs, Nat.mod_eq_of_lt h]
theorem iadd_mod {k : IntKind} {a b : Nat} (hs : k.signed = false) : iadd k ((a : Nat) : Int) ((b : Nat) : Int) = (((a + b) % 2 ^ k.bits : Nat) : Int) := by
  unfold iadd
  rw [← Int.natCast_add, wrap_nat hs]
theorem imul_natu {k : IntKind} {a b : Nat} (hs : k.signed = false) (h : a * b < 2 ^ k.bits) : imul k ((a : Nat) : Int) ((b : Nat) : Int) = ((a * b : Nat) : Int) := by
  unfold imul
  rw [← Int.natCast_mul, wrap_nat hs, Nat.mod_eq_of_lt h]
theorem imul_mod {k : IntKind} {a b : Nat} (hs : k.signed = false) : imul k ((a : Nat) : Int) ((b : Nat) : Int) = (((a * b) % 2 ^ k.bits : Nat) : Int) := by
  unfold imul
  rw [← Int.natCast_mul, wrap_nat hs]
theorem isub_natu {k : IntKind} {a b : Nat} (hs : k.signed = false) (h : b ≤ a) (h2 : a < 2 ^ k.bits) : isub k ((a : Nat) : Int) ((b : Nat) : Int) = ((a - b : Nat) : Int) := by
  unfold isub
  rw [← Int.natCast_sub h, wrap_nat hs, Nat.mod_eq_of_lt (by omega)]
theorem ishl_mod {k : IntKind} (hs : k.signed = false) (a c : Nat) (hc : c ≤ k.bits) : ishl k ((a : Nat) : Int) ((c : Nat) : Int) = (((a * 2 ^ c) % 2 ^ k.bits : Nat) : Int) := by
  unfold ishl
  rw [Int.toNat_natCast, Nat.min_eq_left hc, show ((a : Int) * 2 ^ c) = ((a * 2 ^ c : Nat) : Int) by push_cast; rfl, wrap_nat hs]
theorem icnv_mod {k : IntKind} (hs : k.signed = false) (a : Nat) : icnv k ((a : Nat) : Int) = ((a % 2 ^ k.bits : Nat) : Int) := by
  unfold icnv; exact wrap_nat hs a
theorem bv_nat (m a : Nat) : (BitVec.ofInt m ((a : Nat) : Int)).toNat = a % 2 ^ m := by
  rw [BitVec.ofInt_natCast, BitVec.toNat_ofNat]
theorem band_nat {k : IntKind} (hs : k.signed = false) {a b : Nat} (ha : a < 2 ^ k.bits) (hb : b < 2 ^ k.bits) : band k ((a : Nat) : Int) ((b : Nat) : Int) = ((a &&& b : Nat) : Int) := by
  unfold band
  rw [BitVec.toNat_and, bv_nat, bv_nat, Nat.mod_eq_of_lt ha, Nat.mod_eq_of_lt hb, wrap_nat hs, Nat.mod_eq_of_lt (Nat.lt_of_le_of_lt Nat.and_le_left ha)]
theorem bor_nat {k : IntKind} (hs : k.signed = false) {a b : Nat} (ha : a < 2 ^ k.bits) (hb : b < 2 ^ k.bits) : bor k ((a : Nat) : Int) ((b : Nat) : Int) = ((a ||| b : Nat) : Int) := by
  unfold bor
  rw [BitVec.toNat_or, bv_nat, bv_nat, Nat.mod_eq_of_lt ha, Nat.mod_eq_of_lt hb, wrap_nat hs, Nat.mod_eq_of_lt (Nat.or_lt_two_pow ha hb)]
theorem bxor_nat {k : IntKind} (hs : k.signed = false) {a b : Nat} (ha : a < 2 ^ k.bits) (hb : b < 2 ^ k.bits) : bxor k ((a : Nat) : Int) ((b : Nat) : Int) = ((a ^^^ b : Nat) : Int) := by
  unfold bxor
  rw [BitVec.toNat_xor, bv_nat, bv_nat, Nat.mod_eq_of_lt ha, Nat.mod_eq_of_lt hb, wrap_nat hs, Nat.mod_eq_of_lt (Nat.xor_lt_two_pow ha hb)]
theorem band_mask {k : IntKind} (hs : k.signed = false) {a c : Nat} (ha : a < 2 ^ k.bits) (hc : c ≤ k.bits) (m : Nat) (hm : m = 2 ^ c - 1) : band k ((a : Nat) : Int) ((m : Nat) : Int) = ((a % 2 ^ c : Nat) : Int) := by
  subst hm
  rw [band_nat hs ha (by have := Nat.pow_le_pow_right (n := 2) (by decide) hc; have := Nat.two_pow_pos c; omega), Nat.and_two_pow_sub_one_eq_mod]
theorem bnot_nat {k : IntKind} (hs : k.signed = false) {a : Nat} (ha : a < 2 ^ k.bits) (m : Nat) (hm : m = 2 ^ k.bits - 1) : bxor k ((m : Nat) : Int) ((a : Nat) : Int) = ((m - a : Nat) : Int) := by
  subst hm
  rw [bxor_nat hs (by have := Nat.two_pow_pos k.bits; omega) ha]
  congr 1
  apply Nat.eq_of_testBit_eq
  intro i
  rw [Nat.testBit_xor, Nat.testBit_two_pow_sub_one, Nat.sub_sub, Nat.add_comm 1 a, Nat.testBit_two_pow_sub_succ ha]
  by_cases hi : i < k.bits
  · simp [hi]
  · have : a.testBit i = false := Nat.testBit_lt_two_pow (Nat.lt_of_lt_of_le ha (Nat.pow_le_pow_right (by decide) (by omega)))
    simp [hi, this]
/-- 'a << c | b' where b has but the lower bits. -/
theorem shl_or {a b c : Nat} (h : b < 2 ^ c) : a * 2 ^ c ||| b = a * 2 ^ c + b := by
  rw [← Nat.shiftLeft_eq, ← Nat.shiftLeft_add_eq_or_of_lt h]
theorem getD_lt {xs : List UInt8} {k : Nat} : (xs.getD k 0).toNat < 256 := UInt8.toNat_lt _
theorem getD_set_eq {α : Type} {xs : List α} {k : Nat} {x d : α} (h : k < xs.length) : (xs.set k x).getD k d = x := by simp [h]
theorem Mem.push {w0 w : World} {M : List Nat} {LL : List (List Blk)} (h : Mem w0 M LL w) : Mem w0 M ([] :: LL) w := h
theorem Wl.push {r : Option Nat} {P : Program} {ops : Array Oper} {K : Act → World → Prop} {l : List Oper} {n : Nat} {ds : List Deferred} {f : Nat → Value} {w0 : World} {M : List Nat} {LL : List (List Blk)} (h : Wl r P ops K l n ds f (Mem w0 M ([] :: LL))) : Wl r P ops K l n ds f (Mem w0 M LL) := Wl.conseq (fun _ h => h) h
/-! ### Views -/
section
variable {w0 w : World} {M : List Nat} {LL : List (List Blk)} {a a' a'' : Option Addr}
theorem At.mem' {cs : List Value} (h : At w0 a cs) (hm : Mem w0 M LL w) (hM : 0 < cs.length → (a.getD default).block ∉ M) : At w a cs := h.of_block fun h0 => Mem0.same hm _ (h.lt h0) (hM h0)
/-- What is read as these elements lies in no block that holds nothing of their kind. -/
theorem At.ne {α : Type} {g : α → Value} {xs : List α} {cs : List Value} {b : Nat} {t : TypeId} {fz : Nat × Nat} (h : At w a (mc g xs)) (hb : w.heap[b]? = some (.cells cs.toArray t fz)) (hd : ∀ v ∈ cs, ∀ x, v ≠ g x) (h0 : 0 < (mc g xs).length) : (a.getD default).block ≠ b := fun e => by
  rw [mc_len] at h0
  have hx : (mc g xs)[0]? = some (g xs[0]) := by simp [mc, h0]
  have h1 := h.cell 0 _ hx
  unfold World.cell? at h1
  rw [add_block, e, hb] at h1
  simp only at h1
  split at h1
  · cases h1
  · have h2 : cs[((a.getD default).add 0).off]? = some (g xs[0]) := by simpa using h1
    exact hd _ (List.mem_of_getElem? h2) _ rfl
/-- Whatever reads as ys at a has zs at a'. -/
def View (a' : Option Addr) (zs : List UInt8) (a : Option Addr) (ys : List UInt8) : Prop := ∀ w, At w a (byc ys) → At w a' (byc zs)
theorem View.refl (a : Option Addr) (ys : List UInt8) : View a ys a ys := fun _ h => h
theorem View.trans {zs ys xs : List UInt8} (h : View a'' zs a' ys) (k : View a' ys a xs) : View a'' zs a xs := fun w hw => h w (k w hw)
theorem View.nil (a' a : Option Addr) (ys : List UInt8) : View a' [] a ys := fun w _ => At.nil w a'
theorem View.drop {ys : List UInt8} (cap k : Nat) (h : ys.length ≤ cap) : View (sla a cap k 1) (ys.drop k) a ys := fun w hw => hw.mdrop cap k h
end
/-- What was there when the call began is in no block that has been made since. -/
theorem Mem.fresh_ne {w0 w : World} {LL : List (List Blk)} {a : Option Addr} {cs : List Value} (hm : Mem w0 [] LL w) (hat : At w0 a cs) {L' : List (List Blk)} (hs : ∀ p ∈ L'.flatten, p ∈ LL.flatten) (h0 : 0 < cs.length) : (a.getD default).block ∉ L'.flatten.map (·.b) := fun h => by
  obtain ⟨p, hp, e⟩ := List.mem_map.1 h
  have h1 := hat.lt h0
  have h2 := Mem0.old hm p (hs p hp) (by rw [e]; exact h1)
  cases h2
theorem Mem.fresh_pick {w0 w : World} {LL L' : List (List Blk)} {a : Option Addr} {cs : List Value} (hm : Mem w0 [] LL w) (hat : At w0 a cs) (is : List Nat) (e : pickL LL is = L') (h0 : 0 < cs.length) : (a.getD default).block ∉ L'.flatten.map (·.b) :=
  hm.fresh_ne hat (fun p hp => pick_sub is p (e ▸ hp)) h0
theorem Mem.one {w0 w : World} {M : List Nat} {LL : List (List Blk)} {i : Nat} {s : List Blk} (h : Mem w0 M LL w) (hi : LL[i]? = some s) : Mem w (s.map (·.b)) [s] w := by
  have h1 : Mem w0 M ([s] ++ []) w := h.pick [i] (by simp) (by simp [pickL, hi])
  have h2 := h1.local
  simpa using h2
/-- A call that leaves what it was handed as it was. -/
theorem ret_of {w w' : World} {v : Value} {M : List Nat} {LL : List (List Blk)} {e : Ending} (h0 : Mem w M LL w) (hM : ∀ k ∈ M, k ∈ LL.flatten.map (·.b)) (h : RetM w (fun _ : Unit => True) (fun _ => v) M (fun _ => LL) e w') : Ret w v e w' := by
  obtain ⟨_, _, he, hm⟩ := h
  refine ⟨he, hm.os, hm.tape, hm.output, hm.size, fun k hk => ?_⟩
  by_cases hkm : k ∈ M
  · obtain ⟨p, hp, rfl⟩ := List.mem_map.1 (hM k hkm)
    rw [Mem0.here hm p hp, Mem0.here h0 p hp]
  · exact Mem0.same hm k hk hkm
/-- Numbers of eight bytes. -/
abbrev n64 (n : Nat) : Value := .int .u64 ((n : Nat) : Int)
/-- Numbers of two bytes. -/
abbrev n16 (n : Nat) : Value := .int .u16 ((n : Nat) : Int)
theorem toList_loop (bs : ByteArray) : ∀ (k i : Nat) (r : List UInt8), i + k = bs.size → ByteArray.toList.loop bs i r = r.reverse ++ bs.data.toList.drop i := by
  intro k
  induction k with
  | zero => intro i r h; unfold ByteArray.toList.loop; rw [if_neg (by omega)]; rw [List.drop_eq_nil_of_le (by show bs.data.toList.length ≤ i; simp; show bs.size ≤ i; omega)]; simp
  | succ k ih =>
    intro i r h
    unfold ByteArray.toList.loop
    rw [if_pos (by omega), ih (i + 1) _ (by omega)]
    have hi : i < bs.data.toList.length := by simp; show i < bs.size; omega
    have hi' : i < bs.data.size := by show i < bs.size; omega
    rw [List.drop_eq_getElem_cons hi]
    simp only [ByteArray.get!, List.reverse_cons, List.append_assoc, List.cons_append, List.nil_append]
    rw [getElem!_pos bs.data i hi']
    rfl
theorem bstr_toList (xs : List UInt8) : (bstr xs).toList = xs := by
  unfold ByteArray.toList
  rw [toList_loop _ (bstr xs).size 0 [] (by simp)]
  simp [bstr]
theorem bstr_eq (xs ys : List UInt8) : ((bstr xs).toList == (bstr ys).toList) = (xs == ys) := by rw [bstr_toList, bstr_toList]
/-! ### New bytes, whatever they are -/
theorem digits_byc : ∀ (n t : Nat) (acc : List UInt8), ∃ zs : List UInt8, zs.length = acc.length + n ∧ Extern.BytealgMakeNoZero.digits n t (byc acc).toArray = (byc zs).toArray
  | 0, t, acc => ⟨acc, rfl, rfl⟩
  | n + 1, t, acc => by
    obtain ⟨zs, h1, h2⟩ := digits_byc n (t / 256) (acc ++ [UInt8.ofNat (t % 256)])
    refine ⟨zs, by rw [h1]; simp; omega, ?_⟩
    rw [Extern.BytealgMakeNoZero.digits, ← h2]
    congr 1
    apply Array.ext'
    simp only [Array.toList_push, byc, mc, List.map_append, List.map_cons, List.map_nil]
    congr 1
    unfold b8
    rw [UInt8.toNat_ofNat', Nat.mod_eq_of_lt (show t % 256 < 2 ^ 8 by have := Nat.mod_lt t (show 0 < 256 by decide); simpa using this)]
    rfl
/-- Room for bytes. -/
structure MZ where
  b : Nat
  zs : List UInt8
theorem Ht.makeNoZero {P : Program} {n : Nat} {f : Nat → Value} {o : Oper} {d : Nat} {w0 : World} {M : List Nat} {LL : List (List Blk)} {ps : Array TypeId} {t e : TypeId} {k fid : Nat} {x y : Operand} {ats : Array TypeId} {fn : Func} (hd : o.dst = some d) (hop : o.op = .call { callee := .value x, args := #[y], argTypes := ats }) (hx : ev n f x = .func (.func fid) #[] #[]) (hy : ev n f y = .int .i64 ((k : Nat) : Int))
    (hfn : P.funcs[fid]? = some fn) (h1' : (fn.name == "runtime.NumGoroutine") = false) (h2' : fn.body.isNone = true) (h3' : Extern.findNext fn = none) (h4' : Extern.find fn = some (Extern.BytealgMakeNoZero.makeNoZero ps #[t])) (ht : P.underlying t = some (.slice e)) (hk : k ≤ 70368744177664) :
    Ht (β := { x : MZ // k ≤ x.zs.length ∧ x.zs.length ≤ maxLen }) P n (Mem w0 M LL) f o (fun x => upd f d (.slice (some ⟨x.1.b, 0, none⟩) k x.1.zs.length)) (fun x => Mem w0 M ([cb x.1.b (byc x.1.zs) e] :: LL)) := fun ds w hS K hK => by
  have hdef : Extern.BytealgMakeNoZero.makeNoZero ps #[t] #[.int .i64 k] =
      (do
        let .slice elem ← underlying t | stuck "bytealg.MakeNoZero: slice type expected"
        if (k : Int) < 0 || (k : Int) > 2 ^ 48 then runtimePanic (.error "makeslice: len out of range")
        let cap ← choose (.appendCap (k : Int).toNat 0 elem)
        askRoom cap
        let bytes ← choose (.extern "internal/bytealg.MakeNoZero.bytes" 0)
        let a ← newRow elem (Extern.BytealgMakeNoZero.digits cap bytes #[])
        pure (.slice (some a) (k : Int).toNat cap)) := rfl
  obtain ⟨zs, hz, hzs⟩ := digits_byc (grownCap w k 0 e) ((Question.extern "internal/bytealg.MakeNoZero.bytes" 0).cut (w.tape (w.drawn + 1) (.extern "internal/bytealg.MakeNoZero.bytes" 0))) []
  have hz' : zs.length = grownCap w k 0 e := by simpa using hz
  have hrun : (Extern.BytealgMakeNoZero.makeNoZero ps #[t] #[.int .i64 ((k : Nat) : Int)]).run P w = .ok (.slice (some ⟨w.heap.size, 0, none⟩) k zs.length) (w.drew.drew.alloc (.cells (byc zs).toArray e)) := by
    rw [hdef]
    have h1 : ¬ (k : Int) < 0 := by omega
    have h2 : ¬ (281474976710656 : Int) < (k : Int) := by omega
    have hz2 : Extern.BytealgMakeNoZero.digits (grownCap w k 0 e) ((Question.extern "internal/bytealg.MakeNoZero.bytes" 0).cut (w.tape (w.drawn + 1) (.extern "internal/bytealg.MakeNoZero.bytes" 0))) #[] = (byc zs).toArray := hzs
    simp [run_underlying ht, h1, h2, Question.forced, newRow, hz', ← hz2, grownCap]
  have hcf : (callFunc fid #[.int .i64 ((k : Nat) : Int)]).run P w = .ok (.value (.slice (some ⟨w.heap.size, 0, none⟩) k zs.length)) (w.drew.drew.alloc (.cells (byc zs).toArray e)) := by
    rw [run_callFunc_extern hfn h1' h2' h3' h4', hrun]
    rfl
  have hex : (execOp (ev n f) o).run P w = .ok (.value (.slice (some ⟨w.heap.size, 0, none⟩) k zs.length)) (w.drew.drew.alloc (.cells (byc zs).toArray e)) := by
    have hcf' := hcf
    simp only [execOp, hop, resolve, hx, hy, Sem.run_bind, Sem.run_pure, Result.andThen_ok, List.map_toArray, List.map_cons, List.map_nil]
    simp [Deferred.ofValue, invoke, hcf']
  unfold Oper.wp
  rw [Fr_eval, hex]
  simp only [Oper.upon, hd, Fr_put]
  have hm := ((hS.drawn (w.drawn + 1)).drawn (w.drawn + 1 + 1)).alloc (byc zs) e
  refine hK ⟨⟨w.heap.size, zs⟩, ?_, ?_⟩ _ hm
  · show k ≤ zs.length
    rw [hz']; exact grownCap_ge w k 0 e
  · show zs.length ≤ maxLen
    rw [hz']; exact grownCap_le_maxLen w k 0 e (by simp only [maxLen]; omega)
end Go.Proofs.YtnhmajdpjapgjaaDoor.Base
