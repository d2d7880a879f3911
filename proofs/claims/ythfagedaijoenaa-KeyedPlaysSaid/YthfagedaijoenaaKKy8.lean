import Derived.Test.YthfagedaijoenaaKKy6
import Derived.Test.YthfagedaijoenaaKKy7
set_option linter.unusedVariables false
set_option linter.unusedSimpArgs false
set_option maxRecDepth 20000
namespace Go.Proofs.Ythfagedaijoenaa.Oct
open Go.RowKit Base
attribute [local irreducible] Ys Yc Ht HtS HtIn Wl Wd W Mem pf dpf Wa Wo
theorem rputz_c (ks vs : List Int) (gk gv : FS) (most : Int) (rb : Nat) (M : List Nat) (k v : Int) (K V : List Int) (w : World) (hK : rputK most ks k = K) (hV : rputV most ks vs k v = V) (hl : Mem w M [gk.seg 3 (mc (Value.int .i64) ks), gv.seg 3 (mc (Value.int .i64) vs), [cb rb [Value.slice gk.a ks.length gk.cap, Value.slice gv.a vs.length gv.cap, Value.int .i64 most] 46]] w) (okk : gk.ok 1 ks.length) (okv : gv.ok 1 vs.length) (hn : ks.length ≤ 100000) (hv : vs.length = ks.length) : Calls Try.prog 22 #[.pointer (some ⟨rb, 0, none⟩), .int .i64 k, .int .i64 v] w (RetM w (fun q : FS × FS => q.1.ok 1 K.length ∧ q.2.ok 1 V.length) (fun _ => .int .i64 (rputR most ks k)) M (fun q => [q.1.seg 3 (mc (Value.int .i64) K), q.2.seg 3 (mc (Value.int .i64) V), [cb rb [.slice q.1.a K.length q.1.cap, .slice q.2.a V.length q.2.cap, .int .i64 most] 46]])) := by
  subst hK; subst hV; exact rput_c ks vs gk gv most rb M k v w hl okk okv hn hv
theorem rdropz_c (ks vs : List Int) (gk gv : FS) (most : Int) (rb : Nat) (M : List Nat) (k : Int) (K V : List Int) (w : World) (hK : rdropL ks ks k = K) (hV : rdropL ks vs k = V) (hl : Mem w M [gk.seg 3 (mc (Value.int .i64) ks), gv.seg 3 (mc (Value.int .i64) vs), [cb rb [Value.slice gk.a ks.length gk.cap, Value.slice gv.a vs.length gv.cap, Value.int .i64 most] 46]] w) (okk : gk.ok 1 ks.length) (okv : gv.ok 1 vs.length) (hn : ks.length ≤ 100000) (hv : vs.length = ks.length) : Calls Try.prog 28 #[.pointer (some ⟨rb, 0, none⟩), .int .i64 k] w (RetM w (fun q : FS × FS => q.1.ok 1 K.length ∧ q.2.ok 1 V.length) (fun _ => .bool (!(decide (atR ks k < 0)))) M (fun q => [q.1.seg 3 (mc (Value.int .i64) K), q.2.seg 3 (mc (Value.int .i64) V), [cb rb [.slice q.1.a K.length q.1.cap, .slice q.2.a V.length q.2.cap, .int .i64 most] 46]])) := by
  subst hK; subst hV; exact rdrop_c ks vs gk gv most rb M k w hl okk okv hn hv
theorem map_fst {xs : List (Int × Int)} {i : Nat} (h : i < xs.length) : (xs.map Prod.fst).getD i 0 = (xs.getD i (0, 0)).1 := by
  simp [List.getD_eq_getElem?_getD, List.getElem?_map, List.getElem?_eq_getElem h]
end Go.Proofs.Ythfagedaijoenaa.Oct
