import Derived.Test.YtmonlaoaengfdaaGreatDoorM0
import Derived.Lib.MakeNoZero
import Derived.ProofKit
import Derived.OpenShut
import Derived.ChangeArms
import Derived.Deep.Slices
import Derived.ShutString
import Derived.ChangeOld
import Derived.Laws.StructEq
import Derived.ChangeKeysEq
set_option linter.unusedVariables false
set_option linter.unusedSimpArgs false
namespace Go.Proofs.YtmonlaoaengfdaaGreatDoor.Base
open Go.RowKit
structure At(w:World)(a:Option Addr)(cs:List Value):Prop where
  here:0<cs.length→a=some (a.getD default)
  cell: ∀q v,cs[q]? =some v→w.cell? ((a.getD default).add q)=some v
theorem At.nil(w:World)(a:Option Addr):At w a []:=⟨fun h=>absurd h (Nat.lt_irrefl _),fun q v h=>by simp at h⟩
theorem At.lt{w:World}{a:Option Addr}{cs:List Value}(h:At w a cs)(h0:0<cs.length):(a.getD default).block<w.heap.size:=by
  have:=Adg (h.cell 0 _ (List.getElem?_eq_getElem h0))
  rwa[Md]at this
theorem At.of_block{w w':World}{a:Option Addr}{cs:List Value}(h:At w a cs)(hb:0<cs.length→w'.heap[(a.getD default).block]? =w.heap[(a.getD default).block]?):At w' a cs:=
  ⟨h.here,fun q v hv=>by
    rw[World.cell?_of_block (w:=w) (by rw[Md];exact hb (by have:=(List.getElem?_eq_some_iff.1 hv).1;omega))]
    exact h.cell q v hv⟩
theorem At.below{w w':World}{a:Option Addr}{cs:List Value}(h:At w a cs)(hb:Below w.heap.size w w'):At w' a cs:=h.of_block fun h0=>hb.block _ (h.lt h0)
theorem At.sub{w:World}{a:Option Addr}{cs:List Value}(h:At w a cs)(k m:Nat):At w (a.map (·.add k)) ((cs.drop k).take m):=by
  have hlen:((cs.drop k).take m).length≤cs.length-k:=by simp;omega
  refine⟨fun h0=>?_,fun q v hv=>?_⟩
  · have:=h.here (by omega)
    rw[this];rfl
  · have hq:=(List.getElem?_eq_some_iff.1 hv).1
    have:=h.here (by omega)
    rw[this]at h⊢
    simp only[Option.map_some,Option.getD_some]
    rw[Ge]
    have h2:=h.cell (k+q) v (by
      rw[List.getElem?_take]at hv
      split at hv
      · simpa using hv
      · cases hv)
    simpa using h2
theorem At.take{w:World}{a:Option Addr}{cs:List Value}(h:At w a cs)(m:Nat):At w a (cs.take m):=
  ⟨fun h0=>h.here (by simp at h0;omega),fun q v hv=>h.cell q v (by
    rw[List.getElem?_take]at hv
    split at hv
    · exact hv
    · cases hv)⟩
def C8(a:Option Addr)(cap k sz:Nat):Option Addr:=if cap=k then a else a.map (·.add (k*sz))
theorem At.drop{w:World}{a:Option Addr}{cs:List Value}(h:At w a cs)(cap k sz:Nat)(hl:cs.length≤cap*sz):At w (C8 a cap k sz) (cs.drop (k*sz)):=by
  unfold C8
  split
  · rename_i e
    have:cs.drop (k*sz)=[]:=List.drop_eq_nil_of_le (by rw[←e];exact hl)
    rw[this];exact At.nil _ _
  · have:=h.sub (k*sz) cs.length
    rwa[List.take_of_length_le (by simp)]at this
structure FS where
  nil:Bool
  b:Nat
  cap:Nat
  rest:List Value
def FS.a(g:FS):Option Addr:=bif g.nil then none else some ⟨g.b,0,none⟩
def FS.seg(g:FS)(t:TypeId)(cs:List Value):List Blk:=bif g.nil then []else [cb g.b (cs++g.rest) t]
theorem Adj(b c:Nat)(r:List Value):(FS.mk false b c r).a=some ⟨b,0,none⟩:=rfl
structure FS.ok(g:FS)(sz len:Nat):Prop where
  h0:g.nil=true→len=0∧g.cap=0
  le:len≤g.cap
  mx:g.cap≤maxLen
  len:g.cap*sz≤len*sz+g.rest.length
section
variable {r:Option Nat}{P:Program}{ops:Array Oper}{Q:Exit→Act→World→Prop}{K:Act→World→Prop}{S:World→Prop}{n:Nat}{ds:List Deferred}{f:Nat→Value}{o:Oper}{rest:List Oper}{v:Value}{d:Nat}{w0 w:World}{M:List Nat}{LL LL':List (List Blk)}{s:List Blk}{i j b:Nat}{a:Option Addr}{cs:List Value}
theorem At.mem(h:At w0 a cs)(hm:Mem w0 M LL w)(hM:(a.getD default).block∉M):At w a cs:=h.of_block fun h0=>Mem0.same hm _ (h.lt h0) hM
theorem At.mem0(h:At w0 a cs)(hm:Mem w0 [] LL w):At w a cs:=h.mem hm (by simp)
theorem Zq{t:TypeId}{xs:List Value}{k:Nat}(hm:Mem w0 M LL w)(hi:LL[i]? =some s)(hj:s[j]? =some (cb b xs t))(hx: ∀q v,cs[q]? =some v→xs[k+q]? =some v):At w (some ⟨b,k,none⟩) cs:=
  ⟨fun _=>rfl,fun q v hv=>by
    simp only[Option.getD_some]
    rw[add_lit]
    exact hm.cell hi hj (hx q v hv)⟩
theorem Ahf{t:TypeId}{xs:List Value}(hm:Mem w0 M LL w)(hi:LL[i]? =some s)(hj:s[j]? =some (cb b (cs++xs) t)):At w (some ⟨b,0,none⟩) cs:=
  Zq hm hi hj fun q v hv=>by rw[Nat.zero_add,List.getElem?_append_left (List.getElem?_eq_some_iff.1 hv).1];exact hv
theorem Az{t:TypeId}(hm:Mem w0 M LL w)(hi:LL[i]? =some s)(hj:s[j]? =some (cb b cs t)):At w (some ⟨b,0,none⟩) cs:=
  Zq hm hi hj fun q v hv=>by rw[Nat.zero_add];exact hv
def Co(a:Option Addr)(q:Nat):Addr:=(a.getD default).add q
theorem Av{t e:TypeId}{x ix:Operand}{len cap sz:Nat}{k:IntKind}{i:Int}(hop:o.op=.indexAddr t x ix)(hx:ev n f x=.slice a len cap)(hi:ev n f ix=.int k i)
    (hu: ∀w,(underlying t).run P w=.ok (.slice e) w) (hz: ∀w,(sizeOf e).run P w=.ok sz w) (h0:0≤i) (h1:i<len) (ha:a=some (a.getD default)):Ys P n S f o (.pointer (some (Co a (i.toNat*sz)))):=Ys.pure fun w=>by
  obtain⟨adr,rfl⟩: ∃adr,a=some adr:=⟨_,ha⟩
  simp[execOp,hop,hx,hi,Instr.indexAt,asIntOf,hu,hz,h0,h1,Co]
theorem C9{t e:TypeId}{x ix:Operand}{len sz o':Nat}{k:IntKind}{i:Int}(hop:o.op=.indexAddr t x ix)(hx:ev n f x=.pointer (some ⟨b,o',none⟩))(hi:ev n f ix=.int k i)
    (hu: ∀w,(underlying t).run P w=.ok (.array len e) w) (hz: ∀w,(sizeOf e).run P w=.ok sz w) (h0:0≤i) (h1:i<len):Ys P n S f o (.pointer (some ⟨b,o'+i.toNat*sz,none⟩)):=Ys.pure fun w=>by
  simp[execOp,hop,hx,hi,Instr.indexAt,Instr.sureAddr,asIntOf,hu,hz,h0,h1,add_lit]
theorem At.ld(h:At w a cs){q:Nat}(hq:cs[q]? =some v):w.cell? (Co a q)=some v:=h.cell q v hq
theorem At.ldF(h:At w a cs){q k:Nat}(hq:cs[q+k]? =some v):w.cell? ((Co a q).add k)=some v:=by
  unfold Co;rw[Ge];exact h.cell _ v hq
theorem At.ldN(h:At w a cs){q:Nat}{vs:List Value}(hv: ∀j v,vs[j]? =some v→cs[q+j]? =some v): ∀j v,vs[j]? =some v→w.cell? ((Co a q).add j)=some v:=fun j v hj=>h.ldF (hv j v hj)
theorem At.ldNF(h:At w a cs){q k:Nat}{vs:List Value}(hv: ∀j v,vs[j]? =some v→cs[q+k+j]? =some v): ∀j v,vs[j]? =some v→w.cell? (((Co a q).add k).add j)=some v:=fun j v hj=>by
  rw[Ge];exact h.ldF (by rw[←Nat.add_assoc];exact hv j v hj)
theorem V6(b k q:Nat):Co (some ⟨b,k,none⟩) q=⟨b,k+q,none⟩:=by unfold Co;simp only[Option.getD_some];exact add_lit _ _ _
theorem Br(b q:Nat):Co (some ⟨b,0,none⟩) q=⟨b,q,none⟩:=by rw[V6,Nat.zero_add]
theorem Bm(h: ∀w,S w→Ys P n S f o v):Ys P n S f o v:=fun w hS=>h w hS w hS
theorem Aky(cap sz:Nat):C8 a cap 0 sz=a:=by
  unfold C8;split
  · rfl
  · cases a<;>simp[Lj]
theorem Bk{t e:TypeId}{x l:Operand}{len cap sz:Nat}{k:IntKind}{i:Int}(hop:o.op=.slice t x (some l) none none)(hx:ev n f x=.slice a len cap)(hi:ev n f l=.int k i)
    (hu: ∀w,(underlying t).run P w=.ok (.slice e) w) (hz: ∀w,(sizeOf e).run P w=.ok sz w) (h0:0≤i) (h1:i≤len):Ys P n S f o (.slice (C8 a cap i.toNat sz) (len-i.toNat) (cap-i.toNat)):=Ys.pure fun w=>by
  simp[execOp,hop,hx,hi,Instr.sliceAt,Instr.slice,hu,Instr.sliceBounds,Instr.sliceBound,asIntOf,h0,h1,hz,C8]
theorem Dg{t e:TypeId}{x h:Operand}{len cap sz:Nat}{k:IntKind}{i:Int}(hop:o.op=.slice t x none (some h) none)(hx:ev n f x=.slice a len cap)(hi:ev n f h=.int k i)
    (hu: ∀w,(underlying t).run P w=.ok (.slice e) w) (hz: ∀w,(sizeOf e).run P w=.ok sz w) (h0:0≤i) (h1:i≤cap):Ys P n S f o (.slice a i.toNat cap):=Ys.pure fun w=>by
  have e:=Aky (a:=a) cap sz
  unfold C8 at e
  simp only[Nat.zero_mul]at e
  simp[execOp,hop,hx,hi,Instr.sliceAt,Instr.slice,hu,Instr.sliceBounds,Instr.sliceBound,asIntOf,h0,h1,hz,e]
theorem G9{t e:TypeId}{x l h:Operand}{len cap sz:Nat}{k k':IntKind}{i j:Int}(hop:o.op=.slice t x (some l) (some h) none)(hx:ev n f x=.slice a len cap)(hi:ev n f l=.int k i)(hj:ev n f h=.int k' j)
    (hu: ∀w,(underlying t).run P w=.ok (.slice e) w) (hz: ∀w,(sizeOf e).run P w=.ok sz w) (h0:0≤i) (h1:i≤j) (h2:j≤cap):Ys P n S f o (.slice (C8 a cap i.toNat sz) (j.toNat-i.toNat) (cap-i.toNat)):=Ys.pure fun w=>by
  obtain⟨j,rfl⟩:=Int.eq_ofNat_of_zero_le (show 0≤j by omega)
  have h2':j≤cap:=by omega
  simp[execOp,hop,hx,hi,hj,Instr.sliceAt,Instr.slice,hu,Instr.sliceBounds,Instr.sliceBound,asIntOf,h0,h1,h2',hz,C8]
theorem U3{t e:TypeId}{x h m:Operand}{len cap sz:Nat}{k k':IntKind}{i j:Int}(hop:o.op=.slice t x none (some h) (some m))(hx:ev n f x=.slice a len cap)(hi:ev n f h=.int k i)(hj:ev n f m=.int k' j)
    (hu: ∀w,(underlying t).run P w=.ok (.slice e) w) (hz: ∀w,(sizeOf e).run P w=.ok sz w) (h0:0≤i) (h1:i≤j) (h2:j≤cap):Ys P n S f o (.slice a i.toNat j.toNat):=Ys.pure fun w=>by
  obtain⟨j,rfl⟩:=Int.eq_ofNat_of_zero_le (show 0≤j by omega)
  have h2':j≤cap:=by omega
  have e:=Aky (a:=a) j sz
  unfold C8 at e
  simp only[Nat.zero_mul]at e
  simp[execOp,hop,hx,hi,hj,Instr.sliceAt,Instr.slice,hu,Instr.sliceBounds,Instr.sliceBound,asIntOf,h0,h1,h2',hz,e]
abbrev FS.nul:FS:=⟨true,0,0,[]⟩
theorem Bw(sz:Nat):FS.nul.ok sz 0:=⟨fun _=>⟨rfl,rfl⟩,Nat.le_refl _,Nat.zero_le _,by simp⟩
theorem Dp{b sz k:Nat}(h:k≤maxLen):(FS.mk false b k []).ok sz k:=⟨fun h=>(by cases h),Nat.le_refl _,h,by simp⟩
theorem C5{g:FS}{sz len:Nat}(h:g.ok sz len)(hl:0<len):g.nil=false:=by
  cases e:g.nil with
  |false=>rfl
  |true=>have:=(h.h0 e).1;omega
theorem Eb{g:FS}(h:g.nil=false):g.a=some ⟨g.b,0,none⟩:=by simp[FS.a,h]
theorem Ha{g:FS}{t:TypeId}(h:g.nil=false):g.seg t cs=[cb g.b (cs++g.rest) t]:=by simp[FS.seg,h]
theorem FS.at{g:FS}{t:TypeId}(hm:Mem w0 M LL w)(hi:LL[i]? =some (g.seg t cs))(h:g.nil=true→cs=[]):At w g.a cs:=by
  cases e:g.nil with
  |true=>rw[h e];exact At.nil _ _
  |false=>
    rw[Ha e]at hi
    rw[Eb e]
    exact Ahf (j:=0) (b:=g.b) (t:=t) hm hi rfl
theorem Aj{g:FS}{sz len:Nat}(h:g.ok sz len)(hl:cs.length=len*sz):g.nil=true→cs=[]:=fun e=>by
  rw[(h.h0 e).1,Nat.zero_mul]at hl
  exact List.length_eq_zero_iff.1 hl
theorem Zr{g:FS}(h:g.nil=false)(q:Nat):Co g.a q=⟨g.b,q,none⟩:=by rw[Eb h,V6];simp
theorem Kn{t:TypeId}{x y:Operand}{g:FS}{q:Nat}{cs':List Value}{ty:TypeId}(hd:o.dst=none)(hop:o.op=.store t x y)(hx:ev n f x=.pointer (some (Co g.a q)))(hy:ev n f y=v)
    (hz: ∀w,(sizeOf t).run P w=.ok 1 w) (hv:v.oneCell'=true) (hn:g.nil=false) (hi:LL[i]? =some (g.seg ty cs)) (ho:q<cs.length) (hcs:cs.set q v=cs') (hL:LL.set i (g.seg ty cs')=LL'):
    Ht (β:=Unit) P n (Mem w0 M LL) f o (fun _=>f) (fun _=>Mem w0 M LL'):=by
  rw[Ha hn]at hi hL
  rw[Zr hn]at hx
  exact Ek (o':=q) (j:=0) hd hop hx hy hz hv hi rfl (by simp;omega) (by rw[List.set_append_left _ _ ho,hcs]) (by simpa using hL)
def Src(P:Program)(S:World→Prop)(sz m:Nat)(x:Value)(news:List Value):Prop:= ∀w,S w→(Builtin.firstCells sz m x).run P w=.ok news.toArray w
theorem Src.at{sz m len cap:Nat}{news:List Value}(hl:news.length=m*sz)(h: ∀w,S w→At w a news):Src P S sz m (.slice a len cap) news:=fun w hS=>by
  have h:=h w hS
  cases a with
  |none=>
    have:news=[]:=by
      cases news with
      |nil=>rfl
      |cons x l=>have:=h.here (by simp);cases this
    subst this
    exact run_firstCells_none (P:=P) w sz m len cap
  |some adr=>exact run_firstCells_some (P:=P) w sz m adr len cap news hl (fun q v hq=>by simpa using h.cell q v hq)
theorem Nd{t u ty e:TypeId}{eu:TypeId}{ii:TypeInfo}{z:Value}{g:FS}{nn m sz:Nat}{xs news:List Value}{x:Value}(ht:P.underlying t=some (.slice e))(hu:P.underlying u=some (.slice eu))(hi:P.info? e=some ii)(hz:ii.zero=some z)(hsize:ii.size=sz)(hzs:z.cells.size=sz)
    (hS:Mem w0 M LL w) (hL:LL[i]? =some (g.seg e xs)) (ok:g.ok sz nn) (hxs:xs.length=nn*sz) (hlen:(Builtin.lenOf x).run P w=.ok m w) (hsrc: ∀k,(Builtin.firstCells sz m x).run P {w with drawn:=k}=.ok news.toArray {w with drawn:=k}) (hl:news.length=m*sz) (h1: ∀v∈news,v.oneCell'=true)
    (h63:nn+m≤maxLen) (hbytes:(nn+m)*ii.bytes≤140737488355328):
    ∃(g':FS) (w':World),(Builtin.append_ #[t,u] ty #[.slice g.a nn g.cap,x]).run P w=.ok (.slice g'.a (nn+m) g'.cap) w'∧Mem w0 M (LL.set i (g'.seg e (xs++news))) w'∧g'.ok sz (nn+m)∧(0<nn+m→g'.nil=false)∧(g.nil=false→g'.nil=false):=by
  subst hsize
  have hu':=run_underlying (P:=P) hu
  by_cases hroom:nn+m≤g.cap
  · cases hn:g.nil with
    |true=>
      have h0:=ok.h0 hn
      have hm0:m=0:=by omega
      have hx0:xs=[]:=Aj ok hxs hn
      have hnw:news=[]:=by rw[hm0,Nat.zero_mul]at hl;exact List.length_eq_zero_iff.1 hl
      refine⟨g,w,?_,?_,?_,?_,fun h=>(by cases h)⟩
      · have ha:g.a=none:=by simp[FS.a,hn]
        rw[ha]
        have hs:=hsrc w.drawn
        simp[Builtin.append_,run_underlying ht,hu',sizeOf,typeInfo,hi,hlen,hroom,hs]
      · rw[hnw,List.append_nil]
        obtain⟨hlt,hLe⟩:=List.getElem?_eq_some_iff.1 hL
        rw[←hLe,List.set_getElem_self];exact hS
      · rw[hm0];exact ok
      · intro h;omega
    |false=>
      rw[Ha hn]at hL
      have hs:=hsrc w.drawn
      have hcapl:=ok.len
      have hfit:nn*ii.size+news.length≤(xs++g.rest).length:=by
        rw[List.length_append,hxs,hl,←Nat.add_mul];exact Nat.le_trans (Nat.mul_le_mul_right _ hroom) hcapl
      obtain⟨w',Y8,hm'⟩:=Ey (P:=P) (j:=0) (b:=g.b) (t:=e) hS news (nn*ii.size) 0 hL rfl hfit h1
      have hset:Bn (xs++g.rest) (nn*ii.size) news=xs++news++g.rest.drop news.length:=by
        unfold Bn
        rw[←hxs,List.take_left,List.drop_append,List.drop_of_length_le (by omega)]
        simp
      rw[hset]at hm'
      refine⟨⟨false,g.b,g.cap,g.rest.drop news.length⟩,w',?_,?_,?_,fun _=>rfl,fun _=>rfl⟩
      · rw[Eb hn]
        simp[Builtin.append_,run_underlying ht,hu',sizeOf,typeInfo,hi,hlen,hroom,hs,Addr.add_lit,Y8,FS.a]
      · simpa [FS.seg]using hm'
      · refine⟨fun h=>(by cases h),hroom,ok.mx,?_⟩
        rw[List.length_append,hxs]at hfit
        simp only[List.length_drop,hl]at hfit⊢
        rw[Nat.add_mul]
        omega
  · have hn: ¬(nn+m≤g.cap):=hroom
    have h63': ¬(9223372036854775807<((nn:Int)+(m:Int))):=by simp only[maxLen]at h63;omega
    have hle:=ok.le
    have hfits:Builtin.nextslicecap (nn+m) g.cap*ii.bytes≤281474976710656:=growslice_fits (by omega) hbytes
    have h48': ¬(281474976710656<Builtin.nextslicecap (nn+m) g.cap*ii.bytes):=by omega
    have hat:At w g.a xs:=FS.at hS hL (Aj ok hxs)
    have hfo:(Builtin.firstCells ii.size nn (.slice g.a nn g.cap)).run P w.drew=.ok xs.toArray w.drew:=
      Src.at (P:=P) (S:=fun w'=>w'=w.drew) hxs (fun w' e=>by subst e;exact hat.of_block fun _=>rfl) w.drew rfl
    have hf:(Builtin.firstCells ii.size m x).run P w.drew=.ok news.toArray w.drew:=hsrc (w.drawn+1)
    have hge:=grownCap_ge w (nn+m) g.cap e
    have hlem:=grownCap_le_maxLen w (nn+m) g.cap e h63
    refine⟨⟨false,w.heap.size,grownCap w (nn+m) g.cap e,(Builtin.zeroCells z.cells (grownCap w (nn+m) g.cap e-(nn+m))).toList⟩,w.drew.alloc (.cells (xs++news++(Builtin.zeroCells z.cells (grownCap w (nn+m) g.cap e-(nn+m))).toList).toArray e),?_,?_,?_,fun _=>rfl,fun _=>rfl⟩
    · simp[Builtin.append_,run_underlying ht,hu',sizeOf,typeInfo,zeroValue,hi,hz,hlen,hn,h63',h48',Question.forced,hf,hfo,newRow,grownCap,Adj]
      congr 2
      apply Array.ext'
      simp[List.append_assoc]
    · have h2:=(hS.drawn (w.drawn+1)).alloc (xs++news++(Builtin.zeroCells z.cells (grownCap w (nn+m) g.cap e-(nn+m))).toList) e
      have hlt:=(List.getElem?_eq_some_iff.1 hL).1
      --the old segment is dropped,the new one stands in its place
      obtain⟨k,hk⟩: ∃k,k=LL.length:=⟨_,rfl⟩
      refine h2.pick ((List.range LL.length).map fun q=>if q=i then 0 else q+1) ?_ ?_
      · rw[List.Nodup,List.pairwise_map]
        refine List.Pairwise.imp_of_mem ?_ (List.nodup_range (n:=LL.length))
        intro p q _ _ hpq e
        split at e<;>split at e<;>omega
      · unfold Ct
        apply List.ext_getElem?
        intro q
        rw[List.map_map,List.getElem?_map,List.getElem?_set]
        by_cases hq:q<LL.length
        · rw[List.getElem?_range hq]
          simp only[Option.map_some,Function.comp]
          by_cases hqi:q=i
          · subst hqi
            rw[if_pos rfl,if_pos rfl,if_pos hq]
            simp[FS.seg]
          · rw[if_neg hqi,if_neg (fun e=>hqi e.symm)]
            simp[List.getElem?_eq_getElem hq]
        · rw[List.getElem?_eq_none (by simpa using hq:(List.range LL.length).length≤q)]
          split
          · rename_i e;subst e;exact absurd hlt hq
          · rw[List.getElem?_eq_none (by omega)];rfl
    · refine⟨fun h=>(by cases h),hge,hlem,?_⟩
      simp only[Array.length_toList,size_zeroCells,hzs,←Nat.add_mul]
      rw[show nn+m+(grownCap w (nn+m) g.cap e-(nn+m))=grownCap w (nn+m) g.cap e by omega]
      exact Nat.le_refl _
theorem Ht.append{t u e:TypeId}{eu:TypeId}{ii:TypeInfo}{z:Value}{s x:Operand}{g:FS}{xv:Value}{nn m k sz bytes:Nat}{xs news cs':List Value}{Lo:FS→List (List Blk)}(hd:o.dst=some d)
    (ho:o.op=.call {callee:=.builtin .append,args:= #[s,x],argTypes:= #[t,u]}) (ht:P.underlying t=some (.slice e)) (hu:P.underlying u=some (.slice eu)) (hi:P.info? e=some ii) (hz:ii.zero=some z)
    (hsize:ii.size=sz) (hby:ii.bytes=bytes) (hzs:z.cells.size=sz) (hs:ev n f s=.slice g.a nn g.cap) (hx:ev n f x=xv) (hL:LL[i]? =some (g.seg e xs)) (ok:g.ok sz nn) (hxs:xs.length=nn*sz)
    (hlen: ∀w,(Builtin.lenOf xv).run P w=.ok m w) (hsrc:Src P (Mem w0 M LL) sz m xv news) (hl:news.length=m*sz) (h1: ∀v∈news,v.oneCell'=true) (hk:nn+m=k) (h63:k≤maxLen) (hbytes:k*bytes≤140737488355328)
    (hcs:xs++news=cs') (hLo: ∀g',LL.set i (g'.seg e cs')=Lo g'):
    Ht (β:={g':FS//g'.ok sz k∧(0<k→g'.nil=false)∧(g.nil=false→g'.nil=false)}) P n (Mem w0 M LL) f o (fun g'=>Ft f d (.slice g'.1.a k g'.1.cap)) (fun g'=>Mem w0 M (Lo g'.1)):=fun ds w hS K hK=>by
  subst hby;subst hk;subst hcs
  obtain⟨g',w',hrun,hm,hok,hnn,hnn2⟩:=Nd (P:=P) (t:=t) (u:=u) (ty:=o.type) (x:=xv) ht hu hi hz hsize hzs hS hL ok hxs (hlen w) (fun k=>hsrc _ (hS.drawn k)) hl h1 h63 hbytes
  rw[hLo]at hm
  unfold Oper.wp execOp
  simp only[ho,resolve,invoke,builtin,Sem.run_bind,Sem.run_pure,Result.andThen_ok,List.map_toArray,List.map_cons,List.map_nil,C1,hs,hx,hrun]
  simp only[Oper.upon,hd,De]
  exact hK ⟨g',hok,hnn,hnn2⟩ w' hm
theorem HtS.append{t u e:TypeId}{eu:TypeId}{ii:TypeInfo}{z:Value}{s x:Operand}{g:FS}{xv:Value}{nn m k sz bytes:Nat}{xs news cs':List Value}{Lo:FS→List (List Blk)}(hd:o.dst=some d)
    (ho:o.op=.call {callee:=.builtin .append,args:= #[s,x],argTypes:= #[t,u]}) (ht:P.underlying t=some (.slice e)) (hu:P.underlying u=some (.slice eu)) (hi:P.info? e=some ii) (hz:ii.zero=some z)
    (hsize:ii.size=sz) (hby:ii.bytes=bytes) (hzs:z.cells.size=sz) (hs:ev n f s=.slice g.a nn g.cap) (hx:ev n f x=xv) (hL:LL[i]? =some (g.seg e xs)) (ok:g.ok sz nn) (hxs:xs.length=nn*sz)
    (hlen: ∀w,(Builtin.lenOf xv).run P w=.ok m w) (hsrc:Src P (Mem w0 M LL) sz m xv news) (hl:news.length=m*sz) (h1: ∀v∈news,v.oneCell'=true) (hk:nn+m=k) (h63:k≤maxLen) (hbytes:k*bytes≤140737488355328)
    (hcs:xs++news=cs') (hLo: ∀g',LL.set i (g'.seg e cs')=Lo g'):
    HtS P n (Mem w0 M LL) f o (fun g':FS=>g'.ok sz k∧(0<k→g'.nil=false)∧(g.nil=false→g'.nil=false)) (fun g'=>Ft f d (.slice g'.a k g'.cap)) (fun g'=>Mem w0 M (Lo g')):=
  Ht.append hd ho ht hu hi hz hsize hby hzs hs hx hL ok hxs hlen hsrc hl h1 hk h63 hbytes hcs hLo
theorem Adk{t e:TypeId}{ii:TypeInfo}{z:Value}{l c:Operand}{kl kc:IntKind}{lv:Int}{sz bytes:Nat}{cs:List Value}(hd:o.dst=some d)(hop:o.op=.makeSlice t l c)(ht:P.underlying t=some (.slice e))(hi:P.info? e=some ii)(hz:ii.zero=some z)
    (hsize:ii.size=sz) (hby:ii.bytes=bytes) (hl:ev n f l=.int kl lv) (hc:ev n f c=.int kc lv) (h0:0≤lv) (hbytes:(bytes:Int)*lv≤281474976710656) (h63:lv≤9223372036854775807) (hcs:(madeCells z.cells (lv.toNat*sz)).toList=cs):
    Ht P n (Mem w0 M LL) f o (fun b=>Ft f d (.slice (some ⟨b,0,none⟩) lv.toNat lv.toNat)) (fun b=>Mem w0 M ([cb b cs e]::LL)):=Bd (mk:=fun b=>.slice (some ⟨b,0,none⟩) lv.toNat lv.toNat) hd fun w=>by
  subst hsize;subst hby;subst hcs
  have h:=run_make (P:=P) w t e ii z ht hi hz kl kc lv lv h0 (Int.le_refl _) hbytes h63
  simp[execOp,hop,hl,hc,h]
theorem Ry{td tx e:TypeId}{ii:TypeInfo}{x y:Operand}{xv:Value}{dl dc m q sz o':Nat}{t:TypeId}{cs' news:List Value}(hd:o.dst=some d)
    (ho:o.op=.call {callee:=.builtin .copy,args:= #[x,y],argTypes:= #[td,tx]}) (ht:P.underlying td=some (.slice e)) (hi:P.info? e=some ii) (hsize:ii.size=sz)
    (hx:ev n f x=.slice (some ⟨b,o',none⟩) dl dc) (hy:ev n f y=xv) (hL:LL[i]? =some s) (hj:s[j]? =some (cb b cs t)) (hlen: ∀w,(Builtin.lenOf xv).run P w=.ok m w) (hq:Nat.min m dl=q) (hsrc:Src P (Mem w0 M LL) sz q xv news)
    (hl:o'+news.length≤cs.length) (h1: ∀v∈news,v.oneCell'=true) (hcs:Bn cs o' news=cs') (hL':LL.set i (s.set j (cb b cs' t))=LL'):
    Ht (β:=Unit) P n (Mem w0 M LL) f o (fun _=>Ft f d (.int .i64 q)) (fun _=>Mem w0 M LL'):=fun ds w hS K hK=>by
  subst hsize
  obtain⟨w',Y8,hm⟩:=Ey (P:=P) hS news o' 0 hL hj hl h1
  rw[hcs,hL']at hm
  have hs:=hsrc w hS
  have hrun:(Builtin.copy_ #[td,tx] o.type #[ev n f x,ev n f y]).run P w=.ok (goInt q) w':=by
    simp[Builtin.copy_,hx,hy,run_underlying ht,sizeOf,typeInfo,hi,hlen,hq,hs,Y8]
  unfold Oper.wp execOp
  simp only[ho,resolve,invoke,builtin,Sem.run_bind,Sem.run_pure,Result.andThen_ok,List.map_toArray,List.map_cons,List.map_nil,C1,hrun]
  simp only[Oper.upon,hd,De]
  exact hK () w' hm
theorem Ol(cs:List Value)(o:Nat)(news:List Value)(h:news.length=0):Bn cs o news=cs:=by
  obtain rfl:=List.length_eq_zero_iff.1 h
  exact X0 cs o
theorem Ck{td tx e:TypeId}{ii:TypeInfo}{x y:Operand}{xv:Value}{dl dc m q sz o' cap:Nat}{t:TypeId}{cs' news:List Value}(hd:o.dst=some d)
    (ho:o.op=.call {callee:=.builtin .copy,args:= #[x,y],argTypes:= #[td,tx]}) (ht:P.underlying td=some (.slice e)) (hi:P.info? e=some ii) (hsize:ii.size=sz)
    (hx:ev n f x=.slice (C8 (some ⟨b,0,none⟩) cap o' sz) dl dc) (hz:cap=o'→q=0) (hy:ev n f y=xv) (hL:LL[i]? =some s) (hj:s[j]? =some (cb b cs t)) (hlen: ∀w,(Builtin.lenOf xv).run P w=.ok m w) (hq:Nat.min m dl=q) (hsrc:Src P (Mem w0 M LL) sz q xv news) (hnl:news.length=q*sz)
    (hl:o'*sz+news.length≤cs.length) (h1: ∀v∈news,v.oneCell'=true) (hcs:Bn cs (o'*sz) news=cs') (hL':LL.set i (s.set j (cb b cs' t))=LL'):
    Ht (β:=Unit) P n (Mem w0 M LL) f o (fun _=>Ft f d (.int .i64 q)) (fun _=>Mem w0 M LL'):=by
  by_cases hc:cap=o'
  · have hq0:=hz hc
    have hn0:news.length=0:=by rw[hnl,hq0,Nat.zero_mul]
    unfold C8 at hx
    rw[if_pos hc]at hx
    exact Ry (o':=0) hd ho ht hi hsize hx hy hL hj hlen hq hsrc (by omega) h1 (by rw[Ol _ _ _ hn0,←hcs,Ol _ _ _ hn0]) hL'
  · unfold C8 at hx
    rw[if_neg hc]at hx
    simp only[Option.map_some,add_lit,Nat.zero_add]at hx
    exact Ry (o':=o'*sz) hd ho ht hi hsize hx hy hL hj hlen hq hsrc hl h1 hcs hL'
def mc{α:Type}(g:α→Value)(xs:List α):List Value:=xs.map g
section
variable {α:Type}{g:α→Value}
theorem Da(xs:List α):(mc g xs).length=xs.length:=by simp[mc]
theorem Ba(xs:List α):(mc g xs).length=xs.length*1:=by simp[mc]
theorem Ez{xs:List α}{k:Nat}(d:α)(h:k<xs.length):(mc g xs)[k]? =some (g (xs.getD k d)):=by
  simp[mc,h]
theorem Fm{xs:List α}{k:Nat}(d:α)(h:k<xs.length):(mc g xs)[k*1]? =some (g (xs.getD k d)):=by
  rw[Nat.mul_one];exact Ez d h
theorem E1(xs ys:List α):mc g xs++mc g ys=mc g (xs++ys):=by simp[mc]
theorem Zs(xs:List α)(k:Nat):(mc g xs).drop (k*1)=mc g (xs.drop k):=by simp[mc]
theorem Adl(xs:List α)(k:Nat):(mc g xs).take k=mc g (xs.take k):=by simp[mc]
theorem Dl(hg: ∀x,(g x).oneCell'=true)(xs:List α): ∀v∈mc g xs,v.oneCell'=true:=fun v hv=>by
  obtain⟨b,_,rfl⟩:=List.mem_map.1 hv
  exact hg b
theorem Rz(xs:List α)(k:Nat)(b:α):(mc g xs).set (k*1) (g b)=mc g (xs.set k b):=by simp[mc,List.map_set]
theorem Zt(xs ys:List α)(k:Nat):Bn (mc g xs) k (mc g ys)=mc g (xs.take k++ys++xs.drop (k+ys.length)):=by simp[mc,Bn]
theorem Np(xs ys:List α)(k:Nat):Bn (mc g xs) (k*1) (mc g ys)=mc g (xs.take k++ys++xs.drop (k+ys.length)):=by rw[Nat.mul_one];exact Zt xs ys k
theorem Adm(k:Nat)(x:α)(h:(g x).cells= #[g x]):(madeCells (g x).cells (k*1)).toList=mc g (List.replicate k x):=by
  rw[h,Nat.mul_one,toList_madeCells_one]
  simp[mc]
end
section
variable {α:Type}{g:α→Value}{w:World}{a:Option Addr}{xs:List α}
theorem At.mdrop(h:At w a (mc g xs))(cap k:Nat)(hl:xs.length≤cap):At w (C8 a cap k 1) (mc g (xs.drop k)):=by
  have:=h.drop cap k 1 (by rw[Da];omega)
  rwa[Zs]at this
theorem At.mtake(h:At w a (mc g xs))(k:Nat):At w a (mc g (xs.take k)):=by
  have:=h.take k
  rwa[Adl]at this
end
abbrev b8(b:UInt8):Value:=.int .u8 ((b.toNat:Nat):Int)
abbrev Ci(xs:List UInt8):List Value:=mc b8 xs
def Me(xs:List UInt8):ByteArray:=⟨xs.toArray⟩
theorem V7(n:Int):IntKind.u8.wrap n=(((UInt8.ofInt n).toNat:Nat):Int):=by
  simp only[IntKind.wrap,IntKind.bits,IntKind.signed,Bool.false_and,Bool.false_eq_true,if_false,UInt8.ofInt]
  rw[UInt8.toNat_ofNat']
  omega
end
abbrev sV(g:FS)(n:Nat):Value:=.slice g.a n g.cap
end Go.Proofs.YtmonlaoaengfdaaGreatDoor.Base
namespace Go.Proofs.YtmonlaoaengfdaaGreatDoor.Base
theorem Gf(n:Nat):IntKind.u8.wrap ((n:Nat):Int)=(((UInt8.ofNat n).toNat:Nat):Int):=by
  simp only[IntKind.wrap,IntKind.bits,IntKind.signed,Bool.false_and,Bool.false_eq_true,if_false]
  rw[UInt8.toNat_ofNat']
  rfl
theorem El{k:IntKind}(a c:Nat)(hc:c≤k.bits):Jd k ((a:Nat):Int) ((c:Nat):Int)=((a/2^c:Nat):Int):=by
  unfold Jd
  rw[Int.toNat_natCast,Nat.min_eq_left hc,Int.fdiv_eq_ediv_of_nonneg _ (by exact Int.pow_nonneg (by decide))]
  rw[Int.natCast_ediv,Int.natCast_pow]
  rfl
theorem Em{k:IntKind}(hs:k.signed=false)(a:Nat):k.wrap ((a:Nat):Int)=((a%2^k.bits:Nat):Int):=by
  simp only[IntKind.wrap,hs,Bool.false_and,Bool.false_eq_true,if_false]
  rw[Int.natCast_emod,Int.natCast_pow]
  rfl
theorem H3{k:IntKind}{a b:Nat}(hs:k.signed=false)(h:a<2^k.bits):Nb k ((a:Nat):Int) ((b:Nat):Int)=((a/b:Nat):Int):=by
  unfold Nb
  have e:(a:Int).tdiv (b:Int)=((a/b:Nat):Int):=rfl
  rw[e,Em hs,Nat.mod_eq_of_lt (Nat.lt_of_le_of_lt (Nat.div_le_self _ _) h)]
theorem E7{k:IntKind}{a b:Nat}(hs:k.signed=false)(h:a+b<2^k.bits):Bt k ((a:Nat):Int) ((b:Nat):Int)=((a+b:Nat):Int):=by
  unfold Bt
  rw[←Int.natCast_add,Em hs,Nat.mod_eq_of_lt h]
theorem Tl{k:IntKind}{a b:Nat}(hs:k.signed=false):Bt k ((a:Nat):Int) ((b:Nat):Int)=(((a+b)%2^k.bits:Nat):Int):=by
  unfold Bt
  rw[←Int.natCast_add,Em hs]
theorem P2{k:IntKind}{a b:Nat}(hs:k.signed=false)(h:a*b<2^k.bits):Ld k ((a:Nat):Int) ((b:Nat):Int)=((a*b:Nat):Int):=by
  unfold Ld
  rw[←Int.natCast_mul,Em hs,Nat.mod_eq_of_lt h]
theorem Tm{k:IntKind}{a b:Nat}(hs:k.signed=false):Ld k ((a:Nat):Int) ((b:Nat):Int)=(((a*b)%2^k.bits:Nat):Int):=by
  unfold Ld
  rw[←Int.natCast_mul,Em hs]
theorem X1{k:IntKind}{a b:Nat}(hs:k.signed=false)(h:b≤a)(h2:a<2^k.bits):Hk k ((a:Nat):Int) ((b:Nat):Int)=((a-b:Nat):Int):=by
  unfold Hk
  rw[←Int.natCast_sub h,Em hs,Nat.mod_eq_of_lt (by omega)]
theorem Gg{k:IntKind}(hs:k.signed=false)(a c:Nat)(hc:c≤k.bits):Hw k ((a:Nat):Int) ((c:Nat):Int)=(((a*2^c)%2^k.bits:Nat):Int):=by
  unfold Hw
  rw[Int.toNat_natCast,Nat.min_eq_left hc,show((a:Int)*2^c)=((a*2^c:Nat):Int) by push_cast;rfl,Em hs]
theorem C6{k:IntKind}(hs:k.signed=false)(a:Nat):Cg k ((a:Nat):Int)=((a%2^k.bits:Nat):Int):=by
  unfold Cg;exact Em hs a
theorem Ko(m a:Nat):(BitVec.ofInt m ((a:Nat):Int)).toNat=a%2^m:=by
  rw[BitVec.ofInt_natCast,BitVec.toNat_ofNat]
theorem Om{k:IntKind}(hs:k.signed=false){a b:Nat}(ha:a<2^k.bits)(hb:b<2^k.bits):Cn k ((a:Nat):Int) ((b:Nat):Int)=((a&&&b:Nat):Int):=by
  unfold Cn
  rw[BitVec.toNat_and,Ko,Ko,Nat.mod_eq_of_lt ha,Nat.mod_eq_of_lt hb,Em hs,Nat.mod_eq_of_lt (Nat.lt_of_le_of_lt Nat.and_le_left ha)]
theorem Im{k:IntKind}(hs:k.signed=false){a b:Nat}(ha:a<2^k.bits)(hb:b<2^k.bits):bor k ((a:Nat):Int) ((b:Nat):Int)=((a|||b:Nat):Int):=by
  unfold bor
  rw[BitVec.toNat_or,Ko,Ko,Nat.mod_eq_of_lt ha,Nat.mod_eq_of_lt hb,Em hs,Nat.mod_eq_of_lt (Nat.or_lt_two_pow ha hb)]
theorem Zu{k:IntKind}(hs:k.signed=false){a b:Nat}(ha:a<2^k.bits)(hb:b<2^k.bits):Pv k ((a:Nat):Int) ((b:Nat):Int)=((a^^^b:Nat):Int):=by
  unfold Pv
  rw[BitVec.toNat_xor,Ko,Ko,Nat.mod_eq_of_lt ha,Nat.mod_eq_of_lt hb,Em hs,Nat.mod_eq_of_lt (Nat.xor_lt_two_pow ha hb)]
theorem G2{k:IntKind}(hs:k.signed=false){a c:Nat}(ha:a<2^k.bits)(hc:c≤k.bits)(m:Nat)(hm:m=2^c-1):Cn k ((a:Nat):Int) ((m:Nat):Int)=((a%2^c:Nat):Int):=by
  subst hm
  rw[Om hs ha (by have:=Nat.pow_le_pow_right (n:=2) (by decide) hc;have:=Nat.two_pow_pos c;omega),Nat.and_two_pow_sub_one_eq_mod]
theorem Hb{k:IntKind}(hs:k.signed=false){a:Nat}(ha:a<2^k.bits)(m:Nat)(hm:m=2^k.bits-1):Pv k ((m:Nat):Int) ((a:Nat):Int)=((m-a:Nat):Int):=by
  subst hm
  rw[Zu hs (by have:=Nat.two_pow_pos k.bits;omega) ha]
  congr 1
  apply Nat.eq_of_testBit_eq
  intro i
  rw[Nat.testBit_xor,Nat.testBit_two_pow_sub_one,Nat.sub_sub,Nat.add_comm 1 a,Nat.testBit_two_pow_sub_succ ha]
  by_cases hi:i<k.bits
  · simp[hi]
  · have:a.testBit i=false:=Nat.testBit_lt_two_pow (Nat.lt_of_lt_of_le ha (Nat.pow_le_pow_right (by decide) (by omega)))
    simp[hi,this]
theorem U4{a b c:Nat}(h:b<2^c):a*2^c|||b=a*2^c+b:=by
  rw[←Nat.shiftLeft_eq,←Nat.shiftLeft_add_eq_or_of_lt h]
theorem Mem.push{w0 w:World}{M:List Nat}{LL:List (List Blk)}(h:Mem w0 M LL w):Mem w0 M ([]::LL) w:=h
theorem Adn{r:Option Nat}{P:Program}{ops:Array Oper}{K:Act→World→Prop}{l:List Oper}{n:Nat}{ds:List Deferred}{f:Nat→Value}{w0:World}{M:List Nat}{LL:List (List Blk)}(h:Wl r P ops K l n ds f (Mem w0 M ([]::LL))):Wl r P ops K l n ds f (Mem w0 M LL):=Wl.conseq (fun _ h=>h) h
section
variable {w0 w:World}{M:List Nat}{LL:List (List Blk)}{a a' a'':Option Addr}
theorem At.mem'{cs:List Value}(h:At w0 a cs)(hm:Mem w0 M LL w)(hM:0<cs.length→(a.getD default).block∉M):At w a cs:=h.of_block fun h0=>Mem0.same hm _ (h.lt h0) (hM h0)
theorem At.ne{α:Type}{g:α→Value}{xs:List α}{cs:List Value}{b:Nat}{t:TypeId}{fz:Nat×Nat}(h:At w a (mc g xs))(hb:w.heap[b]? =some (.cells cs.toArray t fz))(hd: ∀v∈cs,∀x,v≠g x)(h0:0<(mc g xs).length):(a.getD default).block≠b:=fun e=>by
  rw[Da]at h0
  have hx:(mc g xs)[0]? =some (g xs[0]):=by simp[mc,h0]
  have h1:=h.cell 0 _ hx
  unfold World.cell? at h1
  rw[Md,e,hb]at h1
  simp only at h1
  split at h1
  · cases h1
  · have h2:cs[((a.getD default).add 0).off]? =some (g xs[0]):=by simpa using h1
    exact hd _ (List.mem_of_getElem? h2) _ rfl
def View(a':Option Addr)(zs:List UInt8)(a:Option Addr)(ys:List UInt8):Prop:= ∀w,At w a (Ci ys)→At w a' (Ci zs)
theorem View.refl(a:Option Addr)(ys:List UInt8):View a ys a ys:=fun _ h=>h
theorem View.trans{zs ys xs:List UInt8}(h:View a'' zs a' ys)(k:View a' ys a xs):View a'' zs a xs:=fun w hw=>h w (k w hw)
theorem View.nil(a' a:Option Addr)(ys:List UInt8):View a' [] a ys:=fun w _=>At.nil w a'
theorem View.drop{ys:List UInt8}(cap k:Nat)(h:ys.length≤cap):View (C8 a cap k 1) (ys.drop k) a ys:=fun w hw=>hw.mdrop cap k h
end
theorem Mem.one{w0 w:World}{M:List Nat}{LL:List (List Blk)}{i:Nat}{s:List Blk}(h:Mem w0 M LL w)(hi:LL[i]? =some s):Mem w (s.map (·.b)) [s] w:=by
  have h1:Mem w0 M ([s]++[]) w:=h.pick [i] (by simp) (by simp[Ct,hi])
  have h2:=h1.local
  simpa using h2
theorem Ahg{w w':World}{v:Value}{M:List Nat}{LL:List (List Blk)}{e:Ending}(h0:Mem w M LL w)(hM: ∀k∈M,k∈LL.flatten.map (·.b))(h:Bj w (fun _:Unit=>True) (fun _=>v) M (fun _=>LL) e w'):Dc w v e w':=by
  obtain⟨_,_,he,hm⟩:=h
  refine⟨he,hm.os,hm.tape,hm.output,hm.size,fun k hk=>?_⟩
  by_cases hkm:k∈M
  · obtain⟨p,hp,rfl⟩:=List.mem_map.1 (hM k hkm)
    rw[Mem0.here hm p hp,Mem0.here h0 p hp]
  · exact Mem0.same hm k hk hkm
abbrev Y7(n:Nat):Value:=.int .u16 ((n:Nat):Int)
theorem On: ∀(n t:Nat) (acc:List UInt8),∃zs:List UInt8,zs.length=acc.length+n∧Extern.BytealgMakeNoZero.digits n t (Ci acc).toArray=(Ci zs).toArray
  |0,t,acc=>⟨acc,rfl,rfl⟩
  |n+1,t,acc=>by
    obtain⟨zs,h1,h2⟩:=On n (t/256) (acc++[UInt8.ofNat (t%256)])
    refine⟨zs,by rw[h1];simp;omega,?_⟩
    rw[Extern.BytealgMakeNoZero.digits,←h2]
    congr 1
    apply Array.ext'
    simp only[Array.toList_push,Ci,mc,List.map_append,List.map_cons,List.map_nil]
    congr 1
    unfold b8
    rw[UInt8.toNat_ofNat',Nat.mod_eq_of_lt (show t%256<2^8 by have:=Nat.mod_lt t (show 0<256 by decide);simpa using this)]
    rfl
structure MZ where
  b:Nat
  zs:List UInt8
theorem Pw{P:Program}{n:Nat}{f:Nat→Value}{o:Oper}{d:Nat}{w0:World}{M:List Nat}{LL:List (List Blk)}{ps:Array TypeId}{t e:TypeId}{k fid:Nat}{x y:Operand}{ats:Array TypeId}{fn:Func}(hd:o.dst=some d)(hop:o.op=.call {callee:=.value x,args:= #[y],argTypes:=ats})(hx:ev n f x=.func (.func fid) #[] #[])(hy:ev n f y=.int .i64 ((k:Nat):Int))
    (hfn:P.funcs[fid]? =some fn) (h1':(fn.name== "runtime.NumGoroutine")=false) (h2':fn.body.isNone=true) (h3':Extern.findNext fn=none) (h4':Extern.find fn=some (Extern.BytealgMakeNoZero.makeNoZero ps #[t])) (ht:P.underlying t=some (.slice e)) (hk:k≤70368744177664):
    Ht (β:={x:MZ//k≤x.zs.length∧x.zs.length≤maxLen}) P n (Mem w0 M LL) f o (fun x=>Ft f d (.slice (some ⟨x.1.b,0,none⟩) k x.1.zs.length)) (fun x=>Mem w0 M ([cb x.1.b (Ci x.1.zs) e]::LL)):=fun ds w hS K hK=>by
  have hdef:Extern.BytealgMakeNoZero.makeNoZero ps #[t] #[.int .i64 k]=
      (do
        let .slice elem←underlying t|stuck "bytealg.MakeNoZero: slice type expected"
        if(k:Int)<0||(k:Int)>2^48 then runtimePanic (.error "makeslice: len out of range")
        let cap←choose (.appendCap (k:Int).toNat 0 elem)
        askRoom cap
        let bytes←choose (.extern "internal/bytealg.MakeNoZero.bytes" 0)
        let a←newRow elem (Extern.BytealgMakeNoZero.digits cap bytes #[])
        pure (.slice (some a) (k:Int).toNat cap)):=rfl
  obtain⟨zs,hz,hzs⟩:=On (grownCap w k 0 e) ((Question.extern "internal/bytealg.MakeNoZero.bytes" 0).cut (w.tape (w.drawn+1) (.extern "internal/bytealg.MakeNoZero.bytes" 0))) []
  have hz':zs.length=grownCap w k 0 e:=by simpa using hz
  have hrun:(Extern.BytealgMakeNoZero.makeNoZero ps #[t] #[.int .i64 ((k:Nat):Int)]).run P w=.ok (.slice (some ⟨w.heap.size,0,none⟩) k zs.length) (w.drew.drew.alloc (.cells (Ci zs).toArray e)):=by
    rw[hdef]
    have h1: ¬(k:Int)<0:=by omega
    have h2: ¬(281474976710656:Int)<(k:Int):=by omega
    have hz2:Extern.BytealgMakeNoZero.digits (grownCap w k 0 e) ((Question.extern "internal/bytealg.MakeNoZero.bytes" 0).cut (w.tape (w.drawn+1) (.extern "internal/bytealg.MakeNoZero.bytes" 0))) #[]=(Ci zs).toArray:=hzs
    simp[run_underlying ht,h1,h2,Question.forced,newRow,hz',←hz2,grownCap]
  have hcf:(callFunc fid #[.int .i64 ((k:Nat):Int)]).run P w=.ok (.value (.slice (some ⟨w.heap.size,0,none⟩) k zs.length)) (w.drew.drew.alloc (.cells (Ci zs).toArray e)):=by
    rw[run_callFunc_extern hfn h1' h2' h3' h4',hrun]
    rfl
  have hex:(execOp (ev n f) o).run P w=.ok (.value (.slice (some ⟨w.heap.size,0,none⟩) k zs.length)) (w.drew.drew.alloc (.cells (Ci zs).toArray e)):=by
    have hcf':=hcf
    simp only[execOp,hop,resolve,hx,hy,Sem.run_bind,Sem.run_pure,Result.andThen_ok,List.map_toArray,List.map_cons,List.map_nil]
    simp[Deferred.ofValue,invoke,hcf']
  unfold Oper.wp
  rw[C1,hex]
  simp only[Oper.upon,hd,De]
  have hm:=((hS.drawn (w.drawn+1)).drawn (w.drawn+1+1)).alloc (Ci zs) e
  refine hK ⟨⟨w.heap.size,zs⟩,?_,?_⟩ _ hm
  · show k≤zs.length
    rw[hz'];exact grownCap_ge w k 0 e
  · show zs.length≤maxLen
    rw[hz'];exact grownCap_le_maxLen w k 0 e (by simp only[maxLen];omega)
end Go.Proofs.YtmonlaoaengfdaaGreatDoor.Base
namespace Go.Proofs.YtmonlaoaengfdaaGreatDoor.Base
open Go.RowKit
inductive Leaf where
  |int (k:IntKind)
  |bool
  |string
  |slice (e:TypeId)
def F2{α β:Type}(R:α→β→Prop):List α→List β→Prop
  | [],[]=>True
  |a::as,b::bs=>R a b∧F2 R as bs
  |_,_=>False
theorem F2.append{α β:Type}{R:α→β→Prop}: ∀{a:List α} {b:List β} {a':List α} {b':List β},F2 R a b→F2 R a' b'→F2 R (a++a') (b++b')
  | [],[],_,_,_,h=>h
  |_::_,_::_,_,_,h1,h2=>⟨h1.1,F2.append h1.2 h2⟩
  | [],_::_,_,_,h,_=>h.elim
  |_::_,[],_,_,h,_=>h.elim
def Hc(r:TypeId→Option (List Leaf))(P:Program)(total:Nat):List Field→Nat→Option (List Leaf)
  | [],off=>if off=total then some []else none
  |f::fs,off=>if f.offset=off then(r f.type).bind fun a=>if a.length=P.cellsOf f.type then(Hc r P total fs (off+a.length)).map (a++ ·)else none else none
def flat(P:Program):Nat→TypeId→Option (List Leaf)
  |0,_=>none
  |k+1,t=>match P.underlying t with
    |some .bool=>some [.bool]
    |some (.int k)=>some [.int k]
    |some .string=>some [.string]
    |some (.slice e)=>some [.slice e]
    |some (.struct fs)=>Hc (flat P k) P (P.cellsOf t) fs.toList 0
    |some (.array n e)=>(flat P k e).bind fun a=>if a.length=P.cellsOf e∧n*a.length=P.cellsOf t then some (List.replicate n a).flatten else none
    |_=>none
section
variable {H:Type}(enc:TypeId×Value→H)(P:Program)(w:World)(base:Nat)(spare:Nat→Bool)(held:Bool)
def In:Leaf→Value→Prop
  | .int k,v=> ∃n,v=.int k n∧(Lit.int k n).wf=true
  | .bool,v=> ∃b,v=.bool b
  | .string,v=> ∃s:ByteArray,v=.string s∧s.size≤maxLen
  | .slice e,v=> ∃a len cap,v=.slice a len cap∧len≤cap∧cap≤maxLen∧(0<cap→ ∃adr,a=some adr)∧ ∀adr,a=some adr→ ∀i,i<len→
      ∃cs m x,w.cells? base (adr.add (i*P.cellsOf e)) (P.cellsOf e)=some cs∧DataW.trod enc P w base spare held m e cs=some x
variable {enc P w base spare held}
theorem P3{r:TypeId→Option (List Leaf)}{total m:Nat}{cs:List Value}(hr: ∀t ls,r t=some ls→ ∀cs x,DataW.trod enc P w base spare held m t cs=some x→F2 (In enc P w base spare held) ls cs)
    (hc:cs.length=total): ∀(fs:List Field) (off:Nat) (ls:List Leaf),Hc r P total fs off=some ls→
    (∀f∈fs,∃x,DataW.trod enc P w base spare held m f.type ((cs.drop f.offset).take (P.cellsOf f.type))=some x)→F2 (In enc P w base spare held) ls (cs.drop off)
  | [],off,ls,h,_=>by
    simp only[Hc]at h
    split at h
    · rename_i ho
      obtain rfl:=Option.some.inj h
      rw[ho,←hc,List.drop_length]
      trivial
    · cases h
  |f::fs,off,ls,h,hx=>by
    simp only[Hc]at h
    split at h
    · rename_i ho
      obtain⟨a,ha,h⟩:=Option.bind_eq_some_iff.1 h
      split at h
      · rename_i hl
        obtain⟨ls',h',rfl⟩:=Option.map_eq_some_iff.1 h
        obtain⟨x,hxx⟩:=hx f (List.mem_cons_self ..)
        have h1:=hr f.type a ha _ x hxx
        have h2:=P3 hr hc fs _ ls' h' (fun g hg=>hx g (List.mem_cons_of_mem _ hg))
        rw[ho,←hl]at h1
        have e:cs.drop off=(cs.drop off).take a.length++cs.drop (off+a.length):=by
          rw[←List.drop_drop,List.take_append_drop]
        rw[e]
        exact h1.append h2
      · cases h
    · cases h
theorem V8{a:List Leaf}{c m n:Nat}{e:TypeId}{cs:List Value}(hl:a.length=c)(hc:cs.length=n*c)
    (hx: ∀i,i<n→ ∃x,DataW.trod enc P w base spare held m e ((cs.drop (i*c)).take c)=some x)
    (hr: ∀cs x,DataW.trod enc P w base spare held m e cs=some x→F2 (In enc P w base spare held) a cs): ∀(k i:Nat),i+k=n→F2 (In enc P w base spare held) (List.replicate k a).flatten (cs.drop (i*c))
  |0,i,h=>by
    have:cs.drop (i*c)=[]:=by
      apply List.drop_eq_nil_of_le
      rw[hc,show i=n by omega]
      exact Nat.le_refl _
    rw[this]
    simp[F2]
  |k+1,i,h=>by
    obtain⟨x,hxx⟩:=hx i (by omega)
    have h1:=hr _ x hxx
    have h2:=V8 hl hc hx hr k (i+1) (by omega)
    have e':cs.drop (i*c)=(cs.drop (i*c)).take c++cs.drop ((i+1)*c):=by
      rw[Nat.succ_mul,←List.drop_drop,List.take_append_drop]
    rw[e',List.replicate_succ,List.flatten_cons]
    exact h1.append h2
theorem Ju: ∀(k:Nat) (t:TypeId) (ls:List Leaf),flat P k t=some ls→ ∀(m:Nat) (cs:List Value) (x:DataW H×List MemPlace),DataW.trod enc P w base spare held m t cs=some x→F2 (In enc P w base spare held) ls cs
  |0,_,_,h=>by simp[flat]at h
  |k+1,t,ls,h=>by
    intro m cs x hx
    simp only[flat]at h
    split at h
    · rename_i hu
      obtain rfl:=Option.some.inj h
      obtain⟨b,rfl,_⟩:=DataW.trod_bool hu hx
      exact⟨⟨b,rfl⟩,trivial⟩
    · rename_i hu
      obtain rfl:=Option.some.inj h
      obtain⟨n,rfl,_,hw⟩:=DataW.trod_int hu hx
      exact⟨⟨n,rfl,hw⟩,trivial⟩
    · rename_i hu
      obtain rfl:=Option.some.inj h
      obtain⟨s,rfl,_,hs⟩:=DataW.trod_string hu hx
      exact⟨⟨s,rfl,hs⟩,trivial⟩
    · rename_i e hu
      obtain rfl:=Option.some.inj h
      rcases DataW.trod_slice hu hx with⟨rfl,_⟩|⟨a,len,cap,elems,rest,n,_,rfl,_,hb,hl,hm,hel,hall,_,_⟩
      · exact⟨⟨none,0,0,rfl,Nat.le_refl _,Nat.zero_le _,fun h=>absurd h (Nat.lt_irrefl _),fun _ h=>by cases h⟩,trivial⟩
      · refine⟨⟨some a,len,cap,rfl,hl,hm,fun _=>⟨a,rfl⟩,fun adr had i hi=>?_⟩,trivial⟩
        obtain rfl:=Option.some.inj had
        have h1:=hall i hi
        rw[List.getElem?_eq_getElem (by omega)]at h1
        obtain⟨cs',h2,h3⟩:=Option.bind_eq_some_iff.1 h1
        exact⟨cs',n,_,h2,h3⟩
    · rename_i fs hu
      obtain⟨xs,n,_,_,hc,hlen,hall⟩:=DataW.trod_struct hu hx
      have:=P3 (enc:=enc) (w:=w) (base:=base) (spare:=spare) (held:=held) (m:=n) (cs:=cs) (fun t ls h cs x hx=>Ju k t ls h n cs x hx) hc fs.toList 0 ls h (fun f hf=>by
        obtain⟨i,hi,rfl⟩:=List.getElem_of_mem hf
        have h1:=hall i fs.toList[i] (by simp at hi⊢)
        simp only[Array.length_toList]at hi
        rw[List.getElem?_eq_getElem (by omega)]at h1
        exact⟨_,h1⟩)
      simpa using this
    · rename_i n e hu
      obtain⟨xs,m',_,_,hc,hlen,hall⟩:=DataW.trod_array hu hx
      obtain⟨a,ha,h⟩:=Option.bind_eq_some_iff.1 h
      split at h
      · rename_i hl
        obtain rfl:=Option.some.inj h
        have:=V8 (enc:=enc) (P:=P) (w:=w) (base:=base) (spare:=spare) (held:=held) (a:=a) (c:=P.cellsOf e) (m:=m') (n:=n) (e:=e) (cs:=cs) hl.1 (by rw[hc,←hl.2,hl.1]) (fun i hi=>by
          have h1:=hall i hi
          rw[List.getElem?_eq_getElem (by omega)]at h1
          exact⟨_,h1⟩) (fun cs x hx=>Ju k e a ha m' cs x hx) n 0 (by omega)
        simpa using this
      · cases h
    · cases h
end
theorem R0{α β:Type}{R:α→β→Prop}(l:List β):F2 R [] l↔l=[]:=by cases l<;>simp[F2]
theorem Nq{α β:Type}{R:α→β→Prop}(a:α)(as:List α)(l:List β):F2 R (a::as) l↔ ∃b bs,l=b::bs∧R a b∧F2 R as bs:=by
  cases l with
  |nil=>simp[F2]
  |cons b bs=>
    refine⟨fun h=>⟨b,bs,rfl,h.1,h.2⟩,?_⟩
    rintro⟨b',bs',e,h1,h2⟩
    obtain⟨rfl,rfl⟩:=List.cons.inj e
    exact⟨h1,h2⟩
theorem Zv{α β:Type}{R:α→β→Prop}{a:α}{as:List α}{l:List β}(h:F2 R (a::as) l): ∃b bs,l=b::bs∧R a b∧F2 R as bs:=(Nq a as l).1 h
theorem Ahh{α β:Type}{R:α→β→Prop}{l:List β}(h:F2 R [] l):l=[]:=(R0 l).1 h
theorem Akz{H:Type}{enc:TypeId×Value→H}{P:Program}{w:World}{spare:Nat→Bool}{held:Bool}{e:TypeId}{a:Option Addr}{len cap:Nat}{α:Type} [Inhabited α]{g:α→Value}{p:α→Prop}(hsz:P.cellsOf e=1)
    (hlc:len≤cap) (hs:0<cap→ ∃adr,a=some adr)
    (h: ∀adr,a=some adr→ ∀i,i<len→ ∃cs m x,w.cells? 0 (adr.add (i*P.cellsOf e)) (P.cellsOf e)=some cs∧DataW.trod enc P w 0 spare held m e cs=some x)
    (hg: ∀m cs x,DataW.trod enc P w 0 spare held m e cs=some x→ ∃y,cs=[g y]∧p y): ∃xs:List α,xs.length=len∧At w a (mc g xs)∧ ∀x∈xs,p x:=by
  by_cases h0:0<len
  · obtain⟨adr,rfl⟩:=hs (by omega)
    obtain⟨X,hX⟩:=Deep.choose_lt (α:=α) (p:=fun i y=>w.cells? 0 (adr.add (i*1)) 1=some [g y]∧p y) (n:=len) (fun i hi=>by
      obtain⟨cs,m,x,h1,h2⟩:=h adr rfl i hi
      obtain⟨y,rfl,hp⟩:=hg m cs x h2
      exact⟨y,by rw[hsz]at h1;exact h1,hp⟩)
    refine⟨(List.range len).map X,by simp,⟨fun _=>rfl,fun q v hq=>?_⟩,fun x hx=>?_⟩
    · have hql:q<len:=by have:=(List.getElem?_eq_some_iff.1 hq).1;simpa [mc]using this
      obtain⟨_,hl,hc⟩:=World.cells?_some (hX q hql).1
      have h1:=hc 0 (by decide)
      simp only[Option.getD_some]
      rw[Nat.mul_one,Lj]at h1
      rw[h1]
      simp[mc,hql]at hq
      simpa using hq
    · obtain⟨i,hi,rfl⟩:=List.mem_map.1 hx
      exact(hX i (by simpa using hi)).2
  · obtain rfl:len=0:=by omega
    exact⟨[],rfl,At.nil _ _,fun x hx=>by cases hx⟩
theorem Ak0{n:Int}(h:(Lit.int .u8 n).wf=true):Value.int .u8 n=b8 (UInt8.ofNat n.toNat):=by
  have h1:=bounds_u8 h
  unfold b8
  rw[UInt8.toNat_ofNat',Nat.mod_eq_of_lt (by omega),show((n.toNat:Nat):Int)=n by omega]
end Go.Proofs.YtmonlaoaengfdaaGreatDoor.Base
namespace Go.Proofs.YtmonlaoaengfdaaGreatDoor.Base
open Go.RowKit
def YN(P:Program)(w:World)(T:Bool→World→Prop):Next→Prop
  | .enter k a=>Calls P k a w (fun e w'=> ∃b,e=.returned (.bool b)∧T b w')
  | .round l fn tmps assign body=>RoundIn (Cy none) 0 P l fn tmps assign body w (fun e w'=> ∃b,e=.returned (.bool b)∧T b w')
  |_=>False
def P4(yv:Value)(args:Array Value):Sem Next:=do
  let d←Deferred.ofValue yv args
  invoke d.target d.args
def Yld(P:Program)(yv:Value)(args:Array Value)(S:World→Prop)(T:Bool→World→Prop):Prop:=
  ∀w,S w→ ∃nx,(P4 yv args).run P w=.ok nx w∧YN P w T nx
theorem Tn{r:Option Nat}{P:Program}{l:Nat}{f:FuncId}{tmps:Array Value}{assign body:Code}{w:World}{R:Ending→World→Prop}(h:RoundIn (Cy none) 0 P l f tmps assign body w R):RoundIn (Cy r) 0 P l f tmps assign body w R:=by
  cases r with
  |none=>exact h
  |some q=>exact h
section
variable {σ:Type}{r:Option Nat}{P:Program}{n:Nat}{ds:List Deferred}{f:Nat→Value}{S:World→Prop}{o:Oper}{d:Nat}{w0:World}{M:List Nat}{LL:List (List Blk)}{yv:Value}{args:Array Value}
theorem Ak1{k:FuncId}{lb all:Array Value}{T:Bool→World→Prop}(hk: ∀w,(P4 (.func (.func k) #[] lb) args).run P w=.ok (.enter k all) w)
    (h: ∀w,S w→Calls P k all w (fun e w'=> ∃b,e=.returned (.bool b)∧T b w')):Yld P (.func (.func k) #[] lb) args S T:=fun w hw=>⟨_,hk w,h w hw⟩
theorem Lm{args':Array Value}{T:Bool→World→Prop}(e:args=args')(h:Yld P yv args' S T):Yld P yv args S T:=by subst e;exact h
theorem Jv{LL':List (List Blk)}{G:World→Prop}(is:List Nat)(hd:is.Nodup)(e:Ct LL is=LL')(h: ∀w,Mem w0 M LL' w→G w): ∀w,Mem w0 M LL w→G w:=fun w hw=>h w (hw.pick is hd e)
theorem Io{Φ:Bool→σ→Prop}{Lf:σ→List (List Blk)}(hn:I0 o=true)(hd:o.dst=some d)(h: ∀w,(execOp (ev n f) o).run P w=(P4 yv args).run P w)
    (hy:Yld P yv args S (fun b w=> ∃s,Φ b s∧Mem w0 M (Lf s) w)):
    HtIn (β:={g:Bool×σ//Φ g.1 g.2}) r P n S f o (fun g=>Ft f d (.bool g.1.1)) (fun g=>Mem w0 M (Lf g.1.2)):=fun ds w hS K hK=>by
  refine⟨fun _ _=>trivial,?_⟩
  have e:o.semAt (Cy r).round (Fr n ds f).eval=execOp (Fr n ds f).eval o:=Oper.semAt_eq _ _ _ (Of hn)
  rw[e,C1,h w]
  obtain⟨nx,hx,hn⟩:=hy w hS
  rw[hx]
  cases nx<;>simp only[YN]at hn<;>try exact hn.elim
  case enter k a=>
    refine⟨fun h=>(by cases h),G6 (Calls.mono hn ?_)⟩
    rintro e w' ⟨b,rfl,s,hΦ,hm⟩
    simp only[hd,De]
    exact hK ⟨(b,s),hΦ⟩ w' hm
  case round l fn tmps assign body=>
    refine⟨fun h=>(by cases h),(Tn hn).mono ?_⟩
    rintro e w' ⟨b,rfl,s,hΦ,hm⟩
    simp only[hd,De]
    exact hK ⟨(b,s),hΦ⟩ w' hm
def Iter(P:Program)(k:FuncId)(lb:Array Value)(enc:Nat→List Value)(N:Nat)(Li:List (List Blk))(w1:World)(M:List Nat):Prop:=
  ∀(τ:Type) (yv:Value) (U:τ→List Blk) (Φ:Nat→τ→Prop) (Ψ:τ→Prop) (s0:τ),
    (∀i s (R:List (List Blk)),i<N→Φ i s→Yld P yv (enc i).toArray (Mem w1 M (U s::R)) (fun b w=> ∃s',(bif b then Φ (i+1) s' else Ψ s')∧Mem w1 M (U s'::R) w))→
    Φ 0 s0→Mem w1 M (U s0::Li) w1→Calls P k (#[yv]++lb) w1 (Bj w1 (fun s=>Φ N s∨Ψ s) (fun _=>.tuple #[]) M (fun s=>U s::Li))
theorem Mem.flat{w:World}{LL':List (List Blk)}(e:LL.flatten=LL'.flatten)(h:Mem w0 M LL w):Mem w0 M LL' w:=by
  unfold Mem at h⊢;rwa[←e]
theorem Mem.perm{w:World}{LL':List (List Blk)}(p:LL'.flatten.Perm LL.flatten)(h:Mem w0 M LL w):Mem w0 M LL' w:=
  Mem0.sub h (fun q hq=>p.mem_iff.1 hq) ((p.map (·.b)).nodup_iff.2 (Mem0.nodup h))
abbrev dB(D:Nat):List Blk:=[⟨D,.deferred (some [])⟩]
abbrev lB(l:Nat)(o:Loop):List Blk:=[⟨l,.loop o⟩]
abbrev mk(D:Nat):Deferred:={target:=.collected D,args:= #[]}
def RQ(u:World)(Mu:List Nat)(D l:Nat)(ob:Loop)(Lu:σ→List (List Blk))(Φ:σ→Prop)(Ψ:Code→σ→Prop):Exit→Act→World→Prop
  | .normal,_,w=> ∃s,Φ s∧Mem u Mu (dB D::lB l ob::Lu s) w
  | .ret,_,w=> ∃s,Ψ .ret s∧Mem u Mu (dB D::lB l ob::Lu s) w
  | .exit id,_,w=> ∃s,Ψ (.exit id) s∧Mem u Mu (dB D::lB l ob::Lu s) w
  |_,_,_=>False
theorem Jw: ∀(l:List (Nat×Value)) (f:Nat→Value),l.foldl (fun t (p:Nat×Value)=>t.setIfInBounds p.1 p.2) (Fr n ds f).tmps=(Fr n [] (l.foldl (fun f p=>Ft f p.1 p.2) f)).tmps
  | [],f=>rfl
  |(p,v)::l,f=>by
    have e:(Fr n ds f).tmps.setIfInBounds p v=(Fr n ds (Ft f p v)).tmps:=congrArg Act.tmps (De n ds f p v)
    simp only[List.foldl_cons]
    rw[e]
    exact Jw l _
theorem C2{w:World}{a:Option Addr}{cs:List Value}{L R:List (List Blk)}(h:At w0 a cs)(hM:0<cs.length→(a.getD default).block∉M)(hm:Mem w0 M (L++R) w):
    At w a cs∧(0<cs.length→(a.getD default).block∉L.flatten.map (·.b)):=
  ⟨h.mem' hm hM,fun h0 hx=>by
    obtain⟨p,hp,e⟩:=List.mem_map.1 hx
    have h1:=h.lt h0
    exact hM h0 (e▸Mem0.old hm p (by rw[List.flatten_append];exact List.mem_append_left _ hp) (by rw[e];exact h1))⟩
theorem Ado{Q:Exit→Act→World→Prop}{g:Operand}{ps:Array Tmp}{assign body:Code}{k:FuncId}{lb:Array Value}{enc:Nat→List Value}{N:Nat}{Lu:σ→List (List Blk)}{Li Lk:List (List Blk)}
    (is js ks:List Nat) (s0:σ) (Φ:Nat→σ→Prop) (Ψ:Code→σ→Prop) (psl:List Nat)
    (hg:ev n f g=.func (.func k) #[] lb) (hk: ∀x w,(callFunc k x).run P w=.ok (.enter k x) w)
    (hnd:(is++js++ks).Nodup) (hi:Ct LL is=Lu s0) (hj:Ct LL js=Li) (hkk:Ct LL ks=Lk)
    (hps:ps.toList=psl) (henc: ∀i,(enc i).length=psl.length) (h0:Φ 0 s0)
    (hit: ∀(D l:Nat) (ob:Loop) (w1:World),Mem w0 M (((dB D::lB l ob::Lu s0)++Li)++Lk) w1→Iter P k lb enc N Li w1 (((dB D::lB l ob::Lu s0)++Li).flatten.map (·.b)))
    (hbody: ∀(D l:Nat) (ob ob':Loop) (i:Nat) (s:σ) (u:World) (Mu:List Nat) (J:Act→World→Prop),i<N→Φ i s→
      (∀a cs,At w0 a cs→(0<cs.length→(a.getD default).block∉M)→At u a cs∧(0<cs.length→(a.getD default).block∉Mu))→
      (∀f' L',W (some l) P (RQ u Mu D l ob' Lu (Φ (i+1)) Ψ) body n [] f' (Mem u Mu (dB D::lB l ob'::L'))→ ∀w',Mem u Mu (dB D::lB l ob::L') w'→J (Fr n [] f') w')→
      W (some l) P (Exit.then J D9) assign n [] ((psl.zip (enc i)).foldl (fun f p=>Ft f p.1 p.2) f) (Mem u Mu (dB D::lB l ob::Lu s)))
    (hdone: ∀(D l:Nat) (ob:Loop) (s:σ),Φ N s→ ∀w,Mem w0 M (((dB D::lB l ob::Lu s)++Li)++Lk) w→Q .normal (Fr n (mk D::ds) f) w)
    (hstop: ∀(D l:Nat) (ob:Loop) (c:Code) (s:σ),Ψ c s→W none P Q c n (mk D::ds) f (Mem w0 M (((dB D::lB l ob::Lu s)++Li)++Lk))):
    W none P Q (.rangeFunc g ps assign body) n ds f (Mem w0 M LL):=fun w hS=>by
  have hS1:Mem w0 M (Lu s0++Li++Lk) w:=hS.pick (is++js++ks) hnd (by rw[←hi,←hj,←hkk];simp[Ct])
  refine wpIn_rangeFunc ?_
  intro fn _
  obtain⟨rec,hrec⟩: ∃rec:LoopState→Option Code→Loop,rec=fun st pe=>{state:=st,pending:=pe,fn,tmps:=(Fr n ds f).tmps,params:=ps,assign,body,defers:=w.heap.size}:=⟨_,rfl⟩
  obtain⟨D,hD⟩: ∃D,D=w.heap.size:=⟨_,rfl⟩
  obtain⟨l,hl⟩: ∃l,l=w.heap.size+1:=⟨_,rfl⟩
  obtain⟨w1,hw1⟩: ∃w1,(w.alloc (.deferred (some []))).alloc (.loop (rec .ready none))=w1:=⟨_,rfl⟩
  have hm:Mem w0 M (((dB D::lB l (rec .ready none)::Lu s0)++Li)++Lk) w1:=by
    have h1:=(hS1.allocO (.deferred (some []))).allocO (.loop (rec .ready none))
    rw[←hw1]
    refine Mem.perm ?_ h1
    simp only[List.flatten_append,List.flatten_cons,dB,lB,hD,hl,List.cons_append,List.nil_append,List.append_assoc,Array.size_push]
    exact List.Perm.swap _ _ _
  let U:σ×Option Code→List Blk:=fun s=>dB D++lB l (rec (if s.2.isNone then .ready else .done) s.2)++(Lu s.1).flatten
  have hU: ∀(s:σ) (pe:Option Code) (R:List (List Blk)),(U (s,pe)::R).flatten=((dB D::lB l (rec (if pe.isNone then .ready else .done) pe)::Lu s)++R).flatten:=fun s pe R=>by
    simp[U,List.flatten_append]
  obtain⟨M1,hM1⟩: ∃M1,M1=((dB D::lB l (rec .ready none)::Lu s0)++Li).flatten.map (·.b):=⟨_,rfl⟩
  have hloc:Mem w1 M1 (U (s0,none)::Li) w1:=by
    rw[hM1];exact(Mem.local hm).flat (hU s0 none Li).symm
  have hback: ∀{LL':List (List Blk)} {w':World},Mem w1 M1 LL' w'→Mem w0 M (LL'++Lk) w':=fun h=>Mem.back hm (by rw[hM1]at h;exact h)
  refine⟨l,[mk D],w1,{target:=.fn (.func k) lb,args:= #[.func (.yield l) #[] #[]]},w1,k,#[.func (.yield l) #[] #[]]++lb,w1,?_,?_,fun _ _=>trivial,?_,fun h=>(by cases h),?_⟩
  · rw[←hw1,hrec,hl];simp only[mk,hD];exact run_enterLoop_outer _ _ _ _ _
  · simp only[resolve,C1,hg]
    simp[go_sem];rfl
  · simp[invoke,go_sem,hk]
  have hI:=hit D l _ w1 hm
  rw[←hM1]at hI
  refine G6 (Calls.mono (hI (σ×Option Code) (.func (.yield l) #[] #[]) U (fun i s=>Φ i s.1∧s.2=none) (fun s=> ∃c,s.2=some c∧Ψ c s.1) (s0,none) ?_ ⟨h0,rfl⟩ hloc) ?_)
  · rintro i ⟨s,pe⟩ R hiN ⟨hΦ,hpe⟩ u hu
    simp only at hpe hΦ;subst hpe
    have hul:u.heap[l]? =some (.loop (rec .ready none)):=hu.at (i:=0) (j:=1) (p:=⟨l,_⟩) rfl rfl
    obtain⟨Mu,hMu⟩: ∃Mu,Mu=(U (s,none)).map (·.b):=⟨_,rfl⟩
    have hloc2:Mem u Mu (dB D::lB l (rec .ready none)::Lu s) u:=by
      have h1:Mem u Mu [U (s,none)] u:=by rw[hMu];exact hu.one (i:=0) rfl
      exact h1.flat (by have:=hU s none [];simpa using this)
    have hback2: ∀{s':σ} {pe:Option Code} {w':World},Mem u Mu (dB D::lB l (rec (if pe.isNone then .ready else .done) pe)::Lu s') w'→Mem w1 M1 (U (s',pe)::R) w':=fun {s' pe w'} h=>by
      have h1:Mem u ([U (s,none)].flatten.map (·.b)) [U (s',pe)] w':=by
        simp only[List.flatten_cons,List.flatten_nil,List.append_nil];rw[←hMu]
        exact h.flat (by have:=hU s' pe [];simpa using this.symm)
      exact Mem.back (LL:=[U (s,none)]) (R:=R) hu h1
    refine⟨.round l fn ((ps.zip (enc i).toArray).foldl (fun t (p:Nat×Value)=>t.setIfInBounds p.1 p.2) (Fr n ds f).tmps) assign body,?_,?_⟩
    · have:=run_yield (P:=P) (args:=(enc i).toArray) hul (by rw[hrec];simp only[List.size_toArray];rw[henc,←hps];simp)
      rw[hrec]at this
      simp only[P4,Deferred.ofValue,Sem.run_bind]
      simp[go_sem,invoke,this]
    refine roundIn_of_wpIn (F:=Cy none) trivial ?_
    have et:(ps.zip (enc i).toArray).foldl (fun t (p:Nat×Value)=>t.setIfInBounds p.1 p.2) (Fr n ds f).tmps=(Fr n [] ((psl.zip (enc i)).foldl (fun f p=>Ft f p.1 p.2) f)).tmps:=by
      rw[←Jw (ds:=ds),←hps]
      rw[←Array.foldl_toList,Array.toList_zip]
    rw[et]
    refine hbody D l (rec .ready none) (rec .busy none) i s u Mu _ hiN hΦ ?_ ?_ u hloc2
    · intro a cs hat hne
      have h1:Mem w0 M ((U (s,none)::R)++Lk) u:=hback hu
      have h2:=C2 (L:=[U (s,none)]) (R:=R++Lk) hat hne (by simpa using h1)
      rw[hMu];simpa using h2
    intro f' L' hW w' hm'
    have hl':w'.heap[l]? =some (.loop (rec .ready none)):=hm'.at (i:=1) (j:=0) (p:=⟨l,_⟩) rfl rfl
    have hlt':=(Array.getElem?_eq_some_iff.1 hl').1
    refine⟨w'.putObj l (.loop (rec .busy none)),?_,?_⟩
    · have:=run_beginRound (P:=P) hl' (by rw[hrec]);rw[this,hrec]
    have hm2:Mem u Mu (dB D::lB l (rec .busy none)::L') (w'.putObj l (.loop (rec .busy none))):=
      hm'.putO (s:=lB l (rec .ready none)) (i:=1) (j:=0) rfl rfl rfl rfl rfl (by simp) (fun k _ hk=>World.putObj_heap_other hk) (World.putObj_heap_same hlt')
    refine wpIn_mono (hW _ hm2) ?_
    have fin: ∀(jump:Option Code) (s':σ) (w3:World),Mem u Mu (dB D::lB l (rec .busy none)::Lu s') w3→
        (Instr.endRound l jump).run P w3=.ok (.bool jump.isNone) (w3.putObj l (.loop (rec (if jump.isNone then .ready else .done) jump)))∧
        Mem w1 M1 (U (s',jump)::R) (w3.putObj l (.loop (rec (if jump.isNone then .ready else .done) jump))):=fun jump s' w3 h3=>by
      have hl3:w3.heap[l]? =some (.loop (rec .busy none)):=h3.at (i:=1) (j:=0) (p:=⟨l,_⟩) rfl rfl
      have hlt3:=(Array.getElem?_eq_some_iff.1 hl3).1
      refine⟨?_,hback2 ?_⟩
      · have:=run_endRound (P:=P) jump hl3;rw[this,hrec]
      · exact h3.putO (s:=lB l (rec .busy none)) (i:=1) (j:=0) rfl rfl rfl rfl rfl (by simp) (fun k _ hk=>World.putObj_heap_other hk) (World.putObj_heap_same hlt3)
    rintro e a3 w3 hp
    cases e with
    |normal=>
      obtain⟨s',hs',h3⟩:=hp
      obtain⟨hr,h4⟩:=fin none s' w3 h3
      exact⟨_,_,hr,true,rfl,(s',none),⟨hs',rfl⟩,h4⟩
    |ret=>
      obtain⟨s',hs',h3⟩:=hp
      obtain⟨hr,h4⟩:=fin (some .ret) s' w3 h3
      exact⟨_,_,hr,false,rfl,(s',some .ret),⟨_,rfl,hs'⟩,h4⟩
    |exit id=>
      obtain⟨s',hs',h3⟩:=hp
      obtain⟨hr,h4⟩:=fin (some (.exit id)) s' w3 h3
      exact⟨_,_,hr,false,rfl,(s',some (.exit id)),⟨_,rfl,hs'⟩,h4⟩
    |goto t=>exact hp.elim
    |panic ch=>exact hp.elim
    |outgrown=>exact hp.elim
  · rintro e w2 ⟨⟨s,pe⟩,hor,rfl,hm2⟩
    have hl2:w2.heap[l]? =some (.loop (rec (if pe.isNone then .ready else .done) pe)):=hm2.at (i:=0) (j:=1) (p:=⟨l,_⟩) rfl rfl
    have hlt2:=(Array.getElem?_eq_some_iff.1 hl2).1
    have he:(Instr.endLoop l).run P w2=.ok pe (w2.putObj l (.loop (rec .exhausted pe))):=by
      have:=run_endLoop (P:=P) hl2 (by rw[hrec];cases pe<;>simp);rw[this,hrec]
    have h3:Mem w0 M (((dB D::lB l (rec .exhausted pe)::Lu s)++Li)++Lk) (w2.putObj l (.loop (rec .exhausted pe))):=by
      have h1:Mem w0 M (((dB D::lB l (rec (if pe.isNone then .ready else .done) pe)::Lu s)++Li)++Lk) w2:=(hback hm2).flat (by rw[List.flatten_append,hU s pe Li,←List.flatten_append])
      exact h1.putO (s:=lB l (rec (if pe.isNone then .ready else .done) pe)) (i:=1) (j:=0) rfl rfl rfl rfl rfl (by simp) (fun k _ hk=>World.putObj_heap_other hk) (World.putObj_heap_same hlt2)
    refine⟨pe,_,he,?_⟩
    rcases hor with⟨hΦ,hpe⟩|⟨c,hpe,hΨ⟩
    · simp only at hpe hΦ;subst hpe
      exact hdone D l _ s hΦ _ h3
    · simp only at hpe hΨ;subst hpe
      exact hstop D l _ c s hΨ _ h3
theorem RQ.fin{u:World}{Mu:List Nat}{D l:Nat}{ob:Loop}{Lu:σ→List (List Blk)}{Φ:σ→Prop}{Ψ:Code→σ→Prop}{a:Act}{w:World}(s:σ)(h:Φ s)(hm:Mem u Mu (dB D::lB l ob::Lu s) w):RQ u Mu D l ob Lu Φ Ψ .normal a w:=⟨s,h,hm⟩
theorem RQ.ret{u:World}{Mu:List Nat}{D l:Nat}{ob:Loop}{Lu:σ→List (List Blk)}{Φ:σ→Prop}{Ψ:Code→σ→Prop}{a:Act}{w:World}(s:σ)(h:Ψ .ret s)(hm:Mem u Mu (dB D::lB l ob::Lu s) w):RQ u Mu D l ob Lu Φ Ψ .ret a w:=⟨s,h,hm⟩
theorem RQ.exit{id:Nat}{u:World}{Mu:List Nat}{D l:Nat}{ob:Loop}{Lu:σ→List (List Blk)}{Φ:σ→Prop}{Ψ:Code→σ→Prop}{a:Act}{w:World}(s:σ)(h:Ψ (.exit id) s)(hm:Mem u Mu (dB D::lB l ob::Lu s) w):RQ u Mu D l ob Lu Φ Ψ (.exit id) a w:=⟨s,h,hm⟩
theorem Mem.other{w:World}{s:List Blk}{p:Blk}{L':List (List Blk)}(hm:Mem w0 M LL w)(is:List Nat)(q:Nat)(hq:q∉is)(hi:LL[q]? =some s)(hp:p∈s)(e:Ct LL is=L'):p.b∉L'.flatten.map (·.b):=fun h=>by
  subst e
  obtain⟨p',hp',e⟩:=List.mem_map.1 h
  obtain⟨s',hs',hp''⟩:=List.mem_flatten.1 hp'
  obtain⟨i,hi',rfl⟩:=List.mem_map.1 hs'
  have hn:=(Km.1 (Mem0.nodup hm)).2
  have h1:=Oi hn (i:=i) (k:=q) (fun e=>hq (e▸hi'))
  rw[hi]at h1
  exact h1 p' hp'' p hp e
theorem FS.other{w:World}{g:FS}{t:TypeId}{cs:List Value}{sz len:Nat}{L':List (List Blk)}(hm:Mem w0 M LL w)(is:List Nat)(q:Nat)(hq:q∉is)(hi:LL[q]? =some (g.seg t cs))(ok:g.ok sz len)(hl:cs.length=len*sz)(e:Ct LL is=L')(h0:0<cs.length):(g.a.getD default).block∉L'.flatten.map (·.b):=by
  have hn:g.nil=false:=by
    cases hg:g.nil with
    |false=>rfl
    |true=>have:=Aj ok hl hg;subst this;simp at h0
  rw[Ha hn]at hi
  rw[Eb hn]
  exact hm.other is q hq hi (List.mem_singleton.2 rfl) e
theorem Ake{k:FuncId}{lb:Array Value}{enc enc':Nat→List Value}{N N':Nat}{Li Li':List (List Blk)}{w1:World}{M:List Nat}(h:Iter P k lb enc N Li w1 M)(he:enc=enc')(hN:N=N')(hL:Li=Li'):Iter P k lb enc' N' Li' w1 M:=by
  subst he;subst hN;subst hL;exact h
end
theorem To{x:Int}{c:Nat}(hc:c≤62)(m M:Nat)(hm:m=2^c-1)(hM:M=2^c):Cn .i64 x ((m:Nat):Int)=(((x%(M:Int)).toNat:Nat):Int):=by
  subst hm;subst hM
  have hp:2^c≤2^62:=Nat.pow_le_pow_right (by decide) hc
  have hp0:=Nat.two_pow_pos c
  obtain⟨d,hd⟩: ∃d,2^64=2^c*d:=⟨2^(64-c),by rw[←Nat.pow_add];congr 1;omega⟩
  unfold Cn
  rw[BitVec.toNat_and,Ko,Nat.mod_eq_of_lt (show 2^c-1<2^IntKind.i64.bits by show _<2^64;omega),Nat.and_two_pow_sub_one_eq_mod,BitVec.toNat_ofInt]
  have h1:(x%((2^64:Nat):Int)).toNat%2^c=(x%((2^c:Nat):Int)).toNat:=by
    have h2:((x%((2^64:Nat):Int))%((2^c:Nat):Int))=x%((2^c:Nat):Int):=Int.emod_emod_of_dvd _ ⟨(d:Int),by rw[hd];push_cast;rfl⟩
    have h3:(0:Int)≤x%((2^64:Nat):Int):=Int.emod_nonneg _ (by decide)
    rw[←h2]
    obtain⟨q,hq⟩:=Int.eq_ofNat_of_zero_le h3
    rw[hq,←Int.natCast_emod,Int.toNat_natCast,Int.toNat_natCast]
  have h4:(x%((2^c:Nat):Int)).toNat<2^c:=by
    have:=Int.emod_lt_of_pos x (show(0:Int)<((2^c:Nat):Int) by omega)
    have:=Int.emod_nonneg x (show((2^c:Nat):Int)≠0 by omega)
    omega
  show IntKind.i64.wrap (((x%((2^64:Nat):Int)).toNat%2^c:Nat):Int)=_
  rw[h1,Cz (by omega) (by omega)]
section
variable {P:Program}{n:Nat}{S:World→Prop}{f:Nat→Value}{o:Oper}
theorem R1{t e:TypeId}{x:Operand}{b len sz o':Nat}(hop:o.op=.slice t x none none none)(hx:ev n f x=.pointer (some ⟨b,o',none⟩))
    (ha: ∀w,(underlying t).run P w=.ok (.array len e) w) (hz: ∀w,(sizeOf e).run P w=.ok sz w):Ys P n S f o (.slice (some ⟨b,o',none⟩) len len):=Ys.pure fun w=>by
  simp[execOp,hop,hx,Instr.sliceAt,Instr.slice,ha,asAddr,Instr.sureAddr,Instr.sliceBounds,hz,Lj]
end
def mm{α:Type}(g:α→List Value)(xs:List α):List Value:=xs.flatMap g
section
variable {α:Type}{g:α→List Value}{sz:Nat}
theorem B6(hg: ∀x,(g x).length=sz): ∀xs:List α,(mm g xs).length=xs.length*sz
  | []=>by simp[mm]
  |x::xs=>by
    have:=B6 hg xs
    unfold mm at this⊢
    rw[List.flatMap_cons,List.length_append,hg,this,List.length_cons,Nat.succ_mul];omega
theorem Ei(hg: ∀x,(g x).length=sz)(d:α): ∀{xs:List α} {k:Nat},k<xs.length→ ∀j v,(g (xs.getD k d))[j]? =some v→(mm g xs)[k*sz+j]? =some v
  | [],k,h,_,_,_=>by simp at h
  |x::xs,0,h,j,v,hv=>by
    have hj:=(List.getElem?_eq_some_iff.1 hv).1
    unfold mm
    rw[List.flatMap_cons,Nat.zero_mul,Nat.zero_add,List.getElem?_append_left (by simpa using hj)]
    exact hv
  |x::xs,k+1,h,j,v,hv=>by
    have ih:=Ei hg d (xs:=xs) (k:=k) (by simpa using h) j v (by simpa using hv)
    unfold mm at ih⊢
    rw[List.flatMap_cons,List.getElem?_append_right (by rw[hg,Nat.succ_mul];omega),hg]
    rw[show(k+1)*sz+j-sz=k*sz+j by rw[Nat.succ_mul];omega]
    exact ih
theorem R2(hg: ∀x,(g x).length=sz)(d:α){xs:List α}{k:Nat}(h:k<xs.length)(j:Nat){v:Value}(hv:(g (xs.getD k d))[j]? =some v):(mm g xs)[k*sz+j]? =some v:=Ei hg d h j v hv
end
theorem Ahi{H:Type}{enc:TypeId×Value→H}{P:Program}{w:World}{spare:Nat→Bool}{held:Bool}{e:TypeId}{a:Option Addr}{len cap sz:Nat}{α:Type} [Inhabited α]{g:α→List Value}{p:α→Prop}(hsz:P.cellsOf e=sz)(hgs: ∀x,(g x).length=sz)
    (hlc:len≤cap) (hs:0<cap→ ∃adr,a=some adr)
    (h: ∀adr,a=some adr→ ∀i,i<len→ ∃cs m x,w.cells? 0 (adr.add (i*P.cellsOf e)) (P.cellsOf e)=some cs∧DataW.trod enc P w 0 spare held m e cs=some x)
    (hg: ∀m cs x,DataW.trod enc P w 0 spare held m e cs=some x→ ∃y,cs=g y∧p y): ∃xs:List α,xs.length=len∧At w a (mm g xs)∧ ∀x∈xs,p x:=by
  by_cases h0:0<len
  · obtain⟨adr,rfl⟩:=hs (by omega)
    obtain⟨X,hX⟩:=Deep.choose_lt (α:=α) (p:=fun i y=>w.cells? 0 (adr.add (i*sz)) sz=some (g y)∧p y) (n:=len) (fun i hi=>by
      obtain⟨cs,m,x,h1,h2⟩:=h adr rfl i hi
      obtain⟨y,rfl,hp⟩:=hg m cs x h2
      exact⟨y,by rw[hsz]at h1;exact h1,hp⟩)
    have key: ∀(n i0:Nat),i0+n≤len→ ∀q v,(mm g ((List.range' i0 n).map X))[q]? =some v→w.cell? ((adr.add (i0*sz)).add q)=some v:=by
      intro n
      induction n with
      |zero=>intro i0 _ q v hq;simp[mm]at hq
      |succ n ih=>
        intro i0 hle q v hq
        rw[List.range'_succ,List.map_cons]at hq
        unfold mm at hq
        rw[List.flatMap_cons]at hq
        rcases Nat.lt_or_ge q sz with hlt|hge
        · rw[List.getElem?_append_left (by rw[hgs];exact hlt)]at hq
          obtain⟨_,hl,hc⟩:=World.cells?_some (hX i0 (by omega)).1
          have h1:=hc q hlt
          rw[h1];exact hq
        · rw[List.getElem?_append_right (by rw[hgs];exact hge),hgs]at hq
          have h1:=ih (i0+1) (by omega) (q-sz) v hq
          rw[Ge]at h1⊢
          rw[show i0*sz+q=(i0+1)*sz+(q-sz) by rw[Nat.succ_mul];omega]
          exact h1
    refine⟨(List.range len).map X,by simp,⟨fun _=>rfl,fun q v hq=>?_⟩,fun x hx=>?_⟩
    · have h1:=key len 0 (by omega) q v (by rw[←List.range_eq_range'];exact hq)
      simp only[Option.getD_some]
      rw[Nat.zero_mul,Lj]at h1
      exact h1
    · obtain⟨i,hi,rfl⟩:=List.mem_map.1 hx
      exact(hX i (by simpa using hi)).2
  · obtain rfl:len=0:=by omega
    exact⟨[],rfl,At.nil _ _,fun x hx=>by cases hx⟩
section
variable {r:Option Nat}{P:Program}{ops:Array Oper}{Q:Exit→Act→World→Prop}{K:Act→World→Prop}{S T:World→Prop}{A:List Nat}{k:Nat}{listed:Array Bool}{n:Nat}{ds:List Deferred}{f:Nat→Value}{o:Oper}{v:Value}{d i:Nat}
def Wa(P:Program)(ops:Array Oper)(K:Act→World→Prop)(S:World→Prop)(A:List Nat)(k:Nat)(listed:Array Bool)(n:Nat)(ds:List Deferred)(f:Nat→Value)(T:World→Prop):Prop:=
  ∀w,T w→Kl P .any ops K S A k listed (Fr n ds f) w
def Wo(P:Program)(ops:Array Oper)(K:Act→World→Prop)(S:World→Prop)(A:List Nat)(k:Nat)(listed:Array Bool)(i:Nat)(n:Nat)(ds:List Deferred)(f:Nat→Value)(T:World→Prop):Prop:=
  ∀w,T w→wpOp P ops D9 i (fun a' w'=>(Fk .any ops A i=true∨S w')∧Kl P .any ops K S A k (listed.setIfInBounds i true) a' w') (Fr n ds f) w
theorem E2{id:Nat}{l:List Oper}(A:List Nat)(S:World→Prop)(hm:P.follows .mixedOrders=true)(hd:Kk l.toArray=true)
    (hT: ∀w k,T w→T {w with drawn:=k}) (h:Wa P l.toArray (Q .normal) S A l.length (Array.replicate l.length false) n ds f T):W r P Q (.region id l.toArray true) n ds f T:=fun w hw=>by
  refine wpIn_region_any hm ?_
  have h1:=Ma (r:=r) (Q:=Q) hd (fun _ _ h=>h) _ _ _ _ (h {w with drawn:=w.drawn+1} (hT w _ hw))
  simpa using h1
theorem Tp(g:Bool)(hsel:Region.noSelect ops=true)(hA:A.contains i=true)(hr:(Region.ready .any ops listed).contains i=true)(hf:Region.free .any ops listed i=true)(hTS: ∀w,T w→S w)
    (hi:ops[i]? =some o) (hg:Region.wanted o (yl ops n f)=g) (hd:o.dst=some d) (h:g=true→Ys P n S f o v) (hr':Wa P ops K S A k (listed.setIfInBounds i true) n ds (Ft f d (bif g then v else undef)) T):Wa P ops K S A (k+1) listed n ds f T:=fun w hw=>by
  refine Ky (v:=bif g then v else undef) (by simpa using hA) hi (Region.noSelect_spec hsel) k listed _ w (Region.free_spec hi hf) (by simpa using hr) ?_ (hTS w hw) (by rw[hd,De];exact hr' w hw)
  cases g with
  |false=>exact .inr ⟨by rw[Df];exact hg,rfl⟩
  |true=>exact .inl ⟨by rw[Df];exact hg,by rw[C1];exact h rfl⟩
theorem Wa.ys(hsel:Region.noSelect ops=true)(hA:A.contains i=true)(hr:(Region.ready .any ops listed).contains i=true)(hf:Region.free .any ops listed i=true)(hTS: ∀w,T w→S w)
    (hi:ops[i]? =some o) (hg:o.guard=none) (hd:o.dst=some d) (h:Ys P n S f o v) (hr':Wa P ops K S A k (listed.setIfInBounds i true) n ds (Ft f d v) T):Wa P ops K S A (k+1) listed n ds f T:=
  Tp true hsel hA hr hf hTS hi (by simp[Region.wanted,hg]) hd (fun _=>h) hr'
theorem Am0(hsel:Region.noSelect ops=true)(hA:A.contains i=true)(hr:(Region.ready .any ops listed).contains i=true)(hf:Region.free .any ops listed i=true)(hTS: ∀w,T w→S w)
    (hi:ops[i]? =some o) (hg:Region.wanted o (yl ops n f)=false) (hd:o.dst=some d) (hr':Wa P ops K S A k (listed.setIfInBounds i true) n ds (Ft f d undef) T):Wa P ops K S A (k+1) listed n ds f T:=
  Tp (v:=undef) false hsel hA hr hf hTS hi hg hd (fun h=>by cases h) hr'
theorem A3(hr:Region.ready .any ops listed=[i])(h:Wo P ops K S A k listed i n ds f T):Wa P ops K S A (k+1) listed n ds f T:=fun w hw=>
  ⟨fun h0=>(by rw[hr]at h0;cases h0),fun j hj=>(by rw[hr]at hj;obtain rfl:j=i:=(by simpa using hj);exact h w hw)⟩
theorem C3{j:Nat}(hr:Region.ready .any ops listed=[i,j])(h1:Wo P ops K S A k listed i n ds f T)(h2:Wo P ops K S A k listed j n ds f T):Wa P ops K S A (k+1) listed n ds f T:=fun w hw=>
  ⟨fun h0=>(by rw[hr]at h0;cases h0),fun q hq=>by
    rw[hr]at hq
    rcases(by simpa using hq:q=i∨q=j)with rfl|rfl
    · exact h1 w hw
    · exact h2 w hw⟩
theorem V9{j l:Nat}(hr:Region.ready .any ops listed=[i,j,l])(h1:Wo P ops K S A k listed i n ds f T)(h2:Wo P ops K S A k listed j n ds f T)(h3:Wo P ops K S A k listed l n ds f T):Wa P ops K S A (k+1) listed n ds f T:=fun w hw=>
  ⟨fun h0=>(by rw[hr]at h0;cases h0),fun q hq=>by
    rw[hr]at hq
    rcases(by simpa using hq:q=i∨q=j∨q=l)with rfl|rfl|rfl
    · exact h1 w hw
    · exact h2 w hw
    · exact h3 w hw⟩
theorem D1(hr:Region.ready .any ops listed=[])(h: ∀w,T w→K (Fr n ds f) w):Wa P ops K S A 0 listed n ds f T:=fun w hw=>⟨hr,h w hw⟩
theorem Wa.conseq{T':World→Prop}(hT: ∀w,T w→T' w)(h:Wa P ops K S A k listed n ds f T'):Wa P ops K S A k listed n ds f T:=fun w hw=>h w (hT w hw)
theorem Wo.conseq{T':World→Prop}(hT: ∀w,T w→T' w)(h:Wo P ops K S A k listed i n ds f T'):Wo P ops K S A k listed i n ds f T:=fun w hw=>h w (hT w hw)
theorem Ak2{w0:World}{M:List Nat}{LL LL':List (List Blk)}(e:LL=LL')(h:Wa P ops K S A k listed n ds f (Mem w0 M LL')):Wa P ops K S A k listed n ds f (Mem w0 M LL):=by rwa[e]
theorem Wo.yc(hi:ops[i]? =some o)(hg:o.guard=none)(hd:o.dst=some d)(h:Yc P n T f o v)(hTS:Fk .any ops A i=true∨ ∀w,T w→S w)(hr:Wa P ops K S A k (listed.setIfInBounds i true) n ds (Ft f d v) T):Wo P ops K S A k listed i n ds f T:=fun w hT=>by
  unfold wpOp
  simp only[hi]
  rw[if_pos (by simp[Region.wanted,hg])]
  exact .inl (h ds w hT _ fun w' hw'=>⟨hTS.imp_right fun h=>h w' hw',by rw[hd,De];exact hr w' hw'⟩)
theorem Akf(g:Bool)(hi:ops[i]? =some o)(hg:Region.wanted o (yl ops n f)=g)(hd:o.dst=some d)(h:g=true→Yc P n T f o v)(hTS:Fk .any ops A i=true∨ ∀w,T w→S w)(hr:Wa P ops K S A k (listed.setIfInBounds i true) n ds (Ft f d (bif g then v else undef)) T):Wo P ops K S A k listed i n ds f T:=fun w hT=>by
  unfold wpOp
  simp only[hi]
  rw[Df,hg]
  cases g with
  |false=>simp only[Bool.false_eq_true,if_false];exact⟨hTS.imp_right fun h=>h w hT,by rw[hd,De];exact hr w hT⟩
  |true=>rw[if_pos rfl];exact .inl (h rfl ds w hT _ fun w' hw'=>⟨hTS.imp_right fun h=>h w' hw',by rw[hd,De];exact hr w' hw'⟩)
theorem Ak3(hi:ops[i]? =some o)(hg:Region.wanted o (yl ops n f)=false)(hd:o.dst=some d)(hTS:Fk .any ops A i=true∨ ∀w,T w→S w)(hr:Wa P ops K S A k (listed.setIfInBounds i true) n ds (Ft f d undef) T):Wo P ops K S A k listed i n ds f T:=fun w hT=>by
  unfold wpOp
  simp only[hi]
  rw[Df,hg]
  simp only[Bool.false_eq_true,if_false];exact⟨hTS.imp_right fun h=>h w hT,by rw[hd,De];exact hr w hT⟩
theorem Ch{β:Type}{f':β→Nat→Value}{T':β→World→Prop}(hi:ops[i]? =some o)(hg:o.guard=none)(h:Ht P n T f o f' T')(hTS:Fk .any ops A i=true∨ ∀b w,T' b w→S w)(hr: ∀b,Wa P ops K S A k (listed.setIfInBounds i true) n ds (f' b) (T' b)):Wo P ops K S A k listed i n ds f T:=fun w hT=>by
  unfold wpOp
  simp only[hi]
  rw[if_pos (by simp[Region.wanted,hg])]
  exact .inl (h ds w hT _ fun b w' hw'=>⟨hTS.imp_right fun h=>h b w' hw',hr b w' hw'⟩)
theorem Ahj{β:Type}{f':β→Nat→Value}{T':β→World→Prop}(hi:ops[i]? =some o)(hw:Region.wanted o (yl ops n f)=true)(h:Ht P n T f o f' T')(hTS:Fk .any ops A i=true∨ ∀b w,T' b w→S w)(hr: ∀b,Wa P ops K S A k (listed.setIfInBounds i true) n ds (f' b) (T' b)):Wo P ops K S A k listed i n ds f T:=fun w hT=>by
  unfold wpOp
  simp only[hi]
  rw[Df,if_pos hw]
  exact .inl (h ds w hT _ fun b w' hw'=>⟨hTS.imp_right fun h=>h b w' hw',hr b w' hw'⟩)
theorem Bv{β:Type}{Φ:β→Prop}{f':β→Nat→Value}{T':β→World→Prop}(hi:ops[i]? =some o)(hg:o.guard=none)(h:HtS P n T f o Φ f' T')(hTS:Fk .any ops A i=true∨ ∀b w,T' b w→S w)(hr: ∀b,Φ b→Wa P ops K S A k (listed.setIfInBounds i true) n ds (f' b) (T' b)):Wo P ops K S A k listed i n ds f T:=
  Ch hi hg h (hTS.imp_right fun h b w=>h b.1 w) fun b=>hr b.1 b.2
theorem Am1{β:Type}{Φ:β→Prop}{f':β→Nat→Value}{T':β→World→Prop}(hi:ops[i]? =some o)(hw:Region.wanted o (yl ops n f)=true)(h:HtS P n T f o Φ f' T')(hTS:Fk .any ops A i=true∨ ∀b w,T' b w→S w)(hr: ∀b,Φ b→Wa P ops K S A k (listed.setIfInBounds i true) n ds (f' b) (T' b)):Wo P ops K S A k listed i n ds f T:=
  Ahj hi hw h (hTS.imp_right fun h b w=>h b.1 w) fun b=>hr b.1 b.2
end
theorem Wb{cs ys r cs':List Value}{k:Nat}(hl:k+ys.length≤cs.length)(e:Bn cs k ys=cs'):Bn (cs++r) k ys=cs'++r:=by
  subst e
  unfold Bn
  rw[List.take_append_of_le_length (by omega),List.drop_append_of_le_length (by omega)]
  simp
end Go.Proofs.YtmonlaoaengfdaaGreatDoor.Base
namespace Go.Proofs.YtmonlaoaengfdaaGreatDoor.Base
open Go.RowKit
def Oo:Value→Value→Bool
  | .int _ a,.int _ b=>a==b
  | .bool a,.bool b=>a==b
  | .string a,.string b=>a==b
  |_,_=>false
def Di:List Value→List Value→Bool
  | [],[]=>true
  |x::xs,y::ys=>Oo x y&&Di xs ys
  |_,_=>false
theorem Hd: ∀{a b a' b':List Value},a.length=b.length→Di (a++a') (b++b')=(Di a b&&Di a' b')
  | [],[],_,_,_=>by simp[Di]
  |x::a,y::b,a',b',h=>by
    simp only[List.cons_append,Di,Hd (a:=a) (b:=b) (by simpa using h),Bool.and_assoc]
  | [],_::_,_,_,h=>by cases h
  |_::_,[],_,_,h=>by cases h
inductive Lf where
  |int (k:IntKind)
  |bool
  |string
def Px:Lf→Value→Prop
  | .int k,v=> ∃n,v=.int k n
  | .bool,v=> ∃b,v=.bool b
  | .string,v=> ∃s,v=.string s
def Fh(r:TypeId→Option (List Lf))(P:Program)(total:Nat):List Field→Nat→Option (List Lf)
  | [],off=>if off=total then some []else none
  |f::fs,off=>if f.offset=off∧(f.name≠ "_")then(r f.type).bind fun a=>if a.length=P.cellsOf f.type then(Fh r P total fs (off+a.length)).map (a++ ·)else none else none
def Kp(P:Program)(t:TypeId):Bool:=
  match P.underlying t with
  |some (.struct _)|some (.array _ _)=>true
  |_=>false
def Ip(P:Program):Nat→TypeId→Option (List Lf)
  |0,_=>none
  |k+1,t=>match P.underlying t with
    |some .bool=>if P.cellsOf t=1 then some [.bool]else none
    |some (.int k)=>if P.cellsOf t=1 then some [.int k]else none
    |some .string=>if P.cellsOf t=1 then some [.string]else none
    |some (.struct fs)=>if P.stoodInHeld t=false then Fh (Ip P k) P (P.cellsOf t) fs.toList 0 else none
    |some (.array n e)=>(Ip P k e).bind fun a=>if a.length=P.cellsOf e∧n*a.length=P.cellsOf t then some (List.replicate n a).flatten else none
    |_=>none
def Zw(P:Program)(t:TypeId)(cs:List Value):Value:=if Kp P t then .agg cs.toArray else cs.headD undef
theorem F2.length{α β:Type}{R:α→β→Prop}: ∀{a:List α} {b:List β},F2 R a b→a.length=b.length
  | [],[],_=>rfl
  |_::_,_::_,h=>by simp[F2.length h.2]
  | [],_::_,h=>h.elim
  |_::_,[],h=>h.elim
theorem F2.split{α β:Type}{R:α→β→Prop}: ∀{a a':List α} {l:List β},F2 R (a++a') l→F2 R a (l.take a.length)∧F2 R a' (l.drop a.length)
  | [],_,_,h=>⟨by simp[F2],by simpa using h⟩
  |x::a,a',[],h=>by simp[F2]at h
  |x::a,a',y::l,h=>by
    have h2:F2 R (a++a') l:=h.2
    obtain⟨i1,i2⟩:=F2.split h2
    exact⟨⟨h.1,i1⟩,i2⟩
section
variable {P:Program}
theorem U5(t:TypeId)(d:TypeDesc)(hu:P.underlying t=some d)(w:World):(isAgg t).run P w=.ok (Kp P t) w:=by
  unfold isAgg
  rw[Sem.run_bind,run_underlying hu w]
  cases d<;>simp[Kp,hu]
theorem Ln(t:TypeId)(d:TypeDesc)(hu:P.underlying t=some d)(xs:List Value)(off:Nat)(c:List Value)(hc:(xs.drop off).take (P.cellsOf t)=c)(hl:c.length=P.cellsOf t)(hp:Kp P t=false→P.cellsOf t=1)(hi:(P.info? t).isSome)(w:World):
    (part t xs.toArray off).run P w=.ok (Zw P t c) w:=by
  unfold part
  rw[Sem.run_bind,U5 t d hu w]
  simp only[Result.andThen_ok]
  cases ha:Kp P t with
  |true=>
    obtain⟨i,hi⟩:=Option.isSome_iff_exists.1 hi
    have hz:P.cellsOf t=i.size:=by simp[Program.cellsOf,hi]
    have e:xs.toArray.extract off (off+P.cellsOf t)=c.toArray:=by
      rw[List.extract_toArray,List.extract_eq_take_drop,Nat.add_sub_cancel_left,hc]
    simp[sizeOf,typeInfo,hi,Zw,ha,←hz]
    exact hc
  |false=>
    have h1:=hp ha
    rw[h1]at hl hc
    match c,hl with
    | [x],_=>
      have:xs[off]? =some x:=by
        have h2:((xs.drop off).take 1)[0]? =some x:=by rw[hc];rfl
        simpa using h2
      simp[this,Zw,ha]
def Ahk(P:Program)(k:Nat):Prop:= ∀(t:TypeId) (ls:List Lf),Ip P k t=some ls→ls.length=P.cellsOf t∧(Kp P t=false→P.cellsOf t=1)∧(∃d,P.underlying t=some d)∧
  ∀(d:Nat),k≤d→ ∀(cs cs':List Value) (w:World),F2 Px ls cs→F2 Px ls cs'→(Op.equalIn d t (Zw P t cs) (Zw P t cs')).run P w=.ok (Di cs cs') w
theorem Ds{t:TypeId}{d:TypeDesc}(h:P.underlying t=some d):(P.info? t).isSome:=by
  cases hi:P.info? t with
  |some i=>rfl
  |none=>
    simp[Program.underlying,hi]at h
theorem Mz{k d total:Nat}(hk:Ahk P k)(hd:k≤d){xs ys:List Value}(hx:xs.length=total)(hy:ys.length=total): ∀(fs:List Field) (off:Nat) (ls:List Lf) (w:World),Fh (Ip P k) P total fs off=some ls→
    F2 Px ls (xs.drop off)→F2 Px ls (ys.drop off)→(Op.eqFields d xs.toArray ys.toArray fs).run P w=.ok (Di (xs.drop off) (ys.drop off)) w
  | [],off,ls,w,h,hF,hG=>by
    simp only[Fh]at h
    split at h
    · rename_i ho
      have e1:xs.drop off=[]:=by rw[ho,←hx,List.drop_length]
      have e2:ys.drop off=[]:=by rw[ho,←hy,List.drop_length]
      rw[e1,e2]
      rfl
    · cases h
  |f::fs,off,ls,w,h,hF,hG=>by
    simp only[Fh]at h
    split at h
    · rename_i ho
      obtain⟨a,ha,h⟩:=Option.bind_eq_some_iff.1 h
      split at h
      · rename_i hl
        obtain⟨ls',h',rfl⟩:=Option.map_eq_some_iff.1 h
        obtain⟨hlen,hp,⟨dd,hu⟩,heq⟩:=hk f.type a ha
        obtain⟨f1,f2⟩:=hF.split
        obtain⟨g1,g2⟩:=hG.split
        rw[List.drop_drop]at f2 g2
        have lf:=f1.length
        have lg:=g1.length
        have px:=Ln (P:=P) f.type dd hu xs f.offset ((xs.drop off).take a.length) (by rw[ho.1,hlen]) (by rw[←lf,hlen]) hp (Ds hu) w
        have py:=Ln (P:=P) f.type dd hu ys f.offset ((ys.drop off).take a.length) (by rw[ho.1,hlen]) (by rw[←lg,hlen]) hp (Ds hu) w
        have he:=heq d hd _ _ w f1 g1
        have ih:=Mz hk hd hx hy fs (off+a.length) ls' w h' f2 g2
        have ex:xs.drop off=(xs.drop off).take a.length++xs.drop (off+a.length):=by rw[←List.drop_drop,List.take_append_drop]
        have ey:ys.drop off=(ys.drop off).take a.length++ys.drop (off+a.length):=by rw[←List.drop_drop,List.take_append_drop]
        rw[ex,ey,Hd (by rw[←lf,←lg])]
        simp only[Op.eqFields,ho.2,if_true,Sem.run_bind,px,py,he,Result.andThen_ok,ne_eq,not_false_eq_true]
        cases hb:Di ((xs.drop off).take a.length) ((ys.drop off).take a.length)with
        |true=>simpa using ih
        |false=>simp
      · cases h
    · cases h
theorem P5{k d c n:Nat}{e:TypeId}{a:List Lf}(hk:Ahk P k)(ha:Ip P k e=some a)(hd:k≤d)(hc:P.cellsOf e=c){xs ys:List Value}(hx:xs.length=n*c)(hy:ys.length=n*c): ∀(m i:Nat) (w:World),i+m=n→
    F2 Px (List.replicate m a).flatten (xs.drop (i*c))→F2 Px (List.replicate m a).flatten (ys.drop (i*c))→
    (Op.eqItems d e c xs.toArray ys.toArray (List.range' i m)).run P w=.ok (Di (xs.drop (i*c)) (ys.drop (i*c))) w
  |0,i,w,h,hF,hG=>by
    have e1:xs.drop (i*c)=[]:=by rw[show i=n by omega,←hx,List.drop_length]
    have e2:ys.drop (i*c)=[]:=by rw[show i=n by omega,←hy,List.drop_length]
    rw[e1,e2]
    rfl
  |m+1,i,w,h,hF,hG=>by
    obtain⟨hlen,hp,⟨dd,hu⟩,heq⟩:=hk e a ha
    rw[List.replicate_succ,List.flatten_cons]at hF hG
    obtain⟨f1,f2⟩:=hF.split
    obtain⟨g1,g2⟩:=hG.split
    rw[hlen,hc,List.drop_drop,←Nat.succ_mul]at f2 g2
    have lf:=f1.length
    have lg:=g1.length
    have px:=Ln (P:=P) e dd hu xs (i*c) ((xs.drop (i*c)).take a.length) (by rw[hlen]) (by rw[←lf,hlen]) hp (Ds hu) w
    have py:=Ln (P:=P) e dd hu ys (i*c) ((ys.drop (i*c)).take a.length) (by rw[hlen]) (by rw[←lg,hlen]) hp (Ds hu) w
    have he:=heq d hd _ _ w f1 g1
    have ih:=P5 hk ha hd hc hx hy m (i+1) w (by omega) f2 g2
    have ex:xs.drop (i*c)=(xs.drop (i*c)).take a.length++xs.drop ((i+1)*c):=by rw[hlen,hc,Nat.succ_mul,←List.drop_drop,List.take_append_drop]
    have ey:ys.drop (i*c)=(ys.drop (i*c)).take a.length++ys.drop ((i+1)*c):=by rw[hlen,hc,Nat.succ_mul,←List.drop_drop,List.take_append_drop]
    rw[ex,ey,Hd (by rw[←lf,←lg]),List.range'_succ]
    simp only[Op.eqItems,Sem.run_bind,px,py,he,Result.andThen_ok]
    cases hb:Di ((xs.drop (i*c)).take a.length) ((ys.drop (i*c)).take a.length)with
    |true=>simpa using ih
    |false=>simp
theorem H4{r:TypeId→Option (List Lf)}{total:Nat}: ∀{fs:List Field} {off:Nat} {ls:List Lf},Fh r P total fs off=some ls→off+ls.length=total
  | [],off,ls,h=>by
    simp only[Fh]at h
    split at h
    · obtain rfl:=Option.some.inj h;simpa
    · cases h
  |f::fs,off,ls,h=>by
    simp only[Fh]at h
    split at h
    · obtain⟨a,ha,h⟩:=Option.bind_eq_some_iff.1 h
      split at h
      · obtain⟨ls',h',rfl⟩:=Option.map_eq_some_iff.1 h
        have:=H4 h'
        simp only[List.length_append]
        omega
      · cases h
    · cases h
theorem Oq: ∀k,Ahk P k
  |0=>fun t ls h=>by simp[Ip]at h
  |k+1=>fun t ls h=>by
    have ih:=Oq k
    simp only[Ip]at h
    split at h
    · rename_i hu
      split at h
      · rename_i h1
        obtain rfl:=Option.some.inj h
        refine⟨h1.symm,fun _=>h1,⟨_,hu⟩,fun d hd cs cs' w hF hG=>?_⟩
        obtain⟨d,rfl⟩: ∃e,d=e+1:=⟨d-1,by omega⟩
        match cs,cs',hF,hG with
        | [_],[_],⟨⟨a,rfl⟩,_⟩,⟨⟨b,rfl⟩,_⟩=>
          simp only[Zw,Kp,hu,Bool.false_eq_true,if_false,List.headD_cons,run_equalIn_bool' w d t a b hu]
          simp[Di,Oo]
      · cases h
    · rename_i hu
      split at h
      · rename_i h1
        obtain rfl:=Option.some.inj h
        refine⟨h1.symm,fun _=>h1,⟨_,hu⟩,fun d hd cs cs' w hF hG=>?_⟩
        obtain⟨d,rfl⟩: ∃e,d=e+1:=⟨d-1,by omega⟩
        match cs,cs',hF,hG with
        | [_],[_],⟨⟨a,rfl⟩,_⟩,⟨⟨b,rfl⟩,_⟩=>
          simp only[Zw,Kp,hu,Bool.false_eq_true,if_false,List.headD_cons,run_equalIn_int w d t _ _ a b hu]
          simp[Di,Oo]
      · cases h
    · rename_i hu
      split at h
      · rename_i h1
        obtain rfl:=Option.some.inj h
        refine⟨h1.symm,fun _=>h1,⟨_,hu⟩,fun d hd cs cs' w hF hG=>?_⟩
        obtain⟨d,rfl⟩: ∃e,d=e+1:=⟨d-1,by omega⟩
        match cs,cs',hF,hG with
        | [_],[_],⟨⟨a,rfl⟩,_⟩,⟨⟨b,rfl⟩,_⟩=>
          simp only[Zw,Kp,hu,Bool.false_eq_true,if_false,List.headD_cons]
          rw[run_equalIn_string w d t a b hu,←beq_toListBytes]
          simp[Di,Oo]
      · cases h
    · rename_i fs hu
      split at h
      · rename_i Y8
        have hlen:=H4 h
        rw[Nat.zero_add]at hlen
        have hagg:Kp P t=true:=by simp[Kp,hu]
        refine⟨hlen,fun hf=>(by rw[hagg]at hf;cases hf),⟨_,hu⟩,fun d hd cs cs' w hF hG=>?_⟩
        obtain⟨d,rfl⟩: ∃e,d=e+1:=⟨d-1,by omega⟩
        have hfo:P.fieldsOf t=fs:=by simp[Program.fieldsOf,hu]
        have e1:=run_equalIn_struct (P:=P) w d t cs.toArray cs'.toArray (by rw[hfo];exact hu) Y8
        have e2:=Mz (P:=P) ih (d:=d) (by omega) (xs:=cs) (ys:=cs') (total:=P.cellsOf t) (by rw[←hF.length,hlen]) (by rw[←hG.length,hlen]) fs.toList 0 ls w h (by simpa using hF) (by simpa using hG)
        simp only[Zw,hagg,if_true]
        rw[e1,hfo,e2]
        simp
      · cases h
    · rename_i n e hu
      obtain⟨a,ha,h⟩:=Option.bind_eq_some_iff.1 h
      split at h
      · rename_i hl
        obtain rfl:=Option.some.inj h
        obtain⟨hlen,hp,⟨dd,hue⟩,heq⟩:=ih e a ha
        have hlt:(List.replicate n a).flatten.length=P.cellsOf t:=by rw[←hl.2];simp
        have hagg:Kp P t=true:=by simp[Kp,hu]
        refine⟨hlt,fun hf=>(by rw[hagg]at hf;cases hf),⟨_,hu⟩,fun d hd cs cs' w hF hG=>?_⟩
        obtain⟨d,rfl⟩: ∃e,d=e+1:=⟨d-1,by omega⟩
        obtain⟨i,hi⟩:=Option.isSome_iff_exists.1 (Ds hue)
        have e1:=run_equalIn_array (P:=P) w d cs.toArray cs'.toArray hu hi
        have e2:=P5 (P:=P) ih ha (d:=d) (c:=P.cellsOf e) (n:=n) (by omega) rfl (xs:=cs) (ys:=cs') (by rw[←hF.length,hlt,←hl.2,hl.1]) (by rw[←hG.length,hlt,←hl.2,hl.1]) n 0 w (by omega) (by simpa using hF) (by simpa using hG)
        simp only[Zw,hagg,if_true]
        rw[e1,List.range_eq_range',e2]
        simp
      · cases h
    · cases h
theorem Adp{t:TypeId}{ls:List Lf}{cs cs':List Value}{x y:Operand}(hf:Ip P 100 t=some ls)(ha:Kp P t=true)(hg:P.eqGuardType P.depth t=false)(h1:F2 Px ls cs)(h2:F2 Px ls cs')(w:World):
    (do eqGuard .neq t x y (.agg cs.toArray) (.agg cs'.toArray);binOp .neq t (.agg cs.toArray) (.agg cs'.toArray):Sem Value).run P w=.ok (.bool (!(Di cs cs'))) w:=by
  have h:=(Oq (P:=P) 100 t ls hf).2.2.2 10000 (by decide) cs cs' w h1 h2
  simp only[Zw,ha,if_true]at h
  rw[Sem.run_bind,run_eqGuard_agg w .neq t x y cs.toArray cs'.toArray hg]
  simp only[Result.andThen_ok,run_neq_struct,h]
variable {S:World→Prop}{n:Nat}{f:Nat→Value}{o:Oper}{b:Bool}
theorem Ahl{t ty:TypeId}{ls:List Lf}{cs cs':List Value}{x y:Operand}(hop:o.op=.binOp .neq t x y ty)(hx:ev n f x=.agg cs.toArray)(hy:ev n f y=.agg cs'.toArray)(hf:Ip P 100 t=some ls)(ha:Kp P t=true)(hg:P.eqGuardType P.depth t=false)(h1:F2 Px ls cs)(h2:F2 Px ls cs')(hb:Di cs cs'=b):
    Ys P n S f o (.bool (!b)):=Ys.pure fun w=>by
  subst hb
  have:=Adp (P:=P) (x:=x) (y:=y) hf ha hg h1 h2 w
  simp only[execOp,hop,hx,hy]
  rw[Sem.run_bind,this]
  rfl
end
section
variable {S:World→Prop}{P:Program}{n:Nat}{f:Nat→Value}{o:Oper}
end
end Go.Proofs.YtmonlaoaengfdaaGreatDoor.Base
namespace Go.Proofs.YtmonlaoaengfdaaGreatDoor.Base
open Go.RowKit
section
variable {P:Program}{n:Nat}{S:World→Prop}{f:Nat→Value}{r:Option Nat}{ops:Array Oper}{K:Act→World→Prop}{ds:List Deferred}
theorem An3{l:List Oper}(t:Nat){v0:Value}(h:f t=v0)(hr:Wl r P ops K l n ds (Ft f t v0) S):Wl r P ops K l n ds f S:=by rwa[Jb h]at hr
theorem Ak4{l:List Oper}(e:Bool)(h1:e=true→Wl r P ops K l n ds f S)(h2:e=false→Wl r P ops K l n ds f S):Wl r P ops K l n ds f S:=by
  cases e
  · exact h2 rfl
  · exact h1 rfl
theorem Kg{T:World→Prop}{A:List Nat}{pl:List (Nat×Bool)}(t:Nat){v0:Value}(h:f t=v0)(hr:Wd P ops K S A pl n ds (Ft f t v0) T):Wd P ops K S A pl n ds f T:=by rwa[Jb h]at hr
theorem Zx{T:World→Prop}{A:List Nat}{pl:List (Nat×Bool)}(e:Bool)(h1:e=true→Wd P ops K S A pl n ds f T)(h2:e=false→Wd P ops K S A pl n ds f T):Wd P ops K S A pl n ds f T:=by
  cases e
  · exact h2 rfl
  · exact h1 rfl
theorem Dw{γ:Type}{w0:World}{M:List Nat}{T:World→Prop}{A:List Nat}{k:Nat}{listed:Array Bool}(ks:List Nat)(vs:γ→List Value)(Φ:γ→Prop)(Lf:γ→List (List Blk))(k':Nat)(listed':Array Bool)
    (hJ: ∀g,Φ g→ ∀f',Wa P ops K S A k' listed' n ds (Gp (ks.zip (vs g)) f') (Mem w0 M (Lf g)))
    (hr:(∀g,Φ g→ ∀f',Wa P ops K S A k' listed' n ds (Gp (ks.zip (vs g)) f') (Mem w0 M (Lf g)))→Wa P ops K S A k listed n ds f T):Wa P ops K S A k listed n ds f T:=hr hJ
theorem Cb{T T':World→Prop}{A:List Nat}{k:Nat}{listed:Array Bool}(ks:List Nat)(vs:List Value)(listed':Array Bool)(h: ∀f',Wa P ops K S A k listed' n ds (Gp (ks.zip vs) f') T')(hl:ks.map f=vs)(he:listed=listed')(hT: ∀w,T w→T' w):Wa P ops K S A k listed n ds f T:=by
  have h1:=h f
  rw[Fe (Ea hl)]at h1
  rw[he]
  exact h1.conseq hT
theorem Wc{x:Value}{e b:Bool}(hx:x=.bool e)(h:e=b):x=.bool b:=by rw[hx,h]
end
end Go.Proofs.YtmonlaoaengfdaaGreatDoor.Base
