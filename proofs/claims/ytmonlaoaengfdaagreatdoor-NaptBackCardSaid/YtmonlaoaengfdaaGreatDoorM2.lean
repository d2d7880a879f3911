import Derived.Test.YtmonlaoaengfdaaGreatDoorM1
import Derived.Lib.Overlaps
import Derived.Test.YtmonlaoaengfdaaGreatDoorProg
import Derived.LoopNIn
set_option linter.unusedVariables false
set_option linter.unusedSimpArgs false
namespace Go.Proofs.YtmonlaoaengfdaaGreatDoor.Base
open Go.RowKit
section
variable {r:Option Nat}{P:Program}{ops:Array Oper}{Q:Exit→Act→World→Prop}{K:Act→World→Prop}{S:World→Prop}{n:Nat}{ds:List Deferred}{f:Nat→Value}{o:Oper}{rest:List Oper}{v:Value}{d:Nat}{w0 w:World}{M:List Nat}{LL LL':List (List Blk)}{s s':List Blk}{i j i' j' b b':Nat}{a:Option Addr}{cs cs':List Value}
theorem Hn{t e:TypeId}{x l h m:Operand}{len cap sz:Nat}{k k' k'':IntKind}{i j q:Int}(hop:o.op=.slice t x (some l) (some h) (some m))(hx:ev n f x=.slice a len cap)(hi:ev n f l=.int k i)(hj:ev n f h=.int k' j)(hq:ev n f m=.int k'' q)
    (hu: ∀w,(underlying t).run P w=.ok (.slice e) w) (hz: ∀w,(sizeOf e).run P w=.ok sz w) (h0:0≤i) (h1:i≤j) (h2:j≤q) (h3:q≤cap):Ys P n S f o (.slice (C8 a q.toNat i.toNat sz) (j.toNat-i.toNat) (q.toNat-i.toNat)):=Ys.pure fun w=>by
  obtain⟨j,rfl⟩:=Int.eq_ofNat_of_zero_le (show 0≤j by omega)
  obtain⟨q,rfl⟩:=Int.eq_ofNat_of_zero_le (show 0≤q by omega)
  have h2':j≤q:=by omega
  have h3':q≤cap:=by omega
  simp[execOp,hop,hx,hi,hj,hq,Instr.sliceAt,Instr.slice,hu,Instr.sliceBounds,Instr.sliceBound,asIntOf,h0,h1,h2',h3',hz,C8]
theorem Gh{b cap k sz:Nat}(h:k<cap):C8 (some ⟨b,0,none⟩) cap k sz=some ⟨b,k*sz,none⟩:=by
  unfold C8;rw[if_neg (by omega)];simp[add_lit]
theorem At.dropN{w:World}{a:Option Addr}{cs:List Value}(h:At w a cs){cap k sz:Nat}(hk:k<cap):At w (C8 a cap k sz) (cs.drop (k*sz)):=by
  unfold C8;rw[if_neg (by omega)]
  have:=h.sub (k*sz) cs.length
  rwa[List.take_of_length_le (by simp)]at this
theorem At.dropT{w:World}{a:Option Addr}{cs:List Value}(h:At w a cs){cap k m sz:Nat}(hk:k<cap∨m=0):At w (C8 a cap k sz) ((cs.drop (k*sz)).take (m*sz)):=by
  rcases hk with hk|rfl
  · exact(h.dropN hk).take _
  · rw[Nat.zero_mul,List.take_zero];exact At.nil _ _
theorem Mem.shape(h:Mem w0 M LL w){t:TypeId}(hi:LL[i]? =some s)(hj:s[j]? =some (cb b cs t)):w.shape? b=some (t,cs.length):=by
  have:=h.at hi hj
  simp only at this
  simp[World.shape?,this]
theorem Mem.apart(h:Mem w0 M LL w)(hi:LL[i]? =some s)(hi':LL[i']? =some s'){p p':Blk}(hne:i≠i')(hj:s[j]? =some p)(hj':s'[j']? =some p'):p.b≠p'.b:=by
  have hn:=(Km.1 (Mem0.nodup h)).2
  have:=Oi hn hne
  rw[hi,hi']at this
  exact this p (List.mem_of_getElem? hj) p' (List.mem_of_getElem? hj')
theorem Ho{k:FuncId}{fn:Func}{tS tR e:TypeId}{sz la ca lb cp o1 o2:Nat}{t t':TypeId}(hd: ∀w,(execOp (ev n f) o).run P w=(callFunc k #[.slice (some ⟨b,o1,none⟩) la ca,.slice (some ⟨b',o2,none⟩) lb cp]).run P w)(hf:P.funcs[k]? =some fn)
    (hname:(fn.name== "runtime.NumGoroutine")=false) (hb:fn.body.isNone=true) (hnx:Extern.findNext fn=none) (he:Extern.find fn=some (Extern.SlicesOverlaps.overlaps #[tS,tS] #[tR])) (ht:P.underlying tS=some (.slice e)) (hz: ∀w,(Go.sizeOf e).run P w=.ok sz w)
    (hne:i≠i') (hi:LL[i]? =some s) (hj:s[j]? =some (cb b cs t)) (hi':LL[i']? =some s') (hj':s'[j']? =some (cb b' cs' t')) (h0:0<cs'.length):Ys P n (Mem w0 M LL) f o (.bool false):=Ok fun w hS=>by
  obtain⟨kb,hkb⟩: ∃kb,kb=cs'.length:=⟨_,rfl⟩
  have h1:=Lib.run_overlaps_apart (P:=P) w tS tR e ht sz hz ⟨b,o1,none⟩ ⟨b',o2,none⟩ la ca lb cp (hS.apart hi hi' hne hj hj') t t' cs.length cs'.length (hS.shape hi hj) (hS.shape hi' hj') (by omega) (hS.free hi hj) (hS.free hi hj)
  rw[hd,run_callFunc_extern hf hname hb hnx he,h1];rfl
theorem Hp{t u e:TypeId}{eu:TypeId}{ii:TypeInfo}{x y:Operand}{xv:Value}{nn m k cap sz:Nat}{ty:TypeId}{news:List Value}(hd:o.dst=some d)
    (ho:o.op=.call {callee:=.builtin .append,args:= #[x,y],argTypes:= #[t,u]}) (ht:P.underlying t=some (.slice e)) (hu:P.underlying u=some (.slice eu)) (hi:P.info? e=some ii) (hsize:ii.size=sz)
    (hx:ev n f x=.slice (some ⟨b,0,none⟩) nn cap) (hy:ev n f y=xv) (hL:LL[i]? =some s) (hj:s[j]? =some (cb b cs ty)) (hlen: ∀w,(Builtin.lenOf xv).run P w=.ok m w) (hk:nn+m=k) (hroom:k≤cap) (hsrc:Src P (Mem w0 M LL) sz m xv news)
    (hl:nn*sz+news.length≤cs.length) (h1: ∀v∈news,v.oneCell'=true) (hcs:Bn cs (nn*sz) news=cs') (hL':LL.set i (s.set j (cb b cs' ty))=LL'):
    Ht (β:=Unit) P n (Mem w0 M LL) f o (fun _=>Ft f d (.slice (some ⟨b,0,none⟩) k cap)) (fun _=>Mem w0 M LL'):=fun ds w hS K hK=>by
  subst hsize;subst hk
  obtain⟨w',Y8,hm⟩:=Ey (P:=P) hS news (nn*ii.size) 0 hL hj hl h1
  rw[hcs,hL']at hm
  have hs:=hsrc w hS
  have hu':=run_underlying (P:=P) hu
  have hrun:(Builtin.append_ #[t,u] o.type #[ev n f x,ev n f y]).run P w=.ok (.slice (some ⟨b,0,none⟩) (nn+m) cap) w':=by
    simp[Builtin.append_,hx,hy,run_underlying ht,hu',sizeOf,typeInfo,hi,hlen,hroom,hs,Addr.add_lit,Y8]
  unfold Oper.wp execOp
  simp only[ho,resolve,invoke,builtin,Sem.run_bind,Sem.run_pure,Result.andThen_ok,List.map_toArray,List.map_cons,List.map_nil,C1,hrun]
  simp only[Oper.upon,hd,De]
  exact hK () w' hm
theorem Iq{LL':Nat→List Value→List (List Blk)}{t u e:TypeId}{ii:TypeInfo}{z:Value}{ku:IntKind}{x y:Operand}{nn m k cap sz bytes:Nat}{lv:Int}{xs:List Value}{kk:IntKind}(hd:o.dst=some d)
    (ho:o.op=.call {callee:=.builtin .append,args:= #[x,y],argTypes:= #[t,u]}) (ht:P.underlying t=some (.slice e)) (hu:P.underlying u=some (.int ku)) (hi:P.info? e=some ii) (hz:ii.zero=some z)
    (hsize:ii.size=sz) (hby:ii.bytes=bytes) (hzs:z.cells.size=sz) (hx:ev n f x=.slice a nn cap) (hy:ev n f y=.int kk lv) (hm:lv=((m:Nat):Int)) (hat: ∀w,Mem w0 M LL w→At w a xs) (hxs:xs.length=nn*sz)
    (hk:nn+m=k) (hcap:nn≤cap) (hno:cap<k) (h63:k≤1000000000) (hbytes:k*bytes≤140737488355328) (hL': ∀(b:Nat) (R:List Value),[cb b (xs++R) e]::LL=LL' b R):
    Ht (β:={q:Nat×Nat×List Value//k≤q.2.1∧q.2.1≤maxLen∧q.2.2.length+nn*sz=q.2.1*sz}) P n (Mem w0 M LL) f o (fun q=>Ft f d (.slice (some ⟨q.1.1,0,none⟩) k q.1.2.1)) (fun q=>Mem w0 M (LL' q.1.1 q.1.2.2)):=fun ds w hS K hK=>by
  subst hby;subst hk;subst hm;subst hsize
  have hu':=run_underlying (P:=P) hu
  have hn: ¬(nn+m≤cap):=by omega
  have h63': ¬(9223372036854775807<((nn:Int)+(m:Int))):=by omega
  have hfits:Builtin.nextslicecap (nn+m) cap*ii.bytes≤281474976710656:=growslice_fits (by omega) hbytes
  have h48': ¬(281474976710656<Builtin.nextslicecap (nn+m) cap*ii.bytes):=by omega
  have hwr:IntKind.i64.wrap ((m:Nat):Int)=((m:Nat):Int):=Cz (by omega) (by omega)
  have hmb:m*ii.bytes≤140737488355328:=Nat.le_trans (Nat.mul_le_mul_right _ (by omega)) hbytes
  have hmb': ¬(281474976710656<((m:Nat):Int)*((ii.bytes:Nat):Int)):=by rw[←Int.natCast_mul];omega
  have hneg: ¬(((m:Nat):Int)<0):=by omega
  have hfo:(Builtin.firstCells ii.size nn (.slice a nn cap)).run P w.drew=.ok xs.toArray w.drew:=
    Src.at (P:=P) (S:=fun w'=>w'=w.drew) hxs (fun w' e=>by subst e;exact(hat w hS).of_block fun _=>rfl) w.drew rfl
  have hge:=grownCap_ge w (nn+m) cap e
  have hlem:=grownCap_le_maxLen w (nn+m) cap e (by simp only[maxLen];omega)
  obtain⟨zc,hzc⟩: ∃zc:Array Value,zc=if m*ii.size=0 then #[]else Builtin.zeroCells z.cells m:=⟨_,rfl⟩
  have hzl:zc.size=m*ii.size:=by
    rw[hzc];split
    · rename_i h;rw[h];rfl
    · rw[size_zeroCells,hzs]
  have hrun:(Builtin.append_ #[t,u] o.type #[ev n f x,ev n f y]).run P w=.ok (.slice (some ⟨w.heap.size,0,none⟩) (nn+m) (grownCap w (nn+m) cap e)) (w.drew.alloc (.cells (xs++(zc.toList++(Builtin.zeroCells z.cells (grownCap w (nn+m) cap e-(nn+m))).toList)).toArray e)):=by
    simp only[hx,hy]
    simp[Builtin.append_,run_underlying ht,hu',sizeOf,typeInfo,zeroValue,hi,hz,asInt,asIntOf,hwr,hneg,hmb',hn,h63',h48',Question.forced,hfo,newRow,grownCap]
    by_cases h:m*ii.size=0
    · rw[if_pos h,hzc,if_pos h]
      congr 3
      apply Array.ext';simp
    · rw[if_neg h,hzc,if_neg h]
      congr 3
      apply Array.ext';simp
  have h2:=(hS.drawn (w.drawn+1)).alloc (xs++(zc.toList++(Builtin.zeroCells z.cells (grownCap w (nn+m) cap e-(nn+m))).toList)) e
  rw[hL']at h2
  unfold Oper.wp execOp
  simp only[ho,resolve,invoke,builtin,Sem.run_bind,Sem.run_pure,Result.andThen_ok,List.map_toArray,List.map_cons,List.map_nil,C1,hrun]
  simp only[Oper.upon,hd,De]
  refine hK ⟨(w.heap.size,grownCap w (nn+m) cap e,zc.toList++(Builtin.zeroCells z.cells (grownCap w (nn+m) cap e-(nn+m))).toList),hge,hlem,?_⟩ _ h2
  simp only[List.length_append,Array.length_toList,hzl,size_zeroCells,hzs]
  rw[show m*ii.size+(grownCap w (nn+m) cap e-(nn+m))*ii.size+nn*ii.size=(nn+m+(grownCap w (nn+m) cap e-(nn+m)))*ii.size by rw[Nat.add_mul,Nat.add_mul];omega]
  rw[show nn+m+(grownCap w (nn+m) cap e-(nn+m))=grownCap w (nn+m) cap e by omega]
theorem Je{t e:TypeId}{ii:TypeInfo}{z:Value}{x:Operand}{m cap o':Nat}{ty:TypeId}{zs:List Value}(hd:o.dst=none)
    (ho:o.op=.call {callee:=.builtin .clear,args:= #[x],argTypes:= #[t]}) (ht:P.underlying t=some (.slice e)) (hi:P.info? e=some ii) (hz:ii.zero=some z)
    (hx:ev n f x=.slice (some ⟨b,o',none⟩) (m+1) cap) (hL:LL[i]? =some s) (hj:s[j]? =some (cb b cs ty)) (hzs:(Builtin.zeroCells z.cells (m+1)).toList=zs)
    (hl:o'+zs.length≤cs.length) (h1: ∀v∈zs,v.oneCell'=true) (hcs:Bn cs o' zs=cs') (hL':LL.set i (s.set j (cb b cs' ty))=LL'):
    Ht (β:=Unit) P n (Mem w0 M LL) f o (fun _=>f) (fun _=>Mem w0 M LL'):=fun ds w hS K hK=>by
  subst hzs
  obtain⟨w',Y8,hm⟩:=Ey (P:=P) hS _ o' 0 hL hj hl h1
  rw[hcs,hL']at hm
  have hrun:(Builtin.clear_ #[t] o.type #[ev n f x]).run P w=.ok (.tuple #[]) w':=by
    simp[Builtin.clear_,hx,run_underlying ht,zeroValue,typeInfo,hi,hz,Y8]
  unfold Oper.wp execOp
  simp only[ho,resolve,invoke,builtin,Sem.run_bind,Sem.run_pure,Result.andThen_ok,List.map_toArray,List.map_cons,List.map_nil,C1,hrun]
  simp only[Oper.upon,hd,Ja]
  exact hK () w' hm
theorem Tq{t:TypeId}{x y:Operand}{g:FS}{q k:Nat}{ty:TypeId}(hd:o.dst=none)(hop:o.op=.store t x y)(hx:ev n f x=.pointer (some ((Co g.a q).add k)))(hy:ev n f y=v)
    (hz: ∀w,(sizeOf t).run P w=.ok 1 w) (hv:v.oneCell'=true) (hn:g.nil=false) (hi:LL[i]? =some (g.seg ty cs)) (ho:q+k<cs.length) (hcs:cs.set (q+k) v=cs') (hL:LL.set i (g.seg ty cs')=LL'):
    Ht (β:=Unit) P n (Mem w0 M LL) f o (fun _=>f) (fun _=>Mem w0 M LL'):=
  Kn (q:=q+k) hd hop (by rw[hx];unfold Co;rw[Ge]) hy hz hv hn hi ho hcs hL
end
section
variable {P:Program}{w0 w w':World}{M:List Nat}{LL:List (List Blk)}
theorem Ir(h:Mem w0 M LL w):Mem w (LL.flatten.map (·.b)) LL w:=Mem.local (R:=[]) (by rw[List.append_nil];exact h)
theorem Tr{v:Value}{e:Ending}(hl:Mem w (LL.flatten.map (·.b)) LL w)(h:Bj w (fun _:Unit=>True) (fun _=>v) (LL.flatten.map (·.b)) (fun _=>LL) e w'):Dc w v e w':=by
  obtain⟨_,_,he,hm⟩:=h
  refine⟨he,hm.os,hm.tape,hm.output,hm.size,fun k hk=>?_⟩
  by_cases hkm:k∈LL.flatten.map (·.b)
  · obtain⟨p,hp,rfl⟩:=List.mem_map.1 hkm
    rw[Mem0.here hm p hp,Mem0.here hl p hp]
  · exact Mem0.same hm k hk hkm
theorem Lp{k:FuncId}{args:Array Value}{v:Value}(hl:Mem w (LL.flatten.map (·.b)) LL w)(h:Calls P k args w (Bj w (fun _:Unit=>True) (fun _=>v) (LL.flatten.map (·.b)) (fun _=>LL))):Calls P k args w (Dc w v):=
  Calls.mono h fun _ _ h=>Tr hl h
end
section
variable {r:Option Nat}{P:Program}{Q:Exit→Act→World→Prop}{n:Nat}{ds:List Deferred}{f:Nat→Value}{w0:World}{M:List Nat}{LL:List (List Blk)}
end
end Go.Proofs.YtmonlaoaengfdaaGreatDoor.Base
namespace Go.Proofs.YtmonlaoaengfdaaGreatDoor.Base
open Go.RowKit
theorem Ot{cs r vs:List Value}{o:Nat}(h:o+vs.length≤cs.length):Bn (cs++r) o vs=Bn cs o vs++r:=by
  unfold Bn
  rw[List.take_append_of_le_length (by omega),List.drop_append_of_le_length h];simp only[List.append_assoc]
theorem Lq{α:Type}{g:α→List Value}{sz:Nat}(hg: ∀x,(g x).length=sz)(d y:α){k:Nat}{vs:List Value}(hk:k+vs.length≤sz): ∀{xs:List α} {i:Nat},i<xs.length→g y=Bn (g (xs.getD i d)) k vs→
    Bn (mm g xs) (i*sz+k) vs=mm g (xs.set i y)
  | [],i,h,_=>by simp at h
  |x::xs,0,_,hy=>by
    simp only[List.getD_cons_zero]at hy
    rw[Nat.zero_mul,Nat.zero_add]
    show Bn (g x++mm g xs) k vs=g y++mm g xs
    rw[hy,Ot (by rw[hg];exact hk)]
  |x::xs,i+1,h,hy=>by
    simp only[List.getD_cons_succ]at hy
    have ih:=Lq hg d y hk (i:=i) (by simpa using h) hy
    show Bn (g x++mm g xs) _ vs=g x++mm g (xs.set i y)
    rw[←ih]
    unfold Bn
    have e:(i+1)*sz+k=(g x).length+(i*sz+k):=by rw[hg,Nat.add_mul];omega
    rw[e,List.take_length_add_append,Nat.add_assoc,List.drop_length_add_append];simp only[List.append_assoc]
theorem We{α:Type}{g:α→List Value}{sz:Nat}(hg: ∀x,(g x).length=sz)(d:α){xs:List α}{k:Nat}(h:k<xs.length)(fo m:Nat){vs:List Value}(hv:((g (xs.getD k d)).drop fo).take m=vs): ∀j v,vs[j]? =some v→(mm g xs)[k*sz+fo+j]? =some v:=fun j v hj=>by
  rw[Nat.add_assoc];exact Ei hg d h (fo+j) v (No hv j v hj)
section
variable {r:Option Nat}{P:Program}{S:World→Prop}{n:Nat}{f:Nat→Value}{o:Oper}{v:Value}{w0 w w1:World}{M:List Nat}{LL LL' L0:List (List Blk)}{i:Nat}{a:Option Addr}{cs cs' vs:List Value}
theorem M0{t:TypeId}{x y:Operand}{g:FS}{q k:Nat}{ty:TypeId}(hd:o.dst=none)(hop:o.op=.store t x y)(hx:ev n f x=.pointer (some ((Co g.a q).add k)))(hy:ev n f y=.agg vs.toArray)
    (hz: ∀w,(sizeOf t).run P w=.ok vs.length w) (hv: ∀v∈vs,v.oneCell'=true) (hn:g.nil=false) (hi:LL[i]? =some (g.seg ty cs)) (ho:q+k+vs.length≤cs.length) (hcs:Bn cs (q+k) vs=cs') (hL:LL.set i (g.seg ty cs')=LL'):
    Ht (β:=Unit) P n (Mem w0 M LL) f o (fun _=>f) (fun _=>Mem w0 M LL'):=by
  rw[Ha hn]at hi hL
  rw[Zr hn,add_lit]at hx
  exact P1 (o':=q+k) (j:=0) hd hop hx hy hz hv hi rfl (by rw[List.length_append];omega) (by rw[Ot ho,hcs]) (by simpa using hL)
theorem Ts{t:TypeId}{x y:Operand}{g:FS}{q k:Nat}{ty:TypeId}(hd:o.dst=none)(hop:o.op=.store t x y)(hx:ev n f x=.pointer (some ((Co g.a q).add k)))(hy:ev n f y=v)
    (hz: ∀w,(sizeOf t).run P w=.ok 1 w) (hv:v.oneCell'=true) (hn:g.nil=false) (hi:LL[i]? =some (g.seg ty cs)) (ho:q+k+[v].length≤cs.length) (hcs:Bn cs (q+k) [v]=cs') (hL:LL.set i (g.seg ty cs')=LL'):
    Ht (β:=Unit) P n (Mem w0 M LL) f o (fun _=>f) (fun _=>Mem w0 M LL'):=
  Tq hd hop hx hy hz hv hn hi (by simp only[List.length_cons,List.length_nil]at ho;omega) (by
    rw[←hcs];unfold Bn
    simp only[List.length_cons,List.length_nil]at ho
    rw[List.set_eq_take_append_cons_drop,if_pos (by omega)];simp) hL
theorem Kq(h:At w a cs)(hn:a.isNone=true):cs.length=0:=by
  cases cs with
  |nil=>rfl
  |cons x l=>have:=h.here (by simp);rw[this]at hn;cases hn
theorem Nr(hat:At w1 a cs)(h0:Mem w1 M L0 w1)(hM: ∀k∈M,k∈L0.flatten.map (·.b))(hm:Mem w1 M L0 w):At w a cs:=hat.of_block fun hc=>by
  have hlt:=hat.lt hc
  by_cases hk:(a.getD default).block∈M
  · obtain⟨p,hp,hb⟩:=List.mem_map.1 (hM _ hk)
    have e1:=Mem0.here hm p hp
    have e0:=Mem0.here h0 p hp
    rw[hb]at e1 e0
    rw[e1,e0]
  · exact Mem0.same hm _ hlt hk
end
section
variable {σ:Type}{r:Option Nat}{P:Program}{n:Nat}{ds:List Deferred}{f:Nat→Value}{S:World→Prop}{o:Oper}{d:Nat}{w0:World}{M:List Nat}{LL:List (List Blk)}{yv:Value}{args:Array Value}
theorem Ns{T:Bool→World→Prop}{S':World→Prop}(h: ∀w,S w→S' w)(hy:Yld P yv args S' T):Yld P yv args S T:=fun w hw=>hy w (h w hw)
abbrev Keeps(w0:World)(M:List Nat)(u:World)(Mu:List Nat):Prop:= ∀a cs,At w0 a cs→(0<cs.length→(a.getD default).block∉M)→At u a cs∧(0<cs.length→(a.getD default).block∉Mu)
theorem Keeps.refl(w:World)(M:List Nat):Keeps w M w M:=fun _ _ h k=>⟨h,k⟩
theorem Keeps.trans{w0 w1 u:World}{M M1 Mu:List Nat}(h:Keeps w0 M w1 M1)(k:Keeps w1 M1 u Mu):Keeps w0 M u Mu:=fun a cs ha hn=>k a cs (h a cs ha hn).1 (h a cs ha hn).2
def Iter2(P:Program)(k:FuncId)(lb:Array Value)(enc:Nat→List Value)(N:Nat)(Li:List (List Blk))(w1:World)(M:List Nat):Prop:=
  ∀(τ:Type) (yv:Value) (U:τ→List Blk) (Φ:Nat→τ→Prop) (Ψ:τ→Prop) (s0:τ),
    (∀i s (R:List (List Blk)) (u:World) (Mu:List Nat),i<N→Φ i s→Keeps w1 M u Mu→Yld P yv (enc i).toArray (Mem u Mu (U s::R)) (fun b w=> ∃s',(bif b then Φ (i+1) s' else Ψ s')∧Mem u Mu (U s'::R) w))→
    Φ 0 s0→Mem w1 M (U s0::Li) w1→(∀k∈M,k∈(U s0::Li).flatten.map (·.b))→Calls P k (#[yv]++lb) w1 (Bj w1 (fun s=>Φ N s∨Ψ s) (fun _=>.tuple #[]) M (fun s=>U s::Li))
theorem Tt{Q:Exit→Act→World→Prop}{g:Operand}{ps:Array Tmp}{assign body:Code}{k:FuncId}{lb:Array Value}{enc:Nat→List Value}{N:Nat}{Lu:σ→List (List Blk)}{Li Lk:List (List Blk)}
    (is js ks:List Nat) (s0:σ) (Φ:Nat→σ→Prop) (Ψ:Code→σ→Prop) (psl:List Nat)
    (hg:ev n f g=.func (.func k) #[] lb) (hk: ∀x w,(callFunc k x).run P w=.ok (.enter k x) w)
    (hnd:(is++js++ks).Nodup) (hi:Ct LL is=Lu s0) (hj:Ct LL js=Li) (hkk:Ct LL ks=Lk)
    (hps:ps.toList=psl) (henc: ∀i,(enc i).length=psl.length) (h0:Φ 0 s0)
    (hit: ∀(D l:Nat) (ob:Loop) (w1:World),Mem w0 M (((dB D::lB l ob::Lu s0)++Li)++Lk) w1→Iter2 P k lb enc N Li w1 (((dB D::lB l ob::Lu s0)++Li).flatten.map (·.b)))
    (hbody: ∀(D l:Nat) (ob ob':Loop) (i:Nat) (s:σ) (u:World) (Mu:List Nat) (J:Act→World→Prop),i<N→Φ i s→Keeps w0 M u Mu→
      (∀f' L',W (some l) P (RQ u Mu D l ob' Lu (Φ (i+1)) Ψ) body n [] f' (Mem u Mu (dB D::lB l ob'::L'))→ ∀w',Mem u Mu (dB D::lB l ob::L') w'→J (Fr n [] f') w')→
      W (some l) P (Exit.then J D9) assign n [] ((psl.zip (enc i)).foldl (fun f p=>Ft f p.1 p.2) f) (Mem u Mu (dB D::lB l ob::Lu s)))
    (hdone: ∀(D l:Nat) (ob:Loop) (s:σ),Φ N s→ ∀w,Mem w0 M (((dB D::lB l ob::Lu s)++Li)++Lk) w→Q .normal (Fr n (mk D::ds) f) w)
    (hstop: ∀(D l:Nat) (ob:Loop) (c:Code) (s:σ),Ψ c s→W none P Q c n (mk D::ds) f (Mem w0 M (((dB D::lB l ob::Lu s)++Li)++Lk))):
    W none P Q (.rangeFunc g ps assign body) n ds f (Mem w0 M LL):=fun w hS=>by
  have hS1:Mem w0 M (Lu s0++Li++Lk) w:=hS.pick (is++js++ks) hnd (by rw[←hi,←hj,←hkk];simp[Ct])
  refine wpIn_rangeFunc ?_
  intro fn _
  obtain⟨rec,hrec⟩: ∃rec:LoopState→Option Code→Loop,rec=fun st pe=>{state:=st,pending:=pe,fn,tmps:=(Fr n ds f).tmps,params:=ps,assign,body,defers:=w.heap.size}:=⟨_,rfl⟩
  obtain⟨D,hD⟩: ∃D,D=w.heap.size:=⟨_,rfl⟩
  obtain⟨l,hl⟩: ∃l,l=w.heap.size+1:=⟨_,rfl⟩
  obtain⟨w1,hw1⟩: ∃w1,(w.alloc (.deferred (some []))).alloc (.loop (rec .ready none))=w1:=⟨_,rfl⟩
  have hm:Mem w0 M (((dB D::lB l (rec .ready none)::Lu s0)++Li)++Lk) w1:=by
    have h1:=(hS1.allocO (.deferred (some []))).allocO (.loop (rec .ready none))
    rw[←hw1]
    refine Mem.perm ?_ h1
    simp only[List.flatten_append,List.flatten_cons,dB,lB,hD,hl,List.cons_append,List.nil_append,List.append_assoc,Array.size_push]
    exact List.Perm.swap _ _ _
  let U:σ×Option Code→List Blk:=fun s=>dB D++lB l (rec (if s.2.isNone then .ready else .done) s.2)++(Lu s.1).flatten
  have hU: ∀(s:σ) (pe:Option Code) (R:List (List Blk)),(U (s,pe)::R).flatten=((dB D::lB l (rec (if pe.isNone then .ready else .done) pe)::Lu s)++R).flatten:=fun s pe R=>by
    simp[U,List.flatten_append]
  obtain⟨M1,hM1⟩: ∃M1,M1=((dB D::lB l (rec .ready none)::Lu s0)++Li).flatten.map (·.b):=⟨_,rfl⟩
  have hloc:Mem w1 M1 (U (s0,none)::Li) w1:=by
    rw[hM1];exact(Mem.local hm).flat (hU s0 none Li).symm
  have hsubM: ∀k∈M1,k∈(U (s0,none)::Li).flatten.map (·.b):=fun k hk=>by
    rw[hU s0 none Li];rw[hM1]at hk;exact hk
  have hback: ∀{LL':List (List Blk)} {w':World},Mem w1 M1 LL' w'→Mem w0 M (LL'++Lk) w':=fun h=>Mem.back hm (by rw[hM1]at h;exact h)
  have hkp:Keeps w0 M w1 M1:=fun a cs hat hne=>by
    have h2:=C2 (L:=(dB D::lB l (rec .ready none)::Lu s0)++Li) (R:=Lk) hat hne hm
    rw[hM1];exact h2
  refine⟨l,[mk D],w1,{target:=.fn (.func k) lb,args:= #[.func (.yield l) #[] #[]]},w1,k,#[.func (.yield l) #[] #[]]++lb,w1,?_,?_,fun _ _=>trivial,?_,fun h=>(by cases h),?_⟩
  · rw[←hw1,hrec,hl];simp only[mk,hD];exact run_enterLoop_outer _ _ _ _ _
  · simp only[resolve,C1,hg]
    simp[go_sem];rfl
  · simp[invoke,go_sem,hk]
  have hI:=hit D l _ w1 hm
  rw[←hM1]at hI
  refine G6 (Calls.mono (hI (σ×Option Code) (.func (.yield l) #[] #[]) U (fun i s=>Φ i s.1∧s.2=none) (fun s=> ∃c,s.2=some c∧Ψ c s.1) (s0,none) ?_ ⟨h0,rfl⟩ hloc hsubM) ?_)
  · rintro i ⟨s,pe⟩ R ub Mub hiN ⟨hΦ,hpe⟩ hkb u hu
    simp only at hpe hΦ;subst hpe
    have hul:u.heap[l]? =some (.loop (rec .ready none)):=hu.at (i:=0) (j:=1) (p:=⟨l,_⟩) rfl rfl
    obtain⟨Mu,hMu⟩: ∃Mu,Mu=(U (s,none)).map (·.b):=⟨_,rfl⟩
    have hloc2:Mem u Mu (dB D::lB l (rec .ready none)::Lu s) u:=by
      have h1:Mem u Mu [U (s,none)] u:=by rw[hMu];exact hu.one (i:=0) rfl
      exact h1.flat (by have:=hU s none [];simpa using this)
    have hback2: ∀{s':σ} {pe:Option Code} {w':World},Mem u Mu (dB D::lB l (rec (if pe.isNone then .ready else .done) pe)::Lu s') w'→Mem ub Mub (U (s',pe)::R) w':=fun {s' pe w'} h=>by
      have h1:Mem u ([U (s,none)].flatten.map (·.b)) [U (s',pe)] w':=by
        simp only[List.flatten_cons,List.flatten_nil,List.append_nil];rw[←hMu]
        exact h.flat (by have:=hU s' pe [];simpa using this.symm)
      exact Mem.back (LL:=[U (s,none)]) (R:=R) hu h1
    refine⟨.round l fn ((ps.zip (enc i).toArray).foldl (fun t (p:Nat×Value)=>t.setIfInBounds p.1 p.2) (Fr n ds f).tmps) assign body,?_,?_⟩
    · have:=run_yield (P:=P) (args:=(enc i).toArray) hul (by rw[hrec];simp only[List.size_toArray];rw[henc,←hps];simp)
      rw[hrec]at this
      simp only[P4,Deferred.ofValue,Sem.run_bind]
      simp[go_sem,invoke,this]
    refine roundIn_of_wpIn (F:=Cy none) trivial ?_
    have et:(ps.zip (enc i).toArray).foldl (fun t (p:Nat×Value)=>t.setIfInBounds p.1 p.2) (Fr n ds f).tmps=(Fr n [] ((psl.zip (enc i)).foldl (fun f p=>Ft f p.1 p.2) f)).tmps:=by
      rw[←Jw (ds:=ds),←hps]
      rw[←Array.foldl_toList,Array.toList_zip]
    rw[et]
    refine hbody D l (rec .ready none) (rec .busy none) i s u Mu _ hiN hΦ ?_ ?_ u hloc2
    · intro a cs hat hne
      obtain⟨h1,h2⟩:=hkp.trans hkb a cs hat hne
      have h3:=C2 (L:=[U (s,none)]) (R:=R) h1 h2 (by simpa using hu)
      rw[hMu];simpa using h3
    intro f' L' hW w' hm'
    have hl':w'.heap[l]? =some (.loop (rec .ready none)):=hm'.at (i:=1) (j:=0) (p:=⟨l,_⟩) rfl rfl
    have hlt':=(Array.getElem?_eq_some_iff.1 hl').1
    refine⟨w'.putObj l (.loop (rec .busy none)),?_,?_⟩
    · have:=run_beginRound (P:=P) hl' (by rw[hrec]);rw[this,hrec]
    have hm2:Mem u Mu (dB D::lB l (rec .busy none)::L') (w'.putObj l (.loop (rec .busy none))):=
      hm'.putO (s:=lB l (rec .ready none)) (i:=1) (j:=0) rfl rfl rfl rfl rfl (by simp) (fun k _ hk=>World.putObj_heap_other hk) (World.putObj_heap_same hlt')
    refine wpIn_mono (hW _ hm2) ?_
    have fin: ∀(jump:Option Code) (s':σ) (w3:World),Mem u Mu (dB D::lB l (rec .busy none)::Lu s') w3→
        (Instr.endRound l jump).run P w3=.ok (.bool jump.isNone) (w3.putObj l (.loop (rec (if jump.isNone then .ready else .done) jump)))∧
        Mem ub Mub (U (s',jump)::R) (w3.putObj l (.loop (rec (if jump.isNone then .ready else .done) jump))):=fun jump s' w3 h3=>by
      have hl3:w3.heap[l]? =some (.loop (rec .busy none)):=h3.at (i:=1) (j:=0) (p:=⟨l,_⟩) rfl rfl
      have hlt3:=(Array.getElem?_eq_some_iff.1 hl3).1
      refine⟨?_,hback2 ?_⟩
      · have:=run_endRound (P:=P) jump hl3;rw[this,hrec]
      · exact h3.putO (s:=lB l (rec .busy none)) (i:=1) (j:=0) rfl rfl rfl rfl rfl (by simp) (fun k _ hk=>World.putObj_heap_other hk) (World.putObj_heap_same hlt3)
    rintro e a3 w3 hp
    cases e with
    |normal=>
      obtain⟨s',hs',h3⟩:=hp
      obtain⟨hr,h4⟩:=fin none s' w3 h3
      exact⟨_,_,hr,true,rfl,(s',none),⟨hs',rfl⟩,h4⟩
    |ret=>
      obtain⟨s',hs',h3⟩:=hp
      obtain⟨hr,h4⟩:=fin (some .ret) s' w3 h3
      exact⟨_,_,hr,false,rfl,(s',some .ret),⟨_,rfl,hs'⟩,h4⟩
    |exit id=>
      obtain⟨s',hs',h3⟩:=hp
      obtain⟨hr,h4⟩:=fin (some (.exit id)) s' w3 h3
      exact⟨_,_,hr,false,rfl,(s',some (.exit id)),⟨_,rfl,hs'⟩,h4⟩
    |goto t=>exact hp.elim
    |panic ch=>exact hp.elim
    |outgrown=>exact hp.elim
  · rintro e w2 ⟨⟨s,pe⟩,hor,rfl,hm2⟩
    have hl2:w2.heap[l]? =some (.loop (rec (if pe.isNone then .ready else .done) pe)):=hm2.at (i:=0) (j:=1) (p:=⟨l,_⟩) rfl rfl
    have hlt2:=(Array.getElem?_eq_some_iff.1 hl2).1
    have he:(Instr.endLoop l).run P w2=.ok pe (w2.putObj l (.loop (rec .exhausted pe))):=by
      have:=run_endLoop (P:=P) hl2 (by rw[hrec];cases pe<;>simp);rw[this,hrec]
    have h3:Mem w0 M (((dB D::lB l (rec .exhausted pe)::Lu s)++Li)++Lk) (w2.putObj l (.loop (rec .exhausted pe))):=by
      have h1:Mem w0 M (((dB D::lB l (rec (if pe.isNone then .ready else .done) pe)::Lu s)++Li)++Lk) w2:=(hback hm2).flat (by rw[List.flatten_append,hU s pe Li,←List.flatten_append])
      exact h1.putO (s:=lB l (rec (if pe.isNone then .ready else .done) pe)) (i:=1) (j:=0) rfl rfl rfl rfl rfl (by simp) (fun k _ hk=>World.putObj_heap_other hk) (World.putObj_heap_same hlt2)
    refine⟨pe,_,he,?_⟩
    rcases hor with⟨hΦ,hpe⟩|⟨c,hpe,hΨ⟩
    · simp only at hpe hΦ;subst hpe
      exact hdone D l _ s hΦ _ h3
    · simp only at hpe hΨ;subst hpe
      exact hstop D l _ c s hΨ _ h3
theorem Iter2.cast{k:FuncId}{lb:Array Value}{enc enc':Nat→List Value}{N N':Nat}{Li Li':List (List Blk)}{w1:World}{M:List Nat}(h:Iter2 P k lb enc N Li w1 M)(he:enc=enc')(hN:N=N')(hL:Li=Li'):Iter2 P k lb enc' N' Li' w1 M:=by
  subst he;subst hN;subst hL;exact h
end
end Go.Proofs.YtmonlaoaengfdaaGreatDoor.Base
set_option maxRecDepth 20000
namespace Go.Proofs.YtmonlaoaengfdaaGreatDoor.Oct
open Go.RowKit Base
attribute [local irreducible] Ys Yc Ht HtS HtIn Wl Wd W Mem pf D4 Wa Wo
set_option linter.unusedSectionVars false
structure LO(K:Type) where
  lt:K→K→Bool
  irr: ∀a,lt a a=false
  tr: ∀{a b c},lt a b=true→lt b c=true→lt a c=true
  tri: ∀{a b},lt a b=false→lt b a=false→a=b
def LO.cmp{K:Type}(o:LO K)(a b:K):Int:=bif o.lt a b then-1 else bif o.lt b a then 1 else 0
theorem An4{K:Type}(o:LO K){a b:K}(h:o.lt a b=true):o.lt b a=false:=by
  cases hb:o.lt b a
  · rfl
  · have:=o.tr h hb;rw[o.irr]at this;cases this
theorem LO.ne{K:Type}(o:LO K){a b:K}(h:o.lt a b=true):a≠b:=fun e=>by rw[e,o.irr]at h;cases h
theorem G3{K:Type}(o:LO K){a b:K}:o.cmp a b<0↔o.lt a b=true:=by
  unfold LO.cmp
  cases h1:o.lt a b<;>cases h2:o.lt b a<;>simp
theorem LO.cmp_eq{K:Type}(o:LO K){a b:K}:o.cmp a b=0↔a=b:=by
  unfold LO.cmp
  constructor
  · cases h1:o.lt a b<;>cases h2:o.lt b a<;>simp
    exact o.tri h1 h2
  · rintro rfl;rw[o.irr];rfl
def LO.int:LO Int:=⟨fun a b=>decide (a<b),fun a=>by simp,fun {a b c} h1 h2=>by simp at h1 h2⊢;omega,fun {a b} h1 h2=>by simp at h1 h2;omega⟩
def Fy{A B:Type} [DecidableEq A](p:LO A)(q:LO B):LO (A×B) where
  lt x y:=p.lt x.1 y.1||(decide (x.1=y.1)&&q.lt x.2 y.2)
  irr a:=by rw[p.irr,q.irr];simp
  tr {a b c} h1 h2:=by
    simp only[Bool.or_eq_true,Bool.and_eq_true,decide_eq_true_eq]at h1 h2⊢
    rcases h1 with h1|⟨e1,h1⟩<;>rcases h2 with h2|⟨e2,h2⟩
    · exact .inl (p.tr h1 h2)
    · exact .inl (e2▸h1)
    · exact .inl (e1▸h2)
    · exact .inr ⟨e1.trans e2,q.tr h1 h2⟩
  tri {a b} h1 h2:=by
    simp only[Bool.or_eq_false_iff,Bool.and_eq_false_iff,decide_eq_false_iff_not]at h1 h2
    have e:=p.tri h1.1 h2.1
    exact Prod.ext e (q.tri (h1.2.resolve_left (fun h=>h e)) (h2.2.resolve_left (fun h=>h e.symm)))
theorem Fz{A B:Type} [DecidableEq A](p:LO A)(q:LO B)(x y:A×B):(Fy p q).cmp x y=bif decide (p.cmp x.1 y.1=0)then q.cmp x.2 y.2 else p.cmp x.1 y.1:=by
  by_cases e:x.1=y.1
  · rw[decide_eq_true (p.cmp_eq.2 e)]
    simp[LO.cmp,Fy,e,p.irr]
  · rw[decide_eq_false (fun h=>e (p.cmp_eq.1 h))]
    have e': ¬y.1=x.1:=fun h=>e h.symm
    simp[LO.cmp,Fy,e,e']
section
variable {K V:Type} [DecidableEq K](o:LO K)(d:K×V)
def Be(xs:List (K×V))(k:K):Nat:=(xs.takeWhile fun p=>o.lt p.1 k).length
def Bl(xs:List (K×V))(k:K):Bool:=xs.any fun p=>decide (p.1=k)
def Fn(xs:List (K×V)):Prop:=xs.Pairwise fun p q=>o.lt p.1 q.1=true
def Bo(v0:V):List (K×V)→K→V
  | [],_=>v0
  |x::xs,k=>if x.1=k then x.2 else Bo v0 xs k
def H5:List (K×V)→K→V→List (K×V)
  | [],k,v=>[(k,v)]
  |x::xs,k,v=>if o.lt x.1 k=true then x::H5 xs k v else if x.1=k then(k,v)::xs else(k,v)::x::xs
def C0(xs:List (K×V))(k:K):List (K×V):=xs.filter fun p=> !decide (p.1=k)
def Kr(most:Int)(xs:List (K×V))(k:K):Int:=bif Bl xs k then 0 else bif decide (((xs.length:Nat):Int)≥most)then 20 else 0
def Db(most:Int)(xs:List (K×V))(k:K)(v:V):List (K×V):=bif Bl xs k then H5 o xs k v else bif decide (((xs.length:Nat):Int)≥most)then xs else H5 o xs k v
variable {o}{xs ys:List (K×V)}{x p:K×V}{k:K}{v v0:V}{most:Int}
theorem Jx(h:o.lt x.1 k=true):Be o (x::xs) k=Be o xs k+1:=by unfold Be;rw[List.takeWhile_cons,if_pos h,List.length_cons]
theorem Jy(h:o.lt x.1 k=false):Be o (x::xs) k=0:=by unfold Be;rw[List.takeWhile_cons,if_neg (by rw[h];decide)];rfl
theorem F8:Be o xs k≤xs.length:=by unfold Be;exact(List.takeWhile_sublist _).length_le
theorem Ou(hS:Fn o (x::xs))(h:o.lt x.1 k=false): ∀p∈xs,p.1≠k:=fun p hp e=>by
  have:=(List.pairwise_cons.1 hS).1 p hp
  rw[e,h]at this;cases this
theorem F1: ∀{xs:List (K×V)},Fn o xs→ ∀{h:Nat},h<xs.length→(o.lt (xs.getD h d).1 k=true↔h<Be o xs k)
  | [],_,h,hh=>by simp at hh
  |x::xs,hs,h,hh=>by
    have hs':=List.pairwise_cons.1 hs
    cases hx:o.lt x.1 k with
    |true=>
      rw[Jx hx]
      cases h with
      |zero=>simpa using hx
      |succ h=>rw[List.getD_cons_succ,F1 hs'.2 (by simpa using hh)];omega
    |false=>
      rw[Jy hx]
      cases h with
      |zero=>simp[hx]
      |succ h=>
        have hh':h<xs.length:=by simpa using hh
        have h1:=hs'.1 (xs.getD h d) (by rw[List.getD_eq_getElem?_getD,List.getElem?_eq_getElem hh'];exact List.getElem_mem _)
        rw[List.getD_cons_succ]
        constructor
        · intro h2;rw[o.tr h1 h2]at hx;cases hx
        · intro h2;omega
theorem Fc:Bl xs k=true↔ ∃v,(k,v)∈xs:=by
  unfold Bl
  rw[List.any_eq_true]
  constructor
  · rintro⟨p,hp,h⟩;exact⟨p.2,by rw[←of_decide_eq_true h];exact hp⟩
  · rintro⟨v,hv⟩;exact⟨_,hv,by simp⟩
theorem He:Bl xs k=false↔ ∀p∈xs,p.1≠k:=by
  unfold Bl;rw[List.any_eq_false];simp
theorem Ec:Bl (x::xs) k=(decide (x.1=k)||Bl xs k):=rfl
theorem Jf: ∀{xs:List (K×V)},Fn o xs→(decide (Be o xs k<xs.length)&&decide ((xs.getD (Be o xs k) d).1=k))=Bl xs k
  | [],_=>by simp[Bl,Be]
  |x::xs,hs=>by
    cases hx:o.lt x.1 k with
    |true=>
      rw[Jx hx,List.getD_cons_succ,List.length_cons,Ec,decide_eq_false (o.ne hx),Bool.false_or,←Jf (List.pairwise_cons.1 hs).2]
      congr 1;exact decide_eq_decide.2 Ag
    |false=>
      rw[Jy hx,List.getD_cons_zero,List.length_cons,decide_eq_true Ag,Bool.true_and,Ec,(He).2 (Ou hs hx),Bool.or_false]
theorem F9(hs:Fn o xs)(h:Bl xs k=true):Be o xs k<xs.length∧(xs.getD (Be o xs k) d).1=k:=by
  rw[←Jf d hs]at h;simpa using h
theorem Lr: ∀{xs:List (K×V)},Fn o xs→Bl xs k=true→H5 o xs k v=xs.set (Be o xs k) (k,v)
  | [],_,h=>by cases h
  |x::xs,hs,h=>by
    unfold H5
    cases hx:o.lt x.1 k with
    |true=>
      rw[Ec,decide_eq_false (o.ne hx),Bool.false_or]at h
      rw[Jx hx,if_pos rfl,List.set_cons_succ,Lr (List.pairwise_cons.1 hs).2 h]
    |false=>
      rw[Ec,(He).2 (Ou hs hx),Bool.or_false]at h
      rw[Jy hx,if_neg Al,if_pos (of_decide_eq_true h)];rfl
theorem Jz: ∀{xs:List (K×V)},Bl xs k=false→H5 o xs k v=xs.take (Be o xs k)++(k,v)::xs.drop (Be o xs k)
  | [],_=>rfl
  |x::xs,h=>by
    rw[Ec,Bool.or_eq_false_iff]at h
    unfold H5
    cases hx:o.lt x.1 k with
    |true=>rw[Jx hx,if_pos rfl,List.take_succ_cons,List.drop_succ_cons,Jz h.2];rfl
    |false=>rw[Jy hx,if_neg Al,if_neg (of_decide_eq_false h.1)];rfl
theorem Jg: ∀{xs:List (K×V)},Fn o xs→Bl xs k=true→C0 xs k=xs.take (Be o xs k)++xs.drop (Be o xs k+1)
  | [],_,h=>by cases h
  |x::xs,hs,h=>by
    unfold C0
    cases hx:o.lt x.1 k with
    |true=>
      rw[Ec,decide_eq_false (o.ne hx),Bool.false_or]at h
      have ih:=Jg (List.pairwise_cons.1 hs).2 h
      unfold C0 at ih
      rw[Jx hx,List.filter_cons,if_pos (by simp[o.ne hx]),ih,List.take_succ_cons,List.drop_succ_cons];rfl
    |false=>
      have hn:=Ou hs hx
      rw[Ec,(He).2 hn,Bool.or_false]at h
      rw[Jy hx,List.filter_cons,if_neg (by simp[of_decide_eq_true h]),List.take_zero,List.nil_append,List.drop_succ_cons,List.drop_zero]
      exact List.filter_eq_self.2 fun p hp=>by simp[hn p hp]
theorem Ls(h:Bl xs k=false):C0 xs k=xs:=List.filter_eq_self.2 fun p hp=>by simp[He.1 h p hp]
theorem Nt: ∀{xs:List (K×V)},Fn o xs→Bl xs k=true→Bo v0 xs k=(xs.getD (Be o xs k) d).2
  | [],_,h=>by cases h
  |x::xs,hs,h=>by
    unfold Bo
    cases hx:o.lt x.1 k with
    |true=>
      rw[Ec,decide_eq_false (o.ne hx),Bool.false_or]at h
      rw[Jx hx,if_neg (o.ne hx),List.getD_cons_succ,Nt (List.pairwise_cons.1 hs).2 h]
    |false=>
      rw[Ec,(He).2 (Ou hs hx),Bool.or_false]at h
      rw[Jy hx,if_pos (of_decide_eq_true h)];rfl
theorem Is: ∀{xs:List (K×V)},Bl xs k=false→Bo v0 xs k=v0
  | [],_=>rfl
  |x::xs,h=>by
    rw[Ec,Bool.or_eq_false_iff]at h
    unfold Bo
    rw[if_neg (of_decide_eq_false h.1),Is h.2]
theorem C7: ∀{xs:List (K×V)},Fn o xs→ ∀{p},(p∈H5 o xs k v↔p=(k,v)∨(p∈xs∧p.1≠k))
  | [],_,p=>by simp[H5]
  |x::xs,hs,p=>by
    unfold H5
    cases hx:o.lt x.1 k with
    |true=>
      have hne:=o.ne hx
      rw[if_pos rfl,List.mem_cons,C7 (List.pairwise_cons.1 hs).2,List.mem_cons]
      constructor
      · rintro(rfl|h|h)
        · exact .inr ⟨.inl rfl,hne⟩
        · exact .inl h
        · exact .inr ⟨.inr h.1,h.2⟩
      · rintro(h|⟨rfl|h,h2⟩)
        · exact .inr (.inl h)
        · exact .inl rfl
        · exact .inr (.inr ⟨h,h2⟩)
    |false=>
      have hn:=Ou hs hx
      rw[if_neg Al]
      by_cases hk:x.1=k
      · rw[if_pos hk,List.mem_cons,List.mem_cons]
        constructor
        · rintro(h|h)
          · exact .inl h
          · exact .inr ⟨.inr h,hn p h⟩
        · rintro(h|⟨rfl|h,h2⟩)
          · exact .inl h
          · exact absurd hk h2
          · exact .inr h
      · rw[if_neg hk,List.mem_cons,List.mem_cons]
        constructor
        · rintro(h|rfl|h)
          · exact .inl h
          · exact .inr ⟨.inl rfl,hk⟩
          · exact .inr ⟨.inr h,hn p h⟩
        · rintro(h|⟨h,h2⟩)
          · exact .inl h
          · exact .inr h
theorem Ov: ∀{xs:List (K×V)},Fn o xs→Fn o (H5 o xs k v)
  | [],_=>List.pairwise_singleton _ _
  |x::xs,hs=>by
    have hs':=List.pairwise_cons.1 hs
    unfold H5
    cases hx:o.lt x.1 k with
    |true=>
      rw[if_pos rfl]
      refine List.pairwise_cons.2 ⟨fun p hp=>?_,Ov hs'.2⟩
      rcases(C7 hs'.2).1 hp with rfl|⟨hp,_⟩
      · exact hx
      · exact hs'.1 p hp
    |false=>
      rw[if_neg Al]
      by_cases hk:x.1=k
      · rw[if_pos hk]
        exact List.pairwise_cons.2 ⟨fun p hp=>by have:=hs'.1 p hp;rw[hk]at this;exact this,hs'.2⟩
      · rw[if_neg hk]
        have hlt:o.lt k x.1=true:=by
          cases h:o.lt k x.1 with
          |true=>rfl
          |false=>exact absurd (o.tri hx h) hk
        refine List.pairwise_cons.2 ⟨fun p hp=>?_,hs⟩
        rcases List.mem_cons.1 hp with rfl|hp
        · exact hlt
        · exact o.tr hlt (hs'.1 p hp)
theorem G4:p∈C0 xs k↔p∈xs∧p.1≠k:=by unfold C0;rw[List.mem_filter];simp
theorem Mf(hs:Fn o xs):Fn o (C0 xs k):=List.Pairwise.sublist List.filter_sublist hs
theorem Zy(hs:Fn o xs){a b:V}(ha:(k,a)∈xs)(hb:(k,b)∈xs):a=b:=by
  obtain⟨i,hi,ei⟩:=List.getElem_of_mem ha
  obtain⟨j,hj,ej⟩:=List.getElem_of_mem hb
  have h2:=List.pairwise_iff_getElem.1 hs
  rcases Nat.lt_trichotomy i j with h|h|h
  · have:=h2 i j hi hj h;rw[ei,ej,o.irr]at this;cases this
  · subst h;rw[ei]at ej;exact congrArg Prod.snd ej
  · have:=h2 j i hj hi h;rw[ei,ej,o.irr]at this;cases this
theorem H6(hs:Fn o xs)(h:(k,v)∈xs):Bo v0 xs k=v:=by
  induction xs with
  |nil=>cases h
  |cons x xs ih=>
    unfold Bo
    by_cases hk:x.1=k
    · rw[if_pos hk]
      refine Zy hs (k:=k) ?_ h
      rw[←hk];exact List.mem_cons_self ..
    · rw[if_neg hk]
      rcases List.mem_cons.1 h with e|h
      · rw[←e]at hk;exact absurd rfl hk
      · exact ih (List.pairwise_cons.1 hs).2 h
theorem D5: ∀{xs:List (K×V)},Bl xs k=true→(k,Bo v0 xs k)∈xs
  | [],h=>by cases h
  |x::xs,h=>by
    unfold Bo
    by_cases hk:x.1=k
    · rw[if_pos hk]
      have e:(k,x.2)=x:=by rw[←hk]
      rw[e];exact List.mem_cons_self ..
    · rw[if_neg hk]
      rw[Ec,decide_eq_false hk,Bool.false_or]at h
      exact List.mem_cons_of_mem _ (D5 h)
theorem Tu(hs:Fn o xs):(H5 o xs k v).length=bif Bl xs k then xs.length else xs.length+1:=by
  cases h:Bl xs k
  · rw[Jz h];have:=F8 (o:=o) (xs:=xs) (k:=k);simp;omega
  · rw[Lr hs h];simp
theorem X3(hs:Fn o xs):(C0 xs k).length=bif Bl xs k then xs.length-1 else xs.length:=by
  cases h:Bl xs k
  · rw[Ls h];rfl
  · rw[Jg hs h]
    by_cases hn:xs=[]
    · subst hn;cases h
    · obtain⟨x,l,rfl⟩:=List.exists_cons_of_ne_nil hn
      have:=(F9 x hs h).1
      simp only[cond_true,List.length_append,List.length_take,List.length_drop];omega
theorem Ow(hs:Fn o xs):Fn o (Db o most xs k v):=by
  unfold Db
  cases Bl xs k
  · cases(decide (((xs.length:Nat):Int)≥most))
    · exact Ov hs
    · exact hs
  · exact Ov hs
theorem Mg(hs:Fn o xs)(h:(xs.length:Int)≤most):((Db o most xs k v).length:Int)≤most:=by
  unfold Db
  cases hh:Bl xs k
  · by_cases hm:(xs.length:Int)≥most
    · rw[decide_eq_true hm];exact h
    · rw[decide_eq_false hm];show((H5 o xs k v).length:Int)≤most;rw[Tu hs,hh];simp only[cond_false];omega
  · show((H5 o xs k v).length:Int)≤most;rw[Tu hs,hh];exact h
theorem Ox(hs:Fn o xs):(C0 xs k).length≤xs.length:=by rw[X3 hs];cases Bl xs k;exact Nat.le_refl _;exact Nat.sub_le _ _
end
section
variable {α:Type}{g:α→List Value}{sz:Nat}
theorem It(xs ys:List α):mm g (xs++ys)=mm g xs++mm g ys:=by simp[mm]
theorem Iu(x:α)(xs:List α):mm g (x::xs)=g x++mm g xs:=by simp[mm]
theorem Gx(hg: ∀x,(g x).length=sz): ∀(xs:List α) (i:Nat),(mm g xs).drop (i*sz)=mm g (xs.drop i)
  |xs,0=>by simp
  | [],i+1=>by simp[mm]
  |x::xs,i+1=>by
    rw[Iu,List.drop_succ_cons,show(i+1)*sz=(g x).length+i*sz by rw[hg,Nat.add_mul];omega,←List.drop_drop,List.drop_left]
    exact Gx hg xs i
theorem Gy(hg: ∀x,(g x).length=sz): ∀(xs:List α) (i:Nat),(mm g xs).take (i*sz)=mm g (xs.take i)
  |xs,0=>by simp[mm]
  | [],i+1=>by simp[mm]
  |x::xs,i+1=>by
    rw[Iu,List.take_succ_cons,Iu,show(i+1)*sz=(g x).length+i*sz by rw[hg,Nat.add_mul];omega,List.take_append,Nat.add_sub_cancel_left,Gy hg xs i]
    rw[List.take_of_length_le Ag]
theorem Gq(hg: ∀x,∀v∈g x,v.oneCell'=true)(xs:List α): ∀v∈mm g xs,v.oneCell'=true:=fun v hv=>by
  obtain⟨x,_,hx⟩:=List.mem_flatMap.1 hv
  exact hg x v hx
end
end Go.Proofs.YtmonlaoaengfdaaGreatDoor.Oct
namespace Go.Proofs.YtmonlaoaengfdaaGreatDoor.Base
section
variable {r:Option Nat}{P:Program}{Q:Exit→Act→World→Prop}{S:World→Prop}{n:Nat}{ds:List Deferred}{f:Nat→Value}
def Wr(r:Option Nat)(P:Program)(Q:Exit→Act→World→Prop)(c:Code)(m:Nat)(n:Nat)(ds:List Deferred)(f:Nat→Value)(S:World→Prop):Prop:= ∀w,S w→Code.roundsIn (Cy r) 0 P c Q m (Fr n ds f) w
theorem H7{c:Code}(m:Nat)(h:Wr r P Q c m n ds f S):W r P Q (.loop c) n ds f S:=fun w hS=>wpIn_loop_rounds m (h w hS)
theorem C4{c:Code}{m:Nat}(h: ∀K:Act→World→Prop,(∀ds f' (S':World→Prop),Wr r P Q c m n ds f' S'→ ∀w,S' w→K (Fr n ds f') w)→W r P (Exit.then K Q) c n ds f S):Wr r P Q c (m+1) n ds f S:=fun w hS=>by
  rw[roundsIn_succ]
  exact h _ (fun ds f' S' hW w' hw'=>hW w' hw') w hS
end
end Go.Proofs.YtmonlaoaengfdaaGreatDoor.Base
