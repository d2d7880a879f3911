import Derived.Test.YtmonlaoaengfdaaGreatDoorM6
import Derived.Test.YtmonlaoaengfdaaGreatDoorM2
set_option linter.unusedVariables false
set_option linter.unusedSimpArgs false
set_option maxRecDepth 20000
namespace Go.Proofs.YtmonlaoaengfdaaGreatDoor.Oct
open Go.RowKit Base Tryz
attribute [local irreducible] Ys Yc Ht HtS HtIn Wl Wd W Mem pf Ez KW
structure SV where
  a:Option Addr
  xs:List UInt8
  cap:Nat
instance :Inhabited SV:=⟨⟨none,[],0⟩⟩
abbrev Pg(p:SV):Value:=.slice p.a p.xs.length p.cap
def jn(ps:List SV):List UInt8:=(ps.map (·.xs)).flatten
theorem L9{ps:List SV}{k:Nat}(h:k<ps.length):jn (ps.take (k+1))=jn (ps.take k)++(ps.getD k default).xs:=by
  unfold jn;rw[List.take_add_one,List.map_append,List.flatten_append];simp[h]
theorem G1(ps:List SV)(k:Nat):(jn (ps.take k)).length≤(jn ps).length:=by
  have:jn ps=jn (ps.take k)++jn (ps.drop k):=by unfold jn;rw[←List.flatten_append,←List.map_append,List.take_append_drop]
  rw[this,List.length_append];omega
theorem Ada{ps:List SV}{k:Nat}(h:ps.length≤k):jn (ps.take k)=jn ps:=by rw[List.take_of_length_le h]
theorem Xk{ps:List SV}(h:ps.length=1):jn ps=(ps.getD 0 default).xs:=by
  match ps,h with
  | [p],_=>simp[jn]
theorem Wi{ps:List SV}(h:0<ps.length):jn (ps.take 1)=(ps.getD 0 default).xs:=by
  match ps,h with
  |p::_,_=>simp[jn]
theorem Uk{ps:List SV}{k:Nat}(h:k<ps.length):ps.getD k default∈ps:=by
  rw[List.getD_eq_getElem?_getD,List.getElem?_eq_getElem h];exact List.getElem_mem h
theorem Io(ps:List SV)(k:Nat):(ps.drop 1).getD k default=ps.getD (k+1) default:=by
  simp[List.getD_eq_getElem?_getD,List.getElem?_drop,Nat.add_comm]
theorem Adb{ps:List SV}{k:Nat}(h:k<ps.length):(ps.getD k default).xs.length≤(jn ps).length:=by
  have b:=congrArg List.length (L9 h)
  have c:=G1 ps (k+1)
  rw[List.length_append]at b;omega
theorem Ald{ps:List SV}{k:Nat}(h:k+1<ps.length):(jn (ps.take (k+1))).length+((ps.drop 1).getD k default).xs.length≤(jn ps).length:=by
  rw[Io]
  have b:=congrArg List.length (L9 h)
  have c:=G1 ps (k+1+1)
  rw[List.length_append]at b;omega
theorem Adc{zs ys xs:List UInt8}{k:Nat}(h:zs.take k=xs)(c:k≤zs.length)(d:k+ys.length≤zs.length):(zs.take k++ys++zs.drop (k+ys.length)).take (k+ys.length)=xs++ys:=by
  have b:(zs.take k++ys).length=k+ys.length:=by simp;omega
  rw[←b,List.take_left,h]
theorem Zi{zs ys xs:List UInt8}{k:Nat}(h:zs.take k=xs):(zs.take k++[]++zs.drop (k+([]:List UInt8).length)).take k++ys++(zs.take k++[]++zs.drop (k+([]:List UInt8).length)).drop (k+ys.length)=zs.take k++ys++zs.drop (k+ys.length):=by
  rw[List.append_nil,List.length_nil,Nat.add_zero,List.take_append_drop]
theorem Zj{zs ys:List UInt8}{k:Nat}(b:k+ys.length≤zs.length):(zs.take k++ys++zs.drop (k+ys.length)).length=zs.length:=by
  simp;omega
theorem Ale(ps:List SV)(f:Option Addr)(d:Nat)(w:World)(o:At w f (mc Pg ps))(T: ∀p∈ps,At w p.a (Cx p.xs))(aj:(jn ps).length≤1000000000000)(hn:ps.length≤1000000000)(aw:ps.length≤d):Calls prog 176 #[sL f ps.length d,sL none 0 0] w (Bn w (fun g:FS=>g.ok 1 (jn ps).length∧(2≤ps.length→g.nil=false)) (fun g=>.slice g.a (jn ps).length g.cap) [] (fun g=>[g.seg 5 (Cx (jn ps))])):=by
 refine Ap (M:=[]) (LL:=[]) (n:=92) func176 rfl rfl A7 (Mem.refl _)<|Aj []<|W.s<|Aj [] ?_
 refine Ak (((ps.length:Nat):Int)==0) Aa (fun h5=>?_) fun h6=>?_
 ·have U:=h5;try simp only[zA]at U
  refine Av<|Af rfl (Bj (mk:=fun b_=>.slice (some ⟨b_,0,none⟩) 0 0) (t:=5) (cs:=[]) rfl fun _=>kr) fun C=>Ab 1<|Ay ?_
  refine A9<|Am rfl<|D9 rfl (Ar<|sL (some ⟨C,0,none⟩) 0 0) fun r x=>⟨⟨false,C,0,[]⟩,⟨(by rw[List.length_eq_zero_iff.1 (show ps.length=0 by omega)];exact D4 An),fun _=>rfl⟩,Eo<|(by rw[List.length_eq_zero_iff.1 (show ps.length=0 by omega)];rfl),(Mem.cast (by rw[List.length_eq_zero_iff.1 (show ps.length=0 by omega)];rfl) x)⟩
 ·have V:=h6;try simp only[zA]at V
  refine Ag<|A9<|W.s<|Aj [] ?_
  refine Ak (((ps.length:Nat):Int)==1) Aa (fun X=>?_) fun Y=>?_
  ·have D:=X;try simp only[zA]at D
   refine Av<|Ab 1<|Ao (v:=pL<|some<|Cs f 0) (Bb fun r l=>Aq (k:=.i64) (a:=f) (len:=ps.length) (cap:=d) (i:=0) (sz:=1) rfl Aa Aa runUnderlying284 sizeOf38 Ae Ae<|(o.mem0 l).here Iu)<|Ao (v:=sL ((ps.getD 0 default).a) ((ps.getD 0 default).xs.length)<|(ps.getD 0 default).cap) (Ys.ld (a:=Cs f 0) rfl Aa isAgg38 fun r l=>(o.mem0 l).ld<|Ft default Fp) ?_
   have ak:=Adb (ps:=ps) (k:=0) Ae
   refine Agn<|Aw rfl (HtS.append (eu:=5) (xv:=Value.slice ((ps.getD 0 default).a) ((ps.getD 0 default).xs.length)<|(ps.getD 0 default).cap) (i:=0) (g:=FS.nul) (e:=5) (ii:=(prog.info? 5).getD default) (z:=iV .u8 0) (sz:=1) (bytes:=1) (nn:=0) (m:=(ps.getD 0 default).xs.length) (k:=(ps.getD 0 default).xs.length) (xs:=mc b8 []) (news:=mc b8<|(ps.getD 0 default).xs) (cs':=mc b8<|(ps.getD 0 default).xs) (Lo:=fun B=>[B.seg 5 (mc b8<|(ps.getD 0 default).xs)]) rfl rfl Aa Aa Aa Aa Aa Aa Aa Aa Aa rfl (B6 _) (by first|rfl|simp[mc,Bc]) (fun _=>rfl) (Src.at (a:=(ps.getD 0 default).a) Va fun r l=>((T _<|Uk Ae).mem0 l)) Va (Ea (fun _=>rfl) _) Ey Ho Ey rfl fun _=>rfl) fun B E=>?_
   obtain⟨F,al,am⟩:=E
   refine Ab 1<|Ai<|Am rfl<|D9 rfl (Ar<|sV B<|(ps.getD 0 default).xs.length) fun r x=>⟨B,⟨(by rw[Xk Ae];exact F),fun h=>absurd h Ae⟩,Eo<|(by rw[Xk Ae]),(Mem.cast (by rw[Xk Ae]) x)⟩
  ·have G:=Y;try simp only[zA]at G
   refine Ag<|A9<|Aj []<|W.s<|Aj [] ?_
   refine B4 Aa<|Ag<|A9<|W.s<|Aj [] ?_
   refine W.block<|Dd [0,1,5,42,43,44] (fun(k:Nat)=>[Value.slice f ps.length d,Value.slice none 0 0,nV .i64<|(jn<|ps.take k).length,Value.slice f ps.length d,nV .i64 ps.length,nV .i64 k]) (fun(k:Nat)=>k≤ps.length) (fun(k:Nat)=>[]) (fun(k:Nat)=>ps.length-k) 0 (Eq.trans (b:=([Value.slice f ps.length d,Value.slice none 0 0,iV .i64 0,Value.slice f ps.length d,nV .i64 ps.length,iV .i64 0]:List Value)) Aa<|by simp[jn]) Sv (by rfl) fun k a0 a1 H I=>?_
   have hk:=H
   have a2:=G1 ps k;have a3:=G1 ps (k+1)
   refine Aj []<|W.s ?_
   refine Ak (decide<|((k:Nat):Int)<(ps.length:Int)) Aa (fun Z=>?_) fun aa=>?_
   ·have J:=Z;try simp only[zA]at J
    refine Ag<|A9<|W.s<|W.block<|W.s ?_
    refine Ac<|Ao (v:=pL<|some<|Cs f<|k*1) (Bb fun r l=>Aq (k:=.i64) (a:=f) (len:=ps.length) (cap:=d) (i:=(k:Int)) (sz:=1) rfl Aa Aa runUnderlying284 sizeOf38 Ae Ae<|(o.mem0 l).here Iu)<|Ao (v:=sL ((ps.getD k default).a) ((ps.getD k default).xs.length)<|(ps.getD k default).cap) (Ys.ld (a:=Cs f<|k*1) rfl Aa isAgg38 fun r l=>(o.mem0 l).ld<|Gi default Fp) ?_
    have an:=Adb (ps:=ps) (k:=k) Ae
    refine Ab 1<|Ai<|W.s<|W.s ?_
    refine Ac<|Ab 3<|Ao (v:=iV .i64<|9223372036854775807-((jn<|ps.take k).length:Int)) ((Ys.p (v:=.int .i64<|Hp .i64 9223372036854775807 ((jn<|ps.take k).length:Int))).conseq<|Ad<|Er rfl Ae Ae)<|Ab 1<|Ay ?_
    refine A9 ?_
    refine Ak (decide<|(((ps.getD k default).xs.length:Nat):Int)>(9223372036854775807-((jn<|ps.take k).length:Int))) Aa (fun ab=>?_) fun ad=>?_
    ·have L:=ab;try simp only[zA]at L
     (exfalso;have u:=congrArg List.length (L9 (ps:=ps) (k:=k) Ae);rw[List.length_append]at u;omega)
    ·have N:=ad;try simp only[zA]at N
     refine Ag<|A9<|Ac<|Ab 3<|Bw (((((jn<|ps.take k).length)+((ps.getD k default).xs.length)):Nat):Int) ((jn<|ps.take k).length:Int) ((ps.getD k default).xs.length:Int) ?_
     refine Ab 1<|Ai<|Ac<|Bw (((k+1):Nat):Int) (k:Int) 1 ?_
     refine Ab 1<|Ay ?_
     have u:=congrArg List.length (L9 (ps:=ps) (k:=k) Ae);rw[List.length_append]at u
     refine fun r l=>I (k+1) _ r Ae Sv ?_ l
     refine Eq.trans (b:=([Value.slice f ps.length d,Value.slice none 0 0,nV .i64<|((jn<|ps.take k).length)+((ps.getD k default).xs.length),Value.slice f ps.length d,nV .i64 ps.length,nV .i64 (k+1)]:List Value)) Aa<|by rw[u]
   ·have O:=aa;try simp only[zA]at O
    refine Cm<|A9<|W.s ?_
    have ae:(jn (ps.take k)).length=(jn ps).length:=by rw[Ada Ae]
    refine Ac<|Ab 1<|Af rfl (Sx (ps:= #[3]) (t:=38) (e:=5) (k:=(jn<|ps.take k).length) (fid:=184) (fn:=Tryz.f184) rfl rfl Aa Aa func184 Aa Aa Aa Aa Aa Ae) fun af=>?_
    obtain⟨c,ao,ap⟩:=af
    refine B0 (LL':=[[cb c.b (mc b8 c.zs) 5]]) rfl<|Ab 2<|Ao (v:=sL (some ⟨c.b,0,none⟩) ((jn<|ps.take k).length)<|(jn<|ps.take k).length) (Xa (a:=some ⟨c.b,0,none⟩) (len:=(jn<|ps.take k).length) (cap:=c.zs.length) (sz:=1) (k:=.i64) (i:=((jn<|ps.take k).length:Int)) (k':=.i64) (j:=((jn<|ps.take k).length:Int)) rfl Aa Aa Aa runUnderlying38 sizeOf5 Ae Ae Ae)<|Ab 1<|Ay ?_
    refine A9<|W.s ?_
    refine Ac<|Ab 2<|Ao (v:=pL<|some<|Cs f 0) (Bb fun r l=>Aq (k:=.i64) (a:=f) (len:=ps.length) (cap:=d) (i:=0) (sz:=1) rfl Aa Aa runUnderlying284 sizeOf38 Ae Ae<|(o.mem0 l).here Iu)<|Ao (v:=sL ((ps.getD 0 default).a) ((ps.getD 0 default).xs.length)<|(ps.getD 0 default).cap) (Ys.ld (a:=Cs f 0) rfl Aa isAgg38 fun r l=>(o.mem0 l).ld<|Ft default Fp) ?_
    have aq:=Adb (ps:=ps) (k:=0) Ae
    refine Af rfl (Tx (dl:=(jn<|ps.take k).length) (dc:=(jn<|ps.take k).length) (m:=(ps.getD 0 default).xs.length) (q:=(ps.getD 0 default).xs.length) (sz:=1) (o':=0) (i:=0) (j:=0) (e:=5) (ii:=(prog.info? 5).getD default) (b:=c.b) (t:=5) (xv:=Value.slice ((ps.getD 0 default).a) ((ps.getD 0 default).xs.length)<|(ps.getD 0 default).cap) (cs:=mc b8 c.zs) (news:=mc b8<|(ps.getD 0 default).xs) (cs':=mc b8<|c.zs.take 0++((ps.getD 0 default).xs)++c.zs.drop (0+((ps.getD 0 default).xs).length)) (LL':=[[cb c.b (mc b8<|c.zs.take 0++((ps.getD 0 default).xs)++c.zs.drop (0+((ps.getD 0 default).xs).length)) 5]]) rfl rfl Aa Aa Aa Aa Aa rfl rfl (fun _=>rfl) (by show min _ _=_;first|omega|(simp;omega)) (Src.at (a:=(ps.getD 0 default).a) Va fun r l=>((T _<|Uk Ae).mem0 l)) Af2 (Ea (fun _=>rfl) _) (Ab4 (g:=b8) c.zs ((ps.getD 0 default).xs) 0) rfl) fun _=>Ab 1<|Ai<|W.s ?_
    refine Av<|Ab 1<|Ao (v:=sL (Ds f d 1 1) (ps.length-1)<|d-1) (Br (a:=f) (len:=ps.length) (cap:=d) (sz:=1) (k:=.i64) (i:=1) rfl Aa Aa runUnderlying284 sizeOf38 Ae Ae)<|Ab 2 ?_
    refine Ai<|W.block<|Fx [1,8,9,70,71,72] (fun(m:Nat) (zs:List UInt8)=>[Value.slice none 0 0,Value.slice (some ⟨c.b,0,none⟩) ((jn<|ps.take k).length)<|(jn<|ps.take k).length,nV .i64<|(jn<|ps.take<|m+1).length,Value.slice (Ds f d 1 1) (ps.length-1)<|d-1,nV .i64<|ps.length-1,nV .i64 m]) (fun(m:Nat) (zs:List UInt8)=>m+1≤ps.length∧zs.length=c.zs.length∧zs.take (jn<|ps.take<|m+1).length=jn (ps.take<|m+1)) (fun(m:Nat) (zs:List UInt8)=>[[cb c.b (mc b8 zs) 5]]) (fun(m:Nat) (zs:List UInt8)=>ps.length-m) 0 (c.zs.take 0++((ps.getD 0 default).xs)++c.zs.drop (0+((ps.getD 0 default).xs).length)) (Eq.trans (b:=([Value.slice none 0 0,Value.slice (some ⟨c.b,0,none⟩) ((jn<|ps.take k).length)<|(jn<|ps.take k).length,nV .i64<|(ps.getD 0 default).xs.length,Value.slice (Ds f d 1 1) (ps.length-1)<|d-1,nV .i64<|ps.length-1,iV .i64 0]:List Value)) Aa<|by rw[Nat.zero_add,Wi Ae];rfl) ⟨Ae,(Zj (k:=0) Ae),(by rw[Wi Ae];simp)⟩ (by rfl) fun m zs a5 a6 P Q=>?_
    obtain⟨hm,ag,A⟩:=P
    have ar:=G1 ps (m+1);have au:=G1 ps (m+1+1)
    refine Aj []<|W.s ?_
    refine Ak (decide<|((m:Nat):Int)<((ps.length-1:Nat):Int)) Aa (fun ah=>?_) fun ai=>?_
    ·have R:=ah;try simp only[zA]at R
     refine Ag<|A9<|W.s<|W.block<|W.s ?_
     refine Ac<|Ao (v:=pL<|some<|Cs (Ds f d 1 1)<|m*1) (Bb fun r l=>Aq (k:=.i64) (a:=Ds f d 1 1) (len:=ps.length-1) (cap:=d-1) (i:=(m:Int)) (sz:=1) rfl Aa Aa runUnderlying284 sizeOf38 Ae Ae<|((o.mem0 l).mdrop d 1 Ae).here Iu)<|Ao (v:=sL (((ps.drop 1).getD m default).a) (((ps.drop 1).getD m default).xs.length)<|((ps.drop 1).getD m default).cap) (Ys.ld (a:=Cs (Ds f d 1 1)<|m*1) rfl Aa isAgg38 fun r l=>((o.mem0 l).mdrop d 1 Ae).ld<|Gi default Fp) ?_
     have av:=Ald (ps:=ps) (k:=m) Ae
     refine Ab 1<|Ai<|Av ?_
     refine Ab 3<|Ao (v:=Value.slice (Ds (some ⟨c.b,0,none⟩) ((jn<|ps.take k).length) ((jn<|ps.take<|m+1).length) 1) (((jn<|ps.take k).length)-((jn<|ps.take<|m+1).length))<|((jn<|ps.take k).length)-((jn<|ps.take<|m+1).length)) (Br (a:=some ⟨c.b,0,none⟩) (len:=(jn<|ps.take k).length) (cap:=(jn<|ps.take k).length) (sz:=1) (k:=.i64) (i:=((jn<|ps.take<|m+1).length:Int)) rfl Aa Aa runUnderlying38 sizeOf5 Ae Ae)<|Ab 1<|Af rfl (Cy (cap:=((jn<|ps.take k).length)) (dl:=((jn<|ps.take k).length)-((jn<|ps.take<|m+1).length)) (dc:=((jn<|ps.take k).length)-((jn<|ps.take<|m+1).length)) (m:=0) (q:=0) (sz:=1) (o':=(jn<|ps.take<|m+1).length) (i:=0) (j:=0) (e:=5) (ii:=(prog.info? 5).getD default) (b:=c.b) (t:=5) (xv:=Value.slice none 0 0) (cs:=mc b8 zs) (news:=mc b8 []) (cs':=mc b8<|zs.take ((jn<|ps.take<|m+1).length)++[]++zs.drop ((jn<|ps.take<|m+1).length+[].length)) (LL':=[[cb c.b (mc b8<|zs.take ((jn<|ps.take<|m+1).length)++[]++zs.drop ((jn<|ps.take<|m+1).length+[].length)) 5]]) rfl rfl Aa Aa Aa Aa Ae Aa rfl rfl (fun _=>rfl) (by show min _ _=_;first|omega|(simp;omega)) (Src.at (a:=none) (by simp[mc]) fun _ _=>At.nil _ _) Va Af2 (Ea (fun _=>rfl) _) (Po (g:=b8) zs []<|(jn<|ps.take<|m+1).length) rfl) fun _=>Bw (((((jn<|ps.take<|m+1).length)+0):Nat):Int) ((jn<|ps.take<|m+1).length:Int) 0 ?_
     refine Ab 1<|Ai<|Ac<|Ab 3 ?_
     refine Ao (v:=Value.slice (Ds (some ⟨c.b,0,none⟩) ((jn<|ps.take k).length) (((jn<|ps.take<|m+1).length)+0) 1) (((jn<|ps.take k).length)-(((jn<|ps.take<|m+1).length)+0))<|((jn<|ps.take k).length)-(((jn<|ps.take<|m+1).length)+0)) (Br (a:=some ⟨c.b,0,none⟩) (len:=(jn<|ps.take k).length) (cap:=(jn<|ps.take k).length) (sz:=1) (k:=.i64) (i:=((((jn<|ps.take<|m+1).length)+0:Nat):Int)) rfl Aa Aa runUnderlying38 sizeOf5 Ae Ae)<|Ab 1<|Af rfl (Cy (cap:=((jn<|ps.take k).length)) (dl:=((jn<|ps.take k).length)-(((jn<|ps.take<|m+1).length)+0)) (dc:=((jn<|ps.take k).length)-(((jn<|ps.take<|m+1).length)+0)) (m:=((ps.drop 1).getD m default).xs.length) (q:=((ps.drop 1).getD m default).xs.length) (sz:=1) (o':=((jn<|ps.take<|m+1).length)+0) (i:=0) (j:=0) (e:=5) (ii:=(prog.info? 5).getD default) (b:=c.b) (t:=5) (xv:=Value.slice (((ps.drop 1).getD m default).a) (((ps.drop 1).getD m default).xs.length)<|((ps.drop 1).getD m default).cap) (cs:=mc b8<|zs.take ((jn<|ps.take<|m+1).length)++[]++zs.drop ((jn<|ps.take<|m+1).length+[].length)) (news:=mc b8<|((ps.drop 1).getD m default).xs) (cs':=mc b8<|(zs.take ((jn<|ps.take<|m+1).length)++[]++zs.drop ((jn<|ps.take<|m+1).length+[].length)).take (((jn<|ps.take<|m+1).length)+0)++(((ps.drop 1).getD m default).xs)++(zs.take ((jn<|ps.take<|m+1).length)++[]++zs.drop ((jn<|ps.take<|m+1).length+[].length)).drop (((jn<|ps.take<|m+1).length)+0+(((ps.drop 1).getD m default).xs).length)) (LL':=[[cb c.b (mc b8<|(zs.take ((jn<|ps.take<|m+1).length)++[]++zs.drop ((jn<|ps.take<|m+1).length+[].length)).take (((jn<|ps.take<|m+1).length)+0)++(((ps.drop 1).getD m default).xs)++(zs.take ((jn<|ps.take<|m+1).length)++[]++zs.drop ((jn<|ps.take<|m+1).length+[].length)).drop (((jn<|ps.take<|m+1).length)+0+(((ps.drop 1).getD m default).xs).length)) 5]]) rfl rfl Aa Aa Aa Aa Ae Aa rfl rfl (fun _=>rfl) (by show min _ _=_;first|omega|(simp;omega)) (Src.at (a:=((ps.drop 1).getD m default).a) Va fun r l=>((T _<|by rw[Io];exact Uk Ae).mem0 l)) Va Af2 (Ea (fun _=>rfl) _) (Po (g:=b8) (zs.take ((jn<|ps.take<|m+1).length)++[]++zs.drop ((jn<|ps.take<|m+1).length+[].length)) (((ps.drop 1).getD m default).xs)<|((jn<|ps.take<|m+1).length)+0) rfl) fun _=>Bw ((((((jn<|ps.take<|m+1).length)+0)+(((ps.drop 1).getD m default).xs.length)):Nat):Int) ((((jn<|ps.take<|m+1).length)+0:Nat):Int) (((ps.drop 1).getD m default).xs.length:Int)<|Ab 1 ?_
     refine Ai<|Ac<|Bw (((m+1):Nat):Int) (m:Int) 1<|Ab 1 ?_
     refine Ay ?_
     have u:=congrArg List.length (L9 (ps:=ps) (k:=m+1) Ae);rw[List.length_append]at u
     refine fun r l=>Q (m+1) ((zs.take ((jn<|ps.take<|m+1).length)++[]++zs.drop ((jn<|ps.take<|m+1).length+[].length)).take (((jn<|ps.take<|m+1).length)+0)++(((ps.drop 1).getD m default).xs)++(zs.take ((jn<|ps.take<|m+1).length)++[]++zs.drop ((jn<|ps.take<|m+1).length+[].length)).drop (((jn<|ps.take<|m+1).length)+0+(((ps.drop 1).getD m default).xs).length)) _ r Ae ⟨Ae,(by rw[Io,Nat.add_zero (jn<|ps.take<|m+1).length,Zi A];exact(Zj Ae).trans ag),(by rw[Io,Nat.add_zero (jn<|ps.take<|m+1).length,Zi A,u,Adc A Ae Ae,L9 (k:=m+1) Ae])⟩ ?_ l
     refine Eq.trans (b:=([Value.slice none 0 0,Value.slice (some ⟨c.b,0,none⟩) ((jn<|ps.take k).length)<|(jn<|ps.take k).length,nV .i64<|(((jn<|ps.take<|m+1).length)+0)+(((ps.drop 1).getD m default).xs.length),Value.slice (Ds f d 1 1) (ps.length-1)<|d-1,nV .i64<|ps.length-1,nV .i64 (m+1)]:List Value)) Aa<|by rw[Io,Nat.add_zero,u]
    ·have S:=ai;try simp only[zA]at S
     refine Cm<|A9<|Aj []<|Am rfl<|D9 rfl (Ar<|Value.slice (some ⟨c.b,0,none⟩) ((jn<|ps.take k).length)<|(jn<|ps.take k).length) fun r x=>⟨⟨false,c.b,(jn ps).length,mc b8<|zs.drop (jn ps).length⟩,⟨⟨fun h=>(by cases h),Nat.le_refl _,by simp only[maxLen];omega,by simp only[Du,List.length_drop];omega⟩,fun _=>rfl⟩,Eo<|(by simp only[ae];rfl),(Mem.cast (by have he:=Ada (ps:=ps) (k:=m+1) Ae;rw[he]at A;show [[cb _ (mc b8 zs) 5]]=[[cb _ (mc b8 (jn ps)++mc b8 (zs.drop (jn ps).length)) 5]];rw[Fu];conv=>lhs;rw[←List.take_append_drop (jn ps).length zs,A]) x)⟩
theorem Ahs(ps:List SV)(e:Option Addr)(b:Nat)(w:World)(f:At w e (mc Pg ps))(t: ∀p∈ps,At w p.a (Cx p.xs))(c:(jn ps).length≤1000000000000)(u:ps.length≤1000000000)(i:ps.length≤b):Calls prog 144 #[sL e ps.length b] w (Bn w (fun g:FS=>g.ok 1 (jn ps).length∧(2≤ps.length→g.nil=false)) (fun g=>.slice g.a (jn ps).length g.cap) [] (fun g=>[g.seg 5 (Cx (jn ps))])):=by
 refine Ap (M:=[]) (LL:=[]) (n:=5) func144 rfl rfl A7 (Mem.refl _)<|Aj []<|Av<|Ab 1 ?_
 refine Aw rfl (Au [] [] fun x d A=>(Ale ps e b _ (f.mem0 d) (fun p h=>(t p h).mem0 d) c u i)) fun r j=>?_
 obtain⟨l,o⟩:=j
 refine Ab 1<|Ai<|Am rfl<|D9 rfl (Ar<|sV r<|(jn ps).length) fun x q=>⟨r,⟨l,o⟩,rfl,q⟩
theorem E8(ps:List SV)(zs:List UInt8)(d:Option Addr)(len b n:Nat)(w:World)(i:len=ps.length)(j:jn ps=zs)(e:zs.length=n)(f:At w d (mc Pg ps))(l: ∀p∈ps,At w p.a (Cx p.xs))(c:n≤1000000000000)(o:ps.length≤1000000000)(h:ps.length≤b):
    Calls prog 144 #[.slice d len b] w (Bn w (fun g:FS=>g.ok 1 n∧(2≤ps.length→g.nil=false)) (fun g=>.slice g.a n g.cap) [] (fun g=>[g.seg 5 (Cx zs)])):=by
  subst i;subst j;subst e;exact Ahs ps d b w f l c o h
def b2(b:List Nat):List UInt8:=(b.map (be 2)).flatten
theorem be2(n:Nat):be 2 n=[UInt8.ofNat (n/256),UInt8.ofNat n]:=rfl
theorem Xl(xs:List UInt8)(a:Option Addr)(cap:Nat)(c:Nat)(M:List Nat)(τ:Type)(j:Value)(U:τ→List Blk)(Φ:Nat→τ→Prop)(Ψ:τ→Prop)(B:τ)(w:World)(g:At w a (Cx xs))(h:0<(Cx xs).length→(a.getD default).block∉M)(hy:xs.length≤1000000000)(C:(∀i s (R:List (List Blk)),i<(pw xs).length→Φ i s→Yld prog j ((fun i:Nat=>[Value.int .i64 (i:Int),Value.int .u16 (((pw xs).getD i 0:Nat):Int)]) i).toArray (Mem w M (U s::R)) (fun b V=> ∃D,(bif b then Φ (i+1) D else Ψ D)∧Mem w M (U D::R) V)))(X:Φ 0 B)(Y:Mem w M [U B,[cb c [.slice a xs.length cap] 38]] w):Calls prog 185 #[j,pV c 0] w (Bn w (fun s:τ=>Φ (pw xs).length s∨Ψ s) (fun _=>.tuple #[]) M (fun s=>[U s,[cb c [.slice a xs.length cap] 38]])):=by
 refine Ap (M:=M) (LL:=[U B,[cb c [sL a xs.length cap] 38]]) (n:=36) func185 rfl rfl A7 (Y)<|Aj []<|W.block<|Fx [0,1,3] (fun(k:Nat) (s:τ)=>[j,pV c 0,nV .i64 (2*k)]) (fun(k:Nat) (s:τ)=>k≤(pw xs).length∧Φ k s) (fun(k:Nat) (s:τ)=>[U s,[cb c [sL a xs.length cap] 38]]) (fun(k:Nat) (s:τ)=>(pw xs).length-k) 0 B (Eq.trans (b:=([j,pV c 0,iV .i64 0]:List Value)) Aa A7) ⟨(Nat.zero_le _),X⟩ (by rfl) fun k s f3 J2 E F=>?_
 obtain⟨hk,l⟩:=E
 have Z:=Lp xs
 refine W.s<|Aj [(1,0)] ?_
 refine Ak (decide<|((2*k:Nat):Int)<(xs.length:Int)) Aa (fun h8=>?_) fun h9=>?_
 ·have G:=h8;try simp only[zA]at G
  refine Ag<|A9<|W.s<|W.block<|W.s ?_
  refine Ac<|A5 2 [(1,0)]<|Ao (v:=pL<|some<|Cs a<|(2*k)*1) (Bb fun e f=>Aq (k:=.i64) (a:=a) (len:=xs.length) (cap:=cap) (i:=((2*k:Nat):Int)) (sz:=1) rfl Aa Aa runUnderlying38 sizeOf5 Ae Ae<|(g.mem' f h).here Iu)<|Ao (v:=nV .u8<|(xs.getD (2*k) 0).toNat) (Ys.ld (a:=Cs a<|(2*k)*1) rfl Aa isAgg5 fun e f=>(g.mem' f h).ld<|Gi 0 Fp) ?_
  have Q:(xs.getD (2*k) 0).toNat<256:=UInt8.toNat_lt _
  refine Ao (v:=nV .u16<|(xs.getD (2*k) 0).toNat) ((Ys.p (v:=.int .u16<|Ct .u16 ((xs.getD (2*k) 0).toNat:Int))).conseq<|Ad<|Fb Ae Ae)<|Ao (v:=nV .u16<|(((xs.getD (2*k) 0).toNat)*256)%65536) ((Ys.p (v:=.int .u16<|Jb .u16 ((xs.getD (2*k) 0).toNat:Int) ((8:Nat):Int))).conseq<|Ad<|Hf rfl ((xs.getD (2*k) 0).toNat) 8 An)<|Ab 1<|Ai ?_
  refine W.s ?_
  refine Pm (w0:=w) (M:=M) _ [0,1,3,4] ([j,pV c 0,nV .i64<|2*k,nV .u16 ((pw xs).getD k 0)]) (True) ([U s,[cb c [sL a xs.length cap] 38]]) (fun ad o=>?_) fun ae S=>?_
  ·refine Av<|Ab 1<|Bw ((((2*k)+1):Nat):Int) ((2*k:Nat):Int) 1<|A5 3 [(1,0)] ?_
   refine Ai ?_
   refine Ak (decide<|(((2*k)+1:Nat):Int)<(xs.length:Int)) Aa (fun H=>?_) fun I=>?_
   ·have x:=H;try simp only[zA]at x
    refine Ac<|A5 3 [(1,0)]<|Bw ((((2*k)+1):Nat):Int) ((2*k:Nat):Int) 1<|Ao (v:=pL<|some<|Cs a<|((2*k)+1)*1) (Bb fun e f=>Aq (k:=.i64) (a:=a) (len:=xs.length) (cap:=cap) (i:=(((2*k)+1:Nat):Int)) (sz:=1) rfl Aa Aa runUnderlying38 sizeOf5 Ae Ae<|(g.mem' f h).here Iu)<|Ao (v:=nV .u8<|(xs.getD ((2*k)+1) 0).toNat) (Ys.ld (a:=Cs a<|((2*k)+1)*1) rfl Aa isAgg5 fun e f=>(g.mem' f h).ld<|Gi 0 Fp) ?_
    have T:(xs.getD ((2*k)+1) 0).toNat<256:=UInt8.toNat_lt _
    refine Ao (v:=nV .u16<|(xs.getD ((2*k)+1) 0).toNat) ((Ys.p (v:=.int .u16<|Ct .u16 ((xs.getD ((2*k)+1) 0).toNat:Int))).conseq<|Ad<|Fb Ae Ae)<|Ao (v:=nV .u16<|((((xs.getD (2*k) 0).toNat)*256)%65536)|||((xs.getD ((2*k)+1) 0).toNat)) ((Ys.p (v:=.int .u16<|bor .u16 (((((xs.getD (2*k) 0).toNat)*256)%65536:Nat):Int) ((xs.getD ((2*k)+1) 0).toNat:Int))).conseq<|Ad<|Kg rfl Jg Jg)<|Ab 1<|Ay ?_
    refine fun e f=>o _ e trivial ?_ f
    refine Eq.trans (b:=([j,pV c 0,nV .i64<|2*k,nV .u16 (((((xs.getD (2*k) 0).toNat)*256)%65536)|||((xs.getD ((2*k)+1) 0).toNat))]:List Value)) Aa<|by rw[Aow Ae]
   ·have A:=I;try simp only[zA]at A
    refine Ag ?_
    refine fun e f=>o _ e trivial ?_ f
    refine Eq.trans (b:=([j,pV c 0,nV .i64<|2*k,nV .u16 ((((xs.getD (2*k) 0).toNat)*256)%65536)]:List Value)) Aa<|by rw[Ahr Ae Ae]
  ·refine A9<|W.s ?_
   refine Ac<|Ab 2<|Ao (v:=nV .i64<|(2*k)/2) ((Ys.p (v:=.int .i64<|Pc .i64 ((2*k:Nat):Int) 2)).conseq<|Ad<|Rg Ae)<|Ab 1<|Nf rfl (Kh (σ:=τ) (Φ:=fun b s=>bif b then Φ (k+1) s else Ψ s) (Lf:=fun s=>[U s,[cb c [sL a xs.length cap] 38]]) (args:= #[nV .i64 ((2*k)/2),nV .u16 ((pw xs).getD k 0)]) rfl rfl (fun _=>kr)<|Nn (by have J:2*k/2=k:=Ae;try rw[J])<|C (k) s [[cb c [sL a xs.length cap] 38]] Ae l) fun L=>?_
   obtain⟨⟨q,r⟩,d⟩:=L
   refine B0 (LL':=[U r,[cb c [sL a xs.length cap] 38]]) rfl<|Ab 1<|Ai ?_
   refine Ak (!q) Aa (fun N=>?_) fun O=>?_
   ·refine Am rfl fun e t=>Iv rfl ⟨r,(.inr (by have u:q=false:=(by simpa using N);rw[u]at d;exact d)),rfl,t⟩
   ·refine Ag<|A9<|Ac<|Ab 1<|Bw ((((2*k)+2):Nat):Int) ((2*k:Nat):Int) 2 ?_
    refine Ab 1<|Ay ?_
    refine fun e f=>F (k+1) r _ e Ae ⟨Ae,(by have u:q=true:=(by simpa using O);rw[u]at d;exact d)⟩ ?_ f
    refine Eq.trans (b:=([j,pV c 0,nV .i64 ((2*k)+2)]:List Value)) Aa<|by simp;try omega
 ·have P:=h9;try simp only[zA]at P
  refine Cm ?_
  show∀e,_→bodyPostM (Cv none) 0 prog Tryz.f185 _ Exit.normal _ e
  exact fun e t=>Ei<|Iv rfl ⟨s,(.inl (by rw[show(pw xs).length=k by omega];exact l)),rfl,t⟩
theorem Ade(xs:List UInt8)(a:Option Addr)(len cap:Nat)(b:Nat)(M:List Nat)(w:World)(f:len=xs.length)(c:At w a (Cx xs))(d:0<(Cx xs).length→(a.getD default).block∉M)(g:xs.length≤1000000000):
    Iter prog 185 #[.pointer (some ⟨b,0,none⟩)] (fun i:Nat=>[Value.int .i64 (i:Int),Value.int .u16 (((pw xs).getD i 0:Nat):Int)]) (pw xs).length [[cb b [.slice a len cap] 38]] w M:=by
  subst f;exact fun τ h U Φ Ψ j e l n=>Xl xs a cap b M τ h U Φ Ψ j w c d g e l n
def fd(n:Nat):Nat:=if n=0 then 0 else(n-1)%65535+1
theorem Zk(n:Nat):fd n≤65535:=by unfold fd;split<;>omega
theorem R3{n:Nat}(h:n≤65535):fd n=n:=by unfold fd;split<;>omega
theorem Aht{m:Nat}(h:65535<m):fd (m/65536+m%65536)=fd m:=by
  unfold fd
  rw[if_neg Ae,if_neg Ae]
  omega
def E3(xs:List UInt8):Nat:=65535-fd (pw xs).sum
theorem R4{b:List Nat}{k:Nat}(h:k<b.length):(b.take (k+1)).sum=(b.take k).sum+b.getD k 0:=by
  rw[List.take_add_one,List.sum_append];simp[h]
theorem O5(b:List Nat)(h: ∀k,b.getD k 0<65536)(k:Nat):(b.take k).sum≤65535*k:=by
  induction k with
  |zero=>simp
  |succ k d=>
    rcases Nat.lt_or_ge k b.length with c|c
    · rw[R4 c];have:=h k;omega
    · rw[List.take_of_length_le Ae]at d⊢;omega
theorem Adf(n:Nat)(w:World)(i:n<18446744073709551616):Calls prog 178 #[nV .u64 n] w (Df w (.int .u16 (fd n:Int))):=by
 refine Ap (M:=[]) (LL:=[]) (n:=12) func178 rfl rfl A7 (Mem.refl _)<|Aj []<|W.s<|W.block<|Dd [0] (fun(m:Nat)=>[nV .u64 m]) (fun(m:Nat)=>fd m=fd n∧m<18446744073709551616) (fun(m:Nat)=>[]) (fun(m:Nat)=>m) n Aa ⟨rfl,i⟩ (by rfl) fun m r t e b=>?_
 obtain⟨h,j⟩:=e
 refine W.s<|Aj [] ?_
 refine Ak (decide<|((m:Nat):Int)>65535) Aa (fun l=>?_) fun f=>?_
 ·have g:=l;try simp only[zA]at g
  refine Ag<|A9<|W.block<|Ac<|Ab 1 ?_
  refine Ao (v:=nV .u64<|m/65536) ((Ys.p (v:=.int .u64<|Ib .u64 (m:Int) ((16:Nat):Int))).conseq<|Ad<|Fc m 16 An)<|Ab 1<|Ao (v:=nV .u64<|m%65536) ((Ys.p (v:=.int .u64<|Dw .u64 (m:Int) ((65535:Nat):Int))).conseq<|Ad<|H3 rfl (a:=m) (c:=16) K4 An 65535 rfl)<|Ao (v:=nV .u64<|(m/65536)+(m%65536)) ((Ys.p (v:=.int .u64<|D2 .u64 ((m/65536:Nat):Int) ((m%65536:Nat):Int))).conseq<|Ad<|H2 rfl K4)<|Ab 1 ?_
  refine Ay ?_
  refine fun o q=>b (m/65536+m%65536) _ o Ae ⟨((Aht Ae).trans h),Ae⟩ ?_ q
  kernel_rfl
 ·have d:=f;try simp only[zA]at d
  refine Cm<|A9<|Av<|Ab 1 ?_
  refine Ao (v:=nV .u16<|m%65536) ((Ys.p (v:=.int .u16<|Ct .u16 (m:Int))).conseq<|Ad<|Dn rfl _)<|Ab 1<|Ai<|Am rfl<|D7 rfl (Ar<|nV .u16<|m%65536)<|by clear b;exact Ad (by rw[←h,R3 Ae];omega)
theorem Aox(ps:List SV)(E:Option Addr)(c:Nat)(w:World)(F:At w E (mc Pg ps))(Y: ∀p∈ps,At w p.a (Cx p.xs))(R:(jn ps).length≤1000000000)(hn:ps.length≤1000000000)(Z:ps.length≤c):Calls prog 147 #[sL E ps.length c] w (Df w (.int .u16 (E3 (jn ps):Int))):=by
 refine Ap (M:=[]) (LL:=[]) (n:=18) func147 rfl rfl A7 (Mem.refl _)<|Aj []<|Av<|Af rfl (Ba zeroValue45) fun q=>?_
 refine Af rfl (Bd q 0 0 0 (iV .u64 0) sizeOf45 rfl rfl) fun _=>Ai<|W.s<|W.s ?_
 refine Ac<|Ab 1<|Aw rfl (Au [] [0] fun f b G=>(E8 ps (jn ps) E ps.length c ((jn ps).length) _ rfl rfl rfl (F.mem0 b) (fun p h=>(Y p h).mem0 b) Ae Ae Ae)) fun g r=>?_
 obtain⟨j,S⟩:=r
 refine Aw rfl (Au [] [0,1] fun f b G=>(Ac7 g.a ((jn ps).length) g.cap _)) fun d _=>Ai<|W.block ?_
 refine Ago (σ:=Nat) (enc:=fun i=>[nV .i64 i,nV .u16 ((pw<|jn ps).getD i 0)]) (N:=(pw<|jn ps).length) (Lu:=fun(e:Nat)=>[[cb q [nV .u64 e] 45]]) (Li:=[[cb d [sV g ((jn ps).length)] 38]]) (Lk:=[g.seg 5 (mc b8<|jn ps)]) [2] [0] [1] 0 (fun i (e:Nat)=>e=((pw<|jn ps).take i).sum) (fun c_ (e:Nat)=>False) [9,10] Aa (fun _ _=>rfl) An (by rfl) rfl rfl rfl (fun _=>rfl) (rfl) (fun D_ l_ H I b=>(Ade (jn ps) g.a ((jn ps).length) g.cap d _ I (by first|rfl|(simp;done)) (FS.at (i:=4) (t:=5) b rfl<|Ah j<|Bo _) (fun h0=>FS.other b [0,1,2,3] 4 An rfl j (Bo _) rfl h0) Ae)) ?_ ?_ ?_
 ·intro D17 ae T U i J af Mu24 ag V u L x
  obtain⟨t,rfl⟩: ∃O,O=J:=⟨_,rfl⟩
  have o:=u
  have hb:=Zh (jn ps) i;have P:=Lp (jn ps);have l:=O5 _ (Zh (jn ps)) i;rw[←o]at l
  refine Ac<|Ab 1<|Ay ?_
  refine fun f A=>x _ [[cb q [nV .u64 t] 45]] ?_ f A
  refine W.block<|Ac<|A5 2 [(2,0)]<|Ao (v:=nV .u64<|(pw<|jn ps).getD i 0) ((Ys.p (v:=.int .u64<|Ct .u64 (((pw<|jn ps).getD i 0:Nat):Int))).conseq<|Ad<|Co Ae Ae)<|Ao (v:=nV .u64<|t+((pw<|jn ps).getD i 0)) ((Ys.p (v:=.int .u64<|D2 .u64 (t:Int) (((pw<|jn ps).getD i 0:Nat):Int))).conseq<|Ad<|H2 rfl K4) ?_
  refine Af rfl (Bd q 0 2 0 (nV .u64<|t+((pw<|jn ps).getD i 0)) sizeOf45 rfl rfl) fun _=>Ay ?_
  exact fun f A=>Exists.intro (t+(pw<|jn ps).getD i 0)<|And.intro (by rw[R4 Ae,←o]) A
 ·intro D31 ah X Q B
  obtain⟨t,rfl⟩: ∃O,O=Q:=⟨_,rfl⟩
  have o:=B
  have P:=Lp (jn ps);have l:=O5 _ (Zh (jn ps)) (pw (jn ps)).length;rw[←o]at l;rw[List.take_length]at o;have ai:=Zk t
  refine Gc (LL':=[[cb d [sV g ((jn ps).length)] 38],g.seg 5<|mc b8<|jn ps,[cb q [nV .u64 t] 45],dB D31]) [3,4,2,0] An rfl<|A9<|Al [2,3] An rfl<|Av ?_
  refine A5 1 [(0,0)]<|Cb (v:=nV .u16<|fd t) (A8 fun f b=>Adf t _ Ae)<|Ao (v:=nV .u16<|65535-(fd t)) ((Ys.p (v:=.int .u16<|Sw .u16 ((65535:Nat):Int) (fd t:Int))).conseq<|Ad<|Ig rfl Jg 65535 rfl)<|Ab 1<|Ay ?_
  refine A9<|Al [1] An rfl<|Gu ?_
  show∀f,_→bodyPostM (Cv none) 0 prog Tryz.f147 _ Exit.ret _ f
  exact fun f C=>Fq (C.mark (i:=0) rfl).1 (by have D:Mem w [] [[⟨D31,.deferred none⟩]] _:=(C.mark (i:=0) rfl).2;exact Abx rfl (Ar<|nV .u16<|65535-(fd t)) D ⟨by refine Eo ?_;exact Ad (by rw[o];rfl),D.below⟩)
 ·intro D_ l_ H c_ s_ A;exact A.elim
theorem Ul(ps:List SV)(zs:List UInt8)(d:Option Addr)(len b n:Nat)(w:World)(h:len=ps.length)(i:jn ps=zs)(e:zs.length=n)(f:At w d (mc Pg ps))(j: ∀p∈ps,At w p.a (Cx p.xs))(c:n≤1000000000)(l:ps.length≤1000000000)(g:ps.length≤b):
    Calls prog 147 #[.slice d len b] w (Df w (.int .u16 (E3 zs:Int))):=by
  subst h;subst i;subst e;exact Aox ps d b w f j c l g
theorem Ahu(ps:List SV)(d:Option Addr)(b:Nat)(w:World)(e:At w d (mc Pg ps))(g: ∀p∈ps,At w p.a (Cx p.xs))(f:(jn ps).length≤1000000000)(j:ps.length≤1000000000)(i:ps.length≤b):Calls prog 133 #[sL d ps.length b] w (Df w (.bool (((E3 (jn ps):Nat):Int)==0))):=by
 refine Ap (M:=[]) (LL:=[]) (n:=6) func133 rfl rfl A7 (Mem.refl _)<|Aj []<|Av<|Ab 1 ?_
 refine Cb (v:=nV .u16<|E3<|jn ps) (A8 fun l c=>(Ul ps (jn ps) d ps.length b ((jn ps).length) _ rfl rfl rfl (e.mem0 c) (fun p h=>(g p h).mem0 c) Ae Ae Ae))<|Ab 2<|Ai<|Am rfl<|D7 rfl (Ar<|bV<|((E3 (jn ps):Nat):Int)==0) rfl
theorem R5(ps:List SV)(zs:List UInt8)(d:Option Addr)(len b n:Nat)(w:World)(h:len=ps.length)(i:jn ps=zs)(e:zs.length=n)(f:At w d (mc Pg ps))(j: ∀p∈ps,At w p.a (Cx p.xs))(c:n≤1000000000)(l:ps.length≤1000000000)(g:ps.length≤b):
    Calls prog 133 #[.slice d len b] w (Df w (.bool (((E3 zs:Nat):Int)==0))):=by
  subst h;subst i;subst e;exact Ahu ps d b w f j c l g
theorem Alf(a b:Nat)(w:World)(g:a<65536)(h:b<65536):Calls prog 159 #[nV .u16 a,nV .u16 b] w (Df w (.int .u16 (fd (a+b):Int))):=by
 refine Ap (M:=[]) (LL:=[]) (n:=17) func159 rfl rfl A7 (Mem.refl _)<|Aj []<|Av<|Ab 1 ?_
 refine Ao (v:=nV .i64 a) ((Ys.p (v:=.int .i64<|Ct .i64 (a:Int))).conseq<|Ad<|Dg Ae Ae)<|Ab 1<|Ao (v:=nV .i64 b) ((Ys.p (v:=.int .i64<|Ct .i64 (b:Int))).conseq<|Ad<|Dg Ae Ae)<|Bw (((a+b):Nat):Int) (a:Int) (b:Int)<|Ab 1 ?_
 refine Ai<|W.s<|Aj [] ?_
 refine Ak (decide<|((a+b:Nat):Int)>65535) Aa (fun e=>?_) fun f=>?_
 ·have c:=e;try simp only[zA]at c
  refine Ac<|Ab 1<|Ao (v:=iV .i64<|((a+b:Nat):Int)-65535) ((Ys.p (v:=.int .i64<|Hp .i64 ((a+b:Nat):Int) 65535)).conseq<|Ad<|Er rfl Ae Ae)<|Ab 1<|Ay ?_
  refine A9<|Aj []<|Am rfl<|D7 rfl (Ar<|iV .u16<|Ct .u16<|((a+b:Nat):Int)-65535) (by exact Ad (by first|(rw[R3 Ae];omega)|(show IntKind.wrap .u16 _=_;rw[Fb Ae Ae];unfold fd;rw[if_neg Ae];omega)))
 ·have d:=f;try simp only[zA]at d
  refine Ag<|A9<|Av<|Ab 1 ?_
  refine Ao (v:=nV .u16<|(a+b)%65536) ((Ys.p (v:=.int .u16<|Ct .u16 ((a+b:Nat):Int))).conseq<|Ad<|Dn rfl _)<|Ab 1<|Ai<|Am rfl<|D7 rfl (Ar<|nV .u16<|(a+b)%65536) (by exact Ad (by first|(rw[R3 Ae];omega)|(show IntKind.wrap .u16 _=_;rw[Fb Ae Ae];unfold fd;rw[if_neg Ae];omega)))
theorem Aoy(a b:Nat):fd (fd a+b)=fd (a+b):=by
  unfold fd;split<;>split<;>(try split)<;>omega
theorem Alg(xs:List UInt8)(a:Option Addr)(cap:Nat)(w:World)(o:At w a (Cx xs))(D:xs.length≤1000000000):Calls prog 106 #[sL a xs.length cap] w (Df w (.int .u16 (E3 xs:Int))):=by
 refine Ap (M:=[]) (LL:=[]) (n:=22) func106 rfl rfl A7 (Mem.refl _)<|Aj []<|Av<|Ab 1 ?_
 refine Aw rfl (Au [] [] fun l d A=>(Aak xs a xs.length cap _ (by first|rfl|(simp;done)) (o.mem0 d) D1)) fun c e=>Ab 2<|Ai<|W.s ?_
 refine Aj []<|W.block<|Dd [3,4,5] (fun(k:Nat)=>[sV c ((pw xs).length),nV .u16<|fd ((pw xs).take k).sum,nV .i64 k]) (fun(k:Nat)=>k≤(pw xs).length) (fun(k:Nat)=>[c.seg 22 (mc n16<|pw xs)]) (fun(k:Nat)=>(pw xs).length-k) 0 Aa Sv (by rfl) fun k B E f g=>?_
 have F:=f
 have G:=Zh xs k;have q:=Zk ((pw xs).take k).sum;have C:=Lp xs
 refine W.s<|Aj [] ?_
 refine Ak (decide<|((k:Nat):Int)<((pw xs).length:Int)) Aa (fun r=>?_) fun u=>?_
 ·have h:=r;try simp only[zA]at h
  refine Ag<|A9<|W.s<|W.block<|Ac ?_
  refine Ab 3<|Ao (v:=pL<|some<|Cs c.a<|k*1) (Aq (k:=.i64) (a:=c.a) (len:=(pw xs).length) (cap:=c.cap) (i:=(k:Int)) (sz:=1) rfl Aa Aa runUnderlying267 sizeOf22 Ae Ae<|by rw[Et (De e Ae)];rfl)<|Ao (v:=nV .u16<|(pw xs).getD k 0) (Ys.ld (a:=Cs c.a<|k*1) rfl Aa isAgg22 fun l x=>(FS.at (i:=0) (t:=22) x rfl<|Ah e<|Bo _).ld<|Gi 0 Fp)<|Cb (v:=nV .u16<|fd<|(fd ((pw xs).take k).sum)+((pw xs).getD k 0)) (A8 fun l d=>(Alf (fd ((pw xs).take k).sum) ((pw xs).getD k 0) _ Ae Ae))<|Ab 1 ?_
  refine Ai<|Ac<|Ab 1<|Bw (((k+1):Nat):Int) (k:Int) 1 ?_
  refine Ab 1<|Ay ?_
  refine fun l x=>g (k+1) _ l Ae Sv ?_ x
  refine Eq.trans (b:=([sV c ((pw xs).length),nV .u16<|fd<|(fd ((pw xs).take k).sum)+((pw xs).getD k 0),nV .i64 (k+1)]:List Value)) Aa<|by rw[Aoy,R4 Ae]
 ·have j:=u;try simp only[zA]at j
  refine Cm<|A9<|Al [] An rfl<|W.s ?_
  have q:=Zk ((pw xs).take k).sum
  refine Ac<|Ab 1<|Ao (v:=nV .u16<|65535-(fd ((pw xs).take k).sum)) ((Ys.p (v:=.int .u16<|Hp .u16 ((65535:Nat):Int) (fd ((pw xs).take k).sum:Int))).conseq<|Ad<|Aab rfl Ae Jg)<|Ab 1<|Ay ?_
  refine A9<|Am rfl<|D7 rfl (Ar<|nV .u16<|65535-(fd ((pw xs).take k).sum))<|by clear g;exact Ad (by rw[List.take_of_length_le Ae];rfl)
theorem Ahv(xs:List UInt8)(a:Option Addr)(len cap:Nat)(w:World)(c:len=xs.length)(b:At w a (Cx xs))(d:len≤1000000000):Calls prog 106 #[.slice a len cap] w (Df w (.int .u16 (E3 xs:Int))):=by
  subst c;exact Alg xs a cap w b d
def upc(n b next:Nat):Nat:=65535-fd ((65535-n)+(65535-b)+next)
theorem Adg(n a b:Nat):upc n a b≤65535:=by unfold upc;omega
theorem Xm: ∀(xs ys:List UInt8),xs.length%2=0→pw (xs++ys)=pw xs++pw ys
  | [],ys,_=>rfl
  | [_],_,h=>by simp at h
  |x::y::l,ys,h=>by
    have:=Xm l ys (by simp at h;omega)
    simp only[List.cons_append,pw,this]
theorem Alh{m:Nat}(h:m<65536):pw (be 2 m)=[m]:=by
  rw[be2]
  simp only[pw,UInt8.toNat_ofNat']
  congr 1;omega
theorem M0(xs:List UInt8):E3 xs≤65535:=by unfold E3;omega
theorem Oq{X:List UInt8}{j k:Nat}(h:j+k≤X.length):Dc (X.drop j) (k:Int)=(X.drop j).take k:=by
  rw[Ui (by rw[Ju,List.length_drop];omega),Ju]
theorem P0{X:List UInt8}{j k:Nat}(h:j+k≤X.length):D3 (X.drop j) (k:Int)=X.drop (j+k):=by
  rw[Uj (by rw[Ju,List.length_drop];omega),Ju,List.drop_drop]
theorem Ali{X:List UInt8}{j k:Nat}{b:Bool}(h:j+k≤X.length):Pf (X.drop j) b (k:Int)=b:=Ac6 (by rw[Ju,List.length_drop];omega)
theorem Ot(X:List UInt8)(a:Option Addr)(len cap:Nat)(d:Bool)(b j k:Nat)(w:World)(o:Mem w [b] [[cb b [.slice a len cap,.bool d] 283]] w)(g:At w a (Cx (X.drop j)))(t:len=X.length-j)(c:j+k≤X.length)(l:len≤cap)(u:X.length≤70368744177664)(q:k≤8):
    Calls prog 132 #[.pointer (some ⟨b,0,none⟩),.int .i64 (k:Int)] w (Bn w (fun x:EV=>View x.a (X.drop (j+k)) a (X.drop j)∧X.length-(j+k)≤x.cap) (fun x=>.int .u64 (bv ((X.drop j).take k):Int)) [b] (fun x=>[[cb b [.slice x.a (X.length-(j+k)) x.cap,.bool d] 283]])):=by
  have f:len=(X.drop j).length:=by rw[List.length_drop];omega
  have r:Bl (k:Int)=k:=by unfold Bl Pd Ep;repeat(first|omega|split)
  refine(Ahp (X.drop j) a len cap d b (k:Int) w f o g Ae Ae).mono ?_
  rw[r]
  rintro e A ⟨x,⟨n,h⟩,rfl,i⟩
  rw[P0 c]at n h
  refine⟨x,⟨n,by rw[List.length_drop]at h;exact h⟩,by dsimp only;rw[Oq c],?_⟩
  dsimp only at i⊢
  rw[P0 c,Ali c,List.length_drop]at i
  exact i
attribute [local irreducible] Wa Wo
theorem Wj(n:Nat)(w:World)(l:n<65536):Calls prog 102 #[nV .i64 n] w (Bn w (fun g:FS=>g.ok 1 2∧g.nil=false) (fun g=>.slice g.a 2 g.cap) [] (fun g=>[g.seg 5 (Cx (be 2 n))])):=by
 refine Ap (M:=[]) (LL:=[]) (n:=6) func102 rfl rfl A7 (Mem.refl _)<|Aj []<|Av<|Ab 1 ?_
 refine Ao (v:=nV .u64 n) ((Ys.p (v:=.int .u64<|Ct .u64 (n:Int))).conseq<|Ad<|Co Ae Ae)<|Aw rfl (Au [] [] fun h i j=>Xi 2 n Ae _) fun f b=>?_
 obtain⟨c,d⟩:=b
 refine Ab 1<|Ai<|Am rfl<|D9 rfl (Ar<|sV f 2) fun h e=>⟨f,⟨c,d⟩,rfl,e⟩
def Fa(s d:Nat)(pr:UInt8)(n:Nat):List UInt8:=be 4 s++be 4 d++[0,pr]++be 2 n
theorem B8(s d:Nat)(pr:UInt8)(n:Nat):(Fa s d pr n).length=12:=by unfold Fa;simp[Bc]
def Iw(zs:List UInt8)(k n:Nat):List UInt8:=zs.take k++be 2 n++zs.drop (k+2)
theorem Wk{zs:List UInt8}{k n:Nat}(h:k+2≤zs.length):(Iw zs k n).length=zs.length:=by unfold Iw;simp[Bc];omega
theorem Wm{zs:List UInt8}{k n:Nat}(h:k+2≤zs.length):(zs.set k (UInt8.ofNat (n/256))).set (k+1) (UInt8.ofNat (n%256))=Iw zs k n:=by
  have e:UInt8.ofNat (n%256)=UInt8.ofNat n:=Tc n
  rw[e]
  unfold Iw
  apply List.ext_getElem?
  intro i
  rw[List.getElem?_set,List.getElem?_set,List.length_set]
  have b:(zs.take k).length=k:=by rw[List.length_take];omega
  by_cases c:i<k
  · rw[if_neg Ae,if_neg Ae,List.append_assoc,List.getElem?_append_left Ae,List.getElem?_take,if_pos c]
  · rw[List.append_assoc,List.getElem?_append_right Ae,b]
    by_cases d:i=k
    · subst d;rw[if_neg Ae,if_pos rfl,if_pos Ae,Nat.sub_self];rfl
    · by_cases f:i=k+1
      · subst f;rw[if_pos rfl,if_pos Ae,show k+1-k=1 by omega];rfl
      · rw[if_neg Ae,if_neg Ae,List.getElem?_append_right (by rw[Bc];omega),Bc,List.getElem?_drop]
        congr 1;omega
theorem N0(s d:Nat)(pr:UInt8)(n:Nat)(w:World)(R:s<4294967296)(S:d<4294967296)(T:n<65536):Calls prog 134 #[nV .u32 s,nV .u32 d,nV .u8 pr.toNat,nV .i64 n] w (Bn w (fun g:FS=>g.ok 1 12) (fun g=>.slice g.a 12 g.cap) [] (fun g=>[g.seg 5 (Cx (Fa s d pr n))])):=by
 refine Ap (M:=[]) (LL:=[]) (n:=22) func134 rfl rfl A7 (Mem.refl _)<|Aj []<|Av<|Ab 1 ?_
 refine Ao (v:=nV .u64 s) ((Ys.p (v:=.int .u64<|Ct .u64 (s:Int))).conseq<|Ad<|Co Ae Ae)<|Aw rfl (Au [] [] fun E c l=>C7 4 s Ae _) fun q F=>?_
 obtain⟨G,P⟩:=F
 refine Ab 1<|Ao (v:=nV .u64 d) ((Ys.p (v:=.int .u64<|Ct .u64 (d:Int))).conseq<|Ad<|Co Ae Ae)<|Aw rfl (Au [] [0] fun E c l=>C7 4 d Ae _) fun r u=>?_
 obtain⟨H,L⟩:=u
 refine Ab 1<|Af rfl (Bj (mk:=fun I=>.slice (some ⟨I,0,none⟩) 2 2) (t:=5) (cs:=[iV .u8 0,nV .u8 pr.toNat]) rfl fun _=>kr) fun f=>?_
 refine Ab 1<|Ao (v:=nV .u64 n) ((Ys.p (v:=.int .u64<|Ct .u64 (n:Int))).conseq<|Ad<|Co Ae Ae)<|Aw rfl (Au [] [0,1,2] fun E c l=>C7 2 n Ae _) fun e x=>?_
 obtain⟨A,N⟩:=x
 refine Af rfl (Bj (mk:=fun I=>.slice (some ⟨I,0,none⟩) 4 4) (t:=38) (cs:=[sV q 4,sV r 4,Value.slice (some ⟨f,0,none⟩) 2 2,sV e 2]) rfl fun _=>kr) fun o=>Aw rfl (Au [] [0,1,2,3,4] fun E c l=>(E8 [⟨q.a,(be 4 s),q.cap⟩,⟨r.a,(be 4 d),r.cap⟩,⟨some ⟨f,0,none⟩,[(0:UInt8),pr],2⟩,⟨e.a,(be 2 n),e.cap⟩] ((be 4 s)++(be 4 d)++[(0:UInt8),pr]++(be 2 n)) (some ⟨o,0,none⟩) 4 4 (4+4+2+2) _ rfl (by simp[jn]) (by simp[Bc];try omega) (by first|exact A4 (i:=0) (j:=0) (t:=38) (b:=o) c rfl rfl|(rw[show mc Pg ([⟨q.a,(be 4 s),q.cap⟩,⟨r.a,(be 4 d),r.cap⟩,⟨some ⟨f,0,none⟩,[(0:UInt8),pr],2⟩,⟨e.a,(be 2 n),e.cap⟩]:List SV)=[sV q 4,sV r 4,Value.slice (some ⟨f,0,none⟩) 2 2,sV e 2] by(simp[mc,Bc];try omega)];exact A4 (i:=0) (j:=0) (t:=38) (b:=o) c rfl rfl)) (List.forall_mem_cons.2 ⟨(FS.at (i:=4) (t:=5) c rfl<|Ah G Fw),(List.forall_mem_cons.2 ⟨(FS.at (i:=3) (t:=5) c rfl<|Ah H Fw),(List.forall_mem_cons.2 ⟨(A4 (i:=2) (j:=0) (t:=5) (b:=f) c rfl rfl),(List.forall_mem_cons.2 ⟨(FS.at (i:=1) (t:=5) c rfl<|Ah A Fw),(fun _ h=>by cases h)⟩)⟩)⟩)⟩) (by first|omega|(simp[Bc];omega)) A7 A7)) fun B C=>?_
 obtain⟨D,O⟩:=C
 refine Ab 1<|Ai<|Al [0] An rfl<|Am rfl ?_
 have Q:Fa s d pr n=(be 4 s)++(be 4 d)++[(0:UInt8),pr]++(be 2 n):=rfl
 exact D9 rfl (Ar<|sV B<|4+4+2+2) fun E J=>⟨B,D,rfl,(Mem.cast (by rw[Q];rfl)<|J.pick [0] An rfl)⟩
def Ph(n b:Nat):Int:=if n<b then 10 else if 1480<n then 14 else 0
theorem R6(a:Option Addr)(len cap k:Nat)(w:World)(j:len≤9223372036854775807)(l:k≤100):Calls prog 130 #[sL a len cap,nV .i64 k] w (Df w (.int .i64 (Ph len k))):=by
 refine Ap (M:=[]) (LL:=[]) (n:=14) func130 rfl rfl A7 (Mem.refl _)<|Aj []<|W.s<|W.block<|Aj [] ?_
 refine Ak (decide<|((len:Nat):Int)<(k:Int)) Aa (fun h=>?_) fun i=>?_
 ·have d:=h;try simp only[zA]at d
  refine Aj []<|Am rfl<|D7 rfl (Ar<|iV .i64 10)<|by exact Ad Aj9
 ·have e:=i;try simp only[zA]at e
  refine Aj [] ?_
  refine Ak (decide<|((len:Nat):Int)>1480) Aa (fun f=>?_) fun g=>?_
  ·have b:=f;try simp only[zA]at b
   refine Aj []<|Am rfl<|D7 rfl (Ar<|iV .i64 14)<|by exact Ad Aj9
  ·have c:=g;try simp only[zA]at c
   refine Ag<|A9<|Aj []<|Am rfl<|D7 rfl (Ar<|iV .i64 0)<|by exact Ad Aj9
theorem Alj(g:FS)(zs:List UInt8)(k n:Nat)(M:List Nat)(w:World)(C:Mem w M [g.seg 5 (Cx zs)] w)(ok:g.ok 1 zs.length)(l:g.nil=false)(D:k+2≤zs.length)(J:zs.length≤1000000)(L:n<65536):Calls prog 146 #[sV g zs.length,nV .i64 k,nV .u16 n] w (Bn w (fun g:FS=>g.ok 1 zs.length∧g.nil=false) (fun g=>.slice g.a zs.length g.cap) M (fun g=>[g.seg 5 (Cx (Iw zs k n))])):=by
 refine Ap (M:=M) (LL:=[g.seg 5 (mc b8 zs)]) (n:=15) func146 rfl rfl A7 (C)<|Aj []<|W.s ?_
 have o:=l
 obtain⟨r,c,gc,h⟩:=g
 obtain rfl:r=false:=o
 have E:zs.length≤gc:=ok.le
 refine B3 [(0,true),(1,true),(2,true),(3,false),(4,false),(5,false),(6,false)] [0,1,2] (Mem w M []) Aa Aa Aa rfl Aa (fun _ _ d=>d.drawn _) (fun _ d=>d.pick [] An rfl)<|B5 2<|Bm (v:=sL (Ds (some ⟨c,0,none⟩) gc k 1) (zs.length-k)<|gc-k) rfl (Br (a:=some ⟨c,0,none⟩) (len:=zs.length) (cap:=gc) (sz:=1) (k:=.i64) (i:=(k:Int)) rfl Aa Aa runUnderlying38 sizeOf5 Ae Ae)<|Wd.mp 1 [] []<|Wd.yc (v:=nV .u64 n) rfl rfl rfl (Ys.yc<|(Ys.p (v:=.int .u64<|Ct .u64 (n:Int))).conseq<|Ad<|Co Ae Ae) (Ee []) ?_
 refine Ca rfl rfl (Au [] [0] fun B F G=>C7 2 n Ae _) (Az []) fun u f=>?_
 obtain⟨x,H⟩:=f
 refine Cj rfl rfl (Cy (cap:=gc) (dl:=zs.length-k) (dc:=gc-k) (m:=2) (q:=2) (sz:=1) (o':=k) (i:=1) (j:=0) (e:=5) (ii:=(prog.info? 5).getD default) (b:=c) (t:=5) (xv:=sV u 2) (cs:=(mc b8 zs)++h) (news:=mc b8<|be 2 n) (cs':=(mc b8<|zs.take k++(be 2 n)++zs.drop (k+(be 2 n).length))++h) (LL':=[u.seg 5 (mc b8<|be 2 n),[cb c ((mc b8<|zs.take k++(be 2 n)++zs.drop (k+(be 2 n).length))++h) 5]]) rfl rfl Aa Aa Aa Aa Ae Aa rfl rfl (fun _=>rfl) (by show min _ _=_;first|omega|(simp;omega)) (Src.at (a:=u.a) Va fun B d=>(FS.at (i:=0) (t:=5) d rfl<|Ah x Fw)) Va Af2 (Ea (fun _=>rfl) _) (Yu (by first|(simp[mc,Bc];done)|(simp[mc,Bc];omega))<|Po (g:=b8) zs (be 2 n) k) rfl) (Az []) fun _=>Cl<|Al [1] An rfl<|Aj [] ?_
 refine Am rfl ?_
 have I:=Wk (n:=n) D
 exact D9 rfl (Ar<|sL (some ⟨c,0,none⟩) zs.length gc) fun B A=>⟨(FS.mk false c gc h),⟨ok,rfl⟩,rfl,(Mem.cast (by unfold Iw;rw[Bc];rfl)<|A.pick [0] An rfl)⟩
theorem Aoz(g:FS)(zs:List UInt8)(k n:Nat)(M:List Nat)(w:World)(d:Mem w M [g.seg 5 (Cx zs)] w)(ok:g.ok 1 zs.length)(b:g.nil=false)(e:k+2≤zs.length)(f:zs.length≤1000000)(h:n<65536):Calls prog 104 #[sV g zs.length,nV .i64 k,nV .u16 n] w (Bn w (fun g:FS=>g.ok 1 zs.length∧g.nil=false) (fun g=>.slice g.a zs.length g.cap) M (fun g=>[g.seg 5 (Cx (Iw zs k n))])):=by
 refine Ap (M:=M) (LL:=[g.seg 5 (mc b8 zs)]) (n:=21) func104 rfl rfl A7 (d)<|Aj []<|Av<|Ab 3 ?_
 refine Ao (v:=nV .u16<|n/256) ((Ys.p (v:=.int .u16<|Pc .u16 (n:Int) ((256:Nat):Int))).conseq<|Ad<|Jl rfl Jg)<|Ao (v:=nV .u8<|(UInt8.ofNat<|n/256).toNat) ((Ys.p (v:=.int .u8<|Ct .u8 ((n/256:Nat):Int))).conseq<|Ad<|He _)<|Ao (v:=Value.pointer<|some<|Cs g.a<|k*1) (Aq (k:=.i64) (a:=g.a) (len:=zs.length) (cap:=g.cap) (i:=(k:Int)) (sz:=1) rfl Aa Aa runUnderlying38 sizeOf5 Ae Ae<|by rw[Et (b)];rfl)<|Af rfl (Ms (i:=0) (g:=g) (q:=k*1) (ty:=5) (cs:=mc b8 zs) (cs':=mc b8<|zs.set k<|UInt8.ofNat<|n/256) (v:=nV .u8<|(UInt8.ofNat<|n/256).toNat) (LL':=[g.seg 5 (mc b8<|zs.set k<|UInt8.ofNat<|n/256)]) rfl rfl Aa Aa sizeOf5 rfl (b) rfl (by first|(simp[mc,Bc];done)|(simp[mc,Bc];omega)) (Ty (g:=b8) zs k<|UInt8.ofNat<|n/256) rfl) fun _=>Ay ?_
 refine A9<|W.s ?_
 refine Ac<|Ab 2<|Bw (((k+1):Nat):Int) (k:Int) 1<|Ab 1<|Ao (v:=nV .u16<|n%256) ((Ys.p (v:=.int .u16<|Hw (n:Int) ((256:Nat):Int))).conseq<|Ad rfl) ?_
 refine Ao (v:=nV .u8<|(UInt8.ofNat<|n%256).toNat) ((Ys.p (v:=.int .u8<|Ct .u8 ((n%256:Nat):Int))).conseq<|Ad<|He _)<|Ao (v:=Value.pointer<|some<|Cs g.a<|(k+1)*1) (Aq (k:=.i64) (a:=g.a) (len:=zs.length) (cap:=g.cap) (i:=((k+1:Nat):Int)) (sz:=1) rfl Aa Aa runUnderlying38 sizeOf5 Ae Ae<|by rw[Et (b)];rfl)<|Af rfl (Ms (i:=0) (g:=g) (q:=(k+1)*1) (ty:=5) (cs:=mc b8<|zs.set k<|UInt8.ofNat<|n/256) (cs':=mc b8<|(zs.set k<|UInt8.ofNat<|n/256).set (k+1)<|UInt8.ofNat<|n%256) (v:=nV .u8<|(UInt8.ofNat<|n%256).toNat) (LL':=[g.seg 5 (mc b8<|(zs.set k<|UInt8.ofNat<|n/256).set (k+1)<|UInt8.ofNat<|n%256)]) rfl rfl Aa Aa sizeOf5 rfl (b) rfl (by first|(simp[mc,Bc];done)|(simp[mc,Bc];omega)) (Ty (g:=b8) (zs.set k<|UInt8.ofNat<|n/256) (k+1)<|UInt8.ofNat<|n%256) rfl) fun _=>Ai ?_
 refine Aj []<|Am rfl<|D9 rfl (Ar<|sV g zs.length) fun j c=>⟨g,⟨ok,b⟩,rfl,(Mem.cast (by rw[←Wm e];rfl)<|c.pick [0] An rfl)⟩
theorem Ku(g:FS)(zs:List UInt8)(len k n:Nat)(M:List Nat)(w:World)(b:len=zs.length)(d:Mem w M [g.seg 5 (Cx zs)] w)(ok:g.ok 1 len)(c:g.nil=false)(e:k+2≤zs.length)(f:zs.length≤1000000)(h:n<65536):
    Calls prog 146 #[.slice g.a len g.cap,.int .i64 (k:Int),.int .u16 (n:Int)] w (Bn w (fun g:FS=>g.ok 1 len∧g.nil=false) (fun g=>.slice g.a len g.cap) M (fun g=>[g.seg 5 (Cx (Iw zs k n))])):=by
  subst b;exact Alj g zs k n M w d ok c e f h
theorem Te(g:FS)(zs:List UInt8)(len k n:Nat)(M:List Nat)(w:World)(b:len=zs.length)(d:Mem w M [g.seg 5 (Cx zs)] w)(ok:g.ok 1 len)(c:g.nil=false)(e:k+2≤zs.length)(f:zs.length≤1000000)(h:n<65536):
    Calls prog 104 #[.slice g.a len g.cap,.int .i64 (k:Int),.int .u16 (n:Int)] w (Bn w (fun g:FS=>g.ok 1 len∧g.nil=false) (fun g=>.slice g.a len g.cap) M (fun g=>[g.seg 5 (Cx (Iw zs k n))])):=by
  subst b;exact Aoz g zs k n M w d ok c e f h
theorem Alk(s d:Nat)(pr:UInt8)(xs:List UInt8)(a:Option Addr)(cap:Nat)(w:World)(O:At w a (Cx xs))(hs:s<4294967296)(hd:d<4294967296)(hx:xs.length<65536)(af:xs.length≤cap):Calls prog 103 #[nV .u32 s,nV .u32 d,nV .u8 pr.toNat,sL a xs.length cap] w (Df w (.int .u16 (E3 (Fa s d pr xs.length++xs):Int))):=by
 refine Ap (M:=[]) (LL:=[]) (n:=29) func103 rfl rfl A7 (Mem.refl _)<|Aj []<|Av<|Ab 1 ?_
 refine Ao (v:=nV .u64 s) ((Ys.p (v:=.int .u64<|Ct .u64 (s:Int))).conseq<|Ad<|Co Ae Ae)<|Aw rfl (Au [] [] fun l f A=>Xi 4 s Ae _) fun g3 P=>?_
 obtain⟨Q,ah⟩:=P
 refine Ab 1<|Ao (v:=nV .u64 d) ((Ys.p (v:=.int .u64<|Ct .u64 (d:Int))).conseq<|Ad<|Co Ae Ae)<|Aw rfl (Au [] [0] fun l f A=>Xi 4 d Ae _) fun R B=>?_
 obtain⟨S,T⟩:=B
 refine Aw rfl (HtS.append (eu:=5) (xv:=sV R 4) (i:=1) (g:=g3) (e:=5) (ii:=(prog.info? 5).getD default) (z:=iV .u8 0) (sz:=1) (bytes:=1) (nn:=4) (m:=4) (k:=4+4) (xs:=mc b8<|be 4 s) (news:=mc b8<|be 4 d) (cs':=mc b8<|(be 4 s)++(be 4 d)) (Lo:=fun o=>[R.seg 5 (mc b8<|be 4 d),o.seg 5 (mc b8<|(be 4 s)++(be 4 d))]) rfl rfl Aa Aa Aa Aa Aa Aa Aa Aa Aa rfl Q Fw (fun _=>rfl) (Src.at (a:=R.a) Va fun l q=>(FS.at (i:=0) (t:=5) q rfl<|Ah S Fw)) Va (Ea (fun _=>rfl) _) Ey Ho Ey (Fu _ _) fun _=>rfl) fun o C=>?_
 obtain⟨D,U,V⟩:=C
 refine Ab 1<|Ai<|Al [1] An rfl<|W.s ?_
 refine Ac<|Ab 2<|Af rfl (Bj (mk:=fun b_=>.slice (some ⟨b_,0,none⟩) 2 2) (t:=5) (cs:=[iV .u8 0,nV .u8 pr.toNat]) rfl fun _=>kr) fun c=>Aw rfl (HtS.append (eu:=5) (xv:=Value.slice (some ⟨c,0,none⟩) 2 2) (i:=1) (g:=o) (e:=5) (ii:=(prog.info? 5).getD default) (z:=iV .u8 0) (sz:=1) (bytes:=1) (nn:=4+4) (m:=2) (k:=(4+4)+2) (xs:=mc b8<|(be 4 s)++(be 4 d)) (news:=mc b8 [(0:UInt8),pr]) (cs':=mc b8<|((be 4 s)++(be 4 d))++[(0:UInt8),pr]) (Lo:=fun r=>[[cb c [iV .u8 0,nV .u8 pr.toNat] 5],r.seg 5 (mc b8<|((be 4 s)++(be 4 d))++[(0:UInt8),pr])]) rfl rfl Aa Aa Aa Aa Aa Aa Aa Aa Aa rfl D (by simp[mc,Bc];try omega) (fun _=>rfl) (Src.at (a:=some ⟨c,0,none⟩) Va fun l q=>(A4 (i:=0) (j:=0) (t:=5) (b:=c) q rfl rfl)) Va (Ea (fun _=>rfl) _) Ey Ho Ey (Fu _ _) fun _=>rfl) fun r E=>?_
 obtain⟨F,X,Y⟩:=E
 refine Ab 2<|Aw rfl (Au [] [0,1] fun l f A=>Wj xs.length _ Ae) fun u G=>?_
 obtain⟨H,Z⟩:=G
 refine Aw rfl (HtS.append (eu:=5) (xv:=sV u 2) (i:=2) (g:=r) (e:=5) (ii:=(prog.info? 5).getD default) (z:=iV .u8 0) (sz:=1) (bytes:=1) (nn:=(4+4)+2) (m:=2) (k:=((4+4)+2)+2) (xs:=mc b8<|((be 4 s)++(be 4 d))++[(0:UInt8),pr]) (news:=mc b8<|be 2 xs.length) (cs':=mc b8<|(((be 4 s)++(be 4 d))++[(0:UInt8),pr])++(be 2 xs.length)) (Lo:=fun x=>[u.seg 5 (mc b8<|be 2 xs.length),[cb c [iV .u8 0,nV .u8 pr.toNat] 5],x.seg 5 (mc b8<|(((be 4 s)++(be 4 d))++[(0:UInt8),pr])++(be 2 xs.length))]) rfl rfl Aa Aa Aa Aa Aa Aa Aa Aa Aa rfl F (by simp[mc,Bc];try omega) (fun _=>rfl) (Src.at (a:=u.a) Va fun l q=>(FS.at (i:=0) (t:=5) q rfl<|Ah H<|by rw[Du,Bc,Nat.mul_one])) Va (Ea (fun _=>rfl) _) Ey Ho Ey (Fu _ _) fun _=>rfl) fun x I=>?_
 obtain⟨J,aa,ab⟩:=I
 refine Ab 1<|Ai<|Al [2] An rfl<|W.s ?_
 refine Ac<|Ab 2<|Aw rfl (HtS.append (eu:=5) (xv:=Value.slice a xs.length cap) (i:=0) (g:=x) (e:=5) (ii:=(prog.info? 5).getD default) (z:=iV .u8 0) (sz:=1) (bytes:=1) (nn:=((4+4)+2)+2) (m:=xs.length) (k:=(((4+4)+2)+2)+xs.length) (xs:=mc b8<|(((be 4 s)++(be 4 d))++[(0:UInt8),pr])++(be 2 xs.length)) (news:=mc b8 xs) (cs':=mc b8<|((((be 4 s)++(be 4 d))++[(0:UInt8),pr])++(be 2 xs.length))++xs) (Lo:=fun h=>[h.seg 5 (mc b8<|((((be 4 s)++(be 4 d))++[(0:UInt8),pr])++(be 2 xs.length))++xs)]) rfl rfl Aa Aa Aa Aa Aa Aa Aa Aa Aa rfl J (by simp[mc,Bc];try omega) (fun _=>rfl) (Src.at (a:=a) (Bo _) fun l q=>(O.mem0 q)) (Bo _) (Ea (fun _=>rfl) _) Ey Ho Ey (Fu _ _) fun _=>rfl) fun h L=>?_
 obtain⟨N,ad,ae⟩:=L
 refine Cb (v:=nV .u16<|E3<|((((be 4 s)++(be 4 d))++[(0:UInt8),pr])++(be 2 xs.length))++xs) (A8 fun l f=>(Ahv (((((be 4 s)++(be 4 d))++[(0:UInt8),pr])++(be 2 xs.length))++xs) h.a ((((4+4)+2)+2)+xs.length) h.cap _ (by first|rfl|(simp;done)|(simp[mc,Bc];omega)) (FS.at (i:=0) (t:=5) f rfl<|Ah N<|by simp[mc,Bc];try omega) Ae))<|Ab 1<|Ai<|Al [] An rfl ?_
 refine Am rfl<|D7 rfl (Ar<|nV .u16<|E3<|((((be 4 s)++(be 4 d))++[(0:UInt8),pr])++(be 2 xs.length))++xs)<|by exact Ad (by unfold Fa;rfl)
theorem Zl(s d:Nat)(pr:UInt8)(xs:List UInt8)(a:Option Addr)(len cap:Nat)(w:World)(e:len=xs.length)(b:At w a (Cx xs))(f:s<4294967296)(g:d<4294967296)(h:len<65536)(c:len≤cap):
    Calls prog 103 #[.int .u32 (s:Int),.int .u32 (d:Int),.int .u8 (pr.toNat:Int),.slice a len cap] w (Df w (.int .u16 (E3 (Fa s d pr xs.length++xs):Int))):=by
  subst e;exact Alk s d pr xs a cap w b f g h c
def uH(b c:Nat)(xs:List UInt8):List UInt8:=be 2 b++be 2 c++be 2 (8+xs.length)++be 2 0++xs
def Fl(c:Nat):Nat:=if c=0 then 65535 else c
def uC(s d b c:Nat)(xs:List UInt8):Nat:=E3 (Fa s d 17 (8+xs.length)++uH b c xs)
def uB(s d b c:Nat)(pl:Bool)(xs:List UInt8):List UInt8:=if 1472<xs.length then []else bif pl then uH b c xs else Iw (uH b c xs) 6 (Fl (uC s d b c xs))
def uE(n:Nat):Int:=if 1472<n then 14 else 0
theorem Xn(b c:Nat)(xs:List UInt8):(uH b c xs).length=8+xs.length:=by unfold uH;simp[Bc];omega
theorem Lq{s d b c:Nat}{pl:Bool}{xs:List UInt8}(h: ¬1472<xs.length):(uB s d b c pl xs).length=8+xs.length:=by
  unfold uB;rw[if_neg h];cases pl
  · show(Iw _ _ _).length=_;rw[Wk (by rw[Xn];omega),Xn]
  · exact Xn _ _ _
theorem Adh(s d b c:Nat)(pl:Bool)(xs:List UInt8):(uB s d b c pl xs).length≤1480:=by
  by_cases h:1472<xs.length
  · unfold uB;rw[if_pos h];simp
  · rw[Lq h];omega
theorem All(s d c e:Nat)(pl:Bool)(xs:List UInt8)(a:Option Addr)(cap:Nat)(w:World)(aj:At w a (Cx xs))(hs:s<4294967296)(hd:d<4294967296)(hf:c<65536)(ht:e<65536)(hl:xs.length≤100000)(a0:xs.length≤cap):Calls prog 93 #[nV .u32 s,nV .u32 d,aV [nV .u16 c,nV .u16 e,bV pl,sL a xs.length cap]] w (Bn w (fun g:FS=>g.ok 1 (uB s d c e pl xs).length) (fun g=>.tuple #[.slice g.a (uB s d c e pl xs).length g.cap,.int .i64 (uE xs.length)]) [] (fun g=>[g.seg 5 (Cx (uB s d c e pl xs))])):=by
 refine Ap (M:=[]) (LL:=[]) (n:=52) func93 rfl rfl A7 (Mem.refl _)<|W.s ?_
 refine Ac<|Af rfl (Bx [nV .u16 c,nV .u16 e,bV pl,sL a xs.length cap] rfl) fun p5=>?_
 refine Ab 2<|Ai<|W.s<|W.s ?_
 refine Ac<|A5 3 [(0,0)]<|Bw (((8+xs.length):Nat):Int) 8 (xs.length:Int)<|Ab 1<|Ay ?_
 refine A9 ?_
 refine Ak (decide<|((8+xs.length:Nat):Int)>1480) Aa (fun h6=>?_) fun h7=>?_
 ·have ak:=h6;try simp only[zA]at ak
  refine Aj []<|Al [] An rfl<|Am rfl ?_
  have L:uE xs.length=14:=by unfold uE;rw[if_pos Ae]
  have E:uB s d c e pl xs=[]:=by unfold uB;rw[if_pos Ae]
  exact E2 rfl (Ar<|sL none 0 0) (Ar<|iV .i64 14) fun D q=>⟨FS.nul,(by rw[E];exact B6 1),Eo<|(by rw[E,L];rfl),(Mem.cast (by rw[E];rfl)<|Mem.push<|q.pick [] An rfl)⟩
 ·have al:=h7;try simp only[zA]at al
  refine Ag<|A9<|W.s<|C5 [(0,true),(1,true),(2,true),(4,true),(5,true),(6,true),(8,true),(9,true),(10,true),(11,true),(12,true),(15,true),(16,true),(3,false),(7,false),(13,false),(14,false),(17,false),(18,false),(19,false)] [0,1,2,4,5,6,8,9,10,11,12,15,16]<|Dh 2 [(0,0)] ?_
  refine Bm (v:=nV .u64 c) rfl ((Ys.p (v:=.int .u64<|Ct .u64 (c:Int))).conseq<|Ad<|Co Ae Ae)<|Dh 2 [(0,0)]<|Bm (v:=nV .u64 e) rfl ((Ys.p (v:=.int .u64<|Ct .u64 (e:Int))).conseq<|Ad<|Co Ae Ae)<|Dh 3 [(0,0)]<|Bm (v:=nV .i64<|8+xs.length) rfl ((Ys.p (v:=.int .i64<|D2 .i64 8 (xs.length:Int))).conseq<|Ad<|Fi Ae Ae Ae) ?_
  refine Bm (v:=nV .u64<|8+xs.length) rfl ((Ys.p (v:=.int .u64<|Ct .u64 ((8+xs.length:Nat):Int))).conseq<|Ad<|Co Ae Ae)<|Dh 2 [(0,0)]<|Ca rfl rfl (Au [] [0] fun D f o=>C7 2 c Ae _) (Az [1]) fun u Q=>?_
  obtain⟨R,ar⟩:=Q
  refine Ca rfl rfl (Au [] [0,1] fun D f o=>C7 2 e Ae _) (Az [2]) fun x S=>?_
  obtain⟨T,au⟩:=S
  refine Ca rfl rfl (Au [] [0,1,2] fun D f o=>C7 2 (8+xs.length) Ae _) (Az [3]) fun A U=>?_
  obtain⟨V,av⟩:=U
  refine Ca rfl rfl (Au [] [0,1,2,3] fun D f o=>C7 2 0 Ae _) (Az [4]) fun B X=>?_
  obtain⟨Y,aw⟩:=X
  refine Cj rfl rfl (Bj (mk:=fun b_=>.slice (some ⟨b_,0,none⟩) 5 5) (t:=38) (cs:=[sV u 2,sV x 2,sV A 2,sV B 2,Value.slice a xs.length cap]) rfl fun _=>kr) (Az [5]) fun N=>Ca rfl rfl (Au [] [0,1,2,3,4,5] fun D f o=>(E8 [⟨u.a,(be 2 c),u.cap⟩,⟨x.a,(be 2 e),x.cap⟩,⟨A.a,(be 2<|8+xs.length),A.cap⟩,⟨B.a,(be 2 0),B.cap⟩,⟨a,xs,cap⟩] ((be 2 c)++(be 2 e)++(be 2<|8+xs.length)++(be 2 0)++xs) (some ⟨N,0,none⟩) 5 5 (2+2+2+2+xs.length) _ rfl (by simp[jn]) Mf (by first|exact A4 (i:=0) (j:=0) (t:=38) (b:=N) f rfl rfl|(rw[show mc Pg ([⟨u.a,(be 2 c),u.cap⟩,⟨x.a,(be 2 e),x.cap⟩,⟨A.a,(be 2<|8+xs.length),A.cap⟩,⟨B.a,(be 2 0),B.cap⟩,⟨a,xs,cap⟩]:List SV)=[sV u 2,sV x 2,sV A 2,sV B 2,Value.slice a xs.length cap] by(simp[mc,Bc,B8];try omega)];exact A4 (i:=0) (j:=0) (t:=38) (b:=N) f rfl rfl)) (List.forall_mem_cons.2 ⟨(FS.at (i:=4) (t:=5) f rfl<|Ah R Fw),(List.forall_mem_cons.2 ⟨(FS.at (i:=3) (t:=5) f rfl<|Ah T Fw),(List.forall_mem_cons.2 ⟨(FS.at (i:=2) (t:=5) f rfl<|Ah V Fw),(List.forall_mem_cons.2 ⟨(FS.at (i:=1) (t:=5) f rfl<|Ah Y Fw),(List.forall_mem_cons.2 ⟨(aj.mem0 f),(fun _ h=>by cases h)⟩)⟩)⟩)⟩)⟩) K2 A7 A7)) (Az [6]) fun l Z=>?_
  obtain⟨r,G⟩:=Z
  refine Dh 1 []<|Cl<|Al [0,6] An rfl<|W.s ?_
  refine Aj [(1,0)]<|Al [0] An rfl ?_
  refine Ak (pl) Aa (fun an=>?_) fun aa=>?_
  ·refine Aj []<|Am rfl ?_
   have L:uE xs.length=0:=by unfold uE;rw[if_neg Ae]
   have E:uB s d c e pl xs=(be 2 c)++(be 2 e)++(be 2 (8+xs.length))++(be 2 0)++xs:=by unfold uB;rw[if_neg Ae,an];rfl
   have H:(uB s d c e pl xs).length=(2+2+2+2+xs.length):=by rw[Lq Ae];first|done|omega
   exact E2 rfl (Ar<|sV l<|2+2+2+2+xs.length) (Ar<|iV .i64 0) fun D q=>⟨l,(by rw[H];exact r),Eo<|(by rw[H,L]),(Mem.cast (by rw[E];rfl)<|q.pick [0] An rfl)⟩
  ·refine Ag<|A9<|Av<|Ab 4 ?_
   refine Aw rfl (Au [] [0] fun D f o=>(N0 s d (17:UInt8) (2+2+2+2+xs.length) _ Ae Ae Ae)) fun C ab=>Ab 1<|Af rfl (Bj (mk:=fun b_=>.slice (some ⟨b_,0,none⟩) 2 2) (t:=38) (cs:=[sV C 12,sV l (2+2+2+2+xs.length)]) rfl fun _=>kr) fun O=>?_
   have ax:=M0 (((Fa s d (17:UInt8) (2+2+2+2+xs.length))++((be 2 c)++(be 2 e)++(be 2 (8+xs.length))++(be 2 0)++xs)))
   refine Cb (v:=nV .u16<|E3<|(Fa s d (17:UInt8)<|2+2+2+2+xs.length)++((be 2 c)++(be 2 e)++(be 2<|8+xs.length)++(be 2 0)++xs)) (A8 fun D f=>(Ul [⟨C.a,(Fa s d (17:UInt8)<|2+2+2+2+xs.length),C.cap⟩,⟨l.a,((be 2 c)++(be 2 e)++(be 2<|8+xs.length)++(be 2 0)++xs),l.cap⟩] ((Fa s d (17:UInt8)<|2+2+2+2+xs.length)++((be 2 c)++(be 2 e)++(be 2<|8+xs.length)++(be 2 0)++xs)) (some ⟨O,0,none⟩) 2 2 (12+(2+2+2+2+xs.length)) _ rfl (by simp[jn]) Mf (by first|exact A4 (i:=0) (j:=0) (t:=38) (b:=O) f rfl rfl|(rw[show mc Pg ([⟨C.a,(Fa s d (17:UInt8)<|2+2+2+2+xs.length),C.cap⟩,⟨l.a,((be 2 c)++(be 2 e)++(be 2<|8+xs.length)++(be 2 0)++xs),l.cap⟩]:List SV)=[sV C 12,sV l (2+2+2+2+xs.length)] by(simp[mc,Bc,B8];try omega)];exact A4 (i:=0) (j:=0) (t:=38) (b:=O) f rfl rfl)) (List.forall_mem_cons.2 ⟨(FS.at (i:=1) (t:=5) f rfl<|Ah ab<|by rw[Du,B8]),(List.forall_mem_cons.2 ⟨(FS.at (i:=2) (t:=5) f rfl<|Ah r Ob),(fun _ h=>by cases h)⟩)⟩) K2 A7 A7))<|Ab 1<|Ai<|Al [2] An rfl ?_
   refine W.s<|Aj [] ?_
   refine Ak (((E3 ((Fa s d (17:UInt8)<|2+2+2+2+xs.length)++((be 2 c)++(be 2 e)++(be 2<|8+xs.length)++(be 2 0)++xs)):Nat):Int)==0) Aa (fun ao=>?_) fun ap=>?_
   ·have I:=ao;try simp only[zA]at I
    refine Ac<|Ab 1<|Ao (v:=nV .u16<|65535-(E3<|(Fa s d (17:UInt8)<|2+2+2+2+xs.length)++((be 2 c)++(be 2 e)++(be 2<|8+xs.length)++(be 2 0)++xs))) ((Ys.p (v:=.int .u16<|Sw .u16 ((65535:Nat):Int) (E3 ((Fa s d (17:UInt8)<|2+2+2+2+xs.length)++((be 2 c)++(be 2 e)++(be 2<|8+xs.length)++(be 2 0)++xs)):Int))).conseq<|Ad<|Ig rfl Jg 65535 rfl)<|Ab 1<|Ay ?_
    refine A9<|W.s ?_
    refine Ac<|Ab 2<|Aw rfl (Au [0] [] fun D f o=>(Ku l ((be 2 c)++(be 2 e)++(be 2<|8+xs.length)++(be 2 0)++xs) (2+2+2+2+xs.length) 6 (65535-(E3<|(Fa s d (17:UInt8)<|2+2+2+2+xs.length)++((be 2 c)++(be 2 e)++(be 2<|8+xs.length)++(be 2 0)++xs))) _ _ Z5 o r (G A7) O9 O9 Ae)) fun ad ae=>?_
    obtain⟨af,ay⟩:=ae
    refine Ab 2<|Ai<|Am rfl ?_
    have L:uE xs.length=0:=by unfold uE;rw[if_neg Ae]
    have P:2+2+2+2+xs.length=8+xs.length:=by first|omega|(simp[Bc];omega)
    have hq:uC s d c e xs=E3 ((Fa s d (17:UInt8) (2+2+2+2+xs.length))++((be 2 c)++(be 2 e)++(be 2 (8+xs.length))++(be 2 0)++xs)):=by unfold uC uH;rw[P];first|done|rfl
    have F:(E3 ((Fa s d (17:UInt8) (2+2+2+2+xs.length))++((be 2 c)++(be 2 e)++(be 2 (8+xs.length))++(be 2 0)++xs))=0):=by have z_:=I;omega
    have E:uB s d c e pl xs=Iw ((be 2 c)++(be 2 e)++(be 2 (8+xs.length))++(be 2 0)++xs) 6 (65535-(E3 ((Fa s d (17:UInt8) (2+2+2+2+xs.length))++((be 2 c)++(be 2 e)++(be 2 (8+xs.length))++(be 2 0)++xs)))):=by unfold uB Fl;rw[if_neg Ae,aa,hq,if_pos F];(try rw[F]);first|done|rfl
    have H:(uB s d c e pl xs).length=2+2+2+2+xs.length:=by rw[Lq Ae];first|done|omega
    exact E2 rfl (Ar<|sV ad<|2+2+2+2+xs.length) (Ar<|iV .i64 0) fun D q=>⟨ad,(by rw[H];exact af),Eo<|(by rw[H,L]),(Mem.cast (by rw[E];rfl)<|q.pick [0] An rfl)⟩
   ·have J:=ap;try simp only[zA]at J
    refine Ag<|A9<|Av<|Ab 2 ?_
    refine Aw rfl (Au [0] [] fun D f o=>(Ku l ((be 2 c)++(be 2 e)++(be 2<|8+xs.length)++(be 2 0)++xs) (2+2+2+2+xs.length) 6 (E3<|(Fa s d (17:UInt8)<|2+2+2+2+xs.length)++((be 2 c)++(be 2 e)++(be 2<|8+xs.length)++(be 2 0)++xs)) _ _ Z5 o r (G A7) O9 O9 Ae)) fun ag ah=>?_
    obtain⟨ai,az⟩:=ah
    refine Ab 2<|Ai<|Am rfl ?_
    have L:uE xs.length=0:=by unfold uE;rw[if_neg Ae]
    have P:2+2+2+2+xs.length=8+xs.length:=by first|omega|(simp[Bc];omega)
    have hq:uC s d c e xs=E3 ((Fa s d (17:UInt8) (2+2+2+2+xs.length))++((be 2 c)++(be 2 e)++(be 2 (8+xs.length))++(be 2 0)++xs)):=by unfold uC uH;rw[P];first|done|rfl
    have F: ¬(E3 ((Fa s d (17:UInt8) (2+2+2+2+xs.length))++((be 2 c)++(be 2 e)++(be 2 (8+xs.length))++(be 2 0)++xs))=0):=by have z_:=J;omega
    have E:uB s d c e pl xs=Iw ((be 2 c)++(be 2 e)++(be 2 (8+xs.length))++(be 2 0)++xs) 6 (E3 ((Fa s d (17:UInt8) (2+2+2+2+xs.length))++((be 2 c)++(be 2 e)++(be 2 (8+xs.length))++(be 2 0)++xs))):=by unfold uB Fl;rw[if_neg Ae,aa,hq,if_neg F];first|done|rfl
    have H:(uB s d c e pl xs).length=2+2+2+2+xs.length:=by rw[Lq Ae];first|done|omega
    exact E2 rfl (Ar<|sV ag<|2+2+2+2+xs.length) (Ar<|iV .i64 0) fun D q=>⟨ag,(by rw[H];exact ai),Eo<|(by rw[H,L]),(Mem.cast (by rw[E];rfl)<|q.pick [0] An rfl)⟩
abbrev Qb(a:Option Addr)(cap b c d:Nat)(pl:Bool)(xs:List UInt8):List Blk:=[cb c [nV .u16 b,nV .u16 d,bV pl,sL a xs.length cap] 124]
theorem Ahw(s d f c:Nat)(pl:Bool)(xs:List UInt8)(a:Option Addr)(cap:Nat)(w:World)(ap:At w a (Cx xs))(hs:s<4294967296)(hd:d<4294967296)(hf:f<65536)(ht:c<65536)(hl:xs.length≤100000)(c0:xs.length≤cap):Calls prog 49 #[nV .u32 s,nV .u32 d,aV [nV .u16 f,nV .u16 c,bV pl,sL a xs.length cap]] w (Bn w (fun g:FS=>g.ok 1 (uB s d f c pl xs).length) (fun g=>.tuple #[.slice g.a (uB s d f c pl xs).length g.cap,.int .i64 (uE xs.length)]) [] (fun g=>[g.seg 5 (Cx (uB s d f c pl xs))])):=by
 refine Ap (M:=[]) (LL:=[]) (n:=48) func49 rfl rfl A7 (Mem.refl _)<|W.s ?_
 refine Ac<|Af rfl (Bx [nV .u16 f,nV .u16 c,bV pl,sL a xs.length cap] rfl) fun u=>?_
 refine Ab 2<|Ai<|W.s<|Aj [(0,0)] ?_
 refine Ak (decide<|((xs.length:Nat):Int)>1472) Aa (fun h6=>?_) fun h7=>?_
 ·have ce:=h6;try simp only[zA]at ce
  refine Av<|Af rfl (Bj (mk:=fun b_=>.slice (some ⟨b_,0,none⟩) 0 0) (t:=5) (cs:=[]) rfl fun _=>kr) fun a0=>Ab 2<|Ay ?_
  refine A9<|Al [0] An rfl<|Am rfl ?_
  have hE:uE xs.length=14:=by unfold uE;rw[if_pos Ae]
  have P:uB s d f c pl xs=[]:=by unfold uB;rw[if_pos Ae]
  exact E2 rfl (Ar<|sL (some ⟨a0,0,none⟩) 0 0) (Ar<|iV .i64 14) fun q A=>⟨(FS.mk false a0 0 []),(by rw[P];exact(D4 An)),Eo<|(by rw[P,hE];rfl),(Mem.cast (by rw[P];rfl)<|A.pick [0] An rfl)⟩
 ·have cf:=h7;try simp only[zA]at cf
  refine Ag<|A9<|W.s<|C5 [(0,true),(1,true),(2,true),(4,true),(5,true),(6,true),(3,false),(7,false),(8,false),(9,false)] [0,1,2,4,5,6]<|Dh 2 [(0,0)] ?_
  refine Bm (v:=nV .i64 f) rfl ((Ys.p (v:=.int .i64<|Ct .i64 (f:Int))).conseq<|Ad<|Dg Ae Ae)<|Dh 2 [(0,0)]<|Bm (v:=nV .i64 c) rfl ((Ys.p (v:=.int .i64<|Ct .i64 (c:Int))).conseq<|Ad<|Dg Ae Ae)<|Ca rfl rfl (Au [] [0] fun q B C=>Wj f _ Ae) (Az [1]) fun cg a1=>?_
  obtain⟨a2,cl⟩:=a1
  refine Ca rfl rfl (Au [] [0,1] fun q B C=>Wj c _ Ae) (Az [2]) fun au a3=>?_
  obtain⟨a5,cm⟩:=a3
  refine Ca rfl rfl (HtS.append (eu:=5) (xv:=sV au 2) (i:=1) (g:=cg) (e:=5) (ii:=(prog.info? 5).getD default) (z:=iV .u8 0) (sz:=1) (bytes:=1) (nn:=2) (m:=2) (k:=2+2) (xs:=mc b8<|be 2 f) (news:=mc b8<|be 2 c) (cs':=mc b8<|(be 2 f)++(be 2 c)) (Lo:=fun D=>[au.seg 5 (mc b8<|be 2 c),D.seg 5<|mc b8<|(be 2 f)++(be 2 c),Qb a cap f u c pl xs]) rfl rfl Aa Aa Aa Aa Aa Aa Aa Aa Aa rfl a2 (by rw[Du,Bc,Nat.mul_one]) (fun _=>rfl) (Src.at (a:=au.a) U9 fun q l=>(FS.at (i:=0) (t:=5) l rfl<|Ah a5<|by rw[Du,Bc,Nat.mul_one])) U9 (Ea (fun _=>rfl) _) Ey Ho Ey (Fu _ _) fun _=>rfl) (Az [2]) fun D a6=>?_
  obtain⟨J,cn,co⟩:=a6
  refine Dh 1 []<|Cl<|Al [1,2] An rfl<|W.s ?_
  refine Agd (w0:=w) (M:=[]) _ [0,1,5,8] (fun(H:FS) (E:FS) (h:Nat) (F:FS) (o:FS)=>[nV .u32 s,nV .u32 d,pV u 0,sV o ((((2+2)+2)+2)+xs.length)]) (fun(H:FS) (E:FS) (h:Nat) (F:FS) (o:FS)=>H.ok 1 2∧H.nil=false∧E.ok 1 ((2+2)+2)∧(0<(2+2)+2→E.nil=false)∧(D.nil=false→E.nil=false)∧F.ok 1 (((2+2)+2)+2)∧(0<((2+2)+2)+2→F.nil=false)∧(E.nil=false→F.nil=false)∧o.ok 1 ((((2+2)+2)+2)+xs.length)∧(0<(((2+2)+2)+2)+xs.length→o.nil=false)∧(F.nil=false→o.nil=false)) (fun(H:FS) (E:FS) (h:Nat) (F:FS) (o:FS)=>[[cb h Pb 5],H.seg 5<|mc b8<|be 2<|8+xs.length,o.seg 5<|mc b8<|((((be 2 f)++(be 2 c))++(be 2<|8+xs.length))++[(0:UInt8),(0:UInt8)])++xs,Qb a cap f u c pl xs]) (fun c4 L=>?_) fun H E h F o c5 a7=>?_
  ·refine E5 [0,1,2,3,4,9,10,12] (Mem w [] [Qb a cap f u c pl xs]) Aa Aa (fun _ _ l=>l.drawn _)<|Wa.ys (v:=sV D<|2+2) (i:=0) Aa Aa Aa Aa (fun _ l=>l.pick [1] An rfl) rfl rfl rfl (Ys.p)<|Wa.ys (v:=pV u 3) (i:=1) Aa Aa Aa Aa (fun _ l=>l.pick [1] An rfl) rfl rfl rfl (Ys.p)<|Wa.ys (i:=2) Aa Aa Aa Aa (fun _ l=>l.pick [1] An rfl) rfl rfl rfl (Cn u 3 0 0 isAgg38)<|Wa.ys (v:=nV .i64 xs.length) (i:=3) Aa Aa Aa Aa (fun _ l=>l.pick [1] An rfl) rfl rfl rfl (Ys.p) ?_
   refine Wa.ys (v:=nV .i64<|8+xs.length) (i:=4) Aa Aa Aa Aa (fun _ l=>l.pick [1] An rfl) rfl rfl rfl ((Ys.p (v:=.int .i64<|D2 .i64 8 (xs.length:Int))).conseq<|Ad<|Fi Ae Ae Ae)<|Wa.ys (v:=pV u 3) (i:=9) Aa Aa Aa Aa (fun _ l=>l.pick [1] An rfl) rfl rfl rfl (Ys.p)<|Wa.ys (i:=10) Aa Aa Aa Aa (fun _ l=>l.pick [1] An rfl) rfl rfl rfl (Cn u 3 0 0 isAgg38) ?_
   refine C9 (i:=5) (j:=7) Aa ?_ ?_
   ·refine B7 rfl rfl (Au [] [0,1] fun q B C=>Wj (8+xs.length) _ Ae) (Az [2]) fun r a8=>?_
    obtain⟨G,ab⟩:=a8
    refine C9 (i:=6) (j:=7) Aa ?_ ?_
    ·refine B7 rfl rfl (HtS.append (eu:=5) (xv:=sV r 2) (i:=1) (g:=D) (e:=5) (ii:=(prog.info? 5).getD default) (z:=iV .u8 0) (sz:=1) (bytes:=1) (nn:=2+2) (m:=2) (k:=(2+2)+2) (xs:=mc b8<|(be 2 f)++(be 2 c)) (news:=mc b8<|be 2<|8+xs.length) (cs':=mc b8<|((be 2 f)++(be 2 c))++(be 2<|8+xs.length)) (Lo:=fun Q=>[r.seg 5 (mc b8<|be 2<|8+xs.length),Q.seg 5<|mc b8<|((be 2 f)++(be 2 c))++(be 2<|8+xs.length),Qb a cap f u c pl xs]) rfl rfl Aa Aa Aa Aa Aa Aa Aa Aa Aa rfl J Ob (fun _=>rfl) (Src.at (a:=r.a) U9 fun q l=>(FS.at (i:=0) (t:=5) l rfl<|Ah G<|by rw[Du,Bc,Nat.mul_one])) U9 (Ea (fun _=>rfl) _) Ey Ho Ey (Fu _ _) fun _=>rfl) (Az [2]) fun Q a9=>?_
     obtain⟨ad,ba,bb⟩:=a9
     refine A6 (i:=7) Aa<|Cp rfl rfl (Bj (mk:=fun b_=>.slice (some ⟨b_,0,none⟩) 2 2) (t:=5) (cs:=Pb) rfl fun _=>kr) (Az [3]) fun h=>?_
     refine A6 (i:=8) Aa<|B7 rfl rfl (HtS.append (eu:=5) (xv:=sL (some ⟨h,0,none⟩) 2 2) (i:=2) (g:=Q) (e:=5) (ii:=(prog.info? 5).getD default) (z:=iV .u8 0) (sz:=1) (bytes:=1) (nn:=(2+2)+2) (m:=2) (k:=((2+2)+2)+2) (xs:=mc b8<|((be 2 f)++(be 2 c))++(be 2<|8+xs.length)) (news:=mc b8 [(0:UInt8),(0:UInt8)]) (cs':=mc b8<|(((be 2 f)++(be 2 c))++(be 2<|8+xs.length))++[(0:UInt8),(0:UInt8)]) (Lo:=fun R=>[[cb h Pb 5],r.seg 5<|mc b8<|be 2<|8+xs.length,R.seg 5<|mc b8<|(((be 2 f)++(be 2 c))++(be 2<|8+xs.length))++[(0:UInt8),(0:UInt8)],Qb a cap f u c pl xs]) rfl rfl Aa Aa Aa Aa Aa Aa Aa Aa Aa rfl ad Ob (fun _=>rfl) (Src.at (a:=some ⟨h,0,none⟩) U9 fun q l=>(A4 (i:=0) (j:=0) (t:=5) (b:=h) l rfl rfl)) U9 (Ea (fun _=>rfl) _) Ey Ho Ey (Fu _ _) fun _=>rfl) (Az [3]) fun R bc=>?_
     obtain⟨ae,bd,bf⟩:=bc
     refine A6 (i:=11) Aa<|B7 rfl rfl (HtS.append (eu:=5) (xv:=sL a xs.length cap) (i:=2) (g:=R) (e:=5) (ii:=(prog.info? 5).getD default) (z:=iV .u8 0) (sz:=1) (bytes:=1) (nn:=((2+2)+2)+2) (m:=xs.length) (k:=(((2+2)+2)+2)+xs.length) (xs:=mc b8<|(((be 2 f)++(be 2 c))++(be 2<|8+xs.length))++[(0:UInt8),(0:UInt8)]) (news:=mc b8 xs) (cs':=mc b8<|((((be 2 f)++(be 2 c))++(be 2<|8+xs.length))++[(0:UInt8),(0:UInt8)])++xs) (Lo:=fun S=>[[cb h Pb 5],r.seg 5<|mc b8<|be 2<|8+xs.length,S.seg 5<|mc b8<|((((be 2 f)++(be 2 c))++(be 2<|8+xs.length))++[(0:UInt8),(0:UInt8)])++xs,Qb a cap f u c pl xs]) rfl rfl Aa Aa Aa Aa Aa Aa Aa Aa Aa rfl ae Ob (fun _=>rfl) (Src.at (a:=a) (Bo _) fun q l=>(ap.mem0 l)) (Bo _) (Ea (fun _=>rfl) _) Ey Ho Ey (Fu _ _) fun _=>rfl) (Az [3]) fun S bg=>?_
     obtain⟨bh,bi,bj⟩:=bg
     refine Wa.ys (v:=sV S<|(((2+2)+2)+2)+xs.length) (i:=12) Aa Aa Aa Aa (fun _ l=>l.pick [3] An rfl) rfl rfl rfl (Ys.p)<|Ej Aa ?_
     refine fun q l=>L r Q h R S _ q ⟨G,ab,ad,ba,bb,ae,bd,bf,bh,bi,bj⟩ Aa l
    ·refine Cp rfl rfl (Bj (mk:=fun b_=>.slice (some ⟨b_,0,none⟩) 2 2) (t:=5) (cs:=Pb) rfl fun _=>kr) (Az [3]) fun h=>A6 (i:=6) Aa<|B7 rfl rfl (HtS.append (eu:=5) (xv:=sV r 2) (i:=2) (g:=D) (e:=5) (ii:=(prog.info? 5).getD default) (z:=iV .u8 0) (sz:=1) (bytes:=1) (nn:=2+2) (m:=2) (k:=(2+2)+2) (xs:=mc b8<|(be 2 f)++(be 2 c)) (news:=mc b8<|be 2<|8+xs.length) (cs':=mc b8<|((be 2 f)++(be 2 c))++(be 2<|8+xs.length)) (Lo:=fun T=>[[cb h Pb 5],r.seg 5<|mc b8<|be 2<|8+xs.length,T.seg 5<|mc b8<|((be 2 f)++(be 2 c))++(be 2<|8+xs.length),Qb a cap f u c pl xs]) rfl rfl Aa Aa Aa Aa Aa Aa Aa Aa Aa rfl J Ob (fun _=>rfl) (Src.at (a:=r.a) U9 fun q l=>(FS.at (i:=1) (t:=5) l rfl<|Ah G<|by rw[Du,Bc,Nat.mul_one])) U9 (Ea (fun _=>rfl) _) Ey Ho Ey (Fu _ _) fun _=>rfl) (Az [3]) fun T bk=>?_
     obtain⟨af,bl,bm⟩:=bk
     refine A6 (i:=8) Aa<|B7 rfl rfl (HtS.append (eu:=5) (xv:=sL (some ⟨h,0,none⟩) 2 2) (i:=2) (g:=T) (e:=5) (ii:=(prog.info? 5).getD default) (z:=iV .u8 0) (sz:=1) (bytes:=1) (nn:=(2+2)+2) (m:=2) (k:=((2+2)+2)+2) (xs:=mc b8<|((be 2 f)++(be 2 c))++(be 2<|8+xs.length)) (news:=mc b8 [(0:UInt8),(0:UInt8)]) (cs':=mc b8<|(((be 2 f)++(be 2 c))++(be 2<|8+xs.length))++[(0:UInt8),(0:UInt8)]) (Lo:=fun U=>[[cb h Pb 5],r.seg 5<|mc b8<|be 2<|8+xs.length,U.seg 5<|mc b8<|(((be 2 f)++(be 2 c))++(be 2<|8+xs.length))++[(0:UInt8),(0:UInt8)],Qb a cap f u c pl xs]) rfl rfl Aa Aa Aa Aa Aa Aa Aa Aa Aa rfl af Ob (fun _=>rfl) (Src.at (a:=some ⟨h,0,none⟩) U9 fun q l=>(A4 (i:=0) (j:=0) (t:=5) (b:=h) l rfl rfl)) U9 (Ea (fun _=>rfl) _) Ey Ho Ey (Fu _ _) fun _=>rfl) (Az [3]) fun U bn=>?_
     obtain⟨ag,bo,bp⟩:=bn
     refine A6 (i:=11) Aa<|B7 rfl rfl (HtS.append (eu:=5) (xv:=sL a xs.length cap) (i:=2) (g:=U) (e:=5) (ii:=(prog.info? 5).getD default) (z:=iV .u8 0) (sz:=1) (bytes:=1) (nn:=((2+2)+2)+2) (m:=xs.length) (k:=(((2+2)+2)+2)+xs.length) (xs:=mc b8<|(((be 2 f)++(be 2 c))++(be 2<|8+xs.length))++[(0:UInt8),(0:UInt8)]) (news:=mc b8 xs) (cs':=mc b8<|((((be 2 f)++(be 2 c))++(be 2<|8+xs.length))++[(0:UInt8),(0:UInt8)])++xs) (Lo:=fun V=>[[cb h Pb 5],r.seg 5<|mc b8<|be 2<|8+xs.length,V.seg 5<|mc b8<|((((be 2 f)++(be 2 c))++(be 2<|8+xs.length))++[(0:UInt8),(0:UInt8)])++xs,Qb a cap f u c pl xs]) rfl rfl Aa Aa Aa Aa Aa Aa Aa Aa Aa rfl ag Ob (fun _=>rfl) (Src.at (a:=a) (Bo _) fun q l=>(ap.mem0 l)) (Bo _) (Ea (fun _=>rfl) _) Ey Ho Ey (Fu _ _) fun _=>rfl) (Az [3]) fun V bq=>?_
     obtain⟨br,bs,bt⟩:=bq
     refine Wa.ys (v:=sV V<|(((2+2)+2)+2)+xs.length) (i:=12) Aa Aa Aa Aa (fun _ l=>l.pick [3] An rfl) rfl rfl rfl (Ys.p)<|Ej Aa ?_
     refine fun q l=>L r T h U V _ q ⟨G,ab,af,bl,bm,ag,bo,bp,br,bs,bt⟩ Aa l
   ·refine Cp rfl rfl (Bj (mk:=fun b_=>.slice (some ⟨b_,0,none⟩) 2 2) (t:=5) (cs:=Pb) rfl fun _=>kr) (Az [2]) fun h=>A6 (i:=5) Aa<|B7 rfl rfl (Au [] [0,1,2] fun q B C=>Wj (8+xs.length) _ Ae) (Az [3]) fun I bu=>?_
    obtain⟨ah,bw⟩:=bu
    refine A6 (i:=6) Aa<|B7 rfl rfl (HtS.append (eu:=5) (xv:=sV I 2) (i:=2) (g:=D) (e:=5) (ii:=(prog.info? 5).getD default) (z:=iV .u8 0) (sz:=1) (bytes:=1) (nn:=2+2) (m:=2) (k:=(2+2)+2) (xs:=mc b8<|(be 2 f)++(be 2 c)) (news:=mc b8<|be 2<|8+xs.length) (cs':=mc b8<|((be 2 f)++(be 2 c))++(be 2<|8+xs.length)) (Lo:=fun X=>[I.seg 5 (mc b8<|be 2<|8+xs.length),[cb h Pb 5],X.seg 5<|mc b8<|((be 2 f)++(be 2 c))++(be 2<|8+xs.length),Qb a cap f u c pl xs]) rfl rfl Aa Aa Aa Aa Aa Aa Aa Aa Aa rfl J Ob (fun _=>rfl) (Src.at (a:=I.a) U9 fun q l=>(FS.at (i:=0) (t:=5) l rfl<|Ah ah<|by rw[Du,Bc,Nat.mul_one])) U9 (Ea (fun _=>rfl) _) Ey Ho Ey (Fu _ _) fun _=>rfl) (Az [3]) fun X bx=>?_
    obtain⟨ai,bz,b0⟩:=bx
    refine A6 (i:=8) Aa<|B7 rfl rfl (HtS.append (eu:=5) (xv:=sL (some ⟨h,0,none⟩) 2 2) (i:=2) (g:=X) (e:=5) (ii:=(prog.info? 5).getD default) (z:=iV .u8 0) (sz:=1) (bytes:=1) (nn:=(2+2)+2) (m:=2) (k:=((2+2)+2)+2) (xs:=mc b8<|((be 2 f)++(be 2 c))++(be 2<|8+xs.length)) (news:=mc b8 [(0:UInt8),(0:UInt8)]) (cs':=mc b8<|(((be 2 f)++(be 2 c))++(be 2<|8+xs.length))++[(0:UInt8),(0:UInt8)]) (Lo:=fun Y=>[I.seg 5 (mc b8<|be 2<|8+xs.length),[cb h Pb 5],Y.seg 5<|mc b8<|(((be 2 f)++(be 2 c))++(be 2<|8+xs.length))++[(0:UInt8),(0:UInt8)],Qb a cap f u c pl xs]) rfl rfl Aa Aa Aa Aa Aa Aa Aa Aa Aa rfl ai Ob (fun _=>rfl) (Src.at (a:=some ⟨h,0,none⟩) U9 fun q l=>(A4 (i:=1) (j:=0) (t:=5) (b:=h) l rfl rfl)) U9 (Ea (fun _=>rfl) _) Ey Ho Ey (Fu _ _) fun _=>rfl) (Az [3]) fun Y b1=>?_
    obtain⟨aj,b3,b4⟩:=b1
    refine A6 (i:=11) Aa<|B7 rfl rfl (HtS.append (eu:=5) (xv:=sL a xs.length cap) (i:=2) (g:=Y) (e:=5) (ii:=(prog.info? 5).getD default) (z:=iV .u8 0) (sz:=1) (bytes:=1) (nn:=((2+2)+2)+2) (m:=xs.length) (k:=(((2+2)+2)+2)+xs.length) (xs:=mc b8<|(((be 2 f)++(be 2 c))++(be 2<|8+xs.length))++[(0:UInt8),(0:UInt8)]) (news:=mc b8 xs) (cs':=mc b8<|((((be 2 f)++(be 2 c))++(be 2<|8+xs.length))++[(0:UInt8),(0:UInt8)])++xs) (Lo:=fun Z=>[I.seg 5 (mc b8<|be 2<|8+xs.length),[cb h Pb 5],Z.seg 5<|mc b8<|((((be 2 f)++(be 2 c))++(be 2<|8+xs.length))++[(0:UInt8),(0:UInt8)])++xs,Qb a cap f u c pl xs]) rfl rfl Aa Aa Aa Aa Aa Aa Aa Aa Aa rfl aj Ob (fun _=>rfl) (Src.at (a:=a) (Bo _) fun q l=>(ap.mem0 l)) (Bo _) (Ea (fun _=>rfl) _) Ey Ho Ey (Fu _ _) fun _=>rfl) (Az [3]) fun Z b5=>?_
    obtain⟨b6,b7,b9⟩:=b5
    refine Wa.ys (v:=sV Z<|(((2+2)+2)+2)+xs.length) (i:=12) Aa Aa Aa Aa (fun _ l=>l.pick [3] An rfl) rfl rfl rfl (Ys.p)<|Ej Aa ?_
    refine fun q l=>L I X h Y Z _ q ⟨ah,bw,ai,bz,b0,aj,b3,b4,b6,b7,b9⟩ Aa<|l.pick [1,0,2,3] An rfl
  ·refine A9 ?_
   obtain⟨cp,cq,cr,ct,cu,cv,cw,cx,x,ak,cy⟩:=a7
   refine W.s<|Aj [(3,0)]<|Al [2] An rfl ?_
   refine Ak (pl) Aa (fun ca=>?_) fun al=>?_
   ·refine Aj []<|Am rfl ?_
    have hE:uE xs.length=0:=by unfold uE;rw[if_neg Ae]
    have P:uB s d f c pl xs=((((be 2 f)++(be 2 c))++(be 2 (8+xs.length)))++[(0:UInt8),(0:UInt8)])++xs:=by unfold uB;rw[if_neg Ae,ca];rfl
    have hn:(uB s d f c pl xs).length=(((2+2)+2)+2)+xs.length:=by rw[Lq Ae];first|done|omega
    exact E2 rfl (Ar<|sV o<|(((2+2)+2)+2)+xs.length) (Ar<|iV .i64 0) fun q A=>⟨o,(by rw[hn];exact x),Eo<|(by rw[hn,hE]),(Mem.cast (by rw[P];rfl)<|A.pick [0] An rfl)⟩
   ·refine Ag<|A9<|Av ?_
    have ch:=M0 ((Fa s d (17:UInt8) (((((be 2 f)++(be 2 c))++(be 2 (8+xs.length)))++[(0:UInt8),(0:UInt8)])++xs).length++(((((be 2 f)++(be 2 c))++(be 2 (8+xs.length)))++[(0:UInt8),(0:UInt8)])++xs)))
    refine Ab 3<|Cb (v:=nV .u16<|E3<|Fa s d (17:UInt8) (((((be 2 f)++(be 2 c))++(be 2<|8+xs.length))++[(0:UInt8),(0:UInt8)])++xs).length++(((((be 2 f)++(be 2 c))++(be 2<|8+xs.length))++[(0:UInt8),(0:UInt8)])++xs)) (A8 fun q B=>(Zl s d (17:UInt8) (((((be 2 f)++(be 2 c))++(be 2<|8+xs.length))++[(0:UInt8),(0:UInt8)])++xs) o.a ((((2+2)+2)+2)+xs.length) o.cap _ (by first|rfl|(rw[List.length_take];omega)|(simp[Bc,Bc,B8];done)|(simp[Bc,Bc,B8];omega)) (FS.at (i:=0) (t:=5) B rfl<|Ah x Ob) Ae Ae (by first|omega|(simp[Bc,Bc,B8];omega)) x.le))<|Ab 1<|Ai ?_
    refine W.s<|Aj [] ?_
    refine Ak (((E3 (Fa s d (17:UInt8) (((((be 2 f)++(be 2 c))++(be 2<|8+xs.length))++[(0:UInt8),(0:UInt8)])++xs).length++(((((be 2 f)++(be 2 c))++(be 2<|8+xs.length))++[(0:UInt8),(0:UInt8)])++xs)):Nat):Int)==0) Aa (fun cc=>?_) fun cd=>?_
    ·have N:=cc;try simp only[zA]at N
     refine Ac<|Ab 1<|Ai<|W.s ?_
     refine Ac<|Ab 2<|Aw rfl (Au [0] [] fun q B C=>(Te o (((((be 2 f)++(be 2 c))++(be 2<|8+xs.length))++[(0:UInt8),(0:UInt8)])++xs) ((((2+2)+2)+2)+xs.length) 6 65535 _ _ Z5 C x (ak Fp) O9 O9 Ae)) fun an av=>?_
     obtain⟨aw,ci⟩:=av
     refine Ab 2<|Ai<|Am rfl ?_
     have hE:uE xs.length=0:=by unfold uE;rw[if_neg Ae]
     have ax:(((((be 2 f)++(be 2 c))++(be 2 (8+xs.length)))++[(0:UInt8),(0:UInt8)])++xs).length=8+xs.length:=by first|omega|(simp[Bc];omega)
     have hq:uC s d f c xs=E3 (Fa s d (17:UInt8) (((((be 2 f)++(be 2 c))++(be 2 (8+xs.length)))++[(0:UInt8),(0:UInt8)])++xs).length++(((((be 2 f)++(be 2 c))++(be 2 (8+xs.length)))++[(0:UInt8),(0:UInt8)])++xs)):=by unfold uC uH;rw[ax];first|done|rfl
     have aa:(E3 (Fa s d (17:UInt8) (((((be 2 f)++(be 2 c))++(be 2 (8+xs.length)))++[(0:UInt8),(0:UInt8)])++xs).length++(((((be 2 f)++(be 2 c))++(be 2 (8+xs.length)))++[(0:UInt8),(0:UInt8)])++xs))=0):=by have z_:=N;omega
     have P:uB s d f c pl xs=Iw (((((be 2 f)++(be 2 c))++(be 2 (8+xs.length)))++[(0:UInt8),(0:UInt8)])++xs) 6 65535:=by unfold uB Fl;rw[if_neg Ae,al,hq,if_pos aa];(try rw[aa]);first|done|rfl
     have hn:(uB s d f c pl xs).length=(((2+2)+2)+2)+xs.length:=by rw[Lq Ae];first|done|omega
     exact E2 rfl (Ar<|sV an<|(((2+2)+2)+2)+xs.length) (Ar<|iV .i64 0) fun q A=>⟨an,(by rw[hn];exact aw),Eo<|(by rw[hn,hE]),(Mem.cast (by rw[P];rfl)<|A.pick [0] An rfl)⟩
    ·have O:=cd;try simp only[zA]at O
     refine Ag<|A9<|Av<|Ab 2 ?_
     refine Aw rfl (Au [0] [] fun q B C=>(Te o (((((be 2 f)++(be 2 c))++(be 2<|8+xs.length))++[(0:UInt8),(0:UInt8)])++xs) ((((2+2)+2)+2)+xs.length) 6 (E3<|Fa s d (17:UInt8) (((((be 2 f)++(be 2 c))++(be 2<|8+xs.length))++[(0:UInt8),(0:UInt8)])++xs).length++(((((be 2 f)++(be 2 c))++(be 2<|8+xs.length))++[(0:UInt8),(0:UInt8)])++xs)) _ _ Z5 C x (ak Fp) O9 O9 Ae)) fun ao ay=>?_
     obtain⟨az,ck⟩:=ay
     refine Ab 2<|Ai<|Am rfl ?_
     have hE:uE xs.length=0:=by unfold uE;rw[if_neg Ae]
     have ax:(((((be 2 f)++(be 2 c))++(be 2 (8+xs.length)))++[(0:UInt8),(0:UInt8)])++xs).length=8+xs.length:=by first|omega|(simp[Bc];omega)
     have hq:uC s d f c xs=E3 (Fa s d (17:UInt8) (((((be 2 f)++(be 2 c))++(be 2 (8+xs.length)))++[(0:UInt8),(0:UInt8)])++xs).length++(((((be 2 f)++(be 2 c))++(be 2 (8+xs.length)))++[(0:UInt8),(0:UInt8)])++xs)):=by unfold uC uH;rw[ax];first|done|rfl
     have aa: ¬(E3 (Fa s d (17:UInt8) (((((be 2 f)++(be 2 c))++(be 2 (8+xs.length)))++[(0:UInt8),(0:UInt8)])++xs).length++(((((be 2 f)++(be 2 c))++(be 2 (8+xs.length)))++[(0:UInt8),(0:UInt8)])++xs))=0):=by have z_:=O;omega
     have P:uB s d f c pl xs=Iw (((((be 2 f)++(be 2 c))++(be 2 (8+xs.length)))++[(0:UInt8),(0:UInt8)])++xs) 6 (E3 (Fa s d (17:UInt8) (((((be 2 f)++(be 2 c))++(be 2 (8+xs.length)))++[(0:UInt8),(0:UInt8)])++xs).length++(((((be 2 f)++(be 2 c))++(be 2 (8+xs.length)))++[(0:UInt8),(0:UInt8)])++xs))):=by unfold uB Fl;rw[if_neg Ae,al,hq,if_neg aa];first|done|rfl
     have hn:(uB s d f c pl xs).length=(((2+2)+2)+2)+xs.length:=by rw[Lq Ae];first|done|omega
     exact E2 rfl (Ar<|sV ao<|(((2+2)+2)+2)+xs.length) (Ar<|iV .i64 0) fun q A=>⟨ao,(by rw[hn];exact az),Eo<|(by rw[hn,hE]),(Mem.cast (by rw[P];rfl)<|A.pick [0] An rfl)⟩
end Go.Proofs.YtmonlaoaengfdaaGreatDoor.Oct
