import Derived.Test.YtmonlaoaengfdaaGreatDoorM2
import Derived.Test.YtmonlaoaengfdaaGreatDoorM3
import Derived.Test.YtmonlaoaengfdaaGreatDoorChecked
set_option linter.unusedVariables false
set_option linter.unusedSimpArgs false
set_option maxRecDepth 20000
namespace Go.Proofs.YtmonlaoaengfdaaGreatDoor.Oct
open Go.RowKit Base Tryz
attribute [local irreducible] Ys Yc Ht HtS HtIn Wl Wd W Mem pf Ex Wa Wo KW
namespace ZW
theorem drop_take{cs r:List Value}{n i s:Nat}(hc:cs.length=n*s)(b:i≤n):((cs++r).drop (i*s)).take ((n-i)*s)=cs.drop (i*s):=by
  have h:i*s≤n*s:=Nat.mul_le_mul_right _ b
  rw[List.drop_append_of_le_length Ae,List.take_append_of_le_length Vm]
  exact List.take_of_length_le Vm
theorem one_drop{cs:List Value}(h: ∀v∈cs,v.oneCell'=true)(k:Nat): ∀v∈cs.drop k,v.oneCell'=true:=fun v b=>h v (List.mem_of_mem_drop b)
theorem putAt_app{a b c:List Value}{o:Nat}{v:List Value}(ho:o=a.length)(d:v.length=b.length):Br (a++(b++c)) o v=a++(v++c):=by
  subst ho;unfold Br
  rw[List.take_left,d,←List.drop_drop,List.drop_left,List.drop_left]
theorem ins_in{cs r news A1 A2:List Value}{n i:Nat}(hc:cs.length=n*2)(t:i<n)(g:news.length=2)(u:2≤r.length)(h:Br (cs++r) ((i+1)*2) (cs.drop (i*2))=A1)(j:Br A1 (i*2) news=A2):
    A2=(cs.take (i*2)++(news++cs.drop (i*2)))++r.drop 2:=by
  subst h;subst j
  obtain⟨a,b,rfl,l⟩: ∃a b,cs=a++b∧a.length=i*2:=⟨cs.take (i*2),cs.drop (i*2),(List.take_append_drop _ _).symm,by rw[List.length_take];omega⟩
  rw[List.length_append]at hc
  obtain⟨x,c,rfl,f⟩: ∃x c,r=x++c∧x.length=2:=⟨r.take 2,r.drop 2,(List.take_append_drop _ _).symm,by rw[List.length_take];omega⟩
  rw[←l,List.drop_left,List.take_left]
  have e:Br (a++b++(x++c)) ((i+1)*2) b=a++(b.take 2++(b++c)):=by
    have o:b=b.take 2++b.drop 2:=(List.take_append_drop _ _).symm
    have d:(b.take 2).length=2:=by rw[List.length_take];omega
    have q:a++b++(x++c)=(a++b.take 2)++((b.drop 2++x)++c):=by
      rw[List.append_assoc,List.append_assoc,List.append_assoc]
      congr 1
      rw[←List.append_assoc (b.take 2),←o]
    rw[q,putAt_app (by rw[List.length_append,d];omega) (by rw[List.length_append,List.length_drop,f];omega),List.append_assoc]
  rw[e,putAt_app rfl (by rw[List.length_take,g];omega)]
  rw[show(x++c).drop 2=c by rw[←f,List.drop_left]]
  simp only[List.append_assoc]
theorem ins_own{cs R news A1 A2:List Value}{n i:Nat}(hc:cs.length=n*2)(j:i<n)(b:news.length=2)(l:(n+1-i)*2≤R.length)(f:Br (cs.take (i*2)++R) (i*2) news=A1)(g:Br A1 ((i+1)*2) (cs.drop (i*2))=A2):
    A2=(cs.take (i*2)++(news++cs.drop (i*2)))++R.drop ((n+1-i)*2):=by
  subst f;subst g
  have c:(cs.take (i*2)).length=i*2:=by rw[List.length_take];omega
  have h:(cs.drop (i*2)).length=(n-i)*2:=by rw[List.length_drop];omega
  obtain⟨x,y,z,rfl,d,e⟩: ∃x y z,R=x++(y++z)∧x.length=2∧y.length=(n-i)*2:=
    ⟨R.take 2,(R.drop 2).take ((n-i)*2),(R.drop 2).drop ((n-i)*2),by rw[List.take_append_drop,List.take_append_drop],by rw[List.length_take];omega,by rw[List.length_take,List.length_drop];omega⟩
  rw[putAt_app c.symm (by rw[b,d]),←List.append_assoc,putAt_app (by rw[List.length_append,c,b];omega) (by rw[h,e])]
  rw[show(n+1-i)*2=(x++y).length by rw[List.length_append,d,e];omega,←List.append_assoc x,List.drop_left]
  simp only[List.append_assoc]
theorem del_in{cs r zs A1 A2:List Value}{n i:Nat}(hc:cs.length=n*2)(q:i<n)(d:zs.length=2)(e:Br (cs++r) (i*2) (cs.drop ((i+1)*2))=A1)(f:Br A1 ((n-1)*2) zs=A2):
    A2=(cs.take (i*2)++cs.drop ((i+1)*2))++(zs++r):=by
  subst e;subst f
  obtain⟨a,x,b,rfl,c,g⟩: ∃a x b,cs=a++(x++b)∧a.length=i*2∧x.length=2:=
    ⟨cs.take (i*2),(cs.drop (i*2)).take 2,(cs.drop (i*2)).drop 2,by rw[List.take_append_drop,List.take_append_drop],by rw[List.length_take];omega,by rw[List.length_take,List.length_drop];omega⟩
  simp only[List.length_append]at hc
  have h:(a++(x++b)).drop ((i+1)*2)=b:=by
    rw[show(i+1)*2=(a++x).length by rw[List.length_append,c,g];omega,←List.append_assoc,List.drop_left]
  have j:(a++(x++b)).take (i*2)=a:=by rw[←c,List.take_left]
  rw[h,j]
  have l:x++b=(x++b).take b.length++(x++b).drop b.length:=(List.take_append_drop _ _).symm
  have o:a++(x++b)++r=a++((x++b).take b.length++((x++b).drop b.length++r)):=by
    rw[List.append_assoc,←List.append_assoc ((x++b).take b.length),←l]
  rw[o,putAt_app c.symm (by rw[List.length_take,List.length_append];omega),←List.append_assoc]
  rw[putAt_app (by rw[List.length_append,c];omega) (by rw[List.length_drop,List.length_append,d];omega)]
theorem insS_c(g:FS)(cs news:List Value)(f n i:Nat)(M:List Nat)(w:World)(hl:Mem w M [g.seg 219 cs,[cb f news 219]] w)(ok:g.ok 2 n)(hcs:cs.length=n*2)(hi:i≤n)(hn:n≤100000)(hnl:news.length=1*2)(L: ∀v∈cs,v.oneCell'=true)(H: ∀v∈news,v.oneCell'=true):Calls prog 143 #[sV g n,nV .i64 i,sL (some ⟨f,0,none⟩) 1 1] w (Bl w (fun I:FS=>I.ok 2 (n+1)∧I.nil=false) (fun I=>.slice I.a (n+1) I.cap) M (fun I=>[I.seg 219 (cs.take (i*2)++(news++cs.drop (i*2)))])):=by
 have al:=ok.le;have am:=ok.mx;have av:=hcs
 refine Ap (M:=M) (LL:=[g.seg 219 cs,[cb f news 219]]) (n:=95) func143 rfl rfl A5 (hl)<|Aj []<|Av<|Ab 2 ?_
 refine Ao (v:=sL (Dl g.a g.cap i 2) (n-i)<|g.cap-i) (Bp (a:=g.a) (len:=n) (cap:=g.cap) (sz:=2) (k:=.i64) (i:=(i:Int)) rfl Aa Aa runUnderlying148 sizeOf219 Ae Ae)<|Ai<|Aj []<|W.s ?_
 refine Aj []<|B3 Aa<|Ag<|A7<|Aj [] ?_
 refine W.s<|Aj [] ?_
 refine Al (((i:Nat):Int)==(n:Int)) Aa (fun ag=>?_) fun ah=>?_
 ·have N:=ag;try simp only[zA]at N
  refine Av<|Ab 2<|Aw rfl (HtS.append (eu:=219) (xv:=Value.slice (some ⟨f,0,none⟩) 1 1) (i:=0) (g:=g) (e:=219) (ii:=(prog.info? 219).getD default) (z:=aV [iV .u64 0,iV .u64 0]) (sz:=2) (bytes:=16) (nn:=n) (m:=1) (k:=n+1) (xs:=cs) (news:=news) (cs':=cs++news) (Lo:=fun F=>[F.seg 219 (cs++news),[cb f news 219]]) rfl rfl Aa Aa Aa Aa Aa Aa Aa Aa Aa rfl ok hcs (fun _=>rfl) (Src.at (a:=some ⟨f,0,none⟩) hnl fun E o=>(Az (i:=1) (j:=0) (t:=219) (b:=f) o rfl rfl)) hnl H rfl (by simp only[maxLen];omega) Ae rfl fun _=>rfl) fun F O=>?_
  obtain⟨P,Q,an⟩:=O
  refine Ab 1<|Ai<|Am rfl ?_
  have ao:i=n:=by omega
  have R:cs.take (i*2)++(news++cs.drop (i*2))=cs++news:=by rw[List.take_of_length_le Ae,List.drop_of_length_le Ae,List.append_nil]
  exact D4 rfl (Ar<|sV F<|n+1) fun E r=>⟨F,⟨P,(Q Ae)⟩,rfl,(Mem.cast (by rw[R];rfl)<|r.pick [0] An rfl)⟩
 ·have S:=ah;try simp only[zA]at S
  refine Ag<|A7<|W.s<|Av ?_
  refine Ab 2<|Bz (((n+1):Nat):Int) (n:Int) 1<|Ab 3<|Ai ?_
  refine Al (decide<|((n+1:Nat):Int)>(g.cap:Int)) Aa (fun ai=>?_) fun aj=>?_
  ·have T:=ai;try simp only[zA]at T
   refine Av<|Ab 2<|Ao (v:=sV g i) (Dw (a:=g.a) (len:=n) (cap:=g.cap) (sz:=2) (k:=.i64) (i:=(i:Int)) rfl Aa Aa runUnderlying148 sizeOf219 Ae Ae)<|Ab 2 ?_
   refine Bz (((n+1):Nat):Int) (n:Int) 1<|Ab 1<|Ao (v:=iV .i64<|((n+1:Nat):Int)-(i:Int)) ((Ys.p (v:=.int .i64<|Hm .i64 ((n+1:Nat):Int) (i:Int))).conseq<|Ad<|Eo rfl Ae Ae)<|Af rfl (Kg (t:=148) (u:=3) (e:=219) (ii:=(prog.info? 219).getD default) (z:=aV [iV .u64 0,iV .u64 0]) (ku:=.i64) (kk:=.i64) (lv:=((n+1:Nat):Int)-(i:Int)) (a:=g.a) (nn:=i) (m:=n+1-i) (k:=n+1) (cap:=g.cap) (sz:=2) (bytes:=16) (xs:=cs.take<|i*2) (LL':=fun d R34=>[[cb d (cs.take (i*2)++R34) 219],g.seg 219 cs,[cb f news 219]]) rfl rfl Aa Aa Aa Aa Aa Aa Aa Aa Aa Ae (fun E o=>(FS.at (i:=0) (t:=219) o rfl<|Ah ok hcs).take _) (by rw[List.length_take,hcs];omega) Ae Ae Ae Ae Ae fun _ _=>rfl) fun ak=>?_
   obtain⟨⟨d,c,R34⟩,U,V,X⟩:=ak
   refine Bv (LL':=[[cb d (cs.take (i*2)++R34) 219],g.seg 219 cs,[cb f news 219]]) rfl ?_
   dsimp only at U V X
   refine Ab 1<|Ai<|Av ?_
   refine Ab 2<|Ao (v:=sL (Dl (some ⟨d,0,none⟩) c i 2) ((n+1)-i)<|c-i) (Bp (a:=some ⟨d,0,none⟩) (len:=n+1) (cap:=c) (sz:=2) (k:=.i64) (i:=(i:Int)) rfl Aa Aa runUnderlying148 sizeOf219 Ae Ae) ?_
   obtain⟨A41,x⟩: ∃A,Br (cs.take (i*2)++R34) (i*2) news=A:=⟨_,rfl⟩
   have Y:A41.length=(cs.take (i*2)++R34).length:=by rw[←x];exact Cu _ _ _ L9
   try simp only[List.length_append,List.length_take]at Y
   refine Ab 1<|Af rfl (Cy (td:=148) (tx:=148) (e:=219) (ii:=(prog.info? 219).getD default) (xv:=sL (some ⟨f,0,none⟩) 1 1) (cap:=c) (dl:=(n+1)-i) (dc:=c-i) (m:=1) (q:=1) (sz:=2) (o':=i) (i:=0) (j:=0) (b:=d) (t:=219) (cs:=cs.take (i*2)++R34) (cs':=A41) (news:=news) (LL':=[[cb d A41 219],g.seg 219 cs,[cb f news 219]]) rfl rfl Aa Aa Aa Aa Ae Aa rfl rfl (fun _=>rfl) Mb (Src.at (a:=some ⟨f,0,none⟩) hnl fun E o=>(Az (i:=2) (j:=0) (t:=219) (b:=f) o rfl rfl)) hnl L9 H x rfl) fun _=>?_
   refine Ai<|W.s<|B2 [(0,true),(1,true),(2,true),(3,true),(4,true),(5,true),(6,false),(7,false),(8,false)] [0,1,2,3,4,5] (Mem w M [g.seg 219 cs,[cb f news 219]]) Aa Aa Aa rfl Aa (fun _ _ o=>o.drawn _) (fun _ o=>o.pick [1,2] An rfl)<|B1 3 ?_
   refine Bi (v:=nV .i64<|i+1) rfl ((Ys.p (v:=.int .i64<|D0 .i64 (i:Int) 1)).conseq<|Ad<|Fe Ae Ae Ae)<|Bi (v:=sL (Dl (some ⟨d,0,none⟩) c (i+1) 2) ((n+1)-(i+1))<|c-(i+1)) rfl (Bp (a:=some ⟨d,0,none⟩) (len:=n+1) (cap:=c) (sz:=2) (k:=.i64) (i:=((i+1:Nat):Int)) rfl Aa Aa runUnderlying148 sizeOf219 Ae Ae)<|Wd.mp 2 [] [1,2]<|Wd.yc (v:=sL (Dl g.a g.cap i 2) (n-i)<|g.cap-i) rfl rfl rfl (Ys.yc<|Bp (a:=g.a) (len:=n) (cap:=g.cap) (sz:=2) (k:=.i64) (i:=(i:Int)) rfl Aa Aa runUnderlying148 sizeOf219 Ae Ae) (Ec [1,2]) ?_
   obtain⟨A46,B⟩: ∃A,Br A41 ((i+1)*2) (cs.drop (i*2))=A:=⟨_,rfl⟩
   have Z:A46.length=A41.length:=by rw[←B];exact Cu _ _ _ Afy
   try simp only[List.length_append,List.length_take]at Z
   refine Cg rfl rfl (Cy (td:=148) (tx:=148) (e:=219) (ii:=(prog.info? 219).getD default) (xv:=sL (Dl g.a g.cap i 2) (n-i)<|g.cap-i) (cap:=c) (dl:=(n+1)-(i+1)) (dc:=c-(i+1)) (m:=n-i) (q:=n-i) (sz:=2) (o':=i+1) (i:=0) (j:=0) (b:=d) (t:=219) (cs:=A41) (cs':=A46) (news:=cs.drop<|i*2) (LL':=[[cb d A46 219],g.seg 219 cs,[cb f news 219]]) rfl rfl Aa Aa Aa Aa Ae Aa rfl rfl (fun _=>rfl) Mb (Src.at (a:=Dl g.a g.cap i 2) (show(cs.drop<|i*2).length=(n-i)*2 by rw[List.length_drop,hcs];omega) fun E o=>((FS.at (i:=1) (t:=219) o rfl<|Ah ok hcs).dropN (cap:=g.cap) (k:=i) (sz:=2) Ae)) (show(cs.drop<|i*2).length=(n-i)*2 by rw[List.length_drop,hcs];omega) Afy (one_drop L _) B rfl) (Ay [1,2]) fun _=>Ck<|Aj []<|Am rfl ?_
   have R:=ins_own hcs Ae Ae Ae x B
   exact D4 rfl (Ar<|sL (some ⟨d,0,none⟩) (n+1) c) fun E r=>⟨⟨false,d,c,R34.drop<|(n+1-i)*2⟩,⟨⟨fun h=>(by cases h),Ae,Ae,(by show c*2≤_;rw[List.length_drop];omega)⟩,rfl⟩,rfl,(Mem.cast (by rw[R];rfl)<|r.pick [0] An rfl)⟩
  ·have G:=aj;try simp only[zA]at G
   refine Ag<|A7<|W.s ?_
   have aa:=C1 ok Ae
   obtain⟨ab,l,gc,J⟩:=g
   obtain rfl:ab=false:=aa
   have ap:n≤gc:=ok.le
   have aq:gc*2≤n*2+J.length:=ok.len
   have af:n+1≤gc:=by have z_: ¬(((n+1:Nat):Int)>(gc:Int)):=G;omega
   refine Ac<|Ab 3<|Bz (((n+1):Nat):Int) (n:Int) 1<|Ao (v:=sL (some ⟨l,0,none⟩) (n+1) gc) (Dw (a:=some ⟨l,0,none⟩) (len:=n) (cap:=gc) (sz:=2) (k:=.i64) (i:=((n+1:Nat):Int)) rfl Aa Aa runUnderlying148 sizeOf219 Ae Ae)<|Ab 1 ?_
   refine Ai<|W.s<|Av ?_
   refine Ab 4<|Bz (((i+1):Nat):Int) (i:Int) 1<|Ao (v:=Value.slice (Dl (some ⟨l,0,none⟩) gc (i+1) 2) ((n+1)-(i+1))<|gc-(i+1)) (Bp (a:=some ⟨l,0,none⟩) (len:=n+1) (cap:=gc) (sz:=2) (k:=.i64) (i:=((i+1:Nat):Int)) rfl Aa Aa runUnderlying148 sizeOf219 Ae Ae)<|Ao (v:=bV false) ((I7 (k:=174) (tS:=148) (tR:=4) (e:=219) (sz:=2) (b:=f) (b':=l) (o1:=0) (o2:=(i+1)*2) (la:=1) (ca:=1) (lb:=((n+1)-(i+1))) (cp:=(gc-(i+1))) (i:=1) (j:=0) (i':=0) (j':=0) (t:=219) (t':=219) (cs:=news) (cs':=cs++J) (fun E=>Eq.trans (b:=Sem.run prog (callFunc 174 #[Value.slice (some ⟨f,0,none⟩) 1 1,Value.slice (Dl (some ⟨l,0,none⟩) gc (i+1) 2) ((n+1)-(i+1)) (gc-(i+1))]) E) Aa<|by rw[Hc Ae]) func174 Aa Aa Aa Aa Aa sizeOf219 An rfl rfl rfl rfl<|by simp only[List.length_append];omega))<|Ab 1 ?_
   refine Ai<|B9 Aa<|W.s<|B2 [(0,true),(1,true),(2,true),(3,true),(4,true),(5,true),(6,false),(7,false),(8,false)] [0,1,2,3,4,5] (Mem w M [[cb f news 219]]) Aa Aa Aa rfl Aa (fun _ _ o=>o.drawn _) (fun _ o=>o.pick [1] An rfl) ?_
   refine B1 3<|Bi (v:=nV .i64<|i+1) rfl ((Ys.p (v:=.int .i64<|D0 .i64 (i:Int) 1)).conseq<|Ad<|Fe Ae Ae Ae)<|Bi (v:=sL (Dl (some ⟨l,0,none⟩) gc (i+1) 2) ((n+1)-(i+1))<|gc-(i+1)) rfl (Bp (a:=some ⟨l,0,none⟩) (len:=n+1) (cap:=gc) (sz:=2) (k:=.i64) (i:=((i+1:Nat):Int)) rfl Aa Aa runUnderlying148 sizeOf219 Ae Ae)<|Wd.mp 2 [] [1]<|Wd.yc (v:=sL (Dl (some ⟨l,0,none⟩) gc i 2) ((n+1)-i)<|gc-i) rfl rfl rfl (Ys.yc<|Bp (a:=some ⟨l,0,none⟩) (len:=n+1) (cap:=gc) (sz:=2) (k:=.i64) (i:=(i:Int)) rfl Aa Aa runUnderlying148 sizeOf219 Ae Ae) (Ec [1]) ?_
   obtain⟨A62,C⟩: ∃A,Br (cs++J) ((i+1)*2) (cs.drop (i*2))=A:=⟨_,rfl⟩
   have ad:A62.length=(cs++J).length:=by rw[←C];exact Cu _ _ _ Afy
   try simp only[List.length_append,List.length_take]at ad
   refine Cg rfl rfl (Cy (td:=148) (tx:=148) (e:=219) (ii:=(prog.info? 219).getD default) (xv:=sL (Dl (some ⟨l,0,none⟩) gc i 2) ((n+1)-i)<|gc-i) (cap:=gc) (dl:=(n+1)-(i+1)) (dc:=gc-(i+1)) (m:=(n+1)-i) (q:=n-i) (sz:=2) (o':=i+1) (i:=0) (j:=0) (b:=l) (t:=219) (cs:=cs++J) (cs':=A62) (news:=cs.drop<|i*2) (LL':=[[cb l A62 219],[cb f news 219]]) rfl rfl Aa Aa Aa Aa Ae Aa rfl rfl (fun _=>rfl) Mb (Src.at (a:=Dl (some ⟨l,0,none⟩) gc i 2) (show(cs.drop<|i*2).length=(n-i)*2 by rw[List.length_drop,hcs];omega) fun E o=>(by have z_:=((Az (i:=0) (j:=0) (t:=219) (b:=l) o rfl rfl).dropT (cap:=gc) (k:=i) (m:=n-i) (sz:=2) Ae);rwa[drop_take hcs Ae]at z_)) (show(cs.drop<|i*2).length=(n-i)*2 by rw[List.length_drop,hcs];omega) Afy (one_drop L _) C rfl) (Ay [1]) fun _=>Ck<|Av ?_
   refine Ab 2<|Ao (v:=sL (Dl (some ⟨l,0,none⟩) gc i 2) ((n+1)-i)<|gc-i) (Bp (a:=some ⟨l,0,none⟩) (len:=n+1) (cap:=gc) (sz:=2) (k:=.i64) (i:=(i:Int)) rfl Aa Aa runUnderlying148 sizeOf219 Ae Ae) ?_
   obtain⟨A67,D⟩: ∃A,Br A62 (i*2) news=A:=⟨_,rfl⟩
   have ae:A67.length=A62.length:=by rw[←D];exact Cu _ _ _ L9
   try simp only[List.length_append,List.length_take]at ae
   refine Ab 1<|Af rfl (Cy (td:=148) (tx:=148) (e:=219) (ii:=(prog.info? 219).getD default) (xv:=sL (some ⟨f,0,none⟩) 1 1) (cap:=gc) (dl:=(n+1)-i) (dc:=gc-i) (m:=1) (q:=1) (sz:=2) (o':=i) (i:=0) (j:=0) (b:=l) (t:=219) (cs:=A62) (cs':=A67) (news:=news) (LL':=[[cb l A67 219],[cb f news 219]]) rfl rfl Aa Aa Aa Aa Ae Aa rfl rfl (fun _=>rfl) Mb (Src.at (a:=some ⟨f,0,none⟩) hnl fun E o=>(Az (i:=1) (j:=0) (t:=219) (b:=f) o rfl rfl)) hnl L9 H D rfl) fun _=>?_
   refine Ai<|Aj []<|Am rfl ?_
   have R:=ins_in hcs Ae Ae Ae C D
   exact D4 rfl (Ar<|sL (some ⟨l,0,none⟩) (n+1) gc) fun E r=>⟨⟨false,l,gc,J.drop 2⟩,⟨⟨fun h=>(by cases h),Ae,ok.mx,(by show gc*2≤_;rw[List.length_drop];omega)⟩,rfl⟩,rfl,(Mem.cast (by rw[R];rfl)<|r.pick [0] An rfl)⟩
theorem delS_c(g:FS)(cs:List Value)(n i:Nat)(M:List Nat)(w:World)(O:Mem w M [g.seg 219 cs] w)(ok:g.ok 2 n)(hcs:cs.length=n*2)(V:i<n)(X:n≤100000)(D: ∀v∈cs,v.oneCell'=true):Calls prog 113 #[sV g n,nV .i64 i,nV .i64 (i+1)] w (Bl w (fun l:FS=>l.ok 2 (n-1)∧l.nil=false) (fun l=>.slice l.a (n-1) l.cap) M (fun l=>[l.seg 219 (cs.take (i*2)++cs.drop ((i+1)*2))])):=by
 have H:=ok.le;have I:=ok.mx;have P:=hcs
 refine Ap (M:=M) (LL:=[g.seg 219 cs]) (n:=33) func113 rfl rfl A5 (O)<|Aj []<|Av<|Ab 5 ?_
 refine Ao (v:=sL (Dl g.a n i 2) ((i+1)-i)<|n-i) (I6 (a:=g.a) (len:=n) (cap:=g.cap) (sz:=2) (k:=.i64) (k':=.i64) (k'':=.i64) (i:=(i:Int)) (j:=((i+1:Nat):Int)) (q:=(n:Int)) rfl Aa Aa Aa Aa runUnderlying148 sizeOf219 Ae Ae Ae Ae)<|Ai<|W.s<|Aj [] ?_
 refine Al (((i:Nat):Int)==((i+1:Nat):Int)) Aa (fun Q=>?_) fun R=>?_
 ·have E:=Q;try simp only[zA]at E
  (exfalso;omega)
 ·have F:=R;try simp only[zA]at F
  refine Ag<|A7<|Aj []<|W.s ?_
  have o:=C1 ok Ae
  obtain⟨r,c,gc,x⟩:=g
  obtain rfl:r=false:=o
  have J:n≤gc:=ok.le
  have L:gc*2≤n*2+x.length:=ok.len
  refine B2 [(0,true),(1,true),(2,true),(3,true),(4,false),(5,false),(6,false),(7,false)] [0,1,2,3] (Mem w M []) Aa Aa Aa rfl Aa (fun _ _ B=>B.drawn _) (fun _ B=>B.pick [] An rfl)<|B1 2<|Bi (v:=sL (some ⟨c,0,none⟩) i gc) rfl (Dw (a:=some ⟨c,0,none⟩) (len:=n) (cap:=gc) (sz:=2) (k:=.i64) (i:=(i:Int)) rfl Aa Aa runUnderlying148 sizeOf219 Ae Ae)<|Wd.mp 2 [] []<|Wd.yc (v:=sL (Dl (some ⟨c,0,none⟩) gc (i+1) 2) (n-(i+1))<|gc-(i+1)) rfl rfl rfl (Ys.yc<|Bp (a:=some ⟨c,0,none⟩) (len:=n) (cap:=gc) (sz:=2) (k:=.i64) (i:=((i+1:Nat):Int)) rfl Aa Aa runUnderlying148 sizeOf219 Ae Ae) (Ec []) ?_
  obtain⟨A16,d⟩: ∃A,Br (cs++x) (i*2) (cs.drop ((i+1)*2))=A:=⟨_,rfl⟩
  have C:A16.length=(cs++x).length:=by rw[←d];exact Cu _ _ _ (by rw[(show(cs.drop ((i+1)*2)).length=(n-(i+1))*2 by rw[List.length_drop,hcs];omega)];(try simp only[List.length_append,List.length_take]);omega)
  try simp only[List.length_append,List.length_take]at C
  refine Cg rfl rfl (I8 (t:=148) (u:=148) (e:=219) (eu:=219) (ii:=(prog.info? 219).getD default) (xv:=Value.slice (Dl (some ⟨c,0,none⟩) gc (i+1) 2) (n-(i+1))<|gc-(i+1)) (nn:=i) (m:=n-(i+1)) (k:=n-1) (cap:=gc) (sz:=2) (i:=0) (j:=0) (b:=c) (ty:=219) (cs:=cs++x) (cs':=A16) (news:=cs.drop<|(i+1)*2) (LL':=[[cb c A16 219]]) rfl rfl Aa Aa Aa Aa Aa Aa rfl rfl (fun _=>rfl) Ae Ae (Src.at (a:=Dl (some ⟨c,0,none⟩) gc (i+1) 2) (show(cs.drop<|(i+1)*2).length=(n-(i+1))*2 by rw[List.length_drop,hcs];omega) fun S B=>(by have T:=((Az (i:=0) (j:=0) (t:=219) (b:=c) B rfl rfl).dropT (cap:=gc) (k:=i+1) (m:=n-(i+1)) (sz:=2) Ae);rwa[drop_take hcs Ae]at T)) (by rw[(show(cs.drop<|(i+1)*2).length=(n-(i+1))*2 by rw[List.length_drop,hcs];omega)];(try simp only[List.length_append,List.length_take]);omega) (one_drop D _) d rfl) (Ay []) fun _=>Dd 1 []<|Ck<|W.s ?_
  refine Ac<|Ab 4<|Ao (v:=sL (Dl (some ⟨c,0,none⟩) gc (n-1) 2) (n-(n-1))<|gc-(n-1)) (Ie (a:=some ⟨c,0,none⟩) (len:=n-1) (cap:=gc) (sz:=2) (k:=.i64) (i:=((n-1:Nat):Int)) (k':=.i64) (j:=(n:Int)) rfl Aa Aa Aa runUnderlying148 sizeOf219 Ae Ae Ae) ?_
  obtain⟨A21,f⟩: ∃A,Br A16 ((n-1)*2) [iV .u64 0,iV .u64 0]=A:=⟨_,rfl⟩
  have N:A21.length=A16.length:=by rw[←f];exact Cu _ _ _ Vl
  refine Af rfl (K8 (t:=148) (e:=219) (ii:=(prog.info? 219).getD default) (z:=aV [iV .u64 0,iV .u64 0]) (m:=0) (cap:=gc-(n-1)) (o':=(n-1)*2) (i:=0) (j:=0) (b:=c) (ty:=219) (cs:=A16) (cs':=A21) (zs:=[iV .u64 0,iV .u64 0]) (LL':=[[cb c A21 219]]) rfl rfl Aa Aa Aa (Eq.trans (b:=sL (Dl (some ⟨c,0,none⟩) gc (n-1) 2) (n-(n-1))<|gc-(n-1)) Aa<|by rw[Hc Ae];congr 1;omega) rfl rfl Aa Vl ma3 f rfl) fun _=>Ai<|Aj []<|Am rfl ?_
  have U:=del_in (zs:=[iV .u64 0,iV .u64 0]) hcs Ae rfl d f
  exact D4 rfl (Ar<|Value.slice (some ⟨c,0,none⟩) (n-1) gc) fun S G=>⟨⟨false,c,gc,[iV .u64 0,iV .u64 0]++x⟩,⟨⟨fun h=>(by cases h),(by show n-1≤gc;omega),ok.mx,(by show gc*2≤_;simp only[List.length_append,List.length_cons,List.length_nil];omega)⟩,rfl⟩,rfl,(Mem.cast (by rw[U];rfl)<|G.pick [0] An rfl)⟩
end ZW
open ZW
def He(a b:Int):Int:=bif decide (a<b)then-1 else bif decide (a>b)then 1 else 0
theorem Yz(a b:Int):He a b<0↔a<b:=by
  unfold He
  by_cases h:a<b
  · rw[decide_eq_true h];simp[h]
  · rw[decide_eq_false h]
    by_cases c:a>b
    · rw[decide_eq_true c];simp;omega
    · rw[decide_eq_false c];simp;omega
theorem Y0(a b:Int):He a b=0↔a=b:=by
  unfold He
  by_cases h:a<b
  · rw[decide_eq_true h];simp;omega
  · rw[decide_eq_false h]
    by_cases c:a>b
    · rw[decide_eq_true c];simp;omega
    · rw[decide_eq_false c];simp;omega
def Nu(ks:List Int)(k:Int):Nat:=(ks.takeWhile fun x=> !(x==k)).length
def Nv(ks:List Int)(k:Int):Int:=bif decide (Nu ks k<ks.length)then(Nu ks k:Int)else-1
theorem Akq(ks:List Int)(k:Int):Nu ks k≤ks.length:=(List.takeWhile_sublist _).length_le
theorem Ld{k:Int}: ∀{ks:List Int} {i:Nat},i≤Nu ks k→i<ks.length→(ks.getD i 0=k↔Nu ks k=i)
  | [],i,_,h=>by simp at h
  |x::ks,i,hi,h=>by
    unfold Nu at hi⊢
    rw[List.takeWhile_cons]at hi⊢
    by_cases b:x=k
    · subst b
      simp only[beq_self_eq_true,Bool.not_true,Bool.false_eq_true,if_false,List.length_nil]at hi⊢
      obtain rfl:i=0:=by omega
      simp
    · rw[if_pos (by simpa using b)]at hi⊢
      rw[List.length_cons]at hi⊢
      cases i with
      |zero=>simp only[List.getD_cons_zero];constructor;exact fun h=>absurd h b;intro h;omega
      |succ i=>
        have:=Ld (k:=k) (ks:=ks) (i:=i) (by unfold Nu;omega) (by simpa using h)
        unfold Nu at this
        rw[List.getD_cons_succ,this];omega
theorem Y1{ks:List Int}{k:Int}(h:Nu ks k<ks.length):ks.getD (Nu ks k) 0=k:=(Ld (Nat.le_refl _) h).2 rfl
theorem Ue{ks:List Int}{k:Int}(h:Nv ks k≥0):Nu ks k<ks.length∧Nv ks k=(Nu ks k:Int):=by
  unfold Nv at h⊢
  by_cases b:Nu ks k<ks.length
  · rw[decide_eq_true b];exact⟨b,rfl⟩
  · rw[decide_eq_false b]at h;exact absurd (show(-1:Int)≥0 from h) An
theorem Agx{ks:List Int}{k:Int}(h:Nv ks k≥0):(Nv ks k).toNat=Nu ks k∧Nu ks k<ks.length:=by
  obtain⟨a,b⟩:=Ue h;rw[b];exact⟨rfl,a⟩
theorem Y2{ks:List Int}{k:Int}:Nu ks k<ks.length↔k∈ks:=by
  constructor
  · intro h
    have:=Y1 h
    rw[List.getD_eq_getElem?_getD,List.getElem?_eq_getElem h]at this
    rw[←this];exact List.getElem_mem h
  · intro h
    obtain⟨i,b,d⟩:=List.getElem_of_mem h
    rcases Nat.lt_or_ge (Nu ks k) ks.length with c|c
    · exact c
    · have e:=(Ld (k:=k) (ks:=ks) (i:=i) Ae b).1 (by rw[List.getD_eq_getElem?_getD,List.getElem?_eq_getElem b];exact d)
      omega
def Ho(x:Int×Int):List Value:=[.int .u64 x.1,.int .u64 x.2]
theorem G3(x:Int×Int):(Ho x).length=2:=rfl
theorem Uf(x:Int×Int): ∀v∈Ho x,v.oneCell'=true:=fun v b=>by
  simp only[Ho,List.mem_cons,List.not_mem_nil,or_false]at b
  rcases b with rfl|rfl<;>rfl
def or2(x y:Int):Int:=bif x !=0 then x else bif y !=0 then y else 0
def Om(x y:Int×Int):Int:=or2 (He x.1 y.1) (He x.2 y.2)
def LtS(x y:Int×Int):Prop:=x.1<y.1∨x.1=y.1∧x.2<y.2
instance (x y:Int×Int):Decidable (LtS x y):=by unfold LtS;exact inferInstance
theorem Y3{x y:Int×Int}:Om x y<0↔LtS x y:=by
  have f:=Yz x.1 y.1;have b:=Y0 x.1 y.1;have g:=Yz x.2 y.2;have d:=Y0 x.2 y.2
  unfold Om or2 LtS
  by_cases h:He x.1 y.1=0
  · rw[show(He x.1 y.1 !=0)=false by simp[h]]
    by_cases c:He x.2 y.2=0
    · rw[show(He x.2 y.2 !=0)=false by simp[c]];simp only[cond_false];have:=b.1 h;have:=d.1 c;omega
    · rw[show(He x.2 y.2 !=0)=true by simp[c]];simp only[cond_false,cond_true];have:=b.1 h;omega
  · rw[show(He x.1 y.1 !=0)=true by simp[h]];simp only[cond_true]
    have:x.1≠y.1:=fun e=>h (b.2 e)
    omega
def Im(xs:List (Int×Int))(x:Int×Int):Nat:=(xs.takeWhile fun p=>decide (LtS p x)).length
def S3(xs:List (Int×Int)):Prop:=xs.Pairwise LtS
theorem Ug(xs:List (Int×Int))(x:Int×Int):Im xs x≤xs.length:=(List.takeWhile_sublist _).length_le
theorem LtS.trans{x y z:Int×Int}(h:LtS x y)(g:LtS y z):LtS x z:=by unfold LtS at*;omega
theorem Jp{k:Int×Int}: ∀{xs:List (Int×Int)},S3 xs→ ∀{h:Nat},h<xs.length→(LtS (xs.getD h (0,0)) k↔h<Im xs k)
  | [],_,h,hh=>by simp at hh
  |x::xs,hs,h,hh=>by
    have b:=List.pairwise_cons.1 hs
    unfold Im
    rw[List.takeWhile_cons]
    by_cases c:LtS x k
    · rw[if_pos (by simpa using c),List.length_cons]
      cases h with
      |zero=>simpa using c
      |succ h=>
        have:=Jp (k:=k) b.2 (h:=h) (by simpa using hh)
        unfold Im at this
        rw[List.getD_cons_succ,this];omega
    · rw[if_neg (by simpa using c),List.length_nil]
      cases h with
      |zero=>simp only[List.getD_cons_zero];exact⟨fun h=>absurd h c,fun h=>by omega⟩
      |succ h=>
        have d:=b.1 (xs.getD h (0,0)) (by
          have:h<xs.length:=by simpa using hh
          rw[List.getD_eq_getElem?_getD,List.getElem?_eq_getElem this];exact List.getElem_mem _)
        rw[List.getD_cons_succ];exact⟨fun h=>absurd (d.trans h) c,fun h=>by omega⟩
def C7(xs:List (Int×Int)):List Int:=xs.map Prod.snd
theorem Gx(xs:List (Int×Int)):(C7 xs).length=xs.length:=List.length_map _
theorem Oo{xs:List (Int×Int)}{i:Nat}(h:i<xs.length):(C7 xs).getD i 0=(xs.getD i (0,0)).2:=by
  simp[C7,List.getD_eq_getElem?_getD,List.getElem?_map,List.getElem?_eq_getElem h]
def Gc(xs:List (Int×Int))(k:Int):List (Int×Int):=bif decide (Nv (C7 xs) k≥0)then xs.take (Nu (C7 xs) k)++xs.drop (Nu (C7 xs) k+1)else xs
def S4(xs:List (Int×Int))(x:Int×Int):List (Int×Int):=xs.take (Im xs x)++x::xs.drop (Im xs x)
def Kw(xs:List (Int×Int))(k a:Int):List (Int×Int):=S4 (Gc xs k) (a,k)
theorem Uh(xs:List (Int×Int))(k:Int):(Gc xs k).length≤xs.length:=by
  unfold Gc;cases decide (Nv (C7 xs) k≥0)
  · exact Nat.le_refl _
  · simp only[cond_true,List.length_append,List.length_take,List.length_drop];omega
theorem Ach(xs:List (Int×Int))(x:Int×Int):(S4 xs x).length=xs.length+1:=by
  have:=Ug xs x
  unfold S4;simp only[List.length_append,List.length_take,List.length_cons,List.length_drop];omega
theorem Aci(xs:List (Int×Int))(k a:Int):(Kw xs k a).length≤xs.length+1:=by
  unfold Kw;rw[Ach];have:=Uh xs k;omega
theorem V4(xs:List (Int×Int))(k:Int):(Gc xs k).Sublist xs:=by
  unfold Gc;cases decide (Nv (C7 xs) k≥0)
  · exact List.Sublist.refl _
  · simp only[cond_true]
    conv=>rhs;rw[←List.take_append_drop (Nu (C7 xs) k) xs]
    exact(List.Sublist.refl _).append<|List.drop_sublist_drop_left _ Ae
theorem V5{xs:List (Int×Int)}(h:S3 xs)(k:Int):S3 (Gc xs k):=h.sublist (V4 xs k)
theorem R3{xs:List (Int×Int)}{k:Int}(r:(C7 xs).Nodup){p:Int×Int}:p∈Gc xs k↔p∈xs∧p.2≠k:=by
  unfold Gc
  by_cases d:Nv (C7 xs) k≥0
  · obtain⟨E,f⟩:=Agx d
    have g:=Y1 f
    rw[decide_eq_true d];simp only[cond_true]
    generalize Nu (C7 xs) k=i at f g
    rw[Gx]at f
    obtain⟨a,x,b,rfl,t⟩: ∃a x b,xs=a++x::b∧a.length=i:=⟨xs.take i,xs[i],xs.drop (i+1),by rw[List.getElem_cons_drop,List.take_append_drop],by rw[List.length_take];omega⟩
    subst t
    rw[Oo A5]at g
    have j:x.2=k:=by simpa [List.getD_eq_getElem?_getD]using g
    have u:(a++x::b).take a.length=a:=List.take_left
    have w:(a++x::b).drop (a.length+1)=b:=by rw[show a++x::b=(a++[x])++b by simp,show a.length+1=(a++[x]).length by simp,List.drop_left]
    rw[u,w]
    have c:(a.map Prod.snd++x.2::b.map Prod.snd).Nodup:=by simpa [C7]using r
    rw[List.nodup_append]at c
    obtain⟨-,A,l⟩:=c
    have n:=List.nodup_cons.1 A
    have B: ∀p∈a,p.2≠k:=fun p o e=>l p.2 (List.mem_map.2 ⟨p,o,rfl⟩) x.2 (List.mem_cons_self ..) (by rw[e,j])
    have C: ∀p∈b,p.2≠k:=fun p o e=>n.1 (by rw[j,←e];exact List.mem_map.2 ⟨p,o,rfl⟩)
    simp only[List.mem_append,List.mem_cons]
    constructor
    · rintro(h|h)
      · exact⟨.inl h,B p h⟩
      · exact⟨.inr (.inr h),C p h⟩
    · rintro⟨h|rfl|h,q⟩
      · exact .inl h
      · exact absurd j q
      · exact .inr h
  · rw[decide_eq_false d]
    simp only[cond_false]
    refine⟨fun h=>⟨h,fun e=>d ?_⟩,fun h=>h.1⟩
    have D:k∈C7 xs:=by rw[←e];exact List.mem_map.2 ⟨p,h,rfl⟩
    have:=Y2.2 D
    unfold Nv;rw[decide_eq_true this];simp only[cond_true];omega
theorem Acj{xs:List (Int×Int)}{x p:Int×Int}:p∈S4 xs x↔p=x∨p∈xs:=by
  unfold S4
  conv=>rhs;rw[←List.take_append_drop (Im xs x) xs]
  simp only[List.mem_append,List.mem_cons]
  constructor
  · rintro(h|h|h)
    · exact .inr (.inl h)
    · exact .inl h
    · exact .inr (.inr h)
  · rintro(h|h|h)
    · exact .inr (.inl h)
    · exact .inl h
    · exact .inr (.inr h)
theorem Aad(xs:List (Int×Int))(x:Int×Int):(S4 xs x).Perm (x::xs):=by
  unfold S4
  refine List.perm_middle.trans ?_
  rw[List.take_append_drop]
theorem Ack{xs:List (Int×Int)}(h:S3 xs){x:Int×Int}(o: ∀p∈xs,p.2≠x.2):S3 (S4 xs x):=by
  have c: ∀p∈xs.drop (Im xs x),LtS x p:=by
    intro p f
    obtain⟨j,g,e⟩:=List.getElem_of_mem f
    rw[List.getElem_drop]at e
    have i:Im xs x+j<xs.length:=by rw[List.length_drop]at g;omega
    have:=mt (Jp (k:=x) h i).1 Ae
    rw[List.getD_eq_getElem?_getD,List.getElem?_eq_getElem i,Option.getD_some,e]at this
    have q:=o p (by rw[←e];exact List.getElem_mem i)
    unfold LtS at this⊢;omega
  have d: ∀p∈xs.take (Im xs x),LtS p x:=by
    intro p f
    obtain⟨j,g,e⟩:=List.getElem_of_mem f
    rw[List.getElem_take]at e
    rw[List.length_take]at g
    have:=(Jp (k:=x) h (h:=j) Ae).2 Ae
    rw[List.getD_eq_getElem?_getD,List.getElem?_eq_getElem Ae,Option.getD_some,e]at this;exact this
  unfold S4 S3
  rw[List.pairwise_append]
  refine⟨h.sublist<|List.take_sublist _ _,List.pairwise_cons.2 ⟨c,h.sublist<|List.drop_sublist _ _⟩,fun a n b l=>?_⟩
  rcases List.mem_cons.1 l with rfl|l
  · exact d a n
  · exact(d a n).trans (c b l)
structure OkS(xs:List (Int×Int)):Prop where
  srt:S3 xs
  nd:(C7 xs).Nodup
theorem OkS.nil:OkS []:=⟨List.Pairwise.nil,List.nodup_nil⟩
theorem OkS.cut{xs:List (Int×Int)}(h:OkS xs)(k:Int):OkS (Gc xs k):=⟨V5 h.srt k,h.nd.sublist ((V4 xs k).map _)⟩
theorem OkS.set{xs:List (Int×Int)}(h:OkS xs)(k a:Int):OkS (Kw xs k a):=by
  have c: ∀p∈Gc xs k,p.2≠k:=fun p b=>((R3 h.nd).1 b).2
  refine⟨Ack (h.cut k).srt c,?_⟩
  have b:=((Aad (Gc xs k) (a,k)).map Prod.snd).nodup_iff.2
  refine b ?_
  rw[List.map_cons]
  refine List.nodup_cons.2 ⟨fun d=>?_,(h.cut k).nd⟩
  obtain⟨p,b,e⟩:=List.mem_map.1 d
  exact c p b e
theorem OkS.drop{xs:List (Int×Int)}(h:OkS xs)(n:Nat):OkS (xs.drop n):=⟨h.srt.sublist (List.drop_sublist _ _),h.nd.sublist ((List.drop_sublist _ _).map _)⟩
theorem Acl{xs:List (Int×Int)}(h:OkS xs){k a:Int}{p:Int×Int}:p∈Kw xs k a↔p=(a,k)∨p∈xs∧p.2≠k:=by
  unfold Kw;rw[Acj,R3 h.nd]
theorem Acm(x:Int)(w:World):Calls prog 68 #[iV .u64 x] w (Df w (.bool false)):=by
 refine Ap (M:=[]) (LL:=[]) (n:=6) func68 rfl rfl A5 (Mem.refl _)<|Aj []<|Aj []<|Am rfl<|D3 rfl (Ar<|bV<|x !=x)<|by exact B4 A5
theorem Acn(a b:Int)(w:World):Calls prog 35 #[iV .u64 a,iV .u64 b] w (Df w (.int .i64 (He a b))):=by
 refine Ap (M:=[]) (LL:=[]) (n:=20) func35 rfl rfl A5 (Mem.refl _)<|Aj []<|Av<|Ab 1 ?_
 refine Ca (v:=bV false) (A6 fun o l=>(Acm a _))<|Ab 1<|Ai<|W.s ?_
 refine Ac<|Ab 1<|Ca (v:=bV false) (A6 fun o l=>(Acm b _))<|Ab 1<|Ax ?_
 refine A7<|W.s ?_
 refine Aj []<|B3 Aa<|Ag<|A7<|W.s ?_
 refine Aj []<|B3 Aa<|Ag<|A7<|W.s ?_
 refine Aj [] ?_
 refine Al (decide<|a<b) Aa (fun d=>?_) fun c=>?_
 ·have e:=d;try simp only[zA]at e
  refine Aj []<|Am rfl<|D3 rfl (Ar<|iV .i64<|-1)<|by simp only[He,d,cond_true,cond_false];try rfl
 ·have f:=c;try simp only[zA]at f
  refine Ag<|A7<|W.s<|Aj [] ?_
  refine Al (decide<|a>b) Aa (fun g=>?_) fun h=>?_
  ·have i:=g;try simp only[zA]at i
   refine Aj []<|Am rfl<|D3 rfl (Ar<|iV .i64 1)<|by simp only[He,c,g,cond_true,cond_false];try rfl
  ·have j:=h;try simp only[zA]at j
   refine Ag<|A7<|Aj []<|Am rfl<|D3 rfl (Ar<|iV .i64 0)<|by simp only[He,c,h,cond_true,cond_false];try rfl
theorem Aoa(x y:Int)(a:Option Addr)(cap:Nat)(w:World)(c:At w a [.int .i64 x,.int .i64 y]):Calls prog 64 #[sL a 2 cap] w (Df w (.int .i64 (or2 x y))):=by
 refine Ap (M:=[]) (LL:=[]) (n:=18) func64 rfl rfl A5 (Mem.refl _)<|Aj []<|Aj []<|W.s<|Aj [] ?_
 refine W.block<|Jo 3<|Dh fun C d=>Aj []<|W.s ?_
 refine B9 Aa<|Ag<|A7<|W.s<|W.block ?_
 refine Av<|Ao (v:=pL<|some<|Cv a 0) (Bd fun u e=>Aq (k:=.i64) (a:=a) (len:=2) (cap:=cap) (i:=0) (sz:=1) rfl Aa Aa runUnderlying224 sizeOf3 An An<|(c.mem0 e).here Sz)<|Ao (Ys.ld (a:=Cv a 0) rfl Aa isAgg3 fun u e=>(c.mem0 e).ld (v:=iV .i64 x) rfl)<|Ab 1 ?_
 refine Ai<|Aj [] ?_
 refine Al (x !=0) Aa (fun g=>?_) fun f=>?_
 ·have h:=g;try simp only[zA]at h
  refine Aj []<|Am rfl<|D3 rfl (Ar<|iV .i64 x)<|by clear d;simp only[or2,g,cond_true,cond_false];try rfl
 ·have j:=f;try simp only[zA]at j
  refine Ag<|A7<|Ac<|Ab 2<|Ax ?_
  refine d _ _ _<|Dh fun A b=>?_
  refine Aj []<|W.s ?_
  refine B9 Aa<|Ag<|A7<|W.s<|W.block ?_
  refine Av<|Ao (v:=pL<|some<|Cv a 1) (Bd fun u e=>Aq (k:=.i64) (a:=a) (len:=2) (cap:=cap) (i:=1) (sz:=1) rfl Aa Aa runUnderlying224 sizeOf3 An An<|(c.mem0 e).here Sz)<|Ao (Ys.ld (a:=Cv a 1) rfl Aa isAgg3 fun u e=>(c.mem0 e).ld (v:=iV .i64 y) rfl)<|Ab 1 ?_
  refine Ai<|Aj [] ?_
  refine Al (y !=0) Aa (fun l=>?_) fun o=>?_
  ·have q:=l;try simp only[zA]at q
   refine Aj []<|Am rfl<|D3 rfl (Ar<|iV .i64 y)<|by clear d b;simp only[or2,f,l,cond_true,cond_false];try rfl
  ·have r:=o;try simp only[zA]at r
   refine Ag<|A7<|Ac<|Ab 2<|Ax ?_
   refine b _ _ _<|Dh fun B t=>?_
   refine Aj []<|W.s ?_
   refine B3 Aa<|Cp<|A7<|Aj []<|Am rfl<|D3 rfl (Ar<|iV .i64 0)<|by clear d b t;simp only[or2,f,o,cond_true,cond_false];try rfl
theorem Aco(a k b l:Int)(w:World):Calls prog 142 #[aV [iV .u64 a,iV .u64 k],aV [iV .u64 b,iV .u64 l]] w (Df w (.int .i64 (Om (a,k) (b,l)))):=by
 refine Ap (M:=[]) (LL:=[]) (n:=17) func142 rfl rfl A5 (Mem.refl _)<|W.s ?_
 refine Ac<|Af rfl (Bx [iV .u64 a,iV .u64 k] rfl) fun g=>?_
 refine Af rfl (Bx [iV .u64 b,iV .u64 l] rfl) fun h=>Ab 1<|Ai<|W.s ?_
 refine C6 [(0,true),(1,true),(2,true),(3,true),(5,true),(6,true),(7,true),(8,true),(4,false),(9,false),(10,false),(11,false),(12,false)] [0,1,2,3,5,6,7,8]<|Dd 8 [(1,0),(0,0),(1,0),(0,0)]<|Ea (v:=iV .i64<|He a b) rfl (A6 fun e c=>(Acn a b _))<|Ea (v:=iV .i64<|He k l) rfl (A6 fun e c=>(Acn k l _))<|Cg rfl rfl (Bf (mk:=fun f=>.slice (some ⟨f,0,none⟩) 2 2) (t:=3) (cs:=[iV .i64 (He a b),iV .i64 (He k l)]) rfl fun _=>kr) (Ay [1,2]) fun d=>?_
 refine Wd.yc (v:=iV .i64<|or2 (He a b)<|He k l) rfl rfl rfl (A6 fun e c=>(Aoa (He a b) (He k l) (some ⟨d,0,none⟩) 2 _<|Az (i:=0) (j:=0) (t:=3) (b:=d) c rfl rfl)) (Ec [1,2])<|Dd 1 []<|Ck<|Ak [] An rfl ?_
 refine Am rfl<|D3 rfl (Ar<|iV .i64<|or2 (He a b)<|He k l) rfl
theorem Aob(a l k:Int)(pk:Nat)(M:List Nat)(w:World)(c:Mem w M [[cb pk [Value.int .u64 k] 45]] w):Calls prog 167 #[aV [iV .u64 a,iV .u64 l],pV pk 0] w (Bl w (fun _:Unit=>True) (fun _=>bV (l==k)) M (fun _=>[[cb pk [iV .u64 k] 45]])):=by
 refine Ap (M:=M) (LL:=[[cb pk [iV .u64 k] 45]]) (n:=8) func167 rfl rfl A5 (c)<|W.s ?_
 refine Ac<|Af rfl (Bx [iV .u64 a,iV .u64 l] rfl) fun d=>?_
 refine Ab 1<|Ai<|Aj [(0,0),(1,0)]<|Ak [1] An rfl ?_
 refine Am rfl<|D4 rfl (Ar<|bV<|l==k) fun e b=>⟨(),trivial,rfl,(b.pick [0] An rfl)⟩
theorem Aoc(xs:List (Int×Int))(k:Int)(g:FS)(pk:Nat)(M:List Nat)(w:World)(D:Mem w M [g.seg 219 (mm Ho xs),[cb pk [Value.int .u64 k] 45]] w)(ok:g.ok 2 xs.length)(G:xs.length≤100000):Calls prog 166 #[sV g xs.length,Value.func (.func 167) #[] #[pV pk 0]] w (Bl w (fun _:Unit=>True) (fun _=>iV .i64 (Nv (C7 xs) k)) M (fun _=>[g.seg 219 (mm Ho xs),[cb pk [iV .u64 k] 45]])):=by
 refine Ap (M:=M) (LL:=[g.seg 219 (mm Ho xs),[cb pk [iV .u64 k] 45]]) (n:=19) func166 rfl rfl A5 (D)<|Aj []<|W.s<|Aj []<|W.block ?_
 refine Ds [0,1,7,8] (fun(i:Nat)=>[sV g xs.length,Value.func (.func 167) #[] #[pV pk 0],nV .i64 xs.length,nV .i64 i]) (fun(i:Nat)=>i≤Nu (C7 xs) k∧i≤xs.length) (fun(i:Nat)=>[g.seg 219 (mm Ho xs),[cb pk [iV .u64 k] 45]]) (fun(i:Nat)=>xs.length-i) 0 Aa ⟨(Nat.zero_le _),(Nat.zero_le _)⟩ (by rfl) fun i H I o q=>?_
 obtain⟨C,E⟩:=o
 refine Aj []<|W.s ?_
 refine Al (decide<|((i:Nat):Int)<(xs.length:Int)) Aa (fun r=>?_) fun u=>?_
 ·have j:=r;try simp only[zA]at j
  refine Ag<|A7<|W.s<|W.block<|Aj [] ?_
  refine Av<|Ab 3<|Ao (v:=pL<|some<|Cv g.a<|i*2) (Aq (k:=.i64) (a:=g.a) (len:=xs.length) (cap:=g.cap) (i:=(i:Int)) (sz:=2) rfl Aa Aa runUnderlying148 sizeOf219 Ae Ae Z6)<|Ao (v:=aV [iV .u64 ((xs.getD i (0,0)).1),iV .u64 ((xs.getD i (0,0)).2)]) (Ys.ldN (a:=Cv g.a<|i*2) (vs:=[iV .u64 ((xs.getD i (0,0)).1),iV .u64 ((xs.getD i (0,0)).2)]) rfl Aa isAgg219 sizeOf219 rfl fun f h=>(FS.at (i:=0) (t:=219) h rfl<|Ah ok<|Cj G3 _).ldN<|Di (g:=Ho) (sz:=2) (fun _=>rfl) (0,0) (xs:=xs) (k:=i) Ae) ?_
  refine Ca (v:=bV<|((xs.getD i (0,0)).2)==k) (A6 fun f x=>(let b:=Kh (x.pick [1] An rfl);Nq b<|Aob ((xs.getD i (0,0)).1) ((xs.getD i (0,0)).2) k pk _ f b))<|Ai ?_
  refine Al (((xs.getD i (0,0)).2)==k) Aa (fun A=>?_) fun B=>?_
  ·have c:=A;try simp only[zA]at c
   refine Aj []<|Am rfl<|D4 rfl (Ar<|nV .i64 i) fun f e=>⟨(),trivial,En<|(by have b:=(Ld C<|by rw[Gx];omega).1 ((Oo Ae).trans c);unfold Nv;rw[decide_eq_true (by rw[Gx];omega),b];rfl),(e.pick [0,1] An rfl)⟩
  ·have d:=B;try simp only[zA]at d
   refine Ag<|A7<|Ac<|Bz (((i+1):Nat):Int) (i:Int) 1<|Ab 1 ?_
   refine Ax ?_
   refine fun f h=>q (i+1) _ f Ae ⟨(by have b:=d;rw[←Oo Ae]at b;have F:=Ld C (by rw[Gx];omega);rcases Nat.lt_or_ge i (Nu (C7 xs) k)with h|h;exact h;exact absurd (F.2 Ae) b),Ae⟩ ?_ h
   kernel_rfl
 ·have l:=u;try simp only[zA]at l
  refine Cp<|A7<|Aj []<|Am rfl<|D4 rfl (Ar<|iV .i64<|-1) fun f e=>⟨(),trivial,En<|(by unfold Nv;rw[decide_eq_false (by have b:=Akq (C7 xs) k;rw[Gx]at b⊢;omega)];rfl),(e.pick [0,1] An rfl)⟩
theorem Agy(xs:List (Int×Int))(g:FS)(b:Nat)(M:List Nat)(k:Int)(w:World)(h:Mem w M [g.seg 219 (mm Ho xs),[cb b [sL g.a xs.length g.cap] 150]] w)(ok:g.ok 2 xs.length)(j:xs.length≤100000):Calls prog 126 #[pV b 0,iV .u64 k] w (Bl w (fun _:Unit=>True) (fun _=>iV .i64 (Nv (C7 xs) k)) M (fun _=>[g.seg 219 (mm Ho xs),[cb b [sV g xs.length] 150]])):=by
 refine Ap (M:=M) (LL:=[g.seg 219 (mm Ho xs),[cb b [sV g xs.length] 150]]) (n:=11) func126 rfl rfl A5 (h)<|W.s ?_
 refine Ac<|Af rfl (E6 (v:=iV .u64 k) (cs:=[iV .u64 k]) rfl rfl Aa rfl) fun i=>?_
 refine Ab 1<|Ai<|Av ?_
 refine A3 5 [(2,0)]<|Ca (v:=iV .i64<|Nv (C7 xs) k) (A6 fun e c=>(let f:=Kh (c.pick [1,0] An rfl);Nq f<|Aoc xs k g i _ e f ok Ae))<|Ab 1<|Ai ?_
 refine Ak [1,2] An rfl<|Am rfl<|D4 rfl (Ar<|iV .i64<|Nv (C7 xs) k) fun e d=>⟨(),trivial,rfl,(d.pick [0,1] An rfl)⟩
theorem Aod(xs:List (Int×Int))(x:Int×Int)(g:FS)(M:List Nat)(w:World)(hl:Mem w M [g.seg 219 (mm Ho xs)] w)(ok:g.ok 2 xs.length)(hn:xs.length≤100000)(U:S3 xs):Calls prog 141 #[sV g xs.length,aV [iV .u64 x.1,iV .u64 x.2],Value.func (.func 142) #[] #[]] w (Bl w (fun _:Unit=>True) (fun _=>Value.tuple #[nV .i64 (Im xs x),bV ((decide (((Im xs x:Nat):Int)<(xs.length:Int)))&&((Om (xs.getD (Im xs x) (0,0)) x)==0))]) M (fun _=>[g.seg 219 (mm Ho xs)])):=by
 refine Ap (M:=M) (LL:=[g.seg 219 (mm Ho xs)]) (n:=49) func141 rfl rfl A5 (hl)<|W.s ?_
 refine Ac<|Af rfl (Bx [iV .u64 x.1,iV .u64 x.2] rfl) fun N=>?_
 refine Ab 2<|Ai<|Aj []<|Aj [] ?_
 refine W.s<|W.block<|Ft [0,2,4,8,9,10] (fun(i:Nat) (j:Nat)=>[sV g xs.length,Value.func (.func 142) #[] #[],pV N 0,nV .i64 xs.length,nV .i64 i,nV .i64 j]) (fun(i:Nat) (j:Nat)=>i≤Im xs x∧Im xs x≤j∧j≤xs.length) (fun(i:Nat) (j:Nat)=>[[cb N [iV .u64 x.1,iV .u64 x.2] 219],g.seg 219 (mm Ho xs)]) (fun(i:Nat) (j:Nat)=>j-i) 0 xs.length Aa ⟨(Nat.zero_le _),(Ug _ _),(Nat.le_refl _)⟩ (by rfl) fun i j f9 J8 G H=>?_
 obtain⟨hi,hj,ab⟩:=G
 refine W.s<|Aj [] ?_
 refine Al (decide<|((i:Nat):Int)<(j:Int)) Aa (fun O=>?_) fun P=>?_
 ·have I:=O;try simp only[zA]at I
  refine Ag<|A7<|W.block<|Av ?_
  refine Ab 2<|Bz (((i+j):Nat):Int) (i:Int) (j:Int)<|Ao (v:=nV .u64<|i+j) ((Ys.p (v:=.int .u64<|Cq .u64 ((i+j:Nat):Int))).conseq<|Ad<|Cl Ae Ae)<|Ao (v:=nV .u64<|(i+j)/2) ((Ys.p (v:=.int .u64<|Ic .u64 ((i+j:Nat):Int) ((1:Nat):Int))).conseq<|Ad<|Fa (i+j) 1 An)<|Ao (v:=nV .i64<|(i+j)/2) ((Ys.p (v:=.int .i64<|Cq .i64 (((i+j)/2:Nat):Int))).conseq<|Ad<|Dc Ae Ae) ?_
  refine Ab 1<|Ai<|W.s<|C6 [(0,true),(1,true),(2,true),(3,true),(4,true),(5,false),(6,false),(7,false)] [0,1,2,3,4] ?_
  refine B1 3<|Bi (v:=pL<|some<|Cv g.a<|((i+j)/2)*2) rfl (Aq (k:=.i64) (a:=g.a) (len:=xs.length) (cap:=g.cap) (i:=(((i+j)/2:Nat):Int)) (sz:=2) rfl Aa Aa runUnderlying148 sizeOf219 Ae Ae Z6)<|Bi (v:=aV [iV .u64 ((xs.getD ((i+j)/2) (0,0)).1),iV .u64 ((xs.getD ((i+j)/2) (0,0)).2)]) rfl (Ys.ldN (a:=Cv g.a<|((i+j)/2)*2) (vs:=[iV .u64 ((xs.getD ((i+j)/2) (0,0)).1),iV .u64 ((xs.getD ((i+j)/2) (0,0)).2)]) rfl Aa isAgg219 sizeOf219 rfl fun o d=>(FS.at (i:=1) (t:=219) d rfl<|Ah ok<|Cj G3 _).ldN<|Di (g:=Ho) (sz:=2) (fun _=>rfl) (0,0) (xs:=xs) (k:=(i+j)/2) Ae)<|Bq 1 [(0,0)]<|Ea (v:=iV .i64<|Om (xs.getD ((i+j)/2) (0,0)) x) rfl (A6 fun o Q=>(Aco ((xs.getD ((i+j)/2) (0,0)).1) ((xs.getD ((i+j)/2) (0,0)).2) x.1 x.2 _)) ?_
  refine Bq 1 []<|Ck ?_
  refine Al (decide<|(Om (xs.getD ((i+j)/2) (0,0)) x)<0) Aa (fun R=>?_) fun S=>?_
  ·have q:=R;try simp only[zA]at q
   refine Ac<|Ab 1<|Bz (((((i+j)/2)+1):Nat):Int) (((i+j)/2:Nat):Int) 1<|Ab 1<|Ax ?_
   have f:=Jp (k:=x) U (h:=(i+j)/2) Ae
   have J:=f.1 (Y3.1 q)
   refine fun o d=>H ((i+j)/2+1) j _ o Ae ⟨Ae,Ae,Ae⟩ ?_ d
   kernel_rfl
  ·have r:=S;try simp only[zA]at r
   refine Ac<|Ab 2<|Ax ?_
   have f:=Jp (k:=x) U (h:=(i+j)/2) Ae
   have J: ¬((i+j)/2<Im xs x):=fun d=>r (Y3.2 (f.2 d))
   refine fun o d=>H i ((i+j)/2) _ o Ae ⟨Ae,Ae,Ae⟩ ?_ d
   kernel_rfl
 ·have L:=P;try simp only[zA]at L
  refine Cp<|A7<|W.s<|C6 [(0,true),(1,true),(2,false),(3,false),(4,false),(5,true),(6,true),(7,true),(8,true),(9,true),(10,false),(11,false),(12,true),(13,true),(14,false),(15,false)] [0,1,5,6,7,8,9,12,13]<|Bq 5 [] ?_
  refine Bg (v:=Value.func (.func 142) #[] #[]) (decide<|((i:Nat):Int)<(xs.length:Int)) rfl (Bw rfl Aa) rfl (fun V=>?_) ?_
  ·exact Ys.p
  refine Bg (v:=sV g xs.length) (decide<|((i:Nat):Int)<(xs.length:Int)) rfl (Bw rfl Aa) rfl (fun X=>?_) ?_
  ·exact Ys.p
  refine Bg (v:=nV .i64 i) (decide<|((i:Nat):Int)<(xs.length:Int)) rfl (Bw rfl Aa) rfl (fun Y=>?_) ?_
  ·exact Ys.p
  refine Bg (v:=pL<|some<|Cv g.a<|i*2) (decide<|((i:Nat):Int)<(xs.length:Int)) rfl (Bw rfl Aa) rfl (fun l=>?_) ?_
  ·have C:=l;try simp only[zA]at C
   refine Bs (t:=41) (v0:=sV g xs.length) (lz (g:=decide<|((i:Nat):Int)<(xs.length:Int)) (u:=undef) l Aa)<|Bs (t:=42) (v0:=nV .i64 i) (lz (g:=decide<|((i:Nat):Int)<(xs.length:Int)) (u:=undef) l Aa) ?_
   exact Aq (k:=.i64) (a:=g.a) (len:=xs.length) (cap:=g.cap) (i:=(i:Int)) (sz:=2) rfl Aa Aa runUnderlying148 sizeOf219 Ae Ae Z6
  refine Bg (v:=aV [iV .u64 ((xs.getD i (0,0)).1),iV .u64 ((xs.getD i (0,0)).2)]) (decide<|((i:Nat):Int)<(xs.length:Int)) rfl (Bw rfl Aa) rfl (fun A=>?_) ?_
  ·have D:=A;try simp only[zA]at D
   refine Bs (t:=43) (v0:=pL<|some<|Cv g.a<|i*2) (lz (g:=decide<|((i:Nat):Int)<(xs.length:Int)) (u:=undef) A Aa) ?_
   exact Ys.ldN (a:=Cv g.a<|i*2) (vs:=[iV .u64 ((xs.getD i (0,0)).1),iV .u64 ((xs.getD i (0,0)).2)]) rfl Aa isAgg219 sizeOf219 rfl fun o d=>(FS.at (i:=1) (t:=219) d rfl<|Ah ok<|Cj G3 _).ldN<|Di (g:=Ho) (sz:=2) (fun _=>rfl) (0,0) (xs:=xs) (k:=i) Ae
  refine Bo (v:=aV [iV .u64 x.1,iV .u64 x.2]) (decide<|((i:Nat):Int)<(xs.length:Int)) rfl (Bw rfl Aa) rfl (fun Z=>?_) (.inr fun _ d=>d) ?_
  ·refine Ys.yc ?_
   exact Fv N 0 0 0 [iV .u64 x.1,iV .u64 x.2] isAgg219 sizeOf219
  refine Bo (v:=iV .i64<|Om (xs.getD i (0,0)) x) (decide<|((i:Nat):Int)<(xs.length:Int)) rfl (Bw rfl Aa) rfl (fun c=>?_) (.inr fun _ d=>d) ?_
  ·have E:=c;try simp only[zA]at E
   refine I2 (t:=40) (v0:=Value.func (.func 142) #[] #[]) (lz (g:=decide<|((i:Nat):Int)<(xs.length:Int)) (u:=undef) c Aa)<|I2 (t:=44) (v0:=aV [iV .u64 ((xs.getD i (0,0)).1),iV .u64 ((xs.getD i (0,0)).2)]) (lz (g:=decide<|((i:Nat):Int)<(xs.length:Int)) (u:=undef) c Aa)<|I2 (t:=45) (v0:=aV [iV .u64 x.1,iV .u64 x.2]) (lz (g:=decide<|((i:Nat):Int)<(xs.length:Int)) (u:=undef) c Aa) ?_
   exact A6 fun o Q=>(Aco ((xs.getD i (0,0)).1) ((xs.getD i (0,0)).2) x.1 x.2 _)
  refine Bg (v:=bV<|(Om (xs.getD i (0,0)) x)==0) (decide<|((i:Nat):Int)<(xs.length:Int)) rfl (Bw rfl Aa) rfl (fun B=>?_) ?_
  ·have F:=B;try simp only[zA]at F
   refine Bs (t:=46) (v0:=iV .i64<|Om (xs.getD i (0,0)) x) (lz (g:=decide<|((i:Nat):Int)<(xs.length:Int)) (u:=undef) B Aa) ?_
   exact Ys.p
  refine Bi (v:=bV<|(decide<|((i:Nat):Int)<(xs.length:Int))&&((Om (xs.getD i (0,0)) x)==0)) rfl (Ci (e:=decide<|((i:Nat):Int)<(xs.length:Int)) (b:=(Om (xs.getD i (0,0)) x)==0) rfl Aa Aa Aa)<|Bq 2 []<|Ck<|Ak [1] An rfl ?_
  refine Am rfl<|Ey rfl (Ar<|nV .i64 i) (Ar<|bV<|(decide<|((i:Nat):Int)<(xs.length:Int))&&((Om (xs.getD i (0,0)) x)==0)) fun o T=>⟨(),trivial,En<|(by rw[show i=Im xs x by omega]),(T.pick [0] An rfl)⟩
theorem Akr(g:FS)(xs X:List (Int×Int))(x:Int×Int)(c i:Nat)(M:List Nat)(w:World)(d:xs.take i++x::xs.drop i=X)(f:Mem w M [g.seg 219 (mm Ho xs),[cb c (Ho x) 219]] w)(ok:g.ok 2 xs.length)(j:i≤xs.length)(l:xs.length≤100000):
    Calls prog 143 #[.slice g.a xs.length g.cap,.int .i64 (i:Int),.slice (some ⟨c,0,none⟩) 1 1] w (Bl w (fun b:FS=>b.ok 2 X.length∧b.nil=false) (fun b=>.slice b.a X.length b.cap) M (fun b=>[b.seg 219 (mm Ho X)])):=by
  subst d
  have h:=insS_c g (mm Ho xs) (Ho x) c xs.length i M w f ok (Cj G3 _) j l rfl (Gw Uf _) (Uf _)
  have e:(mm Ho xs).take (i*2)++(Ho x++(mm Ho xs).drop (i*2))=mm Ho (xs.take i++x::xs.drop i):=by rw[Hx G3,Hw G3,Kj,Kk]
  have n:(xs.take i++x::xs.drop i).length=xs.length+1:=by simp;omega
  rw[e]at h;rw[n];exact h
theorem Acp(g:FS)(xs X:List (Int×Int))(i:Nat)(a b:Int)(M:List Nat)(w:World)(d:a=(i:Int))(f:b=((i+1:Nat):Int))(j:xs.take i++xs.drop (i+1)=X)(l:Mem w M [g.seg 219 (mm Ho xs)] w)(ok:g.ok 2 xs.length)(n:i<xs.length)(o:xs.length≤100000):
    Calls prog 113 #[.slice g.a xs.length g.cap,.int .i64 a,.int .i64 b] w (Bl w (fun c:FS=>c.ok 2 X.length∧c.nil=false) (fun c=>.slice c.a X.length c.cap) M (fun c=>[c.seg 219 (mm Ho X)])):=by
  subst j;subst d;subst f
  have h:=delS_c g (mm Ho xs) xs.length i M w l ok (Cj G3 _) n o (Gw Uf _)
  have e:(mm Ho xs).take (i*2)++(mm Ho xs).drop ((i+1)*2)=mm Ho (xs.take i++xs.drop (i+1)):=by rw[Hx G3,Hw G3,Kj]
  have q:(xs.take i++xs.drop (i+1)).length=xs.length-1:=by simp;omega
  rw[e]at h;rw[q];exact h
theorem Acq(xs:List (Int×Int))(g:FS)(e:Nat)(M:List Nat)(k:Int)(w:World)(E:Mem w M [g.seg 219 (mm Ho xs),[cb e [sL g.a xs.length g.cap] 150]] w)(ok:g.ok 2 xs.length)(F:xs.length≤100000):Calls prog 78 #[pV e 0,iV .u64 k] w (Bl w (fun f:FS=>f.ok 2 (Gc xs k).length) (fun _=>.bool (decide (Nv (C7 xs) k≥0))) M (fun f=>[f.seg 219 (mm Ho (Gc xs k)),[cb e [.slice f.a (Gc xs k).length f.cap] 150]])):=by
 refine Ap (M:=M) (LL:=[g.seg 219 (mm Ho xs),[cb e [sV g xs.length] 150]]) (n:=24) func78 rfl rfl A5 (E)<|Aj []<|Av<|Ab 2 ?_
 refine Ca (v:=iV .i64<|Nv (C7 xs) k) (A6 fun q h=>(let A:=Kh (h.pick [0,1] An rfl);Nq A<|Agy xs g e _ k q A ok Ae))<|Ab 1<|Ai<|W.s ?_
 refine Aj [] ?_
 refine Al (decide<|(Nv (C7 xs) k)≥0) Aa (fun B=>?_) fun C=>?_
 ·have r:=B;try simp only[zA]at r
  have b:Nv (C7 xs) k=(Nu (C7 xs) k:Int)∧Nu (C7 xs) k<xs.length:=⟨(Ue Ae).2,Gx xs▸(Ue (ks:=C7 xs) (k:=k) Ae).1⟩
  refine Ac<|A3 7 [(1,0)]<|Bz ((Nv (C7 xs) k)+1) (Nv (C7 xs) k) 1 ?_
  obtain⟨t,c⟩: ∃Z,xs.take (Nu (C7 xs) k)++xs.drop ((Nu (C7 xs) k)+1)=Z:=⟨_,rfl⟩
  refine Aw rfl (Au [0] [1] fun q h u=>(Acp g xs t (Nu (C7 xs) k) (Nv (C7 xs) k) ((Nv (C7 xs) k)+1) _ _ b.1 (by rw[b.1];omega) c u ok Ae Ae)) fun i j=>?_
  obtain⟨l,D⟩:=j
  refine Ab 2<|Af rfl (Bb e 0 1 0 (sV i t.length) sizeOf148 rfl rfl) fun _=>?_
  refine Ai<|Aj []<|Am rfl ?_
  have o:Gc xs k=t:=by unfold Gc;simp only[B,cond_true,cond_false];exact c
  exact D4 rfl (Ar<|bV<|decide<|(Nv (C7 xs) k)≥0) fun q d=>⟨i,(by rw[o];exact l),rfl,(Mem.cast (by rw[o];rfl)<|d.pick [0,1] An rfl)⟩
 ·have x:=C;try simp only[zA]at x
  refine Ag<|A7<|Aj []<|Am rfl ?_
  have o:Gc xs k=xs:=by unfold Gc;simp only[C,cond_true,cond_false]
  exact D4 rfl (Ar<|bV<|decide<|(Nv (C7 xs) k)≥0) fun q d=>⟨g,(by rw[o];exact ok),rfl,(Mem.cast (by rw[o];rfl)<|d.pick [0,1] An rfl)⟩
theorem Agz(xs:List (Int×Int))(g:FS)(c:Nat)(M:List Nat)(k:Int)(X:List (Int×Int))(w:World)(d:Gc xs k=X)(e:Mem w M [g.seg 219 (mm Ho xs),[cb c [sL g.a xs.length g.cap] 150]] w)(ok:g.ok 2 xs.length)(f:xs.length≤100000):Calls prog 78 #[.pointer (some ⟨c,0,none⟩),.int .u64 k] w (Bl w (fun b:FS=>b.ok 2 (X).length) (fun _=>.bool (decide (Nv (C7 xs) k≥0))) M (fun b=>[b.seg 219 (mm Ho (X)),[cb c [.slice b.a (X).length b.cap] 150]])):=by
  subst d;exact Acq xs g c M k w e ok f
theorem Aks(xs:List (Int×Int))(g:FS)(d:Nat)(M:List Nat)(k a:Int)(w:World)(I:Mem w M [g.seg 219 (mm Ho xs),[cb d [sL g.a xs.length g.cap] 150]] w)(ok:g.ok 2 xs.length)(N:xs.length≤100000)(J:S3 xs):Calls prog 91 #[pV d 0,iV .u64 k,iV .u64 a] w (Bl w (fun j:FS=>j.ok 2 (Kw xs k a).length) (fun _=>.tuple #[]) M (fun j=>[j.seg 219 (mm Ho (Kw xs k a)),[cb d [.slice j.a (Kw xs k a).length j.cap] 150]])):=by
 refine Ap (M:=M) (LL:=[g.seg 219 (mm Ho xs),[cb d [sV g xs.length] 150]]) (n:=35) func91 rfl rfl A5 (I)<|W.s ?_
 refine Ac ?_
 obtain⟨X2,b⟩: ∃z,Gc xs k=z:=⟨_,rfl⟩
 have D:X2.length≤xs.length:=b▸Uh _ _
 have l:S3 X2:=b▸V5 J _
 refine Ab 2<|Aw rfl (Au [0,1] [] fun i e f=>(Agz xs g d _ k X2 _ b f ok Ae)) fun x o=>?_
 refine Ai<|Av<|Ab 3 ?_
 refine Af rfl (Ba zeroValue219) fun E=>Af rfl (A0 E 0 0 0 [iV .u64 a,iV .u64 k] sizeOf219 rfl rfl) fun _=>?_
 refine Ai<|W.s<|C6 [(0,true),(1,true),(2,true),(3,true),(4,false),(5,false),(6,false),(7,true),(8,true),(9,false),(10,false)] [0,1,2,3,7,8]<|Bq 5 [(2,0),(0,0)] ?_
 refine Ea (v:=Value.tuple #[nV .i64 (Im X2 (a,k)),bV ((decide<|((Im X2 (a,k):Nat):Int)<(X2.length:Int))&&((Om (X2.getD (Im X2 (a,k)) (0,0)) (a,k))==0))]) rfl (A6 fun i e=>(let F:=Kh (e.pick [1] An rfl);Nq F<|Aod X2 (a,k) x _ i F o Ae l))<|Bq 5 []<|Ck<|B2 [(0,true),(1,true),(2,true),(3,true),(4,true),(5,true),(6,false),(7,false),(8,false),(9,false),(10,false),(11,false)] [0,1,2,3,4,5] (Mem w M [[cb E [iV .u64 a,iV .u64 k] 219],[cb d [sV x X2.length] 150]]) Aa Aa Aa rfl Aa (fun _ _ A=>A.drawn _) (fun _ A=>A.pick [0,2] An rfl) ?_
 refine Wd.mp 7 [(1,0),(0,0)] [0,2]<|Cg rfl rfl (Bf (mk:=fun L=>.slice (some ⟨L,0,none⟩) 1 1) (t:=219) (cs:=[iV .u64 a,iV .u64 k]) rfl fun _=>kr) (Ay [1,3]) fun B=>?_
 obtain⟨h,c⟩: ∃Z,X2.take (Im X2 (a,k))++(a,k)::X2.drop (Im X2 (a,k))=Z:=⟨_,rfl⟩
 refine B8 rfl rfl (Au [2,0] [1,3] fun i e f=>(Akr x X2 h (a,k) B (Im X2 (a,k)) _ _ c f o (Ug _ _) Ae)) (Ay [1,2]) fun q r=>?_
 obtain⟨u,G⟩:=r
 refine Dd 2 []<|Cg rfl rfl (Bb d 0 2 0 (sV q h.length) sizeOf148 rfl rfl) (.inl Aa) fun _=>?_
 refine Ee ?_
 have H:Kw xs k a=h:=by unfold Kw S4;rw[b];exact c
 show∀i,_→bodyPostM (Ct none) 0 prog Tryz.f91 _ Exit.normal _ i
 exact fun i C=>Eg<|Iv rfl ⟨q,(by rw[H];exact u),rfl,(Mem.cast (by rw[H];rfl)<|C.pick [0,2] An rfl)⟩
theorem Akt(w:World):Calls prog 29 #[] w (Bl w (fun _:Nat=>True) (fun b=>.pointer (some ⟨b,0,none⟩)) [] (fun b=>[[cb b [.slice none 0 0] 150]])):=by
 refine Ap (M:=[]) (LL:=[]) (n:=3) func29 rfl rfl A5 (Mem.refl _)<|Aj []<|Av<|Ab 1 ?_
 refine Af rfl (Bx [sL none 0 0] rfl) fun d=>Ab 1<|Ai<|Am rfl<|D4 rfl (Ar<|pV d 0) fun e c=>⟨d,trivial,rfl,(c.pick [0] An rfl)⟩
def Mh(f:Nat→Bool):Nat→Nat
  |0=>0
  |k+1=>Mh f k+(bif f k then 2^k else 0)
theorem R4(f:Nat→Bool): ∀n,Mh f n<2^n
  |0=>by simp[Mh]
  |n+1=>by
    have:=R4 f n
    rw[Mh,Nat.pow_succ]
    cases f n<;>simp only[cond_true,cond_false]<;>omega
theorem Oq(f:Nat→Bool): ∀n k,(Mh f n).testBit k=(decide (k<n)&&f k)
  |0,k=>by simp[Mh]
  |n+1,k=>by
    have d:=R4 f n
    have b:=Oq f n k
    rw[Mh]
    cases c:f n with
    |false=>
      simp only[cond_false,Nat.add_zero,b]
      by_cases h:k=n
      · subst h;simp[c]
      · rw[show decide (k<n+1)=decide (k<n) by simp;omega]
    |true=>
      simp only[cond_true]
      rw[Nat.add_comm]
      rcases Nat.lt_trichotomy k n with h|h|h
      · rw[Nat.testBit_two_pow_add_gt h,b,decide_eq_true h,decide_eq_true (Nat.lt_succ_of_lt h)]
      · subst h
        rw[Nat.testBit_two_pow_add_eq,b];simp[c]
      · rw[Nat.testBit_lt_two_pow (Nat.lt_of_lt_of_le (m:=2^(n+1)) (by rw[Nat.pow_succ];omega) (Nat.pow_le_pow_right An h))]
        simp;omega
def wd(T:Nat→Bool)(i:Nat):Nat:=Mh (fun k=>T (64*i+k)) 64
theorem Nw(T:Nat→Bool)(i:Nat):wd T i<18446744073709551616:=R4 _ 64
theorem Lg{T:Nat→Bool}{i k:Nat}(h:k<64):(wd T i).testBit k=T (64*i+k):=by
  unfold wd;rw[Oq,decide_eq_true h,Bool.true_and]
theorem Te{T:Nat→Bool}{i k:Nat}(h:64≤k):(wd T i).testBit k=false:=by
  unfold wd;rw[Oq,decide_eq_false Ae,Bool.false_and]
def up(T:Nat→Bool)(p:Nat)(v:Bool):Nat→Bool:=fun q=>bif q==p then v else T q
theorem L4(T:Nat→Bool)(p:Nat)(v:Bool):up T p v p=v:=by simp[up]
theorem Io(T:Nat→Bool){p q:Nat}(v:Bool)(h:q≠p):up T p v q=T q:=by unfold up;rw[show(q==p)=false from beq_eq_false_iff_ne.2 h];rfl
def wsC(T:Nat→Bool):List Value:=(List.range 1024).map (fun i=>Value.int .u64 (wd T i:Int))
def Fz(T:Nat→Bool)(n:Int):List Value:=wsC T++[Value.int .i64 n]
theorem Gj(T:Nat→Bool):(wsC T).length=1024:=by unfold wsC;rw[List.length_map,List.length_range]
theorem P3(T:Nat→Bool)(n:Int):(Fz T n).length=1025:=by unfold Fz;rw[List.length_append,Gj];rfl
theorem Nx{T:Nat→Bool}{i:Nat}(h:i<1024):(wsC T)[i]? =some (.int .u64 (wd T i:Int)):=by
  unfold wsC;rw[List.getElem?_map,List.getElem?_range h];rfl
theorem Ag0{T:Nat→Bool}{n:Int}{i:Nat}(h:i<1024):(Fz T n)[i]? =some (.int .u64 (wd T i:Int)):=by
  unfold Fz;rw[List.getElem?_append_left (by rw[Gj];exact h),Nx h]
theorem Ny{T:Nat→Bool}{n:Int}{i:Nat}(h:i<1024):(Fz T n)[i*1]? =some (.int .u64 (wd T i:Int)):=by rw[Nat.mul_one];exact Ag0 h
theorem Y4(T:Nat→Bool)(n:Int):(Fz T n)[1024]? =some (.int .i64 n):=by
  unfold Fz;rw[List.getElem?_append_right (by rw[Gj];exact Nat.le_refl _),Gj];rfl
theorem V6{T:Nat→Bool}{p i:Nat}(v:Bool)(h:i≠p/64):wd (up T p v) i=wd T i:=by
  refine Nat.eq_of_testBit_eq fun k=>?_
  by_cases b:k<64
  · rw[Lg b,Lg b,Io _ _ Ae]
  · rw[Te Ae,Te Ae]
theorem Y5{T:Nat→Bool}{n:Int}{p:Nat}(v:Bool)(c:p<65536):(Fz T n).set (p/64*1) (.int .u64 (wd (up T p v) (p/64):Int))=Fz (up T p v) n:=by
  unfold Fz
  rw[Nat.mul_one,List.set_append_left _ _ (by rw[Gj];omega)]
  congr 1
  apply List.ext_getElem?
  intro i
  rw[List.getElem?_set]
  by_cases b:i<1024
  · rw[Nx b]
    by_cases h:p/64=i
    · subst h;rw[if_pos rfl,if_pos (by rw[Gj];exact b),Nx b]
    · rw[if_neg h,Nx b,V6 v (fun e=>h e.symm)]
  · rw[if_neg Ae,List.getElem?_eq_none (by rw[Gj];omega),List.getElem?_eq_none (by rw[Gj];omega)]
theorem V7(T:Nat→Bool)(n m:Int):(Fz T n).set 1024 (.int .i64 m)=Fz T m:=by
  unfold Fz
  rw[List.set_append_right _ _ (by rw[Gj];exact Nat.le_refl _),Gj];rfl
theorem Aql(p:Nat):64*(p/64)+p%64=p:=Nat.div_add_mod p 64
theorem Ag1{T:Nat→Bool}{p:Nat}:(((wd T (p/64)/2^(p%64)%2:Nat):Int)==1)=T p:=by
  have h:=Lg (T:=T) (i:=p/64) (k:=p%64) (Nat.mod_lt _ An)
  rw[Aql,Nat.testBit_eq_decide_div_mod_eq]at h
  rw[←h,Bool.eq_iff_iff,beq_iff_eq,decide_eq_true_eq]
  omega
theorem V8{k:Nat}(h:k<64):Jd .u64 1 (k:Int)=((2^k:Nat):Int):=by
  have:=Hb (k:=.u64) rfl 1 k (by show k≤64;omega)
  rw[Nat.one_mul]at this
  exact this.trans<|congrArg (fun n:Nat=>(n:Int))<|Nat.mod_eq_of_lt<|Nat.pow_lt_pow_right An h
theorem Aoe{T:Nat→Bool}{p:Nat}:wd T (p/64)|||2^(p%64)=wd (up T p true) (p/64):=by
  have c:=Nat.mod_lt p (show 0<64 by decide)
  refine Nat.eq_of_testBit_eq fun k=>?_
  rw[Nat.testBit_or,Nat.testBit_two_pow]
  by_cases b:k<64
  · rw[Lg b,Lg b]
    by_cases h:p%64=k
    · rw[show 64*(p/64)+k=p by omega,L4];simp[h]
    · rw[Io _ _ Ae];simp[h]
  · rw[Te Ae,Te Ae];simp;omega
theorem Aae{x k:Nat}(c:x<18446744073709551616)(d:k<64): ∃y:Nat,Yg .u64 (x:Int) ((2^k:Nat):Int)=(y:Int)∧y<18446744073709551616∧ ∀j,y.testBit j=(x.testBit j&& !decide (k=j)):=by
  have f:(2:Nat)^k<2^64:=Nat.pow_lt_pow_right An d
  refine⟨(BitVec.ofNat 64 x&&& ~~~BitVec.ofNat 64 (2^k)).toNat,?_,(BitVec.isLt _),fun j=>?_⟩
  · unfold Yg
    show IntKind.u64.wrap _=_
    rw[show BitVec.ofInt IntKind.u64.bits (x:Int)=BitVec.ofNat 64 x from BitVec.ofInt_natCast 64 x,show BitVec.ofInt IntKind.u64.bits ((2^k:Nat):Int)=BitVec.ofNat 64 (2^k) from BitVec.ofInt_natCast 64 (2^k)]
    rw[Fb rfl]
    congr 1
    exact Nat.mod_eq_of_lt<|BitVec.isLt _
  · rw[←BitVec.getLsbD,BitVec.getLsbD_and,BitVec.getLsbD_not]
    simp only[BitVec.getLsbD,BitVec.toNat_ofNat,Nat.testBit_mod_two_pow,Nat.testBit_two_pow]
    by_cases b:j<64
    · simp[b]
    · have e:x.testBit j=false:=Nat.testBit_lt_two_pow (Nat.lt_of_lt_of_le c (Nat.pow_le_pow_right (n:=2) An (show 64≤j by omega)))
      simp[b,e]
theorem Ag2{T:Nat→Bool}{p:Nat}:Yg .u64 (wd T (p/64):Int) ((2^(p%64):Nat):Int)=(wd (up T p false) (p/64):Int):=by
  have c:=Nat.mod_lt p (show 0<64 by decide)
  obtain⟨y,d,f,e⟩:=Aae (Nw T (p/64)) c
  rw[d]
  congr 1
  refine Nat.eq_of_testBit_eq fun k=>?_
  rw[e]
  by_cases b:k<64
  · rw[Lg b,Lg b]
    by_cases h:p%64=k
    · rw[show 64*(p/64)+k=p by omega,L4];simp[h]
    · rw[Io _ _ Ae];simp[h]
  · rw[Te Ae,Te Ae];simp
def tzr:Nat→Nat→Nat
  |0,_=>0
  |f+1,x=>if x%2=1 then 0 else 1+tzr f (x/2)
def tz(x:Nat):Nat:=tzr 64 x
theorem V9: ∀(f x:Nat),0<x→x<2^f→tzr f x<f∧x.testBit (tzr f x)=true∧ ∀j,j<tzr f x→x.testBit j=false
  |0,x,h0,h=>by simp at h;omega
  |f+1,x,h0,h=>by
    unfold tzr
    split
    · rename_i d
      exact⟨Nat.succ_pos _,by rw[Nat.testBit_zero];simp[d],fun j e=>absurd e<|Nat.not_lt_zero _⟩
    · rename_i d
      obtain⟨a,b,c⟩:=V9 f (x/2) Ae (by rw[Nat.pow_succ]at h;omega)
      refine⟨by omega,by rw[Nat.add_comm,Nat.testBit_succ];exact b,fun j e=>?_⟩
      match j with
      |0=>rw[Nat.testBit_zero];simp;omega
      |j+1=>rw[Nat.testBit_succ];exact c j Ae
theorem Ui{x:Nat}(b:0<x)(h:x<18446744073709551616):tz x<64∧x.testBit (tz x)=true∧ ∀j,j<tz x→x.testBit j=false:=V9 64 x b h
theorem Y6: ∀(f x:Nat),0<x→x<2^f→x&&&(2^f-x)=2^tzr f x
  |0,x,h0,h=>by simp at h;omega
  |f+1,x,h0,h=>by
    unfold tzr
    split
    · rename_i b
      refine Nat.eq_of_testBit_eq fun k=>?_
      rw[Nat.testBit_and,Nat.testBit_two_pow]
      have e:2^(f+1)-x=2^(f+1)-((x-1)+1):=by omega
      rw[e,Nat.testBit_two_pow_sub_succ Ae]
      match k with
      |0=>rw[Nat.testBit_zero,Nat.testBit_zero];simp[b];try omega
      |k+1=>
        rw[Nat.testBit_succ,Nat.testBit_succ,show(x-1)/2=x/2 by omega]
        cases(x/2).testBit k<;>simp
    · rename_i b
      have c:=Y6 f (x/2) Ae (by rw[Nat.pow_succ]at h;omega)
      have g:x=2*(x/2):=by omega
      have d:2^(f+1)-x=2*(2^f-x/2):=by rw[Nat.pow_succ];omega
      rw[d,Nat.pow_add,Nat.pow_one,←c]
      refine Nat.eq_of_testBit_eq fun k=>?_
      match k with
      |0=>rw[Nat.testBit_and,Nat.testBit_zero,Nat.testBit_zero,Nat.testBit_zero];simp
      |k+1=>
        rw[Nat.testBit_and,Nat.testBit_succ,Nat.testBit_succ,Nat.testBit_succ,Nat.mul_div_cancel_left _ An,Nat.mul_div_cancel_left _ An,Nat.testBit_and]
def nfr(T:Nat→Bool):Nat→Nat→Nat
  |0,p=>p
  |f+1,p=>bif T p then nfr T f (p+1)else p
def nf(T:Nat→Bool)(p:Nat):Nat:=nfr T (65536-p) p
theorem Uj{T:Nat→Bool}{p:Nat}(h:p<65536)(b:T p=true):nf T p=nf T (p+1):=by
  unfold nf;rw[show 65536-p=(65536-(p+1))+1 by omega,nfr,b];rfl
theorem P4{T:Nat→Bool}{p:Nat}(h:p<65536)(b:T p=false):nf T p=p:=by
  unfold nf;rw[show 65536-p=(65536-(p+1))+1 by omega,nfr,b];rfl
theorem Acr{T:Nat→Bool}{p:Nat}(h:65536≤p):nf T p=p:=by
  unfold nf;rw[show 65536-p=0 by omega];rfl
theorem Uk{T:Nat→Bool}{p:Nat}: ∀k,p+k≤65536→(∀j,j<k→T (p+j)=true)→nf T p=nf T (p+k)
  |0,_,_=>rfl
  |k+1,h,ht=>by
    rw[Uk k Ae (fun j b=>ht j Ae),Uj Ae (ht k Ae)];rfl
theorem Ajj{T:Nat→Bool}: ∀(f p:Nat),65536-p=f→p≤65536→nf T p≤65536∧p≤nf T p∧(nf T p<65536→T (nf T p)=false)∧(nf T p=65536→ ∀q,p≤q→q<65536→T q=true)
  |0,p,h,hp=>by
    obtain rfl:p=65536:=by omega
    rw[Acr (Nat.le_refl _)]
    exact⟨Nat.le_refl _,Nat.le_refl _,fun h=>absurd h<|Nat.lt_irrefl _,fun _ q j i=>by omega⟩
  |f+1,p,h,hp=>by
    cases g:T p with
    |false=>rw[P4 Ae g];exact⟨hp,Nat.le_refl _,fun _=>g,fun e=>by omega⟩
    |true=>
      rw[Uj Ae g]
      obtain⟨a,b,c,d⟩:=Ajj f (p+1) Ae Ae
      exact⟨a,by omega,c,fun e q j i=>by
        by_cases l:q=p
        · subst l;exact g
        · exact d e q Ae i⟩
theorem Ul(T:Nat→Bool){p:Nat}(b:p≤65536):nf T p≤65536∧p≤nf T p∧(nf T p<65536→T (nf T p)=false)∧(nf T p=65536→ ∀q,p≤q→q<65536→T q=true):=Ajj _ p rfl b
theorem Y7{T:Nat→Bool}{w s x:Nat}(hw:w<1024)(l:s<64)(g:x<18446744073709551616)(c: ∀k,k<64→x.testBit k=(decide (s≤k)&& !T (64*w+k))):
    (x≠0→nf T (64*w+s)=64*w+tz x∧tz x<64)∧(x=0→nf T (64*w+s)=nf T (64*(w+1))):=by
  constructor
  · intro d
    obtain⟨e,f,h⟩:=Ui Ae g
    rw[c _ e,Bool.and_eq_true,decide_eq_true_eq,Bool.not_eq_true']at f
    refine⟨?_,e⟩
    rw[Uk (tz x-s) Ae (fun j i=>?_),show 64*w+s+(tz x-s)=64*w+tz x by omega,P4 Ae f.2]
    have b:=h (s+j) Ae
    rw[c _ Ae,decide_eq_true Ae,Bool.true_and,Bool.not_eq_false']at b
    rw[show 64*w+s+j=64*w+(s+j) by omega];exact b
  · intro d
    rw[Uk (64-s) Ae (fun j i=>?_),show 64*w+s+(64-s)=64*(w+1) by omega]
    have b:=c (s+j) Ae
    rw[d,Nat.zero_testBit,decide_eq_true Ae,Bool.true_and]at b
    rw[show 64*w+s+j=64*w+(s+j) by omega]
    simpa using b.symm
theorem Y8{T:Nat→Bool}{w k:Nat}(b:k<64):(18446744073709551615-wd T w).testBit k= !T (64*w+k):=by
  have:=Nat.testBit_two_pow_sub_succ (n:=64) (Nw T w) k
  rw[Lg b,decide_eq_true b,Bool.true_and]at this
  rw[←this];congr 1;have:=Nw T w;omega
theorem Acs{s k:Nat}(b:s<64)(c:k<64):(18446744073709551616-2^s).testBit k=decide (s≤k):=by
  have d:(2:Nat)^s<2^64:=Nat.pow_lt_pow_right An b
  have f:=Nat.two_pow_pos s
  have e:18446744073709551616-2^s=2^64-((2^s-1)+1):=by omega
  rw[e,Nat.testBit_two_pow_sub_succ Ae,decide_eq_true c,Nat.testBit_two_pow_sub_one,Bool.true_and]
  by_cases h:s≤k
  · rw[decide_eq_true h,decide_eq_false Ae];rfl
  · rw[decide_eq_false h,decide_eq_true Ae];rfl
theorem Aaf{s:Nat}(b:s<64):Jd .u64 18446744073709551615 (s:Int)=((18446744073709551616-2^s:Nat):Int):=by
  have:=Hb (k:=.u64) rfl 18446744073709551615 s (by show s≤64;omega)
  refine this.trans<|congrArg (fun n:Nat=>(n:Int)) ?_
  have c:(2:Nat)^s<2^64:=Nat.pow_lt_pow_right An b
  have f:=Nat.two_pow_pos s
  show 18446744073709551615*2^s%2^64=_
  have e:18446744073709551615*2^s=(18446744073709551616-2^s)+2^64*(2^s-1):=by
    obtain⟨m,d⟩: ∃m,2^s=m+1:=⟨2^s-1,by omega⟩
    rw[d]at c⊢;omega
  rw[e,Nat.add_mul_mod_self_left,Nat.mod_eq_of_lt Ae]
def dbt:List UInt8:=[0,1,56,2,57,49,28,3,61,58,42,50,38,29,17,4,62,47,59,36,45,43,51,22,53,39,33,30,24,18,12,5,63,55,48,27,60,41,37,16,46,35,44,21,52,32,23,11,54,26,40,15,34,20,31,10,25,14,19,9,13,8,7,6]
theorem Ag3:dbt.length=64:=by decide
theorem Ag4:(List.range 64).all (fun k=>(dbt.getD ((2^k*285870213051353865)%18446744073709551616/288230376151711744) 0).toNat==k)=true:=by decide+kernel
theorem Ag5{k:Nat}(h:k<64):(dbt.getD ((2^k*285870213051353865)%18446744073709551616/288230376151711744) 0).toNat=k:=by
  have:=List.all_eq_true.1 Ag4 k (List.mem_range.2 h)
  simpa using this
theorem Ag6{x:Nat}(b:0<x)(h:x<18446744073709551616):Hm .u64 0 (x:Int)=((18446744073709551616-x:Nat):Int):=by
  unfold Hm IntKind.wrap
  simp only[IntKind.signed,IntKind.bits,Bool.false_and]
  rw[if_neg A5]
  omega
theorem Akv{x:Nat}(b:0<x)(h:x<18446744073709551616):x&&&(18446744073709551616-x)=2^tz x:=Y6 64 x b h
theorem Aof(t:Nat):(2^t*285870213051353865)%18446744073709551616/288230376151711744<64:=by
  have:=Nat.mod_lt (2^t*285870213051353865) (show 0<18446744073709551616 by decide)
  omega
theorem Aog(x:Nat)(w:World)(f:At w (some ⟨0,0,none⟩) (Cw dbt))(j:0<x)(l:x<18446744073709551616):Calls prog 181 #[nV .u64 x] w (Df w (.int .i64 (tz x:Int))):=by
 obtain⟨d,c⟩: ∃z:Nat,z=2^tz x:=⟨_,rfl⟩;have D:=Ag3;have g:=Aof (tz x);rw[←c]at g;have t:d<18446744073709551616:=(by rw[c];exact Nat.lt_of_lt_of_le (Nat.pow_lt_pow_right (n:=64) An (Ui j l).1) An);obtain⟨b,e⟩: ∃q:Nat,q=d*285870213051353865%18446744073709551616/288230376151711744:=⟨_,rfl⟩;rw[←e]at g
 refine Ap (M:=[]) (LL:=[]) (n:=14) func181 rfl rfl A5 (Mem.refl _)<|Aj []<|W.s<|Aj [] ?_
 refine Al (((x:Nat):Int)==0) Aa (fun u=>?_) fun A=>?_
 ·have h:=u;try simp only[zA]at h
  exact absurd h Ae
 ·have o:=A;try simp only[zA]at o
  refine Ag<|A7<|Av<|Ab 2 ?_
  refine Ao (v:=nV .u64<|18446744073709551616-x) ((Ys.p (v:=iV .u64<|Hm .u64 0 (x:Int))).conseq<|Ad<|Ag6 j l)<|Ao (v:=nV .u64 d) (Ys.conseq (v:=nV .u64<|x&&&(18446744073709551616-x)) (Ad<|congrArg (fun n:Nat=>(n:Int))<|(Akv j l).trans c.symm)<|(Ys.p (v:=.int .u64<|Dp .u64 (x:Int) ((18446744073709551616-x:Nat):Int))).conseq<|Ad<|Rt rfl Kz Kz)<|Ao (v:=nV .u64<|(d*285870213051353865)%18446744073709551616) ((Ys.p (v:=.int .u64<|Nf .u64 (d:Int) ((285870213051353865:Nat):Int))).conseq<|Ad<|Vs rfl)<|Ao (v:=nV .u64 b) (Ys.conseq (v:=nV .u64<|((d*285870213051353865)%18446744073709551616)/288230376151711744) (Ad<|congrArg (fun n:Nat=>(n:Int)) e.symm)<|(Ys.p (v:=.int .u64<|Ic .u64 (((d*285870213051353865)%18446744073709551616:Nat):Int) ((58:Nat):Int))).conseq<|Ad<|Fa ((d*285870213051353865)%18446744073709551616) 58 An)<|Ao (v:=pL<|some ⟨0,b*1,none⟩) ((Dm (k:=.u64) (i:=(b:Int)) (sz:=1) rfl Aa Aa runUnderlying298 sizeOf5 Ae Ae).conseq<|by rw[Nat.zero_add];try rfl) ?_
  refine Ao (v:=nV .u8<|(dbt.getD b 0).toNat) (Ys.ld (a:=⟨0,b*1,none⟩) rfl Aa isAgg5 fun E B=>by have r:=(f.mem0 B).ld (q:=b*1) (Ge 0 Ae);rw[Bc]at r;exact r) ?_
  have C:(dbt.getD b 0).toNat<256:=UInt8.toNat_lt _
  refine Ao (v:=nV .i64<|(dbt.getD b 0).toNat) ((Ys.p (v:=.int .i64<|Cq .i64 ((dbt.getD b 0).toNat:Int))).conseq<|Ad<|Dc Ae Ae)<|Ab 1<|Ai<|Am rfl<|D3 rfl (Ar<|nV .i64<|(dbt.getD b 0).toNat)<|by rw[e,c];exact Ad (congrArg (fun n:Nat=>(n:Int))<|Ag5 (Ui j l).1)
theorem Ajk(T:Nat→Bool)(n:Int)(b p:Nat)(w:World)(d:At w (some ⟨b,0,none⟩) (Fz T n))(l:p<65536):Calls prog 119 #[pV b 0,nV .u16 p] w (Df w (.bool (T p))):=by
 have e:=Nw T (p/64);have g:=Nat.lt_of_le_of_lt (Nat.div_le_self (wd T (p/64)) (2^(p%64))) e;have h:=Nat.mod_lt p (show 0<64 by decide)
 refine Ap (M:=[]) (LL:=[]) (n:=17) func119 rfl rfl A5 (Mem.refl _)<|Aj []<|Av<|Ab 2 ?_
 refine Ao (v:=nV .u16<|p/64) ((Ys.p (v:=.int .u16<|Pk .u16 (p:Int) ((64:Nat):Int))).conseq<|Ad<|Jj rfl Jg)<|Ab 2<|Ao (v:=pL<|some ⟨b,(p/64)*1,none⟩) ((Dm (k:=.u16) (i:=((p/64:Nat):Int)) (sz:=1) rfl Aa Aa runUnderlying228 sizeOf45 Ae Ae).conseq<|by rw[Nat.zero_add];try rfl)<|Ao (v:=nV .u64<|wd T<|p/64) (Ys.ld (a:=⟨b,(p/64)*1,none⟩) rfl Aa isAgg45 fun o j=>by have f:=(d.mem0 j).ld (q:=(p/64)*1) (Ny Ae);rw[Bc]at f;exact f)<|Ab 1 ?_
 refine Ao (v:=nV .u16<|p%64) ((Ys.p (v:=.int .u16<|Hs (p:Int) ((64:Nat):Int))).conseq<|Ad rfl)<|Ao (v:=nV .u64<|wd T (p/64)/2^(p%64)) (Ys.conseq (v:=iV .u64<|Ic .u64 (wd T (p/64):Int) ((p%64:Nat):Int)) (Ad<|Fa _ _ (by show _≤64;omega))<|T0 (k:=.u64) (k':=.u16) (a:=(wd T (p/64):Int)) (b:=((p%64:Nat):Int)) rfl Aa Aa Ae)<|Ao (v:=nV .u64<|(wd T (p/64)/2^(p%64))%2) ((Ys.p (v:=.int .u64<|Dp .u64 ((wd T (p/64)/2^(p%64):Nat):Int) ((1:Nat):Int))).conseq<|Ad<|H4 rfl (a:=wd T (p/64)/2^(p%64)) (c:=1) Kz An 1 rfl)<|Ao (v:=bV<|T p) ((Ys.p (v:=bV<|(((wd T (p/64)/2^(p%64))%2:Nat):Int)==1)).conseq<|B4 Ag1)<|Ab 1 ?_
 refine Ai<|Am rfl<|D3 rfl (Ar<|bV<|T p) rfl
def Wy(T:Nat→Bool)(p:Nat):Bool:= !(decide (p<1024)||T p)
def P5(T:Nat→Bool)(p:Nat):Nat→Bool:=bif Wy T p then up T p true else T
def tkN(T:Nat→Bool)(p:Nat)(n:Int):Int:=bif Wy T p then n+1 else n
def gvT(T:Nat→Bool)(p:Nat):Nat→Bool:=bif T p then up T p false else T
def gvN(T:Nat→Bool)(p:Nat)(n:Int):Int:=bif T p then n-1 else n
theorem Um(T:Nat→Bool)(n:Int)(b p:Nat)(w:World)(C:Mem w [b] [[cb b (Fz T n) 230]] w)(H:p<65536)(D: -1000000000000≤n)(E:n≤1000000000000):Calls prog 70 #[pV b 0,nV .u16 p] w (Bl w (fun _:Unit=>True) (fun _=>.bool (Wy T p)) [b] (fun _=>[[cb b (Fz (P5 T p) (tkN T p n)) 230]])):=by
 have l:=Nw T (p/64);have F:=Nat.lt_of_le_of_lt (Nat.div_le_self (wd T (p/64)) (2^(p%64))) l;have f:=Nat.mod_lt p (show 0<64 by decide);have G:(2:Nat)^(p%64)<18446744073709551616:=Nat.lt_of_lt_of_le (Nat.pow_lt_pow_right (n:=64) An f) An
 refine Ap (M:=[b]) (LL:=[[cb b (Fz T n) 230]]) (n:=33) func70 rfl rfl A5 (C)<|Aj []<|W.s<|Av ?_
 refine Ab 3<|Cx 3 (decide<|((p:Nat):Int)<1024) (fun o=>by have g:=o;try simp only[zA]at g;exact Gs.m 2 [] (Gs.k (v:=bV<|T p) (A6 fun x q=>Ajk T n b p _ (Az (i:=0) (j:=0) (t:=230) (b:=b) q rfl rfl) Ae) Gs.nil))<|Ao (v:=bV<|(decide<|((p:Nat):Int)<1024)||(T p)) (Cf (e:=decide<|((p:Nat):Int)<1024) (b:=T p) rfl Aa Aa Aa)<|Ai ?_
 refine Al ((decide<|((p:Nat):Int)<1024)||(T p)) Aa (fun A=>?_) fun B=>?_
 ·have r:=A;try simp only[zA]at r
  refine Aj []<|Am rfl ?_
  have h:Wy T p=false:=by unfold Wy;rw[show(decide (p<1024)||T p)=true from ?_];rfl;have c:=A;first|exact c|(rw[←c];congr 1;exact decide_eq_decide.2 Ae)
  exact D4 rfl (Ar<|bV false) fun x d=>⟨(),trivial,En<|(by rw[h]),(Mem.cast (by unfold P5 tkN;rw[h];rfl) d)⟩
 ·have u:=B;try simp only[zA]at u
  refine Ag<|A7<|W.s<|C6 [(0,true),(1,true),(2,true),(3,true),(4,true),(5,true),(6,true),(7,true),(8,true),(9,true),(10,true),(11,false),(12,false),(13,false),(14,false)] [0,1,2,3,4,5,6,7,8,9,10]<|B1 2 ?_
  refine Bi (v:=nV .u16<|p/64) rfl ((Ys.p (v:=.int .u16<|Pk .u16 (p:Int) ((64:Nat):Int))).conseq<|Ad<|Jj rfl Jg)<|B1 2<|Bi (v:=pL<|some ⟨b,(p/64)*1,none⟩) rfl ((Dm (k:=.u16) (i:=((p/64:Nat):Int)) (sz:=1) rfl Aa Aa runUnderlying228 sizeOf45 Ae Ae).conseq<|by rw[Nat.zero_add];try rfl)<|Bi rfl (Bk (b:=b) (o':=(p/64)*1) (i:=0) (j:=0) (cs:=Fz T n) (v:=nV .u64<|wd T<|p/64) rfl Aa isAgg45 rfl rfl<|Ny Ae)<|B1 1 ?_
  refine Bi (v:=nV .u16<|p%64) rfl ((Ys.p (v:=.int .u16<|Hs (p:Int) ((64:Nat):Int))).conseq<|Ad rfl)<|Bi (v:=nV .u64<|2^(p%64)) rfl (Ys.conseq (v:=iV .u64<|Jd .u64 1 ((p%64:Nat):Int)) (Ad<|V8 f)<|W9 (k:=.u64) (k':=.u16) (a:=1) (b:=((p%64:Nat):Int)) rfl Aa Aa Ae)<|Bi (v:=nV .u64<|wd (up T p true)<|p/64) rfl (Ys.conseq (v:=nV .u64<|(wd T<|p/64)|||(2^(p%64))) (Ad<|congrArg (fun n:Nat=>(n:Int)) Aoe)<|(Ys.p (v:=.int .u64<|bor .u64 (wd T (p/64):Int) ((2^(p%64):Nat):Int))).conseq<|Ad<|Ke rfl Kz Kz)<|Bq 2 []<|Wd.yc (v:=pL<|some ⟨b,(p/64)*1,none⟩) rfl rfl rfl (Ys.yc<|(Dm (k:=.u16) (i:=((p/64:Nat):Int)) (sz:=1) rfl Aa Aa runUnderlying228 sizeOf45 Ae Ae).conseq<|by rw[Nat.zero_add];try rfl) (.inl Aa) ?_
  refine Cg rfl rfl (Ep (b:=b) (o':=(p/64)*1) (i:=0) (j:=0) (cs:=Fz T n) (cs':=Fz (up T p true) n) (v:=nV .u64<|wd (up T p true)<|p/64) (LL':=[[cb b (Fz (up T p true) n) 230]]) rfl rfl Aa Aa sizeOf45 rfl rfl rfl (by rw[P3];omega) (Y5 true Ae) rfl) (.inl Aa) fun _=>Ck<|Av ?_
  refine Ab 3<|Ao (Bk (b:=b) (o':=1024) (i:=0) (j:=0) (cs:=Fz (up T p true) n) (v:=iV .i64 n) rfl Aa isAgg3 rfl rfl<|Y4 _ _)<|Bz (n+1) n 1<|Ab 2<|Af rfl (Ep (b:=b) (o':=1024) (i:=0) (j:=0) (cs:=Fz (up T p true) n) (cs':=Fz (up T p true)<|n+1) (v:=iV .i64<|n+1) (LL':=[[cb b (Fz (up T p true)<|n+1) 230]]) rfl rfl Aa Aa sizeOf3 rfl rfl rfl (by rw[P3];decide) (V7 _ _ _) rfl) fun _=>?_
  refine Ai<|Aj []<|Am rfl ?_
  have h:Wy T p=true:=by unfold Wy;rw[show(decide (p<1024)||T p)=false from ?_];rfl;have c:=B;first|exact c|(rw[←c];congr 1;exact decide_eq_decide.2 Ae)
  exact D4 rfl (Ar<|bV true) fun x d=>⟨(),trivial,En<|(by rw[h]),(Mem.cast (by unfold P5 tkN;rw[h];rfl) d)⟩
theorem Akx(T:Nat→Bool)(n:Int)(b p:Nat)(w:World)(o:Mem w [b] [[cb b (Fz T n) 230]] w)(C:p<65536)(q: -1000000000000≤n)(r:n≤1000000000000):Calls prog 83 #[pV b 0,nV .u16 p] w (Bl w (fun _:Unit=>True) (fun _=>.bool (T p)) [b] (fun _=>[[cb b (Fz (gvT T p) (gvN T p n)) 230]])):=by
 have g:=Nw T (p/64);have u:=Nat.lt_of_le_of_lt (Nat.div_le_self (wd T (p/64)) (2^(p%64))) g;have e:=Nat.mod_lt p (show 0<64 by decide);have x:(2:Nat)^(p%64)<18446744073709551616:=Nat.lt_of_lt_of_le (Nat.pow_lt_pow_right (n:=64) An e) An
 refine Ap (M:=[b]) (LL:=[[cb b (Fz T n) 230]]) (n:=30) func83 rfl rfl A5 (o)<|Aj []<|W.s<|Av ?_
 refine Ab 2<|Ca (v:=bV<|T p) (A6 fun l h=>Ajk T n b p _ (Az (i:=0) (j:=0) (t:=230) (b:=b) h rfl rfl) Ae)<|Ab 1<|Ai ?_
 refine Al (!(T p)) Aa (fun A=>?_) fun B=>?_
 ·refine Aj []<|Am rfl ?_
  have f:T p=false:=by have c:=A;revert c;cases T p<;>simp
  exact D4 rfl (Ar<|bV false) fun l d=>⟨(),trivial,En<|(by rw[f]),(Mem.cast (by unfold gvT gvN;rw[f];rfl) d)⟩
 ·refine Ag<|A7<|W.s<|C6 [(0,true),(1,true),(2,true),(3,true),(4,true),(5,true),(6,true),(7,true),(8,true),(9,true),(10,true),(11,false),(12,false),(13,false),(14,false)] [0,1,2,3,4,5,6,7,8,9,10]<|B1 2 ?_
  refine Bi (v:=nV .u16<|p/64) rfl ((Ys.p (v:=.int .u16<|Pk .u16 (p:Int) ((64:Nat):Int))).conseq<|Ad<|Jj rfl Jg)<|B1 2<|Bi (v:=pL<|some ⟨b,(p/64)*1,none⟩) rfl ((Dm (k:=.u16) (i:=((p/64:Nat):Int)) (sz:=1) rfl Aa Aa runUnderlying228 sizeOf45 Ae Ae).conseq<|by rw[Nat.zero_add];try rfl)<|Bi rfl (Bk (b:=b) (o':=(p/64)*1) (i:=0) (j:=0) (cs:=Fz T n) (v:=nV .u64<|wd T<|p/64) rfl Aa isAgg45 rfl rfl<|Ny Ae)<|B1 1 ?_
  refine Bi (v:=nV .u16<|p%64) rfl ((Ys.p (v:=.int .u16<|Hs (p:Int) ((64:Nat):Int))).conseq<|Ad rfl)<|Bi (v:=nV .u64<|2^(p%64)) rfl (Ys.conseq (v:=iV .u64<|Jd .u64 1 ((p%64:Nat):Int)) (Ad<|V8 e)<|W9 (k:=.u64) (k':=.u16) (a:=1) (b:=((p%64:Nat):Int)) rfl Aa Aa Ae)<|Bi (v:=nV .u64<|wd (up T p false)<|p/64) rfl ((Ys.p (v:=iV .u64<|Yg .u64 (wd T (p/64):Int) ((2^(p%64):Nat):Int))).conseq<|Ad Ag2)<|Bq 2 []<|Wd.yc (v:=pL<|some ⟨b,(p/64)*1,none⟩) rfl rfl rfl (Ys.yc<|(Dm (k:=.u16) (i:=((p/64:Nat):Int)) (sz:=1) rfl Aa Aa runUnderlying228 sizeOf45 Ae Ae).conseq<|by rw[Nat.zero_add];try rfl) (.inl Aa) ?_
  refine Cg rfl rfl (Ep (b:=b) (o':=(p/64)*1) (i:=0) (j:=0) (cs:=Fz T n) (cs':=Fz (up T p false) n) (v:=nV .u64<|wd (up T p false)<|p/64) (LL':=[[cb b (Fz (up T p false) n) 230]]) rfl rfl Aa Aa sizeOf45 rfl rfl rfl (by rw[P3];omega) (Y5 false Ae) rfl) (.inl Aa) fun _=>Ck<|Av ?_
  refine Ab 3<|Ao (Bk (b:=b) (o':=1024) (i:=0) (j:=0) (cs:=Fz (up T p false) n) (v:=iV .i64 n) rfl Aa isAgg3 rfl rfl<|Y4 _ _)<|Ao (v:=iV .i64<|n-1) ((Ys.p (v:=.int .i64<|Hm .i64 n 1)).conseq<|Ad<|Eo rfl Ae Ae)<|Ab 2<|Af rfl (Ep (b:=b) (o':=1024) (i:=0) (j:=0) (cs:=Fz (up T p false) n) (cs':=Fz (up T p false)<|n-1) (v:=iV .i64<|n-1) (LL':=[[cb b (Fz (up T p false)<|n-1) 230]]) rfl rfl Aa Aa sizeOf3 rfl rfl rfl (by rw[P3];decide) (V7 _ _ _) rfl) fun _=>?_
  refine Ai<|Aj []<|Am rfl ?_
  have f:T p=true:=by have c:=B;revert c;cases T p<;>simp
  exact D4 rfl (Ar<|bV true) fun l d=>⟨(),trivial,En<|(by rw[f]),(Mem.cast (by unfold gvT gvN;rw[f];rfl) d)⟩
def R5(T:Nat→Bool)(p:Nat):Nat:=if nf T p<65536 then nf T p else 0
theorem Acu{T:Nat→Bool}{b:Nat}:nf T b=nf T (max b (64*(b/64))):=by rw[Nat.max_eq_left Ae]
theorem Ag7{T:Nat→Bool}{b w x:Nat}(hw:w<1024)(i:w=b/64)(d:x=(18446744073709551615-wd T w)&&&(18446744073709551616-2^(b%64)))(j:nf T b=nf T (max b (64*w))):
    x<18446744073709551616∧(x≠0→nf T b=64*w+tz x∧tz x<64)∧(x=0→nf T b=nf T (max b (64*(w+1)))):=by
  have e:=Nat.mod_lt b (show 0<64 by decide)
  have c:x<18446744073709551616:=by rw[d];exact Nat.lt_of_le_of_lt Nat.and_le_left (by have:=Nw T w;omega)
  have h:=Y7 (T:=T) (w:=w) (s:=b%64) (x:=x) hw e c (fun k f=>by
    rw[d,Nat.testBit_and,Y8 f,Acs e f,Bool.and_comm])
  rw[show 64*w+b%64=b by omega]at h
  refine⟨c,h.1,fun g=>?_⟩
  rw[h.2 g,Nat.max_eq_right Ae]
theorem Ag8{T:Nat→Bool}{b w x:Nat}(hw:w<1024)(i:b/64<w)(d:x=18446744073709551615-wd T w)(e:nf T b=nf T (max b (64*w))):
    x<18446744073709551616∧(x≠0→nf T b=64*w+tz x∧tz x<64)∧(x=0→nf T b=nf T (max b (64*(w+1)))):=by
  have c:x<18446744073709551616:=by rw[d];have:=Nw T w;omega
  have h:=Y7 (T:=T) (w:=w) (s:=0) (x:=x) hw An c (fun k f=>by
    rw[d,Y8 f,decide_eq_true (Nat.zero_le k),Bool.true_and])
  rw[e,Nat.max_eq_right Ae]
  refine⟨c,h.1,fun g=>?_⟩
  rw[show 64*w=64*w+0 by rfl,h.2 g,Nat.max_eq_right Ae]
theorem Acv{T:Nat→Bool}{b v:Nat}(h:nf T b=v)(c:v<65536):R5 T b=v∧decide (nf T b<65536)=true:=by
  unfold R5;rw[h,if_pos c];exact⟨rfl,decide_eq_true c⟩
theorem Aky{T:Nat→Bool}{b:Nat}(h:nf T b=nf T (max b (64*1024)))(c:b<65536):R5 T b=0∧decide (nf T b<65536)=false:=by
  have e:nf T b=65536:=by rw[h,Nat.max_eq_right Ae];exact Acr (Nat.le_refl _)
  unfold R5;rw[e];exact⟨rfl,rfl⟩
theorem Acw(T:Nat→Bool)(n:Int)(b d:Nat)(w:World)(Q:At w (some ⟨b,0,none⟩) (Fz T n))(A:At w (some ⟨0,0,none⟩) (Cw dbt))(R:d<65536):Calls prog 162 #[pV b 0,nV .i64 d] w (Df w (.tuple #[.int .i64 (R5 T d:Int),.bool (decide (nf T d<65536))])):=by
 have S:=Nat.mod_lt d (show 0<64 by decide);obtain⟨D,l⟩: ∃z,z=18446744073709551616-2^(d%64):=⟨_,rfl⟩;have ah:D<18446744073709551616:=(by have h2:=Nat.two_pow_pos (d%64);omega)
 refine Ap (M:=[]) (LL:=[]) (n:=37) func162 rfl rfl A5 (Mem.refl _)<|Aj []<|W.s<|Av ?_
 refine Ab 1<|Ao (v:=nV .i64<|d/64) ((Ys.p (v:=.int .i64<|Pk .i64 (d:Int) 64)).conseq<|Ad<|Ro Ae)<|Ab 1<|Ai ?_
 refine W.block<|Ds [0,1,6] (fun(c:Nat)=>[pV b 0,nV .i64 d,nV .i64 c]) (fun(c:Nat)=>c≤1024∧d/64≤c∧nf T d=nf T (max d<|64*c)) (fun(c:Nat)=>[]) (fun(c:Nat)=>1024-c) (d/64) Aa ⟨Ae,(Nat.le_refl _),Acu⟩ (by rfl) fun c f7 J6 U o=>?_
 obtain⟨hw,ak,u⟩:=U
 have al:=Nw T c;obtain⟨f,e⟩: ∃z,z=18446744073709551615-wd T c:=⟨_,rfl⟩;obtain⟨j,g⟩: ∃z,z=f&&&D:=⟨_,rfl⟩;have E:f<18446744073709551616:=Ae;have ai:j<18446744073709551616:=(by rw[g];exact Nat.lt_of_le_of_lt Nat.and_le_left E)
 refine W.s<|Aj [] ?_
 refine Al (decide<|((c:Nat):Int)<1024) Aa (fun V=>?_) fun X=>?_
 ·have F:=V;try simp only[zA]at F
  refine Ag<|A7<|W.s<|W.block<|W.s ?_
  refine Ac<|Ab 4<|Ao (v:=pL<|some ⟨b,c*1,none⟩) ((Dm (k:=.i64) (i:=(c:Int)) (sz:=1) rfl Aa Aa runUnderlying228 sizeOf45 Ae Ae).conseq<|by rw[Nat.zero_add];try rfl)<|Ao (v:=nV .u64<|wd T c) (Ys.ld (a:=⟨b,c*1,none⟩) rfl Aa isAgg45 fun C G=>by have x_:=(Q.mem0 G).ld (q:=c*1) (Ny Ae);rw[Bc]at x_;exact x_)<|Ao (v:=nV .u64 f) (Ys.conseq (v:=nV .u64<|18446744073709551615-(wd T c)) (Ad<|congrArg (fun n:Nat=>(n:Int)) e.symm)<|(Ys.p (v:=.int .u64<|S1 .u64 ((18446744073709551615:Nat):Int) (wd T c:Int))).conseq<|Ad<|Ih rfl Kz 18446744073709551615 rfl) ?_
  refine Ab 1<|Ai<|W.s<|W.s ?_
  refine Ac<|Ab 2<|Ao (v:=nV .i64<|d/64) ((Ys.p (v:=.int .i64<|Pk .i64 (d:Int) 64)).conseq<|Ad<|Ro Ae)<|Ab 1<|Ax ?_
  refine A7 ?_
  refine Al (((c:Nat):Int)==((d/64:Nat):Int)) Aa (fun Y=>?_) fun Z=>?_
  ·have H:=Y;try simp only[zA]at H
   refine Ac<|Ab 2<|Ao (v:=nV .i64<|d%64) ((Ys.p (v:=.int .i64<|Hs (d:Int) 64)).conseq<|Ad rfl)<|Ao (v:=nV .u64 D) (Ys.conseq (v:=iV .u64<|Jd .u64 18446744073709551615 ((d%64:Nat):Int)) (Ad<|(Aaf S).trans<|congrArg (fun n:Nat=>(n:Int)) l.symm)<|W9 (k:=.u64) (k':=.i64) (a:=18446744073709551615) (b:=((d%64:Nat):Int)) rfl Aa Aa Ae)<|Ao (v:=nV .u64 j) (Ys.conseq (v:=nV .u64<|f&&&D) (Ad<|congrArg (fun n:Nat=>(n:Int)) g.symm)<|(Ys.p (v:=.int .u64<|Dp .u64 (f:Int) (D:Int))).conseq<|Ad<|Rt rfl Kz Kz) ?_
   refine Ab 1<|Ai<|Aj [] ?_
   refine Al (((j:Nat):Int) !=0) Aa (fun aa=>?_) fun ab=>?_
   ·have I:=aa;try simp only[zA]at I
    refine W.s ?_
    have ad:=((Ag7 (x:=j) Ae Ae (by rw[g,e,l]) u).2.1 Ae).2;have ae:=(Ag7 (x:=j) Ae Ae (by rw[g,e,l]) u).1
    refine Ac<|Ab 1<|Ao (v:=nV .i64<|c*64) ((Ys.p (v:=.int .i64<|Nf .i64 (c:Int) 64)).conseq<|Ad<|Pw (by first|omega|rfl|(push_cast;rfl)) Ae Ae)<|Ab 1<|Ca (v:=nV .i64<|tz j) (A6 fun C B=>Aog j _ ((A.mem0 B)) Ae Ae) ?_
    refine Bz ((((c*64)+(tz j)):Nat):Int) ((c*64:Nat):Int) (tz j:Int)<|Ab 2<|Ai<|Am rfl<|Mf rfl (Ar<|nV .i64<|(c*64)+(tz j)) (Ar<|bV true) (by clear o;have h:=(Ag7 (x:=j) Ae Ae (by rw[g,e,l]) u).2.1 Ae;have r:=Acv h.1 Ae;rw[r.1,r.2,Nat.mul_comm])
   ·have J:=ab;try simp only[zA]at J
    refine Ag<|A7<|Ac<|Ab 1<|Bz (((c+1):Nat):Int) (c:Int) 1 ?_
    refine Ab 1<|Ax ?_
    have t:=(Ag7 (x:=j) Ae Ae (by rw[g,e,l]) u).2.2 Ae
    refine fun C G=>o (c+1) _ C Ae ⟨Ae,Ae,t⟩ ?_ G
    kernel_rfl
  ·have L:=Z;try simp only[zA]at L
   refine Ag<|A7<|Aj [] ?_
   refine Al (((f:Nat):Int) !=0) Aa (fun af=>?_) fun ag=>?_
   ·have N:=af;try simp only[zA]at N
    refine W.s ?_
    have ad:=((Ag8 (x:=f) Ae Ae e u).2.1 Ae).2;have ae:=(Ag8 (x:=f) Ae Ae e u).1
    refine Ac<|Ab 1<|Ao (v:=nV .i64<|c*64) ((Ys.p (v:=.int .i64<|Nf .i64 (c:Int) 64)).conseq<|Ad<|Pw (by first|omega|rfl|(push_cast;rfl)) Ae Ae)<|Ab 1<|Ca (v:=nV .i64<|tz f) (A6 fun C B=>Aog f _ ((A.mem0 B)) Ae Ae) ?_
    refine Bz ((((c*64)+(tz f)):Nat):Int) ((c*64:Nat):Int) (tz f:Int)<|Ab 2<|Ai<|Am rfl<|Mf rfl (Ar<|nV .i64<|(c*64)+(tz f)) (Ar<|bV true) (by clear o;have h:=(Ag8 (x:=f) Ae Ae e u).2.1 Ae;have r:=Acv h.1 Ae;rw[r.1,r.2,Nat.mul_comm])
   ·have O:=ag;try simp only[zA]at O
    refine Ag<|A7<|Ac<|Ab 1<|Bz (((c+1):Nat):Int) (c:Int) 1 ?_
    refine Ab 1<|Ax ?_
    have t:=(Ag8 (x:=f) Ae Ae e u).2.2 Ae
    refine fun C G=>o (c+1) _ C Ae ⟨Ae,Ae,t⟩ ?_ G
    kernel_rfl
 ·have P:=X;try simp only[zA]at P
  refine Cp<|A7<|Aj []<|Am rfl<|Mf rfl (Ar<|iV .i64 0) (Ar<|bV false) (by clear o;have h:=Aky (show nf T d=nf T (max d<|64*1024) by rw[show 1024=c by omega];exact u) R;rw[h.1,h.2];rfl)
def pk(T:Nat→Bool)(d:Nat):Nat:=if nf T (1024+d%64512)<65536 then nf T (1024+d%64512)else nf T 1024
def Oa(T:Nat→Bool)(d:Nat):Nat:=if pk T d<65536 then pk T d else 0
def Y9(T:Nat→Bool)(d:Nat):Nat→Bool:=bif decide (pk T d<65536)then up T (pk T d) true else T
def pkN(T:Nat→Bool)(d:Nat)(n:Int):Int:=bif decide (pk T d<65536)then n+1 else n
theorem Aoi(T:Nat→Bool)(n:Int): ∀v∈Fz T n,∀x,v≠b8 x:=fun v b x e=>by
  subst e
  unfold Fz wsC at b
  rcases List.mem_append.1 b with h|h
  · obtain⟨i,_,c⟩:=List.mem_map.1 h;cases c
  · cases List.mem_singleton.1 h
theorem Acx{w:World}{b:Nat}{T:Nat→Bool}{n:Int}{t:TypeId}(d:Mem w [b] [[cb b (Fz T n) t]] w)(c:At w (some ⟨0,0,none⟩) (Cw dbt)):0<(Cw dbt).length→(Option.getD (some (⟨0,0,none⟩:Addr)) default).block∉[b]:=fun e=>by
  have f:=d.at (i:=0) (j:=0) (p:=cb b (Fz T n) t) rfl rfl
  have:=c.ne (b:=b) (cs:=Fz T n) f (Aoi T n) e
  simpa using this
theorem R6(T:Nat→Bool)(d:Nat):pk T d≤65536∧1024≤pk T d∧(pk T d<65536→T (pk T d)=false)∧(pk T d=65536→ ∀q,1024≤q→q<65536→T q=true):=by
  have i:=Nat.mod_lt d (show 0<64512 by decide)
  obtain⟨b,j,c,a4⟩:=Ul T (p:=1024+d%64512) Ae
  obtain⟨f,b2,g,h⟩:=Ul T (p:=1024) Ae
  unfold pk;split
  · exact⟨b,by omega,c,fun e=>by omega⟩
  · exact⟨f,b2,g,h⟩
theorem Acy{T:Nat→Bool}{p:Nat}(h:1024≤p)(b:T p=false)(n:Int):Wy T p=true∧P5 T p=up T p true∧tkN T p n=n+1:=by
  have c:Wy T p=true:=by unfold Wy;rw[b,decide_eq_false Ae];rfl
  unfold P5 tkN;rw[c];exact⟨rfl,rfl,rfl⟩
theorem Akz(T:Nat→Bool)(n:Int)(b d:Nat)(w:World)(O:Mem w [b] [[cb b (Fz T n) 230]] w)(Q: -1000000000000≤n)(R:n≤1000000000000)(g:At w (some ⟨0,0,none⟩) (Cw dbt))(Z:d<18446744073709551616):Calls prog 111 #[pV b 0,nV .u64 d] w (Bl w (fun _:Unit=>True) (fun _=>.tuple #[.int .u16 (Oa T d:Int),.bool (decide (pk T d<65536))]) [b] (fun _=>[[cb b (Fz (Y9 T d) (pkN T d n)) 230]])):=by
 have A:=Acx O g;have S:=Nat.mod_lt d (show 0<64512 by decide)
 refine Ap (M:=[b]) (LL:=[[cb b (Fz T n) 230]]) (n:=32) func111 rfl rfl A5 (O)<|Aj []<|Av<|Ab 2 ?_
 refine Ao (v:=nV .u64<|d%64512) ((Ys.p (v:=.int .u64<|Hs (d:Int) ((64512:Nat):Int))).conseq<|Ad rfl)<|Ao (v:=nV .i64<|d%64512) ((Ys.p (v:=.int .i64<|Cq .i64 ((d%64512:Nat):Int))).conseq<|Ad<|Dc Ae Ae)<|Bz (((1024+(d%64512)):Nat):Int) 1024 ((d%64512:Nat):Int)<|Ca (v:=Value.tuple #[nV .i64 (R5 T<|1024+(d%64512)),bV (decide<|nf T (1024+(d%64512))<65536)]) (A6 fun x e=>Acw T n b (1024+(d%64512)) _ (Az (i:=0) (j:=0) (t:=230) (b:=b) e rfl rfl) (g.mem' e A) Ae)<|Ab 5 ?_
 refine Ai<|W.s<|Aj [] ?_
 refine Al (!(decide<|nf T (1024+(d%64512))<65536)) Aa (fun U=>?_) fun P=>?_
 ·have G:=U;try simp only[zA]at G
  refine Ac<|Ab 1<|Ca (v:=Value.tuple #[nV .i64 (R5 T 1024),bV (decide<|nf T 1024<65536)]) (A6 fun x e=>Acw T n b 1024 _ (Az (i:=0) (j:=0) (t:=230) (b:=b) e rfl rfl) (g.mem' e A) Ae)<|Ab 5<|Ax ?_
  refine A7<|W.s ?_
  refine Aj [] ?_
  refine Al (!(decide<|nf T 1024<65536)) Aa (fun H=>?_) fun I=>?_
  ·have B:=H;try simp only[zA]at B
   refine Aj []<|Am rfl ?_
   have C:pk T d=65536:=by have V:=(Ul T (p:=1024) An).1;unfold pk;rw[if_neg Ae];omega
   have r:decide (pk T d<65536)=false:=by rw[C];rfl
   have D:Oa T d=0:=by unfold Oa;rw[if_neg Ae]
   exact Ey rfl (Ar<|iV .u16 0) (Ar<|bV false) fun x h=>⟨(),trivial,En<|(by rw[D,r];rfl),(Mem.cast (by unfold Y9 pkN;rw[r];rfl) h)⟩
  ·have E:=I;try simp only[zA]at E
   refine Ag<|A7<|Av<|Ab 2 ?_
   refine Ao (v:=nV .u16<|(R5 T 1024)%65536) ((Ys.p (v:=.int .u16<|Cq .u16 ((R5 T 1024:Nat):Int))).conseq<|Ad<|Dj rfl _)<|Aw rfl (Au [0] [] fun x e u=>(Um T n b ((R5 T 1024)%65536) _ u Ae Ae Ae)) fun X _=>?_
   refine Ai<|Av<|Ab 1 ?_
   refine Ao (v:=nV .u16<|(R5 T 1024)%65536) ((Ys.p (v:=.int .u16<|Cq .u16 ((R5 T 1024:Nat):Int))).conseq<|Ad<|Dj rfl _)<|Ab 2<|Ai<|Am rfl ?_
   have f:pk T d=nf T 1024:=by unfold pk;rw[if_neg Ae]
   have c:pk T d<65536:=by rw[f];omega
   have l:R5 T 1024=pk T d:=by rw[f];unfold R5;rw[if_pos (by rw[←f];exact c)]
   have r:decide (pk T d<65536)=true:=decide_eq_true c
   have D:Oa T d=pk T d:=by unfold Oa;rw[if_pos c]
   have o:=Acy (R6 T d).2.1 ((R6 T d).2.2.1 c) n
   have q:pk T d%65536=pk T d:=Nat.mod_eq_of_lt c
   exact Ey rfl (Ar<|nV .u16<|(R5 T 1024)%65536) (Ar<|bV true) fun x h=>⟨(),trivial,En<|(by rw[D,r,l,q]),(Mem.cast (by unfold Y9 pkN;rw[r,l,q,o.2.1,o.2.2];rfl) h)⟩
 ·have J:=P;try simp only[zA]at J
  refine Ag<|A7<|W.s<|Aj [] ?_
  refine Al (!(decide<|nf T (1024+(d%64512))<65536)) Aa (fun L=>?_) fun N=>?_
  ·exact absurd (P.symm.trans L) An
  ·have F:=N;try simp only[zA]at F
   refine Ag<|A7<|Av<|Ab 2 ?_
   refine Ao (v:=nV .u16<|(R5 T<|1024+(d%64512))%65536) ((Ys.p (v:=.int .u16<|Cq .u16 (R5 T (1024+(d%64512)):Int))).conseq<|Ad<|Dj rfl _)<|Aw rfl (Au [0] [] fun x e u=>(Um T n b ((R5 T<|1024+(d%64512))%65536) _ u Ae Ae Ae)) fun Y _=>?_
   refine Ai<|Av<|Ab 1 ?_
   refine Ao (v:=nV .u16<|(R5 T<|1024+(d%64512))%65536) ((Ys.p (v:=.int .u16<|Cq .u16 (R5 T (1024+(d%64512)):Int))).conseq<|Ad<|Dj rfl _)<|Ab 2<|Ai<|Am rfl ?_
   have f:pk T d=nf T (1024+d%64512):=by unfold pk;rw[if_pos Ae]
   have c:pk T d<65536:=by rw[f];omega
   have l:R5 T (1024+d%64512)=pk T d:=by rw[f];unfold R5;rw[if_pos (by rw[←f];exact c)]
   have r:decide (pk T d<65536)=true:=decide_eq_true c
   have D:Oa T d=pk T d:=by unfold Oa;rw[if_pos c]
   have o:=Acy (R6 T d).2.1 ((R6 T d).2.2.1 c) n
   have q:pk T d%65536=pk T d:=Nat.mod_eq_of_lt c
   exact Ey rfl (Ar<|nV .u16<|(R5 T<|1024+(d%64512))%65536) (Ar<|bV true) fun x h=>⟨(),trivial,En<|(by rw[D,r,l,q]),(Mem.cast (by unfold Y9 pkN;rw[r,l,q,o.2.1,o.2.2];rfl) h)⟩
theorem Xh(T:Nat→Bool)(d:Nat):Oa T d<65536:=by unfold Oa;split<;>omega
theorem Acz:List.replicate 1024 (Value.int .u64 0)++[Value.int .i64 0]=Fz (fun _=>false) 0:=by
  have e: ∀k,Mh (fun _=>false) k=0:=by
    intro k
    induction k with
    |zero=>rfl
    |succ k c=>rw[Mh,c];rfl
  have h:wsC (fun _=>false)=List.replicate 1024 (Value.int .u64 0):=by
    apply List.ext_getElem?
    intro i
    by_cases b:i<1024
    · rw[Nx b,List.getElem?_replicate,if_pos b]
      unfold wd;rw[e];rfl
    · rw[List.getElem?_eq_none (by rw[Gj];omega),List.getElem?_replicate,if_neg b]
  unfold Fz;rw[h]
theorem Aoj(w:World):Calls prog 118 #[] w (Bl w (fun _:Nat=>True) (fun b=>.pointer (some ⟨b,0,none⟩)) [] (fun b=>[[cb b (Fz (fun _=>false) 0) 230]])):=by
 refine Ap (M:=[]) (LL:=[]) (n:=3) func118 rfl rfl A5 (Mem.refl _)<|Aj []<|Av<|Ao (v:=Value.agg (List.replicate 1024 (iV .u64 0)++[iV .i64 0]).toArray) (Ys.p) ?_
 refine Af rfl (E6 (v:=Value.agg (List.replicate 1024 (iV .u64 0)++[iV .i64 0]).toArray) (cs:=List.replicate 1024 (iV .u64 0)++[iV .i64 0]) rfl rfl Aa rfl) fun d=>Ab 1<|Ai<|Am rfl<|D4 rfl (Ar<|pV d 0) fun e c=>⟨d,trivial,rfl,(Mem.cast (by rw[←Acz]) c)⟩
end Go.Proofs.YtmonlaoaengfdaaGreatDoor.Oct
