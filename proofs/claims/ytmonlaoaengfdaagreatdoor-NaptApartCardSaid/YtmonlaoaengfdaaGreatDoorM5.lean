import Derived.Test.YtmonlaoaengfdaaGreatDoorM2
import Derived.Test.YtmonlaoaengfdaaGreatDoorM3
import Derived.Test.YtmonlaoaengfdaaGreatDoorChecked
set_option linter.unusedVariables false
set_option linter.unusedSimpArgs false
set_option maxRecDepth 20000
namespace Go.Proofs.YtmonlaoaengfdaaGreatDoor.Oct
open Go.RowKit Base Tryz
attribute [local irreducible] Ys Yc Ht HtS HtIn Wl Wd W Mem pf Ez Wa Wo KW
namespace ZW
theorem drop_take{cs r:List Value}{n i s:Nat}(hc:cs.length=n*s)(b:i≤n):((cs++r).drop (i*s)).take ((n-i)*s)=cs.drop (i*s):=by
  have h:i*s≤n*s:=Nat.mul_le_mul_right _ b
  rw[List.drop_append_of_le_length Ae,List.take_append_of_le_length Vl]
  exact List.take_of_length_le Vl
theorem one_drop{cs:List Value}(h: ∀v∈cs,v.oneCell'=true)(k:Nat): ∀v∈cs.drop k,v.oneCell'=true:=fun v b=>h v (List.mem_of_mem_drop b)
theorem putAt_app{a b c:List Value}{o:Nat}{v:List Value}(ho:o=a.length)(d:v.length=b.length):Bt (a++(b++c)) o v=a++(v++c):=by
  subst ho;unfold Bt
  rw[List.take_left,d,←List.drop_drop,List.drop_left,List.drop_left]
theorem ins_in{cs r news A1 A2:List Value}{n i:Nat}(hc:cs.length=n*2)(t:i<n)(g:news.length=2)(u:2≤r.length)(h:Bt (cs++r) ((i+1)*2) (cs.drop (i*2))=A1)(j:Bt A1 (i*2) news=A2):
    A2=(cs.take (i*2)++(news++cs.drop (i*2)))++r.drop 2:=by
  subst h;subst j
  obtain⟨a,b,rfl,l⟩: ∃a b,cs=a++b∧a.length=i*2:=⟨cs.take (i*2),cs.drop (i*2),(List.take_append_drop _ _).symm,by rw[List.length_take];omega⟩
  rw[List.length_append]at hc
  obtain⟨x,c,rfl,f⟩: ∃x c,r=x++c∧x.length=2:=⟨r.take 2,r.drop 2,(List.take_append_drop _ _).symm,by rw[List.length_take];omega⟩
  rw[←l,List.drop_left,List.take_left]
  have e:Bt (a++b++(x++c)) ((i+1)*2) b=a++(b.take 2++(b++c)):=by
    have o:b=b.take 2++b.drop 2:=(List.take_append_drop _ _).symm
    have d:(b.take 2).length=2:=by rw[List.length_take];omega
    have q:a++b++(x++c)=(a++b.take 2)++((b.drop 2++x)++c):=by
      rw[List.append_assoc,List.append_assoc,List.append_assoc]
      congr 1
      rw[←List.append_assoc (b.take 2),←o]
    rw[q,putAt_app (by rw[List.length_append,d];omega) (by rw[List.length_append,List.length_drop,f];omega),List.append_assoc]
  rw[e,putAt_app rfl (by rw[List.length_take,g];omega)]
  rw[show(x++c).drop 2=c by rw[←f,List.drop_left]]
  simp only[List.append_assoc]
theorem ins_own{cs R news A1 A2:List Value}{n i:Nat}(hc:cs.length=n*2)(j:i<n)(b:news.length=2)(l:(n+1-i)*2≤R.length)(f:Bt (cs.take (i*2)++R) (i*2) news=A1)(g:Bt A1 ((i+1)*2) (cs.drop (i*2))=A2):
    A2=(cs.take (i*2)++(news++cs.drop (i*2)))++R.drop ((n+1-i)*2):=by
  subst f;subst g
  have c:(cs.take (i*2)).length=i*2:=by rw[List.length_take];omega
  have h:(cs.drop (i*2)).length=(n-i)*2:=by rw[List.length_drop];omega
  obtain⟨x,y,z,rfl,d,e⟩: ∃x y z,R=x++(y++z)∧x.length=2∧y.length=(n-i)*2:=
    ⟨R.take 2,(R.drop 2).take ((n-i)*2),(R.drop 2).drop ((n-i)*2),by rw[List.take_append_drop,List.take_append_drop],by rw[List.length_take];omega,by rw[List.length_take,List.length_drop];omega⟩
  rw[putAt_app c.symm (by rw[b,d]),←List.append_assoc,putAt_app (by rw[List.length_append,c,b];omega) (by rw[h,e])]
  rw[show(n+1-i)*2=(x++y).length by rw[List.length_append,d,e];omega,←List.append_assoc x,List.drop_left]
  simp only[List.append_assoc]
theorem del_in{cs r zs A1 A2:List Value}{n i:Nat}(hc:cs.length=n*2)(q:i<n)(d:zs.length=2)(e:Bt (cs++r) (i*2) (cs.drop ((i+1)*2))=A1)(f:Bt A1 ((n-1)*2) zs=A2):
    A2=(cs.take (i*2)++cs.drop ((i+1)*2))++(zs++r):=by
  subst e;subst f
  obtain⟨a,x,b,rfl,c,g⟩: ∃a x b,cs=a++(x++b)∧a.length=i*2∧x.length=2:=
    ⟨cs.take (i*2),(cs.drop (i*2)).take 2,(cs.drop (i*2)).drop 2,by rw[List.take_append_drop,List.take_append_drop],by rw[List.length_take];omega,by rw[List.length_take,List.length_drop];omega⟩
  simp only[List.length_append]at hc
  have h:(a++(x++b)).drop ((i+1)*2)=b:=by
    rw[show(i+1)*2=(a++x).length by rw[List.length_append,c,g];omega,←List.append_assoc,List.drop_left]
  have j:(a++(x++b)).take (i*2)=a:=by rw[←c,List.take_left]
  rw[h,j]
  have l:x++b=(x++b).take b.length++(x++b).drop b.length:=(List.take_append_drop _ _).symm
  have o:a++(x++b)++r=a++((x++b).take b.length++((x++b).drop b.length++r)):=by
    rw[List.append_assoc,←List.append_assoc ((x++b).take b.length),←l]
  rw[o,putAt_app c.symm (by rw[List.length_take,List.length_append];omega),←List.append_assoc]
  rw[putAt_app (by rw[List.length_append,c];omega) (by rw[List.length_drop,List.length_append,d];omega)]
theorem insS_c(g:FS)(cs news:List Value)(f n i:Nat)(M:List Nat)(w:World)(hl:Mem w M [g.seg 219 cs,[cb f news 219]] w)(ok:g.ok 2 n)(hcs:cs.length=n*2)(hi:i≤n)(hn:n≤100000)(hnl:news.length=1*2)(L: ∀v∈cs,v.oneCell'=true)(H: ∀v∈news,v.oneCell'=true):Calls prog 143 #[sV g n,nV .i64 i,sL (some ⟨f,0,none⟩) 1 1] w (Bn w (fun I:FS=>I.ok 2 (n+1)∧I.nil=false) (fun I=>.slice I.a (n+1) I.cap) M (fun I=>[I.seg 219 (cs.take (i*2)++(news++cs.drop (i*2)))])):=by
 have al:=ok.le;have am:=ok.mx;have av:=hcs
 refine Ap (M:=M) (LL:=[g.seg 219 cs,[cb f news 219]]) (n:=95) func143 rfl rfl A7 (hl)<|Aj []<|Av<|Ab 2 ?_
 refine Ao (v:=sL (Ds g.a g.cap i 2) (n-i)<|g.cap-i) (Br (a:=g.a) (len:=n) (cap:=g.cap) (sz:=2) (k:=.i64) (i:=(i:Int)) rfl Aa Aa runUnderlying148 sizeOf219 Ae Ae)<|Ai<|Aj []<|W.s ?_
 refine Aj []<|B4 Aa<|Ag<|A9<|Aj [] ?_
 refine W.s<|Aj [] ?_
 refine Ak (((i:Nat):Int)==(n:Int)) Aa (fun ag=>?_) fun ah=>?_
 ·have N:=ag;try simp only[zA]at N
  refine Av<|Ab 2<|Aw rfl (HtS.append (eu:=219) (xv:=Value.slice (some ⟨f,0,none⟩) 1 1) (i:=0) (g:=g) (e:=219) (ii:=(prog.info? 219).getD default) (z:=aV [iV .u64 0,iV .u64 0]) (sz:=2) (bytes:=16) (nn:=n) (m:=1) (k:=n+1) (xs:=cs) (news:=news) (cs':=cs++news) (Lo:=fun F=>[F.seg 219 (cs++news),[cb f news 219]]) rfl rfl Aa Aa Aa Aa Aa Aa Aa Aa Aa rfl ok hcs (fun _=>rfl) (Src.at (a:=some ⟨f,0,none⟩) hnl fun E o=>(A4 (i:=1) (j:=0) (t:=219) (b:=f) o rfl rfl)) hnl H rfl (by simp only[maxLen];omega) Ae rfl fun _=>rfl) fun F O=>?_
  obtain⟨P,Q,an⟩:=O
  refine Ab 1<|Ai<|Am rfl ?_
  have ao:i=n:=by omega
  have R:cs.take (i*2)++(news++cs.drop (i*2))=cs++news:=by rw[List.take_of_length_le Ae,List.drop_of_length_le Ae,List.append_nil]
  exact D9 rfl (Ar<|sV F<|n+1) fun E r=>⟨F,⟨P,(Q Ae)⟩,rfl,(Mem.cast (by rw[R];rfl)<|r.pick [0] An rfl)⟩
 ·have S:=ah;try simp only[zA]at S
  refine Ag<|A9<|W.s<|Av ?_
  refine Ab 2<|Bw (((n+1):Nat):Int) (n:Int) 1<|Ab 3<|Ai ?_
  refine Ak (decide<|((n+1:Nat):Int)>(g.cap:Int)) Aa (fun ai=>?_) fun aj=>?_
  ·have T:=ai;try simp only[zA]at T
   refine Av<|Ab 2<|Ao (v:=sV g i) (Dm (a:=g.a) (len:=n) (cap:=g.cap) (sz:=2) (k:=.i64) (i:=(i:Int)) rfl Aa Aa runUnderlying148 sizeOf219 Ae Ae)<|Ab 2 ?_
   refine Bw (((n+1):Nat):Int) (n:Int) 1<|Ab 1<|Ao (v:=iV .i64<|((n+1:Nat):Int)-(i:Int)) ((Ys.p (v:=.int .i64<|Hp .i64 ((n+1:Nat):Int) (i:Int))).conseq<|Ad<|Er rfl Ae Ae)<|Af rfl (Kk (t:=148) (u:=3) (e:=219) (ii:=(prog.info? 219).getD default) (z:=aV [iV .u64 0,iV .u64 0]) (ku:=.i64) (kk:=.i64) (lv:=((n+1:Nat):Int)-(i:Int)) (a:=g.a) (nn:=i) (m:=n+1-i) (k:=n+1) (cap:=g.cap) (sz:=2) (bytes:=16) (xs:=cs.take<|i*2) (LL':=fun d R34=>[[cb d (cs.take (i*2)++R34) 219],g.seg 219 cs,[cb f news 219]]) rfl rfl Aa Aa Aa Aa Aa Aa Aa Aa Aa Ae (fun E o=>(FS.at (i:=0) (t:=219) o rfl<|Ah ok hcs).take _) (by rw[List.length_take,hcs];omega) Ae Ae Ae Ae Ae fun _ _=>rfl) fun ak=>?_
   obtain⟨⟨d,c,R34⟩,U,V,X⟩:=ak
   refine B0 (LL':=[[cb d (cs.take (i*2)++R34) 219],g.seg 219 cs,[cb f news 219]]) rfl ?_
   dsimp only at U V X
   refine Ab 1<|Ai<|Av ?_
   refine Ab 2<|Ao (v:=sL (Ds (some ⟨d,0,none⟩) c i 2) ((n+1)-i)<|c-i) (Br (a:=some ⟨d,0,none⟩) (len:=n+1) (cap:=c) (sz:=2) (k:=.i64) (i:=(i:Int)) rfl Aa Aa runUnderlying148 sizeOf219 Ae Ae) ?_
   obtain⟨A41,x⟩: ∃A,Bt (cs.take (i*2)++R34) (i*2) news=A:=⟨_,rfl⟩
   have Y:A41.length=(cs.take (i*2)++R34).length:=by rw[←x];exact Cw _ _ _ Me
   try simp only[List.length_append,List.length_take]at Y
   refine Ab 1<|Af rfl (Cy (td:=148) (tx:=148) (e:=219) (ii:=(prog.info? 219).getD default) (xv:=sL (some ⟨f,0,none⟩) 1 1) (cap:=c) (dl:=(n+1)-i) (dc:=c-i) (m:=1) (q:=1) (sz:=2) (o':=i) (i:=0) (j:=0) (b:=d) (t:=219) (cs:=cs.take (i*2)++R34) (cs':=A41) (news:=news) (LL':=[[cb d A41 219],g.seg 219 cs,[cb f news 219]]) rfl rfl Aa Aa Aa Aa Ae Aa rfl rfl (fun _=>rfl) Mg (Src.at (a:=some ⟨f,0,none⟩) hnl fun E o=>(A4 (i:=2) (j:=0) (t:=219) (b:=f) o rfl rfl)) hnl Me H x rfl) fun _=>?_
   refine Ai<|W.s<|B3 [(0,true),(1,true),(2,true),(3,true),(4,true),(5,true),(6,false),(7,false),(8,false)] [0,1,2,3,4,5] (Mem w M [g.seg 219 cs,[cb f news 219]]) Aa Aa Aa rfl Aa (fun _ _ o=>o.drawn _) (fun _ o=>o.pick [1,2] An rfl)<|B5 3 ?_
   refine Bm (v:=nV .i64<|i+1) rfl ((Ys.p (v:=.int .i64<|D2 .i64 (i:Int) 1)).conseq<|Ad<|Fi Ae Ae Ae)<|Bm (v:=sL (Ds (some ⟨d,0,none⟩) c (i+1) 2) ((n+1)-(i+1))<|c-(i+1)) rfl (Br (a:=some ⟨d,0,none⟩) (len:=n+1) (cap:=c) (sz:=2) (k:=.i64) (i:=((i+1:Nat):Int)) rfl Aa Aa runUnderlying148 sizeOf219 Ae Ae)<|Wd.mp 2 [] [1,2]<|Wd.yc (v:=sL (Ds g.a g.cap i 2) (n-i)<|g.cap-i) rfl rfl rfl (Ys.yc<|Br (a:=g.a) (len:=n) (cap:=g.cap) (sz:=2) (k:=.i64) (i:=(i:Int)) rfl Aa Aa runUnderlying148 sizeOf219 Ae Ae) (Ee [1,2]) ?_
   obtain⟨A46,B⟩: ∃A,Bt A41 ((i+1)*2) (cs.drop (i*2))=A:=⟨_,rfl⟩
   have Z:A46.length=A41.length:=by rw[←B];exact Cw _ _ _ Af4
   try simp only[List.length_append,List.length_take]at Z
   refine Cj rfl rfl (Cy (td:=148) (tx:=148) (e:=219) (ii:=(prog.info? 219).getD default) (xv:=sL (Ds g.a g.cap i 2) (n-i)<|g.cap-i) (cap:=c) (dl:=(n+1)-(i+1)) (dc:=c-(i+1)) (m:=n-i) (q:=n-i) (sz:=2) (o':=i+1) (i:=0) (j:=0) (b:=d) (t:=219) (cs:=A41) (cs':=A46) (news:=cs.drop<|i*2) (LL':=[[cb d A46 219],g.seg 219 cs,[cb f news 219]]) rfl rfl Aa Aa Aa Aa Ae Aa rfl rfl (fun _=>rfl) Mg (Src.at (a:=Ds g.a g.cap i 2) (show(cs.drop<|i*2).length=(n-i)*2 by rw[List.length_drop,hcs];omega) fun E o=>((FS.at (i:=1) (t:=219) o rfl<|Ah ok hcs).dropN (cap:=g.cap) (k:=i) (sz:=2) Ae)) (show(cs.drop<|i*2).length=(n-i)*2 by rw[List.length_drop,hcs];omega) Af4 (one_drop L _) B rfl) (Az [1,2]) fun _=>Cl<|Aj []<|Am rfl ?_
   have R:=ins_own hcs Ae Ae Ae x B
   exact D9 rfl (Ar<|sL (some ⟨d,0,none⟩) (n+1) c) fun E r=>⟨⟨false,d,c,R34.drop<|(n+1-i)*2⟩,⟨⟨fun h=>(by cases h),Ae,Ae,(by show c*2≤_;rw[List.length_drop];omega)⟩,rfl⟩,rfl,(Mem.cast (by rw[R];rfl)<|r.pick [0] An rfl)⟩
  ·have G:=aj;try simp only[zA]at G
   refine Ag<|A9<|W.s ?_
   have aa:=De ok Ae
   obtain⟨ab,l,gc,J⟩:=g
   obtain rfl:ab=false:=aa
   have ap:n≤gc:=ok.le
   have aq:gc*2≤n*2+J.length:=ok.len
   have af:n+1≤gc:=by have z_: ¬(((n+1:Nat):Int)>(gc:Int)):=G;omega
   refine Ac<|Ab 3<|Bw (((n+1):Nat):Int) (n:Int) 1<|Ao (v:=sL (some ⟨l,0,none⟩) (n+1) gc) (Dm (a:=some ⟨l,0,none⟩) (len:=n) (cap:=gc) (sz:=2) (k:=.i64) (i:=((n+1:Nat):Int)) rfl Aa Aa runUnderlying148 sizeOf219 Ae Ae)<|Ab 1 ?_
   refine Ai<|W.s<|Av ?_
   refine Ab 4<|Bw (((i+1):Nat):Int) (i:Int) 1<|Ao (v:=Value.slice (Ds (some ⟨l,0,none⟩) gc (i+1) 2) ((n+1)-(i+1))<|gc-(i+1)) (Br (a:=some ⟨l,0,none⟩) (len:=n+1) (cap:=gc) (sz:=2) (k:=.i64) (i:=((i+1:Nat):Int)) rfl Aa Aa runUnderlying148 sizeOf219 Ae Ae)<|Ao (v:=bV false) ((I4 (k:=174) (tS:=148) (tR:=4) (e:=219) (sz:=2) (b:=f) (b':=l) (o1:=0) (o2:=(i+1)*2) (la:=1) (ca:=1) (lb:=((n+1)-(i+1))) (cp:=(gc-(i+1))) (i:=1) (j:=0) (i':=0) (j':=0) (t:=219) (t':=219) (cs:=news) (cs':=cs++J) (fun E=>Eq.trans (b:=Sem.run prog (callFunc 174 #[Value.slice (some ⟨f,0,none⟩) 1 1,Value.slice (Ds (some ⟨l,0,none⟩) gc (i+1) 2) ((n+1)-(i+1)) (gc-(i+1))]) E) Aa<|by rw[Hh Ae]) func174 Aa Aa Aa Aa Aa sizeOf219 An rfl rfl rfl rfl<|by simp only[List.length_append];omega))<|Ab 1 ?_
   refine Ai<|Cd Aa<|W.s<|B3 [(0,true),(1,true),(2,true),(3,true),(4,true),(5,true),(6,false),(7,false),(8,false)] [0,1,2,3,4,5] (Mem w M [[cb f news 219]]) Aa Aa Aa rfl Aa (fun _ _ o=>o.drawn _) (fun _ o=>o.pick [1] An rfl) ?_
   refine B5 3<|Bm (v:=nV .i64<|i+1) rfl ((Ys.p (v:=.int .i64<|D2 .i64 (i:Int) 1)).conseq<|Ad<|Fi Ae Ae Ae)<|Bm (v:=sL (Ds (some ⟨l,0,none⟩) gc (i+1) 2) ((n+1)-(i+1))<|gc-(i+1)) rfl (Br (a:=some ⟨l,0,none⟩) (len:=n+1) (cap:=gc) (sz:=2) (k:=.i64) (i:=((i+1:Nat):Int)) rfl Aa Aa runUnderlying148 sizeOf219 Ae Ae)<|Wd.mp 2 [] [1]<|Wd.yc (v:=sL (Ds (some ⟨l,0,none⟩) gc i 2) ((n+1)-i)<|gc-i) rfl rfl rfl (Ys.yc<|Br (a:=some ⟨l,0,none⟩) (len:=n+1) (cap:=gc) (sz:=2) (k:=.i64) (i:=(i:Int)) rfl Aa Aa runUnderlying148 sizeOf219 Ae Ae) (Ee [1]) ?_
   obtain⟨A62,C⟩: ∃A,Bt (cs++J) ((i+1)*2) (cs.drop (i*2))=A:=⟨_,rfl⟩
   have ad:A62.length=(cs++J).length:=by rw[←C];exact Cw _ _ _ Af4
   try simp only[List.length_append,List.length_take]at ad
   refine Cj rfl rfl (Cy (td:=148) (tx:=148) (e:=219) (ii:=(prog.info? 219).getD default) (xv:=sL (Ds (some ⟨l,0,none⟩) gc i 2) ((n+1)-i)<|gc-i) (cap:=gc) (dl:=(n+1)-(i+1)) (dc:=gc-(i+1)) (m:=(n+1)-i) (q:=n-i) (sz:=2) (o':=i+1) (i:=0) (j:=0) (b:=l) (t:=219) (cs:=cs++J) (cs':=A62) (news:=cs.drop<|i*2) (LL':=[[cb l A62 219],[cb f news 219]]) rfl rfl Aa Aa Aa Aa Ae Aa rfl rfl (fun _=>rfl) Mg (Src.at (a:=Ds (some ⟨l,0,none⟩) gc i 2) (show(cs.drop<|i*2).length=(n-i)*2 by rw[List.length_drop,hcs];omega) fun E o=>(by have z_:=((A4 (i:=0) (j:=0) (t:=219) (b:=l) o rfl rfl).dropT (cap:=gc) (k:=i) (m:=n-i) (sz:=2) Ae);rwa[drop_take hcs Ae]at z_)) (show(cs.drop<|i*2).length=(n-i)*2 by rw[List.length_drop,hcs];omega) Af4 (one_drop L _) C rfl) (Az [1]) fun _=>Cl<|Av ?_
   refine Ab 2<|Ao (v:=sL (Ds (some ⟨l,0,none⟩) gc i 2) ((n+1)-i)<|gc-i) (Br (a:=some ⟨l,0,none⟩) (len:=n+1) (cap:=gc) (sz:=2) (k:=.i64) (i:=(i:Int)) rfl Aa Aa runUnderlying148 sizeOf219 Ae Ae) ?_
   obtain⟨A67,D⟩: ∃A,Bt A62 (i*2) news=A:=⟨_,rfl⟩
   have ae:A67.length=A62.length:=by rw[←D];exact Cw _ _ _ Me
   try simp only[List.length_append,List.length_take]at ae
   refine Ab 1<|Af rfl (Cy (td:=148) (tx:=148) (e:=219) (ii:=(prog.info? 219).getD default) (xv:=sL (some ⟨f,0,none⟩) 1 1) (cap:=gc) (dl:=(n+1)-i) (dc:=gc-i) (m:=1) (q:=1) (sz:=2) (o':=i) (i:=0) (j:=0) (b:=l) (t:=219) (cs:=A62) (cs':=A67) (news:=news) (LL':=[[cb l A67 219],[cb f news 219]]) rfl rfl Aa Aa Aa Aa Ae Aa rfl rfl (fun _=>rfl) Mg (Src.at (a:=some ⟨f,0,none⟩) hnl fun E o=>(A4 (i:=1) (j:=0) (t:=219) (b:=f) o rfl rfl)) hnl Me H D rfl) fun _=>?_
   refine Ai<|Aj []<|Am rfl ?_
   have R:=ins_in hcs Ae Ae Ae C D
   exact D9 rfl (Ar<|sL (some ⟨l,0,none⟩) (n+1) gc) fun E r=>⟨⟨false,l,gc,J.drop 2⟩,⟨⟨fun h=>(by cases h),Ae,ok.mx,(by show gc*2≤_;rw[List.length_drop];omega)⟩,rfl⟩,rfl,(Mem.cast (by rw[R];rfl)<|r.pick [0] An rfl)⟩
theorem delS_c(g:FS)(cs:List Value)(n i:Nat)(M:List Nat)(w:World)(O:Mem w M [g.seg 219 cs] w)(ok:g.ok 2 n)(hcs:cs.length=n*2)(V:i<n)(X:n≤100000)(D: ∀v∈cs,v.oneCell'=true):Calls prog 113 #[sV g n,nV .i64 i,nV .i64 (i+1)] w (Bn w (fun l:FS=>l.ok 2 (n-1)∧l.nil=false) (fun l=>.slice l.a (n-1) l.cap) M (fun l=>[l.seg 219 (cs.take (i*2)++cs.drop ((i+1)*2))])):=by
 have H:=ok.le;have I:=ok.mx;have P:=hcs
 refine Ap (M:=M) (LL:=[g.seg 219 cs]) (n:=33) func113 rfl rfl A7 (O)<|Aj []<|Av<|Ab 5 ?_
 refine Ao (v:=sL (Ds g.a n i 2) ((i+1)-i)<|n-i) (I3 (a:=g.a) (len:=n) (cap:=g.cap) (sz:=2) (k:=.i64) (k':=.i64) (k'':=.i64) (i:=(i:Int)) (j:=((i+1:Nat):Int)) (q:=(n:Int)) rfl Aa Aa Aa Aa runUnderlying148 sizeOf219 Ae Ae Ae Ae)<|Ai<|W.s<|Aj [] ?_
 refine Ak (((i:Nat):Int)==((i+1:Nat):Int)) Aa (fun Q=>?_) fun R=>?_
 ·have E:=Q;try simp only[zA]at E
  (exfalso;omega)
 ·have F:=R;try simp only[zA]at F
  refine Ag<|A9<|Aj []<|W.s ?_
  have o:=De ok Ae
  obtain⟨r,c,gc,x⟩:=g
  obtain rfl:r=false:=o
  have J:n≤gc:=ok.le
  have L:gc*2≤n*2+x.length:=ok.len
  refine B3 [(0,true),(1,true),(2,true),(3,true),(4,false),(5,false),(6,false),(7,false)] [0,1,2,3] (Mem w M []) Aa Aa Aa rfl Aa (fun _ _ B=>B.drawn _) (fun _ B=>B.pick [] An rfl)<|B5 2<|Bm (v:=sL (some ⟨c,0,none⟩) i gc) rfl (Dm (a:=some ⟨c,0,none⟩) (len:=n) (cap:=gc) (sz:=2) (k:=.i64) (i:=(i:Int)) rfl Aa Aa runUnderlying148 sizeOf219 Ae Ae)<|Wd.mp 2 [] []<|Wd.yc (v:=sL (Ds (some ⟨c,0,none⟩) gc (i+1) 2) (n-(i+1))<|gc-(i+1)) rfl rfl rfl (Ys.yc<|Br (a:=some ⟨c,0,none⟩) (len:=n) (cap:=gc) (sz:=2) (k:=.i64) (i:=((i+1:Nat):Int)) rfl Aa Aa runUnderlying148 sizeOf219 Ae Ae) (Ee []) ?_
  obtain⟨A16,d⟩: ∃A,Bt (cs++x) (i*2) (cs.drop ((i+1)*2))=A:=⟨_,rfl⟩
  have C:A16.length=(cs++x).length:=by rw[←d];exact Cw _ _ _ (by rw[(show(cs.drop ((i+1)*2)).length=(n-(i+1))*2 by rw[List.length_drop,hcs];omega)];(try simp only[List.length_append,List.length_take]);omega)
  try simp only[List.length_append,List.length_take]at C
  refine Cj rfl rfl (I5 (t:=148) (u:=148) (e:=219) (eu:=219) (ii:=(prog.info? 219).getD default) (xv:=Value.slice (Ds (some ⟨c,0,none⟩) gc (i+1) 2) (n-(i+1))<|gc-(i+1)) (nn:=i) (m:=n-(i+1)) (k:=n-1) (cap:=gc) (sz:=2) (i:=0) (j:=0) (b:=c) (ty:=219) (cs:=cs++x) (cs':=A16) (news:=cs.drop<|(i+1)*2) (LL':=[[cb c A16 219]]) rfl rfl Aa Aa Aa Aa Aa Aa rfl rfl (fun _=>rfl) Ae Ae (Src.at (a:=Ds (some ⟨c,0,none⟩) gc (i+1) 2) (show(cs.drop<|(i+1)*2).length=(n-(i+1))*2 by rw[List.length_drop,hcs];omega) fun S B=>(by have T:=((A4 (i:=0) (j:=0) (t:=219) (b:=c) B rfl rfl).dropT (cap:=gc) (k:=i+1) (m:=n-(i+1)) (sz:=2) Ae);rwa[drop_take hcs Ae]at T)) (by rw[(show(cs.drop<|(i+1)*2).length=(n-(i+1))*2 by rw[List.length_drop,hcs];omega)];(try simp only[List.length_append,List.length_take]);omega) (one_drop D _) d rfl) (Az []) fun _=>Dh 1 []<|Cl<|W.s ?_
  refine Ac<|Ab 4<|Ao (v:=sL (Ds (some ⟨c,0,none⟩) gc (n-1) 2) (n-(n-1))<|gc-(n-1)) (Ic (a:=some ⟨c,0,none⟩) (len:=n-1) (cap:=gc) (sz:=2) (k:=.i64) (i:=((n-1:Nat):Int)) (k':=.i64) (j:=(n:Int)) rfl Aa Aa Aa runUnderlying148 sizeOf219 Ae Ae Ae) ?_
  obtain⟨A21,f⟩: ∃A,Bt A16 ((n-1)*2) [iV .u64 0,iV .u64 0]=A:=⟨_,rfl⟩
  have N:A21.length=A16.length:=by rw[←f];exact Cw _ _ _ Vk
  refine Af rfl (La (t:=148) (e:=219) (ii:=(prog.info? 219).getD default) (z:=aV [iV .u64 0,iV .u64 0]) (m:=0) (cap:=gc-(n-1)) (o':=(n-1)*2) (i:=0) (j:=0) (b:=c) (ty:=219) (cs:=A16) (cs':=A21) (zs:=[iV .u64 0,iV .u64 0]) (LL':=[[cb c A21 219]]) rfl rfl Aa Aa Aa (Eq.trans (b:=sL (Ds (some ⟨c,0,none⟩) gc (n-1) 2) (n-(n-1))<|gc-(n-1)) Aa<|by rw[Hh Ae];congr 1;omega) rfl rfl Aa Vk ma3 f rfl) fun _=>Ai<|Aj []<|Am rfl ?_
  have U:=del_in (zs:=[iV .u64 0,iV .u64 0]) hcs Ae rfl d f
  exact D9 rfl (Ar<|Value.slice (some ⟨c,0,none⟩) (n-1) gc) fun S G=>⟨⟨false,c,gc,[iV .u64 0,iV .u64 0]++x⟩,⟨⟨fun h=>(by cases h),(by show n-1≤gc;omega),ok.mx,(by show gc*2≤_;simp only[List.length_append,List.length_cons,List.length_nil];omega)⟩,rfl⟩,rfl,(Mem.cast (by rw[U];rfl)<|G.pick [0] An rfl)⟩
end ZW
open ZW
def Hj(a b:Int):Int:=bif decide (a<b)then-1 else bif decide (a>b)then 1 else 0
theorem Y1(a b:Int):Hj a b<0↔a<b:=by
  unfold Hj
  by_cases h:a<b
  · rw[decide_eq_true h];simp[h]
  · rw[decide_eq_false h]
    by_cases c:a>b
    · rw[decide_eq_true c];simp;omega
    · rw[decide_eq_false c];simp;omega
theorem Y2(a b:Int):Hj a b=0↔a=b:=by
  unfold Hj
  by_cases h:a<b
  · rw[decide_eq_true h];simp;omega
  · rw[decide_eq_false h]
    by_cases c:a>b
    · rw[decide_eq_true c];simp;omega
    · rw[decide_eq_false c];simp;omega
def Nt(ks:List Int)(k:Int):Nat:=(ks.takeWhile fun x=> !(x==k)).length
def Nu(ks:List Int)(k:Int):Int:=bif decide (Nt ks k<ks.length)then(Nt ks k:Int)else-1
theorem Akv(ks:List Int)(k:Int):Nt ks k≤ks.length:=(List.takeWhile_sublist _).length_le
theorem Lh{k:Int}: ∀{ks:List Int} {i:Nat},i≤Nt ks k→i<ks.length→(ks.getD i 0=k↔Nt ks k=i)
  | [],i,_,h=>by simp at h
  |x::ks,i,hi,h=>by
    unfold Nt at hi⊢
    rw[List.takeWhile_cons]at hi⊢
    by_cases b:x=k
    · subst b
      simp only[beq_self_eq_true,Bool.not_true,Bool.false_eq_true,if_false,List.length_nil]at hi⊢
      obtain rfl:i=0:=by omega
      simp
    · rw[if_pos (by simpa using b)]at hi⊢
      rw[List.length_cons]at hi⊢
      cases i with
      |zero=>simp only[List.getD_cons_zero];constructor;exact fun h=>absurd h b;intro h;omega
      |succ i=>
        have:=Lh (k:=k) (ks:=ks) (i:=i) (by unfold Nt;omega) (by simpa using h)
        unfold Nt at this
        rw[List.getD_cons_succ,this];omega
theorem Y3{ks:List Int}{k:Int}(h:Nt ks k<ks.length):ks.getD (Nt ks k) 0=k:=(Lh (Nat.le_refl _) h).2 rfl
theorem T9{ks:List Int}{k:Int}(h:Nu ks k≥0):Nt ks k<ks.length∧Nu ks k=(Nt ks k:Int):=by
  unfold Nu at h⊢
  by_cases b:Nt ks k<ks.length
  · rw[decide_eq_true b];exact⟨b,rfl⟩
  · rw[decide_eq_false b]at h;exact absurd (show(-1:Int)≥0 from h) An
theorem Ag1{ks:List Int}{k:Int}(h:Nu ks k≥0):(Nu ks k).toNat=Nt ks k∧Nt ks k<ks.length:=by
  obtain⟨a,b⟩:=T9 h;rw[b];exact⟨rfl,a⟩
theorem Y4{ks:List Int}{k:Int}:Nt ks k<ks.length↔k∈ks:=by
  constructor
  · intro h
    have:=Y3 h
    rw[List.getD_eq_getElem?_getD,List.getElem?_eq_getElem h]at this
    rw[←this];exact List.getElem_mem h
  · intro h
    obtain⟨i,b,d⟩:=List.getElem_of_mem h
    rcases Nat.lt_or_ge (Nt ks k) ks.length with c|c
    · exact c
    · have e:=(Lh (k:=k) (ks:=ks) (i:=i) Ae b).1 (by rw[List.getD_eq_getElem?_getD,List.getElem?_eq_getElem b];exact d)
      omega
def Hq(x:Int×Int):List Value:=[.int .u64 x.1,.int .u64 x.2]
theorem G6(x:Int×Int):(Hq x).length=2:=rfl
theorem Ua(x:Int×Int): ∀v∈Hq x,v.oneCell'=true:=fun v b=>by
  simp only[Hq,List.mem_cons,List.not_mem_nil,or_false]at b
  rcases b with rfl|rfl<;>rfl
def or2(x y:Int):Int:=bif x !=0 then x else bif y !=0 then y else 0
def Oj(x y:Int×Int):Int:=or2 (Hj x.1 y.1) (Hj x.2 y.2)
def LtS(x y:Int×Int):Prop:=x.1<y.1∨x.1=y.1∧x.2<y.2
instance (x y:Int×Int):Decidable (LtS x y):=by unfold LtS;exact inferInstance
theorem Y5{x y:Int×Int}:Oj x y<0↔LtS x y:=by
  have f:=Y1 x.1 y.1;have b:=Y2 x.1 y.1;have g:=Y1 x.2 y.2;have d:=Y2 x.2 y.2
  unfold Oj or2 LtS
  by_cases h:Hj x.1 y.1=0
  · rw[show(Hj x.1 y.1 !=0)=false by simp[h]]
    by_cases c:Hj x.2 y.2=0
    · rw[show(Hj x.2 y.2 !=0)=false by simp[c]];simp only[cond_false];have:=b.1 h;have:=d.1 c;omega
    · rw[show(Hj x.2 y.2 !=0)=true by simp[c]];simp only[cond_false,cond_true];have:=b.1 h;omega
  · rw[show(Hj x.1 y.1 !=0)=true by simp[h]];simp only[cond_true]
    have:x.1≠y.1:=fun e=>h (b.2 e)
    omega
def Il(xs:List (Int×Int))(x:Int×Int):Nat:=(xs.takeWhile fun p=>decide (LtS p x)).length
def Sz(xs:List (Int×Int)):Prop:=xs.Pairwise LtS
theorem Ub(xs:List (Int×Int))(x:Int×Int):Il xs x≤xs.length:=(List.takeWhile_sublist _).length_le
theorem LtS.trans{x y z:Int×Int}(h:LtS x y)(g:LtS y z):LtS x z:=by unfold LtS at*;omega
theorem Jr{k:Int×Int}: ∀{xs:List (Int×Int)},Sz xs→ ∀{h:Nat},h<xs.length→(LtS (xs.getD h (0,0)) k↔h<Il xs k)
  | [],_,h,hh=>by simp at hh
  |x::xs,hs,h,hh=>by
    have b:=List.pairwise_cons.1 hs
    unfold Il
    rw[List.takeWhile_cons]
    by_cases c:LtS x k
    · rw[if_pos (by simpa using c),List.length_cons]
      cases h with
      |zero=>simpa using c
      |succ h=>
        have:=Jr (k:=k) b.2 (h:=h) (by simpa using hh)
        unfold Il at this
        rw[List.getD_cons_succ,this];omega
    · rw[if_neg (by simpa using c),List.length_nil]
      cases h with
      |zero=>simp only[List.getD_cons_zero];exact⟨fun h=>absurd h c,fun h=>by omega⟩
      |succ h=>
        have d:=b.1 (xs.getD h (0,0)) (by
          have:h<xs.length:=by simpa using hh
          rw[List.getD_eq_getElem?_getD,List.getElem?_eq_getElem this];exact List.getElem_mem _)
        rw[List.getD_cons_succ];exact⟨fun h=>absurd (d.trans h) c,fun h=>by omega⟩
def C6(xs:List (Int×Int)):List Int:=xs.map Prod.snd
theorem G0(xs:List (Int×Int)):(C6 xs).length=xs.length:=List.length_map _
theorem Ok{xs:List (Int×Int)}{i:Nat}(h:i<xs.length):(C6 xs).getD i 0=(xs.getD i (0,0)).2:=by
  simp[C6,List.getD_eq_getElem?_getD,List.getElem?_map,List.getElem?_eq_getElem h]
def Gh(xs:List (Int×Int))(k:Int):List (Int×Int):=bif decide (Nu (C6 xs) k≥0)then xs.take (Nt (C6 xs) k)++xs.drop (Nt (C6 xs) k+1)else xs
def S0(xs:List (Int×Int))(x:Int×Int):List (Int×Int):=xs.take (Il xs x)++x::xs.drop (Il xs x)
def Kz(xs:List (Int×Int))(k a:Int):List (Int×Int):=S0 (Gh xs k) (a,k)
theorem Uc(xs:List (Int×Int))(k:Int):(Gh xs k).length≤xs.length:=by
  unfold Gh;cases decide (Nu (C6 xs) k≥0)
  · exact Nat.le_refl _
  · simp only[cond_true,List.length_append,List.length_take,List.length_drop];omega
theorem Ach(xs:List (Int×Int))(x:Int×Int):(S0 xs x).length=xs.length+1:=by
  have:=Ub xs x
  unfold S0;simp only[List.length_append,List.length_take,List.length_cons,List.length_drop];omega
theorem Aci(xs:List (Int×Int))(k a:Int):(Kz xs k a).length≤xs.length+1:=by
  unfold Kz;rw[Ach];have:=Uc xs k;omega
theorem V3(xs:List (Int×Int))(k:Int):(Gh xs k).Sublist xs:=by
  unfold Gh;cases decide (Nu (C6 xs) k≥0)
  · exact List.Sublist.refl _
  · simp only[cond_true]
    conv=>rhs;rw[←List.take_append_drop (Nt (C6 xs) k) xs]
    exact(List.Sublist.refl _).append<|List.drop_sublist_drop_left _ Ae
theorem V4{xs:List (Int×Int)}(h:Sz xs)(k:Int):Sz (Gh xs k):=h.sublist (V3 xs k)
theorem Rx{xs:List (Int×Int)}{k:Int}(r:(C6 xs).Nodup){p:Int×Int}:p∈Gh xs k↔p∈xs∧p.2≠k:=by
  unfold Gh
  by_cases d:Nu (C6 xs) k≥0
  · obtain⟨E,f⟩:=Ag1 d
    have g:=Y3 f
    rw[decide_eq_true d];simp only[cond_true]
    generalize Nt (C6 xs) k=i at f g
    rw[G0]at f
    obtain⟨a,x,b,rfl,t⟩: ∃a x b,xs=a++x::b∧a.length=i:=⟨xs.take i,xs[i],xs.drop (i+1),by rw[List.getElem_cons_drop,List.take_append_drop],by rw[List.length_take];omega⟩
    subst t
    rw[Ok A7]at g
    have j:x.2=k:=by simpa [List.getD_eq_getElem?_getD]using g
    have u:(a++x::b).take a.length=a:=List.take_left
    have w:(a++x::b).drop (a.length+1)=b:=by rw[show a++x::b=(a++[x])++b by simp,show a.length+1=(a++[x]).length by simp,List.drop_left]
    rw[u,w]
    have c:(a.map Prod.snd++x.2::b.map Prod.snd).Nodup:=by simpa [C6]using r
    rw[List.nodup_append]at c
    obtain⟨-,A,l⟩:=c
    have n:=List.nodup_cons.1 A
    have B: ∀p∈a,p.2≠k:=fun p o e=>l p.2 (List.mem_map.2 ⟨p,o,rfl⟩) x.2 (List.mem_cons_self ..) (by rw[e,j])
    have C: ∀p∈b,p.2≠k:=fun p o e=>n.1 (by rw[j,←e];exact List.mem_map.2 ⟨p,o,rfl⟩)
    simp only[List.mem_append,List.mem_cons]
    constructor
    · rintro(h|h)
      · exact⟨.inl h,B p h⟩
      · exact⟨.inr (.inr h),C p h⟩
    · rintro⟨h|rfl|h,q⟩
      · exact .inl h
      · exact absurd j q
      · exact .inr h
  · rw[decide_eq_false d]
    simp only[cond_false]
    refine⟨fun h=>⟨h,fun e=>d ?_⟩,fun h=>h.1⟩
    have D:k∈C6 xs:=by rw[←e];exact List.mem_map.2 ⟨p,h,rfl⟩
    have:=Y4.2 D
    unfold Nu;rw[decide_eq_true this];simp only[cond_true];omega
theorem Acj{xs:List (Int×Int)}{x p:Int×Int}:p∈S0 xs x↔p=x∨p∈xs:=by
  unfold S0
  conv=>rhs;rw[←List.take_append_drop (Il xs x) xs]
  simp only[List.mem_append,List.mem_cons]
  constructor
  · rintro(h|h|h)
    · exact .inr (.inl h)
    · exact .inl h
    · exact .inr (.inr h)
  · rintro(h|h|h)
    · exact .inr (.inl h)
    · exact .inl h
    · exact .inr (.inr h)
theorem Aad(xs:List (Int×Int))(x:Int×Int):(S0 xs x).Perm (x::xs):=by
  unfold S0
  refine List.perm_middle.trans ?_
  rw[List.take_append_drop]
theorem Ack{xs:List (Int×Int)}(h:Sz xs){x:Int×Int}(o: ∀p∈xs,p.2≠x.2):Sz (S0 xs x):=by
  have c: ∀p∈xs.drop (Il xs x),LtS x p:=by
    intro p f
    obtain⟨j,g,e⟩:=List.getElem_of_mem f
    rw[List.getElem_drop]at e
    have i:Il xs x+j<xs.length:=by rw[List.length_drop]at g;omega
    have:=mt (Jr (k:=x) h i).1 Ae
    rw[List.getD_eq_getElem?_getD,List.getElem?_eq_getElem i,Option.getD_some,e]at this
    have q:=o p (by rw[←e];exact List.getElem_mem i)
    unfold LtS at this⊢;omega
  have d: ∀p∈xs.take (Il xs x),LtS p x:=by
    intro p f
    obtain⟨j,g,e⟩:=List.getElem_of_mem f
    rw[List.getElem_take]at e
    rw[List.length_take]at g
    have:=(Jr (k:=x) h (h:=j) Ae).2 Ae
    rw[List.getD_eq_getElem?_getD,List.getElem?_eq_getElem Ae,Option.getD_some,e]at this;exact this
  unfold S0 Sz
  rw[List.pairwise_append]
  refine⟨h.sublist<|List.take_sublist _ _,List.pairwise_cons.2 ⟨c,h.sublist<|List.drop_sublist _ _⟩,fun a n b l=>?_⟩
  rcases List.mem_cons.1 l with rfl|l
  · exact d a n
  · exact(d a n).trans (c b l)
structure OkS(xs:List (Int×Int)):Prop where
  srt:Sz xs
  nd:(C6 xs).Nodup
theorem OkS.nil:OkS []:=⟨List.Pairwise.nil,List.nodup_nil⟩
theorem OkS.cut{xs:List (Int×Int)}(h:OkS xs)(k:Int):OkS (Gh xs k):=⟨V4 h.srt k,h.nd.sublist ((V3 xs k).map _)⟩
theorem OkS.set{xs:List (Int×Int)}(h:OkS xs)(k a:Int):OkS (Kz xs k a):=by
  have c: ∀p∈Gh xs k,p.2≠k:=fun p b=>((Rx h.nd).1 b).2
  refine⟨Ack (h.cut k).srt c,?_⟩
  have b:=((Aad (Gh xs k) (a,k)).map Prod.snd).nodup_iff.2
  refine b ?_
  rw[List.map_cons]
  refine List.nodup_cons.2 ⟨fun d=>?_,(h.cut k).nd⟩
  obtain⟨p,b,e⟩:=List.mem_map.1 d
  exact c p b e
theorem OkS.drop{xs:List (Int×Int)}(h:OkS xs)(n:Nat):OkS (xs.drop n):=⟨h.srt.sublist (List.drop_sublist _ _),h.nd.sublist ((List.drop_sublist _ _).map _)⟩
theorem Acl{xs:List (Int×Int)}(h:OkS xs){k a:Int}{p:Int×Int}:p∈Kz xs k a↔p=(a,k)∨p∈xs∧p.2≠k:=by
  unfold Kz;rw[Acj,Rx h.nd]
theorem Acm(x:Int)(w:World):Calls prog 68 #[iV .u64 x] w (Df w (.bool false)):=by
 refine Ap (M:=[]) (LL:=[]) (n:=6) func68 rfl rfl A7 (Mem.refl _)<|Aj []<|Aj []<|Am rfl<|D7 rfl (Ar<|bV<|x !=x)<|by exact B2 A7
theorem Acn(a b:Int)(w:World):Calls prog 35 #[iV .u64 a,iV .u64 b] w (Df w (.int .i64 (Hj a b))):=by
 refine Ap (M:=[]) (LL:=[]) (n:=20) func35 rfl rfl A7 (Mem.refl _)<|Aj []<|Av<|Ab 1 ?_
 refine Cb (v:=bV false) (A8 fun o l=>(Acm a _))<|Ab 1<|Ai<|W.s ?_
 refine Ac<|Ab 1<|Cb (v:=bV false) (A8 fun o l=>(Acm b _))<|Ab 1<|Ay ?_
 refine A9<|W.s ?_
 refine Aj []<|B4 Aa<|Ag<|A9<|W.s ?_
 refine Aj []<|B4 Aa<|Ag<|A9<|W.s ?_
 refine Aj [] ?_
 refine Ak (decide<|a<b) Aa (fun d=>?_) fun c=>?_
 ·have e:=d;try simp only[zA]at e
  refine Aj []<|Am rfl<|D7 rfl (Ar<|iV .i64<|-1)<|by simp only[Hj,d,cond_true,cond_false];try rfl
 ·have f:=c;try simp only[zA]at f
  refine Ag<|A9<|W.s<|Aj [] ?_
  refine Ak (decide<|a>b) Aa (fun g=>?_) fun h=>?_
  ·have i:=g;try simp only[zA]at i
   refine Aj []<|Am rfl<|D7 rfl (Ar<|iV .i64 1)<|by simp only[Hj,c,g,cond_true,cond_false];try rfl
  ·have j:=h;try simp only[zA]at j
   refine Ag<|A9<|Aj []<|Am rfl<|D7 rfl (Ar<|iV .i64 0)<|by simp only[Hj,c,h,cond_true,cond_false];try rfl
theorem Aoi(x y:Int)(a:Option Addr)(cap:Nat)(w:World)(c:At w a [.int .i64 x,.int .i64 y]):Calls prog 64 #[sL a 2 cap] w (Df w (.int .i64 (or2 x y))):=by
 refine Ap (M:=[]) (LL:=[]) (n:=18) func64 rfl rfl A7 (Mem.refl _)<|Aj []<|Aj []<|W.s<|Aj [] ?_
 refine W.block<|Jq 3<|Dl fun C d=>Aj []<|W.s ?_
 refine Cd Aa<|Ag<|A9<|W.s<|W.block ?_
 refine Av<|Ao (v:=pL<|some<|Cs a 0) (Bb fun u e=>Aq (k:=.i64) (a:=a) (len:=2) (cap:=cap) (i:=0) (sz:=1) rfl Aa Aa runUnderlying224 sizeOf3 An An<|(c.mem0 e).here Su)<|Ao (Ys.ld (a:=Cs a 0) rfl Aa isAgg3 fun u e=>(c.mem0 e).ld (v:=iV .i64 x) rfl)<|Ab 1 ?_
 refine Ai<|Aj [] ?_
 refine Ak (x !=0) Aa (fun g=>?_) fun f=>?_
 ·have h:=g;try simp only[zA]at h
  refine Aj []<|Am rfl<|D7 rfl (Ar<|iV .i64 x)<|by clear d;simp only[or2,g,cond_true,cond_false];try rfl
 ·have j:=f;try simp only[zA]at j
  refine Ag<|A9<|Ac<|Ab 2<|Ay ?_
  refine d _ _ _<|Dl fun A b=>?_
  refine Aj []<|W.s ?_
  refine Cd Aa<|Ag<|A9<|W.s<|W.block ?_
  refine Av<|Ao (v:=pL<|some<|Cs a 1) (Bb fun u e=>Aq (k:=.i64) (a:=a) (len:=2) (cap:=cap) (i:=1) (sz:=1) rfl Aa Aa runUnderlying224 sizeOf3 An An<|(c.mem0 e).here Su)<|Ao (Ys.ld (a:=Cs a 1) rfl Aa isAgg3 fun u e=>(c.mem0 e).ld (v:=iV .i64 y) rfl)<|Ab 1 ?_
  refine Ai<|Aj [] ?_
  refine Ak (y !=0) Aa (fun l=>?_) fun o=>?_
  ·have q:=l;try simp only[zA]at q
   refine Aj []<|Am rfl<|D7 rfl (Ar<|iV .i64 y)<|by clear d b;simp only[or2,f,l,cond_true,cond_false];try rfl
  ·have r:=o;try simp only[zA]at r
   refine Ag<|A9<|Ac<|Ab 2<|Ay ?_
   refine b _ _ _<|Dl fun B t=>?_
   refine Aj []<|W.s ?_
   refine B4 Aa<|Cm<|A9<|Aj []<|Am rfl<|D7 rfl (Ar<|iV .i64 0)<|by clear d b t;simp only[or2,f,o,cond_true,cond_false];try rfl
theorem Aco(a k b l:Int)(w:World):Calls prog 142 #[aV [iV .u64 a,iV .u64 k],aV [iV .u64 b,iV .u64 l]] w (Df w (.int .i64 (Oj (a,k) (b,l)))):=by
 refine Ap (M:=[]) (LL:=[]) (n:=17) func142 rfl rfl A7 (Mem.refl _)<|W.s ?_
 refine Ac<|Af rfl (Bx [iV .u64 a,iV .u64 k] rfl) fun g=>?_
 refine Af rfl (Bx [iV .u64 b,iV .u64 l] rfl) fun h=>Ab 1<|Ai<|W.s ?_
 refine C5 [(0,true),(1,true),(2,true),(3,true),(5,true),(6,true),(7,true),(8,true),(4,false),(9,false),(10,false),(11,false),(12,false)] [0,1,2,3,5,6,7,8]<|Dh 8 [(1,0),(0,0),(1,0),(0,0)]<|Ec (v:=iV .i64<|Hj a b) rfl (A8 fun e c=>(Acn a b _))<|Ec (v:=iV .i64<|Hj k l) rfl (A8 fun e c=>(Acn k l _))<|Cj rfl rfl (Bj (mk:=fun f=>.slice (some ⟨f,0,none⟩) 2 2) (t:=3) (cs:=[iV .i64 (Hj a b),iV .i64 (Hj k l)]) rfl fun _=>kr) (Az [1,2]) fun d=>?_
 refine Wd.yc (v:=iV .i64<|or2 (Hj a b)<|Hj k l) rfl rfl rfl (A8 fun e c=>(Aoi (Hj a b) (Hj k l) (some ⟨d,0,none⟩) 2 _<|A4 (i:=0) (j:=0) (t:=3) (b:=d) c rfl rfl)) (Ee [1,2])<|Dh 1 []<|Cl<|Al [] An rfl ?_
 refine Am rfl<|D7 rfl (Ar<|iV .i64<|or2 (Hj a b)<|Hj k l) rfl
theorem Aoj(a l k:Int)(pk:Nat)(M:List Nat)(w:World)(c:Mem w M [[cb pk [Value.int .u64 k] 45]] w):Calls prog 167 #[aV [iV .u64 a,iV .u64 l],pV pk 0] w (Bn w (fun _:Unit=>True) (fun _=>bV (l==k)) M (fun _=>[[cb pk [iV .u64 k] 45]])):=by
 refine Ap (M:=M) (LL:=[[cb pk [iV .u64 k] 45]]) (n:=8) func167 rfl rfl A7 (c)<|W.s ?_
 refine Ac<|Af rfl (Bx [iV .u64 a,iV .u64 l] rfl) fun d=>?_
 refine Ab 1<|Ai<|Aj [(0,0),(1,0)]<|Al [1] An rfl ?_
 refine Am rfl<|D9 rfl (Ar<|bV<|l==k) fun e b=>⟨(),trivial,rfl,(b.pick [0] An rfl)⟩
theorem Aok(xs:List (Int×Int))(k:Int)(g:FS)(pk:Nat)(M:List Nat)(w:World)(D:Mem w M [g.seg 219 (mm Hq xs),[cb pk [Value.int .u64 k] 45]] w)(ok:g.ok 2 xs.length)(G:xs.length≤100000):Calls prog 166 #[sV g xs.length,Value.func (.func 167) #[] #[pV pk 0]] w (Bn w (fun _:Unit=>True) (fun _=>iV .i64 (Nu (C6 xs) k)) M (fun _=>[g.seg 219 (mm Hq xs),[cb pk [iV .u64 k] 45]])):=by
 refine Ap (M:=M) (LL:=[g.seg 219 (mm Hq xs),[cb pk [iV .u64 k] 45]]) (n:=19) func166 rfl rfl A7 (D)<|Aj []<|W.s<|Aj []<|W.block ?_
 refine Dd [0,1,7,8] (fun(i:Nat)=>[sV g xs.length,Value.func (.func 167) #[] #[pV pk 0],nV .i64 xs.length,nV .i64 i]) (fun(i:Nat)=>i≤Nt (C6 xs) k∧i≤xs.length) (fun(i:Nat)=>[g.seg 219 (mm Hq xs),[cb pk [iV .u64 k] 45]]) (fun(i:Nat)=>xs.length-i) 0 Aa ⟨(Nat.zero_le _),(Nat.zero_le _)⟩ (by rfl) fun i H I o q=>?_
 obtain⟨C,E⟩:=o
 refine Aj []<|W.s ?_
 refine Ak (decide<|((i:Nat):Int)<(xs.length:Int)) Aa (fun r=>?_) fun u=>?_
 ·have j:=r;try simp only[zA]at j
  refine Ag<|A9<|W.s<|W.block<|Aj [] ?_
  refine Av<|Ab 3<|Ao (v:=pL<|some<|Cs g.a<|i*2) (Aq (k:=.i64) (a:=g.a) (len:=xs.length) (cap:=g.cap) (i:=(i:Int)) (sz:=2) rfl Aa Aa runUnderlying148 sizeOf219 Ae Ae Z6)<|Ao (v:=aV [iV .u64 ((xs.getD i (0,0)).1),iV .u64 ((xs.getD i (0,0)).2)]) (Ys.ldN (a:=Cs g.a<|i*2) (vs:=[iV .u64 ((xs.getD i (0,0)).1),iV .u64 ((xs.getD i (0,0)).2)]) rfl Aa isAgg219 sizeOf219 rfl fun f h=>(FS.at (i:=0) (t:=219) h rfl<|Ah ok<|Ch G6 _).ldN<|Db (g:=Hq) (sz:=2) (fun _=>rfl) (0,0) (xs:=xs) (k:=i) Ae) ?_
  refine Cb (v:=bV<|((xs.getD i (0,0)).2)==k) (A8 fun f x=>(let b:=Kl (x.pick [1] An rfl);Np b<|Aoj ((xs.getD i (0,0)).1) ((xs.getD i (0,0)).2) k pk _ f b))<|Ai ?_
  refine Ak (((xs.getD i (0,0)).2)==k) Aa (fun A=>?_) fun B=>?_
  ·have c:=A;try simp only[zA]at c
   refine Aj []<|Am rfl<|D9 rfl (Ar<|nV .i64 i) fun f e=>⟨(),trivial,Eo<|(by have b:=(Lh C<|by rw[G0];omega).1 ((Ok Ae).trans c);unfold Nu;rw[decide_eq_true (by rw[G0];omega),b];rfl),(e.pick [0,1] An rfl)⟩
  ·have d:=B;try simp only[zA]at d
   refine Ag<|A9<|Ac<|Bw (((i+1):Nat):Int) (i:Int) 1<|Ab 1 ?_
   refine Ay ?_
   refine fun f h=>q (i+1) _ f Ae ⟨(by have b:=d;rw[←Ok Ae]at b;have F:=Lh C (by rw[G0];omega);rcases Nat.lt_or_ge i (Nt (C6 xs) k)with h|h;exact h;exact absurd (F.2 Ae) b),Ae⟩ ?_ h
   kernel_rfl
 ·have l:=u;try simp only[zA]at l
  refine Cm<|A9<|Aj []<|Am rfl<|D9 rfl (Ar<|iV .i64<|-1) fun f e=>⟨(),trivial,Eo<|(by unfold Nu;rw[decide_eq_false (by have b:=Akv (C6 xs) k;rw[G0]at b⊢;omega)];rfl),(e.pick [0,1] An rfl)⟩
theorem Ag2(xs:List (Int×Int))(g:FS)(b:Nat)(M:List Nat)(k:Int)(w:World)(h:Mem w M [g.seg 219 (mm Hq xs),[cb b [sL g.a xs.length g.cap] 150]] w)(ok:g.ok 2 xs.length)(j:xs.length≤100000):Calls prog 126 #[pV b 0,iV .u64 k] w (Bn w (fun _:Unit=>True) (fun _=>iV .i64 (Nu (C6 xs) k)) M (fun _=>[g.seg 219 (mm Hq xs),[cb b [sV g xs.length] 150]])):=by
 refine Ap (M:=M) (LL:=[g.seg 219 (mm Hq xs),[cb b [sV g xs.length] 150]]) (n:=11) func126 rfl rfl A7 (h)<|W.s ?_
 refine Ac<|Af rfl (E9 (v:=iV .u64 k) (cs:=[iV .u64 k]) rfl rfl Aa rfl) fun i=>?_
 refine Ab 1<|Ai<|Av ?_
 refine A5 5 [(2,0)]<|Cb (v:=iV .i64<|Nu (C6 xs) k) (A8 fun e c=>(let f:=Kl (c.pick [1,0] An rfl);Np f<|Aok xs k g i _ e f ok Ae))<|Ab 1<|Ai ?_
 refine Al [1,2] An rfl<|Am rfl<|D9 rfl (Ar<|iV .i64<|Nu (C6 xs) k) fun e d=>⟨(),trivial,rfl,(d.pick [0,1] An rfl)⟩
theorem Aol(xs:List (Int×Int))(x:Int×Int)(g:FS)(M:List Nat)(w:World)(hl:Mem w M [g.seg 219 (mm Hq xs)] w)(ok:g.ok 2 xs.length)(hn:xs.length≤100000)(U:Sz xs):Calls prog 141 #[sV g xs.length,aV [iV .u64 x.1,iV .u64 x.2],Value.func (.func 142) #[] #[]] w (Bn w (fun _:Unit=>True) (fun _=>Value.tuple #[nV .i64 (Il xs x),bV ((decide (((Il xs x:Nat):Int)<(xs.length:Int)))&&((Oj (xs.getD (Il xs x) (0,0)) x)==0))]) M (fun _=>[g.seg 219 (mm Hq xs)])):=by
 refine Ap (M:=M) (LL:=[g.seg 219 (mm Hq xs)]) (n:=49) func141 rfl rfl A7 (hl)<|W.s ?_
 refine Ac<|Af rfl (Bx [iV .u64 x.1,iV .u64 x.2] rfl) fun N=>?_
 refine Ab 2<|Ai<|Aj []<|Aj [] ?_
 refine W.s<|W.block<|Fx [0,2,4,8,9,10] (fun(i:Nat) (j:Nat)=>[sV g xs.length,Value.func (.func 142) #[] #[],pV N 0,nV .i64 xs.length,nV .i64 i,nV .i64 j]) (fun(i:Nat) (j:Nat)=>i≤Il xs x∧Il xs x≤j∧j≤xs.length) (fun(i:Nat) (j:Nat)=>[[cb N [iV .u64 x.1,iV .u64 x.2] 219],g.seg 219 (mm Hq xs)]) (fun(i:Nat) (j:Nat)=>j-i) 0 xs.length Aa ⟨(Nat.zero_le _),(Ub _ _),(Nat.le_refl _)⟩ (by rfl) fun i j f9 J8 G H=>?_
 obtain⟨hi,hj,ab⟩:=G
 refine W.s<|Aj [] ?_
 refine Ak (decide<|((i:Nat):Int)<(j:Int)) Aa (fun O=>?_) fun P=>?_
 ·have I:=O;try simp only[zA]at I
  refine Ag<|A9<|W.block<|Av ?_
  refine Ab 2<|Bw (((i+j):Nat):Int) (i:Int) (j:Int)<|Ao (v:=nV .u64<|i+j) ((Ys.p (v:=.int .u64<|Ct .u64 ((i+j:Nat):Int))).conseq<|Ad<|Co Ae Ae)<|Ao (v:=nV .u64<|(i+j)/2) ((Ys.p (v:=.int .u64<|Ib .u64 ((i+j:Nat):Int) ((1:Nat):Int))).conseq<|Ad<|Fc (i+j) 1 An)<|Ao (v:=nV .i64<|(i+j)/2) ((Ys.p (v:=.int .i64<|Ct .i64 (((i+j)/2:Nat):Int))).conseq<|Ad<|Dg Ae Ae) ?_
  refine Ab 1<|Ai<|W.s<|C5 [(0,true),(1,true),(2,true),(3,true),(4,true),(5,false),(6,false),(7,false)] [0,1,2,3,4] ?_
  refine B5 3<|Bm (v:=pL<|some<|Cs g.a<|((i+j)/2)*2) rfl (Aq (k:=.i64) (a:=g.a) (len:=xs.length) (cap:=g.cap) (i:=(((i+j)/2:Nat):Int)) (sz:=2) rfl Aa Aa runUnderlying148 sizeOf219 Ae Ae Z6)<|Bm (v:=aV [iV .u64 ((xs.getD ((i+j)/2) (0,0)).1),iV .u64 ((xs.getD ((i+j)/2) (0,0)).2)]) rfl (Ys.ldN (a:=Cs g.a<|((i+j)/2)*2) (vs:=[iV .u64 ((xs.getD ((i+j)/2) (0,0)).1),iV .u64 ((xs.getD ((i+j)/2) (0,0)).2)]) rfl Aa isAgg219 sizeOf219 rfl fun o d=>(FS.at (i:=1) (t:=219) d rfl<|Ah ok<|Ch G6 _).ldN<|Db (g:=Hq) (sz:=2) (fun _=>rfl) (0,0) (xs:=xs) (k:=(i+j)/2) Ae)<|Bs 1 [(0,0)]<|Ec (v:=iV .i64<|Oj (xs.getD ((i+j)/2) (0,0)) x) rfl (A8 fun o Q=>(Aco ((xs.getD ((i+j)/2) (0,0)).1) ((xs.getD ((i+j)/2) (0,0)).2) x.1 x.2 _)) ?_
  refine Bs 1 []<|Cl ?_
  refine Ak (decide<|(Oj (xs.getD ((i+j)/2) (0,0)) x)<0) Aa (fun R=>?_) fun S=>?_
  ·have q:=R;try simp only[zA]at q
   refine Ac<|Ab 1<|Bw (((((i+j)/2)+1):Nat):Int) (((i+j)/2:Nat):Int) 1<|Ab 1<|Ay ?_
   have f:=Jr (k:=x) U (h:=(i+j)/2) Ae
   have J:=f.1 (Y5.1 q)
   refine fun o d=>H ((i+j)/2+1) j _ o Ae ⟨Ae,Ae,Ae⟩ ?_ d
   kernel_rfl
  ·have r:=S;try simp only[zA]at r
   refine Ac<|Ab 2<|Ay ?_
   have f:=Jr (k:=x) U (h:=(i+j)/2) Ae
   have J: ¬((i+j)/2<Il xs x):=fun d=>r (Y5.2 (f.2 d))
   refine fun o d=>H i ((i+j)/2) _ o Ae ⟨Ae,Ae,Ae⟩ ?_ d
   kernel_rfl
 ·have L:=P;try simp only[zA]at L
  refine Cm<|A9<|W.s<|C5 [(0,true),(1,true),(2,false),(3,false),(4,false),(5,true),(6,true),(7,true),(8,true),(9,true),(10,false),(11,false),(12,true),(13,true),(14,false),(15,false)] [0,1,5,6,7,8,9,12,13]<|Bs 5 [] ?_
  refine Bg (v:=Value.func (.func 142) #[] #[]) (decide<|((i:Nat):Int)<(xs.length:Int)) rfl (Bv rfl Aa) rfl (fun V=>?_) ?_
  ·exact Ys.p
  refine Bg (v:=sV g xs.length) (decide<|((i:Nat):Int)<(xs.length:Int)) rfl (Bv rfl Aa) rfl (fun X=>?_) ?_
  ·exact Ys.p
  refine Bg (v:=nV .i64 i) (decide<|((i:Nat):Int)<(xs.length:Int)) rfl (Bv rfl Aa) rfl (fun Y=>?_) ?_
  ·exact Ys.p
  refine Bg (v:=pL<|some<|Cs g.a<|i*2) (decide<|((i:Nat):Int)<(xs.length:Int)) rfl (Bv rfl Aa) rfl (fun l=>?_) ?_
  ·have C:=l;try simp only[zA]at C
   refine Bh (t:=41) (v0:=sV g xs.length) (lz (g:=decide<|((i:Nat):Int)<(xs.length:Int)) (u:=undef) l Aa)<|Bh (t:=42) (v0:=nV .i64 i) (lz (g:=decide<|((i:Nat):Int)<(xs.length:Int)) (u:=undef) l Aa) ?_
   exact Aq (k:=.i64) (a:=g.a) (len:=xs.length) (cap:=g.cap) (i:=(i:Int)) (sz:=2) rfl Aa Aa runUnderlying148 sizeOf219 Ae Ae Z6
  refine Bg (v:=aV [iV .u64 ((xs.getD i (0,0)).1),iV .u64 ((xs.getD i (0,0)).2)]) (decide<|((i:Nat):Int)<(xs.length:Int)) rfl (Bv rfl Aa) rfl (fun A=>?_) ?_
  ·have D:=A;try simp only[zA]at D
   refine Bh (t:=43) (v0:=pL<|some<|Cs g.a<|i*2) (lz (g:=decide<|((i:Nat):Int)<(xs.length:Int)) (u:=undef) A Aa) ?_
   exact Ys.ldN (a:=Cs g.a<|i*2) (vs:=[iV .u64 ((xs.getD i (0,0)).1),iV .u64 ((xs.getD i (0,0)).2)]) rfl Aa isAgg219 sizeOf219 rfl fun o d=>(FS.at (i:=1) (t:=219) d rfl<|Ah ok<|Ch G6 _).ldN<|Db (g:=Hq) (sz:=2) (fun _=>rfl) (0,0) (xs:=xs) (k:=i) Ae
  refine Bp (v:=aV [iV .u64 x.1,iV .u64 x.2]) (decide<|((i:Nat):Int)<(xs.length:Int)) rfl (Bv rfl Aa) rfl (fun Z=>?_) (.inr fun _ d=>d) ?_
  ·refine Ys.yc ?_
   exact F0 N 0 0 0 [iV .u64 x.1,iV .u64 x.2] isAgg219 sizeOf219
  refine Bp (v:=iV .i64<|Oj (xs.getD i (0,0)) x) (decide<|((i:Nat):Int)<(xs.length:Int)) rfl (Bv rfl Aa) rfl (fun c=>?_) (.inr fun _ d=>d) ?_
  ·have E:=c;try simp only[zA]at E
   refine I0 (t:=40) (v0:=Value.func (.func 142) #[] #[]) (lz (g:=decide<|((i:Nat):Int)<(xs.length:Int)) (u:=undef) c Aa)<|I0 (t:=44) (v0:=aV [iV .u64 ((xs.getD i (0,0)).1),iV .u64 ((xs.getD i (0,0)).2)]) (lz (g:=decide<|((i:Nat):Int)<(xs.length:Int)) (u:=undef) c Aa)<|I0 (t:=45) (v0:=aV [iV .u64 x.1,iV .u64 x.2]) (lz (g:=decide<|((i:Nat):Int)<(xs.length:Int)) (u:=undef) c Aa) ?_
   exact A8 fun o Q=>(Aco ((xs.getD i (0,0)).1) ((xs.getD i (0,0)).2) x.1 x.2 _)
  refine Bg (v:=bV<|(Oj (xs.getD i (0,0)) x)==0) (decide<|((i:Nat):Int)<(xs.length:Int)) rfl (Bv rfl Aa) rfl (fun B=>?_) ?_
  ·have F:=B;try simp only[zA]at F
   refine Bh (t:=46) (v0:=iV .i64<|Oj (xs.getD i (0,0)) x) (lz (g:=decide<|((i:Nat):Int)<(xs.length:Int)) (u:=undef) B Aa) ?_
   exact Ys.p
  refine Bm (v:=bV<|(decide<|((i:Nat):Int)<(xs.length:Int))&&((Oj (xs.getD i (0,0)) x)==0)) rfl (B9 (e:=decide<|((i:Nat):Int)<(xs.length:Int)) (b:=(Oj (xs.getD i (0,0)) x)==0) rfl Aa Aa Aa)<|Bs 2 []<|Cl<|Al [1] An rfl ?_
  refine Am rfl<|E2 rfl (Ar<|nV .i64 i) (Ar<|bV<|(decide<|((i:Nat):Int)<(xs.length:Int))&&((Oj (xs.getD i (0,0)) x)==0)) fun o T=>⟨(),trivial,Eo<|(by rw[show i=Il xs x by omega]),(T.pick [0] An rfl)⟩
theorem Akw(g:FS)(xs X:List (Int×Int))(x:Int×Int)(c i:Nat)(M:List Nat)(w:World)(d:xs.take i++x::xs.drop i=X)(f:Mem w M [g.seg 219 (mm Hq xs),[cb c (Hq x) 219]] w)(ok:g.ok 2 xs.length)(j:i≤xs.length)(l:xs.length≤100000):
    Calls prog 143 #[.slice g.a xs.length g.cap,.int .i64 (i:Int),.slice (some ⟨c,0,none⟩) 1 1] w (Bn w (fun b:FS=>b.ok 2 X.length∧b.nil=false) (fun b=>.slice b.a X.length b.cap) M (fun b=>[b.seg 219 (mm Hq X)])):=by
  subst d
  have h:=insS_c g (mm Hq xs) (Hq x) c xs.length i M w f ok (Ch G6 _) j l rfl (Gz Ua _) (Ua _)
  have e:(mm Hq xs).take (i*2)++(Hq x++(mm Hq xs).drop (i*2))=mm Hq (xs.take i++x::xs.drop i):=by rw[Fy G6,Hz G6,Kn,Ko]
  have n:(xs.take i++x::xs.drop i).length=xs.length+1:=by simp;omega
  rw[e]at h;rw[n];exact h
theorem Acp(g:FS)(xs X:List (Int×Int))(i:Nat)(a b:Int)(M:List Nat)(w:World)(d:a=(i:Int))(f:b=((i+1:Nat):Int))(j:xs.take i++xs.drop (i+1)=X)(l:Mem w M [g.seg 219 (mm Hq xs)] w)(ok:g.ok 2 xs.length)(n:i<xs.length)(o:xs.length≤100000):
    Calls prog 113 #[.slice g.a xs.length g.cap,.int .i64 a,.int .i64 b] w (Bn w (fun c:FS=>c.ok 2 X.length∧c.nil=false) (fun c=>.slice c.a X.length c.cap) M (fun c=>[c.seg 219 (mm Hq X)])):=by
  subst j;subst d;subst f
  have h:=delS_c g (mm Hq xs) xs.length i M w l ok (Ch G6 _) n o (Gz Ua _)
  have e:(mm Hq xs).take (i*2)++(mm Hq xs).drop ((i+1)*2)=mm Hq (xs.take i++xs.drop (i+1)):=by rw[Fy G6,Hz G6,Kn]
  have q:(xs.take i++xs.drop (i+1)).length=xs.length-1:=by simp;omega
  rw[e]at h;rw[q];exact h
theorem Acq(xs:List (Int×Int))(g:FS)(e:Nat)(M:List Nat)(k:Int)(w:World)(E:Mem w M [g.seg 219 (mm Hq xs),[cb e [sL g.a xs.length g.cap] 150]] w)(ok:g.ok 2 xs.length)(F:xs.length≤100000):Calls prog 78 #[pV e 0,iV .u64 k] w (Bn w (fun f:FS=>f.ok 2 (Gh xs k).length) (fun _=>.bool (decide (Nu (C6 xs) k≥0))) M (fun f=>[f.seg 219 (mm Hq (Gh xs k)),[cb e [.slice f.a (Gh xs k).length f.cap] 150]])):=by
 refine Ap (M:=M) (LL:=[g.seg 219 (mm Hq xs),[cb e [sV g xs.length] 150]]) (n:=24) func78 rfl rfl A7 (E)<|Aj []<|Av<|Ab 2 ?_
 refine Cb (v:=iV .i64<|Nu (C6 xs) k) (A8 fun q h=>(let A:=Kl (h.pick [0,1] An rfl);Np A<|Ag2 xs g e _ k q A ok Ae))<|Ab 1<|Ai<|W.s ?_
 refine Aj [] ?_
 refine Ak (decide<|(Nu (C6 xs) k)≥0) Aa (fun B=>?_) fun C=>?_
 ·have r:=B;try simp only[zA]at r
  have b:Nu (C6 xs) k=(Nt (C6 xs) k:Int)∧Nt (C6 xs) k<xs.length:=⟨(T9 Ae).2,G0 xs▸(T9 (ks:=C6 xs) (k:=k) Ae).1⟩
  refine Ac<|A5 7 [(1,0)]<|Bw ((Nu (C6 xs) k)+1) (Nu (C6 xs) k) 1 ?_
  obtain⟨t,c⟩: ∃Z,xs.take (Nt (C6 xs) k)++xs.drop ((Nt (C6 xs) k)+1)=Z:=⟨_,rfl⟩
  refine Aw rfl (Au [0] [1] fun q h u=>(Acp g xs t (Nt (C6 xs) k) (Nu (C6 xs) k) ((Nu (C6 xs) k)+1) _ _ b.1 (by rw[b.1];omega) c u ok Ae Ae)) fun i j=>?_
  obtain⟨l,D⟩:=j
  refine Ab 2<|Af rfl (Bd e 0 1 0 (sV i t.length) sizeOf148 rfl rfl) fun _=>?_
  refine Ai<|Aj []<|Am rfl ?_
  have o:Gh xs k=t:=by unfold Gh;simp only[B,cond_true,cond_false];exact c
  exact D9 rfl (Ar<|bV<|decide<|(Nu (C6 xs) k)≥0) fun q d=>⟨i,(by rw[o];exact l),rfl,(Mem.cast (by rw[o];rfl)<|d.pick [0,1] An rfl)⟩
 ·have x:=C;try simp only[zA]at x
  refine Ag<|A9<|Aj []<|Am rfl ?_
  have o:Gh xs k=xs:=by unfold Gh;simp only[C,cond_true,cond_false]
  exact D9 rfl (Ar<|bV<|decide<|(Nu (C6 xs) k)≥0) fun q d=>⟨g,(by rw[o];exact ok),rfl,(Mem.cast (by rw[o];rfl)<|d.pick [0,1] An rfl)⟩
theorem Ag3(xs:List (Int×Int))(g:FS)(c:Nat)(M:List Nat)(k:Int)(X:List (Int×Int))(w:World)(d:Gh xs k=X)(e:Mem w M [g.seg 219 (mm Hq xs),[cb c [sL g.a xs.length g.cap] 150]] w)(ok:g.ok 2 xs.length)(f:xs.length≤100000):Calls prog 78 #[.pointer (some ⟨c,0,none⟩),.int .u64 k] w (Bn w (fun b:FS=>b.ok 2 (X).length) (fun _=>.bool (decide (Nu (C6 xs) k≥0))) M (fun b=>[b.seg 219 (mm Hq (X)),[cb c [.slice b.a (X).length b.cap] 150]])):=by
  subst d;exact Acq xs g c M k w e ok f
theorem Akx(xs:List (Int×Int))(g:FS)(d:Nat)(M:List Nat)(k a:Int)(w:World)(I:Mem w M [g.seg 219 (mm Hq xs),[cb d [sL g.a xs.length g.cap] 150]] w)(ok:g.ok 2 xs.length)(N:xs.length≤100000)(J:Sz xs):Calls prog 91 #[pV d 0,iV .u64 k,iV .u64 a] w (Bn w (fun j:FS=>j.ok 2 (Kz xs k a).length) (fun _=>.tuple #[]) M (fun j=>[j.seg 219 (mm Hq (Kz xs k a)),[cb d [.slice j.a (Kz xs k a).length j.cap] 150]])):=by
 refine Ap (M:=M) (LL:=[g.seg 219 (mm Hq xs),[cb d [sV g xs.length] 150]]) (n:=35) func91 rfl rfl A7 (I)<|W.s ?_
 refine Ac ?_
 obtain⟨X2,b⟩: ∃z,Gh xs k=z:=⟨_,rfl⟩
 have D:X2.length≤xs.length:=b▸Uc _ _
 have l:Sz X2:=b▸V4 J _
 refine Ab 2<|Aw rfl (Au [0,1] [] fun i e f=>(Ag3 xs g d _ k X2 _ b f ok Ae)) fun x o=>?_
 refine Ai<|Av<|Ab 3 ?_
 refine Af rfl (Ba zeroValue219) fun E=>Af rfl (A0 E 0 0 0 [iV .u64 a,iV .u64 k] sizeOf219 rfl rfl) fun _=>?_
 refine Ai<|W.s<|C5 [(0,true),(1,true),(2,true),(3,true),(4,false),(5,false),(6,false),(7,true),(8,true),(9,false),(10,false)] [0,1,2,3,7,8]<|Bs 5 [(2,0),(0,0)] ?_
 refine Ec (v:=Value.tuple #[nV .i64 (Il X2 (a,k)),bV ((decide<|((Il X2 (a,k):Nat):Int)<(X2.length:Int))&&((Oj (X2.getD (Il X2 (a,k)) (0,0)) (a,k))==0))]) rfl (A8 fun i e=>(let F:=Kl (e.pick [1] An rfl);Np F<|Aol X2 (a,k) x _ i F o Ae l))<|Bs 5 []<|Cl<|B3 [(0,true),(1,true),(2,true),(3,true),(4,true),(5,true),(6,false),(7,false),(8,false),(9,false),(10,false),(11,false)] [0,1,2,3,4,5] (Mem w M [[cb E [iV .u64 a,iV .u64 k] 219],[cb d [sV x X2.length] 150]]) Aa Aa Aa rfl Aa (fun _ _ A=>A.drawn _) (fun _ A=>A.pick [0,2] An rfl) ?_
 refine Wd.mp 7 [(1,0),(0,0)] [0,2]<|Cj rfl rfl (Bj (mk:=fun L=>.slice (some ⟨L,0,none⟩) 1 1) (t:=219) (cs:=[iV .u64 a,iV .u64 k]) rfl fun _=>kr) (Az [1,3]) fun B=>?_
 obtain⟨h,c⟩: ∃Z,X2.take (Il X2 (a,k))++(a,k)::X2.drop (Il X2 (a,k))=Z:=⟨_,rfl⟩
 refine Ca rfl rfl (Au [2,0] [1,3] fun i e f=>(Akw x X2 h (a,k) B (Il X2 (a,k)) _ _ c f o (Ub _ _) Ae)) (Az [1,2]) fun q r=>?_
 obtain⟨u,G⟩:=r
 refine Dh 2 []<|Cj rfl rfl (Bd d 0 2 0 (sV q h.length) sizeOf148 rfl rfl) (.inl Aa) fun _=>?_
 refine Ev ?_
 have H:Kz xs k a=h:=by unfold Kz S0;rw[b];exact c
 show∀i,_→bodyPostM (Cv none) 0 prog Tryz.f91 _ Exit.normal _ i
 exact fun i C=>Ei<|Iv rfl ⟨q,(by rw[H];exact u),rfl,(Mem.cast (by rw[H];rfl)<|C.pick [0,2] An rfl)⟩
theorem Aky(w:World):Calls prog 29 #[] w (Bn w (fun _:Nat=>True) (fun b=>.pointer (some ⟨b,0,none⟩)) [] (fun b=>[[cb b [.slice none 0 0] 150]])):=by
 refine Ap (M:=[]) (LL:=[]) (n:=3) func29 rfl rfl A7 (Mem.refl _)<|Aj []<|Av<|Ab 1 ?_
 refine Af rfl (Bx [sL none 0 0] rfl) fun d=>Ab 1<|Ai<|Am rfl<|D9 rfl (Ar<|pV d 0) fun e c=>⟨d,trivial,rfl,(c.pick [0] An rfl)⟩
def Ml(f:Nat→Bool):Nat→Nat
  |0=>0
  |k+1=>Ml f k+(bif f k then 2^k else 0)
theorem Ry(f:Nat→Bool): ∀n,Ml f n<2^n
  |0=>by simp[Ml]
  |n+1=>by
    have:=Ry f n
    rw[Ml,Nat.pow_succ]
    cases f n<;>simp only[cond_true,cond_false]<;>omega
theorem Ol(f:Nat→Bool): ∀n k,(Ml f n).testBit k=(decide (k<n)&&f k)
  |0,k=>by simp[Ml]
  |n+1,k=>by
    have d:=Ry f n
    have b:=Ol f n k
    rw[Ml]
    cases c:f n with
    |false=>
      simp only[cond_false,Nat.add_zero,b]
      by_cases h:k=n
      · subst h;simp[c]
      · rw[show decide (k<n+1)=decide (k<n) by simp;omega]
    |true=>
      simp only[cond_true]
      rw[Nat.add_comm]
      rcases Nat.lt_trichotomy k n with h|h|h
      · rw[Nat.testBit_two_pow_add_gt h,b,decide_eq_true h,decide_eq_true (Nat.lt_succ_of_lt h)]
      · subst h
        rw[Nat.testBit_two_pow_add_eq,b];simp[c]
      · rw[Nat.testBit_lt_two_pow (Nat.lt_of_lt_of_le (m:=2^(n+1)) (by rw[Nat.pow_succ];omega) (Nat.pow_le_pow_right An h))]
        simp;omega
def wd(T:Nat→Bool)(i:Nat):Nat:=Ml (fun k=>T (64*i+k)) 64
theorem Nv(T:Nat→Bool)(i:Nat):wd T i<18446744073709551616:=Ry _ 64
theorem Lj{T:Nat→Bool}{i k:Nat}(h:k<64):(wd T i).testBit k=T (64*i+k):=by
  unfold wd;rw[Ol,decide_eq_true h,Bool.true_and]
theorem Ta{T:Nat→Bool}{i k:Nat}(h:64≤k):(wd T i).testBit k=false:=by
  unfold wd;rw[Ol,decide_eq_false Ae,Bool.false_and]
def up(T:Nat→Bool)(p:Nat)(v:Bool):Nat→Bool:=fun q=>bif q==p then v else T q
theorem L7(T:Nat→Bool)(p:Nat)(v:Bool):up T p v p=v:=by simp[up]
theorem Im(T:Nat→Bool){p q:Nat}(v:Bool)(h:q≠p):up T p v q=T q:=by unfold up;rw[show(q==p)=false from beq_eq_false_iff_ne.2 h];rfl
def wsC(T:Nat→Bool):List Value:=(List.range 1024).map (fun i=>Value.int .u64 (wd T i:Int))
def F5(T:Nat→Bool)(n:Int):List Value:=wsC T++[Value.int .i64 n]
theorem Gl(T:Nat→Bool):(wsC T).length=1024:=by unfold wsC;rw[List.length_map,List.length_range]
theorem Pu(T:Nat→Bool)(n:Int):(F5 T n).length=1025:=by unfold F5;rw[List.length_append,Gl];rfl
theorem Nw{T:Nat→Bool}{i:Nat}(h:i<1024):(wsC T)[i]? =some (.int .u64 (wd T i:Int)):=by
  unfold wsC;rw[List.getElem?_map,List.getElem?_range h];rfl
theorem Ag4{T:Nat→Bool}{n:Int}{i:Nat}(h:i<1024):(F5 T n)[i]? =some (.int .u64 (wd T i:Int)):=by
  unfold F5;rw[List.getElem?_append_left (by rw[Gl];exact h),Nw h]
theorem Nx{T:Nat→Bool}{n:Int}{i:Nat}(h:i<1024):(F5 T n)[i*1]? =some (.int .u64 (wd T i:Int)):=by rw[Nat.mul_one];exact Ag4 h
theorem Y6(T:Nat→Bool)(n:Int):(F5 T n)[1024]? =some (.int .i64 n):=by
  unfold F5;rw[List.getElem?_append_right (by rw[Gl];exact Nat.le_refl _),Gl];rfl
theorem V5{T:Nat→Bool}{p i:Nat}(v:Bool)(h:i≠p/64):wd (up T p v) i=wd T i:=by
  refine Nat.eq_of_testBit_eq fun k=>?_
  by_cases b:k<64
  · rw[Lj b,Lj b,Im _ _ Ae]
  · rw[Ta Ae,Ta Ae]
theorem Y7{T:Nat→Bool}{n:Int}{p:Nat}(v:Bool)(c:p<65536):(F5 T n).set (p/64*1) (.int .u64 (wd (up T p v) (p/64):Int))=F5 (up T p v) n:=by
  unfold F5
  rw[Nat.mul_one,List.set_append_left _ _ (by rw[Gl];omega)]
  congr 1
  apply List.ext_getElem?
  intro i
  rw[List.getElem?_set]
  by_cases b:i<1024
  · rw[Nw b]
    by_cases h:p/64=i
    · subst h;rw[if_pos rfl,if_pos (by rw[Gl];exact b),Nw b]
    · rw[if_neg h,Nw b,V5 v (fun e=>h e.symm)]
  · rw[if_neg Ae,List.getElem?_eq_none (by rw[Gl];omega),List.getElem?_eq_none (by rw[Gl];omega)]
theorem V6(T:Nat→Bool)(n m:Int):(F5 T n).set 1024 (.int .i64 m)=F5 T m:=by
  unfold F5
  rw[List.set_append_right _ _ (by rw[Gl];exact Nat.le_refl _),Gl];rfl
theorem Aqr(p:Nat):64*(p/64)+p%64=p:=Nat.div_add_mod p 64
theorem Ag5{T:Nat→Bool}{p:Nat}:(((wd T (p/64)/2^(p%64)%2:Nat):Int)==1)=T p:=by
  have h:=Lj (T:=T) (i:=p/64) (k:=p%64) (Nat.mod_lt _ An)
  rw[Aqr,Nat.testBit_eq_decide_div_mod_eq]at h
  rw[←h,Bool.eq_iff_iff,beq_iff_eq,decide_eq_true_eq]
  omega
theorem V7{k:Nat}(h:k<64):Jb .u64 1 (k:Int)=((2^k:Nat):Int):=by
  have:=Hf (k:=.u64) rfl 1 k (by show k≤64;omega)
  rw[Nat.one_mul]at this
  exact this.trans<|congrArg (fun n:Nat=>(n:Int))<|Nat.mod_eq_of_lt<|Nat.pow_lt_pow_right An h
theorem Aom{T:Nat→Bool}{p:Nat}:wd T (p/64)|||2^(p%64)=wd (up T p true) (p/64):=by
  have c:=Nat.mod_lt p (show 0<64 by decide)
  refine Nat.eq_of_testBit_eq fun k=>?_
  rw[Nat.testBit_or,Nat.testBit_two_pow]
  by_cases b:k<64
  · rw[Lj b,Lj b]
    by_cases h:p%64=k
    · rw[show 64*(p/64)+k=p by omega,L7];simp[h]
    · rw[Im _ _ Ae];simp[h]
  · rw[Ta Ae,Ta Ae];simp;omega
theorem Aae{x k:Nat}(c:x<18446744073709551616)(d:k<64): ∃y:Nat,Yh .u64 (x:Int) ((2^k:Nat):Int)=(y:Int)∧y<18446744073709551616∧ ∀j,y.testBit j=(x.testBit j&& !decide (k=j)):=by
  have f:(2:Nat)^k<2^64:=Nat.pow_lt_pow_right An d
  refine⟨(BitVec.ofNat 64 x&&& ~~~BitVec.ofNat 64 (2^k)).toNat,?_,(BitVec.isLt _),fun j=>?_⟩
  · unfold Yh
    show IntKind.u64.wrap _=_
    rw[show BitVec.ofInt IntKind.u64.bits (x:Int)=BitVec.ofNat 64 x from BitVec.ofInt_natCast 64 x,show BitVec.ofInt IntKind.u64.bits ((2^k:Nat):Int)=BitVec.ofNat 64 (2^k) from BitVec.ofInt_natCast 64 (2^k)]
    rw[Fe rfl]
    congr 1
    exact Nat.mod_eq_of_lt<|BitVec.isLt _
  · rw[←BitVec.getLsbD,BitVec.getLsbD_and,BitVec.getLsbD_not]
    simp only[BitVec.getLsbD,BitVec.toNat_ofNat,Nat.testBit_mod_two_pow,Nat.testBit_two_pow]
    by_cases b:j<64
    · simp[b]
    · have e:x.testBit j=false:=Nat.testBit_lt_two_pow (Nat.lt_of_lt_of_le c (Nat.pow_le_pow_right (n:=2) An (show 64≤j by omega)))
      simp[b,e]
theorem Ag6{T:Nat→Bool}{p:Nat}:Yh .u64 (wd T (p/64):Int) ((2^(p%64):Nat):Int)=(wd (up T p false) (p/64):Int):=by
  have c:=Nat.mod_lt p (show 0<64 by decide)
  obtain⟨y,d,f,e⟩:=Aae (Nv T (p/64)) c
  rw[d]
  congr 1
  refine Nat.eq_of_testBit_eq fun k=>?_
  rw[e]
  by_cases b:k<64
  · rw[Lj b,Lj b]
    by_cases h:p%64=k
    · rw[show 64*(p/64)+k=p by omega,L7];simp[h]
    · rw[Im _ _ Ae];simp[h]
  · rw[Ta Ae,Ta Ae];simp
def tzr:Nat→Nat→Nat
  |0,_=>0
  |f+1,x=>if x%2=1 then 0 else 1+tzr f (x/2)
def tz(x:Nat):Nat:=tzr 64 x
theorem V8: ∀(f x:Nat),0<x→x<2^f→tzr f x<f∧x.testBit (tzr f x)=true∧ ∀j,j<tzr f x→x.testBit j=false
  |0,x,h0,h=>by simp at h;omega
  |f+1,x,h0,h=>by
    unfold tzr
    split
    · rename_i d
      exact⟨Nat.succ_pos _,by rw[Nat.testBit_zero];simp[d],fun j e=>absurd e<|Nat.not_lt_zero _⟩
    · rename_i d
      obtain⟨a,b,c⟩:=V8 f (x/2) Ae (by rw[Nat.pow_succ]at h;omega)
      refine⟨by omega,by rw[Nat.add_comm,Nat.testBit_succ];exact b,fun j e=>?_⟩
      match j with
      |0=>rw[Nat.testBit_zero];simp;omega
      |j+1=>rw[Nat.testBit_succ];exact c j Ae
theorem Ud{x:Nat}(b:0<x)(h:x<18446744073709551616):tz x<64∧x.testBit (tz x)=true∧ ∀j,j<tz x→x.testBit j=false:=V8 64 x b h
theorem Y8: ∀(f x:Nat),0<x→x<2^f→x&&&(2^f-x)=2^tzr f x
  |0,x,h0,h=>by simp at h;omega
  |f+1,x,h0,h=>by
    unfold tzr
    split
    · rename_i b
      refine Nat.eq_of_testBit_eq fun k=>?_
      rw[Nat.testBit_and,Nat.testBit_two_pow]
      have e:2^(f+1)-x=2^(f+1)-((x-1)+1):=by omega
      rw[e,Nat.testBit_two_pow_sub_succ Ae]
      match k with
      |0=>rw[Nat.testBit_zero,Nat.testBit_zero];simp[b];try omega
      |k+1=>
        rw[Nat.testBit_succ,Nat.testBit_succ,show(x-1)/2=x/2 by omega]
        cases(x/2).testBit k<;>simp
    · rename_i b
      have c:=Y8 f (x/2) Ae (by rw[Nat.pow_succ]at h;omega)
      have g:x=2*(x/2):=by omega
      have d:2^(f+1)-x=2*(2^f-x/2):=by rw[Nat.pow_succ];omega
      rw[d,Nat.pow_add,Nat.pow_one,←c]
      refine Nat.eq_of_testBit_eq fun k=>?_
      match k with
      |0=>rw[Nat.testBit_and,Nat.testBit_zero,Nat.testBit_zero,Nat.testBit_zero];simp
      |k+1=>
        rw[Nat.testBit_and,Nat.testBit_succ,Nat.testBit_succ,Nat.testBit_succ,Nat.mul_div_cancel_left _ An,Nat.mul_div_cancel_left _ An,Nat.testBit_and]
def nfr(T:Nat→Bool):Nat→Nat→Nat
  |0,p=>p
  |f+1,p=>bif T p then nfr T f (p+1)else p
def nf(T:Nat→Bool)(p:Nat):Nat:=nfr T (65536-p) p
theorem Ue{T:Nat→Bool}{p:Nat}(h:p<65536)(b:T p=true):nf T p=nf T (p+1):=by
  unfold nf;rw[show 65536-p=(65536-(p+1))+1 by omega,nfr,b];rfl
theorem Pv{T:Nat→Bool}{p:Nat}(h:p<65536)(b:T p=false):nf T p=p:=by
  unfold nf;rw[show 65536-p=(65536-(p+1))+1 by omega,nfr,b];rfl
theorem Acr{T:Nat→Bool}{p:Nat}(h:65536≤p):nf T p=p:=by
  unfold nf;rw[show 65536-p=0 by omega];rfl
theorem Uf{T:Nat→Bool}{p:Nat}: ∀k,p+k≤65536→(∀j,j<k→T (p+j)=true)→nf T p=nf T (p+k)
  |0,_,_=>rfl
  |k+1,h,ht=>by
    rw[Uf k Ae (fun j b=>ht j Ae),Ue Ae (ht k Ae)];rfl
theorem Ajn{T:Nat→Bool}: ∀(f p:Nat),65536-p=f→p≤65536→nf T p≤65536∧p≤nf T p∧(nf T p<65536→T (nf T p)=false)∧(nf T p=65536→ ∀q,p≤q→q<65536→T q=true)
  |0,p,h,hp=>by
    obtain rfl:p=65536:=by omega
    rw[Acr (Nat.le_refl _)]
    exact⟨Nat.le_refl _,Nat.le_refl _,fun h=>absurd h<|Nat.lt_irrefl _,fun _ q j i=>by omega⟩
  |f+1,p,h,hp=>by
    cases g:T p with
    |false=>rw[Pv Ae g];exact⟨hp,Nat.le_refl _,fun _=>g,fun e=>by omega⟩
    |true=>
      rw[Ue Ae g]
      obtain⟨a,b,c,d⟩:=Ajn f (p+1) Ae Ae
      exact⟨a,by omega,c,fun e q j i=>by
        by_cases l:q=p
        · subst l;exact g
        · exact d e q Ae i⟩
theorem Ug(T:Nat→Bool){p:Nat}(b:p≤65536):nf T p≤65536∧p≤nf T p∧(nf T p<65536→T (nf T p)=false)∧(nf T p=65536→ ∀q,p≤q→q<65536→T q=true):=Ajn _ p rfl b
theorem Y9{T:Nat→Bool}{w s x:Nat}(hw:w<1024)(l:s<64)(g:x<18446744073709551616)(c: ∀k,k<64→x.testBit k=(decide (s≤k)&& !T (64*w+k))):
    (x≠0→nf T (64*w+s)=64*w+tz x∧tz x<64)∧(x=0→nf T (64*w+s)=nf T (64*(w+1))):=by
  constructor
  · intro d
    obtain⟨e,f,h⟩:=Ud Ae g
    rw[c _ e,Bool.and_eq_true,decide_eq_true_eq,Bool.not_eq_true']at f
    refine⟨?_,e⟩
    rw[Uf (tz x-s) Ae (fun j i=>?_),show 64*w+s+(tz x-s)=64*w+tz x by omega,Pv Ae f.2]
    have b:=h (s+j) Ae
    rw[c _ Ae,decide_eq_true Ae,Bool.true_and,Bool.not_eq_false']at b
    rw[show 64*w+s+j=64*w+(s+j) by omega];exact b
  · intro d
    rw[Uf (64-s) Ae (fun j i=>?_),show 64*w+s+(64-s)=64*(w+1) by omega]
    have b:=c (s+j) Ae
    rw[d,Nat.zero_testBit,decide_eq_true Ae,Bool.true_and]at b
    rw[show 64*w+s+j=64*w+(s+j) by omega]
    simpa using b.symm
theorem Za{T:Nat→Bool}{w k:Nat}(b:k<64):(18446744073709551615-wd T w).testBit k= !T (64*w+k):=by
  have:=Nat.testBit_two_pow_sub_succ (n:=64) (Nv T w) k
  rw[Lj b,decide_eq_true b,Bool.true_and]at this
  rw[←this];congr 1;have:=Nv T w;omega
theorem Acs{s k:Nat}(b:s<64)(c:k<64):(18446744073709551616-2^s).testBit k=decide (s≤k):=by
  have d:(2:Nat)^s<2^64:=Nat.pow_lt_pow_right An b
  have f:=Nat.two_pow_pos s
  have e:18446744073709551616-2^s=2^64-((2^s-1)+1):=by omega
  rw[e,Nat.testBit_two_pow_sub_succ Ae,decide_eq_true c,Nat.testBit_two_pow_sub_one,Bool.true_and]
  by_cases h:s≤k
  · rw[decide_eq_true h,decide_eq_false Ae];rfl
  · rw[decide_eq_false h,decide_eq_true Ae];rfl
theorem Aaf{s:Nat}(b:s<64):Jb .u64 18446744073709551615 (s:Int)=((18446744073709551616-2^s:Nat):Int):=by
  have:=Hf (k:=.u64) rfl 18446744073709551615 s (by show s≤64;omega)
  refine this.trans<|congrArg (fun n:Nat=>(n:Int)) ?_
  have c:(2:Nat)^s<2^64:=Nat.pow_lt_pow_right An b
  have f:=Nat.two_pow_pos s
  show 18446744073709551615*2^s%2^64=_
  have e:18446744073709551615*2^s=(18446744073709551616-2^s)+2^64*(2^s-1):=by
    obtain⟨m,d⟩: ∃m,2^s=m+1:=⟨2^s-1,by omega⟩
    rw[d]at c⊢;omega
  rw[e,Nat.add_mul_mod_self_left,Nat.mod_eq_of_lt Ae]
def dbt:List UInt8:=[0,1,56,2,57,49,28,3,61,58,42,50,38,29,17,4,62,47,59,36,45,43,51,22,53,39,33,30,24,18,12,5,63,55,48,27,60,41,37,16,46,35,44,21,52,32,23,11,54,26,40,15,34,20,31,10,25,14,19,9,13,8,7,6]
theorem Ag7:dbt.length=64:=by decide
theorem Ag8:(List.range 64).all (fun k=>(dbt.getD ((2^k*285870213051353865)%18446744073709551616/288230376151711744) 0).toNat==k)=true:=by decide+kernel
theorem Ag9{k:Nat}(h:k<64):(dbt.getD ((2^k*285870213051353865)%18446744073709551616/288230376151711744) 0).toNat=k:=by
  have:=List.all_eq_true.1 Ag8 k (List.mem_range.2 h)
  simpa using this
theorem Aha{x:Nat}(b:0<x)(h:x<18446744073709551616):Hp .u64 0 (x:Int)=((18446744073709551616-x:Nat):Int):=by
  unfold Hp IntKind.wrap
  simp only[IntKind.signed,IntKind.bits,Bool.false_and]
  rw[if_neg A7]
  omega
theorem Ak0{x:Nat}(b:0<x)(h:x<18446744073709551616):x&&&(18446744073709551616-x)=2^tz x:=Y8 64 x b h
theorem Aon(t:Nat):(2^t*285870213051353865)%18446744073709551616/288230376151711744<64:=by
  have:=Nat.mod_lt (2^t*285870213051353865) (show 0<18446744073709551616 by decide)
  omega
theorem Aoo(x:Nat)(w:World)(f:At w (some ⟨0,0,none⟩) (Cx dbt))(j:0<x)(l:x<18446744073709551616):Calls prog 181 #[nV .u64 x] w (Df w (.int .i64 (tz x:Int))):=by
 obtain⟨d,c⟩: ∃z:Nat,z=2^tz x:=⟨_,rfl⟩;have D:=Ag7;have g:=Aon (tz x);rw[←c]at g;have t:d<18446744073709551616:=(by rw[c];exact Nat.lt_of_lt_of_le (Nat.pow_lt_pow_right (n:=64) An (Ud j l).1) An);obtain⟨b,e⟩: ∃q:Nat,q=d*285870213051353865%18446744073709551616/288230376151711744:=⟨_,rfl⟩;rw[←e]at g
 refine Ap (M:=[]) (LL:=[]) (n:=14) func181 rfl rfl A7 (Mem.refl _)<|Aj []<|W.s<|Aj [] ?_
 refine Ak (((x:Nat):Int)==0) Aa (fun u=>?_) fun A=>?_
 ·have h:=u;try simp only[zA]at h
  exact absurd h Ae
 ·have o:=A;try simp only[zA]at o
  refine Ag<|A9<|Av<|Ab 2 ?_
  refine Ao (v:=nV .u64<|18446744073709551616-x) ((Ys.p (v:=iV .u64<|Hp .u64 0 (x:Int))).conseq<|Ad<|Aha j l)<|Ao (v:=nV .u64 d) (Ys.conseq (v:=nV .u64<|x&&&(18446744073709551616-x)) (Ad<|congrArg (fun n:Nat=>(n:Int))<|(Ak0 j l).trans c.symm)<|(Ys.p (v:=.int .u64<|Dw .u64 (x:Int) ((18446744073709551616-x:Nat):Int))).conseq<|Ad<|Rl rfl K4 K4)<|Ao (v:=nV .u64<|(d*285870213051353865)%18446744073709551616) ((Ys.p (v:=.int .u64<|Ng .u64 (d:Int) ((285870213051353865:Nat):Int))).conseq<|Ad<|Vr rfl)<|Ao (v:=nV .u64 b) (Ys.conseq (v:=nV .u64<|((d*285870213051353865)%18446744073709551616)/288230376151711744) (Ad<|congrArg (fun n:Nat=>(n:Int)) e.symm)<|(Ys.p (v:=.int .u64<|Ib .u64 (((d*285870213051353865)%18446744073709551616:Nat):Int) ((58:Nat):Int))).conseq<|Ad<|Fc ((d*285870213051353865)%18446744073709551616) 58 An)<|Ao (v:=pL<|some ⟨0,b*1,none⟩) ((Dt (k:=.u64) (i:=(b:Int)) (sz:=1) rfl Aa Aa runUnderlying298 sizeOf5 Ae Ae).conseq<|by rw[Nat.zero_add];try rfl) ?_
  refine Ao (v:=nV .u8<|(dbt.getD b 0).toNat) (Ys.ld (a:=⟨0,b*1,none⟩) rfl Aa isAgg5 fun E B=>by have r:=(f.mem0 B).ld (q:=b*1) (Gi 0 Ae);rw[Be]at r;exact r) ?_
  have C:(dbt.getD b 0).toNat<256:=UInt8.toNat_lt _
  refine Ao (v:=nV .i64<|(dbt.getD b 0).toNat) ((Ys.p (v:=.int .i64<|Ct .i64 ((dbt.getD b 0).toNat:Int))).conseq<|Ad<|Dg Ae Ae)<|Ab 1<|Ai<|Am rfl<|D7 rfl (Ar<|nV .i64<|(dbt.getD b 0).toNat)<|by rw[e,c];exact Ad (congrArg (fun n:Nat=>(n:Int))<|Ag9 (Ud j l).1)
theorem Ajo(T:Nat→Bool)(n:Int)(b p:Nat)(w:World)(d:At w (some ⟨b,0,none⟩) (F5 T n))(l:p<65536):Calls prog 119 #[pV b 0,nV .u16 p] w (Df w (.bool (T p))):=by
 have e:=Nv T (p/64);have g:=Nat.lt_of_le_of_lt (Nat.div_le_self (wd T (p/64)) (2^(p%64))) e;have h:=Nat.mod_lt p (show 0<64 by decide)
 refine Ap (M:=[]) (LL:=[]) (n:=17) func119 rfl rfl A7 (Mem.refl _)<|Aj []<|Av<|Ab 2 ?_
 refine Ao (v:=nV .u16<|p/64) ((Ys.p (v:=.int .u16<|Pc .u16 (p:Int) ((64:Nat):Int))).conseq<|Ad<|Jl rfl Jg)<|Ab 2<|Ao (v:=pL<|some ⟨b,(p/64)*1,none⟩) ((Dt (k:=.u16) (i:=((p/64:Nat):Int)) (sz:=1) rfl Aa Aa runUnderlying228 sizeOf45 Ae Ae).conseq<|by rw[Nat.zero_add];try rfl)<|Ao (v:=nV .u64<|wd T<|p/64) (Ys.ld (a:=⟨b,(p/64)*1,none⟩) rfl Aa isAgg45 fun o j=>by have f:=(d.mem0 j).ld (q:=(p/64)*1) (Nx Ae);rw[Be]at f;exact f)<|Ab 1 ?_
 refine Ao (v:=nV .u16<|p%64) ((Ys.p (v:=.int .u16<|Hw (p:Int) ((64:Nat):Int))).conseq<|Ad rfl)<|Ao (v:=nV .u64<|wd T (p/64)/2^(p%64)) (Ys.conseq (v:=iV .u64<|Ib .u64 (wd T (p/64):Int) ((p%64:Nat):Int)) (Ad<|Fc _ _ (by show _≤64;omega))<|Tw (k:=.u64) (k':=.u16) (a:=(wd T (p/64):Int)) (b:=((p%64:Nat):Int)) rfl Aa Aa Ae)<|Ao (v:=nV .u64<|(wd T (p/64)/2^(p%64))%2) ((Ys.p (v:=.int .u64<|Dw .u64 ((wd T (p/64)/2^(p%64):Nat):Int) ((1:Nat):Int))).conseq<|Ad<|H3 rfl (a:=wd T (p/64)/2^(p%64)) (c:=1) K4 An 1 rfl)<|Ao (v:=bV<|T p) ((Ys.p (v:=bV<|(((wd T (p/64)/2^(p%64))%2:Nat):Int)==1)).conseq<|B2 Ag5)<|Ab 1 ?_
 refine Ai<|Am rfl<|D7 rfl (Ar<|bV<|T p) rfl
def Ww(T:Nat→Bool)(p:Nat):Bool:= !(decide (p<1024)||T p)
def Pw(T:Nat→Bool)(p:Nat):Nat→Bool:=bif Ww T p then up T p true else T
def tkN(T:Nat→Bool)(p:Nat)(n:Int):Int:=bif Ww T p then n+1 else n
def gvT(T:Nat→Bool)(p:Nat):Nat→Bool:=bif T p then up T p false else T
def gvN(T:Nat→Bool)(p:Nat)(n:Int):Int:=bif T p then n-1 else n
theorem Uh(T:Nat→Bool)(n:Int)(b p:Nat)(w:World)(C:Mem w [b] [[cb b (F5 T n) 230]] w)(H:p<65536)(D: -1000000000000≤n)(E:n≤1000000000000):Calls prog 70 #[pV b 0,nV .u16 p] w (Bn w (fun _:Unit=>True) (fun _=>.bool (Ww T p)) [b] (fun _=>[[cb b (F5 (Pw T p) (tkN T p n)) 230]])):=by
 have l:=Nv T (p/64);have F:=Nat.lt_of_le_of_lt (Nat.div_le_self (wd T (p/64)) (2^(p%64))) l;have f:=Nat.mod_lt p (show 0<64 by decide);have G:(2:Nat)^(p%64)<18446744073709551616:=Nat.lt_of_lt_of_le (Nat.pow_lt_pow_right (n:=64) An f) An
 refine Ap (M:=[b]) (LL:=[[cb b (F5 T n) 230]]) (n:=33) func70 rfl rfl A7 (C)<|Aj []<|W.s<|Av ?_
 refine Ab 3<|C1 3 (decide<|((p:Nat):Int)<1024) (fun o=>by have g:=o;try simp only[zA]at g;exact Gs.m 2 [] (Gs.k (v:=bV<|T p) (A8 fun x q=>Ajo T n b p _ (A4 (i:=0) (j:=0) (t:=230) (b:=b) q rfl rfl) Ae) Gs.nil))<|Ao (v:=bV<|(decide<|((p:Nat):Int)<1024)||(T p)) (Ce (e:=decide<|((p:Nat):Int)<1024) (b:=T p) rfl Aa Aa Aa)<|Ai ?_
 refine Ak ((decide<|((p:Nat):Int)<1024)||(T p)) Aa (fun A=>?_) fun B=>?_
 ·have r:=A;try simp only[zA]at r
  refine Aj []<|Am rfl ?_
  have h:Ww T p=false:=by unfold Ww;rw[show(decide (p<1024)||T p)=true from ?_];rfl;have c:=A;first|exact c|(rw[←c];congr 1;exact decide_eq_decide.2 Ae)
  exact D9 rfl (Ar<|bV false) fun x d=>⟨(),trivial,Eo<|(by rw[h]),(Mem.cast (by unfold Pw tkN;rw[h];rfl) d)⟩
 ·have u:=B;try simp only[zA]at u
  refine Ag<|A9<|W.s<|C5 [(0,true),(1,true),(2,true),(3,true),(4,true),(5,true),(6,true),(7,true),(8,true),(9,true),(10,true),(11,false),(12,false),(13,false),(14,false)] [0,1,2,3,4,5,6,7,8,9,10]<|B5 2 ?_
  refine Bm (v:=nV .u16<|p/64) rfl ((Ys.p (v:=.int .u16<|Pc .u16 (p:Int) ((64:Nat):Int))).conseq<|Ad<|Jl rfl Jg)<|B5 2<|Bm (v:=pL<|some ⟨b,(p/64)*1,none⟩) rfl ((Dt (k:=.u16) (i:=((p/64:Nat):Int)) (sz:=1) rfl Aa Aa runUnderlying228 sizeOf45 Ae Ae).conseq<|by rw[Nat.zero_add];try rfl)<|Bm rfl (Bf (b:=b) (o':=(p/64)*1) (i:=0) (j:=0) (cs:=F5 T n) (v:=nV .u64<|wd T<|p/64) rfl Aa isAgg45 rfl rfl<|Nx Ae)<|B5 1 ?_
  refine Bm (v:=nV .u16<|p%64) rfl ((Ys.p (v:=.int .u16<|Hw (p:Int) ((64:Nat):Int))).conseq<|Ad rfl)<|Bm (v:=nV .u64<|2^(p%64)) rfl (Ys.conseq (v:=iV .u64<|Jb .u64 1 ((p%64:Nat):Int)) (Ad<|V7 f)<|W8 (k:=.u64) (k':=.u16) (a:=1) (b:=((p%64:Nat):Int)) rfl Aa Aa Ae)<|Bm (v:=nV .u64<|wd (up T p true)<|p/64) rfl (Ys.conseq (v:=nV .u64<|(wd T<|p/64)|||(2^(p%64))) (Ad<|congrArg (fun n:Nat=>(n:Int)) Aom)<|(Ys.p (v:=.int .u64<|bor .u64 (wd T (p/64):Int) ((2^(p%64):Nat):Int))).conseq<|Ad<|Kg rfl K4 K4)<|Bs 2 []<|Wd.yc (v:=pL<|some ⟨b,(p/64)*1,none⟩) rfl rfl rfl (Ys.yc<|(Dt (k:=.u16) (i:=((p/64:Nat):Int)) (sz:=1) rfl Aa Aa runUnderlying228 sizeOf45 Ae Ae).conseq<|by rw[Nat.zero_add];try rfl) (.inl Aa) ?_
  refine Cj rfl rfl (Es (b:=b) (o':=(p/64)*1) (i:=0) (j:=0) (cs:=F5 T n) (cs':=F5 (up T p true) n) (v:=nV .u64<|wd (up T p true)<|p/64) (LL':=[[cb b (F5 (up T p true) n) 230]]) rfl rfl Aa Aa sizeOf45 rfl rfl rfl (by rw[Pu];omega) (Y7 true Ae) rfl) (.inl Aa) fun _=>Cl<|Av ?_
  refine Ab 3<|Ao (Bf (b:=b) (o':=1024) (i:=0) (j:=0) (cs:=F5 (up T p true) n) (v:=iV .i64 n) rfl Aa isAgg3 rfl rfl<|Y6 _ _)<|Bw (n+1) n 1<|Ab 2<|Af rfl (Es (b:=b) (o':=1024) (i:=0) (j:=0) (cs:=F5 (up T p true) n) (cs':=F5 (up T p true)<|n+1) (v:=iV .i64<|n+1) (LL':=[[cb b (F5 (up T p true)<|n+1) 230]]) rfl rfl Aa Aa sizeOf3 rfl rfl rfl (by rw[Pu];decide) (V6 _ _ _) rfl) fun _=>?_
  refine Ai<|Aj []<|Am rfl ?_
  have h:Ww T p=true:=by unfold Ww;rw[show(decide (p<1024)||T p)=false from ?_];rfl;have c:=B;first|exact c|(rw[←c];congr 1;exact decide_eq_decide.2 Ae)
  exact D9 rfl (Ar<|bV true) fun x d=>⟨(),trivial,Eo<|(by rw[h]),(Mem.cast (by unfold Pw tkN;rw[h];rfl) d)⟩
theorem Ak2(T:Nat→Bool)(n:Int)(b p:Nat)(w:World)(o:Mem w [b] [[cb b (F5 T n) 230]] w)(C:p<65536)(q: -1000000000000≤n)(r:n≤1000000000000):Calls prog 83 #[pV b 0,nV .u16 p] w (Bn w (fun _:Unit=>True) (fun _=>.bool (T p)) [b] (fun _=>[[cb b (F5 (gvT T p) (gvN T p n)) 230]])):=by
 have g:=Nv T (p/64);have u:=Nat.lt_of_le_of_lt (Nat.div_le_self (wd T (p/64)) (2^(p%64))) g;have e:=Nat.mod_lt p (show 0<64 by decide);have x:(2:Nat)^(p%64)<18446744073709551616:=Nat.lt_of_lt_of_le (Nat.pow_lt_pow_right (n:=64) An e) An
 refine Ap (M:=[b]) (LL:=[[cb b (F5 T n) 230]]) (n:=30) func83 rfl rfl A7 (o)<|Aj []<|W.s<|Av ?_
 refine Ab 2<|Cb (v:=bV<|T p) (A8 fun l h=>Ajo T n b p _ (A4 (i:=0) (j:=0) (t:=230) (b:=b) h rfl rfl) Ae)<|Ab 1<|Ai ?_
 refine Ak (!(T p)) Aa (fun A=>?_) fun B=>?_
 ·refine Aj []<|Am rfl ?_
  have f:T p=false:=by have c:=A;revert c;cases T p<;>simp
  exact D9 rfl (Ar<|bV false) fun l d=>⟨(),trivial,Eo<|(by rw[f]),(Mem.cast (by unfold gvT gvN;rw[f];rfl) d)⟩
 ·refine Ag<|A9<|W.s<|C5 [(0,true),(1,true),(2,true),(3,true),(4,true),(5,true),(6,true),(7,true),(8,true),(9,true),(10,true),(11,false),(12,false),(13,false),(14,false)] [0,1,2,3,4,5,6,7,8,9,10]<|B5 2 ?_
  refine Bm (v:=nV .u16<|p/64) rfl ((Ys.p (v:=.int .u16<|Pc .u16 (p:Int) ((64:Nat):Int))).conseq<|Ad<|Jl rfl Jg)<|B5 2<|Bm (v:=pL<|some ⟨b,(p/64)*1,none⟩) rfl ((Dt (k:=.u16) (i:=((p/64:Nat):Int)) (sz:=1) rfl Aa Aa runUnderlying228 sizeOf45 Ae Ae).conseq<|by rw[Nat.zero_add];try rfl)<|Bm rfl (Bf (b:=b) (o':=(p/64)*1) (i:=0) (j:=0) (cs:=F5 T n) (v:=nV .u64<|wd T<|p/64) rfl Aa isAgg45 rfl rfl<|Nx Ae)<|B5 1 ?_
  refine Bm (v:=nV .u16<|p%64) rfl ((Ys.p (v:=.int .u16<|Hw (p:Int) ((64:Nat):Int))).conseq<|Ad rfl)<|Bm (v:=nV .u64<|2^(p%64)) rfl (Ys.conseq (v:=iV .u64<|Jb .u64 1 ((p%64:Nat):Int)) (Ad<|V7 e)<|W8 (k:=.u64) (k':=.u16) (a:=1) (b:=((p%64:Nat):Int)) rfl Aa Aa Ae)<|Bm (v:=nV .u64<|wd (up T p false)<|p/64) rfl ((Ys.p (v:=iV .u64<|Yh .u64 (wd T (p/64):Int) ((2^(p%64):Nat):Int))).conseq<|Ad Ag6)<|Bs 2 []<|Wd.yc (v:=pL<|some ⟨b,(p/64)*1,none⟩) rfl rfl rfl (Ys.yc<|(Dt (k:=.u16) (i:=((p/64:Nat):Int)) (sz:=1) rfl Aa Aa runUnderlying228 sizeOf45 Ae Ae).conseq<|by rw[Nat.zero_add];try rfl) (.inl Aa) ?_
  refine Cj rfl rfl (Es (b:=b) (o':=(p/64)*1) (i:=0) (j:=0) (cs:=F5 T n) (cs':=F5 (up T p false) n) (v:=nV .u64<|wd (up T p false)<|p/64) (LL':=[[cb b (F5 (up T p false) n) 230]]) rfl rfl Aa Aa sizeOf45 rfl rfl rfl (by rw[Pu];omega) (Y7 false Ae) rfl) (.inl Aa) fun _=>Cl<|Av ?_
  refine Ab 3<|Ao (Bf (b:=b) (o':=1024) (i:=0) (j:=0) (cs:=F5 (up T p false) n) (v:=iV .i64 n) rfl Aa isAgg3 rfl rfl<|Y6 _ _)<|Ao (v:=iV .i64<|n-1) ((Ys.p (v:=.int .i64<|Hp .i64 n 1)).conseq<|Ad<|Er rfl Ae Ae)<|Ab 2<|Af rfl (Es (b:=b) (o':=1024) (i:=0) (j:=0) (cs:=F5 (up T p false) n) (cs':=F5 (up T p false)<|n-1) (v:=iV .i64<|n-1) (LL':=[[cb b (F5 (up T p false)<|n-1) 230]]) rfl rfl Aa Aa sizeOf3 rfl rfl rfl (by rw[Pu];decide) (V6 _ _ _) rfl) fun _=>?_
  refine Ai<|Aj []<|Am rfl ?_
  have f:T p=true:=by have c:=B;revert c;cases T p<;>simp
  exact D9 rfl (Ar<|bV true) fun l d=>⟨(),trivial,Eo<|(by rw[f]),(Mem.cast (by unfold gvT gvN;rw[f];rfl) d)⟩
def Rz(T:Nat→Bool)(p:Nat):Nat:=if nf T p<65536 then nf T p else 0
theorem Acu{T:Nat→Bool}{b:Nat}:nf T b=nf T (max b (64*(b/64))):=by rw[Nat.max_eq_left Ae]
theorem Ahb{T:Nat→Bool}{b w x:Nat}(hw:w<1024)(i:w=b/64)(d:x=(18446744073709551615-wd T w)&&&(18446744073709551616-2^(b%64)))(j:nf T b=nf T (max b (64*w))):
    x<18446744073709551616∧(x≠0→nf T b=64*w+tz x∧tz x<64)∧(x=0→nf T b=nf T (max b (64*(w+1)))):=by
  have e:=Nat.mod_lt b (show 0<64 by decide)
  have c:x<18446744073709551616:=by rw[d];exact Nat.lt_of_le_of_lt Nat.and_le_left (by have:=Nv T w;omega)
  have h:=Y9 (T:=T) (w:=w) (s:=b%64) (x:=x) hw e c (fun k f=>by
    rw[d,Nat.testBit_and,Za f,Acs e f,Bool.and_comm])
  rw[show 64*w+b%64=b by omega]at h
  refine⟨c,h.1,fun g=>?_⟩
  rw[h.2 g,Nat.max_eq_right Ae]
theorem Ahc{T:Nat→Bool}{b w x:Nat}(hw:w<1024)(i:b/64<w)(d:x=18446744073709551615-wd T w)(e:nf T b=nf T (max b (64*w))):
    x<18446744073709551616∧(x≠0→nf T b=64*w+tz x∧tz x<64)∧(x=0→nf T b=nf T (max b (64*(w+1)))):=by
  have c:x<18446744073709551616:=by rw[d];have:=Nv T w;omega
  have h:=Y9 (T:=T) (w:=w) (s:=0) (x:=x) hw An c (fun k f=>by
    rw[d,Za f,decide_eq_true (Nat.zero_le k),Bool.true_and])
  rw[e,Nat.max_eq_right Ae]
  refine⟨c,h.1,fun g=>?_⟩
  rw[show 64*w=64*w+0 by rfl,h.2 g,Nat.max_eq_right Ae]
theorem Acv{T:Nat→Bool}{b v:Nat}(h:nf T b=v)(c:v<65536):Rz T b=v∧decide (nf T b<65536)=true:=by
  unfold Rz;rw[h,if_pos c];exact⟨rfl,decide_eq_true c⟩
theorem Ak3{T:Nat→Bool}{b:Nat}(h:nf T b=nf T (max b (64*1024)))(c:b<65536):Rz T b=0∧decide (nf T b<65536)=false:=by
  have e:nf T b=65536:=by rw[h,Nat.max_eq_right Ae];exact Acr (Nat.le_refl _)
  unfold Rz;rw[e];exact⟨rfl,rfl⟩
theorem Acw(T:Nat→Bool)(n:Int)(b d:Nat)(w:World)(Q:At w (some ⟨b,0,none⟩) (F5 T n))(A:At w (some ⟨0,0,none⟩) (Cx dbt))(R:d<65536):Calls prog 162 #[pV b 0,nV .i64 d] w (Df w (.tuple #[.int .i64 (Rz T d:Int),.bool (decide (nf T d<65536))])):=by
 have S:=Nat.mod_lt d (show 0<64 by decide);obtain⟨D,l⟩: ∃z,z=18446744073709551616-2^(d%64):=⟨_,rfl⟩;have ah:D<18446744073709551616:=(by have h2:=Nat.two_pow_pos (d%64);omega)
 refine Ap (M:=[]) (LL:=[]) (n:=37) func162 rfl rfl A7 (Mem.refl _)<|Aj []<|W.s<|Av ?_
 refine Ab 1<|Ao (v:=nV .i64<|d/64) ((Ys.p (v:=.int .i64<|Pc .i64 (d:Int) 64)).conseq<|Ad<|Rg Ae)<|Ab 1<|Ai ?_
 refine W.block<|Dd [0,1,6] (fun(c:Nat)=>[pV b 0,nV .i64 d,nV .i64 c]) (fun(c:Nat)=>c≤1024∧d/64≤c∧nf T d=nf T (max d<|64*c)) (fun(c:Nat)=>[]) (fun(c:Nat)=>1024-c) (d/64) Aa ⟨Ae,(Nat.le_refl _),Acu⟩ (by rfl) fun c f7 J6 U o=>?_
 obtain⟨hw,ak,u⟩:=U
 have al:=Nv T c;obtain⟨f,e⟩: ∃z,z=18446744073709551615-wd T c:=⟨_,rfl⟩;obtain⟨j,g⟩: ∃z,z=f&&&D:=⟨_,rfl⟩;have E:f<18446744073709551616:=Ae;have ai:j<18446744073709551616:=(by rw[g];exact Nat.lt_of_le_of_lt Nat.and_le_left E)
 refine W.s<|Aj [] ?_
 refine Ak (decide<|((c:Nat):Int)<1024) Aa (fun V=>?_) fun X=>?_
 ·have F:=V;try simp only[zA]at F
  refine Ag<|A9<|W.s<|W.block<|W.s ?_
  refine Ac<|Ab 4<|Ao (v:=pL<|some ⟨b,c*1,none⟩) ((Dt (k:=.i64) (i:=(c:Int)) (sz:=1) rfl Aa Aa runUnderlying228 sizeOf45 Ae Ae).conseq<|by rw[Nat.zero_add];try rfl)<|Ao (v:=nV .u64<|wd T c) (Ys.ld (a:=⟨b,c*1,none⟩) rfl Aa isAgg45 fun C G=>by have x_:=(Q.mem0 G).ld (q:=c*1) (Nx Ae);rw[Be]at x_;exact x_)<|Ao (v:=nV .u64 f) (Ys.conseq (v:=nV .u64<|18446744073709551615-(wd T c)) (Ad<|congrArg (fun n:Nat=>(n:Int)) e.symm)<|(Ys.p (v:=.int .u64<|Sw .u64 ((18446744073709551615:Nat):Int) (wd T c:Int))).conseq<|Ad<|Ig rfl K4 18446744073709551615 rfl) ?_
  refine Ab 1<|Ai<|W.s<|W.s ?_
  refine Ac<|Ab 2<|Ao (v:=nV .i64<|d/64) ((Ys.p (v:=.int .i64<|Pc .i64 (d:Int) 64)).conseq<|Ad<|Rg Ae)<|Ab 1<|Ay ?_
  refine A9 ?_
  refine Ak (((c:Nat):Int)==((d/64:Nat):Int)) Aa (fun Y=>?_) fun Z=>?_
  ·have H:=Y;try simp only[zA]at H
   refine Ac<|Ab 2<|Ao (v:=nV .i64<|d%64) ((Ys.p (v:=.int .i64<|Hw (d:Int) 64)).conseq<|Ad rfl)<|Ao (v:=nV .u64 D) (Ys.conseq (v:=iV .u64<|Jb .u64 18446744073709551615 ((d%64:Nat):Int)) (Ad<|(Aaf S).trans<|congrArg (fun n:Nat=>(n:Int)) l.symm)<|W8 (k:=.u64) (k':=.i64) (a:=18446744073709551615) (b:=((d%64:Nat):Int)) rfl Aa Aa Ae)<|Ao (v:=nV .u64 j) (Ys.conseq (v:=nV .u64<|f&&&D) (Ad<|congrArg (fun n:Nat=>(n:Int)) g.symm)<|(Ys.p (v:=.int .u64<|Dw .u64 (f:Int) (D:Int))).conseq<|Ad<|Rl rfl K4 K4) ?_
   refine Ab 1<|Ai<|Aj [] ?_
   refine Ak (((j:Nat):Int) !=0) Aa (fun aa=>?_) fun ab=>?_
   ·have I:=aa;try simp only[zA]at I
    refine W.s ?_
    have ad:=((Ahb (x:=j) Ae Ae (by rw[g,e,l]) u).2.1 Ae).2;have ae:=(Ahb (x:=j) Ae Ae (by rw[g,e,l]) u).1
    refine Ac<|Ab 1<|Ao (v:=nV .i64<|c*64) ((Ys.p (v:=.int .i64<|Ng .i64 (c:Int) 64)).conseq<|Ad<|Pn (by first|omega|rfl|(push_cast;rfl)) Ae Ae)<|Ab 1<|Cb (v:=nV .i64<|tz j) (A8 fun C B=>Aoo j _ ((A.mem0 B)) Ae Ae) ?_
    refine Bw ((((c*64)+(tz j)):Nat):Int) ((c*64:Nat):Int) (tz j:Int)<|Ab 2<|Ai<|Am rfl<|L1 rfl (Ar<|nV .i64<|(c*64)+(tz j)) (Ar<|bV true) (by clear o;have h:=(Ahb (x:=j) Ae Ae (by rw[g,e,l]) u).2.1 Ae;have r:=Acv h.1 Ae;rw[r.1,r.2,Nat.mul_comm])
   ·have J:=ab;try simp only[zA]at J
    refine Ag<|A9<|Ac<|Ab 1<|Bw (((c+1):Nat):Int) (c:Int) 1 ?_
    refine Ab 1<|Ay ?_
    have t:=(Ahb (x:=j) Ae Ae (by rw[g,e,l]) u).2.2 Ae
    refine fun C G=>o (c+1) _ C Ae ⟨Ae,Ae,t⟩ ?_ G
    kernel_rfl
  ·have L:=Z;try simp only[zA]at L
   refine Ag<|A9<|Aj [] ?_
   refine Ak (((f:Nat):Int) !=0) Aa (fun af=>?_) fun ag=>?_
   ·have N:=af;try simp only[zA]at N
    refine W.s ?_
    have ad:=((Ahc (x:=f) Ae Ae e u).2.1 Ae).2;have ae:=(Ahc (x:=f) Ae Ae e u).1
    refine Ac<|Ab 1<|Ao (v:=nV .i64<|c*64) ((Ys.p (v:=.int .i64<|Ng .i64 (c:Int) 64)).conseq<|Ad<|Pn (by first|omega|rfl|(push_cast;rfl)) Ae Ae)<|Ab 1<|Cb (v:=nV .i64<|tz f) (A8 fun C B=>Aoo f _ ((A.mem0 B)) Ae Ae) ?_
    refine Bw ((((c*64)+(tz f)):Nat):Int) ((c*64:Nat):Int) (tz f:Int)<|Ab 2<|Ai<|Am rfl<|L1 rfl (Ar<|nV .i64<|(c*64)+(tz f)) (Ar<|bV true) (by clear o;have h:=(Ahc (x:=f) Ae Ae e u).2.1 Ae;have r:=Acv h.1 Ae;rw[r.1,r.2,Nat.mul_comm])
   ·have O:=ag;try simp only[zA]at O
    refine Ag<|A9<|Ac<|Ab 1<|Bw (((c+1):Nat):Int) (c:Int) 1 ?_
    refine Ab 1<|Ay ?_
    have t:=(Ahc (x:=f) Ae Ae e u).2.2 Ae
    refine fun C G=>o (c+1) _ C Ae ⟨Ae,Ae,t⟩ ?_ G
    kernel_rfl
 ·have P:=X;try simp only[zA]at P
  refine Cm<|A9<|Aj []<|Am rfl<|L1 rfl (Ar<|iV .i64 0) (Ar<|bV false) (by clear o;have h:=Ak3 (show nf T d=nf T (max d<|64*1024) by rw[show 1024=c by omega];exact u) R;rw[h.1,h.2];rfl)
def pk(T:Nat→Bool)(d:Nat):Nat:=if nf T (1024+d%64512)<65536 then nf T (1024+d%64512)else nf T 1024
def N8(T:Nat→Bool)(d:Nat):Nat:=if pk T d<65536 then pk T d else 0
def Zb(T:Nat→Bool)(d:Nat):Nat→Bool:=bif decide (pk T d<65536)then up T (pk T d) true else T
def pkN(T:Nat→Bool)(d:Nat)(n:Int):Int:=bif decide (pk T d<65536)then n+1 else n
theorem Aoq(T:Nat→Bool)(n:Int): ∀v∈F5 T n,∀x,v≠b8 x:=fun v b x e=>by
  subst e
  unfold F5 wsC at b
  rcases List.mem_append.1 b with h|h
  · obtain⟨i,_,c⟩:=List.mem_map.1 h;cases c
  · cases List.mem_singleton.1 h
theorem Acx{w:World}{b:Nat}{T:Nat→Bool}{n:Int}{t:TypeId}(d:Mem w [b] [[cb b (F5 T n) t]] w)(c:At w (some ⟨0,0,none⟩) (Cx dbt)):0<(Cx dbt).length→(Option.getD (some (⟨0,0,none⟩:Addr)) default).block∉[b]:=fun e=>by
  have f:=d.at (i:=0) (j:=0) (p:=cb b (F5 T n) t) rfl rfl
  have:=c.ne (b:=b) (cs:=F5 T n) f (Aoq T n) e
  simpa using this
theorem R0(T:Nat→Bool)(d:Nat):pk T d≤65536∧1024≤pk T d∧(pk T d<65536→T (pk T d)=false)∧(pk T d=65536→ ∀q,1024≤q→q<65536→T q=true):=by
  have i:=Nat.mod_lt d (show 0<64512 by decide)
  obtain⟨b,j,c,a4⟩:=Ug T (p:=1024+d%64512) Ae
  obtain⟨f,b2,g,h⟩:=Ug T (p:=1024) Ae
  unfold pk;split
  · exact⟨b,by omega,c,fun e=>by omega⟩
  · exact⟨f,b2,g,h⟩
theorem Acy{T:Nat→Bool}{p:Nat}(h:1024≤p)(b:T p=false)(n:Int):Ww T p=true∧Pw T p=up T p true∧tkN T p n=n+1:=by
  have c:Ww T p=true:=by unfold Ww;rw[b,decide_eq_false Ae];rfl
  unfold Pw tkN;rw[c];exact⟨rfl,rfl,rfl⟩
theorem Ak4(T:Nat→Bool)(n:Int)(b d:Nat)(w:World)(O:Mem w [b] [[cb b (F5 T n) 230]] w)(Q: -1000000000000≤n)(R:n≤1000000000000)(g:At w (some ⟨0,0,none⟩) (Cx dbt))(Z:d<18446744073709551616):Calls prog 111 #[pV b 0,nV .u64 d] w (Bn w (fun _:Unit=>True) (fun _=>.tuple #[.int .u16 (N8 T d:Int),.bool (decide (pk T d<65536))]) [b] (fun _=>[[cb b (F5 (Zb T d) (pkN T d n)) 230]])):=by
 have A:=Acx O g;have S:=Nat.mod_lt d (show 0<64512 by decide)
 refine Ap (M:=[b]) (LL:=[[cb b (F5 T n) 230]]) (n:=32) func111 rfl rfl A7 (O)<|Aj []<|Av<|Ab 2 ?_
 refine Ao (v:=nV .u64<|d%64512) ((Ys.p (v:=.int .u64<|Hw (d:Int) ((64512:Nat):Int))).conseq<|Ad rfl)<|Ao (v:=nV .i64<|d%64512) ((Ys.p (v:=.int .i64<|Ct .i64 ((d%64512:Nat):Int))).conseq<|Ad<|Dg Ae Ae)<|Bw (((1024+(d%64512)):Nat):Int) 1024 ((d%64512:Nat):Int)<|Cb (v:=Value.tuple #[nV .i64 (Rz T<|1024+(d%64512)),bV (decide<|nf T (1024+(d%64512))<65536)]) (A8 fun x e=>Acw T n b (1024+(d%64512)) _ (A4 (i:=0) (j:=0) (t:=230) (b:=b) e rfl rfl) (g.mem' e A) Ae)<|Ab 5 ?_
 refine Ai<|W.s<|Aj [] ?_
 refine Ak (!(decide<|nf T (1024+(d%64512))<65536)) Aa (fun U=>?_) fun P=>?_
 ·have G:=U;try simp only[zA]at G
  refine Ac<|Ab 1<|Cb (v:=Value.tuple #[nV .i64 (Rz T 1024),bV (decide<|nf T 1024<65536)]) (A8 fun x e=>Acw T n b 1024 _ (A4 (i:=0) (j:=0) (t:=230) (b:=b) e rfl rfl) (g.mem' e A) Ae)<|Ab 5<|Ay ?_
  refine A9<|W.s ?_
  refine Aj [] ?_
  refine Ak (!(decide<|nf T 1024<65536)) Aa (fun H=>?_) fun I=>?_
  ·have B:=H;try simp only[zA]at B
   refine Aj []<|Am rfl ?_
   have C:pk T d=65536:=by have V:=(Ug T (p:=1024) An).1;unfold pk;rw[if_neg Ae];omega
   have r:decide (pk T d<65536)=false:=by rw[C];rfl
   have D:N8 T d=0:=by unfold N8;rw[if_neg Ae]
   exact E2 rfl (Ar<|iV .u16 0) (Ar<|bV false) fun x h=>⟨(),trivial,Eo<|(by rw[D,r];rfl),(Mem.cast (by unfold Zb pkN;rw[r];rfl) h)⟩
  ·have E:=I;try simp only[zA]at E
   refine Ag<|A9<|Av<|Ab 2 ?_
   refine Ao (v:=nV .u16<|(Rz T 1024)%65536) ((Ys.p (v:=.int .u16<|Ct .u16 ((Rz T 1024:Nat):Int))).conseq<|Ad<|Dn rfl _)<|Aw rfl (Au [0] [] fun x e u=>(Uh T n b ((Rz T 1024)%65536) _ u Ae Ae Ae)) fun X _=>?_
   refine Ai<|Av<|Ab 1 ?_
   refine Ao (v:=nV .u16<|(Rz T 1024)%65536) ((Ys.p (v:=.int .u16<|Ct .u16 ((Rz T 1024:Nat):Int))).conseq<|Ad<|Dn rfl _)<|Ab 2<|Ai<|Am rfl ?_
   have f:pk T d=nf T 1024:=by unfold pk;rw[if_neg Ae]
   have c:pk T d<65536:=by rw[f];omega
   have l:Rz T 1024=pk T d:=by rw[f];unfold Rz;rw[if_pos (by rw[←f];exact c)]
   have r:decide (pk T d<65536)=true:=decide_eq_true c
   have D:N8 T d=pk T d:=by unfold N8;rw[if_pos c]
   have o:=Acy (R0 T d).2.1 ((R0 T d).2.2.1 c) n
   have q:pk T d%65536=pk T d:=Nat.mod_eq_of_lt c
   exact E2 rfl (Ar<|nV .u16<|(Rz T 1024)%65536) (Ar<|bV true) fun x h=>⟨(),trivial,Eo<|(by rw[D,r,l,q]),(Mem.cast (by unfold Zb pkN;rw[r,l,q,o.2.1,o.2.2];rfl) h)⟩
 ·have J:=P;try simp only[zA]at J
  refine Ag<|A9<|W.s<|Aj [] ?_
  refine Ak (!(decide<|nf T (1024+(d%64512))<65536)) Aa (fun L=>?_) fun N=>?_
  ·exact absurd (P.symm.trans L) An
  ·have F:=N;try simp only[zA]at F
   refine Ag<|A9<|Av<|Ab 2 ?_
   refine Ao (v:=nV .u16<|(Rz T<|1024+(d%64512))%65536) ((Ys.p (v:=.int .u16<|Ct .u16 (Rz T (1024+(d%64512)):Int))).conseq<|Ad<|Dn rfl _)<|Aw rfl (Au [0] [] fun x e u=>(Uh T n b ((Rz T<|1024+(d%64512))%65536) _ u Ae Ae Ae)) fun Y _=>?_
   refine Ai<|Av<|Ab 1 ?_
   refine Ao (v:=nV .u16<|(Rz T<|1024+(d%64512))%65536) ((Ys.p (v:=.int .u16<|Ct .u16 (Rz T (1024+(d%64512)):Int))).conseq<|Ad<|Dn rfl _)<|Ab 2<|Ai<|Am rfl ?_
   have f:pk T d=nf T (1024+d%64512):=by unfold pk;rw[if_pos Ae]
   have c:pk T d<65536:=by rw[f];omega
   have l:Rz T (1024+d%64512)=pk T d:=by rw[f];unfold Rz;rw[if_pos (by rw[←f];exact c)]
   have r:decide (pk T d<65536)=true:=decide_eq_true c
   have D:N8 T d=pk T d:=by unfold N8;rw[if_pos c]
   have o:=Acy (R0 T d).2.1 ((R0 T d).2.2.1 c) n
   have q:pk T d%65536=pk T d:=Nat.mod_eq_of_lt c
   exact E2 rfl (Ar<|nV .u16<|(Rz T<|1024+(d%64512))%65536) (Ar<|bV true) fun x h=>⟨(),trivial,Eo<|(by rw[D,r,l,q]),(Mem.cast (by unfold Zb pkN;rw[r,l,q,o.2.1,o.2.2];rfl) h)⟩
theorem Xh(T:Nat→Bool)(d:Nat):N8 T d<65536:=by unfold N8;split<;>omega
theorem Acz:List.replicate 1024 (Value.int .u64 0)++[Value.int .i64 0]=F5 (fun _=>false) 0:=by
  have e: ∀k,Ml (fun _=>false) k=0:=by
    intro k
    induction k with
    |zero=>rfl
    |succ k c=>rw[Ml,c];rfl
  have h:wsC (fun _=>false)=List.replicate 1024 (Value.int .u64 0):=by
    apply List.ext_getElem?
    intro i
    by_cases b:i<1024
    · rw[Nw b,List.getElem?_replicate,if_pos b]
      unfold wd;rw[e];rfl
    · rw[List.getElem?_eq_none (by rw[Gl];omega),List.getElem?_replicate,if_neg b]
  unfold F5;rw[h]
theorem Aor(w:World):Calls prog 118 #[] w (Bn w (fun _:Nat=>True) (fun b=>.pointer (some ⟨b,0,none⟩)) [] (fun b=>[[cb b (F5 (fun _=>false) 0) 230]])):=by
 refine Ap (M:=[]) (LL:=[]) (n:=3) func118 rfl rfl A7 (Mem.refl _)<|Aj []<|Av<|Ao (v:=Value.agg (List.replicate 1024 (iV .u64 0)++[iV .i64 0]).toArray) (Ys.p) ?_
 refine Af rfl (E9 (v:=Value.agg (List.replicate 1024 (iV .u64 0)++[iV .i64 0]).toArray) (cs:=List.replicate 1024 (iV .u64 0)++[iV .i64 0]) rfl rfl Aa rfl) fun d=>Ab 1<|Ai<|Am rfl<|D9 rfl (Ar<|pV d 0) fun e c=>⟨d,trivial,rfl,(Mem.cast (by rw[←Acz]) c)⟩
end Go.Proofs.YtmonlaoaengfdaaGreatDoor.Oct
