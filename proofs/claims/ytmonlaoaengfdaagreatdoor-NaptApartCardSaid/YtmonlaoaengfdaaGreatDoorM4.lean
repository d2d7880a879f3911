import Derived.Test.YtmonlaoaengfdaaGreatDoorM2
import Derived.Test.YtmonlaoaengfdaaGreatDoorM3
set_option linter.unusedVariables false
set_option linter.unusedSimpArgs false
set_option maxRecDepth 20000
namespace Go.Proofs.YtmonlaoaengfdaaGreatDoor.Oct
open Go.RowKit Base Tryz
attribute [local irreducible] Ys Yc Ht HtS HtIn Wl Wd W Mem pf Ez Wa Wo KW
namespace ZD
theorem drop_take{cs r:List Value}{n i s:Nat}(hc:cs.length=n*s)(b:i≤n):((cs++r).drop (i*s)).take ((n-i)*s)=cs.drop (i*s):=by
  have h:i*s≤n*s:=Nat.mul_le_mul_right _ b
  rw[List.drop_append_of_le_length Ae,List.take_append_of_le_length Vl]
  exact List.take_of_length_le Vl
theorem one_drop{cs:List Value}(h: ∀v∈cs,v.oneCell'=true)(k:Nat): ∀v∈cs.drop k,v.oneCell'=true:=fun v b=>h v (List.mem_of_mem_drop b)
theorem putAt_app{a b c:List Value}{o:Nat}{v:List Value}(ho:o=a.length)(d:v.length=b.length):Bt (a++(b++c)) o v=a++(v++c):=by
  subst ho;unfold Bt
  rw[List.take_left,d,←List.drop_drop,List.drop_left,List.drop_left]
theorem ins_in{cs r news A1 A2:List Value}{n i:Nat}(hc:cs.length=n*5)(t:i<n)(g:news.length=5)(u:5≤r.length)(h:Bt (cs++r) ((i+1)*5) (cs.drop (i*5))=A1)(j:Bt A1 (i*5) news=A2):
    A2=(cs.take (i*5)++(news++cs.drop (i*5)))++r.drop 5:=by
  subst h;subst j
  obtain⟨a,b,rfl,l⟩: ∃a b,cs=a++b∧a.length=i*5:=⟨cs.take (i*5),cs.drop (i*5),(List.take_append_drop _ _).symm,by rw[List.length_take];omega⟩
  rw[List.length_append]at hc
  obtain⟨x,c,rfl,f⟩: ∃x c,r=x++c∧x.length=5:=⟨r.take 5,r.drop 5,(List.take_append_drop _ _).symm,by rw[List.length_take];omega⟩
  rw[←l,List.drop_left,List.take_left]
  have e:Bt (a++b++(x++c)) ((i+1)*5) b=a++(b.take 5++(b++c)):=by
    have o:b=b.take 5++b.drop 5:=(List.take_append_drop _ _).symm
    have d:(b.take 5).length=5:=by rw[List.length_take];omega
    have q:a++b++(x++c)=(a++b.take 5)++((b.drop 5++x)++c):=by
      rw[List.append_assoc,List.append_assoc,List.append_assoc]
      congr 1
      rw[←List.append_assoc (b.take 5),←o]
    rw[q,putAt_app (by rw[List.length_append,d];omega) (by rw[List.length_append,List.length_drop,f];omega),List.append_assoc]
  rw[e,putAt_app rfl (by rw[List.length_take,g];omega)]
  rw[show(x++c).drop 5=c by rw[←f,List.drop_left]]
  simp only[List.append_assoc]
theorem ins_own{cs R news A1 A2:List Value}{n i:Nat}(hc:cs.length=n*5)(j:i<n)(b:news.length=5)(l:(n+1-i)*5≤R.length)(f:Bt (cs.take (i*5)++R) (i*5) news=A1)(g:Bt A1 ((i+1)*5) (cs.drop (i*5))=A2):
    A2=(cs.take (i*5)++(news++cs.drop (i*5)))++R.drop ((n+1-i)*5):=by
  subst f;subst g
  have c:(cs.take (i*5)).length=i*5:=by rw[List.length_take];omega
  have h:(cs.drop (i*5)).length=(n-i)*5:=by rw[List.length_drop];omega
  obtain⟨x,y,z,rfl,d,e⟩: ∃x y z,R=x++(y++z)∧x.length=5∧y.length=(n-i)*5:=
    ⟨R.take 5,(R.drop 5).take ((n-i)*5),(R.drop 5).drop ((n-i)*5),by rw[List.take_append_drop,List.take_append_drop],by rw[List.length_take];omega,by rw[List.length_take,List.length_drop];omega⟩
  rw[putAt_app c.symm (by rw[b,d]),←List.append_assoc,putAt_app (by rw[List.length_append,c,b];omega) (by rw[h,e])]
  rw[show(n+1-i)*5=(x++y).length by rw[List.length_append,d,e];omega,←List.append_assoc x,List.drop_left]
  simp only[List.append_assoc]
theorem del_in{cs r zs A1 A2:List Value}{n i:Nat}(hc:cs.length=n*5)(q:i<n)(d:zs.length=5)(e:Bt (cs++r) (i*5) (cs.drop ((i+1)*5))=A1)(f:Bt A1 ((n-1)*5) zs=A2):
    A2=(cs.take (i*5)++cs.drop ((i+1)*5))++(zs++r):=by
  subst e;subst f
  obtain⟨a,x,b,rfl,c,g⟩: ∃a x b,cs=a++(x++b)∧a.length=i*5∧x.length=5:=
    ⟨cs.take (i*5),(cs.drop (i*5)).take 5,(cs.drop (i*5)).drop 5,by rw[List.take_append_drop,List.take_append_drop],by rw[List.length_take];omega,by rw[List.length_take,List.length_drop];omega⟩
  simp only[List.length_append]at hc
  have h:(a++(x++b)).drop ((i+1)*5)=b:=by
    rw[show(i+1)*5=(a++x).length by rw[List.length_append,c,g];omega,←List.append_assoc,List.drop_left]
  have j:(a++(x++b)).take (i*5)=a:=by rw[←c,List.take_left]
  rw[h,j]
  have l:x++b=(x++b).take b.length++(x++b).drop b.length:=(List.take_append_drop _ _).symm
  have o:a++(x++b)++r=a++((x++b).take b.length++((x++b).drop b.length++r)):=by
    rw[List.append_assoc,←List.append_assoc ((x++b).take b.length),←l]
  rw[o,putAt_app c.symm (by rw[List.length_take,List.length_append];omega),←List.append_assoc]
  rw[putAt_app (by rw[List.length_append,c];omega) (by rw[List.length_drop,List.length_append,d];omega)]
theorem insRD_c(g:FS)(cs news:List Value)(f n i:Nat)(M:List Nat)(w:World)(hl:Mem w M [g.seg 234 cs,[cb f news 234]] w)(ok:g.ok 5 n)(hcs:cs.length=n*5)(hi:i≤n)(hn:n≤100000)(hnl:news.length=1*5)(L: ∀v∈cs,v.oneCell'=true)(H: ∀v∈news,v.oneCell'=true):Calls prog 128 #[sV g n,nV .i64 i,sL (some ⟨f,0,none⟩) 1 1] w (Bn w (fun I:FS=>I.ok 5 (n+1)∧I.nil=false) (fun I=>.slice I.a (n+1) I.cap) M (fun I=>[I.seg 234 (cs.take (i*5)++(news++cs.drop (i*5)))])):=by
 have al:=ok.le;have am:=ok.mx;have av:=hcs
 refine Ap (M:=M) (LL:=[g.seg 234 cs,[cb f news 234]]) (n:=95) func128 rfl rfl A7 (hl)<|Aj []<|Av<|Ab 2 ?_
 refine Ao (v:=sL (Ds g.a g.cap i 5) (n-i)<|g.cap-i) (Br (a:=g.a) (len:=n) (cap:=g.cap) (sz:=5) (k:=.i64) (i:=(i:Int)) rfl Aa Aa runUnderlying158 sizeOf234 Ae Ae)<|Ai<|Aj []<|W.s ?_
 refine Aj []<|B4 Aa<|Ag<|A9<|Aj [] ?_
 refine W.s<|Aj [] ?_
 refine Ak (((i:Nat):Int)==(n:Int)) Aa (fun ag=>?_) fun ah=>?_
 ·have N:=ag;try simp only[zA]at N
  refine Av<|Ab 2<|Aw rfl (HtS.append (eu:=234) (xv:=Value.slice (some ⟨f,0,none⟩) 1 1) (i:=0) (g:=g) (e:=234) (ii:=(prog.info? 234).getD default) (z:=aV Vn) (sz:=5) (bytes:=32) (nn:=n) (m:=1) (k:=n+1) (xs:=cs) (news:=news) (cs':=cs++news) (Lo:=fun F=>[F.seg 234 (cs++news),[cb f news 234]]) rfl rfl Aa Aa Aa Aa Aa Aa Aa Aa Aa rfl ok hcs (fun _=>rfl) (Src.at (a:=some ⟨f,0,none⟩) hnl fun E o=>(A4 (i:=1) (j:=0) (t:=234) (b:=f) o rfl rfl)) hnl H rfl (by simp only[maxLen];omega) Ae rfl fun _=>rfl) fun F O=>?_
  obtain⟨P,Q,an⟩:=O
  refine Ab 1<|Ai<|Am rfl ?_
  have ao:i=n:=by omega
  have R:cs.take (i*5)++(news++cs.drop (i*5))=cs++news:=by rw[List.take_of_length_le Ae,List.drop_of_length_le Ae,List.append_nil]
  exact D9 rfl (Ar<|sV F<|n+1) fun E r=>⟨F,⟨P,(Q Ae)⟩,rfl,(Mem.cast (by rw[R];rfl)<|r.pick [0] An rfl)⟩
 ·have S:=ah;try simp only[zA]at S
  refine Ag<|A9<|W.s<|Av ?_
  refine Ab 2<|Bw (((n+1):Nat):Int) (n:Int) 1<|Ab 3<|Ai ?_
  refine Ak (decide<|((n+1:Nat):Int)>(g.cap:Int)) Aa (fun ai=>?_) fun aj=>?_
  ·have T:=ai;try simp only[zA]at T
   refine Av<|Ab 2<|Ao (v:=sV g i) (Dm (a:=g.a) (len:=n) (cap:=g.cap) (sz:=5) (k:=.i64) (i:=(i:Int)) rfl Aa Aa runUnderlying158 sizeOf234 Ae Ae)<|Ab 2 ?_
   refine Bw (((n+1):Nat):Int) (n:Int) 1<|Ab 1<|Ao (v:=iV .i64<|((n+1:Nat):Int)-(i:Int)) ((Ys.p (v:=.int .i64<|Hp .i64 ((n+1:Nat):Int) (i:Int))).conseq<|Ad<|Er rfl Ae Ae)<|Af rfl (Kk (t:=158) (u:=3) (e:=234) (ii:=(prog.info? 234).getD default) (z:=aV Vn) (ku:=.i64) (kk:=.i64) (lv:=((n+1:Nat):Int)-(i:Int)) (a:=g.a) (nn:=i) (m:=n+1-i) (k:=n+1) (cap:=g.cap) (sz:=5) (bytes:=32) (xs:=cs.take<|i*5) (LL':=fun d R34=>[[cb d (cs.take (i*5)++R34) 234],g.seg 234 cs,[cb f news 234]]) rfl rfl Aa Aa Aa Aa Aa Aa Aa Aa Aa Ae (fun E o=>(FS.at (i:=0) (t:=234) o rfl<|Ah ok hcs).take _) (by rw[List.length_take,hcs];omega) Ae Ae Ae Ae Ae fun _ _=>rfl) fun ak=>?_
   obtain⟨⟨d,c,R34⟩,U,V,X⟩:=ak
   refine B0 (LL':=[[cb d (cs.take (i*5)++R34) 234],g.seg 234 cs,[cb f news 234]]) rfl ?_
   dsimp only at U V X
   refine Ab 1<|Ai<|Av ?_
   refine Ab 2<|Ao (v:=sL (Ds (some ⟨d,0,none⟩) c i 5) ((n+1)-i)<|c-i) (Br (a:=some ⟨d,0,none⟩) (len:=n+1) (cap:=c) (sz:=5) (k:=.i64) (i:=(i:Int)) rfl Aa Aa runUnderlying158 sizeOf234 Ae Ae) ?_
   obtain⟨A41,x⟩: ∃A,Bt (cs.take (i*5)++R34) (i*5) news=A:=⟨_,rfl⟩
   have Y:A41.length=(cs.take (i*5)++R34).length:=by rw[←x];exact Cw _ _ _ Me
   try simp only[List.length_append,List.length_take]at Y
   refine Ab 1<|Af rfl (Cy (td:=158) (tx:=158) (e:=234) (ii:=(prog.info? 234).getD default) (xv:=sL (some ⟨f,0,none⟩) 1 1) (cap:=c) (dl:=(n+1)-i) (dc:=c-i) (m:=1) (q:=1) (sz:=5) (o':=i) (i:=0) (j:=0) (b:=d) (t:=234) (cs:=cs.take (i*5)++R34) (cs':=A41) (news:=news) (LL':=[[cb d A41 234],g.seg 234 cs,[cb f news 234]]) rfl rfl Aa Aa Aa Aa Ae Aa rfl rfl (fun _=>rfl) Mg (Src.at (a:=some ⟨f,0,none⟩) hnl fun E o=>(A4 (i:=2) (j:=0) (t:=234) (b:=f) o rfl rfl)) hnl Me H x rfl) fun _=>?_
   refine Ai<|W.s<|B3 [(0,true),(1,true),(2,true),(3,true),(4,true),(5,true),(6,false),(7,false),(8,false)] [0,1,2,3,4,5] (Mem w M [g.seg 234 cs,[cb f news 234]]) Aa Aa Aa rfl Aa (fun _ _ o=>o.drawn _) (fun _ o=>o.pick [1,2] An rfl)<|B5 3 ?_
   refine Bm (v:=nV .i64<|i+1) rfl ((Ys.p (v:=.int .i64<|D2 .i64 (i:Int) 1)).conseq<|Ad<|Fi Ae Ae Ae)<|Bm (v:=sL (Ds (some ⟨d,0,none⟩) c (i+1) 5) ((n+1)-(i+1))<|c-(i+1)) rfl (Br (a:=some ⟨d,0,none⟩) (len:=n+1) (cap:=c) (sz:=5) (k:=.i64) (i:=((i+1:Nat):Int)) rfl Aa Aa runUnderlying158 sizeOf234 Ae Ae)<|Wd.mp 2 [] [1,2]<|Wd.yc (v:=sL (Ds g.a g.cap i 5) (n-i)<|g.cap-i) rfl rfl rfl (Ys.yc<|Br (a:=g.a) (len:=n) (cap:=g.cap) (sz:=5) (k:=.i64) (i:=(i:Int)) rfl Aa Aa runUnderlying158 sizeOf234 Ae Ae) (Ee [1,2]) ?_
   obtain⟨A46,B⟩: ∃A,Bt A41 ((i+1)*5) (cs.drop (i*5))=A:=⟨_,rfl⟩
   have Z:A46.length=A41.length:=by rw[←B];exact Cw _ _ _ Af3
   try simp only[List.length_append,List.length_take]at Z
   refine Cj rfl rfl (Cy (td:=158) (tx:=158) (e:=234) (ii:=(prog.info? 234).getD default) (xv:=sL (Ds g.a g.cap i 5) (n-i)<|g.cap-i) (cap:=c) (dl:=(n+1)-(i+1)) (dc:=c-(i+1)) (m:=n-i) (q:=n-i) (sz:=5) (o':=i+1) (i:=0) (j:=0) (b:=d) (t:=234) (cs:=A41) (cs':=A46) (news:=cs.drop<|i*5) (LL':=[[cb d A46 234],g.seg 234 cs,[cb f news 234]]) rfl rfl Aa Aa Aa Aa Ae Aa rfl rfl (fun _=>rfl) Mg (Src.at (a:=Ds g.a g.cap i 5) (show(cs.drop<|i*5).length=(n-i)*5 by rw[List.length_drop,hcs];omega) fun E o=>((FS.at (i:=1) (t:=234) o rfl<|Ah ok hcs).dropN (cap:=g.cap) (k:=i) (sz:=5) Ae)) (show(cs.drop<|i*5).length=(n-i)*5 by rw[List.length_drop,hcs];omega) Af3 (one_drop L _) B rfl) (Az [1,2]) fun _=>Cl<|Aj []<|Am rfl ?_
   have R:=ins_own hcs Ae Ae Ae x B
   exact D9 rfl (Ar<|sL (some ⟨d,0,none⟩) (n+1) c) fun E r=>⟨⟨false,d,c,R34.drop<|(n+1-i)*5⟩,⟨⟨fun h=>(by cases h),Ae,Ae,(by show c*5≤_;rw[List.length_drop];omega)⟩,rfl⟩,rfl,(Mem.cast (by rw[R];rfl)<|r.pick [0] An rfl)⟩
  ·have G:=aj;try simp only[zA]at G
   refine Ag<|A9<|W.s ?_
   have aa:=De ok Ae
   obtain⟨ab,l,gc,J⟩:=g
   obtain rfl:ab=false:=aa
   have ap:n≤gc:=ok.le
   have aq:gc*5≤n*5+J.length:=ok.len
   have af:n+1≤gc:=by have z_: ¬(((n+1:Nat):Int)>(gc:Int)):=G;omega
   refine Ac<|Ab 3<|Bw (((n+1):Nat):Int) (n:Int) 1<|Ao (v:=sL (some ⟨l,0,none⟩) (n+1) gc) (Dm (a:=some ⟨l,0,none⟩) (len:=n) (cap:=gc) (sz:=5) (k:=.i64) (i:=((n+1:Nat):Int)) rfl Aa Aa runUnderlying158 sizeOf234 Ae Ae)<|Ab 1 ?_
   refine Ai<|W.s<|Av ?_
   refine Ab 4<|Bw (((i+1):Nat):Int) (i:Int) 1<|Ao (v:=Value.slice (Ds (some ⟨l,0,none⟩) gc (i+1) 5) ((n+1)-(i+1))<|gc-(i+1)) (Br (a:=some ⟨l,0,none⟩) (len:=n+1) (cap:=gc) (sz:=5) (k:=.i64) (i:=((i+1:Nat):Int)) rfl Aa Aa runUnderlying158 sizeOf234 Ae Ae)<|Ao (v:=bV false) ((I4 (k:=170) (tS:=158) (tR:=4) (e:=234) (sz:=5) (b:=f) (b':=l) (o1:=0) (o2:=(i+1)*5) (la:=1) (ca:=1) (lb:=((n+1)-(i+1))) (cp:=(gc-(i+1))) (i:=1) (j:=0) (i':=0) (j':=0) (t:=234) (t':=234) (cs:=news) (cs':=cs++J) (fun E=>Eq.trans (b:=Sem.run prog (callFunc 170 #[Value.slice (some ⟨f,0,none⟩) 1 1,Value.slice (Ds (some ⟨l,0,none⟩) gc (i+1) 5) ((n+1)-(i+1)) (gc-(i+1))]) E) Aa<|by rw[Hh Ae]) func170 Aa Aa Aa Aa Aa sizeOf234 An rfl rfl rfl rfl<|by simp only[List.length_append];omega))<|Ab 1 ?_
   refine Ai<|Cd Aa<|W.s<|B3 [(0,true),(1,true),(2,true),(3,true),(4,true),(5,true),(6,false),(7,false),(8,false)] [0,1,2,3,4,5] (Mem w M [[cb f news 234]]) Aa Aa Aa rfl Aa (fun _ _ o=>o.drawn _) (fun _ o=>o.pick [1] An rfl) ?_
   refine B5 3<|Bm (v:=nV .i64<|i+1) rfl ((Ys.p (v:=.int .i64<|D2 .i64 (i:Int) 1)).conseq<|Ad<|Fi Ae Ae Ae)<|Bm (v:=sL (Ds (some ⟨l,0,none⟩) gc (i+1) 5) ((n+1)-(i+1))<|gc-(i+1)) rfl (Br (a:=some ⟨l,0,none⟩) (len:=n+1) (cap:=gc) (sz:=5) (k:=.i64) (i:=((i+1:Nat):Int)) rfl Aa Aa runUnderlying158 sizeOf234 Ae Ae)<|Wd.mp 2 [] [1]<|Wd.yc (v:=sL (Ds (some ⟨l,0,none⟩) gc i 5) ((n+1)-i)<|gc-i) rfl rfl rfl (Ys.yc<|Br (a:=some ⟨l,0,none⟩) (len:=n+1) (cap:=gc) (sz:=5) (k:=.i64) (i:=(i:Int)) rfl Aa Aa runUnderlying158 sizeOf234 Ae Ae) (Ee [1]) ?_
   obtain⟨A62,C⟩: ∃A,Bt (cs++J) ((i+1)*5) (cs.drop (i*5))=A:=⟨_,rfl⟩
   have ad:A62.length=(cs++J).length:=by rw[←C];exact Cw _ _ _ Af3
   try simp only[List.length_append,List.length_take]at ad
   refine Cj rfl rfl (Cy (td:=158) (tx:=158) (e:=234) (ii:=(prog.info? 234).getD default) (xv:=sL (Ds (some ⟨l,0,none⟩) gc i 5) ((n+1)-i)<|gc-i) (cap:=gc) (dl:=(n+1)-(i+1)) (dc:=gc-(i+1)) (m:=(n+1)-i) (q:=n-i) (sz:=5) (o':=i+1) (i:=0) (j:=0) (b:=l) (t:=234) (cs:=cs++J) (cs':=A62) (news:=cs.drop<|i*5) (LL':=[[cb l A62 234],[cb f news 234]]) rfl rfl Aa Aa Aa Aa Ae Aa rfl rfl (fun _=>rfl) Mg (Src.at (a:=Ds (some ⟨l,0,none⟩) gc i 5) (show(cs.drop<|i*5).length=(n-i)*5 by rw[List.length_drop,hcs];omega) fun E o=>(by have z_:=((A4 (i:=0) (j:=0) (t:=234) (b:=l) o rfl rfl).dropT (cap:=gc) (k:=i) (m:=n-i) (sz:=5) Ae);rwa[drop_take hcs Ae]at z_)) (show(cs.drop<|i*5).length=(n-i)*5 by rw[List.length_drop,hcs];omega) Af3 (one_drop L _) C rfl) (Az [1]) fun _=>Cl<|Av ?_
   refine Ab 2<|Ao (v:=sL (Ds (some ⟨l,0,none⟩) gc i 5) ((n+1)-i)<|gc-i) (Br (a:=some ⟨l,0,none⟩) (len:=n+1) (cap:=gc) (sz:=5) (k:=.i64) (i:=(i:Int)) rfl Aa Aa runUnderlying158 sizeOf234 Ae Ae) ?_
   obtain⟨A67,D⟩: ∃A,Bt A62 (i*5) news=A:=⟨_,rfl⟩
   have ae:A67.length=A62.length:=by rw[←D];exact Cw _ _ _ Me
   try simp only[List.length_append,List.length_take]at ae
   refine Ab 1<|Af rfl (Cy (td:=158) (tx:=158) (e:=234) (ii:=(prog.info? 234).getD default) (xv:=sL (some ⟨f,0,none⟩) 1 1) (cap:=gc) (dl:=(n+1)-i) (dc:=gc-i) (m:=1) (q:=1) (sz:=5) (o':=i) (i:=0) (j:=0) (b:=l) (t:=234) (cs:=A62) (cs':=A67) (news:=news) (LL':=[[cb l A67 234],[cb f news 234]]) rfl rfl Aa Aa Aa Aa Ae Aa rfl rfl (fun _=>rfl) Mg (Src.at (a:=some ⟨f,0,none⟩) hnl fun E o=>(A4 (i:=1) (j:=0) (t:=234) (b:=f) o rfl rfl)) hnl Me H D rfl) fun _=>?_
   refine Ai<|Aj []<|Am rfl ?_
   have R:=ins_in hcs Ae Ae Ae C D
   exact D9 rfl (Ar<|sL (some ⟨l,0,none⟩) (n+1) gc) fun E r=>⟨⟨false,l,gc,J.drop 5⟩,⟨⟨fun h=>(by cases h),Ae,ok.mx,(by show gc*5≤_;rw[List.length_drop];omega)⟩,rfl⟩,rfl,(Mem.cast (by rw[R];rfl)<|r.pick [0] An rfl)⟩
theorem delRD_c(g:FS)(cs:List Value)(n i:Nat)(M:List Nat)(w:World)(O:Mem w M [g.seg 234 cs] w)(ok:g.ok 5 n)(hcs:cs.length=n*5)(V:i<n)(X:n≤100000)(D: ∀v∈cs,v.oneCell'=true):Calls prog 129 #[sV g n,nV .i64 i,nV .i64 (i+1)] w (Bn w (fun l:FS=>l.ok 5 (n-1)∧l.nil=false) (fun l=>.slice l.a (n-1) l.cap) M (fun l=>[l.seg 234 (cs.take (i*5)++cs.drop ((i+1)*5))])):=by
 have H:=ok.le;have I:=ok.mx;have P:=hcs
 refine Ap (M:=M) (LL:=[g.seg 234 cs]) (n:=33) func129 rfl rfl A7 (O)<|Aj []<|Av<|Ab 5 ?_
 refine Ao (v:=sL (Ds g.a n i 5) ((i+1)-i)<|n-i) (I3 (a:=g.a) (len:=n) (cap:=g.cap) (sz:=5) (k:=.i64) (k':=.i64) (k'':=.i64) (i:=(i:Int)) (j:=((i+1:Nat):Int)) (q:=(n:Int)) rfl Aa Aa Aa Aa runUnderlying158 sizeOf234 Ae Ae Ae Ae)<|Ai<|W.s<|Aj [] ?_
 refine Ak (((i:Nat):Int)==((i+1:Nat):Int)) Aa (fun Q=>?_) fun R=>?_
 ·have E:=Q;try simp only[zA]at E
  (exfalso;omega)
 ·have F:=R;try simp only[zA]at F
  refine Ag<|A9<|Aj []<|W.s ?_
  have o:=De ok Ae
  obtain⟨r,c,gc,x⟩:=g
  obtain rfl:r=false:=o
  have J:n≤gc:=ok.le
  have L:gc*5≤n*5+x.length:=ok.len
  refine B3 [(0,true),(1,true),(2,true),(3,true),(4,false),(5,false),(6,false),(7,false)] [0,1,2,3] (Mem w M []) Aa Aa Aa rfl Aa (fun _ _ B=>B.drawn _) (fun _ B=>B.pick [] An rfl)<|B5 2<|Bm (v:=sL (some ⟨c,0,none⟩) i gc) rfl (Dm (a:=some ⟨c,0,none⟩) (len:=n) (cap:=gc) (sz:=5) (k:=.i64) (i:=(i:Int)) rfl Aa Aa runUnderlying158 sizeOf234 Ae Ae)<|Wd.mp 2 [] []<|Wd.yc (v:=sL (Ds (some ⟨c,0,none⟩) gc (i+1) 5) (n-(i+1))<|gc-(i+1)) rfl rfl rfl (Ys.yc<|Br (a:=some ⟨c,0,none⟩) (len:=n) (cap:=gc) (sz:=5) (k:=.i64) (i:=((i+1:Nat):Int)) rfl Aa Aa runUnderlying158 sizeOf234 Ae Ae) (Ee []) ?_
  obtain⟨A16,d⟩: ∃A,Bt (cs++x) (i*5) (cs.drop ((i+1)*5))=A:=⟨_,rfl⟩
  have C:A16.length=(cs++x).length:=by rw[←d];exact Cw _ _ _ (by rw[(show(cs.drop ((i+1)*5)).length=(n-(i+1))*5 by rw[List.length_drop,hcs];omega)];(try simp only[List.length_append,List.length_take]);omega)
  try simp only[List.length_append,List.length_take]at C
  refine Cj rfl rfl (I5 (t:=158) (u:=158) (e:=234) (eu:=234) (ii:=(prog.info? 234).getD default) (xv:=Value.slice (Ds (some ⟨c,0,none⟩) gc (i+1) 5) (n-(i+1))<|gc-(i+1)) (nn:=i) (m:=n-(i+1)) (k:=n-1) (cap:=gc) (sz:=5) (i:=0) (j:=0) (b:=c) (ty:=234) (cs:=cs++x) (cs':=A16) (news:=cs.drop<|(i+1)*5) (LL':=[[cb c A16 234]]) rfl rfl Aa Aa Aa Aa Aa Aa rfl rfl (fun _=>rfl) Ae Ae (Src.at (a:=Ds (some ⟨c,0,none⟩) gc (i+1) 5) (show(cs.drop<|(i+1)*5).length=(n-(i+1))*5 by rw[List.length_drop,hcs];omega) fun S B=>(by have T:=((A4 (i:=0) (j:=0) (t:=234) (b:=c) B rfl rfl).dropT (cap:=gc) (k:=i+1) (m:=n-(i+1)) (sz:=5) Ae);rwa[drop_take hcs Ae]at T)) (by rw[(show(cs.drop<|(i+1)*5).length=(n-(i+1))*5 by rw[List.length_drop,hcs];omega)];(try simp only[List.length_append,List.length_take]);omega) (one_drop D _) d rfl) (Az []) fun _=>Dh 1 []<|Cl<|W.s ?_
  refine Ac<|Ab 4<|Ao (v:=sL (Ds (some ⟨c,0,none⟩) gc (n-1) 5) (n-(n-1))<|gc-(n-1)) (Ic (a:=some ⟨c,0,none⟩) (len:=n-1) (cap:=gc) (sz:=5) (k:=.i64) (i:=((n-1:Nat):Int)) (k':=.i64) (j:=(n:Int)) rfl Aa Aa Aa runUnderlying158 sizeOf234 Ae Ae Ae) ?_
  obtain⟨A21,f⟩: ∃A,Bt A16 ((n-1)*5) Vn=A:=⟨_,rfl⟩
  have N:A21.length=A16.length:=by rw[←f];exact Cw _ _ _ Vk
  refine Af rfl (La (t:=158) (e:=234) (ii:=(prog.info? 234).getD default) (z:=aV Vn) (m:=0) (cap:=gc-(n-1)) (o':=(n-1)*5) (i:=0) (j:=0) (b:=c) (ty:=234) (cs:=A16) (cs':=A21) (zs:=Vn) (LL':=[[cb c A21 234]]) rfl rfl Aa Aa Aa (Eq.trans (b:=sL (Ds (some ⟨c,0,none⟩) gc (n-1) 5) (n-(n-1))<|gc-(n-1)) Aa<|by rw[Hh Ae];congr 1;omega) rfl rfl Aa Vk ma3 f rfl) fun _=>Ai<|Aj []<|Am rfl ?_
  have U:=del_in (zs:=Vn) hcs Ae rfl d f
  exact D9 rfl (Ar<|Value.slice (some ⟨c,0,none⟩) (n-1) gc) fun S G=>⟨⟨false,c,gc,Vn++x⟩,⟨⟨fun h=>(by cases h),(by show n-1≤gc;omega),ok.mx,(by show gc*5≤_;simp only[List.length_append,List.length_cons,List.length_nil];omega)⟩,rfl⟩,rfl,(Mem.cast (by rw[U];rfl)<|G.pick [0] An rfl)⟩
end ZD
namespace ZN
theorem drop_take{cs r:List Value}{n i s:Nat}(hc:cs.length=n*s)(b:i≤n):((cs++r).drop (i*s)).take ((n-i)*s)=cs.drop (i*s):=by
  have h:i*s≤n*s:=Nat.mul_le_mul_right _ b
  rw[List.drop_append_of_le_length Ae,List.take_append_of_le_length Vl]
  exact List.take_of_length_le Vl
theorem one_drop{cs:List Value}(h: ∀v∈cs,v.oneCell'=true)(k:Nat): ∀v∈cs.drop k,v.oneCell'=true:=fun v b=>h v (List.mem_of_mem_drop b)
theorem putAt_app{a b c:List Value}{o:Nat}{v:List Value}(ho:o=a.length)(d:v.length=b.length):Bt (a++(b++c)) o v=a++(v++c):=by
  subst ho;unfold Bt
  rw[List.take_left,d,←List.drop_drop,List.drop_left,List.drop_left]
theorem ins_in{cs r news A1 A2:List Value}{n i:Nat}(hc:cs.length=n*6)(t:i<n)(g:news.length=6)(u:6≤r.length)(h:Bt (cs++r) ((i+1)*6) (cs.drop (i*6))=A1)(j:Bt A1 (i*6) news=A2):
    A2=(cs.take (i*6)++(news++cs.drop (i*6)))++r.drop 6:=by
  subst h;subst j
  obtain⟨a,b,rfl,l⟩: ∃a b,cs=a++b∧a.length=i*6:=⟨cs.take (i*6),cs.drop (i*6),(List.take_append_drop _ _).symm,by rw[List.length_take];omega⟩
  rw[List.length_append]at hc
  obtain⟨x,c,rfl,f⟩: ∃x c,r=x++c∧x.length=6:=⟨r.take 6,r.drop 6,(List.take_append_drop _ _).symm,by rw[List.length_take];omega⟩
  rw[←l,List.drop_left,List.take_left]
  have e:Bt (a++b++(x++c)) ((i+1)*6) b=a++(b.take 6++(b++c)):=by
    have o:b=b.take 6++b.drop 6:=(List.take_append_drop _ _).symm
    have d:(b.take 6).length=6:=by rw[List.length_take];omega
    have q:a++b++(x++c)=(a++b.take 6)++((b.drop 6++x)++c):=by
      rw[List.append_assoc,List.append_assoc,List.append_assoc]
      congr 1
      rw[←List.append_assoc (b.take 6),←o]
    rw[q,putAt_app (by rw[List.length_append,d];omega) (by rw[List.length_append,List.length_drop,f];omega),List.append_assoc]
  rw[e,putAt_app rfl (by rw[List.length_take,g];omega)]
  rw[show(x++c).drop 6=c by rw[←f,List.drop_left]]
  simp only[List.append_assoc]
theorem ins_own{cs R news A1 A2:List Value}{n i:Nat}(hc:cs.length=n*6)(j:i<n)(b:news.length=6)(l:(n+1-i)*6≤R.length)(f:Bt (cs.take (i*6)++R) (i*6) news=A1)(g:Bt A1 ((i+1)*6) (cs.drop (i*6))=A2):
    A2=(cs.take (i*6)++(news++cs.drop (i*6)))++R.drop ((n+1-i)*6):=by
  subst f;subst g
  have c:(cs.take (i*6)).length=i*6:=by rw[List.length_take];omega
  have h:(cs.drop (i*6)).length=(n-i)*6:=by rw[List.length_drop];omega
  obtain⟨x,y,z,rfl,d,e⟩: ∃x y z,R=x++(y++z)∧x.length=6∧y.length=(n-i)*6:=
    ⟨R.take 6,(R.drop 6).take ((n-i)*6),(R.drop 6).drop ((n-i)*6),by rw[List.take_append_drop,List.take_append_drop],by rw[List.length_take];omega,by rw[List.length_take,List.length_drop];omega⟩
  rw[putAt_app c.symm (by rw[b,d]),←List.append_assoc,putAt_app (by rw[List.length_append,c,b];omega) (by rw[h,e])]
  rw[show(n+1-i)*6=(x++y).length by rw[List.length_append,d,e];omega,←List.append_assoc x,List.drop_left]
  simp only[List.append_assoc]
theorem del_in{cs r zs A1 A2:List Value}{n i:Nat}(hc:cs.length=n*6)(q:i<n)(d:zs.length=6)(e:Bt (cs++r) (i*6) (cs.drop ((i+1)*6))=A1)(f:Bt A1 ((n-1)*6) zs=A2):
    A2=(cs.take (i*6)++cs.drop ((i+1)*6))++(zs++r):=by
  subst e;subst f
  obtain⟨a,x,b,rfl,c,g⟩: ∃a x b,cs=a++(x++b)∧a.length=i*6∧x.length=6:=
    ⟨cs.take (i*6),(cs.drop (i*6)).take 6,(cs.drop (i*6)).drop 6,by rw[List.take_append_drop,List.take_append_drop],by rw[List.length_take];omega,by rw[List.length_take,List.length_drop];omega⟩
  simp only[List.length_append]at hc
  have h:(a++(x++b)).drop ((i+1)*6)=b:=by
    rw[show(i+1)*6=(a++x).length by rw[List.length_append,c,g];omega,←List.append_assoc,List.drop_left]
  have j:(a++(x++b)).take (i*6)=a:=by rw[←c,List.take_left]
  rw[h,j]
  have l:x++b=(x++b).take b.length++(x++b).drop b.length:=(List.take_append_drop _ _).symm
  have o:a++(x++b)++r=a++((x++b).take b.length++((x++b).drop b.length++r)):=by
    rw[List.append_assoc,←List.append_assoc ((x++b).take b.length),←l]
  rw[o,putAt_app c.symm (by rw[List.length_take,List.length_append];omega),←List.append_assoc]
  rw[putAt_app (by rw[List.length_append,c];omega) (by rw[List.length_drop,List.length_append,d];omega)]
theorem insRN_c(g:FS)(cs news:List Value)(f n i:Nat)(M:List Nat)(w:World)(hl:Mem w M [g.seg 223 cs,[cb f news 223]] w)(ok:g.ok 6 n)(hcs:cs.length=n*6)(hi:i≤n)(hn:n≤100000)(hnl:news.length=1*6)(L: ∀v∈cs,v.oneCell'=true)(H: ∀v∈news,v.oneCell'=true):Calls prog 180 #[sV g n,nV .i64 i,sL (some ⟨f,0,none⟩) 1 1] w (Bn w (fun I:FS=>I.ok 6 (n+1)∧I.nil=false) (fun I=>.slice I.a (n+1) I.cap) M (fun I=>[I.seg 223 (cs.take (i*6)++(news++cs.drop (i*6)))])):=by
 have al:=ok.le;have am:=ok.mx;have av:=hcs
 refine Ap (M:=M) (LL:=[g.seg 223 cs,[cb f news 223]]) (n:=95) func180 rfl rfl A7 (hl)<|Aj []<|Av<|Ab 2 ?_
 refine Ao (v:=sL (Ds g.a g.cap i 6) (n-i)<|g.cap-i) (Br (a:=g.a) (len:=n) (cap:=g.cap) (sz:=6) (k:=.i64) (i:=(i:Int)) rfl Aa Aa runUnderlying161 sizeOf223 Ae Ae)<|Ai<|Aj []<|W.s ?_
 refine Aj []<|B4 Aa<|Ag<|A9<|Aj [] ?_
 refine W.s<|Aj [] ?_
 refine Ak (((i:Nat):Int)==(n:Int)) Aa (fun ag=>?_) fun ah=>?_
 ·have N:=ag;try simp only[zA]at N
  refine Av<|Ab 2<|Aw rfl (HtS.append (eu:=223) (xv:=Value.slice (some ⟨f,0,none⟩) 1 1) (i:=0) (g:=g) (e:=223) (ii:=(prog.info? 223).getD default) (z:=aV W3) (sz:=6) (bytes:=24) (nn:=n) (m:=1) (k:=n+1) (xs:=cs) (news:=news) (cs':=cs++news) (Lo:=fun F=>[F.seg 223 (cs++news),[cb f news 223]]) rfl rfl Aa Aa Aa Aa Aa Aa Aa Aa Aa rfl ok hcs (fun _=>rfl) (Src.at (a:=some ⟨f,0,none⟩) hnl fun E o=>(A4 (i:=1) (j:=0) (t:=223) (b:=f) o rfl rfl)) hnl H rfl (by simp only[maxLen];omega) Ae rfl fun _=>rfl) fun F O=>?_
  obtain⟨P,Q,an⟩:=O
  refine Ab 1<|Ai<|Am rfl ?_
  have ao:i=n:=by omega
  have R:cs.take (i*6)++(news++cs.drop (i*6))=cs++news:=by rw[List.take_of_length_le Ae,List.drop_of_length_le Ae,List.append_nil]
  exact D9 rfl (Ar<|sV F<|n+1) fun E r=>⟨F,⟨P,(Q Ae)⟩,rfl,(Mem.cast (by rw[R];rfl)<|r.pick [0] An rfl)⟩
 ·have S:=ah;try simp only[zA]at S
  refine Ag<|A9<|W.s<|Av ?_
  refine Ab 2<|Bw (((n+1):Nat):Int) (n:Int) 1<|Ab 3<|Ai ?_
  refine Ak (decide<|((n+1:Nat):Int)>(g.cap:Int)) Aa (fun ai=>?_) fun aj=>?_
  ·have T:=ai;try simp only[zA]at T
   refine Av<|Ab 2<|Ao (v:=sV g i) (Dm (a:=g.a) (len:=n) (cap:=g.cap) (sz:=6) (k:=.i64) (i:=(i:Int)) rfl Aa Aa runUnderlying161 sizeOf223 Ae Ae)<|Ab 2 ?_
   refine Bw (((n+1):Nat):Int) (n:Int) 1<|Ab 1<|Ao (v:=iV .i64<|((n+1:Nat):Int)-(i:Int)) ((Ys.p (v:=.int .i64<|Hp .i64 ((n+1:Nat):Int) (i:Int))).conseq<|Ad<|Er rfl Ae Ae)<|Af rfl (Kk (t:=161) (u:=3) (e:=223) (ii:=(prog.info? 223).getD default) (z:=aV W3) (ku:=.i64) (kk:=.i64) (lv:=((n+1:Nat):Int)-(i:Int)) (a:=g.a) (nn:=i) (m:=n+1-i) (k:=n+1) (cap:=g.cap) (sz:=6) (bytes:=24) (xs:=cs.take<|i*6) (LL':=fun d R34=>[[cb d (cs.take (i*6)++R34) 223],g.seg 223 cs,[cb f news 223]]) rfl rfl Aa Aa Aa Aa Aa Aa Aa Aa Aa Ae (fun E o=>(FS.at (i:=0) (t:=223) o rfl<|Ah ok hcs).take _) (by rw[List.length_take,hcs];omega) Ae Ae Ae Ae Ae fun _ _=>rfl) fun ak=>?_
   obtain⟨⟨d,c,R34⟩,U,V,X⟩:=ak
   refine B0 (LL':=[[cb d (cs.take (i*6)++R34) 223],g.seg 223 cs,[cb f news 223]]) rfl ?_
   dsimp only at U V X
   refine Ab 1<|Ai<|Av ?_
   refine Ab 2<|Ao (v:=sL (Ds (some ⟨d,0,none⟩) c i 6) ((n+1)-i)<|c-i) (Br (a:=some ⟨d,0,none⟩) (len:=n+1) (cap:=c) (sz:=6) (k:=.i64) (i:=(i:Int)) rfl Aa Aa runUnderlying161 sizeOf223 Ae Ae) ?_
   obtain⟨A41,x⟩: ∃A,Bt (cs.take (i*6)++R34) (i*6) news=A:=⟨_,rfl⟩
   have Y:A41.length=(cs.take (i*6)++R34).length:=by rw[←x];exact Cw _ _ _ Me
   try simp only[List.length_append,List.length_take]at Y
   refine Ab 1<|Af rfl (Cy (td:=161) (tx:=161) (e:=223) (ii:=(prog.info? 223).getD default) (xv:=sL (some ⟨f,0,none⟩) 1 1) (cap:=c) (dl:=(n+1)-i) (dc:=c-i) (m:=1) (q:=1) (sz:=6) (o':=i) (i:=0) (j:=0) (b:=d) (t:=223) (cs:=cs.take (i*6)++R34) (cs':=A41) (news:=news) (LL':=[[cb d A41 223],g.seg 223 cs,[cb f news 223]]) rfl rfl Aa Aa Aa Aa Ae Aa rfl rfl (fun _=>rfl) Mg (Src.at (a:=some ⟨f,0,none⟩) hnl fun E o=>(A4 (i:=2) (j:=0) (t:=223) (b:=f) o rfl rfl)) hnl Me H x rfl) fun _=>?_
   refine Ai<|W.s<|B3 [(0,true),(1,true),(2,true),(3,true),(4,true),(5,true),(6,false),(7,false),(8,false)] [0,1,2,3,4,5] (Mem w M [g.seg 223 cs,[cb f news 223]]) Aa Aa Aa rfl Aa (fun _ _ o=>o.drawn _) (fun _ o=>o.pick [1,2] An rfl)<|B5 3 ?_
   refine Bm (v:=nV .i64<|i+1) rfl ((Ys.p (v:=.int .i64<|D2 .i64 (i:Int) 1)).conseq<|Ad<|Fi Ae Ae Ae)<|Bm (v:=sL (Ds (some ⟨d,0,none⟩) c (i+1) 6) ((n+1)-(i+1))<|c-(i+1)) rfl (Br (a:=some ⟨d,0,none⟩) (len:=n+1) (cap:=c) (sz:=6) (k:=.i64) (i:=((i+1:Nat):Int)) rfl Aa Aa runUnderlying161 sizeOf223 Ae Ae)<|Wd.mp 2 [] [1,2]<|Wd.yc (v:=sL (Ds g.a g.cap i 6) (n-i)<|g.cap-i) rfl rfl rfl (Ys.yc<|Br (a:=g.a) (len:=n) (cap:=g.cap) (sz:=6) (k:=.i64) (i:=(i:Int)) rfl Aa Aa runUnderlying161 sizeOf223 Ae Ae) (Ee [1,2]) ?_
   obtain⟨A46,B⟩: ∃A,Bt A41 ((i+1)*6) (cs.drop (i*6))=A:=⟨_,rfl⟩
   have Z:A46.length=A41.length:=by rw[←B];exact Cw _ _ _ Vi
   try simp only[List.length_append,List.length_take]at Z
   refine Cj rfl rfl (Cy (td:=161) (tx:=161) (e:=223) (ii:=(prog.info? 223).getD default) (xv:=sL (Ds g.a g.cap i 6) (n-i)<|g.cap-i) (cap:=c) (dl:=(n+1)-(i+1)) (dc:=c-(i+1)) (m:=n-i) (q:=n-i) (sz:=6) (o':=i+1) (i:=0) (j:=0) (b:=d) (t:=223) (cs:=A41) (cs':=A46) (news:=cs.drop<|i*6) (LL':=[[cb d A46 223],g.seg 223 cs,[cb f news 223]]) rfl rfl Aa Aa Aa Aa Ae Aa rfl rfl (fun _=>rfl) Mg (Src.at (a:=Ds g.a g.cap i 6) (show(cs.drop<|i*6).length=(n-i)*6 by rw[List.length_drop,hcs];omega) fun E o=>((FS.at (i:=1) (t:=223) o rfl<|Ah ok hcs).dropN (cap:=g.cap) (k:=i) (sz:=6) Ae)) (show(cs.drop<|i*6).length=(n-i)*6 by rw[List.length_drop,hcs];omega) Vi (one_drop L _) B rfl) (Az [1,2]) fun _=>Cl<|Aj []<|Am rfl ?_
   have R:=ins_own hcs Ae Ae Ae x B
   exact D9 rfl (Ar<|sL (some ⟨d,0,none⟩) (n+1) c) fun E r=>⟨⟨false,d,c,R34.drop<|(n+1-i)*6⟩,⟨⟨fun h=>(by cases h),Ae,Ae,(by show c*6≤_;rw[List.length_drop];omega)⟩,rfl⟩,rfl,(Mem.cast (by rw[R];rfl)<|r.pick [0] An rfl)⟩
  ·have G:=aj;try simp only[zA]at G
   refine Ag<|A9<|W.s ?_
   have aa:=De ok Ae
   obtain⟨ab,l,gc,J⟩:=g
   obtain rfl:ab=false:=aa
   have ap:n≤gc:=ok.le
   have aq:gc*6≤n*6+J.length:=ok.len
   have af:n+1≤gc:=by have z_: ¬(((n+1:Nat):Int)>(gc:Int)):=G;omega
   refine Ac<|Ab 3<|Bw (((n+1):Nat):Int) (n:Int) 1<|Ao (v:=sL (some ⟨l,0,none⟩) (n+1) gc) (Dm (a:=some ⟨l,0,none⟩) (len:=n) (cap:=gc) (sz:=6) (k:=.i64) (i:=((n+1:Nat):Int)) rfl Aa Aa runUnderlying161 sizeOf223 Ae Ae)<|Ab 1 ?_
   refine Ai<|W.s<|Av ?_
   refine Ab 4<|Bw (((i+1):Nat):Int) (i:Int) 1<|Ao (v:=Value.slice (Ds (some ⟨l,0,none⟩) gc (i+1) 6) ((n+1)-(i+1))<|gc-(i+1)) (Br (a:=some ⟨l,0,none⟩) (len:=n+1) (cap:=gc) (sz:=6) (k:=.i64) (i:=((i+1:Nat):Int)) rfl Aa Aa runUnderlying161 sizeOf223 Ae Ae)<|Ao (v:=bV false) ((I4 (k:=188) (tS:=161) (tR:=4) (e:=223) (sz:=6) (b:=f) (b':=l) (o1:=0) (o2:=(i+1)*6) (la:=1) (ca:=1) (lb:=((n+1)-(i+1))) (cp:=(gc-(i+1))) (i:=1) (j:=0) (i':=0) (j':=0) (t:=223) (t':=223) (cs:=news) (cs':=cs++J) (fun E=>Eq.trans (b:=Sem.run prog (callFunc 188 #[Value.slice (some ⟨f,0,none⟩) 1 1,Value.slice (Ds (some ⟨l,0,none⟩) gc (i+1) 6) ((n+1)-(i+1)) (gc-(i+1))]) E) Aa<|by rw[Hh Ae]) func188 Aa Aa Aa Aa Aa sizeOf223 An rfl rfl rfl rfl<|by simp only[List.length_append];omega))<|Ab 1 ?_
   refine Ai<|Cd Aa<|W.s<|B3 [(0,true),(1,true),(2,true),(3,true),(4,true),(5,true),(6,false),(7,false),(8,false)] [0,1,2,3,4,5] (Mem w M [[cb f news 223]]) Aa Aa Aa rfl Aa (fun _ _ o=>o.drawn _) (fun _ o=>o.pick [1] An rfl) ?_
   refine B5 3<|Bm (v:=nV .i64<|i+1) rfl ((Ys.p (v:=.int .i64<|D2 .i64 (i:Int) 1)).conseq<|Ad<|Fi Ae Ae Ae)<|Bm (v:=sL (Ds (some ⟨l,0,none⟩) gc (i+1) 6) ((n+1)-(i+1))<|gc-(i+1)) rfl (Br (a:=some ⟨l,0,none⟩) (len:=n+1) (cap:=gc) (sz:=6) (k:=.i64) (i:=((i+1:Nat):Int)) rfl Aa Aa runUnderlying161 sizeOf223 Ae Ae)<|Wd.mp 2 [] [1]<|Wd.yc (v:=sL (Ds (some ⟨l,0,none⟩) gc i 6) ((n+1)-i)<|gc-i) rfl rfl rfl (Ys.yc<|Br (a:=some ⟨l,0,none⟩) (len:=n+1) (cap:=gc) (sz:=6) (k:=.i64) (i:=(i:Int)) rfl Aa Aa runUnderlying161 sizeOf223 Ae Ae) (Ee [1]) ?_
   obtain⟨A62,C⟩: ∃A,Bt (cs++J) ((i+1)*6) (cs.drop (i*6))=A:=⟨_,rfl⟩
   have ad:A62.length=(cs++J).length:=by rw[←C];exact Cw _ _ _ Vi
   try simp only[List.length_append,List.length_take]at ad
   refine Cj rfl rfl (Cy (td:=161) (tx:=161) (e:=223) (ii:=(prog.info? 223).getD default) (xv:=sL (Ds (some ⟨l,0,none⟩) gc i 6) ((n+1)-i)<|gc-i) (cap:=gc) (dl:=(n+1)-(i+1)) (dc:=gc-(i+1)) (m:=(n+1)-i) (q:=n-i) (sz:=6) (o':=i+1) (i:=0) (j:=0) (b:=l) (t:=223) (cs:=cs++J) (cs':=A62) (news:=cs.drop<|i*6) (LL':=[[cb l A62 223],[cb f news 223]]) rfl rfl Aa Aa Aa Aa Ae Aa rfl rfl (fun _=>rfl) Mg (Src.at (a:=Ds (some ⟨l,0,none⟩) gc i 6) (show(cs.drop<|i*6).length=(n-i)*6 by rw[List.length_drop,hcs];omega) fun E o=>(by have z_:=((A4 (i:=0) (j:=0) (t:=223) (b:=l) o rfl rfl).dropT (cap:=gc) (k:=i) (m:=n-i) (sz:=6) Ae);rwa[drop_take hcs Ae]at z_)) (show(cs.drop<|i*6).length=(n-i)*6 by rw[List.length_drop,hcs];omega) Vi (one_drop L _) C rfl) (Az [1]) fun _=>Cl<|Av ?_
   refine Ab 2<|Ao (v:=sL (Ds (some ⟨l,0,none⟩) gc i 6) ((n+1)-i)<|gc-i) (Br (a:=some ⟨l,0,none⟩) (len:=n+1) (cap:=gc) (sz:=6) (k:=.i64) (i:=(i:Int)) rfl Aa Aa runUnderlying161 sizeOf223 Ae Ae) ?_
   obtain⟨A67,D⟩: ∃A,Bt A62 (i*6) news=A:=⟨_,rfl⟩
   have ae:A67.length=A62.length:=by rw[←D];exact Cw _ _ _ Me
   try simp only[List.length_append,List.length_take]at ae
   refine Ab 1<|Af rfl (Cy (td:=161) (tx:=161) (e:=223) (ii:=(prog.info? 223).getD default) (xv:=sL (some ⟨f,0,none⟩) 1 1) (cap:=gc) (dl:=(n+1)-i) (dc:=gc-i) (m:=1) (q:=1) (sz:=6) (o':=i) (i:=0) (j:=0) (b:=l) (t:=223) (cs:=A62) (cs':=A67) (news:=news) (LL':=[[cb l A67 223],[cb f news 223]]) rfl rfl Aa Aa Aa Aa Ae Aa rfl rfl (fun _=>rfl) Mg (Src.at (a:=some ⟨f,0,none⟩) hnl fun E o=>(A4 (i:=1) (j:=0) (t:=223) (b:=f) o rfl rfl)) hnl Me H D rfl) fun _=>?_
   refine Ai<|Aj []<|Am rfl ?_
   have R:=ins_in hcs Ae Ae Ae C D
   exact D9 rfl (Ar<|sL (some ⟨l,0,none⟩) (n+1) gc) fun E r=>⟨⟨false,l,gc,J.drop 6⟩,⟨⟨fun h=>(by cases h),Ae,ok.mx,(by show gc*6≤_;rw[List.length_drop];omega)⟩,rfl⟩,rfl,(Mem.cast (by rw[R];rfl)<|r.pick [0] An rfl)⟩
theorem delRN_c(g:FS)(cs:List Value)(n i:Nat)(M:List Nat)(w:World)(O:Mem w M [g.seg 223 cs] w)(ok:g.ok 6 n)(hcs:cs.length=n*6)(V:i<n)(X:n≤100000)(D: ∀v∈cs,v.oneCell'=true):Calls prog 125 #[sV g n,nV .i64 i,nV .i64 (i+1)] w (Bn w (fun l:FS=>l.ok 6 (n-1)∧l.nil=false) (fun l=>.slice l.a (n-1) l.cap) M (fun l=>[l.seg 223 (cs.take (i*6)++cs.drop ((i+1)*6))])):=by
 have H:=ok.le;have I:=ok.mx;have P:=hcs
 refine Ap (M:=M) (LL:=[g.seg 223 cs]) (n:=33) func125 rfl rfl A7 (O)<|Aj []<|Av<|Ab 5 ?_
 refine Ao (v:=sL (Ds g.a n i 6) ((i+1)-i)<|n-i) (I3 (a:=g.a) (len:=n) (cap:=g.cap) (sz:=6) (k:=.i64) (k':=.i64) (k'':=.i64) (i:=(i:Int)) (j:=((i+1:Nat):Int)) (q:=(n:Int)) rfl Aa Aa Aa Aa runUnderlying161 sizeOf223 Ae Ae Ae Ae)<|Ai<|W.s<|Aj [] ?_
 refine Ak (((i:Nat):Int)==((i+1:Nat):Int)) Aa (fun Q=>?_) fun R=>?_
 ·have E:=Q;try simp only[zA]at E
  (exfalso;omega)
 ·have F:=R;try simp only[zA]at F
  refine Ag<|A9<|Aj []<|W.s ?_
  have o:=De ok Ae
  obtain⟨r,c,gc,x⟩:=g
  obtain rfl:r=false:=o
  have J:n≤gc:=ok.le
  have L:gc*6≤n*6+x.length:=ok.len
  refine B3 [(0,true),(1,true),(2,true),(3,true),(4,false),(5,false),(6,false),(7,false)] [0,1,2,3] (Mem w M []) Aa Aa Aa rfl Aa (fun _ _ B=>B.drawn _) (fun _ B=>B.pick [] An rfl)<|B5 2<|Bm (v:=sL (some ⟨c,0,none⟩) i gc) rfl (Dm (a:=some ⟨c,0,none⟩) (len:=n) (cap:=gc) (sz:=6) (k:=.i64) (i:=(i:Int)) rfl Aa Aa runUnderlying161 sizeOf223 Ae Ae)<|Wd.mp 2 [] []<|Wd.yc (v:=sL (Ds (some ⟨c,0,none⟩) gc (i+1) 6) (n-(i+1))<|gc-(i+1)) rfl rfl rfl (Ys.yc<|Br (a:=some ⟨c,0,none⟩) (len:=n) (cap:=gc) (sz:=6) (k:=.i64) (i:=((i+1:Nat):Int)) rfl Aa Aa runUnderlying161 sizeOf223 Ae Ae) (Ee []) ?_
  obtain⟨A16,d⟩: ∃A,Bt (cs++x) (i*6) (cs.drop ((i+1)*6))=A:=⟨_,rfl⟩
  have C:A16.length=(cs++x).length:=by rw[←d];exact Cw _ _ _ Af1
  try simp only[List.length_append,List.length_take]at C
  refine Cj rfl rfl (I5 (t:=161) (u:=161) (e:=223) (eu:=223) (ii:=(prog.info? 223).getD default) (xv:=sL (Ds (some ⟨c,0,none⟩) gc (i+1) 6) (n-(i+1))<|gc-(i+1)) (nn:=i) (m:=n-(i+1)) (k:=n-1) (cap:=gc) (sz:=6) (i:=0) (j:=0) (b:=c) (ty:=223) (cs:=cs++x) (cs':=A16) (news:=cs.drop<|(i+1)*6) (LL':=[[cb c A16 223]]) rfl rfl Aa Aa Aa Aa Aa Aa rfl rfl (fun _=>rfl) Ae Ae (Src.at (a:=Ds (some ⟨c,0,none⟩) gc (i+1) 6) (show(cs.drop<|(i+1)*6).length=(n-(i+1))*6 by rw[List.length_drop,hcs];omega) fun S B=>(by have T:=((A4 (i:=0) (j:=0) (t:=223) (b:=c) B rfl rfl).dropT (cap:=gc) (k:=i+1) (m:=n-(i+1)) (sz:=6) Ae);rwa[drop_take hcs Ae]at T)) Af1 (one_drop D _) d rfl) (Az []) fun _=>Dh 1 []<|Cl<|W.s ?_
  refine Ac<|Ab 4<|Ao (v:=sL (Ds (some ⟨c,0,none⟩) gc (n-1) 6) (n-(n-1))<|gc-(n-1)) (Ic (a:=some ⟨c,0,none⟩) (len:=n-1) (cap:=gc) (sz:=6) (k:=.i64) (i:=((n-1:Nat):Int)) (k':=.i64) (j:=(n:Int)) rfl Aa Aa Aa runUnderlying161 sizeOf223 Ae Ae Ae) ?_
  obtain⟨A21,f⟩: ∃A,Bt A16 ((n-1)*6) W3=A:=⟨_,rfl⟩
  have N:A21.length=A16.length:=by rw[←f];exact Cw _ _ _ Vk
  refine Af rfl (La (t:=161) (e:=223) (ii:=(prog.info? 223).getD default) (z:=aV W3) (m:=0) (cap:=gc-(n-1)) (o':=(n-1)*6) (i:=0) (j:=0) (b:=c) (ty:=223) (cs:=A16) (cs':=A21) (zs:=W3) (LL':=[[cb c A21 223]]) rfl rfl Aa Aa Aa (Eq.trans (b:=sL (Ds (some ⟨c,0,none⟩) gc (n-1) 6) (n-(n-1))<|gc-(n-1)) Aa<|by rw[Hh Ae];congr 1;omega) rfl rfl Aa Vk ma3 f rfl) fun _=>Ai<|Aj []<|Am rfl ?_
  have U:=del_in (zs:=W3) hcs Ae rfl d f
  exact D9 rfl (Ar<|Value.slice (some ⟨c,0,none⟩) (n-1) gc) fun S G=>⟨⟨false,c,gc,W3++x⟩,⟨⟨fun h=>(by cases h),(by show n-1≤gc;omega),ok.mx,(by show gc*6≤_;simp only[List.length_append,List.length_cons,List.length_nil];omega)⟩,rfl⟩,rfl,(Mem.cast (by rw[U];rfl)<|G.pick [0] An rfl)⟩
end ZN
open ZS ZD ZN
theorem Agq(g:FS)(xs X:List ((Int×Int×Int×Int×Int)×(Option Nat)))(x:(Int×Int×Int×Int×Int)×(Option Nat))(c i:Nat)(M:List Nat)(w:World)(d:xs.take i++x::xs.drop i=X)(f:Mem w M [g.seg 173 (mm Gk xs),[cb c (Gk x) 173]] w)(ok:g.ok 6 xs.length)(j:i≤xs.length)(l:xs.length≤100000):
    Calls prog 179 #[.slice g.a xs.length g.cap,.int .i64 (i:Int),.slice (some ⟨c,0,none⟩) 1 1] w (Bn w (fun b:FS=>b.ok 6 X.length∧b.nil=false) (fun b=>.slice b.a X.length b.cap) M (fun b=>[b.seg 173 (mm Gk X)])):=by
  subst d
  have h:=insRS_c g (mm Gk xs) (Gk x) c xs.length i M w f ok (Ch Kp _) j l rfl (Gz Ps _) (Ps _)
  have e:(mm Gk xs).take (i*6)++(Gk x++(mm Gk xs).drop (i*6))=mm Gk (xs.take i++x::xs.drop i):=by rw[Fy Kp,Hz Kp,Kn,Ko]
  have n:(xs.take i++x::xs.drop i).length=xs.length+1:=by simp;omega
  rw[e]at h;rw[n];exact h
theorem Agr(g:FS)(xs X:List ((Int×Int×Int×Int×Int)×(Option Nat)))(i:Nat)(M:List Nat)(w:World)(c:xs.take i++xs.drop (i+1)=X)(d:Mem w M [g.seg 173 (mm Gk xs)] w)(ok:g.ok 6 xs.length)(f:i<xs.length)(j:xs.length≤100000):
    Calls prog 124 #[.slice g.a xs.length g.cap,.int .i64 (i:Int),.int .i64 ((i+1:Nat):Int)] w (Bn w (fun b:FS=>b.ok 6 X.length∧b.nil=false) (fun b=>.slice b.a X.length b.cap) M (fun b=>[b.seg 173 (mm Gk X)])):=by
  subst c
  have h:=delRS_c g (mm Gk xs) xs.length i M w d ok (Ch Kp _) f j (Gz Ps _)
  have e:(mm Gk xs).take (i*6)++(mm Gk xs).drop ((i+1)*6)=mm Gk (xs.take i++xs.drop (i+1)):=by rw[Fy Kp,Hz Kp,Kn]
  have l:(xs.take i++xs.drop (i+1)).length=xs.length-1:=by simp;omega
  rw[e]at h;rw[l];exact h
abbrev Q4(k:Int×Int×Int×Int×Int):List Value:=(Kw k)
theorem Aks(xs:List ((Int×Int×Int×Int×Int)×(Option Nat)))(g:FS)(c:Int)(e:Nat)(M:List Nat)(k:Int×Int×Int×Int×Int)(v:Option Nat)(w:World)(R:Mem w M [g.seg 173 (mm Gk xs),[cb e [sL g.a xs.length g.cap,Value.int .i64 c,Value.func (.func 31) #[] #[]] 153]] w)(ok:g.ok 6 xs.length)(T:xs.length≤100000)(J:Gj ordF xs):Calls prog 153 #[pV e 0,aV (Kw k),pL (Cz v)] w (Bn w (fun x:FS=>x.ok 6 (Dv ordF c xs k v).length) (fun _=>iV .i64 (Mw c xs k)) M (fun x=>[x.seg 173 (mm Gk (Dv ordF c xs k v)),[cb e [.slice x.a (Dv ordF c xs k v).length x.cap,.int .i64 c,Value.func (.func 31) #[] #[]] 153]])):=by
 refine Ap (M:=M) (LL:=[g.seg 173 (mm Gk xs),[cb e [sV g xs.length,iV .i64 c,Value.func (.func 31) #[] #[]] 153]]) (n:=49) func153 rfl rfl A7 (R)<|W.s ?_
 refine Ac<|Af rfl (Bx (Q4 k) rfl) fun P=>?_
 refine Ab 1<|Ai<|Av ?_
 refine A5 2 [(0,0)]<|Cb (v:=Value.tuple #[nV .i64 (Bk ordF xs k),bV (Bq xs k)]) (A8 fun H l=>(T1 xs g.a g.cap c e k _ (A4 (i:=2) (j:=0) (t:=153) (b:=e) l rfl rfl) (FS.at (i:=1) (t:=173) l rfl<|Ah ok<|Ld _) D1 J))<|Ab 5<|Ai ?_
 refine W.s<|W.block<|Aj [] ?_
 refine Ak (Bq xs k) Aa (fun I=>?_) fun A=>?_
 ·have B:=G5 dS J I
  refine Ac<|A5 6 [(2,0)]<|Ao (v:=Value.pointer<|some<|Cs g.a<|(Bk ordF xs k)*6) (Aq (k:=.i64) (a:=g.a) (len:=xs.length) (cap:=g.cap) (i:=(Bk ordF xs k:Int)) (sz:=6) rfl Aa Aa runUnderlying151 sizeOf173 Ae Ae Z6)<|Ab 1<|Af rfl (Vy (k:=5) (i:=1) (g:=g) (q:=(Bk ordF xs k)*6) (ty:=173) (cs:=mm Gk xs) (v:=Value.pointer<|Cz v) (cs':=mm Gk<|xs.set (Bk ordF xs k) (((xs.getD (Bk ordF xs k) dS).1),v)) (LL':=[[cb P (Q4 k) 47],g.seg 173<|mm Gk<|xs.set (Bk ordF xs k) (((xs.getD (Bk ordF xs k) dS).1),v),[cb e [sV g xs.length,iV .i64 c,Value.func (.func 31) #[] #[]] 153]]) rfl rfl Aa Aa sizeOf93 rfl (De ok Ae) rfl (by rw[Ch (g:=Gk) (sz:=6) (fun _=>rfl)];(try simp only[List.length_cons,List.length_nil]);omega) (Nq (g:=Gk) (sz:=6) (fun _=>rfl) dS (((xs.getD (Bk ordF xs k) dS).1),v) (by first|decide|(simp only[List.length_cons,List.length_nil];omega)) Ae rfl) rfl) fun _=>?_
  refine Ai<|Al [1,2] An rfl<|Aj []<|Am rfl ?_
  have f:Dv ordF c xs k v=xs.set (Bk ordF xs k) (((xs.getD (Bk ordF xs k) dS).1),v):=by unfold Dv;rw[I];simp only[cond_true,cond_false];rw[Nr J I,B.2]
  exact D9 rfl (Ar<|iV .i64 0) fun H d=>⟨g,(by rw[f,List.length_set];exact ok),Eo<|(by unfold Mw;simp only[I,cond_true,cond_false]),(Mem.cast (by rw[f,List.length_set];rfl)<|d.pick [0,1] An rfl)⟩
 ·refine W.s<|C5 [(0,true),(1,true),(2,true),(3,true),(4,true),(5,false),(6,false),(7,false),(8,false),(9,false),(10,false)] [0,1,2,3,4]<|Bs 11 [(2,0),(2,0)]<|Cl ?_
  refine Ak (decide<|((xs.length:Nat):Int)≥c) Aa (fun o=>?_) fun r=>?_
  ·have C:=o;try simp only[zA]at C
   refine Aj []<|Am rfl ?_
   have f:Dv ordF c xs k v=xs:=by unfold Dv;rw[A];simp only[cond_true,cond_false];rw[o];simp only[cond_true,cond_false]
   exact D9 rfl (Ar<|iV .i64 20) fun H d=>⟨g,(by rw[f];exact ok),Eo<|(by unfold Mw;simp only[A,o,cond_true,cond_false]),(Mem.cast (by rw[f];rfl)<|d.pick [1,2] An rfl)⟩
  ·have D:=r;try simp only[zA]at D
   refine B3 [(0,true),(1,true),(2,true),(3,true),(4,true),(5,true),(6,true),(7,false),(8,false),(9,false),(10,false),(11,false),(12,false),(13,false)] [0,1,2,3,4,5,6] (Mem w M [[cb P (Q4 k) 47],[cb e [sV g xs.length,iV .i64 c,Value.func (.func 31) #[] #[]] 153]]) Aa Aa Aa rfl Aa (fun _ _ L=>L.drawn _) (fun _ L=>L.pick [0,2] An rfl)<|Wd.mp 9 [(1,0),(0,0)] [0,2]<|Cj rfl rfl (Bj (mk:=fun S=>.slice (some ⟨S,0,none⟩) 1 1) (t:=173) (cs:=[iV .u8 k.1,iV .u32 k.2.1,iV .u32 k.2.2.1,iV .u16 k.2.2.2.1,iV .u16 k.2.2.2.2,pL (Cz v)]) rfl fun _=>kr) (Az [1,3]) fun N=>?_
   obtain⟨u,h⟩: ∃Z,xs.take (Bk ordF xs k)++(k,v)::xs.drop (Bk ordF xs k)=Z:=⟨_,rfl⟩
   refine Ca rfl rfl (Au [2,0] [1,3] fun H l O=>(Agq g xs u (k,v) N (Bk ordF xs k) _ _ h O ok (by have U:= @G4;first|omega|exact G4) Ae)) (Az [1,2]) fun E F=>?_
   obtain⟨G,Q⟩:=F
   refine Dh 2 []<|Cj rfl rfl (Bd e 0 2 0 (sV E u.length) sizeOf151 rfl rfl) (.inl Aa) fun _=>?_
   refine Cl<|Al [0,2] An rfl<|Aj []<|Am rfl ?_
   have f:Dv ordF c xs k v=u:=by unfold Dv;rw[A];simp only[cond_true,cond_false];rw[r];simp only[cond_true,cond_false];rw[L6 A];exact h
   exact D9 rfl (Ar<|iV .i64 0) fun H d=>⟨E,(by rw[f];exact G),Eo<|(by unfold Mw;simp only[A,r,cond_true,cond_false]),(Mem.cast (by rw[f];rfl)<|d.pick [0,1] An rfl)⟩
theorem Ags(xs:List ((Int×Int×Int×Int×Int)×(Option Nat)))(g:FS)(c:Int)(e:Nat)(M:List Nat)(k:Int×Int×Int×Int×Int)(w:World)(H:Mem w M [g.seg 173 (mm Gk xs),[cb e [sL g.a xs.length g.cap,Value.int .i64 c,Value.func (.func 31) #[] #[]] 153]] w)(ok:g.ok 6 xs.length)(I:xs.length≤100000)(A:Gj ordF xs):Calls prog 76 #[pV e 0,aV (Kw k)] w (Bn w (fun l:FS=>l.ok 6 (Di xs k).length) (fun _=>bV (Bq xs k)) M (fun l=>[l.seg 173 (mm Gk (Di xs k)),[cb e [.slice l.a (Di xs k).length l.cap,.int .i64 c,Value.func (.func 31) #[] #[]] 153]])):=by
 refine Ap (M:=M) (LL:=[g.seg 173 (mm Gk xs),[cb e [sV g xs.length,iV .i64 c,Value.func (.func 31) #[] #[]] 153]]) (n:=26) func76 rfl rfl A7 (H)<|W.s ?_
 refine Ac<|Af rfl (Bx (Kw k) rfl) fun J=>?_
 refine Ab 1<|Ai<|Av ?_
 refine A5 2 [(0,0)]<|Cb (v:=Value.tuple #[nV .i64 (Bk ordF xs k),bV (Bq xs k)]) (A8 fun B f=>(T1 xs g.a g.cap c e k _ (A4 (i:=2) (j:=0) (t:=153) (b:=e) f rfl rfl) (FS.at (i:=1) (t:=173) f rfl<|Ah ok<|Ld _) D1 A))<|Ab 5<|Ai ?_
 refine Al [1,2] An rfl<|W.s ?_
 refine Aj [] ?_
 refine Ak (Bq xs k) Aa (fun C=>?_) fun F=>?_
 ·have o:=G5 dS A C
  refine Ac<|A5 7 [(1,0)]<|Bw ((((Bk ordF xs k)+1):Nat):Int) (Bk ordF xs k:Int) 1 ?_
  obtain⟨D,d⟩: ∃Z,xs.take (Bk ordF xs k)++xs.drop ((Bk ordF xs k)+1)=Z:=⟨_,rfl⟩
  refine Aw rfl (Au [0] [1] fun B f E=>(Agr g xs D (Bk ordF xs k) _ _ d E ok o.1 Ae)) fun q r=>?_
  obtain⟨u,G⟩:=r
  refine Ab 2<|Af rfl (Bd e 0 1 0 (sV q D.length) sizeOf151 rfl rfl) fun _=>?_
  refine Ai<|Aj []<|Am rfl ?_
  have x:Di xs k=D:=by rw[Lc A C];exact d
  exact D9 rfl (Ar<|bV<|Bq xs k) fun B h=>⟨q,(by rw[x];exact u),Eo<|(by rw[C]),(Mem.cast (by rw[x];rfl)<|h.pick [0,1] An rfl)⟩
 ·refine Ag<|A9<|Aj []<|Am rfl ?_
  have x:Di xs k=xs:=by exact Ns F
  exact D9 rfl (Ar<|bV<|Bq xs k) fun B h=>⟨g,(by rw[x];exact ok),Eo<|(by rw[F]),(Mem.cast (by rw[x];rfl)<|h.pick [0,1] An rfl)⟩
theorem Agt(g:FS)(xs X:List ((Int×Int×Int)×(Lse)))(x:(Int×Int×Int)×(Lse))(c i:Nat)(M:List Nat)(w:World)(d:xs.take i++x::xs.drop i=X)(f:Mem w M [g.seg 234 (mm Gp xs),[cb c (Gp x) 234]] w)(ok:g.ok 5 xs.length)(j:i≤xs.length)(l:xs.length≤100000):
    Calls prog 128 #[.slice g.a xs.length g.cap,.int .i64 (i:Int),.slice (some ⟨c,0,none⟩) 1 1] w (Bn w (fun b:FS=>b.ok 5 X.length∧b.nil=false) (fun b=>.slice b.a X.length b.cap) M (fun b=>[b.seg 234 (mm Gp X)])):=by
  subst d
  have h:=insRD_c g (mm Gp xs) (Gp x) c xs.length i M w f ok (Ch Kq _) j l rfl (Gz Pt _) (Pt _)
  have e:(mm Gp xs).take (i*5)++(Gp x++(mm Gp xs).drop (i*5))=mm Gp (xs.take i++x::xs.drop i):=by rw[Fy Kq,Hz Kq,Kn,Ko]
  have n:(xs.take i++x::xs.drop i).length=xs.length+1:=by simp;omega
  rw[e]at h;rw[n];exact h
theorem Agu(g:FS)(xs X:List ((Int×Int×Int)×(Lse)))(i:Nat)(M:List Nat)(w:World)(c:xs.take i++xs.drop (i+1)=X)(d:Mem w M [g.seg 234 (mm Gp xs)] w)(ok:g.ok 5 xs.length)(f:i<xs.length)(j:xs.length≤100000):
    Calls prog 129 #[.slice g.a xs.length g.cap,.int .i64 (i:Int),.int .i64 ((i+1:Nat):Int)] w (Bn w (fun b:FS=>b.ok 5 X.length∧b.nil=false) (fun b=>.slice b.a X.length b.cap) M (fun b=>[b.seg 234 (mm Gp X)])):=by
  subst c
  have h:=delRD_c g (mm Gp xs) xs.length i M w d ok (Ch Kq _) f j (Gz Pt _)
  have e:(mm Gp xs).take (i*5)++(mm Gp xs).drop ((i+1)*5)=mm Gp (xs.take i++xs.drop (i+1)):=by rw[Fy Kq,Hz Kq,Kn]
  have l:(xs.take i++xs.drop (i+1)).length=xs.length-1:=by simp;omega
  rw[e]at h;rw[l];exact h
abbrev Q5(g:FS)(b:Int)(c:Nat)(xs:List ((Int×Int×Int)×(Lse))):List Blk:=[cb c [sV g xs.length,iV .i64 b,Value.func (.func 33) #[] #[]] 160]
theorem Akt(xs:List ((Int×Int×Int)×(Lse)))(g:FS)(c:Int)(e:Nat)(M:List Nat)(k:Int×Int×Int)(v:Lse)(w:World)(S:Mem w M [g.seg 234 (mm Gp xs),[cb e [sL g.a xs.length g.cap,Value.int .i64 c,Value.func (.func 33) #[] #[]] 160]] w)(ok:g.ok 5 xs.length)(U:xs.length≤100000)(J:Gj Cu xs):Calls prog 81 #[pV e 0,aV (Ky k),aV [iV .u16 v.ext,iV .i64 v.count]] w (Bn w (fun x:FS=>x.ok 5 (Dv Cu c xs k v).length) (fun _=>iV .i64 (Mw c xs k)) M (fun x=>[x.seg 234 (mm Gp (Dv Cu c xs k v)),[cb e [.slice x.a (Dv Cu c xs k v).length x.cap,.int .i64 c,Value.func (.func 33) #[] #[]] 160]])):=by
 refine Ap (M:=M) (LL:=[g.seg 234 (mm Gp xs),Q5 g c e xs]) (n:=49) func81 rfl rfl A7 (S)<|W.s ?_
 refine Ac<|Af rfl (Bx (Ky k) rfl) fun P=>?_
 refine Af rfl (Bx [iV .u16 v.ext,iV .i64 v.count] rfl) fun Q=>Ab 1<|Ai<|W.s ?_
 refine Ac<|A5 2 [(1,0)]<|Cb (v:=Value.tuple #[nV .i64 (Bk Cu xs k),bV (Bq xs k)]) (A8 fun H l=>(T5 xs g.a g.cap c e k _ (A4 (i:=3) (j:=0) (t:=160) (b:=e) l rfl rfl) (FS.at (i:=2) (t:=234) l rfl<|Ah ok<|Lg _) D1 J))<|Ab 5<|Ay ?_
 refine A9<|W.s ?_
 refine W.block<|Aj [] ?_
 refine Ak (Bq xs k) Aa (fun I=>?_) fun A=>?_
 ·have B:=G5 dD J I
  refine C5 [(0,true),(1,true),(2,true),(3,true),(4,true),(5,false),(6,false),(7,false),(8,false)] [0,1,2,3,4]<|Bs 6 [(3,0),(0,0)]<|Wd.yc (v:=Value.pointer<|some<|Cs g.a<|(Bk Cu xs k)*5) rfl rfl rfl (Ys.yc<|Aq (k:=.i64) (a:=g.a) (len:=xs.length) (cap:=g.cap) (i:=(Bk Cu xs k:Int)) (sz:=5) rfl Aa Aa runUnderlying158 sizeOf234 Ae Ae Z6) (.inl Aa)<|Dh 1 []<|Cj rfl rfl (O3 (k:=3) (i:=2) (g:=g) (q:=(Bk Cu xs k)*5) (ty:=234) (cs:=mm Gp xs) (vs:=[iV .u16 v.ext,iV .i64 v.count]) (cs':=mm Gp<|xs.set (Bk Cu xs k) (((xs.getD (Bk Cu xs k) dD).1),v)) (LL':=[[cb Q [iV .u16 v.ext,iV .i64 v.count] 99],[cb P (Ky k) 97],g.seg 234<|mm Gp<|xs.set (Bk Cu xs k) (((xs.getD (Bk Cu xs k) dD).1),v),Q5 g c e xs]) rfl rfl Aa Aa sizeOf99 ma3 (De ok Ae) rfl (by rw[Ch (g:=Gp) (sz:=5) (fun _=>rfl)];(try simp only[List.length_cons,List.length_nil]);omega) (Nq (g:=Gp) (sz:=5) (fun _=>rfl) dD (((xs.getD (Bk Cu xs k) dD).1),v) (by first|decide|(simp only[List.length_cons,List.length_nil];omega)) Ae rfl) rfl) (.inl Aa) fun _=>?_
  refine Cl<|Al [2,3] An rfl<|Aj []<|Am rfl ?_
  have f:Dv Cu c xs k v=xs.set (Bk Cu xs k) (((xs.getD (Bk Cu xs k) dD).1),v):=by unfold Dv;rw[I];simp only[cond_true,cond_false];rw[Nr J I,B.2]
  exact D9 rfl (Ar<|iV .i64 0) fun H d=>⟨g,(by rw[f,List.length_set];exact ok),Eo<|(by unfold Mw;simp only[I,cond_true,cond_false]),(Mem.cast (by rw[f,List.length_set];rfl)<|d.pick [0,1] An rfl)⟩
 ·refine W.s<|C5 [(0,true),(1,true),(2,true),(3,true),(4,true),(5,false),(6,false),(7,false),(8,false),(9,false),(10,false)] [0,1,2,3,4]<|Bs 11 [(3,0),(3,0)]<|Cl ?_
  refine Ak (decide<|((xs.length:Nat):Int)≥c) Aa (fun o=>?_) fun r=>?_
  ·have C:=o;try simp only[zA]at C
   refine Aj []<|Am rfl ?_
   have f:Dv Cu c xs k v=xs:=by unfold Dv;rw[A];simp only[cond_true,cond_false];rw[o];simp only[cond_true,cond_false]
   exact D9 rfl (Ar<|iV .i64 20) fun H d=>⟨g,(by rw[f];exact ok),Eo<|(by unfold Mw;simp only[A,o,cond_true,cond_false]),(Mem.cast (by rw[f];rfl)<|d.pick [2,3] An rfl)⟩
  ·have D:=r;try simp only[zA]at D
   refine B3 [(0,true),(1,true),(2,true),(3,true),(4,true),(5,true),(6,true),(7,false),(8,false),(9,false),(10,false),(11,false),(12,false),(13,false)] [0,1,2,3,4,5,6] (Mem w M [[cb Q [iV .u16 v.ext,iV .i64 v.count] 99],[cb P (Ky k) 97],Q5 g c e xs]) Aa Aa Aa rfl Aa (fun _ _ L=>L.drawn _) (fun _ L=>L.pick [0,1,3] An rfl)<|Wd.mp 9 [(2,0),(1,0),(0,0)] [0,1,3]<|Cj rfl rfl (Bj (mk:=fun T=>.slice (some ⟨T,0,none⟩) 1 1) (t:=234) (cs:=[iV .u8 k.1,iV .u32 k.2.1,iV .u16 k.2.2,iV .u16 v.ext,iV .i64 v.count]) rfl fun _=>kr) (Az [1,2,4]) fun N=>?_
   obtain⟨u,h⟩: ∃Z,xs.take (Bk Cu xs k)++(k,v)::xs.drop (Bk Cu xs k)=Z:=⟨_,rfl⟩
   refine Ca rfl rfl (Au [3,0] [1,2,4] fun H l O=>(Agt g xs u (k,v) N (Bk Cu xs k) _ _ h O ok (by have V:= @G4;first|omega|exact G4) Ae)) (Az [1,2,3]) fun E F=>?_
   obtain⟨G,R⟩:=F
   refine Dh 2 []<|Cj rfl rfl (Bd e 0 3 0 (sV E u.length) sizeOf158 rfl rfl) (.inl Aa) fun _=>?_
   refine Cl<|Al [0,3] An rfl<|Aj []<|Am rfl ?_
   have f:Dv Cu c xs k v=u:=by unfold Dv;rw[A];simp only[cond_true,cond_false];rw[r];simp only[cond_true,cond_false];rw[L6 A];exact h
   exact D9 rfl (Ar<|iV .i64 0) fun H d=>⟨E,(by rw[f];exact G),Eo<|(by unfold Mw;simp only[A,r,cond_true,cond_false]),(Mem.cast (by rw[f];rfl)<|d.pick [0,1] An rfl)⟩
theorem Agv(xs:List ((Int×Int×Int)×(Lse)))(g:FS)(c:Int)(e:Nat)(M:List Nat)(k:Int×Int×Int)(w:World)(H:Mem w M [g.seg 234 (mm Gp xs),[cb e [sL g.a xs.length g.cap,Value.int .i64 c,Value.func (.func 33) #[] #[]] 160]] w)(ok:g.ok 5 xs.length)(I:xs.length≤100000)(A:Gj Cu xs):Calls prog 82 #[pV e 0,aV (Ky k)] w (Bn w (fun l:FS=>l.ok 5 (Di xs k).length) (fun _=>bV (Bq xs k)) M (fun l=>[l.seg 234 (mm Gp (Di xs k)),[cb e [.slice l.a (Di xs k).length l.cap,.int .i64 c,Value.func (.func 33) #[] #[]] 160]])):=by
 refine Ap (M:=M) (LL:=[g.seg 234 (mm Gp xs),[cb e [sV g xs.length,iV .i64 c,Value.func (.func 33) #[] #[]] 160]]) (n:=26) func82 rfl rfl A7 (H)<|W.s ?_
 refine Ac<|Af rfl (Bx (Ky k) rfl) fun J=>?_
 refine Ab 1<|Ai<|Av ?_
 refine A5 2 [(0,0)]<|Cb (v:=Value.tuple #[nV .i64 (Bk Cu xs k),bV (Bq xs k)]) (A8 fun B f=>(T5 xs g.a g.cap c e k _ (A4 (i:=2) (j:=0) (t:=160) (b:=e) f rfl rfl) (FS.at (i:=1) (t:=234) f rfl<|Ah ok<|Lg _) D1 A))<|Ab 5<|Ai ?_
 refine Al [1,2] An rfl<|W.s ?_
 refine Aj [] ?_
 refine Ak (Bq xs k) Aa (fun C=>?_) fun F=>?_
 ·have o:=G5 dD A C
  refine Ac<|A5 7 [(1,0)]<|Bw ((((Bk Cu xs k)+1):Nat):Int) (Bk Cu xs k:Int) 1 ?_
  obtain⟨D,d⟩: ∃Z,xs.take (Bk Cu xs k)++xs.drop ((Bk Cu xs k)+1)=Z:=⟨_,rfl⟩
  refine Aw rfl (Au [0] [1] fun B f E=>(Agu g xs D (Bk Cu xs k) _ _ d E ok o.1 Ae)) fun q r=>?_
  obtain⟨u,G⟩:=r
  refine Ab 2<|Af rfl (Bd e 0 1 0 (sV q D.length) sizeOf158 rfl rfl) fun _=>?_
  refine Ai<|Aj []<|Am rfl ?_
  have x:Di xs k=D:=by rw[Lc A C];exact d
  exact D9 rfl (Ar<|bV<|Bq xs k) fun B h=>⟨q,(by rw[x];exact u),Eo<|(by rw[C]),(Mem.cast (by rw[x];rfl)<|h.pick [0,1] An rfl)⟩
 ·refine Ag<|A9<|Aj []<|Am rfl ?_
  have x:Di xs k=xs:=by exact Ns F
  exact D9 rfl (Ar<|bV<|Bq xs k) fun B h=>⟨g,(by rw[x];exact ok),Eo<|(by rw[F]),(Mem.cast (by rw[x];rfl)<|h.pick [0,1] An rfl)⟩
theorem Agw(g:FS)(xs X:List ((Int)×(Int×Int×Int×Int×Int)))(x:(Int)×(Int×Int×Int×Int×Int))(c i:Nat)(M:List Nat)(w:World)(d:xs.take i++x::xs.drop i=X)(f:Mem w M [g.seg 223 (mm Jf xs),[cb c (Jf x) 223]] w)(ok:g.ok 6 xs.length)(j:i≤xs.length)(l:xs.length≤100000):
    Calls prog 180 #[.slice g.a xs.length g.cap,.int .i64 (i:Int),.slice (some ⟨c,0,none⟩) 1 1] w (Bn w (fun b:FS=>b.ok 6 X.length∧b.nil=false) (fun b=>.slice b.a X.length b.cap) M (fun b=>[b.seg 223 (mm Jf X)])):=by
  subst d
  have h:=insRN_c g (mm Jf xs) (Jf x) c xs.length i M w f ok (Ch Kr _) j l rfl (Gz T0 _) (T0 _)
  have e:(mm Jf xs).take (i*6)++(Jf x++(mm Jf xs).drop (i*6))=mm Jf (xs.take i++x::xs.drop i):=by rw[Fy Kr,Hz Kr,Kn,Ko]
  have n:(xs.take i++x::xs.drop i).length=xs.length+1:=by simp;omega
  rw[e]at h;rw[n];exact h
theorem Agx(g:FS)(xs X:List ((Int)×(Int×Int×Int×Int×Int)))(i:Nat)(M:List Nat)(w:World)(c:xs.take i++xs.drop (i+1)=X)(d:Mem w M [g.seg 223 (mm Jf xs)] w)(ok:g.ok 6 xs.length)(f:i<xs.length)(j:xs.length≤100000):
    Calls prog 125 #[.slice g.a xs.length g.cap,.int .i64 (i:Int),.int .i64 ((i+1:Nat):Int)] w (Bn w (fun b:FS=>b.ok 6 X.length∧b.nil=false) (fun b=>.slice b.a X.length b.cap) M (fun b=>[b.seg 223 (mm Jf X)])):=by
  subst c
  have h:=delRN_c g (mm Jf xs) xs.length i M w d ok (Ch Kr _) f j (Gz T0 _)
  have e:(mm Jf xs).take (i*6)++(mm Jf xs).drop ((i+1)*6)=mm Jf (xs.take i++xs.drop (i+1)):=by rw[Fy Kr,Hz Kr,Kn]
  have l:(xs.take i++xs.drop (i+1)).length=xs.length-1:=by simp;omega
  rw[e]at h;rw[l];exact h
abbrev Q6(b:Nat)(v:Int×Int×Int×Int×Int):List Blk:=[cb b (Kw v) 47]
abbrev Q7(g:FS)(b:Int)(c:Nat)(xs:List ((Int)×(Int×Int×Int×Int×Int))):List Blk:=[cb c [sV g xs.length,iV .i64 b,Value.func (.func 35) #[] #[]] 163]
theorem Aku(xs:List ((Int)×(Int×Int×Int×Int×Int)))(g:FS)(c:Int)(e:Nat)(M:List Nat)(k:Int)(v:Int×Int×Int×Int×Int)(w:World)(R:Mem w M [g.seg 223 (mm Jf xs),[cb e [sL g.a xs.length g.cap,Value.int .i64 c,Value.func (.func 35) #[] #[]] 163]] w)(ok:g.ok 6 xs.length)(T:xs.length≤100000)(J:Gj LO.int xs):Calls prog 154 #[pV e 0,iV .u64 k,aV (Kw v)] w (Bn w (fun x:FS=>x.ok 6 (Dv LO.int c xs k v).length) (fun _=>iV .i64 (Mw c xs k)) M (fun x=>[x.seg 223 (mm Jf (Dv LO.int c xs k v)),[cb e [.slice x.a (Dv LO.int c xs k v).length x.cap,.int .i64 c,Value.func (.func 35) #[] #[]] 163]])):=by
 refine Ap (M:=M) (LL:=[g.seg 223 (mm Jf xs),Q7 g c e xs]) (n:=49) func154 rfl rfl A7 (R)<|W.s ?_
 refine Ac<|Af rfl (Bx (Kw v) rfl) fun P=>?_
 refine Ab 1<|Ai<|Av ?_
 refine Ab 2<|Cb (v:=Value.tuple #[nV .i64 (Bk LO.int xs k),bV (Bq xs k)]) (A8 fun H l=>(T6 xs g.a g.cap c e k _ (A4 (i:=2) (j:=0) (t:=163) (b:=e) l rfl rfl) (FS.at (i:=1) (t:=223) l rfl<|Ah ok<|Ru _) D1 J))<|Ab 5<|Ai ?_
 refine W.s<|W.block<|Aj [] ?_
 refine Ak (Bq xs k) Aa (fun I=>?_) fun A=>?_
 ·have B:=G5 dN J I
  refine C5 [(0,true),(1,true),(2,true),(3,true),(4,true),(5,false),(6,false),(7,false),(8,false)] [0,1,2,3,4]<|Bs 6 [(2,0),(0,0)]<|Wd.yc (v:=Value.pointer<|some<|Cs g.a<|(Bk LO.int xs k)*6) rfl rfl rfl (Ys.yc<|Aq (k:=.i64) (a:=g.a) (len:=xs.length) (cap:=g.cap) (i:=(Bk LO.int xs k:Int)) (sz:=6) rfl Aa Aa runUnderlying161 sizeOf223 Ae Ae Z6) (.inl Aa)<|Dh 1 []<|Cj rfl rfl (O3 (k:=1) (i:=1) (g:=g) (q:=(Bk LO.int xs k)*6) (ty:=223) (cs:=mm Jf xs) (vs:=(Kw v)) (cs':=mm Jf<|xs.set (Bk LO.int xs k) (((xs.getD (Bk LO.int xs k) dN).1),v)) (LL':=[Q6 P v,g.seg 223<|mm Jf<|xs.set (Bk LO.int xs k) (((xs.getD (Bk LO.int xs k) dN).1),v),Q7 g c e xs]) rfl rfl Aa Aa sizeOf47 ma3 (De ok Ae) rfl (by rw[Ch (g:=Jf) (sz:=6) (fun _=>rfl)];(try simp only[List.length_cons,List.length_nil]);omega) (Nq (g:=Jf) (sz:=6) (fun _=>rfl) dN (((xs.getD (Bk LO.int xs k) dN).1),v) (by first|decide|(simp only[List.length_cons,List.length_nil];omega)) Ae rfl) rfl) (.inl Aa) fun _=>?_
  refine Cl<|Al [1,2] An rfl<|Aj []<|Am rfl ?_
  have f:Dv LO.int c xs k v=xs.set (Bk LO.int xs k) (((xs.getD (Bk LO.int xs k) dN).1),v):=by unfold Dv;rw[I];simp only[cond_true,cond_false];rw[Nr J I,B.2]
  exact D9 rfl (Ar<|iV .i64 0) fun H d=>⟨g,(by rw[f,List.length_set];exact ok),Eo<|(by unfold Mw;simp only[I,cond_true,cond_false]),(Mem.cast (by rw[f,List.length_set];rfl)<|d.pick [0,1] An rfl)⟩
 ·refine W.s<|C5 [(0,true),(1,true),(2,true),(3,true),(4,true),(5,false),(6,false),(7,false),(8,false),(9,false),(10,false)] [0,1,2,3,4]<|Bs 11 [(2,0),(2,0)]<|Cl ?_
  refine Ak (decide<|((xs.length:Nat):Int)≥c) Aa (fun o=>?_) fun r=>?_
  ·have C:=o;try simp only[zA]at C
   refine Aj []<|Am rfl ?_
   have f:Dv LO.int c xs k v=xs:=by unfold Dv;rw[A];simp only[cond_true,cond_false];rw[o];simp only[cond_true,cond_false]
   exact D9 rfl (Ar<|iV .i64 20) fun H d=>⟨g,(by rw[f];exact ok),Eo<|(by unfold Mw;simp only[A,o,cond_true,cond_false]),(Mem.cast (by rw[f];rfl)<|d.pick [1,2] An rfl)⟩
  ·have D:=r;try simp only[zA]at D
   refine B3 [(0,true),(1,true),(2,true),(3,true),(4,true),(5,true),(6,true),(7,false),(8,false),(9,false),(10,false),(11,false),(12,false),(13,false)] [0,1,2,3,4,5,6] (Mem w M [Q6 P v,Q7 g c e xs]) Aa Aa Aa rfl Aa (fun _ _ L=>L.drawn _) (fun _ L=>L.pick [0,2] An rfl)<|Wd.mp 9 [(1,0),(0,0)] [0,2]<|Cj rfl rfl (Bj (mk:=fun S=>.slice (some ⟨S,0,none⟩) 1 1) (t:=223) (cs:=[iV .u64 k,iV .u8 v.1,iV .u32 v.2.1,iV .u32 v.2.2.1,iV .u16 v.2.2.2.1,iV .u16 v.2.2.2.2]) rfl fun _=>kr) (Az [1,3]) fun N=>?_
   obtain⟨u,h⟩: ∃Z,xs.take (Bk LO.int xs k)++(k,v)::xs.drop (Bk LO.int xs k)=Z:=⟨_,rfl⟩
   refine Ca rfl rfl (Au [2,0] [1,3] fun H l O=>(Agw g xs u (k,v) N (Bk LO.int xs k) _ _ h O ok (by have U:= @G4;first|omega|exact G4) Ae)) (Az [1,2]) fun E F=>?_
   obtain⟨G,Q⟩:=F
   refine Dh 2 []<|Cj rfl rfl (Bd e 0 2 0 (sV E u.length) sizeOf161 rfl rfl) (.inl Aa) fun _=>?_
   refine Cl<|Al [0,2] An rfl<|Aj []<|Am rfl ?_
   have f:Dv LO.int c xs k v=u:=by unfold Dv;rw[A];simp only[cond_true,cond_false];rw[r];simp only[cond_true,cond_false];rw[L6 A];exact h
   exact D9 rfl (Ar<|iV .i64 0) fun H d=>⟨E,(by rw[f];exact G),Eo<|(by unfold Mw;simp only[A,r,cond_true,cond_false]),(Mem.cast (by rw[f];rfl)<|d.pick [0,1] An rfl)⟩
theorem Agy(xs:List ((Int)×(Int×Int×Int×Int×Int)))(g:FS)(c:Int)(d:Nat)(M:List Nat)(k:Int)(w:World)(H:Mem w M [g.seg 223 (mm Jf xs),[cb d [sL g.a xs.length g.cap,Value.int .i64 c,Value.func (.func 35) #[] #[]] 163]] w)(ok:g.ok 6 xs.length)(I:xs.length≤100000)(A:Gj LO.int xs):Calls prog 77 #[pV d 0,iV .u64 k] w (Bn w (fun h:FS=>h.ok 6 (Di xs k).length) (fun _=>bV (Bq xs k)) M (fun h=>[h.seg 223 (mm Jf (Di xs k)),[cb d [.slice h.a (Di xs k).length h.cap,.int .i64 c,Value.func (.func 35) #[] #[]] 163]])):=by
 refine Ap (M:=M) (LL:=[g.seg 223 (mm Jf xs),[cb d [sV g xs.length,iV .i64 c,Value.func (.func 35) #[] #[]] 163]]) (n:=26) func77 rfl rfl A7 (H)<|Aj []<|Av<|Ab 2 ?_
 refine Cb (v:=Value.tuple #[nV .i64 (Bk LO.int xs k),bV (Bq xs k)]) (A8 fun B e=>(T6 xs g.a g.cap c d k _ (A4 (i:=1) (j:=0) (t:=163) (b:=d) e rfl rfl) (FS.at (i:=0) (t:=223) e rfl<|Ah ok<|Ru _) D1 A))<|Ab 5<|Ai<|W.s ?_
 refine Aj [] ?_
 refine Ak (Bq xs k) Aa (fun C=>?_) fun F=>?_
 ·have l:=G5 dN A C
  refine Ac<|A5 7 [(1,0)]<|Bw ((((Bk LO.int xs k)+1):Nat):Int) (Bk LO.int xs k:Int) 1 ?_
  obtain⟨D,o⟩: ∃Z,xs.take (Bk LO.int xs k)++xs.drop ((Bk LO.int xs k)+1)=Z:=⟨_,rfl⟩
  refine Aw rfl (Au [0] [1] fun B e E=>(Agx g xs D (Bk LO.int xs k) _ _ o E ok l.1 Ae)) fun q r=>?_
  obtain⟨u,G⟩:=r
  refine Ab 2<|Af rfl (Bd d 0 1 0 (sV q D.length) sizeOf161 rfl rfl) fun _=>?_
  refine Ai<|Aj []<|Am rfl ?_
  have x:Di xs k=D:=by rw[Lc A C];exact o
  exact D9 rfl (Ar<|bV<|Bq xs k) fun B f=>⟨q,(by rw[x];exact u),Eo<|(by rw[C]),(Mem.cast (by rw[x];rfl)<|f.pick [0,1] An rfl)⟩
 ·refine Ag<|A9<|Aj []<|Am rfl ?_
  have x:Di xs k=xs:=by exact Ns F
  exact D9 rfl (Ar<|bV<|Bq xs k) fun B f=>⟨g,(by rw[x];exact ok),Eo<|(by rw[F]),(Mem.cast (by rw[x];rfl)<|f.pick [0,1] An rfl)⟩
theorem Acf(xs:List ((Int×Int×Int×Int×Int)×(Option Nat)))(a:Option Addr)(cap:Nat)(w:World)(h:At w a (mm Gk xs))(D:xs.length≤100000):Calls prog 73 #[sL a xs.length cap] w (Bn w (fun f:FS=>f.ok 6 xs.length) (fun f=>.slice f.a xs.length f.cap) [] (fun f=>[f.seg 173 (mm Gk xs)])):=by
 refine Ap (M:=[]) (LL:=[]) (n:=8) func73 rfl rfl A7 (Mem.refl _)<|Aj []<|W.s<|Av ?_
 refine Ab 1<|Ao (v:=bV a.isNone) (Ys.pure fun _=>by generalize a=a_;cases a_<;>kernel_rfl)<|Ai ?_
 refine Ak (a.isNone) Aa (fun u=>?_) fun E=>?_
 ·refine Aj []<|Am rfl ?_
  have b:xs=[]:=List.length_eq_zero_iff.1 (by have x:=Km h u;rw[Ld]at x;omega)
  exact D9 rfl (Ar<|sL none 0 0) fun o d=>⟨FS.nul,(by rw[b];exact B6 6),Eo<|(by rw[b];rfl),(Mem.cast (by rw[b];rfl)<|Mem.push d)⟩
 ·refine Ag<|A9<|Av<|Af rfl (Bj (mk:=fun A=>.slice (some ⟨A,0,none⟩) 0 0) (t:=173) (cs:=[]) rfl fun _=>kr) fun B=>?_
  refine Ab 1<|Aw rfl (HtS.append (eu:=173) (xv:=sL a xs.length cap) (i:=0) (g:=(FS.mk false B 0 [])) (e:=173) (ii:=(prog.info? 173).getD default) (z:=aV zl8) (sz:=6) (bytes:=24) (nn:=0) (m:=xs.length) (k:=xs.length) (xs:=mm Gk []) (news:=mm Gk xs) (cs':=mm Gk xs) (Lo:=fun c=>[c.seg 173 (mm Gk xs)]) rfl rfl Aa Aa Aa Aa Aa Aa Aa Aa Aa rfl (D4 An) rfl (fun _=>rfl) (Src.at (a:=a) (Ch (g:=Gk) (sz:=6) (fun _=>rfl) _) fun o C=>(h.mem0 C)) (Ch (g:=Gk) (sz:=6) (fun _=>rfl) _) (Gz Ps _) Ey Ho Ey rfl fun _=>rfl) fun c j=>?_
  obtain⟨l,q,r⟩:=j
  refine Ab 1<|Ai<|Am rfl<|D9 rfl (Ar<|sV c xs.length) fun o d=>⟨c,l,rfl,(d.pick [0] An rfl)⟩
theorem Xf(c:Nat)(w:World):Calls prog 38 #[pV c 0] w (Bn w (fun _:Nat=>True) (fun b=>.func (.func 72) #[] #[.pointer (some ⟨b,0,none⟩)]) [] (fun b=>[[cb b [.pointer (some ⟨c,0,none⟩)] 85]])):=by
 refine Ap (M:=[]) (LL:=[]) (n:=4) func38 rfl rfl A7 (Mem.refl _)<|W.s ?_
 refine Ac<|Af rfl (E9 (v:=pV c 0) (cs:=[pV c 0]) rfl rfl Aa rfl) fun e=>?_
 refine Ab 1<|Ai<|Aj []<|Am rfl<|D9 rfl (Ar<|Value.func (.func 72) #[] #[pV e 0]) fun f d=>⟨e,trivial,rfl,(d.pick [0] An rfl)⟩
theorem Agz(xs:List ((Int×Int×Int×Int×Int)×(Option Nat)))(a:Option Addr)(cap:Nat)(B:Int)(d e:Nat)(M:List Nat)(τ:Type)(I:Value)(U:τ→List Blk)(Φ:Nat→τ→Prop)(Ψ:τ→Prop)(C:τ)(w:World)(J:At w (some ⟨d,0,none⟩) [sL a xs.length cap,Value.int .i64 B,Value.func (.func 31) #[] #[]])(L:At w a (mm Gk xs))(hn:xs.length≤100000)(N:(∀i s (R:List (List Blk)) (u:World) (Mu:List Nat),i<xs.length→Φ i s→Keeps w M u Mu→Yld prog I ((fun k:Nat=>[Value.agg ([Value.int .u8 (((xs.getD k dS).1).1),Value.int .u32 (((xs.getD k dS).1).2.1),Value.int .u32 (((xs.getD k dS).1).2.2.1),Value.int .u16 (((xs.getD k dS).1).2.2.2.1),Value.int .u16 (((xs.getD k dS).1).2.2.2.2)]).toArray,pL (Cz ((xs.getD k dS).2))]) i).toArray (Mem u Mu (U s::R)) (fun b w'=> ∃O,(bif b then Φ (i+1) O else Ψ O)∧Mem u Mu (U O::R) w')))(h0:Φ 0 C)(P:Mem w M [U C,[cb e [pL (some ⟨d,0,none⟩)] 85]] w)(D: ∀k∈M,k∈([U C,[cb e [pL (some ⟨d,0,none⟩)] 85]]:List (List Blk)).flatten.map (·.b)):Calls prog 72 #[I,pV e 0] w (Bn w (fun s:τ=>Φ xs.length s∨Ψ s) (fun _=>.tuple #[]) M (fun s=>[U s,[cb e [pV d 0] 85]])):=by
 refine Ap (M:=M) (LL:=[U C,[cb e [pV d 0] 85]]) (n:=23) func72 rfl rfl A7 (P)<|W.s ?_
 refine Ac<|A5 3 [(1,0)]<|Ao (Ys.ld (a:=⟨d,0,none⟩) rfl Aa isAgg151 fun h l=>by have x_:=(Pp J P D l).ld (q:=0) (v:=sL a xs.length cap) rfl;rw[Be]at x_;exact x_)<|Aw rfl (Au [] [0,1] fun h Q af=>(Acf xs a cap _ (Pp L P D Q) D1)) fun f E=>Ab 2 ?_
 refine Ai<|W.block<|Fx [0,9,10,11] (fun(k:Nat) (s:τ)=>[I,sV f xs.length,nV .i64 xs.length,nV .i64 k]) (fun(k:Nat) (s:τ)=>k≤xs.length∧Φ k s) (fun(k:Nat) (s:τ)=>[f.seg 173 (mm Gk xs),U s,[cb e [pV d 0] 85]]) (fun(k:Nat) (s:τ)=>xs.length-k) 0 C Aa ⟨(Nat.zero_le _),h0⟩ (by rfl) fun k s f7 J6 S T=>?_
 obtain⟨hk,j⟩:=S
 refine Aj []<|W.s ?_
 refine Ak (decide<|((k:Nat):Int)<(xs.length:Int)) Aa (fun V=>?_) fun X=>?_
 ·have F:=V;try simp only[zA]at F
  refine Ag<|A9<|W.s<|W.block<|W.s ?_
  refine Ac<|Ao (v:=pL<|some<|Cs f.a<|k*6) (Aq (k:=.i64) (a:=f.a) (len:=xs.length) (cap:=f.cap) (i:=(k:Int)) (sz:=6) rfl Aa Aa runUnderlying151 sizeOf173 Ae Ae<|by rw[Et (De E Ae)];rfl)<|Ao (v:=aV [iV .u8 (((xs.getD k dS).1).1),iV .u32<|((xs.getD k dS).1).2.1,iV .u32<|((xs.getD k dS).1).2.2.1,iV .u16<|((xs.getD k dS).1).2.2.2.1,iV .u16<|((xs.getD k dS).1).2.2.2.2,pL (Cz<|(xs.getD k dS).2)]) (Ys.ldN (a:=Cs f.a<|k*6) (vs:=[iV .u8 (((xs.getD k dS).1).1),iV .u32<|((xs.getD k dS).1).2.1,iV .u32<|((xs.getD k dS).1).2.2.1,iV .u16<|((xs.getD k dS).1).2.2.2.1,iV .u16<|((xs.getD k dS).1).2.2.2.2,pL (Cz<|(xs.getD k dS).2)]) rfl Aa isAgg173 sizeOf173 rfl fun h l=>(FS.at (i:=0) (t:=173) l rfl<|Ah E<|Ld _).ldN<|Db (g:=Gk) (sz:=6) (fun _=>rfl) dS (xs:=xs) (k:=k) Ae)<|Af rfl (Ba zeroValue173) fun H=>Af rfl (A0 H 0 0 0 [iV .u8 (((xs.getD k dS).1).1),iV .u32<|((xs.getD k dS).1).2.1,iV .u32<|((xs.getD k dS).1).2.2.1,iV .u16<|((xs.getD k dS).1).2.2.2.1,iV .u16<|((xs.getD k dS).1).2.2.2.2,pL (Cz<|(xs.getD k dS).2)] sizeOf173 rfl rfl) fun _=>?_
  refine Ai<|Av<|A5 5 [(0,0),(0,0)] ?_
  refine Nf rfl (Kh (σ:=τ) (Φ:=fun b s=>bif b then Φ (k+1) s else Ψ s) (Lf:=fun s=>[U s,[cb H [iV .u8 (((xs.getD k dS).1).1),iV .u32<|((xs.getD k dS).1).2.1,iV .u32<|((xs.getD k dS).1).2.2.1,iV .u16<|((xs.getD k dS).1).2.2.2.1,iV .u16<|((xs.getD k dS).1).2.2.2.2,pL (Cz<|(xs.getD k dS).2)] 173],f.seg 173<|mm Gk xs,[cb e [pV d 0] 85]]) (args:= #[aV (Kw<|(xs.getD k dS).1),pL (Cz<|(xs.getD k dS).2)]) rfl rfl (fun _=>kr)<|Nn rfl<|Pq (fun _ l=>l.pick [2,0,1,3] An rfl)<|N (k) s [[cb H [iV .u8 (((xs.getD k dS).1).1),iV .u32<|((xs.getD k dS).1).2.1,iV .u32<|((xs.getD k dS).1).2.2.1,iV .u16<|((xs.getD k dS).1).2.2.2.1,iV .u16<|((xs.getD k dS).1).2.2.2.2,pL (Cz<|(xs.getD k dS).2)] 173],f.seg 173<|mm Gk xs,[cb e [pV d 0] 85]] w M Ae j<|Keeps.refl _ _) fun Y=>?_
  obtain⟨⟨o,r⟩,c⟩:=Y
  refine B0 (LL':=[U r,[cb H [iV .u8 (((xs.getD k dS).1).1),iV .u32<|((xs.getD k dS).1).2.1,iV .u32<|((xs.getD k dS).1).2.2.1,iV .u16<|((xs.getD k dS).1).2.2.2.1,iV .u16<|((xs.getD k dS).1).2.2.2.2,pL (Cz<|(xs.getD k dS).2)] 173],f.seg 173<|mm Gk xs,[cb e [pV d 0] 85]]) rfl<|Ab 1<|Ai<|Al [0,2,3] An rfl ?_
  refine Ak (!o) Aa (fun Z=>?_) fun aa=>?_
  ·refine Am rfl fun h x=>Iv rfl ⟨r,(.inr (by have A:o=false:=(by simpa using Z);rw[A]at c;exact c)),rfl,(x.pick [0,2] An rfl)⟩
  ·refine Ag<|A9<|Ac<|Bw (((k+1):Nat):Int) (k:Int) 1<|Ab 1 ?_
   refine Ay ?_
   refine fun h l=>T (k+1) r _ h Ae ⟨Ae,(by have A:o=true:=(by simpa using aa);rw[A]at c;exact c)⟩ ?_<|l.pick [1,0,2] An rfl
   kernel_rfl
 ·have G:=X;try simp only[zA]at G
  refine Cm ?_
  show∀h,_→bodyPostM (Cv none) 0 prog Tryz.f72 _ Exit.normal _ h
  exact fun h x=>Ei<|Iv rfl ⟨s,(.inl (by rw[show xs.length=k by omega];exact j)),rfl,(x.pick [1,2] An rfl)⟩
theorem T7(xs:List ((Int×Int×Int×Int×Int)×(Option Nat)))(a:Option Addr)(cap:Nat)(b:Int)(c d:Nat)(M:List Nat)(w:World)(e:At w (some ⟨c,0,none⟩) [Value.slice a xs.length cap,Value.int .i64 b,Value.func (.func 31) #[] #[]])(f:At w a (mm Gk xs))(i:xs.length≤100000):
    Iter2 prog 72 #[.pointer (some ⟨d,0,none⟩)] (fun k:Nat=>[Value.agg ([Value.int .u8 (((xs.getD k dS).1).1),Value.int .u32 (((xs.getD k dS).1).2.1),Value.int .u32 (((xs.getD k dS).1).2.2.1),Value.int .u16 (((xs.getD k dS).1).2.2.2.1),Value.int .u16 (((xs.getD k dS).1).2.2.2.2)]).toArray,Value.pointer (Cz ((xs.getD k dS).2))]) xs.length [[cb d [Value.pointer (some ⟨c,0,none⟩)] 85]] w M:=fun τ j U Φ Ψ l g n o h=>Agz xs a cap b c d M τ j U Φ Ψ l w e f i g n o h
theorem Acg(xs:List ((Int×Int×Int)×(Lse)))(a:Option Addr)(cap:Nat)(w:World)(h:At w a (mm Gp xs))(D:xs.length≤100000):Calls prog 121 #[sL a xs.length cap] w (Bn w (fun f:FS=>f.ok 5 xs.length) (fun f=>.slice f.a xs.length f.cap) [] (fun f=>[f.seg 234 (mm Gp xs)])):=by
 refine Ap (M:=[]) (LL:=[]) (n:=8) func121 rfl rfl A7 (Mem.refl _)<|Aj []<|W.s<|Av ?_
 refine Ab 1<|Ao (v:=bV a.isNone) (Ys.pure fun _=>by generalize a=a_;cases a_<;>kernel_rfl)<|Ai ?_
 refine Ak (a.isNone) Aa (fun u=>?_) fun E=>?_
 ·refine Aj []<|Am rfl ?_
  have b:xs=[]:=List.length_eq_zero_iff.1 (by have x:=Km h u;rw[Lg]at x;omega)
  exact D9 rfl (Ar<|sL none 0 0) fun o d=>⟨FS.nul,(by rw[b];exact B6 5),Eo<|(by rw[b];rfl),(Mem.cast (by rw[b];rfl)<|Mem.push d)⟩
 ·refine Ag<|A9<|Av<|Af rfl (Bj (mk:=fun A=>.slice (some ⟨A,0,none⟩) 0 0) (t:=234) (cs:=[]) rfl fun _=>kr) fun B=>?_
  refine Ab 1<|Aw rfl (HtS.append (eu:=234) (xv:=sL a xs.length cap) (i:=0) (g:=(FS.mk false B 0 [])) (e:=234) (ii:=(prog.info? 234).getD default) (z:=aV Vn) (sz:=5) (bytes:=32) (nn:=0) (m:=xs.length) (k:=xs.length) (xs:=mm Gp []) (news:=mm Gp xs) (cs':=mm Gp xs) (Lo:=fun c=>[c.seg 234 (mm Gp xs)]) rfl rfl Aa Aa Aa Aa Aa Aa Aa Aa Aa rfl (D4 An) rfl (fun _=>rfl) (Src.at (a:=a) (Ch (g:=Gp) (sz:=5) (fun _=>rfl) _) fun o C=>(h.mem0 C)) (Ch (g:=Gp) (sz:=5) (fun _=>rfl) _) (Gz Pt _) Ey Ho Ey rfl fun _=>rfl) fun c j=>?_
  obtain⟨l,q,r⟩:=j
  refine Ab 1<|Ai<|Am rfl<|D9 rfl (Ar<|sV c xs.length) fun o d=>⟨c,l,rfl,(d.pick [0] An rfl)⟩
theorem Xg(c:Nat)(w:World):Calls prog 71 #[pV c 0] w (Bn w (fun _:Nat=>True) (fun b=>.func (.func 120) #[] #[.pointer (some ⟨b,0,none⟩)]) [] (fun b=>[[cb b [.pointer (some ⟨c,0,none⟩)] 86]])):=by
 refine Ap (M:=[]) (LL:=[]) (n:=4) func71 rfl rfl A7 (Mem.refl _)<|W.s ?_
 refine Ac<|Af rfl (E9 (v:=pV c 0) (cs:=[pV c 0]) rfl rfl Aa rfl) fun e=>?_
 refine Ab 1<|Ai<|Aj []<|Am rfl<|D9 rfl (Ar<|Value.func (.func 120) #[] #[pV e 0]) fun f d=>⟨e,trivial,rfl,(d.pick [0] An rfl)⟩
theorem Ag0(xs:List ((Int×Int×Int)×(Lse)))(a:Option Addr)(cap:Nat)(B:Int)(d e:Nat)(M:List Nat)(τ:Type)(I:Value)(U:τ→List Blk)(Φ:Nat→τ→Prop)(Ψ:τ→Prop)(C:τ)(w:World)(J:At w (some ⟨d,0,none⟩) [sL a xs.length cap,Value.int .i64 B,Value.func (.func 33) #[] #[]])(L:At w a (mm Gp xs))(hn:xs.length≤100000)(N:(∀i s (R:List (List Blk)) (u:World) (Mu:List Nat),i<xs.length→Φ i s→Keeps w M u Mu→Yld prog I ((fun k:Nat=>[Value.agg ([Value.int .u8 (((xs.getD k dD).1).1),Value.int .u32 (((xs.getD k dD).1).2.1),Value.int .u16 (((xs.getD k dD).1).2.2)]).toArray,Value.agg ([Value.int .u16 (((xs.getD k dD).2).ext),Value.int .i64 (((xs.getD k dD).2).count)]).toArray]) i).toArray (Mem u Mu (U s::R)) (fun b w'=> ∃O,(bif b then Φ (i+1) O else Ψ O)∧Mem u Mu (U O::R) w')))(h0:Φ 0 C)(P:Mem w M [U C,[cb e [pL (some ⟨d,0,none⟩)] 86]] w)(D: ∀k∈M,k∈([U C,[cb e [pL (some ⟨d,0,none⟩)] 86]]:List (List Blk)).flatten.map (·.b)):Calls prog 120 #[I,pV e 0] w (Bn w (fun s:τ=>Φ xs.length s∨Ψ s) (fun _=>.tuple #[]) M (fun s=>[U s,[cb e [pV d 0] 86]])):=by
 refine Ap (M:=M) (LL:=[U C,[cb e [pV d 0] 86]]) (n:=23) func120 rfl rfl A7 (P)<|W.s ?_
 refine Ac<|A5 3 [(1,0)]<|Ao (Ys.ld (a:=⟨d,0,none⟩) rfl Aa isAgg158 fun h l=>by have x_:=(Pp J P D l).ld (q:=0) (v:=sL a xs.length cap) rfl;rw[Be]at x_;exact x_)<|Aw rfl (Au [] [0,1] fun h Q af=>(Acg xs a cap _ (Pp L P D Q) D1)) fun f E=>Ab 2 ?_
 refine Ai<|W.block<|Fx [0,9,10,11] (fun(k:Nat) (s:τ)=>[I,sV f xs.length,nV .i64 xs.length,nV .i64 k]) (fun(k:Nat) (s:τ)=>k≤xs.length∧Φ k s) (fun(k:Nat) (s:τ)=>[f.seg 234 (mm Gp xs),U s,[cb e [pV d 0] 86]]) (fun(k:Nat) (s:τ)=>xs.length-k) 0 C Aa ⟨(Nat.zero_le _),h0⟩ (by rfl) fun k s f7 J6 S T=>?_
 obtain⟨hk,j⟩:=S
 refine Aj []<|W.s ?_
 refine Ak (decide<|((k:Nat):Int)<(xs.length:Int)) Aa (fun V=>?_) fun X=>?_
 ·have F:=V;try simp only[zA]at F
  refine Ag<|A9<|W.s<|W.block<|W.s ?_
  refine Ac<|Ao (v:=pL<|some<|Cs f.a<|k*5) (Aq (k:=.i64) (a:=f.a) (len:=xs.length) (cap:=f.cap) (i:=(k:Int)) (sz:=5) rfl Aa Aa runUnderlying158 sizeOf234 Ae Ae<|by rw[Et (De E Ae)];rfl)<|Ao (v:=aV [iV .u8 (((xs.getD k dD).1).1),iV .u32<|((xs.getD k dD).1).2.1,iV .u16<|((xs.getD k dD).1).2.2,iV .u16<|((xs.getD k dD).2).ext,iV .i64 (((xs.getD k dD).2).count)]) (Ys.ldN (a:=Cs f.a<|k*5) (vs:=[iV .u8 (((xs.getD k dD).1).1),iV .u32<|((xs.getD k dD).1).2.1,iV .u16<|((xs.getD k dD).1).2.2,iV .u16<|((xs.getD k dD).2).ext,iV .i64 (((xs.getD k dD).2).count)]) rfl Aa isAgg234 sizeOf234 rfl fun h l=>(FS.at (i:=0) (t:=234) l rfl<|Ah E<|Lg _).ldN<|Db (g:=Gp) (sz:=5) (fun _=>rfl) dD (xs:=xs) (k:=k) Ae)<|Af rfl (Ba zeroValue234) fun H=>Af rfl (A0 H 0 0 0 [iV .u8 (((xs.getD k dD).1).1),iV .u32<|((xs.getD k dD).1).2.1,iV .u16<|((xs.getD k dD).1).2.2,iV .u16<|((xs.getD k dD).2).ext,iV .i64 (((xs.getD k dD).2).count)] sizeOf234 rfl rfl) fun _=>?_
  refine Ai<|Av<|A5 5 [(0,0),(0,0)] ?_
  refine Nf rfl (Kh (σ:=τ) (Φ:=fun b s=>bif b then Φ (k+1) s else Ψ s) (Lf:=fun s=>[U s,[cb H [iV .u8 (((xs.getD k dD).1).1),iV .u32<|((xs.getD k dD).1).2.1,iV .u16<|((xs.getD k dD).1).2.2,iV .u16<|((xs.getD k dD).2).ext,iV .i64 (((xs.getD k dD).2).count)] 234],f.seg 234<|mm Gp xs,[cb e [pV d 0] 86]]) (args:= #[aV (Ky<|(xs.getD k dD).1),aV [iV .u16 (((xs.getD k dD).2).ext),iV .i64 (((xs.getD k dD).2).count)]]) rfl rfl (fun _=>kr)<|Nn rfl<|Pq (fun _ l=>l.pick [2,0,1,3] An rfl)<|N (k) s [[cb H [iV .u8 (((xs.getD k dD).1).1),iV .u32<|((xs.getD k dD).1).2.1,iV .u16<|((xs.getD k dD).1).2.2,iV .u16<|((xs.getD k dD).2).ext,iV .i64 (((xs.getD k dD).2).count)] 234],f.seg 234<|mm Gp xs,[cb e [pV d 0] 86]] w M Ae j<|Keeps.refl _ _) fun Y=>?_
  obtain⟨⟨o,r⟩,c⟩:=Y
  refine B0 (LL':=[U r,[cb H [iV .u8 (((xs.getD k dD).1).1),iV .u32<|((xs.getD k dD).1).2.1,iV .u16<|((xs.getD k dD).1).2.2,iV .u16<|((xs.getD k dD).2).ext,iV .i64 (((xs.getD k dD).2).count)] 234],f.seg 234<|mm Gp xs,[cb e [pV d 0] 86]]) rfl<|Ab 1<|Ai<|Al [0,2,3] An rfl ?_
  refine Ak (!o) Aa (fun Z=>?_) fun aa=>?_
  ·refine Am rfl fun h x=>Iv rfl ⟨r,(.inr (by have A:o=false:=(by simpa using Z);rw[A]at c;exact c)),rfl,(x.pick [0,2] An rfl)⟩
  ·refine Ag<|A9<|Ac<|Bw (((k+1):Nat):Int) (k:Int) 1<|Ab 1 ?_
   refine Ay ?_
   refine fun h l=>T (k+1) r _ h Ae ⟨Ae,(by have A:o=true:=(by simpa using aa);rw[A]at c;exact c)⟩ ?_<|l.pick [1,0,2] An rfl
   kernel_rfl
 ·have G:=X;try simp only[zA]at G
  refine Cm ?_
  show∀h,_→bodyPostM (Cv none) 0 prog Tryz.f120 _ Exit.normal _ h
  exact fun h x=>Ei<|Iv rfl ⟨s,(.inl (by rw[show xs.length=k by omega];exact j)),rfl,(x.pick [1,2] An rfl)⟩
theorem T8(xs:List ((Int×Int×Int)×(Lse)))(a:Option Addr)(cap:Nat)(b:Int)(c d:Nat)(M:List Nat)(w:World)(e:At w (some ⟨c,0,none⟩) [Value.slice a xs.length cap,Value.int .i64 b,Value.func (.func 33) #[] #[]])(f:At w a (mm Gp xs))(i:xs.length≤100000):
    Iter2 prog 120 #[.pointer (some ⟨d,0,none⟩)] (fun k:Nat=>[Value.agg ([Value.int .u8 (((xs.getD k dD).1).1),Value.int .u32 (((xs.getD k dD).1).2.1),Value.int .u16 (((xs.getD k dD).1).2.2)]).toArray,Value.agg ([Value.int .u16 (((xs.getD k dD).2).ext),Value.int .i64 (((xs.getD k dD).2).count)]).toArray]) xs.length [[cb d [Value.pointer (some ⟨c,0,none⟩)] 86]] w M:=fun τ j U Φ Ψ l g n o h=>Ag0 xs a cap b c d M τ j U Φ Ψ l w e f i g n o h
end Go.Proofs.YtmonlaoaengfdaaGreatDoor.Oct
