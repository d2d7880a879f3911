import Derived.Test.YtmonlaoaengfdaaGreatDoorM2
set_option linter.unusedVariables false
set_option linter.unusedSimpArgs false
set_option maxRecDepth 20000
namespace Go.Proofs.YtmonlaoaengfdaaGreatDoor.Oct
open Go.RowKit Base
attribute [local irreducible] Ys Yc Ht HtS HtIn Wl Wd W Mem pf D4 Wa Wo
namespace ZS
theorem drop_take{cs r:List Value}{n i s:Nat}(hc:cs.length=n*s)(hi:i≤n):((cs++r).drop (i*s)).take ((n-i)*s)=cs.drop (i*s):=by
  have h:i*s≤n*s:=Nat.mul_le_mul_right _ hi
  rw[List.drop_append_of_le_length Ag,List.take_append_of_le_length Ti]
  exact List.take_of_length_le Ti
theorem one_drop{cs:List Value}(h: ∀v∈cs,v.oneCell'=true)(k:Nat): ∀v∈cs.drop k,v.oneCell'=true:=fun v hv=>h v (List.mem_of_mem_drop hv)
theorem putAt_app{a b c:List Value}{o:Nat}{v:List Value}(ho:o=a.length)(hv:v.length=b.length):Bn (a++(b++c)) o v=a++(v++c):=by
  subst ho;unfold Bn
  rw[List.take_left,hv,←List.drop_drop,List.drop_left,List.drop_left]
theorem ins_in{cs r news A1 A2:List Value}{n i:Nat}(hc:cs.length=n*6)(hi:i<n)(hn:news.length=6)(hr:6≤r.length)(h1:Bn (cs++r) ((i+1)*6) (cs.drop (i*6))=A1)(h2:Bn A1 (i*6) news=A2):
    A2=(cs.take (i*6)++(news++cs.drop (i*6)))++r.drop 6:=by
  subst h1;subst h2
  obtain⟨a,b,rfl,ha⟩: ∃a b,cs=a++b∧a.length=i*6:=⟨cs.take (i*6),cs.drop (i*6),(List.take_append_drop _ _).symm,by rw[List.length_take];omega⟩
  rw[List.length_append]at hc
  obtain⟨x,r',rfl,hx⟩: ∃x r',r=x++r'∧x.length=6:=⟨r.take 6,r.drop 6,(List.take_append_drop _ _).symm,by rw[List.length_take];omega⟩
  rw[←ha,List.drop_left,List.take_left]
  have e:Bn (a++b++(x++r')) ((i+1)*6) b=a++(b.take 6++(b++r')):=by
    have hb:b=b.take 6++b.drop 6:=(List.take_append_drop _ _).symm
    have hb2:(b.take 6).length=6:=by rw[List.length_take];omega
    have e1:a++b++(x++r')=(a++b.take 6)++((b.drop 6++x)++r'):=by
      rw[List.append_assoc,List.append_assoc,List.append_assoc]
      congr 1
      rw[←List.append_assoc (b.take 6),←hb]
    rw[e1,putAt_app (by rw[List.length_append,hb2];omega) (by rw[List.length_append,List.length_drop,hx];omega),List.append_assoc]
  rw[e,putAt_app rfl (by rw[List.length_take,hn];omega)]
  rw[show(x++r').drop 6=r' by rw[←hx,List.drop_left]]
  simp only[List.append_assoc]
theorem ins_own{cs R news A1 A2:List Value}{n i:Nat}(hc:cs.length=n*6)(hi:i<n)(hn:news.length=6)(hR:(n+1-i)*6≤R.length)(h1:Bn (cs.take (i*6)++R) (i*6) news=A1)(h2:Bn A1 ((i+1)*6) (cs.drop (i*6))=A2):
    A2=(cs.take (i*6)++(news++cs.drop (i*6)))++R.drop ((n+1-i)*6):=by
  subst h1;subst h2
  have ha:(cs.take (i*6)).length=i*6:=by rw[List.length_take];omega
  have hd:(cs.drop (i*6)).length=(n-i)*6:=by rw[List.length_drop];omega
  obtain⟨x,y,z,rfl,hx,hy⟩: ∃x y z,R=x++(y++z)∧x.length=6∧y.length=(n-i)*6:=
    ⟨R.take 6,(R.drop 6).take ((n-i)*6),(R.drop 6).drop ((n-i)*6),by rw[List.take_append_drop,List.take_append_drop],by rw[List.length_take];omega,by rw[List.length_take,List.length_drop];omega⟩
  rw[putAt_app ha.symm (by rw[hn,hx]),←List.append_assoc,putAt_app (by rw[List.length_append,ha,hn];omega) (by rw[hd,hy])]
  rw[show(n+1-i)*6=(x++y).length by rw[List.length_append,hx,hy];omega,←List.append_assoc x,List.drop_left]
  simp only[List.append_assoc]
theorem del_in{cs r zs A1 A2:List Value}{n i:Nat}(hc:cs.length=n*6)(hi:i<n)(hz:zs.length=6)(h1:Bn (cs++r) (i*6) (cs.drop ((i+1)*6))=A1)(h2:Bn A1 ((n-1)*6) zs=A2):
    A2=(cs.take (i*6)++cs.drop ((i+1)*6))++(zs++r):=by
  subst h1;subst h2
  obtain⟨a,x,b,rfl,ha,hx⟩: ∃a x b,cs=a++(x++b)∧a.length=i*6∧x.length=6:=
    ⟨cs.take (i*6),(cs.drop (i*6)).take 6,(cs.drop (i*6)).drop 6,by rw[List.take_append_drop,List.take_append_drop],by rw[List.length_take];omega,by rw[List.length_take,List.length_drop];omega⟩
  simp only[List.length_append]at hc
  have e1:(a++(x++b)).drop ((i+1)*6)=b:=by
    rw[show(i+1)*6=(a++x).length by rw[List.length_append,ha,hx];omega,←List.append_assoc,List.drop_left]
  have e2:(a++(x++b)).take (i*6)=a:=by rw[←ha,List.take_left]
  rw[e1,e2]
  have hb:x++b=(x++b).take b.length++(x++b).drop b.length:=(List.take_append_drop _ _).symm
  have e3:a++(x++b)++r=a++((x++b).take b.length++((x++b).drop b.length++r)):=by
    rw[List.append_assoc,←List.append_assoc ((x++b).take b.length),←hb]
  rw[e3,putAt_app ha.symm (by rw[List.length_take,List.length_append];omega),←List.append_assoc]
  rw[putAt_app (by rw[List.length_append,ha];omega) (by rw[List.length_drop,List.length_append,hz];omega)]
theorem insRS_c(g:FS)(cs news:List Value)(vb n i:Nat)(M:List Nat)(w:World)(hl:Mem w M [g.seg 173 cs,[cb vb news 173]] w)(ok:g.ok 6 n)(hcs:cs.length=n*6)(hi:i≤n)(hn:n≤100000)(hnl:news.length=1*6)(h1c: ∀v∈cs,v.oneCell'=true)(h1n: ∀v∈news,v.oneCell'=true):Calls Tryz.prog 179 #[sV g n,nV .i64 i,sL (some ⟨vb,0,none⟩) 1 1] w (Bj w (fun g':FS=>g'.ok 6 (n+1)∧g'.nil=false) (fun g'=>.slice g'.a (n+1) g'.cap) M (fun g'=>[g'.seg 173 (cs.take (i*6)++(news++cs.drop (i*6)))])):=by
 have hle_:=ok.le;have hmx_:=ok.mx;have h2_:=hcs
 refine Ar (M:=M) (LL:=[g.seg 173 cs,[cb vb news 173]]) (n:=95) Tryz.func179 rfl rfl A5 (hl) (Ad (fun K1 hK1=>?_))
 refine Aa (Ab 1 (Ac (hK1 _ _ _ (Ad (fun K2 hK2=>?_)))))
 refine Aa (Ab 2 (Ah (v:=sL (C8 g.a g.cap i 6) (n-i) (g.cap-i)) (Bk (a:=g.a) (len:=n) (cap:=g.cap) (sz:=6) (k:=.i64) (i:=(i:Int)) rfl Ae Ae Tryz.runUnderlying151 Tryz.sizeOf173 Ag Ag) (Ac (hK2 _ _ _ ?_))))
 refine Ad (fun K4 hK4=>Aa (Ab 3 (Ac (hK4 _ _ _ ?_))))
 refine Ad (fun K6 hK6=>Ad (fun K7 hK7=>?_))
 refine Aa (Ab 2 (Ac (hK7 _ _ _ (B4 Ae ?_))))
 refine Ak (hK6 _ _ _ (Ad (fun K10 hK10=>Aa (Ab 3 ?_))))
 refine Ac (hK10 _ _ _ (Ad (fun K12 hK12=>Ad (fun K13 hK13=>Aa ?_))))
 refine Ab 3 (Ac (hK13 _ _ _ ?_))
 refine Ao (((i:Nat):Int)==(n:Int)) Ae (fun h15=>?_) (fun h16=>?_)
 ·have qh15:=h15;try simp only[zA]at qh15
  refine Ad (fun K17 hK17=>Aa (Ab 2 (Ax rfl (HtS.append (eu:=173) (xv:=Value.slice (some ⟨vb,0,none⟩) 1 1) (i:=0) (g:=g) (e:=173) (ii:=(Tryz.prog.info? 173).getD default) (z:=aV zl4) (sz:=6) (bytes:=24) (nn:=n) (m:=1) (k:=n+1) (xs:=cs) (news:=news) (cs':=cs++news) (Lo:=fun g18=>[g18.seg 173 (cs++news),[cb vb news 173]]) rfl rfl Ae Ae Ae Ae Ae Ae Ae Ae Ae rfl ok hcs (fun _=>rfl) (Src.at (a:=some ⟨vb,0,none⟩) hnl (fun w_ h_=>(Az (i:=1) (j:=0) (t:=173) (b:=vb) h_ rfl rfl))) hnl h1n rfl (by simp only[maxLen];omega) Ag rfl (fun _=>rfl)) (fun g18 hx23=>?_))))
  obtain⟨ok19,hn20,hn21⟩:=hx23
  refine Ab 1 (Ac (hK17 _ _ _ (Aq (fn:=Tryz.f179) rfl ?_)))
  have hin_:i=n:=by omega
  have hB:cs.take (i*6)++(news++cs.drop (i*6))=cs++news:=by rw[List.take_of_length_le Ag,List.drop_of_length_le Ag,List.append_nil]
  exact fun w_ hS_=>Bb rfl (Aw (sV g18 (n+1))) hS_ ⟨g18,⟨ok19,(hn20 Ag)⟩,rfl,(Mem.cast (by rw[hB];rfl) (hS_.pick [0] Al rfl))⟩
 ·have qh16:=h16;try simp only[zA]at qh16
  refine Ak (hK12 _ _ _ (Ad (fun K26 hK26=>Ad (fun K27 hK27=>Aa ?_))))
  refine Ab 2 (Ah (v:=nV .i64 (n+1)) ((Ys.p (v:=.int .i64 (Bt .i64 (n:Int) 1))).conseq (Af (A6 Ag Ag Ag))) (Ab 3 (Ac (hK27 _ _ _ ?_))))
  refine Ao (decide (((n+1:Nat):Int)>(g.cap:Int))) Ae (fun h29=>?_) (fun h30=>?_)
  ·have qh29:=h29;try simp only[zA]at qh29
   refine Ad (fun K31 hK31=>Aa (Ab 2 (Ah (v:=sV g i) (Dg (a:=g.a) (len:=n) (cap:=g.cap) (sz:=6) (k:=.i64) (i:=(i:Int)) rfl Ae Ae Tryz.runUnderlying151 Tryz.sizeOf173 Ag Ag) (Ab 2 ?_))))
   refine Ah (v:=nV .i64 (n+1)) ((Ys.p (v:=.int .i64 (Bt .i64 (n:Int) 1))).conseq (Af (A6 Ag Ag Ag))) (Ab 1 (Ah (v:=iV .i64 (((n+1:Nat):Int)-(i:Int))) ((Ys.p (v:=.int .i64 (Hk .i64 ((n+1:Nat):Int) (i:Int)))).conseq (Af (Er rfl Ag Ag))) (Ai rfl (Iq (t:=151) (u:=3) (e:=173) (ii:=(Tryz.prog.info? 173).getD default) (z:=aV zl4) (ku:=.i64) (kk:=.i64) (lv:=((n+1:Nat):Int)-(i:Int)) (a:=g.a) (nn:=i) (m:=n+1-i) (k:=n+1) (cap:=g.cap) (sz:=6) (bytes:=24) (xs:=cs.take (i*6)) (LL':=fun b32 R34=>[[cb b32 (cs.take (i*6)++R34) 173],g.seg 173 cs,[cb vb news 173]]) rfl rfl Ae Ae Ae Ae Ae Ae Ae Ae Ae Ag (fun w_ h_=>(FS.at (i:=0) (t:=173) h_ rfl (Aj ok hcs)).take _) (by rw[List.length_take,hcs];omega) Ag Ag Ag Ag Ag (fun _ _=>rfl)) (fun x38=>?_))))
   obtain⟨⟨b32,cap33,R34⟩,hc35,hm36,hR37⟩:=x38
   refine Bu (LL':=[[cb b32 (cs.take (i*6)++R34) 173],g.seg 173 cs,[cb vb news 173]]) rfl ?_
   dsimp only at hc35 hm36 hR37
   refine Ab 1 (Ac (hK31 _ _ _ (Ad (fun K40 hK40=>Aa ?_))))
   refine Ab 2 (Ah (v:=sL (C8 (some ⟨b32,0,none⟩) cap33 i 6) ((n+1)-i) (cap33-i)) (Bk (a:=some ⟨b32,0,none⟩) (len:=n+1) (cap:=cap33) (sz:=6) (k:=.i64) (i:=(i:Int)) rfl Ae Ae Tryz.runUnderlying151 Tryz.sizeOf173 Ag Ag) ?_)
   obtain⟨A41,hA42⟩: ∃A,Bn (cs.take (i*6)++R34) (i*6) news=A:=⟨_,rfl⟩
   have hl43:A41.length=(cs.take (i*6)++R34).length:=by rw[←hA42];exact Ce _ _ _ Kb
   try simp only[List.length_append,List.length_take]at hl43
   refine Ab 1 (Ai rfl (Ck (td:=151) (tx:=151) (e:=173) (ii:=(Tryz.prog.info? 173).getD default) (xv:=sL (some ⟨vb,0,none⟩) 1 1) (cap:=cap33) (dl:=(n+1)-i) (dc:=cap33-i) (m:=1) (q:=1) (sz:=6) (o':=i) (i:=0) (j:=0) (b:=b32) (t:=173) (cs:=cs.take (i*6)++R34) (cs':=A41) (news:=news) (LL':=[[cb b32 A41 173],g.seg 173 cs,[cb vb news 173]]) rfl rfl Ae Ae Ae Ae Ag Ae rfl rfl (fun _=>rfl) Kd (Src.at (a:=some ⟨vb,0,none⟩) hnl (fun w_ h_=>(Az (i:=2) (j:=0) (t:=173) (b:=vb) h_ rfl rfl))) hnl Kb h1n hA42 rfl) (fun _=>?_))
   refine Ac (hK40 _ _ _ (Ad (fun K45 hK45=>Bz [(0,true),(1,true),(2,true),(3,true),(4,true),(5,true),(6,false),(7,false),(8,false)] [0,1,2,3,4,5] (Mem w M [g.seg 173 cs,[cb vb news 173]]) Ae Ae Ae rfl Ae (fun _ _ h_=>h_.drawn _) (fun _ h_=>h_.pick [1,2] Al rfl) (Ay 3 ?_))))
   refine Wd.ys (v:=nV .i64 (i+1)) rfl rfl rfl ((Ys.p (v:=.int .i64 (Bt .i64 (i:Int) 1))).conseq (Af (A6 Ag Ag Ag))) (Wd.ys (v:=sL (C8 (some ⟨b32,0,none⟩) cap33 (i+1) 6) ((n+1)-(i+1)) (cap33-(i+1))) rfl rfl rfl (Bk (a:=some ⟨b32,0,none⟩) (len:=n+1) (cap:=cap33) (sz:=6) (k:=.i64) (i:=((i+1:Nat):Int)) rfl Ae Ae Tryz.runUnderlying151 Tryz.sizeOf173 Ag Ag) (Ay 1 (Wd.yc (v:=nV .i64 i) rfl rfl rfl (Ys.yc (Ys.p)) (.inr fun _ h_=>h_.pick [1,2] Al rfl) (Wd.yc (v:=sL (C8 g.a g.cap i 6) (n-i) (g.cap-i)) rfl rfl rfl (Ys.yc (Bk (a:=g.a) (len:=n) (cap:=g.cap) (sz:=6) (k:=.i64) (i:=(i:Int)) rfl Ae Ae Tryz.runUnderlying151 Tryz.sizeOf173 Ag Ag)) (.inr fun _ h_=>h_.pick [1,2] Al rfl) ?_))))
   obtain⟨A46,hA47⟩: ∃A,Bn A41 ((i+1)*6) (cs.drop (i*6))=A:=⟨_,rfl⟩
   have hl48:A46.length=A41.length:=by rw[←hA47];exact Ce _ _ _ Tg
   try simp only[List.length_append,List.length_take]at hl48
   refine B8 rfl rfl (Ck (td:=151) (tx:=151) (e:=173) (ii:=(Tryz.prog.info? 173).getD default) (xv:=sL (C8 g.a g.cap i 6) (n-i) (g.cap-i)) (cap:=cap33) (dl:=(n+1)-(i+1)) (dc:=cap33-(i+1)) (m:=n-i) (q:=n-i) (sz:=6) (o':=i+1) (i:=0) (j:=0) (b:=b32) (t:=173) (cs:=A41) (cs':=A46) (news:=cs.drop (i*6)) (LL':=[[cb b32 A46 173],g.seg 173 cs,[cb vb news 173]]) rfl rfl Ae Ae Ae Ae Ag Ae rfl rfl (fun _=>rfl) Kd (Src.at (a:=C8 g.a g.cap i 6) (show(cs.drop (i*6)).length=(n-i)*6 by rw[List.length_drop,hcs];omega) (fun w_ h_=>((FS.at (i:=1) (t:=173) h_ rfl (Aj ok hcs)).dropN (cap:=g.cap) (k:=i) (sz:=6) Ag))) (show(cs.drop (i*6)).length=(n-i)*6 by rw[List.length_drop,hcs];omega) Tg (one_drop h1c _) hA47 rfl) (.inr fun _ _ h_=>h_.pick [1,2] Al rfl) (fun _=>A7 (hK45 _ _ _ (Ad (fun K50 hK50=>Aa ?_))))
   refine Ab 2 (Ac (hK50 _ _ _ (Aq (fn:=Tryz.f179) rfl ?_)))
   have hB:=ins_own hcs Ag Ag Ag hA42 hA47
   exact fun w_ hS_=>Bb rfl (Aw (sL (some ⟨b32,0,none⟩) (n+1) cap33)) hS_ ⟨⟨false,b32,cap33,R34.drop ((n+1-i)*6)⟩,⟨⟨fun h=>(by cases h),Ag,Ag,(by show cap33*6≤_;rw[List.length_drop];omega)⟩,rfl⟩,rfl,(Mem.cast (by rw[hB];rfl) (hS_.pick [0] Al rfl))⟩
  ·have qh30:=h30;try simp only[zA]at qh30
   refine Ak (hK26 _ _ _ (Ad (fun K53 hK53=>?_)))
   have hn55:=C5 ok Ag
   obtain⟨gn54,gb,gc,gr⟩:=g
   obtain rfl:gn54=false:=hn55
   have hc56:n≤gc:=ok.le
   have hlr_:gc*6≤n*6+gr.length:=ok.len
   have hroom_:n+1≤gc:=by have z_: ¬(((n+1:Nat):Int)>(gc:Int)):=qh30;omega
   refine Aa (Ab 3 (Ah (v:=nV .i64 (n+1)) ((Ys.p (v:=.int .i64 (Bt .i64 (n:Int) 1))).conseq (Af (A6 Ag Ag Ag))) (Ah (v:=sL (some ⟨gb,0,none⟩) (n+1) gc) (Dg (a:=some ⟨gb,0,none⟩) (len:=n) (cap:=gc) (sz:=6) (k:=.i64) (i:=((n+1:Nat):Int)) rfl Ae Ae Tryz.runUnderlying151 Tryz.sizeOf173 Ag Ag) (Ab 1 ?_))))
   refine Ac (hK53 _ _ _ (Ad (fun K58 hK58=>Ad (fun K59 hK59=>Aa ?_))))
   refine Ab 4 (Ah (v:=nV .i64 (i+1)) ((Ys.p (v:=.int .i64 (Bt .i64 (i:Int) 1))).conseq (Af (A6 Ag Ag Ag))) (Ah (v:=Value.slice (C8 (some ⟨gb,0,none⟩) gc (i+1) 6) ((n+1)-(i+1)) (gc-(i+1))) (Bk (a:=some ⟨gb,0,none⟩) (len:=n+1) (cap:=gc) (sz:=6) (k:=.i64) (i:=((i+1:Nat):Int)) rfl Ae Ae Tryz.runUnderlying151 Tryz.sizeOf173 Ag Ag) (Ah (v:=bV false) ((Ho (k:=186) (tS:=151) (tR:=4) (e:=173) (sz:=6) (b:=vb) (b':=gb) (o1:=0) (o2:=(i+1)*6) (la:=1) (ca:=1) (lb:=((n+1)-(i+1))) (cp:=(gc-(i+1))) (i:=1) (j:=0) (i':=0) (j':=0) (t:=173) (t':=173) (cs:=news) (cs':=cs++gr) (fun w_=>Eq.trans (b:=Sem.run Tryz.prog (callFunc 186 #[Value.slice (some ⟨vb,0,none⟩) 1 1,Value.slice (C8 (some ⟨gb,0,none⟩) gc (i+1) 6) ((n+1)-(i+1)) (gc-(i+1))]) w_) Ae (by rw[Gh Ag])) Tryz.func186 Ae Ae Ae Ae Ae Tryz.sizeOf173 Al rfl rfl rfl rfl (by simp only[List.length_append];omega))) (Ab 1 ?_))))
   refine Ac (hK59 _ _ _ (B5 Ae (Ad (fun K61 hK61=>Bz [(0,true),(1,true),(2,true),(3,true),(4,true),(5,true),(6,false),(7,false),(8,false)] [0,1,2,3,4,5] (Mem w M [[cb vb news 173]]) Ae Ae Ae rfl Ae (fun _ _ h_=>h_.drawn _) (fun _ h_=>h_.pick [1] Al rfl) ?_))))
   refine Ay 3 (Wd.ys (v:=nV .i64 (i+1)) rfl rfl rfl ((Ys.p (v:=.int .i64 (Bt .i64 (i:Int) 1))).conseq (Af (A6 Ag Ag Ag))) (Wd.ys (v:=sL (C8 (some ⟨gb,0,none⟩) gc (i+1) 6) ((n+1)-(i+1)) (gc-(i+1))) rfl rfl rfl (Bk (a:=some ⟨gb,0,none⟩) (len:=n+1) (cap:=gc) (sz:=6) (k:=.i64) (i:=((i+1:Nat):Int)) rfl Ae Ae Tryz.runUnderlying151 Tryz.sizeOf173 Ag Ag) (Ay 1 (Wd.yc (v:=nV .i64 i) rfl rfl rfl (Ys.yc (Ys.p)) (.inr fun _ h_=>h_.pick [1] Al rfl) ?_))))
   refine Wd.yc (v:=sL (C8 (some ⟨gb,0,none⟩) gc i 6) ((n+1)-i) (gc-i)) rfl rfl rfl (Ys.yc (Bk (a:=some ⟨gb,0,none⟩) (len:=n+1) (cap:=gc) (sz:=6) (k:=.i64) (i:=(i:Int)) rfl Ae Ae Tryz.runUnderlying151 Tryz.sizeOf173 Ag Ag)) (.inr fun _ h_=>h_.pick [1] Al rfl) ?_
   obtain⟨A62,hA63⟩: ∃A,Bn (cs++gr) ((i+1)*6) (cs.drop (i*6))=A:=⟨_,rfl⟩
   have hl64:A62.length=(cs++gr).length:=by rw[←hA63];exact Ce _ _ _ Tg
   try simp only[List.length_append,List.length_take]at hl64
   refine B8 rfl rfl (Ck (td:=151) (tx:=151) (e:=173) (ii:=(Tryz.prog.info? 173).getD default) (xv:=sL (C8 (some ⟨gb,0,none⟩) gc i 6) ((n+1)-i) (gc-i)) (cap:=gc) (dl:=(n+1)-(i+1)) (dc:=gc-(i+1)) (m:=(n+1)-i) (q:=n-i) (sz:=6) (o':=i+1) (i:=0) (j:=0) (b:=gb) (t:=173) (cs:=cs++gr) (cs':=A62) (news:=cs.drop (i*6)) (LL':=[[cb gb A62 173],[cb vb news 173]]) rfl rfl Ae Ae Ae Ae Ag Ae rfl rfl (fun _=>rfl) Kd (Src.at (a:=C8 (some ⟨gb,0,none⟩) gc i 6) (show(cs.drop (i*6)).length=(n-i)*6 by rw[List.length_drop,hcs];omega) (fun w_ h_=>(by have z_:=((Az (i:=0) (j:=0) (t:=173) (b:=gb) h_ rfl rfl).dropT (cap:=gc) (k:=i) (m:=n-i) (sz:=6) Ag);rwa[drop_take hcs Ag]at z_))) (show(cs.drop (i*6)).length=(n-i)*6 by rw[List.length_drop,hcs];omega) Tg (one_drop h1c _) hA63 rfl) (.inr fun _ _ h_=>h_.pick [1] Al rfl) (fun _=>A7 (hK61 _ _ _ (Ad (fun K66 hK66=>Aa ?_))))
   refine Ab 2 (Ah (v:=sL (C8 (some ⟨gb,0,none⟩) gc i 6) ((n+1)-i) (gc-i)) (Bk (a:=some ⟨gb,0,none⟩) (len:=n+1) (cap:=gc) (sz:=6) (k:=.i64) (i:=(i:Int)) rfl Ae Ae Tryz.runUnderlying151 Tryz.sizeOf173 Ag Ag) ?_)
   obtain⟨A67,hA68⟩: ∃A,Bn A62 (i*6) news=A:=⟨_,rfl⟩
   have hl69:A67.length=A62.length:=by rw[←hA68];exact Ce _ _ _ Kb
   try simp only[List.length_append,List.length_take]at hl69
   refine Ab 1 (Ai rfl (Ck (td:=151) (tx:=151) (e:=173) (ii:=(Tryz.prog.info? 173).getD default) (xv:=sL (some ⟨vb,0,none⟩) 1 1) (cap:=gc) (dl:=(n+1)-i) (dc:=gc-i) (m:=1) (q:=1) (sz:=6) (o':=i) (i:=0) (j:=0) (b:=gb) (t:=173) (cs:=A62) (cs':=A67) (news:=news) (LL':=[[cb gb A67 173],[cb vb news 173]]) rfl rfl Ae Ae Ae Ae Ag Ae rfl rfl (fun _=>rfl) Kd (Src.at (a:=some ⟨vb,0,none⟩) hnl (fun w_ h_=>(Az (i:=1) (j:=0) (t:=173) (b:=vb) h_ rfl rfl))) hnl Kb h1n hA68 rfl) (fun _=>?_))
   refine Ac (hK66 _ _ _ (Ad (fun K71 hK71=>Aa (Ab 2 ?_))))
   refine Ac (hK71 _ _ _ (Aq (fn:=Tryz.f179) rfl ?_))
   have hB:=ins_in hcs Ag Ag Ag hA63 hA68
   exact fun w_ hS_=>Bb rfl (Aw (sL (some ⟨gb,0,none⟩) (n+1) gc)) hS_ ⟨⟨false,gb,gc,gr.drop 6⟩,⟨⟨fun h=>(by cases h),Ag,ok.mx,(by show gc*6≤_;rw[List.length_drop];omega)⟩,rfl⟩,rfl,(Mem.cast (by rw[hB];rfl) (hS_.pick [0] Al rfl))⟩
theorem delRS_c(g:FS)(cs:List Value)(n i:Nat)(M:List Nat)(w:World)(hl:Mem w M [g.seg 173 cs] w)(ok:g.ok 6 n)(hcs:cs.length=n*6)(hi:i<n)(hn:n≤100000)(h1c: ∀v∈cs,v.oneCell'=true):Calls Tryz.prog 124 #[sV g n,nV .i64 i,nV .i64 (i+1)] w (Bj w (fun g':FS=>g'.ok 6 (n-1)∧g'.nil=false) (fun g'=>.slice g'.a (n-1) g'.cap) M (fun g'=>[g'.seg 173 (cs.take (i*6)++cs.drop ((i+1)*6))])):=by
 have hle_:=ok.le;have hmx_:=ok.mx;have h2_:=hcs
 refine Ar (M:=M) (LL:=[g.seg 173 cs]) (n:=33) Tryz.func124 rfl rfl A5 (hl) (Ad (fun K1 hK1=>?_))
 refine Aa (Ab 1 (Ac (hK1 _ _ _ (Ad (fun K2 hK2=>?_)))))
 refine Aa (Ab 5 (Ah (v:=sL (C8 g.a n i 6) ((i+1)-i) (n-i)) (Hn (a:=g.a) (len:=n) (cap:=g.cap) (sz:=6) (k:=.i64) (k':=.i64) (k'':=.i64) (i:=(i:Int)) (j:=((i+1:Nat):Int)) (q:=(n:Int)) rfl Ae Ae Ae Ae Tryz.runUnderlying151 Tryz.sizeOf173 Ag Ag Ag Ag) (Ac (hK2 _ _ _ ?_))))
 refine Ad (fun K4 hK4=>Ad (fun K5 hK5=>?_))
 refine Aa (Ab 3 (Ac (hK5 _ _ _ ?_)))
 refine Ao (((i:Nat):Int)==((i+1:Nat):Int)) Ae (fun h7=>?_) (fun h8=>?_)
 ·have qh7:=h7;try simp only[zA]at qh7
  (exfalso;omega)
 ·have qh8:=h8;try simp only[zA]at qh8
  refine Ak (hK4 _ _ _ (Ad (fun K10 hK10=>Aa (Ab 3 ?_))))
  refine Ac (hK10 _ _ _ (Ad (fun K12 hK12=>?_)))
  have hn14:=C5 ok Ag
  obtain⟨gn13,gb,gc,gr⟩:=g
  obtain rfl:gn13=false:=hn14
  have hc15:n≤gc:=ok.le
  have hlr_:gc*6≤n*6+gr.length:=ok.len
  refine Bz [(0,true),(1,true),(2,true),(3,true),(4,false),(5,false),(6,false),(7,false)] [0,1,2,3] (Mem w M []) Ae Ae Ae rfl Ae (fun _ _ h_=>h_.drawn _) (fun _ h_=>h_.pick [] Al rfl) (Ay 2 (Wd.ys (v:=sL (some ⟨gb,0,none⟩) i gc) rfl rfl rfl (Dg (a:=some ⟨gb,0,none⟩) (len:=n) (cap:=gc) (sz:=6) (k:=.i64) (i:=(i:Int)) rfl Ae Ae Tryz.runUnderlying151 Tryz.sizeOf173 Ag Ag) (Ay 1 (Wd.yc (v:=nV .i64 (i+1)) rfl rfl rfl (Ys.yc (Ys.p)) (.inr fun _ h_=>h_.pick [] Al rfl) ?_))))
  refine Wd.yc (v:=sL (C8 (some ⟨gb,0,none⟩) gc (i+1) 6) (n-(i+1)) (gc-(i+1))) rfl rfl rfl (Ys.yc (Bk (a:=some ⟨gb,0,none⟩) (len:=n) (cap:=gc) (sz:=6) (k:=.i64) (i:=((i+1:Nat):Int)) rfl Ae Ae Tryz.runUnderlying151 Tryz.sizeOf173 Ag Ag)) (.inr fun _ h_=>h_.pick [] Al rfl) ?_
  obtain⟨A16,hA17⟩: ∃A,Bn (cs++gr) (i*6) (cs.drop ((i+1)*6))=A:=⟨_,rfl⟩
  have hl18:A16.length=(cs++gr).length:=by rw[←hA17];exact Ce _ _ _ Ac3
  try simp only[List.length_append,List.length_take]at hl18
  refine B8 rfl rfl (Hp (t:=151) (u:=151) (e:=173) (eu:=173) (ii:=(Tryz.prog.info? 173).getD default) (xv:=sL (C8 (some ⟨gb,0,none⟩) gc (i+1) 6) (n-(i+1)) (gc-(i+1))) (nn:=i) (m:=n-(i+1)) (k:=n-1) (cap:=gc) (sz:=6) (i:=0) (j:=0) (b:=gb) (ty:=173) (cs:=cs++gr) (cs':=A16) (news:=cs.drop ((i+1)*6)) (LL':=[[cb gb A16 173]]) rfl rfl Ae Ae Ae Ae Ae Ae rfl rfl (fun _=>rfl) Ag Ag (Src.at (a:=C8 (some ⟨gb,0,none⟩) gc (i+1) 6) (show(cs.drop ((i+1)*6)).length=(n-(i+1))*6 by rw[List.length_drop,hcs];omega) (fun w_ h_=>(by have z_:=((Az (i:=0) (j:=0) (t:=173) (b:=gb) h_ rfl rfl).dropT (cap:=gc) (k:=i+1) (m:=n-(i+1)) (sz:=6) Ag);rwa[drop_take hcs Ag]at z_))) Ac3 (one_drop h1c _) hA17 rfl) (.inr fun _ _ h_=>h_.pick [] Al rfl) (fun _=>Wd.yc (v:=sL (some ⟨gb,0,none⟩) (n-1) gc) rfl rfl rfl (Ys.yc (Ys.p)) (.inl Ae) (A7 (hK12 _ _ _ (Ad (fun K20 hK20=>?_)))))
  refine Aa (Ab 4 (Ah (v:=sL (C8 (some ⟨gb,0,none⟩) gc (n-1) 6) (n-(n-1)) (gc-(n-1))) (G9 (a:=some ⟨gb,0,none⟩) (len:=n-1) (cap:=gc) (sz:=6) (k:=.i64) (i:=((n-1:Nat):Int)) (k':=.i64) (j:=(n:Int)) rfl Ae Ae Ae Tryz.runUnderlying151 Tryz.sizeOf173 Ag Ag Ag) ?_))
  obtain⟨A21,hA22⟩: ∃A,Bn A16 ((n-1)*6) zl4=A:=⟨_,rfl⟩
  have hl23:A21.length=A16.length:=by rw[←hA22];exact Ce _ _ _ Th
  refine Ai rfl (Je (t:=151) (e:=173) (ii:=(Tryz.prog.info? 173).getD default) (z:=aV zl4) (m:=0) (cap:=gc-(n-1)) (o':=(n-1)*6) (i:=0) (j:=0) (b:=gb) (ty:=173) (cs:=A16) (cs':=A21) (zs:=zl4) (LL':=[[cb gb A21 173]]) rfl rfl Ae Ae Ae (Eq.trans (b:=sL (C8 (some ⟨gb,0,none⟩) gc (n-1) 6) (n-(n-1)) (gc-(n-1))) Ae (by rw[Gh Ag];congr 1;omega)) rfl rfl Ae Th Zb hA22 rfl) (fun _=>Ac (hK20 _ _ _ (Ad (fun K25 hK25=>Aa ?_))))
  refine Ab 2 (Ac (hK25 _ _ _ (Aq (fn:=Tryz.f124) rfl ?_)))
  have hB:=del_in (zs:=zl4) hcs Ag rfl hA17 hA22
  exact fun w_ hS_=>Bb rfl (Aw (Value.slice (some ⟨gb,0,none⟩) (n-1) gc)) hS_ ⟨⟨false,gb,gc,zl4++gr⟩,⟨⟨fun h=>(by cases h),(by show n-1≤gc;omega),ok.mx,(by show gc*6≤_;simp only[List.length_append,List.length_cons,List.length_nil];omega)⟩,rfl⟩,rfl,(Mem.cast (by rw[hB];rfl) (hS_.pick [0] Al rfl))⟩
end ZS
namespace ZD
theorem drop_take{cs r:List Value}{n i s:Nat}(hc:cs.length=n*s)(hi:i≤n):((cs++r).drop (i*s)).take ((n-i)*s)=cs.drop (i*s):=by
  have h:i*s≤n*s:=Nat.mul_le_mul_right _ hi
  rw[List.drop_append_of_le_length Ag,List.take_append_of_le_length Ti]
  exact List.take_of_length_le Ti
theorem one_drop{cs:List Value}(h: ∀v∈cs,v.oneCell'=true)(k:Nat): ∀v∈cs.drop k,v.oneCell'=true:=fun v hv=>h v (List.mem_of_mem_drop hv)
theorem putAt_app{a b c:List Value}{o:Nat}{v:List Value}(ho:o=a.length)(hv:v.length=b.length):Bn (a++(b++c)) o v=a++(v++c):=by
  subst ho;unfold Bn
  rw[List.take_left,hv,←List.drop_drop,List.drop_left,List.drop_left]
theorem ins_in{cs r news A1 A2:List Value}{n i:Nat}(hc:cs.length=n*5)(hi:i<n)(hn:news.length=5)(hr:5≤r.length)(h1:Bn (cs++r) ((i+1)*5) (cs.drop (i*5))=A1)(h2:Bn A1 (i*5) news=A2):
    A2=(cs.take (i*5)++(news++cs.drop (i*5)))++r.drop 5:=by
  subst h1;subst h2
  obtain⟨a,b,rfl,ha⟩: ∃a b,cs=a++b∧a.length=i*5:=⟨cs.take (i*5),cs.drop (i*5),(List.take_append_drop _ _).symm,by rw[List.length_take];omega⟩
  rw[List.length_append]at hc
  obtain⟨x,r',rfl,hx⟩: ∃x r',r=x++r'∧x.length=5:=⟨r.take 5,r.drop 5,(List.take_append_drop _ _).symm,by rw[List.length_take];omega⟩
  rw[←ha,List.drop_left,List.take_left]
  have e:Bn (a++b++(x++r')) ((i+1)*5) b=a++(b.take 5++(b++r')):=by
    have hb:b=b.take 5++b.drop 5:=(List.take_append_drop _ _).symm
    have hb2:(b.take 5).length=5:=by rw[List.length_take];omega
    have e1:a++b++(x++r')=(a++b.take 5)++((b.drop 5++x)++r'):=by
      rw[List.append_assoc,List.append_assoc,List.append_assoc]
      congr 1
      rw[←List.append_assoc (b.take 5),←hb]
    rw[e1,putAt_app (by rw[List.length_append,hb2];omega) (by rw[List.length_append,List.length_drop,hx];omega),List.append_assoc]
  rw[e,putAt_app rfl (by rw[List.length_take,hn];omega)]
  rw[show(x++r').drop 5=r' by rw[←hx,List.drop_left]]
  simp only[List.append_assoc]
theorem ins_own{cs R news A1 A2:List Value}{n i:Nat}(hc:cs.length=n*5)(hi:i<n)(hn:news.length=5)(hR:(n+1-i)*5≤R.length)(h1:Bn (cs.take (i*5)++R) (i*5) news=A1)(h2:Bn A1 ((i+1)*5) (cs.drop (i*5))=A2):
    A2=(cs.take (i*5)++(news++cs.drop (i*5)))++R.drop ((n+1-i)*5):=by
  subst h1;subst h2
  have ha:(cs.take (i*5)).length=i*5:=by rw[List.length_take];omega
  have hd:(cs.drop (i*5)).length=(n-i)*5:=by rw[List.length_drop];omega
  obtain⟨x,y,z,rfl,hx,hy⟩: ∃x y z,R=x++(y++z)∧x.length=5∧y.length=(n-i)*5:=
    ⟨R.take 5,(R.drop 5).take ((n-i)*5),(R.drop 5).drop ((n-i)*5),by rw[List.take_append_drop,List.take_append_drop],by rw[List.length_take];omega,by rw[List.length_take,List.length_drop];omega⟩
  rw[putAt_app ha.symm (by rw[hn,hx]),←List.append_assoc,putAt_app (by rw[List.length_append,ha,hn];omega) (by rw[hd,hy])]
  rw[show(n+1-i)*5=(x++y).length by rw[List.length_append,hx,hy];omega,←List.append_assoc x,List.drop_left]
  simp only[List.append_assoc]
theorem del_in{cs r zs A1 A2:List Value}{n i:Nat}(hc:cs.length=n*5)(hi:i<n)(hz:zs.length=5)(h1:Bn (cs++r) (i*5) (cs.drop ((i+1)*5))=A1)(h2:Bn A1 ((n-1)*5) zs=A2):
    A2=(cs.take (i*5)++cs.drop ((i+1)*5))++(zs++r):=by
  subst h1;subst h2
  obtain⟨a,x,b,rfl,ha,hx⟩: ∃a x b,cs=a++(x++b)∧a.length=i*5∧x.length=5:=
    ⟨cs.take (i*5),(cs.drop (i*5)).take 5,(cs.drop (i*5)).drop 5,by rw[List.take_append_drop,List.take_append_drop],by rw[List.length_take];omega,by rw[List.length_take,List.length_drop];omega⟩
  simp only[List.length_append]at hc
  have e1:(a++(x++b)).drop ((i+1)*5)=b:=by
    rw[show(i+1)*5=(a++x).length by rw[List.length_append,ha,hx];omega,←List.append_assoc,List.drop_left]
  have e2:(a++(x++b)).take (i*5)=a:=by rw[←ha,List.take_left]
  rw[e1,e2]
  have hb:x++b=(x++b).take b.length++(x++b).drop b.length:=(List.take_append_drop _ _).symm
  have e3:a++(x++b)++r=a++((x++b).take b.length++((x++b).drop b.length++r)):=by
    rw[List.append_assoc,←List.append_assoc ((x++b).take b.length),←hb]
  rw[e3,putAt_app ha.symm (by rw[List.length_take,List.length_append];omega),←List.append_assoc]
  rw[putAt_app (by rw[List.length_append,ha];omega) (by rw[List.length_drop,List.length_append,hz];omega)]
theorem insRD_c(g:FS)(cs news:List Value)(vb n i:Nat)(M:List Nat)(w:World)(hl:Mem w M [g.seg 234 cs,[cb vb news 234]] w)(ok:g.ok 5 n)(hcs:cs.length=n*5)(hi:i≤n)(hn:n≤100000)(hnl:news.length=1*5)(h1c: ∀v∈cs,v.oneCell'=true)(h1n: ∀v∈news,v.oneCell'=true):Calls Tryz.prog 128 #[sV g n,nV .i64 i,sL (some ⟨vb,0,none⟩) 1 1] w (Bj w (fun g':FS=>g'.ok 5 (n+1)∧g'.nil=false) (fun g'=>.slice g'.a (n+1) g'.cap) M (fun g'=>[g'.seg 234 (cs.take (i*5)++(news++cs.drop (i*5)))])):=by
 have hle_:=ok.le;have hmx_:=ok.mx;have h2_:=hcs
 refine Ar (M:=M) (LL:=[g.seg 234 cs,[cb vb news 234]]) (n:=95) Tryz.func128 rfl rfl A5 (hl) (Ad (fun K1 hK1=>?_))
 refine Aa (Ab 1 (Ac (hK1 _ _ _ (Ad (fun K2 hK2=>?_)))))
 refine Aa (Ab 2 (Ah (v:=sL (C8 g.a g.cap i 5) (n-i) (g.cap-i)) (Bk (a:=g.a) (len:=n) (cap:=g.cap) (sz:=5) (k:=.i64) (i:=(i:Int)) rfl Ae Ae Tryz.runUnderlying158 Tryz.sizeOf234 Ag Ag) (Ac (hK2 _ _ _ ?_))))
 refine Ad (fun K4 hK4=>Aa (Ab 3 (Ac (hK4 _ _ _ ?_))))
 refine Ad (fun K6 hK6=>Ad (fun K7 hK7=>?_))
 refine Aa (Ab 2 (Ac (hK7 _ _ _ (B4 Ae ?_))))
 refine Ak (hK6 _ _ _ (Ad (fun K10 hK10=>Aa (Ab 3 ?_))))
 refine Ac (hK10 _ _ _ (Ad (fun K12 hK12=>Ad (fun K13 hK13=>Aa ?_))))
 refine Ab 3 (Ac (hK13 _ _ _ ?_))
 refine Ao (((i:Nat):Int)==(n:Int)) Ae (fun h15=>?_) (fun h16=>?_)
 ·have qh15:=h15;try simp only[zA]at qh15
  refine Ad (fun K17 hK17=>Aa (Ab 2 (Ax rfl (HtS.append (eu:=234) (xv:=Value.slice (some ⟨vb,0,none⟩) 1 1) (i:=0) (g:=g) (e:=234) (ii:=(Tryz.prog.info? 234).getD default) (z:=aV zl9) (sz:=5) (bytes:=32) (nn:=n) (m:=1) (k:=n+1) (xs:=cs) (news:=news) (cs':=cs++news) (Lo:=fun g18=>[g18.seg 234 (cs++news),[cb vb news 234]]) rfl rfl Ae Ae Ae Ae Ae Ae Ae Ae Ae rfl ok hcs (fun _=>rfl) (Src.at (a:=some ⟨vb,0,none⟩) hnl (fun w_ h_=>(Az (i:=1) (j:=0) (t:=234) (b:=vb) h_ rfl rfl))) hnl h1n rfl (by simp only[maxLen];omega) Ag rfl (fun _=>rfl)) (fun g18 hx23=>?_))))
  obtain⟨ok19,hn20,hn21⟩:=hx23
  refine Ab 1 (Ac (hK17 _ _ _ (Aq (fn:=Tryz.f128) rfl ?_)))
  have hin_:i=n:=by omega
  have hB:cs.take (i*5)++(news++cs.drop (i*5))=cs++news:=by rw[List.take_of_length_le Ag,List.drop_of_length_le Ag,List.append_nil]
  exact fun w_ hS_=>Bb rfl (Aw (sV g18 (n+1))) hS_ ⟨g18,⟨ok19,(hn20 Ag)⟩,rfl,(Mem.cast (by rw[hB];rfl) (hS_.pick [0] Al rfl))⟩
 ·have qh16:=h16;try simp only[zA]at qh16
  refine Ak (hK12 _ _ _ (Ad (fun K26 hK26=>Ad (fun K27 hK27=>Aa ?_))))
  refine Ab 2 (Ah (v:=nV .i64 (n+1)) ((Ys.p (v:=.int .i64 (Bt .i64 (n:Int) 1))).conseq (Af (A6 Ag Ag Ag))) (Ab 3 (Ac (hK27 _ _ _ ?_))))
  refine Ao (decide (((n+1:Nat):Int)>(g.cap:Int))) Ae (fun h29=>?_) (fun h30=>?_)
  ·have qh29:=h29;try simp only[zA]at qh29
   refine Ad (fun K31 hK31=>Aa (Ab 2 (Ah (v:=sV g i) (Dg (a:=g.a) (len:=n) (cap:=g.cap) (sz:=5) (k:=.i64) (i:=(i:Int)) rfl Ae Ae Tryz.runUnderlying158 Tryz.sizeOf234 Ag Ag) (Ab 2 ?_))))
   refine Ah (v:=nV .i64 (n+1)) ((Ys.p (v:=.int .i64 (Bt .i64 (n:Int) 1))).conseq (Af (A6 Ag Ag Ag))) (Ab 1 (Ah (v:=iV .i64 (((n+1:Nat):Int)-(i:Int))) ((Ys.p (v:=.int .i64 (Hk .i64 ((n+1:Nat):Int) (i:Int)))).conseq (Af (Er rfl Ag Ag))) (Ai rfl (Iq (t:=158) (u:=3) (e:=234) (ii:=(Tryz.prog.info? 234).getD default) (z:=aV zl9) (ku:=.i64) (kk:=.i64) (lv:=((n+1:Nat):Int)-(i:Int)) (a:=g.a) (nn:=i) (m:=n+1-i) (k:=n+1) (cap:=g.cap) (sz:=5) (bytes:=32) (xs:=cs.take (i*5)) (LL':=fun b32 R34=>[[cb b32 (cs.take (i*5)++R34) 234],g.seg 234 cs,[cb vb news 234]]) rfl rfl Ae Ae Ae Ae Ae Ae Ae Ae Ae Ag (fun w_ h_=>(FS.at (i:=0) (t:=234) h_ rfl (Aj ok hcs)).take _) (by rw[List.length_take,hcs];omega) Ag Ag Ag Ag Ag (fun _ _=>rfl)) (fun x38=>?_))))
   obtain⟨⟨b32,cap33,R34⟩,hc35,hm36,hR37⟩:=x38
   refine Bu (LL':=[[cb b32 (cs.take (i*5)++R34) 234],g.seg 234 cs,[cb vb news 234]]) rfl ?_
   dsimp only at hc35 hm36 hR37
   refine Ab 1 (Ac (hK31 _ _ _ (Ad (fun K40 hK40=>Aa ?_))))
   refine Ab 2 (Ah (v:=sL (C8 (some ⟨b32,0,none⟩) cap33 i 5) ((n+1)-i) (cap33-i)) (Bk (a:=some ⟨b32,0,none⟩) (len:=n+1) (cap:=cap33) (sz:=5) (k:=.i64) (i:=(i:Int)) rfl Ae Ae Tryz.runUnderlying158 Tryz.sizeOf234 Ag Ag) ?_)
   obtain⟨A41,hA42⟩: ∃A,Bn (cs.take (i*5)++R34) (i*5) news=A:=⟨_,rfl⟩
   have hl43:A41.length=(cs.take (i*5)++R34).length:=by rw[←hA42];exact Ce _ _ _ Kb
   try simp only[List.length_append,List.length_take]at hl43
   refine Ab 1 (Ai rfl (Ck (td:=158) (tx:=158) (e:=234) (ii:=(Tryz.prog.info? 234).getD default) (xv:=sL (some ⟨vb,0,none⟩) 1 1) (cap:=cap33) (dl:=(n+1)-i) (dc:=cap33-i) (m:=1) (q:=1) (sz:=5) (o':=i) (i:=0) (j:=0) (b:=b32) (t:=234) (cs:=cs.take (i*5)++R34) (cs':=A41) (news:=news) (LL':=[[cb b32 A41 234],g.seg 234 cs,[cb vb news 234]]) rfl rfl Ae Ae Ae Ae Ag Ae rfl rfl (fun _=>rfl) Kd (Src.at (a:=some ⟨vb,0,none⟩) hnl (fun w_ h_=>(Az (i:=2) (j:=0) (t:=234) (b:=vb) h_ rfl rfl))) hnl Kb h1n hA42 rfl) (fun _=>?_))
   refine Ac (hK40 _ _ _ (Ad (fun K45 hK45=>Bz [(0,true),(1,true),(2,true),(3,true),(4,true),(5,true),(6,false),(7,false),(8,false)] [0,1,2,3,4,5] (Mem w M [g.seg 234 cs,[cb vb news 234]]) Ae Ae Ae rfl Ae (fun _ _ h_=>h_.drawn _) (fun _ h_=>h_.pick [1,2] Al rfl) (Ay 3 ?_))))
   refine Wd.ys (v:=nV .i64 (i+1)) rfl rfl rfl ((Ys.p (v:=.int .i64 (Bt .i64 (i:Int) 1))).conseq (Af (A6 Ag Ag Ag))) (Wd.ys (v:=sL (C8 (some ⟨b32,0,none⟩) cap33 (i+1) 5) ((n+1)-(i+1)) (cap33-(i+1))) rfl rfl rfl (Bk (a:=some ⟨b32,0,none⟩) (len:=n+1) (cap:=cap33) (sz:=5) (k:=.i64) (i:=((i+1:Nat):Int)) rfl Ae Ae Tryz.runUnderlying158 Tryz.sizeOf234 Ag Ag) (Ay 1 (Wd.yc (v:=nV .i64 i) rfl rfl rfl (Ys.yc (Ys.p)) (.inr fun _ h_=>h_.pick [1,2] Al rfl) (Wd.yc (v:=sL (C8 g.a g.cap i 5) (n-i) (g.cap-i)) rfl rfl rfl (Ys.yc (Bk (a:=g.a) (len:=n) (cap:=g.cap) (sz:=5) (k:=.i64) (i:=(i:Int)) rfl Ae Ae Tryz.runUnderlying158 Tryz.sizeOf234 Ag Ag)) (.inr fun _ h_=>h_.pick [1,2] Al rfl) ?_))))
   obtain⟨A46,hA47⟩: ∃A,Bn A41 ((i+1)*5) (cs.drop (i*5))=A:=⟨_,rfl⟩
   have hl48:A46.length=A41.length:=by rw[←hA47];exact Ce _ _ _ Ac5
   try simp only[List.length_append,List.length_take]at hl48
   refine B8 rfl rfl (Ck (td:=158) (tx:=158) (e:=234) (ii:=(Tryz.prog.info? 234).getD default) (xv:=sL (C8 g.a g.cap i 5) (n-i) (g.cap-i)) (cap:=cap33) (dl:=(n+1)-(i+1)) (dc:=cap33-(i+1)) (m:=n-i) (q:=n-i) (sz:=5) (o':=i+1) (i:=0) (j:=0) (b:=b32) (t:=234) (cs:=A41) (cs':=A46) (news:=cs.drop (i*5)) (LL':=[[cb b32 A46 234],g.seg 234 cs,[cb vb news 234]]) rfl rfl Ae Ae Ae Ae Ag Ae rfl rfl (fun _=>rfl) Kd (Src.at (a:=C8 g.a g.cap i 5) (show(cs.drop (i*5)).length=(n-i)*5 by rw[List.length_drop,hcs];omega) (fun w_ h_=>((FS.at (i:=1) (t:=234) h_ rfl (Aj ok hcs)).dropN (cap:=g.cap) (k:=i) (sz:=5) Ag))) (show(cs.drop (i*5)).length=(n-i)*5 by rw[List.length_drop,hcs];omega) Ac5 (one_drop h1c _) hA47 rfl) (.inr fun _ _ h_=>h_.pick [1,2] Al rfl) (fun _=>A7 (hK45 _ _ _ (Ad (fun K50 hK50=>Aa ?_))))
   refine Ab 2 (Ac (hK50 _ _ _ (Aq (fn:=Tryz.f128) rfl ?_)))
   have hB:=ins_own hcs Ag Ag Ag hA42 hA47
   exact fun w_ hS_=>Bb rfl (Aw (sL (some ⟨b32,0,none⟩) (n+1) cap33)) hS_ ⟨⟨false,b32,cap33,R34.drop ((n+1-i)*5)⟩,⟨⟨fun h=>(by cases h),Ag,Ag,(by show cap33*5≤_;rw[List.length_drop];omega)⟩,rfl⟩,rfl,(Mem.cast (by rw[hB];rfl) (hS_.pick [0] Al rfl))⟩
  ·have qh30:=h30;try simp only[zA]at qh30
   refine Ak (hK26 _ _ _ (Ad (fun K53 hK53=>?_)))
   have hn55:=C5 ok Ag
   obtain⟨gn54,gb,gc,gr⟩:=g
   obtain rfl:gn54=false:=hn55
   have hc56:n≤gc:=ok.le
   have hlr_:gc*5≤n*5+gr.length:=ok.len
   have hroom_:n+1≤gc:=by have z_: ¬(((n+1:Nat):Int)>(gc:Int)):=qh30;omega
   refine Aa (Ab 3 (Ah (v:=nV .i64 (n+1)) ((Ys.p (v:=.int .i64 (Bt .i64 (n:Int) 1))).conseq (Af (A6 Ag Ag Ag))) (Ah (v:=sL (some ⟨gb,0,none⟩) (n+1) gc) (Dg (a:=some ⟨gb,0,none⟩) (len:=n) (cap:=gc) (sz:=5) (k:=.i64) (i:=((n+1:Nat):Int)) rfl Ae Ae Tryz.runUnderlying158 Tryz.sizeOf234 Ag Ag) (Ab 1 ?_))))
   refine Ac (hK53 _ _ _ (Ad (fun K58 hK58=>Ad (fun K59 hK59=>Aa ?_))))
   refine Ab 4 (Ah (v:=nV .i64 (i+1)) ((Ys.p (v:=.int .i64 (Bt .i64 (i:Int) 1))).conseq (Af (A6 Ag Ag Ag))) (Ah (v:=Value.slice (C8 (some ⟨gb,0,none⟩) gc (i+1) 5) ((n+1)-(i+1)) (gc-(i+1))) (Bk (a:=some ⟨gb,0,none⟩) (len:=n+1) (cap:=gc) (sz:=5) (k:=.i64) (i:=((i+1:Nat):Int)) rfl Ae Ae Tryz.runUnderlying158 Tryz.sizeOf234 Ag Ag) (Ah (v:=bV false) ((Ho (k:=170) (tS:=158) (tR:=4) (e:=234) (sz:=5) (b:=vb) (b':=gb) (o1:=0) (o2:=(i+1)*5) (la:=1) (ca:=1) (lb:=((n+1)-(i+1))) (cp:=(gc-(i+1))) (i:=1) (j:=0) (i':=0) (j':=0) (t:=234) (t':=234) (cs:=news) (cs':=cs++gr) (fun w_=>Eq.trans (b:=Sem.run Tryz.prog (callFunc 170 #[Value.slice (some ⟨vb,0,none⟩) 1 1,Value.slice (C8 (some ⟨gb,0,none⟩) gc (i+1) 5) ((n+1)-(i+1)) (gc-(i+1))]) w_) Ae (by rw[Gh Ag])) Tryz.func170 Ae Ae Ae Ae Ae Tryz.sizeOf234 Al rfl rfl rfl rfl (by simp only[List.length_append];omega))) (Ab 1 ?_))))
   refine Ac (hK59 _ _ _ (B5 Ae (Ad (fun K61 hK61=>Bz [(0,true),(1,true),(2,true),(3,true),(4,true),(5,true),(6,false),(7,false),(8,false)] [0,1,2,3,4,5] (Mem w M [[cb vb news 234]]) Ae Ae Ae rfl Ae (fun _ _ h_=>h_.drawn _) (fun _ h_=>h_.pick [1] Al rfl) ?_))))
   refine Ay 3 (Wd.ys (v:=nV .i64 (i+1)) rfl rfl rfl ((Ys.p (v:=.int .i64 (Bt .i64 (i:Int) 1))).conseq (Af (A6 Ag Ag Ag))) (Wd.ys (v:=sL (C8 (some ⟨gb,0,none⟩) gc (i+1) 5) ((n+1)-(i+1)) (gc-(i+1))) rfl rfl rfl (Bk (a:=some ⟨gb,0,none⟩) (len:=n+1) (cap:=gc) (sz:=5) (k:=.i64) (i:=((i+1:Nat):Int)) rfl Ae Ae Tryz.runUnderlying158 Tryz.sizeOf234 Ag Ag) (Ay 1 (Wd.yc (v:=nV .i64 i) rfl rfl rfl (Ys.yc (Ys.p)) (.inr fun _ h_=>h_.pick [1] Al rfl) ?_))))
   refine Wd.yc (v:=sL (C8 (some ⟨gb,0,none⟩) gc i 5) ((n+1)-i) (gc-i)) rfl rfl rfl (Ys.yc (Bk (a:=some ⟨gb,0,none⟩) (len:=n+1) (cap:=gc) (sz:=5) (k:=.i64) (i:=(i:Int)) rfl Ae Ae Tryz.runUnderlying158 Tryz.sizeOf234 Ag Ag)) (.inr fun _ h_=>h_.pick [1] Al rfl) ?_
   obtain⟨A62,hA63⟩: ∃A,Bn (cs++gr) ((i+1)*5) (cs.drop (i*5))=A:=⟨_,rfl⟩
   have hl64:A62.length=(cs++gr).length:=by rw[←hA63];exact Ce _ _ _ Ac5
   try simp only[List.length_append,List.length_take]at hl64
   refine B8 rfl rfl (Ck (td:=158) (tx:=158) (e:=234) (ii:=(Tryz.prog.info? 234).getD default) (xv:=sL (C8 (some ⟨gb,0,none⟩) gc i 5) ((n+1)-i) (gc-i)) (cap:=gc) (dl:=(n+1)-(i+1)) (dc:=gc-(i+1)) (m:=(n+1)-i) (q:=n-i) (sz:=5) (o':=i+1) (i:=0) (j:=0) (b:=gb) (t:=234) (cs:=cs++gr) (cs':=A62) (news:=cs.drop (i*5)) (LL':=[[cb gb A62 234],[cb vb news 234]]) rfl rfl Ae Ae Ae Ae Ag Ae rfl rfl (fun _=>rfl) Kd (Src.at (a:=C8 (some ⟨gb,0,none⟩) gc i 5) (show(cs.drop (i*5)).length=(n-i)*5 by rw[List.length_drop,hcs];omega) (fun w_ h_=>(by have z_:=((Az (i:=0) (j:=0) (t:=234) (b:=gb) h_ rfl rfl).dropT (cap:=gc) (k:=i) (m:=n-i) (sz:=5) Ag);rwa[drop_take hcs Ag]at z_))) (show(cs.drop (i*5)).length=(n-i)*5 by rw[List.length_drop,hcs];omega) Ac5 (one_drop h1c _) hA63 rfl) (.inr fun _ _ h_=>h_.pick [1] Al rfl) (fun _=>A7 (hK61 _ _ _ (Ad (fun K66 hK66=>Aa ?_))))
   refine Ab 2 (Ah (v:=sL (C8 (some ⟨gb,0,none⟩) gc i 5) ((n+1)-i) (gc-i)) (Bk (a:=some ⟨gb,0,none⟩) (len:=n+1) (cap:=gc) (sz:=5) (k:=.i64) (i:=(i:Int)) rfl Ae Ae Tryz.runUnderlying158 Tryz.sizeOf234 Ag Ag) ?_)
   obtain⟨A67,hA68⟩: ∃A,Bn A62 (i*5) news=A:=⟨_,rfl⟩
   have hl69:A67.length=A62.length:=by rw[←hA68];exact Ce _ _ _ Kb
   try simp only[List.length_append,List.length_take]at hl69
   refine Ab 1 (Ai rfl (Ck (td:=158) (tx:=158) (e:=234) (ii:=(Tryz.prog.info? 234).getD default) (xv:=sL (some ⟨vb,0,none⟩) 1 1) (cap:=gc) (dl:=(n+1)-i) (dc:=gc-i) (m:=1) (q:=1) (sz:=5) (o':=i) (i:=0) (j:=0) (b:=gb) (t:=234) (cs:=A62) (cs':=A67) (news:=news) (LL':=[[cb gb A67 234],[cb vb news 234]]) rfl rfl Ae Ae Ae Ae Ag Ae rfl rfl (fun _=>rfl) Kd (Src.at (a:=some ⟨vb,0,none⟩) hnl (fun w_ h_=>(Az (i:=1) (j:=0) (t:=234) (b:=vb) h_ rfl rfl))) hnl Kb h1n hA68 rfl) (fun _=>?_))
   refine Ac (hK66 _ _ _ (Ad (fun K71 hK71=>Aa (Ab 2 ?_))))
   refine Ac (hK71 _ _ _ (Aq (fn:=Tryz.f128) rfl ?_))
   have hB:=ins_in hcs Ag Ag Ag hA63 hA68
   exact fun w_ hS_=>Bb rfl (Aw (sL (some ⟨gb,0,none⟩) (n+1) gc)) hS_ ⟨⟨false,gb,gc,gr.drop 5⟩,⟨⟨fun h=>(by cases h),Ag,ok.mx,(by show gc*5≤_;rw[List.length_drop];omega)⟩,rfl⟩,rfl,(Mem.cast (by rw[hB];rfl) (hS_.pick [0] Al rfl))⟩
theorem delRD_c(g:FS)(cs:List Value)(n i:Nat)(M:List Nat)(w:World)(hl:Mem w M [g.seg 234 cs] w)(ok:g.ok 5 n)(hcs:cs.length=n*5)(hi:i<n)(hn:n≤100000)(h1c: ∀v∈cs,v.oneCell'=true):Calls Tryz.prog 129 #[sV g n,nV .i64 i,nV .i64 (i+1)] w (Bj w (fun g':FS=>g'.ok 5 (n-1)∧g'.nil=false) (fun g'=>.slice g'.a (n-1) g'.cap) M (fun g'=>[g'.seg 234 (cs.take (i*5)++cs.drop ((i+1)*5))])):=by
 have hle_:=ok.le;have hmx_:=ok.mx;have h2_:=hcs
 refine Ar (M:=M) (LL:=[g.seg 234 cs]) (n:=33) Tryz.func129 rfl rfl A5 (hl) (Ad (fun K1 hK1=>?_))
 refine Aa (Ab 1 (Ac (hK1 _ _ _ (Ad (fun K2 hK2=>?_)))))
 refine Aa (Ab 5 (Ah (v:=sL (C8 g.a n i 5) ((i+1)-i) (n-i)) (Hn (a:=g.a) (len:=n) (cap:=g.cap) (sz:=5) (k:=.i64) (k':=.i64) (k'':=.i64) (i:=(i:Int)) (j:=((i+1:Nat):Int)) (q:=(n:Int)) rfl Ae Ae Ae Ae Tryz.runUnderlying158 Tryz.sizeOf234 Ag Ag Ag Ag) (Ac (hK2 _ _ _ ?_))))
 refine Ad (fun K4 hK4=>Ad (fun K5 hK5=>?_))
 refine Aa (Ab 3 (Ac (hK5 _ _ _ ?_)))
 refine Ao (((i:Nat):Int)==((i+1:Nat):Int)) Ae (fun h7=>?_) (fun h8=>?_)
 ·have qh7:=h7;try simp only[zA]at qh7
  (exfalso;omega)
 ·have qh8:=h8;try simp only[zA]at qh8
  refine Ak (hK4 _ _ _ (Ad (fun K10 hK10=>Aa (Ab 3 ?_))))
  refine Ac (hK10 _ _ _ (Ad (fun K12 hK12=>?_)))
  have hn14:=C5 ok Ag
  obtain⟨gn13,gb,gc,gr⟩:=g
  obtain rfl:gn13=false:=hn14
  have hc15:n≤gc:=ok.le
  have hlr_:gc*5≤n*5+gr.length:=ok.len
  refine Bz [(0,true),(1,true),(2,true),(3,true),(4,false),(5,false),(6,false),(7,false)] [0,1,2,3] (Mem w M []) Ae Ae Ae rfl Ae (fun _ _ h_=>h_.drawn _) (fun _ h_=>h_.pick [] Al rfl) (Ay 2 (Wd.ys (v:=sL (some ⟨gb,0,none⟩) i gc) rfl rfl rfl (Dg (a:=some ⟨gb,0,none⟩) (len:=n) (cap:=gc) (sz:=5) (k:=.i64) (i:=(i:Int)) rfl Ae Ae Tryz.runUnderlying158 Tryz.sizeOf234 Ag Ag) (Ay 1 (Wd.yc (v:=nV .i64 (i+1)) rfl rfl rfl (Ys.yc (Ys.p)) (.inr fun _ h_=>h_.pick [] Al rfl) ?_))))
  refine Wd.yc (v:=sL (C8 (some ⟨gb,0,none⟩) gc (i+1) 5) (n-(i+1)) (gc-(i+1))) rfl rfl rfl (Ys.yc (Bk (a:=some ⟨gb,0,none⟩) (len:=n) (cap:=gc) (sz:=5) (k:=.i64) (i:=((i+1:Nat):Int)) rfl Ae Ae Tryz.runUnderlying158 Tryz.sizeOf234 Ag Ag)) (.inr fun _ h_=>h_.pick [] Al rfl) ?_
  obtain⟨A16,hA17⟩: ∃A,Bn (cs++gr) (i*5) (cs.drop ((i+1)*5))=A:=⟨_,rfl⟩
  have hl18:A16.length=(cs++gr).length:=by rw[←hA17];exact Ce _ _ _ (by rw[(show(cs.drop ((i+1)*5)).length=(n-(i+1))*5 by rw[List.length_drop,hcs];omega)];(try simp only[List.length_append,List.length_take]);omega)
  try simp only[List.length_append,List.length_take]at hl18
  refine B8 rfl rfl (Hp (t:=158) (u:=158) (e:=234) (eu:=234) (ii:=(Tryz.prog.info? 234).getD default) (xv:=Value.slice (C8 (some ⟨gb,0,none⟩) gc (i+1) 5) (n-(i+1)) (gc-(i+1))) (nn:=i) (m:=n-(i+1)) (k:=n-1) (cap:=gc) (sz:=5) (i:=0) (j:=0) (b:=gb) (ty:=234) (cs:=cs++gr) (cs':=A16) (news:=cs.drop ((i+1)*5)) (LL':=[[cb gb A16 234]]) rfl rfl Ae Ae Ae Ae Ae Ae rfl rfl (fun _=>rfl) Ag Ag (Src.at (a:=C8 (some ⟨gb,0,none⟩) gc (i+1) 5) (show(cs.drop ((i+1)*5)).length=(n-(i+1))*5 by rw[List.length_drop,hcs];omega) (fun w_ h_=>(by have z_:=((Az (i:=0) (j:=0) (t:=234) (b:=gb) h_ rfl rfl).dropT (cap:=gc) (k:=i+1) (m:=n-(i+1)) (sz:=5) Ag);rwa[drop_take hcs Ag]at z_))) (by rw[(show(cs.drop ((i+1)*5)).length=(n-(i+1))*5 by rw[List.length_drop,hcs];omega)];(try simp only[List.length_append,List.length_take]);omega) (one_drop h1c _) hA17 rfl) (.inr fun _ _ h_=>h_.pick [] Al rfl) (fun _=>Wd.yc (v:=Value.slice (some ⟨gb,0,none⟩) (n-1) gc) rfl rfl rfl (Ys.yc (Ys.p)) (.inl Ae) (A7 (hK12 _ _ _ (Ad (fun K20 hK20=>?_)))))
  refine Aa (Ab 4 (Ah (v:=sL (C8 (some ⟨gb,0,none⟩) gc (n-1) 5) (n-(n-1)) (gc-(n-1))) (G9 (a:=some ⟨gb,0,none⟩) (len:=n-1) (cap:=gc) (sz:=5) (k:=.i64) (i:=((n-1:Nat):Int)) (k':=.i64) (j:=(n:Int)) rfl Ae Ae Ae Tryz.runUnderlying158 Tryz.sizeOf234 Ag Ag Ag) ?_))
  obtain⟨A21,hA22⟩: ∃A,Bn A16 ((n-1)*5) zl9=A:=⟨_,rfl⟩
  have hl23:A21.length=A16.length:=by rw[←hA22];exact Ce _ _ _ Th
  refine Ai rfl (Je (t:=158) (e:=234) (ii:=(Tryz.prog.info? 234).getD default) (z:=aV zl9) (m:=0) (cap:=gc-(n-1)) (o':=(n-1)*5) (i:=0) (j:=0) (b:=gb) (ty:=234) (cs:=A16) (cs':=A21) (zs:=zl9) (LL':=[[cb gb A21 234]]) rfl rfl Ae Ae Ae (Eq.trans (b:=sL (C8 (some ⟨gb,0,none⟩) gc (n-1) 5) (n-(n-1)) (gc-(n-1))) Ae (by rw[Gh Ag];congr 1;omega)) rfl rfl Ae Th Zb hA22 rfl) (fun _=>Ac (hK20 _ _ _ (Ad (fun K25 hK25=>Aa ?_))))
  refine Ab 2 (Ac (hK25 _ _ _ (Aq (fn:=Tryz.f129) rfl ?_)))
  have hB:=del_in (zs:=zl9) hcs Ag rfl hA17 hA22
  exact fun w_ hS_=>Bb rfl (Aw (Value.slice (some ⟨gb,0,none⟩) (n-1) gc)) hS_ ⟨⟨false,gb,gc,zl9++gr⟩,⟨⟨fun h=>(by cases h),(by show n-1≤gc;omega),ok.mx,(by show gc*5≤_;simp only[List.length_append,List.length_cons,List.length_nil];omega)⟩,rfl⟩,rfl,(Mem.cast (by rw[hB];rfl) (hS_.pick [0] Al rfl))⟩
end ZD
namespace ZN
theorem drop_take{cs r:List Value}{n i s:Nat}(hc:cs.length=n*s)(hi:i≤n):((cs++r).drop (i*s)).take ((n-i)*s)=cs.drop (i*s):=by
  have h:i*s≤n*s:=Nat.mul_le_mul_right _ hi
  rw[List.drop_append_of_le_length Ag,List.take_append_of_le_length Ti]
  exact List.take_of_length_le Ti
theorem one_drop{cs:List Value}(h: ∀v∈cs,v.oneCell'=true)(k:Nat): ∀v∈cs.drop k,v.oneCell'=true:=fun v hv=>h v (List.mem_of_mem_drop hv)
theorem putAt_app{a b c:List Value}{o:Nat}{v:List Value}(ho:o=a.length)(hv:v.length=b.length):Bn (a++(b++c)) o v=a++(v++c):=by
  subst ho;unfold Bn
  rw[List.take_left,hv,←List.drop_drop,List.drop_left,List.drop_left]
theorem ins_in{cs r news A1 A2:List Value}{n i:Nat}(hc:cs.length=n*6)(hi:i<n)(hn:news.length=6)(hr:6≤r.length)(h1:Bn (cs++r) ((i+1)*6) (cs.drop (i*6))=A1)(h2:Bn A1 (i*6) news=A2):
    A2=(cs.take (i*6)++(news++cs.drop (i*6)))++r.drop 6:=by
  subst h1;subst h2
  obtain⟨a,b,rfl,ha⟩: ∃a b,cs=a++b∧a.length=i*6:=⟨cs.take (i*6),cs.drop (i*6),(List.take_append_drop _ _).symm,by rw[List.length_take];omega⟩
  rw[List.length_append]at hc
  obtain⟨x,r',rfl,hx⟩: ∃x r',r=x++r'∧x.length=6:=⟨r.take 6,r.drop 6,(List.take_append_drop _ _).symm,by rw[List.length_take];omega⟩
  rw[←ha,List.drop_left,List.take_left]
  have e:Bn (a++b++(x++r')) ((i+1)*6) b=a++(b.take 6++(b++r')):=by
    have hb:b=b.take 6++b.drop 6:=(List.take_append_drop _ _).symm
    have hb2:(b.take 6).length=6:=by rw[List.length_take];omega
    have e1:a++b++(x++r')=(a++b.take 6)++((b.drop 6++x)++r'):=by
      rw[List.append_assoc,List.append_assoc,List.append_assoc]
      congr 1
      rw[←List.append_assoc (b.take 6),←hb]
    rw[e1,putAt_app (by rw[List.length_append,hb2];omega) (by rw[List.length_append,List.length_drop,hx];omega),List.append_assoc]
  rw[e,putAt_app rfl (by rw[List.length_take,hn];omega)]
  rw[show(x++r').drop 6=r' by rw[←hx,List.drop_left]]
  simp only[List.append_assoc]
theorem ins_own{cs R news A1 A2:List Value}{n i:Nat}(hc:cs.length=n*6)(hi:i<n)(hn:news.length=6)(hR:(n+1-i)*6≤R.length)(h1:Bn (cs.take (i*6)++R) (i*6) news=A1)(h2:Bn A1 ((i+1)*6) (cs.drop (i*6))=A2):
    A2=(cs.take (i*6)++(news++cs.drop (i*6)))++R.drop ((n+1-i)*6):=by
  subst h1;subst h2
  have ha:(cs.take (i*6)).length=i*6:=by rw[List.length_take];omega
  have hd:(cs.drop (i*6)).length=(n-i)*6:=by rw[List.length_drop];omega
  obtain⟨x,y,z,rfl,hx,hy⟩: ∃x y z,R=x++(y++z)∧x.length=6∧y.length=(n-i)*6:=
    ⟨R.take 6,(R.drop 6).take ((n-i)*6),(R.drop 6).drop ((n-i)*6),by rw[List.take_append_drop,List.take_append_drop],by rw[List.length_take];omega,by rw[List.length_take,List.length_drop];omega⟩
  rw[putAt_app ha.symm (by rw[hn,hx]),←List.append_assoc,putAt_app (by rw[List.length_append,ha,hn];omega) (by rw[hd,hy])]
  rw[show(n+1-i)*6=(x++y).length by rw[List.length_append,hx,hy];omega,←List.append_assoc x,List.drop_left]
  simp only[List.append_assoc]
theorem del_in{cs r zs A1 A2:List Value}{n i:Nat}(hc:cs.length=n*6)(hi:i<n)(hz:zs.length=6)(h1:Bn (cs++r) (i*6) (cs.drop ((i+1)*6))=A1)(h2:Bn A1 ((n-1)*6) zs=A2):
    A2=(cs.take (i*6)++cs.drop ((i+1)*6))++(zs++r):=by
  subst h1;subst h2
  obtain⟨a,x,b,rfl,ha,hx⟩: ∃a x b,cs=a++(x++b)∧a.length=i*6∧x.length=6:=
    ⟨cs.take (i*6),(cs.drop (i*6)).take 6,(cs.drop (i*6)).drop 6,by rw[List.take_append_drop,List.take_append_drop],by rw[List.length_take];omega,by rw[List.length_take,List.length_drop];omega⟩
  simp only[List.length_append]at hc
  have e1:(a++(x++b)).drop ((i+1)*6)=b:=by
    rw[show(i+1)*6=(a++x).length by rw[List.length_append,ha,hx];omega,←List.append_assoc,List.drop_left]
  have e2:(a++(x++b)).take (i*6)=a:=by rw[←ha,List.take_left]
  rw[e1,e2]
  have hb:x++b=(x++b).take b.length++(x++b).drop b.length:=(List.take_append_drop _ _).symm
  have e3:a++(x++b)++r=a++((x++b).take b.length++((x++b).drop b.length++r)):=by
    rw[List.append_assoc,←List.append_assoc ((x++b).take b.length),←hb]
  rw[e3,putAt_app ha.symm (by rw[List.length_take,List.length_append];omega),←List.append_assoc]
  rw[putAt_app (by rw[List.length_append,ha];omega) (by rw[List.length_drop,List.length_append,hz];omega)]
theorem insRN_c(g:FS)(cs news:List Value)(vb n i:Nat)(M:List Nat)(w:World)(hl:Mem w M [g.seg 223 cs,[cb vb news 223]] w)(ok:g.ok 6 n)(hcs:cs.length=n*6)(hi:i≤n)(hn:n≤100000)(hnl:news.length=1*6)(h1c: ∀v∈cs,v.oneCell'=true)(h1n: ∀v∈news,v.oneCell'=true):Calls Tryz.prog 180 #[sV g n,nV .i64 i,sL (some ⟨vb,0,none⟩) 1 1] w (Bj w (fun g':FS=>g'.ok 6 (n+1)∧g'.nil=false) (fun g'=>.slice g'.a (n+1) g'.cap) M (fun g'=>[g'.seg 223 (cs.take (i*6)++(news++cs.drop (i*6)))])):=by
 have hle_:=ok.le;have hmx_:=ok.mx;have h2_:=hcs
 refine Ar (M:=M) (LL:=[g.seg 223 cs,[cb vb news 223]]) (n:=95) Tryz.func180 rfl rfl A5 (hl) (Ad (fun K1 hK1=>?_))
 refine Aa (Ab 1 (Ac (hK1 _ _ _ (Ad (fun K2 hK2=>?_)))))
 refine Aa (Ab 2 (Ah (v:=sL (C8 g.a g.cap i 6) (n-i) (g.cap-i)) (Bk (a:=g.a) (len:=n) (cap:=g.cap) (sz:=6) (k:=.i64) (i:=(i:Int)) rfl Ae Ae Tryz.runUnderlying161 Tryz.sizeOf223 Ag Ag) (Ac (hK2 _ _ _ ?_))))
 refine Ad (fun K4 hK4=>Aa (Ab 3 (Ac (hK4 _ _ _ ?_))))
 refine Ad (fun K6 hK6=>Ad (fun K7 hK7=>?_))
 refine Aa (Ab 2 (Ac (hK7 _ _ _ (B4 Ae ?_))))
 refine Ak (hK6 _ _ _ (Ad (fun K10 hK10=>Aa (Ab 3 ?_))))
 refine Ac (hK10 _ _ _ (Ad (fun K12 hK12=>Ad (fun K13 hK13=>Aa ?_))))
 refine Ab 3 (Ac (hK13 _ _ _ ?_))
 refine Ao (((i:Nat):Int)==(n:Int)) Ae (fun h15=>?_) (fun h16=>?_)
 ·have qh15:=h15;try simp only[zA]at qh15
  refine Ad (fun K17 hK17=>Aa (Ab 2 (Ax rfl (HtS.append (eu:=223) (xv:=Value.slice (some ⟨vb,0,none⟩) 1 1) (i:=0) (g:=g) (e:=223) (ii:=(Tryz.prog.info? 223).getD default) (z:=aV Ux) (sz:=6) (bytes:=24) (nn:=n) (m:=1) (k:=n+1) (xs:=cs) (news:=news) (cs':=cs++news) (Lo:=fun g18=>[g18.seg 223 (cs++news),[cb vb news 223]]) rfl rfl Ae Ae Ae Ae Ae Ae Ae Ae Ae rfl ok hcs (fun _=>rfl) (Src.at (a:=some ⟨vb,0,none⟩) hnl (fun w_ h_=>(Az (i:=1) (j:=0) (t:=223) (b:=vb) h_ rfl rfl))) hnl h1n rfl (by simp only[maxLen];omega) Ag rfl (fun _=>rfl)) (fun g18 hx23=>?_))))
  obtain⟨ok19,hn20,hn21⟩:=hx23
  refine Ab 1 (Ac (hK17 _ _ _ (Aq (fn:=Tryz.f180) rfl ?_)))
  have hin_:i=n:=by omega
  have hB:cs.take (i*6)++(news++cs.drop (i*6))=cs++news:=by rw[List.take_of_length_le Ag,List.drop_of_length_le Ag,List.append_nil]
  exact fun w_ hS_=>Bb rfl (Aw (sV g18 (n+1))) hS_ ⟨g18,⟨ok19,(hn20 Ag)⟩,rfl,(Mem.cast (by rw[hB];rfl) (hS_.pick [0] Al rfl))⟩
 ·have qh16:=h16;try simp only[zA]at qh16
  refine Ak (hK12 _ _ _ (Ad (fun K26 hK26=>Ad (fun K27 hK27=>Aa ?_))))
  refine Ab 2 (Ah (v:=nV .i64 (n+1)) ((Ys.p (v:=.int .i64 (Bt .i64 (n:Int) 1))).conseq (Af (A6 Ag Ag Ag))) (Ab 3 (Ac (hK27 _ _ _ ?_))))
  refine Ao (decide (((n+1:Nat):Int)>(g.cap:Int))) Ae (fun h29=>?_) (fun h30=>?_)
  ·have qh29:=h29;try simp only[zA]at qh29
   refine Ad (fun K31 hK31=>Aa (Ab 2 (Ah (v:=sV g i) (Dg (a:=g.a) (len:=n) (cap:=g.cap) (sz:=6) (k:=.i64) (i:=(i:Int)) rfl Ae Ae Tryz.runUnderlying161 Tryz.sizeOf223 Ag Ag) (Ab 2 ?_))))
   refine Ah (v:=nV .i64 (n+1)) ((Ys.p (v:=.int .i64 (Bt .i64 (n:Int) 1))).conseq (Af (A6 Ag Ag Ag))) (Ab 1 (Ah (v:=iV .i64 (((n+1:Nat):Int)-(i:Int))) ((Ys.p (v:=.int .i64 (Hk .i64 ((n+1:Nat):Int) (i:Int)))).conseq (Af (Er rfl Ag Ag))) (Ai rfl (Iq (t:=161) (u:=3) (e:=223) (ii:=(Tryz.prog.info? 223).getD default) (z:=aV Ux) (ku:=.i64) (kk:=.i64) (lv:=((n+1:Nat):Int)-(i:Int)) (a:=g.a) (nn:=i) (m:=n+1-i) (k:=n+1) (cap:=g.cap) (sz:=6) (bytes:=24) (xs:=cs.take (i*6)) (LL':=fun b32 R34=>[[cb b32 (cs.take (i*6)++R34) 223],g.seg 223 cs,[cb vb news 223]]) rfl rfl Ae Ae Ae Ae Ae Ae Ae Ae Ae Ag (fun w_ h_=>(FS.at (i:=0) (t:=223) h_ rfl (Aj ok hcs)).take _) (by rw[List.length_take,hcs];omega) Ag Ag Ag Ag Ag (fun _ _=>rfl)) (fun x38=>?_))))
   obtain⟨⟨b32,cap33,R34⟩,hc35,hm36,hR37⟩:=x38
   refine Bu (LL':=[[cb b32 (cs.take (i*6)++R34) 223],g.seg 223 cs,[cb vb news 223]]) rfl ?_
   dsimp only at hc35 hm36 hR37
   refine Ab 1 (Ac (hK31 _ _ _ (Ad (fun K40 hK40=>Aa ?_))))
   refine Ab 2 (Ah (v:=sL (C8 (some ⟨b32,0,none⟩) cap33 i 6) ((n+1)-i) (cap33-i)) (Bk (a:=some ⟨b32,0,none⟩) (len:=n+1) (cap:=cap33) (sz:=6) (k:=.i64) (i:=(i:Int)) rfl Ae Ae Tryz.runUnderlying161 Tryz.sizeOf223 Ag Ag) ?_)
   obtain⟨A41,hA42⟩: ∃A,Bn (cs.take (i*6)++R34) (i*6) news=A:=⟨_,rfl⟩
   have hl43:A41.length=(cs.take (i*6)++R34).length:=by rw[←hA42];exact Ce _ _ _ Kb
   try simp only[List.length_append,List.length_take]at hl43
   refine Ab 1 (Ai rfl (Ck (td:=161) (tx:=161) (e:=223) (ii:=(Tryz.prog.info? 223).getD default) (xv:=sL (some ⟨vb,0,none⟩) 1 1) (cap:=cap33) (dl:=(n+1)-i) (dc:=cap33-i) (m:=1) (q:=1) (sz:=6) (o':=i) (i:=0) (j:=0) (b:=b32) (t:=223) (cs:=cs.take (i*6)++R34) (cs':=A41) (news:=news) (LL':=[[cb b32 A41 223],g.seg 223 cs,[cb vb news 223]]) rfl rfl Ae Ae Ae Ae Ag Ae rfl rfl (fun _=>rfl) Kd (Src.at (a:=some ⟨vb,0,none⟩) hnl (fun w_ h_=>(Az (i:=2) (j:=0) (t:=223) (b:=vb) h_ rfl rfl))) hnl Kb h1n hA42 rfl) (fun _=>?_))
   refine Ac (hK40 _ _ _ (Ad (fun K45 hK45=>Bz [(0,true),(1,true),(2,true),(3,true),(4,true),(5,true),(6,false),(7,false),(8,false)] [0,1,2,3,4,5] (Mem w M [g.seg 223 cs,[cb vb news 223]]) Ae Ae Ae rfl Ae (fun _ _ h_=>h_.drawn _) (fun _ h_=>h_.pick [1,2] Al rfl) (Ay 3 ?_))))
   refine Wd.ys (v:=nV .i64 (i+1)) rfl rfl rfl ((Ys.p (v:=.int .i64 (Bt .i64 (i:Int) 1))).conseq (Af (A6 Ag Ag Ag))) (Wd.ys (v:=sL (C8 (some ⟨b32,0,none⟩) cap33 (i+1) 6) ((n+1)-(i+1)) (cap33-(i+1))) rfl rfl rfl (Bk (a:=some ⟨b32,0,none⟩) (len:=n+1) (cap:=cap33) (sz:=6) (k:=.i64) (i:=((i+1:Nat):Int)) rfl Ae Ae Tryz.runUnderlying161 Tryz.sizeOf223 Ag Ag) (Ay 1 (Wd.yc (v:=nV .i64 i) rfl rfl rfl (Ys.yc (Ys.p)) (.inr fun _ h_=>h_.pick [1,2] Al rfl) (Wd.yc (v:=sL (C8 g.a g.cap i 6) (n-i) (g.cap-i)) rfl rfl rfl (Ys.yc (Bk (a:=g.a) (len:=n) (cap:=g.cap) (sz:=6) (k:=.i64) (i:=(i:Int)) rfl Ae Ae Tryz.runUnderlying161 Tryz.sizeOf223 Ag Ag)) (.inr fun _ h_=>h_.pick [1,2] Al rfl) ?_))))
   obtain⟨A46,hA47⟩: ∃A,Bn A41 ((i+1)*6) (cs.drop (i*6))=A:=⟨_,rfl⟩
   have hl48:A46.length=A41.length:=by rw[←hA47];exact Ce _ _ _ Tg
   try simp only[List.length_append,List.length_take]at hl48
   refine B8 rfl rfl (Ck (td:=161) (tx:=161) (e:=223) (ii:=(Tryz.prog.info? 223).getD default) (xv:=sL (C8 g.a g.cap i 6) (n-i) (g.cap-i)) (cap:=cap33) (dl:=(n+1)-(i+1)) (dc:=cap33-(i+1)) (m:=n-i) (q:=n-i) (sz:=6) (o':=i+1) (i:=0) (j:=0) (b:=b32) (t:=223) (cs:=A41) (cs':=A46) (news:=cs.drop (i*6)) (LL':=[[cb b32 A46 223],g.seg 223 cs,[cb vb news 223]]) rfl rfl Ae Ae Ae Ae Ag Ae rfl rfl (fun _=>rfl) Kd (Src.at (a:=C8 g.a g.cap i 6) (show(cs.drop (i*6)).length=(n-i)*6 by rw[List.length_drop,hcs];omega) (fun w_ h_=>((FS.at (i:=1) (t:=223) h_ rfl (Aj ok hcs)).dropN (cap:=g.cap) (k:=i) (sz:=6) Ag))) (show(cs.drop (i*6)).length=(n-i)*6 by rw[List.length_drop,hcs];omega) Tg (one_drop h1c _) hA47 rfl) (.inr fun _ _ h_=>h_.pick [1,2] Al rfl) (fun _=>A7 (hK45 _ _ _ (Ad (fun K50 hK50=>Aa ?_))))
   refine Ab 2 (Ac (hK50 _ _ _ (Aq (fn:=Tryz.f180) rfl ?_)))
   have hB:=ins_own hcs Ag Ag Ag hA42 hA47
   exact fun w_ hS_=>Bb rfl (Aw (sL (some ⟨b32,0,none⟩) (n+1) cap33)) hS_ ⟨⟨false,b32,cap33,R34.drop ((n+1-i)*6)⟩,⟨⟨fun h=>(by cases h),Ag,Ag,(by show cap33*6≤_;rw[List.length_drop];omega)⟩,rfl⟩,rfl,(Mem.cast (by rw[hB];rfl) (hS_.pick [0] Al rfl))⟩
  ·have qh30:=h30;try simp only[zA]at qh30
   refine Ak (hK26 _ _ _ (Ad (fun K53 hK53=>?_)))
   have hn55:=C5 ok Ag
   obtain⟨gn54,gb,gc,gr⟩:=g
   obtain rfl:gn54=false:=hn55
   have hc56:n≤gc:=ok.le
   have hlr_:gc*6≤n*6+gr.length:=ok.len
   have hroom_:n+1≤gc:=by have z_: ¬(((n+1:Nat):Int)>(gc:Int)):=qh30;omega
   refine Aa (Ab 3 (Ah (v:=nV .i64 (n+1)) ((Ys.p (v:=.int .i64 (Bt .i64 (n:Int) 1))).conseq (Af (A6 Ag Ag Ag))) (Ah (v:=sL (some ⟨gb,0,none⟩) (n+1) gc) (Dg (a:=some ⟨gb,0,none⟩) (len:=n) (cap:=gc) (sz:=6) (k:=.i64) (i:=((n+1:Nat):Int)) rfl Ae Ae Tryz.runUnderlying161 Tryz.sizeOf223 Ag Ag) (Ab 1 ?_))))
   refine Ac (hK53 _ _ _ (Ad (fun K58 hK58=>Ad (fun K59 hK59=>Aa ?_))))
   refine Ab 4 (Ah (v:=nV .i64 (i+1)) ((Ys.p (v:=.int .i64 (Bt .i64 (i:Int) 1))).conseq (Af (A6 Ag Ag Ag))) (Ah (v:=Value.slice (C8 (some ⟨gb,0,none⟩) gc (i+1) 6) ((n+1)-(i+1)) (gc-(i+1))) (Bk (a:=some ⟨gb,0,none⟩) (len:=n+1) (cap:=gc) (sz:=6) (k:=.i64) (i:=((i+1:Nat):Int)) rfl Ae Ae Tryz.runUnderlying161 Tryz.sizeOf223 Ag Ag) (Ah (v:=bV false) ((Ho (k:=188) (tS:=161) (tR:=4) (e:=223) (sz:=6) (b:=vb) (b':=gb) (o1:=0) (o2:=(i+1)*6) (la:=1) (ca:=1) (lb:=((n+1)-(i+1))) (cp:=(gc-(i+1))) (i:=1) (j:=0) (i':=0) (j':=0) (t:=223) (t':=223) (cs:=news) (cs':=cs++gr) (fun w_=>Eq.trans (b:=Sem.run Tryz.prog (callFunc 188 #[Value.slice (some ⟨vb,0,none⟩) 1 1,Value.slice (C8 (some ⟨gb,0,none⟩) gc (i+1) 6) ((n+1)-(i+1)) (gc-(i+1))]) w_) Ae (by rw[Gh Ag])) Tryz.func188 Ae Ae Ae Ae Ae Tryz.sizeOf223 Al rfl rfl rfl rfl (by simp only[List.length_append];omega))) (Ab 1 ?_))))
   refine Ac (hK59 _ _ _ (B5 Ae (Ad (fun K61 hK61=>Bz [(0,true),(1,true),(2,true),(3,true),(4,true),(5,true),(6,false),(7,false),(8,false)] [0,1,2,3,4,5] (Mem w M [[cb vb news 223]]) Ae Ae Ae rfl Ae (fun _ _ h_=>h_.drawn _) (fun _ h_=>h_.pick [1] Al rfl) ?_))))
   refine Ay 3 (Wd.ys (v:=nV .i64 (i+1)) rfl rfl rfl ((Ys.p (v:=.int .i64 (Bt .i64 (i:Int) 1))).conseq (Af (A6 Ag Ag Ag))) (Wd.ys (v:=sL (C8 (some ⟨gb,0,none⟩) gc (i+1) 6) ((n+1)-(i+1)) (gc-(i+1))) rfl rfl rfl (Bk (a:=some ⟨gb,0,none⟩) (len:=n+1) (cap:=gc) (sz:=6) (k:=.i64) (i:=((i+1:Nat):Int)) rfl Ae Ae Tryz.runUnderlying161 Tryz.sizeOf223 Ag Ag) (Ay 1 (Wd.yc (v:=nV .i64 i) rfl rfl rfl (Ys.yc (Ys.p)) (.inr fun _ h_=>h_.pick [1] Al rfl) ?_))))
   refine Wd.yc (v:=sL (C8 (some ⟨gb,0,none⟩) gc i 6) ((n+1)-i) (gc-i)) rfl rfl rfl (Ys.yc (Bk (a:=some ⟨gb,0,none⟩) (len:=n+1) (cap:=gc) (sz:=6) (k:=.i64) (i:=(i:Int)) rfl Ae Ae Tryz.runUnderlying161 Tryz.sizeOf223 Ag Ag)) (.inr fun _ h_=>h_.pick [1] Al rfl) ?_
   obtain⟨A62,hA63⟩: ∃A,Bn (cs++gr) ((i+1)*6) (cs.drop (i*6))=A:=⟨_,rfl⟩
   have hl64:A62.length=(cs++gr).length:=by rw[←hA63];exact Ce _ _ _ Tg
   try simp only[List.length_append,List.length_take]at hl64
   refine B8 rfl rfl (Ck (td:=161) (tx:=161) (e:=223) (ii:=(Tryz.prog.info? 223).getD default) (xv:=sL (C8 (some ⟨gb,0,none⟩) gc i 6) ((n+1)-i) (gc-i)) (cap:=gc) (dl:=(n+1)-(i+1)) (dc:=gc-(i+1)) (m:=(n+1)-i) (q:=n-i) (sz:=6) (o':=i+1) (i:=0) (j:=0) (b:=gb) (t:=223) (cs:=cs++gr) (cs':=A62) (news:=cs.drop (i*6)) (LL':=[[cb gb A62 223],[cb vb news 223]]) rfl rfl Ae Ae Ae Ae Ag Ae rfl rfl (fun _=>rfl) Kd (Src.at (a:=C8 (some ⟨gb,0,none⟩) gc i 6) (show(cs.drop (i*6)).length=(n-i)*6 by rw[List.length_drop,hcs];omega) (fun w_ h_=>(by have z_:=((Az (i:=0) (j:=0) (t:=223) (b:=gb) h_ rfl rfl).dropT (cap:=gc) (k:=i) (m:=n-i) (sz:=6) Ag);rwa[drop_take hcs Ag]at z_))) (show(cs.drop (i*6)).length=(n-i)*6 by rw[List.length_drop,hcs];omega) Tg (one_drop h1c _) hA63 rfl) (.inr fun _ _ h_=>h_.pick [1] Al rfl) (fun _=>A7 (hK61 _ _ _ (Ad (fun K66 hK66=>Aa ?_))))
   refine Ab 2 (Ah (v:=sL (C8 (some ⟨gb,0,none⟩) gc i 6) ((n+1)-i) (gc-i)) (Bk (a:=some ⟨gb,0,none⟩) (len:=n+1) (cap:=gc) (sz:=6) (k:=.i64) (i:=(i:Int)) rfl Ae Ae Tryz.runUnderlying161 Tryz.sizeOf223 Ag Ag) ?_)
   obtain⟨A67,hA68⟩: ∃A,Bn A62 (i*6) news=A:=⟨_,rfl⟩
   have hl69:A67.length=A62.length:=by rw[←hA68];exact Ce _ _ _ Kb
   try simp only[List.length_append,List.length_take]at hl69
   refine Ab 1 (Ai rfl (Ck (td:=161) (tx:=161) (e:=223) (ii:=(Tryz.prog.info? 223).getD default) (xv:=sL (some ⟨vb,0,none⟩) 1 1) (cap:=gc) (dl:=(n+1)-i) (dc:=gc-i) (m:=1) (q:=1) (sz:=6) (o':=i) (i:=0) (j:=0) (b:=gb) (t:=223) (cs:=A62) (cs':=A67) (news:=news) (LL':=[[cb gb A67 223],[cb vb news 223]]) rfl rfl Ae Ae Ae Ae Ag Ae rfl rfl (fun _=>rfl) Kd (Src.at (a:=some ⟨vb,0,none⟩) hnl (fun w_ h_=>(Az (i:=1) (j:=0) (t:=223) (b:=vb) h_ rfl rfl))) hnl Kb h1n hA68 rfl) (fun _=>?_))
   refine Ac (hK66 _ _ _ (Ad (fun K71 hK71=>Aa (Ab 2 ?_))))
   refine Ac (hK71 _ _ _ (Aq (fn:=Tryz.f180) rfl ?_))
   have hB:=ins_in hcs Ag Ag Ag hA63 hA68
   exact fun w_ hS_=>Bb rfl (Aw (sL (some ⟨gb,0,none⟩) (n+1) gc)) hS_ ⟨⟨false,gb,gc,gr.drop 6⟩,⟨⟨fun h=>(by cases h),Ag,ok.mx,(by show gc*6≤_;rw[List.length_drop];omega)⟩,rfl⟩,rfl,(Mem.cast (by rw[hB];rfl) (hS_.pick [0] Al rfl))⟩
theorem delRN_c(g:FS)(cs:List Value)(n i:Nat)(M:List Nat)(w:World)(hl:Mem w M [g.seg 223 cs] w)(ok:g.ok 6 n)(hcs:cs.length=n*6)(hi:i<n)(hn:n≤100000)(h1c: ∀v∈cs,v.oneCell'=true):Calls Tryz.prog 125 #[sV g n,nV .i64 i,nV .i64 (i+1)] w (Bj w (fun g':FS=>g'.ok 6 (n-1)∧g'.nil=false) (fun g'=>.slice g'.a (n-1) g'.cap) M (fun g'=>[g'.seg 223 (cs.take (i*6)++cs.drop ((i+1)*6))])):=by
 have hle_:=ok.le;have hmx_:=ok.mx;have h2_:=hcs
 refine Ar (M:=M) (LL:=[g.seg 223 cs]) (n:=33) Tryz.func125 rfl rfl A5 (hl) (Ad (fun K1 hK1=>?_))
 refine Aa (Ab 1 (Ac (hK1 _ _ _ (Ad (fun K2 hK2=>?_)))))
 refine Aa (Ab 5 (Ah (v:=sL (C8 g.a n i 6) ((i+1)-i) (n-i)) (Hn (a:=g.a) (len:=n) (cap:=g.cap) (sz:=6) (k:=.i64) (k':=.i64) (k'':=.i64) (i:=(i:Int)) (j:=((i+1:Nat):Int)) (q:=(n:Int)) rfl Ae Ae Ae Ae Tryz.runUnderlying161 Tryz.sizeOf223 Ag Ag Ag Ag) (Ac (hK2 _ _ _ ?_))))
 refine Ad (fun K4 hK4=>Ad (fun K5 hK5=>?_))
 refine Aa (Ab 3 (Ac (hK5 _ _ _ ?_)))
 refine Ao (((i:Nat):Int)==((i+1:Nat):Int)) Ae (fun h7=>?_) (fun h8=>?_)
 ·have qh7:=h7;try simp only[zA]at qh7
  (exfalso;omega)
 ·have qh8:=h8;try simp only[zA]at qh8
  refine Ak (hK4 _ _ _ (Ad (fun K10 hK10=>Aa (Ab 3 ?_))))
  refine Ac (hK10 _ _ _ (Ad (fun K12 hK12=>?_)))
  have hn14:=C5 ok Ag
  obtain⟨gn13,gb,gc,gr⟩:=g
  obtain rfl:gn13=false:=hn14
  have hc15:n≤gc:=ok.le
  have hlr_:gc*6≤n*6+gr.length:=ok.len
  refine Bz [(0,true),(1,true),(2,true),(3,true),(4,false),(5,false),(6,false),(7,false)] [0,1,2,3] (Mem w M []) Ae Ae Ae rfl Ae (fun _ _ h_=>h_.drawn _) (fun _ h_=>h_.pick [] Al rfl) (Ay 2 (Wd.ys (v:=sL (some ⟨gb,0,none⟩) i gc) rfl rfl rfl (Dg (a:=some ⟨gb,0,none⟩) (len:=n) (cap:=gc) (sz:=6) (k:=.i64) (i:=(i:Int)) rfl Ae Ae Tryz.runUnderlying161 Tryz.sizeOf223 Ag Ag) (Ay 1 (Wd.yc (v:=nV .i64 (i+1)) rfl rfl rfl (Ys.yc (Ys.p)) (.inr fun _ h_=>h_.pick [] Al rfl) ?_))))
  refine Wd.yc (v:=sL (C8 (some ⟨gb,0,none⟩) gc (i+1) 6) (n-(i+1)) (gc-(i+1))) rfl rfl rfl (Ys.yc (Bk (a:=some ⟨gb,0,none⟩) (len:=n) (cap:=gc) (sz:=6) (k:=.i64) (i:=((i+1:Nat):Int)) rfl Ae Ae Tryz.runUnderlying161 Tryz.sizeOf223 Ag Ag)) (.inr fun _ h_=>h_.pick [] Al rfl) ?_
  obtain⟨A16,hA17⟩: ∃A,Bn (cs++gr) (i*6) (cs.drop ((i+1)*6))=A:=⟨_,rfl⟩
  have hl18:A16.length=(cs++gr).length:=by rw[←hA17];exact Ce _ _ _ Ac3
  try simp only[List.length_append,List.length_take]at hl18
  refine B8 rfl rfl (Hp (t:=161) (u:=161) (e:=223) (eu:=223) (ii:=(Tryz.prog.info? 223).getD default) (xv:=sL (C8 (some ⟨gb,0,none⟩) gc (i+1) 6) (n-(i+1)) (gc-(i+1))) (nn:=i) (m:=n-(i+1)) (k:=n-1) (cap:=gc) (sz:=6) (i:=0) (j:=0) (b:=gb) (ty:=223) (cs:=cs++gr) (cs':=A16) (news:=cs.drop ((i+1)*6)) (LL':=[[cb gb A16 223]]) rfl rfl Ae Ae Ae Ae Ae Ae rfl rfl (fun _=>rfl) Ag Ag (Src.at (a:=C8 (some ⟨gb,0,none⟩) gc (i+1) 6) (show(cs.drop ((i+1)*6)).length=(n-(i+1))*6 by rw[List.length_drop,hcs];omega) (fun w_ h_=>(by have z_:=((Az (i:=0) (j:=0) (t:=223) (b:=gb) h_ rfl rfl).dropT (cap:=gc) (k:=i+1) (m:=n-(i+1)) (sz:=6) Ag);rwa[drop_take hcs Ag]at z_))) Ac3 (one_drop h1c _) hA17 rfl) (.inr fun _ _ h_=>h_.pick [] Al rfl) (fun _=>Wd.yc (v:=sL (some ⟨gb,0,none⟩) (n-1) gc) rfl rfl rfl (Ys.yc (Ys.p)) (.inl Ae) (A7 (hK12 _ _ _ (Ad (fun K20 hK20=>?_)))))
  refine Aa (Ab 4 (Ah (v:=sL (C8 (some ⟨gb,0,none⟩) gc (n-1) 6) (n-(n-1)) (gc-(n-1))) (G9 (a:=some ⟨gb,0,none⟩) (len:=n-1) (cap:=gc) (sz:=6) (k:=.i64) (i:=((n-1:Nat):Int)) (k':=.i64) (j:=(n:Int)) rfl Ae Ae Ae Tryz.runUnderlying161 Tryz.sizeOf223 Ag Ag Ag) ?_))
  obtain⟨A21,hA22⟩: ∃A,Bn A16 ((n-1)*6) Ux=A:=⟨_,rfl⟩
  have hl23:A21.length=A16.length:=by rw[←hA22];exact Ce _ _ _ Th
  refine Ai rfl (Je (t:=161) (e:=223) (ii:=(Tryz.prog.info? 223).getD default) (z:=aV Ux) (m:=0) (cap:=gc-(n-1)) (o':=(n-1)*6) (i:=0) (j:=0) (b:=gb) (ty:=223) (cs:=A16) (cs':=A21) (zs:=Ux) (LL':=[[cb gb A21 223]]) rfl rfl Ae Ae Ae (Eq.trans (b:=sL (C8 (some ⟨gb,0,none⟩) gc (n-1) 6) (n-(n-1)) (gc-(n-1))) Ae (by rw[Gh Ag];congr 1;omega)) rfl rfl Ae Th Zb hA22 rfl) (fun _=>Ac (hK20 _ _ _ (Ad (fun K25 hK25=>Aa ?_))))
  refine Ab 2 (Ac (hK25 _ _ _ (Aq (fn:=Tryz.f125) rfl ?_)))
  have hB:=del_in (zs:=Ux) hcs Ag rfl hA17 hA22
  exact fun w_ hS_=>Bb rfl (Aw (Value.slice (some ⟨gb,0,none⟩) (n-1) gc)) hS_ ⟨⟨false,gb,gc,Ux++gr⟩,⟨⟨fun h=>(by cases h),(by show n-1≤gc;omega),ok.mx,(by show gc*6≤_;simp only[List.length_append,List.length_cons,List.length_nil];omega)⟩,rfl⟩,rfl,(Mem.cast (by rw[hB];rfl) (hS_.pick [0] Al rfl))⟩
end ZN
end Go.Proofs.YtmonlaoaengfdaaGreatDoor.Oct
