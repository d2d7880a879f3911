import Derived.Test.YtmonlaoaengfdaaGreatDoorM8
set_option linter.unusedVariables false
set_option linter.unusedSimpArgs false
set_option maxRecDepth 20000
namespace Go.Proofs.YtmonlaoaengfdaaGreatDoor.Oct
open Go.RowKit Base Tryz
attribute [local irreducible] Ys Yc Ht HtS HtIn Wl Wd W Mem pf Ez Wa Wo KW
theorem Adu{d:List Value}{m s e f c b:Value}{tk:Nat→Option Nat}: ∀(q:Nat) (v:Value),d[q]? =some v→(En d m s e tk f c b)[0+q]? =some v:=fun q v h=>by
  have g:=(List.getElem?_eq_some_iff.1 h).1
  unfold En
  rw[Nat.zero_add,List.getElem?_append_left (by simp;omega),List.getElem?_append_left g];exact h
theorem N2{k:NK}{s:NS}: ∀(q:Nat) (v:Value),(O4 k.c (.slice k.gf.a k.fx.length k.gf.cap))[q]? =some v→(C3 k s)[0+q]? =some v:=Adu
def Cc(f:Ci):Ix:=(f.1,f.2.1,f.2.2.2.1)
def Ls(f:Ci)(ext b:Int)(gv:Bool):SesE:=⟨f.1,f.2.1,f.2.2.1,f.2.2.2.1,f.2.2.2.2,ext,0,false,false,false,false,false,false,b,gv⟩
def Ov(k:NK)(p:NP)(f:Ci)(ext:Int)(gv:Bool)(xb pb:Nat):NP:=
  {p with lst:=D2 .u64 p.lst 1,xs:=Dv ordF k.mo p.xs f (some xb),ys:=Dv LO.int k.mo p.ys p.lst f,zs:=bif gv then Dv Cu k.mo p.zs (Cc f) (⟨ext,(B1 (⟨0,0⟩:Lse) p.zs (Cc f)).count+1⟩:Lse)else p.zs,tk:=bif gv then M7 p.tk f.1.toNat (some pb)else p.tk,TT:=bif gv then F8 p.TT f.1.toNat (Pw (p.TT f.1.toNat) ext.toNat)else p.TT}
def stL(s:NS)(l:Int):NS:={s with p:={s.p with lst:=l}}
theorem Adv{k:NK}{s:NS}(ok:NOk k s)(l:Int):NOk k (stL s l):=⟨ok.okm,ok.okf,ok.oks,ok.oki,ok.oke,ok.okw,ok.hmn,ok.hfn,ok.hmo,ok.hxn,ok.hyn,ok.hzn,ok.hwn,ok.hxs,ok.hys,ok.hzs,ok.hws,ok.hz⟩
theorem NOk.len{k:NK}{s:NS}(ok:NOk k s):s.p.xs.length≤50000∧s.p.ys.length≤50000∧s.p.zs.length≤50000∧s.p.ms.length≤100000∧k.fx.length≤100000:=by
  have b:=ok.hxn;have c:=ok.hyn;have d:=ok.hzn;have e:=ok.hmo;have f:=ok.hmn;have g:=ok.hfn
  omega
abbrev Qg(ext:Int)(f:Ci)(b:Nat)(s:NS):List Blk:=[cb b [iV .u8 f.1,iV .u32 f.2.1,iV .u32 f.2.2.1,iV .u16 f.2.2.2.1,iV .u16 f.2.2.2.2,iV .u16 ext,iV .u64 0,bV false,bV false,bV false,bV false,bV false,bV false,iV .u64 s.p.lst,bV false] 113]
abbrev Qh(f:Ci)(b:Nat):List Blk:=[cb b (Kw f) 47]
abbrev Qi(f:Ci):List Value:=(Kw f)
theorem Adw(k:NK)(s:NS)(M:List Nat)(f:Ci)(ext:Int)(w:World)(ok:NOk k s)(hl:Mem w M [NG k s] w):Calls prog 101 #[pL (some ⟨k.nb,0,none⟩),aV (Kw f),iV .u16 ext,bV false] w (Bn w (fun r:NS×Nat=>NOk k r.1∧r.1.p=Ov k s.p f ext false r.2 0) (fun r=>.pointer (some ⟨r.2,0,none⟩)) M (fun r=>[NG k r.1,[Jv (r.2,Ls f ext s.p.lst false)]])):=by
 obtain⟨ab,ad,ae,af,ag⟩:=NOk.len ok
 refine Ap (M:=M) (LL:=[NG k s]) (n:=76) func101 rfl rfl A7 (hl)<|W.s ?_
 refine Ac<|Af rfl (Bx (Qi f) rfl) fun t=>?_
 refine Ab 1<|Ai<|W.s<|C5 [(0,true),(1,true),(2,true),(3,true),(4,true),(5,true),(6,true),(7,false),(8,false),(9,false),(10,false)] [0,1,2,3,4,5,6] ?_
 refine Dh 6 [(0,0)]<|Bm rfl (Bf (b:=k.nb) (o':=289) (i:=1) (j:=0) (cs:=C3 k s) (v:=iV .u64 s.p.lst) rfl Aa isAgg45 rfl rfl<|(Fk rfl 2).trans rfl)<|Bs 2 []<|Cj rfl rfl (Bx [iV .u8 f.1,iV .u32 f.2.1,iV .u32 f.2.2.1,iV .u16 f.2.2.2.1,iV .u16 f.2.2.2.2,iV .u16 ext,iV .u64 0,bV false,bV false,bV false,bV false,bV false,bV false,iV .u64 s.p.lst,bV false] rfl) (Az [1,2]) fun c=>Dh 1 [] ?_
 refine Cl<|Av<|Ab 3 ?_
 refine Ao (Bf (b:=k.nb) (o':=289) (i:=2) (j:=0) (cs:=C3 k s) (v:=iV .u64 s.p.lst) rfl Aa isAgg45 rfl rfl<|(Fk rfl 2).trans rfl) ?_
 obtain⟨D,e⟩: ∃z,z=stL s (D2 .u64 s.p.lst 1):=⟨_,rfl⟩
 have u:NOk k D:=e▸Adv ok _
 have E:D.p={s.p with lst:=D2 .u64 s.p.lst 1}:=by rw[e];rfl
 obtain⟨U,V,X,Y,Z⟩:=NOk.len u
 refine Ab 3<|Af rfl (Es (b:=k.nb) (o':=289) (i:=2) (j:=0) (cs:=C3 k s) (cs':=C3 k D) (v:=iV .u64<|D2 .u64 s.p.lst 1) (LL':=[Qg ext f c s,Qh f t,NG k D]) rfl rfl Aa Aa sizeOf45 rfl rfl rfl (by rw[show(C3 k s).length=290 from Hk rfl];decide) (by rw[e];exact(Ll rfl 2).trans rfl)<|by rw[e];rfl) fun _=>?_
 refine Ai<|W.s<|B3 [(0,true),(1,true),(2,true),(3,true),(4,true),(5,false),(6,false)] [0,1,2,3,4] (fun q=> ∃g:NS,Mem w M [Qg ext f c s,Qh f t,NG k g] q) Aa Aa Aa rfl Aa (fun _ _ d=>d.drawn _) (fun _ d=>⟨_,d⟩)<|B5 3 ?_
 refine Bm rfl (Dx fun g=>Bf (b:=k.nb) (o':=29) (i:=2) (j:=0) (cs:=C3 k g) (v:=pL<|some ⟨k.ts,0,none⟩) rfl Aa isAgg85 rfl rfl<|(Cf rfl An).trans rfl)<|Bm (v:=aV<|Qi f) rfl (Dx fun g=>F0 t 0 1 0 (Qi f) isAgg47 sizeOf47)<|Wd.yc (v:=pV c 0) rfl rfl rfl (Ys.yc Ys.p) (.inr fun _ d=>⟨_,d⟩)<|Ca rfl rfl (Au [2] [0,1] fun q F o=>(Adp f (some c) u o)) (.inr fun _ _ d=>⟨_,d.pick [1,2,0] An rfl⟩) fun ah x=>?_
 obtain⟨h,A⟩:=x
 obtain⟨G,H,I,J,L⟩:=NOk.len h
 refine Cl<|W.s<|B3 [(0,true),(1,true),(2,true),(3,true),(4,true),(5,true),(6,true),(7,true),(8,false),(9,false)] [0,1,2,3,4,5,6,7] (fun q=> ∃g:NS,Mem w M [NG k g,Qg ext f c s,Qh f t] q) Aa Aa Aa rfl Aa (fun _ _ d=>d.drawn _) (fun _ d=>⟨_,d⟩)<|B5 3 ?_
 refine Bm rfl (Dx fun g=>Bf (b:=k.nb) (o':=288) (i:=0) (j:=0) (cs:=C3 k g) (v:=pL<|some ⟨k.ti,0,none⟩) rfl Aa isAgg89 rfl rfl<|(Fk rfl 1).trans rfl)<|B5 3<|Bm rfl (Dx fun g=>Bf (b:=c) (o':=13) (i:=1) (j:=0) (v:=iV .u64 s.p.lst) rfl Aa isAgg45 rfl rfl rfl)<|Wd.yc (v:=aV<|Qi f) rfl rfl rfl (Ys.yc<|F0 t 0 2 0 (Qi f) isAgg47 sizeOf47) (.inr fun _ d=>⟨_,d⟩)<|Ca rfl rfl (Au [0] [1,2] fun q F o=>(Adq s.p.lst f h o)) (.inr fun _ _ d=>⟨_,d⟩) fun N B=>?_
 obtain⟨l,C⟩:=B
 obtain⟨O,P,Q,R,S⟩:=NOk.len l
 refine Cl<|W.s<|Aj []<|B4 Aa ?_
 refine Ag<|A9<|Al [0,1] An rfl<|Aj []<|Am rfl<|D9 rfl (Ar<|pV c 0) fun q T=>⟨(N,c),⟨l,by rw[C,A,E]<;>rfl⟩,rfl,(T.pick [0,1] An rfl)⟩
abbrev Qj(ds c d e:Int)(f b pr:Nat)(s:NS):List Blk:=[cb b [nV .u8 pr,iV .u32 e,iV .u32 ds,iV .u16 d,iV .u16 c,nV .u16 f,iV .u64 0,bV false,bV false,bV false,bV false,bV false,bV false,iV .u64 s.p.lst,bV true] 113]
abbrev Qk(ds b c d:Int)(e pr:Nat):List Blk:=[cb e [nV .u8 pr,iV .u32 d,iV .u32 ds,iV .u16 c,iV .u16 b] 47]
abbrev Ql(b c:Int)(pr:Nat)(s:NS):List Value:=[iV .u16 ((B1 (⟨0,0⟩:Lse) s.p.zs (((pr:Nat):Int),c,b)).ext),iV .i64 ((B1 (⟨0,0⟩:Lse) s.p.zs (((pr:Nat):Int),c,b)).count)]
abbrev Qm(ds b c d:Int)(pr:Nat):List Value:=[nV .u8 pr,iV .u32 d,iV .u32 ds,iV .u16 c,iV .u16 b]
theorem Xs(k:NK)(s:NS)(M:List Nat)(pr:Nat)(c ds d h:Int)(t:Nat)(w:World)(ok:NOk k s)(hl:Mem w M [NG k s] w)(bl:pr<256)(bm:t<65536)(bn:0≤(B1 (⟨0,0⟩:Lse) s.p.zs (((pr:Nat):Int),c,d)).count∧(B1 (⟨0,0⟩:Lse) s.p.zs (((pr:Nat):Int),c,d)).count≤1000000):Calls prog 101 #[pL (some ⟨k.nb,0,none⟩),aV [nV .u8 pr,iV .u32 c,iV .u32 ds,iV .u16 d,iV .u16 h],nV .u16 t,bV true] w (Bn w (fun r:NS×Nat×Nat=>NOk k r.1∧r.1.p=Ov k s.p (((pr:Nat):Int),c,ds,d,h) (t:Int) true r.2.1 r.2.2∧(s.p.tk pr=none∨s.p.tk pr=some r.2.2)) (fun r=>.pointer (some ⟨r.2.1,0,none⟩)) M (fun r=>[NG k r.1,[Jv (r.2.1,Ls (((pr:Nat):Int),c,ds,d,h) (t:Int) s.p.lst true)]])):=by
 obtain⟨bo,bp,bq,br,bs⟩:=NOk.len ok
 refine Ap (M:=M) (LL:=[NG k s]) (n:=76) func101 rfl rfl A7 (hl)<|W.s ?_
 refine Ac<|Af rfl (Bx (Qm ds h d c pr) rfl) fun B=>?_
 refine Ab 1<|Ai<|W.s<|C5 [(0,true),(1,true),(2,true),(3,true),(4,true),(5,true),(6,true),(7,false),(8,false),(9,false),(10,false)] [0,1,2,3,4,5,6] ?_
 refine Dh 6 [(0,0)]<|Bm rfl (Bf (b:=k.nb) (o':=289) (i:=1) (j:=0) (cs:=C3 k s) (v:=iV .u64 s.p.lst) rfl Aa isAgg45 rfl rfl<|(Fk rfl 2).trans rfl)<|Bs 2 []<|Cj rfl rfl (Bx [nV .u8 pr,iV .u32 c,iV .u32 ds,iV .u16 d,iV .u16 h,nV .u16 t,iV .u64 0,bV false,bV false,bV false,bV false,bV false,bV false,iV .u64 s.p.lst,bV true] rfl) (Az [1,2]) fun g=>Dh 1 [] ?_
 refine Cl<|Av<|Ab 3 ?_
 refine Ao (Bf (b:=k.nb) (o':=289) (i:=2) (j:=0) (cs:=C3 k s) (v:=iV .u64 s.p.lst) rfl Aa isAgg45 rfl rfl<|(Fk rfl 2).trans rfl) ?_
 obtain⟨s6,E⟩: ∃z,z=stL s (D2 .u64 s.p.lst 1):=⟨_,rfl⟩
 have X:NOk k s6:=E▸Adv ok _
 have I:s6.p={s.p with lst:=D2 .u64 s.p.lst 1}:=by rw[E];rfl
 obtain⟨bc,bd,bf,bg,bh⟩:=NOk.len X
 refine Ab 3<|Af rfl (Es (b:=k.nb) (o':=289) (i:=2) (j:=0) (cs:=C3 k s) (cs':=C3 k s6) (v:=iV .u64<|D2 .u64 s.p.lst 1) (LL':=[Qj ds h d c t g pr s,Qk ds h d c B pr,NG k s6]) rfl rfl Aa Aa sizeOf45 rfl rfl rfl (by rw[show(C3 k s).length=290 from Hk rfl];decide) (by rw[E];exact(Ll rfl 2).trans rfl)<|by rw[E];rfl) fun _=>?_
 refine Ai<|W.s<|B3 [(0,true),(1,true),(2,true),(3,true),(4,true),(5,false),(6,false)] [0,1,2,3,4] (fun C=> ∃D:NS,Mem w M [Qj ds h d c t g pr s,Qk ds h d c B pr,NG k D] C) Aa Aa Aa rfl Aa (fun _ _ e=>e.drawn _) (fun _ e=>⟨_,e⟩)<|B5 3 ?_
 refine Bm rfl (Dx fun D=>Bf (b:=k.nb) (o':=29) (i:=2) (j:=0) (cs:=C3 k D) (v:=pL<|some ⟨k.ts,0,none⟩) rfl Aa isAgg85 rfl rfl<|(Cf rfl An).trans rfl)<|Bm (v:=aV<|Qm ds h d c pr) rfl (Dx fun D=>F0 B 0 1 0 (Qm ds h d c pr) isAgg47 sizeOf47)<|Wd.yc (v:=pV g 0) rfl rfl rfl (Ys.yc Ys.p) (.inr fun _ e=>⟨_,e⟩)<|Ca rfl rfl (Au [2] [0,1] fun C o A=>(Adp (((pr:Nat):Int),c,ds,d,h) (some g) X A)) (.inr fun _ _ e=>⟨_,e.pick [1,2,0] An rfl⟩) fun bt Y=>?_
 obtain⟨N,u⟩:=Y
 obtain⟨ah,ai,aj,ak,al⟩:=NOk.len N
 refine Cl<|W.s<|B3 [(0,true),(1,true),(2,true),(3,true),(4,true),(5,true),(6,true),(7,true),(8,false),(9,false)] [0,1,2,3,4,5,6,7] (fun C=> ∃D:NS,Mem w M [NG k D,Qj ds h d c t g pr s,Qk ds h d c B pr] C) Aa Aa Aa rfl Aa (fun _ _ e=>e.drawn _) (fun _ e=>⟨_,e⟩)<|B5 3 ?_
 refine Bm rfl (Dx fun D=>Bf (b:=k.nb) (o':=288) (i:=0) (j:=0) (cs:=C3 k D) (v:=pL<|some ⟨k.ti,0,none⟩) rfl Aa isAgg89 rfl rfl<|(Fk rfl 1).trans rfl)<|B5 3<|Bm rfl (Dx fun D=>Bf (b:=g) (o':=13) (i:=1) (j:=0) (v:=iV .u64 s.p.lst) rfl Aa isAgg45 rfl rfl rfl)<|Wd.yc (v:=aV<|Qm ds h d c pr) rfl rfl rfl (Ys.yc<|F0 B 0 2 0 (Qm ds h d c pr) isAgg47 sizeOf47) (.inr fun _ e=>⟨_,e⟩)<|Ca rfl rfl (Au [0] [1,2] fun C o A=>(Adq s.p.lst (((pr:Nat):Int),c,ds,d,h) N A)) (.inr fun _ _ e=>⟨_,e⟩) fun q Z=>?_
 obtain⟨F,x⟩:=Z
 obtain⟨am,an,ao,ap,aq⟩:=NOk.len F
 refine Cl<|W.s<|Aj []<|Cd Aa ?_
 refine W.s<|E5 [0,1,2,3,4,7,8,9,12] (Mem w M [NG k q,Qj ds h d c t g pr s,Qk ds h d c B pr]) Aa Aa (fun _ _ e=>e.drawn _) ?_
 refine Ef (w0:=w) (M:=M) [0,2,5,9,10,55,56] (fun(J:Nat)=>[pL (some ⟨k.nb,0,none⟩),nV .u16 t,pV B 0,pV g 0,pV J 0,aV<|Ql d c pr s,bV (Bq s.p.zs (((pr:Nat):Int),c,d))]) (fun(J:Nat)=>True) (fun(J:Nat)=>[[cb J zl9 99],NG k q,Qj ds h d c t g pr s,Qk ds h d c B pr]) 2 #[true,true,true,true,true,true,true,true,true,true,true,false,false] (fun J bi bu=>?_) fun JD31=>?_
 ·obtain⟨l,rfl⟩: ∃a_,a_=J:=⟨_,rfl⟩
  refine A6 (i:=11) Aa<|Cp rfl rfl (A0 l 0 0 0 (Ql d c pr s) sizeOf99 rfl rfl) (Az [1,2,3]) fun _=>?_
  refine Wa.ys (v:=bV<|Bq s.p.zs (((pr:Nat):Int),c,d)) (i:=12) Aa Aa Aa Aa (fun _ e=>e.pick [1,2,3] An rfl) rfl rfl rfl (Ys.p)<|Ej Aa<|A9<|W.s<|B3 [(0,true),(1,true),(2,true),(3,true),(4,true),(6,true),(7,true),(8,true),(9,true),(10,true),(5,false),(11,false)] [0,1,2,3,4,6,7,8,9,10] (fun C=> ∃D:NS,Mem w M [[cb l (Ql d c pr s) 99],NG k D,Qj ds h d c t g pr s,Qk ds h d c B pr] C) Aa Aa Aa rfl Aa (fun _ _ e=>e.drawn _) (fun _ e=>⟨_,e⟩) ?_
  refine B5 3<|Bm rfl (Dx fun D=>Bf (b:=k.nb) (o':=30) (i:=1) (j:=0) (cs:=C3 k D) (v:=pL<|some ⟨k.te,0,none⟩) rfl Aa isAgg86 rfl rfl<|(Cf rfl An).trans rfl)<|Bm (v:=aV<|Qm ds h d c pr) rfl (Dx fun D=>F0 B 0 3 0 (Qm ds h d c pr) isAgg47 sizeOf47)<|B5 2<|Bm rfl (Dx fun D=>Bf (b:=l) (o':=1) (i:=0) (j:=0) (v:=iV .i64<|(B1 (⟨0,0⟩:Lse) s.p.zs (((pr:Nat):Int),c,d)).count) rfl Aa isAgg3 rfl rfl rfl) ?_
  refine Bm (v:=iV .i64<|((B1 (⟨0,0⟩:Lse) s.p.zs (((pr:Nat):Int),c,d)).count)+1) rfl (Dx fun D=>(Ys.p (v:=.int .i64<|D2 .i64 ((B1 (⟨0,0⟩:Lse) s.p.zs (((pr:Nat):Int),c,d)).count) 1)).conseq<|Ad<|Fi Ae Ae Ae)<|B5 1<|Wd.yc (v:=aV [nV .u8 pr,iV .u32 c,iV .u16 d]) rfl rfl rfl (A8 fun C o=>(Mz (pr:Int) c ds d h _)) (.inr fun _ e=>⟨_,e⟩)<|Ca rfl rfl (Au [1] [0,2,3] fun C o A=>(Adr (((pr:Nat):Int),c,d) (⟨(t:Int),((B1 (⟨0,0⟩:Lse) s.p.zs (((pr:Nat):Int),c,d)).count)+1⟩:Lse) F A)) (.inr fun _ _ e=>⟨_,e.pick [1,0,2,3] An rfl⟩) fun bw aa=>?_
  obtain⟨O,P⟩:=aa
  obtain⟨au,av,aw,ax,ay⟩:=NOk.len O
  refine Cl<|Al [0,2,3] An rfl<|Ac<|A5 3 [(2,0)] ?_
  refine Aw rfl (Au (args:= #[pL (some ⟨k.nb,0,none⟩),nV .u8 pr]) [0] [1,2] fun C o A=>(Ads Ae O A)) fun az Q=>?_
  obtain⟨ab,G⟩:=az
  dsimp only at Q
  obtain⟨R,S,V⟩:=Q
  refine B0 (LL':=[NG k ab,Qj ds h d c t g pr s,Qk ds h d c B pr]) rfl ?_
  obtain⟨a0,a1,a2,a3,a5⟩:=NOk.len R
  have H:ab.p.tk pr=some G:=by rw[S];exact E7 _ _ _
  refine Ab 1<|Aw rfl (Au (args:= #[pV G 0,nV .u16 t]) [0] [1,2] fun C o A=>(Alt Ae Ae H R A)) fun ad ae=>?_
  obtain⟨T,U⟩:=ae
  obtain⟨a6,a7,a8,a9,ba⟩:=NOk.len T
  have ag:ad.p.tk pr=some G:=by rw[U];exact H
  refine Ai<|Al [0,1] An rfl<|Aj []<|Am rfl<|D9 rfl (Ar<|pV g 0) fun C bb=>⟨(ad,g,G),⟨T,(by rw[U,S,P,x,u,I]<;>rfl),by simpa only[P,x,u,I]using V⟩,rfl,(bb.pick [0,1] An rfl)⟩
 ·refine Ef (w0:=w) (M:=M) [0,2,5,9,10,51,53] (fun(L:Nat)=>[pL (some ⟨k.nb,0,none⟩),nV .u16 t,pV B 0,pV g 0,pV L 0,pL<|some ⟨k.te,0,none⟩,aV [nV .u8 pr,iV .u32 c,iV .u16 d]]) (fun(L:Nat)=>True) (fun(L:Nat)=>[[cb L zl9 99],NG k q,Qj ds h d c t g pr s,Qk ds h d c B pr]) 6 #[true,true,true,true,true,true,false,false,false,false,true,false,false] (fun L bj bx=>?_) fun JD30=>?_
  ·obtain⟨l,rfl⟩: ∃a_,a_=L:=⟨_,rfl⟩
   refine A6 (i:=6) Aa ?_
   have f:q.p.zs=s.p.zs:=by rw[x,u,I]
   have f:q.p.zs=s.p.zs:=by rw[x,u,I]
   refine Wo.yc (v:=Value.tuple #[aV (Ql d c pr s),bV (Bq s.p.zs (((pr:Nat):Int),c,d))]) rfl rfl rfl (A8 fun C o=>(Oi s.p.zs q.ge.a q.ge.cap k.mo k.te (((pr:Nat):Int),c,d) _ (by rw[←f];exact(Lr (i:=1) o rfl)) (by rw[←f];exact(NG.zs (i:=1) o rfl F)) D1 ok.hzs)) (Ee [1,2,3])<|Wa.ys (v:=Value.tuple #[aV (Ql d c pr s),bV (Bq s.p.zs (((pr:Nat):Int),c,d))]) (i:=7) Aa Aa Aa Aa (fun _ e=>e.pick [1,2,3] An rfl) rfl rfl rfl (Ys.p)<|Wa.ys (v:=aV<|Ql d c pr s) (i:=8) Aa Aa Aa Aa (fun _ e=>e.pick [1,2,3] An rfl) rfl rfl rfl (Ys.p)<|Wa.ys (v:=bV<|Bq s.p.zs (((pr:Nat):Int),c,d)) (i:=9) Aa Aa Aa Aa (fun _ e=>e.pick [1,2,3] An rfl) rfl rfl rfl (Ys.p) ?_
   exact Ck [0,2,5,9,10,55,56] [pL (some ⟨k.nb,0,none⟩),nV .u16 t,pV B 0,pV g 0,pV l 0,aV [iV .u16 ((B1 (⟨0,0⟩:Lse) s.p.zs (((pr:Nat):Int),c,d)).ext),iV .i64 ((B1 (⟨0,0⟩:Lse) s.p.zs (((pr:Nat):Int),c,d)).count)],bV (Bq s.p.zs (((pr:Nat):Int),c,d))] #[true,true,true,true,true,true,true,true,true,true,true,false,false] (JD31 l trivial) Aa Aa fun _ e=>e
  ·refine Wa.ys (v:=pL<|some ⟨k.nb,0,none⟩) (i:=0) Aa Aa Aa Aa (fun _ e=>e) rfl rfl rfl (Ys.p)<|Wa.ys (v:=pL<|some ⟨k.nb,0,none⟩) (i:=1) Aa Aa Aa Aa (fun _ e=>e) rfl rfl rfl (Ys.p)<|Wa.ys (v:=pL<|some ⟨k.nb,30,none⟩) (i:=2) Aa Aa Aa Aa (fun _ e=>e) rfl rfl rfl (Ys.p)<|Wa.ys (i:=3) Aa Aa Aa Aa (fun _ e=>e) rfl rfl rfl (Bf (b:=k.nb) (o':=30) (i:=0) (j:=0) (cs:=C3 k q) (v:=pL<|some ⟨k.te,0,none⟩) rfl Aa isAgg86 rfl rfl<|(Cf rfl An).trans rfl)<|Wa.ys (v:=aV<|Qm ds h d c pr) (i:=4) Aa Aa Aa Aa (fun _ e=>e) rfl rfl rfl (F0 B 0 2 0 (Qm ds h d c pr) isAgg47 sizeOf47) ?_
   refine C9 (i:=5) (j:=10) Aa ?_ ?_
   ·refine Wo.yc (v:=aV [nV .u8 pr,iV .u32 c,iV .u16 d]) rfl rfl rfl (A8 fun C o=>(Mz (pr:Int) c ds d h _)) (.inr fun _ e=>e) ?_
    refine C9 (i:=6) (j:=10) Aa ?_ ?_
    ·have f:q.p.zs=s.p.zs:=by rw[x,u,I]
     have f:q.p.zs=s.p.zs:=by rw[x,u,I]
     refine Wo.yc (v:=Value.tuple #[aV (Ql d c pr s),bV (Bq s.p.zs (((pr:Nat):Int),c,d))]) rfl rfl rfl (A8 fun C o=>(Oi s.p.zs q.ge.a q.ge.cap k.mo k.te (((pr:Nat):Int),c,d) _ (by rw[←f];exact(Lr (i:=0) o rfl)) (by rw[←f];exact(NG.zs (i:=0) o rfl F)) D1 ok.hzs)) (.inr fun _ e=>e)<|Wa.ys (v:=Value.tuple #[aV (Ql d c pr s),bV (Bq s.p.zs (((pr:Nat):Int),c,d))]) (i:=7) Aa Aa Aa Aa (fun _ e=>e) rfl rfl rfl (Ys.p)<|Wa.ys (v:=aV<|Ql d c pr s) (i:=8) Aa Aa Aa Aa (fun _ e=>e) rfl rfl rfl (Ys.p)<|Wa.ys (v:=bV<|Bq s.p.zs (((pr:Nat):Int),c,d)) (i:=9) Aa Aa Aa Aa (fun _ e=>e) rfl rfl rfl (Ys.p)<|A6 (i:=10) Aa ?_
     refine Cp rfl rfl (Ba zeroValue99) (Az [1,2,3]) fun l=>?_
     exact Ck [0,2,5,9,10,55,56] [pL (some ⟨k.nb,0,none⟩),nV .u16 t,pV B 0,pV g 0,pV l 0,aV [iV .u16 ((B1 (⟨0,0⟩:Lse) s.p.zs (((pr:Nat):Int),c,d)).ext),iV .i64 ((B1 (⟨0,0⟩:Lse) s.p.zs (((pr:Nat):Int),c,d)).count)],bV (Bq s.p.zs (((pr:Nat):Int),c,d))] #[true,true,true,true,true,true,true,true,true,true,true,false,false] (JD31 l trivial) Aa Aa fun _ e=>e
    ·refine Cp rfl rfl (Ba zeroValue99) (Az [1,2,3]) fun l=>?_
     exact Ck [0,2,5,9,10,51,53] [pL (some ⟨k.nb,0,none⟩),nV .u16 t,pV B 0,pV g 0,pV l 0,pL<|some ⟨k.te,0,none⟩,aV [nV .u8 pr,iV .u32 c,iV .u16 d]] #[true,true,true,true,true,true,false,false,false,false,true,false,false] (JD30 l trivial) Aa Aa fun _ e=>e
   ·refine Cp rfl rfl (Ba zeroValue99) (Az [1,2,3]) fun l=>A6 (i:=5) Aa<|Wo.yc (v:=aV [nV .u8 pr,iV .u32 c,iV .u16 d]) rfl rfl rfl (A8 fun C o=>(Mz (pr:Int) c ds d h _)) (Ee [1,2,3]) ?_
    exact Ck [0,2,5,9,10,51,53] [pL (some ⟨k.nb,0,none⟩),nV .u16 t,pV B 0,pV g 0,pV l 0,pL<|some ⟨k.te,0,none⟩,aV [nV .u8 pr,iV .u32 c,iV .u16 d]] #[true,true,true,true,true,true,false,false,false,false,true,false,false] (JD30 l trivial) Aa Aa fun _ e=>e
open Conf (Fwd fwv)
abbrev O6(ttl b pid c d:Int)(e:Option Addr)(f g:Nat):Value:=.agg [.int .u8 ttl,.int .u8 b,.int .u16 pid,.int .u32 c,.int .u32 d,.slice e f g].toArray
theorem Ah8(tk:Nat→Option Nat)(p:Nat)(a b:Option Nat):M7 (M7 tk p a) p b=M7 tk p b:=by
  funext q
  by_cases h:q=p
  · subst h;rw[E7,E7]
  · rw[Ge _ _ h,Ge _ _ h,Ge _ _ h]
theorem Aaq{α:Type}(f:Nat→α)(p:Nat)(a b:α):F8 (F8 f p a) p b=F8 f p b:=by
  funext q
  by_cases h:q=p
  · subst h;rw[G2,G2]
  · rw[El _ _ h,El _ _ h,El _ _ h]
theorem Ao2{T:Nat→Bool}{d:Nat}(h:pk T d<65536):Pw (Zb T d) (N8 T d)=Pw T (N8 T d):=by
  have b:=R0 T d
  have c:N8 T d=pk T d:=by unfold N8;rw[if_pos h]
  have e:Zb T d=up T (pk T d) true:=by unfold Zb;rw[decide_eq_true h];rfl
  have f:Pw T (pk T d)=up T (pk T d) true:=(Acy b.2.1 (b.2.2.1 h) 0).2.1
  rw[c,e,f]
  unfold Pw Ww
  rw[L7];simp
def OpenX(k:NK)(p:NP)(f:Ci)(b:Nat)(ext:Int)(gv:Bool):Prop:=
  (Gm p.ms k.fx f=some ext∧gv=false)∨
  (Gm p.ms k.fx f=none∧gv=true∧Bq p.zs (Cc f)=true∧ext=(B1 (⟨0,0⟩:Lse) p.zs (Cc f)).ext)∨
  (Gm p.ms k.fx f=none∧gv=true∧Bq p.zs (Cc f)=false∧pk (p.TT f.1.toNat) b<65536∧ext=(N8 (p.TT f.1.toNat) b:Int))
def Aar:Option (Nat×SesE)→List Blk
  |none=>[]
  |some x=>[Jv x]
def Ao3(k:NK)(p:NP)(f:Ci)(c:Bool)(d:Nat)(r:NP×Option (Nat×SesE)×Int):Prop:=
  r.2.1=none∧(r.2.2=20∨r.2.2=21)∧(∃b,r.1={p with tk:=b})∧(c=false∨k.mo≤(p.xs.length:Int)∨(Gm p.ms k.fx f=none∧Bq p.zs (Cc f)=false∧ ¬pk (p.TT f.1.toNat) d<65536))
def Ao4(k:NK)(p:NP)(f:Ci)(c:Bool)(d:Nat)(r:NP×Option (Nat×SesE)×Int):Prop:=
  r.2.2=0∧c=true∧(p.xs.length:Int)<k.mo∧ ∃ext gv b e,OpenX k p f d ext gv∧r.2.1=some (b,Ls f ext p.lst gv)∧r.1=Ov k p f ext gv b e
def Aqy(x:Option (Nat×SesE)):Value:=.pointer (Cz (x.map Prod.fst))
theorem M2{α:Type}{o:Option α}(h:o.isSome=false):o=none:=by cases o with|none=>rfl|some x=>cases h
theorem Wp{o:Option Int}(h:o.isSome=true):o=some (o.getD 0):=by cases o with|none=>cases h|some x=>rfl
theorem Aas{k:NK}{p p2:NP}{f:Ci}{c b xb pb:Nat}(d:p2={p with tk:=M7 p.tk f.1.toNat (some b),TT:=F8 p.TT f.1.toNat (Zb (p.TT f.1.toNat) c)})(h:pk (p.TT f.1.toNat) c<65536):
    Ov k p2 f (N8 (p.TT f.1.toNat) c:Int) true xb pb=Ov k p f (N8 (p.TT f.1.toNat) c:Int) true xb pb:=by
  subst d
  unfold Ov
  simp only[cond_true,Ah8,Aaq,G2,Int.toNat_natCast,Ao2 h]
theorem Ah9{p:NP}{n d:Nat}(h: ¬pk (p.TT n) d<65536):F8 p.TT n (Zb (p.TT n) d)=p.TT:=by
  unfold Zb;rw[decide_eq_false h];exact Aao _ _
abbrev Qn(ds b c d:Int)(e pr:Nat):List Blk:=[cb e [nV .u8 pr,iV .u32 d,iV .u32 ds,iV .u16 c,iV .u16 b] 47]
abbrev Qo(b c:Int)(pr:Nat)(s:NS):List Value:=[iV .u16 ((B1 (⟨0,0⟩:Lse) s.p.zs (((pr:Nat):Int),c,b)).ext),iV .i64 ((B1 (⟨0,0⟩:Lse) s.p.zs (((pr:Nat):Int),c,b)).count)]
theorem Alw(k:NK)(s:NS)(M:List Nat)(pr:Nat)(d ds e l:Int)(ttl ag pid ah ai:Int)(ba:Option Addr)(bl bc:Nat)(bg:Bool)(x:Nat)(w:World)(ok:NOk k s)(hl:Mem w M [NG k s] w)(c0:pr<256)(c1:x<18446744073709551616)(am:0≤(B1 (⟨0,0⟩:Lse) s.p.zs (((pr:Nat):Int),d,e)).count∧(B1 (⟨0,0⟩:Lse) s.p.zs (((pr:Nat):Int),d,e)).count≤1000000)(an:0≤(B1 (⟨0,0⟩:Lse) s.p.zs (((pr:Nat):Int),d,e)).ext∧(B1 (⟨0,0⟩:Lse) s.p.zs (((pr:Nat):Int),d,e)).ext≤65535)(bi: ∀LL w1,Mem w M LL w1→Calls prog 99 #[O6 ttl ag pid ah ai ba bl bc] w1 (Df w1 (.bool bg)))(ao:At w (some ⟨0,0,none⟩) (Cx dbt))(bk:0<(Cx dbt).length→(Option.getD (some (⟨0,0,none⟩:Addr)) default).block∉M):Calls prog 58 #[pL (some ⟨k.nb,0,none⟩),aV [nV .u8 pr,iV .u32 d,iV .u32 ds,iV .u16 e,iV .u16 l],aV [iV .u8 ttl,iV .u8 ag,iV .u16 pid,iV .u32 ah,iV .u32 ai,sL ba bl bc],nV .u64 x] w (Bn w (fun r:NS×Option (Nat×SesE)×Int=>NOk k r.1∧(Ao3 k s.p (((pr:Nat):Int),d,ds,e,l) bg x (r.1.p,r.2)∨Ao4 k s.p (((pr:Nat):Int),d,ds,e,l) bg x (r.1.p,r.2))) (fun r=>.tuple #[Aqy r.2.1,.int .i64 r.2.2]) M (fun r=>[NG k r.1,Aar r.2.1])):=by
 obtain⟨c3,c4,c5,c6,c7⟩:=NOk.len ok;obtain⟨ep,aq⟩: ∃n:Nat,(B1 (⟨0,0⟩:Lse) s.p.zs (((pr:Nat):Int),d,e)).ext=(n:Int):=⟨_,(Int.toNat_of_nonneg an.1).symm⟩;have cv:=Xh (s.p.TT pr) x
 refine Ap (M:=M) (LL:=[NG k s]) (n:=74) func58 rfl rfl A7 (hl)<|W.s ?_
 refine Ac<|Af rfl (Bx [nV .u8 pr,iV .u32 d,iV .u32 ds,iV .u16 e,iV .u16 l] rfl) fun G=>?_
 refine Af rfl (Bx [iV .u8 ttl,iV .u8 ag,iV .u16 pid,iV .u32 ah,iV .u32 ai,sL ba bl bc] rfl) fun p6=>Ab 2<|Ai<|W.s ?_
 refine W.block<|W.s ?_
 refine Ac<|A5 1 [(0,0)]<|Cb (v:=bV bg) (A8 fun E g=>(bi _ _ g))<|Ab 2<|Ay ?_
 refine A9<|Al [1,2] An rfl ?_
 refine Ak (!bg) Aa (fun h6=>?_) fun h7=>?_
 ·refine Aj []<|Al [1] An rfl<|Am rfl<|E2 rfl (Ar<|Value.pointer none) (Ar<|iV .i64 21) fun E q=>⟨(s,none,21),⟨ok,.inl ⟨rfl,.inr rfl,⟨s.p.tk,rfl⟩,.inl<|by simpa using h6⟩⟩,rfl,(Mem.flat (LL:=[NG k s]) rfl q)⟩
 ·refine W.s<|C5 [(0,true),(1,true),(2,true),(3,true),(5,true),(6,true),(7,true),(8,true),(4,false),(9,false),(10,false),(11,false)] [0,1,2,3,5,6,7,8]<|B5 3<|Bm rfl (Bf (b:=k.nb) (o':=29) (i:=1) (j:=0) (cs:=C3 k s) (v:=pL<|some ⟨k.ts,0,none⟩) rfl Aa isAgg85 rfl rfl<|(Cf rfl An).trans rfl)<|B5 3 ?_
  refine Bm rfl (Bf (b:=k.nb) (o':=29) (i:=1) (j:=0) (cs:=C3 k s) (v:=pL<|some ⟨k.ts,0,none⟩) rfl Aa isAgg85 rfl rfl<|(Cf rfl An).trans rfl)<|Ec (v:=nV .i64 s.p.xs.length) rfl (A8 fun E g=>(T2 s.p.xs s.gs.a s.gs.cap k.mo k.ts _ (Fv (i:=1) g rfl) (NG.xs (i:=1) g rfl ok) D1 ok.hxs))<|Ec (v:=iV .i64 k.mo) rfl (A8 fun E g=>(T4 s.p.xs s.gs.a s.gs.cap k.mo k.ts _ (Fv (i:=1) g rfl) (NG.xs (i:=1) g rfl ok) D1 ok.hxs))<|Bs 2 []<|Ev ?_
  refine A9 ?_
  refine Ak (decide<|((s.p.xs.length:Nat):Int)≥k.mo) Aa (fun ar=>?_) fun R=>?_
  ·have au:=ar;try simp only[zA]at au
   refine Aj []<|Al [1] An rfl<|Am rfl<|E2 rfl (Ar<|pL none) (Ar<|iV .i64 20) fun E q=>⟨(s,none,20),⟨ok,.inl ⟨rfl,.inl rfl,⟨s.p.tk,rfl⟩,.inr<|.inl (by have S:=of_decide_eq_true ar;omega)⟩⟩,rfl,(Mem.flat (LL:=[NG k s]) rfl q)⟩
  ·have av:=R;try simp only[zA]at av
   refine Ag<|A9<|W.s<|Av ?_
   refine A5 2 [(0,0)]<|Cb (v:=Value.tuple #[iV .u16 ((Gm s.p.ms k.fx (((pr:Nat):Int),d,ds,e,l)).getD 0),bV ((Gm s.p.ms k.fx (((pr:Nat):Int),d,ds,e,l)).isSome)]) (A8 fun E g=>(Ak7 k.c k.fx k.gf.a k.gf.cap s.p.ms s.gm.a s.gm.cap k.ts k.te s.p.tk k.wb k.ti s.p.lst k.nb (((pr:Nat):Int),d,ds,e,l) _ (A4 (i:=1) (j:=0) (t:=91) (b:=k.nb) g rfl rfl) (NG.fx (i:=1) g rfl ok) Ey (NG.ms (i:=1) g rfl ok) Ey))<|Ab 5<|Ai ?_
   refine Aj [] ?_
   refine Ak ((Gm s.p.ms k.fx (((pr:Nat):Int),d,ds,e,l)).isSome) Aa (fun bn=>?_) fun aj=>?_
   ·refine Av<|A5 3 [(0,0)]<|Aw rfl (Au [1] [0] fun E g C=>(Adw k s _ (((pr:Nat):Int),d,ds,e,l) ((Gm s.p.ms k.fx (((pr:Nat):Int),d,ds,e,l)).getD 0) _ ok C)) fun bo T=>?_
    obtain⟨aw,H⟩:=bo
    dsimp only at T
    obtain⟨U,ax⟩:=T
    refine B0 (LL':=[NG k aw,[cb H [nV .u8 pr,iV .u32 d,iV .u32 ds,iV .u16 e,iV .u16 l,iV .u16<|(Gm s.p.ms k.fx (((pr:Nat):Int),d,ds,e,l)).getD 0,iV .u64 0,bV false,bV false,bV false,bV false,bV false,bV false,iV .u64 s.p.lst,bV false] 113],Qn ds l e d G pr]) rfl ?_
    obtain⟨bp,bq,br,bs,bt⟩:=NOk.len U
    refine Ab 2<|Ai<|Al [0,1] An rfl<|Am rfl<|E2 rfl (Ar<|pV H 0) (Ar<|iV .i64 0) fun E q=>⟨(aw,some (H,Ls (((pr:Nat):Int),d,ds,e,l) ((Gm s.p.ms k.fx (((pr:Nat):Int),d,ds,e,l)).getD 0) s.p.lst false),0),⟨U,.inr ⟨rfl,by simpa using h7,by have S:=of_decide_eq_false R;omega,⟨_,false,H,0,.inl ⟨Wp bn,rfl⟩,rfl,ax⟩⟩⟩,rfl,(q.pick [0,1] An rfl)⟩
   ·refine Ag<|A9<|W.s<|W.s<|E5 [0,1,2,3,4,7,8,9,12] (Mem w M [Qn ds l e d G pr,NG k s]) Aa Aa (fun _ _ h=>h.drawn _) ?_
    refine Ef (w0:=w) (M:=M) [0,3,5,12,51,52] (fun(N:Nat)=>[pL (some ⟨k.nb,0,none⟩),nV .u64 x,pV G 0,pV N 0,aV<|Qo e d pr s,bV (Bq s.p.zs (((pr:Nat):Int),d,e))]) (fun(N:Nat)=>True) (fun(N:Nat)=>[[cb N zl9 99],Qn ds l e d G pr,NG k s]) 2 #[true,true,true,true,true,true,true,true,true,true,true,false,false] (fun N cw c9=>?_) fun JD41=>?_
    ·obtain⟨o,rfl⟩: ∃a_,a_=N:=⟨_,rfl⟩
     refine A6 (i:=11) Aa<|Cp rfl rfl (A0 o 0 0 0 (Qo e d pr s) sizeOf99 rfl rfl) (Az [1,2]) fun _=>?_
     refine Wa.ys (v:=bV<|Bq s.p.zs (((pr:Nat):Int),d,e)) (i:=12) Aa Aa Aa Aa (fun _ h=>h.pick [1,2] An rfl) rfl rfl rfl (Ys.p)<|Ej Aa<|A9<|Aj [] ?_
     refine Ak (Bq s.p.zs (((pr:Nat):Int),d,e)) Aa (fun bw=>?_) fun ay=>?_
     ·refine Av<|A5 3 [(1,0)]<|Ao (v:=nV .u16 ep) (Ys.conseq (v:=iV .u16<|(B1 (⟨0,0⟩:Lse) s.p.zs (((pr:Nat):Int),d,e)).ext) (Ad aq)<|Cn o 0 0 0 isAgg22)<|Aw rfl (Au [2] [0,1] fun E g C=>(Xs k s _ pr d ds e l ep _ ok C Ae Ae am)) fun bx V=>?_
      obtain⟨az,I,a0⟩:=bx
      dsimp only at V
      obtain⟨X,a1,bz⟩:=V
      refine B0 (LL':=[NG k az,[cb I [nV .u8 pr,iV .u32 d,iV .u32 ds,iV .u16 e,iV .u16 l,nV .u16 ep,iV .u64 0,bV false,bV false,bV false,bV false,bV false,bV false,iV .u64 s.p.lst,bV true] 113],[cb o (Qo e d pr s) 99],Qn ds l e d G pr]) rfl ?_
      obtain⟨b0,b1,b3,b4,b5⟩:=NOk.len X
      refine Ab 2<|Ai<|Al [0,1] An rfl<|Am rfl<|E2 rfl (Ar<|pV I 0) (Ar<|iV .i64 0) fun E q=>⟨(az,some (I,Ls (((pr:Nat):Int),d,ds,e,l) (ep:Int) s.p.lst true),0),⟨X,.inr ⟨rfl,by simpa using h7,by have S:=of_decide_eq_false R;omega,⟨(ep:Int),true,I,a0,.inr<|.inl ⟨M2 aj,rfl,bw,aq.symm⟩,rfl,a1⟩⟩⟩,rfl,(q.pick [0,1] An rfl)⟩
     ·refine Ag<|A9<|Al [1,2] An rfl<|Av ?_
      refine A5 3 [(0,0)]<|Aw rfl (Au (args:= #[pL (some ⟨k.nb,0,none⟩),nV .u8 pr]) [1] [0] fun E g C=>(Ads Ae ok C)) fun b6 Y=>?_
      obtain⟨D,J⟩:=b6
      dsimp only at Y
      obtain⟨Z,u,b7⟩:=Y
      refine B0 (LL':=[NG k D,Qn ds l e d G pr]) rfl ?_
      obtain⟨b9,ca,cc,cd,ce⟩:=NOk.len Z
      have L:D.p.tk pr=some J:=by rw[u];exact E7 _ _ _
      refine Ab 1<|Aw rfl (Au (args:= #[pV J 0,nV .u64 x]) [0] [1] fun E g C=>(Alv Ae Ae L (ao.mem' g bk) Z C)) fun A a2=>?_
      obtain⟨P,F⟩:=a2
      obtain⟨cf,cg,ch,ci,cj⟩:=NOk.len P
      have bb:A.p.tk pr=some J:=by rw[F];exact L
      have ck:=Xh (D.p.TT pr) x
      refine Ab 5<|Ai<|W.s<|Aj [] ?_
      refine Ak (!(decide<|pk (D.p.TT pr) x<65536)) Aa (fun a3=>?_) fun a5=>?_
      ·have a6:=a3;try simp only[zA]at a6
       refine Aj []<|Al [0] An rfl<|Am rfl ?_
       have aa: ¬pk (s.p.TT pr) x<65536:=by have S:=a3;rw[show D.p.TT=s.p.TT by rw[u]]at S;simp at S;omega
       exact E2 rfl (Ar<|pL none) (Ar<|iV .i64 20) fun E q=>⟨(A,none,20),⟨P,.inl ⟨rfl,.inl rfl,⟨A.p.tk,by rw[F,u];show({s.p with tk:=_,TT:=F8 s.p.TT pr (Zb (s.p.TT pr) x)}:NP)=_;rw[Ah9 aa]⟩,.inr<|.inr ⟨M2 aj,ay,aa⟩⟩⟩,rfl,(Mem.flat (LL:=[NG k A]) rfl q)⟩
      ·have a7:=a5;try simp only[zA]at a7
       refine Ag<|A9<|Av<|A5 3 [(1,0)] ?_
       refine Aw rfl (Au [0] [1] fun E g C=>(Xs k A _ pr d ds e l (N8 (D.p.TT pr) x) _ P C Ae Ae (by rw[show A.p.zs=s.p.zs by rw[F,u]];exact am))) fun cl ab=>?_
       obtain⟨ak,B,ad⟩:=cl
       dsimp only at ab
       obtain⟨ae,a8,cm⟩:=ab
       refine B0 (LL':=[NG k ak,[cb B [nV .u8 pr,iV .u32 d,iV .u32 ds,iV .u16 e,iV .u16 l,nV .u16<|N8 (D.p.TT pr) x,iV .u64 0,bV false,bV false,bV false,bV false,bV false,bV false,iV .u64 A.p.lst,bV true] 113],Qn ds l e d G pr]) rfl ?_
       obtain⟨cn,co,cp,cq,cr⟩:=NOk.len ae
       refine Ab 2<|Ai<|Al [0,1] An rfl<|Am rfl ?_
       have Q:D.p.TT=s.p.TT:=by rw[u]
       have af:pk (s.p.TT pr) x<65536:=by have S:=a5;rw[Q]at S;simpa using S
       have a9:A.p.lst=s.p.lst:=by rw[F,u]
       have ct:=(Aas (k:=k) (p:=s.p) (p2:=A.p) (f:=(((pr:Nat):Int),d,ds,e,l)) (xb:=B) (pb:=ad) (b:=J) (by rw[F,u];rfl) af)
       exact E2 rfl (Ar<|pV B 0) (Ar<|iV .i64 0) fun E q=>⟨(ak,some (B,Ls (((pr:Nat):Int),d,ds,e,l) (N8 (s.p.TT pr) x:Int) s.p.lst true),0),⟨ae,.inr ⟨rfl,by simpa using h7,by have S:=of_decide_eq_false R;omega,⟨_,true,B,ad,.inr<|.inr ⟨M2 aj,rfl,ay,af,rfl⟩,rfl,(by rw[a8,Q];exact ct)⟩⟩⟩,rfl,(Mem.cast (LL:=[NG k ak,[cb B [nV .u8 pr,iV .u32 d,iV .u32 ds,iV .u16 e,iV .u16 l,nV .u16<|N8 (D.p.TT pr) x,iV .u64 0,bV false,bV false,bV false,bV false,bV false,bV false,iV .u64 A.p.lst,bV true] 113]]) (by rw[Q,a9];rfl)<|q.pick [0,1] An rfl)⟩
    ·refine Ef (w0:=w) (M:=M) [0,3,5,12,47,49] (fun(O:Nat)=>[pL (some ⟨k.nb,0,none⟩),nV .u64 x,pV G 0,pV O 0,pL<|some ⟨k.te,0,none⟩,aV [nV .u8 pr,iV .u32 d,iV .u16 e]]) (fun(O:Nat)=>True) (fun(O:Nat)=>[[cb O zl9 99],Qn ds l e d G pr,NG k s]) 6 #[true,true,true,true,true,true,false,false,false,false,true,false,false] (fun O cu cx=>?_) fun JD40=>?_
     ·obtain⟨o,rfl⟩: ∃a_,a_=O:=⟨_,rfl⟩
      refine A6 (i:=6) Aa<|Wo.yc (v:=Value.tuple #[aV (Qo e d pr s),bV (Bq s.p.zs (((pr:Nat):Int),d,e))]) rfl rfl rfl (A8 fun E g=>(Oi s.p.zs s.ge.a s.ge.cap k.mo k.te (((pr:Nat):Int),d,e) _ (Lr (i:=2) g rfl) (NG.zs (i:=2) g rfl ok) D1 ok.hzs)) (Ee [1,2])<|Wa.ys (v:=Value.tuple #[aV (Qo e d pr s),bV (Bq s.p.zs (((pr:Nat):Int),d,e))]) (i:=7) Aa Aa Aa Aa (fun _ h=>h.pick [1,2] An rfl) rfl rfl rfl (Ys.p)<|Wa.ys (v:=aV<|Qo e d pr s) (i:=8) Aa Aa Aa Aa (fun _ h=>h.pick [1,2] An rfl) rfl rfl rfl (Ys.p)<|Wa.ys (v:=bV<|Bq s.p.zs (((pr:Nat):Int),d,e)) (i:=9) Aa Aa Aa Aa (fun _ h=>h.pick [1,2] An rfl) rfl rfl rfl (Ys.p) ?_
      exact Ck [0,3,5,12,51,52] [pL (some ⟨k.nb,0,none⟩),nV .u64 x,pV G 0,pV o 0,aV [iV .u16 ((B1 (⟨0,0⟩:Lse) s.p.zs (((pr:Nat):Int),d,e)).ext),iV .i64 ((B1 (⟨0,0⟩:Lse) s.p.zs (((pr:Nat):Int),d,e)).count)],bV (Bq s.p.zs (((pr:Nat):Int),d,e))] #[true,true,true,true,true,true,true,true,true,true,true,false,false] (JD41 o trivial) Aa Aa fun _ h=>h
     ·refine Wa.ys (v:=pL<|some ⟨k.nb,0,none⟩) (i:=0) Aa Aa Aa Aa (fun _ h=>h) rfl rfl rfl (Ys.p)<|Wa.ys (v:=pL<|some ⟨k.nb,0,none⟩) (i:=1) Aa Aa Aa Aa (fun _ h=>h) rfl rfl rfl (Ys.p)<|Wa.ys (v:=pL<|some ⟨k.nb,30,none⟩) (i:=2) Aa Aa Aa Aa (fun _ h=>h) rfl rfl rfl (Ys.p)<|Wa.ys (i:=3) Aa Aa Aa Aa (fun _ h=>h) rfl rfl rfl (Bf (b:=k.nb) (o':=30) (i:=1) (j:=0) (cs:=C3 k s) (v:=pL<|some ⟨k.te,0,none⟩) rfl Aa isAgg86 rfl rfl<|(Cf rfl An).trans rfl)<|Wa.ys (v:=aV [nV .u8 pr,iV .u32 d,iV .u32 ds,iV .u16 e,iV .u16 l]) (i:=4) Aa Aa Aa Aa (fun _ h=>h) rfl rfl rfl (F0 G 0 0 0 [nV .u8 pr,iV .u32 d,iV .u32 ds,iV .u16 e,iV .u16 l] isAgg47 sizeOf47) ?_
      refine C9 (i:=5) (j:=10) Aa ?_ ?_
      ·refine Wo.yc (v:=aV [nV .u8 pr,iV .u32 d,iV .u16 e]) rfl rfl rfl (A8 fun E g=>(Mz (pr:Int) d ds e l _)) (.inr fun _ h=>h) ?_
       refine C9 (i:=6) (j:=10) Aa ?_ ?_
       ·refine Wo.yc (v:=Value.tuple #[aV (Qo e d pr s),bV (Bq s.p.zs (((pr:Nat):Int),d,e))]) rfl rfl rfl (A8 fun E g=>(Oi s.p.zs s.ge.a s.ge.cap k.mo k.te (((pr:Nat):Int),d,e) _ (Lr (i:=1) g rfl) (NG.zs (i:=1) g rfl ok) D1 ok.hzs)) (.inr fun _ h=>h)<|Wa.ys (v:=Value.tuple #[aV (Qo e d pr s),bV (Bq s.p.zs (((pr:Nat):Int),d,e))]) (i:=7) Aa Aa Aa Aa (fun _ h=>h) rfl rfl rfl (Ys.p)<|Wa.ys (v:=aV<|Qo e d pr s) (i:=8) Aa Aa Aa Aa (fun _ h=>h) rfl rfl rfl (Ys.p)<|Wa.ys (v:=bV<|Bq s.p.zs (((pr:Nat):Int),d,e)) (i:=9) Aa Aa Aa Aa (fun _ h=>h) rfl rfl rfl (Ys.p)<|A6 (i:=10) Aa ?_
        refine Cp rfl rfl (Ba zeroValue99) (Az [1,2]) fun o=>?_
        exact Ck [0,3,5,12,51,52] [pL (some ⟨k.nb,0,none⟩),nV .u64 x,pV G 0,pV o 0,aV [iV .u16 ((B1 (⟨0,0⟩:Lse) s.p.zs (((pr:Nat):Int),d,e)).ext),iV .i64 ((B1 (⟨0,0⟩:Lse) s.p.zs (((pr:Nat):Int),d,e)).count)],bV (Bq s.p.zs (((pr:Nat):Int),d,e))] #[true,true,true,true,true,true,true,true,true,true,true,false,false] (JD41 o trivial) Aa Aa fun _ h=>h
       ·refine Cp rfl rfl (Ba zeroValue99) (Az [1,2]) fun o=>?_
        exact Ck [0,3,5,12,47,49] [pL (some ⟨k.nb,0,none⟩),nV .u64 x,pV G 0,pV o 0,pL<|some ⟨k.te,0,none⟩,aV [nV .u8 pr,iV .u32 d,iV .u16 e]] #[true,true,true,true,true,true,false,false,false,false,true,false,false] (JD40 o trivial) Aa Aa fun _ h=>h
      ·refine Cp rfl rfl (Ba zeroValue99) (Az [1,2]) fun o=>A6 (i:=5) Aa<|Wo.yc (v:=aV [nV .u8 pr,iV .u32 d,iV .u16 e]) rfl rfl rfl (A8 fun E g=>(Mz (pr:Int) d ds e l _)) (Ee [1,2]) ?_
       exact Ck [0,3,5,12,47,49] [pL (some ⟨k.nb,0,none⟩),nV .u64 x,pV G 0,pV o 0,pL<|some ⟨k.te,0,none⟩,aV [nV .u8 pr,iV .u32 d,iV .u16 e]] #[true,true,true,true,true,true,false,false,false,false,true,false,false] (JD40 o trivial) Aa Aa fun _ h=>h
def Iq(pr:Int)(b c s2 d e:Bool):Int:=bif pr==1 then 60 else bif pr==17 then 300 else bif pr==6 then(bif (b&&c)&& !(e||(s2&&d))then 7440 else 240)else 0
theorem Jw(b c s2 d e:Bool):Iq 17 b c s2 d e=300:=rfl
structure RenE(e:SesE)(now:Int)(out:Bool)(r:SesE):Prop where
  pr:r.pr=e.pr
  src:r.src=e.src
  dst:r.dst=e.dst
  frm:r.frm=e.frm
  dto:r.dto=e.dto
  ext:r.ext=e.ext
  id:r.id=e.id
  given:r.given=e.given
  lan:r.lan=(e.lan||out)
  ends:e.pr=17→r.ends=Ac1 now
theorem Adx(fl:Int)(w:World):Calls prog 140 #[iV .u8 fl] w (Df w (.bool ((Dw .u8 fl 22)==2))):=by
 refine Ap (M:=[]) (LL:=[]) (n:=6) func140 rfl rfl A7 (Mem.refl _)<|Aj []<|Aj []<|Am rfl<|D7 rfl (Ar<|bV<|(Dw .u8 fl 22)==2) rfl
theorem Ady(j l s2 d c:Bool)(w:World):Calls prog 139 #[aV [bV j,bV l,bV s2,bV d,bV c]] w (Df w (.bool (c||(s2&&d)))):=by
 refine Ap (M:=[]) (LL:=[]) (n:=13) func139 rfl rfl A7 (Mem.refl _)<|W.s ?_
 refine Ac<|Af rfl (Bx [bV j,bV l,bV s2,bV d,bV c] rfl) fun h=>?_
 refine Ab 1<|Ai<|Av ?_
 refine A5 3 [(0,0)]<|C1 3 (c) (fun _=>Gs.z [(0,0)]) ?_
 refine Bz (v:=pV h 3) ((!c)&&s2) rfl (F7 rfl rfl Aa) rfl (fun o=>?_) ?_
 ·exact Ys.p
 refine Bz (v:=bV d) ((!c)&&s2) rfl (F7 rfl rfl Aa) rfl (fun i=>?_) ?_
 ·refine Bh (t:=9) (v0:=pV h 3) (lz (g:=(!c)&&s2) (u:=undef) i Aa) ?_
  exact Cn h 3 0 0 isAgg4
 refine C1 1 (c) (fun f=>Gs.y (v:=bV<|s2&&d) (Bh (t:=8) (v0:=bV s2) (lz (g:= !c) (u:=undef) f Aa)<|Bh (t:=10) (v0:=(bif s2 then bV d else undef)) (lz2 (g:= !c) f Aa)<|B9 (e:=s2) (b:=d) rfl Aa Aa Aa) Gs.nil)<|Ao (v:=bV<|c||(s2&&d)) (Ce (e:=c) (b:=s2&&d) rfl Aa Aa Aa)<|Ab 1<|Ai ?_
 refine Al [] An rfl<|Am rfl<|D7 rfl (Ar<|bV<|c||(s2&&d)) rfl
theorem Alx(f g s2 c d:Bool)(fl:Int)(out:Bool)(w:World):Calls prog 89 #[aV [bV f,bV g,bV s2,bV c,bV d],iV .u8 fl,bV out] w (Bn w (fun _:Bool×Bool×Bool×Bool×Bool=>True) (fun q=>.agg [.bool q.1,.bool q.2.1,.bool q.2.2.1,.bool q.2.2.2.1,.bool q.2.2.2.2].toArray) [] (fun _=>[])):=by
 refine Ap (M:=[]) (LL:=[]) (n:=59) func89 rfl rfl A7 (Mem.refl _)<|W.s ?_
 refine Ac<|Af rfl (Bx [bV f,bV g,bV s2,bV c,bV d] rfl) fun j=>?_
 refine Af rfl (Ba zeroValue72) fun i=>Ai<|W.s<|W.s ?_
 refine Ac<|Ab 2<|Da 2 (out) (fun _=>Gs.m 1 [(1,0)]<|Gs.k (v:=bV<|d||(s2&&c)) (A8 fun r t=>(Ady f g s2 c d _)) Gs.nil)<|Ao (v:=bV<|out&&(d||(s2&&c))) (B9 (e:=out) (b:=d||(s2&&c)) rfl Aa Aa Aa)<|Ab 1 ?_
 refine Da 2 (out&&(d||(s2&&c))) (fun _=>Gs.m 1 []<|Gs.k (v:=bV<|(Dw .u8 fl 22)==2) (A8 fun r t=>(Adx fl _)) Gs.nil)<|Ao (v:=bV<|(out&&(d||(s2&&c)))&&((Dw .u8 fl 22)==2)) (B9 (e:=out&&(d||(s2&&c))) (b:=(Dw .u8 fl 22)==2) rfl Aa Aa Aa)<|Ai ?_
 refine Ak ((out&&(d||(s2&&c)))&&((Dw .u8 fl 22)==2)) Aa (fun u=>?_) fun x=>?_
 ·have l:=u;try simp only[zA]at l
  refine Av<|Ab 1<|Af rfl (A0 i 0 0 0 [bV true,bV false,bV false,bV false,bV false] sizeOf72 rfl rfl) fun _=>Ay ?_
  refine A9<|Al [0] An rfl<|Am rfl<|D9 rfl (I1 i 0 0 0 isAgg72 sizeOf72) fun r h=>⟨(true,false,false,false,false),trivial,rfl,(h.pick [] An rfl)⟩
 ·have o:=x;try simp only[zA]at o
  refine Ag<|A9<|Aj []<|Av ?_
  refine A5 3 [(1,0)]<|C1 3 (d) (fun _=>Gs.z [])<|Ao (v:=bV<|d||((Dw .u8 fl 4) !=0)) (Ce (e:=d) (b:=(Dw .u8 fl 4) !=0) rfl Aa Aa Aa)<|Ab 1<|Af rfl (Bd j 4 1 0 (bV<|d||((Dw .u8 fl 4) !=0)) sizeOf4 rfl rfl) fun _=>?_
  refine Ai<|W.s<|Aj [] ?_
  refine Ak (out) Aa (fun A=>?_) fun B=>?_
  ·refine Ac<|A5 3 [(1,0)]<|C1 1 (f) (fun _=>Gs.z [])<|Ao (v:=bV<|f||((Dw .u8 fl 2) !=0)) (Ce (e:=f) (b:=(Dw .u8 fl 2) !=0) rfl Aa Aa Aa)<|A5 3 [(1,0)] ?_
   refine C1 1 (s2) (fun _=>Gs.z [])<|Ao (v:=bV<|s2||((Dw .u8 fl 1) !=0)) (Ce (e:=s2) (b:=(Dw .u8 fl 1) !=0) rfl Aa Aa Aa)<|Ab 1<|Af rfl (Bd j 0 1 0 (bV<|f||((Dw .u8 fl 2) !=0)) sizeOf4 rfl rfl) fun _=>Ab 1 ?_
   refine Af rfl (Bd j 2 1 0 (bV<|s2||((Dw .u8 fl 1) !=0)) sizeOf4 rfl rfl) fun _=>Ai<|Av ?_
   refine A5 1 [(1,0)]<|Af rfl (A0 i 0 0 0 [bV (f||((Dw .u8 fl 2) !=0)),bV g,bV<|s2||((Dw .u8 fl 1) !=0),bV c,bV (d||((Dw .u8 fl 4) !=0))] sizeOf72 rfl rfl) fun _=>?_
   refine Ai<|Al [0] An rfl<|Am rfl<|D9 rfl (I1 i 0 0 0 isAgg72 sizeOf72) fun r h=>⟨(f||((Dw .u8 fl 2) !=0),g,s2||((Dw .u8 fl 1) !=0),c,d||((Dw .u8 fl 4) !=0)),trivial,rfl,(h.pick [] An rfl)⟩
  ·refine Ac<|A5 3 [(1,0)]<|C1 1 (g) (fun _=>Gs.z [])<|Ao (v:=bV<|g||((Dw .u8 fl 2) !=0)) (Ce (e:=g) (b:=(Dw .u8 fl 2) !=0) rfl Aa Aa Aa)<|A5 3 [(1,0)] ?_
   refine C1 1 (c) (fun _=>Gs.z [])<|Ao (v:=bV<|c||((Dw .u8 fl 1) !=0)) (Ce (e:=c) (b:=(Dw .u8 fl 1) !=0) rfl Aa Aa Aa)<|Ab 1<|Af rfl (Bd j 1 1 0 (bV<|g||((Dw .u8 fl 2) !=0)) sizeOf4 rfl rfl) fun _=>Ab 1 ?_
   refine Af rfl (Bd j 3 1 0 (bV<|c||((Dw .u8 fl 1) !=0)) sizeOf4 rfl rfl) fun _=>Ai<|Av ?_
   refine A5 1 [(1,0)]<|Af rfl (A0 i 0 0 0 [bV f,bV<|g||((Dw .u8 fl 2) !=0),bV s2,bV<|c||((Dw .u8 fl 1) !=0),bV (d||((Dw .u8 fl 4) !=0))] sizeOf72 rfl rfl) fun _=>?_
   refine Ai<|Al [0] An rfl<|Am rfl<|D9 rfl (I1 i 0 0 0 isAgg72 sizeOf72) fun r h=>⟨(f,g||((Dw .u8 fl 2) !=0),s2,c||((Dw .u8 fl 1) !=0),d||((Dw .u8 fl 4) !=0)),trivial,rfl,(h.pick [] An rfl)⟩
theorem Zq(pr:Int)(c d s2 f g:Bool)(w:World):Calls prog 90 #[iV .u8 pr,aV [bV c,bV d,bV s2,bV f,bV g]] w (Df w (.int .u64 (Iq pr c d s2 f g))):=by
 refine Ap (M:=[]) (LL:=[]) (n:=23) func90 rfl rfl A7 (Mem.refl _)<|W.s ?_
 refine Ac<|Af rfl (Bx [bV c,bV d,bV s2,bV f,bV g] rfl) fun C=>?_
 refine Ab 1<|Ai<|W.s<|Aj [] ?_
 refine W.block<|Aj [] ?_
 refine Ak (pr==1) Aa (fun A=>?_) fun j=>?_
 ·refine Aj []<|Am rfl<|D7 rfl (Ar<|iV .u64 60) (by unfold Iq;rw[show(pr==1)=true from A];try rfl)
 ·have q:=j;try simp only[zA]at q
  refine Aj [] ?_
  refine Ak (pr==17) Aa (fun r=>?_) fun h=>?_
  ·refine Aj []<|Am rfl<|D7 rfl (Ar<|iV .u64 300) (by unfold Iq;rw[show(pr==1)=false from j];rw[show(pr==17)=true from r];try rfl)
  ·have l:=h;try simp only[zA]at l
   refine Aj [] ?_
   refine Ak (pr==6) Aa (fun i=>?_) fun t=>?_
   ·have o:=i;try simp only[zA]at o
    refine W.s<|W.s ?_
    refine Ac<|A5 3 [(0,0)]<|Da 2 (c) (fun _=>Gs.z [(0,0)])<|Ao (v:=bV<|c&&d) (B9 (e:=c) (b:=d) rfl Aa Aa Aa)<|Ab 1 ?_
    refine Da 3 (c&&d) (fun _=>Gs.m 1 [(0,0)]<|Gs.k (v:=bV<|g||(s2&&f)) (A8 fun D B=>(Ady c d s2 f g _))<|Gs.z [])<|Ao (v:=bV<|(c&&d)&&(!(g||(s2&&f)))) (B9 (e:=c&&d) (b:= !(g||(s2&&f))) rfl Aa Aa Aa)<|Ai<|Al [] An rfl ?_
    refine Ak ((c&&d)&&(!(g||(s2&&f)))) Aa (fun u=>?_) fun x=>?_
    ·refine Aj []<|Am rfl<|D7 rfl (Ar<|iV .u64 7440) (by unfold Iq;rw[show(pr==1)=false from j];rw[show(pr==17)=false from h];rw[show(pr==6)=true from i];rw[show((c&&d)&&(!(g||(s2&&f))))=true from u];try rfl)
    ·refine Ag<|A9<|Aj []<|Am rfl<|D7 rfl (Ar<|iV .u64 240) (by unfold Iq;rw[show(pr==1)=false from j];rw[show(pr==17)=false from h];rw[show(pr==6)=true from i];rw[show((c&&d)&&(!(g||(s2&&f))))=false from x];try rfl)
   ·refine Ag<|A9<|Al [] An rfl<|Aj []<|Am rfl<|D7 rfl (Ar<|iV .u64 0) (by unfold Iq;rw[show(pr==1)=false from j];rw[show(pr==17)=false from h];rw[show(pr==6)=false from t];try rfl)
abbrev Qp(e:SesE)(xb:Nat):List Blk:=[cb xb (Sq e) 113]
theorem I8(k:NK)(s:NS)(M:List Nat)(e:SesE)(xb:Nat)(ttl F pid G H:Int)(ba:Option Addr)(bl bc:Nat)(now fl:Int)(out sg:Bool)(w:World)(ok:NOk k s)(hl:Mem w M [NG k s,[Jv (xb,e)]] w)(hw:s.p.ws.length≤80000)(ag: ∀LL w1,Mem w M LL w1→Calls prog 88 #[O6 ttl F pid G H ba bl bc] w1 (Df w1 (.tuple #[.int .u8 fl,.bool sg]))):Calls prog 44 #[pL (some ⟨k.nb,0,none⟩),pV xb 0,aV [iV .u8 ttl,iV .u8 F,iV .u16 pid,iV .u32 G,iV .u32 H,sL ba bl bc],iV .u64 now,bV out] w (Bn w (fun r:NS×SesE=>NOk k r.1∧RenE e now out r.2∧r.1.p={s.p with ws:=Kz s.p.ws e.id r.2.ends}) (fun _=>.tuple #[]) M (fun r=>[NG k r.1,[Jv (xb,r.2)]])):=by
 obtain⟨bd,bf,bg,bh,bi⟩:=NOk.len ok
 refine Ap (M:=M) (LL:=[NG k s,Qp e xb]) (n:=87) func44 rfl rfl A7 (hl)<|W.s ?_
 refine Ac<|Af rfl (Bx [iV .u8 ttl,iV .u8 F,iV .u16 pid,iV .u32 G,iV .u32 H,sL ba bl bc] rfl) fun p7=>?_
 refine Ai<|W.s<|Av ?_
 refine A5 1 [(0,0)]<|Cb (v:=Value.tuple #[iV .u8 fl,bV sg]) (A8 fun h o=>(ag _ _ o))<|Ab 5<|Ai ?_
 refine Al [1,2] An rfl<|Aj [] ?_
 refine Ak (sg) Aa (fun h6=>?_) fun h7=>?_
 ·refine Ac<|A5 8 [(1,0)]<|Aw rfl (Au [] [0,1] fun h o q=>(Alx e.s0 e.s1 e.s2 e.s3 e.s4 fl out _)) fun ai _=>?_
  obtain⟨u,x,d,f,g⟩:=ai
  refine B0 (LL':=[NG k s,Qp e xb]) rfl<|Ab 3<|Af rfl (A0 xb 8 1 0 [bV u,bV x,bV d,bV f,bV g] sizeOf72 rfl rfl) fun _=>Ai ?_
  refine Av<|A5 7 [(1,0)]<|C1 1 (e.lan) (fun _=>Gs.z [])<|Ao (v:=bV<|e.lan||out) (Ce (e:=e.lan) (b:=out) rfl Aa Aa Aa) ?_
  refine Ab 3<|Af rfl (Bd xb 7 1 0 (bV<|e.lan||out) sizeOf4 rfl rfl) fun _=>?_
  refine Ai<|W.s<|C5 [(0,true),(1,true),(2,true),(3,true),(4,true),(5,true),(6,false),(7,false),(8,false),(9,false),(10,false),(11,false),(12,false)] [0,1,2,3,4,5]<|Bs 11 [(1,0),(1,0)] ?_
  refine Ec (v:=iV .u64<|Iq e.pr u x d f g) rfl (A8 fun h o=>(Zq e.pr u x d f g _))<|Dh 1 []<|Cl<|W.s ?_
  refine Ac<|Ab 7<|Af rfl (Bd xb 6 1 0 (iV .u64<|D2 .u64 now<|Iq e.pr u x d f g) sizeOf45 rfl rfl) fun _=>Ai ?_
  refine W.s<|Aj [(1,0)] ?_
  refine Ak (decide<|(D2 .u64 now<|Iq e.pr u x d f g)<now) Aa (fun I=>?_) fun L=>?_
  ·have N:=I;try simp only[zA]at N
   refine Ac<|Ab 4<|Af rfl (Bd xb 6 1 0 (iV .u64 18446744073709551615) sizeOf45 rfl rfl) fun _=>Ai ?_
   refine B3 [(0,true),(1,true),(2,true),(3,true),(4,true),(5,true),(6,true),(7,true),(8,false),(9,false),(10,false),(11,false),(12,false),(13,false)] [0,1,2,3,4,5,6,7] (fun h=> ∃l:NS,Mem w M [NG k l,[cb xb [iV .u8 e.pr,iV .u32 e.src,iV .u32 e.dst,iV .u16 e.frm,iV .u16 e.dto,iV .u16 e.ext,iV .u64 18446744073709551615,bV<|e.lan||out,bV u,bV x,bV d,bV f,bV g,iV .u64 e.id,bV e.given] 113]] h) Aa Aa Aa rfl Aa (fun _ _ c=>c.drawn _) (fun _ c=>⟨_,c⟩)<|B5 3<|Bm rfl (Dx fun l=>Bf (b:=k.nb) (o':=287) (i:=0) (j:=0) (cs:=C3 k l) (v:=pL<|some ⟨k.wb,0,none⟩) rfl Aa isAgg83 rfl rfl<|(Fk rfl 0).trans rfl)<|B5 3<|Bm rfl (Dx fun l=>Bf (b:=xb) (o':=13) (i:=1) (j:=0) (v:=iV .u64 e.id) rfl Aa isAgg45 rfl rfl rfl) ?_
   refine Wd.yc (v:=pV xb 0) rfl rfl rfl (Ys.yc Ys.p) (.inr fun _ c=>⟨_,c⟩)<|Wd.yc (v:=pV xb 0) rfl rfl rfl (Ys.yc Ys.p) (.inr fun _ c=>⟨_,c⟩)<|Wd.yc (v:=pV xb 0) rfl rfl rfl (Ys.yc Ys.p) (.inr fun _ c=>⟨_,c⟩)<|Wd.yc (v:=pV xb 6) rfl rfl rfl (Ys.yc Ys.p) (.inr fun _ c=>⟨_,c⟩)<|Wd.yc (v:=iV .u64 18446744073709551615) rfl rfl rfl (Ys.yc<|Cn xb 6 1 0 isAgg45) (.inr fun _ c=>⟨_,c⟩) ?_
   refine Ca rfl rfl (Au (args:= #[pL (some ⟨k.wb,0,none⟩),iV .u64 e.id,iV .u64 18446744073709551615]) [0] [1] fun h o q=>(Un e.id 18446744073709551615 ok (by have A:=hw;omega) q)) (.inr fun _ _ c=>⟨_,c⟩) fun aj O=>?_
   obtain⟨B,P⟩:=O
   obtain⟨ak,al,am,an,ao⟩:=NOk.len B
   refine Ev ?_
   show∀h,_→bodyPostM (Cv none) 0 prog Tryz.f44 _ Exit.normal _ h
   exact fun h t=>Ei<|Iv rfl ⟨(aj,(⟨e.pr,e.src,e.dst,e.frm,e.dto,e.ext,18446744073709551615,e.lan||out,u,x,d,f,g,e.id,e.given⟩:SesE)),⟨B,⟨rfl,rfl,rfl,rfl,rfl,rfl,rfl,rfl,rfl,(fun c=>by unfold Ac1;rw[c,Jw]at I;rw[I]<;>rfl)⟩,by rw[P]<;>rfl⟩,rfl,(t.pick [0,1] An rfl)⟩
  ·have Q:=L;try simp only[zA]at Q
   refine Ag<|A9<|B3 [(0,true),(1,true),(2,true),(3,true),(4,true),(5,true),(6,true),(7,true),(8,false),(9,false),(10,false),(11,false),(12,false),(13,false)] [0,1,2,3,4,5,6,7] (fun h=> ∃l:NS,Mem w M [NG k l,[cb xb [iV .u8 e.pr,iV .u32 e.src,iV .u32 e.dst,iV .u16 e.frm,iV .u16 e.dto,iV .u16 e.ext,iV .u64<|D2 .u64 now<|Iq e.pr u x d f g,bV<|e.lan||out,bV u,bV x,bV d,bV f,bV g,iV .u64 e.id,bV e.given] 113]] h) Aa Aa Aa rfl Aa (fun _ _ c=>c.drawn _) (fun _ c=>⟨_,c⟩)<|B5 3<|Bm rfl (Dx fun l=>Bf (b:=k.nb) (o':=287) (i:=0) (j:=0) (cs:=C3 k l) (v:=pL<|some ⟨k.wb,0,none⟩) rfl Aa isAgg83 rfl rfl<|(Fk rfl 0).trans rfl) ?_
   refine B5 3<|Bm rfl (Dx fun l=>Bf (b:=xb) (o':=13) (i:=1) (j:=0) (v:=iV .u64 e.id) rfl Aa isAgg45 rfl rfl rfl)<|Wd.yc (v:=pV xb 0) rfl rfl rfl (Ys.yc Ys.p) (.inr fun _ c=>⟨_,c⟩)<|Wd.yc (v:=pV xb 0) rfl rfl rfl (Ys.yc Ys.p) (.inr fun _ c=>⟨_,c⟩)<|Wd.yc (v:=pV xb 0) rfl rfl rfl (Ys.yc Ys.p) (.inr fun _ c=>⟨_,c⟩) ?_
   refine Wd.yc (v:=pV xb 6) rfl rfl rfl (Ys.yc Ys.p) (.inr fun _ c=>⟨_,c⟩)<|Wd.yc (v:=iV .u64<|D2 .u64 now<|Iq e.pr u x d f g) rfl rfl rfl (Ys.yc<|Cn xb 6 1 0 isAgg45) (.inr fun _ c=>⟨_,c⟩)<|Ca rfl rfl (Au (args:= #[pL (some ⟨k.wb,0,none⟩),iV .u64 e.id,iV .u64 (D2 .u64 now<|Iq e.pr u x d f g)]) [0] [1] fun h o q=>(Un e.id (D2 .u64 now<|Iq e.pr u x d f g) ok (by have A:=hw;omega) q)) (.inr fun _ _ c=>⟨_,c⟩) fun ap R=>?_
   obtain⟨C,S⟩:=R
   obtain⟨aq,ar,au,av,aw⟩:=NOk.len C
   refine Ev ?_
   show∀h,_→bodyPostM (Cv none) 0 prog Tryz.f44 _ Exit.normal _ h
   exact fun h t=>Ei<|Iv rfl ⟨(ap,(⟨e.pr,e.src,e.dst,e.frm,e.dto,e.ext,D2 .u64 now<|Iq e.pr u x d f g,e.lan||out,u,x,d,f,g,e.id,e.given⟩:SesE)),⟨C,⟨rfl,rfl,rfl,rfl,rfl,rfl,rfl,rfl,rfl,(fun c=>by unfold Ac1;have A:=L;rw[c,Jw]at A;rw[A,c,Jw]<;>rfl)⟩,by rw[S]<;>rfl⟩,rfl,(t.pick [0,1] An rfl)⟩
 ·refine Ag<|A9<|Av<|A5 7 [(1,0)] ?_
  refine C1 1 (e.lan) (fun _=>Gs.z [])<|Ao (v:=bV<|e.lan||out) (Ce (e:=e.lan) (b:=out) rfl Aa Aa Aa)<|Ab 3<|Af rfl (Bd xb 7 1 0 (bV<|e.lan||out) sizeOf4 rfl rfl) fun _=>Ay ?_
  refine A9<|W.s ?_
  refine C5 [(0,true),(1,true),(2,true),(3,true),(4,true),(5,true),(6,false),(7,false),(8,false),(9,false),(10,false),(11,false),(12,false)] [0,1,2,3,4,5]<|Bs 11 [(1,0),(1,0)]<|Ec (v:=iV .u64<|Iq e.pr e.s0 e.s1 e.s2 e.s3 e.s4) rfl (A8 fun h o=>(Zq e.pr e.s0 e.s1 e.s2 e.s3 e.s4 _))<|Dh 1 []<|Ev ?_
  refine A9<|W.s ?_
  refine Ac<|Ab 7<|Af rfl (Bd xb 6 1 0 (iV .u64<|D2 .u64 now<|Iq e.pr e.s0 e.s1 e.s2 e.s3 e.s4) sizeOf45 rfl rfl) fun _=>Ai ?_
  refine W.s<|Aj [(1,0)] ?_
  refine Ak (decide<|(D2 .u64 now<|Iq e.pr e.s0 e.s1 e.s2 e.s3 e.s4)<now) Aa (fun J=>?_) fun T=>?_
  ·have U:=J;try simp only[zA]at U
   refine Ac<|Ab 4<|Af rfl (Bd xb 6 1 0 (iV .u64 18446744073709551615) sizeOf45 rfl rfl) fun _=>Ai ?_
   refine B3 [(0,true),(1,true),(2,true),(3,true),(4,true),(5,true),(6,true),(7,true),(8,false),(9,false),(10,false),(11,false),(12,false),(13,false)] [0,1,2,3,4,5,6,7] (fun h=> ∃l:NS,Mem w M [NG k l,[cb xb [iV .u8 e.pr,iV .u32 e.src,iV .u32 e.dst,iV .u16 e.frm,iV .u16 e.dto,iV .u16 e.ext,iV .u64 18446744073709551615,bV<|e.lan||out,bV e.s0,bV e.s1,bV e.s2,bV e.s3,bV e.s4,iV .u64 e.id,bV e.given] 113]] h) Aa Aa Aa rfl Aa (fun _ _ c=>c.drawn _) (fun _ c=>⟨_,c⟩)<|B5 3<|Bm rfl (Dx fun l=>Bf (b:=k.nb) (o':=287) (i:=0) (j:=0) (cs:=C3 k l) (v:=pL<|some ⟨k.wb,0,none⟩) rfl Aa isAgg83 rfl rfl<|(Fk rfl 0).trans rfl)<|B5 3<|Bm rfl (Dx fun l=>Bf (b:=xb) (o':=13) (i:=1) (j:=0) (v:=iV .u64 e.id) rfl Aa isAgg45 rfl rfl rfl) ?_
   refine Wd.yc (v:=pV xb 0) rfl rfl rfl (Ys.yc Ys.p) (.inr fun _ c=>⟨_,c⟩)<|Wd.yc (v:=pV xb 0) rfl rfl rfl (Ys.yc Ys.p) (.inr fun _ c=>⟨_,c⟩)<|Wd.yc (v:=pV xb 0) rfl rfl rfl (Ys.yc Ys.p) (.inr fun _ c=>⟨_,c⟩)<|Wd.yc (v:=pV xb 6) rfl rfl rfl (Ys.yc Ys.p) (.inr fun _ c=>⟨_,c⟩)<|Wd.yc (v:=iV .u64 18446744073709551615) rfl rfl rfl (Ys.yc<|Cn xb 6 1 0 isAgg45) (.inr fun _ c=>⟨_,c⟩) ?_
   refine Ca rfl rfl (Au (args:= #[pL (some ⟨k.wb,0,none⟩),iV .u64 e.id,iV .u64 18446744073709551615]) [0] [1] fun h o q=>(Un e.id 18446744073709551615 ok (by have A:=hw;omega) q)) (.inr fun _ _ c=>⟨_,c⟩) fun ax V=>?_
   obtain⟨D,X⟩:=V
   obtain⟨ay,az,a0,a1,a2⟩:=NOk.len D
   refine Ev ?_
   show∀h,_→bodyPostM (Cv none) 0 prog Tryz.f44 _ Exit.normal _ h
   exact fun h t=>Ei<|Iv rfl ⟨(ax,(⟨e.pr,e.src,e.dst,e.frm,e.dto,e.ext,18446744073709551615,e.lan||out,e.s0,e.s1,e.s2,e.s3,e.s4,e.id,e.given⟩:SesE)),⟨D,⟨rfl,rfl,rfl,rfl,rfl,rfl,rfl,rfl,rfl,(fun c=>by unfold Ac1;rw[c,Jw]at J;rw[J]<;>rfl)⟩,by rw[X]<;>rfl⟩,rfl,(t.pick [0,1] An rfl)⟩
  ·have Y:=T;try simp only[zA]at Y
   refine Ag<|A9<|B3 [(0,true),(1,true),(2,true),(3,true),(4,true),(5,true),(6,true),(7,true),(8,false),(9,false),(10,false),(11,false),(12,false),(13,false)] [0,1,2,3,4,5,6,7] (fun h=> ∃l:NS,Mem w M [NG k l,[cb xb [iV .u8 e.pr,iV .u32 e.src,iV .u32 e.dst,iV .u16 e.frm,iV .u16 e.dto,iV .u16 e.ext,iV .u64<|D2 .u64 now<|Iq e.pr e.s0 e.s1 e.s2 e.s3 e.s4,bV<|e.lan||out,bV e.s0,bV e.s1,bV e.s2,bV e.s3,bV e.s4,iV .u64 e.id,bV e.given] 113]] h) Aa Aa Aa rfl Aa (fun _ _ c=>c.drawn _) (fun _ c=>⟨_,c⟩)<|B5 3<|Bm rfl (Dx fun l=>Bf (b:=k.nb) (o':=287) (i:=0) (j:=0) (cs:=C3 k l) (v:=pL<|some ⟨k.wb,0,none⟩) rfl Aa isAgg83 rfl rfl<|(Fk rfl 0).trans rfl) ?_
   refine B5 3<|Bm rfl (Dx fun l=>Bf (b:=xb) (o':=13) (i:=1) (j:=0) (v:=iV .u64 e.id) rfl Aa isAgg45 rfl rfl rfl)<|Wd.yc (v:=pV xb 0) rfl rfl rfl (Ys.yc Ys.p) (.inr fun _ c=>⟨_,c⟩)<|Wd.yc (v:=pV xb 0) rfl rfl rfl (Ys.yc Ys.p) (.inr fun _ c=>⟨_,c⟩)<|Wd.yc (v:=pV xb 0) rfl rfl rfl (Ys.yc Ys.p) (.inr fun _ c=>⟨_,c⟩) ?_
   refine Wd.yc (v:=pV xb 6) rfl rfl rfl (Ys.yc Ys.p) (.inr fun _ c=>⟨_,c⟩)<|Wd.yc (v:=iV .u64<|D2 .u64 now<|Iq e.pr e.s0 e.s1 e.s2 e.s3 e.s4) rfl rfl rfl (Ys.yc<|Cn xb 6 1 0 isAgg45) (.inr fun _ c=>⟨_,c⟩)<|Ca rfl rfl (Au (args:= #[pL (some ⟨k.wb,0,none⟩),iV .u64 e.id,iV .u64 (D2 .u64 now<|Iq e.pr e.s0 e.s1 e.s2 e.s3 e.s4)]) [0] [1] fun h o q=>(Un e.id (D2 .u64 now<|Iq e.pr e.s0 e.s1 e.s2 e.s3 e.s4) ok (by have A:=hw;omega) q)) (.inr fun _ _ c=>⟨_,c⟩) fun a3 Z=>?_
   obtain⟨E,aa⟩:=Z
   obtain⟨a5,a6,a7,a8,a9⟩:=NOk.len E
   refine Ev ?_
   show∀h,_→bodyPostM (Cv none) 0 prog Tryz.f44 _ Exit.normal _ h
   exact fun h t=>Ei<|Iv rfl ⟨(a3,(⟨e.pr,e.src,e.dst,e.frm,e.dto,e.ext,D2 .u64 now<|Iq e.pr e.s0 e.s1 e.s2 e.s3 e.s4,e.lan||out,e.s0,e.s1,e.s2,e.s3,e.s4,e.id,e.given⟩:SesE)),⟨E,⟨rfl,rfl,rfl,rfl,rfl,rfl,rfl,rfl,rfl,(fun c=>by unfold Ac1;have A:=T;rw[c,Jw]at A;rw[A,c,Jw]<;>rfl)⟩,by rw[aa]<;>rfl⟩,rfl,(t.pick [0,1] An rfl)⟩
def Eb(xs:List Conf.Fwd)(b ext:Int):Bool:=(Conf.find (fun k=>xs.getD k fz) b ext xs.length).2
def C0(xs:List Conf.Fwd)(b ext:Int):Conf.Fwd:=(Conf.find (fun k=>xs.getD k fz) b ext xs.length).1
abbrev Qq:List Value:=zl5
theorem I9(c:Conf.Cfg)(xs:List Conf.Fwd)(d:Option Addr)(C:Nat)(a b:Int)(w:World)(o:At w d (mm Conf.fwv xs))(L:xs.length≤4611686018427387904):Calls prog 75 #[aV [iV .u8 c.lm0,iV .u8 c.lm1,iV .u8 c.lm2,iV .u8 c.lm3,iV .u8 c.lm4,iV .u8 c.lm5,iV .u8 c.wm0,iV .u8 c.wm1,iV .u8 c.wm2,iV .u8 c.wm3,iV .u8 c.wm4,iV .u8 c.wm5,iV .u8 c.hm0,iV .u8 c.hm1,iV .u8 c.hm2,iV .u8 c.hm3,iV .u8 c.hm4,iV .u8 c.hm5,iV .u32 c.lan,iV .u32 c.wan,iV .i64 c.bits,iV .i64 c.ms,iV .i64 c.mm,iV .i64 c.mc,iV .i64 c.mu,sL d xs.length C,iV .u32 c.dmz,Value.string c.uu],iV .u8 a,iV .u16 b] w (Df w (.tuple #[.agg (Conf.fwv (C0 xs a b)).toArray,.bool (Eb xs a b)])):=by
 refine Ap (M:=[]) (LL:=[]) (n:=30) func75 rfl rfl A7 (Mem.refl _)<|W.s ?_
 refine Ac<|Af rfl (Bx [iV .u8 c.lm0,iV .u8 c.lm1,iV .u8 c.lm2,iV .u8 c.lm3,iV .u8 c.lm4,iV .u8 c.lm5,iV .u8 c.wm0,iV .u8 c.wm1,iV .u8 c.wm2,iV .u8 c.wm3,iV .u8 c.wm4,iV .u8 c.wm5,iV .u8 c.hm0,iV .u8 c.hm1,iV .u8 c.hm2,iV .u8 c.hm3,iV .u8 c.hm4,iV .u8 c.hm5,iV .u32 c.lan,iV .u32 c.wan,iV .i64 c.bits,iV .i64 c.ms,iV .i64 c.mm,iV .i64 c.mc,iV .i64 c.mu,sL d xs.length C,iV .u32 c.dmz,Value.string c.uu] rfl) fun N=>?_
 refine Af rfl (Ba zeroValue65) fun l=>Ab 1<|Ai<|W.s ?_
 refine Aj [(1,0)]<|Al [0] An rfl<|W.block<|Dd [1,2,6,11,12,13] (fun(i:Nat)=>[iV .u8 a,iV .u16 b,pV l 0,sL d xs.length C,nV .i64 xs.length,nV .i64 i]) (fun(i:Nat)=>i≤xs.length∧ ∀j,j<i→Conf.isF (fun k=>xs.getD k fz) a b j=false) (fun(i:Nat)=>[[cb l Qq 65]]) (fun(i:Nat)=>xs.length-i) 0 Aa ⟨(Nat.zero_le _),(fun j D=>absurd D<|Nat.not_lt_zero j)⟩ (by rfl) fun i O P E f=>?_
 obtain⟨Q,h⟩:=E
 refine Aj []<|W.s ?_
 refine Ak (decide<|((i:Nat):Int)<(xs.length:Int)) Aa (fun F=>?_) fun G=>?_
 ·have q:=F;try simp only[zA]at q
  refine Ag<|A9<|W.s<|W.block<|W.s ?_
  refine Ac<|Ao (v:=pL<|some<|Cs d<|i*4) (Bb fun H r=>Aq (k:=.i64) (a:=d) (len:=xs.length) (cap:=C) (i:=(i:Int)) (sz:=4) rfl Aa Aa runUnderlying30 sizeOf65 Ae Ae<|(o.mem0 r).here Tq)<|Ao (v:=aV<|L8<|xs.getD i fz) (Ys.ldN (a:=Cs d<|i*4) (vs:=(L8<|xs.getD i fz)) rfl Aa isAgg65 sizeOf65 rfl fun H r=>(o.mem0 r).ldN<|Db (g:=fwv) (sz:=4) (fun _=>rfl) fz (xs:=xs) (k:=i) Ae)<|Af rfl (Ba zeroValue65) fun I=>Af rfl (A0 I 0 0 0 (L8<|xs.getD i fz) sizeOf65 rfl rfl) fun _=>?_
  refine Ai<|Av<|A5 5 [(0,0)] ?_
  refine Da 4 (((xs.getD i fz).proto)==a) (fun _=>Gs.z [(0,0)])<|Ao (v:=bV<|(((xs.getD i fz).proto)==a)&&(((xs.getD i fz).port)==b)) (B9 (e:=((xs.getD i fz).proto)==a) (b:=((xs.getD i fz).port)==b) rfl Aa Aa Aa)<|Ai ?_
  refine Ak ((((xs.getD i fz).proto)==a)&&(((xs.getD i fz).port)==b)) Aa (fun t=>?_) fun u=>?_
  ·have x:=t;try simp only[zA]at x
   refine Av<|A5 1 [(0,0)]<|Af rfl (A0 l 0 1 0 (L8<|xs.getD i fz) sizeOf65 rfl rfl) fun _=>Ab 1 ?_
   refine Ai<|Al [1] An rfl<|Am rfl<|L1 rfl (Bu l 0 0 0 (L8<|xs.getD i fz) isAgg65 sizeOf65) (Ar<|bV true) (by clear f;unfold Eb C0;rw[Conf.find_some _ a b xs.length i Ae h (show Conf.isF (fun k=>xs.getD k fz) a b i=true from t)];rfl)
  ·have A:=u;try simp only[zA]at A
   refine Ag<|A9<|Ac<|Bw (((i+1):Nat):Int) (i:Int) 1<|Ab 1 ?_
   refine Ay ?_
   refine fun H r=>f (i+1) _ H Ae ⟨Ae,(fun j D=>(Nat.lt_succ_iff_lt_or_eq.1 D).elim (h j) fun J=>by subst J;exact u)⟩ ?_<|r.pick [1] An rfl
   kernel_rfl
 ·have B:=G;try simp only[zA]at B
  refine Cm<|A9<|Av<|Ab 1 ?_
  refine Af rfl (A0 l 0 0 0 Qq sizeOf65 rfl rfl) fun _=>Ab 1<|Ai<|Am rfl<|L1 rfl (Bu l 0 0 0 zl5 isAgg65 sizeOf65) (Ar<|bV false)<|by clear f;unfold Eb C0;rw[Conf.find_none _ a b xs.length (fun j D=>h j Ae)];rfl
def Uo{α:Type}(p:α→Bool)(xs:List α):Int:=bif xs.any p then(xs.findIdx p:Int)else-1
theorem Aia{α:Type}{p:α→Bool}(d:α){xs:List α}(h: ∀j,j<xs.length→p (xs.getD j d)=false):Uo p xs= -1:=by
  have:xs.any p=false:=by
    rw[List.any_eq_false]
    intro x c
    obtain⟨j,b,rfl⟩:=List.getElem_of_mem c
    have:=h j b
    rw[List.getD_eq_getElem?_getD,List.getElem?_eq_getElem b]at this
    simpa using this
  unfold Uo;rw[this];rfl
theorem Adz{α:Type}{p:α→Bool}(d:α){xs:List α}{i:Nat}(b:i<xs.length)(e: ∀j,j<i→p (xs.getD j d)=false)(h:p (xs.getD i d)=true):Uo p xs=(i:Int):=by
  have g: ∀j (c:j<xs.length),xs.getD j d=xs[j]:=fun j c=>by rw[List.getD_eq_getElem?_getD,List.getElem?_eq_getElem c];rfl
  have f:xs.any p=true:=List.any_eq_true.2 ⟨xs[i],List.getElem_mem b,by rw[←g i b];exact h⟩
  unfold Uo;rw[f]
  show(xs.findIdx p:Int)=_
  congr 1
  rw[List.findIdx_eq b]
  exact⟨by rw[←g i b];exact h,fun j c=>by rw[←g j Ae];exact e j c⟩
theorem Ad0{α:Type}(p:α→Bool)(xs:List α):decide (Uo p xs≥0)=xs.any p:=by
  unfold Uo
  cases xs.any p
  · rfl
  · simp
structure NAt(k:NK)(s:NS)(w:World):Prop where
  nat:At w (some ⟨k.nb,0,none⟩) (C3 k s)
  ms:At w s.gm.a (mm Jc s.p.ms)
  fx:At w k.gf.a (mm fwv k.fx)
  atS:At w (some ⟨k.ts,0,none⟩) [Value.slice s.gs.a s.p.xs.length s.gs.cap,Value.int .i64 k.mo,Value.func (.func 31) #[] #[]]
  atN:At w (some ⟨k.ti,0,none⟩) [Value.slice s.gi.a s.p.ys.length s.gi.cap,Value.int .i64 k.mo,Value.func (.func 35) #[] #[]]
  atD:At w (some ⟨k.te,0,none⟩) [Value.slice s.ge.a s.p.zs.length s.ge.cap,Value.int .i64 k.mo,Value.func (.func 33) #[] #[]]
  xs:At w s.gs.a (mm Gk s.p.xs)
  ys:At w s.gi.a (mm Jf s.p.ys)
  zs:At w s.ge.a (mm Gp s.p.zs)
  ent: ∀(j b:Nat) (e:SesE),s.p.es[j]? =some (b,e)→At w (some ⟨b,0,none⟩) (Ac0 e)
theorem Tf{w0 w:World}{M:List Nat}{LL:List (List Blk)}{k:NK}{s:NS}{i:Nat}(h:Mem w0 M LL w)(b:LL[i]? =some (NG k s))(ok:NOk k s):NAt k s w:=
  ⟨Adn h b,NG.ms h b ok,NG.fx h b ok,Fv h b,Ado h b,Lr h b,NG.xs h b ok,NG.ys h b ok,NG.zs h b ok,fun _ _ _ c=>NG.ent h b c⟩
theorem Aqz{k:NK}{s:NS}{w:World}(b:NAt k s w):NAt k s w:=b
def Wx(pr b:Int)(m:Mpg):Bool:=(m.proto==pr)&&(m.ext==b)
def Ma(ms:List Mpg)(fx:List Conf.Fwd)(pr b:Int):Bool:=Eb fx pr b||ms.any (Wx pr b)
def hoM(e:SesE)(m:Mpg):Bool:=((((m.proto==e.pr)&&(m.ext==e.ext))&&(m.host==e.src))&&(m.to==e.frm))&&((m.remote==0)||(m.remote==e.dst))
def Mb(ms:List Mpg)(fx:List Conf.Fwd)(e:SesE):Bool:=bif e.given then !Ma ms fx e.pr e.ext else(ms.any (hoM e)||((Eb fx e.pr e.ext&&((C0 fx e.pr e.ext).host==e.src))&&((C0 fx e.pr e.ext).dest==e.frm)))
theorem Xt{α:Type}{q:α→Bool}(d:α){xs:List α}(h: ∀j,j<xs.length→q (xs.getD j d)=false):xs.any q=false:=by
  rw[List.any_eq_false]
  intro x c
  obtain⟨j,b,rfl⟩:=List.getElem_of_mem c
  have:=h j b
  rw[List.getD_eq_getElem?_getD,List.getElem?_eq_getElem b]at this
  simpa using this
theorem Xu{α:Type}{q:α→Bool}(d:α){xs:List α}{i:Nat}(b:i<xs.length)(h:q (xs.getD i d)=true):xs.any q=true:=by
  rw[List.getD_eq_getElem?_getD,List.getElem?_eq_getElem b]at h
  exact List.any_eq_true.2 ⟨_,List.getElem_mem b,h⟩
def Ed(e:SesE):Ci:=(e.pr,e.src,e.dst,e.frm,e.dto)
def P4(x:Nat×SesE):Ci×Option Nat:=(Ed x.2,some x.1)
abbrev Cq:SesE:=⟨0,0,0,0,0,0,0,false,false,false,false,false,false,0,false⟩
def knQ(f:Ci)(x:Nat×SesE):Bool:=(((x.2.pr==f.1)&&(x.2.ext==f.2.2.2.2))&&(x.2.dst==f.2.1))&&(x.2.dto==f.2.2.2.1)
def Mc(f:Ci)(es:List (Nat×SesE)):Option (Nat×SesE):=es.find? (knQ f)
theorem Xv{es:List (Nat×SesE)}{xs:List (Ci×Option Nat)}(h:xs=es.map P4){i:Nat}(d:i<xs.length):i<es.length∧ ∃b e,es[i]? =some (b,e)∧es.getD i (0,Cq)=(b,e)∧xs.getD i dS=(Ed e,some b):=by
  subst h
  have c:i<es.length:=by simpa using d
  refine⟨c,es[i].1,es[i].2,List.getElem?_eq_getElem c,?_,?_⟩
  · rw[List.getD_eq_getElem?_getD,List.getElem?_eq_getElem c];rfl
  · rw[List.getD_eq_getElem?_getD,List.getElem?_map,List.getElem?_eq_getElem c];rfl
theorem Ao5(m:Mpg)(pr c:Int)(f b2:Nat)(w:World)(h:At w (some ⟨f,0,none⟩) [.int .u8 pr])(i:At w (some ⟨b2,0,none⟩) [.int .u16 c]):Calls prog 123 #[aV (K0 m),pV f 0,pV b2 0] w (Df w (.bool (Wx pr c m))):=by
 refine Ap (M:=[]) (LL:=[]) (n:=15) func123 rfl rfl A7 (Mem.refl _)<|W.s ?_
 refine Ac<|Af rfl (Bx (K0 m) rfl) fun l=>?_
 refine Ab 1<|Ai<|Av ?_
 refine A5 2 [(0,0)]<|Ao (Ys.ld (a:=⟨f,0,none⟩) rfl Aa isAgg5 fun j g=>by have d:=(h.mem0 g).ld (q:=0) (v:=iV .u8 pr) rfl;rw[Be]at d;exact d)<|Ab 2<|Da 4 (m.proto==pr) (fun _=>Gs.m 2 [(0,0)]<|Gs.y (v:=iV .u16 c) (Ys.ld (a:=⟨b2,0,none⟩) rfl Aa isAgg22 fun j g=>by have d:=(i.mem0 g).ld (q:=0) (v:=iV .u16 c) rfl;rw[Be]at d;exact d)<|Gs.z [])<|Ao (v:=bV<|(m.proto==pr)&&(m.ext==c)) (B9 (e:=m.proto==pr) (b:=m.ext==c) rfl Aa Aa Aa) ?_
 refine Ab 1<|Ai<|Al [] An rfl<|Am rfl<|D7 rfl (Ar<|bV<|(m.proto==pr)&&(m.ext==c)) rfl
theorem Ao6(ms:List Mpg)(a:Option Addr)(cap:Nat)(pr d:Int)(q b2:Nat)(w:World)(e:At w a (mm Jc ms))(G:ms.length≤100000)(D:At w (some ⟨q,0,none⟩) [.int .u8 pr])(E:At w (some ⟨b2,0,none⟩) [.int .u16 d]):Calls prog 165 #[sL a ms.length cap,Value.func (.func 123) #[] #[pV q 0,pV b2 0]] w (Df w (.int .i64 (Uo (Wx pr d) ms))):=by
 refine Ap (M:=[]) (LL:=[]) (n:=19) func165 rfl rfl A7 (Mem.refl _)<|Aj []<|W.s<|Aj []<|W.block ?_
 refine Dd [0,1,7,8] (fun(i:Nat)=>[sL a ms.length cap,Value.func (.func 123) #[] #[pV q 0,pV b2 0],nV .i64 ms.length,nV .i64 i]) (fun(i:Nat)=>i≤ms.length∧ ∀j,j<i→Wx pr d (ms.getD j Ax)=false) (fun(i:Nat)=>[]) (fun(i:Nat)=>ms.length-i) 0 Aa ⟨(Nat.zero_le _),(fun j r=>absurd r<|Nat.not_lt_zero j)⟩ (by rfl) fun i H I u b=>?_
 obtain⟨J,c⟩:=u
 refine Aj []<|W.s ?_
 refine Ak (decide<|((i:Nat):Int)<(ms.length:Int)) Aa (fun x=>?_) fun A=>?_
 ·have f:=x;try simp only[zA]at f
  refine Ag<|A9<|W.s<|W.block<|Aj [] ?_
  refine Av<|Ab 3<|Ao (v:=pL<|some<|Cs a<|i*5) (Bb fun t h=>Aq (k:=.i64) (a:=a) (len:=ms.length) (cap:=cap) (i:=(i:Int)) (sz:=5) rfl Aa Aa runUnderlying56 sizeOf26 Ae Ae<|(e.mem0 h).here Vj)<|Ao (v:=aV<|K0<|ms.getD i Ax) (Ys.ldN (a:=Cs a<|i*5) (vs:=(K0<|ms.getD i Ax)) rfl Aa isAgg26 sizeOf26 rfl fun t h=>(e.mem0 h).ldN<|Db (g:=Jc) (sz:=5) (fun _=>rfl) Ax (xs:=ms) (k:=i) Ae) ?_
  refine Cb (v:=bV<|Wx pr d<|ms.getD i Ax) (A8 fun t l=>(Ao5 (ms.getD i Ax) pr d q b2 _ (D.mem0 l)<|E.mem0 l))<|Ai ?_
  refine Ak (Wx pr d<|ms.getD i Ax) Aa (fun B=>?_) fun C=>?_
  ·refine Aj []<|Am rfl<|D7 rfl (Ar<|nV .i64 i)<|by clear b;exact Ad (Adz Ax Ae c B).symm
  ·refine Ag<|A9<|Ac<|Bw (((i+1):Nat):Int) (i:Int) 1<|Ab 1 ?_
   refine Ay ?_
   refine fun t h=>b (i+1) _ t Ae ⟨Ae,(fun j r=>(Nat.lt_succ_iff_lt_or_eq.1 r).elim (c j) fun F=>by subst F;exact C)⟩ ?_ h
   kernel_rfl
 ·have o:=A;try simp only[zA]at o
  refine Cm<|A9<|Aj []<|Am rfl<|D7 rfl (Ar<|iV .i64<|-1)<|by clear b;exact Ad (Aia Ax fun j r=>c j Ae).symm
theorem Ao7(ms:List Mpg)(a:Option Addr)(cap:Nat)(pr c:Int)(d b2:Nat)(w:World)(e:At w a (mm Jc ms))(h:ms.length≤100000)(f:At w (some ⟨d,0,none⟩) [.int .u8 pr])(g:At w (some ⟨b2,0,none⟩) [.int .u16 c]):Calls prog 122 #[sL a ms.length cap,Value.func (.func 123) #[] #[pV d 0,pV b2 0]] w (Df w (.bool (ms.any (Wx pr c)))):=by
 refine Ap (M:=[]) (LL:=[]) (n:=9) func122 rfl rfl A7 (Mem.refl _)<|Aj []<|Av<|Ab 2 ?_
 refine Cb (v:=iV .i64<|Uo (Wx pr c) ms) (A8 fun i b=>(Ao6 ms a cap pr c d b2 _ (e.mem0 b) Ey (f.mem0 b)<|g.mem0 b))<|Ab 2<|Ai<|Am rfl<|D7 rfl (Ar<|bV<|decide<|(Uo (Wx pr c) ms)≥0)<|by exact B2 (Ad0 _ _)
abbrev Qr(k:NK):List Value:=(ckL k)
abbrev Qs(k:NK)(pr b:Int):List Value:=(L8 (C0 k.fx pr b))
abbrev Qt:List Value:=zl5
theorem Up(k:NK)(s:NS)(pr d:Int)(w:World)(u:NAt k s w)(ok:NOk k s):Calls prog 74 #[pL (some ⟨k.nb,0,none⟩),iV .u8 pr,iV .u16 d] w (Df w (.bool (Ma s.p.ms k.fx pr d))):=by
 obtain⟨D,E,F,B,G⟩:=NOk.len ok
 refine Ap (M:=[]) (LL:=[]) (n:=28) func74 rfl rfl A7 (Mem.refl _)<|W.s ?_
 refine Ac<|Af rfl (E9 (v:=iV .u8 pr) (cs:=[iV .u8 pr]) rfl rfl Aa rfl) fun h=>?_
 refine Af rfl (E9 (v:=iV .u16 d) (cs:=[iV .u16 d]) rfl rfl Aa rfl) fun l=>Ab 1<|Ai<|W.s ?_
 refine E5 [0,1,2,3,4,5,7,8,9,12] (Mem w [] [[cb l [iV .u16 d] 22],[cb h [iV .u8 pr] 5]]) Aa Aa (fun _ _ f=>f.drawn _) ?_
 refine Ef (w0:=w) (M:=[]) [0,4,5,7,17,18] (fun(r:Nat)=>[pL (some ⟨k.nb,0,none⟩),pV h 0,pV l 0,pV r 0,aV<|Qs k pr d,bV (Eb k.fx pr d)]) (fun(r:Nat)=>True) (fun(r:Nat)=>[[cb r Qt 65],[cb l [iV .u16 d] 22],[cb h [iV .u8 pr] 5]]) 2 #[true,true,true,true,true,true,true,true,true,true,true,false,false] (fun r H I=>?_) fun JD6=>?_
 ·obtain⟨o,rfl⟩: ∃J,J=r:=⟨_,rfl⟩
  refine A6 (i:=11) Aa<|Cp rfl rfl (A0 o 0 0 0 (Qs k pr d) sizeOf65 rfl rfl) (Az [1,2]) fun _=>?_
  refine Wa.ys (v:=bV<|Eb k.fx pr d) (i:=12) Aa Aa Aa Aa (fun _ f=>f.pick [1,2] An rfl) rfl rfl rfl (Ys.p)<|Ej Aa<|A9<|Al [1,2] An rfl<|W.s ?_
  refine Ac<|Ab 2<|C1 6 (Eb k.fx pr d) (fun C=>Gs.m 3 []<|Gs.y (v:=sL s.gm.a s.p.ms.length s.gm.cap) (Ys.ld (a:=⟨k.nb,28,none⟩) rfl Aa isAgg56 fun A f=>by have x:=(u.nat.mem0 f).ld (q:=28) ((Cf rfl An).trans rfl);rw[Be]at x;exact x)<|Gs.m 1 []<|Gs.k (v:=bV<|s.p.ms.any<|Wx pr d) (A8 fun A g=>(Ao7 s.p.ms s.gm.a s.gm.cap pr d h l _ (u.ms.mem0 g) Ey (A4 (i:=1) (j:=0) (t:=5) (b:=h) g rfl rfl)<|A4 (i:=0) (j:=0) (t:=22) (b:=l) g rfl rfl)) Gs.nil)<|Ao (v:=bV<|(Eb k.fx pr d)||(s.p.ms.any<|Wx pr d)) (Ce (e:=Eb k.fx pr d) (b:=s.p.ms.any<|Wx pr d) rfl Aa Aa Aa)<|Ab 1 ?_
  refine Ai<|Al [] An rfl<|Am rfl<|D7 rfl (Ar<|bV<|(Eb k.fx pr d)||(s.p.ms.any<|Wx pr d)) rfl
 ·refine Wa.ys (v:=pL<|some ⟨k.nb,0,none⟩) (i:=0) Aa Aa Aa Aa (fun _ f=>f) rfl rfl rfl (Ys.p)<|Wa.ys (v:=pL<|some ⟨k.nb,0,none⟩) (i:=1) Aa Aa Aa Aa (fun _ f=>f) rfl rfl rfl (Ys.p)<|Wa.ys (v:=pL<|some ⟨k.nb,0,none⟩) (i:=2) Aa Aa Aa Aa (fun _ f=>f) rfl rfl rfl (Ys.p)<|Wa.ys (v:=aV<|Qr k) (i:=3) Aa Aa Aa Aa (fun _ f=>f) rfl rfl rfl (Ys.ldN (a:=⟨k.nb,0,none⟩) (vs:=(Qr k)) rfl Aa isAgg32 sizeOf32 rfl fun A f=>by have x:=(u.nat.mem0 f).ldN (q:=0) (vs:=(Qr k)) (N2);rw[Be]at x;exact x)<|Wa.ys (i:=4) Aa Aa Aa Aa (fun _ f=>f) rfl rfl rfl (Cn h 0 1 0 isAgg5) ?_
  refine Wa.ys (i:=5) Aa Aa Aa Aa (fun _ f=>f) rfl rfl rfl (Cn l 0 0 0 isAgg22) ?_
  refine C9 (i:=6) (j:=10) Aa ?_ ?_
  ·refine Wo.yc (v:=Value.tuple #[aV (Qs k pr d),bV (Eb k.fx pr d)]) rfl rfl rfl (A8 fun A g=>(I9 (⟨k.c.lm0,k.c.lm1,k.c.lm2,k.c.lm3,k.c.lm4,k.c.lm5,k.c.wm0,k.c.wm1,k.c.wm2,k.c.wm3,k.c.wm4,k.c.wm5,k.c.hm0,k.c.hm1,k.c.hm2,k.c.hm3,k.c.hm4,k.c.hm5,k.c.lan,k.c.wan,k.c.bits,k.c.ms,k.c.mm,k.c.mc,k.c.mu,k.gf.a,k.fx.length,k.gf.cap,k.c.dmz,k.c.uu⟩:Conf.Cfg) k.fx k.gf.a k.gf.cap pr d _ (u.fx.mem0 g) D1)) (.inr fun _ f=>f)<|Wa.ys (v:=Value.tuple #[aV (Qs k pr d),bV (Eb k.fx pr d)]) (i:=7) Aa Aa Aa Aa (fun _ f=>f) rfl rfl rfl (Ys.p)<|Wa.ys (v:=aV<|Qs k pr d) (i:=8) Aa Aa Aa Aa (fun _ f=>f) rfl rfl rfl (Ys.p)<|Wa.ys (v:=bV<|Eb k.fx pr d) (i:=9) Aa Aa Aa Aa (fun _ f=>f) rfl rfl rfl (Ys.p)<|A6 (i:=10) Aa ?_
   refine Cp rfl rfl (Ba zeroValue65) (Az [1,2]) fun o=>?_
   exact Ck [0,4,5,7,17,18] [pL (some ⟨k.nb,0,none⟩),pV h 0,pV l 0,pV o 0,aV<|L8<|C0 k.fx pr d,bV (Eb k.fx pr d)] #[true,true,true,true,true,true,true,true,true,true,true,false,false] (JD6 o trivial) Aa Aa fun _ f=>f
  ·refine Cp rfl rfl (Ba zeroValue65) (Az [1,2]) fun o=>A6 (i:=6) Aa<|Wo.yc (v:=Value.tuple #[aV (Qs k pr d),bV (Eb k.fx pr d)]) rfl rfl rfl (A8 fun A g=>(I9 (⟨k.c.lm0,k.c.lm1,k.c.lm2,k.c.lm3,k.c.lm4,k.c.lm5,k.c.wm0,k.c.wm1,k.c.wm2,k.c.wm3,k.c.wm4,k.c.wm5,k.c.hm0,k.c.hm1,k.c.hm2,k.c.hm3,k.c.hm4,k.c.hm5,k.c.lan,k.c.wan,k.c.bits,k.c.ms,k.c.mm,k.c.mc,k.c.mu,k.gf.a,k.fx.length,k.gf.cap,k.c.dmz,k.c.uu⟩:Conf.Cfg) k.fx k.gf.a k.gf.cap pr d _ (u.fx.mem0 g) D1)) (Ee [1,2])<|Wa.ys (v:=Value.tuple #[aV (Qs k pr d),bV (Eb k.fx pr d)]) (i:=7) Aa Aa Aa Aa (fun _ f=>f.pick [1,2] An rfl) rfl rfl rfl (Ys.p)<|Wa.ys (v:=aV<|Qs k pr d) (i:=8) Aa Aa Aa Aa (fun _ f=>f.pick [1,2] An rfl) rfl rfl rfl (Ys.p) ?_
   refine Wa.ys (v:=bV<|Eb k.fx pr d) (i:=9) Aa Aa Aa Aa (fun _ f=>f.pick [1,2] An rfl) rfl rfl rfl (Ys.p) ?_
   exact Ck [0,4,5,7,17,18] [pL (some ⟨k.nb,0,none⟩),pV h 0,pV l 0,pV o 0,aV<|L8<|C0 k.fx pr d,bV (Eb k.fx pr d)] #[true,true,true,true,true,true,true,true,true,true,true,false,false] (JD6 o trivial) Aa Aa fun _ f=>f
theorem NAt.mem0{k:NK}{s:NS}{w d:World}{LL:List (List Blk)}(c:NAt k s w)(h:Mem w [] LL d):NAt k s d:=
  ⟨c.nat.mem0 h,c.ms.mem0 h,c.fx.mem0 h,c.atS.mem0 h,c.atN.mem0 h,c.atD.mem0 h,c.xs.mem0 h,c.ys.mem0 h,c.zs.mem0 h,fun j b e f=>(c.ent j b e f).mem0 h⟩
abbrev Qu(e:SesE)(b:Nat):List Blk:=[cb b (seF e) 47]
abbrev Qv(k:NK):List Value:=(ckL k)
abbrev Qw(e:SesE)(k:NK):List Value:=(L8 (C0 k.fx e.pr e.ext))
abbrev Qx(e:SesE):List Value:=(seF e)
abbrev Qy:List Value:=zl5
theorem Aib(k:NK)(s:NS)(e:SesE)(xb:Nat)(w:World)(G:NAt k s w)(ok:NOk k s)(I:At w (some ⟨xb,0,none⟩) (Ac0 e)):Calls prog 39 #[pL (some ⟨k.nb,0,none⟩),pV xb 0] w (Df w (.bool (Mb s.p.ms k.fx e))):=by
 obtain⟨a0,a1,a2,am,a3⟩:=NOk.len ok
 refine Ap (M:=[]) (LL:=[]) (n:=110) func39 rfl rfl A7 (Mem.refl _)<|Aj []<|Av<|Ab 4 ?_
 refine Ao (v:=aV<|Qx e) (Ys.ldN (a:=⟨xb,0,none⟩) (vs:=(Qx e)) rfl Aa isAgg47 sizeOf47 rfl fun o d=>by have f:=(I.mem0 d).ldN (q:=0) (vs:=(Qx e)) (Lz (sz:=5) rfl);rw[Be]at f;exact f)<|Af rfl (Ba zeroValue47) fun h=>?_
 refine Af rfl (A0 h 0 0 0 (Qx e) sizeOf47 rfl rfl) fun _=>Ai<|W.s<|W.s ?_
 refine Ac<|Ab 3<|Ao (Ys.ld (a:=⟨xb,14,none⟩) rfl Aa isAgg4 fun o d=>by have f:=(I.mem0 d).ld (q:=14) (v:=bV e.given) rfl;rw[Be]at f;exact f)<|Ai ?_
 refine Ak (e.given) Aa (fun h7=>?_) fun h8=>?_
 ·refine W.s<|C5 [(0,true),(1,true),(2,true),(3,false),(4,false),(5,false),(6,false),(7,false),(8,false),(9,false),(10,false)] [0,1,2]<|Bs 7 [(0,0)]<|Gg (v:=iV .u16 e.ext) rfl (Ys.ld (a:=⟨xb,5,none⟩) rfl Aa isAgg22 fun o d=>by have f:=(I.mem0 d).ld (q:=5) (v:=iV .u16 e.ext) rfl;rw[Be]at f;exact f)<|Ec (v:=bV<|Ma s.p.ms k.fx e.pr e.ext) rfl (A8 fun o x=>(Up k s e.pr e.ext _ (G.mem0 x) ok)) ?_
  refine Bs 2 []<|Cl<|Al [] An rfl<|Am rfl<|D7 rfl (Ar<|bV<|!(Ma s.p.ms k.fx e.pr e.ext))<|by unfold Mb;rw[h7];rfl
 ·refine Ag<|A9<|W.s<|Av ?_
  refine Ab 3<|Ao (v:=sL s.gm.a s.p.ms.length s.gm.cap) (Ys.ld (a:=⟨k.nb,28,none⟩) rfl Aa isAgg56 fun o d=>by have f:=(G.nat.mem0 d).ld (q:=28) ((Cf rfl An).trans rfl);rw[Be]at f;exact f)<|Ab 2<|Ai ?_
  refine W.block<|Dd [0,1,5,32,33,34] (fun(i:Nat)=>[pL (some ⟨k.nb,0,none⟩),pV xb 0,pV h 0,sL s.gm.a s.p.ms.length s.gm.cap,nV .i64 s.p.ms.length,nV .i64 i]) (fun(i:Nat)=>i≤s.p.ms.length∧ ∀j,j<i→hoM e (s.p.ms.getD j Ax)=false) (fun(i:Nat)=>[Qu e h]) (fun(i:Nat)=>s.p.ms.length-i) 0 Aa ⟨(Nat.zero_le _),(fun j hj=>absurd hj<|Nat.not_lt_zero j)⟩ (by rfl) fun i a6 a7 J A=>?_
  obtain⟨hi,L⟩:=J
  refine Aj []<|W.s ?_
  refine Ak (decide<|((i:Nat):Int)<(s.p.ms.length:Int)) Aa (fun ak=>?_) fun al=>?_
  ·have N:=ak;try simp only[zA]at N
   refine Ag<|A9<|W.s<|W.block<|W.s ?_
   refine Ac<|Ao (v:=pL<|some<|Cs s.gm.a<|i*5) (Bb fun o d=>Aq (k:=.i64) (a:=s.gm.a) (len:=s.p.ms.length) (cap:=s.gm.cap) (i:=(i:Int)) (sz:=5) rfl Aa Aa runUnderlying56 sizeOf26 Ae Ae<|(G.ms.mem0 d).here Vj)<|Ao (v:=aV<|K0<|s.p.ms.getD i Ax) (Ys.ldN (a:=Cs s.gm.a<|i*5) (vs:=(K0<|s.p.ms.getD i Ax)) rfl Aa isAgg26 sizeOf26 rfl fun o d=>(G.ms.mem0 d).ldN<|Db (g:=Jc) (sz:=5) (fun _=>rfl) Ax (xs:=s.p.ms) (k:=i) Ae)<|Af rfl (Ba zeroValue26) fun l=>Af rfl (A0 l 0 0 0 (K0<|s.p.ms.getD i Ax) sizeOf26 rfl rfl) fun _=>?_
   refine Ai<|W.s<|C5 [(0,true),(1,true),(2,false),(3,false),(4,false),(5,false),(6,true),(7,true),(8,false),(9,false),(10,false),(11,false),(12,false),(13,false),(14,false),(15,false),(16,true),(17,true),(18,false),(19,false),(20,false),(21,false),(22,false),(23,true),(24,true),(25,false),(26,false),(27,false),(28,false),(29,false),(30,false),(31,false),(32,false),(33,false),(34,true),(35,true),(36,false),(37,false),(38,false),(39,false),(40,false)] [0,1,6,7,16,17,23,24,34,35]<|Bs 6 [(0,0),(1,0)] ?_
   refine Bg (v:=pV l 1) (((s.p.ms.getD i Ax).proto)==e.pr) rfl (Bv rfl Aa) rfl (fun ao=>?_) ?_
   ·exact Ys.p
   refine Bg (v:=iV .u16<|(s.p.ms.getD i Ax).ext) (((s.p.ms.getD i Ax).proto)==e.pr) rfl (Bv rfl Aa) rfl (fun O=>?_) ?_
   ·refine Bh (t:=44) (v0:=pV l 1) (lz (g:=((s.p.ms.getD i Ax).proto)==e.pr) (u:=undef) O Aa) ?_
    exact Cn l 1 0 0 isAgg22
   refine Bp (v:=pV xb 0) (((s.p.ms.getD i Ax).proto)==e.pr) rfl (Bv rfl Aa) rfl (fun ap=>?_) (.inr fun _ d=>d) ?_
   ·refine Ys.yc ?_
    exact Ys.p
   refine Bp (v:=pV xb 0) (((s.p.ms.getD i Ax).proto)==e.pr) rfl (Bv rfl Aa) rfl (fun P=>?_) (.inr fun _ d=>d) ?_
   ·refine Ys.yc<|Bh (t:=46) (v0:=pV xb 0) (lz (g:=((s.p.ms.getD i Ax).proto)==e.pr) (u:=undef) P Aa) ?_
    exact Ys.p
   refine Bp (v:=pV xb 0) (((s.p.ms.getD i Ax).proto)==e.pr) rfl (Bv rfl Aa) rfl (fun Q=>?_) (.inr fun _ d=>d) ?_
   ·refine Ys.yc<|Bh (t:=47) (v0:=pV xb 0) (lz (g:=((s.p.ms.getD i Ax).proto)==e.pr) (u:=undef) Q Aa) ?_
    exact Ys.p
   refine Bp (v:=pV xb 5) (((s.p.ms.getD i Ax).proto)==e.pr) rfl (Bv rfl Aa) rfl (fun R=>?_) (.inr fun _ d=>d) ?_
   ·refine Ys.yc<|Bh (t:=48) (v0:=pV xb 0) (lz (g:=((s.p.ms.getD i Ax).proto)==e.pr) (u:=undef) R Aa) ?_
    exact Ys.p
   refine Bp (v:=iV .u16 e.ext) (((s.p.ms.getD i Ax).proto)==e.pr) rfl (Bv rfl Aa) rfl (fun S=>?_) (.inr fun _ d=>d) ?_
   ·refine Ys.yc<|Bh (t:=49) (v0:=pV xb 5) (lz (g:=((s.p.ms.getD i Ax).proto)==e.pr) (u:=undef) S Aa) ?_
    exact Ys.ld (a:=⟨xb,5,none⟩) rfl Aa isAgg22 fun o d=>by have f:=(I.mem0 d).ld (q:=5) (v:=iV .u16 e.ext) rfl;rw[Be]at f;exact f
   refine Bp (v:=bV<|((s.p.ms.getD i Ax).ext)==e.ext) (((s.p.ms.getD i Ax).proto)==e.pr) rfl (Bv rfl Aa) rfl (fun B=>?_) (.inr fun _ d=>d) ?_
   ·refine Ys.yc<|Bh (t:=45) (v0:=iV .u16<|(s.p.ms.getD i Ax).ext) (lz (g:=((s.p.ms.getD i Ax).proto)==e.pr) (u:=undef) B Aa)<|Bh (t:=50) (v0:=iV .u16 e.ext) (lz (g:=((s.p.ms.getD i Ax).proto)==e.pr) (u:=undef) B Aa) ?_
    exact Ys.p
   refine Gg (v:=bV<|(((s.p.ms.getD i Ax).proto)==e.pr)&&(((s.p.ms.getD i Ax).ext)==e.ext)) rfl (B9 (e:=((s.p.ms.getD i Ax).proto)==e.pr) (b:=((s.p.ms.getD i Ax).ext)==e.ext) rfl Aa Aa Aa)<|Bs 1 [] ?_
   refine Bg (v:=pV l 4) ((((s.p.ms.getD i Ax).proto)==e.pr)&&(((s.p.ms.getD i Ax).ext)==e.ext)) rfl (Bv rfl Aa) rfl (fun aq=>?_) ?_
   ·exact Ys.p
   refine Bg (v:=iV .u32<|(s.p.ms.getD i Ax).host) ((((s.p.ms.getD i Ax).proto)==e.pr)&&(((s.p.ms.getD i Ax).ext)==e.ext)) rfl (Bv rfl Aa) rfl (fun T=>?_) ?_
   ·refine Bh (t:=54) (v0:=pV l 4) (lz (g:=(((s.p.ms.getD i Ax).proto)==e.pr)&&(((s.p.ms.getD i Ax).ext)==e.ext)) (u:=undef) T Aa) ?_
    exact Cn l 4 0 0 isAgg24
   refine Bp (v:=pV h 1) ((((s.p.ms.getD i Ax).proto)==e.pr)&&(((s.p.ms.getD i Ax).ext)==e.ext)) rfl (Bv rfl Aa) rfl (fun ar=>?_) (.inr fun _ d=>d) ?_
   ·refine Ys.yc ?_
    exact Ys.p
   refine Bp (v:=iV .u32 e.src) ((((s.p.ms.getD i Ax).proto)==e.pr)&&(((s.p.ms.getD i Ax).ext)==e.ext)) rfl (Bv rfl Aa) rfl (fun U=>?_) (.inr fun _ d=>d) ?_
   ·refine Ys.yc<|Bh (t:=56) (v0:=pV h 1) (lz (g:=(((s.p.ms.getD i Ax).proto)==e.pr)&&(((s.p.ms.getD i Ax).ext)==e.ext)) (u:=undef) U Aa) ?_
    exact Cn h 1 1 0 isAgg24
   refine Bp (v:=bV<|((s.p.ms.getD i Ax).host)==e.src) ((((s.p.ms.getD i Ax).proto)==e.pr)&&(((s.p.ms.getD i Ax).ext)==e.ext)) rfl (Bv rfl Aa) rfl (fun C=>?_) (.inr fun _ d=>d) ?_
   ·refine Ys.yc<|Bh (t:=55) (v0:=iV .u32<|(s.p.ms.getD i Ax).host) (lz (g:=(((s.p.ms.getD i Ax).proto)==e.pr)&&(((s.p.ms.getD i Ax).ext)==e.ext)) (u:=undef) C Aa)<|Bh (t:=57) (v0:=iV .u32 e.src) (lz (g:=(((s.p.ms.getD i Ax).proto)==e.pr)&&(((s.p.ms.getD i Ax).ext)==e.ext)) (u:=undef) C Aa) ?_
    exact Ys.p
   refine Gg (v:=bV<|((((s.p.ms.getD i Ax).proto)==e.pr)&&(((s.p.ms.getD i Ax).ext)==e.ext))&&(((s.p.ms.getD i Ax).host)==e.src)) rfl (B9 (e:=(((s.p.ms.getD i Ax).proto)==e.pr)&&(((s.p.ms.getD i Ax).ext)==e.ext)) (b:=((s.p.ms.getD i Ax).host)==e.src) rfl Aa Aa Aa)<|Bs 1 [] ?_
   refine Bg (v:=pV l 2) (((((s.p.ms.getD i Ax).proto)==e.pr)&&(((s.p.ms.getD i Ax).ext)==e.ext))&&(((s.p.ms.getD i Ax).host)==e.src)) rfl (Bv rfl Aa) rfl (fun au=>?_) ?_
   ·exact Ys.p
   refine Bg (v:=iV .u16<|(s.p.ms.getD i Ax).to) (((((s.p.ms.getD i Ax).proto)==e.pr)&&(((s.p.ms.getD i Ax).ext)==e.ext))&&(((s.p.ms.getD i Ax).host)==e.src)) rfl (Bv rfl Aa) rfl (fun V=>?_) ?_
   ·refine Bh (t:=61) (v0:=pV l 2) (lz (g:=((((s.p.ms.getD i Ax).proto)==e.pr)&&(((s.p.ms.getD i Ax).ext)==e.ext))&&(((s.p.ms.getD i Ax).host)==e.src)) (u:=undef) V Aa) ?_
    exact Cn l 2 0 0 isAgg22
   refine Bp (v:=pV h 3) (((((s.p.ms.getD i Ax).proto)==e.pr)&&(((s.p.ms.getD i Ax).ext)==e.ext))&&(((s.p.ms.getD i Ax).host)==e.src)) rfl (Bv rfl Aa) rfl (fun av=>?_) (.inr fun _ d=>d) ?_
   ·refine Ys.yc ?_
    exact Ys.p
   refine Bp (v:=iV .u16 e.frm) (((((s.p.ms.getD i Ax).proto)==e.pr)&&(((s.p.ms.getD i Ax).ext)==e.ext))&&(((s.p.ms.getD i Ax).host)==e.src)) rfl (Bv rfl Aa) rfl (fun X=>?_) (.inr fun _ d=>d) ?_
   ·refine Ys.yc<|Bh (t:=63) (v0:=pV h 3) (lz (g:=((((s.p.ms.getD i Ax).proto)==e.pr)&&(((s.p.ms.getD i Ax).ext)==e.ext))&&(((s.p.ms.getD i Ax).host)==e.src)) (u:=undef) X Aa) ?_
    exact Cn h 3 1 0 isAgg22
   refine Bp (v:=bV<|((s.p.ms.getD i Ax).to)==e.frm) (((((s.p.ms.getD i Ax).proto)==e.pr)&&(((s.p.ms.getD i Ax).ext)==e.ext))&&(((s.p.ms.getD i Ax).host)==e.src)) rfl (Bv rfl Aa) rfl (fun D=>?_) (.inr fun _ d=>d) ?_
   ·refine Ys.yc<|Bh (t:=62) (v0:=iV .u16<|(s.p.ms.getD i Ax).to) (lz (g:=((((s.p.ms.getD i Ax).proto)==e.pr)&&(((s.p.ms.getD i Ax).ext)==e.ext))&&(((s.p.ms.getD i Ax).host)==e.src)) (u:=undef) D Aa)<|Bh (t:=64) (v0:=iV .u16 e.frm) (lz (g:=((((s.p.ms.getD i Ax).proto)==e.pr)&&(((s.p.ms.getD i Ax).ext)==e.ext))&&(((s.p.ms.getD i Ax).host)==e.src)) (u:=undef) D Aa) ?_
    exact Ys.p
   refine Gg (v:=bV<|(((((s.p.ms.getD i Ax).proto)==e.pr)&&(((s.p.ms.getD i Ax).ext)==e.ext))&&(((s.p.ms.getD i Ax).host)==e.src))&&(((s.p.ms.getD i Ax).to)==e.frm)) rfl (B9 (e:=((((s.p.ms.getD i Ax).proto)==e.pr)&&(((s.p.ms.getD i Ax).ext)==e.ext))&&(((s.p.ms.getD i Ax).host)==e.src)) (b:=((s.p.ms.getD i Ax).to)==e.frm) rfl Aa Aa Aa)<|Bs 1 [] ?_
   refine Bp (v:=pV l 3) ((((((s.p.ms.getD i Ax).proto)==e.pr)&&(((s.p.ms.getD i Ax).ext)==e.ext))&&(((s.p.ms.getD i Ax).host)==e.src))&&(((s.p.ms.getD i Ax).to)==e.frm)) rfl (Bv rfl Aa) rfl (fun aw=>?_) (.inr fun _ d=>d) ?_
   ·refine Ys.yc ?_
    exact Ys.p
   refine Bp (v:=iV .u32<|(s.p.ms.getD i Ax).remote) ((((((s.p.ms.getD i Ax).proto)==e.pr)&&(((s.p.ms.getD i Ax).ext)==e.ext))&&(((s.p.ms.getD i Ax).host)==e.src))&&(((s.p.ms.getD i Ax).to)==e.frm)) rfl (Bv rfl Aa) rfl (fun Y=>?_) (.inr fun _ d=>d) ?_
   ·refine Ys.yc<|Bh (t:=68) (v0:=pV l 3) (lz (g:=(((((s.p.ms.getD i Ax).proto)==e.pr)&&(((s.p.ms.getD i Ax).ext)==e.ext))&&(((s.p.ms.getD i Ax).host)==e.src))&&(((s.p.ms.getD i Ax).to)==e.frm)) (u:=undef) Y Aa) ?_
    exact Cn l 3 0 0 isAgg24
   refine Bp (v:=bV<|((s.p.ms.getD i Ax).remote)==0) ((((((s.p.ms.getD i Ax).proto)==e.pr)&&(((s.p.ms.getD i Ax).ext)==e.ext))&&(((s.p.ms.getD i Ax).host)==e.src))&&(((s.p.ms.getD i Ax).to)==e.frm)) rfl (Bv rfl Aa) rfl (fun Z=>?_) (.inr fun _ d=>d) ?_
   ·refine Ys.yc<|Bh (t:=69) (v0:=iV .u32<|(s.p.ms.getD i Ax).remote) (lz (g:=(((((s.p.ms.getD i Ax).proto)==e.pr)&&(((s.p.ms.getD i Ax).ext)==e.ext))&&(((s.p.ms.getD i Ax).host)==e.src))&&(((s.p.ms.getD i Ax).to)==e.frm)) (u:=undef) Z Aa) ?_
    exact Ys.p
   refine Bp (v:=bV<|((s.p.ms.getD i Ax).remote)==0) ((((((s.p.ms.getD i Ax).proto)==e.pr)&&(((s.p.ms.getD i Ax).ext)==e.ext))&&(((s.p.ms.getD i Ax).host)==e.src))&&(((s.p.ms.getD i Ax).to)==e.frm)) rfl (Bv rfl Aa) rfl (fun aa=>?_) (.inr fun _ d=>d) ?_
   ·refine Ys.yc<|Bh (t:=70) (v0:=bV<|((s.p.ms.getD i Ax).remote)==0) (lz (g:=(((((s.p.ms.getD i Ax).proto)==e.pr)&&(((s.p.ms.getD i Ax).ext)==e.ext))&&(((s.p.ms.getD i Ax).host)==e.src))&&(((s.p.ms.getD i Ax).to)==e.frm)) (u:=undef) aa Aa) ?_
    exact Ys.p
   refine Bg (v:=pV l 3) (((((((s.p.ms.getD i Ax).proto)==e.pr)&&(((s.p.ms.getD i Ax).ext)==e.ext))&&(((s.p.ms.getD i Ax).host)==e.src))&&(((s.p.ms.getD i Ax).to)==e.frm))&& !(((s.p.ms.getD i Ax).remote)==0)) rfl (Dr rfl rfl Aa) rfl (fun ax=>?_) ?_
   ·exact Ys.p
   refine Bg (v:=iV .u32<|(s.p.ms.getD i Ax).remote) (((((((s.p.ms.getD i Ax).proto)==e.pr)&&(((s.p.ms.getD i Ax).ext)==e.ext))&&(((s.p.ms.getD i Ax).host)==e.src))&&(((s.p.ms.getD i Ax).to)==e.frm))&& !(((s.p.ms.getD i Ax).remote)==0)) rfl (Dr rfl rfl Aa) rfl (fun ab=>?_) ?_
   ·refine Bh (t:=72) (v0:=pV l 3) (lz (g:=((((((s.p.ms.getD i Ax).proto)==e.pr)&&(((s.p.ms.getD i Ax).ext)==e.ext))&&(((s.p.ms.getD i Ax).host)==e.src))&&(((s.p.ms.getD i Ax).to)==e.frm))&& !(((s.p.ms.getD i Ax).remote)==0)) (u:=undef) ab Aa) ?_
    exact Cn l 3 0 0 isAgg24
   refine Bp (v:=pV h 2) (((((((s.p.ms.getD i Ax).proto)==e.pr)&&(((s.p.ms.getD i Ax).ext)==e.ext))&&(((s.p.ms.getD i Ax).host)==e.src))&&(((s.p.ms.getD i Ax).to)==e.frm))&& !(((s.p.ms.getD i Ax).remote)==0)) rfl (Dr rfl rfl Aa) rfl (fun ay=>?_) (.inr fun _ d=>d) ?_
   ·refine Ys.yc ?_
    exact Ys.p
   refine Bp (v:=iV .u32 e.dst) (((((((s.p.ms.getD i Ax).proto)==e.pr)&&(((s.p.ms.getD i Ax).ext)==e.ext))&&(((s.p.ms.getD i Ax).host)==e.src))&&(((s.p.ms.getD i Ax).to)==e.frm))&& !(((s.p.ms.getD i Ax).remote)==0)) rfl (Dr rfl rfl Aa) rfl (fun ad=>?_) (.inr fun _ d=>d) ?_
   ·refine Ys.yc<|Bh (t:=74) (v0:=pV h 2) (lz (g:=((((((s.p.ms.getD i Ax).proto)==e.pr)&&(((s.p.ms.getD i Ax).ext)==e.ext))&&(((s.p.ms.getD i Ax).host)==e.src))&&(((s.p.ms.getD i Ax).to)==e.frm))&& !(((s.p.ms.getD i Ax).remote)==0)) (u:=undef) ad Aa) ?_
    exact Cn h 2 1 0 isAgg24
   refine Bp (v:=bV<|((s.p.ms.getD i Ax).remote)==e.dst) (((((((s.p.ms.getD i Ax).proto)==e.pr)&&(((s.p.ms.getD i Ax).ext)==e.ext))&&(((s.p.ms.getD i Ax).host)==e.src))&&(((s.p.ms.getD i Ax).to)==e.frm))&& !(((s.p.ms.getD i Ax).remote)==0)) rfl (Dr rfl rfl Aa) rfl (fun E=>?_) (.inr fun _ d=>d) ?_
   ·refine Ys.yc<|Bh (t:=73) (v0:=iV .u32<|(s.p.ms.getD i Ax).remote) (lz (g:=((((((s.p.ms.getD i Ax).proto)==e.pr)&&(((s.p.ms.getD i Ax).ext)==e.ext))&&(((s.p.ms.getD i Ax).host)==e.src))&&(((s.p.ms.getD i Ax).to)==e.frm))&& !(((s.p.ms.getD i Ax).remote)==0)) (u:=undef) E Aa)<|Bh (t:=75) (v0:=iV .u32 e.dst) (lz (g:=((((((s.p.ms.getD i Ax).proto)==e.pr)&&(((s.p.ms.getD i Ax).ext)==e.ext))&&(((s.p.ms.getD i Ax).host)==e.src))&&(((s.p.ms.getD i Ax).to)==e.frm))&& !(((s.p.ms.getD i Ax).remote)==0)) (u:=undef) E Aa) ?_
    exact Ys.p
   refine Bp (v:=bV<|(((s.p.ms.getD i Ax).remote)==0)||(((s.p.ms.getD i Ax).remote)==e.dst)) ((((((s.p.ms.getD i Ax).proto)==e.pr)&&(((s.p.ms.getD i Ax).ext)==e.ext))&&(((s.p.ms.getD i Ax).host)==e.src))&&(((s.p.ms.getD i Ax).to)==e.frm)) rfl (Bv rfl Aa) rfl (fun F=>?_) (.inr fun _ d=>d) ?_
   ·refine Ys.yc<|Bh (t:=71) (v0:=bV<|((s.p.ms.getD i Ax).remote)==0) (lz (g:=(((((s.p.ms.getD i Ax).proto)==e.pr)&&(((s.p.ms.getD i Ax).ext)==e.ext))&&(((s.p.ms.getD i Ax).host)==e.src))&&(((s.p.ms.getD i Ax).to)==e.frm)) (u:=undef) F Aa)<|Bh (t:=76) (v0:=(bif !(((s.p.ms.getD i Ax).remote)==0)then bV (((s.p.ms.getD i Ax).remote)==e.dst)else undef)) (lz2 (g:=(((((s.p.ms.getD i Ax).proto)==e.pr)&&(((s.p.ms.getD i Ax).ext)==e.ext))&&(((s.p.ms.getD i Ax).host)==e.src))&&(((s.p.ms.getD i Ax).to)==e.frm)) F Aa) ?_
    exact Ce (e:=((s.p.ms.getD i Ax).remote)==0) (b:=((s.p.ms.getD i Ax).remote)==e.dst) rfl Aa Aa Aa
   refine Gg (v:=bV<|((((((s.p.ms.getD i Ax).proto)==e.pr)&&(((s.p.ms.getD i Ax).ext)==e.ext))&&(((s.p.ms.getD i Ax).host)==e.src))&&(((s.p.ms.getD i Ax).to)==e.frm))&&((((s.p.ms.getD i Ax).remote)==0)||(((s.p.ms.getD i Ax).remote)==e.dst))) rfl (B9 (e:=(((((s.p.ms.getD i Ax).proto)==e.pr)&&(((s.p.ms.getD i Ax).ext)==e.ext))&&(((s.p.ms.getD i Ax).host)==e.src))&&(((s.p.ms.getD i Ax).to)==e.frm)) (b:=(((s.p.ms.getD i Ax).remote)==0)||(((s.p.ms.getD i Ax).remote)==e.dst)) rfl Aa Aa Aa)<|Cl ?_
   refine Ak (((((((s.p.ms.getD i Ax).proto)==e.pr)&&(((s.p.ms.getD i Ax).ext)==e.ext))&&(((s.p.ms.getD i Ax).host)==e.src))&&(((s.p.ms.getD i Ax).to)==e.frm))&&((((s.p.ms.getD i Ax).remote)==0)||(((s.p.ms.getD i Ax).remote)==e.dst))) Aa (fun ae=>?_) fun af=>?_
   ·have ag:=ae;try simp only[zA]at ag
    refine Aj []<|Am rfl<|D7 rfl (Ar<|bV true) (by clear A;unfold Mb;rw[h8,Xu Ax Ae (show hoM e (s.p.ms.getD i Ax)=true from ae)];rfl)
   ·have ah:=af;try simp only[zA]at ah
    refine Ag<|A9<|Ac<|Bw (((i+1):Nat):Int) (i:Int) 1<|Ab 1 ?_
    refine Ay ?_
    refine fun o d=>A (i+1) _ o Ae ⟨Ae,(fun j hj=>(Nat.lt_succ_iff_lt_or_eq.1 hj).elim (L j) fun e_=>by subst e_;exact af)⟩ ?_<|d.pick [1] An rfl
    kernel_rfl
  ·have ai:=al;try simp only[zA]at ai
   refine Cm<|A9<|W.s<|E5 [0,1,2,3,4,5,6,7,8,9,10,12,13,14,17] (Mem w [] [Qu e h]) Aa Aa (fun _ _ d=>d.drawn _) ?_
   refine Ef (w0:=w) (M:=[]) [5,8,93,94] (fun(r:Nat)=>[pV h 0,pV r 0,aV<|Qw e k,bV (Eb k.fx e.pr e.ext)]) (fun(r:Nat)=>True) (fun(r:Nat)=>[[cb r Qy 65],Qu e h]) 2 #[true,true,true,true,true,true,true,true,true,true,true,true,true,true,true,true,false,false] (fun r az a9=>?_) fun JD64=>?_
   ·obtain⟨H,rfl⟩: ∃a_,a_=r:=⟨_,rfl⟩
    refine A6 (i:=16) Aa<|Cp rfl rfl (A0 H 0 0 0 (Qw e k) sizeOf65 rfl rfl) (Az [1]) fun _=>?_
    refine Wa.ys (v:=bV<|Eb k.fx e.pr e.ext) (i:=17) Aa Aa Aa Aa (fun _ d=>d.pick [1] An rfl) rfl rfl rfl (Ys.p)<|Ej Aa<|A9<|Av ?_
    refine Ab 2<|Da 5 (Eb k.fx e.pr e.ext) (fun _=>Gs.z [(0,0),(1,0)])<|Ao (v:=bV<|(Eb k.fx e.pr e.ext)&&(((C0 k.fx e.pr e.ext).host)==e.src)) (B9 (e:=Eb k.fx e.pr e.ext) (b:=((C0 k.fx e.pr e.ext).host)==e.src) rfl Aa Aa Aa)<|Ab 1<|Da 5 ((Eb k.fx e.pr e.ext)&&(((C0 k.fx e.pr e.ext).host)==e.src)) (fun _=>Gs.z [(0,0),(1,0)]) ?_
    refine Ao (v:=bV<|((Eb k.fx e.pr e.ext)&&(((C0 k.fx e.pr e.ext).host)==e.src))&&(((C0 k.fx e.pr e.ext).dest)==e.frm)) (B9 (e:=(Eb k.fx e.pr e.ext)&&(((C0 k.fx e.pr e.ext).host)==e.src)) (b:=((C0 k.fx e.pr e.ext).dest)==e.frm) rfl Aa Aa Aa)<|Ab 1<|Ai<|Al [] An rfl ?_
    refine Am rfl<|D7 rfl (Ar<|bV<|((Eb k.fx e.pr e.ext)&&(((C0 k.fx e.pr e.ext).host)==e.src))&&(((C0 k.fx e.pr e.ext).dest)==e.frm))<|by clear A;unfold Mb;rw[h8,Xt Ax (fun j hj=>L j Ae)];rfl
   ·refine Wa.ys (v:=pL<|some ⟨k.nb,0,none⟩) (i:=0) Aa Aa Aa Aa (fun _ d=>d) rfl rfl rfl (Ys.p)<|Wa.ys (v:=pL<|some ⟨k.nb,0,none⟩) (i:=1) Aa Aa Aa Aa (fun _ d=>d) rfl rfl rfl (Ys.p)<|Wa.ys (v:=pL<|some ⟨k.nb,0,none⟩) (i:=2) Aa Aa Aa Aa (fun _ d=>d) rfl rfl rfl (Ys.p)<|Wa.ys (v:=aV<|Qv k) (i:=3) Aa Aa Aa Aa (fun _ d=>d) rfl rfl rfl (Ys.ldN (a:=⟨k.nb,0,none⟩) (vs:=(Qv k)) rfl Aa isAgg32 sizeOf32 rfl fun o d=>by have f:=(G.nat.mem0 d).ldN (q:=0) (vs:=(Qv k)) (N2);rw[Be]at f;exact f)<|Wa.ys (v:=pV h 0) (i:=4) Aa Aa Aa Aa (fun _ d=>d) rfl rfl rfl (Ys.p) ?_
    refine Wa.ys (i:=5) Aa Aa Aa Aa (fun _ d=>d) rfl rfl rfl (Cn h 0 0 0 isAgg5)<|Wa.ys (v:=pV xb 0) (i:=6) Aa Aa Aa Aa (fun _ d=>d) rfl rfl rfl (Ys.p)<|Wa.ys (v:=pV xb 0) (i:=7) Aa Aa Aa Aa (fun _ d=>d) rfl rfl rfl (Ys.p)<|Wa.ys (v:=pV xb 0) (i:=8) Aa Aa Aa Aa (fun _ d=>d) rfl rfl rfl (Ys.p)<|Wa.ys (v:=pV xb 5) (i:=9) Aa Aa Aa Aa (fun _ d=>d) rfl rfl rfl (Ys.p) ?_
    refine Wa.ys (i:=10) Aa Aa Aa Aa (fun _ d=>d) rfl rfl rfl (Ys.ld (a:=⟨xb,5,none⟩) rfl Aa isAgg22 fun o d=>by have f:=(I.mem0 d).ld (q:=5) (v:=iV .u16 e.ext) rfl;rw[Be]at f;exact f) ?_
    refine C9 (i:=11) (j:=15) Aa ?_ ?_
    ·refine Wo.yc (v:=Value.tuple #[aV (Qw e k),bV (Eb k.fx e.pr e.ext)]) rfl rfl rfl (A8 fun o x=>(I9 (⟨k.c.lm0,k.c.lm1,k.c.lm2,k.c.lm3,k.c.lm4,k.c.lm5,k.c.wm0,k.c.wm1,k.c.wm2,k.c.wm3,k.c.wm4,k.c.wm5,k.c.hm0,k.c.hm1,k.c.hm2,k.c.hm3,k.c.hm4,k.c.hm5,k.c.lan,k.c.wan,k.c.bits,k.c.ms,k.c.mm,k.c.mc,k.c.mu,k.gf.a,k.fx.length,k.gf.cap,k.c.dmz,k.c.uu⟩:Conf.Cfg) k.fx k.gf.a k.gf.cap e.pr e.ext _ (G.fx.mem0 x) D1)) (.inr fun _ d=>d)<|Wa.ys (v:=Value.tuple #[aV (Qw e k),bV (Eb k.fx e.pr e.ext)]) (i:=12) Aa Aa Aa Aa (fun _ d=>d) rfl rfl rfl (Ys.p)<|Wa.ys (v:=aV<|Qw e k) (i:=13) Aa Aa Aa Aa (fun _ d=>d) rfl rfl rfl (Ys.p)<|Wa.ys (v:=bV<|Eb k.fx e.pr e.ext) (i:=14) Aa Aa Aa Aa (fun _ d=>d) rfl rfl rfl (Ys.p)<|A6 (i:=15) Aa ?_
     refine Cp rfl rfl (Ba zeroValue65) (Az [1]) fun H=>?_
     exact Ck [5,8,93,94] [pV h 0,pV H 0,aV<|L8<|C0 k.fx e.pr e.ext,bV (Eb k.fx e.pr e.ext)] #[true,true,true,true,true,true,true,true,true,true,true,true,true,true,true,true,false,false] (JD64 H trivial) Aa Aa fun _ d=>d
    ·refine Cp rfl rfl (Ba zeroValue65) (Az [1]) fun H=>A6 (i:=11) Aa<|Wo.yc (v:=Value.tuple #[aV (Qw e k),bV (Eb k.fx e.pr e.ext)]) rfl rfl rfl (A8 fun o x=>(I9 (⟨k.c.lm0,k.c.lm1,k.c.lm2,k.c.lm3,k.c.lm4,k.c.lm5,k.c.wm0,k.c.wm1,k.c.wm2,k.c.wm3,k.c.wm4,k.c.wm5,k.c.hm0,k.c.hm1,k.c.hm2,k.c.hm3,k.c.hm4,k.c.hm5,k.c.lan,k.c.wan,k.c.bits,k.c.ms,k.c.mm,k.c.mc,k.c.mu,k.gf.a,k.fx.length,k.gf.cap,k.c.dmz,k.c.uu⟩:Conf.Cfg) k.fx k.gf.a k.gf.cap e.pr e.ext _ (G.fx.mem0 x) D1)) (Ee [1])<|Wa.ys (v:=Value.tuple #[aV (Qw e k),bV (Eb k.fx e.pr e.ext)]) (i:=12) Aa Aa Aa Aa (fun _ d=>d.pick [1] An rfl) rfl rfl rfl (Ys.p)<|Wa.ys (v:=aV<|Qw e k) (i:=13) Aa Aa Aa Aa (fun _ d=>d.pick [1] An rfl) rfl rfl rfl (Ys.p) ?_
     refine Wa.ys (v:=bV<|Eb k.fx e.pr e.ext) (i:=14) Aa Aa Aa Aa (fun _ d=>d.pick [1] An rfl) rfl rfl rfl (Ys.p) ?_
     exact Ck [5,8,93,94] [pV h 0,pV H 0,aV<|L8<|C0 k.fx e.pr e.ext,bV (Eb k.fx e.pr e.ext)] #[true,true,true,true,true,true,true,true,true,true,true,true,true,true,true,true,false,false] (JD64 H trivial) Aa Aa fun _ d=>d
end Go.Proofs.YtmonlaoaengfdaaGreatDoor.Oct
