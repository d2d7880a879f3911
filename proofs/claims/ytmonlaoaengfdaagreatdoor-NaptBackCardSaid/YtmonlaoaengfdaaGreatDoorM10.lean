import Derived.Test.YtmonlaoaengfdaaGreatDoorM9
set_option linter.unusedVariables false
set_option linter.unusedSimpArgs false
set_option maxRecDepth 20000
namespace Go.Proofs.YtmonlaoaengfdaaGreatDoor.Oct
open Go.RowKit Base
attribute [local irreducible] Ys Yc Ht HtS HtIn Wl Wd W Mem pf D4 Wa Wo
theorem Abf{cf:List Value}{m s e wh ids last:Value}{tk:Nat→Option Nat}: ∀(q:Nat) (v:Value),cf[q]? =some v→(Dv cf m s e tk wh ids last)[0+q]? =some v:=fun q v h=>by
  have hl:=(List.getElem?_eq_some_iff.1 h).1
  unfold Dv
  rw[Nat.zero_add,List.getElem?_append_left (by simp;omega),List.getElem?_append_left hl];exact h
theorem Ug{k:NK}{s:NS}: ∀(q:Nat) (v:Value),(M5 k.c (.slice k.gf.a k.fx.length k.gf.cap))[q]? =some v→(Du k s)[0+q]? =some v:=Abf
def B1(f:B2):Hx:=(f.1,f.2.1,f.2.2.2.1)
def Pc(f:B2)(ext id:Int)(gv:Bool):SesE:=⟨f.1,f.2.1,f.2.2.1,f.2.2.2.1,f.2.2.2.2,ext,0,false,false,false,false,false,false,id,gv⟩
def Sm(k:NK)(p:NP)(f:B2)(ext:Int)(gv:Bool)(xb pb:Nat):NP:=
  {p with lst:=Bt .u64 p.lst 1,xs:=Db ordF k.mo p.xs f (some xb),ys:=Db LO.int k.mo p.ys p.lst f,zs:=bif gv then Db Ca k.mo p.zs (B1 f) (⟨ext,(Bo (⟨0,0⟩:Lse) p.zs (B1 f)).count+1⟩:Lse)else p.zs,tk:=bif gv then Ml p.tk f.1.toNat (some pb)else p.tk,TT:=bif gv then F5 p.TT f.1.toNat (P7 (p.TT f.1.toNat) ext.toNat)else p.TT}
def stL(s:NS)(l:Int):NS:={s with p:={s.p with lst:=l}}
theorem Aiy{k:NK}{s:NS}(ok:NOk k s)(l:Int):NOk k (stL s l):=⟨ok.okm,ok.okf,ok.oks,ok.oki,ok.oke,ok.okw,ok.hmn,ok.hfn,ok.hmo,ok.hxn,ok.hyn,ok.hzn,ok.hwn,ok.hxs,ok.hys,ok.hzs,ok.hws,ok.hz⟩
theorem NOk.len{k:NK}{s:NS}(ok:NOk k s):s.p.xs.length≤50000∧s.p.ys.length≤50000∧s.p.zs.length≤50000∧s.p.ms.length≤100000∧k.fx.length≤100000:=by
  have h1:=ok.hxn;have h2:=ok.hyn;have h3:=ok.hzn;have h4:=ok.hmo;have h5:=ok.hmn;have h6:=ok.hfn
  omega
abbrev Qk(ds dt fm sr:Int)(ep p21 pr:Nat)(s:NS):List Blk:=[cb p21 [nV .u8 pr,iV .u32 sr,iV .u32 ds,iV .u16 fm,iV .u16 dt,nV .u16 ep,iV .u64 0,bV false,bV false,bV false,bV false,bV false,bV false,iV .u64 s.p.lst,bV true] 113]
abbrev Ql(ds dt fm sr:Int)(p5 pr:Nat):List Blk:=[cb p5 [nV .u8 pr,iV .u32 sr,iV .u32 ds,iV .u16 fm,iV .u16 dt] 47]
abbrev Qm(fm sr:Int)(pr:Nat)(s:NS):List Value:=[iV .u16 ((Bo (⟨0,0⟩:Lse) s.p.zs (((pr:Nat):Int),sr,fm)).ext),iV .i64 ((Bo (⟨0,0⟩:Lse) s.p.zs (((pr:Nat):Int),sr,fm)).count)]
abbrev Qn(ds dt fm sr:Int)(pr:Nat):List Value:=[nV .u8 pr,iV .u32 sr,iV .u32 ds,iV .u16 fm,iV .u16 dt]
abbrev Qo(ds dt fm sr:Int)(ep pr:Nat)(s:NS):List Value:=[nV .u8 pr,iV .u32 sr,iV .u32 ds,iV .u16 fm,iV .u16 dt,nV .u16 ep,iV .u64 0,bV false,bV false,bV false,bV false,bV false,bV false,iV .u64 s.p.lst,bV true]
theorem Abg(k:NK)(s:NS)(M:List Nat)(pr:Nat)(sr ds fm dt:Int)(ep:Nat)(w:World)(ok:NOk k s)(hl:Mem w M [NG k s] w)(hpr:pr<256)(hep:ep<65536)(hct:0≤(Bo (⟨0,0⟩:Lse) s.p.zs (((pr:Nat):Int),sr,fm)).count∧(Bo (⟨0,0⟩:Lse) s.p.zs (((pr:Nat):Int),sr,fm)).count≤1000000):Calls Tryz.prog 101 #[pL (some ⟨k.nb,0,none⟩),aV [nV .u8 pr,iV .u32 sr,iV .u32 ds,iV .u16 fm,iV .u16 dt],nV .u16 ep,bV true] w (Bj w (fun r:NS×Nat×Nat=>NOk k r.1∧r.1.p=Sm k s.p (((pr:Nat):Int),sr,ds,fm,dt) (ep:Int) true r.2.1 r.2.2∧(s.p.tk pr=none∨s.p.tk pr=some r.2.2)) (fun r=>.pointer (some ⟨r.2.1,0,none⟩)) M (fun r=>[NG k r.1,[Iz (r.2.1,Pc (((pr:Nat):Int),sr,ds,fm,dt) (ep:Int) s.p.lst true)]])):=by
 obtain⟨lxs,lys,lzs,lms,lfs⟩:=NOk.len ok
 refine Ar (M:=M) (LL:=[NG k s]) (n:=76) Tryz.func101 rfl rfl A5 (hl) (Ad (fun K1 hK1=>?_))
 refine Aa (Ai rfl (Bx (Qn ds dt fm sr pr) rfl) (fun p5=>?_))
 refine Ab 1 (Ac (hK1 _ _ _ (Ad (fun K3 hK3=>Dh [(0,true),(1,true),(2,true),(3,true),(4,true),(5,true),(6,true),(7,false),(8,false),(9,false),(10,false)] [0,1,2,3,4,5,6] ?_))))
 refine Wd.ys rfl rfl rfl (A0 p5 0 0 0 (Qn ds dt fm sr pr) Tryz.isAgg47 Tryz.sizeOf47) (Ay 5 (Wd.ys rfl rfl rfl (Bp (b:=k.nb) (o':=289) (i:=1) (j:=0) (cs:=Du k s) (v:=iV .u64 s.p.lst) rfl Ae Tryz.isAgg45 rfl rfl ((Fs rfl 2).trans rfl)) (Wd.yc (v:=bV true) rfl rfl rfl (Ys.yc (Ys.p)) (.inr fun _ h_=>h_) (Wd.yc (v:=aV (Qo ds dt fm sr ep pr s)) rfl rfl rfl (Ys.yc (Ys.p)) (.inr fun _ h_=>h_) ?_))))
 refine B8 rfl rfl (Bx (Qo ds dt fm sr ep pr s) rfl) (.inr fun _ _ h_=>h_.pick [1,2] Al rfl) (fun p21=>Wd.yc (v:=pV p21 0) rfl rfl rfl (Ys.yc (Ys.p)) (.inl Ae) (A7 (hK3 _ _ _ (Ad (fun K5 hK5=>?_)))))
 refine Aa (Ab 3 (Ah (Bp (b:=k.nb) (o':=289) (i:=2) (j:=0) (cs:=Du k s) (v:=iV .u64 s.p.lst) rfl Ae Tryz.isAgg45 rfl rfl ((Fs rfl 2).trans rfl)) ?_))
 obtain⟨s6,hzs6⟩: ∃z,z=stL s (Bt .u64 s.p.lst 1):=⟨_,rfl⟩
 have ok7:NOk k s6:=hzs6▸Aiy ok _
 have hp8:s6.p={s.p with lst:=Bt .u64 s.p.lst 1}:=by rw[hzs6];rfl
 obtain⟨lxs6,lys6,lzs6,lms6,lfs6⟩:=NOk.len ok7
 refine Ab 3 (Ai rfl (Ek (b:=k.nb) (o':=289) (i:=2) (j:=0) (cs:=Du k s) (cs':=Du k s6) (v:=iV .u64 (Bt .u64 s.p.lst 1)) (LL':=[Qk ds dt fm sr ep p21 pr s,Ql ds dt fm sr p5 pr,NG k s6]) rfl rfl Ae Ae Tryz.sizeOf45 rfl rfl rfl (by rw[show(Du k s).length=290 from H9 rfl];decide) (by rw[hzs6];exact(M3 rfl 2).trans rfl) (by rw[hzs6];rfl)) (fun _=>?_))
 refine Ac (hK5 _ _ _ (Ad (fun K10 hK10=>Bz [(0,true),(1,true),(2,true),(3,true),(4,true),(5,false),(6,false)] [0,1,2,3,4] (fun w_=> ∃s_:NS,Mem w M [Qk ds dt fm sr ep p21 pr s,Ql ds dt fm sr p5 pr,NG k s_] w_) Ae Ae Ae rfl Ae (fun _ _ h_=>h_.drawn _) (fun _ h_=>⟨_,h_⟩) (Ay 3 ?_))))
 refine Wd.ys rfl rfl rfl (Ee (fun s_=>Bp (b:=k.nb) (o':=29) (i:=2) (j:=0) (cs:=Du k s_) (v:=pL (some ⟨k.ts,0,none⟩)) rfl Ae Tryz.isAgg85 rfl rfl ((Cq rfl Al).trans rfl))) (Wd.ys (v:=aV (Qn ds dt fm sr pr)) rfl rfl rfl (Ee (fun s_=>A0 p5 0 1 0 (Qn ds dt fm sr pr) Tryz.isAgg47 Tryz.sizeOf47)) (Wd.yc (v:=pV p21 0) rfl rfl rfl (Ys.yc (Ys.p)) (.inr fun _ h_=>⟨_,h_⟩) (Cd rfl rfl (Au [2] [0,1] (fun w_ hm_ hl_=>(Air (((pr:Nat):Int),sr,ds,fm,dt) (some p21) ok7 hl_))) (.inr fun _ _ h_=>⟨_,h_.pick [1,2,0] Al rfl⟩) (fun s11 hx15=>?_))))
 obtain⟨ok12,hp13⟩:=hx15
 obtain⟨lxs11,lys11,lzs11,lms11,lfs11⟩:=NOk.len ok12
 refine A7 (hK10 _ _ _ (Ad (fun K17 hK17=>Bz [(0,true),(1,true),(2,true),(3,true),(4,true),(5,true),(6,true),(7,true),(8,false),(9,false)] [0,1,2,3,4,5,6,7] (fun w_=> ∃s_:NS,Mem w M [NG k s_,Qk ds dt fm sr ep p21 pr s,Ql ds dt fm sr p5 pr] w_) Ae Ae Ae rfl Ae (fun _ _ h_=>h_.drawn _) (fun _ h_=>⟨_,h_⟩) (Ay 3 ?_))))
 refine Wd.ys rfl rfl rfl (Ee (fun s_=>Bp (b:=k.nb) (o':=288) (i:=0) (j:=0) (cs:=Du k s_) (v:=pL (some ⟨k.ti,0,none⟩)) rfl Ae Tryz.isAgg89 rfl rfl ((Fs rfl 1).trans rfl))) (Ay 3 (Wd.ys rfl rfl rfl (Ee (fun s_=>Bp (b:=p21) (o':=13) (i:=1) (j:=0) (v:=iV .u64 s.p.lst) rfl Ae Tryz.isAgg45 rfl rfl rfl)) (Wd.yc (v:=aV (Qn ds dt fm sr pr)) rfl rfl rfl (Ys.yc (A0 p5 0 2 0 (Qn ds dt fm sr pr) Tryz.isAgg47 Tryz.sizeOf47)) (.inr fun _ h_=>⟨_,h_⟩) (Cd rfl rfl (Au [0] [1,2] (fun w_ hm_ hl_=>(Ais s.p.lst (((pr:Nat):Int),sr,ds,fm,dt) ok12 hl_))) (.inr fun _ _ h_=>⟨_,h_⟩) (fun s18 hx22=>?_)))))
 obtain⟨ok19,hp20⟩:=hx22
 obtain⟨lxs18,lys18,lzs18,lms18,lfs18⟩:=NOk.len ok19
 refine A7 (hK17 _ _ _ (Ad (fun K24 hK24=>Ad (fun K25 hK25=>Aa ?_))))
 refine Ab 1 (Ac (hK25 _ _ _ (B5 Ae (Ad (fun K26 hK26=>?_)))))
 refine E2 [0,1,2,3,4,7,8,9,12] (Mem w M [NG k s18,Qk ds dt fm sr ep p21 pr s,Ql ds dt fm sr p5 pr]) Ae Ae (fun _ _ h_=>h_.drawn _) ?_
 refine Dw (w0:=w) (M:=M) [0,2,5,9,10,55,56] (fun(z33:Nat)=>[pL (some ⟨k.nb,0,none⟩),nV .u16 ep,pV p5 0,pV p21 0,pV z33 0,aV (Qm fm sr pr s),bV (Bl s.p.zs (((pr:Nat):Int),sr,fm))]) (fun(z33:Nat)=>True) (fun(z33:Nat)=>[[cb z33 zl8 99],NG k s18,Qk ds dt fm sr ep p21 pr s,Ql ds dt fm sr p5 pr]) 2 #[true,true,true,true,true,true,true,true,true,true,true,false,false] (fun z33 hp34 f35=>?_) (fun JD31=>?_)
 ·obtain⟨p10,rfl⟩: ∃a_,a_=z33:=⟨_,rfl⟩
  refine A3 (i:=11) Ae (Ch rfl rfl (A4 p10 0 0 0 (Qm fm sr pr s) Tryz.sizeOf99 rfl rfl) (.inr fun _ _ h_=>h_.pick [1,2,3] Al rfl) (fun _=>?_))
  refine Wa.ys (v:=bV (Bl s.p.zs (((pr:Nat):Int),sr,fm))) (i:=12) Ae Ae Ae Ae (fun _ h_=>h_.pick [1,2,3] Al rfl) rfl rfl rfl (Ys.p) (D1 Ae (hK26 _ _ _ (Ad (fun K37 hK37=>Bz [(0,true),(1,true),(2,true),(3,true),(4,true),(6,true),(7,true),(8,true),(9,true),(10,true),(5,false),(11,false)] [0,1,2,3,4,6,7,8,9,10] (fun w_=> ∃s_:NS,Mem w M [[cb p10 (Qm fm sr pr s) 99],NG k s_,Qk ds dt fm sr ep p21 pr s,Ql ds dt fm sr p5 pr] w_) Ae Ae Ae rfl Ae (fun _ _ h_=>h_.drawn _) (fun _ h_=>⟨_,h_⟩) ?_))))
  refine Ay 3 (Wd.ys rfl rfl rfl (Ee (fun s_=>Bp (b:=k.nb) (o':=30) (i:=1) (j:=0) (cs:=Du k s_) (v:=pL (some ⟨k.te,0,none⟩)) rfl Ae Tryz.isAgg86 rfl rfl ((Cq rfl Al).trans rfl))) (Wd.ys (v:=aV (Qn ds dt fm sr pr)) rfl rfl rfl (Ee (fun s_=>A0 p5 0 3 0 (Qn ds dt fm sr pr) Tryz.isAgg47 Tryz.sizeOf47)) (Ay 2 (Wd.ys rfl rfl rfl (Ee (fun s_=>Bp (b:=p10) (o':=1) (i:=0) (j:=0) (v:=iV .i64 ((Bo (⟨0,0⟩:Lse) s.p.zs (((pr:Nat):Int),sr,fm)).count)) rfl Ae Tryz.isAgg3 rfl rfl rfl)) ?_))))
  refine Wd.ys (v:=iV .i64 (((Bo (⟨0,0⟩:Lse) s.p.zs (((pr:Nat):Int),sr,fm)).count)+1)) rfl rfl rfl (Ee (fun s_=>(Ys.p (v:=.int .i64 (Bt .i64 ((Bo (⟨0,0⟩:Lse) s.p.zs (((pr:Nat):Int),sr,fm)).count) 1))).conseq (Af (A6 Ag Ag Ag)))) (Ay 1 (Wd.yc (v:=aV [nV .u8 pr,iV .u32 sr,iV .u16 fm]) rfl rfl rfl (A9 (fun w_ hm_=>(Ks (pr:Int) sr ds fm dt _))) (.inr fun _ h_=>⟨_,h_⟩) (Cd rfl rfl (Au [1] [0,2,3] (fun w_ hm_ hl_=>(Abc (((pr:Nat):Int),sr,fm) (⟨(ep:Int),((Bo (⟨0,0⟩:Lse) s.p.zs (((pr:Nat):Int),sr,fm)).count)+1⟩:Lse) ok19 hl_))) (.inr fun _ _ h_=>⟨_,h_.pick [1,0,2,3] Al rfl⟩) (fun s38 hx42=>?_))))
  obtain⟨ok39,hp40⟩:=hx42
  obtain⟨lxs38,lys38,lzs38,lms38,lfs38⟩:=NOk.len ok39
  refine A7 (hK37 _ _ _ (Ap [0,2,3] Al rfl (Aa (Ab 2 ?_))))
  refine Ah (An p5 0 2 0 Tryz.isAgg5) (Ax rfl (Au (args:= #[pL (some ⟨k.nb,0,none⟩),nV .u8 pr]) [0] [1,2] (fun w_ hm_ hl_=>(Abd Ag ok39 hl_))) (fun q49 hx52=>?_))
  obtain⟨s46,pb44⟩:=q49
  dsimp only at hx52
  obtain⟨ok47,hp48,htk45⟩:=hx52
  refine Bu (LL':=[NG k s46,Qk ds dt fm sr ep p21 pr s,Ql ds dt fm sr p5 pr]) rfl ?_
  obtain⟨lxs46,lys46,lzs46,lms46,lfs46⟩:=NOk.len ok47
  have hset51:s46.p.tk pr=some pb44:=by rw[hp48];exact E3 _ _ _
  refine Ab 1 (Ax rfl (Au (args:= #[pV pb44 0,nV .u16 ep]) [0] [1,2] (fun w_ hm_ hl_=>(Aiv Ag Ag hset51 ok47 hl_))) (fun s53 hx58=>?_))
  obtain⟨ok54,hp55⟩:=hx58
  obtain⟨lxs53,lys53,lzs53,lms53,lfs53⟩:=NOk.len ok54
  have hset57:s53.p.tk pr=some pb44:=by rw[hp55];exact hset51
  refine Ac (hK24 _ _ _ (Ap [0,1] Al rfl (Ad (fun K60 hK60=>Aa ?_))))
  refine Ab 2 (Ac (hK60 _ _ _ (Aq (fn:=Tryz.f101) rfl (fun w_ hS_=>Bb rfl (Aw (pV p21 0)) hS_ ⟨(s53,p21,pb44),⟨ok54,(by rw[hp55,hp48,hp40,hp20,hp13,hp8]<;>rfl),by simpa only[hp40,hp20,hp13,hp8]using htk45⟩,rfl,(hS_.pick [0,1] Al rfl)⟩))))
 ·refine Dw (w0:=w) (M:=M) [0,2,5,9,10,51,53] (fun(z62:Nat)=>[pL (some ⟨k.nb,0,none⟩),nV .u16 ep,pV p5 0,pV p21 0,pV z62 0,pL (some ⟨k.te,0,none⟩),aV [nV .u8 pr,iV .u32 sr,iV .u16 fm]]) (fun(z62:Nat)=>True) (fun(z62:Nat)=>[[cb z62 zl8 99],NG k s18,Qk ds dt fm sr ep p21 pr s,Ql ds dt fm sr p5 pr]) 6 #[true,true,true,true,true,true,false,false,false,false,true,false,false] (fun z62 hp63 f64=>?_) (fun JD30=>?_)
  ·obtain⟨p10,rfl⟩: ∃a_,a_=z62:=⟨_,rfl⟩
   refine A3 (i:=6) Ae ?_
   have q_s18zs:s18.p.zs=s.p.zs:=by rw[hp20,hp13,hp8]
   have q_s18zs:s18.p.zs=s.p.zs:=by rw[hp20,hp13,hp8]
   refine Wo.yc (v:=Value.tuple #[aV (Qm fm sr pr s),bV (Bl s.p.zs (((pr:Nat):Int),sr,fm))]) rfl rfl rfl (A9 (fun w_ hm_=>(Mh s.p.zs s18.ge.a s18.ge.cap k.mo k.te (((pr:Nat):Int),sr,fm) _ (by rw[←q_s18zs];exact(Jp (i:=1) hm_ rfl)) (by rw[←q_s18zs];exact(NG.zs (i:=1) hm_ rfl ok19)) Fb ok.hzs))) (.inr fun _ h_=>h_.pick [1,2,3] Al rfl) (Wa.ys (v:=Value.tuple #[aV (Qm fm sr pr s),bV (Bl s.p.zs (((pr:Nat):Int),sr,fm))]) (i:=7) Ae Ae Ae Ae (fun _ h_=>h_.pick [1,2,3] Al rfl) rfl rfl rfl (Ys.p) (Wa.ys (v:=aV (Qm fm sr pr s)) (i:=8) Ae Ae Ae Ae (fun _ h_=>h_.pick [1,2,3] Al rfl) rfl rfl rfl (Ys.p) (Wa.ys (v:=bV (Bl s.p.zs (((pr:Nat):Int),sr,fm))) (i:=9) Ae Ae Ae Ae (fun _ h_=>h_.pick [1,2,3] Al rfl) rfl rfl rfl (Ys.p) ?_)))
   exact Cb [0,2,5,9,10,55,56] [pL (some ⟨k.nb,0,none⟩),nV .u16 ep,pV p5 0,pV p21 0,pV p10 0,aV [iV .u16 ((Bo (⟨0,0⟩:Lse) s.p.zs (((pr:Nat):Int),sr,fm)).ext),iV .i64 ((Bo (⟨0,0⟩:Lse) s.p.zs (((pr:Nat):Int),sr,fm)).count)],bV (Bl s.p.zs (((pr:Nat):Int),sr,fm))] #[true,true,true,true,true,true,true,true,true,true,true,false,false] (JD31 p10 trivial) Ae Ae (fun _ h_=>h_)
  ·refine Wa.ys (v:=pL (some ⟨k.nb,0,none⟩)) (i:=0) Ae Ae Ae Ae (fun _ h_=>h_) rfl rfl rfl (Ys.p) (Wa.ys (v:=pL (some ⟨k.nb,0,none⟩)) (i:=1) Ae Ae Ae Ae (fun _ h_=>h_) rfl rfl rfl (Ys.p) (Wa.ys (v:=pL (some ⟨k.nb,30,none⟩)) (i:=2) Ae Ae Ae Ae (fun _ h_=>h_) rfl rfl rfl (Ys.p) (Wa.ys (i:=3) Ae Ae Ae Ae (fun _ h_=>h_) rfl rfl rfl (Bp (b:=k.nb) (o':=30) (i:=0) (j:=0) (cs:=Du k s18) (v:=pL (some ⟨k.te,0,none⟩)) rfl Ae Tryz.isAgg86 rfl rfl ((Cq rfl Al).trans rfl)) (Wa.ys (v:=aV (Qn ds dt fm sr pr)) (i:=4) Ae Ae Ae Ae (fun _ h_=>h_) rfl rfl rfl (A0 p5 0 2 0 (Qn ds dt fm sr pr) Tryz.isAgg47 Tryz.sizeOf47) ?_))))
   refine C3 (i:=5) (j:=10) Ae ?_ ?_
   ·refine Wo.yc (v:=aV [nV .u8 pr,iV .u32 sr,iV .u16 fm]) rfl rfl rfl (A9 (fun w_ hm_=>(Ks (pr:Int) sr ds fm dt _))) (.inr fun _ h_=>h_) ?_
    refine C3 (i:=6) (j:=10) Ae ?_ ?_
    ·have q_s18zs:s18.p.zs=s.p.zs:=by rw[hp20,hp13,hp8]
     have q_s18zs:s18.p.zs=s.p.zs:=by rw[hp20,hp13,hp8]
     refine Wo.yc (v:=Value.tuple #[aV (Qm fm sr pr s),bV (Bl s.p.zs (((pr:Nat):Int),sr,fm))]) rfl rfl rfl (A9 (fun w_ hm_=>(Mh s.p.zs s18.ge.a s18.ge.cap k.mo k.te (((pr:Nat):Int),sr,fm) _ (by rw[←q_s18zs];exact(Jp (i:=0) hm_ rfl)) (by rw[←q_s18zs];exact(NG.zs (i:=0) hm_ rfl ok19)) Fb ok.hzs))) (.inr fun _ h_=>h_) (Wa.ys (v:=Value.tuple #[aV (Qm fm sr pr s),bV (Bl s.p.zs (((pr:Nat):Int),sr,fm))]) (i:=7) Ae Ae Ae Ae (fun _ h_=>h_) rfl rfl rfl (Ys.p) (Wa.ys (v:=aV (Qm fm sr pr s)) (i:=8) Ae Ae Ae Ae (fun _ h_=>h_) rfl rfl rfl (Ys.p) (Wa.ys (v:=bV (Bl s.p.zs (((pr:Nat):Int),sr,fm))) (i:=9) Ae Ae Ae Ae (fun _ h_=>h_) rfl rfl rfl (Ys.p) (A3 (i:=10) Ae ?_))))
     refine Ch rfl rfl (Bc Tryz.zeroValue99) (.inr fun _ _ h_=>h_.pick [1,2,3] Al rfl) (fun p10=>?_)
     exact Cb [0,2,5,9,10,55,56] [pL (some ⟨k.nb,0,none⟩),nV .u16 ep,pV p5 0,pV p21 0,pV p10 0,aV [iV .u16 ((Bo (⟨0,0⟩:Lse) s.p.zs (((pr:Nat):Int),sr,fm)).ext),iV .i64 ((Bo (⟨0,0⟩:Lse) s.p.zs (((pr:Nat):Int),sr,fm)).count)],bV (Bl s.p.zs (((pr:Nat):Int),sr,fm))] #[true,true,true,true,true,true,true,true,true,true,true,false,false] (JD31 p10 trivial) Ae Ae (fun _ h_=>h_)
    ·refine Ch rfl rfl (Bc Tryz.zeroValue99) (.inr fun _ _ h_=>h_.pick [1,2,3] Al rfl) (fun p10=>?_)
     exact Cb [0,2,5,9,10,51,53] [pL (some ⟨k.nb,0,none⟩),nV .u16 ep,pV p5 0,pV p21 0,pV p10 0,pL (some ⟨k.te,0,none⟩),aV [nV .u8 pr,iV .u32 sr,iV .u16 fm]] #[true,true,true,true,true,true,false,false,false,false,true,false,false] (JD30 p10 trivial) Ae Ae (fun _ h_=>h_)
   ·refine Ch rfl rfl (Bc Tryz.zeroValue99) (.inr fun _ _ h_=>h_.pick [1,2,3] Al rfl) (fun p10=>A3 (i:=5) Ae (Wo.yc (v:=aV [nV .u8 pr,iV .u32 sr,iV .u16 fm]) rfl rfl rfl (A9 (fun w_ hm_=>(Ks (pr:Int) sr ds fm dt _))) (.inr fun _ h_=>h_.pick [1,2,3] Al rfl) ?_))
    exact Cb [0,2,5,9,10,51,53] [pL (some ⟨k.nb,0,none⟩),nV .u16 ep,pV p5 0,pV p21 0,pV p10 0,pL (some ⟨k.te,0,none⟩),aV [nV .u8 pr,iV .u32 sr,iV .u16 fm]] #[true,true,true,true,true,true,false,false,false,false,true,false,false] (JD30 p10 trivial) Ae Ae (fun _ h_=>h_)
open Conf (Fwd fwv)
abbrev N6(ttl pro pid src dst:Int)(ba:Option Addr)(bl bc:Nat):Value:=.agg [.int .u8 ttl,.int .u8 pro,.int .u16 pid,.int .u32 src,.int .u32 dst,.slice ba bl bc].toArray
theorem Afa(tk:Nat→Option Nat)(p:Nat)(a b:Option Nat):Ml (Ml tk p a) p b=Ml tk p b:=by
  funext q
  by_cases h:q=p
  · subst h;rw[E3,E3]
  · rw[Fi _ _ h,Fi _ _ h,Fi _ _ h]
theorem Yi{α:Type}(f:Nat→α)(p:Nat)(a b:α):F5 (F5 f p a) p b=F5 f p b:=by
  funext q
  by_cases h:q=p
  · subst h;rw[F6,F6]
  · rw[Dt _ _ h,Dt _ _ h,Dt _ _ h]
theorem Alw{T:Nat→Bool}{d:Nat}(h:pk T d<65536):P7 (Wx T d) (L8 T d)=P7 T (L8 T d):=by
  have h1:=M2 T d
  have hv:L8 T d=pk T d:=by unfold L8;rw[if_pos h]
  have ht:Wx T d=up T (pk T d) true:=by unfold Wx;rw[decide_eq_true h];rfl
  have h2:P7 T (pk T d)=up T (pk T d) true:=(Aam h1.2.1 (h1.2.2.1 h) 0).2.1
  rw[hv,ht,h2]
  unfold P7 Ur
  rw[J0];simp
def OpenX(k:NK)(p:NP)(f:B2)(dr:Nat)(ext:Int)(gv:Bool):Prop:=
  (Hg p.ms k.fx f=some ext∧gv=false)∨
  (Hg p.ms k.fx f=none∧gv=true∧Bl p.zs (B1 f)=true∧ext=(Bo (⟨0,0⟩:Lse) p.zs (B1 f)).ext)∨
  (Hg p.ms k.fx f=none∧gv=true∧Bl p.zs (B1 f)=false∧pk (p.TT f.1.toNat) dr<65536∧ext=(L8 (p.TT f.1.toNat) dr:Int))
def Alx:Option (Nat×SesE)→List Blk
  |none=>[]
  |some x=>[Iz x]
def Aly(k:NK)(p:NP)(f:B2)(bg:Bool)(dr:Nat)(r:NP×Option (Nat×SesE)×Int):Prop:=
  r.2.1=none∧(r.2.2=20∨r.2.2=21)∧(∃tk',r.1={p with tk:=tk'})∧(bg=false∨k.mo≤(p.xs.length:Int)∨(Hg p.ms k.fx f=none∧Bl p.zs (B1 f)=false∧ ¬pk (p.TT f.1.toNat) dr<65536))
def Alz(k:NK)(p:NP)(f:B2)(bg:Bool)(dr:Nat)(r:NP×Option (Nat×SesE)×Int):Prop:=
  r.2.2=0∧bg=true∧(p.xs.length:Int)<k.mo∧ ∃ext gv xb pb,OpenX k p f dr ext gv∧r.2.1=some (xb,Pc f ext p.lst gv)∧r.1=Sm k p f ext gv xb pb
def Anr(x:Option (Nat×SesE)):Value:=.pointer (Cs (x.map Prod.fst))
theorem Kv{α:Type}{o:Option α}(h:o.isSome=false):o=none:=by cases o with|none=>rfl|some x=>cases h
theorem Yj{k:NK}{p p2:NP}{f:B2}{dr b xb pb:Nat}(hp2:p2={p with tk:=Ml p.tk f.1.toNat (some b),TT:=F5 p.TT f.1.toNat (Wx (p.TT f.1.toNat) dr)})(h:pk (p.TT f.1.toNat) dr<65536):
    Sm k p2 f (L8 (p.TT f.1.toNat) dr:Int) true xb pb=Sm k p f (L8 (p.TT f.1.toNat) dr:Int) true xb pb:=by
  subst hp2
  unfold Sm
  simp only[cond_true,Afa,Yi,F6,Int.toNat_natCast,Alw h]
theorem Afb{p:NP}{n d:Nat}(h: ¬pk (p.TT n) d<65536):F5 p.TT n (Wx (p.TT n) d)=p.TT:=by
  unfold Wx;rw[decide_eq_false h];exact Yg _ _
abbrev Qp(f:B2):List Value:=[iV .u8 f.1,iV .u32 f.2.1,iV .u32 f.2.2.1,iV .u16 f.2.2.2.1,iV .u16 f.2.2.2.2]
theorem Afc(c:Conf.Cfg)(fx:List Conf.Fwd)(fa:Option Addr)(fc:Nat)(ms:List Mpg)(ma:Option Addr)(mc_:Nat)(ts te:Nat)(tk:Nat→Option Nat)(wb ti:Nat)(lst:Int)(nb:Nat)(f:B2)(w:World)(hnt:At w (some ⟨nb,0,none⟩) (Dv (M5 c (sL fa fx.length fc)) (sL ma ms.length mc_) (pL (some ⟨ts,0,none⟩)) (pL (some ⟨te,0,none⟩)) tk (pL (some ⟨wb,0,none⟩)) (pL (some ⟨ti,0,none⟩)) (Value.int .u64 lst)))(hfx:At w fa (mm Conf.fwv fx))(hfn:fx.length≤100000)(hms:At w ma (mm mpM ms))(hmn:ms.length≤100000)(hm0:ms.length=0)(hf0:fx.length=0):Calls Tryz.prog 110 #[pV nb 0,aV [iV .u8 f.1,iV .u32 f.2.1,iV .u32 f.2.2.1,iV .u16 f.2.2.2.1,iV .u16 f.2.2.2.2]] w (Dc w (.tuple #[.int .u16 ((Hg ms fx f).getD 0),.bool (Hg ms fx f).isSome])):=by
 refine Ar (M:=[]) (LL:=[]) (n:=85) Tryz.func110 rfl rfl A5 (Mem.refl _) (Ad (fun K1 hK1=>?_))
 refine Aa (Ai rfl (Bx (Qp f) rfl) (fun p3=>?_))
 refine Ab 2 (Ac (hK1 _ _ _ (Ad (fun K3 hK3=>Ad (fun K4 hK4=>?_)))))
 refine Aa (Ab 3 (Ah (v:=sL ma ms.length mc_) (Ys.ld (a:=⟨nb,28,none⟩) rfl Ae Tryz.isAgg56 (fun w_ h_=>by have x_:=(hnt.mem0 h_).ld (q:=28) ((Cq rfl Al).trans rfl);rw[Br]at x_;exact x_)) (Ab 2 (Ac ?_))))
 refine hK4 _ _ _ (W.block (Ep [0,3,13,14,15] (fun(i:Nat)=>[pV nb 0,pV p3 0,sL ma ms.length mc_,nV .i64 ms.length,nV .i64 i]) (fun(i:Nat)=>i≤ms.length∧ ∀j,j<i→ruM f (ms.getD j Ff)=false) (fun(i:Nat)=>[[cb p3 (Qp f) 47]]) (fun(i:Nat)=>ms.length-i) 0 Ae ⟨(Nat.zero_le _),(fun j hj=>absurd hj (Nat.not_lt_zero j))⟩ (by rfl) (fun i f7 J6 hp8 hJ6=>?_)))
 obtain⟨hi,hno⟩:=hp8
 refine Ad (fun K9 hK9=>Aa (Ab 1 (Ac (hK9 _ _ _ ?_))))
 refine Ad (fun K10 hK10=>?_)
 refine Ao (decide (((i:Nat):Int)<(ms.length:Int))) Ae (fun h11=>?_) (fun h12=>?_)
 ·have qh11:=h11;try simp only[zA]at qh11
  exfalso;have z_:=of_decide_eq_true h11;omega
 ·have qh12:=h12;try simp only[zA]at qh12
  refine Cr (hK3 _ _ _ (Ad (fun K14 hK14=>Ad (fun K15 hK15=>Aa ?_))))
  refine Ab 4 (Ah (v:=sL fa fx.length fc) (Ys.ld (a:=⟨nb,25,none⟩) rfl Ae Tryz.isAgg30 (fun w_ h_=>by have x_:=(hnt.mem0 h_).ld (q:=25) ((Cq rfl Al).trans rfl);rw[Br]at x_;exact x_)) (Ab 2 (Ac (hK15 _ _ _ ?_))))
  refine W.block (Ep [3,57,58,59] (fun(k:Nat)=>[pV p3 0,sL fa fx.length fc,nV .i64 fx.length,nV .i64 k]) (fun(k:Nat)=>k≤fx.length∧ ∀j,j<k→ruW f (fx.getD j fz)=false) (fun(k:Nat)=>[[cb p3 (Qp f) 47]]) (fun(k:Nat)=>fx.length-k) 0 Ae ⟨(Nat.zero_le _),(fun j hj=>absurd hj (Nat.not_lt_zero j))⟩ (by rfl) (fun k f18 J17 hp19 hJ17=>?_))
  obtain⟨hk,hnw⟩:=hp19
  refine Ad (fun K20 hK20=>Aa (Ab 1 (Ac (hK20 _ _ _ ?_))))
  refine Ad (fun K21 hK21=>?_)
  refine Ao (decide (((k:Nat):Int)<(fx.length:Int))) Ae (fun h22=>?_) (fun h23=>?_)
  ·have qh22:=h22;try simp only[zA]at qh22
   exfalso;have z_:=of_decide_eq_true h22;omega
  ·have qh23:=h23;try simp only[zA]at qh23
   refine Cr (hK14 _ _ _ (Ap [] Al rfl (Ad (fun K25 hK25=>Aa ?_))))
   refine Ab 2 (Ac (hK25 _ _ _ (Aq (fn:=Tryz.f110) rfl (fun w_ hS_=>B9 rfl (Aw (iV .u16 0)) (Aw (bV false)) hS_ ⟨by clear hK1 hK3 hK4 hJ6 hK9 hK10 hK14 hK15 hJ17 hK20 hK21 hK25;refine congrArg Ending.returned ?_;unfold Hg;rw[L1 Ff (fun j hj=>hno j Ag),L1 fz (fun j hj=>hnw j Ag)];rfl,hS_.below⟩))))
abbrev Qq(ds dt fm sr:Int)(p5 pr:Nat):List Blk:=[cb p5 [nV .u8 pr,iV .u32 sr,iV .u32 ds,iV .u16 fm,iV .u16 dt] 47]
abbrev Qr(fm sr:Int)(pr:Nat)(s:NS):List Value:=[iV .u16 ((Bo (⟨0,0⟩:Lse) s.p.zs (((pr:Nat):Int),sr,fm)).ext),iV .i64 ((Bo (⟨0,0⟩:Lse) s.p.zs (((pr:Nat):Int),sr,fm)).count)]
abbrev Qs(ds dt fm sr:Int)(pr:Nat):List Value:=[nV .u8 pr,iV .u32 sr,iV .u32 ds,iV .u16 fm,iV .u16 dt]
theorem Aiz(k:NK)(s:NS)(M:List Nat)(pr:Nat)(sr ds fm dt:Int)(ttl pro pid src dst:Int)(ba:Option Addr)(bl bc:Nat)(bg:Bool)(dr:Nat)(w:World)(ok:NOk k s)(hl:Mem w M [NG k s] w)(hpr:pr<256)(hdr:dr<18446744073709551616)(hct:0≤(Bo (⟨0,0⟩:Lse) s.p.zs (((pr:Nat):Int),sr,fm)).count∧(Bo (⟨0,0⟩:Lse) s.p.zs (((pr:Nat):Int),sr,fm)).count≤1000000)(hext:0≤(Bo (⟨0,0⟩:Lse) s.p.zs (((pr:Nat):Int),sr,fm)).ext∧(Bo (⟨0,0⟩:Lse) s.p.zs (((pr:Nat):Int),sr,fm)).ext≤65535)(hbg: ∀LL w1,Mem w M LL w1→Calls Tryz.prog 99 #[N6 ttl pro pid src dst ba bl bc] w1 (Dc w1 (.bool bg)))(htab:At w (some ⟨0,0,none⟩) (Ci dbt))(hne:0<(Ci dbt).length→(Option.getD (some (⟨0,0,none⟩:Addr)) default).block∉M)(hm0:s.p.ms.length=0)(hf0:k.fx.length=0):Calls Tryz.prog 58 #[pL (some ⟨k.nb,0,none⟩),aV [nV .u8 pr,iV .u32 sr,iV .u32 ds,iV .u16 fm,iV .u16 dt],aV [iV .u8 ttl,iV .u8 pro,iV .u16 pid,iV .u32 src,iV .u32 dst,sL ba bl bc],nV .u64 dr] w (Bj w (fun r:NS×Option (Nat×SesE)×Int=>NOk k r.1∧(Aly k s.p (((pr:Nat):Int),sr,ds,fm,dt) bg dr (r.1.p,r.2)∨Alz k s.p (((pr:Nat):Int),sr,ds,fm,dt) bg dr (r.1.p,r.2))) (fun r=>.tuple #[Anr r.2.1,.int .i64 r.2.2]) M (fun r=>[NG k r.1,Alx r.2.1])):=by
 obtain⟨lxs,lys,lzs,lms,lfs⟩:=NOk.len ok;obtain⟨ep,hep⟩: ∃n:Nat,(Bo (⟨0,0⟩:Lse) s.p.zs (((pr:Nat):Int),sr,fm)).ext=(n:Int):=⟨_,(Int.toNat_of_nonneg hext.1).symm⟩;have hpv_:=U8 (s.p.TT pr) dr;have hru_:(Hg s.p.ms k.fx (((pr:Nat):Int),sr,ds,fm,dt)).isSome=false:=(by rw[List.length_eq_zero_iff.1 hm0,List.length_eq_zero_iff.1 hf0];rfl)
 refine Ar (M:=M) (LL:=[NG k s]) (n:=74) Tryz.func58 rfl rfl A5 (hl) (Ad (fun K1 hK1=>?_))
 refine Aa (Ai rfl (Bx (Qs ds dt fm sr pr) rfl) (fun p5=>?_))
 refine Ai rfl (Bx [iV .u8 ttl,iV .u8 pro,iV .u16 pid,iV .u32 src,iV .u32 dst,sL ba bl bc] rfl) (fun p6=>Ab 2 (Ac (hK1 _ _ _ (Ad (fun K3 hK3=>?_)))))
 refine W.block (Ad (fun K4 hK4=>?_))
 refine Aa (Ah (A0 p6 0 0 0 [iV .u8 ttl,iV .u8 pro,iV .u16 pid,iV .u32 src,iV .u32 dst,sL ba bl bc] Tryz.isAgg40 Tryz.sizeOf40) (B0 (v:=bV bg) (A9 (fun w_ hm_=>(hbg _ _ hm_))) (Ab 2 (Ac ?_))))
 refine hK4 _ _ _ (Ap [1,2] Al rfl ?_)
 refine Ao (!bg) Ae (fun h6=>?_) (fun h7=>?_)
 ·refine Ad (fun K8 hK8=>Aa (Ab 2 (Ac (hK8 _ _ _ ?_))))
  refine Ap [1] Al rfl (Aq (fn:=Tryz.f58) rfl (fun w_ hS_=>B9 rfl (Aw (Value.pointer none)) (Aw (iV .i64 21)) hS_ ⟨(s,none,21),⟨ok,.inl ⟨rfl,.inr rfl,⟨s.p.tk,rfl⟩,.inl (by simpa using h6)⟩⟩,rfl,(Mem.flat (LL:=[NG k s]) rfl hS_)⟩))
 ·refine Ad (fun K10 hK10=>Dh [(0,true),(1,true),(2,true),(3,true),(5,true),(6,true),(7,true),(8,true),(4,false),(9,false),(10,false),(11,false)] [0,1,2,3,5,6,7,8] (Ay 3 (Wd.ys rfl rfl rfl (Bp (b:=k.nb) (o':=29) (i:=1) (j:=0) (cs:=Du k s) (v:=pL (some ⟨k.ts,0,none⟩)) rfl Ae Tryz.isAgg85 rfl rfl ((Cq rfl Al).trans rfl)) (Ay 3 ?_))))
  refine Wd.ys rfl rfl rfl (Bp (b:=k.nb) (o':=29) (i:=1) (j:=0) (cs:=Du k s) (v:=pL (some ⟨k.ts,0,none⟩)) rfl Ae Tryz.isAgg85 rfl rfl ((Cq rfl Al).trans rfl)) (Wd.yc (v:=nV .i64 s.p.xs.length) rfl rfl rfl (A9 (fun w_ hm_=>(Z1 s.p.xs s.gs.a s.gs.cap k.mo k.ts _ (Ku (i:=1) hm_ rfl) (NG.xs (i:=1) hm_ rfl ok) Fb ok.hxs))) (.inr fun _ h_=>h_) (Wd.yc (v:=iV .i64 k.mo) rfl rfl rfl (A9 (fun w_ hm_=>(Adq s.p.xs s.gs.a s.gs.cap k.mo k.ts _ (Ku (i:=1) hm_ rfl) (NG.xs (i:=1) hm_ rfl ok) Fb ok.hxs))) (.inr fun _ h_=>h_) (Wd.yc (v:=bV (decide (((s.p.xs.length:Nat):Int)≥k.mo))) rfl rfl rfl (Ys.yc (Ys.p)) (.inr fun _ h_=>h_) (Wd.yc (v:=bV (decide (((s.p.xs.length:Nat):Int)≥k.mo))) rfl rfl rfl (Ys.yc (Ys.p)) (.inr fun _ h_=>h_) ?_))))
  refine A7 (hK10 _ _ _ ?_)
  refine Ao (decide (((s.p.xs.length:Nat):Int)≥k.mo)) Ae (fun h12=>?_) (fun h13=>?_)
  ·have qh12:=h12;try simp only[zA]at qh12
   refine Ad (fun K14 hK14=>Aa (Ab 2 (Ac (hK14 _ _ _ ?_))))
   refine Ap [1] Al rfl (Aq (fn:=Tryz.f58) rfl (fun w_ hS_=>B9 rfl (Aw (pL none)) (Aw (iV .i64 20)) hS_ ⟨(s,none,20),⟨ok,.inl ⟨rfl,.inl rfl,⟨s.p.tk,rfl⟩,.inr (.inl (by have z_:=of_decide_eq_true h12;omega))⟩⟩,rfl,(Mem.flat (LL:=[NG k s]) rfl hS_)⟩))
  ·have qh13:=h13;try simp only[zA]at qh13
   refine Ak (hK3 _ _ _ (Ad (fun K17 hK17=>Ad (fun K18 hK18=>Aa ?_))))
   refine Ab 1 (Ah (A0 p5 0 0 0 (Qs ds dt fm sr pr) Tryz.isAgg47 Tryz.sizeOf47) (B0 (v:=Value.tuple #[iV .u16 ((Hg s.p.ms k.fx (((pr:Nat):Int),sr,ds,fm,dt)).getD 0),bV ((Hg s.p.ms k.fx (((pr:Nat):Int),sr,ds,fm,dt)).isSome)]) (A9 (fun w_ hm_=>(Afc k.c k.fx k.gf.a k.gf.cap s.p.ms s.gm.a s.gm.cap k.ts k.te s.p.tk k.wb k.ti s.p.lst k.nb (((pr:Nat):Int),sr,ds,fm,dt) _ (Az (i:=1) (j:=0) (t:=91) (b:=k.nb) hm_ rfl rfl) (NG.fx (i:=1) hm_ rfl ok) Ef (NG.ms (i:=1) hm_ rfl ok) Ef hm0 hf0))) (Ab 2 (Ah (v:=bV false) ((Ys.p (v:=bV ((Hg s.p.ms k.fx (((pr:Nat):Int),sr,ds,fm,dt)).isSome))).conseq (Cj (hru_))) ?_))))
   refine Ab 2 (Ac (hK18 _ _ _ (Ad (fun K20 hK20=>Aa ?_))))
   refine Ab 1 (Ac (hK20 _ _ _ (B4 Ae (Ak ?_))))
   refine hK17 _ _ _ (Ad (fun K22 hK22=>?_))
   refine Ad (fun K23 hK23=>E2 [0,1,2,3,4,7,8,9,12] (Mem w M [Qq ds dt fm sr p5 pr,NG k s]) Ae Ae (fun _ _ h_=>h_.drawn _) ?_)
   refine Dw (w0:=w) (M:=M) [0,3,5,12,51,52] (fun(z30:Nat)=>[pL (some ⟨k.nb,0,none⟩),nV .u64 dr,pV p5 0,pV z30 0,aV (Qr fm sr pr s),bV (Bl s.p.zs (((pr:Nat):Int),sr,fm))]) (fun(z30:Nat)=>True) (fun(z30:Nat)=>[[cb z30 zl8 99],Qq ds dt fm sr p5 pr,NG k s]) 2 #[true,true,true,true,true,true,true,true,true,true,true,false,false] (fun z30 hp31 f32=>?_) (fun JD28=>?_)
   ·obtain⟨p12,rfl⟩: ∃a_,a_=z30:=⟨_,rfl⟩
    refine A3 (i:=11) Ae (Ch rfl rfl (A4 p12 0 0 0 (Qr fm sr pr s) Tryz.sizeOf99 rfl rfl) (.inr fun _ _ h_=>h_.pick [1,2] Al rfl) (fun _=>?_))
    refine Wa.ys (v:=bV (Bl s.p.zs (((pr:Nat):Int),sr,fm))) (i:=12) Ae Ae Ae Ae (fun _ h_=>h_.pick [1,2] Al rfl) rfl rfl rfl (Ys.p) (D1 Ae (hK23 _ _ _ (Ad (fun K34 hK34=>Aa ?_))))
    refine Ab 1 (Ac (hK34 _ _ _ ?_))
    refine Ao (Bl s.p.zs (((pr:Nat):Int),sr,fm)) Ae (fun h35=>?_) (fun h36=>?_)
    ·refine Ad (fun K37 hK37=>Aa (Ab 1 (Ah (A0 p5 0 1 0 (Qs ds dt fm sr pr) Tryz.isAgg47 Tryz.sizeOf47) (Ab 1 ?_))))
     refine Ah (v:=nV .u16 ep) (Ys.conseq (v:=iV .u16 ((Bo (⟨0,0⟩:Lse) s.p.zs (((pr:Nat):Int),sr,fm)).ext)) (Af (hep)) (An p12 0 0 0 Tryz.isAgg22)) (Ax rfl (Au [2] [0,1] (fun w_ hm_ hl_=>(Abg k s _ pr sr ds fm dt ep _ ok hl_ Ag Ag hct))) (fun q44 hx46=>?_))
     obtain⟨s41,xb38,pb39⟩:=q44
     dsimp only at hx46
     obtain⟨ok42,hp43,hat40⟩:=hx46
     refine Bu (LL':=[NG k s41,[cb xb38 [nV .u8 pr,iV .u32 sr,iV .u32 ds,iV .u16 fm,iV .u16 dt,nV .u16 ep,iV .u64 0,bV false,bV false,bV false,bV false,bV false,bV false,iV .u64 s.p.lst,bV true] 113],[cb p12 (Qr fm sr pr s) 99],Qq ds dt fm sr p5 pr]) rfl ?_
     obtain⟨lxs41,lys41,lzs41,lms41,lfs41⟩:=NOk.len ok42
     refine Ab 2 (Ac (hK37 _ _ _ (Ap [0,1] Al rfl (Aq (fn:=Tryz.f58) rfl (fun w_ hS_=>B9 rfl (Aw (pV xb38 0)) (Aw (iV .i64 0)) hS_ ⟨(s41,some (xb38,Pc (((pr:Nat):Int),sr,ds,fm,dt) (ep:Int) s.p.lst true),0),⟨ok42,.inr ⟨rfl,by simpa using h7,by have z_:=of_decide_eq_false h13;omega,⟨(ep:Int),true,xb38,pb39,.inr (.inl ⟨Kv hru_,rfl,h35,hep.symm⟩),rfl,hp43⟩⟩⟩,rfl,(hS_.pick [0,1] Al rfl)⟩)))))
    ·refine Ak (hK22 _ _ _ (Ap [1,2] Al rfl (Ad (fun K49 hK49=>Aa ?_))))
     refine Ab 2 (Ah (An p5 0 0 0 Tryz.isAgg5) (Ax rfl (Au (args:= #[pL (some ⟨k.nb,0,none⟩),nV .u8 pr]) [1] [0] (fun w_ hm_ hl_=>(Abd Ag ok hl_))) (fun q55 hx58=>?_)))
     obtain⟨s52,pb50⟩:=q55
     dsimp only at hx58
     obtain⟨ok53,hp54,htk51⟩:=hx58
     refine Bu (LL':=[NG k s52,Qq ds dt fm sr p5 pr]) rfl ?_
     obtain⟨lxs52,lys52,lzs52,lms52,lfs52⟩:=NOk.len ok53
     have hset57:s52.p.tk pr=some pb50:=by rw[hp54];exact E3 _ _ _
     refine Ab 1 (Ax rfl (Au (args:= #[pV pb50 0,nV .u64 dr]) [0] [1] (fun w_ hm_ hl_=>(Aix Ag Ag hset57 (htab.mem' hm_ hne) ok53 hl_))) (fun s59 hx65=>?_))
     obtain⟨ok60,hp61⟩:=hx65
     obtain⟨lxs59,lys59,lzs59,lms59,lfs59⟩:=NOk.len ok60
     have hset63:s59.p.tk pr=some pb50:=by rw[hp61];exact hset57
     have hpv64:=U8 (s52.p.TT pr) dr
     refine Ab 5 (Ac (hK49 _ _ _ (Ad (fun K67 hK67=>Ad (fun K68 hK68=>?_)))))
     refine Aa (Ab 2 (Ac (hK68 _ _ _ ?_)))
     refine Ao (!(decide (pk (s52.p.TT pr) dr<65536))) Ae (fun h70=>?_) (fun h71=>?_)
     ·have qh70:=h70;try simp only[zA]at qh70
      refine Ad (fun K72 hK72=>Aa (Ab 2 (Ac (hK72 _ _ _ ?_))))
      refine Ap [0] Al rfl (Aq (fn:=Tryz.f58) rfl ?_)
      have hnp_: ¬pk (s.p.TT pr) dr<65536:=by have z_:=h70;rw[show s52.p.TT=s.p.TT by rw[hp54]]at z_;simp at z_;omega
      exact fun w_ hS_=>B9 rfl (Aw (pL none)) (Aw (iV .i64 20)) hS_ ⟨(s59,none,20),⟨ok60,.inl ⟨rfl,.inl rfl,⟨s59.p.tk,by rw[hp61,hp54];show({s.p with tk:=_,TT:=F5 s.p.TT pr (Wx (s.p.TT pr) dr)}:NP)=_;rw[Afb hnp_]⟩,.inr (.inr ⟨Kv hru_,h36,hnp_⟩)⟩⟩,rfl,(Mem.flat (LL:=[NG k s59]) rfl hS_)⟩
     ·have qh71:=h71;try simp only[zA]at qh71
      refine Ak (hK67 _ _ _ (Ad (fun K75 hK75=>Aa (Ab 1 ?_))))
      refine Ah (A0 p5 0 1 0 (Qs ds dt fm sr pr) Tryz.isAgg47 Tryz.sizeOf47) (Ab 1 (Ax rfl (Au [0] [1] (fun w_ hm_ hl_=>(Abg k s59 _ pr sr ds fm dt (L8 (s52.p.TT pr) dr) _ ok60 hl_ Ag Ag (by rw[show s59.p.zs=s.p.zs by rw[hp61,hp54]];exact hct)))) (fun q82 hx84=>?_)))
      obtain⟨s79,xb76,pb77⟩:=q82
      dsimp only at hx84
      obtain⟨ok80,hp81,hat78⟩:=hx84
      refine Bu (LL':=[NG k s79,[cb xb76 [nV .u8 pr,iV .u32 sr,iV .u32 ds,iV .u16 fm,iV .u16 dt,nV .u16 (L8 (s52.p.TT pr) dr),iV .u64 0,bV false,bV false,bV false,bV false,bV false,bV false,iV .u64 s59.p.lst,bV true] 113],Qq ds dt fm sr p5 pr]) rfl ?_
      obtain⟨lxs79,lys79,lzs79,lms79,lfs79⟩:=NOk.len ok80
      refine Ab 2 (Ac (hK75 _ _ _ (Ap [0,1] Al rfl (Aq (fn:=Tryz.f58) rfl ?_))))
      have hT1_:s52.p.TT=s.p.TT:=by rw[hp54]
      have hpk_:pk (s.p.TT pr) dr<65536:=by have z_:=h71;rw[hT1_]at z_;simpa using z_
      have hl1_:s59.p.lst=s.p.lst:=by rw[hp61,hp54]
      have hP_:=(Yj (k:=k) (p:=s.p) (p2:=s59.p) (f:=(((pr:Nat):Int),sr,ds,fm,dt)) (xb:=xb76) (pb:=pb77) (b:=pb50) (by rw[hp61,hp54];rfl) hpk_)
      exact fun w_ hS_=>B9 rfl (Aw (pV xb76 0)) (Aw (iV .i64 0)) hS_ ⟨(s79,some (xb76,Pc (((pr:Nat):Int),sr,ds,fm,dt) (L8 (s.p.TT pr) dr:Int) s.p.lst true),0),⟨ok80,.inr ⟨rfl,by simpa using h7,by have z_:=of_decide_eq_false h13;omega,⟨_,true,xb76,pb77,.inr (.inr ⟨Kv hru_,rfl,h36,hpk_,rfl⟩),rfl,(by rw[hp81,hT1_];exact hP_)⟩⟩⟩,rfl,(Mem.cast (LL:=[NG k s79,[cb xb76 [nV .u8 pr,iV .u32 sr,iV .u32 ds,iV .u16 fm,iV .u16 dt,nV .u16 (L8 (s52.p.TT pr) dr),iV .u64 0,bV false,bV false,bV false,bV false,bV false,bV false,iV .u64 s59.p.lst,bV true] 113]]) (by rw[hT1_,hl1_];rfl) (hS_.pick [0,1] Al rfl))⟩
   ·refine Dw (w0:=w) (M:=M) [0,3,5,12,47,49] (fun(z86:Nat)=>[pL (some ⟨k.nb,0,none⟩),nV .u64 dr,pV p5 0,pV z86 0,pL (some ⟨k.te,0,none⟩),aV [nV .u8 pr,iV .u32 sr,iV .u16 fm]]) (fun(z86:Nat)=>True) (fun(z86:Nat)=>[[cb z86 zl8 99],Qq ds dt fm sr p5 pr,NG k s]) 6 #[true,true,true,true,true,true,false,false,false,false,true,false,false] (fun z86 hp87 f88=>?_) (fun JD27=>?_)
    ·obtain⟨p12,rfl⟩: ∃a_,a_=z86:=⟨_,rfl⟩
     refine A3 (i:=6) Ae (Wo.yc (v:=Value.tuple #[aV (Qr fm sr pr s),bV (Bl s.p.zs (((pr:Nat):Int),sr,fm))]) rfl rfl rfl (A9 (fun w_ hm_=>(Mh s.p.zs s.ge.a s.ge.cap k.mo k.te (((pr:Nat):Int),sr,fm) _ (Jp (i:=2) hm_ rfl) (NG.zs (i:=2) hm_ rfl ok) Fb ok.hzs))) (.inr fun _ h_=>h_.pick [1,2] Al rfl) (Wa.ys (v:=Value.tuple #[aV (Qr fm sr pr s),bV (Bl s.p.zs (((pr:Nat):Int),sr,fm))]) (i:=7) Ae Ae Ae Ae (fun _ h_=>h_.pick [1,2] Al rfl) rfl rfl rfl (Ys.p) (Wa.ys (v:=aV (Qr fm sr pr s)) (i:=8) Ae Ae Ae Ae (fun _ h_=>h_.pick [1,2] Al rfl) rfl rfl rfl (Ys.p) (Wa.ys (v:=bV (Bl s.p.zs (((pr:Nat):Int),sr,fm))) (i:=9) Ae Ae Ae Ae (fun _ h_=>h_.pick [1,2] Al rfl) rfl rfl rfl (Ys.p) ?_))))
     exact Cb [0,3,5,12,51,52] [pL (some ⟨k.nb,0,none⟩),nV .u64 dr,pV p5 0,pV p12 0,aV [iV .u16 ((Bo (⟨0,0⟩:Lse) s.p.zs (((pr:Nat):Int),sr,fm)).ext),iV .i64 ((Bo (⟨0,0⟩:Lse) s.p.zs (((pr:Nat):Int),sr,fm)).count)],bV (Bl s.p.zs (((pr:Nat):Int),sr,fm))] #[true,true,true,true,true,true,true,true,true,true,true,false,false] (JD28 p12 trivial) Ae Ae (fun _ h_=>h_)
    ·refine Wa.ys (v:=pL (some ⟨k.nb,0,none⟩)) (i:=0) Ae Ae Ae Ae (fun _ h_=>h_) rfl rfl rfl (Ys.p) (Wa.ys (v:=pL (some ⟨k.nb,0,none⟩)) (i:=1) Ae Ae Ae Ae (fun _ h_=>h_) rfl rfl rfl (Ys.p) (Wa.ys (v:=pL (some ⟨k.nb,30,none⟩)) (i:=2) Ae Ae Ae Ae (fun _ h_=>h_) rfl rfl rfl (Ys.p) (Wa.ys (i:=3) Ae Ae Ae Ae (fun _ h_=>h_) rfl rfl rfl (Bp (b:=k.nb) (o':=30) (i:=1) (j:=0) (cs:=Du k s) (v:=pL (some ⟨k.te,0,none⟩)) rfl Ae Tryz.isAgg86 rfl rfl ((Cq rfl Al).trans rfl)) (Wa.ys (v:=aV (Qs ds dt fm sr pr)) (i:=4) Ae Ae Ae Ae (fun _ h_=>h_) rfl rfl rfl (A0 p5 0 0 0 (Qs ds dt fm sr pr) Tryz.isAgg47 Tryz.sizeOf47) ?_))))
     refine C3 (i:=5) (j:=10) Ae ?_ ?_
     ·refine Wo.yc (v:=aV [nV .u8 pr,iV .u32 sr,iV .u16 fm]) rfl rfl rfl (A9 (fun w_ hm_=>(Ks (pr:Int) sr ds fm dt _))) (.inr fun _ h_=>h_) ?_
      refine C3 (i:=6) (j:=10) Ae ?_ ?_
      ·refine Wo.yc (v:=Value.tuple #[aV (Qr fm sr pr s),bV (Bl s.p.zs (((pr:Nat):Int),sr,fm))]) rfl rfl rfl (A9 (fun w_ hm_=>(Mh s.p.zs s.ge.a s.ge.cap k.mo k.te (((pr:Nat):Int),sr,fm) _ (Jp (i:=1) hm_ rfl) (NG.zs (i:=1) hm_ rfl ok) Fb ok.hzs))) (.inr fun _ h_=>h_) (Wa.ys (v:=Value.tuple #[aV (Qr fm sr pr s),bV (Bl s.p.zs (((pr:Nat):Int),sr,fm))]) (i:=7) Ae Ae Ae Ae (fun _ h_=>h_) rfl rfl rfl (Ys.p) (Wa.ys (v:=aV (Qr fm sr pr s)) (i:=8) Ae Ae Ae Ae (fun _ h_=>h_) rfl rfl rfl (Ys.p) (Wa.ys (v:=bV (Bl s.p.zs (((pr:Nat):Int),sr,fm))) (i:=9) Ae Ae Ae Ae (fun _ h_=>h_) rfl rfl rfl (Ys.p) (A3 (i:=10) Ae ?_))))
       refine Ch rfl rfl (Bc Tryz.zeroValue99) (.inr fun _ _ h_=>h_.pick [1,2] Al rfl) (fun p12=>?_)
       exact Cb [0,3,5,12,51,52] [pL (some ⟨k.nb,0,none⟩),nV .u64 dr,pV p5 0,pV p12 0,aV [iV .u16 ((Bo (⟨0,0⟩:Lse) s.p.zs (((pr:Nat):Int),sr,fm)).ext),iV .i64 ((Bo (⟨0,0⟩:Lse) s.p.zs (((pr:Nat):Int),sr,fm)).count)],bV (Bl s.p.zs (((pr:Nat):Int),sr,fm))] #[true,true,true,true,true,true,true,true,true,true,true,false,false] (JD28 p12 trivial) Ae Ae (fun _ h_=>h_)
      ·refine Ch rfl rfl (Bc Tryz.zeroValue99) (.inr fun _ _ h_=>h_.pick [1,2] Al rfl) (fun p12=>?_)
       exact Cb [0,3,5,12,47,49] [pL (some ⟨k.nb,0,none⟩),nV .u64 dr,pV p5 0,pV p12 0,pL (some ⟨k.te,0,none⟩),aV [nV .u8 pr,iV .u32 sr,iV .u16 fm]] #[true,true,true,true,true,true,false,false,false,false,true,false,false] (JD27 p12 trivial) Ae Ae (fun _ h_=>h_)
     ·refine Ch rfl rfl (Bc Tryz.zeroValue99) (.inr fun _ _ h_=>h_.pick [1,2] Al rfl) (fun p12=>A3 (i:=5) Ae (Wo.yc (v:=aV [nV .u8 pr,iV .u32 sr,iV .u16 fm]) rfl rfl rfl (A9 (fun w_ hm_=>(Ks (pr:Int) sr ds fm dt _))) (.inr fun _ h_=>h_.pick [1,2] Al rfl) ?_))
      exact Cb [0,3,5,12,47,49] [pL (some ⟨k.nb,0,none⟩),nV .u64 dr,pV p5 0,pV p12 0,pL (some ⟨k.te,0,none⟩),aV [nV .u8 pr,iV .u32 sr,iV .u16 fm]] #[true,true,true,true,true,true,false,false,false,false,true,false,false] (JD27 p12 trivial) Ae Ae (fun _ h_=>h_)
def Gt(pr:Int)(s0 s1 s2 s3 s4:Bool):Int:=bif pr==1 then 60 else bif pr==17 then 300 else bif pr==6 then(bif (s0&&s1)&& !(s4||(s2&&s3))then 7440 else 240)else 0
theorem Id(s0 s1 s2 s3 s4:Bool):Gt 17 s0 s1 s2 s3 s4=300:=rfl
structure RenE(e:SesE)(now:Int)(out:Bool)(r:SesE):Prop where
  pr:r.pr=e.pr
  src:r.src=e.src
  dst:r.dst=e.dst
  frm:r.frm=e.frm
  dto:r.dto=e.dto
  ext:r.ext=e.ext
  id:r.id=e.id
  given:r.given=e.given
  lan:r.lan=(e.lan||out)
  ends:e.pr=17→r.ends=U9 now
theorem Abh(fl:Int)(w:World):Calls Tryz.prog 140 #[iV .u8 fl] w (Dc w (.bool ((Cn .u8 fl 22)==2))):=by
 refine Ar (M:=[]) (LL:=[]) (n:=6) Tryz.func140 rfl rfl A5 (Mem.refl _) (Ad (fun K1 hK1=>?_))
 refine Aa (Ab 1 (Ac (hK1 _ _ _ (Ad (fun K2 hK2=>?_)))))
 refine Aa (Ab 4 (Ac (hK2 _ _ _ (Aq (fn:=Tryz.f140) rfl (fun w_ hS_=>Bb rfl (Aw (bV ((Cn .u8 fl 22)==2))) hS_ ⟨rfl,hS_.below⟩)))))
theorem Abi(s0 s1 s2 s3 s4:Bool)(w:World):Calls Tryz.prog 139 #[aV [bV s0,bV s1,bV s2,bV s3,bV s4]] w (Dc w (.bool (s4||(s2&&s3)))):=by
 refine Ar (M:=[]) (LL:=[]) (n:=13) Tryz.func139 rfl rfl A5 (Mem.refl _) (Ad (fun K1 hK1=>?_))
 refine Aa (Ai rfl (Bx [bV s0,bV s1,bV s2,bV s3,bV s4] rfl) (fun p1=>?_))
 refine Ab 1 (Ac (hK1 _ _ _ (Ad (fun K3 hK3=>Aa ?_))))
 refine Ab 1 (Ah (An p1 4 0 0 Tryz.isAgg4) (Ab 1 ?_))
 refine Am (v:=pV p1 2) (!s4) rfl (B3 rfl Ae) rfl (fun hg4=>?_) ?_
 ·exact Ys.p
 refine Am (v:=bV s2) (!s4) rfl (B3 rfl Ae) rfl (fun hg5=>?_) ?_
 ·refine Bh (t:=6) (v0:=pV p1 2) (lz (g:= !s4) (u:=undef) hg5 Ae) ?_
  exact An p1 2 0 0 Tryz.isAgg4
 refine Am (v:=bV s2) (!s4) rfl (B3 rfl Ae) rfl (fun hg6=>?_) ?_
 ·refine Bh (t:=7) (v0:=bV s2) (lz (g:= !s4) (u:=undef) hg6 Ae) ?_
  exact Ys.p
 refine Am (v:=pV p1 3) ((!s4)&&s2) rfl (Zo rfl rfl Ae) rfl (fun hg7=>?_) ?_
 ·exact Ys.p
 refine Am (v:=bV s3) ((!s4)&&s2) rfl (Zo rfl rfl Ae) rfl (fun hg8=>?_) ?_
 ·refine Bh (t:=9) (v0:=pV p1 3) (lz (g:=(!s4)&&s2) (u:=undef) hg8 Ae) ?_
  exact An p1 3 0 0 Tryz.isAgg4
 refine Am (v:=bV (s2&&s3)) (!s4) rfl (B3 rfl Ae) rfl (fun hg9=>?_) ?_
 ·refine Bh (t:=8) (v0:=bV s2) (lz (g:= !s4) (u:=undef) hg9 Ae) (Bh (t:=10) (v0:=(bif s2 then bV s3 else undef)) (lz2 (g:= !s4) hg9 Ae) ?_)
  exact D0 (e:=s2) (b:=s3) rfl Ae Ae Ae
 refine Ah (v:=bV (s4||(s2&&s3))) (Dr (e:=s4) (b:=s2&&s3) rfl Ae Ae Ae) (Ab 1 (Ac (hK3 _ _ _ (Ap [] Al rfl ?_))))
 refine Aq (fn:=Tryz.f139) rfl (fun w_ hS_=>Bb rfl (Aw (bV (s4||(s2&&s3)))) hS_ ⟨rfl,hS_.below⟩)
theorem Ai0(s0 s1 s2 s3 s4:Bool)(fl:Int)(out:Bool)(w:World):Calls Tryz.prog 89 #[aV [bV s0,bV s1,bV s2,bV s3,bV s4],iV .u8 fl,bV out] w (Bj w (fun _:Bool×Bool×Bool×Bool×Bool=>True) (fun q=>.agg [.bool q.1,.bool q.2.1,.bool q.2.2.1,.bool q.2.2.2.1,.bool q.2.2.2.2].toArray) [] (fun _=>[])):=by
 refine Ar (M:=[]) (LL:=[]) (n:=59) Tryz.func89 rfl rfl A5 (Mem.refl _) (Ad (fun K1 hK1=>?_))
 refine Aa (Ai rfl (Bx [bV s0,bV s1,bV s2,bV s3,bV s4] rfl) (fun p3=>?_))
 refine Ai rfl (Bc Tryz.zeroValue72) (fun p6=>Ac (hK1 _ _ _ (Ad (fun K3 hK3=>Ad (fun K4 hK4=>?_)))))
 refine Aa (Ab 2 ?_)
 refine Am (v:=aV [bV s0,bV s1,bV s2,bV s3,bV s4]) (out) rfl (Bi rfl Ae) rfl (fun hg5=>?_) ?_
 ·exact A0 p3 0 1 0 [bV s0,bV s1,bV s2,bV s3,bV s4] Tryz.isAgg72 Tryz.sizeOf72
 refine Dn (v:=bV (s4||(s2&&s3))) (out) rfl (Bi rfl Ae) rfl (fun hg6=>?_) ?_
 ·refine Eh (t:=11) (v0:=aV [bV s0,bV s1,bV s2,bV s3,bV s4]) (lz (g:=out) (u:=undef) hg6 Ae) ?_
  exact A9 (fun w_ hm_=>(Abi s0 s1 s2 s3 s4 _))
 refine Ah (v:=bV (out&&(s4||(s2&&s3)))) (D0 (e:=out) (b:=s4||(s2&&s3)) rfl Ae Ae Ae) (Ab 1 ?_)
 refine Am (v:=iV .u8 fl) (out&&(s4||(s2&&s3))) rfl (Bi rfl Ae) rfl (fun hg7=>?_) ?_
 ·exact Ys.p
 refine Dn (v:=bV ((Cn .u8 fl 22)==2)) (out&&(s4||(s2&&s3))) rfl (Bi rfl Ae) rfl (fun hg8=>?_) ?_
 ·refine Eh (t:=15) (v0:=iV .u8 fl) (lz (g:=out&&(s4||(s2&&s3))) (u:=undef) hg8 Ae) ?_
  exact A9 (fun w_ hm_=>(Abh fl _))
 refine Ah (v:=bV ((out&&(s4||(s2&&s3)))&&((Cn .u8 fl 22)==2))) (D0 (e:=out&&(s4||(s2&&s3))) (b:=(Cn .u8 fl 22)==2) rfl Ae Ae Ae) (Ac (hK4 _ _ _ ?_))
 refine Ao ((out&&(s4||(s2&&s3)))&&((Cn .u8 fl 22)==2)) Ae (fun h10=>?_) (fun h11=>?_)
 ·have qh10:=h10;try simp only[zA]at qh10
  refine Ad (fun K12 hK12=>Aa (Ab 1 (Ai rfl (A4 p6 0 0 0 [bV true,bV false,bV false,bV false,bV false] Tryz.sizeOf72 rfl rfl) (fun _=>Ac ?_))))
  refine hK12 _ _ _ (Ap [0] Al rfl (Aq (fn:=Tryz.f89) rfl (fun w_ hS_=>Bb rfl (Bq p6 0 0 0 [bV true,bV false,bV false,bV false,bV false] Tryz.isAgg72 Tryz.sizeOf72) hS_ ⟨(true,false,false,false,false),trivial,rfl,(hS_.pick [] Al rfl)⟩)))
 ·have qh11:=h11;try simp only[zA]at qh11
  refine Ak (hK3 _ _ _ (Ad (fun K15 hK15=>Aa (Ab 8 ?_))))
  refine Ac (hK15 _ _ _ (Ad (fun K17 hK17=>Aa (Ab 1 ?_))))
  refine Ah (An p3 4 1 0 Tryz.isAgg4) (Ab 1 ?_)
  refine Am (v:=iV .u8 fl) (!s4) rfl (B3 rfl Ae) rfl (fun hg18=>?_) ?_
  ·exact Ys.p
  refine Am (v:=iV .u8 (Cn .u8 fl 4)) (!s4) rfl (B3 rfl Ae) rfl (fun hg19=>?_) ?_
  ·refine Bh (t:=28) (v0:=iV .u8 fl) (lz (g:= !s4) (u:=undef) hg19 Ae) ?_
   exact Ys.p
  refine Am (v:=bV ((Cn .u8 fl 4) !=0)) (!s4) rfl (B3 rfl Ae) rfl (fun hg20=>?_) ?_
  ·refine Bh (t:=29) (v0:=iV .u8 (Cn .u8 fl 4)) (lz (g:= !s4) (u:=undef) hg20 Ae) ?_
   exact Ys.p
  refine Ah (v:=bV (s4||((Cn .u8 fl 4) !=0))) (Dr (e:=s4) (b:=(Cn .u8 fl 4) !=0) rfl Ae Ae Ae) (Ab 1 (Ai rfl (Bg p3 4 1 0 (bV (s4||((Cn .u8 fl 4) !=0))) Tryz.sizeOf4 rfl rfl) (fun _=>Ac (hK17 _ _ _ ?_))))
  refine Ad (fun K22 hK22=>Ad (fun K23 hK23=>?_))
  refine Aa (Ab 1 (Ac (hK23 _ _ _ ?_)))
  refine Ao (out) Ae (fun h24=>?_) (fun h25=>?_)
  ·refine Aa (Ab 1 (Ah (An p3 0 1 0 Tryz.isAgg4) (Ab 1 ?_)))
   refine Am (v:=bV ((Cn .u8 fl 2) !=0)) (!s0) rfl (B3 rfl Ae) rfl (fun hg26=>?_) ?_
   ·exact Ys.p
   refine Ah (v:=bV (s0||((Cn .u8 fl 2) !=0))) (Dr (e:=s0) (b:=(Cn .u8 fl 2) !=0) rfl Ae Ae Ae) (Ab 1 (Ah (An p3 2 1 0 Tryz.isAgg4) (Ab 1 ?_)))
   refine Am (v:=bV ((Cn .u8 fl 1) !=0)) (!s2) rfl (B3 rfl Ae) rfl (fun hg27=>?_) ?_
   ·exact Ys.p
   refine Ah (v:=bV (s2||((Cn .u8 fl 1) !=0))) (Dr (e:=s2) (b:=(Cn .u8 fl 1) !=0) rfl Ae Ae Ae) (Ab 1 (Ai rfl (Bg p3 0 1 0 (bV (s0||((Cn .u8 fl 2) !=0))) Tryz.sizeOf4 rfl rfl) (fun _=>Ab 1 (Ai rfl (Bg p3 2 1 0 (bV (s2||((Cn .u8 fl 1) !=0))) Tryz.sizeOf4 rfl rfl) (fun _=>?_)))))
   refine Ac (hK22 _ _ _ (Ad (fun K29 hK29=>Aa (Ah (A0 p3 0 1 0 [bV (s0||((Cn .u8 fl 2) !=0)),bV s1,bV (s2||((Cn .u8 fl 1) !=0)),bV s3,bV (s4||((Cn .u8 fl 4) !=0))] Tryz.isAgg72 Tryz.sizeOf72) ?_))))
   refine Ai rfl (A4 p6 0 0 0 [bV (s0||((Cn .u8 fl 2) !=0)),bV s1,bV (s2||((Cn .u8 fl 1) !=0)),bV s3,bV (s4||((Cn .u8 fl 4) !=0))] Tryz.sizeOf72 rfl rfl) (fun _=>Ac (hK29 _ _ _ (Ap [0] Al rfl (Aq (fn:=Tryz.f89) rfl (fun w_ hS_=>Bb rfl (Bq p6 0 0 0 [bV (s0||((Cn .u8 fl 2) !=0)),bV s1,bV (s2||((Cn .u8 fl 1) !=0)),bV s3,bV (s4||((Cn .u8 fl 4) !=0))] Tryz.isAgg72 Tryz.sizeOf72) hS_ ⟨(s0||((Cn .u8 fl 2) !=0),s1,s2||((Cn .u8 fl 1) !=0),s3,s4||((Cn .u8 fl 4) !=0)),trivial,rfl,(hS_.pick [] Al rfl)⟩)))))
  ·refine Aa (Ab 1 (Ah (An p3 1 1 0 Tryz.isAgg4) (Ab 1 ?_)))
   refine Am (v:=bV ((Cn .u8 fl 2) !=0)) (!s1) rfl (B3 rfl Ae) rfl (fun hg31=>?_) ?_
   ·exact Ys.p
   refine Ah (v:=bV (s1||((Cn .u8 fl 2) !=0))) (Dr (e:=s1) (b:=(Cn .u8 fl 2) !=0) rfl Ae Ae Ae) (Ab 1 (Ah (An p3 3 1 0 Tryz.isAgg4) (Ab 1 ?_)))
   refine Am (v:=bV ((Cn .u8 fl 1) !=0)) (!s3) rfl (B3 rfl Ae) rfl (fun hg32=>?_) ?_
   ·exact Ys.p
   refine Ah (v:=bV (s3||((Cn .u8 fl 1) !=0))) (Dr (e:=s3) (b:=(Cn .u8 fl 1) !=0) rfl Ae Ae Ae) (Ab 1 (Ai rfl (Bg p3 1 1 0 (bV (s1||((Cn .u8 fl 2) !=0))) Tryz.sizeOf4 rfl rfl) (fun _=>Ab 1 (Ai rfl (Bg p3 3 1 0 (bV (s3||((Cn .u8 fl 1) !=0))) Tryz.sizeOf4 rfl rfl) (fun _=>?_)))))
   refine Ac (hK22 _ _ _ (Ad (fun K34 hK34=>Aa (Ah (A0 p3 0 1 0 [bV s0,bV (s1||((Cn .u8 fl 2) !=0)),bV s2,bV (s3||((Cn .u8 fl 1) !=0)),bV (s4||((Cn .u8 fl 4) !=0))] Tryz.isAgg72 Tryz.sizeOf72) ?_))))
   refine Ai rfl (A4 p6 0 0 0 [bV s0,bV (s1||((Cn .u8 fl 2) !=0)),bV s2,bV (s3||((Cn .u8 fl 1) !=0)),bV (s4||((Cn .u8 fl 4) !=0))] Tryz.sizeOf72 rfl rfl) (fun _=>Ac (hK34 _ _ _ (Ap [0] Al rfl (Aq (fn:=Tryz.f89) rfl (fun w_ hS_=>Bb rfl (Bq p6 0 0 0 [bV s0,bV (s1||((Cn .u8 fl 2) !=0)),bV s2,bV (s3||((Cn .u8 fl 1) !=0)),bV (s4||((Cn .u8 fl 4) !=0))] Tryz.isAgg72 Tryz.sizeOf72) hS_ ⟨(s0,s1||((Cn .u8 fl 2) !=0),s2,s3||((Cn .u8 fl 1) !=0),s4||((Cn .u8 fl 4) !=0)),trivial,rfl,(hS_.pick [] Al rfl)⟩)))))
theorem Xd(pr:Int)(s0 s1 s2 s3 s4:Bool)(w:World):Calls Tryz.prog 90 #[iV .u8 pr,aV [bV s0,bV s1,bV s2,bV s3,bV s4]] w (Dc w (.int .u64 (Gt pr s0 s1 s2 s3 s4))):=by
 refine Ar (M:=[]) (LL:=[]) (n:=23) Tryz.func90 rfl rfl A5 (Mem.refl _) (Ad (fun K1 hK1=>?_))
 refine Aa (Ai rfl (Bx [bV s0,bV s1,bV s2,bV s3,bV s4] rfl) (fun p3=>?_))
 refine Ab 1 (Ac (hK1 _ _ _ (Ad (fun K3 hK3=>Ad (fun K4 hK4=>?_)))))
 refine Aa (Ab 1 (Ac (hK4 _ _ _ (W.block ?_))))
 refine Ad (fun K5 hK5=>Aa (Ab 2 (Ac (hK5 _ _ _ ?_))))
 refine Ao (pr==1) Ae (fun h7=>?_) (fun h8=>?_)
 ·refine Ad (fun K9 hK9=>Aa (Ab 1 (Ac (hK9 _ _ _ ?_))))
  refine Aq (fn:=Tryz.f90) rfl (fun w_ hS_=>Bb rfl (Aw (iV .u64 60)) hS_ ⟨by clear hK1 hK3 hK4 hK5 hK9;refine congrArg Ending.returned ?_;unfold Gt;rw[show(pr==1)=true from h7];try rfl,hS_.below⟩)
 ·have qh8:=h8;try simp only[zA]at qh8
  refine Ad (fun K10 hK10=>Aa (Ab 2 (Ac (hK10 _ _ _ ?_))))
  refine Ao (pr==17) Ae (fun h12=>?_) (fun h13=>?_)
  ·refine Ad (fun K14 hK14=>Aa (Ab 1 (Ac (hK14 _ _ _ ?_))))
   refine Aq (fn:=Tryz.f90) rfl (fun w_ hS_=>Bb rfl (Aw (iV .u64 300)) hS_ ⟨by clear hK1 hK3 hK4 hK5 hK10 hK14;refine congrArg Ending.returned ?_;unfold Gt;rw[show(pr==1)=false from h8];rw[show(pr==17)=true from h12];try rfl,hS_.below⟩)
  ·have qh13:=h13;try simp only[zA]at qh13
   refine Ad (fun K15 hK15=>Aa (Ab 2 (Ac (hK15 _ _ _ ?_))))
   refine Ao (pr==6) Ae (fun h17=>?_) (fun h18=>?_)
   ·have qh17:=h17;try simp only[zA]at qh17
    refine Ad (fun K19 hK19=>Ad (fun K20 hK20=>?_))
    refine Aa (Ab 1 (Ah (An p3 0 0 0 Tryz.isAgg4) (Ab 1 ?_)))
    refine Am (v:=pV p3 1) (s0) rfl (Bi rfl Ae) rfl (fun hg21=>?_) ?_
    ·exact Ys.p
    refine Am (v:=bV s1) (s0) rfl (Bi rfl Ae) rfl (fun hg22=>?_) ?_
    ·refine Bh (t:=15) (v0:=pV p3 1) (lz (g:=s0) (u:=undef) hg22 Ae) ?_
     exact An p3 1 0 0 Tryz.isAgg4
    refine Ah (v:=bV (s0&&s1)) (D0 (e:=s0) (b:=s1) rfl Ae Ae Ae) (Ab 1 ?_)
    refine Am (v:=aV [bV s0,bV s1,bV s2,bV s3,bV s4]) (s0&&s1) rfl (Bi rfl Ae) rfl (fun hg23=>?_) ?_
    ·exact A0 p3 0 0 0 [bV s0,bV s1,bV s2,bV s3,bV s4] Tryz.isAgg72 Tryz.sizeOf72
    refine Dn (v:=bV (s4||(s2&&s3))) (s0&&s1) rfl (Bi rfl Ae) rfl (fun hg24=>?_) ?_
    ·refine Eh (t:=19) (v0:=aV [bV s0,bV s1,bV s2,bV s3,bV s4]) (lz (g:=s0&&s1) (u:=undef) hg24 Ae) ?_
     exact A9 (fun w_ hm_=>(Abi s0 s1 s2 s3 s4 _))
    refine Am (v:=bV (!(s4||(s2&&s3)))) (s0&&s1) rfl (Bi rfl Ae) rfl (fun hg25=>?_) ?_
    ·refine Bh (t:=20) (v0:=bV (s4||(s2&&s3))) (lz (g:=s0&&s1) (u:=undef) hg25 Ae) ?_
     exact Ys.p
    refine Ah (v:=bV ((s0&&s1)&&(!(s4||(s2&&s3))))) (D0 (e:=s0&&s1) (b:= !(s4||(s2&&s3))) rfl Ae Ae Ae) (Ac (hK20 _ _ _ (Ap [] Al rfl ?_)))
    refine Ao ((s0&&s1)&&(!(s4||(s2&&s3)))) Ae (fun h27=>?_) (fun h28=>?_)
    ·refine Ad (fun K29 hK29=>Aa (Ab 1 (Ac (hK29 _ _ _ ?_))))
     refine Aq (fn:=Tryz.f90) rfl (fun w_ hS_=>Bb rfl (Aw (iV .u64 7440)) hS_ ⟨by clear hK1 hK3 hK4 hK5 hK10 hK15 hK19 hK20 hK29;refine congrArg Ending.returned ?_;unfold Gt;rw[show(pr==1)=false from h8];rw[show(pr==17)=false from h13];rw[show(pr==6)=true from h17];rw[show((s0&&s1)&&(!(s4||(s2&&s3))))=true from h27];try rfl,hS_.below⟩)
    ·refine Ak (hK19 _ _ _ (Ad (fun K31 hK31=>Aa (Ab 1 ?_))))
     refine Ac (hK31 _ _ _ (Aq (fn:=Tryz.f90) rfl (fun w_ hS_=>Bb rfl (Aw (iV .u64 240)) hS_ ⟨by clear hK1 hK3 hK4 hK5 hK10 hK15 hK19 hK20 hK31;refine congrArg Ending.returned ?_;unfold Gt;rw[show(pr==1)=false from h8];rw[show(pr==17)=false from h13];rw[show(pr==6)=true from h17];rw[show((s0&&s1)&&(!(s4||(s2&&s3))))=false from h28];try rfl,hS_.below⟩)))
   ·refine Ak (hK3 _ _ _ (Ap [] Al rfl (Ad (fun K33 hK33=>Aa ?_))))
    refine Ab 1 (Ac (hK33 _ _ _ (Aq (fn:=Tryz.f90) rfl (fun w_ hS_=>Bb rfl (Aw (iV .u64 0)) hS_ ⟨by clear hK1 hK3 hK4 hK5 hK10 hK15 hK33;refine congrArg Ending.returned ?_;unfold Gt;rw[show(pr==1)=false from h8];rw[show(pr==17)=false from h13];rw[show(pr==6)=false from h18];try rfl,hS_.below⟩))))
abbrev Qt(e:SesE)(xb:Nat):List Blk:=[cb xb [iV .u8 e.pr,iV .u32 e.src,iV .u32 e.dst,iV .u16 e.frm,iV .u16 e.dto,iV .u16 e.ext,iV .u64 e.ends,bV e.lan,bV e.s0,bV e.s1,bV e.s2,bV e.s3,bV e.s4,iV .u64 e.id,bV e.given] 113]
theorem N7(k:NK)(s:NS)(M:List Nat)(e:SesE)(xb:Nat)(ttl pro pid src dst:Int)(ba:Option Addr)(bl bc:Nat)(now fl:Int)(out sg:Bool)(w:World)(ok:NOk k s)(hl:Mem w M [NG k s,[Iz (xb,e)]] w)(hw:s.p.ws.length≤80000)(hfl: ∀LL w1,Mem w M LL w1→Calls Tryz.prog 88 #[N6 ttl pro pid src dst ba bl bc] w1 (Dc w1 (.tuple #[.int .u8 fl,.bool sg]))):Calls Tryz.prog 44 #[pL (some ⟨k.nb,0,none⟩),pV xb 0,aV [iV .u8 ttl,iV .u8 pro,iV .u16 pid,iV .u32 src,iV .u32 dst,sL ba bl bc],iV .u64 now,bV out] w (Bj w (fun r:NS×SesE=>NOk k r.1∧RenE e now out r.2∧r.1.p={s.p with ws:=I2 s.p.ws e.id r.2.ends}) (fun _=>.tuple #[]) M (fun r=>[NG k r.1,[Iz (xb,r.2)]])):=by
 obtain⟨lxs,lys,lzs,lms,lfs⟩:=NOk.len ok
 refine Ar (M:=M) (LL:=[NG k s,Qt e xb]) (n:=87) Tryz.func44 rfl rfl A5 (hl) (Ad (fun K1 hK1=>?_))
 refine Aa (Ai rfl (Bx [iV .u8 ttl,iV .u8 pro,iV .u16 pid,iV .u32 src,iV .u32 dst,sL ba bl bc] rfl) (fun p7=>?_))
 refine Ac (hK1 _ _ _ (Ad (fun K2 hK2=>Ad (fun K3 hK3=>Aa ?_))))
 refine Ah (A0 p7 0 0 0 [iV .u8 ttl,iV .u8 pro,iV .u16 pid,iV .u32 src,iV .u32 dst,sL ba bl bc] Tryz.isAgg40 Tryz.sizeOf40) (B0 (v:=Value.tuple #[iV .u8 fl,bV sg]) (A9 (fun w_ hm_=>(hfl _ _ hm_))) (Ab 5 (Ac (hK3 _ _ _ ?_))))
 refine Ap [1,2] Al rfl (Ad (fun K5 hK5=>?_))
 refine Aa (Ab 1 (Ac (hK5 _ _ _ ?_)))
 refine Ao (sg) Ae (fun h6=>?_) (fun h7=>?_)
 ·refine Aa (Ab 5 (Ah (A0 xb 8 1 0 [bV e.s0,bV e.s1,bV e.s2,bV e.s3,bV e.s4] Tryz.isAgg72 Tryz.sizeOf72) (Ab 2 (Ax rfl (Au [] [0,1] (fun w_ hm_ hl_=>(Ai0 e.s0 e.s1 e.s2 e.s3 e.s4 fl out _))) (fun q13 _=>?_)))))
  obtain⟨q8,q9,q10,q11,q12⟩:=q13
  refine Bu (LL':=[NG k s,Qt e xb]) rfl (Ab 3 (Ai rfl (A4 xb 8 1 0 [bV q8,bV q9,bV q10,bV q11,bV q12] Tryz.sizeOf72 rfl rfl) (fun _=>Ac (hK2 _ _ _ ?_))))
  refine Ad (fun K16 hK16=>Aa (Ab 5 (Ah (An xb 7 1 0 Tryz.isAgg4) (Ab 1 ?_))))
  refine Am (v:=bV out) (!e.lan) rfl (B3 rfl Ae) rfl (fun hg17=>?_) ?_
  ·exact Ys.p
  refine Ah (v:=bV (e.lan||out)) (Dr (e:=e.lan) (b:=out) rfl Ae Ae Ae) (Ab 3 (Ai rfl (Bg xb 7 1 0 (bV (e.lan||out)) Tryz.sizeOf4 rfl rfl) (fun _=>Ac (hK16 _ _ _ ?_))))
  refine Ad (fun K19 hK19=>Dh [(0,true),(1,true),(2,true),(3,true),(4,true),(5,true),(6,false),(7,false),(8,false),(9,false),(10,false),(11,false),(12,false)] [0,1,2,3,4,5] (Ay 5 (Wd.ys rfl rfl rfl (An xb 0 1 0 Tryz.isAgg5) (Wd.yc (v:=pV xb 0) rfl rfl rfl (Ys.yc (Ys.p)) (.inr fun _ h_=>h_) ?_))))
  refine Wd.yc (v:=pV xb 0) rfl rfl rfl (Ys.yc (Ys.p)) (.inr fun _ h_=>h_) (Wd.yc (v:=pV xb 0) rfl rfl rfl (Ys.yc (Ys.p)) (.inr fun _ h_=>h_) (Wd.yc (v:=pV xb 8) rfl rfl rfl (Ys.yc (Ys.p)) (.inr fun _ h_=>h_) (Wd.yc (v:=aV [bV q8,bV q9,bV q10,bV q11,bV q12]) rfl rfl rfl (Ys.yc (A0 xb 8 1 0 [bV q8,bV q9,bV q10,bV q11,bV q12] Tryz.isAgg72 Tryz.sizeOf72)) (.inr fun _ h_=>h_) (Wd.yc (v:=iV .u64 (Gt e.pr q8 q9 q10 q11 q12)) rfl rfl rfl (A9 (fun w_ hm_=>(Xd e.pr q8 q9 q10 q11 q12 _))) (.inr fun _ h_=>h_) ?_))))
  refine Wd.yc (v:=iV .u64 (Gt e.pr q8 q9 q10 q11 q12)) rfl rfl rfl (Ys.yc (Ys.p)) (.inl Ae) (A7 (hK19 _ _ _ (Ad (fun K21 hK21=>Aa ?_))))
  refine Ab 7 (Ai rfl (Bg xb 6 1 0 (iV .u64 (Bt .u64 now (Gt e.pr q8 q9 q10 q11 q12))) Tryz.sizeOf45 rfl rfl) (fun _=>?_))
  refine Ac (hK21 _ _ _ (Ad (fun K23 hK23=>Ad (fun K24 hK24=>Aa ?_))))
  refine Ab 4 (Ah (An xb 6 1 0 Tryz.isAgg45) (Ab 2 (Ac (hK24 _ _ _ ?_))))
  refine Ao (decide ((Bt .u64 now (Gt e.pr q8 q9 q10 q11 q12))<now)) Ae (fun h26=>?_) (fun h27=>?_)
  ·have qh26:=h26;try simp only[zA]at qh26
   refine Aa (Ab 4 (Ai rfl (Bg xb 6 1 0 (iV .u64 18446744073709551615) Tryz.sizeOf45 rfl rfl) (fun _=>Ac (hK23 _ _ _ ?_))))
   refine Bz [(0,true),(1,true),(2,true),(3,true),(4,true),(5,true),(6,true),(7,true),(8,false),(9,false),(10,false),(11,false),(12,false),(13,false)] [0,1,2,3,4,5,6,7] (fun w_=> ∃s_:NS,Mem w M [NG k s_,[cb xb [iV .u8 e.pr,iV .u32 e.src,iV .u32 e.dst,iV .u16 e.frm,iV .u16 e.dto,iV .u16 e.ext,iV .u64 18446744073709551615,bV (e.lan||out),bV q8,bV q9,bV q10,bV q11,bV q12,iV .u64 e.id,bV e.given] 113]] w_) Ae Ae Ae rfl Ae (fun _ _ h_=>h_.drawn _) (fun _ h_=>⟨_,h_⟩) (Ay 3 (Wd.ys rfl rfl rfl (Ee (fun s_=>Bp (b:=k.nb) (o':=287) (i:=0) (j:=0) (cs:=Du k s_) (v:=pL (some ⟨k.wb,0,none⟩)) rfl Ae Tryz.isAgg83 rfl rfl ((Fs rfl 0).trans rfl))) (Ay 3 (Wd.ys rfl rfl rfl (Ee (fun s_=>Bp (b:=xb) (o':=13) (i:=1) (j:=0) (v:=iV .u64 e.id) rfl Ae Tryz.isAgg45 rfl rfl rfl)) ?_))))
   refine Wd.yc (v:=pV xb 0) rfl rfl rfl (Ys.yc (Ys.p)) (.inr fun _ h_=>⟨_,h_⟩) (Wd.yc (v:=pV xb 0) rfl rfl rfl (Ys.yc (Ys.p)) (.inr fun _ h_=>⟨_,h_⟩) (Wd.yc (v:=pV xb 0) rfl rfl rfl (Ys.yc (Ys.p)) (.inr fun _ h_=>⟨_,h_⟩) (Wd.yc (v:=pV xb 6) rfl rfl rfl (Ys.yc (Ys.p)) (.inr fun _ h_=>⟨_,h_⟩) (Wd.yc (v:=iV .u64 18446744073709551615) rfl rfl rfl (Ys.yc (An xb 6 1 0 Tryz.isAgg45)) (.inr fun _ h_=>⟨_,h_⟩) ?_))))
   refine Cd rfl rfl (Au (args:= #[pL (some ⟨k.wb,0,none⟩),iV .u64 e.id,iV .u64 18446744073709551615]) [0] [1] (fun w_ hm_ hl_=>(Sl e.id 18446744073709551615 ok (by have z_:=hw;omega) hl_))) (.inr fun _ _ h_=>⟨_,h_⟩) (fun s29 hx33=>?_)
   obtain⟨ok30,hp31⟩:=hx33
   obtain⟨lxs29,lys29,lzs29,lms29,lfs29⟩:=NOk.len ok30
   refine A7 ?_
   show∀w_,_→bodyPostM (Cy none) 0 Tryz.prog Tryz.f44 _ Exit.normal _ w_
   exact fun w_ hS_=>Dq (Il rfl ⟨(s29,(⟨e.pr,e.src,e.dst,e.frm,e.dto,e.ext,18446744073709551615,e.lan||out,q8,q9,q10,q11,q12,e.id,e.given⟩:SesE)),⟨ok30,⟨rfl,rfl,rfl,rfl,rfl,rfl,rfl,rfl,rfl,(fun h_=>by unfold U9;rw[h_,Id]at h26;rw[h26]<;>rfl)⟩,by rw[hp31]<;>rfl⟩,rfl,(hS_.pick [0,1] Al rfl)⟩)
  ·have qh27:=h27;try simp only[zA]at qh27
   refine Ak (hK23 _ _ _ (Bz [(0,true),(1,true),(2,true),(3,true),(4,true),(5,true),(6,true),(7,true),(8,false),(9,false),(10,false),(11,false),(12,false),(13,false)] [0,1,2,3,4,5,6,7] (fun w_=> ∃s_:NS,Mem w M [NG k s_,[cb xb [iV .u8 e.pr,iV .u32 e.src,iV .u32 e.dst,iV .u16 e.frm,iV .u16 e.dto,iV .u16 e.ext,iV .u64 (Bt .u64 now (Gt e.pr q8 q9 q10 q11 q12)),bV (e.lan||out),bV q8,bV q9,bV q10,bV q11,bV q12,iV .u64 e.id,bV e.given] 113]] w_) Ae Ae Ae rfl Ae (fun _ _ h_=>h_.drawn _) (fun _ h_=>⟨_,h_⟩) (Ay 3 (Wd.ys rfl rfl rfl (Ee (fun s_=>Bp (b:=k.nb) (o':=287) (i:=0) (j:=0) (cs:=Du k s_) (v:=pL (some ⟨k.wb,0,none⟩)) rfl Ae Tryz.isAgg83 rfl rfl ((Fs rfl 0).trans rfl))) ?_))))
   refine Ay 3 (Wd.ys rfl rfl rfl (Ee (fun s_=>Bp (b:=xb) (o':=13) (i:=1) (j:=0) (v:=iV .u64 e.id) rfl Ae Tryz.isAgg45 rfl rfl rfl)) (Wd.yc (v:=pV xb 0) rfl rfl rfl (Ys.yc (Ys.p)) (.inr fun _ h_=>⟨_,h_⟩) (Wd.yc (v:=pV xb 0) rfl rfl rfl (Ys.yc (Ys.p)) (.inr fun _ h_=>⟨_,h_⟩) (Wd.yc (v:=pV xb 0) rfl rfl rfl (Ys.yc (Ys.p)) (.inr fun _ h_=>⟨_,h_⟩) ?_))))
   refine Wd.yc (v:=pV xb 6) rfl rfl rfl (Ys.yc (Ys.p)) (.inr fun _ h_=>⟨_,h_⟩) (Wd.yc (v:=iV .u64 (Bt .u64 now (Gt e.pr q8 q9 q10 q11 q12))) rfl rfl rfl (Ys.yc (An xb 6 1 0 Tryz.isAgg45)) (.inr fun _ h_=>⟨_,h_⟩) (Cd rfl rfl (Au (args:= #[pL (some ⟨k.wb,0,none⟩),iV .u64 e.id,iV .u64 (Bt .u64 now (Gt e.pr q8 q9 q10 q11 q12))]) [0] [1] (fun w_ hm_ hl_=>(Sl e.id (Bt .u64 now (Gt e.pr q8 q9 q10 q11 q12)) ok (by have z_:=hw;omega) hl_))) (.inr fun _ _ h_=>⟨_,h_⟩) (fun s35 hx39=>?_)))
   obtain⟨ok36,hp37⟩:=hx39
   obtain⟨lxs35,lys35,lzs35,lms35,lfs35⟩:=NOk.len ok36
   refine A7 ?_
   show∀w_,_→bodyPostM (Cy none) 0 Tryz.prog Tryz.f44 _ Exit.normal _ w_
   exact fun w_ hS_=>Dq (Il rfl ⟨(s35,(⟨e.pr,e.src,e.dst,e.frm,e.dto,e.ext,Bt .u64 now (Gt e.pr q8 q9 q10 q11 q12),e.lan||out,q8,q9,q10,q11,q12,e.id,e.given⟩:SesE)),⟨ok36,⟨rfl,rfl,rfl,rfl,rfl,rfl,rfl,rfl,rfl,(fun h_=>by unfold U9;have z_:=h27;rw[h_,Id]at z_;rw[z_,h_,Id]<;>rfl)⟩,by rw[hp37]<;>rfl⟩,rfl,(hS_.pick [0,1] Al rfl)⟩)
 ·refine Ak (hK2 _ _ _ (Ad (fun K41 hK41=>Aa (Ab 5 ?_))))
  refine Ah (An xb 7 1 0 Tryz.isAgg4) (Ab 1 ?_)
  refine Am (v:=bV out) (!e.lan) rfl (B3 rfl Ae) rfl (fun hg42=>?_) ?_
  ·exact Ys.p
  refine Ah (v:=bV (e.lan||out)) (Dr (e:=e.lan) (b:=out) rfl Ae Ae Ae) (Ab 3 (Ai rfl (Bg xb 7 1 0 (bV (e.lan||out)) Tryz.sizeOf4 rfl rfl) (fun _=>Ac (hK41 _ _ _ ?_))))
  refine Ad (fun K44 hK44=>Dh [(0,true),(1,true),(2,true),(3,true),(4,true),(5,true),(6,false),(7,false),(8,false),(9,false),(10,false),(11,false),(12,false)] [0,1,2,3,4,5] (Ay 5 (Wd.ys rfl rfl rfl (An xb 0 1 0 Tryz.isAgg5) (Wd.yc (v:=pV xb 0) rfl rfl rfl (Ys.yc (Ys.p)) (.inr fun _ h_=>h_) ?_))))
  refine Wd.yc (v:=pV xb 0) rfl rfl rfl (Ys.yc (Ys.p)) (.inr fun _ h_=>h_) (Wd.yc (v:=pV xb 0) rfl rfl rfl (Ys.yc (Ys.p)) (.inr fun _ h_=>h_) (Wd.yc (v:=pV xb 8) rfl rfl rfl (Ys.yc (Ys.p)) (.inr fun _ h_=>h_) (Wd.yc (v:=aV [bV e.s0,bV e.s1,bV e.s2,bV e.s3,bV e.s4]) rfl rfl rfl (Ys.yc (A0 xb 8 1 0 [bV e.s0,bV e.s1,bV e.s2,bV e.s3,bV e.s4] Tryz.isAgg72 Tryz.sizeOf72)) (.inr fun _ h_=>h_) (Wd.yc (v:=iV .u64 (Gt e.pr e.s0 e.s1 e.s2 e.s3 e.s4)) rfl rfl rfl (A9 (fun w_ hm_=>(Xd e.pr e.s0 e.s1 e.s2 e.s3 e.s4 _))) (.inr fun _ h_=>h_) ?_))))
  refine Wd.yc (v:=iV .u64 (Gt e.pr e.s0 e.s1 e.s2 e.s3 e.s4)) rfl rfl rfl (Ys.yc (Ys.p)) (.inl Ae) (A7 (hK44 _ _ _ (Ad (fun K46 hK46=>Aa ?_))))
  refine Ab 7 (Ai rfl (Bg xb 6 1 0 (iV .u64 (Bt .u64 now (Gt e.pr e.s0 e.s1 e.s2 e.s3 e.s4))) Tryz.sizeOf45 rfl rfl) (fun _=>?_))
  refine Ac (hK46 _ _ _ (Ad (fun K48 hK48=>Ad (fun K49 hK49=>Aa ?_))))
  refine Ab 4 (Ah (An xb 6 1 0 Tryz.isAgg45) (Ab 2 (Ac (hK49 _ _ _ ?_))))
  refine Ao (decide ((Bt .u64 now (Gt e.pr e.s0 e.s1 e.s2 e.s3 e.s4))<now)) Ae (fun h51=>?_) (fun h52=>?_)
  ·have qh51:=h51;try simp only[zA]at qh51
   refine Aa (Ab 4 (Ai rfl (Bg xb 6 1 0 (iV .u64 18446744073709551615) Tryz.sizeOf45 rfl rfl) (fun _=>Ac (hK48 _ _ _ ?_))))
   refine Bz [(0,true),(1,true),(2,true),(3,true),(4,true),(5,true),(6,true),(7,true),(8,false),(9,false),(10,false),(11,false),(12,false),(13,false)] [0,1,2,3,4,5,6,7] (fun w_=> ∃s_:NS,Mem w M [NG k s_,[cb xb [iV .u8 e.pr,iV .u32 e.src,iV .u32 e.dst,iV .u16 e.frm,iV .u16 e.dto,iV .u16 e.ext,iV .u64 18446744073709551615,bV (e.lan||out),bV e.s0,bV e.s1,bV e.s2,bV e.s3,bV e.s4,iV .u64 e.id,bV e.given] 113]] w_) Ae Ae Ae rfl Ae (fun _ _ h_=>h_.drawn _) (fun _ h_=>⟨_,h_⟩) (Ay 3 (Wd.ys rfl rfl rfl (Ee (fun s_=>Bp (b:=k.nb) (o':=287) (i:=0) (j:=0) (cs:=Du k s_) (v:=pL (some ⟨k.wb,0,none⟩)) rfl Ae Tryz.isAgg83 rfl rfl ((Fs rfl 0).trans rfl))) (Ay 3 (Wd.ys rfl rfl rfl (Ee (fun s_=>Bp (b:=xb) (o':=13) (i:=1) (j:=0) (v:=iV .u64 e.id) rfl Ae Tryz.isAgg45 rfl rfl rfl)) ?_))))
   refine Wd.yc (v:=pV xb 0) rfl rfl rfl (Ys.yc (Ys.p)) (.inr fun _ h_=>⟨_,h_⟩) (Wd.yc (v:=pV xb 0) rfl rfl rfl (Ys.yc (Ys.p)) (.inr fun _ h_=>⟨_,h_⟩) (Wd.yc (v:=pV xb 0) rfl rfl rfl (Ys.yc (Ys.p)) (.inr fun _ h_=>⟨_,h_⟩) (Wd.yc (v:=pV xb 6) rfl rfl rfl (Ys.yc (Ys.p)) (.inr fun _ h_=>⟨_,h_⟩) (Wd.yc (v:=iV .u64 18446744073709551615) rfl rfl rfl (Ys.yc (An xb 6 1 0 Tryz.isAgg45)) (.inr fun _ h_=>⟨_,h_⟩) ?_))))
   refine Cd rfl rfl (Au (args:= #[pL (some ⟨k.wb,0,none⟩),iV .u64 e.id,iV .u64 18446744073709551615]) [0] [1] (fun w_ hm_ hl_=>(Sl e.id 18446744073709551615 ok (by have z_:=hw;omega) hl_))) (.inr fun _ _ h_=>⟨_,h_⟩) (fun s54 hx58=>?_)
   obtain⟨ok55,hp56⟩:=hx58
   obtain⟨lxs54,lys54,lzs54,lms54,lfs54⟩:=NOk.len ok55
   refine A7 ?_
   show∀w_,_→bodyPostM (Cy none) 0 Tryz.prog Tryz.f44 _ Exit.normal _ w_
   exact fun w_ hS_=>Dq (Il rfl ⟨(s54,(⟨e.pr,e.src,e.dst,e.frm,e.dto,e.ext,18446744073709551615,e.lan||out,e.s0,e.s1,e.s2,e.s3,e.s4,e.id,e.given⟩:SesE)),⟨ok55,⟨rfl,rfl,rfl,rfl,rfl,rfl,rfl,rfl,rfl,(fun h_=>by unfold U9;rw[h_,Id]at h51;rw[h51]<;>rfl)⟩,by rw[hp56]<;>rfl⟩,rfl,(hS_.pick [0,1] Al rfl)⟩)
  ·have qh52:=h52;try simp only[zA]at qh52
   refine Ak (hK48 _ _ _ (Bz [(0,true),(1,true),(2,true),(3,true),(4,true),(5,true),(6,true),(7,true),(8,false),(9,false),(10,false),(11,false),(12,false),(13,false)] [0,1,2,3,4,5,6,7] (fun w_=> ∃s_:NS,Mem w M [NG k s_,[cb xb [iV .u8 e.pr,iV .u32 e.src,iV .u32 e.dst,iV .u16 e.frm,iV .u16 e.dto,iV .u16 e.ext,iV .u64 (Bt .u64 now (Gt e.pr e.s0 e.s1 e.s2 e.s3 e.s4)),bV (e.lan||out),bV e.s0,bV e.s1,bV e.s2,bV e.s3,bV e.s4,iV .u64 e.id,bV e.given] 113]] w_) Ae Ae Ae rfl Ae (fun _ _ h_=>h_.drawn _) (fun _ h_=>⟨_,h_⟩) (Ay 3 (Wd.ys rfl rfl rfl (Ee (fun s_=>Bp (b:=k.nb) (o':=287) (i:=0) (j:=0) (cs:=Du k s_) (v:=pL (some ⟨k.wb,0,none⟩)) rfl Ae Tryz.isAgg83 rfl rfl ((Fs rfl 0).trans rfl))) ?_))))
   refine Ay 3 (Wd.ys rfl rfl rfl (Ee (fun s_=>Bp (b:=xb) (o':=13) (i:=1) (j:=0) (v:=iV .u64 e.id) rfl Ae Tryz.isAgg45 rfl rfl rfl)) (Wd.yc (v:=pV xb 0) rfl rfl rfl (Ys.yc (Ys.p)) (.inr fun _ h_=>⟨_,h_⟩) (Wd.yc (v:=pV xb 0) rfl rfl rfl (Ys.yc (Ys.p)) (.inr fun _ h_=>⟨_,h_⟩) (Wd.yc (v:=pV xb 0) rfl rfl rfl (Ys.yc (Ys.p)) (.inr fun _ h_=>⟨_,h_⟩) ?_))))
   refine Wd.yc (v:=pV xb 6) rfl rfl rfl (Ys.yc (Ys.p)) (.inr fun _ h_=>⟨_,h_⟩) (Wd.yc (v:=iV .u64 (Bt .u64 now (Gt e.pr e.s0 e.s1 e.s2 e.s3 e.s4))) rfl rfl rfl (Ys.yc (An xb 6 1 0 Tryz.isAgg45)) (.inr fun _ h_=>⟨_,h_⟩) (Cd rfl rfl (Au (args:= #[pL (some ⟨k.wb,0,none⟩),iV .u64 e.id,iV .u64 (Bt .u64 now (Gt e.pr e.s0 e.s1 e.s2 e.s3 e.s4))]) [0] [1] (fun w_ hm_ hl_=>(Sl e.id (Bt .u64 now (Gt e.pr e.s0 e.s1 e.s2 e.s3 e.s4)) ok (by have z_:=hw;omega) hl_))) (.inr fun _ _ h_=>⟨_,h_⟩) (fun s60 hx64=>?_)))
   obtain⟨ok61,hp62⟩:=hx64
   obtain⟨lxs60,lys60,lzs60,lms60,lfs60⟩:=NOk.len ok61
   refine A7 ?_
   show∀w_,_→bodyPostM (Cy none) 0 Tryz.prog Tryz.f44 _ Exit.normal _ w_
   exact fun w_ hS_=>Dq (Il rfl ⟨(s60,(⟨e.pr,e.src,e.dst,e.frm,e.dto,e.ext,Bt .u64 now (Gt e.pr e.s0 e.s1 e.s2 e.s3 e.s4),e.lan||out,e.s0,e.s1,e.s2,e.s3,e.s4,e.id,e.given⟩:SesE)),⟨ok61,⟨rfl,rfl,rfl,rfl,rfl,rfl,rfl,rfl,rfl,(fun h_=>by unfold U9;have z_:=h52;rw[h_,Id]at z_;rw[z_,h_,Id]<;>rfl)⟩,by rw[hp62]<;>rfl⟩,rfl,(hS_.pick [0,1] Al rfl)⟩)
def I6(xs:List Conf.Fwd)(proto ext:Int):Bool:=(Conf.find (fun k=>xs.getD k fz) proto ext xs.length).2
def D2(xs:List Conf.Fwd)(proto ext:Int):Conf.Fwd:=(Conf.find (fun k=>xs.getD k fz) proto ext xs.length).1
theorem N8(c:Conf.Cfg)(xs:List Conf.Fwd)(fa:Option Addr)(fc:Nat)(a b:Int)(w:World)(hfx:At w fa (mm Conf.fwv xs))(hf0:xs.length=0):Calls Tryz.prog 75 #[aV [iV .u8 c.lm0,iV .u8 c.lm1,iV .u8 c.lm2,iV .u8 c.lm3,iV .u8 c.lm4,iV .u8 c.lm5,iV .u8 c.wm0,iV .u8 c.wm1,iV .u8 c.wm2,iV .u8 c.wm3,iV .u8 c.wm4,iV .u8 c.wm5,iV .u8 c.hm0,iV .u8 c.hm1,iV .u8 c.hm2,iV .u8 c.hm3,iV .u8 c.hm4,iV .u8 c.hm5,iV .u32 c.lan,iV .u32 c.wan,iV .i64 c.bits,iV .i64 c.ms,iV .i64 c.mm,iV .i64 c.mc,iV .i64 c.mu,sL fa xs.length fc,iV .u32 c.dmz,Value.string c.uu],iV .u8 a,iV .u16 b] w (Dc w (.tuple #[.agg (Conf.fwv (D2 xs a b)).toArray,.bool (I6 xs a b)])):=by
 refine Ar (M:=[]) (LL:=[]) (n:=30) Tryz.func75 rfl rfl A5 (Mem.refl _) (Ad (fun K1 hK1=>?_))
 refine Aa (Ai rfl (Bx [iV .u8 c.lm0,iV .u8 c.lm1,iV .u8 c.lm2,iV .u8 c.lm3,iV .u8 c.lm4,iV .u8 c.lm5,iV .u8 c.wm0,iV .u8 c.wm1,iV .u8 c.wm2,iV .u8 c.wm3,iV .u8 c.wm4,iV .u8 c.wm5,iV .u8 c.hm0,iV .u8 c.hm1,iV .u8 c.hm2,iV .u8 c.hm3,iV .u8 c.hm4,iV .u8 c.hm5,iV .u32 c.lan,iV .u32 c.wan,iV .i64 c.bits,iV .i64 c.ms,iV .i64 c.mm,iV .i64 c.mc,iV .i64 c.mu,sL fa xs.length fc,iV .u32 c.dmz,Value.string c.uu] rfl) (fun p3=>?_))
 refine Ai rfl (Bc Tryz.zeroValue65) (fun p6=>Ab 1 (Ac (hK1 _ _ _ (Ad (fun K3 hK3=>?_)))))
 refine Ad (fun K4 hK4=>Aa (Ab 1 (Ah (An p3 25 1 0 Tryz.isAgg30) (Ab 2 ?_))))
 refine Ac (hK4 _ _ _ (Ap [0] Al rfl (W.block (Ep [1,2,6,11,12,13] (fun(i:Nat)=>[iV .u8 a,iV .u16 b,pV p6 0,sL fa xs.length fc,nV .i64 xs.length,nV .i64 i]) (fun(i:Nat)=>i≤xs.length) (fun(i:Nat)=>[[cb p6 Xy 65]]) (fun(i:Nat)=>xs.length-i) 0 Ae (Nat.zero_le _) (by rfl) (fun i f7 J6 hp8 hJ6=>?_)))))
 have hi:=hp8
 refine Ad (fun K9 hK9=>Aa (Ab 1 (Ac (hK9 _ _ _ ?_))))
 refine Ad (fun K10 hK10=>?_)
 refine Ao (decide (((i:Nat):Int)<(xs.length:Int))) Ae (fun h11=>?_) (fun h12=>?_)
 ·have qh11:=h11;try simp only[zA]at qh11
  exfalso;have z_:=of_decide_eq_true h11;omega
 ·have qh12:=h12;try simp only[zA]at qh12
  refine Cr (hK3 _ _ _ (Ad (fun K14 hK14=>Aa (Ab 1 ?_))))
  refine Ai rfl (A4 p6 0 0 0 Xy Tryz.sizeOf65 rfl rfl) (fun _=>Ab 1 (Ac (hK14 _ _ _ (Aq (fn:=Tryz.f75) rfl (fun w_ hS_=>B9 rfl (Bq p6 0 0 0 Xy Tryz.isAgg65 Tryz.sizeOf65) (Aw (bV false)) hS_ ⟨by clear hK1 hK3 hK4 hJ6 hK9 hK10 hK14;refine congrArg Ending.returned ?_;rw[List.length_eq_zero_iff.1 hf0];rfl,hS_.below⟩)))))
structure NAt(k:NK)(s:NS)(w:World):Prop where
  nat:At w (some ⟨k.nb,0,none⟩) (Du k s)
  ms:At w s.gm.a (mm mpM s.p.ms)
  fx:At w k.gf.a (mm fwv k.fx)
  atS:At w (some ⟨k.ts,0,none⟩) [Value.slice s.gs.a s.p.xs.length s.gs.cap,Value.int .i64 k.mo,Value.func (.func 31) #[] #[]]
  atN:At w (some ⟨k.ti,0,none⟩) [Value.slice s.gi.a s.p.ys.length s.gi.cap,Value.int .i64 k.mo,Value.func (.func 35) #[] #[]]
  atD:At w (some ⟨k.te,0,none⟩) [Value.slice s.ge.a s.p.zs.length s.ge.cap,Value.int .i64 k.mo,Value.func (.func 33) #[] #[]]
  xs:At w s.gs.a (mm Fo s.p.xs)
  ys:At w s.gi.a (mm Hy s.p.ys)
  zs:At w s.ge.a (mm Fu s.p.zs)
  ent: ∀(j b:Nat) (e:SesE),s.p.es[j]? =some (b,e)→At w (some ⟨b,0,none⟩) (Aek e)
theorem Xe{w0 w:World}{M:List Nat}{LL:List (List Blk)}{k:NK}{s:NS}{i:Nat}(h:Mem w0 M LL w)(hi:LL[i]? =some (NG k s))(ok:NOk k s):NAt k s w:=
  ⟨Aba h hi,NG.ms h hi ok,NG.fx h hi ok,Ku h hi,Abb h hi,Jp h hi,NG.xs h hi ok,NG.ys h hi ok,NG.zs h hi ok,fun _ _ _ hj=>NG.ent h hi hj⟩
theorem Ans{k:NK}{s:NS}{w:World}(ha:NAt k s w):NAt k s w:=ha
def ruQ(pr pt:Int)(m:Mpg):Bool:=(m.proto==pr)&&(m.ext==pt)
def Xf(ms:List Mpg)(fx:List Conf.Fwd)(pr pt:Int):Bool:=I6 fx pr pt||ms.any (ruQ pr pt)
def hoM(e:SesE)(m:Mpg):Bool:=((((m.proto==e.pr)&&(m.ext==e.ext))&&(m.host==e.src))&&(m.to==e.frm))&&((m.remote==0)||(m.remote==e.dst))
def Xg(ms:List Mpg)(fx:List Conf.Fwd)(e:SesE):Bool:=bif e.given then !Xf ms fx e.pr e.ext else(ms.any (hoM e)||((I6 fx e.pr e.ext&&((D2 fx e.pr e.ext).host==e.src))&&((D2 fx e.pr e.ext).dest==e.frm)))
def Dm(e:SesE):B2:=(e.pr,e.src,e.dst,e.frm,e.dto)
def Pd(x:Nat×SesE):B2×Option Nat:=(Dm x.2,some x.1)
abbrev Us:SesE:=⟨0,0,0,0,0,0,0,false,false,false,false,false,false,0,false⟩
def knQ(f:B2)(x:Nat×SesE):Bool:=(((x.2.pr==f.1)&&(x.2.ext==f.2.2.2.2))&&(x.2.dst==f.2.1))&&(x.2.dto==f.2.2.2.1)
def I3(f:B2)(es:List (Nat×SesE)):Option (Nat×SesE):=es.find? (knQ f)
theorem Ai1{es:List (Nat×SesE)}{xs:List (B2×Option Nat)}(h:xs=es.map Pd){i:Nat}(hi:i<xs.length):i<es.length∧ ∃b e,es[i]? =some (b,e)∧es.getD i (0,Us)=(b,e)∧xs.getD i dS=(Dm e,some b):=by
  subst h
  have hl:i<es.length:=by simpa using hi
  refine⟨hl,es[i].1,es[i].2,List.getElem?_eq_getElem hl,?_,?_⟩
  · rw[List.getD_eq_getElem?_getD,List.getElem?_eq_getElem hl];rfl
  · rw[List.getD_eq_getElem?_getD,List.getElem?_map,List.getElem?_eq_getElem hl];rfl
theorem NAt.mem0{k:NK}{s:NS}{w w':World}{LL:List (List Blk)}(ha:NAt k s w)(h:Mem w [] LL w'):NAt k s w':=
  ⟨ha.nat.mem0 h,ha.ms.mem0 h,ha.fx.mem0 h,ha.atS.mem0 h,ha.atN.mem0 h,ha.atD.mem0 h,ha.xs.mem0 h,ha.ys.mem0 h,ha.zs.mem0 h,fun j b e hj=>(ha.ent j b e hj).mem0 h⟩
end Go.Proofs.YtmonlaoaengfdaaGreatDoor.Oct
