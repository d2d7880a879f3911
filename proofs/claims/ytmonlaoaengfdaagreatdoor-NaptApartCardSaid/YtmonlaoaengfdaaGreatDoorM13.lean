import Derived.Test.YtmonlaoaengfdaaGreatDoorM12
import Derived.Test.YtmonlaoaengfdaaGreatDoorM8
import Derived.Test.YtmonlaoaengfdaaGreatDoorM2
set_option linter.unusedVariables false
set_option linter.unusedSimpArgs false
set_option maxRecDepth 20000
namespace Go.Proofs.YtmonlaoaengfdaaGreatDoor.Oct
open Go.RowKit Base Tryz
attribute [local irreducible] Ys Yc Ht HtS HtIn Wl Wd W Mem pf Ez Wa Wo KW
open Conf (Fwd fwv)
inductive InR{β:Type}(Φr:Ci→β→Prop)(rv:Ci→β→PkV)(re:Ci→Int)(rs:Ci→β→List Blk)(k:NK)(s:NS)(f:Ci)(kd oc:Int)(bg qu:Bool)(now:Int)(r:NS)(cd:Int)(pv:PkV)(bl:List Blk):Prop
  |no (hcd:cd≠0) (hes:r.p.es=s.p.es) (hpv:pv=Wy) (why:oc≠0∨f.2.2.1≠k.c.wan∨(kd=2∧qu=true)∨(kd≠1∧(Mc f s.p.es=none∨ ∃x,Mc f s.p.es=some x∧x.2.lan=false))∨(kd=1∧(Bi k.c k.fx s.p f).2.2.2≠0∧cd=(Bi k.c k.fx s.p f).2.2.2)∨
      (kd=1∧(Bi k.c k.fx s.p f).2.2.1=none∧(Bi k.c k.fx s.p f).2.2.2=0∧((Bq s.p.xs (inG k.c k.fx s.p f)=false∧(bg=false∨k.mo≤(s.p.xs.length:Int)))∨ ∃x∈s.p.es,Ed x.2=inG k.c k.fx s.p f∧x.2.ext≠f.2.2.2.2))):InR Φr rv re rs k s f kd oc bg qu now r cd pv bl
  |err (ho:oc=0) (hk:kd≠1) (hk2:kd≠2) (hes:r.p.es=s.p.es) (x:Nat×SesE) (hx:Mc f s.p.es=some x) (hs:Pk Φr rv re rs (f.1,f.2.1,x.2.src,f.2.2.2.1,x.2.frm) cd pv bl):InR Φr rv re rs k s f kd oc bg qu now r cd pv bl
  |old (ho:oc=0) (A B:List (Nat×SesE)) (b:Nat) (e e':SesE) (he:s.p.es=A++(b,e)::B) (hf:e.pr=f.1∧e.ext=f.2.2.2.2∧e.dst=f.2.1∧e.dto=f.2.2.2.1) (hr:RenE e now false e') (hes:r.p.es=A++(b,e')::B) (hs:Pk Φr rv re rs (f.1,f.2.1,e.src,f.2.2.2.1,e.frm) cd pv bl):InR Φr rv re rs k s f kd oc bg qu now r cd pv bl
  |new (ho:oc=0) (hk:kd=1) (hn:(Bi k.c k.fx s.p f).2.2.1=none) (h0:(Bi k.c k.fx s.p f).2.2.2=0) (hno:Bq s.p.xs (inG k.c k.fx s.p f)=false) (A B:List (Nat×SesE)) (b:Nat) (e':SesE) (he:s.p.es=A++B) (hr:RenE (Ls (inG k.c k.fx s.p f) f.2.2.2.2 s.p.lst (Bi k.c k.fx s.p f).2.1) now false e') (hes:r.p.es=A++(b,e')::B) (hs:Pk Φr rv re rs (f.1,f.2.1,(Bi k.c k.fx s.p f).1.2.1,f.2.2.2.1,(Bi k.c k.fx s.p f).1.2.2) cd pv bl):InR Φr rv re rs k s f kd oc bg qu now r cd pv bl
theorem G3{f:Ci}(h:RngFl f){a e:Int}(b:0≤a∧a≤4294967295)(c:0≤e∧e≤65535):RngFl (f.1,f.2.1,a,f.2.2.2.1,e):=⟨h.1,h.2.1,b,h.2.2.2.1,c⟩
theorem Inv.eq{k:NK}{s r:NS}(c:Inv k s)(ok:NOk k r)(d:r.p=s.p):Inv k r:=⟨ok,by rw[d];exact c.a,by rw[d];exact c.b,c.fr,c.fu,by rw[d];exact c.mr⟩
abbrev Ws(b d pr:Nat)(ds e f:Int)(k:NK)(s:NS):List Blk:=[cb d [iV .u8 ((Bi k.c k.fx s.p (((pr:Nat):Int),f,ds,e,(b:Int))).1.1),iV .u32 ((Bi k.c k.fx s.p (((pr:Nat):Int),f,ds,e,(b:Int))).1.2.1),iV .u16 ((Bi k.c k.fx s.p (((pr:Nat):Int),f,ds,e,(b:Int))).1.2.2)] 97]
abbrev Tn(e:Option Addr)(f g h:Nat)(b pid c d ttl:Int):List Blk:=[cb h [iV .u8 ttl,iV .u8 c,iV .u16 pid,iV .u32 d,iV .u32 b,sL e g f] 40]
abbrev To(b:Nat):List Blk:=[cb b Oc 40]
abbrev Tp(b c pr:Nat)(ds d e:Int):List Blk:=[cb c [nV .u8 pr,iV .u32 e,iV .u32 ds,iV .u16 d,nV .u16 b] 47]
abbrev Q1u(c:SesE)(b:Nat):List Blk:=[cb b (Sq c) 113]
abbrev Q1v(c:SesE)(b:Nat):List Blk:=[cb b (Sq c) 113]
abbrev Q1w(b pr:Nat)(ds c d:Int):Ci:=(((pr:Nat):Int),d,ds,c,(b:Int))
abbrev Iy(b pr:Nat)(ds d e:Int)(k:NK)(s:NS):Ix×Bool×Option Nat×Int:=(Bi k.c k.fx s.p (Q1w b pr ds d e))
abbrev Q1y(d pr:Nat)(ds b c:Int)(k:NK)(s:NS):Ci:=(((pr:Nat):Int),c,(Iy d pr ds b c k s).1.2.1,b,(Iy d pr ds b c k s).1.2.2)
abbrev Q1z:List Value:=Oc
abbrev Q20(b pr:Nat)(ds c d:Int)(k:NK)(s:NS):List Value:=[iV .u8 ((Iy b pr ds c d k s).1.1),iV .u32 ((Iy b pr ds c d k s).1.2.1),iV .u16 ((Iy b pr ds c d k s).1.2.2)]
abbrev Q21(d pr:Nat)(ds b c:Int)(k:NK)(s:NS):List Value:=[nV .u8 pr,iV .u32 c,iV .u32 ((Iy d pr ds b c k s).1.2.1),iV .u16 b,iV .u16 ((Iy d pr ds b c k s).1.2.2)]
set_option maxHeartbeats 1000000 in
theorem Aq3(k:NK)(s:NS)(M:List Nat)(pr:Nat)(d ds f:Int)(h:Nat)(ttl o pid t u:Int)(V:Option Addr)(X Y:Nat)(kd oc:Int)(bg qu:Bool)(fl:Int)(sg:Bool)(now:Int)(β:Type)(Φr:Ci→β→Prop)(rv:Ci→β→PkV)(re:Ci→Int)(rs:Ci→β→List Blk)(w:World)(N:Inv k s)(hl:Mem w M [NG k s] w)(ia:s.p.lst≤1000000)(hd:0≤k.c.dmz∧k.c.dmz≤4294967295)(ib:pr<256)(ic:h<65536)(aj:RngFl (((pr:Nat):Int),d,ds,f,(h:Int)))(g6: ∀LL w1,Mem w M LL w1→Calls prog 41 #[O6 ttl o pid t u V X Y] w1 (Df w1 (.tuple #[Value.agg ([Value.int .u8 (pr:Int),Value.int .u32 d,Value.int .u32 ds,Value.int .u16 f,Value.int .u16 (h:Int)]).toArray,.int .i64 kd,.int .i64 oc])))(ew: ∀LL w1,Mem w M LL w1→Calls prog 99 #[O6 ttl o pid t u V X Y] w1 (Df w1 (.bool bg)))(c1: ∀LL w1,Mem w M LL w1→Calls prog 88 #[O6 ttl o pid t u V X Y] w1 (Df w1 (.tuple #[.int .u8 fl,.bool sg])))(g7: ∀LL w1,Mem w M LL w1→Calls prog 42 #[O6 ttl o pid t u V X Y] w1 (Df w1 (.bool qu)))(ch: ∀g LL w1,Mem w M LL w1→RngFl g→g.1=(pr:Int)→Calls prog 45 #[O6 ttl o pid t u V X Y,flV g] w1 (Bn w1 (fun x:β=>Φr g x) (fun x=>.tuple #[(rv g x).v,.int .i64 (re g)]) [] (fun x=>[rs g x]))):Calls prog 12 #[pL (some ⟨k.nb,0,none⟩),aV [iV .u8 ttl,iV .u8 o,iV .u16 pid,iV .u32 t,iV .u32 u,sL V X Y],iV .u64 now] w (Bn w (fun r:NS×Int×PkV×List Blk=>Inv k r.1∧r.1.p.ms=s.p.ms∧r.1.p.lst≤s.p.lst+1∧InR Φr rv re rs k s (((pr:Nat):Int),d,ds,f,(h:Int)) kd oc bg qu now r.1 r.2.1 r.2.2.1 r.2.2.2) (fun r=>.tuple #[r.2.2.1.v,.int .i64 r.2.1]) M (fun r=>[NG k r.1,r.2.2.2])):=by
 have ok:=N.ok;have hA:=N.a;obtain⟨ie,ig,ih,ii,ij⟩:=NOk.len ok;have bm:s.p.ws.length≤80000:=(by have z_:=hA.wln ok.hws;have y_:=Ja ok hA;omega);have h6:=hA.lst.1
 refine Ap (M:=M) (LL:=[NG k s]) (n:=136) func12 rfl rfl A7 (hl)<|W.s ?_
 refine Ac<|Af rfl (Bx [iV .u8 ttl,iV .u8 o,iV .u16 pid,iV .u32 t,iV .u32 u,sL V X Y] rfl) fun p4=>?_
 refine Af rfl (Ba zeroValue40) fun F=>Ab 1<|Ai<|W.s ?_
 refine Ac<|A5 1 [(1,0)]<|Cb (v:=Value.tuple #[aV [nV .u8 pr,iV .u32 d,iV .u32 ds,iV .u16 f,nV .u16 h],iV .i64 kd,iV .i64 oc]) (A8 fun G l=>(g6 _ _ l))<|Ab 4<|Af rfl (Ba zeroValue47) fun p8=>?_
 refine Af rfl (A0 p8 0 0 0 [nV .u8 pr,iV .u32 d,iV .u32 ds,iV .u16 f,nV .u16 h] sizeOf47 rfl rfl) fun _=>Ab 2<|Ai<|W.s ?_
 refine W.block<|Aj [] ?_
 refine Ak (oc !=0) Aa (fun h8=>?_) fun h9=>?_
 ·have g9:=h8;try simp only[zA]at g9
  refine Av<|Ab 2<|Af rfl (A0 F 0 1 0 Q1z sizeOf40 rfl rfl) fun _=>Ab 1 ?_
  refine Ai<|Al [1,3] An rfl<|Am rfl<|E2 rfl (Bu F 0 0 0 Oc isAgg40 sizeOf40) (Ar<|iV .i64 oc) fun G C=>⟨(s,oc,Wy,[]),⟨N,rfl,Nc,.no (by simpa using h8) rfl rfl<|.inl<|by simpa using h8⟩,rfl,(Mem.flat (LL:=[NG k s]) rfl<|C.pick [1] An rfl)⟩
 ·have ha:=h9;try simp only[zA]at ha
  refine W.s<|W.s ?_
  refine C5 [(0,true),(1,true),(2,false),(3,false),(4,false),(5,false),(6,false),(7,false),(8,false)] [0,1]<|Bs 6 [(0,0)]<|Gg (v:=iV .u32 k.c.wan) rfl (Bf (b:=k.nb) (o':=19) (i:=3) (j:=0) (cs:=C3 k s) (v:=iV .u32 k.c.wan) rfl Aa isAgg24 rfl rfl<|(Cf rfl An).trans rfl)<|Bs 2 []<|Ev ?_
  refine A9 ?_
  refine Ak (ds !=k.c.wan) Aa (fun ex=>?_) fun hb=>?_
  ·have ey:=ex;try simp only[zA]at ey
   refine Ag<|A9 ?_
   refine Ak (ds !=k.c.wan) Aa (fun ez=>?_) fun hc=>?_
   ·have e0:=ez;try simp only[zA]at e0
    refine Av<|Ab 1<|Af rfl (A0 F 0 1 0 Q1z sizeOf40 rfl rfl) fun _=>Ab 1 ?_
    refine Ai<|Al [1,3] An rfl<|Am rfl<|E2 rfl (Bu F 0 0 0 Oc isAgg40 sizeOf40) (Ar<|iV .i64 21) fun G C=>⟨(s,21,Wy,[]),⟨N,rfl,Nc,.no Vm rfl rfl<|.inr<|.inl<|by simpa using ez⟩,rfl,(Mem.flat (LL:=[NG k s]) rfl<|C.pick [1] An rfl)⟩
   ·exact absurd (ex.symm.trans hc) An
  ·have e1:=hb;try simp only[zA]at e1
   refine Ac<|Ab 3<|Da 2 (kd==2) (fun _=>Gs.m 1 [(2,0)]<|Gs.k (v:=bV qu) (A8 fun G l=>(g7 _ _ l)) Gs.nil)<|Ao (v:=bV<|(kd==2)&&qu) (B9 (e:=kd==2) (b:=qu) rfl Aa Aa Aa)<|Ab 1 ?_
   refine Ai ?_
   refine Ak ((kd==2)&&qu) Aa (fun e2=>?_) fun he=>?_
   ·have e3:=e2;try simp only[zA]at e3
    refine Av<|Ab 1<|Af rfl (A0 F 0 1 0 Q1z sizeOf40 rfl rfl) fun _=>Ab 1 ?_
    refine Ai<|Al [1,3] An rfl<|Am rfl<|E2 rfl (Bu F 0 0 0 Oc isAgg40 sizeOf40) (Ar<|iV .i64 21) fun G C=>⟨(s,21,Wy,[]),⟨N,rfl,Nc,.no Vm rfl rfl<|.inr<|.inr<|.inl<|by simpa using e2⟩,rfl,(Mem.flat (LL:=[NG k s]) rfl<|C.pick [1] An rfl)⟩
   ·have e4:=he;try simp only[zA]at e4
    refine Ag<|A9<|W.s<|Aj [] ?_
    refine Ak (kd !=1) Aa (fun d1=>?_) fun ci=>?_
    ·have e5:=d1;try simp only[zA]at e5
     refine W.s ?_
     rcases b5:Mc (((pr:Nat):Int),d,ds,f,(h:Int)) s.p.es with _|⟨eb,B⟩
     ·refine Ac<|A5 2 [(0,0)]<|Cb (v:=pL<|Cz<|(Mc (Q1w h pr ds f d) s.p.es).map Prod.fst) (A8 fun G l=>(P5 k s (pr:Int) d ds f (h:Int) _ (Tf (i:=3) l rfl ok) ok hA.tie))<|Ao (v:=pL none) ((Ys.p (v:=pL<|Cz<|(Mc (Q1w h pr ds f d) s.p.es).map Prod.fst)).conseq<|(by rw[b5];rfl))<|Ay ?_
      refine A9<|W.s ?_
      refine Aj []<|Cd Aa<|Av<|Ab 1 ?_
      refine Af rfl (A0 F 0 1 0 Q1z sizeOf40 rfl rfl) fun _=>Ab 1<|Ai<|Al [1,3] An rfl ?_
      refine Am rfl<|E2 rfl (Bu F 0 0 0 Oc isAgg40 sizeOf40) (Ar<|iV .i64 21) fun G C=>⟨(s,21,Wy,[]),⟨N,rfl,Nc,.no Vm rfl rfl<|.inr<|.inr<|.inr<|.inl ⟨(by simpa using d1),.inl b5⟩⟩,rfl,(Mem.flat (LL:=[NG k s]) rfl<|C.pick [1] An rfl)⟩
     ·obtain⟨⟨fA,fB,O⟩,c6,c7,c8,c9⟩:=Tm b5
      have d2:=Se O
      have ay:(eb,B)∈s.p.es:=by rw[O];exact Cr.2 (.inl rfl)
      refine Ac<|A5 2 [(0,0)]<|Cb (v:=pL<|Cz<|(Mc (Q1w h pr ds f d) s.p.es).map Prod.fst) (A8 fun G l=>(P5 k s (pr:Int) d ds f (h:Int) _ (Tf (i:=3) l rfl ok) ok hA.tie))<|Ao (v:=pV eb 0) ((Ys.p (v:=pL<|Cz<|(Mc (Q1w h pr ds f d) s.p.es).map Prod.fst)).conseq<|(by rw[b5];rfl))<|Ay ?_
      refine A9<|W.s ?_
      refine Av<|A5 7 []<|Bz (v:=bV B.lan) (true) rfl Aa rfl (fun _=>Ys.ld (a:=⟨eb,7,none⟩) rfl Aa isAgg4 fun G h_=>by have x_:=(NG.ent (i:=3) h_ rfl d2).ld (q:=7) (v:=bV B.lan) rfl;rw[Be]at x_;exact x_)<|A5 2 [] ?_
      refine Ai ?_
      refine Ak (!B.lan) Aa (fun hf=>?_) fun ik=>?_
      ·refine Av<|Ab 1<|Af rfl (A0 F 0 1 0 Q1z sizeOf40 rfl rfl) fun _=>Ab 1 ?_
       refine Ai<|Al [1,3] An rfl<|Am rfl<|E2 rfl (Bu F 0 0 0 Oc isAgg40 sizeOf40) (Ar<|iV .i64 21) fun G C=>⟨(s,21,Wy,[]),⟨N,rfl,Nc,.no Vm rfl rfl<|.inr<|.inr<|.inr<|.inl ⟨(by simpa using d1),.inr ⟨(eb,B),b5,by simpa using hf⟩⟩⟩,rfl,(Mem.flat (LL:=[NG k s]) rfl<|C.pick [1] An rfl)⟩
      ·refine Ag<|A9<|W.s<|Aj [] ?_
       refine Ak (kd==2) Aa (fun hg=>?_) fun e6=>?_
       ·have e7:=hg;try simp only[zA]at e7
        obtain⟨c3,cj⟩: ∃z,z=O7 s (fA++fB):=⟨_,rfl⟩
        have ea:NOk k c3:=cj▸F9 ok _
        have bp:c3.p={s.p with es:=fA++fB}:=by rw[cj];rfl
        obtain⟨hh,hi,hj,hk,hm⟩:=NOk.len ea
        refine W.conseq (S':=Mem w M [NG k c3,[cb eb (Sq B) 113],Tp h p8 pr ds f d,To F,Tn V Y X p4 u pid o t ttl]) (fun G h_=>cj▸M3 O (h_.pick [3,0,1,2] An rfl))<|Ac<|A5 4 [(4,0)]<|Aw rfl (Au [0,1] [2,3,4] fun G l J=>(I8 k c3 _ B eb ttl o pid t u V X Y now fl false sg _ ea J (by rw[show c3.p.ws=s.p.ws by rw[bp]<;>rfl];have z_:=bm;omega) fun LL_ ck ae=>c1 _ _<|Mem.back (LL:=[NG k c3,[cb eb (Sq B) 113]]) (R:=[Tp h p8 pr ds f d,To F,Tn V Y X p4 u pid o t ttl]) (Mem.pick [0,1,2,3,4] An l rfl) ae)) fun hn ec=>?_
        obtain⟨b6,c4⟩:=hn
        dsimp only at ec
        obtain⟨ed,bx,b7⟩:=ec
        refine B0 (LL':=[NG k b6,[cb eb (Sq c4) 113],Tp h p8 pr ds f d,To F,Tn V Y X p4 u pid o t ttl]) rfl ?_
        obtain⟨hp,hq,hr,hs,ht⟩:=NOk.len ed
        refine Ai<|W.s<|C5 [(0,true),(1,true),(2,true),(3,true),(4,true),(5,true),(6,true),(7,true),(8,false),(9,false),(10,false),(11,false),(12,false),(13,false),(14,false),(15,false),(16,true),(17,false),(18,false),(19,false)] [0,1,2,3,4,5,6,7,16]<|Dh 7 [(4,0),(2,0)] ?_
        refine Bm (v:=iV .u32 B.src) rfl (Ys.conseq (v:=iV .u32 c4.src) (Ad bx.src)<|Cn eb 1 1 0 isAgg24)<|Bs 5 []<|Gg (v:=iV .u16 B.frm) rfl (Ys.conseq (v:=iV .u16 c4.frm) (Ad bx.frm)<|Cn eb 3 1 0 isAgg22)<|Ec (v:=aV [nV .u8 pr,iV .u32 d,iV .u32 B.src,iV .u16 f,iV .u16 B.frm]) rfl (A8 fun G l=>(Ip (pr:Int) d ds f (h:Int) B.src B.frm _))<|Ca rfl rfl (Au [] [0,1,2,3,4] fun G l J=>(ch (((pr:Nat):Int),d,B.src,f,B.frm) _ _ l (G3 aj (hA.rng (eb,B) ay).src (hA.rng (eb,B) ay).frm) rfl)) (Az [1,2,3,4,5]) fun b9 eh=>?_
        refine Wd.mp 2 [] [1,2,3,4,5]<|Cj rfl rfl (A0 F 0 4 0 (Tk<|rv (((pr:Nat):Int),d,B.src,f,B.frm) b9) sizeOf40 rfl rfl) (.inl Aa) fun _=>?_
        refine Dh 1 []<|Cl<|Al [0,1,2,4] An rfl<|Am rfl ?_
        have az:b6.p.es=fA++fB:=by rw[b7,bp]
        have A:=N6 (p':=(O7 b6 (fA++(eb,c4)::fB)).p) N O bx (by show({b6.p with es:=_}:NP)=_;rw[b7,bp])
        exact E2 rfl (Bu F 0 3 0 (Tk<|rv (((pr:Nat):Int),d,B.src,f,B.frm) b9) isAgg40 sizeOf40) (Ar<|iV .i64<|re (((pr:Nat):Int),d,B.src,f,B.frm)) fun G C=>⟨(O7 b6 (fA++(eb,c4)::fB),re (((pr:Nat):Int),d,B.src,f,B.frm),rv (((pr:Nat):Int),d,B.src,f,B.frm) b9,rs (((pr:Nat):Int),d,B.src,f,B.frm) b9),⟨⟨F9 ed _,A.1,A.2,N.fr,N.fu,(by show RngM b6.p.ms;rw[b7,bp];exact N.mr)⟩,(by show b6.p.ms=_;rw[b7,bp]),(by show b6.p.lst≤_;rw[b7,bp];show s.p.lst≤_;omega),.old (by simpa using h9) fA fB eb B c4 O ⟨c6,c7,c8,c9⟩ bx rfl ⟨rfl,b9,eh,rfl,rfl⟩⟩,rfl,(Lw az<|Mem.pick [1,2,0] An C rfl)⟩
       ·have e8:=e6;try simp only[zA]at e8
        refine Ag<|A9<|W.s<|C5 [(0,true),(1,true),(2,true),(3,true),(4,true),(5,true),(6,true),(7,true),(8,false),(9,false),(10,false),(11,false),(12,false),(13,false),(14,false),(15,false),(16,true),(17,false),(18,false),(19,false)] [0,1,2,3,4,5,6,7,16]<|Dh 7 [(2,0),(0,0)] ?_
        refine Bm rfl (Ys.ld (a:=⟨eb,1,none⟩) rfl Aa isAgg24 fun G h_=>by have x_:=(NG.ent (i:=3) h_ rfl d2).ld (q:=1) (v:=iV .u32 B.src) rfl;rw[Be]at x_;exact x_)<|Bs 5 []<|Gg (v:=iV .u16 B.frm) rfl (Ys.ld (a:=⟨eb,3,none⟩) rfl Aa isAgg22 fun G h_=>by have x_:=(NG.ent (i:=3) h_ rfl d2).ld (q:=3) (v:=iV .u16 B.frm) rfl;rw[Be]at x_;exact x_)<|Ec (v:=aV [nV .u8 pr,iV .u32 d,iV .u32 B.src,iV .u16 f,iV .u16 B.frm]) rfl (A8 fun G l=>(Ip (pr:Int) d ds f (h:Int) B.src B.frm _))<|Ca rfl rfl (Au [] [0,1,2,3] fun G l J=>(ch (((pr:Nat):Int),d,B.src,f,B.frm) _ _ l (G3 aj (hA.rng (eb,B) ay).src (hA.rng (eb,B) ay).frm) rfl)) (Az [1,2,3,4]) fun ca ei=>?_
        refine Wd.mp 2 [] [1,2,3,4]<|Cj rfl rfl (A0 F 0 2 0 (Tk<|rv (((pr:Nat):Int),d,B.src,f,B.frm) ca) sizeOf40 rfl rfl) (.inl Aa) fun _=>?_
        refine Dh 1 []<|Cl<|Al [0,2,4] An rfl<|Am rfl<|E2 rfl (Bu F 0 1 0 (Tk<|rv (((pr:Nat):Int),d,B.src,f,B.frm) ca) isAgg40 sizeOf40) (Ar<|iV .i64<|re (((pr:Nat):Int),d,B.src,f,B.frm)) fun G C=>⟨(s,re (((pr:Nat):Int),d,B.src,f,B.frm),rv (((pr:Nat):Int),d,B.src,f,B.frm) ca,rs (((pr:Nat):Int),d,B.src,f,B.frm) ca),⟨N,rfl,Nc,.err (by simpa using h9) (by simpa using d1) (by simpa using e6) rfl (eb,B) b5 ⟨rfl,ca,ei,rfl,rfl⟩⟩,rfl,(C.pick [2,0] An rfl)⟩
    ·have e9:=ci;try simp only[zA]at e9
     refine Ag<|A9<|W.s ?_
     rcases Aem k.c k.fx s.p (((pr:Nat):Int),d,ds,f,(h:Int))with cc|cc|cc
     ·obtain⟨af,a0⟩:=cc
      refine Ac<|A5 2 [(0,0)]<|Cb (v:=Value.tuple #[aV (Q20 h pr ds f d k s),bV<|(Iy h pr ds f d k s).2.1,pL<|Cz (Iy h pr ds f d k s).2.2.1,iV .i64 ((Iy h pr ds f d k s).2.2.2)]) (A8 fun G l=>(R9 k s (pr:Int) d ds f (h:Int) _ (Tf (i:=3) l rfl ok) ok hA.tie))<|Ab 2<|Ao (v:=bV false) ((Ys.p (v:=bV<|(Iy h pr ds f d k s).2.1)).conseq<|B2 a0) ?_
      refine Ao (v:=pL none) ((Ys.p (v:=pL<|Cz (Iy h pr ds f d k s).2.2.1)).conseq<|(by rw[af];rfl))<|Ab 1<|Af rfl (Ba zeroValue97) fun L=>Af rfl (A0 L 0 0 0 (Q20 h pr ds f d k s) sizeOf97 rfl rfl) fun _=>Ab 3 ?_
      refine Ai<|W.s<|Aj [] ?_
      refine Ak (((Bi k.c k.fx s.p (((pr:Nat):Int),d,ds,f,(h:Int))).2.2.2) !=0) Aa (fun ej=>?_) fun c5=>?_
      ·have fa:=ej;try simp only[zA]at fa
       refine Av<|Ab 2<|Af rfl (A0 F 0 2 0 Q1z sizeOf40 rfl rfl) fun _=>Ab 1 ?_
       refine Ai<|Al [2,4] An rfl<|Am rfl<|E2 rfl (Bu F 0 0 0 Oc isAgg40 sizeOf40) (Ar<|iV .i64<|(Bi k.c k.fx s.p (((pr:Nat):Int),d,ds,f,(h:Int))).2.2.2) fun G C=>⟨(s,(Bi k.c k.fx s.p (((pr:Nat):Int),d,ds,f,(h:Int))).2.2.2,Wy,[]),⟨N,rfl,Nc,.no (by simpa using ej) rfl rfl<|.inr<|.inr<|.inr<|.inr<|.inl ⟨(by simpa using ci),by simpa using ej,rfl⟩⟩,rfl,(Mem.flat (LL:=[NG k s]) rfl<|C.pick [1] An rfl)⟩
      ·have fb:=c5;try simp only[zA]at fb
       refine Ag<|A9<|W.s<|Aj []<|Cd Aa ?_
       refine W.s ?_
       have da:=N5 hA (by have z_:=Ja ok hA;omega) (((pr:Nat):Int),(Bi k.c k.fx s.p (((pr:Nat):Int),d,ds,f,(h:Int))).1.2.1,(Bi k.c k.fx s.p (((pr:Nat):Int),d,ds,f,(h:Int))).1.2.2)
       refine Ac<|A5 16 [(1,0),(0,0),(1,0),(0,0),(1,0),(1,0),(3,0)]<|Aw rfl (Au [4] [0,1,2,3] fun G l J=>(Aek k s _ pr ((Iy h pr ds f d k s).1.2.1) d ((Iy h pr ds f d k s).1.2.2) f h ttl o pid t u V X Y bg _ ok J hA Ae Ae da.1 fun LL_ ck ae=>ew _ _<|Mem.back (LL:=[NG k s]) (R:=[Ws h L pr ds f d k s,Tp h p8 pr ds f d,To F,Tn V Y X p4 u pid o t ttl]) (Mem.pick [4,0,1,2,3] An l rfl) ae)) fun fc db=>?_
       obtain⟨av,dc,cn,bq⟩:=fc
       dsimp only at db
       obtain⟨co,ag⟩:=db
       refine B0 (LL':=[NG k av,Aar cn,Ws h L pr ds f d k s,Tp h p8 pr ds f d,To F,Tn V Y X p4 u pid o t ttl]) rfl ?_
       obtain⟨hu,hv,hx,hy,hz⟩:=NOk.len co
       rcases ag with ag|ag|ag
       ·obtain⟨D,Z,aa,a1,ek⟩:=ag
        obtain rfl:cn=none:=aa
        obtain rfl:dc=none:=Z
        have cd:(bq !=0)=true:=by rcases a1 with h_|h_<;>(simp only at h_;rw[h_];rfl)
        have D:av.p=s.p:=D
        refine Ab 5<|Ai<|Al [0,2,3,4,5] An rfl<|W.s ?_
        refine Ac<|Ab 1<|Ao (v:=bV true) ((Ys.p (v:=bV<|bq !=0)).conseq<|B2 cd)<|Ai ?_
        refine Cd Aa<|W.s ?_
        refine Ac<|Ab 2<|Af rfl (A0 F 0 3 0 Q1z sizeOf40 rfl rfl) fun _=>Ab 1<|Ay ?_
        refine A9<|Al [0,3] An rfl<|Am rfl<|E2 rfl (Bu F 0 1 0 Oc isAgg40 sizeOf40) (Ar<|iV .i64 bq) fun G C=>⟨(av,bq,Wy,[]),⟨N.eq co D,(by rw[D]),(by rw[D];omega),.no (by simpa using cd) (by rw[D]) rfl<|.inr<|.inr<|.inr<|.inr<|.inr ⟨(by simpa using ci),af,(by simpa using c5),ek⟩⟩,rfl,(Mem.flat (LL:=[NG k av]) rfl<|C.pick [0] An rfl)⟩
       ·obtain⟨D,aa,a1,⟨H,P⟩,a2,Z,ab,dd⟩:=ag
        obtain rfl:cn=none:=aa
        obtain rfl:dc=some H:=Z
        obtain rfl:bq=0:=a1
        obtain⟨fA,fB,O⟩:=Ka a2
        have I:av.p=s.p:=D
        have cl:av.p.es=fA++(H,P)::fB:=by rw[I];exact O
        have ao:P.src=(Bi k.c k.fx s.p (((pr:Nat):Int),d,ds,f,(h:Int))).1.2.1:=congrArg (·.2.1) ab
        have ap:P.frm=(Bi k.c k.fx s.p (((pr:Nat):Int),d,ds,f,(h:Int))).1.2.2:=congrArg (·.2.2.2.1) ab
        refine Ab 5<|Ai<|Al [0,2,3,4,5] An rfl<|Aj [] ?_
        refine B4 Aa<|Ag<|A9<|W.s ?_
        obtain⟨br,bz⟩: ∃z,z=O7 av (fA++fB):=⟨_,rfl⟩
        have dg:NOk k br:=bz▸F9 co _
        have ak:br.p={av.p with es:=fA++fB}:=by rw[bz];rfl
        obtain⟨fn,fo,fp,fq,fs⟩:=NOk.len dg
        refine W.conseq (S':=Mem w M [NG k br,[cb H (Sq P) 113],Ws h L pr ds f d k s,Tp h p8 pr ds f d,To F,Tn V Y X p4 u pid o t ttl]) (fun G h_=>bz▸M3 cl h_)<|Ac<|A5 4 [(5,0)]<|Aw rfl (Au [0,1] [2,3,4,5] fun G l J=>(I8 k br _ P H ttl o pid t u V X Y now fl false sg _ dg J (by rw[show br.p.ws=s.p.ws by rw[ak,I]<;>rfl];have z_:=bm;omega) fun LL_ ck ae=>c1 _ _<|Mem.back (LL:=[NG k br,[cb H (Sq P) 113]]) (R:=[Ws h L pr ds f d k s,Tp h p8 pr ds f d,To F,Tn V Y X p4 u pid o t ttl]) (Mem.pick [0,1,2,3,4,5] An l rfl) ae)) fun fe dh=>?_
        obtain⟨aq,cp⟩:=fe
        dsimp only at dh
        obtain⟨di,cq,a3⟩:=dh
        refine B0 (LL':=[NG k aq,[cb H (Sq cp) 113],Ws h L pr ds f d k s,Tp h p8 pr ds f d,To F,Tn V Y X p4 u pid o t ttl]) rfl ?_
        obtain⟨ft,fv,fy,f0,f1⟩:=NOk.len di
        refine Ai<|W.s<|C5 [(0,true),(1,true),(2,true),(3,true),(4,false),(5,false),(6,false),(7,false),(8,true),(9,false),(10,false),(11,false)] [0,1,2,3,8]<|Bs 6 [(5,0),(3,0),(2,0),(2,0)] ?_
        refine Ec (v:=aV<|Q21 h pr ds f d k s) rfl (A8 fun G l=>(Ip (pr:Int) d ds f (h:Int) ((Iy h pr ds f d k s).1.2.1) ((Iy h pr ds f d k s).1.2.2) _))<|Ca rfl rfl (Au [] [0,1,2,3,4,5] fun G l J=>(ch (Q1y h pr ds f d k s) _ _ l (G3 aj (by rw[←ao];exact(hA.rng (H,P) a2).src)<|by rw[←ap];exact(hA.rng (H,P) a2).frm) rfl)) (Az [1,2,3,4,5,6]) fun a5 d3=>?_
        refine Wd.mp 2 [] [1,2,3,4,5,6]<|Cj rfl rfl (A0 F 0 5 0 (Tk<|rv (Q1y h pr ds f d k s) a5) sizeOf40 rfl rfl) (.inl Aa) fun _=>?_
        refine Dh 1 []<|Cl<|Al [0,1,2,5] An rfl<|Am rfl ?_
        have az:aq.p.es=fA++fB:=by rw[a3,ak,I]
        have A:=N6 (p':=(O7 aq (fA++(H,cp)::fB)).p) N O cq (by show({aq.p with es:=_}:NP)=_;rw[a3,ak,I])
        exact E2 rfl (Bu F 0 3 0 (Tk<|rv (((pr:Nat):Int),d,(Bi k.c k.fx s.p (((pr:Nat):Int),d,ds,f,(h:Int))).1.2.1,f,(Bi k.c k.fx s.p (((pr:Nat):Int),d,ds,f,(h:Int))).1.2.2) a5) isAgg40 sizeOf40) (Ar<|iV .i64<|re (((pr:Nat):Int),d,(Bi k.c k.fx s.p (((pr:Nat):Int),d,ds,f,(h:Int))).1.2.1,f,(Bi k.c k.fx s.p (((pr:Nat):Int),d,ds,f,(h:Int))).1.2.2)) fun G C=>⟨(O7 aq (fA++(H,cp)::fB),re (((pr:Nat):Int),d,(Bi k.c k.fx s.p (((pr:Nat):Int),d,ds,f,(h:Int))).1.2.1,f,(Bi k.c k.fx s.p (((pr:Nat):Int),d,ds,f,(h:Int))).1.2.2),rv (((pr:Nat):Int),d,(Bi k.c k.fx s.p (((pr:Nat):Int),d,ds,f,(h:Int))).1.2.1,f,(Bi k.c k.fx s.p (((pr:Nat):Int),d,ds,f,(h:Int))).1.2.2) a5,rs (((pr:Nat):Int),d,(Bi k.c k.fx s.p (((pr:Nat):Int),d,ds,f,(h:Int))).1.2.1,f,(Bi k.c k.fx s.p (((pr:Nat):Int),d,ds,f,(h:Int))).1.2.2) a5),⟨⟨F9 di _,A.1,A.2,N.fr,N.fu,(by show RngM aq.p.ms;rw[a3,ak,I];exact N.mr)⟩,(by show aq.p.ms=_;rw[a3,ak,I]),(by show aq.p.lst≤_;rw[a3,ak,I];show s.p.lst≤_;omega),.old (by simpa using h9) fA fB H P cp O ⟨congrArg (·.1) ab,dd,congrArg (·.2.2.1) ab,congrArg (·.2.2.2.2) ab⟩ cq rfl<|by rw[ao,ap];exact⟨rfl,a5,d3,rfl,rfl⟩⟩,rfl,(Lw az<|Mem.pick [1,2,0] An C rfl)⟩
       ·obtain⟨a1,a6,h0,h1,Q,el,Z,aa,D⟩:=ag
        obtain rfl:cn=some (Q,Ls (((pr:Nat):Int),(Bi k.c k.fx s.p (((pr:Nat):Int),d,ds,f,(h:Int))).1.2.1,d,(Bi k.c k.fx s.p (((pr:Nat):Int),d,ds,f,(h:Int))).1.2.2,f) (h:Int) s.p.lst false):=aa
        obtain rfl:dc=some Q:=Z
        obtain rfl:bq=0:=a1
        have D:av.p=Ov k s.p (((pr:Nat):Int),(Bi k.c k.fx s.p (((pr:Nat):Int),d,ds,f,(h:Int))).1.2.1,d,(Bi k.c k.fx s.p (((pr:Nat):Int),d,ds,f,(h:Int))).1.2.2,f) (h:Int) false Q el:=D
        refine Ab 5<|Ai<|Aj []<|B4 Aa ?_
        refine Ag<|A9<|W.s ?_
        skip
        refine Ac<|A5 4 [(5,0)]<|Aw rfl (Au [0,1] [2,3,4,5] fun G l J=>(I8 k av _ (Ls (((pr:Nat):Int),(Iy h pr ds f d k s).1.2.1,d,(Iy h pr ds f d k s).1.2.2,f) (h:Int) s.p.lst false) Q ttl o pid t u V X Y now fl false sg _ co J (by rw[show av.p.ws=s.p.ws by rw[D]<;>rfl];have z_:=bm;omega) fun LL_ ck ae=>c1 _ _<|Mem.back (LL:=[NG k av,[cb Q [nV .u8 pr,iV .u32<|(Iy h pr ds f d k s).1.2.1,iV .u32 d,iV .u16<|(Iy h pr ds f d k s).1.2.2,iV .u16 f,nV .u16 h,iV .u64 0,bV false,bV false,bV false,bV false,bV false,bV false,iV .u64 s.p.lst,bV false] 113]]) (R:=[Ws h L pr ds f d k s,Tp h p8 pr ds f d,To F,Tn V Y X p4 u pid o t ttl]) (Mem.pick [0,1,2,3,4,5] An l rfl) ae)) fun ff dj=>?_
        obtain⟨ce,cr⟩:=ff
        dsimp only at dj
        obtain⟨dk,ct,dl⟩:=dj
        refine B0 (LL':=[NG k ce,Q1u cr Q,Ws h L pr ds f d k s,Tp h p8 pr ds f d,To F,Tn V Y X p4 u pid o t ttl]) rfl ?_
        obtain⟨f2,f3,f4,f5,f6⟩:=NOk.len dk
        refine Ai<|W.s<|C5 [(0,true),(1,true),(2,true),(3,true),(4,false),(5,false),(6,false),(7,false),(8,true),(9,false),(10,false),(11,false)] [0,1,2,3,8]<|Bs 6 [(5,0),(3,0),(2,0),(2,0)] ?_
        refine Ec (v:=aV<|Q21 h pr ds f d k s) rfl (A8 fun G l=>(Ip (pr:Int) d ds f (h:Int) ((Iy h pr ds f d k s).1.2.1) ((Iy h pr ds f d k s).1.2.2) _))<|Ca rfl rfl (Au [] [0,1,2,3,4,5] fun G l J=>(ch (Q1y h pr ds f d k s) _ _ l (G3 aj (Oy N aj hd af<|by simpa using c5).1.2.1 (Oy N aj hd af<|by simpa using c5).1.2.2.2.1) rfl)) (Az [1,2,3,4,5,6]) fun a7 d4=>?_
        refine Wd.mp 2 [] [1,2,3,4,5,6]<|Cj rfl rfl (A0 F 0 5 0 (Tk<|rv (Q1y h pr ds f d k s) a7) sizeOf40 rfl rfl) (.inl Aa) fun _=>?_
        refine Dh 1 []<|Cl<|Al [0,1,2,5] An rfl<|Am rfl ?_
        have a8:=Oy N aj hd af (by simpa using c5)
        have az:ce.p.es=(s.p.es.take (Bk ordF s.p.xs (((pr:Nat):Int),(Bi k.c k.fx s.p (((pr:Nat):Int),d,ds,f,(h:Int))).1.2.1,d,(Bi k.c k.fx s.p (((pr:Nat):Int),d,ds,f,(h:Int))).1.2.2,f)))++(s.p.es.drop (Bk ordF s.p.xs (((pr:Nat):Int),(Bi k.c k.fx s.p (((pr:Nat):Int),d,ds,f,(h:Int))).1.2.1,d,(Bi k.c k.fx s.p (((pr:Nat):Int),d,ds,f,(h:Int))).1.2.2,f))):=by rw[dl,D,List.take_append_drop]<;>rfl
        have A:=Us (p':=(O7 ce ((s.p.es.take (Bk ordF s.p.xs (((pr:Nat):Int),(Bi k.c k.fx s.p (((pr:Nat):Int),d,ds,f,(h:Int))).1.2.1,d,(Bi k.c k.fx s.p (((pr:Nat):Int),d,ds,f,(h:Int))).1.2.2,f)))++(Q,cr)::(s.p.es.drop (Bk ordF s.p.xs (((pr:Nat):Int),(Bi k.c k.fx s.p (((pr:Nat):Int),d,ds,f,(h:Int))).1.2.1,d,(Bi k.c k.fx s.p (((pr:Nat):Int),d,ds,f,(h:Int))).1.2.2,f))))).p) N a6 Ae Ae (by have z_:=a8.2.2;rw[a0]at z_;exact z_) (Ur a8.1 (by constructor<;>(show _<=_;omega))) (by have z_:=a8.2.1 s.p.lst;rw[a0]at z_;exact z_) ct (by show({ce.p with es:=_}:NP)=_;rw[dl,D]<;>rfl)
        exact E2 rfl (Bu F 0 3 0 (Tk<|rv (((pr:Nat):Int),d,(Bi k.c k.fx s.p (((pr:Nat):Int),d,ds,f,(h:Int))).1.2.1,f,(Bi k.c k.fx s.p (((pr:Nat):Int),d,ds,f,(h:Int))).1.2.2) a7) isAgg40 sizeOf40) (Ar<|iV .i64<|re (((pr:Nat):Int),d,(Bi k.c k.fx s.p (((pr:Nat):Int),d,ds,f,(h:Int))).1.2.1,f,(Bi k.c k.fx s.p (((pr:Nat):Int),d,ds,f,(h:Int))).1.2.2)) fun G C=>⟨(O7 ce ((s.p.es.take<|Bk ordF s.p.xs (((pr:Nat):Int),(Bi k.c k.fx s.p (((pr:Nat):Int),d,ds,f,(h:Int))).1.2.1,d,(Bi k.c k.fx s.p (((pr:Nat):Int),d,ds,f,(h:Int))).1.2.2,f))++(Q,cr)::(s.p.es.drop<|Bk ordF s.p.xs (((pr:Nat):Int),(Bi k.c k.fx s.p (((pr:Nat):Int),d,ds,f,(h:Int))).1.2.1,d,(Bi k.c k.fx s.p (((pr:Nat):Int),d,ds,f,(h:Int))).1.2.2,f))),re (((pr:Nat):Int),d,(Bi k.c k.fx s.p (((pr:Nat):Int),d,ds,f,(h:Int))).1.2.1,f,(Bi k.c k.fx s.p (((pr:Nat):Int),d,ds,f,(h:Int))).1.2.2),rv (((pr:Nat):Int),d,(Bi k.c k.fx s.p (((pr:Nat):Int),d,ds,f,(h:Int))).1.2.1,f,(Bi k.c k.fx s.p (((pr:Nat):Int),d,ds,f,(h:Int))).1.2.2) a7,rs (((pr:Nat):Int),d,(Bi k.c k.fx s.p (((pr:Nat):Int),d,ds,f,(h:Int))).1.2.1,f,(Bi k.c k.fx s.p (((pr:Nat):Int),d,ds,f,(h:Int))).1.2.2) a7),⟨⟨F9 dk _,A.1,A.2.1,N.fr,N.fu,(by rw[A.2.2.1];exact N.mr)⟩,A.2.2.1,(by rw[A.2.2.2];omega),.new (by simpa using h9) (by simpa using ci) af (by simpa using c5) a6 (s.p.es.take<|Bk ordF s.p.xs (((pr:Nat):Int),(Bi k.c k.fx s.p (((pr:Nat):Int),d,ds,f,(h:Int))).1.2.1,d,(Bi k.c k.fx s.p (((pr:Nat):Int),d,ds,f,(h:Int))).1.2.2,f)) (s.p.es.drop<|Bk ordF s.p.xs (((pr:Nat):Int),(Bi k.c k.fx s.p (((pr:Nat):Int),d,ds,f,(h:Int))).1.2.1,d,(Bi k.c k.fx s.p (((pr:Nat):Int),d,ds,f,(h:Int))).1.2.2,f)) Q cr (List.take_append_drop _ _).symm (by rw[a0];exact ct) rfl ⟨rfl,a7,d4,rfl,rfl⟩⟩,rfl,(Lw az<|Mem.pick [1,2,0] An C rfl)⟩
     ·obtain⟨af,a0⟩:=cc
      refine Ac<|A5 2 [(0,0)]<|Cb (v:=Value.tuple #[aV (Q20 h pr ds f d k s),bV<|(Iy h pr ds f d k s).2.1,pL<|Cz (Iy h pr ds f d k s).2.2.1,iV .i64 ((Iy h pr ds f d k s).2.2.2)]) (A8 fun G l=>(R9 k s (pr:Int) d ds f (h:Int) _ (Tf (i:=3) l rfl ok) ok hA.tie))<|Ab 2<|Ao (v:=bV true) ((Ys.p (v:=bV<|(Iy h pr ds f d k s).2.1)).conseq<|B2 a0) ?_
      refine Ao (v:=pL none) ((Ys.p (v:=pL<|Cz (Iy h pr ds f d k s).2.2.1)).conseq<|(by rw[af];rfl))<|Ab 1<|Af rfl (Ba zeroValue97) fun L=>Af rfl (A0 L 0 0 0 (Q20 h pr ds f d k s) sizeOf97 rfl rfl) fun _=>Ab 3 ?_
      refine Ai<|W.s<|Aj [] ?_
      refine Ak (((Bi k.c k.fx s.p (((pr:Nat):Int),d,ds,f,(h:Int))).2.2.2) !=0) Aa (fun dm=>?_) fun bs=>?_
      ·have em:=dm;try simp only[zA]at em
       refine Av<|Ab 2<|Af rfl (A0 F 0 2 0 Q1z sizeOf40 rfl rfl) fun _=>Ab 1 ?_
       refine Ai<|Al [2,4] An rfl<|Am rfl<|E2 rfl (Bu F 0 0 0 Oc isAgg40 sizeOf40) (Ar<|iV .i64<|(Bi k.c k.fx s.p (((pr:Nat):Int),d,ds,f,(h:Int))).2.2.2) fun G C=>⟨(s,(Bi k.c k.fx s.p (((pr:Nat):Int),d,ds,f,(h:Int))).2.2.2,Wy,[]),⟨N,rfl,Nc,.no (by simpa using dm) rfl rfl<|.inr<|.inr<|.inr<|.inr<|.inl ⟨(by simpa using ci),by simpa using dm,rfl⟩⟩,rfl,(Mem.flat (LL:=[NG k s]) rfl<|C.pick [1] An rfl)⟩
      ·have en:=bs;try simp only[zA]at en
       refine Ag<|A9<|W.s<|Aj []<|Cd Aa ?_
       refine W.s ?_
       have da:=N5 hA (by have z_:=Ja ok hA;omega) (((pr:Nat):Int),(Bi k.c k.fx s.p (((pr:Nat):Int),d,ds,f,(h:Int))).1.2.1,(Bi k.c k.fx s.p (((pr:Nat):Int),d,ds,f,(h:Int))).1.2.2)
       refine Ac<|A5 16 [(1,0),(0,0),(1,0),(0,0),(1,0),(1,0),(3,0)]<|Aw rfl (Au [4] [0,1,2,3] fun G l J=>(Ael k s _ pr ((Iy h pr ds f d k s).1.2.1) d ((Iy h pr ds f d k s).1.2.2) f h ttl o pid t u V X Y bg _ ok J hA Ae Ae da.1 fun LL_ ck ae=>ew _ _<|Mem.back (LL:=[NG k s]) (R:=[Ws h L pr ds f d k s,Tp h p8 pr ds f d,To F,Tn V Y X p4 u pid o t ttl]) (Mem.pick [4,0,1,2,3] An l rfl) ae)) fun fg dp=>?_
       obtain⟨U,cm,b0,al⟩:=fg
       dsimp only at dp
       obtain⟨b1,S⟩:=dp
       refine B0 (LL':=[NG k U,Aar b0,Ws h L pr ds f d k s,Tp h p8 pr ds f d,To F,Tn V Y X p4 u pid o t ttl]) rfl ?_
       obtain⟨f7,f8,f9,ga,gb⟩:=NOk.len b1
       rcases S with S|S|S
       ·obtain⟨E,Z,aa,a9,eo⟩:=S
        obtain rfl:b0=none:=aa
        obtain rfl:cm=none:=Z
        have cd:(al !=0)=true:=by rcases a9 with h_|h_<;>(simp only at h_;rw[h_];rfl)
        have E:U.p=s.p:=E
        refine Ab 5<|Ai<|Al [0,2,3,4,5] An rfl<|W.s ?_
        refine Ac<|Ab 1<|Ao (v:=bV true) ((Ys.p (v:=bV<|al !=0)).conseq<|B2 cd)<|Ai ?_
        refine Cd Aa<|W.s ?_
        refine Ac<|Ab 2<|Af rfl (A0 F 0 3 0 Q1z sizeOf40 rfl rfl) fun _=>Ab 1<|Ay ?_
        refine A9<|Al [0,3] An rfl<|Am rfl<|E2 rfl (Bu F 0 1 0 Oc isAgg40 sizeOf40) (Ar<|iV .i64 al) fun G C=>⟨(U,al,Wy,[]),⟨N.eq b1 E,(by rw[E]),(by rw[E];omega),.no (by simpa using cd) (by rw[E]) rfl<|.inr<|.inr<|.inr<|.inr<|.inr ⟨(by simpa using ci),af,(by simpa using bs),eo⟩⟩,rfl,(Mem.flat (LL:=[NG k U]) rfl<|C.pick [0] An rfl)⟩
       ·obtain⟨E,aa,a9,⟨H,P⟩,a2,Z,ab,dd⟩:=S
        obtain rfl:b0=none:=aa
        obtain rfl:cm=some H:=Z
        obtain rfl:al=0:=a9
        obtain⟨fA,fB,O⟩:=Ka a2
        have I:U.p=s.p:=E
        have cl:U.p.es=fA++(H,P)::fB:=by rw[I];exact O
        have ao:P.src=(Bi k.c k.fx s.p (((pr:Nat):Int),d,ds,f,(h:Int))).1.2.1:=congrArg (·.2.1) ab
        have ap:P.frm=(Bi k.c k.fx s.p (((pr:Nat):Int),d,ds,f,(h:Int))).1.2.2:=congrArg (·.2.2.2.1) ab
        refine Ab 5<|Ai<|Al [0,2,3,4,5] An rfl<|Aj [] ?_
        refine B4 Aa<|Ag<|A9<|W.s ?_
        obtain⟨bt,b3⟩: ∃z,z=O7 U (fA++fB):=⟨_,rfl⟩
        have dq:NOk k bt:=b3▸F9 b1 _
        have am:bt.p={U.p with es:=fA++fB}:=by rw[b3];rfl
        obtain⟨gd,gg,gh,gi,gj⟩:=NOk.len dq
        refine W.conseq (S':=Mem w M [NG k bt,[cb H (Sq P) 113],Ws h L pr ds f d k s,Tp h p8 pr ds f d,To F,Tn V Y X p4 u pid o t ttl]) (fun G h_=>b3▸M3 cl h_)<|Ac<|A5 4 [(5,0)]<|Aw rfl (Au [0,1] [2,3,4,5] fun G l J=>(I8 k bt _ P H ttl o pid t u V X Y now fl false sg _ dq J (by rw[show bt.p.ws=s.p.ws by rw[am,I]<;>rfl];have z_:=bm;omega) fun LL_ ck ae=>c1 _ _<|Mem.back (LL:=[NG k bt,[cb H (Sq P) 113]]) (R:=[Ws h L pr ds f d k s,Tp h p8 pr ds f d,To F,Tn V Y X p4 u pid o t ttl]) (Mem.pick [0,1,2,3,4,5] An l rfl) ae)) fun fh dr=>?_
        obtain⟨ar,cu⟩:=fh
        dsimp only at dr
        obtain⟨dt,cv,bb⟩:=dr
        refine B0 (LL':=[NG k ar,[cb H (Sq cu) 113],Ws h L pr ds f d k s,Tp h p8 pr ds f d,To F,Tn V Y X p4 u pid o t ttl]) rfl ?_
        obtain⟨gk,gl,gm,gn,go⟩:=NOk.len dt
        refine Ai<|W.s<|C5 [(0,true),(1,true),(2,true),(3,true),(4,false),(5,false),(6,false),(7,false),(8,true),(9,false),(10,false),(11,false)] [0,1,2,3,8]<|Bs 6 [(5,0),(3,0),(2,0),(2,0)] ?_
        refine Ec (v:=aV<|Q21 h pr ds f d k s) rfl (A8 fun G l=>(Ip (pr:Int) d ds f (h:Int) ((Iy h pr ds f d k s).1.2.1) ((Iy h pr ds f d k s).1.2.2) _))<|Ca rfl rfl (Au [] [0,1,2,3,4,5] fun G l J=>(ch (Q1y h pr ds f d k s) _ _ l (G3 aj (by rw[←ao];exact(hA.rng (H,P) a2).src)<|by rw[←ap];exact(hA.rng (H,P) a2).frm) rfl)) (Az [1,2,3,4,5,6]) fun bd d5=>?_
        refine Wd.mp 2 [] [1,2,3,4,5,6]<|Cj rfl rfl (A0 F 0 5 0 (Tk<|rv (Q1y h pr ds f d k s) bd) sizeOf40 rfl rfl) (.inl Aa) fun _=>?_
        refine Dh 1 []<|Cl<|Al [0,1,2,5] An rfl<|Am rfl ?_
        have az:ar.p.es=fA++fB:=by rw[bb,am,I]
        have A:=N6 (p':=(O7 ar (fA++(H,cu)::fB)).p) N O cv (by show({ar.p with es:=_}:NP)=_;rw[bb,am,I])
        exact E2 rfl (Bu F 0 3 0 (Tk<|rv (((pr:Nat):Int),d,(Bi k.c k.fx s.p (((pr:Nat):Int),d,ds,f,(h:Int))).1.2.1,f,(Bi k.c k.fx s.p (((pr:Nat):Int),d,ds,f,(h:Int))).1.2.2) bd) isAgg40 sizeOf40) (Ar<|iV .i64<|re (((pr:Nat):Int),d,(Bi k.c k.fx s.p (((pr:Nat):Int),d,ds,f,(h:Int))).1.2.1,f,(Bi k.c k.fx s.p (((pr:Nat):Int),d,ds,f,(h:Int))).1.2.2)) fun G C=>⟨(O7 ar (fA++(H,cu)::fB),re (((pr:Nat):Int),d,(Bi k.c k.fx s.p (((pr:Nat):Int),d,ds,f,(h:Int))).1.2.1,f,(Bi k.c k.fx s.p (((pr:Nat):Int),d,ds,f,(h:Int))).1.2.2),rv (((pr:Nat):Int),d,(Bi k.c k.fx s.p (((pr:Nat):Int),d,ds,f,(h:Int))).1.2.1,f,(Bi k.c k.fx s.p (((pr:Nat):Int),d,ds,f,(h:Int))).1.2.2) bd,rs (((pr:Nat):Int),d,(Bi k.c k.fx s.p (((pr:Nat):Int),d,ds,f,(h:Int))).1.2.1,f,(Bi k.c k.fx s.p (((pr:Nat):Int),d,ds,f,(h:Int))).1.2.2) bd),⟨⟨F9 dt _,A.1,A.2,N.fr,N.fu,(by show RngM ar.p.ms;rw[bb,am,I];exact N.mr)⟩,(by show ar.p.ms=_;rw[bb,am,I]),(by show ar.p.lst≤_;rw[bb,am,I];show s.p.lst≤_;omega),.old (by simpa using h9) fA fB H P cu O ⟨congrArg (·.1) ab,dd,congrArg (·.2.2.1) ab,congrArg (·.2.2.2.2) ab⟩ cv rfl<|by rw[ao,ap];exact⟨rfl,bd,d5,rfl,rfl⟩⟩,rfl,(Lw az<|Mem.pick [1,2,0] An C rfl)⟩
       ·obtain⟨a9,a6,h2,h3,T,ep,Z,aa,E⟩:=S
        obtain rfl:b0=some (T,Ls (((pr:Nat):Int),(Bi k.c k.fx s.p (((pr:Nat):Int),d,ds,f,(h:Int))).1.2.1,d,(Bi k.c k.fx s.p (((pr:Nat):Int),d,ds,f,(h:Int))).1.2.2,f) (h:Int) s.p.lst true):=aa
        obtain rfl:cm=some T:=Z
        obtain rfl:al=0:=a9
        have E:U.p=Ov k s.p (((pr:Nat):Int),(Bi k.c k.fx s.p (((pr:Nat):Int),d,ds,f,(h:Int))).1.2.1,d,(Bi k.c k.fx s.p (((pr:Nat):Int),d,ds,f,(h:Int))).1.2.2,f) (h:Int) true T ep:=E
        refine Ab 5<|Ai<|Aj []<|B4 Aa ?_
        refine Ag<|A9<|W.s ?_
        skip
        refine Ac<|A5 4 [(5,0)]<|Aw rfl (Au [0,1] [2,3,4,5] fun G l J=>(I8 k U _ (Ls (((pr:Nat):Int),(Iy h pr ds f d k s).1.2.1,d,(Iy h pr ds f d k s).1.2.2,f) (h:Int) s.p.lst true) T ttl o pid t u V X Y now fl false sg _ b1 J (by rw[show U.p.ws=s.p.ws by rw[E]<;>rfl];have z_:=bm;omega) fun LL_ ck ae=>c1 _ _<|Mem.back (LL:=[NG k U,[cb T [nV .u8 pr,iV .u32<|(Iy h pr ds f d k s).1.2.1,iV .u32 d,iV .u16<|(Iy h pr ds f d k s).1.2.2,iV .u16 f,nV .u16 h,iV .u64 0,bV false,bV false,bV false,bV false,bV false,bV false,iV .u64 s.p.lst,bV true] 113]]) (R:=[Ws h L pr ds f d k s,Tp h p8 pr ds f d,To F,Tn V Y X p4 u pid o t ttl]) (Mem.pick [0,1,2,3,4,5] An l rfl) ae)) fun fi du=>?_
        obtain⟨cf,cw⟩:=fi
        dsimp only at du
        obtain⟨dv,cx,dw⟩:=du
        refine B0 (LL':=[NG k cf,Q1v cw T,Ws h L pr ds f d k s,Tp h p8 pr ds f d,To F,Tn V Y X p4 u pid o t ttl]) rfl ?_
        obtain⟨gp,gq,gr,gs,gu⟩:=NOk.len dv
        refine Ai<|W.s<|C5 [(0,true),(1,true),(2,true),(3,true),(4,false),(5,false),(6,false),(7,false),(8,true),(9,false),(10,false),(11,false)] [0,1,2,3,8]<|Bs 6 [(5,0),(3,0),(2,0),(2,0)] ?_
        refine Ec (v:=aV<|Q21 h pr ds f d k s) rfl (A8 fun G l=>(Ip (pr:Int) d ds f (h:Int) ((Iy h pr ds f d k s).1.2.1) ((Iy h pr ds f d k s).1.2.2) _))<|Ca rfl rfl (Au [] [0,1,2,3,4,5] fun G l J=>(ch (Q1y h pr ds f d k s) _ _ l (G3 aj (Oy N aj hd af<|by simpa using bs).1.2.1 (Oy N aj hd af<|by simpa using bs).1.2.2.2.1) rfl)) (Az [1,2,3,4,5,6]) fun bf d6=>?_
        refine Wd.mp 2 [] [1,2,3,4,5,6]<|Cj rfl rfl (A0 F 0 5 0 (Tk<|rv (Q1y h pr ds f d k s) bf) sizeOf40 rfl rfl) (.inl Aa) fun _=>?_
        refine Dh 1 []<|Cl<|Al [0,1,2,5] An rfl<|Am rfl ?_
        have a8:=Oy N aj hd af (by simpa using bs)
        have az:cf.p.es=(s.p.es.take (Bk ordF s.p.xs (((pr:Nat):Int),(Bi k.c k.fx s.p (((pr:Nat):Int),d,ds,f,(h:Int))).1.2.1,d,(Bi k.c k.fx s.p (((pr:Nat):Int),d,ds,f,(h:Int))).1.2.2,f)))++(s.p.es.drop (Bk ordF s.p.xs (((pr:Nat):Int),(Bi k.c k.fx s.p (((pr:Nat):Int),d,ds,f,(h:Int))).1.2.1,d,(Bi k.c k.fx s.p (((pr:Nat):Int),d,ds,f,(h:Int))).1.2.2,f))):=by rw[dw,E,List.take_append_drop]<;>rfl
        have A:=Us (p':=(O7 cf ((s.p.es.take (Bk ordF s.p.xs (((pr:Nat):Int),(Bi k.c k.fx s.p (((pr:Nat):Int),d,ds,f,(h:Int))).1.2.1,d,(Bi k.c k.fx s.p (((pr:Nat):Int),d,ds,f,(h:Int))).1.2.2,f)))++(T,cw)::(s.p.es.drop (Bk ordF s.p.xs (((pr:Nat):Int),(Bi k.c k.fx s.p (((pr:Nat):Int),d,ds,f,(h:Int))).1.2.1,d,(Bi k.c k.fx s.p (((pr:Nat):Int),d,ds,f,(h:Int))).1.2.2,f))))).p) N a6 Ae Ae (by have z_:=a8.2.2;rw[a0]at z_;exact z_) (Ur a8.1 (by constructor<;>(show _<=_;omega))) (by have z_:=a8.2.1 s.p.lst;rw[a0]at z_;exact z_) cx (by show({cf.p with es:=_}:NP)=_;rw[dw,E]<;>rfl)
        exact E2 rfl (Bu F 0 3 0 (Tk<|rv (((pr:Nat):Int),d,(Bi k.c k.fx s.p (((pr:Nat):Int),d,ds,f,(h:Int))).1.2.1,f,(Bi k.c k.fx s.p (((pr:Nat):Int),d,ds,f,(h:Int))).1.2.2) bf) isAgg40 sizeOf40) (Ar<|iV .i64<|re (((pr:Nat):Int),d,(Bi k.c k.fx s.p (((pr:Nat):Int),d,ds,f,(h:Int))).1.2.1,f,(Bi k.c k.fx s.p (((pr:Nat):Int),d,ds,f,(h:Int))).1.2.2)) fun G C=>⟨(O7 cf ((s.p.es.take<|Bk ordF s.p.xs (((pr:Nat):Int),(Bi k.c k.fx s.p (((pr:Nat):Int),d,ds,f,(h:Int))).1.2.1,d,(Bi k.c k.fx s.p (((pr:Nat):Int),d,ds,f,(h:Int))).1.2.2,f))++(T,cw)::(s.p.es.drop<|Bk ordF s.p.xs (((pr:Nat):Int),(Bi k.c k.fx s.p (((pr:Nat):Int),d,ds,f,(h:Int))).1.2.1,d,(Bi k.c k.fx s.p (((pr:Nat):Int),d,ds,f,(h:Int))).1.2.2,f))),re (((pr:Nat):Int),d,(Bi k.c k.fx s.p (((pr:Nat):Int),d,ds,f,(h:Int))).1.2.1,f,(Bi k.c k.fx s.p (((pr:Nat):Int),d,ds,f,(h:Int))).1.2.2),rv (((pr:Nat):Int),d,(Bi k.c k.fx s.p (((pr:Nat):Int),d,ds,f,(h:Int))).1.2.1,f,(Bi k.c k.fx s.p (((pr:Nat):Int),d,ds,f,(h:Int))).1.2.2) bf,rs (((pr:Nat):Int),d,(Bi k.c k.fx s.p (((pr:Nat):Int),d,ds,f,(h:Int))).1.2.1,f,(Bi k.c k.fx s.p (((pr:Nat):Int),d,ds,f,(h:Int))).1.2.2) bf),⟨⟨F9 dv _,A.1,A.2.1,N.fr,N.fu,(by rw[A.2.2.1];exact N.mr)⟩,A.2.2.1,(by rw[A.2.2.2];omega),.new (by simpa using h9) (by simpa using ci) af (by simpa using bs) a6 (s.p.es.take<|Bk ordF s.p.xs (((pr:Nat):Int),(Bi k.c k.fx s.p (((pr:Nat):Int),d,ds,f,(h:Int))).1.2.1,d,(Bi k.c k.fx s.p (((pr:Nat):Int),d,ds,f,(h:Int))).1.2.2,f)) (s.p.es.drop<|Bk ordF s.p.xs (((pr:Nat):Int),(Bi k.c k.fx s.p (((pr:Nat):Int),d,ds,f,(h:Int))).1.2.1,d,(Bi k.c k.fx s.p (((pr:Nat):Int),d,ds,f,(h:Int))).1.2.2,f)) T cw (List.take_append_drop _ _).symm (by rw[a0];exact cx) rfl ⟨rfl,bf,d6,rfl,rfl⟩⟩,rfl,(Lw az<|Mem.pick [1,2,0] An C rfl)⟩
     ·obtain⟨eb,B,af,b5,h4,ef,a0,h5⟩:=cc
      obtain⟨⟨fA,fB,O⟩,c6,c7,c8,c9⟩:=Tm b5
      have d2:=Se O
      have ay:(eb,B)∈s.p.es:=by rw[O];exact Cr.2 (.inl rfl)
      have ao:B.src=(Bi k.c k.fx s.p (((pr:Nat):Int),d,ds,f,(h:Int))).1.2.1:=by rw[ef]
      have ap:B.frm=(Bi k.c k.fx s.p (((pr:Nat):Int),d,ds,f,(h:Int))).1.2.2:=by rw[ef]
      refine Ac<|A5 2 [(0,0)]<|Cb (v:=Value.tuple #[aV (Q20 h pr ds f d k s),bV<|(Iy h pr ds f d k s).2.1,pL<|Cz (Iy h pr ds f d k s).2.2.1,iV .i64 ((Iy h pr ds f d k s).2.2.2)]) (A8 fun G l=>(R9 k s (pr:Int) d ds f (h:Int) _ (Tf (i:=3) l rfl ok) ok hA.tie))<|Ab 2<|Ao (v:=bV false) ((Ys.p (v:=bV<|(Iy h pr ds f d k s).2.1)).conseq<|B2 a0) ?_
      refine Ao (v:=pV eb 0) ((Ys.p (v:=pL<|Cz (Iy h pr ds f d k s).2.2.1)).conseq<|(by rw[af];rfl))<|Ao (v:=iV .i64 0) ((Ys.p (v:=iV .i64<|(Iy h pr ds f d k s).2.2.2)).conseq<|Ad h5)<|Af rfl (Ba zeroValue97) fun L=>Af rfl (A0 L 0 0 0 (Q20 h pr ds f d k s) sizeOf97 rfl rfl) fun _=>Ab 3 ?_
      refine Ai<|W.s<|Aj []<|B4 Aa ?_
      refine Ag<|A9<|W.s<|Aj []<|B4 Aa ?_
      refine Ag<|A9<|W.s ?_
      obtain⟨bu,b4⟩: ∃z,z=O7 s (fA++fB):=⟨_,rfl⟩
      have dx:NOk k bu:=b4▸F9 ok _
      have an:bu.p={s.p with es:=fA++fB}:=by rw[b4];rfl
      obtain⟨gw,gx,gy,gz,g0⟩:=NOk.len dx
      refine W.conseq (S':=Mem w M [NG k bu,[cb eb (Sq B) 113],Ws h L pr ds f d k s,Tp h p8 pr ds f d,To F,Tn V Y X p4 u pid o t ttl]) (fun G h_=>b4▸M3 O (h_.pick [4,0,1,2,3] An rfl))<|Ac<|A5 4 [(5,0)]<|Aw rfl (Au [0,1] [2,3,4,5] fun G l J=>(I8 k bu _ B eb ttl o pid t u V X Y now fl false sg _ dx J (by rw[show bu.p.ws=s.p.ws by rw[an]<;>rfl];have z_:=bm;omega) fun LL_ ck ae=>c1 _ _<|Mem.back (LL:=[NG k bu,[cb eb (Sq B) 113]]) (R:=[Ws h L pr ds f d k s,Tp h p8 pr ds f d,To F,Tn V Y X p4 u pid o t ttl]) (Mem.pick [0,1,2,3,4,5] An l rfl) ae)) fun fj dy=>?_
      obtain⟨au,cy⟩:=fj
      dsimp only at dy
      obtain⟨dz,c0,bh⟩:=dy
      refine B0 (LL':=[NG k au,[cb eb (Sq cy) 113],Ws h L pr ds f d k s,Tp h p8 pr ds f d,To F,Tn V Y X p4 u pid o t ttl]) rfl ?_
      obtain⟨g1,g2,g3,g4,g5⟩:=NOk.len dz
      refine Ai<|W.s<|C5 [(0,true),(1,true),(2,true),(3,true),(4,false),(5,false),(6,false),(7,false),(8,true),(9,false),(10,false),(11,false)] [0,1,2,3,8]<|Bs 6 [(5,0),(3,0),(2,0),(2,0)] ?_
      refine Ec (v:=aV<|Q21 h pr ds f d k s) rfl (A8 fun G l=>(Ip (pr:Int) d ds f (h:Int) ((Iy h pr ds f d k s).1.2.1) ((Iy h pr ds f d k s).1.2.2) _))<|Ca rfl rfl (Au [] [0,1,2,3,4,5] fun G l J=>(ch (Q1y h pr ds f d k s) _ _ l (G3 aj (by rw[←ao];exact(hA.rng (eb,B) ay).src)<|by rw[←ap];exact(hA.rng (eb,B) ay).frm) rfl)) (Az [1,2,3,4,5,6]) fun bi d7=>?_
      refine Wd.mp 2 [] [1,2,3,4,5,6]<|Cj rfl rfl (A0 F 0 5 0 (Tk<|rv (Q1y h pr ds f d k s) bi) sizeOf40 rfl rfl) (.inl Aa) fun _=>?_
      refine Dh 1 []<|Cl<|Al [0,1,2,5] An rfl<|Am rfl ?_
      have az:au.p.es=fA++fB:=by rw[bh,an]
      have A:=N6 (p':=(O7 au (fA++(eb,cy)::fB)).p) N O c0 (by show({au.p with es:=_}:NP)=_;rw[bh,an])
      exact E2 rfl (Bu F 0 3 0 (Tk<|rv (((pr:Nat):Int),d,(Bi k.c k.fx s.p (((pr:Nat):Int),d,ds,f,(h:Int))).1.2.1,f,(Bi k.c k.fx s.p (((pr:Nat):Int),d,ds,f,(h:Int))).1.2.2) bi) isAgg40 sizeOf40) (Ar<|iV .i64<|re (((pr:Nat):Int),d,(Bi k.c k.fx s.p (((pr:Nat):Int),d,ds,f,(h:Int))).1.2.1,f,(Bi k.c k.fx s.p (((pr:Nat):Int),d,ds,f,(h:Int))).1.2.2)) fun G C=>⟨(O7 au (fA++(eb,cy)::fB),re (((pr:Nat):Int),d,(Bi k.c k.fx s.p (((pr:Nat):Int),d,ds,f,(h:Int))).1.2.1,f,(Bi k.c k.fx s.p (((pr:Nat):Int),d,ds,f,(h:Int))).1.2.2),rv (((pr:Nat):Int),d,(Bi k.c k.fx s.p (((pr:Nat):Int),d,ds,f,(h:Int))).1.2.1,f,(Bi k.c k.fx s.p (((pr:Nat):Int),d,ds,f,(h:Int))).1.2.2) bi,rs (((pr:Nat):Int),d,(Bi k.c k.fx s.p (((pr:Nat):Int),d,ds,f,(h:Int))).1.2.1,f,(Bi k.c k.fx s.p (((pr:Nat):Int),d,ds,f,(h:Int))).1.2.2) bi),⟨⟨F9 dz _,A.1,A.2,N.fr,N.fu,(by show RngM au.p.ms;rw[bh,an];exact N.mr)⟩,(by show au.p.ms=_;rw[bh,an]),(by show au.p.lst≤_;rw[bh,an];show s.p.lst≤_;omega),.old (by simpa using h9) fA fB eb B cy O ⟨c6,c7,c8,c9⟩ c0 rfl<|by rw[ao,ap];exact⟨rfl,bi,d7,rfl,rfl⟩⟩,rfl,(Lw az<|Mem.pick [1,2,0] An C rfl)⟩
theorem Aen(fx:List Conf.Fwd)(d:Option Addr)(q:Nat)(w:World)(j:At w d (mm Conf.fwv fx))(A:fx.length≤100000):Calls prog 63 #[sL d fx.length q] w (Bn w (fun h:FS=>h.ok 4 fx.length) (fun h=>.slice h.a fx.length h.cap) [] (fun h=>[h.seg 65 (mm Conf.fwv fx)])):=by
 refine Ap (M:=[]) (LL:=[]) (n:=8) func63 rfl rfl A7 (Mem.refl _)<|Aj []<|W.s<|Av ?_
 refine Ab 1<|Ao (v:=bV d.isNone) (Ys.pure fun _=>by generalize d=a_;cases a_<;>kernel_rfl)<|Ai ?_
 refine Ak (d.isNone) Aa (fun B=>?_) fun G=>?_
 ·refine Aj []<|Am rfl ?_
  have b:fx=[]:=List.length_eq_zero_iff.1 (by have C:=Km j B;rw[V9]at C;omega)
  exact D9 rfl (Ar<|sL none 0 0) fun r f=>⟨FS.nul,(by rw[b];exact B6 4),Eo<|(by rw[b];rfl),(Mem.cast (by rw[b];rfl)<|Mem.push f)⟩
 ·refine Ag<|A9<|Av<|Af rfl (Bj (mk:=fun D=>.slice (some ⟨D,0,none⟩) 0 0) (t:=65) (cs:=[]) rfl fun _=>kr) fun E=>?_
  refine Ab 1<|Aw rfl (HtS.append (eu:=65) (xv:=sL d fx.length q) (i:=0) (g:=(FS.mk false E 0 [])) (e:=65) (ii:=(prog.info? 65).getD default) (z:=aV zl5) (sz:=4) (bytes:=12) (nn:=0) (m:=fx.length) (k:=fx.length) (xs:=mm fwv []) (news:=mm fwv fx) (cs':=mm fwv fx) (Lo:=fun c=>[c.seg 65 (mm fwv fx)]) rfl rfl Aa Aa Aa Aa Aa Aa Aa Aa Aa rfl (D4 An) rfl (fun _=>rfl) (Src.at (a:=d) (Ch (g:=fwv) (sz:=4) (fun _=>rfl) _) fun r F=>(j.mem0 F)) (Ch (g:=fwv) (sz:=4) (fun _=>rfl) _) (Gz Ahe _) Ey Ho Ey rfl fun _=>rfl) fun c l=>?_
  obtain⟨o,u,x⟩:=l
  refine Ab 1<|Ai<|Am rfl<|D9 rfl (Ar<|sV c fx.length) fun r f=>⟨c,o,rfl,(f.pick [0] An rfl)⟩
theorem Ama(d e f h i j l o q r t u x A B C D E F G b ms H I J L:Int)(O:ByteArray)(fx:List Conf.Fwd)(P:Option Addr)(Q:Nat)(w:World)(R:At w P (mm Conf.fwv fx))(V:fx.length≤100000):Calls prog 28 #[aV [iV .u8 d,iV .u8 e,iV .u8 f,iV .u8 h,iV .u8 i,iV .u8 j,iV .u8 l,iV .u8 o,iV .u8 q,iV .u8 r,iV .u8 t,iV .u8 u,iV .u8 x,iV .u8 A,iV .u8 B,iV .u8 C,iV .u8 D,iV .u8 E,iV .u32 F,iV .u32 G,iV .i64 b,iV .i64 ms,iV .i64 H,iV .i64 I,iV .i64 J,sL P fx.length Q,iV .u32 L,Value.string O]] w (Bn w (fun g:FS=>g.ok 4 fx.length) (fun g=>aV [iV .u8 d,iV .u8 e,iV .u8 f,iV .u8 h,iV .u8 i,iV .u8 j,iV .u8 l,iV .u8 o,iV .u8 q,iV .u8 r,iV .u8 t,iV .u8 u,iV .u8 x,iV .u8 A,iV .u8 B,iV .u8 C,iV .u8 D,iV .u8 E,iV .u32 F,iV .u32 G,iV .i64 b,iV .i64 ms,iV .i64 H,iV .i64 I,iV .i64 J,sV g fx.length,iV .u32 L,Value.string O]) [] (fun g=>[g.seg 65 (mm Conf.fwv fx)])):=by
 refine Ap (M:=[]) (LL:=[]) (n:=8) func28 rfl rfl A7 (Mem.refl _)<|W.s ?_
 refine Ac<|Af rfl (Bx [iV .u8 d,iV .u8 e,iV .u8 f,iV .u8 h,iV .u8 i,iV .u8 j,iV .u8 l,iV .u8 o,iV .u8 q,iV .u8 r,iV .u8 t,iV .u8 u,iV .u8 x,iV .u8 A,iV .u8 B,iV .u8 C,iV .u8 D,iV .u8 E,iV .u32 F,iV .u32 G,iV .i64 b,iV .i64 ms,iV .i64 H,iV .i64 I,iV .i64 J,sL P fx.length Q,iV .u32 L,Value.string O] rfl) fun X=>?_
 refine Af rfl (Ba zeroValue32) fun U=>Ai<|Av ?_
 refine A5 2 [(1,0)]<|Aw rfl (Au [] [0,1] fun Y S Z=>(Aen fx P Q _ (R.mem0 S) D1)) fun c N=>?_
 refine Ab 1<|Af rfl (Bd X 25 2 0 (sL c.a fx.length c.cap) sizeOf30 rfl rfl) fun _=>?_
 refine Ai<|Av<|A5 1 [(2,0)] ?_
 refine Af rfl (A0 U 0 1 0 [iV .u8 d,iV .u8 e,iV .u8 f,iV .u8 h,iV .u8 i,iV .u8 j,iV .u8 l,iV .u8 o,iV .u8 q,iV .u8 r,iV .u8 t,iV .u8 u,iV .u8 x,iV .u8 A,iV .u8 B,iV .u8 C,iV .u8 D,iV .u8 E,iV .u32 F,iV .u32 G,iV .i64 b,iV .i64 ms,iV .i64 H,iV .i64 I,iV .i64 J,sL c.a fx.length c.cap,iV .u32 L,Value.string O] sizeOf32 rfl rfl) fun _=>Ai<|Al [0,1] An rfl<|Am rfl<|D9 rfl (I1 U 0 1 0 isAgg32 sizeOf32) fun Y T=>⟨c,N,rfl,(T.pick [0] An rfl)⟩
abbrev np0:NP:=⟨[],[],[],[],[],fun _=>none,Em [],0,[]⟩
abbrev ns0:NS:=⟨np0,FS.nul,FS.nul,FS.nul,FS.nul,FS.nul⟩
theorem Amb(d e f g h:Nat)(gf:FS)(c:Conf.Cfg)(fx:List Fwd)(b:Int):NG (⟨d,e,f,g,h,gf,c,fx,b⟩:NK) ns0=([[cb d (C3 (⟨d,e,f,g,h,gf,c,fx,b⟩:NK) ns0) 91],gf.seg 65 (mm fwv fx),[cb e [Value.slice none 0 0,Value.int .i64 b,Value.func (.func 31) #[] #[]] 153],[cb g [Value.slice none 0 0,Value.int .i64 b,Value.func (.func 35) #[] #[]] 163],[cb f [Value.slice none 0 0,Value.int .i64 b,Value.func (.func 33) #[] #[]] 160],[cb h [.slice none 0 0] 150]]:List (List Blk)).flatten:=by
  show(Gr _ ns0).flatten=_
  unfold Gr
  show List.flatten [_,[],_,[],_,[],_,[],_,[],_,Gv (fun _=>none) (Em []),[]]=_
  rw[R8]
  simp only[List.flatten_cons,List.nil_append,List.flatten_nil,List.append_nil]
  rfl
theorem Aiv{e f g h i:Nat}{gf:FS}{c:Conf.Cfg}{fx:List Fwd}(j:gf.ok 4 fx.length)(d:fx.length≤100000)(l:c.ms≤50000):NOk (⟨e,f,g,h,i,gf,c,fx,Ep c.ms 0⟩:NK) ns0:=by
  have b:0≤Ep c.ms 0∧Ep c.ms 0≤50000:=by unfold Ep;split<;>omega
  exact⟨B6 5,j,B6 6,B6 6,B6 5,B6 2,Nat.zero_le _,d,b,b.1,b.1,b.1,Nat.zero_le _,List.Pairwise.nil,List.Pairwise.nil,List.Pairwise.nil,OkS.nil,fun p _=>by show Em [] p=_;rw[Zr]⟩
structure NewP(c:Conf.Cfg)(fx:List Fwd)(k:NK)(s:NS):Prop where
  inv:Inv k s
  ms:s.p.ms=[]
  es:s.p.es=[]
  lst:s.p.lst=0
  kc:k.c=c
  kfx:k.fx=fx
  kmo:k.mo=Ep c.ms 0
theorem Aq4{d g j l n:Nat}{gf:FS}{c:Conf.Cfg}{fx:List Fwd}{tk:Nat→Option Nat}(ok:NOk (⟨d,g,j,l,n,gf,c,fx,Ep c.ms 0⟩:NK) (Hu ns0 tk (Em (F3 fx++H6 []++Mm []))))(o:RngF fx)(q:FxU fx):NewP c fx (⟨d,g,j,l,n,gf,c,fx,Ep c.ms 0⟩:NK) (Hu ns0 tk (Em (F3 fx++H6 []++Mm []))):=by
  have e: ∀{α:Type} {x:α},x∈([]:List α)→False:=fun h=>by cases h
  refine⟨⟨ok,⟨rfl,fun i f=>⟨fun h=>(e h).elim,fun⟨x,b,_⟩=>(e b).elim⟩,List.Pairwise.nil,⟨Int.le_refl _,fun x b=>(e b).elim⟩,fun i t=>⟨fun h=>(e h).elim,fun⟨x,b,_⟩=>(e b).elim⟩,fun _ _ h=>(e h).elim,fun _ h=>(e h).elim,fun _ _ _ _ h=>(e h).elim,fun _ h=>(e h).elim⟩,⟨fun _ h=>(e h).elim,rfl⟩,o,q,fun _ h=>(e h).elim⟩,rfl,rfl,rfl,rfl,rfl,rfl⟩
abbrev Q22(c:Conf.Cfg)(b:Option Addr)(d e:Nat)(fx:List Fwd):List Blk:=[cb e [iV .u8 c.lm0,iV .u8 c.lm1,iV .u8 c.lm2,iV .u8 c.lm3,iV .u8 c.lm4,iV .u8 c.lm5,iV .u8 c.wm0,iV .u8 c.wm1,iV .u8 c.wm2,iV .u8 c.wm3,iV .u8 c.wm4,iV .u8 c.wm5,iV .u8 c.hm0,iV .u8 c.hm1,iV .u8 c.hm2,iV .u8 c.hm3,iV .u8 c.hm4,iV .u8 c.hm5,iV .u32 c.lan,iV .u32 c.wan,iV .i64 c.bits,iV .i64 c.ms,iV .i64 c.mm,iV .i64 c.mc,iV .i64 c.mu,sL b fx.length d,iV .u32 c.dmz,Value.string c.uu] 32]
theorem Aeo(c:Conf.Cfg)(fx:List Fwd)(t:Option Addr)(u:Nat)(w:World)(D:At w t (mm Conf.fwv fx))(E:fx.length≤100000)(F:c.ms≤50000)(J:RngF fx)(L:FxU fx):Calls prog 10 #[aV [iV .u8 c.lm0,iV .u8 c.lm1,iV .u8 c.lm2,iV .u8 c.lm3,iV .u8 c.lm4,iV .u8 c.lm5,iV .u8 c.wm0,iV .u8 c.wm1,iV .u8 c.wm2,iV .u8 c.wm3,iV .u8 c.wm4,iV .u8 c.wm5,iV .u8 c.hm0,iV .u8 c.hm1,iV .u8 c.hm2,iV .u8 c.hm3,iV .u8 c.hm4,iV .u8 c.hm5,iV .u32 c.lan,iV .u32 c.wan,iV .i64 c.bits,iV .i64 c.ms,iV .i64 c.mm,iV .i64 c.mc,iV .i64 c.mu,sL t fx.length u,iV .u32 c.dmz,Value.string c.uu]] w (Bn w (fun r:NK×NS=>NewP c fx r.1 r.2) (fun r=>.pointer (some ⟨r.1.nb,0,none⟩)) [] (fun r=>[NG r.1 r.2])):=by
 refine Ap (M:=[]) (LL:=[]) (n:=30) func10 rfl rfl A7 (Mem.refl _)<|W.s ?_
 refine Ac<|Af rfl (Bx [iV .u8 c.lm0,iV .u8 c.lm1,iV .u8 c.lm2,iV .u8 c.lm3,iV .u8 c.lm4,iV .u8 c.lm5,iV .u8 c.wm0,iV .u8 c.wm1,iV .u8 c.wm2,iV .u8 c.wm3,iV .u8 c.wm4,iV .u8 c.wm5,iV .u8 c.hm0,iV .u8 c.hm1,iV .u8 c.hm2,iV .u8 c.hm3,iV .u8 c.hm4,iV .u8 c.hm5,iV .u32 c.lan,iV .u32 c.wan,iV .i64 c.bits,iV .i64 c.ms,iV .i64 c.mm,iV .i64 c.mc,iV .i64 c.mu,sL t fx.length u,iV .u32 c.dmz,Value.string c.uu] rfl) fun G=>?_
 refine Ab 1<|Ai<|Av ?_
 refine A5 1 [(0,0)]<|Aw rfl (Au [] [0] fun x l o=>(Ama c.lm0 c.lm1 c.lm2 c.lm3 c.lm4 c.lm5 c.wm0 c.wm1 c.wm2 c.wm3 c.wm4 c.wm5 c.hm0 c.hm1 c.hm2 c.hm3 c.hm4 c.hm5 c.lan c.wan c.bits c.ms c.mm c.mc c.mu c.dmz c.uu fx t u _ (D.mem0 l) D1)) fun d A=>?_
 refine Aw rfl (Au [] [0,1] fun x l o=>(Aky _)) fun f _=>Ao (v:=Value.agg (En (O4 c<|sL d.a fx.length d.cap) (sL none 0 0) (pL none) (pL none) (fun _=>none) (pV f 0) (pL none)<|iV .u64 0).toArray) (Ys.p)<|Af rfl (E9 (v:=Value.agg (En (O4 c<|sL d.a fx.length d.cap) (sL none 0 0) (pL none) (pL none) (fun _=>none) (pV f 0) (pL none)<|iV .u64 0).toArray) (cs:=En (O4 c<|sL d.a fx.length d.cap) (sL none 0 0) (pL none) (pL none) (fun _=>none) (pV f 0) (pL none)<|iV .u64 0) rfl rfl Aa rfl) fun q=>Ab 1<|Ay ?_
 refine A9<|W.s ?_
 refine Ac<|A5 3 [(3,0)]<|Aw rfl (Au [] [0,1,2,3] fun x l o=>(Ako c.ms _)) fun e _=>Ab 2<|Af rfl (Es (b:=q) (o':=29) (i:=1) (j:=0) (cs:=En (O4 c<|sL d.a fx.length d.cap) (sL none 0 0) (pL none) (pL none) (fun _=>none) (pV f 0) (pL none)<|iV .u64 0) (cs':=En (O4 c<|sL d.a fx.length d.cap) (sL none 0 0) (pV e 0) (pL none) (fun _=>none) (pV f 0) (pL none)<|iV .u64 0) (v:=pV e 0) (LL':=[[cb e [sL none 0 0,iV .i64<|Ep c.ms 0,Value.func (.func 31) #[] #[]] 153],[cb q (En (O4 c<|sL d.a fx.length d.cap) (sL none 0 0) (pV e 0) (pL none) (fun _=>none) (pV f 0) (pL none)<|iV .u64 0) 91],[cb f [sL none 0 0] 150],d.seg 65<|mm fwv fx,Q22 c t u G fx]) rfl rfl Aa Aa sizeOf85 rfl rfl rfl (by rw[Hk rfl];decide) ((Lm rfl An).trans rfl) rfl) fun _=>?_
 refine Ai<|Av<|A5 3 [(4,0)] ?_
 refine Aw rfl (Au [] [0,1,2,3,4] fun x l o=>(Akp c.ms _)) fun g _=>Ab 2<|Af rfl (Es (b:=q) (o':=30) (i:=2) (j:=0) (cs:=En (O4 c<|sL d.a fx.length d.cap) (sL none 0 0) (pV e 0) (pL none) (fun _=>none) (pV f 0) (pL none)<|iV .u64 0) (cs':=En (O4 c<|sL d.a fx.length d.cap) (sL none 0 0) (pV e 0) (pV g 0) (fun _=>none) (pV f 0) (pL none)<|iV .u64 0) (v:=pV g 0) (LL':=[[cb g [sL none 0 0,iV .i64<|Ep c.ms 0,Value.func (.func 33) #[] #[]] 160],[cb e [sL none 0 0,iV .i64<|Ep c.ms 0,Value.func (.func 31) #[] #[]] 153],[cb q (En (O4 c<|sL d.a fx.length d.cap) (sL none 0 0) (pV e 0) (pV g 0) (fun _=>none) (pV f 0) (pL none)<|iV .u64 0) 91],[cb f [sL none 0 0] 150],d.seg 65<|mm fwv fx,Q22 c t u G fx]) rfl rfl Aa Aa sizeOf86 rfl rfl rfl (by rw[Hk rfl];decide) ((Lm rfl An).trans rfl) rfl) fun _=>Ai ?_
 refine Av<|A5 3 [(5,0)]<|Aw rfl (Au [] [0,1,2,3,4,5] fun x l o=>(Akr c.ms _)) fun h _=>Ab 2 ?_
 refine Af rfl (Es (b:=q) (o':=288) (i:=3) (j:=0) (cs:=En (O4 c<|sL d.a fx.length d.cap) (sL none 0 0) (pV e 0) (pV g 0) (fun _=>none) (pV f 0) (pL none)<|iV .u64 0) (cs':=En (O4 c<|sL d.a fx.length d.cap) (sL none 0 0) (pV e 0) (pV g 0) (fun _=>none) (pV f 0) (pV h 0)<|iV .u64 0) (v:=pV h 0) (LL':=[[cb h [sL none 0 0,iV .i64<|Ep c.ms 0,Value.func (.func 35) #[] #[]] 163],[cb g [sL none 0 0,iV .i64<|Ep c.ms 0,Value.func (.func 33) #[] #[]] 160],[cb e [sL none 0 0,iV .i64<|Ep c.ms 0,Value.func (.func 31) #[] #[]] 153],[cb q (En (O4 c<|sL d.a fx.length d.cap) (sL none 0 0) (pV e 0) (pV g 0) (fun _=>none) (pV f 0) (pV h 0)<|iV .u64 0) 91],[cb f [sL none 0 0] 150],d.seg 65<|mm fwv fx,Q22 c t u G fx]) rfl rfl Aa Aa sizeOf89 rfl rfl rfl (by rw[Hk rfl];decide) ((Ll rfl 1).trans rfl) rfl) fun _=>Ai<|Al [0,1,2,3,4,5] An rfl<|W.s ?_
 refine Ac<|Ab 1<|Aw rfl (Au [3,5,2,0,1,4] [] fun x l o=>(Tg (⟨q,e,g,h,f,d,c,fx,Ep c.ms 0⟩:NK) ns0 _ _ (Aiv A E F) (Mem.flat (((List.append_nil<|NG (⟨q,e,g,h,f,d,c,fx,Ep c.ms 0⟩:NK) ns0).trans<|Amb _ _ _ _ _ _ _ _ _).symm) o) J.rs (fun _ H=>by cases H) fun _ H=>by cases H)) fun B C=>Ai ?_
 refine Aj []<|Am rfl<|D9 rfl (Ar<|pV q 0) fun x I=>⟨((⟨q,e,g,h,f,d,c,fx,Ep c.ms 0⟩:NK),(Hu ns0 B<|Em<|F3 fx++H6 []++Mm [])),Aq4 C J L,rfl,(I.pick [0] An rfl)⟩
def mX(ty c:UInt8)(b m:Nat)(xs:List UInt8):List UInt8:=ty::c::UInt8.ofNat (m/256)::UInt8.ofNat m::UInt8.ofNat (b/256/256/256)::UInt8.ofNat (b/256/256)::UInt8.ofNat (b/256)::UInt8.ofNat b::xs
def mC(ty b:UInt8)(c:Nat)(xs:List UInt8):Nat:=E3 ([ty,b,0,0]++be 4 c++xs)
def mB(ty b:UInt8)(c:Nat)(xs:List UInt8):List UInt8:=if 1472<xs.length then []else mX ty b c (mC ty b c xs) xs
theorem Aiw(ty b:UInt8)(c n:Nat)(xs:List UInt8):Iw ([ty,b,0,0]++be 4 c++xs) 2 n=mX ty b c n xs:=rfl
theorem Amc(ty b:UInt8)(c m:Nat)(xs:List UInt8):(mX ty b c m xs).length=8+xs.length:=by unfold mX;simp only[List.length_cons];omega
theorem Aep{ty b:UInt8}{c:Nat}{xs:List UInt8}(h: ¬1472<xs.length):(mB ty b c xs).length=8+xs.length:=by unfold mB;rw[if_neg h,Amc]
theorem Aeq(ty b:UInt8)(c:Nat)(xs:List UInt8):(mB ty b c xs).length≤1480:=by
  by_cases h:1472<xs.length
  · unfold mB;rw[if_pos h];simp
  · rw[Aep h];omega
theorem Aix(ty f:UInt8)(e:Nat)(xs:List UInt8)(a:Option Addr)(cap:Nat)(w:World)(L:At w a (Cx xs))(hr:e<4294967296)(hl:xs.length≤100000)(ap:xs.length≤cap):Calls prog 97 #[aV [nV .u8 ty.toNat,nV .u8 f.toNat,nV .u32 e,sL a xs.length cap]] w (Bn w (fun g:FS=>g.ok 1 (mB ty f e xs).length) (fun g=>.tuple #[.slice g.a (mB ty f e xs).length g.cap,.int .i64 (uE xs.length)]) [] (fun g=>[g.seg 5 (Cx (mB ty f e xs))])):=by
 refine Ap (M:=[]) (LL:=[]) (n:=28) func97 rfl rfl A7 (Mem.refl _)<|W.s ?_
 refine Ac<|Af rfl (Bx [nV .u8 ty.toNat,nV .u8 f.toNat,nV .u32 e,sL a xs.length cap] rfl) fun C=>?_
 refine Ab 2<|Ai<|W.s<|W.s ?_
 refine Ac<|A5 3 [(0,0)]<|Bw (((8+xs.length):Nat):Int) 8 (xs.length:Int)<|Ab 1<|Ay ?_
 refine A9 ?_
 refine Ak (decide<|((8+xs.length:Nat):Int)>1480) Aa (fun h6=>?_) fun h7=>?_
 ·have ah:=h6;try simp only[zA]at ah
  refine Aj []<|Al [] An rfl<|Am rfl ?_
  have hE:uE xs.length=14:=by unfold uE;rw[if_pos Ae]
  have N:mB ty f e xs=[]:=by unfold mB;rw[if_pos Ae]
  exact E2 rfl (Ar<|sL none 0 0) (Ar<|iV .i64 14) fun A I=>⟨FS.nul,(by rw[N];exact B6 1),Eo<|(by rw[N,hE];rfl),(Mem.cast (by rw[N];rfl)<|Mem.push<|I.pick [] An rfl)⟩
 ·have aj:=h7;try simp only[zA]at aj
  refine Ag<|A9<|W.s ?_
  refine Agc (w0:=w) (M:=[]) _ [4] (fun(c:Nat) (r:FS) (l:Nat) (o:FS)=>[sV o (4+4+xs.length)]) (fun(c:Nat) (r:FS) (l:Nat) (o:FS)=>r.ok 1 4∧r.nil=false∧o.ok 1 (4+4+xs.length)∧(2≤([⟨some ⟨c,0,none⟩,[ty,f,(0:UInt8),(0:UInt8)],4⟩,⟨r.a,(be 4 e),r.cap⟩,⟨a,xs,cap⟩]:List SV).length→o.nil=false)) (fun(c:Nat) (r:FS) (l:Nat) (o:FS)=>[o.seg 5 (mc b8<|[ty,f,(0:UInt8),(0:UInt8)]++(be 4 e)++xs),[cb l [sL (some ⟨c,0,none⟩) 4 4,sV r 4,sL a xs.length cap] 38],r.seg 5<|mc b8<|be 4 e,[cb c [nV .u8 ty.toNat,nV .u8 f.toNat,iV .u8 0,iV .u8 0] 5],[cb C [nV .u8 ty.toNat,nV .u8 f.toNat,nV .u32 e,sL a xs.length cap] 132]]) (fun au E=>?_) fun c r l o av O=>?_
  ·refine E5 [0,1,2,3,5,6,7,9,10,13] (Mem w [] [[cb C [nV .u8 ty.toNat,nV .u8 f.toNat,nV .u32 e,sL a xs.length cap] 132]]) Aa Aa (fun _ _ q=>q.drawn _)<|Wa.ys (v:=pV C 0) (i:=0) Aa Aa Aa Aa (fun _ q=>q) rfl rfl rfl (Ys.p)<|Wa.ys (i:=1) Aa Aa Aa Aa (fun _ q=>q) rfl rfl rfl (Cn C 0 0 0 isAgg5)<|Wa.ys (v:=pV C 1) (i:=2) Aa Aa Aa Aa (fun _ q=>q) rfl rfl rfl (Ys.p)<|Wa.ys (i:=3) Aa Aa Aa Aa (fun _ q=>q) rfl rfl rfl (Cn C 1 0 0 isAgg5) ?_
   refine Wa.ys (v:=pV C 2) (i:=5) Aa Aa Aa Aa (fun _ q=>q) rfl rfl rfl (Ys.p)<|Wa.ys (i:=6) Aa Aa Aa Aa (fun _ q=>q) rfl rfl rfl (Cn C 2 0 0 isAgg23)<|Wa.ys (v:=nV .u64 e) (i:=7) Aa Aa Aa Aa (fun _ q=>q) rfl rfl rfl ((Ys.p (v:=.int .u64<|Ct .u64 (e:Int))).conseq<|Ad<|Co Ae Ae)<|Wa.ys (v:=pV C 3) (i:=9) Aa Aa Aa Aa (fun _ q=>q) rfl rfl rfl (Ys.p)<|Wa.ys (i:=10) Aa Aa Aa Aa (fun _ q=>q) rfl rfl rfl (Cn C 3 0 0 isAgg38) ?_
   refine C9 (i:=4) (j:=8) Aa ?_ ?_
   ·refine Cp rfl rfl (Bj (mk:=fun D=>.slice (some ⟨D,0,none⟩) 4 4) (t:=5) (cs:=[nV .u8 ty.toNat,nV .u8 f.toNat,iV .u8 0,iV .u8 0]) rfl fun _=>kr) (Az [1]) fun c=>A6 (i:=8) Aa<|B7 rfl rfl (Au [] [0,1] fun A d B=>C7 4 e Ae _) (Az [2]) fun u P=>?_
    obtain⟨F,Q⟩:=P
    refine A6 (i:=11) Aa<|Cp rfl rfl (Bj (mk:=fun D=>.slice (some ⟨D,0,none⟩) 3 3) (t:=38) (cs:=[sL (some ⟨c,0,none⟩) 4 4,sV u 4,sL a xs.length cap]) rfl fun _=>kr) (Az [3]) fun l=>?_
    refine A6 (i:=12) Aa<|B7 rfl rfl (Au [] [0,1,2,3] fun A d B=>(E8 [⟨some ⟨c,0,none⟩,[ty,f,(0:UInt8),(0:UInt8)],4⟩,⟨u.a,(be 4 e),u.cap⟩,⟨a,xs,cap⟩] ([ty,f,(0:UInt8),(0:UInt8)]++(be 4 e)++xs) (some ⟨l,0,none⟩) 3 3 (4+4+xs.length) _ rfl (by simp[jn]) Mf (by first|exact A4 (i:=0) (j:=0) (t:=38) (b:=l) d rfl rfl|(rw[show mc Pg ([⟨some ⟨c,0,none⟩,[ty,f,(0:UInt8),(0:UInt8)],4⟩,⟨u.a,(be 4 e),u.cap⟩,⟨a,xs,cap⟩]:List SV)=[Value.slice (some ⟨c,0,none⟩) 4 4,sV u 4,Value.slice a xs.length cap] by(simp[mc,Bc,B8];try omega)];exact A4 (i:=0) (j:=0) (t:=38) (b:=l) d rfl rfl)) (List.forall_mem_cons.2 ⟨(A4 (i:=2) (j:=0) (t:=5) (b:=c) d rfl rfl),(List.forall_mem_cons.2 ⟨(FS.at (i:=1) (t:=5) d rfl<|Ah F Fw),(List.forall_mem_cons.2 ⟨(L.mem0 d),(fun _ h=>by cases h)⟩)⟩)⟩) K2 A7 A7)) (Az [4]) fun R S=>?_
    obtain⟨T,U⟩:=S
    refine Wa.ys (v:=sV R<|4+4+xs.length) (i:=13) Aa Aa Aa Aa (fun _ q=>q.pick [4] An rfl) rfl rfl rfl (Ys.p)<|Ej Aa ?_
    refine fun A q=>E c u l R _ A ⟨F,Q,T,U⟩ Aa q
   ·refine B7 rfl rfl (Au [] [0] fun A d B=>C7 4 e Ae _) (Az [1]) fun x V=>?_
    obtain⟨G,X⟩:=V
    refine A6 (i:=4) Aa<|Cp rfl rfl (Bj (mk:=fun D=>.slice (some ⟨D,0,none⟩) 4 4) (t:=5) (cs:=[nV .u8 ty.toNat,nV .u8 f.toNat,iV .u8 0,iV .u8 0]) rfl fun _=>kr) (Az [2]) fun c=>?_
    refine A6 (i:=11) Aa<|Cp rfl rfl (Bj (mk:=fun D=>.slice (some ⟨D,0,none⟩) 3 3) (t:=38) (cs:=[sL (some ⟨c,0,none⟩) 4 4,sV x 4,sL a xs.length cap]) rfl fun _=>kr) (Az [3]) fun l=>?_
    refine A6 (i:=12) Aa<|B7 rfl rfl (Au [] [0,1,2,3] fun A d B=>(E8 [⟨some ⟨c,0,none⟩,[ty,f,(0:UInt8),(0:UInt8)],4⟩,⟨x.a,(be 4 e),x.cap⟩,⟨a,xs,cap⟩] ([ty,f,(0:UInt8),(0:UInt8)]++(be 4 e)++xs) (some ⟨l,0,none⟩) 3 3 (4+4+xs.length) _ rfl (by simp[jn]) Mf (by first|exact A4 (i:=0) (j:=0) (t:=38) (b:=l) d rfl rfl|(rw[show mc Pg ([⟨some ⟨c,0,none⟩,[ty,f,(0:UInt8),(0:UInt8)],4⟩,⟨x.a,(be 4 e),x.cap⟩,⟨a,xs,cap⟩]:List SV)=[Value.slice (some ⟨c,0,none⟩) 4 4,sV x 4,Value.slice a xs.length cap] by(simp[mc,Bc,B8];try omega)];exact A4 (i:=0) (j:=0) (t:=38) (b:=l) d rfl rfl)) (List.forall_mem_cons.2 ⟨(A4 (i:=1) (j:=0) (t:=5) (b:=c) d rfl rfl),(List.forall_mem_cons.2 ⟨(FS.at (i:=2) (t:=5) d rfl<|Ah G Fw),(List.forall_mem_cons.2 ⟨(L.mem0 d),(fun _ h=>by cases h)⟩)⟩)⟩) K2 A7 A7)) (Az [4]) fun Y Z=>?_
    obtain⟨aa,ab⟩:=Z
    refine Wa.ys (v:=sV Y<|4+4+xs.length) (i:=13) Aa Aa Aa Aa (fun _ q=>q.pick [4] An rfl) rfl rfl rfl (Ys.p)<|Ej Aa ?_
    refine fun A q=>E c x l Y _ A ⟨G,X,aa,ab⟩ Aa<|q.pick [0,1,3,2,4] An rfl
  ·refine A9 ?_
   obtain⟨ak,al,H,ad⟩:=O
   refine Av<|Ab 2<|Af rfl (Bj (mk:=fun D=>.slice (some ⟨D,0,none⟩) 1 1) (t:=38) (cs:=[sV o (4+4+xs.length)]) rfl fun _=>kr) fun J=>?_
   have am:=M0 (([ty,f,(0:UInt8),(0:UInt8)]++(be 4 e)++xs))
   refine Cb (v:=nV .u16<|E3<|[ty,f,(0:UInt8),(0:UInt8)]++(be 4 e)++xs) (A8 fun A d=>(Ul [⟨o.a,([ty,f,(0:UInt8),(0:UInt8)]++(be 4 e)++xs),o.cap⟩] (([ty,f,(0:UInt8),(0:UInt8)]++(be 4 e)++xs)) (some ⟨J,0,none⟩) 1 1 ((4+4+xs.length)) _ rfl (by simp[jn]) Mf (by first|exact A4 (i:=0) (j:=0) (t:=38) (b:=J) d rfl rfl|(rw[show mc Pg ([⟨o.a,([ty,f,(0:UInt8),(0:UInt8)]++(be 4 e)++xs),o.cap⟩]:List SV)=[sV o (4+4+xs.length)] by(simp[mc,Bc,B8];try omega)];exact A4 (i:=0) (j:=0) (t:=38) (b:=J) d rfl rfl)) (List.forall_mem_cons.2 ⟨(FS.at (i:=1) (t:=5) d rfl<|Ah H Ob),(fun _ h=>by cases h)⟩) K2 A7 A7))<|Aw rfl (Au [1] [0,2,3,4,5] fun A d B=>(Ku o ([ty,f,(0:UInt8),(0:UInt8)]++(be 4 e)++xs) (4+4+xs.length) 2 (E3<|[ty,f,(0:UInt8),(0:UInt8)]++(be 4 e)++xs) _ _ Z5 B H (ad A7) O9 O9 Ae)) fun ae af=>?_
   obtain⟨ag,an⟩:=af
   refine Ab 2<|Ai<|Al [0] An rfl<|Am rfl ?_
   have hE:uE xs.length=0:=by unfold uE;rw[if_neg Ae]
   have N:mB ty f e xs=Iw ([ty,f,(0:UInt8),(0:UInt8)]++(be 4 e)++xs) 2 (E3 ([ty,f,(0:UInt8),(0:UInt8)]++(be 4 e)++xs)):=by unfold mB;rw[if_neg Ae,←Aiw];rfl
   have hn:(mB ty f e xs).length=4+4+xs.length:=by rw[Aep Ae];first|done|omega
   exact E2 rfl (Ar<|sV ae<|4+4+xs.length) (Ar<|iV .i64 0) fun A I=>⟨ae,(by rw[hn];exact ag),Eo<|(by rw[hn,hE]),(Mem.cast (by rw[N];rfl)<|I.pick [0] An rfl)⟩
theorem Ape{xs:List UInt8}{k:Nat}(h:k+1≤xs.length):bv ((xs.drop k).take 1)=(xs.getD k 0).toNat:=by
  have e:(xs.drop k).take 1=[xs.getD k 0]:=by
    apply List.ext_getElem?
    intro j
    rcases j with _|j
    · simp[List.getElem?_take,List.getElem?_drop,List.getElem?_eq_getElem (show k<xs.length by omega)]
    · simp;omega
  rw[e];simp[bv]
theorem Zv(X:List UInt8)(a:Option Addr)(len cap:Nat)(c:Bool)(b j k:Nat)(w:World)(i:Mem w [b] [[cb b [.slice a len cap,.bool c] 283]] w)(f:At w a (Cx (X.drop j)))(l:len=X.length-j)(d:j+k≤X.length)(e:len≤cap)(n:X.length≤70368744177664)(g:k≤8)(o:k=1:=by rfl):
    Calls prog 132 #[.pointer (some ⟨b,0,none⟩),.int .i64 (k:Int)] w (Bn w (fun x:EV=>View x.a (X.drop (j+k)) a (X.drop j)∧X.length-(j+k)≤x.cap) (fun x=>.int .u64 ((X.getD j 0).toNat:Int)) [b] (fun x=>[[cb b [.slice x.a (X.length-(j+k)) x.cap,.bool c] 283]])):=by
  have h:=Ot X a len cap c b j k w i f l d e n g
  subst o
  rw[Ape d]at h
  exact h
theorem Aer(xs:List UInt8)(j:Nat):bv ((xs.drop j).take 4)<4294967296:=by
  have h:=Zf ((xs.drop j).take 4)
  have b:256^((xs.drop j).take 4).length≤256^4:=Nat.pow_le_pow_right An (by rw[List.length_take];omega)
  omega
theorem Aa3(x:UInt8):UInt8.ofNat x.toNat=x:=UInt8.toNat_inj.1 (by rw[UInt8.toNat_ofNat',Nat.mod_eq_of_lt (UInt8.toNat_lt x)])
def mR(xs:List UInt8):Int:=if xs.length<8 then 10 else if 1480<xs.length then 14 else if E3 xs≠0 then 12 else 0
def mg(xs:List UInt8):Bool:=decide (mR xs=0)
def mT(xs:List UInt8)(k:Nat):UInt8:=bif mg xs then xs.getD k 0 else 0
def mN(xs:List UInt8):Nat:=bif mg xs then bv ((xs.drop 4).take 4)else 0
def mD(xs:List UInt8):List UInt8:=bif mg xs then xs.drop 8 else []
theorem Aes(xs:List UInt8):mN xs<4294967296:=by
  unfold mN;cases mg xs
  · show(0:Nat)<_;decide
  · exact Aer _ _
theorem Amd{xs:List UInt8}(h:(Ph xs.length 8 !=0)=true):mR xs=Ph xs.length 8:=by
  unfold mR Ph at*
  split
  · rfl
  · split
    · rfl
    · rename_i b c;rw[if_neg b,if_neg c]at h;cases h
theorem Zw(xs:List UInt8)(a:Option Addr)(cap:Nat)(w:World)(N:At w a (Cx xs))(hl:xs.length≤100000)(an:xs.length≤cap):Calls prog 87 #[sL a xs.length cap] w (Bn w (fun g:FS=>g.ok 1 (mD xs).length) (fun g=>.tuple #[.agg [.int .u8 ((mT xs 0).toNat:Int),.int .u8 ((mT xs 1).toNat:Int),.int .u32 (mN xs:Int),.slice g.a (mD xs).length g.cap].toArray,.int .i64 (mR xs)]) [] (fun g=>[g.seg 5 (Cx (mD xs))])):=by
 refine Ap (M:=[]) (LL:=[]) (n:=39) func87 rfl rfl A7 (Mem.refl _)<|W.s ?_
 refine Ac<|Af rfl (Ba zeroValue132) fun C=>?_
 refine Ab 1<|Ai<|W.s<|W.s ?_
 refine Ac<|Ab 1<|Cb (v:=iV .i64<|Ph xs.length 8) (A8 fun u c=>R6 a xs.length cap 8 _ Ae Ae)<|Ab 1<|Ay ?_
 refine A9<|Aj [] ?_
 refine Ak ((Ph xs.length 8) !=0) Aa (fun h8=>?_) fun h9=>?_
 ·have ab:=h8;try simp only[zA]at ab
  refine Av<|A5 2 [(0,0)]<|Af rfl (A0 C 0 0 0 zl7 sizeOf132 rfl rfl) fun _=>Ab 1 ?_
  refine Ai<|Am rfl ?_
  have x:True:=by trivial
  have E:mR xs=Ph xs.length 8:=Amd h8
  have F:mg xs=false:=by unfold mg;rw[E];exact decide_eq_false (by simpa using h8)
  have D:mD xs=[]:=by unfold mD;rw[F];rfl
  exact E2 rfl (Bu C 0 0 0 zl7 isAgg132 sizeOf132) (Ar<|iV .i64<|Ph xs.length 8) fun u A=>⟨FS.nul,(by rw[D];exact B6 1),Eo<|(by simp only[mT,mN,F,cond_false,E,D];rfl),(Mem.cast (by rw[D];rfl)<|Mem.push<|A.pick [] An rfl)⟩
 ·have ad:=h9;try simp only[zA]at ad
  refine Ag<|A9<|W.s<|W.s ?_
  have ao:=Xo h9
  refine Ac<|Ab 1<|Af rfl (Bj (mk:=fun b_=>.slice (some ⟨b_,0,none⟩) 1 1) (t:=38) (cs:=[Value.slice a xs.length cap]) rfl fun _=>kr) fun L=>Cb (v:=bV<|((E3 xs:Nat):Int)==0) (A8 fun u c=>(R5 [⟨a,xs,cap⟩] (xs) (some ⟨L,0,none⟩) 1 1 ((xs).length) _ rfl (by simp[jn]) rfl (by first|exact A4 (i:=0) (j:=0) (t:=38) (b:=L) c rfl rfl|(rw[show mc Pg ([⟨a,xs,cap⟩]:List SV)=[Value.slice a xs.length cap] by(simp[mc,Bc,B8];try omega)];exact A4 (i:=0) (j:=0) (t:=38) (b:=L) c rfl rfl)) (List.forall_mem_cons.2 ⟨(N.mem0 c),(fun _ h=>by cases h)⟩) K2 A7 A7))<|Ab 1 ?_
  refine Ai<|Al [1] An rfl ?_
  refine Ak (!(((E3 xs:Nat):Int)==0)) Aa (fun O=>?_) fun P=>?_
  ·have Q:=O;try simp only[zA]at Q
   refine Av<|A5 1 [(0,0)]<|Af rfl (A0 C 0 0 0 zl7 sizeOf132 rfl rfl) fun _=>Ab 1 ?_
   refine Ai<|Am rfl ?_
   have x:True:=by trivial
   have ae: ¬(E3 xs=0):=by have z_:=O;simp at z_;omega
   have E:mR xs=12:=by unfold mR;rw[if_neg Ae,if_neg Ae,if_pos Ae]
   have F:mg xs=false:=by unfold mg;rw[E];rfl
   have D:mD xs=[]:=by unfold mD;rw[F];rfl
   exact E2 rfl (Bu C 0 0 0 zl7 isAgg132 sizeOf132) (Ar<|iV .i64 12) fun u A=>⟨FS.nul,(by rw[D];exact B6 1),Eo<|(by simp only[mT,mN,F,cond_false,E,D];rfl),(Mem.cast (by rw[D];rfl)<|Mem.push<|A.pick [] An rfl)⟩
  ·have R:=P;try simp only[zA]at R
   refine Ag<|A9<|Av<|Ab 1 ?_
   refine Aw rfl (Au [] [0] fun u c l=>(Oo xs a xs.length cap _ rfl (N.mem0 c) Fp)) fun d e=>Ab 1<|Ai<|W.s ?_
   refine Ac<|Ab 1<|Aw rfl (Au [0] [1,2] fun u c l=>(Zv xs d.g.a xs.length d.g.cap false d.b 0 1 _ l (by rw[List.drop_zero];exact(FS.at (i:=1) (t:=5) c rfl<|Ah e<|Bo _)) K5 Ae (e.le) Ae An)) fun G S=>?_
   obtain⟨o,ah⟩:=S
   refine Ao (v:=nV .u8<|(UInt8.ofNat<|(xs.getD 0 0).toNat).toNat) ((Ys.p (v:=.int .u8<|Ct .u8 ((xs.getD 0 0).toNat:Int))).conseq<|Ad<|He _)<|Ab 1<|Aw rfl (Au [0] [1,2] fun u c l=>(Zv xs G.a (xs.length-1) G.cap false d.b 1 1 _ l (o _<|by rw[List.drop_zero];exact(FS.at (i:=1) (t:=5) c rfl<|Ah e<|Bo _)) K5 Ae Ae Ae An)) fun H T=>?_
   obtain⟨q,ai⟩:=T
   refine Ao (v:=nV .u8<|(UInt8.ofNat<|(xs.getD 1 0).toNat).toNat) ((Ys.p (v:=.int .u8<|Ct .u8 ((xs.getD 1 0).toNat:Int))).conseq<|Ad<|He _)<|Ab 1<|Af rfl (Bd C 0 2 0 (nV .u8<|(UInt8.ofNat<|(xs.getD 0 0).toNat).toNat) sizeOf5 rfl rfl) fun _=>Ab 1<|Af rfl (Bd C 1 2 0 (nV .u8<|(UInt8.ofNat<|(xs.getD 1 0).toNat).toNat) sizeOf5 rfl rfl) fun _=>?_
   refine Ai<|Av<|Ab 1 ?_
   refine Aw rfl (Au [0] [1,2] fun u c l=>(G7 xs H.a (xs.length-2) H.cap false d.b 2 2 _ l (q _<|o _<|by rw[List.drop_zero];exact(FS.at (i:=1) (t:=5) c rfl<|Ah e<|Bo _)) K5 Ae Ae Ae An)) fun I U=>?_
   obtain⟨B,aj⟩:=U
   refine Ai<|Av<|Ab 1 ?_
   refine Aw rfl (Au [0] [1,2] fun u c l=>(Ot xs I.a (xs.length-4) I.cap false d.b 4 4 _ l (B _<|q _<|o _<|by rw[List.drop_zero];exact(FS.at (i:=1) (t:=5) c rfl<|Ah e<|Bo _)) K5 Ae Ae Ae An)) fun r V=>?_
   obtain⟨J,ak⟩:=V
   refine Ao (v:=nV .u32<|(bv<|(xs.drop 4).take 4)%4294967296) ((Ys.p (v:=.int .u32<|Ct .u32 (bv ((xs.drop 4).take 4):Int))).conseq<|Ad<|Dn rfl _)<|Ab 1<|Af rfl (Bd C 2 2 0 (nV .u32<|(bv<|(xs.drop 4).take 4)%4294967296) sizeOf23 rfl rfl) fun _=>Ai ?_
   refine Av<|Ab 2<|Cb (v:=nV .i64<|xs.length-8) (A8 fun u c=>(Zg (xs.drop 8) r.a (xs.length-8) r.cap false d.b _ Abn (c.one (i:=0) rfl)<|J _<|B _<|q _<|o _<|by rw[List.drop_zero];exact(FS.at (i:=1) (t:=5) c rfl<|Ah e<|Bo _)))<|Aw rfl (Au [0] [1,2] fun u c l=>(Jt (xs.drop 8) r.a (xs.length-8) r.cap false d.b ((xs.length-8:Nat):Int) _ Abn l (J _<|B _<|q _<|o _<|by rw[List.drop_zero];exact(FS.at (i:=1) (t:=5) c rfl<|Ah e<|Bo _)) Fp Fp)) fun f X=>?_
   obtain⟨Y,al,am⟩:=X
   refine Ab 1<|Af rfl (Bd C 3 3 0 (sL f.g.a ((Dc (xs.drop 8) ((xs.length-8:Nat):Int)).length) f.g.cap) sizeOf38 rfl rfl) fun _=>?_
   refine Ai<|Al [1,3] An rfl<|Av ?_
   refine A5 1 [(1,0)]<|Af rfl (A0 C 0 1 0 [nV .u8 ((UInt8.ofNat<|(xs.getD 0 0).toNat).toNat),nV .u8<|(UInt8.ofNat<|(xs.getD 1 0).toNat).toNat,nV .u32<|(bv<|(xs.drop 4).take 4)%4294967296,sL f.g.a ((Dc (xs.drop 8) ((xs.length-8:Nat):Int)).length) f.g.cap] sizeOf132 rfl rfl) fun _=>?_
   refine Ab 1<|Ai<|Am rfl ?_
   have x:True:=by trivial
   have ae:(E3 xs=0):=by have z_:=P;simp at z_;omega
   have E:mR xs=0:=by unfold mR;rw[if_neg Ae,if_neg Ae,if_neg Ae]
   have F:mg xs=true:=by unfold mg;rw[E];rfl
   have D:mD xs=Dc (xs.drop 8) ((xs.length-8:Nat):Int):=by unfold mD;rw[F,Oq Ae,List.take_of_length_le (by rw[List.length_drop];omega)];rfl
   have Z:(mD xs).length=(Dc (xs.drop 8) ((xs.length-8:Nat):Int)).length:=by rw[D];first|done|rfl|(simp;done)|(rw[List.length_drop];omega)
   exact E2 rfl (Bu C 0 1 0 [nV .u8 ((UInt8.ofNat<|(xs.getD 0 0).toNat).toNat),nV .u8<|(UInt8.ofNat<|(xs.getD 1 0).toNat).toNat,nV .u32<|(bv<|(xs.drop 4).take 4)%4294967296,Value.slice f.g.a ((Dc (xs.drop 8) ((xs.length-8:Nat):Int)).length) f.g.cap] isAgg132 sizeOf132) (Ar<|iV .i64 0) fun u A=>⟨f.g,(by rw[Z];exact Y),Eo<|(by rw[Z];simp only[mT,mN,F,cond_true,E,Aa3,x,Nat.mod_eq_of_lt (Aer xs _)];try rfl),(Mem.cast (by rw[D];rfl)<|A.pick [0] An rfl)⟩
theorem Aet(xs:List UInt8)(a:Option Addr)(cap:Nat)(len:Nat)(w:World)(d:len=xs.length)(b:At w a (Cx xs))(e:len≤100000)(c:len≤cap):Calls prog 87 #[.slice a len cap] w (Bn w (fun g:FS=>g.ok 1 (mD xs).length) (fun g=>.tuple #[.agg [.int .u8 ((mT xs 0).toNat:Int),.int .u8 ((mT xs 1).toNat:Int),.int .u32 (mN xs:Int),.slice g.a (mD xs).length g.cap].toArray,.int .i64 (mR xs)]) [] (fun g=>[g.seg 5 (Cx (mD xs))])):=by
  subst d;exact Zw xs a cap w b e c
theorem Aeu(ttl b pid c d:Int)(xs:List UInt8)(a:Option Addr)(cap:Nat)(w:World)(e:At w a (Cx xs))(o:xs.length≤100000)(g:xs.length≤cap):Calls prog 42 #[aV [iV .u8 ttl,iV .u8 b,iV .u16 pid,iV .u32 c,iV .u32 d,sL a xs.length cap]] w (Df w (.bool ((((mT xs 0).toNat:Nat):Int) !=0))):=by
 refine Ap (M:=[]) (LL:=[]) (n:=14) func42 rfl rfl A7 (Mem.refl _)<|W.s ?_
 refine Ac<|Af rfl (Bx [iV .u8 ttl,iV .u8 b,iV .u16 pid,iV .u32 c,iV .u32 d,sL a xs.length cap] rfl) fun q=>?_
 refine Ab 1<|Ai<|Av ?_
 refine A5 2 [(0,0)]<|Aw rfl (Au [] [0] fun r f h=>(Aet xs a cap xs.length _ K1 (e.mem0 f) Fp Fp)) fun i j=>?_
 refine Ab 3<|Af rfl (Ba zeroValue132) fun l=>?_
 refine Af rfl (A0 l 0 0 0 [nV .u8 ((mT xs 0).toNat),nV .u8<|(mT xs 1).toNat,nV .u32<|mN xs,sV i ((mD xs).length)] sizeOf132 rfl rfl) fun _=>Ab 1<|Ai<|Al [0,1] An rfl ?_
 refine Aj [(0,0)]<|Al [] An rfl<|Am rfl<|D7 rfl (Ar<|bV<|(((mT xs 0).toNat:Nat):Int) !=0) rfl
structure DgP(s d:Nat)(xs:List UInt8)(fr to:Nat):Prop where
  hs:s<4294967296
  hd:d<4294967296
  hl:xs.length≤1480
  hr:uR s d xs=0
  hf:uF s d xs 0=fr
  ht:uF s d xs 2=to
  hfb:fr<65536
  htb:to<65536
theorem Ajv{s d c e:Nat}{pl:Bool}{ys:List UInt8}(h:s<4294967296)(i:d<4294967296)(f:c<65536)(g:e<65536)(n:ys.length≤1472):DgP s d (uB s d c e pl ys) c e:=by
  have j:uE ys.length=0:=by unfold uE;rw[if_neg Ae]
  have l:(uB s d c e pl ys).length=8+ys.length:=Lq Ae
  have b:=Ah1 (s:=s) (d:=d) (pl:=pl) (ys:=[]) f g j (by rw[l];simp;omega)
  rw[List.append_nil]at b
  simp only[Bool.and_eq_true,beq_iff_eq]at b
  exact⟨h,i,by omega,b.1,by have:=b.2.1.1.1;omega,by have:=b.2.1.1.2;omega,f,g⟩
theorem Ajw{s d:Nat}{xs:List UInt8}(h:xs.length≤1480):(uD s d xs).length≤1472:=by
  unfold uD;cases ug s d xs
  · simp
  · simp only[cond_true,List.length_take,List.length_drop];omega
def dgU(s d:Nat)(xs:List UInt8)(g:Ci):List UInt8:=uB g.2.1.toNat g.2.2.1.toNat g.2.2.2.1.toNat g.2.2.2.2.toNat (uP s d xs) (uD s d xs)
def dgF(s d:Nat)(xs:List UInt8)(g:Ci)(x:FS):Prop:=x.ok 1 (dgU s d xs g).length
def dgV(ttl pid:Int)(s d:Nat)(xs:List UInt8)(g:Ci)(x:FS):PkV:=⟨ttl,17,pid,g.2.1,g.2.2.1,x.a,(dgU s d xs g).length,x.cap⟩
def dgS(s d:Nat)(xs:List UInt8)(g:Ci)(x:FS):List Blk:=x.seg 5 (mc b8 (dgU s d xs g))
section
variable {w:World}{M:List Nat}{ttl pid:Int}{s d:Nat}{xs:List UInt8}{a:Option Addr}{cap fr to:Nat}
theorem Aev(h:DgP s d xs fr to)(c:xs.length≤cap)(e: ∀LL b,Mem w M LL b→At b a (Cx xs)): ∀LL b,Mem w M LL b→Calls prog 41 #[O6 ttl 17 pid (s:Int) (d:Int) a xs.length cap] b (Df b (.tuple #[.agg [.int .u8 ((17:Nat):Int),.int .u32 (s:Int),.int .u32 (d:Int),.int .u16 (fr:Int),.int .u16 (to:Int)].toArray,.int .i64 1,.int .i64 0])):=fun LL b f=>by
  have z:=Ajp ttl pid s d xs a cap b (e LL b f) h.hs h.hd (by have:=h.hl;omega) c h.hr
  rw[h.hf,h.ht]at z
  exact z
theorem Aew(h:DgP s d xs fr to): ∀LL b,Mem w M LL b→Calls prog 99 #[O6 ttl 17 pid (s:Int) (d:Int) a xs.length cap] b (Df b (.bool true)):=fun LL b c=>Aai ttl pid (s:Int) (d:Int) a xs.length cap b
theorem Aex(h:DgP s d xs fr to): ∀LL b,Mem w M LL b→Calls prog 88 #[O6 ttl 17 pid (s:Int) (d:Int) a xs.length cap] b (Df b (.tuple #[.int .u8 0,.bool false])):=fun LL b c=>Wc ttl pid (s:Int) (d:Int) a xs.length cap b
theorem Aey(h:DgP s d xs fr to)(c:xs.length≤cap)(e: ∀LL b,Mem w M LL b→At b a (Cx xs)): ∀LL b,Mem w M LL b→Calls prog 42 #[O6 ttl 17 pid (s:Int) (d:Int) a xs.length cap] b (Df b (.bool ((((mT xs 0).toNat:Nat):Int) !=0))):=fun LL b f=>Aeu ttl 17 pid _ _ xs a cap b (e LL b f) (by have:=h.hl;omega) c
theorem Aez(h:DgP s d xs fr to)(c:xs.length≤cap)(e: ∀LL b,Mem w M LL b→At b a (Cx xs)): ∀g LL b,Mem w M LL b→RngFl g→g.1=((17:Nat):Int)→Calls prog 45 #[O6 ttl 17 pid (s:Int) (d:Int) a xs.length cap,flV g] b (Bn b (fun x:FS=>dgF s d xs g x) (fun x=>.tuple #[(dgV ttl pid s d xs g x).v,.int .i64 ((fun _:Ci=>(0:Int)) g)]) [] (fun x=>[dgS s d xs g x])):=fun g LL b i j f=>by
  obtain⟨D,E,F,G,H⟩:=g
  obtain⟨⟨I,J⟩,⟨l,b2⟩,⟨n,o⟩,⟨a4,q⟩,⟨r,t⟩⟩:=j
  obtain⟨u,rfl⟩:=Int.eq_ofNat_of_zero_le l
  obtain⟨A,rfl⟩:=Int.eq_ofNat_of_zero_le n
  obtain⟨B,rfl⟩:=Int.eq_ofNat_of_zero_le a4
  obtain⟨C,rfl⟩:=Int.eq_ofNat_of_zero_le r
  simp only at f b2 o q t
  subst f
  exact Xp ttl pid s d xs a cap u A B C b (e LL b i) h.hs h.hd (by have:=h.hl;omega) c h.hr Ae Ae Ae Ae<|Ajw h.hl
theorem Aiy(h:DgP s d xs fr to){g:Ci}{b:Int}{pv:PkV}{c:List Blk}(e:RngFl g)(f:Pk (dgF s d xs) (dgV ttl pid s d xs) (fun _=>0) (dgS s d xs) g b pv c):b=0∧ ∃(x:FS) (ys:List UInt8),x.ok 1 ys.length∧pv=⟨ttl,17,pid,g.2.1,g.2.2.1,x.a,ys.length,x.cap⟩∧c=x.seg 5 (mc b8 ys)∧DgP g.2.1.toNat g.2.2.1.toNat ys g.2.2.2.1.toNat g.2.2.2.2.toNat:=by
  obtain⟨hc,x,i,j,l⟩:=f
  obtain⟨⟨n,o⟩,⟨q,b2⟩,⟨r,t⟩,⟨a4,u⟩,⟨A,B⟩⟩:=e
  exact⟨hc,x,dgU s d xs g,i,j,l,Ajv Ae Ae Ae Ae<|Ajw h.hl⟩
end
theorem Kv{L R:List (List Blk)}(j:Nat):(L++R)[L.length+j]? =R[j]? :=by rw[List.getElem?_append_right Ae,Nat.add_sub_cancel_left]
theorem Ame{T:Nat→Bool}(h:T 1024=false):pk T 0=1024:=by
  have b:nf T (1024+0%64512)=1024:=Pv An h
  unfold pk;rw[b];rfl
theorem Amf{T:Nat→Bool}(h:T 1024=true)(b:T 1025=false):pk T 0=1025:=by
  have c:nf T (1024+0%64512)=1025:=(Ue (p:=1024) An h).trans (Pv An b)
  unfold pk;rw[c];rfl
theorem InvA.xes{k:NK}{p:NP}{o:Option Int}(h:InvA k p o):p.xs.length=p.es.length:=by rw[h.tie,List.length_map]
theorem Inv.zs{k:NK}{s:NS}(e:Inv k s)(t:Ix):Bq s.p.zs t=true↔ ∃x∈s.p.es,x.2.given=true∧Cc (Ed x.2)=t:=by
  constructor
  · intro h
    obtain⟨_,f,_,_⟩:=e.a.lse _ _ (Fj (v0:=(⟨0,0⟩:Lse)) h)
    obtain⟨x,b,c⟩:=Lv (t:=t) (es:=s.p.es) Ae
    exact⟨x,b,Eg.1 c⟩
  · rintro⟨x,b,c,rfl⟩;exact e.a.lsi x b c
theorem Inv.zx{k:NK}{s:NS}(b:Inv k s){t:Ix}{x:Nat×SesE}(c:x∈s.p.es)(e:x.2.given=true)(f:Cc (Ed x.2)=t):(B1 (⟨0,0⟩:Lse) s.p.zs t).ext=x.2.ext:=by
  have h:=(b.zs t).2 ⟨x,c,e,f⟩
  exact((b.a.lse _ _<|Fj (v0:=(⟨0,0⟩:Lse)) h).2.2.2 x c<|Eg.2 ⟨e,f⟩).symm
theorem Inv.tt{k:NK}{s:NS}(f:Inv k s)(i:s.p.ms=[])(j:k.fx=[]){p q:Nat}(o:1024≤q):s.p.TT p q=true↔ ∃x∈s.p.es,x.2.given=true∧x.2.pr=(p:Int)∧x.2.ext=(q:Int):=by
  rw[f.b.tks,i,j]
  show Em (Mm s.p.zs) p q=true↔_
  unfold Em
  rw[Bool.and_eq_true,decide_eq_true_eq,List.any_eq_true]
  constructor
  · rintro⟨_,x,g,e⟩
    rw[Bool.and_eq_true,beq_iff_eq,beq_iff_eq]at e
    obtain⟨t,l,r,rfl⟩:=G8.1 g
    obtain⟨_,B,_,u⟩:=f.a.lse t l r
    obtain⟨y,n,c⟩:=Lv (t:=t) (es:=s.p.es) Ae
    refine⟨y,n,(Eg.1 c).1,?_,?_⟩
    · rw[←e.1,←(Eg.1 c).2];rfl
    · rw[u y n c];exact e.2
  · rintro⟨x,g,c,A,e⟩
    have h:=f.a.lsi x g c
    refine⟨o,_,G8.2 ⟨_,_,Fj (v0:=(⟨0,0⟩:Lse)) h,rfl⟩,?_⟩
    rw[Bool.and_eq_true,beq_iff_eq,beq_iff_eq]
    exact⟨A,by rw[f.zx g c rfl];exact e⟩
theorem Ut{β:Type}{Φr:Ci→β→Prop}{O:Ci→β→PkV}{P:Ci→Int}{rs:Ci→β→List Blk}{k:NK}{s r:NS}{f:Ci}{t now Q:Int}{U:Bool}{u:Nat}{pv:PkV}{R:List Blk}(l:Inv k s)(C:s.p.ms=[])(D:k.fx=[])
    (E:(s.p.es.length:Int)<k.mo) (F: ∀x∈s.p.es,Ed x.2≠f) (V:OutR Φr O P rs k s f t 1 0 true U u now r Q pv R) {ext:Int}
    (g:(∃x∈s.p.es,x.2.given=true∧Cc (Ed x.2)=Cc f∧x.2.ext=ext)∨((∀x∈s.p.es,x.2.given=true→Cc (Ed x.2)≠Cc f)∧pk (s.p.TT f.1.toNat) u<65536∧ext=(pk (s.p.TT f.1.toNat) u:Int))):
    ∃A B b n,s.p.es=A++B∧RenE (Ls f ext s.p.lst true) now true n∧r.p.es=A++(b,n)::B∧Pk Φr O P rs (f.1,k.c.wan,f.2.2.1,ext,f.2.2.2.2) Q pv R:=by
  have G:Gm s.p.ms k.fx f=none:=by rw[C,D];rfl
  have X:=l.a.xes
  cases V with
  |no Y o H=>
    exfalso
    rcases H with h|⟨h,_⟩|⟨h,_⟩|⟨_,_,h|h|⟨_,S,Z⟩⟩
    · exact h rfl
    · cases h
    · cases h
    · cases h
    · omega
    · rcases g with⟨x,g,i,j,_⟩|⟨_,h,_⟩
      · rw[(l.zs (Cc f)).2 ⟨x,g,i,j⟩]at S;cases S
      · exact Z h
  |err ho I=>cases I
  |old ho I hq A B b e n J hf=>exact absurd hf (F (b,e) (by rw[J];simp))
  |new ho I hq T q gv L A B b n J hr o hs=>
    have N:q=ext∧gv=true:=by
      rcases L with⟨h,_⟩|⟨_,i,hz,rfl⟩|⟨_,i,hz,hp,rfl⟩
      · rw[G]at h;cases h
      · refine⟨?_,i⟩
        rcases g with⟨x,g,i,j,hxe⟩|⟨hn,_,_⟩
        · rw[l.zx g i j];exact hxe
        · obtain⟨x,g,i,j⟩:=(l.zs (Cc f)).1 hz
          exact absurd j<|hn x g i
      · refine⟨?_,i⟩
        rcases g with⟨x,g,i,j,hxe⟩|⟨_,h,rfl⟩
        · rw[(l.zs (Cc f)).2 ⟨x,g,i,j⟩]at hz;cases hz
        · unfold N8;rw[if_pos hp]
    obtain⟨rfl,rfl⟩:=N
    exact⟨A,B,b,n,J,hr,o,hs⟩
theorem RenE.nw{f:Ci}{ext c now:Int}{gv out:Bool}{e:SesE}(h:RenE (Ls f ext c gv) now out e):Ed e=f∧e.ext=ext∧e.given=gv∧e.pr=f.1∧Cc (Ed e)=Cc f:=by
  have b:Ed e=f:=by unfold Ed;rw[h.pr,h.src,h.dst,h.frm,h.dto];rfl
  exact⟨b,h.ext,h.given,h.pr,by rw[b]⟩
end Go.Proofs.YtmonlaoaengfdaaGreatDoor.Oct
namespace Go.Proofs.YtmonlaoaengfdaaGreatDoor.Base
open Go.RowKit
section
variable {P:Program}{n:Nat}{f:Nat→Value}{o:Oper}{v:Value}{d:Nat}{w0 w:World}{M:List Nat}{LL LL':List (List Blk)}{s:List Blk}{i j b:Nat}
abbrev cz(b:Nat)(cs:List Value)(t:TypeId):Blk:=⟨b,.cells cs.toArray t (cs.length,cs.length+1)⟩
theorem Apf{cs:List Value}{t:TypeId}(e:Mem w0 M LL w)(g:LL[i]? =some s)(h:s[j]? =some (cz b cs t)):At w (some ⟨b,0,none⟩) cs:=by
  have c:=e.at g h
  refine⟨fun _=>rfl,fun q v l=>?_⟩
  simp only[Option.getD_some]
  rw[add_lit,Nat.zero_add]
  simp only at c
  simp[World.cell?,c,l]
theorem Uu{t e ty:TypeId}{x:Operand}{len cap:Nat}{cs:List Value}(A:o.dst=some d)(g:o.op=.convert t t x)(B:ev n f x=.slice (some ⟨b,0,none⟩) len cap)(C:P.underlying t=some (.slice e))(D:P.underlying e=some (.int .u8))
    (q:LL[i]? =some s) (r:s[j]? =some (cb b cs ty)) (E:LL.set i (s.set j (cz b cs ty))=LL'):
    Ht (β:=Unit) P n (Mem w0 M LL) f o (fun _=>Fg f d (.slice (some ⟨b,0,none⟩) len cap)) (fun _=>Mem w0 M LL'):=fun L w u K F=>by
  have h:=u.at q r
  simp only at h
  have l:w.shape? b=some (ty,cs.length):=by unfold World.shape?;rw[h];simp
  have G:(execOp (ev n f) o).run P w=.ok (.value (.slice (some ⟨b,0,none⟩) len cap)) (w.freeze ⟨b,cs.length,none⟩ 1):=by
    simp[execOp,g,B,convert,run_underlying C,run_underlying D,markStringish,l]
  have H:Mem w0 M LL' (w.freeze ⟨b,cs.length,none⟩ 1):=by
    subst E
    obtain⟨k,I,c⟩:=Jh LL i j s _ q r
    unfold Mem
    rw[c]
    refine Mem0.putO u I rfl rfl rfl (by simp[World.freeze]) (fun N _ J=>?_) ?_
    · simp only[World.freeze,if_neg (show¬(1:Nat)=0 by decide),Array.getElem?_modify];rw[if_neg (by omega)]
    · simp only[World.freeze,if_neg (show¬(1:Nat)=0 by decide),Array.getElem?_modify,if_true,h]
      simp
  unfold Oper.wp
  rw[Dj,G]
  simp only[Oper.upon,A,Dy]
  exact F () _ H
end
end Go.Proofs.YtmonlaoaengfdaaGreatDoor.Base
namespace Go.Proofs.YtmonlaoaengfdaaGreatDoor.Oct
open Go.RowKit Base Tryz
attribute [local irreducible] Ys Yc Ht HtS HtIn Wl Wd W Mem pf Ez Wa Wo KW
open Conf (Fwd fwv)
theorem Ajx(k:NK)(s:NS)(M:List Nat)(w:World)(ok:NOk k s)(g:Mem w M [NG k s] w):Calls prog 15 #[pL (some ⟨k.nb,0,none⟩)] w (Bn w (fun _:Unit=>True) (fun _=>.int .i64 (s.p.xs.length:Int)) M (fun _=>[NG k s])):=by
 obtain⟨h,l,q,r,t⟩:=NOk.len ok
 refine Ap (M:=M) (LL:=[NG k s]) (n:=8) func15 rfl rfl A7 (g)<|Aj []<|Av<|Ab 3 ?_
 refine Ao (Bf (b:=k.nb) (o':=29) (i:=0) (j:=0) (cs:=C3 k s) (v:=pL<|some ⟨k.ts,0,none⟩) rfl Aa isAgg85 rfl rfl<|(Cf rfl An).trans rfl)<|Cb (v:=nV .i64 s.p.xs.length) (A8 fun u c=>(T2 s.p.xs s.gs.a s.gs.cap k.mo k.ts _ (Fv (i:=0) c rfl) (NG.xs (i:=0) c rfl ok) D1 ok.hxs))<|Ab 1<|Ai ?_
 refine Am rfl<|D9 rfl (Ar<|nV .i64 s.p.xs.length) fun u e=>⟨(),trivial,rfl,(e.pick [0] An rfl)⟩
theorem M4(s d fr to:Nat)(w:World)(x:s<4294967296)(A:d<4294967296)(B:fr<65536)(C:to<65536):Calls prog 13 #[nV .u32 s,nV .u32 d,nV .u16 fr,nV .u16 to] w (Bn w (fun r:FS×List UInt8=>r.1.ok 1 r.2.length∧DgP s d r.2 fr to) (fun r=>O6 9 17 0 (s:Int) (d:Int) r.1.a r.2.length r.1.cap) [] (fun r=>[r.1.seg 5 (mc b8 r.2)])):=by
 refine Ap (M:=[]) (LL:=[]) (n:=26) func13 rfl rfl A7 (Mem.refl _)<|W.s ?_
 refine Ac<|Af rfl (Ba zeroValue40) fun g=>?_
 refine Ai<|Av<|Ab 4 ?_
 refine Af rfl (Bj (mk:=fun D=>.slice (some ⟨D,0,none⟩) 1 1) (t:=5) (cs:=[iV .u8 120]) rfl fun _=>kr) fun c=>Af rfl (Uu (b:=c) (e:=5) (ty:=5) (len:=1) (cap:=1) (i:=0) (j:=0) (cs:=[iV .u8 120]) (LL':=[[cz c [iV .u8 120] 5],[cb g Oc 40]]) rfl rfl Aa Aa Aa rfl rfl rfl) fun _=>?_
 refine Ab 1 ?_
 have E:=Adh s d fr to false [(120:UInt8)]
 refine Aw rfl (Au [] [0,1] fun F h G=>(Adi s d fr to false [(120:UInt8)] (some ⟨c,0,none⟩) 1 1 _ K1 (Apf (i:=0) (j:=0) (t:=5) (b:=c) h rfl rfl) Ae Ae Ae Ae Ey Ey)) fun u l=>Ab 5<|Ai<|Al [0,2] An rfl ?_
 refine Av<|Ab 4<|Af rfl (A0 g 0 1 0 [iV .u8 9,iV .u8 17,iV .u16 0,nV .u32 s,nV .u32 d,sV u ((uB s d fr to false [(120:UInt8)]).length)] sizeOf40 rfl rfl) fun _=>Ay ?_
 refine A9<|Am rfl<|D9 rfl (I1 g 0 1 0 isAgg40 sizeOf40) fun F q=>⟨(u,uB s d fr to false [(120:UInt8)]),⟨l,Ajv (pl:=false) (ys:=[(120:UInt8)]) x A B C An⟩,rfl,(q.pick [0] An rfl)⟩
theorem X3{ttl pid:Int}{s d:Nat}{xs:List UInt8}{a:Option Addr}{cap fr to:Nat}{w:World}(h:DgP s d xs fr to)(c:xs.length≤cap)(e:At w a (Cx xs)):Calls prog 14 #[O6 ttl 17 pid (s:Int) (d:Int) a xs.length cap] w (Df w (.tuple #[.agg [.int .u8 17,.int .u32 (s:Int),.int .u32 (d:Int),.int .u16 (fr:Int),.int .u16 (to:Int)].toArray,.int .i64 1,.int .i64 0])):=by
  have z:=Alq ttl pid s d xs a cap w e h.hs h.hd (by have:=h.hl;omega) c h.hr
  rw[h.hf,h.ht]at z
  exact z
theorem X4{s d fr to:Nat}{xs:List UInt8}(h:DgP s d xs fr to):RngFl (((17:Nat):Int),(s:Int),(d:Int),(fr:Int),(to:Int)):=by
  have c:=h.hs;have e:=h.hd;have g:=h.hfb;have l:=h.htb
  refine⟨⟨?_,?_⟩,⟨?_,?_⟩,⟨?_,?_⟩,⟨?_,?_⟩,?_,?_⟩<;>(show _≤_;dsimp only;omega)
end Go.Proofs.YtmonlaoaengfdaaGreatDoor.Oct
