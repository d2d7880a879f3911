import Derived.Test.YtmonlaoaengfdaaGreatDoorM11
set_option linter.unusedVariables false
set_option linter.unusedSimpArgs false
set_option maxRecDepth 20000
namespace Go.Proofs.YtmonlaoaengfdaaGreatDoor.Oct
open Go.RowKit Base Tryz
attribute [local irreducible] Ys Yc Ht HtS HtIn Wl Wd W Mem pf Ez Wa Wo KW
open Conf (Fwd fwv)
theorem Ox{k:NK}{p:NP}{o:Option Int}(h:InvA k p o)(i:Gj ordF p.xs){f:Ci}(j:Bq p.xs f=true): ∃A B b e,p.es=A++(b,e)::B∧Ed e=f∧B1 none p.xs f=some b:=by
  obtain⟨v,c⟩:=Ff.1 j
  rw[h.tie]at c
  obtain⟨x,d,l⟩:=List.mem_map.1 c
  obtain⟨A,B,n⟩:=Ka d
  have g:Ed x.2=f:=(Prod.mk.inj l).1
  refine⟨A,B,x.1,x.2,n,g,Jp i ?_⟩
  rw[h.tie,←g];exact List.mem_map.2 ⟨x,d,rfl⟩
theorem Se{A B:List (Nat×SesE)}{es:List (Nat×SesE)}{b:Nat}{e:SesE}(h:es=A++(b,e)::B):es[A.length]? =some (b,e):=by
  rw[h,List.getElem?_append_right (Nat.le_refl _)];simp
def Ao9(k:NK)(p:NP)(f:Ci)(ext:Int)(b:Bool)(r:NP×Option Nat×Option (Nat×SesE)×Int):Prop:=
  r.1=p∧r.2.1=none∧r.2.2.1=none∧(r.2.2.2=20∨r.2.2.2=21)∧((Bq p.xs f=false∧(b=false∨k.mo≤(p.xs.length:Int)))∨ ∃x∈p.es,Ed x.2=f∧x.2.ext≠ext)
def Apa(p:NP)(f:Ci)(ext:Int)(r:NP×Option Nat×Option (Nat×SesE)×Int):Prop:=
  r.1=p∧r.2.2.1=none∧r.2.2.2=0∧ ∃x∈p.es,r.2.1=some x.1∧Ed x.2=f∧x.2.ext=ext
def Apb(k:NK)(p:NP)(f:Ci)(ext:Int)(gv c:Bool)(r:NP×Option Nat×Option (Nat×SesE)×Int):Prop:=
  r.2.2.2=0∧Bq p.xs f=false∧c=true∧(p.xs.length:Int)<k.mo∧ ∃b d,r.2.1=some b∧r.2.2.1=some (b,Ls f ext p.lst gv)∧r.1=Ov k p f ext gv b d
theorem Aek(k:NK)(s:NS)(M:List Nat)(pr:Nat)(d ds e f:Int)(t:Nat)(ttl C pid D E:Int)(Y:Option Addr)(Z bc:Nat)(H:Bool)(w:World)(ok:NOk k s)(hl:Mem w M [NG k s] w)(hA:InvA k s.p none)(aw:pr<256)(ax:t<65536)(ay:0≤(B1 (⟨0,0⟩:Lse) s.p.zs (((pr:Nat):Int),d,e)).count∧(B1 (⟨0,0⟩:Lse) s.p.zs (((pr:Nat):Int),d,e)).count≤1000000)(ab: ∀LL w1,Mem w M LL w1→Calls prog 99 #[O6 ttl C pid D E Y Z bc] w1 (Df w1 (.bool H))):Calls prog 48 #[pL (some ⟨k.nb,0,none⟩),aV [nV .u8 pr,iV .u32 d,iV .u32 ds,iV .u16 e,iV .u16 f],nV .u16 t,bV false,aV [iV .u8 ttl,iV .u8 C,iV .u16 pid,iV .u32 D,iV .u32 E,sL Y Z bc]] w (Bn w (fun r:NS×Option Nat×Option (Nat×SesE)×Int=>NOk k r.1∧(Ao9 k s.p (((pr:Nat):Int),d,ds,e,f) (t:Int) H (r.1.p,r.2)∨Apa s.p (((pr:Nat):Int),d,ds,e,f) (t:Int) (r.1.p,r.2)∨Apb k s.p (((pr:Nat):Int),d,ds,e,f) (t:Int) false H (r.1.p,r.2))) (fun r=>.tuple #[.pointer (Cz r.2.1),.int .i64 r.2.2.2]) M (fun r=>[NG k r.1,Aar r.2.2.1])):=by
 obtain⟨az,a0,a1,a2,a3⟩:=NOk.len ok
 refine Ap (M:=M) (LL:=[NG k s]) (n:=61) func48 rfl rfl A7 (hl)<|W.s ?_
 refine Ac<|Af rfl (Bx [nV .u8 pr,iV .u32 d,iV .u32 ds,iV .u16 e,iV .u16 f] rfl) fun p6=>?_
 refine Af rfl (Bx [iV .u8 ttl,iV .u8 C,iV .u16 pid,iV .u32 D,iV .u32 E,sL Y Z bc] rfl) fun p9=>Ab 2<|Ai<|W.s ?_
 cases l:Bq s.p.xs (((pr:Nat):Int),d,ds,e,f)
 ·refine C5 [(0,true),(1,true),(2,true),(3,true),(4,false),(5,false),(6,false),(7,true),(8,true),(9,false),(10,false)] [0,1,2,3,7,8]<|B5 3<|Bm rfl (Bf (b:=k.nb) (o':=29) (i:=2) (j:=0) (cs:=C3 k s) (v:=pL<|some ⟨k.ts,0,none⟩) rfl Aa isAgg85 rfl rfl<|(Cf rfl An).trans rfl)<|Bs 1 [(1,0)]<|Ec (v:=Value.tuple #[pL (Cz<|B1 none s.p.xs (((pr:Nat):Int),d,ds,e,f)),bV (Bq s.p.xs (((pr:Nat):Int),d,ds,e,f))]) rfl (A8 fun o c=>(Mx s.p.xs s.gs.a s.gs.cap k.mo k.ts (((pr:Nat):Int),d,ds,e,f) _ (Fv (i:=2) c rfl) (NG.xs (i:=2) c rfl ok) D1 ok.hxs)) ?_
  refine Bs 1 []<|Bm (v:=pL none) rfl ((Ys.p (v:=pL<|Cz<|B1 none s.p.xs (((pr:Nat):Int),d,ds,e,f))).conseq<|(by rw[Hy l];rfl))<|Bm (v:=bV false) rfl ((Ys.p (v:=bV<|Bq s.p.xs (((pr:Nat):Int),d,ds,e,f))).conseq<|B2 l)<|Bs 2 []<|Ev ?_
  refine A9<|W.s ?_
  refine W.block<|W.s ?_
  refine Aj []<|B4 Aa<|Ac<|A5 4 [(0,0)]<|Ji (v:=bV H) (true) rfl Aa rfl (fun _=>A8 fun o c=>(ab _ _ c)) ?_
  refine A5 3 []<|Ai<|Al [1,2] An rfl ?_
  refine Ak (!H) Aa (fun ae=>?_) fun af=>?_
  ·refine Aj []<|Al [1] An rfl<|Am rfl<|E2 rfl (Ar<|Value.pointer none) (Ar<|iV .i64 21) fun o g=>⟨(s,none,none,21),⟨ok,.inl ⟨rfl,rfl,rfl,.inr rfl,.inl ⟨l,.inl<|by simpa using ae⟩⟩⟩,rfl,(Mem.flat (LL:=[NG k s]) rfl<|g.pick [0] An rfl)⟩
  ·refine Aj []<|B4 Aa<|W.s<|C5 [(0,true),(1,true),(2,true),(3,true),(5,true),(6,true),(7,true),(8,true),(4,false),(9,false),(10,false),(11,false)] [0,1,2,3,5,6,7,8]<|B5 3 ?_
   refine Bm rfl (Bf (b:=k.nb) (o':=29) (i:=1) (j:=0) (cs:=C3 k s) (v:=pL<|some ⟨k.ts,0,none⟩) rfl Aa isAgg85 rfl rfl<|(Cf rfl An).trans rfl)<|B5 3<|Bm rfl (Bf (b:=k.nb) (o':=29) (i:=1) (j:=0) (cs:=C3 k s) (v:=pL<|some ⟨k.ts,0,none⟩) rfl Aa isAgg85 rfl rfl<|(Cf rfl An).trans rfl)<|Ec (v:=nV .i64 s.p.xs.length) rfl (A8 fun o c=>(T2 s.p.xs s.gs.a s.gs.cap k.mo k.ts _ (Fv (i:=1) c rfl) (NG.xs (i:=1) c rfl ok) D1 ok.hxs))<|Ec (v:=iV .i64 k.mo) rfl (A8 fun o c=>(T4 s.p.xs s.gs.a s.gs.cap k.mo k.ts _ (Fv (i:=1) c rfl) (NG.xs (i:=1) c rfl ok) D1 ok.hxs)) ?_
   refine Bs 2 []<|Cl ?_
   refine Ak (decide<|((s.p.xs.length:Nat):Int)≥k.mo) Aa (fun I=>?_) fun J=>?_
   ·have L:=I;try simp only[zA]at L
    refine Aj []<|Al [1] An rfl<|Am rfl<|E2 rfl (Ar<|pL none) (Ar<|iV .i64 20) fun o g=>⟨(s,none,none,20),⟨ok,.inl ⟨rfl,rfl,rfl,.inl rfl,.inl ⟨l,.inr (by have z_:=of_decide_eq_true I;omega)⟩⟩⟩,rfl,(Mem.flat (LL:=[NG k s]) rfl<|g.pick [0] An rfl)⟩
   ·have N:=J;try simp only[zA]at N
    refine Ag<|A9<|Av<|A5 4 [(0,0)] ?_
    refine Aw rfl (Au [1] [0] fun o c ah=>(Adw k s _ (((pr:Nat):Int),d,ds,e,f) (t:Int) _ ok ah)) fun ai u=>?_
    obtain⟨O,h⟩:=ai
    dsimp only at u
    obtain⟨x,P⟩:=u
    refine B0 (LL':=[NG k O,[cb h [nV .u8 pr,iV .u32 d,iV .u32 ds,iV .u16 e,iV .u16 f,nV .u16 t,iV .u64 0,bV false,bV false,bV false,bV false,bV false,bV false,iV .u64 s.p.lst,bV false] 113],[cb p6 [nV .u8 pr,iV .u32 d,iV .u32 ds,iV .u16 e,iV .u16 f] 47]]) rfl ?_
    obtain⟨aj,ak,al,am,an⟩:=NOk.len x
    refine Ab 2<|Ai<|Al [0,1] An rfl<|Am rfl<|E2 rfl (Ar<|pV h 0) (Ar<|iV .i64 0) fun o g=>⟨(O,some h,some (h,Ls (((pr:Nat):Int),d,ds,e,f) (t:Int) s.p.lst false),0),⟨x,.inr<|.inr ⟨rfl,l,by simpa using af,by have z_:=of_decide_eq_false J;omega,h,0,rfl,rfl,P⟩⟩,rfl,(g.pick [0,1] An rfl)⟩
 ·obtain⟨fA,fB,F,G,Q,A,ao⟩:=Ox hA ok.hxs l
  have ap:=Se Q
  have B:(F,G)∈s.p.es:=by rw[Q];exact Cr.2 (.inl rfl)
  refine C5 [(0,true),(1,true),(2,true),(3,true),(4,false),(5,false),(6,false),(7,true),(8,true),(9,false),(10,false)] [0,1,2,3,7,8]<|B5 3<|Bm rfl (Bf (b:=k.nb) (o':=29) (i:=2) (j:=0) (cs:=C3 k s) (v:=pL<|some ⟨k.ts,0,none⟩) rfl Aa isAgg85 rfl rfl<|(Cf rfl An).trans rfl)<|Bs 1 [(1,0)]<|Ec (v:=Value.tuple #[pL (Cz<|B1 none s.p.xs (((pr:Nat):Int),d,ds,e,f)),bV (Bq s.p.xs (((pr:Nat):Int),d,ds,e,f))]) rfl (A8 fun o c=>(Mx s.p.xs s.gs.a s.gs.cap k.mo k.ts (((pr:Nat):Int),d,ds,e,f) _ (Fv (i:=2) c rfl) (NG.xs (i:=2) c rfl ok) D1 ok.hxs)) ?_
  refine Bs 1 []<|Bm (v:=pV F 0) rfl ((Ys.p (v:=pL<|Cz<|B1 none s.p.xs (((pr:Nat):Int),d,ds,e,f))).conseq<|(by rw[ao];rfl))<|Bm (v:=bV true) rfl ((Ys.p (v:=bV<|Bq s.p.xs (((pr:Nat):Int),d,ds,e,f))).conseq<|B2 l)<|Bs 2 []<|Ev ?_
  refine A9<|W.s ?_
  refine W.block<|W.s ?_
  refine Av<|A5 6 []<|Bz (v:=iV .u16 G.ext) (true) rfl Aa rfl (fun _=>Ys.ld (a:=⟨F,5,none⟩) rfl Aa isAgg22 fun o h_=>by have x_:=(NG.ent (i:=2) h_ rfl ap).ld (q:=5) (v:=iV .u16 G.ext) rfl;rw[Be]at x_;exact x_)<|A5 4 [] ?_
  refine Ai ?_
  refine Ak (G.ext !=(t:Int)) Aa (fun R=>?_) fun S=>?_
  ·have T:=R;try simp only[zA]at T
   refine Ag<|A9<|Al [1,2] An rfl ?_
   refine Ak (G.ext !=(t:Int)) Aa (fun U=>?_) fun aq=>?_
   ·have V:=U;try simp only[zA]at V
    refine Aj []<|Al [1] An rfl<|Am rfl<|E2 rfl (Ar<|Value.pointer none) (Ar<|iV .i64 21) fun o g=>⟨(s,none,none,21),⟨ok,.inl ⟨rfl,rfl,rfl,.inr rfl,.inr ⟨(F,G),B,A,by simpa using U⟩⟩⟩,rfl,(Mem.flat (LL:=[NG k s]) rfl<|g.pick [0] An rfl)⟩
   ·exact absurd (R.symm.trans aq) An
  ·have X:=S;try simp only[zA]at X
   refine Ac<|A5 8 []<|Ai<|Al [1,2] An rfl ?_
   refine B4 Aa<|Aj []<|Cd Aa<|Aj []<|Al [1] An rfl ?_
   refine Am rfl<|E2 rfl (Ar<|pV F 0) (Ar<|iV .i64 0) fun o g=>⟨(s,some F,none,0),⟨ok,.inr<|.inl ⟨rfl,rfl,rfl,(F,G),B,rfl,A,by have z_:=S;simpa using z_⟩⟩,rfl,(Mem.flat (LL:=[NG k s]) rfl<|g.pick [0] An rfl)⟩
theorem Ael(k:NK)(s:NS)(M:List Nat)(pr:Nat)(d ds e f:Int)(t:Nat)(ttl C pid D E:Int)(Z:Option Addr)(bl bc:Nat)(H:Bool)(w:World)(ok:NOk k s)(hl:Mem w M [NG k s] w)(hA:InvA k s.p none)(az:pr<256)(a0:t<65536)(ad:0≤(B1 (⟨0,0⟩:Lse) s.p.zs (((pr:Nat):Int),d,e)).count∧(B1 (⟨0,0⟩:Lse) s.p.zs (((pr:Nat):Int),d,e)).count≤1000000)(ae: ∀LL w1,Mem w M LL w1→Calls prog 99 #[O6 ttl C pid D E Z bl bc] w1 (Df w1 (.bool H))):Calls prog 48 #[pL (some ⟨k.nb,0,none⟩),aV [nV .u8 pr,iV .u32 d,iV .u32 ds,iV .u16 e,iV .u16 f],nV .u16 t,bV true,aV [iV .u8 ttl,iV .u8 C,iV .u16 pid,iV .u32 D,iV .u32 E,sL Z bl bc]] w (Bn w (fun r:NS×Option Nat×Option (Nat×SesE)×Int=>NOk k r.1∧(Ao9 k s.p (((pr:Nat):Int),d,ds,e,f) (t:Int) H (r.1.p,r.2)∨Apa s.p (((pr:Nat):Int),d,ds,e,f) (t:Int) (r.1.p,r.2)∨Apb k s.p (((pr:Nat):Int),d,ds,e,f) (t:Int) true H (r.1.p,r.2))) (fun r=>.tuple #[.pointer (Cz r.2.1),.int .i64 r.2.2.2]) M (fun r=>[NG k r.1,Aar r.2.2.1])):=by
 obtain⟨a1,a2,a3,a5,a6⟩:=NOk.len ok
 refine Ap (M:=M) (LL:=[NG k s]) (n:=61) func48 rfl rfl A7 (hl)<|W.s ?_
 refine Ac<|Af rfl (Bx [nV .u8 pr,iV .u32 d,iV .u32 ds,iV .u16 e,iV .u16 f] rfl) fun p6=>?_
 refine Af rfl (Bx [iV .u8 ttl,iV .u8 C,iV .u16 pid,iV .u32 D,iV .u32 E,sL Z bl bc] rfl) fun p9=>Ab 2<|Ai<|W.s ?_
 cases l:Bq s.p.xs (((pr:Nat):Int),d,ds,e,f)
 ·refine C5 [(0,true),(1,true),(2,true),(3,true),(4,false),(5,false),(6,false),(7,true),(8,true),(9,false),(10,false)] [0,1,2,3,7,8]<|B5 3<|Bm rfl (Bf (b:=k.nb) (o':=29) (i:=2) (j:=0) (cs:=C3 k s) (v:=pL<|some ⟨k.ts,0,none⟩) rfl Aa isAgg85 rfl rfl<|(Cf rfl An).trans rfl)<|Bs 1 [(1,0)]<|Ec (v:=Value.tuple #[pL (Cz<|B1 none s.p.xs (((pr:Nat):Int),d,ds,e,f)),bV (Bq s.p.xs (((pr:Nat):Int),d,ds,e,f))]) rfl (A8 fun o c=>(Mx s.p.xs s.gs.a s.gs.cap k.mo k.ts (((pr:Nat):Int),d,ds,e,f) _ (Fv (i:=2) c rfl) (NG.xs (i:=2) c rfl ok) D1 ok.hxs)) ?_
  refine Bs 1 []<|Bm (v:=pL none) rfl ((Ys.p (v:=pL<|Cz<|B1 none s.p.xs (((pr:Nat):Int),d,ds,e,f))).conseq<|(by rw[Hy l];rfl))<|Bm (v:=bV false) rfl ((Ys.p (v:=bV<|Bq s.p.xs (((pr:Nat):Int),d,ds,e,f))).conseq<|B2 l)<|Bs 2 []<|Ev ?_
  refine A9<|W.s ?_
  refine W.block<|W.s ?_
  refine Aj []<|B4 Aa<|Ac<|A5 4 [(0,0)]<|Ji (v:=bV H) (true) rfl Aa rfl (fun _=>A8 fun o c=>(ae _ _ c)) ?_
  refine A5 3 []<|Ai<|Al [1,2] An rfl ?_
  refine Ak (!H) Aa (fun ag=>?_) fun ah=>?_
  ·refine Aj []<|Al [1] An rfl<|Am rfl<|E2 rfl (Ar<|Value.pointer none) (Ar<|iV .i64 21) fun o g=>⟨(s,none,none,21),⟨ok,.inl ⟨rfl,rfl,rfl,.inr rfl,.inl ⟨l,.inl<|by simpa using ag⟩⟩⟩,rfl,(Mem.flat (LL:=[NG k s]) rfl<|g.pick [0] An rfl)⟩
  ·refine Aj []<|B4 Aa<|W.s<|C5 [(0,true),(1,true),(2,true),(3,true),(5,true),(6,true),(7,true),(8,true),(4,false),(9,false),(10,false),(11,false)] [0,1,2,3,5,6,7,8]<|B5 3 ?_
   refine Bm rfl (Bf (b:=k.nb) (o':=29) (i:=1) (j:=0) (cs:=C3 k s) (v:=pL<|some ⟨k.ts,0,none⟩) rfl Aa isAgg85 rfl rfl<|(Cf rfl An).trans rfl)<|B5 3<|Bm rfl (Bf (b:=k.nb) (o':=29) (i:=1) (j:=0) (cs:=C3 k s) (v:=pL<|some ⟨k.ts,0,none⟩) rfl Aa isAgg85 rfl rfl<|(Cf rfl An).trans rfl)<|Ec (v:=nV .i64 s.p.xs.length) rfl (A8 fun o c=>(T2 s.p.xs s.gs.a s.gs.cap k.mo k.ts _ (Fv (i:=1) c rfl) (NG.xs (i:=1) c rfl ok) D1 ok.hxs))<|Ec (v:=iV .i64 k.mo) rfl (A8 fun o c=>(T4 s.p.xs s.gs.a s.gs.cap k.mo k.ts _ (Fv (i:=1) c rfl) (NG.xs (i:=1) c rfl ok) D1 ok.hxs)) ?_
   refine Bs 2 []<|Cl ?_
   refine Ak (decide<|((s.p.xs.length:Nat):Int)≥k.mo) Aa (fun I=>?_) fun J=>?_
   ·have L:=I;try simp only[zA]at L
    refine Aj []<|Al [1] An rfl<|Am rfl<|E2 rfl (Ar<|pL none) (Ar<|iV .i64 20) fun o g=>⟨(s,none,none,20),⟨ok,.inl ⟨rfl,rfl,rfl,.inl rfl,.inl ⟨l,.inr (by have z_:=of_decide_eq_true I;omega)⟩⟩⟩,rfl,(Mem.flat (LL:=[NG k s]) rfl<|g.pick [0] An rfl)⟩
   ·have N:=J;try simp only[zA]at N
    refine Ag<|A9<|Av<|A5 4 [(0,0)] ?_
    refine Aw rfl (Au [1] [0] fun o c aj=>(Xs k s _ pr d ds e f t _ ok aj Ae Ae ad)) fun ak u=>?_
    obtain⟨O,h,P⟩:=ak
    dsimp only at u
    obtain⟨x,Q,al⟩:=u
    refine B0 (LL':=[NG k O,[cb h [nV .u8 pr,iV .u32 d,iV .u32 ds,iV .u16 e,iV .u16 f,nV .u16 t,iV .u64 0,bV false,bV false,bV false,bV false,bV false,bV false,iV .u64 s.p.lst,bV true] 113],[cb p6 [nV .u8 pr,iV .u32 d,iV .u32 ds,iV .u16 e,iV .u16 f] 47]]) rfl ?_
    obtain⟨am,an,ao,ap,aq⟩:=NOk.len x
    refine Ab 2<|Ai<|Al [0,1] An rfl<|Am rfl<|E2 rfl (Ar<|pV h 0) (Ar<|iV .i64 0) fun o g=>⟨(O,some h,some (h,Ls (((pr:Nat):Int),d,ds,e,f) (t:Int) s.p.lst true),0),⟨x,.inr<|.inr ⟨rfl,l,by simpa using ah,by have z_:=of_decide_eq_false J;omega,h,P,rfl,rfl,Q⟩⟩,rfl,(g.pick [0,1] An rfl)⟩
 ·obtain⟨fA,fB,F,G,R,A,ar⟩:=Ox hA ok.hxs l
  have au:=Se R
  have B:(F,G)∈s.p.es:=by rw[R];exact Cr.2 (.inl rfl)
  refine C5 [(0,true),(1,true),(2,true),(3,true),(4,false),(5,false),(6,false),(7,true),(8,true),(9,false),(10,false)] [0,1,2,3,7,8]<|B5 3<|Bm rfl (Bf (b:=k.nb) (o':=29) (i:=2) (j:=0) (cs:=C3 k s) (v:=pL<|some ⟨k.ts,0,none⟩) rfl Aa isAgg85 rfl rfl<|(Cf rfl An).trans rfl)<|Bs 1 [(1,0)]<|Ec (v:=Value.tuple #[pL (Cz<|B1 none s.p.xs (((pr:Nat):Int),d,ds,e,f)),bV (Bq s.p.xs (((pr:Nat):Int),d,ds,e,f))]) rfl (A8 fun o c=>(Mx s.p.xs s.gs.a s.gs.cap k.mo k.ts (((pr:Nat):Int),d,ds,e,f) _ (Fv (i:=2) c rfl) (NG.xs (i:=2) c rfl ok) D1 ok.hxs)) ?_
  refine Bs 1 []<|Bm (v:=pV F 0) rfl ((Ys.p (v:=pL<|Cz<|B1 none s.p.xs (((pr:Nat):Int),d,ds,e,f))).conseq<|(by rw[ar];rfl))<|Bm (v:=bV true) rfl ((Ys.p (v:=bV<|Bq s.p.xs (((pr:Nat):Int),d,ds,e,f))).conseq<|B2 l)<|Bs 2 []<|Ev ?_
  refine A9<|W.s ?_
  refine W.block<|W.s ?_
  refine Av<|A5 6 []<|Bz (v:=iV .u16 G.ext) (true) rfl Aa rfl (fun _=>Ys.ld (a:=⟨F,5,none⟩) rfl Aa isAgg22 fun o h_=>by have x_:=(NG.ent (i:=2) h_ rfl au).ld (q:=5) (v:=iV .u16 G.ext) rfl;rw[Be]at x_;exact x_)<|A5 4 [] ?_
  refine Ai ?_
  refine Ak (G.ext !=(t:Int)) Aa (fun S=>?_) fun T=>?_
  ·have U:=S;try simp only[zA]at U
   refine Ag<|A9<|Al [1,2] An rfl ?_
   refine Ak (G.ext !=(t:Int)) Aa (fun V=>?_) fun av=>?_
   ·have X:=V;try simp only[zA]at X
    refine Aj []<|Al [1] An rfl<|Am rfl<|E2 rfl (Ar<|Value.pointer none) (Ar<|iV .i64 21) fun o g=>⟨(s,none,none,21),⟨ok,.inl ⟨rfl,rfl,rfl,.inr rfl,.inr ⟨(F,G),B,A,by simpa using V⟩⟩⟩,rfl,(Mem.flat (LL:=[NG k s]) rfl<|g.pick [0] An rfl)⟩
   ·exact absurd (S.symm.trans av) An
  ·have Y:=T;try simp only[zA]at Y
   refine Ac<|A5 8 []<|Ai<|Al [1,2] An rfl ?_
   refine B4 Aa<|Aj []<|Cd Aa<|Aj []<|Al [1] An rfl ?_
   refine Am rfl<|E2 rfl (Ar<|pV F 0) (Ar<|iV .i64 0) fun o g=>⟨(s,some F,none,0),⟨ok,.inr<|.inl ⟨rfl,rfl,rfl,(F,G),B,rfl,A,by have z_:=T;simpa using z_⟩⟩,rfl,(Mem.flat (LL:=[NG k s]) rfl<|g.pick [0] An rfl)⟩
def RngFl(f:Ci):Prop:=(0≤f.1∧f.1≤255)∧(0≤f.2.1∧f.2.1≤4294967295)∧(0≤f.2.2.1∧f.2.2.1≤4294967295)∧(0≤f.2.2.2.1∧f.2.2.2.1≤65535)∧(0≤f.2.2.2.2∧f.2.2.2.2≤65535)
theorem Al8{ms:List Mpg}{fx:List Conf.Fwd}{a b:Int}(d: ∀w∈fx,¬(w.proto=a∧w.port=b))(e: ∀m∈ms,¬(m.proto=a∧m.ext=b)):Ma ms fx a b=false:=by
  unfold Ma
  rw[Bool.or_eq_false_iff]
  constructor
  · cases h:Eb fx a b with
    |false=>rfl
    |true=>obtain⟨f,g,i⟩:=Zs h;exact absurd ⟨g,i⟩ (d _ f)
  · rw[List.any_eq_false];intro m j c
    unfold Wx at c;simp only[Bool.and_eq_true,beq_iff_eq]at c
    exact e m j c
theorem Aio{P:List (Int×Int)}{p q:Nat}(b:1024≤q)(h:Em P p q=false):(((p:Nat):Int),(q:Int))∉P:=fun c=>by
  unfold Em at h
  rw[decide_eq_true b,Bool.true_and,List.any_eq_false]at h
  exact h _ c A7
section
variable {k:NK}{s:NS}{f:Ci}{dr:Nat}{ext:Int}{gv:Bool}
theorem Sf{ms:List Mpg}{fx:List Conf.Fwd}(h:Gm ms fx f=some ext):(∃m∈ms,ruM f m=true∧ext=m.ext)∨ ∃w∈fx,ruW f w=true∧ext=w.port:=by
  unfold Gm at h
  cases b:ms.find? (ruM f)with
  |some m=>rw[b]at h;exact .inl ⟨m,List.mem_of_find?_eq_some b,List.find?_some b,(Option.some.inj h).symm⟩
  |none=>
    rw[b]at h
    cases hw:fx.find? (ruW f)with
    |none=>rw[hw]at h;cases h
    |some w=>rw[hw]at h;exact .inr ⟨w,List.mem_of_find?_eq_some hw,List.find?_some hw,(Option.some.inj h).symm⟩
theorem Zu(e:Inv k s)(g:0≤f.1)(h:pk (s.p.TT f.1.toNat) dr<65536):(f.1,(N8 (s.p.TT f.1.toNat) dr:Int))∉F3 k.fx++H6 s.p.ms++Mm s.p.zs∧1024≤N8 (s.p.TT f.1.toNat) dr:=by
  have c:=R0 (s.p.TT f.1.toNat) dr
  have i:N8 (s.p.TT f.1.toNat) dr=pk (s.p.TT f.1.toNat) dr:=by unfold N8;rw[if_pos h]
  have j:=c.2.2.1 h
  rw[i]
  refine⟨fun l=>?_,c.2.1⟩
  have n:Em (F3 k.fx++H6 s.p.ms++Mm s.p.zs) f.1.toNat (pk (s.p.TT f.1.toNat) dr)=false:=by rw[←e.b.tks];exact j
  have d:=Aio c.2.1 n
  rw[Int.toNat_of_nonneg g]at d
  exact d l
theorem OpenX.rng(b:Inv k s)(h:OpenX k s.p f dr ext gv):0≤ext∧ext≤65535:=by
  rcases h with⟨h,_⟩|⟨_,_,h,rfl⟩|⟨_,_,_,_,rfl⟩
  · rcases Sf h with⟨m,hm,_,rfl⟩|⟨w,hw,_,rfl⟩
    · have:=b.mr m hm;omega
    · have:=b.fr w hw;omega
  · exact(b.a.lse _ _ (Fj (v0:=(⟨0,0⟩:Lse)) h)).2.2.1
  · have:=Xh (s.p.TT f.1.toNat) dr;omega
theorem OpenX.ho(e:Inv k s)(A:0≤f.1)(h:OpenX k s.p f dr ext gv)(B:Int):Mb s.p.ms k.fx (Ls f ext B gv)=true:=by
  rcases h with⟨h,rfl⟩|⟨_,rfl,h,rfl⟩|⟨_,rfl,_,hp,rfl⟩
  · rcases Sf h with⟨m,g,c,rfl⟩|⟨w,hw,c,rfl⟩
    · unfold Mb
      simp only[Ls,cond_false,Bool.or_eq_true]
      left
      refine List.any_eq_true.2 ⟨m,g,?_⟩
      unfold ruM at c;unfold hoM
      simp only[Bool.and_eq_true,Bool.or_eq_true,beq_iff_eq]at c⊢
      exact⟨⟨⟨⟨c.1.1.1,trivial⟩,c.1.1.2⟩,c.1.2⟩,c.2⟩
    · unfold Mb
      simp only[Ls,cond_false,Bool.or_eq_true]
      right
      unfold ruW at c
      simp only[Bool.and_eq_true,beq_iff_eq]at c
      obtain⟨n,o⟩:=e.fu w hw
      rw[c.1.1]at n o
      rw[n,o];simp[c.1.2,c.2]
  · obtain⟨F,G,H,C⟩:=e.a.lse _ _ (Fj (v0:=(⟨0,0⟩:Lse)) h)
    obtain⟨x,q,r⟩:=Lv (t:=Cc f) (es:=s.p.es) Ae
    have D:=C x q r
    have i:=e.b.rul x q
    obtain⟨j,E⟩:=Eg.1 r
    have l:x.2.pr=f.1:=(Prod.mk.inj E).1
    unfold Mb at i⊢
    rw[j,l,D]at i
    exact i
  · have u:=Zu e A hp
    have c:Ma s.p.ms k.fx f.1 (N8 (s.p.TT f.1.toNat) dr:Int)=false:=by
      refine Al8 (fun w hw d=>u.1 ?_) fun m g d=>u.1 ?_
      · exact List.mem_append_left _ (List.mem_append_left _ (List.mem_map.2 ⟨w,hw,Prod.ext d.1 d.2⟩))
      · exact List.mem_append_left _ (List.mem_append_right _ (List.mem_map.2 ⟨m,g,Prod.ext d.1 d.2⟩))
    unfold Mb
    show(bif true then !Ma s.p.ms k.fx f.1 (N8 (s.p.TT f.1.toNat) dr:Int)else _)=true
    rw[cond_true,c];rfl
theorem Aa1(c:Inv k s)(j:0≤f.1)(h:OpenX k s.p f dr ext gv):gv=true→(∀l,(Cc f,l)∈s.p.zs→l.ext=ext)∧(∀t l,(t,l)∈s.p.zs→t≠Cc f→t.1=f.1→l.ext≠ext):=fun d=>by
  rcases h with⟨_,hg⟩|⟨_,_,h,rfl⟩|⟨_,_,h,hp,rfl⟩
  · rw[d]at hg;cases hg
  · have n:=Fj (v0:=(⟨0,0⟩:Lse)) h
    refine⟨fun l b=>by rw[Jp c.ok.hzs b],fun t l b e g i=>e ?_⟩
    exact c.a.inj _ _ _ _ b n g i
  · have o:=Zu c j hp
    refine⟨fun l b=>absurd rfl<|Ik.1 h _ b,fun t l b _ g i=>o.1 ?_⟩
    exact List.mem_append_right _<|G8.2 ⟨t,l,b,by rw[g,i]⟩
end
theorem Ur{f:Ci}{ext c:Int}{gv:Bool}(b:RngFl f)(d:0≤ext∧ext≤65535):RngE (Ls f ext c gv):=⟨b.1,b.2.1,b.2.2.1,b.2.2.2.1,b.2.2.2.2,d⟩
theorem Us{k:NK}{s:NS}{f:Ci}{ext now:Int}{gv out:Bool}{xb pb:Nat}{e:SesE}(d:Inv k s)(g:Bq s.p.xs f=false)(c:(s.p.xs.length:Int)<k.mo)(i:s.p.lst+1≤18446744073709551615)
    (n:gv=true→(∀l,(Cc f,l)∈s.p.zs→l.ext=ext)∧(∀t l,(t,l)∈s.p.zs→t≠Cc f→t.1=f.1→l.ext≠ext)) (o:RngE (Ls f ext s.p.lst gv)) (ho:Mb s.p.ms k.fx (Ls f ext s.p.lst gv)=true) (q:RenE (Ls f ext s.p.lst gv) now out e) {p':NP}
    (u:p'={Ov k s.p f ext gv xb pb with ws:=Kz (Ov k s.p f ext gv xb pb).ws s.p.lst e.ends,es:=s.p.es.take (Bk ordF s.p.xs f)++(xb,e)::s.p.es.drop (Bk ordF s.p.xs f)}):
    InvA k p' none∧InvB k p'∧p'.ms=s.p.ms∧p'.lst=s.p.lst+1:=by
  have j:=InvA.add (xb:=xb) (pb:=pb) d.a d.ok.hxs d.ok.hys d.ok.hzs g c i n o
  have w:=InvB.add (xb:=xb) (pb:=pb) d.b d.a d.ok.hzs c (fun h=>(n h).1) o ho
  have r:(Sc k s.p f ext gv xb pb).es=s.p.es.take (Bk ordF s.p.xs f)++(xb,Ls f ext s.p.lst gv)::s.p.es.drop (Bk ordF s.p.xs f):=rfl
  have x:=InvA.renew j.1 (show OkS (Sc k s.p f ext gv xb pb).ws from d.ok.hws) r (.inr rfl) q
  have A:=InvB.renew w r q
  subst u
  exact⟨x,A,j.2.1,j.2.2⟩
theorem N6{k:NK}{s:NS}{now:Int}{out:Bool}{b:Nat}{e c:SesE}{A B:List (Nat×SesE)}(d:Inv k s)(g:s.p.es=A++(b,e)::B)(h:RenE e now out c){p':NP}
    (i:p'={s.p with ws:=Kz s.p.ws e.id c.ends,es:=A++(b,c)::B}):InvA k p' none∧InvB k p':=by
  subst i
  exact⟨InvA.renew d.a d.ok.hws g (.inl rfl) h,InvB.renew d.b g h⟩
theorem Inv.tk{k:NK}{s r:NS}(c:Inv k s)(ok:NOk k r){tk:Nat→Option Nat}(d:r.p={s.p with tk:=tk}):Inv k r:=
  ⟨ok,by rw[d];exact c.a.withTk tk s.p.TT,⟨by rw[d];exact c.b.rul,by rw[d];exact c.b.tks⟩,c.fr,c.fu,by rw[d];exact c.mr⟩
structure PkV where
  (ttl pro pid src dst:Int)
  ba:Option Addr
  (bl bc:Nat)
abbrev Tk(x:PkV):List Value:=[iV .u8 (x.ttl),iV .u8 (x.pro),iV .u16 (x.pid),iV .u32 (x.src),iV .u32 (x.dst),Value.slice x.ba x.bl x.bc]
def PkV.v(x:PkV):Value:=.agg [.int .u8 x.ttl,.int .u8 x.pro,.int .u16 x.pid,.int .u32 x.src,.int .u32 x.dst,.slice x.ba x.bl x.bc].toArray
abbrev Wy:PkV:=⟨0,0,0,0,0,none,0,0⟩
abbrev flV(g:Ci):Value:=.agg [.int .u8 g.1,.int .u32 g.2.1,.int .u32 g.2.2.1,.int .u16 g.2.2.2.1,.int .u16 g.2.2.2.2].toArray
def Pk{β:Type}(Φr:Ci→β→Prop)(b:Ci→β→PkV)(c:Ci→Int)(rs:Ci→β→List Blk)(g:Ci)(d:Int)(pv:PkV)(e:List Blk):Prop:=d=c g∧ ∃x,Φr g x∧pv=b g x∧e=rs g x
inductive OutR{β:Type}(Φr:Ci→β→Prop)(rv:Ci→β→PkV)(re:Ci→Int)(rs:Ci→β→List Blk)(k:NK)(s:NS)(f:Ci)(src kd oc:Int)(bg qu:Bool)(dr:Nat)(now:Int)(r:NS)(cd:Int)(pv:PkV)(bl:List Blk):Prop
  |no (hcd:cd≠0) (hes:r.p.es=s.p.es) (why:oc≠0∨(kd=3∧(Bq s.p.xs f=false∨src≠f.2.1))∨(kd=2∧qu=false)∨(kd≠3∧Bq s.p.xs f=false∧(bg=false∨k.mo≤(s.p.xs.length:Int)∨(Gm s.p.ms k.fx f=none∧Bq s.p.zs (Cc f)=false∧ ¬pk (s.p.TT f.1.toNat) dr<65536)))):OutR Φr rv re rs k s f src kd oc bg qu dr now r cd pv bl
  |err (ho:oc=0) (hk:kd=3) (hes:r.p.es=s.p.es) (x:Nat×SesE) (hx:x∈s.p.es) (hf:Ed x.2=f) (hs:Pk Φr rv re rs (f.1,k.c.wan,f.2.2.1,x.2.ext,f.2.2.2.2) cd pv bl):OutR Φr rv re rs k s f src kd oc bg qu dr now r cd pv bl
  |old (ho:oc=0) (hk:kd≠3) (hq:kd=2→qu=true) (A B:List (Nat×SesE)) (b:Nat) (e e':SesE) (he:s.p.es=A++(b,e)::B) (hf:Ed e=f) (hr:RenE e now true e') (hes:r.p.es=A++(b,e')::B) (hs:Pk Φr rv re rs (f.1,k.c.wan,f.2.2.1,e.ext,f.2.2.2.2) cd pv bl):OutR Φr rv re rs k s f src kd oc bg qu dr now r cd pv bl
  |new (ho:oc=0) (hk:kd≠3) (hq:kd=2→qu=true) (hno:Bq s.p.xs f=false) (ext:Int) (gv:Bool) (hx:OpenX k s.p f dr ext gv) (A B:List (Nat×SesE)) (b:Nat) (e':SesE) (he:s.p.es=A++B) (hr:RenE (Ls f ext s.p.lst gv) now true e') (hes:r.p.es=A++(b,e')::B) (hs:Pk Φr rv re rs (f.1,k.c.wan,f.2.2.1,ext,f.2.2.2.2) cd pv bl):OutR Φr rv re rs k s f src kd oc bg qu dr now r cd pv bl
theorem RngFl.out{f:Ci}(h:RngFl f){a e:Int}(b:0≤a∧a≤4294967295)(c:0≤e∧e≤65535):RngFl (f.1,a,f.2.2.1,e,f.2.2.2.2):=⟨h.1,b,h.2.2.1,c,h.2.2.2.2⟩
abbrev Q1l(e:Option Addr)(g h i:Nat)(b pid c d ttl:Int):List Blk:=[cb i [iV .u8 ttl,iV .u8 c,iV .u16 pid,iV .u32 d,iV .u32 b,sL e h g] 40]
abbrev Q1m(b:Nat):List Blk:=[cb b Oc 40]
abbrev Q1n(ds c d e:Int)(b pr:Nat):List Blk:=[cb b [nV .u8 pr,iV .u32 e,iV .u32 ds,iV .u16 d,iV .u16 c] 47]
abbrev Q1o(c:SesE)(b:Nat):List Blk:=[cb b (Sq c) 113]
abbrev Q1p:List Value:=Oc
set_option maxHeartbeats 1000000 in
theorem Tl(k:NK)(s:NS)(M:List Nat)(pr:Nat)(o ds A d:Int)(ttl C pid u D:Int)(Y:Option Addr)(Z bc:Nat)(kd oc:Int)(bg qu:Bool)(fl:Int)(sg:Bool)(now:Int)(dr:Nat)(β:Type)(Φr:Ci→β→Prop)(rv:Ci→β→PkV)(re:Ci→Int)(rs:Ci→β→List Blk)(w:World)(T:Inv k s)(hl:Mem w M [NG k s] w)(d7:s.p.lst≤1000000)(au:0≤k.c.wan∧k.c.wan≤4294967295)(d8:pr<256)(a9:RngFl (((pr:Nat):Int),o,ds,A,d))(d9:dr<18446744073709551616)(db: ∀LL w1,Mem w M LL w1→Calls prog 41 #[O6 ttl C pid u D Y Z bc] w1 (Df w1 (.tuple #[Value.agg ([Value.int .u8 (pr:Int),Value.int .u32 o,Value.int .u32 ds,Value.int .u16 A,Value.int .u16 d]).toArray,.int .i64 kd,.int .i64 oc])))(dc: ∀LL w1,Mem w M LL w1→Calls prog 99 #[O6 ttl C pid u D Y Z bc] w1 (Df w1 (.bool bg)))(ca: ∀LL w1,Mem w M LL w1→Calls prog 88 #[O6 ttl C pid u D Y Z bc] w1 (Df w1 (.tuple #[.int .u8 fl,.bool sg])))(cc: ∀LL w1,Mem w M LL w1→Calls prog 42 #[O6 ttl C pid u D Y Z bc] w1 (Df w1 (.bool qu)))(bw: ∀g LL w1,Mem w M LL w1→RngFl g→g.1=(pr:Int)→Calls prog 45 #[O6 ttl C pid u D Y Z bc,flV g] w1 (Bn w1 (fun x:β=>Φr g x) (fun x=>.tuple #[(rv g x).v,.int .i64 (re g)]) [] (fun x=>[rs g x])))(bi:At w (some ⟨0,0,none⟩) (Cx dbt))(cd:0<(Cx dbt).length→(Option.getD (some (⟨0,0,none⟩:Addr)) default).block∉M):Calls prog 16 #[pL (some ⟨k.nb,0,none⟩),aV [iV .u8 ttl,iV .u8 C,iV .u16 pid,iV .u32 u,iV .u32 D,sL Y Z bc],iV .u64 now,nV .u64 dr] w (Bn w (fun r:NS×Int×PkV×List Blk=>Inv k r.1∧r.1.p.ms=s.p.ms∧r.1.p.lst≤s.p.lst+1∧OutR Φr rv re rs k s (((pr:Nat):Int),o,ds,A,d) u kd oc bg qu dr now r.1 r.2.1 r.2.2.1 r.2.2.2) (fun r=>.tuple #[r.2.2.1.v,.int .i64 r.2.1]) M (fun r=>[NG k r.1,r.2.2.2])):=by
 have ok:=T.ok;have hA:=T.a;obtain⟨ea,ec,ed,ef,eg⟩:=NOk.len ok;have bk:=N5 hA (by have z_:=Ja ok hA;omega) (((pr:Nat):Int),o,A);have bm:s.p.ws.length≤80000:=(by have z_:=hA.wln ok.hws;have y_:=Ja ok hA;omega);have d2:=hA.lst.1
 refine Ap (M:=M) (LL:=[NG k s]) (n:=99) func16 rfl rfl A7 (hl)<|W.s ?_
 refine Ac<|Af rfl (Bx [iV .u8 ttl,iV .u8 C,iV .u16 pid,iV .u32 u,iV .u32 D,sL Y Z bc] rfl) fun p5=>?_
 refine Af rfl (Ba zeroValue40) fun I=>Ab 1<|Ai<|W.s ?_
 refine Ac<|A5 1 [(1,0)]<|Cb (v:=Value.tuple #[aV [nV .u8 pr,iV .u32 o,iV .u32 ds,iV .u16 A,iV .u16 d],iV .i64 kd,iV .i64 oc]) (A8 fun O h=>(db _ _ h))<|Ab 4<|Af rfl (Ba zeroValue47) fun U=>?_
 refine Af rfl (A0 U 0 0 0 [nV .u8 pr,iV .u32 o,iV .u32 ds,iV .u16 A,iV .u16 d] sizeOf47 rfl rfl) fun _=>Ab 2<|Ai<|W.s ?_
 refine Aj [] ?_
 refine Ak (oc !=0) Aa (fun h8=>?_) fun h9=>?_
 ·have dg:=h8;try simp only[zA]at dg
  refine Av<|Ab 2<|Af rfl (A0 I 0 1 0 Q1p sizeOf40 rfl rfl) fun _=>Ab 1 ?_
  refine Ai<|Al [1,3] An rfl<|Am rfl<|E2 rfl (Bu I 0 0 0 Oc isAgg40 sizeOf40) (Ar<|iV .i64 oc) fun O F=>⟨(s,oc,Wy,[]),⟨T,rfl,Nc,.no (by simpa using h8) rfl<|.inl<|by simpa using h8⟩,rfl,(Mem.flat (LL:=[NG k s]) rfl<|F.pick [1] An rfl)⟩
 ·have dh:=h9;try simp only[zA]at dh
  refine Ag<|A9<|W.s ?_
  cases af:Bq s.p.xs (((pr:Nat):Int),o,ds,A,d)
  ·refine C5 [(0,true),(1,true),(2,true),(3,true),(4,false),(5,false),(6,false),(7,true),(8,true),(9,false),(10,false)] [0,1,2,3,7,8]<|B5 3<|Bm rfl (Bf (b:=k.nb) (o':=29) (i:=3) (j:=0) (cs:=C3 k s) (v:=pL<|some ⟨k.ts,0,none⟩) rfl Aa isAgg85 rfl rfl<|(Cf rfl An).trans rfl)<|Bs 1 [(0,0)]<|Ec (v:=Value.tuple #[pL (Cz<|B1 none s.p.xs (((pr:Nat):Int),o,ds,A,d)),bV (Bq s.p.xs (((pr:Nat):Int),o,ds,A,d))]) rfl (A8 fun O h=>(Mx s.p.xs s.gs.a s.gs.cap k.mo k.ts (((pr:Nat):Int),o,ds,A,d) _ (Fv (i:=3) h rfl) (NG.xs (i:=3) h rfl ok) D1 ok.hxs)) ?_
   refine Bs 1 []<|Bm (v:=pL none) rfl ((Ys.p (v:=pL<|Cz<|B1 none s.p.xs (((pr:Nat):Int),o,ds,A,d))).conseq<|(by rw[Hy af];rfl))<|Bm (v:=bV false) rfl ((Ys.p (v:=bV<|Bq s.p.xs (((pr:Nat):Int),o,ds,A,d))).conseq<|B2 af)<|Bs 2 []<|Ev ?_
   refine A9<|W.s ?_
   refine W.block<|Aj [] ?_
   refine Ak (kd==3) Aa (fun ce=>?_) fun bx=>?_
   ·have cf:=ce;try simp only[zA]at cf
    refine W.s<|Aj []<|Cd Aa<|Av ?_
    refine Ab 1<|Af rfl (A0 I 0 1 0 Q1p sizeOf40 rfl rfl) fun _=>?_
    refine Ab 1<|Ai<|Al [1,3] An rfl<|Am rfl<|E2 rfl (Bu I 0 0 0 Oc isAgg40 sizeOf40) (Ar<|iV .i64 21) fun O F=>⟨(s,21,Wy,[]),⟨T,rfl,Nc,.no Vm rfl<|.inr<|.inl ⟨(by simpa using ce),.inl af⟩⟩,rfl,(Mem.flat (LL:=[NG k s]) rfl<|F.pick [1] An rfl)⟩
   ·have cg:=bx;try simp only[zA]at cg
    refine Av<|Ab 3<|Da 3 (kd==2) (fun _=>Gs.m 1 [(2,0)]<|Gs.k (v:=bV qu) (A8 fun O h=>(cc _ _ h))<|Gs.z [])<|Ao (v:=bV<|(kd==2)&&(!qu)) (B9 (e:=kd==2) (b:= !qu) rfl Aa Aa Aa) ?_
    refine Ab 1<|Ai ?_
    refine Ak ((kd==2)&&(!qu)) Aa (fun ch=>?_) fun ci=>?_
    ·have cj:=ch;try simp only[zA]at cj
     refine Av<|Ab 1<|Af rfl (A0 I 0 1 0 Q1p sizeOf40 rfl rfl) fun _=>Ab 1 ?_
     refine Ai<|Al [1,3] An rfl<|Am rfl<|E2 rfl (Bu I 0 0 0 Oc isAgg40 sizeOf40) (Ar<|iV .i64 21) fun O F=>⟨(s,21,Wy,[]),⟨T,rfl,Nc,.no Vm rfl<|.inr<|.inr<|.inl<|by simpa using ch⟩,rfl,(Mem.flat (LL:=[NG k s]) rfl<|F.pick [1] An rfl)⟩
    ·have ck:=ci;try simp only[zA]at ck
     refine Ag<|A9<|W.s<|Aj []<|Cd Aa ?_
     refine Av<|A5 4 [(0,0),(2,0)]<|Aw rfl (Au [3] [0,1,2] fun O h ag=>(Alw k s _ pr o ds A d ttl C pid u D Y Z bc bg dr _ ok ag Ae Ae bk.1 bk.2 (fun LL_ cl av=>dc _ _<|Mem.back (LL:=[NG k s]) (R:=[Q1n ds d A o U pr,Q1m I,Q1l Y bc Z p5 D pid C u ttl]) (Mem.pick [3,0,1,2] An h rfl) av) (Dq (L:=[NG k s]) (R:=[Q1n ds d A o U pr,Q1m I,Q1l Y bc Z p5 D pid C u ttl]) bi cd<|Mem.pick [3,0,1,2] An h rfl).1 (Dq (L:=[NG k s]) (R:=[Q1n ds d A o U pr,Q1m I,Q1l Y bc Z p5 D pid C u ttl]) bi cd<|Mem.pick [3,0,1,2] An h rfl).2)) fun di bn=>?_
     obtain⟨ah,aw,ai⟩:=di
     dsimp only at bn
     obtain⟨ax,P⟩:=bn
     refine B0 (LL':=[NG k ah,Aar aw,Q1n ds d A o U pr,Q1m I,Q1l Y bc Z p5 D pid C u ttl]) rfl ?_
     obtain⟨dj,dk,dl,dm,dn⟩:=NOk.len ax
     rcases P with P|P
     ·obtain⟨ay,az,⟨dp,E⟩,cm⟩:=P
      obtain rfl:aw=none:=ay
      have bo:(ai !=0)=true:=by rcases az with h_|h_<;>(simp only at h_;rw[h_];rfl)
      have E:ah.p={s.p with tk:=dp}:=E
      refine Ab 5<|Ai<|Al [0,2,3,4] An rfl<|W.s ?_
      refine Ac<|Ab 1<|Ao (v:=bV true) ((Ys.p (v:=bV<|ai !=0)).conseq<|B2 bo)<|Ai ?_
      refine Cd Aa<|W.s ?_
      refine Ac<|Ab 2<|Af rfl (A0 I 0 2 0 Q1p sizeOf40 rfl rfl) fun _=>Ab 1<|Ay ?_
      refine A9<|Al [0,2] An rfl<|Am rfl<|E2 rfl (Bu I 0 1 0 Oc isAgg40 sizeOf40) (Ar<|iV .i64 ai) fun O F=>⟨(ah,ai,Wy,[]),⟨T.tk ax E,by rw[E],by rw[E];show s.p.lst≤_;omega,.no (by simpa using bo) (by rw[E])<|.inr<|.inr<|.inr ⟨(by simpa using bx),af,cm⟩⟩,rfl,(Mem.flat (LL:=[NG k ah]) rfl<|F.pick [0] An rfl)⟩
     ·obtain⟨az,d3,d4,l,aj,G,cn,ak,ay,E⟩:=P
      obtain rfl:aw=some (G,Ls (((pr:Nat):Int),o,ds,A,d) l s.p.lst aj):=ay
      obtain rfl:ai=0:=az
      have E:ah.p=Ov k s.p (((pr:Nat):Int),o,ds,A,d) l aj G cn:=E
      refine Ab 5<|Ai<|Aj []<|B4 Aa ?_
      refine Ag<|A9<|W.s ?_
      skip
      refine Ac<|A5 4 [(4,0)]<|Aw rfl (Au [0,1] [2,3,4] fun O h ag=>(I8 k ah _ (Ls (((pr:Nat):Int),o,ds,A,d) l s.p.lst aj) G ttl C pid u D Y Z bc now fl true sg _ ax ag (by rw[show ah.p.ws=s.p.ws by rw[E]<;>rfl];have z_:=bm;omega) fun LL_ cl av=>ca _ _<|Mem.back (LL:=[NG k ah,[cb G [nV .u8 pr,iV .u32 o,iV .u32 ds,iV .u16 A,iV .u16 d,iV .u16 l,iV .u64 0,bV false,bV false,bV false,bV false,bV false,bV false,iV .u64 s.p.lst,bV aj] 113]]) (R:=[Q1n ds d A o U pr,Q1m I,Q1l Y bc Z p5 D pid C u ttl]) (Mem.pick [0,1,2,3,4] An h rfl) av)) fun dq bp=>?_
      obtain⟨V,a1⟩:=dq
      dsimp only at bp
      obtain⟨bq,ao,br⟩:=bp
      refine B0 (LL':=[NG k V,Q1o a1 G,Q1n ds d A o U pr,Q1m I,Q1l Y bc Z p5 D pid C u ttl]) rfl ?_
      obtain⟨du,dv,dw,dx,dy⟩:=NOk.len bq
      refine Ai<|W.s<|C5 [(0,true),(1,true),(2,true),(3,false),(4,false),(5,false),(6,false),(7,false),(8,false),(9,false),(10,true),(11,false),(12,false),(13,false)] [0,1,2,10]<|Bs 7 [(4,0),(2,0)] ?_
      refine Gg (v:=iV .u16 l) rfl (Ys.conseq (v:=iV .u16 a1.ext) (Ad ao.ext)<|Cn G 5 1 0 isAgg22)<|Ec (v:=aV [nV .u8 pr,iV .u32 k.c.wan,iV .u32 ds,iV .u16 l,iV .u16 d]) rfl (A8 fun O h=>(Ou k.c k.fx k.gf.a k.gf.cap V.p.ms V.gm.a V.gm.cap k.ts k.te V.p.tk k.wb k.ti V.p.lst k.nb (pr:Int) o ds A d l _<|A4 (i:=0) (j:=0) (t:=91) (b:=k.nb) h rfl rfl))<|Ca rfl rfl (Au [] [0,1,2,3,4] fun O h ag=>(bw (((pr:Nat):Int),k.c.wan,ds,l,d) _ _ h (RngFl.out a9 au<|OpenX.rng T ak) rfl)) (Az [1,2,3,4,5]) fun al bz=>Wd.mp 2 [] [1,2,3,4,5]<|Cj rfl rfl (A0 I 0 4 0 (Tk<|rv (((pr:Nat):Int),k.c.wan,ds,l,d) al) sizeOf40 rfl rfl) (.inl Aa) fun _=>?_
      refine Dh 1 []<|Cl<|Al [0,1,2,4] An rfl<|Am rfl ?_
      have b0:V.p.es=(s.p.es.take (Bk ordF s.p.xs (((pr:Nat):Int),o,ds,A,d)))++(s.p.es.drop (Bk ordF s.p.xs (((pr:Nat):Int),o,ds,A,d))):=by rw[br,E,List.take_append_drop]<;>rfl
      have N:=Us (p':=(O7 V ((s.p.es.take (Bk ordF s.p.xs (((pr:Nat):Int),o,ds,A,d)))++(G,a1)::(s.p.es.drop (Bk ordF s.p.xs (((pr:Nat):Int),o,ds,A,d))))).p) T af Ae Ae (Aa1 T (by show(0:Int)≤(pr:Int);omega) ak) (Ur a9 (OpenX.rng T ak)) (OpenX.ho T (by show(0:Int)≤(pr:Int);omega) ak _) ao (by show({V.p with es:=_}:NP)=_;rw[br,E]<;>rfl)
      exact E2 rfl (Bu I 0 3 0 (Tk<|rv (((pr:Nat):Int),k.c.wan,ds,l,d) al) isAgg40 sizeOf40) (Ar<|iV .i64<|re (((pr:Nat):Int),k.c.wan,ds,l,d)) fun O F=>⟨(O7 V ((s.p.es.take<|Bk ordF s.p.xs (((pr:Nat):Int),o,ds,A,d))++(G,a1)::(s.p.es.drop<|Bk ordF s.p.xs (((pr:Nat):Int),o,ds,A,d))),re (((pr:Nat):Int),k.c.wan,ds,l,d),rv (((pr:Nat):Int),k.c.wan,ds,l,d) al,rs (((pr:Nat):Int),k.c.wan,ds,l,d) al),⟨⟨F9 bq _,N.1,N.2.1,T.fr,T.fu,(by rw[N.2.2.1];exact T.mr)⟩,N.2.2.1,(by rw[N.2.2.2];omega),.new (by simpa using h9) (by simpa using bx) (fun h_=>by have z_:=ci;rw[h_]at z_;simpa using z_) af l aj ak (s.p.es.take<|Bk ordF s.p.xs (((pr:Nat):Int),o,ds,A,d)) (s.p.es.drop<|Bk ordF s.p.xs (((pr:Nat):Int),o,ds,A,d)) G a1 (List.take_append_drop _ _).symm ao rfl ⟨rfl,al,bz,rfl,rfl⟩⟩,rfl,(Lw b0<|Mem.pick [1,2,0] An F rfl)⟩
  ·obtain⟨fA,fB,eb,H,a2,bs,dz⟩:=Ox hA ok.hxs af
   have d0:=Se a2
   have a3:(eb,H)∈s.p.es:=by rw[a2];exact Cr.2 (.inl rfl)
   refine C5 [(0,true),(1,true),(2,true),(3,true),(4,false),(5,false),(6,false),(7,true),(8,true),(9,false),(10,false)] [0,1,2,3,7,8]<|B5 3<|Bm rfl (Bf (b:=k.nb) (o':=29) (i:=3) (j:=0) (cs:=C3 k s) (v:=pL<|some ⟨k.ts,0,none⟩) rfl Aa isAgg85 rfl rfl<|(Cf rfl An).trans rfl)<|Bs 1 [(0,0)]<|Ec (v:=Value.tuple #[pL (Cz<|B1 none s.p.xs (((pr:Nat):Int),o,ds,A,d)),bV (Bq s.p.xs (((pr:Nat):Int),o,ds,A,d))]) rfl (A8 fun O h=>(Mx s.p.xs s.gs.a s.gs.cap k.mo k.ts (((pr:Nat):Int),o,ds,A,d) _ (Fv (i:=3) h rfl) (NG.xs (i:=3) h rfl ok) D1 ok.hxs)) ?_
   refine Bs 1 []<|Bm (v:=pV eb 0) rfl ((Ys.p (v:=pL<|Cz<|B1 none s.p.xs (((pr:Nat):Int),o,ds,A,d))).conseq<|(by rw[dz];rfl))<|Bm (v:=bV true) rfl ((Ys.p (v:=bV<|Bq s.p.xs (((pr:Nat):Int),o,ds,A,d))).conseq<|B2 af)<|Bs 2 []<|Ev ?_
   refine A9<|W.s ?_
   refine W.block<|Aj [] ?_
   refine Ak (kd==3) Aa (fun b1=>?_) fun co=>?_
   ·have cp:=b1;try simp only[zA]at cp
    refine W.s<|Aj [(2,0),(0,0)] ?_
    refine Ak (u !=o) Aa (fun cq=>?_) fun d1=>?_
    ·have cr:=cq;try simp only[zA]at cr
     refine Av<|Ab 1<|Af rfl (A0 I 0 1 0 Q1p sizeOf40 rfl rfl) fun _=>Ab 1 ?_
     refine Ai<|Al [1,3] An rfl<|Am rfl<|E2 rfl (Bu I 0 0 0 Oc isAgg40 sizeOf40) (Ar<|iV .i64 21) fun O F=>⟨(s,21,Wy,[]),⟨T,rfl,Nc,.no Vm rfl<|.inr<|.inl ⟨(by simpa using b1),.inr<|by simpa using cq⟩⟩,rfl,(Mem.flat (LL:=[NG k s]) rfl<|F.pick [1] An rfl)⟩
    ·have ct:=d1;try simp only[zA]at ct
     refine Ag<|A9<|W.s<|C5 [(0,true),(1,true),(2,true),(3,false),(4,false),(5,false),(6,false),(7,false),(8,false),(9,false),(10,true),(11,false),(12,false),(13,false)] [0,1,2,10]<|Bs 7 [(2,0),(0,0)] ?_
     refine Gg (v:=iV .u16 H.ext) rfl (Ys.ld (a:=⟨eb,5,none⟩) rfl Aa isAgg22 fun O h_=>by have x_:=(NG.ent (i:=3) h_ rfl d0).ld (q:=5) (v:=iV .u16 H.ext) rfl;rw[Be]at x_;exact x_)<|Ec (v:=aV [nV .u8 pr,iV .u32 k.c.wan,iV .u32 ds,iV .u16 H.ext,iV .u16 d]) rfl (A8 fun O h=>(Ou k.c k.fx k.gf.a k.gf.cap s.p.ms s.gm.a s.gm.cap k.ts k.te s.p.tk k.wb k.ti s.p.lst k.nb (pr:Int) o ds A d H.ext _<|A4 (i:=3) (j:=0) (t:=91) (b:=k.nb) h rfl rfl))<|Ca rfl rfl (Au [] [0,1,2,3] fun O h ag=>(bw (((pr:Nat):Int),k.c.wan,ds,H.ext,d) _ _ h (RngFl.out a9 au (hA.rng (eb,H) a3).ext) rfl)) (Az [1,2,3,4]) fun am b3=>Wd.mp 2 [] [1,2,3,4]<|Cj rfl rfl (A0 I 0 2 0 (Tk<|rv (((pr:Nat):Int),k.c.wan,ds,H.ext,d) am) sizeOf40 rfl rfl) (.inl Aa) fun _=>?_
     refine Dh 1 []<|Cl<|Al [0,2,4] An rfl<|Am rfl<|E2 rfl (Bu I 0 1 0 (Tk<|rv (((pr:Nat):Int),k.c.wan,ds,H.ext,d) am) isAgg40 sizeOf40) (Ar<|iV .i64<|re (((pr:Nat):Int),k.c.wan,ds,H.ext,d)) fun O F=>⟨(s,re (((pr:Nat):Int),k.c.wan,ds,H.ext,d),rv (((pr:Nat):Int),k.c.wan,ds,H.ext,d) am,rs (((pr:Nat):Int),k.c.wan,ds,H.ext,d) am),⟨T,rfl,Nc,.err (by simpa using h9) (by simpa using b1) rfl (eb,H) a3 bs ⟨rfl,am,b3,rfl,rfl⟩⟩,rfl,(F.pick [2,0] An rfl)⟩
   ·have cu:=co;try simp only[zA]at cu
    refine Av<|Ab 3<|Da 3 (kd==2) (fun _=>Gs.m 1 [(2,0)]<|Gs.k (v:=bV qu) (A8 fun O h=>(cc _ _ h))<|Gs.z [])<|Ao (v:=bV<|(kd==2)&&(!qu)) (B9 (e:=kd==2) (b:= !qu) rfl Aa Aa Aa) ?_
    refine Ab 1<|Ai ?_
    refine Ak ((kd==2)&&(!qu)) Aa (fun bt=>?_) fun bu=>?_
    ·have b4:=bt;try simp only[zA]at b4
     refine Av<|Ab 1<|Af rfl (A0 I 0 1 0 Q1p sizeOf40 rfl rfl) fun _=>Ab 1 ?_
     refine Ai<|Al [1,3] An rfl<|Am rfl<|E2 rfl (Bu I 0 0 0 Oc isAgg40 sizeOf40) (Ar<|iV .i64 21) fun O F=>⟨(s,21,Wy,[]),⟨T,rfl,Nc,.no Vm rfl<|.inr<|.inr<|.inl<|by simpa using bt⟩,rfl,(Mem.flat (LL:=[NG k s]) rfl<|F.pick [1] An rfl)⟩
    ·have b5:=bu;try simp only[zA]at b5
     refine Ag<|A9<|W.s<|Aj []<|B4 Aa ?_
     refine Ag<|A9<|W.s ?_
     obtain⟨X,ad⟩: ∃z,z=O7 s (fA++fB):=⟨_,rfl⟩
     have a5:NOk k X:=ad▸F9 ok _
     have J:X.p={s.p with es:=fA++fB}:=by rw[ad];rfl
     obtain⟨cx,cy,c0,c1,c3⟩:=NOk.len a5
     refine W.conseq (S':=Mem w M [NG k X,[cb eb (Sq H) 113],Q1n ds d A o U pr,Q1m I,Q1l Y bc Z p5 D pid C u ttl]) (fun O h_=>ad▸M3 a2 (h_.pick [3,0,1,2] An rfl))<|Ac<|A5 4 [(4,0)]<|Aw rfl (Au [0,1] [2,3,4] fun O h ag=>(I8 k X _ H eb ttl C pid u D Y Z bc now fl true sg _ a5 ag (by rw[show X.p.ws=s.p.ws by rw[J]<;>rfl];have z_:=bm;omega) fun LL_ cl av=>ca _ _<|Mem.back (LL:=[NG k X,[cb eb (Sq H) 113]]) (R:=[Q1n ds d A o U pr,Q1m I,Q1l Y bc Z p5 D pid C u ttl]) (Mem.pick [0,1,2,3,4] An h rfl) av)) fun cv a6=>?_
     obtain⟨B,an⟩:=cv
     dsimp only at a6
     obtain⟨a7,ae,Q⟩:=a6
     refine B0 (LL':=[NG k B,[cb eb (Sq an) 113],Q1n ds d A o U pr,Q1m I,Q1l Y bc Z p5 D pid C u ttl]) rfl ?_
     obtain⟨c4,c5,c6,c7,c8⟩:=NOk.len a7
     refine Ai<|W.s<|C5 [(0,true),(1,true),(2,true),(3,false),(4,false),(5,false),(6,false),(7,false),(8,false),(9,false),(10,true),(11,false),(12,false),(13,false)] [0,1,2,10]<|Bs 7 [(4,0),(2,0)] ?_
     refine Gg (v:=iV .u16 H.ext) rfl (Ys.conseq (v:=iV .u16 an.ext) (Ad ae.ext)<|Cn eb 5 1 0 isAgg22)<|Ec (v:=aV [nV .u8 pr,iV .u32 k.c.wan,iV .u32 ds,iV .u16 H.ext,iV .u16 d]) rfl (A8 fun O h=>(Ou k.c k.fx k.gf.a k.gf.cap B.p.ms B.gm.a B.gm.cap k.ts k.te B.p.tk k.wb k.ti B.p.lst k.nb (pr:Int) o ds A d H.ext _<|A4 (i:=0) (j:=0) (t:=91) (b:=k.nb) h rfl rfl))<|Ca rfl rfl (Au [] [0,1,2,3,4] fun O h ag=>(bw (((pr:Nat):Int),k.c.wan,ds,H.ext,d) _ _ h (RngFl.out a9 au (hA.rng (eb,H) a3).ext) rfl)) (Az [1,2,3,4,5]) fun S bf=>Wd.mp 2 [] [1,2,3,4,5]<|Cj rfl rfl (A0 I 0 4 0 (Tk<|rv (((pr:Nat):Int),k.c.wan,ds,H.ext,d) S) sizeOf40 rfl rfl) (.inl Aa) fun _=>?_
     refine Dh 1 []<|Cl<|Al [0,1,2,4] An rfl<|Am rfl ?_
     have b0:B.p.es=fA++fB:=by rw[Q,J]
     have N:=N6 (p':=(O7 B (fA++(eb,an)::fB)).p) T a2 ae (by show({B.p with es:=_}:NP)=_;rw[Q,J])
     exact E2 rfl (Bu I 0 3 0 (Tk<|rv (((pr:Nat):Int),k.c.wan,ds,H.ext,d) S) isAgg40 sizeOf40) (Ar<|iV .i64<|re (((pr:Nat):Int),k.c.wan,ds,H.ext,d)) fun O F=>⟨(O7 B (fA++(eb,an)::fB),re (((pr:Nat):Int),k.c.wan,ds,H.ext,d),rv (((pr:Nat):Int),k.c.wan,ds,H.ext,d) S,rs (((pr:Nat):Int),k.c.wan,ds,H.ext,d) S),⟨⟨F9 a7 _,N.1,N.2,T.fr,T.fu,(by show RngM B.p.ms;rw[Q,J];exact T.mr)⟩,(by show B.p.ms=_;rw[Q,J]),(by show B.p.lst≤_;rw[Q,J];show s.p.lst≤_;omega),.old (by simpa using h9) (by simpa using co) (fun h_=>by have z_:=bu;rw[h_]at z_;simpa using z_) fA fB eb H an a2 bs ae rfl ⟨rfl,S,bf,rfl,rfl⟩⟩,rfl,(Lw b0<|Mem.pick [1,2,0] An F rfl)⟩
theorem Tm{f:Ci}{es:List (Nat×SesE)}{b:Nat}{e:SesE}(h:Mc f es=some (b,e)):(∃A B,es=A++(b,e)::B)∧e.pr=f.1∧e.ext=f.2.2.2.2∧e.dst=f.2.1∧e.dto=f.2.2.2.1:=by
  have d:=List.mem_of_find?_eq_some h
  have c:=List.find?_some h
  unfold knQ at c
  simp only[Bool.and_eq_true,beq_iff_eq]at c
  exact⟨Ka d,c.1.1.1,c.1.1.2,c.1.2,c.2⟩
section
variable {c:Conf.Cfg}{fx:List Conf.Fwd}{p:NP}{f:Ci}
theorem Aem(c:Conf.Cfg)(fx:List Conf.Fwd)(p:NP)(f:Ci):((Bi c fx p f).2.2.1=none∧(Bi c fx p f).2.1=false)∨((Bi c fx p f).2.2.1=none∧(Bi c fx p f).2.1=true)∨ ∃d b,(Bi c fx p f).2.2.1=some d∧Mc f p.es=some (d,b)∧b.lan=true∧(Bi c fx p f).1=(b.pr,b.src,b.frm)∧(Bi c fx p f).2.1=false∧(Bi c fx p f).2.2.2=0:=by
  unfold Bi
  cases(Ex p.ms f).isSome with
  |true=>exact .inl ⟨rfl,rfl⟩
  |false=>
    simp only[cond_false]
    cases g:Mc f p.es with
    |none=>
      simp only[Option.isSome_none,Bool.false_and,cond_false]
      cases Eb fx f.1 f.2.2.2.2 with
      |true=>exact .inl ⟨rfl,rfl⟩
      |false=>
        simp only[cond_false]
        cases(c.dmz==0)||Ma p.ms fx f.1 f.2.2.2.2 with
        |true=>exact .inl ⟨rfl,rfl⟩
        |false=>
          simp only[cond_false]
          cases p.zs.any (tgQ f (f.1,c.dmz,f.2.2.2.2))with
          |true=>exact .inl ⟨rfl,rfl⟩
          |false=>exact .inr (.inl ⟨rfl,rfl⟩)
    |some x=>
      simp only[Option.isSome_some,Bool.true_and,Option.getD_some]
      cases e:x.2.lan with
      |true=>exact .inr (.inr ⟨x.1,x.2,rfl,rfl,e,rfl,rfl,rfl⟩)
      |false=>
        simp only[cond_false]
        cases Eb fx f.1 f.2.2.2.2 with
        |true=>exact .inl ⟨rfl,rfl⟩
        |false=>
          simp only[cond_false]
          cases(c.dmz==0)||Ma p.ms fx f.1 f.2.2.2.2 with
          |true=>exact .inl ⟨rfl,rfl⟩
          |false=>
            simp only[cond_false]
            cases p.zs.any (tgQ f (f.1,c.dmz,f.2.2.2.2))with
            |true=>exact .inl ⟨rfl,rfl⟩
            |false=>exact .inr (.inl ⟨rfl,rfl⟩)
theorem Al9(g:(Bi c fx p f).2.2.1=none)(d:(Bi c fx p f).2.2.2=0):
    (∃m,Ex p.ms f=some m∧Bi c fx p f=((f.1,m.host,m.to),false,none,0))∨
    (Ex p.ms f=none∧Eb fx f.1 f.2.2.2.2=true∧Bi c fx p f=((f.1,(C0 fx f.1 f.2.2.2.2).host,(C0 fx f.1 f.2.2.2.2).dest),false,none,0))∨
    (Ex p.ms f=none∧Eb fx f.1 f.2.2.2.2=false∧((c.dmz==0)||Ma p.ms fx f.1 f.2.2.2.2)=false∧p.zs.any (tgQ f (f.1,c.dmz,f.2.2.2.2))=false∧Bi c fx p f=((f.1,c.dmz,f.2.2.2.2),true,none,0)):=by
  cases j:Ex p.ms f with
  |some m=>exact .inl ⟨m,rfl,by unfold Bi;rw[j];rfl⟩
  |none=>
    have b:(Ex p.ms f).isSome=false:=by rw[j];rfl
    cases e:((Mc f p.es).isSome&&((Mc f p.es).getD (0,Cq)).2.lan)with
    |true=>unfold Bi at g;rw[b]at g;simp only[cond_false,e,cond_true]at g;cases g
    |false=>
      cases h:Eb fx f.1 f.2.2.2.2 with
      |true=>exact .inr (.inl ⟨rfl,rfl,by unfold Bi;rw[b];simp only[cond_false,e,h,cond_true]⟩)
      |false=>
        cases i:((c.dmz==0)||Ma p.ms fx f.1 f.2.2.2.2)with
        |true=>unfold Bi at d;rw[b]at d;simp only[cond_false,e,h,i,cond_true]at d;cases d
        |false=>
          cases l:p.zs.any (tgQ f (f.1,c.dmz,f.2.2.2.2))with
          |true=>unfold Bi at d;rw[b]at d;simp only[cond_false,e,h,i,l,cond_true]at d;cases d
          |false=>exact .inr (.inr ⟨rfl,rfl,rfl,rfl,by unfold Bi;rw[b];simp only[cond_false,e,h,i,l]⟩)
end
theorem Aa2{ms:List Mpg}{f:Ci}{m:Mpg}(h:Ex ms f=some m):m∈ms∧m.proto=f.1∧m.ext=f.2.2.2.2∧(m.remote=f.2.1∨m.remote=0):=by
  unfold Ex at h
  cases d:ms.find? (maQ f f.2.1)with
  |some e=>
    rw[d]at h
    obtain rfl:=Option.some.inj h
    have b:=List.find?_some d
    unfold maQ at b;simp only[Bool.and_eq_true,beq_iff_eq]at b
    exact⟨List.mem_of_find?_eq_some d,b.1.1,b.1.2,.inl b.2⟩
  |none=>
    rw[d]at h
    have b:=List.find?_some h
    unfold maQ at b;simp only[Bool.and_eq_true,beq_iff_eq]at b
    exact⟨List.mem_of_find?_eq_some h,b.1.1,b.1.2,.inr b.2⟩
theorem Ais{a b:Ix}:Dk [Value.int .u8 a.1,Value.int .u32 a.2.1,Value.int .u16 a.2.2] [Value.int .u8 b.1,Value.int .u32 b.2.1,Value.int .u16 b.2.2]=decide (a=b):=by
  obtain⟨d,e,g⟩:=a
  obtain⟨h,b2,i⟩:=b
  rw[Bool.eq_iff_iff,decide_eq_true_eq]
  simp[Dk,Rn]
abbrev inG(c:Conf.Cfg)(fx:List Conf.Fwd)(p:NP)(f:Ci):Ci:=(f.1,(Bi c fx p f).1.2.1,f.2.1,(Bi c fx p f).1.2.2,f.2.2.2.1)
theorem Oy{k:NK}{s:NS}{f:Ci}(q:Inv k s)(d:RngFl f)(x:0≤k.c.dmz∧k.c.dmz≤4294967295)(A:(Bi k.c k.fx s.p f).2.2.1=none)(B:(Bi k.c k.fx s.p f).2.2.2=0):
    RngFl (inG k.c k.fx s.p f)∧(∀i,Mb s.p.ms k.fx (Ls (inG k.c k.fx s.p f) f.2.2.2.2 i (Bi k.c k.fx s.p f).2.1)=true)∧
    ((Bi k.c k.fx s.p f).2.1=true→(∀l,(Cc (inG k.c k.fx s.p f),l)∈s.p.zs→l.ext=f.2.2.2.2)∧(∀t l,(t,l)∈s.p.zs→t≠Cc (inG k.c k.fx s.p f)→t.1=(inG k.c k.fx s.p f).1→l.ext≠f.2.2.2.2)):=by
  rcases Al9 A B with⟨m,hm,ht⟩|⟨_,hw,ht⟩|⟨_,_,b,hz,ht⟩
  · obtain⟨j,r,u,C⟩:=Aa2 hm
    have b:=q.mr m j
    unfold inG;rw[ht]
    refine⟨⟨d.1,⟨b.2.2.2.2.2.2.1,b.2.2.2.2.2.2.2⟩,d.2.1,⟨b.2.2.2.2.1,b.2.2.2.2.2.1⟩,d.2.2.2.1⟩,fun i=>?_,fun h=>by cases h⟩
    unfold Mb
    simp only[Ls,cond_false,Bool.or_eq_true]
    left
    refine List.any_eq_true.2 ⟨m,j,?_⟩
    unfold hoM
    simp only[Bool.and_eq_true,Bool.or_eq_true,beq_iff_eq]
    exact⟨⟨⟨⟨r,u⟩,trivial⟩,trivial⟩,C.symm⟩
  · obtain⟨j,r,u⟩:=Zs hw
    have b:=q.fr _ j
    unfold inG;rw[ht]
    refine⟨⟨d.1,⟨b.2.2.2.2.1,b.2.2.2.2.2.1⟩,d.2.1,⟨b.2.2.2.2.2.2.1,b.2.2.2.2.2.2.2⟩,d.2.2.2.1⟩,fun i=>?_,fun h=>by cases h⟩
    unfold Mb
    simp only[Ls,cond_false,Bool.or_eq_true]
    right;rw[hw];simp
  · unfold inG;rw[ht]
    have n:Ma s.p.ms k.fx f.1 f.2.2.2.2=false:=by rw[Bool.or_eq_false_iff]at b;exact b.2
    refine⟨⟨d.1,x,d.2.1,d.2.2.2.2,d.2.2.2.1⟩,fun i=>?_,fun _=>?_⟩
    · unfold Mb
      show(bif true then !Ma s.p.ms k.fx f.1 f.2.2.2.2 else _)=true
      rw[cond_true,n];rfl
    · have w: ∀t l,(t,l)∈s.p.zs→((t.1=f.1∧l.ext=f.2.2.2.2)↔t=(f.1,k.c.dmz,f.2.2.2.2)):=fun t l g=>by
        have e:=List.any_eq_false.1 hz (t,l) g
        unfold tgQ at e
        rw[Ais]at e
        simp only[Bool.not_eq_true,Bool.not_eq_false',beq_iff_eq]at e
        rw[Bool.eq_iff_iff]at e
        simpa using e
      refine⟨fun l g=>((w _ l g).2 rfl).2,fun t l g o e D=>o<|(w t l g).1 ⟨e,D⟩⟩
end Go.Proofs.YtmonlaoaengfdaaGreatDoor.Oct
