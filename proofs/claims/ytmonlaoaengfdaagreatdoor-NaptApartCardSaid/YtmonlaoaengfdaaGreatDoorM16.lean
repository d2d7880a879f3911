import Derived.Test.YtmonlaoaengfdaaGreatDoorM15
import Derived.Test.YtmonlaoaengfdaaGreatDoorM2
import Derived.Test.YtmonlaoaengfdaaGreatDoorM13
import Derived.Test.YtmonlaoaengfdaaGreatDoorM14
set_option linter.unusedVariables false
set_option linter.unusedSimpArgs false
set_option maxRecDepth 20000
namespace Go.Proofs.YtmonlaoaengfdaaGreatDoor.Oct
open Go.RowKit Base Tryz
attribute [local irreducible] Ys Yc Ht HtS HtIn Wl Wd W Mem pf Ez Wa Wo KW
def Z0(zs:List UInt8)(b c:Nat):List UInt8:=Fh (Fh (Fh (Fh zs 12 (hw b)) 14 (lw b)) 16 (hw c)) 18 (lw c)
def rtL(b c d e:Nat):List (Nat×Nat):=[(hw b,hw d),(lw b,lw d),(hw c,hw e),(lw c,lw e)]
def Wz(zs:List UInt8)(d e b c:Nat):List UInt8:=Fh (Z0 zs b c) 10 (Hm (w2 zs 10) (rtL d e b c))
def rt7(zs:List UInt8)(b c d e nf f:Nat):List UInt8:=Fh (Fh (Wz zs b c d e) 20 nf) 22 f
def rtI(zs:List UInt8)(c d e f b:Nat):List UInt8:=Fh (Fh (Wz zs c d e f) 22 (Hm (w2 zs 22) [(w2 zs 24,b)])) 24 b
def Pl(g:UInt8)(b c h i d e nf f:Nat)(zs:List UInt8):List UInt8:=
  bif isI g then rtI zs b c d e (bif !(Mh (zs.getD 20 0))then f else nf)
  else bif Oz g&&(((w2 zs 26:Nat):Int) !=0)then Fh (rt7 zs b c d e nf f) 26 (Fl (Hm (w2 zs 26) (rtL b c d e++[(h,nf),(i,f)])))
  else bif Ir g&&decide (((zs.length:Nat):Int)≥38)then Fh (rt7 zs b c d e nf f) 36 (Hm (w2 zs 36) (rtL b c d e++[(h,nf),(i,f)]))
  else rt7 zs b c d e nf f
abbrev W0(b nf c d e:Nat)(f:UInt8):List Blk:=[cb e [nV .u8 f.toNat,nV .u32 c,nV .u32 b,nV .u16 nf,nV .u16 d] 47]
abbrev W1(b c d e f:Nat)(g:UInt8):List Blk:=[cb f [nV .u8 g.toNat,nV .u32 d,nV .u32 b,nV .u16 c,nV .u16 e] 47]
abbrev Q2p(b c d:Nat):List Blk:=[cb d [nV .u16 (hw c),nV .u16 (lw c),nV .u16 (hw b),nV .u16 (lw b)] 258]
abbrev Q2q(b c d:Nat):List Blk:=[cb d [nV .u16 (hw c),nV .u16 (lw c),nV .u16 (hw b),nV .u16 (lw b)] 258]
abbrev Q2r:List Value:=[iV .u16 0,iV .u16 0,iV .u16 0,iV .u16 0]
abbrev Q2s(b c:Nat):List Value:=[nV .u16 (hw c),nV .u16 (lw c),nV .u16 (hw b),nV .u16 (lw b)]
abbrev Q2t(b c:Nat):List Value:=[nV .u16 (hw c),nV .u16 (lw c),nV .u16 (hw b),nV .u16 (lw b)]
abbrev Q2u(b nf c d:Nat)(e:UInt8):List Value:=[nV .u8 e.toNat,nV .u32 c,nV .u32 b,nV .u16 nf,nV .u16 d]
abbrev Q2v(b c d e:Nat):List Value:=[nV .u16 (hw e),nV .u16 (hw c),nV .u16 (lw e),nV .u16 (lw c),nV .u16 (hw d),nV .u16 (hw b),nV .u16 (lw d),nV .u16 (lw b)]
set_option maxHeartbeats 2000000 in
theorem Aff(zs:List UInt8)(a:Option Addr)(cap:Nat)(P:UInt8)(d o H I:Nat)(np:UInt8)(c f nf B:Nat)(w:World)(c3:At w a (Cx zs))(h0:28≤zs.length)(hz:zs.length≤1000000)(c4:zs.length≤cap)(d6:d<4294967296)(d7:o<4294967296)(d8:H<65536)(d9:I<65536)(ea:c<4294967296)(eb:f<4294967296)(ec:nf<65536)(ed:B<65536):Calls prog 94 #[sL a zs.length cap,aV [nV .u8 P.toNat,nV .u32 d,nV .u32 o,nV .u16 H,nV .u16 I],aV [nV .u8 np.toNat,nV .u32 c,nV .u32 f,nV .u16 nf,nV .u16 B]] w (Bn w (fun g:FS=>g.ok 1 zs.length∧g.nil=false) (fun g=>.slice g.a zs.length g.cap) [] (fun g=>[g.seg 5 (Cx (Pl P d o H I c f nf B zs))])):=by
 have dr:=c4
 refine Ap (M:=[]) (LL:=[]) (n:=139) func94 rfl rfl A7 (Mem.refl _)<|W.s ?_
 refine Ac<|Af rfl (Bx [nV .u8 P.toNat,nV .u32 d,nV .u32 o,nV .u16 H,nV .u16 I] rfl) fun V=>?_
 refine Af rfl (Bx (Q2u f nf c B np) rfl) fun X=>Ab 1<|Ai<|W.s ?_
 refine Ac<|Ab 1<|Aw rfl (Au [] [0,1] fun R u J=>(Aa6 zs a cap zs.length _ K1 (c3.mem0 u) Ae Ae Ey)) fun A c5=>?_
 obtain⟨C,S⟩:=c5
 refine Ab 1<|Ai<|Aj []<|W.s ?_
 refine E5 [0,2] (Mem w [] [A.seg 5 (mc b8 zs),W0 f nf c B X np,W1 o H d I V P]) Aa Aa (fun _ _ F=>F.drawn _) ?_
 refine Ef (w0:=w) (M:=[]) [0,4,5,7,8,9,18,20] (fun(ax:Nat×Nat)=>[sV A zs.length,pV V 0,pV X 0,sL none 0 0,pL<|some ⟨ax.1,0,none⟩,pL<|some ⟨ax.2,0,none⟩,aV<|Q2s o d,aV (Q2t f c)]) (fun(ax:Nat×Nat)=>True) (fun(ax:Nat×Nat)=>[[cb ax.2 Q2r 258],[cb ax.1 Q2r 258],A.seg 5<|mc b8 zs,W0 f nf c B X np,W1 o H d I V P]) 2 #[true,true,true,true,true,true,false,false] (fun ax ds ee=>?_) fun JD22=>?_
 ·obtain⟨T,U⟩:=ax
  refine A6 (i:=6) Aa<|Cp rfl rfl (A0 T 0 1 0 (Q2s o d) sizeOf258 rfl rfl) (Az [2,3,4]) fun _=>?_
  refine A6 (i:=7) Aa<|Cp rfl rfl (A0 U 0 0 0 (Q2t f c) sizeOf258 rfl rfl) (.inl Aa) fun _=>?_
  refine Ej Aa<|A9<|W.s<|Aj []<|W.block ?_
  refine Jq 5<|Dl fun ef cm=>?_
  refine Aj []<|W.s ?_
  refine Cd Aa<|Ag<|A9<|W.s<|W.block ?_
  refine Aj []<|W.s ?_
  refine C5 [(0,true),(1,true),(2,true),(3,true),(4,false),(5,false),(6,false),(7,false),(8,false),(9,false),(10,false)] [0,1,2,3]<|Bs 8 [(1,0),(0,0)]<|Cj rfl rfl (Bj (mk:=fun b_=>.slice (some ⟨b_,0,none⟩) 1 1) (t:=260) (cs:=[nV .u16 (hw d),nV .u16 (hw c)]) rfl fun _=>kr) (Az [1,2,3,4,5]) fun Y=>Wd.conseq (fun _ F=>Mem.push F)<|Ca rfl rfl (HtS.append (eu:=260) (xv:=sL (some ⟨Y,0,none⟩) 1 1) (i:=0) (g:=FS.nul) (e:=260) (ii:=(prog.info? 260).getD default) (z:=aV [iV .u16 0,iV .u16 0]) (sz:=2) (bytes:=4) (nn:=0) (m:=1) (k:=1) (xs:=[]) (news:=[nV .u16 (hw d),nV .u16 (hw c)]) (cs':=[nV .u16 (hw d),nV .u16 (hw c)]) (Lo:=fun b6=>[b6.seg 260 [nV .u16 (hw d),nV .u16 (hw c)],[cb Y [nV .u16 (hw d),nV .u16 (hw c)] 260],Q2p f c U,Q2q o d T,A.seg 5<|mc b8 zs,W0 f nf c B X np,W1 o H d I V P]) rfl rfl Aa Aa Aa Aa Aa Aa Aa Aa Aa rfl (B6 _) rfl (fun _=>rfl) (Src.at (a:=some ⟨Y,0,none⟩) rfl fun R F=>(A4 (i:=1) (j:=0) (t:=260) (b:=Y) F rfl rfl)) rfl ma3 rfl An An rfl fun _=>rfl) (Az [2,3,4,5,6]) fun b6 cn=>?_
  obtain⟨co,dt,du⟩:=cn
  refine Dh 1 []<|Cl<|Al [0,2,3,4,5,6] An rfl<|Ac ?_
  refine A5 7 [(1,0)] ?_
  obtain⟨bj,L⟩: ∃Z,Fh zs 12 (hw c)=Z:=⟨_,rfl⟩
  have ba:bj.length=zs.length:=(D5 L).trans rfl
  refine Aw rfl (Au [3] [0,1,2,4,5] fun R u J=>(Fo A zs zs.length 12 (hw c) _ _ bj L rfl J C S (Ss rfl h0 An) (St rfl hz) Nb)) fun _u _=>Ai<|Ac<|Ab 2 ?_
  refine Ay<|cm _ _ _<|Dl fun eg cp=>Aj []<|W.s ?_
  refine Cd Aa<|Ag<|A9<|W.s<|W.block ?_
  refine Aj []<|W.s ?_
  refine B3 [(0,true),(1,true),(2,true),(3,true),(4,false),(5,false),(6,false),(7,false),(8,false),(9,false),(10,false)] [0,1,2,3] (Mem w [] [A.seg 5 (mc b8 bj),Q2p f c U,Q2q o d T,W0 f nf c B X np,W1 o H d I V P]) Aa Aa Aa rfl Aa (fun _ _ F=>F.drawn _) (fun _ F=>F.pick [0,2,3,4,5] An rfl)<|Wd.mp 8 [(2,0),(2,0)] [0,2,3,4,5]<|Cj rfl rfl (Bj (mk:=fun b_=>.slice (some ⟨b_,0,none⟩) 1 1) (t:=260) (cs:=[nV .u16 (lw d),nV .u16 (lw c)]) rfl fun _=>kr) (Az [1,3,4,5,6]) fun Y=>Ca rfl rfl (HtS.append (eu:=260) (xv:=sL (some ⟨Y,0,none⟩) 1 1) (i:=2) (g:=b6) (e:=260) (ii:=(prog.info? 260).getD default) (z:=aV [iV .u16 0,iV .u16 0]) (sz:=2) (bytes:=4) (nn:=1) (m:=1) (k:=2) (xs:=[nV .u16 (hw d),nV .u16 (hw c)]) (news:=[nV .u16 (lw d),nV .u16 (lw c)]) (cs':=[nV .u16 (hw d),nV .u16<|hw c,nV .u16<|lw d,nV .u16 (lw c)]) (Lo:=fun b7=>[[cb Y [nV .u16 (lw d),nV .u16 (lw c)] 260],A.seg 5<|mc b8 bj,b7.seg 260 [nV .u16 (hw d),nV .u16<|hw c,nV .u16<|lw d,nV .u16 (lw c)],Q2p f c U,Q2q o d T,W0 f nf c B X np,W1 o H d I V P]) rfl rfl Aa Aa Aa Aa Aa Aa Aa Aa Aa rfl co rfl (fun _=>rfl) (Src.at (a:=some ⟨Y,0,none⟩) rfl fun R F=>(A4 (i:=0) (j:=0) (t:=260) (b:=Y) F rfl rfl)) rfl ma3 rfl An An rfl fun _=>rfl) (Az [1,3,4,5,6]) fun b7 cq=>?_
  obtain⟨cr,dv,dw⟩:=cq
  refine Dh 1 []<|Cl<|Al [1,2,3,4,5,6] An rfl<|Ac ?_
  refine A5 7 [(2,0)] ?_
  obtain⟨bl,N⟩: ∃Z,Fh bj 14 (lw c)=Z:=⟨_,rfl⟩
  have bb:bl.length=zs.length:=(D5 N).trans ba
  refine Aw rfl (Au [0] [1,2,3,4,5] fun R u J=>(Fo A bj zs.length 14 (lw c) _ _ bl N ba.symm J C S (Ss ba h0 An) (St ba hz) Nb)) fun _u _=>Ai<|Ac<|Ab 2 ?_
  refine Ay<|cp _ _ _<|Dl fun eh ct=>Aj []<|W.s ?_
  refine Cd Aa<|Ag<|A9<|W.s<|W.block ?_
  refine Aj []<|W.s ?_
  refine B3 [(0,true),(1,true),(2,true),(3,true),(4,false),(5,false),(6,false),(7,false),(8,false),(9,false),(10,false)] [0,1,2,3] (Mem w [] [A.seg 5 (mc b8 bl),Q2p f c U,Q2q o d T,W0 f nf c B X np,W1 o H d I V P]) Aa Aa Aa rfl Aa (fun _ _ F=>F.drawn _) (fun _ F=>F.pick [0,2,3,4,5] An rfl)<|Wd.mp 8 [(2,0),(2,0)] [0,2,3,4,5]<|Cj rfl rfl (Bj (mk:=fun b_=>.slice (some ⟨b_,0,none⟩) 1 1) (t:=260) (cs:=[nV .u16 (hw o),nV .u16 (hw f)]) rfl fun _=>kr) (Az [1,3,4,5,6]) fun Y=>Ca rfl rfl (HtS.append (eu:=260) (xv:=sL (some ⟨Y,0,none⟩) 1 1) (i:=2) (g:=b7) (e:=260) (ii:=(prog.info? 260).getD default) (z:=aV [iV .u16 0,iV .u16 0]) (sz:=2) (bytes:=4) (nn:=2) (m:=1) (k:=3) (xs:=[nV .u16 (hw d),nV .u16<|hw c,nV .u16<|lw d,nV .u16 (lw c)]) (news:=[nV .u16 (hw o),nV .u16 (hw f)]) (cs':=[nV .u16 (hw d),nV .u16<|hw c,nV .u16<|lw d,nV .u16<|lw c,nV .u16<|hw o,nV .u16 (hw f)]) (Lo:=fun b9=>[[cb Y [nV .u16 (hw o),nV .u16 (hw f)] 260],A.seg 5<|mc b8 bl,b9.seg 260 [nV .u16 (hw d),nV .u16<|hw c,nV .u16<|lw d,nV .u16<|lw c,nV .u16<|hw o,nV .u16 (hw f)],Q2p f c U,Q2q o d T,W0 f nf c B X np,W1 o H d I V P]) rfl rfl Aa Aa Aa Aa Aa Aa Aa Aa Aa rfl cr rfl (fun _=>rfl) (Src.at (a:=some ⟨Y,0,none⟩) rfl fun R F=>(A4 (i:=0) (j:=0) (t:=260) (b:=Y) F rfl rfl)) rfl ma3 rfl An An rfl fun _=>rfl) (Az [1,3,4,5,6]) fun b9 cu=>?_
  obtain⟨cv,dx,dy⟩:=cu
  refine Dh 1 []<|Cl<|Al [1,2,3,4,5,6] An rfl<|Ac ?_
  refine A5 7 [(2,0)] ?_
  obtain⟨bm,O⟩: ∃Z,Fh bl 16 (hw f)=Z:=⟨_,rfl⟩
  have bc:bm.length=zs.length:=(D5 O).trans bb
  refine Aw rfl (Au [0] [1,2,3,4,5] fun R u J=>(Fo A bl zs.length 16 (hw f) _ _ bm O bb.symm J C S (Ss bb h0 An) (St bb hz) Nb)) fun _u _=>Ai<|Ac<|Ab 2 ?_
  refine Ay<|ct _ _ _<|Dl fun ei cw=>Aj []<|W.s ?_
  refine Cd Aa<|Ag<|A9<|W.s<|W.block ?_
  refine Aj []<|W.s ?_
  refine B3 [(0,true),(1,true),(2,true),(3,true),(4,false),(5,false),(6,false),(7,false),(8,false),(9,false),(10,false)] [0,1,2,3] (Mem w [] [A.seg 5 (mc b8 bm),Q2p f c U,Q2q o d T,W0 f nf c B X np,W1 o H d I V P]) Aa Aa Aa rfl Aa (fun _ _ F=>F.drawn _) (fun _ F=>F.pick [0,2,3,4,5] An rfl)<|Wd.mp 8 [(2,0),(2,0)] [0,2,3,4,5]<|Cj rfl rfl (Bj (mk:=fun b_=>.slice (some ⟨b_,0,none⟩) 1 1) (t:=260) (cs:=[nV .u16 (lw o),nV .u16 (lw f)]) rfl fun _=>kr) (Az [1,3,4,5,6]) fun Y=>Ca rfl rfl (HtS.append (eu:=260) (xv:=sL (some ⟨Y,0,none⟩) 1 1) (i:=2) (g:=b9) (e:=260) (ii:=(prog.info? 260).getD default) (z:=aV [iV .u16 0,iV .u16 0]) (sz:=2) (bytes:=4) (nn:=3) (m:=1) (k:=4) (xs:=[nV .u16 (hw d),nV .u16<|hw c,nV .u16<|lw d,nV .u16<|lw c,nV .u16<|hw o,nV .u16 (hw f)]) (news:=[nV .u16 (lw o),nV .u16 (lw f)]) (cs':=(Q2v f c o d)) (Lo:=fun ay=>[[cb Y [nV .u16 (lw o),nV .u16 (lw f)] 260],A.seg 5<|mc b8 bm,ay.seg 260<|Q2v f c o d,Q2p f c U,Q2q o d T,W0 f nf c B X np,W1 o H d I V P]) rfl rfl Aa Aa Aa Aa Aa Aa Aa Aa Aa rfl cv rfl (fun _=>rfl) (Src.at (a:=some ⟨Y,0,none⟩) rfl fun R F=>(A4 (i:=0) (j:=0) (t:=260) (b:=Y) F rfl rfl)) rfl ma3 rfl An An rfl fun _=>rfl) (Az [1,3,4,5,6]) fun ay ca=>?_
  obtain⟨bn,c6,c7⟩:=ca
  refine Dh 1 []<|Cl<|Al [1,2,3,4,5,6] An rfl<|Ac ?_
  refine A5 7 [(2,0)] ?_
  obtain⟨af,D⟩: ∃Z,Fh bm 18 (lw f)=Z:=⟨_,rfl⟩
  have aa:af.length=zs.length:=(D5 D).trans bc
  refine Aw rfl (Au [0] [1,2,3,4,5] fun R u J=>(Fo A bm zs.length 18 (lw f) _ _ af D bc.symm J C S (Ss bc h0 An) (St bc hz) Nb)) fun _u _=>Ai<|Ac<|Ab 2 ?_
  refine Ay<|cw _ _ _<|Dl fun dz c8=>Aj []<|W.s ?_
  refine B4 Aa<|Cm<|A9<|Al [0,1,4,5] An rfl<|W.s ?_
  refine Ac<|Ab 2<|Cb (v:=nV .u16<|w2 zs 10) (A8 fun R u=>(Hn af A.a A.cap 10 zs.length _ ((C8 D An).trans<|(C8 O An).trans<|(C8 N An).trans<|C8 L An) aa.symm (FS.at (i:=0) (t:=5) u rfl<|Ah C<|mcl aa) (Ss aa h0 An) (St aa hz)<|lec aa C.le))<|Ab 1<|Cb (v:=nV .u16<|Hm (w2 zs 10) [((hw d),(hw c)),((lw d),(lw c)),((hw o),(hw f)),((lw o),(lw f))]) (A8 fun R u=>(Kc (w2 zs 10) [((hw d),(hw c)),((lw d),(lw c)),((hw o),(hw f)),((lw o),(lw f))] ay.a 4 ay.cap _ rfl (FS.at (i:=1) (t:=260) u rfl<|Ah bn rfl) Abo (List.forall_mem_cons.2 ⟨⟨F4,F4⟩,(List.forall_mem_cons.2 ⟨⟨F4,F4⟩,(List.forall_mem_cons.2 ⟨⟨F4,F4⟩,(List.forall_mem_cons.2 ⟨⟨F4,F4⟩,(fun _ h=>by cases h)⟩)⟩)⟩)⟩) A7)) ?_
  obtain⟨G,E⟩: ∃Z,Fh af 10 (Hm (w2 zs 10) [((hw d),(hw c)),((lw d),(lw c)),((hw o),(hw f)),((lw o),(lw f))])=Z:=⟨_,rfl⟩
  have q:G.length=zs.length:=(D5 E).trans aa
  refine Aw rfl (Au [0] [1,2,3] fun R u J=>(Fo A af zs.length 10 (Hm (w2 zs 10) [((hw d),(hw c)),((lw d),(lw c)),((hw o),(hw f)),((lw o),(lw f))]) _ _ G E aa.symm J C S (Ss aa h0 An) (St aa hz) Nb)) fun _u _=>Ai<|W.s<|Aj [(3,0)] ?_
  refine Ak (((P.toNat:Nat):Int)==1) Aa (fun bo=>?_) fun az=>?_
  ·have cc:=bo;try simp only[zA]at cc
   refine Aj [(2,0)]<|Al [0,2] An rfl<|W.s<|W.s<|C5 [(0,true),(1,true),(2,true),(3,false),(4,false),(5,false),(6,false),(7,false),(8,true),(9,true),(10,false),(11,false)] [0,1,2,8,9] ?_
   refine B5 1<|Bm (v:=pL<|some<|Cs A.a 20) rfl (Aq (k:=.i64) (a:=A.a) (len:=zs.length) (cap:=A.cap) (i:=20) (sz:=1) rfl Aa Aa runUnderlying38 sizeOf5 Ae Ae<|by rw[Et (S)];rfl)<|Bm (v:=nV .u8<|(zs.getD 20 0).toNat) rfl (Ys.conseq (v:=nV .u8<|(G.getD 20 0).toNat) (Ad<|congrArg (fun x:UInt8=>(x.toNat:Int))<|((((Mo E An).trans<|Mo D An).trans<|Mo O An).trans<|Mo N An).trans<|Mo L An)<|Ys.ld (a:=Cs A.a 20) rfl Aa isAgg5 fun R F=>(FS.at (i:=0) (t:=5) F rfl<|Ah C<|mcl q).ld<|Ft 0 Fp) ?_
   have c9:(G.getD 20 0).toNat<256:=UInt8.toNat_lt _
   refine Bs 1 []<|Gg (v:=pL<|some<|Cs A.a 21) rfl (Aq (k:=.i64) (a:=A.a) (len:=zs.length) (cap:=A.cap) (i:=21) (sz:=1) rfl Aa Aa runUnderlying38 sizeOf5 Ae Ae<|by rw[Et (S)];rfl)<|Gg (v:=nV .u8<|(zs.getD 21 0).toNat) rfl (Ys.conseq (v:=nV .u8<|(G.getD 21 0).toNat) (Ad<|congrArg (fun x:UInt8=>(x.toNat:Int))<|((((Mo E An).trans<|Mo D An).trans<|Mo O An).trans<|Mo N An).trans<|Mo L An)<|Ys.ld (a:=Cs A.a 21) rfl Aa isAgg5 fun R F=>(FS.at (i:=0) (t:=5) F rfl<|Ah C<|mcl q).ld<|Ft 0 Fp) ?_
   have da:(G.getD 21 0).toNat<256:=UInt8.toNat_lt _
   refine Ec (v:=Value.tuple #[bV (Mh<|zs.getD 20 0),bV (Wt (zs.getD 20 0)<|zs.getD 21 0)]) rfl (A8 fun R u=>(Uv (zs.getD 20 0) (zs.getD 21 0) _))<|Bs 5 []<|Cl<|Aj [] ?_
   refine Ak (!(Mh<|zs.getD 20 0)) Aa (fun cx=>?_) fun cy=>?_
   ·refine Ac<|A5 3 [(1,0)]<|Ai<|Al [0] An rfl ?_
    refine Av<|Ab 2<|Cb (v:=nV .u16<|w2 zs 22) (A8 fun R u=>(Hn G A.a A.cap 22 zs.length _ ((C8 E An).trans<|(C8 D An).trans<|(C8 O An).trans<|(C8 N An).trans<|C8 L An) q.symm (FS.at (i:=0) (t:=5) u rfl<|Ah C<|mcl q) (Ss q h0 An) (St q hz)<|lec q C.le))<|Ab 1 ?_
    refine Cb (v:=nV .u16<|w2 zs 24) (A8 fun R u=>(Hn G A.a A.cap 24 zs.length _ ((C8 E An).trans<|(C8 D An).trans<|(C8 O An).trans<|(C8 N An).trans<|C8 L An) q.symm (FS.at (i:=0) (t:=5) u rfl<|Ah C<|mcl q) (Ss q h0 An) (St q hz)<|lec q C.le))<|Ab 2<|Af rfl (Bj (mk:=fun b_=>.slice (some ⟨b_,0,none⟩) 1 1) (t:=260) (cs:=[nV .u16 (w2 zs 24),nV .u16 B]) rfl fun _=>kr) fun bp=>Cb (v:=nV .u16<|Hm (w2 zs 22) [((w2 zs 24),B)]) (A8 fun R u=>(Kc (w2 zs 22) [((w2 zs 24),B)] (some ⟨bp,0,none⟩) 1 1 _ rfl (A4 (i:=0) (j:=0) (t:=260) (b:=bp) u rfl rfl) Abo (List.forall_mem_cons.2 ⟨⟨(by show(w2 zs 24)<_;first|omega|exact Eu _ _),(by show B<_;first|omega|exact Eu _ _)⟩,(fun _ h=>by cases h)⟩) A7)) ?_
    obtain⟨bd,a0⟩: ∃Z,Fh G 22 (Hm (w2 zs 22) [((w2 zs 24),B)])=Z:=⟨_,rfl⟩
    have au:bd.length=zs.length:=(D5 a0).trans q
    refine Aw rfl (Au [1] [0] fun R u J=>(Fo A G zs.length 22 (Hm (w2 zs 22) [((w2 zs 24),B)]) _ _ bd a0 q.symm J C S (Ss q h0 An) (St q hz) Nb)) fun _u _=>Ai<|Al [0] An rfl<|W.s ?_
    refine Ac ?_
    obtain⟨bq,a1⟩: ∃Z,Fh bd 24 B=Z:=⟨_,rfl⟩
    have db:bq.length=zs.length:=(D5 a1).trans au
    refine Ab 2<|Aw rfl (Au [0] [] fun R u J=>(Fo A bd zs.length 24 B _ _ bq a1 au.symm J C S (Ss au h0 An) (St au hz) Nb)) fun _u _=>?_
    refine Ai<|Aj []<|Am rfl ?_
    have ai:Z0 zs c f=af:=by unfold Z0;rw[L,N,O,D]
    have aj:Wz zs d o c f=G:=by unfold Wz rtL;rw[ai];exact E
    have hB:Pl P d o H I c f nf B zs=bq:=by unfold Pl;rw[show isI P=true from bo,cx];simp only[cond_true,cond_false];unfold rtI;rw[aj,a0];exact a1
    exact D9 rfl (Ar<|sV A zs.length) fun R ak=>⟨A,⟨C,S⟩,rfl,(Mem.cast (by rw[hB];rfl)<|ak.pick [0] An rfl)⟩
   ·refine Ag<|A9<|Al [0] An rfl<|Av ?_
    refine Ab 2<|Cb (v:=nV .u16<|w2 zs 22) (A8 fun R u=>(Hn G A.a A.cap 22 zs.length _ ((C8 E An).trans<|(C8 D An).trans<|(C8 O An).trans<|(C8 N An).trans<|C8 L An) q.symm (FS.at (i:=0) (t:=5) u rfl<|Ah C<|mcl q) (Ss q h0 An) (St q hz)<|lec q C.le))<|Ab 1<|Cb (v:=nV .u16<|w2 zs 24) (A8 fun R u=>(Hn G A.a A.cap 24 zs.length _ ((C8 E An).trans<|(C8 D An).trans<|(C8 O An).trans<|(C8 N An).trans<|C8 L An) q.symm (FS.at (i:=0) (t:=5) u rfl<|Ah C<|mcl q) (Ss q h0 An) (St q hz)<|lec q C.le))<|Ab 2 ?_
    refine Af rfl (Bj (mk:=fun b_=>.slice (some ⟨b_,0,none⟩) 1 1) (t:=260) (cs:=[nV .u16 (w2 zs 24),nV .u16 nf]) rfl fun _=>kr) fun bp=>Cb (v:=nV .u16<|Hm (w2 zs 22) [((w2 zs 24),nf)]) (A8 fun R u=>(Kc (w2 zs 22) [((w2 zs 24),nf)] (some ⟨bp,0,none⟩) 1 1 _ rfl (A4 (i:=0) (j:=0) (t:=260) (b:=bp) u rfl rfl) Abo (List.forall_mem_cons.2 ⟨⟨(by show(w2 zs 24)<_;first|omega|exact Eu _ _),(by show nf<_;first|omega|exact Eu _ _)⟩,(fun _ h=>by cases h)⟩) A7)) ?_
    obtain⟨bf,a2⟩: ∃Z,Fh G 22 (Hm (w2 zs 22) [((w2 zs 24),nf)])=Z:=⟨_,rfl⟩
    have av:bf.length=zs.length:=(D5 a2).trans q
    refine Aw rfl (Au [1] [0] fun R u J=>(Fo A G zs.length 22 (Hm (w2 zs 22) [((w2 zs 24),nf)]) _ _ bf a2 q.symm J C S (Ss q h0 An) (St q hz) Nb)) fun _u _=>Ai<|Al [0] An rfl<|W.s ?_
    refine Ac ?_
    obtain⟨bs,a3⟩: ∃Z,Fh bf 24 nf=Z:=⟨_,rfl⟩
    have dc:bs.length=zs.length:=(D5 a3).trans av
    refine Ab 2<|Aw rfl (Au [0] [] fun R u J=>(Fo A bf zs.length 24 nf _ _ bs a3 av.symm J C S (Ss av h0 An) (St av hz) Nb)) fun _u _=>?_
    refine Ai<|Aj []<|Am rfl ?_
    have ai:Z0 zs c f=af:=by unfold Z0;rw[L,N,O,D]
    have aj:Wz zs d o c f=G:=by unfold Wz rtL;rw[ai];exact E
    have hB:Pl P d o H I c f nf B zs=bs:=by unfold Pl;rw[show isI P=true from bo,cy];simp only[cond_true,cond_false];unfold rtI;rw[aj,a2];exact a3
    exact D9 rfl (Ar<|sV A zs.length) fun R ak=>⟨A,⟨C,S⟩,rfl,(Mem.cast (by rw[hB];rfl)<|ak.pick [0] An rfl)⟩
  ·have cd:=az;try simp only[zA]at cd
   refine Ag<|A9<|Av<|A5 3 [(2,0)] ?_
   obtain⟨bg,ab⟩: ∃Z,Fh G 20 nf=Z:=⟨_,rfl⟩
   have aw:bg.length=zs.length:=(D5 ab).trans q
   refine Aw rfl (Au [0] [1,2,3] fun R u J=>(Fo A G zs.length 20 nf _ _ bg ab q.symm J C S (Ss q h0 An) (St q hz) Nb)) fun _u _=>Ai<|Av ?_
   refine A5 3 [(2,0)] ?_
   obtain⟨Q,ad⟩: ∃Z,Fh bg 22 B=Z:=⟨_,rfl⟩
   have r:Q.length=zs.length:=(D5 ad).trans aw
   refine Aw rfl (Au [0] [1,2,3] fun R u J=>(Fo A bg zs.length 22 B _ _ Q ad aw.symm J C S (Ss aw h0 An) (St aw hz) Nb)) fun _u _=>Ai<|Av ?_
   refine A5 11 [(3,0),(2,0),(3,0),(2,0)]<|Af rfl (Bj (mk:=fun b_=>.slice (some ⟨b_,0,none⟩) 2 2) (t:=260) (cs:=[nV .u16 H,nV .u16 nf,nV .u16 I,nV .u16 B]) rfl fun _=>kr) fun bh=>?_
   refine Aw rfl (HtS.append (eu:=260) (xv:=sL (some ⟨bh,0,none⟩) 2 2) (i:=2) (g:=ay) (e:=260) (ii:=(prog.info? 260).getD default) (z:=aV [iV .u16 0,iV .u16 0]) (sz:=2) (bytes:=4) (nn:=4) (m:=2) (k:=6) (xs:=(Q2v f c o d)) (news:=[nV .u16 H,nV .u16 nf,nV .u16 I,nV .u16 B]) (cs':=[nV .u16 (hw d),nV .u16<|hw c,nV .u16<|lw d,nV .u16<|lw c,nV .u16<|hw o,nV .u16<|hw f,nV .u16<|lw o,nV .u16<|lw f,nV .u16 H,nV .u16 nf,nV .u16 I,nV .u16 B]) (Lo:=fun an=>[[cb bh [nV .u16 H,nV .u16 nf,nV .u16 I,nV .u16 B] 260],A.seg 5<|mc b8 Q,an.seg 260 [nV .u16 (hw d),nV .u16<|hw c,nV .u16<|lw d,nV .u16<|lw c,nV .u16<|hw o,nV .u16<|hw f,nV .u16<|lw o,nV .u16<|lw f,nV .u16 H,nV .u16 nf,nV .u16 I,nV .u16 B],W0 f nf c B X np,W1 o H d I V P]) rfl rfl Aa Aa Aa Aa Aa Aa Aa Aa Aa rfl bn rfl (fun _=>rfl) (Src.at (a:=some ⟨bh,0,none⟩) rfl fun R F=>(A4 (i:=0) (j:=0) (t:=260) (b:=bh) F rfl rfl)) rfl ma3 rfl An An rfl fun _=>rfl) fun an ce=>?_
   obtain⟨bt,dd,dg⟩:=ce
   refine Ab 1<|Ai<|Al [1,2,4] An rfl<|W.s ?_
   refine W.block<|W.s ?_
   refine Ac<|A5 4 [(2,0)]<|Da 3 (((P.toNat:Nat):Int)==17) (fun _=>Gs.m 1 []<|Gs.k (v:=nV .u16<|w2 zs 26) (A8 fun R u=>(Hn Q A.a A.cap 26 zs.length _ ((C8 ad An).trans<|(C8 ab An).trans<|(C8 E An).trans<|(C8 D An).trans<|(C8 O An).trans<|(C8 N An).trans<|C8 L An) r.symm (FS.at (i:=0) (t:=5) u rfl<|Ah C<|mcl r) (Ss r h0 An) (St r hz)<|lec r C.le))<|Gs.z [])<|Ao (v:=bV<|((P.toNat:Int)==17)&&(((w2 zs 26:Nat):Int) !=0)) (B9 (e:=(P.toNat:Int)==17) (b:=((w2 zs 26:Nat):Int) !=0) rfl Aa Aa Aa)<|Ab 1 ?_
   refine Ai ?_
   refine Ak (((P.toNat:Int)==17)&&(((w2 zs 26:Nat):Int) !=0)) Aa (fun bu=>?_) fun bw=>?_
   ·have cf:=bu;try simp only[zA]at cf
    refine Av<|Ab 1<|Cb (v:=nV .u16<|w2 zs 26) (A8 fun R u=>(Hn Q A.a A.cap 26 zs.length _ ((C8 ad An).trans<|(C8 ab An).trans<|(C8 E An).trans<|(C8 D An).trans<|(C8 O An).trans<|(C8 N An).trans<|C8 L An) r.symm (FS.at (i:=0) (t:=5) u rfl<|Ah C<|mcl r) (Ss r h0 An) (St r hz)<|lec r C.le))<|Ab 1 ?_
    refine Cb (v:=nV .u16<|Hm (w2 zs 26) [((hw d),(hw c)),((lw d),(lw c)),((hw o),(hw f)),((lw o),(lw f)),(H,nf),(I,B)]) (A8 fun R u=>(Kc (w2 zs 26) [((hw d),(hw c)),((lw d),(lw c)),((hw o),(hw f)),((lw o),(lw f)),(H,nf),(I,B)] an.a 6 an.cap _ rfl (FS.at (i:=1) (t:=260) u rfl<|Ah bt rfl) Abo (List.forall_mem_cons.2 ⟨⟨F4,F4⟩,(List.forall_mem_cons.2 ⟨⟨F4,F4⟩,(List.forall_mem_cons.2 ⟨⟨F4,F4⟩,(List.forall_mem_cons.2 ⟨⟨F4,F4⟩,(List.forall_mem_cons.2 ⟨⟨F4,F4⟩,(List.forall_mem_cons.2 ⟨⟨F4,F4⟩,(fun _ h=>by cases h)⟩)⟩)⟩)⟩)⟩)⟩) A7))<|Ab 1<|Ai<|Al [0] An rfl ?_
    refine W.s<|Aj [] ?_
    refine Ak (((Hm (w2 zs 26) [((hw d),(hw c)),((lw d),(lw c)),((hw o),(hw f)),((lw o),(lw f)),(H,nf),(I,B)]:Nat):Int)==0) Aa (fun bx=>?_) fun b3=>?_
    ·have cg:=bx;try simp only[zA]at cg
     refine Ac<|Ab 1<|Ao (v:=nV .u16<|65535-(Hm (w2 zs 26) [((hw d),(hw c)),((lw d),(lw c)),((hw o),(hw f)),((lw o),(lw f)),(H,nf),(I,B)])) ((Ys.p (v:=.int .u16<|Sw .u16 ((65535:Nat):Int) (Hm (w2 zs 26) [((hw d),(hw c)),((lw d),(lw c)),((hw o),(hw f)),((lw o),(lw f)),(H,nf),(I,B)]:Int))).conseq<|Ad<|Ig rfl Jg 65535 rfl)<|Ab 1<|Ay ?_
     refine A9<|Ac ?_
     obtain⟨bz,a5⟩: ∃Z,Fh Q 26 (65535-(Hm (w2 zs 26) [((hw d),(hw c)),((lw d),(lw c)),((hw o),(hw f)),((lw o),(lw f)),(H,nf),(I,B)]))=Z:=⟨_,rfl⟩
     have dh:bz.length=zs.length:=(D5 a5).trans r
     refine Ab 2<|Aw rfl (Au [0] [] fun R u J=>(Fo A Q zs.length 26 (65535-(Hm (w2 zs 26) [((hw d),(hw c)),((lw d),(lw c)),((hw o),(hw f)),((lw o),(lw f)),(H,nf),(I,B)])) _ _ bz a5 r.symm J C S (Ss r h0 An) (St r hz) Nb)) fun _u _=>?_
     refine Ai<|Aj []<|Am rfl ?_
     have ai:Z0 zs c f=af:=by unfold Z0;rw[L,N,O,D]
     have aj:Wz zs d o c f=G:=by unfold Wz rtL;rw[ai];exact E
     have a6:rt7 zs d o c f nf B=Q:=by unfold rt7;rw[aj,ab];exact ad
     have ch:Fl (Hm (w2 zs 26) (rtL d o c f++[(H,nf),(I,B)]))=(65535-(Hm (w2 zs 26) [((hw d),(hw c)),((lw d),(lw c)),((hw o),(hw f)),((lw o),(lw f)),(H,nf),(I,B)])):=by unfold Fl;rw[if_pos (show Hm (w2 zs 26) (rtL d o c f++[(H,nf),(I,B)])=0 from by have z_:=bx;have y_:=beq_iff_eq.1 z_;exact Int.ofNat.inj y_)];have z_:=bx;have y_:=beq_iff_eq.1 z_;omega
     have hB:Pl P d o H I c f nf B zs=bz:=by unfold Pl;rw[show isI P=false from az,show(Oz P&&(((w2 zs 26:Nat):Int) !=0))=true from bu];simp only[cond_true,cond_false];rw[a6,ch];exact a5
     exact D9 rfl (Ar<|sV A zs.length) fun R ak=>⟨A,⟨C,S⟩,rfl,(Mem.cast (by rw[hB];rfl)<|ak.pick [0] An rfl)⟩
    ·have ci:=b3;try simp only[zA]at ci
     refine Ag<|A9<|Ac ?_
     obtain⟨b0,a7⟩: ∃Z,Fh Q 26 (Hm (w2 zs 26) [((hw d),(hw c)),((lw d),(lw c)),((hw o),(hw f)),((lw o),(lw f)),(H,nf),(I,B)])=Z:=⟨_,rfl⟩
     have di:b0.length=zs.length:=(D5 a7).trans r
     refine Ab 2<|Aw rfl (Au [0] [] fun R u J=>(Fo A Q zs.length 26 (Hm (w2 zs 26) [((hw d),(hw c)),((lw d),(lw c)),((hw o),(hw f)),((lw o),(lw f)),(H,nf),(I,B)]) _ _ b0 a7 r.symm J C S (Ss r h0 An) (St r hz) Nb)) fun _u _=>?_
     refine Ai<|Aj []<|Am rfl ?_
     have ai:Z0 zs c f=af:=by unfold Z0;rw[L,N,O,D]
     have aj:Wz zs d o c f=G:=by unfold Wz rtL;rw[ai];exact E
     have a6:rt7 zs d o c f nf B=Q:=by unfold rt7;rw[aj,ab];exact ad
     have ch:Fl (Hm (w2 zs 26) (rtL d o c f++[(H,nf),(I,B)]))=(Hm (w2 zs 26) [((hw d),(hw c)),((lw d),(lw c)),((hw o),(hw f)),((lw o),(lw f)),(H,nf),(I,B)]):=by unfold Fl;rw[if_neg (show¬Hm (w2 zs 26) (rtL d o c f++[(H,nf),(I,B)])=0 from fun y_=>by have z_:=b3;have x_:=beq_eq_false_iff_ne.1 z_;exact x_ (congrArg (fun n:Nat=>(n:Int)) y_))];rfl
     have hB:Pl P d o H I c f nf B zs=b0:=by unfold Pl;rw[show isI P=false from az,show(Oz P&&(((w2 zs 26:Nat):Int) !=0))=true from bu];simp only[cond_true,cond_false];rw[a6,ch];exact a7
     exact D9 rfl (Ar<|sV A zs.length) fun R ak=>⟨A,⟨C,S⟩,rfl,(Mem.cast (by rw[hB];rfl)<|ak.pick [0] An rfl)⟩
   ·have cj:=bw;try simp only[zA]at cj
    refine Av<|A5 4 [(2,0)]<|Da 3 (((P.toNat:Nat):Int)==6) (fun _=>Gs.z [])<|Ao (v:=bV<|((P.toNat:Int)==6)&&(decide<|((zs.length:Nat):Int)≥38)) (B9 (e:=(P.toNat:Int)==6) (b:=decide<|((zs.length:Nat):Int)≥38) rfl Aa Aa Aa) ?_
    refine Ab 1<|Ai<|Al [0,1] An rfl ?_
    refine Ak (((P.toNat:Int)==6)&&(decide<|((zs.length:Nat):Int)≥38)) Aa (fun b4=>?_) fun b5=>?_
    ·have a8:=b4;try simp only[zA]at a8
     refine Ac<|Ab 2<|Cb (v:=nV .u16<|w2 zs 36) (A8 fun R u=>(Hn Q A.a A.cap 36 zs.length _ ((C8 ad An).trans<|(C8 ab An).trans<|(C8 E An).trans<|(C8 D An).trans<|(C8 O An).trans<|(C8 N An).trans<|C8 L An) r.symm (FS.at (i:=0) (t:=5) u rfl<|Ah C<|mcl r) (Ss r (Int.ofNat_le.1 (show((38:Nat):Int)≤(zs.length:Int) from a8.2)) An) (St r hz)<|lec r C.le))<|Ab 1<|Cb (v:=nV .u16<|Hm (w2 zs 36) [((hw d),(hw c)),((lw d),(lw c)),((hw o),(hw f)),((lw o),(lw f)),(H,nf),(I,B)]) (A8 fun R u=>(Kc (w2 zs 36) [((hw d),(hw c)),((lw d),(lw c)),((hw o),(hw f)),((lw o),(lw f)),(H,nf),(I,B)] an.a 6 an.cap _ rfl (FS.at (i:=1) (t:=260) u rfl<|Ah bt rfl) Abo (List.forall_mem_cons.2 ⟨⟨F4,F4⟩,(List.forall_mem_cons.2 ⟨⟨F4,F4⟩,(List.forall_mem_cons.2 ⟨⟨F4,F4⟩,(List.forall_mem_cons.2 ⟨⟨F4,F4⟩,(List.forall_mem_cons.2 ⟨⟨F4,F4⟩,(List.forall_mem_cons.2 ⟨⟨F4,F4⟩,(fun _ h=>by cases h)⟩)⟩)⟩)⟩)⟩)⟩) A7)) ?_
     obtain⟨b1,a9⟩: ∃Z,Fh Q 36 (Hm (w2 zs 36) [((hw d),(hw c)),((lw d),(lw c)),((hw o),(hw f)),((lw o),(lw f)),(H,nf),(I,B)])=Z:=⟨_,rfl⟩
     have dj:b1.length=zs.length:=(D5 a9).trans r
     refine Aw rfl (Au [0] [1] fun R u J=>(Fo A Q zs.length 36 (Hm (w2 zs 36) [((hw d),(hw c)),((lw d),(lw c)),((hw o),(hw f)),((lw o),(lw f)),(H,nf),(I,B)]) _ _ b1 a9 r.symm J C S (Ss r (Int.ofNat_le.1 (show((38:Nat):Int)≤(zs.length:Int) from a8.2)) An) (St r hz) Nb)) fun _u _=>Ai<|Al [0] An rfl<|Aj [] ?_
     refine Am rfl ?_
     have ai:Z0 zs c f=af:=by unfold Z0;rw[L,N,O,D]
     have aj:Wz zs d o c f=G:=by unfold Wz rtL;rw[ai];exact E
     have a6:rt7 zs d o c f nf B=Q:=by unfold rt7;rw[aj,ab];exact ad
     have hB:Pl P d o H I c f nf B zs=b1:=by unfold Pl;rw[show isI P=false from az,show(Oz P&&(((w2 zs 26:Nat):Int) !=0))=false from bw,show(Ir P&&decide (((zs.length:Nat):Int)≥38))=true from b4];simp only[cond_true,cond_false];rw[a6];exact a9
     exact D9 rfl (Ar<|sV A zs.length) fun R ak=>⟨A,⟨C,S⟩,rfl,(Mem.cast (by rw[hB];rfl)<|ak.pick [0] An rfl)⟩
    ·have ck:=b5;try simp only[zA]at ck
     refine Ag<|A9<|Al [0] An rfl<|Aj []<|Am rfl ?_
     have ai:Z0 zs c f=af:=by unfold Z0;rw[L,N,O,D]
     have aj:Wz zs d o c f=G:=by unfold Wz rtL;rw[ai];exact E
     have a6:rt7 zs d o c f nf B=Q:=by unfold rt7;rw[aj,ab];exact ad
     have hB:Pl P d o H I c f nf B zs=Q:=by unfold Pl;rw[show isI P=false from az,show(Oz P&&(((w2 zs 26:Nat):Int) !=0))=false from bw,show(Ir P&&decide (((zs.length:Nat):Int)≥38))=false from b5];simp only[cond_true,cond_false];rw[a6]
     exact D9 rfl (Ar<|sV A zs.length) fun R ak=>⟨A,⟨C,S⟩,rfl,(Mem.cast (by rw[hB];rfl)<|ak.pick [0] An rfl)⟩
 ·refine Ef (w0:=w) (M:=[]) [0,4,5,7,8,9,18,19] (fun(ag:Nat×Nat)=>[sV A zs.length,pV V 0,pV X 0,sL none 0 0,pL<|some ⟨ag.1,0,none⟩,pL<|some ⟨ag.2,0,none⟩,aV<|Q2s o d,aV (Q2u f nf c B np)]) (fun(ag:Nat×Nat)=>True) (fun(ag:Nat×Nat)=>[[cb ag.2 Q2r 258],[cb ag.1 Q2r 258],A.seg 5<|mc b8 zs,W0 f nf c B X np,W1 o H d I V P]) 3 #[true,true,true,false,true,true,false,false] (fun ag dk d0=>?_) fun JD21=>?_
  ·obtain⟨T,U⟩:=ag
   refine A6 (i:=3) Aa<|Wo.yc (v:=aV<|Q2t f c) rfl rfl rfl (A8 fun R u=>(Lx np c f nf B _ Ae Ae)) (Ee [2,3,4]) ?_
   exact Ck [0,4,5,7,8,9,18,20] [sV A zs.length,pV V 0,pV X 0,sL none 0 0,pV T 0,pV U 0,aV [nV .u16 (hw d),nV .u16<|lw d,nV .u16<|hw o,nV .u16 (lw o)],aV [nV .u16 (hw c),nV .u16<|lw c,nV .u16<|hw f,nV .u16 (lw f)]] #[true,true,true,true,true,true,false,false] (JD22 (T,U) trivial) Aa Aa fun _ F=>F
  ·refine Ef (w0:=w) (M:=[]) [0,4,5,7,9,18,20] (fun(ao:Nat)=>[sV A zs.length,pV V 0,pV X 0,sL none 0 0,pV ao 0,aV<|Q2s o d,aV (Q2t f c)]) (fun(ao:Nat)=>True) (fun(ao:Nat)=>[[cb ao Q2r 258],A.seg 5<|mc b8 zs,W0 f nf c B X np,W1 o H d I V P]) 3 #[true,true,true,true,false,true,false,false] (fun ao dl d1=>?_) fun JD20=>?_
   ·obtain⟨U,rfl⟩: ∃a_,a_=ao:=⟨_,rfl⟩
    refine A6 (i:=4) Aa<|Cp rfl rfl (Ba zeroValue258) (Az [2,3,4]) fun T=>?_
    exact Ck [0,4,5,7,8,9,18,20] [sV A zs.length,pV V 0,pV X 0,sL none 0 0,pV T 0,pV U 0,aV [nV .u16 (hw d),nV .u16<|lw d,nV .u16<|hw o,nV .u16 (lw o)],aV [nV .u16 (hw c),nV .u16<|lw c,nV .u16<|hw f,nV .u16 (lw f)]] #[true,true,true,true,true,true,false,false] (JD22 (T,U) trivial) Aa Aa fun _ F=>F.pick [1,0,2,3,4] An rfl
   ·refine Ef (w0:=w) (M:=[]) [0,4,5,7,8,18,20] (fun(ap:Nat)=>[sV A zs.length,pV V 0,pV X 0,sL none 0 0,pV ap 0,aV<|Q2s o d,aV (Q2t f c)]) (fun(ap:Nat)=>True) (fun(ap:Nat)=>[[cb ap Q2r 258],A.seg 5<|mc b8 zs,W0 f nf c B X np,W1 o H d I V P]) 3 #[true,true,true,true,true,false,false,false] (fun ap dm d2=>?_) fun JD19=>?_
    ·obtain⟨T,rfl⟩: ∃a_,a_=ap:=⟨_,rfl⟩
     refine A6 (i:=5) Aa<|Cp rfl rfl (Ba zeroValue258) (Az [2,3,4]) fun U=>?_
     exact Ck [0,4,5,7,8,9,18,20] [sV A zs.length,pV V 0,pV X 0,sL none 0 0,pV T 0,pV U 0,aV [nV .u16 (hw d),nV .u16<|lw d,nV .u16<|hw o,nV .u16 (lw o)],aV [nV .u16 (hw c),nV .u16<|lw c,nV .u16<|hw f,nV .u16 (lw f)]] #[true,true,true,true,true,true,false,false] (JD22 (T,U) trivial) Aa Aa fun _ F=>F
    ·refine Ef (w0:=w) (M:=[]) [0,4,5,7,8,9,17,19] (fun(ah:Nat×Nat)=>[sV A zs.length,pV V 0,pV X 0,sL none 0 0,pL<|some ⟨ah.1,0,none⟩,pL<|some ⟨ah.2,0,none⟩,aV [nV .u8 P.toNat,nV .u32 d,nV .u32 o,nV .u16 H,nV .u16 I],aV (Q2u f nf c B np)]) (fun(ah:Nat×Nat)=>True) (fun(ah:Nat×Nat)=>[[cb ah.2 Q2r 258],[cb ah.1 Q2r 258],A.seg 5<|mc b8 zs,W0 f nf c B X np,W1 o H d I V P]) 4 #[true,false,true,false,true,true,false,false] (fun ah dn d3=>?_) fun JD18=>?_
     ·obtain⟨T,U⟩:=ah
      refine A6 (i:=1) Aa<|Wo.yc (v:=aV<|Q2s o d) rfl rfl rfl (A8 fun R u=>(Lx P d o H I _ Ae Ae)) (Ee [2,3,4]) ?_
      exact Ck [0,4,5,7,8,9,18,19] [sV A zs.length,pV V 0,pV X 0,sL none 0 0,pV T 0,pV U 0,aV [nV .u16 (hw d),nV .u16<|lw d,nV .u16<|hw o,nV .u16 (lw o)],aV [nV .u8 np.toNat,nV .u32 c,nV .u32 f,nV .u16 nf,nV .u16 B]] #[true,true,true,false,true,true,false,false] (JD21 (T,U) trivial) Aa Aa fun _ F=>F
     ·refine Ef (w0:=w) (M:=[]) [0,4,5,7,9,18,19] (fun(aq:Nat)=>[sV A zs.length,pV V 0,pV X 0,sL none 0 0,pV aq 0,aV<|Q2s o d,aV (Q2u f nf c B np)]) (fun(aq:Nat)=>True) (fun(aq:Nat)=>[[cb aq Q2r 258],A.seg 5<|mc b8 zs,W0 f nf c B X np,W1 o H d I V P]) 4 #[true,true,true,false,false,true,false,false] (fun aq dp d4=>?_) fun JD17=>?_
      ·obtain⟨U,rfl⟩: ∃a_,a_=aq:=⟨_,rfl⟩
       refine C9 (i:=3) (j:=4) Aa ?_ ?_
       ·refine Wo.yc (v:=aV<|Q2t f c) rfl rfl rfl (A8 fun R u=>(Lx np c f nf B _ Ae Ae)) (Ee [1,2,3]) ?_
        exact Ck [0,4,5,7,9,18,20] [sV A zs.length,pV V 0,pV X 0,sL none 0 0,pV U 0,aV [nV .u16 (hw d),nV .u16<|lw d,nV .u16<|hw o,nV .u16 (lw o)],aV [nV .u16 (hw c),nV .u16<|lw c,nV .u16<|hw f,nV .u16 (lw f)]] #[true,true,true,true,false,true,false,false] (JD20 U trivial) Aa Aa fun _ F=>F
       ·refine Cp rfl rfl (Ba zeroValue258) (Az [2,3,4]) fun T=>?_
        exact Ck [0,4,5,7,8,9,18,19] [sV A zs.length,pV V 0,pV X 0,sL none 0 0,pV T 0,pV U 0,aV [nV .u16 (hw d),nV .u16<|lw d,nV .u16<|hw o,nV .u16 (lw o)],aV [nV .u8 np.toNat,nV .u32 c,nV .u32 f,nV .u16 nf,nV .u16 B]] #[true,true,true,false,true,true,false,false] (JD21 (T,U) trivial) Aa Aa fun _ F=>F.pick [1,0,2,3,4] An rfl
      ·refine Ef (w0:=w) (M:=[]) [0,4,5,7,8,18,19] (fun(ar:Nat)=>[sV A zs.length,pV V 0,pV X 0,sL none 0 0,pV ar 0,aV<|Q2s o d,aV (Q2u f nf c B np)]) (fun(ar:Nat)=>True) (fun(ar:Nat)=>[[cb ar Q2r 258],A.seg 5<|mc b8 zs,W0 f nf c B X np,W1 o H d I V P]) 4 #[true,true,true,false,true,false,false,false] (fun ar dq d5=>?_) fun JD16=>?_
       ·obtain⟨T,rfl⟩: ∃a_,a_=ar:=⟨_,rfl⟩
        refine C9 (i:=3) (j:=5) Aa ?_ ?_
        ·refine Wo.yc (v:=aV<|Q2t f c) rfl rfl rfl (A8 fun R u=>(Lx np c f nf B _ Ae Ae)) (Ee [1,2,3]) ?_
         exact Ck [0,4,5,7,8,18,20] [sV A zs.length,pV V 0,pV X 0,sL none 0 0,pV T 0,aV [nV .u16 (hw d),nV .u16<|lw d,nV .u16<|hw o,nV .u16 (lw o)],aV [nV .u16 (hw c),nV .u16<|lw c,nV .u16<|hw f,nV .u16 (lw f)]] #[true,true,true,true,true,false,false,false] (JD19 T trivial) Aa Aa fun _ F=>F
        ·refine Cp rfl rfl (Ba zeroValue258) (Az [2,3,4]) fun U=>?_
         exact Ck [0,4,5,7,8,9,18,19] [sV A zs.length,pV V 0,pV X 0,sL none 0 0,pV T 0,pV U 0,aV [nV .u16 (hw d),nV .u16<|lw d,nV .u16<|hw o,nV .u16 (lw o)],aV [nV .u8 np.toNat,nV .u32 c,nV .u32 f,nV .u16 nf,nV .u16 B]] #[true,true,true,false,true,true,false,false] (JD21 (T,U) trivial) Aa Aa fun _ F=>F
       ·refine Wa.ys (v:=aV [nV .u8 P.toNat,nV .u32 d,nV .u32 o,nV .u16 H,nV .u16 I]) (i:=0) Aa Aa Aa Aa (fun _ F=>F) rfl rfl rfl (F0 V 0 2 0 [nV .u8 P.toNat,nV .u32 d,nV .u32 o,nV .u16 H,nV .u16 I] isAgg47 sizeOf47)<|Wa.ys (v:=aV<|Q2u f nf c B np) (i:=2) Aa Aa Aa Aa (fun _ F=>F) rfl rfl rfl (F0 X 0 1 0 (Q2u f nf c B np) isAgg47 sizeOf47) ?_
        refine Yt (i:=1) (j:=4) (l:=5) Aa ?_ ?_ ?_
        ·refine Wo.yc (v:=aV<|Q2s o d) rfl rfl rfl (A8 fun R u=>(Lx P d o H I _ Ae Ae)) (.inr fun _ F=>F) ?_
         refine Yt (i:=3) (j:=4) (l:=5) Aa ?_ ?_ ?_
         ·refine Wo.yc (v:=aV<|Q2t f c) rfl rfl rfl (A8 fun R u=>(Lx np c f nf B _ Ae Ae)) (.inr fun _ F=>F) ?_
          refine C9 (i:=4) (j:=5) Aa ?_ ?_
          ·refine Cp rfl rfl (Ba zeroValue258) (Az [1,2,3]) fun T=>?_
           exact Ck [0,4,5,7,8,18,20] [sV A zs.length,pV V 0,pV X 0,sL none 0 0,pV T 0,aV [nV .u16 (hw d),nV .u16<|lw d,nV .u16<|hw o,nV .u16 (lw o)],aV [nV .u16 (hw c),nV .u16<|lw c,nV .u16<|hw f,nV .u16 (lw f)]] #[true,true,true,true,true,false,false,false] (JD19 T trivial) Aa Aa fun _ F=>F
          ·refine Cp rfl rfl (Ba zeroValue258) (Az [1,2,3]) fun U=>?_
           exact Ck [0,4,5,7,9,18,20] [sV A zs.length,pV V 0,pV X 0,sL none 0 0,pV U 0,aV [nV .u16 (hw d),nV .u16<|lw d,nV .u16<|hw o,nV .u16 (lw o)],aV [nV .u16 (hw c),nV .u16<|lw c,nV .u16<|hw f,nV .u16 (lw f)]] #[true,true,true,true,false,true,false,false] (JD20 U trivial) Aa Aa fun _ F=>F
         ·refine Cp rfl rfl (Ba zeroValue258) (Az [1,2,3]) fun T=>?_
          exact Ck [0,4,5,7,8,18,19] [sV A zs.length,pV V 0,pV X 0,sL none 0 0,pV T 0,aV [nV .u16 (hw d),nV .u16<|lw d,nV .u16<|hw o,nV .u16 (lw o)],aV [nV .u8 np.toNat,nV .u32 c,nV .u32 f,nV .u16 nf,nV .u16 B]] #[true,true,true,false,true,false,false,false] (JD16 T trivial) Aa Aa fun _ F=>F
         ·refine Cp rfl rfl (Ba zeroValue258) (Az [1,2,3]) fun U=>?_
          exact Ck [0,4,5,7,9,18,19] [sV A zs.length,pV V 0,pV X 0,sL none 0 0,pV U 0,aV [nV .u16 (hw d),nV .u16<|lw d,nV .u16<|hw o,nV .u16 (lw o)],aV [nV .u8 np.toNat,nV .u32 c,nV .u32 f,nV .u16 nf,nV .u16 B]] #[true,true,true,false,false,true,false,false] (JD17 U trivial) Aa Aa fun _ F=>F
        ·refine Cp rfl rfl (Ba zeroValue258) (Az [1,2,3]) fun T=>?_
         refine C9 (i:=1) (j:=5) Aa ?_ ?_
         ·refine Wo.yc (v:=aV<|Q2s o d) rfl rfl rfl (A8 fun R u=>(Lx P d o H I _ Ae Ae)) (Ee [1,2,3]) ?_
          exact Ck [0,4,5,7,8,18,19] [sV A zs.length,pV V 0,pV X 0,sL none 0 0,pV T 0,aV [nV .u16 (hw d),nV .u16<|lw d,nV .u16<|hw o,nV .u16 (lw o)],aV [nV .u8 np.toNat,nV .u32 c,nV .u32 f,nV .u16 nf,nV .u16 B]] #[true,true,true,false,true,false,false,false] (JD16 T trivial) Aa Aa fun _ F=>F
         ·refine Cp rfl rfl (Ba zeroValue258) (Az [2,3,4]) fun U=>?_
          exact Ck [0,4,5,7,8,9,17,19] [sV A zs.length,pV V 0,pV X 0,sL none 0 0,pV T 0,pV U 0,aV [nV .u8 P.toNat,nV .u32 d,nV .u32 o,nV .u16 H,nV .u16 I],aV [nV .u8 np.toNat,nV .u32 c,nV .u32 f,nV .u16 nf,nV .u16 B]] #[true,false,true,false,true,true,false,false] (JD18 (T,U) trivial) Aa Aa fun _ F=>F
        ·refine Cp rfl rfl (Ba zeroValue258) (Az [1,2,3]) fun U=>?_
         refine C9 (i:=1) (j:=4) Aa ?_ ?_
         ·refine Wo.yc (v:=aV<|Q2s o d) rfl rfl rfl (A8 fun R u=>(Lx P d o H I _ Ae Ae)) (Ee [1,2,3]) ?_
          exact Ck [0,4,5,7,9,18,19] [sV A zs.length,pV V 0,pV X 0,sL none 0 0,pV U 0,aV [nV .u16 (hw d),nV .u16<|lw d,nV .u16<|hw o,nV .u16 (lw o)],aV [nV .u8 np.toNat,nV .u32 c,nV .u32 f,nV .u16 nf,nV .u16 B]] #[true,true,true,false,false,true,false,false] (JD17 U trivial) Aa Aa fun _ F=>F
         ·refine Cp rfl rfl (Ba zeroValue258) (Az [2,3,4]) fun T=>?_
          exact Ck [0,4,5,7,8,9,17,19] [sV A zs.length,pV V 0,pV X 0,sL none 0 0,pV T 0,pV U 0,aV [nV .u8 P.toNat,nV .u32 d,nV .u32 o,nV .u16 H,nV .u16 I],aV [nV .u8 np.toNat,nV .u32 c,nV .u32 f,nV .u16 nf,nV .u16 B]] #[true,false,true,false,true,true,false,false] (JD18 (T,U) trivial) Aa Aa fun _ F=>F.pick [1,0,2,3,4] An rfl
theorem P8(b:UInt8)(c d j l e f nf h:Nat)(zs:List UInt8):(Pl b c d j l e f nf h zs).length=zs.length:=by
  have i:(Wz zs c d e f).length=zs.length:=by unfold Wz Z0;simp only[It]
  have g:(rt7 zs c d e f nf h).length=zs.length:=by unfold rt7;simp only[It,i]
  unfold Pl
  cases isI b
  · simp only[cond_false]
    cases(Oz b&&(((w2 zs 26:Nat):Int) !=0))
    · simp only[cond_false]
      cases(Ir b&&decide (((zs.length:Nat):Int)≥38))
      · exact g
      · simp only[cond_true,It,g]
    · simp only[cond_true,It,g]
  · simp only[cond_true];unfold rtI;simp only[It,i]
theorem Aj7{Z:List UInt8}(h:P7 Z=true):inC Z=false:=by
  cases hc:inC Z
  · rfl
  · unfold P7 at h;rw[hc]at h;cases h
theorem Ai6{Z:List UInt8}(h:inC Z=false):28≤Z.length:=by
  unfold inC at h;simp only[Bool.or_eq_false_iff,decide_eq_false_iff_not]at h;omega
theorem Ai7{Z:List UInt8}(h:P7 Z=true)(c:i9 Z 1=false):Sj Z=w2 Z 20∧Sk Z=w2 Z 22:=by
  have d:=Aj7 h
  unfold Sj Sk
  unfold P7 at h
  rw[d]at h⊢
  rw[c]at h⊢
  cases e:i9 Z 6
  · rw[e]at h
    cases b:i9 Z 17
    · rw[b]at h;cases h
    · exact⟨rfl,rfl⟩
  · exact⟨rfl,rfl⟩
theorem Sn(zs:List UInt8){k n p:Nat}(h:p+2≤k∨k+2≤p):w2 (Fh zs k n) p=w2 zs p:=C8 rfl h
structure Re(Z R:List UInt8)(ns nd:Nat):Prop where
  l:R.length=Z.length
  b0:R.getD 0 0=Z.getD 0 0
  b6:w2 R 6=w2 Z 6
  b9:R.getD 9 0=Z.getD 9 0
  a12:a4 R 12=ns
  a16:a4 R 16=nd
theorem Re.put{Z R:List UInt8}{b c:Nat}(h:Re Z R b c){k:Nat}(n:Nat)(d:20≤k):Re Z (Fh R k n) b c:=by
  constructor
  · rw[It];exact h.l
  · rw[Ly _ Ae];exact h.b0
  · rw[Sn _ Ae];exact h.b6
  · rw[Ly _ Ae];exact h.b9
  · unfold a4;rw[Sn _ Ae,Sn _ Ae];exact h.a12
  · unfold a4;rw[Sn _ Ae,Sn _ Ae];exact h.a16
theorem Re.inC{Z R:List UInt8}{b c:Nat}(h:Re Z R b c):inC R=inC Z:=by
  unfold Oct.inC;rw[h.l,h.b0,h.b6]
theorem Re.i9{Z R:List UInt8}{b c:Nat}(h:Re Z R b c)(k:Int):i9 R k=i9 Z k:=by unfold Oct.i9;rw[h.b9]
structure Rf(Z R:List UInt8)(ns nd f t:Nat):Prop where
  o:P7 R=true
  p:Uw R=Uw Z
  s:Mn R 12=ns
  d:Mn R 16=nd
  f:Sj R=f
  t:Sk R=t
theorem Apt{Z R:List UInt8}{d f:Nat}(h:Re Z R d f)(b:P7 Z=true)(c:Oct.i9 Z 1=false):P7 R=true∧Sj R=w2 R 20∧Sk R=w2 R 22:=by
  have e:P7 R=true:=by
    unfold P7 at b⊢
    rw[h.inC,h.i9,h.i9,h.i9]
    rw[c]at b⊢
    exact b
  exact⟨e,Ai7 e<|by rw[h.i9];exact c⟩
structure K3(pr:UInt8)(s d:Nat)(xs:List UInt8):Prop where
  e:Kd pr s d xs=0
  p1:pr=1
  r:mR xs=0
  o:P7 (mD xs)=true
  k:Uy (mT xs 0)=true
  P:Hs pr s d xs=Uw (mD xs)
  S:Gf pr s d xs=Mn (mD xs) 16
  D:Gn pr s d xs=Mn (mD xs) 12
  F:Jd pr s d xs=Sk (mD xs)
  T:Je pr s d xs=Sj (mD xs)
theorem Apu{pr:UInt8}{s d:Nat}{xs:List UInt8}(h:H1 pr s d xs=3):K3 pr s d xs:=by
  have g:Kd pr s d xs=0:=by
    unfold H1 at h
    cases i:N9 pr s d xs
    · rw[i]at h;cases h
    · unfold N9 at i;simpa using i
  have c:=U0 g
  cases Ai3 g with
  |tcp e _ _=>subst e;unfold H1 at h;rw[c]at h;exact absurd h (by show¬((1:Int)=3);decide)
  |udp e _ _=>subst e;unfold H1 at h;rw[c]at h;exact absurd h (by show¬((1:Int)=3);decide)
  |query e j n l _=>subst e;unfold H1 at h;rw[c]at h;have h:Ve xs=3:=h;unfold Ve at h;rw[l]at h;cases h
  |err e j f l _=>
    subst e
    have b:=f
    unfold Mj at b
    simp only[Bool.and_eq_true]at b
    refine⟨g,rfl,j,b.2.2,b.2.1,?_,?_,?_,?_,?_⟩
    · unfold Hs;rw[c];show Kb 1 xs=_;unfold Kb;rw[f];rfl
    · unfold Gf;rw[c];show Mk s 16 xs=_;unfold Mk;rw[f];rfl
    · unfold Gn;rw[c];show Mk d 12 xs=_;unfold Mk;rw[f];rfl
    · unfold Jd;rw[c];show S2 0 xs=_;unfold S2;rw[f];rfl
    · unfold Je;rw[c];show S3 0 xs=_;unfold S3;rw[f];rfl
def rx3(pr:UInt8)(s d:Nat)(xs:List UInt8)(b fd c e:Nat):List UInt8:=mB (mT xs 0) (mT xs 1) (mN xs) (Pl (Hs pr s d xs) (Gn pr s d xs) (Gf pr s d xs) (Je pr s d xs) (Jd pr s d xs) fd b e c (mD xs))
def So(s o f:Nat):Nat:=bif (s:Int)==(o:Int)then f else s
theorem Afg{s o f:Nat}(b:s<4294967296)(c:f<4294967296):So s o f<4294967296:=by unfold So;cases(((s:Nat):Int)==(o:Int))<;>assumption
theorem Aba(zs:List UInt8)(a:Option Addr)(cap:Nat)(j:UInt8)(b c d e:Nat)(C:UInt8)(f h nf i:Nat)(len:Nat)(w:World)(D:len=zs.length)(l:At w a (Cx zs))(E:28≤zs.length)(F:zs.length≤1000000)(n:zs.length≤cap)(o:b<4294967296)(q:c<4294967296)(r:d<65536)(t:e<65536)(u:f<4294967296)(x:h<4294967296)(A:nf<65536)(B:i<65536):Calls prog 94 #[.slice a len cap,Value.agg ([Value.int .u8 (j.toNat:Int),Value.int .u32 (b:Int),Value.int .u32 (c:Int),Value.int .u16 (d:Int),Value.int .u16 (e:Int)]).toArray,Value.agg ([Value.int .u8 (C.toNat:Int),Value.int .u32 (f:Int),Value.int .u32 (h:Int),Value.int .u16 (nf:Int),Value.int .u16 (i:Int)]).toArray] w (Bn w (fun g:FS=>g.ok 1 zs.length∧g.nil=false) (fun g=>.slice g.a zs.length g.cap) [] (fun g=>[g.seg 5 (Cx (Pl j b c d e f h nf i zs))])):=by
  subst D;exact Aff zs a cap j b c d e C f h nf i w l E F n o q r t u x A B
abbrev Q2w(d b s:Nat)(pr:UInt8)(xs:List UInt8):List Blk:=[cb b [nV .u8 ((Hs pr s d xs).toNat),nV .u32 (Gf pr s d xs),nV .u32 (Gn pr s d xs),nV .u16 (Jd pr s d xs),nV .u16 (Je pr s d xs)] 47]
abbrev Q2x(b:Nat):List Blk:=[cb b Oc 40]
abbrev Q2y(fd b c d e:Nat)(f:UInt8):List Blk:=[cb e [nV .u8 f.toNat,nV .u32 c,nV .u32 fd,nV .u16 b,nV .u16 d] 47]
abbrev Q2z(d s:Nat)(pr:UInt8)(xs:List UInt8):List Value:=[nV .u8 ((Hs pr s d xs).toNat),nV .u32 (Gf pr s d xs),nV .u32 (Gn pr s d xs),nV .u16 (Jd pr s d xs),nV .u16 (Je pr s d xs)]
abbrev Q30(d s:Nat)(pr:UInt8)(xs:List UInt8):List Value:=[nV .u8 ((Hs pr s d xs).toNat),nV .u32 (Gn pr s d xs),nV .u32 (Gf pr s d xs),nV .u16 (Je pr s d xs),nV .u16 (Jd pr s d xs)]
theorem Apv(tt pr:UInt8)(D s d:Nat)(xs:List UInt8)(a:Option Addr)(cap:Nat)(u:UInt8)(c fd f h:Nat)(w:World)(G:H1 pr s d xs=3)(ap:Hs pr s d xs=u)(aq:c<4294967296)(ar:fd<4294967296)(bk:f<65536)(bl:h<65536)(U:At w a (Cx xs))(hi:D<65536)(hs:s<4294967296)(hd:d<4294967296)(hl:xs.length≤100000)(bm:xs.length≤cap):Calls prog 45 #[aV [nV .u8 tt.toNat,nV .u8 pr.toNat,nV .u16 D,nV .u32 s,nV .u32 d,sL a xs.length cap],aV [nV .u8 u.toNat,nV .u32 c,nV .u32 fd,nV .u16 f,nV .u16 h]] w (Bn w (fun g:FS=>g.ok 1 (rx3 pr s d xs c fd f h).length) (fun g=>.tuple #[.agg ([nV .u8 tt.toNat,nV .u8 pr.toNat,nV .u16 D,nV .u32 (So s (Gf pr s d xs) c),nV .u32 (So d (Gn pr s d xs) fd),sV g ((rx3 pr s d xs c fd f h).length)]).toArray,.int .i64 0]) [] (fun g=>[g.seg 5 (Cx (rx3 pr s d xs c fd f h))])):=by
 have F:=Apu G;have Q:=Ai6 (Aj7 F.o);have a9:=Aes xs;have ba:=Ae0 xs;have bn:=Ae8 (pr:=pr) (d:=d) (xs:=xs) hs;have bo:=Ae9 (pr:=pr) (s:=s) (xs:=xs) hd;have bp:=Ae7 pr s d xs;have bq:=X9 pr s d xs;have br:=Afg (o:=Gf pr s d xs) hs aq;have bs:=Afg (o:=Gn pr s d xs) hd ar
 refine Ap (M:=[]) (LL:=[]) (n:=167) func45 rfl rfl A7 (Mem.refl _)<|W.s ?_
 refine Ac<|Af rfl (Bx [nV .u8 tt.toNat,nV .u8 pr.toNat,nV .u16 D,nV .u32 s,nV .u32 d,sL a xs.length cap] rfl) fun B=>?_
 refine Af rfl (Bx [nV .u8 u.toNat,nV .u32 c,nV .u32 fd,nV .u16 f,nV .u16 h] rfl) fun I=>Af rfl (Ba zeroValue40) fun C=>?_
 refine Ab 1<|Ai<|Av ?_
 refine A5 1 [(2,0)]<|Cb (v:=Value.tuple #[aV (Q2z d s pr xs),iV .i64<|H1 pr s d xs,iV .i64 (Kd pr s d xs)]) (A8 fun E A=>(Aj0 tt pr D s d xs a cap xs.length _ Af5 (U.mem0 A) Tr Tr Tr Ey Ey))<|Ab 4<|Af rfl (Ba zeroValue47) fun H=>Af rfl (A0 H 0 0 0 (Q2z d s pr xs) sizeOf47 rfl rfl) fun _=>?_
 refine Ab 2<|Ai<|W.s<|W.block ?_
 refine Aj [] ?_
 refine Ak ((Kd pr s d xs) !=0) Aa (fun h8=>?_) fun h9=>?_
 ·(exfalso;have l:=h8;rw[F.e]at l;exact absurd l An)
 ·have au:=h9;try simp only[zA]at au
  refine Aj [(2,0),(0,0)] ?_
  refine Ak (((u.toNat:Nat):Int) !=((Hs pr s d xs).toNat:Int)) Aa (fun V=>?_) fun av=>?_
  ·have X:=V;try simp only[zA]at X
   (exfalso;have l:=V;rw[ap]at l;simp at l)
  ·have Y:=av;try simp only[zA]at Y
   refine Ag<|A9<|W.s<|C5 [(0,true),(1,true),(2,true),(3,true),(4,true),(5,true),(6,false),(7,false),(8,false)] [0,1,2,3,4,5]<|Bs 9 [(3,0),(3,0),(3,0)] ?_
   refine Cl<|W.s ?_
   refine Pm (w0:=w) (M:=[]) _ [2,3,4,6,7,9,10,11] ([pV B 0,pV I 0,pV C 0,pV H 0,iV .i64<|H1 pr s d xs,nV .u32 s,nV .u32 d,sL a xs.length cap]) (True) ([Q2w d H s pr xs,Q2x C,Q2y fd f c h I u,[cb B [nV .u8 tt.toNat,nV .u8 pr.toNat,nV .u16 D,nV .u32<|So s (Gf pr s d xs) c,nV .u32 d,sL a xs.length cap] 40]]) (fun bw L=>?_) fun bx bb=>?_
   ·refine Av<|Ab 3<|C1 4 ((H1 pr s d xs) !=3) (fun _=>Gs.z [(0,0)])<|Ao (v:=bV<|((H1 pr s d xs) !=3)||(((s:Nat):Int)==(Gf pr s d xs:Int))) (Ce (e:=(H1 pr s d xs) !=3) (b:=(s:Int)==(Gf pr s d xs:Int)) rfl Aa Aa Aa) ?_
    refine Ai ?_
    refine Ak (((H1 pr s d xs) !=3)||(((s:Nat):Int)==(Gf pr s d xs:Int))) Aa (fun Z=>?_) fun aa=>?_
    ·have ab:=Z;try simp only[zA]at ab
     refine Ac<|A5 3 [(2,0)]<|Af rfl (Bd B 3 3 0 (nV .u32 c) sizeOf24 rfl rfl) fun _=>Ay ?_
     refine fun E x=>L _ E trivial Aa<|Mem.cast (LL:=[Q2w d H s pr xs,Q2x C,Q2y fd f c h I u,[cb B [nV .u8 tt.toNat,nV .u8 pr.toNat,nV .u16 D,nV .u32 c,nV .u32 d,Value.slice a xs.length cap] 40]]) (by unfold So;rw[show(((s:Nat):Int)==(Gf pr s d xs:Int))=true from by have l:=Z;rw[G]at l;simpa using l];rfl) x
    ·have ad:=aa;try simp only[zA]at ad
     refine Ag ?_
     refine fun E x=>L _ E trivial Aa<|Mem.cast (LL:=[Q2w d H s pr xs,Q2x C,Q2y fd f c h I u,[cb B [nV .u8 tt.toNat,nV .u8 pr.toNat,nV .u16 D,nV .u32 s,nV .u32 d,Value.slice a xs.length cap] 40]]) (by unfold So;rw[show(((s:Nat):Int)==(Gf pr s d xs:Int))=false from by have l:=aa;rw[G]at l;simpa using l];rfl) x
   ·refine A9<|W.s ?_
    refine Pm (w0:=w) (M:=[]) _ [2,3,4,6,7,9,10,11] ([pV B 0,pV I 0,pV C 0,pV H 0,iV .i64<|H1 pr s d xs,nV .u32 s,nV .u32 d,sL a xs.length cap]) (True) ([Q2w d H s pr xs,Q2x C,Q2y fd f c h I u,[cb B [nV .u8 tt.toNat,nV .u8 pr.toNat,nV .u16 D,nV .u32<|So s (Gf pr s d xs) c,nV .u32<|So d (Gn pr s d xs) fd,sL a xs.length cap] 40]]) (fun bz N=>?_) fun b0 bc=>?_
    ·refine Av<|Ab 3<|C1 4 ((H1 pr s d xs) !=3) (fun _=>Gs.z [(0,0)])<|Ao (v:=bV<|((H1 pr s d xs) !=3)||(((d:Nat):Int)==(Gn pr s d xs:Int))) (Ce (e:=(H1 pr s d xs) !=3) (b:=(d:Int)==(Gn pr s d xs:Int)) rfl Aa Aa Aa) ?_
     refine Ai ?_
     refine Ak (((H1 pr s d xs) !=3)||(((d:Nat):Int)==(Gn pr s d xs:Int))) Aa (fun ae=>?_) fun af=>?_
     ·have ag:=ae;try simp only[zA]at ag
      refine Ac<|A5 3 [(2,0)]<|Af rfl (Bd B 4 3 0 (nV .u32 fd) sizeOf24 rfl rfl) fun _=>Ay ?_
      refine fun E x=>N _ E trivial Aa<|Mem.cast (LL:=[Q2w d H s pr xs,Q2x C,Q2y fd f c h I u,[cb B [nV .u8 tt.toNat,nV .u8 pr.toNat,nV .u16 D,nV .u32<|So s (Gf pr s d xs) c,nV .u32 fd,Value.slice a xs.length cap] 40]]) (by unfold So;rw[show(((d:Nat):Int)==(Gn pr s d xs:Int))=true from by have l:=ae;rw[G]at l;simpa using l];rfl) x
     ·have ah:=af;try simp only[zA]at ah
      refine Ag ?_
      refine fun E x=>N _ E trivial Aa<|Mem.cast (LL:=[Q2w d H s pr xs,Q2x C,Q2y fd f c h I u,[cb B [nV .u8 tt.toNat,nV .u8 pr.toNat,nV .u16 D,nV .u32<|So s (Gf pr s d xs) c,nV .u32 d,Value.slice a xs.length cap] 40]]) (by unfold So;rw[show(((d:Nat):Int)==(Gn pr s d xs:Int))=false from by have l:=af;rw[G]at l;simpa using l];rfl) x
    ·refine A9<|W.s ?_
     refine Aj [(3,0)]<|W.block<|Aj [] ?_
     refine Ak (((pr.toNat:Nat):Int)==6) Aa (fun aw=>?_) fun ax=>?_
     ·(exfalso;have l:=aw;rw[F.p1]at l;exact absurd l An)
     ·have ai:=ax;try simp only[zA]at ai
      refine Aj [] ?_
      refine Ak (((pr.toNat:Nat):Int)==17) Aa (fun ay=>?_) fun az=>?_
      ·(exfalso;have l:=ay;rw[F.p1]at l;exact absurd l An)
      ·have aj:=az;try simp only[zA]at aj
       refine Av<|Ab 1<|Aw rfl (Au [] [0,1,2,3] fun E A ak=>(Si xs a cap xs.length _ Af5 (U.mem0 A) Fp Fp)) fun q O=>Ab 3 ?_
       refine Af rfl (Ba zeroValue132) fun r=>Af rfl (A0 r 0 0 0 [nV .u8 ((mT xs 0).toNat),nV .u8<|(mT xs 1).toNat,nV .u32<|mN xs,sV q ((mD xs).length)] sizeOf132 rfl rfl) fun _=>?_
       refine Ab 1<|Ai<|W.s<|Aj [] ?_
       refine Ak ((H1 pr s d xs)==3) Aa (fun a0=>?_) fun a1=>?_
       ·have al:=a0;try simp only[zA]at al
        refine E5 [0,2,4,7] (Mem w [] [q.seg 5 (mc b8<|mD xs),Q2w d H s pr xs,Q2x C,Q2y fd f c h I u,[cb B [nV .u8 tt.toNat,nV .u8 pr.toNat,nV .u16 D,nV .u32<|So s (Gf pr s d xs) c,nV .u32<|So d (Gn pr s d xs) fd,sL a xs.length cap] 40]]) Aa Aa (fun _ _ x=>x.drawn _) ?_
        refine Ef (w0:=w) (M:=[]) [2,4,16,77,79,81] (fun(R:Unit)=>[pV B 0,pV C 0,pV r 0,sV q<|(mD xs).length,aV<|Q30 d s pr xs,aV [nV .u8 u.toNat,nV .u32 fd,nV .u32 c,nV .u16 h,nV .u16 f]]) (fun(R:Unit)=>True) (fun(R:Unit)=>[[cb r [nV .u8 ((mT xs 0).toNat),nV .u8<|(mT xs 1).toNat,nV .u32<|mN xs,sV q ((mD xs).length)] 132],q.seg 5<|mc b8<|mD xs,Q2w d H s pr xs,Q2x C,Q2y fd f c h I u,[cb B [nV .u8 tt.toNat,nV .u8 pr.toNat,nV .u16 D,nV .u32<|So s (Gf pr s d xs) c,nV .u32<|So d (Gn pr s d xs) fd,sL a xs.length cap] 40]]) 3 #[true,true,true,true,true,true,false,false,false] (fun R bd b1=>?_) fun JD72=>?_
        ·refine A6 (i:=6) Aa ?_
         have bf:(Pl (Hs pr s d xs) (Gn pr s d xs) (Gf pr s d xs) (Je pr s d xs) (Jd pr s d xs) fd c h f (mD xs)).length=(mD xs).length:=P8 ..
         refine B7 rfl rfl (Au [] [0,1,2,3,4,5] fun E A ak=>(Aba (mD xs) q.a q.cap (Hs pr s d xs) (Gn pr s d xs) (Gf pr s d xs) (Je pr s d xs) (Jd pr s d xs) u fd c h f ((mD xs).length) _ Af5 (FS.at (i:=1) (t:=5) A rfl<|Ah O<|Bo _) Q Ae (by have l:=O.le;first|exact l|omega|(simp at l⊢;omega)) (by first|omega|assumption) (by first|omega|assumption) (by first|omega|assumption) (by first|omega|assumption) (by first|omega|assumption) (by first|omega|assumption) (by first|omega|assumption)<|by first|omega|assumption)) (Az [2,3,4,5,6]) fun S am=>?_
         obtain⟨P,bg⟩:=am
         refine Wa.ys (v:=pV r 3) (i:=7) Aa Aa Aa Aa (fun _ x=>x.pick [2,3,4,5,6] An rfl) rfl rfl rfl (Ys.p)<|A6 (i:=8) Aa<|Cp rfl rfl (Bd r 3 1 0 (sV S<|(mD xs).length) sizeOf38 rfl rfl) (.inl Aa) fun _=>Ej Aa<|A9 ?_
         refine Al [0,1,4,6] An rfl<|Ac<|A5 1 [(1,0)] ?_
         have bh:=Aeq (mT xs 0) (mT xs 1) (mN xs) (Pl (Hs pr s d xs) (Gn pr s d xs) (Gf pr s d xs) (Je pr s d xs) (Jd pr s d xs) fd c h f (mD xs))
         refine Aw rfl (Au [] [0,1,2,3] fun E A ak=>(Sh (mT xs 0) (mT xs 1) (mN xs) (Pl (Hs pr s d xs) (Gn pr s d xs) (Gf pr s d xs) (Je pr s d xs) (Jd pr s d xs) fd c h f<|mD xs) S.a S.cap ((mD xs).length) _ Af5 (FS.at (i:=0) (t:=5) A rfl<|Ah P<|by rw[Du,P8,Nat.mul_one]) (by first|omega|exact Nat.or_lt_two_pow (n:=32) Ae Ae) Ey (by have l:=P.le;first|exact l|omega|(simp at l⊢;omega)))) fun J an=>Ab 4<|Af rfl (Bd B 5 4 0 (sV J<|(mB (mT xs 0) (mT xs 1) (mN xs)<|Pl (Hs pr s d xs) (Gn pr s d xs) (Gf pr s d xs) (Je pr s d xs) (Jd pr s d xs) fd c h f<|mD xs).length) sizeOf38 rfl rfl) fun _=>Ab 1<|Ay ?_
         refine A9<|Al [0,3,4] An rfl<|W.s<|Aj [] ?_
         refine Ak ((uE (Pl (Hs pr s d xs) (Gn pr s d xs) (Gf pr s d xs) (Je pr s d xs) (Jd pr s d xs) fd c h f<|mD xs).length) !=0) Aa (fun a2=>?_) fun a3=>?_
         ·(exfalso;have l:=a2;rw[P8,U2]at l;exact absurd l An)
         ·have ao:=a3;try simp only[zA]at ao
          refine Ag<|A9<|Av<|A5 1 [(2,0)] ?_
          refine Af rfl (A0 C 0 1 0 [nV .u8 tt.toNat,nV .u8 pr.toNat,nV .u16 D,nV .u32<|So s (Gf pr s d xs) c,nV .u32<|So d (Gn pr s d xs) fd,sV J ((mB (mT xs 0) (mT xs 1) (mN xs)<|Pl (Hs pr s d xs) (Gn pr s d xs) (Gf pr s d xs) (Je pr s d xs) (Jd pr s d xs) fd c h f<|mD xs).length)] sizeOf40 rfl rfl) fun _=>Ab 1<|Ai<|Al [0,1] An rfl ?_
          refine Am rfl ?_
          have hB:rx3 pr s d xs c fd f h=mB (mT xs 0) (mT xs 1) (mN xs) (Pl (Hs pr s d xs) (Gn pr s d xs) (Gf pr s d xs) (Je pr s d xs) (Jd pr s d xs) fd c h f (mD xs)):=rfl
          exact E2 rfl (Bu C 0 1 0 [nV .u8 tt.toNat,nV .u8 pr.toNat,nV .u16 D,nV .u32<|So s (Gf pr s d xs) c,nV .u32<|So d (Gn pr s d xs) fd,sV J ((mB (mT xs 0) (mT xs 1) (mN xs)<|Pl (Hs pr s d xs) (Gn pr s d xs) (Gf pr s d xs) (Je pr s d xs) (Jd pr s d xs) fd c h f<|mD xs).length)] isAgg40 sizeOf40) (Ar<|iV .i64 0) fun E a6=>⟨J,(by rw[hB];exact an),Eo<|(by rw[hB]),(Mem.cast (by rw[hB];rfl)<|a6.pick [0] An rfl)⟩
        ·refine Ef (w0:=w) (M:=[]) [2,4,16,77,79,80] (fun(T:Unit)=>[pV B 0,pV C 0,pV r 0,sV q<|(mD xs).length,aV<|Q30 d s pr xs,aV [nV .u8 u.toNat,nV .u32 c,nV .u32 fd,nV .u16 f,nV .u16 h]]) (fun(T:Unit)=>True) (fun(T:Unit)=>[[cb r [nV .u8 ((mT xs 0).toNat),nV .u8<|(mT xs 1).toNat,nV .u32<|mN xs,sV q ((mD xs).length)] 132],q.seg 5<|mc b8<|mD xs,Q2w d H s pr xs,Q2x C,Q2y fd f c h I u,[cb B [nV .u8 tt.toNat,nV .u8 pr.toNat,nV .u16 D,nV .u32<|So s (Gf pr s d xs) c,nV .u32<|So d (Gn pr s d xs) fd,sL a xs.length cap] 40]]) 4 #[true,true,true,true,true,false,false,false,false] (fun T bi bj=>?_) fun JD70=>?_
         ·refine A6 (i:=5) Aa<|Wo.yc (v:=aV [nV .u8 u.toNat,nV .u32 fd,nV .u32 c,nV .u16 h,nV .u16 f]) rfl rfl rfl (A8 fun E A=>(M5 u c fd f h _)) (Ee [1,2,3,4,5]) ?_
          exact Ck [2,4,16,77,79,81] [pV B 0,pV C 0,pV r 0,sV q<|(mD xs).length,aV [nV .u8 ((Hs pr s d xs).toNat),nV .u32<|Gn pr s d xs,nV .u32<|Gf pr s d xs,nV .u16<|Je pr s d xs,nV .u16 (Jd pr s d xs)],aV [nV .u8 u.toNat,nV .u32 fd,nV .u32 c,nV .u16 h,nV .u16 f]] #[true,true,true,true,true,true,false,false,false] (JD72 () trivial) Aa Aa fun _ x=>x
         ·refine Wa.ys (v:=pV r 3) (i:=0) Aa Aa Aa Aa (fun _ x=>x.pick [1,2,3,4,5] An rfl) rfl rfl rfl (Ys.p)<|Wa.ys (v:=aV<|Q2z d s pr xs) (i:=2) Aa Aa Aa Aa (fun _ x=>x.pick [1,2,3,4,5] An rfl) rfl rfl rfl (F0 H 0 1 0 (Q2z d s pr xs) isAgg47 sizeOf47)<|Wa.ys (v:=aV [nV .u8 u.toNat,nV .u32 c,nV .u32 fd,nV .u16 f,nV .u16 h]) (i:=4) Aa Aa Aa Aa (fun _ x=>x.pick [1,2,3,4,5] An rfl) rfl rfl rfl (F0 I 0 3 0 [nV .u8 u.toNat,nV .u32 c,nV .u32 fd,nV .u16 f,nV .u16 h] isAgg47 sizeOf47) ?_
          refine C9 (i:=1) (j:=3) Aa ?_ ?_
          ·refine Wo.yc (v:=sV q<|(mD xs).length) rfl rfl rfl (Ys.yc<|Cn r 3 0 0 isAgg38) (Ee [1,2,3,4,5])<|A6 (i:=3) Aa<|Wo.yc (v:=aV<|Q30 d s pr xs) rfl rfl rfl (A8 fun E A=>(M5 (Hs pr s d xs) (Gf pr s d xs) (Gn pr s d xs) (Jd pr s d xs) (Je pr s d xs) _)) (Ee [1,2,3,4,5]) ?_
           exact Ck [2,4,16,77,79,80] [pV B 0,pV C 0,pV r 0,sV q<|(mD xs).length,aV [nV .u8 ((Hs pr s d xs).toNat),nV .u32<|Gn pr s d xs,nV .u32<|Gf pr s d xs,nV .u16<|Je pr s d xs,nV .u16 (Jd pr s d xs)],aV [nV .u8 u.toNat,nV .u32 c,nV .u32 fd,nV .u16 f,nV .u16 h]] #[true,true,true,true,true,false,false,false,false] (JD70 () trivial) Aa Aa fun _ x=>x
          ·refine Wo.yc (v:=aV<|Q30 d s pr xs) rfl rfl rfl (A8 fun E A=>(M5 (Hs pr s d xs) (Gf pr s d xs) (Gn pr s d xs) (Jd pr s d xs) (Je pr s d xs) _)) (Ee [1,2,3,4,5]) ?_
           refine C9 (i:=1) (j:=5) Aa ?_ ?_
           ·refine Wo.yc (v:=sV q<|(mD xs).length) rfl rfl rfl (Ys.yc<|Cn r 3 0 0 isAgg38) (Ee [1,2,3,4,5]) ?_
            exact Ck [2,4,16,77,79,80] [pV B 0,pV C 0,pV r 0,sV q<|(mD xs).length,aV [nV .u8 ((Hs pr s d xs).toNat),nV .u32<|Gn pr s d xs,nV .u32<|Gf pr s d xs,nV .u16<|Je pr s d xs,nV .u16 (Jd pr s d xs)],aV [nV .u8 u.toNat,nV .u32 c,nV .u32 fd,nV .u16 f,nV .u16 h]] #[true,true,true,true,true,false,false,false,false] (JD70 () trivial) Aa Aa fun _ x=>x
           ·refine Wo.yc (v:=aV [nV .u8 u.toNat,nV .u32 fd,nV .u32 c,nV .u16 h,nV .u16 f]) rfl rfl rfl (A8 fun E A=>(M5 u c fd f h _)) (Ee [1,2,3,4,5])<|A6 (i:=1) Aa<|Wo.yc (v:=sV q<|(mD xs).length) rfl rfl rfl (Ys.yc<|Cn r 3 0 0 isAgg38) (Ee [1,2,3,4,5]) ?_
            exact Ck [2,4,16,77,79,81] [pV B 0,pV C 0,pV r 0,sV q<|(mD xs).length,aV [nV .u8 ((Hs pr s d xs).toNat),nV .u32<|Gn pr s d xs,nV .u32<|Gf pr s d xs,nV .u16<|Je pr s d xs,nV .u16 (Jd pr s d xs)],aV [nV .u8 u.toNat,nV .u32 fd,nV .u32 c,nV .u16 h,nV .u16 f]] #[true,true,true,true,true,true,false,false,false] (JD72 () trivial) Aa Aa fun _ x=>x
       ·(exfalso;have l:=a1;rw[G]at l;exact absurd l An)
open Conf (Fwd fwv)
def Ya(pr:UInt8)(s d:Nat)(xs:List UInt8):Int:=bif Ir pr then((tL s d xs).toNat:Int)else 0
def bgA(pr:UInt8)(s d:Nat)(xs:List UInt8):Bool:= !Ir pr||((Dw .u8 (Ya pr s d xs) 22)==2)
theorem Wv(tt pr:UInt8)(g s d:Nat)(xs:List UInt8)(a:Option Addr)(cap:Nat)(w:World)(i:At w a (Cx xs))(B:g<65536)(C:s<4294967296)(D:d<4294967296)(E:xs.length≤100000)(t:xs.length≤cap):Calls prog 88 #[aV [nV .u8 tt.toNat,nV .u8 pr.toNat,nV .u16 g,nV .u32 s,nV .u32 d,sL a xs.length cap]] w (Df w (.tuple #[.int .u8 (Ya pr s d xs),.bool (Ir pr)])):=by
 refine Ap (M:=[]) (LL:=[]) (n:=21) func88 rfl rfl A7 (Mem.refl _)<|W.s ?_
 refine Ac<|Af rfl (Bx [nV .u8 tt.toNat,nV .u8 pr.toNat,nV .u16 g,nV .u32 s,nV .u32 d,sL a xs.length cap] rfl) fun F=>?_
 refine Ab 2<|Ai<|W.s<|Aj [(0,0)] ?_
 refine Ak (((pr.toNat:Nat):Int) !=6) Aa (fun u=>?_) fun o=>?_
 ·refine Aj []<|Al [] An rfl<|Am rfl ?_
  have c:Ir pr=false:=by have e:(!Ir pr)=true:=u;cases h:Ir pr<;>rw[h]at e<;>first|rfl|cases e
  exact L1 rfl (Ar<|iV .u8 0) (Ar<|bV false)<|by unfold Ya;rw[c];rfl
 ·have j:=o;try simp only[zA]at j
  refine Ag<|A9<|Av<|A5 6 [(0,0),(0,0),(0,0)] ?_
  refine Aw rfl (Au [] [0] fun G l x=>(Uz s d xs a cap xs.length _ K1 (i.mem0 l) Ae Ae Fp Fp)) fun b f=>?_
  obtain⟨q,r⟩:=f
  refine Ab 3<|Af rfl (Ba zeroValue126) fun A=>?_
  refine Af rfl (A0 A 0 0 0 [nV .u16 (tF s d xs 0),nV .u16<|tF s d xs 2,nV .u32<|tW s d xs 4,nV .u32<|tW s d xs 8,nV .u8<|(tL s d xs).toNat,nV .u16<|tF s d xs 14,nV .u16<|tF s d xs 18,sL b.1.a ((tO s d xs).length) b.1.cap,sL b.2.a ((tD s d xs).length) b.2.cap] sizeOf126 rfl rfl) fun _=>Ab 1<|Ai<|Al [0,1,2] An rfl ?_
  refine Aj [(0,0)]<|Al [] An rfl<|Am rfl ?_
  have c:Ir pr=true:=by have e:(!Ir pr)=false:=o;cases h:Ir pr<;>rw[h]at e<;>first|rfl|cases e
  exact L1 rfl (Ar<|nV .u8<|(tL s d xs).toNat) (Ar<|bV true)<|by unfold Ya;rw[c];rfl
theorem Abb(tt pr:UInt8)(f s d:Nat)(xs:List UInt8)(a:Option Addr)(cap:Nat)(w:World)(g:At w a (Cx xs))(i:f<65536)(j:s<4294967296)(l:d<4294967296)(o:xs.length≤100000)(h:xs.length≤cap):Calls prog 99 #[aV [nV .u8 tt.toNat,nV .u8 pr.toNat,nV .u16 f,nV .u32 s,nV .u32 d,sL a xs.length cap]] w (Df w (.bool (bgA pr s d xs))):=by
 refine Ap (M:=[]) (LL:=[]) (n:=16) func99 rfl rfl A7 (Mem.refl _)<|W.s ?_
 refine Ac<|Af rfl (Bx [nV .u8 tt.toNat,nV .u8 pr.toNat,nV .u16 f,nV .u32 s,nV .u32 d,sL a xs.length cap] rfl) fun r=>?_
 refine Ab 1<|Ai<|Av ?_
 refine A5 1 [(0,0)]<|Cb (v:=Value.tuple #[iV .u8 (Ya pr s d xs),bV (Ir pr)]) (A8 fun q c=>(Wv tt pr f s d xs a cap _ (g.mem0 c) i j l o h))<|Ab 5<|Ai ?_
 refine Al [] An rfl<|W.s ?_
 refine Ac<|Ab 3<|C1 2 (!(Ir pr)) (fun _=>Gs.m 1 []<|Gs.k (v:=bV<|(Dw .u8 (Ya pr s d xs) 22)==2) (A8 fun q c=>(Adx (Ya pr s d xs) _)) Gs.nil)<|Ao (v:=bV<|(!(Ir pr))||((Dw .u8 (Ya pr s d xs) 22)==2)) (Ce (e:= !(Ir pr)) (b:=(Dw .u8 (Ya pr s d xs) 22)==2) rfl Aa Aa Aa)<|Ab 1 ?_
 refine Ai<|Am rfl<|D7 rfl (Ar<|bV<|(!(Ir pr))||((Dw .u8 (Ya pr s d xs) 22)==2)) rfl
def rwY(pr:UInt8)(s d:Nat)(xs:List UInt8)(g:Ci):Int:=bif H1 pr s d xs==3 then 0 else Zz pr s d xs (Hs pr s d xs)
section
variable {w:World}{M:List Nat}{tt pr:UInt8}{id s d:Nat}{xs:List UInt8}{a:Option Addr}{cap:Nat}
theorem U3(c:At w a (Cx xs))(e:0<(Cx xs).length→(a.getD default).block∉M)(g:id<65536)(h:s<4294967296)(i:d<4294967296)(j:xs.length≤100000)(f:xs.length≤cap): ∀LL b,Mem w M LL b→Calls prog 41 #[O6 (((tt.toNat:Nat):Int)) (((pr.toNat:Nat):Int)) (id:Int) (s:Int) (d:Int) a xs.length cap] b (Df b (.tuple #[.agg [.int .u8 ((Hs pr s d xs).toNat:Int),.int .u32 (Gf pr s d xs:Int),.int .u32 (Gn pr s d xs:Int),.int .u16 (Jd pr s d xs:Int),.int .u16 (Je pr s d xs:Int)].toArray,.int .i64 (H1 pr s d xs),.int .i64 (Kd pr s d xs)])):=fun LL b l=>Apn tt pr id s d xs a cap b (c.mem' l e) g h i j f
theorem U4(c:At w a (Cx xs))(e:0<(Cx xs).length→(a.getD default).block∉M)(g:id<65536)(h:s<4294967296)(i:d<4294967296)(j:xs.length≤100000)(f:xs.length≤cap): ∀LL b,Mem w M LL b→Calls prog 99 #[O6 (((tt.toNat:Nat):Int)) (((pr.toNat:Nat):Int)) (id:Int) (s:Int) (d:Int) a xs.length cap] b (Df b (.bool (bgA pr s d xs))):=fun LL b l=>Abb tt pr id s d xs a cap b (c.mem' l e) g h i j f
theorem U5(c:At w a (Cx xs))(e:0<(Cx xs).length→(a.getD default).block∉M)(g:id<65536)(h:s<4294967296)(i:d<4294967296)(j:xs.length≤100000)(f:xs.length≤cap): ∀LL b,Mem w M LL b→Calls prog 88 #[O6 (((tt.toNat:Nat):Int)) (((pr.toNat:Nat):Int)) (id:Int) (s:Int) (d:Int) a xs.length cap] b (Df b (.tuple #[.int .u8 (Ya pr s d xs),.bool (Ir pr)])):=fun LL b l=>Wv tt pr id s d xs a cap b (c.mem' l e) g h i j f
theorem U6(c:At w a (Cx xs))(e:0<(Cx xs).length→(a.getD default).block∉M)(g:xs.length≤100000)(f:xs.length≤cap): ∀LL b,Mem w M LL b→Calls prog 42 #[O6 (((tt.toNat:Nat):Int)) (((pr.toNat:Nat):Int)) (id:Int) (s:Int) (d:Int) a xs.length cap] b (Df b (.bool ((((mT xs 0).toNat:Nat):Int) !=0))):=fun LL b h=>Aeu _ _ _ _ _ xs a cap b (c.mem' h e) g f
theorem P9(b:s<4294967296)(c:d<4294967296):RngFl ((((Hs pr s d xs).toNat:Nat):Int),(Gf pr s d xs:Int),(Gn pr s d xs:Int),(Jd pr s d xs:Int),(Je pr s d xs:Int)):=by
  have e:=UInt8.toNat_lt (Hs pr s d xs);have f:=Ae8 (pr:=pr) (d:=d) (xs:=xs) b;have g:=Ae9 (pr:=pr) (s:=s) (xs:=xs) c;have h:=Ae7 pr s d xs;have i:=X9 pr s d xs
  refine⟨⟨?_,?_⟩,⟨?_,?_⟩,⟨?_,?_⟩,⟨?_,?_⟩,?_,?_⟩<;>(show _≤_;dsimp only;omega)
theorem U7(f:At w a (Cx xs))(i:0<(Cx xs).length→(a.getD default).block∉M)(n:id<65536)(o:s<4294967296)(q:d<4294967296)(r:xs.length≤100000)(j:xs.length≤cap): ∀g LL c,Mem w M LL c→RngFl g→g.1=((Hs pr s d xs).toNat:Int)→Calls prog 45 #[O6 (((tt.toNat:Nat):Int)) (((pr.toNat:Nat):Int)) (id:Int) (s:Int) (d:Int) a xs.length cap,flV g] c (Bn c (fun x:PkV×List Blk=>True) (fun x=>.tuple #[x.1.v,.int .i64 (rwY pr s d xs g)]) [] (fun x=>[x.2])):=fun g LL c t E u=>by
  obtain⟨P,Q,R,S,T⟩:=g
  obtain⟨⟨U,V⟩,⟨F,b2⟩,⟨G,H⟩,⟨a4,I⟩,⟨J,L⟩⟩:=E
  obtain⟨A,rfl⟩:=Int.eq_ofNat_of_zero_le F
  obtain⟨B,rfl⟩:=Int.eq_ofNat_of_zero_le G
  obtain⟨C,rfl⟩:=Int.eq_ofNat_of_zero_le a4
  obtain⟨D,rfl⟩:=Int.eq_ofNat_of_zero_le J
  simp only at u b2 H I L
  subst u
  by_cases l:H1 pr s d xs=3
  · have h:=Apv tt pr id s d xs a cap (Hs pr s d xs) A B C D c l rfl Ae Ae Ae Ae (f.mem' t i) n o q r j
    refine Calls.mono h ?_
    rintro e N ⟨x,O,rfl,b⟩
    exact⟨(⟨(tt.toNat:Int),(pr.toNat:Int),(id:Int),_,_,x.a,_,x.cap⟩,_),trivial,(by unfold rwY;rw[l];rfl),b⟩
  · have h:=Apr tt pr id s d xs a cap (Hs pr s d xs) A B C D c l Ae Ae Ae Ae (f.mem' t i) n o q r j
    refine Calls.mono h ?_
    rintro e N ⟨x,O,rfl,b⟩
    exact⟨(⟨_,_,_,_,_,x.a,_,x.cap⟩,_),trivial,(by unfold rwY;rw[beq_false_of_ne l];rfl),b⟩
end
structure Cll where
  kd:Int
  (tt pr:UInt8)
  (id s d:Nat)
  a:Option Addr
  cap:Nat
  xs:List UInt8
  (tick draw:Nat)
  ma:Option Addr
  mc:Nat
  mp:List Mpg
abbrev O8(x:Cll):List Value:=[iV .i64 (x.kd),nV .u8 (x.tt.toNat),nV .u8 (x.pr.toNat),nV .u16 (x.id),nV .u32 (x.s),nV .u32 (x.d),Value.slice x.a x.xs.length x.cap,nV .u64 (x.tick),nV .u64 (x.draw),Value.slice x.ma x.mp.length x.mc]
abbrev A3:Cll:=⟨0,0,0,0,0,0,none,0,[],0,0,none,0,[]⟩
instance :Inhabited Cll:=⟨A3⟩
def clC(x:Cll):List Value:=[Value.int .i64 x.kd,Value.int .u8 (x.tt.toNat:Int),Value.int .u8 (x.pr.toNat:Int),Value.int .u16 (x.id:Int),Value.int .u32 (x.s:Int),Value.int .u32 (x.d:Int),Value.slice x.a x.xs.length x.cap,Value.int .u64 (x.tick:Int),Value.int .u64 (x.draw:Int),Value.slice x.ma x.mp.length x.mc]
structure ClOK(w:World)(x:Cll):Prop where
  at':At w x.a (Cx x.xs)
  id:x.id<65536
  s:x.s<4294967296
  d:x.d<4294967296
  cap:x.xs.length≤x.cap
  tick:x.tick<18446744073709551616
  draw:x.draw<18446744073709551616
  atm:At w x.ma (mm Jc x.mp)
  rng:RngM x.mp
  mcap:x.mp.length≤x.mc
theorem ClOK.mem{w b:World}{LL:List (List Blk)}{x:Cll}(h:ClOK w x)(c:Mem w [] LL b):ClOK b x:=⟨h.at'.mem0 c,h.id,h.s,h.d,h.cap,h.tick,h.draw,h.atm.mem0 c,h.rng,h.mcap⟩
theorem Aj8{w:World}{b:List Cll}(h: ∀x∈b,ClOK w x)(i:Nat):ClOK w (b.getD i A3):=by
  by_cases c:i<b.length
  · rw[List.getD_eq_getElem?_getD,List.getElem?_eq_getElem c];exact h _ (List.getElem_mem c)
  · rw[List.getD_eq_getElem?_getD,List.getElem?_eq_none Ae]
    exact⟨At.nil _ _,by decide,by decide,by decide,by decide,by decide,by decide,At.nil _ _,(fun _ h=>by cases h),by decide⟩
def grQ(x:Cll):Bool:=decide (((x.xs.length:Nat):Int)>2000)||decide (((x.mp.length:Nat):Int)>20)
def Yb(b:List Cll):Bool:=decide (((b.length:Nat):Int)>100)||b.any grQ
theorem Ajb{α:Type}{q:α→Bool}(d:α){xs:List α}:xs.any q=false↔ ∀j,j<xs.length→q (xs.getD j d)=false:=by
  rw[List.any_eq_false]
  constructor
  · intro h j b
    have:=h (xs.getD j d) (by rw[List.getD_eq_getElem?_getD,List.getElem?_eq_getElem b];exact List.getElem_mem b)
    simpa using this
  · intro h x c
    obtain⟨j,b,rfl⟩:=List.getElem_of_mem c
    have:=h j b
    rw[List.getD_eq_getElem?_getD,List.getElem?_eq_getElem b]at this
    simpa using this
theorem Am5{b:List Cll}(h:Yb b=false):b.length≤100∧ ∀x∈b,x.xs.length≤2000∧x.mp.length≤20:=by
  unfold Yb at h
  rw[Bool.or_eq_false_iff]at h
  have f:=of_decide_eq_false h.1
  refine⟨by omega,fun x e=>?_⟩
  have c:=List.any_eq_false.1 h.2 x e
  unfold grQ at c
  simp only[Bool.or_eq_true,decide_eq_true_eq,not_or]at c
  omega
theorem Ajc{b:List Cll}{i:Nat}(c:i<b.length)(h:grQ (b.getD i A3)=true):Yb b=true:=by
  unfold Yb
  rw[List.any_eq_true.2 ⟨b.getD i A3,by rw[List.getD_eq_getElem?_getD,List.getElem?_eq_getElem c];exact List.getElem_mem c,h⟩,Bool.or_true]
theorem Ajd(c:List Cll)(l:Option Addr)(f:Nat)(w:World)(o:At w l (mm clC c))(L:c.length≤9223372036854775807):Calls prog 17 #[sL l c.length f] w (Df w (.bool (Yb c))):=by
 refine Ap (M:=[]) (LL:=[]) (n:=26) func17 rfl rfl A7 (Mem.refl _)<|Aj []<|W.s<|Aj [] ?_
 refine Ak (decide<|((c.length:Nat):Int)>100) Aa (fun N=>?_) fun J=>?_
 ·refine Aj []<|Am rfl<|D7 rfl (Ar<|bV true)<|by exact B2 (by unfold Yb;rw[N];rfl)
 ·have F:=J;try simp only[zA]at F
  refine Ag<|A9<|W.s<|Aj []<|W.block ?_
  refine Dd [8,9,10] (fun(i:Nat)=>[sL l c.length f,nV .i64 c.length,nV .i64 i]) (fun(i:Nat)=>i≤c.length∧ ∀j,j<i→grQ (c.getD j A3)=false) (fun(i:Nat)=>[]) (fun(i:Nat)=>c.length-i) 0 Aa ⟨(Nat.zero_le _),(fun j E=>absurd E<|Nat.not_lt_zero j)⟩ (by rfl) fun i O P q h=>?_
  obtain⟨S,r⟩:=q
  refine Aj []<|W.s ?_
  refine Ak (decide<|((i:Nat):Int)<(c.length:Int)) Aa (fun G=>?_) fun H=>?_
  ·have t:=G;try simp only[zA]at t
   refine Ag<|A9<|W.s<|W.block<|W.s ?_
   refine Ac<|Ao (v:=Value.pointer<|some<|Cs l<|i*10) (Bb fun I u=>Aq (k:=.i64) (a:=l) (len:=c.length) (cap:=f) (i:=(i:Int)) (sz:=10) rfl Aa Aa runUnderlying53 sizeOf58 Ae Ae<|(o.mem0 u).here<|by rw[Ch (g:=clC) (sz:=10) (fun _=>rfl)];first|omega|(simp;omega))<|Ao (v:=aV<|O8<|c.getD i A3) (Ys.ldN (a:=Cs l<|i*10) (vs:=(O8<|c.getD i A3)) rfl Aa isAgg58 sizeOf58 rfl fun I u=>(o.mem0 u).ldN<|Db (g:=clC) (sz:=10) (fun _=>rfl) A3 (xs:=c) (k:=i) Ae)<|Af rfl (Ba zeroValue58) fun Q=>Af rfl (A0 Q 0 0 0 (O8<|c.getD i A3) sizeOf58 rfl rfl) fun _=>?_
   refine Ai<|Av<|A5 6 [(0,0)] ?_
   refine C1 4 (decide<|(((c.getD i A3).xs.length:Nat):Int)>2000) (fun _=>Gs.z [(0,0)])<|Ao (v:=bV<|(decide<|(((c.getD i A3).xs.length:Nat):Int)>2000)||(decide<|(((c.getD i A3).mp.length:Nat):Int)>20)) (Ce (e:=decide<|(((c.getD i A3).xs.length:Nat):Int)>2000) (b:=decide<|(((c.getD i A3).mp.length:Nat):Int)>20) rfl Aa Aa Aa)<|Ai ?_
   refine Ak ((decide<|(((c.getD i A3).xs.length:Nat):Int)>2000)||(decide<|(((c.getD i A3).mp.length:Nat):Int)>20)) Aa (fun x=>?_) fun A=>?_
   ·have B:=x;try simp only[zA]at B
    refine Aj []<|Am rfl<|D7 rfl (Ar<|bV true) (by clear h;exact B2 (Ajc (i:=i) Ae (show grQ (c.getD i A3)=true from x)).symm)
   ·have C:=A;try simp only[zA]at C
    refine Ag<|A9<|Ac<|Bw (((i+1):Nat):Int) (i:Int) 1<|Ab 1 ?_
    refine Ay ?_
    refine fun I u=>h (i+1) _ I Ae ⟨Ae,(fun j E=>(Nat.lt_succ_iff_lt_or_eq.1 E).elim (r j) fun R=>by subst R;exact A)⟩ ?_<|u.pick [] An rfl
    kernel_rfl
  ·have D:=H;try simp only[zA]at D
   refine Cm<|A9<|Aj []<|Am rfl<|D7 rfl (Ar<|bV false)<|by clear h;exact B2 (by unfold Yb;rw[J,(Ajb A3).2 (fun j E=>r j Ae)];rfl)
theorem Afh{b:List Cll}(h: ∀x∈b,x.xs.length≤2000∧x.mp.length≤20)(i:Nat):(b.getD i A3).xs.length≤100000∧(b.getD i A3).mp.length≤100000:=by
  by_cases c:i<b.length
  · have:=h (b.getD i A3) (by rw[List.getD_eq_getElem?_getD,List.getElem?_eq_getElem c];exact List.getElem_mem c)
    omega
  · rw[List.getD_eq_getElem?_getD,List.getElem?_eq_none Ae];exact⟨by decide,by decide⟩
abbrev Q31(c:Conf.Cfg)(b:Option Addr)(e:Nat)(fx:List Fwd):List Value:=[iV .u8 c.lm0,iV .u8 c.lm1,iV .u8 c.lm2,iV .u8 c.lm3,iV .u8 c.lm4,iV .u8 c.lm5,iV .u8 c.wm0,iV .u8 c.wm1,iV .u8 c.wm2,iV .u8 c.wm3,iV .u8 c.wm4,iV .u8 c.wm5,iV .u8 c.hm0,iV .u8 c.hm1,iV .u8 c.hm2,iV .u8 c.hm3,iV .u8 c.hm4,iV .u8 c.hm5,iV .u32 c.lan,iV .u32 c.wan,iV .i64 c.bits,iV .i64 c.ms,iV .i64 c.mm,iV .i64 c.mc,iV .i64 c.mu,sL b fx.length e,iV .u32 c.dmz,Value.string c.uu]
set_option maxHeartbeats 1000000 in
theorem Abc(PM:List Mpg→Prop)(c:Conf.Cfg)(fx:List Fwd)(fa:Option Addr)(fc:Nat)(e:List Cll)(na:Option Addr)(I:Nat)(w:World)(bt:PM [])(bu: ∀i,i<e.length→PM (e.getD i A3).mp)(ao:At w na (mm clC e))(c8:e.length≤100)(bw: ∀x∈e,ClOK w x)(bx: ∀x∈e,x.xs.length≤2000∧x.mp.length≤20)(bz:At w fa (mm fwv fx))(b0:fx.length≤100000)(b1:c.ms≤50000)(hF:RngF fx)(hU:FxU fx)(J:0≤c.wan∧c.wan≤4294967295)(ap:0≤c.dmz∧c.dmz≤4294967295)(C:At w (some ⟨0,0,none⟩) (Cx dbt)):Calls prog 18 #[aV [iV .u8 c.lm0,iV .u8 c.lm1,iV .u8 c.lm2,iV .u8 c.lm3,iV .u8 c.lm4,iV .u8 c.lm5,iV .u8 c.wm0,iV .u8 c.wm1,iV .u8 c.wm2,iV .u8 c.wm3,iV .u8 c.wm4,iV .u8 c.wm5,iV .u8 c.hm0,iV .u8 c.hm1,iV .u8 c.hm2,iV .u8 c.hm3,iV .u8 c.hm4,iV .u8 c.hm5,iV .u32 c.lan,iV .u32 c.wan,iV .i64 c.bits,iV .i64 c.ms,iV .i64 c.mm,iV .i64 c.mc,iV .i64 c.mu,sL fa fx.length fc,iV .u32 c.dmz,Value.string c.uu],sL na e.length I] w (Bn w (fun r:NK×NS×Nat=>Inv r.1 r.2.1∧r.2.1.p.lst≤100∧r.2.2≤6553500∧r.1.c=c∧r.1.fx=fx∧r.1.mo=Ep c.ms 0∧PM r.2.1.p.ms) (fun r=>.tuple #[.pointer (some ⟨r.1.nb,0,none⟩),.int .u64 (r.2.2:Int)]) [] (fun r=>[NG r.1 r.2.1])):=by
 have F:0<(Cx dbt).length→(Option.getD (some (⟨0,0,none⟩:Addr)) default).block∉([]:List Nat):=fun _ t=>by cases t
 refine Ap (M:=[]) (LL:=[]) (n:=56) func18 rfl rfl A7 (Mem.refl _)<|W.s ?_
 refine Ac<|Af rfl (Bx (Q31 c fa fc fx) rfl) fun p2=>?_
 refine Ab 2<|Ai<|Av ?_
 refine A5 1 [(0,0)]<|Aw rfl (Au [] [0] fun B q u=>(Aeo c fx fa fc _ (bz.mem0 q) b0 b1 hF hU)) fun q7 aq=>?_
 obtain⟨j,ar⟩:=q7
 dsimp only at aq
 have A:=aq
 refine B0 (LL':=[NG j ar,[cb p2 (Q31 c fa fc fx) 32]]) rfl<|Ab 2<|Ai<|Al [0] An rfl ?_
 refine W.s<|Aj []<|W.block<|Aga [6,7,12,13,14] (fun(i:Nat) (o:Nat) (s:NS)=>[pL (some ⟨j.nb,0,none⟩),nV .u64 o,sL na e.length I,nV .i64 e.length,nV .i64 i]) (fun(i:Nat) (o:Nat) (s:NS)=>i≤e.length∧o≤i*65535∧Inv j s∧s.p.lst≤(i:Int)∧PM s.p.ms) (fun(i:Nat) (o:Nat) (s:NS)=>[NG j s]) (fun(i:Nat) (o:Nat) (s:NS)=>e.length-i) 0 0 ar Aa ⟨(Nat.zero_le _),(Nat.zero_le _),A.inv,(by rw[A.lst];decide),(by rw[A.ms];exact bt)⟩ (by rfl) fun i o s db dc au D=>?_
 obtain⟨hi,cu,G,dd,H⟩:=au
 have f:=Aj8 bw i
 obtain⟨h,cv⟩:=Afh bx i
 have cw:=f.tick
 have cx:=f.draw
 refine Aj []<|W.s ?_
 refine Ak (decide<|((i:Nat):Int)<(e.length:Int)) Aa (fun b3=>?_) fun b4=>?_
 ·have av:=b3;try simp only[zA]at av
  refine Ag<|A9<|W.s<|W.block<|W.s ?_
  refine Ac<|Ao (v:=Value.pointer<|some<|Cs na<|i*10) (Bb fun B t=>Aq (k:=.i64) (a:=na) (len:=e.length) (cap:=I) (i:=(i:Int)) (sz:=10) rfl Aa Aa runUnderlying53 sizeOf58 Ae Ae<|(ao.mem0 t).here<|by rw[Ch (g:=clC) (sz:=10) (fun _=>rfl)];first|omega|(simp;omega))<|Ao (v:=aV<|O8<|e.getD i A3) (Ys.ldN (a:=Cs na<|i*10) (vs:=(O8<|e.getD i A3)) rfl Aa isAgg58 sizeOf58 rfl fun B t=>(ao.mem0 t).ldN<|Db (g:=clC) (sz:=10) (fun _=>rfl) A3 (xs:=e) (k:=i) Ae)<|Af rfl (Ba zeroValue58) fun E=>Af rfl (A0 E 0 0 0 (O8<|e.getD i A3) sizeOf58 rfl rfl) fun _=>?_
  refine Ai<|Av<|A5 3 [(0,0)] ?_
  refine Ao (v:=nV .u64<|((e.getD i A3).tick)%65536) ((Ys.p (v:=.int .u64<|Dw .u64 ((e.getD i A3).tick:Int) ((65535:Nat):Int))).conseq<|Ad<|H3 rfl (a:=(e.getD i A3).tick) (c:=16) K4 An 65535 rfl)<|Ao (v:=nV .u64<|(o+(((e.getD i A3).tick)%65536))%18446744073709551616) ((Ys.p (v:=.int .u64<|D2 .u64 (o:Int) ((((e.getD i A3).tick)%65536:Nat):Int))).conseq<|Ad<|Vq rfl)<|Ab 1<|Ai ?_
  refine Av<|A5 2 [(0,0)]<|Ao (v:=nV .i64<|(((e.getD i A3).kd)%8).toNat) ((Ys.p (v:=.int .i64<|Dw .i64 ((e.getD i A3).kd) 7)).conseq<|Ad<|Ab7 (c:=3) An 7 8 rfl rfl)<|Ay ?_
  refine A9<|W.block<|Aj [] ?_
  refine Ak ((((((e.getD i A3).kd)%8).toNat:Nat):Int)==0) Aa (fun b5=>?_) fun b6=>?_
  ·have aw:=b5;try simp only[zA]at aw
   refine Ac<|A5 3 [(0,0)]<|Aw rfl (Au [1] [0] fun B q u=>(have l:=(Dq (L:=[NG j s]) (R:=[[cb E (O8<|e.getD i A3) 58]]) f.atm (fun _ t=>by cases t)<|Mem.pick [1,0] An q rfl);(Aik j s _ (e.getD i A3).mp ((e.getD i A3).ma) ((e.getD i A3).mc) _ G.ok u G.a (by rw[A.kfx];exact hF) (by rw[A.kfx];exact hU) f.rng l.1 l.2 Ae))) fun ax ay=>?_
   obtain⟨az,ab,ad,b7⟩:=ay
   refine Ai<|Al [0] An rfl<|Ac<|Bw (((i+1):Nat):Int) (i:Int) 1 ?_
   refine Ab 1<|Ay ?_
   refine fun B t=>D (i+1) ((o+(((e.getD i A3).tick)%65536))%18446744073709551616) ax _ B Ae ⟨Ae,Ae,az,(by have z_:=ad;omega),(by rw[ab];exact bu i Ae)⟩ ?_ t
   kernel_rfl
  ·have a1:=b6;try simp only[zA]at a1
   refine Aj [] ?_
   refine Ak ((((((e.getD i A3).kd)%8).toNat:Nat):Int)==1) Aa (fun b9=>?_) fun ca=>?_
   ·have a2:=b9;try simp only[zA]at a2
    refine Ac<|Ab 2<|Aw rfl (Au [1] [0] fun B q u=>(Aej j s _ (((o+(((e.getD i A3).tick)%65536))%18446744073709551616:Nat):Int) _ G.ok u G.a G.b G.fr G.fu G.mr)) fun a3 a5=>?_
    obtain⟨a6,ae,af,cc⟩:=a5
    refine Ai<|Al [0] An rfl<|Ac<|Bw (((i+1):Nat):Int) (i:Int) 1 ?_
    refine Ab 1<|Ay ?_
    refine fun B t=>D (i+1) ((o+(((e.getD i A3).tick)%65536))%18446744073709551616) a3 _ B Ae ⟨Ae,Ae,a6,(by have z_:=af;omega),(by rw[ae];exact H)⟩ ?_ t
    kernel_rfl
   ·have a7:=ca;try simp only[zA]at a7
    refine W.s<|Aj [] ?_
    refine Ak ((((((e.getD i A3).kd)%8).toNat:Nat):Int)==2) Aa (fun a8=>?_) fun cd=>?_
    ·have a9:=a8;try simp only[zA]at a9
     refine Ag<|A9 ?_
     refine Ak ((((((e.getD i A3).kd)%8).toNat:Nat):Int)==2) Aa (fun ce=>?_) fun cf=>?_
     ·have ba:=ce;try simp only[zA]at ba
      refine Ac<|A5 6 [(0,0),(0,0)]<|Aw rfl (Au [1] [0] fun B q u=>(have l:=(Dq (L:=[NG j s]) (R:=[[cb E (O8<|e.getD i A3) 58]]) f.at' (fun _ t=>by cases t)<|Mem.pick [1,0] An q rfl);(Tl j s _ ((Hs (e.getD i A3).pr (e.getD i A3).s (e.getD i A3).d (e.getD i A3).xs).toNat) (Gf (e.getD i A3).pr (e.getD i A3).s (e.getD i A3).d (e.getD i A3).xs:Int) (Gn (e.getD i A3).pr (e.getD i A3).s (e.getD i A3).d (e.getD i A3).xs:Int) (Jd (e.getD i A3).pr (e.getD i A3).s (e.getD i A3).d (e.getD i A3).xs:Int) (Je (e.getD i A3).pr (e.getD i A3).s (e.getD i A3).d (e.getD i A3).xs:Int) ((e.getD i A3).tt.toNat:Int) ((e.getD i A3).pr.toNat:Int) ((e.getD i A3).id:Int) ((e.getD i A3).s:Int) ((e.getD i A3).d:Int) ((e.getD i A3).a) ((e.getD i A3).xs.length) ((e.getD i A3).cap) (H1 (e.getD i A3).pr (e.getD i A3).s (e.getD i A3).d (e.getD i A3).xs) (Kd (e.getD i A3).pr (e.getD i A3).s (e.getD i A3).d (e.getD i A3).xs) (bgA (e.getD i A3).pr (e.getD i A3).s (e.getD i A3).d (e.getD i A3).xs) ((((mT (e.getD i A3).xs 0).toNat:Nat):Int) !=0) (Ya (e.getD i A3).pr (e.getD i A3).s (e.getD i A3).d (e.getD i A3).xs) (Ir (e.getD i A3).pr) (((o+(((e.getD i A3).tick)%65536))%18446744073709551616:Nat):Int) ((e.getD i A3).draw) (PkV×List Blk) (fun _ _=>True) (fun _ x=>x.1) (rwY (e.getD i A3).pr (e.getD i A3).s (e.getD i A3).d (e.getD i A3).xs) (fun _ x=>x.2) _ G u Ae (by rw[A.kc];exact J) (UInt8.toNat_lt _) (P9 f.s f.d) f.draw (U3 l.1 l.2 f.id f.s f.d h f.cap) (U4 l.1 l.2 f.id f.s f.d h f.cap) (U5 l.1 l.2 f.id f.s f.d h f.cap) (U6 l.1 l.2 h f.cap) (U7 l.1 l.2 f.id f.s f.d h f.cap) (Dq (L:=[NG j s]) (R:=[[cb E (O8<|e.getD i A3) 58]]) C F<|Mem.pick [1,0] An q rfl).1 (Dq (L:=[NG j s]) (R:=[[cb E (O8<|e.getD i A3) 58]]) C F<|Mem.pick [1,0] An q rfl).2))) fun cg V=>?_
      obtain⟨X,cy,c0,bb⟩:=cg
      dsimp only at V
      obtain⟨bc,ag,ah,c1⟩:=V
      refine B0 (LL':=[NG j X,bb,[cb E (O8<|e.getD i A3) 58]]) rfl<|Ai<|Al [0,1] An rfl<|Ac ?_
      refine Bw (((i+1):Nat):Int) (i:Int) 1<|Ab 1<|Ay ?_
      refine fun B t=>D (i+1) ((o+(((e.getD i A3).tick)%65536))%18446744073709551616) X _ B Ae ⟨Ae,Ae,bc,(by have z_:=ah;omega),(by rw[ag];exact H)⟩ ?_<|t.pick [0] An rfl
      kernel_rfl
     ·exact absurd (a8.symm.trans cf) An
    ·have bd:=cd;try simp only[zA]at bd
     refine Aj [] ?_
     refine Ak ((((((e.getD i A3).kd)%8).toNat:Nat):Int)==3) Aa (fun bf=>?_) fun ch=>?_
     ·have bg:=bf;try simp only[zA]at bg
      refine Ag<|A9 ?_
      refine Ak ((((((e.getD i A3).kd)%8).toNat:Nat):Int)==3) Aa (fun ci=>?_) fun cj=>?_
      ·have bh:=ci;try simp only[zA]at bh
       refine Ac<|A5 6 [(0,0),(0,0)]<|Aw rfl (Au [1] [0] fun B q u=>(have l:=(Dq (L:=[NG j s]) (R:=[[cb E (O8<|e.getD i A3) 58]]) f.at' (fun _ t=>by cases t)<|Mem.pick [1,0] An q rfl);(Tl j s _ ((Hs (e.getD i A3).pr (e.getD i A3).s (e.getD i A3).d (e.getD i A3).xs).toNat) (Gf (e.getD i A3).pr (e.getD i A3).s (e.getD i A3).d (e.getD i A3).xs:Int) (Gn (e.getD i A3).pr (e.getD i A3).s (e.getD i A3).d (e.getD i A3).xs:Int) (Jd (e.getD i A3).pr (e.getD i A3).s (e.getD i A3).d (e.getD i A3).xs:Int) (Je (e.getD i A3).pr (e.getD i A3).s (e.getD i A3).d (e.getD i A3).xs:Int) ((e.getD i A3).tt.toNat:Int) ((e.getD i A3).pr.toNat:Int) ((e.getD i A3).id:Int) ((e.getD i A3).s:Int) ((e.getD i A3).d:Int) ((e.getD i A3).a) ((e.getD i A3).xs.length) ((e.getD i A3).cap) (H1 (e.getD i A3).pr (e.getD i A3).s (e.getD i A3).d (e.getD i A3).xs) (Kd (e.getD i A3).pr (e.getD i A3).s (e.getD i A3).d (e.getD i A3).xs) (bgA (e.getD i A3).pr (e.getD i A3).s (e.getD i A3).d (e.getD i A3).xs) ((((mT (e.getD i A3).xs 0).toNat:Nat):Int) !=0) (Ya (e.getD i A3).pr (e.getD i A3).s (e.getD i A3).d (e.getD i A3).xs) (Ir (e.getD i A3).pr) (((o+(((e.getD i A3).tick)%65536))%18446744073709551616:Nat):Int) ((e.getD i A3).draw) (PkV×List Blk) (fun _ _=>True) (fun _ x=>x.1) (rwY (e.getD i A3).pr (e.getD i A3).s (e.getD i A3).d (e.getD i A3).xs) (fun _ x=>x.2) _ G u Ae (by rw[A.kc];exact J) (UInt8.toNat_lt _) (P9 f.s f.d) f.draw (U3 l.1 l.2 f.id f.s f.d h f.cap) (U4 l.1 l.2 f.id f.s f.d h f.cap) (U5 l.1 l.2 f.id f.s f.d h f.cap) (U6 l.1 l.2 h f.cap) (U7 l.1 l.2 f.id f.s f.d h f.cap) (Dq (L:=[NG j s]) (R:=[[cb E (O8<|e.getD i A3) 58]]) C F<|Mem.pick [1,0] An q rfl).1 (Dq (L:=[NG j s]) (R:=[[cb E (O8<|e.getD i A3) 58]]) C F<|Mem.pick [1,0] An q rfl).2))) fun ck Y=>?_
       obtain⟨Z,c3,c4,bi⟩:=ck
       dsimp only at Y
       obtain⟨bj,ai,aj,c5⟩:=Y
       refine B0 (LL':=[NG j Z,bi,[cb E (O8<|e.getD i A3) 58]]) rfl<|Ai<|Al [0,1] An rfl<|Ac ?_
       refine Bw (((i+1):Nat):Int) (i:Int) 1<|Ab 1<|Ay ?_
       refine fun B t=>D (i+1) ((o+(((e.getD i A3).tick)%65536))%18446744073709551616) Z _ B Ae ⟨Ae,Ae,bj,(by have z_:=aj;omega),(by rw[ai];exact H)⟩ ?_<|t.pick [0] An rfl
       kernel_rfl
      ·exact absurd (bf.symm.trans cj) An
     ·have bk:=ch;try simp only[zA]at bk
      refine Ac<|Ab 2<|Ai ?_
      refine Ak ((((((e.getD i A3).kd)%8).toNat:Nat):Int)==4) Aa (fun cl=>?_) fun cm=>?_
      ·have bl:=cl;try simp only[zA]at bl
       refine Ac<|A5 6 [(0,0),(0,0)]<|Aw rfl (Au [1] [0] fun B q u=>(have l:=(Dq (L:=[NG j s]) (R:=[[cb E (O8<|e.getD i A3) 58]]) f.at' (fun _ t=>by cases t)<|Mem.pick [1,0] An q rfl);(Tl j s _ ((Hs (e.getD i A3).pr (e.getD i A3).s (e.getD i A3).d (e.getD i A3).xs).toNat) (Gf (e.getD i A3).pr (e.getD i A3).s (e.getD i A3).d (e.getD i A3).xs:Int) (Gn (e.getD i A3).pr (e.getD i A3).s (e.getD i A3).d (e.getD i A3).xs:Int) (Jd (e.getD i A3).pr (e.getD i A3).s (e.getD i A3).d (e.getD i A3).xs:Int) (Je (e.getD i A3).pr (e.getD i A3).s (e.getD i A3).d (e.getD i A3).xs:Int) ((e.getD i A3).tt.toNat:Int) ((e.getD i A3).pr.toNat:Int) ((e.getD i A3).id:Int) ((e.getD i A3).s:Int) ((e.getD i A3).d:Int) ((e.getD i A3).a) ((e.getD i A3).xs.length) ((e.getD i A3).cap) (H1 (e.getD i A3).pr (e.getD i A3).s (e.getD i A3).d (e.getD i A3).xs) (Kd (e.getD i A3).pr (e.getD i A3).s (e.getD i A3).d (e.getD i A3).xs) (bgA (e.getD i A3).pr (e.getD i A3).s (e.getD i A3).d (e.getD i A3).xs) ((((mT (e.getD i A3).xs 0).toNat:Nat):Int) !=0) (Ya (e.getD i A3).pr (e.getD i A3).s (e.getD i A3).d (e.getD i A3).xs) (Ir (e.getD i A3).pr) (((o+(((e.getD i A3).tick)%65536))%18446744073709551616:Nat):Int) ((e.getD i A3).draw) (PkV×List Blk) (fun _ _=>True) (fun _ x=>x.1) (rwY (e.getD i A3).pr (e.getD i A3).s (e.getD i A3).d (e.getD i A3).xs) (fun _ x=>x.2) _ G u Ae (by rw[A.kc];exact J) (UInt8.toNat_lt _) (P9 f.s f.d) f.draw (U3 l.1 l.2 f.id f.s f.d h f.cap) (U4 l.1 l.2 f.id f.s f.d h f.cap) (U5 l.1 l.2 f.id f.s f.d h f.cap) (U6 l.1 l.2 h f.cap) (U7 l.1 l.2 f.id f.s f.d h f.cap) (Dq (L:=[NG j s]) (R:=[[cb E (O8<|e.getD i A3) 58]]) C F<|Mem.pick [1,0] An q rfl).1 (Dq (L:=[NG j s]) (R:=[[cb E (O8<|e.getD i A3) 58]]) C F<|Mem.pick [1,0] An q rfl).2))) fun bm N=>?_
       obtain⟨aa,c6,c7,bn⟩:=bm
       dsimp only at N
       obtain⟨bo,Q,S,cn⟩:=N
       refine B0 (LL':=[NG j aa,bn,[cb E (O8<|e.getD i A3) 58]]) rfl<|Ai<|Al [0,1] An rfl<|Ac ?_
       refine Bw (((i+1):Nat):Int) (i:Int) 1<|Ab 1<|Ay ?_
       refine fun B t=>D (i+1) ((o+(((e.getD i A3).tick)%65536))%18446744073709551616) aa _ B Ae ⟨Ae,Ae,bo,(by have z_:=S;omega),(by rw[Q];exact H)⟩ ?_<|t.pick [0] An rfl
       kernel_rfl
      ·have bp:=cm;try simp only[zA]at bp
       refine Ac<|A5 4 [(0,0)]<|Aw rfl (Au [1] [0] fun B q u=>(have l:=(Dq (L:=[NG j s]) (R:=[[cb E (O8<|e.getD i A3) 58]]) f.at' (fun _ t=>by cases t)<|Mem.pick [1,0] An q rfl);(Aq3 j s _ ((Hs (e.getD i A3).pr (e.getD i A3).s (e.getD i A3).d (e.getD i A3).xs).toNat) (Gf (e.getD i A3).pr (e.getD i A3).s (e.getD i A3).d (e.getD i A3).xs:Int) (Gn (e.getD i A3).pr (e.getD i A3).s (e.getD i A3).d (e.getD i A3).xs:Int) (Jd (e.getD i A3).pr (e.getD i A3).s (e.getD i A3).d (e.getD i A3).xs:Int) (Je (e.getD i A3).pr (e.getD i A3).s (e.getD i A3).d (e.getD i A3).xs) ((e.getD i A3).tt.toNat:Int) ((e.getD i A3).pr.toNat:Int) ((e.getD i A3).id:Int) ((e.getD i A3).s:Int) ((e.getD i A3).d:Int) ((e.getD i A3).a) ((e.getD i A3).xs.length) ((e.getD i A3).cap) (H1 (e.getD i A3).pr (e.getD i A3).s (e.getD i A3).d (e.getD i A3).xs) (Kd (e.getD i A3).pr (e.getD i A3).s (e.getD i A3).d (e.getD i A3).xs) (bgA (e.getD i A3).pr (e.getD i A3).s (e.getD i A3).d (e.getD i A3).xs) ((((mT (e.getD i A3).xs 0).toNat:Nat):Int) !=0) (Ya (e.getD i A3).pr (e.getD i A3).s (e.getD i A3).d (e.getD i A3).xs) (Ir (e.getD i A3).pr) (((o+(((e.getD i A3).tick)%65536))%18446744073709551616:Nat):Int) (PkV×List Blk) (fun _ _=>True) (fun _ x=>x.1) (rwY (e.getD i A3).pr (e.getD i A3).s (e.getD i A3).d (e.getD i A3).xs) (fun _ x=>x.2) _ G u Ae (by rw[A.kc];exact ap) (UInt8.toNat_lt _) (X9 ..) (P9 f.s f.d) (U3 l.1 l.2 f.id f.s f.d h f.cap) (U4 l.1 l.2 f.id f.s f.d h f.cap) (U5 l.1 l.2 f.id f.s f.d h f.cap) (U6 l.1 l.2 h f.cap)<|U7 l.1 l.2 f.id f.s f.d h f.cap))) fun bq O=>?_
       obtain⟨P,co,cp,ak⟩:=bq
       dsimp only at O
       obtain⟨al,T,U,cq⟩:=O
       refine B0 (LL':=[NG j P,ak,[cb E (O8<|e.getD i A3) 58]]) rfl<|Ai<|Al [0,1] An rfl<|Ac ?_
       refine Bw (((i+1):Nat):Int) (i:Int) 1<|Ab 1<|Ay ?_
       refine fun B t=>D (i+1) ((o+(((e.getD i A3).tick)%65536))%18446744073709551616) P _ B Ae ⟨Ae,Ae,al,(by have z_:=U;omega),(by rw[T];exact H)⟩ ?_<|t.pick [0] An rfl
       kernel_rfl
 ·have br:=b4;try simp only[zA]at br
  refine Cm<|A9<|Aj []<|Am rfl<|E2 rfl (Ar<|pL<|some ⟨j.nb,0,none⟩) (Ar<|nV .u64 o) fun B cr=>⟨(j,s,o),⟨G,(by show s.p.lst≤100;omega),(by show o≤6553500;omega),A.kc,A.kfx,A.kmo,H⟩,rfl,(cr.pick [0] An rfl)⟩
end Go.Proofs.YtmonlaoaengfdaaGreatDoor.Oct
