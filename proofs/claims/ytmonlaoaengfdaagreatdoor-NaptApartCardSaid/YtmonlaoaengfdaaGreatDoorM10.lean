import Derived.Test.YtmonlaoaengfdaaGreatDoorM9
set_option linter.unusedVariables false
set_option linter.unusedSimpArgs false
set_option maxRecDepth 20000
namespace Go.Proofs.YtmonlaoaengfdaaGreatDoor.Oct
open Go.RowKit Base Tryz
attribute [local irreducible] Ys Yc Ht HtS HtIn Wl Wd W Mem pf Ez Wa Wo KW
open Conf (Fwd fwv)
theorem P5(k:NK)(s:NS)(c f x h d:Int)(w:World)(ha:NAt k s w)(ok:NOk k s)(O:s.p.xs=s.p.es.map P4):Calls prog 43 #[pL (some ⟨k.nb,0,none⟩),aV [iV .u8 c,iV .u32 f,iV .u32 x,iV .u16 h,iV .u16 d]] w (Df w (.pointer (Cz ((Mc (c,f,x,h,d) s.p.es).map Prod.fst)))):=by
 obtain⟨bi,bj,bk,a6,bl⟩:=NOk.len ok
 refine Ap (M:=[]) (LL:=[]) (n:=44) func43 rfl rfl A7 (Mem.refl _)<|W.s ?_
 refine Ac<|Af rfl (Bx [iV .u8 c,iV .u32 f,iV .u32 x,iV .u16 h,iV .u16 d] rfl) fun A=>?_
 refine Af rfl (Ba zeroValue93) fun H=>Ai<|W.s<|W.s ?_
 refine Ac<|Ab 3<|Ao (v:=pL<|some ⟨k.ts,0,none⟩) (Ys.ld (a:=⟨k.nb,29,none⟩) rfl Aa isAgg85 fun C o=>by have x_:=(ha.nat.mem0 o).ld (q:=29) ((Cf rfl An).trans rfl);rw[Be]at x_;exact x_)<|Aw rfl (Au [] [0,1] fun C U bm=>(Xf k.ts _)) fun I _=>Ay ?_
 refine A9<|W.block ?_
 refine Jn (σ:=Option Nat) (enc:=fun i=>[aV (Kw<|(s.p.xs.getD i dS).1),pL (Cz<|(s.p.xs.getD i dS).2)]) (N:=s.p.xs.length) (Lu:=fun(D:Option Nat)=>[[cb H [pL (Cz D)] 93],[cb A [iV .u8 c,iV .u32 f,iV .u32 x,iV .u16 h,iV .u16 d] 47]]) (Li:=[[cb I [pL (some ⟨k.ts,0,none⟩)] 85]]) (Lk:=[]) [1,2] [0] [] none (fun i (D:Option Nat)=>D=none∧ ∀j,j<i→knQ (c,f,x,h,d) (s.p.es.getD j (0,Cq))=false) (fun c_ (D:Option Nat)=>((c_=.ret∧D=(Mc (c,f,x,h,d) s.p.es).map Prod.fst∧Mc (c,f,x,h,d) s.p.es≠none))) [12,13] Aa (fun _ _=>rfl) An (by rfl) rfl rfl rfl (fun _=>rfl) (⟨rfl,(fun j hj=>absurd hj<|Nat.not_lt_zero j)⟩) (fun D_ l_ bo ay U=>(T7 s.p.xs s.gs.a s.gs.cap k.mo k.ts I _ ay (ha.atS.mem0 U) (ha.xs.mem0 U) D1)) ?_ ?_ ?_
 ·intro D8 l9 a7 a8 i az bp Mu15 bq ad ae V af
  obtain⟨r,rfl⟩: ∃a_,a_=az:=⟨_,rfl⟩
  obtain⟨hr,E⟩:=ae
  obtain⟨ah,B,l,a0,J,L⟩:=Xv O ad
  have a1:=ha.ent i B l a0
  obtain⟨X,Y⟩:=V _ _ a1 A7
  refine Av<|Af rfl (Ba zeroValue47) fun P=>Af rfl (A0 P 0 0 0 (Kw<|(s.p.xs.getD i dS).1) sizeOf47 rfl rfl) fun _=>Ay ?_
  refine A9<|Ac<|Ao (v:=pV B 0) ((Ys.p (v:=pL<|Cz<|(s.p.xs.getD i dS).2)).conseq<|(by rw[L];rfl))<|Ay ?_
  refine fun C o=>af _ [[cb P (Kw<|(s.p.xs.getD i dS).1) 47],[cb H [Value.pointer (Cz r)] 93],[cb A [iV .u8 c,iV .u32 f,iV .u32 x,iV .u16 h,iV .u16 d] 47]] ?_ C<|o.pick [1,2,0,3,4] An rfl
  refine W.block<|W.s ?_
  refine C5 [(0,true),(1,true),(2,false),(3,false),(4,false),(5,false),(6,true),(7,true),(8,true),(9,true),(10,true),(11,false),(12,false),(13,false),(14,false),(15,false),(16,true),(17,true),(18,false),(19,false),(20,false),(21,false),(22,false),(23,true),(24,true),(25,false),(26,false),(27,false),(28,false)] [0,1,6,7,8,9,10,16,17,23,24]<|Bs 6 [(2,0),(4,0)] ?_
  refine Bg (v:=pV B 0) ((((s.p.xs.getD i dS).1).1)==c) rfl (Bv rfl Aa) rfl (fun a9=>?_) ?_
  ·exact Ys.p
  refine Bg (v:=pV B 0) ((((s.p.xs.getD i dS).1).1)==c) rfl (Bv rfl Aa) rfl (fun ai=>?_) ?_
  ·refine Bh (t:=20) (v0:=pV B 0) (lz (g:=(((s.p.xs.getD i dS).1).1)==c) (u:=undef) ai Aa) ?_
   exact Ys.p
  refine Bg (v:=pV B 0) ((((s.p.xs.getD i dS).1).1)==c) rfl (Bv rfl Aa) rfl (fun aj=>?_) ?_
  ·refine Bh (t:=21) (v0:=pV B 0) (lz (g:=(((s.p.xs.getD i dS).1).1)==c) (u:=undef) aj Aa) ?_
   exact Ys.p
  refine Bg (v:=pV B 5) ((((s.p.xs.getD i dS).1).1)==c) rfl (Bv rfl Aa) rfl (fun ak=>?_) ?_
  ·refine Bh (t:=22) (v0:=pV B 0) (lz (g:=(((s.p.xs.getD i dS).1).1)==c) (u:=undef) ak Aa) ?_
   exact Ys.p
  refine Bg (v:=iV .u16 l.ext) ((((s.p.xs.getD i dS).1).1)==c) rfl (Bv rfl Aa) rfl (fun al=>?_) ?_
  ·refine Bh (t:=23) (v0:=pV B 5) (lz (g:=(((s.p.xs.getD i dS).1).1)==c) (u:=undef) al Aa) ?_
   exact Ys.ld (a:=⟨B,5,none⟩) rfl Aa isAgg22 fun C o=>by have x_:=(X.mem' o Y).ld (q:=5) (v:=iV .u16 l.ext) rfl;rw[Be]at x_;exact x_
  refine Bp (v:=pV A 4) ((((s.p.xs.getD i dS).1).1)==c) rfl (Bv rfl Aa) rfl (fun ba=>?_) (.inr fun _ o=>o) ?_
  ·refine Ys.yc ?_
   exact Ys.p
  refine Bp (v:=iV .u16 d) ((((s.p.xs.getD i dS).1).1)==c) rfl (Bv rfl Aa) rfl (fun am=>?_) (.inr fun _ o=>o) ?_
  ·refine Ys.yc<|Bh (t:=25) (v0:=pV A 4) (lz (g:=(((s.p.xs.getD i dS).1).1)==c) (u:=undef) am Aa) ?_
   exact Cn A 4 4 0 isAgg22
  refine Bp (v:=bV<|l.ext==d) ((((s.p.xs.getD i dS).1).1)==c) rfl (Bv rfl Aa) rfl (fun Q=>?_) (.inr fun _ o=>o) ?_
  ·refine Ys.yc<|Bh (t:=24) (v0:=iV .u16 l.ext) (lz (g:=(((s.p.xs.getD i dS).1).1)==c) (u:=undef) Q Aa)<|Bh (t:=26) (v0:=iV .u16 d) (lz (g:=(((s.p.xs.getD i dS).1).1)==c) (u:=undef) Q Aa) ?_
   exact Ys.p
  refine Gg (v:=bV<|((((s.p.xs.getD i dS).1).1)==c)&&(l.ext==d)) rfl (B9 (e:=(((s.p.xs.getD i dS).1).1)==c) (b:=l.ext==d) rfl Aa Aa Aa)<|Bs 1 [] ?_
  refine Bg (v:=pV P 2) (((((s.p.xs.getD i dS).1).1)==c)&&(l.ext==d)) rfl (Bv rfl Aa) rfl (fun bb=>?_) ?_
  ·exact Ys.p
  refine Bg (v:=iV .u32<|((s.p.xs.getD i dS).1).2.2.1) (((((s.p.xs.getD i dS).1).1)==c)&&(l.ext==d)) rfl (Bv rfl Aa) rfl (fun an=>?_) ?_
  ·refine Bh (t:=30) (v0:=pV P 2) (lz (g:=((((s.p.xs.getD i dS).1).1)==c)&&(l.ext==d)) (u:=undef) an Aa) ?_
   exact Bf (b:=P) (o':=2) (i:=2) (j:=0) (v:=iV .u32<|((s.p.xs.getD i dS).1).2.2.1) rfl Aa isAgg24 rfl rfl rfl
  refine Bp (v:=pV A 1) (((((s.p.xs.getD i dS).1).1)==c)&&(l.ext==d)) rfl (Bv rfl Aa) rfl (fun bc=>?_) (.inr fun _ o=>o) ?_
  ·refine Ys.yc ?_
   exact Ys.p
  refine Bp (v:=iV .u32 f) (((((s.p.xs.getD i dS).1).1)==c)&&(l.ext==d)) rfl (Bv rfl Aa) rfl (fun ao=>?_) (.inr fun _ o=>o) ?_
  ·refine Ys.yc<|Bh (t:=32) (v0:=pV A 1) (lz (g:=((((s.p.xs.getD i dS).1).1)==c)&&(l.ext==d)) (u:=undef) ao Aa) ?_
   exact Cn A 1 4 0 isAgg24
  refine Bp (v:=bV<|(((s.p.xs.getD i dS).1).2.2.1)==f) (((((s.p.xs.getD i dS).1).1)==c)&&(l.ext==d)) rfl (Bv rfl Aa) rfl (fun R=>?_) (.inr fun _ o=>o) ?_
  ·refine Ys.yc<|Bh (t:=31) (v0:=iV .u32<|((s.p.xs.getD i dS).1).2.2.1) (lz (g:=((((s.p.xs.getD i dS).1).1)==c)&&(l.ext==d)) (u:=undef) R Aa)<|Bh (t:=33) (v0:=iV .u32 f) (lz (g:=((((s.p.xs.getD i dS).1).1)==c)&&(l.ext==d)) (u:=undef) R Aa) ?_
   exact Ys.p
  refine Gg (v:=bV<|(((((s.p.xs.getD i dS).1).1)==c)&&(l.ext==d))&&((((s.p.xs.getD i dS).1).2.2.1)==f)) rfl (B9 (e:=((((s.p.xs.getD i dS).1).1)==c)&&(l.ext==d)) (b:=(((s.p.xs.getD i dS).1).2.2.1)==f) rfl Aa Aa Aa)<|Bs 1 [] ?_
  refine Bg (v:=pV P 4) ((((((s.p.xs.getD i dS).1).1)==c)&&(l.ext==d))&&((((s.p.xs.getD i dS).1).2.2.1)==f)) rfl (Bv rfl Aa) rfl (fun bd=>?_) ?_
  ·exact Ys.p
  refine Bg (v:=iV .u16<|((s.p.xs.getD i dS).1).2.2.2.2) ((((((s.p.xs.getD i dS).1).1)==c)&&(l.ext==d))&&((((s.p.xs.getD i dS).1).2.2.1)==f)) rfl (Bv rfl Aa) rfl (fun ap=>?_) ?_
  ·refine Bh (t:=37) (v0:=pV P 4) (lz (g:=(((((s.p.xs.getD i dS).1).1)==c)&&(l.ext==d))&&((((s.p.xs.getD i dS).1).2.2.1)==f)) (u:=undef) ap Aa) ?_
   exact Bf (b:=P) (o':=4) (i:=2) (j:=0) (v:=iV .u16<|((s.p.xs.getD i dS).1).2.2.2.2) rfl Aa isAgg22 rfl rfl rfl
  refine Bp (v:=pV A 3) ((((((s.p.xs.getD i dS).1).1)==c)&&(l.ext==d))&&((((s.p.xs.getD i dS).1).2.2.1)==f)) rfl (Bv rfl Aa) rfl (fun bf=>?_) (.inr fun _ o=>o) ?_
  ·refine Ys.yc ?_
   exact Ys.p
  refine Bp (v:=iV .u16 h) ((((((s.p.xs.getD i dS).1).1)==c)&&(l.ext==d))&&((((s.p.xs.getD i dS).1).2.2.1)==f)) rfl (Bv rfl Aa) rfl (fun aq=>?_) (.inr fun _ o=>o) ?_
  ·refine Ys.yc<|Bh (t:=39) (v0:=pV A 3) (lz (g:=(((((s.p.xs.getD i dS).1).1)==c)&&(l.ext==d))&&((((s.p.xs.getD i dS).1).2.2.1)==f)) (u:=undef) aq Aa) ?_
   exact Cn A 3 4 0 isAgg22
  refine Bp (v:=bV<|(((s.p.xs.getD i dS).1).2.2.2.2)==h) ((((((s.p.xs.getD i dS).1).1)==c)&&(l.ext==d))&&((((s.p.xs.getD i dS).1).2.2.1)==f)) rfl (Bv rfl Aa) rfl (fun S=>?_) (.inr fun _ o=>o) ?_
  ·refine Ys.yc<|Bh (t:=38) (v0:=iV .u16<|((s.p.xs.getD i dS).1).2.2.2.2) (lz (g:=(((((s.p.xs.getD i dS).1).1)==c)&&(l.ext==d))&&((((s.p.xs.getD i dS).1).2.2.1)==f)) (u:=undef) S Aa)<|Bh (t:=40) (v0:=iV .u16 h) (lz (g:=(((((s.p.xs.getD i dS).1).1)==c)&&(l.ext==d))&&((((s.p.xs.getD i dS).1).2.2.1)==f)) (u:=undef) S Aa) ?_
   exact Ys.p
  refine Gg (v:=bV<|((((((s.p.xs.getD i dS).1).1)==c)&&(l.ext==d))&&((((s.p.xs.getD i dS).1).2.2.1)==f))&&((((s.p.xs.getD i dS).1).2.2.2.2)==h)) rfl (B9 (e:=(((((s.p.xs.getD i dS).1).1)==c)&&(l.ext==d))&&((((s.p.xs.getD i dS).1).2.2.1)==f)) (b:=(((s.p.xs.getD i dS).1).2.2.2.2)==h) rfl Aa Aa Aa)<|Cl<|Al [0,1,3,4] An rfl ?_
  refine Ak (((((((s.p.xs.getD i dS).1).1)==c)&&(l.ext==d))&&((((s.p.xs.getD i dS).1).2.2.1)==f))&&((((s.p.xs.getD i dS).1).2.2.2.2)==h)) Aa (fun Z=>?_) fun a2=>?_
  ·have ar:=Z;try simp only[zA]at ar
   refine Av<|Ab 1<|Af rfl (Bd H 0 2 0 (pV B 0) sizeOf93 rfl rfl) fun _=>Ay ?_
   refine A9<|Gu ?_
   exact fun C o=>Exists.intro (some B)<|And.intro ⟨rfl,⟨(by unfold Mc;rw[Ks (0,Cq) ah E (by rw[J];have T:=Z;rw[L]at T;exact T),J];rfl),(by unfold Mc;rw[Ks (0,Cq) ah E (by rw[J];have T:=Z;rw[L]at T;exact T)];simp)⟩⟩ o
  ·refine Ag ?_
   exact fun C o=>Exists.intro r<|And.intro ⟨hr,(fun j hj=>(Nat.lt_succ_iff_lt_or_eq.1 hj).elim (E j) fun e_=>by subst e_;exact(by rw[J];have T:=a2;rw[L]at T;exact T))⟩ o
 ·intro D50 bs bg a3 au
  obtain⟨r,rfl⟩: ∃a_,a_=a3:=⟨_,rfl⟩
  obtain⟨hr,E⟩:=au
  refine Gc (LL':=[[cb I [pL (some ⟨k.ts,0,none⟩)] 85],[cb H [pL (Cz r)] 93],[cb A [iV .u8 c,iV .u32 f,iV .u32 x,iV .u16 h,iV .u16 d] 47],dB D50]) [4,2,3,0] An rfl<|A9<|Al [1,3] An rfl<|Av ?_
  refine Af rfl (Bd H 0 0 0 (pL none) sizeOf93 rfl rfl) fun _=>Ai<|Gu ?_
  show∀C,_→bodyPostM (Cv none) 0 prog Tryz.f43 _ Exit.ret _ C
  exact fun C F=>Fq (F.mark (i:=1) rfl).1 (by have G:Mem w [] [[cb H Ha 93],[⟨D50,.deferred none⟩]] _:=(F.mark (i:=1) rfl).2;exact Abx rfl (Cg (b:=H) (o':=0) (i:=0) (j:=0) (cs:=Ha) (v:=pL none) Aa isAgg93 rfl rfl rfl) G ⟨by refine Eo ?_;unfold Mc;rw[Kt (0,Cq) (fun j hj=>E j<|by rw[O,List.length_map];exact hj)];rfl,G.below⟩)
 ·intro D57 bt bh bu a5 av
  obtain⟨r,rfl⟩: ∃a_,a_=a5:=⟨_,rfl⟩
  rcases av with⟨rfl,⟨hr,hyes⟩⟩
  refine Al [4,2,3,0] An rfl<|Gu ?_
  show∀C,_→bodyPostM (Cv none) 0 prog Tryz.f43 _ Exit.ret _ C
  exact fun C F=>Fq (F.mark (i:=3) rfl).1 (by have G:Mem w [] [[cb I [pL (some ⟨k.ts,0,none⟩)] 85],[cb H [pL (Cz r)] 93],[cb A [iV .u8 c,iV .u32 f,iV .u32 x,iV .u16 h,iV .u16 d] 47],[⟨D57,.deferred none⟩]] _:=(F.mark (i:=3) rfl).2;exact Abx rfl (Cg (b:=H) (o':=0) (i:=1) (j:=0) (cs:=[pL (Cz r)]) (v:=pL<|Cz r) Aa isAgg93 rfl rfl rfl) G ⟨by refine Eo ?_;rw[hr],G.below⟩)
def tgQ(f:Ci)(t:Ix)(z:Ix×Lse):Bool:= !(((z.1.1==f.1)&&(z.2.ext==f.2.2.2.2))==(Dk [Value.int .u8 z.1.1,Value.int .u32 z.1.2.1,Value.int .u16 z.1.2.2] [Value.int .u8 t.1,Value.int .u32 t.2.1,Value.int .u16 t.2.2]))
def Bi(c:Conf.Cfg)(fx:List Conf.Fwd)(p:NP)(f:Ci):Ix×Bool×Option Nat×Int:=
  bif (Ex p.ms f).isSome then((f.1,((Ex p.ms f).getD Ax).host,((Ex p.ms f).getD Ax).to),false,none,0)else
  bif (Mc f p.es).isSome&&((Mc f p.es).getD (0,Cq)).2.lan then((((Mc f p.es).getD (0,Cq)).2.pr,((Mc f p.es).getD (0,Cq)).2.src,((Mc f p.es).getD (0,Cq)).2.frm),false,some ((Mc f p.es).getD (0,Cq)).1,0)else
  bif Eb fx f.1 f.2.2.2.2 then((f.1,(C0 fx f.1 f.2.2.2.2).host,(C0 fx f.1 f.2.2.2.2).dest),false,none,0)else
  bif (c.dmz==0)||Ma p.ms fx f.1 f.2.2.2.2 then((f.1,c.dmz,f.2.2.2.2),false,none,21)else
  bif p.zs.any (tgQ f (f.1,c.dmz,f.2.2.2.2))then((f.1,c.dmz,f.2.2.2.2),false,none,21)else((f.1,c.dmz,f.2.2.2.2),true,none,0)
theorem Aic{f:Ci}{es:List (Nat×SesE)}(h:(Mc f es).isSome=true): ∃j:Nat,es[j]? =some ((Mc f es).getD (0,Cq)):=by
  obtain⟨x,b⟩:=Option.isSome_iff_exists.1 h
  rw[b]
  have:=List.mem_of_find?_eq_some b
  obtain⟨j,c,e⟩:=List.getElem_of_mem this
  exact⟨j,by rw[List.getElem?_eq_getElem c,e];rfl⟩
abbrev Qz(b c d e f:Int)(g:Nat):List Blk:=[cb g [iV .u8 b,iV .u32 c,iV .u32 d,iV .u16 e,iV .u16 f] 47]
abbrev Q10(k:NK):List Value:=(ckL k)
abbrev Q11(b c:Int)(k:NK):List Value:=(L8 (C0 k.fx b c))
abbrev Q12(b d:Int)(k:NK):List Value:=[iV .u8 b,iV .u32 k.c.dmz,iV .u16 d]
abbrev Q13:List Value:=Anx
abbrev Q14:List Value:=zl5
theorem Aat(k:NK)(s:NS)(d g h l f:Int)(w:World)(F:NAt k s w)(ok:NOk k s)(V:s.p.xs=s.p.es.map P4)(I:(Mc (d,g,h,l,f) s.p.es)=none):Calls prog 47 #[pL (some ⟨k.nb,0,none⟩),aV [iV .u8 d,iV .u32 g,iV .u32 h,iV .u16 l,iV .u16 f]] w (Df w (.tuple #[.agg [.int .u8 (Bi k.c k.fx s.p (d,g,h,l,f)).1.1,.int .u32 (Bi k.c k.fx s.p (d,g,h,l,f)).1.2.1,.int .u16 (Bi k.c k.fx s.p (d,g,h,l,f)).1.2.2].toArray,.bool (Bi k.c k.fx s.p (d,g,h,l,f)).2.1,.pointer (Cz (Bi k.c k.fx s.p (d,g,h,l,f)).2.2.1),.int .i64 (Bi k.c k.fx s.p (d,g,h,l,f)).2.2.2])):=by
 obtain⟨a2,a3,a5,av,a6⟩:=NOk.len ok
 refine Ap (M:=[]) (LL:=[]) (n:=120) func47 rfl rfl A7 (Mem.refl _)<|W.s ?_
 refine Ac<|Af rfl (Bx [iV .u8 d,iV .u32 g,iV .u32 h,iV .u16 l,iV .u16 f] rfl) fun G=>?_
 refine Af rfl (Ba zeroValue97) fun x=>Af rfl (Ba zeroValue4) fun A=>?_
 refine Af rfl (Ba zeroValue93) fun B=>Af rfl (Ba zeroValue41) fun C=>?_
 refine Ai<|W.s<|Av ?_
 refine A5 2 [(4,0)]<|Cb (v:=Value.tuple #[aV (K0<|(Ex s.p.ms (d,g,h,l,f)).getD Ax),bV ((Ex s.p.ms (d,g,h,l,f)).isSome)]) (A8 fun u r=>(Tb k.c k.fx k.gf.a k.gf.cap s.p.ms s.gm.a s.gm.cap k.ts k.te s.p.tk k.wb k.ti s.p.lst k.nb (d,g,h,l,f) _ (F.nat.mem0 r) (F.fx.mem0 r) Ey (F.ms.mem0 r) Ey))<|Ab 3<|Af rfl (Ba zeroValue26) fun p8=>Af rfl (A0 p8 0 0 0 (K0<|(Ex s.p.ms (d,g,h,l,f)).getD Ax) sizeOf26 rfl rfl) fun _=>?_
 refine Ab 1<|Ai<|Aj [] ?_
 refine Ak ((Ex s.p.ms (d,g,h,l,f)).isSome) Aa (fun h7=>?_) fun h8=>?_
 ·refine Av<|A5 7 [(5,0),(0,0),(0,0)]<|Af rfl (A0 x 0 4 0 [iV .u8 d,iV .u32<|((Ex s.p.ms (d,g,h,l,f)).getD Ax).host,iV .u16 (((Ex s.p.ms (d,g,h,l,f)).getD Ax).to)] sizeOf97 rfl rfl) fun _=>Af rfl (Bd A 0 3 0 (bV false) sizeOf4 rfl rfl) fun _=>?_
  refine Af rfl (Bd B 0 2 0 (pL none) sizeOf93 rfl rfl) fun _=>Af rfl (Bd C 0 1 0 (iV .i64 0) sizeOf41 rfl rfl) fun _=>?_
  refine Ai<|Al [1,2,3,4] An rfl<|Gu ?_
  show∀u,_→bodyPostM (Cv none) 0 prog Tryz.f47 _ Exit.ret _ u
  exact fun u t=>Hv<|Ri rfl (Bu x 0 3 0 [iV .u8 d,iV .u32<|((Ex s.p.ms (d,g,h,l,f)).getD Ax).host,iV .u16 (((Ex s.p.ms (d,g,h,l,f)).getD Ax).to)] isAgg97 sizeOf97) (Cg (b:=A) (o':=0) (i:=2) (j:=0) (cs:=[bV false]) (v:=bV false) Aa isAgg4 rfl rfl rfl) (Cg (b:=B) (o':=0) (i:=1) (j:=0) (cs:=Ha) (v:=Value.pointer none) Aa isAgg93 rfl rfl rfl) (Cg (b:=C) (o':=0) (i:=0) (j:=0) (cs:=[iV .i64 0]) (v:=iV .i64 0) Aa isAgg41 rfl rfl rfl) t ⟨by refine Eo ?_;unfold Bi;simp only[(show(Ex s.p.ms (d,g,h,l,f)).isSome=true from h7),cond_true,cond_false];try rfl,t.below⟩
 ·refine Ag<|A9<|Al [1,2,3,4,5] An rfl<|W.s<|W.s ?_
  refine Ac<|A5 2 [(4,0)]<|Cb (v:=pL<|Cz<|(Mc (d,g,h,l,f) s.p.es).map Prod.fst) (A8 fun u r=>(P5 k s d g h l f _ (F.mem0 r) ok V))<|Ao (v:=pL none) ((Ys.p (v:=pL<|Cz<|(Mc (d,g,h,l,f) s.p.es).map Prod.fst)).conseq<|(by rw[I];rfl))<|Ay ?_
  refine A9<|Aj []<|B4 Aa<|Ag<|A9 ?_
  refine W.s<|W.s ?_
  refine E5 [0,1,2,3,4,5,6,7,9,10,11,14] (Mem w [] [[cb C [iV .i64 0] 41],[cb B Ha 93],[cb A [bV false] 4],[cb x Q13 97],Qz d g h l f G]) Aa Aa (fun _ _ o=>o.drawn _) ?_
  refine Ef (w0:=w) (M:=[]) [0,3,4,5,6,7,11,59,60] (fun(H:Nat)=>[pL (some ⟨k.nb,0,none⟩),pV G 0,pV x 0,pV A 0,pV B 0,pV C 0,pV H 0,aV<|Q11 d f k,bV (Eb k.fx d f)]) (fun(H:Nat)=>True) (fun(H:Nat)=>[[cb H Q14 65],[cb C [iV .i64 0] 41],[cb B Ha 93],[cb A [bV false] 4],[cb x Q13 97],Qz d g h l f G]) 2 #[true,true,true,true,true,true,true,true,true,true,true,true,true,false,false] (fun H aw a9=>?_) fun JD22=>?_
  ·obtain⟨D,rfl⟩: ∃R,R=H:=⟨_,rfl⟩
   refine A6 (i:=13) Aa<|Cp rfl rfl (A0 D 0 0 0 (Q11 d f k) sizeOf65 rfl rfl) (Az [1,2,3,4,5]) fun _=>?_
   refine Wa.ys (v:=bV<|Eb k.fx d f) (i:=14) Aa Aa Aa Aa (fun _ o=>o.pick [1,2,3,4,5] An rfl) rfl rfl rfl (Ys.p)<|Ej Aa<|A9<|Aj [] ?_
   refine Ak (Eb k.fx d f) Aa (fun ak=>?_) fun S=>?_
   ·refine Av<|A5 7 [(5,0),(0,0),(0,0)]<|Af rfl (A0 x 0 4 0 [iV .u8 d,iV .u32<|(C0 k.fx d f).host,iV .u16 ((C0 k.fx d f).dest)] sizeOf97 rfl rfl) fun _=>Af rfl (Bd A 0 3 0 (bV false) sizeOf4 rfl rfl) fun _=>?_
    refine Af rfl (Bd B 0 2 0 (pL none) sizeOf93 rfl rfl) fun _=>Af rfl (Bd C 0 1 0 (iV .i64 0) sizeOf41 rfl rfl) fun _=>?_
    refine Ai<|Al [1,2,3,4] An rfl<|Gu ?_
    show∀u,_→bodyPostM (Cv none) 0 prog Tryz.f47 _ Exit.ret _ u
    exact fun u t=>Hv<|Ri rfl (Bu x 0 3 0 [iV .u8 d,iV .u32<|(C0 k.fx d f).host,iV .u16 ((C0 k.fx d f).dest)] isAgg97 sizeOf97) (Cg (b:=A) (o':=0) (i:=2) (j:=0) (cs:=[bV false]) (v:=bV false) Aa isAgg4 rfl rfl rfl) (Cg (b:=B) (o':=0) (i:=1) (j:=0) (cs:=Ha) (v:=Value.pointer none) Aa isAgg93 rfl rfl rfl) (Cg (b:=C) (o':=0) (i:=0) (j:=0) (cs:=[iV .i64 0]) (v:=iV .i64 0) Aa isAgg41 rfl rfl rfl) t ⟨by refine Eo ?_;unfold Bi;simp only[(show(Ex s.p.ms (d,g,h,l,f)).isSome=false from h8),I,(show((none:Option (Nat×SesE)).isSome&&((none:Option (Nat×SesE)).getD (0,Cq)).2.lan)=false from rfl),(show(Eb k.fx d f)=true from ak),cond_true,cond_false];try rfl,t.below⟩
   ·refine Ag<|A9<|Al [1,2,3,4,5] An rfl<|W.s<|C5 [(0,true),(1,true),(2,true),(3,true),(4,true),(5,true),(6,true),(7,false),(8,false),(9,false),(10,false)] [0,1,2,3,4,5,6] ?_
    refine Dh 6 [(4,0)]<|Bm (v:=iV .u32 k.c.dmz) rfl (Ys.ld (a:=⟨k.nb,26,none⟩) rfl Aa isAgg24 fun u o=>by have J:=(F.nat.mem0 o).ld (q:=26) ((Cf rfl An).trans rfl);rw[Be]at J;exact J)<|Bs 3 [(4,0)]<|Cj rfl rfl (A0 x 0 3 0 (Q12 d f k) sizeOf97 rfl rfl) (.inl Aa) fun _=>Ev ?_
    refine A9<|W.s ?_
    refine Av<|Ab 4<|Ao (v:=iV .u32 k.c.dmz) (Ys.ld (a:=⟨k.nb,26,none⟩) rfl Aa isAgg24 fun u o=>by have J:=(F.nat.mem0 o).ld (q:=26) ((Cf rfl An).trans rfl);rw[Be]at J;exact J)<|Ab 2 ?_
    refine C1 6 (k.c.dmz==0) (fun _=>Gs.m 5 [(4,0),(4,0)]<|Gs.k (v:=bV<|Ma s.p.ms k.fx d f) (A8 fun u r=>(Up k s d f _ (F.mem0 r) ok)) Gs.nil)<|Ao (v:=bV<|(k.c.dmz==0)||(Ma s.p.ms k.fx d f)) (Ce (e:=k.c.dmz==0) (b:=Ma s.p.ms k.fx d f) rfl Aa Aa Aa)<|Ai ?_
    refine Ak ((k.c.dmz==0)||(Ma s.p.ms k.fx d f)) Aa (fun X=>?_) fun T=>?_
    ·have Y:=X;try simp only[zA]at Y
     refine Av<|A5 1 [(3,0)]<|Af rfl (A0 x 0 3 0 (Q12 d f k) sizeOf97 rfl rfl) fun _=>Af rfl (Bd A 0 2 0 (bV false) sizeOf4 rfl rfl) fun _=>?_
     refine Af rfl (Bd B 0 1 0 (pL none) sizeOf93 rfl rfl) fun _=>Af rfl (Bd C 0 0 0 (iV .i64 21) sizeOf41 rfl rfl) fun _=>?_
     refine Ai<|Al [0,1,2,3] An rfl<|Gu ?_
     show∀u,_→bodyPostM (Cv none) 0 prog Tryz.f47 _ Exit.ret _ u
     exact fun u t=>Hv<|Ri rfl (Bu x 0 3 0 [iV .u8 d,iV .u32 k.c.dmz,iV .u16 f] isAgg97 sizeOf97) (Cg (b:=A) (o':=0) (i:=2) (j:=0) (cs:=[bV false]) (v:=bV false) Aa isAgg4 rfl rfl rfl) (Cg (b:=B) (o':=0) (i:=1) (j:=0) (cs:=Ha) (v:=Value.pointer none) Aa isAgg93 rfl rfl rfl) (Cg (b:=C) (o':=0) (i:=0) (j:=0) (cs:=[iV .i64 21]) (v:=iV .i64 21) Aa isAgg41 rfl rfl rfl) t ⟨by refine Eo ?_;unfold Bi;simp only[(show(Ex s.p.ms (d,g,h,l,f)).isSome=false from h8),I,(show((none:Option (Nat×SesE)).isSome&&((none:Option (Nat×SesE)).getD (0,Cq)).2.lan)=false from rfl),(show(Eb k.fx d f)=false from S),(show((k.c.dmz==0)||(Ma s.p.ms k.fx d f))=true from X),cond_true,cond_false];try rfl,t.below⟩
    ·have Z:=T;try simp only[zA]at Z
     refine Ag<|A9<|W.s<|Av ?_
     refine Ab 3<|Ao (v:=pL<|some ⟨k.te,0,none⟩) (Ys.ld (a:=⟨k.nb,30,none⟩) rfl Aa isAgg86 fun u o=>by have J:=(F.nat.mem0 o).ld (q:=30) ((Cf rfl An).trans rfl);rw[Be]at J;exact J)<|Aw rfl (Au [] [0,1,2,3,4] fun u r ba=>(Xg k.te _)) fun E _=>Ai ?_
     refine W.block ?_
     refine Jn (σ:=Int) (enc:=fun i=>[aV (Ky<|(s.p.zs.getD i dD).1),aV [iV .u16 (((s.p.zs.getD i dD).2).ext),iV .i64 (((s.p.zs.getD i dD).2).count)]]) (N:=s.p.zs.length) (Lu:=fun(L:Int)=>[[cb C [iV .i64 L] 41],[cb B Ha 93],[cb A [bV false] 4],[cb x (Q12 d f k) 97],Qz d g h l f G]) (Li:=[[cb E [pL (some ⟨k.te,0,none⟩)] 86]]) (Lk:=[]) [1,2,3,4,5] [0] [] 0 (fun i (L:Int)=>L=0∧ ∀j,j<i→tgQ (d,g,h,l,f) (d,k.c.dmz,f) (s.p.zs.getD j dD)=false) (fun c_ (L:Int)=>((c_=.ret∧L=21∧s.p.zs.any (tgQ (d,g,h,l,f) (d,k.c.dmz,f))=true))) [99,100] Aa (fun _ _=>rfl) An (by rfl) rfl rfl rfl (fun _=>rfl) (⟨rfl,(fun j hj=>absurd hj<|Nat.not_lt_zero j)⟩) (fun D_ l_ bc am r=>(T8 s.p.zs s.ge.a s.ge.cap k.mo k.te E _ am (F.atD.mem0 r) (F.zs.mem0 r) D1)) ?_ ?_ ?_
     ·intro D55 bd ax ay i an bf Mu62 bg az aa ao ab
      obtain⟨Q,rfl⟩: ∃R,R=an:=⟨_,rfl⟩
      obtain⟨P,U⟩:=aa
      refine Av<|Af rfl (Ba zeroValue97) fun ad=>Af rfl (A0 ad 0 0 0 (Ky<|(s.p.zs.getD i dD).1) sizeOf97 rfl rfl) fun _=>Ay ?_
      refine A9<|Ac<|Af rfl (Ba zeroValue99) fun ae=>Af rfl (A0 ae 0 0 0 [iV .u16 (((s.p.zs.getD i dD).2).ext),iV .i64 (((s.p.zs.getD i dD).2).count)] sizeOf99 rfl rfl) fun _=>Ay ?_
      refine fun u o=>ab _ [[cb ae [iV .u16 (((s.p.zs.getD i dD).2).ext),iV .i64 (((s.p.zs.getD i dD).2).count)] 99],[cb ad (Ky<|(s.p.zs.getD i dD).1) 97],[cb C [iV .i64 Q] 41],[cb B Ha 93],[cb A [bV false] 4],[cb x [iV .u8 d,iV .u32 k.c.dmz,iV .u16 f] 97],Qz d g h l f G] ?_ u<|o.pick [2,3,0,1,4,5,6,7,8] An rfl
      refine W.block<|W.s ?_
      refine Ac<|A5 6 [(3,0),(8,0)]<|Da 5 ((((s.p.zs.getD i dD).1).1)==d) (fun _=>Gs.z [(2,0),(8,0)])<|Ao (v:=bV<|((((s.p.zs.getD i dD).1).1)==d)&&((((s.p.zs.getD i dD).2).ext)==f)) (B9 (e:=(((s.p.zs.getD i dD).1).1)==d) (b:=(((s.p.zs.getD i dD).2).ext)==f) rfl Aa Aa Aa)<|Ab 1 ?_
      refine Ai<|Al [0,1,3,4,5,6,7,8] An rfl<|Av ?_
      refine A5 3 [(2,0),(6,0)]<|Ao (v:=bV<|Dk (Ky<|(s.p.zs.getD i dD).1)<|Q12 d f k) (Ab9 (ls:=[.int .u8,.int .u32,.int .u16]) (cs:=(Ky<|(s.p.zs.getD i dD).1)) (cs':=(Q12 d f k)) (b:=Dk (Ky<|(s.p.zs.getD i dD).1)<|Q12 d f k) rfl Aa Aa Aa Aa Aa ⟨⟨_,rfl⟩,⟨_,rfl⟩,⟨_,rfl⟩,trivial⟩ ⟨⟨_,rfl⟩,⟨_,rfl⟩,⟨_,rfl⟩,trivial⟩ rfl)<|Ab 1<|Ai ?_
      refine Al [0,1,3,4,5,6,7] An rfl ?_
      refine Ak (!((((((s.p.zs.getD i dD).1).1)==d)&&((((s.p.zs.getD i dD).2).ext)==f))==(Dk (Ky<|(s.p.zs.getD i dD).1) [iV .u8 d,iV .u32 k.c.dmz,iV .u16 f]))) Aa (fun af=>?_) fun ap=>?_
      ·have ag:=af;try simp only[zA]at ag
       refine Av<|A5 1 [(5,0)]<|Af rfl (A0 x 0 5 0 (Q12 d f k) sizeOf97 rfl rfl) fun _=>Af rfl (Bd A 0 4 0 (bV false) sizeOf4 rfl rfl) fun _=>?_
       refine Af rfl (Bd B 0 3 0 (pL none) sizeOf93 rfl rfl) fun _=>Af rfl (Bd C 0 2 0 (iV .i64 21) sizeOf41 rfl rfl) fun _=>?_
       refine Ai<|Gu ?_
       exact fun u o=>Exists.intro 21<|And.intro ⟨rfl,⟨rfl,(Xu dD Ae (by have z_:=af;exact z_))⟩⟩ o
      ·refine Ag ?_
       exact fun u o=>Exists.intro Q<|And.intro ⟨P,(fun j hj=>(Nat.lt_succ_iff_lt_or_eq.1 hj).elim (U j) fun e_=>by subst e_;exact(by have z_:=ap;exact z_))⟩ o
     ·intro D84 bi a0 ar ah
      obtain⟨Q,rfl⟩: ∃R,R=ar:=⟨_,rfl⟩
      obtain⟨P,U⟩:=ah
      refine Gc (LL':=[[cb E [pL (some ⟨k.te,0,none⟩)] 86],[cb C [iV .i64 Q] 41],[cb B Ha 93],[cb A [bV false] 4],[cb x (Q12 d f k) 97],Qz d g h l f G,dB D84]) [7,2,3,4,5,6,0] An rfl<|A9<|Al [1,2,3,4,6] An rfl<|Av ?_
      refine A5 1 [(3,0)]<|Af rfl (A0 x 0 3 0 (Q12 d f k) sizeOf97 rfl rfl) fun _=>?_
      refine Af rfl (Bd A 0 2 0 (bV true) sizeOf4 rfl rfl) fun _=>Af rfl (Bd B 0 1 0 (pL none) sizeOf93 rfl rfl) fun _=>?_
      refine Af rfl (Bd C 0 0 0 (iV .i64 0) sizeOf41 rfl rfl) fun _=>Ai<|Gu ?_
      show∀u,_→bodyPostM (Cv none) 0 prog Tryz.f47 _ Exit.ret _ u
      exact fun u O=>Fq (O.mark (i:=4) rfl).1 (by have t:Mem w [] [[cb C [iV .i64 0] 41],[cb B Ha 93],[cb A [bV true] 4],[cb x [iV .u8 d,iV .u32 k.c.dmz,iV .u16 f] 97],[⟨D84,.deferred none⟩]] _:=(O.mark (i:=4) rfl).2;exact Ri rfl (Bu x 0 3 0 [iV .u8 d,iV .u32 k.c.dmz,iV .u16 f] isAgg97 sizeOf97) (Cg (b:=A) (o':=0) (i:=2) (j:=0) (cs:=[bV true]) (v:=bV true) Aa isAgg4 rfl rfl rfl) (Cg (b:=B) (o':=0) (i:=1) (j:=0) (cs:=Ha) (v:=Value.pointer none) Aa isAgg93 rfl rfl rfl) (Cg (b:=C) (o':=0) (i:=0) (j:=0) (cs:=[iV .i64 0]) (v:=iV .i64 0) Aa isAgg41 rfl rfl rfl) t ⟨by refine Eo ?_;unfold Bi;simp only[(show(Ex s.p.ms (d,g,h,l,f)).isSome=false from h8),I,(show((none:Option (Nat×SesE)).isSome&&((none:Option (Nat×SesE)).getD (0,Cq)).2.lan)=false from rfl),(show(Eb k.fx d f)=false from S),(show((k.c.dmz==0)||(Ma s.p.ms k.fx d f))=false from T),(Xt dD U:s.p.zs.any (tgQ (d,g,h,l,f) (d,k.c.dmz,f))=false),cond_true,cond_false];try rfl,t.below⟩)
     ·intro D92 bj a1 bk au ai
      obtain⟨Q,rfl⟩: ∃R,R=au:=⟨_,rfl⟩
      rcases ai with⟨rfl,⟨P,hyes⟩⟩
      refine Al [7,2,3,4,5,6,0] An rfl<|Gu ?_
      show∀u,_→bodyPostM (Cv none) 0 prog Tryz.f47 _ Exit.ret _ u
      exact fun u O=>Fq (O.mark (i:=6) rfl).1 (by have t:Mem w [] [[cb E [Value.pointer (some ⟨k.te,0,none⟩)] 86],[cb C [iV .i64 Q] 41],[cb B Ha 93],[cb A [bV false] 4],[cb x [iV .u8 d,iV .u32 k.c.dmz,iV .u16 f] 97],Qz d g h l f G,[⟨D92,.deferred none⟩]] _:=(O.mark (i:=6) rfl).2;exact Ri rfl (Bu x 0 4 0 [iV .u8 d,iV .u32 k.c.dmz,iV .u16 f] isAgg97 sizeOf97) (Cg (b:=A) (o':=0) (i:=3) (j:=0) (cs:=[bV false]) (v:=bV false) Aa isAgg4 rfl rfl rfl) (Cg (b:=B) (o':=0) (i:=2) (j:=0) (cs:=Ha) (v:=Value.pointer none) Aa isAgg93 rfl rfl rfl) (Cg (b:=C) (o':=0) (i:=1) (j:=0) (cs:=[iV .i64 Q]) (v:=iV .i64 Q) Aa isAgg41 rfl rfl rfl) t ⟨by refine Eo ?_;rw[P];unfold Bi;simp only[(show(Ex s.p.ms (d,g,h,l,f)).isSome=false from h8),I,(show((none:Option (Nat×SesE)).isSome&&((none:Option (Nat×SesE)).getD (0,Cq)).2.lan)=false from rfl),(show(Eb k.fx d f)=false from S),(show((k.c.dmz==0)||(Ma s.p.ms k.fx d f))=false from T),hyes,cond_true,cond_false];try rfl,t.below⟩)
  ·refine Wa.ys (v:=pL<|some ⟨k.nb,0,none⟩) (i:=0) Aa Aa Aa Aa (fun _ o=>o) rfl rfl rfl (Ys.p)<|Wa.ys (v:=pL<|some ⟨k.nb,0,none⟩) (i:=1) Aa Aa Aa Aa (fun _ o=>o) rfl rfl rfl (Ys.p)<|Wa.ys (v:=pL<|some ⟨k.nb,0,none⟩) (i:=2) Aa Aa Aa Aa (fun _ o=>o) rfl rfl rfl (Ys.p)<|Wa.ys (v:=aV<|Q10 k) (i:=3) Aa Aa Aa Aa (fun _ o=>o) rfl rfl rfl (Ys.ldN (a:=⟨k.nb,0,none⟩) (vs:=(Q10 k)) rfl Aa isAgg32 sizeOf32 rfl fun u o=>by have J:=(F.nat.mem0 o).ldN (q:=0) (vs:=(Q10 k)) (N2);rw[Be]at J;exact J)<|Wa.ys (v:=pV G 0) (i:=4) Aa Aa Aa Aa (fun _ o=>o) rfl rfl rfl (Ys.p) ?_
   refine Wa.ys (i:=5) Aa Aa Aa Aa (fun _ o=>o) rfl rfl rfl (Cn G 0 4 0 isAgg5)<|Wa.ys (v:=pV G 4) (i:=6) Aa Aa Aa Aa (fun _ o=>o) rfl rfl rfl (Ys.p)<|Wa.ys (i:=7) Aa Aa Aa Aa (fun _ o=>o) rfl rfl rfl (Cn G 4 4 0 isAgg22) ?_
   refine C9 (i:=8) (j:=12) Aa ?_ ?_
   ·refine Wo.yc (v:=Value.tuple #[aV (Q11 d f k),bV (Eb k.fx d f)]) rfl rfl rfl (A8 fun u r=>(I9 (⟨k.c.lm0,k.c.lm1,k.c.lm2,k.c.lm3,k.c.lm4,k.c.lm5,k.c.wm0,k.c.wm1,k.c.wm2,k.c.wm3,k.c.wm4,k.c.wm5,k.c.hm0,k.c.hm1,k.c.hm2,k.c.hm3,k.c.hm4,k.c.hm5,k.c.lan,k.c.wan,k.c.bits,k.c.ms,k.c.mm,k.c.mc,k.c.mu,k.gf.a,k.fx.length,k.gf.cap,k.c.dmz,k.c.uu⟩:Conf.Cfg) k.fx k.gf.a k.gf.cap d f _ (F.fx.mem0 r) D1)) (.inr fun _ o=>o)<|Wa.ys (v:=Value.tuple #[aV (Q11 d f k),bV (Eb k.fx d f)]) (i:=9) Aa Aa Aa Aa (fun _ o=>o) rfl rfl rfl (Ys.p)<|Wa.ys (v:=aV<|Q11 d f k) (i:=10) Aa Aa Aa Aa (fun _ o=>o) rfl rfl rfl (Ys.p)<|Wa.ys (v:=bV<|Eb k.fx d f) (i:=11) Aa Aa Aa Aa (fun _ o=>o) rfl rfl rfl (Ys.p)<|A6 (i:=12) Aa ?_
    refine Cp rfl rfl (Ba zeroValue65) (Az [1,2,3,4,5]) fun D=>?_
    exact Ck [0,3,4,5,6,7,11,59,60] [pL (some ⟨k.nb,0,none⟩),pV G 0,pV x 0,pV A 0,pV B 0,pV C 0,pV D 0,aV<|L8<|C0 k.fx d f,bV (Eb k.fx d f)] #[true,true,true,true,true,true,true,true,true,true,true,true,true,false,false] (JD22 D trivial) Aa Aa fun _ o=>o
   ·refine Cp rfl rfl (Ba zeroValue65) (Az [1,2,3,4,5]) fun D=>A6 (i:=8) Aa<|Wo.yc (v:=Value.tuple #[aV (Q11 d f k),bV (Eb k.fx d f)]) rfl rfl rfl (A8 fun u r=>(I9 (⟨k.c.lm0,k.c.lm1,k.c.lm2,k.c.lm3,k.c.lm4,k.c.lm5,k.c.wm0,k.c.wm1,k.c.wm2,k.c.wm3,k.c.wm4,k.c.wm5,k.c.hm0,k.c.hm1,k.c.hm2,k.c.hm3,k.c.hm4,k.c.hm5,k.c.lan,k.c.wan,k.c.bits,k.c.ms,k.c.mm,k.c.mc,k.c.mu,k.gf.a,k.fx.length,k.gf.cap,k.c.dmz,k.c.uu⟩:Conf.Cfg) k.fx k.gf.a k.gf.cap d f _ (F.fx.mem0 r) D1)) (Ee [1,2,3,4,5])<|Wa.ys (v:=Value.tuple #[aV (Q11 d f k),bV (Eb k.fx d f)]) (i:=9) Aa Aa Aa Aa (fun _ o=>o.pick [1,2,3,4,5] An rfl) rfl rfl rfl (Ys.p)<|Wa.ys (v:=aV<|Q11 d f k) (i:=10) Aa Aa Aa Aa (fun _ o=>o.pick [1,2,3,4,5] An rfl) rfl rfl rfl (Ys.p) ?_
    refine Wa.ys (v:=bV<|Eb k.fx d f) (i:=11) Aa Aa Aa Aa (fun _ o=>o.pick [1,2,3,4,5] An rfl) rfl rfl rfl (Ys.p) ?_
    exact Ck [0,3,4,5,6,7,11,59,60] [pL (some ⟨k.nb,0,none⟩),pV G 0,pV x 0,pV A 0,pV B 0,pV C 0,pV D 0,aV<|L8<|C0 k.fx d f,bV (Eb k.fx d f)] #[true,true,true,true,true,true,true,true,true,true,true,true,true,false,false] (JD22 D trivial) Aa Aa fun _ o=>o
abbrev Q15(b c d e f:Int)(g:Nat):List Blk:=[cb g [iV .u8 b,iV .u32 c,iV .u32 d,iV .u16 e,iV .u16 f] 47]
abbrev Q16(k:NK):List Value:=(ckL k)
abbrev Q17(b c:Int)(k:NK):List Value:=(L8 (C0 k.fx b c))
abbrev Q18(b d:Int)(k:NK):List Value:=[iV .u8 b,iV .u32 k.c.dmz,iV .u16 d]
abbrev Q19:List Value:=Anx
abbrev Q1a:List Value:=zl5
theorem Aau(k:NK)(s:NS)(d g h l f:Int)(E:Nat)(r:SesE)(w:World)(I:NAt k s w)(ok:NOk k s)(aa:s.p.xs=s.p.es.map P4)(J:(Mc (d,g,h,l,f) s.p.es)=some (E,r))(hx:At w (some ⟨E,0,none⟩) (Ac0 r)):Calls prog 47 #[pL (some ⟨k.nb,0,none⟩),aV [iV .u8 d,iV .u32 g,iV .u32 h,iV .u16 l,iV .u16 f]] w (Df w (.tuple #[.agg [.int .u8 (Bi k.c k.fx s.p (d,g,h,l,f)).1.1,.int .u32 (Bi k.c k.fx s.p (d,g,h,l,f)).1.2.1,.int .u16 (Bi k.c k.fx s.p (d,g,h,l,f)).1.2.2].toArray,.bool (Bi k.c k.fx s.p (d,g,h,l,f)).2.1,.pointer (Cz (Bi k.c k.fx s.p (d,g,h,l,f)).2.2.1),.int .i64 (Bi k.c k.fx s.p (d,g,h,l,f)).2.2.2])):=by
 obtain⟨a9,ba,bb,a0,bc⟩:=NOk.len ok
 refine Ap (M:=[]) (LL:=[]) (n:=120) func47 rfl rfl A7 (Mem.refl _)<|W.s ?_
 refine Ac<|Af rfl (Bx [iV .u8 d,iV .u32 g,iV .u32 h,iV .u16 l,iV .u16 f] rfl) fun L=>?_
 refine Af rfl (Ba zeroValue97) fun A=>Af rfl (Ba zeroValue4) fun B=>?_
 refine Af rfl (Ba zeroValue93) fun C=>Af rfl (Ba zeroValue41) fun D=>?_
 refine Ai<|W.s<|Av ?_
 refine A5 2 [(4,0)]<|Cb (v:=Value.tuple #[aV (K0<|(Ex s.p.ms (d,g,h,l,f)).getD Ax),bV ((Ex s.p.ms (d,g,h,l,f)).isSome)]) (A8 fun u x=>(Tb k.c k.fx k.gf.a k.gf.cap s.p.ms s.gm.a s.gm.cap k.ts k.te s.p.tk k.wb k.ti s.p.lst k.nb (d,g,h,l,f) _ (I.nat.mem0 x) (I.fx.mem0 x) Ey (I.ms.mem0 x) Ey))<|Ab 3<|Af rfl (Ba zeroValue26) fun p8=>Af rfl (A0 p8 0 0 0 (K0<|(Ex s.p.ms (d,g,h,l,f)).getD Ax) sizeOf26 rfl rfl) fun _=>?_
 refine Ab 1<|Ai<|Aj [] ?_
 refine Ak ((Ex s.p.ms (d,g,h,l,f)).isSome) Aa (fun h7=>?_) fun h8=>?_
 ·refine Av<|A5 7 [(5,0),(0,0),(0,0)]<|Af rfl (A0 A 0 4 0 [iV .u8 d,iV .u32<|((Ex s.p.ms (d,g,h,l,f)).getD Ax).host,iV .u16 (((Ex s.p.ms (d,g,h,l,f)).getD Ax).to)] sizeOf97 rfl rfl) fun _=>Af rfl (Bd B 0 3 0 (bV false) sizeOf4 rfl rfl) fun _=>?_
  refine Af rfl (Bd C 0 2 0 (pL none) sizeOf93 rfl rfl) fun _=>Af rfl (Bd D 0 1 0 (iV .i64 0) sizeOf41 rfl rfl) fun _=>?_
  refine Ai<|Al [1,2,3,4] An rfl<|Gu ?_
  show∀u,_→bodyPostM (Cv none) 0 prog Tryz.f47 _ Exit.ret _ u
  exact fun u t=>Hv<|Ri rfl (Bu A 0 3 0 [iV .u8 d,iV .u32<|((Ex s.p.ms (d,g,h,l,f)).getD Ax).host,iV .u16 (((Ex s.p.ms (d,g,h,l,f)).getD Ax).to)] isAgg97 sizeOf97) (Cg (b:=B) (o':=0) (i:=2) (j:=0) (cs:=[bV false]) (v:=bV false) Aa isAgg4 rfl rfl rfl) (Cg (b:=C) (o':=0) (i:=1) (j:=0) (cs:=Ha) (v:=Value.pointer none) Aa isAgg93 rfl rfl rfl) (Cg (b:=D) (o':=0) (i:=0) (j:=0) (cs:=[iV .i64 0]) (v:=iV .i64 0) Aa isAgg41 rfl rfl rfl) t ⟨by refine Eo ?_;unfold Bi;simp only[(show(Ex s.p.ms (d,g,h,l,f)).isSome=true from h7),cond_true,cond_false];try rfl,t.below⟩
 ·refine Ag<|A9<|Al [1,2,3,4,5] An rfl<|W.s<|W.s ?_
  refine Ac<|A5 2 [(4,0)]<|Cb (v:=pL<|Cz<|(Mc (d,g,h,l,f) s.p.es).map Prod.fst) (A8 fun u x=>(P5 k s d g h l f _ (I.mem0 x) ok aa))<|Ao (v:=pV E 0) ((Ys.p (v:=pL<|Cz<|(Mc (d,g,h,l,f) s.p.es).map Prod.fst)).conseq<|(by rw[J];rfl))<|Ay ?_
  refine A9<|W.s ?_
  refine Ac<|A5 7 []<|Bz (v:=bV r.lan) (true) rfl Aa rfl (fun _=>Ys.ld (a:=⟨E,7,none⟩) rfl Aa isAgg4 fun u o=>by have F:=(hx.mem0 o).ld (q:=7) (v:=bV r.lan) rfl;rw[Be]at F;exact F)<|Ab 1<|Ay ?_
  refine A9 ?_
  refine Ak (r.lan) Aa (fun an=>?_) fun R=>?_
  ·refine Av<|Ab 4<|Ao (v:=aV<|seF r) (Ys.ldN (a:=⟨E,0,none⟩) (vs:=(seF r)) rfl Aa isAgg47 sizeOf47 rfl fun u o=>by have F:=(hx.mem0 o).ldN (q:=0) (vs:=(seF r)) (Lz (sz:=5) rfl);rw[Be]at F;exact F)<|Cb (v:=aV [iV .u8 r.pr,iV .u32 r.src,iV .u16 r.frm]) (A8 fun u x=>(Mz r.pr r.src r.dst r.frm r.dto _)) ?_
   refine Ab 1<|Af rfl (A0 A 0 3 0 [iV .u8 r.pr,iV .u32 r.src,iV .u16 r.frm] sizeOf97 rfl rfl) fun _=>?_
   refine Af rfl (Bd B 0 2 0 (bV false) sizeOf4 rfl rfl) fun _=>Af rfl (Bd C 0 1 0 (pV E 0) sizeOf93 rfl rfl) fun _=>?_
   refine Af rfl (Bd D 0 0 0 (iV .i64 0) sizeOf41 rfl rfl) fun _=>Ai<|Al [0,1,2,3] An rfl<|Gu ?_
   show∀u,_→bodyPostM (Cv none) 0 prog Tryz.f47 _ Exit.ret _ u
   exact fun u t=>Hv<|Ri rfl (Bu A 0 3 0 [iV .u8 r.pr,iV .u32 r.src,iV .u16 r.frm] isAgg97 sizeOf97) (Cg (b:=B) (o':=0) (i:=2) (j:=0) (cs:=[bV false]) (v:=bV false) Aa isAgg4 rfl rfl rfl) (Cg (b:=C) (o':=0) (i:=1) (j:=0) (cs:=[pV E 0]) (v:=pV E 0) Aa isAgg93 rfl rfl rfl) (Cg (b:=D) (o':=0) (i:=0) (j:=0) (cs:=[iV .i64 0]) (v:=iV .i64 0) Aa isAgg41 rfl rfl rfl) t ⟨by refine Eo ?_;unfold Bi;simp only[(show(Ex s.p.ms (d,g,h,l,f)).isSome=false from h8),J,(show((some (E,r):Option (Nat×SesE)).isSome&&((some (E,r):Option (Nat×SesE)).getD (0,Cq)).2.lan)=true from(by show(true&&r.lan)=_;rw[Bool.true_and];simpa using an)),cond_true,cond_false];try rfl,t.below⟩
  ·refine Ag<|A9<|W.s<|W.s<|E5 [0,1,2,3,4,5,6,7,9,10,11,14] (Mem w [] [[cb D [iV .i64 0] 41],[cb C Ha 93],[cb B [bV false] 4],[cb A Q19 97],Q15 d g h l f L]) Aa Aa (fun _ _ o=>o.drawn _) ?_
   refine Ef (w0:=w) (M:=[]) [0,3,4,5,6,7,11,59,60] (fun(O:Nat)=>[pL (some ⟨k.nb,0,none⟩),pV L 0,pV A 0,pV B 0,pV C 0,pV D 0,pV O 0,aV<|Q17 d f k,bV (Eb k.fx d f)]) (fun(O:Nat)=>True) (fun(O:Nat)=>[[cb O Q1a 65],[cb D [iV .i64 0] 41],[cb C Ha 93],[cb B [bV false] 4],[cb A Q19 97],Q15 d g h l f L]) 2 #[true,true,true,true,true,true,true,true,true,true,true,true,true,false,false] (fun O a1 bg=>?_) fun JD26=>?_
   ·obtain⟨G,rfl⟩: ∃U,U=O:=⟨_,rfl⟩
    refine A6 (i:=13) Aa<|Cp rfl rfl (A0 G 0 0 0 (Q17 d f k) sizeOf65 rfl rfl) (Az [1,2,3,4,5]) fun _=>?_
    refine Wa.ys (v:=bV<|Eb k.fx d f) (i:=14) Aa Aa Aa Aa (fun _ o=>o.pick [1,2,3,4,5] An rfl) rfl rfl rfl (Ys.p)<|Ej Aa<|A9<|Aj [] ?_
    refine Ak (Eb k.fx d f) Aa (fun ao=>?_) fun V=>?_
    ·refine Av<|A5 7 [(5,0),(0,0),(0,0)]<|Af rfl (A0 A 0 4 0 [iV .u8 d,iV .u32<|(C0 k.fx d f).host,iV .u16 ((C0 k.fx d f).dest)] sizeOf97 rfl rfl) fun _=>Af rfl (Bd B 0 3 0 (bV false) sizeOf4 rfl rfl) fun _=>?_
     refine Af rfl (Bd C 0 2 0 (pL none) sizeOf93 rfl rfl) fun _=>Af rfl (Bd D 0 1 0 (iV .i64 0) sizeOf41 rfl rfl) fun _=>?_
     refine Ai<|Al [1,2,3,4] An rfl<|Gu ?_
     show∀u,_→bodyPostM (Cv none) 0 prog Tryz.f47 _ Exit.ret _ u
     exact fun u t=>Hv<|Ri rfl (Bu A 0 3 0 [iV .u8 d,iV .u32<|(C0 k.fx d f).host,iV .u16 ((C0 k.fx d f).dest)] isAgg97 sizeOf97) (Cg (b:=B) (o':=0) (i:=2) (j:=0) (cs:=[bV false]) (v:=bV false) Aa isAgg4 rfl rfl rfl) (Cg (b:=C) (o':=0) (i:=1) (j:=0) (cs:=Ha) (v:=Value.pointer none) Aa isAgg93 rfl rfl rfl) (Cg (b:=D) (o':=0) (i:=0) (j:=0) (cs:=[iV .i64 0]) (v:=iV .i64 0) Aa isAgg41 rfl rfl rfl) t ⟨by refine Eo ?_;unfold Bi;simp only[(show(Ex s.p.ms (d,g,h,l,f)).isSome=false from h8),J,(show((some (E,r):Option (Nat×SesE)).isSome&&((some (E,r):Option (Nat×SesE)).getD (0,Cq)).2.lan)=false from(by show(true&&r.lan)=_;rw[Bool.true_and];simpa using R)),(show(Eb k.fx d f)=true from ao),cond_true,cond_false];try rfl,t.below⟩
    ·refine Ag<|A9<|Al [1,2,3,4,5] An rfl<|W.s<|C5 [(0,true),(1,true),(2,true),(3,true),(4,true),(5,true),(6,true),(7,false),(8,false),(9,false),(10,false)] [0,1,2,3,4,5,6] ?_
     refine Dh 6 [(4,0)]<|Bm (v:=iV .u32 k.c.dmz) rfl (Ys.ld (a:=⟨k.nb,26,none⟩) rfl Aa isAgg24 fun u o=>by have F:=(I.nat.mem0 o).ld (q:=26) ((Cf rfl An).trans rfl);rw[Be]at F;exact F)<|Bs 3 [(4,0)]<|Cj rfl rfl (A0 A 0 3 0 (Q18 d f k) sizeOf97 rfl rfl) (.inl Aa) fun _=>Ev ?_
     refine A9<|W.s ?_
     refine Av<|Ab 4<|Ao (v:=iV .u32 k.c.dmz) (Ys.ld (a:=⟨k.nb,26,none⟩) rfl Aa isAgg24 fun u o=>by have F:=(I.nat.mem0 o).ld (q:=26) ((Cf rfl An).trans rfl);rw[Be]at F;exact F)<|Ab 2 ?_
     refine C1 6 (k.c.dmz==0) (fun _=>Gs.m 5 [(4,0),(4,0)]<|Gs.k (v:=bV<|Ma s.p.ms k.fx d f) (A8 fun u x=>(Up k s d f _ (I.mem0 x) ok)) Gs.nil)<|Ao (v:=bV<|(k.c.dmz==0)||(Ma s.p.ms k.fx d f)) (Ce (e:=k.c.dmz==0) (b:=Ma s.p.ms k.fx d f) rfl Aa Aa Aa)<|Ai ?_
     refine Ak ((k.c.dmz==0)||(Ma s.p.ms k.fx d f)) Aa (fun ad=>?_) fun X=>?_
     ·have ae:=ad;try simp only[zA]at ae
      refine Av<|A5 1 [(3,0)]<|Af rfl (A0 A 0 3 0 (Q18 d f k) sizeOf97 rfl rfl) fun _=>Af rfl (Bd B 0 2 0 (bV false) sizeOf4 rfl rfl) fun _=>?_
      refine Af rfl (Bd C 0 1 0 (pL none) sizeOf93 rfl rfl) fun _=>Af rfl (Bd D 0 0 0 (iV .i64 21) sizeOf41 rfl rfl) fun _=>?_
      refine Ai<|Al [0,1,2,3] An rfl<|Gu ?_
      show∀u,_→bodyPostM (Cv none) 0 prog Tryz.f47 _ Exit.ret _ u
      exact fun u t=>Hv<|Ri rfl (Bu A 0 3 0 [iV .u8 d,iV .u32 k.c.dmz,iV .u16 f] isAgg97 sizeOf97) (Cg (b:=B) (o':=0) (i:=2) (j:=0) (cs:=[bV false]) (v:=bV false) Aa isAgg4 rfl rfl rfl) (Cg (b:=C) (o':=0) (i:=1) (j:=0) (cs:=Ha) (v:=Value.pointer none) Aa isAgg93 rfl rfl rfl) (Cg (b:=D) (o':=0) (i:=0) (j:=0) (cs:=[iV .i64 21]) (v:=iV .i64 21) Aa isAgg41 rfl rfl rfl) t ⟨by refine Eo ?_;unfold Bi;simp only[(show(Ex s.p.ms (d,g,h,l,f)).isSome=false from h8),J,(show((some (E,r):Option (Nat×SesE)).isSome&&((some (E,r):Option (Nat×SesE)).getD (0,Cq)).2.lan)=false from(by show(true&&r.lan)=_;rw[Bool.true_and];simpa using R)),(show(Eb k.fx d f)=false from V),(show((k.c.dmz==0)||(Ma s.p.ms k.fx d f))=true from ad),cond_true,cond_false];try rfl,t.below⟩
     ·have af:=X;try simp only[zA]at af
      refine Ag<|A9<|W.s<|Av ?_
      refine Ab 3<|Ao (v:=pL<|some ⟨k.te,0,none⟩) (Ys.ld (a:=⟨k.nb,30,none⟩) rfl Aa isAgg86 fun u o=>by have F:=(I.nat.mem0 o).ld (q:=30) ((Cf rfl An).trans rfl);rw[Be]at F;exact F)<|Aw rfl (Au [] [0,1,2,3,4] fun u x bh=>(Xg k.te _)) fun H _=>Ai ?_
      refine W.block ?_
      refine Jn (σ:=Int) (enc:=fun i=>[aV (Ky<|(s.p.zs.getD i dD).1),aV [iV .u16 (((s.p.zs.getD i dD).2).ext),iV .i64 (((s.p.zs.getD i dD).2).count)]]) (N:=s.p.zs.length) (Lu:=fun(P:Int)=>[[cb D [iV .i64 P] 41],[cb C Ha 93],[cb B [bV false] 4],[cb A (Q18 d f k) 97],Q15 d g h l f L]) (Li:=[[cb H [pL (some ⟨k.te,0,none⟩)] 86]]) (Lk:=[]) [1,2,3,4,5] [0] [] 0 (fun i (P:Int)=>P=0∧ ∀j,j<i→tgQ (d,g,h,l,f) (d,k.c.dmz,f) (s.p.zs.getD j dD)=false) (fun c_ (P:Int)=>((c_=.ret∧P=21∧s.p.zs.any (tgQ (d,g,h,l,f) (d,k.c.dmz,f))=true))) [99,100] Aa (fun _ _=>rfl) An (by rfl) rfl rfl rfl (fun _=>rfl) (⟨rfl,(fun j hj=>absurd hj<|Nat.not_lt_zero j)⟩) (fun D_ l_ bj aq x=>(T8 s.p.zs s.ge.a s.ge.cap k.mo k.te H _ aq (I.atD.mem0 x) (I.zs.mem0 x) D1)) ?_ ?_ ?_
      ·intro D59 bk a2 a3 i ar bl Mu66 bm a5 ag au ah
       obtain⟨T,rfl⟩: ∃U,U=ar:=⟨_,rfl⟩
       obtain⟨S,Y⟩:=ag
       refine Av<|Af rfl (Ba zeroValue97) fun ai=>Af rfl (A0 ai 0 0 0 (Ky<|(s.p.zs.getD i dD).1) sizeOf97 rfl rfl) fun _=>Ay ?_
       refine A9<|Ac<|Af rfl (Ba zeroValue99) fun aj=>Af rfl (A0 aj 0 0 0 [iV .u16 (((s.p.zs.getD i dD).2).ext),iV .i64 (((s.p.zs.getD i dD).2).count)] sizeOf99 rfl rfl) fun _=>Ay ?_
       refine fun u o=>ah _ [[cb aj [iV .u16 (((s.p.zs.getD i dD).2).ext),iV .i64 (((s.p.zs.getD i dD).2).count)] 99],[cb ai (Ky<|(s.p.zs.getD i dD).1) 97],[cb D [iV .i64 T] 41],[cb C Ha 93],[cb B [bV false] 4],[cb A [iV .u8 d,iV .u32 k.c.dmz,iV .u16 f] 97],Q15 d g h l f L] ?_ u<|o.pick [2,3,0,1,4,5,6,7,8] An rfl
       refine W.block<|W.s ?_
       refine Ac<|A5 6 [(3,0),(8,0)]<|Da 5 ((((s.p.zs.getD i dD).1).1)==d) (fun _=>Gs.z [(2,0),(8,0)])<|Ao (v:=bV<|((((s.p.zs.getD i dD).1).1)==d)&&((((s.p.zs.getD i dD).2).ext)==f)) (B9 (e:=(((s.p.zs.getD i dD).1).1)==d) (b:=(((s.p.zs.getD i dD).2).ext)==f) rfl Aa Aa Aa)<|Ab 1 ?_
       refine Ai<|Al [0,1,3,4,5,6,7,8] An rfl<|Av ?_
       refine A5 3 [(2,0),(6,0)]<|Ao (v:=bV<|Dk (Ky<|(s.p.zs.getD i dD).1)<|Q18 d f k) (Ab9 (ls:=[.int .u8,.int .u32,.int .u16]) (cs:=(Ky<|(s.p.zs.getD i dD).1)) (cs':=(Q18 d f k)) (b:=Dk (Ky<|(s.p.zs.getD i dD).1)<|Q18 d f k) rfl Aa Aa Aa Aa Aa ⟨⟨_,rfl⟩,⟨_,rfl⟩,⟨_,rfl⟩,trivial⟩ ⟨⟨_,rfl⟩,⟨_,rfl⟩,⟨_,rfl⟩,trivial⟩ rfl)<|Ab 1<|Ai ?_
       refine Al [0,1,3,4,5,6,7] An rfl ?_
       refine Ak (!((((((s.p.zs.getD i dD).1).1)==d)&&((((s.p.zs.getD i dD).2).ext)==f))==(Dk (Ky<|(s.p.zs.getD i dD).1) [iV .u8 d,iV .u32 k.c.dmz,iV .u16 f]))) Aa (fun ak=>?_) fun av=>?_
       ·have al:=ak;try simp only[zA]at al
        refine Av<|A5 1 [(5,0)]<|Af rfl (A0 A 0 5 0 (Q18 d f k) sizeOf97 rfl rfl) fun _=>Af rfl (Bd B 0 4 0 (bV false) sizeOf4 rfl rfl) fun _=>?_
        refine Af rfl (Bd C 0 3 0 (pL none) sizeOf93 rfl rfl) fun _=>Af rfl (Bd D 0 2 0 (iV .i64 21) sizeOf41 rfl rfl) fun _=>?_
        refine Ai<|Gu ?_
        exact fun u o=>Exists.intro 21<|And.intro ⟨rfl,⟨rfl,(Xu dD Ae (by have z_:=ak;exact z_))⟩⟩ o
       ·refine Ag ?_
        exact fun u o=>Exists.intro T<|And.intro ⟨S,(fun j hj=>(Nat.lt_succ_iff_lt_or_eq.1 hj).elim (Y j) fun e_=>by subst e_;exact(by have z_:=av;exact z_))⟩ o
      ·intro D88 bo a6 ax am
       obtain⟨T,rfl⟩: ∃U,U=ax:=⟨_,rfl⟩
       obtain⟨S,Y⟩:=am
       refine Gc (LL':=[[cb H [pL (some ⟨k.te,0,none⟩)] 86],[cb D [iV .i64 T] 41],[cb C Ha 93],[cb B [bV false] 4],[cb A (Q18 d f k) 97],Q15 d g h l f L,dB D88]) [7,2,3,4,5,6,0] An rfl<|A9<|Al [1,2,3,4,6] An rfl<|Av ?_
       refine A5 1 [(3,0)]<|Af rfl (A0 A 0 3 0 (Q18 d f k) sizeOf97 rfl rfl) fun _=>?_
       refine Af rfl (Bd B 0 2 0 (bV true) sizeOf4 rfl rfl) fun _=>Af rfl (Bd C 0 1 0 (pL none) sizeOf93 rfl rfl) fun _=>?_
       refine Af rfl (Bd D 0 0 0 (iV .i64 0) sizeOf41 rfl rfl) fun _=>Ai<|Gu ?_
       show∀u,_→bodyPostM (Cv none) 0 prog Tryz.f47 _ Exit.ret _ u
       exact fun u Q=>Fq (Q.mark (i:=4) rfl).1 (by have t:Mem w [] [[cb D [iV .i64 0] 41],[cb C Ha 93],[cb B [bV true] 4],[cb A [iV .u8 d,iV .u32 k.c.dmz,iV .u16 f] 97],[⟨D88,.deferred none⟩]] _:=(Q.mark (i:=4) rfl).2;exact Ri rfl (Bu A 0 3 0 [iV .u8 d,iV .u32 k.c.dmz,iV .u16 f] isAgg97 sizeOf97) (Cg (b:=B) (o':=0) (i:=2) (j:=0) (cs:=[bV true]) (v:=bV true) Aa isAgg4 rfl rfl rfl) (Cg (b:=C) (o':=0) (i:=1) (j:=0) (cs:=Ha) (v:=Value.pointer none) Aa isAgg93 rfl rfl rfl) (Cg (b:=D) (o':=0) (i:=0) (j:=0) (cs:=[iV .i64 0]) (v:=iV .i64 0) Aa isAgg41 rfl rfl rfl) t ⟨by refine Eo ?_;unfold Bi;simp only[(show(Ex s.p.ms (d,g,h,l,f)).isSome=false from h8),J,(show((some (E,r):Option (Nat×SesE)).isSome&&((some (E,r):Option (Nat×SesE)).getD (0,Cq)).2.lan)=false from(by show(true&&r.lan)=_;rw[Bool.true_and];simpa using R)),(show(Eb k.fx d f)=false from V),(show((k.c.dmz==0)||(Ma s.p.ms k.fx d f))=false from X),(Xt dD Y:s.p.zs.any (tgQ (d,g,h,l,f) (d,k.c.dmz,f))=false),cond_true,cond_false];try rfl,t.below⟩)
      ·intro D96 bp a7 a8 ay Z
       obtain⟨T,rfl⟩: ∃U,U=ay:=⟨_,rfl⟩
       rcases Z with⟨rfl,⟨S,hyes⟩⟩
       refine Al [7,2,3,4,5,6,0] An rfl<|Gu ?_
       show∀u,_→bodyPostM (Cv none) 0 prog Tryz.f47 _ Exit.ret _ u
       exact fun u Q=>Fq (Q.mark (i:=6) rfl).1 (by have t:Mem w [] [[cb H [Value.pointer (some ⟨k.te,0,none⟩)] 86],[cb D [iV .i64 T] 41],[cb C Ha 93],[cb B [bV false] 4],[cb A [iV .u8 d,iV .u32 k.c.dmz,iV .u16 f] 97],Q15 d g h l f L,[⟨D96,.deferred none⟩]] _:=(Q.mark (i:=6) rfl).2;exact Ri rfl (Bu A 0 4 0 [iV .u8 d,iV .u32 k.c.dmz,iV .u16 f] isAgg97 sizeOf97) (Cg (b:=B) (o':=0) (i:=3) (j:=0) (cs:=[bV false]) (v:=bV false) Aa isAgg4 rfl rfl rfl) (Cg (b:=C) (o':=0) (i:=2) (j:=0) (cs:=Ha) (v:=Value.pointer none) Aa isAgg93 rfl rfl rfl) (Cg (b:=D) (o':=0) (i:=1) (j:=0) (cs:=[iV .i64 T]) (v:=iV .i64 T) Aa isAgg41 rfl rfl rfl) t ⟨by refine Eo ?_;rw[S];unfold Bi;simp only[(show(Ex s.p.ms (d,g,h,l,f)).isSome=false from h8),J,(show((some (E,r):Option (Nat×SesE)).isSome&&((some (E,r):Option (Nat×SesE)).getD (0,Cq)).2.lan)=false from(by show(true&&r.lan)=_;rw[Bool.true_and];simpa using R)),(show(Eb k.fx d f)=false from V),(show((k.c.dmz==0)||(Ma s.p.ms k.fx d f))=false from X),hyes,cond_true,cond_false];try rfl,t.below⟩)
   ·refine Wa.ys (v:=pL<|some ⟨k.nb,0,none⟩) (i:=0) Aa Aa Aa Aa (fun _ o=>o) rfl rfl rfl (Ys.p)<|Wa.ys (v:=pL<|some ⟨k.nb,0,none⟩) (i:=1) Aa Aa Aa Aa (fun _ o=>o) rfl rfl rfl (Ys.p)<|Wa.ys (v:=pL<|some ⟨k.nb,0,none⟩) (i:=2) Aa Aa Aa Aa (fun _ o=>o) rfl rfl rfl (Ys.p)<|Wa.ys (v:=aV<|Q16 k) (i:=3) Aa Aa Aa Aa (fun _ o=>o) rfl rfl rfl (Ys.ldN (a:=⟨k.nb,0,none⟩) (vs:=(Q16 k)) rfl Aa isAgg32 sizeOf32 rfl fun u o=>by have F:=(I.nat.mem0 o).ldN (q:=0) (vs:=(Q16 k)) (N2);rw[Be]at F;exact F)<|Wa.ys (v:=pV L 0) (i:=4) Aa Aa Aa Aa (fun _ o=>o) rfl rfl rfl (Ys.p) ?_
    refine Wa.ys (i:=5) Aa Aa Aa Aa (fun _ o=>o) rfl rfl rfl (Cn L 0 4 0 isAgg5)<|Wa.ys (v:=pV L 4) (i:=6) Aa Aa Aa Aa (fun _ o=>o) rfl rfl rfl (Ys.p)<|Wa.ys (i:=7) Aa Aa Aa Aa (fun _ o=>o) rfl rfl rfl (Cn L 4 4 0 isAgg22) ?_
    refine C9 (i:=8) (j:=12) Aa ?_ ?_
    ·refine Wo.yc (v:=Value.tuple #[aV (Q17 d f k),bV (Eb k.fx d f)]) rfl rfl rfl (A8 fun u x=>(I9 (⟨k.c.lm0,k.c.lm1,k.c.lm2,k.c.lm3,k.c.lm4,k.c.lm5,k.c.wm0,k.c.wm1,k.c.wm2,k.c.wm3,k.c.wm4,k.c.wm5,k.c.hm0,k.c.hm1,k.c.hm2,k.c.hm3,k.c.hm4,k.c.hm5,k.c.lan,k.c.wan,k.c.bits,k.c.ms,k.c.mm,k.c.mc,k.c.mu,k.gf.a,k.fx.length,k.gf.cap,k.c.dmz,k.c.uu⟩:Conf.Cfg) k.fx k.gf.a k.gf.cap d f _ (I.fx.mem0 x) D1)) (.inr fun _ o=>o)<|Wa.ys (v:=Value.tuple #[aV (Q17 d f k),bV (Eb k.fx d f)]) (i:=9) Aa Aa Aa Aa (fun _ o=>o) rfl rfl rfl (Ys.p)<|Wa.ys (v:=aV<|Q17 d f k) (i:=10) Aa Aa Aa Aa (fun _ o=>o) rfl rfl rfl (Ys.p)<|Wa.ys (v:=bV<|Eb k.fx d f) (i:=11) Aa Aa Aa Aa (fun _ o=>o) rfl rfl rfl (Ys.p)<|A6 (i:=12) Aa ?_
     refine Cp rfl rfl (Ba zeroValue65) (Az [1,2,3,4,5]) fun G=>?_
     exact Ck [0,3,4,5,6,7,11,59,60] [pL (some ⟨k.nb,0,none⟩),pV L 0,pV A 0,pV B 0,pV C 0,pV D 0,pV G 0,aV<|L8<|C0 k.fx d f,bV (Eb k.fx d f)] #[true,true,true,true,true,true,true,true,true,true,true,true,true,false,false] (JD26 G trivial) Aa Aa fun _ o=>o
    ·refine Cp rfl rfl (Ba zeroValue65) (Az [1,2,3,4,5]) fun G=>A6 (i:=8) Aa<|Wo.yc (v:=Value.tuple #[aV (Q17 d f k),bV (Eb k.fx d f)]) rfl rfl rfl (A8 fun u x=>(I9 (⟨k.c.lm0,k.c.lm1,k.c.lm2,k.c.lm3,k.c.lm4,k.c.lm5,k.c.wm0,k.c.wm1,k.c.wm2,k.c.wm3,k.c.wm4,k.c.wm5,k.c.hm0,k.c.hm1,k.c.hm2,k.c.hm3,k.c.hm4,k.c.hm5,k.c.lan,k.c.wan,k.c.bits,k.c.ms,k.c.mm,k.c.mc,k.c.mu,k.gf.a,k.fx.length,k.gf.cap,k.c.dmz,k.c.uu⟩:Conf.Cfg) k.fx k.gf.a k.gf.cap d f _ (I.fx.mem0 x) D1)) (Ee [1,2,3,4,5])<|Wa.ys (v:=Value.tuple #[aV (Q17 d f k),bV (Eb k.fx d f)]) (i:=9) Aa Aa Aa Aa (fun _ o=>o.pick [1,2,3,4,5] An rfl) rfl rfl rfl (Ys.p)<|Wa.ys (v:=aV<|Q17 d f k) (i:=10) Aa Aa Aa Aa (fun _ o=>o.pick [1,2,3,4,5] An rfl) rfl rfl rfl (Ys.p) ?_
     refine Wa.ys (v:=bV<|Eb k.fx d f) (i:=11) Aa Aa Aa Aa (fun _ o=>o.pick [1,2,3,4,5] An rfl) rfl rfl rfl (Ys.p) ?_
     exact Ck [0,3,4,5,6,7,11,59,60] [pL (some ⟨k.nb,0,none⟩),pV L 0,pV A 0,pV B 0,pV C 0,pV D 0,pV G 0,aV<|L8<|C0 k.fx d f,bV (Eb k.fx d f)] #[true,true,true,true,true,true,true,true,true,true,true,true,true,false,false] (JD26 G trivial) Aa Aa fun _ o=>o
theorem R9(k:NK)(s:NS)(b d e g h:Int)(w:World)(n:NAt k s w)(ok:NOk k s)(l:s.p.xs=s.p.es.map P4):Calls prog 47 #[pL (some ⟨k.nb,0,none⟩),Value.agg ([Value.int .u8 b,Value.int .u32 d,Value.int .u32 e,Value.int .u16 g,Value.int .u16 h]).toArray] w (Df w (.tuple #[.agg [.int .u8 (Bi k.c k.fx s.p (b,d,e,g,h)).1.1,.int .u32 (Bi k.c k.fx s.p (b,d,e,g,h)).1.2.1,.int .u16 (Bi k.c k.fx s.p (b,d,e,g,h)).1.2.2].toArray,.bool (Bi k.c k.fx s.p (b,d,e,g,h)).2.1,.pointer (Cz (Bi k.c k.fx s.p (b,d,e,g,h)).2.2.1),.int .i64 (Bi k.c k.fx s.p (b,d,e,g,h)).2.2.2])):=by
  cases i:(Mc (b,d,e,g,h) s.p.es)with
  |none=>exact Aat k s b d e g h w n ok l i
  |some x=>
    obtain⟨j,o⟩:=Aic (f:=(b,d,e,g,h)) (es:=s.p.es) (by rw[i];rfl)
    rw[i]at o
    exact Aau k s b d e g h x.1 x.2 w n ok l i<|n.ent j x.1 x.2 o
def Fm(k:NK)(p:NP)(e:SesE)(pb:Nat):NP:=
  bif e.given then
    (bif decide ((B1 (⟨0,0⟩:Lse) p.zs (Cc (Ed e))).count-1>0)then {p with xs:=Di p.xs (Ed e),ys:=Di p.ys e.id,ws:=Gh p.ws e.id,zs:=Dv Cu k.mo p.zs (Cc (Ed e)) (⟨(B1 (⟨0,0⟩:Lse) p.zs (Cc (Ed e))).ext,(B1 (⟨0,0⟩:Lse) p.zs (Cc (Ed e))).count-1⟩:Lse)}
     else {p with xs:=Di p.xs (Ed e),ys:=Di p.ys e.id,ws:=Gh p.ws e.id,zs:=Di p.zs (Cc (Ed e)),tk:=M7 p.tk e.pr.toNat (some pb),TT:=F8 p.TT e.pr.toNat (gvT (p.TT e.pr.toNat) (B1 (⟨0,0⟩:Lse) p.zs (Cc (Ed e))).ext.toNat)})
  else {p with xs:=Di p.xs (Ed e),ys:=Di p.ys e.id,ws:=Gh p.ws e.id}
abbrev Q1b(e:SesE)(xb:Nat):List Blk:=[cb xb (Sq e) 113]
abbrev Q1c(e:SesE)(b:Nat)(s:NS):List Blk:=[cb b [iV .u16 ((B1 (⟨0,0⟩:Lse) s.p.zs (e.pr,e.src,e.frm)).ext),iV .i64 (((B1 (⟨0,0⟩:Lse) s.p.zs (e.pr,e.src,e.frm)).count)-1)] 99]
abbrev Q1d(e:SesE)(b:Nat):List Blk:=[cb b [iV .u8 e.pr,iV .u32 e.src,iV .u16 e.frm] 97]
abbrev Q1e(e:SesE)(s:NS):List Value:=[iV .u16 ((B1 (⟨0,0⟩:Lse) s.p.zs (e.pr,e.src,e.frm)).ext),iV .i64 ((B1 (⟨0,0⟩:Lse) s.p.zs (e.pr,e.src,e.frm)).count)]
abbrev Q1f(e:SesE):List Value:=[iV .u8 e.pr,iV .u32 e.src,iV .u16 e.frm]
theorem Ad1(k:NK)(s:NS)(M:List Nat)(e:SesE)(xb:Nat)(w:World)(ok:NOk k s)(hl:Mem w M [NG k s,[Jv (xb,e)]] w)(b0:0≤(B1 (⟨0,0⟩:Lse) s.p.zs (e.pr,e.src,e.frm)).count∧(B1 (⟨0,0⟩:Lse) s.p.zs (e.pr,e.src,e.frm)).count≤1000000)(Q:0≤(B1 (⟨0,0⟩:Lse) s.p.zs (e.pr,e.src,e.frm)).ext∧(B1 (⟨0,0⟩:Lse) s.p.zs (e.pr,e.src,e.frm)).ext≤65535)(am:0≤e.pr∧e.pr≤255):Calls prog 40 #[pL (some ⟨k.nb,0,none⟩),pV xb 0] w (Bn w (fun r:NS=>NOk k r∧ ∃pb,r.p=Fm k s.p e pb) (fun _=>.tuple #[]) M (fun r=>[NG k r])):=by
 obtain⟨b3,b4,b5,b6,b7⟩:=NOk.len ok;obtain⟨ep,R⟩: ∃n:Nat,(B1 (⟨0,0⟩:Lse) s.p.zs (e.pr,e.src,e.frm)).ext=(n:Int):=⟨_,(Int.toNat_of_nonneg Q.1).symm⟩;obtain⟨S,T⟩: ∃n:Nat,e.pr=(n:Int):=⟨_,(Int.toNat_of_nonneg am.1).symm⟩
 refine Ap (M:=M) (LL:=[NG k s,Q1b e xb]) (n:=82) func40 rfl rfl A7 (hl)<|W.s ?_
 refine B3 [(0,true),(1,true),(2,true),(3,true),(4,false),(5,false),(6,false),(7,false),(8,false),(9,false)] [0,1,2,3] (fun h=> ∃o:NS,Mem w M [NG k o,Q1b e xb] h) Aa Aa Aa rfl Aa (fun _ _ c=>c.drawn _) (fun _ c=>⟨_,c⟩)<|B5 3<|Bm rfl (Dx fun o=>Bf (b:=k.nb) (o':=29) (i:=0) (j:=0) (cs:=C3 k o) (v:=pL<|some ⟨k.ts,0,none⟩) rfl Aa isAgg85 rfl rfl<|(Cf rfl An).trans rfl)<|Wd.yc (v:=pV xb 0) rfl rfl rfl (Ys.yc Ys.p) (.inr fun _ c=>⟨_,c⟩)<|Wd.yc (v:=pV xb 0) rfl rfl rfl (Ys.yc Ys.p) (.inr fun _ c=>⟨_,c⟩) ?_
 refine Wd.yc (v:=pV xb 0) rfl rfl rfl (Ys.yc Ys.p) (.inr fun _ c=>⟨_,c⟩)<|Wd.yc (v:=pV xb 0) rfl rfl rfl (Ys.yc Ys.p) (.inr fun _ c=>⟨_,c⟩)<|Wd.yc (v:=aV<|seF e) rfl rfl rfl (Ys.yc<|F0 xb 0 1 0 (seF e) isAgg47 sizeOf47) (.inr fun _ c=>⟨_,c⟩)<|Ca rfl rfl (Au [0] [1] fun h f g=>(Ah4 (e.pr,e.src,e.dst,e.frm,e.dto) ok g)) (.inr fun _ _ c=>⟨_,c⟩) fun s2 ao=>?_
 obtain⟨U,x⟩:=ao
 obtain⟨bm,bn,bo,bp,bq⟩:=NOk.len U
 refine Cl<|W.s<|B3 [(0,true),(1,true),(2,true),(3,true),(4,false),(5,false),(6,false),(7,false),(8,false)] [0,1,2,3] (fun h=> ∃o:NS,Mem w M [NG k o,Q1b e xb] h) Aa Aa Aa rfl Aa (fun _ _ c=>c.drawn _) (fun _ c=>⟨_,c⟩)<|B5 3 ?_
 refine Bm rfl (Dx fun o=>Bf (b:=k.nb) (o':=288) (i:=0) (j:=0) (cs:=C3 k o) (v:=pL<|some ⟨k.ti,0,none⟩) rfl Aa isAgg89 rfl rfl<|(Fk rfl 1).trans rfl)<|Wd.yc (v:=pV xb 0) rfl rfl rfl (Ys.yc Ys.p) (.inr fun _ c=>⟨_,c⟩)<|Wd.yc (v:=pV xb 0) rfl rfl rfl (Ys.yc Ys.p) (.inr fun _ c=>⟨_,c⟩)<|Wd.yc (v:=pV xb 13) rfl rfl rfl (Ys.yc Ys.p) (.inr fun _ c=>⟨_,c⟩)<|Wd.yc (v:=iV .u64 e.id) rfl rfl rfl (Ys.yc<|Cn xb 13 1 0 isAgg45) (.inr fun _ c=>⟨_,c⟩) ?_
 refine Ca rfl rfl (Au [0] [1] fun h f g=>(Ah5 e.id U g)) (.inr fun _ _ c=>⟨_,c⟩) fun s9 V=>?_
 obtain⟨G,q⟩:=V
 obtain⟨br,bs,bt,bu,bw⟩:=NOk.len G
 refine Cl<|W.s<|B3 [(0,true),(1,true),(2,true),(3,true),(4,false),(5,false),(6,false),(7,false),(8,false)] [0,1,2,3] (fun h=> ∃o:NS,Mem w M [NG k o,Q1b e xb] h) Aa Aa Aa rfl Aa (fun _ _ c=>c.drawn _) (fun _ c=>⟨_,c⟩)<|B5 3 ?_
 refine Bm rfl (Dx fun o=>Bf (b:=k.nb) (o':=287) (i:=0) (j:=0) (cs:=C3 k o) (v:=pL<|some ⟨k.wb,0,none⟩) rfl Aa isAgg83 rfl rfl<|(Fk rfl 0).trans rfl)<|Wd.yc (v:=pV xb 0) rfl rfl rfl (Ys.yc Ys.p) (.inr fun _ c=>⟨_,c⟩)<|Wd.yc (v:=pV xb 0) rfl rfl rfl (Ys.yc Ys.p) (.inr fun _ c=>⟨_,c⟩)<|Wd.yc (v:=pV xb 13) rfl rfl rfl (Ys.yc Ys.p) (.inr fun _ c=>⟨_,c⟩)<|Wd.yc (v:=iV .u64 e.id) rfl rfl rfl (Ys.yc<|Cn xb 13 1 0 isAgg45) (.inr fun _ c=>⟨_,c⟩) ?_
 refine Ca rfl rfl (Au [0] [1] fun h f g=>(Als e.id G g)) (.inr fun _ _ c=>⟨_,c⟩) fun l X=>?_
 obtain⟨u,t⟩:=X
 obtain⟨ap,aq,ar,au,av⟩:=NOk.len u
 refine Cl<|W.s<|Aj [(1,0)] ?_
 refine Ak (!e.given) Aa (fun aw=>?_) fun Y=>?_
 ·refine Am rfl fun h F=>Iv rfl ⟨l,⟨u,0,(by rw[t,q,x];unfold Fm;rw[(show e.given=false from by simpa using aw)]<;>rfl)⟩,rfl,(F.pick [0] An rfl)⟩
 ·refine Ag<|A9<|Av<|A5 5 [(1,0)] ?_
  refine Cb (v:=aV<|Q1f e) (A8 fun h f=>(Mz e.pr e.src e.dst e.frm e.dto _))<|Af rfl (Ba zeroValue97) fun A=>?_
  refine Af rfl (A0 A 0 0 0 (Q1f e) sizeOf97 rfl rfl) fun _=>Ai<|W.s<|E5 [0,1,2,3,4,6,7,8,11] (Mem w M [Q1d e A,NG k l,Q1b e xb]) Aa Aa (fun _ _ c=>c.drawn _) ?_
  refine Ef (w0:=w) (M:=M) [0,4,5,53,54] (fun(E:Nat)=>[pL (some ⟨k.nb,0,none⟩),pV A 0,pV E 0,aV<|Q1e e s,bV (Bq s.p.zs (e.pr,e.src,e.frm))]) (fun(E:Nat)=>True) (fun(E:Nat)=>[[cb E zl9 99],Q1d e A,NG k l,Q1b e xb]) 2 #[true,true,true,true,true,true,true,true,true,true,false,false] (fun E bx b9=>?_) fun JD33=>?_
  ·obtain⟨B,rfl⟩: ∃a_,a_=E:=⟨_,rfl⟩
   refine A6 (i:=10) Aa<|Cp rfl rfl (A0 B 0 0 0 (Q1e e s) sizeOf99 rfl rfl) (Az [1,2,3]) fun _=>?_
   refine Wa.ys (v:=bV<|Bq s.p.zs (e.pr,e.src,e.frm)) (i:=11) Aa Aa Aa Aa (fun _ c=>c.pick [1,2,3] An rfl) rfl rfl rfl (Ys.p)<|Ej Aa<|A9<|Av ?_
   refine A5 2 [(0,0)]<|Ao (v:=iV .i64<|((B1 (⟨0,0⟩:Lse) s.p.zs (e.pr,e.src,e.frm)).count)-1) ((Ys.p (v:=.int .i64<|Hp .i64 ((B1 (⟨0,0⟩:Lse) s.p.zs (e.pr,e.src,e.frm)).count) 1)).conseq<|Ad<|Er rfl Ae Ae)<|Ab 1<|Af rfl (Bd B 1 0 0 (iV .i64<|((B1 (⟨0,0⟩:Lse) s.p.zs (e.pr,e.src,e.frm)).count)-1) sizeOf3 rfl rfl) fun _=>Ay ?_
   refine A9<|W.s ?_
   refine Aj [(0,0)] ?_
   refine Ak (decide<|(((B1 (⟨0,0⟩:Lse) s.p.zs (e.pr,e.src,e.frm)).count)-1)>0) Aa (fun Z=>?_) fun aa=>?_
   ·have ab:=Z;try simp only[zA]at ab
    refine W.s<|B3 [(0,true),(1,true),(2,true),(3,true),(4,true),(5,false),(6,false)] [0,1,2,3,4] (fun h=> ∃o:NS,Mem w M [Q1c e B s,Q1d e A,NG k o,Q1b e xb] h) Aa Aa Aa rfl Aa (fun _ _ c=>c.drawn _) (fun _ c=>⟨_,c⟩)<|B5 3<|Bm rfl (Dx fun o=>Bf (b:=k.nb) (o':=30) (i:=2) (j:=0) (cs:=C3 k o) (v:=pL<|some ⟨k.te,0,none⟩) rfl Aa isAgg86 rfl rfl<|(Cf rfl An).trans rfl)<|Bm (v:=aV<|Q1f e) rfl (Dx fun o=>F0 A 0 1 0 (Q1f e) isAgg97 sizeOf97) ?_
    refine Wd.yc (v:=aV [iV .u16 ((B1 (⟨0,0⟩:Lse) s.p.zs (e.pr,e.src,e.frm)).ext),iV .i64 (((B1 (⟨0,0⟩:Lse) s.p.zs (e.pr,e.src,e.frm)).count)-1)]) rfl rfl rfl (Ys.yc<|F0 B 0 0 0 [iV .u16 ((B1 (⟨0,0⟩:Lse) s.p.zs (e.pr,e.src,e.frm)).ext),iV .i64 (((B1 (⟨0,0⟩:Lse) s.p.zs (e.pr,e.src,e.frm)).count)-1)] isAgg99 sizeOf99) (.inr fun _ c=>⟨_,c⟩)<|Ca rfl rfl (Au [2] [0,1,3] fun h f g=>(Adr (e.pr,e.src,e.frm) (⟨(B1 (⟨0,0⟩:Lse) s.p.zs (e.pr,e.src,e.frm)).ext,((B1 (⟨0,0⟩:Lse) s.p.zs (e.pr,e.src,e.frm)).count)-1⟩:Lse) u g)) (.inr fun _ _ c=>⟨_,c.pick [1,2,0,3] An rfl⟩) fun ax ad=>?_
    obtain⟨H,ae⟩:=ad
    obtain⟨ay,az,a0,a1,a2⟩:=NOk.len H
    refine Cl<|Al [0,3] An rfl<|Am rfl fun h F=>Iv rfl ⟨ax,⟨H,0,(by rw[ae,t,q,x];unfold Fm;rw[(show e.given=true from by simpa using Y),(show decide ((B1 (⟨0,0⟩:Lse) s.p.zs<|Cc<|Ed e).count-1>0)=true from Z)]<;>rfl)⟩,rfl,(F.pick [0] An rfl)⟩
   ·have af:=aa;try simp only[zA]at af
    refine Ag<|A9<|W.s<|B3 [(0,true),(1,true),(2,true),(3,true),(4,false),(5,false)] [0,1,2,3] (fun h=> ∃o:NS,Mem w M [Q1c e B s,Q1d e A,NG k o,Q1b e xb] h) Aa Aa Aa rfl Aa (fun _ _ c=>c.drawn _) (fun _ c=>⟨_,c⟩)<|B5 3 ?_
    refine Bm rfl (Dx fun o=>Bf (b:=k.nb) (o':=30) (i:=2) (j:=0) (cs:=C3 k o) (v:=pL<|some ⟨k.te,0,none⟩) rfl Aa isAgg86 rfl rfl<|(Cf rfl An).trans rfl)<|Wd.yc (v:=aV<|Q1f e) rfl rfl rfl (Ys.yc<|F0 A 0 1 0 (Q1f e) isAgg97 sizeOf97) (.inr fun _ c=>⟨_,c⟩)<|Ca rfl rfl (Au [2] [0,1,3] fun h f g=>(Ah6 (e.pr,e.src,e.frm) u g)) (.inr fun _ _ c=>⟨_,c.pick [1,2,0,3] An rfl⟩) fun cc ag=>?_
    obtain⟨I,ah⟩:=ag
    obtain⟨a3,a5,a6,a7,a8⟩:=NOk.len I
    refine Cl<|B3 [(0,true),(1,true),(2,true),(4,true),(5,true),(3,false),(6,false)] [0,1,2,4,5] (fun h=> ∃o:NS,Mem w M [NG k o,Q1c e B s,Q1d e A,Q1b e xb] h) Aa Aa Aa rfl Aa (fun _ _ c=>c.drawn _) (fun _ c=>⟨_,c⟩)<|B5 2<|Bm (v:=nV .u8 S) rfl (Dx fun o=>Ys.conseq (v:=iV .u8 e.pr) (Ad T)<|Cn A 0 2 0 isAgg5) ?_
    refine B5 1<|Bm (v:=nV .u16 ep) rfl (Dx fun o=>Ys.conseq (v:=iV .u16<|(B1 (⟨0,0⟩:Lse) s.p.zs (e.pr,e.src,e.frm)).ext) (Ad R)<|Cn B 0 1 0 isAgg22)<|Ca rfl rfl (Au (args:= #[pL (some ⟨k.nb,0,none⟩),nV .u8 S]) [0] [1,2,3] fun h f g=>(Ads Ae I g)) (.inr fun _ _ c=>⟨_,c⟩) fun a9 J=>?_
    obtain⟨ai,C⟩:=a9
    dsimp only at J
    obtain⟨L,N,ba⟩:=J
    refine Abu (LL':=[NG k ai,Q1c e B s,Q1d e A,Q1b e xb]) rfl ?_
    obtain⟨bb,bc,bd,bf,bg⟩:=NOk.len L
    have D:ai.p.tk S=some C:=by rw[N];exact E7 _ _ _
    refine Ca rfl rfl (Au (args:= #[pV C 0,nV .u16 ep]) [0] [1,2,3] fun h f g=>(Alu Ae Ae D L g)) (.inr fun _ _ c=>⟨_,c⟩) fun aj ak=>?_
    obtain⟨O,P⟩:=ak
    obtain⟨bh,bi,bj,bk,bl⟩:=NOk.len O
    have al:aj.p.tk S=some C:=by rw[P];exact D
    refine Ev ?_
    show∀h,_→bodyPostM (Cv none) 0 prog Tryz.f40 _ Exit.normal _ h
    exact fun h F=>Ei<|Iv rfl ⟨aj,⟨O,C,(by rw[P,N,ah,t,q,x];unfold Fm;rw[(show e.given=true from by simpa using Y),(show decide ((B1 (⟨0,0⟩:Lse) s.p.zs<|Cc<|Ed e).count-1>0)=false from aa)];rw[show(B1 (⟨0,0⟩:Lse) s.p.zs<|Cc<|Ed e).ext.toNat=ep from(congrArg Int.toNat R).trans rfl,show e.pr.toNat=S by omega]<;>rfl)⟩,rfl,(F.pick [0] An rfl)⟩
  ·refine Wa.ys (v:=pL<|some ⟨k.nb,0,none⟩) (i:=0) Aa Aa Aa Aa (fun _ c=>c) rfl rfl rfl (Ys.p)<|Wa.ys (v:=pL<|some ⟨k.nb,0,none⟩) (i:=1) Aa Aa Aa Aa (fun _ c=>c) rfl rfl rfl (Ys.p)<|Wa.ys (v:=pL<|some ⟨k.nb,30,none⟩) (i:=2) Aa Aa Aa Aa (fun _ c=>c) rfl rfl rfl (Ys.p)<|Wa.ys (i:=3) Aa Aa Aa Aa (fun _ c=>c) rfl rfl rfl (Bf (b:=k.nb) (o':=30) (i:=1) (j:=0) (cs:=C3 k l) (v:=pL<|some ⟨k.te,0,none⟩) rfl Aa isAgg86 rfl rfl<|(Cf rfl An).trans rfl)<|Wa.ys (v:=aV<|Q1f e) (i:=4) Aa Aa Aa Aa (fun _ c=>c) rfl rfl rfl (F0 A 0 0 0 (Q1f e) isAgg97 sizeOf97) ?_
   refine C9 (i:=5) (j:=9) Aa ?_ ?_
   ·have d:l.p.zs=s.p.zs:=by rw[t,q,x]
    have d:l.p.zs=s.p.zs:=by rw[t,q,x]
    refine Wo.yc (v:=Value.tuple #[aV (Q1e e s),bV (Bq s.p.zs (e.pr,e.src,e.frm))]) rfl rfl rfl (A8 fun h f=>(Oi s.p.zs l.ge.a l.ge.cap k.mo k.te (e.pr,e.src,e.frm) _ (by rw[←d];exact(Lr (i:=1) f rfl)) (by rw[←d];exact(NG.zs (i:=1) f rfl u)) D1 ok.hzs)) (.inr fun _ c=>c)<|Wa.ys (v:=Value.tuple #[aV (Q1e e s),bV (Bq s.p.zs (e.pr,e.src,e.frm))]) (i:=6) Aa Aa Aa Aa (fun _ c=>c) rfl rfl rfl (Ys.p)<|Wa.ys (v:=aV<|Q1e e s) (i:=7) Aa Aa Aa Aa (fun _ c=>c) rfl rfl rfl (Ys.p)<|Wa.ys (v:=bV<|Bq s.p.zs (e.pr,e.src,e.frm)) (i:=8) Aa Aa Aa Aa (fun _ c=>c) rfl rfl rfl (Ys.p)<|A6 (i:=9) Aa ?_
    refine Cp rfl rfl (Ba zeroValue99) (Az [1,2,3]) fun B=>?_
    exact Ck [0,4,5,53,54] [pL (some ⟨k.nb,0,none⟩),pV A 0,pV B 0,aV [iV .u16 ((B1 (⟨0,0⟩:Lse) s.p.zs (e.pr,e.src,e.frm)).ext),iV .i64 ((B1 (⟨0,0⟩:Lse) s.p.zs (e.pr,e.src,e.frm)).count)],bV (Bq s.p.zs (e.pr,e.src,e.frm))] #[true,true,true,true,true,true,true,true,true,true,false,false] (JD33 B trivial) Aa Aa fun _ c=>c
   ·refine Cp rfl rfl (Ba zeroValue99) (Az [1,2,3]) fun B=>A6 (i:=5) Aa ?_
    have d:l.p.zs=s.p.zs:=by rw[t,q,x]
    have d:l.p.zs=s.p.zs:=by rw[t,q,x]
    refine Wo.yc (v:=Value.tuple #[aV (Q1e e s),bV (Bq s.p.zs (e.pr,e.src,e.frm))]) rfl rfl rfl (A8 fun h f=>(Oi s.p.zs l.ge.a l.ge.cap k.mo k.te (e.pr,e.src,e.frm) _ (by rw[←d];exact(Lr (i:=2) f rfl)) (by rw[←d];exact(NG.zs (i:=2) f rfl u)) D1 ok.hzs)) (Ee [1,2,3])<|Wa.ys (v:=Value.tuple #[aV (Q1e e s),bV (Bq s.p.zs (e.pr,e.src,e.frm))]) (i:=6) Aa Aa Aa Aa (fun _ c=>c.pick [1,2,3] An rfl) rfl rfl rfl (Ys.p)<|Wa.ys (v:=aV<|Q1e e s) (i:=7) Aa Aa Aa Aa (fun _ c=>c.pick [1,2,3] An rfl) rfl rfl rfl (Ys.p)<|Wa.ys (v:=bV<|Bq s.p.zs (e.pr,e.src,e.frm)) (i:=8) Aa Aa Aa Aa (fun _ c=>c.pick [1,2,3] An rfl) rfl rfl rfl (Ys.p) ?_
    exact Ck [0,4,5,53,54] [pL (some ⟨k.nb,0,none⟩),pV A 0,pV B 0,aV [iV .u16 ((B1 (⟨0,0⟩:Lse) s.p.zs (e.pr,e.src,e.frm)).ext),iV .i64 ((B1 (⟨0,0⟩:Lse) s.p.zs (e.pr,e.src,e.frm)).count)],bV (Bq s.p.zs (e.pr,e.src,e.frm))] #[true,true,true,true,true,true,true,true,true,true,false,false] (JD33 B trivial) Aa Aa fun _ c=>c
def Em(P:List (Int×Int)):Nat→Nat→Bool:=fun p q=>decide (1024≤q)&&P.any fun x=>(x.1==(p:Int))&&(x.2==(q:Int))
theorem Zr:Em []=fun _ _=>false:=by funext p q;simp[Em]
theorem N3{P:List (Int×Int)}{p q:Nat}:F8 (Em P) p (Pw (Em P p) q)=Em (P++[(((p:Nat):Int),(q:Int))]):=by
  funext r t
  by_cases e:r=p
  · subst e
    rw[G2]
    unfold Pw Ww
    by_cases f:t=q
    · subst f
      by_cases c:1024≤t
      · cases b:Em P r t with
        |true=>simp only[b,Bool.or_true,Bool.not_true,cond_false];unfold Em at b⊢;simp[c]at b⊢
        |false=>simp only[b,Bool.or_false,show decide (t<1024)=false from decide_eq_false Ae,Bool.not_false,cond_true];rw[L7];unfold Em;simp[c]
      · rw[show decide (t<1024)=true from decide_eq_true Ae];simp only[Bool.true_or,Bool.not_true,cond_false];unfold Em;simp[c]
    · have g:Em (P++[(((r:Nat):Int),(q:Int))]) r t=Em P r t:=by
        have d:(((q:Nat):Int)==(t:Int))=false:=by rw[beq_eq_false_iff_ne];omega
        unfold Em;rw[List.any_append,List.any_cons,List.any_nil];simp only[d,Bool.and_false,Bool.or_false]
      rw[g]
      cases(!(decide (q<1024)||Em P r q))
      · rfl
      · simp only[cond_true];rw[Im _ _ f]
  · rw[El _ _ e]
    have d:(((p:Nat):Int)==(r:Int))=false:=by rw[beq_eq_false_iff_ne];omega
    unfold Em;rw[List.any_append,List.any_cons,List.any_nil];simp only[d,Bool.false_and,Bool.or_false]
theorem Ad2{α:Type}(d:α){P:List α}{k:Nat}(h:k<P.length):P.take k++[P.getD k d]=P.take (k+1):=by
  rw[List.take_add_one,List.getD_eq_getElem?_getD,List.getElem?_eq_getElem h];rfl
theorem Ad3:tkC (fun _=>none)=List.replicate 256 (Value.pointer none):=by
  apply List.ext_getElem?
  intro i
  by_cases b:i<256
  · rw[Ny b,List.getElem?_replicate,if_pos b];rfl
  · rw[List.getElem?_eq_none (by rw[Fz];omega),List.getElem?_replicate,if_neg b]
theorem Xw{d:List Value}{m s e f c b:Value}{tk:Nat→Option Nat}(hc:d.length=28):Bt (En d m s e tk f c b) 31 (List.replicate 256 (Value.pointer none))=En d m s e (fun _=>none) f c b:=by
  unfold En Bt
  rw[Ad3,List.length_replicate,List.take_append_of_le_length (by simp[hc]),List.take_of_length_le (by simp[hc]),List.drop_append,List.drop_eq_nil_of_le (by simp[hc]),List.nil_append,show 31+256-(d++[m,s,e]).length=256 by simp[hc],List.drop_append,List.drop_eq_nil_of_le (by rw[Fz];exact Nat.le_refl _),Fz]
  simp
theorem Aif:(Builtin.zeroCells #[Value.pointer none] (255+1)).toList=List.replicate 256 (Value.pointer none):=by
  unfold Builtin.zeroCells
  rw[Array.toList_map,Array.toList_range]
  apply List.ext_getElem?
  intro i
  rw[List.getElem?_map]
  by_cases b:i<256
  · rw[List.getElem?_range (by show i<(255+1)*1;omega),List.getElem?_replicate,if_pos b]
    show some (#[Value.pointer none][i%1]!)=_
    rw[Nat.mod_one];rfl
  · rw[List.getElem?_eq_none (by rw[List.length_range];show(255+1)*1≤i;omega),List.getElem?_replicate,if_neg b];rfl
def F3(fx:List Conf.Fwd):List (Int×Int):=fx.map fun w=>(w.proto,w.port)
def H6(ms:List Mpg):List (Int×Int):=ms.map fun m=>(m.proto,m.ext)
def Mm(zs:List ((Int×Int×Int)×(Lse))):List (Int×Int):=zs.map fun z=>(z.1.1,z.2.ext)
theorem Ad4{α β:Type}{f:α→β}{xs:List α}{k:Nat}(d:α)(b:β)(h:k<xs.length):(xs.map f).getD k b=f (xs.getD k d):=by
  rw[List.getD_eq_getElem?_getD,List.getElem?_map,List.getD_eq_getElem?_getD,List.getElem?_eq_getElem h];rfl
theorem Uq{α:Type}{f:α→Int×Int}(d:α){xs:List α}{k:Nat}{p q:Int}(b:k<xs.length)(c:(f (xs.getD k d)).1=p)(e:(f (xs.getD k d)).2=q):(xs.map f).take k++[(p,q)]=(xs.map f).take (k+1):=by
  rw[←Ad2 (0,0) (by rw[List.length_map];exact b),Ad4 d (0,0) b,←c,←e]
theorem Ad5{fx:List Conf.Fwd}{k:Nat}{p q:Int}(b:k<fx.length)(c:(fx.getD k fz).proto=p)(d:(fx.getD k fz).port=q):(F3 fx).take k++[(p,q)]=(F3 fx).take (k+1):=Uq fz b c d
theorem Ad6{ms:List Mpg}{k:Nat}{p q:Int}(b:k<ms.length)(c:(ms.getD k Ax).proto=p)(d:(ms.getD k Ax).ext=q):(H6 ms).take k++[(p,q)]=(H6 ms).take (k+1):=Uq Ax b c d
theorem Ad7{zs:List ((Int×Int×Int)×(Lse))}{k:Nat}{p q:Int}(b:k<zs.length)(c:(zs.getD k dD).1.1=p)(d:(zs.getD k dD).2.ext=q):(Mm zs).take k++[(p,q)]=(Mm zs).take (k+1):=Uq dD b c d
theorem Xx{α:Type}{f:α→Int×Int}{xs:List α}{k:Nat}(h:xs.length≤k):(xs.map f).take k=xs.map f:=List.take_of_length_le (by rw[List.length_map];exact h)
theorem Ow{α:Type}(d:α){xs:List α}{k:Nat}(h:k<xs.length):xs.getD k d∈xs:=by
  rw[List.getD_eq_getElem?_getD,List.getElem?_eq_getElem h];exact List.getElem_mem _
def Hu(s:NS)(tk:Nat→Option Nat)(TT:Nat→Nat→Bool):NS:={s with p:={s.p with tk:=tk,TT:=TT}}
theorem Aig{k:NK}{s:NS}(ok:NOk k s):NOk k (Hu s (fun _=>none) (Em [])):=⟨ok.okm,ok.okf,ok.oks,ok.oki,ok.oke,ok.okw,ok.hmn,ok.hfn,ok.hmo,ok.hxn,ok.hyn,ok.hzn,ok.hwn,ok.hxs,ok.hys,ok.hzs,ok.hws,fun p _=>by show Em [] p=_;rw[Zr]⟩
theorem Xy{k:NK}{s:NS}:Bt (C3 k s) 31 (List.replicate 256 (Value.pointer none))=C3 k (Hu s (fun _=>none) (Em [])):=Xw rfl
theorem Mem.sublist{w0 w:World}{M:List Nat}{LL LL':List (List Blk)}(b:LL'.flatten.Sublist LL.flatten)(h:Mem w0 M LL w):Mem w0 M LL' w:=by
  unfold Mem at h⊢
  exact Mem0.sub h (fun p c=>b.mem c)<|(Mem0.nodup h).sublist<|b.map _
theorem Aly{w0 w:World}{M:List Nat}{k:NK}{s:NS}{R:List (List Blk)}(h:Mem w0 M ((NG k s).set 0 (cb k.nb (C3 k (Hu s (fun _=>none) (Em []))) 91)::R) w):Mem w0 M (NG k (Hu s (fun _=>none) (Em []))::R) w:=by
  refine Mem.sublist ?_ h
  have b:(NG k s).set 0 (cb k.nb (C3 k (Hu s (fun _=>none) (Em []))) 91)=((Gr k (Hu s (fun _=>none) (Em []))).take 11).flatten++(Gv s.p.tk s.p.TT++s.p.es.map Jv):=by
    rw[show Gv s.p.tk s.p.TT++s.p.es.map Jv=([Gv s.p.tk s.p.TT,s.p.es.map Jv]:List (List Blk)).flatten by simp]
    rw[←List.flatten_append];rfl
  have c:NG k (Hu s (fun _=>none) (Em []))=((Gr k (Hu s (fun _=>none) (Em []))).take 11).flatten++([]++s.p.es.map Jv):=by
    rw[←R8 (Em [])]
    rw[show Gv (fun _=>none) (Em [])++s.p.es.map Jv=([Gv (fun _=>none) (Em []),s.p.es.map Jv]:List (List Blk)).flatten by simp]
    rw[←List.flatten_append];rfl
  rw[List.flatten_cons,List.flatten_cons,b,c]
  exact List.Sublist.append (List.Sublist.append (List.Sublist.refl _)<|List.Sublist.append (List.nil_sublist _)<|List.Sublist.refl _)<|List.Sublist.refl _
abbrev Q1g(k:NK)(b:Nat):List Blk:=[cb b [pL (some ⟨k.nb,0,none⟩)] 35]
abbrev Q1h(k:NK):List Value:=[pL (some ⟨k.nb,0,none⟩)]
theorem Tg(k:NK)(s:NS)(M:List Nat)(w:World)(ok:NOk k s)(hl:Mem w M [NG k s] w)(a2: ∀x∈k.fx,0≤x.proto∧x.proto≤255∧0≤x.port∧x.port≤65535)(a3: ∀x∈s.p.ms,0≤x.proto∧x.proto≤255∧0≤x.ext∧x.ext≤65535)(a5: ∀x∈s.p.zs,0≤x.1.1∧x.1.1≤255∧0≤x.2.ext∧x.2.ext≤65535):Calls prog 36 #[pL (some ⟨k.nb,0,none⟩)] w (Bn w (fun tk':Nat→Option Nat=>NOk k (Hu s tk' (Em (F3 k.fx++H6 s.p.ms++Mm s.p.zs)))) (fun _=>.tuple #[]) M (fun tk'=>[NG k (Hu s tk' (Em (F3 k.fx++H6 s.p.ms++Mm s.p.zs)))])):=by
 obtain⟨bt,bu,bw,bx,bz⟩:=NOk.len ok
 refine Ap (M:=M) (LL:=[NG k s]) (n:=61) func36 rfl rfl A7 (hl)<|W.s ?_
 refine Ac<|Af rfl (E9 (v:=pL<|some ⟨k.nb,0,none⟩) (cs:=(Q1h k)) rfl rfl Aa rfl) fun C=>?_
 refine Ai<|Av<|A5 3 [(0,0)] ?_
 refine Ao (v:=sL (some ⟨k.nb,31,none⟩) 256 256) (Tz (b:=k.nb) (o':=31) (len:=256) (sz:=1) rfl Aa runUnderlying88 sizeOf87)<|Af rfl (La (t:=165) (e:=87) (ii:=(prog.info? 87).getD default) (z:=pL none) (m:=255) (cap:=256) (o':=31) (i:=1) (j:=0) (b:=k.nb) (ty:=91) (cs:=C3 k s) (cs':=C3 k<|Hu s (fun _=>none)<|Em []) (zs:=List.replicate 256<|pL none) (LL':=[Q1g k C,(NG k s).set 0 (cb k.nb (C3 k<|Hu s (fun _=>none)<|Em []) 91)]) rfl rfl Aa Aa Aa Aa rfl rfl Aif (by rw[show(C3 k s).length=290 from Hk rfl,List.length_replicate];decide) (fun v hv=>by rw[List.eq_of_mem_replicate hv];rfl) Xy rfl) fun _=>?_
 refine Ai<|W.s<|W.s<|W.conseq (S':=Mem w M [NG k (Hu s (fun _=>none)<|Em []),Q1g k C]) (fun r d=>Aly<|d.pick [1,0] An rfl) ?_
 have E:([]:List (Int×Int))=(F3 k.fx).take 0:=rfl
 have G:NOk k (Hu s (fun _=>none) (Em ((F3 k.fx).take 0))):=E▸(Aig ok)
 refine W.conseq (S':=Mem w M [NG k (Hu s (fun _=>none)<|Em<|(F3 k.fx).take 0),[cb C (Q1h k) 35]]) (fun r d=>Mem.cast (LL:=[NG k (Hu s (fun _=>none)<|Em []),[cb C (Q1h k) 35]]) (by rw[E]) d)<|Ac<|A5 4 [(1,0)]<|Ao (Bf (b:=k.nb) (o':=25) (i:=0) (j:=0) (cs:=C3 k<|Hu s (fun _=>none)<|Em<|(F3 k.fx).take 0) (v:=sL k.gf.a k.fx.length k.gf.cap) rfl Aa isAgg30 rfl rfl<|(Cf rfl An).trans rfl)<|Ab 2 ?_
 refine Ai<|W.block<|Fx [1,16,17,18] (fun(h:Nat) (q:Nat→Option Nat)=>[pV C 0,sL k.gf.a k.fx.length k.gf.cap,nV .i64 k.fx.length,nV .i64 h]) (fun(h:Nat) (q:Nat→Option Nat)=>h≤k.fx.length∧NOk k (Hu s q<|Em<|(F3 k.fx).take h)) (fun(h:Nat) (q:Nat→Option Nat)=>[NG k (Hu s q<|Em<|(F3 k.fx).take h),Q1g k C]) (fun(h:Nat) (q:Nat→Option Nat)=>k.fx.length-h) 0 (fun _=>none) Aa ⟨(Nat.zero_le _),G⟩ (by rfl) fun h q f8 J7 a6 a7=>?_
 obtain⟨b1,Q⟩:=a6
 refine Aj []<|W.s ?_
 refine Ak (decide<|((h:Nat):Int)<(k.fx.length:Int)) Aa (fun a8=>?_) fun a9=>?_
 ·have ab:=a8;try simp only[zA]at ab
  refine Ag<|A9<|W.s<|W.block<|W.s ?_
  have X:=a2 _ (Ow fz (xs:=k.fx) (k:=h) Ae)
  obtain⟨c,u⟩: ∃n:Nat,(k.fx.getD h fz).proto=(n:Int):=⟨_,(Int.toNat_of_nonneg Ae).symm⟩
  obtain⟨f,A⟩: ∃n:Nat,(k.fx.getD h fz).port=(n:Int):=⟨_,(Int.toNat_of_nonneg Ae).symm⟩
  have Y:c<256:=by omega
  have Z:f<65536:=by omega
  refine Ac<|Ao (v:=pL<|some<|Cs k.gf.a<|h*4) (Bb fun r d=>Aq (k:=.i64) (a:=k.gf.a) (len:=k.fx.length) (cap:=k.gf.cap) (i:=(h:Int)) (sz:=4) rfl Aa Aa runUnderlying30 sizeOf65 Ae Ae<|(@id (At _ k.gf.a<|mm fwv k.fx)<|NG.fx (s:=(Hu s q<|Em<|(F3 k.fx).take h)) (i:=0) d rfl Q).here Tq)<|Ao (v:=aV<|L8<|k.fx.getD h fz) (Ys.ldN (a:=Cs k.gf.a<|h*4) (vs:=(L8<|k.fx.getD h fz)) rfl Aa isAgg65 sizeOf65 rfl fun r d=>(@id (At _ k.gf.a<|mm fwv k.fx)<|NG.fx (s:=(Hu s q<|Em<|(F3 k.fx).take h)) (i:=0) d rfl Q).ldN<|Db (g:=fwv) (sz:=4) (fun _=>rfl) fz (xs:=k.fx) (k:=h) Ae)<|Af rfl (Ba zeroValue65) fun p3=>Af rfl (A0 p3 0 0 0 (L8<|k.fx.getD h fz) sizeOf65 rfl rfl) fun _=>?_
  refine Ai<|B3 [(0,true),(1,true),(2,true),(4,true),(5,true),(3,false),(6,false)] [0,1,2,4,5] (fun r=> ∃J:NS,Mem w M [[cb p3 (L8<|k.fx.getD h fz) 65],NG k J,Q1g k C] r) Aa Aa Aa rfl Aa (fun _ _ d=>d.drawn _) (fun _ d=>⟨_,d⟩)<|Bm rfl (Dx fun J=>Bf (b:=C) (o':=0) (i:=2) (j:=0) (v:=pL<|some ⟨k.nb,0,none⟩) rfl Aa isAgg35 rfl rfl rfl)<|B5 1 ?_
  refine Bm (v:=nV .u8 c) rfl (Dx fun J=>Ys.conseq (v:=iV .u8<|(k.fx.getD h fz).proto) (Ad u)<|Cn p3 0 0 0 isAgg5)<|B5 1<|Bm (v:=nV .u16 f) rfl (Dx fun J=>Ys.conseq (v:=iV .u16<|(k.fx.getD h fz).port) (Ad A)<|Cn p3 1 0 0 isAgg22)<|Ca rfl rfl (Au (args:= #[pL (some ⟨k.nb,0,none⟩),nV .u8 c]) [1] [0,2] fun r H B=>(Zp Ae Q B)) (.inr fun _ _ d=>⟨_,d.pick [1,0,2] An rfl⟩) fun T ad=>?_
  obtain⟨ae,ba⟩:=ad
  refine Ca rfl rfl (Au (args:= #[pV T 0,nV .u16 f]) [0] [1,2] fun r H B=>(Xr Ae Ae (E7 _ _ _) ae B)) (.inr fun _ _ d=>⟨_,d.pick [1,0,2] An rfl⟩) fun b3 af=>Cl<|Al [0,2] An rfl<|Ac ?_
  refine Bw (((h+1):Nat):Int) (h:Int) 1<|Ab 1<|Ay ?_
  have U:((F3 k.fx).take h)++[(((c:Nat):Int),(f:Int))]=(F3 k.fx).take (h+1):=by exact Ad5 Ae u A
  have L:F8 (Em ((F3 k.fx).take h)) c (Pw ((Em ((F3 k.fx).take h)) c) f)=Em ((F3 k.fx).take (h+1)):=by rw[N3,U]
  refine fun r d=>a7 (h+1) (M7 q c<|some T) _ r Ae ⟨Ae,(L▸af)⟩ ?_<|Mem.cast (LL:=[NG k (Hu s (M7 q c<|some T)<|F8 (Em<|(F3 k.fx).take h) c<|Pw ((Em<|(F3 k.fx).take h) c) f),[cb C [Value.pointer (some ⟨k.nb,0,none⟩)] 35]]) (by rw[L]) d
  kernel_rfl
 ·have ag:=a9;try simp only[zA]at ag
  refine Cm<|A9<|W.s<|W.s ?_
  have E:(F3 k.fx).take h=F3 k.fx++(H6 s.p.ms).take 0:=by rw[show(F3 k.fx).take h=F3 k.fx from Xx Ae];simp
  have G:NOk k (Hu s q (Em (F3 k.fx++(H6 s.p.ms).take 0))):=E▸Q
  refine W.conseq (S':=Mem w M [NG k (Hu s q<|Em<|F3 k.fx++(H6 s.p.ms).take 0),[cb C (Q1h k) 35]]) (fun r d=>Mem.cast (LL:=[NG k (Hu s q<|Em<|(F3 k.fx).take h),[cb C (Q1h k) 35]]) (by rw[E]) d)<|Ac<|A5 3 [(1,0)]<|Ao (Bf (b:=k.nb) (o':=28) (i:=0) (j:=0) (cs:=C3 k<|Hu s q<|Em<|F3 k.fx++(H6 s.p.ms).take 0) (v:=sL s.gm.a s.p.ms.length s.gm.cap) rfl Aa isAgg56 rfl rfl<|(Cf rfl An).trans rfl)<|Ab 2 ?_
  refine Ai<|W.block<|Fx [1,33,34,35] (fun(l:Nat) (o:Nat→Option Nat)=>[pV C 0,sL s.gm.a s.p.ms.length s.gm.cap,nV .i64 s.p.ms.length,nV .i64 l]) (fun(l:Nat) (o:Nat→Option Nat)=>l≤s.p.ms.length∧NOk k (Hu s o<|Em<|F3 k.fx++(H6 s.p.ms).take l)) (fun(l:Nat) (o:Nat→Option Nat)=>[NG k (Hu s o<|Em<|F3 k.fx++(H6 s.p.ms).take l),Q1g k C]) (fun(l:Nat) (o:Nat→Option Nat)=>s.p.ms.length-l) 0 q Aa ⟨(Nat.zero_le _),G⟩ (by rfl) fun l o b4 b5 ah ai=>?_
  obtain⟨b6,R⟩:=ah
  refine Aj []<|W.s ?_
  refine Ak (decide<|((l:Nat):Int)<(s.p.ms.length:Int)) Aa (fun bb=>?_) fun bc=>?_
  ·have aj:=bb;try simp only[zA]at aj
   refine Ag<|A9<|W.s<|W.block<|W.s ?_
   have X:=a3 _ (Ow Ax (xs:=s.p.ms) (k:=l) Ae)
   obtain⟨c,u⟩: ∃n:Nat,(s.p.ms.getD l Ax).proto=(n:Int):=⟨_,(Int.toNat_of_nonneg Ae).symm⟩
   obtain⟨f,A⟩: ∃n:Nat,(s.p.ms.getD l Ax).ext=(n:Int):=⟨_,(Int.toNat_of_nonneg Ae).symm⟩
   have Y:c<256:=by omega
   have Z:f<65536:=by omega
   refine Ac<|Ao (v:=pL<|some<|Cs s.gm.a<|l*5) (Bb fun r d=>Aq (k:=.i64) (a:=s.gm.a) (len:=s.p.ms.length) (cap:=s.gm.cap) (i:=(l:Int)) (sz:=5) rfl Aa Aa runUnderlying56 sizeOf26 Ae Ae<|(@id (At _ s.gm.a<|mm Jc s.p.ms)<|NG.ms (s:=(Hu s o<|Em<|F3 k.fx++(H6 s.p.ms).take l)) (i:=0) d rfl R).here Vj)<|Ao (v:=aV<|K0<|s.p.ms.getD l Ax) (Ys.ldN (a:=Cs s.gm.a<|l*5) (vs:=(K0<|s.p.ms.getD l Ax)) rfl Aa isAgg26 sizeOf26 rfl fun r d=>(@id (At _ s.gm.a<|mm Jc s.p.ms)<|NG.ms (s:=(Hu s o<|Em<|F3 k.fx++(H6 s.p.ms).take l)) (i:=0) d rfl R).ldN<|Db (g:=Jc) (sz:=5) (fun _=>rfl) Ax (xs:=s.p.ms) (k:=l) Ae)<|Af rfl (Ba zeroValue26) fun p5=>Af rfl (A0 p5 0 0 0 (K0<|s.p.ms.getD l Ax) sizeOf26 rfl rfl) fun _=>?_
   refine Ai<|B3 [(0,true),(1,true),(2,true),(4,true),(5,true),(3,false),(6,false)] [0,1,2,4,5] (fun r=> ∃J:NS,Mem w M [[cb p5 (K0<|s.p.ms.getD l Ax) 26],NG k J,Q1g k C] r) Aa Aa Aa rfl Aa (fun _ _ d=>d.drawn _) (fun _ d=>⟨_,d⟩)<|Bm rfl (Dx fun J=>Bf (b:=C) (o':=0) (i:=2) (j:=0) (v:=pL<|some ⟨k.nb,0,none⟩) rfl Aa isAgg35 rfl rfl rfl)<|B5 1 ?_
   refine Bm (v:=nV .u8 c) rfl (Dx fun J=>Ys.conseq (v:=iV .u8<|(s.p.ms.getD l Ax).proto) (Ad u)<|Cn p5 0 0 0 isAgg5)<|B5 1<|Bm (v:=nV .u16 f) rfl (Dx fun J=>Ys.conseq (v:=iV .u16<|(s.p.ms.getD l Ax).ext) (Ad A)<|Cn p5 1 0 0 isAgg22)<|Ca rfl rfl (Au (args:= #[pL (some ⟨k.nb,0,none⟩),nV .u8 c]) [1] [0,2] fun r H B=>(Zp Ae R B)) (.inr fun _ _ d=>⟨_,d.pick [1,0,2] An rfl⟩) fun V ak=>?_
   obtain⟨al,bd⟩:=ak
   refine Ca rfl rfl (Au (args:= #[pV V 0,nV .u16 f]) [0] [1,2] fun r H B=>(Xr Ae Ae (E7 _ _ _) al B)) (.inr fun _ _ d=>⟨_,d.pick [1,0,2] An rfl⟩) fun b7 am=>Cl<|Al [0,2] An rfl<|Ac ?_
   refine Bw (((l+1):Nat):Int) (l:Int) 1<|Ab 1<|Ay ?_
   have U:(F3 k.fx++(H6 s.p.ms).take l)++[(((c:Nat):Int),(f:Int))]=F3 k.fx++(H6 s.p.ms).take (l+1):=by rw[List.append_assoc];exact congrArg (fun z_=>(F3 k.fx)++z_) (Ad6 Ae u A)
   have L:F8 (Em (F3 k.fx++(H6 s.p.ms).take l)) c (Pw ((Em (F3 k.fx++(H6 s.p.ms).take l)) c) f)=Em (F3 k.fx++(H6 s.p.ms).take (l+1)):=by rw[N3,U]
   refine fun r d=>ai (l+1) (M7 o c<|some V) _ r Ae ⟨Ae,(L▸am)⟩ ?_<|Mem.cast (LL:=[NG k (Hu s (M7 o c<|some V)<|F8 (Em<|F3 k.fx++(H6 s.p.ms).take l) c<|Pw ((Em<|F3 k.fx++(H6 s.p.ms).take l) c) f),[cb C [Value.pointer (some ⟨k.nb,0,none⟩)] 35]]) (by rw[L]) d
   kernel_rfl
  ·have an:=bc;try simp only[zA]at an
   refine Cm<|A9<|W.s ?_
   have E:F3 k.fx++(H6 s.p.ms).take l=F3 k.fx++H6 s.p.ms++(Mm s.p.zs).take 0:=by rw[show(H6 s.p.ms).take l=H6 s.p.ms from Xx Ae];simp
   have G:NOk k (Hu s o (Em (F3 k.fx++H6 s.p.ms++(Mm s.p.zs).take 0))):=E▸R
   refine W.conseq (S':=Mem w M [NG k (Hu s o<|Em<|F3 k.fx++H6 s.p.ms++(Mm s.p.zs).take 0),[cb C (Q1h k) 35]]) (fun r d=>Mem.cast (LL:=[NG k (Hu s o<|Em<|F3 k.fx++(H6 s.p.ms).take l),[cb C (Q1h k) 35]]) (by rw[E]) d)<|Ac<|A5 3 [(1,0)]<|Ao (Bf (b:=k.nb) (o':=30) (i:=0) (j:=0) (cs:=C3 k<|Hu s o<|Em<|F3 k.fx++H6 s.p.ms++(Mm s.p.zs).take 0) (v:=pL<|some ⟨k.te,0,none⟩) rfl Aa isAgg86 rfl rfl<|(Cf rfl An).trans rfl)<|Aw rfl (Au [] [0,1] fun r H B=>(Xg k.te _)) fun S _=>?_
   refine Ai<|W.block ?_
   refine Jn (σ:=(Nat→Option Nat)×(Nat→Nat→Bool)) (enc:=fun D=>[aV (Ky<|(s.p.zs.getD D dD).1),aV [iV .u16 (((s.p.zs.getD D dD).2).ext),iV .i64 (((s.p.zs.getD D dD).2).count)]]) (N:=s.p.zs.length) (Lu:=fun(O:(Nat→Option Nat)×(Nat→Nat→Bool))=>[NG k (Hu s O.1 O.2),Q1g k C]) (Li:=[[cb S [pL (some ⟨k.te,0,none⟩)] 86]]) (Lk:=[]) [1,2] [0] [] (o,Em<|F3 k.fx++H6 s.p.ms++(Mm s.p.zs).take 0) (fun D (O:(Nat→Option Nat)×(Nat→Nat→Bool))=>O.2=Em (F3 k.fx++H6 s.p.ms++(Mm s.p.zs).take D)∧NOk k (Hu s O.1 O.2)) (fun c_ (O:(Nat→Option Nat)×(Nat→Nat→Bool))=>False) [52,53] Aa (fun _ _=>rfl) An (by rfl) rfl rfl rfl (fun _=>rfl) (⟨rfl,G⟩) (fun D_ l_ bg bh H=>(T8 s.p.zs s.ge.a s.ge.cap k.mo k.te S _ bh (Lr (s:=(Hu s o<|Em<|F3 k.fx++H6 s.p.ms++(Mm s.p.zs).take 0)) (i:=2) H rfl) (@id (At _ s.ge.a<|mm Gp s.p.zs)<|NG.zs (s:=(Hu s o<|Em<|F3 k.fx++H6 s.p.ms++(Mm s.p.zs).take 0)) (i:=2) H rfl G) D1)) ?_ ?_ ?_
   ·intro D56 bi bp ao D bj bk Mu63 cc bq ap bl aq
    obtain⟨I,T3⟩:=bj
    obtain⟨P,F⟩:=ap
    have P:T3=Em (F3 k.fx++H6 s.p.ms++(Mm s.p.zs).take D):=P
    have F:NOk k (Hu s I T3):=F
    have X:=a5 _ (Ow dD (xs:=s.p.zs) (k:=D) Ae)
    obtain⟨c,u⟩: ∃n:Nat,(s.p.zs.getD D dD).1.1=(n:Int):=⟨_,(Int.toNat_of_nonneg Ae).symm⟩
    obtain⟨f,A⟩: ∃n:Nat,(s.p.zs.getD D dD).2.ext=(n:Int):=⟨_,(Int.toNat_of_nonneg Ae).symm⟩
    have Y:c<256:=by omega
    have Z:f<65536:=by omega
    refine Av<|Af rfl (Ba zeroValue97) fun p6=>Af rfl (A0 p6 0 0 0 (Ky<|(s.p.zs.getD D dD).1) sizeOf97 rfl rfl) fun _=>Ay ?_
    refine A9<|Ac<|Af rfl (Ba zeroValue99) fun p7=>Af rfl (A0 p7 0 0 0 [iV .u16 (((s.p.zs.getD D dD).2).ext),iV .i64 (((s.p.zs.getD D dD).2).count)] sizeOf99 rfl rfl) fun _=>Ay ?_
    refine fun r d=>aq _ [[cb p7 [iV .u16 (((s.p.zs.getD D dD).2).ext),iV .i64 (((s.p.zs.getD D dD).2).count)] 99],[cb p6 (Ky<|(s.p.zs.getD D dD).1) 97],NG k<|Hu s I T3,Q1g k C] ?_ r<|d.pick [2,3,0,1,4,5] An rfl
    refine W.block<|B3 [(0,true),(1,true),(2,true),(4,true),(5,true),(3,false),(6,false)] [0,1,2,4,5] (fun r=> ∃J:NS,Mem bk Mu63 [dB D56,lB bi ao,[cb p7 [iV .u16 (((s.p.zs.getD D dD).2).ext),iV .i64 (((s.p.zs.getD D dD).2).count)] 99],[cb p6 (Ky<|(s.p.zs.getD D dD).1) 97],NG k J,Q1g k C] r) Aa Aa Aa rfl Aa (fun _ _ d=>d.drawn _) (fun _ d=>⟨_,d⟩)<|Bm rfl (Dx fun J=>Bf (b:=C) (o':=0) (i:=5) (j:=0) (v:=pL<|some ⟨k.nb,0,none⟩) rfl Aa isAgg35 rfl rfl rfl)<|B5 1<|Bm (v:=nV .u8 c) rfl (Dx fun J=>Ys.conseq (v:=iV .u8<|((s.p.zs.getD D dD).1).1) (Ad u)<|Cn p6 0 3 0 isAgg5) ?_
    refine B5 1<|Bm (v:=nV .u16 f) rfl (Dx fun J=>Ys.conseq (v:=iV .u16<|((s.p.zs.getD D dD).2).ext) (Ad A)<|Cn p7 0 2 0 isAgg22)<|Ca rfl rfl (Au (args:= #[pL (some ⟨k.nb,0,none⟩),nV .u8 c]) [4] [0,1,2,3,5] fun r H B=>(Zp Ae F B)) (.inr fun _ _ d=>⟨_,d.pick [1,2,3,4,0,5] An rfl⟩) fun aa ar=>?_
    obtain⟨au,bm⟩:=ar
    refine Ca rfl rfl (Au (args:= #[pV aa 0,nV .u16 f]) [0] [1,2,3,4,5] fun r H B=>(Xr Ae Ae (E7 _ _ _) au B)) (.inr fun _ _ d=>⟨_,d.pick [1,2,3,4,0,5] An rfl⟩) fun cd av=>Ev ?_
    have U:(F3 k.fx++H6 s.p.ms++(Mm s.p.zs).take D)++[(((c:Nat):Int),(f:Int))]=F3 k.fx++H6 s.p.ms++(Mm s.p.zs).take (D+1):=by rw[List.append_assoc];exact congrArg (fun z_=>(F3 k.fx++H6 s.p.ms)++z_) (Ad7 Ae u A)
    have L:F8 T3 c (Pw (T3 c) f)=Em (F3 k.fx++H6 s.p.ms++(Mm s.p.zs).take (D+1)):=by rw[P,N3,U]
    exact fun r d=>Exists.intro (M7 I c<|some aa,F8 T3 c<|Pw (T3 c) f)<|And.intro ⟨L,av⟩<|d.pick [1,2,0,5] An rfl
   ·intro D80 ce br bn aw
    obtain⟨I,T3⟩:=bn
    obtain⟨P,F⟩:=aw
    have P:T3=Em (F3 k.fx++H6 s.p.ms++(Mm s.p.zs).take s.p.zs.length):=P
    have F:NOk k (Hu s I T3):=F
    refine Gc (LL':=[[cb S [Value.pointer (some ⟨k.te,0,none⟩)] 86],NG k<|Hu s I T3,Q1g k C,dB D80]) [4,2,3,0] An rfl ?_
    have E:T3=Em (F3 k.fx++H6 s.p.ms++Mm s.p.zs):=by rw[P,show(Mm s.p.zs).take s.p.zs.length=Mm s.p.zs from Xx (Nat.le_refl _)]
    show∀r,_→bodyPostM (Cv none) 0 prog Tryz.f36 _ Exit.normal _ r
    exact fun r ax=>Fq (ax.mark (i:=3) rfl).1 (by have bo:Mem w M [[cb S [Value.pointer (some ⟨k.te,0,none⟩)] 86],NG k<|Hu s I T3,[cb C [Value.pointer (some ⟨k.nb,0,none⟩)] 35],[⟨D80,.deferred none⟩]] _:=(ax.mark (i:=3) rfl).2;exact Iv rfl ⟨I,(by rw[←E];exact F),rfl,(Mem.cast (LL:=[NG k (Hu s I T3)]) (by rw[E])<|bo.pick [1] An rfl)⟩)
   ·intro D_ l_ bg c_ J d;exact d.elim
end Go.Proofs.YtmonlaoaengfdaaGreatDoor.Oct
