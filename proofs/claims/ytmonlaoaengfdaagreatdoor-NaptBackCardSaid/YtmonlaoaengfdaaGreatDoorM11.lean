import Derived.Test.YtmonlaoaengfdaaGreatDoorM10
set_option linter.unusedVariables false
set_option linter.unusedSimpArgs false
set_option maxRecDepth 20000
namespace Go.Proofs.YtmonlaoaengfdaaGreatDoor.Oct
open Go.RowKit Base
attribute [local irreducible] Ys Yc Ht HtS HtIn Wl Wd W Mem pf D4 Wa Wo
open Conf (Fwd fwv)
theorem N9(k:NK)(s:NS)(fa1 fa2 fa3 fa4 fa5:Int)(w:World)(ha:NAt k s w)(ok:NOk k s)(htie:s.p.xs=s.p.es.map Pd):Calls Tryz.prog 43 #[pL (some ⟨k.nb,0,none⟩),aV [iV .u8 fa1,iV .u32 fa2,iV .u32 fa3,iV .u16 fa4,iV .u16 fa5]] w (Dc w (.pointer (Cs ((I3 (fa1,fa2,fa3,fa4,fa5) s.p.es).map Prod.fst)))):=by
 obtain⟨lx0,ly0,lz0,lm0_,lf0⟩:=NOk.len ok
 refine Ar (M:=[]) (LL:=[]) (n:=44) Tryz.func43 rfl rfl A5 (Mem.refl _) (Ad (fun K1 hK1=>?_))
 refine Aa (Ai rfl (Bx [iV .u8 fa1,iV .u32 fa2,iV .u32 fa3,iV .u16 fa4,iV .u16 fa5] rfl) (fun p3=>?_))
 refine Ai rfl (Bc Tryz.zeroValue93) (fun p4=>Ac (hK1 _ _ _ (Ad (fun K3 hK3=>Ad (fun K4 hK4=>?_)))))
 refine Aa (Ab 3 (Ah (v:=pL (some ⟨k.ts,0,none⟩)) (Ys.ld (a:=⟨k.nb,29,none⟩) rfl Ae Tryz.isAgg85 (fun w_ h_=>by have x_:=(ha.nat.mem0 h_).ld (q:=29) ((Cq rfl Al).trans rfl);rw[Br]at x_;exact x_)) (Ax rfl (Au [] [0,1] (fun w_ hm_ hl_=>(Ahv k.ts _))) (fun ab5 _=>Ac ?_))))
 refine hK4 _ _ _ (W.block ?_)
 refine Tt (σ:=Option Nat) (enc:=fun i=>[aV [iV .u8 (((s.p.xs.getD i dS).1).1),iV .u32 (((s.p.xs.getD i dS).1).2.1),iV .u32 (((s.p.xs.getD i dS).1).2.2.1),iV .u16 (((s.p.xs.getD i dS).1).2.2.2.1),iV .u16 (((s.p.xs.getD i dS).1).2.2.2.2)],pL (Cs ((s.p.xs.getD i dS).2))]) (N:=s.p.xs.length) (Lu:=fun(gs_:Option Nat)=>[[cb p4 [pL (Cs gs_)] 93],[cb p3 [iV .u8 fa1,iV .u32 fa2,iV .u32 fa3,iV .u16 fa4,iV .u16 fa5] 47]]) (Li:=[[cb ab5 [pL (some ⟨k.ts,0,none⟩)] 85]]) (Lk:=[]) [1,2] [0] [] none (fun i (gs_:Option Nat)=>gs_=none∧ ∀j,j<i→knQ (fa1,fa2,fa3,fa4,fa5) (s.p.es.getD j (0,Us))=false) (fun c_ (gs_:Option Nat)=>((c_=.ret∧gs_=(I3 (fa1,fa2,fa3,fa4,fa5) s.p.es).map Prod.fst∧I3 (fa1,fa2,fa3,fa4,fa5) s.p.es≠none))) [12,13] Ae (fun _ _=>rfl) Al (by rfl) rfl rfl rfl (fun _=>rfl) (⟨rfl,(fun j hj=>absurd hj (Nat.not_lt_zero j))⟩) (fun D_ l_ ob_ w1_ hm_=>(Ad1 s.p.xs s.gs.a s.gs.cap k.mo k.ts ab5 _ w1_ (ha.atS.mem0 hm_) (ha.xs.mem0 hm_) Fb)) ?_ ?_ ?_
 ·intro D8 l9 ob10 ob11 i s13 u14 Mu15 J16 hi17 hp18 hcv19 hJ20
  obtain⟨r,rfl⟩: ∃a_,a_=s13:=⟨_,rfl⟩
  obtain⟨hr,hno⟩:=hp18
  obtain⟨hie,eb,ee,hes,heg,hxe⟩:=Ai1 htie hi17
  have hea:=ha.ent i eb ee hes
  obtain⟨hat21,hne22⟩:=hcv19 _ _ hea A5
  refine Ad (fun K23 hK23=>Aa (Ai rfl (Bc Tryz.zeroValue47) (fun p5=>Ai rfl (A4 p5 0 0 0 [iV .u8 (((s.p.xs.getD i dS).1).1),iV .u32 (((s.p.xs.getD i dS).1).2.1),iV .u32 (((s.p.xs.getD i dS).1).2.2.1),iV .u16 (((s.p.xs.getD i dS).1).2.2.2.1),iV .u16 (((s.p.xs.getD i dS).1).2.2.2.2)] Tryz.sizeOf47 rfl rfl) (fun _=>Ac ?_))))
  refine hK23 _ _ _ (Aa (Ah (v:=pV eb 0) ((Ys.p (v:=pL (Cs ((s.p.xs.getD i dS).2)))).conseq ((by rw[hxe];rfl))) (Ac ?_)))
  refine fun w_ h_=>hJ20 _ [[cb p5 [iV .u8 (((s.p.xs.getD i dS).1).1),iV .u32 (((s.p.xs.getD i dS).1).2.1),iV .u32 (((s.p.xs.getD i dS).1).2.2.1),iV .u16 (((s.p.xs.getD i dS).1).2.2.2.1),iV .u16 (((s.p.xs.getD i dS).1).2.2.2.2)] 47],[cb p4 [Value.pointer (Cs r)] 93],[cb p3 [iV .u8 fa1,iV .u32 fa2,iV .u32 fa3,iV .u16 fa4,iV .u16 fa5] 47]] ?_ w_ (h_.pick [1,2,0,3,4] Al rfl)
  refine W.block (Ad (fun K26 hK26=>?_))
  refine Dh [(0,true),(1,true),(2,false),(3,false),(4,false),(5,false),(6,true),(7,true),(8,true),(9,true),(10,true),(11,false),(12,false),(13,false),(14,false),(15,false),(16,true),(17,true),(18,false),(19,false),(20,false),(21,false),(22,false),(23,true),(24,true),(25,false),(26,false),(27,false),(28,false)] [0,1,6,7,8,9,10,16,17,23,24] (Ay 1 (Wd.ys rfl rfl rfl (An p5 0 2 0 Tryz.isAgg5) (Wd.yc (v:=pV p3 0) rfl rfl rfl (Ys.yc (Ys.p)) (.inr fun _ h_=>h_) (Wd.yc (v:=iV .u8 fa1) rfl rfl rfl (Ys.yc (An p3 0 4 0 Tryz.isAgg5)) (.inr fun _ h_=>h_) ?_))))
  refine Wd.yc (v:=bV ((((s.p.xs.getD i dS).1).1)==fa1)) rfl rfl rfl (Ys.yc (Ys.p)) (.inr fun _ h_=>h_) (Wd.yc (v:=bV ((((s.p.xs.getD i dS).1).1)==fa1)) rfl rfl rfl (Ys.yc (Ys.p)) (.inr fun _ h_=>h_) ?_)
  refine Bs (v:=pV eb 0) ((((s.p.xs.getD i dS).1).1)==fa1) rfl (Bi rfl Ae) rfl (fun hg27=>?_) ?_
  ·exact Ys.p
  refine Bs (v:=pV eb 0) ((((s.p.xs.getD i dS).1).1)==fa1) rfl (Bi rfl Ae) rfl (fun hg28=>?_) ?_
  ·refine Bh (t:=20) (v0:=pV eb 0) (lz (g:=(((s.p.xs.getD i dS).1).1)==fa1) (u:=undef) hg28 Ae) ?_
   exact Ys.p
  refine Bs (v:=pV eb 0) ((((s.p.xs.getD i dS).1).1)==fa1) rfl (Bi rfl Ae) rfl (fun hg29=>?_) ?_
  ·refine Bh (t:=21) (v0:=pV eb 0) (lz (g:=(((s.p.xs.getD i dS).1).1)==fa1) (u:=undef) hg29 Ae) ?_
   exact Ys.p
  refine Bs (v:=pV eb 5) ((((s.p.xs.getD i dS).1).1)==fa1) rfl (Bi rfl Ae) rfl (fun hg30=>?_) ?_
  ·refine Bh (t:=22) (v0:=pV eb 0) (lz (g:=(((s.p.xs.getD i dS).1).1)==fa1) (u:=undef) hg30 Ae) ?_
   exact Ys.p
  refine Bs (v:=iV .u16 ee.ext) ((((s.p.xs.getD i dS).1).1)==fa1) rfl (Bi rfl Ae) rfl (fun hg31=>?_) ?_
  ·refine Bh (t:=23) (v0:=pV eb 5) (lz (g:=(((s.p.xs.getD i dS).1).1)==fa1) (u:=undef) hg31 Ae) ?_
   exact Ys.ld (a:=⟨eb,5,none⟩) rfl Ae Tryz.isAgg22 (fun w_ h_=>by have x_:=(hat21.mem' h_ hne22).ld (q:=5) (v:=iV .u16 ee.ext) rfl;rw[Br]at x_;exact x_)
  refine Cx (v:=pV p3 4) ((((s.p.xs.getD i dS).1).1)==fa1) rfl (Bi rfl Ae) rfl (fun hg32=>?_) (.inr fun _ h_=>h_) ?_
  ·refine Ys.yc ?_
   exact Ys.p
  refine Cx (v:=iV .u16 fa5) ((((s.p.xs.getD i dS).1).1)==fa1) rfl (Bi rfl Ae) rfl (fun hg33=>?_) (.inr fun _ h_=>h_) ?_
  ·refine Ys.yc (Bh (t:=25) (v0:=pV p3 4) (lz (g:=(((s.p.xs.getD i dS).1).1)==fa1) (u:=undef) hg33 Ae) ?_)
   exact An p3 4 4 0 Tryz.isAgg22
  refine Cx (v:=bV (ee.ext==fa5)) ((((s.p.xs.getD i dS).1).1)==fa1) rfl (Bi rfl Ae) rfl (fun hg34=>?_) (.inr fun _ h_=>h_) ?_
  ·refine Ys.yc (Bh (t:=24) (v0:=iV .u16 ee.ext) (lz (g:=(((s.p.xs.getD i dS).1).1)==fa1) (u:=undef) hg34 Ae) (Bh (t:=26) (v0:=iV .u16 fa5) (lz (g:=(((s.p.xs.getD i dS).1).1)==fa1) (u:=undef) hg34 Ae) ?_))
   exact Ys.p
  refine Wd.yc (v:=bV (((((s.p.xs.getD i dS).1).1)==fa1)&&(ee.ext==fa5))) rfl rfl rfl (Ys.yc (D0 (e:=(((s.p.xs.getD i dS).1).1)==fa1) (b:=ee.ext==fa5) rfl Ae Ae Ae)) (.inr fun _ h_=>h_) (Wd.yc (v:=bV (((((s.p.xs.getD i dS).1).1)==fa1)&&(ee.ext==fa5))) rfl rfl rfl (Ys.yc (Ys.p)) (.inr fun _ h_=>h_) ?_)
  refine Bs (v:=pV p5 2) (((((s.p.xs.getD i dS).1).1)==fa1)&&(ee.ext==fa5)) rfl (Bi rfl Ae) rfl (fun hg35=>?_) ?_
  ·exact Ys.p
  refine Bs (v:=iV .u32 (((s.p.xs.getD i dS).1).2.2.1)) (((((s.p.xs.getD i dS).1).1)==fa1)&&(ee.ext==fa5)) rfl (Bi rfl Ae) rfl (fun hg36=>?_) ?_
  ·refine Bh (t:=30) (v0:=pV p5 2) (lz (g:=((((s.p.xs.getD i dS).1).1)==fa1)&&(ee.ext==fa5)) (u:=undef) hg36 Ae) ?_
   exact Bp (b:=p5) (o':=2) (i:=2) (j:=0) (v:=iV .u32 (((s.p.xs.getD i dS).1).2.2.1)) rfl Ae Tryz.isAgg24 rfl rfl rfl
  refine Cx (v:=pV p3 1) (((((s.p.xs.getD i dS).1).1)==fa1)&&(ee.ext==fa5)) rfl (Bi rfl Ae) rfl (fun hg37=>?_) (.inr fun _ h_=>h_) ?_
  ·refine Ys.yc ?_
   exact Ys.p
  refine Cx (v:=iV .u32 fa2) (((((s.p.xs.getD i dS).1).1)==fa1)&&(ee.ext==fa5)) rfl (Bi rfl Ae) rfl (fun hg38=>?_) (.inr fun _ h_=>h_) ?_
  ·refine Ys.yc (Bh (t:=32) (v0:=pV p3 1) (lz (g:=((((s.p.xs.getD i dS).1).1)==fa1)&&(ee.ext==fa5)) (u:=undef) hg38 Ae) ?_)
   exact An p3 1 4 0 Tryz.isAgg24
  refine Cx (v:=bV ((((s.p.xs.getD i dS).1).2.2.1)==fa2)) (((((s.p.xs.getD i dS).1).1)==fa1)&&(ee.ext==fa5)) rfl (Bi rfl Ae) rfl (fun hg39=>?_) (.inr fun _ h_=>h_) ?_
  ·refine Ys.yc (Bh (t:=31) (v0:=iV .u32 (((s.p.xs.getD i dS).1).2.2.1)) (lz (g:=((((s.p.xs.getD i dS).1).1)==fa1)&&(ee.ext==fa5)) (u:=undef) hg39 Ae) (Bh (t:=33) (v0:=iV .u32 fa2) (lz (g:=((((s.p.xs.getD i dS).1).1)==fa1)&&(ee.ext==fa5)) (u:=undef) hg39 Ae) ?_))
   exact Ys.p
  refine Wd.yc (v:=bV ((((((s.p.xs.getD i dS).1).1)==fa1)&&(ee.ext==fa5))&&((((s.p.xs.getD i dS).1).2.2.1)==fa2))) rfl rfl rfl (Ys.yc (D0 (e:=((((s.p.xs.getD i dS).1).1)==fa1)&&(ee.ext==fa5)) (b:=(((s.p.xs.getD i dS).1).2.2.1)==fa2) rfl Ae Ae Ae)) (.inr fun _ h_=>h_) (Wd.yc (v:=bV ((((((s.p.xs.getD i dS).1).1)==fa1)&&(ee.ext==fa5))&&((((s.p.xs.getD i dS).1).2.2.1)==fa2))) rfl rfl rfl (Ys.yc (Ys.p)) (.inr fun _ h_=>h_) ?_)
  refine Bs (v:=pV p5 4) ((((((s.p.xs.getD i dS).1).1)==fa1)&&(ee.ext==fa5))&&((((s.p.xs.getD i dS).1).2.2.1)==fa2)) rfl (Bi rfl Ae) rfl (fun hg40=>?_) ?_
  ·exact Ys.p
  refine Bs (v:=iV .u16 (((s.p.xs.getD i dS).1).2.2.2.2)) ((((((s.p.xs.getD i dS).1).1)==fa1)&&(ee.ext==fa5))&&((((s.p.xs.getD i dS).1).2.2.1)==fa2)) rfl (Bi rfl Ae) rfl (fun hg41=>?_) ?_
  ·refine Bh (t:=37) (v0:=pV p5 4) (lz (g:=(((((s.p.xs.getD i dS).1).1)==fa1)&&(ee.ext==fa5))&&((((s.p.xs.getD i dS).1).2.2.1)==fa2)) (u:=undef) hg41 Ae) ?_
   exact Bp (b:=p5) (o':=4) (i:=2) (j:=0) (v:=iV .u16 (((s.p.xs.getD i dS).1).2.2.2.2)) rfl Ae Tryz.isAgg22 rfl rfl rfl
  refine Cx (v:=pV p3 3) ((((((s.p.xs.getD i dS).1).1)==fa1)&&(ee.ext==fa5))&&((((s.p.xs.getD i dS).1).2.2.1)==fa2)) rfl (Bi rfl Ae) rfl (fun hg42=>?_) (.inr fun _ h_=>h_) ?_
  ·refine Ys.yc ?_
   exact Ys.p
  refine Cx (v:=iV .u16 fa4) ((((((s.p.xs.getD i dS).1).1)==fa1)&&(ee.ext==fa5))&&((((s.p.xs.getD i dS).1).2.2.1)==fa2)) rfl (Bi rfl Ae) rfl (fun hg43=>?_) (.inr fun _ h_=>h_) ?_
  ·refine Ys.yc (Bh (t:=39) (v0:=pV p3 3) (lz (g:=(((((s.p.xs.getD i dS).1).1)==fa1)&&(ee.ext==fa5))&&((((s.p.xs.getD i dS).1).2.2.1)==fa2)) (u:=undef) hg43 Ae) ?_)
   exact An p3 3 4 0 Tryz.isAgg22
  refine Cx (v:=bV ((((s.p.xs.getD i dS).1).2.2.2.2)==fa4)) ((((((s.p.xs.getD i dS).1).1)==fa1)&&(ee.ext==fa5))&&((((s.p.xs.getD i dS).1).2.2.1)==fa2)) rfl (Bi rfl Ae) rfl (fun hg44=>?_) (.inr fun _ h_=>h_) ?_
  ·refine Ys.yc (Bh (t:=38) (v0:=iV .u16 (((s.p.xs.getD i dS).1).2.2.2.2)) (lz (g:=(((((s.p.xs.getD i dS).1).1)==fa1)&&(ee.ext==fa5))&&((((s.p.xs.getD i dS).1).2.2.1)==fa2)) (u:=undef) hg44 Ae) (Bh (t:=40) (v0:=iV .u16 fa4) (lz (g:=(((((s.p.xs.getD i dS).1).1)==fa1)&&(ee.ext==fa5))&&((((s.p.xs.getD i dS).1).2.2.1)==fa2)) (u:=undef) hg44 Ae) ?_))
   exact Ys.p
  refine Wd.yc (v:=bV (((((((s.p.xs.getD i dS).1).1)==fa1)&&(ee.ext==fa5))&&((((s.p.xs.getD i dS).1).2.2.1)==fa2))&&((((s.p.xs.getD i dS).1).2.2.2.2)==fa4))) rfl rfl rfl (Ys.yc (D0 (e:=(((((s.p.xs.getD i dS).1).1)==fa1)&&(ee.ext==fa5))&&((((s.p.xs.getD i dS).1).2.2.1)==fa2)) (b:=(((s.p.xs.getD i dS).1).2.2.2.2)==fa4) rfl Ae Ae Ae)) (.inr fun _ h_=>h_) (A7 (hK26 _ _ _ (Ap [0,1,3,4] Al rfl ?_)))
  refine Ao (((((((s.p.xs.getD i dS).1).1)==fa1)&&(ee.ext==fa5))&&((((s.p.xs.getD i dS).1).2.2.1)==fa2))&&((((s.p.xs.getD i dS).1).2.2.2.2)==fa4)) Ae (fun h46=>?_) (fun h47=>?_)
  ·have qh46:=h46;try simp only[zA]at qh46
   refine Ad (fun K48 hK48=>Aa (Ab 1 (Ai rfl (Bg p4 0 2 0 (pV eb 0) Tryz.sizeOf93 rfl rfl) (fun _=>Ac ?_))))
   refine hK48 _ _ _ (Tj ?_)
   exact fun w_ h_=>Exists.intro (some eb) (And.intro ⟨rfl,⟨(by unfold I3;rw[Wz (0,Us) hie hno (by rw[heg];have z_:=h46;rw[hxe]at z_;exact z_),heg];rfl),(by unfold I3;rw[Wz (0,Us) hie hno (by rw[heg];have z_:=h46;rw[hxe]at z_;exact z_)];simp)⟩⟩ h_)
  ·refine Ak ?_
   exact fun w_ h_=>Exists.intro r (And.intro ⟨hr,(fun j hj=>(Nat.lt_succ_iff_lt_or_eq.1 hj).elim (hno j) (fun e_=>by subst e_;exact(by rw[heg];have z_:=h47;rw[hxe]at z_;exact z_)))⟩ h_)
 ·intro D50 l51 ob52 s53 hp54
  obtain⟨r,rfl⟩: ∃a_,a_=s53:=⟨_,rfl⟩
  obtain⟨hr,hno⟩:=hp54
  refine Jv (LL':=[[cb ab5 [pL (some ⟨k.ts,0,none⟩)] 85],[cb p4 [pL (Cs r)] 93],[cb p3 [iV .u8 fa1,iV .u32 fa2,iV .u32 fa3,iV .u16 fa4,iV .u16 fa5] 47],dB D50]) [4,2,3,0] Al rfl (hK3 _ _ _ (Ap [1,3] Al rfl (Ad (fun K56 hK56=>Aa ?_))))
  refine Ai rfl (Bg p4 0 0 0 (pL none) Tryz.sizeOf93 rfl rfl) (fun _=>Ac (hK56 _ _ _ (Tj ?_)))
  show∀w_,_→bodyPostM (Cy none) 0 Tryz.prog Tryz.f43 _ Exit.ret _ w_
  exact fun w_ h0_=>Jc (h0_.mark (i:=1) rfl).1 (by have hS_:Mem w [] [[cb p4 Pu 93],[⟨D50,.deferred none⟩]] _:=(h0_.mark (i:=1) rfl).2;exact Bb rfl (Dj (b:=p4) (o':=0) (i:=0) (j:=0) (cs:=Pu) (v:=pL none) Ae Tryz.isAgg93 rfl rfl rfl) hS_ ⟨by clear hK1 hK3 hK4 hK56;refine congrArg Ending.returned ?_;unfold I3;rw[L1 (0,Us) (fun j hj=>hno j (by rw[htie,List.length_map];exact hj))];rfl,hS_.below⟩)
 ·intro D57 l58 ob59 c62 s60 hp61
  obtain⟨r,rfl⟩: ∃a_,a_=s60:=⟨_,rfl⟩
  rcases hp61 with⟨rfl,⟨hr,hyes⟩⟩
  refine Ap [4,2,3,0] Al rfl (Tj ?_)
  show∀w_,_→bodyPostM (Cy none) 0 Tryz.prog Tryz.f43 _ Exit.ret _ w_
  exact fun w_ h0_=>Jc (h0_.mark (i:=3) rfl).1 (by have hS_:Mem w [] [[cb ab5 [pL (some ⟨k.ts,0,none⟩)] 85],[cb p4 [pL (Cs r)] 93],[cb p3 [iV .u8 fa1,iV .u32 fa2,iV .u32 fa3,iV .u16 fa4,iV .u16 fa5] 47],[⟨D57,.deferred none⟩]] _:=(h0_.mark (i:=3) rfl).2;exact Bb rfl (Dj (b:=p4) (o':=0) (i:=1) (j:=0) (cs:=[pL (Cs r)]) (v:=pL (Cs r)) Ae Tryz.isAgg93 rfl rfl rfl) hS_ ⟨by clear hK1 hK3 hK4;refine congrArg Ending.returned ?_;rw[hr],hS_.below⟩)
def tgQ(f:B2)(t:Hx)(z:Hx×Lse):Bool:= !(((z.1.1==f.1)&&(z.2.ext==f.2.2.2.2))==(Di [Value.int .u8 z.1.1,Value.int .u32 z.1.2.1,Value.int .u16 z.1.2.2] [Value.int .u8 t.1,Value.int .u32 t.2.1,Value.int .u16 t.2.2]))
def Cl(c:Conf.Cfg)(fx:List Conf.Fwd)(p:NP)(f:B2):Hx×Bool×Option Nat×Int:=
  bif (Ev p.ms f).isSome then((f.1,((Ev p.ms f).getD Ff).host,((Ev p.ms f).getD Ff).to),false,none,0)else
  bif (I3 f p.es).isSome&&((I3 f p.es).getD (0,Us)).2.lan then((((I3 f p.es).getD (0,Us)).2.pr,((I3 f p.es).getD (0,Us)).2.src,((I3 f p.es).getD (0,Us)).2.frm),false,some ((I3 f p.es).getD (0,Us)).1,0)else
  bif I6 fx f.1 f.2.2.2.2 then((f.1,(D2 fx f.1 f.2.2.2.2).host,(D2 fx f.1 f.2.2.2.2).dest),false,none,0)else
  bif (c.dmz==0)||Xf p.ms fx f.1 f.2.2.2.2 then((f.1,c.dmz,f.2.2.2.2),false,none,21)else
  bif p.zs.any (tgQ f (f.1,c.dmz,f.2.2.2.2))then((f.1,c.dmz,f.2.2.2.2),false,none,21)else((f.1,c.dmz,f.2.2.2.2),true,none,0)
theorem Afd{f:B2}{es:List (Nat×SesE)}(h:(I3 f es).isSome=true): ∃j:Nat,es[j]? =some ((I3 f es).getD (0,Us)):=by
  obtain⟨x,hx⟩:=Option.isSome_iff_exists.1 h
  rw[hx]
  have:=List.mem_of_find?_eq_some hx
  obtain⟨j,hj,e⟩:=List.getElem_of_mem this
  exact⟨j,by rw[List.getElem?_eq_getElem hj,e];rfl⟩
abbrev Qu(k:NK):List Value:=[iV .u8 k.c.lm0,iV .u8 k.c.lm1,iV .u8 k.c.lm2,iV .u8 k.c.lm3,iV .u8 k.c.lm4,iV .u8 k.c.lm5,iV .u8 k.c.wm0,iV .u8 k.c.wm1,iV .u8 k.c.wm2,iV .u8 k.c.wm3,iV .u8 k.c.wm4,iV .u8 k.c.wm5,iV .u8 k.c.hm0,iV .u8 k.c.hm1,iV .u8 k.c.hm2,iV .u8 k.c.hm3,iV .u8 k.c.hm4,iV .u8 k.c.hm5,iV .u32 k.c.lan,iV .u32 k.c.wan,iV .i64 k.c.bits,iV .i64 k.c.ms,iV .i64 k.c.mm,iV .i64 k.c.mc,iV .i64 k.c.mu,sL k.gf.a k.fx.length k.gf.cap,iV .u32 k.c.dmz,Value.string k.c.uu]
abbrev Qv(fa1 fa5:Int)(k:NK):List Value:=[iV .u8 ((D2 k.fx fa1 fa5).proto),iV .u16 ((D2 k.fx fa1 fa5).port),iV .u16 ((D2 k.fx fa1 fa5).dest),iV .u32 ((D2 k.fx fa1 fa5).host)]
abbrev Qw(fa1 fa2 fa3 fa4 fa5:Int):List Value:=[iV .u8 fa1,iV .u32 fa2,iV .u32 fa3,iV .u16 fa4,iV .u16 fa5]
abbrev Qx:List Value:=Xy
theorem Yk(k:NK)(s:NS)(fa1 fa2 fa3 fa4 fa5:Int)(w:World)(ha:NAt k s w)(ok:NOk k s)(htie:s.p.xs=s.p.es.map Pd)(hkn:(I3 (fa1,fa2,fa3,fa4,fa5) s.p.es)=none)(hdm:k.c.dmz=0)(hf0:k.fx.length=0)(hm0:s.p.ms.length=0):Calls Tryz.prog 47 #[pL (some ⟨k.nb,0,none⟩),aV [iV .u8 fa1,iV .u32 fa2,iV .u32 fa3,iV .u16 fa4,iV .u16 fa5]] w (Dc w (.tuple #[.agg [.int .u8 (Cl k.c k.fx s.p (fa1,fa2,fa3,fa4,fa5)).1.1,.int .u32 (Cl k.c k.fx s.p (fa1,fa2,fa3,fa4,fa5)).1.2.1,.int .u16 (Cl k.c k.fx s.p (fa1,fa2,fa3,fa4,fa5)).1.2.2].toArray,.bool (Cl k.c k.fx s.p (fa1,fa2,fa3,fa4,fa5)).2.1,.pointer (Cs (Cl k.c k.fx s.p (fa1,fa2,fa3,fa4,fa5)).2.2.1),.int .i64 (Cl k.c k.fx s.p (fa1,fa2,fa3,fa4,fa5)).2.2.2])):=by
 obtain⟨lx0,ly0,lz0,lm0_,lf0⟩:=NOk.len ok;have hmv_:(Ev s.p.ms (fa1,fa2,fa3,fa4,fa5)).isSome=false:=(by rw[List.length_eq_zero_iff.1 hm0];rfl)
 refine Ar (M:=[]) (LL:=[]) (n:=120) Tryz.func47 rfl rfl A5 (Mem.refl _) (Ad (fun K1 hK1=>?_))
 refine Aa (Ai rfl (Bx (Qw fa1 fa2 fa3 fa4 fa5) rfl) (fun p3=>?_))
 refine Ai rfl (Bc Tryz.zeroValue97) (fun p4=>Ai rfl (Bc Tryz.zeroValue4) (fun p5=>?_))
 refine Ai rfl (Bc Tryz.zeroValue93) (fun p6=>Ai rfl (Bc Tryz.zeroValue41) (fun p7=>?_))
 refine Ac (hK1 _ _ _ (Ad (fun K3 hK3=>Ad (fun K4 hK4=>Aa ?_))))
 refine Ab 1 (Ah (A0 p3 0 4 0 (Qw fa1 fa2 fa3 fa4 fa5) Tryz.isAgg47 Tryz.sizeOf47) (B0 (v:=Value.tuple #[aV [iV .u8 (((Ev s.p.ms (fa1,fa2,fa3,fa4,fa5)).getD Ff).proto),iV .u16 (((Ev s.p.ms (fa1,fa2,fa3,fa4,fa5)).getD Ff).ext),iV .u16 (((Ev s.p.ms (fa1,fa2,fa3,fa4,fa5)).getD Ff).to),iV .u32 (((Ev s.p.ms (fa1,fa2,fa3,fa4,fa5)).getD Ff).remote),iV .u32 (((Ev s.p.ms (fa1,fa2,fa3,fa4,fa5)).getD Ff).host)],bV ((Ev s.p.ms (fa1,fa2,fa3,fa4,fa5)).isSome)]) (A9 (fun w_ hm_=>(P8 k.c k.fx k.gf.a k.gf.cap s.p.ms s.gm.a s.gm.cap k.ts k.te s.p.tk k.wb k.ti s.p.lst k.nb (fa1,fa2,fa3,fa4,fa5) _ (ha.nat.mem0 hm_) (ha.fx.mem0 hm_) Ef (ha.ms.mem0 hm_) Ef hm0))) (Ab 2 (Ah (v:=bV false) ((Ys.p (v:=bV ((Ev s.p.ms (fa1,fa2,fa3,fa4,fa5)).isSome))).conseq (Cj (hmv_))) ?_))))
 refine Ai rfl (Bc Tryz.zeroValue26) (fun p8=>Ai rfl (A4 p8 0 0 0 [iV .u8 (((Ev s.p.ms (fa1,fa2,fa3,fa4,fa5)).getD Ff).proto),iV .u16 (((Ev s.p.ms (fa1,fa2,fa3,fa4,fa5)).getD Ff).ext),iV .u16 (((Ev s.p.ms (fa1,fa2,fa3,fa4,fa5)).getD Ff).to),iV .u32 (((Ev s.p.ms (fa1,fa2,fa3,fa4,fa5)).getD Ff).remote),iV .u32 (((Ev s.p.ms (fa1,fa2,fa3,fa4,fa5)).getD Ff).host)] Tryz.sizeOf26 rfl rfl) (fun _=>?_))
 refine Ab 1 (Ac (hK4 _ _ _ (Ad (fun K6 hK6=>Aa ?_))))
 refine Ab 1 (Ac (hK6 _ _ _ (B4 Ae (Ak ?_))))
 refine hK3 _ _ _ (Ap [1,2,3,4,5] Al rfl (Ad (fun K8 hK8=>Ad (fun K9 hK9=>Aa ?_))))
 refine Ab 1 (Ah (A0 p3 0 4 0 (Qw fa1 fa2 fa3 fa4 fa5) Tryz.isAgg47 Tryz.sizeOf47) (B0 (v:=pL (Cs ((I3 (fa1,fa2,fa3,fa4,fa5) s.p.es).map Prod.fst))) (A9 (fun w_ hm_=>(N9 k s fa1 fa2 fa3 fa4 fa5 _ (ha.mem0 hm_) ok htie))) (Ah (v:=pL none) ((Ys.p (v:=pL (Cs ((I3 (fa1,fa2,fa3,fa4,fa5) s.p.es).map Prod.fst)))).conseq ((by rw[hkn];rfl))) (Ac ?_))))
 refine hK9 _ _ _ (Ad (fun K11 hK11=>?_))
 refine Aa (Ab 3 (B7 Ae rfl (B7 Ae rfl (B7 Ae rfl ?_))))
 refine B7 Ae rfl (B7 Ae rfl (Ab 1 (Ac (hK11 _ _ _ ?_))))
 refine B4 Ae (Ak (hK8 _ _ _ (Ad (fun K14 hK14=>Ad (fun K15 hK15=>?_)))))
 refine E2 [0,1,2,3,4,5,6,7,9,10,11,14] (Mem w [] [[cb p7 [iV .i64 0] 41],[cb p6 Pu 93],[cb p5 [bV false] 4],[cb p4 zl7 97],[cb p3 (Qw fa1 fa2 fa3 fa4 fa5) 47]]) Ae Ae (fun _ _ h_=>h_.drawn _) ?_
 refine Dw (w0:=w) (M:=[]) [0,3,4,5,6,7,11,59,60] (fun(z20:Nat)=>[pL (some ⟨k.nb,0,none⟩),pV p3 0,pV p4 0,pV p5 0,pV p6 0,pV p7 0,pV z20 0,aV (Qv fa1 fa5 k),bV (I6 k.fx fa1 fa5)]) (fun(z20:Nat)=>True) (fun(z20:Nat)=>[[cb z20 Qx 65],[cb p7 [iV .i64 0] 41],[cb p6 Pu 93],[cb p5 [bV false] 4],[cb p4 zl7 97],[cb p3 (Qw fa1 fa2 fa3 fa4 fa5) 47]]) 2 #[true,true,true,true,true,true,true,true,true,true,true,true,true,false,false] (fun z20 hp21 f22=>?_) (fun JD18=>?_)
 ·obtain⟨p11,rfl⟩: ∃a_,a_=z20:=⟨_,rfl⟩
  refine A3 (i:=13) Ae (Ch rfl rfl (A4 p11 0 0 0 (Qv fa1 fa5 k) Tryz.sizeOf65 rfl rfl) (.inr fun _ _ h_=>h_.pick [1,2,3,4,5] Al rfl) (fun _=>?_))
  refine Wa.ys (v:=bV (I6 k.fx fa1 fa5)) (i:=14) Ae Ae Ae Ae (fun _ h_=>h_.pick [1,2,3,4,5] Al rfl) rfl rfl rfl (Ys.p) (D1 Ae (hK15 _ _ _ (Ad (fun K24 hK24=>Aa ?_))))
  refine Ab 1 (Ac (hK24 _ _ _ ?_))
  refine Ao (I6 k.fx fa1 fa5) Ae (fun h25=>?_) (fun h26=>?_)
  ·refine Ad (fun K27 hK27=>Aa (Ab 1 (Ah (An p3 0 5 0 Tryz.isAgg5) (Ab 1 ?_))))
   refine Ah (An p11 3 0 0 Tryz.isAgg24) (Ab 1 (Ah (An p11 2 0 0 Tryz.isAgg22) (Ab 1 (Ai rfl (A4 p4 0 4 0 [iV .u8 fa1,iV .u32 ((D2 k.fx fa1 fa5).host),iV .u16 ((D2 k.fx fa1 fa5).dest)] Tryz.sizeOf97 rfl rfl) (fun _=>?_)))))
   refine Ai rfl (Bg p5 0 3 0 (bV false) Tryz.sizeOf4 rfl rfl) (fun _=>Ai rfl (Bg p6 0 2 0 (pL none) Tryz.sizeOf93 rfl rfl) (fun _=>?_))
   refine Ai rfl (Bg p7 0 1 0 (iV .i64 0) Tryz.sizeOf41 rfl rfl) (fun _=>Ac (hK27 _ _ _ (Ap [1,2,3,4] Al rfl (Aq (fn:=Tryz.f47) rfl (fun w_ hS_=>Zm rfl (Bq p4 0 3 0 [iV .u8 fa1,iV .u32 ((D2 k.fx fa1 fa5).host),iV .u16 ((D2 k.fx fa1 fa5).dest)] Tryz.isAgg97 Tryz.sizeOf97) (Dj (b:=p5) (o':=0) (i:=2) (j:=0) (cs:=[bV false]) (v:=bV false) Ae Tryz.isAgg4 rfl rfl rfl) (Dj (b:=p6) (o':=0) (i:=1) (j:=0) (cs:=Pu) (v:=Value.pointer none) Ae Tryz.isAgg93 rfl rfl rfl) (Dj (b:=p7) (o':=0) (i:=0) (j:=0) (cs:=[iV .i64 0]) (v:=iV .i64 0) Ae Tryz.isAgg41 rfl rfl rfl) hS_ ⟨by clear hK1 hK3 hK4 hK6 hK8 hK9 hK11 hK14 hK15 hK24 hK27;refine congrArg Ending.returned ?_;unfold Cl;simp only[hmv_,hkn,(show((none:Option (Nat×SesE)).isSome&&((none:Option (Nat×SesE)).getD (0,Us)).2.lan)=false from rfl),(show(I6 k.fx fa1 fa5)=true from h25),(show((k.c.dmz==0)||Xf s.p.ms k.fx fa1 fa5)=true from by rw[hdm];rfl),cond_true,cond_false];first|done|rfl|(rw[hdm];try rfl),hS_.below⟩)))))
  ·refine Ak (hK14 _ _ _ (Ap [1,2,3,4,5] Al rfl (Ad (fun K30 hK30=>Dh [(0,true),(1,true),(2,true),(3,true),(4,true),(5,true),(6,true),(7,false),(8,false),(9,false),(10,false)] [0,1,2,3,4,5,6] ?_))))
   refine Ay 1 (Wd.ys rfl rfl rfl (An p3 0 4 0 Tryz.isAgg5) (Ay 4 (Wd.ys (v:=iV .u32 0) rfl rfl rfl (Ys.conseq (v:=iV .u32 k.c.dmz) (Af (hdm)) (Ys.ld (a:=⟨k.nb,26,none⟩) rfl Ae Tryz.isAgg24 (fun w_ h_=>by have x_:=(ha.nat.mem0 h_).ld (q:=26) ((Cq rfl Al).trans rfl);rw[Br]at x_;exact x_))) (Wd.yc (v:=pV p3 4) rfl rfl rfl (Ys.yc (Ys.p)) (.inr fun _ h_=>h_) ?_))))
   refine Wd.yc (v:=iV .u16 fa5) rfl rfl rfl (Ys.yc (An p3 4 4 0 Tryz.isAgg22)) (.inr fun _ h_=>h_) (Wd.yc (v:=aV [iV .u8 fa1,iV .u32 0,iV .u16 fa5]) rfl rfl rfl (Ys.yc (Ys.p)) (.inr fun _ h_=>h_) (B8 rfl rfl (A4 p4 0 3 0 [iV .u8 fa1,iV .u32 0,iV .u16 fa5] Tryz.sizeOf97 rfl rfl) (.inl Ae) (fun _=>A7 (hK30 _ _ _ ?_))))
   refine Ad (fun K32 hK32=>Ad (fun K33 hK33=>?_))
   refine Aa (Ab 4 (Ah (v:=iV .u32 0) (Ys.conseq (v:=iV .u32 k.c.dmz) (Af (hdm)) (Ys.ld (a:=⟨k.nb,26,none⟩) rfl Ae Tryz.isAgg24 (fun w_ h_=>by have x_:=(ha.nat.mem0 h_).ld (q:=26) ((Cq rfl Al).trans rfl);rw[Br]at x_;exact x_))) (Ab 2 (B7 Ae rfl ?_))))
   refine B7 Ae rfl (B7 Ae rfl (B7 Ae rfl (B7 Ae rfl (B7 Ae rfl ?_))))
   refine Ab 1 (Ac (hK33 _ _ _ (B5 Ae (Ad (fun K35 hK35=>?_)))))
   refine Aa (Ah (A0 p4 0 3 0 [iV .u8 fa1,iV .u32 0,iV .u16 fa5] Tryz.isAgg97 Tryz.sizeOf97) (Ai rfl (A4 p4 0 3 0 [iV .u8 fa1,iV .u32 0,iV .u16 fa5] Tryz.sizeOf97 rfl rfl) (fun _=>Ai rfl (Bg p5 0 2 0 (bV false) Tryz.sizeOf4 rfl rfl) (fun _=>Ai rfl (Bg p6 0 1 0 (pL none) Tryz.sizeOf93 rfl rfl) (fun _=>?_)))))
   refine Ai rfl (Bg p7 0 0 0 (iV .i64 21) Tryz.sizeOf41 rfl rfl) (fun _=>Ac (hK35 _ _ _ (Ap [0,1,2,3] Al rfl (Aq (fn:=Tryz.f47) rfl (fun w_ hS_=>Zm rfl (Bq p4 0 3 0 [iV .u8 fa1,iV .u32 0,iV .u16 fa5] Tryz.isAgg97 Tryz.sizeOf97) (Dj (b:=p5) (o':=0) (i:=2) (j:=0) (cs:=[bV false]) (v:=bV false) Ae Tryz.isAgg4 rfl rfl rfl) (Dj (b:=p6) (o':=0) (i:=1) (j:=0) (cs:=Pu) (v:=Value.pointer none) Ae Tryz.isAgg93 rfl rfl rfl) (Dj (b:=p7) (o':=0) (i:=0) (j:=0) (cs:=[iV .i64 21]) (v:=iV .i64 21) Ae Tryz.isAgg41 rfl rfl rfl) hS_ ⟨by clear hK1 hK3 hK4 hK6 hK8 hK9 hK11 hK14 hK15 hK24 hK30 hK32 hK33 hK35;refine congrArg Ending.returned ?_;unfold Cl;simp only[hmv_,hkn,(show((none:Option (Nat×SesE)).isSome&&((none:Option (Nat×SesE)).getD (0,Us)).2.lan)=false from rfl),(show(I6 k.fx fa1 fa5)=false from h26),(show((k.c.dmz==0)||Xf s.p.ms k.fx fa1 fa5)=true from by rw[hdm];rfl),cond_true,cond_false];first|done|rfl|(rw[hdm];try rfl),hS_.below⟩)))))
 ·refine Wa.ys (v:=pL (some ⟨k.nb,0,none⟩)) (i:=0) Ae Ae Ae Ae (fun _ h_=>h_) rfl rfl rfl (Ys.p) (Wa.ys (v:=pL (some ⟨k.nb,0,none⟩)) (i:=1) Ae Ae Ae Ae (fun _ h_=>h_) rfl rfl rfl (Ys.p) (Wa.ys (v:=pL (some ⟨k.nb,0,none⟩)) (i:=2) Ae Ae Ae Ae (fun _ h_=>h_) rfl rfl rfl (Ys.p) (Wa.ys (v:=aV (Qu k)) (i:=3) Ae Ae Ae Ae (fun _ h_=>h_) rfl rfl rfl (Ys.ldN (a:=⟨k.nb,0,none⟩) (vs:=(Qu k)) rfl Ae Tryz.isAgg32 Tryz.sizeOf32 rfl (fun w_ h_=>by have x_:=(ha.nat.mem0 h_).ldN (q:=0) (vs:=(Qu k)) (Ug);rw[Br]at x_;exact x_)) (Wa.ys (v:=pV p3 0) (i:=4) Ae Ae Ae Ae (fun _ h_=>h_) rfl rfl rfl (Ys.p) ?_))))
  refine Wa.ys (i:=5) Ae Ae Ae Ae (fun _ h_=>h_) rfl rfl rfl (An p3 0 4 0 Tryz.isAgg5) (Wa.ys (v:=pV p3 4) (i:=6) Ae Ae Ae Ae (fun _ h_=>h_) rfl rfl rfl (Ys.p) (Wa.ys (i:=7) Ae Ae Ae Ae (fun _ h_=>h_) rfl rfl rfl (An p3 4 4 0 Tryz.isAgg22) ?_))
  refine C3 (i:=8) (j:=12) Ae ?_ ?_
  ·refine Wo.yc (v:=Value.tuple #[aV (Qv fa1 fa5 k),bV (I6 k.fx fa1 fa5)]) rfl rfl rfl (A9 (fun w_ hm_=>(N8 (⟨k.c.lm0,k.c.lm1,k.c.lm2,k.c.lm3,k.c.lm4,k.c.lm5,k.c.wm0,k.c.wm1,k.c.wm2,k.c.wm3,k.c.wm4,k.c.wm5,k.c.hm0,k.c.hm1,k.c.hm2,k.c.hm3,k.c.hm4,k.c.hm5,k.c.lan,k.c.wan,k.c.bits,k.c.ms,k.c.mm,k.c.mc,k.c.mu,k.gf.a,k.fx.length,k.gf.cap,k.c.dmz,k.c.uu⟩:Conf.Cfg) k.fx k.gf.a k.gf.cap fa1 fa5 _ (ha.fx.mem0 hm_) hf0))) (.inr fun _ h_=>h_) (Wa.ys (v:=Value.tuple #[aV (Qv fa1 fa5 k),bV (I6 k.fx fa1 fa5)]) (i:=9) Ae Ae Ae Ae (fun _ h_=>h_) rfl rfl rfl (Ys.p) (Wa.ys (v:=aV (Qv fa1 fa5 k)) (i:=10) Ae Ae Ae Ae (fun _ h_=>h_) rfl rfl rfl (Ys.p) (Wa.ys (v:=bV (I6 k.fx fa1 fa5)) (i:=11) Ae Ae Ae Ae (fun _ h_=>h_) rfl rfl rfl (Ys.p) (A3 (i:=12) Ae ?_))))
   refine Ch rfl rfl (Bc Tryz.zeroValue65) (.inr fun _ _ h_=>h_.pick [1,2,3,4,5] Al rfl) (fun p11=>?_)
   exact Cb [0,3,4,5,6,7,11,59,60] [pL (some ⟨k.nb,0,none⟩),pV p3 0,pV p4 0,pV p5 0,pV p6 0,pV p7 0,pV p11 0,aV [iV .u8 ((D2 k.fx fa1 fa5).proto),iV .u16 ((D2 k.fx fa1 fa5).port),iV .u16 ((D2 k.fx fa1 fa5).dest),iV .u32 ((D2 k.fx fa1 fa5).host)],bV (I6 k.fx fa1 fa5)] #[true,true,true,true,true,true,true,true,true,true,true,true,true,false,false] (JD18 p11 trivial) Ae Ae (fun _ h_=>h_)
  ·refine Ch rfl rfl (Bc Tryz.zeroValue65) (.inr fun _ _ h_=>h_.pick [1,2,3,4,5] Al rfl) (fun p11=>A3 (i:=8) Ae (Wo.yc (v:=Value.tuple #[aV (Qv fa1 fa5 k),bV (I6 k.fx fa1 fa5)]) rfl rfl rfl (A9 (fun w_ hm_=>(N8 (⟨k.c.lm0,k.c.lm1,k.c.lm2,k.c.lm3,k.c.lm4,k.c.lm5,k.c.wm0,k.c.wm1,k.c.wm2,k.c.wm3,k.c.wm4,k.c.wm5,k.c.hm0,k.c.hm1,k.c.hm2,k.c.hm3,k.c.hm4,k.c.hm5,k.c.lan,k.c.wan,k.c.bits,k.c.ms,k.c.mm,k.c.mc,k.c.mu,k.gf.a,k.fx.length,k.gf.cap,k.c.dmz,k.c.uu⟩:Conf.Cfg) k.fx k.gf.a k.gf.cap fa1 fa5 _ (ha.fx.mem0 hm_) hf0))) (.inr fun _ h_=>h_.pick [1,2,3,4,5] Al rfl) (Wa.ys (v:=Value.tuple #[aV (Qv fa1 fa5 k),bV (I6 k.fx fa1 fa5)]) (i:=9) Ae Ae Ae Ae (fun _ h_=>h_.pick [1,2,3,4,5] Al rfl) rfl rfl rfl (Ys.p) (Wa.ys (v:=aV (Qv fa1 fa5 k)) (i:=10) Ae Ae Ae Ae (fun _ h_=>h_.pick [1,2,3,4,5] Al rfl) rfl rfl rfl (Ys.p) ?_))))
   refine Wa.ys (v:=bV (I6 k.fx fa1 fa5)) (i:=11) Ae Ae Ae Ae (fun _ h_=>h_.pick [1,2,3,4,5] Al rfl) rfl rfl rfl (Ys.p) ?_
   exact Cb [0,3,4,5,6,7,11,59,60] [pL (some ⟨k.nb,0,none⟩),pV p3 0,pV p4 0,pV p5 0,pV p6 0,pV p7 0,pV p11 0,aV [iV .u8 ((D2 k.fx fa1 fa5).proto),iV .u16 ((D2 k.fx fa1 fa5).port),iV .u16 ((D2 k.fx fa1 fa5).dest),iV .u32 ((D2 k.fx fa1 fa5).host)],bV (I6 k.fx fa1 fa5)] #[true,true,true,true,true,true,true,true,true,true,true,true,true,false,false] (JD18 p11 trivial) Ae Ae (fun _ h_=>h_)
abbrev Qy(k:NK):List Value:=[iV .u8 k.c.lm0,iV .u8 k.c.lm1,iV .u8 k.c.lm2,iV .u8 k.c.lm3,iV .u8 k.c.lm4,iV .u8 k.c.lm5,iV .u8 k.c.wm0,iV .u8 k.c.wm1,iV .u8 k.c.wm2,iV .u8 k.c.wm3,iV .u8 k.c.wm4,iV .u8 k.c.wm5,iV .u8 k.c.hm0,iV .u8 k.c.hm1,iV .u8 k.c.hm2,iV .u8 k.c.hm3,iV .u8 k.c.hm4,iV .u8 k.c.hm5,iV .u32 k.c.lan,iV .u32 k.c.wan,iV .i64 k.c.bits,iV .i64 k.c.ms,iV .i64 k.c.mm,iV .i64 k.c.mc,iV .i64 k.c.mu,sL k.gf.a k.fx.length k.gf.cap,iV .u32 k.c.dmz,Value.string k.c.uu]
abbrev Qz(fa1 fa5:Int)(k:NK):List Value:=[iV .u8 ((D2 k.fx fa1 fa5).proto),iV .u16 ((D2 k.fx fa1 fa5).port),iV .u16 ((D2 k.fx fa1 fa5).dest),iV .u32 ((D2 k.fx fa1 fa5).host)]
abbrev Q10(fa1 fa2 fa3 fa4 fa5:Int):List Value:=[iV .u8 fa1,iV .u32 fa2,iV .u32 fa3,iV .u16 fa4,iV .u16 fa5]
abbrev Q11:List Value:=Xy
theorem Yl(k:NK)(s:NS)(fa1 fa2 fa3 fa4 fa5:Int)(eb:Nat)(ee:SesE)(w:World)(ha:NAt k s w)(ok:NOk k s)(htie:s.p.xs=s.p.es.map Pd)(hkn:(I3 (fa1,fa2,fa3,fa4,fa5) s.p.es)=some (eb,ee))(hx:At w (some ⟨eb,0,none⟩) (Aek ee))(hdm:k.c.dmz=0)(hf0:k.fx.length=0)(hm0:s.p.ms.length=0):Calls Tryz.prog 47 #[pL (some ⟨k.nb,0,none⟩),aV [iV .u8 fa1,iV .u32 fa2,iV .u32 fa3,iV .u16 fa4,iV .u16 fa5]] w (Dc w (.tuple #[.agg [.int .u8 (Cl k.c k.fx s.p (fa1,fa2,fa3,fa4,fa5)).1.1,.int .u32 (Cl k.c k.fx s.p (fa1,fa2,fa3,fa4,fa5)).1.2.1,.int .u16 (Cl k.c k.fx s.p (fa1,fa2,fa3,fa4,fa5)).1.2.2].toArray,.bool (Cl k.c k.fx s.p (fa1,fa2,fa3,fa4,fa5)).2.1,.pointer (Cs (Cl k.c k.fx s.p (fa1,fa2,fa3,fa4,fa5)).2.2.1),.int .i64 (Cl k.c k.fx s.p (fa1,fa2,fa3,fa4,fa5)).2.2.2])):=by
 obtain⟨lx0,ly0,lz0,lm0_,lf0⟩:=NOk.len ok;have hmv_:(Ev s.p.ms (fa1,fa2,fa3,fa4,fa5)).isSome=false:=(by rw[List.length_eq_zero_iff.1 hm0];rfl)
 refine Ar (M:=[]) (LL:=[]) (n:=120) Tryz.func47 rfl rfl A5 (Mem.refl _) (Ad (fun K1 hK1=>?_))
 refine Aa (Ai rfl (Bx (Q10 fa1 fa2 fa3 fa4 fa5) rfl) (fun p3=>?_))
 refine Ai rfl (Bc Tryz.zeroValue97) (fun p4=>Ai rfl (Bc Tryz.zeroValue4) (fun p5=>?_))
 refine Ai rfl (Bc Tryz.zeroValue93) (fun p6=>Ai rfl (Bc Tryz.zeroValue41) (fun p7=>?_))
 refine Ac (hK1 _ _ _ (Ad (fun K3 hK3=>Ad (fun K4 hK4=>Aa ?_))))
 refine Ab 1 (Ah (A0 p3 0 4 0 (Q10 fa1 fa2 fa3 fa4 fa5) Tryz.isAgg47 Tryz.sizeOf47) (B0 (v:=Value.tuple #[aV [iV .u8 (((Ev s.p.ms (fa1,fa2,fa3,fa4,fa5)).getD Ff).proto),iV .u16 (((Ev s.p.ms (fa1,fa2,fa3,fa4,fa5)).getD Ff).ext),iV .u16 (((Ev s.p.ms (fa1,fa2,fa3,fa4,fa5)).getD Ff).to),iV .u32 (((Ev s.p.ms (fa1,fa2,fa3,fa4,fa5)).getD Ff).remote),iV .u32 (((Ev s.p.ms (fa1,fa2,fa3,fa4,fa5)).getD Ff).host)],bV ((Ev s.p.ms (fa1,fa2,fa3,fa4,fa5)).isSome)]) (A9 (fun w_ hm_=>(P8 k.c k.fx k.gf.a k.gf.cap s.p.ms s.gm.a s.gm.cap k.ts k.te s.p.tk k.wb k.ti s.p.lst k.nb (fa1,fa2,fa3,fa4,fa5) _ (ha.nat.mem0 hm_) (ha.fx.mem0 hm_) Ef (ha.ms.mem0 hm_) Ef hm0))) (Ab 2 (Ah (v:=bV false) ((Ys.p (v:=bV ((Ev s.p.ms (fa1,fa2,fa3,fa4,fa5)).isSome))).conseq (Cj (hmv_))) ?_))))
 refine Ai rfl (Bc Tryz.zeroValue26) (fun p8=>Ai rfl (A4 p8 0 0 0 [iV .u8 (((Ev s.p.ms (fa1,fa2,fa3,fa4,fa5)).getD Ff).proto),iV .u16 (((Ev s.p.ms (fa1,fa2,fa3,fa4,fa5)).getD Ff).ext),iV .u16 (((Ev s.p.ms (fa1,fa2,fa3,fa4,fa5)).getD Ff).to),iV .u32 (((Ev s.p.ms (fa1,fa2,fa3,fa4,fa5)).getD Ff).remote),iV .u32 (((Ev s.p.ms (fa1,fa2,fa3,fa4,fa5)).getD Ff).host)] Tryz.sizeOf26 rfl rfl) (fun _=>?_))
 refine Ab 1 (Ac (hK4 _ _ _ (Ad (fun K6 hK6=>Aa ?_))))
 refine Ab 1 (Ac (hK6 _ _ _ (B4 Ae (Ak ?_))))
 refine hK3 _ _ _ (Ap [1,2,3,4,5] Al rfl (Ad (fun K8 hK8=>Ad (fun K9 hK9=>Aa ?_))))
 refine Ab 1 (Ah (A0 p3 0 4 0 (Q10 fa1 fa2 fa3 fa4 fa5) Tryz.isAgg47 Tryz.sizeOf47) (B0 (v:=pL (Cs ((I3 (fa1,fa2,fa3,fa4,fa5) s.p.es).map Prod.fst))) (A9 (fun w_ hm_=>(N9 k s fa1 fa2 fa3 fa4 fa5 _ (ha.mem0 hm_) ok htie))) (Ah (v:=pV eb 0) ((Ys.p (v:=pL (Cs ((I3 (fa1,fa2,fa3,fa4,fa5) s.p.es).map Prod.fst)))).conseq ((by rw[hkn];rfl))) (Ac ?_))))
 refine hK9 _ _ _ (Ad (fun K11 hK11=>?_))
 refine Aa (Ab 3 (Am (v:=pV eb 0) (true) rfl Ae rfl (fun _=>Ys.p) (Am (v:=pV eb 0) (true) rfl Ae rfl (fun _=>Ys.p) (Am (v:=pV eb 0) (true) rfl Ae rfl (fun _=>Ys.p) ?_))))
 refine Am (v:=pV eb 7) (true) rfl Ae rfl (fun _=>Ys.p) (Am (v:=bV ee.lan) (true) rfl Ae rfl (fun _=>Ys.ld (a:=⟨eb,7,none⟩) rfl Ae Tryz.isAgg4 (fun w_ h_=>by have x_:=(hx.mem0 h_).ld (q:=7) (v:=bV ee.lan) rfl;rw[Br]at x_;exact x_)) (Ab 1 (Ac (hK11 _ _ _ ?_))))
 refine Ao (ee.lan) Ae (fun h13=>?_) (fun h14=>?_)
 ·refine Ad (fun K15 hK15=>Aa (Ab 4 (Ah (v:=aV [iV .u8 ee.pr,iV .u32 ee.src,iV .u32 ee.dst,iV .u16 ee.frm,iV .u16 ee.dto]) (Ys.ldN (a:=⟨eb,0,none⟩) (vs:=[iV .u8 ee.pr,iV .u32 ee.src,iV .u32 ee.dst,iV .u16 ee.frm,iV .u16 ee.dto]) rfl Ae Tryz.isAgg47 Tryz.sizeOf47 rfl (fun w_ h_=>by have x_:=(hx.mem0 h_).ldN (q:=0) (vs:=[iV .u8 ee.pr,iV .u32 ee.src,iV .u32 ee.dst,iV .u16 ee.frm,iV .u16 ee.dto]) (No (sz:=5) rfl);rw[Br]at x_;exact x_)) (B0 (v:=aV [iV .u8 ee.pr,iV .u32 ee.src,iV .u16 ee.frm]) (A9 (fun w_ hm_=>(Ks ee.pr ee.src ee.dst ee.frm ee.dto _))) ?_))))
  refine Ab 1 (Ai rfl (A4 p4 0 3 0 [iV .u8 ee.pr,iV .u32 ee.src,iV .u16 ee.frm] Tryz.sizeOf97 rfl rfl) (fun _=>?_))
  refine Ai rfl (Bg p5 0 2 0 (bV false) Tryz.sizeOf4 rfl rfl) (fun _=>Ai rfl (Bg p6 0 1 0 (pV eb 0) Tryz.sizeOf93 rfl rfl) (fun _=>?_))
  refine Ai rfl (Bg p7 0 0 0 (iV .i64 0) Tryz.sizeOf41 rfl rfl) (fun _=>Ac (hK15 _ _ _ (Ap [0,1,2,3] Al rfl (Aq (fn:=Tryz.f47) rfl (fun w_ hS_=>Zm rfl (Bq p4 0 3 0 [iV .u8 ee.pr,iV .u32 ee.src,iV .u16 ee.frm] Tryz.isAgg97 Tryz.sizeOf97) (Dj (b:=p5) (o':=0) (i:=2) (j:=0) (cs:=[bV false]) (v:=bV false) Ae Tryz.isAgg4 rfl rfl rfl) (Dj (b:=p6) (o':=0) (i:=1) (j:=0) (cs:=[pV eb 0]) (v:=pV eb 0) Ae Tryz.isAgg93 rfl rfl rfl) (Dj (b:=p7) (o':=0) (i:=0) (j:=0) (cs:=[iV .i64 0]) (v:=iV .i64 0) Ae Tryz.isAgg41 rfl rfl rfl) hS_ ⟨by clear hK1 hK3 hK4 hK6 hK8 hK9 hK11 hK15;refine congrArg Ending.returned ?_;unfold Cl;simp only[hmv_,hkn,(show((some (eb,ee):Option (Nat×SesE)).isSome&&((some (eb,ee):Option (Nat×SesE)).getD (0,Us)).2.lan)=true from(by show(true&&ee.lan)=_;rw[Bool.true_and];simpa using h13)),(show((k.c.dmz==0)||Xf s.p.ms k.fx fa1 fa5)=true from by rw[hdm];rfl),cond_true,cond_false];first|done|rfl|(rw[hdm];try rfl),hS_.below⟩)))))
 ·refine Ak (hK8 _ _ _ (Ad (fun K18 hK18=>Ad (fun K19 hK19=>E2 [0,1,2,3,4,5,6,7,9,10,11,14] (Mem w [] [[cb p7 [iV .i64 0] 41],[cb p6 Pu 93],[cb p5 [bV false] 4],[cb p4 zl7 97],[cb p3 (Q10 fa1 fa2 fa3 fa4 fa5) 47]]) Ae Ae (fun _ _ h_=>h_.drawn _) ?_))))
  refine Dw (w0:=w) (M:=[]) [0,3,4,5,6,7,11,59,60] (fun(z24:Nat)=>[pL (some ⟨k.nb,0,none⟩),pV p3 0,pV p4 0,pV p5 0,pV p6 0,pV p7 0,pV z24 0,aV (Qz fa1 fa5 k),bV (I6 k.fx fa1 fa5)]) (fun(z24:Nat)=>True) (fun(z24:Nat)=>[[cb z24 Q11 65],[cb p7 [iV .i64 0] 41],[cb p6 Pu 93],[cb p5 [bV false] 4],[cb p4 zl7 97],[cb p3 (Q10 fa1 fa2 fa3 fa4 fa5) 47]]) 2 #[true,true,true,true,true,true,true,true,true,true,true,true,true,false,false] (fun z24 hp25 f26=>?_) (fun JD22=>?_)
  ·obtain⟨p11,rfl⟩: ∃a_,a_=z24:=⟨_,rfl⟩
   refine A3 (i:=13) Ae (Ch rfl rfl (A4 p11 0 0 0 (Qz fa1 fa5 k) Tryz.sizeOf65 rfl rfl) (.inr fun _ _ h_=>h_.pick [1,2,3,4,5] Al rfl) (fun _=>?_))
   refine Wa.ys (v:=bV (I6 k.fx fa1 fa5)) (i:=14) Ae Ae Ae Ae (fun _ h_=>h_.pick [1,2,3,4,5] Al rfl) rfl rfl rfl (Ys.p) (D1 Ae (hK19 _ _ _ (Ad (fun K28 hK28=>Aa ?_))))
   refine Ab 1 (Ac (hK28 _ _ _ ?_))
   refine Ao (I6 k.fx fa1 fa5) Ae (fun h29=>?_) (fun h30=>?_)
   ·refine Ad (fun K31 hK31=>Aa (Ab 1 (Ah (An p3 0 5 0 Tryz.isAgg5) (Ab 1 ?_))))
    refine Ah (An p11 3 0 0 Tryz.isAgg24) (Ab 1 (Ah (An p11 2 0 0 Tryz.isAgg22) (Ab 1 (Ai rfl (A4 p4 0 4 0 [iV .u8 fa1,iV .u32 ((D2 k.fx fa1 fa5).host),iV .u16 ((D2 k.fx fa1 fa5).dest)] Tryz.sizeOf97 rfl rfl) (fun _=>?_)))))
    refine Ai rfl (Bg p5 0 3 0 (bV false) Tryz.sizeOf4 rfl rfl) (fun _=>Ai rfl (Bg p6 0 2 0 (pL none) Tryz.sizeOf93 rfl rfl) (fun _=>?_))
    refine Ai rfl (Bg p7 0 1 0 (iV .i64 0) Tryz.sizeOf41 rfl rfl) (fun _=>Ac (hK31 _ _ _ (Ap [1,2,3,4] Al rfl (Aq (fn:=Tryz.f47) rfl (fun w_ hS_=>Zm rfl (Bq p4 0 3 0 [iV .u8 fa1,iV .u32 ((D2 k.fx fa1 fa5).host),iV .u16 ((D2 k.fx fa1 fa5).dest)] Tryz.isAgg97 Tryz.sizeOf97) (Dj (b:=p5) (o':=0) (i:=2) (j:=0) (cs:=[bV false]) (v:=bV false) Ae Tryz.isAgg4 rfl rfl rfl) (Dj (b:=p6) (o':=0) (i:=1) (j:=0) (cs:=Pu) (v:=Value.pointer none) Ae Tryz.isAgg93 rfl rfl rfl) (Dj (b:=p7) (o':=0) (i:=0) (j:=0) (cs:=[iV .i64 0]) (v:=iV .i64 0) Ae Tryz.isAgg41 rfl rfl rfl) hS_ ⟨by clear hK1 hK3 hK4 hK6 hK8 hK9 hK11 hK18 hK19 hK28 hK31;refine congrArg Ending.returned ?_;unfold Cl;simp only[hmv_,hkn,(show((some (eb,ee):Option (Nat×SesE)).isSome&&((some (eb,ee):Option (Nat×SesE)).getD (0,Us)).2.lan)=false from(by show(true&&ee.lan)=_;rw[Bool.true_and];simpa using h14)),(show(I6 k.fx fa1 fa5)=true from h29),(show((k.c.dmz==0)||Xf s.p.ms k.fx fa1 fa5)=true from by rw[hdm];rfl),cond_true,cond_false];first|done|rfl|(rw[hdm];try rfl),hS_.below⟩)))))
   ·refine Ak (hK18 _ _ _ (Ap [1,2,3,4,5] Al rfl (Ad (fun K34 hK34=>Dh [(0,true),(1,true),(2,true),(3,true),(4,true),(5,true),(6,true),(7,false),(8,false),(9,false),(10,false)] [0,1,2,3,4,5,6] ?_))))
    refine Ay 1 (Wd.ys rfl rfl rfl (An p3 0 4 0 Tryz.isAgg5) (Ay 4 (Wd.ys (v:=iV .u32 0) rfl rfl rfl (Ys.conseq (v:=iV .u32 k.c.dmz) (Af (hdm)) (Ys.ld (a:=⟨k.nb,26,none⟩) rfl Ae Tryz.isAgg24 (fun w_ h_=>by have x_:=(ha.nat.mem0 h_).ld (q:=26) ((Cq rfl Al).trans rfl);rw[Br]at x_;exact x_))) (Wd.yc (v:=pV p3 4) rfl rfl rfl (Ys.yc (Ys.p)) (.inr fun _ h_=>h_) ?_))))
    refine Wd.yc (v:=iV .u16 fa5) rfl rfl rfl (Ys.yc (An p3 4 4 0 Tryz.isAgg22)) (.inr fun _ h_=>h_) (Wd.yc (v:=aV [iV .u8 fa1,iV .u32 0,iV .u16 fa5]) rfl rfl rfl (Ys.yc (Ys.p)) (.inr fun _ h_=>h_) (B8 rfl rfl (A4 p4 0 3 0 [iV .u8 fa1,iV .u32 0,iV .u16 fa5] Tryz.sizeOf97 rfl rfl) (.inl Ae) (fun _=>A7 (hK34 _ _ _ ?_))))
    refine Ad (fun K36 hK36=>Ad (fun K37 hK37=>?_))
    refine Aa (Ab 4 (Ah (v:=iV .u32 0) (Ys.conseq (v:=iV .u32 k.c.dmz) (Af (hdm)) (Ys.ld (a:=⟨k.nb,26,none⟩) rfl Ae Tryz.isAgg24 (fun w_ h_=>by have x_:=(ha.nat.mem0 h_).ld (q:=26) ((Cq rfl Al).trans rfl);rw[Br]at x_;exact x_))) (Ab 2 (B7 Ae rfl ?_))))
    refine B7 Ae rfl (B7 Ae rfl (B7 Ae rfl (B7 Ae rfl (B7 Ae rfl ?_))))
    refine Ab 1 (Ac (hK37 _ _ _ (B5 Ae (Ad (fun K39 hK39=>?_)))))
    refine Aa (Ah (A0 p4 0 3 0 [iV .u8 fa1,iV .u32 0,iV .u16 fa5] Tryz.isAgg97 Tryz.sizeOf97) (Ai rfl (A4 p4 0 3 0 [iV .u8 fa1,iV .u32 0,iV .u16 fa5] Tryz.sizeOf97 rfl rfl) (fun _=>Ai rfl (Bg p5 0 2 0 (bV false) Tryz.sizeOf4 rfl rfl) (fun _=>Ai rfl (Bg p6 0 1 0 (pL none) Tryz.sizeOf93 rfl rfl) (fun _=>?_)))))
    refine Ai rfl (Bg p7 0 0 0 (iV .i64 21) Tryz.sizeOf41 rfl rfl) (fun _=>Ac (hK39 _ _ _ (Ap [0,1,2,3] Al rfl (Aq (fn:=Tryz.f47) rfl (fun w_ hS_=>Zm rfl (Bq p4 0 3 0 [iV .u8 fa1,iV .u32 0,iV .u16 fa5] Tryz.isAgg97 Tryz.sizeOf97) (Dj (b:=p5) (o':=0) (i:=2) (j:=0) (cs:=[bV false]) (v:=bV false) Ae Tryz.isAgg4 rfl rfl rfl) (Dj (b:=p6) (o':=0) (i:=1) (j:=0) (cs:=Pu) (v:=Value.pointer none) Ae Tryz.isAgg93 rfl rfl rfl) (Dj (b:=p7) (o':=0) (i:=0) (j:=0) (cs:=[iV .i64 21]) (v:=iV .i64 21) Ae Tryz.isAgg41 rfl rfl rfl) hS_ ⟨by clear hK1 hK3 hK4 hK6 hK8 hK9 hK11 hK18 hK19 hK28 hK34 hK36 hK37 hK39;refine congrArg Ending.returned ?_;unfold Cl;simp only[hmv_,hkn,(show((some (eb,ee):Option (Nat×SesE)).isSome&&((some (eb,ee):Option (Nat×SesE)).getD (0,Us)).2.lan)=false from(by show(true&&ee.lan)=_;rw[Bool.true_and];simpa using h14)),(show(I6 k.fx fa1 fa5)=false from h30),(show((k.c.dmz==0)||Xf s.p.ms k.fx fa1 fa5)=true from by rw[hdm];rfl),cond_true,cond_false];first|done|rfl|(rw[hdm];try rfl),hS_.below⟩)))))
  ·refine Wa.ys (v:=pL (some ⟨k.nb,0,none⟩)) (i:=0) Ae Ae Ae Ae (fun _ h_=>h_) rfl rfl rfl (Ys.p) (Wa.ys (v:=pL (some ⟨k.nb,0,none⟩)) (i:=1) Ae Ae Ae Ae (fun _ h_=>h_) rfl rfl rfl (Ys.p) (Wa.ys (v:=pL (some ⟨k.nb,0,none⟩)) (i:=2) Ae Ae Ae Ae (fun _ h_=>h_) rfl rfl rfl (Ys.p) (Wa.ys (v:=aV (Qy k)) (i:=3) Ae Ae Ae Ae (fun _ h_=>h_) rfl rfl rfl (Ys.ldN (a:=⟨k.nb,0,none⟩) (vs:=(Qy k)) rfl Ae Tryz.isAgg32 Tryz.sizeOf32 rfl (fun w_ h_=>by have x_:=(ha.nat.mem0 h_).ldN (q:=0) (vs:=(Qy k)) (Ug);rw[Br]at x_;exact x_)) (Wa.ys (v:=pV p3 0) (i:=4) Ae Ae Ae Ae (fun _ h_=>h_) rfl rfl rfl (Ys.p) ?_))))
   refine Wa.ys (i:=5) Ae Ae Ae Ae (fun _ h_=>h_) rfl rfl rfl (An p3 0 4 0 Tryz.isAgg5) (Wa.ys (v:=pV p3 4) (i:=6) Ae Ae Ae Ae (fun _ h_=>h_) rfl rfl rfl (Ys.p) (Wa.ys (i:=7) Ae Ae Ae Ae (fun _ h_=>h_) rfl rfl rfl (An p3 4 4 0 Tryz.isAgg22) ?_))
   refine C3 (i:=8) (j:=12) Ae ?_ ?_
   ·refine Wo.yc (v:=Value.tuple #[aV (Qz fa1 fa5 k),bV (I6 k.fx fa1 fa5)]) rfl rfl rfl (A9 (fun w_ hm_=>(N8 (⟨k.c.lm0,k.c.lm1,k.c.lm2,k.c.lm3,k.c.lm4,k.c.lm5,k.c.wm0,k.c.wm1,k.c.wm2,k.c.wm3,k.c.wm4,k.c.wm5,k.c.hm0,k.c.hm1,k.c.hm2,k.c.hm3,k.c.hm4,k.c.hm5,k.c.lan,k.c.wan,k.c.bits,k.c.ms,k.c.mm,k.c.mc,k.c.mu,k.gf.a,k.fx.length,k.gf.cap,k.c.dmz,k.c.uu⟩:Conf.Cfg) k.fx k.gf.a k.gf.cap fa1 fa5 _ (ha.fx.mem0 hm_) hf0))) (.inr fun _ h_=>h_) (Wa.ys (v:=Value.tuple #[aV (Qz fa1 fa5 k),bV (I6 k.fx fa1 fa5)]) (i:=9) Ae Ae Ae Ae (fun _ h_=>h_) rfl rfl rfl (Ys.p) (Wa.ys (v:=aV (Qz fa1 fa5 k)) (i:=10) Ae Ae Ae Ae (fun _ h_=>h_) rfl rfl rfl (Ys.p) (Wa.ys (v:=bV (I6 k.fx fa1 fa5)) (i:=11) Ae Ae Ae Ae (fun _ h_=>h_) rfl rfl rfl (Ys.p) (A3 (i:=12) Ae ?_))))
    refine Ch rfl rfl (Bc Tryz.zeroValue65) (.inr fun _ _ h_=>h_.pick [1,2,3,4,5] Al rfl) (fun p11=>?_)
    exact Cb [0,3,4,5,6,7,11,59,60] [pL (some ⟨k.nb,0,none⟩),pV p3 0,pV p4 0,pV p5 0,pV p6 0,pV p7 0,pV p11 0,aV [iV .u8 ((D2 k.fx fa1 fa5).proto),iV .u16 ((D2 k.fx fa1 fa5).port),iV .u16 ((D2 k.fx fa1 fa5).dest),iV .u32 ((D2 k.fx fa1 fa5).host)],bV (I6 k.fx fa1 fa5)] #[true,true,true,true,true,true,true,true,true,true,true,true,true,false,false] (JD22 p11 trivial) Ae Ae (fun _ h_=>h_)
   ·refine Ch rfl rfl (Bc Tryz.zeroValue65) (.inr fun _ _ h_=>h_.pick [1,2,3,4,5] Al rfl) (fun p11=>A3 (i:=8) Ae (Wo.yc (v:=Value.tuple #[aV (Qz fa1 fa5 k),bV (I6 k.fx fa1 fa5)]) rfl rfl rfl (A9 (fun w_ hm_=>(N8 (⟨k.c.lm0,k.c.lm1,k.c.lm2,k.c.lm3,k.c.lm4,k.c.lm5,k.c.wm0,k.c.wm1,k.c.wm2,k.c.wm3,k.c.wm4,k.c.wm5,k.c.hm0,k.c.hm1,k.c.hm2,k.c.hm3,k.c.hm4,k.c.hm5,k.c.lan,k.c.wan,k.c.bits,k.c.ms,k.c.mm,k.c.mc,k.c.mu,k.gf.a,k.fx.length,k.gf.cap,k.c.dmz,k.c.uu⟩:Conf.Cfg) k.fx k.gf.a k.gf.cap fa1 fa5 _ (ha.fx.mem0 hm_) hf0))) (.inr fun _ h_=>h_.pick [1,2,3,4,5] Al rfl) (Wa.ys (v:=Value.tuple #[aV (Qz fa1 fa5 k),bV (I6 k.fx fa1 fa5)]) (i:=9) Ae Ae Ae Ae (fun _ h_=>h_.pick [1,2,3,4,5] Al rfl) rfl rfl rfl (Ys.p) (Wa.ys (v:=aV (Qz fa1 fa5 k)) (i:=10) Ae Ae Ae Ae (fun _ h_=>h_.pick [1,2,3,4,5] Al rfl) rfl rfl rfl (Ys.p) ?_))))
    refine Wa.ys (v:=bV (I6 k.fx fa1 fa5)) (i:=11) Ae Ae Ae Ae (fun _ h_=>h_.pick [1,2,3,4,5] Al rfl) rfl rfl rfl (Ys.p) ?_
    exact Cb [0,3,4,5,6,7,11,59,60] [pL (some ⟨k.nb,0,none⟩),pV p3 0,pV p4 0,pV p5 0,pV p6 0,pV p7 0,pV p11 0,aV [iV .u8 ((D2 k.fx fa1 fa5).proto),iV .u16 ((D2 k.fx fa1 fa5).port),iV .u16 ((D2 k.fx fa1 fa5).dest),iV .u32 ((D2 k.fx fa1 fa5).host)],bV (I6 k.fx fa1 fa5)] #[true,true,true,true,true,true,true,true,true,true,true,true,true,false,false] (JD22 p11 trivial) Ae Ae (fun _ h_=>h_)
theorem Uh(k:NK)(s:NS)(fa1 fa2 fa3 fa4 fa5:Int)(w:World)(ha:NAt k s w)(ok:NOk k s)(htie:s.p.xs=s.p.es.map Pd)(hdm:k.c.dmz=0)(hf0:k.fx.length=0)(hm0:s.p.ms.length=0):Calls Tryz.prog 47 #[pL (some ⟨k.nb,0,none⟩),Value.agg ([Value.int .u8 fa1,Value.int .u32 fa2,Value.int .u32 fa3,Value.int .u16 fa4,Value.int .u16 fa5]).toArray] w (Dc w (.tuple #[.agg [.int .u8 (Cl k.c k.fx s.p (fa1,fa2,fa3,fa4,fa5)).1.1,.int .u32 (Cl k.c k.fx s.p (fa1,fa2,fa3,fa4,fa5)).1.2.1,.int .u16 (Cl k.c k.fx s.p (fa1,fa2,fa3,fa4,fa5)).1.2.2].toArray,.bool (Cl k.c k.fx s.p (fa1,fa2,fa3,fa4,fa5)).2.1,.pointer (Cs (Cl k.c k.fx s.p (fa1,fa2,fa3,fa4,fa5)).2.2.1),.int .i64 (Cl k.c k.fx s.p (fa1,fa2,fa3,fa4,fa5)).2.2.2])):=by
  cases hkn:(I3 (fa1,fa2,fa3,fa4,fa5) s.p.es)with
  |none=>exact Yk k s fa1 fa2 fa3 fa4 fa5 w ha ok htie hkn hdm hf0 hm0
  |some x=>
    obtain⟨j,hj⟩:=Afd (f:=(fa1,fa2,fa3,fa4,fa5)) (es:=s.p.es) (by rw[hkn];rfl)
    rw[hkn]at hj
    exact Yl k s fa1 fa2 fa3 fa4 fa5 x.1 x.2 w ha ok htie hkn (ha.ent j x.1 x.2 hj) hdm hf0 hm0
def Et(k:NK)(p:NP)(e:SesE)(pb:Nat):NP:=
  bif e.given then
    (bif decide ((Bo (⟨0,0⟩:Lse) p.zs (B1 (Dm e))).count-1>0)then {p with xs:=C0 p.xs (Dm e),ys:=C0 p.ys e.id,ws:=Fj p.ws e.id,zs:=Db Ca k.mo p.zs (B1 (Dm e)) (⟨(Bo (⟨0,0⟩:Lse) p.zs (B1 (Dm e))).ext,(Bo (⟨0,0⟩:Lse) p.zs (B1 (Dm e))).count-1⟩:Lse)}
     else {p with xs:=C0 p.xs (Dm e),ys:=C0 p.ys e.id,ws:=Fj p.ws e.id,zs:=C0 p.zs (B1 (Dm e)),tk:=Ml p.tk e.pr.toNat (some pb),TT:=F5 p.TT e.pr.toNat (gvT (p.TT e.pr.toNat) (Bo (⟨0,0⟩:Lse) p.zs (B1 (Dm e))).ext.toNat)})
  else {p with xs:=C0 p.xs (Dm e),ys:=C0 p.ys e.id,ws:=Fj p.ws e.id}
abbrev Q12(e:SesE)(xb:Nat):List Blk:=[cb xb [iV .u8 e.pr,iV .u32 e.src,iV .u32 e.dst,iV .u16 e.frm,iV .u16 e.dto,iV .u16 e.ext,iV .u64 e.ends,bV e.lan,bV e.s0,bV e.s1,bV e.s2,bV e.s3,bV e.s4,iV .u64 e.id,bV e.given] 113]
abbrev Q13(e:SesE)(p5:Nat)(s:NS):List Blk:=[cb p5 [iV .u16 ((Bo (⟨0,0⟩:Lse) s.p.zs (e.pr,e.src,e.frm)).ext),iV .i64 (((Bo (⟨0,0⟩:Lse) s.p.zs (e.pr,e.src,e.frm)).count)-1)] 99]
abbrev Q14(e:SesE)(p4:Nat):List Blk:=[cb p4 [iV .u8 e.pr,iV .u32 e.src,iV .u16 e.frm] 97]
abbrev Q15(e:SesE)(s:NS):List Value:=[iV .u16 ((Bo (⟨0,0⟩:Lse) s.p.zs (e.pr,e.src,e.frm)).ext),iV .i64 ((Bo (⟨0,0⟩:Lse) s.p.zs (e.pr,e.src,e.frm)).count)]
abbrev Q16(e:SesE):List Value:=[iV .u8 e.pr,iV .u32 e.src,iV .u16 e.frm]
theorem Ai2(k:NK)(s:NS)(M:List Nat)(e:SesE)(xb:Nat)(w:World)(ok:NOk k s)(hl:Mem w M [NG k s,[Iz (xb,e)]] w)(hct:0≤(Bo (⟨0,0⟩:Lse) s.p.zs (e.pr,e.src,e.frm)).count∧(Bo (⟨0,0⟩:Lse) s.p.zs (e.pr,e.src,e.frm)).count≤1000000)(hext:0≤(Bo (⟨0,0⟩:Lse) s.p.zs (e.pr,e.src,e.frm)).ext∧(Bo (⟨0,0⟩:Lse) s.p.zs (e.pr,e.src,e.frm)).ext≤65535)(hpr:0≤e.pr∧e.pr≤255):Calls Tryz.prog 40 #[pL (some ⟨k.nb,0,none⟩),pV xb 0] w (Bj w (fun r:NS=>NOk k r∧ ∃pb,r.p=Et k s.p e pb) (fun _=>.tuple #[]) M (fun r=>[NG k r])):=by
 obtain⟨lxs,lys,lzs,lms,lfs⟩:=NOk.len ok;obtain⟨ep,hep⟩: ∃n:Nat,(Bo (⟨0,0⟩:Lse) s.p.zs (e.pr,e.src,e.frm)).ext=(n:Int):=⟨_,(Int.toNat_of_nonneg hext.1).symm⟩;obtain⟨pr,hepr⟩: ∃n:Nat,e.pr=(n:Int):=⟨_,(Int.toNat_of_nonneg hpr.1).symm⟩
 refine Ar (M:=M) (LL:=[NG k s,Q12 e xb]) (n:=82) Tryz.func40 rfl rfl A5 (hl) (Ad (fun K1 hK1=>?_))
 refine Bz [(0,true),(1,true),(2,true),(3,true),(4,false),(5,false),(6,false),(7,false),(8,false),(9,false)] [0,1,2,3] (fun w_=> ∃s_:NS,Mem w M [NG k s_,Q12 e xb] w_) Ae Ae Ae rfl Ae (fun _ _ h_=>h_.drawn _) (fun _ h_=>⟨_,h_⟩) (Ay 3 (Wd.ys rfl rfl rfl (Ee (fun s_=>Bp (b:=k.nb) (o':=29) (i:=0) (j:=0) (cs:=Du k s_) (v:=pL (some ⟨k.ts,0,none⟩)) rfl Ae Tryz.isAgg85 rfl rfl ((Cq rfl Al).trans rfl))) (Wd.yc (v:=pV xb 0) rfl rfl rfl (Ys.yc (Ys.p)) (.inr fun _ h_=>⟨_,h_⟩) (Wd.yc (v:=pV xb 0) rfl rfl rfl (Ys.yc (Ys.p)) (.inr fun _ h_=>⟨_,h_⟩) ?_))))
 refine Wd.yc (v:=pV xb 0) rfl rfl rfl (Ys.yc (Ys.p)) (.inr fun _ h_=>⟨_,h_⟩) (Wd.yc (v:=pV xb 0) rfl rfl rfl (Ys.yc (Ys.p)) (.inr fun _ h_=>⟨_,h_⟩) (Wd.yc (v:=aV [iV .u8 e.pr,iV .u32 e.src,iV .u32 e.dst,iV .u16 e.frm,iV .u16 e.dto]) rfl rfl rfl (Ys.yc (A0 xb 0 1 0 [iV .u8 e.pr,iV .u32 e.src,iV .u32 e.dst,iV .u16 e.frm,iV .u16 e.dto] Tryz.isAgg47 Tryz.sizeOf47)) (.inr fun _ h_=>⟨_,h_⟩) (Cd rfl rfl (Au [0] [1] (fun w_ hm_ hl_=>(Ae6 (e.pr,e.src,e.dst,e.frm,e.dto) ok hl_))) (.inr fun _ _ h_=>⟨_,h_⟩) (fun s2 hx6=>?_))))
 obtain⟨ok3,hp4⟩:=hx6
 obtain⟨lxs2,lys2,lzs2,lms2,lfs2⟩:=NOk.len ok3
 refine A7 (hK1 _ _ _ (Ad (fun K8 hK8=>Bz [(0,true),(1,true),(2,true),(3,true),(4,false),(5,false),(6,false),(7,false),(8,false)] [0,1,2,3] (fun w_=> ∃s_:NS,Mem w M [NG k s_,Q12 e xb] w_) Ae Ae Ae rfl Ae (fun _ _ h_=>h_.drawn _) (fun _ h_=>⟨_,h_⟩) (Ay 3 ?_))))
 refine Wd.ys rfl rfl rfl (Ee (fun s_=>Bp (b:=k.nb) (o':=288) (i:=0) (j:=0) (cs:=Du k s_) (v:=pL (some ⟨k.ti,0,none⟩)) rfl Ae Tryz.isAgg89 rfl rfl ((Fs rfl 1).trans rfl))) (Wd.yc (v:=pV xb 0) rfl rfl rfl (Ys.yc (Ys.p)) (.inr fun _ h_=>⟨_,h_⟩) (Wd.yc (v:=pV xb 0) rfl rfl rfl (Ys.yc (Ys.p)) (.inr fun _ h_=>⟨_,h_⟩) (Wd.yc (v:=pV xb 13) rfl rfl rfl (Ys.yc (Ys.p)) (.inr fun _ h_=>⟨_,h_⟩) (Wd.yc (v:=iV .u64 e.id) rfl rfl rfl (Ys.yc (An xb 13 1 0 Tryz.isAgg45)) (.inr fun _ h_=>⟨_,h_⟩) ?_))))
 refine Cd rfl rfl (Au [0] [1] (fun w_ hm_ hl_=>(Ae7 e.id ok3 hl_))) (.inr fun _ _ h_=>⟨_,h_⟩) (fun s9 hx13=>?_)
 obtain⟨ok10,hp11⟩:=hx13
 obtain⟨lxs9,lys9,lzs9,lms9,lfs9⟩:=NOk.len ok10
 refine A7 (hK8 _ _ _ (Ad (fun K15 hK15=>Bz [(0,true),(1,true),(2,true),(3,true),(4,false),(5,false),(6,false),(7,false),(8,false)] [0,1,2,3] (fun w_=> ∃s_:NS,Mem w M [NG k s_,Q12 e xb] w_) Ae Ae Ae rfl Ae (fun _ _ h_=>h_.drawn _) (fun _ h_=>⟨_,h_⟩) (Ay 3 ?_))))
 refine Wd.ys rfl rfl rfl (Ee (fun s_=>Bp (b:=k.nb) (o':=287) (i:=0) (j:=0) (cs:=Du k s_) (v:=pL (some ⟨k.wb,0,none⟩)) rfl Ae Tryz.isAgg83 rfl rfl ((Fs rfl 0).trans rfl))) (Wd.yc (v:=pV xb 0) rfl rfl rfl (Ys.yc (Ys.p)) (.inr fun _ h_=>⟨_,h_⟩) (Wd.yc (v:=pV xb 0) rfl rfl rfl (Ys.yc (Ys.p)) (.inr fun _ h_=>⟨_,h_⟩) (Wd.yc (v:=pV xb 13) rfl rfl rfl (Ys.yc (Ys.p)) (.inr fun _ h_=>⟨_,h_⟩) (Wd.yc (v:=iV .u64 e.id) rfl rfl rfl (Ys.yc (An xb 13 1 0 Tryz.isAgg45)) (.inr fun _ h_=>⟨_,h_⟩) ?_))))
 refine Cd rfl rfl (Au [0] [1] (fun w_ hm_ hl_=>(Ait e.id ok10 hl_))) (.inr fun _ _ h_=>⟨_,h_⟩) (fun s16 hx20=>?_)
 obtain⟨ok17,hp18⟩:=hx20
 obtain⟨lxs16,lys16,lzs16,lms16,lfs16⟩:=NOk.len ok17
 refine A7 (hK15 _ _ _ (Ad (fun K22 hK22=>Ad (fun K23 hK23=>Aa ?_))))
 refine Ab 3 (Ah (An xb 14 1 0 Tryz.isAgg4) (Ab 1 (Ac (hK23 _ _ _ ?_))))
 refine Ao (!e.given) Ae (fun h25=>?_) (fun h26=>?_)
 ·refine Aq (fn:=Tryz.f40) rfl (fun w_ hS_=>Il rfl ⟨s16,⟨ok17,0,(by rw[hp18,hp11,hp4];unfold Et;rw[(show e.given=false from by simpa using h25)]<;>rfl)⟩,rfl,(hS_.pick [0] Al rfl)⟩)
 ·refine Ak (hK22 _ _ _ (Ad (fun K28 hK28=>Aa (Ab 4 ?_))))
  refine Ah (A0 xb 0 1 0 [iV .u8 e.pr,iV .u32 e.src,iV .u32 e.dst,iV .u16 e.frm,iV .u16 e.dto] Tryz.isAgg47 Tryz.sizeOf47) (B0 (v:=aV (Q16 e)) (A9 (fun w_ hm_=>(Ks e.pr e.src e.dst e.frm e.dto _))) (Ai rfl (Bc Tryz.zeroValue97) (fun p4=>Ai rfl (A4 p4 0 0 0 (Q16 e) Tryz.sizeOf97 rfl rfl) (fun _=>Ac ?_))))
  refine hK28 _ _ _ (Ad (fun K30 hK30=>?_))
  refine E2 [0,1,2,3,4,6,7,8,11] (Mem w M [Q14 e p4,NG k s16,Q12 e xb]) Ae Ae (fun _ _ h_=>h_.drawn _) ?_
  refine Dw (w0:=w) (M:=M) [0,4,5,53,54] (fun(z35:Nat)=>[pL (some ⟨k.nb,0,none⟩),pV p4 0,pV z35 0,aV (Q15 e s),bV (Bl s.p.zs (e.pr,e.src,e.frm))]) (fun(z35:Nat)=>True) (fun(z35:Nat)=>[[cb z35 zl8 99],Q14 e p4,NG k s16,Q12 e xb]) 2 #[true,true,true,true,true,true,true,true,true,true,false,false] (fun z35 hp36 f37=>?_) (fun JD33=>?_)
  ·obtain⟨p5,rfl⟩: ∃a_,a_=z35:=⟨_,rfl⟩
   refine A3 (i:=10) Ae (Ch rfl rfl (A4 p5 0 0 0 (Q15 e s) Tryz.sizeOf99 rfl rfl) (.inr fun _ _ h_=>h_.pick [1,2,3] Al rfl) (fun _=>?_))
   refine Wa.ys (v:=bV (Bl s.p.zs (e.pr,e.src,e.frm))) (i:=11) Ae Ae Ae Ae (fun _ h_=>h_.pick [1,2,3] Al rfl) rfl rfl rfl (Ys.p) (D1 Ae (hK30 _ _ _ (Ad (fun K39 hK39=>Aa ?_))))
   refine Ab 1 (Ah (An p5 1 0 0 Tryz.isAgg3) (Ah (v:=iV .i64 (((Bo (⟨0,0⟩:Lse) s.p.zs (e.pr,e.src,e.frm)).count)-1)) ((Ys.p (v:=.int .i64 (Hk .i64 ((Bo (⟨0,0⟩:Lse) s.p.zs (e.pr,e.src,e.frm)).count) 1))).conseq (Af (Er rfl Ag Ag))) (Ab 1 (Ai rfl (Bg p5 1 0 0 (iV .i64 (((Bo (⟨0,0⟩:Lse) s.p.zs (e.pr,e.src,e.frm)).count)-1)) Tryz.sizeOf3 rfl rfl) (fun _=>?_)))))
   refine Ac (hK39 _ _ _ (Ad (fun K41 hK41=>Ad (fun K42 hK42=>Aa ?_))))
   refine Ab 1 (Ah (An p5 1 0 0 Tryz.isAgg3) (Ab 1 (Ac (hK42 _ _ _ ?_))))
   refine Ao (decide ((((Bo (⟨0,0⟩:Lse) s.p.zs (e.pr,e.src,e.frm)).count)-1)>0)) Ae (fun h44=>?_) (fun h45=>?_)
   ·have qh44:=h44;try simp only[zA]at qh44
    refine Ad (fun K46 hK46=>Bz [(0,true),(1,true),(2,true),(3,true),(4,true),(5,false),(6,false)] [0,1,2,3,4] (fun w_=> ∃s_:NS,Mem w M [Q13 e p5 s,Q14 e p4,NG k s_,Q12 e xb] w_) Ae Ae Ae rfl Ae (fun _ _ h_=>h_.drawn _) (fun _ h_=>⟨_,h_⟩) (Ay 3 (Wd.ys rfl rfl rfl (Ee (fun s_=>Bp (b:=k.nb) (o':=30) (i:=2) (j:=0) (cs:=Du k s_) (v:=pL (some ⟨k.te,0,none⟩)) rfl Ae Tryz.isAgg86 rfl rfl ((Cq rfl Al).trans rfl))) (Wd.ys (v:=aV (Q16 e)) rfl rfl rfl (Ee (fun s_=>A0 p4 0 1 0 (Q16 e) Tryz.isAgg97 Tryz.sizeOf97)) ?_))))
    refine Wd.yc (v:=aV [iV .u16 ((Bo (⟨0,0⟩:Lse) s.p.zs (e.pr,e.src,e.frm)).ext),iV .i64 (((Bo (⟨0,0⟩:Lse) s.p.zs (e.pr,e.src,e.frm)).count)-1)]) rfl rfl rfl (Ys.yc (A0 p5 0 0 0 [iV .u16 ((Bo (⟨0,0⟩:Lse) s.p.zs (e.pr,e.src,e.frm)).ext),iV .i64 (((Bo (⟨0,0⟩:Lse) s.p.zs (e.pr,e.src,e.frm)).count)-1)] Tryz.isAgg99 Tryz.sizeOf99)) (.inr fun _ h_=>⟨_,h_⟩) (Cd rfl rfl (Au [2] [0,1,3] (fun w_ hm_ hl_=>(Abc (e.pr,e.src,e.frm) (⟨(Bo (⟨0,0⟩:Lse) s.p.zs (e.pr,e.src,e.frm)).ext,((Bo (⟨0,0⟩:Lse) s.p.zs (e.pr,e.src,e.frm)).count)-1⟩:Lse) ok17 hl_))) (.inr fun _ _ h_=>⟨_,h_.pick [1,2,0,3] Al rfl⟩) (fun s47 hx51=>?_))
    obtain⟨ok48,hp49⟩:=hx51
    obtain⟨lxs47,lys47,lzs47,lms47,lfs47⟩:=NOk.len ok48
    refine A7 (hK46 _ _ _ (Ap [0,3] Al rfl (Aq (fn:=Tryz.f40) rfl (fun w_ hS_=>Il rfl ⟨s47,⟨ok48,0,(by rw[hp49,hp18,hp11,hp4];unfold Et;rw[(show e.given=true from by simpa using h26),(show decide ((Bo (⟨0,0⟩:Lse) s.p.zs (B1 (Dm e))).count-1>0)=true from h44)]<;>rfl)⟩,rfl,(hS_.pick [0] Al rfl)⟩))))
   ·have qh45:=h45;try simp only[zA]at qh45
    refine Ak (hK41 _ _ _ (Ad (fun K54 hK54=>Bz [(0,true),(1,true),(2,true),(3,true),(4,false),(5,false)] [0,1,2,3] (fun w_=> ∃s_:NS,Mem w M [Q13 e p5 s,Q14 e p4,NG k s_,Q12 e xb] w_) Ae Ae Ae rfl Ae (fun _ _ h_=>h_.drawn _) (fun _ h_=>⟨_,h_⟩) (Ay 3 ?_))))
    refine Wd.ys rfl rfl rfl (Ee (fun s_=>Bp (b:=k.nb) (o':=30) (i:=2) (j:=0) (cs:=Du k s_) (v:=pL (some ⟨k.te,0,none⟩)) rfl Ae Tryz.isAgg86 rfl rfl ((Cq rfl Al).trans rfl))) (Wd.yc (v:=aV (Q16 e)) rfl rfl rfl (Ys.yc (A0 p4 0 1 0 (Q16 e) Tryz.isAgg97 Tryz.sizeOf97)) (.inr fun _ h_=>⟨_,h_⟩) (Cd rfl rfl (Au [2] [0,1,3] (fun w_ hm_ hl_=>(Ae8 (e.pr,e.src,e.frm) ok17 hl_))) (.inr fun _ _ h_=>⟨_,h_.pick [1,2,0,3] Al rfl⟩) (fun s55 hx59=>?_)))
    obtain⟨ok56,hp57⟩:=hx59
    obtain⟨lxs55,lys55,lzs55,lms55,lfs55⟩:=NOk.len ok56
    refine A7 (hK54 _ _ _ (Bz [(0,true),(1,true),(2,true),(4,true),(5,true),(3,false),(6,false)] [0,1,2,4,5] (fun w_=> ∃s_:NS,Mem w M [NG k s_,Q13 e p5 s,Q14 e p4,Q12 e xb] w_) Ae Ae Ae rfl Ae (fun _ _ h_=>h_.drawn _) (fun _ h_=>⟨_,h_⟩) (Ay 2 (Wd.ys (v:=nV .u8 pr) rfl rfl rfl (Ee (fun s_=>Ys.conseq (v:=iV .u8 e.pr) (Af (hepr)) (An p4 0 2 0 Tryz.isAgg5))) ?_))))
    refine Ay 1 (Wd.ys (v:=nV .u16 ep) rfl rfl rfl (Ee (fun s_=>Ys.conseq (v:=iV .u16 ((Bo (⟨0,0⟩:Lse) s.p.zs (e.pr,e.src,e.frm)).ext)) (Af (hep)) (An p5 0 1 0 Tryz.isAgg22))) (Cd rfl rfl (Au (args:= #[pL (some ⟨k.nb,0,none⟩),nV .u8 pr]) [0] [1,2,3] (fun w_ hm_ hl_=>(Abd Ag ok56 hl_))) (.inr fun _ _ h_=>⟨_,h_⟩) (fun q66 hx69=>?_)))
    obtain⟨s63,pb61⟩:=q66
    dsimp only at hx69
    obtain⟨ok64,hp65,htk62⟩:=hx69
    refine Zi (LL':=[NG k s63,Q13 e p5 s,Q14 e p4,Q12 e xb]) rfl ?_
    obtain⟨lxs63,lys63,lzs63,lms63,lfs63⟩:=NOk.len ok64
    have hset68:s63.p.tk pr=some pb61:=by rw[hp65];exact E3 _ _ _
    refine Cd rfl rfl (Au (args:= #[pV pb61 0,nV .u16 ep]) [0] [1,2,3] (fun w_ hm_ hl_=>(Aiw Ag Ag hset68 ok64 hl_))) (.inr fun _ _ h_=>⟨_,h_⟩) (fun s70 hx75=>?_)
    obtain⟨ok71,hp72⟩:=hx75
    obtain⟨lxs70,lys70,lzs70,lms70,lfs70⟩:=NOk.len ok71
    have hset74:s70.p.tk pr=some pb61:=by rw[hp72];exact hset68
    refine A7 ?_
    show∀w_,_→bodyPostM (Cy none) 0 Tryz.prog Tryz.f40 _ Exit.normal _ w_
    exact fun w_ hS_=>Dq (Il rfl ⟨s70,⟨ok71,pb61,(by rw[hp72,hp65,hp57,hp18,hp11,hp4];unfold Et;rw[(show e.given=true from by simpa using h26),(show decide ((Bo (⟨0,0⟩:Lse) s.p.zs (B1 (Dm e))).count-1>0)=false from h45)];rw[show(Bo (⟨0,0⟩:Lse) s.p.zs (B1 (Dm e))).ext.toNat=ep from(congrArg Int.toNat hep).trans rfl,show e.pr.toNat=pr by omega]<;>rfl)⟩,rfl,(hS_.pick [0] Al rfl)⟩)
  ·refine Wa.ys (v:=pL (some ⟨k.nb,0,none⟩)) (i:=0) Ae Ae Ae Ae (fun _ h_=>h_) rfl rfl rfl (Ys.p) (Wa.ys (v:=pL (some ⟨k.nb,0,none⟩)) (i:=1) Ae Ae Ae Ae (fun _ h_=>h_) rfl rfl rfl (Ys.p) (Wa.ys (v:=pL (some ⟨k.nb,30,none⟩)) (i:=2) Ae Ae Ae Ae (fun _ h_=>h_) rfl rfl rfl (Ys.p) (Wa.ys (i:=3) Ae Ae Ae Ae (fun _ h_=>h_) rfl rfl rfl (Bp (b:=k.nb) (o':=30) (i:=1) (j:=0) (cs:=Du k s16) (v:=pL (some ⟨k.te,0,none⟩)) rfl Ae Tryz.isAgg86 rfl rfl ((Cq rfl Al).trans rfl)) (Wa.ys (v:=aV (Q16 e)) (i:=4) Ae Ae Ae Ae (fun _ h_=>h_) rfl rfl rfl (A0 p4 0 0 0 (Q16 e) Tryz.isAgg97 Tryz.sizeOf97) ?_))))
   refine C3 (i:=5) (j:=9) Ae ?_ ?_
   ·have q_s16zs:s16.p.zs=s.p.zs:=by rw[hp18,hp11,hp4]
    have q_s16zs:s16.p.zs=s.p.zs:=by rw[hp18,hp11,hp4]
    refine Wo.yc (v:=Value.tuple #[aV (Q15 e s),bV (Bl s.p.zs (e.pr,e.src,e.frm))]) rfl rfl rfl (A9 (fun w_ hm_=>(Mh s.p.zs s16.ge.a s16.ge.cap k.mo k.te (e.pr,e.src,e.frm) _ (by rw[←q_s16zs];exact(Jp (i:=1) hm_ rfl)) (by rw[←q_s16zs];exact(NG.zs (i:=1) hm_ rfl ok17)) Fb ok.hzs))) (.inr fun _ h_=>h_) (Wa.ys (v:=Value.tuple #[aV (Q15 e s),bV (Bl s.p.zs (e.pr,e.src,e.frm))]) (i:=6) Ae Ae Ae Ae (fun _ h_=>h_) rfl rfl rfl (Ys.p) (Wa.ys (v:=aV (Q15 e s)) (i:=7) Ae Ae Ae Ae (fun _ h_=>h_) rfl rfl rfl (Ys.p) (Wa.ys (v:=bV (Bl s.p.zs (e.pr,e.src,e.frm))) (i:=8) Ae Ae Ae Ae (fun _ h_=>h_) rfl rfl rfl (Ys.p) (A3 (i:=9) Ae ?_))))
    refine Ch rfl rfl (Bc Tryz.zeroValue99) (.inr fun _ _ h_=>h_.pick [1,2,3] Al rfl) (fun p5=>?_)
    exact Cb [0,4,5,53,54] [pL (some ⟨k.nb,0,none⟩),pV p4 0,pV p5 0,aV [iV .u16 ((Bo (⟨0,0⟩:Lse) s.p.zs (e.pr,e.src,e.frm)).ext),iV .i64 ((Bo (⟨0,0⟩:Lse) s.p.zs (e.pr,e.src,e.frm)).count)],bV (Bl s.p.zs (e.pr,e.src,e.frm))] #[true,true,true,true,true,true,true,true,true,true,false,false] (JD33 p5 trivial) Ae Ae (fun _ h_=>h_)
   ·refine Ch rfl rfl (Bc Tryz.zeroValue99) (.inr fun _ _ h_=>h_.pick [1,2,3] Al rfl) (fun p5=>A3 (i:=5) Ae ?_)
    have q_s16zs:s16.p.zs=s.p.zs:=by rw[hp18,hp11,hp4]
    have q_s16zs:s16.p.zs=s.p.zs:=by rw[hp18,hp11,hp4]
    refine Wo.yc (v:=Value.tuple #[aV (Q15 e s),bV (Bl s.p.zs (e.pr,e.src,e.frm))]) rfl rfl rfl (A9 (fun w_ hm_=>(Mh s.p.zs s16.ge.a s16.ge.cap k.mo k.te (e.pr,e.src,e.frm) _ (by rw[←q_s16zs];exact(Jp (i:=2) hm_ rfl)) (by rw[←q_s16zs];exact(NG.zs (i:=2) hm_ rfl ok17)) Fb ok.hzs))) (.inr fun _ h_=>h_.pick [1,2,3] Al rfl) (Wa.ys (v:=Value.tuple #[aV (Q15 e s),bV (Bl s.p.zs (e.pr,e.src,e.frm))]) (i:=6) Ae Ae Ae Ae (fun _ h_=>h_.pick [1,2,3] Al rfl) rfl rfl rfl (Ys.p) (Wa.ys (v:=aV (Q15 e s)) (i:=7) Ae Ae Ae Ae (fun _ h_=>h_.pick [1,2,3] Al rfl) rfl rfl rfl (Ys.p) (Wa.ys (v:=bV (Bl s.p.zs (e.pr,e.src,e.frm))) (i:=8) Ae Ae Ae Ae (fun _ h_=>h_.pick [1,2,3] Al rfl) rfl rfl rfl (Ys.p) ?_)))
    exact Cb [0,4,5,53,54] [pL (some ⟨k.nb,0,none⟩),pV p4 0,pV p5 0,aV [iV .u16 ((Bo (⟨0,0⟩:Lse) s.p.zs (e.pr,e.src,e.frm)).ext),iV .i64 ((Bo (⟨0,0⟩:Lse) s.p.zs (e.pr,e.src,e.frm)).count)],bV (Bl s.p.zs (e.pr,e.src,e.frm))] #[true,true,true,true,true,true,true,true,true,true,false,false] (JD33 p5 trivial) Ae Ae (fun _ h_=>h_)
def D6(P:List (Int×Int)):Nat→Nat→Bool:=fun p q=>decide (1024≤q)&&P.any fun x=>(x.1==(p:Int))&&(x.2==(q:Int))
theorem Xh:D6 []=fun _ _=>false:=by funext p q;simp[D6]
theorem Ui{P:List (Int×Int)}{p q:Nat}:F5 (D6 P) p (P7 (D6 P p) q)=D6 (P++[(((p:Nat):Int),(q:Int))]):=by
  funext r t
  by_cases e:r=p
  · subst e
    rw[F6]
    unfold P7 Ur
    by_cases et:t=q
    · subst et
      by_cases hb:1024≤t
      · cases ht:D6 P r t with
        |true=>simp only[ht,Bool.or_true,Bool.not_true,cond_false];unfold D6 at ht⊢;simp[hb]at ht⊢
        |false=>simp only[ht,Bool.or_false,show decide (t<1024)=false from decide_eq_false Ag,Bool.not_false,cond_true];rw[J0];unfold D6;simp[hb]
      · rw[show decide (t<1024)=true from decide_eq_true Ag];simp only[Bool.true_or,Bool.not_true,cond_false];unfold D6;simp[hb]
    · have h2:D6 (P++[(((r:Nat):Int),(q:Int))]) r t=D6 P r t:=by
        have e2:(((q:Nat):Int)==(t:Int))=false:=by rw[beq_eq_false_iff_ne];omega
        unfold D6;rw[List.any_append,List.any_cons,List.any_nil];simp only[e2,Bool.and_false,Bool.or_false]
      rw[h2]
      cases(!(decide (q<1024)||D6 P r q))
      · rfl
      · simp only[cond_true];rw[Hf _ _ et]
  · rw[Dt _ _ e]
    have e2:(((p:Nat):Int)==(r:Int))=false:=by rw[beq_eq_false_iff_ne];omega
    unfold D6;rw[List.any_append,List.any_cons,List.any_nil];simp only[e2,Bool.false_and,Bool.or_false]
theorem Abj{α:Type}(d:α){P:List α}{k:Nat}(h:k<P.length):P.take k++[P.getD k d]=P.take (k+1):=by
  rw[List.take_add_one,List.getD_eq_getElem?_getD,List.getElem?_eq_getElem h];rfl
theorem Abk:tkC (fun _=>none)=List.replicate 256 (Value.pointer none):=by
  apply List.ext_getElem?
  intro i
  by_cases hi:i<256
  · rw[Lz hi,List.getElem?_replicate,if_pos hi];rfl
  · rw[List.getElem?_eq_none (by rw[E8];omega),List.getElem?_replicate,if_neg hi]
theorem Vj{cf:List Value}{m s e wh ids last:Value}{tk:Nat→Option Nat}(hc:cf.length=28):Bn (Dv cf m s e tk wh ids last) 31 (List.replicate 256 (Value.pointer none))=Dv cf m s e (fun _=>none) wh ids last:=by
  unfold Dv Bn
  rw[Abk,List.length_replicate,List.take_append_of_le_length (by simp[hc]),List.take_of_length_le (by simp[hc]),List.drop_append,List.drop_eq_nil_of_le (by simp[hc]),List.nil_append,show 31+256-(cf++[m,s,e]).length=256 by simp[hc],List.drop_append,List.drop_eq_nil_of_le (by rw[E8];exact Nat.le_refl _),E8]
  simp
theorem Afe:(Builtin.zeroCells #[Value.pointer none] (255+1)).toList=List.replicate 256 (Value.pointer none):=by
  unfold Builtin.zeroCells
  rw[Array.toList_map,Array.toList_range]
  apply List.ext_getElem?
  intro i
  rw[List.getElem?_map]
  by_cases hi:i<256
  · rw[List.getElem?_range (by show i<(255+1)*1;omega),List.getElem?_replicate,if_pos hi]
    show some (#[Value.pointer none][i%1]!)=_
    rw[Nat.mod_one];rfl
  · rw[List.getElem?_eq_none (by rw[List.length_range];show(255+1)*1≤i;omega),List.getElem?_replicate,if_neg hi];rfl
def Gz(fx:List Conf.Fwd):List (Int×Int):=fx.map fun w=>(w.proto,w.port)
def Hz(ms:List Mpg):List (Int×Int):=ms.map fun m=>(m.proto,m.ext)
def Nj(zs:List ((Int×Int×Int)×(Lse))):List (Int×Int):=zs.map fun z=>(z.1.1,z.2.ext)
theorem Abl{α β:Type}{f:α→β}{xs:List α}{k:Nat}(d:α)(d':β)(h:k<xs.length):(xs.map f).getD k d'=f (xs.getD k d):=by
  rw[List.getD_eq_getElem?_getD,List.getElem?_map,List.getD_eq_getElem?_getD,List.getElem?_eq_getElem h];rfl
theorem Aff{α:Type}{f:α→Int×Int}(d:α){xs:List α}{k:Nat}{p q:Int}(hk:k<xs.length)(hp:(f (xs.getD k d)).1=p)(hq:(f (xs.getD k d)).2=q):(xs.map f).take k++[(p,q)]=(xs.map f).take (k+1):=by
  rw[←Abj (0,0) (by rw[List.length_map];exact hk),Abl d (0,0) hk,←hp,←hq]
theorem Abm{ms:List Mpg}{k:Nat}{p q:Int}(hk:k<ms.length)(hp:(ms.getD k Ff).proto=p)(hq:(ms.getD k Ff).ext=q):(Hz ms).take k++[(p,q)]=(Hz ms).take (k+1):=Aff Ff hk hp hq
theorem Vk{α:Type}{f:α→Int×Int}{xs:List α}{k:Nat}(h:xs.length≤k):(xs.map f).take k=xs.map f:=List.take_of_length_le (by rw[List.length_map];exact h)
theorem Rc{α:Type}(d:α){xs:List α}{k:Nat}(h:k<xs.length):xs.getD k d∈xs:=by
  rw[List.getD_eq_getElem?_getD,List.getElem?_eq_getElem h];exact List.getElem_mem _
def Hs(s:NS)(tk:Nat→Option Nat)(TT:Nat→Nat→Bool):NS:={s with p:={s.p with tk:=tk,TT:=TT}}
theorem Afg{k:NK}{s:NS}(ok:NOk k s):NOk k (Hs s (fun _=>none) (D6 [])):=⟨ok.okm,ok.okf,ok.oks,ok.oki,ok.oke,ok.okw,ok.hmn,ok.hfn,ok.hmo,ok.hxn,ok.hyn,ok.hzn,ok.hwn,ok.hxs,ok.hys,ok.hzs,ok.hws,fun p _=>by show D6 [] p=_;rw[Xh]⟩
theorem Vl{k:NK}{s:NS}:Bn (Du k s) 31 (List.replicate 256 (Value.pointer none))=Du k (Hs s (fun _=>none) (D6 [])):=Vj rfl
theorem Mem.sublist{w0 w:World}{M:List Nat}{LL LL':List (List Blk)}(hs:LL'.flatten.Sublist LL.flatten)(h:Mem w0 M LL w):Mem w0 M LL' w:=by
  unfold Mem at h⊢
  exact Mem0.sub h (fun p hp=>hs.mem hp) ((Mem0.nodup h).sublist (hs.map _))
theorem Ai3{w0 w:World}{M:List Nat}{k:NK}{s:NS}{R:List (List Blk)}(h:Mem w0 M ((NG k s).set 0 (cb k.nb (Du k (Hs s (fun _=>none) (D6 []))) 91)::R) w):Mem w0 M (NG k (Hs s (fun _=>none) (D6 []))::R) w:=by
  refine Mem.sublist ?_ h
  have e1:(NG k s).set 0 (cb k.nb (Du k (Hs s (fun _=>none) (D6 []))) 91)=((Gj k (Hs s (fun _=>none) (D6 []))).take 11).flatten++(Fx s.p.tk s.p.TT++s.p.es.map Iz):=by
    rw[show Fx s.p.tk s.p.TT++s.p.es.map Iz=([Fx s.p.tk s.p.TT,s.p.es.map Iz]:List (List Blk)).flatten by simp]
    rw[←List.flatten_append];rfl
  have e2:NG k (Hs s (fun _=>none) (D6 []))=((Gj k (Hs s (fun _=>none) (D6 []))).take 11).flatten++([]++s.p.es.map Iz):=by
    rw[←Pb (D6 [])]
    rw[show Fx (fun _=>none) (D6 [])++s.p.es.map Iz=([Fx (fun _=>none) (D6 []),s.p.es.map Iz]:List (List Blk)).flatten by simp]
    rw[←List.flatten_append];rfl
  rw[List.flatten_cons,List.flatten_cons,e1,e2]
  exact List.Sublist.append (List.Sublist.append (List.Sublist.refl _) (List.Sublist.append (List.nil_sublist _) (List.Sublist.refl _))) (List.Sublist.refl _)
abbrev Q17(k:NK)(p1:Nat):List Blk:=[cb p1 [pL (some ⟨k.nb,0,none⟩)] 35]
abbrev Q18(k:NK):List Value:=[pL (some ⟨k.nb,0,none⟩)]
theorem Ym(k:NK)(s:NS)(M:List Nat)(w:World)(ok:NOk k s)(hl:Mem w M [NG k s] w)(hfr: ∀x∈k.fx,0≤x.proto∧x.proto≤255∧0≤x.port∧x.port≤65535)(hmr: ∀x∈s.p.ms,0≤x.proto∧x.proto≤255∧0≤x.ext∧x.ext≤65535)(hzr: ∀x∈s.p.zs,0≤x.1.1∧x.1.1≤255∧0≤x.2.ext∧x.2.ext≤65535)(hf0:k.fx.length=0)(hz0:s.p.zs.length=0):Calls Tryz.prog 36 #[pL (some ⟨k.nb,0,none⟩)] w (Bj w (fun tk':Nat→Option Nat=>NOk k (Hs s tk' (D6 (Gz k.fx++Hz s.p.ms++Nj s.p.zs)))) (fun _=>.tuple #[]) M (fun tk'=>[NG k (Hs s tk' (D6 (Gz k.fx++Hz s.p.ms++Nj s.p.zs)))])):=by
 obtain⟨lxs,lys,lzs,lms,lfs⟩:=NOk.len ok
 refine Ar (M:=M) (LL:=[NG k s]) (n:=61) Tryz.func36 rfl rfl A5 (hl) (Ad (fun K1 hK1=>?_))
 refine Aa (Ai rfl (Fl (v:=pL (some ⟨k.nb,0,none⟩)) (cs:=(Q18 k)) rfl rfl Ae rfl) (fun p1=>?_))
 refine Ac (hK1 _ _ _ (Ad (fun K2 hK2=>Aa (Ah (An p1 0 0 0 Tryz.isAgg35) ?_))))
 refine Ab 2 (Ah (v:=sL (some ⟨k.nb,31,none⟩) 256 256) (R1 (b:=k.nb) (o':=31) (len:=256) (sz:=1) rfl Ae Tryz.runUnderlying88 Tryz.sizeOf87) (Ai rfl (Je (t:=165) (e:=87) (ii:=(Tryz.prog.info? 87).getD default) (z:=pL none) (m:=255) (cap:=256) (o':=31) (i:=1) (j:=0) (b:=k.nb) (ty:=91) (cs:=Du k s) (cs':=Du k (Hs s (fun _=>none) (D6 []))) (zs:=List.replicate 256 (pL none)) (LL':=[Q17 k p1,(NG k s).set 0 (cb k.nb (Du k (Hs s (fun _=>none) (D6 []))) 91)]) rfl rfl Ae Ae Ae Ae rfl rfl Afe (by rw[show(Du k s).length=290 from H9 rfl,List.length_replicate];decide) (fun v hv=>by rw[List.eq_of_mem_replicate hv];rfl) Vl rfl) (fun _=>Ac (hK2 _ _ _ ?_))))
 refine Ad (fun K4 hK4=>Ad (fun K5 hK5=>?_))
 refine W.conseq (S':=Mem w M [NG k (Hs s (fun _=>none) (D6 [])),Q17 k p1]) (fun w_ h_=>Ai3 (h_.pick [1,0] Al rfl)) ?_
 have hF_:([]:List (Int×Int))=(Gz k.fx).take 0:=rfl
 have ok0_:NOk k (Hs s (fun _=>none) (D6 ((Gz k.fx).take 0))):=hF_▸(Afg ok)
 refine W.conseq (S':=Mem w M [NG k (Hs s (fun _=>none) (D6 ((Gz k.fx).take 0))),[cb p1 (Q18 k) 35]]) (fun w_ h_=>Mem.cast (LL:=[NG k (Hs s (fun _=>none) (D6 [])),[cb p1 (Q18 k) 35]]) (by rw[hF_]) h_) (Aa (Ah (An p1 0 1 0 Tryz.isAgg35) (Ab 3 (Ah (Bp (b:=k.nb) (o':=25) (i:=0) (j:=0) (cs:=Du k (Hs s (fun _=>none) (D6 ((Gz k.fx).take 0)))) (v:=sL k.gf.a k.fx.length k.gf.cap) rfl Ae Tryz.isAgg30 rfl rfl ((Cq rfl Al).trans rfl)) ?_))))
 refine Ab 2 (Ac (hK5 _ _ _ (W.block (E6 [1,16,17,18] (fun(k1:Nat) (tk1:Nat→Option Nat)=>[pV p1 0,sL k.gf.a k.fx.length k.gf.cap,nV .i64 k.fx.length,nV .i64 k1]) (fun(k1:Nat) (tk1:Nat→Option Nat)=>k1≤k.fx.length∧NOk k (Hs s tk1 (D6 ((Gz k.fx).take k1)))) (fun(k1:Nat) (tk1:Nat→Option Nat)=>[NG k (Hs s tk1 (D6 ((Gz k.fx).take k1))),Q17 k p1]) (fun(k1:Nat) (tk1:Nat→Option Nat)=>k.fx.length-k1) 0 (fun _=>none) Ae ⟨(Nat.zero_le _),ok0_⟩ (by rfl) (fun k1 tk1 f8 J7 hp9 hJ7=>?_)))))
 obtain⟨hk1,okq1⟩:=hp9
 refine Ad (fun K10 hK10=>Aa (Ab 1 (Ac (hK10 _ _ _ ?_))))
 refine Ad (fun K11 hK11=>?_)
 refine Ao (decide (((k1:Nat):Int)<(k.fx.length:Int))) Ae (fun h12=>?_) (fun h13=>?_)
 ·have qh12:=h12;try simp only[zA]at qh12
  exfalso;have z_:=of_decide_eq_true h12;omega
 ·have qh13:=h13;try simp only[zA]at qh13
  refine Cr (hK4 _ _ _ (Ad (fun K15 hK15=>Ad (fun K16 hK16=>?_))))
  have hF_:(Gz k.fx).take k1=Gz k.fx++(Hz s.p.ms).take 0:=by rw[show(Gz k.fx).take k1=Gz k.fx from Vk Ag];simp
  have ok0_:NOk k (Hs s tk1 (D6 (Gz k.fx++(Hz s.p.ms).take 0))):=hF_▸okq1
  refine W.conseq (S':=Mem w M [NG k (Hs s tk1 (D6 (Gz k.fx++(Hz s.p.ms).take 0))),[cb p1 (Q18 k) 35]]) (fun w_ h_=>Mem.cast (LL:=[NG k (Hs s tk1 (D6 ((Gz k.fx).take k1))),[cb p1 (Q18 k) 35]]) (by rw[hF_]) h_) (Aa (Ah (An p1 0 1 0 Tryz.isAgg35) (Ab 2 (Ah (Bp (b:=k.nb) (o':=28) (i:=0) (j:=0) (cs:=Du k (Hs s tk1 (D6 (Gz k.fx++(Hz s.p.ms).take 0)))) (v:=sL s.gm.a s.p.ms.length s.gm.cap) rfl Ae Tryz.isAgg56 rfl rfl ((Cq rfl Al).trans rfl)) ?_))))
  refine Ab 2 (Ac (hK16 _ _ _ (W.block (E6 [1,33,34,35] (fun(k2:Nat) (tk2:Nat→Option Nat)=>[pV p1 0,sL s.gm.a s.p.ms.length s.gm.cap,nV .i64 s.p.ms.length,nV .i64 k2]) (fun(k2:Nat) (tk2:Nat→Option Nat)=>k2≤s.p.ms.length∧NOk k (Hs s tk2 (D6 (Gz k.fx++(Hz s.p.ms).take k2)))) (fun(k2:Nat) (tk2:Nat→Option Nat)=>[NG k (Hs s tk2 (D6 (Gz k.fx++(Hz s.p.ms).take k2))),Q17 k p1]) (fun(k2:Nat) (tk2:Nat→Option Nat)=>s.p.ms.length-k2) 0 tk1 Ae ⟨(Nat.zero_le _),ok0_⟩ (by rfl) (fun k2 tk2 f19 J18 hp20 hJ18=>?_)))))
  obtain⟨hk2,okq2⟩:=hp20
  refine Ad (fun K21 hK21=>Aa (Ab 1 (Ac (hK21 _ _ _ ?_))))
  refine Ad (fun K22 hK22=>?_)
  refine Ao (decide (((k2:Nat):Int)<(s.p.ms.length:Int))) Ae (fun h23=>?_) (fun h24=>?_)
  ·have qh23:=h23;try simp only[zA]at qh23
   refine Ak (hK22 _ _ _ (Ad (fun K26 hK26=>W.block (Ad (fun K27 hK27=>?_)))))
   have hrg_:=hmr _ (Rc Ff (xs:=s.p.ms) (k:=k2) Ag)
   obtain⟨pn_,hpn_⟩: ∃n:Nat,(s.p.ms.getD k2 Ff).proto=(n:Int):=⟨_,(Int.toNat_of_nonneg Ag).symm⟩
   obtain⟨qn_,hqn_⟩: ∃n:Nat,(s.p.ms.getD k2 Ff).ext=(n:Int):=⟨_,(Int.toNat_of_nonneg Ag).symm⟩
   have hpl_:pn_<256:=by omega
   have hql_:qn_<65536:=by omega
   refine Aa (Ah (v:=Value.pointer (some (Co s.gm.a (k2*5)))) (Bm fun w_ h_=>Av (k:=.i64) (a:=s.gm.a) (len:=s.p.ms.length) (cap:=s.gm.cap) (i:=(k2:Int)) (sz:=5) rfl Ae Ae Tryz.runUnderlying56 Tryz.sizeOf26 Ag Ag ((@id (At _ s.gm.a (mm mpM s.p.ms)) (NG.ms (s:=(Hs s tk2 (D6 (Gz k.fx++(Hz s.p.ms).take k2)))) (i:=0) h_ rfl okq2)).here (by rw[B6 (g:=mpM) (sz:=5) (fun _=>rfl)];first|omega|(simp;omega)))) (Ah (v:=aV [iV .u8 ((s.p.ms.getD k2 Ff).proto),iV .u16 ((s.p.ms.getD k2 Ff).ext),iV .u16 ((s.p.ms.getD k2 Ff).to),iV .u32 ((s.p.ms.getD k2 Ff).remote),iV .u32 ((s.p.ms.getD k2 Ff).host)]) (Ys.ldN (a:=Co s.gm.a (k2*5)) (vs:=[iV .u8 ((s.p.ms.getD k2 Ff).proto),iV .u16 ((s.p.ms.getD k2 Ff).ext),iV .u16 ((s.p.ms.getD k2 Ff).to),iV .u32 ((s.p.ms.getD k2 Ff).remote),iV .u32 ((s.p.ms.getD k2 Ff).host)]) rfl Ae Tryz.isAgg26 Tryz.sizeOf26 rfl (fun w_ h_=>(@id (At _ s.gm.a (mm mpM s.p.ms)) (NG.ms (s:=(Hs s tk2 (D6 (Gz k.fx++(Hz s.p.ms).take k2)))) (i:=0) h_ rfl okq2)).ldN (Ei (g:=mpM) (sz:=5) (fun _=>rfl) Ff (xs:=s.p.ms) (k:=k2) Ag))) (Ai rfl (Bc Tryz.zeroValue26) (fun p5=>Ai rfl (A4 p5 0 0 0 [iV .u8 ((s.p.ms.getD k2 Ff).proto),iV .u16 ((s.p.ms.getD k2 Ff).ext),iV .u16 ((s.p.ms.getD k2 Ff).to),iV .u32 ((s.p.ms.getD k2 Ff).remote),iV .u32 ((s.p.ms.getD k2 Ff).host)] Tryz.sizeOf26 rfl rfl) (fun _=>?_)))))
   refine Ac (hK27 _ _ _ (Bz [(0,true),(1,true),(2,true),(4,true),(5,true),(3,false),(6,false)] [0,1,2,4,5] (fun w_=> ∃s_:NS,Mem w M [[cb p5 [iV .u8 ((s.p.ms.getD k2 Ff).proto),iV .u16 ((s.p.ms.getD k2 Ff).ext),iV .u16 ((s.p.ms.getD k2 Ff).to),iV .u32 ((s.p.ms.getD k2 Ff).remote),iV .u32 ((s.p.ms.getD k2 Ff).host)] 26],NG k s_,Q17 k p1] w_) Ae Ae Ae rfl Ae (fun _ _ h_=>h_.drawn _) (fun _ h_=>⟨_,h_⟩) (Wd.ys rfl rfl rfl (Ee (fun s_=>Bp (b:=p1) (o':=0) (i:=2) (j:=0) (v:=pL (some ⟨k.nb,0,none⟩)) rfl Ae Tryz.isAgg35 rfl rfl rfl)) (Ay 1 ?_))))
   refine Wd.ys (v:=nV .u8 pn_) rfl rfl rfl (Ee (fun s_=>Ys.conseq (v:=iV .u8 ((s.p.ms.getD k2 Ff).proto)) (Af (hpn_)) (An p5 0 0 0 Tryz.isAgg5))) (Ay 1 (Wd.ys (v:=nV .u16 qn_) rfl rfl rfl (Ee (fun s_=>Ys.conseq (v:=iV .u16 ((s.p.ms.getD k2 Ff).ext)) (Af (hqn_)) (An p5 1 0 0 Tryz.isAgg22))) (Cd rfl rfl (Au (args:= #[pL (some ⟨k.nb,0,none⟩),nV .u8 pn_]) [1] [0,2] (fun w_ hm_ hl_=>(Agr Ag okq2 hl_))) (.inr fun _ _ h_=>⟨_,h_.pick [1,0,2] Al rfl⟩) (fun pb29 hx33=>?_))))
   obtain⟨ok30,hps31⟩:=hx33
   refine Cd rfl rfl (Au (args:= #[pV pb29 0,nV .u16 qn_]) [0] [1,2] (fun w_ hm_ hl_=>(Aiu Ag Ag (E3 _ _ _) ok30 hl_))) (.inr fun _ _ h_=>⟨_,h_.pick [1,0,2] Al rfl⟩) (fun u35 ok34=>A7 (hK26 _ _ _ (Ap [0,2] Al rfl (Aa ?_))))
   refine Ah (v:=nV .i64 (k2+1)) ((Ys.p (v:=.int .i64 (Bt .i64 (k2:Int) 1))).conseq (Af (A6 Ag Ag Ag))) (Ab 1 (Ac ?_))
   have hE_:(Gz k.fx++(Hz s.p.ms).take k2)++[(((pn_:Nat):Int),(qn_:Int))]=Gz k.fx++(Hz s.p.ms).take (k2+1):=by rw[List.append_assoc];exact congrArg (fun z_=>(Gz k.fx)++z_) (Abm Ag hpn_ hqn_)
   have hT_:F5 (D6 (Gz k.fx++(Hz s.p.ms).take k2)) pn_ (P7 ((D6 (Gz k.fx++(Hz s.p.ms).take k2)) pn_) qn_)=D6 (Gz k.fx++(Hz s.p.ms).take (k2+1)):=by rw[Ui,hE_]
   refine fun w_ h_=>hJ18 (k2+1) (Ml tk2 pn_ (some pb29)) _ w_ Ag ⟨Ag,(hT_▸ok34)⟩ ?_ (Mem.cast (LL:=[NG k (Hs s (Ml tk2 pn_ (some pb29)) (F5 (D6 (Gz k.fx++(Hz s.p.ms).take k2)) pn_ (P7 ((D6 (Gz k.fx++(Hz s.p.ms).take k2)) pn_) qn_))),[cb p1 [Value.pointer (some ⟨k.nb,0,none⟩)] 35]]) (by rw[hT_]) h_)
   kernel_rfl
  ·have qh24:=h24;try simp only[zA]at qh24
   refine Cr (hK15 _ _ _ (Ad (fun K39 hK39=>?_)))
   have hF_:Gz k.fx++(Hz s.p.ms).take k2=Gz k.fx++Hz s.p.ms++(Nj s.p.zs).take 0:=by rw[show(Hz s.p.ms).take k2=Hz s.p.ms from Vk Ag];simp
   have ok0_:NOk k (Hs s tk2 (D6 (Gz k.fx++Hz s.p.ms++(Nj s.p.zs).take 0))):=hF_▸okq2
   refine W.conseq (S':=Mem w M [NG k (Hs s tk2 (D6 (Gz k.fx++Hz s.p.ms++(Nj s.p.zs).take 0))),[cb p1 (Q18 k) 35]]) (fun w_ h_=>Mem.cast (LL:=[NG k (Hs s tk2 (D6 (Gz k.fx++(Hz s.p.ms).take k2))),[cb p1 (Q18 k) 35]]) (by rw[hF_]) h_) (Aa (Ah (An p1 0 1 0 Tryz.isAgg35) (Ab 2 (Ah (Bp (b:=k.nb) (o':=30) (i:=0) (j:=0) (cs:=Du k (Hs s tk2 (D6 (Gz k.fx++Hz s.p.ms++(Nj s.p.zs).take 0)))) (v:=pL (some ⟨k.te,0,none⟩)) rfl Ae Tryz.isAgg86 rfl rfl ((Cq rfl Al).trans rfl)) ?_))))
   refine Ax rfl (Au [] [0,1] (fun w_ hm_ hl_=>(Ahw k.te _))) (fun ab40 _=>Ac (hK39 _ _ _ (W.block ?_)))
   refine Tt (σ:=(Nat→Option Nat)×(Nat→Nat→Bool)) (enc:=fun k3=>[aV [iV .u8 (((s.p.zs.getD k3 dD).1).1),iV .u32 (((s.p.zs.getD k3 dD).1).2.1),iV .u16 (((s.p.zs.getD k3 dD).1).2.2)],aV [iV .u16 (((s.p.zs.getD k3 dD).2).ext),iV .i64 (((s.p.zs.getD k3 dD).2).count)]]) (N:=s.p.zs.length) (Lu:=fun(gs_:(Nat→Option Nat)×(Nat→Nat→Bool))=>[NG k (Hs s gs_.1 gs_.2),Q17 k p1]) (Li:=[[cb ab40 [pL (some ⟨k.te,0,none⟩)] 86]]) (Lk:=[]) [1,2] [0] [] (tk2,D6 (Gz k.fx++Hz s.p.ms++(Nj s.p.zs).take 0)) (fun k3 (gs_:(Nat→Option Nat)×(Nat→Nat→Bool))=>gs_.2=D6 (Gz k.fx++Hz s.p.ms++(Nj s.p.zs).take k3)∧NOk k (Hs s gs_.1 gs_.2)) (fun c_ (gs_:(Nat→Option Nat)×(Nat→Nat→Bool))=>False) [52,53] Ae (fun _ _=>rfl) Al (by rfl) rfl rfl rfl (fun _=>rfl) (⟨rfl,ok0_⟩) (fun D_ l_ ob_ w1_ hm_=>(Ad3 s.p.zs s.ge.a s.ge.cap k.mo k.te ab40 _ w1_ (Jp (s:=(Hs s tk2 (D6 (Gz k.fx++Hz s.p.ms++(Nj s.p.zs).take 0)))) (i:=2) hm_ rfl) (@id (At _ s.ge.a (mm Fu s.p.zs)) (NG.zs (s:=(Hs s tk2 (D6 (Gz k.fx++Hz s.p.ms++(Nj s.p.zs).take 0)))) (i:=2) hm_ rfl ok0_)) Fb)) ?_ ?_ ?_
   ·intro D43 l44 ob45 ob46 k3 s48 u49 Mu50 J51 hi52 hp53 hcv54 hJ55
    obtain⟨tk3,T3⟩:=s48
    obtain⟨hT3,okq3⟩:=hp53
    have hT3:T3=D6 (Gz k.fx++Hz s.p.ms++(Nj s.p.zs).take k3):=hT3
    have okq3:NOk k (Hs s tk3 T3):=okq3
    have hrg_:=hzr _ (Rc dD (xs:=s.p.zs) (k:=k3) Ag)
    obtain⟨pn_,hpn_⟩: ∃n:Nat,(s.p.zs.getD k3 dD).1.1=(n:Int):=⟨_,(Int.toNat_of_nonneg Ag).symm⟩
    obtain⟨qn_,hqn_⟩: ∃n:Nat,(s.p.zs.getD k3 dD).2.ext=(n:Int):=⟨_,(Int.toNat_of_nonneg Ag).symm⟩
    have hpl_:pn_<256:=by omega
    have hql_:qn_<65536:=by omega
    exfalso;omega
   ·intro D56 l57 ob58 s59 hp60
    obtain⟨tk3,T3⟩:=s59
    obtain⟨hT3,okq3⟩:=hp60
    have hT3:T3=D6 (Gz k.fx++Hz s.p.ms++(Nj s.p.zs).take s.p.zs.length):=hT3
    have okq3:NOk k (Hs s tk3 T3):=okq3
    refine Jv (LL':=[[cb ab40 [Value.pointer (some ⟨k.te,0,none⟩)] 86],NG k (Hs s tk3 T3),Q17 k p1,dB D56]) [4,2,3,0] Al rfl ?_
    have hF_:T3=D6 (Gz k.fx++Hz s.p.ms++Nj s.p.zs):=by rw[hT3,show(Nj s.p.zs).take s.p.zs.length=Nj s.p.zs from Vk (Nat.le_refl _)]
    show∀w_,_→bodyPostM (Cy none) 0 Tryz.prog Tryz.f36 _ Exit.normal _ w_
    exact fun w_ h0_=>Jc (h0_.mark (i:=3) rfl).1 (by have hS_:Mem w M [[cb ab40 [Value.pointer (some ⟨k.te,0,none⟩)] 86],NG k (Hs s tk3 T3),[cb p1 [Value.pointer (some ⟨k.nb,0,none⟩)] 35],[⟨D56,.deferred none⟩]] _:=(h0_.mark (i:=3) rfl).2;exact Il rfl ⟨tk3,(by rw[←hF_];exact okq3),rfl,(Mem.cast (LL:=[NG k (Hs s tk3 T3)]) (by rw[hF_]) (hS_.pick [1] Al rfl))⟩)
   ·intro D_ l_ ob_ c_ s_ h_;exact h_.elim
def Vm(s:NS)(es:List (Nat×SesE)):NS:={s with p:={s.p with es:=es}}
def Nk(t:Hx)(x:Nat×SesE):Bool:=x.2.given&&decide (B1 (Dm x.2)=t)
def G0(t:Hx)(es:List (Nat×SesE)):Nat:=es.countP (Nk t)
structure RngE(e:SesE):Prop where
  pr:0≤e.pr∧e.pr≤255
  src:0≤e.src∧e.src≤4294967295
  dst:0≤e.dst∧e.dst≤4294967295
  frm:0≤e.frm∧e.frm≤65535
  dto:0≤e.dto∧e.dto≤65535
  ext:0≤e.ext∧e.ext≤65535
def RngF(fx:List Conf.Fwd):Prop:= ∀x∈fx,0≤x.proto∧x.proto≤255∧0≤x.port∧x.port≤65535∧0≤x.host∧x.host≤4294967295∧0≤x.dest∧x.dest≤65535
def RngM(ms:List Mpg):Prop:= ∀x∈ms,0≤x.proto∧x.proto≤255∧0≤x.ext∧x.ext≤65535∧0≤x.to∧x.to≤65535∧0≤x.host∧x.host≤4294967295
structure InvA(k:NK)(p:NP)(o:Option Int):Prop where
  tie:p.xs=p.es.map Pd
  ids: ∀i f,(i,f)∈p.ys↔ ∃x∈p.es,x.2.id=i∧Dm x.2=f
  idn:(p.es.map fun x=>x.2.id).Nodup
  lst:0≤p.lst∧ ∀x∈p.es,0≤x.2.id∧x.2.id<p.lst
  whl: ∀i t,(t,i)∈p.ws↔ ∃x∈p.es,x.2.id=i∧x.2.ends=t∧o≠some i
  lse: ∀e l,(e,l)∈p.zs→l.count=(G0 e p.es:Int)∧1≤l.count∧(0≤l.ext∧l.ext≤65535)∧ ∀x∈p.es,Nk e x=true→x.2.ext=l.ext
  lsi: ∀x∈p.es,x.2.given=true→Bl p.zs (B1 (Dm x.2))=true
  inj: ∀e l e' l',(e,l)∈p.zs→(e',l')∈p.zs→e.1=e'.1→l.ext=l'.ext→e=e'
  rng: ∀x∈p.es,RngE x.2
theorem Uj(t:Hx)(A B:List (Nat×SesE)):G0 t (A++B)=G0 t A+G0 t B:=List.countP_append
theorem Ie(t:Hx)(A B:List (Nat×SesE))(x:Nat×SesE):G0 t (A++x::B)=G0 t (A++B)+(bif Nk t x then 1 else 0):=by
  rw[Uj,Uj];unfold G0;rw[List.countP_cons];cases Nk t x<;>simp<;>omega
theorem Yn{t:Hx}{es:List (Nat×SesE)}(h:G0 t es=0): ∀x∈es,Nk t x=false:=fun x hx=>by
  have:=(List.countP_eq_zero (p:=Nk t) (l:=es)).1 h x hx
  simpa using this
theorem L5{t:Hx}{es:List (Nat×SesE)}(h:1≤G0 t es): ∃x∈es,Nk t x=true:=List.countP_pos_iff.1 h
theorem D7{t:Hx}{x:Nat×SesE}:Nk t x=true↔x.2.given=true∧B1 (Dm x.2)=t:=by unfold Nk;simp
section
variable {k:NK}{p p':NP}{o:Option Int}{A B:List (Nat×SesE)}{b:Nat}{e:SesE}
theorem InvA.srt(h:InvA k p o)(hs:Fn ordF p.xs):(p.es.map Pd).Pairwise fun p q=>ordF.lt p.1 q.1=true:=by rw[←h.tie];exact hs
theorem Uk(hs:Fn ordF ((A++(b,e)::B).map Pd)): ∀x∈A++B,Dm x.2≠Dm e:=fun x hx hf=>by
  rw[List.map_append,List.map_cons]at hs
  have h1:=List.pairwise_append.1 hs
  rcases List.mem_append.1 hx with hx|hx
  · have:=h1.2.2 (Pd x) (List.mem_map_of_mem hx) (Pd (b,e)) (List.mem_cons_self ..)
    exact ordF.ne this hf
  · have:=(List.pairwise_cons.1 h1.2.1).1 (Pd x) (List.mem_map_of_mem hx)
    exact ordF.ne this hf.symm
theorem Abn(hs:Fn ordF ((A++(b,e)::B).map Pd)):C0 ((A++(b,e)::B).map Pd) (Dm e)=(A++B).map Pd:=by
  have h:=Uk hs
  unfold C0
  rw[List.map_append,List.map_cons,List.filter_append,List.filter_cons,List.map_append]
  have h0:(!decide ((Pd (b,e)).1=Dm e))=false:=by simp[Pd]
  rw[h0]
  simp only[Bool.false_eq_true,if_false]
  congr 1
  · refine List.filter_eq_self.2 fun y hy=>?_
    obtain⟨x,hx,rfl⟩:=List.mem_map.1 hy
    simp[Pd,h x (List.mem_append_left _ hx)]
  · refine List.filter_eq_self.2 fun y hy=>?_
    obtain⟨x,hx,rfl⟩:=List.mem_map.1 hy
    simp[Pd,h x (List.mem_append_right _ hx)]
theorem Pe(hn:((A++(b,e)::B).map fun x=>x.2.id).Nodup): ∀x∈A++B,x.2.id≠e.id:=fun x hx hi=>by
  have h1:(((b,e)::(A++B)).map fun x=>x.2.id).Nodup:=(List.perm_middle.map _).nodup_iff.1 hn
  rw[List.map_cons,List.nodup_cons]at h1
  exact h1.1 (by rw[←hi];exact List.mem_map_of_mem hx)
theorem Cf{x y:Nat×SesE}:y∈A++x::B↔y=x∨y∈A++B:=by simp only[List.mem_append,List.mem_cons];constructor<;>(intro h;rcases h with h|h|h<;>simp_all)
theorem InvA.dropI(h:InvA k p o)(hs:Fn ordF p.xs)(hz:Fn Ca p.zs)(hw:(Cu p.ws).Nodup)(he:p.es=A++(b,e)::B)(ho:o=none∨o=some e.id){pb:Nat}(hp:p'=Et k {p with es:=A++B} e pb):InvA k p' none∧p'.es=A++B∧p'.ms=p.ms∧p'.lst=p.lst:=by
  have hidn:=h.idn;rw[he]at hidn
  have hid:=Pe hidn
  have hsx:=h.srt hs;rw[he]at hsx
  have ex:p'.xs=(A++B).map Pd:=by
    have:p'.xs=C0 p.xs (Dm e):=by subst hp;unfold Et;cases e.given<;>simp only[cond_true,cond_false];cases(decide ((Bo (⟨0,0⟩:Lse) p.zs (B1 (Dm e))).count-1>0))<;>rfl
    rw[this,h.tie,he];exact Abn hsx
  have ey:p'.ys=C0 p.ys e.id:=by subst hp;unfold Et;cases e.given<;>simp only[cond_true,cond_false];cases(decide ((Bo (⟨0,0⟩:Lse) p.zs (B1 (Dm e))).count-1>0))<;>rfl
  have ew:p'.ws=Fj p.ws e.id:=by subst hp;unfold Et;cases e.given<;>simp only[cond_true,cond_false];cases(decide ((Bo (⟨0,0⟩:Lse) p.zs (B1 (Dm e))).count-1>0))<;>rfl
  have ee:p'.es=A++B:=by subst hp;unfold Et;cases e.given<;>simp only[cond_true,cond_false];cases(decide ((Bo (⟨0,0⟩:Lse) p.zs (B1 (Dm e))).count-1>0))<;>rfl
  have em:p'.ms=p.ms:=by subst hp;unfold Et;cases e.given<;>simp only[cond_true,cond_false];cases(decide ((Bo (⟨0,0⟩:Lse) p.zs (B1 (Dm e))).count-1>0))<;>rfl
  have el:p'.lst=p.lst:=by subst hp;unfold Et;cases e.given<;>simp only[cond_true,cond_false];cases(decide ((Bo (⟨0,0⟩:Lse) p.zs (B1 (Dm e))).count-1>0))<;>rfl
  have ez:p'.zs=bif e.given then(bif decide ((Bo (⟨0,0⟩:Lse) p.zs (B1 (Dm e))).count-1>0)then Db Ca k.mo p.zs (B1 (Dm e)) (⟨(Bo (⟨0,0⟩:Lse) p.zs (B1 (Dm e))).ext,(Bo (⟨0,0⟩:Lse) p.zs (B1 (Dm e))).count-1⟩:Lse)else C0 p.zs (B1 (Dm e)))else p.zs:=by
    subst hp;unfold Et;cases e.given<;>simp only[cond_true,cond_false];cases(decide ((Bo (⟨0,0⟩:Lse) p.zs (B1 (Dm e))).count-1>0))<;>rfl
  have hin: ∀x,x∈A++B→x∈p.es:=fun x hx=>by rw[he];exact Cf.2 (.inr hx)
  have hbe:(b,e)∈p.es:=by rw[he];exact Cf.2 (.inl rfl)
  refine⟨⟨ex.trans (by rw[ee]),?_,?_,?_,?_,?_,?_,?_,?_⟩,ee,em,el⟩
  · intro i f
    rw[ey,ee,G4,h.ids]
    constructor
    · rintro⟨⟨x,hx,h1,h2⟩,h3⟩
      rw[he]at hx
      rcases Cf.1 hx with rfl|hx
      · exact absurd h1.symm h3
      · exact⟨x,hx,h1,h2⟩
    · rintro⟨x,hx,h1,h2⟩
      exact⟨⟨x,hin x hx,h1,h2⟩,by rw[←h1];exact hid x hx⟩
  · rw[ee]
    have h1:(((b,e)::(A++B)).map fun x=>x.2.id).Nodup:=(List.perm_middle.map _).nodup_iff.1 hidn
    exact(List.nodup_cons.1 h1).2
  · rw[el,ee];exact⟨h.lst.1,fun x hx=>h.lst.2 x (hin x hx)⟩
  · intro i t
    rw[ew,ee,O1 hw,h.whl]
    constructor
    · rintro⟨⟨x,hx,h1,h2,h3⟩,h4⟩
      rw[he]at hx
      rcases Cf.1 hx with rfl|hx
      · exact absurd h1.symm h4
      · exact⟨x,hx,h1,h2,by simp⟩
    · rintro⟨x,hx,h1,h2,_⟩
      refine⟨⟨x,hin x hx,h1,h2,?_⟩,by show i≠e.id;rw[←h1];exact hid x hx⟩
      rcases ho with ho|ho
      · rw[ho];simp
      · rw[ho];intro hh;exact hid x hx (by rw[h1];exact(Option.some.inj hh).symm)
  · --the leases
    intro t l hl
    rw[ez]at hl;rw[ee]
    have hmid:G0 t p.es=G0 t (A++B)+(bif Nk t (b,e)then 1 else 0):=by rw[he];exact Ie t A B (b,e)
    cases hg:e.given with
    |false=>
      rw[hg]at hl
      have hgv:Nk t (b,e)=false:=by unfold Nk;simp[hg]
      rw[hgv]at hmid
      obtain⟨h1,h2,h3,h4⟩:=h.lse t l hl
      simp only[cond_false]at hmid
      exact⟨by omega,h2,h3,fun x hx=>h4 x (hin x hx)⟩
    |true=>
      rw[hg]at hl
      have hk:Bl p.zs (B1 (Dm e))=true:=h.lsi (b,e) hbe hg
      have hm:=D5 (v0:=(⟨0,0⟩:Lse)) hk
      obtain⟨g1,g2,g3,g4⟩:=h.lse _ _ hm
      have hcm:G0 (B1 (Dm e)) p.es=G0 (B1 (Dm e)) (A++B)+1:=by
        have:=Ie (B1 (Dm e)) A B (b,e);rw[←he]at this
        rw[this,(D7 (t:=B1 (Dm e)) (x:=(b,e))).2 ⟨hg,rfl⟩];rfl
      simp only[cond_true]at hl
      cases hc:decide ((Bo (⟨0,0⟩:Lse) p.zs (B1 (Dm e))).count-1>0)with
      |true=>
        rw[hc]at hl
        simp only[cond_true]at hl
        unfold Db at hl;rw[hk]at hl
        simp only[cond_true]at hl
        rcases(C7 hz).1 hl with hl|⟨hl,hne⟩
        · obtain⟨rfl,rfl⟩:=Prod.mk.inj hl
          have:=of_decide_eq_true hc
          exact⟨by simp only;omega,by simp only;omega,g3,fun x hx=>g4 x (hin x hx)⟩
        · obtain⟨h1,h2,h3,h4⟩:=h.lse t l hl
          have hgv:Nk t (b,e)=false:=by
            cases hh:Nk t (b,e)with
            |false=>rfl
            |true=>exact absurd (D7.1 hh).2.symm hne
          rw[hgv]at hmid;simp only[cond_false]at hmid
          exact⟨by omega,h2,h3,fun x hx=>h4 x (hin x hx)⟩
      |false=>
        rw[hc]at hl
        simp only[cond_false]at hl
        obtain⟨hl,hne⟩:=G4.1 hl
        obtain⟨h1,h2,h3,h4⟩:=h.lse t l hl
        have hgv:Nk t (b,e)=false:=by
          cases hh:Nk t (b,e)with
          |false=>rfl
          |true=>exact absurd (D7.1 hh).2.symm hne
        rw[hgv]at hmid;simp only[cond_false]at hmid
        exact⟨by omega,h2,h3,fun x hx=>h4 x (hin x hx)⟩
  · --who is given its port has a lease
    intro x hx hxg
    rw[ee]at hx;rw[ez]
    have h1:=h.lsi x (hin x hx) hxg
    cases hg:e.given with
    |false=>exact h1
    |true=>
      have hk:Bl p.zs (B1 (Dm e))=true:=h.lsi (b,e) hbe hg
      have hm:=D5 (v0:=(⟨0,0⟩:Lse)) hk
      obtain⟨g1,g2,g3,g4⟩:=h.lse _ _ hm
      have hcm:G0 (B1 (Dm e)) p.es=G0 (B1 (Dm e)) (A++B)+1:=by
        have:=Ie (B1 (Dm e)) A B (b,e);rw[←he]at this
        rw[this,(D7 (t:=B1 (Dm e)) (x:=(b,e))).2 ⟨hg,rfl⟩];rfl
      simp only[cond_true]
      obtain⟨v,hv⟩:=Fc.1 h1
      cases hc:decide ((Bo (⟨0,0⟩:Lse) p.zs (B1 (Dm e))).count-1>0)with
      |true=>
        simp only[cond_true]
        unfold Db;rw[hk]
        simp only[cond_true]
        by_cases heq:B1 (Dm x.2)=B1 (Dm e)
        · exact Fc.2 ⟨_,(C7 hz).2 (.inl (by rw[heq]))⟩
        · exact Fc.2 ⟨v,(C7 hz).2 (.inr ⟨hv,heq⟩)⟩
      |false=>
        simp only[cond_false]
        have hc':=of_decide_eq_false hc
        have h0:G0 (B1 (Dm e)) (A++B)=0:=by omega
        have hne:B1 (Dm x.2)≠B1 (Dm e):=fun heq=>by
          have:=Yn h0 x hx
          rw[D7.2 ⟨hxg,heq⟩]at this;cases this
        exact Fc.2 ⟨v,G4.2 ⟨hv,hne⟩⟩
  · --no port is two ends'
    have hsub: ∀t l,(t,l)∈p'.zs→ ∃l',(t,l')∈p.zs∧l'.ext=l.ext:=fun t l hl=>by
      rw[ez]at hl
      cases hg:e.given with
      |false=>rw[hg]at hl;exact⟨l,hl,rfl⟩
      |true=>
        rw[hg]at hl
        have hk:Bl p.zs (B1 (Dm e))=true:=h.lsi (b,e) hbe hg
        have hm:=D5 (v0:=(⟨0,0⟩:Lse)) hk
        simp only[cond_true]at hl
        cases hc:decide ((Bo (⟨0,0⟩:Lse) p.zs (B1 (Dm e))).count-1>0)with
        |true=>
          rw[hc]at hl;simp only[cond_true]at hl
          unfold Db at hl;rw[hk]at hl
          simp only[cond_true]at hl
          rcases(C7 hz).1 hl with hl|⟨hl,_⟩
          · obtain⟨rfl,rfl⟩:=Prod.mk.inj hl;exact⟨_,hm,rfl⟩
          · exact⟨l,hl,rfl⟩
        |false=>rw[hc]at hl;exact⟨l,(G4.1 hl).1,rfl⟩
    intro t l t' l' h1 h2 h3 h4
    obtain⟨a,ha,ea⟩:=hsub t l h1
    obtain⟨a',ha',ea'⟩:=hsub t' l' h2
    exact h.inj t a t' a' ha ha' h3 (by rw[ea,ea',h4])
  · rw[ee];exact fun x hx=>h.rng x (hin x hx)
end
theorem G5{α:Type} [DecidableEq α]: ∀{l l':List α},l.Nodup→(∀x∈l,x∈l')→l.length≤l'.length
  | [],_,_,_=>Nat.zero_le _
  |x::l,l',hn,hs=>by
    have hn':=List.nodup_cons.1 hn
    have hx:=hs x (List.mem_cons_self ..)
    have h1:l.length≤(l'.erase x).length:=G5 hn'.2 fun y hy=>(List.mem_erase_of_ne (fun e=>hn'.1 (by rw[←e];exact hy))).2 (hs y (List.mem_cons_of_mem _ hy))
    have h2:=List.length_erase_of_mem hx
    have h3:=List.length_pos_of_mem hx
    simp only[List.length_cons];omega
theorem Rd{K V:Type} [DecidableEq K]{o:LO K}{xs:List (K×V)}(h:Fn o xs):(xs.map Prod.fst).Nodup:=by
  unfold List.Nodup
  rw[List.pairwise_map]
  exact h.imp fun hlt=>o.ne hlt
section
variable {k:NK}{p p':NP}{o:Option Int}{A B:List (Nat×SesE)}{b:Nat}{e e':SesE}{now:Int}{out:Bool}
theorem InvA.xln(h:InvA k p o):p.xs.length=p.es.length:=by rw[h.tie,List.length_map]
theorem InvA.yln(h:InvA k p o)(hs:Fn LO.int p.ys):p.ys.length≤p.es.length:=by
  have h1:=G5 (l':=p.es.map fun x=>x.2.id) (Rd hs) (fun i hi=>by
    obtain⟨q,hq,rfl⟩:=List.mem_map.1 hi
    obtain⟨x,hx,h1,_⟩:=(h.ids q.1 q.2).1 hq
    exact List.mem_map.2 ⟨x,hx,h1⟩)
  simpa using h1
theorem InvA.wln(h:InvA k p o)(hw:OkS p.ws):p.ws.length≤p.es.length:=by
  have h1:=G5 (l':=p.es.map fun x=>x.2.id) hw.nd (fun i hi=>by
    unfold Cu at hi
    obtain⟨q,hq,rfl⟩:=List.mem_map.1 hi
    obtain⟨x,hx,h1,_⟩:=(h.whl q.2 q.1).1 hq
    exact List.mem_map.2 ⟨x,hx,h1⟩)
  rw[F3,List.length_map]at h1;exact h1
theorem InvA.zln(h:InvA k p o)(hs:Fn Ca p.zs):p.zs.length≤p.es.length:=by
  have h1:=G5 (l':=p.es.map fun x=>B1 (Dm x.2)) (Rd hs) (fun t ht=>by
    obtain⟨q,hq,rfl⟩:=List.mem_map.1 ht
    obtain⟨h1,h2,_⟩:=h.lse q.1 q.2 hq
    obtain⟨x,hx,hg⟩:=L5 (t:=q.1) (es:=p.es) Ag
    exact List.mem_map.2 ⟨x,hx,(D7.1 hg).2⟩)
  simpa using h1
theorem RenE.fl(hr:RenE e now out e'):Dm e'=Dm e:=by unfold Dm;rw[hr.pr,hr.src,hr.dst,hr.frm,hr.dto]
theorem RenE.gv(hr:RenE e now out e')(t:Hx):Nk t (b,e')=Nk t (b,e):=by unfold Nk;simp only[hr.given,hr.fl]
theorem RenE.rng(hr:RenE e now out e')(h:RngE e):RngE e':=⟨by rw[hr.pr];exact h.pr,by rw[hr.src];exact h.src,by rw[hr.dst];exact h.dst,by rw[hr.frm];exact h.frm,by rw[hr.dto];exact h.dto,by rw[hr.ext];exact h.ext⟩
theorem InvA.renew(h:InvA k p o)(hw:OkS p.ws)(he:p.es=A++(b,e)::B)(ho:o=none∨o=some e.id)(hr:RenE e now out e'):InvA k {p with ws:=I2 p.ws e.id e'.ends,es:=A++(b,e')::B} none:=by
  have hidn:=h.idn;rw[he]at hidn
  have hid:=Pe hidn
  have hin: ∀x,x∈A++B→x∈p.es:=fun x hx=>by rw[he];exact Cf.2 (.inr hx)
  have hbe:(b,e)∈p.es:=by rw[he];exact Cf.2 (.inl rfl)
  have hc: ∀t,G0 t (A++(b,e')::B)=G0 t p.es:=fun t=>by rw[he,Ie,Ie,hr.gv]
  refine⟨?_,?_,?_,?_,?_,?_,?_,h.inj,?_⟩
  · show p.xs=_
    rw[h.tie,he,List.map_append,List.map_append,List.map_cons,List.map_cons]
    rw[show Pd (b,e')=Pd (b,e) by unfold Pd;rw[hr.fl]]
  · intro i f
    show(i,f)∈p.ys↔_
    rw[h.ids,he]
    constructor
    · rintro⟨x,hx,h1,h2⟩
      rcases Cf.1 hx with rfl|hx
      · exact⟨(b,e'),Cf.2 (.inl rfl),by rw[←h1];exact hr.id,by rw[←h2];exact hr.fl⟩
      · exact⟨x,Cf.2 (.inr hx),h1,h2⟩
    · rintro⟨x,hx,h1,h2⟩
      rcases Cf.1 hx with rfl|hx
      · exact⟨(b,e),Cf.2 (.inl rfl),by rw[←h1];exact hr.id.symm,by rw[←h2];exact hr.fl.symm⟩
      · exact⟨x,Cf.2 (.inr hx),h1,h2⟩
  · show((A++(b,e')::B).map fun x=>x.2.id).Nodup
    have:(A++(b,e')::B).map (fun x=>x.2.id)=(A++(b,e)::B).map (fun x=>x.2.id):=by simp only[List.map_append,List.map_cons,hr.id]
    rw[this];exact hidn
  · refine⟨h.lst.1,fun x hx=>?_⟩
    rcases Cf.1 hx with rfl|hx
    · show 0≤e'.id∧e'.id<p.lst;rw[hr.id];exact h.lst.2 _ hbe
    · exact h.lst.2 x (hin x hx)
  · intro i t
    show(t,i)∈I2 p.ws e.id e'.ends↔_
    rw[Aaa hw,h.whl,he]
    constructor
    · rintro(h1|⟨⟨x,hx,h1,h2,h3⟩,h4⟩)
      · obtain⟨rfl,rfl⟩:=Prod.mk.inj h1
        exact⟨(b,e'),Cf.2 (.inl rfl),hr.id,rfl,by simp⟩
      · rcases Cf.1 hx with rfl|hx
        · exact absurd h1.symm h4
        · exact⟨x,Cf.2 (.inr hx),h1,h2,by simp⟩
    · rintro⟨x,hx,h1,h2,_⟩
      rcases Cf.1 hx with rfl|hx
      · left;rw[←h1,←h2];show(e'.ends,e'.id)=_;rw[hr.id]
      · right
        have hne:i≠e.id:=by rw[←h1];exact hid x hx
        refine⟨⟨x,Cf.2 (.inr hx),h1,h2,?_⟩,hne⟩
        rcases ho with ho|ho
        · rw[ho];simp
        · rw[ho];intro hh;exact hne (Option.some.inj hh).symm
  · intro t l hl
    obtain⟨h1,h2,h3,h4⟩:=h.lse t l hl
    refine⟨by rw[hc];exact h1,h2,h3,fun x hx hg=>?_⟩
    rcases Cf.1 hx with rfl|hx
    · rw[hr.gv]at hg;show e'.ext=l.ext;rw[hr.ext];exact h4 _ hbe hg
    · exact h4 x (hin x hx) hg
  · intro x hx hg
    rcases Cf.1 hx with rfl|hx
    · show Bl p.zs (B1 (Dm e'))=true
      rw[hr.fl];exact h.lsi (b,e) hbe (by rw[←hg];exact hr.given.symm)
    · exact h.lsi x (hin x hx) hg
  · intro x hx
    rcases Cf.1 hx with rfl|hx
    · exact hr.rng (h.rng _ hbe)
    · exact h.rng x (hin x hx)
end
end Go.Proofs.YtmonlaoaengfdaaGreatDoor.Oct
