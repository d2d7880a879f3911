import Derived.Test.YtmonlaoaengfdaaGreatDoorM14
import Derived.Test.YtmonlaoaengfdaaGreatDoorM17
set_option linter.unusedVariables false
set_option linter.unusedSimpArgs false
set_option maxRecDepth 20000
namespace Go.Proofs.YtmonlaoaengfdaaGreatDoor.Oct
open Go.RowKit Base
attribute [local irreducible] Ys Yc Ht HtS HtIn Wl Wd W Mem pf D4 Wa Wo
open Conf (Fwd fwv)
structure Cll where
  kd:Int
  (tt pr:UInt8)
  (id s d:Nat)
  a:Option Addr
  cap:Nat
  xs:List UInt8
  (tick draw:Nat)
  ma:Option Addr
  (ml mc:Nat)
abbrev As:Cll:=⟨0,0,0,0,0,0,none,0,[],0,0,none,0,0⟩
instance :Inhabited Cll:=⟨As⟩
def Oe(x:Cll):List Value:=[Value.int .i64 x.kd,Value.int .u8 (x.tt.toNat:Int),Value.int .u8 (x.pr.toNat:Int),Value.int .u16 (x.id:Int),Value.int .u32 (x.s:Int),Value.int .u32 (x.d:Int),Value.slice x.a x.xs.length x.cap,Value.int .u64 (x.tick:Int),Value.int .u64 (x.draw:Int),Value.slice x.ma x.ml x.mc]
theorem Agd(x:Cll):(Oe x).length=10:=rfl
theorem Age(x:Cll): ∀v∈Oe x,v.oneCell'=true:=by simp[Oe,Value.oneCell']
theorem Uq(xs:List Cll):(mm Oe xs).length=xs.length*10:=B6 Agd xs
structure ClOK(w:World)(x:Cll):Prop where
  at':At w x.a (Ci x.xs)
  id:x.id<65536
  s:x.s<4294967296
  d:x.d<4294967296
  cap:x.xs.length≤x.cap
  tick:x.tick<18446744073709551616
  draw:x.draw<18446744073709551616
theorem ClOK.mem{w w1:World}{LL:List (List Blk)}{x:Cll}(h:ClOK w x)(hm:Mem w [] LL w1):ClOK w1 x:=⟨h.at'.mem0 hm,h.id,h.s,h.d,h.cap,h.tick,h.draw⟩
theorem Ag6{w:World}{os:List Cll}(h: ∀x∈os,ClOK w x)(i:Nat):ClOK w (os.getD i As):=by
  by_cases hi:i<os.length
  · rw[List.getD_eq_getElem?_getD,List.getElem?_eq_getElem hi];exact h _ (List.getElem_mem hi)
  · rw[List.getD_eq_getElem?_getD,List.getElem?_eq_none Ag]
    exact⟨At.nil _ _,by decide,by decide,by decide,by decide,by decide,by decide⟩
def grQ(x:Cll):Bool:=decide (((x.xs.length:Nat):Int)>2000)||decide (((x.ml:Nat):Int)>20)
def grt(os:List Cll):Bool:=decide (((os.length:Nat):Int)>100)||os.any grQ
theorem Agg{α:Type}{q:α→Bool}(d:α){xs:List α}:xs.any q=false↔ ∀j,j<xs.length→q (xs.getD j d)=false:=by
  rw[List.any_eq_false]
  constructor
  · intro h j hj
    have:=h (xs.getD j d) (by rw[List.getD_eq_getElem?_getD,List.getElem?_eq_getElem hj];exact List.getElem_mem hj)
    simpa using this
  · intro h x hx
    obtain⟨j,hj,rfl⟩:=List.getElem_of_mem hx
    have:=h j hj
    rw[List.getD_eq_getElem?_getD,List.getElem?_eq_getElem hj]at this
    simpa using this
theorem Aj7{os:List Cll}(h:grt os=false):os.length≤100∧ ∀x∈os,x.xs.length≤2000:=by
  unfold grt at h
  rw[Bool.or_eq_false_iff]at h
  have h1:=of_decide_eq_false h.1
  refine⟨by omega,fun x hx=>?_⟩
  have h2:=List.any_eq_false.1 h.2 x hx
  unfold grQ at h2
  simp only[Bool.or_eq_true,decide_eq_true_eq,not_or]at h2
  omega
theorem Agh{os:List Cll}{i:Nat}(hi:i<os.length)(h:grQ (os.getD i As)=true):grt os=true:=by
  unfold grt
  rw[List.any_eq_true.2 ⟨os.getD i As,by rw[List.getD_eq_getElem?_getD,List.getElem?_eq_getElem hi];exact List.getElem_mem hi,h⟩,Bool.or_true]
theorem Agi(os:List Cll)(na:Option Addr)(ncap:Nat)(w:World)(hos:At w na (mm Oe os))(hon:os.length≤9223372036854775807):Calls Tryz.prog 17 #[sL na os.length ncap] w (Dc w (.bool (grt os))):=by
 refine Ar (M:=[]) (LL:=[]) (n:=26) Tryz.func17 rfl rfl A5 (Mem.refl _) (Ad (fun K1 hK1=>?_))
 refine Aa (Ab 1 (Ac (hK1 _ _ _ (Ad (fun K2 hK2=>?_)))))
 refine Ad (fun K3 hK3=>Aa (Ab 3 (Ac (hK3 _ _ _ ?_))))
 refine Ao (decide (((os.length:Nat):Int)>100)) Ae (fun h5=>?_) (fun h6=>?_)
 ·refine Ad (fun K7 hK7=>Aa (Ab 1 (Ac (hK7 _ _ _ ?_))))
  refine Aq (fn:=Tryz.f17) rfl (fun w_ hS_=>Bb rfl (Aw (bV true)) hS_ ⟨by clear hK1 hK2 hK3 hK7;refine congrArg Ending.returned ?_;exact Cj (by unfold grt;rw[h5];rfl),hS_.below⟩)
 ·have qh6:=h6;try simp only[zA]at qh6
  refine Ak (hK2 _ _ _ (Ad (fun K9 hK9=>Ad (fun K10 hK10=>Aa ?_))))
  refine Ab 3 (Ac (hK10 _ _ _ (W.block (Ep [8,9,10] (fun(i:Nat)=>[sL na os.length ncap,nV .i64 os.length,nV .i64 i]) (fun(i:Nat)=>i≤os.length∧ ∀j,j<i→grQ (os.getD j As)=false) (fun(i:Nat)=>[]) (fun(i:Nat)=>os.length-i) 0 Ae ⟨(Nat.zero_le _),(fun j hj=>absurd hj (Nat.not_lt_zero j))⟩ (by rfl) (fun i f13 J12 hp14 hJ12=>?_)))))
  obtain⟨hi,hno⟩:=hp14
  refine Ad (fun K15 hK15=>Aa (Ab 1 (Ac (hK15 _ _ _ ?_))))
  refine Ad (fun K16 hK16=>?_)
  refine Ao (decide (((i:Nat):Int)<(os.length:Int))) Ae (fun h17=>?_) (fun h18=>?_)
  ·have qh17:=h17;try simp only[zA]at qh17
   refine Ak (hK16 _ _ _ (Ad (fun K20 hK20=>W.block (Ad (fun K21 hK21=>?_)))))
   refine Aa (Ah (v:=Value.pointer (some (Co na (i*10)))) (Bm fun w_ h_=>Av (k:=.i64) (a:=na) (len:=os.length) (cap:=ncap) (i:=(i:Int)) (sz:=10) rfl Ae Ae Tryz.runUnderlying53 Tryz.sizeOf58 Ag Ag ((hos.mem0 h_).here (by rw[B6 (g:=Oe) (sz:=10) (fun _=>rfl)];first|omega|(simp;omega)))) (Ah (v:=aV [iV .i64 ((os.getD i As).kd),nV .u8 ((os.getD i As).tt.toNat),nV .u8 ((os.getD i As).pr.toNat),nV .u16 ((os.getD i As).id),nV .u32 ((os.getD i As).s),nV .u32 ((os.getD i As).d),Value.slice ((os.getD i As).a) ((os.getD i As).xs.length) ((os.getD i As).cap),nV .u64 ((os.getD i As).tick),nV .u64 ((os.getD i As).draw),Value.slice ((os.getD i As).ma) ((os.getD i As).ml) ((os.getD i As).mc)]) (Ys.ldN (a:=Co na (i*10)) (vs:=[iV .i64 ((os.getD i As).kd),nV .u8 ((os.getD i As).tt.toNat),nV .u8 ((os.getD i As).pr.toNat),nV .u16 ((os.getD i As).id),nV .u32 ((os.getD i As).s),nV .u32 ((os.getD i As).d),Value.slice ((os.getD i As).a) ((os.getD i As).xs.length) ((os.getD i As).cap),nV .u64 ((os.getD i As).tick),nV .u64 ((os.getD i As).draw),Value.slice ((os.getD i As).ma) ((os.getD i As).ml) ((os.getD i As).mc)]) rfl Ae Tryz.isAgg58 Tryz.sizeOf58 rfl (fun w_ h_=>(hos.mem0 h_).ldN (Ei (g:=Oe) (sz:=10) (fun _=>rfl) As (xs:=os) (k:=i) Ag))) (Ai rfl (Bc Tryz.zeroValue58) (fun p4=>Ai rfl (A4 p4 0 0 0 [iV .i64 ((os.getD i As).kd),nV .u8 ((os.getD i As).tt.toNat),nV .u8 ((os.getD i As).pr.toNat),nV .u16 ((os.getD i As).id),nV .u32 ((os.getD i As).s),nV .u32 ((os.getD i As).d),Value.slice ((os.getD i As).a) ((os.getD i As).xs.length) ((os.getD i As).cap),nV .u64 ((os.getD i As).tick),nV .u64 ((os.getD i As).draw),Value.slice ((os.getD i As).ma) ((os.getD i As).ml) ((os.getD i As).mc)] Tryz.sizeOf58 rfl rfl) (fun _=>?_)))))
   refine Ac (hK21 _ _ _ (Ad (fun K23 hK23=>Aa (Ab 2 ?_))))
   refine Ah (An p4 6 0 0 Tryz.isAgg38) (Ab 3 ?_)
   refine Am (v:=pV p4 9) (!(decide ((((os.getD i As).xs.length:Nat):Int)>2000))) rfl (B3 rfl Ae) rfl (fun hg24=>?_) ?_
   ·exact Ys.p
   refine Am (v:=sL ((os.getD i As).ma) ((os.getD i As).ml) ((os.getD i As).mc)) (!(decide ((((os.getD i As).xs.length:Nat):Int)>2000))) rfl (B3 rfl Ae) rfl (fun hg25=>?_) ?_
   ·have qhg25:=hg25;try simp only[zA]at qhg25
    refine Bh (t:=20) (v0:=pV p4 9) (lz (g:= !(decide ((((os.getD i As).xs.length:Nat):Int)>2000))) (u:=undef) hg25 Ae) ?_
    exact An p4 9 0 0 Tryz.isAgg56
   refine Am (v:=nV .i64 ((os.getD i As).ml)) (!(decide ((((os.getD i As).xs.length:Nat):Int)>2000))) rfl (B3 rfl Ae) rfl (fun hg26=>?_) ?_
   ·have qhg26:=hg26;try simp only[zA]at qhg26
    refine Bh (t:=21) (v0:=sL ((os.getD i As).ma) ((os.getD i As).ml) ((os.getD i As).mc)) (lz (g:= !(decide ((((os.getD i As).xs.length:Nat):Int)>2000))) (u:=undef) hg26 Ae) ?_
    exact Ys.p
   refine Am (v:=bV (decide ((((os.getD i As).ml:Nat):Int)>20))) (!(decide ((((os.getD i As).xs.length:Nat):Int)>2000))) rfl (B3 rfl Ae) rfl (fun hg27=>?_) ?_
   ·have qhg27:=hg27;try simp only[zA]at qhg27
    refine Bh (t:=22) (v0:=nV .i64 ((os.getD i As).ml)) (lz (g:= !(decide ((((os.getD i As).xs.length:Nat):Int)>2000))) (u:=undef) hg27 Ae) ?_
    exact Ys.p
   refine Ah (v:=bV ((decide ((((os.getD i As).xs.length:Nat):Int)>2000))||(decide ((((os.getD i As).ml:Nat):Int)>20)))) (Dr (e:=decide ((((os.getD i As).xs.length:Nat):Int)>2000)) (b:=decide ((((os.getD i As).ml:Nat):Int)>20)) rfl Ae Ae Ae) (Ac (hK23 _ _ _ ?_))
   refine Ao ((decide ((((os.getD i As).xs.length:Nat):Int)>2000))||(decide ((((os.getD i As).ml:Nat):Int)>20))) Ae (fun h29=>?_) (fun h30=>?_)
   ·have qh29:=h29;try simp only[zA]at qh29
    refine Ad (fun K31 hK31=>Aa (Ab 1 (Ac (hK31 _ _ _ ?_))))
    refine Aq (fn:=Tryz.f17) rfl (fun w_ hS_=>Bb rfl (Aw (bV true)) hS_ ⟨by clear hK1 hK2 hK3 hK9 hK10 hJ12 hK15 hK16 hK20 hK21 hK23 hK31;refine congrArg Ending.returned ?_;exact Cj (Agh (i:=i) Ag (show grQ (os.getD i As)=true from h29)).symm,hS_.below⟩)
   ·have qh30:=h30;try simp only[zA]at qh30
    refine Ak (hK20 _ _ _ (Aa (Ah (v:=nV .i64 (i+1)) ((Ys.p (v:=.int .i64 (Bt .i64 (i:Int) 1))).conseq (Af (A6 Ag Ag Ag))) (Ab 1 ?_))))
    refine Ac ?_
    refine fun w_ h_=>hJ12 (i+1) _ w_ Ag ⟨Ag,(fun j hj=>(Nat.lt_succ_iff_lt_or_eq.1 hj).elim (hno j) (fun e_=>by subst e_;exact h30))⟩ ?_ (h_.pick [] Al rfl)
    kernel_rfl
  ·have qh18:=h18;try simp only[zA]at qh18
   refine Cr (hK9 _ _ _ (Ad (fun K34 hK34=>Aa (Ab 1 ?_))))
   refine Ac (hK34 _ _ _ (Aq (fn:=Tryz.f17) rfl (fun w_ hS_=>Bb rfl (Aw (bV false)) hS_ ⟨by clear hK1 hK2 hK3 hK9 hK10 hJ12 hK15 hK16 hK34;refine congrArg Ending.returned ?_;exact Cj (by unfold grt;rw[h6,(Agg As).2 (fun j hj=>hno j Ag)];rfl),hS_.below⟩)))
def kqB(x:Cll):Bool:=decide ((((x.kd%8).toNat:Nat):Int)>0)
theorem Aj8{os:List Cll}(h: ∀x∈os,kqB x=true){i:Nat}(hi:i<os.length): ¬(((os.getD i As).kd%8).toNat:Int)=0:=by
  have:=h (os.getD i As) (by rw[List.getD_eq_getElem?_getD,List.getElem?_eq_getElem hi];exact List.getElem_mem hi)
  unfold kqB at this;rw[decide_eq_true_eq]at this;omega
theorem Aj9{os:List Cll}(h: ∀x∈os,x.xs.length≤2000)(i:Nat):(os.getD i As).xs.length≤100000:=by
  by_cases hi:i<os.length
  · have:=h (os.getD i As) (by rw[List.getD_eq_getElem?_getD,List.getElem?_eq_getElem hi];exact List.getElem_mem hi)
    omega
  · rw[List.getD_eq_getElem?_getD,List.getElem?_eq_none Ag];decide
abbrev Q2z:List Value:=[iV .u8 2,iV .u8 0,iV .u8 0,iV .u8 0,iV .u8 0,iV .u8 1,iV .u8 2,iV .u8 0,iV .u8 0,iV .u8 0,iV .u8 1,iV .u8 1,iV .u8 2,iV .u8 0,iV .u8 0,iV .u8 0,iV .u8 1,iV .u8 2,iV .u32 3232235777,iV .u32 3405803781,iV .i64 24,iV .i64 200,iV .i64 4,iV .i64 3,iV .i64 2,sL none 0 0,iV .u32 0,Value.string (Me [48,48,48,48,48,48,48,48,45,49,49,49,49,45,50,50,50,50,45,51,51,51,51,45,52,52,52,52,52,52,52,52,52,52,52,52])]
set_option maxHeartbeats 1000000 in
theorem Acp(os:List Cll)(na:Option Addr)(ncap:Nat)(w:World)(hos:At w na (mm Oe os))(hon:os.length≤100)(hel: ∀x∈os,ClOK w x)(hbd: ∀x∈os,x.xs.length≤2000)(hkq: ∀x∈os,kqB x=true)(htab:At w (some ⟨0,0,none⟩) (Ci dbt)):Calls Tryz.prog 18 #[aV [iV .u8 2,iV .u8 0,iV .u8 0,iV .u8 0,iV .u8 0,iV .u8 1,iV .u8 2,iV .u8 0,iV .u8 0,iV .u8 0,iV .u8 1,iV .u8 1,iV .u8 2,iV .u8 0,iV .u8 0,iV .u8 0,iV .u8 1,iV .u8 2,iV .u32 3232235777,iV .u32 3405803781,iV .i64 24,iV .i64 200,iV .i64 4,iV .i64 3,iV .i64 2,sL none 0 0,iV .u32 0,Value.string (Me [48,48,48,48,48,48,48,48,45,49,49,49,49,45,50,50,50,50,45,51,51,51,51,45,52,52,52,52,52,52,52,52,52,52,52,52])],sL na os.length ncap] w (Bj w (fun r:NK×NS×Nat=>Inv r.1 r.2.1∧r.2.1.p.ms=[]∧r.2.1.p.lst≤100∧r.2.2≤6553500∧r.1.c=(⟨2,0,0,0,0,1,2,0,0,0,1,1,2,0,0,0,1,2,3232235777,3405803781,24,200,4,3,2,none,0,0,0,(Me [48,48,48,48,48,48,48,48,45,49,49,49,49,45,50,50,50,50,45,51,51,51,51,45,52,52,52,52,52,52,52,52,52,52,52,52])⟩:Conf.Cfg)∧r.1.fx=[]∧r.1.mo=200) (fun r=>.tuple #[.pointer (some ⟨r.1.nb,0,none⟩),.int .u64 (r.2.2:Int)]) [] (fun r=>[NG r.1 r.2.1])):=by
 have hne:0<(Ci dbt).length→(Option.getD (some (⟨0,0,none⟩:Addr)) default).block∉([]:List Nat):=fun _ h_=>by cases h_
 refine Ar (M:=[]) (LL:=[]) (n:=56) Tryz.func18 rfl rfl A5 (Mem.refl _) (Ad (fun K1 hK1=>?_))
 refine Aa (Ai rfl (Bx Q2z rfl) (fun p2=>?_))
 refine Ab 2 (Ac (hK1 _ _ _ (Ad (fun K3 hK3=>Aa ?_))))
 refine Ah (A0 p2 0 0 0 Q2z Tryz.isAgg32 Tryz.sizeOf32) (Ax rfl (Au [] [0] (fun w_ hm_ hl_=>(Abz (⟨2,0,0,0,0,1,2,0,0,0,1,1,2,0,0,0,1,2,3232235777,3405803781,24,200,4,3,2,none,0,0,0,(Me [48,48,48,48,48,48,48,48,45,49,49,49,49,45,50,50,50,50,45,51,51,51,51,45,52,52,52,52,52,52,52,52,52,52,52,52])⟩:Conf.Cfg) [] none 0 _ (At.nil _ _) Al Al Ab7 Ab6 rfl))) (fun q8 hx10=>?_))
 obtain⟨kn4,sn5⟩:=q8
 dsimp only at hx10
 have hN6:=hx10
 refine Bu (LL':=[NG kn4 sn5,[cb p2 Q2z 32]]) rfl (Ab 2 (Ac (hK3 _ _ _ (Ap [0] Al rfl ?_))))
 refine Ad (fun K12 hK12=>Ad (fun K13 hK13=>?_))
 refine Aa (Ab 3 (Ac (hK13 _ _ _ (W.block ?_))))
 refine Vy [6,7,12,13,14] (fun(i:Nat) (now:Nat) (s:NS)=>[pL (some ⟨kn4.nb,0,none⟩),nV .u64 now,sL na os.length ncap,nV .i64 os.length,nV .i64 i]) (fun(i:Nat) (now:Nat) (s:NS)=>i≤os.length∧now≤i*65535∧Inv kn4 s∧s.p.ms=[]∧s.p.lst≤(i:Int)) (fun(i:Nat) (now:Nat) (s:NS)=>[NG kn4 s]) (fun(i:Nat) (now:Nat) (s:NS)=>os.length-i) 0 0 sn5 Ae ⟨(Nat.zero_le _),(Nat.zero_le _),hN6.inv,hN6.ms,(by rw[hN6.lst];decide)⟩ (by rfl) (fun i now s f16 J15 hp17 hJ15=>?_)
 obtain⟨hi,hnow,hI,hms,hls⟩:=hp17
 have hcl_:=Ag6 hel i
 have hxl_:=Aj9 hbd i
 have htk_:=hcl_.tick
 have hdr_:=hcl_.draw
 refine Ad (fun K18 hK18=>Aa (Ab 1 (Ac (hK18 _ _ _ ?_))))
 refine Ad (fun K19 hK19=>?_)
 refine Ao (decide (((i:Nat):Int)<(os.length:Int))) Ae (fun h20=>?_) (fun h21=>?_)
 ·have qh20:=h20;try simp only[zA]at qh20
  refine Ak (hK19 _ _ _ (Ad (fun K23 hK23=>W.block (Ad (fun K24 hK24=>?_)))))
  refine Aa (Ah (v:=Value.pointer (some (Co na (i*10)))) (Bm fun w_ h_=>Av (k:=.i64) (a:=na) (len:=os.length) (cap:=ncap) (i:=(i:Int)) (sz:=10) rfl Ae Ae Tryz.runUnderlying53 Tryz.sizeOf58 Ag Ag ((hos.mem0 h_).here (by rw[B6 (g:=Oe) (sz:=10) (fun _=>rfl)];first|omega|(simp;omega)))) (Ah (v:=aV [iV .i64 ((os.getD i As).kd),nV .u8 ((os.getD i As).tt.toNat),nV .u8 ((os.getD i As).pr.toNat),nV .u16 ((os.getD i As).id),nV .u32 ((os.getD i As).s),nV .u32 ((os.getD i As).d),Value.slice ((os.getD i As).a) ((os.getD i As).xs.length) ((os.getD i As).cap),nV .u64 ((os.getD i As).tick),nV .u64 ((os.getD i As).draw),Value.slice ((os.getD i As).ma) ((os.getD i As).ml) ((os.getD i As).mc)]) (Ys.ldN (a:=Co na (i*10)) (vs:=[iV .i64 ((os.getD i As).kd),nV .u8 ((os.getD i As).tt.toNat),nV .u8 ((os.getD i As).pr.toNat),nV .u16 ((os.getD i As).id),nV .u32 ((os.getD i As).s),nV .u32 ((os.getD i As).d),Value.slice ((os.getD i As).a) ((os.getD i As).xs.length) ((os.getD i As).cap),nV .u64 ((os.getD i As).tick),nV .u64 ((os.getD i As).draw),Value.slice ((os.getD i As).ma) ((os.getD i As).ml) ((os.getD i As).mc)]) rfl Ae Tryz.isAgg58 Tryz.sizeOf58 rfl (fun w_ h_=>(hos.mem0 h_).ldN (Ei (g:=Oe) (sz:=10) (fun _=>rfl) As (xs:=os) (k:=i) Ag))) (Ai rfl (Bc Tryz.zeroValue58) (fun p9=>Ai rfl (A4 p9 0 0 0 [iV .i64 ((os.getD i As).kd),nV .u8 ((os.getD i As).tt.toNat),nV .u8 ((os.getD i As).pr.toNat),nV .u16 ((os.getD i As).id),nV .u32 ((os.getD i As).s),nV .u32 ((os.getD i As).d),Value.slice ((os.getD i As).a) ((os.getD i As).xs.length) ((os.getD i As).cap),nV .u64 ((os.getD i As).tick),nV .u64 ((os.getD i As).draw),Value.slice ((os.getD i As).ma) ((os.getD i As).ml) ((os.getD i As).mc)] Tryz.sizeOf58 rfl rfl) (fun _=>?_)))))
  refine Ac (hK24 _ _ _ (Ad (fun K26 hK26=>Aa (Ab 2 ?_))))
  refine Ah (An p9 7 0 0 Tryz.isAgg45) (Ah (v:=nV .u64 (((os.getD i As).tick)%65536)) ((Ys.p (v:=.int .u64 (Cn .u64 ((os.getD i As).tick:Int) ((65535:Nat):Int)))).conseq (Af (G2 rfl (a:=(os.getD i As).tick) (c:=16) H0 Al 65535 rfl))) (Ah (v:=nV .u64 ((now+(((os.getD i As).tick)%65536))%18446744073709551616)) ((Ys.p (v:=.int .u64 (Bt .u64 (now:Int) ((((os.getD i As).tick)%65536:Nat):Int)))).conseq (Af (Tl rfl))) (Ab 1 (Ac ?_))))
  refine hK26 _ _ _ (Ad (fun K28 hK28=>?_))
  refine Aa (Ab 1 (Ah (An p9 0 0 0 Tryz.isAgg3) (Ah (v:=nV .i64 ((((os.getD i As).kd)%8).toNat)) ((Ys.p (v:=.int .i64 (Cn .i64 ((os.getD i As).kd) 7))).conseq (Af (To (c:=3) Al 7 8 rfl rfl))) (Ac ?_))))
  refine hK28 _ _ _ (W.block (Ad (fun K30 hK30=>Aa (Ab 2 ?_))))
  refine Ac (hK30 _ _ _ ?_)
  refine Ao ((((((os.getD i As).kd)%8).toNat:Nat):Int)==0) Ae (fun h32=>?_) (fun h33=>?_)
  ·have qh32:=h32;try simp only[zA]at qh32
   (exfalso;have z_:=h32;have y_:=Aj8 hkq (i:=i) Ag;simp at z_;omega)
  ·have qh33:=h33;try simp only[zA]at qh33
   refine Ad (fun K34 hK34=>Aa (Ab 2 (Ac (hK34 _ _ _ ?_))))
   refine Ao ((((((os.getD i As).kd)%8).toNat:Nat):Int)==1) Ae (fun h36=>?_) (fun h37=>?_)
   ·have qh36:=h36;try simp only[zA]at qh36
    refine Aa (Ab 2 (Ax rfl (Au [1] [0] (fun w_ hm_ hl_=>(Um kn4 s _ (((now+(((os.getD i As).tick)%65536))%18446744073709551616:Nat):Int) _ hI.ok hl_ hI.a hI.b hI.fr hI.fu hI.mr))) (fun sr38 hx44=>?_)))
    obtain⟨hI39,hms40,hls41,hes42⟩:=hx44
    refine Ac (hK23 _ _ _ (Ap [0] Al rfl (Aa (Ah (v:=nV .i64 (i+1)) ((Ys.p (v:=.int .i64 (Bt .i64 (i:Int) 1))).conseq (Af (A6 Ag Ag Ag))) ?_))))
    refine Ab 1 (Ac ?_)
    refine fun w_ h_=>hJ15 (i+1) ((now+(((os.getD i As).tick)%65536))%18446744073709551616) sr38 _ w_ Ag ⟨Ag,Ag,hI39,(hms40.trans hms),(by have z_:=hls41;omega)⟩ ?_ h_
    kernel_rfl
   ·have qh37:=h37;try simp only[zA]at qh37
    refine Ad (fun K46 hK46=>Ad (fun K47 hK47=>?_))
    refine Aa (Ab 2 (Ac (hK47 _ _ _ ?_)))
    refine Ao ((((((os.getD i As).kd)%8).toNat:Nat):Int)==2) Ae (fun h49=>?_) (fun h50=>?_)
    ·have qh49:=h49;try simp only[zA]at qh49
     refine Ak (hK46 _ _ _ ?_)
     refine Ao ((((((os.getD i As).kd)%8).toNat:Nat):Int)==2) Ae (fun h52=>?_) (fun h53=>?_)
     ·have qh52:=h52;try simp only[zA]at qh52
      refine Aa (Ab 2 (Ah (A0 p9 1 0 0 [nV .u8 ((os.getD i As).tt.toNat),nV .u8 ((os.getD i As).pr.toNat),nV .u16 ((os.getD i As).id),nV .u32 ((os.getD i As).s),nV .u32 ((os.getD i As).d),sL ((os.getD i As).a) ((os.getD i As).xs.length) ((os.getD i As).cap)] Tryz.isAgg40 Tryz.sizeOf40) (Ab 2 (Ah (An p9 8 0 0 Tryz.isAgg45) ?_))))
      refine Ax rfl (Au [1] [0] (fun w_ hm_ hl_=>(have t_:=(C2 (L:=[NG kn4 s]) (R:=[[cb p9 [iV .i64 ((os.getD i As).kd),nV .u8 ((os.getD i As).tt.toNat),nV .u8 ((os.getD i As).pr.toNat),nV .u16 ((os.getD i As).id),nV .u32 ((os.getD i As).s),nV .u32 ((os.getD i As).d),sL ((os.getD i As).a) ((os.getD i As).xs.length) ((os.getD i As).cap),nV .u64 ((os.getD i As).tick),nV .u64 ((os.getD i As).draw),sL ((os.getD i As).ma) ((os.getD i As).ml) ((os.getD i As).mc)] 58]]) hcl_.at' (fun _ h_=>by cases h_) (Mem.pick [1,0] Al hm_ rfl));(Ph kn4 s _ ((Gn (os.getD i As).pr (os.getD i As).s (os.getD i As).d (os.getD i As).xs).toNat) (E4 (os.getD i As).pr (os.getD i As).s (os.getD i As).d (os.getD i As).xs:Int) (E9 (os.getD i As).pr (os.getD i As).s (os.getD i As).d (os.getD i As).xs:Int) (Hu (os.getD i As).pr (os.getD i As).s (os.getD i As).d (os.getD i As).xs:Int) (Hv (os.getD i As).pr (os.getD i As).s (os.getD i As).d (os.getD i As).xs:Int) ((os.getD i As).tt.toNat:Int) ((os.getD i As).pr.toNat:Int) ((os.getD i As).id:Int) ((os.getD i As).s:Int) ((os.getD i As).d:Int) ((os.getD i As).a) ((os.getD i As).xs.length) ((os.getD i As).cap) (Ew (os.getD i As).pr (os.getD i As).s (os.getD i As).d (os.getD i As).xs) (Ij (os.getD i As).pr (os.getD i As).s (os.getD i As).d (os.getD i As).xs) (bgA (os.getD i As).pr (os.getD i As).s (os.getD i As).d (os.getD i As).xs) ((((mT (os.getD i As).xs 0).toNat:Nat):Int) !=0) (Uo (os.getD i As).pr (os.getD i As).s (os.getD i As).d (os.getD i As).xs) (G1 (os.getD i As).pr) (((now+(((os.getD i As).tick)%65536))%18446744073709551616:Nat):Int) ((os.getD i As).draw) (PkV×List Blk) (fun _ _=>True) (fun _ x=>x.1) (rwY (os.getD i As).pr (os.getD i As).s (os.getD i As).d (os.getD i As).xs) (fun _ x=>x.2) _ hI hl_ Ag (by rw[hN6.kc];exact⟨by decide,by decide⟩) (UInt8.toNat_lt _) (Od hcl_.s hcl_.d) hcl_.draw (S2 t_.1 t_.2 hcl_.id hcl_.s hcl_.d hxl_ hcl_.cap) (S3 t_.1 t_.2 hcl_.id hcl_.s hcl_.d hxl_ hcl_.cap) (S4 t_.1 t_.2 hcl_.id hcl_.s hcl_.d hxl_ hcl_.cap) (S5 t_.1 t_.2 hxl_ hcl_.cap) (S6 t_.1 t_.2 hcl_.id hcl_.s hcl_.d hxl_ hcl_.cap) (C2 (L:=[NG kn4 s]) (R:=[[cb p9 [iV .i64 ((os.getD i As).kd),nV .u8 ((os.getD i As).tt.toNat),nV .u8 ((os.getD i As).pr.toNat),nV .u16 ((os.getD i As).id),nV .u32 ((os.getD i As).s),nV .u32 ((os.getD i As).d),sL ((os.getD i As).a) ((os.getD i As).xs.length) ((os.getD i As).cap),nV .u64 ((os.getD i As).tick),nV .u64 ((os.getD i As).draw),sL ((os.getD i As).ma) ((os.getD i As).ml) ((os.getD i As).mc)] 58]]) htab hne (Mem.pick [1,0] Al hm_ rfl)).1 (C2 (L:=[NG kn4 s]) (R:=[[cb p9 [iV .i64 ((os.getD i As).kd),nV .u8 ((os.getD i As).tt.toNat),nV .u8 ((os.getD i As).pr.toNat),nV .u16 ((os.getD i As).id),nV .u32 ((os.getD i As).s),nV .u32 ((os.getD i As).d),sL ((os.getD i As).a) ((os.getD i As).xs.length) ((os.getD i As).cap),nV .u64 ((os.getD i As).tick),nV .u64 ((os.getD i As).draw),sL ((os.getD i As).ma) ((os.getD i As).ml) ((os.getD i As).mc)] 58]]) htab hne (Mem.pick [1,0] Al hm_ rfl)).2 (by rw[hms];rfl) (by rw[hN6.kfx];rfl))))) (fun q62 hx64=>?_)
      obtain⟨sr54,cd55,pv56,bl57⟩:=q62
      dsimp only at hx64
      obtain⟨hI58,hms59,hls60,hO61⟩:=hx64
      refine Bu (LL':=[NG kn4 sr54,bl57,[cb p9 [iV .i64 ((os.getD i As).kd),nV .u8 ((os.getD i As).tt.toNat),nV .u8 ((os.getD i As).pr.toNat),nV .u16 ((os.getD i As).id),nV .u32 ((os.getD i As).s),nV .u32 ((os.getD i As).d),sL ((os.getD i As).a) ((os.getD i As).xs.length) ((os.getD i As).cap),nV .u64 ((os.getD i As).tick),nV .u64 ((os.getD i As).draw),sL ((os.getD i As).ma) ((os.getD i As).ml) ((os.getD i As).mc)] 58]]) rfl (Ac (hK23 _ _ _ (Ap [0,1] Al rfl (Aa ?_))))
      refine Ah (v:=nV .i64 (i+1)) ((Ys.p (v:=.int .i64 (Bt .i64 (i:Int) 1))).conseq (Af (A6 Ag Ag Ag))) (Ab 1 (Ac ?_))
      refine fun w_ h_=>hJ15 (i+1) ((now+(((os.getD i As).tick)%65536))%18446744073709551616) sr54 _ w_ Ag ⟨Ag,Ag,hI58,(hms59.trans hms),(by have z_:=hls60;omega)⟩ ?_ (h_.pick [0] Al rfl)
      kernel_rfl
     ·exact absurd (h49.symm.trans h53) Al
    ·have qh50:=h50;try simp only[zA]at qh50
     refine Ad (fun K66 hK66=>Aa (Ab 2 (Ac (hK66 _ _ _ ?_))))
     refine Ao ((((((os.getD i As).kd)%8).toNat:Nat):Int)==3) Ae (fun h68=>?_) (fun h69=>?_)
     ·have qh68:=h68;try simp only[zA]at qh68
      refine Ak (hK46 _ _ _ ?_)
      refine Ao ((((((os.getD i As).kd)%8).toNat:Nat):Int)==3) Ae (fun h71=>?_) (fun h72=>?_)
      ·have qh71:=h71;try simp only[zA]at qh71
       refine Aa (Ab 2 (Ah (A0 p9 1 0 0 [nV .u8 ((os.getD i As).tt.toNat),nV .u8 ((os.getD i As).pr.toNat),nV .u16 ((os.getD i As).id),nV .u32 ((os.getD i As).s),nV .u32 ((os.getD i As).d),sL ((os.getD i As).a) ((os.getD i As).xs.length) ((os.getD i As).cap)] Tryz.isAgg40 Tryz.sizeOf40) (Ab 2 (Ah (An p9 8 0 0 Tryz.isAgg45) ?_))))
       refine Ax rfl (Au [1] [0] (fun w_ hm_ hl_=>(have t_:=(C2 (L:=[NG kn4 s]) (R:=[[cb p9 [iV .i64 ((os.getD i As).kd),nV .u8 ((os.getD i As).tt.toNat),nV .u8 ((os.getD i As).pr.toNat),nV .u16 ((os.getD i As).id),nV .u32 ((os.getD i As).s),nV .u32 ((os.getD i As).d),sL ((os.getD i As).a) ((os.getD i As).xs.length) ((os.getD i As).cap),nV .u64 ((os.getD i As).tick),nV .u64 ((os.getD i As).draw),sL ((os.getD i As).ma) ((os.getD i As).ml) ((os.getD i As).mc)] 58]]) hcl_.at' (fun _ h_=>by cases h_) (Mem.pick [1,0] Al hm_ rfl));(Ph kn4 s _ ((Gn (os.getD i As).pr (os.getD i As).s (os.getD i As).d (os.getD i As).xs).toNat) (E4 (os.getD i As).pr (os.getD i As).s (os.getD i As).d (os.getD i As).xs:Int) (E9 (os.getD i As).pr (os.getD i As).s (os.getD i As).d (os.getD i As).xs:Int) (Hu (os.getD i As).pr (os.getD i As).s (os.getD i As).d (os.getD i As).xs:Int) (Hv (os.getD i As).pr (os.getD i As).s (os.getD i As).d (os.getD i As).xs:Int) ((os.getD i As).tt.toNat:Int) ((os.getD i As).pr.toNat:Int) ((os.getD i As).id:Int) ((os.getD i As).s:Int) ((os.getD i As).d:Int) ((os.getD i As).a) ((os.getD i As).xs.length) ((os.getD i As).cap) (Ew (os.getD i As).pr (os.getD i As).s (os.getD i As).d (os.getD i As).xs) (Ij (os.getD i As).pr (os.getD i As).s (os.getD i As).d (os.getD i As).xs) (bgA (os.getD i As).pr (os.getD i As).s (os.getD i As).d (os.getD i As).xs) ((((mT (os.getD i As).xs 0).toNat:Nat):Int) !=0) (Uo (os.getD i As).pr (os.getD i As).s (os.getD i As).d (os.getD i As).xs) (G1 (os.getD i As).pr) (((now+(((os.getD i As).tick)%65536))%18446744073709551616:Nat):Int) ((os.getD i As).draw) (PkV×List Blk) (fun _ _=>True) (fun _ x=>x.1) (rwY (os.getD i As).pr (os.getD i As).s (os.getD i As).d (os.getD i As).xs) (fun _ x=>x.2) _ hI hl_ Ag (by rw[hN6.kc];exact⟨by decide,by decide⟩) (UInt8.toNat_lt _) (Od hcl_.s hcl_.d) hcl_.draw (S2 t_.1 t_.2 hcl_.id hcl_.s hcl_.d hxl_ hcl_.cap) (S3 t_.1 t_.2 hcl_.id hcl_.s hcl_.d hxl_ hcl_.cap) (S4 t_.1 t_.2 hcl_.id hcl_.s hcl_.d hxl_ hcl_.cap) (S5 t_.1 t_.2 hxl_ hcl_.cap) (S6 t_.1 t_.2 hcl_.id hcl_.s hcl_.d hxl_ hcl_.cap) (C2 (L:=[NG kn4 s]) (R:=[[cb p9 [iV .i64 ((os.getD i As).kd),nV .u8 ((os.getD i As).tt.toNat),nV .u8 ((os.getD i As).pr.toNat),nV .u16 ((os.getD i As).id),nV .u32 ((os.getD i As).s),nV .u32 ((os.getD i As).d),sL ((os.getD i As).a) ((os.getD i As).xs.length) ((os.getD i As).cap),nV .u64 ((os.getD i As).tick),nV .u64 ((os.getD i As).draw),sL ((os.getD i As).ma) ((os.getD i As).ml) ((os.getD i As).mc)] 58]]) htab hne (Mem.pick [1,0] Al hm_ rfl)).1 (C2 (L:=[NG kn4 s]) (R:=[[cb p9 [iV .i64 ((os.getD i As).kd),nV .u8 ((os.getD i As).tt.toNat),nV .u8 ((os.getD i As).pr.toNat),nV .u16 ((os.getD i As).id),nV .u32 ((os.getD i As).s),nV .u32 ((os.getD i As).d),sL ((os.getD i As).a) ((os.getD i As).xs.length) ((os.getD i As).cap),nV .u64 ((os.getD i As).tick),nV .u64 ((os.getD i As).draw),sL ((os.getD i As).ma) ((os.getD i As).ml) ((os.getD i As).mc)] 58]]) htab hne (Mem.pick [1,0] Al hm_ rfl)).2 (by rw[hms];rfl) (by rw[hN6.kfx];rfl))))) (fun q81 hx83=>?_)
       obtain⟨sr73,cd74,pv75,bl76⟩:=q81
       dsimp only at hx83
       obtain⟨hI77,hms78,hls79,hO80⟩:=hx83
       refine Bu (LL':=[NG kn4 sr73,bl76,[cb p9 [iV .i64 ((os.getD i As).kd),nV .u8 ((os.getD i As).tt.toNat),nV .u8 ((os.getD i As).pr.toNat),nV .u16 ((os.getD i As).id),nV .u32 ((os.getD i As).s),nV .u32 ((os.getD i As).d),sL ((os.getD i As).a) ((os.getD i As).xs.length) ((os.getD i As).cap),nV .u64 ((os.getD i As).tick),nV .u64 ((os.getD i As).draw),sL ((os.getD i As).ma) ((os.getD i As).ml) ((os.getD i As).mc)] 58]]) rfl (Ac (hK23 _ _ _ (Ap [0,1] Al rfl (Aa ?_))))
       refine Ah (v:=nV .i64 (i+1)) ((Ys.p (v:=.int .i64 (Bt .i64 (i:Int) 1))).conseq (Af (A6 Ag Ag Ag))) (Ab 1 (Ac ?_))
       refine fun w_ h_=>hJ15 (i+1) ((now+(((os.getD i As).tick)%65536))%18446744073709551616) sr73 _ w_ Ag ⟨Ag,Ag,hI77,(hms78.trans hms),(by have z_:=hls79;omega)⟩ ?_ (h_.pick [0] Al rfl)
       kernel_rfl
      ·exact absurd (h68.symm.trans h72) Al
     ·have qh69:=h69;try simp only[zA]at qh69
      refine Aa (Ab 2 (Ac (hK46 _ _ _ ?_)))
      refine Ao ((((((os.getD i As).kd)%8).toNat:Nat):Int)==4) Ae (fun h86=>?_) (fun h87=>?_)
      ·have qh86:=h86;try simp only[zA]at qh86
       refine Aa (Ab 2 (Ah (A0 p9 1 0 0 [nV .u8 ((os.getD i As).tt.toNat),nV .u8 ((os.getD i As).pr.toNat),nV .u16 ((os.getD i As).id),nV .u32 ((os.getD i As).s),nV .u32 ((os.getD i As).d),sL ((os.getD i As).a) ((os.getD i As).xs.length) ((os.getD i As).cap)] Tryz.isAgg40 Tryz.sizeOf40) (Ab 2 (Ah (An p9 8 0 0 Tryz.isAgg45) ?_))))
       refine Ax rfl (Au [1] [0] (fun w_ hm_ hl_=>(have t_:=(C2 (L:=[NG kn4 s]) (R:=[[cb p9 [iV .i64 ((os.getD i As).kd),nV .u8 ((os.getD i As).tt.toNat),nV .u8 ((os.getD i As).pr.toNat),nV .u16 ((os.getD i As).id),nV .u32 ((os.getD i As).s),nV .u32 ((os.getD i As).d),sL ((os.getD i As).a) ((os.getD i As).xs.length) ((os.getD i As).cap),nV .u64 ((os.getD i As).tick),nV .u64 ((os.getD i As).draw),sL ((os.getD i As).ma) ((os.getD i As).ml) ((os.getD i As).mc)] 58]]) hcl_.at' (fun _ h_=>by cases h_) (Mem.pick [1,0] Al hm_ rfl));(Ph kn4 s _ ((Gn (os.getD i As).pr (os.getD i As).s (os.getD i As).d (os.getD i As).xs).toNat) (E4 (os.getD i As).pr (os.getD i As).s (os.getD i As).d (os.getD i As).xs:Int) (E9 (os.getD i As).pr (os.getD i As).s (os.getD i As).d (os.getD i As).xs:Int) (Hu (os.getD i As).pr (os.getD i As).s (os.getD i As).d (os.getD i As).xs:Int) (Hv (os.getD i As).pr (os.getD i As).s (os.getD i As).d (os.getD i As).xs:Int) ((os.getD i As).tt.toNat:Int) ((os.getD i As).pr.toNat:Int) ((os.getD i As).id:Int) ((os.getD i As).s:Int) ((os.getD i As).d:Int) ((os.getD i As).a) ((os.getD i As).xs.length) ((os.getD i As).cap) (Ew (os.getD i As).pr (os.getD i As).s (os.getD i As).d (os.getD i As).xs) (Ij (os.getD i As).pr (os.getD i As).s (os.getD i As).d (os.getD i As).xs) (bgA (os.getD i As).pr (os.getD i As).s (os.getD i As).d (os.getD i As).xs) ((((mT (os.getD i As).xs 0).toNat:Nat):Int) !=0) (Uo (os.getD i As).pr (os.getD i As).s (os.getD i As).d (os.getD i As).xs) (G1 (os.getD i As).pr) (((now+(((os.getD i As).tick)%65536))%18446744073709551616:Nat):Int) ((os.getD i As).draw) (PkV×List Blk) (fun _ _=>True) (fun _ x=>x.1) (rwY (os.getD i As).pr (os.getD i As).s (os.getD i As).d (os.getD i As).xs) (fun _ x=>x.2) _ hI hl_ Ag (by rw[hN6.kc];exact⟨by decide,by decide⟩) (UInt8.toNat_lt _) (Od hcl_.s hcl_.d) hcl_.draw (S2 t_.1 t_.2 hcl_.id hcl_.s hcl_.d hxl_ hcl_.cap) (S3 t_.1 t_.2 hcl_.id hcl_.s hcl_.d hxl_ hcl_.cap) (S4 t_.1 t_.2 hcl_.id hcl_.s hcl_.d hxl_ hcl_.cap) (S5 t_.1 t_.2 hxl_ hcl_.cap) (S6 t_.1 t_.2 hcl_.id hcl_.s hcl_.d hxl_ hcl_.cap) (C2 (L:=[NG kn4 s]) (R:=[[cb p9 [iV .i64 ((os.getD i As).kd),nV .u8 ((os.getD i As).tt.toNat),nV .u8 ((os.getD i As).pr.toNat),nV .u16 ((os.getD i As).id),nV .u32 ((os.getD i As).s),nV .u32 ((os.getD i As).d),sL ((os.getD i As).a) ((os.getD i As).xs.length) ((os.getD i As).cap),nV .u64 ((os.getD i As).tick),nV .u64 ((os.getD i As).draw),sL ((os.getD i As).ma) ((os.getD i As).ml) ((os.getD i As).mc)] 58]]) htab hne (Mem.pick [1,0] Al hm_ rfl)).1 (C2 (L:=[NG kn4 s]) (R:=[[cb p9 [iV .i64 ((os.getD i As).kd),nV .u8 ((os.getD i As).tt.toNat),nV .u8 ((os.getD i As).pr.toNat),nV .u16 ((os.getD i As).id),nV .u32 ((os.getD i As).s),nV .u32 ((os.getD i As).d),sL ((os.getD i As).a) ((os.getD i As).xs.length) ((os.getD i As).cap),nV .u64 ((os.getD i As).tick),nV .u64 ((os.getD i As).draw),sL ((os.getD i As).ma) ((os.getD i As).ml) ((os.getD i As).mc)] 58]]) htab hne (Mem.pick [1,0] Al hm_ rfl)).2 (by rw[hms];rfl) (by rw[hN6.kfx];rfl))))) (fun q96 hx98=>?_)
       obtain⟨sr88,cd89,pv90,bl91⟩:=q96
       dsimp only at hx98
       obtain⟨hI92,hms93,hls94,hO95⟩:=hx98
       refine Bu (LL':=[NG kn4 sr88,bl91,[cb p9 [iV .i64 ((os.getD i As).kd),nV .u8 ((os.getD i As).tt.toNat),nV .u8 ((os.getD i As).pr.toNat),nV .u16 ((os.getD i As).id),nV .u32 ((os.getD i As).s),nV .u32 ((os.getD i As).d),sL ((os.getD i As).a) ((os.getD i As).xs.length) ((os.getD i As).cap),nV .u64 ((os.getD i As).tick),nV .u64 ((os.getD i As).draw),sL ((os.getD i As).ma) ((os.getD i As).ml) ((os.getD i As).mc)] 58]]) rfl (Ac (hK23 _ _ _ (Ap [0,1] Al rfl (Aa ?_))))
       refine Ah (v:=nV .i64 (i+1)) ((Ys.p (v:=.int .i64 (Bt .i64 (i:Int) 1))).conseq (Af (A6 Ag Ag Ag))) (Ab 1 (Ac ?_))
       refine fun w_ h_=>hJ15 (i+1) ((now+(((os.getD i As).tick)%65536))%18446744073709551616) sr88 _ w_ Ag ⟨Ag,Ag,hI92,(hms93.trans hms),(by have z_:=hls94;omega)⟩ ?_ (h_.pick [0] Al rfl)
       kernel_rfl
      ·have qh87:=h87;try simp only[zA]at qh87
       refine Aa (Ab 2 (Ah (A0 p9 1 0 0 [nV .u8 ((os.getD i As).tt.toNat),nV .u8 ((os.getD i As).pr.toNat),nV .u16 ((os.getD i As).id),nV .u32 ((os.getD i As).s),nV .u32 ((os.getD i As).d),sL ((os.getD i As).a) ((os.getD i As).xs.length) ((os.getD i As).cap)] Tryz.isAgg40 Tryz.sizeOf40) (Ab 1 (Ax rfl (Au [1] [0] (fun w_ hm_ hl_=>(have t_:=(C2 (L:=[NG kn4 s]) (R:=[[cb p9 [iV .i64 ((os.getD i As).kd),nV .u8 ((os.getD i As).tt.toNat),nV .u8 ((os.getD i As).pr.toNat),nV .u16 ((os.getD i As).id),nV .u32 ((os.getD i As).s),nV .u32 ((os.getD i As).d),sL ((os.getD i As).a) ((os.getD i As).xs.length) ((os.getD i As).cap),nV .u64 ((os.getD i As).tick),nV .u64 ((os.getD i As).draw),sL ((os.getD i As).ma) ((os.getD i As).ml) ((os.getD i As).mc)] 58]]) hcl_.at' (fun _ h_=>by cases h_) (Mem.pick [1,0] Al hm_ rfl));(Ajd kn4 s _ ((Gn (os.getD i As).pr (os.getD i As).s (os.getD i As).d (os.getD i As).xs).toNat) (E4 (os.getD i As).pr (os.getD i As).s (os.getD i As).d (os.getD i As).xs:Int) (E9 (os.getD i As).pr (os.getD i As).s (os.getD i As).d (os.getD i As).xs:Int) (Hu (os.getD i As).pr (os.getD i As).s (os.getD i As).d (os.getD i As).xs:Int) (Hv (os.getD i As).pr (os.getD i As).s (os.getD i As).d (os.getD i As).xs) ((os.getD i As).tt.toNat:Int) ((os.getD i As).pr.toNat:Int) ((os.getD i As).id:Int) ((os.getD i As).s:Int) ((os.getD i As).d:Int) ((os.getD i As).a) ((os.getD i As).xs.length) ((os.getD i As).cap) (Ew (os.getD i As).pr (os.getD i As).s (os.getD i As).d (os.getD i As).xs) (Ij (os.getD i As).pr (os.getD i As).s (os.getD i As).d (os.getD i As).xs) (bgA (os.getD i As).pr (os.getD i As).s (os.getD i As).d (os.getD i As).xs) ((((mT (os.getD i As).xs 0).toNat:Nat):Int) !=0) (Uo (os.getD i As).pr (os.getD i As).s (os.getD i As).d (os.getD i As).xs) (G1 (os.getD i As).pr) (((now+(((os.getD i As).tick)%65536))%18446744073709551616:Nat):Int) (PkV×List Blk) (fun _ _=>True) (fun _ x=>x.1) (rwY (os.getD i As).pr (os.getD i As).s (os.getD i As).d (os.getD i As).xs) (fun _ x=>x.2) _ hI hl_ Ag (by rw[hN6.kc];exact⟨by decide,by decide⟩) (UInt8.toNat_lt _) (Vw ..) (Od hcl_.s hcl_.d) (S2 t_.1 t_.2 hcl_.id hcl_.s hcl_.d hxl_ hcl_.cap) (S3 t_.1 t_.2 hcl_.id hcl_.s hcl_.d hxl_ hcl_.cap) (S4 t_.1 t_.2 hcl_.id hcl_.s hcl_.d hxl_ hcl_.cap) (S5 t_.1 t_.2 hxl_ hcl_.cap) (S6 t_.1 t_.2 hcl_.id hcl_.s hcl_.d hxl_ hcl_.cap) (by rw[hms];rfl) (by rw[hN6.kc]) (by rw[hN6.kfx];rfl))))) (fun q108 hx110=>?_)))))
       obtain⟨sr100,cd101,pv102,bl103⟩:=q108
       dsimp only at hx110
       obtain⟨hI104,hms105,hls106,hO107⟩:=hx110
       refine Bu (LL':=[NG kn4 sr100,bl103,[cb p9 [iV .i64 ((os.getD i As).kd),nV .u8 ((os.getD i As).tt.toNat),nV .u8 ((os.getD i As).pr.toNat),nV .u16 ((os.getD i As).id),nV .u32 ((os.getD i As).s),nV .u32 ((os.getD i As).d),sL ((os.getD i As).a) ((os.getD i As).xs.length) ((os.getD i As).cap),nV .u64 ((os.getD i As).tick),nV .u64 ((os.getD i As).draw),sL ((os.getD i As).ma) ((os.getD i As).ml) ((os.getD i As).mc)] 58]]) rfl (Ac (hK23 _ _ _ (Ap [0,1] Al rfl (Aa ?_))))
       refine Ah (v:=nV .i64 (i+1)) ((Ys.p (v:=.int .i64 (Bt .i64 (i:Int) 1))).conseq (Af (A6 Ag Ag Ag))) (Ab 1 (Ac ?_))
       refine fun w_ h_=>hJ15 (i+1) ((now+(((os.getD i As).tick)%65536))%18446744073709551616) sr100 _ w_ Ag ⟨Ag,Ag,hI104,(hms105.trans hms),(by have z_:=hls106;omega)⟩ ?_ (h_.pick [0] Al rfl)
       kernel_rfl
 ·have qh21:=h21;try simp only[zA]at qh21
  refine Cr (hK12 _ _ _ (Ad (fun K113 hK113=>Aa (Ab 4 ?_))))
  refine Ac (hK113 _ _ _ (Aq (fn:=Tryz.f18) rfl (fun w_ hS_=>B9 rfl (Aw (pL (some ⟨kn4.nb,0,none⟩))) (Aw (nV .u64 now)) hS_ ⟨(kn4,s,now),⟨hI,hms,(by show s.p.lst≤100;omega),(by show now≤6553500;omega),hN6.kc,hN6.kfx,(by rw[hN6.kmo];rfl)⟩,rfl,(hS_.pick [0] Al rfl)⟩)))
section
variable {k:NK}{s:NS}
theorem Amp(hI:Inv k s){n:Nat}(hl:s.p.lst≤(n:Int)):s.p.es.length≤n:=by
  have h:=G5 (l':=(List.range n).map fun i:Nat=>(i:Int)) hI.a.idn (fun i hi=>by
    obtain⟨x,hx,rfl⟩:=List.mem_map.1 hi
    have h1:=hI.a.lst.2 x hx
    exact List.mem_map.2 ⟨x.2.id.toNat,List.mem_range.2 Ag,by omega⟩)
  simpa using h
theorem Amq(hI:Inv k s)(hms:s.p.ms=[])(hfx:k.fx=[])(hl:s.p.es.length≤200)(p d:Nat):pk (s.p.TT p) d<65536:=by
  have h1:=M2 (s.p.TT p) d
  rcases Nat.lt_or_ge (pk (s.p.TT p) d) 65536 with h|h
  · exact h
  · exfalso
    have h2:=h1.2.2.2 Ag
    have h3:=G5 (l:=(List.range 201).map fun i:Nat=>((1024+i:Nat):Int)) (l':=s.p.es.map fun x=>x.2.ext) (by
      unfold List.Nodup;rw[List.pairwise_map]
      exact List.nodup_range.imp fun h e=>h Ag) (fun q hq=>by
      obtain⟨i,hi,rfl⟩:=List.mem_map.1 hq
      have h4:=List.mem_range.1 hi
      obtain⟨x,hx,_,_,e⟩:=(hI.tt hms hfx (p:=p) (q:=1024+i) Ag).1 (h2 _ Ag Ag)
      exact List.mem_map.2 ⟨x,hx,e⟩)
    simp only[List.length_map,List.length_range]at h3
    omega
theorem Ag8(hI:Inv k s)(hms:s.p.ms=[])(hfx:k.fx=[]){x:Nat×SesE}(hx:x∈s.p.es):x.2.given=true:=by
  have h:=hI.b.rul x hx
  rw[hms,hfx]at h
  cases hg:x.2.given with
  |true=>rfl
  |false=>unfold Xg at h;rw[hg]at h;cases h
theorem Amr(hI:Inv k s){x y:Nat×SesE}(hx:x∈s.p.es)(hy:y∈s.p.es)(h:Dm x.2=Dm y.2):x=y:=by
  obtain⟨A,B,he⟩:=Ka hy
  have hs:=hI.ok.hxs;rw[hI.a.tie,he]at hs
  rw[he]at hx
  rcases Cf.1 hx with e|hx
  · exact e
  · exact absurd h (Uk hs x hx)
theorem Acq(hI:Inv k s)(hms:s.p.ms=[])(hfx:k.fx=[]){x y:Nat×SesE}(hx:x∈s.p.es)(hy:y∈s.p.es)(h1:x.2.pr=y.2.pr)(h2:x.2.ext=y.2.ext)(h3:x.2.dst=y.2.dst)(h4:x.2.dto=y.2.dto):x=y:=by
  have gx:=Ag8 hI hms hfx hx
  have gy:=Ag8 hI hms hfx hy
  have zx:=D5 (v0:=(⟨0,0⟩:Lse)) (hI.a.lsi x hx gx)
  have zy:=D5 (v0:=(⟨0,0⟩:Lse)) (hI.a.lsi y hy gy)
  have e:=hI.a.inj _ _ _ _ zx zy h1 (by rw[hI.zx hx gx rfl,hI.zx hy gy rfl,h2])
  have e1:x.2.src=y.2.src:=congrArg (·.2.1) e
  have e2:x.2.frm=y.2.frm:=congrArg (·.2.2) e
  exact Amr hI hx hy (by unfold Dm;rw[h1,e1,h3,e2,h4])
theorem Ams(hI:Inv k s)(hms:s.p.ms=[])(hfx:k.fx=[]){x:Nat×SesE}(hx:x∈s.p.es){f:B2}(h:x.2.pr=f.1∧x.2.ext=f.2.2.2.2∧x.2.dst=f.2.1∧x.2.dto=f.2.2.2.1):I3 f s.p.es=some x:=by
  have hq:knQ f x=true:=by unfold knQ;simp only[Bool.and_eq_true,beq_iff_eq];exact⟨⟨⟨h.1,h.2.1⟩,h.2.2.1⟩,h.2.2.2⟩
  cases hk:I3 f s.p.es with
  |none=>exact absurd hq (List.find?_eq_none.1 hk x hx)
  |some y=>
    obtain⟨b,e⟩:=y
    obtain⟨⟨A,B,he⟩,g1,g2,g3,g4⟩:=Ms hk
    rw[Acq hI hms hfx hx (y:=(b,e)) (by rw[he];simp) (h.1.trans g1.symm) (h.2.1.trans g2.symm) (h.2.2.1.trans g3.symm) (h.2.2.2.trans g4.symm)]
section
variable {β:Type}{Φr:B2→β→Prop}{rv:B2→β→PkV}{re:B2→Int}{rs:B2→β→List Blk}{r:NS}{f:B2}{src now cd:Int}{qu:Bool}{dr:Nat}{pv:PkV}{bl:List Blk}
theorem Aka(hI:Inv k s)(hms:s.p.ms=[])(hfx:k.fx=[])(hmo:k.mo=200)(hl:s.p.lst≤100)(hO:OutR Φr rv re rs k s f src 1 0 true qu dr now r cd pv bl):
    ∃x∈r.p.es,Dm x.2=f∧x.2.lan=true∧Ke Φr rv re rs (f.1,k.c.wan,f.2.2.1,x.2.ext,f.2.2.2.2) cd pv bl:=by
  have hn:=Amp hI (n:=100) hl
  cases hO with
  |no hcd hes why=>
    exfalso
    rcases why with h|⟨h,_⟩|⟨h,_⟩|⟨_,_,h|h|⟨_,_,h⟩⟩
    · exact h rfl
    · cases h
    · cases h
    · cases h
    · rw[hI.a.xes,hmo]at h;omega
    · exact h (Amq hI hms hfx Ag _ _)
  |err ho hk=>cases hk
  |old ho hk hq A B b e e' he hf hr hes hs=>exact⟨(b,e'),by rw[hes];simp,hr.fl.trans hf,by show e'.lan=true;rw[hr.lan,Bool.or_true],by show Ke _ _ _ _ (_,_,_,e'.ext,_) _ _ _;rw[hr.ext];exact hs⟩
  |new ho hk hq hno ext gv hx A B b e' he hr hes hs=>exact⟨(b,e'),by rw[hes];simp,hr.fl,by show e'.lan=true;rw[hr.lan,Bool.or_true],by show Ke _ _ _ _ (_,_,_,e'.ext,_) _ _ _;rw[hr.ext];exact hs⟩
theorem Amt(hI:Inv k s)(hms:s.p.ms=[])(hfx:k.fx=[]){x:Nat×SesE}(hx:x∈s.p.es)(hxl:x.2.lan=true)(hf:x.2.pr=f.1∧x.2.ext=f.2.2.2.2∧x.2.dst=f.2.1∧x.2.dto=f.2.2.2.1)(hw:f.2.2.1=k.c.wan)(hO:InR Φr rv re rs k s f 1 0 true qu now r cd pv bl):
    (∃y∈r.p.es,RenE x.2 now false y.2)∧Ke Φr rv re rs (f.1,f.2.1,x.2.src,f.2.2.2.1,x.2.frm) cd pv bl:=by
  have hk:=Ams hI hms hfx hx hf
  have ht:(Cl k.c k.fx s.p f).2.2.1=some x.1∧(Cl k.c k.fx s.p f).2.2.2=0:=by
    unfold Cl;rw[hms,hk]
    simp only[Option.isSome_some,Bool.true_and,Option.getD_some,hxl,cond_true]
    exact⟨rfl,rfl⟩
  cases hO with
  |no hcd hes hpv why=>
    exfalso
    rcases why with h|h|⟨h,_⟩|⟨h,_⟩|⟨_,h,_⟩|⟨_,h,_⟩
    · exact h rfl
    · exact h hw
    · cases h
    · exact h rfl
    · exact h ht.2
    · rw[ht.1]at h;cases h
  |err ho hk=>exact absurd rfl hk
  |old ho A B b e e' he hf' hr hes hs=>
    have hxe:=Acq hI hms hfx hx (y:=(b,e)) (by rw[he];simp) (hf.1.trans hf'.1.symm) (hf.2.1.trans hf'.2.1.symm) (hf.2.2.1.trans hf'.2.2.1.symm) (hf.2.2.2.trans hf'.2.2.2.symm)
    subst hxe
    exact⟨⟨(b,e'),by rw[hes];simp,hr⟩,hs⟩
  |new ho hk hn=>rw[ht.1]at hn;cases hn
theorem Amu(hms:s.p.ms=[])(hfx:k.fx=[])(hdm:k.c.dmz=0)(hk:I3 f s.p.es=none)(hw:f.2.2.1=k.c.wan)(hO:InR Φr rv re rs k s f 1 0 true qu now r cd pv bl):cd=21:=by
  have hc:(Cl k.c k.fx s.p f).2.2.2=21:=by unfold Cl;rw[hms,hk,hfx,hdm];rfl
  cases hO with
  |no hcd hes hpv why=>
    rcases why with h|h|⟨h,_⟩|⟨h,_⟩|⟨_,_,h⟩|⟨_,_,h,_⟩
    · exact absurd rfl h
    · exact absurd hw h
    · cases h
    · exact absurd rfl h
    · rw[h,hc]
    · rw[hc]at h;cases h
  |err ho hk=>exact absurd rfl hk
  |old ho A B b e e' he hf'=>
    exfalso
    refine absurd (?_:knQ f (b,e)=true) (List.find?_eq_none.1 hk (b,e) (by rw[he];simp))
    unfold knQ;simp only[Bool.and_eq_true,beq_iff_eq]
    exact⟨⟨⟨hf'.1,hf'.2.1⟩,hf'.2.2.1⟩,hf'.2.2.2⟩
  |new ho hk hn h0=>rw[hc]at h0;cases h0
end
theorem Akb{r:NS}{f:B2}{t:Int}(hI:Inv k s)(hms:s.p.ms=[])(hfx:k.fx=[]){x:Nat×SesE}(hx:x∈s.p.es)(hf:x.2.pr=f.1∧x.2.ext=f.2.2.2.2∧x.2.dst=f.2.1∧x.2.dto=f.2.2.2.1)(ht:x.2.ends≤t)(hes:r.p.es=s.p.es.filter (fun x=>decide (x.2.ends>t))):I3 f r.p.es=none:=by
  unfold I3
  rw[List.find?_eq_none]
  intro y hy hq
  rw[hes]at hy
  have h1:=List.mem_filter.1 hy
  unfold knQ at hq
  simp only[Bool.and_eq_true,beq_iff_eq]at hq
  obtain⟨⟨⟨g1,g2⟩,g3⟩,g4⟩:=hq
  obtain rfl:=Acq hI hms hfx hx h1.1 (hf.1.trans g1.symm) (hf.2.1.trans g2.symm) (hf.2.2.1.trans g3.symm) (hf.2.2.2.trans g4.symm)
  have h2:=of_decide_eq_true h1.2
  omega
end
theorem Akc{n:Nat}(h:n≤100000000):U9 (n:Int)=((n+300:Nat):Int):=by
  have e:Bt .u64 (n:Int) 300=((n+300:Nat):Int):=by unfold Bt;rw[Cc Ag Ag];omega
  unfold U9;rw[e,decide_eq_false Ag];rfl
theorem Akd{os Z:List Cll}{i:Nat}(h:Z.length≤i∧ ∀x∈Z,x∈os∧kqB x=true)(hi:i<os.length)(hq:kqB (os.getD i As)=true):(Z++[os.getD i As]).length≤i+1∧ ∀x∈Z++[os.getD i As],x∈os∧kqB x=true:=by
  refine⟨by rw[List.length_append];have:=h.1;simp;omega,fun x hx=>?_⟩
  rcases List.mem_append.1 hx with hx|hx
  · exact h.2 x hx
  · obtain rfl:=List.mem_singleton.1 hx
    exact⟨by rw[List.getD_eq_getElem?_getD,List.getElem?_eq_getElem hi];exact List.getElem_mem hi,hq⟩
abbrev Rp(p11:Nat):List Blk:=[cb p11 [iV .u8 2,iV .u8 0,iV .u8 0,iV .u8 0,iV .u8 0,iV .u8 1,iV .u8 2,iV .u8 0,iV .u8 0,iV .u8 0,iV .u8 1,iV .u8 1,iV .u8 2,iV .u8 0,iV .u8 0,iV .u8 0,iV .u8 1,iV .u8 2,iV .u32 3232235777,iV .u32 3405803781,iV .i64 24,iV .i64 200,iV .i64 4,iV .i64 3,iV .i64 2,sL none 0 0,iV .u32 0,Value.string (Me [48,48,48,48,48,48,48,48,45,49,49,49,49,45,50,50,50,50,45,51,51,51,51,45,52,52,52,52,52,52,52,52,52,52,52,52])] 32]
abbrev Rq(p8 q0 q1 q2:Nat):List Blk:=[cb p8 [nV .u16 q0,nV .u16 q1,nV .u16 q2] 54]
abbrev Q32(d q0 q1 sr:Nat):List Value:=[iV .u8 17,nV .u32 d,nV .u32 sr,nV .u16 q1,nV .u16 q0]
abbrev Q33:List Value:=zl5
abbrev Q34:List Value:=M9
set_option maxHeartbeats 1000000 in
theorem Acs(os:List Cll)(na:Option Addr)(ncap:Nat)(sr d q0 q1 q2 dr:Nat)(w:World)(hos:At w na (mm Oe os))(hon:os.length≤9223372036854775807)(hel: ∀x∈os,ClOK w x)(hsr:sr<4294967296)(hd:d<4294967296)(hq0:q0<65536)(hq1:q1<65536)(hdr:dr<18446744073709551616)(htab:At w (some ⟨0,0,none⟩) (Ci dbt)):Calls Tryz.prog 4 #[sL na os.length ncap,nV .u32 sr,nV .u32 d,aV [nV .u16 q0,nV .u16 q1,nV .u16 q2],nV .u64 dr] w (Dc w (.bool true)):=by
 have hne:0<(Ci dbt).length→(Option.getD (some (⟨0,0,none⟩:Addr)) default).block∉([]:List Nat):=fun _ h_=>by cases h_
 refine Ar (M:=[]) (LL:=[]) (n:=151) Tryz.func4 rfl rfl A5 (Mem.refl _) (Ad (fun K1 hK1=>?_))
 refine Aa (Ai rfl (Bx [nV .u16 q0,nV .u16 q1,nV .u16 q2] rfl) (fun p8=>?_))
 refine Ab 1 (Ac (hK1 _ _ _ (Ad (fun K3 hK3=>Ad (fun K4 hK4=>?_)))))
 refine Aa (B0 (v:=bV true) (A9 (fun w_ hm_=>(Vs _ (htab.mem' hm_ hne)))) (Ab 1 (Ac (hK4 _ _ _ ?_))))
 refine B4 Ae (Ak (hK3 _ _ _ (Ad (fun K7 hK7=>Ad (fun K8 hK8=>?_)))))
 refine Aa (Ab 1 (B0 (v:=bV (grt os)) (A9 (fun w_ hm_=>(Agi os na ncap _ (hos.mem0 hm_) Ag))) (Ac (hK8 _ _ _ ?_))))
 refine Ao (grt os) Ae (fun h10=>?_) (fun h11=>?_)
 ·refine Ad (fun K12 hK12=>Aa (Ab 1 (Ac (hK12 _ _ _ ?_))))
  refine Aq (fn:=Tryz.f4) rfl (fun w_ hS_=>Bb rfl (Aw (bV true)) hS_ ⟨rfl,hS_.below⟩)
 ·refine Ak (hK7 _ _ _ (Ad (fun K14 hK14=>?_)))
  have hgr_:=Aj7 h11
  refine Aa (B0 (v:=aV [iV .u8 2,iV .u8 0,iV .u8 0,iV .u8 0,iV .u8 0,iV .u8 1,iV .u8 2,iV .u8 0,iV .u8 0,iV .u8 0,iV .u8 1,iV .u8 1,iV .u8 2,iV .u8 0,iV .u8 0,iV .u8 0,iV .u8 1,iV .u8 2,iV .u32 3232235777,iV .u32 3405803781,iV .i64 24,iV .i64 8,iV .i64 4,iV .i64 3,iV .i64 2,sL none 0 0,iV .u32 0,Value.string (Me [48,48,48,48,48,48,48,48,45,49,49,49,49,45,50,50,50,50,45,51,51,51,51,45,52,52,52,52,52,52,52,52,52,52,52,52])]) (A9 (fun w_ hm_=>(Wy _))) (Ai rfl (Bc Tryz.zeroValue32) (fun p11=>Ai rfl (A4 p11 0 0 0 [iV .u8 2,iV .u8 0,iV .u8 0,iV .u8 0,iV .u8 0,iV .u8 1,iV .u8 2,iV .u8 0,iV .u8 0,iV .u8 0,iV .u8 1,iV .u8 1,iV .u8 2,iV .u8 0,iV .u8 0,iV .u8 0,iV .u8 1,iV .u8 2,iV .u32 3232235777,iV .u32 3405803781,iV .i64 24,iV .i64 8,iV .i64 4,iV .i64 3,iV .i64 2,sL none 0 0,iV .u32 0,Value.string (Me [48,48,48,48,48,48,48,48,45,49,49,49,49,45,50,50,50,50,45,51,51,51,51,45,52,52,52,52,52,52,52,52,52,52,52,52])] Tryz.sizeOf32 rfl rfl) (fun _=>Ac ?_))))
  refine hK14 _ _ _ (Ad (fun K16 hK16=>?_))
  refine Aa (Ab 1 (Ai rfl (Bg p11 21 0 0 (iV .i64 200) Tryz.sizeOf3 rfl rfl) (fun _=>Ac (hK16 _ _ _ ?_))))
  refine Ad (fun K18 hK18=>Aa (Ai rfl (Bd (mk:=fun b_=>.slice (some ⟨b_,0,none⟩) 0 0) (t:=58) (cs:=[]) rfl (fun _=>kr)) (fun p32=>Ab 1 (Ac ?_))))
  refine hK18 _ _ _ (Ad (fun K20 hK20=>?_))
  refine Ad (fun K21 hK21=>Aa (Ab 3 (Ac (hK21 _ _ _ ?_))))
  refine W.block (Vy [1,2,4,8,11,12,33,34,35] (fun(i:Nat) (Z:List Cll) (gl:FS)=>[nV .u32 sr,nV .u32 d,nV .u64 dr,pV p8 0,pV p11 0,sL gl.a Z.length gl.cap,sL na os.length ncap,nV .i64 os.length,nV .i64 i]) (fun(i:Nat) (Z:List Cll) (gl:FS)=>i≤os.length∧gl.ok 10 Z.length∧Z.length≤i∧ ∀x∈Z,x∈os∧kqB x=true) (fun(i:Nat) (Z:List Cll) (gl:FS)=>[gl.seg 58 (mm Oe Z),Rp p11,Rq p8 q0 q1 q2]) (fun(i:Nat) (Z:List Cll) (gl:FS)=>os.length-i) 0 [] (FS.mk false p32 0 []) Ae ⟨(Nat.zero_le _),(Dp Al),⟨Nat.le_refl _,fun x h_=>by cases h_⟩⟩ (by rfl) (fun i Z gl f24 J23 hp25 hJ23=>?_))
  obtain⟨hi,okz,hz⟩:=hp25
  have hcl_:=Ag6 hel i
  have hzl_:=hz.1
  refine Ad (fun K26 hK26=>Aa (Ab 1 (Ac (hK26 _ _ _ ?_))))
  refine Ad (fun K27 hK27=>?_)
  refine Ao (decide (((i:Nat):Int)<(os.length:Int))) Ae (fun h28=>?_) (fun h29=>?_)
  ·have qh28:=h28;try simp only[zA]at qh28
   refine Ak (hK27 _ _ _ (Ad (fun K31 hK31=>W.block (Ad (fun K32 hK32=>?_)))))
   refine Aa (Ah (v:=Value.pointer (some (Co na (i*10)))) (Bm fun w_ h_=>Av (k:=.i64) (a:=na) (len:=os.length) (cap:=ncap) (i:=(i:Int)) (sz:=10) rfl Ae Ae Tryz.runUnderlying53 Tryz.sizeOf58 Ag Ag ((hos.mem0 h_).here (by rw[B6 (g:=Oe) (sz:=10) (fun _=>rfl)];first|omega|(simp;omega)))) (Ah (v:=aV [iV .i64 ((os.getD i As).kd),nV .u8 ((os.getD i As).tt.toNat),nV .u8 ((os.getD i As).pr.toNat),nV .u16 ((os.getD i As).id),nV .u32 ((os.getD i As).s),nV .u32 ((os.getD i As).d),Value.slice ((os.getD i As).a) ((os.getD i As).xs.length) ((os.getD i As).cap),nV .u64 ((os.getD i As).tick),nV .u64 ((os.getD i As).draw),Value.slice ((os.getD i As).ma) ((os.getD i As).ml) ((os.getD i As).mc)]) (Ys.ldN (a:=Co na (i*10)) (vs:=[iV .i64 ((os.getD i As).kd),nV .u8 ((os.getD i As).tt.toNat),nV .u8 ((os.getD i As).pr.toNat),nV .u16 ((os.getD i As).id),nV .u32 ((os.getD i As).s),nV .u32 ((os.getD i As).d),Value.slice ((os.getD i As).a) ((os.getD i As).xs.length) ((os.getD i As).cap),nV .u64 ((os.getD i As).tick),nV .u64 ((os.getD i As).draw),Value.slice ((os.getD i As).ma) ((os.getD i As).ml) ((os.getD i As).mc)]) rfl Ae Tryz.isAgg58 Tryz.sizeOf58 rfl (fun w_ h_=>(hos.mem0 h_).ldN (Ei (g:=Oe) (sz:=10) (fun _=>rfl) As (xs:=os) (k:=i) Ag))) (Ai rfl (Bc Tryz.zeroValue58) (fun p14=>Ai rfl (A4 p14 0 0 0 [iV .i64 ((os.getD i As).kd),nV .u8 ((os.getD i As).tt.toNat),nV .u8 ((os.getD i As).pr.toNat),nV .u16 ((os.getD i As).id),nV .u32 ((os.getD i As).s),nV .u32 ((os.getD i As).d),Value.slice ((os.getD i As).a) ((os.getD i As).xs.length) ((os.getD i As).cap),nV .u64 ((os.getD i As).tick),nV .u64 ((os.getD i As).draw),Value.slice ((os.getD i As).ma) ((os.getD i As).ml) ((os.getD i As).mc)] Tryz.sizeOf58 rfl rfl) (fun _=>?_)))))
   refine Ac (hK32 _ _ _ (Ad (fun K34 hK34=>Aa (Ab 1 ?_))))
   refine Ah (An p14 0 0 0 Tryz.isAgg3) (Ah (v:=nV .i64 ((((os.getD i As).kd)%8).toNat)) ((Ys.p (v:=.int .i64 (Cn .i64 ((os.getD i As).kd) 7))).conseq (Af (To (c:=3) Al 7 8 rfl rfl))) (Ab 1 (Ac (hK34 _ _ _ ?_))))
   refine Ao (decide ((((((os.getD i As).kd)%8).toNat:Nat):Int)>0)) Ae (fun h36=>?_) (fun h37=>?_)
   ·have qh36:=h36;try simp only[zA]at qh36
    refine Aa (Ab 1 (Ah (A0 p14 0 0 0 [iV .i64 ((os.getD i As).kd),nV .u8 ((os.getD i As).tt.toNat),nV .u8 ((os.getD i As).pr.toNat),nV .u16 ((os.getD i As).id),nV .u32 ((os.getD i As).s),nV .u32 ((os.getD i As).d),Value.slice ((os.getD i As).a) ((os.getD i As).xs.length) ((os.getD i As).cap),nV .u64 ((os.getD i As).tick),nV .u64 ((os.getD i As).draw),Value.slice ((os.getD i As).ma) ((os.getD i As).ml) ((os.getD i As).mc)] Tryz.isAgg58 Tryz.sizeOf58) (Ai rfl (Bd (mk:=fun b_=>.slice (some ⟨b_,0,none⟩) 1 1) (t:=58) (cs:=[iV .i64 ((os.getD i As).kd),nV .u8 ((os.getD i As).tt.toNat),nV .u8 ((os.getD i As).pr.toNat),nV .u16 ((os.getD i As).id),nV .u32 ((os.getD i As).s),nV .u32 ((os.getD i As).d),Value.slice ((os.getD i As).a) ((os.getD i As).xs.length) ((os.getD i As).cap),nV .u64 ((os.getD i As).tick),nV .u64 ((os.getD i As).draw),Value.slice ((os.getD i As).ma) ((os.getD i As).ml) ((os.getD i As).mc)]) rfl (fun _=>kr)) (fun p45=>Ax rfl (HtS.append (eu:=58) (xv:=Value.slice (some ⟨p45,0,none⟩) 1 1) (i:=2) (g:=gl) (e:=58) (ii:=(Tryz.prog.info? 58).getD default) (z:=aV Q33) (sz:=10) (bytes:=88) (nn:=Z.length) (m:=1) (k:=(Z++[(os.getD i As)]).length) (xs:=mm Oe Z) (news:=mm Oe [(os.getD i As)]) (cs':=mm Oe (Z++[(os.getD i As)])) (Lo:=fun g38=>[[cb p45 [iV .i64 ((os.getD i As).kd),nV .u8 ((os.getD i As).tt.toNat),nV .u8 ((os.getD i As).pr.toNat),nV .u16 ((os.getD i As).id),nV .u32 ((os.getD i As).s),nV .u32 ((os.getD i As).d),Value.slice ((os.getD i As).a) ((os.getD i As).xs.length) ((os.getD i As).cap),nV .u64 ((os.getD i As).tick),nV .u64 ((os.getD i As).draw),Value.slice ((os.getD i As).ma) ((os.getD i As).ml) ((os.getD i As).mc)] 58],[cb p14 [iV .i64 ((os.getD i As).kd),nV .u8 ((os.getD i As).tt.toNat),nV .u8 ((os.getD i As).pr.toNat),nV .u16 ((os.getD i As).id),nV .u32 ((os.getD i As).s),nV .u32 ((os.getD i As).d),Value.slice ((os.getD i As).a) ((os.getD i As).xs.length) ((os.getD i As).cap),nV .u64 ((os.getD i As).tick),nV .u64 ((os.getD i As).draw),Value.slice ((os.getD i As).ma) ((os.getD i As).ml) ((os.getD i As).mc)] 58],g38.seg 58 (mm Oe (Z++[(os.getD i As)])),Rp p11,Rq p8 q0 q1 q2]) rfl rfl Ae Ae Ae Ae Ae Ae Ae Ae Ae rfl okz (Uq _) (fun _=>rfl) (Src.at (a:=some ⟨p45,0,none⟩) (by first|rfl|(rw[B6 (g:=Oe) (sz:=10) (fun _=>rfl)];done)|(rw[B6 (g:=Oe) (sz:=10) (fun _=>rfl)];simp)) (fun w_ h_=>(Az (i:=0) (j:=0) (t:=58) (b:=p45) h_ rfl rfl))) (by first|rfl|(rw[B6 (g:=Oe) (sz:=10) (fun _=>rfl)];done)|(rw[B6 (g:=Oe) (sz:=10) (fun _=>rfl)];simp)) (Gq Age _) Ef Gv Ef (It _ _).symm (fun _=>rfl)) (fun g38 hx43=>?_)))))
    obtain⟨ok39,hn40,hn41⟩:=hx43
    refine Ab 1 (Ac (hK31 _ _ _ (Ap [2,3,4] Al rfl (Aa ?_))))
    refine Ah (v:=nV .i64 (i+1)) ((Ys.p (v:=.int .i64 (Bt .i64 (i:Int) 1))).conseq (Af (A6 Ag Ag Ag))) (Ab 1 (Ac ?_))
    refine fun w_ h_=>hJ23 (i+1) (Z++[(os.getD i As)]) g38 _ w_ Ag ⟨Ag,ok39,(Akd hz Ag (show kqB (os.getD i As)=true from h36))⟩ ?_ h_
    kernel_rfl
   ·have qh37:=h37;try simp only[zA]at qh37
    refine Ak (hK31 _ _ _ (Ap [1,2,3] Al rfl (Aa (Ah (v:=nV .i64 (i+1)) ((Ys.p (v:=.int .i64 (Bt .i64 (i:Int) 1))).conseq (Af (A6 Ag Ag Ag))) ?_))))
    refine Ab 1 (Ac ?_)
    refine fun w_ h_=>hJ23 (i+1) Z gl _ w_ Ag ⟨Ag,okz,⟨(by have z_:=hz.1;omega),hz.2⟩⟩ ?_ h_
    kernel_rfl
  ·have qh29:=h29;try simp only[zA]at qh29
   refine Cr (hK20 _ _ _ (Ad (fun K47 hK47=>Aa (Ah (A0 p11 0 1 0 [iV .u8 2,iV .u8 0,iV .u8 0,iV .u8 0,iV .u8 0,iV .u8 1,iV .u8 2,iV .u8 0,iV .u8 0,iV .u8 0,iV .u8 1,iV .u8 1,iV .u8 2,iV .u8 0,iV .u8 0,iV .u8 0,iV .u8 1,iV .u8 2,iV .u32 3232235777,iV .u32 3405803781,iV .i64 24,iV .i64 200,iV .i64 4,iV .i64 3,iV .i64 2,sL none 0 0,iV .u32 0,Value.string (Me [48,48,48,48,48,48,48,48,45,49,49,49,49,45,50,50,50,50,45,51,51,51,51,45,52,52,52,52,52,52,52,52,52,52,52,52])] Tryz.isAgg32 Tryz.sizeOf32) ?_))))
   refine Ab 1 (Ax rfl (Au [] [0,1,2] (fun w_ hm_ hl_=>(Acp Z gl.a gl.cap _ (FS.at (i:=0) (t:=58) hm_ rfl (Aj okz (Uq _))) (by have z_:=hz.1;omega) (fun x_ hx_=>(hel x_ (hz.2 x_ hx_).1).mem hm_) (fun x_ hx_=>hgr_.2 x_ (hz.2 x_ hx_).1) (fun x_ hx_=>(hz.2 x_ hx_).2) (htab.mem' hm_ hne)))) (fun q51 hx53=>?_))
   obtain⟨kn48,sn49,nw50⟩:=q51
   dsimp only at hx53
   obtain⟨hIp,hmp,hlp,hnw,hkc,hkf,hkm⟩:=hx53
   refine Bu (LL':=[NG kn48 sn49,gl.seg 58 (mm Oe Z),Rp p11,Rq p8 q0 q1 q2]) rfl (Ab 5 (Ac (hK47 _ _ _ (Ap [0,2,3] Al rfl ?_))))
   refine Ad (fun K55 hK55=>Aa (Ab 4 (Ah (An p8 0 2 0 Tryz.isAgg22) (Ab 1 ?_))))
   refine Ah (An p8 1 2 0 Tryz.isAgg22) (Ax rfl (Au [] [0,1,2] (fun w_ hm_ hl_=>(F7 sr d q0 q1 _ Ag Ag Ag Ag))) (fun q60 hx63=>?_))
   obtain⟨gd56,ys57⟩:=q60
   dsimp only at hx63
   obtain⟨okd58,hdg59⟩:=hx63
   refine Bu (LL':=[gd56.seg 5 (mc b8 ys57),NG kn48 sn49,Rp p11,Rq p8 q0 q1 q2]) rfl ?_
   have hl62:=hdg59.hl
   refine Ab 2 (Ax rfl (Au [1] [0,2,3] (fun w_ hm_ hl_=>(Ph kn48 sn49 _ 17 (sr:Int) (d:Int) (q0:Int) (q1:Int) 9 17 0 (sr:Int) (d:Int) gd56.a ys57.length gd56.cap 1 0 true ((((mT ys57 0).toNat:Nat):Int) !=0) 0 false (nw50:Int) dr FS (dgF sr d ys57) (dgV 9 0 sr d ys57) (fun _=>0) (dgS sr d ys57) _ hIp hl_ Ag (by rw[hkc];exact⟨by decide,by decide⟩) Al (Mv hdg59) Ag (Ri hdg59 okd58.le (fun LL_ w2_ h2_=>FS.at (i:=LL_.length+0) (t:=5) (Mem.back (LL:=[NG kn48 sn49]) (R:=[gd56.seg 5 (mc b8 ys57),Rp p11,Rq p8 q0 q1 q2]) (Mem.pick [1,0,2,3] Al hm_ rfl) h2_) ((En 0).trans rfl) (Aj okd58 (Ba _)))) (Rj hdg59) (Rk hdg59) (Rl hdg59 okd58.le (fun LL_ w2_ h2_=>FS.at (i:=LL_.length+0) (t:=5) (Mem.back (LL:=[NG kn48 sn49]) (R:=[gd56.seg 5 (mc b8 ys57),Rp p11,Rq p8 q0 q1 q2]) (Mem.pick [1,0,2,3] Al hm_ rfl) h2_) ((En 0).trans rfl) (Aj okd58 (Ba _)))) (Rm hdg59 okd58.le (fun LL_ w2_ h2_=>FS.at (i:=LL_.length+0) (t:=5) (Mem.back (LL:=[NG kn48 sn49]) (R:=[gd56.seg 5 (mc b8 ys57),Rp p11,Rq p8 q0 q1 q2]) (Mem.pick [1,0,2,3] Al hm_ rfl) h2_) ((En 0).trans rfl) (Aj okd58 (Ba _)))) (C2 (L:=[NG kn48 sn49]) (R:=[gd56.seg 5 (mc b8 ys57),Rp p11,Rq p8 q0 q1 q2]) htab hne (Mem.pick [1,0,2,3] Al hm_ rfl)).1 (C2 (L:=[NG kn48 sn49]) (R:=[gd56.seg 5 (mc b8 ys57),Rp p11,Rq p8 q0 q1 q2]) htab hne (Mem.pick [1,0,2,3] Al hm_ rfl)).2 (by rw[hmp];rfl) (by rw[hkf];rfl)))) (fun q72 hx74=>?_))
   obtain⟨sr64,cd65,pv66,bl67⟩:=q72
   dsimp only at hx74
   obtain⟨hI68,hms69,hls70,hO71⟩:=hx74
   refine Bu (LL':=[NG kn48 sr64,bl67,gd56.seg 5 (mc b8 ys57),Rp p11,Rq p8 q0 q1 q2]) rfl ?_
   skip
   ·obtain⟨xo_,hxo_,hxf_,hxl_,hs_⟩:=Aka hIp hmp hkf hkm hlp hO71
    have hxr_:=(hI68.a.rng xo_ hxo_).ext
    obtain⟨ex_,hex_⟩:=Int.eq_ofNat_of_zero_le hxr_.1
    rw[hex_]at hs_ hxr_
    obtain⟨rfl,x75,ys76,okx77,rfl,rfl,hD78⟩:=Jr (s2:=3405803781) (d2:=d) (f2:=ex_) (t2:=q1) hdg59 hs_ (by rw[hkc];rfl) Al Ag Ag Ag
    have hm1_:sr64.p.ms=[]:=hms69.trans hmp
    refine Ab 3 (Ai rfl (Bc Tryz.zeroValue40) (fun p17=>?_))
    refine Ai rfl (A4 p17 0 0 0 [iV .u8 9,iV .u8 17,iV .u16 0,nV .u32 3405803781,nV .u32 d,sL x75.a ys76.length x75.cap] Tryz.sizeOf40 rfl rfl) (fun _=>Ab 1 (Ac (hK55 _ _ _ (Ap [0,1,2,4,5] Al rfl ?_))))
    refine Ad (fun K80 hK80=>Aa (Ah (A0 p17 0 0 0 [iV .u8 9,iV .u8 17,iV .u16 0,nV .u32 3405803781,nV .u32 d,sL x75.a ys76.length x75.cap] Tryz.isAgg40 Tryz.sizeOf40) (B0 (v:=Value.tuple #[aV [iV .u8 17,iV .u32 3405803781,nV .u32 d,nV .u16 ex_,nV .u16 q1],iV .i64 1,iV .i64 0]) (A9 (fun w_ hm_=>(Pi (ttl:=9) (pid:=0) hD78 okx77.le (FS.at (i:=2) (t:=5) hm_ rfl (Aj okx77 (Ba _)))))) (Ab 4 ?_))))
    refine Ai rfl (Bc Tryz.zeroValue47) (fun p19=>Ai rfl (A4 p19 0 0 0 [iV .u8 17,iV .u32 3405803781,nV .u32 d,nV .u16 ex_,nV .u16 q1] Tryz.sizeOf47 rfl rfl) (fun _=>?_))
    refine Ab 2 (Ac (hK80 _ _ _ (Ap [0,2,4,5] Al rfl (Ad (fun K82 hK82=>?_)))))
    refine Ad (fun K83 hK83=>Aa (Ab 3 (Am (v:=pV p19 1) (true) rfl Ae rfl (fun _=>Ys.p) (Am (v:=iV .u32 3405803781) (true) rfl Ae rfl (fun _=>Bp (b:=p19) (o':=1) (i:=0) (j:=0) (v:=iV .u32 3405803781) rfl Ae Tryz.isAgg24 rfl rfl rfl) ?_))))
    refine Am (v:=pV p11 19) (true) rfl Ae rfl (fun _=>Ys.p) (Am (v:=iV .u32 3405803781) (true) rfl Ae rfl (fun _=>Bp (b:=p11) (o':=19) (i:=2) (j:=0) (v:=iV .u32 3405803781) rfl Ae Tryz.isAgg24 rfl rfl rfl) (Am (v:=bV false) (true) rfl Ae rfl (fun _=>Ys.p) (Ab 2 (Am (v:=pV p19 2) (true) rfl Ae rfl (fun _=>Ys.p) ?_))))
    refine Am (v:=nV .u32 d) (true) rfl Ae rfl (fun _=>Bp (b:=p19) (o':=2) (i:=0) (j:=0) (v:=nV .u32 d) rfl Ae Tryz.isAgg24 rfl rfl rfl) (Am (v:=nV .u32 d) (true) rfl Ae rfl (fun _=>Ys.p) (Am (v:=bV (((d:Nat):Int) !=(d:Int))) (true) rfl Ae rfl (fun _=>Ys.p) (Ab 2 ?_)))
    refine Am (v:=pV p19 4) (!(((d:Nat):Int) !=(d:Int))) rfl (B3 rfl Ae) rfl (fun hg84=>?_) ?_
    ·exact Ys.p
    refine Am (v:=nV .u16 q1) (!(((d:Nat):Int) !=(d:Int))) rfl (B3 rfl Ae) rfl (fun hg85=>?_) ?_
    ·refine Bh (t:=90) (v0:=pV p19 4) (lz (g:= !(((d:Nat):Int) !=(d:Int))) (u:=undef) hg85 Ae) ?_
     exact An p19 4 0 0 Tryz.isAgg22
    refine Am (v:=pV p8 1) (!(((d:Nat):Int) !=(d:Int))) rfl (B3 rfl Ae) rfl (fun hg86=>?_) ?_
    ·exact Ys.p
    refine Am (v:=nV .u16 q1) (!(((d:Nat):Int) !=(d:Int))) rfl (B3 rfl Ae) rfl (fun hg87=>?_) ?_
    ·refine Bh (t:=92) (v0:=pV p8 1) (lz (g:= !(((d:Nat):Int) !=(d:Int))) (u:=undef) hg87 Ae) ?_
     exact An p8 1 3 0 Tryz.isAgg22
    refine Am (v:=bV (((q1:Nat):Int) !=(q1:Int))) (!(((d:Nat):Int) !=(d:Int))) rfl (B3 rfl Ae) rfl (fun hg88=>?_) ?_
    ·refine Bh (t:=91) (v0:=nV .u16 q1) (lz (g:= !(((d:Nat):Int) !=(d:Int))) (u:=undef) hg88 Ae) (Bh (t:=93) (v0:=nV .u16 q1) (lz (g:= !(((d:Nat):Int) !=(d:Int))) (u:=undef) hg88 Ae) ?_)
     exact Ys.p
    refine Ah (v:=bV (((d:Int) !=(d:Int))||(((q1:Nat):Int) !=(q1:Int)))) (Dr (e:=(d:Int) !=(d:Int)) (b:=(q1:Int) !=(q1:Int)) rfl Ae Ae Ae) (Ac (hK83 _ _ _ ?_))
    refine Ao (((d:Int) !=(d:Int))||(((q1:Nat):Int) !=(q1:Int))) Ae (fun h90=>?_) (fun h91=>?_)
    ·have qh90:=h90;try simp only[zA]at qh90
     (exfalso;have z_:=h90;simp at z_)
    ·have qh91:=h91;try simp only[zA]at qh91
     refine Ak (hK82 _ _ _ (Ad (fun K93 hK93=>Aa (Ab 3 ?_))))
     refine Ah (An p11 19 2 0 Tryz.isAgg24) (Ab 1 (Ah (An p8 1 3 0 Tryz.isAgg22) (Ab 1 (Ah (An p19 3 0 0 Tryz.isAgg22) ?_))))
     refine Ax rfl (Au [] [0,1,2,3] (fun w_ hm_ hl_=>(F7 d 3405803781 q1 ex_ _ Ag Ag Ag Ag))) (fun q98 hx101=>?_)
     obtain⟨gd94,ys95⟩:=q98
     dsimp only at hx101
     obtain⟨okd96,hdg97⟩:=hx101
     refine Bu (LL':=[gd94.seg 5 (mc b8 ys95),[cb p19 [iV .u8 17,iV .u32 3405803781,nV .u32 d,nV .u16 ex_,nV .u16 q1] 47],NG kn48 sr64,Rp p11,Rq p8 q0 q1 q2]) rfl ?_
     have hl100:=hdg97.hl
     refine Ab 1 (Ah (v:=nV .u64 (nw50+200)) ((Ys.p (v:=.int .u64 (Bt .u64 (nw50:Int) ((200:Nat):Int)))).conseq (Af (E7 rfl H0))) (Ax rfl (Au [2] [0,1,3,4] (fun w_ hm_ hl_=>(Ajd kn48 sr64 _ 17 (d:Int) ((3405803781:Nat):Int) (q1:Int) ex_ 9 17 0 (d:Int) ((3405803781:Nat):Int) gd94.a ys95.length gd94.cap 1 0 true ((((mT ys95 0).toNat:Nat):Int) !=0) 0 false ((nw50+200:Nat):Int) FS (dgF d 3405803781 ys95) (dgV 9 0 d 3405803781 ys95) (fun _=>0) (dgS d 3405803781 ys95) _ hI68 hl_ Ag (by rw[hkc];exact⟨by decide,by decide⟩) Al Ag (Mv hdg97) (Ri hdg97 okd96.le (fun LL_ w2_ h2_=>FS.at (i:=LL_.length+0) (t:=5) (Mem.back (LL:=[NG kn48 sr64]) (R:=[gd94.seg 5 (mc b8 ys95),[cb p19 [iV .u8 17,iV .u32 3405803781,nV .u32 d,nV .u16 ex_,nV .u16 q1] 47],Rp p11,Rq p8 q0 q1 q2]) (Mem.pick [2,0,1,3,4] Al hm_ rfl) h2_) ((En 0).trans rfl) (Aj okd96 (Ba _)))) (Rj hdg97) (Rk hdg97) (Rl hdg97 okd96.le (fun LL_ w2_ h2_=>FS.at (i:=LL_.length+0) (t:=5) (Mem.back (LL:=[NG kn48 sr64]) (R:=[gd94.seg 5 (mc b8 ys95),[cb p19 [iV .u8 17,iV .u32 3405803781,nV .u32 d,nV .u16 ex_,nV .u16 q1] 47],Rp p11,Rq p8 q0 q1 q2]) (Mem.pick [2,0,1,3,4] Al hm_ rfl) h2_) ((En 0).trans rfl) (Aj okd96 (Ba _)))) (Rm hdg97 okd96.le (fun LL_ w2_ h2_=>FS.at (i:=LL_.length+0) (t:=5) (Mem.back (LL:=[NG kn48 sr64]) (R:=[gd94.seg 5 (mc b8 ys95),[cb p19 [iV .u8 17,iV .u32 3405803781,nV .u32 d,nV .u16 ex_,nV .u16 q1] 47],Rp p11,Rq p8 q0 q1 q2]) (Mem.pick [2,0,1,3,4] Al hm_ rfl) h2_) ((En 0).trans rfl) (Aj okd96 (Ba _)))) (by rw[hm1_];rfl) (by rw[hkc]) (by rw[hkf];rfl)))) (fun q110 hx112=>?_)))
     obtain⟨sr102,cd103,pv104,bl105⟩:=q110
     dsimp only at hx112
     obtain⟨hI106,hms107,hls108,hO109⟩:=hx112
     refine Bu (LL':=[NG kn48 sr102,bl105,gd94.seg 5 (mc b8 ys95),[cb p19 [iV .u8 17,iV .u32 3405803781,nV .u32 d,nV .u16 ex_,nV .u16 q1] 47],Rp p11,Rq p8 q0 q1 q2]) rfl ?_
     skip
     ·obtain⟨⟨y_,hy_,hyr_⟩,ht_⟩:=Amt hI68 hm1_ hkf hxo_ hxl_ ⟨congrArg (·.1) hxf_,hex_,congrArg (·.2.2.1) hxf_,congrArg (·.2.2.2.2) hxf_⟩ (by rw[hkc];rfl) hO109
      obtain⟨rfl,x113,ys114,okx115,rfl,rfl,hD116⟩:=Jr (s2:=d) (d2:=sr) (f2:=q1) (t2:=q0) hdg97 ht_ (by rw[show xo_.2.src=(sr:Int) from congrArg (·.2.1) hxf_,show xo_.2.frm=(q0:Int) from congrArg (·.2.2.2.1) hxf_]) Ag Ag Ag Ag
      have hm2_:sr102.p.ms=[]:=hms107.trans hm1_
      refine Ab 3 (Ai rfl (Bc Tryz.zeroValue40) (fun p22=>?_))
      refine Ai rfl (A4 p22 0 0 0 [iV .u8 9,iV .u8 17,iV .u16 0,nV .u32 d,nV .u32 sr,sL x113.a ys114.length x113.cap] Tryz.sizeOf40 rfl rfl) (fun _=>Ab 1 (Ac (hK93 _ _ _ (Ap [0,1,2,4,5,6] Al rfl ?_))))
      refine Ad (fun K118 hK118=>Aa (Ah (A0 p22 0 0 0 [iV .u8 9,iV .u8 17,iV .u16 0,nV .u32 d,nV .u32 sr,sL x113.a ys114.length x113.cap] Tryz.isAgg40 Tryz.sizeOf40) (B0 (v:=Value.tuple #[aV (Q32 d q0 q1 sr),iV .i64 1,iV .i64 0]) (A9 (fun w_ hm_=>(Pi (ttl:=9) (pid:=0) hD116 okx115.le (FS.at (i:=2) (t:=5) hm_ rfl (Aj okx115 (Ba _)))))) (Ab 4 ?_))))
      refine Ai rfl (Bc Tryz.zeroValue47) (fun p23=>Ai rfl (A4 p23 0 0 0 (Q32 d q0 q1 sr) Tryz.sizeOf47 rfl rfl) (fun _=>?_))
      refine Ab 2 (Ac (hK118 _ _ _ (Ap [0,2,4,5,6] Al rfl (Ad (fun K120 hK120=>?_)))))
      refine Ad (fun K121 hK121=>Aa (Ab 3 (Am (v:=aV (Q32 d q0 q1 sr)) (true) rfl Ae rfl (fun _=>A0 p23 0 0 0 (Q32 d q0 q1 sr) Tryz.isAgg47 Tryz.sizeOf47) (Am (v:=nV .u32 d) (true) rfl Ae rfl (fun _=>Ys.p) ?_))))
      refine Am (v:=nV .u32 sr) (true) rfl Ae rfl (fun _=>Ys.p) (Am (v:=pV p8 1) (true) rfl Ae rfl (fun _=>Ys.p) (Am (v:=nV .u16 q1) (true) rfl Ae rfl (fun _=>Bp (b:=p8) (o':=1) (i:=4) (j:=0) (v:=nV .u16 q1) rfl Ae Tryz.isAgg22 rfl rfl rfl) (Am (v:=pV p8 0) (true) rfl Ae rfl (fun _=>Ys.p) (Am (v:=nV .u16 q0) (true) rfl Ae rfl (fun _=>Bp (b:=p8) (o':=0) (i:=4) (j:=0) (v:=nV .u16 q0) rfl Ae Tryz.isAgg22 rfl rfl rfl) ?_))))
      refine Am (v:=aV (Q32 d q0 q1 sr)) (true) rfl Ae rfl (fun _=>Ys.p) (Am (v:=bV (!(Di (Q32 d q0 q1 sr) (Q32 d q0 q1 sr)))) (true) rfl Ae rfl (fun _=>Ahl (ls:=[.int .u8,.int .u32,.int .u32,.int .u16,.int .u16]) (cs:=(Q32 d q0 q1 sr)) (cs':=(Q32 d q0 q1 sr)) (b:=Di (Q32 d q0 q1 sr) (Q32 d q0 q1 sr)) rfl Ae Ae Ae Ae Ae ⟨⟨_,rfl⟩,⟨_,rfl⟩,⟨_,rfl⟩,⟨_,rfl⟩,⟨_,rfl⟩,trivial⟩ ⟨⟨_,rfl⟩,⟨_,rfl⟩,⟨_,rfl⟩,⟨_,rfl⟩,⟨_,rfl⟩,trivial⟩ rfl) (Ab 1 (Ac (hK121 _ _ _ ?_))))
      refine Ap [1,2,3,4] Al rfl ?_
      refine Ao (!(Di [iV .u8 17,nV .u32 d,nV .u32 sr,nV .u16 q1,nV .u16 q0] [iV .u8 17,nV .u32 d,nV .u32 sr,nV .u16 q1,nV .u16 q0])) Ae (fun h123=>?_) (fun h124=>?_)
      ·(exfalso;have z_:=h123;simp[Di,Oo]at z_)
      ·refine Ak (hK120 _ _ _ (Ad (fun K126 hK126=>Aa (Ab 2 ?_))))
       refine Ah (v:=nV .u64 (nw50+500)) ((Ys.p (v:=.int .u64 (Bt .u64 (nw50:Int) ((500:Nat):Int)))).conseq (Af (E7 rfl H0))) (Ax rfl (Au [0] [1,2,3] (fun w_ hm_ hl_=>(Um kn48 sr102 _ ((nw50+500:Nat):Int) _ hI106.ok hl_ hI106.a hI106.b hI106.fr hI106.fu hI106.mr))) (fun sr127 hx133=>?_))
       obtain⟨hI128,hms129,hls130,hes131⟩:=hx133
       refine Ac (hK126 _ _ _ (Ad (fun K135 hK135=>Aa (Ab 3 ?_))))
       refine Ah (An p11 19 2 0 Tryz.isAgg24) (Ab 1 (Ah (An p8 1 3 0 Tryz.isAgg22) (Ab 1 (Ah (An p19 3 1 0 Tryz.isAgg22) ?_))))
       refine Ax rfl (Au [] [0,1,2,3] (fun w_ hm_ hl_=>(F7 d 3405803781 q1 ex_ _ Ag Ag Ag Ag))) (fun q140 hx143=>?_)
       obtain⟨gd136,ys137⟩:=q140
       dsimp only at hx143
       obtain⟨okd138,hdg139⟩:=hx143
       refine Bu (LL':=[gd136.seg 5 (mc b8 ys137),NG kn48 sr127,[cb p19 [iV .u8 17,iV .u32 3405803781,nV .u32 d,nV .u16 ex_,nV .u16 q1] 47],Rp p11,Rq p8 q0 q1 q2]) rfl ?_
       have hl142:=hdg139.hl
       refine Ab 1 (Ah (v:=nV .u64 (nw50+500)) ((Ys.p (v:=.int .u64 (Bt .u64 (nw50:Int) ((500:Nat):Int)))).conseq (Af (E7 rfl H0))) (Ax rfl (Au [1] [0,2,3,4] (fun w_ hm_ hl_=>(Ajd kn48 sr127 _ 17 (d:Int) ((3405803781:Nat):Int) (q1:Int) ex_ 9 17 0 (d:Int) ((3405803781:Nat):Int) gd136.a ys137.length gd136.cap 1 0 true ((((mT ys137 0).toNat:Nat):Int) !=0) 0 false ((nw50+500:Nat):Int) FS (dgF d 3405803781 ys137) (dgV 9 0 d 3405803781 ys137) (fun _=>0) (dgS d 3405803781 ys137) _ hI128 hl_ Ag (by rw[hkc];exact⟨by decide,by decide⟩) Al Ag (Mv hdg139) (Ri hdg139 okd138.le (fun LL_ w2_ h2_=>FS.at (i:=LL_.length+0) (t:=5) (Mem.back (LL:=[NG kn48 sr127]) (R:=[gd136.seg 5 (mc b8 ys137),[cb p19 [iV .u8 17,iV .u32 3405803781,nV .u32 d,nV .u16 ex_,nV .u16 q1] 47],Rp p11,Rq p8 q0 q1 q2]) (Mem.pick [1,0,2,3,4] Al hm_ rfl) h2_) ((En 0).trans rfl) (Aj okd138 (Ba _)))) (Rj hdg139) (Rk hdg139) (Rl hdg139 okd138.le (fun LL_ w2_ h2_=>FS.at (i:=LL_.length+0) (t:=5) (Mem.back (LL:=[NG kn48 sr127]) (R:=[gd136.seg 5 (mc b8 ys137),[cb p19 [iV .u8 17,iV .u32 3405803781,nV .u32 d,nV .u16 ex_,nV .u16 q1] 47],Rp p11,Rq p8 q0 q1 q2]) (Mem.pick [1,0,2,3,4] Al hm_ rfl) h2_) ((En 0).trans rfl) (Aj okd138 (Ba _)))) (Rm hdg139 okd138.le (fun LL_ w2_ h2_=>FS.at (i:=LL_.length+0) (t:=5) (Mem.back (LL:=[NG kn48 sr127]) (R:=[gd136.seg 5 (mc b8 ys137),[cb p19 [iV .u8 17,iV .u32 3405803781,nV .u32 d,nV .u16 ex_,nV .u16 q1] 47],Rp p11,Rq p8 q0 q1 q2]) (Mem.pick [1,0,2,3,4] Al hm_ rfl) h2_) ((En 0).trans rfl) (Aj okd138 (Ba _)))) (by rw[(hms129.trans hm2_)];rfl) (by rw[hkc]) (by rw[hkf];rfl)))) (fun q152 hx154=>?_)))
       obtain⟨sr144,cd145,pv146,bl147⟩:=q152
       dsimp only at hx154
       obtain⟨hI148,hms149,hls150,hO151⟩:=hx154
       refine Bu (LL':=[NG kn48 sr144,bl147,gd136.seg 5 (mc b8 ys137),[cb p19 [iV .u8 17,iV .u32 3405803781,nV .u32 d,nV .u16 ex_,nV .u16 q1] 47],Rp p11,Rq p8 q0 q1 q2]) rfl ?_
       skip
       ·have hye_:y_.2.ends=((nw50+500:Nat):Int):=by rw[hyr_.ends (congrArg (·.1) hxf_),Akc Ag]
        have hcd_:=Amu (hms129.trans hm2_) hkf (by rw[hkc]) (Akb hI106 hm2_ hkf hy_ ⟨hyr_.pr.trans (congrArg (·.1) hxf_),hyr_.ext.trans hex_,hyr_.dst.trans (congrArg (·.2.2.1) hxf_),hyr_.dto.trans (congrArg (·.2.2.2.2) hxf_)⟩ (by rw[hye_];exact Int.le_refl _) hes131) (by rw[hkc];rfl) hO151
        refine Ab 4 (Ac (hK135 _ _ _ (Ap [0,1] Al rfl (Ad (fun K156 hK156=>?_)))))
        refine Aa (Ab 3 (Ac (hK156 _ _ _ (Aq (fn:=Tryz.f4) rfl (fun w_ hS_=>Bb rfl (Aw (bV (cd145==21))) hS_ ⟨by clear hK1 hK3 hK4 hK7 hK8 hK14 hK16 hK18 hK20 hK21 hJ23 hK26 hK27 hK47 hK55 hK80 hK82 hK83 hK93 hK118 hK120 hK121 hK126 hK135 hK156;refine congrArg Ending.returned ?_;exact Cj (by rw[hcd_];rfl),hS_.below⟩)))))
end Go.Proofs.YtmonlaoaengfdaaGreatDoor.Oct
