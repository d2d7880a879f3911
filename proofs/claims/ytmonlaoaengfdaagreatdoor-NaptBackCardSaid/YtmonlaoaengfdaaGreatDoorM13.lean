import Derived.Test.YtmonlaoaengfdaaGreatDoorM12
set_option linter.unusedVariables false
set_option linter.unusedSimpArgs false
set_option maxRecDepth 20000
namespace Go.Proofs.YtmonlaoaengfdaaGreatDoor.Oct
open Go.RowKit Base
attribute [local irreducible] Ys Yc Ht HtS HtIn Wl Wd W Mem pf D4 Wa Wo
open Conf (Fwd fwv)
structure PkV where
  (ttl pro pid src dst:Int)
  ba:Option Addr
  (bl bc:Nat)
def PkV.v(x:PkV):Value:=.agg [.int .u8 x.ttl,.int .u8 x.pro,.int .u16 x.pid,.int .u32 x.src,.int .u32 x.dst,.slice x.ba x.bl x.bc].toArray
abbrev Yw:PkV:=⟨0,0,0,0,0,none,0,0⟩
abbrev flV(g:B2):Value:=.agg [.int .u8 g.1,.int .u32 g.2.1,.int .u32 g.2.2.1,.int .u16 g.2.2.2.1,.int .u16 g.2.2.2.2].toArray
def Ke{β:Type}(Φr:B2→β→Prop)(rv:B2→β→PkV)(re:B2→Int)(rs:B2→β→List Blk)(g:B2)(cd:Int)(pv:PkV)(bl:List Blk):Prop:=cd=re g∧ ∃x,Φr g x∧pv=rv g x∧bl=rs g x
inductive OutR{β:Type}(Φr:B2→β→Prop)(rv:B2→β→PkV)(re:B2→Int)(rs:B2→β→List Blk)(k:NK)(s:NS)(f:B2)(src kd oc:Int)(bg qu:Bool)(dr:Nat)(now:Int)(r:NS)(cd:Int)(pv:PkV)(bl:List Blk):Prop
  |no (hcd:cd≠0) (hes:r.p.es=s.p.es) (why:oc≠0∨(kd=3∧(Bl s.p.xs f=false∨src≠f.2.1))∨(kd=2∧qu=false)∨(kd≠3∧Bl s.p.xs f=false∧(bg=false∨k.mo≤(s.p.xs.length:Int)∨(Hg s.p.ms k.fx f=none∧Bl s.p.zs (B1 f)=false∧ ¬pk (s.p.TT f.1.toNat) dr<65536)))):OutR Φr rv re rs k s f src kd oc bg qu dr now r cd pv bl
  |err (ho:oc=0) (hk:kd=3) (hes:r.p.es=s.p.es) (x:Nat×SesE) (hx:x∈s.p.es) (hf:Dm x.2=f) (hs:Ke Φr rv re rs (f.1,k.c.wan,f.2.2.1,x.2.ext,f.2.2.2.2) cd pv bl):OutR Φr rv re rs k s f src kd oc bg qu dr now r cd pv bl
  |old (ho:oc=0) (hk:kd≠3) (hq:kd=2→qu=true) (A B:List (Nat×SesE)) (b:Nat) (e e':SesE) (he:s.p.es=A++(b,e)::B) (hf:Dm e=f) (hr:RenE e now true e') (hes:r.p.es=A++(b,e')::B) (hs:Ke Φr rv re rs (f.1,k.c.wan,f.2.2.1,e.ext,f.2.2.2.2) cd pv bl):OutR Φr rv re rs k s f src kd oc bg qu dr now r cd pv bl
  |new (ho:oc=0) (hk:kd≠3) (hq:kd=2→qu=true) (hno:Bl s.p.xs f=false) (ext:Int) (gv:Bool) (hx:OpenX k s.p f dr ext gv) (A B:List (Nat×SesE)) (b:Nat) (e':SesE) (he:s.p.es=A++B) (hr:RenE (Pc f ext s.p.lst gv) now true e') (hes:r.p.es=A++(b,e')::B) (hs:Ke Φr rv re rs (f.1,k.c.wan,f.2.2.1,ext,f.2.2.2.2) cd pv bl):OutR Φr rv re rs k s f src kd oc bg qu dr now r cd pv bl
theorem Mr{f:B2}(h:RngFl f){a e:Int}(ha:0≤a∧a≤4294967295)(he:0≤e∧e≤65535):RngFl (f.1,a,f.2.2.1,e,f.2.2.2.2):=⟨h.1,ha,h.2.2.1,he,h.2.2.2.2⟩
abbrev Q1b(ba:Option Addr)(bc bl p5:Nat)(dst pid pro src ttl:Int):List Blk:=[cb p5 [iV .u8 ttl,iV .u8 pro,iV .u16 pid,iV .u32 src,iV .u32 dst,sL ba bl bc] 40]
abbrev Q1c(p8:Nat):List Blk:=[cb p8 M9 40]
abbrev Q1d(ds dt fm sr:Int)(p10 pr:Nat):List Blk:=[cb p10 [nV .u8 pr,iV .u32 sr,iV .u32 ds,iV .u16 fm,iV .u16 dt] 47]
abbrev Q1e(e68:SesE)(xb50:Nat):List Blk:=[cb xb50 [iV .u8 e68.pr,iV .u32 e68.src,iV .u32 e68.dst,iV .u16 e68.frm,iV .u16 e68.dto,iV .u16 e68.ext,iV .u64 e68.ends,bV e68.lan,bV e68.s0,bV e68.s1,bV e68.s2,bV e68.s3,bV e68.s4,iV .u64 e68.id,bV e68.given] 113]
abbrev Vr(ds dt fm sr:Int)(pr:Nat):B2:=(((pr:Nat):Int),sr,ds,fm,dt)
abbrev Q1g(ds dt ext52:Int)(k:NK)(pr:Nat):B2:=(((pr:Nat):Int),k.c.wan,ds,ext52,dt)
abbrev Xl(ba:Option Addr)(bc bl:Nat)(dst pid pro src ttl:Int):List Value:=[iV .u8 ttl,iV .u8 pro,iV .u16 pid,iV .u32 src,iV .u32 dst,sL ba bl bc]
abbrev Q1i:List Value:=M9
abbrev Q1j(ds dt fm sr:Int)(pr:Nat):List Value:=[nV .u8 pr,iV .u32 sr,iV .u32 ds,iV .u16 fm,iV .u16 dt]
set_option maxHeartbeats 1000000 in
theorem Ph(k:NK)(s:NS)(M:List Nat)(pr:Nat)(sr ds fm dt:Int)(ttl pro pid src dst:Int)(ba:Option Addr)(bl bc:Nat)(kd oc:Int)(bg qu:Bool)(fl:Int)(sg:Bool)(now:Int)(dr:Nat)(β:Type)(Φr:B2→β→Prop)(rv:B2→β→PkV)(re:B2→Int)(rs:B2→β→List Blk)(w:World)(hI:Inv k s)(hl:Mem w M [NG k s] w)(hls:s.p.lst≤1000000)(hwan:0≤k.c.wan∧k.c.wan≤4294967295)(hpr:pr<256)(hfr:RngFl (((pr:Nat):Int),sr,ds,fm,dt))(hdr:dr<18446744073709551616)(hof: ∀LL w1,Mem w M LL w1→Calls Tryz.prog 41 #[N6 ttl pro pid src dst ba bl bc] w1 (Dc w1 (.tuple #[Value.agg ([Value.int .u8 (pr:Int),Value.int .u32 sr,Value.int .u32 ds,Value.int .u16 fm,Value.int .u16 dt]).toArray,.int .i64 kd,.int .i64 oc])))(hbg: ∀LL w1,Mem w M LL w1→Calls Tryz.prog 99 #[N6 ttl pro pid src dst ba bl bc] w1 (Dc w1 (.bool bg)))(hfl: ∀LL w1,Mem w M LL w1→Calls Tryz.prog 88 #[N6 ttl pro pid src dst ba bl bc] w1 (Dc w1 (.tuple #[.int .u8 fl,.bool sg])))(hqu: ∀LL w1,Mem w M LL w1→Calls Tryz.prog 42 #[N6 ttl pro pid src dst ba bl bc] w1 (Dc w1 (.bool qu)))(hrw: ∀g LL w1,Mem w M LL w1→RngFl g→g.1=(pr:Int)→Calls Tryz.prog 45 #[N6 ttl pro pid src dst ba bl bc,flV g] w1 (Bj w1 (fun x:β=>Φr g x) (fun x=>.tuple #[(rv g x).v,.int .i64 (re g)]) [] (fun x=>[rs g x])))(htab:At w (some ⟨0,0,none⟩) (Ci dbt))(hne:0<(Ci dbt).length→(Option.getD (some (⟨0,0,none⟩:Addr)) default).block∉M)(hm0:s.p.ms.length=0)(hf0:k.fx.length=0):Calls Tryz.prog 16 #[pL (some ⟨k.nb,0,none⟩),aV [iV .u8 ttl,iV .u8 pro,iV .u16 pid,iV .u32 src,iV .u32 dst,sL ba bl bc],iV .u64 now,nV .u64 dr] w (Bj w (fun r:NS×Int×PkV×List Blk=>Inv k r.1∧r.1.p.ms=s.p.ms∧r.1.p.lst≤s.p.lst+1∧OutR Φr rv re rs k s (((pr:Nat):Int),sr,ds,fm,dt) src kd oc bg qu dr now r.1 r.2.1 r.2.2.1 r.2.2.2) (fun r=>.tuple #[r.2.2.1.v,.int .i64 r.2.1]) M (fun r=>[NG k r.1,r.2.2.2])):=by
 have ok:=hI.ok;have hA:=hI.a;obtain⟨lxs,lys,lzs,lms,lfs⟩:=NOk.len ok;have hbo_:=Xi hA (by have z_:=Oa ok hA;omega) (((pr:Nat):Int),sr,fm);have hwl_:s.p.ws.length≤80000:=(by have z_:=hA.wln ok.hws;have y_:=Oa ok hA;omega);have hl0_:=hA.lst.1
 refine Ar (M:=M) (LL:=[NG k s]) (n:=99) Tryz.func16 rfl rfl A5 (hl) (Ad (fun K1 hK1=>?_))
 refine Aa (Ai rfl (Bx (Xl ba bc bl dst pid pro src ttl) rfl) (fun p5=>?_))
 refine Ai rfl (Bc Tryz.zeroValue40) (fun p8=>Ab 1 (Ac (hK1 _ _ _ (Ad (fun K3 hK3=>?_)))))
 refine Aa (Ah (A0 p5 0 1 0 (Xl ba bc bl dst pid pro src ttl) Tryz.isAgg40 Tryz.sizeOf40) (B0 (v:=Value.tuple #[aV (Q1j ds dt fm sr pr),iV .i64 kd,iV .i64 oc]) (A9 (fun w_ hm_=>(hof _ _ hm_))) (Ab 4 (Ai rfl (Bc Tryz.zeroValue47) (fun p10=>?_)))))
 refine Ai rfl (A4 p10 0 0 0 (Q1j ds dt fm sr pr) Tryz.sizeOf47 rfl rfl) (fun _=>Ab 2 (Ac (hK3 _ _ _ (Ad (fun K5 hK5=>?_)))))
 refine Ad (fun K6 hK6=>Aa (Ab 2 (Ac (hK6 _ _ _ ?_))))
 refine Ao (oc !=0) Ae (fun h8=>?_) (fun h9=>?_)
 ·have qh8:=h8;try simp only[zA]at qh8
  refine Ad (fun K10 hK10=>Aa (Ab 2 (Ai rfl (A4 p8 0 1 0 Q1i Tryz.sizeOf40 rfl rfl) (fun _=>Ab 1 ?_))))
  refine Ac (hK10 _ _ _ (Ap [1,3] Al rfl (Aq (fn:=Tryz.f16) rfl (fun w_ hS_=>B9 rfl (Bq p8 0 0 0 M9 Tryz.isAgg40 Tryz.sizeOf40) (Aw (iV .i64 oc)) hS_ ⟨(s,oc,Yw,[]),⟨hI,rfl,Mc,.no (by simpa using h8) rfl (.inl (by simpa using h8))⟩,rfl,(Mem.flat (LL:=[NG k s]) rfl (hS_.pick [1] Al rfl))⟩))))
 ·have qh9:=h9;try simp only[zA]at qh9
  refine Ak (hK5 _ _ _ (Ad (fun K13 hK13=>?_)))
  cases hhk:Bl s.p.xs (((pr:Nat):Int),sr,ds,fm,dt)
  ·refine Dh [(0,true),(1,true),(2,true),(3,true),(4,false),(5,false),(6,false),(7,true),(8,true),(9,false),(10,false)] [0,1,2,3,7,8] (Ay 3 (Wd.ys rfl rfl rfl (Bp (b:=k.nb) (o':=29) (i:=3) (j:=0) (cs:=Du k s) (v:=pL (some ⟨k.ts,0,none⟩)) rfl Ae Tryz.isAgg85 rfl rfl ((Cq rfl Al).trans rfl)) (Wd.yc (v:=aV (Q1j ds dt fm sr pr)) rfl rfl rfl (Ys.yc (A0 p10 0 0 0 (Q1j ds dt fm sr pr) Tryz.isAgg47 Tryz.sizeOf47)) (.inr fun _ h_=>h_) (Wd.yc (v:=Value.tuple #[pL (Cs (Bo none s.p.xs (Vr ds dt fm sr pr))),bV (Bl s.p.xs (Vr ds dt fm sr pr))]) rfl rfl rfl (A9 (fun w_ hm_=>(U7 s.p.xs s.gs.a s.gs.cap k.mo k.ts (Vr ds dt fm sr pr) _ (Ku (i:=3) hm_ rfl) (NG.xs (i:=3) hm_ rfl ok) Fb ok.hxs))) (.inr fun _ h_=>h_) ?_))))
   refine Wd.yc (v:=Value.tuple #[pL (Cs (Bo none s.p.xs (Vr ds dt fm sr pr))),bV (Bl s.p.xs (Vr ds dt fm sr pr))]) rfl rfl rfl (Ys.yc (Ys.p)) (.inr fun _ h_=>h_) (Wd.ys (v:=pL none) rfl rfl rfl ((Ys.p (v:=pL (Cs (Bo none s.p.xs (Vr ds dt fm sr pr))))).conseq ((by rw[Is hhk];rfl))) (Wd.ys (v:=bV false) rfl rfl rfl ((Ys.p (v:=bV (Bl s.p.xs (Vr ds dt fm sr pr)))).conseq (Cj (hhk))) (Wd.yc (v:=pL none) rfl rfl rfl (Ys.yc (Ys.p)) (.inr fun _ h_=>h_) (Wd.yc (v:=bV false) rfl rfl rfl (Ys.yc (Ys.p)) (.inl Ae) ?_))))
   refine A7 (hK13 _ _ _ (Ad (fun K15 hK15=>W.block (Ad (fun K16 hK16=>?_)))))
   refine Aa (Ab 3 (Ac (hK16 _ _ _ ?_)))
   refine Ao (kd==3) Ae (fun h18=>?_) (fun h19=>?_)
   ·have qh18:=h18;try simp only[zA]at qh18
    refine Ad (fun K20 hK20=>Ad (fun K21 hK21=>?_))
    refine Aa (Ab 3 (B7 Ae rfl (B7 Ae rfl (B7 Ae rfl ?_))))
    refine B7 Ae rfl (B7 Ae rfl (Ab 1 (Ac (hK21 _ _ _ ?_))))
    refine B5 Ae (Ad (fun K23 hK23=>?_))
    refine Aa (Ab 1 (Ai rfl (A4 p8 0 1 0 Q1i Tryz.sizeOf40 rfl rfl) (fun _=>Ab 1 (Ac ?_))))
    refine hK23 _ _ _ (Ap [1,3] Al rfl (Aq (fn:=Tryz.f16) rfl (fun w_ hS_=>B9 rfl (Bq p8 0 0 0 M9 Tryz.isAgg40 Tryz.sizeOf40) (Aw (iV .i64 21)) hS_ ⟨(s,21,Yw,[]),⟨hI,rfl,Mc,.no Rs rfl (.inr (.inl ⟨(by simpa using h18),.inl hhk⟩))⟩,rfl,(Mem.flat (LL:=[NG k s]) rfl (hS_.pick [1] Al rfl))⟩)))
   ·have qh19:=h19;try simp only[zA]at qh19
    refine Ad (fun K25 hK25=>Aa (Ab 3 ?_))
    refine Am (v:=aV (Xl ba bc bl dst pid pro src ttl)) (kd==2) rfl (Bi rfl Ae) rfl (fun hg26=>?_) ?_
    ·exact A0 p5 0 2 0 (Xl ba bc bl dst pid pro src ttl) Tryz.isAgg40 Tryz.sizeOf40
    refine Dn (v:=bV qu) (kd==2) rfl (Bi rfl Ae) rfl (fun hg27=>?_) ?_
    ·refine Eh (t:=63) (v0:=aV (Xl ba bc bl dst pid pro src ttl)) (lz (g:=kd==2) (u:=undef) hg27 Ae) ?_
     exact A9 (fun w_ hm_=>(hqu _ _ hm_))
    refine Am (v:=bV (!qu)) (kd==2) rfl (Bi rfl Ae) rfl (fun hg28=>?_) ?_
    ·refine Bh (t:=64) (v0:=bV qu) (lz (g:=kd==2) (u:=undef) hg28 Ae) ?_
     exact Ys.p
    refine Ah (v:=bV ((kd==2)&&(!qu))) (D0 (e:=kd==2) (b:= !qu) rfl Ae Ae Ae) (Ab 1 (Ac (hK25 _ _ _ ?_)))
    refine Ao ((kd==2)&&(!qu)) Ae (fun h30=>?_) (fun h31=>?_)
    ·have qh30:=h30;try simp only[zA]at qh30
     refine Ad (fun K32 hK32=>Aa (Ab 1 (Ai rfl (A4 p8 0 1 0 Q1i Tryz.sizeOf40 rfl rfl) (fun _=>Ab 1 ?_))))
     refine Ac (hK32 _ _ _ (Ap [1,3] Al rfl (Aq (fn:=Tryz.f16) rfl (fun w_ hS_=>B9 rfl (Bq p8 0 0 0 M9 Tryz.isAgg40 Tryz.sizeOf40) (Aw (iV .i64 21)) hS_ ⟨(s,21,Yw,[]),⟨hI,rfl,Mc,.no Rs rfl (.inr (.inr (.inl (by simpa using h30))))⟩,rfl,(Mem.flat (LL:=[NG k s]) rfl (hS_.pick [1] Al rfl))⟩))))
    ·have qh31:=h31;try simp only[zA]at qh31
     refine Ak (hK15 _ _ _ (Ad (fun K35 hK35=>Ad (fun K36 hK36=>Aa ?_))))
     refine Ab 2 (Ac (hK36 _ _ _ (B5 Ae (Ad (fun K38 hK38=>?_)))))
     refine Aa (Ab 1 (Ah (A0 p10 0 0 0 (Q1j ds dt fm sr pr) Tryz.isAgg47 Tryz.sizeOf47) (Ah (A0 p5 0 2 0 (Xl ba bc bl dst pid pro src ttl) Tryz.isAgg40 Tryz.sizeOf40) (Ab 1 ?_))))
     refine Ax rfl (Au [3] [0,1,2] (fun w_ hm_ hl_=>(Aiz k s _ pr sr ds fm dt ttl pro pid src dst ba bl bc bg dr _ ok hl_ Ag Ag hbo_.1 hbo_.2 (fun LL_ w2_ h2_=>hbg _ _ (Mem.back (LL:=[NG k s]) (R:=[Q1d ds dt fm sr p10 pr,Q1c p8,Q1b ba bc bl p5 dst pid pro src ttl]) (Mem.pick [3,0,1,2] Al hm_ rfl) h2_)) (C2 (L:=[NG k s]) (R:=[Q1d ds dt fm sr p10 pr,Q1c p8,Q1b ba bc bl p5 dst pid pro src ttl]) htab hne (Mem.pick [3,0,1,2] Al hm_ rfl)).1 (C2 (L:=[NG k s]) (R:=[Q1d ds dt fm sr p10 pr,Q1c p8,Q1b ba bc bl p5 dst pid pro src ttl]) htab hne (Mem.pick [3,0,1,2] Al hm_ rfl)).2 hm0 hf0))) (fun q44 hx56=>?_)
     obtain⟨s39,no40,cd41⟩:=q44
     dsimp only at hx56
     obtain⟨ok42,hor43⟩:=hx56
     refine Bu (LL':=[NG k s39,Alx no40,Q1d ds dt fm sr p10 pr,Q1c p8,Q1b ba bc bl p5 dst pid pro src ttl]) rfl ?_
     obtain⟨lxs39,lys39,lzs39,lms39,lfs39⟩:=NOk.len ok42
     rcases hor43 with hor43|hor43
     ·obtain⟨hno_,hc48,⟨tk_,hp46⟩,hw47⟩:=hor43
      obtain rfl:no40=none:=hno_
      have hcn_:(cd41 !=0)=true:=by rcases hc48 with h_|h_<;>(simp only at h_;rw[h_];rfl)
      have hp46:s39.p={s.p with tk:=tk_}:=hp46
      refine Ab 5 (Ac (hK38 _ _ _ (Ap [0,2,3,4] Al rfl (Ad (fun K58 hK58=>?_)))))
      refine Aa (Ab 1 (Ah (v:=bV true) ((Ys.p (v:=bV (cd41 !=0))).conseq (Cj (hcn_))) (Ac (hK58 _ _ _ ?_))))
      refine B5 Ae (Ad (fun K60 hK60=>?_))
      refine Aa (Ab 2 (Ai rfl (A4 p8 0 2 0 Q1i Tryz.sizeOf40 rfl rfl) (fun _=>Ab 1 (Ac ?_))))
      refine hK60 _ _ _ (Ap [0,2] Al rfl (Aq (fn:=Tryz.f16) rfl (fun w_ hS_=>B9 rfl (Bq p8 0 1 0 M9 Tryz.isAgg40 Tryz.sizeOf40) (Aw (iV .i64 cd41)) hS_ ⟨(s39,cd41,Yw,[]),⟨hI.tk ok42 hp46,by rw[hp46],by rw[hp46];show s.p.lst≤_;omega,.no (by simpa using hcn_) (by rw[hp46]) (.inr (.inr (.inr ⟨(by simpa using h19),hhk,hw47⟩)))⟩,rfl,(Mem.flat (LL:=[NG k s39]) rfl (hS_.pick [0] Al rfl))⟩)))
     ·obtain⟨hc48,hb54,hr55,ext52,gv53,xb50,pb51,hx49,hno_,hp46⟩:=hor43
      obtain rfl:no40=some (xb50,Pc (((pr:Nat):Int),sr,ds,fm,dt) ext52 s.p.lst gv53):=hno_
      obtain rfl:cd41=0:=hc48
      have hp46:s39.p=Sm k s.p (((pr:Nat):Int),sr,ds,fm,dt) ext52 gv53 xb50 pb51:=hp46
      refine Ab 5 (Ac (hK38 _ _ _ (Ad (fun K63 hK63=>Aa ?_))))
      refine Ab 2 (Ac (hK63 _ _ _ (B4 Ae (Ak ?_))))
      refine hK35 _ _ _ (Ad (fun K66 hK66=>?_))
      skip
      refine Aa (Ab 2 (Ah (A0 p5 0 4 0 (Xl ba bc bl dst pid pro src ttl) Tryz.isAgg40 Tryz.sizeOf40) (Ab 1 (Ax rfl (Au [0,1] [2,3,4] (fun w_ hm_ hl_=>(N7 k s39 _ (Pc (Vr ds dt fm sr pr) ext52 s.p.lst gv53) xb50 ttl pro pid src dst ba bl bc now fl true sg _ ok42 hl_ (by rw[show s39.p.ws=s.p.ws by rw[hp46]<;>rfl];have z_:=hwl_;omega) (fun LL_ w2_ h2_=>hfl _ _ (Mem.back (LL:=[NG k s39,[cb xb50 [nV .u8 pr,iV .u32 sr,iV .u32 ds,iV .u16 fm,iV .u16 dt,iV .u16 ext52,iV .u64 0,bV false,bV false,bV false,bV false,bV false,bV false,iV .u64 s.p.lst,bV gv53] 113]]) (R:=[Q1d ds dt fm sr p10 pr,Q1c p8,Q1b ba bc bl p5 dst pid pro src ttl]) (Mem.pick [0,1,2,3,4] Al hm_ rfl) h2_))))) (fun q72 hx74=>?_)))))
      obtain⟨s67,e68⟩:=q72
      dsimp only at hx74
      obtain⟨ok69,hrn70,hp71⟩:=hx74
      refine Bu (LL':=[NG k s67,Q1e e68 xb50,Q1d ds dt fm sr p10 pr,Q1c p8,Q1b ba bc bl p5 dst pid pro src ttl]) rfl ?_
      obtain⟨lxs67,lys67,lzs67,lms67,lfs67⟩:=NOk.len ok69
      refine Ac (hK66 _ _ _ (Ad (fun K76 hK76=>Dh [(0,true),(1,true),(2,true),(3,false),(4,false),(5,false),(6,false),(7,false),(8,false),(9,false),(10,true),(11,false),(12,false),(13,false)] [0,1,2,10] (Wd.ys rfl rfl rfl (A0 p5 0 4 0 (Xl ba bc bl dst pid pro src ttl) Tryz.isAgg40 Tryz.sizeOf40) ?_))))
      refine Ay 1 (Wd.ys rfl rfl rfl (A0 p10 0 2 0 (Q1j ds dt fm sr pr) Tryz.isAgg47 Tryz.sizeOf47) (Wd.yc (v:=pV xb50 0) rfl rfl rfl (Ys.yc (Ys.p)) (.inr fun _ h_=>h_) (Wd.yc (v:=pV xb50 0) rfl rfl rfl (Ys.yc (Ys.p)) (.inr fun _ h_=>h_) (Wd.yc (v:=pV xb50 0) rfl rfl rfl (Ys.yc (Ys.p)) (.inr fun _ h_=>h_) ?_))))
      refine Wd.yc (v:=pV xb50 5) rfl rfl rfl (Ys.yc (Ys.p)) (.inr fun _ h_=>h_) (Wd.yc (v:=iV .u16 ext52) rfl rfl rfl (Ys.yc (Ys.conseq (v:=iV .u16 e68.ext) (Af (hrn70.ext)) (An xb50 5 1 0 Tryz.isAgg22))) (.inr fun _ h_=>h_) (Wd.yc (v:=aV [nV .u8 pr,iV .u32 k.c.wan,iV .u32 ds,iV .u16 ext52,iV .u16 dt]) rfl rfl rfl (A9 (fun w_ hm_=>(Mq k.c k.fx k.gf.a k.gf.cap s67.p.ms s67.gm.a s67.gm.cap k.ts k.te s67.p.tk k.wb k.ti s67.p.lst k.nb (pr:Int) sr ds fm dt ext52 _ (Az (i:=0) (j:=0) (t:=91) (b:=k.nb) hm_ rfl rfl)))) (.inr fun _ h_=>h_) (Cd rfl rfl (Au [] [0,1,2,3,4] (fun w_ hm_ hl_=>(hrw (Q1g ds dt ext52 k pr) _ _ hm_ (Mr hfr hwan (OpenX.rng hI hx49)) rfl))) (.inr fun _ _ h_=>h_.pick [1,2,3,4,5] Al rfl) (fun rx77 hrx78=>Ay 1 ?_))))
      refine Wd.yc (v:=iV .i64 (re (Q1g ds dt ext52 k pr))) rfl rfl rfl (Ys.yc (Ys.p)) (.inr fun _ h_=>h_.pick [1,2,3,4,5] Al rfl) (B8 rfl rfl (A4 p8 0 4 0 [iV .u8 ((rv (Q1g ds dt ext52 k pr) rx77).ttl),iV .u8 ((rv (Q1g ds dt ext52 k pr) rx77).pro),iV .u16 ((rv (Q1g ds dt ext52 k pr) rx77).pid),iV .u32 ((rv (Q1g ds dt ext52 k pr) rx77).src),iV .u32 ((rv (Q1g ds dt ext52 k pr) rx77).dst),sL ((rv (Q1g ds dt ext52 k pr) rx77).ba) ((rv (Q1g ds dt ext52 k pr) rx77).bl) ((rv (Q1g ds dt ext52 k pr) rx77).bc)] Tryz.sizeOf40 rfl rfl) (.inl Ae) (fun _=>?_))
      refine Wd.yc (v:=iV .i64 (re (Q1g ds dt ext52 k pr))) rfl rfl rfl (Ys.yc (Ys.p)) (.inl Ae) (A7 (hK76 _ _ _ (Ap [0,1,2,4] Al rfl (Aq (fn:=Tryz.f16) rfl ?_))))
      have he_:s67.p.es=(s.p.es.take (Be ordF s.p.xs (((pr:Nat):Int),sr,ds,fm,dt)))++(s.p.es.drop (Be ordF s.p.xs (((pr:Nat):Int),sr,ds,fm,dt))):=by rw[hp71,hp46,List.take_append_drop]<;>rfl
      have hI2_:=Afo (p':=(Vm s67 ((s.p.es.take (Be ordF s.p.xs (((pr:Nat):Int),sr,ds,fm,dt)))++(xb50,e68)::(s.p.es.drop (Be ordF s.p.xs (((pr:Nat):Int),sr,ds,fm,dt))))).p) hI hhk Ag Ag (Yv hI (by show(0:Int)≤(pr:Int);omega) hx49) (Afn hfr (OpenX.rng hI hx49)) (OpenX.ho hI (by show(0:Int)≤(pr:Int);omega) hx49 _) hrn70 (by show({s67.p with es:=_}:NP)=_;rw[hp71,hp46]<;>rfl)
      exact fun w_ hS_=>B9 rfl (Bq p8 0 3 0 [iV .u8 ((rv (((pr:Nat):Int),k.c.wan,ds,ext52,dt) rx77).ttl),iV .u8 ((rv (((pr:Nat):Int),k.c.wan,ds,ext52,dt) rx77).pro),iV .u16 ((rv (((pr:Nat):Int),k.c.wan,ds,ext52,dt) rx77).pid),iV .u32 ((rv (((pr:Nat):Int),k.c.wan,ds,ext52,dt) rx77).src),iV .u32 ((rv (((pr:Nat):Int),k.c.wan,ds,ext52,dt) rx77).dst),Value.slice ((rv (((pr:Nat):Int),k.c.wan,ds,ext52,dt) rx77).ba) ((rv (((pr:Nat):Int),k.c.wan,ds,ext52,dt) rx77).bl) ((rv (((pr:Nat):Int),k.c.wan,ds,ext52,dt) rx77).bc)] Tryz.isAgg40 Tryz.sizeOf40) (Aw (iV .i64 (re (((pr:Nat):Int),k.c.wan,ds,ext52,dt)))) hS_ ⟨(Vm s67 ((s.p.es.take (Be ordF s.p.xs (((pr:Nat):Int),sr,ds,fm,dt)))++(xb50,e68)::(s.p.es.drop (Be ordF s.p.xs (((pr:Nat):Int),sr,ds,fm,dt)))),re (((pr:Nat):Int),k.c.wan,ds,ext52,dt),rv (((pr:Nat):Int),k.c.wan,ds,ext52,dt) rx77,rs (((pr:Nat):Int),k.c.wan,ds,ext52,dt) rx77),⟨⟨Jq ok69 _,hI2_.1,hI2_.2.1,hI.fr,hI.fu,(by rw[hI2_.2.2.1];exact hI.mr)⟩,hI2_.2.2.1,(by rw[hI2_.2.2.2];omega),.new (by simpa using h9) (by simpa using h19) (fun h_=>by have z_:=h31;rw[h_]at z_;simpa using z_) hhk ext52 gv53 hx49 (s.p.es.take (Be ordF s.p.xs (((pr:Nat):Int),sr,ds,fm,dt))) (s.p.es.drop (Be ordF s.p.xs (((pr:Nat):Int),sr,ds,fm,dt))) xb50 e68 (List.take_append_drop _ _).symm hrn70 rfl ⟨rfl,rx77,hrx78,rfl,rfl⟩⟩,rfl,(So he_ (Mem.pick [1,2,0] Al hS_ rfl))⟩
  ·obtain⟨fA,fB,eb,ee,hfe,hfl_,hgx⟩:=Yu hA ok.hxs hhk
   have hej:=Vq hfe
   have hmm_:(eb,ee)∈s.p.es:=by rw[hfe];exact Cf.2 (.inl rfl)
   refine Dh [(0,true),(1,true),(2,true),(3,true),(4,false),(5,false),(6,false),(7,true),(8,true),(9,false),(10,false)] [0,1,2,3,7,8] (Ay 3 (Wd.ys rfl rfl rfl (Bp (b:=k.nb) (o':=29) (i:=3) (j:=0) (cs:=Du k s) (v:=pL (some ⟨k.ts,0,none⟩)) rfl Ae Tryz.isAgg85 rfl rfl ((Cq rfl Al).trans rfl)) (Wd.yc (v:=aV (Q1j ds dt fm sr pr)) rfl rfl rfl (Ys.yc (A0 p10 0 0 0 (Q1j ds dt fm sr pr) Tryz.isAgg47 Tryz.sizeOf47)) (.inr fun _ h_=>h_) (Wd.yc (v:=Value.tuple #[pL (Cs (Bo none s.p.xs (Vr ds dt fm sr pr))),bV (Bl s.p.xs (Vr ds dt fm sr pr))]) rfl rfl rfl (A9 (fun w_ hm_=>(U7 s.p.xs s.gs.a s.gs.cap k.mo k.ts (Vr ds dt fm sr pr) _ (Ku (i:=3) hm_ rfl) (NG.xs (i:=3) hm_ rfl ok) Fb ok.hxs))) (.inr fun _ h_=>h_) ?_))))
   refine Wd.yc (v:=Value.tuple #[pL (Cs (Bo none s.p.xs (Vr ds dt fm sr pr))),bV (Bl s.p.xs (Vr ds dt fm sr pr))]) rfl rfl rfl (Ys.yc (Ys.p)) (.inr fun _ h_=>h_) (Wd.ys (v:=pV eb 0) rfl rfl rfl ((Ys.p (v:=pL (Cs (Bo none s.p.xs (Vr ds dt fm sr pr))))).conseq ((by rw[hgx];rfl))) (Wd.ys (v:=bV true) rfl rfl rfl ((Ys.p (v:=bV (Bl s.p.xs (Vr ds dt fm sr pr)))).conseq (Cj (hhk))) (Wd.yc (v:=pV eb 0) rfl rfl rfl (Ys.yc (Ys.p)) (.inr fun _ h_=>h_) (Wd.yc (v:=bV true) rfl rfl rfl (Ys.yc (Ys.p)) (.inl Ae) ?_))))
   refine A7 (hK13 _ _ _ (Ad (fun K82 hK82=>W.block (Ad (fun K83 hK83=>?_)))))
   refine Aa (Ab 3 (Ac (hK83 _ _ _ ?_)))
   refine Ao (kd==3) Ae (fun h85=>?_) (fun h86=>?_)
   ·have qh85:=h85;try simp only[zA]at qh85
    refine Ad (fun K87 hK87=>Ad (fun K88 hK88=>?_))
    refine Aa (Ab 3 (Am (v:=pV p5 3) (true) rfl Ae rfl (fun _=>Ys.p) (Am (v:=iV .u32 src) (true) rfl Ae rfl (fun _=>Bp (b:=p5) (o':=3) (i:=2) (j:=0) (v:=iV .u32 src) rfl Ae Tryz.isAgg24 rfl rfl rfl) (Am (v:=pV p10 1) (true) rfl Ae rfl (fun _=>Ys.p) ?_))))
    refine Am (v:=iV .u32 sr) (true) rfl Ae rfl (fun _=>Bp (b:=p10) (o':=1) (i:=0) (j:=0) (v:=iV .u32 sr) rfl Ae Tryz.isAgg24 rfl rfl rfl) (Am (v:=bV (src !=sr)) (true) rfl Ae rfl (fun _=>Ys.p) (Ab 1 (Ac (hK88 _ _ _ ?_))))
    refine Ao (src !=sr) Ae (fun h90=>?_) (fun h91=>?_)
    ·have qh90:=h90;try simp only[zA]at qh90
     refine Ad (fun K92 hK92=>Aa (Ab 1 (Ai rfl (A4 p8 0 1 0 Q1i Tryz.sizeOf40 rfl rfl) (fun _=>Ab 1 ?_))))
     refine Ac (hK92 _ _ _ (Ap [1,3] Al rfl (Aq (fn:=Tryz.f16) rfl (fun w_ hS_=>B9 rfl (Bq p8 0 0 0 M9 Tryz.isAgg40 Tryz.sizeOf40) (Aw (iV .i64 21)) hS_ ⟨(s,21,Yw,[]),⟨hI,rfl,Mc,.no Rs rfl (.inr (.inl ⟨(by simpa using h85),.inr (by simpa using h90)⟩))⟩,rfl,(Mem.flat (LL:=[NG k s]) rfl (hS_.pick [1] Al rfl))⟩))))
    ·have qh91:=h91;try simp only[zA]at qh91
     refine Ak (hK87 _ _ _ (Ad (fun K95 hK95=>Dh [(0,true),(1,true),(2,true),(3,false),(4,false),(5,false),(6,false),(7,false),(8,false),(9,false),(10,true),(11,false),(12,false),(13,false)] [0,1,2,10] (Wd.ys rfl rfl rfl (A0 p5 0 2 0 (Xl ba bc bl dst pid pro src ttl) Tryz.isAgg40 Tryz.sizeOf40) ?_))))
     refine Ay 1 (Wd.ys rfl rfl rfl (A0 p10 0 0 0 (Q1j ds dt fm sr pr) Tryz.isAgg47 Tryz.sizeOf47) (Wd.yc (v:=pV eb 0) rfl rfl rfl (Ys.yc (Ys.p)) (.inr fun _ h_=>h_) (Wd.yc (v:=pV eb 0) rfl rfl rfl (Ys.yc (Ys.p)) (.inr fun _ h_=>h_) (Wd.yc (v:=pV eb 0) rfl rfl rfl (Ys.yc (Ys.p)) (.inr fun _ h_=>h_) ?_))))
     refine Wd.yc (v:=pV eb 5) rfl rfl rfl (Ys.yc (Ys.p)) (.inr fun _ h_=>h_) (Wd.yc (v:=iV .u16 ee.ext) rfl rfl rfl (Ys.yc (Ys.ld (a:=⟨eb,5,none⟩) rfl Ae Tryz.isAgg22 (fun w_ h_=>by have x_:=(NG.ent (i:=3) h_ rfl hej).ld (q:=5) (v:=iV .u16 ee.ext) rfl;rw[Br]at x_;exact x_))) (.inr fun _ h_=>h_) (Wd.yc (v:=aV [nV .u8 pr,iV .u32 k.c.wan,iV .u32 ds,iV .u16 ee.ext,iV .u16 dt]) rfl rfl rfl (A9 (fun w_ hm_=>(Mq k.c k.fx k.gf.a k.gf.cap s.p.ms s.gm.a s.gm.cap k.ts k.te s.p.tk k.wb k.ti s.p.lst k.nb (pr:Int) sr ds fm dt ee.ext _ (Az (i:=3) (j:=0) (t:=91) (b:=k.nb) hm_ rfl rfl)))) (.inr fun _ h_=>h_) (Cd rfl rfl (Au [] [0,1,2,3] (fun w_ hm_ hl_=>(hrw (((pr:Nat):Int),k.c.wan,ds,ee.ext,dt) _ _ hm_ (Mr hfr hwan (hA.rng (eb,ee) hmm_).ext) rfl))) (.inr fun _ _ h_=>h_.pick [1,2,3,4] Al rfl) (fun rx96 hrx97=>Ay 1 ?_))))
     refine Wd.yc (v:=iV .i64 (re (((pr:Nat):Int),k.c.wan,ds,ee.ext,dt))) rfl rfl rfl (Ys.yc (Ys.p)) (.inr fun _ h_=>h_.pick [1,2,3,4] Al rfl) (B8 rfl rfl (A4 p8 0 2 0 [iV .u8 ((rv (((pr:Nat):Int),k.c.wan,ds,ee.ext,dt) rx96).ttl),iV .u8 ((rv (((pr:Nat):Int),k.c.wan,ds,ee.ext,dt) rx96).pro),iV .u16 ((rv (((pr:Nat):Int),k.c.wan,ds,ee.ext,dt) rx96).pid),iV .u32 ((rv (((pr:Nat):Int),k.c.wan,ds,ee.ext,dt) rx96).src),iV .u32 ((rv (((pr:Nat):Int),k.c.wan,ds,ee.ext,dt) rx96).dst),sL ((rv (((pr:Nat):Int),k.c.wan,ds,ee.ext,dt) rx96).ba) ((rv (((pr:Nat):Int),k.c.wan,ds,ee.ext,dt) rx96).bl) ((rv (((pr:Nat):Int),k.c.wan,ds,ee.ext,dt) rx96).bc)] Tryz.sizeOf40 rfl rfl) (.inl Ae) (fun _=>?_))
     refine Wd.yc (v:=iV .i64 (re (((pr:Nat):Int),k.c.wan,ds,ee.ext,dt))) rfl rfl rfl (Ys.yc (Ys.p)) (.inl Ae) (A7 (hK95 _ _ _ (Ap [0,2,4] Al rfl (Aq (fn:=Tryz.f16) rfl (fun w_ hS_=>B9 rfl (Bq p8 0 1 0 [iV .u8 ((rv (((pr:Nat):Int),k.c.wan,ds,ee.ext,dt) rx96).ttl),iV .u8 ((rv (((pr:Nat):Int),k.c.wan,ds,ee.ext,dt) rx96).pro),iV .u16 ((rv (((pr:Nat):Int),k.c.wan,ds,ee.ext,dt) rx96).pid),iV .u32 ((rv (((pr:Nat):Int),k.c.wan,ds,ee.ext,dt) rx96).src),iV .u32 ((rv (((pr:Nat):Int),k.c.wan,ds,ee.ext,dt) rx96).dst),Value.slice ((rv (((pr:Nat):Int),k.c.wan,ds,ee.ext,dt) rx96).ba) ((rv (((pr:Nat):Int),k.c.wan,ds,ee.ext,dt) rx96).bl) ((rv (((pr:Nat):Int),k.c.wan,ds,ee.ext,dt) rx96).bc)] Tryz.isAgg40 Tryz.sizeOf40) (Aw (iV .i64 (re (((pr:Nat):Int),k.c.wan,ds,ee.ext,dt)))) hS_ ⟨(s,re (((pr:Nat):Int),k.c.wan,ds,ee.ext,dt),rv (((pr:Nat):Int),k.c.wan,ds,ee.ext,dt) rx96,rs (((pr:Nat):Int),k.c.wan,ds,ee.ext,dt) rx96),⟨hI,rfl,Mc,.err (by simpa using h9) (by simpa using h85) rfl (eb,ee) hmm_ hfl_ ⟨rfl,rx96,hrx97,rfl,rfl⟩⟩,rfl,(hS_.pick [2,0] Al rfl)⟩)))))
   ·have qh86:=h86;try simp only[zA]at qh86
    refine Ad (fun K100 hK100=>Aa (Ab 3 ?_))
    refine Am (v:=aV (Xl ba bc bl dst pid pro src ttl)) (kd==2) rfl (Bi rfl Ae) rfl (fun hg101=>?_) ?_
    ·exact A0 p5 0 2 0 (Xl ba bc bl dst pid pro src ttl) Tryz.isAgg40 Tryz.sizeOf40
    refine Dn (v:=bV qu) (kd==2) rfl (Bi rfl Ae) rfl (fun hg102=>?_) ?_
    ·refine Eh (t:=63) (v0:=aV (Xl ba bc bl dst pid pro src ttl)) (lz (g:=kd==2) (u:=undef) hg102 Ae) ?_
     exact A9 (fun w_ hm_=>(hqu _ _ hm_))
    refine Am (v:=bV (!qu)) (kd==2) rfl (Bi rfl Ae) rfl (fun hg103=>?_) ?_
    ·refine Bh (t:=64) (v0:=bV qu) (lz (g:=kd==2) (u:=undef) hg103 Ae) ?_
     exact Ys.p
    refine Ah (v:=bV ((kd==2)&&(!qu))) (D0 (e:=kd==2) (b:= !qu) rfl Ae Ae Ae) (Ab 1 (Ac (hK100 _ _ _ ?_)))
    refine Ao ((kd==2)&&(!qu)) Ae (fun h105=>?_) (fun h106=>?_)
    ·have qh105:=h105;try simp only[zA]at qh105
     refine Ad (fun K107 hK107=>Aa (Ab 1 (Ai rfl (A4 p8 0 1 0 Q1i Tryz.sizeOf40 rfl rfl) (fun _=>Ab 1 ?_))))
     refine Ac (hK107 _ _ _ (Ap [1,3] Al rfl (Aq (fn:=Tryz.f16) rfl (fun w_ hS_=>B9 rfl (Bq p8 0 0 0 M9 Tryz.isAgg40 Tryz.sizeOf40) (Aw (iV .i64 21)) hS_ ⟨(s,21,Yw,[]),⟨hI,rfl,Mc,.no Rs rfl (.inr (.inr (.inl (by simpa using h105))))⟩,rfl,(Mem.flat (LL:=[NG k s]) rfl (hS_.pick [1] Al rfl))⟩))))
    ·have qh106:=h106;try simp only[zA]at qh106
     refine Ak (hK82 _ _ _ (Ad (fun K110 hK110=>Ad (fun K111 hK111=>Aa ?_))))
     refine Ab 2 (Ac (hK111 _ _ _ (B4 Ae (Ak ?_))))
     refine hK110 _ _ _ (Ad (fun K114 hK114=>?_))
     obtain⟨s115,hzs115⟩: ∃z,z=Vm s (fA++fB):=⟨_,rfl⟩
     have ok116:NOk k s115:=hzs115▸Jq ok _
     have hp117:s115.p={s.p with es:=fA++fB}:=by rw[hzs115];rfl
     obtain⟨lxs115,lys115,lzs115,lms115,lfs115⟩:=NOk.len ok116
     refine W.conseq (S':=Mem w M [NG k s115,[cb eb [iV .u8 ee.pr,iV .u32 ee.src,iV .u32 ee.dst,iV .u16 ee.frm,iV .u16 ee.dto,iV .u16 ee.ext,iV .u64 ee.ends,bV ee.lan,bV ee.s0,bV ee.s1,bV ee.s2,bV ee.s3,bV ee.s4,iV .u64 ee.id,bV ee.given] 113],Q1d ds dt fm sr p10 pr,Q1c p8,Q1b ba bc bl p5 dst pid pro src ttl]) (fun w_ h_=>hzs115▸Sn hfe (h_.pick [3,0,1,2] Al rfl)) (Aa (Ab 2 (Ah (A0 p5 0 4 0 (Xl ba bc bl dst pid pro src ttl) Tryz.isAgg40 Tryz.sizeOf40) (Ab 1 ?_))))
     refine Ax rfl (Au [0,1] [2,3,4] (fun w_ hm_ hl_=>(N7 k s115 _ ee eb ttl pro pid src dst ba bl bc now fl true sg _ ok116 hl_ (by rw[show s115.p.ws=s.p.ws by rw[hp117]<;>rfl];have z_:=hwl_;omega) (fun LL_ w2_ h2_=>hfl _ _ (Mem.back (LL:=[NG k s115,[cb eb [iV .u8 ee.pr,iV .u32 ee.src,iV .u32 ee.dst,iV .u16 ee.frm,iV .u16 ee.dto,iV .u16 ee.ext,iV .u64 ee.ends,bV ee.lan,bV ee.s0,bV ee.s1,bV ee.s2,bV ee.s3,bV ee.s4,iV .u64 ee.id,bV ee.given] 113]]) (R:=[Q1d ds dt fm sr p10 pr,Q1c p8,Q1b ba bc bl p5 dst pid pro src ttl]) (Mem.pick [0,1,2,3,4] Al hm_ rfl) h2_))))) (fun q123 hx125=>?_)
     obtain⟨s118,e119⟩:=q123
     dsimp only at hx125
     obtain⟨ok120,hrn121,hp122⟩:=hx125
     refine Bu (LL':=[NG k s118,[cb eb [iV .u8 e119.pr,iV .u32 e119.src,iV .u32 e119.dst,iV .u16 e119.frm,iV .u16 e119.dto,iV .u16 e119.ext,iV .u64 e119.ends,bV e119.lan,bV e119.s0,bV e119.s1,bV e119.s2,bV e119.s3,bV e119.s4,iV .u64 e119.id,bV e119.given] 113],Q1d ds dt fm sr p10 pr,Q1c p8,Q1b ba bc bl p5 dst pid pro src ttl]) rfl ?_
     obtain⟨lxs118,lys118,lzs118,lms118,lfs118⟩:=NOk.len ok120
     refine Ac (hK114 _ _ _ (Ad (fun K127 hK127=>Dh [(0,true),(1,true),(2,true),(3,false),(4,false),(5,false),(6,false),(7,false),(8,false),(9,false),(10,true),(11,false),(12,false),(13,false)] [0,1,2,10] (Wd.ys rfl rfl rfl (A0 p5 0 4 0 (Xl ba bc bl dst pid pro src ttl) Tryz.isAgg40 Tryz.sizeOf40) ?_))))
     refine Ay 1 (Wd.ys rfl rfl rfl (A0 p10 0 2 0 (Q1j ds dt fm sr pr) Tryz.isAgg47 Tryz.sizeOf47) (Wd.yc (v:=pV eb 0) rfl rfl rfl (Ys.yc (Ys.p)) (.inr fun _ h_=>h_) (Wd.yc (v:=pV eb 0) rfl rfl rfl (Ys.yc (Ys.p)) (.inr fun _ h_=>h_) (Wd.yc (v:=pV eb 0) rfl rfl rfl (Ys.yc (Ys.p)) (.inr fun _ h_=>h_) ?_))))
     refine Wd.yc (v:=pV eb 5) rfl rfl rfl (Ys.yc (Ys.p)) (.inr fun _ h_=>h_) (Wd.yc (v:=iV .u16 ee.ext) rfl rfl rfl (Ys.yc (Ys.conseq (v:=iV .u16 e119.ext) (Af (hrn121.ext)) (An eb 5 1 0 Tryz.isAgg22))) (.inr fun _ h_=>h_) (Wd.yc (v:=aV [nV .u8 pr,iV .u32 k.c.wan,iV .u32 ds,iV .u16 ee.ext,iV .u16 dt]) rfl rfl rfl (A9 (fun w_ hm_=>(Mq k.c k.fx k.gf.a k.gf.cap s118.p.ms s118.gm.a s118.gm.cap k.ts k.te s118.p.tk k.wb k.ti s118.p.lst k.nb (pr:Int) sr ds fm dt ee.ext _ (Az (i:=0) (j:=0) (t:=91) (b:=k.nb) hm_ rfl rfl)))) (.inr fun _ h_=>h_) (Cd rfl rfl (Au [] [0,1,2,3,4] (fun w_ hm_ hl_=>(hrw (((pr:Nat):Int),k.c.wan,ds,ee.ext,dt) _ _ hm_ (Mr hfr hwan (hA.rng (eb,ee) hmm_).ext) rfl))) (.inr fun _ _ h_=>h_.pick [1,2,3,4,5] Al rfl) (fun rx128 hrx129=>Ay 1 ?_))))
     refine Wd.yc (v:=iV .i64 (re (((pr:Nat):Int),k.c.wan,ds,ee.ext,dt))) rfl rfl rfl (Ys.yc (Ys.p)) (.inr fun _ h_=>h_.pick [1,2,3,4,5] Al rfl) (B8 rfl rfl (A4 p8 0 4 0 [iV .u8 ((rv (((pr:Nat):Int),k.c.wan,ds,ee.ext,dt) rx128).ttl),iV .u8 ((rv (((pr:Nat):Int),k.c.wan,ds,ee.ext,dt) rx128).pro),iV .u16 ((rv (((pr:Nat):Int),k.c.wan,ds,ee.ext,dt) rx128).pid),iV .u32 ((rv (((pr:Nat):Int),k.c.wan,ds,ee.ext,dt) rx128).src),iV .u32 ((rv (((pr:Nat):Int),k.c.wan,ds,ee.ext,dt) rx128).dst),sL ((rv (((pr:Nat):Int),k.c.wan,ds,ee.ext,dt) rx128).ba) ((rv (((pr:Nat):Int),k.c.wan,ds,ee.ext,dt) rx128).bl) ((rv (((pr:Nat):Int),k.c.wan,ds,ee.ext,dt) rx128).bc)] Tryz.sizeOf40 rfl rfl) (.inl Ae) (fun _=>?_))
     refine Wd.yc (v:=iV .i64 (re (((pr:Nat):Int),k.c.wan,ds,ee.ext,dt))) rfl rfl rfl (Ys.yc (Ys.p)) (.inl Ae) (A7 (hK127 _ _ _ (Ap [0,1,2,4] Al rfl (Aq (fn:=Tryz.f16) rfl ?_))))
     have he_:s118.p.es=fA++fB:=by rw[hp122,hp117]
     have hI2_:=Sp (p':=(Vm s118 (fA++(eb,e119)::fB)).p) hI hfe hrn121 (by show({s118.p with es:=_}:NP)=_;rw[hp122,hp117])
     exact fun w_ hS_=>B9 rfl (Bq p8 0 3 0 [iV .u8 ((rv (((pr:Nat):Int),k.c.wan,ds,ee.ext,dt) rx128).ttl),iV .u8 ((rv (((pr:Nat):Int),k.c.wan,ds,ee.ext,dt) rx128).pro),iV .u16 ((rv (((pr:Nat):Int),k.c.wan,ds,ee.ext,dt) rx128).pid),iV .u32 ((rv (((pr:Nat):Int),k.c.wan,ds,ee.ext,dt) rx128).src),iV .u32 ((rv (((pr:Nat):Int),k.c.wan,ds,ee.ext,dt) rx128).dst),Value.slice ((rv (((pr:Nat):Int),k.c.wan,ds,ee.ext,dt) rx128).ba) ((rv (((pr:Nat):Int),k.c.wan,ds,ee.ext,dt) rx128).bl) ((rv (((pr:Nat):Int),k.c.wan,ds,ee.ext,dt) rx128).bc)] Tryz.isAgg40 Tryz.sizeOf40) (Aw (iV .i64 (re (((pr:Nat):Int),k.c.wan,ds,ee.ext,dt)))) hS_ ⟨(Vm s118 (fA++(eb,e119)::fB),re (((pr:Nat):Int),k.c.wan,ds,ee.ext,dt),rv (((pr:Nat):Int),k.c.wan,ds,ee.ext,dt) rx128,rs (((pr:Nat):Int),k.c.wan,ds,ee.ext,dt) rx128),⟨⟨Jq ok120 _,hI2_.1,hI2_.2,hI.fr,hI.fu,(by show RngM s118.p.ms;rw[hp122,hp117];exact hI.mr)⟩,(by show s118.p.ms=_;rw[hp122,hp117]),(by show s118.p.lst≤_;rw[hp122,hp117];show s.p.lst≤_;omega),.old (by simpa using h9) (by simpa using h86) (fun h_=>by have z_:=h106;rw[h_]at z_;simpa using z_) fA fB eb ee e119 hfe hfl_ hrn121 rfl ⟨rfl,rx128,hrx129,rfl,rfl⟩⟩,rfl,(So he_ (Mem.pick [1,2,0] Al hS_ rfl))⟩
theorem Ms{f:B2}{es:List (Nat×SesE)}{b:Nat}{e:SesE}(h:I3 f es=some (b,e)):(∃A B,es=A++(b,e)::B)∧e.pr=f.1∧e.ext=f.2.2.2.2∧e.dst=f.2.1∧e.dto=f.2.2.2.1:=by
  have h1:=List.mem_of_find?_eq_some h
  have h2:=List.find?_some h
  unfold knQ at h2
  simp only[Bool.and_eq_true,beq_iff_eq]at h2
  exact⟨Ka h1,h2.1.1.1,h2.1.1.2,h2.1.2,h2.2⟩
section
variable {c:Conf.Cfg}{fx:List Conf.Fwd}{p:NP}{f:B2}
end
abbrev inG(c:Conf.Cfg)(fx:List Conf.Fwd)(p:NP)(f:B2):B2:=(f.1,(Cl c fx p f).1.2.1,f.2.1,(Cl c fx p f).1.2.2,f.2.2.2.1)
theorem Ajc{c:Conf.Cfg}{fx:List Conf.Fwd}{p:NP}{f:B2}(hm:p.ms.length=0)(hf:fx.length=0)(hd:c.dmz=0):((Cl c fx p f).2.2.1=none∧(Cl c fx p f).2.1=false∧(Cl c fx p f).2.2.2=21)∨ ∃eb ee,(Cl c fx p f).2.2.1=some eb∧I3 f p.es=some (eb,ee)∧ee.lan=true∧(Cl c fx p f).1=(ee.pr,ee.src,ee.frm)∧(Cl c fx p f).2.1=false∧(Cl c fx p f).2.2.2=0:=by
  unfold Cl
  rw[List.length_eq_zero_iff.1 hm,List.length_eq_zero_iff.1 hf,hd]
  cases hk:I3 f p.es with
  |none=>exact .inl ⟨rfl,rfl,rfl⟩
  |some x=>
    simp only[Option.isSome_some,Bool.true_and,Option.getD_some]
    cases hl:x.2.lan with
    |true=>exact .inr ⟨x.1,x.2,rfl,rfl,hl,rfl,rfl,rfl⟩
    |false=>exact .inl ⟨rfl,rfl,rfl⟩
inductive InR{β:Type}(Φr:B2→β→Prop)(rv:B2→β→PkV)(re:B2→Int)(rs:B2→β→List Blk)(k:NK)(s:NS)(f:B2)(kd oc:Int)(bg qu:Bool)(now:Int)(r:NS)(cd:Int)(pv:PkV)(bl:List Blk):Prop
  |no (hcd:cd≠0) (hes:r.p.es=s.p.es) (hpv:pv=Yw) (why:oc≠0∨f.2.2.1≠k.c.wan∨(kd=2∧qu=true)∨(kd≠1∧(I3 f s.p.es=none∨ ∃x,I3 f s.p.es=some x∧x.2.lan=false))∨(kd=1∧(Cl k.c k.fx s.p f).2.2.2≠0∧cd=(Cl k.c k.fx s.p f).2.2.2)∨
      (kd=1∧(Cl k.c k.fx s.p f).2.2.1=none∧(Cl k.c k.fx s.p f).2.2.2=0∧((Bl s.p.xs (inG k.c k.fx s.p f)=false∧(bg=false∨k.mo≤(s.p.xs.length:Int)))∨ ∃x∈s.p.es,Dm x.2=inG k.c k.fx s.p f∧x.2.ext≠f.2.2.2.2))):InR Φr rv re rs k s f kd oc bg qu now r cd pv bl
  |err (ho:oc=0) (hk:kd≠1) (hk2:kd≠2) (hes:r.p.es=s.p.es) (x:Nat×SesE) (hx:I3 f s.p.es=some x) (hs:Ke Φr rv re rs (f.1,f.2.1,x.2.src,f.2.2.2.1,x.2.frm) cd pv bl):InR Φr rv re rs k s f kd oc bg qu now r cd pv bl
  |old (ho:oc=0) (A B:List (Nat×SesE)) (b:Nat) (e e':SesE) (he:s.p.es=A++(b,e)::B) (hf:e.pr=f.1∧e.ext=f.2.2.2.2∧e.dst=f.2.1∧e.dto=f.2.2.2.1) (hr:RenE e now false e') (hes:r.p.es=A++(b,e')::B) (hs:Ke Φr rv re rs (f.1,f.2.1,e.src,f.2.2.2.1,e.frm) cd pv bl):InR Φr rv re rs k s f kd oc bg qu now r cd pv bl
  |new (ho:oc=0) (hk:kd=1) (hn:(Cl k.c k.fx s.p f).2.2.1=none) (h0:(Cl k.c k.fx s.p f).2.2.2=0) (hno:Bl s.p.xs (inG k.c k.fx s.p f)=false) (A B:List (Nat×SesE)) (b:Nat) (e':SesE) (he:s.p.es=A++B) (hr:RenE (Pc (inG k.c k.fx s.p f) f.2.2.2.2 s.p.lst (Cl k.c k.fx s.p f).2.1) now false e') (hes:r.p.es=A++(b,e')::B) (hs:Ke Φr rv re rs (f.1,f.2.1,(Cl k.c k.fx s.p f).1.2.1,f.2.2.2.1,(Cl k.c k.fx s.p f).1.2.2) cd pv bl):InR Φr rv re rs k s f kd oc bg qu now r cd pv bl
theorem Mt{f:B2}(h:RngFl f){a e:Int}(ha:0≤a∧a≤4294967295)(he:0≤e∧e≤65535):RngFl (f.1,f.2.1,a,f.2.2.2.1,e):=⟨h.1,h.2.1,ha,h.2.2.2.1,he⟩
theorem Anu{k:NK}{s r:NS}(hI:Inv k s)(ok:NOk k r)(hp:r.p=s.p):Inv k r:=⟨ok,by rw[hp];exact hI.a,by rw[hp];exact hI.b,hI.fr,hI.fu,by rw[hp];exact hI.mr⟩
abbrev Q1k(dn p12 pr:Nat)(ds fm sr:Int)(k:NK)(s:NS):List Blk:=[cb p12 [iV .u8 ((Cl k.c k.fx s.p (((pr:Nat):Int),sr,ds,fm,(dn:Int))).1.1),iV .u32 ((Cl k.c k.fx s.p (((pr:Nat):Int),sr,ds,fm,(dn:Int))).1.2.1),iV .u16 ((Cl k.c k.fx s.p (((pr:Nat):Int),sr,ds,fm,(dn:Int))).1.2.2)] 97]
abbrev Q1l(ba:Option Addr)(bc bl p4:Nat)(dst pid pro src ttl:Int):List Blk:=[cb p4 [iV .u8 ttl,iV .u8 pro,iV .u16 pid,iV .u32 src,iV .u32 dst,sL ba bl bc] 40]
abbrev Q1m(p6:Nat):List Blk:=[cb p6 M9 40]
abbrev Q1n(dn p8 pr:Nat)(ds fm sr:Int):List Blk:=[cb p8 [nV .u8 pr,iV .u32 sr,iV .u32 ds,iV .u16 fm,nV .u16 dn] 47]
abbrev Q1o(dn pr:Nat)(ds fm sr:Int):B2:=(((pr:Nat):Int),sr,ds,fm,(dn:Int))
abbrev Po(dn pr:Nat)(ds fm sr:Int)(k:NK)(s:NS):Hx×Bool×Option Nat×Int:=(Cl k.c k.fx s.p (Q1o dn pr ds fm sr))
abbrev Q1q(dn pr:Nat)(ds fm sr:Int)(k:NK)(s:NS):B2:=(((pr:Nat):Int),sr,(Po dn pr ds fm sr k s).1.2.1,fm,(Po dn pr ds fm sr k s).1.2.2)
abbrev Q1r(ba:Option Addr)(bc bl:Nat)(dst pid pro src ttl:Int):List Value:=[iV .u8 ttl,iV .u8 pro,iV .u16 pid,iV .u32 src,iV .u32 dst,sL ba bl bc]
abbrev Q1s:List Value:=M9
abbrev Q1t(dn pr:Nat)(ds fm sr:Int):List Value:=[nV .u8 pr,iV .u32 sr,iV .u32 ds,iV .u16 fm,nV .u16 dn]
abbrev Q1u(dn pr:Nat)(ds fm sr:Int)(k:NK)(s:NS):List Value:=[iV .u8 ((Po dn pr ds fm sr k s).1.1),iV .u32 ((Po dn pr ds fm sr k s).1.2.1),iV .u16 ((Po dn pr ds fm sr k s).1.2.2)]
set_option maxHeartbeats 1000000 in
theorem Ajd(k:NK)(s:NS)(M:List Nat)(pr:Nat)(sr ds fm:Int)(dn:Nat)(ttl pro pid src dst:Int)(ba:Option Addr)(bl bc:Nat)(kd oc:Int)(bg qu:Bool)(fl:Int)(sg:Bool)(now:Int)(β:Type)(Φr:B2→β→Prop)(rv:B2→β→PkV)(re:B2→Int)(rs:B2→β→List Blk)(w:World)(hI:Inv k s)(hl:Mem w M [NG k s] w)(hls:s.p.lst≤1000000)(hd:0≤k.c.dmz∧k.c.dmz≤4294967295)(hpr:pr<256)(hdn:dn<65536)(hfr:RngFl (((pr:Nat):Int),sr,ds,fm,(dn:Int)))(hof: ∀LL w1,Mem w M LL w1→Calls Tryz.prog 41 #[N6 ttl pro pid src dst ba bl bc] w1 (Dc w1 (.tuple #[Value.agg ([Value.int .u8 (pr:Int),Value.int .u32 sr,Value.int .u32 ds,Value.int .u16 fm,Value.int .u16 (dn:Int)]).toArray,.int .i64 kd,.int .i64 oc])))(hbg: ∀LL w1,Mem w M LL w1→Calls Tryz.prog 99 #[N6 ttl pro pid src dst ba bl bc] w1 (Dc w1 (.bool bg)))(hfl: ∀LL w1,Mem w M LL w1→Calls Tryz.prog 88 #[N6 ttl pro pid src dst ba bl bc] w1 (Dc w1 (.tuple #[.int .u8 fl,.bool sg])))(hqu: ∀LL w1,Mem w M LL w1→Calls Tryz.prog 42 #[N6 ttl pro pid src dst ba bl bc] w1 (Dc w1 (.bool qu)))(hrw: ∀g LL w1,Mem w M LL w1→RngFl g→g.1=(pr:Int)→Calls Tryz.prog 45 #[N6 ttl pro pid src dst ba bl bc,flV g] w1 (Bj w1 (fun x:β=>Φr g x) (fun x=>.tuple #[(rv g x).v,.int .i64 (re g)]) [] (fun x=>[rs g x])))(hm0:s.p.ms.length=0)(hdm:k.c.dmz=0)(hf0:k.fx.length=0):Calls Tryz.prog 12 #[pL (some ⟨k.nb,0,none⟩),aV [iV .u8 ttl,iV .u8 pro,iV .u16 pid,iV .u32 src,iV .u32 dst,sL ba bl bc],iV .u64 now] w (Bj w (fun r:NS×Int×PkV×List Blk=>Inv k r.1∧r.1.p.ms=s.p.ms∧r.1.p.lst≤s.p.lst+1∧InR Φr rv re rs k s (((pr:Nat):Int),sr,ds,fm,(dn:Int)) kd oc bg qu now r.1 r.2.1 r.2.2.1 r.2.2.2) (fun r=>.tuple #[r.2.2.1.v,.int .i64 r.2.1]) M (fun r=>[NG k r.1,r.2.2.2])):=by
 have ok:=hI.ok;have hA:=hI.a;obtain⟨lxs,lys,lzs,lms,lfs⟩:=NOk.len ok;have hwl_:s.p.ws.length≤80000:=(by have z_:=hA.wln ok.hws;have y_:=Oa ok hA;omega);have hl0_:=hA.lst.1
 refine Ar (M:=M) (LL:=[NG k s]) (n:=136) Tryz.func12 rfl rfl A5 (hl) (Ad (fun K1 hK1=>?_))
 refine Aa (Ai rfl (Bx (Q1r ba bc bl dst pid pro src ttl) rfl) (fun p4=>?_))
 refine Ai rfl (Bc Tryz.zeroValue40) (fun p6=>Ab 1 (Ac (hK1 _ _ _ (Ad (fun K3 hK3=>?_)))))
 refine Aa (Ah (A0 p4 0 1 0 (Q1r ba bc bl dst pid pro src ttl) Tryz.isAgg40 Tryz.sizeOf40) (B0 (v:=Value.tuple #[aV (Q1t dn pr ds fm sr),iV .i64 kd,iV .i64 oc]) (A9 (fun w_ hm_=>(hof _ _ hm_))) (Ab 4 (Ai rfl (Bc Tryz.zeroValue47) (fun p8=>?_)))))
 refine Ai rfl (A4 p8 0 0 0 (Q1t dn pr ds fm sr) Tryz.sizeOf47 rfl rfl) (fun _=>Ab 2 (Ac (hK3 _ _ _ (Ad (fun K5 hK5=>?_)))))
 refine W.block (Ad (fun K6 hK6=>?_))
 refine Aa (Ab 3 (Ac (hK6 _ _ _ ?_)))
 refine Ao (oc !=0) Ae (fun h8=>?_) (fun h9=>?_)
 ·have qh8:=h8;try simp only[zA]at qh8
  refine Ad (fun K10 hK10=>Aa (Ab 2 (Ai rfl (A4 p6 0 1 0 Q1s Tryz.sizeOf40 rfl rfl) (fun _=>Ab 1 ?_))))
  refine Ac (hK10 _ _ _ (Ap [1,3] Al rfl (Aq (fn:=Tryz.f12) rfl (fun w_ hS_=>B9 rfl (Bq p6 0 0 0 M9 Tryz.isAgg40 Tryz.sizeOf40) (Aw (iV .i64 oc)) hS_ ⟨(s,oc,Yw,[]),⟨hI,rfl,Mc,.no (by simpa using h8) rfl rfl (.inl (by simpa using h8))⟩,rfl,(Mem.flat (LL:=[NG k s]) rfl (hS_.pick [1] Al rfl))⟩))))
 ·have qh9:=h9;try simp only[zA]at qh9
  refine Ad (fun K12 hK12=>Ad (fun K13 hK13=>?_))
  refine Dh [(0,true),(1,true),(2,false),(3,false),(4,false),(5,false),(6,false),(7,false),(8,false)] [0,1] (Ay 1 (Wd.ys rfl rfl rfl (An p8 2 0 0 Tryz.isAgg24) (Wd.yc (v:=pL (some ⟨k.nb,0,none⟩)) rfl rfl rfl (Ys.yc (Ys.p)) (.inr fun _ h_=>h_) (Wd.yc (v:=pL (some ⟨k.nb,0,none⟩)) rfl rfl rfl (Ys.yc (Ys.p)) (.inr fun _ h_=>h_) ?_))))
  refine Wd.yc (v:=pL (some ⟨k.nb,0,none⟩)) rfl rfl rfl (Ys.yc (Ys.p)) (.inr fun _ h_=>h_) (Wd.yc (v:=pL (some ⟨k.nb,19,none⟩)) rfl rfl rfl (Ys.yc (Ys.p)) (.inr fun _ h_=>h_) (Wd.yc (v:=iV .u32 k.c.wan) rfl rfl rfl (Ys.yc (Bp (b:=k.nb) (o':=19) (i:=3) (j:=0) (cs:=Du k s) (v:=iV .u32 k.c.wan) rfl Ae Tryz.isAgg24 rfl rfl ((Cq rfl Al).trans rfl))) (.inr fun _ h_=>h_) (Wd.yc (v:=bV (ds !=k.c.wan)) rfl rfl rfl (Ys.yc (Ys.p)) (.inr fun _ h_=>h_) (Wd.yc (v:=bV (ds !=k.c.wan)) rfl rfl rfl (Ys.yc (Ys.p)) (.inr fun _ h_=>h_) ?_))))
  refine A7 (hK13 _ _ _ ?_)
  refine Ao (ds !=k.c.wan) Ae (fun h15=>?_) (fun h16=>?_)
  ·have qh15:=h15;try simp only[zA]at qh15
   refine Ak (hK12 _ _ _ ?_)
   refine Ao (ds !=k.c.wan) Ae (fun h18=>?_) (fun h19=>?_)
   ·have qh18:=h18;try simp only[zA]at qh18
    refine Ad (fun K20 hK20=>Aa (Ab 1 (Ai rfl (A4 p6 0 1 0 Q1s Tryz.sizeOf40 rfl rfl) (fun _=>Ab 1 ?_))))
    refine Ac (hK20 _ _ _ (Ap [1,3] Al rfl (Aq (fn:=Tryz.f12) rfl (fun w_ hS_=>B9 rfl (Bq p6 0 0 0 M9 Tryz.isAgg40 Tryz.sizeOf40) (Aw (iV .i64 21)) hS_ ⟨(s,21,Yw,[]),⟨hI,rfl,Mc,.no Rs rfl rfl (.inr (.inl (by simpa using h18)))⟩,rfl,(Mem.flat (LL:=[NG k s]) rfl (hS_.pick [1] Al rfl))⟩))))
   ·exact absurd (h15.symm.trans h19) Al
  ·have qh16:=h16;try simp only[zA]at qh16
   refine Aa (Ab 3 ?_)
   refine Am (v:=aV (Q1r ba bc bl dst pid pro src ttl)) (kd==2) rfl (Bi rfl Ae) rfl (fun hg22=>?_) ?_
   ·exact A0 p4 0 2 0 (Q1r ba bc bl dst pid pro src ttl) Tryz.isAgg40 Tryz.sizeOf40
   refine Dn (v:=bV qu) (kd==2) rfl (Bi rfl Ae) rfl (fun hg23=>?_) ?_
   ·refine Eh (t:=38) (v0:=aV (Q1r ba bc bl dst pid pro src ttl)) (lz (g:=kd==2) (u:=undef) hg23 Ae) ?_
    exact A9 (fun w_ hm_=>(hqu _ _ hm_))
   refine Ah (v:=bV ((kd==2)&&qu)) (D0 (e:=kd==2) (b:=qu) rfl Ae Ae Ae) (Ab 1 (Ac (hK12 _ _ _ ?_)))
   refine Ao ((kd==2)&&qu) Ae (fun h25=>?_) (fun h26=>?_)
   ·have qh25:=h25;try simp only[zA]at qh25
    refine Ad (fun K27 hK27=>Aa (Ab 1 (Ai rfl (A4 p6 0 1 0 Q1s Tryz.sizeOf40 rfl rfl) (fun _=>Ab 1 ?_))))
    refine Ac (hK27 _ _ _ (Ap [1,3] Al rfl (Aq (fn:=Tryz.f12) rfl (fun w_ hS_=>B9 rfl (Bq p6 0 0 0 M9 Tryz.isAgg40 Tryz.sizeOf40) (Aw (iV .i64 21)) hS_ ⟨(s,21,Yw,[]),⟨hI,rfl,Mc,.no Rs rfl rfl (.inr (.inr (.inl (by simpa using h25))))⟩,rfl,(Mem.flat (LL:=[NG k s]) rfl (hS_.pick [1] Al rfl))⟩))))
   ·have qh26:=h26;try simp only[zA]at qh26
    refine Ak (hK5 _ _ _ (Ad (fun K30 hK30=>Ad (fun K31 hK31=>Aa ?_))))
    refine Ab 2 (Ac (hK31 _ _ _ ?_))
    refine Ao (kd !=1) Ae (fun h33=>?_) (fun h34=>?_)
    ·have qh33:=h33;try simp only[zA]at qh33
     refine Ad (fun K35 hK35=>?_)
     rcases hkn:I3 (((pr:Nat):Int),sr,ds,fm,(dn:Int)) s.p.es with _|⟨eb,ee⟩
     ·refine Aa (Ab 1 (Ah (A0 p8 0 0 0 (Q1t dn pr ds fm sr) Tryz.isAgg47 Tryz.sizeOf47) (B0 (v:=pL (Cs ((I3 (Q1o dn pr ds fm sr) s.p.es).map Prod.fst))) (A9 (fun w_ hm_=>(N9 k s (pr:Int) sr ds fm (dn:Int) _ (Xe (i:=3) hm_ rfl ok) ok hA.tie))) (Ah (v:=pL none) ((Ys.p (v:=pL (Cs ((I3 (Q1o dn pr ds fm sr) s.p.es).map Prod.fst)))).conseq ((by rw[hkn];rfl))) ?_))))
      refine Ac (hK35 _ _ _ (Ad (fun K37 hK37=>Ad (fun K38 hK38=>Aa ?_))))
      refine Ab 3 (B7 Ae rfl (B7 Ae rfl (B7 Ae rfl (B7 Ae rfl ?_))))
      refine B7 Ae rfl (B7 Ae rfl (Ab 1 (Ac (hK38 _ _ _ ?_))))
      refine B5 Ae (Ad (fun K40 hK40=>?_))
      refine Aa (Ab 1 (Ai rfl (A4 p6 0 1 0 Q1s Tryz.sizeOf40 rfl rfl) (fun _=>Ab 1 (Ac ?_))))
      refine hK40 _ _ _ (Ap [1,3] Al rfl (Aq (fn:=Tryz.f12) rfl (fun w_ hS_=>B9 rfl (Bq p6 0 0 0 M9 Tryz.isAgg40 Tryz.sizeOf40) (Aw (iV .i64 21)) hS_ ⟨(s,21,Yw,[]),⟨hI,rfl,Mc,.no Rs rfl rfl (.inr (.inr (.inr (.inl ⟨(by simpa using h33),.inl hkn⟩))))⟩,rfl,(Mem.flat (LL:=[NG k s]) rfl (hS_.pick [1] Al rfl))⟩)))
     ·obtain⟨⟨fA,fB,hfe⟩,hq1_,hq2_,hq3_,hq4_⟩:=Ms hkn
      have hej:=Vq hfe
      have hmm_:(eb,ee)∈s.p.es:=by rw[hfe];exact Cf.2 (.inl rfl)
      refine Aa (Ab 1 (Ah (A0 p8 0 0 0 (Q1t dn pr ds fm sr) Tryz.isAgg47 Tryz.sizeOf47) (B0 (v:=pL (Cs ((I3 (Q1o dn pr ds fm sr) s.p.es).map Prod.fst))) (A9 (fun w_ hm_=>(N9 k s (pr:Int) sr ds fm (dn:Int) _ (Xe (i:=3) hm_ rfl ok) ok hA.tie))) (Ah (v:=pV eb 0) ((Ys.p (v:=pL (Cs ((I3 (Q1o dn pr ds fm sr) s.p.es).map Prod.fst)))).conseq ((by rw[hkn];rfl))) ?_))))
      refine Ac (hK35 _ _ _ (Ad (fun K43 hK43=>Ad (fun K44 hK44=>Aa ?_))))
      refine Ab 3 (Am (v:=pV eb 0) (true) rfl Ae rfl (fun _=>Ys.p) (Am (v:=pV eb 0) (true) rfl Ae rfl (fun _=>Ys.p) (Am (v:=pV eb 0) (true) rfl Ae rfl (fun _=>Ys.p) (Am (v:=pV eb 7) (true) rfl Ae rfl (fun _=>Ys.p) ?_))))
      refine Am (v:=bV ee.lan) (true) rfl Ae rfl (fun _=>Ys.ld (a:=⟨eb,7,none⟩) rfl Ae Tryz.isAgg4 (fun w_ h_=>by have x_:=(NG.ent (i:=3) h_ rfl hej).ld (q:=7) (v:=bV ee.lan) rfl;rw[Br]at x_;exact x_)) (Am (v:=bV (!ee.lan)) (true) rfl Ae rfl (fun _=>Ys.p) (Ab 1 (Ac (hK44 _ _ _ ?_))))
      refine Ao (!ee.lan) Ae (fun h46=>?_) (fun h47=>?_)
      ·refine Ad (fun K48 hK48=>Aa (Ab 1 (Ai rfl (A4 p6 0 1 0 Q1s Tryz.sizeOf40 rfl rfl) (fun _=>Ab 1 ?_))))
       refine Ac (hK48 _ _ _ (Ap [1,3] Al rfl (Aq (fn:=Tryz.f12) rfl (fun w_ hS_=>B9 rfl (Bq p6 0 0 0 M9 Tryz.isAgg40 Tryz.sizeOf40) (Aw (iV .i64 21)) hS_ ⟨(s,21,Yw,[]),⟨hI,rfl,Mc,.no Rs rfl rfl (.inr (.inr (.inr (.inl ⟨(by simpa using h33),.inr ⟨(eb,ee),hkn,by simpa using h46⟩⟩))))⟩,rfl,(Mem.flat (LL:=[NG k s]) rfl (hS_.pick [1] Al rfl))⟩))))
      ·refine Ak (hK43 _ _ _ (Ad (fun K51 hK51=>Ad (fun K52 hK52=>Aa ?_))))
       refine Ab 2 (Ac (hK52 _ _ _ ?_))
       refine Ao (kd==2) Ae (fun h54=>?_) (fun h55=>?_)
       ·have qh54:=h54;try simp only[zA]at qh54
        obtain⟨s56,hzs56⟩: ∃z,z=Vm s (fA++fB):=⟨_,rfl⟩
        have ok57:NOk k s56:=hzs56▸Jq ok _
        have hp58:s56.p={s.p with es:=fA++fB}:=by rw[hzs56];rfl
        obtain⟨lxs56,lys56,lzs56,lms56,lfs56⟩:=NOk.len ok57
        refine W.conseq (S':=Mem w M [NG k s56,[cb eb [iV .u8 ee.pr,iV .u32 ee.src,iV .u32 ee.dst,iV .u16 ee.frm,iV .u16 ee.dto,iV .u16 ee.ext,iV .u64 ee.ends,bV ee.lan,bV ee.s0,bV ee.s1,bV ee.s2,bV ee.s3,bV ee.s4,iV .u64 ee.id,bV ee.given] 113],Q1n dn p8 pr ds fm sr,Q1m p6,Q1l ba bc bl p4 dst pid pro src ttl]) (fun w_ h_=>hzs56▸Sn hfe (h_.pick [3,0,1,2] Al rfl)) (Aa (Ab 2 (Ah (A0 p4 0 4 0 (Q1r ba bc bl dst pid pro src ttl) Tryz.isAgg40 Tryz.sizeOf40) (Ab 1 ?_))))
        refine Ax rfl (Au [0,1] [2,3,4] (fun w_ hm_ hl_=>(N7 k s56 _ ee eb ttl pro pid src dst ba bl bc now fl false sg _ ok57 hl_ (by rw[show s56.p.ws=s.p.ws by rw[hp58]<;>rfl];have z_:=hwl_;omega) (fun LL_ w2_ h2_=>hfl _ _ (Mem.back (LL:=[NG k s56,[cb eb [iV .u8 ee.pr,iV .u32 ee.src,iV .u32 ee.dst,iV .u16 ee.frm,iV .u16 ee.dto,iV .u16 ee.ext,iV .u64 ee.ends,bV ee.lan,bV ee.s0,bV ee.s1,bV ee.s2,bV ee.s3,bV ee.s4,iV .u64 ee.id,bV ee.given] 113]]) (R:=[Q1n dn p8 pr ds fm sr,Q1m p6,Q1l ba bc bl p4 dst pid pro src ttl]) (Mem.pick [0,1,2,3,4] Al hm_ rfl) h2_))))) (fun q64 hx66=>?_)
        obtain⟨s59,e60⟩:=q64
        dsimp only at hx66
        obtain⟨ok61,hrn62,hp63⟩:=hx66
        refine Bu (LL':=[NG k s59,[cb eb [iV .u8 e60.pr,iV .u32 e60.src,iV .u32 e60.dst,iV .u16 e60.frm,iV .u16 e60.dto,iV .u16 e60.ext,iV .u64 e60.ends,bV e60.lan,bV e60.s0,bV e60.s1,bV e60.s2,bV e60.s3,bV e60.s4,iV .u64 e60.id,bV e60.given] 113],Q1n dn p8 pr ds fm sr,Q1m p6,Q1l ba bc bl p4 dst pid pro src ttl]) rfl ?_
        obtain⟨lxs59,lys59,lzs59,lms59,lfs59⟩:=NOk.len ok61
        refine Ac (hK51 _ _ _ (Ad (fun K68 hK68=>Dh [(0,true),(1,true),(2,true),(3,true),(4,true),(5,true),(6,true),(7,true),(8,false),(9,false),(10,false),(11,false),(12,false),(13,false),(14,false),(15,false),(16,true),(17,false),(18,false),(19,false)] [0,1,2,3,4,5,6,7,16] (Wd.ys rfl rfl rfl (A0 p4 0 4 0 (Q1r ba bc bl dst pid pro src ttl) Tryz.isAgg40 Tryz.sizeOf40) ?_))))
        refine Wd.ys rfl rfl rfl (A0 p8 0 2 0 (Q1t dn pr ds fm sr) Tryz.isAgg47 Tryz.sizeOf47) (Ay 5 (Wd.ys (v:=iV .u32 ee.src) rfl rfl rfl (Ys.conseq (v:=iV .u32 e60.src) (Af (hrn62.src)) (An eb 1 1 0 Tryz.isAgg24)) (Wd.yc (v:=pV eb 0) rfl rfl rfl (Ys.yc (Ys.p)) (.inr fun _ h_=>h_) (Wd.yc (v:=pV eb 0) rfl rfl rfl (Ys.yc (Ys.p)) (.inr fun _ h_=>h_) ?_))))
        refine Wd.yc (v:=pV eb 0) rfl rfl rfl (Ys.yc (Ys.p)) (.inr fun _ h_=>h_) (Wd.yc (v:=pV eb 0) rfl rfl rfl (Ys.yc (Ys.p)) (.inr fun _ h_=>h_) (Wd.yc (v:=pV eb 3) rfl rfl rfl (Ys.yc (Ys.p)) (.inr fun _ h_=>h_) (Wd.yc (v:=iV .u16 ee.frm) rfl rfl rfl (Ys.yc (Ys.conseq (v:=iV .u16 e60.frm) (Af (hrn62.frm)) (An eb 3 1 0 Tryz.isAgg22))) (.inr fun _ h_=>h_) (Wd.yc (v:=aV [nV .u8 pr,iV .u32 sr,iV .u32 ee.src,iV .u16 fm,iV .u16 ee.frm]) rfl rfl rfl (A9 (fun w_ hm_=>(O9 (pr:Int) sr ds fm (dn:Int) ee.src ee.frm _))) (.inr fun _ h_=>h_) ?_))))
        refine Cd rfl rfl (Au [] [0,1,2,3,4] (fun w_ hm_ hl_=>(hrw (((pr:Nat):Int),sr,ee.src,fm,ee.frm) _ _ hm_ (Mt hfr (hA.rng (eb,ee) hmm_).src (hA.rng (eb,ee) hmm_).frm) rfl))) (.inr fun _ _ h_=>h_.pick [1,2,3,4,5] Al rfl) (fun rx69 hrx70=>Ay 1 (Wd.yc (v:=iV .i64 (re (((pr:Nat):Int),sr,ee.src,fm,ee.frm))) rfl rfl rfl (Ys.yc (Ys.p)) (.inr fun _ h_=>h_.pick [1,2,3,4,5] Al rfl) (B8 rfl rfl (A4 p6 0 4 0 [iV .u8 ((rv (((pr:Nat):Int),sr,ee.src,fm,ee.frm) rx69).ttl),iV .u8 ((rv (((pr:Nat):Int),sr,ee.src,fm,ee.frm) rx69).pro),iV .u16 ((rv (((pr:Nat):Int),sr,ee.src,fm,ee.frm) rx69).pid),iV .u32 ((rv (((pr:Nat):Int),sr,ee.src,fm,ee.frm) rx69).src),iV .u32 ((rv (((pr:Nat):Int),sr,ee.src,fm,ee.frm) rx69).dst),sL ((rv (((pr:Nat):Int),sr,ee.src,fm,ee.frm) rx69).ba) ((rv (((pr:Nat):Int),sr,ee.src,fm,ee.frm) rx69).bl) ((rv (((pr:Nat):Int),sr,ee.src,fm,ee.frm) rx69).bc)] Tryz.sizeOf40 rfl rfl) (.inl Ae) (fun _=>Wd.yc (v:=iV .i64 (re (((pr:Nat):Int),sr,ee.src,fm,ee.frm))) rfl rfl rfl (Ys.yc (Ys.p)) (.inl Ae) ?_))))
        refine A7 (hK68 _ _ _ (Ap [0,1,2,4] Al rfl (Aq (fn:=Tryz.f12) rfl ?_)))
        have he_:s59.p.es=fA++fB:=by rw[hp63,hp58]
        have hI2_:=Sp (p':=(Vm s59 (fA++(eb,e60)::fB)).p) hI hfe hrn62 (by show({s59.p with es:=_}:NP)=_;rw[hp63,hp58])
        exact fun w_ hS_=>B9 rfl (Bq p6 0 3 0 [iV .u8 ((rv (((pr:Nat):Int),sr,ee.src,fm,ee.frm) rx69).ttl),iV .u8 ((rv (((pr:Nat):Int),sr,ee.src,fm,ee.frm) rx69).pro),iV .u16 ((rv (((pr:Nat):Int),sr,ee.src,fm,ee.frm) rx69).pid),iV .u32 ((rv (((pr:Nat):Int),sr,ee.src,fm,ee.frm) rx69).src),iV .u32 ((rv (((pr:Nat):Int),sr,ee.src,fm,ee.frm) rx69).dst),Value.slice ((rv (((pr:Nat):Int),sr,ee.src,fm,ee.frm) rx69).ba) ((rv (((pr:Nat):Int),sr,ee.src,fm,ee.frm) rx69).bl) ((rv (((pr:Nat):Int),sr,ee.src,fm,ee.frm) rx69).bc)] Tryz.isAgg40 Tryz.sizeOf40) (Aw (iV .i64 (re (((pr:Nat):Int),sr,ee.src,fm,ee.frm)))) hS_ ⟨(Vm s59 (fA++(eb,e60)::fB),re (((pr:Nat):Int),sr,ee.src,fm,ee.frm),rv (((pr:Nat):Int),sr,ee.src,fm,ee.frm) rx69,rs (((pr:Nat):Int),sr,ee.src,fm,ee.frm) rx69),⟨⟨Jq ok61 _,hI2_.1,hI2_.2,hI.fr,hI.fu,(by show RngM s59.p.ms;rw[hp63,hp58];exact hI.mr)⟩,(by show s59.p.ms=_;rw[hp63,hp58]),(by show s59.p.lst≤_;rw[hp63,hp58];show s.p.lst≤_;omega),.old (by simpa using h9) fA fB eb ee e60 hfe ⟨hq1_,hq2_,hq3_,hq4_⟩ hrn62 rfl ⟨rfl,rx69,hrx70,rfl,rfl⟩⟩,rfl,(So he_ (Mem.pick [1,2,0] Al hS_ rfl))⟩
       ·have qh55:=h55;try simp only[zA]at qh55
        refine Ak (hK51 _ _ _ (Ad (fun K74 hK74=>Dh [(0,true),(1,true),(2,true),(3,true),(4,true),(5,true),(6,true),(7,true),(8,false),(9,false),(10,false),(11,false),(12,false),(13,false),(14,false),(15,false),(16,true),(17,false),(18,false),(19,false)] [0,1,2,3,4,5,6,7,16] (Wd.ys rfl rfl rfl (A0 p4 0 2 0 (Q1r ba bc bl dst pid pro src ttl) Tryz.isAgg40 Tryz.sizeOf40) ?_))))
        refine Wd.ys rfl rfl rfl (A0 p8 0 0 0 (Q1t dn pr ds fm sr) Tryz.isAgg47 Tryz.sizeOf47) (Ay 5 (Wd.ys rfl rfl rfl (Ys.ld (a:=⟨eb,1,none⟩) rfl Ae Tryz.isAgg24 (fun w_ h_=>by have x_:=(NG.ent (i:=3) h_ rfl hej).ld (q:=1) (v:=iV .u32 ee.src) rfl;rw[Br]at x_;exact x_)) (Wd.yc (v:=pV eb 0) rfl rfl rfl (Ys.yc (Ys.p)) (.inr fun _ h_=>h_) (Wd.yc (v:=pV eb 0) rfl rfl rfl (Ys.yc (Ys.p)) (.inr fun _ h_=>h_) ?_))))
        refine Wd.yc (v:=pV eb 0) rfl rfl rfl (Ys.yc (Ys.p)) (.inr fun _ h_=>h_) (Wd.yc (v:=pV eb 0) rfl rfl rfl (Ys.yc (Ys.p)) (.inr fun _ h_=>h_) (Wd.yc (v:=pV eb 3) rfl rfl rfl (Ys.yc (Ys.p)) (.inr fun _ h_=>h_) (Wd.yc (v:=iV .u16 ee.frm) rfl rfl rfl (Ys.yc (Ys.ld (a:=⟨eb,3,none⟩) rfl Ae Tryz.isAgg22 (fun w_ h_=>by have x_:=(NG.ent (i:=3) h_ rfl hej).ld (q:=3) (v:=iV .u16 ee.frm) rfl;rw[Br]at x_;exact x_))) (.inr fun _ h_=>h_) (Wd.yc (v:=aV [nV .u8 pr,iV .u32 sr,iV .u32 ee.src,iV .u16 fm,iV .u16 ee.frm]) rfl rfl rfl (A9 (fun w_ hm_=>(O9 (pr:Int) sr ds fm (dn:Int) ee.src ee.frm _))) (.inr fun _ h_=>h_) ?_))))
        refine Cd rfl rfl (Au [] [0,1,2,3] (fun w_ hm_ hl_=>(hrw (((pr:Nat):Int),sr,ee.src,fm,ee.frm) _ _ hm_ (Mt hfr (hA.rng (eb,ee) hmm_).src (hA.rng (eb,ee) hmm_).frm) rfl))) (.inr fun _ _ h_=>h_.pick [1,2,3,4] Al rfl) (fun rx75 hrx76=>Ay 1 (Wd.yc (v:=iV .i64 (re (((pr:Nat):Int),sr,ee.src,fm,ee.frm))) rfl rfl rfl (Ys.yc (Ys.p)) (.inr fun _ h_=>h_.pick [1,2,3,4] Al rfl) (B8 rfl rfl (A4 p6 0 2 0 [iV .u8 ((rv (((pr:Nat):Int),sr,ee.src,fm,ee.frm) rx75).ttl),iV .u8 ((rv (((pr:Nat):Int),sr,ee.src,fm,ee.frm) rx75).pro),iV .u16 ((rv (((pr:Nat):Int),sr,ee.src,fm,ee.frm) rx75).pid),iV .u32 ((rv (((pr:Nat):Int),sr,ee.src,fm,ee.frm) rx75).src),iV .u32 ((rv (((pr:Nat):Int),sr,ee.src,fm,ee.frm) rx75).dst),sL ((rv (((pr:Nat):Int),sr,ee.src,fm,ee.frm) rx75).ba) ((rv (((pr:Nat):Int),sr,ee.src,fm,ee.frm) rx75).bl) ((rv (((pr:Nat):Int),sr,ee.src,fm,ee.frm) rx75).bc)] Tryz.sizeOf40 rfl rfl) (.inl Ae) (fun _=>Wd.yc (v:=iV .i64 (re (((pr:Nat):Int),sr,ee.src,fm,ee.frm))) rfl rfl rfl (Ys.yc (Ys.p)) (.inl Ae) ?_))))
        refine A7 (hK74 _ _ _ (Ap [0,2,4] Al rfl (Aq (fn:=Tryz.f12) rfl (fun w_ hS_=>B9 rfl (Bq p6 0 1 0 [iV .u8 ((rv (((pr:Nat):Int),sr,ee.src,fm,ee.frm) rx75).ttl),iV .u8 ((rv (((pr:Nat):Int),sr,ee.src,fm,ee.frm) rx75).pro),iV .u16 ((rv (((pr:Nat):Int),sr,ee.src,fm,ee.frm) rx75).pid),iV .u32 ((rv (((pr:Nat):Int),sr,ee.src,fm,ee.frm) rx75).src),iV .u32 ((rv (((pr:Nat):Int),sr,ee.src,fm,ee.frm) rx75).dst),Value.slice ((rv (((pr:Nat):Int),sr,ee.src,fm,ee.frm) rx75).ba) ((rv (((pr:Nat):Int),sr,ee.src,fm,ee.frm) rx75).bl) ((rv (((pr:Nat):Int),sr,ee.src,fm,ee.frm) rx75).bc)] Tryz.isAgg40 Tryz.sizeOf40) (Aw (iV .i64 (re (((pr:Nat):Int),sr,ee.src,fm,ee.frm)))) hS_ ⟨(s,re (((pr:Nat):Int),sr,ee.src,fm,ee.frm),rv (((pr:Nat):Int),sr,ee.src,fm,ee.frm) rx75,rs (((pr:Nat):Int),sr,ee.src,fm,ee.frm) rx75),⟨hI,rfl,Mc,.err (by simpa using h9) (by simpa using h33) (by simpa using h55) rfl (eb,ee) hkn ⟨rfl,rx75,hrx76,rfl,rfl⟩⟩,rfl,(hS_.pick [2,0] Al rfl)⟩))))
    ·have qh34:=h34;try simp only[zA]at qh34
     refine Ak (hK30 _ _ _ (Ad (fun K80 hK80=>?_)))
     rcases Ajc (f:=(((pr:Nat):Int),sr,ds,fm,(dn:Int))) hm0 hf0 hdm with htc_|htc_
     ·obtain⟨ht_,hg_,h0_⟩:=htc_
      refine Aa (Ab 1 (Ah (A0 p8 0 0 0 (Q1t dn pr ds fm sr) Tryz.isAgg47 Tryz.sizeOf47) (B0 (v:=Value.tuple #[aV (Q1u dn pr ds fm sr k s),bV ((Po dn pr ds fm sr k s).2.1),pL (Cs (Po dn pr ds fm sr k s).2.2.1),iV .i64 ((Po dn pr ds fm sr k s).2.2.2)]) (A9 (fun w_ hm_=>(Uh k s (pr:Int) sr ds fm (dn:Int) _ (Xe (i:=3) hm_ rfl ok) ok hA.tie hdm hf0 hm0))) (Ab 2 ?_))))
      refine Ah (v:=bV false) ((Ys.p (v:=bV ((Po dn pr ds fm sr k s).2.1))).conseq (Cj (hg_))) (Ah (v:=pL none) ((Ys.p (v:=pL (Cs (Po dn pr ds fm sr k s).2.2.1))).conseq ((by rw[ht_];rfl))) (Ah (v:=iV .i64 21) ((Ys.p (v:=iV .i64 ((Po dn pr ds fm sr k s).2.2.2))).conseq (Af (h0_))) (Ai rfl (Bc Tryz.zeroValue97) (fun p12=>Ai rfl (A4 p12 0 0 0 (Q1u dn pr ds fm sr k s) Tryz.sizeOf97 rfl rfl) (fun _=>?_)))))
      refine Ab 3 (Ac (hK80 _ _ _ (Ad (fun K82 hK82=>Ad (fun K83 hK83=>?_)))))
      refine Aa (Ab 2 (Ac (hK83 _ _ _ (B5 Ae ?_))))
      refine Ad (fun K85 hK85=>Aa (Ab 2 (Ai rfl (A4 p6 0 2 0 Q1s Tryz.sizeOf40 rfl rfl) (fun _=>Ab 1 ?_))))
      refine Ac (hK85 _ _ _ (Ap [2,4] Al rfl (Aq (fn:=Tryz.f12) rfl (fun w_ hS_=>B9 rfl (Bq p6 0 0 0 M9 Tryz.isAgg40 Tryz.sizeOf40) (Aw (iV .i64 21)) hS_ ⟨(s,21,Yw,[]),⟨hI,rfl,Mc,.no Rs rfl rfl (.inr (.inr (.inr (.inr (.inl ⟨(by simpa using h34),(by rw[h0_];decide),h0_.symm⟩)))))⟩,rfl,(Mem.flat (LL:=[NG k s]) rfl (hS_.pick [1] Al rfl))⟩))))
     ·obtain⟨eb,ee,ht_,hkn,hlan_,ht1_,hg_,h0_⟩:=htc_
      obtain⟨⟨fA,fB,hfe⟩,hq1_,hq2_,hq3_,hq4_⟩:=Ms hkn
      have hej:=Vq hfe
      have hmm_:(eb,ee)∈s.p.es:=by rw[hfe];exact Cf.2 (.inl rfl)
      have hs1_:ee.src=(Cl k.c k.fx s.p (((pr:Nat):Int),sr,ds,fm,(dn:Int))).1.2.1:=by rw[ht1_]
      have hs2_:ee.frm=(Cl k.c k.fx s.p (((pr:Nat):Int),sr,ds,fm,(dn:Int))).1.2.2:=by rw[ht1_]
      refine Aa (Ab 1 (Ah (A0 p8 0 0 0 (Q1t dn pr ds fm sr) Tryz.isAgg47 Tryz.sizeOf47) (B0 (v:=Value.tuple #[aV (Q1u dn pr ds fm sr k s),bV ((Po dn pr ds fm sr k s).2.1),pL (Cs (Po dn pr ds fm sr k s).2.2.1),iV .i64 ((Po dn pr ds fm sr k s).2.2.2)]) (A9 (fun w_ hm_=>(Uh k s (pr:Int) sr ds fm (dn:Int) _ (Xe (i:=3) hm_ rfl ok) ok hA.tie hdm hf0 hm0))) (Ab 2 ?_))))
      refine Ah (v:=bV false) ((Ys.p (v:=bV ((Po dn pr ds fm sr k s).2.1))).conseq (Cj (hg_))) (Ah (v:=pV eb 0) ((Ys.p (v:=pL (Cs (Po dn pr ds fm sr k s).2.2.1))).conseq ((by rw[ht_];rfl))) (Ah (v:=iV .i64 0) ((Ys.p (v:=iV .i64 ((Po dn pr ds fm sr k s).2.2.2))).conseq (Af (h0_))) (Ai rfl (Bc Tryz.zeroValue97) (fun p12=>Ai rfl (A4 p12 0 0 0 (Q1u dn pr ds fm sr k s) Tryz.sizeOf97 rfl rfl) (fun _=>?_)))))
      refine Ab 3 (Ac (hK80 _ _ _ (Ad (fun K88 hK88=>Ad (fun K89 hK89=>?_)))))
      refine Aa (Ab 2 (Ac (hK89 _ _ _ (B4 Ae ?_))))
      refine Ak (hK88 _ _ _ (Ad (fun K92 hK92=>Ad (fun K93 hK93=>Aa ?_))))
      refine Ab 2 (Ac (hK93 _ _ _ (B4 Ae (Ak ?_))))
      refine hK92 _ _ _ (Ad (fun K96 hK96=>?_))
      obtain⟨s97,hzs97⟩: ∃z,z=Vm s (fA++fB):=⟨_,rfl⟩
      have ok98:NOk k s97:=hzs97▸Jq ok _
      have hp99:s97.p={s.p with es:=fA++fB}:=by rw[hzs97];rfl
      obtain⟨lxs97,lys97,lzs97,lms97,lfs97⟩:=NOk.len ok98
      refine W.conseq (S':=Mem w M [NG k s97,[cb eb [iV .u8 ee.pr,iV .u32 ee.src,iV .u32 ee.dst,iV .u16 ee.frm,iV .u16 ee.dto,iV .u16 ee.ext,iV .u64 ee.ends,bV ee.lan,bV ee.s0,bV ee.s1,bV ee.s2,bV ee.s3,bV ee.s4,iV .u64 ee.id,bV ee.given] 113],Q1k dn p12 pr ds fm sr k s,Q1n dn p8 pr ds fm sr,Q1m p6,Q1l ba bc bl p4 dst pid pro src ttl]) (fun w_ h_=>hzs97▸Sn hfe (h_.pick [4,0,1,2,3] Al rfl)) (Aa (Ab 2 (Ah (A0 p4 0 5 0 (Q1r ba bc bl dst pid pro src ttl) Tryz.isAgg40 Tryz.sizeOf40) (Ab 1 ?_))))
      refine Ax rfl (Au [0,1] [2,3,4,5] (fun w_ hm_ hl_=>(N7 k s97 _ ee eb ttl pro pid src dst ba bl bc now fl false sg _ ok98 hl_ (by rw[show s97.p.ws=s.p.ws by rw[hp99]<;>rfl];have z_:=hwl_;omega) (fun LL_ w2_ h2_=>hfl _ _ (Mem.back (LL:=[NG k s97,[cb eb [iV .u8 ee.pr,iV .u32 ee.src,iV .u32 ee.dst,iV .u16 ee.frm,iV .u16 ee.dto,iV .u16 ee.ext,iV .u64 ee.ends,bV ee.lan,bV ee.s0,bV ee.s1,bV ee.s2,bV ee.s3,bV ee.s4,iV .u64 ee.id,bV ee.given] 113]]) (R:=[Q1k dn p12 pr ds fm sr k s,Q1n dn p8 pr ds fm sr,Q1m p6,Q1l ba bc bl p4 dst pid pro src ttl]) (Mem.pick [0,1,2,3,4,5] Al hm_ rfl) h2_))))) (fun q105 hx107=>?_)
      obtain⟨s100,e101⟩:=q105
      dsimp only at hx107
      obtain⟨ok102,hrn103,hp104⟩:=hx107
      refine Bu (LL':=[NG k s100,[cb eb [iV .u8 e101.pr,iV .u32 e101.src,iV .u32 e101.dst,iV .u16 e101.frm,iV .u16 e101.dto,iV .u16 e101.ext,iV .u64 e101.ends,bV e101.lan,bV e101.s0,bV e101.s1,bV e101.s2,bV e101.s3,bV e101.s4,iV .u64 e101.id,bV e101.given] 113],Q1k dn p12 pr ds fm sr k s,Q1n dn p8 pr ds fm sr,Q1m p6,Q1l ba bc bl p4 dst pid pro src ttl]) rfl ?_
      obtain⟨lxs100,lys100,lzs100,lms100,lfs100⟩:=NOk.len ok102
      refine Ac (hK96 _ _ _ (Ad (fun K109 hK109=>Dh [(0,true),(1,true),(2,true),(3,true),(4,false),(5,false),(6,false),(7,false),(8,true),(9,false),(10,false),(11,false)] [0,1,2,3,8] (Wd.ys rfl rfl rfl (A0 p4 0 5 0 (Q1r ba bc bl dst pid pro src ttl) Tryz.isAgg40 Tryz.sizeOf40) ?_))))
      refine Wd.ys rfl rfl rfl (A0 p8 0 3 0 (Q1t dn pr ds fm sr) Tryz.isAgg47 Tryz.sizeOf47) (Ay 1 (Wd.ys rfl rfl rfl (An p12 1 2 0 Tryz.isAgg24) (Wd.yc (v:=pV p12 2) rfl rfl rfl (Ys.yc (Ys.p)) (.inr fun _ h_=>h_) (Wd.yc (v:=iV .u16 ((Po dn pr ds fm sr k s).1.2.2)) rfl rfl rfl (Ys.yc (An p12 2 2 0 Tryz.isAgg22)) (.inr fun _ h_=>h_) ?_))))
      refine Wd.yc (v:=aV [nV .u8 pr,iV .u32 sr,iV .u32 ((Po dn pr ds fm sr k s).1.2.1),iV .u16 fm,iV .u16 ((Po dn pr ds fm sr k s).1.2.2)]) rfl rfl rfl (A9 (fun w_ hm_=>(O9 (pr:Int) sr ds fm (dn:Int) ((Po dn pr ds fm sr k s).1.2.1) ((Po dn pr ds fm sr k s).1.2.2) _))) (.inr fun _ h_=>h_) (Cd rfl rfl (Au [] [0,1,2,3,4,5] (fun w_ hm_ hl_=>(hrw (Q1q dn pr ds fm sr k s) _ _ hm_ (Mt hfr (by rw[←hs1_];exact(hA.rng (eb,ee) hmm_).src) (by rw[←hs2_];exact(hA.rng (eb,ee) hmm_).frm)) rfl))) (.inr fun _ _ h_=>h_.pick [1,2,3,4,5,6] Al rfl) (fun rx110 hrx111=>?_))
      refine Ay 1 (Wd.yc (v:=iV .i64 (re (Q1q dn pr ds fm sr k s))) rfl rfl rfl (Ys.yc (Ys.p)) (.inr fun _ h_=>h_.pick [1,2,3,4,5,6] Al rfl) (B8 rfl rfl (A4 p6 0 5 0 [iV .u8 ((rv (Q1q dn pr ds fm sr k s) rx110).ttl),iV .u8 ((rv (Q1q dn pr ds fm sr k s) rx110).pro),iV .u16 ((rv (Q1q dn pr ds fm sr k s) rx110).pid),iV .u32 ((rv (Q1q dn pr ds fm sr k s) rx110).src),iV .u32 ((rv (Q1q dn pr ds fm sr k s) rx110).dst),sL ((rv (Q1q dn pr ds fm sr k s) rx110).ba) ((rv (Q1q dn pr ds fm sr k s) rx110).bl) ((rv (Q1q dn pr ds fm sr k s) rx110).bc)] Tryz.sizeOf40 rfl rfl) (.inl Ae) (fun _=>Wd.yc (v:=iV .i64 (re (Q1q dn pr ds fm sr k s))) rfl rfl rfl (Ys.yc (Ys.p)) (.inl Ae) (A7 ?_))))
      refine hK109 _ _ _ (Ap [0,1,2,5] Al rfl (Aq (fn:=Tryz.f12) rfl ?_))
      have he_:s100.p.es=fA++fB:=by rw[hp104,hp99]
      have hI2_:=Sp (p':=(Vm s100 (fA++(eb,e101)::fB)).p) hI hfe hrn103 (by show({s100.p with es:=_}:NP)=_;rw[hp104,hp99])
      exact fun w_ hS_=>B9 rfl (Bq p6 0 3 0 [iV .u8 ((rv (((pr:Nat):Int),sr,(Cl k.c k.fx s.p (((pr:Nat):Int),sr,ds,fm,(dn:Int))).1.2.1,fm,(Cl k.c k.fx s.p (((pr:Nat):Int),sr,ds,fm,(dn:Int))).1.2.2) rx110).ttl),iV .u8 ((rv (((pr:Nat):Int),sr,(Cl k.c k.fx s.p (((pr:Nat):Int),sr,ds,fm,(dn:Int))).1.2.1,fm,(Cl k.c k.fx s.p (((pr:Nat):Int),sr,ds,fm,(dn:Int))).1.2.2) rx110).pro),iV .u16 ((rv (((pr:Nat):Int),sr,(Cl k.c k.fx s.p (((pr:Nat):Int),sr,ds,fm,(dn:Int))).1.2.1,fm,(Cl k.c k.fx s.p (((pr:Nat):Int),sr,ds,fm,(dn:Int))).1.2.2) rx110).pid),iV .u32 ((rv (((pr:Nat):Int),sr,(Cl k.c k.fx s.p (((pr:Nat):Int),sr,ds,fm,(dn:Int))).1.2.1,fm,(Cl k.c k.fx s.p (((pr:Nat):Int),sr,ds,fm,(dn:Int))).1.2.2) rx110).src),iV .u32 ((rv (((pr:Nat):Int),sr,(Cl k.c k.fx s.p (((pr:Nat):Int),sr,ds,fm,(dn:Int))).1.2.1,fm,(Cl k.c k.fx s.p (((pr:Nat):Int),sr,ds,fm,(dn:Int))).1.2.2) rx110).dst),Value.slice ((rv (((pr:Nat):Int),sr,(Cl k.c k.fx s.p (((pr:Nat):Int),sr,ds,fm,(dn:Int))).1.2.1,fm,(Cl k.c k.fx s.p (((pr:Nat):Int),sr,ds,fm,(dn:Int))).1.2.2) rx110).ba) ((rv (((pr:Nat):Int),sr,(Cl k.c k.fx s.p (((pr:Nat):Int),sr,ds,fm,(dn:Int))).1.2.1,fm,(Cl k.c k.fx s.p (((pr:Nat):Int),sr,ds,fm,(dn:Int))).1.2.2) rx110).bl) ((rv (((pr:Nat):Int),sr,(Cl k.c k.fx s.p (((pr:Nat):Int),sr,ds,fm,(dn:Int))).1.2.1,fm,(Cl k.c k.fx s.p (((pr:Nat):Int),sr,ds,fm,(dn:Int))).1.2.2) rx110).bc)] Tryz.isAgg40 Tryz.sizeOf40) (Aw (iV .i64 (re (((pr:Nat):Int),sr,(Cl k.c k.fx s.p (((pr:Nat):Int),sr,ds,fm,(dn:Int))).1.2.1,fm,(Cl k.c k.fx s.p (((pr:Nat):Int),sr,ds,fm,(dn:Int))).1.2.2)))) hS_ ⟨(Vm s100 (fA++(eb,e101)::fB),re (((pr:Nat):Int),sr,(Cl k.c k.fx s.p (((pr:Nat):Int),sr,ds,fm,(dn:Int))).1.2.1,fm,(Cl k.c k.fx s.p (((pr:Nat):Int),sr,ds,fm,(dn:Int))).1.2.2),rv (((pr:Nat):Int),sr,(Cl k.c k.fx s.p (((pr:Nat):Int),sr,ds,fm,(dn:Int))).1.2.1,fm,(Cl k.c k.fx s.p (((pr:Nat):Int),sr,ds,fm,(dn:Int))).1.2.2) rx110,rs (((pr:Nat):Int),sr,(Cl k.c k.fx s.p (((pr:Nat):Int),sr,ds,fm,(dn:Int))).1.2.1,fm,(Cl k.c k.fx s.p (((pr:Nat):Int),sr,ds,fm,(dn:Int))).1.2.2) rx110),⟨⟨Jq ok102 _,hI2_.1,hI2_.2,hI.fr,hI.fu,(by show RngM s100.p.ms;rw[hp104,hp99];exact hI.mr)⟩,(by show s100.p.ms=_;rw[hp104,hp99]),(by show s100.p.lst≤_;rw[hp104,hp99];show s.p.lst≤_;omega),.old (by simpa using h9) fA fB eb ee e101 hfe ⟨hq1_,hq2_,hq3_,hq4_⟩ hrn103 rfl (by rw[hs1_,hs2_];exact⟨rfl,rx110,hrx111,rfl,rfl⟩)⟩,rfl,(So he_ (Mem.pick [1,2,0] Al hS_ rfl))⟩
theorem Aby(fx:List Conf.Fwd)(fa:Option Addr)(fc:Nat)(w:World)(hfx:At w fa (mm Conf.fwv fx))(hfn:fx.length≤100000):Calls Tryz.prog 63 #[sL fa fx.length fc] w (Bj w (fun g':FS=>g'.ok 4 fx.length) (fun g'=>.slice g'.a fx.length g'.cap) [] (fun g'=>[g'.seg 65 (mm Conf.fwv fx)])):=by
 refine Ar (M:=[]) (LL:=[]) (n:=8) Tryz.func63 rfl rfl A5 (Mem.refl _) (Ad (fun K1 hK1=>?_))
 refine Aa (Ab 1 (Ac (hK1 _ _ _ (Ad (fun K2 hK2=>?_)))))
 refine Ad (fun K3 hK3=>Aa (Ab 1 (Ah (v:=bV fa.isNone) (Ys.pure (fun _=>by generalize fa=a_;cases a_<;>kernel_rfl)) (Ac ?_))))
 refine hK3 _ _ _ ?_
 refine Ao (fa.isNone) Ae (fun h5=>?_) (fun h6=>?_)
 ·refine Ad (fun K7 hK7=>Aa (Ab 1 (Ac (hK7 _ _ _ ?_))))
  refine Aq (fn:=Tryz.f63) rfl ?_
  have hx0_:fx=[]:=List.length_eq_zero_iff.1 (by have z_:=Kq hfx h5;rw[T5]at z_;omega)
  exact fun w_ hS_=>Bb rfl (Aw (sL none 0 0)) hS_ ⟨FS.nul,(by rw[hx0_];exact Bw 4),congrArg Ending.returned ((by rw[hx0_];rfl)),(Mem.cast (by rw[hx0_];rfl) (Mem.push hS_))⟩
 ·refine Ak (hK2 _ _ _ (Ad (fun K9 hK9=>Aa (Ai rfl (Bd (mk:=fun b_=>.slice (some ⟨b_,0,none⟩) 0 0) (t:=65) (cs:=[]) rfl (fun _=>kr)) (fun p5=>?_)))))
  refine Ab 1 (Ax rfl (HtS.append (eu:=65) (xv:=sL fa fx.length fc) (i:=0) (g:=(FS.mk false p5 0 [])) (e:=65) (ii:=(Tryz.prog.info? 65).getD default) (z:=aV Xy) (sz:=4) (bytes:=12) (nn:=0) (m:=fx.length) (k:=fx.length) (xs:=mm fwv []) (news:=mm fwv fx) (cs':=mm fwv fx) (Lo:=fun g10=>[g10.seg 65 (mm fwv fx)]) rfl rfl Ae Ae Ae Ae Ae Ae Ae Ae Ae rfl (Dp Al) rfl (fun _=>rfl) (Src.at (a:=fa) (B6 (g:=fwv) (sz:=4) (fun _=>rfl) _) (fun w_ h_=>(hfx.mem0 h_))) (B6 (g:=fwv) (sz:=4) (fun _=>rfl) _) (Gq Aei _) Ef Gv Ef rfl (fun _=>rfl)) (fun g10 hx15=>?_))
  obtain⟨ok11,hn12,hn13⟩:=hx15
  refine Ab 1 (Ac (hK9 _ _ _ (Aq (fn:=Tryz.f63) rfl (fun w_ hS_=>Bb rfl (Aw (sV g10 fx.length)) hS_ ⟨g10,ok11,rfl,(hS_.pick [0] Al rfl)⟩))))
theorem Aje(lm0 lm1 lm2 lm3 lm4 lm5 wm0 wm1 wm2 wm3 wm4 wm5 hm0 hm1 hm2 hm3 hm4 hm5 lan wan bits ms m_m m_c m_u dmz:Int)(uu:ByteArray)(fx:List Conf.Fwd)(fa:Option Addr)(fc:Nat)(w:World)(hfx:At w fa (mm Conf.fwv fx))(hfn:fx.length≤100000):Calls Tryz.prog 28 #[aV [iV .u8 lm0,iV .u8 lm1,iV .u8 lm2,iV .u8 lm3,iV .u8 lm4,iV .u8 lm5,iV .u8 wm0,iV .u8 wm1,iV .u8 wm2,iV .u8 wm3,iV .u8 wm4,iV .u8 wm5,iV .u8 hm0,iV .u8 hm1,iV .u8 hm2,iV .u8 hm3,iV .u8 hm4,iV .u8 hm5,iV .u32 lan,iV .u32 wan,iV .i64 bits,iV .i64 ms,iV .i64 m_m,iV .i64 m_c,iV .i64 m_u,sL fa fx.length fc,iV .u32 dmz,Value.string uu]] w (Bj w (fun g:FS=>g.ok 4 fx.length) (fun g=>aV [iV .u8 lm0,iV .u8 lm1,iV .u8 lm2,iV .u8 lm3,iV .u8 lm4,iV .u8 lm5,iV .u8 wm0,iV .u8 wm1,iV .u8 wm2,iV .u8 wm3,iV .u8 wm4,iV .u8 wm5,iV .u8 hm0,iV .u8 hm1,iV .u8 hm2,iV .u8 hm3,iV .u8 hm4,iV .u8 hm5,iV .u32 lan,iV .u32 wan,iV .i64 bits,iV .i64 ms,iV .i64 m_m,iV .i64 m_c,iV .i64 m_u,sV g fx.length,iV .u32 dmz,Value.string uu]) [] (fun g=>[g.seg 65 (mm Conf.fwv fx)])):=by
 refine Ar (M:=[]) (LL:=[]) (n:=8) Tryz.func28 rfl rfl A5 (Mem.refl _) (Ad (fun K1 hK1=>?_))
 refine Aa (Ai rfl (Bx [iV .u8 lm0,iV .u8 lm1,iV .u8 lm2,iV .u8 lm3,iV .u8 lm4,iV .u8 lm5,iV .u8 wm0,iV .u8 wm1,iV .u8 wm2,iV .u8 wm3,iV .u8 wm4,iV .u8 wm5,iV .u8 hm0,iV .u8 hm1,iV .u8 hm2,iV .u8 hm3,iV .u8 hm4,iV .u8 hm5,iV .u32 lan,iV .u32 wan,iV .i64 bits,iV .i64 ms,iV .i64 m_m,iV .i64 m_c,iV .i64 m_u,sL fa fx.length fc,iV .u32 dmz,Value.string uu] rfl) (fun p1=>?_))
 refine Ai rfl (Bc Tryz.zeroValue32) (fun p2=>Ac (hK1 _ _ _ (Ad (fun K3 hK3=>Aa ?_))))
 refine Ab 1 (Ah (An p1 25 1 0 Tryz.isAgg30) (Ax rfl (Au [] [0,1] (fun w_ hm_ hl_=>(Aby fx fa fc _ (hfx.mem0 hm_) Fb))) (fun gf4 okf5=>Ab 1 (Ai rfl (Bg p1 25 2 0 (sL gf4.a fx.length gf4.cap) Tryz.sizeOf30 rfl rfl) (fun _=>?_)))))
 refine Ac (hK3 _ _ _ (Ad (fun K8 hK8=>Aa (Ah (A0 p1 0 2 0 [iV .u8 lm0,iV .u8 lm1,iV .u8 lm2,iV .u8 lm3,iV .u8 lm4,iV .u8 lm5,iV .u8 wm0,iV .u8 wm1,iV .u8 wm2,iV .u8 wm3,iV .u8 wm4,iV .u8 wm5,iV .u8 hm0,iV .u8 hm1,iV .u8 hm2,iV .u8 hm3,iV .u8 hm4,iV .u8 hm5,iV .u32 lan,iV .u32 wan,iV .i64 bits,iV .i64 ms,iV .i64 m_m,iV .i64 m_c,iV .i64 m_u,sL gf4.a fx.length gf4.cap,iV .u32 dmz,Value.string uu] Tryz.isAgg32 Tryz.sizeOf32) ?_))))
 refine Ai rfl (A4 p2 0 1 0 [iV .u8 lm0,iV .u8 lm1,iV .u8 lm2,iV .u8 lm3,iV .u8 lm4,iV .u8 lm5,iV .u8 wm0,iV .u8 wm1,iV .u8 wm2,iV .u8 wm3,iV .u8 wm4,iV .u8 wm5,iV .u8 hm0,iV .u8 hm1,iV .u8 hm2,iV .u8 hm3,iV .u8 hm4,iV .u8 hm5,iV .u32 lan,iV .u32 wan,iV .i64 bits,iV .i64 ms,iV .i64 m_m,iV .i64 m_c,iV .i64 m_u,sL gf4.a fx.length gf4.cap,iV .u32 dmz,Value.string uu] Tryz.sizeOf32 rfl rfl) (fun _=>Ac (hK8 _ _ _ (Ap [0,1] Al rfl (Aq (fn:=Tryz.f28) rfl (fun w_ hS_=>Bb rfl (Bq p2 0 1 0 [iV .u8 lm0,iV .u8 lm1,iV .u8 lm2,iV .u8 lm3,iV .u8 lm4,iV .u8 lm5,iV .u8 wm0,iV .u8 wm1,iV .u8 wm2,iV .u8 wm3,iV .u8 wm4,iV .u8 wm5,iV .u8 hm0,iV .u8 hm1,iV .u8 hm2,iV .u8 hm3,iV .u8 hm4,iV .u8 hm5,iV .u32 lan,iV .u32 wan,iV .i64 bits,iV .i64 ms,iV .i64 m_m,iV .i64 m_c,iV .i64 m_u,sL gf4.a fx.length gf4.cap,iV .u32 dmz,Value.string uu] Tryz.isAgg32 Tryz.sizeOf32) hS_ ⟨gf4,okf5,rfl,(hS_.pick [0] Al rfl)⟩)))))
abbrev np0:NP:=⟨[],[],[],[],[],fun _=>none,D6 [],0,[]⟩
abbrev ns0:NS:=⟨np0,FS.nul,FS.nul,FS.nul,FS.nul,FS.nul⟩
theorem Ajf(nb ts te ti wb:Nat)(gf:FS)(c:Conf.Cfg)(fx:List Fwd)(mo:Int):NG (⟨nb,ts,te,ti,wb,gf,c,fx,mo⟩:NK) ns0=([[cb nb (Du (⟨nb,ts,te,ti,wb,gf,c,fx,mo⟩:NK) ns0) 91],gf.seg 65 (mm fwv fx),[cb ts [Value.slice none 0 0,Value.int .i64 mo,Value.func (.func 31) #[] #[]] 153],[cb ti [Value.slice none 0 0,Value.int .i64 mo,Value.func (.func 35) #[] #[]] 163],[cb te [Value.slice none 0 0,Value.int .i64 mo,Value.func (.func 33) #[] #[]] 160],[cb wb [.slice none 0 0] 150]]:List (List Blk)).flatten:=by
  show(Gj _ ns0).flatten=_
  unfold Gj
  show List.flatten [_,[],_,[],_,[],_,[],_,[],_,Fx (fun _=>none) (D6 []),[]]=_
  rw[Pb]
  simp only[List.flatten_cons,List.nil_append,List.flatten_nil,List.append_nil]
  rfl
theorem Afu{nb ts te ti wb:Nat}{gf:FS}{c:Conf.Cfg}{fx:List Fwd}(hg:gf.ok 4 fx.length)(hfn:fx.length≤100000)(hm:c.ms≤50000):NOk (⟨nb,ts,te,ti,wb,gf,c,fx,D3 c.ms 0⟩:NK) ns0:=by
  have h1:0≤D3 c.ms 0∧D3 c.ms 0≤50000:=by unfold D3;split<;>omega
  exact⟨Bw 5,hg,Bw 6,Bw 6,Bw 5,Bw 2,Nat.zero_le _,hfn,h1,h1.1,h1.1,h1.1,Nat.zero_le _,List.Pairwise.nil,List.Pairwise.nil,List.Pairwise.nil,OkS.nil,fun p _=>by show D6 [] p=_;rw[Xh]⟩
structure NewP(c:Conf.Cfg)(fx:List Fwd)(k:NK)(s:NS):Prop where
  inv:Inv k s
  ms:s.p.ms=[]
  es:s.p.es=[]
  lst:s.p.lst=0
  kc:k.c=c
  kfx:k.fx=fx
  kmo:k.mo=D3 c.ms 0
theorem Anw{nb ts te ti wb:Nat}{gf:FS}{c:Conf.Cfg}{fx:List Fwd}{tk:Nat→Option Nat}(ok:NOk (⟨nb,ts,te,ti,wb,gf,c,fx,D3 c.ms 0⟩:NK) (Hs ns0 tk (D6 (Gz fx++Hz []++Nj []))))(hF:RngF fx)(hU:FxU fx):NewP c fx (⟨nb,ts,te,ti,wb,gf,c,fx,D3 c.ms 0⟩:NK) (Hs ns0 tk (D6 (Gz fx++Hz []++Nj []))):=by
  have e: ∀{α:Type} {x:α},x∈([]:List α)→False:=fun h=>by cases h
  refine⟨⟨ok,⟨rfl,fun i f=>⟨fun h=>(e h).elim,fun⟨x,hx,_⟩=>(e hx).elim⟩,List.Pairwise.nil,⟨Int.le_refl _,fun x hx=>(e hx).elim⟩,fun i t=>⟨fun h=>(e h).elim,fun⟨x,hx,_⟩=>(e hx).elim⟩,fun _ _ h=>(e h).elim,fun _ h=>(e h).elim,fun _ _ _ _ h=>(e h).elim,fun _ h=>(e h).elim⟩,⟨fun _ h=>(e h).elim,rfl⟩,hF,hU,fun _ h=>(e h).elim⟩,rfl,rfl,rfl,rfl,rfl,rfl⟩
abbrev Q1v(c:Conf.Cfg)(fa:Option Addr)(fc p1:Nat)(fx:List Fwd):List Blk:=[cb p1 [iV .u8 c.lm0,iV .u8 c.lm1,iV .u8 c.lm2,iV .u8 c.lm3,iV .u8 c.lm4,iV .u8 c.lm5,iV .u8 c.wm0,iV .u8 c.wm1,iV .u8 c.wm2,iV .u8 c.wm3,iV .u8 c.wm4,iV .u8 c.wm5,iV .u8 c.hm0,iV .u8 c.hm1,iV .u8 c.hm2,iV .u8 c.hm3,iV .u8 c.hm4,iV .u8 c.hm5,iV .u32 c.lan,iV .u32 c.wan,iV .i64 c.bits,iV .i64 c.ms,iV .i64 c.mm,iV .i64 c.mc,iV .i64 c.mu,sL fa fx.length fc,iV .u32 c.dmz,Value.string c.uu] 32]
abbrev Q1w(c:Conf.Cfg)(fa:Option Addr)(fc:Nat)(fx:List Fwd):List Value:=[iV .u8 c.lm0,iV .u8 c.lm1,iV .u8 c.lm2,iV .u8 c.lm3,iV .u8 c.lm4,iV .u8 c.lm5,iV .u8 c.wm0,iV .u8 c.wm1,iV .u8 c.wm2,iV .u8 c.wm3,iV .u8 c.wm4,iV .u8 c.wm5,iV .u8 c.hm0,iV .u8 c.hm1,iV .u8 c.hm2,iV .u8 c.hm3,iV .u8 c.hm4,iV .u8 c.hm5,iV .u32 c.lan,iV .u32 c.wan,iV .i64 c.bits,iV .i64 c.ms,iV .i64 c.mm,iV .i64 c.mc,iV .i64 c.mu,sL fa fx.length fc,iV .u32 c.dmz,Value.string c.uu]
theorem Abz(c:Conf.Cfg)(fx:List Fwd)(fa:Option Addr)(fc:Nat)(w:World)(hfx:At w fa (mm Conf.fwv fx))(hfn:fx.length≤100000)(hms:c.ms≤50000)(hF:RngF fx)(hU:FxU fx)(hf0:fx.length=0):Calls Tryz.prog 10 #[aV [iV .u8 c.lm0,iV .u8 c.lm1,iV .u8 c.lm2,iV .u8 c.lm3,iV .u8 c.lm4,iV .u8 c.lm5,iV .u8 c.wm0,iV .u8 c.wm1,iV .u8 c.wm2,iV .u8 c.wm3,iV .u8 c.wm4,iV .u8 c.wm5,iV .u8 c.hm0,iV .u8 c.hm1,iV .u8 c.hm2,iV .u8 c.hm3,iV .u8 c.hm4,iV .u8 c.hm5,iV .u32 c.lan,iV .u32 c.wan,iV .i64 c.bits,iV .i64 c.ms,iV .i64 c.mm,iV .i64 c.mc,iV .i64 c.mu,sL fa fx.length fc,iV .u32 c.dmz,Value.string c.uu]] w (Bj w (fun r:NK×NS=>NewP c fx r.1 r.2) (fun r=>.pointer (some ⟨r.1.nb,0,none⟩)) [] (fun r=>[NG r.1 r.2])):=by
 refine Ar (M:=[]) (LL:=[]) (n:=30) Tryz.func10 rfl rfl A5 (Mem.refl _) (Ad (fun K1 hK1=>?_))
 refine Aa (Ai rfl (Bx (Q1w c fa fc fx) rfl) (fun p1=>?_))
 refine Ab 1 (Ac (hK1 _ _ _ (Ad (fun K3 hK3=>Aa ?_))))
 refine Ah (A0 p1 0 0 0 (Q1w c fa fc fx) Tryz.isAgg32 Tryz.sizeOf32) (Ax rfl (Au [] [0] (fun w_ hm_ hl_=>(Aje c.lm0 c.lm1 c.lm2 c.lm3 c.lm4 c.lm5 c.wm0 c.wm1 c.wm2 c.wm3 c.wm4 c.wm5 c.hm0 c.hm1 c.hm2 c.hm3 c.hm4 c.hm5 c.lan c.wan c.bits c.ms c.mm c.mc c.mu c.dmz c.uu fx fa fc _ (hfx.mem0 hm_) Fb))) (fun gf4 okf5=>?_))
 refine Ax rfl (Au [] [0,1] (fun w_ hm_ hl_=>(Ah0 _))) (fun wb7 _=>Ah (v:=Value.agg (Dv (M5 c (sL gf4.a fx.length gf4.cap)) (sL none 0 0) (pL none) (pL none) (fun _=>none) (pV wb7 0) (pL none) (iV .u64 0)).toArray) (Ys.p) (Ai rfl (Fl (v:=Value.agg (Dv (M5 c (sL gf4.a fx.length gf4.cap)) (sL none 0 0) (pL none) (pL none) (fun _=>none) (pV wb7 0) (pL none) (iV .u64 0)).toArray) (cs:=Dv (M5 c (sL gf4.a fx.length gf4.cap)) (sL none 0 0) (pL none) (pL none) (fun _=>none) (pV wb7 0) (pL none) (iV .u64 0)) rfl rfl Ae rfl) (fun p8=>Ab 1 (Ac ?_))))
 refine hK3 _ _ _ (Ad (fun K10 hK10=>?_))
 refine Aa (Ab 2 (Ah (An p1 21 3 0 Tryz.isAgg3) (Ax rfl (Au [] [0,1,2,3] (fun w_ hm_ hl_=>(Aho c.ms _))) (fun tb11 _=>Ab 2 ?_))))
 refine Ai rfl (Ek (b:=p8) (o':=29) (i:=1) (j:=0) (cs:=Dv (M5 c (sL gf4.a fx.length gf4.cap)) (sL none 0 0) (pL none) (pL none) (fun _=>none) (pV wb7 0) (pL none) (iV .u64 0)) (cs':=Dv (M5 c (sL gf4.a fx.length gf4.cap)) (sL none 0 0) (pV tb11 0) (pL none) (fun _=>none) (pV wb7 0) (pL none) (iV .u64 0)) (v:=pV tb11 0) (LL':=[[cb tb11 [sL none 0 0,iV .i64 (D3 c.ms 0),Value.func (.func 31) #[] #[]] 153],[cb p8 (Dv (M5 c (sL gf4.a fx.length gf4.cap)) (sL none 0 0) (pV tb11 0) (pL none) (fun _=>none) (pV wb7 0) (pL none) (iV .u64 0)) 91],[cb wb7 [sL none 0 0] 150],gf4.seg 65 (mm fwv fx),Q1v c fa fc p1 fx]) rfl rfl Ae Ae Tryz.sizeOf85 rfl rfl rfl (by rw[H9 rfl];decide) ((M4 rfl Al).trans rfl) rfl) (fun _=>Ac (hK10 _ _ _ (Ad (fun K14 hK14=>Aa ?_))))
 refine Ab 2 (Ah (An p1 21 4 0 Tryz.isAgg3) (Ax rfl (Au [] [0,1,2,3,4] (fun w_ hm_ hl_=>(Ahp c.ms _))) (fun tb15 _=>Ab 2 (Ai rfl (Ek (b:=p8) (o':=30) (i:=2) (j:=0) (cs:=Dv (M5 c (sL gf4.a fx.length gf4.cap)) (sL none 0 0) (pV tb11 0) (pL none) (fun _=>none) (pV wb7 0) (pL none) (iV .u64 0)) (cs':=Dv (M5 c (sL gf4.a fx.length gf4.cap)) (sL none 0 0) (pV tb11 0) (pV tb15 0) (fun _=>none) (pV wb7 0) (pL none) (iV .u64 0)) (v:=pV tb15 0) (LL':=[[cb tb15 [sL none 0 0,iV .i64 (D3 c.ms 0),Value.func (.func 33) #[] #[]] 160],[cb tb11 [sL none 0 0,iV .i64 (D3 c.ms 0),Value.func (.func 31) #[] #[]] 153],[cb p8 (Dv (M5 c (sL gf4.a fx.length gf4.cap)) (sL none 0 0) (pV tb11 0) (pV tb15 0) (fun _=>none) (pV wb7 0) (pL none) (iV .u64 0)) 91],[cb wb7 [sL none 0 0] 150],gf4.seg 65 (mm fwv fx),Q1v c fa fc p1 fx]) rfl rfl Ae Ae Tryz.sizeOf86 rfl rfl rfl (by rw[H9 rfl];decide) ((M4 rfl Al).trans rfl) rfl) (fun _=>?_)))))
 refine Ac (hK14 _ _ _ (Ad (fun K18 hK18=>Aa (Ab 2 ?_))))
 refine Ah (An p1 21 5 0 Tryz.isAgg3) (Ax rfl (Au [] [0,1,2,3,4,5] (fun w_ hm_ hl_=>(Ahr c.ms _))) (fun tb19 _=>?_))
 refine Ab 2 (Ai rfl (Ek (b:=p8) (o':=288) (i:=3) (j:=0) (cs:=Dv (M5 c (sL gf4.a fx.length gf4.cap)) (sL none 0 0) (pV tb11 0) (pV tb15 0) (fun _=>none) (pV wb7 0) (pL none) (iV .u64 0)) (cs':=Dv (M5 c (sL gf4.a fx.length gf4.cap)) (sL none 0 0) (pV tb11 0) (pV tb15 0) (fun _=>none) (pV wb7 0) (pV tb19 0) (iV .u64 0)) (v:=pV tb19 0) (LL':=[[cb tb19 [sL none 0 0,iV .i64 (D3 c.ms 0),Value.func (.func 35) #[] #[]] 163],[cb tb15 [sL none 0 0,iV .i64 (D3 c.ms 0),Value.func (.func 33) #[] #[]] 160],[cb tb11 [sL none 0 0,iV .i64 (D3 c.ms 0),Value.func (.func 31) #[] #[]] 153],[cb p8 (Dv (M5 c (sL gf4.a fx.length gf4.cap)) (sL none 0 0) (pV tb11 0) (pV tb15 0) (fun _=>none) (pV wb7 0) (pV tb19 0) (iV .u64 0)) 91],[cb wb7 [sL none 0 0] 150],gf4.seg 65 (mm fwv fx),Q1v c fa fc p1 fx]) rfl rfl Ae Ae Tryz.sizeOf89 rfl rfl rfl (by rw[H9 rfl];decide) ((M3 rfl 1).trans rfl) rfl) (fun _=>?_))
 refine Ac (hK18 _ _ _ (Ap [0,1,2,3,4,5] Al rfl (Ad (fun K22 hK22=>Aa ?_))))
 refine Ab 1 (Ax rfl (Au [3,5,2,0,1,4] [] (fun w_ hm_ hl_=>(Ym (⟨p8,tb11,tb15,tb19,wb7,gf4,c,fx,D3 c.ms 0⟩:NK) ns0 _ _ (Afu okf5 hfn hms) (Mem.flat (((List.append_nil (NG (⟨p8,tb11,tb15,tb19,wb7,gf4,c,fx,D3 c.ms 0⟩:NK) ns0)).trans (Ajf _ _ _ _ _ _ _ _ _)).symm) hl_) hF.rs (fun _ h_=>by cases h_) (fun _ h_=>by cases h_) hf0 rfl))) (fun tk23 ok24=>?_))
 refine Ac (hK22 _ _ _ (Ad (fun K27 hK27=>Aa (Ab 2 ?_))))
 refine Ac (hK27 _ _ _ (Aq (fn:=Tryz.f10) rfl (fun w_ hS_=>Bb rfl (Aw (pV p8 0)) hS_ ⟨((⟨p8,tb11,tb15,tb19,wb7,gf4,c,fx,D3 c.ms 0⟩:NK),(Hs ns0 tk23 (D6 (Gz fx++Hz []++Nj [])))),Anw ok24 hF hU,rfl,(hS_.pick [0] Al rfl)⟩)))
end Go.Proofs.YtmonlaoaengfdaaGreatDoor.Oct
