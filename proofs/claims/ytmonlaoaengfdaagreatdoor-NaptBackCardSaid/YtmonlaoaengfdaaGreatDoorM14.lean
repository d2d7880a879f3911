import Derived.Test.YtmonlaoaengfdaaGreatDoorM9
import Derived.Test.YtmonlaoaengfdaaGreatDoorM13
import Derived.Test.YtmonlaoaengfdaaGreatDoorM1
import Derived.Test.YtmonlaoaengfdaaGreatDoorM6
set_option linter.unusedVariables false
set_option linter.unusedSimpArgs false
set_option maxRecDepth 20000
namespace Go.Proofs.YtmonlaoaengfdaaGreatDoor.Oct
open Go.RowKit Base
attribute [local irreducible] Ys Yc Ht HtS HtIn Wl Wd W Mem pf D4 Wa Wo
def mX(ty co:UInt8)(re m:Nat)(xs:List UInt8):List UInt8:=ty::co::UInt8.ofNat (m/256)::UInt8.ofNat m::UInt8.ofNat (re/256/256/256)::UInt8.ofNat (re/256/256)::UInt8.ofNat (re/256)::UInt8.ofNat re::xs
def mC(ty co:UInt8)(re:Nat)(xs:List UInt8):Nat:=Dy ([ty,co,0,0]++be 4 re++xs)
def mB(ty co:UInt8)(re:Nat)(xs:List UInt8):List UInt8:=if 1472<xs.length then []else mX ty co re (mC ty co re xs) xs
theorem Afv(ty co:UInt8)(re n:Nat)(xs:List UInt8):Hl ([ty,co,0,0]++be 4 re++xs) 2 n=mX ty co re n xs:=rfl
theorem Ajg(ty co:UInt8)(re m:Nat)(xs:List UInt8):(mX ty co re m xs).length=8+xs.length:=by unfold mX;simp only[List.length_cons];omega
theorem Ab0{ty co:UInt8}{re:Nat}{xs:List UInt8}(h: ¬1472<xs.length):(mB ty co re xs).length=8+xs.length:=by unfold mB;rw[if_neg h,Ajg]
theorem Ab1(ty co:UInt8)(re:Nat)(xs:List UInt8):(mB ty co re xs).length≤1480:=by
  by_cases h:1472<xs.length
  · unfold mB;rw[if_pos h];simp
  · rw[Ab0 h];omega
theorem Afw(ty co:UInt8)(re:Nat)(xs:List UInt8)(a:Option Addr)(cap:Nat)(w:World)(hat:At w a (Ci xs))(hr:re<4294967296)(hl:xs.length≤100000)(hlc:xs.length≤cap):Calls Tryz.prog 97 #[aV [nV .u8 ty.toNat,nV .u8 co.toNat,nV .u32 re,sL a xs.length cap]] w (Bj w (fun g:FS=>g.ok 1 (mB ty co re xs).length) (fun g=>.tuple #[.slice g.a (mB ty co re xs).length g.cap,.int .i64 (uE xs.length)]) [] (fun g=>[g.seg 5 (Ci (mB ty co re xs))])):=by
 refine Ar (M:=[]) (LL:=[]) (n:=28) Tryz.func97 rfl rfl A5 (Mem.refl _) (Ad (fun K1 hK1=>?_))
 refine Aa (Ai rfl (Bx [nV .u8 ty.toNat,nV .u8 co.toNat,nV .u32 re,sL a xs.length cap] rfl) (fun p1=>?_))
 refine Ab 2 (Ac (hK1 _ _ _ (Ad (fun K3 hK3=>Ad (fun K4 hK4=>?_)))))
 refine Aa (Ab 1 (Ah (An p1 3 0 0 Tryz.isAgg38) (Ab 1 (Ah (v:=nV .i64 (8+xs.length)) ((Ys.p (v:=.int .i64 (Bt .i64 8 (xs.length:Int)))).conseq (Af (A6 Ag Ag Ag))) ?_))))
 refine Ab 1 (Ac (hK4 _ _ _ ?_))
 refine Ao (decide (((8+xs.length:Nat):Int)>1480)) Ae (fun h6=>?_) (fun h7=>?_)
 ·have qh6:=h6;try simp only[zA]at qh6
  refine Ad (fun K8 hK8=>Aa (Ab 2 (Ac (hK8 _ _ _ ?_))))
  refine Ap [] Al rfl (Aq (fn:=Tryz.f97) rfl ?_)
  have hE:uE xs.length=14:=by unfold uE;rw[if_pos Ag]
  have hB:mB ty co re xs=[]:=by unfold mB;rw[if_pos Ag]
  exact fun w_ hS_=>B9 rfl (Aw (sL none 0 0)) (Aw (iV .i64 14)) hS_ ⟨FS.nul,(by rw[hB];exact Bw 1),congrArg Ending.returned ((by rw[hB,hE];rfl)),(Mem.cast (by rw[hB];rfl) (Mem.push (hS_.pick [] Al rfl)))⟩
 ·have qh7:=h7;try simp only[zA]at qh7
  refine Ak (hK3 _ _ _ (Ad (fun K11 hK11=>?_)))
  refine Adc (w0:=w) (M:=[]) K11 [4] (fun(p14:Nat) (g12:FS) (p21:Nat) (g17:FS)=>[sV g17 (4+4+xs.length)]) (fun(p14:Nat) (g12:FS) (p21:Nat) (g17:FS)=>g12.ok 1 4∧g12.nil=false∧g17.ok 1 (4+4+xs.length)∧(2≤([⟨some ⟨p14,0,none⟩,[ty,co,(0:UInt8),(0:UInt8)],4⟩,⟨g12.a,(be 4 re),g12.cap⟩,⟨a,xs,cap⟩]:List SV).length→g17.nil=false)) (fun(p14:Nat) (g12:FS) (p21:Nat) (g17:FS)=>[g17.seg 5 (mc b8 ([ty,co,(0:UInt8),(0:UInt8)]++(be 4 re)++xs)),[cb p21 [sL (some ⟨p14,0,none⟩) 4 4,sV g12 4,sL a xs.length cap] 38],g12.seg 5 (mc b8 (be 4 re)),[cb p14 [nV .u8 ty.toNat,nV .u8 co.toNat,iV .u8 0,iV .u8 0] 5],[cb p1 [nV .u8 ty.toNat,nV .u8 co.toNat,nV .u32 re,sL a xs.length cap] 132]]) (fun J12 hJ12=>?_) (fun p14 g12 p21 g17 f13 hp14=>?_)
  ·refine E2 [0,1,2,3,5,6,7,9,10,13] (Mem w [] [[cb p1 [nV .u8 ty.toNat,nV .u8 co.toNat,nV .u32 re,sL a xs.length cap] 132]]) Ae Ae (fun _ _ h_=>h_.drawn _) (Wa.ys (v:=pV p1 0) (i:=0) Ae Ae Ae Ae (fun _ h_=>h_) rfl rfl rfl (Ys.p) (Wa.ys (i:=1) Ae Ae Ae Ae (fun _ h_=>h_) rfl rfl rfl (An p1 0 0 0 Tryz.isAgg5) (Wa.ys (v:=pV p1 1) (i:=2) Ae Ae Ae Ae (fun _ h_=>h_) rfl rfl rfl (Ys.p) (Wa.ys (i:=3) Ae Ae Ae Ae (fun _ h_=>h_) rfl rfl rfl (An p1 1 0 0 Tryz.isAgg5) ?_))))
   refine Wa.ys (v:=pV p1 2) (i:=5) Ae Ae Ae Ae (fun _ h_=>h_) rfl rfl rfl (Ys.p) (Wa.ys (i:=6) Ae Ae Ae Ae (fun _ h_=>h_) rfl rfl rfl (An p1 2 0 0 Tryz.isAgg23) (Wa.ys (v:=nV .u64 re) (i:=7) Ae Ae Ae Ae (fun _ h_=>h_) rfl rfl rfl ((Ys.p (v:=.int .u64 (Cg .u64 (re:Int)))).conseq (Af (Cc Ag Ag))) (Wa.ys (v:=pV p1 3) (i:=9) Ae Ae Ae Ae (fun _ h_=>h_) rfl rfl rfl (Ys.p) (Wa.ys (i:=10) Ae Ae Ae Ae (fun _ h_=>h_) rfl rfl rfl (An p1 3 0 0 Tryz.isAgg38) ?_))))
   refine C3 (i:=4) (j:=8) Ae ?_ ?_
   ·refine Ch rfl rfl (Bd (mk:=fun b_=>.slice (some ⟨b_,0,none⟩) 4 4) (t:=5) (cs:=[nV .u8 ty.toNat,nV .u8 co.toNat,iV .u8 0,iV .u8 0]) rfl (fun _=>kr)) (.inr fun _ _ h_=>h_.pick [1] Al rfl) (fun p14=>A3 (i:=8) Ae (Bv rfl rfl (Au [] [0,1] (fun w_ hm_ hl_=>Cv 4 re Ag _)) (.inr fun _ _ h_=>h_.pick [2] Al rfl) (fun g15 hx19=>?_)))
    obtain⟨ok16,nn17⟩:=hx19
    refine A3 (i:=11) Ae (Ch rfl rfl (Bd (mk:=fun b_=>.slice (some ⟨b_,0,none⟩) 3 3) (t:=38) (cs:=[sL (some ⟨p14,0,none⟩) 4 4,sV g15 4,sL a xs.length cap]) rfl (fun _=>kr)) (.inr fun _ _ h_=>h_.pick [3] Al rfl) (fun p21=>?_))
    refine A3 (i:=12) Ae (Bv rfl rfl (Au [] [0,1,2,3] (fun w_ hm_ hl_=>(Ed [⟨some ⟨p14,0,none⟩,[ty,co,(0:UInt8),(0:UInt8)],4⟩,⟨g15.a,(be 4 re),g15.cap⟩,⟨a,xs,cap⟩] ([ty,co,(0:UInt8),(0:UInt8)]++(be 4 re)++xs) (some ⟨p21,0,none⟩) 3 3 (4+4+xs.length) _ rfl (by simp[jn]) Kc (by first|exact Az (i:=0) (j:=0) (t:=38) (b:=p21) hm_ rfl rfl|(rw[show mc Ng ([⟨some ⟨p14,0,none⟩,[ty,co,(0:UInt8),(0:UInt8)],4⟩,⟨g15.a,(be 4 re),g15.cap⟩,⟨a,xs,cap⟩]:List SV)=[Value.slice (some ⟨p14,0,none⟩) 4 4,sV g15 4,Value.slice a xs.length cap] by(simp[mc,A8,By];try omega)];exact Az (i:=0) (j:=0) (t:=38) (b:=p21) hm_ rfl rfl)) (List.forall_mem_cons.2 ⟨(Az (i:=2) (j:=0) (t:=5) (b:=p14) hm_ rfl rfl),(List.forall_mem_cons.2 ⟨(FS.at (i:=1) (t:=5) hm_ rfl (Aj ok16 E5)),(List.forall_mem_cons.2 ⟨(hat.mem0 hm_),(fun _ h=>by cases h)⟩)⟩)⟩) I8 A5 A5))) (.inr fun _ _ h_=>h_.pick [4] Al rfl) (fun g20 hx24=>?_))
    obtain⟨ok21,nn22⟩:=hx24
    refine Wa.ys (v:=sV g20 (4+4+xs.length)) (i:=13) Ae Ae Ae Ae (fun _ h_=>h_.pick [4] Al rfl) rfl rfl rfl (Ys.p) (D1 Ae ?_)
    refine fun w_ h_=>hJ12 p14 g15 p21 g20 _ w_ ⟨ok16,nn17,ok21,nn22⟩ Ae h_
   ·refine Bv rfl rfl (Au [] [0] (fun w_ hm_ hl_=>Cv 4 re Ag _)) (.inr fun _ _ h_=>h_.pick [1] Al rfl) (fun g25 hx29=>?_)
    obtain⟨ok26,nn27⟩:=hx29
    refine A3 (i:=4) Ae (Ch rfl rfl (Bd (mk:=fun b_=>.slice (some ⟨b_,0,none⟩) 4 4) (t:=5) (cs:=[nV .u8 ty.toNat,nV .u8 co.toNat,iV .u8 0,iV .u8 0]) rfl (fun _=>kr)) (.inr fun _ _ h_=>h_.pick [2] Al rfl) (fun p14=>?_))
    refine A3 (i:=11) Ae (Ch rfl rfl (Bd (mk:=fun b_=>.slice (some ⟨b_,0,none⟩) 3 3) (t:=38) (cs:=[sL (some ⟨p14,0,none⟩) 4 4,sV g25 4,sL a xs.length cap]) rfl (fun _=>kr)) (.inr fun _ _ h_=>h_.pick [3] Al rfl) (fun p21=>?_))
    refine A3 (i:=12) Ae (Bv rfl rfl (Au [] [0,1,2,3] (fun w_ hm_ hl_=>(Ed [⟨some ⟨p14,0,none⟩,[ty,co,(0:UInt8),(0:UInt8)],4⟩,⟨g25.a,(be 4 re),g25.cap⟩,⟨a,xs,cap⟩] ([ty,co,(0:UInt8),(0:UInt8)]++(be 4 re)++xs) (some ⟨p21,0,none⟩) 3 3 (4+4+xs.length) _ rfl (by simp[jn]) Kc (by first|exact Az (i:=0) (j:=0) (t:=38) (b:=p21) hm_ rfl rfl|(rw[show mc Ng ([⟨some ⟨p14,0,none⟩,[ty,co,(0:UInt8),(0:UInt8)],4⟩,⟨g25.a,(be 4 re),g25.cap⟩,⟨a,xs,cap⟩]:List SV)=[Value.slice (some ⟨p14,0,none⟩) 4 4,sV g25 4,Value.slice a xs.length cap] by(simp[mc,A8,By];try omega)];exact Az (i:=0) (j:=0) (t:=38) (b:=p21) hm_ rfl rfl)) (List.forall_mem_cons.2 ⟨(Az (i:=1) (j:=0) (t:=5) (b:=p14) hm_ rfl rfl),(List.forall_mem_cons.2 ⟨(FS.at (i:=2) (t:=5) hm_ rfl (Aj ok26 E5)),(List.forall_mem_cons.2 ⟨(hat.mem0 hm_),(fun _ h=>by cases h)⟩)⟩)⟩) I8 A5 A5))) (.inr fun _ _ h_=>h_.pick [4] Al rfl) (fun g30 hx34=>?_))
    obtain⟨ok31,nn32⟩:=hx34
    refine Wa.ys (v:=sV g30 (4+4+xs.length)) (i:=13) Ae Ae Ae Ae (fun _ h_=>h_.pick [4] Al rfl) rfl rfl rfl (Ys.p) (D1 Ae ?_)
    refine fun w_ h_=>hJ12 p14 g25 p21 g30 _ w_ ⟨ok26,nn27,ok31,nn32⟩ Ae (h_.pick [0,1,3,2,4] Al rfl)
  ·refine hK11 _ _ _ ?_
   obtain⟨ok13,nn14,ok18,nn19⟩:=hp14
   refine Ad (fun K35 hK35=>Aa (Ab 2 (Ai rfl (Bd (mk:=fun b_=>.slice (some ⟨b_,0,none⟩) 1 1) (t:=38) (cs:=[sV g17 (4+4+xs.length)]) rfl (fun _=>kr)) (fun p25=>?_))))
   have hk36:=Kt (([ty,co,(0:UInt8),(0:UInt8)]++(be 4 re)++xs))
   refine B0 (v:=nV .u16 (Dy ([ty,co,(0:UInt8),(0:UInt8)]++(be 4 re)++xs))) (A9 (fun w_ hm_=>(Sj [⟨g17.a,([ty,co,(0:UInt8),(0:UInt8)]++(be 4 re)++xs),g17.cap⟩] (([ty,co,(0:UInt8),(0:UInt8)]++(be 4 re)++xs)) (some ⟨p25,0,none⟩) 1 1 ((4+4+xs.length)) _ rfl (by simp[jn]) Kc (by first|exact Az (i:=0) (j:=0) (t:=38) (b:=p25) hm_ rfl rfl|(rw[show mc Ng ([⟨g17.a,([ty,co,(0:UInt8),(0:UInt8)]++(be 4 re)++xs),g17.cap⟩]:List SV)=[sV g17 (4+4+xs.length)] by(simp[mc,A8,By];try omega)];exact Az (i:=0) (j:=0) (t:=38) (b:=p25) hm_ rfl rfl)) (List.forall_mem_cons.2 ⟨(FS.at (i:=1) (t:=5) hm_ rfl (Aj ok18 Mb)),(fun _ h=>by cases h)⟩) I8 A5 A5))) (Ax rfl (Au [1] [0,2,3,4,5] (fun w_ hm_ hl_=>(Iy g17 ([ty,co,(0:UInt8),(0:UInt8)]++(be 4 re)++xs) (4+4+xs.length) 2 (Dy ([ty,co,(0:UInt8),(0:UInt8)]++(be 4 re)++xs)) _ _ Xw hl_ ok18 (nn19 A5) M8 M8 Ag))) (fun g37 hx41=>?_))
   obtain⟨ok38,nn39⟩:=hx41
   refine Ab 2 (Ac (hK35 _ _ _ (Ap [0] Al rfl (Aq (fn:=Tryz.f97) rfl ?_))))
   have hE:uE xs.length=0:=by unfold uE;rw[if_neg Ag]
   have hB:mB ty co re xs=Hl ([ty,co,(0:UInt8),(0:UInt8)]++(be 4 re)++xs) 2 (Dy ([ty,co,(0:UInt8),(0:UInt8)]++(be 4 re)++xs)):=by unfold mB;rw[if_neg Ag,←Afv];rfl
   have hn:(mB ty co re xs).length=4+4+xs.length:=by rw[Ab0 Ag];first|done|omega
   exact fun w_ hS_=>B9 rfl (Aw (sV g37 (4+4+xs.length))) (Aw (iV .i64 0)) hS_ ⟨g37,(by rw[hn];exact ok38),congrArg Ending.returned ((by rw[hn,hE])),(Mem.cast (by rw[hB];rfl) (hS_.pick [0] Al rfl))⟩
theorem Al5{xs:List UInt8}{k:Nat}(h:k+1≤xs.length):bv ((xs.drop k).take 1)=(xs.getD k 0).toNat:=by
  have e:(xs.drop k).take 1=[xs.getD k 0]:=by
    apply List.ext_getElem?
    intro j
    rcases j with _|j
    · simp[List.getElem?_take,List.getElem?_drop,List.getElem?_eq_getElem (show k<xs.length by omega)]
    · simp;omega
  rw[e];simp[bv]
theorem Xm(X:List UInt8)(a:Option Addr)(len cap:Nat)(bad:Bool)(b j k:Nat)(w:World)(hl:Mem w [b] [[cb b [.slice a len cap,.bool bad] 283]] w)(hat:At w a (Ci (X.drop j)))(hn:len=X.length-j)(hjk:j+k≤X.length)(hcap:len≤cap)(hy:X.length≤70368744177664)(hk8:k≤8)(h2:k=1:=by rfl):
    Calls Tryz.prog 132 #[.pointer (some ⟨b,0,none⟩),.int .i64 (k:Int)] w (Bj w (fun x:EV=>View x.a (X.drop (j+k)) a (X.drop j)∧X.length-(j+k)≤x.cap) (fun x=>.int .u64 ((X.getD j 0).toNat:Int)) [b] (fun x=>[[cb b [.slice x.a (X.length-(j+k)) x.cap,.bool bad] 283]])):=by
  have h:=Mp X a len cap bad b j k w hl hat hn hjk hcap hy hk8
  subst h2
  rw[Al5 hjk]at h
  exact h
theorem Ab2(xs:List UInt8)(j:Nat):bv ((xs.drop j).take 4)<4294967296:=by
  have h:=W3 ((xs.drop j).take 4)
  have h2:256^((xs.drop j).take 4).length≤256^4:=Nat.pow_le_pow_right Al (by rw[List.length_take];omega)
  omega
theorem Yx(x:UInt8):UInt8.ofNat x.toNat=x:=UInt8.toNat_inj.1 (by rw[UInt8.toNat_ofNat',Nat.mod_eq_of_lt (UInt8.toNat_lt x)])
def mR(xs:List UInt8):Int:=if xs.length<8 then 10 else if 1480<xs.length then 14 else if Dy xs≠0 then 12 else 0
def mg(xs:List UInt8):Bool:=decide (mR xs=0)
def mT(xs:List UInt8)(k:Nat):UInt8:=bif mg xs then xs.getD k 0 else 0
def mN(xs:List UInt8):Nat:=bif mg xs then bv ((xs.drop 4).take 4)else 0
def mD(xs:List UInt8):List UInt8:=bif mg xs then xs.drop 8 else []
theorem Ab3(xs:List UInt8):mN xs<4294967296:=by
  unfold mN;cases mg xs
  · show(0:Nat)<_;decide
  · exact Ab2 _ _
theorem Ajh{xs:List UInt8}(h:(Nh xs.length 8 !=0)=true):mR xs=Nh xs.length 8:=by
  unfold mR Nh at*
  split
  · rfl
  · split
    · rfl
    · rename_i h1 h2;rw[if_neg h1,if_neg h2]at h;cases h
abbrev Q1x:List Value:=zl6
theorem Xn(xs:List UInt8)(a:Option Addr)(cap:Nat)(w:World)(hat:At w a (Ci xs))(hl:xs.length≤100000)(hlc:xs.length≤cap):Calls Tryz.prog 87 #[sL a xs.length cap] w (Bj w (fun g:FS=>g.ok 1 (mD xs).length) (fun g=>.tuple #[.agg [.int .u8 ((mT xs 0).toNat:Int),.int .u8 ((mT xs 1).toNat:Int),.int .u32 (mN xs:Int),.slice g.a (mD xs).length g.cap].toArray,.int .i64 (mR xs)]) [] (fun g=>[g.seg 5 (Ci (mD xs))])):=by
 refine Ar (M:=[]) (LL:=[]) (n:=39) Tryz.func87 rfl rfl A5 (Mem.refl _) (Ad (fun K1 hK1=>?_))
 refine Aa (Ai rfl (Bc Tryz.zeroValue132) (fun p2=>?_))
 refine Ab 1 (Ac (hK1 _ _ _ (Ad (fun K3 hK3=>Ad (fun K4 hK4=>?_)))))
 refine Aa (Ab 1 (B0 (v:=iV .i64 (Nh xs.length 8)) (A9 (fun w_ hm_=>O8 a xs.length cap 8 _ Ag Ag)) (Ab 1 (Ac ?_))))
 refine hK4 _ _ _ (Ad (fun K6 hK6=>?_))
 refine Aa (Ab 2 (Ac (hK6 _ _ _ ?_)))
 refine Ao ((Nh xs.length 8) !=0) Ae (fun h8=>?_) (fun h9=>?_)
 ·have qh8:=h8;try simp only[zA]at qh8
  refine Ad (fun K10 hK10=>Aa (Ah (A0 p2 0 0 0 Q1x Tryz.isAgg132 Tryz.sizeOf132) (Ab 1 (Ai rfl (A4 p2 0 0 0 Q1x Tryz.sizeOf132 rfl rfl) (fun _=>?_)))))
  refine Ab 1 (Ac (hK10 _ _ _ (Aq (fn:=Tryz.f87) rfl ?_)))
  have he4_:True:=by trivial
  have hR:mR xs=Nh xs.length 8:=Ajh h8
  have hG:mg xs=false:=by unfold mg;rw[hR];exact decide_eq_false (by simpa using h8)
  have hD:mD xs=[]:=by unfold mD;rw[hG];rfl
  exact fun w_ hS_=>B9 rfl (Bq p2 0 0 0 zl6 Tryz.isAgg132 Tryz.sizeOf132) (Aw (iV .i64 (Nh xs.length 8))) hS_ ⟨FS.nul,(by rw[hD];exact Bw 1),congrArg Ending.returned ((by simp only[mT,mN,hG,cond_false,hR,hD];rfl)),(Mem.cast (by rw[hD];rfl) (Mem.push (hS_.pick [] Al rfl)))⟩
 ·have qh9:=h9;try simp only[zA]at qh9
  refine Ak (hK3 _ _ _ (Ad (fun K13 hK13=>Ad (fun K14 hK14=>?_))))
  have hb_:=Vg h9
  refine Aa (Ab 1 (Ai rfl (Bd (mk:=fun b_=>.slice (some ⟨b_,0,none⟩) 1 1) (t:=38) (cs:=[Value.slice a xs.length cap]) rfl (fun _=>kr)) (fun p13=>B0 (v:=bV (((Dy xs:Nat):Int)==0)) (A9 (fun w_ hm_=>(O7 [⟨a,xs,cap⟩] (xs) (some ⟨p13,0,none⟩) 1 1 ((xs).length) _ rfl (by simp[jn]) rfl (by first|exact Az (i:=0) (j:=0) (t:=38) (b:=p13) hm_ rfl rfl|(rw[show mc Ng ([⟨a,xs,cap⟩]:List SV)=[Value.slice a xs.length cap] by(simp[mc,A8,By];try omega)];exact Az (i:=0) (j:=0) (t:=38) (b:=p13) hm_ rfl rfl)) (List.forall_mem_cons.2 ⟨(hat.mem0 hm_),(fun _ h=>by cases h)⟩) I8 A5 A5))) (Ab 1 ?_))))
  refine Ac (hK14 _ _ _ (Ap [1] Al rfl ?_))
  refine Ao (!(((Dy xs:Nat):Int)==0)) Ae (fun h16=>?_) (fun h17=>?_)
  ·have qh16:=h16;try simp only[zA]at qh16
   refine Ad (fun K18 hK18=>Aa (Ah (A0 p2 0 0 0 Q1x Tryz.isAgg132 Tryz.sizeOf132) (Ai rfl (A4 p2 0 0 0 Q1x Tryz.sizeOf132 rfl rfl) (fun _=>Ab 1 ?_))))
   refine Ac (hK18 _ _ _ (Aq (fn:=Tryz.f87) rfl ?_))
   have he4_:True:=by trivial
   have hz_: ¬(Dy xs=0):=by have z_:=h16;simp at z_;omega
   have hR:mR xs=12:=by unfold mR;rw[if_neg Ag,if_neg Ag,if_pos Ag]
   have hG:mg xs=false:=by unfold mg;rw[hR];rfl
   have hD:mD xs=[]:=by unfold mD;rw[hG];rfl
   exact fun w_ hS_=>B9 rfl (Bq p2 0 0 0 zl6 Tryz.isAgg132 Tryz.sizeOf132) (Aw (iV .i64 12)) hS_ ⟨FS.nul,(by rw[hD];exact Bw 1),congrArg Ending.returned ((by simp only[mT,mN,hG,cond_false,hR,hD];rfl)),(Mem.cast (by rw[hD];rfl) (Mem.push (hS_.pick [] Al rfl)))⟩
  ·have qh17:=h17;try simp only[zA]at qh17
   refine Ak (hK13 _ _ _ (Ad (fun K21 hK21=>Aa (Ab 1 ?_))))
   refine Ax rfl (Au [] [0] (fun w_ hm_ hl_=>(Mn xs a xs.length cap _ rfl (hat.mem0 hm_) Ex))) (fun ne22 ok23=>Ab 1 (Ac (hK21 _ _ _ (Ad (fun K27 hK27=>?_)))))
   refine Aa (Ab 1 (Ax rfl (Au [0] [1,2] (fun w_ hm_ hl_=>(Xm xs ne22.g.a xs.length ne22.g.cap false ne22.b 0 1 _ hl_ (by rw[List.drop_zero];exact(FS.at (i:=1) (t:=5) hm_ rfl (Aj ok23 (Ba _)))) I9 Ag (ok23.le) Ag Al))) (fun ev28 hx34=>?_)))
   obtain⟨hv30,hc31⟩:=hx34
   refine Ah (v:=nV .u8 ((UInt8.ofNat ((xs.getD 0 0).toNat)).toNat)) ((Ys.p (v:=.int .u8 (Cg .u8 ((xs.getD 0 0).toNat:Int)))).conseq (Af (Gf _))) (Ab 1 (Ax rfl (Au [0] [1,2] (fun w_ hm_ hl_=>(Xm xs ev28.a (xs.length-1) ev28.cap false ne22.b 1 1 _ hl_ (hv30 _ (by rw[List.drop_zero];exact(FS.at (i:=1) (t:=5) hm_ rfl (Aj ok23 (Ba _))))) I9 Ag Ag Ag Al))) (fun ev35 hx41=>?_)))
   obtain⟨hv37,hc38⟩:=hx41
   refine Ah (v:=nV .u8 ((UInt8.ofNat ((xs.getD 1 0).toNat)).toNat)) ((Ys.p (v:=.int .u8 (Cg .u8 ((xs.getD 1 0).toNat:Int)))).conseq (Af (Gf _))) (Ab 1 (Ai rfl (Bg p2 0 2 0 (nV .u8 ((UInt8.ofNat ((xs.getD 0 0).toNat)).toNat)) Tryz.sizeOf5 rfl rfl) (fun _=>Ab 1 (Ai rfl (Bg p2 1 2 0 (nV .u8 ((UInt8.ofNat ((xs.getD 1 0).toNat)).toNat)) Tryz.sizeOf5 rfl rfl) (fun _=>?_)))))
   refine Ac (hK27 _ _ _ (Ad (fun K43 hK43=>Aa (Ab 1 ?_))))
   refine Ax rfl (Au [0] [1,2] (fun w_ hm_ hl_=>(Gb xs ev35.a (xs.length-2) ev35.cap false ne22.b 2 2 _ hl_ (hv37 _ (hv30 _ (by rw[List.drop_zero];exact(FS.at (i:=1) (t:=5) hm_ rfl (Aj ok23 (Ba _)))))) I9 Ag Ag Ag Al))) (fun ev44 hx50=>?_)
   obtain⟨hv46,hc47⟩:=hx50
   refine Ac (hK43 _ _ _ (Ad (fun K52 hK52=>Aa (Ab 1 ?_))))
   refine Ax rfl (Au [0] [1,2] (fun w_ hm_ hl_=>(Mp xs ev44.a (xs.length-4) ev44.cap false ne22.b 4 4 _ hl_ (hv46 _ (hv37 _ (hv30 _ (by rw[List.drop_zero];exact(FS.at (i:=1) (t:=5) hm_ rfl (Aj ok23 (Ba _))))))) I9 Ag Ag Ag Al))) (fun ev53 hx59=>?_)
   obtain⟨hv55,hc56⟩:=hx59
   refine Ah (v:=nV .u32 ((bv ((xs.drop 4).take 4))%4294967296)) ((Ys.p (v:=.int .u32 (Cg .u32 (bv ((xs.drop 4).take 4):Int)))).conseq (Af (C6 rfl _))) (Ab 1 (Ai rfl (Bg p2 2 2 0 (nV .u32 ((bv ((xs.drop 4).take 4))%4294967296)) Tryz.sizeOf23 rfl rfl) (fun _=>Ac (hK52 _ _ _ ?_))))
   refine Ad (fun K61 hK61=>Aa (Ab 2 (B0 (v:=nV .i64 (xs.length-8)) (A9 (fun w_ hm_=>(W4 (xs.drop 8) ev53.a (xs.length-8) ev53.cap false ne22.b _ Zc (hm_.one (i:=0) rfl) (hv55 _ (hv46 _ (hv37 _ (hv30 _ (by rw[List.drop_zero];exact(FS.at (i:=1) (t:=5) hm_ rfl (Aj ok23 (Ba _))))))))))) (Ax rfl (Au [0] [1,2] (fun w_ hm_ hl_=>(Ib (xs.drop 8) ev53.a (xs.length-8) ev53.cap false ne22.b ((xs.length-8:Nat):Int) _ Zc hl_ (hv55 _ (hv46 _ (hv37 _ (hv30 _ (by rw[List.drop_zero];exact(FS.at (i:=1) (t:=5) hm_ rfl (Aj ok23 (Ba _)))))))) Ex Ex))) (fun eg62 hx68=>?_)))))
   obtain⟨ok63,hv64,hc65⟩:=hx68
   refine Ab 1 (Ai rfl (Bg p2 3 3 0 (sL eg62.g.a ((Cp (xs.drop 8) ((xs.length-8:Nat):Int)).length) eg62.g.cap) Tryz.sizeOf38 rfl rfl) (fun _=>?_))
   refine Ac (hK61 _ _ _ (Ap [1,3] Al rfl (Ad (fun K70 hK70=>Aa ?_))))
   refine Ah (A0 p2 0 1 0 [nV .u8 ((UInt8.ofNat ((xs.getD 0 0).toNat)).toNat),nV .u8 ((UInt8.ofNat ((xs.getD 1 0).toNat)).toNat),nV .u32 ((bv ((xs.drop 4).take 4))%4294967296),sL eg62.g.a ((Cp (xs.drop 8) ((xs.length-8:Nat):Int)).length) eg62.g.cap] Tryz.isAgg132 Tryz.sizeOf132) (Ai rfl (A4 p2 0 1 0 [nV .u8 ((UInt8.ofNat ((xs.getD 0 0).toNat)).toNat),nV .u8 ((UInt8.ofNat ((xs.getD 1 0).toNat)).toNat),nV .u32 ((bv ((xs.drop 4).take 4))%4294967296),sL eg62.g.a ((Cp (xs.drop 8) ((xs.length-8:Nat):Int)).length) eg62.g.cap] Tryz.sizeOf132 rfl rfl) (fun _=>?_))
   refine Ab 1 (Ac (hK70 _ _ _ (Aq (fn:=Tryz.f87) rfl ?_)))
   have he4_:True:=by trivial
   have hz_:(Dy xs=0):=by have z_:=h17;simp at z_;omega
   have hR:mR xs=0:=by unfold mR;rw[if_neg Ag,if_neg Ag,if_neg Ag]
   have hG:mg xs=true:=by unfold mg;rw[hR];rfl
   have hD:mD xs=Cp (xs.drop 8) ((xs.length-8:Nat):Int):=by unfold mD;rw[hG,Mo Ag,List.take_of_length_le (by rw[List.length_drop];omega)];rfl
   have hDl:(mD xs).length=(Cp (xs.drop 8) ((xs.length-8:Nat):Int)).length:=by rw[hD];first|done|rfl|(simp;done)|(rw[List.length_drop];omega)
   exact fun w_ hS_=>B9 rfl (Bq p2 0 1 0 [nV .u8 ((UInt8.ofNat ((xs.getD 0 0).toNat)).toNat),nV .u8 ((UInt8.ofNat ((xs.getD 1 0).toNat)).toNat),nV .u32 ((bv ((xs.drop 4).take 4))%4294967296),Value.slice eg62.g.a ((Cp (xs.drop 8) ((xs.length-8:Nat):Int)).length) eg62.g.cap] Tryz.isAgg132 Tryz.sizeOf132) (Aw (iV .i64 0)) hS_ ⟨eg62.g,(by rw[hDl];exact ok63),congrArg Ending.returned ((by rw[hDl];simp only[mT,mN,hG,cond_true,hR,Yx,he4_,Nat.mod_eq_of_lt (Ab2 xs _)];try rfl)),(Mem.cast (by rw[hD];rfl) (hS_.pick [0] Al rfl))⟩
open Conf (Fwd fwv)
theorem Ab4(xs:List UInt8)(a:Option Addr)(cap:Nat)(len:Nat)(w:World)(hn:len=xs.length)(hat:At w a (Ci xs))(hl:len≤100000)(hlc:len≤cap):Calls Tryz.prog 87 #[.slice a len cap] w (Bj w (fun g:FS=>g.ok 1 (mD xs).length) (fun g=>.tuple #[.agg [.int .u8 ((mT xs 0).toNat:Int),.int .u8 ((mT xs 1).toNat:Int),.int .u32 (mN xs:Int),.slice g.a (mD xs).length g.cap].toArray,.int .i64 (mR xs)]) [] (fun g=>[g.seg 5 (Ci (mD xs))])):=by
  subst hn;exact Xn xs a cap w hat hl hlc
theorem Ab5(ttl pro pid src dst:Int)(xs:List UInt8)(a:Option Addr)(cap:Nat)(w:World)(hat:At w a (Ci xs))(hl:xs.length≤100000)(hlc:xs.length≤cap):Calls Tryz.prog 42 #[aV [iV .u8 ttl,iV .u8 pro,iV .u16 pid,iV .u32 src,iV .u32 dst,sL a xs.length cap]] w (Dc w (.bool ((((mT xs 0).toNat:Nat):Int) !=0))):=by
 refine Ar (M:=[]) (LL:=[]) (n:=14) Tryz.func42 rfl rfl A5 (Mem.refl _) (Ad (fun K1 hK1=>?_))
 refine Aa (Ai rfl (Bx [iV .u8 ttl,iV .u8 pro,iV .u16 pid,iV .u32 src,iV .u32 dst,sL a xs.length cap] rfl) (fun p1=>?_))
 refine Ab 1 (Ac (hK1 _ _ _ (Ad (fun K3 hK3=>Aa ?_))))
 refine Ab 1 (Ah (An p1 5 0 0 Tryz.isAgg38) (Ax rfl (Au [] [0] (fun w_ hm_ hl_=>(Ab4 xs a cap xs.length _ I7 (hat.mem0 hm_) Ex Ex))) (fun g4 ok5=>Ab 3 (Ai rfl (Bc Tryz.zeroValue132) (fun p3=>?_)))))
 refine Ai rfl (A4 p3 0 0 0 [nV .u8 ((mT xs 0).toNat),nV .u8 ((mT xs 1).toNat),nV .u32 (mN xs),sV g4 ((mD xs).length)] Tryz.sizeOf132 rfl rfl) (fun _=>Ab 1 (Ac (hK3 _ _ _ (Ap [0,1] Al rfl ?_))))
 refine Ad (fun K8 hK8=>Aa (Ab 1 (Ah (An p3 0 0 0 Tryz.isAgg5) (Ab 2 ?_))))
 refine Ac (hK8 _ _ _ (Ap [] Al rfl (Aq (fn:=Tryz.f42) rfl (fun w_ hS_=>Bb rfl (Aw (bV ((((mT xs 0).toNat:Nat):Int) !=0))) hS_ ⟨rfl,hS_.below⟩))))
structure DgP(s d:Nat)(xs:List UInt8)(fr to:Nat):Prop where
  hs:s<4294967296
  hd:d<4294967296
  hl:xs.length≤1480
  hr:uR s d xs=0
  hf:uF s d xs 0=fr
  ht:uF s d xs 2=to
  hfb:fr<65536
  htb:to<65536
theorem Agw{s d fr to:Nat}{pl:Bool}{ys:List UInt8}(hs:s<4294967296)(hd:d<4294967296)(hf:fr<65536)(ht:to<65536)(hx:ys.length≤1472):DgP s d (uB s d fr to pl ys) fr to:=by
  have h1:uE ys.length=0:=by unfold uE;rw[if_neg Ag]
  have h2:(uB s d fr to pl ys).length=8+ys.length:=Jo Ag
  have h3:=Ae3 (s:=s) (d:=d) (pl:=pl) (ys:=[]) hf ht h1 (by rw[h2];simp;omega)
  rw[List.append_nil]at h3
  simp only[Bool.and_eq_true,beq_iff_eq]at h3
  exact⟨hs,hd,by omega,h3.1,by have:=h3.2.1.1.1;omega,by have:=h3.2.1.1.2;omega,hf,ht⟩
theorem Agx{s d:Nat}{xs:List UInt8}(h:xs.length≤1480):(uD s d xs).length≤1472:=by
  unfold uD;cases ug s d xs
  · simp
  · simp only[cond_true,List.length_take,List.length_drop];omega
def dgU(s d:Nat)(xs:List UInt8)(g:B2):List UInt8:=uB g.2.1.toNat g.2.2.1.toNat g.2.2.2.1.toNat g.2.2.2.2.toNat (uP s d xs) (uD s d xs)
def dgF(s d:Nat)(xs:List UInt8)(g:B2)(x:FS):Prop:=x.ok 1 (dgU s d xs g).length
def dgV(ttl pid:Int)(s d:Nat)(xs:List UInt8)(g:B2)(x:FS):PkV:=⟨ttl,17,pid,g.2.1,g.2.2.1,x.a,(dgU s d xs g).length,x.cap⟩
def dgS(s d:Nat)(xs:List UInt8)(g:B2)(x:FS):List Blk:=x.seg 5 (mc b8 (dgU s d xs g))
section
variable {w:World}{M:List Nat}{ttl pid:Int}{s d:Nat}{xs:List UInt8}{a:Option Addr}{cap fr to:Nat}
theorem Ri(h:DgP s d xs fr to)(hlc:xs.length≤cap)(hat: ∀LL w1,Mem w M LL w1→At w1 a (Ci xs)): ∀LL w1,Mem w M LL w1→Calls Tryz.prog 41 #[N6 ttl 17 pid (s:Int) (d:Int) a xs.length cap] w1 (Dc w1 (.tuple #[.agg [.int .u8 ((17:Nat):Int),.int .u32 (s:Int),.int .u32 (d:Int),.int .u16 (fr:Int),.int .u16 (to:Int)].toArray,.int .i64 1,.int .i64 0])):=fun LL w1 hm=>by
  have z:=Agq ttl pid s d xs a cap w1 (hat LL w1 hm) h.hs h.hd (by have:=h.hl;omega) hlc h.hr
  rw[h.hf,h.ht]at z
  exact z
theorem Rj(h:DgP s d xs fr to): ∀LL w1,Mem w M LL w1→Calls Tryz.prog 99 #[N6 ttl 17 pid (s:Int) (d:Int) a xs.length cap] w1 (Dc w1 (.bool true)):=fun LL w1 hm=>X9 ttl pid (s:Int) (d:Int) a xs.length cap w1
theorem Rk(h:DgP s d xs fr to): ∀LL w1,Mem w M LL w1→Calls Tryz.prog 88 #[N6 ttl 17 pid (s:Int) (d:Int) a xs.length cap] w1 (Dc w1 (.tuple #[.int .u8 0,.bool false])):=fun LL w1 hm=>T7 ttl pid (s:Int) (d:Int) a xs.length cap w1
theorem Rl(h:DgP s d xs fr to)(hlc:xs.length≤cap)(hat: ∀LL w1,Mem w M LL w1→At w1 a (Ci xs)): ∀LL w1,Mem w M LL w1→Calls Tryz.prog 42 #[N6 ttl 17 pid (s:Int) (d:Int) a xs.length cap] w1 (Dc w1 (.bool ((((mT xs 0).toNat:Nat):Int) !=0))):=fun LL w1 hm=>Ab5 ttl 17 pid _ _ xs a cap w1 (hat LL w1 hm) (by have:=h.hl;omega) hlc
theorem Rm(h:DgP s d xs fr to)(hlc:xs.length≤cap)(hat: ∀LL w1,Mem w M LL w1→At w1 a (Ci xs)): ∀g LL w1,Mem w M LL w1→RngFl g→g.1=((17:Nat):Int)→Calls Tryz.prog 45 #[N6 ttl 17 pid (s:Int) (d:Int) a xs.length cap,flV g] w1 (Bj w1 (fun x:FS=>dgF s d xs g x) (fun x=>.tuple #[(dgV ttl pid s d xs g x).v,.int .i64 ((fun _:B2=>(0:Int)) g)]) [] (fun x=>[dgS s d xs g x])):=fun g LL w1 hm hg hp=>by
  obtain⟨g1,g2,g3,g4,g5⟩:=g
  obtain⟨⟨a1,b1⟩,⟨a2,b2⟩,⟨a3,b3⟩,⟨a4,b4⟩,⟨a5,b5⟩⟩:=hg
  obtain⟨q2,rfl⟩:=Int.eq_ofNat_of_zero_le a2
  obtain⟨q3,rfl⟩:=Int.eq_ofNat_of_zero_le a3
  obtain⟨q4,rfl⟩:=Int.eq_ofNat_of_zero_le a4
  obtain⟨q5,rfl⟩:=Int.eq_ofNat_of_zero_le a5
  simp only at hp b2 b3 b4 b5
  subst hp
  exact Vh ttl pid s d xs a cap q2 q3 q4 q5 w1 (hat LL w1 hm) h.hs h.hd (by have:=h.hl;omega) hlc h.hr Ag Ag Ag Ag (Agx h.hl)
theorem Af0(h:DgP s d xs fr to){g:B2}{cd:Int}{pv:PkV}{bl:List Blk}(hg:RngFl g)(hS:Ke (dgF s d xs) (dgV ttl pid s d xs) (fun _=>0) (dgS s d xs) g cd pv bl):cd=0∧ ∃(x:FS) (ys:List UInt8),x.ok 1 ys.length∧pv=⟨ttl,17,pid,g.2.1,g.2.2.1,x.a,ys.length,x.cap⟩∧bl=x.seg 5 (mc b8 ys)∧DgP g.2.1.toNat g.2.2.1.toNat ys g.2.2.2.1.toNat g.2.2.2.2.toNat:=by
  obtain⟨hc,x,hx,hp,hb⟩:=hS
  obtain⟨⟨a1,b1⟩,⟨a2,b2⟩,⟨a3,b3⟩,⟨a4,b4⟩,⟨a5,b5⟩⟩:=hg
  exact⟨hc,x,dgU s d xs g,hx,hp,hb,Agw Ag Ag Ag Ag (Agx h.hl)⟩
end
theorem En{L R:List (List Blk)}(j:Nat):(L++R)[L.length+j]? =R[j]? :=by rw[List.getElem?_append_right Ag,Nat.add_sub_cancel_left]
theorem Aji{T:Nat→Bool}(h:T 1024=false):pk T 0=1024:=by
  have h1:nf T (1024+0%64512)=1024:=Ny Al h
  unfold pk;rw[h1];rfl
theorem Ajj{T:Nat→Bool}(h:T 1024=true)(h2:T 1025=false):pk T 0=1025:=by
  have h1:nf T (1024+0%64512)=1025:=(Sc (p:=1024) Al h).trans (Ny Al h2)
  unfold pk;rw[h1];rfl
theorem InvA.xes{k:NK}{p:NP}{o:Option Int}(h:InvA k p o):p.xs.length=p.es.length:=by rw[h.tie,List.length_map]
theorem Inv.zs{k:NK}{s:NS}(hI:Inv k s)(t:Hx):Bl s.p.zs t=true↔ ∃x∈s.p.es,x.2.given=true∧B1 (Dm x.2)=t:=by
  constructor
  · intro h
    obtain⟨_,h1,_,_⟩:=hI.a.lse _ _ (D5 (v0:=(⟨0,0⟩:Lse)) h)
    obtain⟨x,hx,hg⟩:=L5 (t:=t) (es:=s.p.es) Ag
    exact⟨x,hx,D7.1 hg⟩
  · rintro⟨x,hx,hg,rfl⟩;exact hI.a.lsi x hx hg
theorem Inv.zx{k:NK}{s:NS}(hI:Inv k s){t:Hx}{x:Nat×SesE}(hx:x∈s.p.es)(hg:x.2.given=true)(ht:B1 (Dm x.2)=t):(Bo (⟨0,0⟩:Lse) s.p.zs t).ext=x.2.ext:=by
  have h:=(hI.zs t).2 ⟨x,hx,hg,ht⟩
  exact((hI.a.lse _ _ (D5 (v0:=(⟨0,0⟩:Lse)) h)).2.2.2 x hx (D7.2 ⟨hg,ht⟩)).symm
theorem Inv.tt{k:NK}{s:NS}(hI:Inv k s)(hms:s.p.ms=[])(hfx:k.fx=[]){p q:Nat}(hq:1024≤q):s.p.TT p q=true↔ ∃x∈s.p.es,x.2.given=true∧x.2.pr=(p:Int)∧x.2.ext=(q:Int):=by
  rw[hI.b.tks,hms,hfx]
  show D6 (Nj s.p.zs) p q=true↔_
  unfold D6
  rw[Bool.and_eq_true,decide_eq_true_eq,List.any_eq_true]
  constructor
  · rintro⟨_,x,hx,he⟩
    rw[Bool.and_eq_true,beq_iff_eq,beq_iff_eq]at he
    obtain⟨t,l,hz,rfl⟩:=Gc.1 hx
    obtain⟨_,h1,_,h4⟩:=hI.a.lse t l hz
    obtain⟨y,hy,hg⟩:=L5 (t:=t) (es:=s.p.es) Ag
    refine⟨y,hy,(D7.1 hg).1,?_,?_⟩
    · rw[←he.1,←(D7.1 hg).2];rfl
    · rw[h4 y hy hg];exact he.2
  · rintro⟨x,hx,hg,hp,he⟩
    have h:=hI.a.lsi x hx hg
    refine⟨hq,_,Gc.2 ⟨_,_,D5 (v0:=(⟨0,0⟩:Lse)) h,rfl⟩,?_⟩
    rw[Bool.and_eq_true,beq_iff_eq,beq_iff_eq]
    exact⟨hp,by rw[hI.zx hx hg rfl];exact he⟩
theorem Sq{β:Type}{Φr:B2→β→Prop}{rv:B2→β→PkV}{re:B2→Int}{rs:B2→β→List Blk}{k:NK}{s r:NS}{f:B2}{src now cd:Int}{qu:Bool}{dr:Nat}{pv:PkV}{bl:List Blk}(hI:Inv k s)(hms:s.p.ms=[])(hfx:k.fx=[])
    (hroom:(s.p.es.length:Int)<k.mo) (hno: ∀x∈s.p.es,Dm x.2≠f) (hO:OutR Φr rv re rs k s f src 1 0 true qu dr now r cd pv bl) {ext:Int}
    (hx:(∃x∈s.p.es,x.2.given=true∧B1 (Dm x.2)=B1 f∧x.2.ext=ext)∨((∀x∈s.p.es,x.2.given=true→B1 (Dm x.2)≠B1 f)∧pk (s.p.TT f.1.toNat) dr<65536∧ext=(pk (s.p.TT f.1.toNat) dr:Int))):
    ∃A B b e',s.p.es=A++B∧RenE (Pc f ext s.p.lst true) now true e'∧r.p.es=A++(b,e')::B∧Ke Φr rv re rs (f.1,k.c.wan,f.2.2.1,ext,f.2.2.2.2) cd pv bl:=by
  have hru:Hg s.p.ms k.fx f=none:=by rw[hms,hfx];rfl
  have hxl:=hI.a.xes
  cases hO with
  |no hcd hes why=>
    exfalso
    rcases why with h|⟨h,_⟩|⟨h,_⟩|⟨_,_,h|h|⟨_,h1,h2⟩⟩
    · exact h rfl
    · cases h
    · cases h
    · cases h
    · omega
    · rcases hx with⟨x,hx,hg,ht,_⟩|⟨_,h,_⟩
      · rw[(hI.zs (B1 f)).2 ⟨x,hx,hg,ht⟩]at h1;cases h1
      · exact h2 h
  |err ho hk=>cases hk
  |old ho hk hq A B b e e' he hf=>exact absurd hf (hno (b,e) (by rw[he];simp))
  |new ho hk hq hno' ext' gv hox A B b e' he hr hes hs=>
    have hev:ext'=ext∧gv=true:=by
      rcases hox with⟨h,_⟩|⟨_,hg,hz,rfl⟩|⟨_,hg,hz,hp,rfl⟩
      · rw[hru]at h;cases h
      · refine⟨?_,hg⟩
        rcases hx with⟨x,hx,hg,ht,hxe⟩|⟨hn,_,_⟩
        · rw[hI.zx hx hg ht];exact hxe
        · obtain⟨x,hx,hg,ht⟩:=(hI.zs (B1 f)).1 hz
          exact absurd ht (hn x hx hg)
      · refine⟨?_,hg⟩
        rcases hx with⟨x,hx,hg,ht,hxe⟩|⟨_,h,rfl⟩
        · rw[(hI.zs (B1 f)).2 ⟨x,hx,hg,ht⟩]at hz;cases hz
        · unfold L8;rw[if_pos hp]
    obtain⟨rfl,rfl⟩:=hev
    exact⟨A,B,b,e',he,hr,hes,hs⟩
theorem RenE.nw{f:B2}{ext id now:Int}{gv out:Bool}{e:SesE}(h:RenE (Pc f ext id gv) now out e):Dm e=f∧e.ext=ext∧e.given=gv∧e.pr=f.1∧B1 (Dm e)=B1 f:=by
  have hf:Dm e=f:=by unfold Dm;rw[h.pr,h.src,h.dst,h.frm,h.dto];rfl
  exact⟨hf,h.ext,h.given,h.pr,by rw[hf]⟩
end Go.Proofs.YtmonlaoaengfdaaGreatDoor.Oct
namespace Go.Proofs.YtmonlaoaengfdaaGreatDoor.Base
open Go.RowKit
section
variable {P:Program}{n:Nat}{f:Nat→Value}{o:Oper}{v:Value}{d:Nat}{w0 w:World}{M:List Nat}{LL LL':List (List Blk)}{s:List Blk}{i j b:Nat}
abbrev cz(b:Nat)(cs:List Value)(t:TypeId):Blk:=⟨b,.cells cs.toArray t (cs.length,cs.length+1)⟩
theorem Al6{cs:List Value}{t:TypeId}(hm:Mem w0 M LL w)(hi:LL[i]? =some s)(hj:s[j]? =some (cz b cs t)):At w (some ⟨b,0,none⟩) cs:=by
  have hb:=hm.at hi hj
  refine⟨fun _=>rfl,fun q v hv=>?_⟩
  simp only[Option.getD_some]
  rw[add_lit,Nat.zero_add]
  simp only at hb
  simp[World.cell?,hb,hv]
theorem Sr{t e ty:TypeId}{x:Operand}{len cap:Nat}{cs:List Value}(hd:o.dst=some d)(hop:o.op=.convert t t x)(hx:ev n f x=.slice (some ⟨b,0,none⟩) len cap)(ht:P.underlying t=some (.slice e))(he:P.underlying e=some (.int .u8))
    (hi:LL[i]? =some s) (hj:s[j]? =some (cb b cs ty)) (hL:LL.set i (s.set j (cz b cs ty))=LL'):
    Ht (β:=Unit) P n (Mem w0 M LL) f o (fun _=>Ft f d (.slice (some ⟨b,0,none⟩) len cap)) (fun _=>Mem w0 M LL'):=fun ds w hS K hK=>by
  have hb:=hS.at hi hj
  simp only at hb
  have hsh:w.shape? b=some (ty,cs.length):=by unfold World.shape?;rw[hb];simp
  have h1:(execOp (ev n f) o).run P w=.ok (.value (.slice (some ⟨b,0,none⟩) len cap)) (w.freeze ⟨b,cs.length,none⟩ 1):=by
    simp[execOp,hop,hx,convert,run_underlying ht,run_underlying he,markStringish,hsh]
  have hm:Mem w0 M LL' (w.freeze ⟨b,cs.length,none⟩ 1):=by
    subst hL
    obtain⟨k,hk,hset⟩:=H2 LL i j s _ hi hj
    unfold Mem
    rw[hset]
    refine Mem0.putO hS hk rfl rfl rfl (by simp[World.freeze]) (fun k' _ hk'=>?_) ?_
    · simp only[World.freeze,if_neg (show¬(1:Nat)=0 by decide),Array.getElem?_modify];rw[if_neg (by omega)]
    · simp only[World.freeze,if_neg (show¬(1:Nat)=0 by decide),Array.getElem?_modify,if_true,hb]
      simp
  unfold Oper.wp
  rw[C1,h1]
  simp only[Oper.upon,hd,De]
  exact hK () _ hm
end
end Go.Proofs.YtmonlaoaengfdaaGreatDoor.Base
namespace Go.Proofs.YtmonlaoaengfdaaGreatDoor.Oct
open Go.RowKit Base
attribute [local irreducible] Ys Yc Ht HtS HtIn Wl Wd W Mem pf D4 Wa Wo
open Conf (Fwd fwv)
theorem Al7(k:NK)(s:NS)(M:List Nat)(w:World)(ok:NOk k s)(hl:Mem w M [NG k s] w):Calls Tryz.prog 15 #[pL (some ⟨k.nb,0,none⟩)] w (Bj w (fun _:Unit=>True) (fun _=>.int .i64 (s.p.xs.length:Int)) M (fun _=>[NG k s])):=by
 obtain⟨lxs,lys,lzs,lms,lfs⟩:=NOk.len ok
 refine Ar (M:=M) (LL:=[NG k s]) (n:=8) Tryz.func15 rfl rfl A5 (hl) (Ad (fun K1 hK1=>?_))
 refine Aa (Ab 1 (Ac (hK1 _ _ _ (Ad (fun K2 hK2=>?_)))))
 refine Aa (Ab 3 (Ah (Bp (b:=k.nb) (o':=29) (i:=0) (j:=0) (cs:=Du k s) (v:=pL (some ⟨k.ts,0,none⟩)) rfl Ae Tryz.isAgg85 rfl rfl ((Cq rfl Al).trans rfl)) (B0 (v:=nV .i64 s.p.xs.length) (A9 (fun w_ hm_=>(Z1 s.p.xs s.gs.a s.gs.cap k.mo k.ts _ (Ku (i:=0) hm_ rfl) (NG.xs (i:=0) hm_ rfl ok) Fb ok.hxs))) (Ab 1 ?_))))
 refine Ac (hK2 _ _ _ (Aq (fn:=Tryz.f15) rfl (fun w_ hS_=>Bb rfl (Aw (nV .i64 s.p.xs.length)) hS_ ⟨(),trivial,rfl,(hS_.pick [0] Al rfl)⟩)))
theorem F7(s d fr to:Nat)(w:World)(hs:s<4294967296)(hd:d<4294967296)(hf:fr<65536)(ht:to<65536):Calls Tryz.prog 13 #[nV .u32 s,nV .u32 d,nV .u16 fr,nV .u16 to] w (Bj w (fun r:FS×List UInt8=>r.1.ok 1 r.2.length∧DgP s d r.2 fr to) (fun r=>N6 9 17 0 (s:Int) (d:Int) r.1.a r.2.length r.1.cap) [] (fun r=>[r.1.seg 5 (mc b8 r.2)])):=by
 refine Ar (M:=[]) (LL:=[]) (n:=26) Tryz.func13 rfl rfl A5 (Mem.refl _) (Ad (fun K1 hK1=>?_))
 refine Aa (Ai rfl (Bc Tryz.zeroValue40) (fun p8=>?_))
 refine Ac (hK1 _ _ _ (Ad (fun K2 hK2=>Aa (Ab 4 ?_))))
 refine Ai rfl (Bd (mk:=fun b_=>.slice (some ⟨b_,0,none⟩) 1 1) (t:=5) (cs:=[iV .u8 120]) rfl (fun _=>kr)) (fun p16=>Ai rfl (Sr (b:=p16) (e:=5) (ty:=5) (len:=1) (cap:=1) (i:=0) (j:=0) (cs:=[iV .u8 120]) (LL':=[[cz p16 [iV .u8 120] 5],[cb p8 M9 40]]) rfl rfl Ae Ae Ae rfl rfl rfl) (fun _=>?_))
 refine Ab 1 ?_
 have hl6:=Aa4 s d fr to false [(120:UInt8)]
 refine Ax rfl (Au [] [0,1] (fun w_ hm_ hl_=>(Aa5 s d fr to false [(120:UInt8)] (some ⟨p16,0,none⟩) 1 1 _ I7 (Al6 (i:=0) (j:=0) (t:=5) (b:=p16) hm_ rfl rfl) Ag Ag Ag Ag Ef Ef))) (fun g3 ok4=>Ab 5 (Ac (hK2 _ _ _ (Ap [0,2] Al rfl ?_))))
 refine Ad (fun K8 hK8=>Aa (Ab 4 (Ai rfl (A4 p8 0 1 0 [iV .u8 9,iV .u8 17,iV .u16 0,nV .u32 s,nV .u32 d,sV g3 ((uB s d fr to false [(120:UInt8)]).length)] Tryz.sizeOf40 rfl rfl) (fun _=>Ac ?_))))
 refine hK8 _ _ _ (Aq (fn:=Tryz.f13) rfl (fun w_ hS_=>Bb rfl (Bq p8 0 1 0 [iV .u8 9,iV .u8 17,iV .u16 0,nV .u32 s,nV .u32 d,sV g3 ((uB s d fr to false [(120:UInt8)]).length)] Tryz.isAgg40 Tryz.sizeOf40) hS_ ⟨(g3,uB s d fr to false [(120:UInt8)]),⟨ok4,Agw (pl:=false) (ys:=[(120:UInt8)]) hs hd hf ht Al⟩,rfl,(hS_.pick [0] Al rfl)⟩))
theorem Pi{ttl pid:Int}{s d:Nat}{xs:List UInt8}{a:Option Addr}{cap fr to:Nat}{w:World}(h:DgP s d xs fr to)(hlc:xs.length≤cap)(hat:At w a (Ci xs)):Calls Tryz.prog 14 #[N6 ttl 17 pid (s:Int) (d:Int) a xs.length cap] w (Dc w (.tuple #[.agg [.int .u8 17,.int .u32 (s:Int),.int .u32 (d:Int),.int .u16 (fr:Int),.int .u16 (to:Int)].toArray,.int .i64 1,.int .i64 0])):=by
  have z:=Aip ttl pid s d xs a cap w hat h.hs h.hd (by have:=h.hl;omega) hlc h.hr
  rw[h.hf,h.ht]at z
  exact z
theorem Mv{s d fr to:Nat}{xs:List UInt8}(h:DgP s d xs fr to):RngFl (((17:Nat):Int),(s:Int),(d:Int),(fr:Int),(to:Int)):=by
  have h1:=h.hs;have h2:=h.hd;have h3:=h.hfb;have h4:=h.htb
  refine⟨⟨?_,?_⟩,⟨?_,?_⟩,⟨?_,?_⟩,⟨?_,?_⟩,?_,?_⟩<;>(show _≤_;dsimp only;omega)
theorem Ab6:FxU []:=fun _ h=>by cases h
theorem Ab7:RngF []:=fun _ h=>by cases h
theorem Jr{ttl pid:Int}{s d:Nat}{xs:List UInt8}{fr to:Nat}(h:DgP s d xs fr to){s2 d2 f2 t2:Nat}{g:B2}{cd:Int}{pv:PkV}{bl:List Blk}(hS:Ke (dgF s d xs) (dgV ttl pid s d xs) (fun _=>0) (dgS s d xs) g cd pv bl)(hg:g=(((17:Nat):Int),(s2:Int),(d2:Int),(f2:Int),(t2:Int)))
    (b1:s2<4294967296) (b2:d2<4294967296) (b3:f2<65536) (b4:t2<65536):cd=0∧ ∃(x:FS) (ys:List UInt8),x.ok 1 ys.length∧pv=⟨ttl,17,pid,(s2:Int),(d2:Int),x.a,ys.length,x.cap⟩∧bl=x.seg 5 (mc b8 ys)∧DgP s2 d2 ys f2 t2:=by
  subst hg
  have hr:RngFl (((17:Nat):Int),(s2:Int),(d2:Int),(f2:Int),(t2:Int)):=by refine⟨⟨?_,?_⟩,⟨?_,?_⟩,⟨?_,?_⟩,⟨?_,?_⟩,?_,?_⟩<;>(show _≤_;dsimp only;omega)
  exact Af0 h hr hS
abbrev spF(d fr:Nat):B2:=(((17:Nat):Int),((3232235783:Nat):Int),(d:Int),(fr:Int),((53:Nat):Int))
abbrev spE(fr:Nat):Hx:=(((17:Nat):Int),((3232235783:Nat):Int),(fr:Int))
section
variable {β:Type}{Φr:B2→β→Prop}{rv:B2→β→PkV}{re:B2→Int}{rs:B2→β→List Blk}{k:NK}{s r:NS}{src cd:Int}{qu:Bool}{pv:PkV}{bl:List Blk}{c:Conf.Cfg}
theorem Al9(hN:NewP c [] k s)(hm:c.ms=8)(hO:OutR Φr rv re rs k s (spF 134744072 5000) src 1 0 true qu 0 0 r cd pv bl):(r.p.es.length=1∧ ∀x∈r.p.es,x.2.given=true∧Dm x.2=spF 134744072 5000∧x.2.ext=1024)∧Ke Φr rv re rs (((17:Nat):Int),k.c.wan,((134744072:Nat):Int),((1024:Nat):Int),((53:Nat):Int)) cd pv bl:=by
  have hno: ∀x∈s.p.es,False:=fun x hx=>by rw[hN.es]at hx;cases hx
  have hpk:pk (s.p.TT 17) 0=1024:=Aji (Bool.eq_false_iff.2 fun h=>by
    obtain⟨x,hx,_⟩:=(hN.inv.tt hN.ms hN.kfx (p:=17) (q:=1024) Al).1 h
    exact hno x hx)
  obtain⟨A,B,b,e',he,hr,hes,hs⟩:=Sq hN.inv hN.ms hN.kfx (by rw[hN.es,hN.kmo,hm];decide) (fun x hx=>(hno x hx).elim) hO (ext:=((1024:Nat):Int)) (.inr ⟨fun x hx=>(hno x hx).elim,by show pk (s.p.TT 17) 0<65536;rw[hpk];decide,by show _=((pk (s.p.TT 17) 0:Nat):Int);rw[hpk]⟩)
  rw[hN.es]at he
  have hn:=List.append_eq_nil_iff.1 he.symm
  rw[hes,hn.1,hn.2]
  obtain⟨h1,h2,h3,_,_⟩:=hr.nw
  refine⟨⟨rfl,fun x hx=>?_⟩,hs⟩
  obtain rfl:=List.mem_singleton.1 hx
  exact⟨h3,h1,h2⟩
theorem Ama(hI:Inv k s)(hms:s.p.ms=[])(hfx:k.fx=[])(hmo:k.mo=8)(hE:s.p.es.length=1∧ ∀x∈s.p.es,x.2.given=true∧Dm x.2=spF 134744072 5000∧x.2.ext=1024)(hO:OutR Φr rv re rs k s (spF 134744073 5000) src 1 0 true qu 0 0 r cd pv bl):
    (r.p.es.length=2∧ ∀x∈r.p.es,x.2.given=true∧B1 (Dm x.2)=spE 5000∧x.2.ext=1024)∧Ke Φr rv re rs (((17:Nat):Int),k.c.wan,((134744073:Nat):Int),((1024:Nat):Int),((53:Nat):Int)) cd pv bl:=by
  obtain⟨x0,hx0⟩: ∃x,x∈s.p.es:=List.exists_mem_of_length_pos Ag
  have h0:=hE.2 x0 hx0
  obtain⟨A,B,b,e',he,hr,hes,hs⟩:=Sq hI hms hfx (by rw[hE.1,hmo];decide) (fun x hx h=>by rw[(hE.2 x hx).2.1]at h;cases h) hO (ext:=((1024:Nat):Int)) (.inl ⟨x0,hx0,h0.1,by rw[h0.2.1];rfl,h0.2.2⟩)
  obtain⟨h1,h2,h3,_,h5⟩:=hr.nw
  refine⟨⟨?_,fun x hx=>?_⟩,hs⟩
  · have:=hE.1;rw[he]at this;rw[hes];simp only[List.length_append,List.length_cons]at*;omega
  · rw[hes]at hx
    rcases Cf.1 hx with rfl|hx
    · exact⟨h3,h5,h2⟩
    · have h:=hE.2 x (by rw[he];exact hx)
      exact⟨h.1,by rw[h.2.1];rfl,h.2.2⟩
theorem Amb(hI:Inv k s)(hms:s.p.ms=[])(hfx:k.fx=[])(hmo:k.mo=8)(hE:s.p.es.length=2∧ ∀x∈s.p.es,x.2.given=true∧B1 (Dm x.2)=spE 5000∧x.2.ext=1024)(hO:OutR Φr rv re rs k s (spF 134744072 5001) src 1 0 true qu 0 0 r cd pv bl):
    r.p.es.length=3∧Ke Φr rv re rs (((17:Nat):Int),k.c.wan,((134744072:Nat):Int),((1025:Nat):Int),((53:Nat):Int)) cd pv bl:=by
  obtain⟨x0,hx0⟩: ∃x,x∈s.p.es:=List.exists_mem_of_length_pos Ag
  have h0:=hE.2 x0 hx0
  have hp0:x0.2.pr=((17:Nat):Int):=congrArg (·.1) h0.2.1
  have hpk:pk (s.p.TT 17) 0=1025:=Ajj ((hI.tt hms hfx (p:=17) (q:=1024) Al).2 ⟨x0,hx0,h0.1,hp0,h0.2.2⟩) (Bool.eq_false_iff.2 fun h=>by
    obtain⟨x,hx,_,_,h1⟩:=(hI.tt hms hfx (p:=17) (q:=1025) Al).1 h
    rw[(hE.2 x hx).2.2]at h1;cases h1)
  obtain⟨A,B,b,e',he,hr,hes,hs⟩:=Sq hI hms hfx (by rw[hE.1,hmo];decide) (fun x hx h=>by have h1:=(hE.2 x hx).2.1;rw[h]at h1;cases h1) hO (ext:=((1025:Nat):Int)) (.inr ⟨fun x hx _ h=>(by rw[(hE.2 x hx).2.1]at h;cases h),by show pk (s.p.TT 17) 0<65536;rw[hpk];decide,by show _=((pk (s.p.TT 17) 0:Nat):Int);rw[hpk]⟩)
  refine⟨?_,hs⟩
  have:=hE.1;rw[he]at this;rw[hes];simp only[List.length_append,List.length_cons]at*;omega
end
abbrev S9(gd17 gd25 gd33:FS)(p16:Nat)(ys18 ys26 ys34:List UInt8):List Blk:=[cb p16 [iV .u8 9,iV .u8 17,iV .u16 0,nV .u32 3232235783,nV .u32 134744072,sL gd17.a ys18.length gd17.cap,iV .u8 9,iV .u8 17,iV .u16 0,nV .u32 3232235783,nV .u32 134744073,sL gd25.a ys26.length gd25.cap,iV .u8 9,iV .u8 17,iV .u16 0,nV .u32 3232235783,nV .u32 134744072,sL gd33.a ys34.length gd33.cap] 40]
abbrev Q1z(gd17:FS)(p3:Nat)(ys18:List UInt8):List Blk:=[cb p3 [iV .u8 9,iV .u8 17,iV .u16 0,nV .u32 3232235783,nV .u32 134744072,sL gd17.a ys18.length gd17.cap] 40]
abbrev Q20(gd25:FS)(p3:Nat)(ys26:List UInt8):List Blk:=[cb p3 [iV .u8 9,iV .u8 17,iV .u16 0,nV .u32 3232235783,nV .u32 134744073,sL gd25.a ys26.length gd25.cap] 40]
abbrev Q21(gd33:FS)(p3:Nat)(ys34:List UInt8):List Blk:=[cb p3 [iV .u8 9,iV .u8 17,iV .u16 0,nV .u32 3232235783,nV .u32 134744072,sL gd33.a ys34.length gd33.cap] 40]
abbrev Q22(p6_1:Nat):List Blk:=[cb p6_1 [iV .u8 17,iV .u32 3405803781,iV .u32 134744073,iV .u16 1024,iV .u16 53] 47]
abbrev Q23(p6:Nat):List Blk:=[cb p6 [iV .u8 17,iV .u32 3405803781,iV .u32 134744072,iV .u16 1024,iV .u16 53] 47]
abbrev Q24:List Value:=M9
abbrev Q25:List Value:=Y6
theorem Vs(w:World)(htab:At w (some ⟨0,0,none⟩) (Ci dbt)):Calls Tryz.prog 7 #[] w (Dc w (.bool true)):=by
 have hne:0<(Ci dbt).length→(Option.getD (some (⟨0,0,none⟩:Addr)) default).block∉([]:List Nat):=fun _ h_=>by cases h_
 refine Ar (M:=[]) (LL:=[]) (n:=50) Tryz.func7 rfl rfl A5 (Mem.refl _) (Ad (fun K1 hK1=>?_))
 refine Aa (Ab 1 (Ac (hK1 _ _ _ (Ad (fun K2 hK2=>?_)))))
 refine Aa (B0 (v:=aV [iV .u8 2,iV .u8 0,iV .u8 0,iV .u8 0,iV .u8 0,iV .u8 1,iV .u8 2,iV .u8 0,iV .u8 0,iV .u8 0,iV .u8 1,iV .u8 1,iV .u8 2,iV .u8 0,iV .u8 0,iV .u8 0,iV .u8 1,iV .u8 2,iV .u32 3232235777,iV .u32 3405803781,iV .i64 24,iV .i64 8,iV .i64 4,iV .i64 3,iV .i64 2,sL none 0 0,iV .u32 0,Value.string (Me [48,48,48,48,48,48,48,48,45,49,49,49,49,45,50,50,50,50,45,51,51,51,51,45,52,52,52,52,52,52,52,52,52,52,52,52])]) (A9 (fun w_ hm_=>(Wy _))) (Ax rfl (Au [] [] (fun w_ hm_ hl_=>(Abz (⟨2,0,0,0,0,1,2,0,0,0,1,1,2,0,0,0,1,2,3232235777,3405803781,24,8,4,3,2,none,0,0,0,(Me [48,48,48,48,48,48,48,48,45,49,49,49,49,45,50,50,50,50,45,51,51,51,51,45,52,52,52,52,52,52,52,52,52,52,52,52])⟩:Conf.Cfg) [] none 0 _ (At.nil _ _) Al Al Ab7 Ab6 rfl))) (fun q7 hx9=>?_)))
 obtain⟨kn3,sn4⟩:=q7
 dsimp only at hx9
 have hN5:=hx9
 refine Bu (LL':=[NG kn3 sn4]) rfl (Ab 1 (Ac (hK2 _ _ _ (Ad (fun K11 hK11=>?_)))))
 refine Ad (fun K12 hK12=>Aa (Ab 2 (Ac (hK12 _ _ _ ?_))))
 refine B4 Ae (Ak (hK11 _ _ _ (Ad (fun K15 hK15=>Ad (fun K16 hK16=>?_)))))
 refine Aa (Ax rfl (Au [] [0] (fun w_ hm_ hl_=>(F7 3232235783 134744072 5000 53 _ Ag Ag Ag Ag))) (fun q21 hx24=>?_))
 obtain⟨gd17,ys18⟩:=q21
 dsimp only at hx24
 obtain⟨okd19,hdg20⟩:=hx24
 refine Bu (LL':=[gd17.seg 5 (mc b8 ys18),NG kn3 sn4]) rfl ?_
 have hl23:=hdg20.hl
 refine Ax rfl (Au [] [0,1] (fun w_ hm_ hl_=>(F7 3232235783 134744073 5000 53 _ Ag Ag Ag Ag))) (fun q29 hx32=>?_)
 obtain⟨gd25,ys26⟩:=q29
 dsimp only at hx32
 obtain⟨okd27,hdg28⟩:=hx32
 refine Bu (LL':=[gd25.seg 5 (mc b8 ys26),gd17.seg 5 (mc b8 ys18),NG kn3 sn4]) rfl ?_
 have hl31:=hdg28.hl
 refine Ax rfl (Au [] [0,1,2] (fun w_ hm_ hl_=>(F7 3232235783 134744072 5001 53 _ Ag Ag Ag Ag))) (fun q37 hx40=>?_)
 obtain⟨gd33,ys34⟩:=q37
 dsimp only at hx40
 obtain⟨okd35,hdg36⟩:=hx40
 refine Bu (LL':=[gd33.seg 5 (mc b8 ys34),gd25.seg 5 (mc b8 ys26),gd17.seg 5 (mc b8 ys18),NG kn3 sn4]) rfl ?_
 have hl39:=hdg36.hl
 refine Ai rfl (Bd (mk:=fun b_=>.slice (some ⟨b_,0,none⟩) 3 3) (t:=40) (cs:=[iV .u8 9,iV .u8 17,iV .u16 0,nV .u32 3232235783,nV .u32 134744072,sL gd17.a ys18.length gd17.cap,iV .u8 9,iV .u8 17,iV .u16 0,nV .u32 3232235783,nV .u32 134744073,sL gd25.a ys26.length gd25.cap,iV .u8 9,iV .u8 17,iV .u16 0,nV .u32 3232235783,nV .u32 134744072,sL gd33.a ys34.length gd33.cap]) rfl (fun _=>kr)) (fun p16=>Ab 2 (Ac (hK16 _ _ _ (W.block ?_))))
 refine H7 4 (C4 (fun J42 hJ42=>?_))
 refine Ad (fun K43 hK43=>Aa (Ab 1 (Ac (hK43 _ _ _ ?_))))
 refine Ad (fun K44 hK44=>B5 Ae (Ak (hK44 _ _ _ (Ad (fun K46 hK46=>?_)))))
 refine W.block (Ad (fun K47 hK47=>?_))
 refine Aa (Ab 1 (Ah (v:=pV p16 0) ((Av (k:=.i64) (a:=some ⟨p16,0,none⟩) (len:=3) (cap:=3) (i:=0) (sz:=6) rfl Ae Ae Tryz.runUnderlying79 Tryz.sizeOf40 Al Al rfl).conseq Ae) (Ah (A0 p16 0 0 0 [iV .u8 9,iV .u8 17,iV .u16 0,nV .u32 3232235783,nV .u32 134744072,sL gd17.a ys18.length gd17.cap] Tryz.isAgg40 Tryz.sizeOf40) (Ai rfl (Bc Tryz.zeroValue40) (fun p3=>?_)))))
 refine Ab 1 (Ai rfl (A4 p3 0 0 0 [iV .u8 9,iV .u8 17,iV .u16 0,nV .u32 3232235783,nV .u32 134744072,sL gd17.a ys18.length gd17.cap] Tryz.sizeOf40 rfl rfl) (fun _=>?_))
 refine Ac (hK47 _ _ _ (Ad (fun K49 hK49=>Aa (Ab 1 ?_))))
 refine Ah (A0 p3 0 0 0 [iV .u8 9,iV .u8 17,iV .u16 0,nV .u32 3232235783,nV .u32 134744072,sL gd17.a ys18.length gd17.cap] Tryz.isAgg40 Tryz.sizeOf40) (Ax rfl (Au [5] [0,1,2,3,4] (fun w_ hm_ hl_=>(Ph kn3 sn4 _ 17 ((3232235783:Nat):Int) ((134744072:Nat):Int) ((5000:Nat):Int) ((53:Nat):Int) 9 17 0 ((3232235783:Nat):Int) ((134744072:Nat):Int) gd17.a ys18.length gd17.cap 1 0 true ((((mT ys18 0).toNat:Nat):Int) !=0) 0 false 0 0 FS (dgF 3232235783 134744072 ys18) (dgV 9 0 3232235783 134744072 ys18) (fun _=>0) (dgS 3232235783 134744072 ys18) _ hN5.inv hl_ (by rw[hN5.lst];decide) (by rw[hN5.kc];exact⟨by decide,by decide⟩) Al (Mv hdg20) Ag (Ri hdg20 okd19.le (fun LL_ w2_ h2_=>FS.at (i:=LL_.length+4) (t:=5) (Mem.back (LL:=[NG kn3 sn4]) (R:=[Q1z gd17 p3 ys18,S9 gd17 gd25 gd33 p16 ys18 ys26 ys34,gd33.seg 5 (mc b8 ys34),gd25.seg 5 (mc b8 ys26),gd17.seg 5 (mc b8 ys18)]) (Mem.pick [5,0,1,2,3,4] Al hm_ rfl) h2_) ((En 4).trans rfl) (Aj okd19 (Ba _)))) (Rj hdg20) (Rk hdg20) (Rl hdg20 okd19.le (fun LL_ w2_ h2_=>FS.at (i:=LL_.length+4) (t:=5) (Mem.back (LL:=[NG kn3 sn4]) (R:=[Q1z gd17 p3 ys18,S9 gd17 gd25 gd33 p16 ys18 ys26 ys34,gd33.seg 5 (mc b8 ys34),gd25.seg 5 (mc b8 ys26),gd17.seg 5 (mc b8 ys18)]) (Mem.pick [5,0,1,2,3,4] Al hm_ rfl) h2_) ((En 4).trans rfl) (Aj okd19 (Ba _)))) (Rm hdg20 okd19.le (fun LL_ w2_ h2_=>FS.at (i:=LL_.length+4) (t:=5) (Mem.back (LL:=[NG kn3 sn4]) (R:=[Q1z gd17 p3 ys18,S9 gd17 gd25 gd33 p16 ys18 ys26 ys34,gd33.seg 5 (mc b8 ys34),gd25.seg 5 (mc b8 ys26),gd17.seg 5 (mc b8 ys18)]) (Mem.pick [5,0,1,2,3,4] Al hm_ rfl) h2_) ((En 4).trans rfl) (Aj okd19 (Ba _)))) (C2 (L:=[NG kn3 sn4]) (R:=[Q1z gd17 p3 ys18,S9 gd17 gd25 gd33 p16 ys18 ys26 ys34,gd33.seg 5 (mc b8 ys34),gd25.seg 5 (mc b8 ys26),gd17.seg 5 (mc b8 ys18)]) htab hne (Mem.pick [5,0,1,2,3,4] Al hm_ rfl)).1 (C2 (L:=[NG kn3 sn4]) (R:=[Q1z gd17 p3 ys18,S9 gd17 gd25 gd33 p16 ys18 ys26 ys34,gd33.seg 5 (mc b8 ys34),gd25.seg 5 (mc b8 ys26),gd17.seg 5 (mc b8 ys18)]) htab hne (Mem.pick [5,0,1,2,3,4] Al hm_ rfl)).2 (by rw[hN5.ms];rfl) (by rw[hN5.kfx];rfl)))) (fun q58 hx60=>?_))
 obtain⟨sr50,cd51,pv52,bl53⟩:=q58
 dsimp only at hx60
 obtain⟨hI54,hms55,hls56,hO57⟩:=hx60
 refine Bu (LL':=[NG kn3 sr50,bl53,Q1z gd17 p3 ys18,S9 gd17 gd25 gd33 p16 ys18 ys26 ys34,gd33.seg 5 (mc b8 ys34),gd25.seg 5 (mc b8 ys26),gd17.seg 5 (mc b8 ys18)]) rfl ?_
 skip
 ·have hmo_:kn3.mo=8:=by rw[hN5.kmo];rfl
  have hz0_:sr50.p.ms=[]:=hms55.trans hN5.ms
  have hl0_:sr50.p.lst≤1:=by have z_:=hls56;rw[hN5.lst]at z_;omega
  obtain⟨hq0_,hs0_⟩:=Al9 hN5 rfl hO57
  obtain⟨rfl,x61,ys62,okx63,rfl,rfl,hD64⟩:=Jr (s2:=3405803781) (d2:=134744072) (f2:=1024) (t2:=53) hdg20 hs0_ (by rw[hN5.kc];rfl) Al Al Al Al
  refine Ab 3 (Ai rfl (Bc Tryz.zeroValue40) (fun p4=>?_))
  refine Ai rfl (A4 p4 0 0 0 [iV .u8 9,iV .u8 17,iV .u16 0,nV .u32 3405803781,nV .u32 134744072,sL x61.a ys62.length x61.cap] Tryz.sizeOf40 rfl rfl) (fun _=>Ab 1 (Ac (hK49 _ _ _ (Ap [0,1,2,4,5,6,7] Al rfl ?_))))
  refine Ad (fun K66 hK66=>Aa (Ah (A0 p4 0 0 0 [iV .u8 9,iV .u8 17,iV .u16 0,nV .u32 3405803781,nV .u32 134744072,sL x61.a ys62.length x61.cap] Tryz.isAgg40 Tryz.sizeOf40) (B0 (v:=Value.tuple #[aV [iV .u8 17,iV .u32 3405803781,iV .u32 134744072,iV .u16 1024,iV .u16 53],iV .i64 1,iV .i64 0]) (A9 (fun w_ hm_=>(Pi (ttl:=9) (pid:=0) hD64 okx63.le (FS.at (i:=2) (t:=5) hm_ rfl (Aj okx63 (Ba _)))))) (Ab 4 ?_))))
  refine Ai rfl (Bc Tryz.zeroValue47) (fun p6=>Ai rfl (A4 p6 0 0 0 [iV .u8 17,iV .u32 3405803781,iV .u32 134744072,iV .u16 1024,iV .u16 53] Tryz.sizeOf47 rfl rfl) (fun _=>?_))
  refine Ab 2 (Ac (hK66 _ _ _ (Ap [0,2,4,5,6,7] Al rfl (Ad (fun K68 hK68=>?_)))))
  refine Aa (Ab 3 (Am (v:=pV p6 3) (true) rfl Ae rfl (fun _=>Ys.p) (Am (v:=iV .u16 1024) (true) rfl Ae rfl (fun _=>Bp (b:=p6) (o':=3) (i:=0) (j:=0) (v:=iV .u16 1024) rfl Ae Tryz.isAgg22 rfl rfl rfl) (Am (v:=iV .i64 0) (true) rfl Ae rfl (fun _=>Ys.p) ?_))))
  refine Am (v:=iV .i64 0) (true) rfl Ae rfl (fun _=>Ys.p) (Am (v:=iV .u16 0) (true) rfl Ae rfl (fun _=>Ys.p) (Am (v:=iV .u16 1024) (true) rfl Ae rfl (fun _=>Ys.p) (Am (v:=bV false) (true) rfl Ae rfl (fun _=>Ys.p) (Ab 1 ?_))))
  refine Ac (hK68 _ _ _ (B4 Ae (Ak (hK46 _ _ _ ?_))))
  refine Aa (Ab 2 (Ac (hJ42 _ _ _ (C4 (fun J71 hJ71=>?_)))))
  refine Ad (fun K73 hK73=>Aa (Ab 1 (Ac (hK73 _ _ _ ?_))))
  refine Ad (fun K74 hK74=>B5 Ae (Ak (hK74 _ _ _ (Ad (fun K76 hK76=>?_)))))
  refine W.block (Ad (fun K77 hK77=>?_))
  refine Aa (Ab 1 (Ah (v:=pV p16 6) ((Av (k:=.i64) (a:=some ⟨p16,0,none⟩) (len:=3) (cap:=3) (i:=1) (sz:=6) rfl Ae Ae Tryz.runUnderlying79 Tryz.sizeOf40 Al Al rfl).conseq Ae) (Ah (A0 p16 6 2 0 [iV .u8 9,iV .u8 17,iV .u16 0,nV .u32 3232235783,nV .u32 134744073,sL gd25.a ys26.length gd25.cap] Tryz.isAgg40 Tryz.sizeOf40) (Ai rfl (Bc Tryz.zeroValue40) (fun p3=>?_)))))
  refine Ab 1 (Ai rfl (A4 p3 0 0 0 [iV .u8 9,iV .u8 17,iV .u16 0,nV .u32 3232235783,nV .u32 134744073,sL gd25.a ys26.length gd25.cap] Tryz.sizeOf40 rfl rfl) (fun _=>?_))
  refine Ac (hK77 _ _ _ (Ad (fun K79 hK79=>Aa (Ab 1 ?_))))
  refine Ah (A0 p3 0 0 0 [iV .u8 9,iV .u8 17,iV .u16 0,nV .u32 3232235783,nV .u32 134744073,sL gd25.a ys26.length gd25.cap] Tryz.isAgg40 Tryz.sizeOf40) (Ax rfl (Au [2] [0,1,3,4,5,6] (fun w_ hm_ hl_=>(Ph kn3 sr50 _ 17 ((3232235783:Nat):Int) ((134744073:Nat):Int) ((5000:Nat):Int) ((53:Nat):Int) 9 17 0 ((3232235783:Nat):Int) ((134744073:Nat):Int) gd25.a ys26.length gd25.cap 1 0 true ((((mT ys26 0).toNat:Nat):Int) !=0) 0 false 0 0 FS (dgF 3232235783 134744073 ys26) (dgV 9 0 3232235783 134744073 ys26) (fun _=>0) (dgS 3232235783 134744073 ys26) _ hI54 hl_ Ag (by rw[hN5.kc];exact⟨by decide,by decide⟩) Al (Mv hdg28) Ag (Ri hdg28 okd27.le (fun LL_ w2_ h2_=>FS.at (i:=LL_.length+4) (t:=5) (Mem.back (LL:=[NG kn3 sr50]) (R:=[Q20 gd25 p3 ys26,Q23 p6,S9 gd17 gd25 gd33 p16 ys18 ys26 ys34,gd33.seg 5 (mc b8 ys34),gd25.seg 5 (mc b8 ys26),gd17.seg 5 (mc b8 ys18)]) (Mem.pick [2,0,1,3,4,5,6] Al hm_ rfl) h2_) ((En 4).trans rfl) (Aj okd27 (Ba _)))) (Rj hdg28) (Rk hdg28) (Rl hdg28 okd27.le (fun LL_ w2_ h2_=>FS.at (i:=LL_.length+4) (t:=5) (Mem.back (LL:=[NG kn3 sr50]) (R:=[Q20 gd25 p3 ys26,Q23 p6,S9 gd17 gd25 gd33 p16 ys18 ys26 ys34,gd33.seg 5 (mc b8 ys34),gd25.seg 5 (mc b8 ys26),gd17.seg 5 (mc b8 ys18)]) (Mem.pick [2,0,1,3,4,5,6] Al hm_ rfl) h2_) ((En 4).trans rfl) (Aj okd27 (Ba _)))) (Rm hdg28 okd27.le (fun LL_ w2_ h2_=>FS.at (i:=LL_.length+4) (t:=5) (Mem.back (LL:=[NG kn3 sr50]) (R:=[Q20 gd25 p3 ys26,Q23 p6,S9 gd17 gd25 gd33 p16 ys18 ys26 ys34,gd33.seg 5 (mc b8 ys34),gd25.seg 5 (mc b8 ys26),gd17.seg 5 (mc b8 ys18)]) (Mem.pick [2,0,1,3,4,5,6] Al hm_ rfl) h2_) ((En 4).trans rfl) (Aj okd27 (Ba _)))) (C2 (L:=[NG kn3 sr50]) (R:=[Q20 gd25 p3 ys26,Q23 p6,S9 gd17 gd25 gd33 p16 ys18 ys26 ys34,gd33.seg 5 (mc b8 ys34),gd25.seg 5 (mc b8 ys26),gd17.seg 5 (mc b8 ys18)]) htab hne (Mem.pick [2,0,1,3,4,5,6] Al hm_ rfl)).1 (C2 (L:=[NG kn3 sr50]) (R:=[Q20 gd25 p3 ys26,Q23 p6,S9 gd17 gd25 gd33 p16 ys18 ys26 ys34,gd33.seg 5 (mc b8 ys34),gd25.seg 5 (mc b8 ys26),gd17.seg 5 (mc b8 ys18)]) htab hne (Mem.pick [2,0,1,3,4,5,6] Al hm_ rfl)).2 (by rw[hz0_];rfl) (by rw[hN5.kfx];rfl)))) (fun q88 hx90=>?_))
  obtain⟨sr80,cd81,pv82,bl83⟩:=q88
  dsimp only at hx90
  obtain⟨hI84,hms85,hls86,hO87⟩:=hx90
  refine Bu (LL':=[NG kn3 sr80,bl83,Q20 gd25 p3 ys26,Q23 p6,S9 gd17 gd25 gd33 p16 ys18 ys26 ys34,gd33.seg 5 (mc b8 ys34),gd25.seg 5 (mc b8 ys26),gd17.seg 5 (mc b8 ys18)]) rfl ?_
  skip
  ·have hz1_:sr80.p.ms=[]:=hms85.trans hz0_
   have hl1_:sr80.p.lst≤2:=by omega
   obtain⟨hq1_,hs1_⟩:=Ama hI54 hz0_ hN5.kfx hmo_ hq0_ hO87
   obtain⟨rfl,x91,ys92,okx93,rfl,rfl,hD94⟩:=Jr (s2:=3405803781) (d2:=134744073) (f2:=1024) (t2:=53) hdg28 hs1_ (by rw[hN5.kc];rfl) Al Al Al Al
   refine Ab 3 (Ai rfl (Bc Tryz.zeroValue40) (fun p4=>?_))
   refine Ai rfl (A4 p4 0 0 0 [iV .u8 9,iV .u8 17,iV .u16 0,nV .u32 3405803781,nV .u32 134744073,sL x91.a ys92.length x91.cap] Tryz.sizeOf40 rfl rfl) (fun _=>Ab 1 (Ac (hK79 _ _ _ (Ap [0,1,2,4,5,6,7,8] Al rfl ?_))))
   refine Ad (fun K96 hK96=>Aa (Ah (A0 p4 0 0 0 [iV .u8 9,iV .u8 17,iV .u16 0,nV .u32 3405803781,nV .u32 134744073,sL x91.a ys92.length x91.cap] Tryz.isAgg40 Tryz.sizeOf40) (B0 (v:=Value.tuple #[aV [iV .u8 17,iV .u32 3405803781,iV .u32 134744073,iV .u16 1024,iV .u16 53],iV .i64 1,iV .i64 0]) (A9 (fun w_ hm_=>(Pi (ttl:=9) (pid:=0) hD94 okx93.le (FS.at (i:=2) (t:=5) hm_ rfl (Aj okx93 (Ba _)))))) (Ab 4 ?_))))
   refine Ai rfl (Bc Tryz.zeroValue47) (fun p6_1=>Ai rfl (A4 p6_1 0 0 0 [iV .u8 17,iV .u32 3405803781,iV .u32 134744073,iV .u16 1024,iV .u16 53] Tryz.sizeOf47 rfl rfl) (fun _=>?_))
   refine Ab 2 (Ac (hK96 _ _ _ (Ap [0,2,4,5,6,7,8] Al rfl (Ad (fun K98 hK98=>?_)))))
   refine Aa (Ab 3 (Am (v:=pV p6_1 3) (true) rfl Ae rfl (fun _=>Ys.p) (Am (v:=iV .u16 1024) (true) rfl Ae rfl (fun _=>Bp (b:=p6_1) (o':=3) (i:=0) (j:=0) (v:=iV .u16 1024) rfl Ae Tryz.isAgg22 rfl rfl rfl) (Am (v:=iV .i64 1) (true) rfl Ae rfl (fun _=>Ys.p) ?_))))
   refine Am (v:=iV .i64 0) (true) rfl Ae rfl (fun _=>Ys.p) (Am (v:=iV .u16 0) (true) rfl Ae rfl (fun _=>Ys.p) (Am (v:=iV .u16 1024) (true) rfl Ae rfl (fun _=>Ys.p) (Am (v:=bV false) (true) rfl Ae rfl (fun _=>Ys.p) (Ab 1 ?_))))
   refine Ac (hK98 _ _ _ (Ap [0,1,3,4,5,6] Al rfl (B4 Ae (Ak ?_))))
   refine hK76 _ _ _ (Aa (Ab 2 (Ac (hJ71 _ _ _ ?_))))
   refine C4 (fun J101 hJ101=>Ad (fun K103 hK103=>?_))
   refine Aa (Ab 1 (Ac (hK103 _ _ _ (Ad (fun K104 hK104=>?_)))))
   refine B5 Ae (Ak (hK104 _ _ _ (Ad (fun K106 hK106=>W.block ?_))))
   refine Ad (fun K107 hK107=>Aa (Ab 1 (Ah (v:=pV p16 12) ((Av (k:=.i64) (a:=some ⟨p16,0,none⟩) (len:=3) (cap:=3) (i:=2) (sz:=6) rfl Ae Ae Tryz.runUnderlying79 Tryz.sizeOf40 Al Al rfl).conseq Ae) (Ah (A0 p16 12 2 0 [iV .u8 9,iV .u8 17,iV .u16 0,nV .u32 3232235783,nV .u32 134744072,sL gd33.a ys34.length gd33.cap] Tryz.isAgg40 Tryz.sizeOf40) ?_))))
   refine Ai rfl (Bc Tryz.zeroValue40) (fun p3=>Ab 1 (Ai rfl (A4 p3 0 0 0 [iV .u8 9,iV .u8 17,iV .u16 0,nV .u32 3232235783,nV .u32 134744072,sL gd33.a ys34.length gd33.cap] Tryz.sizeOf40 rfl rfl) (fun _=>Ac (hK107 _ _ _ ?_))))
   refine Ad (fun K109 hK109=>Aa (Ab 1 (Ah (A0 p3 0 0 0 [iV .u8 9,iV .u8 17,iV .u16 0,nV .u32 3232235783,nV .u32 134744072,sL gd33.a ys34.length gd33.cap] Tryz.isAgg40 Tryz.sizeOf40) (Ax rfl (Au [2] [0,1,3,4,5,6] (fun w_ hm_ hl_=>(Ph kn3 sr80 _ 17 ((3232235783:Nat):Int) ((134744072:Nat):Int) ((5001:Nat):Int) ((53:Nat):Int) 9 17 0 ((3232235783:Nat):Int) ((134744072:Nat):Int) gd33.a ys34.length gd33.cap 1 0 true ((((mT ys34 0).toNat:Nat):Int) !=0) 0 false 0 0 FS (dgF 3232235783 134744072 ys34) (dgV 9 0 3232235783 134744072 ys34) (fun _=>0) (dgS 3232235783 134744072 ys34) _ hI84 hl_ Ag (by rw[hN5.kc];exact⟨by decide,by decide⟩) Al (Mv hdg36) Ag (Ri hdg36 okd35.le (fun LL_ w2_ h2_=>FS.at (i:=LL_.length+3) (t:=5) (Mem.back (LL:=[NG kn3 sr80]) (R:=[Q21 gd33 p3 ys34,Q22 p6_1,S9 gd17 gd25 gd33 p16 ys18 ys26 ys34,gd33.seg 5 (mc b8 ys34),gd25.seg 5 (mc b8 ys26),gd17.seg 5 (mc b8 ys18)]) (Mem.pick [2,0,1,3,4,5,6] Al hm_ rfl) h2_) ((En 3).trans rfl) (Aj okd35 (Ba _)))) (Rj hdg36) (Rk hdg36) (Rl hdg36 okd35.le (fun LL_ w2_ h2_=>FS.at (i:=LL_.length+3) (t:=5) (Mem.back (LL:=[NG kn3 sr80]) (R:=[Q21 gd33 p3 ys34,Q22 p6_1,S9 gd17 gd25 gd33 p16 ys18 ys26 ys34,gd33.seg 5 (mc b8 ys34),gd25.seg 5 (mc b8 ys26),gd17.seg 5 (mc b8 ys18)]) (Mem.pick [2,0,1,3,4,5,6] Al hm_ rfl) h2_) ((En 3).trans rfl) (Aj okd35 (Ba _)))) (Rm hdg36 okd35.le (fun LL_ w2_ h2_=>FS.at (i:=LL_.length+3) (t:=5) (Mem.back (LL:=[NG kn3 sr80]) (R:=[Q21 gd33 p3 ys34,Q22 p6_1,S9 gd17 gd25 gd33 p16 ys18 ys26 ys34,gd33.seg 5 (mc b8 ys34),gd25.seg 5 (mc b8 ys26),gd17.seg 5 (mc b8 ys18)]) (Mem.pick [2,0,1,3,4,5,6] Al hm_ rfl) h2_) ((En 3).trans rfl) (Aj okd35 (Ba _)))) (C2 (L:=[NG kn3 sr80]) (R:=[Q21 gd33 p3 ys34,Q22 p6_1,S9 gd17 gd25 gd33 p16 ys18 ys26 ys34,gd33.seg 5 (mc b8 ys34),gd25.seg 5 (mc b8 ys26),gd17.seg 5 (mc b8 ys18)]) htab hne (Mem.pick [2,0,1,3,4,5,6] Al hm_ rfl)).1 (C2 (L:=[NG kn3 sr80]) (R:=[Q21 gd33 p3 ys34,Q22 p6_1,S9 gd17 gd25 gd33 p16 ys18 ys26 ys34,gd33.seg 5 (mc b8 ys34),gd25.seg 5 (mc b8 ys26),gd17.seg 5 (mc b8 ys18)]) htab hne (Mem.pick [2,0,1,3,4,5,6] Al hm_ rfl)).2 (by rw[hz1_];rfl) (by rw[hN5.kfx];rfl)))) (fun q118 hx120=>?_)))))
   obtain⟨sr110,cd111,pv112,bl113⟩:=q118
   dsimp only at hx120
   obtain⟨hI114,hms115,hls116,hO117⟩:=hx120
   refine Bu (LL':=[NG kn3 sr110,bl113,Q21 gd33 p3 ys34,Q22 p6_1,S9 gd17 gd25 gd33 p16 ys18 ys26 ys34,gd33.seg 5 (mc b8 ys34),gd25.seg 5 (mc b8 ys26),gd17.seg 5 (mc b8 ys18)]) rfl ?_
   skip
   ·obtain⟨hq2_,hs2_⟩:=Amb hI84 hz1_ hN5.kfx hmo_ hq1_ hO117
    obtain⟨rfl,x121,ys122,okx123,rfl,rfl,hD124⟩:=Jr (s2:=3405803781) (d2:=134744072) (f2:=1025) (t2:=53) hdg36 hs2_ (by rw[hN5.kc];rfl) Al Al Al Al
    refine Ab 3 (Ai rfl (Bc Tryz.zeroValue40) (fun p4=>?_))
    refine Ai rfl (A4 p4 0 0 0 [iV .u8 9,iV .u8 17,iV .u16 0,nV .u32 3405803781,nV .u32 134744072,sL x121.a ys122.length x121.cap] Tryz.sizeOf40 rfl rfl) (fun _=>Ab 1 (Ac (hK109 _ _ _ (Ap [0,1,2,4,5,6,7,8] Al rfl ?_))))
    refine Ad (fun K126 hK126=>Aa (Ah (A0 p4 0 0 0 [iV .u8 9,iV .u8 17,iV .u16 0,nV .u32 3405803781,nV .u32 134744072,sL x121.a ys122.length x121.cap] Tryz.isAgg40 Tryz.sizeOf40) (B0 (v:=Value.tuple #[aV [iV .u8 17,iV .u32 3405803781,iV .u32 134744072,iV .u16 1025,iV .u16 53],iV .i64 1,iV .i64 0]) (A9 (fun w_ hm_=>(Pi (ttl:=9) (pid:=0) hD124 okx123.le (FS.at (i:=2) (t:=5) hm_ rfl (Aj okx123 (Ba _)))))) (Ab 4 ?_))))
    refine Ai rfl (Bc Tryz.zeroValue47) (fun p6=>Ai rfl (A4 p6 0 0 0 [iV .u8 17,iV .u32 3405803781,iV .u32 134744072,iV .u16 1025,iV .u16 53] Tryz.sizeOf47 rfl rfl) (fun _=>?_))
    refine Ab 2 (Ac (hK126 _ _ _ (Ap [0,2,4,5,6,7,8] Al rfl (Ad (fun K128 hK128=>?_)))))
    refine Aa (Ab 3 (Am (v:=pV p6 3) (true) rfl Ae rfl (fun _=>Ys.p) (Am (v:=iV .u16 1025) (true) rfl Ae rfl (fun _=>Bp (b:=p6) (o':=3) (i:=0) (j:=0) (v:=iV .u16 1025) rfl Ae Tryz.isAgg22 rfl rfl rfl) (Am (v:=iV .i64 2) (true) rfl Ae rfl (fun _=>Ys.p) ?_))))
    refine Am (v:=iV .i64 1) (true) rfl Ae rfl (fun _=>Ys.p) (Am (v:=iV .u16 1) (true) rfl Ae rfl (fun _=>Ys.p) (Am (v:=iV .u16 1025) (true) rfl Ae rfl (fun _=>Ys.p) (Am (v:=bV false) (true) rfl Ae rfl (fun _=>Ys.p) (Ab 1 ?_))))
    refine Ac (hK128 _ _ _ (Ap [0,1,3,4,5,6] Al rfl (B4 Ae (Ak ?_))))
    refine hK106 _ _ _ (Aa (Ab 2 (Ac (hJ101 _ _ _ ?_))))
    refine C4 (fun J131 hJ131=>Ad (fun K133 hK133=>?_))
    refine Aa (Ab 1 (Ac (hK133 _ _ _ (Ad (fun K134 hK134=>?_)))))
    refine B4 Ae (Cr (hK15 _ _ _ (Ap [1] Al rfl (Ad (fun K136 hK136=>?_)))))
    refine Aa (Ab 1 (Ax rfl (Au [0] [] (fun w_ hm_ hl_=>(Al7 kn3 sr110 _ _ hI114.ok hl_))) (fun u137 _=>Ab 2 (Ac ?_))))
    refine hK136 _ _ _ (Aq (fn:=Tryz.f7) rfl (fun w_ hS_=>Bb rfl (Aw (bV (((sr110.p.xs.length:Nat):Int)==3))) hS_ ⟨by clear hK1 hK2 hK11 hK12 hK15 hK16 hJ42 hK43 hK44 hK46 hK47 hK49 hK66 hK68 hJ71 hK73 hK74 hK76 hK77 hK79 hK96 hK98 hJ101 hK103 hK104 hK106 hK107 hK109 hK126 hK128 hJ131 hK133 hK134 hK136;refine congrArg Ending.returned ?_;exact Cj (by rw[hI114.a.xes,hq2_];rfl),hS_.below⟩))
theorem Pj(ty co:UInt8)(re:Nat)(xs:List UInt8)(a:Option Addr)(cap:Nat)(len:Nat)(w:World)(hn:len=xs.length)(hat:At w a (Ci xs))(hr:re<4294967296)(hl:xs.length≤100000)(hlc:xs.length≤cap):Calls Tryz.prog 97 #[Value.agg ([Value.int .u8 (ty.toNat:Int),Value.int .u8 (co.toNat:Int),Value.int .u32 (re:Int),sL a len cap]).toArray] w (Bj w (fun g:FS=>g.ok 1 (mB ty co re xs).length) (fun g=>.tuple #[.slice g.a (mB ty co re xs).length g.cap,.int .i64 (uE xs.length)]) [] (fun g=>[g.seg 5 (Ci (mB ty co re xs))])):=by
  subst hn;exact Afw ty co re xs a cap w hat hr hl hlc
theorem Pk(xs:List UInt8)(a:Option Addr)(cap:Nat)(len:Nat)(w:World)(hn:len=xs.length)(hat:At w a (Ci xs))(hl:len≤100000)(hlc:len≤cap):Calls Tryz.prog 87 #[.slice a len cap] w (Bj w (fun g:FS=>g.ok 1 (mD xs).length) (fun g=>.tuple #[.agg [.int .u8 ((mT xs 0).toNat:Int),.int .u8 ((mT xs 1).toNat:Int),.int .u32 (mN xs:Int),.slice g.a (mD xs).length g.cap].toArray,.int .i64 (mR xs)]) [] (fun g=>[g.seg 5 (Ci (mD xs))])):=by
  subst hn;exact Xn xs a cap w hat hl hlc
theorem Ab8(xs:List UInt8):(mD xs).length≤1472:=by
  unfold mD mg;cases h:decide (mR xs=0)
  · simp
  · have h1:mR xs=0:=by simpa using h
    unfold mR at h1
    split at h1
    · cases h1
    · split at h1
      · cases h1
      · simp only[cond_true,List.length_drop];omega
def anU(b:Bool)(x:UInt8):UInt8:=bif b then x else 0
def anN(b:Bool)(x:Nat):Nat:=bif b then x else 0
theorem Ajk{b:Bool}{x n:Nat}(h:x<n):anN b x<n:=by unfold anN;cases b<;>simp only[cond_true,cond_false]<;>omega
end Go.Proofs.YtmonlaoaengfdaaGreatDoor.Oct
