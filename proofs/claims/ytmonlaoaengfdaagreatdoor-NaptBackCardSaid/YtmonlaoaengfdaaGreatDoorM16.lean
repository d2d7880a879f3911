import Derived.Test.YtmonlaoaengfdaaGreatDoorM9
import Derived.Test.YtmonlaoaengfdaaGreatDoorM15
import Derived.Test.YtmonlaoaengfdaaGreatDoorM14
import Derived.Test.YtmonlaoaengfdaaGreatDoorM8
set_option linter.unusedVariables false
set_option linter.unusedSimpArgs false
set_option maxRecDepth 20000
namespace Go.Proofs.YtmonlaoaengfdaaGreatDoor.Oct
open Go.RowKit Base
attribute [local irreducible] Ys Yc Ht HtS HtIn Wl Wd W Mem pf D4 Wa Wo
def ho(n:Nat):UInt8:=UInt8.ofNat (4*(20+n))
theorem Any{n:Nat}(h:n≤40):UInt8.ofInt (Hw .i64 ((20+n:Nat):Int) 2)=ho n:=by
  have e:Hw .i64 ((20+n:Nat):Int) 2=((4*(20+n):Nat):Int):=by
    unfold Hw
    show IntKind.wrap .i64 (((20+n:Nat):Int)*2^2)=_
    rw[Cz Ag Ag];omega
  rw[e];unfold ho
  have h1:=V7 ((4*(20+n):Nat):Int)
  have h2:=Gf (4*(20+n))
  exact UInt8.toNat_inj.1 Ag
def tX(fr to sq ak:Nat)(fl:UInt8)(wi m ur:Nat)(os xs:List UInt8):List UInt8:=UInt8.ofNat (fr/256)::UInt8.ofNat fr::UInt8.ofNat (to/256)::UInt8.ofNat to::UInt8.ofNat (sq/256/256/256)::UInt8.ofNat (sq/256/256)::UInt8.ofNat (sq/256)::UInt8.ofNat sq::UInt8.ofNat (ak/256/256/256)::UInt8.ofNat (ak/256/256)::UInt8.ofNat (ak/256)::UInt8.ofNat ak::ho os.length::fl::UInt8.ofNat (wi/256)::UInt8.ofNat wi::UInt8.ofNat (m/256)::UInt8.ofNat m::UInt8.ofNat (ur/256)::UInt8.ofNat ur::(os++xs)
def tC(s d fr to sq ak:Nat)(fl:UInt8)(wi ur:Nat)(os xs:List UInt8):Nat:=Dy (Eg s d 6 (20+(os.length+xs.length))++tX fr to sq ak fl wi 0 ur os xs)
def tB(s d fr to sq ak:Nat)(fl:UInt8)(wi ur:Nat)(os xs:List UInt8):List UInt8:=if 40<os.length∨os.length%4≠0 then []else if 1460<os.length+xs.length then []else tX fr to sq ak fl wi (tC s d fr to sq ak fl wi ur os xs) ur os xs
def tE(o n:Nat):Int:=if 40<o∨o%4≠0 then 1 else if 1460<o+n then 14 else 0
theorem Acb(fr to sq ak:Nat)(fl:UInt8)(wi m ur:Nat)(os xs:List UInt8):(tX fr to sq ak fl wi m ur os xs).length=20+(os.length+xs.length):=by unfold tX;simp only[List.length_cons,List.length_append];omega
theorem Aju(fr to sq ak:Nat)(fl:UInt8)(wi m ur:Nat)(os xs:List UInt8):be 2 fr++be 2 to++be 4 sq++be 4 ak++[ho os.length,fl]++be 2 wi++be 2 m++be 2 ur++os++xs=tX fr to sq ak fl wi m ur os xs:=by
  rw[List.append_assoc _ os xs];rfl
theorem Af3(fr to sq ak:Nat)(fl:UInt8)(wi n ur:Nat)(os xs:List UInt8):Hl (tX fr to sq ak fl wi 0 ur os xs) 16 n=tX fr to sq ak fl wi n ur os xs:=rfl
theorem Ajv{s d fr to sq ak:Nat}{fl:UInt8}{wi ur:Nat}{os xs:List UInt8}(h1: ¬(40<os.length∨os.length%4≠0))(h2: ¬1460<os.length+xs.length):(tB s d fr to sq ak fl wi ur os xs).length=20+(os.length+xs.length):=by
  unfold tB;rw[if_neg h1,if_neg h2,Acb]
theorem Amg(s d fr to sq ak:Nat)(fl:UInt8)(wi ur:Nat)(os xs:List UInt8):(tB s d fr to sq ak fl wi ur os xs).length≤1480:=by
  unfold tB;split
  · simp
  · split
    · simp
    · rw[Acb];omega
abbrev Q2g(a oa:Option Addr)(ak cap fr oc sq to ur wi:Nat)(fl:UInt8)(os xs:List UInt8):List Value:=[nV .u16 fr,nV .u16 to,nV .u32 sq,nV .u32 ak,nV .u8 fl.toNat,nV .u16 wi,nV .u16 ur,sL oa os.length oc,sL a xs.length cap]
abbrev Q2h(fl:UInt8)(os:List UInt8):List Value:=[nV .u8 ((ho os.length).toNat),nV .u8 fl.toNat]
set_option maxHeartbeats 1000000 in
theorem Ajw(s d fr to sq ak:Nat)(fl:UInt8)(wi ur:Nat)(os xs:List UInt8)(oa a:Option Addr)(oc cap:Nat)(w:World)(hos:At w oa (Ci os))(hat:At w a (Ci xs))(hs:s<4294967296)(hd:d<4294967296)(hf:fr<65536)(ht:to<65536)(hq:sq<4294967296)(hk:ak<4294967296)(hw:wi<65536)(hu:ur<65536)(hol:os.length≤1000000000000000)(hl:xs.length≤1000000000000000)(hoc:os.length≤oc)(hlc:xs.length≤cap):Calls Tryz.prog 92 #[nV .u32 s,nV .u32 d,aV [nV .u16 fr,nV .u16 to,nV .u32 sq,nV .u32 ak,nV .u8 fl.toNat,nV .u16 wi,nV .u16 ur,sL oa os.length oc,sL a xs.length cap]] w (Bj w (fun g:FS=>g.ok 1 (tB s d fr to sq ak fl wi ur os xs).length) (fun g=>.tuple #[.slice g.a (tB s d fr to sq ak fl wi ur os xs).length g.cap,.int .i64 (tE os.length xs.length)]) [] (fun g=>[g.seg 5 (Ci (tB s d fr to sq ak fl wi ur os xs))])):=by
 refine Ar (M:=[]) (LL:=[]) (n:=83) Tryz.func92 rfl rfl A5 (Mem.refl _) (Ad (fun K1 hK1=>?_))
 refine Aa (Ai rfl (Bx (Q2g a oa ak cap fr oc sq to ur wi fl os xs) rfl) (fun p5=>?_))
 refine Ab 2 (Ac (hK1 _ _ _ (Ad (fun K3 hK3=>W.block ?_))))
 refine Ad (fun K4 hK4=>Aa (Ab 1 (Ah (An p5 7 0 0 Tryz.isAgg38) (Ab 3 ?_))))
 refine Am (v:=pV p5 7) (!(decide (((os.length:Nat):Int)>40))) rfl (B3 rfl Ae) rfl (fun hg5=>?_) ?_
 ·exact Ys.p
 refine Am (v:=sL oa os.length oc) (!(decide (((os.length:Nat):Int)>40))) rfl (B3 rfl Ae) rfl (fun hg6=>?_) ?_
 ·have qhg6:=hg6;try simp only[zA]at qhg6
  refine Bh (t:=16) (v0:=pV p5 7) (lz (g:= !(decide (((os.length:Nat):Int)>40))) (u:=undef) hg6 Ae) ?_
  exact An p5 7 0 0 Tryz.isAgg38
 refine Am (v:=nV .i64 os.length) (!(decide (((os.length:Nat):Int)>40))) rfl (B3 rfl Ae) rfl (fun hg7=>?_) ?_
 ·have qhg7:=hg7;try simp only[zA]at qhg7
  refine Bh (t:=17) (v0:=sL oa os.length oc) (lz (g:= !(decide (((os.length:Nat):Int)>40))) (u:=undef) hg7 Ae) ?_
  exact Ys.p
 refine Am (v:=nV .i64 (os.length%4)) (!(decide (((os.length:Nat):Int)>40))) rfl (B3 rfl Ae) rfl (fun hg8=>?_) ?_
 ·have qhg8:=hg8;try simp only[zA]at qhg8
  refine Bh (t:=18) (v0:=nV .i64 os.length) (lz (g:= !(decide (((os.length:Nat):Int)>40))) (u:=undef) hg8 Ae) ?_
  exact(Ys.p (v:=.int .i64 (Tk (os.length:Int) 4))).conseq (Af (rfl))
 refine Am (v:=bV (((os.length%4:Nat):Int) !=0)) (!(decide (((os.length:Nat):Int)>40))) rfl (B3 rfl Ae) rfl (fun hg9=>?_) ?_
 ·have qhg9:=hg9;try simp only[zA]at qhg9
  refine Bh (t:=19) (v0:=nV .i64 (os.length%4)) (lz (g:= !(decide (((os.length:Nat):Int)>40))) (u:=undef) hg9 Ae) ?_
  exact Ys.p
 refine Ah (v:=bV ((decide (((os.length:Nat):Int)>40))||(((os.length%4:Nat):Int) !=0))) (Dr (e:=decide (((os.length:Nat):Int)>40)) (b:=((os.length%4:Nat):Int) !=0) rfl Ae Ae Ae) (Ab 1 (Ac (hK4 _ _ _ ?_)))
 refine Ao ((decide (((os.length:Nat):Int)>40))||(((os.length%4:Nat):Int) !=0)) Ae (fun h11=>?_) (fun h12=>?_)
 ·have qh11:=h11;try simp only[zA]at qh11
  refine Ad (fun K13 hK13=>Aa (Ab 2 (Ac (hK13 _ _ _ ?_))))
  refine Ap [] Al rfl (Aq (fn:=Tryz.f92) rfl ?_)
  have hE:tE os.length xs.length=1:=by unfold tE;rw[if_pos Ag]
  have hB:tB s d fr to sq ak fl wi ur os xs=[]:=by unfold tB;rw[if_pos Ag]
  exact fun w_ hS_=>B9 rfl (Aw (sL none 0 0)) (Aw (iV .i64 1)) hS_ ⟨FS.nul,(by rw[hB];exact Bw 1),congrArg Ending.returned ((by rw[hB,hE];rfl)),(Mem.cast (by rw[hB];rfl) (Mem.push (hS_.pick [] Al rfl)))⟩
 ·have qh12:=h12;try simp only[zA]at qh12
  refine Ad (fun K15 hK15=>Aa (Ab 1 (Ah (An p5 7 0 0 Tryz.isAgg38) (Ab 1 ?_))))
  refine Ah (v:=nV .i64 (20+os.length)) ((Ys.p (v:=.int .i64 (Bt .i64 20 (os.length:Int)))).conseq (Af (A6 Ag Ag Ag))) (Ab 1 (Ah (An p5 8 0 0 Tryz.isAgg38) (Ab 1 (Ah (v:=nV .i64 ((20+os.length)+xs.length)) ((Ys.p (v:=.int .i64 (Bt .i64 ((20+os.length:Nat):Int) (xs.length:Int)))).conseq (Af (A6 Ag Ag Ag))) ?_))))
  refine Ab 2 (Ac (hK15 _ _ _ ?_))
  refine Ao (decide ((((20+os.length)+xs.length:Nat):Int)>1480)) Ae (fun h17=>?_) (fun h18=>?_)
  ·have qh17:=h17;try simp only[zA]at qh17
   refine Ad (fun K19 hK19=>Aa (Ab 2 (Ac (hK19 _ _ _ ?_))))
   refine Ap [] Al rfl (Aq (fn:=Tryz.f92) rfl ?_)
   have hE:tE os.length xs.length=14:=by unfold tE;rw[if_neg Ag,if_pos Ag]
   have hB:tB s d fr to sq ak fl wi ur os xs=[]:=by unfold tB;rw[if_neg Ag,if_pos Ag]
   exact fun w_ hS_=>B9 rfl (Aw (sL none 0 0)) (Aw (iV .i64 14)) hS_ ⟨FS.nul,(by rw[hB];exact Bw 1),congrArg Ending.returned ((by rw[hB,hE];rfl)),(Mem.cast (by rw[hB];rfl) (Mem.push (hS_.pick [] Al rfl)))⟩
  ·have qh18:=h18;try simp only[zA]at qh18
   refine Ak (hK3 _ _ _ (Ad (fun K22 hK22=>Aa (Ab 1 ?_))))
   refine Ah (An p5 7 0 0 Tryz.isAgg38) (Ab 1 (Ah (v:=nV .i64 (20+os.length)) ((Ys.p (v:=.int .i64 (Bt .i64 20 (os.length:Int)))).conseq (Af (A6 Ag Ag Ag))) (Ab 1 (Ac ?_))))
   refine hK22 _ _ _ (Ad (fun K24 hK24=>?_))
   refine Adb (w0:=w) (M:=[]) K24 [0,1,9] (fun(z28:FS×FS×FS×FS×Nat×FS×FS×FS×Nat×FS)=>[nV .u32 s,nV .u32 d,sL z28.2.2.2.2.2.2.2.2.2.a (2+2+4+4+2+2+2+2+os.length+xs.length) z28.2.2.2.2.2.2.2.2.2.cap]) (fun(z28:FS×FS×FS×FS×Nat×FS×FS×FS×Nat×FS)=>z28.1.ok 1 2∧z28.1.nil=false∧z28.2.1.ok 1 2∧z28.2.1.nil=false∧z28.2.2.1.ok 1 4∧z28.2.2.1.nil=false∧z28.2.2.2.1.ok 1 4∧z28.2.2.2.1.nil=false∧z28.2.2.2.2.2.1.ok 1 2∧z28.2.2.2.2.2.1.nil=false∧z28.2.2.2.2.2.2.1.ok 1 2∧z28.2.2.2.2.2.2.1.nil=false∧z28.2.2.2.2.2.2.2.1.ok 1 2∧z28.2.2.2.2.2.2.2.1.nil=false∧z28.2.2.2.2.2.2.2.2.2.ok 1 (2+2+4+4+2+2+2+2+os.length+xs.length)∧(2≤([⟨z28.1.a,(be 2 fr),z28.1.cap⟩,⟨z28.2.1.a,(be 2 to),z28.2.1.cap⟩,⟨z28.2.2.1.a,(be 4 sq),z28.2.2.1.cap⟩,⟨z28.2.2.2.1.a,(be 4 ak),z28.2.2.2.1.cap⟩,⟨some ⟨z28.2.2.2.2.1,0,none⟩,[(ho os.length),fl],2⟩,⟨z28.2.2.2.2.2.1.a,(be 2 wi),z28.2.2.2.2.2.1.cap⟩,⟨z28.2.2.2.2.2.2.1.a,(be 2 0),z28.2.2.2.2.2.2.1.cap⟩,⟨z28.2.2.2.2.2.2.2.1.a,(be 2 ur),z28.2.2.2.2.2.2.2.1.cap⟩,⟨oa,os,oc⟩,⟨a,xs,cap⟩]:List SV).length→z28.2.2.2.2.2.2.2.2.2.nil=false)) (fun(z28:FS×FS×FS×FS×Nat×FS×FS×FS×Nat×FS)=>[z28.2.2.2.2.2.2.2.2.2.seg 5 (mc b8 ((be 2 fr)++(be 2 to)++(be 4 sq)++(be 4 ak)++[(ho os.length),fl]++(be 2 wi)++(be 2 0)++(be 2 ur)++os++xs)),[cb z28.2.2.2.2.2.2.2.2.1 [sL z28.1.a 2 z28.1.cap,sL z28.2.1.a 2 z28.2.1.cap,sL z28.2.2.1.a 4 z28.2.2.1.cap,sL z28.2.2.2.1.a 4 z28.2.2.2.1.cap,sL (some ⟨z28.2.2.2.2.1,0,none⟩) 2 2,sL z28.2.2.2.2.2.1.a 2 z28.2.2.2.2.2.1.cap,sL z28.2.2.2.2.2.2.1.a 2 z28.2.2.2.2.2.2.1.cap,sL z28.2.2.2.2.2.2.2.1.a 2 z28.2.2.2.2.2.2.2.1.cap,sL oa os.length oc,sL a xs.length cap] 38],z28.2.2.2.2.2.2.2.1.seg 5 (mc b8 (be 2 ur)),z28.2.2.2.2.2.2.1.seg 5 (mc b8 (be 2 0)),z28.2.2.2.2.2.1.seg 5 (mc b8 (be 2 wi)),[cb z28.2.2.2.2.1 (Q2h fl os) 5],z28.2.2.2.1.seg 5 (mc b8 (be 4 ak)),z28.2.2.1.seg 5 (mc b8 (be 4 sq)),z28.2.1.seg 5 (mc b8 (be 2 to)),z28.1.seg 5 (mc b8 (be 2 fr)),[cb p5 (Q2g a oa ak cap fr oc sq to ur wi fl os xs) 126]]) (fun J25 hJ25=>?_) (fun z28 f26 hp27=>?_)
   ·refine E2 [0,1,2,4,5,6,8,9,10,12,13,14,16,17,18,19,20,22,23,24,27,28,29,31,32,33,34,37] (Mem w [] [[cb p5 (Q2g a oa ak cap fr oc sq to ur wi fl os xs) 126]]) Ae Ae (fun _ _ h_=>h_.drawn _) (Wa.ys (v:=pV p5 0) (i:=0) Ae Ae Ae Ae (fun _ h_=>h_) rfl rfl rfl (Ys.p) (Wa.ys (i:=1) Ae Ae Ae Ae (fun _ h_=>h_) rfl rfl rfl (An p5 0 0 0 Tryz.isAgg22) (Wa.ys (v:=nV .u64 fr) (i:=2) Ae Ae Ae Ae (fun _ h_=>h_) rfl rfl rfl ((Ys.p (v:=.int .u64 (Cg .u64 (fr:Int)))).conseq (Af (Cc Ag Ag))) (Wa.ys (v:=pV p5 1) (i:=4) Ae Ae Ae Ae (fun _ h_=>h_) rfl rfl rfl (Ys.p) ?_))))
    refine Wa.ys (i:=5) Ae Ae Ae Ae (fun _ h_=>h_) rfl rfl rfl (An p5 1 0 0 Tryz.isAgg22) (Wa.ys (v:=nV .u64 to) (i:=6) Ae Ae Ae Ae (fun _ h_=>h_) rfl rfl rfl ((Ys.p (v:=.int .u64 (Cg .u64 (to:Int)))).conseq (Af (Cc Ag Ag))) (Wa.ys (v:=pV p5 2) (i:=8) Ae Ae Ae Ae (fun _ h_=>h_) rfl rfl rfl (Ys.p) (Wa.ys (i:=9) Ae Ae Ae Ae (fun _ h_=>h_) rfl rfl rfl (An p5 2 0 0 Tryz.isAgg23) (Wa.ys (v:=nV .u64 sq) (i:=10) Ae Ae Ae Ae (fun _ h_=>h_) rfl rfl rfl ((Ys.p (v:=.int .u64 (Cg .u64 (sq:Int)))).conseq (Af (Cc Ag Ag))) ?_))))
    refine Wa.ys (v:=pV p5 3) (i:=12) Ae Ae Ae Ae (fun _ h_=>h_) rfl rfl rfl (Ys.p) (Wa.ys (i:=13) Ae Ae Ae Ae (fun _ h_=>h_) rfl rfl rfl (An p5 3 0 0 Tryz.isAgg23) (Wa.ys (v:=nV .u64 ak) (i:=14) Ae Ae Ae Ae (fun _ h_=>h_) rfl rfl rfl ((Ys.p (v:=.int .u64 (Cg .u64 (ak:Int)))).conseq (Af (Cc Ag Ag))) (Wa.ys (v:=nV .i64 (20+os.length)) (i:=16) Ae Ae Ae Ae (fun _ h_=>h_) rfl rfl rfl (Ys.p) (Wa.ys (v:=iV .i64 (Hw .i64 ((20+os.length:Nat):Int) 2)) (i:=17) Ae Ae Ae Ae (fun _ h_=>h_) rfl rfl rfl (Ys.p) ?_))))
    refine Wa.ys (v:=nV .u8 ((ho os.length).toNat)) (i:=18) Ae Ae Ae Ae (fun _ h_=>h_) rfl rfl rfl (Ys.conseq (v:=nV .u8 ((UInt8.ofInt (Hw .i64 ((20+os.length:Nat):Int) 2)).toNat)) (Af (congrArg (fun q:UInt8=>(q.toNat:Int)) (Any Ag))) ((Ys.p (v:=.int .u8 (Cg .u8 (Hw .i64 ((20+os.length:Nat):Int) 2)))).conseq (Af (V7 _)))) (Wa.ys (v:=pV p5 4) (i:=19) Ae Ae Ae Ae (fun _ h_=>h_) rfl rfl rfl (Ys.p) (Wa.ys (i:=20) Ae Ae Ae Ae (fun _ h_=>h_) rfl rfl rfl (An p5 4 0 0 Tryz.isAgg5) (Wa.ys (v:=pV p5 5) (i:=22) Ae Ae Ae Ae (fun _ h_=>h_) rfl rfl rfl (Ys.p) (Wa.ys (i:=23) Ae Ae Ae Ae (fun _ h_=>h_) rfl rfl rfl (An p5 5 0 0 Tryz.isAgg22) ?_))))
    refine Wa.ys (v:=nV .u64 wi) (i:=24) Ae Ae Ae Ae (fun _ h_=>h_) rfl rfl rfl ((Ys.p (v:=.int .u64 (Cg .u64 (wi:Int)))).conseq (Af (Cc Ag Ag))) (Wa.ys (v:=pV p5 6) (i:=27) Ae Ae Ae Ae (fun _ h_=>h_) rfl rfl rfl (Ys.p) (Wa.ys (i:=28) Ae Ae Ae Ae (fun _ h_=>h_) rfl rfl rfl (An p5 6 0 0 Tryz.isAgg22) (Wa.ys (v:=nV .u64 ur) (i:=29) Ae Ae Ae Ae (fun _ h_=>h_) rfl rfl rfl ((Ys.p (v:=.int .u64 (Cg .u64 (ur:Int)))).conseq (Af (Cc Ag Ag))) (Wa.ys (v:=pV p5 7) (i:=31) Ae Ae Ae Ae (fun _ h_=>h_) rfl rfl rfl (Ys.p) ?_))))
    refine Wa.ys (i:=32) Ae Ae Ae Ae (fun _ h_=>h_) rfl rfl rfl (An p5 7 0 0 Tryz.isAgg38) (Wa.ys (v:=pV p5 8) (i:=33) Ae Ae Ae Ae (fun _ h_=>h_) rfl rfl rfl (Ys.p) (Wa.ys (i:=34) Ae Ae Ae Ae (fun _ h_=>h_) rfl rfl rfl (An p5 8 0 0 Tryz.isAgg38) ?_))
    refine C3 (i:=3) (j:=21) Ae ?_ ?_
    ·refine Bv rfl rfl (Au [] [0] (fun w_ hm_ hl_=>Cv 2 fr Ag _)) (.inr fun _ _ h_=>h_.pick [1] Al rfl) (fun g29 hx33=>?_)
     obtain⟨ok30,nn31⟩:=hx33
     refine C3 (i:=7) (j:=21) Ae ?_ ?_
     ·refine Bv rfl rfl (Au [] [0,1] (fun w_ hm_ hl_=>Cv 2 to Ag _)) (.inr fun _ _ h_=>h_.pick [2] Al rfl) (fun g34 hx38=>?_)
      obtain⟨ok35,nn36⟩:=hx38
      refine C3 (i:=11) (j:=21) Ae ?_ ?_
      ·refine Bv rfl rfl (Au [] [0,1,2] (fun w_ hm_ hl_=>Cv 4 sq Ag _)) (.inr fun _ _ h_=>h_.pick [3] Al rfl) (fun g39 hx43=>?_)
       obtain⟨ok40,nn41⟩:=hx43
       refine C3 (i:=15) (j:=21) Ae ?_ ?_
       ·refine Bv rfl rfl (Au [] [0,1,2,3] (fun w_ hm_ hl_=>Cv 4 ak Ag _)) (.inr fun _ _ h_=>h_.pick [4] Al rfl) (fun g44 hx48=>?_)
        obtain⟨ok45,nn46⟩:=hx48
        refine C3 (i:=21) (j:=25) Ae ?_ ?_
        ·refine Ch rfl rfl (Bd (mk:=fun b_=>.slice (some ⟨b_,0,none⟩) 2 2) (t:=5) (cs:=(Q2h fl os)) rfl (fun _=>kr)) (.inr fun _ _ h_=>h_.pick [5] Al rfl) (fun p57=>A3 (i:=25) Ae (Bv rfl rfl (Au [] [0,1,2,3,4,5] (fun w_ hm_ hl_=>Cv 2 wi Ag _)) (.inr fun _ _ h_=>h_.pick [6] Al rfl) (fun g49 hx53=>?_)))
         obtain⟨ok50,nn51⟩:=hx53
         refine A3 (i:=26) Ae (Bv rfl rfl (Au [] [0,1,2,3,4,5,6] (fun w_ hm_ hl_=>Cv 2 0 Ag _)) (.inr fun _ _ h_=>h_.pick [7] Al rfl) (fun g54 hx58=>?_))
         obtain⟨ok55,nn56⟩:=hx58
         refine A3 (i:=30) Ae (Bv rfl rfl (Au [] [0,1,2,3,4,5,6,7] (fun w_ hm_ hl_=>Cv 2 ur Ag _)) (.inr fun _ _ h_=>h_.pick [8] Al rfl) (fun g59 hx63=>?_))
         obtain⟨ok60,nn61⟩:=hx63
         refine A3 (i:=35) Ae (Ch rfl rfl (Bd (mk:=fun b_=>.slice (some ⟨b_,0,none⟩) 10 10) (t:=38) (cs:=[sV g29 2,sV g34 2,sV g39 4,sV g44 4,sL (some ⟨p57,0,none⟩) 2 2,sV g49 2,sV g54 2,sV g59 2,sL oa os.length oc,sL a xs.length cap]) rfl (fun _=>kr)) (.inr fun _ _ h_=>h_.pick [9] Al rfl) (fun p71=>?_))
         refine A3 (i:=36) Ae (Bv rfl rfl (Au [] [0,1,2,3,4,5,6,7,8,9] (fun w_ hm_ hl_=>(Ed [⟨g29.a,(be 2 fr),g29.cap⟩,⟨g34.a,(be 2 to),g34.cap⟩,⟨g39.a,(be 4 sq),g39.cap⟩,⟨g44.a,(be 4 ak),g44.cap⟩,⟨some ⟨p57,0,none⟩,[(ho os.length),fl],2⟩,⟨g49.a,(be 2 wi),g49.cap⟩,⟨g54.a,(be 2 0),g54.cap⟩,⟨g59.a,(be 2 ur),g59.cap⟩,⟨oa,os,oc⟩,⟨a,xs,cap⟩] ((be 2 fr)++(be 2 to)++(be 4 sq)++(be 4 ak)++[(ho os.length),fl]++(be 2 wi)++(be 2 0)++(be 2 ur)++os++xs) (some ⟨p71,0,none⟩) 10 10 (2+2+4+4+2+2+2+2+os.length+xs.length) _ rfl (by simp[jn]) Kc (by first|exact Az (i:=0) (j:=0) (t:=38) (b:=p71) hm_ rfl rfl|(rw[show mc Ng ([⟨g29.a,(be 2 fr),g29.cap⟩,⟨g34.a,(be 2 to),g34.cap⟩,⟨g39.a,(be 4 sq),g39.cap⟩,⟨g44.a,(be 4 ak),g44.cap⟩,⟨some ⟨p57,0,none⟩,[(ho os.length),fl],2⟩,⟨g49.a,(be 2 wi),g49.cap⟩,⟨g54.a,(be 2 0),g54.cap⟩,⟨g59.a,(be 2 ur),g59.cap⟩,⟨oa,os,oc⟩,⟨a,xs,cap⟩]:List SV)=[sV g29 2,sV g34 2,sV g39 4,sV g44 4,Value.slice (some ⟨p57,0,none⟩) 2 2,sV g49 2,sV g54 2,sV g59 2,Value.slice oa os.length oc,Value.slice a xs.length cap] by(simp[mc,A8,By];try omega)];exact Az (i:=0) (j:=0) (t:=38) (b:=p71) hm_ rfl rfl)) (List.forall_mem_cons.2 ⟨(FS.at (i:=8) (t:=5) hm_ rfl (Aj ok30 E5)),(List.forall_mem_cons.2 ⟨(FS.at (i:=7) (t:=5) hm_ rfl (Aj ok35 E5)),(List.forall_mem_cons.2 ⟨(FS.at (i:=6) (t:=5) hm_ rfl (Aj ok40 E5)),(List.forall_mem_cons.2 ⟨(FS.at (i:=5) (t:=5) hm_ rfl (Aj ok45 E5)),(List.forall_mem_cons.2 ⟨(Az (i:=4) (j:=0) (t:=5) (b:=p57) hm_ rfl rfl),(List.forall_mem_cons.2 ⟨(FS.at (i:=3) (t:=5) hm_ rfl (Aj ok50 E5)),(List.forall_mem_cons.2 ⟨(FS.at (i:=2) (t:=5) hm_ rfl (Aj ok55 E5)),(List.forall_mem_cons.2 ⟨(FS.at (i:=1) (t:=5) hm_ rfl (Aj ok60 E5)),(List.forall_mem_cons.2 ⟨(hos.mem0 hm_),(List.forall_mem_cons.2 ⟨(hat.mem0 hm_),(fun _ h=>by cases h)⟩)⟩)⟩)⟩)⟩)⟩)⟩)⟩)⟩)⟩) I8 A5 A5))) (.inr fun _ _ h_=>h_.pick [10] Al rfl) (fun g64 hx68=>?_))
         obtain⟨ok65,nn66⟩:=hx68
         refine Wa.ys (v:=sV g64 (2+2+4+4+2+2+2+2+os.length+xs.length)) (i:=37) Ae Ae Ae Ae (fun _ h_=>h_.pick [10] Al rfl) rfl rfl rfl (Ys.p) (D1 Ae ?_)
         refine fun w_ h_=>hJ25 (g29,g34,g39,g44,p57,g49,g54,g59,p71,g64) _ w_ ⟨ok30,nn31,ok35,nn36,ok40,nn41,ok45,nn46,ok50,nn51,ok55,nn56,ok60,nn61,ok65,nn66⟩ Ae h_
        ·refine Bv rfl rfl (Au [] [0,1,2,3,4] (fun w_ hm_ hl_=>Cv 2 wi Ag _)) (.inr fun _ _ h_=>h_.pick [5] Al rfl) (fun g69 hx73=>?_)
         obtain⟨ok70,nn71⟩:=hx73
         refine C3 (i:=21) (j:=26) Ae ?_ ?_
         ·refine Ch rfl rfl (Bd (mk:=fun b_=>.slice (some ⟨b_,0,none⟩) 2 2) (t:=5) (cs:=(Q2h fl os)) rfl (fun _=>kr)) (.inr fun _ _ h_=>h_.pick [6] Al rfl) (fun p57=>A3 (i:=26) Ae (Bv rfl rfl (Au [] [0,1,2,3,4,5,6] (fun w_ hm_ hl_=>Cv 2 0 Ag _)) (.inr fun _ _ h_=>h_.pick [7] Al rfl) (fun g74 hx78=>?_)))
          obtain⟨ok75,nn76⟩:=hx78
          refine A3 (i:=30) Ae (Bv rfl rfl (Au [] [0,1,2,3,4,5,6,7] (fun w_ hm_ hl_=>Cv 2 ur Ag _)) (.inr fun _ _ h_=>h_.pick [8] Al rfl) (fun g79 hx83=>?_))
          obtain⟨ok80,nn81⟩:=hx83
          refine A3 (i:=35) Ae (Ch rfl rfl (Bd (mk:=fun b_=>.slice (some ⟨b_,0,none⟩) 10 10) (t:=38) (cs:=[sV g29 2,sV g34 2,sV g39 4,sV g44 4,sL (some ⟨p57,0,none⟩) 2 2,sV g69 2,sV g74 2,sV g79 2,sL oa os.length oc,sL a xs.length cap]) rfl (fun _=>kr)) (.inr fun _ _ h_=>h_.pick [9] Al rfl) (fun p71=>?_))
          refine A3 (i:=36) Ae (Bv rfl rfl (Au [] [0,1,2,3,4,5,6,7,8,9] (fun w_ hm_ hl_=>(Ed [⟨g29.a,(be 2 fr),g29.cap⟩,⟨g34.a,(be 2 to),g34.cap⟩,⟨g39.a,(be 4 sq),g39.cap⟩,⟨g44.a,(be 4 ak),g44.cap⟩,⟨some ⟨p57,0,none⟩,[(ho os.length),fl],2⟩,⟨g69.a,(be 2 wi),g69.cap⟩,⟨g74.a,(be 2 0),g74.cap⟩,⟨g79.a,(be 2 ur),g79.cap⟩,⟨oa,os,oc⟩,⟨a,xs,cap⟩] ((be 2 fr)++(be 2 to)++(be 4 sq)++(be 4 ak)++[(ho os.length),fl]++(be 2 wi)++(be 2 0)++(be 2 ur)++os++xs) (some ⟨p71,0,none⟩) 10 10 (2+2+4+4+2+2+2+2+os.length+xs.length) _ rfl (by simp[jn]) Kc (by first|exact Az (i:=0) (j:=0) (t:=38) (b:=p71) hm_ rfl rfl|(rw[show mc Ng ([⟨g29.a,(be 2 fr),g29.cap⟩,⟨g34.a,(be 2 to),g34.cap⟩,⟨g39.a,(be 4 sq),g39.cap⟩,⟨g44.a,(be 4 ak),g44.cap⟩,⟨some ⟨p57,0,none⟩,[(ho os.length),fl],2⟩,⟨g69.a,(be 2 wi),g69.cap⟩,⟨g74.a,(be 2 0),g74.cap⟩,⟨g79.a,(be 2 ur),g79.cap⟩,⟨oa,os,oc⟩,⟨a,xs,cap⟩]:List SV)=[sV g29 2,sV g34 2,sV g39 4,sV g44 4,Value.slice (some ⟨p57,0,none⟩) 2 2,sV g69 2,sV g74 2,sV g79 2,Value.slice oa os.length oc,Value.slice a xs.length cap] by(simp[mc,A8,By];try omega)];exact Az (i:=0) (j:=0) (t:=38) (b:=p71) hm_ rfl rfl)) (List.forall_mem_cons.2 ⟨(FS.at (i:=8) (t:=5) hm_ rfl (Aj ok30 E5)),(List.forall_mem_cons.2 ⟨(FS.at (i:=7) (t:=5) hm_ rfl (Aj ok35 E5)),(List.forall_mem_cons.2 ⟨(FS.at (i:=6) (t:=5) hm_ rfl (Aj ok40 E5)),(List.forall_mem_cons.2 ⟨(FS.at (i:=5) (t:=5) hm_ rfl (Aj ok45 E5)),(List.forall_mem_cons.2 ⟨(Az (i:=3) (j:=0) (t:=5) (b:=p57) hm_ rfl rfl),(List.forall_mem_cons.2 ⟨(FS.at (i:=4) (t:=5) hm_ rfl (Aj ok70 E5)),(List.forall_mem_cons.2 ⟨(FS.at (i:=2) (t:=5) hm_ rfl (Aj ok75 E5)),(List.forall_mem_cons.2 ⟨(FS.at (i:=1) (t:=5) hm_ rfl (Aj ok80 E5)),(List.forall_mem_cons.2 ⟨(hos.mem0 hm_),(List.forall_mem_cons.2 ⟨(hat.mem0 hm_),(fun _ h=>by cases h)⟩)⟩)⟩)⟩)⟩)⟩)⟩)⟩)⟩)⟩) I8 A5 A5))) (.inr fun _ _ h_=>h_.pick [10] Al rfl) (fun g84 hx88=>?_))
          obtain⟨ok85,nn86⟩:=hx88
          refine Wa.ys (v:=sV g84 (2+2+4+4+2+2+2+2+os.length+xs.length)) (i:=37) Ae Ae Ae Ae (fun _ h_=>h_.pick [10] Al rfl) rfl rfl rfl (Ys.p) (D1 Ae ?_)
          refine fun w_ h_=>hJ25 (g29,g34,g39,g44,p57,g69,g74,g79,p71,g84) _ w_ ⟨ok30,nn31,ok35,nn36,ok40,nn41,ok45,nn46,ok70,nn71,ok75,nn76,ok80,nn81,ok85,nn86⟩ Ae (h_.pick [0,1,2,3,5,4,6,7,8,9,10] Al rfl)
         ·refine Bv rfl rfl (Au [] [0,1,2,3,4,5] (fun w_ hm_ hl_=>Cv 2 0 Ag _)) (.inr fun _ _ h_=>h_.pick [6] Al rfl) (fun g89 hx93=>?_)
          obtain⟨ok90,nn91⟩:=hx93
          refine C3 (i:=21) (j:=30) Ae ?_ ?_
          ·refine Ch rfl rfl (Bd (mk:=fun b_=>.slice (some ⟨b_,0,none⟩) 2 2) (t:=5) (cs:=(Q2h fl os)) rfl (fun _=>kr)) (.inr fun _ _ h_=>h_.pick [7] Al rfl) (fun p57=>A3 (i:=30) Ae (Bv rfl rfl (Au [] [0,1,2,3,4,5,6,7] (fun w_ hm_ hl_=>Cv 2 ur Ag _)) (.inr fun _ _ h_=>h_.pick [8] Al rfl) (fun g94 hx98=>?_)))
           obtain⟨ok95,nn96⟩:=hx98
           refine A3 (i:=35) Ae (Ch rfl rfl (Bd (mk:=fun b_=>.slice (some ⟨b_,0,none⟩) 10 10) (t:=38) (cs:=[sV g29 2,sV g34 2,sV g39 4,sV g44 4,sL (some ⟨p57,0,none⟩) 2 2,sV g69 2,sV g89 2,sV g94 2,sL oa os.length oc,sL a xs.length cap]) rfl (fun _=>kr)) (.inr fun _ _ h_=>h_.pick [9] Al rfl) (fun p71=>?_))
           refine A3 (i:=36) Ae (Bv rfl rfl (Au [] [0,1,2,3,4,5,6,7,8,9] (fun w_ hm_ hl_=>(Ed [⟨g29.a,(be 2 fr),g29.cap⟩,⟨g34.a,(be 2 to),g34.cap⟩,⟨g39.a,(be 4 sq),g39.cap⟩,⟨g44.a,(be 4 ak),g44.cap⟩,⟨some ⟨p57,0,none⟩,[(ho os.length),fl],2⟩,⟨g69.a,(be 2 wi),g69.cap⟩,⟨g89.a,(be 2 0),g89.cap⟩,⟨g94.a,(be 2 ur),g94.cap⟩,⟨oa,os,oc⟩,⟨a,xs,cap⟩] ((be 2 fr)++(be 2 to)++(be 4 sq)++(be 4 ak)++[(ho os.length),fl]++(be 2 wi)++(be 2 0)++(be 2 ur)++os++xs) (some ⟨p71,0,none⟩) 10 10 (2+2+4+4+2+2+2+2+os.length+xs.length) _ rfl (by simp[jn]) Kc (by first|exact Az (i:=0) (j:=0) (t:=38) (b:=p71) hm_ rfl rfl|(rw[show mc Ng ([⟨g29.a,(be 2 fr),g29.cap⟩,⟨g34.a,(be 2 to),g34.cap⟩,⟨g39.a,(be 4 sq),g39.cap⟩,⟨g44.a,(be 4 ak),g44.cap⟩,⟨some ⟨p57,0,none⟩,[(ho os.length),fl],2⟩,⟨g69.a,(be 2 wi),g69.cap⟩,⟨g89.a,(be 2 0),g89.cap⟩,⟨g94.a,(be 2 ur),g94.cap⟩,⟨oa,os,oc⟩,⟨a,xs,cap⟩]:List SV)=[sV g29 2,sV g34 2,sV g39 4,sV g44 4,Value.slice (some ⟨p57,0,none⟩) 2 2,sV g69 2,sV g89 2,sV g94 2,Value.slice oa os.length oc,Value.slice a xs.length cap] by(simp[mc,A8,By];try omega)];exact Az (i:=0) (j:=0) (t:=38) (b:=p71) hm_ rfl rfl)) (List.forall_mem_cons.2 ⟨(FS.at (i:=8) (t:=5) hm_ rfl (Aj ok30 E5)),(List.forall_mem_cons.2 ⟨(FS.at (i:=7) (t:=5) hm_ rfl (Aj ok35 E5)),(List.forall_mem_cons.2 ⟨(FS.at (i:=6) (t:=5) hm_ rfl (Aj ok40 E5)),(List.forall_mem_cons.2 ⟨(FS.at (i:=5) (t:=5) hm_ rfl (Aj ok45 E5)),(List.forall_mem_cons.2 ⟨(Az (i:=2) (j:=0) (t:=5) (b:=p57) hm_ rfl rfl),(List.forall_mem_cons.2 ⟨(FS.at (i:=4) (t:=5) hm_ rfl (Aj ok70 E5)),(List.forall_mem_cons.2 ⟨(FS.at (i:=3) (t:=5) hm_ rfl (Aj ok90 E5)),(List.forall_mem_cons.2 ⟨(FS.at (i:=1) (t:=5) hm_ rfl (Aj ok95 E5)),(List.forall_mem_cons.2 ⟨(hos.mem0 hm_),(List.forall_mem_cons.2 ⟨(hat.mem0 hm_),(fun _ h=>by cases h)⟩)⟩)⟩)⟩)⟩)⟩)⟩)⟩)⟩)⟩) I8 A5 A5))) (.inr fun _ _ h_=>h_.pick [10] Al rfl) (fun g99 hx103=>?_))
           obtain⟨ok100,nn101⟩:=hx103
           refine Wa.ys (v:=sV g99 (2+2+4+4+2+2+2+2+os.length+xs.length)) (i:=37) Ae Ae Ae Ae (fun _ h_=>h_.pick [10] Al rfl) rfl rfl rfl (Ys.p) (D1 Ae ?_)
           refine fun w_ h_=>hJ25 (g29,g34,g39,g44,p57,g69,g89,g94,p71,g99) _ w_ ⟨ok30,nn31,ok35,nn36,ok40,nn41,ok45,nn46,ok70,nn71,ok90,nn91,ok95,nn96,ok100,nn101⟩ Ae (h_.pick [0,1,2,4,5,3,6,7,8,9,10] Al rfl)
          ·refine Bv rfl rfl (Au [] [0,1,2,3,4,5,6] (fun w_ hm_ hl_=>Cv 2 ur Ag _)) (.inr fun _ _ h_=>h_.pick [7] Al rfl) (fun g104 hx108=>?_)
           obtain⟨ok105,nn106⟩:=hx108
           refine A3 (i:=21) Ae (Ch rfl rfl (Bd (mk:=fun b_=>.slice (some ⟨b_,0,none⟩) 2 2) (t:=5) (cs:=(Q2h fl os)) rfl (fun _=>kr)) (.inr fun _ _ h_=>h_.pick [8] Al rfl) (fun p57=>?_))
           refine A3 (i:=35) Ae (Ch rfl rfl (Bd (mk:=fun b_=>.slice (some ⟨b_,0,none⟩) 10 10) (t:=38) (cs:=[sV g29 2,sV g34 2,sV g39 4,sV g44 4,sL (some ⟨p57,0,none⟩) 2 2,sV g69 2,sV g89 2,sV g104 2,sL oa os.length oc,sL a xs.length cap]) rfl (fun _=>kr)) (.inr fun _ _ h_=>h_.pick [9] Al rfl) (fun p71=>?_))
           refine A3 (i:=36) Ae (Bv rfl rfl (Au [] [0,1,2,3,4,5,6,7,8,9] (fun w_ hm_ hl_=>(Ed [⟨g29.a,(be 2 fr),g29.cap⟩,⟨g34.a,(be 2 to),g34.cap⟩,⟨g39.a,(be 4 sq),g39.cap⟩,⟨g44.a,(be 4 ak),g44.cap⟩,⟨some ⟨p57,0,none⟩,[(ho os.length),fl],2⟩,⟨g69.a,(be 2 wi),g69.cap⟩,⟨g89.a,(be 2 0),g89.cap⟩,⟨g104.a,(be 2 ur),g104.cap⟩,⟨oa,os,oc⟩,⟨a,xs,cap⟩] ((be 2 fr)++(be 2 to)++(be 4 sq)++(be 4 ak)++[(ho os.length),fl]++(be 2 wi)++(be 2 0)++(be 2 ur)++os++xs) (some ⟨p71,0,none⟩) 10 10 (2+2+4+4+2+2+2+2+os.length+xs.length) _ rfl (by simp[jn]) Kc (by first|exact Az (i:=0) (j:=0) (t:=38) (b:=p71) hm_ rfl rfl|(rw[show mc Ng ([⟨g29.a,(be 2 fr),g29.cap⟩,⟨g34.a,(be 2 to),g34.cap⟩,⟨g39.a,(be 4 sq),g39.cap⟩,⟨g44.a,(be 4 ak),g44.cap⟩,⟨some ⟨p57,0,none⟩,[(ho os.length),fl],2⟩,⟨g69.a,(be 2 wi),g69.cap⟩,⟨g89.a,(be 2 0),g89.cap⟩,⟨g104.a,(be 2 ur),g104.cap⟩,⟨oa,os,oc⟩,⟨a,xs,cap⟩]:List SV)=[sV g29 2,sV g34 2,sV g39 4,sV g44 4,Value.slice (some ⟨p57,0,none⟩) 2 2,sV g69 2,sV g89 2,sV g104 2,Value.slice oa os.length oc,Value.slice a xs.length cap] by(simp[mc,A8,By];try omega)];exact Az (i:=0) (j:=0) (t:=38) (b:=p71) hm_ rfl rfl)) (List.forall_mem_cons.2 ⟨(FS.at (i:=8) (t:=5) hm_ rfl (Aj ok30 E5)),(List.forall_mem_cons.2 ⟨(FS.at (i:=7) (t:=5) hm_ rfl (Aj ok35 E5)),(List.forall_mem_cons.2 ⟨(FS.at (i:=6) (t:=5) hm_ rfl (Aj ok40 E5)),(List.forall_mem_cons.2 ⟨(FS.at (i:=5) (t:=5) hm_ rfl (Aj ok45 E5)),(List.forall_mem_cons.2 ⟨(Az (i:=1) (j:=0) (t:=5) (b:=p57) hm_ rfl rfl),(List.forall_mem_cons.2 ⟨(FS.at (i:=4) (t:=5) hm_ rfl (Aj ok70 E5)),(List.forall_mem_cons.2 ⟨(FS.at (i:=3) (t:=5) hm_ rfl (Aj ok90 E5)),(List.forall_mem_cons.2 ⟨(FS.at (i:=2) (t:=5) hm_ rfl (Aj ok105 E5)),(List.forall_mem_cons.2 ⟨(hos.mem0 hm_),(List.forall_mem_cons.2 ⟨(hat.mem0 hm_),(fun _ h=>by cases h)⟩)⟩)⟩)⟩)⟩)⟩)⟩)⟩)⟩)⟩) I8 A5 A5))) (.inr fun _ _ h_=>h_.pick [10] Al rfl) (fun g109 hx113=>?_))
           obtain⟨ok110,nn111⟩:=hx113
           refine Wa.ys (v:=sV g109 (2+2+4+4+2+2+2+2+os.length+xs.length)) (i:=37) Ae Ae Ae Ae (fun _ h_=>h_.pick [10] Al rfl) rfl rfl rfl (Ys.p) (D1 Ae ?_)
           refine fun w_ h_=>hJ25 (g29,g34,g39,g44,p57,g69,g89,g104,p71,g109) _ w_ ⟨ok30,nn31,ok35,nn36,ok40,nn41,ok45,nn46,ok70,nn71,ok90,nn91,ok105,nn106,ok110,nn111⟩ Ae (h_.pick [0,1,3,4,5,2,6,7,8,9,10] Al rfl)
       ·refine Ch rfl rfl (Bd (mk:=fun b_=>.slice (some ⟨b_,0,none⟩) 2 2) (t:=5) (cs:=(Q2h fl os)) rfl (fun _=>kr)) (.inr fun _ _ h_=>h_.pick [4] Al rfl) (fun p57=>A3 (i:=15) Ae (Bv rfl rfl (Au [] [0,1,2,3,4] (fun w_ hm_ hl_=>Cv 4 ak Ag _)) (.inr fun _ _ h_=>h_.pick [5] Al rfl) (fun g114 hx118=>?_)))
        obtain⟨ok115,nn116⟩:=hx118
        refine A3 (i:=25) Ae (Bv rfl rfl (Au [] [0,1,2,3,4,5] (fun w_ hm_ hl_=>Cv 2 wi Ag _)) (.inr fun _ _ h_=>h_.pick [6] Al rfl) (fun g119 hx123=>?_))
        obtain⟨ok120,nn121⟩:=hx123
        refine A3 (i:=26) Ae (Bv rfl rfl (Au [] [0,1,2,3,4,5,6] (fun w_ hm_ hl_=>Cv 2 0 Ag _)) (.inr fun _ _ h_=>h_.pick [7] Al rfl) (fun g124 hx128=>?_))
        obtain⟨ok125,nn126⟩:=hx128
        refine A3 (i:=30) Ae (Bv rfl rfl (Au [] [0,1,2,3,4,5,6,7] (fun w_ hm_ hl_=>Cv 2 ur Ag _)) (.inr fun _ _ h_=>h_.pick [8] Al rfl) (fun g129 hx133=>?_))
        obtain⟨ok130,nn131⟩:=hx133
        refine A3 (i:=35) Ae (Ch rfl rfl (Bd (mk:=fun b_=>.slice (some ⟨b_,0,none⟩) 10 10) (t:=38) (cs:=[sV g29 2,sV g34 2,sV g39 4,sV g114 4,sL (some ⟨p57,0,none⟩) 2 2,sV g119 2,sV g124 2,sV g129 2,sL oa os.length oc,sL a xs.length cap]) rfl (fun _=>kr)) (.inr fun _ _ h_=>h_.pick [9] Al rfl) (fun p71=>?_))
        refine A3 (i:=36) Ae (Bv rfl rfl (Au [] [0,1,2,3,4,5,6,7,8,9] (fun w_ hm_ hl_=>(Ed [⟨g29.a,(be 2 fr),g29.cap⟩,⟨g34.a,(be 2 to),g34.cap⟩,⟨g39.a,(be 4 sq),g39.cap⟩,⟨g114.a,(be 4 ak),g114.cap⟩,⟨some ⟨p57,0,none⟩,[(ho os.length),fl],2⟩,⟨g119.a,(be 2 wi),g119.cap⟩,⟨g124.a,(be 2 0),g124.cap⟩,⟨g129.a,(be 2 ur),g129.cap⟩,⟨oa,os,oc⟩,⟨a,xs,cap⟩] ((be 2 fr)++(be 2 to)++(be 4 sq)++(be 4 ak)++[(ho os.length),fl]++(be 2 wi)++(be 2 0)++(be 2 ur)++os++xs) (some ⟨p71,0,none⟩) 10 10 (2+2+4+4+2+2+2+2+os.length+xs.length) _ rfl (by simp[jn]) Kc (by first|exact Az (i:=0) (j:=0) (t:=38) (b:=p71) hm_ rfl rfl|(rw[show mc Ng ([⟨g29.a,(be 2 fr),g29.cap⟩,⟨g34.a,(be 2 to),g34.cap⟩,⟨g39.a,(be 4 sq),g39.cap⟩,⟨g114.a,(be 4 ak),g114.cap⟩,⟨some ⟨p57,0,none⟩,[(ho os.length),fl],2⟩,⟨g119.a,(be 2 wi),g119.cap⟩,⟨g124.a,(be 2 0),g124.cap⟩,⟨g129.a,(be 2 ur),g129.cap⟩,⟨oa,os,oc⟩,⟨a,xs,cap⟩]:List SV)=[sV g29 2,sV g34 2,sV g39 4,sV g114 4,Value.slice (some ⟨p57,0,none⟩) 2 2,sV g119 2,sV g124 2,sV g129 2,Value.slice oa os.length oc,Value.slice a xs.length cap] by(simp[mc,A8,By];try omega)];exact Az (i:=0) (j:=0) (t:=38) (b:=p71) hm_ rfl rfl)) (List.forall_mem_cons.2 ⟨(FS.at (i:=8) (t:=5) hm_ rfl (Aj ok30 E5)),(List.forall_mem_cons.2 ⟨(FS.at (i:=7) (t:=5) hm_ rfl (Aj ok35 E5)),(List.forall_mem_cons.2 ⟨(FS.at (i:=6) (t:=5) hm_ rfl (Aj ok40 E5)),(List.forall_mem_cons.2 ⟨(FS.at (i:=4) (t:=5) hm_ rfl (Aj ok115 E5)),(List.forall_mem_cons.2 ⟨(Az (i:=5) (j:=0) (t:=5) (b:=p57) hm_ rfl rfl),(List.forall_mem_cons.2 ⟨(FS.at (i:=3) (t:=5) hm_ rfl (Aj ok120 E5)),(List.forall_mem_cons.2 ⟨(FS.at (i:=2) (t:=5) hm_ rfl (Aj ok125 E5)),(List.forall_mem_cons.2 ⟨(FS.at (i:=1) (t:=5) hm_ rfl (Aj ok130 E5)),(List.forall_mem_cons.2 ⟨(hos.mem0 hm_),(List.forall_mem_cons.2 ⟨(hat.mem0 hm_),(fun _ h=>by cases h)⟩)⟩)⟩)⟩)⟩)⟩)⟩)⟩)⟩)⟩) I8 A5 A5))) (.inr fun _ _ h_=>h_.pick [10] Al rfl) (fun g134 hx138=>?_))
        obtain⟨ok135,nn136⟩:=hx138
        refine Wa.ys (v:=sV g134 (2+2+4+4+2+2+2+2+os.length+xs.length)) (i:=37) Ae Ae Ae Ae (fun _ h_=>h_.pick [10] Al rfl) rfl rfl rfl (Ys.p) (D1 Ae ?_)
        refine fun w_ h_=>hJ25 (g29,g34,g39,g114,p57,g119,g124,g129,p71,g134) _ w_ ⟨ok30,nn31,ok35,nn36,ok40,nn41,ok115,nn116,ok120,nn121,ok125,nn126,ok130,nn131,ok135,nn136⟩ Ae (h_.pick [0,1,2,3,4,6,5,7,8,9,10] Al rfl)
      ·refine Ch rfl rfl (Bd (mk:=fun b_=>.slice (some ⟨b_,0,none⟩) 2 2) (t:=5) (cs:=(Q2h fl os)) rfl (fun _=>kr)) (.inr fun _ _ h_=>h_.pick [3] Al rfl) (fun p57=>A3 (i:=11) Ae (Bv rfl rfl (Au [] [0,1,2,3] (fun w_ hm_ hl_=>Cv 4 sq Ag _)) (.inr fun _ _ h_=>h_.pick [4] Al rfl) (fun g139 hx143=>?_)))
       obtain⟨ok140,nn141⟩:=hx143
       refine A3 (i:=15) Ae (Bv rfl rfl (Au [] [0,1,2,3,4] (fun w_ hm_ hl_=>Cv 4 ak Ag _)) (.inr fun _ _ h_=>h_.pick [5] Al rfl) (fun g144 hx148=>?_))
       obtain⟨ok145,nn146⟩:=hx148
       refine A3 (i:=25) Ae (Bv rfl rfl (Au [] [0,1,2,3,4,5] (fun w_ hm_ hl_=>Cv 2 wi Ag _)) (.inr fun _ _ h_=>h_.pick [6] Al rfl) (fun g149 hx153=>?_))
       obtain⟨ok150,nn151⟩:=hx153
       refine A3 (i:=26) Ae (Bv rfl rfl (Au [] [0,1,2,3,4,5,6] (fun w_ hm_ hl_=>Cv 2 0 Ag _)) (.inr fun _ _ h_=>h_.pick [7] Al rfl) (fun g154 hx158=>?_))
       obtain⟨ok155,nn156⟩:=hx158
       refine A3 (i:=30) Ae (Bv rfl rfl (Au [] [0,1,2,3,4,5,6,7] (fun w_ hm_ hl_=>Cv 2 ur Ag _)) (.inr fun _ _ h_=>h_.pick [8] Al rfl) (fun g159 hx163=>?_))
       obtain⟨ok160,nn161⟩:=hx163
       refine A3 (i:=35) Ae (Ch rfl rfl (Bd (mk:=fun b_=>.slice (some ⟨b_,0,none⟩) 10 10) (t:=38) (cs:=[sV g29 2,sV g34 2,sV g139 4,sV g144 4,sL (some ⟨p57,0,none⟩) 2 2,sV g149 2,sV g154 2,sV g159 2,sL oa os.length oc,sL a xs.length cap]) rfl (fun _=>kr)) (.inr fun _ _ h_=>h_.pick [9] Al rfl) (fun p71=>?_))
       refine A3 (i:=36) Ae (Bv rfl rfl (Au [] [0,1,2,3,4,5,6,7,8,9] (fun w_ hm_ hl_=>(Ed [⟨g29.a,(be 2 fr),g29.cap⟩,⟨g34.a,(be 2 to),g34.cap⟩,⟨g139.a,(be 4 sq),g139.cap⟩,⟨g144.a,(be 4 ak),g144.cap⟩,⟨some ⟨p57,0,none⟩,[(ho os.length),fl],2⟩,⟨g149.a,(be 2 wi),g149.cap⟩,⟨g154.a,(be 2 0),g154.cap⟩,⟨g159.a,(be 2 ur),g159.cap⟩,⟨oa,os,oc⟩,⟨a,xs,cap⟩] ((be 2 fr)++(be 2 to)++(be 4 sq)++(be 4 ak)++[(ho os.length),fl]++(be 2 wi)++(be 2 0)++(be 2 ur)++os++xs) (some ⟨p71,0,none⟩) 10 10 (2+2+4+4+2+2+2+2+os.length+xs.length) _ rfl (by simp[jn]) Kc (by first|exact Az (i:=0) (j:=0) (t:=38) (b:=p71) hm_ rfl rfl|(rw[show mc Ng ([⟨g29.a,(be 2 fr),g29.cap⟩,⟨g34.a,(be 2 to),g34.cap⟩,⟨g139.a,(be 4 sq),g139.cap⟩,⟨g144.a,(be 4 ak),g144.cap⟩,⟨some ⟨p57,0,none⟩,[(ho os.length),fl],2⟩,⟨g149.a,(be 2 wi),g149.cap⟩,⟨g154.a,(be 2 0),g154.cap⟩,⟨g159.a,(be 2 ur),g159.cap⟩,⟨oa,os,oc⟩,⟨a,xs,cap⟩]:List SV)=[sV g29 2,sV g34 2,sV g139 4,sV g144 4,Value.slice (some ⟨p57,0,none⟩) 2 2,sV g149 2,sV g154 2,sV g159 2,Value.slice oa os.length oc,Value.slice a xs.length cap] by(simp[mc,A8,By];try omega)];exact Az (i:=0) (j:=0) (t:=38) (b:=p71) hm_ rfl rfl)) (List.forall_mem_cons.2 ⟨(FS.at (i:=8) (t:=5) hm_ rfl (Aj ok30 E5)),(List.forall_mem_cons.2 ⟨(FS.at (i:=7) (t:=5) hm_ rfl (Aj ok35 E5)),(List.forall_mem_cons.2 ⟨(FS.at (i:=5) (t:=5) hm_ rfl (Aj ok140 E5)),(List.forall_mem_cons.2 ⟨(FS.at (i:=4) (t:=5) hm_ rfl (Aj ok145 E5)),(List.forall_mem_cons.2 ⟨(Az (i:=6) (j:=0) (t:=5) (b:=p57) hm_ rfl rfl),(List.forall_mem_cons.2 ⟨(FS.at (i:=3) (t:=5) hm_ rfl (Aj ok150 E5)),(List.forall_mem_cons.2 ⟨(FS.at (i:=2) (t:=5) hm_ rfl (Aj ok155 E5)),(List.forall_mem_cons.2 ⟨(FS.at (i:=1) (t:=5) hm_ rfl (Aj ok160 E5)),(List.forall_mem_cons.2 ⟨(hos.mem0 hm_),(List.forall_mem_cons.2 ⟨(hat.mem0 hm_),(fun _ h=>by cases h)⟩)⟩)⟩)⟩)⟩)⟩)⟩)⟩)⟩)⟩) I8 A5 A5))) (.inr fun _ _ h_=>h_.pick [10] Al rfl) (fun g164 hx168=>?_))
       obtain⟨ok165,nn166⟩:=hx168
       refine Wa.ys (v:=sV g164 (2+2+4+4+2+2+2+2+os.length+xs.length)) (i:=37) Ae Ae Ae Ae (fun _ h_=>h_.pick [10] Al rfl) rfl rfl rfl (Ys.p) (D1 Ae ?_)
       refine fun w_ h_=>hJ25 (g29,g34,g139,g144,p57,g149,g154,g159,p71,g164) _ w_ ⟨ok30,nn31,ok35,nn36,ok140,nn141,ok145,nn146,ok150,nn151,ok155,nn156,ok160,nn161,ok165,nn166⟩ Ae (h_.pick [0,1,2,3,4,7,5,6,8,9,10] Al rfl)
     ·refine Ch rfl rfl (Bd (mk:=fun b_=>.slice (some ⟨b_,0,none⟩) 2 2) (t:=5) (cs:=(Q2h fl os)) rfl (fun _=>kr)) (.inr fun _ _ h_=>h_.pick [2] Al rfl) (fun p57=>A3 (i:=7) Ae (Bv rfl rfl (Au [] [0,1,2] (fun w_ hm_ hl_=>Cv 2 to Ag _)) (.inr fun _ _ h_=>h_.pick [3] Al rfl) (fun g169 hx173=>?_)))
      obtain⟨ok170,nn171⟩:=hx173
      refine A3 (i:=11) Ae (Bv rfl rfl (Au [] [0,1,2,3] (fun w_ hm_ hl_=>Cv 4 sq Ag _)) (.inr fun _ _ h_=>h_.pick [4] Al rfl) (fun g174 hx178=>?_))
      obtain⟨ok175,nn176⟩:=hx178
      refine A3 (i:=15) Ae (Bv rfl rfl (Au [] [0,1,2,3,4] (fun w_ hm_ hl_=>Cv 4 ak Ag _)) (.inr fun _ _ h_=>h_.pick [5] Al rfl) (fun g179 hx183=>?_))
      obtain⟨ok180,nn181⟩:=hx183
      refine A3 (i:=25) Ae (Bv rfl rfl (Au [] [0,1,2,3,4,5] (fun w_ hm_ hl_=>Cv 2 wi Ag _)) (.inr fun _ _ h_=>h_.pick [6] Al rfl) (fun g184 hx188=>?_))
      obtain⟨ok185,nn186⟩:=hx188
      refine A3 (i:=26) Ae (Bv rfl rfl (Au [] [0,1,2,3,4,5,6] (fun w_ hm_ hl_=>Cv 2 0 Ag _)) (.inr fun _ _ h_=>h_.pick [7] Al rfl) (fun g189 hx193=>?_))
      obtain⟨ok190,nn191⟩:=hx193
      refine A3 (i:=30) Ae (Bv rfl rfl (Au [] [0,1,2,3,4,5,6,7] (fun w_ hm_ hl_=>Cv 2 ur Ag _)) (.inr fun _ _ h_=>h_.pick [8] Al rfl) (fun g194 hx198=>?_))
      obtain⟨ok195,nn196⟩:=hx198
      refine A3 (i:=35) Ae (Ch rfl rfl (Bd (mk:=fun b_=>.slice (some ⟨b_,0,none⟩) 10 10) (t:=38) (cs:=[sV g29 2,sV g169 2,sV g174 4,sV g179 4,sL (some ⟨p57,0,none⟩) 2 2,sV g184 2,sV g189 2,sV g194 2,sL oa os.length oc,sL a xs.length cap]) rfl (fun _=>kr)) (.inr fun _ _ h_=>h_.pick [9] Al rfl) (fun p71=>?_))
      refine A3 (i:=36) Ae (Bv rfl rfl (Au [] [0,1,2,3,4,5,6,7,8,9] (fun w_ hm_ hl_=>(Ed [⟨g29.a,(be 2 fr),g29.cap⟩,⟨g169.a,(be 2 to),g169.cap⟩,⟨g174.a,(be 4 sq),g174.cap⟩,⟨g179.a,(be 4 ak),g179.cap⟩,⟨some ⟨p57,0,none⟩,[(ho os.length),fl],2⟩,⟨g184.a,(be 2 wi),g184.cap⟩,⟨g189.a,(be 2 0),g189.cap⟩,⟨g194.a,(be 2 ur),g194.cap⟩,⟨oa,os,oc⟩,⟨a,xs,cap⟩] ((be 2 fr)++(be 2 to)++(be 4 sq)++(be 4 ak)++[(ho os.length),fl]++(be 2 wi)++(be 2 0)++(be 2 ur)++os++xs) (some ⟨p71,0,none⟩) 10 10 (2+2+4+4+2+2+2+2+os.length+xs.length) _ rfl (by simp[jn]) Kc (by first|exact Az (i:=0) (j:=0) (t:=38) (b:=p71) hm_ rfl rfl|(rw[show mc Ng ([⟨g29.a,(be 2 fr),g29.cap⟩,⟨g169.a,(be 2 to),g169.cap⟩,⟨g174.a,(be 4 sq),g174.cap⟩,⟨g179.a,(be 4 ak),g179.cap⟩,⟨some ⟨p57,0,none⟩,[(ho os.length),fl],2⟩,⟨g184.a,(be 2 wi),g184.cap⟩,⟨g189.a,(be 2 0),g189.cap⟩,⟨g194.a,(be 2 ur),g194.cap⟩,⟨oa,os,oc⟩,⟨a,xs,cap⟩]:List SV)=[sV g29 2,sV g169 2,sV g174 4,sV g179 4,Value.slice (some ⟨p57,0,none⟩) 2 2,sV g184 2,sV g189 2,sV g194 2,Value.slice oa os.length oc,Value.slice a xs.length cap] by(simp[mc,A8,By];try omega)];exact Az (i:=0) (j:=0) (t:=38) (b:=p71) hm_ rfl rfl)) (List.forall_mem_cons.2 ⟨(FS.at (i:=8) (t:=5) hm_ rfl (Aj ok30 E5)),(List.forall_mem_cons.2 ⟨(FS.at (i:=6) (t:=5) hm_ rfl (Aj ok170 E5)),(List.forall_mem_cons.2 ⟨(FS.at (i:=5) (t:=5) hm_ rfl (Aj ok175 E5)),(List.forall_mem_cons.2 ⟨(FS.at (i:=4) (t:=5) hm_ rfl (Aj ok180 E5)),(List.forall_mem_cons.2 ⟨(Az (i:=7) (j:=0) (t:=5) (b:=p57) hm_ rfl rfl),(List.forall_mem_cons.2 ⟨(FS.at (i:=3) (t:=5) hm_ rfl (Aj ok185 E5)),(List.forall_mem_cons.2 ⟨(FS.at (i:=2) (t:=5) hm_ rfl (Aj ok190 E5)),(List.forall_mem_cons.2 ⟨(FS.at (i:=1) (t:=5) hm_ rfl (Aj ok195 E5)),(List.forall_mem_cons.2 ⟨(hos.mem0 hm_),(List.forall_mem_cons.2 ⟨(hat.mem0 hm_),(fun _ h=>by cases h)⟩)⟩)⟩)⟩)⟩)⟩)⟩)⟩)⟩)⟩) I8 A5 A5))) (.inr fun _ _ h_=>h_.pick [10] Al rfl) (fun g199 hx203=>?_))
      obtain⟨ok200,nn201⟩:=hx203
      refine Wa.ys (v:=sV g199 (2+2+4+4+2+2+2+2+os.length+xs.length)) (i:=37) Ae Ae Ae Ae (fun _ h_=>h_.pick [10] Al rfl) rfl rfl rfl (Ys.p) (D1 Ae ?_)
      refine fun w_ h_=>hJ25 (g29,g169,g174,g179,p57,g184,g189,g194,p71,g199) _ w_ ⟨ok30,nn31,ok170,nn171,ok175,nn176,ok180,nn181,ok185,nn186,ok190,nn191,ok195,nn196,ok200,nn201⟩ Ae (h_.pick [0,1,2,3,4,8,5,6,7,9,10] Al rfl)
    ·refine Ch rfl rfl (Bd (mk:=fun b_=>.slice (some ⟨b_,0,none⟩) 2 2) (t:=5) (cs:=(Q2h fl os)) rfl (fun _=>kr)) (.inr fun _ _ h_=>h_.pick [1] Al rfl) (fun p57=>A3 (i:=3) Ae (Bv rfl rfl (Au [] [0,1] (fun w_ hm_ hl_=>Cv 2 fr Ag _)) (.inr fun _ _ h_=>h_.pick [2] Al rfl) (fun g204 hx208=>?_)))
     obtain⟨ok205,nn206⟩:=hx208
     refine A3 (i:=7) Ae (Bv rfl rfl (Au [] [0,1,2] (fun w_ hm_ hl_=>Cv 2 to Ag _)) (.inr fun _ _ h_=>h_.pick [3] Al rfl) (fun g209 hx213=>?_))
     obtain⟨ok210,nn211⟩:=hx213
     refine A3 (i:=11) Ae (Bv rfl rfl (Au [] [0,1,2,3] (fun w_ hm_ hl_=>Cv 4 sq Ag _)) (.inr fun _ _ h_=>h_.pick [4] Al rfl) (fun g214 hx218=>?_))
     obtain⟨ok215,nn216⟩:=hx218
     refine A3 (i:=15) Ae (Bv rfl rfl (Au [] [0,1,2,3,4] (fun w_ hm_ hl_=>Cv 4 ak Ag _)) (.inr fun _ _ h_=>h_.pick [5] Al rfl) (fun g219 hx223=>?_))
     obtain⟨ok220,nn221⟩:=hx223
     refine A3 (i:=25) Ae (Bv rfl rfl (Au [] [0,1,2,3,4,5] (fun w_ hm_ hl_=>Cv 2 wi Ag _)) (.inr fun _ _ h_=>h_.pick [6] Al rfl) (fun g224 hx228=>?_))
     obtain⟨ok225,nn226⟩:=hx228
     refine A3 (i:=26) Ae (Bv rfl rfl (Au [] [0,1,2,3,4,5,6] (fun w_ hm_ hl_=>Cv 2 0 Ag _)) (.inr fun _ _ h_=>h_.pick [7] Al rfl) (fun g229 hx233=>?_))
     obtain⟨ok230,nn231⟩:=hx233
     refine A3 (i:=30) Ae (Bv rfl rfl (Au [] [0,1,2,3,4,5,6,7] (fun w_ hm_ hl_=>Cv 2 ur Ag _)) (.inr fun _ _ h_=>h_.pick [8] Al rfl) (fun g234 hx238=>?_))
     obtain⟨ok235,nn236⟩:=hx238
     refine A3 (i:=35) Ae (Ch rfl rfl (Bd (mk:=fun b_=>.slice (some ⟨b_,0,none⟩) 10 10) (t:=38) (cs:=[sV g204 2,sV g209 2,sV g214 4,sV g219 4,sL (some ⟨p57,0,none⟩) 2 2,sV g224 2,sV g229 2,sV g234 2,sL oa os.length oc,sL a xs.length cap]) rfl (fun _=>kr)) (.inr fun _ _ h_=>h_.pick [9] Al rfl) (fun p71=>?_))
     refine A3 (i:=36) Ae (Bv rfl rfl (Au [] [0,1,2,3,4,5,6,7,8,9] (fun w_ hm_ hl_=>(Ed [⟨g204.a,(be 2 fr),g204.cap⟩,⟨g209.a,(be 2 to),g209.cap⟩,⟨g214.a,(be 4 sq),g214.cap⟩,⟨g219.a,(be 4 ak),g219.cap⟩,⟨some ⟨p57,0,none⟩,[(ho os.length),fl],2⟩,⟨g224.a,(be 2 wi),g224.cap⟩,⟨g229.a,(be 2 0),g229.cap⟩,⟨g234.a,(be 2 ur),g234.cap⟩,⟨oa,os,oc⟩,⟨a,xs,cap⟩] ((be 2 fr)++(be 2 to)++(be 4 sq)++(be 4 ak)++[(ho os.length),fl]++(be 2 wi)++(be 2 0)++(be 2 ur)++os++xs) (some ⟨p71,0,none⟩) 10 10 (2+2+4+4+2+2+2+2+os.length+xs.length) _ rfl (by simp[jn]) Kc (by first|exact Az (i:=0) (j:=0) (t:=38) (b:=p71) hm_ rfl rfl|(rw[show mc Ng ([⟨g204.a,(be 2 fr),g204.cap⟩,⟨g209.a,(be 2 to),g209.cap⟩,⟨g214.a,(be 4 sq),g214.cap⟩,⟨g219.a,(be 4 ak),g219.cap⟩,⟨some ⟨p57,0,none⟩,[(ho os.length),fl],2⟩,⟨g224.a,(be 2 wi),g224.cap⟩,⟨g229.a,(be 2 0),g229.cap⟩,⟨g234.a,(be 2 ur),g234.cap⟩,⟨oa,os,oc⟩,⟨a,xs,cap⟩]:List SV)=[sV g204 2,sV g209 2,sV g214 4,sV g219 4,Value.slice (some ⟨p57,0,none⟩) 2 2,sV g224 2,sV g229 2,sV g234 2,Value.slice oa os.length oc,Value.slice a xs.length cap] by(simp[mc,A8,By];try omega)];exact Az (i:=0) (j:=0) (t:=38) (b:=p71) hm_ rfl rfl)) (List.forall_mem_cons.2 ⟨(FS.at (i:=7) (t:=5) hm_ rfl (Aj ok205 E5)),(List.forall_mem_cons.2 ⟨(FS.at (i:=6) (t:=5) hm_ rfl (Aj ok210 E5)),(List.forall_mem_cons.2 ⟨(FS.at (i:=5) (t:=5) hm_ rfl (Aj ok215 E5)),(List.forall_mem_cons.2 ⟨(FS.at (i:=4) (t:=5) hm_ rfl (Aj ok220 E5)),(List.forall_mem_cons.2 ⟨(Az (i:=8) (j:=0) (t:=5) (b:=p57) hm_ rfl rfl),(List.forall_mem_cons.2 ⟨(FS.at (i:=3) (t:=5) hm_ rfl (Aj ok225 E5)),(List.forall_mem_cons.2 ⟨(FS.at (i:=2) (t:=5) hm_ rfl (Aj ok230 E5)),(List.forall_mem_cons.2 ⟨(FS.at (i:=1) (t:=5) hm_ rfl (Aj ok235 E5)),(List.forall_mem_cons.2 ⟨(hos.mem0 hm_),(List.forall_mem_cons.2 ⟨(hat.mem0 hm_),(fun _ h=>by cases h)⟩)⟩)⟩)⟩)⟩)⟩)⟩)⟩)⟩)⟩) I8 A5 A5))) (.inr fun _ _ h_=>h_.pick [10] Al rfl) (fun g239 hx243=>?_))
     obtain⟨ok240,nn241⟩:=hx243
     refine Wa.ys (v:=sV g239 (2+2+4+4+2+2+2+2+os.length+xs.length)) (i:=37) Ae Ae Ae Ae (fun _ h_=>h_.pick [10] Al rfl) rfl rfl rfl (Ys.p) (D1 Ae ?_)
     refine fun w_ h_=>hJ25 (g204,g209,g214,g219,p57,g224,g229,g234,p71,g239) _ w_ ⟨ok205,nn206,ok210,nn211,ok215,nn216,ok220,nn221,ok225,nn226,ok230,nn231,ok235,nn236,ok240,nn241⟩ Ae (h_.pick [0,1,2,3,4,9,5,6,7,8,10] Al rfl)
   ·obtain⟨g25,g30,g35,g40,p57,g45,g50,g55,p71,g60⟩:=z28
    refine hK24 _ _ _ ?_
    obtain⟨ok26,nn27,ok31,nn32,ok36,nn37,ok41,nn42,ok46,nn47,ok51,nn52,ok56,nn57,ok61,nn62⟩:=hp27
    refine Ad (fun K244 hK244=>Aa (Ab 5 (Ax rfl (Au [] [0,1,2,3,4,5,6,7,8,9,10] (fun w_ hm_ hl_=>(L3 s d (6:UInt8) (2+2+4+4+2+2+2+2+os.length+xs.length) _ Ag Ag Ag))) (fun g245 ok246=>Ab 1 ?_))))
    refine Ai rfl (Bd (mk:=fun b_=>.slice (some ⟨b_,0,none⟩) 2 2) (t:=38) (cs:=[sV g245 12,sV g60 (2+2+4+4+2+2+2+2+os.length+xs.length)]) rfl (fun _=>kr)) (fun p80=>?_)
    have hk248:=Kt (((Eg s d (6:UInt8) (2+2+4+4+2+2+2+2+os.length+xs.length))++((be 2 fr)++(be 2 to)++(be 4 sq)++(be 4 ak)++[(ho os.length),fl]++(be 2 wi)++(be 2 0)++(be 2 ur)++os++xs)))
    refine B0 (v:=nV .u16 (Dy ((Eg s d (6:UInt8) (2+2+4+4+2+2+2+2+os.length+xs.length))++((be 2 fr)++(be 2 to)++(be 4 sq)++(be 4 ak)++[(ho os.length),fl]++(be 2 wi)++(be 2 0)++(be 2 ur)++os++xs)))) (A9 (fun w_ hm_=>(Sj [⟨g245.a,(Eg s d (6:UInt8) (2+2+4+4+2+2+2+2+os.length+xs.length)),g245.cap⟩,⟨g60.a,((be 2 fr)++(be 2 to)++(be 4 sq)++(be 4 ak)++[(ho os.length),fl]++(be 2 wi)++(be 2 0)++(be 2 ur)++os++xs),g60.cap⟩] ((Eg s d (6:UInt8) (2+2+4+4+2+2+2+2+os.length+xs.length))++((be 2 fr)++(be 2 to)++(be 4 sq)++(be 4 ak)++[(ho os.length),fl]++(be 2 wi)++(be 2 0)++(be 2 ur)++os++xs)) (some ⟨p80,0,none⟩) 2 2 (12+(2+2+4+4+2+2+2+2+os.length+xs.length)) _ rfl (by simp[jn]) Kc (by first|exact Az (i:=0) (j:=0) (t:=38) (b:=p80) hm_ rfl rfl|(rw[show mc Ng ([⟨g245.a,(Eg s d (6:UInt8) (2+2+4+4+2+2+2+2+os.length+xs.length)),g245.cap⟩,⟨g60.a,((be 2 fr)++(be 2 to)++(be 4 sq)++(be 4 ak)++[(ho os.length),fl]++(be 2 wi)++(be 2 0)++(be 2 ur)++os++xs),g60.cap⟩]:List SV)=[sV g245 12,sV g60 (2+2+4+4+2+2+2+2+os.length+xs.length)] by(simp[mc,A8,By];try omega)];exact Az (i:=0) (j:=0) (t:=38) (b:=p80) hm_ rfl rfl)) (List.forall_mem_cons.2 ⟨(FS.at (i:=1) (t:=5) hm_ rfl (Aj ok246 (by rw[Da,By]))),(List.forall_mem_cons.2 ⟨(FS.at (i:=2) (t:=5) hm_ rfl (Aj ok61 Mb)),(fun _ h=>by cases h)⟩)⟩) I8 A5 A5))) (Ax rfl (Au [2] [0,1,3,4,5,6,7,8,9,10,11,12] (fun w_ hm_ hl_=>(Iy g60 ((be 2 fr)++(be 2 to)++(be 4 sq)++(be 4 ak)++[(ho os.length),fl]++(be 2 wi)++(be 2 0)++(be 2 ur)++os++xs) (2+2+4+4+2+2+2+2+os.length+xs.length) 16 (Dy ((Eg s d (6:UInt8) (2+2+4+4+2+2+2+2+os.length+xs.length))++((be 2 fr)++(be 2 to)++(be 4 sq)++(be 4 ak)++[(ho os.length),fl]++(be 2 wi)++(be 2 0)++(be 2 ur)++os++xs))) _ _ Xw hl_ ok61 (nn62 A5) M8 M8 Ag))) (fun g249 hx253=>?_))
    obtain⟨ok250,nn251⟩:=hx253
    refine Ab 2 (Ac (hK244 _ _ _ (Ap [0] Al rfl (Aq (fn:=Tryz.f92) rfl ?_))))
    have hE:tE os.length xs.length=0:=by unfold tE;rw[if_neg Ag,if_neg Ag]
    have hEx:((be 2 fr)++(be 2 to)++(be 4 sq)++(be 4 ak)++[(ho os.length),fl]++(be 2 wi)++(be 2 0)++(be 2 ur)++os++xs)=tX fr to sq ak fl wi 0 ur os xs:=Aju fr to sq ak fl wi 0 ur os xs
    have hLn:2+2+4+4+2+2+2+2+os.length+xs.length=20+(os.length+xs.length):=by omega
    have hCx:(Dy ((Eg s d (6:UInt8) (2+2+4+4+2+2+2+2+os.length+xs.length))++((be 2 fr)++(be 2 to)++(be 4 sq)++(be 4 ak)++[(ho os.length),fl]++(be 2 wi)++(be 2 0)++(be 2 ur)++os++xs)))=tC s d fr to sq ak fl wi ur os xs:=by unfold tC;rw[hLn,hEx]
    have hB:tB s d fr to sq ak fl wi ur os xs=Hl ((be 2 fr)++(be 2 to)++(be 4 sq)++(be 4 ak)++[(ho os.length),fl]++(be 2 wi)++(be 2 0)++(be 2 ur)++os++xs) 16 (Dy ((Eg s d (6:UInt8) (2+2+4+4+2+2+2+2+os.length+xs.length))++((be 2 fr)++(be 2 to)++(be 4 sq)++(be 4 ak)++[(ho os.length),fl]++(be 2 wi)++(be 2 0)++(be 2 ur)++os++xs))):=by rw[hCx,hEx,Af3];unfold tB;rw[if_neg Ag,if_neg Ag]
    have hn:(tB s d fr to sq ak fl wi ur os xs).length=2+2+4+4+2+2+2+2+os.length+xs.length:=by rw[Ajv Ag Ag];first|done|omega
    exact fun w_ hS_=>B9 rfl (Aw (sV g249 (2+2+4+4+2+2+2+2+os.length+xs.length))) (Aw (iV .i64 0)) hS_ ⟨g249,(by rw[hn];exact ok250),congrArg Ending.returned ((by rw[hn,hE])),(Mem.cast (by rw[hB];rfl) (hS_.pick [0] Al rfl))⟩
theorem Af5(s d fr to sq ak:Nat)(fl:UInt8)(wi ur:Nat)(os xs:List UInt8)(oa a:Option Addr)(oc cap:Nat)(l1 l2:Nat)(w:World)(h1:l1=os.length)(h2:l2=xs.length)(hos:At w oa (Ci os))(hat:At w a (Ci xs))(hs:s<4294967296)(hd:d<4294967296)(hf:fr<65536)(ht:to<65536)(hq:sq<4294967296)(hk:ak<4294967296)(hw:wi<65536)(hu:ur<65536)(hol:os.length≤1000000000000000)(hl:xs.length≤1000000000000000)(hoc:os.length≤oc)(hlc:xs.length≤cap):Calls Tryz.prog 92 #[.int .u32 (s:Int),.int .u32 (d:Int),Value.agg ([Value.int .u16 (fr:Int),Value.int .u16 (to:Int),Value.int .u32 (sq:Int),Value.int .u32 (ak:Int),Value.int .u8 (fl.toNat:Int),Value.int .u16 (wi:Int),Value.int .u16 (ur:Int),sL oa l1 oc,sL a l2 cap]).toArray] w (Bj w (fun g:FS=>g.ok 1 (tB s d fr to sq ak fl wi ur os xs).length) (fun g=>.tuple #[.slice g.a (tB s d fr to sq ak fl wi ur os xs).length g.cap,.int .i64 (tE os.length xs.length)]) [] (fun g=>[g.seg 5 (Ci (tB s d fr to sq ak fl wi ur os xs))])):=by
  subst h1;subst h2;exact Ajw s d fr to sq ak fl wi ur os xs oa a oc cap w hos hat hs hd hf ht hq hk hw hu hol hl hoc hlc
structure Told(pr:UInt8)(s d:Nat)(xs Z:List UInt8):Prop where
  c:inC Z=false
  p:Z.getD 9 0=pr
  s:a4 Z 12=s
  d:a4 Z 16=d
  f:w2 Z 20=w2 xs 0
  t:w2 Z 22=w2 xs 2
  k:Z.getD 20 0=xs.getD 0 0
  o:Z.getD 21 0=xs.getD 1 0
  i:w2 Z 24=w2 xs 4
theorem Ag0{xs:List UInt8}(h:mR xs=0):mg xs=true∧8≤xs.length:=by
  refine⟨by unfold mg;rw[h];rfl,?_⟩
  by_cases hl:xs.length<8
  · unfold mR at h;rw[if_pos hl]at h;cases h
  · omega
theorem Ag1{xs:List UInt8}(h:mR xs=0)(k:Nat):mT xs k=xs.getD k 0:=by unfold mT;rw[(Ag0 h).1];rfl
inductive Goes(pr:UInt8)(s d:Nat)(xs:List UInt8):Prop
  |tcp (h6:pr=6) (hR:tR s d xs=0) (h8:20≤xs.length)
  |udp (h17:pr=17) (hR:uR s d xs=0) (h8:8≤xs.length)
  |query (h1:pr=1) (hR:mR xs=0) (hQ:P0 (xs.getD 0 0) (xs.getD 1 0)=true) (hm:Kx xs=true) (h8:8≤xs.length)
  |err (h1:pr=1) (hR:mR xs=0) (hE:Kf xs=true) (hm:Kx xs=false) (h8:8≤xs.length)
theorem Af6{pr:UInt8}{s d:Nat}{xs:List UInt8}(h:Ij pr s d xs=0):Goes pr s d xs:=by
  unfold Ij at h
  cases h6:G1 pr
  · cases h17:Mw pr
    · cases h1:Yz pr
      · rw[h6,h17,h1]at h;cases h
      · have e1:pr=1:=UInt8.toNat_inj.1 (by have z_:(((pr.toNat:Nat):Int)==1)=true:=h1;have y_:=beq_iff_eq.1 z_;show pr.toNat=1;omega)
        rw[h6,h17,h1]at h
        have h:Pm xs=0:=h
        have hz:mR xs=0:=by
          unfold Pm at h;by_cases hz:mR xs=0
          · exact hz
          · rw[show(mR xs==0)=false from beq_eq_false_iff_ne.2 hz]at h;exact h
        have hq:=Ag0 hz
        cases hm:Kx xs
        · cases hr:Kf xs
          · unfold Pm at h;rw[hz,hm,hr]at h;cases h
          · exact .err e1 hz hr hm hq.2
        · refine .query e1 hz ?_ hm hq.2
          unfold Kx at hm;rw[hz,Ag1 hz,Ag1 hz]at hm;simpa using hm
    · rw[h6,h17]at h
      refine .udp (UInt8.toNat_inj.1 (by have z_:(((pr.toNat:Nat):Int)==17)=true:=h17;have y_:=beq_iff_eq.1 z_;show pr.toNat=17;omega)) h ?_
      by_cases hl:xs.length<8
      · simp only[cond_true,cond_false]at h;unfold uR at h;rw[if_pos hl]at h;cases h
      · omega
  · rw[h6]at h
    refine .tcp (UInt8.toNat_inj.1 (by have z_:(((pr.toNat:Nat):Int)==6)=true:=h6;have y_:=beq_iff_eq.1 z_;show pr.toNat=6;omega)) h ?_
    by_cases hl:xs.length<20
    · simp only[cond_true,cond_false]at h;unfold tR at h;rw[if_pos hl]at h;cases h
    · omega
theorem Sz{pr:UInt8}{s d:Nat}{xs:List UInt8}(h:Ij pr s d xs=0):L9 pr s d xs=true:=by unfold L9;rw[h];rfl
theorem Goes.le{pr:UInt8}{s d:Nat}{xs:List UInt8}(h:Goes pr s d xs):8≤xs.length:=by cases h<;>omega
theorem S0(s d:Nat)(xs:List UInt8)(k:Nat):tF s d xs k<65536:=by
  unfold tF;cases tg s d xs
  · show(0:Nat)<_;decide
  · exact Dx xs k
theorem Acc(s d:Nat)(xs:List UInt8)(k:Nat):tW s d xs k<4294967296:=by
  unfold tW;cases tg s d xs
  · show(0:Nat)<_;decide
  · exact Xp xs k
theorem Af7(s d:Nat)(xs:List UInt8):tE (tO s d xs).length (tD s d xs).length=0:=by
  cases hg:tg s d xs
  · unfold tO tD;rw[hg];rfl
  · have hR:tR s d xs=0:=by unfold tg at hg;simpa using hg
    unfold tR at hR
    split at hR
    · cases hR
    · split at hR
      · cases hR
      · split at hR
        · cases hR
        · rename_i h1 h2 h3
          have hb:=UInt8.toNat_lt (xs.getD 12 0)
          have hK:tK xs=4*((xs.getD 12 0).toNat/16):=rfl
          have ho:(tO s d xs).length=tK xs-20:=by unfold tO;rw[hg];simp only[cond_true,List.length_take,List.length_drop];omega
          have hd:(tD s d xs).length=xs.length-tK xs:=by unfold tD;rw[hg];simp only[cond_true,List.length_drop]
          rw[ho,hd];unfold tE;rw[if_neg Ag,if_neg Ag]
theorem Af8(s d:Nat)(xs:List UInt8):uE (uD s d xs).length=0:=by
  cases hg:ug s d xs
  · unfold uD;rw[hg];rfl
  · have hR:uR s d xs=0:=by unfold ug at hg;simpa using hg
    unfold uR at hR
    split at hR
    · cases hR
    · split at hR
      · cases hR
      · have:(uD s d xs).length≤xs.length-8:=by unfold uD;rw[hg];simp only[cond_true,List.length_take,List.length_drop];omega
        unfold uE;rw[if_neg Ag]
theorem S1(xs:List UInt8):uE (mD xs).length=0:=by
  cases hg:mg xs
  · unfold mD;rw[hg];rfl
  · have hR:mR xs=0:=by unfold mg at hg;simpa using hg
    unfold mR at hR
    split at hR
    · cases hR
    · split at hR
      · cases hR
      · have:(mD xs).length=xs.length-8:=by unfold mD;rw[hg];simp only[cond_true,List.length_drop]
        unfold uE;rw[if_neg Ag]
theorem Ajx(s d:Nat)(xs:List UInt8):(tO s d xs).length≤xs.length:=by
  unfold tO;cases tg s d xs
  · simp
  · simp only[cond_true,List.length_take,List.length_drop];omega
theorem Ajy(s d:Nat)(xs:List UInt8):(tD s d xs).length≤xs.length:=by
  unfold tD;cases tg s d xs
  · simp
  · simp only[cond_true,List.length_drop];omega
theorem Ajz(s d:Nat)(xs:List UInt8):(uD s d xs).length≤xs.length:=by
  unfold uD;cases ug s d xs
  · simp
  · simp only[cond_true,List.length_take,List.length_drop];omega
def Td(pr:UInt8)(s d:Nat)(xs:List UInt8)(fp:UInt8):Bool:= !(Ij pr s d xs !=0)&& !(((fp.toNat:Nat):Int) !=((Gn pr s d xs).toNat:Int))
def Xq(pr:UInt8)(s d:Nat)(xs:List UInt8)(fp:UInt8):Int:=bif Ij pr s d xs !=0 then Ij pr s d xs else bif (fp.toNat:Int) !=((Gn pr s d xs).toNat:Int)then 1 else 0
def rId(n i:Nat):Nat:=n%65536|||i*65536%4294967296
def Vv(pr:UInt8)(s d:Nat)(xs:List UInt8)(fp:UInt8)(fs fd ff ft:Nat):List UInt8:=
  bif Td pr s d xs fp then(bif G1 pr then tB fs fd ff ft (tW s d xs 4) (tW s d xs 8) (tL s d xs) (tF s d xs 14) (tF s d xs 18) (tO s d xs) (tD s d xs)else
    bif Mw pr then uB fs fd ff ft (uP s d xs) (uD s d xs)else mB (mT xs 0) (mT xs 1) (rId (mN xs) (bif !(I4 (mT xs 0))then ft else ff)) (mD xs))else []
theorem Acd(s d:Nat)(xs:List UInt8)(k:Nat):uF s d xs k<65536:=by
  unfold uF;cases ug s d xs
  · show(0:Nat)<_;decide
  · exact Dx xs k
theorem Ace(xs:List UInt8):msI xs<65536:=by unfold msI;omega
theorem Acf(pr:UInt8)(s d:Nat)(xs:List UInt8):Hu pr s d xs<65536:=by
  unfold Hu Sw
  have h1:=S0 s d xs 0;have h2:=Acd s d xs 0;have h3:=Ajo (mD xs);have h4:=Ace xs
  cases L9 pr s d xs<;>cases G1 pr<;>cases Mw pr<;>cases Kf xs<;>cases Kx xs<;>simp only[cond_true,cond_false]<;>first|omega|exact Su Ag Ag
theorem Vw(pr:UInt8)(s d:Nat)(xs:List UInt8):Hv pr s d xs<65536:=by
  unfold Hv Sx
  have h1:=S0 s d xs 2;have h2:=Acd s d xs 2;have h3:=Ajn (mD xs);have h4:=Ace xs
  cases L9 pr s d xs<;>cases G1 pr<;>cases Mw pr<;>cases Kf xs<;>cases Kx xs<;>simp only[cond_true,cond_false]<;>first|omega|exact Su Ag Ag
theorem Acg{pr:UInt8}{s d:Nat}{xs:List UInt8}(hs:s<4294967296):E4 pr s d xs<4294967296:=by
  unfold E4 L7
  have h3:=Aca (mD xs) 16
  cases L9 pr s d xs<;>cases G1 pr<;>cases Mw pr<;>cases Kf xs<;>simp only[cond_true,cond_false]<;>omega
theorem Ach{pr:UInt8}{s d:Nat}{xs:List UInt8}(hd:d<4294967296):E9 pr s d xs<4294967296:=by
  unfold E9 L7
  have h3:=Aca (mD xs) 12
  cases L9 pr s d xs<;>cases G1 pr<;>cases Mw pr<;>cases Kf xs<;>simp only[cond_true,cond_false]<;>omega
structure Ends(pr:UInt8)(s d:Nat)(xs:List UInt8)(k:Int)(fr to:Nat):Prop where
  ee:Ij pr s d xs=0
  ek:Ew pr s d xs=k
  ep:Gn pr s d xs=pr
  es:E4 pr s d xs=s
  ed:E9 pr s d xs=d
  ef:Hu pr s d xs=fr
  et:Hv pr s d xs=to
theorem Amh{s d fr to:Nat}{xs:List UInt8}(hR:tR s d xs=0)(hf:tF s d xs 0=fr)(ht:tF s d xs 2=to):Ends 6 s d xs 1 fr to:=by
  have hE:Ij 6 s d xs=0:=hR
  have hZ:=Sz hE
  exact⟨hE,by unfold Ew;rw[hZ];rfl,by unfold Gn;rw[hZ];rfl,by unfold E4;rw[hZ];rfl,by unfold E9;rw[hZ];rfl,by unfold Hu;rw[hZ];exact hf,by unfold Hv;rw[hZ];exact ht⟩
theorem Ami{s d fr to:Nat}{xs:List UInt8}(hR:uR s d xs=0)(hf:uF s d xs 0=fr)(ht:uF s d xs 2=to):Ends 17 s d xs 1 fr to:=by
  have hE:Ij 17 s d xs=0:=hR
  have hZ:=Sz hE
  exact⟨hE,by unfold Ew;rw[hZ];rfl,by unfold Gn;rw[hZ];rfl,by unfold E4;rw[hZ];rfl,by unfold E9;rw[hZ];rfl,by unfold Hu;rw[hZ];exact hf,by unfold Hv;rw[hZ];exact ht⟩
theorem Aj0{s d:Nat}{xs:List UInt8}(hR:mR xs=0)(hq:P0 (mT xs 0) (mT xs 1)=true):Ends 1 s d xs 2 (Pp (I4 (mT xs 0)) (msI xs) 0) (Pp (I4 (mT xs 0)) 0 (msI xs)):=by
  have hQ:Kx xs=true:=by unfold Kx;rw[hR,hq];rfl
  have hr:Kf xs=false:=by unfold Kf;rw[hR,hq];rfl
  have hE:Ij 1 s d xs=0:=by show Pm xs=0;unfold Pm;rw[hR,hQ];rfl
  have hZ:=Sz hE
  refine⟨hE,?_,?_,?_,?_,?_,?_⟩
  · unfold Ew;rw[hZ];show Tc xs=2;unfold Tc;rw[hQ];rfl
  · unfold Gn;rw[hZ];show I5 1 xs=_;unfold I5;rw[hr];rfl
  · unfold E4;rw[hZ];show L7 s 16 xs=_;unfold L7;rw[hr];rfl
  · unfold E9;rw[hZ];show L7 d 12 xs=_;unfold L7;rw[hr];rfl
  · unfold Hu;rw[hZ];show Sw 0 xs=_;unfold Sw;rw[hr,hQ];rfl
  · unfold Hv;rw[hZ];show Sx 0 xs=_;unfold Sx;rw[hr,hQ];rfl
abbrev Q2i(p4:Nat):List Blk:=[cb p4 M9 40]
abbrev Q2j(d s:Nat)(pr:UInt8)(xs:List UInt8):List Value:=[nV .u8 ((Gn pr s d xs).toNat),nV .u32 (E4 pr s d xs),nV .u32 (E9 pr s d xs),nV .u16 (Hu pr s d xs),nV .u16 (Hv pr s d xs)]
abbrev Q2k:List Value:=M9
theorem Amj(tt pr:UInt8)(id s d:Nat)(xs:List UInt8)(a:Option Addr)(cap:Nat)(fp:UInt8)(fs fd ff ft:Nat)(w:World)(hk:Ew pr s d xs≠3)(hfs:fs<4294967296)(hfd:fd<4294967296)(hff:ff<65536)(hft:ft<65536)(hat:At w a (Ci xs))(hi:id<65536)(hs:s<4294967296)(hd:d<4294967296)(hl:xs.length≤100000)(hlc:xs.length≤cap):Calls Tryz.prog 45 #[aV [nV .u8 tt.toNat,nV .u8 pr.toNat,nV .u16 id,nV .u32 s,nV .u32 d,sL a xs.length cap],aV [nV .u8 fp.toNat,nV .u32 fs,nV .u32 fd,nV .u16 ff,nV .u16 ft]] w (Bj w (fun g:FS=>g.ok 1 (Vv pr s d xs fp fs fd ff ft).length) (fun g=>.tuple #[.agg ([nV .u8 ((anU (Td pr s d xs fp) tt).toNat),nV .u8 ((anU (Td pr s d xs fp) pr).toNat),nV .u16 (anN (Td pr s d xs fp) id),nV .u32 (anN (Td pr s d xs fp) fs),nV .u32 (anN (Td pr s d xs fp) fd),sV g ((Vv pr s d xs fp fs fd ff ft).length)]).toArray,.int .i64 (Xq pr s d xs fp)]) [] (fun g=>[g.seg 5 (Ci (Vv pr s d xs fp fs fd ff ft))])):=by
 have hmn_:=Ab3 xs;have hml_:=Ab8 xs;have ht14_:=S0 s d xs 14;have ht18_:=S0 s d xs 18;have ht4_:=Acc s d xs 4;have ht8_:=Acc s d xs 8;have htO_:=Ajx s d xs;have htD_:=Ajy s d xs;have huD_:=Ajz s d xs
 refine Ar (M:=[]) (LL:=[]) (n:=167) Tryz.func45 rfl rfl A5 (Mem.refl _) (Ad (fun K1 hK1=>?_))
 refine Aa (Ai rfl (Bx [nV .u8 tt.toNat,nV .u8 pr.toNat,nV .u16 id,nV .u32 s,nV .u32 d,sL a xs.length cap] rfl) (fun p2=>?_))
 refine Ai rfl (Bx [nV .u8 fp.toNat,nV .u32 fs,nV .u32 fd,nV .u16 ff,nV .u16 ft] rfl) (fun p3=>Ai rfl (Bc Tryz.zeroValue40) (fun p4=>?_))
 refine Ab 1 (Ac (hK1 _ _ _ (Ad (fun K3 hK3=>Aa ?_))))
 refine Ah (A0 p2 0 2 0 [nV .u8 tt.toNat,nV .u8 pr.toNat,nV .u16 id,nV .u32 s,nV .u32 d,sL a xs.length cap] Tryz.isAgg40 Tryz.sizeOf40) (B0 (v:=Value.tuple #[aV (Q2j d s pr xs),iV .i64 (Ew pr s d xs),iV .i64 (Ij pr s d xs)]) (A9 (fun w_ hm_=>(Agz tt pr id s d xs a cap xs.length _ I7 (hat.mem0 hm_) Rr Rr Rr Ef Ef))) (Ab 4 (Ai rfl (Bc Tryz.zeroValue47) (fun p6=>Ai rfl (A4 p6 0 0 0 (Q2j d s pr xs) Tryz.sizeOf47 rfl rfl) (fun _=>?_)))))
 refine Ab 2 (Ac (hK3 _ _ _ (Ad (fun K5 hK5=>W.block ?_))))
 refine Ad (fun K6 hK6=>Aa (Ab 3 (Ac (hK6 _ _ _ ?_))))
 refine Ao ((Ij pr s d xs) !=0) Ae (fun h8=>?_) (fun h9=>?_)
 ·have qh8:=h8;try simp only[zA]at qh8
  refine Ad (fun K10 hK10=>Aa (Ab 2 (Ai rfl (A4 p4 0 1 0 Q2k Tryz.sizeOf40 rfl rfl) (fun _=>Ab 1 ?_))))
  refine Ac (hK10 _ _ _ (Ap [1] Al rfl (Aq (fn:=Tryz.f45) rfl ?_)))
  have hG:Td pr s d xs fp=false:=by unfold Td;rw[h8];rfl
  have hX:Xq pr s d xs fp=Ij pr s d xs:=by unfold Xq;rw[h8];rfl
  have hB:Vv pr s d xs fp fs fd ff ft=[]:=by unfold Vv;rw[hG];rfl
  exact fun w_ hS_=>B9 rfl (Bq p4 0 0 0 M9 Tryz.isAgg40 Tryz.sizeOf40) (Aw (iV .i64 (Ij pr s d xs))) hS_ ⟨FS.nul,(by rw[hB];exact Bw 1),congrArg Ending.returned ((by rw[hB,hG,hX];rfl)),(Mem.cast (by rw[hB];rfl) (Mem.push (hS_.pick [] Al rfl)))⟩
 ·have qh9:=h9;try simp only[zA]at qh9
  refine Ad (fun K12 hK12=>Aa (Ab 1 (Ah (An p3 0 2 0 Tryz.isAgg5) (Ab 1 ?_))))
  refine Ah (An p6 0 0 0 Tryz.isAgg5) (Ab 2 (Ac (hK12 _ _ _ ?_)))
  refine Ao (((fp.toNat:Nat):Int) !=((Gn pr s d xs).toNat:Int)) Ae (fun h14=>?_) (fun h15=>?_)
  ·have qh14:=h14;try simp only[zA]at qh14
   refine Ad (fun K16 hK16=>Aa (Ab 1 (Ai rfl (A4 p4 0 1 0 Q2k Tryz.sizeOf40 rfl rfl) (fun _=>Ab 1 ?_))))
   refine Ac (hK16 _ _ _ (Ap [1] Al rfl (Aq (fn:=Tryz.f45) rfl ?_)))
   have hG:Td pr s d xs fp=false:=by unfold Td;rw[h9,h14];rfl
   have hX:Xq pr s d xs fp=1:=by unfold Xq;rw[h9,h14];rfl
   have hB:Vv pr s d xs fp fs fd ff ft=[]:=by unfold Vv;rw[hG];rfl
   exact fun w_ hS_=>B9 rfl (Bq p4 0 0 0 M9 Tryz.isAgg40 Tryz.sizeOf40) (Aw (iV .i64 1)) hS_ ⟨FS.nul,(by rw[hB];exact Bw 1),congrArg Ending.returned ((by rw[hB,hG,hX];rfl)),(Mem.cast (by rw[hB];rfl) (Mem.push (hS_.pick [] Al rfl)))⟩
  ·have qh15:=h15;try simp only[zA]at qh15
   refine Ak (hK5 _ _ _ (Ad (fun K19 hK19=>Dh [(0,true),(1,true),(2,true),(3,true),(4,true),(5,true),(6,false),(7,false),(8,false)] [0,1,2,3,4,5] (Ay 1 ?_))))
   refine Wd.ys rfl rfl rfl (An p2 3 3 0 Tryz.isAgg24) (Ay 1 (Wd.ys rfl rfl rfl (An p2 4 3 0 Tryz.isAgg24) (Ay 1 (Wd.ys rfl rfl rfl (An p2 5 3 0 Tryz.isAgg38) ?_))))
   refine Wd.yc (v:=nV .u32 s) rfl rfl rfl (Ys.yc (Ys.p)) (.inr fun _ h_=>h_) (Wd.yc (v:=nV .u32 d) rfl rfl rfl (Ys.yc (Ys.p)) (.inr fun _ h_=>h_) (Wd.yc (v:=sL a xs.length cap) rfl rfl rfl (Ys.yc (Ys.p)) (.inl Ae) (A7 (hK19 _ _ _ ?_))))
   refine Ad (fun K21 hK21=>Ad (fun K22 hK22=>?_))
   refine Aa (Ab 3 ?_)
   refine Am (v:=nV .u32 s) (!((Ew pr s d xs) !=3)) rfl (B3 rfl Ae) rfl (fun hg23=>?_) ?_
   ·exact Ys.p
   refine Am (v:=pV p6 1) (!((Ew pr s d xs) !=3)) rfl (B3 rfl Ae) rfl (fun hg24=>?_) ?_
   ·exact Ys.p
   refine Am (v:=nV .u32 (E4 pr s d xs)) (!((Ew pr s d xs) !=3)) rfl (B3 rfl Ae) rfl (fun hg25=>?_) ?_
   ·refine Bh (t:=49) (v0:=pV p6 1) (lz (g:= !((Ew pr s d xs) !=3)) (u:=undef) hg25 Ae) ?_
    exact An p6 1 0 0 Tryz.isAgg24
   refine Am (v:=bV (((s:Nat):Int)==(E4 pr s d xs:Int))) (!((Ew pr s d xs) !=3)) rfl (B3 rfl Ae) rfl (fun hg26=>?_) ?_
   ·refine Bh (t:=48) (v0:=nV .u32 s) (lz (g:= !((Ew pr s d xs) !=3)) (u:=undef) hg26 Ae) (Bh (t:=50) (v0:=nV .u32 (E4 pr s d xs)) (lz (g:= !((Ew pr s d xs) !=3)) (u:=undef) hg26 Ae) ?_)
    exact Ys.p
   refine Ah (v:=bV (((Ew pr s d xs) !=3)||(((s:Nat):Int)==(E4 pr s d xs:Int)))) (Dr (e:=(Ew pr s d xs) !=3) (b:=(s:Int)==(E4 pr s d xs:Int)) rfl Ae Ae Ae) (Ac (hK22 _ _ _ ?_))
   refine Ao (((Ew pr s d xs) !=3)||(((s:Nat):Int)==(E4 pr s d xs:Int))) Ae (fun h28=>?_) (fun h29=>?_)
   ·have qh28:=h28;try simp only[zA]at qh28
    refine Aa (Ab 1 (Ah (An p3 1 2 0 Tryz.isAgg24) (Ab 1 (Ai rfl (Bg p2 3 3 0 (nV .u32 fs) Tryz.sizeOf24 rfl rfl) (fun _=>?_)))))
    refine Ac (hK21 _ _ _ (Ad (fun K31 hK31=>Ad (fun K32 hK32=>Aa ?_))))
    refine Ab 3 ?_
    refine Am (v:=nV .u32 d) (!((Ew pr s d xs) !=3)) rfl (B3 rfl Ae) rfl (fun hg33=>?_) ?_
    ·exact Ys.p
    refine Am (v:=pV p6 2) (!((Ew pr s d xs) !=3)) rfl (B3 rfl Ae) rfl (fun hg34=>?_) ?_
    ·exact Ys.p
    refine Am (v:=nV .u32 (E9 pr s d xs)) (!((Ew pr s d xs) !=3)) rfl (B3 rfl Ae) rfl (fun hg35=>?_) ?_
    ·refine Bh (t:=60) (v0:=pV p6 2) (lz (g:= !((Ew pr s d xs) !=3)) (u:=undef) hg35 Ae) ?_
     exact An p6 2 0 0 Tryz.isAgg24
    refine Am (v:=bV (((d:Nat):Int)==(E9 pr s d xs:Int))) (!((Ew pr s d xs) !=3)) rfl (B3 rfl Ae) rfl (fun hg36=>?_) ?_
    ·refine Bh (t:=59) (v0:=nV .u32 d) (lz (g:= !((Ew pr s d xs) !=3)) (u:=undef) hg36 Ae) (Bh (t:=61) (v0:=nV .u32 (E9 pr s d xs)) (lz (g:= !((Ew pr s d xs) !=3)) (u:=undef) hg36 Ae) ?_)
     exact Ys.p
    refine Ah (v:=bV (((Ew pr s d xs) !=3)||(((d:Nat):Int)==(E9 pr s d xs:Int)))) (Dr (e:=(Ew pr s d xs) !=3) (b:=(d:Int)==(E9 pr s d xs:Int)) rfl Ae Ae Ae) (Ac (hK32 _ _ _ ?_))
    refine Ao (((Ew pr s d xs) !=3)||(((d:Nat):Int)==(E9 pr s d xs:Int))) Ae (fun h38=>?_) (fun h39=>?_)
    ·have qh38:=h38;try simp only[zA]at qh38
     refine Aa (Ab 1 (Ah (An p3 2 2 0 Tryz.isAgg24) (Ab 1 (Ai rfl (Bg p2 4 3 0 (nV .u32 fd) Tryz.sizeOf24 rfl rfl) (fun _=>?_)))))
     refine Ac (hK31 _ _ _ (Ad (fun K41 hK41=>Ad (fun K42 hK42=>Aa ?_))))
     refine Ab 1 (Ah (An p2 1 3 0 Tryz.isAgg5) (Ac (hK42 _ _ _ (W.block ?_))))
     refine Ad (fun K44 hK44=>Aa (Ab 2 (Ac (hK44 _ _ _ ?_))))
     refine Ao (((pr.toNat:Nat):Int)==6) Ae (fun h46=>?_) (fun h47=>?_)
     ·have qh46:=h46;try simp only[zA]at qh46
      refine Ad (fun K48 hK48=>Aa (Ab 3 (Ax rfl (Au [] [0,1,2,3] (fun w_ hm_ hl_=>(Sy s d xs a cap xs.length _ I7 (hat.mem0 hm_) Ag Ag Ex Ex))) (fun gg49 hx53=>?_))))
      obtain⟨ok50,ok51⟩:=hx53
      refine Ab 3 (Ai rfl (Bc Tryz.zeroValue126) (fun p12=>?_))
      refine Ai rfl (A4 p12 0 0 0 [nV .u16 (tF s d xs 0),nV .u16 (tF s d xs 2),nV .u32 (tW s d xs 4),nV .u32 (tW s d xs 8),nV .u8 ((tL s d xs).toNat),nV .u16 (tF s d xs 14),nV .u16 (tF s d xs 18),sL gg49.1.a ((tO s d xs).length) gg49.1.cap,sL gg49.2.a ((tD s d xs).length) gg49.2.cap] Tryz.sizeOf126 rfl rfl) (fun _=>Ab 1 (Ac (hK48 _ _ _ (Ap [0,1,2,4,5,6] Al rfl ?_))))
      refine Ad (fun K55 hK55=>Bz [(0,true),(1,true),(2,true),(3,true),(4,false),(5,false),(6,false),(7,false)] [0,1,2,3] (Mem w [] [gg49.1.seg 5 (mc b8 (tO s d xs)),gg49.2.seg 5 (mc b8 (tD s d xs)),Q2i p4,[cb p3 [nV .u8 fp.toNat,nV .u32 fs,nV .u32 fd,nV .u16 ff,nV .u16 ft] 47],[cb p2 [nV .u8 tt.toNat,nV .u8 pr.toNat,nV .u16 id,nV .u32 fs,nV .u32 fd,sL a xs.length cap] 40]]) Ae Ae Ae rfl Ae (fun _ _ h_=>h_.drawn _) (fun _ h_=>h_.pick [1,2,3,4,5] Al rfl) (Ay 1 (Wd.ys rfl rfl rfl (An p3 3 3 0 Tryz.isAgg22) (Ay 1 ?_))))
      refine Wd.ys rfl rfl rfl (An p3 4 3 0 Tryz.isAgg22) (Wd.yc (v:=pV p12 0) rfl rfl rfl (Ys.yc (Ys.p)) (.inr fun _ h_=>h_.pick [1,2,3,4,5] Al rfl) (B8 rfl rfl (Bg p12 0 0 0 (nV .u16 ff) Tryz.sizeOf22 rfl rfl) (.inr fun _ _ h_=>h_.pick [1,2,3,4,5] Al rfl) (fun _=>Wd.yc (v:=pV p12 1) rfl rfl rfl (Ys.yc (Ys.p)) (.inl Ae) (B8 rfl rfl (Bg p12 1 0 0 (nV .u16 ft) Tryz.sizeOf22 rfl rfl) (.inl Ae) (fun _=>?_)))))
      refine A7 (hK55 _ _ _ (Ap [0,1,2,3,5] Al rfl (Aa (Ab 1 ?_))))
      refine Ah (An p2 3 4 0 Tryz.isAgg24) (Ab 1 (Ah (An p2 4 4 0 Tryz.isAgg24) (Ah (A0 p12 0 0 0 [nV .u16 ff,nV .u16 ft,nV .u32 (tW s d xs 4),nV .u32 (tW s d xs 8),nV .u8 ((tL s d xs).toNat),nV .u16 (tF s d xs 14),nV .u16 (tF s d xs 18),sL gg49.1.a ((tO s d xs).length) gg49.1.cap,sL gg49.2.a ((tD s d xs).length) gg49.2.cap] Tryz.isAgg126 Tryz.sizeOf126) ?_)))
      have hl60:=Amg fs fd ff ft (tW s d xs 4) (tW s d xs 8) (tL s d xs) (tF s d xs 14) (tF s d xs 18) (tO s d xs) (tD s d xs)
      refine Ax rfl (Au [] [0,1,2,3,4] (fun w_ hm_ hl_=>(Af5 fs fd ff ft (tW s d xs 4) (tW s d xs 8) (tL s d xs) (tF s d xs 14) (tF s d xs 18) (tO s d xs) (tD s d xs) gg49.1.a gg49.2.a gg49.1.cap gg49.2.cap ((tO s d xs).length) ((tD s d xs).length) _ I7 I7 (FS.at (i:=1) (t:=5) hm_ rfl (Aj ok50 (Ba _))) (FS.at (i:=2) (t:=5) hm_ rfl (Aj ok51 (Ba _))) Ag Ag Ag Ag Ag Ag Ag Ag Ef Ef (by have z_:=ok50.le;first|exact z_|omega|(simp at z_⊢;omega)) (by have z_:=ok51.le;first|exact z_|omega|(simp at z_⊢;omega))))) (fun g57 ok58=>Ab 4 (Ai rfl (Bg p2 5 5 0 (sV g57 ((tB fs fd ff ft (tW s d xs 4) (tW s d xs 8) (tL s d xs) (tF s d xs 14) (tF s d xs 18) (tO s d xs) (tD s d xs)).length)) Tryz.sizeOf38 rfl rfl) (fun _=>Ab 1 (Ac ?_))))
      refine hK41 _ _ _ (Ap [0,4,5] Al rfl (Ad (fun K62 hK62=>Ad (fun K63 hK63=>Aa ?_))))
      refine Ab 2 (Ac (hK63 _ _ _ ?_))
      refine Ao ((tE (tO s d xs).length (tD s d xs).length) !=0) Ae (fun h65=>?_) (fun h66=>?_)
      ·(exfalso;rw[Af7]at h65;cases h65)
      ·have qh66:=h66;try simp only[zA]at qh66
       refine Ak (hK62 _ _ _ (Ad (fun K68 hK68=>Aa (Ah (A0 p2 0 2 0 [nV .u8 tt.toNat,nV .u8 pr.toNat,nV .u16 id,nV .u32 fs,nV .u32 fd,sV g57 ((tB fs fd ff ft (tW s d xs 4) (tW s d xs 8) (tL s d xs) (tF s d xs 14) (tF s d xs 18) (tO s d xs) (tD s d xs)).length)] Tryz.isAgg40 Tryz.sizeOf40) ?_))))
       refine Ai rfl (A4 p4 0 1 0 [nV .u8 tt.toNat,nV .u8 pr.toNat,nV .u16 id,nV .u32 fs,nV .u32 fd,sV g57 ((tB fs fd ff ft (tW s d xs 4) (tW s d xs 8) (tL s d xs) (tF s d xs 14) (tF s d xs 18) (tO s d xs) (tD s d xs)).length)] Tryz.sizeOf40 rfl rfl) (fun _=>Ab 1 (Ac (hK68 _ _ _ (Ap [0,1] Al rfl ?_))))
       refine Aq (fn:=Tryz.f45) rfl ?_
       have hG:Td pr s d xs fp=true:=by unfold Td;rw[h9,h15];rfl
       have hX:Xq pr s d xs fp=0:=by unfold Xq;rw[h9,h15];rfl
       have hB:Vv pr s d xs fp fs fd ff ft=tB fs fd ff ft (tW s d xs 4) (tW s d xs 8) (tL s d xs) (tF s d xs 14) (tF s d xs 18) (tO s d xs) (tD s d xs):=by unfold Vv;rw[hG,show G1 pr=true from h46];rfl
       exact fun w_ hS_=>B9 rfl (Bq p4 0 1 0 [nV .u8 tt.toNat,nV .u8 pr.toNat,nV .u16 id,nV .u32 fs,nV .u32 fd,sV g57 ((tB fs fd ff ft (tW s d xs 4) (tW s d xs 8) (tL s d xs) (tF s d xs 14) (tF s d xs 18) (tO s d xs) (tD s d xs)).length)] Tryz.isAgg40 Tryz.sizeOf40) (Aw (iV .i64 0)) hS_ ⟨g57,(by rw[hB];exact ok58),congrArg Ending.returned ((by rw[hB,hG,hX];rfl)),(Mem.cast (by rw[hB];rfl) (hS_.pick [0] Al rfl))⟩
     ·have qh47:=h47;try simp only[zA]at qh47
      refine Ad (fun K70 hK70=>Aa (Ab 2 (Ac (hK70 _ _ _ ?_))))
      refine Ao (((pr.toNat:Nat):Int)==17) Ae (fun h72=>?_) (fun h73=>?_)
      ·have qh72:=h72;try simp only[zA]at qh72
       refine Ad (fun K74 hK74=>Aa (Ab 3 (Ax rfl (Au [] [0,1,2,3] (fun w_ hm_ hl_=>(N3 s d xs a cap xs.length _ I7 (hat.mem0 hm_) Ag Ag Ex Ex))) (fun g75 ok76=>Ab 3 ?_))))
       refine Ai rfl (Bc Tryz.zeroValue124) (fun p14=>Ai rfl (A4 p14 0 0 0 [nV .u16 (uF s d xs 0),nV .u16 (uF s d xs 2),bV (uP s d xs),sV g75 ((uD s d xs).length)] Tryz.sizeOf124 rfl rfl) (fun _=>?_))
       refine Ab 1 (Ac (hK74 _ _ _ (Ap [0,1,3,4,5] Al rfl (Ad (fun K79 hK79=>?_)))))
       refine Bz [(0,true),(1,true),(2,true),(3,true),(4,false),(5,false),(6,false),(7,false)] [0,1,2,3] (Mem w [] [g75.seg 5 (mc b8 (uD s d xs)),Q2i p4,[cb p3 [nV .u8 fp.toNat,nV .u32 fs,nV .u32 fd,nV .u16 ff,nV .u16 ft] 47],[cb p2 [nV .u8 tt.toNat,nV .u8 pr.toNat,nV .u16 id,nV .u32 fs,nV .u32 fd,sL a xs.length cap] 40]]) Ae Ae Ae rfl Ae (fun _ _ h_=>h_.drawn _) (fun _ h_=>h_.pick [1,2,3,4] Al rfl) (Ay 1 (Wd.ys rfl rfl rfl (An p3 3 2 0 Tryz.isAgg22) (Ay 1 (Wd.ys rfl rfl rfl (An p3 4 2 0 Tryz.isAgg22) ?_))))
       refine Wd.yc (v:=pV p14 0) rfl rfl rfl (Ys.yc (Ys.p)) (.inr fun _ h_=>h_.pick [1,2,3,4] Al rfl) (B8 rfl rfl (Bg p14 0 0 0 (nV .u16 ff) Tryz.sizeOf22 rfl rfl) (.inr fun _ _ h_=>h_.pick [1,2,3,4] Al rfl) (fun _=>?_))
       refine Wd.yc (v:=pV p14 1) rfl rfl rfl (Ys.yc (Ys.p)) (.inl Ae) (B8 rfl rfl (Bg p14 1 0 0 (nV .u16 ft) Tryz.sizeOf22 rfl rfl) (.inl Ae) (fun _=>?_))
       refine A7 (hK79 _ _ _ (Ap [0,1,2,4] Al rfl (Aa (Ab 1 ?_))))
       refine Ah (An p2 3 3 0 Tryz.isAgg24) (Ab 1 (Ah (An p2 4 3 0 Tryz.isAgg24) (Ah (A0 p14 0 0 0 [nV .u16 ff,nV .u16 ft,bV (uP s d xs),sV g75 ((uD s d xs).length)] Tryz.isAgg124 Tryz.sizeOf124) ?_)))
       have hl84:=Aa4 fs fd ff ft (uP s d xs) (uD s d xs)
       refine Ax rfl (Au [] [0,1,2,3] (fun w_ hm_ hl_=>(Xa fs fd ff ft (uP s d xs) (uD s d xs) g75.a g75.cap ((uD s d xs).length) _ I7 (FS.at (i:=1) (t:=5) hm_ rfl (Aj ok76 (Ba _))) Ag Ag Ag Ag Ef (by have z_:=ok76.le;first|exact z_|omega|(simp at z_⊢;omega))))) (fun g81 ok82=>Ab 4 (Ai rfl (Bg p2 5 4 0 (sV g81 ((uB fs fd ff ft (uP s d xs) (uD s d xs)).length)) Tryz.sizeOf38 rfl rfl) (fun _=>Ab 1 (Ac ?_))))
       refine hK41 _ _ _ (Ap [0,3,4] Al rfl (Ad (fun K86 hK86=>Ad (fun K87 hK87=>Aa ?_))))
       refine Ab 2 (Ac (hK87 _ _ _ ?_))
       refine Ao ((uE (uD s d xs).length) !=0) Ae (fun h89=>?_) (fun h90=>?_)
       ·(exfalso;rw[Af8]at h89;cases h89)
       ·have qh90:=h90;try simp only[zA]at qh90
        refine Ak (hK86 _ _ _ (Ad (fun K92 hK92=>Aa (Ah (A0 p2 0 2 0 [nV .u8 tt.toNat,nV .u8 pr.toNat,nV .u16 id,nV .u32 fs,nV .u32 fd,sV g81 ((uB fs fd ff ft (uP s d xs) (uD s d xs)).length)] Tryz.isAgg40 Tryz.sizeOf40) ?_))))
        refine Ai rfl (A4 p4 0 1 0 [nV .u8 tt.toNat,nV .u8 pr.toNat,nV .u16 id,nV .u32 fs,nV .u32 fd,sV g81 ((uB fs fd ff ft (uP s d xs) (uD s d xs)).length)] Tryz.sizeOf40 rfl rfl) (fun _=>Ab 1 (Ac (hK92 _ _ _ (Ap [0,1] Al rfl ?_))))
        refine Aq (fn:=Tryz.f45) rfl ?_
        have hG:Td pr s d xs fp=true:=by unfold Td;rw[h9,h15];rfl
        have hX:Xq pr s d xs fp=0:=by unfold Xq;rw[h9,h15];rfl
        have hB:Vv pr s d xs fp fs fd ff ft=uB fs fd ff ft (uP s d xs) (uD s d xs):=by unfold Vv;rw[hG,show G1 pr=false from h47,show Mw pr=true from h72];rfl
        exact fun w_ hS_=>B9 rfl (Bq p4 0 1 0 [nV .u8 tt.toNat,nV .u8 pr.toNat,nV .u16 id,nV .u32 fs,nV .u32 fd,sV g81 ((uB fs fd ff ft (uP s d xs) (uD s d xs)).length)] Tryz.isAgg40 Tryz.sizeOf40) (Aw (iV .i64 0)) hS_ ⟨g81,(by rw[hB];exact ok82),congrArg Ending.returned ((by rw[hB,hG,hX];rfl)),(Mem.cast (by rw[hB];rfl) (hS_.pick [0] Al rfl))⟩
      ·have qh73:=h73;try simp only[zA]at qh73
       refine Ad (fun K94 hK94=>Aa (Ab 1 (Ax rfl (Au [] [0,1,2,3] (fun w_ hm_ hl_=>(Pk xs a cap xs.length _ I7 (hat.mem0 hm_) Ex Ex))) (fun g95 ok96=>Ab 3 ?_))))
       refine Ai rfl (Bc Tryz.zeroValue132) (fun p16=>Ai rfl (A4 p16 0 0 0 [nV .u8 ((mT xs 0).toNat),nV .u8 ((mT xs 1).toNat),nV .u32 (mN xs),sV g95 ((mD xs).length)] Tryz.sizeOf132 rfl rfl) (fun _=>?_))
       refine Ab 1 (Ac (hK94 _ _ _ (Ad (fun K99 hK99=>Ad (fun K100 hK100=>?_)))))
       refine Aa (Ab 2 (Ac (hK100 _ _ _ ?_)))
       refine Ao ((Ew pr s d xs)==3) Ae (fun h102=>?_) (fun h103=>?_)
       ·have qh102:=h102;try simp only[zA]at qh102
        (exfalso;simp at h102;exact hk h102)
       ·have qh103:=h103;try simp only[zA]at qh103
        refine Ad (fun K104 hK104=>Aa (Ab 1 (Ah (An p3 3 4 0 Tryz.isAgg22) (Ab 1 ?_))))
        refine Ac (hK104 _ _ _ (Ap [0,1,3,4,5] Al rfl (Ad (fun K106 hK106=>Ad (fun K107 hK107=>?_)))))
        refine Aa (Ab 1 (Ah (An p16 0 0 0 Tryz.isAgg5) (Ab 1 (Ah (An p16 1 0 0 Tryz.isAgg5) ?_))))
        refine B0 (v:=Value.tuple #[bV (I4 (mT xs 0)),bV (P0 (mT xs 0) (mT xs 1))]) (A9 (fun w_ hm_=>(Ss (mT xs 0) (mT xs 1) _))) (Ab 5 (Ac (hK107 _ _ _ (Ad (fun K109 hK109=>?_)))))
        refine Aa (Ab 2 (Ac (hK109 _ _ _ ?_)))
        refine Ao (!(I4 (mT xs 0))) Ae (fun h111=>?_) (fun h112=>?_)
        ·refine Aa (Ab 1 (Ah (An p3 4 3 0 Tryz.isAgg22) (Ab 1 (Ac ?_))))
         refine hK106 _ _ _ (Ap [0,1,2,4] Al rfl (Aa (Ab 1 (Ah (An p16 2 0 0 Tryz.isAgg23) ?_))))
         refine Ah (v:=nV .u32 ((mN xs)%65536)) ((Ys.p (v:=.int .u32 (Cn .u32 (mN xs:Int) ((65535:Nat):Int)))).conseq (Af (G2 rfl (a:=mN xs) (c:=16) (by show _<4294967296;omega) Al 65535 rfl))) (Ab 1 (Ah (v:=nV .u32 ft) ((Ys.p (v:=.int .u32 (Cg .u32 (ft:Int)))).conseq (Af (Le Ag Ag))) (Ah (v:=nV .u32 ((ft*65536)%4294967296)) ((Ys.p (v:=.int .u32 (Hw .u32 (ft:Int) ((16:Nat):Int)))).conseq (Af (Gg rfl ft 16 Al))) (Ah (v:=nV .u32 (((mN xs)%65536)|||((ft*65536)%4294967296))) ((Ys.p (v:=.int .u32 (bor .u32 (((mN xs)%65536:Nat):Int) (((ft*65536)%4294967296:Nat):Int)))).conseq (Af (Im rfl (by show _<4294967296;omega) (by show _<4294967296;omega)))) ?_))))
         refine Ab 1 (Ai rfl (Bg p16 2 0 0 (nV .u32 (((mN xs)%65536)|||((ft*65536)%4294967296))) Tryz.sizeOf23 rfl rfl) (fun _=>?_))
         refine Ac (hK99 _ _ _ (Aa (Ah (A0 p16 0 0 0 [nV .u8 ((mT xs 0).toNat),nV .u8 ((mT xs 1).toNat),nV .u32 (((mN xs)%65536)|||((ft*65536)%4294967296)),sV g95 ((mD xs).length)] Tryz.isAgg132 Tryz.sizeOf132) ?_)))
         have hl118:=Ab1 (mT xs 0) (mT xs 1) (((mN xs)%65536)|||((ft*65536)%4294967296)) (mD xs)
         refine Ax rfl (Au [] [0,1,2,3] (fun w_ hm_ hl_=>(Pj (mT xs 0) (mT xs 1) (((mN xs)%65536)|||((ft*65536)%4294967296)) (mD xs) g95.a g95.cap ((mD xs).length) _ I7 (FS.at (i:=1) (t:=5) hm_ rfl (Aj ok96 (Ba _))) (by first|omega|exact Nat.or_lt_two_pow (n:=32) Ag Ag) Ef (by have z_:=ok96.le;first|exact z_|omega|(simp at z_⊢;omega))))) (fun g115 ok116=>Ab 4 (Ai rfl (Bg p2 5 4 0 (sV g115 ((mB (mT xs 0) (mT xs 1) (((mN xs)%65536)|||((ft*65536)%4294967296)) (mD xs)).length)) Tryz.sizeOf38 rfl rfl) (fun _=>Ab 1 (Ac ?_))))
         refine hK41 _ _ _ (Ap [0,3,4] Al rfl (Ad (fun K120 hK120=>Ad (fun K121 hK121=>Aa ?_))))
         refine Ab 2 (Ac (hK121 _ _ _ ?_))
         refine Ao ((uE (mD xs).length) !=0) Ae (fun h123=>?_) (fun h124=>?_)
         ·(exfalso;rw[S1]at h123;cases h123)
         ·have qh124:=h124;try simp only[zA]at qh124
          refine Ak (hK120 _ _ _ (Ad (fun K126 hK126=>Aa (Ah (A0 p2 0 2 0 [nV .u8 tt.toNat,nV .u8 pr.toNat,nV .u16 id,nV .u32 fs,nV .u32 fd,sV g115 ((mB (mT xs 0) (mT xs 1) (((mN xs)%65536)|||((ft*65536)%4294967296)) (mD xs)).length)] Tryz.isAgg40 Tryz.sizeOf40) ?_))))
          refine Ai rfl (A4 p4 0 1 0 [nV .u8 tt.toNat,nV .u8 pr.toNat,nV .u16 id,nV .u32 fs,nV .u32 fd,sV g115 ((mB (mT xs 0) (mT xs 1) (((mN xs)%65536)|||((ft*65536)%4294967296)) (mD xs)).length)] Tryz.sizeOf40 rfl rfl) (fun _=>Ab 1 (Ac (hK126 _ _ _ (Ap [0,1] Al rfl ?_))))
          refine Aq (fn:=Tryz.f45) rfl ?_
          have hG:Td pr s d xs fp=true:=by unfold Td;rw[h9,h15];rfl
          have hX:Xq pr s d xs fp=0:=by unfold Xq;rw[h9,h15];rfl
          have hB:Vv pr s d xs fp fs fd ff ft=mB (mT xs 0) (mT xs 1) (((mN xs)%65536)|||((ft*65536)%4294967296)) (mD xs):=by unfold Vv;rw[hG,show G1 pr=false from h47,show Mw pr=false from h73,h111];rfl
          exact fun w_ hS_=>B9 rfl (Bq p4 0 1 0 [nV .u8 tt.toNat,nV .u8 pr.toNat,nV .u16 id,nV .u32 fs,nV .u32 fd,sV g115 ((mB (mT xs 0) (mT xs 1) (((mN xs)%65536)|||((ft*65536)%4294967296)) (mD xs)).length)] Tryz.isAgg40 Tryz.sizeOf40) (Aw (iV .i64 0)) hS_ ⟨g115,(by rw[hB];exact ok116),congrArg Ending.returned ((by rw[hB,hG,hX];rfl)),(Mem.cast (by rw[hB];rfl) (hS_.pick [0] Al rfl))⟩
        ·refine Ak (hK106 _ _ _ (Ap [0,1,2,4] Al rfl (Aa (Ab 1 ?_))))
         refine Ah (An p16 2 0 0 Tryz.isAgg23) (Ah (v:=nV .u32 ((mN xs)%65536)) ((Ys.p (v:=.int .u32 (Cn .u32 (mN xs:Int) ((65535:Nat):Int)))).conseq (Af (G2 rfl (a:=mN xs) (c:=16) (by show _<4294967296;omega) Al 65535 rfl))) (Ab 1 (Ah (v:=nV .u32 ff) ((Ys.p (v:=.int .u32 (Cg .u32 (ff:Int)))).conseq (Af (Le Ag Ag))) (Ah (v:=nV .u32 ((ff*65536)%4294967296)) ((Ys.p (v:=.int .u32 (Hw .u32 (ff:Int) ((16:Nat):Int)))).conseq (Af (Gg rfl ff 16 Al))) ?_))))
         refine Ah (v:=nV .u32 (((mN xs)%65536)|||((ff*65536)%4294967296))) ((Ys.p (v:=.int .u32 (bor .u32 (((mN xs)%65536:Nat):Int) (((ff*65536)%4294967296:Nat):Int)))).conseq (Af (Im rfl (by show _<4294967296;omega) (by show _<4294967296;omega)))) (Ab 1 (Ai rfl (Bg p16 2 0 0 (nV .u32 (((mN xs)%65536)|||((ff*65536)%4294967296))) Tryz.sizeOf23 rfl rfl) (fun _=>Ac (hK99 _ _ _ ?_))))
         refine Aa (Ah (A0 p16 0 0 0 [nV .u8 ((mT xs 0).toNat),nV .u8 ((mT xs 1).toNat),nV .u32 (((mN xs)%65536)|||((ff*65536)%4294967296)),sV g95 ((mD xs).length)] Tryz.isAgg132 Tryz.sizeOf132) ?_)
         have hl133:=Ab1 (mT xs 0) (mT xs 1) (((mN xs)%65536)|||((ff*65536)%4294967296)) (mD xs)
         refine Ax rfl (Au [] [0,1,2,3] (fun w_ hm_ hl_=>(Pj (mT xs 0) (mT xs 1) (((mN xs)%65536)|||((ff*65536)%4294967296)) (mD xs) g95.a g95.cap ((mD xs).length) _ I7 (FS.at (i:=1) (t:=5) hm_ rfl (Aj ok96 (Ba _))) (by first|omega|exact Nat.or_lt_two_pow (n:=32) Ag Ag) Ef (by have z_:=ok96.le;first|exact z_|omega|(simp at z_⊢;omega))))) (fun g130 ok131=>Ab 4 (Ai rfl (Bg p2 5 4 0 (sV g130 ((mB (mT xs 0) (mT xs 1) (((mN xs)%65536)|||((ff*65536)%4294967296)) (mD xs)).length)) Tryz.sizeOf38 rfl rfl) (fun _=>Ab 1 (Ac ?_))))
         refine hK41 _ _ _ (Ap [0,3,4] Al rfl (Ad (fun K135 hK135=>Ad (fun K136 hK136=>Aa ?_))))
         refine Ab 2 (Ac (hK136 _ _ _ ?_))
         refine Ao ((uE (mD xs).length) !=0) Ae (fun h138=>?_) (fun h139=>?_)
         ·(exfalso;rw[S1]at h138;cases h138)
         ·have qh139:=h139;try simp only[zA]at qh139
          refine Ak (hK135 _ _ _ (Ad (fun K141 hK141=>Aa (Ah (A0 p2 0 2 0 [nV .u8 tt.toNat,nV .u8 pr.toNat,nV .u16 id,nV .u32 fs,nV .u32 fd,sV g130 ((mB (mT xs 0) (mT xs 1) (((mN xs)%65536)|||((ff*65536)%4294967296)) (mD xs)).length)] Tryz.isAgg40 Tryz.sizeOf40) ?_))))
          refine Ai rfl (A4 p4 0 1 0 [nV .u8 tt.toNat,nV .u8 pr.toNat,nV .u16 id,nV .u32 fs,nV .u32 fd,sV g130 ((mB (mT xs 0) (mT xs 1) (((mN xs)%65536)|||((ff*65536)%4294967296)) (mD xs)).length)] Tryz.sizeOf40 rfl rfl) (fun _=>Ab 1 (Ac (hK141 _ _ _ (Ap [0,1] Al rfl ?_))))
          refine Aq (fn:=Tryz.f45) rfl ?_
          have hG:Td pr s d xs fp=true:=by unfold Td;rw[h9,h15];rfl
          have hX:Xq pr s d xs fp=0:=by unfold Xq;rw[h9,h15];rfl
          have hB:Vv pr s d xs fp fs fd ff ft=mB (mT xs 0) (mT xs 1) (((mN xs)%65536)|||((ff*65536)%4294967296)) (mD xs):=by unfold Vv;rw[hG,show G1 pr=false from h47,show Mw pr=false from h73,h112];rfl
          exact fun w_ hS_=>B9 rfl (Bq p4 0 1 0 [nV .u8 tt.toNat,nV .u8 pr.toNat,nV .u16 id,nV .u32 fs,nV .u32 fd,sV g130 ((mB (mT xs 0) (mT xs 1) (((mN xs)%65536)|||((ff*65536)%4294967296)) (mD xs)).length)] Tryz.isAgg40 Tryz.sizeOf40) (Aw (iV .i64 0)) hS_ ⟨g130,(by rw[hB];exact ok131),congrArg Ending.returned ((by rw[hB,hG,hX];rfl)),(Mem.cast (by rw[hB];rfl) (hS_.pick [0] Al rfl))⟩
    ·have qh39:=h39;try simp only[zA]at qh39
     (exfalso;simp at h39;exact hk h39.1)
   ·have qh29:=h29;try simp only[zA]at qh29
    (exfalso;simp at h29;exact hk h29.1)
abbrev c2(p:Nat×Nat):List Value:=[Y7 p.1,Y7 p.2]
def Gl(n:Nat)(ls:List (Nat×Nat)):Nat:=ls.foldl (fun n p=>upc n p.1 p.2) n
theorem Aci{n:Nat}{ls:List (Nat×Nat)}{k:Nat}(h:k<ls.length):Gl n (ls.take (k+1))=upc (Gl n (ls.take k)) (ls.getD k default).1 (ls.getD k default).2:=by
  unfold Gl;rw[List.take_add_one,List.foldl_append];simp[h]
theorem Acj{n:Nat}(hn:n<65536)(ls:List (Nat×Nat)):Gl n ls<65536:=by
  unfold Gl
  induction ls generalizing n with
  |nil=>exact hn
  |cons p ls ih=>exact ih (show upc n p.1 p.2<65536 from by have:=Aa3 n p.1 p.2;omega)
theorem Amk{ls:List (Nat×Nat)}{k:Nat}(hb: ∀p∈ls,p.1<65536∧p.2<65536)(h:k<ls.length):(ls.getD k default).1<65536∧(ls.getD k default).2<65536:=by
  rw[List.getD_eq_getElem?_getD,List.getElem?_eq_getElem h];exact hb _ (List.getElem_mem h)
theorem Ack(n:Nat)(ls:List (Nat×Nat))(a:Option Addr)(cap:Nat)(w:World)(hat:At w a (mm c2 ls))(hn:n<65536)(hb: ∀p∈ls,p.1<65536∧p.2<65536)(hl:ls.length≤9223372036854775807):Calls Tryz.prog 151 #[nV .u16 n,sL a ls.length cap] w (Dc w (.int .u16 (Gl n ls:Int))):=by
 refine Ar (M:=[]) (LL:=[]) (n:=29) Tryz.func151 rfl rfl A5 (Mem.refl _) (Ad (fun K1 hK1=>?_))
 refine Aa (Ab 1 (Ac (hK1 _ _ _ (Ad (fun K2 hK2=>?_)))))
 refine Ad (fun K3 hK3=>Aa (Ab 3 (Ac (hK3 _ _ _ ?_))))
 refine W.block (Ep [0,7,8,9] (fun(k:Nat)=>[nV .u16 (Gl n (ls.take k)),sL a ls.length cap,nV .i64 ls.length,nV .i64 k]) (fun(k:Nat)=>k≤ls.length) (fun(k:Nat)=>[]) (fun(k:Nat)=>ls.length-k) 0 Ae Pt (by rfl) (fun k f6 J5 hp7 hJ5=>?_))
 have hk:=hp7
 have hul:=Acj hn (ls.take k);have hfl:=W8 (65535-Gl n (ls.take k)+(65535-(ls.getD k default).1)+(ls.getD k default).2)
 refine Ad (fun K8 hK8=>Aa (Ab 1 (Ac (hK8 _ _ _ ?_))))
 refine Ad (fun K9 hK9=>?_)
 refine Ao (decide (((k:Nat):Int)<(ls.length:Int))) Ae (fun h10=>?_) (fun h11=>?_)
 ·have qh10:=h10;try simp only[zA]at qh10
  refine Ak (hK9 _ _ _ (Ad (fun K13 hK13=>W.block (Ad (fun K14 hK14=>?_)))))
  refine Aa (Ah (v:=Value.pointer (some (Co a (k*2)))) (Bm fun w_ h_=>Av (k:=.i64) (a:=a) (len:=ls.length) (cap:=cap) (i:=(k:Int)) (sz:=2) rfl Ae Ae Tryz.runUnderlying257 Tryz.sizeOf260 Ag Ag ((hat.mem0 h_).here (by rw[B6 (g:=c2) (sz:=2) (fun _=>rfl)];first|omega|(simp;omega)))) (Ah (v:=aV [nV .u16 ((ls.getD k default).1),nV .u16 ((ls.getD k default).2)]) (Ys.ldN (a:=Co a (k*2)) (vs:=[nV .u16 ((ls.getD k default).1),nV .u16 ((ls.getD k default).2)]) rfl Ae Tryz.isAgg260 Tryz.sizeOf260 rfl (fun w_ h_=>(hat.mem0 h_).ldN (Ei (g:=c2) (sz:=2) (fun _=>rfl) default (xs:=ls) (k:=k) Ag))) ?_))
  have hb15:=Amk hb (k:=k) Ag
  refine Ai rfl (Bc Tryz.zeroValue260) (fun p6=>Ai rfl (A4 p6 0 0 0 [nV .u16 ((ls.getD k default).1),nV .u16 ((ls.getD k default).2)] Tryz.sizeOf260 rfl rfl) (fun _=>?_))
  refine Ac (hK14 _ _ _ (Aa (Ab 1 (Ah (v:=nV .u16 (65535-(Gl n (ls.take k)))) ((Ys.p (v:=.int .u16 (Pv .u16 ((65535:Nat):Int) (Gl n (ls.take k):Int)))).conseq (Af (Hb rfl H1 65535 rfl))) ?_))))
  refine Ah (v:=nV .u64 (65535-(Gl n (ls.take k)))) ((Ys.p (v:=.int .u64 (Cg .u64 ((65535-(Gl n (ls.take k)):Nat):Int)))).conseq (Af (Cc Ag Ag))) (Ab 1 (Ah (An p6 0 0 0 Tryz.isAgg22) (Ah (v:=nV .u16 (65535-((ls.getD k default).1))) ((Ys.p (v:=.int .u16 (Pv .u16 ((65535:Nat):Int) ((ls.getD k default).1:Int)))).conseq (Af (Hb rfl H1 65535 rfl))) (Ah (v:=nV .u64 (65535-((ls.getD k default).1))) ((Ys.p (v:=.int .u64 (Cg .u64 ((65535-((ls.getD k default).1):Nat):Int)))).conseq (Af (Cc Ag Ag))) ?_))))
  refine Ah (v:=nV .u64 ((65535-(Gl n (ls.take k)))+(65535-((ls.getD k default).1)))) ((Ys.p (v:=.int .u64 (Bt .u64 ((65535-(Gl n (ls.take k)):Nat):Int) ((65535-((ls.getD k default).1):Nat):Int)))).conseq (Af (E7 rfl H0))) (Ab 1 (Ah (An p6 1 0 0 Tryz.isAgg22) (Ah (v:=nV .u64 ((ls.getD k default).2)) ((Ys.p (v:=.int .u64 (Cg .u64 ((ls.getD k default).2:Int)))).conseq (Af (Cc Ag Ag))) (Ah (v:=nV .u64 (((65535-(Gl n (ls.take k)))+(65535-((ls.getD k default).1)))+((ls.getD k default).2))) ((Ys.p (v:=.int .u64 (Bt .u64 (((65535-(Gl n (ls.take k)))+(65535-((ls.getD k default).1)):Nat):Int) ((ls.getD k default).2:Int)))).conseq (Af (E7 rfl H0))) ?_))))
  refine B0 (v:=nV .u16 (fd (((65535-(Gl n (ls.take k)))+(65535-((ls.getD k default).1)))+((ls.getD k default).2)))) (A9 (fun w_ hm_=>Aa2 (((65535-(Gl n (ls.take k)))+(65535-((ls.getD k default).1)))+((ls.getD k default).2)) _ Ag)) (Ah (v:=nV .u16 (65535-(fd (((65535-(Gl n (ls.take k)))+(65535-((ls.getD k default).1)))+((ls.getD k default).2))))) ((Ys.p (v:=.int .u16 (Pv .u16 ((65535:Nat):Int) (fd (((65535-(Gl n (ls.take k)))+(65535-((ls.getD k default).1)))+((ls.getD k default).2)):Int)))).conseq (Af (Hb rfl H1 65535 rfl))) (Ab 1 (Ac (hK13 _ _ _ ?_))))
  refine Ap [] Al rfl (Aa (Ah (v:=nV .i64 (k+1)) ((Ys.p (v:=.int .i64 (Bt .i64 (k:Int) 1))).conseq (Af (A6 Ag Ag Ag))) (Ab 1 (Ac ?_))))
  refine fun w_ h_=>hJ5 (k+1) _ w_ Ag Pt ?_ h_
  refine Eq.trans (b:=([nV .u16 (65535-(fd (((65535-(Gl n (ls.take k)))+(65535-((ls.getD k default).1)))+((ls.getD k default).2)))),Value.slice a ls.length cap,nV .i64 ls.length,nV .i64 (k+1)]:List Value)) Ae (by rw[Aci Ag];try rfl)
 ·have qh11:=h11;try simp only[zA]at qh11
  refine Cr (hK2 _ _ _ (Ad (fun K19 hK19=>Aa (Ab 2 ?_))))
  refine Ac (hK19 _ _ _ (Aq (fn:=Tryz.f151) rfl (fun w_ hS_=>Bb rfl (Aw (nV .u16 (Gl n (ls.take k)))) hS_ ⟨by clear hK1 hK2 hK3 hJ5 hK8 hK9 hK19;refine congrArg Ending.returned ?_;exact Af (by rw[List.take_of_length_le Ag]),hS_.below⟩)))
theorem Ii(n:Nat)(ls:List (Nat×Nat))(a:Option Addr)(len cap:Nat)(w:World)(hlen:len=ls.length)(hat:At w a (mm c2 ls))(hn:n<65536)(hb: ∀p∈ls,p.1<65536∧p.2<65536)(hl:ls.length≤9223372036854775807):
    Calls Tryz.prog 151 #[.int .u16 (n:Int),.slice a len cap] w (Dc w (.int .u16 (Gl n ls:Int))):=by
  subst hlen;exact Ack n ls a cap w hat hn hb hl
end Go.Proofs.YtmonlaoaengfdaaGreatDoor.Oct
