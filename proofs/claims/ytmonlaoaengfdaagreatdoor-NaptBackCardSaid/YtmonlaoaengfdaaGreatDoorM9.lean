import Derived.Test.YtmonlaoaengfdaaGreatDoorM8
import Derived.Test.YtmonlaoaengfdaaGreatDoorM7
import Derived.Test.YtmonlaoaengfdaaGreatDoorM2
set_option linter.unusedVariables false
set_option linter.unusedSimpArgs false
set_option maxRecDepth 20000
namespace Go.Proofs.YtmonlaoaengfdaaGreatDoor.Oct
open Go.RowKit Base
attribute [local irreducible] Ys Yc Ht HtS HtIn Wl Wd W Mem pf D4 Wa Wo
def w2(xs:List UInt8)(k:Nat):Nat:=256*(xs.getD k 0).toNat+(xs.getD (k+1) 0).toNat
theorem Dx(xs:List UInt8)(k:Nat):w2 xs k<65536:=by
  unfold w2;have:=UInt8.toNat_lt (xs.getD k 0);have:=UInt8.toNat_lt (xs.getD (k+1) 0);omega
theorem Alu{xs:List UInt8}{k:Nat}(h:k+2≤xs.length):bv ((xs.drop k).take 2)=w2 xs k:=by
  have e:(xs.drop k).take 2=[xs.getD k 0,xs.getD (k+1) 0]:=by
    apply List.ext_getElem?
    intro j
    rcases j with _|_|j
    · simp[List.getElem?_take,List.getElem?_drop,List.getElem?_eq_getElem (show k<xs.length by omega)]
    · simp[List.getElem?_take,List.getElem?_drop,List.getElem?_eq_getElem (show k+1<xs.length by omega)]
    · simp;omega
  rw[e];unfold w2;simp[bv];omega
theorem Gb(X:List UInt8)(a:Option Addr)(len cap:Nat)(bad:Bool)(b j k:Nat)(w:World)(hl:Mem w [b] [[cb b [.slice a len cap,.bool bad] 283]] w)(hat:At w a (Ci (X.drop j)))(hn:len=X.length-j)(hjk:j+k≤X.length)(hcap:len≤cap)(hy:X.length≤70368744177664)(hk8:k≤8)(h2:k=2:=by rfl):
    Calls Tryz.prog 132 #[.pointer (some ⟨b,0,none⟩),.int .i64 (k:Int)] w (Bj w (fun x:EV=>View x.a (X.drop (j+k)) a (X.drop j)∧X.length-(j+k)≤x.cap) (fun x=>.int .u64 (w2 X j:Int)) [b] (fun x=>[[cb b [.slice x.a (X.length-(j+k)) x.cap,.bool bad] 283]])):=by
  have h:=Mp X a len cap bad b j k w hl hat hn hjk hcap hy hk8
  subst h2
  rw[Alu hjk]at h
  exact h
theorem Vg{n k:Nat}(h:(Nh n k !=0)=false):k≤n∧n≤1480:=by
  unfold Nh at h
  split at h
  · cases h
  · split at h
    · cases h
    · omega
def uR(s d:Nat)(xs:List UInt8):Int:=if xs.length<8 then 10 else if 1480<xs.length then 14 else if w2 xs 4<8∨xs.length<w2 xs 4 then 11 else if w2 xs 6≠0∧Dy (Eg s d 17 (w2 xs 4)++xs.take (w2 xs 4))≠0 then 12 else 0
def ug(s d:Nat)(xs:List UInt8):Bool:=decide (uR s d xs=0)
def uF(s d:Nat)(xs:List UInt8)(k:Nat):Nat:=bif ug s d xs then w2 xs k else 0
def uP(s d:Nat)(xs:List UInt8):Bool:=ug s d xs&&decide (w2 xs 6=0)
def uD(s d:Nat)(xs:List UInt8):List UInt8:=bif ug s d xs then(xs.drop 8).take (w2 xs 4-8)else []
theorem Ail{s d:Nat}{xs:List UInt8}(h:(Nh xs.length 8 !=0)=true):uR s d xs=Nh xs.length 8:=by
  unfold uR Nh at*
  split
  · rfl
  · split
    · rfl
    · rename_i h1 h2;rw[if_neg h1,if_neg h2]at h;cases h
theorem p67(xs:List UInt8):((((xs.getD 6 0).toNat:Nat):Int)==0&&((xs.getD 7 0).toNat:Int)==0)=decide (w2 xs 6=0):=by
  rw[Bool.eq_iff_iff,Bool.and_eq_true,beq_iff_eq,beq_iff_eq,decide_eq_true_eq]
  show _↔256*(xs.getD 6 0).toNat+(xs.getD 7 0).toNat=0
  omega
theorem z60(n:Nat):(((n:Nat):Int)==0)=decide (n=0):=by by_cases h:n=0<;>simp[h]
abbrev Qg:List Value:=zl3
set_option maxHeartbeats 1000000 in
theorem Aim(s d:Nat)(xs:List UInt8)(a:Option Addr)(cap:Nat)(w:World)(hat:At w a (Ci xs))(hs:s<4294967296)(hd:d<4294967296)(hl:xs.length≤100000)(hlc:xs.length≤cap):Calls Tryz.prog 85 #[nV .u32 s,nV .u32 d,sL a xs.length cap] w (Bj w (fun g:FS=>g.ok 1 (uD s d xs).length) (fun g=>.tuple #[.agg [.int .u16 ((uF s d xs 0:Nat):Int),.int .u16 ((uF s d xs 2:Nat):Int),.bool (uP s d xs),.slice g.a (uD s d xs).length g.cap].toArray,.int .i64 (uR s d xs)]) [] (fun g=>[g.seg 5 (Ci (uD s d xs))])):=by
 have hw4:=Dx xs 4;have hw6:=Dx xs 6
 refine Ar (M:=[]) (LL:=[]) (n:=67) Tryz.func85 rfl rfl A5 (Mem.refl _) (Ad (fun K1 hK1=>?_))
 refine Aa (Ai rfl (Bc Tryz.zeroValue124) (fun p6=>?_))
 refine Ab 1 (Ac (hK1 _ _ _ (Ad (fun K3 hK3=>Ad (fun K4 hK4=>?_)))))
 refine Aa (Ab 1 (B0 (v:=iV .i64 (Nh xs.length 8)) (A9 (fun w_ hm_=>O8 a xs.length cap 8 _ Ag Ag)) (Ab 1 (Ac ?_))))
 refine hK4 _ _ _ (Ad (fun K6 hK6=>?_))
 refine Aa (Ab 2 (Ac (hK6 _ _ _ ?_)))
 refine Ao ((Nh xs.length 8) !=0) Ae (fun h8=>?_) (fun h9=>?_)
 ·have qh8:=h8;try simp only[zA]at qh8
  refine Ad (fun K10 hK10=>Aa (Ah (A0 p6 0 0 0 Qg Tryz.isAgg124 Tryz.sizeOf124) (Ab 1 (Ai rfl (A4 p6 0 0 0 Qg Tryz.sizeOf124 rfl rfl) (fun _=>?_)))))
  refine Ab 1 (Ac (hK10 _ _ _ (Aq (fn:=Tryz.f85) rfl ?_)))
  have hR:uR s d xs=Nh xs.length 8:=Ail h8
  have hG:ug s d xs=false:=by unfold ug;rw[hR];exact decide_eq_false (by simpa using h8)
  have hD:uD s d xs=[]:=by unfold uD;rw[hG];rfl
  exact fun w_ hS_=>B9 rfl (Bq p6 0 0 0 zl3 Tryz.isAgg124 Tryz.sizeOf124) (Aw (iV .i64 (Nh xs.length 8))) hS_ ⟨FS.nul,(by rw[hD];exact Bw 1),congrArg Ending.returned ((by simp only[uF,uP,hG,cond_false,Bool.false_and,hR,hD];rfl)),(Mem.cast (by rw[hD];rfl) (Mem.push (hS_.pick [] Al rfl)))⟩
 ·have qh9:=h9;try simp only[zA]at qh9
  refine Ak (hK3 _ _ _ (Ad (fun K13 hK13=>?_)))
  have hb_:=Vg h9
  refine Aa (Ab 1 (Ax rfl (Au [] [0] (fun w_ hm_ hl_=>(Mn xs a xs.length cap _ rfl (hat.mem0 hm_) Ex))) (fun ne14 ok15=>Ab 1 (Ac ?_))))
  refine hK13 _ _ _ (Ad (fun K19 hK19=>?_))
  refine Aa (Ab 1 (Ax rfl (Au [0] [1,2] (fun w_ hm_ hl_=>(Gb xs ne14.g.a xs.length ne14.g.cap false ne14.b 0 2 _ hl_ (by rw[List.drop_zero];exact(FS.at (i:=1) (t:=5) hm_ rfl (Aj ok15 (Ba _)))) I9 Ag (ok15.le) Ag Al))) (fun ev20 hx26=>?_)))
  obtain⟨hv22,hc23⟩:=hx26
  refine Ah (v:=nV .u16 ((w2 xs 0)%65536)) ((Ys.p (v:=.int .u16 (Cg .u16 ((w2 xs 0:Nat):Int)))).conseq (Af (C6 rfl _))) (Ab 1 (Ax rfl (Au [0] [1,2] (fun w_ hm_ hl_=>(Gb xs ev20.a (xs.length-2) ev20.cap false ne14.b 2 2 _ hl_ (hv22 _ (by rw[List.drop_zero];exact(FS.at (i:=1) (t:=5) hm_ rfl (Aj ok15 (Ba _))))) I9 Ag Ag Ag Al))) (fun ev27 hx33=>?_)))
  obtain⟨hv29,hc30⟩:=hx33
  refine Ah (v:=nV .u16 ((w2 xs 2)%65536)) ((Ys.p (v:=.int .u16 (Cg .u16 ((w2 xs 2:Nat):Int)))).conseq (Af (C6 rfl _))) (Ab 1 (Ai rfl (Bg p6 0 2 0 (nV .u16 ((w2 xs 0)%65536)) Tryz.sizeOf22 rfl rfl) (fun _=>Ab 1 (Ai rfl (Bg p6 1 2 0 (nV .u16 ((w2 xs 2)%65536)) Tryz.sizeOf22 rfl rfl) (fun _=>?_)))))
  refine Ac (hK19 _ _ _ (Ad (fun K35 hK35=>Aa (Ab 1 ?_))))
  refine Ax rfl (Au [0] [1,2] (fun w_ hm_ hl_=>(Gb xs ev27.a (xs.length-4) ev27.cap false ne14.b 4 2 _ hl_ (hv29 _ (hv22 _ (by rw[List.drop_zero];exact(FS.at (i:=1) (t:=5) hm_ rfl (Aj ok15 (Ba _)))))) I9 Ag Ag Ag Al))) (fun ev36 hx42=>?_)
  obtain⟨hv38,hc39⟩:=hx42
  refine Ah (v:=nV .i64 (w2 xs 4)) ((Ys.p (v:=.int .i64 (Cg .i64 ((w2 xs 4:Nat):Int)))).conseq (Af (Cz Ag Ag))) (Ab 1 (Ac (hK35 _ _ _ (Ad (fun K44 hK44=>?_)))))
  refine Aa (Ab 1 (Ax rfl (Au [0] [1,2] (fun w_ hm_ hl_=>(Gb xs ev36.a (xs.length-6) ev36.cap false ne14.b 6 2 _ hl_ (hv38 _ (hv29 _ (hv22 _ (by rw[List.drop_zero];exact(FS.at (i:=1) (t:=5) hm_ rfl (Aj ok15 (Ba _))))))) I9 Ag Ag Ag Al))) (fun ev45 hx51=>?_)))
  obtain⟨hv47,hc48⟩:=hx51
  refine Ab 2 (Ai rfl (Bg p6 2 2 0 (bV (((w2 xs 6:Nat):Int)==0)) Tryz.sizeOf4 rfl rfl) (fun _=>?_))
  refine Ac (hK44 _ _ _ (Ad (fun K53 hK53=>W.block (Ad (fun K54 hK54=>?_)))))
  refine Aa (Ab 3 ?_)
  refine Am (v:=nV .i64 (w2 xs 4)) (!(decide (((w2 xs 4:Nat):Int)<8))) rfl (B3 rfl Ae) rfl (fun hg55=>?_) ?_
  ·exact Ys.p
  refine Am (v:=sL a xs.length cap) (!(decide (((w2 xs 4:Nat):Int)<8))) rfl (B3 rfl Ae) rfl (fun hg56=>?_) ?_
  ·exact Ys.p
  refine Am (v:=nV .i64 xs.length) (!(decide (((w2 xs 4:Nat):Int)<8))) rfl (B3 rfl Ae) rfl (fun hg57=>?_) ?_
  ·have qhg57:=hg57;try simp only[zA]at qhg57
   refine Bh (t:=39) (v0:=sL a xs.length cap) (lz (g:= !(decide (((w2 xs 4:Nat):Int)<8))) (u:=undef) hg57 Ae) ?_
   exact Ys.p
  refine Am (v:=bV (decide (((w2 xs 4:Nat):Int)>(xs.length:Int)))) (!(decide (((w2 xs 4:Nat):Int)<8))) rfl (B3 rfl Ae) rfl (fun hg58=>?_) ?_
  ·have qhg58:=hg58;try simp only[zA]at qhg58
   refine Bh (t:=38) (v0:=nV .i64 (w2 xs 4)) (lz (g:= !(decide (((w2 xs 4:Nat):Int)<8))) (u:=undef) hg58 Ae) (Bh (t:=40) (v0:=nV .i64 xs.length) (lz (g:= !(decide (((w2 xs 4:Nat):Int)<8))) (u:=undef) hg58 Ae) ?_)
   exact Ys.p
  refine Ah (v:=bV ((decide (((w2 xs 4:Nat):Int)<8))||(decide (((w2 xs 4:Nat):Int)>(xs.length:Int))))) (Dr (e:=decide (((w2 xs 4:Nat):Int)<8)) (b:=decide (((w2 xs 4:Nat):Int)>(xs.length:Int))) rfl Ae Ae Ae) (Ab 1 (Ac (hK54 _ _ _ ?_)))
  refine Ao ((decide (((w2 xs 4:Nat):Int)<8))||(decide (((w2 xs 4:Nat):Int)>(xs.length:Int)))) Ae (fun h60=>?_) (fun h61=>?_)
  ·have qh60:=h60;try simp only[zA]at qh60
   refine Ad (fun K62 hK62=>Aa (Ab 1 (Ai rfl (A4 p6 0 2 0 Qg Tryz.sizeOf124 rfl rfl) (fun _=>Ab 1 ?_))))
   refine Ac (hK62 _ _ _ (Ap [2] Al rfl (Aq (fn:=Tryz.f85) rfl ?_)))
   have hR:uR s d xs=11:=by unfold uR;rw[if_neg Ag,if_neg Ag,if_pos Ag]
   have hG:ug s d xs=false:=by unfold ug;rw[hR];rfl
   have hD:uD s d xs=[]:=by unfold uD;rw[hG];rfl
   exact fun w_ hS_=>B9 rfl (Bq p6 0 0 0 zl3 Tryz.isAgg124 Tryz.sizeOf124) (Aw (iV .i64 11)) hS_ ⟨FS.nul,(by rw[hD];exact Bw 1),congrArg Ending.returned ((by simp only[uF,uP,hG,cond_false,Bool.false_and,hR,hD];rfl)),(Mem.cast (by rw[hD];rfl) (Mem.push (hS_.pick [] Al rfl)))⟩
  ·have qh61:=h61;try simp only[zA]at qh61
   refine Ad (fun K64 hK64=>Dh [(0,false),(1,false),(2,false),(3,false),(4,true),(5,true),(6,true),(8,true),(9,true),(10,true),(7,false),(11,false),(12,false),(13,false),(14,false),(15,false)] [4,5,6,8,9,10] (Wd.yc (v:=pV p6 2) rfl rfl rfl (Ys.yc (Ys.p)) (.inr fun _ h_=>h_) (Wd.yc (v:=bV (((w2 xs 6:Nat):Int)==0)) rfl rfl rfl (Ys.yc (An p6 2 2 0 Tryz.isAgg4)) (.inr fun _ h_=>h_) (Wd.yc (v:=bV (!(((w2 xs 6:Nat):Int)==0))) rfl rfl rfl (Ys.yc (Ys.p)) (.inr fun _ h_=>h_) ?_))))
   refine Wd.yc (v:=bV (!(((w2 xs 6:Nat):Int)==0))) rfl rfl rfl (Ys.yc (Ys.p)) (.inr fun _ h_=>h_) ?_
   refine Bs (v:=nV .u32 s) (!(((w2 xs 6:Nat):Int)==0)) rfl (Bi rfl Ae) rfl (fun hg65=>?_) ?_
   ·exact Ys.p
   refine Bs (v:=nV .u32 d) (!(((w2 xs 6:Nat):Int)==0)) rfl (Bi rfl Ae) rfl (fun hg66=>?_) ?_
   ·exact Ys.p
   refine Bs (v:=nV .i64 (w2 xs 4)) (!(((w2 xs 6:Nat):Int)==0)) rfl (Bi rfl Ae) rfl (fun hg67=>?_) ?_
   ·exact Ys.p
   refine Bs (v:=sL a xs.length cap) (!(((w2 xs 6:Nat):Int)==0)) rfl (Bi rfl Ae) rfl (fun hg68=>?_) ?_
   ·exact Ys.p
   refine Bs (v:=nV .i64 (w2 xs 4)) (!(((w2 xs 6:Nat):Int)==0)) rfl (Bi rfl Ae) rfl (fun hg69=>?_) ?_
   ·exact Ys.p
   refine Bs (v:=sL a (w2 xs 4) cap) (!(((w2 xs 6:Nat):Int)==0)) rfl (Bi rfl Ae) rfl (fun hg70=>?_) ?_
   ·have qhg70:=hg70;try simp only[zA]at qhg70
    refine Bh (t:=53) (v0:=sL a xs.length cap) (lz (g:= !(((w2 xs 6:Nat):Int)==0)) (u:=undef) hg70 Ae) (Bh (t:=54) (v0:=nV .i64 (w2 xs 4)) (lz (g:= !(((w2 xs 6:Nat):Int)==0)) (u:=undef) hg70 Ae) ?_)
    exact Dg (a:=a) (len:=xs.length) (cap:=cap) (sz:=1) (k:=.i64) (i:=((w2 xs 4:Nat):Int)) rfl Ae Ae Tryz.runUnderlying38 Tryz.sizeOf5 Ag Ag
   refine Zx (!(((w2 xs 6:Nat):Int)==0)) (fun h71=>?_) (fun h72=>?_)
   ·have qh71:=h71;try simp only[zA]at qh71
    refine Kg 47 (v0:=.bool true) (Wc (e:= !(((w2 xs 6:Nat):Int)==0)) Ae h71) (Kg 48 (v0:=.bool true) (Wc (e:= !(((w2 xs 6:Nat):Int)==0)) Ae h71) (Kg 49 (v0:=nV .u32 s) (lz (g:= !(((w2 xs 6:Nat):Int)==0)) (u:=undef) h71 Ae) (Kg 50 (v0:=nV .u32 d) (lz (g:= !(((w2 xs 6:Nat):Int)==0)) (u:=undef) h71 Ae) (Kg 51 (v0:=nV .i64 (w2 xs 4)) (lz (g:= !(((w2 xs 6:Nat):Int)==0)) (u:=undef) h71 Ae) ?_))))
    refine Kg 53 (v0:=sL a xs.length cap) (lz (g:= !(((w2 xs 6:Nat):Int)==0)) (u:=undef) h71 Ae) (Kg 54 (v0:=nV .i64 (w2 xs 4)) (lz (g:= !(((w2 xs 6:Nat):Int)==0)) (u:=undef) h71 Ae) (Kg 55 (v0:=sL a (w2 xs 4) cap) (lz (g:= !(((w2 xs 6:Nat):Int)==0)) (u:=undef) h71 Ae) (Adi rfl Ae (Au [] [0,1,2] (fun w_ hm_ hl_=>(L3 s d (17:UInt8) (w2 xs 4) _ Ag Ag Ag))) (.inr fun _ _ h_=>h_.pick [1,2,3] Al rfl) (fun g73 ok74=>Zh rfl Ae (Bd (mk:=fun b_=>.slice (some ⟨b_,0,none⟩) 2 2) (t:=38) (cs:=[sV g73 12,sL a (w2 xs 4) cap]) rfl (fun _=>kr)) (.inr fun _ _ h_=>h_.pick [2,3,4] Al rfl) (fun p56=>?_)))))
    refine Cx (v:=bV (((Dy ((Eg s d (17:UInt8) (w2 xs 4))++(xs.take (w2 xs 4))):Nat):Int)==0)) (true) rfl Ae rfl (fun _=>A9 (fun w_ hm_=>(O7 [⟨g73.a,(Eg s d (17:UInt8) (w2 xs 4)),g73.cap⟩,⟨a,(xs.take (w2 xs 4)),cap⟩] ((Eg s d (17:UInt8) (w2 xs 4))++(xs.take (w2 xs 4))) (some ⟨p56,0,none⟩) 2 2 (12+(w2 xs 4)) _ rfl (by simp[jn]) Kc (by first|exact Az (i:=0) (j:=0) (t:=38) (b:=p56) hm_ rfl rfl|(rw[show mc Ng ([⟨g73.a,(Eg s d (17:UInt8) (w2 xs 4)),g73.cap⟩,⟨a,(xs.take (w2 xs 4)),cap⟩]:List SV)=[sV g73 12,Value.slice a (w2 xs 4) cap] by(simp[mc,A8,By];try omega)];exact Az (i:=0) (j:=0) (t:=38) (b:=p56) hm_ rfl rfl)) (List.forall_mem_cons.2 ⟨(FS.at (i:=1) (t:=5) hm_ rfl (Aj ok74 (by rw[Da,By]))),(List.forall_mem_cons.2 ⟨((hat.mem0 hm_).mtake (w2 xs 4)),(fun _ h=>by cases h)⟩)⟩) I8 A5 A5))) (.inr fun _ h_=>h_.pick [2,3,4] Al rfl) (Cx (v:=bV (!(((Dy ((Eg s d (17:UInt8) (w2 xs 4))++(xs.take (w2 xs 4))):Nat):Int)==0))) (true) rfl Ae rfl (fun _=>Ys.yc (Ys.p)) (.inr fun _ h_=>h_.pick [2,3,4] Al rfl) (Wd.yc (v:=bV (!(((Dy ((Eg s d (17:UInt8) (w2 xs 4))++(xs.take (w2 xs 4))):Nat):Int)==0))) rfl rfl rfl (Ys.yc (Ys.p)) (.inr fun _ h_=>h_.pick [2,3,4] Al rfl) (Wd.yc (v:=bV (!(((Dy ((Eg s d (17:UInt8) (w2 xs 4))++(xs.take (w2 xs 4))):Nat):Int)==0))) rfl rfl rfl (Ys.yc (Ys.p)) (.inr fun _ h_=>h_.pick [2,3,4] Al rfl) (A7 ?_))))
    refine hK64 _ _ _ (Ap [2,3,4] Al rfl ?_)
    refine Ao (!(((Dy ((Eg s d (17:UInt8) (w2 xs 4))++(xs.take (w2 xs 4))):Nat):Int)==0)) Ae (fun h77=>?_) (fun h78=>?_)
    ·have qh77:=h77;try simp only[zA]at qh77
     refine Ad (fun K79 hK79=>Aa (Ab 1 (Ai rfl (A4 p6 0 2 0 Qg Tryz.sizeOf124 rfl rfl) (fun _=>Ab 1 ?_))))
     refine Ac (hK79 _ _ _ (Ap [2] Al rfl (Aq (fn:=Tryz.f85) rfl ?_)))
     have hlast:(w2 xs 6≠0∧Dy (Eg s d 17 (w2 xs 4)++xs.take (w2 xs 4))≠0):=by have zh71:=h71;simp at zh71;have zh77:=h77;simp at zh77;omega
     have hR:uR s d xs=12:=by unfold uR;rw[if_neg Ag,if_neg Ag,if_neg Ag,if_pos hlast]
     have hG:ug s d xs=false:=by unfold ug;rw[hR];rfl
     have hD:uD s d xs=[]:=by unfold uD;rw[hG];rfl
     exact fun w_ hS_=>B9 rfl (Bq p6 0 0 0 zl3 Tryz.isAgg124 Tryz.sizeOf124) (Aw (iV .i64 12)) hS_ ⟨FS.nul,(by rw[hD];exact Bw 1),congrArg Ending.returned ((by simp only[uF,uP,hG,cond_false,Bool.false_and,hR,hD];rfl)),(Mem.cast (by rw[hD];rfl) (Mem.push (hS_.pick [] Al rfl)))⟩
    ·have qh78:=h78;try simp only[zA]at qh78
     refine Ak (hK53 _ _ _ (Ad (fun K82 hK82=>Aa (Ab 2 ?_))))
     refine Ah (v:=iV .i64 (((w2 xs 4:Nat):Int)-8)) ((Ys.p (v:=.int .i64 (Hk .i64 ((w2 xs 4:Nat):Int) 8))).conseq (Af (Er rfl Ag Ag))) (Ax rfl (Au [0] [1,2] (fun w_ hm_ hl_=>(Ib (xs.drop 8) ev45.a (xs.length-8) ev45.cap false ne14.b (((w2 xs 4:Nat):Int)-8) _ Zc hl_ (hv47 _ (hv38 _ (hv29 _ (hv22 _ (by rw[List.drop_zero];exact(FS.at (i:=1) (t:=5) hm_ rfl (Aj ok15 (Ba _)))))))) Ex Ex))) (fun eg83 hx89=>?_))
     obtain⟨ok84,hv85,hc86⟩:=hx89
     refine Ab 1 (Ai rfl (Bg p6 3 3 0 (sL eg83.g.a ((Cp (xs.drop 8) (((w2 xs 4:Nat):Int)-8)).length) eg83.g.cap) Tryz.sizeOf38 rfl rfl) (fun _=>?_))
     refine Ac (hK82 _ _ _ (Ap [1,3] Al rfl (Ad (fun K91 hK91=>Aa ?_))))
     refine Ah (A0 p6 0 1 0 [nV .u16 ((w2 xs 0)%65536),nV .u16 ((w2 xs 2)%65536),bV (((w2 xs 6:Nat):Int)==0),sL eg83.g.a ((Cp (xs.drop 8) (((w2 xs 4:Nat):Int)-8)).length) eg83.g.cap] Tryz.isAgg124 Tryz.sizeOf124) (Ai rfl (A4 p6 0 1 0 [nV .u16 ((w2 xs 0)%65536),nV .u16 ((w2 xs 2)%65536),bV (((w2 xs 6:Nat):Int)==0),sL eg83.g.a ((Cp (xs.drop 8) (((w2 xs 4:Nat):Int)-8)).length) eg83.g.cap] Tryz.sizeOf124 rfl rfl) (fun _=>?_))
     refine Ab 1 (Ac (hK91 _ _ _ (Aq (fn:=Tryz.f85) rfl ?_)))
     have hlast: ¬(w2 xs 6≠0∧Dy (Eg s d 17 (w2 xs 4)++xs.take (w2 xs 4))≠0):=by have zh71:=h71;simp at zh71;have zh78:=h78;simp at zh78;omega
     have hR:uR s d xs=0:=by unfold uR;rw[if_neg Ag,if_neg Ag,if_neg Ag,if_neg hlast]
     have hG:ug s d xs=true:=by unfold ug;rw[hR];rfl
     have hD:uD s d xs=Cp (xs.drop 8) (((w2 xs 4:Nat):Int)-8):=by unfold uD;rw[hG];show(xs.drop 8).take (w2 xs 4-8)=_;rw[show((w2 xs 4:Nat):Int)-8=((w2 xs 4-8:Nat):Int) by omega,Mo Ag]
     have hDl:(uD s d xs).length=(Cp (xs.drop 8) (((w2 xs 4:Nat):Int)-8)).length:=by rw[hD];try(rw[List.length_take,List.length_drop];omega)
     exact fun w_ hS_=>B9 rfl (Bq p6 0 1 0 [nV .u16 ((w2 xs 0)%65536),nV .u16 ((w2 xs 2)%65536),bV (((w2 xs 6:Nat):Int)==0),Value.slice eg83.g.a ((Cp (xs.drop 8) (((w2 xs 4:Nat):Int)-8)).length) eg83.g.cap] Tryz.isAgg124 Tryz.sizeOf124) (Aw (iV .i64 0)) hS_ ⟨eg83.g,(by rw[hDl];exact ok84),congrArg Ending.returned ((by rw[hDl];(try rw[p67]);simp only[uF,uP,hG,cond_true,Bool.true_and,hR,z60,Nat.mod_eq_of_lt (Dx xs _)];try rfl)),(Mem.cast (by rw[hD];rfl) (hS_.pick [0] Al rfl))⟩
   ·have qh72:=h72;try simp only[zA]at qh72
    refine Kg 47 (v0:=.bool false) (Wc (e:= !(((w2 xs 6:Nat):Int)==0)) Ae h72) (Kg 48 (v0:=.bool false) (Wc (e:= !(((w2 xs 6:Nat):Int)==0)) Ae h72) (Lc rfl Ae rfl (.inr fun _ h_=>h_) (Lc rfl Ae rfl (.inr fun _ h_=>h_) (Lc rfl Ae rfl (.inr fun _ h_=>h_) ?_))))
    refine Lc rfl Ae rfl (.inr fun _ h_=>h_) (Wd.yc (v:=bV false) rfl rfl rfl (Ys.yc (Ys.p)) (.inr fun _ h_=>h_) (Wd.yc (v:=bV false) rfl rfl rfl (Ys.yc (Ys.p)) (.inr fun _ h_=>h_) (A7 (hK64 _ _ _ ?_))))
    refine B4 Ae (Ak (hK53 _ _ _ (Ad (fun K95 hK95=>Aa ?_))))
    refine Ab 2 (Ah (v:=iV .i64 (((w2 xs 4:Nat):Int)-8)) ((Ys.p (v:=.int .i64 (Hk .i64 ((w2 xs 4:Nat):Int) 8))).conseq (Af (Er rfl Ag Ag))) (Ax rfl (Au [0] [1,2] (fun w_ hm_ hl_=>(Ib (xs.drop 8) ev45.a (xs.length-8) ev45.cap false ne14.b (((w2 xs 4:Nat):Int)-8) _ Zc hl_ (hv47 _ (hv38 _ (hv29 _ (hv22 _ (by rw[List.drop_zero];exact(FS.at (i:=1) (t:=5) hm_ rfl (Aj ok15 (Ba _)))))))) Ex Ex))) (fun eg96 hx102=>?_)))
    obtain⟨ok97,hv98,hc99⟩:=hx102
    refine Ab 1 (Ai rfl (Bg p6 3 3 0 (sL eg96.g.a ((Cp (xs.drop 8) (((w2 xs 4:Nat):Int)-8)).length) eg96.g.cap) Tryz.sizeOf38 rfl rfl) (fun _=>?_))
    refine Ac (hK95 _ _ _ (Ap [1,3] Al rfl (Ad (fun K104 hK104=>Aa ?_))))
    refine Ah (A0 p6 0 1 0 [nV .u16 ((w2 xs 0)%65536),nV .u16 ((w2 xs 2)%65536),bV (((w2 xs 6:Nat):Int)==0),sL eg96.g.a ((Cp (xs.drop 8) (((w2 xs 4:Nat):Int)-8)).length) eg96.g.cap] Tryz.isAgg124 Tryz.sizeOf124) (Ai rfl (A4 p6 0 1 0 [nV .u16 ((w2 xs 0)%65536),nV .u16 ((w2 xs 2)%65536),bV (((w2 xs 6:Nat):Int)==0),sL eg96.g.a ((Cp (xs.drop 8) (((w2 xs 4:Nat):Int)-8)).length) eg96.g.cap] Tryz.sizeOf124 rfl rfl) (fun _=>?_))
    refine Ab 1 (Ac (hK104 _ _ _ (Aq (fn:=Tryz.f85) rfl ?_)))
    have hlast: ¬(w2 xs 6≠0∧Dy (Eg s d 17 (w2 xs 4)++xs.take (w2 xs 4))≠0):=by have zh72:=h72;simp at zh72;omega
    have hR:uR s d xs=0:=by unfold uR;rw[if_neg Ag,if_neg Ag,if_neg Ag,if_neg hlast]
    have hG:ug s d xs=true:=by unfold ug;rw[hR];rfl
    have hD:uD s d xs=Cp (xs.drop 8) (((w2 xs 4:Nat):Int)-8):=by unfold uD;rw[hG];show(xs.drop 8).take (w2 xs 4-8)=_;rw[show((w2 xs 4:Nat):Int)-8=((w2 xs 4-8:Nat):Int) by omega,Mo Ag]
    have hDl:(uD s d xs).length=(Cp (xs.drop 8) (((w2 xs 4:Nat):Int)-8)).length:=by rw[hD];try(rw[List.length_take,List.length_drop];omega)
    exact fun w_ hS_=>B9 rfl (Bq p6 0 1 0 [nV .u16 ((w2 xs 0)%65536),nV .u16 ((w2 xs 2)%65536),bV (((w2 xs 6:Nat):Int)==0),Value.slice eg96.g.a ((Cp (xs.drop 8) (((w2 xs 4:Nat):Int)-8)).length) eg96.g.cap] Tryz.isAgg124 Tryz.sizeOf124) (Aw (iV .i64 0)) hS_ ⟨eg96.g,(by rw[hDl];exact ok97),congrArg Ending.returned ((by rw[hDl];(try rw[p67]);simp only[uF,uP,hG,cond_true,Bool.true_and,hR,z60,Nat.mod_eq_of_lt (Dx xs _)];try rfl)),(Mem.cast (by rw[hD];rfl) (hS_.pick [0] Al rfl))⟩
abbrev Qh(xs:List UInt8):Bool:=((((xs.getD 6 0).toNat:Int)==0)&&((((xs.getD 7 0).toNat:Nat):Int)==0))
abbrev Qi:List Value:=zl3
set_option maxHeartbeats 1000000 in
theorem Aez(s d:Nat)(xs:List UInt8)(a:Option Addr)(cap:Nat)(w:World)(hat:At w a (Ci xs))(hs:s<4294967296)(hd:d<4294967296)(hl:xs.length≤100000)(hlc:xs.length≤cap):Calls Tryz.prog 51 #[nV .u32 s,nV .u32 d,sL a xs.length cap] w (Bj w (fun g:FS=>g.ok 1 (uD s d xs).length) (fun g=>.tuple #[.agg [.int .u16 ((uF s d xs 0:Nat):Int),.int .u16 ((uF s d xs 2:Nat):Int),.bool (uP s d xs),.slice g.a (uD s d xs).length g.cap].toArray,.int .i64 (uR s d xs)]) [] (fun g=>[g.seg 5 (Ci (uD s d xs))])):=by
 have hw4:w2 xs 4=256*(xs.getD 4 0).toNat+(xs.getD 5 0).toNat:=rfl
 refine Ar (M:=[]) (LL:=[]) (n:=86) Tryz.func51 rfl rfl A5 (Mem.refl _) (Ad (fun K1 hK1=>?_))
 refine Aa (Ai rfl (Bc Tryz.zeroValue124) (fun p6=>?_))
 refine Ab 1 (Ac (hK1 _ _ _ (Ad (fun K3 hK3=>Ad (fun K4 hK4=>?_)))))
 refine Aa (Ab 3 (Ac (hK4 _ _ _ ?_)))
 refine Ao (decide (((xs.length:Nat):Int)<8)) Ae (fun h6=>?_) (fun h7=>?_)
 ·have qh6:=h6;try simp only[zA]at qh6
  refine Ad (fun K8 hK8=>Aa (Ab 1 (Ai rfl (A4 p6 0 0 0 Qi Tryz.sizeOf124 rfl rfl) (fun _=>Ab 1 ?_))))
  refine Ac (hK8 _ _ _ (Aq (fn:=Tryz.f51) rfl ?_))
  have hR:uR s d xs=10:=by unfold uR;rw[if_pos Ag]
  have hG:ug s d xs=false:=by unfold ug;rw[hR];rfl
  have hD:uD s d xs=[]:=by unfold uD;rw[hG];rfl
  exact fun w_ hS_=>B9 rfl (Bq p6 0 0 0 zl3 Tryz.isAgg124 Tryz.sizeOf124) (Aw (iV .i64 10)) hS_ ⟨FS.nul,(by rw[hD];exact Bw 1),congrArg Ending.returned ((by simp only[uF,uP,hG,cond_false,Bool.false_and,hR,hD];rfl)),(Mem.cast (by rw[hD];rfl) (Mem.push (hS_.pick [] Al rfl)))⟩
 ·have qh7:=h7;try simp only[zA]at qh7
  refine Ak (hK3 _ _ _ (Ad (fun K11 hK11=>Ad (fun K12 hK12=>Aa ?_))))
  refine Ab 3 (Ac (hK12 _ _ _ ?_))
  refine Ao (decide (((xs.length:Nat):Int)>1480)) Ae (fun h14=>?_) (fun h15=>?_)
  ·have qh14:=h14;try simp only[zA]at qh14
   refine Ad (fun K16 hK16=>Aa (Ab 1 (Ai rfl (A4 p6 0 0 0 Qi Tryz.sizeOf124 rfl rfl) (fun _=>Ab 1 ?_))))
   refine Ac (hK16 _ _ _ (Aq (fn:=Tryz.f51) rfl ?_))
   have hR:uR s d xs=14:=by unfold uR;rw[if_neg Ag,if_pos Ag]
   have hG:ug s d xs=false:=by unfold ug;rw[hR];rfl
   have hD:uD s d xs=[]:=by unfold uD;rw[hG];rfl
   exact fun w_ hS_=>B9 rfl (Bq p6 0 0 0 zl3 Tryz.isAgg124 Tryz.sizeOf124) (Aw (iV .i64 14)) hS_ ⟨FS.nul,(by rw[hD];exact Bw 1),congrArg Ending.returned ((by simp only[uF,uP,hG,cond_false,Bool.false_and,hR,hD];rfl)),(Mem.cast (by rw[hD];rfl) (Mem.push (hS_.pick [] Al rfl)))⟩
  ·have qh15:=h15;try simp only[zA]at qh15
   refine Ak (hK11 _ _ _ (Ad (fun K19 hK19=>Dh [(0,true),(1,true),(2,true),(3,true),(4,true),(5,false),(6,false),(7,false),(8,false),(9,false),(10,false)] [0,1,2,3,4] (Ay 1 ?_))))
   refine Wd.ys (v:=pL (some (Co a 4))) rfl rfl rfl (Bm fun w_ h_=>Av (k:=.i64) (a:=a) (len:=xs.length) (cap:=cap) (i:=4) (sz:=1) rfl Ae Ae Tryz.runUnderlying38 Tryz.sizeOf5 Ag Ag ((hat.mem0 h_).here Hj)) (Wd.ys (v:=nV .u8 ((xs.getD 4 0).toNat)) rfl rfl rfl (Ys.ld (a:=Co a 4) rfl Ae Tryz.isAgg5 (fun w_ h_=>(hat.mem0 h_).ld (Ez 0 Ex))) ?_)
   have hb20:(xs.getD 4 0).toNat<256:=UInt8.toNat_lt _
   refine Wd.ys (v:=nV .i64 ((xs.getD 4 0).toNat)) rfl rfl rfl ((Ys.p (v:=.int .i64 (Cg .i64 ((xs.getD 4 0).toNat:Int)))).conseq (Af (Cz Ag Ag))) (Wd.ys (v:=nV .i64 (256*((xs.getD 4 0).toNat))) rfl rfl rfl ((Ys.p (v:=.int .i64 (Ld .i64 256 ((xs.getD 4 0).toNat:Int)))).conseq (Af (Nn (by first|omega|rfl|(push_cast;rfl)) Ag Ag))) (Wd.yc (v:=sL a xs.length cap) rfl rfl rfl (Ys.yc (Ys.p)) (.inr fun _ h_=>h_) (Wd.yc (v:=pL (some (Co a 5))) rfl rfl rfl (Ys.yc (Bm fun w_ h_=>Av (k:=.i64) (a:=a) (len:=xs.length) (cap:=cap) (i:=5) (sz:=1) rfl Ae Ae Tryz.runUnderlying38 Tryz.sizeOf5 Ag Ag ((hat.mem0 h_).here Hj))) (.inr fun _ h_=>h_) (Wd.yc (v:=nV .u8 ((xs.getD 5 0).toNat)) rfl rfl rfl (Ys.yc (Ys.ld (a:=Co a 5) rfl Ae Tryz.isAgg5 (fun w_ h_=>(hat.mem0 h_).ld (Ez 0 Ex)))) (.inr fun _ h_=>h_) ?_))))
   have hb21:(xs.getD 5 0).toNat<256:=UInt8.toNat_lt _
   refine Wd.yc (v:=nV .i64 ((xs.getD 5 0).toNat)) rfl rfl rfl (Ys.yc ((Ys.p (v:=.int .i64 (Cg .i64 ((xs.getD 5 0).toNat:Int)))).conseq (Af (Cz Ag Ag)))) (.inr fun _ h_=>h_) (Wd.yc (v:=nV .i64 ((256*((xs.getD 4 0).toNat))+((xs.getD 5 0).toNat))) rfl rfl rfl (Ys.yc ((Ys.p (v:=.int .i64 (Bt .i64 ((256*((xs.getD 4 0).toNat):Nat):Int) ((xs.getD 5 0).toNat:Int)))).conseq (Af (A6 Ag Ag Ag)))) (.inr fun _ h_=>h_) (Wd.yc (v:=nV .i64 ((256*((xs.getD 4 0).toNat))+((xs.getD 5 0).toNat))) rfl rfl rfl (Ys.yc (Ys.p)) (.inl Ae) (A7 (hK19 _ _ _ ?_))))
   refine Ad (fun K23 hK23=>Ad (fun K24 hK24=>?_))
   refine Aa (Ab 3 ?_)
   refine Am (v:=nV .i64 ((256*((xs.getD 4 0).toNat))+((xs.getD 5 0).toNat))) (!(decide ((((256*((xs.getD 4 0).toNat))+((xs.getD 5 0).toNat):Nat):Int)<8))) rfl (B3 rfl Ae) rfl (fun hg25=>?_) ?_
   ·exact Ys.p
   refine Am (v:=sL a xs.length cap) (!(decide ((((256*((xs.getD 4 0).toNat))+((xs.getD 5 0).toNat):Nat):Int)<8))) rfl (B3 rfl Ae) rfl (fun hg26=>?_) ?_
   ·exact Ys.p
   refine Am (v:=nV .i64 xs.length) (!(decide ((((256*((xs.getD 4 0).toNat))+((xs.getD 5 0).toNat):Nat):Int)<8))) rfl (B3 rfl Ae) rfl (fun hg27=>?_) ?_
   ·have qhg27:=hg27;try simp only[zA]at qhg27
    refine Bh (t:=32) (v0:=sL a xs.length cap) (lz (g:= !(decide ((((256*((xs.getD 4 0).toNat))+((xs.getD 5 0).toNat):Nat):Int)<8))) (u:=undef) hg27 Ae) ?_
    exact Ys.p
   refine Am (v:=bV (decide ((((256*((xs.getD 4 0).toNat))+((xs.getD 5 0).toNat):Nat):Int)>(xs.length:Int)))) (!(decide ((((256*((xs.getD 4 0).toNat))+((xs.getD 5 0).toNat):Nat):Int)<8))) rfl (B3 rfl Ae) rfl (fun hg28=>?_) ?_
   ·have qhg28:=hg28;try simp only[zA]at qhg28
    refine Bh (t:=31) (v0:=nV .i64 ((256*((xs.getD 4 0).toNat))+((xs.getD 5 0).toNat))) (lz (g:= !(decide ((((256*((xs.getD 4 0).toNat))+((xs.getD 5 0).toNat):Nat):Int)<8))) (u:=undef) hg28 Ae) (Bh (t:=33) (v0:=nV .i64 xs.length) (lz (g:= !(decide ((((256*((xs.getD 4 0).toNat))+((xs.getD 5 0).toNat):Nat):Int)<8))) (u:=undef) hg28 Ae) ?_)
    exact Ys.p
   refine Ah (v:=bV ((decide ((((256*((xs.getD 4 0).toNat))+((xs.getD 5 0).toNat):Nat):Int)<8))||(decide ((((256*((xs.getD 4 0).toNat))+((xs.getD 5 0).toNat):Nat):Int)>(xs.length:Int))))) (Dr (e:=decide ((((256*((xs.getD 4 0).toNat))+((xs.getD 5 0).toNat):Nat):Int)<8)) (b:=decide ((((256*((xs.getD 4 0).toNat))+((xs.getD 5 0).toNat):Nat):Int)>(xs.length:Int))) rfl Ae Ae Ae) (Ac (hK24 _ _ _ ?_))
   refine Ao ((decide ((((256*((xs.getD 4 0).toNat))+((xs.getD 5 0).toNat):Nat):Int)<8))||(decide ((((256*((xs.getD 4 0).toNat))+((xs.getD 5 0).toNat):Nat):Int)>(xs.length:Int)))) Ae (fun h30=>?_) (fun h31=>?_)
   ·have qh30:=h30;try simp only[zA]at qh30
    refine Ad (fun K32 hK32=>Aa (Ab 1 (Ai rfl (A4 p6 0 0 0 Qi Tryz.sizeOf124 rfl rfl) (fun _=>Ab 1 ?_))))
    refine Ac (hK32 _ _ _ (Aq (fn:=Tryz.f51) rfl ?_))
    have hR:uR s d xs=11:=by unfold uR;rw[if_neg Ag,if_neg Ag,if_pos Ag]
    have hG:ug s d xs=false:=by unfold ug;rw[hR];rfl
    have hD:uD s d xs=[]:=by unfold uD;rw[hG];rfl
    exact fun w_ hS_=>B9 rfl (Bq p6 0 0 0 zl3 Tryz.isAgg124 Tryz.sizeOf124) (Aw (iV .i64 11)) hS_ ⟨FS.nul,(by rw[hD];exact Bw 1),congrArg Ending.returned ((by simp only[uF,uP,hG,cond_false,Bool.false_and,hR,hD];rfl)),(Mem.cast (by rw[hD];rfl) (Mem.push (hS_.pick [] Al rfl)))⟩
   ·have qh31:=h31;try simp only[zA]at qh31
    refine Ak (hK23 _ _ _ (Ad (fun K35 hK35=>Aa (Ab 1 ?_))))
    refine Ah (v:=pL (some (Co a 6))) (Bm fun w_ h_=>Av (k:=.i64) (a:=a) (len:=xs.length) (cap:=cap) (i:=6) (sz:=1) rfl Ae Ae Tryz.runUnderlying38 Tryz.sizeOf5 Ag Ag ((hat.mem0 h_).here Hj)) (Ah (v:=nV .u8 ((xs.getD 6 0).toNat)) (Ys.ld (a:=Co a 6) rfl Ae Tryz.isAgg5 (fun w_ h_=>(hat.mem0 h_).ld (Ez 0 Ex))) ?_)
    have hb36:(xs.getD 6 0).toNat<256:=UInt8.toNat_lt _
    refine Ab 2 ?_
    refine Am (v:=sL a xs.length cap) ((((xs.getD 6 0).toNat:Nat):Int)==0) rfl (Bi rfl Ae) rfl (fun hg37=>?_) ?_
    ·exact Ys.p
    refine Am (v:=pL (some (Co a 7))) ((((xs.getD 6 0).toNat:Nat):Int)==0) rfl (Bi rfl Ae) rfl (fun hg38=>?_) ?_
    ·have qhg38:=hg38;try simp only[zA]at qhg38
     refine Bh (t:=42) (v0:=sL a xs.length cap) (lz (g:=((xs.getD 6 0).toNat:Int)==0) (u:=undef) hg38 Ae) ?_
     exact Bm fun w_ h_=>Av (k:=.i64) (a:=a) (len:=xs.length) (cap:=cap) (i:=7) (sz:=1) rfl Ae Ae Tryz.runUnderlying38 Tryz.sizeOf5 Ag Ag ((hat.mem0 h_).here Hj)
    refine Am (v:=nV .u8 ((xs.getD 7 0).toNat)) ((((xs.getD 6 0).toNat:Nat):Int)==0) rfl (Bi rfl Ae) rfl (fun hg39=>?_) ?_
    ·have qhg39:=hg39;try simp only[zA]at qhg39
     refine Bh (t:=43) (v0:=pL (some (Co a 7))) (lz (g:=((xs.getD 6 0).toNat:Int)==0) (u:=undef) hg39 Ae) ?_
     exact Ys.ld (a:=Co a 7) rfl Ae Tryz.isAgg5 (fun w_ h_=>(hat.mem0 h_).ld (Ez 0 Ex))
    refine Am (v:=bV ((((xs.getD 7 0).toNat:Nat):Int)==0)) ((((xs.getD 6 0).toNat:Nat):Int)==0) rfl (Bi rfl Ae) rfl (fun hg40=>?_) ?_
    ·refine Bh (t:=44) (v0:=nV .u8 ((xs.getD 7 0).toNat)) (lz (g:=((xs.getD 6 0).toNat:Int)==0) (u:=undef) hg40 Ae) ?_
     exact Ys.p
    refine Ah (v:=bV (Qh xs)) (D0 (e:=((xs.getD 6 0).toNat:Int)==0) (b:=((xs.getD 7 0).toNat:Int)==0) rfl Ae Ae Ae) (Ab 1 (Ac (hK35 _ _ _ (Ad (fun K42 hK42=>?_)))))
    refine Ad (fun K43 hK43=>Aa (Ab 3 ?_))
    refine Am (v:=nV .u32 s) (!(Qh xs)) rfl (Bi rfl Ae) rfl (fun hg44=>?_) ?_
    ·exact Ys.p
    refine Am (v:=nV .u32 d) (!(Qh xs)) rfl (Bi rfl Ae) rfl (fun hg45=>?_) ?_
    ·exact Ys.p
    refine Am (v:=sL a xs.length cap) (!(Qh xs)) rfl (Bi rfl Ae) rfl (fun hg46=>?_) ?_
    ·exact Ys.p
    refine Am (v:=nV .i64 ((256*((xs.getD 4 0).toNat))+((xs.getD 5 0).toNat))) (!(Qh xs)) rfl (Bi rfl Ae) rfl (fun hg47=>?_) ?_
    ·exact Ys.p
    refine Am (v:=sL a ((256*((xs.getD 4 0).toNat))+((xs.getD 5 0).toNat)) cap) (!(Qh xs)) rfl (Bi rfl Ae) rfl (fun hg48=>?_) ?_
    ·have qhg48:=hg48;try simp only[zA]at qhg48
     refine Bh (t:=52) (v0:=sL a xs.length cap) (lz (g:= !(Qh xs)) (u:=undef) hg48 Ae) (Bh (t:=53) (v0:=nV .i64 ((256*((xs.getD 4 0).toNat))+((xs.getD 5 0).toNat))) (lz (g:= !(Qh xs)) (u:=undef) hg48 Ae) ?_)
     exact Dg (a:=a) (len:=xs.length) (cap:=cap) (sz:=1) (k:=.i64) (i:=(((256*((xs.getD 4 0).toNat))+((xs.getD 5 0).toNat):Nat):Int)) rfl Ae Ae Tryz.runUnderlying38 Tryz.sizeOf5 Ag Ag
    have hk50:=Kt ((Eg s d (17:UInt8) (xs.take ((256*((xs.getD 4 0).toNat))+((xs.getD 5 0).toNat))).length++(xs.take ((256*((xs.getD 4 0).toNat))+((xs.getD 5 0).toNat)))))
    refine Dn (v:=nV .u16 (Dy (Eg s d (17:UInt8) (xs.take ((256*((xs.getD 4 0).toNat))+((xs.getD 5 0).toNat))).length++(xs.take ((256*((xs.getD 4 0).toNat))+((xs.getD 5 0).toNat)))))) (!(Qh xs)) rfl (Bi rfl Ae) rfl (fun hg49=>?_) ?_
    ·have qhg49:=hg49;try simp only[zA]at qhg49
     refine Eh (t:=50) (v0:=nV .u32 s) (lz (g:= !(Qh xs)) (u:=undef) hg49 Ae) (Eh (t:=51) (v0:=nV .u32 d) (lz (g:= !(Qh xs)) (u:=undef) hg49 Ae) (Eh (t:=54) (v0:=sL a ((256*((xs.getD 4 0).toNat))+((xs.getD 5 0).toNat)) cap) (lz (g:= !(Qh xs)) (u:=undef) hg49 Ae) ?_))
     exact A9 (fun w_ hm_=>(W9 s d (17:UInt8) (xs.take ((256*((xs.getD 4 0).toNat))+((xs.getD 5 0).toNat))) a ((256*((xs.getD 4 0).toNat))+((xs.getD 5 0).toNat)) cap _ (by first|rfl|(rw[List.length_take];omega)|(simp[A8,A8,By];done)|(simp[A8,A8,By];omega)) ((hat.mem0 hm_).mtake ((256*((xs.getD 4 0).toNat))+((xs.getD 5 0).toNat))) Ag Ag (by first|omega|(simp[A8,A8,By];omega)) Ex))
    refine Am (v:=bV (((Dy (Eg s d (17:UInt8) (xs.take ((256*((xs.getD 4 0).toNat))+((xs.getD 5 0).toNat))).length++(xs.take ((256*((xs.getD 4 0).toNat))+((xs.getD 5 0).toNat)))):Nat):Int) !=0)) (!(Qh xs)) rfl (Bi rfl Ae) rfl (fun hg51=>?_) ?_
    ·refine Bh (t:=55) (v0:=nV .u16 (Dy (Eg s d (17:UInt8) (xs.take ((256*((xs.getD 4 0).toNat))+((xs.getD 5 0).toNat))).length++(xs.take ((256*((xs.getD 4 0).toNat))+((xs.getD 5 0).toNat)))))) (lz (g:= !(Qh xs)) (u:=undef) hg51 Ae) ?_
     exact Ys.p
    refine Ah (v:=bV ((!(Qh xs))&&(((Dy (Eg s d (17:UInt8) (xs.take ((256*((xs.getD 4 0).toNat))+((xs.getD 5 0).toNat))).length++(xs.take ((256*((xs.getD 4 0).toNat))+((xs.getD 5 0).toNat)))):Nat):Int) !=0))) (D0 (e:= !(Qh xs)) (b:=(Dy (Eg s d (17:UInt8) (xs.take ((256*((xs.getD 4 0).toNat))+((xs.getD 5 0).toNat))).length++(xs.take ((256*((xs.getD 4 0).toNat))+((xs.getD 5 0).toNat)))):Int) !=0) rfl Ae Ae Ae) (Ac (hK43 _ _ _ ?_))
    refine Ao ((!((((xs.getD 6 0).toNat:Int)==0)&&((((xs.getD 7 0).toNat:Nat):Int)==0)))&&(((Dy (Eg s d (17:UInt8) (xs.take ((256*((xs.getD 4 0).toNat))+((xs.getD 5 0).toNat))).length++(xs.take ((256*((xs.getD 4 0).toNat))+((xs.getD 5 0).toNat)))):Nat):Int) !=0)) Ae (fun h53=>?_) (fun h54=>?_)
    ·have qh53:=h53;try simp only[zA]at qh53
     refine Ad (fun K55 hK55=>Aa (Ab 1 (Ai rfl (A4 p6 0 0 0 Qi Tryz.sizeOf124 rfl rfl) (fun _=>Ab 1 ?_))))
     refine Ac (hK55 _ _ _ (Aq (fn:=Tryz.f51) rfl ?_))
     have htk:(xs.take (w2 xs 4)).length=w2 xs 4:=by rw[List.length_take];omega
     have hlast:(w2 xs 6≠0∧Dy (Eg s d 17 (w2 xs 4)++xs.take (w2 xs 4))≠0):=by have z_:=h53;rw[p67]at z_;rw[show Dy (Eg s d 17 (xs.take (256*(xs.getD 4 0).toNat+(xs.getD 5 0).toNat)).length++xs.take (256*(xs.getD 4 0).toNat+(xs.getD 5 0).toNat))=Dy (Eg s d 17 (w2 xs 4)++xs.take (w2 xs 4)) from congrArg (fun q=>Dy (Eg s d 17 q++xs.take (w2 xs 4))) htk]at z_;revert z_;generalize Dy (Eg s d 17 (w2 xs 4)++xs.take (w2 xs 4))=c_;intro z_;by_cases h6:w2 xs 6=0<;>simp[h6]at z_⊢ <;>omega
     have hR:uR s d xs=12:=by unfold uR;rw[if_neg Ag,if_neg Ag,if_neg Ag,if_pos hlast]
     have hG:ug s d xs=false:=by unfold ug;rw[hR];rfl
     have hD:uD s d xs=[]:=by unfold uD;rw[hG];rfl
     exact fun w_ hS_=>B9 rfl (Bq p6 0 0 0 zl3 Tryz.isAgg124 Tryz.sizeOf124) (Aw (iV .i64 12)) hS_ ⟨FS.nul,(by rw[hD];exact Bw 1),congrArg Ending.returned ((by simp only[uF,uP,hG,cond_false,Bool.false_and,hR,hD];rfl)),(Mem.cast (by rw[hD];rfl) (Mem.push (hS_.pick [] Al rfl)))⟩
    ·have qh54:=h54;try simp only[zA]at qh54
     refine Ak (hK42 _ _ _ (Ad (fun K58 hK58=>Dh [(0,true),(1,true),(2,true),(3,true),(4,true),(5,true),(6,true),(7,true),(8,true),(9,true),(10,true),(11,true),(12,true),(13,true),(14,true),(15,true),(16,true),(17,true),(18,true),(19,true),(20,true),(22,true),(23,true),(24,true),(21,false),(25,false),(26,false),(27,false),(28,false)] [0,1,2,3,4,5,6,7,8,9,10,11,12,13,14,15,16,17,18,19,20,22,23,24] (Ay 1 ?_))))
     refine Wd.ys (v:=pL (some (Co a 0))) rfl rfl rfl (Bm fun w_ h_=>Av (k:=.i64) (a:=a) (len:=xs.length) (cap:=cap) (i:=0) (sz:=1) rfl Ae Ae Tryz.runUnderlying38 Tryz.sizeOf5 Ag Ag ((hat.mem0 h_).here Hj)) (Wd.ys (v:=nV .u8 ((xs.getD 0 0).toNat)) rfl rfl rfl (Ys.ld (a:=Co a 0) rfl Ae Tryz.isAgg5 (fun w_ h_=>(hat.mem0 h_).ld (Ez 0 Ex))) ?_)
     have hb59:(xs.getD 0 0).toNat<256:=UInt8.toNat_lt _
     refine Wd.ys (v:=nV .u16 ((xs.getD 0 0).toNat)) rfl rfl rfl ((Ys.p (v:=.int .u16 (Cg .u16 ((xs.getD 0 0).toNat:Int)))).conseq (Af (Ej Ag Ag))) (Wd.ys (v:=nV .u16 (256*((xs.getD 0 0).toNat))) rfl rfl rfl ((Ys.p (v:=.int .u16 (Ld .u16 ((256:Nat):Int) ((xs.getD 0 0).toNat:Int)))).conseq (Af (P2 rfl H1))) (Ay 1 (Wd.ys (v:=pL (some (Co a 1))) rfl rfl rfl (Bm fun w_ h_=>Av (k:=.i64) (a:=a) (len:=xs.length) (cap:=cap) (i:=1) (sz:=1) rfl Ae Ae Tryz.runUnderlying38 Tryz.sizeOf5 Ag Ag ((hat.mem0 h_).here Hj)) (Wd.ys (v:=nV .u8 ((xs.getD 1 0).toNat)) rfl rfl rfl (Ys.ld (a:=Co a 1) rfl Ae Tryz.isAgg5 (fun w_ h_=>(hat.mem0 h_).ld (Ez 0 Ex))) ?_))))
     have hb60:(xs.getD 1 0).toNat<256:=UInt8.toNat_lt _
     refine Wd.ys (v:=nV .u16 ((xs.getD 1 0).toNat)) rfl rfl rfl ((Ys.p (v:=.int .u16 (Cg .u16 ((xs.getD 1 0).toNat:Int)))).conseq (Af (Ej Ag Ag))) (Wd.ys (v:=nV .u16 ((256*((xs.getD 0 0).toNat))+((xs.getD 1 0).toNat))) rfl rfl rfl ((Ys.p (v:=.int .u16 (Bt .u16 ((256*((xs.getD 0 0).toNat):Nat):Int) ((xs.getD 1 0).toNat:Int)))).conseq (Af (E7 rfl H1))) (Ay 1 (Wd.ys (v:=pL (some (Co a 2))) rfl rfl rfl (Bm fun w_ h_=>Av (k:=.i64) (a:=a) (len:=xs.length) (cap:=cap) (i:=2) (sz:=1) rfl Ae Ae Tryz.runUnderlying38 Tryz.sizeOf5 Ag Ag ((hat.mem0 h_).here Hj)) (Wd.ys (v:=nV .u8 ((xs.getD 2 0).toNat)) rfl rfl rfl (Ys.ld (a:=Co a 2) rfl Ae Tryz.isAgg5 (fun w_ h_=>(hat.mem0 h_).ld (Ez 0 Ex))) ?_))))
     have hb61:(xs.getD 2 0).toNat<256:=UInt8.toNat_lt _
     refine Wd.ys (v:=nV .u16 ((xs.getD 2 0).toNat)) rfl rfl rfl ((Ys.p (v:=.int .u16 (Cg .u16 ((xs.getD 2 0).toNat:Int)))).conseq (Af (Ej Ag Ag))) (Wd.ys (v:=nV .u16 (256*((xs.getD 2 0).toNat))) rfl rfl rfl ((Ys.p (v:=.int .u16 (Ld .u16 ((256:Nat):Int) ((xs.getD 2 0).toNat:Int)))).conseq (Af (P2 rfl H1))) (Ay 1 (Wd.ys (v:=pL (some (Co a 3))) rfl rfl rfl (Bm fun w_ h_=>Av (k:=.i64) (a:=a) (len:=xs.length) (cap:=cap) (i:=3) (sz:=1) rfl Ae Ae Tryz.runUnderlying38 Tryz.sizeOf5 Ag Ag ((hat.mem0 h_).here Hj)) (Wd.ys (v:=nV .u8 ((xs.getD 3 0).toNat)) rfl rfl rfl (Ys.ld (a:=Co a 3) rfl Ae Tryz.isAgg5 (fun w_ h_=>(hat.mem0 h_).ld (Ez 0 Ex))) ?_))))
     have hb62:(xs.getD 3 0).toNat<256:=UInt8.toNat_lt _
     refine Wd.ys (v:=nV .u16 ((xs.getD 3 0).toNat)) rfl rfl rfl ((Ys.p (v:=.int .u16 (Cg .u16 ((xs.getD 3 0).toNat:Int)))).conseq (Af (Ej Ag Ag))) (Wd.ys (v:=nV .u16 ((256*((xs.getD 2 0).toNat))+((xs.getD 3 0).toNat))) rfl rfl rfl ((Ys.p (v:=.int .u16 (Bt .u16 ((256*((xs.getD 2 0).toNat):Nat):Int) ((xs.getD 3 0).toNat:Int)))).conseq (Af (E7 rfl H1))) (Ay 3 (Wd.ys (v:=sL (C8 a cap 8 1) (((256*((xs.getD 4 0).toNat))+((xs.getD 5 0).toNat))-8) (cap-8)) rfl rfl rfl (G9 (a:=a) (len:=xs.length) (cap:=cap) (sz:=1) (k:=.i64) (i:=8) (k':=.i64) (j:=(((256*((xs.getD 4 0).toNat))+((xs.getD 5 0).toNat):Nat):Int)) rfl Ae Ae Ae Tryz.runUnderlying38 Tryz.sizeOf5 Ag Ag Ag) (B8 rfl rfl (Bd (mk:=fun b_=>.slice (some ⟨b_,0,none⟩) 0 0) (t:=5) (cs:=[]) rfl (fun _=>kr)) (.inr fun _ _ h_=>h_.pick [1] Al rfl) (fun p80=>?_)))))
     refine Cd rfl rfl (HtS.append (eu:=5) (xv:=Value.slice (C8 a cap 8 1) (((256*((xs.getD 4 0).toNat))+((xs.getD 5 0).toNat))-8) (cap-8)) (i:=0) (g:=(FS.mk false p80 0 [])) (e:=5) (ii:=(Tryz.prog.info? 5).getD default) (z:=iV .u8 0) (sz:=1) (bytes:=1) (nn:=0) (m:=((256*((xs.getD 4 0).toNat))+((xs.getD 5 0).toNat))-8) (k:=((256*((xs.getD 4 0).toNat))+((xs.getD 5 0).toNat))-8) (xs:=mc b8 []) (news:=mc b8 ((xs.drop 8).take (((256*((xs.getD 4 0).toNat))+((xs.getD 5 0).toNat))-8))) (cs':=mc b8 ((xs.drop 8).take (((256*((xs.getD 4 0).toNat))+((xs.getD 5 0).toNat))-8))) (Lo:=fun g63=>[g63.seg 5 (mc b8 ((xs.drop 8).take (((256*((xs.getD 4 0).toNat))+((xs.getD 5 0).toNat))-8))),[cb p6 Qi 124]]) rfl rfl Ae Ae Ae Ae Ae Ae Ae Ae Ae rfl (Dp Al) (by first|rfl|simp[mc,A8,By]) (fun _=>rfl) (Src.at (a:=C8 a cap 8 1) S7 (fun w_ h_=>(((hat.mem0 h_).mdrop cap 8 Ag).mtake (((256*((xs.getD 4 0).toNat))+((xs.getD 5 0).toNat))-8)))) S7 (Dl (fun _=>rfl) _) Ef Gv Ef rfl (fun _=>rfl)) (.inr fun _ _ h_=>h_.pick [1] Al rfl) (fun g63 hx68=>?_)
     obtain⟨ok64,hn65,hn66⟩:=hx68
     refine Wd.yc (v:=aV [nV .u16 ((256*((xs.getD 0 0).toNat))+((xs.getD 1 0).toNat)),nV .u16 ((256*((xs.getD 2 0).toNat))+((xs.getD 3 0).toNat)),bV (Qh xs),sV g63 (((256*((xs.getD 4 0).toNat))+((xs.getD 5 0).toNat))-8)]) rfl rfl rfl (Ys.yc (Ys.p)) (.inr fun _ h_=>h_.pick [1] Al rfl) (B8 rfl rfl (A4 p6 0 1 0 [nV .u16 ((256*((xs.getD 0 0).toNat))+((xs.getD 1 0).toNat)),nV .u16 ((256*((xs.getD 2 0).toNat))+((xs.getD 3 0).toNat)),bV (Qh xs),sV g63 (((256*((xs.getD 4 0).toNat))+((xs.getD 5 0).toNat))-8)] Tryz.sizeOf124 rfl rfl) (.inl Ae) (fun _=>?_))
     refine Wd.yc (v:=iV .i64 0) rfl rfl rfl (Ys.yc (Ys.p)) (.inl Ae) (A7 (hK58 _ _ _ (Aq (fn:=Tryz.f51) rfl ?_)))
     have htk:(xs.take (w2 xs 4)).length=w2 xs 4:=by rw[List.length_take];omega
     have hlast: ¬(w2 xs 6≠0∧Dy (Eg s d 17 (w2 xs 4)++xs.take (w2 xs 4))≠0):=by have z_:=h54;rw[p67]at z_;rw[show Dy (Eg s d 17 (xs.take (256*(xs.getD 4 0).toNat+(xs.getD 5 0).toNat)).length++xs.take (256*(xs.getD 4 0).toNat+(xs.getD 5 0).toNat))=Dy (Eg s d 17 (w2 xs 4)++xs.take (w2 xs 4)) from congrArg (fun q=>Dy (Eg s d 17 q++xs.take (w2 xs 4))) htk]at z_;revert z_;generalize Dy (Eg s d 17 (w2 xs 4)++xs.take (w2 xs 4))=c_;intro z_;by_cases h6:w2 xs 6=0<;>simp[h6]at z_⊢ <;>omega
     have hR:uR s d xs=0:=by unfold uR;rw[if_neg Ag,if_neg Ag,if_neg Ag,if_neg hlast]
     have hG:ug s d xs=true:=by unfold ug;rw[hR];rfl
     have hD:uD s d xs=(xs.drop 8).take (((256*((xs.getD 4 0).toNat))+((xs.getD 5 0).toNat))-8):=by unfold uD;rw[hG];rfl
     have hDl:(uD s d xs).length=((256*((xs.getD 4 0).toNat))+((xs.getD 5 0).toNat))-8:=by rw[hD];try(rw[List.length_take,List.length_drop];omega)
     exact fun w_ hS_=>B9 rfl (Bq p6 0 1 0 [nV .u16 ((256*((xs.getD 0 0).toNat))+((xs.getD 1 0).toNat)),nV .u16 ((256*((xs.getD 2 0).toNat))+((xs.getD 3 0).toNat)),bV ((((xs.getD 6 0).toNat:Int)==0)&&((((xs.getD 7 0).toNat:Nat):Int)==0)),sV g63 (((256*((xs.getD 4 0).toNat))+((xs.getD 5 0).toNat))-8)] Tryz.isAgg124 Tryz.sizeOf124) (Aw (iV .i64 0)) hS_ ⟨g63,(by rw[hDl];exact ok64),congrArg Ending.returned ((by rw[hDl];(try rw[p67]);simp only[uF,uP,hG,cond_true,Bool.true_and,hR,z60,Nat.mod_eq_of_lt (Dx xs _)];try rfl)),(Mem.cast (by rw[hD];rfl) (hS_.pick [0] Al rfl))⟩
theorem Xa(s d fr to:Nat)(pl:Bool)(xs:List UInt8)(a:Option Addr)(cap:Nat)(len:Nat)(w:World)(hn:len=xs.length)(hat:At w a (Ci xs))(hs:s<4294967296)(hd:d<4294967296)(hf:fr<65536)(ht:to<65536)(hl:xs.length≤100000)(hlc:xs.length≤cap):Calls Tryz.prog 93 #[.int .u32 (s:Int),.int .u32 (d:Int),Value.agg ([Value.int .u16 (fr:Int),Value.int .u16 (to:Int),Value.bool pl,sL a len cap]).toArray] w (Bj w (fun g:FS=>g.ok 1 (uB s d fr to pl xs).length) (fun g=>.tuple #[.slice g.a (uB s d fr to pl xs).length g.cap,.int .i64 (uE xs.length)]) [] (fun g=>[g.seg 5 (Ci (uB s d fr to pl xs))])):=by
  subst hn;exact Aik s d fr to pl xs a cap w hat hs hd hf ht hl hlc
theorem Aa5(s d fr to:Nat)(pl:Bool)(xs:List UInt8)(a:Option Addr)(cap:Nat)(len:Nat)(w:World)(hn:len=xs.length)(hat:At w a (Ci xs))(hs:s<4294967296)(hd:d<4294967296)(hf:fr<65536)(ht:to<65536)(hl:xs.length≤100000)(hlc:xs.length≤cap):Calls Tryz.prog 49 #[.int .u32 (s:Int),.int .u32 (d:Int),Value.agg ([Value.int .u16 (fr:Int),Value.int .u16 (to:Int),Value.bool pl,sL a len cap]).toArray] w (Bj w (fun g:FS=>g.ok 1 (uB s d fr to pl xs).length) (fun g=>.tuple #[.slice g.a (uB s d fr to pl xs).length g.cap,.int .i64 (uE xs.length)]) [] (fun g=>[g.seg 5 (Ci (uB s d fr to pl xs))])):=by
  subst hn;exact Aey s d fr to pl xs a cap w hat hs hd hf ht hl hlc
theorem N3(s d:Nat)(xs:List UInt8)(a:Option Addr)(cap:Nat)(len:Nat)(w:World)(hn:len=xs.length)(hat:At w a (Ci xs))(hs:s<4294967296)(hd:d<4294967296)(hl:len≤100000)(hlc:len≤cap):Calls Tryz.prog 85 #[.int .u32 (s:Int),.int .u32 (d:Int),.slice a len cap] w (Bj w (fun g:FS=>g.ok 1 (uD s d xs).length) (fun g=>.tuple #[.agg [.int .u16 ((uF s d xs 0:Nat):Int),.int .u16 ((uF s d xs 2:Nat):Int),.bool (uP s d xs),.slice g.a (uD s d xs).length g.cap].toArray,.int .i64 (uR s d xs)]) [] (fun g=>[g.seg 5 (Ci (uD s d xs))])):=by
  subst hn;exact Aim s d xs a cap w hat hs hd hl hlc
theorem Aa6(s d:Nat)(xs:List UInt8)(a:Option Addr)(cap:Nat)(len:Nat)(w:World)(hn:len=xs.length)(hat:At w a (Ci xs))(hs:s<4294967296)(hd:d<4294967296)(hl:len≤100000)(hlc:len≤cap):Calls Tryz.prog 51 #[.int .u32 (s:Int),.int .u32 (d:Int),.slice a len cap] w (Bj w (fun g:FS=>g.ok 1 (uD s d xs).length) (fun g=>.tuple #[.agg [.int .u16 ((uF s d xs 0:Nat):Int),.int .u16 ((uF s d xs 2:Nat):Int),.bool (uP s d xs),.slice g.a (uD s d xs).length g.cap].toArray,.int .i64 (uR s d xs)]) [] (fun g=>[g.seg 5 (Ci (uD s d xs))])):=by
  subst hn;exact Aez s d xs a cap w hat hs hd hl hlc
theorem Aa7{pre zs:List UInt8}{n:Nat}(hp:pre.length%2=0)(hn:n<65536):(pw (pre++(be 2 n++zs))).sum=(pw pre).sum+n+(pw zs).sum:=by
  rw[Ve _ _ hp,Ve _ _ (by rw[A8]),Aig hn]
  simp;omega
theorem Ae0(S:Nat):fd (S+Es (65535-fd S))=65535:=by
  by_cases h0:S=0
  · subst h0;decide
  · obtain⟨r,hr⟩: ∃r,r=(S-1)%65535:=⟨_,rfl⟩
    have hf:fd S=r+1:=by unfold fd;rw[if_neg h0,hr]
    have hr2:r<65535:=by omega
    rw[hf]
    unfold Es
    by_cases h1:65535-(r+1)=0
    · rw[if_pos h1];unfold fd;rw[if_neg Ag];omega
    · rw[if_neg h1];unfold fd;rw[if_neg Ag];omega
theorem Yd{pre zs:List UInt8}(hp:pre.length%2=0):Dy (pre++(be 2 (Es (Dy (pre++(be 2 0++zs))))++zs))=0:=by
  have h0:=Aa7 (pre:=pre) (zs:=zs) (n:=0) hp Al
  have hc:=Kt (pre++(be 2 0++zs))
  have hs:Es (Dy (pre++(be 2 0++zs)))<65536:=by unfold Es;split<;>omega
  have h1:=Aa7 (pre:=pre) (zs:=zs) hp hs
  have hS:Dy (pre++(be 2 0++zs))=65535-fd ((pw pre).sum+(pw zs).sum):=by unfold Dy;rw[h0,Nat.add_zero]
  unfold Dy at*
  rw[h1,hS]
  have:=Ae0 ((pw pre).sum+(pw zs).sum)
  rw[show(pw pre).sum+Es (65535-fd ((pw pre).sum+(pw zs).sum))+(pw zs).sum=(pw pre).sum+(pw zs).sum+Es (65535-fd ((pw pre).sum+(pw zs).sum)) by omega,this]
def uX(fr to m:Nat)(xs:List UInt8):List UInt8:=(UInt8.ofNat (fr/256)::UInt8.ofNat fr::UInt8.ofNat (to/256)::UInt8.ofNat to::UInt8.ofNat ((8+xs.length)/256)::UInt8.ofNat (8+xs.length)::UInt8.ofNat (m/256)::UInt8.ofNat m::xs)
theorem Ain(fr to m:Nat)(xs:List UInt8):uX fr to m xs=(be 2 fr++be 2 to++be 2 (8+xs.length))++(be 2 m++xs):=rfl
theorem Ae1(fr to n:Nat)(xs:List UInt8):Hl (uH fr to xs) 6 n=uX fr to n xs:=rfl
theorem Ano(fr to:Nat)(xs:List UInt8):uH fr to xs=uX fr to 0 xs:=rfl
theorem Anp{s d fr to:Nat}{pl:Bool}{xs:List UInt8}(h: ¬1472<xs.length):uB s d fr to pl xs=uX fr to (bif pl then 0 else Es (uC s d fr to xs)) xs:=by
  unfold uB;rw[if_neg h];cases pl
  · simp only[cond_false];exact Ae1 fr to _ xs
  · simp only[cond_true];exact Ano fr to xs
theorem Ae2(s d fr to:Nat)(xs:List UInt8):Dy (Eg s d 17 (8+xs.length)++uX fr to (Es (uC s d fr to xs)) xs)=0:=by
  have e:uC s d fr to xs=Dy ((Eg s d 17 (8+xs.length)++(be 2 fr++be 2 to++be 2 (8+xs.length)))++(be 2 0++xs)):=by
    unfold uC uH;simp only[List.append_assoc]
  rw[Ain,←List.append_assoc,e]
  exact Yd (by simp[By,A8])
theorem Ye(c:Nat):Es c≠0:=by unfold Es;split<;>omega
theorem Aa8{c:Nat}(h:c≤65535):Es c<65536:=by unfold Es;split<;>omega
theorem L4{n:Nat}(h:n<65536):256*(UInt8.ofNat (n/256)).toNat+(UInt8.ofNat n).toNat=n:=by
  rw[UInt8.toNat_ofNat',UInt8.toNat_ofNat'];omega
theorem Anq{fr to m:Nat}{xs ys:List UInt8}(hf:fr<65536)(ht:to<65536)(hm:m<65536)(hx: ¬1472<xs.length):
    w2 (uX fr to m xs++ys) 0=fr∧w2 (uX fr to m xs++ys) 2=to∧w2 (uX fr to m xs++ys) 4=8+xs.length∧w2 (uX fr to m xs++ys) 6=m:=
  ⟨L4 hf,L4 ht,L4 Ag,L4 hm⟩
theorem Aio(fr to m:Nat)(xs:List UInt8):(uX fr to m xs).length=8+xs.length:=by unfold uX;simp only[List.length_cons];omega
theorem Ae3{s d fr to:Nat}{pl:Bool}{xs ys:List UInt8}(hf:fr<65536)(ht:to<65536)(h1:uE xs.length=0)(h2:(uB s d fr to pl xs).length+ys.length≤1480):(((uR s d ((uB s d fr to pl xs)++ys))==0)&&((((((uF s d ((uB s d fr to pl xs)++ys) 0):Int)==(fr:Int))&&((((uF s d ((uB s d fr to pl xs)++ys) 2):Nat):Int)==(to:Int)))&&((uP s d ((uB s d fr to pl xs)++ys))==pl))&&((uD s d ((uB s d fr to pl xs)++ys))==xs)))=true:=by
  have hx: ¬1472<xs.length:=by
    unfold uE at h1;split at h1
    · cases h1
    · assumption
  rw[Anp hx]at h2⊢
  obtain⟨m,hm⟩: ∃m,m=bif pl then 0 else Es (uC s d fr to xs):=⟨_,rfl⟩
  rw[←hm]at h2⊢
  have hml:m<65536:=by
    rw[hm];cases pl
    · have hq:uC s d fr to xs≤65535:=by unfold uC;exact Kt _
      simp only[cond_false];exact Aa8 hq
    · simp only[cond_true];decide
  obtain⟨e0,e2,e4,e6⟩:=Anq (ys:=ys) hf ht hml hx
  have hl:=Aio fr to m xs
  obtain⟨Z,hZ⟩: ∃Z,Z=uX fr to m xs++ys:=⟨_,rfl⟩
  rw[←hZ]at e0 e2 e4 e6⊢
  have hZl:Z.length=8+xs.length+ys.length:=by rw[hZ,List.length_append,hl]
  have htk:Z.take (8+xs.length)=uX fr to m xs:=by rw[hZ,←hl];exact List.take_left ..
  have hsum: ¬(w2 Z 6≠0∧Dy (Eg s d 17 (w2 Z 4)++Z.take (w2 Z 4))≠0):=by
    rw[e4,e6,htk]
    cases pl
    · have hm2:=hm;simp only[cond_false]at hm2
      rw[hm2,Ae2];simp
    · have hm2:=hm;simp only[cond_true]at hm2
      simp[hm2]
  have hR:uR s d Z=0:=by unfold uR;rw[if_neg Ag,if_neg Ag,if_neg Ag,if_neg hsum]
  have hG:ug s d Z=true:=by unfold ug;rw[hR];rfl
  have hD:uD s d Z=xs:=by
    unfold uD;rw[hG,e4,show 8+xs.length-8=xs.length by omega,hZ]
    show(xs++ys).take xs.length=xs
    exact List.take_left ..
  have hP:uP s d Z=pl:=by
    unfold uP;rw[hG,e6,hm];cases pl
    · simp[Ye]
    · rfl
  have f0:uF s d Z 0=fr:=by unfold uF;rw[hG,e0];rfl
  have f2:uF s d Z 2=to:=by unfold uF;rw[hG,e2];rfl
  rw[hR,f0,f2,hP,hD];simp
theorem Agq(ttl pid:Int)(s d:Nat)(xs:List UInt8)(a:Option Addr)(cap:Nat)(w:World)(hat:At w a (Ci xs))(hs:s<4294967296)(hd:d<4294967296)(hl:xs.length≤100000)(hlc:xs.length≤cap)(hr:uR s d xs=0):Calls Tryz.prog 41 #[aV [iV .u8 ttl,iV .u8 17,iV .u16 pid,nV .u32 s,nV .u32 d,sL a xs.length cap]] w (Dc w (Value.tuple #[aV [iV .u8 17,nV .u32 s,nV .u32 d,nV .u16 (uF s d xs 0),nV .u16 (uF s d xs 2)],iV .i64 1,iV .i64 0])):=by
 refine Ar (M:=[]) (LL:=[]) (n:=71) Tryz.func41 rfl rfl A5 (Mem.refl _) (Ad (fun K1 hK1=>?_))
 refine Aa (Ai rfl (Bx [iV .u8 ttl,iV .u8 17,iV .u16 pid,nV .u32 s,nV .u32 d,sL a xs.length cap] rfl) (fun p1=>?_))
 refine Ai rfl (Bc Tryz.zeroValue47) (fun p2=>Ab 2 (Ac (hK1 _ _ _ (Ad (fun K3 hK3=>?_)))))
 refine Aa (Ab 1 (Ah (An p1 1 1 0 Tryz.isAgg5) (Ab 1 (Ah (An p1 3 1 0 Tryz.isAgg24) ?_))))
 refine Ab 1 (Ah (An p1 4 1 0 Tryz.isAgg24) (Ab 1 (Ai rfl (A4 p2 0 0 0 [iV .u8 17,nV .u32 s,nV .u32 d,iV .u16 0,iV .u16 0] Tryz.sizeOf47 rfl rfl) (fun _=>Ac ?_))))
 refine hK3 _ _ _ (Ad (fun K5 hK5=>?_))
 refine Ad (fun K6 hK6=>Aa (Ab 1 (Ah (An p1 1 1 0 Tryz.isAgg5) (Ac ?_))))
 refine hK6 _ _ _ (W.block (Ad (fun K8 hK8=>Aa (Ab 2 ?_))))
 refine Ac (hK8 _ _ _ (B4 Ae (Ad (fun K10 hK10=>Aa ?_))))
 refine Ab 2 (Ac (hK10 _ _ _ (B5 Ae (Ad (fun K12 hK12=>?_)))))
 refine Aa (Ab 1 (Ah (An p1 3 1 0 Tryz.isAgg24) (Ab 1 (Ah (An p1 4 1 0 Tryz.isAgg24) ?_))))
 refine Ab 1 (Ah (An p1 5 1 0 Tryz.isAgg38) (Ax rfl (Au [] [0,1] (fun w_ hm_ hl_=>(N3 s d xs a cap xs.length _ I7 (hat.mem0 hm_) Ag Ag Ex Ex))) (fun g13 ok14=>Ab 3 (Ai rfl (Bc Tryz.zeroValue124) (fun p7=>?_)))))
 refine Ai rfl (A4 p7 0 0 0 [nV .u16 (uF s d xs 0),nV .u16 (uF s d xs 2),bV (uP s d xs),sV g13 ((uD s d xs).length)] Tryz.sizeOf124 rfl rfl) (fun _=>Ab 1 (Ac (hK12 _ _ _ (Ap [0,1,2] Al rfl ?_))))
 refine Bz [(0,true),(1,true),(2,true),(3,true),(4,true),(5,false),(6,false),(7,false),(8,false),(9,false),(10,false)] [0,1,2,3,4] (Mem w [] [[cb p7 [nV .u16 (uF s d xs 0),nV .u16 (uF s d xs 2),bV (uP s d xs),sV g13 ((uD s d xs).length)] 124],g13.seg 5 (mc b8 (uD s d xs))]) Ae Ae Ae rfl Ae (fun _ _ h_=>h_.drawn _) (fun _ h_=>h_.pick [0,1] Al rfl) (Ay 1 (Wd.ys rfl rfl rfl (An p7 0 0 0 Tryz.isAgg22) (Ay 1 (Wd.ys rfl rfl rfl (An p7 1 0 0 Tryz.isAgg22) ?_))))
 refine Ay 1 (Wd.yc (v:=pV p2 3) rfl rfl rfl (Ys.yc (Ys.p)) (.inr fun _ h_=>h_.pick [0,1] Al rfl) (B8 rfl rfl (Bg p2 3 2 0 (nV .u16 (uF s d xs 0)) Tryz.sizeOf22 rfl rfl) (.inr fun _ _ h_=>h_.pick [0,1] Al rfl) (fun _=>Wd.yc (v:=pV p2 4) rfl rfl rfl (Ys.yc (Ys.p)) (.inr fun _ h_=>h_.pick [0,1] Al rfl) (B8 rfl rfl (Bg p2 4 2 0 (nV .u16 (uF s d xs 2)) Tryz.sizeOf22 rfl rfl) (.inr fun _ _ h_=>h_.pick [0,1] Al rfl) (fun _=>?_)))))
 refine Wd.yc (v:=iV .i64 1) rfl rfl rfl (Ys.yc (Ys.p)) (.inr fun _ h_=>h_.pick [0,1] Al rfl) (Wd.yc (v:=iV .i64 (uR s d xs)) rfl rfl rfl (Ys.yc (Ys.p)) (.inl Ae) (A7 (hK5 _ _ _ (Ap [2] Al rfl ?_))))
 refine Ad (fun K18 hK18=>Ad (fun K19 hK19=>?_))
 refine Aa (Ab 2 (Ac (hK19 _ _ _ ?_)))
 refine Ao ((uR s d xs) !=0) Ae (fun h21=>?_) (fun h22=>?_)
 ·(exfalso;rw[hr]at h21;cases h21)
 ·have qh22:=h22;try simp only[zA]at qh22
  refine Ak (hK18 _ _ _ (Ad (fun K24 hK24=>Aa (Ah (A0 p2 0 0 0 [iV .u8 17,nV .u32 s,nV .u32 d,nV .u16 (uF s d xs 0),nV .u16 (uF s d xs 2)] Tryz.isAgg47 Tryz.sizeOf47) ?_))))
  refine Ab 1 (Ai rfl (A4 p2 0 0 0 [iV .u8 17,nV .u32 s,nV .u32 d,nV .u16 (uF s d xs 0),nV .u16 (uF s d xs 2)] Tryz.sizeOf47 rfl rfl) (fun _=>?_))
  refine Ab 2 (Ac (hK24 _ _ _ (Aq (fn:=Tryz.f41) rfl (fun w_ hS_=>I1 rfl (Bq p2 0 0 0 [iV .u8 17,nV .u32 s,nV .u32 d,nV .u16 (uF s d xs 0),nV .u16 (uF s d xs 2)] Tryz.isAgg47 Tryz.sizeOf47) (Aw (iV .i64 1)) (Aw (iV .i64 0)) hS_ ⟨rfl,hS_.below⟩))))
abbrev Qj:List Value:=M9
theorem Vh(ttl pid:Int)(s d:Nat)(xs:List UInt8)(a:Option Addr)(cap:Nat)(qs qd qf qt:Nat)(w:World)(hat:At w a (Ci xs))(hs:s<4294967296)(hd:d<4294967296)(hl:xs.length≤100000)(hlc:xs.length≤cap)(hr:uR s d xs=0)(hqs:qs<4294967296)(hqd:qd<4294967296)(hqf:qf<65536)(hqt:qt<65536)(he:(uD s d xs).length≤1472):Calls Tryz.prog 45 #[aV [iV .u8 ttl,iV .u8 17,iV .u16 pid,nV .u32 s,nV .u32 d,sL a xs.length cap],aV [iV .u8 17,nV .u32 qs,nV .u32 qd,nV .u16 qf,nV .u16 qt]] w (Bj w (fun g:FS=>g.ok 1 (uB qs qd qf qt (uP s d xs) (uD s d xs)).length) (fun g=>Value.tuple #[.agg [.int .u8 ttl,.int .u8 17,.int .u16 pid,.int .u32 (qs:Int),.int .u32 (qd:Int),.slice g.a (uB qs qd qf qt (uP s d xs) (uD s d xs)).length g.cap].toArray,.int .i64 0]) [] (fun g=>[g.seg 5 (mc b8 (uB qs qd qf qt (uP s d xs) (uD s d xs)))])):=by
 have hle_:uE (uD s d xs).length=0:=by unfold uE;rw[if_neg Ag]
 refine Ar (M:=[]) (LL:=[]) (n:=167) Tryz.func45 rfl rfl A5 (Mem.refl _) (Ad (fun K1 hK1=>?_))
 refine Aa (Ai rfl (Bx [iV .u8 ttl,iV .u8 17,iV .u16 pid,nV .u32 s,nV .u32 d,sL a xs.length cap] rfl) (fun p2=>?_))
 refine Ai rfl (Bx [iV .u8 17,nV .u32 qs,nV .u32 qd,nV .u16 qf,nV .u16 qt] rfl) (fun p3=>Ai rfl (Bc Tryz.zeroValue40) (fun p4=>?_))
 refine Ab 1 (Ac (hK1 _ _ _ (Ad (fun K3 hK3=>Aa ?_))))
 refine Ah (A0 p2 0 2 0 [iV .u8 ttl,iV .u8 17,iV .u16 pid,nV .u32 s,nV .u32 d,sL a xs.length cap] Tryz.isAgg40 Tryz.sizeOf40) (B0 (v:=Value.tuple #[aV [iV .u8 17,nV .u32 s,nV .u32 d,nV .u16 (uF s d xs 0),nV .u16 (uF s d xs 2)],iV .i64 1,iV .i64 0]) (A9 (fun w_ hm_=>(Agq ttl pid s d xs a cap _ (hat.mem0 hm_) Ag Ag Ex Ef hr))) (Ab 4 (Ai rfl (Bc Tryz.zeroValue47) (fun p6=>Ai rfl (A4 p6 0 0 0 [iV .u8 17,nV .u32 s,nV .u32 d,nV .u16 (uF s d xs 0),nV .u16 (uF s d xs 2)] Tryz.sizeOf47 rfl rfl) (fun _=>?_)))))
 refine Ab 2 (Ac (hK3 _ _ _ (Ad (fun K5 hK5=>W.block ?_))))
 refine Ad (fun K6 hK6=>Aa (Ab 3 (Ac (hK6 _ _ _ ?_))))
 refine B4 Ae (Ad (fun K8 hK8=>?_))
 refine Aa (Ab 1 (Ah (An p3 0 2 0 Tryz.isAgg5) (Ab 1 (Ah (An p6 0 0 0 Tryz.isAgg5) ?_))))
 refine Ab 2 (Ac (hK8 _ _ _ (B4 Ae (Ak ?_))))
 refine hK5 _ _ _ (Ad (fun K11 hK11=>?_))
 refine Dh [(0,true),(1,true),(2,true),(3,true),(4,true),(5,true),(6,false),(7,false),(8,false)] [0,1,2,3,4,5] (Ay 1 (Wd.ys rfl rfl rfl (An p2 3 3 0 Tryz.isAgg24) (Ay 1 (Wd.ys rfl rfl rfl (An p2 4 3 0 Tryz.isAgg24) ?_))))
 refine Ay 1 (Wd.ys rfl rfl rfl (An p2 5 3 0 Tryz.isAgg38) (Wd.yc (v:=nV .u32 s) rfl rfl rfl (Ys.yc (Ys.p)) (.inr fun _ h_=>h_) (Wd.yc (v:=nV .u32 d) rfl rfl rfl (Ys.yc (Ys.p)) (.inr fun _ h_=>h_) (Wd.yc (v:=sL a xs.length cap) rfl rfl rfl (Ys.yc (Ys.p)) (.inl Ae) ?_))))
 refine A7 (hK11 _ _ _ (Ad (fun K13 hK13=>Ad (fun K14 hK14=>Aa ?_))))
 refine Ab 3 (B7 Ae rfl (B7 Ae rfl (B7 Ae rfl (B7 Ae rfl ?_))))
 refine Ab 1 (Ac (hK14 _ _ _ (B5 Ae (Aa ?_))))
 refine Ab 1 (Ah (An p3 1 2 0 Tryz.isAgg24) (Ab 1 (Ai rfl (Bg p2 3 3 0 (nV .u32 qs) Tryz.sizeOf24 rfl rfl) (fun _=>Ac ?_))))
 refine hK13 _ _ _ (Ad (fun K17 hK17=>?_))
 refine Ad (fun K18 hK18=>Aa (Ab 3 (B7 Ae rfl (B7 Ae rfl ?_))))
 refine B7 Ae rfl (B7 Ae rfl (Ab 1 (Ac (hK18 _ _ _ ?_))))
 refine B5 Ae (Aa (Ab 1 (Ah (An p3 2 2 0 Tryz.isAgg24) (Ab 1 ?_))))
 refine Ai rfl (Bg p2 4 3 0 (nV .u32 qd) Tryz.sizeOf24 rfl rfl) (fun _=>Ac (hK17 _ _ _ (Ad (fun K21 hK21=>Ad (fun K22 hK22=>?_)))))
 refine Aa (Ab 1 (Ah (An p2 1 3 0 Tryz.isAgg5) (Ac (hK22 _ _ _ ?_))))
 refine W.block (Ad (fun K24 hK24=>?_))
 refine Aa (Ab 2 (Ac (hK24 _ _ _ (B4 Ae ?_))))
 refine Ad (fun K26 hK26=>Aa (Ab 2 (Ac (hK26 _ _ _ ?_))))
 refine B5 Ae (Ad (fun K28 hK28=>?_))
 refine Aa (Ab 3 (Ax rfl (Au [] [0,1,2,3] (fun w_ hm_ hl_=>(N3 s d xs a cap xs.length _ I7 (hat.mem0 hm_) Ag Ag Ex Ex))) (fun g29 ok30=>Ab 3 (Ai rfl (Bc Tryz.zeroValue124) (fun p14=>?_)))))
 refine Ai rfl (A4 p14 0 0 0 [nV .u16 (uF s d xs 0),nV .u16 (uF s d xs 2),bV (uP s d xs),sV g29 ((uD s d xs).length)] Tryz.sizeOf124 rfl rfl) (fun _=>Ab 1 (Ac (hK28 _ _ _ (Ap [0,1,3,4,5] Al rfl ?_))))
 refine Ad (fun K33 hK33=>Bz [(0,true),(1,true),(2,true),(3,true),(4,false),(5,false),(6,false),(7,false)] [0,1,2,3] (Mem w [] [g29.seg 5 (mc b8 (uD s d xs)),[cb p4 Qj 40],[cb p3 [iV .u8 17,nV .u32 qs,nV .u32 qd,nV .u16 qf,nV .u16 qt] 47],[cb p2 [iV .u8 ttl,iV .u8 17,iV .u16 pid,nV .u32 qs,nV .u32 qd,sL a xs.length cap] 40]]) Ae Ae Ae rfl Ae (fun _ _ h_=>h_.drawn _) (fun _ h_=>h_.pick [1,2,3,4] Al rfl) (Ay 1 (Wd.ys rfl rfl rfl (An p3 3 2 0 Tryz.isAgg22) (Ay 1 ?_))))
 refine Wd.ys rfl rfl rfl (An p3 4 2 0 Tryz.isAgg22) (Wd.yc (v:=pV p14 0) rfl rfl rfl (Ys.yc (Ys.p)) (.inr fun _ h_=>h_.pick [1,2,3,4] Al rfl) (B8 rfl rfl (Bg p14 0 0 0 (nV .u16 qf) Tryz.sizeOf22 rfl rfl) (.inr fun _ _ h_=>h_.pick [1,2,3,4] Al rfl) (fun _=>Wd.yc (v:=pV p14 1) rfl rfl rfl (Ys.yc (Ys.p)) (.inl Ae) (B8 rfl rfl (Bg p14 1 0 0 (nV .u16 qt) Tryz.sizeOf22 rfl rfl) (.inl Ae) (fun _=>?_)))))
 refine A7 (hK33 _ _ _ (Ap [0,1,2,4] Al rfl (Aa (Ab 1 ?_))))
 refine Ah (An p2 3 3 0 Tryz.isAgg24) (Ab 1 (Ah (An p2 4 3 0 Tryz.isAgg24) (Ah (A0 p14 0 0 0 [nV .u16 qf,nV .u16 qt,bV (uP s d xs),sV g29 ((uD s d xs).length)] Tryz.isAgg124 Tryz.sizeOf124) ?_)))
 have hl38:=Aa4 qs qd qf qt (uP s d xs) (uD s d xs)
 refine Ax rfl (Au [] [0,1,2,3] (fun w_ hm_ hl_=>(Xa qs qd qf qt (uP s d xs) (uD s d xs) g29.a g29.cap ((uD s d xs).length) _ I7 (FS.at (i:=1) (t:=5) hm_ rfl (Aj ok30 (Ba _))) Ag Ag Ag Ag Ef (by have z_:=ok30.le;first|exact z_|omega|(simp at z_⊢;omega))))) (fun g35 ok36=>Ab 4 (Ai rfl (Bg p2 5 4 0 (sV g35 ((uB qs qd qf qt (uP s d xs) (uD s d xs)).length)) Tryz.sizeOf38 rfl rfl) (fun _=>Ab 1 (Ac ?_))))
 refine hK21 _ _ _ (Ap [0,3,4] Al rfl (Ad (fun K40 hK40=>Ad (fun K41 hK41=>Aa ?_))))
 refine Ab 2 (Ac (hK41 _ _ _ ?_))
 refine Ao ((uE (uD s d xs).length) !=0) Ae (fun h43=>?_) (fun h44=>?_)
 ·have qh43:=h43;try simp only[zA]at qh43
  (exfalso;unfold uE at h43;rw[if_neg Ag]at h43;cases h43)
 ·have qh44:=h44;try simp only[zA]at qh44
  refine Ak (hK40 _ _ _ (Ad (fun K46 hK46=>Aa (Ah (A0 p2 0 2 0 [iV .u8 ttl,iV .u8 17,iV .u16 pid,nV .u32 qs,nV .u32 qd,sV g35 ((uB qs qd qf qt (uP s d xs) (uD s d xs)).length)] Tryz.isAgg40 Tryz.sizeOf40) ?_))))
  refine Ai rfl (A4 p4 0 1 0 [iV .u8 ttl,iV .u8 17,iV .u16 pid,nV .u32 qs,nV .u32 qd,sV g35 ((uB qs qd qf qt (uP s d xs) (uD s d xs)).length)] Tryz.sizeOf40 rfl rfl) (fun _=>Ab 1 (Ac (hK46 _ _ _ (Ap [0,1] Al rfl ?_))))
  refine Aq (fn:=Tryz.f45) rfl (fun w_ hS_=>B9 rfl (Bq p4 0 1 0 [iV .u8 ttl,iV .u8 17,iV .u16 pid,nV .u32 qs,nV .u32 qd,sV g35 ((uB qs qd qf qt (uP s d xs) (uD s d xs)).length)] Tryz.isAgg40 Tryz.sizeOf40) (Aw (iV .i64 0)) hS_ ⟨g35,ok36,rfl,(hS_.pick [0] Al rfl)⟩)
theorem O9(fa1 fa2 fa3 fa4 fa5:Int)(h q:Int)(w:World):Calls Tryz.prog 46 #[aV [iV .u8 fa1,iV .u32 fa2,iV .u32 fa3,iV .u16 fa4,iV .u16 fa5],iV .u32 h,iV .u16 q] w (Dc w (aV [iV .u8 fa1,iV .u32 fa2,iV .u32 h,iV .u16 fa4,iV .u16 q])):=by
 refine Ar (M:=[]) (LL:=[]) (n:=12) Tryz.func46 rfl rfl A5 (Mem.refl _) (Ad (fun K1 hK1=>?_))
 refine Aa (Ai rfl (Bx [iV .u8 fa1,iV .u32 fa2,iV .u32 fa3,iV .u16 fa4,iV .u16 fa5] rfl) (fun p3=>?_))
 refine Ai rfl (Bc Tryz.zeroValue47) (fun p6=>Ac (hK1 _ _ _ (Ad (fun K3 hK3=>Aa ?_))))
 refine Ab 3 (Ai rfl (Bg p3 2 1 0 (iV .u32 h) Tryz.sizeOf24 rfl rfl) (fun _=>?_))
 refine Ab 1 (Ai rfl (Bg p3 4 1 0 (iV .u16 q) Tryz.sizeOf22 rfl rfl) (fun _=>?_))
 refine Ac (hK3 _ _ _ (Ad (fun K5 hK5=>Aa (Ah (A0 p3 0 1 0 [iV .u8 fa1,iV .u32 fa2,iV .u32 h,iV .u16 fa4,iV .u16 q] Tryz.isAgg47 Tryz.sizeOf47) ?_))))
 refine Ai rfl (A4 p6 0 0 0 [iV .u8 fa1,iV .u32 fa2,iV .u32 h,iV .u16 fa4,iV .u16 q] Tryz.sizeOf47 rfl rfl) (fun _=>Ac (hK5 _ _ _ (Ap [0] Al rfl (Aq (fn:=Tryz.f46) rfl (fun w_ hS_=>Bb rfl (Bq p6 0 0 0 [iV .u8 fa1,iV .u32 fa2,iV .u32 h,iV .u16 fa4,iV .u16 q] Tryz.isAgg47 Tryz.sizeOf47) hS_ ⟨rfl,hS_.below⟩)))))
theorem Mq(c:Conf.Cfg)(fx:List Conf.Fwd)(fa:Option Addr)(fc:Nat)(ms:List Mpg)(ma:Option Addr)(mc_:Nat)(ts te:Nat)(tk:Nat→Option Nat)(wb ti:Nat)(lst:Int)(nb:Nat)(fa1 fa2 fa3 fa4 fa5:Int)(q:Int)(w:World)(hnt:At w (some ⟨nb,0,none⟩) (Dv (M5 c (sL fa fx.length fc)) (sL ma ms.length mc_) (pL (some ⟨ts,0,none⟩)) (pL (some ⟨te,0,none⟩)) tk (pL (some ⟨wb,0,none⟩)) (pL (some ⟨ti,0,none⟩)) (Value.int .u64 lst))):Calls Tryz.prog 57 #[pV nb 0,aV [iV .u8 fa1,iV .u32 fa2,iV .u32 fa3,iV .u16 fa4,iV .u16 fa5],iV .u16 q] w (Dc w (aV [iV .u8 fa1,iV .u32 c.wan,iV .u32 fa3,iV .u16 q,iV .u16 fa5])):=by
 refine Ar (M:=[]) (LL:=[]) (n:=16) Tryz.func57 rfl rfl A5 (Mem.refl _) (Ad (fun K1 hK1=>?_))
 refine Aa (Ai rfl (Bx [iV .u8 fa1,iV .u32 fa2,iV .u32 fa3,iV .u16 fa4,iV .u16 fa5] rfl) (fun p4=>?_))
 refine Ai rfl (Bc Tryz.zeroValue47) (fun p6=>Ac (hK1 _ _ _ (Ad (fun K3 hK3=>Aa ?_))))
 refine Ab 4 (Ah (v:=iV .u32 c.wan) (Ys.ld (a:=⟨nb,19,none⟩) rfl Ae Tryz.isAgg24 (fun w_ h_=>by have x_:=(hnt.mem0 h_).ld (q:=19) ((Cq rfl Al).trans rfl);rw[Br]at x_;exact x_)) (Ab 2 (Ai rfl (Bg p4 1 1 0 (iV .u32 c.wan) Tryz.sizeOf24 rfl rfl) (fun _=>Ab 1 ?_))))
 refine Ai rfl (Bg p4 3 1 0 (iV .u16 q) Tryz.sizeOf22 rfl rfl) (fun _=>Ac (hK3 _ _ _ (Ad (fun K5 hK5=>Aa ?_))))
 refine Ah (A0 p4 0 1 0 [iV .u8 fa1,iV .u32 c.wan,iV .u32 fa3,iV .u16 q,iV .u16 fa5] Tryz.isAgg47 Tryz.sizeOf47) (Ai rfl (A4 p6 0 0 0 [iV .u8 fa1,iV .u32 c.wan,iV .u32 fa3,iV .u16 q,iV .u16 fa5] Tryz.sizeOf47 rfl rfl) (fun _=>?_))
 refine Ac (hK5 _ _ _ (Ap [0] Al rfl (Aq (fn:=Tryz.f57) rfl (fun w_ hS_=>Bb rfl (Bq p6 0 0 0 [iV .u8 fa1,iV .u32 c.wan,iV .u32 fa3,iV .u16 q,iV .u16 fa5] Tryz.isAgg47 Tryz.sizeOf47) hS_ ⟨rfl,hS_.below⟩))))
theorem Aip(ttl pid:Int)(s d:Nat)(xs:List UInt8)(a:Option Addr)(cap:Nat)(w:World)(hat:At w a (Ci xs))(hs:s<4294967296)(hd:d<4294967296)(hl:xs.length≤100000)(hlc:xs.length≤cap)(hr:uR s d xs=0):Calls Tryz.prog 14 #[aV [iV .u8 ttl,iV .u8 17,iV .u16 pid,nV .u32 s,nV .u32 d,sL a xs.length cap]] w (Dc w (Value.tuple #[aV [iV .u8 17,nV .u32 s,nV .u32 d,nV .u16 (uF s d xs 0),nV .u16 (uF s d xs 2)],iV .i64 1,iV .i64 0])):=by
 refine Ar (M:=[]) (LL:=[]) (n:=137) Tryz.func14 rfl rfl A5 (Mem.refl _) (Ad (fun K1 hK1=>?_))
 refine Aa (Ai rfl (Bx [iV .u8 ttl,iV .u8 17,iV .u16 pid,nV .u32 s,nV .u32 d,sL a xs.length cap] rfl) (fun p1=>?_))
 refine Ai rfl (Bc Tryz.zeroValue47) (fun p2=>Ab 2 (Ac (hK1 _ _ _ (Ad (fun K3 hK3=>?_)))))
 refine Aa (Ab 1 (Ah (An p1 1 1 0 Tryz.isAgg5) (Ab 1 (Ah (An p1 3 1 0 Tryz.isAgg24) ?_))))
 refine Ab 1 (Ah (An p1 4 1 0 Tryz.isAgg24) (Ab 1 (Ai rfl (Bc Tryz.zeroValue47) (fun p5=>Ai rfl (A4 p5 0 0 0 [iV .u8 17,nV .u32 s,nV .u32 d,iV .u16 0,iV .u16 0] Tryz.sizeOf47 rfl rfl) (fun _=>?_)))))
 refine Ac (hK3 _ _ _ (Ad (fun K5 hK5=>Ad (fun K6 hK6=>Aa ?_))))
 refine Ab 1 (Ah (An p1 1 2 0 Tryz.isAgg5) (Ab 1 (Ac (hK6 _ _ _ ?_))))
 refine B4 Ae (Ak (hK5 _ _ _ (Ad (fun K9 hK9=>Ad (fun K10 hK10=>?_)))))
 refine Aa (Ab 1 (Ah (An p1 1 2 0 Tryz.isAgg5) (Ab 1 (Ac ?_))))
 refine hK10 _ _ _ (B5 Ae (Ad (fun K12 hK12=>Aa (Ab 1 ?_))))
 refine Ah (An p1 3 2 0 Tryz.isAgg24) (Ab 1 (Ah (An p1 4 2 0 Tryz.isAgg24) (Ab 1 (Ah (An p1 5 2 0 Tryz.isAgg38) ?_))))
 refine Ax rfl (Au [] [0,1,2] (fun w_ hm_ hl_=>(Aa6 s d xs a cap xs.length _ I7 (hat.mem0 hm_) Ag Ag Ex Ex))) (fun g13 ok14=>Ab 3 (Ai rfl (Bc Tryz.zeroValue124) (fun p8=>Ai rfl (A4 p8 0 0 0 [nV .u16 (uF s d xs 0),nV .u16 (uF s d xs 2),bV (uP s d xs),sV g13 ((uD s d xs).length)] Tryz.sizeOf124 rfl rfl) (fun _=>Ab 1 ?_))))
 refine Ac (hK12 _ _ _ (Ap [0,1,2,3] Al rfl (Ad (fun K17 hK17=>Ad (fun K18 hK18=>?_)))))
 refine Aa (Ab 2 (Ac (hK18 _ _ _ ?_)))
 refine Ao ((uR s d xs) !=0) Ae (fun h20=>?_) (fun h21=>?_)
 ·(exfalso;rw[hr]at h20;cases h20)
 ·have qh21:=h21;try simp only[zA]at qh21
  refine Ak (hK17 _ _ _ (Ad (fun K23 hK23=>Aa (Ab 1 ?_))))
  refine Ah (An p8 0 0 0 Tryz.isAgg22) (Ab 1 (Ai rfl (Bg p5 3 2 0 (nV .u16 (uF s d xs 0)) Tryz.sizeOf22 rfl rfl) (fun _=>Ac (hK23 _ _ _ ?_))))
  refine Ad (fun K25 hK25=>Aa (Ab 1 (Ah (An p8 1 0 0 Tryz.isAgg22) (Ab 1 ?_))))
  refine Ai rfl (Bg p5 4 2 0 (nV .u16 (uF s d xs 2)) Tryz.sizeOf22 rfl rfl) (fun _=>Ac (hK25 _ _ _ (Ap [2,3] Al rfl (Ad (fun K27 hK27=>?_)))))
  refine Aa (Ah (A0 p5 0 0 0 [iV .u8 17,nV .u32 s,nV .u32 d,nV .u16 (uF s d xs 0),nV .u16 (uF s d xs 2)] Tryz.isAgg47 Tryz.sizeOf47) (Ai rfl (A4 p2 0 1 0 [iV .u8 17,nV .u32 s,nV .u32 d,nV .u16 (uF s d xs 0),nV .u16 (uF s d xs 2)] Tryz.sizeOf47 rfl rfl) (fun _=>Ab 2 (Ac ?_))))
  refine hK27 _ _ _ (Ap [1] Al rfl (Aq (fn:=Tryz.f14) rfl (fun w_ hS_=>I1 rfl (Bq p2 0 0 0 [iV .u8 17,nV .u32 s,nV .u32 d,nV .u16 (uF s d xs 0),nV .u16 (uF s d xs 2)] Tryz.isAgg47 Tryz.sizeOf47) (Aw (iV .i64 1)) (Aw (iV .i64 0)) hS_ ⟨rfl,hS_.below⟩)))
end Go.Proofs.YtmonlaoaengfdaaGreatDoor.Oct
namespace Go.Proofs.YtmonlaoaengfdaaGreatDoor.Base
open Go.RowKit
theorem Ee{γ:Type}{P:Program}{n:Nat}{S:γ→World→Prop}{f:Nat→Value}{o:Oper}{v:Value}(h: ∀s,Ys P n (S s) f o v):Ys P n (fun w=> ∃s,S s w) f o v:=fun w ⟨s,hs⟩=>h s w hs
end Go.Proofs.YtmonlaoaengfdaaGreatDoor.Base
namespace Go.Proofs.YtmonlaoaengfdaaGreatDoor.Oct
open Go.RowKit Base
attribute [local irreducible] Ys Yc Ht HtS HtIn Wl Wd W Mem pf D4 Wa Wo
open Conf (Fwd fwv)
def Ni(T:Nat→Bool):Nat→Nat
  |0=>0
  |n+1=>Ni T n+(bif T n then 1 else 0)
def Fw(T:Nat→Bool):Nat:=Ni T 65536
theorem Xb(T:Nat→Bool): ∀n,Ni T n≤n
  |0=>Nat.le_refl 0
  |n+1=>by have:=Xb T n;unfold Ni;cases T n<;>simp only[cond_true,cond_false]<;>omega
theorem Pa{T T':Nat→Bool}: ∀{n},(∀q,q<n→T q=T' q)→Ni T n=Ni T' n
  |0,_=>rfl
  |n+1,h=>by unfold Ni;rw[Pa (n:=n) (fun q hq=>h q Ag),h n Ag]
theorem N4{T:Nat→Bool}{q:Nat}{b:Bool}(hb:T q= !b): ∀{n},q<n→Ni (up T q b) n+(bif b then 0 else 1)=Ni T n+(bif b then 1 else 0)
  |0,h=>by omega
  |n+1,h=>by
    unfold Ni
    by_cases e:q=n
    · subst e
      rw[J0,Pa (T:=up T q b) (T':=T) (fun r hr=>Hf _ _ Ag),hb]
      cases b<;>simp only[Bool.not_true,Bool.not_false,cond_true,cond_false]<;>omega
    · rw[Hf _ _ (fun z=>e z.symm)]
      have:=N4 (b:=b) hb (n:=n) Ag
      omega
theorem N5(T:Nat→Bool):Fw T≤65536:=Xb T 65536
theorem Yf:Fw (fun _=>false)=0:=by
  have h: ∀n,Ni (fun _=>false) n=0:=fun n=>by
    induction n with
    |zero=>rfl
    |succ n ih=>unfold Ni;rw[ih];rfl
  exact h 65536
theorem Xc(T:Nat→Bool){q:Nat}(hq:q<65536):tkN T q (Fw T:Int)=(Fw (P7 T q):Int):=by
  unfold tkN P7
  cases h:Ur T q with
  |false=>rfl
  |true=>
    have ht:T q= !true:=by unfold Ur at h;cases hh:T q with|false=>rfl|true=>rw[hh]at h;simp at h
    have:=N4 (b:=true) ht (n:=65536) hq
    simp only[cond_true]at this⊢
    unfold Fw;omega
theorem Ae4(T:Nat→Bool){q:Nat}(hq:q<65536):gvN T q (Fw T:Int)=(Fw (gvT T q):Int):=by
  unfold gvN gvT
  cases h:T q with
  |false=>rfl
  |true=>
    have:=N4 (b:=false) (T:=T) (q:=q) h (n:=65536) hq
    simp only[cond_true,cond_false]at this⊢
    unfold Fw;omega
theorem Ae5(T:Nat→Bool)(d:Nat):pkN T d (Fw T:Int)=(Fw (Wx T d):Int):=by
  unfold pkN Wx
  by_cases h:pk T d<65536
  · rw[decide_eq_true h]
    have:=N4 (b:=true) ((M2 T d).2.2.1 h) (n:=65536) h
    simp only[cond_true]at this⊢
    unfold Fw;omega
  · rw[decide_eq_false h];rfl
def F5{α:Type}(f:Nat→α)(p:Nat)(v:α):Nat→α:=fun q=>bif q==p then v else f q
theorem F6{α:Type}(f:Nat→α)(p:Nat)(v:α):F5 f p v p=v:=by simp[F5]
theorem Dt{α:Type}(f:Nat→α){p q:Nat}(v:α)(h:q≠p):F5 f p v q=f q:=by unfold F5;rw[show(q==p)=false from beq_eq_false_iff_ne.2 h];rfl
theorem Yg{α:Type}(f:Nat→α)(p:Nat):F5 f p (f p)=f:=by
  funext q
  by_cases h:q=p
  · subst h;rw[F6]
  · rw[Dt _ _ h]
def Fx(tk:Nat→Option Nat)(TT:Nat→Nat→Bool):List Blk:=Ia 230 tk TT (fun p=>(Fw (TT p):Int)) 0 256
theorem Pb(TT:Nat→Nat→Bool):Fx (fun _=>none) TT=[]:=by
  unfold Fx Ia
  rw[List.flatMap_eq_nil_iff];intro i _;rfl
theorem Uf{tk:Nat→Option Nat}{TT:Nat→Nat→Bool}{p b:Nat}(hp:p<256)(h:tk p=some b):
    ∃A B,Fx tk TT=A++cb b (Fd (TT p) (Fw (TT p):Int)) 230::B∧ ∀T',Fx tk (F5 TT p T')=A++cb b (Fd T' (Fw T':Int)) 230::B:=by
  refine⟨Ia 230 tk TT (fun p=>(Fw (TT p):Int)) 0 p,Ia 230 tk TT (fun p=>(Fw (TT p):Int)) (p+1) (255-p),?_,fun T'=>?_⟩
  · unfold Fx;rw[Hq hp,h];rfl
  · unfold Fx
    rw[Hq hp,h,Hr (tk:=tk) (TT:=TT) (cn:=fun p=>(Fw (TT p):Int)) (tk':=tk) (TT':=F5 TT p T') (a:=0) (n:=p) (fun i _ hi=>⟨rfl,Dt _ _ Ag,by rw[Dt _ _ Ag]⟩),
      Hr (tk:=tk) (TT:=TT) (cn:=fun p=>(Fw (TT p):Int)) (tk':=tk) (TT':=F5 TT p T') (a:=p+1) (fun i hi _=>⟨rfl,Dt _ _ Ag,by rw[Dt _ _ Ag]⟩),F6]
    rfl
theorem Yh{tk:Nat→Option Nat}{TT:Nat→Nat→Bool}{p:Nat}(hp:p<256)(h:tk p=none):
    ∃A B,Fx tk TT=A++B∧ ∀b,Fx (Ml tk p (some b)) TT=A++cb b (Fd (TT p) (Fw (TT p):Int)) 230::B:=by
  refine⟨Ia 230 tk TT (fun p=>(Fw (TT p):Int)) 0 p,Ia 230 tk TT (fun p=>(Fw (TT p):Int)) (p+1) (255-p),?_,fun b=>?_⟩
  · unfold Fx;rw[Hq hp,h];rfl
  · unfold Fx
    rw[Hq hp,E3,Hr (tk:=tk) (TT:=TT) (tk':=Ml tk p (some b)) (TT':=TT) (a:=0) (n:=p) (fun i _ hi=>⟨Fi _ _ Ag,rfl,rfl⟩),
      Hr (tk:=tk) (TT:=TT) (tk':=Ml tk p (some b)) (TT':=TT) (a:=p+1) (fun i hi _=>⟨Fi _ _ Ag,rfl,rfl⟩)]
    rfl
theorem Aa9{tk:Nat→Option Nat}{p b:Nat}(h:tk p=some b):Ml tk p (some b)=tk:=by
  funext q
  by_cases e:q=p
  · subst e;rw[E3,h]
  · rw[Fi _ _ e]
abbrev Hx:Type:=Int×Int×Int
structure NK where
  (nb ts te ti wb:Nat)
  gf:FS
  c:Conf.Cfg
  fx:List Conf.Fwd
  mo:Int
structure NP where
  ms:List Mpg
  xs:List (B2×Option Nat)
  zs:List (Hx×Lse)
  ys:List (Int×B2)
  ws:List (Int×Int)
  tk:Nat→Option Nat
  TT:Nat→Nat→Bool
  lst:Int
  es:List (Nat×SesE)
structure NS where
  p:NP
  (gm gs ge gi gw:FS)
def Du(k:NK)(s:NS):List Value:=Dv (M5 k.c (.slice k.gf.a k.fx.length k.gf.cap)) (.slice s.gm.a s.p.ms.length s.gm.cap) (.pointer (some ⟨k.ts,0,none⟩)) (.pointer (some ⟨k.te,0,none⟩)) s.p.tk (.pointer (some ⟨k.wb,0,none⟩)) (.pointer (some ⟨k.ti,0,none⟩)) (.int .u64 s.p.lst)
def Iz(x:Nat×SesE):Blk:=cb x.1 (Aek x.2) 113
def Gj(k:NK)(s:NS):List (List Blk):=[[cb k.nb (Du k s) 91],s.gm.seg 26 (mm mpM s.p.ms),k.gf.seg 65 (mm fwv k.fx),s.gs.seg 173 (mm Fo s.p.xs),[cb k.ts [Value.slice s.gs.a s.p.xs.length s.gs.cap,Value.int .i64 k.mo,Value.func (.func 31) #[] #[]] 153],
  s.gi.seg 223 (mm Hy s.p.ys),[cb k.ti [Value.slice s.gi.a s.p.ys.length s.gi.cap,Value.int .i64 k.mo,Value.func (.func 35) #[] #[]] 163],s.ge.seg 234 (mm Fu s.p.zs),[cb k.te [Value.slice s.ge.a s.p.zs.length s.ge.cap,Value.int .i64 k.mo,Value.func (.func 33) #[] #[]] 160],s.gw.seg 219 (mm Gr s.p.ws),[cb k.wb [.slice s.gw.a s.p.ws.length s.gw.cap] 150],Fx s.p.tk s.p.TT,s.p.es.map Iz]
def NG(k:NK)(s:NS):List Blk:=(Gj k s).flatten
structure NOk(k:NK)(s:NS):Prop where
  okm:s.gm.ok 5 s.p.ms.length
  okf:k.gf.ok 4 k.fx.length
  oks:s.gs.ok 6 s.p.xs.length
  oki:s.gi.ok 6 s.p.ys.length
  oke:s.ge.ok 5 s.p.zs.length
  okw:s.gw.ok 2 s.p.ws.length
  hmn:s.p.ms.length≤100000
  hfn:k.fx.length≤100000
  hmo:0≤k.mo∧k.mo≤50000
  hxn:(s.p.xs.length:Int)≤k.mo
  hyn:(s.p.ys.length:Int)≤k.mo
  hzn:(s.p.zs.length:Int)≤k.mo
  hwn:s.p.ws.length≤90000
  hxs:Fn ordF s.p.xs
  hys:Fn LO.int s.p.ys
  hzs:Fn Ca s.p.zs
  hws:OkS s.p.ws
  hz: ∀p,s.p.tk p=none→s.p.TT p=fun _=>false
section
variable {w0 w:World}{M:List Nat}{LL R:List (List Blk)}{k:NK}{s:NS}{i:Nat}
theorem Sk(h:Mem w0 M (NG k s::R) w):Mem w0 M (Gj k s++R) w:=Mem.flat (by rw[List.flatten_cons,List.flatten_append];rfl) h
theorem Aiq(h:Mem w0 M (Gj k s++R) w):Mem w0 M (NG k s::R) w:=Mem.flat (by rw[List.flatten_cons,List.flatten_append];rfl) h
theorem Gs(h:Mem w0 M LL w)(hi:LL[i]? =some (NG k s)):Mem w0 M (Gj k s) w:=by
  have h1:Mem w0 M [NG k s] w:=h.pick [i] A5 (by simp[Ct,hi])
  have h2:=Sk h1
  rwa[List.append_nil]at h2
theorem Aba(h:Mem w0 M LL w)(hi:LL[i]? =some (NG k s)):At w (some ⟨k.nb,0,none⟩) (Du k s):=Az (i:=0) (j:=0) (Gs h hi) rfl rfl
theorem Ku(h:Mem w0 M LL w)(hi:LL[i]? =some (NG k s)):At w (some ⟨k.ts,0,none⟩) [Value.slice s.gs.a s.p.xs.length s.gs.cap,Value.int .i64 k.mo,Value.func (.func 31) #[] #[]]:=Az (i:=4) (j:=0) (Gs h hi) rfl rfl
theorem Abb(h:Mem w0 M LL w)(hi:LL[i]? =some (NG k s)):At w (some ⟨k.ti,0,none⟩) [Value.slice s.gi.a s.p.ys.length s.gi.cap,Value.int .i64 k.mo,Value.func (.func 35) #[] #[]]:=Az (i:=6) (j:=0) (Gs h hi) rfl rfl
theorem Jp(h:Mem w0 M LL w)(hi:LL[i]? =some (NG k s)):At w (some ⟨k.te,0,none⟩) [Value.slice s.ge.a s.p.zs.length s.ge.cap,Value.int .i64 k.mo,Value.func (.func 33) #[] #[]]:=Az (i:=8) (j:=0) (Gs h hi) rfl rfl
theorem NG.ms(h:Mem w0 M LL w)(hi:LL[i]? =some (NG k s))(ok:NOk k s):At w s.gm.a (mm mpM s.p.ms):=FS.at (i:=1) (Gs h hi) rfl (Aj ok.okm (Aap _))
theorem NG.fx(h:Mem w0 M LL w)(hi:LL[i]? =some (NG k s))(ok:NOk k s):At w k.gf.a (mm fwv k.fx):=FS.at (i:=2) (Gs h hi) rfl (Aj ok.okf (T5 _))
theorem NG.xs(h:Mem w0 M LL w)(hi:LL[i]? =some (NG k s))(ok:NOk k s):At w s.gs.a (mm Fo s.p.xs):=FS.at (i:=3) (Gs h hi) rfl (Aj ok.oks (Jh _))
theorem NG.ys(h:Mem w0 M LL w)(hi:LL[i]? =some (NG k s))(ok:NOk k s):At w s.gi.a (mm Hy s.p.ys):=FS.at (i:=5) (Gs h hi) rfl (Aj ok.oki (Oy _))
theorem NG.zs(h:Mem w0 M LL w)(hi:LL[i]? =some (NG k s))(ok:NOk k s):At w s.ge.a (mm Fu s.p.zs):=FS.at (i:=7) (Gs h hi) rfl (Aj ok.oke (Ji _))
theorem NG.ent{j:Nat}{b:Nat}{e:SesE}(h:Mem w0 M LL w)(hi:LL[i]? =some (NG k s))(hj:s.p.es[j]? =some (b,e)):At w (some ⟨b,0,none⟩) (Aek e):=
  Az (i:=12) (j:=j) (b:=b) (t:=113) (Gs h hi) rfl (by rw[List.getElem?_map,hj];rfl)
end
theorem NG.call{β:Type}{k:NK}{s:NS}{M:List Nat}{w:World}{f:FuncId}{args:Array Value}{Φ:β→Prop}{v:β→Value}{Lo:β→List (List Blk)}(s':β→NS)(is ks ps:List Nat)
    (hl:Mem w M [NG k s] w) (hd:(is++ks).Nodup) (hp:ps.Nodup)
    (hc:Mem w ((Ct (Gj k s) is).flatten.map (·.b)) (Ct (Gj k s) is) w→Calls Tryz.prog f args w (Bj w Φ v ((Ct (Gj k s) is).flatten.map (·.b)) Lo))
    (e2: ∀g,Ct (Lo g++Ct (Gj k s) ks) ps=Gj k (s' g)):Calls Tryz.prog f args w (Bj w Φ v M (fun g=>[NG k (s' g)])):=by
  have h0:=Sk hl
  rw[List.append_nil]at h0
  have h1:Mem w M (Ct (Gj k s) is++Ct (Gj k s) ks) w:=h0.pick (is++ks) hd (by unfold Ct;rw[List.map_append])
  refine Calls.mono (hc h1.local) ?_
  rintro e w' ⟨g,hg,rfl,hm⟩
  refine⟨g,hg,rfl,?_⟩
  have h2:=(h1.back hm).pick ps hp (e2 g)
  exact Aiq (R:=[]) (by rw[List.append_nil];exact h2)
theorem Gk{β:Type}{k:NK}{s:NS}{M:List Nat}{w:World}{f:FuncId}{args:Array Value}{Φ:β→Prop}{Ψ:NS→Prop}{v:Value}{Lo:β→List (List Blk)}(s':β→NS)(is ks ps:List Nat)
    (hl:Mem w M [NG k s] w) (hd:(is++ks).Nodup) (hp:ps.Nodup)
    (hc:Mem w ((Ct (Gj k s) is).flatten.map (·.b)) (Ct (Gj k s) is) w→Calls Tryz.prog f args w (Bj w Φ (fun _=>v) ((Ct (Gj k s) is).flatten.map (·.b)) Lo))
    (e2: ∀g,Ct (Lo g++Ct (Gj k s) ks) ps=Gj k (s' g)) (hΨ: ∀g,Φ g→Ψ (s' g)):Calls Tryz.prog f args w (Bj w Ψ (fun _=>v) M (fun s1=>[NG k s1])):=by
  refine Calls.mono (NG.call s' is ks ps hl hd hp hc e2) ?_
  rintro e w' ⟨g,hg,rfl,hm⟩
  exact⟨s' g,hΨ g hg,rfl,hm⟩
section
variable {k:NK}{s:NS}{M:List Nat}{w:World}
theorem Air(f:B2)(v:Option Nat)(ok:NOk k s)(hl:Mem w M [NG k s] w):Calls Tryz.prog 153 #[.pointer (some ⟨k.ts,0,none⟩),Value.agg ([Value.int .u8 f.1,Value.int .u32 f.2.1,Value.int .u32 f.2.2.1,Value.int .u16 f.2.2.2.1,Value.int .u16 f.2.2.2.2]).toArray,.pointer (Cs v)] w
    (Bj w (fun s1:NS=>NOk k s1∧s1.p={s.p with xs:=Db ordF k.mo s.p.xs f v}) (fun _=>.int .i64 (Kr k.mo s.p.xs f)) M (fun s1=>[NG k s1])):=
  Gk (fun g=>{s with gs:=g,p:={s.p with xs:=Db ordF k.mo s.p.xs f v}}) [3,4] [0,1,2,5,6,7,8,9,10,11,12] [2,3,4,0,1,5,6,7,8,9,10,11,12] hl Al Al (fun h=>Ahs s.p.xs s.gs k.mo k.ts _ f v w h ok.oks (by have:=ok.hxn;have:=ok.hmo;omega) ok.hxs) (fun g=>kr) (fun g hg=>⟨{ok with oks:=hg,hxn:=Mg ok.hxs ok.hxn,hxs:=Ow ok.hxs},rfl⟩)
theorem Ae6(f:B2)(ok:NOk k s)(hl:Mem w M [NG k s] w):Calls Tryz.prog 76 #[.pointer (some ⟨k.ts,0,none⟩),Value.agg ([Value.int .u8 f.1,Value.int .u32 f.2.1,Value.int .u32 f.2.2.1,Value.int .u16 f.2.2.2.1,Value.int .u16 f.2.2.2.2]).toArray] w
    (Bj w (fun s1:NS=>NOk k s1∧s1.p={s.p with xs:=C0 s.p.xs f}) (fun _=>.bool (Bl s.p.xs f)) M (fun s1=>[NG k s1])):=
  Gk (fun g=>{s with gs:=g,p:={s.p with xs:=C0 s.p.xs f}}) [3,4] [0,1,2,5,6,7,8,9,10,11,12] [2,3,4,0,1,5,6,7,8,9,10,11,12] hl Al Al (fun h=>Adt s.p.xs s.gs k.mo k.ts _ f w h ok.oks (by have:=ok.hxn;have:=ok.hmo;omega) ok.hxs) (fun g=>kr) (fun g hg=>⟨{ok with oks:=hg,hxn:=by have:=Ox (k:=f) ok.hxs;have:=ok.hxn;simp only;omega,hxs:=Mf ok.hxs},rfl⟩)
theorem Ais(i:Int)(f:B2)(ok:NOk k s)(hl:Mem w M [NG k s] w):Calls Tryz.prog 154 #[.pointer (some ⟨k.ti,0,none⟩),.int .u64 i,Value.agg ([Value.int .u8 f.1,Value.int .u32 f.2.1,Value.int .u32 f.2.2.1,Value.int .u16 f.2.2.2.1,Value.int .u16 f.2.2.2.2]).toArray] w
    (Bj w (fun s1:NS=>NOk k s1∧s1.p={s.p with ys:=Db LO.int k.mo s.p.ys i f}) (fun _=>.int .i64 (Kr k.mo s.p.ys i)) M (fun s1=>[NG k s1])):=
  Gk (fun g=>{s with gi:=g,p:={s.p with ys:=Db LO.int k.mo s.p.ys i f}}) [5,6] [0,1,2,3,4,7,8,9,10,11,12] [2,3,4,5,6,0,1,7,8,9,10,11,12] hl Al Al (fun h=>Ahu s.p.ys s.gi k.mo k.ti _ i f w h ok.oki (by have:=ok.hyn;have:=ok.hmo;omega) ok.hys) (fun g=>kr) (fun g hg=>⟨{ok with oki:=hg,hyn:=Mg ok.hys ok.hyn,hys:=Ow ok.hys},rfl⟩)
theorem Ae7(i:Int)(ok:NOk k s)(hl:Mem w M [NG k s] w):Calls Tryz.prog 77 #[.pointer (some ⟨k.ti,0,none⟩),.int .u64 i] w
    (Bj w (fun s1:NS=>NOk k s1∧s1.p={s.p with ys:=C0 s.p.ys i}) (fun _=>.bool (Bl s.p.ys i)) M (fun s1=>[NG k s1])):=
  Gk (fun g=>{s with gi:=g,p:={s.p with ys:=C0 s.p.ys i}}) [5,6] [0,1,2,3,4,7,8,9,10,11,12] [2,3,4,5,6,0,1,7,8,9,10,11,12] hl Al Al (fun h=>Adz s.p.ys s.gi k.mo k.ti _ i w h ok.oki (by have:=ok.hyn;have:=ok.hmo;omega) ok.hys) (fun g=>kr) (fun g hg=>⟨{ok with oki:=hg,hyn:=by have:=Ox (k:=i) ok.hys;have:=ok.hyn;simp only;omega,hys:=Mf ok.hys},rfl⟩)
theorem Abc(e:Hx)(l:Lse)(ok:NOk k s)(hl:Mem w M [NG k s] w):Calls Tryz.prog 81 #[.pointer (some ⟨k.te,0,none⟩),Value.agg ([Value.int .u8 e.1,Value.int .u32 e.2.1,Value.int .u16 e.2.2]).toArray,Value.agg ([Value.int .u16 l.ext,Value.int .i64 l.count]).toArray] w
    (Bj w (fun s1:NS=>NOk k s1∧s1.p={s.p with zs:=Db Ca k.mo s.p.zs e l}) (fun _=>.int .i64 (Kr k.mo s.p.zs e)) M (fun s1=>[NG k s1])):=
  Gk (fun g=>{s with ge:=g,p:={s.p with zs:=Db Ca k.mo s.p.zs e l}}) [7,8] [0,1,2,3,4,5,6,9,10,11,12] [2,3,4,5,6,7,8,0,1,9,10,11,12] hl Al Al (fun h=>Aht s.p.zs s.ge k.mo k.te _ e l w h ok.oke (by have:=ok.hzn;have:=ok.hmo;omega) ok.hzs) (fun g=>kr) (fun g hg=>⟨{ok with oke:=hg,hzn:=Mg ok.hzs ok.hzn,hzs:=Ow ok.hzs},rfl⟩)
theorem Ae8(e:Hx)(ok:NOk k s)(hl:Mem w M [NG k s] w):Calls Tryz.prog 82 #[.pointer (some ⟨k.te,0,none⟩),Value.agg ([Value.int .u8 e.1,Value.int .u32 e.2.1,Value.int .u16 e.2.2]).toArray] w
    (Bj w (fun s1:NS=>NOk k s1∧s1.p={s.p with zs:=C0 s.p.zs e}) (fun _=>.bool (Bl s.p.zs e)) M (fun s1=>[NG k s1])):=
  Gk (fun g=>{s with ge:=g,p:={s.p with zs:=C0 s.p.zs e}}) [7,8] [0,1,2,3,4,5,6,9,10,11,12] [2,3,4,5,6,7,8,0,1,9,10,11,12] hl Al Al (fun h=>Adw s.p.zs s.ge k.mo k.te _ e w h ok.oke (by have:=ok.hzn;have:=ok.hmo;omega) ok.hzs) (fun g=>kr) (fun g hg=>⟨{ok with oke:=hg,hzn:=by have:=Ox (k:=e) ok.hzs;have:=ok.hzn;simp only;omega,hzs:=Mf ok.hzs},rfl⟩)
theorem Sl(i a:Int)(ok:NOk k s)(hw:s.p.ws.length≤80000)(hl:Mem w M [NG k s] w):Calls Tryz.prog 91 #[.pointer (some ⟨k.wb,0,none⟩),.int .u64 i,.int .u64 a] w
    (Bj w (fun s1:NS=>NOk k s1∧s1.p={s.p with ws:=I2 s.p.ws i a}) (fun _=>.tuple #[]) M (fun s1=>[NG k s1])):=
  Gk (fun g=>{s with gw:=g,p:={s.p with ws:=I2 s.p.ws i a}}) [9,10] [0,1,2,3,4,5,6,7,8,11,12] [2,3,4,5,6,7,8,9,10,0,1,11,12] hl Al Al (fun h=>Ahz s.p.ws s.gw k.wb _ i a w h ok.okw Ag ok.hws.srt) (fun g=>kr) (fun g hg=>⟨{ok with okw:=hg,hwn:=by have:=Z5 s.p.ws i a;simp only;omega,hws:=ok.hws.set i a},rfl⟩)
theorem Ait(i:Int)(ok:NOk k s)(hl:Mem w M [NG k s] w):Calls Tryz.prog 78 #[.pointer (some ⟨k.wb,0,none⟩),.int .u64 i] w
    (Bj w (fun s1:NS=>NOk k s1∧s1.p={s.p with ws:=Fj s.p.ws i}) (fun _=>.bool (decide (Lv (Cu s.p.ws) i≥0))) M (fun s1=>[NG k s1])):=
  Gk (fun g=>{s with gw:=g,p:={s.p with ws:=Fj s.p.ws i}}) [9,10] [0,1,2,3,4,5,6,7,8,11,12] [2,3,4,5,6,7,8,9,10,0,1,11,12] hl Al Al (fun h=>Aaf s.p.ws s.gw k.wb _ i w h ok.okw (by have:=ok.hwn;omega)) (fun g=>kr) (fun g hg=>⟨{ok with okw:=hg,hwn:=by have:=Sa s.p.ws i;have:=ok.hwn;simp only;omega,hws:=ok.hws.cut i},rfl⟩)
theorem perm_new{α:Type}{P S:List (List α)}{A B:List α}{n x:α}:([[n],[x]]++(P++[A++B]++S)).flatten.Perm ([n]::(P++[A++x::B]++S)).flatten:=by
  simp only[List.flatten_append,List.flatten_cons,List.flatten_nil,List.append_nil,List.cons_append,List.nil_append,List.append_assoc]
  refine List.Perm.cons _ ?_
  have h:=(List.perm_middle (a:=x) (l₁:=P.flatten++A) (l₂:=B++S.flatten)).symm
  simpa only[List.append_assoc]using h
def Y9(s:NS)(p b:Nat):NS:={s with p:={s.p with tk:=Ml s.p.tk p (some b)}}
def stT(s:NS)(p:Nat)(T:Nat→Bool):NS:={s with p:={s.p with TT:=F5 s.p.TT p T}}
theorem Agr{p:Nat}(hp:p<256)(ok:NOk k s)(hl:Mem w M [NG k s] w):Calls Tryz.prog 69 #[.pointer (some ⟨k.nb,0,none⟩),.int .u8 (p:Int)] w
    (Bj w (fun b:Nat=>NOk k (Y9 s p b)∧(s.p.tk p=none∨s.p.tk p=some b)) (fun b=>.pointer (some ⟨b,0,none⟩)) M (fun b=>[NG k (Y9 s p b)])):=by
  cases h:s.p.tk p with
  |some b=>
    refine Calls.mono (X7 k.c k.gf k.fx (.slice s.gm.a s.p.ms.length s.gm.cap) k.ts k.te s.p.tk k.wb k.ti s.p.lst k.nb p b w (Aba (i:=0) hl rfl) h hp) ?_
    rintro e w' ⟨rfl,hb⟩
    have e1:Y9 s p b=s:=by unfold Y9;rw[Aa9 h]
    exact⟨b,⟨by rw[e1];exact ok,.inr rfl⟩,rfl,by show Mem w M [NG k (Y9 s p b)] w';rw[e1];exact hl.ext hb⟩
  |none=>
    obtain⟨A,B,e1,e2⟩:=Yh (TT:=s.p.TT) hp h
    have h0:=Sk hl
    rw[List.append_nil]at h0
    have h1:Mem w M ([[cb k.nb (Du k s) 91]]++(Gj k s).tail) w:=h0
    refine Calls.mono (X8 k.c k.gf k.fx (.slice s.gm.a s.p.ms.length s.gm.cap) k.ts k.te s.p.tk k.wb k.ti s.p.lst k.nb p _ w h1.local h hp) ?_
    rintro e w' ⟨b,_,rfl,hm⟩
    have hz1: ∀q,(Y9 s p b).p.tk q=none→(Y9 s p b).p.TT q=fun _=>false:=fun q hq=>by
      by_cases e:q=p
      · subst e;exact absurd ((E3 s.p.tk q (some b)).symm.trans hq) A5
      · exact ok.hz q ((Fi s.p.tk (some b) e).symm.trans hq)
    have ok1:NOk k (Y9 s p b):={ok with hz:=hz1}
    refine⟨b,⟨ok1,.inl rfl⟩,rfl,?_⟩
    have h2:=h1.back hm
    refine h2.perm ?_
    have e3:Fx (Ml s.p.tk p (some b)) s.p.TT=A++cb b (Fd (fun _=>false) 0) 230::B:=by
      rw[e2 b,ok.hz p h,Yf];rfl
    have e4:(Gj k s).tail=((Gj k s).take 11).tail++[A++B]++(Gj k s).drop 12:=by rw[←e1];rfl
    have e5:Gj k (Y9 s p b)=[cb k.nb (Du k (Y9 s p b)) 91]::(((Gj k s).take 11).tail++[A++cb b (Fd (fun _=>false) 0) 230::B]++(Gj k s).drop 12):=by rw[←e3];rfl
    show([NG k (Y9 s p b)].flatten).Perm _
    rw[e4,List.flatten_cons,List.flatten_nil,List.append_nil]
    unfold NG
    rw[e5]
    exact perm_new.symm
theorem Abd{p:Nat}(hp:p<256)(ok:NOk k s)(hl:Mem w M [NG k s] w):Calls Tryz.prog 69 #[.pointer (some ⟨k.nb,0,none⟩),.int .u8 (p:Int)] w
    (Bj w (fun q:NS×Nat=>NOk k q.1∧q.1.p={s.p with tk:=Ml s.p.tk p (some q.2)}∧(s.p.tk p=none∨s.p.tk p=some q.2)) (fun q=>.pointer (some ⟨q.2,0,none⟩)) M (fun q=>[NG k q.1])):=by
  refine Calls.mono (Agr hp ok hl) ?_
  rintro e w' ⟨b,⟨h1,h2⟩,rfl,hm⟩
  exact⟨(Y9 s p b,b),⟨h1,rfl,h2⟩,rfl,hm⟩
theorem perm_foc{α:Type}{P S:List (List α)}{A B:List α}{x:α}:([[x]]++([A,B]++(P++S))).flatten.Perm (P++[A++x::B]++S).flatten:=by
  simp only[List.flatten_append,List.flatten_cons,List.flatten_nil,List.append_nil,List.cons_append,List.nil_append,List.append_assoc]
  have h1:(x::(A++(B++(P.flatten++S.flatten)))).Perm (A++x::(B++(P.flatten++S.flatten))):=List.perm_middle.symm
  refine h1.trans ?_
  have h2:A++x::(B++(P.flatten++S.flatten))=(A++x::B)++(P.flatten++S.flatten):=by simp
  have h3:P.flatten++(A++x::(B++S.flatten))=P.flatten++((A++x::B)++S.flatten):=by simp
  rw[h2,h3]
  exact List.perm_append_comm_assoc _ _ _
theorem Abe{p b:Nat}{f:FuncId}{args:Array Value}{v:Value}{T':Nat→Bool}(hp:p<256)(h:s.p.tk p=some b)(ok:NOk k s)(hl:Mem w M [NG k s] w)
    (hc:Mem w [b] [[cb b (Fd (s.p.TT p) (Fw (s.p.TT p):Int)) 230]] w→Calls Tryz.prog f args w (Bj w (fun _:Unit=>True) (fun _=>v) [b] (fun _=>[[cb b (Fd T' (Fw T':Int)) 230]]))):
    Calls Tryz.prog f args w (Bj w (fun _:Unit=>NOk k (stT s p T')) (fun _=>v) M (fun _=>[NG k (stT s p T')])):=by
  obtain⟨A,B,e1,e2⟩:=Uf (TT:=s.p.TT) hp h
  have hz1: ∀q,(stT s p T').p.tk q=none→(stT s p T').p.TT q=fun _=>false:=fun q hq=>by
    by_cases e:q=p
    · subst e;exact absurd (hq.symm.trans h) A5
    · exact(Dt s.p.TT T' e).trans (ok.hz q hq)
  have ok1:NOk k (stT s p T'):={ok with hz:=hz1}
  have h0:=Sk hl
  rw[List.append_nil]at h0
  have h1:Mem w M ([[cb b (Fd (s.p.TT p) (Fw (s.p.TT p):Int)) 230]]++([A,B]++(Gj k s).eraseIdx 11)) w:=by
    refine h0.perm ?_
    show([_]++([A,B]++_):List (List Blk)).flatten.Perm (Gj k s).flatten
    have e3:Gj k s=(Gj k s).take 11++[A++cb b (Fd (s.p.TT p) (Fw (s.p.TT p):Int)) 230::B]++(Gj k s).drop 12:=by rw[←e1];rfl
    have e4:(Gj k s).eraseIdx 11=(Gj k s).take 11++(Gj k s).drop 12:=rfl
    rw[e4];conv=>rhs;rw[e3]
    exact perm_foc
  refine Calls.mono (hc h1.local) ?_
  rintro e w' ⟨g,_,rfl,hm⟩
  refine⟨(),ok1,rfl,?_⟩
  have h2:=h1.back hm
  refine h2.perm ?_
  show([NG k _]:List (List Blk)).flatten.Perm _
  have e3:Gj k (stT s p T')=(Gj k s).take 11++[A++cb b (Fd T' (Fw T':Int)) 230::B]++(Gj k s).drop 12:=by rw[←e2 T'];rfl
  have e4:(Gj k s).eraseIdx 11=(Gj k s).take 11++(Gj k s).drop 12:=rfl
  rw[e4,List.flatten_cons,List.flatten_nil,List.append_nil]
  unfold NG
  rw[e3]
  exact perm_foc.symm
theorem Vi{p b:Nat}{f:FuncId}{args:Array Value}{v:Value}{T':Nat→Bool}(hp:p<256)(h:s.p.tk p=some b)(ok:NOk k s)(hl:Mem w M [NG k s] w)
    (hc:Mem w [b] [[cb b (Fd (s.p.TT p) (Fw (s.p.TT p):Int)) 230]] w→Calls Tryz.prog f args w (Bj w (fun _:Unit=>True) (fun _=>v) [b] (fun _=>[[cb b (Fd T' (Fw T':Int)) 230]]))):
    Calls Tryz.prog f args w (Bj w (fun s1:NS=>NOk k s1∧s1.p={s.p with TT:=F5 s.p.TT p T'}) (fun _=>v) M (fun s1=>[NG k s1])):=by
  refine Calls.mono (Abe hp h ok hl hc) ?_
  rintro e w' ⟨_,h1,rfl,hm⟩
  exact⟨stT s p T',⟨h1,rfl⟩,rfl,hm⟩
theorem Aiu{p b q:Nat}(hp:p<256)(hq:q<65536)(h:s.p.tk p=some b)(ok:NOk k s)(hl:Mem w M [NG k s] w):Calls Tryz.prog 70 #[.pointer (some ⟨b,0,none⟩),.int .u16 (q:Int)] w
    (Bj w (fun _:Unit=>NOk k (stT s p (P7 (s.p.TT p) q))) (fun _=>.bool (Ur (s.p.TT p) q)) M (fun _=>[NG k (stT s p (P7 (s.p.TT p) q))])):=
  Abe hp h ok hl (fun hb=>by have:=Sf (s.p.TT p) _ b q w hb hq Ag (by have:=N5 (s.p.TT p);omega);rwa[Xc _ hq]at this)
theorem Aiv{p b q:Nat}(hp:p<256)(hq:q<65536)(h:s.p.tk p=some b)(ok:NOk k s)(hl:Mem w M [NG k s] w):Calls Tryz.prog 70 #[.pointer (some ⟨b,0,none⟩),.int .u16 (q:Int)] w
    (Bj w (fun s1:NS=>NOk k s1∧s1.p={s.p with TT:=F5 s.p.TT p (P7 (s.p.TT p) q)}) (fun _=>.bool (Ur (s.p.TT p) q)) M (fun s1=>[NG k s1])):=
  Vi hp h ok hl (fun hb=>by have:=Sf (s.p.TT p) _ b q w hb hq Ag (by have:=N5 (s.p.TT p);omega);rwa[Xc _ hq]at this)
theorem Aiw{p b q:Nat}(hp:p<256)(hq:q<65536)(h:s.p.tk p=some b)(ok:NOk k s)(hl:Mem w M [NG k s] w):Calls Tryz.prog 83 #[.pointer (some ⟨b,0,none⟩),.int .u16 (q:Int)] w
    (Bj w (fun s1:NS=>NOk k s1∧s1.p={s.p with TT:=F5 s.p.TT p (gvT (s.p.TT p) q)}) (fun _=>.bool (s.p.TT p q)) M (fun s1=>[NG k s1])):=
  Vi hp h ok hl (fun hb=>by have:=Ah4 (s.p.TT p) _ b q w hb hq Ag (by have:=N5 (s.p.TT p);omega);rwa[Ae4 _ hq]at this)
theorem Aix{p b d:Nat}(hp:p<256)(hd:d<18446744073709551616)(h:s.p.tk p=some b)(htab:At w (some ⟨0,0,none⟩) (Ci dbt))(ok:NOk k s)(hl:Mem w M [NG k s] w):Calls Tryz.prog 111 #[.pointer (some ⟨b,0,none⟩),.int .u64 (d:Int)] w
    (Bj w (fun s1:NS=>NOk k s1∧s1.p={s.p with TT:=F5 s.p.TT p (Wx (s.p.TT p) d)}) (fun _=>.tuple #[.int .u16 (L8 (s.p.TT p) d:Int),.bool (decide (pk (s.p.TT p) d<65536))]) M (fun s1=>[NG k s1])):=
  Vi hp h ok hl (fun hb=>by have:=Ah6 (s.p.TT p) _ b d w hb Ag (by have:=N5 (s.p.TT p);omega) htab hd;rwa[Ae5]at this)
end
end Go.Proofs.YtmonlaoaengfdaaGreatDoor.Oct
