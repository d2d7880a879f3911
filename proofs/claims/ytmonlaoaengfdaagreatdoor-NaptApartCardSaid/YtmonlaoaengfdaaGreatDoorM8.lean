import Derived.Test.YtmonlaoaengfdaaGreatDoorM7
import Derived.Test.YtmonlaoaengfdaaGreatDoorM6
import Derived.Test.YtmonlaoaengfdaaGreatDoorM2
set_option linter.unusedVariables false
set_option linter.unusedSimpArgs false
set_option maxRecDepth 20000
namespace Go.Proofs.YtmonlaoaengfdaaGreatDoor.Oct
open Go.RowKit Base Tryz
attribute [local irreducible] Ys Yc Ht HtS HtIn Wl Wd W Mem pf Ez Wa Wo KW
def w2(xs:List UInt8)(k:Nat):Nat:=256*(xs.getD k 0).toNat+(xs.getD (k+1) 0).toNat
theorem Eu(xs:List UInt8)(k:Nat):w2 xs k<65536:=by
  unfold w2;have:=UInt8.toNat_lt (xs.getD k 0);have:=UInt8.toNat_lt (xs.getD (k+1) 0);omega
theorem Ao0{xs:List UInt8}{k:Nat}(h:k+2≤xs.length):bv ((xs.drop k).take 2)=w2 xs k:=by
  have e:(xs.drop k).take 2=[xs.getD k 0,xs.getD (k+1) 0]:=by
    apply List.ext_getElem?
    intro j
    rcases j with _|_|j
    · simp[List.getElem?_take,List.getElem?_drop,List.getElem?_eq_getElem (show k<xs.length by omega)]
    · simp[List.getElem?_take,List.getElem?_drop,List.getElem?_eq_getElem (show k+1<xs.length by omega)]
    · simp;omega
  rw[e];unfold w2;simp[bv];omega
theorem G7(X:List UInt8)(a:Option Addr)(len cap:Nat)(c:Bool)(b j k:Nat)(w:World)(i:Mem w [b] [[cb b [.slice a len cap,.bool c] 283]] w)(f:At w a (Cx (X.drop j)))(l:len=X.length-j)(d:j+k≤X.length)(e:len≤cap)(n:X.length≤70368744177664)(g:k≤8)(o:k=2:=by rfl):
    Calls prog 132 #[.pointer (some ⟨b,0,none⟩),.int .i64 (k:Int)] w (Bn w (fun x:EV=>View x.a (X.drop (j+k)) a (X.drop j)∧X.length-(j+k)≤x.cap) (fun x=>.int .u64 (w2 X j:Int)) [b] (fun x=>[[cb b [.slice x.a (X.length-(j+k)) x.cap,.bool c] 283]])):=by
  have h:=Ot X a len cap c b j k w i f l d e n g
  subst o
  rw[Ao0 d]at h
  exact h
theorem Xo{n k:Nat}(h:(Ph n k !=0)=false):k≤n∧n≤1480:=by
  unfold Ph at h
  split at h
  · cases h
  · split at h
    · cases h
    · omega
def uR(s d:Nat)(xs:List UInt8):Int:=if xs.length<8 then 10 else if 1480<xs.length then 14 else if w2 xs 4<8∨xs.length<w2 xs 4 then 11 else if w2 xs 6≠0∧E3 (Fa s d 17 (w2 xs 4)++xs.take (w2 xs 4))≠0 then 12 else 0
def ug(s d:Nat)(xs:List UInt8):Bool:=decide (uR s d xs=0)
def uF(s d:Nat)(xs:List UInt8)(k:Nat):Nat:=bif ug s d xs then w2 xs k else 0
def uP(s d:Nat)(xs:List UInt8):Bool:=ug s d xs&&decide (w2 xs 6=0)
def uD(s d:Nat)(xs:List UInt8):List UInt8:=bif ug s d xs then(xs.drop 8).take (w2 xs 4-8)else []
theorem Alm{s d:Nat}{xs:List UInt8}(h:(Ph xs.length 8 !=0)=true):uR s d xs=Ph xs.length 8:=by
  unfold uR Ph at*
  split
  · rfl
  · split
    · rfl
    · rename_i b c;rw[if_neg b,if_neg c]at h;cases h
theorem p67(xs:List UInt8):((((xs.getD 6 0).toNat:Nat):Int)==0&&((xs.getD 7 0).toNat:Int)==0)=decide (w2 xs 6=0):=by
  rw[Bool.eq_iff_iff,Bool.and_eq_true,beq_iff_eq,beq_iff_eq,decide_eq_true_eq]
  show _↔256*(xs.getD 6 0).toNat+(xs.getD 7 0).toNat=0
  omega
theorem z60(n:Nat):(((n:Nat):Int)==0)=decide (n=0):=by by_cases h:n=0<;>simp[h]
abbrev Qc:List Value:=zl3
set_option maxHeartbeats 1000000 in
theorem Aln(s d:Nat)(xs:List UInt8)(a:Option Addr)(cap:Nat)(w:World)(ab:At w a (Cx xs))(hs:s<4294967296)(hd:d<4294967296)(hl:xs.length≤100000)(bj:xs.length≤cap):Calls prog 85 #[nV .u32 s,nV .u32 d,sL a xs.length cap] w (Bn w (fun g:FS=>g.ok 1 (uD s d xs).length) (fun g=>.tuple #[.agg [.int .u16 ((uF s d xs 0:Nat):Int),.int .u16 ((uF s d xs 2:Nat):Int),.bool (uP s d xs),.slice g.a (uD s d xs).length g.cap].toArray,.int .i64 (uR s d xs)]) [] (fun g=>[g.seg 5 (Cx (uD s d xs))])):=by
 have bk:=Eu xs 4;have bl:=Eu xs 6
 refine Ap (M:=[]) (LL:=[]) (n:=67) func85 rfl rfl A7 (Mem.refl _)<|W.s ?_
 refine Ac<|Af rfl (Ba zeroValue124) fun E=>?_
 refine Ab 1<|Ai<|W.s<|W.s ?_
 refine Ac<|Ab 1<|Cb (v:=iV .i64<|Ph xs.length 8) (A8 fun F c=>R6 a xs.length cap 8 _ Ae Ae)<|Ab 1<|Ay ?_
 refine A9<|Aj [] ?_
 refine Ak ((Ph xs.length 8) !=0) Aa (fun h8=>?_) fun h9=>?_
 ·have az:=h8;try simp only[zA]at az
  refine Av<|A5 2 [(0,0)]<|Af rfl (A0 E 0 0 0 Qc sizeOf124 rfl rfl) fun _=>Ab 1 ?_
  refine Ai<|Am rfl ?_
  have G:uR s d xs=Ph xs.length 8:=Alm h8
  have H:ug s d xs=false:=by unfold ug;rw[G];exact decide_eq_false (by simpa using h8)
  have C:uD s d xs=[]:=by unfold uD;rw[H];rfl
  exact E2 rfl (Bu E 0 0 0 zl3 isAgg124 sizeOf124) (Ar<|iV .i64<|Ph xs.length 8) fun F B=>⟨FS.nul,(by rw[C];exact B6 1),Eo<|(by simp only[uF,uP,H,cond_false,Bool.false_and,G,C];rfl),(Mem.cast (by rw[C];rfl)<|Mem.push<|B.pick [] An rfl)⟩
 ·have a0:=h9;try simp only[zA]at a0
  refine Ag<|A9<|W.s ?_
  have bm:=Xo h9
  refine Ac<|Ab 1<|Aw rfl (Au [] [0] fun F c f=>(Oo xs a xs.length cap _ rfl (ab.mem0 c) Fp)) fun l o=>Ab 1<|Ay ?_
  refine A9<|W.s ?_
  refine Ac<|Ab 1<|Aw rfl (Au [0] [1,2] fun F c f=>(G7 xs l.g.a xs.length l.g.cap false l.b 0 2 _ f (by rw[List.drop_zero];exact(FS.at (i:=1) (t:=5) c rfl<|Ah o<|Bo _)) K5 Ae (o.le) Ae An)) fun S ad=>?_
  obtain⟨D,a5⟩:=ad
  refine Ao (v:=nV .u16<|(w2 xs 0)%65536) ((Ys.p (v:=.int .u16<|Ct .u16 ((w2 xs 0:Nat):Int))).conseq<|Ad<|Dn rfl _)<|Ab 1<|Aw rfl (Au [0] [1,2] fun F c f=>(G7 xs S.a (xs.length-2) S.cap false l.b 2 2 _ f (D _<|by rw[List.drop_zero];exact(FS.at (i:=1) (t:=5) c rfl<|Ah o<|Bo _)) K5 Ae Ae Ae An)) fun T ae=>?_
  obtain⟨I,a6⟩:=ae
  refine Ao (v:=nV .u16<|(w2 xs 2)%65536) ((Ys.p (v:=.int .u16<|Ct .u16 ((w2 xs 2:Nat):Int))).conseq<|Ad<|Dn rfl _)<|Ab 1<|Af rfl (Bd E 0 2 0 (nV .u16<|(w2 xs 0)%65536) sizeOf22 rfl rfl) fun _=>Ab 1<|Af rfl (Bd E 1 2 0 (nV .u16<|(w2 xs 2)%65536) sizeOf22 rfl rfl) fun _=>?_
  refine Ai<|Av<|Ab 1 ?_
  refine Aw rfl (Au [0] [1,2] fun F c f=>(G7 xs T.a (xs.length-4) T.cap false l.b 4 2 _ f (I _<|D _<|by rw[List.drop_zero];exact(FS.at (i:=1) (t:=5) c rfl<|Ah o<|Bo _)) K5 Ae Ae Ae An)) fun U af=>?_
  obtain⟨N,a7⟩:=af
  refine Ao (v:=nV .i64<|w2 xs 4) ((Ys.p (v:=.int .i64<|Ct .i64 ((w2 xs 4:Nat):Int))).conseq<|Ad<|Dg Ae Ae)<|Ab 1<|Ai<|W.s ?_
  refine Ac<|Ab 1<|Aw rfl (Au [0] [1,2] fun F c f=>(G7 xs U.a (xs.length-6) U.cap false l.b 6 2 _ f (N _<|I _<|D _<|by rw[List.drop_zero];exact(FS.at (i:=1) (t:=5) c rfl<|Ah o<|Bo _)) K5 Ae Ae Ae An)) fun J ag=>?_
  obtain⟨V,a8⟩:=ag
  refine Ab 2<|Af rfl (Bd E 2 2 0 (bV<|((w2 xs 6:Nat):Int)==0) sizeOf4 rfl rfl) fun _=>?_
  refine Ai<|W.s<|W.block<|W.s ?_
  refine Ac<|Ab 3<|C1 4 (decide<|((w2 xs 4:Nat):Int)<8) (fun _=>Gs.z [])<|Ao (v:=bV<|(decide<|((w2 xs 4:Nat):Int)<8)||(decide<|((w2 xs 4:Nat):Int)>(xs.length:Int))) (Ce (e:=decide<|((w2 xs 4:Nat):Int)<8) (b:=decide<|((w2 xs 4:Nat):Int)>(xs.length:Int)) rfl Aa Aa Aa)<|Ab 1 ?_
  refine Ai ?_
  refine Ak ((decide<|((w2 xs 4:Nat):Int)<8)||(decide<|((w2 xs 4:Nat):Int)>(xs.length:Int))) Aa (fun a1=>?_) fun a2=>?_
  ·have ah:=a1;try simp only[zA]at ah
   refine Av<|Ab 1<|Af rfl (A0 E 0 2 0 Qc sizeOf124 rfl rfl) fun _=>Ab 1 ?_
   refine Ai<|Al [2] An rfl<|Am rfl ?_
   have G:uR s d xs=11:=by unfold uR;rw[if_neg Ae,if_neg Ae,if_pos Ae]
   have H:ug s d xs=false:=by unfold ug;rw[G];rfl
   have C:uD s d xs=[]:=by unfold uD;rw[H];rfl
   exact E2 rfl (Bu E 0 0 0 zl3 isAgg124 sizeOf124) (Ar<|iV .i64 11) fun F B=>⟨FS.nul,(by rw[C];exact B6 1),Eo<|(by simp only[uF,uP,H,cond_false,Bool.false_and,G,C];rfl),(Mem.cast (by rw[C];rfl)<|Mem.push<|B.pick [] An rfl)⟩
  ·have ai:=a2;try simp only[zA]at ai
   refine W.s<|C5 [(0,false),(1,false),(2,false),(3,false),(4,true),(5,true),(6,true),(8,true),(9,true),(10,true),(7,false),(11,false),(12,false),(13,false),(14,false),(15,false)] [4,5,6,8,9,10]<|Bs 4 [(2,0)] ?_
   refine Bg (v:=nV .u32 s) (!(((w2 xs 6:Nat):Int)==0)) rfl (Bv rfl Aa) rfl (fun a9=>?_) ?_
   ·exact Ys.p
   refine Bg (v:=nV .u32 d) (!(((w2 xs 6:Nat):Int)==0)) rfl (Bv rfl Aa) rfl (fun ba=>?_) ?_
   ·exact Ys.p
   refine Bg (v:=nV .i64<|w2 xs 4) (!(((w2 xs 6:Nat):Int)==0)) rfl (Bv rfl Aa) rfl (fun bb=>?_) ?_
   ·exact Ys.p
   refine Bg (v:=sL a xs.length cap) (!(((w2 xs 6:Nat):Int)==0)) rfl (Bv rfl Aa) rfl (fun bc=>?_) ?_
   ·exact Ys.p
   refine Bg (v:=nV .i64<|w2 xs 4) (!(((w2 xs 6:Nat):Int)==0)) rfl (Bv rfl Aa) rfl (fun bd=>?_) ?_
   ·exact Ys.p
   refine Bg (v:=sL a (w2 xs 4) cap) (!(((w2 xs 6:Nat):Int)==0)) rfl (Bv rfl Aa) rfl (fun O=>?_) ?_
   ·have X:=O;try simp only[zA]at X
    refine Bh (t:=53) (v0:=sL a xs.length cap) (lz (g:= !(((w2 xs 6:Nat):Int)==0)) (u:=undef) O Aa)<|Bh (t:=54) (v0:=nV .i64<|w2 xs 4) (lz (g:= !(((w2 xs 6:Nat):Int)==0)) (u:=undef) O Aa) ?_
    exact Dm (a:=a) (len:=xs.length) (cap:=cap) (sz:=1) (k:=.i64) (i:=((w2 xs 4:Nat):Int)) rfl Aa Aa runUnderlying38 sizeOf5 Ae Ae
   refine Vv (!(((w2 xs 6:Nat):Int)==0)) (fun q=>?_) fun R=>?_
   ·have aj:=q;try simp only[zA]at aj
    refine Hg 47 (v0:=.bool true) (Kx (e:= !(((w2 xs 6:Nat):Int)==0)) Aa q)<|Hg 48 (v0:=.bool true) (Kx (e:= !(((w2 xs 6:Nat):Int)==0)) Aa q)<|Hg 49 (v0:=nV .u32 s) (lz (g:= !(((w2 xs 6:Nat):Int)==0)) (u:=undef) q Aa)<|Hg 50 (v0:=nV .u32 d) (lz (g:= !(((w2 xs 6:Nat):Int)==0)) (u:=undef) q Aa)<|Hg 51 (v0:=nV .i64<|w2 xs 4) (lz (g:= !(((w2 xs 6:Nat):Int)==0)) (u:=undef) q Aa) ?_
    refine Hg 53 (v0:=sL a xs.length cap) (lz (g:= !(((w2 xs 6:Nat):Int)==0)) (u:=undef) q Aa)<|Hg 54 (v0:=nV .i64<|w2 xs 4) (lz (g:= !(((w2 xs 6:Nat):Int)==0)) (u:=undef) q Aa)<|Hg 55 (v0:=sL a (w2 xs 4) cap) (lz (g:= !(((w2 xs 6:Nat):Int)==0)) (u:=undef) q Aa)<|Yl rfl Aa (Au [] [0,1,2] fun F c f=>(N0 s d (17:UInt8) (w2 xs 4) _ Ae Ae Ae)) (Az [1,2,3]) fun L ak=>Abt rfl Aa (Bj (mk:=fun b_=>.slice (some ⟨b_,0,none⟩) 2 2) (t:=38) (cs:=[sV L 12,sL a (w2 xs 4) cap]) rfl fun _=>kr) (Az [2,3,4]) fun Y=>?_
    refine Bp (v:=bV<|((E3 ((Fa s d (17:UInt8)<|w2 xs 4)++(xs.take<|w2 xs 4)):Nat):Int)==0) (true) rfl Aa rfl (fun _=>A8 fun F c=>(R5 [⟨L.a,(Fa s d (17:UInt8)<|w2 xs 4),L.cap⟩,⟨a,(xs.take<|w2 xs 4),cap⟩] ((Fa s d (17:UInt8)<|w2 xs 4)++(xs.take<|w2 xs 4)) (some ⟨Y,0,none⟩) 2 2 (12+(w2 xs 4)) _ rfl (by simp[jn]) Mf (by first|exact A4 (i:=0) (j:=0) (t:=38) (b:=Y) c rfl rfl|(rw[show mc Pg ([⟨L.a,(Fa s d (17:UInt8)<|w2 xs 4),L.cap⟩,⟨a,(xs.take<|w2 xs 4),cap⟩]:List SV)=[sV L 12,Value.slice a (w2 xs 4) cap] by(simp[mc,Bc,B8];try omega)];exact A4 (i:=0) (j:=0) (t:=38) (b:=Y) c rfl rfl)) (List.forall_mem_cons.2 ⟨(FS.at (i:=1) (t:=5) c rfl<|Ah ak<|by rw[Du,B8]),(List.forall_mem_cons.2 ⟨((ab.mem0 c).mtake<|w2 xs 4),(fun _ h=>by cases h)⟩)⟩) K2 A7 A7)) (Ee [2,3,4])<|Bp (v:=bV<|!(((E3 ((Fa s d (17:UInt8)<|w2 xs 4)++(xs.take<|w2 xs 4)):Nat):Int)==0)) (true) rfl Aa rfl (fun _=>Ys.yc Ys.p) (Ee [2,3,4])<|Wd.mp 2 [] [2,3,4]<|Cl ?_
    refine Al [2,3,4] An rfl ?_
    refine Ak (!(((E3 ((Fa s d (17:UInt8)<|w2 xs 4)++(xs.take<|w2 xs 4)):Nat):Int)==0)) Aa (fun al=>?_) fun am=>?_
    ·have an:=al;try simp only[zA]at an
     refine Av<|Ab 1<|Af rfl (A0 E 0 2 0 Qc sizeOf124 rfl rfl) fun _=>Ab 1 ?_
     refine Ai<|Al [2] An rfl<|Am rfl ?_
     have r:(w2 xs 6≠0∧E3 (Fa s d 17 (w2 xs 4)++xs.take (w2 xs 4))≠0):=by have P:=q;simp at P;have ao:=al;simp at ao;omega
     have G:uR s d xs=12:=by unfold uR;rw[if_neg Ae,if_neg Ae,if_neg Ae,if_pos r]
     have H:ug s d xs=false:=by unfold ug;rw[G];rfl
     have C:uD s d xs=[]:=by unfold uD;rw[H];rfl
     exact E2 rfl (Bu E 0 0 0 zl3 isAgg124 sizeOf124) (Ar<|iV .i64 12) fun F B=>⟨FS.nul,(by rw[C];exact B6 1),Eo<|(by simp only[uF,uP,H,cond_false,Bool.false_and,G,C];rfl),(Mem.cast (by rw[C];rfl)<|Mem.push<|B.pick [] An rfl)⟩
    ·have ap:=am;try simp only[zA]at ap
     refine Ag<|A9<|Av<|Ab 2 ?_
     refine Ao (v:=iV .i64<|((w2 xs 4:Nat):Int)-8) ((Ys.p (v:=.int .i64<|Hp .i64 ((w2 xs 4:Nat):Int) 8)).conseq<|Ad<|Er rfl Ae Ae)<|Aw rfl (Au [0] [1,2] fun F c f=>(Jt (xs.drop 8) J.a (xs.length-8) J.cap false l.b (((w2 xs 4:Nat):Int)-8) _ Abn f (V _<|N _<|I _<|D _<|by rw[List.drop_zero];exact(FS.at (i:=1) (t:=5) c rfl<|Ah o<|Bo _)) Fp Fp)) fun x aq=>?_
     obtain⟨ar,bf,bg⟩:=aq
     refine Ab 1<|Af rfl (Bd E 3 3 0 (sL x.g.a ((Dc (xs.drop 8)<|((w2 xs 4:Nat):Int)-8).length) x.g.cap) sizeOf38 rfl rfl) fun _=>?_
     refine Ai<|Al [1,3] An rfl<|Av ?_
     refine A5 1 [(1,0)]<|Af rfl (A0 E 0 1 0 [nV .u16 ((w2 xs 0)%65536),nV .u16<|(w2 xs 2)%65536,bV<|((w2 xs 6:Nat):Int)==0,sL x.g.a ((Dc (xs.drop 8)<|((w2 xs 4:Nat):Int)-8).length) x.g.cap] sizeOf124 rfl rfl) fun _=>?_
     refine Ab 1<|Ai<|Am rfl ?_
     have r: ¬(w2 xs 6≠0∧E3 (Fa s d 17 (w2 xs 4)++xs.take (w2 xs 4))≠0):=by have P:=q;simp at P;have au:=am;simp at au;omega
     have G:uR s d xs=0:=by unfold uR;rw[if_neg Ae,if_neg Ae,if_neg Ae,if_neg r]
     have H:ug s d xs=true:=by unfold ug;rw[G];rfl
     have C:uD s d xs=Dc (xs.drop 8) (((w2 xs 4:Nat):Int)-8):=by unfold uD;rw[H];show(xs.drop 8).take (w2 xs 4-8)=_;rw[show((w2 xs 4:Nat):Int)-8=((w2 xs 4-8:Nat):Int) by omega,Oq Ae]
     have Q:(uD s d xs).length=(Dc (xs.drop 8) (((w2 xs 4:Nat):Int)-8)).length:=by rw[C];try(rw[List.length_take,List.length_drop];omega)
     exact E2 rfl (Bu E 0 1 0 [nV .u16 ((w2 xs 0)%65536),nV .u16<|(w2 xs 2)%65536,bV<|((w2 xs 6:Nat):Int)==0,Value.slice x.g.a ((Dc (xs.drop 8)<|((w2 xs 4:Nat):Int)-8).length) x.g.cap] isAgg124 sizeOf124) (Ar<|iV .i64 0) fun F B=>⟨x.g,(by rw[Q];exact ar),Eo<|(by rw[Q];(try rw[p67]);simp only[uF,uP,H,cond_true,Bool.true_and,G,z60,Nat.mod_eq_of_lt (Eu xs _)];try rfl),(Mem.cast (by rw[C];rfl)<|B.pick [0] An rfl)⟩
   ·have av:=R;try simp only[zA]at av
    refine Hg 47 (v0:=.bool false) (Kx (e:= !(((w2 xs 6:Nat):Int)==0)) Aa R)<|Hg 48 (v0:=.bool false) (Kx (e:= !(((w2 xs 6:Nat):Int)==0)) Aa R)<|Jj rfl Aa rfl (.inr fun _ Z=>Z)<|Jj rfl Aa rfl (.inr fun _ Z=>Z)<|Jj rfl Aa rfl (.inr fun _ Z=>Z) ?_
    refine Jj rfl Aa rfl (.inr fun _ Z=>Z)<|Bs 2 []<|Cl<|B4 Aa ?_
    refine Ag<|A9<|Av<|Ab 2 ?_
    refine Ao (v:=iV .i64<|((w2 xs 4:Nat):Int)-8) ((Ys.p (v:=.int .i64<|Hp .i64 ((w2 xs 4:Nat):Int) 8)).conseq<|Ad<|Er rfl Ae Ae)<|Aw rfl (Au [0] [1,2] fun F c f=>(Jt (xs.drop 8) J.a (xs.length-8) J.cap false l.b (((w2 xs 4:Nat):Int)-8) _ Abn f (V _<|N _<|I _<|D _<|by rw[List.drop_zero];exact(FS.at (i:=1) (t:=5) c rfl<|Ah o<|Bo _)) Fp Fp)) fun A aa=>?_
    obtain⟨aw,bh,bi⟩:=aa
    refine Ab 1<|Af rfl (Bd E 3 3 0 (sL A.g.a ((Dc (xs.drop 8)<|((w2 xs 4:Nat):Int)-8).length) A.g.cap) sizeOf38 rfl rfl) fun _=>?_
    refine Ai<|Al [1,3] An rfl<|Av ?_
    refine A5 1 [(1,0)]<|Af rfl (A0 E 0 1 0 [nV .u16 ((w2 xs 0)%65536),nV .u16<|(w2 xs 2)%65536,bV<|((w2 xs 6:Nat):Int)==0,sL A.g.a ((Dc (xs.drop 8)<|((w2 xs 4:Nat):Int)-8).length) A.g.cap] sizeOf124 rfl rfl) fun _=>?_
    refine Ab 1<|Ai<|Am rfl ?_
    have r: ¬(w2 xs 6≠0∧E3 (Fa s d 17 (w2 xs 4)++xs.take (w2 xs 4))≠0):=by have ax:=R;simp at ax;omega
    have G:uR s d xs=0:=by unfold uR;rw[if_neg Ae,if_neg Ae,if_neg Ae,if_neg r]
    have H:ug s d xs=true:=by unfold ug;rw[G];rfl
    have C:uD s d xs=Dc (xs.drop 8) (((w2 xs 4:Nat):Int)-8):=by unfold uD;rw[H];show(xs.drop 8).take (w2 xs 4-8)=_;rw[show((w2 xs 4:Nat):Int)-8=((w2 xs 4-8:Nat):Int) by omega,Oq Ae]
    have Q:(uD s d xs).length=(Dc (xs.drop 8) (((w2 xs 4:Nat):Int)-8)).length:=by rw[C];try(rw[List.length_take,List.length_drop];omega)
    exact E2 rfl (Bu E 0 1 0 [nV .u16 ((w2 xs 0)%65536),nV .u16<|(w2 xs 2)%65536,bV<|((w2 xs 6:Nat):Int)==0,Value.slice A.g.a ((Dc (xs.drop 8)<|((w2 xs 4:Nat):Int)-8).length) A.g.cap] isAgg124 sizeOf124) (Ar<|iV .i64 0) fun F B=>⟨A.g,(by rw[Q];exact aw),Eo<|(by rw[Q];(try rw[p67]);simp only[uF,uP,H,cond_true,Bool.true_and,G,z60,Nat.mod_eq_of_lt (Eu xs _)];try rfl),(Mem.cast (by rw[C];rfl)<|B.pick [0] An rfl)⟩
abbrev Qd(xs:List UInt8):Bool:=((((xs.getD 6 0).toNat:Int)==0)&&((((xs.getD 7 0).toNat:Nat):Int)==0))
abbrev Qe:List Value:=zl3
set_option maxHeartbeats 1000000 in
theorem Ahx(s d:Nat)(xs:List UInt8)(a:Option Addr)(cap:Nat)(w:World)(c:At w a (Cx xs))(hs:s<4294967296)(hd:d<4294967296)(hl:xs.length≤100000)(av:xs.length≤cap):Calls prog 51 #[nV .u32 s,nV .u32 d,sL a xs.length cap] w (Bn w (fun g:FS=>g.ok 1 (uD s d xs).length) (fun g=>.tuple #[.agg [.int .u16 ((uF s d xs 0:Nat):Int),.int .u16 ((uF s d xs 2:Nat):Int),.bool (uP s d xs),.slice g.a (uD s d xs).length g.cap].toArray,.int .i64 (uR s d xs)]) [] (fun g=>[g.seg 5 (Cx (uD s d xs))])):=by
 have aw:w2 xs 4=256*(xs.getD 4 0).toNat+(xs.getD 5 0).toNat:=rfl
 refine Ap (M:=[]) (LL:=[]) (n:=86) func51 rfl rfl A7 (Mem.refl _)<|W.s ?_
 refine Ac<|Af rfl (Ba zeroValue124) fun C=>?_
 refine Ab 1<|Ai<|W.s<|Aj [] ?_
 refine Ak (decide<|((xs.length:Nat):Int)<8) Aa (fun J=>?_) fun h7=>?_
 ·have aa:=J;try simp only[zA]at aa
  refine Av<|Ab 1<|Af rfl (A0 C 0 0 0 Qe sizeOf124 rfl rfl) fun _=>Ab 1 ?_
  refine Ai<|Am rfl ?_
  have x:uR s d xs=10:=by unfold uR;rw[if_pos Ae]
  have A:ug s d xs=false:=by unfold ug;rw[x];rfl
  have o:uD s d xs=[]:=by unfold uD;rw[A];rfl
  exact E2 rfl (Bu C 0 0 0 zl3 isAgg124 sizeOf124) (Ar<|iV .i64 10) fun h l=>⟨FS.nul,(by rw[o];exact B6 1),Eo<|(by simp only[uF,uP,A,cond_false,Bool.false_and,x,o];rfl),(Mem.cast (by rw[o];rfl)<|Mem.push<|l.pick [] An rfl)⟩
 ·have ab:=h7;try simp only[zA]at ab
  refine Ag<|A9<|W.s<|Aj [] ?_
  refine Ak (decide<|((xs.length:Nat):Int)>1480) Aa (fun ad=>?_) fun ae=>?_
  ·have L:=ad;try simp only[zA]at L
   refine Av<|Ab 1<|Af rfl (A0 C 0 0 0 Qe sizeOf124 rfl rfl) fun _=>Ab 1 ?_
   refine Ai<|Am rfl ?_
   have x:uR s d xs=14:=by unfold uR;rw[if_neg Ae,if_pos Ae]
   have A:ug s d xs=false:=by unfold ug;rw[x];rfl
   have o:uD s d xs=[]:=by unfold uD;rw[A];rfl
   exact E2 rfl (Bu C 0 0 0 zl3 isAgg124 sizeOf124) (Ar<|iV .i64 14) fun h l=>⟨FS.nul,(by rw[o];exact B6 1),Eo<|(by simp only[uF,uP,A,cond_false,Bool.false_and,x,o];rfl),(Mem.cast (by rw[o];rfl)<|Mem.push<|l.pick [] An rfl)⟩
  ·have N:=ae;try simp only[zA]at N
   refine Ag<|A9<|W.s<|C5 [(0,true),(1,true),(2,true),(3,true),(4,true),(5,false),(6,false),(7,false),(8,false),(9,false),(10,false)] [0,1,2,3,4]<|B5 1 ?_
   refine Bm (v:=pL<|some<|Cs a 4) rfl (Bb fun h f=>Aq (k:=.i64) (a:=a) (len:=xs.length) (cap:=cap) (i:=4) (sz:=1) rfl Aa Aa runUnderlying38 sizeOf5 Ae Ae<|(c.mem0 f).here Iu)<|Bm (v:=nV .u8<|(xs.getD 4 0).toNat) rfl (Ys.ld (a:=Cs a 4) rfl Aa isAgg5 fun h f=>(c.mem0 f).ld<|Ft 0 Fp) ?_
   have aj:(xs.getD 4 0).toNat<256:=UInt8.toNat_lt _
   refine Bm (v:=nV .i64<|(xs.getD 4 0).toNat) rfl ((Ys.p (v:=.int .i64<|Ct .i64 ((xs.getD 4 0).toNat:Int))).conseq<|Ad<|Dg Ae Ae)<|Bm (v:=nV .i64<|256*((xs.getD 4 0).toNat)) rfl ((Ys.p (v:=.int .i64<|Ng .i64 256 ((xs.getD 4 0).toNat:Int))).conseq<|Ad<|Pn (by first|omega|rfl|(push_cast;rfl)) Ae Ae)<|Bs 1 []<|Gg (v:=pL<|some<|Cs a 5) rfl (Bb fun h f=>Aq (k:=.i64) (a:=a) (len:=xs.length) (cap:=cap) (i:=5) (sz:=1) rfl Aa Aa runUnderlying38 sizeOf5 Ae Ae<|(c.mem0 f).here Iu)<|Gg (v:=nV .u8<|(xs.getD 5 0).toNat) rfl (Ys.ld (a:=Cs a 5) rfl Aa isAgg5 fun h f=>(c.mem0 f).ld<|Ft 0 Fp) ?_
   have ak:(xs.getD 5 0).toNat<256:=UInt8.toNat_lt _
   refine Gg (v:=nV .i64<|(xs.getD 5 0).toNat) rfl ((Ys.p (v:=.int .i64<|Ct .i64 ((xs.getD 5 0).toNat:Int))).conseq<|Ad<|Dg Ae Ae)<|Gg (v:=nV .i64<|(256*((xs.getD 4 0).toNat))+((xs.getD 5 0).toNat)) rfl ((Ys.p (v:=.int .i64<|D2 .i64 ((256*((xs.getD 4 0).toNat):Nat):Int) ((xs.getD 5 0).toNat:Int))).conseq<|Ad<|Fi Ae Ae Ae)<|Dh 1 []<|Cl ?_
   refine W.s<|W.s ?_
   refine Ac<|Ab 3<|C1 4 (decide<|(((256*((xs.getD 4 0).toNat))+((xs.getD 5 0).toNat):Nat):Int)<8) (fun _=>Gs.z [])<|Ao (v:=bV<|(decide<|(((256*((xs.getD 4 0).toNat))+((xs.getD 5 0).toNat):Nat):Int)<8)||(decide<|(((256*((xs.getD 4 0).toNat))+((xs.getD 5 0).toNat):Nat):Int)>(xs.length:Int))) (Ce (e:=decide<|(((256*((xs.getD 4 0).toNat))+((xs.getD 5 0).toNat):Nat):Int)<8) (b:=decide<|(((256*((xs.getD 4 0).toNat))+((xs.getD 5 0).toNat):Nat):Int)>(xs.length:Int)) rfl Aa Aa Aa)<|Ay ?_
   refine A9 ?_
   refine Ak ((decide<|(((256*((xs.getD 4 0).toNat))+((xs.getD 5 0).toNat):Nat):Int)<8)||(decide<|(((256*((xs.getD 4 0).toNat))+((xs.getD 5 0).toNat):Nat):Int)>(xs.length:Int))) Aa (fun af=>?_) fun ag=>?_
   ·have O:=af;try simp only[zA]at O
    refine Av<|Ab 1<|Af rfl (A0 C 0 0 0 Qe sizeOf124 rfl rfl) fun _=>Ab 1 ?_
    refine Ai<|Am rfl ?_
    have x:uR s d xs=11:=by unfold uR;rw[if_neg Ae,if_neg Ae,if_pos Ae]
    have A:ug s d xs=false:=by unfold ug;rw[x];rfl
    have o:uD s d xs=[]:=by unfold uD;rw[A];rfl
    exact E2 rfl (Bu C 0 0 0 zl3 isAgg124 sizeOf124) (Ar<|iV .i64 11) fun h l=>⟨FS.nul,(by rw[o];exact B6 1),Eo<|(by simp only[uF,uP,A,cond_false,Bool.false_and,x,o];rfl),(Mem.cast (by rw[o];rfl)<|Mem.push<|l.pick [] An rfl)⟩
   ·have P:=ag;try simp only[zA]at P
    refine Ag<|A9<|Av<|Ab 1 ?_
    refine Ao (v:=pL<|some<|Cs a 6) (Bb fun h f=>Aq (k:=.i64) (a:=a) (len:=xs.length) (cap:=cap) (i:=6) (sz:=1) rfl Aa Aa runUnderlying38 sizeOf5 Ae Ae<|(c.mem0 f).here Iu)<|Ao (v:=nV .u8<|(xs.getD 6 0).toNat) (Ys.ld (a:=Cs a 6) rfl Aa isAgg5 fun h f=>(c.mem0 f).ld<|Ft 0 Fp) ?_
    have al:(xs.getD 6 0).toNat<256:=UInt8.toNat_lt _
    refine Ab 2<|Da 4 ((((xs.getD 6 0).toNat:Nat):Int)==0) (fun Q=>by have F:=Q;try simp only[zA]at F;exact Gs.m 1 [] (Gs.y (v:=Value.pointer<|some<|Cs a 7) (Bb fun h f=>Aq (k:=.i64) (a:=a) (len:=xs.length) (cap:=cap) (i:=7) (sz:=1) rfl Aa Aa runUnderlying38 sizeOf5 Ae Ae<|(c.mem0 f).here Iu)<|Gs.y (v:=nV .u8<|(xs.getD 7 0).toNat) (Ys.ld (a:=Cs a 7) rfl Aa isAgg5 fun h f=>(c.mem0 f).ld<|Ft 0 Fp)<|Gs.z []))<|Ao (v:=bV<|Qd xs) (B9 (e:=((xs.getD 6 0).toNat:Int)==0) (b:=((xs.getD 7 0).toNat:Int)==0) rfl Aa Aa Aa)<|Ab 1<|Ay ?_
    refine A9<|W.s ?_
    refine Av<|Ab 3<|Da 5 (!(Qd xs)) (fun R=>by have G:=R;try simp only[zA]at G;exact Gs.m 4 [] (Gs.y (v:=Value.slice a ((256*((xs.getD 4 0).toNat))+((xs.getD 5 0).toNat)) cap) (Dm (a:=a) (len:=xs.length) (cap:=cap) (sz:=1) (k:=.i64) (i:=(((256*((xs.getD 4 0).toNat))+((xs.getD 5 0).toNat):Nat):Int)) rfl Aa Aa runUnderlying38 sizeOf5 Ae Ae) Gs.nil)) ?_
    have am:=M0 ((Fa s d (17:UInt8) (xs.take ((256*((xs.getD 4 0).toNat))+((xs.getD 5 0).toNat))).length++(xs.take ((256*((xs.getD 4 0).toNat))+((xs.getD 5 0).toNat)))))
    refine Da 2 (!(Qd xs)) (fun B=>by have H:=B;try simp only[zA]at H;exact Gs.k (v:=nV .u16<|E3<|Fa s d (17:UInt8) (xs.take<|(256*((xs.getD 4 0).toNat))+((xs.getD 5 0).toNat)).length++(xs.take<|(256*((xs.getD 4 0).toNat))+((xs.getD 5 0).toNat))) (I0 (t:=50) (v0:=nV .u32 s) (lz (g:= !(Qd xs)) (u:=undef) B Aa)<|I0 (t:=51) (v0:=nV .u32 d) (lz (g:= !(Qd xs)) (u:=undef) B Aa)<|I0 (t:=54) (v0:=Value.slice a ((256*((xs.getD 4 0).toNat))+((xs.getD 5 0).toNat)) cap) (lz (g:= !(Qd xs)) (u:=undef) B Aa)<|A8 fun h ah=>(Zl s d (17:UInt8) (xs.take<|(256*((xs.getD 4 0).toNat))+((xs.getD 5 0).toNat)) a ((256*((xs.getD 4 0).toNat))+((xs.getD 5 0).toNat)) cap _ (by first|rfl|(rw[List.length_take];omega)|(simp[Bc,Bc,B8];done)|(simp[Bc,Bc,B8];omega)) ((c.mem0 ah).mtake<|(256*((xs.getD 4 0).toNat))+((xs.getD 5 0).toNat)) Ae Ae (by first|omega|(simp[Bc,Bc,B8];omega)) Fp)) (Gs.z []))<|Ao (v:=bV<|(!(Qd xs))&&(((E3 (Fa s d (17:UInt8) (xs.take<|(256*((xs.getD 4 0).toNat))+((xs.getD 5 0).toNat)).length++(xs.take<|(256*((xs.getD 4 0).toNat))+((xs.getD 5 0).toNat))):Nat):Int) !=0)) (B9 (e:= !(Qd xs)) (b:=(E3 (Fa s d (17:UInt8) (xs.take<|(256*((xs.getD 4 0).toNat))+((xs.getD 5 0).toNat)).length++(xs.take<|(256*((xs.getD 4 0).toNat))+((xs.getD 5 0).toNat))):Int) !=0) rfl Aa Aa Aa)<|Ai ?_
    refine Ak ((!((((xs.getD 6 0).toNat:Int)==0)&&((((xs.getD 7 0).toNat:Nat):Int)==0)))&&(((E3 (Fa s d (17:UInt8) (xs.take<|(256*((xs.getD 4 0).toNat))+((xs.getD 5 0).toNat)).length++(xs.take<|(256*((xs.getD 4 0).toNat))+((xs.getD 5 0).toNat))):Nat):Int) !=0)) Aa (fun S=>?_) fun T=>?_
    ·have U:=S;try simp only[zA]at U
     refine Av<|Ab 1<|Af rfl (A0 C 0 0 0 Qe sizeOf124 rfl rfl) fun _=>Ab 1 ?_
     refine Ai<|Am rfl ?_
     have I:(xs.take (w2 xs 4)).length=w2 xs 4:=by rw[List.length_take];omega
     have r:(w2 xs 6≠0∧E3 (Fa s d 17 (w2 xs 4)++xs.take (w2 xs 4))≠0):=by have D:=S;rw[p67]at D;rw[show E3 (Fa s d 17 (xs.take (256*(xs.getD 4 0).toNat+(xs.getD 5 0).toNat)).length++xs.take (256*(xs.getD 4 0).toNat+(xs.getD 5 0).toNat))=E3 (Fa s d 17 (w2 xs 4)++xs.take (w2 xs 4)) from congrArg (fun q=>E3 (Fa s d 17 q++xs.take (w2 xs 4))) I]at D;revert D;generalize E3 (Fa s d 17 (w2 xs 4)++xs.take (w2 xs 4))=c_;intro D;by_cases J:w2 xs 6=0<;>simp[J]at D⊢ <;>omega
     have x:uR s d xs=12:=by unfold uR;rw[if_neg Ae,if_neg Ae,if_neg Ae,if_pos r]
     have A:ug s d xs=false:=by unfold ug;rw[x];rfl
     have o:uD s d xs=[]:=by unfold uD;rw[A];rfl
     exact E2 rfl (Bu C 0 0 0 zl3 isAgg124 sizeOf124) (Ar<|iV .i64 12) fun h l=>⟨FS.nul,(by rw[o];exact B6 1),Eo<|(by simp only[uF,uP,A,cond_false,Bool.false_and,x,o];rfl),(Mem.cast (by rw[o];rfl)<|Mem.push<|l.pick [] An rfl)⟩
    ·have V:=T;try simp only[zA]at V
     refine Ag<|A9<|W.s<|C5 [(0,true),(1,true),(2,true),(3,true),(4,true),(5,true),(6,true),(7,true),(8,true),(9,true),(10,true),(11,true),(12,true),(13,true),(14,true),(15,true),(16,true),(17,true),(18,true),(19,true),(20,true),(22,true),(23,true),(24,true),(21,false),(25,false),(26,false),(27,false),(28,false)] [0,1,2,3,4,5,6,7,8,9,10,11,12,13,14,15,16,17,18,19,20,22,23,24]<|B5 1 ?_
     refine Bm (v:=pL<|some<|Cs a 0) rfl (Bb fun h f=>Aq (k:=.i64) (a:=a) (len:=xs.length) (cap:=cap) (i:=0) (sz:=1) rfl Aa Aa runUnderlying38 sizeOf5 Ae Ae<|(c.mem0 f).here Iu)<|Bm (v:=nV .u8<|(xs.getD 0 0).toNat) rfl (Ys.ld (a:=Cs a 0) rfl Aa isAgg5 fun h f=>(c.mem0 f).ld<|Ft 0 Fp) ?_
     have an:(xs.getD 0 0).toNat<256:=UInt8.toNat_lt _
     refine Bm (v:=nV .u16<|(xs.getD 0 0).toNat) rfl ((Ys.p (v:=.int .u16<|Ct .u16 ((xs.getD 0 0).toNat:Int))).conseq<|Ad<|Fb Ae Ae)<|Bm (v:=nV .u16<|256*((xs.getD 0 0).toNat)) rfl ((Ys.p (v:=.int .u16<|Ng .u16 ((256:Nat):Int) ((xs.getD 0 0).toNat:Int))).conseq<|Ad<|S6 rfl Jg)<|B5 1<|Bm (v:=pL<|some<|Cs a 1) rfl (Bb fun h f=>Aq (k:=.i64) (a:=a) (len:=xs.length) (cap:=cap) (i:=1) (sz:=1) rfl Aa Aa runUnderlying38 sizeOf5 Ae Ae<|(c.mem0 f).here Iu)<|Bm (v:=nV .u8<|(xs.getD 1 0).toNat) rfl (Ys.ld (a:=Cs a 1) rfl Aa isAgg5 fun h f=>(c.mem0 f).ld<|Ft 0 Fp) ?_
     have ao:(xs.getD 1 0).toNat<256:=UInt8.toNat_lt _
     refine Bm (v:=nV .u16<|(xs.getD 1 0).toNat) rfl ((Ys.p (v:=.int .u16<|Ct .u16 ((xs.getD 1 0).toNat:Int))).conseq<|Ad<|Fb Ae Ae)<|Bm (v:=nV .u16<|(256*((xs.getD 0 0).toNat))+((xs.getD 1 0).toNat)) rfl ((Ys.p (v:=.int .u16<|D2 .u16 ((256*((xs.getD 0 0).toNat):Nat):Int) ((xs.getD 1 0).toNat:Int))).conseq<|Ad<|H2 rfl Jg)<|B5 1<|Bm (v:=pL<|some<|Cs a 2) rfl (Bb fun h f=>Aq (k:=.i64) (a:=a) (len:=xs.length) (cap:=cap) (i:=2) (sz:=1) rfl Aa Aa runUnderlying38 sizeOf5 Ae Ae<|(c.mem0 f).here Iu)<|Bm (v:=nV .u8<|(xs.getD 2 0).toNat) rfl (Ys.ld (a:=Cs a 2) rfl Aa isAgg5 fun h f=>(c.mem0 f).ld<|Ft 0 Fp) ?_
     have ap:(xs.getD 2 0).toNat<256:=UInt8.toNat_lt _
     refine Bm (v:=nV .u16<|(xs.getD 2 0).toNat) rfl ((Ys.p (v:=.int .u16<|Ct .u16 ((xs.getD 2 0).toNat:Int))).conseq<|Ad<|Fb Ae Ae)<|Bm (v:=nV .u16<|256*((xs.getD 2 0).toNat)) rfl ((Ys.p (v:=.int .u16<|Ng .u16 ((256:Nat):Int) ((xs.getD 2 0).toNat:Int))).conseq<|Ad<|S6 rfl Jg)<|B5 1<|Bm (v:=pL<|some<|Cs a 3) rfl (Bb fun h f=>Aq (k:=.i64) (a:=a) (len:=xs.length) (cap:=cap) (i:=3) (sz:=1) rfl Aa Aa runUnderlying38 sizeOf5 Ae Ae<|(c.mem0 f).here Iu)<|Bm (v:=nV .u8<|(xs.getD 3 0).toNat) rfl (Ys.ld (a:=Cs a 3) rfl Aa isAgg5 fun h f=>(c.mem0 f).ld<|Ft 0 Fp) ?_
     have aq:(xs.getD 3 0).toNat<256:=UInt8.toNat_lt _
     refine Bm (v:=nV .u16<|(xs.getD 3 0).toNat) rfl ((Ys.p (v:=.int .u16<|Ct .u16 ((xs.getD 3 0).toNat:Int))).conseq<|Ad<|Fb Ae Ae)<|Bm (v:=nV .u16<|(256*((xs.getD 2 0).toNat))+((xs.getD 3 0).toNat)) rfl ((Ys.p (v:=.int .u16<|D2 .u16 ((256*((xs.getD 2 0).toNat):Nat):Int) ((xs.getD 3 0).toNat:Int))).conseq<|Ad<|H2 rfl Jg)<|B5 3<|Bm (v:=sL (Ds a cap 8 1) (((256*((xs.getD 4 0).toNat))+((xs.getD 5 0).toNat))-8)<|cap-8) rfl (Ic (a:=a) (len:=xs.length) (cap:=cap) (sz:=1) (k:=.i64) (i:=8) (k':=.i64) (j:=(((256*((xs.getD 4 0).toNat))+((xs.getD 5 0).toNat):Nat):Int)) rfl Aa Aa Aa runUnderlying38 sizeOf5 Ae Ae Ae)<|Cj rfl rfl (Bj (mk:=fun b_=>.slice (some ⟨b_,0,none⟩) 0 0) (t:=5) (cs:=[]) rfl fun _=>kr) (Az [1]) fun ai=>?_
     refine Ca rfl rfl (HtS.append (eu:=5) (xv:=Value.slice (Ds a cap 8 1) (((256*((xs.getD 4 0).toNat))+((xs.getD 5 0).toNat))-8)<|cap-8) (i:=0) (g:=(FS.mk false ai 0 [])) (e:=5) (ii:=(prog.info? 5).getD default) (z:=iV .u8 0) (sz:=1) (bytes:=1) (nn:=0) (m:=((256*((xs.getD 4 0).toNat))+((xs.getD 5 0).toNat))-8) (k:=((256*((xs.getD 4 0).toNat))+((xs.getD 5 0).toNat))-8) (xs:=mc b8 []) (news:=mc b8<|(xs.drop 8).take<|((256*((xs.getD 4 0).toNat))+((xs.getD 5 0).toNat))-8) (cs':=mc b8<|(xs.drop 8).take<|((256*((xs.getD 4 0).toNat))+((xs.getD 5 0).toNat))-8) (Lo:=fun E=>[E.seg 5 (mc b8<|(xs.drop 8).take<|((256*((xs.getD 4 0).toNat))+((xs.getD 5 0).toNat))-8),[cb C Qe 124]]) rfl rfl Aa Aa Aa Aa Aa Aa Aa Aa Aa rfl (D4 An) (by first|rfl|simp[mc,Bc,B8]) (fun _=>rfl) (Src.at (a:=Ds a cap 8 1) U9 fun h f=>(((c.mem0 f).mdrop cap 8 Ae).mtake<|((256*((xs.getD 4 0).toNat))+((xs.getD 5 0).toNat))-8)) U9 (Ea (fun _=>rfl) _) Ey Ho Ey rfl fun _=>rfl) (Az [1]) fun E X=>?_
     obtain⟨Y,ar,au⟩:=X
     refine Wd.mp 1 [] [1]<|Cj rfl rfl (A0 C 0 1 0 [nV .u16 ((256*((xs.getD 0 0).toNat))+((xs.getD 1 0).toNat)),nV .u16<|(256*((xs.getD 2 0).toNat))+((xs.getD 3 0).toNat),bV<|Qd xs,sV E (((256*((xs.getD 4 0).toNat))+((xs.getD 5 0).toNat))-8)] sizeOf124 rfl rfl) (.inl Aa) fun _=>?_
     refine Dh 1 []<|Cl<|Am rfl ?_
     have I:(xs.take (w2 xs 4)).length=w2 xs 4:=by rw[List.length_take];omega
     have r: ¬(w2 xs 6≠0∧E3 (Fa s d 17 (w2 xs 4)++xs.take (w2 xs 4))≠0):=by have D:=T;rw[p67]at D;rw[show E3 (Fa s d 17 (xs.take (256*(xs.getD 4 0).toNat+(xs.getD 5 0).toNat)).length++xs.take (256*(xs.getD 4 0).toNat+(xs.getD 5 0).toNat))=E3 (Fa s d 17 (w2 xs 4)++xs.take (w2 xs 4)) from congrArg (fun q=>E3 (Fa s d 17 q++xs.take (w2 xs 4))) I]at D;revert D;generalize E3 (Fa s d 17 (w2 xs 4)++xs.take (w2 xs 4))=c_;intro D;by_cases J:w2 xs 6=0<;>simp[J]at D⊢ <;>omega
     have x:uR s d xs=0:=by unfold uR;rw[if_neg Ae,if_neg Ae,if_neg Ae,if_neg r]
     have A:ug s d xs=true:=by unfold ug;rw[x];rfl
     have o:uD s d xs=(xs.drop 8).take (((256*((xs.getD 4 0).toNat))+((xs.getD 5 0).toNat))-8):=by unfold uD;rw[A];rfl
     have Z:(uD s d xs).length=((256*((xs.getD 4 0).toNat))+((xs.getD 5 0).toNat))-8:=by rw[o];try(rw[List.length_take,List.length_drop];omega)
     exact E2 rfl (Bu C 0 1 0 [nV .u16 ((256*((xs.getD 0 0).toNat))+((xs.getD 1 0).toNat)),nV .u16<|(256*((xs.getD 2 0).toNat))+((xs.getD 3 0).toNat),bV<|(((xs.getD 6 0).toNat:Int)==0)&&((((xs.getD 7 0).toNat:Nat):Int)==0),sV E (((256*((xs.getD 4 0).toNat))+((xs.getD 5 0).toNat))-8)] isAgg124 sizeOf124) (Ar<|iV .i64 0) fun h l=>⟨E,(by rw[Z];exact Y),Eo<|(by rw[Z];(try rw[p67]);simp only[uF,uP,A,cond_true,Bool.true_and,x,z60,Nat.mod_eq_of_lt (Eu xs _)];try rfl),(Mem.cast (by rw[o];rfl)<|l.pick [0] An rfl)⟩
theorem Zm(s d b c:Nat)(pl:Bool)(xs:List UInt8)(a:Option Addr)(cap:Nat)(len:Nat)(w:World)(h:len=xs.length)(e:At w a (Cx xs))(i:s<4294967296)(j:d<4294967296)(l:b<65536)(n:c<65536)(o:xs.length≤100000)(f:xs.length≤cap):Calls prog 93 #[.int .u32 (s:Int),.int .u32 (d:Int),Value.agg ([Value.int .u16 (b:Int),Value.int .u16 (c:Int),Value.bool pl,sL a len cap]).toArray] w (Bn w (fun g:FS=>g.ok 1 (uB s d b c pl xs).length) (fun g=>.tuple #[.slice g.a (uB s d b c pl xs).length g.cap,.int .i64 (uE xs.length)]) [] (fun g=>[g.seg 5 (Cx (uB s d b c pl xs))])):=by
  subst h;exact All s d b c pl xs a cap w e i j l n o f
theorem Adi(s d b c:Nat)(pl:Bool)(xs:List UInt8)(a:Option Addr)(cap:Nat)(len:Nat)(w:World)(h:len=xs.length)(e:At w a (Cx xs))(i:s<4294967296)(j:d<4294967296)(l:b<65536)(n:c<65536)(o:xs.length≤100000)(f:xs.length≤cap):Calls prog 49 #[.int .u32 (s:Int),.int .u32 (d:Int),Value.agg ([Value.int .u16 (b:Int),Value.int .u16 (c:Int),Value.bool pl,sL a len cap]).toArray] w (Bn w (fun g:FS=>g.ok 1 (uB s d b c pl xs).length) (fun g=>.tuple #[.slice g.a (uB s d b c pl xs).length g.cap,.int .i64 (uE xs.length)]) [] (fun g=>[g.seg 5 (Cx (uB s d b c pl xs))])):=by
  subst h;exact Ahw s d b c pl xs a cap w e i j l n o f
theorem P1(s d:Nat)(xs:List UInt8)(a:Option Addr)(cap:Nat)(len:Nat)(w:World)(e:len=xs.length)(b:At w a (Cx xs))(f:s<4294967296)(h:d<4294967296)(i:len≤100000)(c:len≤cap):Calls prog 85 #[.int .u32 (s:Int),.int .u32 (d:Int),.slice a len cap] w (Bn w (fun g:FS=>g.ok 1 (uD s d xs).length) (fun g=>.tuple #[.agg [.int .u16 ((uF s d xs 0:Nat):Int),.int .u16 ((uF s d xs 2:Nat):Int),.bool (uP s d xs),.slice g.a (uD s d xs).length g.cap].toArray,.int .i64 (uR s d xs)]) [] (fun g=>[g.seg 5 (Cx (uD s d xs))])):=by
  subst e;exact Aln s d xs a cap w b f h i c
theorem Adj(s d:Nat)(xs:List UInt8)(a:Option Addr)(cap:Nat)(len:Nat)(w:World)(e:len=xs.length)(b:At w a (Cx xs))(f:s<4294967296)(h:d<4294967296)(i:len≤100000)(c:len≤cap):Calls prog 51 #[.int .u32 (s:Int),.int .u32 (d:Int),.slice a len cap] w (Bn w (fun g:FS=>g.ok 1 (uD s d xs).length) (fun g=>.tuple #[.agg [.int .u16 ((uF s d xs 0:Nat):Int),.int .u16 ((uF s d xs 2:Nat):Int),.bool (uP s d xs),.slice g.a (uD s d xs).length g.cap].toArray,.int .i64 (uR s d xs)]) [] (fun g=>[g.seg 5 (Cx (uD s d xs))])):=by
  subst e;exact Ahx s d xs a cap w b f h i c
theorem Adk{pre zs:List UInt8}{n:Nat}(b:pre.length%2=0)(c:n<65536):(pw (pre++(be 2 n++zs))).sum=(pw pre).sum+n+(pw zs).sum:=by
  rw[Xm _ _ b,Xm _ _ (by rw[Bc]),Alh c]
  simp;omega
theorem Ahy(S:Nat):fd (S+Fl (65535-fd S))=65535:=by
  by_cases b:S=0
  · subst b;decide
  · obtain⟨r,d⟩: ∃r,r=(S-1)%65535:=⟨_,rfl⟩
    have e:fd S=r+1:=by unfold fd;rw[if_neg b,d]
    have f:r<65535:=by omega
    rw[e]
    unfold Fl
    by_cases c:65535-(r+1)=0
    · rw[if_pos c];unfold fd;rw[if_neg Ae];omega
    · rw[if_neg c];unfold fd;rw[if_neg Ae];omega
theorem Aal{pre zs:List UInt8}(b:pre.length%2=0):E3 (pre++(be 2 (Fl (E3 (pre++(be 2 0++zs))))++zs))=0:=by
  have c:=Adk (pre:=pre) (zs:=zs) (n:=0) b An
  have hc:=M0 (pre++(be 2 0++zs))
  have d:Fl (E3 (pre++(be 2 0++zs)))<65536:=by unfold Fl;split<;>omega
  have e:=Adk (pre:=pre) (zs:=zs) b d
  have f:E3 (pre++(be 2 0++zs))=65535-fd ((pw pre).sum+(pw zs).sum):=by unfold E3;rw[c,Nat.add_zero]
  unfold E3 at*
  rw[e,f]
  have:=Ahy ((pw pre).sum+(pw zs).sum)
  rw[show(pw pre).sum+Fl (65535-fd ((pw pre).sum+(pw zs).sum))+(pw zs).sum=(pw pre).sum+(pw zs).sum+Fl (65535-fd ((pw pre).sum+(pw zs).sum)) by omega,this]
def uX(b c m:Nat)(xs:List UInt8):List UInt8:=(UInt8.ofNat (b/256)::UInt8.ofNat b::UInt8.ofNat (c/256)::UInt8.ofNat c::UInt8.ofNat ((8+xs.length)/256)::UInt8.ofNat (8+xs.length)::UInt8.ofNat (m/256)::UInt8.ofNat m::xs)
theorem Alo(b c m:Nat)(xs:List UInt8):uX b c m xs=(be 2 b++be 2 c++be 2 (8+xs.length))++(be 2 m++xs):=rfl
theorem Ahz(b c n:Nat)(xs:List UInt8):Iw (uH b c xs) 6 n=uX b c n xs:=rfl
theorem Aqu(b c:Nat)(xs:List UInt8):uH b c xs=uX b c 0 xs:=rfl
theorem Aqv{s d b c:Nat}{pl:Bool}{xs:List UInt8}(h: ¬1472<xs.length):uB s d b c pl xs=uX b c (bif pl then 0 else Fl (uC s d b c xs)) xs:=by
  unfold uB;rw[if_neg h];cases pl
  · simp only[cond_false];exact Ahz b c _ xs
  · simp only[cond_true];exact Aqu b c xs
theorem Ah0(s d b c:Nat)(xs:List UInt8):E3 (Fa s d 17 (8+xs.length)++uX b c (Fl (uC s d b c xs)) xs)=0:=by
  have e:uC s d b c xs=E3 ((Fa s d 17 (8+xs.length)++(be 2 b++be 2 c++be 2 (8+xs.length)))++(be 2 0++xs)):=by
    unfold uC uH;simp only[List.append_assoc]
  rw[Alo,←List.append_assoc,e]
  exact Aal<|by simp[B8,Bc]
theorem Aam(c:Nat):Fl c≠0:=by unfold Fl;split<;>omega
theorem Adl{c:Nat}(h:c≤65535):Fl c<65536:=by unfold Fl;split<;>omega
theorem N1{n:Nat}(h:n<65536):256*(UInt8.ofNat (n/256)).toNat+(UInt8.ofNat n).toNat=n:=by
  rw[UInt8.toNat_ofNat',UInt8.toNat_ofNat'];omega
theorem Aqw{b c m:Nat}{xs ys:List UInt8}(d:b<65536)(e:c<65536)(f:m<65536)(g: ¬1472<xs.length):
    w2 (uX b c m xs++ys) 0=b∧w2 (uX b c m xs++ys) 2=c∧w2 (uX b c m xs++ys) 4=8+xs.length∧w2 (uX b c m xs++ys) 6=m:=
  ⟨N1 d,N1 e,N1 Ae,N1 f⟩
theorem Alp(b c m:Nat)(xs:List UInt8):(uX b c m xs).length=8+xs.length:=by unfold uX;simp only[List.length_cons];omega
theorem Ah1{s d b c:Nat}{pl:Bool}{xs ys:List UInt8}(B:b<65536)(C:c<65536)(j:uE xs.length=0)(r:(uB s d b c pl xs).length+ys.length≤1480):(((uR s d ((uB s d b c pl xs)++ys))==0)&&((((((uF s d ((uB s d b c pl xs)++ys) 0):Int)==(b:Int))&&((((uF s d ((uB s d b c pl xs)++ys) 2):Nat):Int)==(c:Int)))&&((uP s d ((uB s d b c pl xs)++ys))==pl))&&((uD s d ((uB s d b c pl xs)++ys))==xs)))=true:=by
  have t: ¬1472<xs.length:=by
    unfold uE at j;split at j
    · cases j
    · assumption
  rw[Aqv t]at r⊢
  obtain⟨m,f⟩: ∃m,m=bif pl then 0 else Fl (uC s d b c xs):=⟨_,rfl⟩
  rw[←f]at r⊢
  have l:m<65536:=by
    rw[f];cases pl
    · have D:uC s d b c xs≤65535:=by unfold uC;exact M0 _
      simp only[cond_false];exact Adl D
    · simp only[cond_true];decide
  obtain⟨u,w,n,o⟩:=Aqw (ys:=ys) B C l t
  have x:=Alp b c m xs
  obtain⟨Z,h⟩: ∃Z,Z=uX b c m xs++ys:=⟨_,rfl⟩
  rw[←h]at u w n o⊢
  have E:Z.length=8+xs.length+ys.length:=by rw[h,List.length_append,x]
  have q:Z.take (8+xs.length)=uX b c m xs:=by rw[h,←x];exact List.take_left ..
  have g: ¬(w2 Z 6≠0∧E3 (Fa s d 17 (w2 Z 4)++Z.take (w2 Z 4))≠0):=by
    rw[n,o,q]
    cases pl
    · have e:=f;simp only[cond_false]at e
      rw[e,Ah0];simp
    · have e:=f;simp only[cond_true]at e
      simp[e]
  have A:uR s d Z=0:=by unfold uR;rw[if_neg Ae,if_neg Ae,if_neg Ae,if_neg g]
  have i:ug s d Z=true:=by unfold ug;rw[A];rfl
  have F:uD s d Z=xs:=by
    unfold uD;rw[i,n,show 8+xs.length-8=xs.length by omega,h]
    show(xs++ys).take xs.length=xs
    exact List.take_left ..
  have G:uP s d Z=pl:=by
    unfold uP;rw[i,o,f];cases pl
    · simp[Aam]
    · rfl
  have H:uF s d Z 0=b:=by unfold uF;rw[i,u];rfl
  have I:uF s d Z 2=c:=by unfold uF;rw[i,w];rfl
  rw[A,H,I,G,F];simp
theorem Ajp(ttl pid:Int)(s d:Nat)(xs:List UInt8)(a:Option Addr)(cap:Nat)(w:World)(g:At w a (Cx xs))(u:s<4294967296)(x:d<4294967296)(A:xs.length≤100000)(q:xs.length≤cap)(r:uR s d xs=0):Calls prog 41 #[aV [iV .u8 ttl,iV .u8 17,iV .u16 pid,nV .u32 s,nV .u32 d,sL a xs.length cap]] w (Df w (Value.tuple #[aV [iV .u8 17,nV .u32 s,nV .u32 d,nV .u16 (uF s d xs 0),nV .u16 (uF s d xs 2)],iV .i64 1,iV .i64 0])):=by
 refine Ap (M:=[]) (LL:=[]) (n:=71) func41 rfl rfl A7 (Mem.refl _)<|W.s ?_
 refine Ac<|Af rfl (Bx [iV .u8 ttl,iV .u8 17,iV .u16 pid,nV .u32 s,nV .u32 d,sL a xs.length cap] rfl) fun B=>?_
 refine Af rfl (Ba zeroValue47) fun c=>Ab 2<|Ai<|W.s ?_
 refine Ac<|A5 7 [(1,0),(1,0),(1,0)]<|Af rfl (A0 c 0 0 0 [iV .u8 17,nV .u32 s,nV .u32 d,iV .u16 0,iV .u16 0] sizeOf47 rfl rfl) fun _=>Ai ?_
 refine W.s<|Aj [(1,0)]<|W.block<|Aj []<|B4 Aa ?_
 refine Aj []<|Cd Aa<|Av<|A5 6 [(1,0),(1,0),(1,0)] ?_
 refine Aw rfl (Au [] [0,1] fun C h t=>(P1 s d xs a cap xs.length _ K1 (g.mem0 h) Ae Ae Fp Fp)) fun b l=>Ab 3<|Af rfl (Ba zeroValue124) fun o=>Af rfl (A0 o 0 0 0 [nV .u16 (uF s d xs 0),nV .u16<|uF s d xs 2,bV<|uP s d xs,sV b ((uD s d xs).length)] sizeOf124 rfl rfl) fun _=>Ab 1 ?_
 refine Ai<|Al [0,1,2] An rfl<|B3 [(0,true),(1,true),(2,true),(3,true),(4,true),(5,false),(6,false),(7,false),(8,false),(9,false),(10,false)] [0,1,2,3,4] (Mem w [] [[cb o [nV .u16 (uF s d xs 0),nV .u16<|uF s d xs 2,bV<|uP s d xs,sV b ((uD s d xs).length)] 124],b.seg 5 (mc b8<|uD s d xs)]) Aa Aa Aa rfl Aa (fun _ _ i=>i.drawn _) (fun _ i=>i.pick [0,1] An rfl)<|Wd.mp 6 [(0,0),(0,0)] [0,1] ?_
 refine Cj rfl rfl (Bd c 3 2 0 (nV .u16<|uF s d xs 0) sizeOf22 rfl rfl) (Az [0,1]) fun _=>Wd.mp 1 [] [0,1]<|Cj rfl rfl (Bd c 4 2 0 (nV .u16<|uF s d xs 2) sizeOf22 rfl rfl) (Az [0,1]) fun _=>Wd.mp 2 [] [0,1]<|Ev ?_
 refine A9<|Al [2] An rfl<|W.s<|Aj [] ?_
 refine Ak ((uR s d xs) !=0) Aa (fun e=>?_) fun j=>?_
 ·(exfalso;rw[r]at e;cases e)
 ·have f:=j;try simp only[zA]at f
  refine Ag<|A9<|Av<|A5 2 [(0,0)] ?_
  refine Af rfl (A0 c 0 0 0 [iV .u8 17,nV .u32 s,nV .u32 d,nV .u16<|uF s d xs 0,nV .u16 (uF s d xs 2)] sizeOf47 rfl rfl) fun _=>Ab 2<|Ai<|Am rfl<|Vb rfl (I1 c 0 0 0 isAgg47 sizeOf47) (Ar<|iV .i64 1) (Ar<|iV .i64 0) rfl
abbrev Qf:List Value:=Oc
theorem Xp(ttl pid:Int)(s d:Nat)(xs:List UInt8)(a:Option Addr)(cap:Nat)(b c e f:Nat)(w:World)(u:At w a (Cx xs))(X:s<4294967296)(Y:d<4294967296)(Z:xs.length≤100000)(O:xs.length≤cap)(P:uR s d xs=0)(Q:b<4294967296)(R:c<4294967296)(S:e<65536)(T:f<65536)(he:(uD s d xs).length≤1472):Calls prog 45 #[aV [iV .u8 ttl,iV .u8 17,iV .u16 pid,nV .u32 s,nV .u32 d,sL a xs.length cap],aV [iV .u8 17,nV .u32 b,nV .u32 c,nV .u16 e,nV .u16 f]] w (Bn w (fun g:FS=>g.ok 1 (uB b c e f (uP s d xs) (uD s d xs)).length) (fun g=>Value.tuple #[.agg [.int .u8 ttl,.int .u8 17,.int .u16 pid,.int .u32 (b:Int),.int .u32 (c:Int),.slice g.a (uB b c e f (uP s d xs) (uD s d xs)).length g.cap].toArray,.int .i64 0]) [] (fun g=>[g.seg 5 (mc b8 (uB b c e f (uP s d xs) (uD s d xs)))])):=by
 have J:uE (uD s d xs).length=0:=by unfold uE;rw[if_neg Ae]
 refine Ap (M:=[]) (LL:=[]) (n:=167) func45 rfl rfl A7 (Mem.refl _)<|W.s ?_
 refine Ac<|Af rfl (Bx [iV .u8 ttl,iV .u8 17,iV .u16 pid,nV .u32 s,nV .u32 d,sL a xs.length cap] rfl) fun C=>?_
 refine Af rfl (Bx [iV .u8 17,nV .u32 b,nV .u32 c,nV .u16 e,nV .u16 f] rfl) fun U=>Af rfl (Ba zeroValue40) fun D=>?_
 refine Ab 1<|Ai<|Av ?_
 refine A5 1 [(2,0)]<|Cb (v:=Value.tuple #[aV [iV .u8 17,nV .u32 s,nV .u32 d,nV .u16<|uF s d xs 0,nV .u16 (uF s d xs 2)],iV .i64 1,iV .i64 0]) (A8 fun E h=>(Ajp ttl pid s d xs a cap _ (u.mem0 h) Ae Ae Fp Ey P))<|Ab 4<|Af rfl (Ba zeroValue47) fun V=>Af rfl (A0 V 0 0 0 [iV .u8 17,nV .u32 s,nV .u32 d,nV .u16<|uF s d xs 0,nV .u16 (uF s d xs 2)] sizeOf47 rfl rfl) fun _=>?_
 refine Ab 2<|Ai<|W.s<|W.block ?_
 refine Aj []<|B4 Aa<|Aj [(2,0),(0,0)]<|B4 Aa<|Ag ?_
 refine A9<|W.s ?_
 refine C5 [(0,true),(1,true),(2,true),(3,true),(4,true),(5,true),(6,false),(7,false),(8,false)] [0,1,2,3,4,5]<|Bs 9 [(3,0),(3,0),(3,0)]<|Cl<|W.s ?_
 refine Aj []<|Cd Aa<|Ac<|A5 3 [(2,0)]<|Af rfl (Bd C 3 3 0 (nV .u32 b) sizeOf24 rfl rfl) fun _=>?_
 refine Ai<|W.s<|Aj []<|Cd Aa ?_
 refine Ac<|A5 3 [(2,0)]<|Af rfl (Bd C 4 3 0 (nV .u32 c) sizeOf24 rfl rfl) fun _=>Ai ?_
 refine W.s<|Aj [(3,0)]<|W.block<|Aj []<|B4 Aa ?_
 refine Aj []<|Cd Aa<|Av<|Ab 3 ?_
 refine Aw rfl (Au [] [0,1,2,3] fun E h F=>(P1 s d xs a cap xs.length _ K1 (u.mem0 h) Ae Ae Fp Fp)) fun j o=>Ab 3<|Af rfl (Ba zeroValue124) fun q=>Af rfl (A0 q 0 0 0 [nV .u16 (uF s d xs 0),nV .u16<|uF s d xs 2,bV<|uP s d xs,sV j ((uD s d xs).length)] sizeOf124 rfl rfl) fun _=>Ab 1 ?_
 refine Ai<|Al [0,1,3,4,5] An rfl<|W.s<|B3 [(0,true),(1,true),(2,true),(3,true),(4,false),(5,false),(6,false),(7,false)] [0,1,2,3] (Mem w [] [j.seg 5 (mc b8<|uD s d xs),[cb D Qf 40],[cb U [iV .u8 17,nV .u32 b,nV .u32 c,nV .u16 e,nV .u16 f] 47],[cb C [iV .u8 ttl,iV .u8 17,iV .u16 pid,nV .u32 b,nV .u32 c,sL a xs.length cap] 40]]) Aa Aa Aa rfl Aa (fun _ _ G=>G.drawn _) (fun _ G=>G.pick [1,2,3,4] An rfl) ?_
 refine Wd.mp 5 [(2,0),(2,0)] [1,2,3,4]<|Cj rfl rfl (Bd q 0 0 0 (nV .u16 e) sizeOf22 rfl rfl) (Az [1,2,3,4]) fun _=>?_
 refine Dh 1 []<|Cj rfl rfl (Bd q 1 0 0 (nV .u16 f) sizeOf22 rfl rfl) (.inl Aa) fun _=>?_
 refine Cl<|Al [0,1,2,4] An rfl<|Ac<|A5 5 [(3,0),(3,0),(0,0)] ?_
 have L:=Adh b c e f (uP s d xs) (uD s d xs)
 refine Aw rfl (Au [] [0,1,2,3] fun E h F=>(Zm b c e f (uP s d xs) (uD s d xs) j.a j.cap ((uD s d xs).length) _ K1 (FS.at (i:=1) (t:=5) h rfl<|Ah o<|Bo _) Ae Ae Ae Ae Ey (by have N:=o.le;first|exact N|omega|(simp at N⊢;omega)))) fun r x=>Ab 4<|Af rfl (Bd C 5 4 0 (sV r<|(uB b c e f (uP s d xs)<|uD s d xs).length) sizeOf38 rfl rfl) fun _=>Ab 1<|Ay ?_
 refine A9<|Al [0,3,4] An rfl<|W.s<|Aj [] ?_
 refine Ak ((uE (uD s d xs).length) !=0) Aa (fun l=>?_) fun H=>?_
 ·have A:=l;try simp only[zA]at A
  (exfalso;unfold uE at l;rw[if_neg Ae]at l;cases l)
 ·have B:=H;try simp only[zA]at B
  refine Ag<|A9<|Av<|A5 1 [(2,0)] ?_
  refine Af rfl (A0 D 0 1 0 [iV .u8 ttl,iV .u8 17,iV .u16 pid,nV .u32 b,nV .u32 c,sV r ((uB b c e f (uP s d xs)<|uD s d xs).length)] sizeOf40 rfl rfl) fun _=>Ab 1<|Ai<|Al [0,1] An rfl ?_
  refine Am rfl<|E2 rfl (I1 D 0 1 0 isAgg40 sizeOf40) (Ar<|iV .i64 0) fun E I=>⟨r,x,rfl,(I.pick [0] An rfl)⟩
theorem Ip(b c e d f:Int)(h q:Int)(w:World):Calls prog 46 #[aV [iV .u8 b,iV .u32 c,iV .u32 e,iV .u16 d,iV .u16 f],iV .u32 h,iV .u16 q] w (Df w (aV [iV .u8 b,iV .u32 c,iV .u32 h,iV .u16 d,iV .u16 q])):=by
 refine Ap (M:=[]) (LL:=[]) (n:=12) func46 rfl rfl A7 (Mem.refl _)<|W.s ?_
 refine Ac<|Af rfl (Bx [iV .u8 b,iV .u32 c,iV .u32 e,iV .u16 d,iV .u16 f] rfl) fun g=>?_
 refine Af rfl (Ba zeroValue47) fun i=>Ai<|Av ?_
 refine Ab 3<|Af rfl (Bd g 2 1 0 (iV .u32 h) sizeOf24 rfl rfl) fun _=>?_
 refine Ab 1<|Af rfl (Bd g 4 1 0 (iV .u16 q) sizeOf22 rfl rfl) fun _=>?_
 refine Ai<|Av<|A5 1 [(1,0)] ?_
 refine Af rfl (A0 i 0 0 0 [iV .u8 b,iV .u32 c,iV .u32 h,iV .u16 d,iV .u16 q] sizeOf47 rfl rfl) fun _=>Ai<|Al [0] An rfl<|Am rfl<|D7 rfl (I1 i 0 0 0 isAgg47 sizeOf47) rfl
theorem Ou(c:Conf.Cfg)(fx:List Conf.Fwd)(t:Option Addr)(u:Nat)(ms:List Mpg)(x:Option Addr)(h:Nat)(A B:Nat)(tk:Nat→Option Nat)(C D:Nat)(lst:Int)(i:Nat)(b f d g e:Int)(q:Int)(w:World)(j:At w (some ⟨i,0,none⟩) (En (O4 c (sL t fx.length u)) (sL x ms.length h) (pL (some ⟨A,0,none⟩)) (pL (some ⟨B,0,none⟩)) tk (pL (some ⟨C,0,none⟩)) (pL (some ⟨D,0,none⟩)) (Value.int .u64 lst))):Calls prog 57 #[pV i 0,aV [iV .u8 b,iV .u32 f,iV .u32 d,iV .u16 g,iV .u16 e],iV .u16 q] w (Df w (aV [iV .u8 b,iV .u32 c.wan,iV .u32 d,iV .u16 q,iV .u16 e])):=by
 refine Ap (M:=[]) (LL:=[]) (n:=16) func57 rfl rfl A7 (Mem.refl _)<|W.s ?_
 refine Ac<|Af rfl (Bx [iV .u8 b,iV .u32 f,iV .u32 d,iV .u16 g,iV .u16 e] rfl) fun l=>?_
 refine Af rfl (Ba zeroValue47) fun o=>Ai<|Av ?_
 refine Ab 4<|Ao (v:=iV .u32 c.wan) (Ys.ld (a:=⟨i,19,none⟩) rfl Aa isAgg24 fun F E=>by have r:=(j.mem0 E).ld (q:=19) ((Cf rfl An).trans rfl);rw[Be]at r;exact r)<|Ab 2<|Af rfl (Bd l 1 1 0 (iV .u32 c.wan) sizeOf24 rfl rfl) fun _=>Ab 1 ?_
 refine Af rfl (Bd l 3 1 0 (iV .u16 q) sizeOf22 rfl rfl) fun _=>Ai<|Av ?_
 refine A5 1 [(1,0)]<|Af rfl (A0 o 0 0 0 [iV .u8 b,iV .u32 c.wan,iV .u32 d,iV .u16 q,iV .u16 e] sizeOf47 rfl rfl) fun _=>?_
 refine Ai<|Al [0] An rfl<|Am rfl<|D7 rfl (I1 o 0 0 0 isAgg47 sizeOf47) rfl
theorem Alq(ttl pid:Int)(s d:Nat)(xs:List UInt8)(a:Option Addr)(cap:Nat)(w:World)(e:At w a (Cx xs))(u:s<4294967296)(x:d<4294967296)(A:xs.length≤100000)(o:xs.length≤cap)(q:uR s d xs=0):Calls prog 14 #[aV [iV .u8 ttl,iV .u8 17,iV .u16 pid,nV .u32 s,nV .u32 d,sL a xs.length cap]] w (Df w (Value.tuple #[aV [iV .u8 17,nV .u32 s,nV .u32 d,nV .u16 (uF s d xs 0),nV .u16 (uF s d xs 2)],iV .i64 1,iV .i64 0])):=by
 refine Ap (M:=[]) (LL:=[]) (n:=137) func14 rfl rfl A7 (Mem.refl _)<|W.s ?_
 refine Ac<|Af rfl (Bx [iV .u8 ttl,iV .u8 17,iV .u16 pid,nV .u32 s,nV .u32 d,sL a xs.length cap] rfl) fun B=>?_
 refine Af rfl (Ba zeroValue47) fun j=>Ab 2<|Ai<|W.s ?_
 refine Ac<|A5 7 [(1,0),(1,0),(1,0)]<|Af rfl (Ba zeroValue47) fun f=>Af rfl (A0 f 0 0 0 [iV .u8 17,nV .u32 s,nV .u32 d,iV .u16 0,iV .u16 0] sizeOf47 rfl rfl) fun _=>Ay ?_
 refine A9<|W.s ?_
 refine Aj [(2,0)]<|B4 Aa<|Ag<|A9<|W.s ?_
 refine Aj [(2,0)]<|Cd Aa<|Av<|A5 6 [(2,0),(2,0),(2,0)] ?_
 refine Aw rfl (Au [] [0,1,2] fun C g r=>(Adj s d xs a cap xs.length _ K1 (e.mem0 g) Ae Ae Fp Fp)) fun h l=>Ab 3<|Af rfl (Ba zeroValue124) fun t=>Af rfl (A0 t 0 0 0 [nV .u16 (uF s d xs 0),nV .u16<|uF s d xs 2,bV<|uP s d xs,sV h ((uD s d xs).length)] sizeOf124 rfl rfl) fun _=>Ab 1 ?_
 refine Ai<|Al [0,1,2,3] An rfl<|W.s<|Aj [] ?_
 refine Ak ((uR s d xs) !=0) Aa (fun b=>?_) fun i=>?_
 ·(exfalso;rw[q]at b;cases b)
 ·have c:=i;try simp only[zA]at c
  refine Ag<|A9<|Av<|A5 3 [(0,0)] ?_
  refine Af rfl (Bd f 3 2 0 (nV .u16<|uF s d xs 0) sizeOf22 rfl rfl) fun _=>Ai<|Av ?_
  refine A5 3 [(0,0)]<|Af rfl (Bd f 4 2 0 (nV .u16<|uF s d xs 2) sizeOf22 rfl rfl) fun _=>?_
  refine Ai<|Al [2,3] An rfl<|Av ?_
  refine A5 1 [(0,0)]<|Af rfl (A0 j 0 1 0 [iV .u8 17,nV .u32 s,nV .u32 d,nV .u16<|uF s d xs 0,nV .u16 (uF s d xs 2)] sizeOf47 rfl rfl) fun _=>?_
  refine Ab 2<|Ai<|Al [1] An rfl<|Am rfl<|Vb rfl (I1 j 0 0 0 isAgg47 sizeOf47) (Ar<|iV .i64 1) (Ar<|iV .i64 0) rfl
end Go.Proofs.YtmonlaoaengfdaaGreatDoor.Oct
namespace Go.Proofs.YtmonlaoaengfdaaGreatDoor.Base
open Go.RowKit
theorem Dx{γ:Type}{P:Program}{n:Nat}{S:γ→World→Prop}{f:Nat→Value}{o:Oper}{v:Value}(h: ∀s,Ys P n (S s) f o v):Ys P n (fun w=> ∃s,S s w) f o v:=fun w ⟨s,b⟩=>h s w b
end Go.Proofs.YtmonlaoaengfdaaGreatDoor.Base
namespace Go.Proofs.YtmonlaoaengfdaaGreatDoor.Oct
open Go.RowKit Base Tryz
attribute [local irreducible] Ys Yc Ht HtS HtIn Wl Wd W Mem pf Ez Wa Wo KW
open Conf (Fwd fwv)
def Pi(T:Nat→Bool):Nat→Nat
  |0=>0
  |n+1=>Pi T n+(bif T n then 1 else 0)
def Gq(T:Nat→Bool):Nat:=Pi T 65536
theorem Zn(T:Nat→Bool): ∀n,Pi T n≤n
  |0=>Nat.le_refl 0
  |n+1=>by have:=Zn T n;unfold Pi;cases T n<;>simp only[cond_true,cond_false]<;>omega
theorem R7{T T':Nat→Bool}: ∀{n},(∀q,q<n→T q=T' q)→Pi T n=Pi T' n
  |0,_=>rfl
  |n+1,h=>by unfold Pi;rw[R7 (n:=n) (fun q b=>h q Ae),h n Ae]
theorem P2{T:Nat→Bool}{q:Nat}{b:Bool}(c:T q= !b): ∀{n},q<n→Pi (up T q b) n+(bif b then 0 else 1)=Pi T n+(bif b then 1 else 0)
  |0,h=>by omega
  |n+1,h=>by
    unfold Pi
    by_cases e:q=n
    · subst e
      rw[L7,R7 (T:=up T q b) (T':=T) (fun r d=>Im _ _ Ae),c]
      cases b<;>simp only[Bool.not_true,Bool.not_false,cond_true,cond_false]<;>omega
    · rw[Im _ _ (fun z=>e z.symm)]
      have:=P2 (b:=b) c (n:=n) Ae
      omega
theorem P3(T:Nat→Bool):Gq T≤65536:=Zn T 65536
theorem Aan:Gq (fun _=>false)=0:=by
  have h: ∀n,Pi (fun _=>false) n=0:=fun n=>by
    induction n with
    |zero=>rfl
    |succ n b=>unfold Pi;rw[b];rfl
  exact h 65536
theorem Zo(T:Nat→Bool){q:Nat}(c:q<65536):tkN T q (Gq T:Int)=(Gq (Pw T q):Int):=by
  unfold tkN Pw
  cases h:Ww T q with
  |false=>rfl
  |true=>
    have d:T q= !true:=by unfold Ww at h;cases e:T q with|false=>rfl|true=>rw[e]at h;simp at h
    have:=P2 (b:=true) d (n:=65536) c
    simp only[cond_true]at this⊢
    unfold Gq;omega
theorem Ah2(T:Nat→Bool){q:Nat}(c:q<65536):gvN T q (Gq T:Int)=(Gq (gvT T q):Int):=by
  unfold gvN gvT
  cases h:T q with
  |false=>rfl
  |true=>
    have:=P2 (b:=false) (T:=T) (q:=q) h (n:=65536) c
    simp only[cond_true,cond_false]at this⊢
    unfold Gq;omega
theorem Ah3(T:Nat→Bool)(d:Nat):pkN T d (Gq T:Int)=(Gq (Zb T d):Int):=by
  unfold pkN Zb
  by_cases h:pk T d<65536
  · rw[decide_eq_true h]
    have:=P2 (b:=true) ((R0 T d).2.2.1 h) (n:=65536) h
    simp only[cond_true]at this⊢
    unfold Gq;omega
  · rw[decide_eq_false h];rfl
def F8{α:Type}(f:Nat→α)(p:Nat)(v:α):Nat→α:=fun q=>bif q==p then v else f q
theorem G2{α:Type}(f:Nat→α)(p:Nat)(v:α):F8 f p v p=v:=by simp[F8]
theorem El{α:Type}(f:Nat→α){p q:Nat}(v:α)(h:q≠p):F8 f p v q=f q:=by unfold F8;rw[show(q==p)=false from beq_eq_false_iff_ne.2 h];rfl
theorem Aao{α:Type}(f:Nat→α)(p:Nat):F8 f p (f p)=f:=by
  funext q
  by_cases h:q=p
  · subst h;rw[G2]
  · rw[El _ _ h]
def Gv(tk:Nat→Option Nat)(TT:Nat→Nat→Bool):List Blk:=Js 230 tk TT (fun p=>(Gq (TT p):Int)) 0 256
theorem R8(TT:Nat→Nat→Bool):Gv (fun _=>none) TT=[]:=by
  unfold Gv Js
  rw[List.flatMap_eq_nil_iff];intro i _;rfl
theorem Wn{tk:Nat→Option Nat}{TT:Nat→Nat→Bool}{p b:Nat}(c:p<256)(h:tk p=some b):
    ∃A B,Gv tk TT=A++cb b (F5 (TT p) (Gq (TT p):Int)) 230::B∧ ∀T',Gv tk (F8 TT p T')=A++cb b (F5 T' (Gq T':Int)) 230::B:=by
  refine⟨Js 230 tk TT (fun p=>(Gq (TT p):Int)) 0 p,Js 230 tk TT (fun p=>(Gq (TT p):Int)) (p+1)<|255-p,?_,fun T'=>?_⟩
  · unfold Gv;rw[I6 c,h];rfl
  · unfold Gv
    rw[I6 c,h,I7 (tk:=tk) (TT:=TT) (cn:=fun p=>(Gq (TT p):Int)) (tk':=tk) (TT':=F8 TT p T') (a:=0) (n:=p) (fun i _ d=>⟨rfl,El _ _ Ae,by rw[El _ _ Ae]⟩),
      I7 (tk:=tk) (TT:=TT) (cn:=fun p=>(Gq (TT p):Int)) (tk':=tk) (TT':=F8 TT p T') (a:=p+1) (fun i d _=>⟨rfl,El _ _ Ae,by rw[El _ _ Ae]⟩),G2]
    rfl
theorem Aap{tk:Nat→Option Nat}{TT:Nat→Nat→Bool}{p:Nat}(c:p<256)(h:tk p=none):
    ∃A B,Gv tk TT=A++B∧ ∀b,Gv (M7 tk p (some b)) TT=A++cb b (F5 (TT p) (Gq (TT p):Int)) 230::B:=by
  refine⟨Js 230 tk TT (fun p=>(Gq (TT p):Int)) 0 p,Js 230 tk TT (fun p=>(Gq (TT p):Int)) (p+1)<|255-p,?_,fun b=>?_⟩
  · unfold Gv;rw[I6 c,h];rfl
  · unfold Gv
    rw[I6 c,E7,I7 (tk:=tk) (TT:=TT) (tk':=M7 tk p (some b)) (TT':=TT) (a:=0) (n:=p) (fun i _ d=>⟨Ge _ _ Ae,rfl,rfl⟩),
      I7 (tk:=tk) (TT:=TT) (tk':=M7 tk p (some b)) (TT':=TT) (a:=p+1) (fun i d _=>⟨Ge _ _ Ae,rfl,rfl⟩)]
    rfl
theorem Adm{tk:Nat→Option Nat}{p b:Nat}(h:tk p=some b):M7 tk p (some b)=tk:=by
  funext q
  by_cases e:q=p
  · subst e;rw[E7,h]
  · rw[Ge _ _ e]
abbrev Ix:Type:=Int×Int×Int
structure NK where
  (nb ts te ti wb:Nat)
  gf:FS
  c:Conf.Cfg
  fx:List Conf.Fwd
  mo:Int
abbrev ckL(x:NK):List Value:=[iV .u8 (x.c.lm0),iV .u8 (x.c.lm1),iV .u8 (x.c.lm2),iV .u8 (x.c.lm3),iV .u8 (x.c.lm4),iV .u8 (x.c.lm5),iV .u8 (x.c.wm0),iV .u8 (x.c.wm1),iV .u8 (x.c.wm2),iV .u8 (x.c.wm3),iV .u8 (x.c.wm4),iV .u8 (x.c.wm5),iV .u8 (x.c.hm0),iV .u8 (x.c.hm1),iV .u8 (x.c.hm2),iV .u8 (x.c.hm3),iV .u8 (x.c.hm4),iV .u8 (x.c.hm5),iV .u32 (x.c.lan),iV .u32 (x.c.wan),iV .i64 (x.c.bits),iV .i64 (x.c.ms),iV .i64 (x.c.mm),iV .i64 (x.c.mc),iV .i64 (x.c.mu),Value.slice x.gf.a x.fx.length x.gf.cap,iV .u32 (x.c.dmz),Value.string (x.c.uu)]
structure NP where
  ms:List Mpg
  xs:List (Ci×Option Nat)
  zs:List (Ix×Lse)
  ys:List (Int×Ci)
  ws:List (Int×Int)
  tk:Nat→Option Nat
  TT:Nat→Nat→Bool
  lst:Int
  es:List (Nat×SesE)
structure NS where
  p:NP
  (gm gs ge gi gw:FS)
def C3(k:NK)(s:NS):List Value:=En (O4 k.c (.slice k.gf.a k.fx.length k.gf.cap)) (.slice s.gm.a s.p.ms.length s.gm.cap) (.pointer (some ⟨k.ts,0,none⟩)) (.pointer (some ⟨k.te,0,none⟩)) s.p.tk (.pointer (some ⟨k.wb,0,none⟩)) (.pointer (some ⟨k.ti,0,none⟩)) (.int .u64 s.p.lst)
def Jv(x:Nat×SesE):Blk:=cb x.1 (Ac0 x.2) 113
def Gr(k:NK)(s:NS):List (List Blk):=[[cb k.nb (C3 k s) 91],s.gm.seg 26 (mm Jc s.p.ms),k.gf.seg 65 (mm fwv k.fx),s.gs.seg 173 (mm Gk s.p.xs),[cb k.ts [Value.slice s.gs.a s.p.xs.length s.gs.cap,Value.int .i64 k.mo,Value.func (.func 31) #[] #[]] 153],
  s.gi.seg 223 (mm Jf s.p.ys),[cb k.ti [Value.slice s.gi.a s.p.ys.length s.gi.cap,Value.int .i64 k.mo,Value.func (.func 35) #[] #[]] 163],s.ge.seg 234 (mm Gp s.p.zs),[cb k.te [Value.slice s.ge.a s.p.zs.length s.ge.cap,Value.int .i64 k.mo,Value.func (.func 33) #[] #[]] 160],s.gw.seg 219 (mm Hq s.p.ws),[cb k.wb [.slice s.gw.a s.p.ws.length s.gw.cap] 150],Gv s.p.tk s.p.TT,s.p.es.map Jv]
def NG(k:NK)(s:NS):List Blk:=(Gr k s).flatten
structure NOk(k:NK)(s:NS):Prop where
  okm:s.gm.ok 5 s.p.ms.length
  okf:k.gf.ok 4 k.fx.length
  oks:s.gs.ok 6 s.p.xs.length
  oki:s.gi.ok 6 s.p.ys.length
  oke:s.ge.ok 5 s.p.zs.length
  okw:s.gw.ok 2 s.p.ws.length
  hmn:s.p.ms.length≤100000
  hfn:k.fx.length≤100000
  hmo:0≤k.mo∧k.mo≤50000
  hxn:(s.p.xs.length:Int)≤k.mo
  hyn:(s.p.ys.length:Int)≤k.mo
  hzn:(s.p.zs.length:Int)≤k.mo
  hwn:s.p.ws.length≤90000
  hxs:Gj ordF s.p.xs
  hys:Gj LO.int s.p.ys
  hzs:Gj Cu s.p.zs
  hws:OkS s.p.ws
  hz: ∀p,s.p.tk p=none→s.p.TT p=fun _=>false
section
variable {w0 w:World}{M:List Nat}{LL R:List (List Blk)}{k:NK}{s:NS}{i:Nat}
theorem Um(h:Mem w0 M (NG k s::R) w):Mem w0 M (Gr k s++R) w:=Mem.flat (by rw[List.flatten_cons,List.flatten_append];rfl) h
theorem Alr(h:Mem w0 M (Gr k s++R) w):Mem w0 M (NG k s::R) w:=Mem.flat (by rw[List.flatten_cons,List.flatten_append];rfl) h
theorem Hr(h:Mem w0 M LL w)(b:LL[i]? =some (NG k s)):Mem w0 M (Gr k s) w:=by
  have c:Mem w0 M [NG k s] w:=h.pick [i] A7 (by simp[C2,b])
  have d:=Um c
  rwa[List.append_nil]at d
theorem Adn(h:Mem w0 M LL w)(b:LL[i]? =some (NG k s)):At w (some ⟨k.nb,0,none⟩) (C3 k s):=A4 (i:=0) (j:=0) (Hr h b) rfl rfl
theorem Fv(h:Mem w0 M LL w)(b:LL[i]? =some (NG k s)):At w (some ⟨k.ts,0,none⟩) [Value.slice s.gs.a s.p.xs.length s.gs.cap,Value.int .i64 k.mo,Value.func (.func 31) #[] #[]]:=A4 (i:=4) (j:=0) (Hr h b) rfl rfl
theorem Ado(h:Mem w0 M LL w)(b:LL[i]? =some (NG k s)):At w (some ⟨k.ti,0,none⟩) [Value.slice s.gi.a s.p.ys.length s.gi.cap,Value.int .i64 k.mo,Value.func (.func 35) #[] #[]]:=A4 (i:=6) (j:=0) (Hr h b) rfl rfl
theorem Lr(h:Mem w0 M LL w)(b:LL[i]? =some (NG k s)):At w (some ⟨k.te,0,none⟩) [Value.slice s.ge.a s.p.zs.length s.ge.cap,Value.int .i64 k.mo,Value.func (.func 33) #[] #[]]:=A4 (i:=8) (j:=0) (Hr h b) rfl rfl
theorem NG.ms(h:Mem w0 M LL w)(b:LL[i]? =some (NG k s))(ok:NOk k s):At w s.gm.a (mm Jc s.p.ms):=FS.at (i:=1) (Hr h b) rfl (Ah ok.okm (We _))
theorem NG.fx(h:Mem w0 M LL w)(b:LL[i]? =some (NG k s))(ok:NOk k s):At w k.gf.a (mm fwv k.fx):=FS.at (i:=2) (Hr h b) rfl (Ah ok.okf (V9 _))
theorem NG.xs(h:Mem w0 M LL w)(b:LL[i]? =some (NG k s))(ok:NOk k s):At w s.gs.a (mm Gk s.p.xs):=FS.at (i:=3) (Hr h b) rfl (Ah ok.oks (Ld _))
theorem NG.ys(h:Mem w0 M LL w)(b:LL[i]? =some (NG k s))(ok:NOk k s):At w s.gi.a (mm Jf s.p.ys):=FS.at (i:=5) (Hr h b) rfl (Ah ok.oki (Ru _))
theorem NG.zs(h:Mem w0 M LL w)(b:LL[i]? =some (NG k s))(ok:NOk k s):At w s.ge.a (mm Gp s.p.zs):=FS.at (i:=7) (Hr h b) rfl (Ah ok.oke (Lg _))
theorem NG.ent{j:Nat}{b:Nat}{e:SesE}(h:Mem w0 M LL w)(c:LL[i]? =some (NG k s))(d:s.p.es[j]? =some (b,e)):At w (some ⟨b,0,none⟩) (Ac0 e):=
  A4 (i:=12) (j:=j) (b:=b) (t:=113) (Hr h c) rfl (by rw[List.getElem?_map,d];rfl)
end
theorem NG.call{β:Type}{k:NK}{s:NS}{M:List Nat}{w:World}{f:FuncId}{args:Array Value}{Φ:β→Prop}{v:β→Value}{Lo:β→List (List Blk)}(d:β→NS)(c ks ps:List Nat)
    (l:Mem w M [NG k s] w) (n:(c++ks).Nodup) (o:ps.Nodup)
    (hc:Mem w ((C2 (Gr k s) c).flatten.map (·.b)) (C2 (Gr k s) c) w→Calls prog f args w (Bn w Φ v ((C2 (Gr k s) c).flatten.map (·.b)) Lo))
    (q: ∀g,C2 (Lo g++C2 (Gr k s) ks) ps=Gr k (d g)):Calls prog f args w (Bn w Φ v M (fun g=>[NG k (d g)])):=by
  have h:=Um l
  rw[List.append_nil]at h
  have j:Mem w M (C2 (Gr k s) c++C2 (Gr k s) ks) w:=h.pick (c++ks) n (by unfold C2;rw[List.map_append])
  refine Calls.mono (hc j.local) ?_
  rintro e x ⟨g,r,rfl,t⟩
  refine⟨g,r,rfl,?_⟩
  have u:=(j.back t).pick ps o (q g)
  exact Alr (R:=[])<|by rw[List.append_nil];exact u
theorem Hl{β:Type}{k:NK}{s:NS}{M:List Nat}{w:World}{f:FuncId}{args:Array Value}{Φ:β→Prop}{Ψ:NS→Prop}{v:Value}{Lo:β→List (List Blk)}(d:β→NS)(c ks ps:List Nat)
    (j:Mem w M [NG k s] w) (l:(c++ks).Nodup) (n:ps.Nodup)
    (hc:Mem w ((C2 (Gr k s) c).flatten.map (·.b)) (C2 (Gr k s) c) w→Calls prog f args w (Bn w Φ (fun _=>v) ((C2 (Gr k s) c).flatten.map (·.b)) Lo))
    (o: ∀g,C2 (Lo g++C2 (Gr k s) ks) ps=Gr k (d g)) (h: ∀g,Φ g→Ψ (d g)):Calls prog f args w (Bn w Ψ (fun _=>v) M (fun q=>[NG k q])):=by
  refine Calls.mono (NG.call d c ks ps j l n hc o) ?_
  rintro e u ⟨g,r,rfl,t⟩
  exact⟨d g,h g r,rfl,t⟩
section
variable {k:NK}{s:NS}{M:List Nat}{w:World}
theorem Adp(f:Ci)(v:Option Nat)(ok:NOk k s)(c:Mem w M [NG k s] w):Calls prog 153 #[.pointer (some ⟨k.ts,0,none⟩),Value.agg ([Value.int .u8 f.1,Value.int .u32 f.2.1,Value.int .u32 f.2.2.1,Value.int .u16 f.2.2.2.1,Value.int .u16 f.2.2.2.2]).toArray,.pointer (Cz v)] w
    (Bn w (fun b:NS=>NOk k b∧b.p={s.p with xs:=Dv ordF k.mo s.p.xs f v}) (fun _=>.int .i64 (Mw k.mo s.p.xs f)) M (fun b=>[NG k b])):=
  Hl (fun g=>{s with gs:=g,p:={s.p with xs:=Dv ordF k.mo s.p.xs f v}}) [3,4] [0,1,2,5,6,7,8,9,10,11,12] [2,3,4,0,1,5,6,7,8,9,10,11,12] c An An (fun h=>Aks s.p.xs s.gs k.mo k.ts _ f v w h ok.oks (by have:=ok.hxn;have:=ok.hmo;omega) ok.hxs) (fun g=>kr) (fun g d=>⟨{ok with oks:=d,hxn:=Oh ok.hxs ok.hxn,hxs:=Rs ok.hxs},rfl⟩)
theorem Ah4(f:Ci)(ok:NOk k s)(c:Mem w M [NG k s] w):Calls prog 76 #[.pointer (some ⟨k.ts,0,none⟩),Value.agg ([Value.int .u8 f.1,Value.int .u32 f.2.1,Value.int .u32 f.2.2.1,Value.int .u16 f.2.2.2.1,Value.int .u16 f.2.2.2.2]).toArray] w
    (Bn w (fun b:NS=>NOk k b∧b.p={s.p with xs:=Di s.p.xs f}) (fun _=>.bool (Bq s.p.xs f)) M (fun b=>[NG k b])):=
  Hl (fun g=>{s with gs:=g,p:={s.p with xs:=Di s.p.xs f}}) [3,4] [0,1,2,5,6,7,8,9,10,11,12] [2,3,4,0,1,5,6,7,8,9,10,11,12] c An An (fun h=>Ags s.p.xs s.gs k.mo k.ts _ f w h ok.oks (by have:=ok.hxn;have:=ok.hmo;omega) ok.hxs) (fun g=>kr) (fun g d=>⟨{ok with oks:=d,hxn:=by have:=Rt (k:=f) ok.hxs;have:=ok.hxn;simp only;omega,hxs:=Og ok.hxs},rfl⟩)
theorem Adq(i:Int)(f:Ci)(ok:NOk k s)(c:Mem w M [NG k s] w):Calls prog 154 #[.pointer (some ⟨k.ti,0,none⟩),.int .u64 i,Value.agg ([Value.int .u8 f.1,Value.int .u32 f.2.1,Value.int .u32 f.2.2.1,Value.int .u16 f.2.2.2.1,Value.int .u16 f.2.2.2.2]).toArray] w
    (Bn w (fun b:NS=>NOk k b∧b.p={s.p with ys:=Dv LO.int k.mo s.p.ys i f}) (fun _=>.int .i64 (Mw k.mo s.p.ys i)) M (fun b=>[NG k b])):=
  Hl (fun g=>{s with gi:=g,p:={s.p with ys:=Dv LO.int k.mo s.p.ys i f}}) [5,6] [0,1,2,3,4,7,8,9,10,11,12] [2,3,4,5,6,0,1,7,8,9,10,11,12] c An An (fun h=>Aku s.p.ys s.gi k.mo k.ti _ i f w h ok.oki (by have:=ok.hyn;have:=ok.hmo;omega) ok.hys) (fun g=>kr) (fun g d=>⟨{ok with oki:=d,hyn:=Oh ok.hys ok.hyn,hys:=Rs ok.hys},rfl⟩)
theorem Ah5(i:Int)(ok:NOk k s)(c:Mem w M [NG k s] w):Calls prog 77 #[.pointer (some ⟨k.ti,0,none⟩),.int .u64 i] w
    (Bn w (fun b:NS=>NOk k b∧b.p={s.p with ys:=Di s.p.ys i}) (fun _=>.bool (Bq s.p.ys i)) M (fun b=>[NG k b])):=
  Hl (fun g=>{s with gi:=g,p:={s.p with ys:=Di s.p.ys i}}) [5,6] [0,1,2,3,4,7,8,9,10,11,12] [2,3,4,5,6,0,1,7,8,9,10,11,12] c An An (fun h=>Agy s.p.ys s.gi k.mo k.ti _ i w h ok.oki (by have:=ok.hyn;have:=ok.hmo;omega) ok.hys) (fun g=>kr) (fun g d=>⟨{ok with oki:=d,hyn:=by have:=Rt (k:=i) ok.hys;have:=ok.hyn;simp only;omega,hys:=Og ok.hys},rfl⟩)
theorem Adr(e:Ix)(l:Lse)(ok:NOk k s)(c:Mem w M [NG k s] w):Calls prog 81 #[.pointer (some ⟨k.te,0,none⟩),Value.agg ([Value.int .u8 e.1,Value.int .u32 e.2.1,Value.int .u16 e.2.2]).toArray,Value.agg ([Value.int .u16 l.ext,Value.int .i64 l.count]).toArray] w
    (Bn w (fun b:NS=>NOk k b∧b.p={s.p with zs:=Dv Cu k.mo s.p.zs e l}) (fun _=>.int .i64 (Mw k.mo s.p.zs e)) M (fun b=>[NG k b])):=
  Hl (fun g=>{s with ge:=g,p:={s.p with zs:=Dv Cu k.mo s.p.zs e l}}) [7,8] [0,1,2,3,4,5,6,9,10,11,12] [2,3,4,5,6,7,8,0,1,9,10,11,12] c An An (fun h=>Akt s.p.zs s.ge k.mo k.te _ e l w h ok.oke (by have:=ok.hzn;have:=ok.hmo;omega) ok.hzs) (fun g=>kr) (fun g d=>⟨{ok with oke:=d,hzn:=Oh ok.hzs ok.hzn,hzs:=Rs ok.hzs},rfl⟩)
theorem Ah6(e:Ix)(ok:NOk k s)(c:Mem w M [NG k s] w):Calls prog 82 #[.pointer (some ⟨k.te,0,none⟩),Value.agg ([Value.int .u8 e.1,Value.int .u32 e.2.1,Value.int .u16 e.2.2]).toArray] w
    (Bn w (fun b:NS=>NOk k b∧b.p={s.p with zs:=Di s.p.zs e}) (fun _=>.bool (Bq s.p.zs e)) M (fun b=>[NG k b])):=
  Hl (fun g=>{s with ge:=g,p:={s.p with zs:=Di s.p.zs e}}) [7,8] [0,1,2,3,4,5,6,9,10,11,12] [2,3,4,5,6,7,8,0,1,9,10,11,12] c An An (fun h=>Agv s.p.zs s.ge k.mo k.te _ e w h ok.oke (by have:=ok.hzn;have:=ok.hmo;omega) ok.hzs) (fun g=>kr) (fun g d=>⟨{ok with oke:=d,hzn:=by have:=Rt (k:=e) ok.hzs;have:=ok.hzn;simp only;omega,hzs:=Og ok.hzs},rfl⟩)
theorem Un(i a:Int)(ok:NOk k s)(hw:s.p.ws.length≤80000)(c:Mem w M [NG k s] w):Calls prog 91 #[.pointer (some ⟨k.wb,0,none⟩),.int .u64 i,.int .u64 a] w
    (Bn w (fun b:NS=>NOk k b∧b.p={s.p with ws:=Kz s.p.ws i a}) (fun _=>.tuple #[]) M (fun b=>[NG k b])):=
  Hl (fun g=>{s with gw:=g,p:={s.p with ws:=Kz s.p.ws i a}}) [9,10] [0,1,2,3,4,5,6,7,8,11,12] [2,3,4,5,6,7,8,9,10,0,1,11,12] c An An (fun h=>Akx s.p.ws s.gw k.wb _ i a w h ok.okw Ae ok.hws.srt) (fun g=>kr) (fun g d=>⟨{ok with okw:=d,hwn:=by have:=Aci s.p.ws i a;simp only;omega,hws:=ok.hws.set i a},rfl⟩)
theorem Als(i:Int)(ok:NOk k s)(c:Mem w M [NG k s] w):Calls prog 78 #[.pointer (some ⟨k.wb,0,none⟩),.int .u64 i] w
    (Bn w (fun b:NS=>NOk k b∧b.p={s.p with ws:=Gh s.p.ws i}) (fun _=>.bool (decide (Nu (C6 s.p.ws) i≥0))) M (fun b=>[NG k b])):=
  Hl (fun g=>{s with gw:=g,p:={s.p with ws:=Gh s.p.ws i}}) [9,10] [0,1,2,3,4,5,6,7,8,11,12] [2,3,4,5,6,7,8,9,10,0,1,11,12] c An An (fun h=>Acq s.p.ws s.gw k.wb _ i w h ok.okw (by have:=ok.hwn;omega)) (fun g=>kr) (fun g d=>⟨{ok with okw:=d,hwn:=by have:=Uc s.p.ws i;have:=ok.hwn;simp only;omega,hws:=ok.hws.cut i},rfl⟩)
theorem perm_new{α:Type}{P S:List (List α)}{A B:List α}{n x:α}:([[n],[x]]++(P++[A++B]++S)).flatten.Perm ([n]::(P++[A++x::B]++S)).flatten:=by
  simp only[List.flatten_append,List.flatten_cons,List.flatten_nil,List.append_nil,List.cons_append,List.nil_append,List.append_assoc]
  refine List.Perm.cons _ ?_
  have h:=(List.perm_middle (a:=x) (l₁:=P.flatten++A) (l₂:=B++S.flatten)).symm
  simpa only[List.append_assoc]using h
def stK(s:NS)(p b:Nat):NS:={s with p:={s.p with tk:=M7 s.p.tk p (some b)}}
def stT(s:NS)(p:Nat)(T:Nat→Bool):NS:={s with p:={s.p with TT:=F8 s.p.TT p T}}
theorem Zp{p:Nat}(f:p<256)(ok:NOk k s)(g:Mem w M [NG k s] w):Calls prog 69 #[.pointer (some ⟨k.nb,0,none⟩),.int .u8 (p:Int)] w
    (Bn w (fun b:Nat=>NOk k (stK s p b)∧(s.p.tk p=none∨s.p.tk p=some b)) (fun b=>.pointer (some ⟨b,0,none⟩)) M (fun b=>[NG k (stK s p b)])):=by
  cases h:s.p.tk p with
  |some b=>
    refine Calls.mono (Aag k.c k.gf k.fx (.slice s.gm.a s.p.ms.length s.gm.cap) k.ts k.te s.p.tk k.wb k.ti s.p.lst k.nb p b w (Adn (i:=0) g rfl) h f) ?_
    rintro e n ⟨rfl,u⟩
    have d:stK s p b=s:=by unfold stK;rw[Adm h]
    exact⟨b,⟨by rw[d];exact ok,.inr rfl⟩,rfl,by show Mem w M [NG k (stK s p b)] n;rw[d];exact g.ext u⟩
  |none=>
    obtain⟨A,B,d,x⟩:=Aap (TT:=s.p.TT) f h
    have o:=Um g
    rw[List.append_nil]at o
    have r:Mem w M ([[cb k.nb (C3 k s) 91]]++(Gr k s).tail) w:=o
    refine Calls.mono (Aah k.c k.gf k.fx (.slice s.gm.a s.p.ms.length s.gm.cap) k.ts k.te s.p.tk k.wb k.ti s.p.lst k.nb p _ w r.local h f) ?_
    rintro e n ⟨b,_,rfl,C⟩
    have j: ∀q,(stK s p b).p.tk q=none→(stK s p b).p.TT q=fun _=>false:=fun q t=>by
      by_cases e:q=p
      · subst e;exact absurd ((E7 s.p.tk q (some b)).symm.trans t) A7
      · exact ok.hz q ((Ge s.p.tk (some b) e).symm.trans t)
    have l:NOk k (stK s p b):={ok with hz:=j}
    refine⟨b,⟨l,.inl rfl⟩,rfl,?_⟩
    have D:=r.back C
    refine D.perm ?_
    have E:Gv (M7 s.p.tk p (some b)) s.p.TT=A++cb b (F5 (fun _=>false) 0) 230::B:=by
      rw[x b,ok.hz p h,Aan];rfl
    have F:(Gr k s).tail=((Gr k s).take 11).tail++[A++B]++(Gr k s).drop 12:=by rw[←d];rfl
    have G:Gr k (stK s p b)=[cb k.nb (C3 k (stK s p b)) 91]::(((Gr k s).take 11).tail++[A++cb b (F5 (fun _=>false) 0) 230::B]++(Gr k s).drop 12):=by rw[←E];rfl
    show([NG k (stK s p b)].flatten).Perm _
    rw[F,List.flatten_cons,List.flatten_nil,List.append_nil]
    unfold NG
    rw[G]
    exact perm_new.symm
theorem Ads{p:Nat}(c:p<256)(ok:NOk k s)(d:Mem w M [NG k s] w):Calls prog 69 #[.pointer (some ⟨k.nb,0,none⟩),.int .u8 (p:Int)] w
    (Bn w (fun q:NS×Nat=>NOk k q.1∧q.1.p={s.p with tk:=M7 s.p.tk p (some q.2)}∧(s.p.tk p=none∨s.p.tk p=some q.2)) (fun q=>.pointer (some ⟨q.2,0,none⟩)) M (fun q=>[NG k q.1])):=by
  refine Calls.mono (Zp c ok d) ?_
  rintro e j ⟨b,⟨f,g⟩,rfl,h⟩
  exact⟨(stK s p b,b),⟨f,rfl,g⟩,rfl,h⟩
theorem perm_foc{α:Type}{P S:List (List α)}{A B:List α}{x:α}:([[x]]++([A,B]++(P++S))).flatten.Perm (P++[A++x::B]++S).flatten:=by
  simp only[List.flatten_append,List.flatten_cons,List.flatten_nil,List.append_nil,List.cons_append,List.nil_append,List.append_assoc]
  have b:(x::(A++(B++(P.flatten++S.flatten)))).Perm (A++x::(B++(P.flatten++S.flatten))):=List.perm_middle.symm
  refine b.trans ?_
  have c:A++x::(B++(P.flatten++S.flatten))=(A++x::B)++(P.flatten++S.flatten):=by simp
  have d:P.flatten++(A++x::(B++S.flatten))=P.flatten++((A++x::B)++S.flatten):=by simp
  rw[c,d]
  exact List.perm_append_comm_assoc _ _ _
theorem Adt{p b:Nat}{f:FuncId}{args:Array Value}{v:Value}{T':Nat→Bool}(t:p<256)(h:s.p.tk p=some b)(ok:NOk k s)(u:Mem w M [NG k s] w)
    (hc:Mem w [b] [[cb b (F5 (s.p.TT p) (Gq (s.p.TT p):Int)) 230]] w→Calls prog f args w (Bn w (fun _:Unit=>True) (fun _=>v) [b] (fun _=>[[cb b (F5 T' (Gq T':Int)) 230]]))):
    Calls prog f args w (Bn w (fun _:Unit=>NOk k (stT s p T')) (fun _=>v) M (fun _=>[NG k (stT s p T')])):=by
  obtain⟨A,B,x,C⟩:=Wn (TT:=s.p.TT) t h
  have c: ∀q,(stT s p T').p.tk q=none→(stT s p T').p.TT q=fun _=>false:=fun q n=>by
    by_cases e:q=p
    · subst e;exact absurd (n.symm.trans h) A7
    · exact(El s.p.TT T' e).trans (ok.hz q n)
  have d:NOk k (stT s p T'):={ok with hz:=c}
  have o:=Um u
  rw[List.append_nil]at o
  have r:Mem w M ([[cb b (F5 (s.p.TT p) (Gq (s.p.TT p):Int)) 230]]++([A,B]++(Gr k s).eraseIdx 11)) w:=by
    refine o.perm ?_
    show([_]++([A,B]++_):List (List Blk)).flatten.Perm (Gr k s).flatten
    have j:Gr k s=(Gr k s).take 11++[A++cb b (F5 (s.p.TT p) (Gq (s.p.TT p):Int)) 230::B]++(Gr k s).drop 12:=by rw[←x];rfl
    have l:(Gr k s).eraseIdx 11=(Gr k s).take 11++(Gr k s).drop 12:=rfl
    rw[l];conv=>rhs;rw[j]
    exact perm_foc
  refine Calls.mono (hc r.local) ?_
  rintro e F ⟨g,_,rfl,D⟩
  refine⟨(),d,rfl,?_⟩
  have E:=r.back D
  refine E.perm ?_
  show([NG k _]:List (List Blk)).flatten.Perm _
  have j:Gr k (stT s p T')=(Gr k s).take 11++[A++cb b (F5 T' (Gq T':Int)) 230::B]++(Gr k s).drop 12:=by rw[←C T'];rfl
  have l:(Gr k s).eraseIdx 11=(Gr k s).take 11++(Gr k s).drop 12:=rfl
  rw[l,List.flatten_cons,List.flatten_nil,List.append_nil]
  unfold NG
  rw[j]
  exact perm_foc.symm
theorem Xq{p b:Nat}{f:FuncId}{args:Array Value}{v:Value}{T':Nat→Bool}(d:p<256)(h:s.p.tk p=some b)(ok:NOk k s)(g:Mem w M [NG k s] w)
    (hc:Mem w [b] [[cb b (F5 (s.p.TT p) (Gq (s.p.TT p):Int)) 230]] w→Calls prog f args w (Bn w (fun _:Unit=>True) (fun _=>v) [b] (fun _=>[[cb b (F5 T' (Gq T':Int)) 230]]))):
    Calls prog f args w (Bn w (fun c:NS=>NOk k c∧c.p={s.p with TT:=F8 s.p.TT p T'}) (fun _=>v) M (fun c=>[NG k c])):=by
  refine Calls.mono (Adt d h ok g hc) ?_
  rintro e n ⟨_,j,rfl,l⟩
  exact⟨stT s p T',⟨j,rfl⟩,rfl,l⟩
theorem Xr{p b q:Nat}(d:p<256)(c:q<65536)(h:s.p.tk p=some b)(ok:NOk k s)(e:Mem w M [NG k s] w):Calls prog 70 #[.pointer (some ⟨b,0,none⟩),.int .u16 (q:Int)] w
    (Bn w (fun _:Unit=>NOk k (stT s p (Pw (s.p.TT p) q))) (fun _=>.bool (Ww (s.p.TT p) q)) M (fun _=>[NG k (stT s p (Pw (s.p.TT p) q))])):=
  Adt d h ok e (fun f=>by have:=Uh (s.p.TT p) _ b q w f c Ae (by have:=P3 (s.p.TT p);omega);rwa[Zo _ c]at this)
theorem Alt{p b q:Nat}(e:p<256)(d:q<65536)(h:s.p.tk p=some b)(ok:NOk k s)(f:Mem w M [NG k s] w):Calls prog 70 #[.pointer (some ⟨b,0,none⟩),.int .u16 (q:Int)] w
    (Bn w (fun c:NS=>NOk k c∧c.p={s.p with TT:=F8 s.p.TT p (Pw (s.p.TT p) q)}) (fun _=>.bool (Ww (s.p.TT p) q)) M (fun c=>[NG k c])):=
  Xq e h ok f (fun g=>by have:=Uh (s.p.TT p) _ b q w g d Ae (by have:=P3 (s.p.TT p);omega);rwa[Zo _ d]at this)
theorem Alu{p b q:Nat}(e:p<256)(d:q<65536)(h:s.p.tk p=some b)(ok:NOk k s)(f:Mem w M [NG k s] w):Calls prog 83 #[.pointer (some ⟨b,0,none⟩),.int .u16 (q:Int)] w
    (Bn w (fun c:NS=>NOk k c∧c.p={s.p with TT:=F8 s.p.TT p (gvT (s.p.TT p) q)}) (fun _=>.bool (s.p.TT p q)) M (fun c=>[NG k c])):=
  Xq e h ok f (fun g=>by have:=Ak2 (s.p.TT p) _ b q w g d Ae (by have:=P3 (s.p.TT p);omega);rwa[Ah2 _ d]at this)
theorem Alv{p b d:Nat}(f:p<256)(g:d<18446744073709551616)(h:s.p.tk p=some b)(c:At w (some ⟨0,0,none⟩) (Cx dbt))(ok:NOk k s)(j:Mem w M [NG k s] w):Calls prog 111 #[.pointer (some ⟨b,0,none⟩),.int .u64 (d:Int)] w
    (Bn w (fun e:NS=>NOk k e∧e.p={s.p with TT:=F8 s.p.TT p (Zb (s.p.TT p) d)}) (fun _=>.tuple #[.int .u16 (N8 (s.p.TT p) d:Int),.bool (decide (pk (s.p.TT p) d<65536))]) M (fun e=>[NG k e])):=
  Xq f h ok j (fun l=>by have:=Ak4 (s.p.TT p) _ b d w l Ae (by have:=P3 (s.p.TT p);omega) c g;rwa[Ah3]at this)
end
end Go.Proofs.YtmonlaoaengfdaaGreatDoor.Oct
