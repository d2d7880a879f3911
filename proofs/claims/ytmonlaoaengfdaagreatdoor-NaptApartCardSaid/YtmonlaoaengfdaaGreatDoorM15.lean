import Derived.Test.YtmonlaoaengfdaaGreatDoorM8
import Derived.Test.YtmonlaoaengfdaaGreatDoorM14
import Derived.Test.YtmonlaoaengfdaaGreatDoorM13
import Derived.Test.YtmonlaoaengfdaaGreatDoorM7
set_option linter.unusedVariables false
set_option linter.unusedSimpArgs false
set_option maxRecDepth 20000
namespace Go.Proofs.YtmonlaoaengfdaaGreatDoor.Oct
open Go.RowKit Base Tryz
attribute [local irreducible] Ys Yc Ht HtS HtIn Wl Wd W Mem pf Ez Wa Wo KW
def ho(n:Nat):UInt8:=UInt8.ofNat (4*(20+n))
theorem Aq7{n:Nat}(h:n≤40):UInt8.ofInt (Jb .i64 ((20+n:Nat):Int) 2)=ho n:=by
  have e:Jb .i64 ((20+n:Nat):Int) 2=((4*(20+n):Nat):Int):=by
    unfold Jb
    show IntKind.wrap .i64 (((20+n:Nat):Int)*2^2)=_
    rw[Dg Ae Ae];omega
  rw[e];unfold ho
  have b:=Yq ((4*(20+n):Nat):Int)
  have c:=He (4*(20+n))
  exact UInt8.toNat_inj.1 Ae
def tX(d e b c:Nat)(fl:UInt8)(f m g:Nat)(h xs:List UInt8):List UInt8:=UInt8.ofNat (d/256)::UInt8.ofNat d::UInt8.ofNat (e/256)::UInt8.ofNat e::UInt8.ofNat (b/256/256/256)::UInt8.ofNat (b/256/256)::UInt8.ofNat (b/256)::UInt8.ofNat b::UInt8.ofNat (c/256/256/256)::UInt8.ofNat (c/256/256)::UInt8.ofNat (c/256)::UInt8.ofNat c::ho h.length::fl::UInt8.ofNat (f/256)::UInt8.ofNat f::UInt8.ofNat (m/256)::UInt8.ofNat m::UInt8.ofNat (g/256)::UInt8.ofNat g::(h++xs)
def tC(s d c e f g:Nat)(fl:UInt8)(h i:Nat)(b xs:List UInt8):Nat:=E3 (Fa s d 6 (20+(b.length+xs.length))++tX c e f g fl h 0 i b xs)
def tB(s d c e f g:Nat)(fl:UInt8)(h i:Nat)(b xs:List UInt8):List UInt8:=if 40<b.length∨b.length%4≠0 then []else if 1460<b.length+xs.length then []else tX c e f g fl h (tC s d c e f g fl h i b xs) i b xs
def tE(o n:Nat):Int:=if 40<o∨o%4≠0 then 1 else if 1460<o+n then 14 else 0
theorem Ae3(c d e f:Nat)(fl:UInt8)(g m h:Nat)(b xs:List UInt8):(tX c d e f fl g m h b xs).length=20+(b.length+xs.length):=by unfold tX;simp only[List.length_cons,List.length_append];omega
theorem Ams(c d e f:Nat)(fl:UInt8)(g m h:Nat)(b xs:List UInt8):be 2 c++be 2 d++be 4 e++be 4 f++[ho b.length,fl]++be 2 g++be 2 m++be 2 h++b++xs=tX c d e f fl g m h b xs:=by
  rw[List.append_assoc _ b xs];rfl
theorem Ai0(b c d e:Nat)(fl:UInt8)(f n g:Nat)(h xs:List UInt8):Iw (tX b c d e fl f 0 g h xs) 16 n=tX b c d e fl f n g h xs:=rfl
theorem Amt{s d c e f g:Nat}{fl:UInt8}{h i:Nat}{b xs:List UInt8}(j: ¬(40<b.length∨b.length%4≠0))(l: ¬1460<b.length+xs.length):(tB s d c e f g fl h i b xs).length=20+(b.length+xs.length):=by
  unfold tB;rw[if_neg j,if_neg l,Ae3]
theorem Apo(s d b c e f:Nat)(fl:UInt8)(g h:Nat)(i xs:List UInt8):(tB s d b c e f fl g h i xs).length≤1480:=by
  unfold tB;split
  · simp
  · split
    · simp
    · rw[Ae3];omega
abbrev Q2i(a b:Option Addr)(c cap d e f g h i:Nat)(fl:UInt8)(j xs:List UInt8):List Value:=[nV .u16 d,nV .u16 g,nV .u32 f,nV .u32 c,nV .u8 fl.toNat,nV .u16 i,nV .u16 h,sL b j.length e,sL a xs.length cap]
abbrev Q2j(fl:UInt8)(b:List UInt8):List Value:=[nV .u8 ((ho b.length).toNat),nV .u8 fl.toNat]
set_option maxHeartbeats 1000000 in
theorem Amu(s d J I H G:Nat)(fl:UInt8)(F E:Nat)(f xs:List UInt8)(P a:Option Addr)(Q cap:Nat)(w:World)(a5:At w P (Cx f))(a6:At w a (Cx xs))(hs:s<4294967296)(hd:d<4294967296)(hf:J<65536)(ht:I<65536)(hq:H<4294967296)(hk:G<4294967296)(hw:F<65536)(hu:E<65536)(gq:f.length≤1000000000000000)(hl:xs.length≤1000000000000000)(gr:f.length≤Q)(gs:xs.length≤cap):Calls prog 92 #[nV .u32 s,nV .u32 d,aV [nV .u16 J,nV .u16 I,nV .u32 H,nV .u32 G,nV .u8 fl.toNat,nV .u16 F,nV .u16 E,sL P f.length Q,sL a xs.length cap]] w (Bn w (fun g:FS=>g.ok 1 (tB s d J I H G fl F E f xs).length) (fun g=>.tuple #[.slice g.a (tB s d J I H G fl F E f xs).length g.cap,.int .i64 (tE f.length xs.length)]) [] (fun g=>[g.seg 5 (Cx (tB s d J I H G fl F E f xs))])):=by
 refine Ap (M:=[]) (LL:=[]) (n:=83) func92 rfl rfl A7 (Mem.refl _)<|W.s ?_
 refine Ac<|Af rfl (Bx (Q2i a P G cap J Q H I E F fl f xs) rfl) fun p5=>?_
 refine Ab 2<|Ai<|W.s<|W.block ?_
 refine Av<|A5 5 [(0,0)]<|C1 5 (decide<|((f.length:Nat):Int)>40) (fun _=>Gs.m 3 [(0,0)]<|Gs.y (v:=nV .i64<|f.length%4) ((Ys.p (v:=.int .i64<|Hw (f.length:Int) 4)).conseq<|Ad rfl)<|Gs.z [])<|Ao (v:=bV<|(decide<|((f.length:Nat):Int)>40)||(((f.length%4:Nat):Int) !=0)) (Ce (e:=decide<|((f.length:Nat):Int)>40) (b:=((f.length%4:Nat):Int) !=0) rfl Aa Aa Aa) ?_
 refine Ab 1<|Ai ?_
 refine Ak ((decide<|((f.length:Nat):Int)>40)||(((f.length%4:Nat):Int) !=0)) Aa (fun f0=>?_) fun f1=>?_
 ·have eu:=f0;try simp only[zA]at eu
  refine Aj []<|Al [] An rfl<|Am rfl ?_
  have hE:tE f.length xs.length=1:=by unfold tE;rw[if_pos Ae]
  have hB:tB s d J I H G fl F E f xs=[]:=by unfold tB;rw[if_pos Ae]
  exact E2 rfl (Ar<|sL none 0 0) (Ar<|iV .i64 1) fun D bi=>⟨FS.nul,(by rw[hB];exact B6 1),Eo<|(by rw[hB,hE];rfl),(Mem.cast (by rw[hB];rfl)<|Mem.push<|bi.pick [] An rfl)⟩
 ·have ex:=f1;try simp only[zA]at ex
  refine Av<|A5 3 [(0,0)]<|Bw (((20+f.length):Nat):Int) 20 (f.length:Int)<|A5 3 [(0,0)] ?_
  refine Bw ((((20+f.length)+xs.length):Nat):Int) ((20+f.length:Nat):Int) (xs.length:Int)<|Ab 2<|Ai ?_
  refine Ak (decide<|(((20+f.length)+xs.length:Nat):Int)>1480) Aa (fun f2=>?_) fun f3=>?_
  ·have ey:=f2;try simp only[zA]at ey
   refine Aj []<|Al [] An rfl<|Am rfl ?_
   have hE:tE f.length xs.length=14:=by unfold tE;rw[if_neg Ae,if_pos Ae]
   have hB:tB s d J I H G fl F E f xs=[]:=by unfold tB;rw[if_neg Ae,if_pos Ae]
   exact E2 rfl (Ar<|sL none 0 0) (Ar<|iV .i64 14) fun D bi=>⟨FS.nul,(by rw[hB];exact B6 1),Eo<|(by rw[hB,hE];rfl),(Mem.cast (by rw[hB];rfl)<|Mem.push<|bi.pick [] An rfl)⟩
  ·have ez:=f3;try simp only[zA]at ez
   refine Ag<|A9<|Av<|A5 3 [(0,0)] ?_
   refine Bw (((20+f.length):Nat):Int) 20 (f.length:Int)<|Ab 1<|Ai<|W.s ?_
   refine Af9 (w0:=w) (M:=[]) _ [0,1,9] (fun(l:FS×FS×FS×FS×Nat×FS×FS×FS×Nat×FS)=>[nV .u32 s,nV .u32 d,sL l.2.2.2.2.2.2.2.2.2.a (2+2+4+4+2+2+2+2+f.length+xs.length) l.2.2.2.2.2.2.2.2.2.cap]) (fun(l:FS×FS×FS×FS×Nat×FS×FS×FS×Nat×FS)=>l.1.ok 1 2∧l.1.nil=false∧l.2.1.ok 1 2∧l.2.1.nil=false∧l.2.2.1.ok 1 4∧l.2.2.1.nil=false∧l.2.2.2.1.ok 1 4∧l.2.2.2.1.nil=false∧l.2.2.2.2.2.1.ok 1 2∧l.2.2.2.2.2.1.nil=false∧l.2.2.2.2.2.2.1.ok 1 2∧l.2.2.2.2.2.2.1.nil=false∧l.2.2.2.2.2.2.2.1.ok 1 2∧l.2.2.2.2.2.2.2.1.nil=false∧l.2.2.2.2.2.2.2.2.2.ok 1 (2+2+4+4+2+2+2+2+f.length+xs.length)∧(2≤([⟨l.1.a,(be 2 J),l.1.cap⟩,⟨l.2.1.a,(be 2 I),l.2.1.cap⟩,⟨l.2.2.1.a,(be 4 H),l.2.2.1.cap⟩,⟨l.2.2.2.1.a,(be 4 G),l.2.2.2.1.cap⟩,⟨some ⟨l.2.2.2.2.1,0,none⟩,[(ho f.length),fl],2⟩,⟨l.2.2.2.2.2.1.a,(be 2 F),l.2.2.2.2.2.1.cap⟩,⟨l.2.2.2.2.2.2.1.a,(be 2 0),l.2.2.2.2.2.2.1.cap⟩,⟨l.2.2.2.2.2.2.2.1.a,(be 2 E),l.2.2.2.2.2.2.2.1.cap⟩,⟨P,f,Q⟩,⟨a,xs,cap⟩]:List SV).length→l.2.2.2.2.2.2.2.2.2.nil=false)) (fun(l:FS×FS×FS×FS×Nat×FS×FS×FS×Nat×FS)=>[l.2.2.2.2.2.2.2.2.2.seg 5 (mc b8<|(be 2 J)++(be 2 I)++(be 4 H)++(be 4 G)++[(ho f.length),fl]++(be 2 F)++(be 2 0)++(be 2 E)++f++xs),[cb l.2.2.2.2.2.2.2.2.1 [sL l.1.a 2 l.1.cap,sL l.2.1.a 2 l.2.1.cap,sL l.2.2.1.a 4 l.2.2.1.cap,sL l.2.2.2.1.a 4 l.2.2.2.1.cap,sL (some ⟨l.2.2.2.2.1,0,none⟩) 2 2,sL l.2.2.2.2.2.1.a 2 l.2.2.2.2.2.1.cap,sL l.2.2.2.2.2.2.1.a 2 l.2.2.2.2.2.2.1.cap,sL l.2.2.2.2.2.2.2.1.a 2 l.2.2.2.2.2.2.2.1.cap,sL P f.length Q,sL a xs.length cap] 38],l.2.2.2.2.2.2.2.1.seg 5<|mc b8<|be 2 E,l.2.2.2.2.2.2.1.seg 5<|mc b8<|be 2 0,l.2.2.2.2.2.1.seg 5<|mc b8<|be 2 F,[cb l.2.2.2.2.1 (Q2j fl f) 5],l.2.2.2.1.seg 5<|mc b8<|be 4 G,l.2.2.1.seg 5<|mc b8<|be 4 H,l.2.1.seg 5<|mc b8<|be 2 I,l.1.seg 5<|mc b8<|be 2 J,[cb p5 (Q2i a P G cap J Q H I E F fl f xs) 126]]) (fun gu V=>?_) fun l gw e0=>?_
   ·refine E5 [0,1,2,4,5,6,8,9,10,12,13,14,16,17,18,19,20,22,23,24,27,28,29,31,32,33,34,37] (Mem w [] [[cb p5 (Q2i a P G cap J Q H I E F fl f xs) 126]]) Aa Aa (fun _ _ x=>x.drawn _)<|Wa.ys (v:=pV p5 0) (i:=0) Aa Aa Aa Aa (fun _ x=>x) rfl rfl rfl (Ys.p)<|Wa.ys (i:=1) Aa Aa Aa Aa (fun _ x=>x) rfl rfl rfl (Cn p5 0 0 0 isAgg22)<|Wa.ys (v:=nV .u64 J) (i:=2) Aa Aa Aa Aa (fun _ x=>x) rfl rfl rfl ((Ys.p (v:=.int .u64<|Ct .u64 (J:Int))).conseq<|Ad<|Co Ae Ae)<|Wa.ys (v:=pV p5 1) (i:=4) Aa Aa Aa Aa (fun _ x=>x) rfl rfl rfl (Ys.p) ?_
    refine Wa.ys (i:=5) Aa Aa Aa Aa (fun _ x=>x) rfl rfl rfl (Cn p5 1 0 0 isAgg22)<|Wa.ys (v:=nV .u64 I) (i:=6) Aa Aa Aa Aa (fun _ x=>x) rfl rfl rfl ((Ys.p (v:=.int .u64<|Ct .u64 (I:Int))).conseq<|Ad<|Co Ae Ae)<|Wa.ys (v:=pV p5 2) (i:=8) Aa Aa Aa Aa (fun _ x=>x) rfl rfl rfl (Ys.p)<|Wa.ys (i:=9) Aa Aa Aa Aa (fun _ x=>x) rfl rfl rfl (Cn p5 2 0 0 isAgg23)<|Wa.ys (v:=nV .u64 H) (i:=10) Aa Aa Aa Aa (fun _ x=>x) rfl rfl rfl ((Ys.p (v:=.int .u64<|Ct .u64 (H:Int))).conseq<|Ad<|Co Ae Ae) ?_
    refine Wa.ys (v:=pV p5 3) (i:=12) Aa Aa Aa Aa (fun _ x=>x) rfl rfl rfl (Ys.p)<|Wa.ys (i:=13) Aa Aa Aa Aa (fun _ x=>x) rfl rfl rfl (Cn p5 3 0 0 isAgg23)<|Wa.ys (v:=nV .u64 G) (i:=14) Aa Aa Aa Aa (fun _ x=>x) rfl rfl rfl ((Ys.p (v:=.int .u64<|Ct .u64 (G:Int))).conseq<|Ad<|Co Ae Ae)<|Wa.ys (v:=nV .i64<|20+f.length) (i:=16) Aa Aa Aa Aa (fun _ x=>x) rfl rfl rfl (Ys.p)<|Wa.ys (v:=iV .i64<|Jb .i64 ((20+f.length:Nat):Int) 2) (i:=17) Aa Aa Aa Aa (fun _ x=>x) rfl rfl rfl (Ys.p) ?_
    refine Wa.ys (v:=nV .u8<|(ho f.length).toNat) (i:=18) Aa Aa Aa Aa (fun _ x=>x) rfl rfl rfl (Ys.conseq (v:=nV .u8<|(UInt8.ofInt<|Jb .i64 ((20+f.length:Nat):Int) 2).toNat) (Ad<|congrArg (fun q:UInt8=>(q.toNat:Int))<|Aq7 Ae)<|(Ys.p (v:=.int .u8<|Ct .u8<|Jb .i64 ((20+f.length:Nat):Int) 2)).conseq<|Ad<|Yq _)<|Wa.ys (v:=pV p5 4) (i:=19) Aa Aa Aa Aa (fun _ x=>x) rfl rfl rfl (Ys.p)<|Wa.ys (i:=20) Aa Aa Aa Aa (fun _ x=>x) rfl rfl rfl (Cn p5 4 0 0 isAgg5)<|Wa.ys (v:=pV p5 5) (i:=22) Aa Aa Aa Aa (fun _ x=>x) rfl rfl rfl (Ys.p)<|Wa.ys (i:=23) Aa Aa Aa Aa (fun _ x=>x) rfl rfl rfl (Cn p5 5 0 0 isAgg22) ?_
    refine Wa.ys (v:=nV .u64 F) (i:=24) Aa Aa Aa Aa (fun _ x=>x) rfl rfl rfl ((Ys.p (v:=.int .u64<|Ct .u64 (F:Int))).conseq<|Ad<|Co Ae Ae)<|Wa.ys (v:=pV p5 6) (i:=27) Aa Aa Aa Aa (fun _ x=>x) rfl rfl rfl (Ys.p)<|Wa.ys (i:=28) Aa Aa Aa Aa (fun _ x=>x) rfl rfl rfl (Cn p5 6 0 0 isAgg22)<|Wa.ys (v:=nV .u64 E) (i:=29) Aa Aa Aa Aa (fun _ x=>x) rfl rfl rfl ((Ys.p (v:=.int .u64<|Ct .u64 (E:Int))).conseq<|Ad<|Co Ae Ae)<|Wa.ys (v:=pV p5 7) (i:=31) Aa Aa Aa Aa (fun _ x=>x) rfl rfl rfl (Ys.p) ?_
    refine Wa.ys (i:=32) Aa Aa Aa Aa (fun _ x=>x) rfl rfl rfl (Cn p5 7 0 0 isAgg38)<|Wa.ys (v:=pV p5 8) (i:=33) Aa Aa Aa Aa (fun _ x=>x) rfl rfl rfl (Ys.p)<|Wa.ys (i:=34) Aa Aa Aa Aa (fun _ x=>x) rfl rfl rfl (Cn p5 8 0 0 isAgg38) ?_
    refine C9 (i:=3) (j:=21) Aa ?_ ?_
    ·refine B7 rfl rfl (Au [] [0] fun D c u=>C7 2 J Ae _) (Az [1]) fun r e1=>?_
     obtain⟨N,Y⟩:=e1
     refine C9 (i:=7) (j:=21) Aa ?_ ?_
     ·refine B7 rfl rfl (Au [] [0,1] fun D c u=>C7 2 I Ae _) (Az [2]) fun A e2=>?_
      obtain⟨R,a1⟩:=e2
      refine C9 (i:=11) (j:=21) Aa ?_ ?_
      ·refine B7 rfl rfl (Au [] [0,1,2] fun D c u=>C7 4 H Ae _) (Az [3]) fun C e3=>?_
       obtain⟨T,a7⟩:=e3
       refine C9 (i:=15) (j:=21) Aa ?_ ?_
       ·refine B7 rfl rfl (Au [] [0,1,2,3] fun D c u=>C7 4 G Ae _) (Az [4]) fun L e4=>?_
        obtain⟨X,bg⟩:=e4
        refine C9 (i:=21) (j:=25) Aa ?_ ?_
        ·refine Cp rfl rfl (Bj (mk:=fun S=>.slice (some ⟨S,0,none⟩) 2 2) (t:=5) (cs:=(Q2j fl f)) rfl fun _=>kr) (Az [5]) fun o=>A6 (i:=25) Aa<|B7 rfl rfl (Au [] [0,1,2,3,4,5] fun D c u=>C7 2 F Ae _) (Az [6]) fun a8 e5=>?_
         obtain⟨cd,e6⟩:=e5
         refine A6 (i:=26) Aa<|B7 rfl rfl (Au [] [0,1,2,3,4,5,6] fun D c u=>C7 2 0 Ae _) (Az [7]) fun a9 e7=>?_
         obtain⟨ce,e8⟩:=e7
         refine A6 (i:=30) Aa<|B7 rfl rfl (Au [] [0,1,2,3,4,5,6,7] fun D c u=>C7 2 E Ae _) (Az [8]) fun ba e9=>?_
         obtain⟨cf,fa⟩:=e9
         refine A6 (i:=35) Aa<|Cp rfl rfl (Bj (mk:=fun S=>.slice (some ⟨S,0,none⟩) 10 10) (t:=38) (cs:=[sV r 2,sV A 2,sV C 4,sV L 4,sL (some ⟨o,0,none⟩) 2 2,sV a8 2,sV a9 2,sV ba 2,sL P f.length Q,sL a xs.length cap]) rfl fun _=>kr) (Az [9]) fun B=>?_
         refine A6 (i:=36) Aa<|B7 rfl rfl (Au [] [0,1,2,3,4,5,6,7,8,9] fun D c u=>(E8 [⟨r.a,(be 2 J),r.cap⟩,⟨A.a,(be 2 I),A.cap⟩,⟨C.a,(be 4 H),C.cap⟩,⟨L.a,(be 4 G),L.cap⟩,⟨some ⟨o,0,none⟩,[(ho f.length),fl],2⟩,⟨a8.a,(be 2 F),a8.cap⟩,⟨a9.a,(be 2 0),a9.cap⟩,⟨ba.a,(be 2 E),ba.cap⟩,⟨P,f,Q⟩,⟨a,xs,cap⟩] ((be 2 J)++(be 2 I)++(be 4 H)++(be 4 G)++[(ho f.length),fl]++(be 2 F)++(be 2 0)++(be 2 E)++f++xs) (some ⟨B,0,none⟩) 10 10 (2+2+4+4+2+2+2+2+f.length+xs.length) _ rfl (by simp[jn]) Mf (by first|exact A4 (i:=0) (j:=0) (t:=38) (b:=B) c rfl rfl|(rw[show mc Pg ([⟨r.a,(be 2 J),r.cap⟩,⟨A.a,(be 2 I),A.cap⟩,⟨C.a,(be 4 H),C.cap⟩,⟨L.a,(be 4 G),L.cap⟩,⟨some ⟨o,0,none⟩,[(ho f.length),fl],2⟩,⟨a8.a,(be 2 F),a8.cap⟩,⟨a9.a,(be 2 0),a9.cap⟩,⟨ba.a,(be 2 E),ba.cap⟩,⟨P,f,Q⟩,⟨a,xs,cap⟩]:List SV)=[sV r 2,sV A 2,sV C 4,sV L 4,Value.slice (some ⟨o,0,none⟩) 2 2,sV a8 2,sV a9 2,sV ba 2,Value.slice P f.length Q,Value.slice a xs.length cap] by(simp[mc,Bc,B8];try omega)];exact A4 (i:=0) (j:=0) (t:=38) (b:=B) c rfl rfl)) (List.forall_mem_cons.2 ⟨(FS.at (i:=8) (t:=5) c rfl<|Ah N Fw),(List.forall_mem_cons.2 ⟨(FS.at (i:=7) (t:=5) c rfl<|Ah R Fw),(List.forall_mem_cons.2 ⟨(FS.at (i:=6) (t:=5) c rfl<|Ah T Fw),(List.forall_mem_cons.2 ⟨(FS.at (i:=5) (t:=5) c rfl<|Ah X Fw),(List.forall_mem_cons.2 ⟨(A4 (i:=4) (j:=0) (t:=5) (b:=o) c rfl rfl),(List.forall_mem_cons.2 ⟨(FS.at (i:=3) (t:=5) c rfl<|Ah cd Fw),(List.forall_mem_cons.2 ⟨(FS.at (i:=2) (t:=5) c rfl<|Ah ce Fw),(List.forall_mem_cons.2 ⟨(FS.at (i:=1) (t:=5) c rfl<|Ah cf Fw),(List.forall_mem_cons.2 ⟨(a5.mem0 c),(List.forall_mem_cons.2 ⟨(a6.mem0 c),(fun _ h=>by cases h)⟩)⟩)⟩)⟩)⟩)⟩)⟩)⟩)⟩)⟩) K2 A7 A7)) (Az [10]) fun fb fc=>?_
         obtain⟨fe,ff⟩:=fc
         refine Wa.ys (v:=sV fb<|2+2+4+4+2+2+2+2+f.length+xs.length) (i:=37) Aa Aa Aa Aa (fun _ x=>x.pick [10] An rfl) rfl rfl rfl (Ys.p)<|Ej Aa ?_
         refine fun D x=>V (r,A,C,L,o,a8,a9,ba,B,fb) _ D ⟨N,Y,R,a1,T,a7,X,bg,cd,e6,ce,e8,cf,fa,fe,ff⟩ Aa x
        ·refine B7 rfl rfl (Au [] [0,1,2,3,4] fun D c u=>C7 2 F Ae _) (Az [5]) fun O fg=>?_
         obtain⟨a2,bj⟩:=fg
         refine C9 (i:=21) (j:=26) Aa ?_ ?_
         ·refine Cp rfl rfl (Bj (mk:=fun S=>.slice (some ⟨S,0,none⟩) 2 2) (t:=5) (cs:=(Q2j fl f)) rfl fun _=>kr) (Az [6]) fun o=>A6 (i:=26) Aa<|B7 rfl rfl (Au [] [0,1,2,3,4,5,6] fun D c u=>C7 2 0 Ae _) (Az [7]) fun bb fh=>?_
          obtain⟨cg,fi⟩:=fh
          refine A6 (i:=30) Aa<|B7 rfl rfl (Au [] [0,1,2,3,4,5,6,7] fun D c u=>C7 2 E Ae _) (Az [8]) fun bc fj=>?_
          obtain⟨ch,fk⟩:=fj
          refine A6 (i:=35) Aa<|Cp rfl rfl (Bj (mk:=fun S=>.slice (some ⟨S,0,none⟩) 10 10) (t:=38) (cs:=[sV r 2,sV A 2,sV C 4,sV L 4,sL (some ⟨o,0,none⟩) 2 2,sV O 2,sV bb 2,sV bc 2,sL P f.length Q,sL a xs.length cap]) rfl fun _=>kr) (Az [9]) fun B=>?_
          refine A6 (i:=36) Aa<|B7 rfl rfl (Au [] [0,1,2,3,4,5,6,7,8,9] fun D c u=>(E8 [⟨r.a,(be 2 J),r.cap⟩,⟨A.a,(be 2 I),A.cap⟩,⟨C.a,(be 4 H),C.cap⟩,⟨L.a,(be 4 G),L.cap⟩,⟨some ⟨o,0,none⟩,[(ho f.length),fl],2⟩,⟨O.a,(be 2 F),O.cap⟩,⟨bb.a,(be 2 0),bb.cap⟩,⟨bc.a,(be 2 E),bc.cap⟩,⟨P,f,Q⟩,⟨a,xs,cap⟩] ((be 2 J)++(be 2 I)++(be 4 H)++(be 4 G)++[(ho f.length),fl]++(be 2 F)++(be 2 0)++(be 2 E)++f++xs) (some ⟨B,0,none⟩) 10 10 (2+2+4+4+2+2+2+2+f.length+xs.length) _ rfl (by simp[jn]) Mf (by first|exact A4 (i:=0) (j:=0) (t:=38) (b:=B) c rfl rfl|(rw[show mc Pg ([⟨r.a,(be 2 J),r.cap⟩,⟨A.a,(be 2 I),A.cap⟩,⟨C.a,(be 4 H),C.cap⟩,⟨L.a,(be 4 G),L.cap⟩,⟨some ⟨o,0,none⟩,[(ho f.length),fl],2⟩,⟨O.a,(be 2 F),O.cap⟩,⟨bb.a,(be 2 0),bb.cap⟩,⟨bc.a,(be 2 E),bc.cap⟩,⟨P,f,Q⟩,⟨a,xs,cap⟩]:List SV)=[sV r 2,sV A 2,sV C 4,sV L 4,Value.slice (some ⟨o,0,none⟩) 2 2,sV O 2,sV bb 2,sV bc 2,Value.slice P f.length Q,Value.slice a xs.length cap] by(simp[mc,Bc,B8];try omega)];exact A4 (i:=0) (j:=0) (t:=38) (b:=B) c rfl rfl)) (List.forall_mem_cons.2 ⟨(FS.at (i:=8) (t:=5) c rfl<|Ah N Fw),(List.forall_mem_cons.2 ⟨(FS.at (i:=7) (t:=5) c rfl<|Ah R Fw),(List.forall_mem_cons.2 ⟨(FS.at (i:=6) (t:=5) c rfl<|Ah T Fw),(List.forall_mem_cons.2 ⟨(FS.at (i:=5) (t:=5) c rfl<|Ah X Fw),(List.forall_mem_cons.2 ⟨(A4 (i:=3) (j:=0) (t:=5) (b:=o) c rfl rfl),(List.forall_mem_cons.2 ⟨(FS.at (i:=4) (t:=5) c rfl<|Ah a2 Fw),(List.forall_mem_cons.2 ⟨(FS.at (i:=2) (t:=5) c rfl<|Ah cg Fw),(List.forall_mem_cons.2 ⟨(FS.at (i:=1) (t:=5) c rfl<|Ah ch Fw),(List.forall_mem_cons.2 ⟨(a5.mem0 c),(List.forall_mem_cons.2 ⟨(a6.mem0 c),(fun _ h=>by cases h)⟩)⟩)⟩)⟩)⟩)⟩)⟩)⟩)⟩)⟩) K2 A7 A7)) (Az [10]) fun fm fn=>?_
          obtain⟨fo,fp⟩:=fn
          refine Wa.ys (v:=sV fm<|2+2+4+4+2+2+2+2+f.length+xs.length) (i:=37) Aa Aa Aa Aa (fun _ x=>x.pick [10] An rfl) rfl rfl rfl (Ys.p)<|Ej Aa ?_
          refine fun D x=>V (r,A,C,L,o,O,bb,bc,B,fm) _ D ⟨N,Y,R,a1,T,a7,X,bg,a2,bj,cg,fi,ch,fk,fo,fp⟩ Aa<|x.pick [0,1,2,3,5,4,6,7,8,9,10] An rfl
         ·refine B7 rfl rfl (Au [] [0,1,2,3,4,5] fun D c u=>C7 2 0 Ae _) (Az [6]) fun U fq=>?_
          obtain⟨bh,ci⟩:=fq
          refine C9 (i:=21) (j:=30) Aa ?_ ?_
          ·refine Cp rfl rfl (Bj (mk:=fun S=>.slice (some ⟨S,0,none⟩) 2 2) (t:=5) (cs:=(Q2j fl f)) rfl fun _=>kr) (Az [7]) fun o=>A6 (i:=30) Aa<|B7 rfl rfl (Au [] [0,1,2,3,4,5,6,7] fun D c u=>C7 2 E Ae _) (Az [8]) fun bd fs=>?_
           obtain⟨cj,ft⟩:=fs
           refine A6 (i:=35) Aa<|Cp rfl rfl (Bj (mk:=fun S=>.slice (some ⟨S,0,none⟩) 10 10) (t:=38) (cs:=[sV r 2,sV A 2,sV C 4,sV L 4,sL (some ⟨o,0,none⟩) 2 2,sV O 2,sV U 2,sV bd 2,sL P f.length Q,sL a xs.length cap]) rfl fun _=>kr) (Az [9]) fun B=>?_
           refine A6 (i:=36) Aa<|B7 rfl rfl (Au [] [0,1,2,3,4,5,6,7,8,9] fun D c u=>(E8 [⟨r.a,(be 2 J),r.cap⟩,⟨A.a,(be 2 I),A.cap⟩,⟨C.a,(be 4 H),C.cap⟩,⟨L.a,(be 4 G),L.cap⟩,⟨some ⟨o,0,none⟩,[(ho f.length),fl],2⟩,⟨O.a,(be 2 F),O.cap⟩,⟨U.a,(be 2 0),U.cap⟩,⟨bd.a,(be 2 E),bd.cap⟩,⟨P,f,Q⟩,⟨a,xs,cap⟩] ((be 2 J)++(be 2 I)++(be 4 H)++(be 4 G)++[(ho f.length),fl]++(be 2 F)++(be 2 0)++(be 2 E)++f++xs) (some ⟨B,0,none⟩) 10 10 (2+2+4+4+2+2+2+2+f.length+xs.length) _ rfl (by simp[jn]) Mf (by first|exact A4 (i:=0) (j:=0) (t:=38) (b:=B) c rfl rfl|(rw[show mc Pg ([⟨r.a,(be 2 J),r.cap⟩,⟨A.a,(be 2 I),A.cap⟩,⟨C.a,(be 4 H),C.cap⟩,⟨L.a,(be 4 G),L.cap⟩,⟨some ⟨o,0,none⟩,[(ho f.length),fl],2⟩,⟨O.a,(be 2 F),O.cap⟩,⟨U.a,(be 2 0),U.cap⟩,⟨bd.a,(be 2 E),bd.cap⟩,⟨P,f,Q⟩,⟨a,xs,cap⟩]:List SV)=[sV r 2,sV A 2,sV C 4,sV L 4,Value.slice (some ⟨o,0,none⟩) 2 2,sV O 2,sV U 2,sV bd 2,Value.slice P f.length Q,Value.slice a xs.length cap] by(simp[mc,Bc,B8];try omega)];exact A4 (i:=0) (j:=0) (t:=38) (b:=B) c rfl rfl)) (List.forall_mem_cons.2 ⟨(FS.at (i:=8) (t:=5) c rfl<|Ah N Fw),(List.forall_mem_cons.2 ⟨(FS.at (i:=7) (t:=5) c rfl<|Ah R Fw),(List.forall_mem_cons.2 ⟨(FS.at (i:=6) (t:=5) c rfl<|Ah T Fw),(List.forall_mem_cons.2 ⟨(FS.at (i:=5) (t:=5) c rfl<|Ah X Fw),(List.forall_mem_cons.2 ⟨(A4 (i:=2) (j:=0) (t:=5) (b:=o) c rfl rfl),(List.forall_mem_cons.2 ⟨(FS.at (i:=4) (t:=5) c rfl<|Ah a2 Fw),(List.forall_mem_cons.2 ⟨(FS.at (i:=3) (t:=5) c rfl<|Ah bh Fw),(List.forall_mem_cons.2 ⟨(FS.at (i:=1) (t:=5) c rfl<|Ah cj Fw),(List.forall_mem_cons.2 ⟨(a5.mem0 c),(List.forall_mem_cons.2 ⟨(a6.mem0 c),(fun _ h=>by cases h)⟩)⟩)⟩)⟩)⟩)⟩)⟩)⟩)⟩)⟩) K2 A7 A7)) (Az [10]) fun fu cr=>?_
           obtain⟨ct,cu⟩:=cr
           refine Wa.ys (v:=sV fu<|2+2+4+4+2+2+2+2+f.length+xs.length) (i:=37) Aa Aa Aa Aa (fun _ x=>x.pick [10] An rfl) rfl rfl rfl (Ys.p)<|Ej Aa ?_
           refine fun D x=>V (r,A,C,L,o,O,U,bd,B,fu) _ D ⟨N,Y,R,a1,T,a7,X,bg,a2,bj,bh,ci,cj,ft,ct,cu⟩ Aa<|x.pick [0,1,2,4,5,3,6,7,8,9,10] An rfl
          ·refine B7 rfl rfl (Au [] [0,1,2,3,4,5,6] fun D c u=>C7 2 E Ae _) (Az [7]) fun Z cv=>?_
           obtain⟨bk,cw⟩:=cv
           refine A6 (i:=21) Aa<|Cp rfl rfl (Bj (mk:=fun S=>.slice (some ⟨S,0,none⟩) 2 2) (t:=5) (cs:=(Q2j fl f)) rfl fun _=>kr) (Az [8]) fun o=>?_
           refine A6 (i:=35) Aa<|Cp rfl rfl (Bj (mk:=fun S=>.slice (some ⟨S,0,none⟩) 10 10) (t:=38) (cs:=[sV r 2,sV A 2,sV C 4,sV L 4,sL (some ⟨o,0,none⟩) 2 2,sV O 2,sV U 2,sV Z 2,sL P f.length Q,sL a xs.length cap]) rfl fun _=>kr) (Az [9]) fun B=>?_
           refine A6 (i:=36) Aa<|B7 rfl rfl (Au [] [0,1,2,3,4,5,6,7,8,9] fun D c u=>(E8 [⟨r.a,(be 2 J),r.cap⟩,⟨A.a,(be 2 I),A.cap⟩,⟨C.a,(be 4 H),C.cap⟩,⟨L.a,(be 4 G),L.cap⟩,⟨some ⟨o,0,none⟩,[(ho f.length),fl],2⟩,⟨O.a,(be 2 F),O.cap⟩,⟨U.a,(be 2 0),U.cap⟩,⟨Z.a,(be 2 E),Z.cap⟩,⟨P,f,Q⟩,⟨a,xs,cap⟩] ((be 2 J)++(be 2 I)++(be 4 H)++(be 4 G)++[(ho f.length),fl]++(be 2 F)++(be 2 0)++(be 2 E)++f++xs) (some ⟨B,0,none⟩) 10 10 (2+2+4+4+2+2+2+2+f.length+xs.length) _ rfl (by simp[jn]) Mf (by first|exact A4 (i:=0) (j:=0) (t:=38) (b:=B) c rfl rfl|(rw[show mc Pg ([⟨r.a,(be 2 J),r.cap⟩,⟨A.a,(be 2 I),A.cap⟩,⟨C.a,(be 4 H),C.cap⟩,⟨L.a,(be 4 G),L.cap⟩,⟨some ⟨o,0,none⟩,[(ho f.length),fl],2⟩,⟨O.a,(be 2 F),O.cap⟩,⟨U.a,(be 2 0),U.cap⟩,⟨Z.a,(be 2 E),Z.cap⟩,⟨P,f,Q⟩,⟨a,xs,cap⟩]:List SV)=[sV r 2,sV A 2,sV C 4,sV L 4,Value.slice (some ⟨o,0,none⟩) 2 2,sV O 2,sV U 2,sV Z 2,Value.slice P f.length Q,Value.slice a xs.length cap] by(simp[mc,Bc,B8];try omega)];exact A4 (i:=0) (j:=0) (t:=38) (b:=B) c rfl rfl)) (List.forall_mem_cons.2 ⟨(FS.at (i:=8) (t:=5) c rfl<|Ah N Fw),(List.forall_mem_cons.2 ⟨(FS.at (i:=7) (t:=5) c rfl<|Ah R Fw),(List.forall_mem_cons.2 ⟨(FS.at (i:=6) (t:=5) c rfl<|Ah T Fw),(List.forall_mem_cons.2 ⟨(FS.at (i:=5) (t:=5) c rfl<|Ah X Fw),(List.forall_mem_cons.2 ⟨(A4 (i:=1) (j:=0) (t:=5) (b:=o) c rfl rfl),(List.forall_mem_cons.2 ⟨(FS.at (i:=4) (t:=5) c rfl<|Ah a2 Fw),(List.forall_mem_cons.2 ⟨(FS.at (i:=3) (t:=5) c rfl<|Ah bh Fw),(List.forall_mem_cons.2 ⟨(FS.at (i:=2) (t:=5) c rfl<|Ah bk Fw),(List.forall_mem_cons.2 ⟨(a5.mem0 c),(List.forall_mem_cons.2 ⟨(a6.mem0 c),(fun _ h=>by cases h)⟩)⟩)⟩)⟩)⟩)⟩)⟩)⟩)⟩)⟩) K2 A7 A7)) (Az [10]) fun ck cx=>?_
           obtain⟨cy,c0⟩:=cx
           refine Wa.ys (v:=sV ck<|2+2+4+4+2+2+2+2+f.length+xs.length) (i:=37) Aa Aa Aa Aa (fun _ x=>x.pick [10] An rfl) rfl rfl rfl (Ys.p)<|Ej Aa ?_
           refine fun D x=>V (r,A,C,L,o,O,U,Z,B,ck) _ D ⟨N,Y,R,a1,T,a7,X,bg,a2,bj,bh,ci,bk,cw,cy,c0⟩ Aa<|x.pick [0,1,3,4,5,2,6,7,8,9,10] An rfl
       ·refine Cp rfl rfl (Bj (mk:=fun S=>.slice (some ⟨S,0,none⟩) 2 2) (t:=5) (cs:=(Q2j fl f)) rfl fun _=>kr) (Az [4]) fun o=>A6 (i:=15) Aa<|B7 rfl rfl (Au [] [0,1,2,3,4] fun D c u=>C7 4 G Ae _) (Az [5]) fun aa c1=>?_
        obtain⟨bl,c3⟩:=c1
        refine A6 (i:=25) Aa<|B7 rfl rfl (Au [] [0,1,2,3,4,5] fun D c u=>C7 2 F Ae _) (Az [6]) fun ab c4=>?_
        obtain⟨bm,c5⟩:=c4
        refine A6 (i:=26) Aa<|B7 rfl rfl (Au [] [0,1,2,3,4,5,6] fun D c u=>C7 2 0 Ae _) (Az [7]) fun ad c6=>?_
        obtain⟨bn,c7⟩:=c6
        refine A6 (i:=30) Aa<|B7 rfl rfl (Au [] [0,1,2,3,4,5,6,7] fun D c u=>C7 2 E Ae _) (Az [8]) fun ae c8=>?_
        obtain⟨bo,c9⟩:=c8
        refine A6 (i:=35) Aa<|Cp rfl rfl (Bj (mk:=fun S=>.slice (some ⟨S,0,none⟩) 10 10) (t:=38) (cs:=[sV r 2,sV A 2,sV C 4,sV aa 4,sL (some ⟨o,0,none⟩) 2 2,sV ab 2,sV ad 2,sV ae 2,sL P f.length Q,sL a xs.length cap]) rfl fun _=>kr) (Az [9]) fun B=>?_
        refine A6 (i:=36) Aa<|B7 rfl rfl (Au [] [0,1,2,3,4,5,6,7,8,9] fun D c u=>(E8 [⟨r.a,(be 2 J),r.cap⟩,⟨A.a,(be 2 I),A.cap⟩,⟨C.a,(be 4 H),C.cap⟩,⟨aa.a,(be 4 G),aa.cap⟩,⟨some ⟨o,0,none⟩,[(ho f.length),fl],2⟩,⟨ab.a,(be 2 F),ab.cap⟩,⟨ad.a,(be 2 0),ad.cap⟩,⟨ae.a,(be 2 E),ae.cap⟩,⟨P,f,Q⟩,⟨a,xs,cap⟩] ((be 2 J)++(be 2 I)++(be 4 H)++(be 4 G)++[(ho f.length),fl]++(be 2 F)++(be 2 0)++(be 2 E)++f++xs) (some ⟨B,0,none⟩) 10 10 (2+2+4+4+2+2+2+2+f.length+xs.length) _ rfl (by simp[jn]) Mf (by first|exact A4 (i:=0) (j:=0) (t:=38) (b:=B) c rfl rfl|(rw[show mc Pg ([⟨r.a,(be 2 J),r.cap⟩,⟨A.a,(be 2 I),A.cap⟩,⟨C.a,(be 4 H),C.cap⟩,⟨aa.a,(be 4 G),aa.cap⟩,⟨some ⟨o,0,none⟩,[(ho f.length),fl],2⟩,⟨ab.a,(be 2 F),ab.cap⟩,⟨ad.a,(be 2 0),ad.cap⟩,⟨ae.a,(be 2 E),ae.cap⟩,⟨P,f,Q⟩,⟨a,xs,cap⟩]:List SV)=[sV r 2,sV A 2,sV C 4,sV aa 4,Value.slice (some ⟨o,0,none⟩) 2 2,sV ab 2,sV ad 2,sV ae 2,Value.slice P f.length Q,Value.slice a xs.length cap] by(simp[mc,Bc,B8];try omega)];exact A4 (i:=0) (j:=0) (t:=38) (b:=B) c rfl rfl)) (List.forall_mem_cons.2 ⟨(FS.at (i:=8) (t:=5) c rfl<|Ah N Fw),(List.forall_mem_cons.2 ⟨(FS.at (i:=7) (t:=5) c rfl<|Ah R Fw),(List.forall_mem_cons.2 ⟨(FS.at (i:=6) (t:=5) c rfl<|Ah T Fw),(List.forall_mem_cons.2 ⟨(FS.at (i:=4) (t:=5) c rfl<|Ah bl Fw),(List.forall_mem_cons.2 ⟨(A4 (i:=5) (j:=0) (t:=5) (b:=o) c rfl rfl),(List.forall_mem_cons.2 ⟨(FS.at (i:=3) (t:=5) c rfl<|Ah bm Fw),(List.forall_mem_cons.2 ⟨(FS.at (i:=2) (t:=5) c rfl<|Ah bn Fw),(List.forall_mem_cons.2 ⟨(FS.at (i:=1) (t:=5) c rfl<|Ah bo Fw),(List.forall_mem_cons.2 ⟨(a5.mem0 c),(List.forall_mem_cons.2 ⟨(a6.mem0 c),(fun _ h=>by cases h)⟩)⟩)⟩)⟩)⟩)⟩)⟩)⟩)⟩)⟩) K2 A7 A7)) (Az [10]) fun cl da=>?_
        obtain⟨db,dc⟩:=da
        refine Wa.ys (v:=sV cl<|2+2+4+4+2+2+2+2+f.length+xs.length) (i:=37) Aa Aa Aa Aa (fun _ x=>x.pick [10] An rfl) rfl rfl rfl (Ys.p)<|Ej Aa ?_
        refine fun D x=>V (r,A,C,aa,o,ab,ad,ae,B,cl) _ D ⟨N,Y,R,a1,T,a7,bl,c3,bm,c5,bn,c7,bo,c9,db,dc⟩ Aa<|x.pick [0,1,2,3,4,6,5,7,8,9,10] An rfl
      ·refine Cp rfl rfl (Bj (mk:=fun S=>.slice (some ⟨S,0,none⟩) 2 2) (t:=5) (cs:=(Q2j fl f)) rfl fun _=>kr) (Az [3]) fun o=>A6 (i:=11) Aa<|B7 rfl rfl (Au [] [0,1,2,3] fun D c u=>C7 4 H Ae _) (Az [4]) fun af dd=>?_
       obtain⟨bp,dg⟩:=dd
       refine A6 (i:=15) Aa<|B7 rfl rfl (Au [] [0,1,2,3,4] fun D c u=>C7 4 G Ae _) (Az [5]) fun ag dh=>?_
       obtain⟨bq,di⟩:=dh
       refine A6 (i:=25) Aa<|B7 rfl rfl (Au [] [0,1,2,3,4,5] fun D c u=>C7 2 F Ae _) (Az [6]) fun ah dj=>?_
       obtain⟨br,dk⟩:=dj
       refine A6 (i:=26) Aa<|B7 rfl rfl (Au [] [0,1,2,3,4,5,6] fun D c u=>C7 2 0 Ae _) (Az [7]) fun ai dl=>?_
       obtain⟨bs,dm⟩:=dl
       refine A6 (i:=30) Aa<|B7 rfl rfl (Au [] [0,1,2,3,4,5,6,7] fun D c u=>C7 2 E Ae _) (Az [8]) fun aj dn=>?_
       obtain⟨bt,dp⟩:=dn
       refine A6 (i:=35) Aa<|Cp rfl rfl (Bj (mk:=fun S=>.slice (some ⟨S,0,none⟩) 10 10) (t:=38) (cs:=[sV r 2,sV A 2,sV af 4,sV ag 4,sL (some ⟨o,0,none⟩) 2 2,sV ah 2,sV ai 2,sV aj 2,sL P f.length Q,sL a xs.length cap]) rfl fun _=>kr) (Az [9]) fun B=>?_
       refine A6 (i:=36) Aa<|B7 rfl rfl (Au [] [0,1,2,3,4,5,6,7,8,9] fun D c u=>(E8 [⟨r.a,(be 2 J),r.cap⟩,⟨A.a,(be 2 I),A.cap⟩,⟨af.a,(be 4 H),af.cap⟩,⟨ag.a,(be 4 G),ag.cap⟩,⟨some ⟨o,0,none⟩,[(ho f.length),fl],2⟩,⟨ah.a,(be 2 F),ah.cap⟩,⟨ai.a,(be 2 0),ai.cap⟩,⟨aj.a,(be 2 E),aj.cap⟩,⟨P,f,Q⟩,⟨a,xs,cap⟩] ((be 2 J)++(be 2 I)++(be 4 H)++(be 4 G)++[(ho f.length),fl]++(be 2 F)++(be 2 0)++(be 2 E)++f++xs) (some ⟨B,0,none⟩) 10 10 (2+2+4+4+2+2+2+2+f.length+xs.length) _ rfl (by simp[jn]) Mf (by first|exact A4 (i:=0) (j:=0) (t:=38) (b:=B) c rfl rfl|(rw[show mc Pg ([⟨r.a,(be 2 J),r.cap⟩,⟨A.a,(be 2 I),A.cap⟩,⟨af.a,(be 4 H),af.cap⟩,⟨ag.a,(be 4 G),ag.cap⟩,⟨some ⟨o,0,none⟩,[(ho f.length),fl],2⟩,⟨ah.a,(be 2 F),ah.cap⟩,⟨ai.a,(be 2 0),ai.cap⟩,⟨aj.a,(be 2 E),aj.cap⟩,⟨P,f,Q⟩,⟨a,xs,cap⟩]:List SV)=[sV r 2,sV A 2,sV af 4,sV ag 4,Value.slice (some ⟨o,0,none⟩) 2 2,sV ah 2,sV ai 2,sV aj 2,Value.slice P f.length Q,Value.slice a xs.length cap] by(simp[mc,Bc,B8];try omega)];exact A4 (i:=0) (j:=0) (t:=38) (b:=B) c rfl rfl)) (List.forall_mem_cons.2 ⟨(FS.at (i:=8) (t:=5) c rfl<|Ah N Fw),(List.forall_mem_cons.2 ⟨(FS.at (i:=7) (t:=5) c rfl<|Ah R Fw),(List.forall_mem_cons.2 ⟨(FS.at (i:=5) (t:=5) c rfl<|Ah bp Fw),(List.forall_mem_cons.2 ⟨(FS.at (i:=4) (t:=5) c rfl<|Ah bq Fw),(List.forall_mem_cons.2 ⟨(A4 (i:=6) (j:=0) (t:=5) (b:=o) c rfl rfl),(List.forall_mem_cons.2 ⟨(FS.at (i:=3) (t:=5) c rfl<|Ah br Fw),(List.forall_mem_cons.2 ⟨(FS.at (i:=2) (t:=5) c rfl<|Ah bs Fw),(List.forall_mem_cons.2 ⟨(FS.at (i:=1) (t:=5) c rfl<|Ah bt Fw),(List.forall_mem_cons.2 ⟨(a5.mem0 c),(List.forall_mem_cons.2 ⟨(a6.mem0 c),(fun _ h=>by cases h)⟩)⟩)⟩)⟩)⟩)⟩)⟩)⟩)⟩)⟩) K2 A7 A7)) (Az [10]) fun cm dq=>?_
       obtain⟨dr,ds⟩:=dq
       refine Wa.ys (v:=sV cm<|2+2+4+4+2+2+2+2+f.length+xs.length) (i:=37) Aa Aa Aa Aa (fun _ x=>x.pick [10] An rfl) rfl rfl rfl (Ys.p)<|Ej Aa ?_
       refine fun D x=>V (r,A,af,ag,o,ah,ai,aj,B,cm) _ D ⟨N,Y,R,a1,bp,dg,bq,di,br,dk,bs,dm,bt,dp,dr,ds⟩ Aa<|x.pick [0,1,2,3,4,7,5,6,8,9,10] An rfl
     ·refine Cp rfl rfl (Bj (mk:=fun S=>.slice (some ⟨S,0,none⟩) 2 2) (t:=5) (cs:=(Q2j fl f)) rfl fun _=>kr) (Az [2]) fun o=>A6 (i:=7) Aa<|B7 rfl rfl (Au [] [0,1,2] fun D c u=>C7 2 I Ae _) (Az [3]) fun al dt=>?_
      obtain⟨bu,du⟩:=dt
      refine A6 (i:=11) Aa<|B7 rfl rfl (Au [] [0,1,2,3] fun D c u=>C7 4 H Ae _) (Az [4]) fun am dv=>?_
      obtain⟨bw,dw⟩:=dv
      refine A6 (i:=15) Aa<|B7 rfl rfl (Au [] [0,1,2,3,4] fun D c u=>C7 4 G Ae _) (Az [5]) fun an dx=>?_
      obtain⟨bx,dy⟩:=dx
      refine A6 (i:=25) Aa<|B7 rfl rfl (Au [] [0,1,2,3,4,5] fun D c u=>C7 2 F Ae _) (Az [6]) fun ao dz=>?_
      obtain⟨bz,d0⟩:=dz
      refine A6 (i:=26) Aa<|B7 rfl rfl (Au [] [0,1,2,3,4,5,6] fun D c u=>C7 2 0 Ae _) (Az [7]) fun ap d1=>?_
      obtain⟨b0,d2⟩:=d1
      refine A6 (i:=30) Aa<|B7 rfl rfl (Au [] [0,1,2,3,4,5,6,7] fun D c u=>C7 2 E Ae _) (Az [8]) fun aq d3=>?_
      obtain⟨b1,d4⟩:=d3
      refine A6 (i:=35) Aa<|Cp rfl rfl (Bj (mk:=fun S=>.slice (some ⟨S,0,none⟩) 10 10) (t:=38) (cs:=[sV r 2,sV al 2,sV am 4,sV an 4,sL (some ⟨o,0,none⟩) 2 2,sV ao 2,sV ap 2,sV aq 2,sL P f.length Q,sL a xs.length cap]) rfl fun _=>kr) (Az [9]) fun B=>?_
      refine A6 (i:=36) Aa<|B7 rfl rfl (Au [] [0,1,2,3,4,5,6,7,8,9] fun D c u=>(E8 [⟨r.a,(be 2 J),r.cap⟩,⟨al.a,(be 2 I),al.cap⟩,⟨am.a,(be 4 H),am.cap⟩,⟨an.a,(be 4 G),an.cap⟩,⟨some ⟨o,0,none⟩,[(ho f.length),fl],2⟩,⟨ao.a,(be 2 F),ao.cap⟩,⟨ap.a,(be 2 0),ap.cap⟩,⟨aq.a,(be 2 E),aq.cap⟩,⟨P,f,Q⟩,⟨a,xs,cap⟩] ((be 2 J)++(be 2 I)++(be 4 H)++(be 4 G)++[(ho f.length),fl]++(be 2 F)++(be 2 0)++(be 2 E)++f++xs) (some ⟨B,0,none⟩) 10 10 (2+2+4+4+2+2+2+2+f.length+xs.length) _ rfl (by simp[jn]) Mf (by first|exact A4 (i:=0) (j:=0) (t:=38) (b:=B) c rfl rfl|(rw[show mc Pg ([⟨r.a,(be 2 J),r.cap⟩,⟨al.a,(be 2 I),al.cap⟩,⟨am.a,(be 4 H),am.cap⟩,⟨an.a,(be 4 G),an.cap⟩,⟨some ⟨o,0,none⟩,[(ho f.length),fl],2⟩,⟨ao.a,(be 2 F),ao.cap⟩,⟨ap.a,(be 2 0),ap.cap⟩,⟨aq.a,(be 2 E),aq.cap⟩,⟨P,f,Q⟩,⟨a,xs,cap⟩]:List SV)=[sV r 2,sV al 2,sV am 4,sV an 4,Value.slice (some ⟨o,0,none⟩) 2 2,sV ao 2,sV ap 2,sV aq 2,Value.slice P f.length Q,Value.slice a xs.length cap] by(simp[mc,Bc,B8];try omega)];exact A4 (i:=0) (j:=0) (t:=38) (b:=B) c rfl rfl)) (List.forall_mem_cons.2 ⟨(FS.at (i:=8) (t:=5) c rfl<|Ah N Fw),(List.forall_mem_cons.2 ⟨(FS.at (i:=6) (t:=5) c rfl<|Ah bu Fw),(List.forall_mem_cons.2 ⟨(FS.at (i:=5) (t:=5) c rfl<|Ah bw Fw),(List.forall_mem_cons.2 ⟨(FS.at (i:=4) (t:=5) c rfl<|Ah bx Fw),(List.forall_mem_cons.2 ⟨(A4 (i:=7) (j:=0) (t:=5) (b:=o) c rfl rfl),(List.forall_mem_cons.2 ⟨(FS.at (i:=3) (t:=5) c rfl<|Ah bz Fw),(List.forall_mem_cons.2 ⟨(FS.at (i:=2) (t:=5) c rfl<|Ah b0 Fw),(List.forall_mem_cons.2 ⟨(FS.at (i:=1) (t:=5) c rfl<|Ah b1 Fw),(List.forall_mem_cons.2 ⟨(a5.mem0 c),(List.forall_mem_cons.2 ⟨(a6.mem0 c),(fun _ h=>by cases h)⟩)⟩)⟩)⟩)⟩)⟩)⟩)⟩)⟩)⟩) K2 A7 A7)) (Az [10]) fun cn d5=>?_
      obtain⟨d6,d7⟩:=d5
      refine Wa.ys (v:=sV cn<|2+2+4+4+2+2+2+2+f.length+xs.length) (i:=37) Aa Aa Aa Aa (fun _ x=>x.pick [10] An rfl) rfl rfl rfl (Ys.p)<|Ej Aa ?_
      refine fun D x=>V (r,al,am,an,o,ao,ap,aq,B,cn) _ D ⟨N,Y,bu,du,bw,dw,bx,dy,bz,d0,b0,d2,b1,d4,d6,d7⟩ Aa<|x.pick [0,1,2,3,4,8,5,6,7,9,10] An rfl
    ·refine Cp rfl rfl (Bj (mk:=fun S=>.slice (some ⟨S,0,none⟩) 2 2) (t:=5) (cs:=(Q2j fl f)) rfl fun _=>kr) (Az [1]) fun o=>A6 (i:=3) Aa<|B7 rfl rfl (Au [] [0,1] fun D c u=>C7 2 J Ae _) (Az [2]) fun ar d8=>?_
     obtain⟨b3,d9⟩:=d8
     refine A6 (i:=7) Aa<|B7 rfl rfl (Au [] [0,1,2] fun D c u=>C7 2 I Ae _) (Az [3]) fun au ea=>?_
     obtain⟨b4,eb⟩:=ea
     refine A6 (i:=11) Aa<|B7 rfl rfl (Au [] [0,1,2,3] fun D c u=>C7 4 H Ae _) (Az [4]) fun av ec=>?_
     obtain⟨b5,ed⟩:=ec
     refine A6 (i:=15) Aa<|B7 rfl rfl (Au [] [0,1,2,3,4] fun D c u=>C7 4 G Ae _) (Az [5]) fun aw ee=>?_
     obtain⟨b6,ef⟩:=ee
     refine A6 (i:=25) Aa<|B7 rfl rfl (Au [] [0,1,2,3,4,5] fun D c u=>C7 2 F Ae _) (Az [6]) fun ax eg=>?_
     obtain⟨b7,eh⟩:=eg
     refine A6 (i:=26) Aa<|B7 rfl rfl (Au [] [0,1,2,3,4,5,6] fun D c u=>C7 2 0 Ae _) (Az [7]) fun ay ei=>?_
     obtain⟨b9,ej⟩:=ei
     refine A6 (i:=30) Aa<|B7 rfl rfl (Au [] [0,1,2,3,4,5,6,7] fun D c u=>C7 2 E Ae _) (Az [8]) fun az ek=>?_
     obtain⟨ca,el⟩:=ek
     refine A6 (i:=35) Aa<|Cp rfl rfl (Bj (mk:=fun S=>.slice (some ⟨S,0,none⟩) 10 10) (t:=38) (cs:=[sV ar 2,sV au 2,sV av 4,sV aw 4,sL (some ⟨o,0,none⟩) 2 2,sV ax 2,sV ay 2,sV az 2,sL P f.length Q,sL a xs.length cap]) rfl fun _=>kr) (Az [9]) fun B=>?_
     refine A6 (i:=36) Aa<|B7 rfl rfl (Au [] [0,1,2,3,4,5,6,7,8,9] fun D c u=>(E8 [⟨ar.a,(be 2 J),ar.cap⟩,⟨au.a,(be 2 I),au.cap⟩,⟨av.a,(be 4 H),av.cap⟩,⟨aw.a,(be 4 G),aw.cap⟩,⟨some ⟨o,0,none⟩,[(ho f.length),fl],2⟩,⟨ax.a,(be 2 F),ax.cap⟩,⟨ay.a,(be 2 0),ay.cap⟩,⟨az.a,(be 2 E),az.cap⟩,⟨P,f,Q⟩,⟨a,xs,cap⟩] ((be 2 J)++(be 2 I)++(be 4 H)++(be 4 G)++[(ho f.length),fl]++(be 2 F)++(be 2 0)++(be 2 E)++f++xs) (some ⟨B,0,none⟩) 10 10 (2+2+4+4+2+2+2+2+f.length+xs.length) _ rfl (by simp[jn]) Mf (by first|exact A4 (i:=0) (j:=0) (t:=38) (b:=B) c rfl rfl|(rw[show mc Pg ([⟨ar.a,(be 2 J),ar.cap⟩,⟨au.a,(be 2 I),au.cap⟩,⟨av.a,(be 4 H),av.cap⟩,⟨aw.a,(be 4 G),aw.cap⟩,⟨some ⟨o,0,none⟩,[(ho f.length),fl],2⟩,⟨ax.a,(be 2 F),ax.cap⟩,⟨ay.a,(be 2 0),ay.cap⟩,⟨az.a,(be 2 E),az.cap⟩,⟨P,f,Q⟩,⟨a,xs,cap⟩]:List SV)=[sV ar 2,sV au 2,sV av 4,sV aw 4,Value.slice (some ⟨o,0,none⟩) 2 2,sV ax 2,sV ay 2,sV az 2,Value.slice P f.length Q,Value.slice a xs.length cap] by(simp[mc,Bc,B8];try omega)];exact A4 (i:=0) (j:=0) (t:=38) (b:=B) c rfl rfl)) (List.forall_mem_cons.2 ⟨(FS.at (i:=7) (t:=5) c rfl<|Ah b3 Fw),(List.forall_mem_cons.2 ⟨(FS.at (i:=6) (t:=5) c rfl<|Ah b4 Fw),(List.forall_mem_cons.2 ⟨(FS.at (i:=5) (t:=5) c rfl<|Ah b5 Fw),(List.forall_mem_cons.2 ⟨(FS.at (i:=4) (t:=5) c rfl<|Ah b6 Fw),(List.forall_mem_cons.2 ⟨(A4 (i:=8) (j:=0) (t:=5) (b:=o) c rfl rfl),(List.forall_mem_cons.2 ⟨(FS.at (i:=3) (t:=5) c rfl<|Ah b7 Fw),(List.forall_mem_cons.2 ⟨(FS.at (i:=2) (t:=5) c rfl<|Ah b9 Fw),(List.forall_mem_cons.2 ⟨(FS.at (i:=1) (t:=5) c rfl<|Ah ca Fw),(List.forall_mem_cons.2 ⟨(a5.mem0 c),(List.forall_mem_cons.2 ⟨(a6.mem0 c),(fun _ h=>by cases h)⟩)⟩)⟩)⟩)⟩)⟩)⟩)⟩)⟩)⟩) K2 A7 A7)) (Az [10]) fun co em=>?_
     obtain⟨en,eo⟩:=em
     refine Wa.ys (v:=sV co<|2+2+4+4+2+2+2+2+f.length+xs.length) (i:=37) Aa Aa Aa Aa (fun _ x=>x.pick [10] An rfl) rfl rfl rfl (Ys.p)<|Ej Aa ?_
     refine fun D x=>V (ar,au,av,aw,o,ax,ay,az,B,co) _ D ⟨b3,d9,b4,eb,b5,ed,b6,ef,b7,eh,b9,ej,ca,el,en,eo⟩ Aa<|x.pick [0,1,2,3,4,9,5,6,7,8,10] An rfl
   ·obtain⟨gx,gy,gz,g0,o,g1,g2,g3,B,bf⟩:=l
    refine A9 ?_
    obtain⟨f8,f9,ga,gb,gd,gg,gh,gi,gj,gk,gl,gm,gn,go,cp,fv⟩:=e0
    refine Av<|Ab 5<|Aw rfl (Au [] [0,1,2,3,4,5,6,7,8,9,10] fun D c u=>(N0 s d (6:UInt8) (2+2+4+4+2+2+2+2+f.length+xs.length) _ Ae Ae Ae)) fun a3 ep=>Ab 1 ?_
    refine Af rfl (Bj (mk:=fun S=>.slice (some ⟨S,0,none⟩) 2 2) (t:=38) (cs:=[sV a3 12,sV bf (2+2+4+4+2+2+2+2+f.length+xs.length)]) rfl fun _=>kr) fun er=>?_
    have f4:=M0 (((Fa s d (6:UInt8) (2+2+4+4+2+2+2+2+f.length+xs.length))++((be 2 J)++(be 2 I)++(be 4 H)++(be 4 G)++[(ho f.length),fl]++(be 2 F)++(be 2 0)++(be 2 E)++f++xs)))
    refine Cb (v:=nV .u16<|E3<|(Fa s d (6:UInt8)<|2+2+4+4+2+2+2+2+f.length+xs.length)++((be 2 J)++(be 2 I)++(be 4 H)++(be 4 G)++[(ho f.length),fl]++(be 2 F)++(be 2 0)++(be 2 E)++f++xs)) (A8 fun D c=>(Ul [⟨a3.a,(Fa s d (6:UInt8)<|2+2+4+4+2+2+2+2+f.length+xs.length),a3.cap⟩,⟨bf.a,((be 2 J)++(be 2 I)++(be 4 H)++(be 4 G)++[(ho f.length),fl]++(be 2 F)++(be 2 0)++(be 2 E)++f++xs),bf.cap⟩] ((Fa s d (6:UInt8)<|2+2+4+4+2+2+2+2+f.length+xs.length)++((be 2 J)++(be 2 I)++(be 4 H)++(be 4 G)++[(ho f.length),fl]++(be 2 F)++(be 2 0)++(be 2 E)++f++xs)) (some ⟨er,0,none⟩) 2 2 (12+(2+2+4+4+2+2+2+2+f.length+xs.length)) _ rfl (by simp[jn]) Mf (by first|exact A4 (i:=0) (j:=0) (t:=38) (b:=er) c rfl rfl|(rw[show mc Pg ([⟨a3.a,(Fa s d (6:UInt8)<|2+2+4+4+2+2+2+2+f.length+xs.length),a3.cap⟩,⟨bf.a,((be 2 J)++(be 2 I)++(be 4 H)++(be 4 G)++[(ho f.length),fl]++(be 2 F)++(be 2 0)++(be 2 E)++f++xs),bf.cap⟩]:List SV)=[sV a3 12,sV bf (2+2+4+4+2+2+2+2+f.length+xs.length)] by(simp[mc,Bc,B8];try omega)];exact A4 (i:=0) (j:=0) (t:=38) (b:=er) c rfl rfl)) (List.forall_mem_cons.2 ⟨(FS.at (i:=1) (t:=5) c rfl<|Ah ep<|by rw[Du,B8]),(List.forall_mem_cons.2 ⟨(FS.at (i:=2) (t:=5) c rfl<|Ah cp Ob),(fun _ h=>by cases h)⟩)⟩) K2 A7 A7))<|Aw rfl (Au [2] [0,1,3,4,5,6,7,8,9,10,11,12] fun D c u=>(Ku bf ((be 2 J)++(be 2 I)++(be 4 H)++(be 4 G)++[(ho f.length),fl]++(be 2 F)++(be 2 0)++(be 2 E)++f++xs) (2+2+4+4+2+2+2+2+f.length+xs.length) 16 (E3<|(Fa s d (6:UInt8)<|2+2+4+4+2+2+2+2+f.length+xs.length)++((be 2 J)++(be 2 I)++(be 4 H)++(be 4 G)++[(ho f.length),fl]++(be 2 F)++(be 2 0)++(be 2 E)++f++xs)) _ _ Z5 u cp (fv A7) O9 O9 Ae)) fun cq es=>?_
    obtain⟨et,f5⟩:=es
    refine Ab 2<|Ai<|Al [0] An rfl<|Am rfl ?_
    have hE:tE f.length xs.length=0:=by unfold tE;rw[if_neg Ae,if_neg Ae]
    have fy:((be 2 J)++(be 2 I)++(be 4 H)++(be 4 G)++[(ho f.length),fl]++(be 2 F)++(be 2 0)++(be 2 E)++f++xs)=tX J I H G fl F 0 E f xs:=Ams J I H G fl F 0 E f xs
    have f6:2+2+4+4+2+2+2+2+f.length+xs.length=20+(f.length+xs.length):=by omega
    have f7:(E3 ((Fa s d (6:UInt8) (2+2+4+4+2+2+2+2+f.length+xs.length))++((be 2 J)++(be 2 I)++(be 4 H)++(be 4 G)++[(ho f.length),fl]++(be 2 F)++(be 2 0)++(be 2 E)++f++xs)))=tC s d J I H G fl F E f xs:=by unfold tC;rw[f6,fy]
    have hB:tB s d J I H G fl F E f xs=Iw ((be 2 J)++(be 2 I)++(be 4 H)++(be 4 G)++[(ho f.length),fl]++(be 2 F)++(be 2 0)++(be 2 E)++f++xs) 16 (E3 ((Fa s d (6:UInt8) (2+2+4+4+2+2+2+2+f.length+xs.length))++((be 2 J)++(be 2 I)++(be 4 H)++(be 4 G)++[(ho f.length),fl]++(be 2 F)++(be 2 0)++(be 2 E)++f++xs))):=by rw[f7,fy,Ai0];unfold tB;rw[if_neg Ae,if_neg Ae]
    have hn:(tB s d J I H G fl F E f xs).length=2+2+4+4+2+2+2+2+f.length+xs.length:=by rw[Amt Ae Ae];first|done|omega
    exact E2 rfl (Ar<|sV cq<|2+2+4+4+2+2+2+2+f.length+xs.length) (Ar<|iV .i64 0) fun D bi=>⟨cq,(by rw[hn];exact et),Eo<|(by rw[hn,hE]),(Mem.cast (by rw[hB];rfl)<|bi.pick [0] An rfl)⟩
theorem Ai2(s d c e f h:Nat)(fl:UInt8)(i j:Nat)(b xs:List UInt8)(l a:Option Addr)(n cap:Nat)(x A:Nat)(w:World)(B:x=b.length)(C:A=xs.length)(o:At w l (Cx b))(q:At w a (Cx xs))(D:s<4294967296)(E:d<4294967296)(F:c<65536)(G:e<65536)(H:f<4294967296)(I:h<4294967296)(hw:i<65536)(J:j<65536)(r:b.length≤1000000000000000)(L:xs.length≤1000000000000000)(t:b.length≤n)(u:xs.length≤cap):Calls prog 92 #[.int .u32 (s:Int),.int .u32 (d:Int),Value.agg ([Value.int .u16 (c:Int),Value.int .u16 (e:Int),Value.int .u32 (f:Int),Value.int .u32 (h:Int),Value.int .u8 (fl.toNat:Int),Value.int .u16 (i:Int),Value.int .u16 (j:Int),sL l x n,sL a A cap]).toArray] w (Bn w (fun g:FS=>g.ok 1 (tB s d c e f h fl i j b xs).length) (fun g=>.tuple #[.slice g.a (tB s d c e f h fl i j b xs).length g.cap,.int .i64 (tE b.length xs.length)]) [] (fun g=>[g.seg 5 (Cx (tB s d c e f h fl i j b xs))])):=by
  subst B;subst C;exact Amu s d c e f h fl i j b xs l a n cap w o q D E F G H I hw J r L t u
structure Told(pr:UInt8)(s d:Nat)(xs Z:List UInt8):Prop where
  c:inC Z=false
  p:Z.getD 9 0=pr
  s:a4 Z 12=s
  d:a4 Z 16=d
  f:w2 Z 20=w2 xs 0
  t:w2 Z 22=w2 xs 2
  k:Z.getD 20 0=xs.getD 0 0
  o:Z.getD 21 0=xs.getD 1 0
  i:w2 Z 24=w2 xs 4
theorem Aj1{xs:List UInt8}(h:mR xs=0):mg xs=true∧8≤xs.length:=by
  refine⟨by unfold mg;rw[h];rfl,?_⟩
  by_cases b:xs.length<8
  · unfold mR at h;rw[if_pos b]at h;cases h
  · omega
theorem Aj2{xs:List UInt8}(h:mR xs=0)(k:Nat):mT xs k=xs.getD k 0:=by unfold mT;rw[(Aj1 h).1];rfl
inductive Goes(pr:UInt8)(s d:Nat)(xs:List UInt8):Prop
  |tcp (h6:pr=6) (hR:tR s d xs=0) (h8:20≤xs.length)
  |udp (h17:pr=17) (hR:uR s d xs=0) (h8:8≤xs.length)
  |query (h1:pr=1) (hR:mR xs=0) (hQ:Wt (xs.getD 0 0) (xs.getD 1 0)=true) (hm:M8 xs=true) (h8:8≤xs.length)
  |err (h1:pr=1) (hR:mR xs=0) (hE:Mj xs=true) (hm:M8 xs=false) (h8:8≤xs.length)
theorem Ai3{pr:UInt8}{s d:Nat}{xs:List UInt8}(h:Kd pr s d xs=0):Goes pr s d xs:=by
  unfold Kd at h
  cases f:Ir pr
  · cases c:Oz pr
    · cases i:isI pr
      · rw[f,c,i]at h;cases h
      · have l:pr=1:=UInt8.toNat_inj.1 (by have g:(((pr.toNat:Nat):Int)==1)=true:=i;have n:=beq_iff_eq.1 g;show pr.toNat=1;omega)
        rw[f,c,i]at h
        have h:Sm xs=0:=h
        have b:mR xs=0:=by
          unfold Sm at h;by_cases b:mR xs=0
          · exact b
          · rw[show(mR xs==0)=false from beq_eq_false_iff_ne.2 b]at h;exact h
        have o:=Aj1 b
        cases e:M8 xs
        · cases q:Mj xs
          · unfold Sm at h;rw[b,e,q]at h;cases h
          · exact .err l b q e o.2
        · refine .query l b ?_ e o.2
          unfold M8 at e;rw[b,Aj2 b,Aj2 b]at e;simpa using e
    · rw[f,c]at h
      refine .udp (UInt8.toNat_inj.1 (by have g:(((pr.toNat:Nat):Int)==17)=true:=c;have n:=beq_iff_eq.1 g;show pr.toNat=17;omega)) h ?_
      by_cases j:xs.length<8
      · simp only[cond_true,cond_false]at h;unfold uR at h;rw[if_pos j]at h;cases h
      · omega
  · rw[f]at h
    refine .tcp (UInt8.toNat_inj.1 (by have g:(((pr.toNat:Nat):Int)==6)=true:=f;have n:=beq_iff_eq.1 g;show pr.toNat=6;omega)) h ?_
    by_cases j:xs.length<20
    · simp only[cond_true,cond_false]at h;unfold tR at h;rw[if_pos j]at h;cases h
    · omega
theorem U0{pr:UInt8}{s d:Nat}{xs:List UInt8}(h:Kd pr s d xs=0):N9 pr s d xs=true:=by unfold N9;rw[h];rfl
theorem Goes.le{pr:UInt8}{s d:Nat}{xs:List UInt8}(h:Goes pr s d xs):8≤xs.length:=by cases h<;>omega
theorem U1(s d:Nat)(xs:List UInt8)(k:Nat):tF s d xs k<65536:=by
  unfold tF;cases tg s d xs
  · show(0:Nat)<_;decide
  · exact Eu xs k
theorem Ae4(s d:Nat)(xs:List UInt8)(k:Nat):tW s d xs k<4294967296:=by
  unfold tW;cases tg s d xs
  · show(0:Nat)<_;decide
  · exact Zy xs k
theorem Ai4(s d:Nat)(xs:List UInt8):tE (tO s d xs).length (tD s d xs).length=0:=by
  cases c:tg s d xs
  · unfold tO tD;rw[c];rfl
  · have b:tR s d xs=0:=by unfold tg at c;simpa using c
    unfold tR at b
    split at b
    · cases b
    · split at b
      · cases b
      · split at b
        · cases b
        · rename_i f g h
          have i:=UInt8.toNat_lt (xs.getD 12 0)
          have j:tK xs=4*((xs.getD 12 0).toNat/16):=rfl
          have ho:(tO s d xs).length=tK xs-20:=by unfold tO;rw[c];simp only[cond_true,List.length_take,List.length_drop];omega
          have e:(tD s d xs).length=xs.length-tK xs:=by unfold tD;rw[c];simp only[cond_true,List.length_drop]
          rw[ho,e];unfold tE;rw[if_neg Ae,if_neg Ae]
theorem Ai5(s d:Nat)(xs:List UInt8):uE (uD s d xs).length=0:=by
  cases c:ug s d xs
  · unfold uD;rw[c];rfl
  · have b:uR s d xs=0:=by unfold ug at c;simpa using c
    unfold uR at b
    split at b
    · cases b
    · split at b
      · cases b
      · have:(uD s d xs).length≤xs.length-8:=by unfold uD;rw[c];simp only[cond_true,List.length_take,List.length_drop];omega
        unfold uE;rw[if_neg Ae]
theorem U2(xs:List UInt8):uE (mD xs).length=0:=by
  cases c:mg xs
  · unfold mD;rw[c];rfl
  · have b:mR xs=0:=by unfold mg at c;simpa using c
    unfold mR at b
    split at b
    · cases b
    · split at b
      · cases b
      · have:(mD xs).length=xs.length-8:=by unfold mD;rw[c];simp only[cond_true,List.length_drop]
        unfold uE;rw[if_neg Ae]
theorem Amv(s d:Nat)(xs:List UInt8):(tO s d xs).length≤xs.length:=by
  unfold tO;cases tg s d xs
  · simp
  · simp only[cond_true,List.length_take,List.length_drop];omega
theorem Amw(s d:Nat)(xs:List UInt8):(tD s d xs).length≤xs.length:=by
  unfold tD;cases tg s d xs
  · simp
  · simp only[cond_true,List.length_drop];omega
theorem Amx(s d:Nat)(xs:List UInt8):(uD s d xs).length≤xs.length:=by
  unfold uD;cases ug s d xs
  · simp
  · simp only[cond_true,List.length_take,List.length_drop];omega
def Vf(pr:UInt8)(s d:Nat)(xs:List UInt8)(b:UInt8):Bool:= !(Kd pr s d xs !=0)&& !(((b.toNat:Nat):Int) !=((Hs pr s d xs).toNat:Int))
def Zz(pr:UInt8)(s d:Nat)(xs:List UInt8)(b:UInt8):Int:=bif Kd pr s d xs !=0 then Kd pr s d xs else bif (b.toNat:Int) !=((Hs pr s d xs).toNat:Int)then 1 else 0
def rId(n i:Nat):Nat:=n%65536|||i*65536%4294967296
def X8(pr:UInt8)(s d:Nat)(xs:List UInt8)(f:UInt8)(e fd b c:Nat):List UInt8:=
  bif Vf pr s d xs f then(bif Ir pr then tB e fd b c (tW s d xs 4) (tW s d xs 8) (tL s d xs) (tF s d xs 14) (tF s d xs 18) (tO s d xs) (tD s d xs)else
    bif Oz pr then uB e fd b c (uP s d xs) (uD s d xs)else mB (mT xs 0) (mT xs 1) (rId (mN xs) (bif !(Mh (mT xs 0))then c else b)) (mD xs))else []
theorem Ae5(s d:Nat)(xs:List UInt8)(k:Nat):uF s d xs k<65536:=by
  unfold uF;cases ug s d xs
  · show(0:Nat)<_;decide
  · exact Eu xs k
theorem Ae6(xs:List UInt8):msI xs<65536:=by unfold msI;omega
theorem Ae7(pr:UInt8)(s d:Nat)(xs:List UInt8):Jd pr s d xs<65536:=by
  unfold Jd S2
  have b:=U1 s d xs 0;have c:=Ae5 s d xs 0;have e:=Amm (mD xs);have f:=Ae6 xs
  cases N9 pr s d xs<;>cases Ir pr<;>cases Oz pr<;>cases Mj xs<;>cases M8 xs<;>simp only[cond_true,cond_false]<;>first|omega|exact Ux Ae Ae
theorem X9(pr:UInt8)(s d:Nat)(xs:List UInt8):Je pr s d xs<65536:=by
  unfold Je S3
  have b:=U1 s d xs 2;have c:=Ae5 s d xs 2;have e:=Aml (mD xs);have f:=Ae6 xs
  cases N9 pr s d xs<;>cases Ir pr<;>cases Oz pr<;>cases Mj xs<;>cases M8 xs<;>simp only[cond_true,cond_false]<;>first|omega|exact Ux Ae Ae
theorem Ae8{pr:UInt8}{s d:Nat}{xs:List UInt8}(b:s<4294967296):Gf pr s d xs<4294967296:=by
  unfold Gf Mk
  have c:=Ae2 (mD xs) 16
  cases N9 pr s d xs<;>cases Ir pr<;>cases Oz pr<;>cases Mj xs<;>simp only[cond_true,cond_false]<;>omega
theorem Ae9{pr:UInt8}{s d:Nat}{xs:List UInt8}(b:d<4294967296):Gn pr s d xs<4294967296:=by
  unfold Gn Mk
  have c:=Ae2 (mD xs) 12
  cases N9 pr s d xs<;>cases Ir pr<;>cases Oz pr<;>cases Mj xs<;>simp only[cond_true,cond_false]<;>omega
structure Ends(pr:UInt8)(s d:Nat)(xs:List UInt8)(k:Int)(fr to:Nat):Prop where
  ee:Kd pr s d xs=0
  ek:H1 pr s d xs=k
  ep:Hs pr s d xs=pr
  es:Gf pr s d xs=s
  ed:Gn pr s d xs=d
  ef:Jd pr s d xs=fr
  et:Je pr s d xs=to
theorem App{s d c e:Nat}{xs:List UInt8}(g:tR s d xs=0)(h:tF s d xs 0=c)(i:tF s d xs 2=e):Ends 6 s d xs 1 c e:=by
  have f:Kd 6 s d xs=0:=g
  have b:=U0 f
  exact⟨f,by unfold H1;rw[b];rfl,by unfold Hs;rw[b];rfl,by unfold Gf;rw[b];rfl,by unfold Gn;rw[b];rfl,by unfold Jd;rw[b];exact h,by unfold Je;rw[b];exact i⟩
theorem Apq{s d c e:Nat}{xs:List UInt8}(g:uR s d xs=0)(h:uF s d xs 0=c)(i:uF s d xs 2=e):Ends 17 s d xs 1 c e:=by
  have f:Kd 17 s d xs=0:=g
  have b:=U0 f
  exact⟨f,by unfold H1;rw[b];rfl,by unfold Hs;rw[b];rfl,by unfold Gf;rw[b];rfl,by unfold Gn;rw[b];rfl,by unfold Jd;rw[b];exact h,by unfold Je;rw[b];exact i⟩
theorem Amy{s d:Nat}{xs:List UInt8}(f:mR xs=0)(g:Wt (mT xs 0) (mT xs 1)=true):Ends 1 s d xs 2 (Sr (Mh (mT xs 0)) (msI xs) 0) (Sr (Mh (mT xs 0)) 0 (msI xs)):=by
  have e:M8 xs=true:=by unfold M8;rw[f,g];rfl
  have c:Mj xs=false:=by unfold Mj;rw[f,g];rfl
  have h:Kd 1 s d xs=0:=by show Sm xs=0;unfold Sm;rw[f,e];rfl
  have b:=U0 h
  refine⟨h,?_,?_,?_,?_,?_,?_⟩
  · unfold H1;rw[b];show Ve xs=2;unfold Ve;rw[e];rfl
  · unfold Hs;rw[b];show Kb 1 xs=_;unfold Kb;rw[c];rfl
  · unfold Gf;rw[b];show Mk s 16 xs=_;unfold Mk;rw[c];rfl
  · unfold Gn;rw[b];show Mk d 12 xs=_;unfold Mk;rw[c];rfl
  · unfold Jd;rw[b];show S2 0 xs=_;unfold S2;rw[c,e];rfl
  · unfold Je;rw[b];show S3 0 xs=_;unfold S3;rw[c,e];rfl
abbrev Q2k(b:Nat):List Blk:=[cb b Oc 40]
abbrev Q2l(d s:Nat)(pr:UInt8)(xs:List UInt8):List Value:=[nV .u8 ((Hs pr s d xs).toNat),nV .u32 (Gf pr s d xs),nV .u32 (Gn pr s d xs),nV .u16 (Jd pr s d xs),nV .u16 (Je pr s d xs)]
abbrev Q2m:List Value:=Oc
theorem Apr(tt pr:UInt8)(B s d:Nat)(xs:List UInt8)(a:Option Addr)(cap:Nat)(o:UInt8)(j fd f h:Nat)(w:World)(hk:H1 pr s d xs≠3)(b7:j<4294967296)(b9:fd<4294967296)(ca:f<65536)(cc:h<65536)(P:At w a (Cx xs))(hi:B<65536)(hs:s<4294967296)(hd:d<4294967296)(hl:xs.length≤100000)(cd:xs.length≤cap):Calls prog 45 #[aV [nV .u8 tt.toNat,nV .u8 pr.toNat,nV .u16 B,nV .u32 s,nV .u32 d,sL a xs.length cap],aV [nV .u8 o.toNat,nV .u32 j,nV .u32 fd,nV .u16 f,nV .u16 h]] w (Bn w (fun g:FS=>g.ok 1 (X8 pr s d xs o j fd f h).length) (fun g=>.tuple #[.agg ([nV .u8 ((anU (Vf pr s d xs o) tt).toNat),nV .u8 ((anU (Vf pr s d xs o) pr).toNat),nV .u16 (anN (Vf pr s d xs o) B),nV .u32 (anN (Vf pr s d xs o) j),nV .u32 (anN (Vf pr s d xs o) fd),sV g ((X8 pr s d xs o j fd f h).length)]).toArray,.int .i64 (Zz pr s d xs o)]) [] (fun g=>[g.seg 5 (Cx (X8 pr s d xs o j fd f h))])):=by
 have bu:=Aes xs;have bw:=Ae0 xs;have bj:=U1 s d xs 14;have bk:=U1 s d xs 18;have bx:=Ae4 s d xs 4;have bz:=Ae4 s d xs 8;have b0:=Amv s d xs;have b1:=Amw s d xs;have b3:=Amx s d xs
 refine Ap (M:=[]) (LL:=[]) (n:=167) func45 rfl rfl A7 (Mem.refl _)<|W.s ?_
 refine Ac<|Af rfl (Bx [nV .u8 tt.toNat,nV .u8 pr.toNat,nV .u16 B,nV .u32 s,nV .u32 d,sL a xs.length cap] rfl) fun U=>?_
 refine Af rfl (Bx [nV .u8 o.toNat,nV .u32 j,nV .u32 fd,nV .u16 f,nV .u16 h] rfl) fun p3=>Af rfl (Ba zeroValue40) fun C=>?_
 refine Ab 1<|Ai<|Av ?_
 refine A5 1 [(2,0)]<|Cb (v:=Value.tuple #[aV (Q2l d s pr xs),iV .i64<|H1 pr s d xs,iV .i64 (Kd pr s d xs)]) (A8 fun D l=>(Aj0 tt pr B s d xs a cap xs.length _ K1 (P.mem0 l) Tr Tr Tr Ey Ey))<|Ab 4<|Af rfl (Ba zeroValue47) fun p6=>Af rfl (A0 p6 0 0 0 (Q2l d s pr xs) sizeOf47 rfl rfl) fun _=>?_
 refine Ab 2<|Ai<|W.s<|W.block ?_
 refine Aj [] ?_
 refine Ak ((Kd pr s d xs) !=0) Aa (fun h8=>?_) fun J=>?_
 ·have bm:=h8;try simp only[zA]at bm
  refine Av<|Ab 2<|Af rfl (A0 C 0 1 0 Q2m sizeOf40 rfl rfl) fun _=>Ab 1 ?_
  refine Ai<|Al [1] An rfl<|Am rfl ?_
  have A:Vf pr s d xs o=false:=by unfold Vf;rw[h8];rfl
  have L:Zz pr s d xs o=Kd pr s d xs:=by unfold Zz;rw[h8];rfl
  have r:X8 pr s d xs o j fd f h=[]:=by unfold X8;rw[A];rfl
  exact E2 rfl (Bu C 0 0 0 Oc isAgg40 sizeOf40) (Ar<|iV .i64<|Kd pr s d xs) fun D u=>⟨FS.nul,(by rw[r];exact B6 1),Eo<|(by rw[r,A,L];rfl),(Mem.cast (by rw[r];rfl)<|Mem.push<|u.pick [] An rfl)⟩
 ·have bn:=J;try simp only[zA]at bn
  refine Aj [(2,0),(0,0)] ?_
  refine Ak (((o.toNat:Nat):Int) !=((Hs pr s d xs).toNat:Int)) Aa (fun ab=>?_) fun x=>?_
  ·have aq:=ab;try simp only[zA]at aq
   refine Av<|Ab 1<|Af rfl (A0 C 0 1 0 Q2m sizeOf40 rfl rfl) fun _=>Ab 1 ?_
   refine Ai<|Al [1] An rfl<|Am rfl ?_
   have A:Vf pr s d xs o=false:=by unfold Vf;rw[J,ab];rfl
   have L:Zz pr s d xs o=1:=by unfold Zz;rw[J,ab];rfl
   have r:X8 pr s d xs o j fd f h=[]:=by unfold X8;rw[A];rfl
   exact E2 rfl (Bu C 0 0 0 Oc isAgg40 sizeOf40) (Ar<|iV .i64 1) fun D u=>⟨FS.nul,(by rw[r];exact B6 1),Eo<|(by rw[r,A,L];rfl),(Mem.cast (by rw[r];rfl)<|Mem.push<|u.pick [] An rfl)⟩
  ·have ar:=x;try simp only[zA]at ar
   refine Ag<|A9<|W.s<|C5 [(0,true),(1,true),(2,true),(3,true),(4,true),(5,true),(6,false),(7,false),(8,false)] [0,1,2,3,4,5]<|Bs 9 [(3,0),(3,0),(3,0)] ?_
   refine Cl<|W.s<|Av ?_
   refine Ab 3<|C1 4 ((H1 pr s d xs) !=3) (fun _=>Gs.z [(0,0)])<|Ao (v:=bV<|((H1 pr s d xs) !=3)||(((s:Nat):Int)==(Gf pr s d xs:Int))) (Ce (e:=(H1 pr s d xs) !=3) (b:=(s:Int)==(Gf pr s d xs:Int)) rfl Aa Aa Aa)<|Ai ?_
   refine Ak (((H1 pr s d xs) !=3)||(((s:Nat):Int)==(Gf pr s d xs:Int))) Aa (fun bo=>?_) fun ad=>?_
   ·have au:=bo;try simp only[zA]at au
    refine Ac<|A5 3 [(2,0)]<|Af rfl (Bd U 3 3 0 (nV .u32 j) sizeOf24 rfl rfl) fun _=>Ai ?_
    refine W.s<|W.s ?_
    refine Ac<|Ab 3<|C1 4 ((H1 pr s d xs) !=3) (fun _=>Gs.z [(0,0)])<|Ao (v:=bV<|((H1 pr s d xs) !=3)||(((d:Nat):Int)==(Gn pr s d xs:Int))) (Ce (e:=(H1 pr s d xs) !=3) (b:=(d:Int)==(Gn pr s d xs:Int)) rfl Aa Aa Aa)<|Ay ?_
    refine A9 ?_
    refine Ak (((H1 pr s d xs) !=3)||(((d:Nat):Int)==(Gn pr s d xs:Int))) Aa (fun bp=>?_) fun ae=>?_
    ·have av:=bp;try simp only[zA]at av
     refine Ac<|A5 3 [(2,0)]<|Af rfl (Bd U 4 3 0 (nV .u32 fd) sizeOf24 rfl rfl) fun _=>Ai ?_
     refine W.s<|Aj [(3,0)]<|W.block<|Aj [] ?_
     refine Ak (((pr.toNat:Nat):Int)==6) Aa (fun aw=>?_) fun Q=>?_
     ·have ax:=aw;try simp only[zA]at ax
      refine Av<|Ab 3<|Aw rfl (Au [] [0,1,2,3] fun D l I=>(Uz s d xs a cap xs.length _ K1 (P.mem0 l) Ae Ae Fp Fp)) fun q ay=>?_
      obtain⟨V,X⟩:=ay
      refine Ab 3<|Af rfl (Ba zeroValue126) fun af=>?_
      refine Af rfl (A0 af 0 0 0 [nV .u16 (tF s d xs 0),nV .u16<|tF s d xs 2,nV .u32<|tW s d xs 4,nV .u32<|tW s d xs 8,nV .u8<|(tL s d xs).toNat,nV .u16<|tF s d xs 14,nV .u16<|tF s d xs 18,sL q.1.a ((tO s d xs).length) q.1.cap,sL q.2.a ((tD s d xs).length) q.2.cap] sizeOf126 rfl rfl) fun _=>Ab 1<|Ai<|Al [0,1,2,4,5,6] An rfl ?_
      refine W.s<|B3 [(0,true),(1,true),(2,true),(3,true),(4,false),(5,false),(6,false),(7,false)] [0,1,2,3] (Mem w [] [q.1.seg 5 (mc b8<|tO s d xs),q.2.seg 5<|mc b8<|tD s d xs,Q2k C,[cb p3 [nV .u8 o.toNat,nV .u32 j,nV .u32 fd,nV .u16 f,nV .u16 h] 47],[cb U [nV .u8 tt.toNat,nV .u8 pr.toNat,nV .u16 B,nV .u32 j,nV .u32 fd,sL a xs.length cap] 40]]) Aa Aa Aa rfl Aa (fun _ _ h_=>h_.drawn _) (fun _ h_=>h_.pick [1,2,3,4,5] An rfl)<|Wd.mp 5 [(3,0),(3,0)] [1,2,3,4,5]<|Cj rfl rfl (Bd af 0 0 0 (nV .u16 f) sizeOf22 rfl rfl) (Az [1,2,3,4,5]) fun _=>Dh 1 [] ?_
      refine Cj rfl rfl (Bd af 1 0 0 (nV .u16 h) sizeOf22 rfl rfl) (.inl Aa) fun _=>Cl<|Al [0,1,2,3,5] An rfl<|Ac ?_
      refine A5 5 [(4,0),(4,0),(0,0)] ?_
      have b5:=Apo j fd f h (tW s d xs 4) (tW s d xs 8) (tL s d xs) (tF s d xs 14) (tF s d xs 18) (tO s d xs) (tD s d xs)
      refine Aw rfl (Au [] [0,1,2,3,4] fun D l I=>(Ai2 j fd f h (tW s d xs 4) (tW s d xs 8) (tL s d xs) (tF s d xs 14) (tF s d xs 18) (tO s d xs) (tD s d xs) q.1.a q.2.a q.1.cap q.2.cap ((tO s d xs).length) ((tD s d xs).length) _ K1 K1 (FS.at (i:=1) (t:=5) l rfl<|Ah V<|Bo _) (FS.at (i:=2) (t:=5) l rfl<|Ah X<|Bo _) Ae Ae Ae Ae Ae Ae Ae Ae Ey Ey (by have E:=V.le;first|exact E|omega|(simp at E⊢;omega)) (by have E:=X.le;first|exact E|omega|(simp at E⊢;omega)))) fun R az=>Ab 4<|Af rfl (Bd U 5 5 0 (sV R<|(tB j fd f h (tW s d xs 4) (tW s d xs 8) (tL s d xs) (tF s d xs 14) (tF s d xs 18) (tO s d xs)<|tD s d xs).length) sizeOf38 rfl rfl) fun _=>Ab 1<|Ay ?_
      refine A9<|Al [0,4,5] An rfl<|W.s<|Aj [] ?_
      refine Ak ((tE (tO s d xs).length (tD s d xs).length) !=0) Aa (fun a0=>?_) fun bq=>?_
      ·(exfalso;rw[Ai4]at a0;cases a0)
      ·have a1:=bq;try simp only[zA]at a1
       refine Ag<|A9<|Av<|A5 1 [(2,0)] ?_
       refine Af rfl (A0 C 0 1 0 [nV .u8 tt.toNat,nV .u8 pr.toNat,nV .u16 B,nV .u32 j,nV .u32 fd,sV R ((tB j fd f h (tW s d xs 4) (tW s d xs 8) (tL s d xs) (tF s d xs 14) (tF s d xs 18) (tO s d xs)<|tD s d xs).length)] sizeOf40 rfl rfl) fun _=>Ab 1<|Ai<|Al [0,1] An rfl ?_
       refine Am rfl ?_
       have A:Vf pr s d xs o=true:=by unfold Vf;rw[J,x];rfl
       have L:Zz pr s d xs o=0:=by unfold Zz;rw[J,x];rfl
       have r:X8 pr s d xs o j fd f h=tB j fd f h (tW s d xs 4) (tW s d xs 8) (tL s d xs) (tF s d xs 14) (tF s d xs 18) (tO s d xs) (tD s d xs):=by unfold X8;rw[A,show Ir pr=true from aw];rfl
       exact E2 rfl (Bu C 0 1 0 [nV .u8 tt.toNat,nV .u8 pr.toNat,nV .u16 B,nV .u32 j,nV .u32 fd,sV R ((tB j fd f h (tW s d xs 4) (tW s d xs 8) (tL s d xs) (tF s d xs 14) (tF s d xs 18) (tO s d xs)<|tD s d xs).length)] isAgg40 sizeOf40) (Ar<|iV .i64 0) fun D u=>⟨R,(by rw[r];exact az),Eo<|(by rw[r,A,L];rfl),(Mem.cast (by rw[r];rfl)<|u.pick [0] An rfl)⟩
     ·have a2:=Q;try simp only[zA]at a2
      refine Aj [] ?_
      refine Ak (((pr.toNat:Nat):Int)==17) Aa (fun a3=>?_) fun ah=>?_
      ·have a5:=a3;try simp only[zA]at a5
       refine Av<|Ab 3<|Aw rfl (Au [] [0,1,2,3] fun D l I=>(P1 s d xs a cap xs.length _ K1 (P.mem0 l) Ae Ae Fp Fp)) fun S Y=>Ab 3 ?_
       refine Af rfl (Ba zeroValue124) fun ai=>Af rfl (A0 ai 0 0 0 [nV .u16 (uF s d xs 0),nV .u16<|uF s d xs 2,bV<|uP s d xs,sV S ((uD s d xs).length)] sizeOf124 rfl rfl) fun _=>?_
       refine Ab 1<|Ai<|Al [0,1,3,4,5] An rfl<|W.s ?_
       refine B3 [(0,true),(1,true),(2,true),(3,true),(4,false),(5,false),(6,false),(7,false)] [0,1,2,3] (Mem w [] [S.seg 5 (mc b8<|uD s d xs),Q2k C,[cb p3 [nV .u8 o.toNat,nV .u32 j,nV .u32 fd,nV .u16 f,nV .u16 h] 47],[cb U [nV .u8 tt.toNat,nV .u8 pr.toNat,nV .u16 B,nV .u32 j,nV .u32 fd,sL a xs.length cap] 40]]) Aa Aa Aa rfl Aa (fun _ _ h_=>h_.drawn _) (fun _ h_=>h_.pick [1,2,3,4] An rfl)<|Wd.mp 5 [(2,0),(2,0)] [1,2,3,4]<|Cj rfl rfl (Bd ai 0 0 0 (nV .u16 f) sizeOf22 rfl rfl) (Az [1,2,3,4]) fun _=>Dh 1 []<|Cj rfl rfl (Bd ai 1 0 0 (nV .u16 h) sizeOf22 rfl rfl) (.inl Aa) fun _=>?_
       refine Cl<|Al [0,1,2,4] An rfl<|Ac<|A5 5 [(3,0),(3,0),(0,0)] ?_
       have b6:=Adh j fd f h (uP s d xs) (uD s d xs)
       refine Aw rfl (Au [] [0,1,2,3] fun D l I=>(Zm j fd f h (uP s d xs) (uD s d xs) S.a S.cap ((uD s d xs).length) _ K1 (FS.at (i:=1) (t:=5) l rfl<|Ah Y<|Bo _) Ae Ae Ae Ae Ey (by have E:=Y.le;first|exact E|omega|(simp at E⊢;omega)))) fun T a6=>Ab 4<|Af rfl (Bd U 5 4 0 (sV T<|(uB j fd f h (uP s d xs)<|uD s d xs).length) sizeOf38 rfl rfl) fun _=>Ab 1<|Ay ?_
       refine A9<|Al [0,3,4] An rfl<|W.s<|Aj [] ?_
       refine Ak ((uE (uD s d xs).length) !=0) Aa (fun a7=>?_) fun br=>?_
       ·(exfalso;rw[Ai5]at a7;cases a7)
       ·have a8:=br;try simp only[zA]at a8
        refine Ag<|A9<|Av<|A5 1 [(2,0)] ?_
        refine Af rfl (A0 C 0 1 0 [nV .u8 tt.toNat,nV .u8 pr.toNat,nV .u16 B,nV .u32 j,nV .u32 fd,sV T ((uB j fd f h (uP s d xs)<|uD s d xs).length)] sizeOf40 rfl rfl) fun _=>Ab 1<|Ai<|Al [0,1] An rfl ?_
        refine Am rfl ?_
        have A:Vf pr s d xs o=true:=by unfold Vf;rw[J,x];rfl
        have L:Zz pr s d xs o=0:=by unfold Zz;rw[J,x];rfl
        have r:X8 pr s d xs o j fd f h=uB j fd f h (uP s d xs) (uD s d xs):=by unfold X8;rw[A,show Ir pr=false from Q,show Oz pr=true from a3];rfl
        exact E2 rfl (Bu C 0 1 0 [nV .u8 tt.toNat,nV .u8 pr.toNat,nV .u16 B,nV .u32 j,nV .u32 fd,sV T ((uB j fd f h (uP s d xs)<|uD s d xs).length)] isAgg40 sizeOf40) (Ar<|iV .i64 0) fun D u=>⟨T,(by rw[r];exact a6),Eo<|(by rw[r,A,L];rfl),(Mem.cast (by rw[r];rfl)<|u.pick [0] An rfl)⟩
      ·have a9:=ah;try simp only[zA]at a9
       refine Av<|Ab 1<|Aw rfl (Au [] [0,1,2,3] fun D l I=>(Si xs a cap xs.length _ K1 (P.mem0 l) Fp Fp)) fun N F=>Ab 3 ?_
       refine Af rfl (Ba zeroValue132) fun aj=>Af rfl (A0 aj 0 0 0 [nV .u8 ((mT xs 0).toNat),nV .u8<|(mT xs 1).toNat,nV .u32<|mN xs,sV N ((mD xs).length)] sizeOf132 rfl rfl) fun _=>?_
       refine Ab 1<|Ai<|W.s<|Aj [] ?_
       refine Ak ((H1 pr s d xs)==3) Aa (fun O=>?_) fun ba=>?_
       ·have ak:=O;try simp only[zA]at ak
        (exfalso;simp at O;exact hk O)
       ·have al:=ba;try simp only[zA]at al
        refine Aj [(4,0)]<|Al [0,1,3,4,5] An rfl<|W.s<|Av ?_
        refine A5 4 [(0,0),(0,0)]<|Cb (v:=Value.tuple #[bV (Mh<|mT xs 0),bV (Wt (mT xs 0)<|mT xs 1)]) (A8 fun D l=>(Uv (mT xs 0) (mT xs 1) _))<|Ab 5<|Ai ?_
        refine Aj [] ?_
        refine Ak (!(Mh<|mT xs 0)) Aa (fun bb=>?_) fun bc=>?_
        ·refine Ac<|A5 3 [(3,0)]<|Ai<|Al [0,1,2,4] An rfl ?_
         refine Ac<|A5 2 [(0,0)]<|Ao (v:=nV .u32<|(mN xs)%65536) ((Ys.p (v:=.int .u32<|Dw .u32 (mN xs:Int) ((65535:Nat):Int))).conseq<|Ad<|H3 rfl (a:=mN xs) (c:=16) (by show _<4294967296;omega) An 65535 rfl)<|Ab 1<|Ao (v:=nV .u32 h) ((Ys.p (v:=.int .u32<|Ct .u32 (h:Int))).conseq<|Ad<|Nh Ae Ae) ?_
         refine Ao (v:=nV .u32<|(h*65536)%4294967296) ((Ys.p (v:=.int .u32<|Jb .u32 (h:Int) ((16:Nat):Int))).conseq<|Ad<|Hf rfl h 16 An)<|Ao (v:=nV .u32<|((mN xs)%65536)|||((h*65536)%4294967296)) ((Ys.p (v:=.int .u32<|bor .u32 (((mN xs)%65536:Nat):Int) (((h*65536)%4294967296:Nat):Int))).conseq<|Ad<|Kg rfl (by show _<4294967296;omega) (by show _<4294967296;omega))<|Ab 1<|Af rfl (Bd aj 2 0 0 (nV .u32<|((mN xs)%65536)|||((h*65536)%4294967296)) sizeOf23 rfl rfl) fun _=>Ay ?_
         refine A9<|Ac<|A5 1 [(0,0)] ?_
         have bs:=Aeq (mT xs 0) (mT xs 1) (((mN xs)%65536)|||((h*65536)%4294967296)) (mD xs)
         refine Aw rfl (Au [] [0,1,2,3] fun D l I=>(Sh (mT xs 0) (mT xs 1) (((mN xs)%65536)|||((h*65536)%4294967296)) (mD xs) N.a N.cap ((mD xs).length) _ K1 (FS.at (i:=1) (t:=5) l rfl<|Ah F<|Bo _) (by first|omega|exact Nat.or_lt_two_pow (n:=32) Ae Ae) Ey (by have E:=F.le;first|exact E|omega|(simp at E⊢;omega)))) fun G am=>Ab 4<|Af rfl (Bd U 5 4 0 (sV G<|(mB (mT xs 0) (mT xs 1) (((mN xs)%65536)|||((h*65536)%4294967296))<|mD xs).length) sizeOf38 rfl rfl) fun _=>Ab 1<|Ay ?_
         refine A9<|Al [0,3,4] An rfl<|W.s<|Aj [] ?_
         refine Ak ((uE (mD xs).length) !=0) Aa (fun Z=>?_) fun bd=>?_
         ·(exfalso;rw[U2]at Z;cases Z)
         ·have an:=bd;try simp only[zA]at an
          refine Ag<|A9<|Av<|A5 1 [(2,0)] ?_
          refine Af rfl (A0 C 0 1 0 [nV .u8 tt.toNat,nV .u8 pr.toNat,nV .u16 B,nV .u32 j,nV .u32 fd,sV G ((mB (mT xs 0) (mT xs 1) (((mN xs)%65536)|||((h*65536)%4294967296))<|mD xs).length)] sizeOf40 rfl rfl) fun _=>Ab 1<|Ai<|Al [0,1] An rfl ?_
          refine Am rfl ?_
          have A:Vf pr s d xs o=true:=by unfold Vf;rw[J,x];rfl
          have L:Zz pr s d xs o=0:=by unfold Zz;rw[J,x];rfl
          have r:X8 pr s d xs o j fd f h=mB (mT xs 0) (mT xs 1) (((mN xs)%65536)|||((h*65536)%4294967296)) (mD xs):=by unfold X8;rw[A,show Ir pr=false from Q,show Oz pr=false from ah,bb];rfl
          exact E2 rfl (Bu C 0 1 0 [nV .u8 tt.toNat,nV .u8 pr.toNat,nV .u16 B,nV .u32 j,nV .u32 fd,sV G ((mB (mT xs 0) (mT xs 1) (((mN xs)%65536)|||((h*65536)%4294967296))<|mD xs).length)] isAgg40 sizeOf40) (Ar<|iV .i64 0) fun D u=>⟨G,(by rw[r];exact am),Eo<|(by rw[r,A,L];rfl),(Mem.cast (by rw[r];rfl)<|u.pick [0] An rfl)⟩
        ·refine Ag<|A9<|Al [0,1,2,4] An rfl<|Ac<|A5 2 [(0,0)] ?_
         refine Ao (v:=nV .u32<|(mN xs)%65536) ((Ys.p (v:=.int .u32<|Dw .u32 (mN xs:Int) ((65535:Nat):Int))).conseq<|Ad<|H3 rfl (a:=mN xs) (c:=16) (by show _<4294967296;omega) An 65535 rfl)<|Ab 1<|Ao (v:=nV .u32 f) ((Ys.p (v:=.int .u32<|Ct .u32 (f:Int))).conseq<|Ad<|Nh Ae Ae)<|Ao (v:=nV .u32<|(f*65536)%4294967296) ((Ys.p (v:=.int .u32<|Jb .u32 (f:Int) ((16:Nat):Int))).conseq<|Ad<|Hf rfl f 16 An)<|Ao (v:=nV .u32<|((mN xs)%65536)|||((f*65536)%4294967296)) ((Ys.p (v:=.int .u32<|bor .u32 (((mN xs)%65536:Nat):Int) (((f*65536)%4294967296:Nat):Int))).conseq<|Ad<|Kg rfl (by show _<4294967296;omega) (by show _<4294967296;omega)) ?_
         refine Ab 1<|Af rfl (Bd aj 2 0 0 (nV .u32<|((mN xs)%65536)|||((f*65536)%4294967296)) sizeOf23 rfl rfl) fun _=>?_
         refine Ai<|Ac<|A5 1 [(0,0)] ?_
         have bt:=Aeq (mT xs 0) (mT xs 1) (((mN xs)%65536)|||((f*65536)%4294967296)) (mD xs)
         refine Aw rfl (Au [] [0,1,2,3] fun D l I=>(Sh (mT xs 0) (mT xs 1) (((mN xs)%65536)|||((f*65536)%4294967296)) (mD xs) N.a N.cap ((mD xs).length) _ K1 (FS.at (i:=1) (t:=5) l rfl<|Ah F<|Bo _) (by first|omega|exact Nat.or_lt_two_pow (n:=32) Ae Ae) Ey (by have E:=F.le;first|exact E|omega|(simp at E⊢;omega)))) fun H ao=>Ab 4<|Af rfl (Bd U 5 4 0 (sV H<|(mB (mT xs 0) (mT xs 1) (((mN xs)%65536)|||((f*65536)%4294967296))<|mD xs).length) sizeOf38 rfl rfl) fun _=>Ab 1<|Ay ?_
         refine A9<|Al [0,3,4] An rfl<|W.s<|Aj [] ?_
         refine Ak ((uE (mD xs).length) !=0) Aa (fun aa=>?_) fun bf=>?_
         ·(exfalso;rw[U2]at aa;cases aa)
         ·have ap:=bf;try simp only[zA]at ap
          refine Ag<|A9<|Av<|A5 1 [(2,0)] ?_
          refine Af rfl (A0 C 0 1 0 [nV .u8 tt.toNat,nV .u8 pr.toNat,nV .u16 B,nV .u32 j,nV .u32 fd,sV H ((mB (mT xs 0) (mT xs 1) (((mN xs)%65536)|||((f*65536)%4294967296))<|mD xs).length)] sizeOf40 rfl rfl) fun _=>Ab 1<|Ai<|Al [0,1] An rfl ?_
          refine Am rfl ?_
          have A:Vf pr s d xs o=true:=by unfold Vf;rw[J,x];rfl
          have L:Zz pr s d xs o=0:=by unfold Zz;rw[J,x];rfl
          have r:X8 pr s d xs o j fd f h=mB (mT xs 0) (mT xs 1) (((mN xs)%65536)|||((f*65536)%4294967296)) (mD xs):=by unfold X8;rw[A,show Ir pr=false from Q,show Oz pr=false from ah,bc];rfl
          exact E2 rfl (Bu C 0 1 0 [nV .u8 tt.toNat,nV .u8 pr.toNat,nV .u16 B,nV .u32 j,nV .u32 fd,sV H ((mB (mT xs 0) (mT xs 1) (((mN xs)%65536)|||((f*65536)%4294967296))<|mD xs).length)] isAgg40 sizeOf40) (Ar<|iV .i64 0) fun D u=>⟨H,(by rw[r];exact ao),Eo<|(by rw[r,A,L];rfl),(Mem.cast (by rw[r];rfl)<|u.pick [0] An rfl)⟩
    ·have bg:=ae;try simp only[zA]at bg
     (exfalso;simp at ae;exact hk ae.1)
   ·have bh:=ad;try simp only[zA]at bh
    (exfalso;simp at ad;exact hk ad.1)
abbrev c2(p:Nat×Nat):List Value:=[n16 p.1,n16 p.2]
def Hm(n:Nat)(ls:List (Nat×Nat)):Nat:=ls.foldl (fun n p=>upc n p.1 p.2) n
theorem Afa{n:Nat}{ls:List (Nat×Nat)}{k:Nat}(h:k<ls.length):Hm n (ls.take (k+1))=upc (Hm n (ls.take k)) (ls.getD k default).1 (ls.getD k default).2:=by
  unfold Hm;rw[List.take_add_one,List.foldl_append];simp[h]
theorem Afb{n:Nat}(b:n<65536)(ls:List (Nat×Nat)):Hm n ls<65536:=by
  unfold Hm
  induction ls generalizing n with
  |nil=>exact b
  |cons p ls c=>exact c (show upc n p.1 p.2<65536 from by have:=Adg n p.1 p.2;omega)
theorem Aps{ls:List (Nat×Nat)}{k:Nat}(b: ∀p∈ls,p.1<65536∧p.2<65536)(h:k<ls.length):(ls.getD k default).1<65536∧(ls.getD k default).2<65536:=by
  rw[List.getD_eq_getElem?_getD,List.getElem?_eq_getElem h];exact b _ (List.getElem_mem h)
theorem Afc(n:Nat)(ls:List (Nat×Nat))(a:Option Addr)(cap:Nat)(w:World)(c:At w a (mm c2 ls))(t:n<65536)(u: ∀p∈ls,p.1<65536∧p.2<65536)(D:ls.length≤9223372036854775807):Calls prog 151 #[nV .u16 n,sL a ls.length cap] w (Df w (.int .u16 (Hm n ls:Int))):=by
 refine Ap (M:=[]) (LL:=[]) (n:=29) func151 rfl rfl A7 (Mem.refl _)<|Aj []<|W.s<|Aj []<|W.block ?_
 refine Dd [0,7,8,9] (fun(k:Nat)=>[nV .u16 (Hm n<|ls.take k),sL a ls.length cap,nV .i64 ls.length,nV .i64 k]) (fun(k:Nat)=>k≤ls.length) (fun(k:Nat)=>[]) (fun(k:Nat)=>ls.length-k) 0 Aa Sv (by rfl) fun k E F l d=>?_
 have G:=l
 have x:=Afb t (ls.take k);have A:=Zk (65535-Hm n (ls.take k)+(65535-(ls.getD k default).1)+(ls.getD k default).2)
 refine Aj []<|W.s ?_
 refine Ak (decide<|((k:Nat):Int)<(ls.length:Int)) Aa (fun o=>?_) fun q=>?_
 ·have e:=o;try simp only[zA]at e
  refine Ag<|A9<|W.s<|W.block<|W.s ?_
  refine Ac<|Ao (v:=Value.pointer<|some<|Cs a<|k*2) (Bb fun j f=>Aq (k:=.i64) (a:=a) (len:=ls.length) (cap:=cap) (i:=(k:Int)) (sz:=2) rfl Aa Aa runUnderlying257 sizeOf260 Ae Ae<|(c.mem0 f).here<|by rw[Ch (g:=c2) (sz:=2) (fun _=>rfl)];first|omega|(simp;omega))<|Ao (v:=aV [nV .u16 ((ls.getD k default).1),nV .u16 ((ls.getD k default).2)]) (Ys.ldN (a:=Cs a<|k*2) (vs:=[nV .u16 ((ls.getD k default).1),nV .u16 ((ls.getD k default).2)]) rfl Aa isAgg260 sizeOf260 rfl fun j f=>(c.mem0 f).ldN<|Db (g:=c2) (sz:=2) (fun _=>rfl) default (xs:=ls) (k:=k) Ae) ?_
  have r:=Aps u (k:=k) Ae
  refine Af rfl (Ba zeroValue260) fun B=>Af rfl (A0 B 0 0 0 [nV .u16 ((ls.getD k default).1),nV .u16 ((ls.getD k default).2)] sizeOf260 rfl rfl) fun _=>?_
  refine Ai<|Ac<|Ab 1<|Ao (v:=nV .u16<|65535-(Hm n<|ls.take k)) ((Ys.p (v:=.int .u16<|Sw .u16 ((65535:Nat):Int) (Hm n (ls.take k):Int))).conseq<|Ad<|Ig rfl Jg 65535 rfl) ?_
  refine Ao (v:=nV .u64<|65535-(Hm n<|ls.take k)) ((Ys.p (v:=.int .u64<|Ct .u64 ((65535-(Hm n<|ls.take k):Nat):Int))).conseq<|Ad<|Co Ae Ae)<|A5 2 [(0,0)]<|Ao (v:=nV .u16<|65535-((ls.getD k default).1)) ((Ys.p (v:=.int .u16<|Sw .u16 ((65535:Nat):Int) ((ls.getD k default).1:Int))).conseq<|Ad<|Ig rfl Jg 65535 rfl)<|Ao (v:=nV .u64<|65535-((ls.getD k default).1)) ((Ys.p (v:=.int .u64<|Ct .u64 ((65535-((ls.getD k default).1):Nat):Int))).conseq<|Ad<|Co Ae Ae)<|Ao (v:=nV .u64<|(65535-(Hm n<|ls.take k))+(65535-((ls.getD k default).1))) ((Ys.p (v:=.int .u64<|D2 .u64 ((65535-(Hm n<|ls.take k):Nat):Int) ((65535-((ls.getD k default).1):Nat):Int))).conseq<|Ad<|H2 rfl K4) ?_
  refine A5 2 [(0,0)]<|Ao (v:=nV .u64<|(ls.getD k default).2) ((Ys.p (v:=.int .u64<|Ct .u64 ((ls.getD k default).2:Int))).conseq<|Ad<|Co Ae Ae)<|Ao (v:=nV .u64<|((65535-(Hm n<|ls.take k))+(65535-((ls.getD k default).1)))+((ls.getD k default).2)) ((Ys.p (v:=.int .u64<|D2 .u64 (((65535-(Hm n<|ls.take k))+(65535-((ls.getD k default).1)):Nat):Int) ((ls.getD k default).2:Int))).conseq<|Ad<|H2 rfl K4)<|Cb (v:=nV .u16<|fd<|((65535-(Hm n<|ls.take k))+(65535-((ls.getD k default).1)))+((ls.getD k default).2)) (A8 fun j C=>Adf (((65535-(Hm n<|ls.take k))+(65535-((ls.getD k default).1)))+((ls.getD k default).2)) _ Ae)<|Ao (v:=nV .u16<|65535-(fd<|((65535-(Hm n<|ls.take k))+(65535-((ls.getD k default).1)))+((ls.getD k default).2))) ((Ys.p (v:=.int .u16<|Sw .u16 ((65535:Nat):Int) (fd (((65535-(Hm n<|ls.take k))+(65535-((ls.getD k default).1)))+((ls.getD k default).2)):Int))).conseq<|Ad<|Ig rfl Jg 65535 rfl) ?_
  refine Ab 1<|Ai<|Al [] An rfl<|Ac ?_
  refine Bw (((k+1):Nat):Int) (k:Int) 1<|Ab 1<|Ay ?_
  refine fun j f=>d (k+1) _ j Ae Sv ?_ f
  refine Eq.trans (b:=([nV .u16 (65535-(fd<|((65535-(Hm n<|ls.take k))+(65535-((ls.getD k default).1)))+((ls.getD k default).2))),Value.slice a ls.length cap,nV .i64 ls.length,nV .i64 (k+1)]:List Value)) Aa<|by rw[Afa Ae];try rfl
 ·have h:=q;try simp only[zA]at h
  refine Cm<|A9<|Aj []<|Am rfl<|D7 rfl (Ar<|nV .u16<|Hm n<|ls.take k)<|by clear d;exact Ad (by rw[List.take_of_length_le Ae])
theorem Kc(n:Nat)(ls:List (Nat×Nat))(a:Option Addr)(len cap:Nat)(w:World)(b:len=ls.length)(c:At w a (mm c2 ls))(d:n<65536)(e: ∀p∈ls,p.1<65536∧p.2<65536)(f:ls.length≤9223372036854775807):
    Calls prog 151 #[.int .u16 (n:Int),.slice a len cap] w (Df w (.int .u16 (Hm n ls:Int))):=by
  subst b;exact Afc n ls a cap w c d e f
theorem Afd(zs:List UInt8)(a:Option Addr)(cap:Nat)(w:World)(c:At w a (Cx zs))(C:0<zs.length)(D:zs.length≤1000000)(q:zs.length≤cap):Calls prog 148 #[sL a zs.length cap] w (Bn w (fun g:FS=>g.ok 1 zs.length∧g.nil=false) (fun g=>.slice g.a zs.length g.cap) [] (fun g=>[g.seg 5 (Cx zs)])):=by
 refine Ap (M:=[]) (LL:=[]) (n:=8) func148 rfl rfl A7 (Mem.refl _)<|Aj []<|W.s<|Av ?_
 refine Ab 1<|Ao (v:=bV a.isNone) (Ys.pure fun _=>by generalize a=a_;cases a_<;>kernel_rfl)<|Ai ?_
 refine Ak (a.isNone) Aa (fun j=>?_) fun E=>?_
 ·(exfalso;have r:=c.here (by rw[Du];omega);rw[r]at j;cases j)
 ·refine Ag<|A9<|Av<|Af rfl (Bj (mk:=fun u=>.slice (some ⟨u,0,none⟩) 0 0) (t:=5) (cs:=[]) rfl fun _=>kr) fun x=>?_
  refine Ab 1<|Aw rfl (HtS.append (eu:=5) (xv:=Value.slice a zs.length cap) (i:=0) (g:=(FS.mk false x 0 [])) (e:=5) (ii:=(prog.info? 5).getD default) (z:=iV .u8 0) (sz:=1) (bytes:=1) (nn:=0) (m:=zs.length) (k:=zs.length) (xs:=mc b8 []) (news:=mc b8 zs) (cs':=mc b8 zs) (Lo:=fun f=>[f.seg 5 (mc b8 zs)]) rfl rfl Aa Aa Aa Aa Aa Aa Aa Aa Aa rfl (D4 An) (by first|rfl|simp[mc,Bc,B8]) (fun _=>rfl) (Src.at (a:=a) (Bo _) fun A B=>(c.mem0 B)) (Bo _) (Ea (fun _=>rfl) _) Ey Ho Ey rfl fun _=>rfl) fun f d=>?_
  obtain⟨b,l,o⟩:=d
  refine Ab 1<|Ai<|Am rfl<|D9 rfl (Ar<|sV f zs.length) fun A h=>⟨f,⟨b,De b Ae⟩,rfl,(h.pick [0] An rfl)⟩
theorem Aa6(zs:List UInt8)(a:Option Addr)(cap len:Nat)(w:World)(d:len=zs.length)(b:At w a (Cx zs))(e:0<zs.length)(f:zs.length≤1000000)(c:zs.length≤cap):Calls prog 148 #[.slice a len cap] w (Bn w (fun g:FS=>g.ok 1 zs.length∧g.nil=false) (fun g=>.slice g.a zs.length g.cap) [] (fun g=>[g.seg 5 (Cx zs)])):=by
  subst d;exact Afd zs a cap w b e f c
def hw(n:Nat):Nat:=n/65536%65536
def lw(n:Nat):Nat:=n%65536
theorem Aj3(n:Nat):hw n<65536:=by unfold hw;omega
theorem Aj4(n:Nat):lw n<65536:=by unfold lw;omega
theorem Lx(pr:UInt8)(s d b c:Nat)(w:World)(f:s<4294967296)(g:d<4294967296):Calls prog 149 #[aV [nV .u8 pr.toNat,nV .u32 s,nV .u32 d,nV .u16 b,nV .u16 c]] w (Df w (.agg ([nV .u16 (hw s),nV .u16 (lw s),nV .u16 (hw d),nV .u16 (lw d)]).toArray)):=by
 refine Ap (M:=[]) (LL:=[]) (n:=18) func149 rfl rfl A7 (Mem.refl _)<|W.s ?_
 refine Ac<|Af rfl (Bx [nV .u8 pr.toNat,nV .u32 s,nV .u32 d,nV .u16 b,nV .u16 c] rfl) fun h=>?_
 refine Af rfl (Ba zeroValue258) fun e=>Ai<|Av ?_
 refine A5 2 [(1,0)]<|Ao (v:=nV .u32<|s/65536) ((Ys.p (v:=.int .u32<|Ib .u32 (s:Int) ((16:Nat):Int))).conseq<|Ad<|Fc s 16 An)<|Ao (v:=nV .u16<|(s/65536)%65536) ((Ys.p (v:=.int .u16<|Ct .u16 ((s/65536:Nat):Int))).conseq<|Ad<|Dn rfl _)<|A5 2 [(1,0)]<|Ao (v:=nV .u16<|s%65536) ((Ys.p (v:=.int .u16<|Ct .u16 (s:Int))).conseq<|Ad<|Dn rfl _) ?_
 refine A5 2 [(1,0)]<|Ao (v:=nV .u32<|d/65536) ((Ys.p (v:=.int .u32<|Ib .u32 (d:Int) ((16:Nat):Int))).conseq<|Ad<|Fc d 16 An)<|Ao (v:=nV .u16<|(d/65536)%65536) ((Ys.p (v:=.int .u16<|Ct .u16 ((d/65536:Nat):Int))).conseq<|Ad<|Dn rfl _)<|A5 2 [(1,0)]<|Ao (v:=nV .u16<|d%65536) ((Ys.p (v:=.int .u16<|Ct .u16 (d:Int))).conseq<|Ad<|Dn rfl _) ?_
 refine Ab 1<|Af rfl (A0 e 0 0 0 [nV .u16 ((s/65536)%65536),nV .u16<|s%65536,nV .u16<|(d/65536)%65536,nV .u16 (d%65536)] sizeOf258 rfl rfl) fun _=>?_
 refine Ai<|Al [0] An rfl<|Am rfl<|D7 rfl (I1 e 0 0 0 isAgg258 sizeOf258) rfl
def Fh(zs:List UInt8)(k n:Nat):List UInt8:=(zs.set k (UInt8.ofNat (n/256))).set (k+1) (UInt8.ofNat (n%256))
theorem Aa7{zs:List UInt8}{k n:Nat}(h:k+2≤zs.length):Fh zs k n=Iw zs k n:=Wm h
theorem It(zs:List UInt8)(k n:Nat):(Fh zs k n).length=zs.length:=by unfold Fh;simp
theorem Ly(zs:List UInt8){k n p:Nat}(h:p+1≤k∨k+2≤p):(Fh zs k n).getD p 0=zs.getD p 0:=by
  unfold Fh;simp only[List.getD_eq_getElem?_getD]
  rw[List.getElem?_set_ne Ae,List.getElem?_set_ne Ae]
theorem D5{z Z:List UInt8}{k n:Nat}(h:Fh z k n=Z):Z.length=z.length:=by rw[←h];exact It ..
theorem Ss{z zs:List UInt8}{k m:Nat}(e:z.length=zs.length)(h:m≤zs.length)(b:k≤m):k≤z.length:=by omega
theorem St{z zs:List UInt8}{m:Nat}(e:z.length=zs.length)(h:zs.length≤m):z.length≤m:=by omega
theorem lec{z:List UInt8}{m n:Nat}(e:z.length=n)(h:n≤m):z.length≤m:=by omega
theorem mcl{z:List UInt8}{n:Nat}(h:z.length=n):(mc b8 z).length=n*1:=by rw[Du,h,Nat.mul_one]
theorem C8{z Z:List UInt8}{k n p:Nat}(h:Fh z k n=Z)(b:p+2≤k∨k+2≤p):w2 Z p=w2 z p:=by
  subst h;unfold w2;rw[Ly _ Ae,Ly _ Ae]
theorem Mo{z Z:List UInt8}{k n p:Nat}(h:Fh z k n=Z)(b:p+1≤k∨k+2≤p):Z.getD p 0=z.getD p 0:=by subst h;exact Ly _ b
theorem Amz(g:FS)(zs:List UInt8)(k n:Nat)(M:List Nat)(w:World)(C:Mem w M [g.seg 5 (Cx zs)] w)(ok:g.ok 1 zs.length)(h:g.nil=false)(D:k+2≤zs.length)(I:zs.length≤1000000)(J:n<65536):Calls prog 150 #[sV g zs.length,nV .i64 k,nV .u16 n] w (Bn w (fun _:Unit=>True) (fun _=>.tuple #[]) M (fun _=>[g.seg 5 (Cx (Fh zs k n))])):=by
 refine Ap (M:=M) (LL:=[g.seg 5 (mc b8 zs)]) (n:=13) func150 rfl rfl A7 (C) ?_
 have l:=h
 obtain⟨o,d,gc,r⟩:=g
 obtain rfl:o=false:=l
 have E:zs.length≤gc:=ok.le
 refine B3 [(0,true),(1,true),(2,true),(3,false),(4,false),(5,false),(6,false)] [0,1,2] (Mem w M []) Aa Aa Aa rfl Aa (fun _ _ c=>c.drawn _) (fun _ c=>c.pick [] An rfl)<|B5 2<|Bm (v:=sL (Ds (some ⟨d,0,none⟩) gc k 1) (zs.length-k)<|gc-k) rfl (Br (a:=some ⟨d,0,none⟩) (len:=zs.length) (cap:=gc) (sz:=1) (k:=.i64) (i:=(k:Int)) rfl Aa Aa runUnderlying38 sizeOf5 Ae Ae)<|Wd.mp 1 [] []<|Wd.yc (v:=nV .u64 n) rfl rfl rfl (Ys.yc<|(Ys.p (v:=.int .u64<|Ct .u64 (n:Int))).conseq<|Ad<|Co Ae Ae) (Ee []) ?_
 refine Ca rfl rfl (Au [] [0] fun f F G=>C7 2 n Ae _) (Az []) fun u x=>?_
 obtain⟨A,H⟩:=x
 refine Cj rfl rfl (Cy (cap:=gc) (dl:=zs.length-k) (dc:=gc-k) (m:=2) (q:=2) (sz:=1) (o':=k) (i:=1) (j:=0) (e:=5) (ii:=(prog.info? 5).getD default) (b:=d) (t:=5) (xv:=sV u 2) (cs:=(mc b8 zs)++r) (news:=mc b8<|be 2 n) (cs':=(mc b8<|zs.take k++(be 2 n)++zs.drop (k+(be 2 n).length))++r) (LL':=[u.seg 5 (mc b8<|be 2 n),[cb d ((mc b8<|zs.take k++(be 2 n)++zs.drop (k+(be 2 n).length))++r) 5]]) rfl rfl Aa Aa Aa Aa Ae Aa rfl rfl (fun _=>rfl) (by show min _ _=_;first|omega|(simp;omega)) (Src.at (a:=u.a) U9 fun f c=>(FS.at (i:=0) (t:=5) c rfl<|Ah A Fw)) U9 (by first|(simp only[Du];omega)|(simp only[Du,List.length_append,List.length_take,List.length_drop];omega)|(simp[mc,Bc,B8];try omega)) (Ea (fun _=>rfl) _) (Yu (by first|(simp[mc,Bc,B8];done)|(simp[mc,Bc,B8];omega))<|Po (g:=b8) zs (be 2 n) k) rfl) (Az []) fun _=>Ev ?_
 show∀f,_→bodyPostM (Cv none) 0 prog Tryz.f150 _ Exit.normal _ f
 exact fun f B=>Ei<|Iv rfl ⟨(),trivial,rfl,(Mem.cast (by rw[Aa7 D];unfold Iw;rw[Bc];rfl)<|B.pick [1] An rfl)⟩
theorem Fo(g:FS)(zs:List UInt8)(len k n:Nat)(M:List Nat)(w:World)(Z:List UInt8)(d:Fh zs k n=Z)(b:len=zs.length)(e:Mem w M [g.seg 5 (Cx zs)] w)(ok:g.ok 1 len)(c:g.nil=false)(f:k+2≤zs.length)(h:zs.length≤1000000)(i:n<65536):
    Calls prog 150 #[.slice g.a len g.cap,.int .i64 (k:Int),.int .u16 (n:Int)] w (Bn w (fun _:Unit=>True) (fun _=>.tuple #[]) M (fun _=>[g.seg 5 (Cx Z)])):=by
  subst b;subst d;exact Amz g zs k n M w e ok c f h i
theorem Hn(xs:List UInt8)(a:Option Addr)(cap k:Nat)(len:Nat)(w:World){v:Nat}(d:w2 xs k=v)(e:len=xs.length)(b:At w a (Cx xs))(f:k+1<xs.length)(g:xs.length≤1000000)(c:xs.length≤cap):Calls prog 152 #[.slice a len cap,.int .i64 (k:Int)] w (Df w (.int .u16 (v:Int))):=by
  subst d;exact G9 xs a cap k len w e b f g c
theorem Am0(n a b:Nat):upc n a b<65536:=by have:=Adg n a b;omega
end Go.Proofs.YtmonlaoaengfdaaGreatDoor.Oct
