import Derived.Test.YtmonlaoaengfdaaGreatDoorM2
set_option linter.unusedVariables false
set_option linter.unusedSimpArgs false
set_option maxRecDepth 20000
namespace Go.Proofs.YtmonlaoaengfdaaGreatDoor.Oct
open Go.RowKit Base Tryz
attribute [local irreducible] Ys Yc Ht HtS HtIn Wl Wd W Mem pf Ez Wa Wo KW
abbrev Cz(b:Option Nat):Option Addr:=b.map fun b=>⟨b,0,none⟩
def LO.on{A B:Type}(o:LO B)(f:A→B)(c: ∀{x y},f x=f y→x=y):LO A:=⟨fun a b=>o.lt (f a) (f b),fun a=>o.irr _,fun h g=>o.tr h g,fun h g=>c (o.tri h g)⟩
def Sp:List Int→Int
  | []=>0
  |x::xs=>if x≠0 then x else Sp xs
abbrev Ci:Type:=Int×Int×Int×Int×Int
def Xe(x:Ci):Ci:=(x.1,x.2.1,x.2.2.2.1,x.2.2.1,x.2.2.2.2)
theorem Acd{x y:Ci}(h:Xe x=Xe y):x=y:=by
  obtain⟨a,b,c,d,e⟩:=x
  obtain⟨f,g,i,j,l⟩:=y
  simp only[Xe,Prod.mk.injEq]at h⊢
  omega
abbrev Cu:LO (Int×Int×Int):=Gw LO.int (Gw LO.int LO.int)
abbrev ordF:LO Ci:=LO.on (Gw LO.int (Gw LO.int (Gw LO.int (Gw LO.int LO.int)))) Xe Acd
structure Lse where
  ext:Int
  count:Int
abbrev dS:(Int×Int×Int×Int×Int)×(Option Nat):=((0,0,0,0,0),none)
def Gk(x:(Int×Int×Int×Int×Int)×(Option Nat)):List Value:=[Value.int .u8 x.1.1,Value.int .u32 x.1.2.1,Value.int .u32 x.1.2.2.1,Value.int .u16 x.1.2.2.2.1,Value.int .u16 x.1.2.2.2.2,Value.pointer (Cz x.2)]
theorem Kp(x:(Int×Int×Int×Int×Int)×(Option Nat)):(Gk x).length=6:=rfl
theorem Ps(x:(Int×Int×Int×Int×Int)×(Option Nat)): ∀v∈Gk x,v.oneCell'=true:=by simp[Gk,Value.oneCell']
theorem Ld(xs:List ((Int×Int×Int×Int×Int)×(Option Nat))):(mm Gk xs).length=xs.length*6:=Ch Kp xs
abbrev dD:(Int×Int×Int)×(Lse):=((0,0,0),(⟨0,0⟩:Lse))
def Gp(x:(Int×Int×Int)×(Lse)):List Value:=[Value.int .u8 x.1.1,Value.int .u32 x.1.2.1,Value.int .u16 x.1.2.2,Value.int .u16 x.2.ext,Value.int .i64 x.2.count]
theorem Kq(x:(Int×Int×Int)×(Lse)):(Gp x).length=5:=rfl
theorem Pt(x:(Int×Int×Int)×(Lse)): ∀v∈Gp x,v.oneCell'=true:=by simp[Gp,Value.oneCell']
theorem Lg(xs:List ((Int×Int×Int)×(Lse))):(mm Gp xs).length=xs.length*5:=Ch Kq xs
abbrev dN:(Int)×(Int×Int×Int×Int×Int):=(0,(0,0,0,0,0))
def Jf(x:(Int)×(Int×Int×Int×Int×Int)):List Value:=[Value.int .u64 x.1,Value.int .u8 x.2.1,Value.int .u32 x.2.2.1,Value.int .u32 x.2.2.2.1,Value.int .u16 x.2.2.2.2.1,Value.int .u16 x.2.2.2.2.2]
theorem Kr(x:(Int)×(Int×Int×Int×Int×Int)):(Jf x).length=6:=rfl
theorem T0(x:(Int)×(Int×Int×Int×Int×Int)): ∀v∈Jf x,v.oneCell'=true:=by simp[Jf,Value.oneCell']
theorem Ru(xs:List ((Int)×(Int×Int×Int×Int×Int))):(mm Jf xs).length=xs.length*6:=Ch Kr xs
theorem Yw(x:Int)(w:World):Calls prog 115 #[iV .u8 x] w (Df w (.bool false)):=by
 refine Ap (M:=[]) (LL:=[]) (n:=6) func115 rfl rfl A7 (Mem.refl _)<|Aj []<|Aj []<|Am rfl<|D7 rfl (Ar<|bV<|x !=x)<|by exact B2 A7
theorem Yx(a b:Int)(w:World):Calls prog 65 #[iV .u8 a,iV .u8 b] w (Df w (.int .i64 (LO.cmp LO.int a b))):=by
 refine Ap (M:=[]) (LL:=[]) (n:=20) func65 rfl rfl A7 (Mem.refl _)<|Aj []<|Av<|Ab 1 ?_
 refine Cb (v:=bV false) (A8 fun o l=>(Yw a _))<|Ab 1<|Ai<|W.s ?_
 refine Ac<|Ab 1<|Cb (v:=bV false) (A8 fun o l=>(Yw b _))<|Ab 1<|Ay ?_
 refine A9<|W.s ?_
 refine Aj []<|B4 Aa<|Ag<|A9<|W.s ?_
 refine Aj []<|B4 Aa<|Ag<|A9<|W.s ?_
 refine Aj [] ?_
 refine Ak (decide<|a<b) Aa (fun d=>?_) fun c=>?_
 ·have e:=d;try simp only[zA]at e
  refine Aj []<|Am rfl<|D7 rfl (Ar<|iV .i64<|-1)<|by simp only[LO.cmp,LO.int,d,cond_true,cond_false];try rfl
 ·have f:=c;try simp only[zA]at f
  refine Ag<|A9<|W.s<|Aj [] ?_
  refine Ak (decide<|a>b) Aa (fun g=>?_) fun h=>?_
  ·have i:=g;try simp only[zA]at i
   refine Aj []<|Am rfl<|D7 rfl (Ar<|iV .i64 1)<|by simp only[LO.cmp,LO.int,c,g,cond_true,cond_false];try rfl
  ·have j:=h;try simp only[zA]at j
   refine Ag<|A9<|Aj []<|Am rfl<|D7 rfl (Ar<|iV .i64 0)<|by simp only[LO.cmp,LO.int,c,h,cond_true,cond_false];try rfl
theorem V0(x:Int)(w:World):Calls prog 117 #[iV .u16 x] w (Df w (.bool false)):=by
 refine Ap (M:=[]) (LL:=[]) (n:=6) func117 rfl rfl A7 (Mem.refl _)<|Aj []<|Aj []<|Am rfl<|D7 rfl (Ar<|bV<|x !=x)<|by exact B2 A7
theorem Rv(a b:Int)(w:World):Calls prog 67 #[iV .u16 a,iV .u16 b] w (Df w (.int .i64 (LO.cmp LO.int a b))):=by
 refine Ap (M:=[]) (LL:=[]) (n:=20) func67 rfl rfl A7 (Mem.refl _)<|Aj []<|Av<|Ab 1 ?_
 refine Cb (v:=bV false) (A8 fun o l=>(V0 a _))<|Ab 1<|Ai<|W.s ?_
 refine Ac<|Ab 1<|Cb (v:=bV false) (A8 fun o l=>(V0 b _))<|Ab 1<|Ay ?_
 refine A9<|W.s ?_
 refine Aj []<|B4 Aa<|Ag<|A9<|W.s ?_
 refine Aj []<|B4 Aa<|Ag<|A9<|W.s ?_
 refine Aj [] ?_
 refine Ak (decide<|a<b) Aa (fun d=>?_) fun c=>?_
 ·have e:=d;try simp only[zA]at e
  refine Aj []<|Am rfl<|D7 rfl (Ar<|iV .i64<|-1)<|by simp only[LO.cmp,LO.int,d,cond_true,cond_false];try rfl
 ·have f:=c;try simp only[zA]at f
  refine Ag<|A9<|W.s<|Aj [] ?_
  refine Ak (decide<|a>b) Aa (fun g=>?_) fun h=>?_
  ·have i:=g;try simp only[zA]at i
   refine Aj []<|Am rfl<|D7 rfl (Ar<|iV .i64 1)<|by simp only[LO.cmp,LO.int,c,g,cond_true,cond_false];try rfl
  ·have j:=h;try simp only[zA]at j
   refine Ag<|A9<|Aj []<|Am rfl<|D7 rfl (Ar<|iV .i64 0)<|by simp only[LO.cmp,LO.int,c,h,cond_true,cond_false];try rfl
theorem V1(x:Int)(w:World):Calls prog 116 #[iV .u32 x] w (Df w (.bool false)):=by
 refine Ap (M:=[]) (LL:=[]) (n:=6) func116 rfl rfl A7 (Mem.refl _)<|Aj []<|Aj []<|Am rfl<|D7 rfl (Ar<|bV<|x !=x)<|by exact B2 A7
theorem Rw(a b:Int)(w:World):Calls prog 66 #[iV .u32 a,iV .u32 b] w (Df w (.int .i64 (LO.cmp LO.int a b))):=by
 refine Ap (M:=[]) (LL:=[]) (n:=20) func66 rfl rfl A7 (Mem.refl _)<|Aj []<|Av<|Ab 1 ?_
 refine Cb (v:=bV false) (A8 fun o l=>(V1 a _))<|Ab 1<|Ai<|W.s ?_
 refine Ac<|Ab 1<|Cb (v:=bV false) (A8 fun o l=>(V1 b _))<|Ab 1<|Ay ?_
 refine A9<|W.s ?_
 refine Aj []<|B4 Aa<|Ag<|A9<|W.s ?_
 refine Aj []<|B4 Aa<|Ag<|A9<|W.s ?_
 refine Aj [] ?_
 refine Ak (decide<|a<b) Aa (fun d=>?_) fun c=>?_
 ·have e:=d;try simp only[zA]at e
  refine Aj []<|Am rfl<|D7 rfl (Ar<|iV .i64<|-1)<|by simp only[LO.cmp,LO.int,d,cond_true,cond_false];try rfl
 ·have f:=c;try simp only[zA]at f
  refine Ag<|A9<|W.s<|Aj [] ?_
  refine Ak (decide<|a>b) Aa (fun g=>?_) fun h=>?_
  ·have i:=g;try simp only[zA]at i
   refine Aj []<|Am rfl<|D7 rfl (Ar<|iV .i64 1)<|by simp only[LO.cmp,LO.int,c,g,cond_true,cond_false];try rfl
  ·have j:=h;try simp only[zA]at j
   refine Ag<|A9<|Aj []<|Am rfl<|D7 rfl (Ar<|iV .i64 0)<|by simp only[LO.cmp,LO.int,c,h,cond_true,cond_false];try rfl
theorem V2(x:Int)(w:World):Calls prog 68 #[iV .u64 x] w (Df w (.bool false)):=by
 refine Ap (M:=[]) (LL:=[]) (n:=6) func68 rfl rfl A7 (Mem.refl _)<|Aj []<|Aj []<|Am rfl<|D7 rfl (Ar<|bV<|x !=x)<|by exact B2 A7
theorem Ace(a b:Int)(w:World):Calls prog 35 #[iV .u64 a,iV .u64 b] w (Df w (.int .i64 (LO.cmp LO.int a b))):=by
 refine Ap (M:=[]) (LL:=[]) (n:=20) func35 rfl rfl A7 (Mem.refl _)<|Aj []<|Av<|Ab 1 ?_
 refine Cb (v:=bV false) (A8 fun o l=>(V2 a _))<|Ab 1<|Ai<|W.s ?_
 refine Ac<|Ab 1<|Cb (v:=bV false) (A8 fun o l=>(V2 b _))<|Ab 1<|Ay ?_
 refine A9<|W.s ?_
 refine Aj []<|B4 Aa<|Ag<|A9<|W.s ?_
 refine Aj []<|B4 Aa<|Ag<|A9<|W.s ?_
 refine Aj [] ?_
 refine Ak (decide<|a<b) Aa (fun d=>?_) fun c=>?_
 ·have e:=d;try simp only[zA]at e
  refine Aj []<|Am rfl<|D7 rfl (Ar<|iV .i64<|-1)<|by simp only[LO.cmp,LO.int,d,cond_true,cond_false];try rfl
 ·have f:=c;try simp only[zA]at f
  refine Ag<|A9<|W.s<|Aj [] ?_
  refine Ak (decide<|a>b) Aa (fun g=>?_) fun h=>?_
  ·have i:=g;try simp only[zA]at i
   refine Aj []<|Am rfl<|D7 rfl (Ar<|iV .i64 1)<|by simp only[LO.cmp,LO.int,c,g,cond_true,cond_false];try rfl
  ·have j:=h;try simp only[zA]at j
   refine Ag<|A9<|Aj []<|Am rfl<|D7 rfl (Ar<|iV .i64 0)<|by simp only[LO.cmp,LO.int,c,h,cond_true,cond_false];try rfl
theorem Aoa(x y z:Int)(a:Option Addr)(cap:Nat)(w:World)(d:At w a [.int .i64 x,.int .i64 y,.int .i64 z]):Calls prog 64 #[sL a 3 cap] w (Df w (.int .i64 (Sp [x,y,z]))):=by
 refine Ap (M:=[]) (LL:=[]) (n:=18) func64 rfl rfl A7 (Mem.refl _)<|Aj []<|Aj []<|W.s<|Aj [] ?_
 refine W.block<|Jq 4<|Dl fun N e=>Aj []<|W.s ?_
 refine Cd Aa<|Ag<|A9<|W.s<|W.block ?_
 refine Av<|Ao (v:=pL<|some<|Cs a 0) (Bb fun q f=>Aq (k:=.i64) (a:=a) (len:=3) (cap:=cap) (i:=0) (sz:=1) rfl Aa Aa runUnderlying224 sizeOf3 An An<|(d.mem0 f).here Su)<|Ao (Ys.ld (a:=Cs a 0) rfl Aa isAgg3 fun q f=>(d.mem0 f).ld (v:=iV .i64 x) rfl)<|Ab 1 ?_
 refine Ai<|Aj [] ?_
 refine Ak (x !=0) Aa (fun r=>?_) fun j=>?_
 ·have t:=r;try simp only[zA]at t
  refine Aj []<|Am rfl<|D7 rfl (Ar<|iV .i64 x) (by clear e;have b:=r;simp at b;simp[Sp, *])
 ·have u:=j;try simp only[zA]at u
  refine Ag<|A9<|Ac<|Ab 2<|Ay ?_
  refine e _ _ _<|Dl fun I c=>?_
  refine Aj []<|W.s ?_
  refine Cd Aa<|Ag<|A9<|W.s<|W.block ?_
  refine Av<|Ao (v:=pL<|some<|Cs a 1) (Bb fun q f=>Aq (k:=.i64) (a:=a) (len:=3) (cap:=cap) (i:=1) (sz:=1) rfl Aa Aa runUnderlying224 sizeOf3 An An<|(d.mem0 f).here Su)<|Ao (Ys.ld (a:=Cs a 1) rfl Aa isAgg3 fun q f=>(d.mem0 f).ld (v:=iV .i64 y) rfl)<|Ab 1 ?_
  refine Ai<|Aj [] ?_
  refine Ak (y !=0) Aa (fun A=>?_) fun l=>?_
  ·have B:=A;try simp only[zA]at B
   refine Aj []<|Am rfl<|D7 rfl (Ar<|iV .i64 y) (by clear e c;have b:=j;have g:=A;simp at b g;simp[Sp, *])
  ·have C:=l;try simp only[zA]at C
   refine Ag<|A9<|Ac<|Ab 2<|Ay ?_
   refine c _ _ _<|Dl fun J h=>?_
   refine Aj []<|W.s ?_
   refine Cd Aa<|Ag<|A9<|W.s<|W.block ?_
   refine Av<|Ao (v:=pL<|some<|Cs a 2) (Bb fun q f=>Aq (k:=.i64) (a:=a) (len:=3) (cap:=cap) (i:=2) (sz:=1) rfl Aa Aa runUnderlying224 sizeOf3 An An<|(d.mem0 f).here Su)<|Ao (Ys.ld (a:=Cs a 2) rfl Aa isAgg3 fun q f=>(d.mem0 f).ld (v:=iV .i64 z) rfl)<|Ab 1 ?_
   refine Ai<|Aj [] ?_
   refine Ak (z !=0) Aa (fun D=>?_) fun E=>?_
   ·have F:=D;try simp only[zA]at F
    refine Aj []<|Am rfl<|D7 rfl (Ar<|iV .i64 z) (by clear e c h;have b:=j;have g:=l;have o:=D;simp at b g o;simp[Sp, *])
   ·have G:=E;try simp only[zA]at G
    refine Ag<|A9<|Ac<|Ab 2<|Ay ?_
    refine h _ _ _<|Dl fun L H=>?_
    refine Aj []<|W.s ?_
    refine B4 Aa<|Cm<|A9<|Aj []<|Am rfl<|D7 rfl (Ar<|iV .i64 0) (by clear e c h H;have b:=j;have g:=l;have o:=E;simp at b g o;simp[Sp, *])
theorem Aob(x y z u v:Int)(a:Option Addr)(cap:Nat)(w:World)(c:At w a [.int .i64 x,.int .i64 y,.int .i64 z,.int .i64 u,.int .i64 v]):Calls prog 64 #[sL a 5 cap] w (Df w (.int .i64 (Sp [x,y,z,u,v]))):=by
 refine Ap (M:=[]) (LL:=[]) (n:=18) func64 rfl rfl A7 (Mem.refl _)<|Aj []<|Aj []<|W.s<|Aj [] ?_
 refine W.block<|Jq 6<|Dl fun J6 h=>Aj []<|W.s ?_
 refine Cd Aa<|Ag<|A9<|W.s<|W.block ?_
 refine Av<|Ao (v:=pL<|some<|Cs a 0) (Bb fun A e=>Aq (k:=.i64) (a:=a) (len:=5) (cap:=cap) (i:=0) (sz:=1) rfl Aa Aa runUnderlying224 sizeOf3 An An<|(c.mem0 e).here Su)<|Ao (Ys.ld (a:=Cs a 0) rfl Aa isAgg3 fun A e=>(c.mem0 e).ld (v:=iV .i64 x) rfl)<|Ab 1 ?_
 refine Ai<|Aj [] ?_
 refine Ak (x !=0) Aa (fun E=>?_) fun o=>?_
 ·have F:=E;try simp only[zA]at F
  refine Aj []<|Am rfl<|D7 rfl (Ar<|iV .i64 x) (by clear h;have b:=E;simp at b;simp[Sp, *])
 ·have G:=o;try simp only[zA]at G
  refine Ag<|A9<|Ac<|Ab 2<|Ay ?_
  refine h _ _ _<|Dl fun Y d=>?_
  refine Aj []<|W.s ?_
  refine Cd Aa<|Ag<|A9<|W.s<|W.block ?_
  refine Av<|Ao (v:=pL<|some<|Cs a 1) (Bb fun A e=>Aq (k:=.i64) (a:=a) (len:=5) (cap:=cap) (i:=1) (sz:=1) rfl Aa Aa runUnderlying224 sizeOf3 An An<|(c.mem0 e).here Su)<|Ao (Ys.ld (a:=Cs a 1) rfl Aa isAgg3 fun A e=>(c.mem0 e).ld (v:=iV .i64 y) rfl)<|Ab 1 ?_
  refine Ai<|Aj [] ?_
  refine Ak (y !=0) Aa (fun H=>?_) fun q=>?_
  ·have I:=H;try simp only[zA]at I
   refine Aj []<|Am rfl<|D7 rfl (Ar<|iV .i64 y) (by clear h d;have b:=o;have f:=H;simp at b f;simp[Sp, *])
  ·have J:=q;try simp only[zA]at J
   refine Ag<|A9<|Ac<|Ab 2<|Ay ?_
   refine d _ _ _<|Dl fun Z g=>?_
   refine Aj []<|W.s ?_
   refine Cd Aa<|Ag<|A9<|W.s<|W.block ?_
   refine Av<|Ao (v:=pL<|some<|Cs a 2) (Bb fun A e=>Aq (k:=.i64) (a:=a) (len:=5) (cap:=cap) (i:=2) (sz:=1) rfl Aa Aa runUnderlying224 sizeOf3 An An<|(c.mem0 e).here Su)<|Ao (Ys.ld (a:=Cs a 2) rfl Aa isAgg3 fun A e=>(c.mem0 e).ld (v:=iV .i64 z) rfl)<|Ab 1 ?_
   refine Ai<|Aj [] ?_
   refine Ak (z !=0) Aa (fun L=>?_) fun B=>?_
   ·have N:=L;try simp only[zA]at N
    refine Aj []<|Am rfl<|D7 rfl (Ar<|iV .i64 z) (by clear h d g;have b:=o;have f:=q;have j:=L;simp at b f j;simp[Sp, *])
   ·have O:=B;try simp only[zA]at O
    refine Ag<|A9<|Ac<|Ab 2<|Ay ?_
    refine g _ _ _<|Dl fun aa l=>?_
    refine Aj []<|W.s ?_
    refine Cd Aa<|Ag<|A9<|W.s<|W.block ?_
    refine Av<|Ao (v:=pL<|some<|Cs a 3) (Bb fun A e=>Aq (k:=.i64) (a:=a) (len:=5) (cap:=cap) (i:=3) (sz:=1) rfl Aa Aa runUnderlying224 sizeOf3 An An<|(c.mem0 e).here Su)<|Ao (Ys.ld (a:=Cs a 3) rfl Aa isAgg3 fun A e=>(c.mem0 e).ld (v:=iV .i64 u) rfl)<|Ab 1 ?_
    refine Ai<|Aj [] ?_
    refine Ak (u !=0) Aa (fun P=>?_) fun C=>?_
    ·have Q:=P;try simp only[zA]at Q
     refine Aj []<|Am rfl<|D7 rfl (Ar<|iV .i64 u) (by clear h d g l;have b:=o;have f:=q;have j:=B;have r:=P;simp at b f j r;simp[Sp, *])
    ·have R:=C;try simp only[zA]at R
     refine Ag<|A9<|Ac<|Ab 2<|Ay ?_
     refine l _ _ _<|Dl fun ab t=>?_
     refine Aj []<|W.s ?_
     refine Cd Aa<|Ag<|A9<|W.s<|W.block ?_
     refine Av<|Ao (v:=pL<|some<|Cs a 4) (Bb fun A e=>Aq (k:=.i64) (a:=a) (len:=5) (cap:=cap) (i:=4) (sz:=1) rfl Aa Aa runUnderlying224 sizeOf3 An An<|(c.mem0 e).here Su)<|Ao (Ys.ld (a:=Cs a 4) rfl Aa isAgg3 fun A e=>(c.mem0 e).ld (v:=iV .i64 v) rfl)<|Ab 1 ?_
     refine Ai<|Aj [] ?_
     refine Ak (v !=0) Aa (fun S=>?_) fun T=>?_
     ·have U:=S;try simp only[zA]at U
      refine Aj []<|Am rfl<|D7 rfl (Ar<|iV .i64 v) (by clear h d g l t;have b:=o;have f:=q;have j:=B;have r:=C;have D:=S;simp at b f j r D;simp[Sp, *])
     ·have V:=T;try simp only[zA]at V
      refine Ag<|A9<|Ac<|Ab 2<|Ay ?_
      refine t _ _ _<|Dl fun ad X=>?_
      refine Aj []<|W.s ?_
      refine B4 Aa<|Cm<|A9<|Aj []<|Am rfl<|D7 rfl (Ar<|iV .i64 0) (by clear h d g l t X;have b:=o;have f:=q;have j:=B;have r:=C;have D:=T;simp at b f j r D;simp[Sp, *])
theorem Hi{x:Int}{xs:List Int}:Sp (x::xs)=bif decide (x=0)then Sp xs else x:=by
  show(if x≠0 then x else Sp xs)=_
  by_cases h:x=0
  · rw[if_neg (fun g=>g h),decide_eq_true h];rfl
  · rw[if_pos h,decide_eq_false h];rfl
theorem orE(a b:Int×Int×Int):Sp [LO.cmp LO.int a.1 b.1,LO.cmp LO.int a.2.1 b.2.1,LO.cmp LO.int a.2.2 b.2.2]=LO.cmp Cu a b:=by
  unfold Cu
  rw[Gx,Gx,Hi,Hi,Hi]
  cases decide (LO.cmp LO.int a.1 b.1=0)<;>cases decide (LO.cmp LO.int a.2.1 b.2.1=0)<;>simp only[cond_true,cond_false]
  by_cases h:LO.cmp LO.int a.2.2 b.2.2=0
  · rw[decide_eq_true h,h];rfl
  · rw[decide_eq_false h];rfl
theorem orF(a b:Ci):Sp [LO.cmp LO.int a.1 b.1,LO.cmp LO.int a.2.1 b.2.1,LO.cmp LO.int a.2.2.2.1 b.2.2.2.1,LO.cmp LO.int a.2.2.1 b.2.2.1,LO.cmp LO.int a.2.2.2.2 b.2.2.2.2]=LO.cmp ordF a b:=by
  show _=LO.cmp (Gw LO.int (Gw LO.int (Gw LO.int (Gw LO.int LO.int)))) (Xe a) (Xe b)
  unfold Xe
  rw[Gx,Gx,Gx,Gx,Hi,Hi,Hi,Hi,Hi]
  cases decide (LO.cmp LO.int a.1 b.1=0)<;>cases decide (LO.cmp LO.int a.2.1 b.2.1=0)<;>cases decide (LO.cmp LO.int a.2.2.2.1 b.2.2.2.1=0)<;>cases decide (LO.cmp LO.int a.2.2.1 b.2.2.1=0)<;>simp only[cond_true,cond_false]
  by_cases h:LO.cmp LO.int a.2.2.2.2 b.2.2.2.2=0
  · rw[decide_eq_true h,h];rfl
  · rw[decide_eq_false h];rfl
theorem Akm(a b:Int×Int×Int)(w:World):Calls prog 33 #[aV (Ky a),aV (Ky b)] w (Df w (.int .i64 (LO.cmp Cu a b))):=by
 refine Ap (M:=[]) (LL:=[]) (n:=22) func33 rfl rfl A7 (Mem.refl _)<|W.s ?_
 refine Ac<|Af rfl (Bx (Ky a) rfl) fun g=>?_
 refine Af rfl (Bx (Ky b) rfl) fun h=>Ab 1<|Ai<|W.s ?_
 refine C5 [(0,true),(1,true),(2,true),(3,true),(5,true),(6,true),(7,true),(8,true),(10,true),(11,true),(12,true),(13,true),(4,false),(9,false),(14,false),(15,false),(16,false),(17,false)] [0,1,2,3,5,6,7,8,10,11,12,13]<|Dh 12 [(1,0),(0,0),(1,0),(0,0),(1,0),(0,0)]<|Ec (v:=iV .i64<|LO.cmp LO.int a.1 b.1) rfl (A8 fun e c=>(Yx a.1 b.1 _))<|Ec (v:=iV .i64<|LO.cmp LO.int a.2.1 b.2.1) rfl (A8 fun e c=>(Rw a.2.1 b.2.1 _))<|Ec (v:=iV .i64<|LO.cmp LO.int a.2.2 b.2.2) rfl (A8 fun e c=>(Rv a.2.2 b.2.2 _)) ?_
 refine Cj rfl rfl (Bj (mk:=fun f=>.slice (some ⟨f,0,none⟩) 3 3) (t:=3) (cs:=[iV .i64 (LO.cmp LO.int a.1 b.1),iV .i64<|LO.cmp LO.int a.2.1 b.2.1,iV .i64 (LO.cmp LO.int a.2.2 b.2.2)]) rfl fun _=>kr) (Az [1,2]) fun d=>Wd.yc (v:=iV .i64<|Sp [LO.cmp LO.int a.1 b.1,LO.cmp LO.int a.2.1 b.2.1,LO.cmp LO.int a.2.2 b.2.2]) rfl rfl rfl (A8 fun e c=>(Aoa (LO.cmp LO.int a.1 b.1) (LO.cmp LO.int a.2.1 b.2.1) (LO.cmp LO.int a.2.2 b.2.2) (some ⟨d,0,none⟩) 3 _<|A4 (i:=0) (j:=0) (t:=3) (b:=d) c rfl rfl)) (Ee [1,2])<|Dh 1 []<|Cl ?_
 refine Al [] An rfl<|Am rfl<|D7 rfl (Ar<|iV .i64<|Sp [LO.cmp LO.int a.1 b.1,LO.cmp LO.int a.2.1 b.2.1,LO.cmp LO.int a.2.2 b.2.2])<|by rw[orE]
theorem Akn(a b:Int×Int×Int×Int×Int)(w:World):Calls prog 31 #[aV (Kw a),aV (Kw b)] w (Df w (.int .i64 (LO.cmp ordF a b))):=by
 refine Ap (M:=[]) (LL:=[]) (n:=32) func31 rfl rfl A7 (Mem.refl _)<|W.s ?_
 refine Ac<|Af rfl (Bx (Kw a) rfl) fun g=>?_
 refine Af rfl (Bx (Kw b) rfl) fun h=>Ab 1<|Ai<|W.s ?_
 refine C5 [(0,true),(1,true),(2,true),(3,true),(5,true),(6,true),(7,true),(8,true),(10,true),(11,true),(12,true),(13,true),(15,true),(16,true),(17,true),(18,true),(20,true),(21,true),(22,true),(23,true),(4,false),(9,false),(14,false),(19,false),(24,false),(25,false),(26,false),(27,false)] [0,1,2,3,5,6,7,8,10,11,12,13,15,16,17,18,20,21,22,23]<|Dh 20 [(1,0),(0,0),(1,0),(0,0),(1,0),(0,0),(1,0),(0,0),(1,0),(0,0)]<|Ec (v:=iV .i64<|LO.cmp LO.int a.1 b.1) rfl (A8 fun d c=>(Yx a.1 b.1 _))<|Ec (v:=iV .i64<|LO.cmp LO.int a.2.1 b.2.1) rfl (A8 fun d c=>(Rw a.2.1 b.2.1 _))<|Ec (v:=iV .i64<|LO.cmp LO.int a.2.2.2.1 b.2.2.2.1) rfl (A8 fun d c=>(Rv a.2.2.2.1 b.2.2.2.1 _)) ?_
 refine Ec (v:=iV .i64<|LO.cmp LO.int a.2.2.1 b.2.2.1) rfl (A8 fun d c=>(Rw a.2.2.1 b.2.2.1 _))<|Ec (v:=iV .i64<|LO.cmp LO.int a.2.2.2.2 b.2.2.2.2) rfl (A8 fun d c=>(Rv a.2.2.2.2 b.2.2.2.2 _))<|Cj rfl rfl (Bj (mk:=fun f=>.slice (some ⟨f,0,none⟩) 5 5) (t:=3) (cs:=[iV .i64 (LO.cmp LO.int a.1 b.1),iV .i64<|LO.cmp LO.int a.2.1 b.2.1,iV .i64<|LO.cmp LO.int a.2.2.2.1 b.2.2.2.1,iV .i64<|LO.cmp LO.int a.2.2.1 b.2.2.1,iV .i64 (LO.cmp LO.int a.2.2.2.2 b.2.2.2.2)]) rfl fun _=>kr) (Az [1,2]) fun e=>Wd.yc (v:=iV .i64<|Sp [LO.cmp LO.int a.1 b.1,LO.cmp LO.int a.2.1 b.2.1,LO.cmp LO.int a.2.2.2.1 b.2.2.2.1,LO.cmp LO.int a.2.2.1 b.2.2.1,LO.cmp LO.int a.2.2.2.2 b.2.2.2.2]) rfl rfl rfl (A8 fun d c=>(Aob (LO.cmp LO.int a.1 b.1) (LO.cmp LO.int a.2.1 b.2.1) (LO.cmp LO.int a.2.2.2.1 b.2.2.2.1) (LO.cmp LO.int a.2.2.1 b.2.2.1) (LO.cmp LO.int a.2.2.2.2 b.2.2.2.2) (some ⟨e,0,none⟩) 5 _<|A4 (i:=0) (j:=0) (t:=3) (b:=e) c rfl rfl)) (Ee [1,2])<|Dh 1 [] ?_
 refine Cl<|Al [] An rfl<|Am rfl<|D7 rfl (Ar<|iV .i64<|Sp [LO.cmp LO.int a.1 b.1,LO.cmp LO.int a.2.1 b.2.1,LO.cmp LO.int a.2.2.2.1 b.2.2.2.1,LO.cmp LO.int a.2.2.1 b.2.2.1,LO.cmp LO.int a.2.2.2.2 b.2.2.2.2])<|by rw[orF]
abbrev Q0(x:(Int×Int×Int×Int×Int)×(Option Nat)):List Value:=[iV .u8 x.1.1,iV .u32 x.1.2.1,iV .u32 x.1.2.2.1,iV .u16 x.1.2.2.2.1,iV .u16 x.1.2.2.2.2,pL (Cz x.2)]
theorem Yy(x:(Int×Int×Int×Int×Int)×(Option Nat))(k:Int×Int×Int×Int×Int)(a:Option Addr)(n cap:Nat)(b:Int)(d e:Nat)(w:World)(f:At w (some ⟨e,0,none⟩) [pL (some ⟨d,0,none⟩)])(g:At w (some ⟨d,0,none⟩) [sL a n cap,Value.int .i64 b,Value.func (.func 31) #[] #[]]):Calls prog 161 #[aV [iV .u8 x.1.1,iV .u32 x.1.2.1,iV .u32 x.1.2.2.1,iV .u16 x.1.2.2.2.1,iV .u16 x.1.2.2.2.2,pL (Cz x.2)],aV (Kw k),pV e 0] w (Df w (.int .i64 (LO.cmp ordF x.1 k))):=by
 refine Ap (M:=[]) (LL:=[]) (n:=14) func161 rfl rfl A7 (Mem.refl _)<|W.s ?_
 refine Ac<|Af rfl (Bx (Q0 x) rfl) fun l=>?_
 refine Af rfl (Bx (Kw k) rfl) fun o=>Ab 1<|Ai<|W.s ?_
 refine C5 [(0,true),(1,true),(2,true),(3,true),(4,true),(5,true),(6,false),(7,false),(8,false)] [0,1,2,3,4,5]<|Bm rfl (Ys.ld (a:=⟨e,0,none⟩) rfl Aa isAgg85 fun i h=>by have c:=(f.mem0 h).ld (q:=0) (v:=pV d 0) rfl;rw[Be]at c;exact c)<|B5 2<|Bm rfl (Ys.ld (a:=⟨d,2,none⟩) rfl Aa isAgg94 fun i h=>by have c:=(g.mem0 h).ld (q:=2) (v:=Value.func (.func 31) #[] #[]) rfl;rw[Be]at c;exact c)<|Bs 3 [(1,0),(0,0)] ?_
 refine Ec (v:=iV .i64<|LO.cmp ordF x.1 k) rfl (A8 fun i j=>(Akn x.1 k _))<|Dh 1 []<|Cl<|Al [] An rfl ?_
 refine Am rfl<|D7 rfl (Ar<|iV .i64<|LO.cmp ordF x.1 k) rfl
theorem Aoc{xs:List ((Int×Int×Int×Int×Int)×(Option Nat))}{k:Int×Int×Int×Int×Int}(b:Gj ordF xs):((decide (((Bk ordF xs k:Nat):Int)<(xs.length:Int)))&&((LO.cmp ordF (xs.getD (Bk ordF xs k) dS).1 k)==0))=Bq xs k:=by
  rw[←Lb dS b]
  congr 1
  · exact decide_eq_decide.2 Ae
  · rw[Bool.eq_iff_iff,beq_iff_eq,decide_eq_true_eq];exact LO.cmp_eq _
abbrev Q1(k:Int×Int×Int×Int×Int):List Value:=(Kw k)
theorem Aod(xs:List ((Int×Int×Int×Int×Int)×(Option Nat)))(a:Option Addr)(cap:Nat)(f:Int)(T:Nat)(E:Nat)(k:Int×Int×Int×Int×Int)(w:World)(L:At w (some ⟨E,0,none⟩) [pL (some ⟨T,0,none⟩)])(N:At w (some ⟨T,0,none⟩) [sL a xs.length cap,Value.int .i64 f,Value.func (.func 31) #[] #[]])(r:At w a (mm Gk xs))(hn:xs.length≤100000)(U:Gj ordF xs):Calls prog 160 #[sL a xs.length cap,aV (Kw k),Value.func (.func 161) #[] #[pV E 0]] w (Df w (Value.tuple #[nV .i64 (Bk ordF xs k),bV (Bq xs k)])):=by
 refine Ap (M:=[]) (LL:=[]) (n:=49) func160 rfl rfl A7 (Mem.refl _)<|W.s ?_
 refine Ac<|Af rfl (Bx (Q1 k) rfl) fun V=>?_
 refine Ab 2<|Ai<|Aj []<|Aj [] ?_
 refine W.s<|W.block<|Fx [0,2,4,8,9,10] (fun(i:Nat) (j:Nat)=>[sL a xs.length cap,Value.func (.func 161) #[] #[pV E 0],pV V 0,nV .i64 xs.length,nV .i64 i,nV .i64 j]) (fun(i:Nat) (j:Nat)=>i≤Bk ordF xs k∧Bk ordF xs k≤j∧j≤xs.length) (fun(i:Nat) (j:Nat)=>[[cb V (Q1 k) 47]]) (fun(i:Nat) (j:Nat)=>j-i) 0 xs.length Aa ⟨(Nat.zero_le _),G4,(Nat.le_refl _)⟩ (by rfl) fun i j f9 J8 O F=>?_
 obtain⟨hi,hj,ag⟩:=O
 refine W.s<|Aj [] ?_
 refine Ak (decide<|((i:Nat):Int)<(j:Int)) Aa (fun X=>?_) fun Y=>?_
 ·have P:=X;try simp only[zA]at P
  refine Ag<|A9<|W.block<|Av ?_
  refine Ab 2<|Bw (((i+j):Nat):Int) (i:Int) (j:Int)<|Ao (v:=nV .u64<|i+j) ((Ys.p (v:=.int .u64<|Ct .u64 ((i+j:Nat):Int))).conseq<|Ad<|Co Ae Ae)<|Ao (v:=nV .u64<|(i+j)/2) ((Ys.p (v:=.int .u64<|Ib .u64 ((i+j:Nat):Int) ((1:Nat):Int))).conseq<|Ad<|Fc (i+j) 1 An)<|Ao (v:=nV .i64<|(i+j)/2) ((Ys.p (v:=.int .i64<|Ct .i64 (((i+j)/2:Nat):Int))).conseq<|Ad<|Dg Ae Ae) ?_
  refine Ab 1<|Ai<|W.s<|C5 [(0,true),(1,true),(2,true),(3,true),(4,true),(5,false),(6,false),(7,false)] [0,1,2,3,4] ?_
  refine B5 3<|Bm (v:=Value.pointer<|some<|Cs a<|((i+j)/2)*6) rfl (Bb fun x c=>Aq (k:=.i64) (a:=a) (len:=xs.length) (cap:=cap) (i:=(((i+j)/2:Nat):Int)) (sz:=6) rfl Aa Aa runUnderlying151 sizeOf173 Ae Ae<|(r.mem0 c).here<|by rw[Ch (g:=Gk) (sz:=6) (fun _=>rfl)];first|omega|(simp;omega))<|Bm (v:=aV [iV .u8 (((xs.getD ((i+j)/2) dS).1).1),iV .u32<|((xs.getD ((i+j)/2) dS).1).2.1,iV .u32<|((xs.getD ((i+j)/2) dS).1).2.2.1,iV .u16<|((xs.getD ((i+j)/2) dS).1).2.2.2.1,iV .u16<|((xs.getD ((i+j)/2) dS).1).2.2.2.2,Value.pointer (Cz<|(xs.getD ((i+j)/2) dS).2)]) rfl (Ys.ldN (a:=Cs a<|((i+j)/2)*6) (vs:=[iV .u8 (((xs.getD ((i+j)/2) dS).1).1),iV .u32<|((xs.getD ((i+j)/2) dS).1).2.1,iV .u32<|((xs.getD ((i+j)/2) dS).1).2.2.1,iV .u16<|((xs.getD ((i+j)/2) dS).1).2.2.2.1,iV .u16<|((xs.getD ((i+j)/2) dS).1).2.2.2.2,Value.pointer (Cz<|(xs.getD ((i+j)/2) dS).2)]) rfl Aa isAgg173 sizeOf173 rfl fun x c=>(r.mem0 c).ldN<|Db (g:=Gk) (sz:=6) (fun _=>rfl) dS (xs:=xs) (k:=(i+j)/2) Ae)<|Bs 1 [(0,0)]<|Ec (v:=iV .i64<|LO.cmp ordF ((xs.getD ((i+j)/2) dS).1) k) rfl (A8 fun x l=>(Yy (((xs.getD ((i+j)/2) dS).1),((xs.getD ((i+j)/2) dS).2)) k a xs.length cap f T E _ (L.mem0 l)<|N.mem0 l)) ?_
  refine Bs 1 []<|Cl ?_
  refine Ak (decide<|(LO.cmp ordF ((xs.getD ((i+j)/2) dS).1) k)<0) Aa (fun Z=>?_) fun aa=>?_
  ·have A:=Z;try simp only[zA]at A
   refine Ac<|Ab 1<|Bw (((((i+j)/2)+1):Nat):Int) (((i+j)/2:Nat):Int) 1<|Ab 1<|Ay ?_
   have o:=Gy dS (k:=k) U (h:=(i+j)/2) Ae
   have Q:=o.1 (H4 _|>.1 A)
   refine fun x c=>F ((i+j)/2+1) j _ x Ae ⟨Ae,Ae,Ae⟩ ?_ c
   kernel_rfl
  ·have B:=aa;try simp only[zA]at B
   refine Ac<|Ab 2<|Ay ?_
   have o:=Gy dS (k:=k) U (h:=(i+j)/2) Ae
   have Q: ¬((i+j)/2<Bk ordF xs k):=fun c=>B (H4 _|>.2 (o.2 c))
   refine fun x c=>F i ((i+j)/2) _ x Ae ⟨Ae,Ae,Ae⟩ ?_ c
   kernel_rfl
 ·have R:=Y;try simp only[zA]at R
  refine Cm<|A9<|W.s<|C5 [(0,true),(1,true),(2,false),(3,false),(4,false),(5,true),(6,true),(7,true),(8,true),(9,true),(10,false),(11,false),(12,true),(13,true),(14,false),(15,false)] [0,1,5,6,7,8,9,12,13]<|Bs 5 [] ?_
  refine Bg (v:=Value.func (.func 161) #[] #[pV E 0]) (decide<|((i:Nat):Int)<(xs.length:Int)) rfl (Bv rfl Aa) rfl (fun ab=>?_) ?_
  ·exact Ys.p
  refine Bg (v:=sL a xs.length cap) (decide<|((i:Nat):Int)<(xs.length:Int)) rfl (Bv rfl Aa) rfl (fun ad=>?_) ?_
  ·exact Ys.p
  refine Bg (v:=nV .i64 i) (decide<|((i:Nat):Int)<(xs.length:Int)) rfl (Bv rfl Aa) rfl (fun ae=>?_) ?_
  ·exact Ys.p
  refine Bg (v:=pL<|some<|Cs a<|i*6) (decide<|((i:Nat):Int)<(xs.length:Int)) rfl (Bv rfl Aa) rfl (fun q=>?_) ?_
  ·have G:=q;try simp only[zA]at G
   refine Bh (t:=41) (v0:=sL a xs.length cap) (lz (g:=decide<|((i:Nat):Int)<(xs.length:Int)) (u:=undef) q Aa)<|Bh (t:=42) (v0:=nV .i64 i) (lz (g:=decide<|((i:Nat):Int)<(xs.length:Int)) (u:=undef) q Aa) ?_
   exact Bb fun x c=>Aq (k:=.i64) (a:=a) (len:=xs.length) (cap:=cap) (i:=(i:Int)) (sz:=6) rfl Aa Aa runUnderlying151 sizeOf173 Ae Ae<|(r.mem0 c).here<|by rw[Ch (g:=Gk) (sz:=6) (fun _=>rfl)];first|omega|(simp;omega)
  refine Bg (v:=aV [iV .u8 (((xs.getD i dS).1).1),iV .u32<|((xs.getD i dS).1).2.1,iV .u32<|((xs.getD i dS).1).2.2.1,iV .u16<|((xs.getD i dS).1).2.2.2.1,iV .u16<|((xs.getD i dS).1).2.2.2.2,pL (Cz<|(xs.getD i dS).2)]) (decide<|((i:Nat):Int)<(xs.length:Int)) rfl (Bv rfl Aa) rfl (fun C=>?_) ?_
  ·have H:=C;try simp only[zA]at H
   refine Bh (t:=43) (v0:=pL<|some<|Cs a<|i*6) (lz (g:=decide<|((i:Nat):Int)<(xs.length:Int)) (u:=undef) C Aa) ?_
   exact Ys.ldN (a:=Cs a<|i*6) (vs:=[iV .u8 (((xs.getD i dS).1).1),iV .u32<|((xs.getD i dS).1).2.1,iV .u32<|((xs.getD i dS).1).2.2.1,iV .u16<|((xs.getD i dS).1).2.2.2.1,iV .u16<|((xs.getD i dS).1).2.2.2.2,pL (Cz<|(xs.getD i dS).2)]) rfl Aa isAgg173 sizeOf173 rfl fun x c=>(r.mem0 c).ldN<|Db (g:=Gk) (sz:=6) (fun _=>rfl) dS (xs:=xs) (k:=i) Ae
  refine Bp (v:=aV<|Q1 k) (decide<|((i:Nat):Int)<(xs.length:Int)) rfl (Bv rfl Aa) rfl (fun af=>?_) (.inr fun _ c=>c) ?_
  ·refine Ys.yc ?_
   exact F0 V 0 0 0 (Q1 k) isAgg47 sizeOf47
  refine Bp (v:=iV .i64<|LO.cmp ordF ((xs.getD i dS).1) k) (decide<|((i:Nat):Int)<(xs.length:Int)) rfl (Bv rfl Aa) rfl (fun d=>?_) (.inr fun _ c=>c) ?_
  ·have I:=d;try simp only[zA]at I
   refine I0 (t:=40) (v0:=Value.func (.func 161) #[] #[pV E 0]) (lz (g:=decide<|((i:Nat):Int)<(xs.length:Int)) (u:=undef) d Aa)<|I0 (t:=44) (v0:=aV [iV .u8 (((xs.getD i dS).1).1),iV .u32<|((xs.getD i dS).1).2.1,iV .u32<|((xs.getD i dS).1).2.2.1,iV .u16<|((xs.getD i dS).1).2.2.2.1,iV .u16<|((xs.getD i dS).1).2.2.2.2,pL (Cz<|(xs.getD i dS).2)]) (lz (g:=decide<|((i:Nat):Int)<(xs.length:Int)) (u:=undef) d Aa)<|I0 (t:=45) (v0:=aV<|Q1 k) (lz (g:=decide<|((i:Nat):Int)<(xs.length:Int)) (u:=undef) d Aa) ?_
   exact A8 fun x l=>(Yy (((xs.getD i dS).1),((xs.getD i dS).2)) k a xs.length cap f T E _ (L.mem0 l)<|N.mem0 l)
  refine Bg (v:=bV<|(LO.cmp ordF ((xs.getD i dS).1) k)==0) (decide<|((i:Nat):Int)<(xs.length:Int)) rfl (Bv rfl Aa) rfl (fun D=>?_) ?_
  ·have J:=D;try simp only[zA]at J
   refine Bh (t:=46) (v0:=iV .i64<|LO.cmp ordF ((xs.getD i dS).1) k) (lz (g:=decide<|((i:Nat):Int)<(xs.length:Int)) (u:=undef) D Aa) ?_
   exact Ys.p
  refine Bm (v:=bV<|(decide<|((i:Nat):Int)<(xs.length:Int))&&((LO.cmp ordF ((xs.getD i dS).1) k)==0)) rfl (B9 (e:=decide<|((i:Nat):Int)<(xs.length:Int)) (b:=(LO.cmp ordF ((xs.getD i dS).1) k)==0) rfl Aa Aa Aa)<|Bs 2 []<|Cl<|Al [] An rfl ?_
  refine Am rfl ?_
  have S:i=Bk ordF xs k:=by omega
  exact L1 rfl (Ar<|nV .i64 i) (Ar<|bV<|(decide<|((i:Nat):Int)<(xs.length:Int))&&((LO.cmp ordF ((xs.getD i dS).1) k)==0))<|by clear F;rw[S];refine congrArg (fun b=>Value.tuple #[_,.bool b]) ?_;exact Aoc U
theorem T1(xs:List ((Int×Int×Int×Int×Int)×(Option Nat)))(a:Option Addr)(cap:Nat)(c:Int)(e:Nat)(k:Int×Int×Int×Int×Int)(w:World)(f:At w (some ⟨e,0,none⟩) [sL a xs.length cap,Value.int .i64 c,Value.func (.func 31) #[] #[]])(g:At w a (mm Gk xs))(x:xs.length≤100000)(o:Gj ordF xs):Calls prog 109 #[pV e 0,aV (Kw k)] w (Df w (Value.tuple #[nV .i64 (Bk ordF xs k),bV (Bq xs k)])):=by
 refine Ap (M:=[]) (LL:=[]) (n:=15) func109 rfl rfl A7 (Mem.refl _)<|W.s ?_
 refine Ac<|Af rfl (E9 (v:=pV e 0) (cs:=[pV e 0]) rfl rfl Aa rfl) fun h=>?_
 refine Af rfl (Bx (Kw k) rfl) fun A=>Ab 2<|Ai<|W.s ?_
 refine C5 [(0,true),(1,true),(2,true),(3,true),(4,true),(5,false),(6,false),(7,true),(8,false),(9,false),(10,false)] [0,1,2,3,4,7]<|Dh 3 [(1,0)]<|Bm rfl (Ys.ld (a:=⟨e,0,none⟩) rfl Aa isAgg151 fun r u=>by have l:=(f.mem0 u).ld (q:=0) (v:=sL a xs.length cap) rfl;rw[Be]at l;exact l)<|Bs 2 [(0,0)]<|Ec (v:=Value.tuple #[nV .i64 (Bk ordF xs k),bV (Bq xs k)]) rfl (A8 fun r d=>(Aod xs a cap c e h k _ (A4 (i:=1) (j:=0) (t:=85) (b:=h) d rfl rfl) (f.mem0 d) (g.mem0 d) D1 o)) ?_
 refine Bs 4 []<|Cl<|Al [] An rfl<|Am rfl<|L1 rfl (Ar<|nV .i64<|Bk ordF xs k) (Ar<|bV<|Bq xs k) rfl
theorem T2(xs:List ((Int×Int×Int×Int×Int)×(Option Nat)))(a:Option Addr)(cap:Nat)(b:Int)(c:Nat)(w:World)(d:At w (some ⟨c,0,none⟩) [sL a xs.length cap,Value.int .i64 b,Value.func (.func 31) #[] #[]])(f:At w a (mm Gk xs))(h:xs.length≤100000)(i:Gj ordF xs):Calls prog 55 #[pV c 0] w (Df w (nV .i64 xs.length)):=by
 refine Ap (M:=[]) (LL:=[]) (n:=8) func55 rfl rfl A7 (Mem.refl _)<|Aj []<|Av<|Ab 3 ?_
 refine Ao (Ys.ld (a:=⟨c,0,none⟩) rfl Aa isAgg151 fun j g=>by have e:=(d.mem0 g).ld (q:=0) (v:=sL a xs.length cap) rfl;rw[Be]at e;exact e)<|Ab 2<|Ai<|Am rfl<|D7 rfl (Ar<|nV .i64 xs.length) rfl
theorem T4(xs:List ((Int×Int×Int×Int×Int)×(Option Nat)))(a:Option Addr)(cap:Nat)(b:Int)(c:Nat)(w:World)(d:At w (some ⟨c,0,none⟩) [sL a xs.length cap,Value.int .i64 b,Value.func (.func 31) #[] #[]])(f:At w a (mm Gk xs))(h:xs.length≤100000)(i:Gj ordF xs):Calls prog 100 #[pV c 0] w (Df w (iV .i64 b)):=by
 refine Ap (M:=[]) (LL:=[]) (n:=7) func100 rfl rfl A7 (Mem.refl _)<|Aj []<|Av<|Ab 3 ?_
 refine Ao (Ys.ld (a:=⟨c,1,none⟩) rfl Aa isAgg3 fun j g=>by have e:=(d.mem0 g).ld (q:=1) (v:=iV .i64 b) rfl;rw[Be]at e;exact e)<|Ab 1<|Ai<|Am rfl<|D7 rfl (Ar<|iV .i64 b) rfl
theorem Mx(xs:List ((Int×Int×Int×Int×Int)×(Option Nat)))(a:Option Addr)(cap:Nat)(b:Int)(h:Nat)(k:Int×Int×Int×Int×Int)(w:World)(d:At w (some ⟨h,0,none⟩) [sL a xs.length cap,Value.int .i64 b,Value.func (.func 31) #[] #[]])(c:At w a (mm Gk xs))(x:xs.length≤100000)(j:Gj ordF xs):Calls prog 56 #[pV h 0,aV (Kw k)] w (Df w (Value.tuple #[pL (Cz (B1 none xs k)),bV (Bq xs k)])):=by
 refine Ap (M:=[]) (LL:=[]) (n:=24) func56 rfl rfl A7 (Mem.refl _)<|W.s ?_
 refine Ac<|Af rfl (Bx (Kw k) rfl) fun A=>?_
 refine Ab 2<|Ai<|W.s<|W.s ?_
 refine Ac<|A5 2 [(0,0)]<|Cb (v:=Value.tuple #[nV .i64 (Bk ordF xs k),bV (Bq xs k)]) (A8 fun l e=>(T1 xs a cap b h k _ (d.mem0 e) (c.mem0 e) D1 j))<|Ab 5<|Ay ?_
 refine A9<|Al [] An rfl<|Aj [] ?_
 refine Ak (Bq xs k) Aa (fun o=>?_) fun r=>?_
 ·refine W.s ?_
  have t:=G5 dS j o
  refine Ac<|Ab 3<|Ao (Ys.ld (a:=⟨h,0,none⟩) rfl Aa isAgg151 fun l f=>by have u:=(d.mem0 f).ld (q:=0) (v:=Value.slice a xs.length cap) rfl;rw[Be]at u;exact u)<|Ab 1<|Ao (v:=Value.pointer<|some<|Cs a<|(Bk ordF xs k)*6) (Bb fun l f=>Aq (k:=.i64) (a:=a) (len:=xs.length) (cap:=cap) (i:=(Bk ordF xs k:Int)) (sz:=6) rfl Aa Aa runUnderlying151 sizeOf173 Ae Ae<|(c.mem0 f).here<|by rw[Ch (g:=Gk) (sz:=6) (fun _=>rfl)];first|omega|(simp;omega)) ?_
  refine Ab 1<|Ao (v:=pL<|Cz<|(xs.getD (Bk ordF xs k) dS).2) (Ys.ld (a:=(Cs a<|(Bk ordF xs k)*6).add 5) rfl Aa isAgg93 fun l f=>(c.mem0 f).ldF<|Ki (g:=Gk) (sz:=6) (fun _=>rfl) dS (xs:=xs) (k:=Bk ordF xs k) Ae 5 rfl)<|Ab 2<|Ai ?_
  refine Am rfl<|L1 rfl (Ar<|pL<|Cz<|(xs.getD (Bk ordF xs k) dS).2) (Ar<|bV true)<|by rw[Pr dS j o,o];try rfl
 ·refine Ag<|A9<|Aj []<|Am rfl<|L1 rfl (Ar<|pL none) (Ar<|bV false)<|by rw[Hy r,r];try rfl
theorem Ako(c:Int)(w:World):Calls prog 30 #[iV .i64 c,Value.func (.func 31) #[] #[]] w (Bn w (fun _:Nat=>True) (fun b=>.pointer (some ⟨b,0,none⟩)) [] (fun b=>[[cb b [sL none 0 0,iV .i64 (Ep c 0),Value.func (.func 31) #[] #[]] 153]])):=by
 refine Ap (M:=[]) (LL:=[]) (n:=10) func30 rfl rfl A7 (Mem.refl _)<|Aj []<|Av<|Ab 4 ?_
 have f:=Kf c 0
 refine Af rfl (Bx [sL none 0 0,iV .i64<|Ep c 0,Value.func (.func 31) #[] #[]] rfl) fun e=>Ab 1<|Ai<|Am rfl<|D9 rfl (Ar<|pV e 0) fun g d=>⟨e,trivial,rfl,(d.pick [0] An rfl)⟩
theorem Yz(x:(Int×Int×Int)×(Lse))(k:Int×Int×Int)(a:Option Addr)(n cap:Nat)(b:Int)(d e:Nat)(w:World)(f:At w (some ⟨e,0,none⟩) [pL (some ⟨d,0,none⟩)])(g:At w (some ⟨d,0,none⟩) [sL a n cap,Value.int .i64 b,Value.func (.func 33) #[] #[]]):Calls prog 169 #[aV [iV .u8 x.1.1,iV .u32 x.1.2.1,iV .u16 x.1.2.2,iV .u16 x.2.ext,iV .i64 x.2.count],aV (Ky k),pV e 0] w (Df w (.int .i64 (LO.cmp Cu x.1 k))):=by
 refine Ap (M:=[]) (LL:=[]) (n:=14) func169 rfl rfl A7 (Mem.refl _)<|W.s ?_
 refine Ac<|Af rfl (Bx [iV .u8 x.1.1,iV .u32 x.1.2.1,iV .u16 x.1.2.2,iV .u16 x.2.ext,iV .i64 x.2.count] rfl) fun l=>?_
 refine Af rfl (Bx (Ky k) rfl) fun o=>Ab 1<|Ai<|W.s ?_
 refine C5 [(0,true),(1,true),(2,true),(3,true),(4,true),(5,true),(6,false),(7,false),(8,false)] [0,1,2,3,4,5]<|Bm rfl (Ys.ld (a:=⟨e,0,none⟩) rfl Aa isAgg86 fun i h=>by have c:=(f.mem0 h).ld (q:=0) (v:=pV d 0) rfl;rw[Be]at c;exact c)<|B5 2<|Bm rfl (Ys.ld (a:=⟨d,2,none⟩) rfl Aa isAgg100 fun i h=>by have c:=(g.mem0 h).ld (q:=2) (v:=Value.func (.func 33) #[] #[]) rfl;rw[Be]at c;exact c)<|Bs 3 [(1,0),(0,0)] ?_
 refine Ec (v:=iV .i64<|LO.cmp Cu x.1 k) rfl (A8 fun i j=>(Akm x.1 k _))<|Dh 1 []<|Cl<|Al [] An rfl ?_
 refine Am rfl<|D7 rfl (Ar<|iV .i64<|LO.cmp Cu x.1 k) rfl
theorem Aoe{xs:List ((Int×Int×Int)×(Lse))}{k:Int×Int×Int}(b:Gj Cu xs):((decide (((Bk Cu xs k:Nat):Int)<(xs.length:Int)))&&((LO.cmp Cu (xs.getD (Bk Cu xs k) dD).1 k)==0))=Bq xs k:=by
  rw[←Lb dD b]
  congr 1
  · exact decide_eq_decide.2 Ae
  · rw[Bool.eq_iff_iff,beq_iff_eq,decide_eq_true_eq];exact LO.cmp_eq _
abbrev Q2(k:Int×Int×Int):List Value:=(Ky k)
theorem Aof(xs:List ((Int×Int×Int)×(Lse)))(a:Option Addr)(cap:Nat)(f:Int)(T:Nat)(E:Nat)(k:Int×Int×Int)(w:World)(L:At w (some ⟨E,0,none⟩) [pL (some ⟨T,0,none⟩)])(N:At w (some ⟨T,0,none⟩) [sL a xs.length cap,Value.int .i64 f,Value.func (.func 33) #[] #[]])(r:At w a (mm Gp xs))(hn:xs.length≤100000)(U:Gj Cu xs):Calls prog 168 #[sL a xs.length cap,aV (Ky k),Value.func (.func 169) #[] #[pV E 0]] w (Df w (Value.tuple #[nV .i64 (Bk Cu xs k),bV (Bq xs k)])):=by
 refine Ap (M:=[]) (LL:=[]) (n:=49) func168 rfl rfl A7 (Mem.refl _)<|W.s ?_
 refine Ac<|Af rfl (Bx (Q2 k) rfl) fun V=>?_
 refine Ab 2<|Ai<|Aj []<|Aj [] ?_
 refine W.s<|W.block<|Fx [0,2,4,8,9,10] (fun(i:Nat) (j:Nat)=>[sL a xs.length cap,Value.func (.func 169) #[] #[pV E 0],pV V 0,nV .i64 xs.length,nV .i64 i,nV .i64 j]) (fun(i:Nat) (j:Nat)=>i≤Bk Cu xs k∧Bk Cu xs k≤j∧j≤xs.length) (fun(i:Nat) (j:Nat)=>[[cb V (Q2 k) 97]]) (fun(i:Nat) (j:Nat)=>j-i) 0 xs.length Aa ⟨(Nat.zero_le _),G4,(Nat.le_refl _)⟩ (by rfl) fun i j f9 J8 O F=>?_
 obtain⟨hi,hj,ag⟩:=O
 refine W.s<|Aj [] ?_
 refine Ak (decide<|((i:Nat):Int)<(j:Int)) Aa (fun X=>?_) fun Y=>?_
 ·have P:=X;try simp only[zA]at P
  refine Ag<|A9<|W.block<|Av ?_
  refine Ab 2<|Bw (((i+j):Nat):Int) (i:Int) (j:Int)<|Ao (v:=nV .u64<|i+j) ((Ys.p (v:=.int .u64<|Ct .u64 ((i+j:Nat):Int))).conseq<|Ad<|Co Ae Ae)<|Ao (v:=nV .u64<|(i+j)/2) ((Ys.p (v:=.int .u64<|Ib .u64 ((i+j:Nat):Int) ((1:Nat):Int))).conseq<|Ad<|Fc (i+j) 1 An)<|Ao (v:=nV .i64<|(i+j)/2) ((Ys.p (v:=.int .i64<|Ct .i64 (((i+j)/2:Nat):Int))).conseq<|Ad<|Dg Ae Ae) ?_
  refine Ab 1<|Ai<|W.s<|C5 [(0,true),(1,true),(2,true),(3,true),(4,true),(5,false),(6,false),(7,false)] [0,1,2,3,4] ?_
  refine B5 3<|Bm (v:=Value.pointer<|some<|Cs a<|((i+j)/2)*5) rfl (Bb fun x c=>Aq (k:=.i64) (a:=a) (len:=xs.length) (cap:=cap) (i:=(((i+j)/2:Nat):Int)) (sz:=5) rfl Aa Aa runUnderlying158 sizeOf234 Ae Ae<|(r.mem0 c).here<|by rw[Ch (g:=Gp) (sz:=5) (fun _=>rfl)];first|omega|(simp;omega))<|Bm (v:=aV [iV .u8 (((xs.getD ((i+j)/2) dD).1).1),iV .u32<|((xs.getD ((i+j)/2) dD).1).2.1,iV .u16<|((xs.getD ((i+j)/2) dD).1).2.2,iV .u16<|((xs.getD ((i+j)/2) dD).2).ext,iV .i64 (((xs.getD ((i+j)/2) dD).2).count)]) rfl (Ys.ldN (a:=Cs a<|((i+j)/2)*5) (vs:=[iV .u8 (((xs.getD ((i+j)/2) dD).1).1),iV .u32<|((xs.getD ((i+j)/2) dD).1).2.1,iV .u16<|((xs.getD ((i+j)/2) dD).1).2.2,iV .u16<|((xs.getD ((i+j)/2) dD).2).ext,iV .i64 (((xs.getD ((i+j)/2) dD).2).count)]) rfl Aa isAgg234 sizeOf234 rfl fun x c=>(r.mem0 c).ldN<|Db (g:=Gp) (sz:=5) (fun _=>rfl) dD (xs:=xs) (k:=(i+j)/2) Ae)<|Bs 1 [(0,0)]<|Ec (v:=iV .i64<|LO.cmp Cu ((xs.getD ((i+j)/2) dD).1) k) rfl (A8 fun x l=>(Yz (((xs.getD ((i+j)/2) dD).1),((xs.getD ((i+j)/2) dD).2)) k a xs.length cap f T E _ (L.mem0 l)<|N.mem0 l)) ?_
  refine Bs 1 []<|Cl ?_
  refine Ak (decide<|(LO.cmp Cu ((xs.getD ((i+j)/2) dD).1) k)<0) Aa (fun Z=>?_) fun aa=>?_
  ·have A:=Z;try simp only[zA]at A
   refine Ac<|Ab 1<|Bw (((((i+j)/2)+1):Nat):Int) (((i+j)/2:Nat):Int) 1<|Ab 1<|Ay ?_
   have o:=Gy dD (k:=k) U (h:=(i+j)/2) Ae
   have Q:=o.1 (H4 _|>.1 A)
   refine fun x c=>F ((i+j)/2+1) j _ x Ae ⟨Ae,Ae,Ae⟩ ?_ c
   kernel_rfl
  ·have B:=aa;try simp only[zA]at B
   refine Ac<|Ab 2<|Ay ?_
   have o:=Gy dD (k:=k) U (h:=(i+j)/2) Ae
   have Q: ¬((i+j)/2<Bk Cu xs k):=fun c=>B (H4 _|>.2 (o.2 c))
   refine fun x c=>F i ((i+j)/2) _ x Ae ⟨Ae,Ae,Ae⟩ ?_ c
   kernel_rfl
 ·have R:=Y;try simp only[zA]at R
  refine Cm<|A9<|W.s<|C5 [(0,true),(1,true),(2,false),(3,false),(4,false),(5,true),(6,true),(7,true),(8,true),(9,true),(10,false),(11,false),(12,true),(13,true),(14,false),(15,false)] [0,1,5,6,7,8,9,12,13]<|Bs 5 [] ?_
  refine Bg (v:=Value.func (.func 169) #[] #[pV E 0]) (decide<|((i:Nat):Int)<(xs.length:Int)) rfl (Bv rfl Aa) rfl (fun ab=>?_) ?_
  ·exact Ys.p
  refine Bg (v:=sL a xs.length cap) (decide<|((i:Nat):Int)<(xs.length:Int)) rfl (Bv rfl Aa) rfl (fun ad=>?_) ?_
  ·exact Ys.p
  refine Bg (v:=nV .i64 i) (decide<|((i:Nat):Int)<(xs.length:Int)) rfl (Bv rfl Aa) rfl (fun ae=>?_) ?_
  ·exact Ys.p
  refine Bg (v:=pL<|some<|Cs a<|i*5) (decide<|((i:Nat):Int)<(xs.length:Int)) rfl (Bv rfl Aa) rfl (fun q=>?_) ?_
  ·have G:=q;try simp only[zA]at G
   refine Bh (t:=41) (v0:=sL a xs.length cap) (lz (g:=decide<|((i:Nat):Int)<(xs.length:Int)) (u:=undef) q Aa)<|Bh (t:=42) (v0:=nV .i64 i) (lz (g:=decide<|((i:Nat):Int)<(xs.length:Int)) (u:=undef) q Aa) ?_
   exact Bb fun x c=>Aq (k:=.i64) (a:=a) (len:=xs.length) (cap:=cap) (i:=(i:Int)) (sz:=5) rfl Aa Aa runUnderlying158 sizeOf234 Ae Ae<|(r.mem0 c).here<|by rw[Ch (g:=Gp) (sz:=5) (fun _=>rfl)];first|omega|(simp;omega)
  refine Bg (v:=aV [iV .u8 (((xs.getD i dD).1).1),iV .u32<|((xs.getD i dD).1).2.1,iV .u16<|((xs.getD i dD).1).2.2,iV .u16<|((xs.getD i dD).2).ext,iV .i64 (((xs.getD i dD).2).count)]) (decide<|((i:Nat):Int)<(xs.length:Int)) rfl (Bv rfl Aa) rfl (fun C=>?_) ?_
  ·have H:=C;try simp only[zA]at H
   refine Bh (t:=43) (v0:=pL<|some<|Cs a<|i*5) (lz (g:=decide<|((i:Nat):Int)<(xs.length:Int)) (u:=undef) C Aa) ?_
   exact Ys.ldN (a:=Cs a<|i*5) (vs:=[iV .u8 (((xs.getD i dD).1).1),iV .u32<|((xs.getD i dD).1).2.1,iV .u16<|((xs.getD i dD).1).2.2,iV .u16<|((xs.getD i dD).2).ext,iV .i64 (((xs.getD i dD).2).count)]) rfl Aa isAgg234 sizeOf234 rfl fun x c=>(r.mem0 c).ldN<|Db (g:=Gp) (sz:=5) (fun _=>rfl) dD (xs:=xs) (k:=i) Ae
  refine Bp (v:=aV<|Q2 k) (decide<|((i:Nat):Int)<(xs.length:Int)) rfl (Bv rfl Aa) rfl (fun af=>?_) (.inr fun _ c=>c) ?_
  ·refine Ys.yc ?_
   exact F0 V 0 0 0 (Q2 k) isAgg97 sizeOf97
  refine Bp (v:=iV .i64<|LO.cmp Cu ((xs.getD i dD).1) k) (decide<|((i:Nat):Int)<(xs.length:Int)) rfl (Bv rfl Aa) rfl (fun d=>?_) (.inr fun _ c=>c) ?_
  ·have I:=d;try simp only[zA]at I
   refine I0 (t:=40) (v0:=Value.func (.func 169) #[] #[pV E 0]) (lz (g:=decide<|((i:Nat):Int)<(xs.length:Int)) (u:=undef) d Aa)<|I0 (t:=44) (v0:=aV [iV .u8 (((xs.getD i dD).1).1),iV .u32<|((xs.getD i dD).1).2.1,iV .u16<|((xs.getD i dD).1).2.2,iV .u16<|((xs.getD i dD).2).ext,iV .i64 (((xs.getD i dD).2).count)]) (lz (g:=decide<|((i:Nat):Int)<(xs.length:Int)) (u:=undef) d Aa)<|I0 (t:=45) (v0:=aV<|Q2 k) (lz (g:=decide<|((i:Nat):Int)<(xs.length:Int)) (u:=undef) d Aa) ?_
   exact A8 fun x l=>(Yz (((xs.getD i dD).1),((xs.getD i dD).2)) k a xs.length cap f T E _ (L.mem0 l)<|N.mem0 l)
  refine Bg (v:=bV<|(LO.cmp Cu ((xs.getD i dD).1) k)==0) (decide<|((i:Nat):Int)<(xs.length:Int)) rfl (Bv rfl Aa) rfl (fun D=>?_) ?_
  ·have J:=D;try simp only[zA]at J
   refine Bh (t:=46) (v0:=iV .i64<|LO.cmp Cu ((xs.getD i dD).1) k) (lz (g:=decide<|((i:Nat):Int)<(xs.length:Int)) (u:=undef) D Aa) ?_
   exact Ys.p
  refine Bm (v:=bV<|(decide<|((i:Nat):Int)<(xs.length:Int))&&((LO.cmp Cu ((xs.getD i dD).1) k)==0)) rfl (B9 (e:=decide<|((i:Nat):Int)<(xs.length:Int)) (b:=(LO.cmp Cu ((xs.getD i dD).1) k)==0) rfl Aa Aa Aa)<|Bs 2 []<|Cl<|Al [] An rfl ?_
  refine Am rfl ?_
  have S:i=Bk Cu xs k:=by omega
  exact L1 rfl (Ar<|nV .i64 i) (Ar<|bV<|(decide<|((i:Nat):Int)<(xs.length:Int))&&((LO.cmp Cu ((xs.getD i dD).1) k)==0))<|by clear F;rw[S];refine congrArg (fun b=>Value.tuple #[_,.bool b]) ?_;exact Aoe U
theorem T5(xs:List ((Int×Int×Int)×(Lse)))(a:Option Addr)(cap:Nat)(c:Int)(e:Nat)(k:Int×Int×Int)(w:World)(f:At w (some ⟨e,0,none⟩) [sL a xs.length cap,Value.int .i64 c,Value.func (.func 33) #[] #[]])(g:At w a (mm Gp xs))(x:xs.length≤100000)(o:Gj Cu xs):Calls prog 127 #[pV e 0,aV (Ky k)] w (Df w (Value.tuple #[nV .i64 (Bk Cu xs k),bV (Bq xs k)])):=by
 refine Ap (M:=[]) (LL:=[]) (n:=15) func127 rfl rfl A7 (Mem.refl _)<|W.s ?_
 refine Ac<|Af rfl (E9 (v:=pV e 0) (cs:=[pV e 0]) rfl rfl Aa rfl) fun h=>?_
 refine Af rfl (Bx (Ky k) rfl) fun A=>Ab 2<|Ai<|W.s ?_
 refine C5 [(0,true),(1,true),(2,true),(3,true),(4,true),(5,false),(6,false),(7,true),(8,false),(9,false),(10,false)] [0,1,2,3,4,7]<|Dh 3 [(1,0)]<|Bm rfl (Ys.ld (a:=⟨e,0,none⟩) rfl Aa isAgg158 fun r u=>by have l:=(f.mem0 u).ld (q:=0) (v:=sL a xs.length cap) rfl;rw[Be]at l;exact l)<|Bs 2 [(0,0)]<|Ec (v:=Value.tuple #[nV .i64 (Bk Cu xs k),bV (Bq xs k)]) rfl (A8 fun r d=>(Aof xs a cap c e h k _ (A4 (i:=1) (j:=0) (t:=86) (b:=h) d rfl rfl) (f.mem0 d) (g.mem0 d) D1 o)) ?_
 refine Bs 4 []<|Cl<|Al [] An rfl<|Am rfl<|L1 rfl (Ar<|nV .i64<|Bk Cu xs k) (Ar<|bV<|Bq xs k) rfl
theorem Oi(xs:List ((Int×Int×Int)×(Lse)))(a:Option Addr)(cap:Nat)(b:Int)(h:Nat)(k:Int×Int×Int)(w:World)(d:At w (some ⟨h,0,none⟩) [sL a xs.length cap,Value.int .i64 b,Value.func (.func 33) #[] #[]])(c:At w a (mm Gp xs))(A:xs.length≤100000)(l:Gj Cu xs):Calls prog 80 #[pV h 0,aV (Ky k)] w (Df w (Value.tuple #[aV [iV .u16 ((B1 (⟨0,0⟩:Lse) xs k).ext),iV .i64 ((B1 (⟨0,0⟩:Lse) xs k).count)],bV (Bq xs k)])):=by
 refine Ap (M:=[]) (LL:=[]) (n:=24) func80 rfl rfl A7 (Mem.refl _)<|W.s ?_
 refine Ac<|Af rfl (Bx (Ky k) rfl) fun B=>?_
 refine Af rfl (Ba zeroValue99) fun j=>Ab 1<|Ai<|W.s ?_
 refine Av<|A5 2 [(1,0)]<|Cb (v:=Value.tuple #[nV .i64 (Bk Cu xs k),bV (Bq xs k)]) (A8 fun o e=>(T5 xs a cap b h k _ (d.mem0 e) (c.mem0 e) D1 l))<|Ab 5 ?_
 refine Ai<|Al [0] An rfl<|Aj [] ?_
 refine Ak (Bq xs k) Aa (fun r=>?_) fun t=>?_
 ·refine W.s ?_
  have u:=G5 dD l r
  refine Ac<|Ab 3<|Ao (Ys.ld (a:=⟨h,0,none⟩) rfl Aa isAgg158 fun o f=>by have x:=(d.mem0 f).ld (q:=0) (v:=Value.slice a xs.length cap) rfl;rw[Be]at x;exact x)<|Ab 1<|Ao (v:=Value.pointer<|some<|Cs a<|(Bk Cu xs k)*5) (Bb fun o f=>Aq (k:=.i64) (a:=a) (len:=xs.length) (cap:=cap) (i:=(Bk Cu xs k:Int)) (sz:=5) rfl Aa Aa runUnderlying158 sizeOf234 Ae Ae<|(c.mem0 f).here<|by rw[Ch (g:=Gp) (sz:=5) (fun _=>rfl)];first|omega|(simp;omega)) ?_
  refine Ab 1<|Ao (v:=aV [iV .u16 (((xs.getD (Bk Cu xs k) dD).2).ext),iV .i64 (((xs.getD (Bk Cu xs k) dD).2).count)]) (Ys.ldN (a:=(Cs a<|(Bk Cu xs k)*5).add 3) (vs:=[iV .u16 (((xs.getD (Bk Cu xs k) dD).2).ext),iV .i64 (((xs.getD (Bk Cu xs k) dD).2).count)]) rfl Aa isAgg99 sizeOf99 rfl fun o f=>(c.mem0 f).ldNF<|Yv (g:=Gp) (sz:=5) (fun _=>rfl) dD (xs:=xs) (k:=Bk Cu xs k) Ae 3 2 rfl)<|Af rfl (A0 j 0 0 0 [iV .u16 (((xs.getD (Bk Cu xs k) dD).2).ext),iV .i64 (((xs.getD (Bk Cu xs k) dD).2).count)] sizeOf99 rfl rfl) fun _=>Ab 1<|Ay ?_
  refine A9<|Am rfl<|L1 rfl (Bu j 0 0 0 [iV .u16 (((xs.getD (Bk Cu xs k) dD).2).ext),iV .i64 (((xs.getD (Bk Cu xs k) dD).2).count)] isAgg99 sizeOf99) (Ar<|bV true)<|by rw[Pr dD l r,r];try rfl
 ·refine Ag<|A9<|Av<|A5 1 [(0,0)] ?_
  refine Af rfl (A0 j 0 0 0 zl9 sizeOf99 rfl rfl) fun _=>Ab 1<|Ai<|Am rfl<|L1 rfl (Bu j 0 0 0 zl9 isAgg99 sizeOf99) (Ar<|bV false)<|by rw[Hy t,t];try rfl
theorem Akp(c:Int)(w:World):Calls prog 32 #[iV .i64 c,Value.func (.func 33) #[] #[]] w (Bn w (fun _:Nat=>True) (fun b=>.pointer (some ⟨b,0,none⟩)) [] (fun b=>[[cb b [sL none 0 0,iV .i64 (Ep c 0),Value.func (.func 33) #[] #[]] 160]])):=by
 refine Ap (M:=[]) (LL:=[]) (n:=10) func32 rfl rfl A7 (Mem.refl _)<|Aj []<|Av<|Ab 4 ?_
 have f:=Kf c 0
 refine Af rfl (Bx [sL none 0 0,iV .i64<|Ep c 0,Value.func (.func 33) #[] #[]] rfl) fun e=>Ab 1<|Ai<|Am rfl<|D9 rfl (Ar<|pV e 0) fun g d=>⟨e,trivial,rfl,(d.pick [0] An rfl)⟩
theorem Y0(x:(Int)×(Int×Int×Int×Int×Int))(k:Int)(a:Option Addr)(n cap:Nat)(b:Int)(d e:Nat)(w:World)(f:At w (some ⟨e,0,none⟩) [pL (some ⟨d,0,none⟩)])(g:At w (some ⟨d,0,none⟩) [sL a n cap,Value.int .i64 b,Value.func (.func 35) #[] #[]]):Calls prog 164 #[aV [iV .u64 x.1,iV .u8 x.2.1,iV .u32 x.2.2.1,iV .u32 x.2.2.2.1,iV .u16 x.2.2.2.2.1,iV .u16 x.2.2.2.2.2],iV .u64 k,pV e 0] w (Df w (.int .i64 (LO.cmp LO.int x.1 k))):=by
 refine Ap (M:=[]) (LL:=[]) (n:=14) func164 rfl rfl A7 (Mem.refl _)<|W.s ?_
 refine Ac<|Af rfl (Bx [iV .u64 x.1,iV .u8 x.2.1,iV .u32 x.2.2.1,iV .u32 x.2.2.2.1,iV .u16 x.2.2.2.2.1,iV .u16 x.2.2.2.2.2] rfl) fun l=>?_
 refine Ab 1<|Ai<|W.s<|C5 [(0,true),(1,true),(2,true),(3,true),(4,true),(5,true),(6,false),(7,false),(8,false)] [0,1,2,3,4,5] ?_
 refine Bm rfl (Ys.ld (a:=⟨e,0,none⟩) rfl Aa isAgg89 fun i h=>by have c:=(f.mem0 h).ld (q:=0) (v:=pV d 0) rfl;rw[Be]at c;exact c)<|B5 2<|Bm rfl (Ys.ld (a:=⟨d,2,none⟩) rfl Aa isAgg102 fun i h=>by have c:=(g.mem0 h).ld (q:=2) (v:=Value.func (.func 35) #[] #[]) rfl;rw[Be]at c;exact c)<|Bs 3 [(0,0)]<|Ec (v:=iV .i64<|LO.cmp LO.int x.1 k) rfl (A8 fun i j=>(Ace x.1 k _)) ?_
 refine Dh 1 []<|Cl<|Al [] An rfl<|Am rfl<|D7 rfl (Ar<|iV .i64<|LO.cmp LO.int x.1 k) rfl
theorem Aog{xs:List ((Int)×(Int×Int×Int×Int×Int))}{k:Int}(b:Gj LO.int xs):((decide (((Bk LO.int xs k:Nat):Int)<(xs.length:Int)))&&((LO.cmp LO.int (xs.getD (Bk LO.int xs k) dN).1 k)==0))=Bq xs k:=by
  rw[←Lb dN b]
  congr 1
  · exact decide_eq_decide.2 Ae
  · rw[Bool.eq_iff_iff,beq_iff_eq,decide_eq_true_eq];exact LO.cmp_eq _
theorem Aoh(xs:List ((Int)×(Int×Int×Int×Int×Int)))(a:Option Addr)(cap:Nat)(d:Int)(J:Nat)(A:Nat)(k:Int)(w:World)(B:At w (some ⟨A,0,none⟩) [pL (some ⟨J,0,none⟩)])(C:At w (some ⟨J,0,none⟩) [sL a xs.length cap,Value.int .i64 d,Value.func (.func 35) #[] #[]])(o:At w a (mm Jf xs))(S:xs.length≤100000)(L:Gj LO.int xs):Calls prog 163 #[sL a xs.length cap,iV .u64 k,Value.func (.func 164) #[] #[pV A 0]] w (Df w (Value.tuple #[nV .i64 (Bk LO.int xs k),bV (Bq xs k)])):=by
 refine Ap (M:=[]) (LL:=[]) (n:=49) func163 rfl rfl A7 (Mem.refl _)<|Aj []<|Aj []<|Aj []<|W.s ?_
 refine W.block<|Fx [0,1,2,8,9,10] (fun(i:Nat) (j:Nat)=>[sL a xs.length cap,iV .u64 k,Value.func (.func 164) #[] #[pV A 0],nV .i64 xs.length,nV .i64 i,nV .i64 j]) (fun(i:Nat) (j:Nat)=>i≤Bk LO.int xs k∧Bk LO.int xs k≤j∧j≤xs.length) (fun(i:Nat) (j:Nat)=>[]) (fun(i:Nat) (j:Nat)=>j-i) 0 xs.length Aa ⟨(Nat.zero_le _),G4,(Nat.le_refl _)⟩ (by rfl) fun i j T U D u=>?_
 obtain⟨V,X,R⟩:=D
 refine W.s<|Aj [] ?_
 refine Ak (decide<|((i:Nat):Int)<(j:Int)) Aa (fun N=>?_) fun O=>?_
 ·have E:=N;try simp only[zA]at E
  refine Ag<|A9<|W.block<|Av ?_
  refine Ab 2<|Bw (((i+j):Nat):Int) (i:Int) (j:Int)<|Ao (v:=nV .u64<|i+j) ((Ys.p (v:=.int .u64<|Ct .u64 ((i+j:Nat):Int))).conseq<|Ad<|Co Ae Ae)<|Ao (v:=nV .u64<|(i+j)/2) ((Ys.p (v:=.int .u64<|Ib .u64 ((i+j:Nat):Int) ((1:Nat):Int))).conseq<|Ad<|Fc (i+j) 1 An)<|Ao (v:=nV .i64<|(i+j)/2) ((Ys.p (v:=.int .i64<|Ct .i64 (((i+j)/2:Nat):Int))).conseq<|Ad<|Dg Ae Ae) ?_
  refine Ab 1<|Ai<|Av ?_
  refine Ab 3<|Ao (v:=Value.pointer<|some<|Cs a<|((i+j)/2)*6) (Bb fun q c=>Aq (k:=.i64) (a:=a) (len:=xs.length) (cap:=cap) (i:=(((i+j)/2:Nat):Int)) (sz:=6) rfl Aa Aa runUnderlying161 sizeOf223 Ae Ae<|(o.mem0 c).here<|by rw[Ch (g:=Jf) (sz:=6) (fun _=>rfl)];first|omega|(simp;omega))<|Ao (v:=aV [iV .u64 ((xs.getD ((i+j)/2) dN).1),iV .u8<|((xs.getD ((i+j)/2) dN).2).1,iV .u32<|((xs.getD ((i+j)/2) dN).2).2.1,iV .u32<|((xs.getD ((i+j)/2) dN).2).2.2.1,iV .u16<|((xs.getD ((i+j)/2) dN).2).2.2.2.1,iV .u16 (((xs.getD ((i+j)/2) dN).2).2.2.2.2)]) (Ys.ldN (a:=Cs a<|((i+j)/2)*6) (vs:=[iV .u64 ((xs.getD ((i+j)/2) dN).1),iV .u8<|((xs.getD ((i+j)/2) dN).2).1,iV .u32<|((xs.getD ((i+j)/2) dN).2).2.1,iV .u32<|((xs.getD ((i+j)/2) dN).2).2.2.1,iV .u16<|((xs.getD ((i+j)/2) dN).2).2.2.2.1,iV .u16 (((xs.getD ((i+j)/2) dN).2).2.2.2.2)]) rfl Aa isAgg223 sizeOf223 rfl fun q c=>(o.mem0 c).ldN<|Db (g:=Jf) (sz:=6) (fun _=>rfl) dN (xs:=xs) (k:=(i+j)/2) Ae)<|Ab 1<|Cb (v:=iV .i64<|LO.cmp LO.int ((xs.getD ((i+j)/2) dN).1) k) (A8 fun q f=>(Y0 (((xs.getD ((i+j)/2) dN).1),((xs.getD ((i+j)/2) dN).2)) k a xs.length cap d J A _ (B.mem0 f)<|C.mem0 f)) ?_
  refine Ab 1<|Ai ?_
  refine Ak (decide<|(LO.cmp LO.int ((xs.getD ((i+j)/2) dN).1) k)<0) Aa (fun P=>?_) fun Q=>?_
  ·have r:=P;try simp only[zA]at r
   refine Ac<|Ab 1<|Bw (((((i+j)/2)+1):Nat):Int) (((i+j)/2:Nat):Int) 1<|Ab 1<|Ay ?_
   have l:=Gy dN (k:=k) L (h:=(i+j)/2) Ae
   have F:=l.1 (H4 _|>.1 r)
   refine fun q c=>u ((i+j)/2+1) j _ q Ae ⟨Ae,Ae,Ae⟩ ?_ c
   kernel_rfl
  ·have t:=Q;try simp only[zA]at t
   refine Ac<|Ab 2<|Ay ?_
   have l:=Gy dN (k:=k) L (h:=(i+j)/2) Ae
   have F: ¬((i+j)/2<Bk LO.int xs k):=fun c=>t (H4 _|>.2 (l.2 c))
   refine fun q c=>u i ((i+j)/2) _ q Ae ⟨Ae,Ae,Ae⟩ ?_ c
   kernel_rfl
 ·have G:=O;try simp only[zA]at G
  refine Cm<|A9<|Av<|Ab 5 ?_
  refine Da 8 (decide<|((i:Nat):Int)<(xs.length:Int)) (fun H=>by have x:=H;try simp only[zA]at x;exact Gs.m 3 [] (Gs.y (v:=Value.pointer<|some<|Cs a<|i*6) (Bb fun q c=>Aq (k:=.i64) (a:=a) (len:=xs.length) (cap:=cap) (i:=(i:Int)) (sz:=6) rfl Aa Aa runUnderlying161 sizeOf223 Ae Ae<|(o.mem0 c).here<|by rw[Ch (g:=Jf) (sz:=6) (fun _=>rfl)];first|omega|(simp;omega))<|Gs.y (v:=aV [iV .u64 ((xs.getD i dN).1),iV .u8<|((xs.getD i dN).2).1,iV .u32<|((xs.getD i dN).2).2.1,iV .u32<|((xs.getD i dN).2).2.2.1,iV .u16<|((xs.getD i dN).2).2.2.2.1,iV .u16 (((xs.getD i dN).2).2.2.2.2)]) (Ys.ldN (a:=Cs a<|i*6) (vs:=[iV .u64 ((xs.getD i dN).1),iV .u8<|((xs.getD i dN).2).1,iV .u32<|((xs.getD i dN).2).2.1,iV .u32<|((xs.getD i dN).2).2.2.1,iV .u16<|((xs.getD i dN).2).2.2.2.1,iV .u16 (((xs.getD i dN).2).2.2.2.2)]) rfl Aa isAgg223 sizeOf223 rfl fun q c=>(o.mem0 c).ldN<|Db (g:=Jf) (sz:=6) (fun _=>rfl) dN (xs:=xs) (k:=i) Ae)<|Gs.m 1 []<|Gs.k (v:=iV .i64<|LO.cmp LO.int ((xs.getD i dN).1) k) (A8 fun q f=>(Y0 (((xs.getD i dN).1),((xs.getD i dN).2)) k a xs.length cap d J A _ (B.mem0 f)<|C.mem0 f))<|Gs.z []))<|Ao (v:=bV<|(decide<|((i:Nat):Int)<(xs.length:Int))&&((LO.cmp LO.int ((xs.getD i dN).1) k)==0)) (B9 (e:=decide<|((i:Nat):Int)<(xs.length:Int)) (b:=(LO.cmp LO.int ((xs.getD i dN).1) k)==0) rfl Aa Aa Aa)<|Ab 2<|Ai ?_
  refine Am rfl ?_
  have I:i=Bk LO.int xs k:=by omega
  exact L1 rfl (Ar<|nV .i64 i) (Ar<|bV<|(decide<|((i:Nat):Int)<(xs.length:Int))&&((LO.cmp LO.int ((xs.getD i dN).1) k)==0))<|by clear u;rw[I];refine congrArg (fun b=>Value.tuple #[_,.bool b]) ?_;exact Aog L
theorem T6(xs:List ((Int)×(Int×Int×Int×Int×Int)))(a:Option Addr)(cap:Nat)(c:Int)(e:Nat)(k:Int)(w:World)(f:At w (some ⟨e,0,none⟩) [sL a xs.length cap,Value.int .i64 c,Value.func (.func 35) #[] #[]])(g:At w a (mm Jf xs))(x:xs.length≤100000)(o:Gj LO.int xs):Calls prog 114 #[pV e 0,iV .u64 k] w (Df w (Value.tuple #[nV .i64 (Bk LO.int xs k),bV (Bq xs k)])):=by
 refine Ap (M:=[]) (LL:=[]) (n:=15) func114 rfl rfl A7 (Mem.refl _)<|W.s ?_
 refine Ac<|Af rfl (E9 (v:=pV e 0) (cs:=[pV e 0]) rfl rfl Aa rfl) fun h=>?_
 refine Ab 2<|Ai<|Av ?_
 refine A5 3 [(0,0)]<|Ao (Ys.ld (a:=⟨e,0,none⟩) rfl Aa isAgg161 fun r u=>by have l:=(f.mem0 u).ld (q:=0) (v:=sL a xs.length cap) rfl;rw[Be]at l;exact l)<|Ab 2<|Cb (v:=Value.tuple #[nV .i64 (Bk LO.int xs k),bV (Bq xs k)]) (A8 fun r d=>(Aoh xs a cap c e h k _ (A4 (i:=0) (j:=0) (t:=89) (b:=h) d rfl rfl) (f.mem0 d) (g.mem0 d) D1 o))<|Ab 4 ?_
 refine Ai<|Al [] An rfl<|Am rfl<|L1 rfl (Ar<|nV .i64<|Bk LO.int xs k) (Ar<|bV<|Bq xs k) rfl
abbrev Q3(k:Int)(xs:List ((Int)×(Int×Int×Int×Int×Int))):List Value:=(Kw ((xs.getD (Bk LO.int xs k) dN).2))
theorem Akq(xs:List ((Int)×(Int×Int×Int×Int×Int)))(a:Option Addr)(cap:Nat)(b:Int)(h:Nat)(k:Int)(w:World)(d:At w (some ⟨h,0,none⟩) [sL a xs.length cap,Value.int .i64 b,Value.func (.func 35) #[] #[]])(c:At w a (mm Jf xs))(A:xs.length≤100000)(l:Gj LO.int xs):Calls prog 60 #[pV h 0,iV .u64 k] w (Df w (Value.tuple #[aV (Kw (B1 (0,0,0,0,0) xs k)),bV (Bq xs k)])):=by
 refine Ap (M:=[]) (LL:=[]) (n:=24) func60 rfl rfl A7 (Mem.refl _)<|W.s ?_
 refine Ac<|Af rfl (Ba zeroValue47) fun j=>?_
 refine Ab 1<|Ai<|W.s<|W.s ?_
 refine Ac<|Ab 2<|Cb (v:=Value.tuple #[nV .i64 (Bk LO.int xs k),bV (Bq xs k)]) (A8 fun o e=>(T6 xs a cap b h k _ (d.mem0 e) (c.mem0 e) D1 l))<|Ab 5<|Ay ?_
 refine A9<|Aj [] ?_
 refine Ak (Bq xs k) Aa (fun r=>?_) fun t=>?_
 ·refine W.s ?_
  have u:=G5 dN l r
  refine Ac<|Ab 3<|Ao (Ys.ld (a:=⟨h,0,none⟩) rfl Aa isAgg161 fun o f=>by have x:=(d.mem0 f).ld (q:=0) (v:=Value.slice a xs.length cap) rfl;rw[Be]at x;exact x)<|Ab 1<|Ao (v:=Value.pointer<|some<|Cs a<|(Bk LO.int xs k)*6) (Bb fun o f=>Aq (k:=.i64) (a:=a) (len:=xs.length) (cap:=cap) (i:=(Bk LO.int xs k:Int)) (sz:=6) rfl Aa Aa runUnderlying161 sizeOf223 Ae Ae<|(c.mem0 f).here<|by rw[Ch (g:=Jf) (sz:=6) (fun _=>rfl)];first|omega|(simp;omega)) ?_
  refine Ab 1<|Ao (v:=aV<|Q3 k xs) (Ys.ldN (a:=(Cs a<|(Bk LO.int xs k)*6).add 1) (vs:=(Q3 k xs)) rfl Aa isAgg47 sizeOf47 rfl fun o f=>(c.mem0 f).ldNF<|Yv (g:=Jf) (sz:=6) (fun _=>rfl) dN (xs:=xs) (k:=Bk LO.int xs k) Ae 1 5 rfl)<|Af rfl (A0 j 0 0 0 (Q3 k xs) sizeOf47 rfl rfl) fun _=>Ab 1<|Ay ?_
  refine A9<|Am rfl<|L1 rfl (Bu j 0 0 0 (Kw<|(xs.getD (Bk LO.int xs k) dN).2) isAgg47 sizeOf47) (Ar<|bV true)<|by rw[Pr dN l r,r];try rfl
 ·refine Ag<|A9<|Av<|A5 1 [(0,0)] ?_
  refine Af rfl (A0 j 0 0 0 zl0 sizeOf47 rfl rfl) fun _=>Ab 1<|Ai<|Am rfl<|L1 rfl (Bu j 0 0 0 zl0 isAgg47 sizeOf47) (Ar<|bV false)<|by rw[Hy t,t];try rfl
theorem Akr(c:Int)(w:World):Calls prog 34 #[iV .i64 c,Value.func (.func 35) #[] #[]] w (Bn w (fun _:Nat=>True) (fun b=>.pointer (some ⟨b,0,none⟩)) [] (fun b=>[[cb b [sL none 0 0,iV .i64 (Ep c 0),Value.func (.func 35) #[] #[]] 163]])):=by
 refine Ap (M:=[]) (LL:=[]) (n:=10) func34 rfl rfl A7 (Mem.refl _)<|Aj []<|Av<|Ab 4 ?_
 have f:=Kf c 0
 refine Af rfl (Bx [sL none 0 0,iV .i64<|Ep c 0,Value.func (.func 35) #[] #[]] rfl) fun e=>Ab 1<|Ai<|Am rfl<|D9 rfl (Ar<|pV e 0) fun g d=>⟨e,trivial,rfl,(d.pick [0] An rfl)⟩
namespace ZS
theorem drop_take{cs r:List Value}{n i s:Nat}(hc:cs.length=n*s)(b:i≤n):((cs++r).drop (i*s)).take ((n-i)*s)=cs.drop (i*s):=by
  have h:i*s≤n*s:=Nat.mul_le_mul_right _ b
  rw[List.drop_append_of_le_length Ae,List.take_append_of_le_length Vl]
  exact List.take_of_length_le Vl
theorem one_drop{cs:List Value}(h: ∀v∈cs,v.oneCell'=true)(k:Nat): ∀v∈cs.drop k,v.oneCell'=true:=fun v b=>h v (List.mem_of_mem_drop b)
theorem putAt_app{a b c:List Value}{o:Nat}{v:List Value}(ho:o=a.length)(d:v.length=b.length):Bt (a++(b++c)) o v=a++(v++c):=by
  subst ho;unfold Bt
  rw[List.take_left,d,←List.drop_drop,List.drop_left,List.drop_left]
theorem ins_in{cs r news A1 A2:List Value}{n i:Nat}(hc:cs.length=n*6)(t:i<n)(g:news.length=6)(u:6≤r.length)(h:Bt (cs++r) ((i+1)*6) (cs.drop (i*6))=A1)(j:Bt A1 (i*6) news=A2):
    A2=(cs.take (i*6)++(news++cs.drop (i*6)))++r.drop 6:=by
  subst h;subst j
  obtain⟨a,b,rfl,l⟩: ∃a b,cs=a++b∧a.length=i*6:=⟨cs.take (i*6),cs.drop (i*6),(List.take_append_drop _ _).symm,by rw[List.length_take];omega⟩
  rw[List.length_append]at hc
  obtain⟨x,c,rfl,f⟩: ∃x c,r=x++c∧x.length=6:=⟨r.take 6,r.drop 6,(List.take_append_drop _ _).symm,by rw[List.length_take];omega⟩
  rw[←l,List.drop_left,List.take_left]
  have e:Bt (a++b++(x++c)) ((i+1)*6) b=a++(b.take 6++(b++c)):=by
    have o:b=b.take 6++b.drop 6:=(List.take_append_drop _ _).symm
    have d:(b.take 6).length=6:=by rw[List.length_take];omega
    have q:a++b++(x++c)=(a++b.take 6)++((b.drop 6++x)++c):=by
      rw[List.append_assoc,List.append_assoc,List.append_assoc]
      congr 1
      rw[←List.append_assoc (b.take 6),←o]
    rw[q,putAt_app (by rw[List.length_append,d];omega) (by rw[List.length_append,List.length_drop,f];omega),List.append_assoc]
  rw[e,putAt_app rfl (by rw[List.length_take,g];omega)]
  rw[show(x++c).drop 6=c by rw[←f,List.drop_left]]
  simp only[List.append_assoc]
theorem ins_own{cs R news A1 A2:List Value}{n i:Nat}(hc:cs.length=n*6)(j:i<n)(b:news.length=6)(l:(n+1-i)*6≤R.length)(f:Bt (cs.take (i*6)++R) (i*6) news=A1)(g:Bt A1 ((i+1)*6) (cs.drop (i*6))=A2):
    A2=(cs.take (i*6)++(news++cs.drop (i*6)))++R.drop ((n+1-i)*6):=by
  subst f;subst g
  have c:(cs.take (i*6)).length=i*6:=by rw[List.length_take];omega
  have h:(cs.drop (i*6)).length=(n-i)*6:=by rw[List.length_drop];omega
  obtain⟨x,y,z,rfl,d,e⟩: ∃x y z,R=x++(y++z)∧x.length=6∧y.length=(n-i)*6:=
    ⟨R.take 6,(R.drop 6).take ((n-i)*6),(R.drop 6).drop ((n-i)*6),by rw[List.take_append_drop,List.take_append_drop],by rw[List.length_take];omega,by rw[List.length_take,List.length_drop];omega⟩
  rw[putAt_app c.symm (by rw[b,d]),←List.append_assoc,putAt_app (by rw[List.length_append,c,b];omega) (by rw[h,e])]
  rw[show(n+1-i)*6=(x++y).length by rw[List.length_append,d,e];omega,←List.append_assoc x,List.drop_left]
  simp only[List.append_assoc]
theorem del_in{cs r zs A1 A2:List Value}{n i:Nat}(hc:cs.length=n*6)(q:i<n)(d:zs.length=6)(e:Bt (cs++r) (i*6) (cs.drop ((i+1)*6))=A1)(f:Bt A1 ((n-1)*6) zs=A2):
    A2=(cs.take (i*6)++cs.drop ((i+1)*6))++(zs++r):=by
  subst e;subst f
  obtain⟨a,x,b,rfl,c,g⟩: ∃a x b,cs=a++(x++b)∧a.length=i*6∧x.length=6:=
    ⟨cs.take (i*6),(cs.drop (i*6)).take 6,(cs.drop (i*6)).drop 6,by rw[List.take_append_drop,List.take_append_drop],by rw[List.length_take];omega,by rw[List.length_take,List.length_drop];omega⟩
  simp only[List.length_append]at hc
  have h:(a++(x++b)).drop ((i+1)*6)=b:=by
    rw[show(i+1)*6=(a++x).length by rw[List.length_append,c,g];omega,←List.append_assoc,List.drop_left]
  have j:(a++(x++b)).take (i*6)=a:=by rw[←c,List.take_left]
  rw[h,j]
  have l:x++b=(x++b).take b.length++(x++b).drop b.length:=(List.take_append_drop _ _).symm
  have o:a++(x++b)++r=a++((x++b).take b.length++((x++b).drop b.length++r)):=by
    rw[List.append_assoc,←List.append_assoc ((x++b).take b.length),←l]
  rw[o,putAt_app c.symm (by rw[List.length_take,List.length_append];omega),←List.append_assoc]
  rw[putAt_app (by rw[List.length_append,c];omega) (by rw[List.length_drop,List.length_append,d];omega)]
theorem insRS_c(g:FS)(cs news:List Value)(f n i:Nat)(M:List Nat)(w:World)(hl:Mem w M [g.seg 173 cs,[cb f news 173]] w)(ok:g.ok 6 n)(hcs:cs.length=n*6)(hi:i≤n)(hn:n≤100000)(hnl:news.length=1*6)(L: ∀v∈cs,v.oneCell'=true)(H: ∀v∈news,v.oneCell'=true):Calls prog 179 #[sV g n,nV .i64 i,sL (some ⟨f,0,none⟩) 1 1] w (Bn w (fun I:FS=>I.ok 6 (n+1)∧I.nil=false) (fun I=>.slice I.a (n+1) I.cap) M (fun I=>[I.seg 173 (cs.take (i*6)++(news++cs.drop (i*6)))])):=by
 have al:=ok.le;have am:=ok.mx;have av:=hcs
 refine Ap (M:=M) (LL:=[g.seg 173 cs,[cb f news 173]]) (n:=95) func179 rfl rfl A7 (hl)<|Aj []<|Av<|Ab 2 ?_
 refine Ao (v:=sL (Ds g.a g.cap i 6) (n-i)<|g.cap-i) (Br (a:=g.a) (len:=n) (cap:=g.cap) (sz:=6) (k:=.i64) (i:=(i:Int)) rfl Aa Aa runUnderlying151 sizeOf173 Ae Ae)<|Ai<|Aj []<|W.s ?_
 refine Aj []<|B4 Aa<|Ag<|A9<|Aj [] ?_
 refine W.s<|Aj [] ?_
 refine Ak (((i:Nat):Int)==(n:Int)) Aa (fun ag=>?_) fun ah=>?_
 ·have N:=ag;try simp only[zA]at N
  refine Av<|Ab 2<|Aw rfl (HtS.append (eu:=173) (xv:=Value.slice (some ⟨f,0,none⟩) 1 1) (i:=0) (g:=g) (e:=173) (ii:=(prog.info? 173).getD default) (z:=aV zl8) (sz:=6) (bytes:=24) (nn:=n) (m:=1) (k:=n+1) (xs:=cs) (news:=news) (cs':=cs++news) (Lo:=fun F=>[F.seg 173 (cs++news),[cb f news 173]]) rfl rfl Aa Aa Aa Aa Aa Aa Aa Aa Aa rfl ok hcs (fun _=>rfl) (Src.at (a:=some ⟨f,0,none⟩) hnl fun E o=>(A4 (i:=1) (j:=0) (t:=173) (b:=f) o rfl rfl)) hnl H rfl (by simp only[maxLen];omega) Ae rfl fun _=>rfl) fun F O=>?_
  obtain⟨P,Q,an⟩:=O
  refine Ab 1<|Ai<|Am rfl ?_
  have ao:i=n:=by omega
  have R:cs.take (i*6)++(news++cs.drop (i*6))=cs++news:=by rw[List.take_of_length_le Ae,List.drop_of_length_le Ae,List.append_nil]
  exact D9 rfl (Ar<|sV F<|n+1) fun E r=>⟨F,⟨P,(Q Ae)⟩,rfl,(Mem.cast (by rw[R];rfl)<|r.pick [0] An rfl)⟩
 ·have S:=ah;try simp only[zA]at S
  refine Ag<|A9<|W.s<|Av ?_
  refine Ab 2<|Bw (((n+1):Nat):Int) (n:Int) 1<|Ab 3<|Ai ?_
  refine Ak (decide<|((n+1:Nat):Int)>(g.cap:Int)) Aa (fun ai=>?_) fun aj=>?_
  ·have T:=ai;try simp only[zA]at T
   refine Av<|Ab 2<|Ao (v:=sV g i) (Dm (a:=g.a) (len:=n) (cap:=g.cap) (sz:=6) (k:=.i64) (i:=(i:Int)) rfl Aa Aa runUnderlying151 sizeOf173 Ae Ae)<|Ab 2 ?_
   refine Bw (((n+1):Nat):Int) (n:Int) 1<|Ab 1<|Ao (v:=iV .i64<|((n+1:Nat):Int)-(i:Int)) ((Ys.p (v:=.int .i64<|Hp .i64 ((n+1:Nat):Int) (i:Int))).conseq<|Ad<|Er rfl Ae Ae)<|Af rfl (Kk (t:=151) (u:=3) (e:=173) (ii:=(prog.info? 173).getD default) (z:=aV zl8) (ku:=.i64) (kk:=.i64) (lv:=((n+1:Nat):Int)-(i:Int)) (a:=g.a) (nn:=i) (m:=n+1-i) (k:=n+1) (cap:=g.cap) (sz:=6) (bytes:=24) (xs:=cs.take<|i*6) (LL':=fun d R34=>[[cb d (cs.take (i*6)++R34) 173],g.seg 173 cs,[cb f news 173]]) rfl rfl Aa Aa Aa Aa Aa Aa Aa Aa Aa Ae (fun E o=>(FS.at (i:=0) (t:=173) o rfl<|Ah ok hcs).take _) (by rw[List.length_take,hcs];omega) Ae Ae Ae Ae Ae fun _ _=>rfl) fun ak=>?_
   obtain⟨⟨d,c,R34⟩,U,V,X⟩:=ak
   refine B0 (LL':=[[cb d (cs.take (i*6)++R34) 173],g.seg 173 cs,[cb f news 173]]) rfl ?_
   dsimp only at U V X
   refine Ab 1<|Ai<|Av ?_
   refine Ab 2<|Ao (v:=sL (Ds (some ⟨d,0,none⟩) c i 6) ((n+1)-i)<|c-i) (Br (a:=some ⟨d,0,none⟩) (len:=n+1) (cap:=c) (sz:=6) (k:=.i64) (i:=(i:Int)) rfl Aa Aa runUnderlying151 sizeOf173 Ae Ae) ?_
   obtain⟨A41,x⟩: ∃A,Bt (cs.take (i*6)++R34) (i*6) news=A:=⟨_,rfl⟩
   have Y:A41.length=(cs.take (i*6)++R34).length:=by rw[←x];exact Cw _ _ _ Me
   try simp only[List.length_append,List.length_take]at Y
   refine Ab 1<|Af rfl (Cy (td:=151) (tx:=151) (e:=173) (ii:=(prog.info? 173).getD default) (xv:=sL (some ⟨f,0,none⟩) 1 1) (cap:=c) (dl:=(n+1)-i) (dc:=c-i) (m:=1) (q:=1) (sz:=6) (o':=i) (i:=0) (j:=0) (b:=d) (t:=173) (cs:=cs.take (i*6)++R34) (cs':=A41) (news:=news) (LL':=[[cb d A41 173],g.seg 173 cs,[cb f news 173]]) rfl rfl Aa Aa Aa Aa Ae Aa rfl rfl (fun _=>rfl) Mg (Src.at (a:=some ⟨f,0,none⟩) hnl fun E o=>(A4 (i:=2) (j:=0) (t:=173) (b:=f) o rfl rfl)) hnl Me H x rfl) fun _=>?_
   refine Ai<|W.s<|B3 [(0,true),(1,true),(2,true),(3,true),(4,true),(5,true),(6,false),(7,false),(8,false)] [0,1,2,3,4,5] (Mem w M [g.seg 173 cs,[cb f news 173]]) Aa Aa Aa rfl Aa (fun _ _ o=>o.drawn _) (fun _ o=>o.pick [1,2] An rfl)<|B5 3 ?_
   refine Bm (v:=nV .i64<|i+1) rfl ((Ys.p (v:=.int .i64<|D2 .i64 (i:Int) 1)).conseq<|Ad<|Fi Ae Ae Ae)<|Bm (v:=sL (Ds (some ⟨d,0,none⟩) c (i+1) 6) ((n+1)-(i+1))<|c-(i+1)) rfl (Br (a:=some ⟨d,0,none⟩) (len:=n+1) (cap:=c) (sz:=6) (k:=.i64) (i:=((i+1:Nat):Int)) rfl Aa Aa runUnderlying151 sizeOf173 Ae Ae)<|Wd.mp 2 [] [1,2]<|Wd.yc (v:=sL (Ds g.a g.cap i 6) (n-i)<|g.cap-i) rfl rfl rfl (Ys.yc<|Br (a:=g.a) (len:=n) (cap:=g.cap) (sz:=6) (k:=.i64) (i:=(i:Int)) rfl Aa Aa runUnderlying151 sizeOf173 Ae Ae) (Ee [1,2]) ?_
   obtain⟨A46,B⟩: ∃A,Bt A41 ((i+1)*6) (cs.drop (i*6))=A:=⟨_,rfl⟩
   have Z:A46.length=A41.length:=by rw[←B];exact Cw _ _ _ Vi
   try simp only[List.length_append,List.length_take]at Z
   refine Cj rfl rfl (Cy (td:=151) (tx:=151) (e:=173) (ii:=(prog.info? 173).getD default) (xv:=sL (Ds g.a g.cap i 6) (n-i)<|g.cap-i) (cap:=c) (dl:=(n+1)-(i+1)) (dc:=c-(i+1)) (m:=n-i) (q:=n-i) (sz:=6) (o':=i+1) (i:=0) (j:=0) (b:=d) (t:=173) (cs:=A41) (cs':=A46) (news:=cs.drop<|i*6) (LL':=[[cb d A46 173],g.seg 173 cs,[cb f news 173]]) rfl rfl Aa Aa Aa Aa Ae Aa rfl rfl (fun _=>rfl) Mg (Src.at (a:=Ds g.a g.cap i 6) (show(cs.drop<|i*6).length=(n-i)*6 by rw[List.length_drop,hcs];omega) fun E o=>((FS.at (i:=1) (t:=173) o rfl<|Ah ok hcs).dropN (cap:=g.cap) (k:=i) (sz:=6) Ae)) (show(cs.drop<|i*6).length=(n-i)*6 by rw[List.length_drop,hcs];omega) Vi (one_drop L _) B rfl) (Az [1,2]) fun _=>Cl<|Aj []<|Am rfl ?_
   have R:=ins_own hcs Ae Ae Ae x B
   exact D9 rfl (Ar<|sL (some ⟨d,0,none⟩) (n+1) c) fun E r=>⟨⟨false,d,c,R34.drop<|(n+1-i)*6⟩,⟨⟨fun h=>(by cases h),Ae,Ae,(by show c*6≤_;rw[List.length_drop];omega)⟩,rfl⟩,rfl,(Mem.cast (by rw[R];rfl)<|r.pick [0] An rfl)⟩
  ·have G:=aj;try simp only[zA]at G
   refine Ag<|A9<|W.s ?_
   have aa:=De ok Ae
   obtain⟨ab,l,gc,J⟩:=g
   obtain rfl:ab=false:=aa
   have ap:n≤gc:=ok.le
   have aq:gc*6≤n*6+J.length:=ok.len
   have af:n+1≤gc:=by have z_: ¬(((n+1:Nat):Int)>(gc:Int)):=G;omega
   refine Ac<|Ab 3<|Bw (((n+1):Nat):Int) (n:Int) 1<|Ao (v:=sL (some ⟨l,0,none⟩) (n+1) gc) (Dm (a:=some ⟨l,0,none⟩) (len:=n) (cap:=gc) (sz:=6) (k:=.i64) (i:=((n+1:Nat):Int)) rfl Aa Aa runUnderlying151 sizeOf173 Ae Ae)<|Ab 1 ?_
   refine Ai<|W.s<|Av ?_
   refine Ab 4<|Bw (((i+1):Nat):Int) (i:Int) 1<|Ao (v:=Value.slice (Ds (some ⟨l,0,none⟩) gc (i+1) 6) ((n+1)-(i+1))<|gc-(i+1)) (Br (a:=some ⟨l,0,none⟩) (len:=n+1) (cap:=gc) (sz:=6) (k:=.i64) (i:=((i+1:Nat):Int)) rfl Aa Aa runUnderlying151 sizeOf173 Ae Ae)<|Ao (v:=bV false) ((I4 (k:=186) (tS:=151) (tR:=4) (e:=173) (sz:=6) (b:=f) (b':=l) (o1:=0) (o2:=(i+1)*6) (la:=1) (ca:=1) (lb:=((n+1)-(i+1))) (cp:=(gc-(i+1))) (i:=1) (j:=0) (i':=0) (j':=0) (t:=173) (t':=173) (cs:=news) (cs':=cs++J) (fun E=>Eq.trans (b:=Sem.run prog (callFunc 186 #[Value.slice (some ⟨f,0,none⟩) 1 1,Value.slice (Ds (some ⟨l,0,none⟩) gc (i+1) 6) ((n+1)-(i+1)) (gc-(i+1))]) E) Aa<|by rw[Hh Ae]) func186 Aa Aa Aa Aa Aa sizeOf173 An rfl rfl rfl rfl<|by simp only[List.length_append];omega))<|Ab 1 ?_
   refine Ai<|Cd Aa<|W.s<|B3 [(0,true),(1,true),(2,true),(3,true),(4,true),(5,true),(6,false),(7,false),(8,false)] [0,1,2,3,4,5] (Mem w M [[cb f news 173]]) Aa Aa Aa rfl Aa (fun _ _ o=>o.drawn _) (fun _ o=>o.pick [1] An rfl) ?_
   refine B5 3<|Bm (v:=nV .i64<|i+1) rfl ((Ys.p (v:=.int .i64<|D2 .i64 (i:Int) 1)).conseq<|Ad<|Fi Ae Ae Ae)<|Bm (v:=sL (Ds (some ⟨l,0,none⟩) gc (i+1) 6) ((n+1)-(i+1))<|gc-(i+1)) rfl (Br (a:=some ⟨l,0,none⟩) (len:=n+1) (cap:=gc) (sz:=6) (k:=.i64) (i:=((i+1:Nat):Int)) rfl Aa Aa runUnderlying151 sizeOf173 Ae Ae)<|Wd.mp 2 [] [1]<|Wd.yc (v:=sL (Ds (some ⟨l,0,none⟩) gc i 6) ((n+1)-i)<|gc-i) rfl rfl rfl (Ys.yc<|Br (a:=some ⟨l,0,none⟩) (len:=n+1) (cap:=gc) (sz:=6) (k:=.i64) (i:=(i:Int)) rfl Aa Aa runUnderlying151 sizeOf173 Ae Ae) (Ee [1]) ?_
   obtain⟨A62,C⟩: ∃A,Bt (cs++J) ((i+1)*6) (cs.drop (i*6))=A:=⟨_,rfl⟩
   have ad:A62.length=(cs++J).length:=by rw[←C];exact Cw _ _ _ Vi
   try simp only[List.length_append,List.length_take]at ad
   refine Cj rfl rfl (Cy (td:=151) (tx:=151) (e:=173) (ii:=(prog.info? 173).getD default) (xv:=sL (Ds (some ⟨l,0,none⟩) gc i 6) ((n+1)-i)<|gc-i) (cap:=gc) (dl:=(n+1)-(i+1)) (dc:=gc-(i+1)) (m:=(n+1)-i) (q:=n-i) (sz:=6) (o':=i+1) (i:=0) (j:=0) (b:=l) (t:=173) (cs:=cs++J) (cs':=A62) (news:=cs.drop<|i*6) (LL':=[[cb l A62 173],[cb f news 173]]) rfl rfl Aa Aa Aa Aa Ae Aa rfl rfl (fun _=>rfl) Mg (Src.at (a:=Ds (some ⟨l,0,none⟩) gc i 6) (show(cs.drop<|i*6).length=(n-i)*6 by rw[List.length_drop,hcs];omega) fun E o=>(by have z_:=((A4 (i:=0) (j:=0) (t:=173) (b:=l) o rfl rfl).dropT (cap:=gc) (k:=i) (m:=n-i) (sz:=6) Ae);rwa[drop_take hcs Ae]at z_)) (show(cs.drop<|i*6).length=(n-i)*6 by rw[List.length_drop,hcs];omega) Vi (one_drop L _) C rfl) (Az [1]) fun _=>Cl<|Av ?_
   refine Ab 2<|Ao (v:=sL (Ds (some ⟨l,0,none⟩) gc i 6) ((n+1)-i)<|gc-i) (Br (a:=some ⟨l,0,none⟩) (len:=n+1) (cap:=gc) (sz:=6) (k:=.i64) (i:=(i:Int)) rfl Aa Aa runUnderlying151 sizeOf173 Ae Ae) ?_
   obtain⟨A67,D⟩: ∃A,Bt A62 (i*6) news=A:=⟨_,rfl⟩
   have ae:A67.length=A62.length:=by rw[←D];exact Cw _ _ _ Me
   try simp only[List.length_append,List.length_take]at ae
   refine Ab 1<|Af rfl (Cy (td:=151) (tx:=151) (e:=173) (ii:=(prog.info? 173).getD default) (xv:=sL (some ⟨f,0,none⟩) 1 1) (cap:=gc) (dl:=(n+1)-i) (dc:=gc-i) (m:=1) (q:=1) (sz:=6) (o':=i) (i:=0) (j:=0) (b:=l) (t:=173) (cs:=A62) (cs':=A67) (news:=news) (LL':=[[cb l A67 173],[cb f news 173]]) rfl rfl Aa Aa Aa Aa Ae Aa rfl rfl (fun _=>rfl) Mg (Src.at (a:=some ⟨f,0,none⟩) hnl fun E o=>(A4 (i:=1) (j:=0) (t:=173) (b:=f) o rfl rfl)) hnl Me H D rfl) fun _=>?_
   refine Ai<|Aj []<|Am rfl ?_
   have R:=ins_in hcs Ae Ae Ae C D
   exact D9 rfl (Ar<|sL (some ⟨l,0,none⟩) (n+1) gc) fun E r=>⟨⟨false,l,gc,J.drop 6⟩,⟨⟨fun h=>(by cases h),Ae,ok.mx,(by show gc*6≤_;rw[List.length_drop];omega)⟩,rfl⟩,rfl,(Mem.cast (by rw[R];rfl)<|r.pick [0] An rfl)⟩
theorem delRS_c(g:FS)(cs:List Value)(n i:Nat)(M:List Nat)(w:World)(O:Mem w M [g.seg 173 cs] w)(ok:g.ok 6 n)(hcs:cs.length=n*6)(V:i<n)(X:n≤100000)(D: ∀v∈cs,v.oneCell'=true):Calls prog 124 #[sV g n,nV .i64 i,nV .i64 (i+1)] w (Bn w (fun l:FS=>l.ok 6 (n-1)∧l.nil=false) (fun l=>.slice l.a (n-1) l.cap) M (fun l=>[l.seg 173 (cs.take (i*6)++cs.drop ((i+1)*6))])):=by
 have H:=ok.le;have I:=ok.mx;have P:=hcs
 refine Ap (M:=M) (LL:=[g.seg 173 cs]) (n:=33) func124 rfl rfl A7 (O)<|Aj []<|Av<|Ab 5 ?_
 refine Ao (v:=sL (Ds g.a n i 6) ((i+1)-i)<|n-i) (I3 (a:=g.a) (len:=n) (cap:=g.cap) (sz:=6) (k:=.i64) (k':=.i64) (k'':=.i64) (i:=(i:Int)) (j:=((i+1:Nat):Int)) (q:=(n:Int)) rfl Aa Aa Aa Aa runUnderlying151 sizeOf173 Ae Ae Ae Ae)<|Ai<|W.s<|Aj [] ?_
 refine Ak (((i:Nat):Int)==((i+1:Nat):Int)) Aa (fun Q=>?_) fun R=>?_
 ·have E:=Q;try simp only[zA]at E
  (exfalso;omega)
 ·have F:=R;try simp only[zA]at F
  refine Ag<|A9<|Aj []<|W.s ?_
  have o:=De ok Ae
  obtain⟨r,c,gc,x⟩:=g
  obtain rfl:r=false:=o
  have J:n≤gc:=ok.le
  have L:gc*6≤n*6+x.length:=ok.len
  refine B3 [(0,true),(1,true),(2,true),(3,true),(4,false),(5,false),(6,false),(7,false)] [0,1,2,3] (Mem w M []) Aa Aa Aa rfl Aa (fun _ _ B=>B.drawn _) (fun _ B=>B.pick [] An rfl)<|B5 2<|Bm (v:=sL (some ⟨c,0,none⟩) i gc) rfl (Dm (a:=some ⟨c,0,none⟩) (len:=n) (cap:=gc) (sz:=6) (k:=.i64) (i:=(i:Int)) rfl Aa Aa runUnderlying151 sizeOf173 Ae Ae)<|Wd.mp 2 [] []<|Wd.yc (v:=sL (Ds (some ⟨c,0,none⟩) gc (i+1) 6) (n-(i+1))<|gc-(i+1)) rfl rfl rfl (Ys.yc<|Br (a:=some ⟨c,0,none⟩) (len:=n) (cap:=gc) (sz:=6) (k:=.i64) (i:=((i+1:Nat):Int)) rfl Aa Aa runUnderlying151 sizeOf173 Ae Ae) (Ee []) ?_
  obtain⟨A16,d⟩: ∃A,Bt (cs++x) (i*6) (cs.drop ((i+1)*6))=A:=⟨_,rfl⟩
  have C:A16.length=(cs++x).length:=by rw[←d];exact Cw _ _ _ Af1
  try simp only[List.length_append,List.length_take]at C
  refine Cj rfl rfl (I5 (t:=151) (u:=151) (e:=173) (eu:=173) (ii:=(prog.info? 173).getD default) (xv:=sL (Ds (some ⟨c,0,none⟩) gc (i+1) 6) (n-(i+1))<|gc-(i+1)) (nn:=i) (m:=n-(i+1)) (k:=n-1) (cap:=gc) (sz:=6) (i:=0) (j:=0) (b:=c) (ty:=173) (cs:=cs++x) (cs':=A16) (news:=cs.drop<|(i+1)*6) (LL':=[[cb c A16 173]]) rfl rfl Aa Aa Aa Aa Aa Aa rfl rfl (fun _=>rfl) Ae Ae (Src.at (a:=Ds (some ⟨c,0,none⟩) gc (i+1) 6) (show(cs.drop<|(i+1)*6).length=(n-(i+1))*6 by rw[List.length_drop,hcs];omega) fun S B=>(by have T:=((A4 (i:=0) (j:=0) (t:=173) (b:=c) B rfl rfl).dropT (cap:=gc) (k:=i+1) (m:=n-(i+1)) (sz:=6) Ae);rwa[drop_take hcs Ae]at T)) Af1 (one_drop D _) d rfl) (Az []) fun _=>Dh 1 []<|Cl<|W.s ?_
  refine Ac<|Ab 4<|Ao (v:=sL (Ds (some ⟨c,0,none⟩) gc (n-1) 6) (n-(n-1))<|gc-(n-1)) (Ic (a:=some ⟨c,0,none⟩) (len:=n-1) (cap:=gc) (sz:=6) (k:=.i64) (i:=((n-1:Nat):Int)) (k':=.i64) (j:=(n:Int)) rfl Aa Aa Aa runUnderlying151 sizeOf173 Ae Ae Ae) ?_
  obtain⟨A21,f⟩: ∃A,Bt A16 ((n-1)*6) zl8=A:=⟨_,rfl⟩
  have N:A21.length=A16.length:=by rw[←f];exact Cw _ _ _ Vk
  refine Af rfl (La (t:=151) (e:=173) (ii:=(prog.info? 173).getD default) (z:=aV zl8) (m:=0) (cap:=gc-(n-1)) (o':=(n-1)*6) (i:=0) (j:=0) (b:=c) (ty:=173) (cs:=A16) (cs':=A21) (zs:=zl8) (LL':=[[cb c A21 173]]) rfl rfl Aa Aa Aa (Eq.trans (b:=sL (Ds (some ⟨c,0,none⟩) gc (n-1) 6) (n-(n-1))<|gc-(n-1)) Aa<|by rw[Hh Ae];congr 1;omega) rfl rfl Aa Vk ma3 f rfl) fun _=>Ai<|Aj []<|Am rfl ?_
  have U:=del_in (zs:=zl8) hcs Ae rfl d f
  exact D9 rfl (Ar<|Value.slice (some ⟨c,0,none⟩) (n-1) gc) fun S G=>⟨⟨false,c,gc,zl8++x⟩,⟨⟨fun h=>(by cases h),(by show n-1≤gc;omega),ok.mx,(by show gc*6≤_;simp only[List.length_append,List.length_cons,List.length_nil];omega)⟩,rfl⟩,rfl,(Mem.cast (by rw[U];rfl)<|G.pick [0] An rfl)⟩
end ZS
end Go.Proofs.YtmonlaoaengfdaaGreatDoor.Oct
