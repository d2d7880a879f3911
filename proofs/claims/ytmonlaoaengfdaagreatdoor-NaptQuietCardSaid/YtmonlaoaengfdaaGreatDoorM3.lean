import Derived.Test.YtmonlaoaengfdaaGreatDoorM2
set_option linter.unusedVariables false
set_option linter.unusedSimpArgs false
set_option maxRecDepth 20000
namespace Go.Proofs.YtmonlaoaengfdaaGreatDoor.Oct
open Go.RowKit Base Tryz
attribute [local irreducible] Ys Yc Ht HtS HtIn Wl Wd W Mem pf Ex Wa Wo KW
abbrev Cz(b:Option Nat):Option Addr:=b.map fun b=>⟨b,0,none⟩
def LO.on{A B:Type}(o:LO B)(f:A→B)(c: ∀{x y},f x=f y→x=y):LO A:=⟨fun a b=>o.lt (f a) (f b),fun a=>o.irr _,fun h g=>o.tr h g,fun h g=>c (o.tri h g)⟩
def Su:List Int→Int
  | []=>0
  |x::xs=>if x≠0 then x else Su xs
abbrev Cc:Type:=Int×Int×Int×Int×Int
def Xe(x:Cc):Cc:=(x.1,x.2.1,x.2.2.2.1,x.2.2.1,x.2.2.2.2)
theorem Acd{x y:Cc}(h:Xe x=Xe y):x=y:=by
  obtain⟨a,b,c,d,e⟩:=x
  obtain⟨f,g,i,j,l⟩:=y
  simp only[Xe,Prod.mk.injEq]at h⊢
  omega
abbrev Cs:LO (Int×Int×Int):=Gt LO.int (Gt LO.int LO.int)
abbrev ordF:LO Cc:=LO.on (Gt LO.int (Gt LO.int (Gt LO.int (Gt LO.int LO.int)))) Xe Acd
structure Lse where
  ext:Int
  count:Int
abbrev dS:(Int×Int×Int×Int×Int)×(Option Nat):=((0,0,0,0,0),none)
def Gi(x:(Int×Int×Int×Int×Int)×(Option Nat)):List Value:=[Value.int .u8 x.1.1,Value.int .u32 x.1.2.1,Value.int .u32 x.1.2.2.1,Value.int .u16 x.1.2.2.2.1,Value.int .u16 x.1.2.2.2.2,Value.pointer (Cz x.2)]
theorem Kl(x:(Int×Int×Int×Int×Int)×(Option Nat)):(Gi x).length=6:=rfl
theorem P1(x:(Int×Int×Int×Int×Int)×(Option Nat)): ∀v∈Gi x,v.oneCell'=true:=by simp[Gi,Value.oneCell']
theorem Lb(xs:List ((Int×Int×Int×Int×Int)×(Option Nat))):(mm Gi xs).length=xs.length*6:=Cj Kl xs
abbrev dD:(Int×Int×Int)×(Lse):=((0,0,0),(⟨0,0⟩:Lse))
def Gl(x:(Int×Int×Int)×(Lse)):List Value:=[Value.int .u8 x.1.1,Value.int .u32 x.1.2.1,Value.int .u16 x.1.2.2,Value.int .u16 x.2.ext,Value.int .i64 x.2.count]
theorem Km(x:(Int×Int×Int)×(Lse)):(Gl x).length=5:=rfl
theorem P2(x:(Int×Int×Int)×(Lse)): ∀v∈Gl x,v.oneCell'=true:=by simp[Gl,Value.oneCell']
theorem Lc(xs:List ((Int×Int×Int)×(Lse))):(mm Gl xs).length=xs.length*5:=Cj Km xs
abbrev dN:(Int)×(Int×Int×Int×Int×Int):=(0,(0,0,0,0,0))
def Jf(x:(Int)×(Int×Int×Int×Int×Int)):List Value:=[Value.int .u64 x.1,Value.int .u8 x.2.1,Value.int .u32 x.2.2.1,Value.int .u32 x.2.2.2.1,Value.int .u16 x.2.2.2.2.1,Value.int .u16 x.2.2.2.2.2]
theorem Kn(x:(Int)×(Int×Int×Int×Int×Int)):(Jf x).length=6:=rfl
theorem T6(x:(Int)×(Int×Int×Int×Int×Int)): ∀v∈Jf x,v.oneCell'=true:=by simp[Jf,Value.oneCell']
theorem R0(xs:List ((Int)×(Int×Int×Int×Int×Int))):(mm Jf xs).length=xs.length*6:=Cj Kn xs
theorem Yu(x:Int)(w:World):Calls prog 115 #[iV .u8 x] w (Df w (.bool false)):=by
 refine Ap (M:=[]) (LL:=[]) (n:=6) func115 rfl rfl A5 (Mem.refl _)<|Aj []<|Aj []<|Am rfl<|D3 rfl (Ar<|bV<|x !=x)<|by exact B4 A5
theorem Yv(a b:Int)(w:World):Calls prog 65 #[iV .u8 a,iV .u8 b] w (Df w (.int .i64 (LO.cmp LO.int a b))):=by
 refine Ap (M:=[]) (LL:=[]) (n:=20) func65 rfl rfl A5 (Mem.refl _)<|Aj []<|Av<|Ab 1 ?_
 refine Ca (v:=bV false) (A6 fun o l=>(Yu a _))<|Ab 1<|Ai<|W.s ?_
 refine Ac<|Ab 1<|Ca (v:=bV false) (A6 fun o l=>(Yu b _))<|Ab 1<|Ax ?_
 refine A7<|W.s ?_
 refine Aj []<|B3 Aa<|Ag<|A7<|W.s ?_
 refine Aj []<|B3 Aa<|Ag<|A7<|W.s ?_
 refine Aj [] ?_
 refine Al (decide<|a<b) Aa (fun d=>?_) fun c=>?_
 ·have e:=d;try simp only[zA]at e
  refine Aj []<|Am rfl<|D3 rfl (Ar<|iV .i64<|-1)<|by simp only[LO.cmp,LO.int,d,cond_true,cond_false];try rfl
 ·have f:=c;try simp only[zA]at f
  refine Ag<|A7<|W.s<|Aj [] ?_
  refine Al (decide<|a>b) Aa (fun g=>?_) fun h=>?_
  ·have i:=g;try simp only[zA]at i
   refine Aj []<|Am rfl<|D3 rfl (Ar<|iV .i64 1)<|by simp only[LO.cmp,LO.int,c,g,cond_true,cond_false];try rfl
  ·have j:=h;try simp only[zA]at j
   refine Ag<|A7<|Aj []<|Am rfl<|D3 rfl (Ar<|iV .i64 0)<|by simp only[LO.cmp,LO.int,c,h,cond_true,cond_false];try rfl
theorem V1(x:Int)(w:World):Calls prog 117 #[iV .u16 x] w (Df w (.bool false)):=by
 refine Ap (M:=[]) (LL:=[]) (n:=6) func117 rfl rfl A5 (Mem.refl _)<|Aj []<|Aj []<|Am rfl<|D3 rfl (Ar<|bV<|x !=x)<|by exact B4 A5
theorem R1(a b:Int)(w:World):Calls prog 67 #[iV .u16 a,iV .u16 b] w (Df w (.int .i64 (LO.cmp LO.int a b))):=by
 refine Ap (M:=[]) (LL:=[]) (n:=20) func67 rfl rfl A5 (Mem.refl _)<|Aj []<|Av<|Ab 1 ?_
 refine Ca (v:=bV false) (A6 fun o l=>(V1 a _))<|Ab 1<|Ai<|W.s ?_
 refine Ac<|Ab 1<|Ca (v:=bV false) (A6 fun o l=>(V1 b _))<|Ab 1<|Ax ?_
 refine A7<|W.s ?_
 refine Aj []<|B3 Aa<|Ag<|A7<|W.s ?_
 refine Aj []<|B3 Aa<|Ag<|A7<|W.s ?_
 refine Aj [] ?_
 refine Al (decide<|a<b) Aa (fun d=>?_) fun c=>?_
 ·have e:=d;try simp only[zA]at e
  refine Aj []<|Am rfl<|D3 rfl (Ar<|iV .i64<|-1)<|by simp only[LO.cmp,LO.int,d,cond_true,cond_false];try rfl
 ·have f:=c;try simp only[zA]at f
  refine Ag<|A7<|W.s<|Aj [] ?_
  refine Al (decide<|a>b) Aa (fun g=>?_) fun h=>?_
  ·have i:=g;try simp only[zA]at i
   refine Aj []<|Am rfl<|D3 rfl (Ar<|iV .i64 1)<|by simp only[LO.cmp,LO.int,c,g,cond_true,cond_false];try rfl
  ·have j:=h;try simp only[zA]at j
   refine Ag<|A7<|Aj []<|Am rfl<|D3 rfl (Ar<|iV .i64 0)<|by simp only[LO.cmp,LO.int,c,h,cond_true,cond_false];try rfl
theorem V2(x:Int)(w:World):Calls prog 116 #[iV .u32 x] w (Df w (.bool false)):=by
 refine Ap (M:=[]) (LL:=[]) (n:=6) func116 rfl rfl A5 (Mem.refl _)<|Aj []<|Aj []<|Am rfl<|D3 rfl (Ar<|bV<|x !=x)<|by exact B4 A5
theorem R2(a b:Int)(w:World):Calls prog 66 #[iV .u32 a,iV .u32 b] w (Df w (.int .i64 (LO.cmp LO.int a b))):=by
 refine Ap (M:=[]) (LL:=[]) (n:=20) func66 rfl rfl A5 (Mem.refl _)<|Aj []<|Av<|Ab 1 ?_
 refine Ca (v:=bV false) (A6 fun o l=>(V2 a _))<|Ab 1<|Ai<|W.s ?_
 refine Ac<|Ab 1<|Ca (v:=bV false) (A6 fun o l=>(V2 b _))<|Ab 1<|Ax ?_
 refine A7<|W.s ?_
 refine Aj []<|B3 Aa<|Ag<|A7<|W.s ?_
 refine Aj []<|B3 Aa<|Ag<|A7<|W.s ?_
 refine Aj [] ?_
 refine Al (decide<|a<b) Aa (fun d=>?_) fun c=>?_
 ·have e:=d;try simp only[zA]at e
  refine Aj []<|Am rfl<|D3 rfl (Ar<|iV .i64<|-1)<|by simp only[LO.cmp,LO.int,d,cond_true,cond_false];try rfl
 ·have f:=c;try simp only[zA]at f
  refine Ag<|A7<|W.s<|Aj [] ?_
  refine Al (decide<|a>b) Aa (fun g=>?_) fun h=>?_
  ·have i:=g;try simp only[zA]at i
   refine Aj []<|Am rfl<|D3 rfl (Ar<|iV .i64 1)<|by simp only[LO.cmp,LO.int,c,g,cond_true,cond_false];try rfl
  ·have j:=h;try simp only[zA]at j
   refine Ag<|A7<|Aj []<|Am rfl<|D3 rfl (Ar<|iV .i64 0)<|by simp only[LO.cmp,LO.int,c,h,cond_true,cond_false];try rfl
theorem V3(x:Int)(w:World):Calls prog 68 #[iV .u64 x] w (Df w (.bool false)):=by
 refine Ap (M:=[]) (LL:=[]) (n:=6) func68 rfl rfl A5 (Mem.refl _)<|Aj []<|Aj []<|Am rfl<|D3 rfl (Ar<|bV<|x !=x)<|by exact B4 A5
theorem Ace(a b:Int)(w:World):Calls prog 35 #[iV .u64 a,iV .u64 b] w (Df w (.int .i64 (LO.cmp LO.int a b))):=by
 refine Ap (M:=[]) (LL:=[]) (n:=20) func35 rfl rfl A5 (Mem.refl _)<|Aj []<|Av<|Ab 1 ?_
 refine Ca (v:=bV false) (A6 fun o l=>(V3 a _))<|Ab 1<|Ai<|W.s ?_
 refine Ac<|Ab 1<|Ca (v:=bV false) (A6 fun o l=>(V3 b _))<|Ab 1<|Ax ?_
 refine A7<|W.s ?_
 refine Aj []<|B3 Aa<|Ag<|A7<|W.s ?_
 refine Aj []<|B3 Aa<|Ag<|A7<|W.s ?_
 refine Aj [] ?_
 refine Al (decide<|a<b) Aa (fun d=>?_) fun c=>?_
 ·have e:=d;try simp only[zA]at e
  refine Aj []<|Am rfl<|D3 rfl (Ar<|iV .i64<|-1)<|by simp only[LO.cmp,LO.int,d,cond_true,cond_false];try rfl
 ·have f:=c;try simp only[zA]at f
  refine Ag<|A7<|W.s<|Aj [] ?_
  refine Al (decide<|a>b) Aa (fun g=>?_) fun h=>?_
  ·have i:=g;try simp only[zA]at i
   refine Aj []<|Am rfl<|D3 rfl (Ar<|iV .i64 1)<|by simp only[LO.cmp,LO.int,c,g,cond_true,cond_false];try rfl
  ·have j:=h;try simp only[zA]at j
   refine Ag<|A7<|Aj []<|Am rfl<|D3 rfl (Ar<|iV .i64 0)<|by simp only[LO.cmp,LO.int,c,h,cond_true,cond_false];try rfl
theorem An2(x y z:Int)(a:Option Addr)(cap:Nat)(w:World)(d:At w a [.int .i64 x,.int .i64 y,.int .i64 z]):Calls prog 64 #[sL a 3 cap] w (Df w (.int .i64 (Su [x,y,z]))):=by
 refine Ap (M:=[]) (LL:=[]) (n:=18) func64 rfl rfl A5 (Mem.refl _)<|Aj []<|Aj []<|W.s<|Aj [] ?_
 refine W.block<|Jo 4<|Dh fun N e=>Aj []<|W.s ?_
 refine B9 Aa<|Ag<|A7<|W.s<|W.block ?_
 refine Av<|Ao (v:=pL<|some<|Cv a 0) (Bd fun q f=>Aq (k:=.i64) (a:=a) (len:=3) (cap:=cap) (i:=0) (sz:=1) rfl Aa Aa runUnderlying224 sizeOf3 An An<|(d.mem0 f).here Sz)<|Ao (Ys.ld (a:=Cv a 0) rfl Aa isAgg3 fun q f=>(d.mem0 f).ld (v:=iV .i64 x) rfl)<|Ab 1 ?_
 refine Ai<|Aj [] ?_
 refine Al (x !=0) Aa (fun r=>?_) fun j=>?_
 ·have t:=r;try simp only[zA]at t
  refine Aj []<|Am rfl<|D3 rfl (Ar<|iV .i64 x) (by clear e;have b:=r;simp at b;simp[Su, *])
 ·have u:=j;try simp only[zA]at u
  refine Ag<|A7<|Ac<|Ab 2<|Ax ?_
  refine e _ _ _<|Dh fun I c=>?_
  refine Aj []<|W.s ?_
  refine B9 Aa<|Ag<|A7<|W.s<|W.block ?_
  refine Av<|Ao (v:=pL<|some<|Cv a 1) (Bd fun q f=>Aq (k:=.i64) (a:=a) (len:=3) (cap:=cap) (i:=1) (sz:=1) rfl Aa Aa runUnderlying224 sizeOf3 An An<|(d.mem0 f).here Sz)<|Ao (Ys.ld (a:=Cv a 1) rfl Aa isAgg3 fun q f=>(d.mem0 f).ld (v:=iV .i64 y) rfl)<|Ab 1 ?_
  refine Ai<|Aj [] ?_
  refine Al (y !=0) Aa (fun A=>?_) fun l=>?_
  ·have B:=A;try simp only[zA]at B
   refine Aj []<|Am rfl<|D3 rfl (Ar<|iV .i64 y) (by clear e c;have b:=j;have g:=A;simp at b g;simp[Su, *])
  ·have C:=l;try simp only[zA]at C
   refine Ag<|A7<|Ac<|Ab 2<|Ax ?_
   refine c _ _ _<|Dh fun J h=>?_
   refine Aj []<|W.s ?_
   refine B9 Aa<|Ag<|A7<|W.s<|W.block ?_
   refine Av<|Ao (v:=pL<|some<|Cv a 2) (Bd fun q f=>Aq (k:=.i64) (a:=a) (len:=3) (cap:=cap) (i:=2) (sz:=1) rfl Aa Aa runUnderlying224 sizeOf3 An An<|(d.mem0 f).here Sz)<|Ao (Ys.ld (a:=Cv a 2) rfl Aa isAgg3 fun q f=>(d.mem0 f).ld (v:=iV .i64 z) rfl)<|Ab 1 ?_
   refine Ai<|Aj [] ?_
   refine Al (z !=0) Aa (fun D=>?_) fun E=>?_
   ·have F:=D;try simp only[zA]at F
    refine Aj []<|Am rfl<|D3 rfl (Ar<|iV .i64 z) (by clear e c h;have b:=j;have g:=l;have o:=D;simp at b g o;simp[Su, *])
   ·have G:=E;try simp only[zA]at G
    refine Ag<|A7<|Ac<|Ab 2<|Ax ?_
    refine h _ _ _<|Dh fun L H=>?_
    refine Aj []<|W.s ?_
    refine B3 Aa<|Cp<|A7<|Aj []<|Am rfl<|D3 rfl (Ar<|iV .i64 0) (by clear e c h H;have b:=j;have g:=l;have o:=E;simp at b g o;simp[Su, *])
theorem An3(x y z u v:Int)(a:Option Addr)(cap:Nat)(w:World)(c:At w a [.int .i64 x,.int .i64 y,.int .i64 z,.int .i64 u,.int .i64 v]):Calls prog 64 #[sL a 5 cap] w (Df w (.int .i64 (Su [x,y,z,u,v]))):=by
 refine Ap (M:=[]) (LL:=[]) (n:=18) func64 rfl rfl A5 (Mem.refl _)<|Aj []<|Aj []<|W.s<|Aj [] ?_
 refine W.block<|Jo 6<|Dh fun J6 h=>Aj []<|W.s ?_
 refine B9 Aa<|Ag<|A7<|W.s<|W.block ?_
 refine Av<|Ao (v:=pL<|some<|Cv a 0) (Bd fun A e=>Aq (k:=.i64) (a:=a) (len:=5) (cap:=cap) (i:=0) (sz:=1) rfl Aa Aa runUnderlying224 sizeOf3 An An<|(c.mem0 e).here Sz)<|Ao (Ys.ld (a:=Cv a 0) rfl Aa isAgg3 fun A e=>(c.mem0 e).ld (v:=iV .i64 x) rfl)<|Ab 1 ?_
 refine Ai<|Aj [] ?_
 refine Al (x !=0) Aa (fun E=>?_) fun o=>?_
 ·have F:=E;try simp only[zA]at F
  refine Aj []<|Am rfl<|D3 rfl (Ar<|iV .i64 x) (by clear h;have b:=E;simp at b;simp[Su, *])
 ·have G:=o;try simp only[zA]at G
  refine Ag<|A7<|Ac<|Ab 2<|Ax ?_
  refine h _ _ _<|Dh fun Y d=>?_
  refine Aj []<|W.s ?_
  refine B9 Aa<|Ag<|A7<|W.s<|W.block ?_
  refine Av<|Ao (v:=pL<|some<|Cv a 1) (Bd fun A e=>Aq (k:=.i64) (a:=a) (len:=5) (cap:=cap) (i:=1) (sz:=1) rfl Aa Aa runUnderlying224 sizeOf3 An An<|(c.mem0 e).here Sz)<|Ao (Ys.ld (a:=Cv a 1) rfl Aa isAgg3 fun A e=>(c.mem0 e).ld (v:=iV .i64 y) rfl)<|Ab 1 ?_
  refine Ai<|Aj [] ?_
  refine Al (y !=0) Aa (fun H=>?_) fun q=>?_
  ·have I:=H;try simp only[zA]at I
   refine Aj []<|Am rfl<|D3 rfl (Ar<|iV .i64 y) (by clear h d;have b:=o;have f:=H;simp at b f;simp[Su, *])
  ·have J:=q;try simp only[zA]at J
   refine Ag<|A7<|Ac<|Ab 2<|Ax ?_
   refine d _ _ _<|Dh fun Z g=>?_
   refine Aj []<|W.s ?_
   refine B9 Aa<|Ag<|A7<|W.s<|W.block ?_
   refine Av<|Ao (v:=pL<|some<|Cv a 2) (Bd fun A e=>Aq (k:=.i64) (a:=a) (len:=5) (cap:=cap) (i:=2) (sz:=1) rfl Aa Aa runUnderlying224 sizeOf3 An An<|(c.mem0 e).here Sz)<|Ao (Ys.ld (a:=Cv a 2) rfl Aa isAgg3 fun A e=>(c.mem0 e).ld (v:=iV .i64 z) rfl)<|Ab 1 ?_
   refine Ai<|Aj [] ?_
   refine Al (z !=0) Aa (fun L=>?_) fun B=>?_
   ·have N:=L;try simp only[zA]at N
    refine Aj []<|Am rfl<|D3 rfl (Ar<|iV .i64 z) (by clear h d g;have b:=o;have f:=q;have j:=L;simp at b f j;simp[Su, *])
   ·have O:=B;try simp only[zA]at O
    refine Ag<|A7<|Ac<|Ab 2<|Ax ?_
    refine g _ _ _<|Dh fun aa l=>?_
    refine Aj []<|W.s ?_
    refine B9 Aa<|Ag<|A7<|W.s<|W.block ?_
    refine Av<|Ao (v:=pL<|some<|Cv a 3) (Bd fun A e=>Aq (k:=.i64) (a:=a) (len:=5) (cap:=cap) (i:=3) (sz:=1) rfl Aa Aa runUnderlying224 sizeOf3 An An<|(c.mem0 e).here Sz)<|Ao (Ys.ld (a:=Cv a 3) rfl Aa isAgg3 fun A e=>(c.mem0 e).ld (v:=iV .i64 u) rfl)<|Ab 1 ?_
    refine Ai<|Aj [] ?_
    refine Al (u !=0) Aa (fun P=>?_) fun C=>?_
    ·have Q:=P;try simp only[zA]at Q
     refine Aj []<|Am rfl<|D3 rfl (Ar<|iV .i64 u) (by clear h d g l;have b:=o;have f:=q;have j:=B;have r:=P;simp at b f j r;simp[Su, *])
    ·have R:=C;try simp only[zA]at R
     refine Ag<|A7<|Ac<|Ab 2<|Ax ?_
     refine l _ _ _<|Dh fun ab t=>?_
     refine Aj []<|W.s ?_
     refine B9 Aa<|Ag<|A7<|W.s<|W.block ?_
     refine Av<|Ao (v:=pL<|some<|Cv a 4) (Bd fun A e=>Aq (k:=.i64) (a:=a) (len:=5) (cap:=cap) (i:=4) (sz:=1) rfl Aa Aa runUnderlying224 sizeOf3 An An<|(c.mem0 e).here Sz)<|Ao (Ys.ld (a:=Cv a 4) rfl Aa isAgg3 fun A e=>(c.mem0 e).ld (v:=iV .i64 v) rfl)<|Ab 1 ?_
     refine Ai<|Aj [] ?_
     refine Al (v !=0) Aa (fun S=>?_) fun T=>?_
     ·have U:=S;try simp only[zA]at U
      refine Aj []<|Am rfl<|D3 rfl (Ar<|iV .i64 v) (by clear h d g l t;have b:=o;have f:=q;have j:=B;have r:=C;have D:=S;simp at b f j r D;simp[Su, *])
     ·have V:=T;try simp only[zA]at V
      refine Ag<|A7<|Ac<|Ab 2<|Ax ?_
      refine t _ _ _<|Dh fun ad X=>?_
      refine Aj []<|W.s ?_
      refine B3 Aa<|Cp<|A7<|Aj []<|Am rfl<|D3 rfl (Ar<|iV .i64 0) (by clear h d g l t X;have b:=o;have f:=q;have j:=B;have r:=C;have D:=T;simp at b f j r D;simp[Su, *])
theorem Hd{x:Int}{xs:List Int}:Su (x::xs)=bif decide (x=0)then Su xs else x:=by
  show(if x≠0 then x else Su xs)=_
  by_cases h:x=0
  · rw[if_neg (fun g=>g h),decide_eq_true h];rfl
  · rw[if_pos h,decide_eq_false h];rfl
theorem orE(a b:Int×Int×Int):Su [LO.cmp LO.int a.1 b.1,LO.cmp LO.int a.2.1 b.2.1,LO.cmp LO.int a.2.2 b.2.2]=LO.cmp Cs a b:=by
  unfold Cs
  rw[Gu,Gu,Hd,Hd,Hd]
  cases decide (LO.cmp LO.int a.1 b.1=0)<;>cases decide (LO.cmp LO.int a.2.1 b.2.1=0)<;>simp only[cond_true,cond_false]
  by_cases h:LO.cmp LO.int a.2.2 b.2.2=0
  · rw[decide_eq_true h,h];rfl
  · rw[decide_eq_false h];rfl
theorem orF(a b:Cc):Su [LO.cmp LO.int a.1 b.1,LO.cmp LO.int a.2.1 b.2.1,LO.cmp LO.int a.2.2.2.1 b.2.2.2.1,LO.cmp LO.int a.2.2.1 b.2.2.1,LO.cmp LO.int a.2.2.2.2 b.2.2.2.2]=LO.cmp ordF a b:=by
  show _=LO.cmp (Gt LO.int (Gt LO.int (Gt LO.int (Gt LO.int LO.int)))) (Xe a) (Xe b)
  unfold Xe
  rw[Gu,Gu,Gu,Gu,Hd,Hd,Hd,Hd,Hd]
  cases decide (LO.cmp LO.int a.1 b.1=0)<;>cases decide (LO.cmp LO.int a.2.1 b.2.1=0)<;>cases decide (LO.cmp LO.int a.2.2.2.1 b.2.2.2.1=0)<;>cases decide (LO.cmp LO.int a.2.2.1 b.2.2.1=0)<;>simp only[cond_true,cond_false]
  by_cases h:LO.cmp LO.int a.2.2.2.2 b.2.2.2.2=0
  · rw[decide_eq_true h,h];rfl
  · rw[decide_eq_false h];rfl
theorem Akh(a b:Int×Int×Int)(w:World):Calls prog 33 #[aV (Kv a),aV (Kv b)] w (Df w (.int .i64 (LO.cmp Cs a b))):=by
 refine Ap (M:=[]) (LL:=[]) (n:=22) func33 rfl rfl A5 (Mem.refl _)<|W.s ?_
 refine Ac<|Af rfl (Bx (Kv a) rfl) fun g=>?_
 refine Af rfl (Bx (Kv b) rfl) fun h=>Ab 1<|Ai<|W.s ?_
 refine C6 [(0,true),(1,true),(2,true),(3,true),(5,true),(6,true),(7,true),(8,true),(10,true),(11,true),(12,true),(13,true),(4,false),(9,false),(14,false),(15,false),(16,false),(17,false)] [0,1,2,3,5,6,7,8,10,11,12,13]<|Dd 12 [(1,0),(0,0),(1,0),(0,0),(1,0),(0,0)]<|Ea (v:=iV .i64<|LO.cmp LO.int a.1 b.1) rfl (A6 fun e c=>(Yv a.1 b.1 _))<|Ea (v:=iV .i64<|LO.cmp LO.int a.2.1 b.2.1) rfl (A6 fun e c=>(R2 a.2.1 b.2.1 _))<|Ea (v:=iV .i64<|LO.cmp LO.int a.2.2 b.2.2) rfl (A6 fun e c=>(R1 a.2.2 b.2.2 _)) ?_
 refine Cg rfl rfl (Bf (mk:=fun f=>.slice (some ⟨f,0,none⟩) 3 3) (t:=3) (cs:=[iV .i64 (LO.cmp LO.int a.1 b.1),iV .i64<|LO.cmp LO.int a.2.1 b.2.1,iV .i64 (LO.cmp LO.int a.2.2 b.2.2)]) rfl fun _=>kr) (Ay [1,2]) fun d=>Wd.yc (v:=iV .i64<|Su [LO.cmp LO.int a.1 b.1,LO.cmp LO.int a.2.1 b.2.1,LO.cmp LO.int a.2.2 b.2.2]) rfl rfl rfl (A6 fun e c=>(An2 (LO.cmp LO.int a.1 b.1) (LO.cmp LO.int a.2.1 b.2.1) (LO.cmp LO.int a.2.2 b.2.2) (some ⟨d,0,none⟩) 3 _<|Az (i:=0) (j:=0) (t:=3) (b:=d) c rfl rfl)) (Ec [1,2])<|Dd 1 []<|Ck ?_
 refine Ak [] An rfl<|Am rfl<|D3 rfl (Ar<|iV .i64<|Su [LO.cmp LO.int a.1 b.1,LO.cmp LO.int a.2.1 b.2.1,LO.cmp LO.int a.2.2 b.2.2])<|by rw[orE]
theorem Aki(a b:Int×Int×Int×Int×Int)(w:World):Calls prog 31 #[aV (Kt a),aV (Kt b)] w (Df w (.int .i64 (LO.cmp ordF a b))):=by
 refine Ap (M:=[]) (LL:=[]) (n:=32) func31 rfl rfl A5 (Mem.refl _)<|W.s ?_
 refine Ac<|Af rfl (Bx (Kt a) rfl) fun g=>?_
 refine Af rfl (Bx (Kt b) rfl) fun h=>Ab 1<|Ai<|W.s ?_
 refine C6 [(0,true),(1,true),(2,true),(3,true),(5,true),(6,true),(7,true),(8,true),(10,true),(11,true),(12,true),(13,true),(15,true),(16,true),(17,true),(18,true),(20,true),(21,true),(22,true),(23,true),(4,false),(9,false),(14,false),(19,false),(24,false),(25,false),(26,false),(27,false)] [0,1,2,3,5,6,7,8,10,11,12,13,15,16,17,18,20,21,22,23]<|Dd 20 [(1,0),(0,0),(1,0),(0,0),(1,0),(0,0),(1,0),(0,0),(1,0),(0,0)]<|Ea (v:=iV .i64<|LO.cmp LO.int a.1 b.1) rfl (A6 fun d c=>(Yv a.1 b.1 _))<|Ea (v:=iV .i64<|LO.cmp LO.int a.2.1 b.2.1) rfl (A6 fun d c=>(R2 a.2.1 b.2.1 _))<|Ea (v:=iV .i64<|LO.cmp LO.int a.2.2.2.1 b.2.2.2.1) rfl (A6 fun d c=>(R1 a.2.2.2.1 b.2.2.2.1 _)) ?_
 refine Ea (v:=iV .i64<|LO.cmp LO.int a.2.2.1 b.2.2.1) rfl (A6 fun d c=>(R2 a.2.2.1 b.2.2.1 _))<|Ea (v:=iV .i64<|LO.cmp LO.int a.2.2.2.2 b.2.2.2.2) rfl (A6 fun d c=>(R1 a.2.2.2.2 b.2.2.2.2 _))<|Cg rfl rfl (Bf (mk:=fun f=>.slice (some ⟨f,0,none⟩) 5 5) (t:=3) (cs:=[iV .i64 (LO.cmp LO.int a.1 b.1),iV .i64<|LO.cmp LO.int a.2.1 b.2.1,iV .i64<|LO.cmp LO.int a.2.2.2.1 b.2.2.2.1,iV .i64<|LO.cmp LO.int a.2.2.1 b.2.2.1,iV .i64 (LO.cmp LO.int a.2.2.2.2 b.2.2.2.2)]) rfl fun _=>kr) (Ay [1,2]) fun e=>Wd.yc (v:=iV .i64<|Su [LO.cmp LO.int a.1 b.1,LO.cmp LO.int a.2.1 b.2.1,LO.cmp LO.int a.2.2.2.1 b.2.2.2.1,LO.cmp LO.int a.2.2.1 b.2.2.1,LO.cmp LO.int a.2.2.2.2 b.2.2.2.2]) rfl rfl rfl (A6 fun d c=>(An3 (LO.cmp LO.int a.1 b.1) (LO.cmp LO.int a.2.1 b.2.1) (LO.cmp LO.int a.2.2.2.1 b.2.2.2.1) (LO.cmp LO.int a.2.2.1 b.2.2.1) (LO.cmp LO.int a.2.2.2.2 b.2.2.2.2) (some ⟨e,0,none⟩) 5 _<|Az (i:=0) (j:=0) (t:=3) (b:=e) c rfl rfl)) (Ec [1,2])<|Dd 1 [] ?_
 refine Ck<|Ak [] An rfl<|Am rfl<|D3 rfl (Ar<|iV .i64<|Su [LO.cmp LO.int a.1 b.1,LO.cmp LO.int a.2.1 b.2.1,LO.cmp LO.int a.2.2.2.1 b.2.2.2.1,LO.cmp LO.int a.2.2.1 b.2.2.1,LO.cmp LO.int a.2.2.2.2 b.2.2.2.2])<|by rw[orF]
abbrev Q0(x:(Int×Int×Int×Int×Int)×(Option Nat)):List Value:=[iV .u8 x.1.1,iV .u32 x.1.2.1,iV .u32 x.1.2.2.1,iV .u16 x.1.2.2.2.1,iV .u16 x.1.2.2.2.2,pL (Cz x.2)]
theorem Yw(x:(Int×Int×Int×Int×Int)×(Option Nat))(k:Int×Int×Int×Int×Int)(a:Option Addr)(n cap:Nat)(b:Int)(d e:Nat)(w:World)(f:At w (some ⟨e,0,none⟩) [pL (some ⟨d,0,none⟩)])(g:At w (some ⟨d,0,none⟩) [sL a n cap,Value.int .i64 b,Value.func (.func 31) #[] #[]]):Calls prog 161 #[aV [iV .u8 x.1.1,iV .u32 x.1.2.1,iV .u32 x.1.2.2.1,iV .u16 x.1.2.2.2.1,iV .u16 x.1.2.2.2.2,pL (Cz x.2)],aV (Kt k),pV e 0] w (Df w (.int .i64 (LO.cmp ordF x.1 k))):=by
 refine Ap (M:=[]) (LL:=[]) (n:=14) func161 rfl rfl A5 (Mem.refl _)<|W.s ?_
 refine Ac<|Af rfl (Bx (Q0 x) rfl) fun l=>?_
 refine Af rfl (Bx (Kt k) rfl) fun o=>Ab 1<|Ai<|W.s ?_
 refine C6 [(0,true),(1,true),(2,true),(3,true),(4,true),(5,true),(6,false),(7,false),(8,false)] [0,1,2,3,4,5]<|Bi rfl (Ys.ld (a:=⟨e,0,none⟩) rfl Aa isAgg85 fun i h=>by have c:=(f.mem0 h).ld (q:=0) (v:=pV d 0) rfl;rw[Bc]at c;exact c)<|B1 2<|Bi rfl (Ys.ld (a:=⟨d,2,none⟩) rfl Aa isAgg94 fun i h=>by have c:=(g.mem0 h).ld (q:=2) (v:=Value.func (.func 31) #[] #[]) rfl;rw[Bc]at c;exact c)<|Bq 3 [(1,0),(0,0)] ?_
 refine Ea (v:=iV .i64<|LO.cmp ordF x.1 k) rfl (A6 fun i j=>(Aki x.1 k _))<|Dd 1 []<|Ck<|Ak [] An rfl ?_
 refine Am rfl<|D3 rfl (Ar<|iV .i64<|LO.cmp ordF x.1 k) rfl
theorem An4{xs:List ((Int×Int×Int×Int×Int)×(Option Nat))}{k:Int×Int×Int×Int×Int}(b:Gh ordF xs):((decide (((Bh ordF xs k:Nat):Int)<(xs.length:Int)))&&((LO.cmp ordF (xs.getD (Bh ordF xs k) dS).1 k)==0))=Bn xs k:=by
  rw[←K9 dS b]
  congr 1
  · exact decide_eq_decide.2 Ae
  · rw[Bool.eq_iff_iff,beq_iff_eq,decide_eq_true_eq];exact LO.cmp_eq _
abbrev Q1(k:Int×Int×Int×Int×Int):List Value:=(Kt k)
theorem An5(xs:List ((Int×Int×Int×Int×Int)×(Option Nat)))(a:Option Addr)(cap:Nat)(f:Int)(T:Nat)(E:Nat)(k:Int×Int×Int×Int×Int)(w:World)(L:At w (some ⟨E,0,none⟩) [pL (some ⟨T,0,none⟩)])(N:At w (some ⟨T,0,none⟩) [sL a xs.length cap,Value.int .i64 f,Value.func (.func 31) #[] #[]])(r:At w a (mm Gi xs))(hn:xs.length≤100000)(U:Gh ordF xs):Calls prog 160 #[sL a xs.length cap,aV (Kt k),Value.func (.func 161) #[] #[pV E 0]] w (Df w (Value.tuple #[nV .i64 (Bh ordF xs k),bV (Bn xs k)])):=by
 refine Ap (M:=[]) (LL:=[]) (n:=49) func160 rfl rfl A5 (Mem.refl _)<|W.s ?_
 refine Ac<|Af rfl (Bx (Q1 k) rfl) fun V=>?_
 refine Ab 2<|Ai<|Aj []<|Aj [] ?_
 refine W.s<|W.block<|Ft [0,2,4,8,9,10] (fun(i:Nat) (j:Nat)=>[sL a xs.length cap,Value.func (.func 161) #[] #[pV E 0],pV V 0,nV .i64 xs.length,nV .i64 i,nV .i64 j]) (fun(i:Nat) (j:Nat)=>i≤Bh ordF xs k∧Bh ordF xs k≤j∧j≤xs.length) (fun(i:Nat) (j:Nat)=>[[cb V (Q1 k) 47]]) (fun(i:Nat) (j:Nat)=>j-i) 0 xs.length Aa ⟨(Nat.zero_le _),G1,(Nat.le_refl _)⟩ (by rfl) fun i j f9 J8 O F=>?_
 obtain⟨hi,hj,ag⟩:=O
 refine W.s<|Aj [] ?_
 refine Al (decide<|((i:Nat):Int)<(j:Int)) Aa (fun X=>?_) fun Y=>?_
 ·have P:=X;try simp only[zA]at P
  refine Ag<|A7<|W.block<|Av ?_
  refine Ab 2<|Bz (((i+j):Nat):Int) (i:Int) (j:Int)<|Ao (v:=nV .u64<|i+j) ((Ys.p (v:=.int .u64<|Cq .u64 ((i+j:Nat):Int))).conseq<|Ad<|Cl Ae Ae)<|Ao (v:=nV .u64<|(i+j)/2) ((Ys.p (v:=.int .u64<|Ic .u64 ((i+j:Nat):Int) ((1:Nat):Int))).conseq<|Ad<|Fa (i+j) 1 An)<|Ao (v:=nV .i64<|(i+j)/2) ((Ys.p (v:=.int .i64<|Cq .i64 (((i+j)/2:Nat):Int))).conseq<|Ad<|Dc Ae Ae) ?_
  refine Ab 1<|Ai<|W.s<|C6 [(0,true),(1,true),(2,true),(3,true),(4,true),(5,false),(6,false),(7,false)] [0,1,2,3,4] ?_
  refine B1 3<|Bi (v:=Value.pointer<|some<|Cv a<|((i+j)/2)*6) rfl (Bd fun x c=>Aq (k:=.i64) (a:=a) (len:=xs.length) (cap:=cap) (i:=(((i+j)/2:Nat):Int)) (sz:=6) rfl Aa Aa runUnderlying151 sizeOf173 Ae Ae<|(r.mem0 c).here<|by rw[Cj (g:=Gi) (sz:=6) (fun _=>rfl)];first|omega|(simp;omega))<|Bi (v:=aV [iV .u8 (((xs.getD ((i+j)/2) dS).1).1),iV .u32<|((xs.getD ((i+j)/2) dS).1).2.1,iV .u32<|((xs.getD ((i+j)/2) dS).1).2.2.1,iV .u16<|((xs.getD ((i+j)/2) dS).1).2.2.2.1,iV .u16<|((xs.getD ((i+j)/2) dS).1).2.2.2.2,Value.pointer (Cz<|(xs.getD ((i+j)/2) dS).2)]) rfl (Ys.ldN (a:=Cv a<|((i+j)/2)*6) (vs:=[iV .u8 (((xs.getD ((i+j)/2) dS).1).1),iV .u32<|((xs.getD ((i+j)/2) dS).1).2.1,iV .u32<|((xs.getD ((i+j)/2) dS).1).2.2.1,iV .u16<|((xs.getD ((i+j)/2) dS).1).2.2.2.1,iV .u16<|((xs.getD ((i+j)/2) dS).1).2.2.2.2,Value.pointer (Cz<|(xs.getD ((i+j)/2) dS).2)]) rfl Aa isAgg173 sizeOf173 rfl fun x c=>(r.mem0 c).ldN<|Di (g:=Gi) (sz:=6) (fun _=>rfl) dS (xs:=xs) (k:=(i+j)/2) Ae)<|Bq 1 [(0,0)]<|Ea (v:=iV .i64<|LO.cmp ordF ((xs.getD ((i+j)/2) dS).1) k) rfl (A6 fun x l=>(Yw (((xs.getD ((i+j)/2) dS).1),((xs.getD ((i+j)/2) dS).2)) k a xs.length cap f T E _ (L.mem0 l)<|N.mem0 l)) ?_
  refine Bq 1 []<|Ck ?_
  refine Al (decide<|(LO.cmp ordF ((xs.getD ((i+j)/2) dS).1) k)<0) Aa (fun Z=>?_) fun aa=>?_
  ·have A:=Z;try simp only[zA]at A
   refine Ac<|Ab 1<|Bz (((((i+j)/2)+1):Nat):Int) (((i+j)/2:Nat):Int) 1<|Ab 1<|Ax ?_
   have o:=Gv dS (k:=k) U (h:=(i+j)/2) Ae
   have Q:=o.1 (H5 _|>.1 A)
   refine fun x c=>F ((i+j)/2+1) j _ x Ae ⟨Ae,Ae,Ae⟩ ?_ c
   kernel_rfl
  ·have B:=aa;try simp only[zA]at B
   refine Ac<|Ab 2<|Ax ?_
   have o:=Gv dS (k:=k) U (h:=(i+j)/2) Ae
   have Q: ¬((i+j)/2<Bh ordF xs k):=fun c=>B (H5 _|>.2 (o.2 c))
   refine fun x c=>F i ((i+j)/2) _ x Ae ⟨Ae,Ae,Ae⟩ ?_ c
   kernel_rfl
 ·have R:=Y;try simp only[zA]at R
  refine Cp<|A7<|W.s<|C6 [(0,true),(1,true),(2,false),(3,false),(4,false),(5,true),(6,true),(7,true),(8,true),(9,true),(10,false),(11,false),(12,true),(13,true),(14,false),(15,false)] [0,1,5,6,7,8,9,12,13]<|Bq 5 [] ?_
  refine Bg (v:=Value.func (.func 161) #[] #[pV E 0]) (decide<|((i:Nat):Int)<(xs.length:Int)) rfl (Bw rfl Aa) rfl (fun ab=>?_) ?_
  ·exact Ys.p
  refine Bg (v:=sL a xs.length cap) (decide<|((i:Nat):Int)<(xs.length:Int)) rfl (Bw rfl Aa) rfl (fun ad=>?_) ?_
  ·exact Ys.p
  refine Bg (v:=nV .i64 i) (decide<|((i:Nat):Int)<(xs.length:Int)) rfl (Bw rfl Aa) rfl (fun ae=>?_) ?_
  ·exact Ys.p
  refine Bg (v:=pL<|some<|Cv a<|i*6) (decide<|((i:Nat):Int)<(xs.length:Int)) rfl (Bw rfl Aa) rfl (fun q=>?_) ?_
  ·have G:=q;try simp only[zA]at G
   refine Bs (t:=41) (v0:=sL a xs.length cap) (lz (g:=decide<|((i:Nat):Int)<(xs.length:Int)) (u:=undef) q Aa)<|Bs (t:=42) (v0:=nV .i64 i) (lz (g:=decide<|((i:Nat):Int)<(xs.length:Int)) (u:=undef) q Aa) ?_
   exact Bd fun x c=>Aq (k:=.i64) (a:=a) (len:=xs.length) (cap:=cap) (i:=(i:Int)) (sz:=6) rfl Aa Aa runUnderlying151 sizeOf173 Ae Ae<|(r.mem0 c).here<|by rw[Cj (g:=Gi) (sz:=6) (fun _=>rfl)];first|omega|(simp;omega)
  refine Bg (v:=aV [iV .u8 (((xs.getD i dS).1).1),iV .u32<|((xs.getD i dS).1).2.1,iV .u32<|((xs.getD i dS).1).2.2.1,iV .u16<|((xs.getD i dS).1).2.2.2.1,iV .u16<|((xs.getD i dS).1).2.2.2.2,pL (Cz<|(xs.getD i dS).2)]) (decide<|((i:Nat):Int)<(xs.length:Int)) rfl (Bw rfl Aa) rfl (fun C=>?_) ?_
  ·have H:=C;try simp only[zA]at H
   refine Bs (t:=43) (v0:=pL<|some<|Cv a<|i*6) (lz (g:=decide<|((i:Nat):Int)<(xs.length:Int)) (u:=undef) C Aa) ?_
   exact Ys.ldN (a:=Cv a<|i*6) (vs:=[iV .u8 (((xs.getD i dS).1).1),iV .u32<|((xs.getD i dS).1).2.1,iV .u32<|((xs.getD i dS).1).2.2.1,iV .u16<|((xs.getD i dS).1).2.2.2.1,iV .u16<|((xs.getD i dS).1).2.2.2.2,pL (Cz<|(xs.getD i dS).2)]) rfl Aa isAgg173 sizeOf173 rfl fun x c=>(r.mem0 c).ldN<|Di (g:=Gi) (sz:=6) (fun _=>rfl) dS (xs:=xs) (k:=i) Ae
  refine Bo (v:=aV<|Q1 k) (decide<|((i:Nat):Int)<(xs.length:Int)) rfl (Bw rfl Aa) rfl (fun af=>?_) (.inr fun _ c=>c) ?_
  ·refine Ys.yc ?_
   exact Fv V 0 0 0 (Q1 k) isAgg47 sizeOf47
  refine Bo (v:=iV .i64<|LO.cmp ordF ((xs.getD i dS).1) k) (decide<|((i:Nat):Int)<(xs.length:Int)) rfl (Bw rfl Aa) rfl (fun d=>?_) (.inr fun _ c=>c) ?_
  ·have I:=d;try simp only[zA]at I
   refine I2 (t:=40) (v0:=Value.func (.func 161) #[] #[pV E 0]) (lz (g:=decide<|((i:Nat):Int)<(xs.length:Int)) (u:=undef) d Aa)<|I2 (t:=44) (v0:=aV [iV .u8 (((xs.getD i dS).1).1),iV .u32<|((xs.getD i dS).1).2.1,iV .u32<|((xs.getD i dS).1).2.2.1,iV .u16<|((xs.getD i dS).1).2.2.2.1,iV .u16<|((xs.getD i dS).1).2.2.2.2,pL (Cz<|(xs.getD i dS).2)]) (lz (g:=decide<|((i:Nat):Int)<(xs.length:Int)) (u:=undef) d Aa)<|I2 (t:=45) (v0:=aV<|Q1 k) (lz (g:=decide<|((i:Nat):Int)<(xs.length:Int)) (u:=undef) d Aa) ?_
   exact A6 fun x l=>(Yw (((xs.getD i dS).1),((xs.getD i dS).2)) k a xs.length cap f T E _ (L.mem0 l)<|N.mem0 l)
  refine Bg (v:=bV<|(LO.cmp ordF ((xs.getD i dS).1) k)==0) (decide<|((i:Nat):Int)<(xs.length:Int)) rfl (Bw rfl Aa) rfl (fun D=>?_) ?_
  ·have J:=D;try simp only[zA]at J
   refine Bs (t:=46) (v0:=iV .i64<|LO.cmp ordF ((xs.getD i dS).1) k) (lz (g:=decide<|((i:Nat):Int)<(xs.length:Int)) (u:=undef) D Aa) ?_
   exact Ys.p
  refine Bi (v:=bV<|(decide<|((i:Nat):Int)<(xs.length:Int))&&((LO.cmp ordF ((xs.getD i dS).1) k)==0)) rfl (Ci (e:=decide<|((i:Nat):Int)<(xs.length:Int)) (b:=(LO.cmp ordF ((xs.getD i dS).1) k)==0) rfl Aa Aa Aa)<|Bq 2 []<|Ck<|Ak [] An rfl ?_
  refine Am rfl ?_
  have S:i=Bh ordF xs k:=by omega
  exact Mf rfl (Ar<|nV .i64 i) (Ar<|bV<|(decide<|((i:Nat):Int)<(xs.length:Int))&&((LO.cmp ordF ((xs.getD i dS).1) k)==0))<|by clear F;rw[S];refine congrArg (fun b=>Value.tuple #[_,.bool b]) ?_;exact An4 U
theorem T7(xs:List ((Int×Int×Int×Int×Int)×(Option Nat)))(a:Option Addr)(cap:Nat)(c:Int)(e:Nat)(k:Int×Int×Int×Int×Int)(w:World)(f:At w (some ⟨e,0,none⟩) [sL a xs.length cap,Value.int .i64 c,Value.func (.func 31) #[] #[]])(g:At w a (mm Gi xs))(x:xs.length≤100000)(o:Gh ordF xs):Calls prog 109 #[pV e 0,aV (Kt k)] w (Df w (Value.tuple #[nV .i64 (Bh ordF xs k),bV (Bn xs k)])):=by
 refine Ap (M:=[]) (LL:=[]) (n:=15) func109 rfl rfl A5 (Mem.refl _)<|W.s ?_
 refine Ac<|Af rfl (E6 (v:=pV e 0) (cs:=[pV e 0]) rfl rfl Aa rfl) fun h=>?_
 refine Af rfl (Bx (Kt k) rfl) fun A=>Ab 2<|Ai<|W.s ?_
 refine C6 [(0,true),(1,true),(2,true),(3,true),(4,true),(5,false),(6,false),(7,true),(8,false),(9,false),(10,false)] [0,1,2,3,4,7]<|Dd 3 [(1,0)]<|Bi rfl (Ys.ld (a:=⟨e,0,none⟩) rfl Aa isAgg151 fun r u=>by have l:=(f.mem0 u).ld (q:=0) (v:=sL a xs.length cap) rfl;rw[Bc]at l;exact l)<|Bq 2 [(0,0)]<|Ea (v:=Value.tuple #[nV .i64 (Bh ordF xs k),bV (Bn xs k)]) rfl (A6 fun r d=>(An5 xs a cap c e h k _ (Az (i:=1) (j:=0) (t:=85) (b:=h) d rfl rfl) (f.mem0 d) (g.mem0 d) Dz o)) ?_
 refine Bq 4 []<|Ck<|Ak [] An rfl<|Am rfl<|Mf rfl (Ar<|nV .i64<|Bh ordF xs k) (Ar<|bV<|Bn xs k) rfl
theorem T8(xs:List ((Int×Int×Int×Int×Int)×(Option Nat)))(a:Option Addr)(cap:Nat)(b:Int)(c:Nat)(w:World)(d:At w (some ⟨c,0,none⟩) [sL a xs.length cap,Value.int .i64 b,Value.func (.func 31) #[] #[]])(f:At w a (mm Gi xs))(h:xs.length≤100000)(i:Gh ordF xs):Calls prog 55 #[pV c 0] w (Df w (nV .i64 xs.length)):=by
 refine Ap (M:=[]) (LL:=[]) (n:=8) func55 rfl rfl A5 (Mem.refl _)<|Aj []<|Av<|Ab 3 ?_
 refine Ao (Ys.ld (a:=⟨c,0,none⟩) rfl Aa isAgg151 fun j g=>by have e:=(d.mem0 g).ld (q:=0) (v:=sL a xs.length cap) rfl;rw[Bc]at e;exact e)<|Ab 2<|Ai<|Am rfl<|D3 rfl (Ar<|nV .i64 xs.length) rfl
theorem T9(xs:List ((Int×Int×Int×Int×Int)×(Option Nat)))(a:Option Addr)(cap:Nat)(b:Int)(c:Nat)(w:World)(d:At w (some ⟨c,0,none⟩) [sL a xs.length cap,Value.int .i64 b,Value.func (.func 31) #[] #[]])(f:At w a (mm Gi xs))(h:xs.length≤100000)(i:Gh ordF xs):Calls prog 100 #[pV c 0] w (Df w (iV .i64 b)):=by
 refine Ap (M:=[]) (LL:=[]) (n:=7) func100 rfl rfl A5 (Mem.refl _)<|Aj []<|Av<|Ab 3 ?_
 refine Ao (Ys.ld (a:=⟨c,1,none⟩) rfl Aa isAgg3 fun j g=>by have e:=(d.mem0 g).ld (q:=1) (v:=iV .i64 b) rfl;rw[Bc]at e;exact e)<|Ab 1<|Ai<|Am rfl<|D3 rfl (Ar<|iV .i64 b) rfl
theorem Mw(xs:List ((Int×Int×Int×Int×Int)×(Option Nat)))(a:Option Addr)(cap:Nat)(b:Int)(h:Nat)(k:Int×Int×Int×Int×Int)(w:World)(d:At w (some ⟨h,0,none⟩) [sL a xs.length cap,Value.int .i64 b,Value.func (.func 31) #[] #[]])(c:At w a (mm Gi xs))(x:xs.length≤100000)(j:Gh ordF xs):Calls prog 56 #[pV h 0,aV (Kt k)] w (Df w (Value.tuple #[pL (Cz (B0 none xs k)),bV (Bn xs k)])):=by
 refine Ap (M:=[]) (LL:=[]) (n:=24) func56 rfl rfl A5 (Mem.refl _)<|W.s ?_
 refine Ac<|Af rfl (Bx (Kt k) rfl) fun A=>?_
 refine Ab 2<|Ai<|W.s<|W.s ?_
 refine Ac<|A3 2 [(0,0)]<|Ca (v:=Value.tuple #[nV .i64 (Bh ordF xs k),bV (Bn xs k)]) (A6 fun l e=>(T7 xs a cap b h k _ (d.mem0 e) (c.mem0 e) Dz j))<|Ab 5<|Ax ?_
 refine A7<|Ak [] An rfl<|Aj [] ?_
 refine Al (Bn xs k) Aa (fun o=>?_) fun r=>?_
 ·refine W.s ?_
  have t:=G2 dS j o
  refine Ac<|Ab 3<|Ao (Ys.ld (a:=⟨h,0,none⟩) rfl Aa isAgg151 fun l f=>by have u:=(d.mem0 f).ld (q:=0) (v:=Value.slice a xs.length cap) rfl;rw[Bc]at u;exact u)<|Ab 1<|Ao (v:=Value.pointer<|some<|Cv a<|(Bh ordF xs k)*6) (Bd fun l f=>Aq (k:=.i64) (a:=a) (len:=xs.length) (cap:=cap) (i:=(Bh ordF xs k:Int)) (sz:=6) rfl Aa Aa runUnderlying151 sizeOf173 Ae Ae<|(c.mem0 f).here<|by rw[Cj (g:=Gi) (sz:=6) (fun _=>rfl)];first|omega|(simp;omega)) ?_
  refine Ab 1<|Ao (v:=pL<|Cz<|(xs.getD (Bh ordF xs k) dS).2) (Ys.ld (a:=(Cv a<|(Bh ordF xs k)*6).add 5) rfl Aa isAgg93 fun l f=>(c.mem0 f).ldF<|Nn (g:=Gi) (sz:=6) (fun _=>rfl) dS (xs:=xs) (k:=Bh ordF xs k) Ae 5 rfl)<|Ab 2<|Ai ?_
  refine Am rfl<|Mf rfl (Ar<|pL<|Cz<|(xs.getD (Bh ordF xs k) dS).2) (Ar<|bV true)<|by rw[P0 dS j o,o];try rfl
 ·refine Ag<|A7<|Aj []<|Am rfl<|Mf rfl (Ar<|pL none) (Ar<|bV false)<|by rw[Hv r,r];try rfl
theorem Akj(c:Int)(w:World):Calls prog 30 #[iV .i64 c,Value.func (.func 31) #[] #[]] w (Bl w (fun _:Nat=>True) (fun b=>.pointer (some ⟨b,0,none⟩)) [] (fun b=>[[cb b [sL none 0 0,iV .i64 (Eu c 0),Value.func (.func 31) #[] #[]] 153]])):=by
 refine Ap (M:=[]) (LL:=[]) (n:=10) func30 rfl rfl A5 (Mem.refl _)<|Aj []<|Av<|Ab 4 ?_
 have f:=Kd c 0
 refine Af rfl (Bx [sL none 0 0,iV .i64<|Eu c 0,Value.func (.func 31) #[] #[]] rfl) fun e=>Ab 1<|Ai<|Am rfl<|D4 rfl (Ar<|pV e 0) fun g d=>⟨e,trivial,rfl,(d.pick [0] An rfl)⟩
theorem Yx(x:(Int×Int×Int)×(Lse))(k:Int×Int×Int)(a:Option Addr)(n cap:Nat)(b:Int)(d e:Nat)(w:World)(f:At w (some ⟨e,0,none⟩) [pL (some ⟨d,0,none⟩)])(g:At w (some ⟨d,0,none⟩) [sL a n cap,Value.int .i64 b,Value.func (.func 33) #[] #[]]):Calls prog 169 #[aV [iV .u8 x.1.1,iV .u32 x.1.2.1,iV .u16 x.1.2.2,iV .u16 x.2.ext,iV .i64 x.2.count],aV (Kv k),pV e 0] w (Df w (.int .i64 (LO.cmp Cs x.1 k))):=by
 refine Ap (M:=[]) (LL:=[]) (n:=14) func169 rfl rfl A5 (Mem.refl _)<|W.s ?_
 refine Ac<|Af rfl (Bx [iV .u8 x.1.1,iV .u32 x.1.2.1,iV .u16 x.1.2.2,iV .u16 x.2.ext,iV .i64 x.2.count] rfl) fun l=>?_
 refine Af rfl (Bx (Kv k) rfl) fun o=>Ab 1<|Ai<|W.s ?_
 refine C6 [(0,true),(1,true),(2,true),(3,true),(4,true),(5,true),(6,false),(7,false),(8,false)] [0,1,2,3,4,5]<|Bi rfl (Ys.ld (a:=⟨e,0,none⟩) rfl Aa isAgg86 fun i h=>by have c:=(f.mem0 h).ld (q:=0) (v:=pV d 0) rfl;rw[Bc]at c;exact c)<|B1 2<|Bi rfl (Ys.ld (a:=⟨d,2,none⟩) rfl Aa isAgg100 fun i h=>by have c:=(g.mem0 h).ld (q:=2) (v:=Value.func (.func 33) #[] #[]) rfl;rw[Bc]at c;exact c)<|Bq 3 [(1,0),(0,0)] ?_
 refine Ea (v:=iV .i64<|LO.cmp Cs x.1 k) rfl (A6 fun i j=>(Akh x.1 k _))<|Dd 1 []<|Ck<|Ak [] An rfl ?_
 refine Am rfl<|D3 rfl (Ar<|iV .i64<|LO.cmp Cs x.1 k) rfl
theorem An6{xs:List ((Int×Int×Int)×(Lse))}{k:Int×Int×Int}(b:Gh Cs xs):((decide (((Bh Cs xs k:Nat):Int)<(xs.length:Int)))&&((LO.cmp Cs (xs.getD (Bh Cs xs k) dD).1 k)==0))=Bn xs k:=by
  rw[←K9 dD b]
  congr 1
  · exact decide_eq_decide.2 Ae
  · rw[Bool.eq_iff_iff,beq_iff_eq,decide_eq_true_eq];exact LO.cmp_eq _
abbrev Q2(k:Int×Int×Int):List Value:=(Kv k)
theorem An7(xs:List ((Int×Int×Int)×(Lse)))(a:Option Addr)(cap:Nat)(f:Int)(T:Nat)(E:Nat)(k:Int×Int×Int)(w:World)(L:At w (some ⟨E,0,none⟩) [pL (some ⟨T,0,none⟩)])(N:At w (some ⟨T,0,none⟩) [sL a xs.length cap,Value.int .i64 f,Value.func (.func 33) #[] #[]])(r:At w a (mm Gl xs))(hn:xs.length≤100000)(U:Gh Cs xs):Calls prog 168 #[sL a xs.length cap,aV (Kv k),Value.func (.func 169) #[] #[pV E 0]] w (Df w (Value.tuple #[nV .i64 (Bh Cs xs k),bV (Bn xs k)])):=by
 refine Ap (M:=[]) (LL:=[]) (n:=49) func168 rfl rfl A5 (Mem.refl _)<|W.s ?_
 refine Ac<|Af rfl (Bx (Q2 k) rfl) fun V=>?_
 refine Ab 2<|Ai<|Aj []<|Aj [] ?_
 refine W.s<|W.block<|Ft [0,2,4,8,9,10] (fun(i:Nat) (j:Nat)=>[sL a xs.length cap,Value.func (.func 169) #[] #[pV E 0],pV V 0,nV .i64 xs.length,nV .i64 i,nV .i64 j]) (fun(i:Nat) (j:Nat)=>i≤Bh Cs xs k∧Bh Cs xs k≤j∧j≤xs.length) (fun(i:Nat) (j:Nat)=>[[cb V (Q2 k) 97]]) (fun(i:Nat) (j:Nat)=>j-i) 0 xs.length Aa ⟨(Nat.zero_le _),G1,(Nat.le_refl _)⟩ (by rfl) fun i j f9 J8 O F=>?_
 obtain⟨hi,hj,ag⟩:=O
 refine W.s<|Aj [] ?_
 refine Al (decide<|((i:Nat):Int)<(j:Int)) Aa (fun X=>?_) fun Y=>?_
 ·have P:=X;try simp only[zA]at P
  refine Ag<|A7<|W.block<|Av ?_
  refine Ab 2<|Bz (((i+j):Nat):Int) (i:Int) (j:Int)<|Ao (v:=nV .u64<|i+j) ((Ys.p (v:=.int .u64<|Cq .u64 ((i+j:Nat):Int))).conseq<|Ad<|Cl Ae Ae)<|Ao (v:=nV .u64<|(i+j)/2) ((Ys.p (v:=.int .u64<|Ic .u64 ((i+j:Nat):Int) ((1:Nat):Int))).conseq<|Ad<|Fa (i+j) 1 An)<|Ao (v:=nV .i64<|(i+j)/2) ((Ys.p (v:=.int .i64<|Cq .i64 (((i+j)/2:Nat):Int))).conseq<|Ad<|Dc Ae Ae) ?_
  refine Ab 1<|Ai<|W.s<|C6 [(0,true),(1,true),(2,true),(3,true),(4,true),(5,false),(6,false),(7,false)] [0,1,2,3,4] ?_
  refine B1 3<|Bi (v:=Value.pointer<|some<|Cv a<|((i+j)/2)*5) rfl (Bd fun x c=>Aq (k:=.i64) (a:=a) (len:=xs.length) (cap:=cap) (i:=(((i+j)/2:Nat):Int)) (sz:=5) rfl Aa Aa runUnderlying158 sizeOf234 Ae Ae<|(r.mem0 c).here<|by rw[Cj (g:=Gl) (sz:=5) (fun _=>rfl)];first|omega|(simp;omega))<|Bi (v:=aV [iV .u8 (((xs.getD ((i+j)/2) dD).1).1),iV .u32<|((xs.getD ((i+j)/2) dD).1).2.1,iV .u16<|((xs.getD ((i+j)/2) dD).1).2.2,iV .u16<|((xs.getD ((i+j)/2) dD).2).ext,iV .i64 (((xs.getD ((i+j)/2) dD).2).count)]) rfl (Ys.ldN (a:=Cv a<|((i+j)/2)*5) (vs:=[iV .u8 (((xs.getD ((i+j)/2) dD).1).1),iV .u32<|((xs.getD ((i+j)/2) dD).1).2.1,iV .u16<|((xs.getD ((i+j)/2) dD).1).2.2,iV .u16<|((xs.getD ((i+j)/2) dD).2).ext,iV .i64 (((xs.getD ((i+j)/2) dD).2).count)]) rfl Aa isAgg234 sizeOf234 rfl fun x c=>(r.mem0 c).ldN<|Di (g:=Gl) (sz:=5) (fun _=>rfl) dD (xs:=xs) (k:=(i+j)/2) Ae)<|Bq 1 [(0,0)]<|Ea (v:=iV .i64<|LO.cmp Cs ((xs.getD ((i+j)/2) dD).1) k) rfl (A6 fun x l=>(Yx (((xs.getD ((i+j)/2) dD).1),((xs.getD ((i+j)/2) dD).2)) k a xs.length cap f T E _ (L.mem0 l)<|N.mem0 l)) ?_
  refine Bq 1 []<|Ck ?_
  refine Al (decide<|(LO.cmp Cs ((xs.getD ((i+j)/2) dD).1) k)<0) Aa (fun Z=>?_) fun aa=>?_
  ·have A:=Z;try simp only[zA]at A
   refine Ac<|Ab 1<|Bz (((((i+j)/2)+1):Nat):Int) (((i+j)/2:Nat):Int) 1<|Ab 1<|Ax ?_
   have o:=Gv dD (k:=k) U (h:=(i+j)/2) Ae
   have Q:=o.1 (H5 _|>.1 A)
   refine fun x c=>F ((i+j)/2+1) j _ x Ae ⟨Ae,Ae,Ae⟩ ?_ c
   kernel_rfl
  ·have B:=aa;try simp only[zA]at B
   refine Ac<|Ab 2<|Ax ?_
   have o:=Gv dD (k:=k) U (h:=(i+j)/2) Ae
   have Q: ¬((i+j)/2<Bh Cs xs k):=fun c=>B (H5 _|>.2 (o.2 c))
   refine fun x c=>F i ((i+j)/2) _ x Ae ⟨Ae,Ae,Ae⟩ ?_ c
   kernel_rfl
 ·have R:=Y;try simp only[zA]at R
  refine Cp<|A7<|W.s<|C6 [(0,true),(1,true),(2,false),(3,false),(4,false),(5,true),(6,true),(7,true),(8,true),(9,true),(10,false),(11,false),(12,true),(13,true),(14,false),(15,false)] [0,1,5,6,7,8,9,12,13]<|Bq 5 [] ?_
  refine Bg (v:=Value.func (.func 169) #[] #[pV E 0]) (decide<|((i:Nat):Int)<(xs.length:Int)) rfl (Bw rfl Aa) rfl (fun ab=>?_) ?_
  ·exact Ys.p
  refine Bg (v:=sL a xs.length cap) (decide<|((i:Nat):Int)<(xs.length:Int)) rfl (Bw rfl Aa) rfl (fun ad=>?_) ?_
  ·exact Ys.p
  refine Bg (v:=nV .i64 i) (decide<|((i:Nat):Int)<(xs.length:Int)) rfl (Bw rfl Aa) rfl (fun ae=>?_) ?_
  ·exact Ys.p
  refine Bg (v:=pL<|some<|Cv a<|i*5) (decide<|((i:Nat):Int)<(xs.length:Int)) rfl (Bw rfl Aa) rfl (fun q=>?_) ?_
  ·have G:=q;try simp only[zA]at G
   refine Bs (t:=41) (v0:=sL a xs.length cap) (lz (g:=decide<|((i:Nat):Int)<(xs.length:Int)) (u:=undef) q Aa)<|Bs (t:=42) (v0:=nV .i64 i) (lz (g:=decide<|((i:Nat):Int)<(xs.length:Int)) (u:=undef) q Aa) ?_
   exact Bd fun x c=>Aq (k:=.i64) (a:=a) (len:=xs.length) (cap:=cap) (i:=(i:Int)) (sz:=5) rfl Aa Aa runUnderlying158 sizeOf234 Ae Ae<|(r.mem0 c).here<|by rw[Cj (g:=Gl) (sz:=5) (fun _=>rfl)];first|omega|(simp;omega)
  refine Bg (v:=aV [iV .u8 (((xs.getD i dD).1).1),iV .u32<|((xs.getD i dD).1).2.1,iV .u16<|((xs.getD i dD).1).2.2,iV .u16<|((xs.getD i dD).2).ext,iV .i64 (((xs.getD i dD).2).count)]) (decide<|((i:Nat):Int)<(xs.length:Int)) rfl (Bw rfl Aa) rfl (fun C=>?_) ?_
  ·have H:=C;try simp only[zA]at H
   refine Bs (t:=43) (v0:=pL<|some<|Cv a<|i*5) (lz (g:=decide<|((i:Nat):Int)<(xs.length:Int)) (u:=undef) C Aa) ?_
   exact Ys.ldN (a:=Cv a<|i*5) (vs:=[iV .u8 (((xs.getD i dD).1).1),iV .u32<|((xs.getD i dD).1).2.1,iV .u16<|((xs.getD i dD).1).2.2,iV .u16<|((xs.getD i dD).2).ext,iV .i64 (((xs.getD i dD).2).count)]) rfl Aa isAgg234 sizeOf234 rfl fun x c=>(r.mem0 c).ldN<|Di (g:=Gl) (sz:=5) (fun _=>rfl) dD (xs:=xs) (k:=i) Ae
  refine Bo (v:=aV<|Q2 k) (decide<|((i:Nat):Int)<(xs.length:Int)) rfl (Bw rfl Aa) rfl (fun af=>?_) (.inr fun _ c=>c) ?_
  ·refine Ys.yc ?_
   exact Fv V 0 0 0 (Q2 k) isAgg97 sizeOf97
  refine Bo (v:=iV .i64<|LO.cmp Cs ((xs.getD i dD).1) k) (decide<|((i:Nat):Int)<(xs.length:Int)) rfl (Bw rfl Aa) rfl (fun d=>?_) (.inr fun _ c=>c) ?_
  ·have I:=d;try simp only[zA]at I
   refine I2 (t:=40) (v0:=Value.func (.func 169) #[] #[pV E 0]) (lz (g:=decide<|((i:Nat):Int)<(xs.length:Int)) (u:=undef) d Aa)<|I2 (t:=44) (v0:=aV [iV .u8 (((xs.getD i dD).1).1),iV .u32<|((xs.getD i dD).1).2.1,iV .u16<|((xs.getD i dD).1).2.2,iV .u16<|((xs.getD i dD).2).ext,iV .i64 (((xs.getD i dD).2).count)]) (lz (g:=decide<|((i:Nat):Int)<(xs.length:Int)) (u:=undef) d Aa)<|I2 (t:=45) (v0:=aV<|Q2 k) (lz (g:=decide<|((i:Nat):Int)<(xs.length:Int)) (u:=undef) d Aa) ?_
   exact A6 fun x l=>(Yx (((xs.getD i dD).1),((xs.getD i dD).2)) k a xs.length cap f T E _ (L.mem0 l)<|N.mem0 l)
  refine Bg (v:=bV<|(LO.cmp Cs ((xs.getD i dD).1) k)==0) (decide<|((i:Nat):Int)<(xs.length:Int)) rfl (Bw rfl Aa) rfl (fun D=>?_) ?_
  ·have J:=D;try simp only[zA]at J
   refine Bs (t:=46) (v0:=iV .i64<|LO.cmp Cs ((xs.getD i dD).1) k) (lz (g:=decide<|((i:Nat):Int)<(xs.length:Int)) (u:=undef) D Aa) ?_
   exact Ys.p
  refine Bi (v:=bV<|(decide<|((i:Nat):Int)<(xs.length:Int))&&((LO.cmp Cs ((xs.getD i dD).1) k)==0)) rfl (Ci (e:=decide<|((i:Nat):Int)<(xs.length:Int)) (b:=(LO.cmp Cs ((xs.getD i dD).1) k)==0) rfl Aa Aa Aa)<|Bq 2 []<|Ck<|Ak [] An rfl ?_
  refine Am rfl ?_
  have S:i=Bh Cs xs k:=by omega
  exact Mf rfl (Ar<|nV .i64 i) (Ar<|bV<|(decide<|((i:Nat):Int)<(xs.length:Int))&&((LO.cmp Cs ((xs.getD i dD).1) k)==0))<|by clear F;rw[S];refine congrArg (fun b=>Value.tuple #[_,.bool b]) ?_;exact An6 U
theorem Ua(xs:List ((Int×Int×Int)×(Lse)))(a:Option Addr)(cap:Nat)(c:Int)(e:Nat)(k:Int×Int×Int)(w:World)(f:At w (some ⟨e,0,none⟩) [sL a xs.length cap,Value.int .i64 c,Value.func (.func 33) #[] #[]])(g:At w a (mm Gl xs))(x:xs.length≤100000)(o:Gh Cs xs):Calls prog 127 #[pV e 0,aV (Kv k)] w (Df w (Value.tuple #[nV .i64 (Bh Cs xs k),bV (Bn xs k)])):=by
 refine Ap (M:=[]) (LL:=[]) (n:=15) func127 rfl rfl A5 (Mem.refl _)<|W.s ?_
 refine Ac<|Af rfl (E6 (v:=pV e 0) (cs:=[pV e 0]) rfl rfl Aa rfl) fun h=>?_
 refine Af rfl (Bx (Kv k) rfl) fun A=>Ab 2<|Ai<|W.s ?_
 refine C6 [(0,true),(1,true),(2,true),(3,true),(4,true),(5,false),(6,false),(7,true),(8,false),(9,false),(10,false)] [0,1,2,3,4,7]<|Dd 3 [(1,0)]<|Bi rfl (Ys.ld (a:=⟨e,0,none⟩) rfl Aa isAgg158 fun r u=>by have l:=(f.mem0 u).ld (q:=0) (v:=sL a xs.length cap) rfl;rw[Bc]at l;exact l)<|Bq 2 [(0,0)]<|Ea (v:=Value.tuple #[nV .i64 (Bh Cs xs k),bV (Bn xs k)]) rfl (A6 fun r d=>(An7 xs a cap c e h k _ (Az (i:=1) (j:=0) (t:=86) (b:=h) d rfl rfl) (f.mem0 d) (g.mem0 d) Dz o)) ?_
 refine Bq 4 []<|Ck<|Ak [] An rfl<|Am rfl<|Mf rfl (Ar<|nV .i64<|Bh Cs xs k) (Ar<|bV<|Bn xs k) rfl
theorem Ol(xs:List ((Int×Int×Int)×(Lse)))(a:Option Addr)(cap:Nat)(b:Int)(h:Nat)(k:Int×Int×Int)(w:World)(d:At w (some ⟨h,0,none⟩) [sL a xs.length cap,Value.int .i64 b,Value.func (.func 33) #[] #[]])(c:At w a (mm Gl xs))(A:xs.length≤100000)(l:Gh Cs xs):Calls prog 80 #[pV h 0,aV (Kv k)] w (Df w (Value.tuple #[aV [iV .u16 ((B0 (⟨0,0⟩:Lse) xs k).ext),iV .i64 ((B0 (⟨0,0⟩:Lse) xs k).count)],bV (Bn xs k)])):=by
 refine Ap (M:=[]) (LL:=[]) (n:=24) func80 rfl rfl A5 (Mem.refl _)<|W.s ?_
 refine Ac<|Af rfl (Bx (Kv k) rfl) fun B=>?_
 refine Af rfl (Ba zeroValue99) fun j=>Ab 1<|Ai<|W.s ?_
 refine Av<|A3 2 [(1,0)]<|Ca (v:=Value.tuple #[nV .i64 (Bh Cs xs k),bV (Bn xs k)]) (A6 fun o e=>(Ua xs a cap b h k _ (d.mem0 e) (c.mem0 e) Dz l))<|Ab 5 ?_
 refine Ai<|Ak [0] An rfl<|Aj [] ?_
 refine Al (Bn xs k) Aa (fun r=>?_) fun t=>?_
 ·refine W.s ?_
  have u:=G2 dD l r
  refine Ac<|Ab 3<|Ao (Ys.ld (a:=⟨h,0,none⟩) rfl Aa isAgg158 fun o f=>by have x:=(d.mem0 f).ld (q:=0) (v:=Value.slice a xs.length cap) rfl;rw[Bc]at x;exact x)<|Ab 1<|Ao (v:=Value.pointer<|some<|Cv a<|(Bh Cs xs k)*5) (Bd fun o f=>Aq (k:=.i64) (a:=a) (len:=xs.length) (cap:=cap) (i:=(Bh Cs xs k:Int)) (sz:=5) rfl Aa Aa runUnderlying158 sizeOf234 Ae Ae<|(c.mem0 f).here<|by rw[Cj (g:=Gl) (sz:=5) (fun _=>rfl)];first|omega|(simp;omega)) ?_
  refine Ab 1<|Ao (v:=aV [iV .u16 (((xs.getD (Bh Cs xs k) dD).2).ext),iV .i64 (((xs.getD (Bh Cs xs k) dD).2).count)]) (Ys.ldN (a:=(Cv a<|(Bh Cs xs k)*5).add 3) (vs:=[iV .u16 (((xs.getD (Bh Cs xs k) dD).2).ext),iV .i64 (((xs.getD (Bh Cs xs k) dD).2).count)]) rfl Aa isAgg99 sizeOf99 rfl fun o f=>(c.mem0 f).ldNF<|Yt (g:=Gl) (sz:=5) (fun _=>rfl) dD (xs:=xs) (k:=Bh Cs xs k) Ae 3 2 rfl)<|Af rfl (A0 j 0 0 0 [iV .u16 (((xs.getD (Bh Cs xs k) dD).2).ext),iV .i64 (((xs.getD (Bh Cs xs k) dD).2).count)] sizeOf99 rfl rfl) fun _=>Ab 1<|Ax ?_
  refine A7<|Am rfl<|Mf rfl (Bt j 0 0 0 [iV .u16 (((xs.getD (Bh Cs xs k) dD).2).ext),iV .i64 (((xs.getD (Bh Cs xs k) dD).2).count)] isAgg99 sizeOf99) (Ar<|bV true)<|by rw[P0 dD l r,r];try rfl
 ·refine Ag<|A7<|Av<|A3 1 [(0,0)] ?_
  refine Af rfl (A0 j 0 0 0 zl7 sizeOf99 rfl rfl) fun _=>Ab 1<|Ai<|Am rfl<|Mf rfl (Bt j 0 0 0 zl7 isAgg99 sizeOf99) (Ar<|bV false)<|by rw[Hv t,t];try rfl
theorem Akk(c:Int)(w:World):Calls prog 32 #[iV .i64 c,Value.func (.func 33) #[] #[]] w (Bl w (fun _:Nat=>True) (fun b=>.pointer (some ⟨b,0,none⟩)) [] (fun b=>[[cb b [sL none 0 0,iV .i64 (Eu c 0),Value.func (.func 33) #[] #[]] 160]])):=by
 refine Ap (M:=[]) (LL:=[]) (n:=10) func32 rfl rfl A5 (Mem.refl _)<|Aj []<|Av<|Ab 4 ?_
 have f:=Kd c 0
 refine Af rfl (Bx [sL none 0 0,iV .i64<|Eu c 0,Value.func (.func 33) #[] #[]] rfl) fun e=>Ab 1<|Ai<|Am rfl<|D4 rfl (Ar<|pV e 0) fun g d=>⟨e,trivial,rfl,(d.pick [0] An rfl)⟩
theorem Yy(x:(Int)×(Int×Int×Int×Int×Int))(k:Int)(a:Option Addr)(n cap:Nat)(b:Int)(d e:Nat)(w:World)(f:At w (some ⟨e,0,none⟩) [pL (some ⟨d,0,none⟩)])(g:At w (some ⟨d,0,none⟩) [sL a n cap,Value.int .i64 b,Value.func (.func 35) #[] #[]]):Calls prog 164 #[aV [iV .u64 x.1,iV .u8 x.2.1,iV .u32 x.2.2.1,iV .u32 x.2.2.2.1,iV .u16 x.2.2.2.2.1,iV .u16 x.2.2.2.2.2],iV .u64 k,pV e 0] w (Df w (.int .i64 (LO.cmp LO.int x.1 k))):=by
 refine Ap (M:=[]) (LL:=[]) (n:=14) func164 rfl rfl A5 (Mem.refl _)<|W.s ?_
 refine Ac<|Af rfl (Bx [iV .u64 x.1,iV .u8 x.2.1,iV .u32 x.2.2.1,iV .u32 x.2.2.2.1,iV .u16 x.2.2.2.2.1,iV .u16 x.2.2.2.2.2] rfl) fun l=>?_
 refine Ab 1<|Ai<|W.s<|C6 [(0,true),(1,true),(2,true),(3,true),(4,true),(5,true),(6,false),(7,false),(8,false)] [0,1,2,3,4,5] ?_
 refine Bi rfl (Ys.ld (a:=⟨e,0,none⟩) rfl Aa isAgg89 fun i h=>by have c:=(f.mem0 h).ld (q:=0) (v:=pV d 0) rfl;rw[Bc]at c;exact c)<|B1 2<|Bi rfl (Ys.ld (a:=⟨d,2,none⟩) rfl Aa isAgg102 fun i h=>by have c:=(g.mem0 h).ld (q:=2) (v:=Value.func (.func 35) #[] #[]) rfl;rw[Bc]at c;exact c)<|Bq 3 [(0,0)]<|Ea (v:=iV .i64<|LO.cmp LO.int x.1 k) rfl (A6 fun i j=>(Ace x.1 k _)) ?_
 refine Dd 1 []<|Ck<|Ak [] An rfl<|Am rfl<|D3 rfl (Ar<|iV .i64<|LO.cmp LO.int x.1 k) rfl
theorem An8{xs:List ((Int)×(Int×Int×Int×Int×Int))}{k:Int}(b:Gh LO.int xs):((decide (((Bh LO.int xs k:Nat):Int)<(xs.length:Int)))&&((LO.cmp LO.int (xs.getD (Bh LO.int xs k) dN).1 k)==0))=Bn xs k:=by
  rw[←K9 dN b]
  congr 1
  · exact decide_eq_decide.2 Ae
  · rw[Bool.eq_iff_iff,beq_iff_eq,decide_eq_true_eq];exact LO.cmp_eq _
theorem An9(xs:List ((Int)×(Int×Int×Int×Int×Int)))(a:Option Addr)(cap:Nat)(d:Int)(J:Nat)(A:Nat)(k:Int)(w:World)(B:At w (some ⟨A,0,none⟩) [pL (some ⟨J,0,none⟩)])(C:At w (some ⟨J,0,none⟩) [sL a xs.length cap,Value.int .i64 d,Value.func (.func 35) #[] #[]])(o:At w a (mm Jf xs))(S:xs.length≤100000)(L:Gh LO.int xs):Calls prog 163 #[sL a xs.length cap,iV .u64 k,Value.func (.func 164) #[] #[pV A 0]] w (Df w (Value.tuple #[nV .i64 (Bh LO.int xs k),bV (Bn xs k)])):=by
 refine Ap (M:=[]) (LL:=[]) (n:=49) func163 rfl rfl A5 (Mem.refl _)<|Aj []<|Aj []<|Aj []<|W.s ?_
 refine W.block<|Ft [0,1,2,8,9,10] (fun(i:Nat) (j:Nat)=>[sL a xs.length cap,iV .u64 k,Value.func (.func 164) #[] #[pV A 0],nV .i64 xs.length,nV .i64 i,nV .i64 j]) (fun(i:Nat) (j:Nat)=>i≤Bh LO.int xs k∧Bh LO.int xs k≤j∧j≤xs.length) (fun(i:Nat) (j:Nat)=>[]) (fun(i:Nat) (j:Nat)=>j-i) 0 xs.length Aa ⟨(Nat.zero_le _),G1,(Nat.le_refl _)⟩ (by rfl) fun i j T U D u=>?_
 obtain⟨V,X,R⟩:=D
 refine W.s<|Aj [] ?_
 refine Al (decide<|((i:Nat):Int)<(j:Int)) Aa (fun N=>?_) fun O=>?_
 ·have E:=N;try simp only[zA]at E
  refine Ag<|A7<|W.block<|Av ?_
  refine Ab 2<|Bz (((i+j):Nat):Int) (i:Int) (j:Int)<|Ao (v:=nV .u64<|i+j) ((Ys.p (v:=.int .u64<|Cq .u64 ((i+j:Nat):Int))).conseq<|Ad<|Cl Ae Ae)<|Ao (v:=nV .u64<|(i+j)/2) ((Ys.p (v:=.int .u64<|Ic .u64 ((i+j:Nat):Int) ((1:Nat):Int))).conseq<|Ad<|Fa (i+j) 1 An)<|Ao (v:=nV .i64<|(i+j)/2) ((Ys.p (v:=.int .i64<|Cq .i64 (((i+j)/2:Nat):Int))).conseq<|Ad<|Dc Ae Ae) ?_
  refine Ab 1<|Ai<|Av ?_
  refine Ab 3<|Ao (v:=Value.pointer<|some<|Cv a<|((i+j)/2)*6) (Bd fun q c=>Aq (k:=.i64) (a:=a) (len:=xs.length) (cap:=cap) (i:=(((i+j)/2:Nat):Int)) (sz:=6) rfl Aa Aa runUnderlying161 sizeOf223 Ae Ae<|(o.mem0 c).here<|by rw[Cj (g:=Jf) (sz:=6) (fun _=>rfl)];first|omega|(simp;omega))<|Ao (v:=aV [iV .u64 ((xs.getD ((i+j)/2) dN).1),iV .u8<|((xs.getD ((i+j)/2) dN).2).1,iV .u32<|((xs.getD ((i+j)/2) dN).2).2.1,iV .u32<|((xs.getD ((i+j)/2) dN).2).2.2.1,iV .u16<|((xs.getD ((i+j)/2) dN).2).2.2.2.1,iV .u16 (((xs.getD ((i+j)/2) dN).2).2.2.2.2)]) (Ys.ldN (a:=Cv a<|((i+j)/2)*6) (vs:=[iV .u64 ((xs.getD ((i+j)/2) dN).1),iV .u8<|((xs.getD ((i+j)/2) dN).2).1,iV .u32<|((xs.getD ((i+j)/2) dN).2).2.1,iV .u32<|((xs.getD ((i+j)/2) dN).2).2.2.1,iV .u16<|((xs.getD ((i+j)/2) dN).2).2.2.2.1,iV .u16 (((xs.getD ((i+j)/2) dN).2).2.2.2.2)]) rfl Aa isAgg223 sizeOf223 rfl fun q c=>(o.mem0 c).ldN<|Di (g:=Jf) (sz:=6) (fun _=>rfl) dN (xs:=xs) (k:=(i+j)/2) Ae)<|Ab 1<|Ca (v:=iV .i64<|LO.cmp LO.int ((xs.getD ((i+j)/2) dN).1) k) (A6 fun q f=>(Yy (((xs.getD ((i+j)/2) dN).1),((xs.getD ((i+j)/2) dN).2)) k a xs.length cap d J A _ (B.mem0 f)<|C.mem0 f)) ?_
  refine Ab 1<|Ai ?_
  refine Al (decide<|(LO.cmp LO.int ((xs.getD ((i+j)/2) dN).1) k)<0) Aa (fun P=>?_) fun Q=>?_
  ·have r:=P;try simp only[zA]at r
   refine Ac<|Ab 1<|Bz (((((i+j)/2)+1):Nat):Int) (((i+j)/2:Nat):Int) 1<|Ab 1<|Ax ?_
   have l:=Gv dN (k:=k) L (h:=(i+j)/2) Ae
   have F:=l.1 (H5 _|>.1 r)
   refine fun q c=>u ((i+j)/2+1) j _ q Ae ⟨Ae,Ae,Ae⟩ ?_ c
   kernel_rfl
  ·have t:=Q;try simp only[zA]at t
   refine Ac<|Ab 2<|Ax ?_
   have l:=Gv dN (k:=k) L (h:=(i+j)/2) Ae
   have F: ¬((i+j)/2<Bh LO.int xs k):=fun c=>t (H5 _|>.2 (l.2 c))
   refine fun q c=>u i ((i+j)/2) _ q Ae ⟨Ae,Ae,Ae⟩ ?_ c
   kernel_rfl
 ·have G:=O;try simp only[zA]at G
  refine Cp<|A7<|Av<|Ab 5 ?_
  refine Dx 8 (decide<|((i:Nat):Int)<(xs.length:Int)) (fun H=>by have x:=H;try simp only[zA]at x;exact Gs.m 3 [] (Gs.y (v:=Value.pointer<|some<|Cv a<|i*6) (Bd fun q c=>Aq (k:=.i64) (a:=a) (len:=xs.length) (cap:=cap) (i:=(i:Int)) (sz:=6) rfl Aa Aa runUnderlying161 sizeOf223 Ae Ae<|(o.mem0 c).here<|by rw[Cj (g:=Jf) (sz:=6) (fun _=>rfl)];first|omega|(simp;omega))<|Gs.y (v:=aV [iV .u64 ((xs.getD i dN).1),iV .u8<|((xs.getD i dN).2).1,iV .u32<|((xs.getD i dN).2).2.1,iV .u32<|((xs.getD i dN).2).2.2.1,iV .u16<|((xs.getD i dN).2).2.2.2.1,iV .u16 (((xs.getD i dN).2).2.2.2.2)]) (Ys.ldN (a:=Cv a<|i*6) (vs:=[iV .u64 ((xs.getD i dN).1),iV .u8<|((xs.getD i dN).2).1,iV .u32<|((xs.getD i dN).2).2.1,iV .u32<|((xs.getD i dN).2).2.2.1,iV .u16<|((xs.getD i dN).2).2.2.2.1,iV .u16 (((xs.getD i dN).2).2.2.2.2)]) rfl Aa isAgg223 sizeOf223 rfl fun q c=>(o.mem0 c).ldN<|Di (g:=Jf) (sz:=6) (fun _=>rfl) dN (xs:=xs) (k:=i) Ae)<|Gs.m 1 []<|Gs.k (v:=iV .i64<|LO.cmp LO.int ((xs.getD i dN).1) k) (A6 fun q f=>(Yy (((xs.getD i dN).1),((xs.getD i dN).2)) k a xs.length cap d J A _ (B.mem0 f)<|C.mem0 f))<|Gs.z []))<|Ao (v:=bV<|(decide<|((i:Nat):Int)<(xs.length:Int))&&((LO.cmp LO.int ((xs.getD i dN).1) k)==0)) (Ci (e:=decide<|((i:Nat):Int)<(xs.length:Int)) (b:=(LO.cmp LO.int ((xs.getD i dN).1) k)==0) rfl Aa Aa Aa)<|Ab 2<|Ai ?_
  refine Am rfl ?_
  have I:i=Bh LO.int xs k:=by omega
  exact Mf rfl (Ar<|nV .i64 i) (Ar<|bV<|(decide<|((i:Nat):Int)<(xs.length:Int))&&((LO.cmp LO.int ((xs.getD i dN).1) k)==0))<|by clear u;rw[I];refine congrArg (fun b=>Value.tuple #[_,.bool b]) ?_;exact An8 L
theorem Ub(xs:List ((Int)×(Int×Int×Int×Int×Int)))(a:Option Addr)(cap:Nat)(c:Int)(e:Nat)(k:Int)(w:World)(f:At w (some ⟨e,0,none⟩) [sL a xs.length cap,Value.int .i64 c,Value.func (.func 35) #[] #[]])(g:At w a (mm Jf xs))(x:xs.length≤100000)(o:Gh LO.int xs):Calls prog 114 #[pV e 0,iV .u64 k] w (Df w (Value.tuple #[nV .i64 (Bh LO.int xs k),bV (Bn xs k)])):=by
 refine Ap (M:=[]) (LL:=[]) (n:=15) func114 rfl rfl A5 (Mem.refl _)<|W.s ?_
 refine Ac<|Af rfl (E6 (v:=pV e 0) (cs:=[pV e 0]) rfl rfl Aa rfl) fun h=>?_
 refine Ab 2<|Ai<|Av ?_
 refine A3 3 [(0,0)]<|Ao (Ys.ld (a:=⟨e,0,none⟩) rfl Aa isAgg161 fun r u=>by have l:=(f.mem0 u).ld (q:=0) (v:=sL a xs.length cap) rfl;rw[Bc]at l;exact l)<|Ab 2<|Ca (v:=Value.tuple #[nV .i64 (Bh LO.int xs k),bV (Bn xs k)]) (A6 fun r d=>(An9 xs a cap c e h k _ (Az (i:=0) (j:=0) (t:=89) (b:=h) d rfl rfl) (f.mem0 d) (g.mem0 d) Dz o))<|Ab 4 ?_
 refine Ai<|Ak [] An rfl<|Am rfl<|Mf rfl (Ar<|nV .i64<|Bh LO.int xs k) (Ar<|bV<|Bn xs k) rfl
abbrev Q3(k:Int)(xs:List ((Int)×(Int×Int×Int×Int×Int))):List Value:=(Kt ((xs.getD (Bh LO.int xs k) dN).2))
theorem Akl(xs:List ((Int)×(Int×Int×Int×Int×Int)))(a:Option Addr)(cap:Nat)(b:Int)(h:Nat)(k:Int)(w:World)(d:At w (some ⟨h,0,none⟩) [sL a xs.length cap,Value.int .i64 b,Value.func (.func 35) #[] #[]])(c:At w a (mm Jf xs))(A:xs.length≤100000)(l:Gh LO.int xs):Calls prog 60 #[pV h 0,iV .u64 k] w (Df w (Value.tuple #[aV (Kt (B0 (0,0,0,0,0) xs k)),bV (Bn xs k)])):=by
 refine Ap (M:=[]) (LL:=[]) (n:=24) func60 rfl rfl A5 (Mem.refl _)<|W.s ?_
 refine Ac<|Af rfl (Ba zeroValue47) fun j=>?_
 refine Ab 1<|Ai<|W.s<|W.s ?_
 refine Ac<|Ab 2<|Ca (v:=Value.tuple #[nV .i64 (Bh LO.int xs k),bV (Bn xs k)]) (A6 fun o e=>(Ub xs a cap b h k _ (d.mem0 e) (c.mem0 e) Dz l))<|Ab 5<|Ax ?_
 refine A7<|Aj [] ?_
 refine Al (Bn xs k) Aa (fun r=>?_) fun t=>?_
 ·refine W.s ?_
  have u:=G2 dN l r
  refine Ac<|Ab 3<|Ao (Ys.ld (a:=⟨h,0,none⟩) rfl Aa isAgg161 fun o f=>by have x:=(d.mem0 f).ld (q:=0) (v:=Value.slice a xs.length cap) rfl;rw[Bc]at x;exact x)<|Ab 1<|Ao (v:=Value.pointer<|some<|Cv a<|(Bh LO.int xs k)*6) (Bd fun o f=>Aq (k:=.i64) (a:=a) (len:=xs.length) (cap:=cap) (i:=(Bh LO.int xs k:Int)) (sz:=6) rfl Aa Aa runUnderlying161 sizeOf223 Ae Ae<|(c.mem0 f).here<|by rw[Cj (g:=Jf) (sz:=6) (fun _=>rfl)];first|omega|(simp;omega)) ?_
  refine Ab 1<|Ao (v:=aV<|Q3 k xs) (Ys.ldN (a:=(Cv a<|(Bh LO.int xs k)*6).add 1) (vs:=(Q3 k xs)) rfl Aa isAgg47 sizeOf47 rfl fun o f=>(c.mem0 f).ldNF<|Yt (g:=Jf) (sz:=6) (fun _=>rfl) dN (xs:=xs) (k:=Bh LO.int xs k) Ae 1 5 rfl)<|Af rfl (A0 j 0 0 0 (Q3 k xs) sizeOf47 rfl rfl) fun _=>Ab 1<|Ax ?_
  refine A7<|Am rfl<|Mf rfl (Bt j 0 0 0 (Kt<|(xs.getD (Bh LO.int xs k) dN).2) isAgg47 sizeOf47) (Ar<|bV true)<|by rw[P0 dN l r,r];try rfl
 ·refine Ag<|A7<|Av<|A3 1 [(0,0)] ?_
  refine Af rfl (A0 j 0 0 0 zl0 sizeOf47 rfl rfl) fun _=>Ab 1<|Ai<|Am rfl<|Mf rfl (Bt j 0 0 0 zl0 isAgg47 sizeOf47) (Ar<|bV false)<|by rw[Hv t,t];try rfl
theorem Akm(c:Int)(w:World):Calls prog 34 #[iV .i64 c,Value.func (.func 35) #[] #[]] w (Bl w (fun _:Nat=>True) (fun b=>.pointer (some ⟨b,0,none⟩)) [] (fun b=>[[cb b [sL none 0 0,iV .i64 (Eu c 0),Value.func (.func 35) #[] #[]] 163]])):=by
 refine Ap (M:=[]) (LL:=[]) (n:=10) func34 rfl rfl A5 (Mem.refl _)<|Aj []<|Av<|Ab 4 ?_
 have f:=Kd c 0
 refine Af rfl (Bx [sL none 0 0,iV .i64<|Eu c 0,Value.func (.func 35) #[] #[]] rfl) fun e=>Ab 1<|Ai<|Am rfl<|D4 rfl (Ar<|pV e 0) fun g d=>⟨e,trivial,rfl,(d.pick [0] An rfl)⟩
namespace ZS
theorem drop_take{cs r:List Value}{n i s:Nat}(hc:cs.length=n*s)(b:i≤n):((cs++r).drop (i*s)).take ((n-i)*s)=cs.drop (i*s):=by
  have h:i*s≤n*s:=Nat.mul_le_mul_right _ b
  rw[List.drop_append_of_le_length Ae,List.take_append_of_le_length Vm]
  exact List.take_of_length_le Vm
theorem one_drop{cs:List Value}(h: ∀v∈cs,v.oneCell'=true)(k:Nat): ∀v∈cs.drop k,v.oneCell'=true:=fun v b=>h v (List.mem_of_mem_drop b)
theorem putAt_app{a b c:List Value}{o:Nat}{v:List Value}(ho:o=a.length)(d:v.length=b.length):Br (a++(b++c)) o v=a++(v++c):=by
  subst ho;unfold Br
  rw[List.take_left,d,←List.drop_drop,List.drop_left,List.drop_left]
theorem ins_in{cs r news A1 A2:List Value}{n i:Nat}(hc:cs.length=n*6)(t:i<n)(g:news.length=6)(u:6≤r.length)(h:Br (cs++r) ((i+1)*6) (cs.drop (i*6))=A1)(j:Br A1 (i*6) news=A2):
    A2=(cs.take (i*6)++(news++cs.drop (i*6)))++r.drop 6:=by
  subst h;subst j
  obtain⟨a,b,rfl,l⟩: ∃a b,cs=a++b∧a.length=i*6:=⟨cs.take (i*6),cs.drop (i*6),(List.take_append_drop _ _).symm,by rw[List.length_take];omega⟩
  rw[List.length_append]at hc
  obtain⟨x,c,rfl,f⟩: ∃x c,r=x++c∧x.length=6:=⟨r.take 6,r.drop 6,(List.take_append_drop _ _).symm,by rw[List.length_take];omega⟩
  rw[←l,List.drop_left,List.take_left]
  have e:Br (a++b++(x++c)) ((i+1)*6) b=a++(b.take 6++(b++c)):=by
    have o:b=b.take 6++b.drop 6:=(List.take_append_drop _ _).symm
    have d:(b.take 6).length=6:=by rw[List.length_take];omega
    have q:a++b++(x++c)=(a++b.take 6)++((b.drop 6++x)++c):=by
      rw[List.append_assoc,List.append_assoc,List.append_assoc]
      congr 1
      rw[←List.append_assoc (b.take 6),←o]
    rw[q,putAt_app (by rw[List.length_append,d];omega) (by rw[List.length_append,List.length_drop,f];omega),List.append_assoc]
  rw[e,putAt_app rfl (by rw[List.length_take,g];omega)]
  rw[show(x++c).drop 6=c by rw[←f,List.drop_left]]
  simp only[List.append_assoc]
theorem ins_own{cs R news A1 A2:List Value}{n i:Nat}(hc:cs.length=n*6)(j:i<n)(b:news.length=6)(l:(n+1-i)*6≤R.length)(f:Br (cs.take (i*6)++R) (i*6) news=A1)(g:Br A1 ((i+1)*6) (cs.drop (i*6))=A2):
    A2=(cs.take (i*6)++(news++cs.drop (i*6)))++R.drop ((n+1-i)*6):=by
  subst f;subst g
  have c:(cs.take (i*6)).length=i*6:=by rw[List.length_take];omega
  have h:(cs.drop (i*6)).length=(n-i)*6:=by rw[List.length_drop];omega
  obtain⟨x,y,z,rfl,d,e⟩: ∃x y z,R=x++(y++z)∧x.length=6∧y.length=(n-i)*6:=
    ⟨R.take 6,(R.drop 6).take ((n-i)*6),(R.drop 6).drop ((n-i)*6),by rw[List.take_append_drop,List.take_append_drop],by rw[List.length_take];omega,by rw[List.length_take,List.length_drop];omega⟩
  rw[putAt_app c.symm (by rw[b,d]),←List.append_assoc,putAt_app (by rw[List.length_append,c,b];omega) (by rw[h,e])]
  rw[show(n+1-i)*6=(x++y).length by rw[List.length_append,d,e];omega,←List.append_assoc x,List.drop_left]
  simp only[List.append_assoc]
theorem del_in{cs r zs A1 A2:List Value}{n i:Nat}(hc:cs.length=n*6)(q:i<n)(d:zs.length=6)(e:Br (cs++r) (i*6) (cs.drop ((i+1)*6))=A1)(f:Br A1 ((n-1)*6) zs=A2):
    A2=(cs.take (i*6)++cs.drop ((i+1)*6))++(zs++r):=by
  subst e;subst f
  obtain⟨a,x,b,rfl,c,g⟩: ∃a x b,cs=a++(x++b)∧a.length=i*6∧x.length=6:=
    ⟨cs.take (i*6),(cs.drop (i*6)).take 6,(cs.drop (i*6)).drop 6,by rw[List.take_append_drop,List.take_append_drop],by rw[List.length_take];omega,by rw[List.length_take,List.length_drop];omega⟩
  simp only[List.length_append]at hc
  have h:(a++(x++b)).drop ((i+1)*6)=b:=by
    rw[show(i+1)*6=(a++x).length by rw[List.length_append,c,g];omega,←List.append_assoc,List.drop_left]
  have j:(a++(x++b)).take (i*6)=a:=by rw[←c,List.take_left]
  rw[h,j]
  have l:x++b=(x++b).take b.length++(x++b).drop b.length:=(List.take_append_drop _ _).symm
  have o:a++(x++b)++r=a++((x++b).take b.length++((x++b).drop b.length++r)):=by
    rw[List.append_assoc,←List.append_assoc ((x++b).take b.length),←l]
  rw[o,putAt_app c.symm (by rw[List.length_take,List.length_append];omega),←List.append_assoc]
  rw[putAt_app (by rw[List.length_append,c];omega) (by rw[List.length_drop,List.length_append,d];omega)]
theorem insRS_c(g:FS)(cs news:List Value)(f n i:Nat)(M:List Nat)(w:World)(hl:Mem w M [g.seg 173 cs,[cb f news 173]] w)(ok:g.ok 6 n)(hcs:cs.length=n*6)(hi:i≤n)(hn:n≤100000)(hnl:news.length=1*6)(L: ∀v∈cs,v.oneCell'=true)(H: ∀v∈news,v.oneCell'=true):Calls prog 179 #[sV g n,nV .i64 i,sL (some ⟨f,0,none⟩) 1 1] w (Bl w (fun I:FS=>I.ok 6 (n+1)∧I.nil=false) (fun I=>.slice I.a (n+1) I.cap) M (fun I=>[I.seg 173 (cs.take (i*6)++(news++cs.drop (i*6)))])):=by
 have al:=ok.le;have am:=ok.mx;have av:=hcs
 refine Ap (M:=M) (LL:=[g.seg 173 cs,[cb f news 173]]) (n:=95) func179 rfl rfl A5 (hl)<|Aj []<|Av<|Ab 2 ?_
 refine Ao (v:=sL (Dl g.a g.cap i 6) (n-i)<|g.cap-i) (Bp (a:=g.a) (len:=n) (cap:=g.cap) (sz:=6) (k:=.i64) (i:=(i:Int)) rfl Aa Aa runUnderlying151 sizeOf173 Ae Ae)<|Ai<|Aj []<|W.s ?_
 refine Aj []<|B3 Aa<|Ag<|A7<|Aj [] ?_
 refine W.s<|Aj [] ?_
 refine Al (((i:Nat):Int)==(n:Int)) Aa (fun ag=>?_) fun ah=>?_
 ·have N:=ag;try simp only[zA]at N
  refine Av<|Ab 2<|Aw rfl (HtS.append (eu:=173) (xv:=Value.slice (some ⟨f,0,none⟩) 1 1) (i:=0) (g:=g) (e:=173) (ii:=(prog.info? 173).getD default) (z:=aV zl5) (sz:=6) (bytes:=24) (nn:=n) (m:=1) (k:=n+1) (xs:=cs) (news:=news) (cs':=cs++news) (Lo:=fun F=>[F.seg 173 (cs++news),[cb f news 173]]) rfl rfl Aa Aa Aa Aa Aa Aa Aa Aa Aa rfl ok hcs (fun _=>rfl) (Src.at (a:=some ⟨f,0,none⟩) hnl fun E o=>(Az (i:=1) (j:=0) (t:=173) (b:=f) o rfl rfl)) hnl H rfl (by simp only[maxLen];omega) Ae rfl fun _=>rfl) fun F O=>?_
  obtain⟨P,Q,an⟩:=O
  refine Ab 1<|Ai<|Am rfl ?_
  have ao:i=n:=by omega
  have R:cs.take (i*6)++(news++cs.drop (i*6))=cs++news:=by rw[List.take_of_length_le Ae,List.drop_of_length_le Ae,List.append_nil]
  exact D4 rfl (Ar<|sV F<|n+1) fun E r=>⟨F,⟨P,(Q Ae)⟩,rfl,(Mem.cast (by rw[R];rfl)<|r.pick [0] An rfl)⟩
 ·have S:=ah;try simp only[zA]at S
  refine Ag<|A7<|W.s<|Av ?_
  refine Ab 2<|Bz (((n+1):Nat):Int) (n:Int) 1<|Ab 3<|Ai ?_
  refine Al (decide<|((n+1:Nat):Int)>(g.cap:Int)) Aa (fun ai=>?_) fun aj=>?_
  ·have T:=ai;try simp only[zA]at T
   refine Av<|Ab 2<|Ao (v:=sV g i) (Dw (a:=g.a) (len:=n) (cap:=g.cap) (sz:=6) (k:=.i64) (i:=(i:Int)) rfl Aa Aa runUnderlying151 sizeOf173 Ae Ae)<|Ab 2 ?_
   refine Bz (((n+1):Nat):Int) (n:Int) 1<|Ab 1<|Ao (v:=iV .i64<|((n+1:Nat):Int)-(i:Int)) ((Ys.p (v:=.int .i64<|Hm .i64 ((n+1:Nat):Int) (i:Int))).conseq<|Ad<|Eo rfl Ae Ae)<|Af rfl (Kg (t:=151) (u:=3) (e:=173) (ii:=(prog.info? 173).getD default) (z:=aV zl5) (ku:=.i64) (kk:=.i64) (lv:=((n+1:Nat):Int)-(i:Int)) (a:=g.a) (nn:=i) (m:=n+1-i) (k:=n+1) (cap:=g.cap) (sz:=6) (bytes:=24) (xs:=cs.take<|i*6) (LL':=fun d R34=>[[cb d (cs.take (i*6)++R34) 173],g.seg 173 cs,[cb f news 173]]) rfl rfl Aa Aa Aa Aa Aa Aa Aa Aa Aa Ae (fun E o=>(FS.at (i:=0) (t:=173) o rfl<|Ah ok hcs).take _) (by rw[List.length_take,hcs];omega) Ae Ae Ae Ae Ae fun _ _=>rfl) fun ak=>?_
   obtain⟨⟨d,c,R34⟩,U,V,X⟩:=ak
   refine Bv (LL':=[[cb d (cs.take (i*6)++R34) 173],g.seg 173 cs,[cb f news 173]]) rfl ?_
   dsimp only at U V X
   refine Ab 1<|Ai<|Av ?_
   refine Ab 2<|Ao (v:=sL (Dl (some ⟨d,0,none⟩) c i 6) ((n+1)-i)<|c-i) (Bp (a:=some ⟨d,0,none⟩) (len:=n+1) (cap:=c) (sz:=6) (k:=.i64) (i:=(i:Int)) rfl Aa Aa runUnderlying151 sizeOf173 Ae Ae) ?_
   obtain⟨A41,x⟩: ∃A,Br (cs.take (i*6)++R34) (i*6) news=A:=⟨_,rfl⟩
   have Y:A41.length=(cs.take (i*6)++R34).length:=by rw[←x];exact Cu _ _ _ L9
   try simp only[List.length_append,List.length_take]at Y
   refine Ab 1<|Af rfl (Cy (td:=151) (tx:=151) (e:=173) (ii:=(prog.info? 173).getD default) (xv:=sL (some ⟨f,0,none⟩) 1 1) (cap:=c) (dl:=(n+1)-i) (dc:=c-i) (m:=1) (q:=1) (sz:=6) (o':=i) (i:=0) (j:=0) (b:=d) (t:=173) (cs:=cs.take (i*6)++R34) (cs':=A41) (news:=news) (LL':=[[cb d A41 173],g.seg 173 cs,[cb f news 173]]) rfl rfl Aa Aa Aa Aa Ae Aa rfl rfl (fun _=>rfl) Mb (Src.at (a:=some ⟨f,0,none⟩) hnl fun E o=>(Az (i:=2) (j:=0) (t:=173) (b:=f) o rfl rfl)) hnl L9 H x rfl) fun _=>?_
   refine Ai<|W.s<|B2 [(0,true),(1,true),(2,true),(3,true),(4,true),(5,true),(6,false),(7,false),(8,false)] [0,1,2,3,4,5] (Mem w M [g.seg 173 cs,[cb f news 173]]) Aa Aa Aa rfl Aa (fun _ _ o=>o.drawn _) (fun _ o=>o.pick [1,2] An rfl)<|B1 3 ?_
   refine Bi (v:=nV .i64<|i+1) rfl ((Ys.p (v:=.int .i64<|D0 .i64 (i:Int) 1)).conseq<|Ad<|Fe Ae Ae Ae)<|Bi (v:=sL (Dl (some ⟨d,0,none⟩) c (i+1) 6) ((n+1)-(i+1))<|c-(i+1)) rfl (Bp (a:=some ⟨d,0,none⟩) (len:=n+1) (cap:=c) (sz:=6) (k:=.i64) (i:=((i+1:Nat):Int)) rfl Aa Aa runUnderlying151 sizeOf173 Ae Ae)<|Wd.mp 2 [] [1,2]<|Wd.yc (v:=sL (Dl g.a g.cap i 6) (n-i)<|g.cap-i) rfl rfl rfl (Ys.yc<|Bp (a:=g.a) (len:=n) (cap:=g.cap) (sz:=6) (k:=.i64) (i:=(i:Int)) rfl Aa Aa runUnderlying151 sizeOf173 Ae Ae) (Ec [1,2]) ?_
   obtain⟨A46,B⟩: ∃A,Br A41 ((i+1)*6) (cs.drop (i*6))=A:=⟨_,rfl⟩
   have Z:A46.length=A41.length:=by rw[←B];exact Cu _ _ _ Vk
   try simp only[List.length_append,List.length_take]at Z
   refine Cg rfl rfl (Cy (td:=151) (tx:=151) (e:=173) (ii:=(prog.info? 173).getD default) (xv:=sL (Dl g.a g.cap i 6) (n-i)<|g.cap-i) (cap:=c) (dl:=(n+1)-(i+1)) (dc:=c-(i+1)) (m:=n-i) (q:=n-i) (sz:=6) (o':=i+1) (i:=0) (j:=0) (b:=d) (t:=173) (cs:=A41) (cs':=A46) (news:=cs.drop<|i*6) (LL':=[[cb d A46 173],g.seg 173 cs,[cb f news 173]]) rfl rfl Aa Aa Aa Aa Ae Aa rfl rfl (fun _=>rfl) Mb (Src.at (a:=Dl g.a g.cap i 6) (show(cs.drop<|i*6).length=(n-i)*6 by rw[List.length_drop,hcs];omega) fun E o=>((FS.at (i:=1) (t:=173) o rfl<|Ah ok hcs).dropN (cap:=g.cap) (k:=i) (sz:=6) Ae)) (show(cs.drop<|i*6).length=(n-i)*6 by rw[List.length_drop,hcs];omega) Vk (one_drop L _) B rfl) (Ay [1,2]) fun _=>Ck<|Aj []<|Am rfl ?_
   have R:=ins_own hcs Ae Ae Ae x B
   exact D4 rfl (Ar<|sL (some ⟨d,0,none⟩) (n+1) c) fun E r=>⟨⟨false,d,c,R34.drop<|(n+1-i)*6⟩,⟨⟨fun h=>(by cases h),Ae,Ae,(by show c*6≤_;rw[List.length_drop];omega)⟩,rfl⟩,rfl,(Mem.cast (by rw[R];rfl)<|r.pick [0] An rfl)⟩
  ·have G:=aj;try simp only[zA]at G
   refine Ag<|A7<|W.s ?_
   have aa:=C1 ok Ae
   obtain⟨ab,l,gc,J⟩:=g
   obtain rfl:ab=false:=aa
   have ap:n≤gc:=ok.le
   have aq:gc*6≤n*6+J.length:=ok.len
   have af:n+1≤gc:=by have z_: ¬(((n+1:Nat):Int)>(gc:Int)):=G;omega
   refine Ac<|Ab 3<|Bz (((n+1):Nat):Int) (n:Int) 1<|Ao (v:=sL (some ⟨l,0,none⟩) (n+1) gc) (Dw (a:=some ⟨l,0,none⟩) (len:=n) (cap:=gc) (sz:=6) (k:=.i64) (i:=((n+1:Nat):Int)) rfl Aa Aa runUnderlying151 sizeOf173 Ae Ae)<|Ab 1 ?_
   refine Ai<|W.s<|Av ?_
   refine Ab 4<|Bz (((i+1):Nat):Int) (i:Int) 1<|Ao (v:=Value.slice (Dl (some ⟨l,0,none⟩) gc (i+1) 6) ((n+1)-(i+1))<|gc-(i+1)) (Bp (a:=some ⟨l,0,none⟩) (len:=n+1) (cap:=gc) (sz:=6) (k:=.i64) (i:=((i+1:Nat):Int)) rfl Aa Aa runUnderlying151 sizeOf173 Ae Ae)<|Ao (v:=bV false) ((I7 (k:=186) (tS:=151) (tR:=4) (e:=173) (sz:=6) (b:=f) (b':=l) (o1:=0) (o2:=(i+1)*6) (la:=1) (ca:=1) (lb:=((n+1)-(i+1))) (cp:=(gc-(i+1))) (i:=1) (j:=0) (i':=0) (j':=0) (t:=173) (t':=173) (cs:=news) (cs':=cs++J) (fun E=>Eq.trans (b:=Sem.run prog (callFunc 186 #[Value.slice (some ⟨f,0,none⟩) 1 1,Value.slice (Dl (some ⟨l,0,none⟩) gc (i+1) 6) ((n+1)-(i+1)) (gc-(i+1))]) E) Aa<|by rw[Hc Ae]) func186 Aa Aa Aa Aa Aa sizeOf173 An rfl rfl rfl rfl<|by simp only[List.length_append];omega))<|Ab 1 ?_
   refine Ai<|B9 Aa<|W.s<|B2 [(0,true),(1,true),(2,true),(3,true),(4,true),(5,true),(6,false),(7,false),(8,false)] [0,1,2,3,4,5] (Mem w M [[cb f news 173]]) Aa Aa Aa rfl Aa (fun _ _ o=>o.drawn _) (fun _ o=>o.pick [1] An rfl) ?_
   refine B1 3<|Bi (v:=nV .i64<|i+1) rfl ((Ys.p (v:=.int .i64<|D0 .i64 (i:Int) 1)).conseq<|Ad<|Fe Ae Ae Ae)<|Bi (v:=sL (Dl (some ⟨l,0,none⟩) gc (i+1) 6) ((n+1)-(i+1))<|gc-(i+1)) rfl (Bp (a:=some ⟨l,0,none⟩) (len:=n+1) (cap:=gc) (sz:=6) (k:=.i64) (i:=((i+1:Nat):Int)) rfl Aa Aa runUnderlying151 sizeOf173 Ae Ae)<|Wd.mp 2 [] [1]<|Wd.yc (v:=sL (Dl (some ⟨l,0,none⟩) gc i 6) ((n+1)-i)<|gc-i) rfl rfl rfl (Ys.yc<|Bp (a:=some ⟨l,0,none⟩) (len:=n+1) (cap:=gc) (sz:=6) (k:=.i64) (i:=(i:Int)) rfl Aa Aa runUnderlying151 sizeOf173 Ae Ae) (Ec [1]) ?_
   obtain⟨A62,C⟩: ∃A,Br (cs++J) ((i+1)*6) (cs.drop (i*6))=A:=⟨_,rfl⟩
   have ad:A62.length=(cs++J).length:=by rw[←C];exact Cu _ _ _ Vk
   try simp only[List.length_append,List.length_take]at ad
   refine Cg rfl rfl (Cy (td:=151) (tx:=151) (e:=173) (ii:=(prog.info? 173).getD default) (xv:=sL (Dl (some ⟨l,0,none⟩) gc i 6) ((n+1)-i)<|gc-i) (cap:=gc) (dl:=(n+1)-(i+1)) (dc:=gc-(i+1)) (m:=(n+1)-i) (q:=n-i) (sz:=6) (o':=i+1) (i:=0) (j:=0) (b:=l) (t:=173) (cs:=cs++J) (cs':=A62) (news:=cs.drop<|i*6) (LL':=[[cb l A62 173],[cb f news 173]]) rfl rfl Aa Aa Aa Aa Ae Aa rfl rfl (fun _=>rfl) Mb (Src.at (a:=Dl (some ⟨l,0,none⟩) gc i 6) (show(cs.drop<|i*6).length=(n-i)*6 by rw[List.length_drop,hcs];omega) fun E o=>(by have z_:=((Az (i:=0) (j:=0) (t:=173) (b:=l) o rfl rfl).dropT (cap:=gc) (k:=i) (m:=n-i) (sz:=6) Ae);rwa[drop_take hcs Ae]at z_)) (show(cs.drop<|i*6).length=(n-i)*6 by rw[List.length_drop,hcs];omega) Vk (one_drop L _) C rfl) (Ay [1]) fun _=>Ck<|Av ?_
   refine Ab 2<|Ao (v:=sL (Dl (some ⟨l,0,none⟩) gc i 6) ((n+1)-i)<|gc-i) (Bp (a:=some ⟨l,0,none⟩) (len:=n+1) (cap:=gc) (sz:=6) (k:=.i64) (i:=(i:Int)) rfl Aa Aa runUnderlying151 sizeOf173 Ae Ae) ?_
   obtain⟨A67,D⟩: ∃A,Br A62 (i*6) news=A:=⟨_,rfl⟩
   have ae:A67.length=A62.length:=by rw[←D];exact Cu _ _ _ L9
   try simp only[List.length_append,List.length_take]at ae
   refine Ab 1<|Af rfl (Cy (td:=151) (tx:=151) (e:=173) (ii:=(prog.info? 173).getD default) (xv:=sL (some ⟨f,0,none⟩) 1 1) (cap:=gc) (dl:=(n+1)-i) (dc:=gc-i) (m:=1) (q:=1) (sz:=6) (o':=i) (i:=0) (j:=0) (b:=l) (t:=173) (cs:=A62) (cs':=A67) (news:=news) (LL':=[[cb l A67 173],[cb f news 173]]) rfl rfl Aa Aa Aa Aa Ae Aa rfl rfl (fun _=>rfl) Mb (Src.at (a:=some ⟨f,0,none⟩) hnl fun E o=>(Az (i:=1) (j:=0) (t:=173) (b:=f) o rfl rfl)) hnl L9 H D rfl) fun _=>?_
   refine Ai<|Aj []<|Am rfl ?_
   have R:=ins_in hcs Ae Ae Ae C D
   exact D4 rfl (Ar<|sL (some ⟨l,0,none⟩) (n+1) gc) fun E r=>⟨⟨false,l,gc,J.drop 6⟩,⟨⟨fun h=>(by cases h),Ae,ok.mx,(by show gc*6≤_;rw[List.length_drop];omega)⟩,rfl⟩,rfl,(Mem.cast (by rw[R];rfl)<|r.pick [0] An rfl)⟩
theorem delRS_c(g:FS)(cs:List Value)(n i:Nat)(M:List Nat)(w:World)(O:Mem w M [g.seg 173 cs] w)(ok:g.ok 6 n)(hcs:cs.length=n*6)(V:i<n)(X:n≤100000)(D: ∀v∈cs,v.oneCell'=true):Calls prog 124 #[sV g n,nV .i64 i,nV .i64 (i+1)] w (Bl w (fun l:FS=>l.ok 6 (n-1)∧l.nil=false) (fun l=>.slice l.a (n-1) l.cap) M (fun l=>[l.seg 173 (cs.take (i*6)++cs.drop ((i+1)*6))])):=by
 have H:=ok.le;have I:=ok.mx;have P:=hcs
 refine Ap (M:=M) (LL:=[g.seg 173 cs]) (n:=33) func124 rfl rfl A5 (O)<|Aj []<|Av<|Ab 5 ?_
 refine Ao (v:=sL (Dl g.a n i 6) ((i+1)-i)<|n-i) (I6 (a:=g.a) (len:=n) (cap:=g.cap) (sz:=6) (k:=.i64) (k':=.i64) (k'':=.i64) (i:=(i:Int)) (j:=((i+1:Nat):Int)) (q:=(n:Int)) rfl Aa Aa Aa Aa runUnderlying151 sizeOf173 Ae Ae Ae Ae)<|Ai<|W.s<|Aj [] ?_
 refine Al (((i:Nat):Int)==((i+1:Nat):Int)) Aa (fun Q=>?_) fun R=>?_
 ·have E:=Q;try simp only[zA]at E
  (exfalso;omega)
 ·have F:=R;try simp only[zA]at F
  refine Ag<|A7<|Aj []<|W.s ?_
  have o:=C1 ok Ae
  obtain⟨r,c,gc,x⟩:=g
  obtain rfl:r=false:=o
  have J:n≤gc:=ok.le
  have L:gc*6≤n*6+x.length:=ok.len
  refine B2 [(0,true),(1,true),(2,true),(3,true),(4,false),(5,false),(6,false),(7,false)] [0,1,2,3] (Mem w M []) Aa Aa Aa rfl Aa (fun _ _ B=>B.drawn _) (fun _ B=>B.pick [] An rfl)<|B1 2<|Bi (v:=sL (some ⟨c,0,none⟩) i gc) rfl (Dw (a:=some ⟨c,0,none⟩) (len:=n) (cap:=gc) (sz:=6) (k:=.i64) (i:=(i:Int)) rfl Aa Aa runUnderlying151 sizeOf173 Ae Ae)<|Wd.mp 2 [] []<|Wd.yc (v:=sL (Dl (some ⟨c,0,none⟩) gc (i+1) 6) (n-(i+1))<|gc-(i+1)) rfl rfl rfl (Ys.yc<|Bp (a:=some ⟨c,0,none⟩) (len:=n) (cap:=gc) (sz:=6) (k:=.i64) (i:=((i+1:Nat):Int)) rfl Aa Aa runUnderlying151 sizeOf173 Ae Ae) (Ec []) ?_
  obtain⟨A16,d⟩: ∃A,Br (cs++x) (i*6) (cs.drop ((i+1)*6))=A:=⟨_,rfl⟩
  have C:A16.length=(cs++x).length:=by rw[←d];exact Cu _ _ _ Afv
  try simp only[List.length_append,List.length_take]at C
  refine Cg rfl rfl (I8 (t:=151) (u:=151) (e:=173) (eu:=173) (ii:=(prog.info? 173).getD default) (xv:=sL (Dl (some ⟨c,0,none⟩) gc (i+1) 6) (n-(i+1))<|gc-(i+1)) (nn:=i) (m:=n-(i+1)) (k:=n-1) (cap:=gc) (sz:=6) (i:=0) (j:=0) (b:=c) (ty:=173) (cs:=cs++x) (cs':=A16) (news:=cs.drop<|(i+1)*6) (LL':=[[cb c A16 173]]) rfl rfl Aa Aa Aa Aa Aa Aa rfl rfl (fun _=>rfl) Ae Ae (Src.at (a:=Dl (some ⟨c,0,none⟩) gc (i+1) 6) (show(cs.drop<|(i+1)*6).length=(n-(i+1))*6 by rw[List.length_drop,hcs];omega) fun S B=>(by have T:=((Az (i:=0) (j:=0) (t:=173) (b:=c) B rfl rfl).dropT (cap:=gc) (k:=i+1) (m:=n-(i+1)) (sz:=6) Ae);rwa[drop_take hcs Ae]at T)) Afv (one_drop D _) d rfl) (Ay []) fun _=>Dd 1 []<|Ck<|W.s ?_
  refine Ac<|Ab 4<|Ao (v:=sL (Dl (some ⟨c,0,none⟩) gc (n-1) 6) (n-(n-1))<|gc-(n-1)) (Ie (a:=some ⟨c,0,none⟩) (len:=n-1) (cap:=gc) (sz:=6) (k:=.i64) (i:=((n-1:Nat):Int)) (k':=.i64) (j:=(n:Int)) rfl Aa Aa Aa runUnderlying151 sizeOf173 Ae Ae Ae) ?_
  obtain⟨A21,f⟩: ∃A,Br A16 ((n-1)*6) zl5=A:=⟨_,rfl⟩
  have N:A21.length=A16.length:=by rw[←f];exact Cu _ _ _ Vl
  refine Af rfl (K8 (t:=151) (e:=173) (ii:=(prog.info? 173).getD default) (z:=aV zl5) (m:=0) (cap:=gc-(n-1)) (o':=(n-1)*6) (i:=0) (j:=0) (b:=c) (ty:=173) (cs:=A16) (cs':=A21) (zs:=zl5) (LL':=[[cb c A21 173]]) rfl rfl Aa Aa Aa (Eq.trans (b:=sL (Dl (some ⟨c,0,none⟩) gc (n-1) 6) (n-(n-1))<|gc-(n-1)) Aa<|by rw[Hc Ae];congr 1;omega) rfl rfl Aa Vl ma3 f rfl) fun _=>Ai<|Aj []<|Am rfl ?_
  have U:=del_in (zs:=zl5) hcs Ae rfl d f
  exact D4 rfl (Ar<|Value.slice (some ⟨c,0,none⟩) (n-1) gc) fun S G=>⟨⟨false,c,gc,zl5++x⟩,⟨⟨fun h=>(by cases h),(by show n-1≤gc;omega),ok.mx,(by show gc*6≤_;simp only[List.length_append,List.length_cons,List.length_nil];omega)⟩,rfl⟩,rfl,(Mem.cast (by rw[U];rfl)<|G.pick [0] An rfl)⟩
end ZS
end Go.Proofs.YtmonlaoaengfdaaGreatDoor.Oct
