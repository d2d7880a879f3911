import Derived.Test.YtmonlaoaengfdaaGreatDoorM2
set_option linter.unusedVariables false
set_option linter.unusedSimpArgs false
set_option maxRecDepth 20000
namespace Go.Proofs.YtmonlaoaengfdaaGreatDoor.Oct
open Go.RowKit Base
attribute [local irreducible] Ys Yc Ht HtS HtIn Wl Wd W Mem pf D4 Wa Wo
abbrev Cs(b:Option Nat):Option Addr:=b.map fun b=>⟨b,0,none⟩
def LO.on{A B:Type}(o:LO B)(f:A→B)(hf: ∀{x y},f x=f y→x=y):LO A:=⟨fun a b=>o.lt (f a) (f b),fun a=>o.irr _,fun h g=>o.tr h g,fun h g=>hf (o.tri h g)⟩
def Nu:List Int→Int
  | []=>0
  |x::xs=>if x≠0 then x else Nu xs
abbrev B2:Type:=Int×Int×Int×Int×Int
def U6(x:B2):B2:=(x.1,x.2.1,x.2.2.2.1,x.2.2.1,x.2.2.2.2)
theorem Zz{x y:B2}(h:U6 x=U6 y):x=y:=by
  obtain⟨a,b,c,d,e⟩:=x
  obtain⟨a',b',c',d',e'⟩:=y
  simp only[U6,Prod.mk.injEq]at h⊢
  omega
abbrev Ca:LO (Int×Int×Int):=Fy LO.int (Fy LO.int LO.int)
abbrev ordF:LO B2:=LO.on (Fy LO.int (Fy LO.int (Fy LO.int (Fy LO.int LO.int)))) U6 Zz
structure Lse where
  ext:Int
  count:Int
abbrev dS:(Int×Int×Int×Int×Int)×(Option Nat):=((0,0,0,0,0),none)
def Fo(x:(Int×Int×Int×Int×Int)×(Option Nat)):List Value:=[Value.int .u8 x.1.1,Value.int .u32 x.1.2.1,Value.int .u32 x.1.2.2.1,Value.int .u16 x.1.2.2.2.1,Value.int .u16 x.1.2.2.2.2,Value.pointer (Cs x.2)]
theorem Iv(x:(Int×Int×Int×Int×Int)×(Option Nat)):(Fo x).length=6:=rfl
theorem Nv(x:(Int×Int×Int×Int×Int)×(Option Nat)): ∀v∈Fo x,v.oneCell'=true:=by simp[Fo,Value.oneCell']
theorem Jh(xs:List ((Int×Int×Int×Int×Int)×(Option Nat))):(mm Fo xs).length=xs.length*6:=B6 Iv xs
abbrev dD:(Int×Int×Int)×(Lse):=((0,0,0),(⟨0,0⟩:Lse))
def Fu(x:(Int×Int×Int)×(Lse)):List Value:=[Value.int .u8 x.1.1,Value.int .u32 x.1.2.1,Value.int .u16 x.1.2.2,Value.int .u16 x.2.ext,Value.int .i64 x.2.count]
theorem Iw(x:(Int×Int×Int)×(Lse)):(Fu x).length=5:=rfl
theorem Nw(x:(Int×Int×Int)×(Lse)): ∀v∈Fu x,v.oneCell'=true:=by simp[Fu,Value.oneCell']
theorem Ji(xs:List ((Int×Int×Int)×(Lse))):(mm Fu xs).length=xs.length*5:=B6 Iw xs
abbrev dN:(Int)×(Int×Int×Int×Int×Int):=(0,(0,0,0,0,0))
def Hy(x:(Int)×(Int×Int×Int×Int×Int)):List Value:=[Value.int .u64 x.1,Value.int .u8 x.2.1,Value.int .u32 x.2.2.1,Value.int .u32 x.2.2.2.1,Value.int .u16 x.2.2.2.2.1,Value.int .u16 x.2.2.2.2.2]
theorem Ix(x:(Int)×(Int×Int×Int×Int×Int)):(Hy x).length=6:=rfl
theorem R3(x:(Int)×(Int×Int×Int×Int×Int)): ∀v∈Hy x,v.oneCell'=true:=by simp[Hy,Value.oneCell']
theorem Oy(xs:List ((Int)×(Int×Int×Int×Int×Int))):(mm Hy xs).length=xs.length*6:=B6 Ix xs
theorem Wf(x:Int)(w:World):Calls Tryz.prog 115 #[iV .u8 x] w (Dc w (.bool false)):=by
 refine Ar (M:=[]) (LL:=[]) (n:=6) Tryz.func115 rfl rfl A5 (Mem.refl _) (Ad (fun K1 hK1=>?_))
 refine Aa (Ab 1 (Ac (hK1 _ _ _ (Ad (fun K2 hK2=>?_)))))
 refine Aa (Ab 4 (Ac (hK2 _ _ _ (Aq (fn:=Tryz.f115) rfl (fun w_ hS_=>Bb rfl (Aw (bV (x !=x))) hS_ ⟨by clear hK1 hK2;refine congrArg Ending.returned ?_;exact Cj A5,hS_.below⟩)))))
theorem Wg(a b:Int)(w:World):Calls Tryz.prog 65 #[iV .u8 a,iV .u8 b] w (Dc w (.int .i64 (LO.cmp LO.int a b))):=by
 refine Ar (M:=[]) (LL:=[]) (n:=20) Tryz.func65 rfl rfl A5 (Mem.refl _) (Ad (fun K1 hK1=>?_))
 refine Aa (Ab 1 (Ac (hK1 _ _ _ (Ad (fun K2 hK2=>?_)))))
 refine Aa (Ab 1 (B0 (v:=bV false) (A9 (fun w_ hm_=>(Wf a _))) (Ab 1 (Ac ?_))))
 refine hK2 _ _ _ (Ad (fun K4 hK4=>?_))
 refine Aa (Ab 1 (B0 (v:=bV false) (A9 (fun w_ hm_=>(Wf b _))) (Ab 1 (Ac ?_))))
 refine hK4 _ _ _ (Ad (fun K6 hK6=>?_))
 refine Ad (fun K7 hK7=>Aa (Ab 1 (Ac (hK7 _ _ _ ?_))))
 refine B4 Ae (Ak (hK6 _ _ _ (Ad (fun K9 hK9=>Ad (fun K10 hK10=>?_)))))
 refine Aa (Ab 1 (Ac (hK10 _ _ _ (B4 Ae ?_))))
 refine Ak (hK9 _ _ _ (Ad (fun K12 hK12=>Ad (fun K13 hK13=>Aa ?_))))
 refine Ab 3 (Ac (hK13 _ _ _ ?_))
 refine Ao (decide (a<b)) Ae (fun h15=>?_) (fun h16=>?_)
 ·have qh15:=h15;try simp only[zA]at qh15
  refine Ad (fun K17 hK17=>Aa (Ab 1 (Ac (hK17 _ _ _ ?_))))
  refine Aq (fn:=Tryz.f65) rfl (fun w_ hS_=>Bb rfl (Aw (iV .i64 (-1))) hS_ ⟨by clear hK1 hK2 hK4 hK6 hK7 hK9 hK10 hK12 hK13 hK17;refine congrArg Ending.returned ?_;simp only[LO.cmp,LO.int,h15,cond_true,cond_false];try rfl,hS_.below⟩)
 ·have qh16:=h16;try simp only[zA]at qh16
  refine Ak (hK12 _ _ _ (Ad (fun K19 hK19=>Ad (fun K20 hK20=>Aa ?_))))
  refine Ab 3 (Ac (hK20 _ _ _ ?_))
  refine Ao (decide (a>b)) Ae (fun h22=>?_) (fun h23=>?_)
  ·have qh22:=h22;try simp only[zA]at qh22
   refine Ad (fun K24 hK24=>Aa (Ab 1 (Ac (hK24 _ _ _ ?_))))
   refine Aq (fn:=Tryz.f65) rfl (fun w_ hS_=>Bb rfl (Aw (iV .i64 1)) hS_ ⟨by clear hK1 hK2 hK4 hK6 hK7 hK9 hK10 hK12 hK13 hK19 hK20 hK24;refine congrArg Ending.returned ?_;simp only[LO.cmp,LO.int,h16,h22,cond_true,cond_false];try rfl,hS_.below⟩)
  ·have qh23:=h23;try simp only[zA]at qh23
   refine Ak (hK19 _ _ _ (Ad (fun K26 hK26=>Aa (Ab 1 ?_))))
   refine Ac (hK26 _ _ _ (Aq (fn:=Tryz.f65) rfl (fun w_ hS_=>Bb rfl (Aw (iV .i64 0)) hS_ ⟨by clear hK1 hK2 hK4 hK6 hK7 hK9 hK10 hK12 hK13 hK19 hK20 hK26;refine congrArg Ending.returned ?_;simp only[LO.cmp,LO.int,h16,h23,cond_true,cond_false];try rfl,hS_.below⟩)))
theorem Tv(x:Int)(w:World):Calls Tryz.prog 117 #[iV .u16 x] w (Dc w (.bool false)):=by
 refine Ar (M:=[]) (LL:=[]) (n:=6) Tryz.func117 rfl rfl A5 (Mem.refl _) (Ad (fun K1 hK1=>?_))
 refine Aa (Ab 1 (Ac (hK1 _ _ _ (Ad (fun K2 hK2=>?_)))))
 refine Aa (Ab 4 (Ac (hK2 _ _ _ (Aq (fn:=Tryz.f117) rfl (fun w_ hS_=>Bb rfl (Aw (bV (x !=x))) hS_ ⟨by clear hK1 hK2;refine congrArg Ending.returned ?_;exact Cj A5,hS_.below⟩)))))
theorem Oz(a b:Int)(w:World):Calls Tryz.prog 67 #[iV .u16 a,iV .u16 b] w (Dc w (.int .i64 (LO.cmp LO.int a b))):=by
 refine Ar (M:=[]) (LL:=[]) (n:=20) Tryz.func67 rfl rfl A5 (Mem.refl _) (Ad (fun K1 hK1=>?_))
 refine Aa (Ab 1 (Ac (hK1 _ _ _ (Ad (fun K2 hK2=>?_)))))
 refine Aa (Ab 1 (B0 (v:=bV false) (A9 (fun w_ hm_=>(Tv a _))) (Ab 1 (Ac ?_))))
 refine hK2 _ _ _ (Ad (fun K4 hK4=>?_))
 refine Aa (Ab 1 (B0 (v:=bV false) (A9 (fun w_ hm_=>(Tv b _))) (Ab 1 (Ac ?_))))
 refine hK4 _ _ _ (Ad (fun K6 hK6=>?_))
 refine Ad (fun K7 hK7=>Aa (Ab 1 (Ac (hK7 _ _ _ ?_))))
 refine B4 Ae (Ak (hK6 _ _ _ (Ad (fun K9 hK9=>Ad (fun K10 hK10=>?_)))))
 refine Aa (Ab 1 (Ac (hK10 _ _ _ (B4 Ae ?_))))
 refine Ak (hK9 _ _ _ (Ad (fun K12 hK12=>Ad (fun K13 hK13=>Aa ?_))))
 refine Ab 3 (Ac (hK13 _ _ _ ?_))
 refine Ao (decide (a<b)) Ae (fun h15=>?_) (fun h16=>?_)
 ·have qh15:=h15;try simp only[zA]at qh15
  refine Ad (fun K17 hK17=>Aa (Ab 1 (Ac (hK17 _ _ _ ?_))))
  refine Aq (fn:=Tryz.f67) rfl (fun w_ hS_=>Bb rfl (Aw (iV .i64 (-1))) hS_ ⟨by clear hK1 hK2 hK4 hK6 hK7 hK9 hK10 hK12 hK13 hK17;refine congrArg Ending.returned ?_;simp only[LO.cmp,LO.int,h15,cond_true,cond_false];try rfl,hS_.below⟩)
 ·have qh16:=h16;try simp only[zA]at qh16
  refine Ak (hK12 _ _ _ (Ad (fun K19 hK19=>Ad (fun K20 hK20=>Aa ?_))))
  refine Ab 3 (Ac (hK20 _ _ _ ?_))
  refine Ao (decide (a>b)) Ae (fun h22=>?_) (fun h23=>?_)
  ·have qh22:=h22;try simp only[zA]at qh22
   refine Ad (fun K24 hK24=>Aa (Ab 1 (Ac (hK24 _ _ _ ?_))))
   refine Aq (fn:=Tryz.f67) rfl (fun w_ hS_=>Bb rfl (Aw (iV .i64 1)) hS_ ⟨by clear hK1 hK2 hK4 hK6 hK7 hK9 hK10 hK12 hK13 hK19 hK20 hK24;refine congrArg Ending.returned ?_;simp only[LO.cmp,LO.int,h16,h22,cond_true,cond_false];try rfl,hS_.below⟩)
  ·have qh23:=h23;try simp only[zA]at qh23
   refine Ak (hK19 _ _ _ (Ad (fun K26 hK26=>Aa (Ab 1 ?_))))
   refine Ac (hK26 _ _ _ (Aq (fn:=Tryz.f67) rfl (fun w_ hS_=>Bb rfl (Aw (iV .i64 0)) hS_ ⟨by clear hK1 hK2 hK4 hK6 hK7 hK9 hK10 hK12 hK13 hK19 hK20 hK26;refine congrArg Ending.returned ?_;simp only[LO.cmp,LO.int,h16,h23,cond_true,cond_false];try rfl,hS_.below⟩)))
theorem Tw(x:Int)(w:World):Calls Tryz.prog 116 #[iV .u32 x] w (Dc w (.bool false)):=by
 refine Ar (M:=[]) (LL:=[]) (n:=6) Tryz.func116 rfl rfl A5 (Mem.refl _) (Ad (fun K1 hK1=>?_))
 refine Aa (Ab 1 (Ac (hK1 _ _ _ (Ad (fun K2 hK2=>?_)))))
 refine Aa (Ab 4 (Ac (hK2 _ _ _ (Aq (fn:=Tryz.f116) rfl (fun w_ hS_=>Bb rfl (Aw (bV (x !=x))) hS_ ⟨by clear hK1 hK2;refine congrArg Ending.returned ?_;exact Cj A5,hS_.below⟩)))))
theorem O0(a b:Int)(w:World):Calls Tryz.prog 66 #[iV .u32 a,iV .u32 b] w (Dc w (.int .i64 (LO.cmp LO.int a b))):=by
 refine Ar (M:=[]) (LL:=[]) (n:=20) Tryz.func66 rfl rfl A5 (Mem.refl _) (Ad (fun K1 hK1=>?_))
 refine Aa (Ab 1 (Ac (hK1 _ _ _ (Ad (fun K2 hK2=>?_)))))
 refine Aa (Ab 1 (B0 (v:=bV false) (A9 (fun w_ hm_=>(Tw a _))) (Ab 1 (Ac ?_))))
 refine hK2 _ _ _ (Ad (fun K4 hK4=>?_))
 refine Aa (Ab 1 (B0 (v:=bV false) (A9 (fun w_ hm_=>(Tw b _))) (Ab 1 (Ac ?_))))
 refine hK4 _ _ _ (Ad (fun K6 hK6=>?_))
 refine Ad (fun K7 hK7=>Aa (Ab 1 (Ac (hK7 _ _ _ ?_))))
 refine B4 Ae (Ak (hK6 _ _ _ (Ad (fun K9 hK9=>Ad (fun K10 hK10=>?_)))))
 refine Aa (Ab 1 (Ac (hK10 _ _ _ (B4 Ae ?_))))
 refine Ak (hK9 _ _ _ (Ad (fun K12 hK12=>Ad (fun K13 hK13=>Aa ?_))))
 refine Ab 3 (Ac (hK13 _ _ _ ?_))
 refine Ao (decide (a<b)) Ae (fun h15=>?_) (fun h16=>?_)
 ·have qh15:=h15;try simp only[zA]at qh15
  refine Ad (fun K17 hK17=>Aa (Ab 1 (Ac (hK17 _ _ _ ?_))))
  refine Aq (fn:=Tryz.f66) rfl (fun w_ hS_=>Bb rfl (Aw (iV .i64 (-1))) hS_ ⟨by clear hK1 hK2 hK4 hK6 hK7 hK9 hK10 hK12 hK13 hK17;refine congrArg Ending.returned ?_;simp only[LO.cmp,LO.int,h15,cond_true,cond_false];try rfl,hS_.below⟩)
 ·have qh16:=h16;try simp only[zA]at qh16
  refine Ak (hK12 _ _ _ (Ad (fun K19 hK19=>Ad (fun K20 hK20=>Aa ?_))))
  refine Ab 3 (Ac (hK20 _ _ _ ?_))
  refine Ao (decide (a>b)) Ae (fun h22=>?_) (fun h23=>?_)
  ·have qh22:=h22;try simp only[zA]at qh22
   refine Ad (fun K24 hK24=>Aa (Ab 1 (Ac (hK24 _ _ _ ?_))))
   refine Aq (fn:=Tryz.f66) rfl (fun w_ hS_=>Bb rfl (Aw (iV .i64 1)) hS_ ⟨by clear hK1 hK2 hK4 hK6 hK7 hK9 hK10 hK12 hK13 hK19 hK20 hK24;refine congrArg Ending.returned ?_;simp only[LO.cmp,LO.int,h16,h22,cond_true,cond_false];try rfl,hS_.below⟩)
  ·have qh23:=h23;try simp only[zA]at qh23
   refine Ak (hK19 _ _ _ (Ad (fun K26 hK26=>Aa (Ab 1 ?_))))
   refine Ac (hK26 _ _ _ (Aq (fn:=Tryz.f66) rfl (fun w_ hS_=>Bb rfl (Aw (iV .i64 0)) hS_ ⟨by clear hK1 hK2 hK4 hK6 hK7 hK9 hK10 hK12 hK13 hK19 hK20 hK26;refine congrArg Ending.returned ?_;simp only[LO.cmp,LO.int,h16,h23,cond_true,cond_false];try rfl,hS_.below⟩)))
theorem Tx(x:Int)(w:World):Calls Tryz.prog 68 #[iV .u64 x] w (Dc w (.bool false)):=by
 refine Ar (M:=[]) (LL:=[]) (n:=6) Tryz.func68 rfl rfl A5 (Mem.refl _) (Ad (fun K1 hK1=>?_))
 refine Aa (Ab 1 (Ac (hK1 _ _ _ (Ad (fun K2 hK2=>?_)))))
 refine Aa (Ab 4 (Ac (hK2 _ _ _ (Aq (fn:=Tryz.f68) rfl (fun w_ hS_=>Bb rfl (Aw (bV (x !=x))) hS_ ⟨by clear hK1 hK2;refine congrArg Ending.returned ?_;exact Cj A5,hS_.below⟩)))))
theorem Z0(a b:Int)(w:World):Calls Tryz.prog 35 #[iV .u64 a,iV .u64 b] w (Dc w (.int .i64 (LO.cmp LO.int a b))):=by
 refine Ar (M:=[]) (LL:=[]) (n:=20) Tryz.func35 rfl rfl A5 (Mem.refl _) (Ad (fun K1 hK1=>?_))
 refine Aa (Ab 1 (Ac (hK1 _ _ _ (Ad (fun K2 hK2=>?_)))))
 refine Aa (Ab 1 (B0 (v:=bV false) (A9 (fun w_ hm_=>(Tx a _))) (Ab 1 (Ac ?_))))
 refine hK2 _ _ _ (Ad (fun K4 hK4=>?_))
 refine Aa (Ab 1 (B0 (v:=bV false) (A9 (fun w_ hm_=>(Tx b _))) (Ab 1 (Ac ?_))))
 refine hK4 _ _ _ (Ad (fun K6 hK6=>?_))
 refine Ad (fun K7 hK7=>Aa (Ab 1 (Ac (hK7 _ _ _ ?_))))
 refine B4 Ae (Ak (hK6 _ _ _ (Ad (fun K9 hK9=>Ad (fun K10 hK10=>?_)))))
 refine Aa (Ab 1 (Ac (hK10 _ _ _ (B4 Ae ?_))))
 refine Ak (hK9 _ _ _ (Ad (fun K12 hK12=>Ad (fun K13 hK13=>Aa ?_))))
 refine Ab 3 (Ac (hK13 _ _ _ ?_))
 refine Ao (decide (a<b)) Ae (fun h15=>?_) (fun h16=>?_)
 ·have qh15:=h15;try simp only[zA]at qh15
  refine Ad (fun K17 hK17=>Aa (Ab 1 (Ac (hK17 _ _ _ ?_))))
  refine Aq (fn:=Tryz.f35) rfl (fun w_ hS_=>Bb rfl (Aw (iV .i64 (-1))) hS_ ⟨by clear hK1 hK2 hK4 hK6 hK7 hK9 hK10 hK12 hK13 hK17;refine congrArg Ending.returned ?_;simp only[LO.cmp,LO.int,h15,cond_true,cond_false];try rfl,hS_.below⟩)
 ·have qh16:=h16;try simp only[zA]at qh16
  refine Ak (hK12 _ _ _ (Ad (fun K19 hK19=>Ad (fun K20 hK20=>Aa ?_))))
  refine Ab 3 (Ac (hK20 _ _ _ ?_))
  refine Ao (decide (a>b)) Ae (fun h22=>?_) (fun h23=>?_)
  ·have qh22:=h22;try simp only[zA]at qh22
   refine Ad (fun K24 hK24=>Aa (Ab 1 (Ac (hK24 _ _ _ ?_))))
   refine Aq (fn:=Tryz.f35) rfl (fun w_ hS_=>Bb rfl (Aw (iV .i64 1)) hS_ ⟨by clear hK1 hK2 hK4 hK6 hK7 hK9 hK10 hK12 hK13 hK19 hK20 hK24;refine congrArg Ending.returned ?_;simp only[LO.cmp,LO.int,h16,h22,cond_true,cond_false];try rfl,hS_.below⟩)
  ·have qh23:=h23;try simp only[zA]at qh23
   refine Ak (hK19 _ _ _ (Ad (fun K26 hK26=>Aa (Ab 1 ?_))))
   refine Ac (hK26 _ _ _ (Aq (fn:=Tryz.f35) rfl (fun w_ hS_=>Bb rfl (Aw (iV .i64 0)) hS_ ⟨by clear hK1 hK2 hK4 hK6 hK7 hK9 hK10 hK12 hK13 hK19 hK20 hK26;refine congrArg Ending.returned ?_;simp only[LO.cmp,LO.int,h16,h23,cond_true,cond_false];try rfl,hS_.below⟩)))
theorem Ak5(x y z:Int)(a:Option Addr)(cap:Nat)(w:World)(hat:At w a [.int .i64 x,.int .i64 y,.int .i64 z]):Calls Tryz.prog 64 #[sL a 3 cap] w (Dc w (.int .i64 (Nu [x,y,z]))):=by
 refine Ar (M:=[]) (LL:=[]) (n:=18) Tryz.func64 rfl rfl A5 (Mem.refl _) (Ad (fun K1 hK1=>?_))
 refine Aa (Ab 1 (Ac (hK1 _ _ _ (Ad (fun K2 hK2=>?_)))))
 refine Aa (Ab 1 (Ac (hK2 _ _ _ (Ad (fun K3 hK3=>?_)))))
 refine Ad (fun K4 hK4=>Aa (Ab 3 (Ac (hK4 _ _ _ ?_))))
 refine W.block (H7 4 (C4 (fun J6 hJ6=>Ad (fun K7 hK7=>Aa ?_))))
 refine Ab 1 (Ac (hK7 _ _ _ (Ad (fun K8 hK8=>B5 Ae ?_))))
 refine Ak (hK8 _ _ _ (Ad (fun K10 hK10=>W.block (Ad (fun K11 hK11=>?_)))))
 refine Aa (Ah (v:=pL (some (Co a 0))) (Bm fun w_ h_=>Av (k:=.i64) (a:=a) (len:=3) (cap:=cap) (i:=0) (sz:=1) rfl Ae Ae Tryz.runUnderlying224 Tryz.sizeOf3 Al Al ((hat.mem0 h_).here Ps)) (Ah (Ys.ld (a:=Co a 0) rfl Ae Tryz.isAgg3 (fun w_ h_=>(hat.mem0 h_).ld (v:=iV .i64 x) rfl)) (Ab 1 (Ac ?_))))
 refine hK11 _ _ _ (Ad (fun K13 hK13=>?_))
 refine Aa (Ab 3 (Ac (hK13 _ _ _ ?_)))
 refine Ao (x !=0) Ae (fun h15=>?_) (fun h16=>?_)
 ·have qh15:=h15;try simp only[zA]at qh15
  refine Ad (fun K17 hK17=>Aa (Ab 2 (Ac (hK17 _ _ _ ?_))))
  refine Aq (fn:=Tryz.f64) rfl (fun w_ hS_=>Bb rfl (Aw (iV .i64 x)) hS_ ⟨by clear hK1 hK2 hK3 hK4 hJ6 hK7 hK8 hK10 hK11 hK13 hK17;refine congrArg Ending.returned ?_;have z0_:=h15;simp at z0_;simp[Nu, *],hS_.below⟩)
 ·have qh16:=h16;try simp only[zA]at qh16
  refine Ak (hK10 _ _ _ (Aa (Ab 2 (Ac ?_))))
  refine hJ6 _ _ _ (C4 (fun J20 hJ20=>?_))
  refine Ad (fun K22 hK22=>Aa (Ab 1 (Ac (hK22 _ _ _ ?_))))
  refine Ad (fun K23 hK23=>B5 Ae (Ak (hK23 _ _ _ (Ad (fun K25 hK25=>?_)))))
  refine W.block (Ad (fun K26 hK26=>?_))
  refine Aa (Ah (v:=pL (some (Co a 1))) (Bm fun w_ h_=>Av (k:=.i64) (a:=a) (len:=3) (cap:=cap) (i:=1) (sz:=1) rfl Ae Ae Tryz.runUnderlying224 Tryz.sizeOf3 Al Al ((hat.mem0 h_).here Ps)) (Ah (Ys.ld (a:=Co a 1) rfl Ae Tryz.isAgg3 (fun w_ h_=>(hat.mem0 h_).ld (v:=iV .i64 y) rfl)) (Ab 1 (Ac ?_))))
  refine hK26 _ _ _ (Ad (fun K28 hK28=>?_))
  refine Aa (Ab 3 (Ac (hK28 _ _ _ ?_)))
  refine Ao (y !=0) Ae (fun h30=>?_) (fun h31=>?_)
  ·have qh30:=h30;try simp only[zA]at qh30
   refine Ad (fun K32 hK32=>Aa (Ab 2 (Ac (hK32 _ _ _ ?_))))
   refine Aq (fn:=Tryz.f64) rfl (fun w_ hS_=>Bb rfl (Aw (iV .i64 y)) hS_ ⟨by clear hK1 hK2 hK3 hK4 hJ6 hK7 hK8 hK10 hK11 hK13 hJ20 hK22 hK23 hK25 hK26 hK28 hK32;refine congrArg Ending.returned ?_;have z0_:=h16;have z1_:=h30;simp at z0_ z1_;simp[Nu, *],hS_.below⟩)
  ·have qh31:=h31;try simp only[zA]at qh31
   refine Ak (hK25 _ _ _ (Aa (Ab 2 (Ac ?_))))
   refine hJ20 _ _ _ (C4 (fun J35 hJ35=>?_))
   refine Ad (fun K37 hK37=>Aa (Ab 1 (Ac (hK37 _ _ _ ?_))))
   refine Ad (fun K38 hK38=>B5 Ae (Ak (hK38 _ _ _ (Ad (fun K40 hK40=>?_)))))
   refine W.block (Ad (fun K41 hK41=>?_))
   refine Aa (Ah (v:=pL (some (Co a 2))) (Bm fun w_ h_=>Av (k:=.i64) (a:=a) (len:=3) (cap:=cap) (i:=2) (sz:=1) rfl Ae Ae Tryz.runUnderlying224 Tryz.sizeOf3 Al Al ((hat.mem0 h_).here Ps)) (Ah (Ys.ld (a:=Co a 2) rfl Ae Tryz.isAgg3 (fun w_ h_=>(hat.mem0 h_).ld (v:=iV .i64 z) rfl)) (Ab 1 (Ac ?_))))
   refine hK41 _ _ _ (Ad (fun K43 hK43=>?_))
   refine Aa (Ab 3 (Ac (hK43 _ _ _ ?_)))
   refine Ao (z !=0) Ae (fun h45=>?_) (fun h46=>?_)
   ·have qh45:=h45;try simp only[zA]at qh45
    refine Ad (fun K47 hK47=>Aa (Ab 2 (Ac (hK47 _ _ _ ?_))))
    refine Aq (fn:=Tryz.f64) rfl (fun w_ hS_=>Bb rfl (Aw (iV .i64 z)) hS_ ⟨by clear hK1 hK2 hK3 hK4 hJ6 hK7 hK8 hK10 hK11 hK13 hJ20 hK22 hK23 hK25 hK26 hK28 hJ35 hK37 hK38 hK40 hK41 hK43 hK47;refine congrArg Ending.returned ?_;have z0_:=h16;have z1_:=h31;have z2_:=h45;simp at z0_ z1_ z2_;simp[Nu, *],hS_.below⟩)
   ·have qh46:=h46;try simp only[zA]at qh46
    refine Ak (hK40 _ _ _ (Aa (Ab 2 (Ac ?_))))
    refine hJ35 _ _ _ (C4 (fun J50 hJ50=>?_))
    refine Ad (fun K52 hK52=>Aa (Ab 1 (Ac (hK52 _ _ _ ?_))))
    refine Ad (fun K53 hK53=>B4 Ae (Cr (hK3 _ _ _ (Ad (fun K55 hK55=>?_)))))
    refine Aa (Ab 2 (Ac (hK55 _ _ _ (Aq (fn:=Tryz.f64) rfl (fun w_ hS_=>Bb rfl (Aw (iV .i64 0)) hS_ ⟨by clear hK1 hK2 hK3 hK4 hJ6 hK7 hK8 hK10 hK11 hK13 hJ20 hK22 hK23 hK25 hK26 hK28 hJ35 hK37 hK38 hK40 hK41 hK43 hJ50 hK52 hK53 hK55;refine congrArg Ending.returned ?_;have z0_:=h16;have z1_:=h31;have z2_:=h46;simp at z0_ z1_ z2_;simp[Nu, *],hS_.below⟩)))))
theorem Ak6(x y z u v:Int)(a:Option Addr)(cap:Nat)(w:World)(hat:At w a [.int .i64 x,.int .i64 y,.int .i64 z,.int .i64 u,.int .i64 v]):Calls Tryz.prog 64 #[sL a 5 cap] w (Dc w (.int .i64 (Nu [x,y,z,u,v]))):=by
 refine Ar (M:=[]) (LL:=[]) (n:=18) Tryz.func64 rfl rfl A5 (Mem.refl _) (Ad (fun K1 hK1=>?_))
 refine Aa (Ab 1 (Ac (hK1 _ _ _ (Ad (fun K2 hK2=>?_)))))
 refine Aa (Ab 1 (Ac (hK2 _ _ _ (Ad (fun K3 hK3=>?_)))))
 refine Ad (fun K4 hK4=>Aa (Ab 3 (Ac (hK4 _ _ _ ?_))))
 refine W.block (H7 6 (C4 (fun J6 hJ6=>Ad (fun K7 hK7=>Aa ?_))))
 refine Ab 1 (Ac (hK7 _ _ _ (Ad (fun K8 hK8=>B5 Ae ?_))))
 refine Ak (hK8 _ _ _ (Ad (fun K10 hK10=>W.block (Ad (fun K11 hK11=>?_)))))
 refine Aa (Ah (v:=pL (some (Co a 0))) (Bm fun w_ h_=>Av (k:=.i64) (a:=a) (len:=5) (cap:=cap) (i:=0) (sz:=1) rfl Ae Ae Tryz.runUnderlying224 Tryz.sizeOf3 Al Al ((hat.mem0 h_).here Ps)) (Ah (Ys.ld (a:=Co a 0) rfl Ae Tryz.isAgg3 (fun w_ h_=>(hat.mem0 h_).ld (v:=iV .i64 x) rfl)) (Ab 1 (Ac ?_))))
 refine hK11 _ _ _ (Ad (fun K13 hK13=>?_))
 refine Aa (Ab 3 (Ac (hK13 _ _ _ ?_)))
 refine Ao (x !=0) Ae (fun h15=>?_) (fun h16=>?_)
 ·have qh15:=h15;try simp only[zA]at qh15
  refine Ad (fun K17 hK17=>Aa (Ab 2 (Ac (hK17 _ _ _ ?_))))
  refine Aq (fn:=Tryz.f64) rfl (fun w_ hS_=>Bb rfl (Aw (iV .i64 x)) hS_ ⟨by clear hK1 hK2 hK3 hK4 hJ6 hK7 hK8 hK10 hK11 hK13 hK17;refine congrArg Ending.returned ?_;have z0_:=h15;simp at z0_;simp[Nu, *],hS_.below⟩)
 ·have qh16:=h16;try simp only[zA]at qh16
  refine Ak (hK10 _ _ _ (Aa (Ab 2 (Ac ?_))))
  refine hJ6 _ _ _ (C4 (fun J20 hJ20=>?_))
  refine Ad (fun K22 hK22=>Aa (Ab 1 (Ac (hK22 _ _ _ ?_))))
  refine Ad (fun K23 hK23=>B5 Ae (Ak (hK23 _ _ _ (Ad (fun K25 hK25=>?_)))))
  refine W.block (Ad (fun K26 hK26=>?_))
  refine Aa (Ah (v:=pL (some (Co a 1))) (Bm fun w_ h_=>Av (k:=.i64) (a:=a) (len:=5) (cap:=cap) (i:=1) (sz:=1) rfl Ae Ae Tryz.runUnderlying224 Tryz.sizeOf3 Al Al ((hat.mem0 h_).here Ps)) (Ah (Ys.ld (a:=Co a 1) rfl Ae Tryz.isAgg3 (fun w_ h_=>(hat.mem0 h_).ld (v:=iV .i64 y) rfl)) (Ab 1 (Ac ?_))))
  refine hK26 _ _ _ (Ad (fun K28 hK28=>?_))
  refine Aa (Ab 3 (Ac (hK28 _ _ _ ?_)))
  refine Ao (y !=0) Ae (fun h30=>?_) (fun h31=>?_)
  ·have qh30:=h30;try simp only[zA]at qh30
   refine Ad (fun K32 hK32=>Aa (Ab 2 (Ac (hK32 _ _ _ ?_))))
   refine Aq (fn:=Tryz.f64) rfl (fun w_ hS_=>Bb rfl (Aw (iV .i64 y)) hS_ ⟨by clear hK1 hK2 hK3 hK4 hJ6 hK7 hK8 hK10 hK11 hK13 hJ20 hK22 hK23 hK25 hK26 hK28 hK32;refine congrArg Ending.returned ?_;have z0_:=h16;have z1_:=h30;simp at z0_ z1_;simp[Nu, *],hS_.below⟩)
  ·have qh31:=h31;try simp only[zA]at qh31
   refine Ak (hK25 _ _ _ (Aa (Ab 2 (Ac ?_))))
   refine hJ20 _ _ _ (C4 (fun J35 hJ35=>?_))
   refine Ad (fun K37 hK37=>Aa (Ab 1 (Ac (hK37 _ _ _ ?_))))
   refine Ad (fun K38 hK38=>B5 Ae (Ak (hK38 _ _ _ (Ad (fun K40 hK40=>?_)))))
   refine W.block (Ad (fun K41 hK41=>?_))
   refine Aa (Ah (v:=pL (some (Co a 2))) (Bm fun w_ h_=>Av (k:=.i64) (a:=a) (len:=5) (cap:=cap) (i:=2) (sz:=1) rfl Ae Ae Tryz.runUnderlying224 Tryz.sizeOf3 Al Al ((hat.mem0 h_).here Ps)) (Ah (Ys.ld (a:=Co a 2) rfl Ae Tryz.isAgg3 (fun w_ h_=>(hat.mem0 h_).ld (v:=iV .i64 z) rfl)) (Ab 1 (Ac ?_))))
   refine hK41 _ _ _ (Ad (fun K43 hK43=>?_))
   refine Aa (Ab 3 (Ac (hK43 _ _ _ ?_)))
   refine Ao (z !=0) Ae (fun h45=>?_) (fun h46=>?_)
   ·have qh45:=h45;try simp only[zA]at qh45
    refine Ad (fun K47 hK47=>Aa (Ab 2 (Ac (hK47 _ _ _ ?_))))
    refine Aq (fn:=Tryz.f64) rfl (fun w_ hS_=>Bb rfl (Aw (iV .i64 z)) hS_ ⟨by clear hK1 hK2 hK3 hK4 hJ6 hK7 hK8 hK10 hK11 hK13 hJ20 hK22 hK23 hK25 hK26 hK28 hJ35 hK37 hK38 hK40 hK41 hK43 hK47;refine congrArg Ending.returned ?_;have z0_:=h16;have z1_:=h31;have z2_:=h45;simp at z0_ z1_ z2_;simp[Nu, *],hS_.below⟩)
   ·have qh46:=h46;try simp only[zA]at qh46
    refine Ak (hK40 _ _ _ (Aa (Ab 2 (Ac ?_))))
    refine hJ35 _ _ _ (C4 (fun J50 hJ50=>?_))
    refine Ad (fun K52 hK52=>Aa (Ab 1 (Ac (hK52 _ _ _ ?_))))
    refine Ad (fun K53 hK53=>B5 Ae (Ak (hK53 _ _ _ (Ad (fun K55 hK55=>?_)))))
    refine W.block (Ad (fun K56 hK56=>?_))
    refine Aa (Ah (v:=pL (some (Co a 3))) (Bm fun w_ h_=>Av (k:=.i64) (a:=a) (len:=5) (cap:=cap) (i:=3) (sz:=1) rfl Ae Ae Tryz.runUnderlying224 Tryz.sizeOf3 Al Al ((hat.mem0 h_).here Ps)) (Ah (Ys.ld (a:=Co a 3) rfl Ae Tryz.isAgg3 (fun w_ h_=>(hat.mem0 h_).ld (v:=iV .i64 u) rfl)) (Ab 1 (Ac ?_))))
    refine hK56 _ _ _ (Ad (fun K58 hK58=>?_))
    refine Aa (Ab 3 (Ac (hK58 _ _ _ ?_)))
    refine Ao (u !=0) Ae (fun h60=>?_) (fun h61=>?_)
    ·have qh60:=h60;try simp only[zA]at qh60
     refine Ad (fun K62 hK62=>Aa (Ab 2 (Ac (hK62 _ _ _ ?_))))
     refine Aq (fn:=Tryz.f64) rfl (fun w_ hS_=>Bb rfl (Aw (iV .i64 u)) hS_ ⟨by clear hK1 hK2 hK3 hK4 hJ6 hK7 hK8 hK10 hK11 hK13 hJ20 hK22 hK23 hK25 hK26 hK28 hJ35 hK37 hK38 hK40 hK41 hK43 hJ50 hK52 hK53 hK55 hK56 hK58 hK62;refine congrArg Ending.returned ?_;have z0_:=h16;have z1_:=h31;have z2_:=h46;have z3_:=h60;simp at z0_ z1_ z2_ z3_;simp[Nu, *],hS_.below⟩)
    ·have qh61:=h61;try simp only[zA]at qh61
     refine Ak (hK55 _ _ _ (Aa (Ab 2 (Ac ?_))))
     refine hJ50 _ _ _ (C4 (fun J65 hJ65=>?_))
     refine Ad (fun K67 hK67=>Aa (Ab 1 (Ac (hK67 _ _ _ ?_))))
     refine Ad (fun K68 hK68=>B5 Ae (Ak (hK68 _ _ _ (Ad (fun K70 hK70=>?_)))))
     refine W.block (Ad (fun K71 hK71=>?_))
     refine Aa (Ah (v:=pL (some (Co a 4))) (Bm fun w_ h_=>Av (k:=.i64) (a:=a) (len:=5) (cap:=cap) (i:=4) (sz:=1) rfl Ae Ae Tryz.runUnderlying224 Tryz.sizeOf3 Al Al ((hat.mem0 h_).here Ps)) (Ah (Ys.ld (a:=Co a 4) rfl Ae Tryz.isAgg3 (fun w_ h_=>(hat.mem0 h_).ld (v:=iV .i64 v) rfl)) (Ab 1 (Ac ?_))))
     refine hK71 _ _ _ (Ad (fun K73 hK73=>?_))
     refine Aa (Ab 3 (Ac (hK73 _ _ _ ?_)))
     refine Ao (v !=0) Ae (fun h75=>?_) (fun h76=>?_)
     ·have qh75:=h75;try simp only[zA]at qh75
      refine Ad (fun K77 hK77=>Aa (Ab 2 (Ac (hK77 _ _ _ ?_))))
      refine Aq (fn:=Tryz.f64) rfl (fun w_ hS_=>Bb rfl (Aw (iV .i64 v)) hS_ ⟨by clear hK1 hK2 hK3 hK4 hJ6 hK7 hK8 hK10 hK11 hK13 hJ20 hK22 hK23 hK25 hK26 hK28 hJ35 hK37 hK38 hK40 hK41 hK43 hJ50 hK52 hK53 hK55 hK56 hK58 hJ65 hK67 hK68 hK70 hK71 hK73 hK77;refine congrArg Ending.returned ?_;have z0_:=h16;have z1_:=h31;have z2_:=h46;have z3_:=h61;have z4_:=h75;simp at z0_ z1_ z2_ z3_ z4_;simp[Nu, *],hS_.below⟩)
     ·have qh76:=h76;try simp only[zA]at qh76
      refine Ak (hK70 _ _ _ (Aa (Ab 2 (Ac ?_))))
      refine hJ65 _ _ _ (C4 (fun J80 hJ80=>?_))
      refine Ad (fun K82 hK82=>Aa (Ab 1 (Ac (hK82 _ _ _ ?_))))
      refine Ad (fun K83 hK83=>B4 Ae (Cr (hK3 _ _ _ (Ad (fun K85 hK85=>?_)))))
      refine Aa (Ab 2 (Ac (hK85 _ _ _ (Aq (fn:=Tryz.f64) rfl (fun w_ hS_=>Bb rfl (Aw (iV .i64 0)) hS_ ⟨by clear hK1 hK2 hK3 hK4 hJ6 hK7 hK8 hK10 hK11 hK13 hJ20 hK22 hK23 hK25 hK26 hK28 hJ35 hK37 hK38 hK40 hK41 hK43 hJ50 hK52 hK53 hK55 hK56 hK58 hJ65 hK67 hK68 hK70 hK71 hK73 hJ80 hK82 hK83 hK85;refine congrArg Ending.returned ?_;have z0_:=h16;have z1_:=h31;have z2_:=h46;have z3_:=h61;have z4_:=h76;simp at z0_ z1_ z2_ z3_ z4_;simp[Nu, *],hS_.below⟩)))))
theorem Gi{x:Int}{xs:List Int}:Nu (x::xs)=bif decide (x=0)then Nu xs else x:=by
  show(if x≠0 then x else Nu xs)=_
  by_cases h:x=0
  · rw[if_neg (fun g=>g h),decide_eq_true h];rfl
  · rw[if_pos h,decide_eq_false h];rfl
theorem orE(a b:Int×Int×Int):Nu [LO.cmp LO.int a.1 b.1,LO.cmp LO.int a.2.1 b.2.1,LO.cmp LO.int a.2.2 b.2.2]=LO.cmp Ca a b:=by
  unfold Ca
  rw[Fz,Fz,Gi,Gi,Gi]
  cases decide (LO.cmp LO.int a.1 b.1=0)<;>cases decide (LO.cmp LO.int a.2.1 b.2.1=0)<;>simp only[cond_true,cond_false]
  by_cases h:LO.cmp LO.int a.2.2 b.2.2=0
  · rw[decide_eq_true h,h];rfl
  · rw[decide_eq_false h];rfl
theorem orF(a b:B2):Nu [LO.cmp LO.int a.1 b.1,LO.cmp LO.int a.2.1 b.2.1,LO.cmp LO.int a.2.2.2.1 b.2.2.2.1,LO.cmp LO.int a.2.2.1 b.2.2.1,LO.cmp LO.int a.2.2.2.2 b.2.2.2.2]=LO.cmp ordF a b:=by
  show _=LO.cmp (Fy LO.int (Fy LO.int (Fy LO.int (Fy LO.int LO.int)))) (U6 a) (U6 b)
  unfold U6
  rw[Fz,Fz,Fz,Fz,Gi,Gi,Gi,Gi,Gi]
  cases decide (LO.cmp LO.int a.1 b.1=0)<;>cases decide (LO.cmp LO.int a.2.1 b.2.1=0)<;>cases decide (LO.cmp LO.int a.2.2.2.1 b.2.2.2.1=0)<;>cases decide (LO.cmp LO.int a.2.2.1 b.2.2.1=0)<;>simp only[cond_true,cond_false]
  by_cases h:LO.cmp LO.int a.2.2.2.2 b.2.2.2.2=0
  · rw[decide_eq_true h,h];rfl
  · rw[decide_eq_false h];rfl
theorem Ahm(a b:Int×Int×Int)(w:World):Calls Tryz.prog 33 #[aV [iV .u8 a.1,iV .u32 a.2.1,iV .u16 a.2.2],aV [iV .u8 b.1,iV .u32 b.2.1,iV .u16 b.2.2]] w (Dc w (.int .i64 (LO.cmp Ca a b))):=by
 refine Ar (M:=[]) (LL:=[]) (n:=22) Tryz.func33 rfl rfl A5 (Mem.refl _) (Ad (fun K1 hK1=>?_))
 refine Aa (Ai rfl (Bx [iV .u8 a.1,iV .u32 a.2.1,iV .u16 a.2.2] rfl) (fun p2=>?_))
 refine Ai rfl (Bx [iV .u8 b.1,iV .u32 b.2.1,iV .u16 b.2.2] rfl) (fun p3=>Ab 1 (Ac (hK1 _ _ _ (Ad (fun K3 hK3=>?_)))))
 refine Dh [(0,true),(1,true),(2,true),(3,true),(5,true),(6,true),(7,true),(8,true),(10,true),(11,true),(12,true),(13,true),(4,false),(9,false),(14,false),(15,false),(16,false),(17,false)] [0,1,2,3,5,6,7,8,10,11,12,13] (Ay 1 (Wd.ys rfl rfl rfl (An p2 0 1 0 Tryz.isAgg5) (Ay 1 (Wd.ys rfl rfl rfl (An p3 0 0 0 Tryz.isAgg5) ?_))))
 refine Ay 1 (Wd.ys rfl rfl rfl (An p2 1 1 0 Tryz.isAgg24) (Ay 1 (Wd.ys rfl rfl rfl (An p3 1 0 0 Tryz.isAgg24) (Ay 1 ?_))))
 refine Wd.ys rfl rfl rfl (An p2 2 1 0 Tryz.isAgg22) (Ay 1 (Wd.ys rfl rfl rfl (An p3 2 0 0 Tryz.isAgg22) (Wd.yc (v:=iV .i64 (LO.cmp LO.int a.1 b.1)) rfl rfl rfl (A9 (fun w_ hm_=>(Wg a.1 b.1 _))) (.inr fun _ h_=>h_) (Wd.yc (v:=iV .i64 (LO.cmp LO.int a.2.1 b.2.1)) rfl rfl rfl (A9 (fun w_ hm_=>(O0 a.2.1 b.2.1 _))) (.inr fun _ h_=>h_) ?_))))
 refine Wd.yc (v:=iV .i64 (LO.cmp LO.int a.2.2 b.2.2)) rfl rfl rfl (A9 (fun w_ hm_=>(Oz a.2.2 b.2.2 _))) (.inr fun _ h_=>h_) (B8 rfl rfl (Bd (mk:=fun b_=>.slice (some ⟨b_,0,none⟩) 3 3) (t:=3) (cs:=[iV .i64 (LO.cmp LO.int a.1 b.1),iV .i64 (LO.cmp LO.int a.2.1 b.2.1),iV .i64 (LO.cmp LO.int a.2.2 b.2.2)]) rfl (fun _=>kr)) (.inr fun _ _ h_=>h_.pick [1,2] Al rfl) (fun p20=>?_))
 refine Wd.yc (v:=iV .i64 (Nu [LO.cmp LO.int a.1 b.1,LO.cmp LO.int a.2.1 b.2.1,LO.cmp LO.int a.2.2 b.2.2])) rfl rfl rfl (A9 (fun w_ hm_=>(Ak5 (LO.cmp LO.int a.1 b.1) (LO.cmp LO.int a.2.1 b.2.1) (LO.cmp LO.int a.2.2 b.2.2) (some ⟨p20,0,none⟩) 3 _ (Az (i:=0) (j:=0) (t:=3) (b:=p20) hm_ rfl rfl)))) (.inr fun _ h_=>h_.pick [1,2] Al rfl) (Wd.yc (v:=iV .i64 (Nu [LO.cmp LO.int a.1 b.1,LO.cmp LO.int a.2.1 b.2.1,LO.cmp LO.int a.2.2 b.2.2])) rfl rfl rfl (Ys.yc (Ys.p)) (.inl Ae) (A7 (hK3 _ _ _ (Ap [] Al rfl ?_))))
 refine Aq (fn:=Tryz.f33) rfl (fun w_ hS_=>Bb rfl (Aw (iV .i64 (Nu [LO.cmp LO.int a.1 b.1,LO.cmp LO.int a.2.1 b.2.1,LO.cmp LO.int a.2.2 b.2.2]))) hS_ ⟨by clear hK1 hK3;refine congrArg Ending.returned ?_;rw[orE],hS_.below⟩)
theorem Ahn(a b:Int×Int×Int×Int×Int)(w:World):Calls Tryz.prog 31 #[aV [iV .u8 a.1,iV .u32 a.2.1,iV .u32 a.2.2.1,iV .u16 a.2.2.2.1,iV .u16 a.2.2.2.2],aV [iV .u8 b.1,iV .u32 b.2.1,iV .u32 b.2.2.1,iV .u16 b.2.2.2.1,iV .u16 b.2.2.2.2]] w (Dc w (.int .i64 (LO.cmp ordF a b))):=by
 refine Ar (M:=[]) (LL:=[]) (n:=32) Tryz.func31 rfl rfl A5 (Mem.refl _) (Ad (fun K1 hK1=>?_))
 refine Aa (Ai rfl (Bx [iV .u8 a.1,iV .u32 a.2.1,iV .u32 a.2.2.1,iV .u16 a.2.2.2.1,iV .u16 a.2.2.2.2] rfl) (fun p2=>?_))
 refine Ai rfl (Bx [iV .u8 b.1,iV .u32 b.2.1,iV .u32 b.2.2.1,iV .u16 b.2.2.2.1,iV .u16 b.2.2.2.2] rfl) (fun p3=>Ab 1 (Ac (hK1 _ _ _ (Ad (fun K3 hK3=>?_)))))
 refine Dh [(0,true),(1,true),(2,true),(3,true),(5,true),(6,true),(7,true),(8,true),(10,true),(11,true),(12,true),(13,true),(15,true),(16,true),(17,true),(18,true),(20,true),(21,true),(22,true),(23,true),(4,false),(9,false),(14,false),(19,false),(24,false),(25,false),(26,false),(27,false)] [0,1,2,3,5,6,7,8,10,11,12,13,15,16,17,18,20,21,22,23] (Ay 1 (Wd.ys rfl rfl rfl (An p2 0 1 0 Tryz.isAgg5) (Ay 1 (Wd.ys rfl rfl rfl (An p3 0 0 0 Tryz.isAgg5) ?_))))
 refine Ay 1 (Wd.ys rfl rfl rfl (An p2 1 1 0 Tryz.isAgg24) (Ay 1 (Wd.ys rfl rfl rfl (An p3 1 0 0 Tryz.isAgg24) (Ay 1 ?_))))
 refine Wd.ys rfl rfl rfl (An p2 3 1 0 Tryz.isAgg22) (Ay 1 (Wd.ys rfl rfl rfl (An p3 3 0 0 Tryz.isAgg22) (Ay 1 (Wd.ys rfl rfl rfl (An p2 2 1 0 Tryz.isAgg24) ?_))))
 refine Ay 1 (Wd.ys rfl rfl rfl (An p3 2 0 0 Tryz.isAgg24) (Ay 1 (Wd.ys rfl rfl rfl (An p2 4 1 0 Tryz.isAgg22) (Ay 1 ?_))))
 refine Wd.ys rfl rfl rfl (An p3 4 0 0 Tryz.isAgg22) (Wd.yc (v:=iV .i64 (LO.cmp LO.int a.1 b.1)) rfl rfl rfl (A9 (fun w_ hm_=>(Wg a.1 b.1 _))) (.inr fun _ h_=>h_) (Wd.yc (v:=iV .i64 (LO.cmp LO.int a.2.1 b.2.1)) rfl rfl rfl (A9 (fun w_ hm_=>(O0 a.2.1 b.2.1 _))) (.inr fun _ h_=>h_) (Wd.yc (v:=iV .i64 (LO.cmp LO.int a.2.2.2.1 b.2.2.2.1)) rfl rfl rfl (A9 (fun w_ hm_=>(Oz a.2.2.2.1 b.2.2.2.1 _))) (.inr fun _ h_=>h_) (Wd.yc (v:=iV .i64 (LO.cmp LO.int a.2.2.1 b.2.2.1)) rfl rfl rfl (A9 (fun w_ hm_=>(O0 a.2.2.1 b.2.2.1 _))) (.inr fun _ h_=>h_) ?_))))
 refine Wd.yc (v:=iV .i64 (LO.cmp LO.int a.2.2.2.2 b.2.2.2.2)) rfl rfl rfl (A9 (fun w_ hm_=>(Oz a.2.2.2.2 b.2.2.2.2 _))) (.inr fun _ h_=>h_) (B8 rfl rfl (Bd (mk:=fun b_=>.slice (some ⟨b_,0,none⟩) 5 5) (t:=3) (cs:=[iV .i64 (LO.cmp LO.int a.1 b.1),iV .i64 (LO.cmp LO.int a.2.1 b.2.1),iV .i64 (LO.cmp LO.int a.2.2.2.1 b.2.2.2.1),iV .i64 (LO.cmp LO.int a.2.2.1 b.2.2.1),iV .i64 (LO.cmp LO.int a.2.2.2.2 b.2.2.2.2)]) rfl (fun _=>kr)) (.inr fun _ _ h_=>h_.pick [1,2] Al rfl) (fun p30=>?_))
 refine Wd.yc (v:=iV .i64 (Nu [LO.cmp LO.int a.1 b.1,LO.cmp LO.int a.2.1 b.2.1,LO.cmp LO.int a.2.2.2.1 b.2.2.2.1,LO.cmp LO.int a.2.2.1 b.2.2.1,LO.cmp LO.int a.2.2.2.2 b.2.2.2.2])) rfl rfl rfl (A9 (fun w_ hm_=>(Ak6 (LO.cmp LO.int a.1 b.1) (LO.cmp LO.int a.2.1 b.2.1) (LO.cmp LO.int a.2.2.2.1 b.2.2.2.1) (LO.cmp LO.int a.2.2.1 b.2.2.1) (LO.cmp LO.int a.2.2.2.2 b.2.2.2.2) (some ⟨p30,0,none⟩) 5 _ (Az (i:=0) (j:=0) (t:=3) (b:=p30) hm_ rfl rfl)))) (.inr fun _ h_=>h_.pick [1,2] Al rfl) (Wd.yc (v:=iV .i64 (Nu [LO.cmp LO.int a.1 b.1,LO.cmp LO.int a.2.1 b.2.1,LO.cmp LO.int a.2.2.2.1 b.2.2.2.1,LO.cmp LO.int a.2.2.1 b.2.2.1,LO.cmp LO.int a.2.2.2.2 b.2.2.2.2])) rfl rfl rfl (Ys.yc (Ys.p)) (.inl Ae) (A7 (hK3 _ _ _ (Ap [] Al rfl ?_))))
 refine Aq (fn:=Tryz.f31) rfl (fun w_ hS_=>Bb rfl (Aw (iV .i64 (Nu [LO.cmp LO.int a.1 b.1,LO.cmp LO.int a.2.1 b.2.1,LO.cmp LO.int a.2.2.2.1 b.2.2.2.1,LO.cmp LO.int a.2.2.1 b.2.2.1,LO.cmp LO.int a.2.2.2.2 b.2.2.2.2]))) hS_ ⟨by clear hK1 hK3;refine congrArg Ending.returned ?_;rw[orF],hS_.below⟩)
abbrev Q0(k:Int×Int×Int×Int×Int):List Value:=[iV .u8 k.1,iV .u32 k.2.1,iV .u32 k.2.2.1,iV .u16 k.2.2.2.1,iV .u16 k.2.2.2.2]
abbrev Q1(x:(Int×Int×Int×Int×Int)×(Option Nat)):List Value:=[iV .u8 x.1.1,iV .u32 x.1.2.1,iV .u32 x.1.2.2.1,iV .u16 x.1.2.2.2.1,iV .u16 x.1.2.2.2.2,pL (Cs x.2)]
theorem Wh(x:(Int×Int×Int×Int×Int)×(Option Nat))(k:Int×Int×Int×Int×Int)(a:Option Addr)(n cap:Nat)(most:Int)(tb pt:Nat)(w:World)(hpt:At w (some ⟨pt,0,none⟩) [pL (some ⟨tb,0,none⟩)])(htb:At w (some ⟨tb,0,none⟩) [sL a n cap,Value.int .i64 most,Value.func (.func 31) #[] #[]]):Calls Tryz.prog 161 #[aV [iV .u8 x.1.1,iV .u32 x.1.2.1,iV .u32 x.1.2.2.1,iV .u16 x.1.2.2.2.1,iV .u16 x.1.2.2.2.2,pL (Cs x.2)],aV [iV .u8 k.1,iV .u32 k.2.1,iV .u32 k.2.2.1,iV .u16 k.2.2.2.1,iV .u16 k.2.2.2.2],pV pt 0] w (Dc w (.int .i64 (LO.cmp ordF x.1 k))):=by
 refine Ar (M:=[]) (LL:=[]) (n:=14) Tryz.func161 rfl rfl A5 (Mem.refl _) (Ad (fun K1 hK1=>?_))
 refine Aa (Ai rfl (Bx (Q1 x) rfl) (fun p3=>?_))
 refine Ai rfl (Bx (Q0 k) rfl) (fun p4=>Ab 1 (Ac (hK1 _ _ _ (Ad (fun K3 hK3=>?_)))))
 refine Dh [(0,true),(1,true),(2,true),(3,true),(4,true),(5,true),(6,false),(7,false),(8,false)] [0,1,2,3,4,5] (Wd.ys rfl rfl rfl (Ys.ld (a:=⟨pt,0,none⟩) rfl Ae Tryz.isAgg85 (fun w_ h_=>by have x_:=(hpt.mem0 h_).ld (q:=0) (v:=pV tb 0) rfl;rw[Br]at x_;exact x_)) (Ay 2 (Wd.ys rfl rfl rfl (Ys.ld (a:=⟨tb,2,none⟩) rfl Ae Tryz.isAgg94 (fun w_ h_=>by have x_:=(htb.mem0 h_).ld (q:=2) (v:=Value.func (.func 31) #[] #[]) rfl;rw[Br]at x_;exact x_)) (Ay 1 ?_))))
 refine Wd.ys rfl rfl rfl (A0 p3 0 1 0 [iV .u8 x.1.1,iV .u32 x.1.2.1,iV .u32 x.1.2.2.1,iV .u16 x.1.2.2.2.1,iV .u16 x.1.2.2.2.2] Tryz.isAgg47 Tryz.sizeOf47) (Wd.yc (v:=aV (Q0 k)) rfl rfl rfl (Ys.yc (A0 p4 0 0 0 (Q0 k) Tryz.isAgg47 Tryz.sizeOf47)) (.inr fun _ h_=>h_) (Wd.yc (v:=iV .i64 (LO.cmp ordF x.1 k)) rfl rfl rfl (A9 (fun w_ hm_=>(Ahn x.1 k _))) (.inr fun _ h_=>h_) (Wd.yc (v:=iV .i64 (LO.cmp ordF x.1 k)) rfl rfl rfl (Ys.yc (Ys.p)) (.inl Ae) (A7 ?_))))
 refine hK3 _ _ _ (Ap [] Al rfl (Aq (fn:=Tryz.f161) rfl (fun w_ hS_=>Bb rfl (Aw (iV .i64 (LO.cmp ordF x.1 k))) hS_ ⟨rfl,hS_.below⟩)))
theorem Ak7{xs:List ((Int×Int×Int×Int×Int)×(Option Nat))}{k:Int×Int×Int×Int×Int}(hs:Fn ordF xs):((decide (((Be ordF xs k:Nat):Int)<(xs.length:Int)))&&((LO.cmp ordF (xs.getD (Be ordF xs k) dS).1 k)==0))=Bl xs k:=by
  rw[←Jf dS hs]
  congr 1
  · exact decide_eq_decide.2 Ag
  · rw[Bool.eq_iff_iff,beq_iff_eq,decide_eq_true_eq];exact LO.cmp_eq _
abbrev Q2(k:Int×Int×Int×Int×Int):List Value:=[iV .u8 k.1,iV .u32 k.2.1,iV .u32 k.2.2.1,iV .u16 k.2.2.2.1,iV .u16 k.2.2.2.2]
theorem Ak8(xs:List ((Int×Int×Int×Int×Int)×(Option Nat)))(a:Option Addr)(cap:Nat)(most:Int)(tb:Nat)(pt:Nat)(k:Int×Int×Int×Int×Int)(w:World)(hpt:At w (some ⟨pt,0,none⟩) [pL (some ⟨tb,0,none⟩)])(htb:At w (some ⟨tb,0,none⟩) [sL a xs.length cap,Value.int .i64 most,Value.func (.func 31) #[] #[]])(hls:At w a (mm Fo xs))(hn:xs.length≤100000)(hs:Fn ordF xs):Calls Tryz.prog 160 #[sL a xs.length cap,aV [iV .u8 k.1,iV .u32 k.2.1,iV .u32 k.2.2.1,iV .u16 k.2.2.2.1,iV .u16 k.2.2.2.2],Value.func (.func 161) #[] #[pV pt 0]] w (Dc w (Value.tuple #[nV .i64 (Be ordF xs k),bV (Bl xs k)])):=by
 refine Ar (M:=[]) (LL:=[]) (n:=49) Tryz.func160 rfl rfl A5 (Mem.refl _) (Ad (fun K1 hK1=>?_))
 refine Aa (Ai rfl (Bx (Q2 k) rfl) (fun p4=>?_))
 refine Ab 2 (Ac (hK1 _ _ _ (Ad (fun K3 hK3=>Aa ?_))))
 refine Ab 3 (Ac (hK3 _ _ _ (Ad (fun K5 hK5=>Aa ?_))))
 refine Ab 3 (Ac (hK5 _ _ _ (Ad (fun K7 hK7=>W.block ?_))))
 refine E6 [0,2,4,8,9,10] (fun(i:Nat) (j:Nat)=>[sL a xs.length cap,Value.func (.func 161) #[] #[pV pt 0],pV p4 0,nV .i64 xs.length,nV .i64 i,nV .i64 j]) (fun(i:Nat) (j:Nat)=>i≤Be ordF xs k∧Be ordF xs k≤j∧j≤xs.length) (fun(i:Nat) (j:Nat)=>[[cb p4 (Q2 k) 47]]) (fun(i:Nat) (j:Nat)=>j-i) 0 xs.length Ae ⟨(Nat.zero_le _),F8,(Nat.le_refl _)⟩ (by rfl) (fun i j f9 J8 hp10 hJ8=>?_)
 obtain⟨hi,hj,hjn⟩:=hp10
 refine Ad (fun K11 hK11=>Ad (fun K12 hK12=>?_))
 refine Aa (Ab 3 (Ac (hK12 _ _ _ ?_)))
 refine Ao (decide (((i:Nat):Int)<(j:Int))) Ae (fun h14=>?_) (fun h15=>?_)
 ·have qh14:=h14;try simp only[zA]at qh14
  refine Ak (hK11 _ _ _ (W.block (Ad (fun K17 hK17=>Aa ?_))))
  refine Ab 2 (Ah (v:=nV .i64 (i+j)) ((Ys.p (v:=.int .i64 (Bt .i64 (i:Int) (j:Int)))).conseq (Af (A6 Ag Ag Ag))) (Ah (v:=nV .u64 (i+j)) ((Ys.p (v:=.int .u64 (Cg .u64 ((i+j:Nat):Int)))).conseq (Af (Cc Ag Ag))) (Ah (v:=nV .u64 ((i+j)/2)) ((Ys.p (v:=.int .u64 (Jd .u64 ((i+j:Nat):Int) ((1:Nat):Int)))).conseq (Af (El (i+j) 1 Al))) (Ah (v:=nV .i64 ((i+j)/2)) ((Ys.p (v:=.int .i64 (Cg .i64 (((i+j)/2:Nat):Int)))).conseq (Af (Cz Ag Ag))) ?_))))
  refine Ab 1 (Ac (hK17 _ _ _ (Ad (fun K19 hK19=>Dh [(0,true),(1,true),(2,true),(3,true),(4,true),(5,false),(6,false),(7,false)] [0,1,2,3,4] ?_))))
  refine Ay 3 (Wd.ys (v:=Value.pointer (some (Co a (((i+j)/2)*6)))) rfl rfl rfl (Bm fun w_ h_=>Av (k:=.i64) (a:=a) (len:=xs.length) (cap:=cap) (i:=(((i+j)/2:Nat):Int)) (sz:=6) rfl Ae Ae Tryz.runUnderlying151 Tryz.sizeOf173 Ag Ag ((hls.mem0 h_).here (by rw[B6 (g:=Fo) (sz:=6) (fun _=>rfl)];first|omega|(simp;omega)))) (Wd.ys (v:=aV [iV .u8 (((xs.getD ((i+j)/2) dS).1).1),iV .u32 (((xs.getD ((i+j)/2) dS).1).2.1),iV .u32 (((xs.getD ((i+j)/2) dS).1).2.2.1),iV .u16 (((xs.getD ((i+j)/2) dS).1).2.2.2.1),iV .u16 (((xs.getD ((i+j)/2) dS).1).2.2.2.2),Value.pointer (Cs ((xs.getD ((i+j)/2) dS).2))]) rfl rfl rfl (Ys.ldN (a:=Co a (((i+j)/2)*6)) (vs:=[iV .u8 (((xs.getD ((i+j)/2) dS).1).1),iV .u32 (((xs.getD ((i+j)/2) dS).1).2.1),iV .u32 (((xs.getD ((i+j)/2) dS).1).2.2.1),iV .u16 (((xs.getD ((i+j)/2) dS).1).2.2.2.1),iV .u16 (((xs.getD ((i+j)/2) dS).1).2.2.2.2),Value.pointer (Cs ((xs.getD ((i+j)/2) dS).2))]) rfl Ae Tryz.isAgg173 Tryz.sizeOf173 rfl (fun w_ h_=>(hls.mem0 h_).ldN (Ei (g:=Fo) (sz:=6) (fun _=>rfl) dS (xs:=xs) (k:=(i+j)/2) Ag))) (Wd.yc (v:=aV (Q2 k)) rfl rfl rfl (Ys.yc (A0 p4 0 0 0 (Q2 k) Tryz.isAgg47 Tryz.sizeOf47)) (.inr fun _ h_=>h_) (Wd.yc (v:=iV .i64 (LO.cmp ordF ((xs.getD ((i+j)/2) dS).1) k)) rfl rfl rfl (A9 (fun w_ hm_=>(Wh (((xs.getD ((i+j)/2) dS).1),((xs.getD ((i+j)/2) dS).2)) k a xs.length cap most tb pt _ (hpt.mem0 hm_) (htb.mem0 hm_)))) (.inr fun _ h_=>h_) ?_))))
  refine Wd.yc (v:=bV (decide ((LO.cmp ordF ((xs.getD ((i+j)/2) dS).1) k)<0))) rfl rfl rfl (Ys.yc (Ys.p)) (.inr fun _ h_=>h_) (A7 (hK19 _ _ _ ?_))
  refine Ao (decide ((LO.cmp ordF ((xs.getD ((i+j)/2) dS).1) k)<0)) Ae (fun h21=>?_) (fun h22=>?_)
  ·have qh21:=h21;try simp only[zA]at qh21
   refine Aa (Ab 1 (Ah (v:=nV .i64 (((i+j)/2)+1)) ((Ys.p (v:=.int .i64 (Bt .i64 (((i+j)/2:Nat):Int) 1))).conseq (Af (A6 Ag Ag Ag))) (Ab 1 (Ac ?_))))
   have hps_:=F1 dS (k:=k) hs (h:=(i+j)/2) Ag
   have hpl_:=hps_.1 (G3 _|>.1 qh21)
   refine fun w_ h_=>hJ8 ((i+j)/2+1) j _ w_ Ag ⟨Ag,Ag,Ag⟩ ?_ h_
   kernel_rfl
  ·have qh22:=h22;try simp only[zA]at qh22
   refine Aa (Ab 2 (Ac ?_))
   have hps_:=F1 dS (k:=k) hs (h:=(i+j)/2) Ag
   have hpl_: ¬((i+j)/2<Be ordF xs k):=fun h_=>qh22 (G3 _|>.2 (hps_.2 h_))
   refine fun w_ h_=>hJ8 i ((i+j)/2) _ w_ Ag ⟨Ag,Ag,Ag⟩ ?_ h_
   kernel_rfl
 ·have qh15:=h15;try simp only[zA]at qh15
  refine Cr (hK7 _ _ _ (Ad (fun K24 hK24=>Dh [(0,true),(1,true),(2,false),(3,false),(4,false),(5,true),(6,true),(7,true),(8,true),(9,true),(10,false),(11,false),(12,true),(13,true),(14,false),(15,false)] [0,1,5,6,7,8,9,12,13] (Ay 2 ?_))))
  refine Wd.yc (v:=nV .i64 xs.length) rfl rfl rfl (Ys.yc (Ys.p)) (.inr fun _ h_=>h_) (Wd.yc (v:=bV (decide (((i:Nat):Int)<(xs.length:Int)))) rfl rfl rfl (Ys.yc (Ys.p)) (.inr fun _ h_=>h_) (Wd.yc (v:=bV (decide (((i:Nat):Int)<(xs.length:Int)))) rfl rfl rfl (Ys.yc (Ys.p)) (.inr fun _ h_=>h_) ?_))
  refine Bs (v:=Value.func (.func 161) #[] #[pV pt 0]) (decide (((i:Nat):Int)<(xs.length:Int))) rfl (Bi rfl Ae) rfl (fun hg25=>?_) ?_
  ·exact Ys.p
  refine Bs (v:=sL a xs.length cap) (decide (((i:Nat):Int)<(xs.length:Int))) rfl (Bi rfl Ae) rfl (fun hg26=>?_) ?_
  ·exact Ys.p
  refine Bs (v:=nV .i64 i) (decide (((i:Nat):Int)<(xs.length:Int))) rfl (Bi rfl Ae) rfl (fun hg27=>?_) ?_
  ·exact Ys.p
  refine Bs (v:=pL (some (Co a (i*6)))) (decide (((i:Nat):Int)<(xs.length:Int))) rfl (Bi rfl Ae) rfl (fun hg28=>?_) ?_
  ·have qhg28:=hg28;try simp only[zA]at qhg28
   refine Bh (t:=41) (v0:=sL a xs.length cap) (lz (g:=decide (((i:Nat):Int)<(xs.length:Int))) (u:=undef) hg28 Ae) (Bh (t:=42) (v0:=nV .i64 i) (lz (g:=decide (((i:Nat):Int)<(xs.length:Int))) (u:=undef) hg28 Ae) ?_)
   exact Bm fun w_ h_=>Av (k:=.i64) (a:=a) (len:=xs.length) (cap:=cap) (i:=(i:Int)) (sz:=6) rfl Ae Ae Tryz.runUnderlying151 Tryz.sizeOf173 Ag Ag ((hls.mem0 h_).here (by rw[B6 (g:=Fo) (sz:=6) (fun _=>rfl)];first|omega|(simp;omega)))
  refine Bs (v:=aV [iV .u8 (((xs.getD i dS).1).1),iV .u32 (((xs.getD i dS).1).2.1),iV .u32 (((xs.getD i dS).1).2.2.1),iV .u16 (((xs.getD i dS).1).2.2.2.1),iV .u16 (((xs.getD i dS).1).2.2.2.2),pL (Cs ((xs.getD i dS).2))]) (decide (((i:Nat):Int)<(xs.length:Int))) rfl (Bi rfl Ae) rfl (fun hg29=>?_) ?_
  ·have qhg29:=hg29;try simp only[zA]at qhg29
   refine Bh (t:=43) (v0:=pL (some (Co a (i*6)))) (lz (g:=decide (((i:Nat):Int)<(xs.length:Int))) (u:=undef) hg29 Ae) ?_
   exact Ys.ldN (a:=Co a (i*6)) (vs:=[iV .u8 (((xs.getD i dS).1).1),iV .u32 (((xs.getD i dS).1).2.1),iV .u32 (((xs.getD i dS).1).2.2.1),iV .u16 (((xs.getD i dS).1).2.2.2.1),iV .u16 (((xs.getD i dS).1).2.2.2.2),pL (Cs ((xs.getD i dS).2))]) rfl Ae Tryz.isAgg173 Tryz.sizeOf173 rfl (fun w_ h_=>(hls.mem0 h_).ldN (Ei (g:=Fo) (sz:=6) (fun _=>rfl) dS (xs:=xs) (k:=i) Ag))
  refine Cx (v:=aV (Q2 k)) (decide (((i:Nat):Int)<(xs.length:Int))) rfl (Bi rfl Ae) rfl (fun hg30=>?_) (.inr fun _ h_=>h_) ?_
  ·refine Ys.yc ?_
   exact A0 p4 0 0 0 (Q2 k) Tryz.isAgg47 Tryz.sizeOf47
  refine Cx (v:=iV .i64 (LO.cmp ordF ((xs.getD i dS).1) k)) (decide (((i:Nat):Int)<(xs.length:Int))) rfl (Bi rfl Ae) rfl (fun hg31=>?_) (.inr fun _ h_=>h_) ?_
  ·have qhg31:=hg31;try simp only[zA]at qhg31
   refine Eh (t:=40) (v0:=Value.func (.func 161) #[] #[pV pt 0]) (lz (g:=decide (((i:Nat):Int)<(xs.length:Int))) (u:=undef) hg31 Ae) (Eh (t:=44) (v0:=aV [iV .u8 (((xs.getD i dS).1).1),iV .u32 (((xs.getD i dS).1).2.1),iV .u32 (((xs.getD i dS).1).2.2.1),iV .u16 (((xs.getD i dS).1).2.2.2.1),iV .u16 (((xs.getD i dS).1).2.2.2.2),pL (Cs ((xs.getD i dS).2))]) (lz (g:=decide (((i:Nat):Int)<(xs.length:Int))) (u:=undef) hg31 Ae) (Eh (t:=45) (v0:=aV (Q2 k)) (lz (g:=decide (((i:Nat):Int)<(xs.length:Int))) (u:=undef) hg31 Ae) ?_))
   exact A9 (fun w_ hm_=>(Wh (((xs.getD i dS).1),((xs.getD i dS).2)) k a xs.length cap most tb pt _ (hpt.mem0 hm_) (htb.mem0 hm_)))
  refine Bs (v:=bV ((LO.cmp ordF ((xs.getD i dS).1) k)==0)) (decide (((i:Nat):Int)<(xs.length:Int))) rfl (Bi rfl Ae) rfl (fun hg32=>?_) ?_
  ·have qhg32:=hg32;try simp only[zA]at qhg32
   refine Bh (t:=46) (v0:=iV .i64 (LO.cmp ordF ((xs.getD i dS).1) k)) (lz (g:=decide (((i:Nat):Int)<(xs.length:Int))) (u:=undef) hg32 Ae) ?_
   exact Ys.p
  refine Wd.ys (v:=bV ((decide (((i:Nat):Int)<(xs.length:Int)))&&((LO.cmp ordF ((xs.getD i dS).1) k)==0))) rfl rfl rfl (D0 (e:=decide (((i:Nat):Int)<(xs.length:Int))) (b:=(LO.cmp ordF ((xs.getD i dS).1) k)==0) rfl Ae Ae Ae) (Wd.yc (v:=nV .i64 i) rfl rfl rfl (Ys.yc (Ys.p)) (.inr fun _ h_=>h_) (Wd.yc (v:=bV ((decide (((i:Nat):Int)<(xs.length:Int)))&&((LO.cmp ordF ((xs.getD i dS).1) k)==0))) rfl rfl rfl (Ys.yc (Ys.p)) (.inl Ae) (A7 (hK24 _ _ _ ?_))))
  refine Ap [] Al rfl (Aq (fn:=Tryz.f160) rfl ?_)
  have hip_:i=Be ordF xs k:=by omega
  exact fun w_ hS_=>B9 rfl (Aw (nV .i64 i)) (Aw (bV ((decide (((i:Nat):Int)<(xs.length:Int)))&&((LO.cmp ordF ((xs.getD i dS).1) k)==0)))) hS_ ⟨by clear hK1 hK3 hK5 hK7 hJ8 hK11 hK12 hK24;refine congrArg Ending.returned ?_;rw[hip_];refine congrArg (fun b=>Value.tuple #[_,.bool b]) ?_;exact Ak7 hs,hS_.below⟩
abbrev Q3(k:Int×Int×Int×Int×Int):List Value:=[iV .u8 k.1,iV .u32 k.2.1,iV .u32 k.2.2.1,iV .u16 k.2.2.2.1,iV .u16 k.2.2.2.2]
theorem R4(xs:List ((Int×Int×Int×Int×Int)×(Option Nat)))(a:Option Addr)(cap:Nat)(most:Int)(tb:Nat)(k:Int×Int×Int×Int×Int)(w:World)(htb:At w (some ⟨tb,0,none⟩) [sL a xs.length cap,Value.int .i64 most,Value.func (.func 31) #[] #[]])(hls:At w a (mm Fo xs))(hn:xs.length≤100000)(hs:Fn ordF xs):Calls Tryz.prog 109 #[pV tb 0,aV [iV .u8 k.1,iV .u32 k.2.1,iV .u32 k.2.2.1,iV .u16 k.2.2.2.1,iV .u16 k.2.2.2.2]] w (Dc w (Value.tuple #[nV .i64 (Be ordF xs k),bV (Bl xs k)])):=by
 refine Ar (M:=[]) (LL:=[]) (n:=15) Tryz.func109 rfl rfl A5 (Mem.refl _) (Ad (fun K1 hK1=>?_))
 refine Aa (Ai rfl (Fl (v:=pV tb 0) (cs:=[pV tb 0]) rfl rfl Ae rfl) (fun p2=>?_))
 refine Ai rfl (Bx (Q3 k) rfl) (fun p3=>Ab 2 (Ac (hK1 _ _ _ (Ad (fun K3 hK3=>?_)))))
 refine Dh [(0,true),(1,true),(2,true),(3,true),(4,true),(5,false),(6,false),(7,true),(8,false),(9,false),(10,false)] [0,1,2,3,4,7] (Wd.ys rfl rfl rfl (An p2 0 1 0 Tryz.isAgg85) (Ay 2 (Wd.ys rfl rfl rfl (Ys.ld (a:=⟨tb,0,none⟩) rfl Ae Tryz.isAgg151 (fun w_ h_=>by have x_:=(htb.mem0 h_).ld (q:=0) (v:=sL a xs.length cap) rfl;rw[Br]at x_;exact x_)) (Wd.ys rfl rfl rfl (A0 p3 0 0 0 (Q3 k) Tryz.isAgg47 Tryz.sizeOf47) ?_))))
 refine Wd.yc (v:=Value.func (.func 161) #[] #[pV p2 0]) rfl rfl rfl (Ys.yc (Ys.p)) (.inr fun _ h_=>h_) (Wd.yc (v:=Value.tuple #[nV .i64 (Be ordF xs k),bV (Bl xs k)]) rfl rfl rfl (A9 (fun w_ hm_=>(Ak8 xs a cap most tb p2 k _ (Az (i:=1) (j:=0) (t:=85) (b:=p2) hm_ rfl rfl) (htb.mem0 hm_) (hls.mem0 hm_) Fb hs))) (.inr fun _ h_=>h_) (Ay 1 (Wd.yc (v:=bV (Bl xs k)) rfl rfl rfl (Ys.yc (Ys.p)) (.inr fun _ h_=>h_) (Wd.yc (v:=nV .i64 (Be ordF xs k)) rfl rfl rfl (Ys.yc (Ys.p)) (.inl Ae) ?_))))
 refine Wd.yc (v:=bV (Bl xs k)) rfl rfl rfl (Ys.yc (Ys.p)) (.inl Ae) (A7 (hK3 _ _ _ (Ap [] Al rfl (Aq (fn:=Tryz.f109) rfl (fun w_ hS_=>B9 rfl (Aw (nV .i64 (Be ordF xs k))) (Aw (bV (Bl xs k))) hS_ ⟨rfl,hS_.below⟩)))))
theorem Z1(xs:List ((Int×Int×Int×Int×Int)×(Option Nat)))(a:Option Addr)(cap:Nat)(most:Int)(tb:Nat)(w:World)(htb:At w (some ⟨tb,0,none⟩) [sL a xs.length cap,Value.int .i64 most,Value.func (.func 31) #[] #[]])(hls:At w a (mm Fo xs))(hn:xs.length≤100000)(hs:Fn ordF xs):Calls Tryz.prog 55 #[pV tb 0] w (Dc w (nV .i64 xs.length)):=by
 refine Ar (M:=[]) (LL:=[]) (n:=8) Tryz.func55 rfl rfl A5 (Mem.refl _) (Ad (fun K1 hK1=>?_))
 refine Aa (Ab 1 (Ac (hK1 _ _ _ (Ad (fun K2 hK2=>?_)))))
 refine Aa (Ab 3 (Ah (Ys.ld (a:=⟨tb,0,none⟩) rfl Ae Tryz.isAgg151 (fun w_ h_=>by have x_:=(htb.mem0 h_).ld (q:=0) (v:=sL a xs.length cap) rfl;rw[Br]at x_;exact x_)) (Ab 2 (Ac ?_))))
 refine hK2 _ _ _ (Aq (fn:=Tryz.f55) rfl (fun w_ hS_=>Bb rfl (Aw (nV .i64 xs.length)) hS_ ⟨rfl,hS_.below⟩))
theorem Adq(xs:List ((Int×Int×Int×Int×Int)×(Option Nat)))(a:Option Addr)(cap:Nat)(most:Int)(tb:Nat)(w:World)(htb:At w (some ⟨tb,0,none⟩) [sL a xs.length cap,Value.int .i64 most,Value.func (.func 31) #[] #[]])(hls:At w a (mm Fo xs))(hn:xs.length≤100000)(hs:Fn ordF xs):Calls Tryz.prog 100 #[pV tb 0] w (Dc w (iV .i64 most)):=by
 refine Ar (M:=[]) (LL:=[]) (n:=7) Tryz.func100 rfl rfl A5 (Mem.refl _) (Ad (fun K1 hK1=>?_))
 refine Aa (Ab 1 (Ac (hK1 _ _ _ (Ad (fun K2 hK2=>?_)))))
 refine Aa (Ab 3 (Ah (Ys.ld (a:=⟨tb,1,none⟩) rfl Ae Tryz.isAgg3 (fun w_ h_=>by have x_:=(htb.mem0 h_).ld (q:=1) (v:=iV .i64 most) rfl;rw[Br]at x_;exact x_)) (Ab 1 (Ac ?_))))
 refine hK2 _ _ _ (Aq (fn:=Tryz.f100) rfl (fun w_ hS_=>Bb rfl (Aw (iV .i64 most)) hS_ ⟨rfl,hS_.below⟩))
theorem U7(xs:List ((Int×Int×Int×Int×Int)×(Option Nat)))(a:Option Addr)(cap:Nat)(most:Int)(tb:Nat)(k:Int×Int×Int×Int×Int)(w:World)(htb:At w (some ⟨tb,0,none⟩) [sL a xs.length cap,Value.int .i64 most,Value.func (.func 31) #[] #[]])(hls:At w a (mm Fo xs))(hn:xs.length≤100000)(hs:Fn ordF xs):Calls Tryz.prog 56 #[pV tb 0,aV [iV .u8 k.1,iV .u32 k.2.1,iV .u32 k.2.2.1,iV .u16 k.2.2.2.1,iV .u16 k.2.2.2.2]] w (Dc w (Value.tuple #[pL (Cs (Bo none xs k)),bV (Bl xs k)])):=by
 refine Ar (M:=[]) (LL:=[]) (n:=24) Tryz.func56 rfl rfl A5 (Mem.refl _) (Ad (fun K1 hK1=>?_))
 refine Aa (Ai rfl (Bx [iV .u8 k.1,iV .u32 k.2.1,iV .u32 k.2.2.1,iV .u16 k.2.2.2.1,iV .u16 k.2.2.2.2] rfl) (fun p3=>?_))
 refine Ab 2 (Ac (hK1 _ _ _ (Ad (fun K3 hK3=>Ad (fun K4 hK4=>?_)))))
 refine Aa (Ab 1 (Ah (A0 p3 0 0 0 [iV .u8 k.1,iV .u32 k.2.1,iV .u32 k.2.2.1,iV .u16 k.2.2.2.1,iV .u16 k.2.2.2.2] Tryz.isAgg47 Tryz.sizeOf47) (B0 (v:=Value.tuple #[nV .i64 (Be ordF xs k),bV (Bl xs k)]) (A9 (fun w_ hm_=>(R4 xs a cap most tb k _ (htb.mem0 hm_) (hls.mem0 hm_) Fb hs))) (Ab 5 ?_))))
 refine Ac (hK4 _ _ _ (Ap [] Al rfl (Ad (fun K6 hK6=>Aa ?_))))
 refine Ab 1 (Ac (hK6 _ _ _ ?_))
 refine Ao (Bl xs k) Ae (fun h7=>?_) (fun h8=>?_)
 ·refine Ad (fun K9 hK9=>?_)
  have hps_:=F9 dS hs h7
  refine Aa (Ab 3 (Ah (Ys.ld (a:=⟨tb,0,none⟩) rfl Ae Tryz.isAgg151 (fun w_ h_=>by have x_:=(htb.mem0 h_).ld (q:=0) (v:=Value.slice a xs.length cap) rfl;rw[Br]at x_;exact x_)) (Ab 1 (Ah (v:=Value.pointer (some (Co a ((Be ordF xs k)*6)))) (Bm fun w_ h_=>Av (k:=.i64) (a:=a) (len:=xs.length) (cap:=cap) (i:=(Be ordF xs k:Int)) (sz:=6) rfl Ae Ae Tryz.runUnderlying151 Tryz.sizeOf173 Ag Ag ((hls.mem0 h_).here (by rw[B6 (g:=Fo) (sz:=6) (fun _=>rfl)];first|omega|(simp;omega)))) ?_))))
  refine Ab 1 (Ah (v:=pL (Cs ((xs.getD (Be ordF xs k) dS).2))) (Ys.ld (a:=(Co a ((Be ordF xs k)*6)).add 5) rfl Ae Tryz.isAgg93 (fun w_ h_=>(hls.mem0 h_).ldF (R2 (g:=Fo) (sz:=6) (fun _=>rfl) dS (xs:=xs) (k:=Be ordF xs k) Ag 5 rfl))) (Ab 2 (Ac (hK9 _ _ _ ?_))))
  refine Aq (fn:=Tryz.f56) rfl (fun w_ hS_=>B9 rfl (Aw (pL (Cs ((xs.getD (Be ordF xs k) dS).2)))) (Aw (bV true)) hS_ ⟨by clear hK1 hK3 hK4 hK6 hK9;refine congrArg Ending.returned ?_;rw[Nt dS hs h7,h7];try rfl,hS_.below⟩)
 ·refine Ak (hK3 _ _ _ (Ad (fun K12 hK12=>Aa (Ab 3 ?_))))
  refine Ac (hK12 _ _ _ (Aq (fn:=Tryz.f56) rfl (fun w_ hS_=>B9 rfl (Aw (pL none)) (Aw (bV false)) hS_ ⟨by clear hK1 hK3 hK4 hK6 hK12;refine congrArg Ending.returned ?_;rw[Is h8,h8];try rfl,hS_.below⟩)))
theorem Aho(most:Int)(w:World):Calls Tryz.prog 30 #[iV .i64 most,Value.func (.func 31) #[] #[]] w (Bj w (fun _:Nat=>True) (fun b=>.pointer (some ⟨b,0,none⟩)) [] (fun b=>[[cb b [sL none 0 0,iV .i64 (D3 most 0),Value.func (.func 31) #[] #[]] 153]])):=by
 refine Ar (M:=[]) (LL:=[]) (n:=10) Tryz.func30 rfl rfl A5 (Mem.refl _) (Ad (fun K1 hK1=>?_))
 refine Aa (Ab 1 (Ac (hK1 _ _ _ (Ad (fun K2 hK2=>?_)))))
 refine Aa (Ab 4 ?_)
 have hm3:=Ik most 0
 refine Ai rfl (Bx [sL none 0 0,iV .i64 (D3 most 0),Value.func (.func 31) #[] #[]] rfl) (fun p9=>Ab 1 (Ac (hK2 _ _ _ (Aq (fn:=Tryz.f30) rfl (fun w_ hS_=>Bb rfl (Aw (pV p9 0)) hS_ ⟨p9,trivial,rfl,(hS_.pick [0] Al rfl)⟩)))))
theorem Wi(x:(Int×Int×Int)×(Lse))(k:Int×Int×Int)(a:Option Addr)(n cap:Nat)(most:Int)(tb pt:Nat)(w:World)(hpt:At w (some ⟨pt,0,none⟩) [pL (some ⟨tb,0,none⟩)])(htb:At w (some ⟨tb,0,none⟩) [sL a n cap,Value.int .i64 most,Value.func (.func 33) #[] #[]]):Calls Tryz.prog 169 #[aV [iV .u8 x.1.1,iV .u32 x.1.2.1,iV .u16 x.1.2.2,iV .u16 x.2.ext,iV .i64 x.2.count],aV [iV .u8 k.1,iV .u32 k.2.1,iV .u16 k.2.2],pV pt 0] w (Dc w (.int .i64 (LO.cmp Ca x.1 k))):=by
 refine Ar (M:=[]) (LL:=[]) (n:=14) Tryz.func169 rfl rfl A5 (Mem.refl _) (Ad (fun K1 hK1=>?_))
 refine Aa (Ai rfl (Bx [iV .u8 x.1.1,iV .u32 x.1.2.1,iV .u16 x.1.2.2,iV .u16 x.2.ext,iV .i64 x.2.count] rfl) (fun p3=>?_))
 refine Ai rfl (Bx [iV .u8 k.1,iV .u32 k.2.1,iV .u16 k.2.2] rfl) (fun p4=>Ab 1 (Ac (hK1 _ _ _ (Ad (fun K3 hK3=>?_)))))
 refine Dh [(0,true),(1,true),(2,true),(3,true),(4,true),(5,true),(6,false),(7,false),(8,false)] [0,1,2,3,4,5] (Wd.ys rfl rfl rfl (Ys.ld (a:=⟨pt,0,none⟩) rfl Ae Tryz.isAgg86 (fun w_ h_=>by have x_:=(hpt.mem0 h_).ld (q:=0) (v:=pV tb 0) rfl;rw[Br]at x_;exact x_)) (Ay 2 (Wd.ys rfl rfl rfl (Ys.ld (a:=⟨tb,2,none⟩) rfl Ae Tryz.isAgg100 (fun w_ h_=>by have x_:=(htb.mem0 h_).ld (q:=2) (v:=Value.func (.func 33) #[] #[]) rfl;rw[Br]at x_;exact x_)) (Ay 1 ?_))))
 refine Wd.ys rfl rfl rfl (A0 p3 0 1 0 [iV .u8 x.1.1,iV .u32 x.1.2.1,iV .u16 x.1.2.2] Tryz.isAgg97 Tryz.sizeOf97) (Wd.yc (v:=aV [iV .u8 k.1,iV .u32 k.2.1,iV .u16 k.2.2]) rfl rfl rfl (Ys.yc (A0 p4 0 0 0 [iV .u8 k.1,iV .u32 k.2.1,iV .u16 k.2.2] Tryz.isAgg97 Tryz.sizeOf97)) (.inr fun _ h_=>h_) (Wd.yc (v:=iV .i64 (LO.cmp Ca x.1 k)) rfl rfl rfl (A9 (fun w_ hm_=>(Ahm x.1 k _))) (.inr fun _ h_=>h_) (Wd.yc (v:=iV .i64 (LO.cmp Ca x.1 k)) rfl rfl rfl (Ys.yc (Ys.p)) (.inl Ae) (A7 ?_))))
 refine hK3 _ _ _ (Ap [] Al rfl (Aq (fn:=Tryz.f169) rfl (fun w_ hS_=>Bb rfl (Aw (iV .i64 (LO.cmp Ca x.1 k))) hS_ ⟨rfl,hS_.below⟩)))
theorem Ak9{xs:List ((Int×Int×Int)×(Lse))}{k:Int×Int×Int}(hs:Fn Ca xs):((decide (((Be Ca xs k:Nat):Int)<(xs.length:Int)))&&((LO.cmp Ca (xs.getD (Be Ca xs k) dD).1 k)==0))=Bl xs k:=by
  rw[←Jf dD hs]
  congr 1
  · exact decide_eq_decide.2 Ag
  · rw[Bool.eq_iff_iff,beq_iff_eq,decide_eq_true_eq];exact LO.cmp_eq _
abbrev Q4(k:Int×Int×Int):List Value:=[iV .u8 k.1,iV .u32 k.2.1,iV .u16 k.2.2]
theorem Ala(xs:List ((Int×Int×Int)×(Lse)))(a:Option Addr)(cap:Nat)(most:Int)(tb:Nat)(pt:Nat)(k:Int×Int×Int)(w:World)(hpt:At w (some ⟨pt,0,none⟩) [pL (some ⟨tb,0,none⟩)])(htb:At w (some ⟨tb,0,none⟩) [sL a xs.length cap,Value.int .i64 most,Value.func (.func 33) #[] #[]])(hls:At w a (mm Fu xs))(hn:xs.length≤100000)(hs:Fn Ca xs):Calls Tryz.prog 168 #[sL a xs.length cap,aV [iV .u8 k.1,iV .u32 k.2.1,iV .u16 k.2.2],Value.func (.func 169) #[] #[pV pt 0]] w (Dc w (Value.tuple #[nV .i64 (Be Ca xs k),bV (Bl xs k)])):=by
 refine Ar (M:=[]) (LL:=[]) (n:=49) Tryz.func168 rfl rfl A5 (Mem.refl _) (Ad (fun K1 hK1=>?_))
 refine Aa (Ai rfl (Bx (Q4 k) rfl) (fun p4=>?_))
 refine Ab 2 (Ac (hK1 _ _ _ (Ad (fun K3 hK3=>Aa ?_))))
 refine Ab 3 (Ac (hK3 _ _ _ (Ad (fun K5 hK5=>Aa ?_))))
 refine Ab 3 (Ac (hK5 _ _ _ (Ad (fun K7 hK7=>W.block ?_))))
 refine E6 [0,2,4,8,9,10] (fun(i:Nat) (j:Nat)=>[sL a xs.length cap,Value.func (.func 169) #[] #[pV pt 0],pV p4 0,nV .i64 xs.length,nV .i64 i,nV .i64 j]) (fun(i:Nat) (j:Nat)=>i≤Be Ca xs k∧Be Ca xs k≤j∧j≤xs.length) (fun(i:Nat) (j:Nat)=>[[cb p4 (Q4 k) 97]]) (fun(i:Nat) (j:Nat)=>j-i) 0 xs.length Ae ⟨(Nat.zero_le _),F8,(Nat.le_refl _)⟩ (by rfl) (fun i j f9 J8 hp10 hJ8=>?_)
 obtain⟨hi,hj,hjn⟩:=hp10
 refine Ad (fun K11 hK11=>Ad (fun K12 hK12=>?_))
 refine Aa (Ab 3 (Ac (hK12 _ _ _ ?_)))
 refine Ao (decide (((i:Nat):Int)<(j:Int))) Ae (fun h14=>?_) (fun h15=>?_)
 ·have qh14:=h14;try simp only[zA]at qh14
  refine Ak (hK11 _ _ _ (W.block (Ad (fun K17 hK17=>Aa ?_))))
  refine Ab 2 (Ah (v:=nV .i64 (i+j)) ((Ys.p (v:=.int .i64 (Bt .i64 (i:Int) (j:Int)))).conseq (Af (A6 Ag Ag Ag))) (Ah (v:=nV .u64 (i+j)) ((Ys.p (v:=.int .u64 (Cg .u64 ((i+j:Nat):Int)))).conseq (Af (Cc Ag Ag))) (Ah (v:=nV .u64 ((i+j)/2)) ((Ys.p (v:=.int .u64 (Jd .u64 ((i+j:Nat):Int) ((1:Nat):Int)))).conseq (Af (El (i+j) 1 Al))) (Ah (v:=nV .i64 ((i+j)/2)) ((Ys.p (v:=.int .i64 (Cg .i64 (((i+j)/2:Nat):Int)))).conseq (Af (Cz Ag Ag))) ?_))))
  refine Ab 1 (Ac (hK17 _ _ _ (Ad (fun K19 hK19=>Dh [(0,true),(1,true),(2,true),(3,true),(4,true),(5,false),(6,false),(7,false)] [0,1,2,3,4] ?_))))
  refine Ay 3 (Wd.ys (v:=Value.pointer (some (Co a (((i+j)/2)*5)))) rfl rfl rfl (Bm fun w_ h_=>Av (k:=.i64) (a:=a) (len:=xs.length) (cap:=cap) (i:=(((i+j)/2:Nat):Int)) (sz:=5) rfl Ae Ae Tryz.runUnderlying158 Tryz.sizeOf234 Ag Ag ((hls.mem0 h_).here (by rw[B6 (g:=Fu) (sz:=5) (fun _=>rfl)];first|omega|(simp;omega)))) (Wd.ys (v:=aV [iV .u8 (((xs.getD ((i+j)/2) dD).1).1),iV .u32 (((xs.getD ((i+j)/2) dD).1).2.1),iV .u16 (((xs.getD ((i+j)/2) dD).1).2.2),iV .u16 (((xs.getD ((i+j)/2) dD).2).ext),iV .i64 (((xs.getD ((i+j)/2) dD).2).count)]) rfl rfl rfl (Ys.ldN (a:=Co a (((i+j)/2)*5)) (vs:=[iV .u8 (((xs.getD ((i+j)/2) dD).1).1),iV .u32 (((xs.getD ((i+j)/2) dD).1).2.1),iV .u16 (((xs.getD ((i+j)/2) dD).1).2.2),iV .u16 (((xs.getD ((i+j)/2) dD).2).ext),iV .i64 (((xs.getD ((i+j)/2) dD).2).count)]) rfl Ae Tryz.isAgg234 Tryz.sizeOf234 rfl (fun w_ h_=>(hls.mem0 h_).ldN (Ei (g:=Fu) (sz:=5) (fun _=>rfl) dD (xs:=xs) (k:=(i+j)/2) Ag))) (Wd.yc (v:=aV (Q4 k)) rfl rfl rfl (Ys.yc (A0 p4 0 0 0 (Q4 k) Tryz.isAgg97 Tryz.sizeOf97)) (.inr fun _ h_=>h_) (Wd.yc (v:=iV .i64 (LO.cmp Ca ((xs.getD ((i+j)/2) dD).1) k)) rfl rfl rfl (A9 (fun w_ hm_=>(Wi (((xs.getD ((i+j)/2) dD).1),((xs.getD ((i+j)/2) dD).2)) k a xs.length cap most tb pt _ (hpt.mem0 hm_) (htb.mem0 hm_)))) (.inr fun _ h_=>h_) ?_))))
  refine Wd.yc (v:=bV (decide ((LO.cmp Ca ((xs.getD ((i+j)/2) dD).1) k)<0))) rfl rfl rfl (Ys.yc (Ys.p)) (.inr fun _ h_=>h_) (A7 (hK19 _ _ _ ?_))
  refine Ao (decide ((LO.cmp Ca ((xs.getD ((i+j)/2) dD).1) k)<0)) Ae (fun h21=>?_) (fun h22=>?_)
  ·have qh21:=h21;try simp only[zA]at qh21
   refine Aa (Ab 1 (Ah (v:=nV .i64 (((i+j)/2)+1)) ((Ys.p (v:=.int .i64 (Bt .i64 (((i+j)/2:Nat):Int) 1))).conseq (Af (A6 Ag Ag Ag))) (Ab 1 (Ac ?_))))
   have hps_:=F1 dD (k:=k) hs (h:=(i+j)/2) Ag
   have hpl_:=hps_.1 (G3 _|>.1 qh21)
   refine fun w_ h_=>hJ8 ((i+j)/2+1) j _ w_ Ag ⟨Ag,Ag,Ag⟩ ?_ h_
   kernel_rfl
  ·have qh22:=h22;try simp only[zA]at qh22
   refine Aa (Ab 2 (Ac ?_))
   have hps_:=F1 dD (k:=k) hs (h:=(i+j)/2) Ag
   have hpl_: ¬((i+j)/2<Be Ca xs k):=fun h_=>qh22 (G3 _|>.2 (hps_.2 h_))
   refine fun w_ h_=>hJ8 i ((i+j)/2) _ w_ Ag ⟨Ag,Ag,Ag⟩ ?_ h_
   kernel_rfl
 ·have qh15:=h15;try simp only[zA]at qh15
  refine Cr (hK7 _ _ _ (Ad (fun K24 hK24=>Dh [(0,true),(1,true),(2,false),(3,false),(4,false),(5,true),(6,true),(7,true),(8,true),(9,true),(10,false),(11,false),(12,true),(13,true),(14,false),(15,false)] [0,1,5,6,7,8,9,12,13] (Ay 2 ?_))))
  refine Wd.yc (v:=nV .i64 xs.length) rfl rfl rfl (Ys.yc (Ys.p)) (.inr fun _ h_=>h_) (Wd.yc (v:=bV (decide (((i:Nat):Int)<(xs.length:Int)))) rfl rfl rfl (Ys.yc (Ys.p)) (.inr fun _ h_=>h_) (Wd.yc (v:=bV (decide (((i:Nat):Int)<(xs.length:Int)))) rfl rfl rfl (Ys.yc (Ys.p)) (.inr fun _ h_=>h_) ?_))
  refine Bs (v:=Value.func (.func 169) #[] #[pV pt 0]) (decide (((i:Nat):Int)<(xs.length:Int))) rfl (Bi rfl Ae) rfl (fun hg25=>?_) ?_
  ·exact Ys.p
  refine Bs (v:=sL a xs.length cap) (decide (((i:Nat):Int)<(xs.length:Int))) rfl (Bi rfl Ae) rfl (fun hg26=>?_) ?_
  ·exact Ys.p
  refine Bs (v:=nV .i64 i) (decide (((i:Nat):Int)<(xs.length:Int))) rfl (Bi rfl Ae) rfl (fun hg27=>?_) ?_
  ·exact Ys.p
  refine Bs (v:=pL (some (Co a (i*5)))) (decide (((i:Nat):Int)<(xs.length:Int))) rfl (Bi rfl Ae) rfl (fun hg28=>?_) ?_
  ·have qhg28:=hg28;try simp only[zA]at qhg28
   refine Bh (t:=41) (v0:=sL a xs.length cap) (lz (g:=decide (((i:Nat):Int)<(xs.length:Int))) (u:=undef) hg28 Ae) (Bh (t:=42) (v0:=nV .i64 i) (lz (g:=decide (((i:Nat):Int)<(xs.length:Int))) (u:=undef) hg28 Ae) ?_)
   exact Bm fun w_ h_=>Av (k:=.i64) (a:=a) (len:=xs.length) (cap:=cap) (i:=(i:Int)) (sz:=5) rfl Ae Ae Tryz.runUnderlying158 Tryz.sizeOf234 Ag Ag ((hls.mem0 h_).here (by rw[B6 (g:=Fu) (sz:=5) (fun _=>rfl)];first|omega|(simp;omega)))
  refine Bs (v:=aV [iV .u8 (((xs.getD i dD).1).1),iV .u32 (((xs.getD i dD).1).2.1),iV .u16 (((xs.getD i dD).1).2.2),iV .u16 (((xs.getD i dD).2).ext),iV .i64 (((xs.getD i dD).2).count)]) (decide (((i:Nat):Int)<(xs.length:Int))) rfl (Bi rfl Ae) rfl (fun hg29=>?_) ?_
  ·have qhg29:=hg29;try simp only[zA]at qhg29
   refine Bh (t:=43) (v0:=pL (some (Co a (i*5)))) (lz (g:=decide (((i:Nat):Int)<(xs.length:Int))) (u:=undef) hg29 Ae) ?_
   exact Ys.ldN (a:=Co a (i*5)) (vs:=[iV .u8 (((xs.getD i dD).1).1),iV .u32 (((xs.getD i dD).1).2.1),iV .u16 (((xs.getD i dD).1).2.2),iV .u16 (((xs.getD i dD).2).ext),iV .i64 (((xs.getD i dD).2).count)]) rfl Ae Tryz.isAgg234 Tryz.sizeOf234 rfl (fun w_ h_=>(hls.mem0 h_).ldN (Ei (g:=Fu) (sz:=5) (fun _=>rfl) dD (xs:=xs) (k:=i) Ag))
  refine Cx (v:=aV (Q4 k)) (decide (((i:Nat):Int)<(xs.length:Int))) rfl (Bi rfl Ae) rfl (fun hg30=>?_) (.inr fun _ h_=>h_) ?_
  ·refine Ys.yc ?_
   exact A0 p4 0 0 0 (Q4 k) Tryz.isAgg97 Tryz.sizeOf97
  refine Cx (v:=iV .i64 (LO.cmp Ca ((xs.getD i dD).1) k)) (decide (((i:Nat):Int)<(xs.length:Int))) rfl (Bi rfl Ae) rfl (fun hg31=>?_) (.inr fun _ h_=>h_) ?_
  ·have qhg31:=hg31;try simp only[zA]at qhg31
   refine Eh (t:=40) (v0:=Value.func (.func 169) #[] #[pV pt 0]) (lz (g:=decide (((i:Nat):Int)<(xs.length:Int))) (u:=undef) hg31 Ae) (Eh (t:=44) (v0:=aV [iV .u8 (((xs.getD i dD).1).1),iV .u32 (((xs.getD i dD).1).2.1),iV .u16 (((xs.getD i dD).1).2.2),iV .u16 (((xs.getD i dD).2).ext),iV .i64 (((xs.getD i dD).2).count)]) (lz (g:=decide (((i:Nat):Int)<(xs.length:Int))) (u:=undef) hg31 Ae) (Eh (t:=45) (v0:=aV (Q4 k)) (lz (g:=decide (((i:Nat):Int)<(xs.length:Int))) (u:=undef) hg31 Ae) ?_))
   exact A9 (fun w_ hm_=>(Wi (((xs.getD i dD).1),((xs.getD i dD).2)) k a xs.length cap most tb pt _ (hpt.mem0 hm_) (htb.mem0 hm_)))
  refine Bs (v:=bV ((LO.cmp Ca ((xs.getD i dD).1) k)==0)) (decide (((i:Nat):Int)<(xs.length:Int))) rfl (Bi rfl Ae) rfl (fun hg32=>?_) ?_
  ·have qhg32:=hg32;try simp only[zA]at qhg32
   refine Bh (t:=46) (v0:=iV .i64 (LO.cmp Ca ((xs.getD i dD).1) k)) (lz (g:=decide (((i:Nat):Int)<(xs.length:Int))) (u:=undef) hg32 Ae) ?_
   exact Ys.p
  refine Wd.ys (v:=bV ((decide (((i:Nat):Int)<(xs.length:Int)))&&((LO.cmp Ca ((xs.getD i dD).1) k)==0))) rfl rfl rfl (D0 (e:=decide (((i:Nat):Int)<(xs.length:Int))) (b:=(LO.cmp Ca ((xs.getD i dD).1) k)==0) rfl Ae Ae Ae) (Wd.yc (v:=nV .i64 i) rfl rfl rfl (Ys.yc (Ys.p)) (.inr fun _ h_=>h_) (Wd.yc (v:=bV ((decide (((i:Nat):Int)<(xs.length:Int)))&&((LO.cmp Ca ((xs.getD i dD).1) k)==0))) rfl rfl rfl (Ys.yc (Ys.p)) (.inl Ae) (A7 (hK24 _ _ _ ?_))))
  refine Ap [] Al rfl (Aq (fn:=Tryz.f168) rfl ?_)
  have hip_:i=Be Ca xs k:=by omega
  exact fun w_ hS_=>B9 rfl (Aw (nV .i64 i)) (Aw (bV ((decide (((i:Nat):Int)<(xs.length:Int)))&&((LO.cmp Ca ((xs.getD i dD).1) k)==0)))) hS_ ⟨by clear hK1 hK3 hK5 hK7 hJ8 hK11 hK12 hK24;refine congrArg Ending.returned ?_;rw[hip_];refine congrArg (fun b=>Value.tuple #[_,.bool b]) ?_;exact Ak9 hs,hS_.below⟩
theorem R5(xs:List ((Int×Int×Int)×(Lse)))(a:Option Addr)(cap:Nat)(most:Int)(tb:Nat)(k:Int×Int×Int)(w:World)(htb:At w (some ⟨tb,0,none⟩) [sL a xs.length cap,Value.int .i64 most,Value.func (.func 33) #[] #[]])(hls:At w a (mm Fu xs))(hn:xs.length≤100000)(hs:Fn Ca xs):Calls Tryz.prog 127 #[pV tb 0,aV [iV .u8 k.1,iV .u32 k.2.1,iV .u16 k.2.2]] w (Dc w (Value.tuple #[nV .i64 (Be Ca xs k),bV (Bl xs k)])):=by
 refine Ar (M:=[]) (LL:=[]) (n:=15) Tryz.func127 rfl rfl A5 (Mem.refl _) (Ad (fun K1 hK1=>?_))
 refine Aa (Ai rfl (Fl (v:=pV tb 0) (cs:=[pV tb 0]) rfl rfl Ae rfl) (fun p2=>?_))
 refine Ai rfl (Bx [iV .u8 k.1,iV .u32 k.2.1,iV .u16 k.2.2] rfl) (fun p3=>Ab 2 (Ac (hK1 _ _ _ (Ad (fun K3 hK3=>?_)))))
 refine Dh [(0,true),(1,true),(2,true),(3,true),(4,true),(5,false),(6,false),(7,true),(8,false),(9,false),(10,false)] [0,1,2,3,4,7] (Wd.ys rfl rfl rfl (An p2 0 1 0 Tryz.isAgg86) (Ay 2 (Wd.ys rfl rfl rfl (Ys.ld (a:=⟨tb,0,none⟩) rfl Ae Tryz.isAgg158 (fun w_ h_=>by have x_:=(htb.mem0 h_).ld (q:=0) (v:=sL a xs.length cap) rfl;rw[Br]at x_;exact x_)) (Wd.ys rfl rfl rfl (A0 p3 0 0 0 [iV .u8 k.1,iV .u32 k.2.1,iV .u16 k.2.2] Tryz.isAgg97 Tryz.sizeOf97) ?_))))
 refine Wd.yc (v:=Value.func (.func 169) #[] #[pV p2 0]) rfl rfl rfl (Ys.yc (Ys.p)) (.inr fun _ h_=>h_) (Wd.yc (v:=Value.tuple #[nV .i64 (Be Ca xs k),bV (Bl xs k)]) rfl rfl rfl (A9 (fun w_ hm_=>(Ala xs a cap most tb p2 k _ (Az (i:=1) (j:=0) (t:=86) (b:=p2) hm_ rfl rfl) (htb.mem0 hm_) (hls.mem0 hm_) Fb hs))) (.inr fun _ h_=>h_) (Ay 1 (Wd.yc (v:=bV (Bl xs k)) rfl rfl rfl (Ys.yc (Ys.p)) (.inr fun _ h_=>h_) (Wd.yc (v:=nV .i64 (Be Ca xs k)) rfl rfl rfl (Ys.yc (Ys.p)) (.inl Ae) ?_))))
 refine Wd.yc (v:=bV (Bl xs k)) rfl rfl rfl (Ys.yc (Ys.p)) (.inl Ae) (A7 (hK3 _ _ _ (Ap [] Al rfl (Aq (fn:=Tryz.f127) rfl (fun w_ hS_=>B9 rfl (Aw (nV .i64 (Be Ca xs k))) (Aw (bV (Bl xs k))) hS_ ⟨rfl,hS_.below⟩)))))
theorem Mh(xs:List ((Int×Int×Int)×(Lse)))(a:Option Addr)(cap:Nat)(most:Int)(tb:Nat)(k:Int×Int×Int)(w:World)(htb:At w (some ⟨tb,0,none⟩) [sL a xs.length cap,Value.int .i64 most,Value.func (.func 33) #[] #[]])(hls:At w a (mm Fu xs))(hn:xs.length≤100000)(hs:Fn Ca xs):Calls Tryz.prog 80 #[pV tb 0,aV [iV .u8 k.1,iV .u32 k.2.1,iV .u16 k.2.2]] w (Dc w (Value.tuple #[aV [iV .u16 ((Bo (⟨0,0⟩:Lse) xs k).ext),iV .i64 ((Bo (⟨0,0⟩:Lse) xs k).count)],bV (Bl xs k)])):=by
 refine Ar (M:=[]) (LL:=[]) (n:=24) Tryz.func80 rfl rfl A5 (Mem.refl _) (Ad (fun K1 hK1=>?_))
 refine Aa (Ai rfl (Bx [iV .u8 k.1,iV .u32 k.2.1,iV .u16 k.2.2] rfl) (fun p3=>?_))
 refine Ai rfl (Bc Tryz.zeroValue99) (fun p4=>Ab 1 (Ac (hK1 _ _ _ (Ad (fun K3 hK3=>?_)))))
 refine Ad (fun K4 hK4=>Aa (Ab 1 (Ah (A0 p3 0 1 0 [iV .u8 k.1,iV .u32 k.2.1,iV .u16 k.2.2] Tryz.isAgg97 Tryz.sizeOf97) (B0 (v:=Value.tuple #[nV .i64 (Be Ca xs k),bV (Bl xs k)]) (A9 (fun w_ hm_=>(R5 xs a cap most tb k _ (htb.mem0 hm_) (hls.mem0 hm_) Fb hs))) ?_))))
 refine Ab 5 (Ac (hK4 _ _ _ (Ap [0] Al rfl (Ad (fun K6 hK6=>?_)))))
 refine Aa (Ab 1 (Ac (hK6 _ _ _ ?_)))
 refine Ao (Bl xs k) Ae (fun h7=>?_) (fun h8=>?_)
 ·refine Ad (fun K9 hK9=>?_)
  have hps_:=F9 dD hs h7
  refine Aa (Ab 3 (Ah (Ys.ld (a:=⟨tb,0,none⟩) rfl Ae Tryz.isAgg158 (fun w_ h_=>by have x_:=(htb.mem0 h_).ld (q:=0) (v:=Value.slice a xs.length cap) rfl;rw[Br]at x_;exact x_)) (Ab 1 (Ah (v:=Value.pointer (some (Co a ((Be Ca xs k)*5)))) (Bm fun w_ h_=>Av (k:=.i64) (a:=a) (len:=xs.length) (cap:=cap) (i:=(Be Ca xs k:Int)) (sz:=5) rfl Ae Ae Tryz.runUnderlying158 Tryz.sizeOf234 Ag Ag ((hls.mem0 h_).here (by rw[B6 (g:=Fu) (sz:=5) (fun _=>rfl)];first|omega|(simp;omega)))) ?_))))
  refine Ab 1 (Ah (v:=aV [iV .u16 (((xs.getD (Be Ca xs k) dD).2).ext),iV .i64 (((xs.getD (Be Ca xs k) dD).2).count)]) (Ys.ldN (a:=(Co a ((Be Ca xs k)*5)).add 3) (vs:=[iV .u16 (((xs.getD (Be Ca xs k) dD).2).ext),iV .i64 (((xs.getD (Be Ca xs k) dD).2).count)]) rfl Ae Tryz.isAgg99 Tryz.sizeOf99 rfl (fun w_ h_=>(hls.mem0 h_).ldNF (We (g:=Fu) (sz:=5) (fun _=>rfl) dD (xs:=xs) (k:=Be Ca xs k) Ag 3 2 rfl))) (Ai rfl (A4 p4 0 0 0 [iV .u16 (((xs.getD (Be Ca xs k) dD).2).ext),iV .i64 (((xs.getD (Be Ca xs k) dD).2).count)] Tryz.sizeOf99 rfl rfl) (fun _=>Ab 1 (Ac ?_))))
  refine hK9 _ _ _ (Aq (fn:=Tryz.f80) rfl (fun w_ hS_=>B9 rfl (Bq p4 0 0 0 [iV .u16 (((xs.getD (Be Ca xs k) dD).2).ext),iV .i64 (((xs.getD (Be Ca xs k) dD).2).count)] Tryz.isAgg99 Tryz.sizeOf99) (Aw (bV true)) hS_ ⟨by clear hK1 hK3 hK4 hK6 hK9;refine congrArg Ending.returned ?_;rw[Nt dD hs h7,h7];try rfl,hS_.below⟩))
 ·refine Ak (hK3 _ _ _ (Ad (fun K12 hK12=>Aa (Ah (A0 p4 0 0 0 zl8 Tryz.isAgg99 Tryz.sizeOf99) ?_))))
  refine Ai rfl (A4 p4 0 0 0 zl8 Tryz.sizeOf99 rfl rfl) (fun _=>Ab 1 (Ac (hK12 _ _ _ (Aq (fn:=Tryz.f80) rfl (fun w_ hS_=>B9 rfl (Bq p4 0 0 0 zl8 Tryz.isAgg99 Tryz.sizeOf99) (Aw (bV false)) hS_ ⟨by clear hK1 hK3 hK4 hK6 hK12;refine congrArg Ending.returned ?_;rw[Is h8,h8];try rfl,hS_.below⟩)))))
theorem Ahp(most:Int)(w:World):Calls Tryz.prog 32 #[iV .i64 most,Value.func (.func 33) #[] #[]] w (Bj w (fun _:Nat=>True) (fun b=>.pointer (some ⟨b,0,none⟩)) [] (fun b=>[[cb b [sL none 0 0,iV .i64 (D3 most 0),Value.func (.func 33) #[] #[]] 160]])):=by
 refine Ar (M:=[]) (LL:=[]) (n:=10) Tryz.func32 rfl rfl A5 (Mem.refl _) (Ad (fun K1 hK1=>?_))
 refine Aa (Ab 1 (Ac (hK1 _ _ _ (Ad (fun K2 hK2=>?_)))))
 refine Aa (Ab 4 ?_)
 have hm3:=Ik most 0
 refine Ai rfl (Bx [sL none 0 0,iV .i64 (D3 most 0),Value.func (.func 33) #[] #[]] rfl) (fun p9=>Ab 1 (Ac (hK2 _ _ _ (Aq (fn:=Tryz.f32) rfl (fun w_ hS_=>Bb rfl (Aw (pV p9 0)) hS_ ⟨p9,trivial,rfl,(hS_.pick [0] Al rfl)⟩)))))
theorem Wj(x:(Int)×(Int×Int×Int×Int×Int))(k:Int)(a:Option Addr)(n cap:Nat)(most:Int)(tb pt:Nat)(w:World)(hpt:At w (some ⟨pt,0,none⟩) [pL (some ⟨tb,0,none⟩)])(htb:At w (some ⟨tb,0,none⟩) [sL a n cap,Value.int .i64 most,Value.func (.func 35) #[] #[]]):Calls Tryz.prog 164 #[aV [iV .u64 x.1,iV .u8 x.2.1,iV .u32 x.2.2.1,iV .u32 x.2.2.2.1,iV .u16 x.2.2.2.2.1,iV .u16 x.2.2.2.2.2],iV .u64 k,pV pt 0] w (Dc w (.int .i64 (LO.cmp LO.int x.1 k))):=by
 refine Ar (M:=[]) (LL:=[]) (n:=14) Tryz.func164 rfl rfl A5 (Mem.refl _) (Ad (fun K1 hK1=>?_))
 refine Aa (Ai rfl (Bx [iV .u64 x.1,iV .u8 x.2.1,iV .u32 x.2.2.1,iV .u32 x.2.2.2.1,iV .u16 x.2.2.2.2.1,iV .u16 x.2.2.2.2.2] rfl) (fun p3=>?_))
 refine Ab 1 (Ac (hK1 _ _ _ (Ad (fun K3 hK3=>Dh [(0,true),(1,true),(2,true),(3,true),(4,true),(5,true),(6,false),(7,false),(8,false)] [0,1,2,3,4,5] ?_))))
 refine Wd.ys rfl rfl rfl (Ys.ld (a:=⟨pt,0,none⟩) rfl Ae Tryz.isAgg89 (fun w_ h_=>by have x_:=(hpt.mem0 h_).ld (q:=0) (v:=pV tb 0) rfl;rw[Br]at x_;exact x_)) (Ay 2 (Wd.ys rfl rfl rfl (Ys.ld (a:=⟨tb,2,none⟩) rfl Ae Tryz.isAgg102 (fun w_ h_=>by have x_:=(htb.mem0 h_).ld (q:=2) (v:=Value.func (.func 35) #[] #[]) rfl;rw[Br]at x_;exact x_)) (Ay 1 (Wd.ys rfl rfl rfl (An p3 0 0 0 Tryz.isAgg45) ?_))))
 refine Wd.yc (v:=iV .u64 k) rfl rfl rfl (Ys.yc (Ys.p)) (.inr fun _ h_=>h_) (Wd.yc (v:=iV .i64 (LO.cmp LO.int x.1 k)) rfl rfl rfl (A9 (fun w_ hm_=>(Z0 x.1 k _))) (.inr fun _ h_=>h_) (Wd.yc (v:=iV .i64 (LO.cmp LO.int x.1 k)) rfl rfl rfl (Ys.yc (Ys.p)) (.inl Ae) (A7 (hK3 _ _ _ ?_))))
 refine Ap [] Al rfl (Aq (fn:=Tryz.f164) rfl (fun w_ hS_=>Bb rfl (Aw (iV .i64 (LO.cmp LO.int x.1 k))) hS_ ⟨rfl,hS_.below⟩))
theorem Alb{xs:List ((Int)×(Int×Int×Int×Int×Int))}{k:Int}(hs:Fn LO.int xs):((decide (((Be LO.int xs k:Nat):Int)<(xs.length:Int)))&&((LO.cmp LO.int (xs.getD (Be LO.int xs k) dN).1 k)==0))=Bl xs k:=by
  rw[←Jf dN hs]
  congr 1
  · exact decide_eq_decide.2 Ag
  · rw[Bool.eq_iff_iff,beq_iff_eq,decide_eq_true_eq];exact LO.cmp_eq _
theorem Alc(xs:List ((Int)×(Int×Int×Int×Int×Int)))(a:Option Addr)(cap:Nat)(most:Int)(tb:Nat)(pt:Nat)(k:Int)(w:World)(hpt:At w (some ⟨pt,0,none⟩) [pL (some ⟨tb,0,none⟩)])(htb:At w (some ⟨tb,0,none⟩) [sL a xs.length cap,Value.int .i64 most,Value.func (.func 35) #[] #[]])(hls:At w a (mm Hy xs))(hn:xs.length≤100000)(hs:Fn LO.int xs):Calls Tryz.prog 163 #[sL a xs.length cap,iV .u64 k,Value.func (.func 164) #[] #[pV pt 0]] w (Dc w (Value.tuple #[nV .i64 (Be LO.int xs k),bV (Bl xs k)])):=by
 refine Ar (M:=[]) (LL:=[]) (n:=49) Tryz.func163 rfl rfl A5 (Mem.refl _) (Ad (fun K1 hK1=>?_))
 refine Aa (Ab 2 (Ac (hK1 _ _ _ (Ad (fun K3 hK3=>?_)))))
 refine Aa (Ab 3 (Ac (hK3 _ _ _ (Ad (fun K5 hK5=>?_)))))
 refine Aa (Ab 3 (Ac (hK5 _ _ _ (Ad (fun K7 hK7=>?_)))))
 refine W.block (E6 [0,1,2,8,9,10] (fun(i:Nat) (j:Nat)=>[sL a xs.length cap,iV .u64 k,Value.func (.func 164) #[] #[pV pt 0],nV .i64 xs.length,nV .i64 i,nV .i64 j]) (fun(i:Nat) (j:Nat)=>i≤Be LO.int xs k∧Be LO.int xs k≤j∧j≤xs.length) (fun(i:Nat) (j:Nat)=>[]) (fun(i:Nat) (j:Nat)=>j-i) 0 xs.length Ae ⟨(Nat.zero_le _),F8,(Nat.le_refl _)⟩ (by rfl) (fun i j f9 J8 hp10 hJ8=>?_))
 obtain⟨hi,hj,hjn⟩:=hp10
 refine Ad (fun K11 hK11=>Ad (fun K12 hK12=>?_))
 refine Aa (Ab 3 (Ac (hK12 _ _ _ ?_)))
 refine Ao (decide (((i:Nat):Int)<(j:Int))) Ae (fun h14=>?_) (fun h15=>?_)
 ·have qh14:=h14;try simp only[zA]at qh14
  refine Ak (hK11 _ _ _ (W.block (Ad (fun K17 hK17=>Aa ?_))))
  refine Ab 2 (Ah (v:=nV .i64 (i+j)) ((Ys.p (v:=.int .i64 (Bt .i64 (i:Int) (j:Int)))).conseq (Af (A6 Ag Ag Ag))) (Ah (v:=nV .u64 (i+j)) ((Ys.p (v:=.int .u64 (Cg .u64 ((i+j:Nat):Int)))).conseq (Af (Cc Ag Ag))) (Ah (v:=nV .u64 ((i+j)/2)) ((Ys.p (v:=.int .u64 (Jd .u64 ((i+j:Nat):Int) ((1:Nat):Int)))).conseq (Af (El (i+j) 1 Al))) (Ah (v:=nV .i64 ((i+j)/2)) ((Ys.p (v:=.int .i64 (Cg .i64 (((i+j)/2:Nat):Int)))).conseq (Af (Cz Ag Ag))) ?_))))
  refine Ab 1 (Ac (hK17 _ _ _ (Ad (fun K19 hK19=>Aa ?_))))
  refine Ab 3 (Ah (v:=Value.pointer (some (Co a (((i+j)/2)*6)))) (Bm fun w_ h_=>Av (k:=.i64) (a:=a) (len:=xs.length) (cap:=cap) (i:=(((i+j)/2:Nat):Int)) (sz:=6) rfl Ae Ae Tryz.runUnderlying161 Tryz.sizeOf223 Ag Ag ((hls.mem0 h_).here (by rw[B6 (g:=Hy) (sz:=6) (fun _=>rfl)];first|omega|(simp;omega)))) (Ah (v:=aV [iV .u64 ((xs.getD ((i+j)/2) dN).1),iV .u8 (((xs.getD ((i+j)/2) dN).2).1),iV .u32 (((xs.getD ((i+j)/2) dN).2).2.1),iV .u32 (((xs.getD ((i+j)/2) dN).2).2.2.1),iV .u16 (((xs.getD ((i+j)/2) dN).2).2.2.2.1),iV .u16 (((xs.getD ((i+j)/2) dN).2).2.2.2.2)]) (Ys.ldN (a:=Co a (((i+j)/2)*6)) (vs:=[iV .u64 ((xs.getD ((i+j)/2) dN).1),iV .u8 (((xs.getD ((i+j)/2) dN).2).1),iV .u32 (((xs.getD ((i+j)/2) dN).2).2.1),iV .u32 (((xs.getD ((i+j)/2) dN).2).2.2.1),iV .u16 (((xs.getD ((i+j)/2) dN).2).2.2.2.1),iV .u16 (((xs.getD ((i+j)/2) dN).2).2.2.2.2)]) rfl Ae Tryz.isAgg223 Tryz.sizeOf223 rfl (fun w_ h_=>(hls.mem0 h_).ldN (Ei (g:=Hy) (sz:=6) (fun _=>rfl) dN (xs:=xs) (k:=(i+j)/2) Ag))) (Ab 1 (B0 (v:=iV .i64 (LO.cmp LO.int ((xs.getD ((i+j)/2) dN).1) k)) (A9 (fun w_ hm_=>(Wj (((xs.getD ((i+j)/2) dN).1),((xs.getD ((i+j)/2) dN).2)) k a xs.length cap most tb pt _ (hpt.mem0 hm_) (htb.mem0 hm_)))) ?_))))
  refine Ab 1 (Ac (hK19 _ _ _ ?_))
  refine Ao (decide ((LO.cmp LO.int ((xs.getD ((i+j)/2) dN).1) k)<0)) Ae (fun h21=>?_) (fun h22=>?_)
  ·have qh21:=h21;try simp only[zA]at qh21
   refine Aa (Ab 1 (Ah (v:=nV .i64 (((i+j)/2)+1)) ((Ys.p (v:=.int .i64 (Bt .i64 (((i+j)/2:Nat):Int) 1))).conseq (Af (A6 Ag Ag Ag))) (Ab 1 (Ac ?_))))
   have hps_:=F1 dN (k:=k) hs (h:=(i+j)/2) Ag
   have hpl_:=hps_.1 (G3 _|>.1 qh21)
   refine fun w_ h_=>hJ8 ((i+j)/2+1) j _ w_ Ag ⟨Ag,Ag,Ag⟩ ?_ h_
   kernel_rfl
  ·have qh22:=h22;try simp only[zA]at qh22
   refine Aa (Ab 2 (Ac ?_))
   have hps_:=F1 dN (k:=k) hs (h:=(i+j)/2) Ag
   have hpl_: ¬((i+j)/2<Be LO.int xs k):=fun h_=>qh22 (G3 _|>.2 (hps_.2 h_))
   refine fun w_ h_=>hJ8 i ((i+j)/2) _ w_ Ag ⟨Ag,Ag,Ag⟩ ?_ h_
   kernel_rfl
 ·have qh15:=h15;try simp only[zA]at qh15
  refine Cr (hK7 _ _ _ (Ad (fun K24 hK24=>Aa (Ab 5 ?_))))
  refine Am (v:=Value.func (.func 164) #[] #[pV pt 0]) (decide (((i:Nat):Int)<(xs.length:Int))) rfl (Bi rfl Ae) rfl (fun hg25=>?_) ?_
  ·exact Ys.p
  refine Am (v:=sL a xs.length cap) (decide (((i:Nat):Int)<(xs.length:Int))) rfl (Bi rfl Ae) rfl (fun hg26=>?_) ?_
  ·exact Ys.p
  refine Am (v:=nV .i64 i) (decide (((i:Nat):Int)<(xs.length:Int))) rfl (Bi rfl Ae) rfl (fun hg27=>?_) ?_
  ·exact Ys.p
  refine Am (v:=pL (some (Co a (i*6)))) (decide (((i:Nat):Int)<(xs.length:Int))) rfl (Bi rfl Ae) rfl (fun hg28=>?_) ?_
  ·have qhg28:=hg28;try simp only[zA]at qhg28
   refine Bh (t:=41) (v0:=sL a xs.length cap) (lz (g:=decide (((i:Nat):Int)<(xs.length:Int))) (u:=undef) hg28 Ae) (Bh (t:=42) (v0:=nV .i64 i) (lz (g:=decide (((i:Nat):Int)<(xs.length:Int))) (u:=undef) hg28 Ae) ?_)
   exact Bm fun w_ h_=>Av (k:=.i64) (a:=a) (len:=xs.length) (cap:=cap) (i:=(i:Int)) (sz:=6) rfl Ae Ae Tryz.runUnderlying161 Tryz.sizeOf223 Ag Ag ((hls.mem0 h_).here (by rw[B6 (g:=Hy) (sz:=6) (fun _=>rfl)];first|omega|(simp;omega)))
  refine Am (v:=aV [iV .u64 ((xs.getD i dN).1),iV .u8 (((xs.getD i dN).2).1),iV .u32 (((xs.getD i dN).2).2.1),iV .u32 (((xs.getD i dN).2).2.2.1),iV .u16 (((xs.getD i dN).2).2.2.2.1),iV .u16 (((xs.getD i dN).2).2.2.2.2)]) (decide (((i:Nat):Int)<(xs.length:Int))) rfl (Bi rfl Ae) rfl (fun hg29=>?_) ?_
  ·have qhg29:=hg29;try simp only[zA]at qhg29
   refine Bh (t:=43) (v0:=pL (some (Co a (i*6)))) (lz (g:=decide (((i:Nat):Int)<(xs.length:Int))) (u:=undef) hg29 Ae) ?_
   exact Ys.ldN (a:=Co a (i*6)) (vs:=[iV .u64 ((xs.getD i dN).1),iV .u8 (((xs.getD i dN).2).1),iV .u32 (((xs.getD i dN).2).2.1),iV .u32 (((xs.getD i dN).2).2.2.1),iV .u16 (((xs.getD i dN).2).2.2.2.1),iV .u16 (((xs.getD i dN).2).2.2.2.2)]) rfl Ae Tryz.isAgg223 Tryz.sizeOf223 rfl (fun w_ h_=>(hls.mem0 h_).ldN (Ei (g:=Hy) (sz:=6) (fun _=>rfl) dN (xs:=xs) (k:=i) Ag))
  refine Am (v:=iV .u64 k) (decide (((i:Nat):Int)<(xs.length:Int))) rfl (Bi rfl Ae) rfl (fun hg30=>?_) ?_
  ·exact Ys.p
  refine Dn (v:=iV .i64 (LO.cmp LO.int ((xs.getD i dN).1) k)) (decide (((i:Nat):Int)<(xs.length:Int))) rfl (Bi rfl Ae) rfl (fun hg31=>?_) ?_
  ·have qhg31:=hg31;try simp only[zA]at qhg31
   refine Eh (t:=40) (v0:=Value.func (.func 164) #[] #[pV pt 0]) (lz (g:=decide (((i:Nat):Int)<(xs.length:Int))) (u:=undef) hg31 Ae) (Eh (t:=44) (v0:=aV [iV .u64 ((xs.getD i dN).1),iV .u8 (((xs.getD i dN).2).1),iV .u32 (((xs.getD i dN).2).2.1),iV .u32 (((xs.getD i dN).2).2.2.1),iV .u16 (((xs.getD i dN).2).2.2.2.1),iV .u16 (((xs.getD i dN).2).2.2.2.2)]) (lz (g:=decide (((i:Nat):Int)<(xs.length:Int))) (u:=undef) hg31 Ae) (Eh (t:=45) (v0:=iV .u64 k) (lz (g:=decide (((i:Nat):Int)<(xs.length:Int))) (u:=undef) hg31 Ae) ?_))
   exact A9 (fun w_ hm_=>(Wj (((xs.getD i dN).1),((xs.getD i dN).2)) k a xs.length cap most tb pt _ (hpt.mem0 hm_) (htb.mem0 hm_)))
  refine Am (v:=bV ((LO.cmp LO.int ((xs.getD i dN).1) k)==0)) (decide (((i:Nat):Int)<(xs.length:Int))) rfl (Bi rfl Ae) rfl (fun hg32=>?_) ?_
  ·have qhg32:=hg32;try simp only[zA]at qhg32
   refine Bh (t:=46) (v0:=iV .i64 (LO.cmp LO.int ((xs.getD i dN).1) k)) (lz (g:=decide (((i:Nat):Int)<(xs.length:Int))) (u:=undef) hg32 Ae) ?_
   exact Ys.p
  refine Ah (v:=bV ((decide (((i:Nat):Int)<(xs.length:Int)))&&((LO.cmp LO.int ((xs.getD i dN).1) k)==0))) (D0 (e:=decide (((i:Nat):Int)<(xs.length:Int))) (b:=(LO.cmp LO.int ((xs.getD i dN).1) k)==0) rfl Ae Ae Ae) (Ab 2 (Ac (hK24 _ _ _ (Aq (fn:=Tryz.f163) rfl ?_))))
  have hip_:i=Be LO.int xs k:=by omega
  exact fun w_ hS_=>B9 rfl (Aw (nV .i64 i)) (Aw (bV ((decide (((i:Nat):Int)<(xs.length:Int)))&&((LO.cmp LO.int ((xs.getD i dN).1) k)==0)))) hS_ ⟨by clear hK1 hK3 hK5 hK7 hJ8 hK11 hK12 hK24;refine congrArg Ending.returned ?_;rw[hip_];refine congrArg (fun b=>Value.tuple #[_,.bool b]) ?_;exact Alb hs,hS_.below⟩
theorem R6(xs:List ((Int)×(Int×Int×Int×Int×Int)))(a:Option Addr)(cap:Nat)(most:Int)(tb:Nat)(k:Int)(w:World)(htb:At w (some ⟨tb,0,none⟩) [sL a xs.length cap,Value.int .i64 most,Value.func (.func 35) #[] #[]])(hls:At w a (mm Hy xs))(hn:xs.length≤100000)(hs:Fn LO.int xs):Calls Tryz.prog 114 #[pV tb 0,iV .u64 k] w (Dc w (Value.tuple #[nV .i64 (Be LO.int xs k),bV (Bl xs k)])):=by
 refine Ar (M:=[]) (LL:=[]) (n:=15) Tryz.func114 rfl rfl A5 (Mem.refl _) (Ad (fun K1 hK1=>?_))
 refine Aa (Ai rfl (Fl (v:=pV tb 0) (cs:=[pV tb 0]) rfl rfl Ae rfl) (fun p2=>?_))
 refine Ab 2 (Ac (hK1 _ _ _ (Ad (fun K3 hK3=>Aa ?_))))
 refine Ah (An p2 0 0 0 Tryz.isAgg89) (Ab 2 (Ah (Ys.ld (a:=⟨tb,0,none⟩) rfl Ae Tryz.isAgg161 (fun w_ h_=>by have x_:=(htb.mem0 h_).ld (q:=0) (v:=sL a xs.length cap) rfl;rw[Br]at x_;exact x_)) (Ab 2 (B0 (v:=Value.tuple #[nV .i64 (Be LO.int xs k),bV (Bl xs k)]) (A9 (fun w_ hm_=>(Alc xs a cap most tb p2 k _ (Az (i:=0) (j:=0) (t:=89) (b:=p2) hm_ rfl rfl) (htb.mem0 hm_) (hls.mem0 hm_) Fb hs))) ?_))))
 refine Ab 4 (Ac (hK3 _ _ _ (Ap [] Al rfl (Aq (fn:=Tryz.f114) rfl (fun w_ hS_=>B9 rfl (Aw (nV .i64 (Be LO.int xs k))) (Aw (bV (Bl xs k))) hS_ ⟨rfl,hS_.below⟩)))))
abbrev Q5(k:Int)(xs:List ((Int)×(Int×Int×Int×Int×Int))):List Value:=[iV .u8 (((xs.getD (Be LO.int xs k) dN).2).1),iV .u32 (((xs.getD (Be LO.int xs k) dN).2).2.1),iV .u32 (((xs.getD (Be LO.int xs k) dN).2).2.2.1),iV .u16 (((xs.getD (Be LO.int xs k) dN).2).2.2.2.1),iV .u16 (((xs.getD (Be LO.int xs k) dN).2).2.2.2.2)]
theorem Ahq(xs:List ((Int)×(Int×Int×Int×Int×Int)))(a:Option Addr)(cap:Nat)(most:Int)(tb:Nat)(k:Int)(w:World)(htb:At w (some ⟨tb,0,none⟩) [sL a xs.length cap,Value.int .i64 most,Value.func (.func 35) #[] #[]])(hls:At w a (mm Hy xs))(hn:xs.length≤100000)(hs:Fn LO.int xs):Calls Tryz.prog 60 #[pV tb 0,iV .u64 k] w (Dc w (Value.tuple #[aV [iV .u8 ((Bo (0,0,0,0,0) xs k).1),iV .u32 ((Bo (0,0,0,0,0) xs k).2.1),iV .u32 ((Bo (0,0,0,0,0) xs k).2.2.1),iV .u16 ((Bo (0,0,0,0,0) xs k).2.2.2.1),iV .u16 ((Bo (0,0,0,0,0) xs k).2.2.2.2)],bV (Bl xs k)])):=by
 refine Ar (M:=[]) (LL:=[]) (n:=24) Tryz.func60 rfl rfl A5 (Mem.refl _) (Ad (fun K1 hK1=>?_))
 refine Aa (Ai rfl (Bc Tryz.zeroValue47) (fun p4=>?_))
 refine Ab 1 (Ac (hK1 _ _ _ (Ad (fun K3 hK3=>Ad (fun K4 hK4=>?_)))))
 refine Aa (Ab 2 (B0 (v:=Value.tuple #[nV .i64 (Be LO.int xs k),bV (Bl xs k)]) (A9 (fun w_ hm_=>(R6 xs a cap most tb k _ (htb.mem0 hm_) (hls.mem0 hm_) Fb hs))) (Ab 5 (Ac ?_))))
 refine hK4 _ _ _ (Ad (fun K6 hK6=>?_))
 refine Aa (Ab 1 (Ac (hK6 _ _ _ ?_)))
 refine Ao (Bl xs k) Ae (fun h7=>?_) (fun h8=>?_)
 ·refine Ad (fun K9 hK9=>?_)
  have hps_:=F9 dN hs h7
  refine Aa (Ab 3 (Ah (Ys.ld (a:=⟨tb,0,none⟩) rfl Ae Tryz.isAgg161 (fun w_ h_=>by have x_:=(htb.mem0 h_).ld (q:=0) (v:=Value.slice a xs.length cap) rfl;rw[Br]at x_;exact x_)) (Ab 1 (Ah (v:=Value.pointer (some (Co a ((Be LO.int xs k)*6)))) (Bm fun w_ h_=>Av (k:=.i64) (a:=a) (len:=xs.length) (cap:=cap) (i:=(Be LO.int xs k:Int)) (sz:=6) rfl Ae Ae Tryz.runUnderlying161 Tryz.sizeOf223 Ag Ag ((hls.mem0 h_).here (by rw[B6 (g:=Hy) (sz:=6) (fun _=>rfl)];first|omega|(simp;omega)))) ?_))))
  refine Ab 1 (Ah (v:=aV (Q5 k xs)) (Ys.ldN (a:=(Co a ((Be LO.int xs k)*6)).add 1) (vs:=(Q5 k xs)) rfl Ae Tryz.isAgg47 Tryz.sizeOf47 rfl (fun w_ h_=>(hls.mem0 h_).ldNF (We (g:=Hy) (sz:=6) (fun _=>rfl) dN (xs:=xs) (k:=Be LO.int xs k) Ag 1 5 rfl))) (Ai rfl (A4 p4 0 0 0 (Q5 k xs) Tryz.sizeOf47 rfl rfl) (fun _=>Ab 1 (Ac ?_))))
  refine hK9 _ _ _ (Aq (fn:=Tryz.f60) rfl (fun w_ hS_=>B9 rfl (Bq p4 0 0 0 [iV .u8 (((xs.getD (Be LO.int xs k) dN).2).1),iV .u32 (((xs.getD (Be LO.int xs k) dN).2).2.1),iV .u32 (((xs.getD (Be LO.int xs k) dN).2).2.2.1),iV .u16 (((xs.getD (Be LO.int xs k) dN).2).2.2.2.1),iV .u16 (((xs.getD (Be LO.int xs k) dN).2).2.2.2.2)] Tryz.isAgg47 Tryz.sizeOf47) (Aw (bV true)) hS_ ⟨by clear hK1 hK3 hK4 hK6 hK9;refine congrArg Ending.returned ?_;rw[Nt dN hs h7,h7];try rfl,hS_.below⟩))
 ·refine Ak (hK3 _ _ _ (Ad (fun K12 hK12=>Aa (Ah (A0 p4 0 0 0 Y6 Tryz.isAgg47 Tryz.sizeOf47) ?_))))
  refine Ai rfl (A4 p4 0 0 0 Y6 Tryz.sizeOf47 rfl rfl) (fun _=>Ab 1 (Ac (hK12 _ _ _ (Aq (fn:=Tryz.f60) rfl (fun w_ hS_=>B9 rfl (Bq p4 0 0 0 Y6 Tryz.isAgg47 Tryz.sizeOf47) (Aw (bV false)) hS_ ⟨by clear hK1 hK3 hK4 hK6 hK12;refine congrArg Ending.returned ?_;rw[Is h8,h8];try rfl,hS_.below⟩)))))
theorem Ahr(most:Int)(w:World):Calls Tryz.prog 34 #[iV .i64 most,Value.func (.func 35) #[] #[]] w (Bj w (fun _:Nat=>True) (fun b=>.pointer (some ⟨b,0,none⟩)) [] (fun b=>[[cb b [sL none 0 0,iV .i64 (D3 most 0),Value.func (.func 35) #[] #[]] 163]])):=by
 refine Ar (M:=[]) (LL:=[]) (n:=10) Tryz.func34 rfl rfl A5 (Mem.refl _) (Ad (fun K1 hK1=>?_))
 refine Aa (Ab 1 (Ac (hK1 _ _ _ (Ad (fun K2 hK2=>?_)))))
 refine Aa (Ab 4 ?_)
 have hm3:=Ik most 0
 refine Ai rfl (Bx [sL none 0 0,iV .i64 (D3 most 0),Value.func (.func 35) #[] #[]] rfl) (fun p9=>Ab 1 (Ac (hK2 _ _ _ (Aq (fn:=Tryz.f34) rfl (fun w_ hS_=>Bb rfl (Aw (pV p9 0)) hS_ ⟨p9,trivial,rfl,(hS_.pick [0] Al rfl)⟩)))))
end Go.Proofs.YtmonlaoaengfdaaGreatDoor.Oct
