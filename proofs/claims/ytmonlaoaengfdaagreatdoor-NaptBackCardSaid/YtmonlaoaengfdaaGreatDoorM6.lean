import Derived.Test.YtmonlaoaengfdaaGreatDoorM3
import Derived.Test.YtmonlaoaengfdaaGreatDoorM5
import Derived.Test.YtmonlaoaengfdaaGreatDoorChecked
import Derived.Test.YtmonlaoaengfdaaGreatDoorM1
import Derived.Test.YtmonlaoaengfdaaGreatDoorM2
set_option linter.unusedVariables false
set_option linter.unusedSimpArgs false
set_option maxRecDepth 20000
namespace Go.Proofs.YtmonlaoaengfdaaGreatDoor.Oct
open Go.RowKit Base
attribute [local irreducible] Ys Yc Ht HtS HtIn Wl Wd W Mem pf D4 Wa Wo
open ZW
def Fv(a b:Int):Int:=bif decide (a<b)then-1 else bif decide (a>b)then 1 else 0
theorem Wk(a b:Int):Fv a b<0↔a<b:=by
  unfold Fv
  by_cases h:a<b
  · rw[decide_eq_true h];simp[h]
  · rw[decide_eq_false h]
    by_cases h2:a>b
    · rw[decide_eq_true h2];simp;omega
    · rw[decide_eq_false h2];simp;omega
theorem Wm(a b:Int):Fv a b=0↔a=b:=by
  unfold Fv
  by_cases h:a<b
  · rw[decide_eq_true h];simp;omega
  · rw[decide_eq_false h]
    by_cases h2:a>b
    · rw[decide_eq_true h2];simp;omega
    · rw[decide_eq_false h2];simp;omega
def Lt(ks:List Int)(k:Int):Nat:=(ks.takeWhile fun x=> !(x==k)).length
def Lv(ks:List Int)(k:Int):Int:=bif decide (Lt ks k<ks.length)then(Lt ks k:Int)else-1
theorem Ahx(ks:List Int)(k:Int):Lt ks k≤ks.length:=(List.takeWhile_sublist _).length_le
theorem Jj{k:Int}: ∀{ks:List Int} {i:Nat},i≤Lt ks k→i<ks.length→(ks.getD i 0=k↔Lt ks k=i)
  | [],i,_,h=>by simp at h
  |x::ks,i,hi,h=>by
    unfold Lt at hi⊢
    rw[List.takeWhile_cons]at hi⊢
    by_cases hx:x=k
    · subst hx
      simp only[beq_self_eq_true,Bool.not_true,Bool.false_eq_true,if_false,List.length_nil]at hi⊢
      obtain rfl:i=0:=by omega
      simp
    · rw[if_pos (by simpa using hx)]at hi⊢
      rw[List.length_cons]at hi⊢
      cases i with
      |zero=>simp only[List.getD_cons_zero];constructor;exact fun h=>absurd h hx;intro h;omega
      |succ i=>
        have:=Jj (k:=k) (ks:=ks) (i:=i) (by unfold Lt;omega) (by simpa using h)
        unfold Lt at this
        rw[List.getD_cons_succ,this];omega
theorem Wn{ks:List Int}{k:Int}(h:Lt ks k<ks.length):ks.getD (Lt ks k) 0=k:=(Jj (Nat.le_refl _) h).2 rfl
theorem R7{ks:List Int}{k:Int}(h:Lv ks k≥0):Lt ks k<ks.length∧Lv ks k=(Lt ks k:Int):=by
  unfold Lv at h⊢
  by_cases hh:Lt ks k<ks.length
  · rw[decide_eq_true hh];exact⟨hh,rfl⟩
  · rw[decide_eq_false hh]at h;exact absurd (show(-1:Int)≥0 from h) Al
theorem Ad4{ks:List Int}{k:Int}(h:Lv ks k≥0):(Lv ks k).toNat=Lt ks k∧Lt ks k<ks.length:=by
  obtain⟨a,b⟩:=R7 h;rw[b];exact⟨rfl,a⟩
theorem Wp{ks:List Int}{k:Int}:Lt ks k<ks.length↔k∈ks:=by
  constructor
  · intro h
    have:=Wn h
    rw[List.getD_eq_getElem?_getD,List.getElem?_eq_getElem h]at this
    rw[←this];exact List.getElem_mem h
  · intro h
    obtain⟨i,hi,he⟩:=List.getElem_of_mem h
    rcases Nat.lt_or_ge (Lt ks k) ks.length with hl|hl
    · exact hl
    · have h2:=(Jj (k:=k) (ks:=ks) (i:=i) Ag hi).1 (by rw[List.getD_eq_getElem?_getD,List.getElem?_eq_getElem hi];exact he)
      omega
def Gr(x:Int×Int):List Value:=[.int .u64 x.1,.int .u64 x.2]
theorem Ga(x:Int×Int):(Gr x).length=2:=rfl
theorem R8(x:Int×Int): ∀v∈Gr x,v.oneCell'=true:=fun v hv=>by
  simp only[Gr,List.mem_cons,List.not_mem_nil,or_false]at hv
  rcases hv with rfl|rfl<;>rfl
def or2(x y:Int):Int:=bif x !=0 then x else bif y !=0 then y else 0
def Jk(x y:Int×Int):Int:=or2 (Fv x.1 y.1) (Fv x.2 y.2)
def LtS(x y:Int×Int):Prop:=x.1<y.1∨x.1=y.1∧x.2<y.2
instance (x y:Int×Int):Decidable (LtS x y):=by unfold LtS;exact inferInstance
theorem Wq{x y:Int×Int}:Jk x y<0↔LtS x y:=by
  have h1:=Wk x.1 y.1;have h2:=Wm x.1 y.1;have h3:=Wk x.2 y.2;have h4:=Wm x.2 y.2
  unfold Jk or2 LtS
  by_cases h:Fv x.1 y.1=0
  · rw[show(Fv x.1 y.1 !=0)=false by simp[h]]
    by_cases h':Fv x.2 y.2=0
    · rw[show(Fv x.2 y.2 !=0)=false by simp[h']];simp only[cond_false];have:=h2.1 h;have:=h4.1 h';omega
    · rw[show(Fv x.2 y.2 !=0)=true by simp[h']];simp only[cond_false,cond_true];have:=h2.1 h;omega
  · rw[show(Fv x.1 y.1 !=0)=true by simp[h]];simp only[cond_true]
    have:x.1≠y.1:=fun e=>h (h2.2 e)
    omega
def Fp(xs:List (Int×Int))(x:Int×Int):Nat:=(xs.takeWhile fun p=>decide (LtS p x)).length
def Py(xs:List (Int×Int)):Prop:=xs.Pairwise LtS
theorem R9(xs:List (Int×Int))(x:Int×Int):Fp xs x≤xs.length:=(List.takeWhile_sublist _).length_le
theorem LtS.trans{x y z:Int×Int}(h:LtS x y)(g:LtS y z):LtS x z:=by unfold LtS at*;omega
theorem H8{k:Int×Int}: ∀{xs:List (Int×Int)},Py xs→ ∀{h:Nat},h<xs.length→(LtS (xs.getD h (0,0)) k↔h<Fp xs k)
  | [],_,h,hh=>by simp at hh
  |x::xs,hs,h,hh=>by
    have hs':=List.pairwise_cons.1 hs
    unfold Fp
    rw[List.takeWhile_cons]
    by_cases hx:LtS x k
    · rw[if_pos (by simpa using hx),List.length_cons]
      cases h with
      |zero=>simpa using hx
      |succ h=>
        have:=H8 (k:=k) hs'.2 (h:=h) (by simpa using hh)
        unfold Fp at this
        rw[List.getD_cons_succ,this];omega
    · rw[if_neg (by simpa using hx),List.length_nil]
      cases h with
      |zero=>simp only[List.getD_cons_zero];exact⟨fun h=>absurd h hx,fun h=>by omega⟩
      |succ h=>
        have h1:=hs'.1 (xs.getD h (0,0)) (by
          have:h<xs.length:=by simpa using hh
          rw[List.getD_eq_getElem?_getD,List.getElem?_eq_getElem this];exact List.getElem_mem _)
        rw[List.getD_cons_succ];exact⟨fun h=>absurd (h1.trans h) hx,fun h=>by omega⟩
def Cu(xs:List (Int×Int)):List Int:=xs.map Prod.snd
theorem F3(xs:List (Int×Int)):(Cu xs).length=xs.length:=List.length_map _
theorem Mj{xs:List (Int×Int)}{i:Nat}(h:i<xs.length):(Cu xs).getD i 0=(xs.getD i (0,0)).2:=by
  simp[Cu,List.getD_eq_getElem?_getD,List.getElem?_map,List.getElem?_eq_getElem h]
def Fj(xs:List (Int×Int))(k:Int):List (Int×Int):=bif decide (Lv (Cu xs) k≥0)then xs.take (Lt (Cu xs) k)++xs.drop (Lt (Cu xs) k+1)else xs
def Pz(xs:List (Int×Int))(x:Int×Int):List (Int×Int):=xs.take (Fp xs x)++x::xs.drop (Fp xs x)
def I2(xs:List (Int×Int))(k a:Int):List (Int×Int):=Pz (Fj xs k) (a,k)
theorem Sa(xs:List (Int×Int))(k:Int):(Fj xs k).length≤xs.length:=by
  unfold Fj;cases decide (Lv (Cu xs) k≥0)
  · exact Nat.le_refl _
  · simp only[cond_true,List.length_append,List.length_take,List.length_drop];omega
theorem Z4(xs:List (Int×Int))(x:Int×Int):(Pz xs x).length=xs.length+1:=by
  have:=R9 xs x
  unfold Pz;simp only[List.length_append,List.length_take,List.length_cons,List.length_drop];omega
theorem Z5(xs:List (Int×Int))(k a:Int):(I2 xs k a).length≤xs.length+1:=by
  unfold I2;rw[Z4];have:=Sa xs k;omega
theorem Ty(xs:List (Int×Int))(k:Int):(Fj xs k).Sublist xs:=by
  unfold Fj;cases decide (Lv (Cu xs) k≥0)
  · exact List.Sublist.refl _
  · simp only[cond_true]
    conv=>rhs;rw[←List.take_append_drop (Lt (Cu xs) k) xs]
    exact(List.Sublist.refl _).append (List.drop_sublist_drop_left _ Ag)
theorem Tz{xs:List (Int×Int)}(h:Py xs)(k:Int):Py (Fj xs k):=h.sublist (Ty xs k)
theorem O1{xs:List (Int×Int)}{k:Int}(hn:(Cu xs).Nodup){p:Int×Int}:p∈Fj xs k↔p∈xs∧p.2≠k:=by
  unfold Fj
  by_cases ha:Lv (Cu xs) k≥0
  · obtain⟨h1,h2⟩:=Ad4 ha
    have h3:=Wn h2
    rw[decide_eq_true ha];simp only[cond_true]
    generalize Lt (Cu xs) k=i at h2 h3
    rw[F3]at h2
    obtain⟨a,x,b,rfl,hl⟩: ∃a x b,xs=a++x::b∧a.length=i:=⟨xs.take i,xs[i],xs.drop (i+1),by rw[List.getElem_cons_drop,List.take_append_drop],by rw[List.length_take];omega⟩
    subst hl
    rw[Mj A5]at h3
    have hx:x.2=k:=by simpa [List.getD_eq_getElem?_getD]using h3
    have e1:(a++x::b).take a.length=a:=List.take_left
    have e2:(a++x::b).drop (a.length+1)=b:=by rw[show a++x::b=(a++[x])++b by simp,show a.length+1=(a++[x]).length by simp,List.drop_left]
    rw[e1,e2]
    have hn2:(a.map Prod.snd++x.2::b.map Prod.snd).Nodup:=by simpa [Cu]using hn
    rw[List.nodup_append]at hn2
    obtain⟨-,hb,hab⟩:=hn2
    have hb':=List.nodup_cons.1 hb
    have hA: ∀p∈a,p.2≠k:=fun p hp e=>hab p.2 (List.mem_map.2 ⟨p,hp,rfl⟩) x.2 (List.mem_cons_self ..) (by rw[e,hx])
    have hB: ∀p∈b,p.2≠k:=fun p hp e=>hb'.1 (by rw[hx,←e];exact List.mem_map.2 ⟨p,hp,rfl⟩)
    simp only[List.mem_append,List.mem_cons]
    constructor
    · rintro(h|h)
      · exact⟨.inl h,hA p h⟩
      · exact⟨.inr (.inr h),hB p h⟩
    · rintro⟨h|rfl|h,hne⟩
      · exact .inl h
      · exact absurd hx hne
      · exact .inr h
  · rw[decide_eq_false ha]
    simp only[cond_false]
    refine⟨fun h=>⟨h,fun e=>ha ?_⟩,fun h=>h.1⟩
    have hm:k∈Cu xs:=by rw[←e];exact List.mem_map.2 ⟨p,h,rfl⟩
    have:=Wp.2 hm
    unfold Lv;rw[decide_eq_true this];simp only[cond_true];omega
theorem Z6{xs:List (Int×Int)}{x p:Int×Int}:p∈Pz xs x↔p=x∨p∈xs:=by
  unfold Pz
  conv=>rhs;rw[←List.take_append_drop (Fp xs x) xs]
  simp only[List.mem_append,List.mem_cons]
  constructor
  · rintro(h|h|h)
    · exact .inr (.inl h)
    · exact .inl h
    · exact .inr (.inr h)
  · rintro(h|h|h)
    · exact .inr (.inl h)
    · exact .inl h
    · exact .inr (.inr h)
theorem X4(xs:List (Int×Int))(x:Int×Int):(Pz xs x).Perm (x::xs):=by
  unfold Pz
  refine List.perm_middle.trans ?_
  rw[List.take_append_drop]
theorem Z7{xs:List (Int×Int)}(h:Py xs){x:Int×Int}(hx: ∀p∈xs,p.2≠x.2):Py (Pz xs x):=by
  have hge: ∀p∈xs.drop (Fp xs x),LtS x p:=by
    intro p hp
    obtain⟨j,hj,e⟩:=List.getElem_of_mem hp
    rw[List.getElem_drop]at e
    have hl:Fp xs x+j<xs.length:=by rw[List.length_drop]at hj;omega
    have:=mt (H8 (k:=x) h hl).1 Ag
    rw[List.getD_eq_getElem?_getD,List.getElem?_eq_getElem hl,Option.getD_some,e]at this
    have hne:=hx p (by rw[←e];exact List.getElem_mem hl)
    unfold LtS at this⊢;omega
  have hlt: ∀p∈xs.take (Fp xs x),LtS p x:=by
    intro p hp
    obtain⟨j,hj,e⟩:=List.getElem_of_mem hp
    rw[List.getElem_take]at e
    rw[List.length_take]at hj
    have:=(H8 (k:=x) h (h:=j) Ag).2 Ag
    rw[List.getD_eq_getElem?_getD,List.getElem?_eq_getElem Ag,Option.getD_some,e]at this;exact this
  unfold Pz Py
  rw[List.pairwise_append]
  refine⟨h.sublist (List.take_sublist _ _),List.pairwise_cons.2 ⟨hge,h.sublist (List.drop_sublist _ _)⟩,fun a ha b hb=>?_⟩
  rcases List.mem_cons.1 hb with rfl|hb
  · exact hlt a ha
  · exact(hlt a ha).trans (hge b hb)
structure OkS(xs:List (Int×Int)):Prop where
  srt:Py xs
  nd:(Cu xs).Nodup
theorem OkS.nil:OkS []:=⟨List.Pairwise.nil,List.nodup_nil⟩
theorem OkS.cut{xs:List (Int×Int)}(h:OkS xs)(k:Int):OkS (Fj xs k):=⟨Tz h.srt k,h.nd.sublist ((Ty xs k).map _)⟩
theorem OkS.set{xs:List (Int×Int)}(h:OkS xs)(k a:Int):OkS (I2 xs k a):=by
  have hk: ∀p∈Fj xs k,p.2≠k:=fun p hp=>((O1 h.nd).1 hp).2
  refine⟨Z7 (h.cut k).srt hk,?_⟩
  have hp:=((X4 (Fj xs k) (a,k)).map Prod.snd).nodup_iff.2
  refine hp ?_
  rw[List.map_cons]
  refine List.nodup_cons.2 ⟨fun hm=>?_,(h.cut k).nd⟩
  obtain⟨p,hp,e⟩:=List.mem_map.1 hm
  exact hk p hp e
theorem OkS.drop{xs:List (Int×Int)}(h:OkS xs)(n:Nat):OkS (xs.drop n):=⟨h.srt.sublist (List.drop_sublist _ _),h.nd.sublist ((List.drop_sublist _ _).map _)⟩
theorem Aaa{xs:List (Int×Int)}(h:OkS xs){k a:Int}{p:Int×Int}:p∈I2 xs k a↔p=(a,k)∨p∈xs∧p.2≠k:=by
  unfold I2;rw[Z6,O1 h.nd]
theorem Aab(x:Int)(w:World):Calls Tryz.prog 68 #[iV .u64 x] w (Dc w (.bool false)):=by
 refine Ar (M:=[]) (LL:=[]) (n:=6) Tryz.func68 rfl rfl A5 (Mem.refl _) (Ad (fun K1 hK1=>?_))
 refine Aa (Ab 1 (Ac (hK1 _ _ _ (Ad (fun K2 hK2=>?_)))))
 refine Aa (Ab 4 (Ac (hK2 _ _ _ (Aq (fn:=Tryz.f68) rfl (fun w_ hS_=>Bb rfl (Aw (bV (x !=x))) hS_ ⟨by clear hK1 hK2;refine congrArg Ending.returned ?_;exact Cj A5,hS_.below⟩)))))
theorem Aac(a b:Int)(w:World):Calls Tryz.prog 35 #[iV .u64 a,iV .u64 b] w (Dc w (.int .i64 (Fv a b))):=by
 refine Ar (M:=[]) (LL:=[]) (n:=20) Tryz.func35 rfl rfl A5 (Mem.refl _) (Ad (fun K1 hK1=>?_))
 refine Aa (Ab 1 (Ac (hK1 _ _ _ (Ad (fun K2 hK2=>?_)))))
 refine Aa (Ab 1 (B0 (v:=bV false) (A9 (fun w_ hm_=>(Aab a _))) (Ab 1 (Ac ?_))))
 refine hK2 _ _ _ (Ad (fun K4 hK4=>?_))
 refine Aa (Ab 1 (B0 (v:=bV false) (A9 (fun w_ hm_=>(Aab b _))) (Ab 1 (Ac ?_))))
 refine hK4 _ _ _ (Ad (fun K6 hK6=>?_))
 refine Ad (fun K7 hK7=>Aa (Ab 1 (Ac (hK7 _ _ _ ?_))))
 refine B4 Ae (Ak (hK6 _ _ _ (Ad (fun K9 hK9=>Ad (fun K10 hK10=>?_)))))
 refine Aa (Ab 1 (Ac (hK10 _ _ _ (B4 Ae ?_))))
 refine Ak (hK9 _ _ _ (Ad (fun K12 hK12=>Ad (fun K13 hK13=>Aa ?_))))
 refine Ab 3 (Ac (hK13 _ _ _ ?_))
 refine Ao (decide (a<b)) Ae (fun h15=>?_) (fun h16=>?_)
 ·have qh15:=h15;try simp only[zA]at qh15
  refine Ad (fun K17 hK17=>Aa (Ab 1 (Ac (hK17 _ _ _ ?_))))
  refine Aq (fn:=Tryz.f35) rfl (fun w_ hS_=>Bb rfl (Aw (iV .i64 (-1))) hS_ ⟨by clear hK1 hK2 hK4 hK6 hK7 hK9 hK10 hK12 hK13 hK17;refine congrArg Ending.returned ?_;simp only[Fv,h15,cond_true,cond_false];try rfl,hS_.below⟩)
 ·have qh16:=h16;try simp only[zA]at qh16
  refine Ak (hK12 _ _ _ (Ad (fun K19 hK19=>Ad (fun K20 hK20=>Aa ?_))))
  refine Ab 3 (Ac (hK20 _ _ _ ?_))
  refine Ao (decide (a>b)) Ae (fun h22=>?_) (fun h23=>?_)
  ·have qh22:=h22;try simp only[zA]at qh22
   refine Ad (fun K24 hK24=>Aa (Ab 1 (Ac (hK24 _ _ _ ?_))))
   refine Aq (fn:=Tryz.f35) rfl (fun w_ hS_=>Bb rfl (Aw (iV .i64 1)) hS_ ⟨by clear hK1 hK2 hK4 hK6 hK7 hK9 hK10 hK12 hK13 hK19 hK20 hK24;refine congrArg Ending.returned ?_;simp only[Fv,h16,h22,cond_true,cond_false];try rfl,hS_.below⟩)
  ·have qh23:=h23;try simp only[zA]at qh23
   refine Ak (hK19 _ _ _ (Ad (fun K26 hK26=>Aa (Ab 1 ?_))))
   refine Ac (hK26 _ _ _ (Aq (fn:=Tryz.f35) rfl (fun w_ hS_=>Bb rfl (Aw (iV .i64 0)) hS_ ⟨by clear hK1 hK2 hK4 hK6 hK7 hK9 hK10 hK12 hK13 hK19 hK20 hK26;refine congrArg Ending.returned ?_;simp only[Fv,h16,h23,cond_true,cond_false];try rfl,hS_.below⟩)))
theorem Ald(x y:Int)(a:Option Addr)(cap:Nat)(w:World)(hat:At w a [.int .i64 x,.int .i64 y]):Calls Tryz.prog 64 #[sL a 2 cap] w (Dc w (.int .i64 (or2 x y))):=by
 refine Ar (M:=[]) (LL:=[]) (n:=18) Tryz.func64 rfl rfl A5 (Mem.refl _) (Ad (fun K1 hK1=>?_))
 refine Aa (Ab 1 (Ac (hK1 _ _ _ (Ad (fun K2 hK2=>?_)))))
 refine Aa (Ab 1 (Ac (hK2 _ _ _ (Ad (fun K3 hK3=>?_)))))
 refine Ad (fun K4 hK4=>Aa (Ab 3 (Ac (hK4 _ _ _ ?_))))
 refine W.block (H7 3 (C4 (fun J6 hJ6=>Ad (fun K7 hK7=>Aa ?_))))
 refine Ab 1 (Ac (hK7 _ _ _ (Ad (fun K8 hK8=>B5 Ae ?_))))
 refine Ak (hK8 _ _ _ (Ad (fun K10 hK10=>W.block (Ad (fun K11 hK11=>?_)))))
 refine Aa (Ah (v:=pL (some (Co a 0))) (Bm fun w_ h_=>Av (k:=.i64) (a:=a) (len:=2) (cap:=cap) (i:=0) (sz:=1) rfl Ae Ae Tryz.runUnderlying224 Tryz.sizeOf3 Al Al ((hat.mem0 h_).here Ps)) (Ah (Ys.ld (a:=Co a 0) rfl Ae Tryz.isAgg3 (fun w_ h_=>(hat.mem0 h_).ld (v:=iV .i64 x) rfl)) (Ab 1 (Ac ?_))))
 refine hK11 _ _ _ (Ad (fun K13 hK13=>?_))
 refine Aa (Ab 3 (Ac (hK13 _ _ _ ?_)))
 refine Ao (x !=0) Ae (fun h15=>?_) (fun h16=>?_)
 ·have qh15:=h15;try simp only[zA]at qh15
  refine Ad (fun K17 hK17=>Aa (Ab 2 (Ac (hK17 _ _ _ ?_))))
  refine Aq (fn:=Tryz.f64) rfl (fun w_ hS_=>Bb rfl (Aw (iV .i64 x)) hS_ ⟨by clear hK1 hK2 hK3 hK4 hJ6 hK7 hK8 hK10 hK11 hK13 hK17;refine congrArg Ending.returned ?_;simp only[or2,h15,cond_true,cond_false];try rfl,hS_.below⟩)
 ·have qh16:=h16;try simp only[zA]at qh16
  refine Ak (hK10 _ _ _ (Aa (Ab 2 (Ac ?_))))
  refine hJ6 _ _ _ (C4 (fun J20 hJ20=>?_))
  refine Ad (fun K22 hK22=>Aa (Ab 1 (Ac (hK22 _ _ _ ?_))))
  refine Ad (fun K23 hK23=>B5 Ae (Ak (hK23 _ _ _ (Ad (fun K25 hK25=>?_)))))
  refine W.block (Ad (fun K26 hK26=>?_))
  refine Aa (Ah (v:=pL (some (Co a 1))) (Bm fun w_ h_=>Av (k:=.i64) (a:=a) (len:=2) (cap:=cap) (i:=1) (sz:=1) rfl Ae Ae Tryz.runUnderlying224 Tryz.sizeOf3 Al Al ((hat.mem0 h_).here Ps)) (Ah (Ys.ld (a:=Co a 1) rfl Ae Tryz.isAgg3 (fun w_ h_=>(hat.mem0 h_).ld (v:=iV .i64 y) rfl)) (Ab 1 (Ac ?_))))
  refine hK26 _ _ _ (Ad (fun K28 hK28=>?_))
  refine Aa (Ab 3 (Ac (hK28 _ _ _ ?_)))
  refine Ao (y !=0) Ae (fun h30=>?_) (fun h31=>?_)
  ·have qh30:=h30;try simp only[zA]at qh30
   refine Ad (fun K32 hK32=>Aa (Ab 2 (Ac (hK32 _ _ _ ?_))))
   refine Aq (fn:=Tryz.f64) rfl (fun w_ hS_=>Bb rfl (Aw (iV .i64 y)) hS_ ⟨by clear hK1 hK2 hK3 hK4 hJ6 hK7 hK8 hK10 hK11 hK13 hJ20 hK22 hK23 hK25 hK26 hK28 hK32;refine congrArg Ending.returned ?_;simp only[or2,h16,h30,cond_true,cond_false];try rfl,hS_.below⟩)
  ·have qh31:=h31;try simp only[zA]at qh31
   refine Ak (hK25 _ _ _ (Aa (Ab 2 (Ac ?_))))
   refine hJ20 _ _ _ (C4 (fun J35 hJ35=>?_))
   refine Ad (fun K37 hK37=>Aa (Ab 1 (Ac (hK37 _ _ _ ?_))))
   refine Ad (fun K38 hK38=>B4 Ae (Cr (hK3 _ _ _ (Ad (fun K40 hK40=>?_)))))
   refine Aa (Ab 2 (Ac (hK40 _ _ _ (Aq (fn:=Tryz.f64) rfl (fun w_ hS_=>Bb rfl (Aw (iV .i64 0)) hS_ ⟨by clear hK1 hK2 hK3 hK4 hJ6 hK7 hK8 hK10 hK11 hK13 hJ20 hK22 hK23 hK25 hK26 hK28 hJ35 hK37 hK38 hK40;refine congrArg Ending.returned ?_;simp only[or2,h16,h31,cond_true,cond_false];try rfl,hS_.below⟩)))))
theorem Aad(a k b l:Int)(w:World):Calls Tryz.prog 142 #[aV [iV .u64 a,iV .u64 k],aV [iV .u64 b,iV .u64 l]] w (Dc w (.int .i64 (Jk (a,k) (b,l)))):=by
 refine Ar (M:=[]) (LL:=[]) (n:=17) Tryz.func142 rfl rfl A5 (Mem.refl _) (Ad (fun K1 hK1=>?_))
 refine Aa (Ai rfl (Bx [iV .u64 a,iV .u64 k] rfl) (fun p2=>?_))
 refine Ai rfl (Bx [iV .u64 b,iV .u64 l] rfl) (fun p3=>Ab 1 (Ac (hK1 _ _ _ (Ad (fun K3 hK3=>?_)))))
 refine Dh [(0,true),(1,true),(2,true),(3,true),(5,true),(6,true),(7,true),(8,true),(4,false),(9,false),(10,false),(11,false),(12,false)] [0,1,2,3,5,6,7,8] (Ay 1 (Wd.ys rfl rfl rfl (An p2 0 1 0 Tryz.isAgg45) (Ay 1 (Wd.ys rfl rfl rfl (An p3 0 0 0 Tryz.isAgg45) ?_))))
 refine Ay 1 (Wd.ys rfl rfl rfl (An p2 1 1 0 Tryz.isAgg45) (Ay 1 (Wd.ys rfl rfl rfl (An p3 1 0 0 Tryz.isAgg45) (Wd.yc (v:=iV .i64 (Fv a b)) rfl rfl rfl (A9 (fun w_ hm_=>(Aac a b _))) (.inr fun _ h_=>h_) ?_))))
 refine Wd.yc (v:=iV .i64 (Fv k l)) rfl rfl rfl (A9 (fun w_ hm_=>(Aac k l _))) (.inr fun _ h_=>h_) (B8 rfl rfl (Bd (mk:=fun b_=>.slice (some ⟨b_,0,none⟩) 2 2) (t:=3) (cs:=[iV .i64 (Fv a b),iV .i64 (Fv k l)]) rfl (fun _=>kr)) (.inr fun _ _ h_=>h_.pick [1,2] Al rfl) (fun p15=>?_))
 refine Wd.yc (v:=iV .i64 (or2 (Fv a b) (Fv k l))) rfl rfl rfl (A9 (fun w_ hm_=>(Ald (Fv a b) (Fv k l) (some ⟨p15,0,none⟩) 2 _ (Az (i:=0) (j:=0) (t:=3) (b:=p15) hm_ rfl rfl)))) (.inr fun _ h_=>h_.pick [1,2] Al rfl) (Wd.yc (v:=iV .i64 (or2 (Fv a b) (Fv k l))) rfl rfl rfl (Ys.yc (Ys.p)) (.inl Ae) (A7 (hK3 _ _ _ (Ap [] Al rfl ?_))))
 refine Aq (fn:=Tryz.f142) rfl (fun w_ hS_=>Bb rfl (Aw (iV .i64 (or2 (Fv a b) (Fv k l)))) hS_ ⟨rfl,hS_.below⟩)
theorem Ale(a l k:Int)(pk:Nat)(M:List Nat)(w:World)(hl:Mem w M [[cb pk [Value.int .u64 k] 45]] w):Calls Tryz.prog 167 #[aV [iV .u64 a,iV .u64 l],pV pk 0] w (Bj w (fun _:Unit=>True) (fun _=>bV (l==k)) M (fun _=>[[cb pk [iV .u64 k] 45]])):=by
 refine Ar (M:=M) (LL:=[[cb pk [iV .u64 k] 45]]) (n:=8) Tryz.func167 rfl rfl A5 (hl) (Ad (fun K1 hK1=>?_))
 refine Aa (Ai rfl (Bx [iV .u64 a,iV .u64 l] rfl) (fun p2=>?_))
 refine Ab 1 (Ac (hK1 _ _ _ (Ad (fun K3 hK3=>Aa ?_))))
 refine Ab 1 (Ah (An p2 1 0 0 Tryz.isAgg45) (Ah (An pk 0 1 0 Tryz.isAgg45) (Ab 2 (Ac ?_))))
 refine hK3 _ _ _ (Ap [1] Al rfl (Aq (fn:=Tryz.f167) rfl (fun w_ hS_=>Bb rfl (Aw (bV (l==k))) hS_ ⟨(),trivial,rfl,(hS_.pick [0] Al rfl)⟩)))
theorem Alf(xs:List (Int×Int))(k:Int)(g:FS)(pk:Nat)(M:List Nat)(w:World)(hl:Mem w M [g.seg 219 (mm Gr xs),[cb pk [Value.int .u64 k] 45]] w)(ok:g.ok 2 xs.length)(hn:xs.length≤100000):Calls Tryz.prog 166 #[sV g xs.length,Value.func (.func 167) #[] #[pV pk 0]] w (Bj w (fun _:Unit=>True) (fun _=>iV .i64 (Lv (Cu xs) k)) M (fun _=>[g.seg 219 (mm Gr xs),[cb pk [iV .u64 k] 45]])):=by
 refine Ar (M:=M) (LL:=[g.seg 219 (mm Gr xs),[cb pk [iV .u64 k] 45]]) (n:=19) Tryz.func166 rfl rfl A5 (hl) (Ad (fun K1 hK1=>?_))
 refine Aa (Ab 1 (Ac (hK1 _ _ _ (Ad (fun K2 hK2=>?_)))))
 refine Ad (fun K3 hK3=>Aa (Ab 3 (Ac (hK3 _ _ _ ?_))))
 refine W.block (Ep [0,1,7,8] (fun(i:Nat)=>[sV g xs.length,Value.func (.func 167) #[] #[pV pk 0],nV .i64 xs.length,nV .i64 i]) (fun(i:Nat)=>i≤Lt (Cu xs) k∧i≤xs.length) (fun(i:Nat)=>[g.seg 219 (mm Gr xs),[cb pk [iV .u64 k] 45]]) (fun(i:Nat)=>xs.length-i) 0 Ae ⟨(Nat.zero_le _),(Nat.zero_le _)⟩ (by rfl) (fun i f6 J5 hp7 hJ5=>?_))
 obtain⟨hi,hin⟩:=hp7
 refine Ad (fun K8 hK8=>Aa (Ab 1 (Ac (hK8 _ _ _ ?_))))
 refine Ad (fun K9 hK9=>?_)
 refine Ao (decide (((i:Nat):Int)<(xs.length:Int))) Ae (fun h10=>?_) (fun h11=>?_)
 ·have qh10:=h10;try simp only[zA]at qh10
  refine Ak (hK9 _ _ _ (Ad (fun K13 hK13=>W.block (Ad (fun K14 hK14=>?_)))))
  refine Aa (Ab 2 (Ac (hK14 _ _ _ (Ad (fun K16 hK16=>?_)))))
  refine Aa (Ab 3 (Ah (v:=pL (some (Co g.a (i*2)))) (Av (k:=.i64) (a:=g.a) (len:=xs.length) (cap:=g.cap) (i:=(i:Int)) (sz:=2) rfl Ae Ae Tryz.runUnderlying148 Tryz.sizeOf219 Ag Ag Xx) (Ah (v:=aV [iV .u64 ((xs.getD i (0,0)).1),iV .u64 ((xs.getD i (0,0)).2)]) (Ys.ldN (a:=Co g.a (i*2)) (vs:=[iV .u64 ((xs.getD i (0,0)).1),iV .u64 ((xs.getD i (0,0)).2)]) rfl Ae Tryz.isAgg219 Tryz.sizeOf219 rfl (fun w_ h_=>(FS.at (i:=0) (t:=219) h_ rfl (Aj ok (B6 Ga _))).ldN (Ei (g:=Gr) (sz:=2) (fun _=>rfl) (0,0) (xs:=xs) (k:=i) Ag))) (B0 (v:=bV (((xs.getD i (0,0)).2)==k)) (A9 (fun w_ hm_=>(let z_:=Ir (hm_.pick [1] Al rfl);Lp z_ (Ale ((xs.getD i (0,0)).1) ((xs.getD i (0,0)).2) k pk _ w_ z_)))) ?_))))
  refine Ac (hK16 _ _ _ ?_)
  refine Ao (((xs.getD i (0,0)).2)==k) Ae (fun h18=>?_) (fun h19=>?_)
  ·have qh18:=h18;try simp only[zA]at qh18
   refine Ad (fun K20 hK20=>Aa (Ab 2 (Ac (hK20 _ _ _ ?_))))
   refine Aq (fn:=Tryz.f166) rfl (fun w_ hS_=>Bb rfl (Aw (nV .i64 i)) hS_ ⟨(),trivial,congrArg Ending.returned ((by have z_:=(Jj hi (by rw[F3];omega)).1 ((Mj Ag).trans qh18);unfold Lv;rw[decide_eq_true (by rw[F3];omega),z_];rfl)),(hS_.pick [0,1] Al rfl)⟩)
  ·have qh19:=h19;try simp only[zA]at qh19
   refine Ak (hK13 _ _ _ (Aa (Ah (v:=nV .i64 (i+1)) ((Ys.p (v:=.int .i64 (Bt .i64 (i:Int) 1))).conseq (Af (A6 Ag Ag Ag))) (Ab 1 ?_))))
   refine Ac ?_
   refine fun w_ h_=>hJ5 (i+1) _ w_ Ag ⟨(by have z_:=qh19;rw[←Mj Ag]at z_;have y_:=Jj hi (by rw[F3];omega);rcases Nat.lt_or_ge i (Lt (Cu xs) k)with h_|h_;exact h_;exact absurd (y_.2 Ag) z_),Ag⟩ ?_ h_
   kernel_rfl
 ·have qh11:=h11;try simp only[zA]at qh11
  refine Cr (hK2 _ _ _ (Ad (fun K24 hK24=>Aa (Ab 1 ?_))))
  refine Ac (hK24 _ _ _ (Aq (fn:=Tryz.f166) rfl (fun w_ hS_=>Bb rfl (Aw (iV .i64 (-1))) hS_ ⟨(),trivial,congrArg Ending.returned ((by unfold Lv;rw[decide_eq_false (by have z_:=Ahx (Cu xs) k;rw[F3]at z_⊢;omega)];rfl)),(hS_.pick [0,1] Al rfl)⟩)))
theorem Ad6(xs:List (Int×Int))(g:FS)(wb:Nat)(M:List Nat)(k:Int)(w:World)(hl:Mem w M [g.seg 219 (mm Gr xs),[cb wb [sL g.a xs.length g.cap] 150]] w)(ok:g.ok 2 xs.length)(hn:xs.length≤100000):Calls Tryz.prog 126 #[pV wb 0,iV .u64 k] w (Bj w (fun _:Unit=>True) (fun _=>iV .i64 (Lv (Cu xs) k)) M (fun _=>[g.seg 219 (mm Gr xs),[cb wb [sV g xs.length] 150]])):=by
 refine Ar (M:=M) (LL:=[g.seg 219 (mm Gr xs),[cb wb [sV g xs.length] 150]]) (n:=11) Tryz.func126 rfl rfl A5 (hl) (Ad (fun K1 hK1=>?_))
 refine Aa (Ai rfl (Fl (v:=iV .u64 k) (cs:=[iV .u64 k]) rfl rfl Ae rfl) (fun p3=>?_))
 refine Ab 1 (Ac (hK1 _ _ _ (Ad (fun K3 hK3=>Aa ?_))))
 refine Ab 3 (Ah (An wb 0 2 0 Tryz.isAgg148) (Ab 1 (B0 (v:=iV .i64 (Lv (Cu xs) k)) (A9 (fun w_ hm_=>(let z_:=Ir (hm_.pick [1,0] Al rfl);Lp z_ (Alf xs k g p3 _ w_ z_ ok Ag)))) (Ab 1 ?_))))
 refine Ac (hK3 _ _ _ (Ap [1,2] Al rfl (Aq (fn:=Tryz.f126) rfl (fun w_ hS_=>Bb rfl (Aw (iV .i64 (Lv (Cu xs) k))) hS_ ⟨(),trivial,rfl,(hS_.pick [0,1] Al rfl)⟩))))
theorem Alg(xs:List (Int×Int))(x:Int×Int)(g:FS)(M:List Nat)(w:World)(hl:Mem w M [g.seg 219 (mm Gr xs)] w)(ok:g.ok 2 xs.length)(hn:xs.length≤100000)(hs:Py xs):Calls Tryz.prog 141 #[sV g xs.length,aV [iV .u64 x.1,iV .u64 x.2],Value.func (.func 142) #[] #[]] w (Bj w (fun _:Unit=>True) (fun _=>Value.tuple #[nV .i64 (Fp xs x),bV ((decide (((Fp xs x:Nat):Int)<(xs.length:Int)))&&((Jk (xs.getD (Fp xs x) (0,0)) x)==0))]) M (fun _=>[g.seg 219 (mm Gr xs)])):=by
 refine Ar (M:=M) (LL:=[g.seg 219 (mm Gr xs)]) (n:=49) Tryz.func141 rfl rfl A5 (hl) (Ad (fun K1 hK1=>?_))
 refine Aa (Ai rfl (Bx [iV .u64 x.1,iV .u64 x.2] rfl) (fun p4=>?_))
 refine Ab 2 (Ac (hK1 _ _ _ (Ad (fun K3 hK3=>Aa ?_))))
 refine Ab 3 (Ac (hK3 _ _ _ (Ad (fun K5 hK5=>Aa ?_))))
 refine Ab 3 (Ac (hK5 _ _ _ (Ad (fun K7 hK7=>W.block ?_))))
 refine E6 [0,2,4,8,9,10] (fun(i:Nat) (j:Nat)=>[sV g xs.length,Value.func (.func 142) #[] #[],pV p4 0,nV .i64 xs.length,nV .i64 i,nV .i64 j]) (fun(i:Nat) (j:Nat)=>i≤Fp xs x∧Fp xs x≤j∧j≤xs.length) (fun(i:Nat) (j:Nat)=>[[cb p4 [iV .u64 x.1,iV .u64 x.2] 219],g.seg 219 (mm Gr xs)]) (fun(i:Nat) (j:Nat)=>j-i) 0 xs.length Ae ⟨(Nat.zero_le _),(R9 _ _),(Nat.le_refl _)⟩ (by rfl) (fun i j f9 J8 hp10 hJ8=>?_)
 obtain⟨hi,hj,hjn⟩:=hp10
 refine Ad (fun K11 hK11=>Ad (fun K12 hK12=>?_))
 refine Aa (Ab 3 (Ac (hK12 _ _ _ ?_)))
 refine Ao (decide (((i:Nat):Int)<(j:Int))) Ae (fun h14=>?_) (fun h15=>?_)
 ·have qh14:=h14;try simp only[zA]at qh14
  refine Ak (hK11 _ _ _ (W.block (Ad (fun K17 hK17=>Aa ?_))))
  refine Ab 2 (Ah (v:=nV .i64 (i+j)) ((Ys.p (v:=.int .i64 (Bt .i64 (i:Int) (j:Int)))).conseq (Af (A6 Ag Ag Ag))) (Ah (v:=nV .u64 (i+j)) ((Ys.p (v:=.int .u64 (Cg .u64 ((i+j:Nat):Int)))).conseq (Af (Cc Ag Ag))) (Ah (v:=nV .u64 ((i+j)/2)) ((Ys.p (v:=.int .u64 (Jd .u64 ((i+j:Nat):Int) ((1:Nat):Int)))).conseq (Af (El (i+j) 1 Al))) (Ah (v:=nV .i64 ((i+j)/2)) ((Ys.p (v:=.int .i64 (Cg .i64 (((i+j)/2:Nat):Int)))).conseq (Af (Cz Ag Ag))) ?_))))
  refine Ab 1 (Ac (hK17 _ _ _ (Ad (fun K19 hK19=>Dh [(0,true),(1,true),(2,true),(3,true),(4,true),(5,false),(6,false),(7,false)] [0,1,2,3,4] ?_))))
  refine Ay 3 (Wd.ys (v:=pL (some (Co g.a (((i+j)/2)*2)))) rfl rfl rfl (Av (k:=.i64) (a:=g.a) (len:=xs.length) (cap:=g.cap) (i:=(((i+j)/2:Nat):Int)) (sz:=2) rfl Ae Ae Tryz.runUnderlying148 Tryz.sizeOf219 Ag Ag Xx) (Wd.ys (v:=aV [iV .u64 ((xs.getD ((i+j)/2) (0,0)).1),iV .u64 ((xs.getD ((i+j)/2) (0,0)).2)]) rfl rfl rfl (Ys.ldN (a:=Co g.a (((i+j)/2)*2)) (vs:=[iV .u64 ((xs.getD ((i+j)/2) (0,0)).1),iV .u64 ((xs.getD ((i+j)/2) (0,0)).2)]) rfl Ae Tryz.isAgg219 Tryz.sizeOf219 rfl (fun w_ h_=>(FS.at (i:=1) (t:=219) h_ rfl (Aj ok (B6 Ga _))).ldN (Ei (g:=Gr) (sz:=2) (fun _=>rfl) (0,0) (xs:=xs) (k:=(i+j)/2) Ag))) (Wd.yc (v:=aV [iV .u64 x.1,iV .u64 x.2]) rfl rfl rfl (Ys.yc (A0 p4 0 0 0 [iV .u64 x.1,iV .u64 x.2] Tryz.isAgg219 Tryz.sizeOf219)) (.inr fun _ h_=>h_) (Wd.yc (v:=iV .i64 (Jk (xs.getD ((i+j)/2) (0,0)) x)) rfl rfl rfl (A9 (fun w_ hm_=>(Aad ((xs.getD ((i+j)/2) (0,0)).1) ((xs.getD ((i+j)/2) (0,0)).2) x.1 x.2 _))) (.inr fun _ h_=>h_) ?_))))
  refine Wd.yc (v:=bV (decide ((Jk (xs.getD ((i+j)/2) (0,0)) x)<0))) rfl rfl rfl (Ys.yc (Ys.p)) (.inr fun _ h_=>h_) (A7 (hK19 _ _ _ ?_))
  refine Ao (decide ((Jk (xs.getD ((i+j)/2) (0,0)) x)<0)) Ae (fun h21=>?_) (fun h22=>?_)
  ·have qh21:=h21;try simp only[zA]at qh21
   refine Aa (Ab 1 (Ah (v:=nV .i64 (((i+j)/2)+1)) ((Ys.p (v:=.int .i64 (Bt .i64 (((i+j)/2:Nat):Int) 1))).conseq (Af (A6 Ag Ag Ag))) (Ab 1 (Ac ?_))))
   have hps_:=H8 (k:=x) hs (h:=(i+j)/2) Ag
   have hpl_:=hps_.1 (Wq.1 qh21)
   refine fun w_ h_=>hJ8 ((i+j)/2+1) j _ w_ Ag ⟨Ag,Ag,Ag⟩ ?_ h_
   kernel_rfl
  ·have qh22:=h22;try simp only[zA]at qh22
   refine Aa (Ab 2 (Ac ?_))
   have hps_:=H8 (k:=x) hs (h:=(i+j)/2) Ag
   have hpl_: ¬((i+j)/2<Fp xs x):=fun h_=>qh22 (Wq.2 (hps_.2 h_))
   refine fun w_ h_=>hJ8 i ((i+j)/2) _ w_ Ag ⟨Ag,Ag,Ag⟩ ?_ h_
   kernel_rfl
 ·have qh15:=h15;try simp only[zA]at qh15
  refine Cr (hK7 _ _ _ (Ad (fun K24 hK24=>Dh [(0,true),(1,true),(2,false),(3,false),(4,false),(5,true),(6,true),(7,true),(8,true),(9,true),(10,false),(11,false),(12,true),(13,true),(14,false),(15,false)] [0,1,5,6,7,8,9,12,13] (Ay 2 ?_))))
  refine Wd.yc (v:=nV .i64 xs.length) rfl rfl rfl (Ys.yc (Ys.p)) (.inr fun _ h_=>h_) (Wd.yc (v:=bV (decide (((i:Nat):Int)<(xs.length:Int)))) rfl rfl rfl (Ys.yc (Ys.p)) (.inr fun _ h_=>h_) (Wd.yc (v:=bV (decide (((i:Nat):Int)<(xs.length:Int)))) rfl rfl rfl (Ys.yc (Ys.p)) (.inr fun _ h_=>h_) ?_))
  refine Bs (v:=Value.func (.func 142) #[] #[]) (decide (((i:Nat):Int)<(xs.length:Int))) rfl (Bi rfl Ae) rfl (fun hg25=>?_) ?_
  ·exact Ys.p
  refine Bs (v:=sV g xs.length) (decide (((i:Nat):Int)<(xs.length:Int))) rfl (Bi rfl Ae) rfl (fun hg26=>?_) ?_
  ·exact Ys.p
  refine Bs (v:=nV .i64 i) (decide (((i:Nat):Int)<(xs.length:Int))) rfl (Bi rfl Ae) rfl (fun hg27=>?_) ?_
  ·exact Ys.p
  refine Bs (v:=pL (some (Co g.a (i*2)))) (decide (((i:Nat):Int)<(xs.length:Int))) rfl (Bi rfl Ae) rfl (fun hg28=>?_) ?_
  ·have qhg28:=hg28;try simp only[zA]at qhg28
   refine Bh (t:=41) (v0:=sV g xs.length) (lz (g:=decide (((i:Nat):Int)<(xs.length:Int))) (u:=undef) hg28 Ae) (Bh (t:=42) (v0:=nV .i64 i) (lz (g:=decide (((i:Nat):Int)<(xs.length:Int))) (u:=undef) hg28 Ae) ?_)
   exact Av (k:=.i64) (a:=g.a) (len:=xs.length) (cap:=g.cap) (i:=(i:Int)) (sz:=2) rfl Ae Ae Tryz.runUnderlying148 Tryz.sizeOf219 Ag Ag Xx
  refine Bs (v:=aV [iV .u64 ((xs.getD i (0,0)).1),iV .u64 ((xs.getD i (0,0)).2)]) (decide (((i:Nat):Int)<(xs.length:Int))) rfl (Bi rfl Ae) rfl (fun hg29=>?_) ?_
  ·have qhg29:=hg29;try simp only[zA]at qhg29
   refine Bh (t:=43) (v0:=pL (some (Co g.a (i*2)))) (lz (g:=decide (((i:Nat):Int)<(xs.length:Int))) (u:=undef) hg29 Ae) ?_
   exact Ys.ldN (a:=Co g.a (i*2)) (vs:=[iV .u64 ((xs.getD i (0,0)).1),iV .u64 ((xs.getD i (0,0)).2)]) rfl Ae Tryz.isAgg219 Tryz.sizeOf219 rfl (fun w_ h_=>(FS.at (i:=1) (t:=219) h_ rfl (Aj ok (B6 Ga _))).ldN (Ei (g:=Gr) (sz:=2) (fun _=>rfl) (0,0) (xs:=xs) (k:=i) Ag))
  refine Cx (v:=aV [iV .u64 x.1,iV .u64 x.2]) (decide (((i:Nat):Int)<(xs.length:Int))) rfl (Bi rfl Ae) rfl (fun hg30=>?_) (.inr fun _ h_=>h_) ?_
  ·refine Ys.yc ?_
   exact A0 p4 0 0 0 [iV .u64 x.1,iV .u64 x.2] Tryz.isAgg219 Tryz.sizeOf219
  refine Cx (v:=iV .i64 (Jk (xs.getD i (0,0)) x)) (decide (((i:Nat):Int)<(xs.length:Int))) rfl (Bi rfl Ae) rfl (fun hg31=>?_) (.inr fun _ h_=>h_) ?_
  ·have qhg31:=hg31;try simp only[zA]at qhg31
   refine Eh (t:=40) (v0:=Value.func (.func 142) #[] #[]) (lz (g:=decide (((i:Nat):Int)<(xs.length:Int))) (u:=undef) hg31 Ae) (Eh (t:=44) (v0:=aV [iV .u64 ((xs.getD i (0,0)).1),iV .u64 ((xs.getD i (0,0)).2)]) (lz (g:=decide (((i:Nat):Int)<(xs.length:Int))) (u:=undef) hg31 Ae) (Eh (t:=45) (v0:=aV [iV .u64 x.1,iV .u64 x.2]) (lz (g:=decide (((i:Nat):Int)<(xs.length:Int))) (u:=undef) hg31 Ae) ?_))
   exact A9 (fun w_ hm_=>(Aad ((xs.getD i (0,0)).1) ((xs.getD i (0,0)).2) x.1 x.2 _))
  refine Bs (v:=bV ((Jk (xs.getD i (0,0)) x)==0)) (decide (((i:Nat):Int)<(xs.length:Int))) rfl (Bi rfl Ae) rfl (fun hg32=>?_) ?_
  ·have qhg32:=hg32;try simp only[zA]at qhg32
   refine Bh (t:=46) (v0:=iV .i64 (Jk (xs.getD i (0,0)) x)) (lz (g:=decide (((i:Nat):Int)<(xs.length:Int))) (u:=undef) hg32 Ae) ?_
   exact Ys.p
  refine Wd.ys (v:=bV ((decide (((i:Nat):Int)<(xs.length:Int)))&&((Jk (xs.getD i (0,0)) x)==0))) rfl rfl rfl (D0 (e:=decide (((i:Nat):Int)<(xs.length:Int))) (b:=(Jk (xs.getD i (0,0)) x)==0) rfl Ae Ae Ae) (Wd.yc (v:=nV .i64 i) rfl rfl rfl (Ys.yc (Ys.p)) (.inr fun _ h_=>h_) (Wd.yc (v:=bV ((decide (((i:Nat):Int)<(xs.length:Int)))&&((Jk (xs.getD i (0,0)) x)==0))) rfl rfl rfl (Ys.yc (Ys.p)) (.inl Ae) (A7 (hK24 _ _ _ ?_))))
  refine Ap [1] Al rfl (Aq (fn:=Tryz.f141) rfl (fun w_ hS_=>B9 rfl (Aw (nV .i64 i)) (Aw (bV ((decide (((i:Nat):Int)<(xs.length:Int)))&&((Jk (xs.getD i (0,0)) x)==0)))) hS_ ⟨(),trivial,congrArg Ending.returned ((by rw[show i=Fp xs x by omega])),(hS_.pick [0] Al rfl)⟩))
theorem Ahy(g:FS)(xs X:List (Int×Int))(x:Int×Int)(vb i:Nat)(M:List Nat)(w:World)(hX:xs.take i++x::xs.drop i=X)(hl:Mem w M [g.seg 219 (mm Gr xs),[cb vb (Gr x) 219]] w)(ok:g.ok 2 xs.length)(hi:i≤xs.length)(hn:xs.length≤100000):
    Calls Tryz.prog 143 #[.slice g.a xs.length g.cap,.int .i64 (i:Int),.slice (some ⟨vb,0,none⟩) 1 1] w (Bj w (fun g':FS=>g'.ok 2 X.length∧g'.nil=false) (fun g'=>.slice g'.a X.length g'.cap) M (fun g'=>[g'.seg 219 (mm Gr X)])):=by
  subst hX
  have h:=insS_c g (mm Gr xs) (Gr x) vb xs.length i M w hl ok (B6 Ga _) hi hn rfl (Gq R8 _) (R8 _)
  have e:(mm Gr xs).take (i*2)++(Gr x++(mm Gr xs).drop (i*2))=mm Gr (xs.take i++x::xs.drop i):=by rw[Gy Ga,Gx Ga,It,Iu]
  have el:(xs.take i++x::xs.drop i).length=xs.length+1:=by simp;omega
  rw[e]at h;rw[el];exact h
theorem Aae(g:FS)(xs X:List (Int×Int))(i:Nat)(a b:Int)(M:List Nat)(w:World)(ha:a=(i:Int))(hb:b=((i+1:Nat):Int))(hX:xs.take i++xs.drop (i+1)=X)(hl:Mem w M [g.seg 219 (mm Gr xs)] w)(ok:g.ok 2 xs.length)(hi:i<xs.length)(hn:xs.length≤100000):
    Calls Tryz.prog 113 #[.slice g.a xs.length g.cap,.int .i64 a,.int .i64 b] w (Bj w (fun g':FS=>g'.ok 2 X.length∧g'.nil=false) (fun g'=>.slice g'.a X.length g'.cap) M (fun g'=>[g'.seg 219 (mm Gr X)])):=by
  subst hX;subst ha;subst hb
  have h:=delS_c g (mm Gr xs) xs.length i M w hl ok (B6 Ga _) hi hn (Gq R8 _)
  have e:(mm Gr xs).take (i*2)++(mm Gr xs).drop ((i+1)*2)=mm Gr (xs.take i++xs.drop (i+1)):=by rw[Gy Ga,Gx Ga,It]
  have el:(xs.take i++xs.drop (i+1)).length=xs.length-1:=by simp;omega
  rw[e]at h;rw[el];exact h
theorem Aaf(xs:List (Int×Int))(g:FS)(wb:Nat)(M:List Nat)(k:Int)(w:World)(hl:Mem w M [g.seg 219 (mm Gr xs),[cb wb [sL g.a xs.length g.cap] 150]] w)(ok:g.ok 2 xs.length)(hn:xs.length≤100000):Calls Tryz.prog 78 #[pV wb 0,iV .u64 k] w (Bj w (fun g':FS=>g'.ok 2 (Fj xs k).length) (fun _=>.bool (decide (Lv (Cu xs) k≥0))) M (fun g'=>[g'.seg 219 (mm Gr (Fj xs k)),[cb wb [.slice g'.a (Fj xs k).length g'.cap] 150]])):=by
 refine Ar (M:=M) (LL:=[g.seg 219 (mm Gr xs),[cb wb [sV g xs.length] 150]]) (n:=24) Tryz.func78 rfl rfl A5 (hl) (Ad (fun K1 hK1=>?_))
 refine Aa (Ab 1 (Ac (hK1 _ _ _ (Ad (fun K2 hK2=>?_)))))
 refine Aa (Ab 2 (B0 (v:=iV .i64 (Lv (Cu xs) k)) (A9 (fun w_ hm_=>(let z_:=Ir (hm_.pick [0,1] Al rfl);Lp z_ (Ad6 xs g wb _ k w_ z_ ok Ag)))) (Ab 1 (Ac ?_))))
 refine hK2 _ _ _ (Ad (fun K4 hK4=>?_))
 refine Ad (fun K5 hK5=>Aa (Ab 2 (Ac (hK5 _ _ _ ?_))))
 refine Ao (decide ((Lv (Cu xs) k)≥0)) Ae (fun h7=>?_) (fun h8=>?_)
 ·have qh7:=h7;try simp only[zA]at qh7
  have hat_:Lv (Cu xs) k=(Lt (Cu xs) k:Int)∧Lt (Cu xs) k<xs.length:=⟨(R7 Ag).2,F3 xs▸(R7 (ks:=Cu xs) (k:=k) Ag).1⟩
  refine Aa (Ab 4 (Ah (An wb 0 1 0 Tryz.isAgg148) (Ab 2 (Ah (v:=iV .i64 ((Lv (Cu xs) k)+1)) ((Ys.p (v:=.int .i64 (Bt .i64 (Lv (Cu xs) k) 1))).conseq (Af (A6 Ag Ag Ag))) ?_))))
  obtain⟨Z9,hZ10⟩: ∃Z,xs.take (Lt (Cu xs) k)++xs.drop ((Lt (Cu xs) k)+1)=Z:=⟨_,rfl⟩
  refine Ax rfl (Au [0] [1] (fun w_ hm_ hl_=>(Aae g xs Z9 (Lt (Cu xs) k) (Lv (Cu xs) k) ((Lv (Cu xs) k)+1) _ _ hat_.1 (by rw[hat_.1];omega) hZ10 hl_ ok Ag Ag))) (fun g11 hx15=>?_)
  obtain⟨ok12,nn13⟩:=hx15
  refine Ab 2 (Ai rfl (Bg wb 0 1 0 (sV g11 Z9.length) Tryz.sizeOf148 rfl rfl) (fun _=>?_))
  refine Ac (hK4 _ _ _ (Ad (fun K17 hK17=>Aa (Ab 3 ?_))))
  refine Ac (hK17 _ _ _ (Aq (fn:=Tryz.f78) rfl ?_))
  have hB:Fj xs k=Z9:=by unfold Fj;simp only[h7,cond_true,cond_false];exact hZ10
  exact fun w_ hS_=>Bb rfl (Aw (bV (decide ((Lv (Cu xs) k)≥0)))) hS_ ⟨g11,(by rw[hB];exact ok12),rfl,(Mem.cast (by rw[hB];rfl) (hS_.pick [0,1] Al rfl))⟩
 ·have qh8:=h8;try simp only[zA]at qh8
  refine Ak (hK4 _ _ _ (Ad (fun K20 hK20=>Aa (Ab 3 ?_))))
  refine Ac (hK20 _ _ _ (Aq (fn:=Tryz.f78) rfl ?_))
  have hB:Fj xs k=xs:=by unfold Fj;simp only[h8,cond_true,cond_false]
  exact fun w_ hS_=>Bb rfl (Aw (bV (decide ((Lv (Cu xs) k)≥0)))) hS_ ⟨g,(by rw[hB];exact ok),rfl,(Mem.cast (by rw[hB];rfl) (hS_.pick [0,1] Al rfl))⟩
theorem Ad7(xs:List (Int×Int))(g:FS)(wb:Nat)(M:List Nat)(k:Int)(X:List (Int×Int))(w:World)(hX:Fj xs k=X)(hl:Mem w M [g.seg 219 (mm Gr xs),[cb wb [sL g.a xs.length g.cap] 150]] w)(ok:g.ok 2 xs.length)(hn:xs.length≤100000):Calls Tryz.prog 78 #[.pointer (some ⟨wb,0,none⟩),.int .u64 k] w (Bj w (fun g':FS=>g'.ok 2 (X).length) (fun _=>.bool (decide (Lv (Cu xs) k≥0))) M (fun g'=>[g'.seg 219 (mm Gr (X)),[cb wb [.slice g'.a (X).length g'.cap] 150]])):=by
  subst hX;exact Aaf xs g wb M k w hl ok hn
theorem Ahz(xs:List (Int×Int))(g:FS)(wb:Nat)(M:List Nat)(k a:Int)(w:World)(hl:Mem w M [g.seg 219 (mm Gr xs),[cb wb [sL g.a xs.length g.cap] 150]] w)(ok:g.ok 2 xs.length)(hn:xs.length≤100000)(hs:Py xs):Calls Tryz.prog 91 #[pV wb 0,iV .u64 k,iV .u64 a] w (Bj w (fun g':FS=>g'.ok 2 (I2 xs k a).length) (fun _=>.tuple #[]) M (fun g'=>[g'.seg 219 (mm Gr (I2 xs k a)),[cb wb [.slice g'.a (I2 xs k a).length g'.cap] 150]])):=by
 refine Ar (M:=M) (LL:=[g.seg 219 (mm Gr xs),[cb wb [sV g xs.length] 150]]) (n:=35) Tryz.func91 rfl rfl A5 (hl) (Ad (fun K1 hK1=>?_))
 refine Aa ?_
 obtain⟨X2,hX3⟩: ∃z,Fj xs k=z:=⟨_,rfl⟩
 have hlx4:X2.length≤xs.length:=hX3▸Sa _ _
 have hs2_:Py X2:=hX3▸Tz hs _
 refine Ab 2 (Ax rfl (Au [0,1] [] (fun w_ hm_ hl_=>(Ad7 xs g wb _ k X2 _ hX3 hl_ ok Ag))) (fun g5 ok6=>?_))
 refine Ac (hK1 _ _ _ (Ad (fun K9 hK9=>Aa (Ab 3 ?_))))
 refine Ai rfl (Bc Tryz.zeroValue219) (fun p6=>Ai rfl (A4 p6 0 0 0 [iV .u64 a,iV .u64 k] Tryz.sizeOf219 rfl rfl) (fun _=>?_))
 refine Ac (hK9 _ _ _ (Ad (fun K11 hK11=>Dh [(0,true),(1,true),(2,true),(3,true),(4,false),(5,false),(6,false),(7,true),(8,true),(9,false),(10,false)] [0,1,2,3,7,8] (Ay 3 ?_))))
 refine Wd.ys rfl rfl rfl (An wb 0 2 0 Tryz.isAgg148) (Wd.yc (v:=aV [iV .u64 a,iV .u64 k]) rfl rfl rfl (Ys.yc (A0 p6 0 0 0 [iV .u64 a,iV .u64 k] Tryz.isAgg219 Tryz.sizeOf219)) (.inr fun _ h_=>h_) (Wd.yc (v:=Value.tuple #[nV .i64 (Fp X2 (a,k)),bV ((decide (((Fp X2 (a,k):Nat):Int)<(X2.length:Int)))&&((Jk (X2.getD (Fp X2 (a,k)) (0,0)) (a,k))==0))]) rfl rfl rfl (A9 (fun w_ hm_=>(let z_:=Ir (hm_.pick [1] Al rfl);Lp z_ (Alg X2 (a,k) g5 _ w_ z_ ok6 Ag hs2_)))) (.inr fun _ h_=>h_) (Wd.yc (v:=Value.tuple #[nV .i64 (Fp X2 (a,k)),bV ((decide (((Fp X2 (a,k):Nat):Int)<(X2.length:Int)))&&((Jk (X2.getD (Fp X2 (a,k)) (0,0)) (a,k))==0))]) rfl rfl rfl (Ys.yc (Ys.p)) (.inr fun _ h_=>h_) (Ay 2 ?_))))
 refine Wd.yc (v:=nV .i64 (Fp X2 (a,k))) rfl rfl rfl (Ys.yc (Ys.p)) (.inr fun _ h_=>h_) (Wd.yc (v:=bV ((decide (((Fp X2 (a,k):Nat):Int)<(X2.length:Int)))&&((Jk (X2.getD (Fp X2 (a,k)) (0,0)) (a,k))==0))) rfl rfl rfl (Ys.yc (Ys.p)) (.inl Ae) (A7 (hK11 _ _ _ (Bz [(0,true),(1,true),(2,true),(3,true),(4,true),(5,true),(6,false),(7,false),(8,false),(9,false),(10,false),(11,false)] [0,1,2,3,4,5] (Mem w M [[cb p6 [iV .u64 a,iV .u64 k] 219],[cb wb [sV g5 X2.length] 150]]) Ae Ae Ae rfl Ae (fun _ _ h_=>h_.drawn _) (fun _ h_=>h_.pick [0,2] Al rfl) ?_))))
 refine Ay 4 (Wd.ys rfl rfl rfl (An wb 0 1 0 Tryz.isAgg148) (Ay 1 (Wd.yc (v:=aV [iV .u64 a,iV .u64 k]) rfl rfl rfl (Ys.yc (A0 p6 0 0 0 [iV .u64 a,iV .u64 k] Tryz.isAgg219 Tryz.sizeOf219)) (.inr fun _ h_=>h_.pick [0,2] Al rfl) (B8 rfl rfl (Bd (mk:=fun b_=>.slice (some ⟨b_,0,none⟩) 1 1) (t:=219) (cs:=[iV .u64 a,iV .u64 k]) rfl (fun _=>kr)) (.inr fun _ _ h_=>h_.pick [1,3] Al rfl) (fun p31=>?_)))))
 obtain⟨Z13,hZ14⟩: ∃Z,X2.take (Fp X2 (a,k))++(a,k)::X2.drop (Fp X2 (a,k))=Z:=⟨_,rfl⟩
 refine Cd rfl rfl (Au [2,0] [1,3] (fun w_ hm_ hl_=>(Ahy g5 X2 Z13 (a,k) p31 (Fp X2 (a,k)) _ _ hZ14 hl_ ok6 (R9 _ _) Ag))) (.inr fun _ _ h_=>h_.pick [1,2] Al rfl) (fun g15 hx19=>?_)
 obtain⟨ok16,nn17⟩:=hx19
 refine Wd.yc (v:=pV wb 0) rfl rfl rfl (Ys.yc (Ys.p)) (.inl Ae) (Wd.yc (v:=pV wb 0) rfl rfl rfl (Ys.yc (Ys.p)) (.inl Ae) (B8 rfl rfl (Bg wb 0 2 0 (sV g15 Z13.length) Tryz.sizeOf148 rfl rfl) (.inl Ae) (fun _=>A7 ?_)))
 have hB:I2 xs k a=Z13:=by unfold I2 Pz;rw[hX3];exact hZ14
 show∀w_,_→bodyPostM (Cy none) 0 Tryz.prog Tryz.f91 _ Exit.normal _ w_
 exact fun w_ hS_=>Dq (Il rfl ⟨g15,(by rw[hB];exact ok16),rfl,(Mem.cast (by rw[hB];rfl) (hS_.pick [0,2] Al rfl))⟩)
theorem Ah0(w:World):Calls Tryz.prog 29 #[] w (Bj w (fun _:Nat=>True) (fun b=>.pointer (some ⟨b,0,none⟩)) [] (fun b=>[[cb b [.slice none 0 0] 150]])):=by
 refine Ar (M:=[]) (LL:=[]) (n:=3) Tryz.func29 rfl rfl A5 (Mem.refl _) (Ad (fun K1 hK1=>?_))
 refine Aa (Ab 1 (Ac (hK1 _ _ _ (Ad (fun K2 hK2=>?_)))))
 refine Aa (Ab 1 (Ai rfl (Bx [sL none 0 0] rfl) (fun p2=>Ab 1 (Ac ?_))))
 refine hK2 _ _ _ (Aq (fn:=Tryz.f29) rfl (fun w_ hS_=>Bb rfl (Aw (pV p2 0)) hS_ ⟨p2,trivial,rfl,(hS_.pick [0] Al rfl)⟩))
def Kh(f:Nat→Bool):Nat→Nat
  |0=>0
  |k+1=>Kh f k+(bif f k then 2^k else 0)
theorem O2(f:Nat→Bool): ∀n,Kh f n<2^n
  |0=>by simp[Kh]
  |n+1=>by
    have:=O2 f n
    rw[Kh,Nat.pow_succ]
    cases f n<;>simp only[cond_true,cond_false]<;>omega
theorem Mk(f:Nat→Bool): ∀n k,(Kh f n).testBit k=(decide (k<n)&&f k)
  |0,k=>by simp[Kh]
  |n+1,k=>by
    have hlt:=O2 f n
    have ih:=Mk f n k
    rw[Kh]
    cases hf:f n with
    |false=>
      simp only[cond_false,Nat.add_zero,ih]
      by_cases h:k=n
      · subst h;simp[hf]
      · rw[show decide (k<n+1)=decide (k<n) by simp;omega]
    |true=>
      simp only[cond_true]
      rw[Nat.add_comm]
      rcases Nat.lt_trichotomy k n with h|h|h
      · rw[Nat.testBit_two_pow_add_gt h,ih,decide_eq_true h,decide_eq_true (Nat.lt_succ_of_lt h)]
      · subst h
        rw[Nat.testBit_two_pow_add_eq,ih];simp[hf]
      · rw[Nat.testBit_lt_two_pow (Nat.lt_of_lt_of_le (m:=2^(n+1)) (by rw[Nat.pow_succ];omega) (Nat.pow_le_pow_right Al h))]
        simp;omega
def wd(T:Nat→Bool)(i:Nat):Nat:=Kh (fun k=>T (64*i+k)) 64
theorem Lw(T:Nat→Bool)(i:Nat):wd T i<18446744073709551616:=O2 _ 64
theorem Jl{T:Nat→Bool}{i k:Nat}(h:k<64):(wd T i).testBit k=T (64*i+k):=by
  unfold wd;rw[Mk,decide_eq_true h,Bool.true_and]
theorem P6{T:Nat→Bool}{i k:Nat}(h:64≤k):(wd T i).testBit k=false:=by
  unfold wd;rw[Mk,decide_eq_false Ag,Bool.false_and]
def up(T:Nat→Bool)(p:Nat)(v:Bool):Nat→Bool:=fun q=>bif q==p then v else T q
theorem J0(T:Nat→Bool)(p:Nat)(v:Bool):up T p v p=v:=by simp[up]
theorem Hf(T:Nat→Bool){p q:Nat}(v:Bool)(h:q≠p):up T p v q=T q:=by unfold up;rw[show(q==p)=false from beq_eq_false_iff_ne.2 h];rfl
def wsC(T:Nat→Bool):List Value:=(List.range 1024).map (fun i=>Value.int .u64 (wd T i:Int))
def Fd(T:Nat→Bool)(n:Int):List Value:=wsC T++[Value.int .i64 n]
theorem Fq(T:Nat→Bool):(wsC T).length=1024:=by unfold wsC;rw[List.length_map,List.length_range]
theorem Nx(T:Nat→Bool)(n:Int):(Fd T n).length=1025:=by unfold Fd;rw[List.length_append,Fq];rfl
theorem Lx{T:Nat→Bool}{i:Nat}(h:i<1024):(wsC T)[i]? =some (.int .u64 (wd T i:Int)):=by
  unfold wsC;rw[List.getElem?_map,List.getElem?_range h];rfl
theorem Ad8{T:Nat→Bool}{n:Int}{i:Nat}(h:i<1024):(Fd T n)[i]? =some (.int .u64 (wd T i:Int)):=by
  unfold Fd;rw[List.getElem?_append_left (by rw[Fq];exact h),Lx h]
theorem Ly{T:Nat→Bool}{n:Int}{i:Nat}(h:i<1024):(Fd T n)[i*1]? =some (.int .u64 (wd T i:Int)):=by rw[Nat.mul_one];exact Ad8 h
theorem Ws(T:Nat→Bool)(n:Int):(Fd T n)[1024]? =some (.int .i64 n):=by
  unfold Fd;rw[List.getElem?_append_right (by rw[Fq];exact Nat.le_refl _),Fq];rfl
theorem T0{T:Nat→Bool}{p i:Nat}(v:Bool)(h:i≠p/64):wd (up T p v) i=wd T i:=by
  refine Nat.eq_of_testBit_eq fun k=>?_
  by_cases hk:k<64
  · rw[Jl hk,Jl hk,Hf _ _ Ag]
  · rw[P6 Ag,P6 Ag]
theorem Wt{T:Nat→Bool}{n:Int}{p:Nat}(v:Bool)(hp:p<65536):(Fd T n).set (p/64*1) (.int .u64 (wd (up T p v) (p/64):Int))=Fd (up T p v) n:=by
  unfold Fd
  rw[Nat.mul_one,List.set_append_left _ _ (by rw[Fq];omega)]
  congr 1
  apply List.ext_getElem?
  intro i
  rw[List.getElem?_set]
  by_cases hi:i<1024
  · rw[Lx hi]
    by_cases h:p/64=i
    · subst h;rw[if_pos rfl,if_pos (by rw[Fq];exact hi),Lx hi]
    · rw[if_neg h,Lx hi,T0 v (fun e=>h e.symm)]
  · rw[if_neg Ag,List.getElem?_eq_none (by rw[Fq];omega),List.getElem?_eq_none (by rw[Fq];omega)]
theorem T1(T:Nat→Bool)(n m:Int):(Fd T n).set 1024 (.int .i64 m)=Fd T m:=by
  unfold Fd
  rw[List.set_append_right _ _ (by rw[Fq];exact Nat.le_refl _),Fq];rfl
theorem Anl(p:Nat):64*(p/64)+p%64=p:=Nat.div_add_mod p 64
theorem Ad9{T:Nat→Bool}{p:Nat}:(((wd T (p/64)/2^(p%64)%2:Nat):Int)==1)=T p:=by
  have h:=Jl (T:=T) (i:=p/64) (k:=p%64) (Nat.mod_lt _ Al)
  rw[Anl,Nat.testBit_eq_decide_div_mod_eq]at h
  rw[←h,Bool.eq_iff_iff,beq_iff_eq,decide_eq_true_eq]
  omega
theorem T2{k:Nat}(h:k<64):Hw .u64 1 (k:Int)=((2^k:Nat):Int):=by
  have:=Gg (k:=.u64) rfl 1 k (by show k≤64;omega)
  rw[Nat.one_mul]at this
  exact this.trans (congrArg (fun n:Nat=>(n:Int)) (Nat.mod_eq_of_lt (Nat.pow_lt_pow_right Al h)))
theorem Alh{T:Nat→Bool}{p:Nat}:wd T (p/64)|||2^(p%64)=wd (up T p true) (p/64):=by
  have hm:=Nat.mod_lt p (show 0<64 by decide)
  refine Nat.eq_of_testBit_eq fun k=>?_
  rw[Nat.testBit_or,Nat.testBit_two_pow]
  by_cases hk:k<64
  · rw[Jl hk,Jl hk]
    by_cases h:p%64=k
    · rw[show 64*(p/64)+k=p by omega,J0];simp[h]
    · rw[Hf _ _ Ag];simp[h]
  · rw[P6 Ag,P6 Ag];simp;omega
theorem X5{x k:Nat}(hx:x<18446744073709551616)(hk:k<64): ∃y:Nat,V1 .u64 (x:Int) ((2^k:Nat):Int)=(y:Int)∧y<18446744073709551616∧ ∀j,y.testBit j=(x.testBit j&& !decide (k=j)):=by
  have hp:(2:Nat)^k<2^64:=Nat.pow_lt_pow_right Al hk
  refine⟨(BitVec.ofNat 64 x&&& ~~~BitVec.ofNat 64 (2^k)).toNat,?_,(BitVec.isLt _),fun j=>?_⟩
  · unfold V1
    show IntKind.u64.wrap _=_
    rw[show BitVec.ofInt IntKind.u64.bits (x:Int)=BitVec.ofNat 64 x from BitVec.ofInt_natCast 64 x,show BitVec.ofInt IntKind.u64.bits ((2^k:Nat):Int)=BitVec.ofNat 64 (2^k) from BitVec.ofInt_natCast 64 (2^k)]
    rw[Em rfl]
    congr 1
    exact Nat.mod_eq_of_lt (BitVec.isLt _)
  · rw[←BitVec.getLsbD,BitVec.getLsbD_and,BitVec.getLsbD_not]
    simp only[BitVec.getLsbD,BitVec.toNat_ofNat,Nat.testBit_mod_two_pow,Nat.testBit_two_pow]
    by_cases hj:j<64
    · simp[hj]
    · have h2:x.testBit j=false:=Nat.testBit_lt_two_pow (Nat.lt_of_lt_of_le hx (Nat.pow_le_pow_right (n:=2) Al (show 64≤j by omega)))
      simp[hj,h2]
theorem Aea{T:Nat→Bool}{p:Nat}:V1 .u64 (wd T (p/64):Int) ((2^(p%64):Nat):Int)=(wd (up T p false) (p/64):Int):=by
  have hm:=Nat.mod_lt p (show 0<64 by decide)
  obtain⟨y,h1,h2,h3⟩:=X5 (Lw T (p/64)) hm
  rw[h1]
  congr 1
  refine Nat.eq_of_testBit_eq fun k=>?_
  rw[h3]
  by_cases hk:k<64
  · rw[Jl hk,Jl hk]
    by_cases h:p%64=k
    · rw[show 64*(p/64)+k=p by omega,J0];simp[h]
    · rw[Hf _ _ Ag];simp[h]
  · rw[P6 Ag,P6 Ag];simp
def tzr:Nat→Nat→Nat
  |0,_=>0
  |f+1,x=>if x%2=1 then 0 else 1+tzr f (x/2)
def tz(x:Nat):Nat:=tzr 64 x
theorem T4: ∀(f x:Nat),0<x→x<2^f→tzr f x<f∧x.testBit (tzr f x)=true∧ ∀j,j<tzr f x→x.testBit j=false
  |0,x,h0,h=>by simp at h;omega
  |f+1,x,h0,h=>by
    unfold tzr
    split
    · rename_i h1
      exact⟨Nat.succ_pos _,by rw[Nat.testBit_zero];simp[h1],fun j hj=>absurd hj (Nat.not_lt_zero _)⟩
    · rename_i h1
      obtain⟨a,b,c⟩:=T4 f (x/2) Ag (by rw[Nat.pow_succ]at h;omega)
      refine⟨by omega,by rw[Nat.add_comm,Nat.testBit_succ];exact b,fun j hj=>?_⟩
      match j with
      |0=>rw[Nat.testBit_zero];simp;omega
      |j+1=>rw[Nat.testBit_succ];exact c j Ag
theorem Sb{x:Nat}(h0:0<x)(h:x<18446744073709551616):tz x<64∧x.testBit (tz x)=true∧ ∀j,j<tz x→x.testBit j=false:=T4 64 x h0 h
theorem Wu: ∀(f x:Nat),0<x→x<2^f→x&&&(2^f-x)=2^tzr f x
  |0,x,h0,h=>by simp at h;omega
  |f+1,x,h0,h=>by
    unfold tzr
    split
    · rename_i h1
      refine Nat.eq_of_testBit_eq fun k=>?_
      rw[Nat.testBit_and,Nat.testBit_two_pow]
      have e:2^(f+1)-x=2^(f+1)-((x-1)+1):=by omega
      rw[e,Nat.testBit_two_pow_sub_succ Ag]
      match k with
      |0=>rw[Nat.testBit_zero,Nat.testBit_zero];simp[h1];try omega
      |k+1=>
        rw[Nat.testBit_succ,Nat.testBit_succ,show(x-1)/2=x/2 by omega]
        cases(x/2).testBit k<;>simp
    · rename_i h1
      have ih:=Wu f (x/2) Ag (by rw[Nat.pow_succ]at h;omega)
      have e1:x=2*(x/2):=by omega
      have e2:2^(f+1)-x=2*(2^f-x/2):=by rw[Nat.pow_succ];omega
      rw[e2,Nat.pow_add,Nat.pow_one,←ih]
      refine Nat.eq_of_testBit_eq fun k=>?_
      match k with
      |0=>rw[Nat.testBit_and,Nat.testBit_zero,Nat.testBit_zero,Nat.testBit_zero];simp
      |k+1=>
        rw[Nat.testBit_and,Nat.testBit_succ,Nat.testBit_succ,Nat.testBit_succ,Nat.mul_div_cancel_left _ Al,Nat.mul_div_cancel_left _ Al,Nat.testBit_and]
def nfr(T:Nat→Bool):Nat→Nat→Nat
  |0,p=>p
  |f+1,p=>bif T p then nfr T f (p+1)else p
def nf(T:Nat→Bool)(p:Nat):Nat:=nfr T (65536-p) p
theorem Sc{T:Nat→Bool}{p:Nat}(h:p<65536)(ht:T p=true):nf T p=nf T (p+1):=by
  unfold nf;rw[show 65536-p=(65536-(p+1))+1 by omega,nfr,ht];rfl
theorem Ny{T:Nat→Bool}{p:Nat}(h:p<65536)(ht:T p=false):nf T p=p:=by
  unfold nf;rw[show 65536-p=(65536-(p+1))+1 by omega,nfr,ht];rfl
theorem Aag{T:Nat→Bool}{p:Nat}(h:65536≤p):nf T p=p:=by
  unfold nf;rw[show 65536-p=0 by omega];rfl
theorem Sd{T:Nat→Bool}{p:Nat}: ∀k,p+k≤65536→(∀j,j<k→T (p+j)=true)→nf T p=nf T (p+k)
  |0,_,_=>rfl
  |k+1,h,ht=>by
    rw[Sd k Ag (fun j hj=>ht j Ag),Sc Ag (ht k Ag)];rfl
theorem Ago{T:Nat→Bool}: ∀(f p:Nat),65536-p=f→p≤65536→nf T p≤65536∧p≤nf T p∧(nf T p<65536→T (nf T p)=false)∧(nf T p=65536→ ∀q,p≤q→q<65536→T q=true)
  |0,p,h,hp=>by
    obtain rfl:p=65536:=by omega
    rw[Aag (Nat.le_refl _)]
    exact⟨Nat.le_refl _,Nat.le_refl _,fun h=>absurd h (Nat.lt_irrefl _),fun _ q h1 h2=>by omega⟩
  |f+1,p,h,hp=>by
    cases ht:T p with
    |false=>rw[Ny Ag ht];exact⟨hp,Nat.le_refl _,fun _=>ht,fun e=>by omega⟩
    |true=>
      rw[Sc Ag ht]
      obtain⟨a,b,c,d⟩:=Ago f (p+1) Ag Ag
      exact⟨a,by omega,c,fun e q h1 h2=>by
        by_cases hq:q=p
        · subst hq;exact ht
        · exact d e q Ag h2⟩
theorem Se(T:Nat→Bool){p:Nat}(hp:p≤65536):nf T p≤65536∧p≤nf T p∧(nf T p<65536→T (nf T p)=false)∧(nf T p=65536→ ∀q,p≤q→q<65536→T q=true):=Ago _ p rfl hp
theorem Wv{T:Nat→Bool}{w s x:Nat}(hw:w<1024)(hs:s<64)(hx:x<18446744073709551616)(hb: ∀k,k<64→x.testBit k=(decide (s≤k)&& !T (64*w+k))):
    (x≠0→nf T (64*w+s)=64*w+tz x∧tz x<64)∧(x=0→nf T (64*w+s)=nf T (64*(w+1))):=by
  constructor
  · intro h0
    obtain⟨h1,h2,h3⟩:=Sb Ag hx
    rw[hb _ h1,Bool.and_eq_true,decide_eq_true_eq,Bool.not_eq_true']at h2
    refine⟨?_,h1⟩
    rw[Sd (tz x-s) Ag (fun j hj=>?_),show 64*w+s+(tz x-s)=64*w+tz x by omega,Ny Ag h2.2]
    have h4:=h3 (s+j) Ag
    rw[hb _ Ag,decide_eq_true Ag,Bool.true_and,Bool.not_eq_false']at h4
    rw[show 64*w+s+j=64*w+(s+j) by omega];exact h4
  · intro h0
    rw[Sd (64-s) Ag (fun j hj=>?_),show 64*w+s+(64-s)=64*(w+1) by omega]
    have h4:=hb (s+j) Ag
    rw[h0,Nat.zero_testBit,decide_eq_true Ag,Bool.true_and]at h4
    rw[show 64*w+s+j=64*w+(s+j) by omega]
    simpa using h4.symm
theorem Ww{T:Nat→Bool}{w k:Nat}(hk:k<64):(18446744073709551615-wd T w).testBit k= !T (64*w+k):=by
  have:=Nat.testBit_two_pow_sub_succ (n:=64) (Lw T w) k
  rw[Jl hk,decide_eq_true hk,Bool.true_and]at this
  rw[←this];congr 1;have:=Lw T w;omega
theorem Aah{s k:Nat}(hs:s<64)(hk:k<64):(18446744073709551616-2^s).testBit k=decide (s≤k):=by
  have hp:(2:Nat)^s<2^64:=Nat.pow_lt_pow_right Al hs
  have hq:=Nat.two_pow_pos s
  have e:18446744073709551616-2^s=2^64-((2^s-1)+1):=by omega
  rw[e,Nat.testBit_two_pow_sub_succ Ag,decide_eq_true hk,Nat.testBit_two_pow_sub_one,Bool.true_and]
  by_cases h:s≤k
  · rw[decide_eq_true h,decide_eq_false Ag];rfl
  · rw[decide_eq_false h,decide_eq_true Ag];rfl
theorem X6{s:Nat}(hs:s<64):Hw .u64 18446744073709551615 (s:Int)=((18446744073709551616-2^s:Nat):Int):=by
  have:=Gg (k:=.u64) rfl 18446744073709551615 s (by show s≤64;omega)
  refine this.trans (congrArg (fun n:Nat=>(n:Int)) ?_)
  have hp:(2:Nat)^s<2^64:=Nat.pow_lt_pow_right Al hs
  have hq:=Nat.two_pow_pos s
  show 18446744073709551615*2^s%2^64=_
  have e:18446744073709551615*2^s=(18446744073709551616-2^s)+2^64*(2^s-1):=by
    obtain⟨m,hm⟩: ∃m,2^s=m+1:=⟨2^s-1,by omega⟩
    rw[hm]at hp⊢;omega
  rw[e,Nat.add_mul_mod_self_left,Nat.mod_eq_of_lt Ag]
def dbt:List UInt8:=[0,1,56,2,57,49,28,3,61,58,42,50,38,29,17,4,62,47,59,36,45,43,51,22,53,39,33,30,24,18,12,5,63,55,48,27,60,41,37,16,46,35,44,21,52,32,23,11,54,26,40,15,34,20,31,10,25,14,19,9,13,8,7,6]
theorem Aeb:dbt.length=64:=by decide
theorem Aec:(List.range 64).all (fun k=>(dbt.getD ((2^k*285870213051353865)%18446744073709551616/288230376151711744) 0).toNat==k)=true:=by decide+kernel
theorem Aed{k:Nat}(h:k<64):(dbt.getD ((2^k*285870213051353865)%18446744073709551616/288230376151711744) 0).toNat=k:=by
  have:=List.all_eq_true.1 Aec k (List.mem_range.2 h)
  simpa using this
theorem Aee{x:Nat}(h0:0<x)(h:x<18446744073709551616):Hk .u64 0 (x:Int)=((18446744073709551616-x:Nat):Int):=by
  unfold Hk IntKind.wrap
  simp only[IntKind.signed,IntKind.bits,Bool.false_and]
  rw[if_neg A5]
  omega
theorem Ah2{x:Nat}(h0:0<x)(h:x<18446744073709551616):x&&&(18446744073709551616-x)=2^tz x:=Wu 64 x h0 h
theorem Ali(t:Nat):(2^t*285870213051353865)%18446744073709551616/288230376151711744<64:=by
  have:=Nat.mod_lt (2^t*285870213051353865) (show 0<18446744073709551616 by decide)
  omega
theorem Alj(x:Nat)(w:World)(htab:At w (some ⟨0,0,none⟩) (Ci dbt))(h0:0<x)(hx:x<18446744073709551616):Calls Tryz.prog 181 #[nV .u64 x] w (Dc w (.int .i64 (tz x:Int))):=by
 obtain⟨zz,hzz⟩: ∃z:Nat,z=2^tz x:=⟨_,rfl⟩;have hl:=Aeb;have hdl:=Ali (tz x);rw[←hzz]at hdl;have hz2:zz<18446744073709551616:=(by rw[hzz];exact Nat.lt_of_lt_of_le (Nat.pow_lt_pow_right (n:=64) Al (Sb h0 hx).1) Al);obtain⟨qi,hqi⟩: ∃q:Nat,q=zz*285870213051353865%18446744073709551616/288230376151711744:=⟨_,rfl⟩;rw[←hqi]at hdl
 refine Ar (M:=[]) (LL:=[]) (n:=14) Tryz.func181 rfl rfl A5 (Mem.refl _) (Ad (fun K1 hK1=>?_))
 refine Aa (Ab 1 (Ac (hK1 _ _ _ (Ad (fun K2 hK2=>?_)))))
 refine Ad (fun K3 hK3=>Aa (Ab 2 (Ac (hK3 _ _ _ ?_))))
 refine Ao (((x:Nat):Int)==0) Ae (fun h5=>?_) (fun h6=>?_)
 ·have qh5:=h5;try simp only[zA]at qh5
  exact absurd qh5 Ag
 ·have qh6:=h6;try simp only[zA]at qh6
  refine Ak (hK2 _ _ _ (Ad (fun K8 hK8=>Aa (Ab 2 ?_))))
  refine Ah (v:=nV .u64 (18446744073709551616-x)) ((Ys.p (v:=iV .u64 (Hk .u64 0 (x:Int)))).conseq (Af (Aee h0 hx))) (Ah (v:=nV .u64 zz) (Ys.conseq (v:=nV .u64 (x&&&(18446744073709551616-x))) (Af (congrArg (fun n:Nat=>(n:Int)) ((Ah2 h0 hx).trans hzz.symm))) ((Ys.p (v:=.int .u64 (Cn .u64 (x:Int) ((18446744073709551616-x:Nat):Int)))).conseq (Af (Om rfl H0 H0)))) (Ah (v:=nV .u64 ((zz*285870213051353865)%18446744073709551616)) ((Ys.p (v:=.int .u64 (Ld .u64 (zz:Int) ((285870213051353865:Nat):Int)))).conseq (Af (Tm rfl))) (Ah (v:=nV .u64 qi) (Ys.conseq (v:=nV .u64 (((zz*285870213051353865)%18446744073709551616)/288230376151711744)) (Af (congrArg (fun n:Nat=>(n:Int)) hqi.symm)) ((Ys.p (v:=.int .u64 (Jd .u64 (((zz*285870213051353865)%18446744073709551616:Nat):Int) ((58:Nat):Int)))).conseq (Af (El ((zz*285870213051353865)%18446744073709551616) 58 Al)))) (Ah (v:=pL (some ⟨0,qi*1,none⟩)) ((C9 (k:=.u64) (i:=(qi:Int)) (sz:=1) rfl Ae Ae Tryz.runUnderlying298 Tryz.sizeOf5 Ag Ag).conseq (by rw[Nat.zero_add];try rfl)) ?_))))
  refine Ah (v:=nV .u8 ((dbt.getD qi 0).toNat)) (Ys.ld (a:=⟨0,qi*1,none⟩) rfl Ae Tryz.isAgg5 (fun w_ h_=>by have x_:=(htab.mem0 h_).ld (q:=qi*1) (Fm 0 Ag);rw[Br]at x_;exact x_)) ?_
  have hb9:(dbt.getD qi 0).toNat<256:=UInt8.toNat_lt _
  refine Ah (v:=nV .i64 ((dbt.getD qi 0).toNat)) ((Ys.p (v:=.int .i64 (Cg .i64 ((dbt.getD qi 0).toNat:Int)))).conseq (Af (Cz Ag Ag))) (Ab 1 (Ac (hK8 _ _ _ (Aq (fn:=Tryz.f181) rfl (fun w_ hS_=>Bb rfl (Aw (nV .i64 ((dbt.getD qi 0).toNat))) hS_ ⟨by clear hK1 hK2 hK3 hK8;refine congrArg Ending.returned ?_;rw[hqi,hzz];exact Af (congrArg (fun n:Nat=>(n:Int)) (Aed (Sb h0 hx).1)),hS_.below⟩)))))
theorem Agp(T:Nat→Bool)(n:Int)(b p:Nat)(w:World)(hat:At w (some ⟨b,0,none⟩) (Fd T n))(hp:p<65536):Calls Tryz.prog 119 #[pV b 0,nV .u16 p] w (Dc w (.bool (T p))):=by
 have hwl:=Lw T (p/64);have hwd:=Nat.lt_of_le_of_lt (Nat.div_le_self (wd T (p/64)) (2^(p%64))) hwl;have hpm:=Nat.mod_lt p (show 0<64 by decide)
 refine Ar (M:=[]) (LL:=[]) (n:=17) Tryz.func119 rfl rfl A5 (Mem.refl _) (Ad (fun K1 hK1=>?_))
 refine Aa (Ab 1 (Ac (hK1 _ _ _ (Ad (fun K2 hK2=>?_)))))
 refine Aa (Ab 2 (Ah (v:=nV .u16 (p/64)) ((Ys.p (v:=.int .u16 (Nb .u16 (p:Int) ((64:Nat):Int)))).conseq (Af (H3 rfl H1))) (Ab 2 (Ah (v:=pL (some ⟨b,(p/64)*1,none⟩)) ((C9 (k:=.u16) (i:=((p/64:Nat):Int)) (sz:=1) rfl Ae Ae Tryz.runUnderlying228 Tryz.sizeOf45 Ag Ag).conseq (by rw[Nat.zero_add];try rfl)) ?_))))
 refine Ah (v:=nV .u64 (wd T (p/64))) (Ys.ld (a:=⟨b,(p/64)*1,none⟩) rfl Ae Tryz.isAgg45 (fun w_ h_=>by have x_:=(hat.mem0 h_).ld (q:=(p/64)*1) (Ly Ag);rw[Br]at x_;exact x_)) (Ab 1 (Ah (v:=nV .u16 (p%64)) ((Ys.p (v:=.int .u16 (Tk (p:Int) ((64:Nat):Int)))).conseq (Af (rfl))) (Ah (v:=nV .u64 (wd T (p/64)/2^(p%64))) (Ys.conseq (v:=iV .u64 (Jd .u64 (wd T (p/64):Int) ((p%64:Nat):Int))) (Af (El _ _ (by show _≤64;omega))) (Ahe (k:=.u64) (k':=.u16) (a:=(wd T (p/64):Int)) (b:=((p%64:Nat):Int)) rfl Ae Ae Ag)) (Ah (v:=nV .u64 ((wd T (p/64)/2^(p%64))%2)) ((Ys.p (v:=.int .u64 (Cn .u64 ((wd T (p/64)/2^(p%64):Nat):Int) ((1:Nat):Int)))).conseq (Af (G2 rfl (a:=wd T (p/64)/2^(p%64)) (c:=1) H0 Al 1 rfl))) ?_))))
 refine Ah (v:=bV (T p)) ((Ys.p (v:=bV ((((wd T (p/64)/2^(p%64))%2:Nat):Int)==1))).conseq (Cj (Ad9))) (Ab 1 (Ac (hK2 _ _ _ (Aq (fn:=Tryz.f119) rfl (fun w_ hS_=>Bb rfl (Aw (bV (T p))) hS_ ⟨rfl,hS_.below⟩)))))
def Ur(T:Nat→Bool)(p:Nat):Bool:= !(decide (p<1024)||T p)
def P7(T:Nat→Bool)(p:Nat):Nat→Bool:=bif Ur T p then up T p true else T
def tkN(T:Nat→Bool)(p:Nat)(n:Int):Int:=bif Ur T p then n+1 else n
def gvT(T:Nat→Bool)(p:Nat):Nat→Bool:=bif T p then up T p false else T
def gvN(T:Nat→Bool)(p:Nat)(n:Int):Int:=bif T p then n-1 else n
theorem Sf(T:Nat→Bool)(n:Int)(b p:Nat)(w:World)(hl:Mem w [b] [[cb b (Fd T n) 230]] w)(hp:p<65536)(hn1: -1000000000000≤n)(hn2:n≤1000000000000):Calls Tryz.prog 70 #[pV b 0,nV .u16 p] w (Bj w (fun _:Unit=>True) (fun _=>.bool (Ur T p)) [b] (fun _=>[[cb b (Fd (P7 T p) (tkN T p n)) 230]])):=by
 have hwl:=Lw T (p/64);have hwd:=Nat.lt_of_le_of_lt (Nat.div_le_self (wd T (p/64)) (2^(p%64))) hwl;have hpm:=Nat.mod_lt p (show 0<64 by decide);have h2p:(2:Nat)^(p%64)<18446744073709551616:=Nat.lt_of_lt_of_le (Nat.pow_lt_pow_right (n:=64) Al hpm) Al
 refine Ar (M:=[b]) (LL:=[[cb b (Fd T n) 230]]) (n:=33) Tryz.func70 rfl rfl A5 (hl) (Ad (fun K1 hK1=>?_))
 refine Aa (Ab 1 (Ac (hK1 _ _ _ (Ad (fun K2 hK2=>?_)))))
 refine Ad (fun K3 hK3=>Aa (Ab 3 ?_))
 refine Am (v:=pV b 0) (!(decide (((p:Nat):Int)<1024))) rfl (B3 rfl Ae) rfl (fun hg4=>?_) ?_
 ·exact Ys.p
 refine Am (v:=nV .u16 p) (!(decide (((p:Nat):Int)<1024))) rfl (B3 rfl Ae) rfl (fun hg5=>?_) ?_
 ·exact Ys.p
 refine Dn (v:=bV (T p)) (!(decide (((p:Nat):Int)<1024))) rfl (B3 rfl Ae) rfl (fun hg6=>?_) ?_
 ·have qhg6:=hg6;try simp only[zA]at qhg6
  refine Eh (t:=8) (v0:=pV b 0) (lz (g:= !(decide (((p:Nat):Int)<1024))) (u:=undef) hg6 Ae) (Eh (t:=9) (v0:=nV .u16 p) (lz (g:= !(decide (((p:Nat):Int)<1024))) (u:=undef) hg6 Ae) ?_)
  exact A9 (fun w_ hm_=>Agp T n b p _ (Az (i:=0) (j:=0) (t:=230) (b:=b) hm_ rfl rfl) Ag)
 refine Ah (v:=bV ((decide (((p:Nat):Int)<1024))||(T p))) (Dr (e:=decide (((p:Nat):Int)<1024)) (b:=T p) rfl Ae Ae Ae) (Ac (hK3 _ _ _ ?_))
 refine Ao ((decide (((p:Nat):Int)<1024))||(T p)) Ae (fun h8=>?_) (fun h9=>?_)
 ·have qh8:=h8;try simp only[zA]at qh8
  refine Ad (fun K10 hK10=>Aa (Ab 1 (Ac (hK10 _ _ _ ?_))))
  refine Aq (fn:=Tryz.f70) rfl ?_
  have hB:Ur T p=false:=by unfold Ur;rw[show(decide (p<1024)||T p)=true from ?_];rfl;have hz_:=h8;first|exact hz_|(rw[←hz_];congr 1;exact decide_eq_decide.2 Ag)
  exact fun w_ hS_=>Bb rfl (Aw (bV false)) hS_ ⟨(),trivial,congrArg Ending.returned ((by rw[hB])),(Mem.cast (by unfold P7 tkN;rw[hB];rfl) hS_)⟩
 ·have qh9:=h9;try simp only[zA]at qh9
  refine Ak (hK2 _ _ _ (Ad (fun K12 hK12=>Dh [(0,true),(1,true),(2,true),(3,true),(4,true),(5,true),(6,true),(7,true),(8,true),(9,true),(10,true),(11,false),(12,false),(13,false),(14,false)] [0,1,2,3,4,5,6,7,8,9,10] (Ay 2 ?_))))
  refine Wd.ys (v:=nV .u16 (p/64)) rfl rfl rfl ((Ys.p (v:=.int .u16 (Nb .u16 (p:Int) ((64:Nat):Int)))).conseq (Af (H3 rfl H1))) (Ay 2 (Wd.ys (v:=pL (some ⟨b,(p/64)*1,none⟩)) rfl rfl rfl ((C9 (k:=.u16) (i:=((p/64:Nat):Int)) (sz:=1) rfl Ae Ae Tryz.runUnderlying228 Tryz.sizeOf45 Ag Ag).conseq (by rw[Nat.zero_add];try rfl)) (Wd.ys rfl rfl rfl (Bp (b:=b) (o':=(p/64)*1) (i:=0) (j:=0) (cs:=Fd T n) (v:=nV .u64 (wd T (p/64))) rfl Ae Tryz.isAgg45 rfl rfl (Ly Ag)) (Ay 1 ?_))))
  refine Wd.ys (v:=nV .u16 (p%64)) rfl rfl rfl ((Ys.p (v:=.int .u16 (Tk (p:Int) ((64:Nat):Int)))).conseq (Af (rfl))) (Wd.ys (v:=nV .u64 (2^(p%64))) rfl rfl rfl (Ys.conseq (v:=iV .u64 (Hw .u64 1 ((p%64:Nat):Int))) (Af (T2 hpm)) (U2 (k:=.u64) (k':=.u16) (a:=1) (b:=((p%64:Nat):Int)) rfl Ae Ae Ag)) (Wd.ys (v:=nV .u64 (wd (up T p true) (p/64))) rfl rfl rfl (Ys.conseq (v:=nV .u64 ((wd T (p/64))|||(2^(p%64)))) (Af (congrArg (fun n:Nat=>(n:Int)) Alh)) ((Ys.p (v:=.int .u64 (bor .u64 (wd T (p/64):Int) ((2^(p%64):Nat):Int)))).conseq (Af (Im rfl H0 H0)))) (Wd.yc (v:=pV b 0) rfl rfl rfl (Ys.yc (Ys.p)) (.inr fun _ h_=>h_) (Wd.yc (v:=pV b 0) rfl rfl rfl (Ys.yc (Ys.p)) (.inr fun _ h_=>h_) ?_))))
  refine Wd.yc (v:=pL (some ⟨b,(p/64)*1,none⟩)) rfl rfl rfl (Ys.yc ((C9 (k:=.u16) (i:=((p/64:Nat):Int)) (sz:=1) rfl Ae Ae Tryz.runUnderlying228 Tryz.sizeOf45 Ag Ag).conseq (by rw[Nat.zero_add];try rfl))) (.inl Ae) (B8 rfl rfl (Ek (b:=b) (o':=(p/64)*1) (i:=0) (j:=0) (cs:=Fd T n) (cs':=Fd (up T p true) n) (v:=nV .u64 (wd (up T p true) (p/64))) (LL':=[[cb b (Fd (up T p true) n) 230]]) rfl rfl Ae Ae Tryz.sizeOf45 rfl rfl rfl (by rw[Nx];omega) (Wt true Ag) rfl) (.inl Ae) (fun _=>?_))
  refine A7 (hK12 _ _ _ (Ad (fun K14 hK14=>Aa (Ab 3 ?_))))
  refine Ah (Bp (b:=b) (o':=1024) (i:=0) (j:=0) (cs:=Fd (up T p true) n) (v:=iV .i64 n) rfl Ae Tryz.isAgg3 rfl rfl (Ws _ _)) (Ah (v:=iV .i64 (n+1)) ((Ys.p (v:=.int .i64 (Bt .i64 n 1))).conseq (Af (A6 Ag Ag Ag))) (Ab 2 (Ai rfl (Ek (b:=b) (o':=1024) (i:=0) (j:=0) (cs:=Fd (up T p true) n) (cs':=Fd (up T p true) (n+1)) (v:=iV .i64 (n+1)) (LL':=[[cb b (Fd (up T p true) (n+1)) 230]]) rfl rfl Ae Ae Tryz.sizeOf3 rfl rfl rfl (by rw[Nx];decide) (T1 _ _ _) rfl) (fun _=>Ac ?_))))
  refine hK14 _ _ _ (Ad (fun K16 hK16=>?_))
  refine Aa (Ab 1 (Ac (hK16 _ _ _ (Aq (fn:=Tryz.f70) rfl ?_))))
  have hB:Ur T p=true:=by unfold Ur;rw[show(decide (p<1024)||T p)=false from ?_];rfl;have hz_:=h9;first|exact hz_|(rw[←hz_];congr 1;exact decide_eq_decide.2 Ag)
  exact fun w_ hS_=>Bb rfl (Aw (bV true)) hS_ ⟨(),trivial,congrArg Ending.returned ((by rw[hB])),(Mem.cast (by unfold P7 tkN;rw[hB];rfl) hS_)⟩
theorem Ah4(T:Nat→Bool)(n:Int)(b p:Nat)(w:World)(hl:Mem w [b] [[cb b (Fd T n) 230]] w)(hp:p<65536)(hn1: -1000000000000≤n)(hn2:n≤1000000000000):Calls Tryz.prog 83 #[pV b 0,nV .u16 p] w (Bj w (fun _:Unit=>True) (fun _=>.bool (T p)) [b] (fun _=>[[cb b (Fd (gvT T p) (gvN T p n)) 230]])):=by
 have hwl:=Lw T (p/64);have hwd:=Nat.lt_of_le_of_lt (Nat.div_le_self (wd T (p/64)) (2^(p%64))) hwl;have hpm:=Nat.mod_lt p (show 0<64 by decide);have h2p:(2:Nat)^(p%64)<18446744073709551616:=Nat.lt_of_lt_of_le (Nat.pow_lt_pow_right (n:=64) Al hpm) Al
 refine Ar (M:=[b]) (LL:=[[cb b (Fd T n) 230]]) (n:=30) Tryz.func83 rfl rfl A5 (hl) (Ad (fun K1 hK1=>?_))
 refine Aa (Ab 1 (Ac (hK1 _ _ _ (Ad (fun K2 hK2=>?_)))))
 refine Ad (fun K3 hK3=>Aa (Ab 2 (B0 (v:=bV (T p)) (A9 (fun w_ hm_=>Agp T n b p _ (Az (i:=0) (j:=0) (t:=230) (b:=b) hm_ rfl rfl) Ag)) (Ab 1 ?_))))
 refine Ac (hK3 _ _ _ ?_)
 refine Ao (!(T p)) Ae (fun h5=>?_) (fun h6=>?_)
 ·refine Ad (fun K7 hK7=>Aa (Ab 1 (Ac (hK7 _ _ _ ?_))))
  refine Aq (fn:=Tryz.f83) rfl ?_
  have hB:T p=false:=by have hz_:=h5;revert hz_;cases T p<;>simp
  exact fun w_ hS_=>Bb rfl (Aw (bV false)) hS_ ⟨(),trivial,congrArg Ending.returned ((by rw[hB])),(Mem.cast (by unfold gvT gvN;rw[hB];rfl) hS_)⟩
 ·refine Ak (hK2 _ _ _ (Ad (fun K9 hK9=>Dh [(0,true),(1,true),(2,true),(3,true),(4,true),(5,true),(6,true),(7,true),(8,true),(9,true),(10,true),(11,false),(12,false),(13,false),(14,false)] [0,1,2,3,4,5,6,7,8,9,10] (Ay 2 ?_))))
  refine Wd.ys (v:=nV .u16 (p/64)) rfl rfl rfl ((Ys.p (v:=.int .u16 (Nb .u16 (p:Int) ((64:Nat):Int)))).conseq (Af (H3 rfl H1))) (Ay 2 (Wd.ys (v:=pL (some ⟨b,(p/64)*1,none⟩)) rfl rfl rfl ((C9 (k:=.u16) (i:=((p/64:Nat):Int)) (sz:=1) rfl Ae Ae Tryz.runUnderlying228 Tryz.sizeOf45 Ag Ag).conseq (by rw[Nat.zero_add];try rfl)) (Wd.ys rfl rfl rfl (Bp (b:=b) (o':=(p/64)*1) (i:=0) (j:=0) (cs:=Fd T n) (v:=nV .u64 (wd T (p/64))) rfl Ae Tryz.isAgg45 rfl rfl (Ly Ag)) (Ay 1 ?_))))
  refine Wd.ys (v:=nV .u16 (p%64)) rfl rfl rfl ((Ys.p (v:=.int .u16 (Tk (p:Int) ((64:Nat):Int)))).conseq (Af (rfl))) (Wd.ys (v:=nV .u64 (2^(p%64))) rfl rfl rfl (Ys.conseq (v:=iV .u64 (Hw .u64 1 ((p%64:Nat):Int))) (Af (T2 hpm)) (U2 (k:=.u64) (k':=.u16) (a:=1) (b:=((p%64:Nat):Int)) rfl Ae Ae Ag)) (Wd.ys (v:=nV .u64 (wd (up T p false) (p/64))) rfl rfl rfl ((Ys.p (v:=iV .u64 (V1 .u64 (wd T (p/64):Int) ((2^(p%64):Nat):Int)))).conseq (Af (Aea))) (Wd.yc (v:=pV b 0) rfl rfl rfl (Ys.yc (Ys.p)) (.inr fun _ h_=>h_) (Wd.yc (v:=pV b 0) rfl rfl rfl (Ys.yc (Ys.p)) (.inr fun _ h_=>h_) ?_))))
  refine Wd.yc (v:=pL (some ⟨b,(p/64)*1,none⟩)) rfl rfl rfl (Ys.yc ((C9 (k:=.u16) (i:=((p/64:Nat):Int)) (sz:=1) rfl Ae Ae Tryz.runUnderlying228 Tryz.sizeOf45 Ag Ag).conseq (by rw[Nat.zero_add];try rfl))) (.inl Ae) (B8 rfl rfl (Ek (b:=b) (o':=(p/64)*1) (i:=0) (j:=0) (cs:=Fd T n) (cs':=Fd (up T p false) n) (v:=nV .u64 (wd (up T p false) (p/64))) (LL':=[[cb b (Fd (up T p false) n) 230]]) rfl rfl Ae Ae Tryz.sizeOf45 rfl rfl rfl (by rw[Nx];omega) (Wt false Ag) rfl) (.inl Ae) (fun _=>?_))
  refine A7 (hK9 _ _ _ (Ad (fun K11 hK11=>Aa (Ab 3 ?_))))
  refine Ah (Bp (b:=b) (o':=1024) (i:=0) (j:=0) (cs:=Fd (up T p false) n) (v:=iV .i64 n) rfl Ae Tryz.isAgg3 rfl rfl (Ws _ _)) (Ah (v:=iV .i64 (n-1)) ((Ys.p (v:=.int .i64 (Hk .i64 n 1))).conseq (Af (Er rfl Ag Ag))) (Ab 2 (Ai rfl (Ek (b:=b) (o':=1024) (i:=0) (j:=0) (cs:=Fd (up T p false) n) (cs':=Fd (up T p false) (n-1)) (v:=iV .i64 (n-1)) (LL':=[[cb b (Fd (up T p false) (n-1)) 230]]) rfl rfl Ae Ae Tryz.sizeOf3 rfl rfl rfl (by rw[Nx];decide) (T1 _ _ _) rfl) (fun _=>Ac ?_))))
  refine hK11 _ _ _ (Ad (fun K13 hK13=>?_))
  refine Aa (Ab 1 (Ac (hK13 _ _ _ (Aq (fn:=Tryz.f83) rfl ?_))))
  have hB:T p=true:=by have hz_:=h6;revert hz_;cases T p<;>simp
  exact fun w_ hS_=>Bb rfl (Aw (bV true)) hS_ ⟨(),trivial,congrArg Ending.returned ((by rw[hB])),(Mem.cast (by unfold gvT gvN;rw[hB];rfl) hS_)⟩
def O3(T:Nat→Bool)(p:Nat):Nat:=if nf T p<65536 then nf T p else 0
theorem Aai{T:Nat→Bool}{fr:Nat}:nf T fr=nf T (max fr (64*(fr/64))):=by rw[Nat.max_eq_left Ag]
theorem Aef{T:Nat→Bool}{fr w x:Nat}(hw:w<1024)(he:w=fr/64)(hx:x=(18446744073709551615-wd T w)&&&(18446744073709551616-2^(fr%64)))(hi:nf T fr=nf T (max fr (64*w))):
    x<18446744073709551616∧(x≠0→nf T fr=64*w+tz x∧tz x<64)∧(x=0→nf T fr=nf T (max fr (64*(w+1)))):=by
  have hm:=Nat.mod_lt fr (show 0<64 by decide)
  have hlt:x<18446744073709551616:=by rw[hx];exact Nat.lt_of_le_of_lt Nat.and_le_left (by have:=Lw T w;omega)
  have h:=Wv (T:=T) (w:=w) (s:=fr%64) (x:=x) hw hm hlt (fun k hk=>by
    rw[hx,Nat.testBit_and,Ww hk,Aah hm hk,Bool.and_comm])
  rw[show 64*w+fr%64=fr by omega]at h
  refine⟨hlt,h.1,fun h0=>?_⟩
  rw[h.2 h0,Nat.max_eq_right Ag]
theorem Aeg{T:Nat→Bool}{fr w x:Nat}(hw:w<1024)(he:fr/64<w)(hx:x=18446744073709551615-wd T w)(hi:nf T fr=nf T (max fr (64*w))):
    x<18446744073709551616∧(x≠0→nf T fr=64*w+tz x∧tz x<64)∧(x=0→nf T fr=nf T (max fr (64*(w+1)))):=by
  have hlt:x<18446744073709551616:=by rw[hx];have:=Lw T w;omega
  have h:=Wv (T:=T) (w:=w) (s:=0) (x:=x) hw Al hlt (fun k hk=>by
    rw[hx,Ww hk,decide_eq_true (Nat.zero_le k),Bool.true_and])
  rw[hi,Nat.max_eq_right Ag]
  refine⟨hlt,h.1,fun h0=>?_⟩
  rw[show 64*w=64*w+0 by rfl,h.2 h0,Nat.max_eq_right Ag]
theorem Aaj{T:Nat→Bool}{fr v:Nat}(h:nf T fr=v)(hv:v<65536):O3 T fr=v∧decide (nf T fr<65536)=true:=by
  unfold O3;rw[h,if_pos hv];exact⟨rfl,decide_eq_true hv⟩
theorem Ah5{T:Nat→Bool}{fr:Nat}(h:nf T fr=nf T (max fr (64*1024)))(hf:fr<65536):O3 T fr=0∧decide (nf T fr<65536)=false:=by
  have e:nf T fr=65536:=by rw[h,Nat.max_eq_right Ag];exact Aag (Nat.le_refl _)
  unfold O3;rw[e];exact⟨rfl,rfl⟩
theorem Aak(T:Nat→Bool)(n:Int)(b fr:Nat)(w:World)(hat:At w (some ⟨b,0,none⟩) (Fd T n))(htab:At w (some ⟨0,0,none⟩) (Ci dbt))(hfr:fr<65536):Calls Tryz.prog 162 #[pV b 0,nV .i64 fr] w (Dc w (.tuple #[.int .i64 (O3 T fr:Int),.bool (decide (nf T fr<65536))])):=by
 have hfm:=Nat.mod_lt fr (show 0<64 by decide);obtain⟨mv,hmv⟩: ∃z,z=18446744073709551616-2^(fr%64):=⟨_,rfl⟩;have hmvl:mv<18446744073709551616:=(by have h2:=Nat.two_pow_pos (fr%64);omega)
 refine Ar (M:=[]) (LL:=[]) (n:=37) Tryz.func162 rfl rfl A5 (Mem.refl _) (Ad (fun K1 hK1=>?_))
 refine Aa (Ab 2 (Ac (hK1 _ _ _ (Ad (fun K3 hK3=>?_)))))
 refine Ad (fun K4 hK4=>Aa (Ab 1 (Ah (v:=nV .i64 (fr/64)) ((Ys.p (v:=.int .i64 (Nb .i64 (fr:Int) 64))).conseq (Af (Oj Ag))) (Ab 1 ?_))))
 refine Ac (hK4 _ _ _ (W.block (Ep [0,1,6] (fun(wi:Nat)=>[pV b 0,nV .i64 fr,nV .i64 wi]) (fun(wi:Nat)=>wi≤1024∧fr/64≤wi∧nf T fr=nf T (max fr (64*wi))) (fun(wi:Nat)=>[]) (fun(wi:Nat)=>1024-wi) (fr/64) Ae ⟨Ag,(Nat.le_refl _),Aai⟩ (by rfl) (fun wi f7 J6 hp8 hJ6=>?_))))
 obtain⟨hw,hlo,hi⟩:=hp8
 have hwl:=Lw T wi;obtain⟨ov,hov⟩: ∃z,z=18446744073709551615-wd T wi:=⟨_,rfl⟩;obtain⟨ow,how⟩: ∃z,z=ov&&&mv:=⟨_,rfl⟩;have hovl:ov<18446744073709551616:=Ag;have howl:ow<18446744073709551616:=(by rw[how];exact Nat.lt_of_le_of_lt Nat.and_le_left hovl)
 refine Ad (fun K9 hK9=>Ad (fun K10 hK10=>?_))
 refine Aa (Ab 2 (Ac (hK10 _ _ _ ?_)))
 refine Ao (decide (((wi:Nat):Int)<1024)) Ae (fun h12=>?_) (fun h13=>?_)
 ·have qh12:=h12;try simp only[zA]at qh12
  refine Ak (hK9 _ _ _ (Ad (fun K15 hK15=>W.block (Ad (fun K16 hK16=>?_)))))
  refine Aa (Ab 4 (Ah (v:=pL (some ⟨b,wi*1,none⟩)) ((C9 (k:=.i64) (i:=(wi:Int)) (sz:=1) rfl Ae Ae Tryz.runUnderlying228 Tryz.sizeOf45 Ag Ag).conseq (by rw[Nat.zero_add];try rfl)) (Ah (v:=nV .u64 (wd T wi)) (Ys.ld (a:=⟨b,wi*1,none⟩) rfl Ae Tryz.isAgg45 (fun w_ h_=>by have x_:=(hat.mem0 h_).ld (q:=wi*1) (Ly Ag);rw[Br]at x_;exact x_)) (Ah (v:=nV .u64 ov) (Ys.conseq (v:=nV .u64 (18446744073709551615-(wd T wi))) (Af (congrArg (fun n:Nat=>(n:Int)) hov.symm)) ((Ys.p (v:=.int .u64 (Pv .u64 ((18446744073709551615:Nat):Int) (wd T wi:Int)))).conseq (Af (Hb rfl H0 18446744073709551615 rfl)))) ?_))))
  refine Ab 1 (Ac (hK16 _ _ _ (Ad (fun K18 hK18=>Ad (fun K19 hK19=>?_)))))
  refine Aa (Ab 2 (Ah (v:=nV .i64 (fr/64)) ((Ys.p (v:=.int .i64 (Nb .i64 (fr:Int) 64))).conseq (Af (Oj Ag))) (Ab 1 (Ac ?_))))
  refine hK19 _ _ _ ?_
  refine Ao (((wi:Nat):Int)==((fr/64:Nat):Int)) Ae (fun h21=>?_) (fun h22=>?_)
  ·have qh21:=h21;try simp only[zA]at qh21
   refine Aa (Ab 2 (Ah (v:=nV .i64 (fr%64)) ((Ys.p (v:=.int .i64 (Tk (fr:Int) 64))).conseq (Af (rfl))) (Ah (v:=nV .u64 mv) (Ys.conseq (v:=iV .u64 (Hw .u64 18446744073709551615 ((fr%64:Nat):Int))) (Af ((X6 hfm).trans (congrArg (fun n:Nat=>(n:Int)) hmv.symm))) (U2 (k:=.u64) (k':=.i64) (a:=18446744073709551615) (b:=((fr%64:Nat):Int)) rfl Ae Ae Ag)) (Ah (v:=nV .u64 ow) (Ys.conseq (v:=nV .u64 (ov&&&mv)) (Af (congrArg (fun n:Nat=>(n:Int)) how.symm)) ((Ys.p (v:=.int .u64 (Cn .u64 (ov:Int) (mv:Int)))).conseq (Af (Om rfl H0 H0)))) ?_))))
   refine Ab 1 (Ac (hK18 _ _ _ (Ad (fun K24 hK24=>Aa ?_))))
   refine Ab 2 (Ac (hK24 _ _ _ ?_))
   refine Ao (((ow:Nat):Int) !=0) Ae (fun h26=>?_) (fun h27=>?_)
   ·have qh26:=h26;try simp only[zA]at qh26
    refine Ad (fun K28 hK28=>?_)
    have htz:=((Aef (x:=ow) Ag Ag (by rw[how,hov,hmv]) hi).2.1 Ag).2;have hxl:=(Aef (x:=ow) Ag Ag (by rw[how,hov,hmv]) hi).1
    refine Aa (Ab 1 (Ah (v:=nV .i64 (wi*64)) ((Ys.p (v:=.int .i64 (Ld .i64 (wi:Int) 64))).conseq (Af (Nn (by first|omega|rfl|(push_cast;rfl)) Ag Ag))) (Ab 1 (B0 (v:=nV .i64 (tz ow)) (A9 (fun w_ hm_=>Alj ow _ ((htab.mem0 hm_)) Ag Ag)) ?_))))
    refine Ah (v:=nV .i64 ((wi*64)+(tz ow))) ((Ys.p (v:=.int .i64 (Bt .i64 ((wi*64:Nat):Int) (tz ow:Int)))).conseq (Af (A6 Ag Ag Ag))) (Ab 2 (Ac (hK28 _ _ _ (Aq (fn:=Tryz.f162) rfl (fun w_ hS_=>B9 rfl (Aw (nV .i64 ((wi*64)+(tz ow)))) (Aw (bV true)) hS_ ⟨by clear hK1 hK3 hK4 hJ6 hK9 hK10 hK15 hK16 hK18 hK19 hK24 hK28;refine congrArg Ending.returned ?_;have hz_:=(Aef (x:=ow) Ag Ag (by rw[how,hov,hmv]) hi).2.1 Ag;have hy_:=Aaj hz_.1 Ag;rw[hy_.1,hy_.2,Nat.mul_comm],hS_.below⟩)))))
   ·have qh27:=h27;try simp only[zA]at qh27
    refine Ak (hK15 _ _ _ (Aa (Ab 1 (Ah (v:=nV .i64 (wi+1)) ((Ys.p (v:=.int .i64 (Bt .i64 (wi:Int) 1))).conseq (Af (A6 Ag Ag Ag))) ?_))))
    refine Ab 1 (Ac ?_)
    have hx3_:=(Aef (x:=ow) Ag Ag (by rw[how,hov,hmv]) hi).2.2 Ag
    refine fun w_ h_=>hJ6 (wi+1) _ w_ Ag ⟨Ag,Ag,hx3_⟩ ?_ h_
    kernel_rfl
  ·have qh22:=h22;try simp only[zA]at qh22
   refine Ak (hK18 _ _ _ (Ad (fun K32 hK32=>Aa (Ab 2 ?_))))
   refine Ac (hK32 _ _ _ ?_)
   refine Ao (((ov:Nat):Int) !=0) Ae (fun h34=>?_) (fun h35=>?_)
   ·have qh34:=h34;try simp only[zA]at qh34
    refine Ad (fun K36 hK36=>?_)
    have htz:=((Aeg (x:=ov) Ag Ag hov hi).2.1 Ag).2;have hxl:=(Aeg (x:=ov) Ag Ag hov hi).1
    refine Aa (Ab 1 (Ah (v:=nV .i64 (wi*64)) ((Ys.p (v:=.int .i64 (Ld .i64 (wi:Int) 64))).conseq (Af (Nn (by first|omega|rfl|(push_cast;rfl)) Ag Ag))) (Ab 1 (B0 (v:=nV .i64 (tz ov)) (A9 (fun w_ hm_=>Alj ov _ ((htab.mem0 hm_)) Ag Ag)) ?_))))
    refine Ah (v:=nV .i64 ((wi*64)+(tz ov))) ((Ys.p (v:=.int .i64 (Bt .i64 ((wi*64:Nat):Int) (tz ov:Int)))).conseq (Af (A6 Ag Ag Ag))) (Ab 2 (Ac (hK36 _ _ _ (Aq (fn:=Tryz.f162) rfl (fun w_ hS_=>B9 rfl (Aw (nV .i64 ((wi*64)+(tz ov)))) (Aw (bV true)) hS_ ⟨by clear hK1 hK3 hK4 hJ6 hK9 hK10 hK15 hK16 hK18 hK19 hK32 hK36;refine congrArg Ending.returned ?_;have hz_:=(Aeg (x:=ov) Ag Ag hov hi).2.1 Ag;have hy_:=Aaj hz_.1 Ag;rw[hy_.1,hy_.2,Nat.mul_comm],hS_.below⟩)))))
   ·have qh35:=h35;try simp only[zA]at qh35
    refine Ak (hK15 _ _ _ (Aa (Ab 1 (Ah (v:=nV .i64 (wi+1)) ((Ys.p (v:=.int .i64 (Bt .i64 (wi:Int) 1))).conseq (Af (A6 Ag Ag Ag))) ?_))))
    refine Ab 1 (Ac ?_)
    have hx3_:=(Aeg (x:=ov) Ag Ag hov hi).2.2 Ag
    refine fun w_ h_=>hJ6 (wi+1) _ w_ Ag ⟨Ag,Ag,hx3_⟩ ?_ h_
    kernel_rfl
 ·have qh13:=h13;try simp only[zA]at qh13
  refine Cr (hK3 _ _ _ (Ad (fun K40 hK40=>Aa (Ab 2 ?_))))
  refine Ac (hK40 _ _ _ (Aq (fn:=Tryz.f162) rfl (fun w_ hS_=>B9 rfl (Aw (iV .i64 0)) (Aw (bV false)) hS_ ⟨by clear hK1 hK3 hK4 hJ6 hK9 hK10 hK40;refine congrArg Ending.returned ?_;have hz_:=Ah5 (show nf T fr=nf T (max fr (64*1024)) by rw[show 1024=wi by omega];exact hi) hfr;rw[hz_.1,hz_.2];rfl,hS_.below⟩)))
def pk(T:Nat→Bool)(d:Nat):Nat:=if nf T (1024+d%64512)<65536 then nf T (1024+d%64512)else nf T 1024
def L8(T:Nat→Bool)(d:Nat):Nat:=if pk T d<65536 then pk T d else 0
def Wx(T:Nat→Bool)(d:Nat):Nat→Bool:=bif decide (pk T d<65536)then up T (pk T d) true else T
def pkN(T:Nat→Bool)(d:Nat)(n:Int):Int:=bif decide (pk T d<65536)then n+1 else n
theorem All(T:Nat→Bool)(n:Int): ∀v∈Fd T n,∀x,v≠b8 x:=fun v hv x e=>by
  subst e
  unfold Fd wsC at hv
  rcases List.mem_append.1 hv with h|h
  · obtain⟨i,_,hi⟩:=List.mem_map.1 h;cases hi
  · cases List.mem_singleton.1 h
theorem Aal{w:World}{b:Nat}{T:Nat→Bool}{n:Int}{t:TypeId}(hl:Mem w [b] [[cb b (Fd T n) t]] w)(htab:At w (some ⟨0,0,none⟩) (Ci dbt)):0<(Ci dbt).length→(Option.getD (some (⟨0,0,none⟩:Addr)) default).block∉[b]:=fun h0=>by
  have hb:=hl.at (i:=0) (j:=0) (p:=cb b (Fd T n) t) rfl rfl
  have:=htab.ne (b:=b) (cs:=Fd T n) hb (All T n) h0
  simpa using this
theorem M2(T:Nat→Bool)(d:Nat):pk T d≤65536∧1024≤pk T d∧(pk T d<65536→T (pk T d)=false)∧(pk T d=65536→ ∀q,1024≤q→q<65536→T q=true):=by
  have hm:=Nat.mod_lt d (show 0<64512 by decide)
  obtain⟨a1,a2,a3,a4⟩:=Se T (p:=1024+d%64512) Ag
  obtain⟨b1,b2,b3,b4⟩:=Se T (p:=1024) Ag
  unfold pk;split
  · exact⟨a1,by omega,a3,fun e=>by omega⟩
  · exact⟨b1,b2,b3,b4⟩
theorem Aam{T:Nat→Bool}{p:Nat}(h:1024≤p)(ht:T p=false)(n:Int):Ur T p=true∧P7 T p=up T p true∧tkN T p n=n+1:=by
  have hB:Ur T p=true:=by unfold Ur;rw[ht,decide_eq_false Ag];rfl
  unfold P7 tkN;rw[hB];exact⟨rfl,rfl,rfl⟩
theorem Ah6(T:Nat→Bool)(n:Int)(b d:Nat)(w:World)(hl:Mem w [b] [[cb b (Fd T n) 230]] w)(hn1: -1000000000000≤n)(hn2:n≤1000000000000)(htab:At w (some ⟨0,0,none⟩) (Ci dbt))(hd:d<18446744073709551616):Calls Tryz.prog 111 #[pV b 0,nV .u64 d] w (Bj w (fun _:Unit=>True) (fun _=>.tuple #[.int .u16 (L8 T d:Int),.bool (decide (pk T d<65536))]) [b] (fun _=>[[cb b (Fd (Wx T d) (pkN T d n)) 230]])):=by
 have hne:=Aal hl htab;have hdm:=Nat.mod_lt d (show 0<64512 by decide)
 refine Ar (M:=[b]) (LL:=[[cb b (Fd T n) 230]]) (n:=32) Tryz.func111 rfl rfl A5 (hl) (Ad (fun K1 hK1=>?_))
 refine Aa (Ab 2 (Ac (hK1 _ _ _ (Ad (fun K3 hK3=>?_)))))
 refine Aa (Ab 2 (Ah (v:=nV .u64 (d%64512)) ((Ys.p (v:=.int .u64 (Tk (d:Int) ((64512:Nat):Int)))).conseq (Af (rfl))) (Ah (v:=nV .i64 (d%64512)) ((Ys.p (v:=.int .i64 (Cg .i64 ((d%64512:Nat):Int)))).conseq (Af (Cz Ag Ag))) (Ah (v:=nV .i64 (1024+(d%64512))) ((Ys.p (v:=.int .i64 (Bt .i64 1024 ((d%64512:Nat):Int)))).conseq (Af (A6 Ag Ag Ag))) ?_))))
 refine B0 (v:=Value.tuple #[nV .i64 (O3 T (1024+(d%64512))),bV (decide (nf T (1024+(d%64512))<65536))]) (A9 (fun w_ hm_=>Aak T n b (1024+(d%64512)) _ (Az (i:=0) (j:=0) (t:=230) (b:=b) hm_ rfl rfl) (htab.mem' hm_ hne) Ag)) (Ab 5 (Ac (hK3 _ _ _ (Ad (fun K5 hK5=>?_)))))
 refine Ad (fun K6 hK6=>Aa (Ab 2 (Ac (hK6 _ _ _ ?_))))
 refine Ao (!(decide (nf T (1024+(d%64512))<65536))) Ae (fun h8=>?_) (fun h9=>?_)
 ·have qh8:=h8;try simp only[zA]at qh8
  refine Aa (Ab 1 (B0 (v:=Value.tuple #[nV .i64 (O3 T 1024),bV (decide (nf T 1024<65536))]) (A9 (fun w_ hm_=>Aak T n b 1024 _ (Az (i:=0) (j:=0) (t:=230) (b:=b) hm_ rfl rfl) (htab.mem' hm_ hne) Ag)) (Ab 5 (Ac ?_))))
  refine hK5 _ _ _ (Ad (fun K11 hK11=>?_))
  refine Ad (fun K12 hK12=>Aa (Ab 2 (Ac (hK12 _ _ _ ?_))))
  refine Ao (!(decide (nf T 1024<65536))) Ae (fun h14=>?_) (fun h15=>?_)
  ·have qh14:=h14;try simp only[zA]at qh14
   refine Ad (fun K16 hK16=>Aa (Ab 2 (Ac (hK16 _ _ _ ?_))))
   refine Aq (fn:=Tryz.f111) rfl ?_
   have hp65:pk T d=65536:=by have ha_:=(Se T (p:=1024) Al).1;unfold pk;rw[if_neg Ag];omega
   have hD:decide (pk T d<65536)=false:=by rw[hp65];rfl
   have hV:L8 T d=0:=by unfold L8;rw[if_neg Ag]
   exact fun w_ hS_=>B9 rfl (Aw (iV .u16 0)) (Aw (bV false)) hS_ ⟨(),trivial,congrArg Ending.returned ((by rw[hV,hD];rfl)),(Mem.cast (by unfold Wx pkN;rw[hD];rfl) hS_)⟩
  ·have qh15:=h15;try simp only[zA]at qh15
   refine Ak (hK11 _ _ _ (Ad (fun K19 hK19=>Aa (Ab 2 ?_))))
   refine Ah (v:=nV .u16 ((O3 T 1024)%65536)) ((Ys.p (v:=.int .u16 (Cg .u16 ((O3 T 1024:Nat):Int)))).conseq (Af (C6 rfl _))) (Ax rfl (Au [0] [] (fun w_ hm_ hl_=>(Sf T n b ((O3 T 1024)%65536) _ hl_ Ag Ag Ag))) (fun u20 _=>?_))
   refine Ac (hK19 _ _ _ (Ad (fun K23 hK23=>Aa (Ab 1 ?_))))
   refine Ah (v:=nV .u16 ((O3 T 1024)%65536)) ((Ys.p (v:=.int .u16 (Cg .u16 ((O3 T 1024:Nat):Int)))).conseq (Af (C6 rfl _))) (Ab 2 (Ac (hK23 _ _ _ (Aq (fn:=Tryz.f111) rfl ?_))))
   have hpk:pk T d=nf T 1024:=by unfold pk;rw[if_neg Ag]
   have hlt:pk T d<65536:=by rw[hpk];omega
   have hfv:O3 T 1024=pk T d:=by rw[hpk];unfold O3;rw[if_pos (by rw[←hpk];exact hlt)]
   have hD:decide (pk T d<65536)=true:=decide_eq_true hlt
   have hV:L8 T d=pk T d:=by unfold L8;rw[if_pos hlt]
   have htk:=Aam (M2 T d).2.1 ((M2 T d).2.2.1 hlt) n
   have hmd:pk T d%65536=pk T d:=Nat.mod_eq_of_lt hlt
   exact fun w_ hS_=>B9 rfl (Aw (nV .u16 ((O3 T 1024)%65536))) (Aw (bV true)) hS_ ⟨(),trivial,congrArg Ending.returned ((by rw[hV,hD,hfv,hmd])),(Mem.cast (by unfold Wx pkN;rw[hD,hfv,hmd,htk.2.1,htk.2.2];rfl) hS_)⟩
 ·have qh9:=h9;try simp only[zA]at qh9
  refine Ak (hK5 _ _ _ (Ad (fun K26 hK26=>Ad (fun K27 hK27=>Aa ?_))))
  refine Ab 2 (Ac (hK27 _ _ _ ?_))
  refine Ao (!(decide (nf T (1024+(d%64512))<65536))) Ae (fun h29=>?_) (fun h30=>?_)
  ·exact absurd (h9.symm.trans h29) Al
  ·have qh30:=h30;try simp only[zA]at qh30
   refine Ak (hK26 _ _ _ (Ad (fun K32 hK32=>Aa (Ab 2 ?_))))
   refine Ah (v:=nV .u16 ((O3 T (1024+(d%64512)))%65536)) ((Ys.p (v:=.int .u16 (Cg .u16 (O3 T (1024+(d%64512)):Int)))).conseq (Af (C6 rfl _))) (Ax rfl (Au [0] [] (fun w_ hm_ hl_=>(Sf T n b ((O3 T (1024+(d%64512)))%65536) _ hl_ Ag Ag Ag))) (fun u33 _=>?_))
   refine Ac (hK32 _ _ _ (Ad (fun K36 hK36=>Aa (Ab 1 ?_))))
   refine Ah (v:=nV .u16 ((O3 T (1024+(d%64512)))%65536)) ((Ys.p (v:=.int .u16 (Cg .u16 (O3 T (1024+(d%64512)):Int)))).conseq (Af (C6 rfl _))) (Ab 2 (Ac (hK36 _ _ _ (Aq (fn:=Tryz.f111) rfl ?_))))
   have hpk:pk T d=nf T (1024+d%64512):=by unfold pk;rw[if_pos Ag]
   have hlt:pk T d<65536:=by rw[hpk];omega
   have hfv:O3 T (1024+d%64512)=pk T d:=by rw[hpk];unfold O3;rw[if_pos (by rw[←hpk];exact hlt)]
   have hD:decide (pk T d<65536)=true:=decide_eq_true hlt
   have hV:L8 T d=pk T d:=by unfold L8;rw[if_pos hlt]
   have htk:=Aam (M2 T d).2.1 ((M2 T d).2.2.1 hlt) n
   have hmd:pk T d%65536=pk T d:=Nat.mod_eq_of_lt hlt
   exact fun w_ hS_=>B9 rfl (Aw (nV .u16 ((O3 T (1024+(d%64512)))%65536))) (Aw (bV true)) hS_ ⟨(),trivial,congrArg Ending.returned ((by rw[hV,hD,hfv,hmd])),(Mem.cast (by unfold Wx pkN;rw[hD,hfv,hmd,htk.2.1,htk.2.2];rfl) hS_)⟩
theorem U8(T:Nat→Bool)(d:Nat):L8 T d<65536:=by unfold L8;split<;>omega
theorem Aan:List.replicate 1024 (Value.int .u64 0)++[Value.int .i64 0]=Fd (fun _=>false) 0:=by
  have e: ∀k,Kh (fun _=>false) k=0:=by
    intro k
    induction k with
    |zero=>rfl
    |succ k ih=>rw[Kh,ih];rfl
  have h:wsC (fun _=>false)=List.replicate 1024 (Value.int .u64 0):=by
    apply List.ext_getElem?
    intro i
    by_cases hi:i<1024
    · rw[Lx hi,List.getElem?_replicate,if_pos hi]
      unfold wd;rw[e];rfl
    · rw[List.getElem?_eq_none (by rw[Fq];omega),List.getElem?_replicate,if_neg hi]
  unfold Fd;rw[h]
theorem Alm(w:World):Calls Tryz.prog 118 #[] w (Bj w (fun _:Nat=>True) (fun b=>.pointer (some ⟨b,0,none⟩)) [] (fun b=>[[cb b (Fd (fun _=>false) 0) 230]])):=by
 refine Ar (M:=[]) (LL:=[]) (n:=3) Tryz.func118 rfl rfl A5 (Mem.refl _) (Ad (fun K1 hK1=>?_))
 refine Aa (Ab 1 (Ac (hK1 _ _ _ (Ad (fun K2 hK2=>?_)))))
 refine Aa (Ah (v:=Value.agg (List.replicate 1024 (iV .u64 0)++[iV .i64 0]).toArray) (Ys.p) (Ai rfl (Fl (v:=Value.agg (List.replicate 1024 (iV .u64 0)++[iV .i64 0]).toArray) (cs:=List.replicate 1024 (iV .u64 0)++[iV .i64 0]) rfl rfl Ae rfl) (fun p2=>Ab 1 (Ac ?_))))
 refine hK2 _ _ _ (Aq (fn:=Tryz.f118) rfl (fun w_ hS_=>Bb rfl (Aw (pV p2 0)) hS_ ⟨p2,trivial,rfl,(Mem.cast (by rw[←Aan]) hS_)⟩))
namespace Conf
structure Cfg where
  (lm0 lm1 lm2 lm3 lm4 lm5 wm0 wm1 wm2 wm3 wm4 wm5 hm0 hm1 hm2 hm3 hm4 hm5 lan wan bits ms mm mc mu:Int)
  (fa:Option Addr)
  (fl fc:Nat)
  (dmz:Int)
  (uu:ByteArray)
structure Fwd where
  (proto port dest host:Int)
instance :Inhabited Fwd:=⟨⟨0,0,0,0⟩⟩
def isF(F:Nat→Fwd)(proto port:Int)(k:Nat):Bool:=(F k).proto==proto&&(F k).port==port
def findN(F:Nat→Fwd)(proto port:Int):Nat→Nat→Option Nat
  |0,_=>none
  |n+1,k=>bif isF F proto port k then some k else findN F proto port n (k+1)
def find(F:Nat→Fwd)(proto port:Int)(len:Nat):Fwd×Bool:=
  match findN F proto port len 0 with
  |none=>(⟨0,0,0,0⟩,false)
  |some k=>(F k,true)
theorem findN_some(F:Nat→Fwd)(proto port:Int)(len k:Nat): ∀n j,j+n=len→j≤k→k<len→(∀i,i<k→isF F proto port i=false)→isF F proto port k=true→findN F proto port n j=some k:=by
  intro n
  induction n with
  |zero=>intro j h1 h2 h3;omega
  |succ n ih=>
    intro j h1 h2 h3 h4 h5
    unfold findN
    by_cases hj:j=k
    · subst hj;rw[h5];rfl
    · rw[h4 j Ag];exact ih (j+1) Ag Ag h3 h4 h5
theorem findN_none(F:Nat→Fwd)(proto port:Int)(len:Nat): ∀n j,j+n=len→(∀i,i<len→isF F proto port i=false)→findN F proto port n j=none:=by
  intro n
  induction n with
  |zero=>intro j h1 h2;rfl
  |succ n ih=>
    intro j h1 h2
    unfold findN
    rw[h2 j Ag];exact ih (j+1) Ag h2
theorem find_some(F:Nat→Fwd)(proto port:Int)(len k:Nat)(h3:k<len)(h4: ∀i,i<k→isF F proto port i=false)(h5:isF F proto port k=true):find F proto port len=(F k,true):=by
  unfold find;rw[findN_some F proto port len k len 0 Ag Ag h3 h4 h5]
theorem find_none(F:Nat→Fwd)(proto port:Int)(len:Nat)(h4: ∀i,i<len→isF F proto port i=false):find F proto port len=(⟨0,0,0,0⟩,false):=by
  unfold find;rw[findN_none F proto port len len 0 Ag h4]
def fwv(x:Fwd):List Value:=[.int .u8 x.proto,.int .u16 x.port,.int .u16 x.dest,.int .u32 x.host]
end Conf
open Conf (Fwd fwv)
theorem Aeh(x:Fwd):(fwv x).length=4:=rfl
theorem Aei(x:Fwd): ∀v∈fwv x,v.oneCell'=true:=by simp[fwv,Value.oneCell']
theorem T5(xs:List Fwd):(mm fwv xs).length=xs.length*4:=B6 Aeh xs
abbrev fz:Fwd:=⟨0,0,0,0⟩
abbrev btX(a k:Nat):Int:=Cn .u32 (Jd .u32 (a:Int) (31-(k:Int))) 1
def wlR(a b:Nat)(bits:Int):Nat→Nat→Bool
  |0,_=>true
  |n+1,k=>bif decide (((k:Nat):Int)<bits)then(bif btX a k !=btX b k then false else wlR a b bits n (k+1))else true
def inR(a:Nat)(bits:Int):Nat→Nat→Nat→Bool→Bool→Bool
  |0,_,n,z,o=>(((n:Nat):Int)==0)||((!z)&&(!o))
  |m+1,k,n,z,o=>bif decide (((k:Nat):Int)<bits)then inR a bits m (k+1) n z o else bif btX a k==1 then inR a bits m (k+1) (n+1) false o else inR a bits m (k+1) (n+1) z false
section
variable {a b k n:Nat}{bits:Int}{z o v:Bool}
end
def Y8(lan bits a:Int):Bool:=(wlR a.toNat lan.toNat bits 32 0&&a !=lan)&&inR a.toNat bits 32 0 0 true true
theorem Wy(w:World):Calls Tryz.prog 8 #[] w (Dc w (aV [iV .u8 2,iV .u8 0,iV .u8 0,iV .u8 0,iV .u8 0,iV .u8 1,iV .u8 2,iV .u8 0,iV .u8 0,iV .u8 0,iV .u8 1,iV .u8 1,iV .u8 2,iV .u8 0,iV .u8 0,iV .u8 0,iV .u8 1,iV .u8 2,iV .u32 3232235777,iV .u32 3405803781,iV .i64 24,iV .i64 8,iV .i64 4,iV .i64 3,iV .i64 2,sL none 0 0,iV .u32 0,Value.string (Me [48,48,48,48,48,48,48,48,45,49,49,49,49,45,50,50,50,50,45,51,51,51,51,45,52,52,52,52,52,52,52,52,52,52,52,52])])):=by
 refine Ar (M:=[]) (LL:=[]) (n:=5) Tryz.func8 rfl rfl A5 (Mem.refl _) (Ad (fun K1 hK1=>?_))
 refine Aa (Ai rfl (Bc Tryz.zeroValue32) (fun p0=>?_))
 refine Ac (hK1 _ _ _ (Ad (fun K2 hK2=>Aa (Ab 4 ?_))))
 refine Ai rfl (A4 p0 0 0 0 [iV .u8 2,iV .u8 0,iV .u8 0,iV .u8 0,iV .u8 0,iV .u8 1,iV .u8 2,iV .u8 0,iV .u8 0,iV .u8 0,iV .u8 1,iV .u8 1,iV .u8 2,iV .u8 0,iV .u8 0,iV .u8 0,iV .u8 1,iV .u8 2,iV .u32 3232235777,iV .u32 3405803781,iV .i64 24,iV .i64 8,iV .i64 4,iV .i64 3,iV .i64 2,sL none 0 0,iV .u32 0,Value.string (Me [48,48,48,48,48,48,48,48,45,49,49,49,49,45,50,50,50,50,45,51,51,51,51,45,52,52,52,52,52,52,52,52,52,52,52,52])] Tryz.sizeOf32 rfl rfl) (fun _=>Ac (hK2 _ _ _ (Aq (fn:=Tryz.f8) rfl (fun w_ hS_=>Bb rfl (Bq p0 0 0 0 [iV .u8 2,iV .u8 0,iV .u8 0,iV .u8 0,iV .u8 0,iV .u8 1,iV .u8 2,iV .u8 0,iV .u8 0,iV .u8 0,iV .u8 1,iV .u8 1,iV .u8 2,iV .u8 0,iV .u8 0,iV .u8 0,iV .u8 1,iV .u8 2,iV .u32 3232235777,iV .u32 3405803781,iV .i64 24,iV .i64 8,iV .i64 4,iV .i64 3,iV .i64 2,sL none 0 0,iV .u32 0,Value.string (Me [48,48,48,48,48,48,48,48,45,49,49,49,49,45,50,50,50,50,45,51,51,51,51,45,52,52,52,52,52,52,52,52,52,52,52,52])] Tryz.isAgg32 Tryz.sizeOf32) hS_ ⟨rfl,hS_.below⟩))))
end Go.Proofs.YtmonlaoaengfdaaGreatDoor.Oct
