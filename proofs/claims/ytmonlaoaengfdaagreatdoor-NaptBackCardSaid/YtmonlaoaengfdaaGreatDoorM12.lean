import Derived.Test.YtmonlaoaengfdaaGreatDoorM11
import Derived.Test.YtmonlaoaengfdaaGreatDoorM9
set_option linter.unusedVariables false
set_option linter.unusedSimpArgs false
set_option maxRecDepth 20000
namespace Go.Proofs.YtmonlaoaengfdaaGreatDoor.Oct
open Go.RowKit Base
attribute [local irreducible] Ys Yc Ht HtS HtIn Wl Wd W Mem pf D4 Wa Wo
open Conf (Fwd fwv)
def fwQ(a b:Int)(w:Conf.Fwd):Bool:=(w.proto==a)&&(w.port==b)
theorem Ul(xs:List Conf.Fwd)(a b:Int):Conf.find (fun k=>xs.getD k fz) a b xs.length=((xs.find? (fwQ a b)).getD fz,(xs.find? (fwQ a b)).isSome):=by
  cases h:xs.find? (fwQ a b)with
  |none=>
    rw[List.find?_eq_none]at h
    rw[Conf.find_none _ _ _ _ (fun i hi=>by
      have:=h (xs.getD i fz) (by rw[List.getD_eq_getElem?_getD,List.getElem?_eq_getElem hi];exact List.getElem_mem hi)
      show fwQ a b (xs.getD i fz)=false
      simpa using this)]
    rfl
  |some w=>
    obtain⟨hw,i,hi,rfl,hno⟩:=List.find?_eq_some_iff_getElem.1 h
    have g: ∀j (hj:j<xs.length),xs.getD j fz=xs[j]:=fun j hj=>by rw[List.getD_eq_getElem?_getD,List.getElem?_eq_getElem hj];rfl
    rw[Conf.find_some _ _ _ _ i hi (fun j hj=>by
      show fwQ a b (xs.getD j fz)=false
      rw[g j Ag];simpa using hno j hj) (by show fwQ a b (xs.getD i fz)=true;rw[g i hi];exact hw)]
    simp only[g i hi];rfl
theorem Abo(xs:List Conf.Fwd)(a b:Int):I6 xs a b=(xs.find? (fwQ a b)).isSome:=by unfold I6;rw[Ul]
theorem Afh(xs:List Conf.Fwd)(a b:Int):D2 xs a b=(xs.find? (fwQ a b)).getD fz:=by unfold D2;rw[Ul]
theorem Ai6{xs:List Conf.Fwd}{a b:Int}(h:I6 xs a b=false): ∀w∈xs,¬(w.proto=a∧w.port=b):=fun w hw hh=>by
  rw[Abo,Option.isSome_eq_false_iff,Option.isNone_iff_eq_none,List.find?_eq_none]at h
  exact h w hw (by unfold fwQ;simp[hh.1,hh.2])
theorem Afi{xs:List Conf.Fwd}{a b:Int}(h:I6 xs a b=true):D2 xs a b∈xs∧(D2 xs a b).proto=a∧(D2 xs a b).port=b:=by
  rw[Abo]at h
  obtain⟨w,hw⟩:=Option.isSome_iff_exists.1 h
  have h1:=List.find?_some hw
  have h2:=List.mem_of_find?_eq_some hw
  rw[Afh,hw]
  unfold fwQ at h1
  simp only[Bool.and_eq_true,beq_iff_eq]at h1
  exact⟨h2,h1.1,h1.2⟩
def FxU(fx:List Conf.Fwd):Prop:= ∀w∈fx,I6 fx w.proto w.port=true∧D2 fx w.proto w.port=w
theorem Ai7{ms:List Mpg}{fx:List Conf.Fwd}{a b:Int}(h:Xf ms fx a b=false):(∀w∈fx,¬(w.proto=a∧w.port=b))∧ ∀m∈ms,¬(m.proto=a∧m.ext=b):=by
  unfold Xf at h
  rw[Bool.or_eq_false_iff]at h
  refine⟨Ai6 h.1,fun m hm hh=>?_⟩
  have:=List.any_eq_false.1 h.2 m hm
  unfold ruQ at this
  simp[hh.1,hh.2]at this
theorem Rg{P Q:List (Int×Int)}(h: ∀x,x∈P↔x∈Q):D6 P=D6 Q:=by
  funext p q
  unfold D6
  congr 1
  rw[Bool.eq_iff_iff,List.any_eq_true,List.any_eq_true]
  exact⟨fun⟨x,hx,hh⟩=>⟨x,(h x).1 hx,hh⟩,fun⟨x,hx,hh⟩=>⟨x,(h x).2 hx,hh⟩⟩
theorem Abp{P Q:List (Int×Int)}{p q:Nat}(h: ∀x,x∈Q↔x∈P∧x≠(((p:Nat):Int),(q:Int))):F5 (D6 P) p (gvT (D6 P p) q)=D6 Q:=by
  funext r t
  have hany:D6 Q r t=(D6 P r t&& !(decide (r=p)&&decide (t=q))):=by
    unfold D6
    rw[Bool.eq_iff_iff]
    simp only[Bool.and_eq_true,List.any_eq_true,Bool.not_eq_true',Bool.and_eq_false_iff,decide_eq_false_iff_not,decide_eq_true_eq,beq_iff_eq]
    constructor
    · rintro⟨h1,x,hx,h2,h3⟩
      obtain⟨hx1,hx2⟩:=(h x).1 hx
      refine⟨⟨h1,x,hx1,h2,h3⟩,?_⟩
      by_cases e:r=p
      · right;intro e2;exact hx2 (by rw[←e,←e2,←h2,←h3])
      · exact .inl e
    · rintro⟨⟨h1,x,hx,h2,h3⟩,h4⟩
      refine⟨h1,x,(h x).2 ⟨hx,fun e=>?_⟩,h2,h3⟩
      rw[e]at h2 h3
      simp only at h2 h3
      rcases h4 with h4|h4<;>omega
  rw[hany]
  by_cases e:r=p
  · subst e
    rw[F6]
    unfold gvT
    cases hq:D6 P r q with
    |true=>
      simp only[cond_true]
      by_cases et:t=q
      · subst et;rw[J0];simp
      · rw[Hf _ _ et];simp[et]
    |false=>
      simp only[cond_false]
      by_cases et:t=q
      · subst et;rw[hq];rfl
      · simp[et]
  · rw[Dt _ _ e];simp[e]
structure InvB(k:NK)(p:NP):Prop where
  rul: ∀x∈p.es,Xg p.ms k.fx x.2=true
  tks:p.TT=D6 (Gz k.fx++Hz p.ms++Nj p.zs)
section
variable {k:NK}{p p':NP}{o:Option Int}{A B:List (Nat×SesE)}{b:Nat}{e e':SesE}{now:Int}{out:Bool}
theorem RenE.ho(hr:RenE e now out e')(ms:List Mpg)(fx:List Conf.Fwd):Xg ms fx e'=Xg ms fx e:=by
  have hm:hoM e'=hoM e:=by funext m;unfold hoM;rw[hr.pr,hr.ext,hr.src,hr.frm,hr.dst]
  unfold Xg;rw[hm,hr.given,hr.pr,hr.ext,hr.src,hr.frm]
theorem InvB.renew(h:InvB k p)(he:p.es=A++(b,e)::B)(hr:RenE e now out e'):InvB k {p with ws:=I2 p.ws e.id e'.ends,es:=A++(b,e')::B}:=by
  refine⟨fun x hx=>?_,h.tks⟩
  rcases Cf.1 hx with rfl|hx
  · show Xg p.ms k.fx e'=true
    rw[hr.ho];exact h.rul (b,e) (by rw[he];exact Cf.2 (.inl rfl))
  · exact h.rul x (by rw[he];exact Cf.2 (.inr hx))
theorem Gc{zs:List (Hx×Lse)}{x:Int×Int}:x∈Nj zs↔ ∃t l,(t,l)∈zs∧x=(t.1,l.ext):=by
  unfold Nj;rw[List.mem_map]
  exact⟨fun⟨z,hz,hh⟩=>⟨z.1,z.2,hz,hh.symm⟩,fun⟨t,l,hz,hh⟩=>⟨(t,l),hz,hh.symm⟩⟩
theorem InvB.dropI(hb:InvB k p)(h:InvA k p o)(hz:Fn Ca p.zs)(he:p.es=A++(b,e)::B){pb:Nat}(hp:p'=Et k {p with es:=A++B} e pb):InvB k p':=by
  have hbe:(b,e)∈p.es:=by rw[he];exact Cf.2 (.inl rfl)
  have ee:p'.es=A++B:=by subst hp;unfold Et;cases e.given<;>simp only[cond_true,cond_false];cases(decide ((Bo (⟨0,0⟩:Lse) p.zs (B1 (Dm e))).count-1>0))<;>rfl
  have em:p'.ms=p.ms:=by subst hp;unfold Et;cases e.given<;>simp only[cond_true,cond_false];cases(decide ((Bo (⟨0,0⟩:Lse) p.zs (B1 (Dm e))).count-1>0))<;>rfl
  refine⟨fun x hx=>by rw[ee]at hx;rw[em];exact hb.rul x (by rw[he];exact Cf.2 (.inr hx)),?_⟩
  rw[em]
  cases hg:e.given with
  |false=>
    have hzz:p'.zs=p.zs:=by subst hp;unfold Et;rw[hg];rfl
    have ht:p'.TT=p.TT:=by subst hp;unfold Et;rw[hg];rfl
    rw[hzz,ht];exact hb.tks
  |true=>
    have hk:Bl p.zs (B1 (Dm e))=true:=h.lsi (b,e) hbe hg
    have hm:=D5 (v0:=(⟨0,0⟩:Lse)) hk
    obtain⟨g1,g2,g3,g4⟩:=h.lse _ _ hm
    have hru:Xf p.ms k.fx e.pr (Bo (⟨0,0⟩:Lse) p.zs (B1 (Dm e))).ext=false:=by
      have h1:=hb.rul _ hbe
      unfold Xg at h1;simp only[hg,cond_true]at h1
      have h2:=g4 (b,e) hbe ((D7 (t:=B1 (Dm e)) (x:=(b,e))).2 ⟨hg,rfl⟩)
      rw[←h2];simpa using h1
    cases hc:decide ((Bo (⟨0,0⟩:Lse) p.zs (B1 (Dm e))).count-1>0)with
    |true=>
      have hzz:p'.zs=H5 Ca p.zs (B1 (Dm e)) (⟨(Bo (⟨0,0⟩:Lse) p.zs (B1 (Dm e))).ext,(Bo (⟨0,0⟩:Lse) p.zs (B1 (Dm e))).count-1⟩:Lse):=by subst hp;unfold Et;rw[hg];simp only[cond_true];rw[hc];show Db _ _ _ _ _=_;unfold Db;rw[hk];rfl
      have ht:p'.TT=p.TT:=by subst hp;unfold Et;rw[hg];simp only[cond_true];rw[hc];rfl
      rw[ht,hb.tks]
      refine Rg fun x=>?_
      simp only[List.mem_append]
      refine or_congr_right ?_
      rw[Gc,Gc,hzz]
      constructor
      · rintro⟨t,l,hl,rfl⟩
        by_cases ht:t=B1 (Dm e)
        · subst ht
          have:=H6 (v0:=(⟨0,0⟩:Lse)) hz hl
          exact⟨_,_,(C7 hz).2 (.inl rfl),by rw[this]⟩
        · exact⟨t,l,(C7 hz).2 (.inr ⟨hl,ht⟩),rfl⟩
      · rintro⟨t,l,hl,rfl⟩
        rcases(C7 hz).1 hl with hl|⟨hl,_⟩
        · obtain⟨rfl,rfl⟩:=Prod.mk.inj hl;exact⟨_,_,hm,rfl⟩
        · exact⟨t,l,hl,rfl⟩
    |false=>
      have hzz:p'.zs=C0 p.zs (B1 (Dm e)):=by subst hp;unfold Et;rw[hg];simp only[cond_true];rw[hc];rfl
      have ht:p'.TT=F5 p.TT e.pr.toNat (gvT (p.TT e.pr.toNat) (Bo (⟨0,0⟩:Lse) p.zs (B1 (Dm e))).ext.toNat):=by subst hp;unfold Et;rw[hg];simp only[cond_true];rw[hc];rfl
      rw[ht,hb.tks]
      refine Abp fun x=>?_
      have hpr:=(h.rng _ hbe).pr
      have e1:(e.pr.toNat:Int)=e.pr:=Int.toNat_of_nonneg hpr.1
      have e2:((Bo (⟨0,0⟩:Lse) p.zs (B1 (Dm e))).ext.toNat:Int)=(Bo (⟨0,0⟩:Lse) p.zs (B1 (Dm e))).ext:=Int.toNat_of_nonneg g3.1
      rw[e1,e2,List.mem_append,List.mem_append,List.mem_append,List.mem_append]
      have hr:=Ai7 hru
      constructor
      · rintro((hx|hx)|hx)
        · refine⟨.inl (.inl hx),fun hh=>?_⟩
          unfold Gz at hx;obtain⟨w,hw,rfl⟩:=List.mem_map.1 hx
          exact hr.1 w hw (Prod.mk.inj hh)
        · refine⟨.inl (.inr hx),fun hh=>?_⟩
          unfold Hz at hx;obtain⟨w,hw,rfl⟩:=List.mem_map.1 hx
          exact hr.2 w hw (Prod.mk.inj hh)
        · obtain⟨t,l,hl,rfl⟩:=Gc.1 hx
          rw[hzz]at hl
          obtain⟨hl,hne⟩:=G4.1 hl
          refine⟨.inr (Gc.2 ⟨t,l,hl,rfl⟩),fun hh=>?_⟩
          obtain⟨h1,h2⟩:=Prod.mk.inj hh
          exact hne (h.inj _ _ _ _ hl hm h1 h2)
      · rintro⟨(hx|hx)|hx,hne⟩
        · exact .inl (.inl hx)
        · exact .inl (.inr hx)
        · obtain⟨t,l,hl,rfl⟩:=Gc.1 hx
          refine .inr (Gc.2 ⟨t,l,?_,rfl⟩)
          rw[hzz]
          refine G4.2 ⟨hl,fun ht=>hne ?_⟩
          simp only at ht;subst ht
          have:=H6 (v0:=(⟨0,0⟩:Lse)) hz hl
          rw[this];rfl
end
theorem Yo(a b:Int)(h0:0≤a+b)(h1:a+b≤18446744073709551615):Bt .u64 a b=a+b:=Cc h0 Ag
def Pf(k:NK)(p:NP)(f:B2)(ext:Int)(gv:Bool)(xb pb:Nat):NP:={Sm k p f ext gv xb pb with es:=p.es.take (Be ordF p.xs f)++(xb,Pc f ext p.lst gv)::p.es.drop (Be ordF p.xs f)}
section
variable {k:NK}{p:NP}{f:B2}{ext:Int}{gv:Bool}{xb pb:Nat}
theorem L6{K V:Type} [DecidableEq K]{o:LO K}{xs:List (K×V)}{key:K}{v:V}{mo:Int}(hno:Bl xs key=false)(hr:(xs.length:Int)<mo):Db o mo xs key v=H5 o xs key v:=by
  unfold Db;rw[hno,decide_eq_false Ag];rfl
theorem InvA.fresh(h:InvA k p none):Bl p.ys p.lst=false:=by
  rw[He]
  intro q hq e
  obtain⟨x,hx,h1,_⟩:=(h.ids q.1 q.2).1 hq
  have:=(h.lst.2 x hx).2
  omega
theorem InvA.add(h:InvA k p none)(hx:Fn ordF p.xs)(hy:Fn LO.int p.ys)(hz:Fn Ca p.zs)(hno:Bl p.xs f=false)(hroom:(p.xs.length:Int)<k.mo)(hl1:p.lst+1≤18446744073709551615)
    (hg:gv=true→(∀l,(B1 f,l)∈p.zs→l.ext=ext)∧(∀t l,(t,l)∈p.zs→t≠B1 f→t.1=f.1→l.ext≠ext)) (hr:RngE (Pc f ext p.lst gv)):
    InvA k (Pf k p f ext gv xb pb) (some p.lst)∧(Pf k p f ext gv xb pb).ms=p.ms∧(Pf k p f ext gv xb pb).lst=p.lst+1:=by
  obtain⟨i,hi⟩: ∃i,i=Be ordF p.xs f:=⟨_,rfl⟩
  obtain⟨E,hE⟩: ∃E,E=Pc f ext p.lst gv:=⟨_,rfl⟩
  have ees:(Pf k p f ext gv xb pb).es=p.es.take i++(xb,E)::p.es.drop i:=by rw[hi,hE];rfl
  have hfl:Dm E=f:=by rw[hE];rfl
  have hid:E.id=p.lst:=by rw[hE];rfl
  have hgv:E.given=gv:=by rw[hE];rfl
  have elst:(Pf k p f ext gv xb pb).lst=p.lst+1:=by
    show Bt .u64 p.lst 1=_
    have:=h.lst.1
    exact Yo p.lst 1 Ag Ag
  have hmem: ∀x,x∈p.es.take i++(xb,E)::p.es.drop i↔x=(xb,E)∨x∈p.es:=fun x=>by rw[Cf,List.take_append_drop]
  have hcnt: ∀t,G0 t (p.es.take i++(xb,E)::p.es.drop i)=G0 t p.es+(bif Nk t (xb,E)then 1 else 0):=fun t=>by rw[Ie,List.take_append_drop]
  have exs:(Pf k p f ext gv xb pb).xs=(p.es.take i++(xb,E)::p.es.drop i).map Pd:=by
    show Db ordF k.mo p.xs f (some xb)=_
    rw[L6 hno hroom,Jz hno,List.map_append,List.map_cons,List.map_take,List.map_drop,←h.tie,←hi,hE]
    rfl
  have hlen:=h.xln
  have hyl:=h.yln hy
  have eys:(Pf k p f ext gv xb pb).ys=H5 LO.int p.ys p.lst f:=by
    show Db LO.int k.mo p.ys p.lst f=_
    exact L6 h.fresh Ag
  have ezs:(Pf k p f ext gv xb pb).zs=bif gv then Db Ca k.mo p.zs (B1 f) (⟨ext,(Bo (⟨0,0⟩:Lse) p.zs (B1 f)).count+1⟩:Lse)else p.zs:=rfl
  have hzl:=h.zln hz
  have ezp: ∀l,Db Ca k.mo p.zs (B1 f) l=H5 Ca p.zs (B1 f) l:=fun l=>by
    cases hh:Bl p.zs (B1 f)with
    |true=>unfold Db;rw[hh];rfl
    |false=>exact L6 hh Ag
  have hcz:gv=true→(Bo (⟨0,0⟩:Lse) p.zs (B1 f)).count=(G0 (B1 f) p.es:Int):=fun hgt=>by
    cases hh:Bl p.zs (B1 f)with
    |true=>exact(h.lse _ _ (D5 hh)).1
    |false=>
      rw[Is hh]
      have:G0 (B1 f) p.es=0:=by
        unfold G0;rw[List.countP_eq_zero]
        intro x hx hg
        obtain⟨h1,h2⟩:=D7.1 hg
        have:=h.lsi x hx h1
        rw[h2,hh]at this;cases this
      rw[this];rfl
  refine⟨⟨?_,?_,?_,?_,?_,?_,?_,?_,?_⟩,rfl,elst⟩
  · rw[exs,ees]
  · intro j g
    rw[eys,ees,C7 hy,h.ids]
    constructor
    · rintro(h1|⟨⟨x,hx,h1,h2⟩,_⟩)
      · obtain⟨rfl,rfl⟩:=Prod.mk.inj h1
        exact⟨(xb,E),(hmem _).2 (.inl rfl),hid,hfl⟩
      · exact⟨x,(hmem _).2 (.inr hx),h1,h2⟩
    · rintro⟨x,hx,h1,h2⟩
      rcases(hmem _).1 hx with rfl|hx
      · left;rw[←h1,←h2];show(E.id,Dm E)=_;rw[hid,hfl]
      · exact .inr ⟨⟨x,hx,h1,h2⟩,by show j≠p.lst;have:=(h.lst.2 x hx).2;omega⟩
  · rw[ees]
    refine(List.perm_middle.map _).nodup_iff.2 ?_
    rw[List.take_append_drop,List.map_cons,List.nodup_cons]
    refine⟨fun hm=>?_,h.idn⟩
    obtain⟨x,hx,hh⟩:=List.mem_map.1 hm
    have:=(h.lst.2 x hx).2
    simp only[hid]at hh
    omega
  · rw[elst,ees]
    have:=h.lst.1
    refine⟨by omega,fun x hx=>?_⟩
    rcases(hmem _).1 hx with rfl|hx
    · show 0≤E.id∧E.id<p.lst+1;rw[hid];omega
    · have:=h.lst.2 x hx;omega
  · intro j t
    show(t,j)∈p.ws↔_
    rw[ees,h.whl]
    constructor
    · rintro⟨x,hx,h1,h2,_⟩
      refine⟨x,(hmem _).2 (.inr hx),h1,h2,fun hh=>?_⟩
      have:=(h.lst.2 x hx).2;have:=Option.some.inj hh;omega
    · rintro⟨x,hx,h1,h2,h3⟩
      rcases(hmem _).1 hx with rfl|hx
      · exact absurd (by rw[←h1];exact congrArg some hid.symm) h3
      · exact⟨x,hx,h1,h2,by simp⟩
  · intro t l hl
    rw[ezs]at hl;rw[ees,hcnt]
    cases hgt:gv with
    |false=>
      rw[hgt]at hl
      have hf:Nk t (xb,E)=false:=by unfold Nk;simp[hgv,hgt]
      rw[hf]
      obtain⟨h1,h2,h3,h4⟩:=h.lse t l hl
      refine⟨by simpa using h1,h2,h3,fun x hx hgx=>?_⟩
      rcases(hmem _).1 hx with rfl|hx
      · rw[hf]at hgx;cases hgx
      · exact h4 x hx hgx
    |true=>
      rw[hgt]at hl
      obtain⟨g1,g2⟩:=hg hgt
      simp only[cond_true]at hl
      rw[ezp]at hl
      rcases(C7 hz).1 hl with hl|⟨hl,hne⟩
      · obtain⟨rfl,rfl⟩:=Prod.mk.inj hl
        have ht:Nk (B1 f) (xb,E)=true:=D7.2 ⟨by rw[hgv,hgt],by rw[hfl]⟩
        rw[ht]
        have hr':=hr.ext
        have:=hcz hgt
        refine⟨by simp only[cond_true];omega,by simp only;omega,hr',fun x hx hgx=>?_⟩
        rcases(hmem _).1 hx with rfl|hx
        · rw[hE];rfl
        · cases hh:Bl p.zs (B1 f)with
          |true=>
            have hm:=D5 (v0:=(⟨0,0⟩:Lse)) hh
            show x.2.ext=ext
            rw[(h.lse _ _ hm).2.2.2 x hx hgx];exact g1 _ hm
          |false=>
            obtain⟨h1,h2⟩:=D7.1 hgx
            have:=h.lsi x hx h1
            rw[h2,hh]at this;cases this
      · have hf:Nk t (xb,E)=false:=by
          cases hh:Nk t (xb,E)with
          |false=>rfl
          |true=>exact absurd ((D7.1 hh).2.symm.trans (by rw[hfl])) hne
        rw[hf]
        obtain⟨h1,h2,h3,h4⟩:=h.lse t l hl
        refine⟨by simpa using h1,h2,h3,fun x hx hgx=>?_⟩
        rcases(hmem _).1 hx with rfl|hx
        · rw[hf]at hgx;cases hgx
        · exact h4 x hx hgx
  · intro x hx hxg
    rw[ees]at hx;rw[ezs]
    cases hgt:gv with
    |false=>
      rcases(hmem _).1 hx with rfl|hx
      · simp only[hgv,hgt]at hxg;cases hxg
      · exact h.lsi x hx hxg
    |true=>
      simp only[cond_true];rw[ezp]
      rcases(hmem _).1 hx with rfl|hx
      · exact Fc.2 ⟨_,(C7 hz).2 (.inl (by show(B1 (Dm E),_)=_;rw[hfl]))⟩
      · obtain⟨v,hv⟩:=Fc.1 (h.lsi x hx hxg)
        by_cases he:B1 (Dm x.2)=B1 f
        · exact Fc.2 ⟨_,(C7 hz).2 (.inl (by rw[he]))⟩
        · exact Fc.2 ⟨v,(C7 hz).2 (.inr ⟨hv,he⟩)⟩
  · rw[ezs]
    cases hgt:gv with
    |false=>exact h.inj
    |true=>
      obtain⟨g1,g2⟩:=hg hgt
      simp only[cond_true];rw[ezp]
      intro t l t' l' h1 h2 h3 h4
      rcases(C7 hz).1 h1 with h1|⟨h1,n1⟩<;>rcases(C7 hz).1 h2 with h2|⟨h2,n2⟩
      · rw[(Prod.mk.inj h1).1,(Prod.mk.inj h2).1]
      · obtain⟨rfl,rfl⟩:=Prod.mk.inj h1
        exact absurd h4.symm (g2 t' l' h2 n2 h3.symm)
      · obtain⟨rfl,rfl⟩:=Prod.mk.inj h2
        exact absurd h4 (g2 t l h1 n1 h3)
      · exact h.inj t l t' l' h1 h2 h3 h4
  · rw[ees]
    intro x hx
    rcases(hmem _).1 hx with rfl|hx
    · rw[hE];exact hr
    · exact h.rng x hx
theorem InvB.add(hb:InvB k p)(h:InvA k p none)(hz:Fn Ca p.zs)(hroom:(p.xs.length:Int)<k.mo)(hg:gv=true→(∀l,(B1 f,l)∈p.zs→l.ext=ext))(hr:RngE (Pc f ext p.lst gv))(ho:Xg p.ms k.fx (Pc f ext p.lst gv)=true):
    InvB k (Pf k p f ext gv xb pb):=by
  refine⟨fun x hx=>?_,?_⟩
  · rcases Cf.1 hx with rfl|hx
    · exact ho
    · rw[List.take_append_drop]at hx;exact hb.rul x hx
  · cases hgt:gv with
    |false=>exact hb.tks
    |true=>
      have hlen:=h.xln
      have hzl:=h.zln hz
      have ezp: ∀l,Db Ca k.mo p.zs (B1 f) l=H5 Ca p.zs (B1 f) l:=fun l=>by
        cases hh:Bl p.zs (B1 f)with
        |true=>unfold Db;rw[hh];rfl
        |false=>exact L6 hh Ag
      show F5 p.TT f.1.toNat (P7 (p.TT f.1.toNat) ext.toNat)=D6 (Gz k.fx++Hz p.ms++Nj (Db Ca k.mo p.zs (B1 f) (⟨ext,(Bo (⟨0,0⟩:Lse) p.zs (B1 f)).count+1⟩:Lse)))
      rw[hb.tks,Ui,ezp]
      refine Rg fun x=>?_
      have e1:(f.1.toNat:Int)=f.1:=Int.toNat_of_nonneg hr.pr.1
      have e2:(ext.toNat:Int)=ext:=Int.toNat_of_nonneg hr.ext.1
      rw[e1,e2]
      simp only[List.mem_append,List.mem_singleton,Gc]
      constructor
      · rintro((hx|⟨t,l,hl,rfl⟩)|rfl)
        · exact .inl hx
        · right
          by_cases he:t=B1 f
          · subst he;exact⟨_,_,(C7 hz).2 (.inl rfl),by rw[hg hgt l hl]⟩
          · exact⟨t,l,(C7 hz).2 (.inr ⟨hl,he⟩),rfl⟩
        · exact .inr ⟨_,_,(C7 hz).2 (.inl rfl),rfl⟩
      · rintro(hx|⟨t,l,hl,rfl⟩)
        · exact .inl (.inl hx)
        · rcases(C7 hz).1 hl with hl|⟨hl,_⟩
          · obtain⟨rfl,rfl⟩:=Prod.mk.inj hl;exact .inr rfl
          · exact .inl (.inr ⟨t,l,hl,rfl⟩)
end
theorem InvA.withTk{k:NK}{p:NP}{o:Option Int}(h:InvA k p o)(tk:Nat→Option Nat)(TT:Nat→Nat→Bool):InvA k {p with tk:=tk,TT:=TT} o:=⟨h.tie,h.ids,h.idn,h.lst,h.whl,h.lse,h.lsi,h.inj,h.rng⟩
theorem Xi{k:NK}{p:NP}{o:Option Int}(h:InvA k p o)(hn:p.es.length≤1000000)(t:Hx):(0≤(Bo (⟨0,0⟩:Lse) p.zs t).count∧(Bo (⟨0,0⟩:Lse) p.zs t).count≤1000000)∧(0≤(Bo (⟨0,0⟩:Lse) p.zs t).ext∧(Bo (⟨0,0⟩:Lse) p.zs t).ext≤65535):=by
  cases hh:Bl p.zs t with
  |true=>
    obtain⟨h1,h2,h3,_⟩:=h.lse _ _ (D5 (v0:=(⟨0,0⟩:Lse)) hh)
    have:G0 t p.es≤p.es.length:=List.countP_le_length
    exact⟨⟨by omega,by omega⟩,h3⟩
  |false=>rw[Is hh];exact⟨⟨by decide,by decide⟩,by decide,by decide⟩
structure Inv(k:NK)(s:NS):Prop where
  ok:NOk k s
  a:InvA k s.p none
  b:InvB k s.p
  fr:RngF k.fx
  fu:FxU k.fx
  mr:RngM s.p.ms
theorem RngF.rs{fx:List Conf.Fwd}(h:RngF fx): ∀x∈fx,0≤x.proto∧x.proto≤255∧0≤x.port∧x.port≤65535:=fun x hx=>by have:=h x hx;exact⟨this.1,this.2.1,this.2.2.1,this.2.2.2.1⟩
theorem RngM.rs{ms:List Mpg}(h:RngM ms): ∀x∈ms,0≤x.proto∧x.proto≤255∧0≤x.ext∧x.ext≤65535:=fun x hx=>by have:=h x hx;exact⟨this.1,this.2.1,this.2.2.1,this.2.2.2.1⟩
theorem Oa{k:NK}{s:NS}{o:Option Int}(ok:NOk k s)(h:InvA k s.p o):s.p.es.length≤50000:=by have:=h.xln;have:=(NOk.len ok).1;omega
theorem NG.split(k:NK)(s:NS):NG k s=((Gj k s).take 12).flatten++s.p.es.map Iz:=by
  have e:Gj k s=(Gj k s).take 12++[s.p.es.map Iz]:=rfl
  show(Gj k s).flatten=_
  conv=>lhs;rw[e]
  rw[List.flatten_append,List.flatten_cons,List.flatten_nil,List.append_nil]
theorem foc_perm{α:Type}{N:List α}{A B R:List α}{x:α}:(N++(A++B)++(x::R)).Perm (N++(A++x::B)++R):=by
  simp only[List.append_assoc]
  refine List.Perm.append_left _ (List.Perm.append_left _ ?_)
  rw[List.cons_append]
  exact List.perm_middle
section
variable {w0 w:World}{M:List Nat}{R:List (List Blk)}{k:NK}{s:NS}{A B:List (Nat×SesE)}{b:Nat}{e:SesE}
theorem Sn(he:s.p.es=A++(b,e)::B)(h:Mem w0 M (NG k s::R) w):Mem w0 M (NG k (Vm s (A++B))::[Iz (b,e)]::R) w:=by
  refine h.perm ?_
  rw[List.flatten_cons,List.flatten_cons,List.flatten_cons,NG.split,NG.split]
  show((((Gj k s).take 12).flatten++(A++B).map Iz)++([Iz (b,e)]++R.flatten)).Perm _
  rw[he,List.map_append,List.map_append,List.map_cons]
  exact foc_perm
theorem So(he:s.p.es=A++B)(h:Mem w0 M (NG k s::[Iz (b,e)]::R) w):Mem w0 M (NG k (Vm s (A++(b,e)::B))::R) w:=by
  refine h.perm ?_
  rw[List.flatten_cons,List.flatten_cons,List.flatten_cons,NG.split,NG.split]
  show((((Gj k s).take 12).flatten++(A++(b,e)::B).map Iz)++R.flatten).Perm _
  rw[he,List.map_append,List.map_append,List.map_cons]
  exact foc_perm.symm
end
theorem Jq{k:NK}{s:NS}(ok:NOk k s)(es:List (Nat×SesE)):NOk k (Vm s es):=⟨ok.okm,ok.okf,ok.oks,ok.oki,ok.oke,ok.okw,ok.hmn,ok.hfn,ok.hmo,ok.hxn,ok.hyn,ok.hzn,ok.hwn,ok.hxs,ok.hys,ok.hzs,ok.hws,ok.hz⟩
end Go.Proofs.YtmonlaoaengfdaaGreatDoor.Oct
namespace Go.Proofs.YtmonlaoaengfdaaGreatDoor.Base
open Go.RowKit
section
variable {σ:Type}{r:Option Nat}{P:Program}{n:Nat}{ds:List Deferred}{f:Nat→Value}{S:World→Prop}{o:Oper}{d:Nat}{w0:World}{M:List Nat}{LL:List (List Blk)}{yv:Value}{args:Array Value}
theorem Yld.mono{T T':Bool→World→Prop}(h: ∀b w,T b w→T' b w)(hy:Yld P yv args S T):Yld P yv args S T':=fun w hw=>by
  obtain⟨nx,hx,hn⟩:=hy w hw
  refine⟨nx,hx,?_⟩
  cases nx<;>simp only[YN]at hn⊢ <;>try exact hn
  case enter k a=>exact Calls.mono hn (by rintro e w' ⟨b,rfl,hb⟩;exact⟨b,rfl,h b w' hb⟩)
  case round l fn tmps assign body=>exact hn.mono (by rintro e w' ⟨b,rfl,hb⟩;exact⟨b,rfl,h b w' hb⟩)
def Agv{σ:Type}(P:Program)(k:FuncId)(lb:Array Value)(enc:Nat→List Value)(N:Nat)(Li:List (List Blk))(w1:World)(M:List Nat)(Lu:σ→List (List Blk))(Φ Φ':Nat→σ→Prop):Prop:=
  ∀(β:Type) (yv:Value) (X:β→List Blk) (b0:β) (Ψ:σ×β→Prop) (s0:σ),
    (∀i s (R:List (List Blk)) (u:World) (Mu:List Nat),i<N→Φ' i s→Keeps w1 M u Mu→Yld P yv (enc i).toArray (Mem u Mu ((X b0++(Lu s).flatten)::R)) (fun b w=> ∃s' b',(bif b then(Φ (i+1) s'∧b'=b0)else Ψ (s',b'))∧Mem u Mu ((X b'++(Lu s').flatten)::R) w))→
    Φ 0 s0→Mem w1 M ((X b0++(Lu s0).flatten)::Li) w1→(∀k∈M,k∈((X b0++(Lu s0).flatten)::Li).flatten.map (·.b))→
    Calls P k (#[yv]++lb) w1 (Bj w1 (fun q:σ×β=>(Φ N q.1∧q.2=b0)∨Ψ q) (fun _=>.tuple #[]) M (fun q=>(X q.2++(Lu q.1).flatten)::Li))
theorem Abq{Q:Exit→Act→World→Prop}{g:Operand}{ps:Array Tmp}{assign body:Code}{k:FuncId}{lb:Array Value}{enc:Nat→List Value}{N:Nat}{Lu:σ→List (List Blk)}{Li Lk:List (List Blk)}
    (is js ks:List Nat) (s0:σ) (Φ Φ':Nat→σ→Prop) (Ψ:Code→σ→Prop) (psl:List Nat)
    (hg:ev n f g=.func (.func k) #[] lb) (hk: ∀x w,(callFunc k x).run P w=.ok (.enter k x) w)
    (hnd:(is++js++ks).Nodup) (hi:Ct LL is=Lu s0) (hj:Ct LL js=Li) (hkk:Ct LL ks=Lk)
    (hps:ps.toList=psl) (henc: ∀i,(enc i).length=psl.length) (h0:Φ 0 s0)
    (hit: ∀(D l:Nat) (ob:Loop) (w1:World),Mem w0 M (((dB D::lB l ob::Lu s0)++Li)++Lk) w1→Agv P k lb enc N Li w1 (((dB D::lB l ob::Lu s0)++Li).flatten.map (·.b)) Lu Φ Φ')
    (hbody: ∀(D l:Nat) (ob ob':Loop) (i:Nat) (s:σ) (u:World) (Mu:List Nat) (J:Act→World→Prop),i<N→Φ' i s→Keeps w0 M u Mu→
      (∀f' L',W (some l) P (RQ u Mu D l ob' Lu (Φ (i+1)) Ψ) body n [] f' (Mem u Mu (dB D::lB l ob'::L'))→ ∀w',Mem u Mu (dB D::lB l ob::L') w'→J (Fr n [] f') w')→
      W (some l) P (Exit.then J D9) assign n [] ((psl.zip (enc i)).foldl (fun f p=>Ft f p.1 p.2) f) (Mem u Mu (dB D::lB l ob::Lu s)))
    (hdone: ∀(D l:Nat) (ob:Loop) (s:σ),Φ N s→ ∀w,Mem w0 M (((dB D::lB l ob::Lu s)++Li)++Lk) w→Q .normal (Fr n (mk D::ds) f) w)
    (hstop: ∀(D l:Nat) (ob:Loop) (c:Code) (s:σ),Ψ c s→W none P Q c n (mk D::ds) f (Mem w0 M (((dB D::lB l ob::Lu s)++Li)++Lk))):
    W none P Q (.rangeFunc g ps assign body) n ds f (Mem w0 M LL):=fun w hS=>by
  have hS1:Mem w0 M (Lu s0++Li++Lk) w:=hS.pick (is++js++ks) hnd (by rw[←hi,←hj,←hkk];simp[Ct])
  refine wpIn_rangeFunc ?_
  intro fn _
  obtain⟨rec,hrec⟩: ∃rec:LoopState→Option Code→Loop,rec=fun st pe=>{state:=st,pending:=pe,fn,tmps:=(Fr n ds f).tmps,params:=ps,assign,body,defers:=w.heap.size}:=⟨_,rfl⟩
  obtain⟨D,hD⟩: ∃D,D=w.heap.size:=⟨_,rfl⟩
  obtain⟨l,hl⟩: ∃l,l=w.heap.size+1:=⟨_,rfl⟩
  obtain⟨w1,hw1⟩: ∃w1,(w.alloc (.deferred (some []))).alloc (.loop (rec .ready none))=w1:=⟨_,rfl⟩
  have hm:Mem w0 M (((dB D::lB l (rec .ready none)::Lu s0)++Li)++Lk) w1:=by
    have h1:=(hS1.allocO (.deferred (some []))).allocO (.loop (rec .ready none))
    rw[←hw1]
    refine Mem.perm ?_ h1
    simp only[List.flatten_append,List.flatten_cons,dB,lB,hD,hl,List.cons_append,List.nil_append,List.append_assoc,Array.size_push]
    exact List.Perm.swap _ _ _
  let U:σ×Option Code→List Blk:=fun s=>dB D++lB l (rec (if s.2.isNone then .ready else .done) s.2)++(Lu s.1).flatten
  have hU: ∀(s:σ) (pe:Option Code) (R:List (List Blk)),(U (s,pe)::R).flatten=((dB D::lB l (rec (if pe.isNone then .ready else .done) pe)::Lu s)++R).flatten:=fun s pe R=>by
    simp[U,List.flatten_append]
  obtain⟨M1,hM1⟩: ∃M1,M1=((dB D::lB l (rec .ready none)::Lu s0)++Li).flatten.map (·.b):=⟨_,rfl⟩
  have hloc:Mem w1 M1 (U (s0,none)::Li) w1:=by
    rw[hM1];exact(Mem.local hm).flat (hU s0 none Li).symm
  have hsubM: ∀k∈M1,k∈(U (s0,none)::Li).flatten.map (·.b):=fun k hk=>by
    rw[hU s0 none Li];rw[hM1]at hk;exact hk
  have hback: ∀{LL':List (List Blk)} {w':World},Mem w1 M1 LL' w'→Mem w0 M (LL'++Lk) w':=fun h=>Mem.back hm (by rw[hM1]at h;exact h)
  have hkp:Keeps w0 M w1 M1:=fun a cs hat hne=>by
    have h2:=C2 (L:=(dB D::lB l (rec .ready none)::Lu s0)++Li) (R:=Lk) hat hne hm
    rw[hM1];exact h2
  refine⟨l,[mk D],w1,{target:=.fn (.func k) lb,args:= #[.func (.yield l) #[] #[]]},w1,k,#[.func (.yield l) #[] #[]]++lb,w1,?_,?_,fun _ _=>trivial,?_,fun h=>(by cases h),?_⟩
  · rw[←hw1,hrec,hl];simp only[mk,hD];exact run_enterLoop_outer _ _ _ _ _
  · simp only[resolve,C1,hg]
    simp[go_sem];rfl
  · simp[invoke,go_sem,hk]
  have hI:=hit D l _ w1 hm
  rw[←hM1]at hI
  refine G6 (Calls.mono (hI (Option Code) (.func (.yield l) #[] #[]) (fun pe=>dB D++lB l (rec (if pe.isNone then .ready else .done) pe)) none (fun q=> ∃c,q.2=some c∧Ψ c q.1) s0 ?_ h0 hloc hsubM) ?_)
  · rintro i s R ub Mub hiN hΦ hkb u hu
    have hul:u.heap[l]? =some (.loop (rec .ready none)):=hu.at (i:=0) (j:=1) (p:=⟨l,_⟩) rfl rfl
    obtain⟨Mu,hMu⟩: ∃Mu,Mu=(U (s,none)).map (·.b):=⟨_,rfl⟩
    have hloc2:Mem u Mu (dB D::lB l (rec .ready none)::Lu s) u:=by
      have h1:Mem u Mu [U (s,none)] u:=by rw[hMu];exact hu.one (i:=0) rfl
      exact h1.flat (by have:=hU s none [];simpa using this)
    have hback2: ∀{s':σ} {pe:Option Code} {w':World},Mem u Mu (dB D::lB l (rec (if pe.isNone then .ready else .done) pe)::Lu s') w'→Mem ub Mub (U (s',pe)::R) w':=fun {s' pe w'} h=>by
      have h1:Mem u ([U (s,none)].flatten.map (·.b)) [U (s',pe)] w':=by
        simp only[List.flatten_cons,List.flatten_nil,List.append_nil];rw[←hMu]
        exact h.flat (by have:=hU s' pe [];simpa using this.symm)
      exact Mem.back (LL:=[U (s,none)]) (R:=R) hu h1
    refine⟨.round l fn ((ps.zip (enc i).toArray).foldl (fun t (p:Nat×Value)=>t.setIfInBounds p.1 p.2) (Fr n ds f).tmps) assign body,?_,?_⟩
    · have:=run_yield (P:=P) (args:=(enc i).toArray) hul (by rw[hrec];simp only[List.size_toArray];rw[henc,←hps];simp)
      rw[hrec]at this
      simp only[P4,Deferred.ofValue,Sem.run_bind]
      simp[go_sem,invoke,this]
    refine roundIn_of_wpIn (F:=Cy none) trivial ?_
    have et:(ps.zip (enc i).toArray).foldl (fun t (p:Nat×Value)=>t.setIfInBounds p.1 p.2) (Fr n ds f).tmps=(Fr n [] ((psl.zip (enc i)).foldl (fun f p=>Ft f p.1 p.2) f)).tmps:=by
      rw[←Jw (ds:=ds),←hps]
      rw[←Array.foldl_toList,Array.toList_zip]
    rw[et]
    refine hbody D l (rec .ready none) (rec .busy none) i s u Mu _ hiN hΦ ?_ ?_ u hloc2
    · intro a cs hat hne
      obtain⟨h1,h2⟩:=hkp.trans hkb a cs hat hne
      have h3:=C2 (L:=[U (s,none)]) (R:=R) h1 h2 (show Mem ub Mub ([U (s,none)]++R) u from hu)
      rw[hMu];simpa using h3
    intro f' L' hW w' hm'
    have hl':w'.heap[l]? =some (.loop (rec .ready none)):=hm'.at (i:=1) (j:=0) (p:=⟨l,_⟩) rfl rfl
    have hlt':=(Array.getElem?_eq_some_iff.1 hl').1
    refine⟨w'.putObj l (.loop (rec .busy none)),?_,?_⟩
    · have:=run_beginRound (P:=P) hl' (by rw[hrec]);rw[this,hrec]
    have hm2:Mem u Mu (dB D::lB l (rec .busy none)::L') (w'.putObj l (.loop (rec .busy none))):=
      hm'.putO (s:=lB l (rec .ready none)) (i:=1) (j:=0) rfl rfl rfl rfl rfl (by simp) (fun k _ hk=>World.putObj_heap_other hk) (World.putObj_heap_same hlt')
    refine wpIn_mono (hW _ hm2) ?_
    have fin: ∀(jump:Option Code) (s':σ) (w3:World),Mem u Mu (dB D::lB l (rec .busy none)::Lu s') w3→
        (Instr.endRound l jump).run P w3=.ok (.bool jump.isNone) (w3.putObj l (.loop (rec (if jump.isNone then .ready else .done) jump)))∧
        Mem ub Mub (U (s',jump)::R) (w3.putObj l (.loop (rec (if jump.isNone then .ready else .done) jump))):=fun jump s' w3 h3=>by
      have hl3:w3.heap[l]? =some (.loop (rec .busy none)):=h3.at (i:=1) (j:=0) (p:=⟨l,_⟩) rfl rfl
      have hlt3:=(Array.getElem?_eq_some_iff.1 hl3).1
      refine⟨?_,hback2 ?_⟩
      · have:=run_endRound (P:=P) jump hl3;rw[this,hrec]
      · exact h3.putO (s:=lB l (rec .busy none)) (i:=1) (j:=0) rfl rfl rfl rfl rfl (by simp) (fun k _ hk=>World.putObj_heap_other hk) (World.putObj_heap_same hlt3)
    rintro e a3 w3 hp
    cases e with
    |normal=>
      obtain⟨s',hs',h3⟩:=hp
      obtain⟨hr,h4⟩:=fin none s' w3 h3
      exact⟨_,_,hr,true,rfl,s',none,⟨hs',rfl⟩,h4⟩
    |ret=>
      obtain⟨s',hs',h3⟩:=hp
      obtain⟨hr,h4⟩:=fin (some .ret) s' w3 h3
      exact⟨_,_,hr,false,rfl,s',some .ret,⟨_,rfl,hs'⟩,h4⟩
    |exit id=>
      obtain⟨s',hs',h3⟩:=hp
      obtain⟨hr,h4⟩:=fin (some (.exit id)) s' w3 h3
      exact⟨_,_,hr,false,rfl,s',some (.exit id),⟨_,rfl,hs'⟩,h4⟩
    |goto t=>exact hp.elim
    |panic ch=>exact hp.elim
    |outgrown=>exact hp.elim
  · rintro e w2 ⟨⟨s,pe⟩,hor,rfl,hm2⟩
    have hl2:w2.heap[l]? =some (.loop (rec (if pe.isNone then .ready else .done) pe)):=hm2.at (i:=0) (j:=1) (p:=⟨l,_⟩) rfl rfl
    have hlt2:=(Array.getElem?_eq_some_iff.1 hl2).1
    have he:(Instr.endLoop l).run P w2=.ok pe (w2.putObj l (.loop (rec .exhausted pe))):=by
      have:=run_endLoop (P:=P) hl2 (by rw[hrec];cases pe<;>simp);rw[this,hrec]
    have h3:Mem w0 M (((dB D::lB l (rec .exhausted pe)::Lu s)++Li)++Lk) (w2.putObj l (.loop (rec .exhausted pe))):=by
      have h1:Mem w0 M (((dB D::lB l (rec (if pe.isNone then .ready else .done) pe)::Lu s)++Li)++Lk) w2:=(hback hm2).flat (by rw[List.flatten_append,hU s pe Li,←List.flatten_append])
      exact h1.putO (s:=lB l (rec (if pe.isNone then .ready else .done) pe)) (i:=1) (j:=0) rfl rfl rfl rfl rfl (by simp) (fun k _ hk=>World.putObj_heap_other hk) (World.putObj_heap_same hlt2)
    refine⟨pe,_,he,?_⟩
    rcases hor with⟨hΦ,hpe⟩|⟨c,hpe,hΨ⟩
    · simp only at hpe hΦ;subst hpe
      exact hdone D l _ s hΦ _ h3
    · simp only at hpe hΨ;subst hpe
      exact hstop D l _ c s hΨ _ h3
end
end Go.Proofs.YtmonlaoaengfdaaGreatDoor.Base
namespace Go.Proofs.YtmonlaoaengfdaaGreatDoor.Oct
open Go.RowKit Base
attribute [local irreducible] Ys Yc Ht HtS HtIn Wl Wd W Mem pf D4 Wa Wo
open Conf (Fwd fwv)
theorem Vn{w0 w:World}{M:List Nat}{LL:List (List Blk)}{k:NK}{s:NS}{i:Nat}(h:Mem w0 M LL w)(hi:LL[i]? =some (NG k s)):At w (some ⟨k.wb,0,none⟩) [.slice s.gw.a s.p.ws.length s.gw.cap]:=Az (i:=10) (j:=0) (Gs h hi) rfl rfl
theorem NG.ws{w0 w:World}{M:List Nat}{LL:List (List Blk)}{k:NK}{s:NS}{i:Nat}(h:Mem w0 M LL w)(hi:LL[i]? =some (NG k s))(ok:NOk k s):At w s.gw.a (mm Gr s.p.ws):=FS.at (i:=9) (Gs h hi) rfl (Aj ok.okw (B6 Ga _))
def Xj(s:NS)(g:FS)(ws:List (Int×Int)):NS:={s with gw:=g,p:={s.p with ws:=ws}}
theorem Abr{k:NK}{s:NS}(ok:NOk k s){g:FS}(hg:g.ok 2 (s.p.ws.drop 1).length):NOk k (Xj s g (s.p.ws.drop 1)):=⟨ok.okm,ok.okf,ok.oks,ok.oki,ok.oke,hg,ok.hmn,ok.hfn,ok.hmo,ok.hxn,ok.hyn,ok.hzn,(by show(s.p.ws.drop 1).length≤90000;rw[List.length_drop];have:=ok.hwn;omega),ok.hxs,ok.hys,ok.hzs,ok.hws.drop 1,ok.hz⟩
def Yp(k:NK)(s:NS):List Blk:=((Gj k s).take 9).flatten
def Rh(k:NK)(s:NS):List Blk:=((Gj k s).drop 11).flatten
theorem Abs(k:NK)(s:NS):NG k s=Yp k s++(s.gw.seg 219 (mm Gr s.p.ws)++(cb k.wb [.slice s.gw.a s.p.ws.length s.gw.cap] 150::Rh k s)):=by
  have e:Gj k s=(Gj k s).take 9++([s.gw.seg 219 (mm Gr s.p.ws),[cb k.wb [.slice s.gw.a s.p.ws.length s.gw.cap] 150]]++(Gj k s).drop 11):=rfl
  show(Gj k s).flatten=_
  conv=>lhs;rw[e]
  rw[List.flatten_append,List.flatten_append]
  simp only[Yp,Rh,List.flatten_cons,List.flatten_nil,List.append_nil,List.append_assoc,List.cons_append,List.nil_append]
theorem Afj{w0 w:World}{M:List Nat}{R:List (List Blk)}{k:NK}{s:NS}(h:Mem w0 M (NG k s::R) w):Mem w0 M (Yp k s::s.gw.seg 219 (mm Gr s.p.ws)::[cb k.wb [.slice s.gw.a s.p.ws.length s.gw.cap] 150]::Rh k s::R) w:=
  h.flat (by rw[List.flatten_cons,Abs];simp only[List.flatten_cons,List.append_assoc,List.cons_append,List.nil_append])
theorem Afk{w0 w:World}{M:List Nat}{R:List (List Blk)}{k:NK}{s:NS}{g:FS}{ws:List (Int×Int)}(h:Mem w0 M (Yp k s::g.seg 219 (mm Gr ws)::[cb k.wb [.slice g.a ws.length g.cap] 150]::Rh k s::R) w):Mem w0 M (NG k (Xj s g ws)::R) w:=
  h.flat (by rw[List.flatten_cons (l:=NG k (Xj s g ws)),Abs];simp only[List.flatten_cons,List.append_assoc,List.cons_append,List.nil_append];rfl)
def Fg(now:Int)(ws:List (Int×Int)):Nat:=(ws.takeWhile fun x=>decide (x.1≤now)).length
theorem Ob(now:Int)(ws:List (Int×Int)):Fg now ws≤ws.length:=(List.takeWhile_sublist _).length_le
theorem Ig{now:Int}: ∀{ws:List (Int×Int)} {i:Nat},i≤Fg now ws→i<ws.length→((ws.getD i (0,0)).1≤now↔i<Fg now ws)
  | [],_,_,h=>by simp at h
  |x::ws,0,_,_=>by
    unfold Fg;rw[List.takeWhile_cons]
    show x.1≤now↔_
    by_cases h:x.1≤now
    · rw[if_pos (decide_eq_true h)];simp[h]
    · rw[if_neg (by simpa using h)];simp;omega
  |x::ws,i+1,h1,h2=>by
    unfold Fg at h1⊢;rw[List.takeWhile_cons]at h1⊢
    by_cases h:x.1≤now
    · rw[if_pos (decide_eq_true h)]at h1⊢
      rw[List.getD_cons_succ]
      have:=Ig (now:=now) (ws:=ws) (i:=i) (by unfold Fg;simpa using h1) (by simpa using h2)
      rw[this];unfold Fg;simp
    · rw[if_neg (by simpa using h)]at h1;simp at h1
theorem Al3(wb:Nat)(now:Int)(w:World):Calls Tryz.prog 59 #[pV wb 0,iV .u64 now] w (Bj w (fun _:Nat×Nat=>True) (fun q=>.func (.func 112) #[] #[.pointer (some ⟨q.1,0,none⟩),.pointer (some ⟨q.2,0,none⟩)]) [] (fun q=>[[cb q.1 [.pointer (some ⟨wb,0,none⟩)] 83],[cb q.2 [.int .u64 now] 45]])):=by
 refine Ar (M:=[]) (LL:=[]) (n:=6) Tryz.func59 rfl rfl A5 (Mem.refl _) (Ad (fun K1 hK1=>?_))
 refine Aa (Ai rfl (Fl (v:=pV wb 0) (cs:=[pV wb 0]) rfl rfl Ae rfl) (fun p2=>?_))
 refine Ai rfl (Fl (v:=iV .u64 now) (cs:=[iV .u64 now]) rfl rfl Ae rfl) (fun p3=>Ab 1 (Ac (hK1 _ _ _ (Ad (fun K3 hK3=>?_)))))
 refine Aa (Ab 2 (Ac (hK3 _ _ _ (Aq (fn:=Tryz.f59) rfl (fun w_ hS_=>Bb rfl (Aw (Value.func (.func 112) #[] #[pV p2 0,pV p3 0])) hS_ ⟨(p2,p3),trivial,rfl,(hS_.pick [1,0] Al rfl)⟩)))))
abbrev Q19(b1:Nat)(k:NK):List Blk:=[cb b1 [pL (some ⟨k.wb,0,none⟩)] 83]
theorem Ai8(k:NK)(now:Int)(ws0:List (Int×Int))(b1 b2:Nat)(β:Type)(yv:Value)(X:β→List Blk)(b0:β)(Φ Φ':Nat→NS→Prop)(Ψ:NS×β→Prop)(s0:NS)(M:List Nat)(w:World)(h1: ∀i s,Φ i s→NOk k s∧s.p.ws=ws0.drop i)(h2: ∀i s g,i<Fg now ws0→Φ i s→g.ok 2 (s.p.ws.drop 1).length→Φ' i (Xj s g (s.p.ws.drop 1)))(hyl: ∀i s (R:List (List Blk)) (u:World) (Mu:List Nat),i<Fg now ws0→Φ' i s→Keeps w M u Mu→Yld Tryz.prog yv ([Value.int .u64 (ws0.getD i (0,0)).2]:List Value).toArray (Mem u Mu ((X b0++[NG k s].flatten)::R)) (fun b w'=> ∃s' b',(bif b then(Φ (i+1) s'∧b'=b0)else Ψ (s',b'))∧Mem u Mu ((X b'++[NG k s'].flatten)::R) w'))(h0:Φ 0 s0)(hl:Mem w M [X b0,NG k s0,[cb b1 [pL (some ⟨k.wb,0,none⟩)] 83],[cb b2 [Value.int .u64 now] 45]] w):Calls Tryz.prog 112 #[yv,pV b1 0,pV b2 0] w (Bj w (fun q:NS×β=>(Φ (Fg now ws0) q.1∧q.2=b0)∨Ψ q) (fun _=>.tuple #[]) M (fun q=>[X q.2++[NG k q.1].flatten,[cb b1 [pL (some ⟨k.wb,0,none⟩)] 83],[cb b2 [iV .u64 now] 45]])):=by
 have ok0:=(h1 0 s0 h0).1
 refine Ar (M:=M) (LL:=[X b0,NG k s0,Q19 b1 k,[cb b2 [iV .u64 now] 45]]) (n:=41) Tryz.func112 rfl rfl A5 (hl) (W.block (E6 [0,1,2] (fun(i:Nat) (sg:NS)=>[yv,pV b1 0,pV b2 0]) (fun(i:Nat) (sg:NS)=>i≤Fg now ws0∧Φ i sg) (fun(i:Nat) (sg:NS)=>[X b0,NG k sg,Q19 b1 k,[cb b2 [iV .u64 now] 45]]) (fun(i:Nat) (sg:NS)=>Fg now ws0-i) 0 s0 Ae ⟨(Nat.zero_le _),h0⟩ (by rfl) (fun i sg f2 J1 hp3 hJ1=>?_)))
 obtain⟨hi,hphi⟩:=hp3
 obtain⟨oksg,hws⟩:=h1 i sg hphi
 have hle:=Ob now ws0
 have hwl_:sg.p.ws.length=ws0.length-i:=by rw[hws,List.length_drop]
 have hw9_:=oksg.hwn
 obtain⟨lxsg,lysg,lzsg,lmsg,lfsg⟩:=NOk.len oksg
 refine Ad (fun K4 hK4=>Ad (fun K5 hK5=>?_))
 refine Dh [(0,false),(1,false),(2,false),(3,false),(4,false),(5,false),(6,false),(7,true),(8,true),(9,true),(10,true),(11,true),(12,true),(13,true),(14,false),(15,false),(16,false)] [7,8,9,10,11,12,13] (Wd.yc (v:=pL (some ⟨k.wb,0,none⟩)) rfl rfl rfl (Ys.yc (An b1 0 2 0 Tryz.isAgg83)) (.inr fun _ h_=>h_) (Wd.yc (v:=pL (some ⟨k.wb,0,none⟩)) rfl rfl rfl (Ys.yc (Ys.p)) (.inr fun _ h_=>h_) (Wd.yc (v:=pL (some ⟨k.wb,0,none⟩)) rfl rfl rfl (Ys.yc (Ys.p)) (.inr fun _ h_=>h_) (Wd.yc (v:=sL sg.gw.a sg.p.ws.length sg.gw.cap) rfl rfl rfl (Ys.yc (Ys.ld (a:=⟨k.wb,0,none⟩) rfl Ae Tryz.isAgg148 (fun w_ h_=>by have x_:=(Vn (i:=1) h_ rfl).ld (q:=0) (v:=sL sg.gw.a sg.p.ws.length sg.gw.cap) rfl;rw[Br]at x_;exact x_))) (.inr fun _ h_=>h_) ?_))))
 refine Wd.yc (v:=nV .i64 sg.p.ws.length) rfl rfl rfl (Ys.yc (Ys.p)) (.inr fun _ h_=>h_) (Wd.yc (v:=bV (decide (((sg.p.ws.length:Nat):Int)>0))) rfl rfl rfl (Ys.yc (Ys.p)) (.inr fun _ h_=>h_) (Wd.yc (v:=bV (decide (((sg.p.ws.length:Nat):Int)>0))) rfl rfl rfl (Ys.yc (Ys.p)) (.inr fun _ h_=>h_) ?_))
 refine Bs (v:=pL (some ⟨k.wb,0,none⟩)) (decide (((sg.p.ws.length:Nat):Int)>0)) rfl (Bi rfl Ae) rfl (fun hg6=>?_) ?_
 ·exact An b1 0 2 0 Tryz.isAgg83
 refine Bs (v:=pL (some ⟨k.wb,0,none⟩)) (decide (((sg.p.ws.length:Nat):Int)>0)) rfl (Bi rfl Ae) rfl (fun hg7=>?_) ?_
 ·have qhg7:=hg7;try simp only[zA]at qhg7
  refine Bh (t:=12) (v0:=pL (some ⟨k.wb,0,none⟩)) (lz (g:=decide (((sg.p.ws.length:Nat):Int)>0)) (u:=undef) hg7 Ae) ?_
  exact Ys.p
 refine Bs (v:=pL (some ⟨k.wb,0,none⟩)) (decide (((sg.p.ws.length:Nat):Int)>0)) rfl (Bi rfl Ae) rfl (fun hg8=>?_) ?_
 ·have qhg8:=hg8;try simp only[zA]at qhg8
  refine Bh (t:=13) (v0:=pL (some ⟨k.wb,0,none⟩)) (lz (g:=decide (((sg.p.ws.length:Nat):Int)>0)) (u:=undef) hg8 Ae) ?_
  exact Ys.p
 refine Bs (v:=sL sg.gw.a sg.p.ws.length sg.gw.cap) (decide (((sg.p.ws.length:Nat):Int)>0)) rfl (Bi rfl Ae) rfl (fun hg9=>?_) ?_
 ·have qhg9:=hg9;try simp only[zA]at qhg9
  refine Bh (t:=14) (v0:=pL (some ⟨k.wb,0,none⟩)) (lz (g:=decide (((sg.p.ws.length:Nat):Int)>0)) (u:=undef) hg9 Ae) ?_
  exact Ys.ld (a:=⟨k.wb,0,none⟩) rfl Ae Tryz.isAgg148 (fun w_ h_=>by have x_:=(Vn (i:=1) h_ rfl).ld (q:=0) (v:=sL sg.gw.a sg.p.ws.length sg.gw.cap) rfl;rw[Br]at x_;exact x_)
 refine Bs (v:=pL (some (Co sg.gw.a 0))) (decide (((sg.p.ws.length:Nat):Int)>0)) rfl (Bi rfl Ae) rfl (fun hg10=>?_) ?_
 ·have qhg10:=hg10;try simp only[zA]at qhg10
  refine Bh (t:=15) (v0:=sL sg.gw.a sg.p.ws.length sg.gw.cap) (lz (g:=decide (((sg.p.ws.length:Nat):Int)>0)) (u:=undef) hg10 Ae) ?_
  exact Bm fun w_ h_=>Av (k:=.i64) (a:=sg.gw.a) (len:=sg.p.ws.length) (cap:=sg.gw.cap) (i:=0) (sz:=2) rfl Ae Ae Tryz.runUnderlying148 Tryz.sizeOf219 Ag Ag ((NG.ws (i:=1) h_ rfl oksg).here (by rw[B6 (g:=Gr) (sz:=2) (fun _=>rfl)];first|omega|(simp;omega)))
 refine Bs (v:=pL (some (Co sg.gw.a 0))) (decide (((sg.p.ws.length:Nat):Int)>0)) rfl (Bi rfl Ae) rfl (fun hg11=>?_) ?_
 ·have qhg11:=hg11;try simp only[zA]at qhg11
  refine Bh (t:=16) (v0:=pL (some (Co sg.gw.a 0))) (lz (g:=decide (((sg.p.ws.length:Nat):Int)>0)) (u:=undef) hg11 Ae) ?_
  exact Ys.p
 refine Bs (v:=iV .u64 ((sg.p.ws.getD 0 (0,0)).1)) (decide (((sg.p.ws.length:Nat):Int)>0)) rfl (Bi rfl Ae) rfl (fun hg12=>?_) ?_
 ·have qhg12:=hg12;try simp only[zA]at qhg12
  refine Bh (t:=17) (v0:=pL (some (Co sg.gw.a 0))) (lz (g:=decide (((sg.p.ws.length:Nat):Int)>0)) (u:=undef) hg12 Ae) ?_
  exact Ys.ld (a:=Co sg.gw.a 0) rfl Ae Tryz.isAgg45 (fun w_ h_=>(NG.ws (i:=1) h_ rfl oksg).ld (R2 (g:=Gr) (sz:=2) (fun _=>rfl) (0,0) (xs:=sg.p.ws) (k:=0) Ag 0 rfl))
 refine Cx (v:=iV .u64 now) (decide (((sg.p.ws.length:Nat):Int)>0)) rfl (Bi rfl Ae) rfl (fun hg13=>?_) (.inr fun _ h_=>h_) ?_
 ·refine Ys.yc ?_
  exact An b2 0 3 0 Tryz.isAgg45
 refine Cx (v:=bV (decide (((sg.p.ws.getD 0 (0,0)).1)≤now))) (decide (((sg.p.ws.length:Nat):Int)>0)) rfl (Bi rfl Ae) rfl (fun hg14=>?_) (.inr fun _ h_=>h_) ?_
 ·have qhg14:=hg14;try simp only[zA]at qhg14
  refine Ys.yc (Bh (t:=18) (v0:=iV .u64 ((sg.p.ws.getD 0 (0,0)).1)) (lz (g:=decide (((sg.p.ws.length:Nat):Int)>0)) (u:=undef) hg14 Ae) (Bh (t:=19) (v0:=iV .u64 now) (lz (g:=decide (((sg.p.ws.length:Nat):Int)>0)) (u:=undef) hg14 Ae) ?_))
  exact Ys.p
 refine Wd.yc (v:=bV ((decide (((sg.p.ws.length:Nat):Int)>0))&&(decide (((sg.p.ws.getD 0 (0,0)).1)≤now)))) rfl rfl rfl (Ys.yc (D0 (e:=decide (((sg.p.ws.length:Nat):Int)>0)) (b:=decide (((sg.p.ws.getD 0 (0,0)).1)≤now)) rfl Ae Ae Ae)) (.inr fun _ h_=>h_) (A7 (hK5 _ _ _ ?_))
 refine Ao ((decide (((sg.p.ws.length:Nat):Int)>0))&&(decide (((sg.p.ws.getD 0 (0,0)).1)≤now))) Ae (fun h16=>?_) (fun h17=>?_)
 ·have qh16:=h16;try simp only[zA]at qh16
  refine Ak (hK4 _ _ _ (W.block (Ad (fun K19 hK19=>?_))))
  have henc_:sg.p.ws.getD 0 (0,0)=ws0.getD i (0,0):=by rw[hws,List.getD_eq_getElem?_getD,List.getElem?_drop,List.getD_eq_getElem?_getD];rfl
  have hcn_:=h16
  simp only[Bool.and_eq_true,decide_eq_true_eq]at hcn_
  have hiN:i<Fg now ws0:=(Ig hi Ag).1 (by rw[←henc_];exact hcn_.2)
  refine Aa (Ah (An b1 0 2 0 Tryz.isAgg83) (Ab 2 (Ah (Ys.ld (a:=⟨k.wb,0,none⟩) rfl Ae Tryz.isAgg148 (fun w_ h_=>by have x_:=(Vn (i:=1) h_ rfl).ld (q:=0) (v:=Value.slice sg.gw.a sg.p.ws.length sg.gw.cap) rfl;rw[Br]at x_;exact x_)) (Ah (v:=Value.pointer (some (Co sg.gw.a 0))) (Bm fun w_ h_=>Av (k:=.i64) (a:=sg.gw.a) (len:=sg.p.ws.length) (cap:=sg.gw.cap) (i:=0) (sz:=2) rfl Ae Ae Tryz.runUnderlying148 Tryz.sizeOf219 Ag Ag ((NG.ws (i:=1) h_ rfl oksg).here (by rw[B6 (g:=Gr) (sz:=2) (fun _=>rfl)];first|omega|(simp;omega)))) ?_))))
  refine Ab 1 (Ah (v:=iV .u64 ((sg.p.ws.getD 0 (0,0)).2)) (Ys.ld (a:=(Co sg.gw.a 0).add 1) rfl Ae Tryz.isAgg45 (fun w_ h_=>(NG.ws (i:=1) h_ rfl oksg).ldF (R2 (g:=Gr) (sz:=2) (fun _=>rfl) (0,0) (xs:=sg.p.ws) (k:=0) Ag 1 rfl))) (Ab 1 (Ac (hK19 _ _ _ ?_))))
  refine Ad (fun K21 hK21=>W.conseq (S':=Mem w M [Yp k sg,sg.gw.seg 219 (mm Gr sg.p.ws),[cb k.wb [sL sg.gw.a sg.p.ws.length sg.gw.cap] 150],Rh k sg,X b0,Q19 b1 k,[cb b2 [iV .u64 now] 45]]) (fun w_ h_=>Afj (h_.pick [1,0,2,3] Al rfl)) (Bz [(0,true),(1,false),(2,false),(3,false),(4,false),(5,false),(6,false),(7,false),(8,false)] [0] (Mem w M [Yp k sg,[cb k.wb [sL sg.gw.a sg.p.ws.length sg.gw.cap] 150],Rh k sg,X b0,Q19 b1 k,[cb b2 [iV .u64 now] 45]]) Ae Ae Ae rfl Ae (fun _ _ h_=>h_.drawn _) (fun _ h_=>h_.pick [0,2,3,4,5,6] Al rfl) (Wd.ys rfl rfl rfl (An b1 0 4 0 Tryz.isAgg83) (Wd.yc (v:=pL (some ⟨k.wb,0,none⟩)) rfl rfl rfl (Ys.yc (An b1 0 5 0 Tryz.isAgg83)) (.inr fun _ h_=>h_.pick [0,2,3,4,5,6] Al rfl) ?_))))
  refine Wd.yc (v:=pL (some ⟨k.wb,0,none⟩)) rfl rfl rfl (Ys.yc (Ys.p)) (.inr fun _ h_=>h_.pick [0,2,3,4,5,6] Al rfl) (Wd.yc (v:=pL (some ⟨k.wb,0,none⟩)) rfl rfl rfl (Ys.yc (Ys.p)) (.inr fun _ h_=>h_.pick [0,2,3,4,5,6] Al rfl) (Wd.yc (v:=sL sg.gw.a sg.p.ws.length sg.gw.cap) rfl rfl rfl (Ys.yc (Bp (b:=k.wb) (o':=0) (i:=2) (j:=0) (v:=sL sg.gw.a sg.p.ws.length sg.gw.cap) rfl Ae Tryz.isAgg148 rfl rfl rfl)) (.inr fun _ h_=>h_.pick [0,2,3,4,5,6] Al rfl) (Cd rfl rfl (Au [1] [0,2,3,4,5,6] (fun w_ hm_ hl_=>(Aae sg.gw sg.p.ws (sg.p.ws.drop 1) 0 _ _ _ _ rfl rfl A5 hl_ oksg.okw Ag Ag))) (.inr fun _ _ h_=>h_.pick [1,2,3,4,5,6] Al rfl) (fun gw22 hx26=>?_))))
  obtain⟨okw23,nn24⟩:=hx26
  refine Wd.yc (v:=pL (some ⟨k.wb,0,none⟩)) rfl rfl rfl (Ys.yc (Ys.p)) (.inl Ae) (Wd.yc (v:=pL (some ⟨k.wb,0,none⟩)) rfl rfl rfl (Ys.yc (Ys.p)) (.inl Ae) (B8 rfl rfl (Bg k.wb 0 2 0 (sL gw22.a ((sg.p.ws.drop 1).length) gw22.cap) Tryz.sizeOf148 rfl rfl) (.inl Ae) (fun _=>A7 (hK21 _ _ _ ?_))))
  refine Ad (fun K28 hK28=>?_)
  obtain⟨s29,hzs29⟩: ∃z,z=Xj sg gw22 (sg.p.ws.drop 1):=⟨_,rfl⟩
  have ok30:NOk k s29:=hzs29▸Abr oksg okw23
  obtain⟨lxs29,lys29,lzs29,lms29,lfs29⟩:=NOk.len ok30
  refine W.conseq (S':=Mem w M [NG k s29,X b0,Q19 b1 k,[cb b2 [iV .u64 now] 45]]) (fun w_ h_=>hzs29▸Afk (h_.pick [1,0,2,3,4,5,6] Al rfl)) (Aa (Ab 2 (Lb rfl (Io (σ:=NS×β) (Φ:=fun b q=>bif b then(Φ (i+1) q.1∧q.2=b0)else Ψ q) (Lf:=fun q=>[X q.2,NG k q.1,Q19 b1 k,[cb b2 [iV .u64 now] 45]]) (args:= #[iV .u64 ((sg.p.ws.getD 0 (0,0)).2)]) rfl rfl (fun _=>kr) (Lm (by show _=([iV .u64 (ws0.getD i (0,0)).2]:List Value).toArray;rw[henc_]) (Yld.mono (fun b_ w_ h_=>by obtain⟨s_,x_,h1_,h2_⟩:=h_;exact⟨(s_,x_),h1_,Mem.flat Ac8 h2_⟩) (Ns (fun w_ h_=>Mem.flat Ac8 (Mem.pick (LL':=[X b0,NG k s29,Q19 b1 k,[cb b2 [iV .u64 now] 45]]) [1,0,2,3] Al h_ rfl)) (hyl i s29 [Q19 b1 k,[cb b2 [iV .u64 now] 45]] w M hiN (hzs29▸h2 i sg gw22 hiN hphi okw23) (Keeps.refl _ _)))))) (fun x37=>?_))))
  obtain⟨⟨b32,⟨s35,xb36⟩⟩,hq34⟩:=x37
  refine Bu (LL':=[X xb36,NG k s35,Q19 b1 k,[cb b2 [iV .u64 now] 45]]) rfl (Ab 1 (Ac (hK28 _ _ _ ?_)))
  refine Ao (!b32) Ae (fun h39=>?_) (fun h40=>?_)
  ·refine Aq (fn:=Tryz.f112) rfl (fun w_ hS_=>Il rfl ⟨(s35,xb36),(.inr (by have hb_:b32=false:=(by simpa using h39);rw[hb_]at hq34;exact hq34)),rfl,(Mem.flat (LL:=[X xb36,NG k s35,Q19 b1 k,[cb b2 [iV .u64 now] 45]]) Ac8 (hS_.pick [0,1,2,3] Al rfl))⟩)
  ·refine Ak ?_
   have hT_:Φ (i+1) s35∧xb36=b0:=by have hb_:b32=true:=(by simpa using h40);rw[hb_]at hq34;exact hq34
   obtain⟨hT_,hX_⟩:=hT_
   refine fun w_ h_=>hJ1 (i+1) s35 _ w_ Ag ⟨Ag,hT_⟩ ?_ (Mem.cast (LL:=[X xb36,NG k s35,[cb b1 [Value.pointer (some ⟨k.wb,0,none⟩)] 83],[cb b2 [iV .u64 now] 45]]) (by rw[hX_]) h_)
   kernel_rfl
 ·have qh17:=h17;try simp only[zA]at qh17
  refine Cr ?_
  have hN_:i=Fg now ws0:=by
   have hcn_:=h17
   have henc_:sg.p.ws.getD 0 (0,0)=ws0.getD i (0,0):=by rw[hws,List.getD_eq_getElem?_getD,List.getElem?_drop,List.getD_eq_getElem?_getD];rfl
   by_cases hl0_:sg.p.ws.length=0
   ·omega
   ·have hs_:=Ig (now:=now) hi Ag
    rw[←henc_]at hs_
    rw[decide_eq_true Ag,Bool.true_and]at hcn_
    have:=of_decide_eq_false hcn_
    omega
  show∀w_,_→bodyPostM (Cy none) 0 Tryz.prog Tryz.f112 _ Exit.normal _ w_
  exact fun w_ hS_=>Dq (Il rfl ⟨(sg,b0),(.inl ⟨hN_▸hphi,rfl⟩),rfl,(Mem.flat (LL:=[X b0,NG k sg,Q19 b1 k,[cb b2 [iV .u64 now] 45]]) Ac8 (hS_.pick [0,1,2,3] Al rfl))⟩)
def Yq(ws:List (Int×Int))(i:Nat):List Int:=(ws.take i).map Prod.snd
def Ih(ws:List (Int×Int))(i:Nat)(es:List (Nat×SesE)):List (Nat×SesE):=es.filter fun x=> !(Yq ws i).contains x.2.id
theorem Vo(ws:List (Int×Int))(es:List (Nat×SesE)):Ih ws 0 es=es:=by
  unfold Ih Yq;exact List.filter_eq_self.2 fun x _=>by simp
theorem Abu{ws:List (Int×Int)}{i:Int}(h: ∀t,(t,i)∉ws):Fj ws i=ws:=by
  have h1: ¬Lt (Cu ws) i<(Cu ws).length:=fun hh=>by
    obtain⟨q,hq,e⟩:=List.mem_map.1 (Wp.1 hh)
    exact h q.1 (by rw[←e];exact hq)
  unfold Fj Lv
  rw[decide_eq_false h1];rfl
theorem InvA.pop{k:NK}{p:NP}(h:InvA k p none)(hw:OkS p.ws){t:Int}{i:Int}{ws:List (Int×Int)}(e:p.ws=(t,i)::ws):InvA k {p with ws:=ws} (some i):=by
  refine⟨h.tie,h.ids,h.idn,h.lst,fun j u=>?_,h.lse,h.lsi,h.inj,h.rng⟩
  have hnd:=hw.nd
  rw[e]at hnd
  have hn:i∉Cu ws:=(List.nodup_cons.1 hnd).1
  show(u,j)∈ws↔_
  have h1:=h.whl j u
  rw[e]at h1
  constructor
  · intro hm
    obtain⟨x,hx,e1,e2,_⟩:=h1.1 (List.mem_cons_of_mem _ hm)
    refine⟨x,hx,e1,e2,fun hh=>hn ?_⟩
    rw[Option.some.inj hh];exact List.mem_map.2 ⟨(u,j),hm,rfl⟩
  · rintro⟨x,hx,e1,e2,h3⟩
    rcases List.mem_cons.1 (h1.2 ⟨x,hx,e1,e2,by simp⟩)with hh|hh
    · exact absurd (congrArg some (Prod.mk.inj hh).2.symm) h3
    · exact hh
theorem Ka{es:List (Nat×SesE)}{x:Nat×SesE}(h:x∈es): ∃A B,es=A++(x.1,x.2)::B:=by
  obtain⟨A,B,e⟩:=List.append_of_mem h
  exact⟨A,B,e⟩
theorem Yr{k:NK}{p:NP}{o:Option Int}(h:InvA k p o)(hx:Fn ordF p.xs)(hy:Fn LO.int p.ys){i:Int}(hi: ∃x∈p.es,x.2.id=i):
    ∃A B b e,p.es=A++(b,e)::B∧e.id=i∧Bl p.ys i=true∧Bo ((0,0,0,0,0):B2) p.ys i=Dm e∧Bo none p.xs (Dm e)=some b:=by
  obtain⟨x,hm,e⟩:=hi
  obtain⟨A,B,hs⟩:=Ka hm
  have h1:(i,Dm x.2)∈p.ys:=(h.ids i _).2 ⟨x,hm,e,rfl⟩
  refine⟨A,B,x.1,x.2,hs,e,Fc.2 ⟨_,h1⟩,H6 hy h1,H6 hx ?_⟩
  rw[h.tie];exact List.mem_map.2 ⟨x,hm,rfl⟩
theorem Vp{k:NK}{p:NP}{o:Option Int}{ws:List (Int×Int)}{es A B:List (Nat×SesE)}{i b:Nat}{e:SesE}(h:InvA k p o)(hi:i<ws.length)(hes:p.es=Ih ws i es)(hs:p.es=A++(b,e)::B)(hid:e.id=(ws.getD i (0,0)).2):Ih ws (i+1) es=A++B:=by
  have hidn:=h.idn;rw[hs]at hidn
  have ho:=Pe hidn
  have e1:Ih ws (i+1) es=(Ih ws i es).filter fun x=> !(x.2.id==e.id):=by
    unfold Ih
    rw[List.filter_filter]
    refine List.filter_congr fun x _=>?_
    unfold Yq
    rw[List.take_add_one,List.getElem?_eq_getElem hi,List.map_append]
    have:(ws.getD i (0,0))=ws[i]:=by rw[List.getD_eq_getElem?_getD,List.getElem?_eq_getElem hi];rfl
    rw[hid,this]
    simp only[Option.toList_some,List.map_cons,List.map_nil,List.contains_eq_mem,List.mem_append,List.mem_singleton]
    rw[Bool.eq_iff_iff]
    simp only[Bool.not_eq_true',decide_eq_false_iff_not,Bool.and_eq_true,beq_eq_false_iff_ne]
    constructor
    · intro hh;exact⟨fun z=>hh (.inr z),fun z=>hh (.inl z)⟩
    · rintro⟨h1,h2⟩ (z|z);exact h2 z;exact h1 z
  rw[e1,←hes,hs,List.filter_append,List.filter_cons]
  have h0:(!((b,e).2.id==e.id))=false:=by simp
  rw[h0]
  simp only[Bool.false_eq_true,if_false]
  congr 1<;>refine List.filter_eq_self.2 fun x hx=>?_
  · have:=ho x (List.mem_append_left _ hx);simp[this]
  · have:=ho x (List.mem_append_right _ hx);simp[this]
theorem Yt{k:NK}{p:NP}{now:Int}(h:InvA k p none)(hw:OkS p.ws):Ih p.ws (Fg now p.ws) p.es=p.es.filter fun x=>decide (x.2.ends>now):=by
  unfold Ih
  refine List.filter_congr fun x hx=>?_
  have hm:(x.2.ends,x.2.id)∈p.ws:=(h.whl x.2.id x.2.ends).2 ⟨x,hx,rfl,rfl,by simp⟩
  obtain⟨j,hj,ej⟩:=List.getElem_of_mem hm
  have hg:p.ws.getD j (0,0)=(x.2.ends,x.2.id):=by rw[List.getD_eq_getElem?_getD,List.getElem?_eq_getElem hj,ej];rfl
  have hiff:x.2.ends≤now↔j<Fg now p.ws:=by
    constructor
    · intro hle
      --all ahead of j end earlier
      rcases Nat.lt_or_ge j (Fg now p.ws)with hh|hh
      · exact hh
      · have hn:=Ob now p.ws
        have h1:=Ig (now:=now) (ws:=p.ws) (i:=Fg now p.ws) (Nat.le_refl _) Ag
        have h2:(p.ws.getD (Fg now p.ws) (0,0)).1≤x.2.ends:=by
          have hd:Fg now p.ws<p.ws.length:=by omega
          have e2:p.ws.getD (Fg now p.ws) (0,0)=p.ws[Fg now p.ws]:=by rw[List.getD_eq_getElem?_getD,List.getElem?_eq_getElem hd];rfl
          rw[e2]
          rcases Nat.lt_or_ge (Fg now p.ws) j with h3|h3
          · have:=List.pairwise_iff_getElem.1 hw.srt _ j hd hj h3
            rw[ej]at this
            unfold LtS at this;simp only at this;omega
          · have h4:Fg now p.ws=j:=by omega
            have h5:p.ws[Fg now p.ws]=p.ws[j]:=by simp only[h4]
            rw[h5,ej];exact Int.le_refl _
        have:=h1.1 Ag
        omega
    · intro hlt
      have:=(Ig (now:=now) (ws:=p.ws) (i:=j) Ag hj).2 hlt
      rw[hg]at this;exact this
  have hc:(Yq p.ws (Fg now p.ws)).contains x.2.id=decide (j<Fg now p.ws):=by
    rw[List.contains_eq_mem]
    refine decide_eq_decide.2 ⟨fun hh=>?_,fun hh=>?_⟩
    · unfold Yq at hh
      obtain⟨q,hq,eq⟩:=List.mem_map.1 hh
      obtain⟨l,hl,el⟩:=List.getElem_of_mem hq
      rw[List.length_take]at hl
      rw[List.getElem_take]at el
      have hnd:=hw.nd
      unfold Cu List.Nodup at hnd
      rw[List.pairwise_map,List.pairwise_iff_getElem]at hnd
      rcases Nat.lt_trichotomy l j with h3|h3|h3
      · exact absurd (by rw[el,eq,ej]) (hnd l j Ag hj h3)
      · omega
      · exact absurd (by rw[el,eq,ej]) (hnd j l hj Ag h3)
    · unfold Yq
      refine List.mem_map.2 ⟨(x.2.ends,x.2.id),?_,rfl⟩
      rw[←ej]
      exact List.mem_take_iff_getElem.2 ⟨j,by omega,rfl⟩
  rw[hc]
  by_cases hle:x.2.ends≤now
  · rw[decide_eq_true (hiff.1 hle),decide_eq_false Ag];rfl
  · rw[decide_eq_false (fun hh=>hle (hiff.2 hh)),decide_eq_true Ag];rfl
theorem due_perm{α:Type}{U X N:List α}{R:List α}:((X++(N++U))++R).Perm (((U++X)++N)++R):=by
  refine List.Perm.append_right _ ?_
  have h:=List.perm_append_comm (l₁:=X++N) (l₂:=U)
  simpa only[List.append_assoc]using h
theorem Afl(k:NK)(now:Int)(ws0:List (Int×Int))(b1 b2:Nat)(U:List (List Blk))(Φ Φ':Nat→NS→Prop)(w:World)(M:List Nat)(h1: ∀i s,Φ i s→NOk k s∧s.p.ws=ws0.drop i)(h2: ∀i s g,i<Fg now ws0→Φ i s→g.ok 2 (s.p.ws.drop 1).length→Φ' i (Xj s g (s.p.ws.drop 1))):
    Agv Tryz.prog 112 #[.pointer (some ⟨b1,0,none⟩),.pointer (some ⟨b2,0,none⟩)] (fun i=>[Value.int .u64 (ws0.getD i (0,0)).2]) (Fg now ws0) [[cb b1 [Value.pointer (some ⟨k.wb,0,none⟩)] 83],[cb b2 [Value.int .u64 now] 45]] w M (fun s=>NG k s::U) Φ Φ':=fun β yv X b0 Ψ s0 hyl h0 hl _=>by
  have hc:=Ai8 k now ws0 b1 b2 β yv (fun b=>U.flatten++X b) b0 Φ Φ' Ψ s0 M w h1 h2 (fun i s R u Mu hi hΦ hk=>by
    have hy:=hyl i s R u Mu hi hΦ hk
    refine Yld.mono (fun b_ w_ h_=>?_) (Ns (fun w_ h_=>?_) hy)
    · obtain⟨s',b',g1,g2⟩:=h_
      refine⟨s',b',g1,Mem.perm ?_ g2⟩
      simp only[List.flatten_cons,List.flatten_nil,List.append_nil]
      exact due_perm.symm
    · refine Mem.perm ?_ h_
      simp only[List.flatten_cons,List.flatten_nil,List.append_nil]
      exact due_perm) h0 (Mem.perm (by
      simp only[List.flatten_cons,List.flatten_nil,List.append_nil]
      have:=(due_perm (U:=U.flatten) (X:=X b0) (N:=NG k s0) (R:=([cb b1 [Value.pointer (some ⟨k.wb,0,none⟩)] 83]++[cb b2 [Value.int .u64 now] 45]))).symm
      simpa only[List.append_assoc]using this) hl)
  refine Calls.mono hc ?_
  rintro e w' ⟨q,hq,rfl,hm⟩
  refine⟨q,hq,rfl,Mem.perm ?_ hm⟩
  simp only[List.flatten_cons,List.flatten_nil,List.append_nil]
  exact due_perm
theorem Ai9{k:NK}{s:NS}{now:Int}{i:Nat}{t:NS}{g:FS}(hA:OkS s.p.ws)(hi:i<Fg now s.p.ws)(h:NOk k t∧InvA k t.p none∧InvB k t.p∧t.p.ws=s.p.ws.drop i∧t.p.es=Ih s.p.ws i s.p.es∧t.p.ms=s.p.ms∧t.p.lst=s.p.lst)(hg:g.ok 2 (t.p.ws.drop 1).length):NOk k (Xj t g (t.p.ws.drop 1))∧InvA k (Xj t g (t.p.ws.drop 1)).p (some (s.p.ws.getD i (0,0)).2)∧InvB k (Xj t g (t.p.ws.drop 1)).p∧(Xj t g (t.p.ws.drop 1)).p.ws=s.p.ws.drop (i+1)∧((Xj t g (t.p.ws.drop 1)).p.es=Ih s.p.ws i s.p.es∧ ∃x∈(Xj t g (t.p.ws.drop 1)).p.es,x.2.id=(s.p.ws.getD i (0,0)).2)∧(Xj t g (t.p.ws.drop 1)).p.ms=s.p.ms∧(Xj t g (t.p.ws.drop 1)).p.lst=s.p.lst:=by
  obtain⟨h1,h2,h3,h4,h5,h6,h7⟩:=h
  have hl:=Ob now s.p.ws
  have hd:s.p.ws.drop i=s.p.ws.getD i (0,0)::s.p.ws.drop (i+1):=by
    rw[List.drop_eq_getElem_cons Ag,List.getD_eq_getElem?_getD,List.getElem?_eq_getElem Ag];rfl
  have he:t.p.ws=((s.p.ws.getD i (0,0)).1,(s.p.ws.getD i (0,0)).2)::s.p.ws.drop (i+1):=by rw[h4,hd]
  have hp:=h2.pop h1.hws he
  have hw:t.p.ws.drop 1=s.p.ws.drop (i+1):=by rw[he];rfl
  refine⟨Abr h1 hg,?_,⟨h3.rul,h3.tks⟩,hw,⟨h5,?_⟩,h6,h7⟩
  · rw[hw];exact hp
  · obtain⟨x,hx,e1,_⟩:=(h2.whl (s.p.ws.getD i (0,0)).2 (s.p.ws.getD i (0,0)).1).1 (by rw[he];exact List.mem_cons_self ..)
    exact⟨x,hx,e1⟩
theorem Abv(k:NK)(p:NP)(e:SesE)(pb:Nat):(Et k p e pb).ws=Fj p.ws e.id:=by
  unfold Et;cases e.given<;>simp only[cond_true,cond_false];cases(decide ((Bo (⟨0,0⟩:Lse) p.zs (B1 (Dm e))).count-1>0))<;>rfl
abbrev Q1a(k:NK)(p2:Nat):List Blk:=[cb p2 [pL (some ⟨k.nb,0,none⟩)] 35]
theorem Um(k:NK)(s:NS)(M:List Nat)(now:Int)(w:World)(ok:NOk k s)(hl:Mem w M [NG k s] w)(hA0:InvA k s.p none)(hB0:InvB k s.p)(hF:RngF k.fx)(hU:FxU k.fx)(hM:RngM s.p.ms):Calls Tryz.prog 19 #[pL (some ⟨k.nb,0,none⟩),iV .u64 now] w (Bj w (fun r:NS=>Inv k r∧r.p.ms=s.p.ms∧r.p.lst=s.p.lst∧r.p.es=s.p.es.filter (fun x=>decide (x.2.ends>now))) (fun _=>.tuple #[]) M (fun r=>[NG k r])):=by
 obtain⟨lxs,lys,lzs,lms,lfs⟩:=NOk.len ok;have hA:=ok.hws
 refine Ar (M:=M) (LL:=[NG k s]) (n:=38) Tryz.func19 rfl rfl A5 (hl) (Ad (fun K1 hK1=>?_))
 refine Aa (Ai rfl (Fl (v:=pL (some ⟨k.nb,0,none⟩)) (cs:=[pL (some ⟨k.nb,0,none⟩)]) rfl rfl Ae rfl) (fun p2=>?_))
 refine Ac (hK1 _ _ _ (Ad (fun K2 hK2=>Ap [1,0] Al rfl (Aa ?_))))
 refine Ah (An p2 0 1 0 Tryz.isAgg35) (Ab 2 (Ah (Bp (b:=k.nb) (o':=287) (i:=0) (j:=0) (cs:=Du k s) (v:=pL (some ⟨k.wb,0,none⟩)) rfl Ae Tryz.isAgg83 rfl rfl ((Fs rfl 0).trans rfl)) (Ab 1 (Ax rfl (Au [] [0,1] (fun w_ hm_ hl_=>(Al3 k.wb now _))) (fun q5 _=>?_)))))
 obtain⟨db3,db4⟩:=q5
 refine Bu (LL':=[[cb db3 [pL (some ⟨k.wb,0,none⟩)] 83],[cb db4 [iV .u64 now] 45],NG k s,Q1a k p2]) rfl (Ac (hK2 _ _ _ (W.block ?_)))
 refine Abq (σ:=NS) (enc:=fun i=>[iV .u64 ((s.p.ws.getD i (0,0)).2)]) (N:=Fg now s.p.ws) (Lu:=fun(gs_:NS)=>[NG k gs_,Q1a k p2]) (Li:=[[cb db3 [pL (some ⟨k.wb,0,none⟩)] 83],[cb db4 [iV .u64 now] 45]]) (Lk:=[]) [2,3] [0,1] [] s (fun i (gs_:NS)=>NOk k gs_∧InvA k gs_.p none∧InvB k gs_.p∧gs_.p.ws=s.p.ws.drop i∧gs_.p.es=Ih s.p.ws i s.p.es∧gs_.p.ms=s.p.ms∧gs_.p.lst=s.p.lst) (fun i (gs_:NS)=>NOk k gs_∧InvA k gs_.p (some (s.p.ws.getD i (0,0)).2)∧InvB k gs_.p∧gs_.p.ws=s.p.ws.drop (i+1)∧(gs_.p.es=Ih s.p.ws i s.p.es∧ ∃x∈gs_.p.es,x.2.id=(s.p.ws.getD i (0,0)).2)∧gs_.p.ms=s.p.ms∧gs_.p.lst=s.p.lst) (fun c_ (gs_:NS)=>False) [15] Ae (fun _ _=>rfl) Al (by rfl) rfl rfl rfl (fun _=>rfl) (⟨ok,hA0,hB0,rfl,(Vo _ _).symm,rfl,rfl⟩) (fun D_ l_ ob_ w1_ hm_=>(Afl k now s.p.ws db3 db4 [Q1a k p2] _ _ w1_ _ (fun i s_ h_=>⟨h_.1,h_.2.2.2.1⟩) (fun i s_ g_ hi_ h_ hg_=>Ai9 hA hi_ h_ hg_))) ?_ ?_ ?_
 ·intro D8 l9 ob10 ob11 i s13 u14 Mu15 J16 hi17 hp18 hcv19 hJ20
  obtain⟨sg,rfl⟩: ∃a_,a_=s13:=⟨_,rfl⟩
  obtain⟨oksg,hI,hB,hws,⟨hes,hex⟩,hms,hlst⟩:=hp18
  obtain⟨fA,fB,eb,ee,hfe,hid,hhy,hgy,hgx⟩:=Yr hI oksg.hxs oksg.hys hex
  have hej:sg.p.es[fA.length]? =some (eb,ee):=by rw[hfe,List.getElem?_append_right (Nat.le_refl _)];simp
  obtain⟨lxsg,lysg,lzsg,lmsg,lfsg⟩:=NOk.len oksg
  refine Aa (Ab 1 (Ac ?_))
  refine fun w_ h_=>hJ20 _ [NG k sg,Q1a k p2] ?_ w_ h_
  refine W.block (Ad (fun K22 hK22=>?_))
  refine Aa (Ah (An p2 0 3 0 Tryz.isAgg35) (Ab 2 (Ah (Bp (b:=k.nb) (o':=288) (i:=2) (j:=0) (cs:=Du k sg) (v:=pL (some ⟨k.ti,0,none⟩)) rfl Ae Tryz.isAgg89 rfl rfl ((Fs rfl 1).trans rfl)) (Ab 1 ?_))))
  refine B0 (v:=Value.tuple #[aV [iV .u8 ((Bo (0,0,0,0,0) sg.p.ys ((s.p.ws.getD i (0,0)).2)).1),iV .u32 ((Bo (0,0,0,0,0) sg.p.ys ((s.p.ws.getD i (0,0)).2)).2.1),iV .u32 ((Bo (0,0,0,0,0) sg.p.ys ((s.p.ws.getD i (0,0)).2)).2.2.1),iV .u16 ((Bo (0,0,0,0,0) sg.p.ys ((s.p.ws.getD i (0,0)).2)).2.2.2.1),iV .u16 ((Bo (0,0,0,0,0) sg.p.ys ((s.p.ws.getD i (0,0)).2)).2.2.2.2)],bV (Bl sg.p.ys ((s.p.ws.getD i (0,0)).2))]) (A9 (fun w_ hm_=>(Ahq sg.p.ys sg.gi.a sg.gi.cap k.mo k.ti ((s.p.ws.getD i (0,0)).2) _ (Abb (i:=2) hm_ rfl) (NG.ys (i:=2) hm_ rfl oksg) Fb oksg.hys))) (Ab 2 (Ah (v:=bV true) ((Ys.p (v:=bV (Bl sg.p.ys ((s.p.ws.getD i (0,0)).2)))).conseq (Cj (hhy))) (Ai rfl (Bc Tryz.zeroValue47) (fun p5=>Ai rfl (A4 p5 0 0 0 [iV .u8 ((Bo (0,0,0,0,0) sg.p.ys ((s.p.ws.getD i (0,0)).2)).1),iV .u32 ((Bo (0,0,0,0,0) sg.p.ys ((s.p.ws.getD i (0,0)).2)).2.1),iV .u32 ((Bo (0,0,0,0,0) sg.p.ys ((s.p.ws.getD i (0,0)).2)).2.2.1),iV .u16 ((Bo (0,0,0,0,0) sg.p.ys ((s.p.ws.getD i (0,0)).2)).2.2.2.1),iV .u16 ((Bo (0,0,0,0,0) sg.p.ys ((s.p.ws.getD i (0,0)).2)).2.2.2.2)] Tryz.sizeOf47 rfl rfl) (fun _=>?_)))))
  refine Ab 1 (Ac (hK22 _ _ _ (Ad (fun K24 hK24=>Aa ?_))))
  refine Ab 1 (Ac (hK24 _ _ _ (B5 Ae (Ad (fun K25 hK25=>?_)))))
  refine Dh [(0,true),(1,true),(2,true),(3,true),(4,false),(5,false),(6,false),(7,true),(8,true),(9,false),(10,false)] [0,1,2,3,7,8] (Wd.ys rfl rfl rfl (An p2 0 4 0 Tryz.isAgg35) (Ay 2 (Wd.ys rfl rfl rfl (Bp (b:=k.nb) (o':=29) (i:=3) (j:=0) (cs:=Du k sg) (v:=pL (some ⟨k.ts,0,none⟩)) rfl Ae Tryz.isAgg85 rfl rfl ((Cq rfl Al).trans rfl)) (Wd.yc (v:=aV [iV .u8 ((Bo (0,0,0,0,0) sg.p.ys ((s.p.ws.getD i (0,0)).2)).1),iV .u32 ((Bo (0,0,0,0,0) sg.p.ys ((s.p.ws.getD i (0,0)).2)).2.1),iV .u32 ((Bo (0,0,0,0,0) sg.p.ys ((s.p.ws.getD i (0,0)).2)).2.2.1),iV .u16 ((Bo (0,0,0,0,0) sg.p.ys ((s.p.ws.getD i (0,0)).2)).2.2.2.1),iV .u16 ((Bo (0,0,0,0,0) sg.p.ys ((s.p.ws.getD i (0,0)).2)).2.2.2.2)]) rfl rfl rfl (Ys.yc (A0 p5 0 0 0 [iV .u8 ((Bo (0,0,0,0,0) sg.p.ys ((s.p.ws.getD i (0,0)).2)).1),iV .u32 ((Bo (0,0,0,0,0) sg.p.ys ((s.p.ws.getD i (0,0)).2)).2.1),iV .u32 ((Bo (0,0,0,0,0) sg.p.ys ((s.p.ws.getD i (0,0)).2)).2.2.1),iV .u16 ((Bo (0,0,0,0,0) sg.p.ys ((s.p.ws.getD i (0,0)).2)).2.2.2.1),iV .u16 ((Bo (0,0,0,0,0) sg.p.ys ((s.p.ws.getD i (0,0)).2)).2.2.2.2)] Tryz.isAgg47 Tryz.sizeOf47)) (.inr fun _ h_=>h_) ?_))))
  refine Wd.yc (v:=Value.tuple #[pL (Cs (Bo none sg.p.xs (Bo (0,0,0,0,0) sg.p.ys ((s.p.ws.getD i (0,0)).2)))),bV (Bl sg.p.xs (Bo (0,0,0,0,0) sg.p.ys ((s.p.ws.getD i (0,0)).2)))]) rfl rfl rfl (A9 (fun w_ hm_=>(U7 sg.p.xs sg.gs.a sg.gs.cap k.mo k.ts (Bo (0,0,0,0,0) sg.p.ys ((s.p.ws.getD i (0,0)).2)) _ (Ku (i:=3) hm_ rfl) (NG.xs (i:=3) hm_ rfl oksg) Fb oksg.hxs))) (.inr fun _ h_=>h_) (Wd.yc (v:=Value.tuple #[pL (Cs (Bo none sg.p.xs (Bo (0,0,0,0,0) sg.p.ys ((s.p.ws.getD i (0,0)).2)))),bV (Bl sg.p.xs (Bo (0,0,0,0,0) sg.p.ys ((s.p.ws.getD i (0,0)).2)))]) rfl rfl rfl (Ys.yc (Ys.p)) (.inr fun _ h_=>h_) (Wd.ys (v:=pV eb 0) rfl rfl rfl ((Ys.p (v:=pL (Cs (Bo none sg.p.xs (Bo (0,0,0,0,0) sg.p.ys ((s.p.ws.getD i (0,0)).2)))))).conseq ((by rw[hgy,hgx];rfl))) (Ay 1 (Wd.yc (v:=pV eb 0) rfl rfl rfl (Ys.yc (Ys.p)) (.inr fun _ h_=>h_) ?_))))
  refine Wd.yc (v:=bV (Bl sg.p.xs (Bo (0,0,0,0,0) sg.p.ys ((s.p.ws.getD i (0,0)).2)))) rfl rfl rfl (Ys.yc (Ys.p)) (.inl Ae) (A7 (hK25 _ _ _ (Ap [1,2,3,4] Al rfl ?_)))
  obtain⟨s27,hzs27⟩: ∃z,z=Vm sg (fA++fB):=⟨_,rfl⟩
  have ok28:NOk k s27:=hzs27▸Jq oksg _
  have hp29:s27.p={sg.p with es:=fA++fB}:=by rw[hzs27];rfl
  obtain⟨lxs27,lys27,lzs27,lms27,lfs27⟩:=NOk.len ok28
  refine W.conseq (S':=Mem u14 Mu15 [NG k s27,[cb eb [iV .u8 ee.pr,iV .u32 ee.src,iV .u32 ee.dst,iV .u16 ee.frm,iV .u16 ee.dto,iV .u16 ee.ext,iV .u64 ee.ends,bV ee.lan,bV ee.s0,bV ee.s1,bV ee.s2,bV ee.s3,bV ee.s4,iV .u64 ee.id,bV ee.given] 113],dB D8,lB l9 ob11,Q1a k p2]) (fun w_ h_=>hzs27▸Sn hfe (h_.pick [2,0,1,3] Al rfl)) ?_
  have hbd_:=Xi hI (by have z_:=Oa oksg hI;omega) (ee.pr,ee.src,ee.frm)
  rw[show sg.p.zs=s27.p.zs by rw[hp29]]at hbd_
  have hre_:=hI.rng (eb,ee) (by rw[hfe];exact Cf.2 (.inl rfl))
  refine Aa (Ah (An p2 0 4 0 Tryz.isAgg35) (Ab 1 (Ax rfl (Au [0,1] [2,3,4] (fun w_ hm_ hl_=>(Ai2 k s27 _ ee eb _ ok28 hl_ hbd_.1 hbd_.2 hre_.pr))) (fun s30 hx34=>?_))))
  obtain⟨ok31,hp32⟩:=hx34
  obtain⟨lxs30,lys30,lzs30,lms30,lfs30⟩:=NOk.len ok31
  refine Ac ?_
  obtain⟨pb_,hpb_⟩:=hp32
  have hP_:s30.p=Et k {sg.p with es:=fA++fB} ee pb_:=hpb_.trans (by rw[hp29])
  have hD_:=InvA.dropI hI oksg.hxs oksg.hzs oksg.hws.nd hfe (.inr (congrArg some hid.symm)) hP_
  have hDb_:=InvB.dropI hB hI oksg.hzs hfe hP_
  have hdl_:=Ob now s.p.ws
  have hE_:=Vp hI Ag hes hfe hid
  have hW_:s30.p.ws=s.p.ws.drop (i+1):=by rw[hP_,Abv];show Fj sg.p.ws ee.id=_;rw[Abu (fun t_ ht_=>by obtain⟨x_,hx_,e1_,_,h3_⟩:=(hI.whl ee.id t_).1 ht_;exact h3_ (congrArg some hid.symm))];exact hws
  exact fun w_ h_=>Exists.intro s30 (And.intro ⟨ok31,hD_.1,hDb_,hW_,(hD_.2.1.trans hE_.symm),(hD_.2.2.1.trans hms),(hD_.2.2.2.trans hlst)⟩ (h_.pick [1,2,0,3] Al rfl))
 ·intro D35 l36 ob37 s38 hp39
  obtain⟨sg,rfl⟩: ∃a_,a_=s38:=⟨_,rfl⟩
  obtain⟨oksg,hI,hB,hws,hes,hms,hlst⟩:=hp39
  obtain⟨lxsg,lysg,lzsg,lmsg,lfsg⟩:=NOk.len oksg
  refine Jv (LL':=[[cb db3 [Value.pointer (some ⟨k.wb,0,none⟩)] 83],[cb db4 [iV .u64 now] 45],NG k sg,Q1a k p2,dB D35]) [4,5,2,3,0] Al rfl ?_
  have hK_:sg.p.es=s.p.es.filter (fun x=>decide (x.2.ends>now)):=hes.trans (Yt hA0 ok.hws)
  show∀w_,_→bodyPostM (Cy none) 0 Tryz.prog Tryz.f19 _ Exit.normal _ w_
  exact fun w_ h0_=>Jc (h0_.mark (i:=4) rfl).1 (by have hS_:Mem w M [[cb db3 [Value.pointer (some ⟨k.wb,0,none⟩)] 83],[cb db4 [iV .u64 now] 45],NG k sg,Q1a k p2,[⟨D35,.deferred none⟩]] _:=(h0_.mark (i:=4) rfl).2;exact Il rfl ⟨sg,⟨⟨oksg,hI,hB,hF,hU,by rw[hms];exact hM⟩,hms,hlst,hK_⟩,rfl,(hS_.pick [2] Al rfl)⟩)
 ·intro D_ l_ ob_ c_ s_ h_;exact h_.elim
theorem Yu{k:NK}{p:NP}{o:Option Int}(h:InvA k p o)(hs:Fn ordF p.xs){f:B2}(hf:Bl p.xs f=true): ∃A B b e,p.es=A++(b,e)::B∧Dm e=f∧Bo none p.xs f=some b:=by
  obtain⟨v,hv⟩:=Fc.1 hf
  rw[h.tie]at hv
  obtain⟨x,hx,e1⟩:=List.mem_map.1 hv
  obtain⟨A,B,e2⟩:=Ka hx
  have e3:Dm x.2=f:=(Prod.mk.inj e1).1
  refine⟨A,B,x.1,x.2,e2,e3,H6 hs ?_⟩
  rw[h.tie,←e3];exact List.mem_map.2 ⟨x,hx,rfl⟩
theorem Vq{A B:List (Nat×SesE)}{es:List (Nat×SesE)}{b:Nat}{e:SesE}(h:es=A++(b,e)::B):es[A.length]? =some (b,e):=by
  rw[h,List.getElem?_append_right (Nat.le_refl _)];simp
def RngFl(f:B2):Prop:=(0≤f.1∧f.1≤255)∧(0≤f.2.1∧f.2.1≤4294967295)∧(0≤f.2.2.1∧f.2.2.1≤4294967295)∧(0≤f.2.2.2.1∧f.2.2.2.1≤65535)∧(0≤f.2.2.2.2∧f.2.2.2.2≤65535)
theorem Ajb{ms:List Mpg}{fx:List Conf.Fwd}{a b:Int}(h1: ∀w∈fx,¬(w.proto=a∧w.port=b))(h2: ∀m∈ms,¬(m.proto=a∧m.ext=b)):Xf ms fx a b=false:=by
  unfold Xf
  rw[Bool.or_eq_false_iff]
  constructor
  · cases h:I6 fx a b with
    |false=>rfl
    |true=>obtain⟨g1,g2,g3⟩:=Afi h;exact absurd ⟨g2,g3⟩ (h1 _ g1)
  · rw[List.any_eq_false];intro m hm hh
    unfold ruQ at hh;simp only[Bool.and_eq_true,beq_iff_eq]at hh
    exact h2 m hm hh
theorem Afm{P:List (Int×Int)}{p q:Nat}(hq:1024≤q)(h:D6 P p q=false):(((p:Nat):Int),(q:Int))∉P:=fun hm=>by
  unfold D6 at h
  rw[decide_eq_true hq,Bool.true_and,List.any_eq_false]at h
  exact h _ hm A5
section
variable {k:NK}{s:NS}{f:B2}{dr:Nat}{ext:Int}{gv:Bool}
theorem Pg{ms:List Mpg}{fx:List Conf.Fwd}(h:Hg ms fx f=some ext):(∃m∈ms,ruM f m=true∧ext=m.ext)∨ ∃w∈fx,ruW f w=true∧ext=w.port:=by
  unfold Hg at h
  cases hm:ms.find? (ruM f)with
  |some m=>rw[hm]at h;exact .inl ⟨m,List.mem_of_find?_eq_some hm,List.find?_some hm,(Option.some.inj h).symm⟩
  |none=>
    rw[hm]at h
    cases hw:fx.find? (ruW f)with
    |none=>rw[hw]at h;cases h
    |some w=>rw[hw]at h;exact .inr ⟨w,List.mem_of_find?_eq_some hw,List.find?_some hw,(Option.some.inj h).symm⟩
theorem Xk(hI:Inv k s)(hf:0≤f.1)(h:pk (s.p.TT f.1.toNat) dr<65536):(f.1,(L8 (s.p.TT f.1.toNat) dr:Int))∉Gz k.fx++Hz s.p.ms++Nj s.p.zs∧1024≤L8 (s.p.TT f.1.toNat) dr:=by
  have h1:=M2 (s.p.TT f.1.toNat) dr
  have hv:L8 (s.p.TT f.1.toNat) dr=pk (s.p.TT f.1.toNat) dr:=by unfold L8;rw[if_pos h]
  have h2:=h1.2.2.1 h
  rw[hv]
  refine⟨fun hm=>?_,h1.2.1⟩
  have h3:D6 (Gz k.fx++Hz s.p.ms++Nj s.p.zs) f.1.toNat (pk (s.p.TT f.1.toNat) dr)=false:=by rw[←hI.b.tks];exact h2
  have h4:=Afm h1.2.1 h3
  rw[Int.toNat_of_nonneg hf]at h4
  exact h4 hm
theorem OpenX.rng(hI:Inv k s)(h:OpenX k s.p f dr ext gv):0≤ext∧ext≤65535:=by
  rcases h with⟨h,_⟩|⟨_,_,h,rfl⟩|⟨_,_,_,_,rfl⟩
  · rcases Pg h with⟨m,hm,_,rfl⟩|⟨w,hw,_,rfl⟩
    · have:=hI.mr m hm;omega
    · have:=hI.fr w hw;omega
  · exact(hI.a.lse _ _ (D5 (v0:=(⟨0,0⟩:Lse)) h)).2.2.1
  · have:=U8 (s.p.TT f.1.toNat) dr;omega
theorem OpenX.ho(hI:Inv k s)(hf:0≤f.1)(h:OpenX k s.p f dr ext gv)(id:Int):Xg s.p.ms k.fx (Pc f ext id gv)=true:=by
  rcases h with⟨h,rfl⟩|⟨_,rfl,h,rfl⟩|⟨_,rfl,_,hp,rfl⟩
  · rcases Pg h with⟨m,hm,hr,rfl⟩|⟨w,hw,hr,rfl⟩
    · unfold Xg
      simp only[Pc,cond_false,Bool.or_eq_true]
      left
      refine List.any_eq_true.2 ⟨m,hm,?_⟩
      unfold ruM at hr;unfold hoM
      simp only[Bool.and_eq_true,Bool.or_eq_true,beq_iff_eq]at hr⊢
      exact⟨⟨⟨⟨hr.1.1.1,trivial⟩,hr.1.1.2⟩,hr.1.2⟩,hr.2⟩
    · unfold Xg
      simp only[Pc,cond_false,Bool.or_eq_true]
      right
      unfold ruW at hr
      simp only[Bool.and_eq_true,beq_iff_eq]at hr
      obtain⟨g1,g2⟩:=hI.fu w hw
      rw[hr.1.1]at g1 g2
      rw[g1,g2];simp[hr.1.2,hr.2]
  · obtain⟨h1,h2,h3,h4⟩:=hI.a.lse _ _ (D5 (v0:=(⟨0,0⟩:Lse)) h)
    obtain⟨x,hx,hg⟩:=L5 (t:=B1 f) (es:=s.p.es) Ag
    have h5:=h4 x hx hg
    have h6:=hI.b.rul x hx
    obtain⟨hgv,he⟩:=D7.1 hg
    have hpr:x.2.pr=f.1:=(Prod.mk.inj he).1
    unfold Xg at h6⊢
    rw[hgv,hpr,h5]at h6
    exact h6
  · have hn:=Xk hI hf hp
    have hr:Xf s.p.ms k.fx f.1 (L8 (s.p.TT f.1.toNat) dr:Int)=false:=by
      refine Ajb (fun w hw hh=>hn.1 ?_) (fun m hm hh=>hn.1 ?_)
      · exact List.mem_append_left _ (List.mem_append_left _ (List.mem_map.2 ⟨w,hw,Prod.ext hh.1 hh.2⟩))
      · exact List.mem_append_left _ (List.mem_append_right _ (List.mem_map.2 ⟨m,hm,Prod.ext hh.1 hh.2⟩))
    unfold Xg
    show(bif true then !Xf s.p.ms k.fx f.1 (L8 (s.p.TT f.1.toNat) dr:Int)else _)=true
    rw[cond_true,hr];rfl
theorem Yv(hI:Inv k s)(hf:0≤f.1)(h:OpenX k s.p f dr ext gv):gv=true→(∀l,(B1 f,l)∈s.p.zs→l.ext=ext)∧(∀t l,(t,l)∈s.p.zs→t≠B1 f→t.1=f.1→l.ext≠ext):=fun hgv=>by
  rcases h with⟨_,hg⟩|⟨_,_,h,rfl⟩|⟨_,_,h,hp,rfl⟩
  · rw[hgv]at hg;cases hg
  · have hm:=D5 (v0:=(⟨0,0⟩:Lse)) h
    refine⟨fun l hl=>by rw[H6 hI.ok.hzs hl],fun t l hl hne h1 h2=>hne ?_⟩
    exact hI.a.inj _ _ _ _ hl hm h1 h2
  · have hn:=Xk hI hf hp
    refine⟨fun l hl=>absurd rfl (He.1 h _ hl),fun t l hl _ h1 h2=>hn.1 ?_⟩
    exact List.mem_append_right _ (Gc.2 ⟨t,l,hl,by rw[h1,h2]⟩)
end
theorem Afn{f:B2}{ext id:Int}{gv:Bool}(hf:RngFl f)(he:0≤ext∧ext≤65535):RngE (Pc f ext id gv):=⟨hf.1,hf.2.1,hf.2.2.1,hf.2.2.2.1,hf.2.2.2.2,he⟩
theorem Afo{k:NK}{s:NS}{f:B2}{ext now:Int}{gv out:Bool}{xb pb:Nat}{e':SesE}(hI:Inv k s)(hno:Bl s.p.xs f=false)(hroom:(s.p.xs.length:Int)<k.mo)(hl1:s.p.lst+1≤18446744073709551615)
    (hg:gv=true→(∀l,(B1 f,l)∈s.p.zs→l.ext=ext)∧(∀t l,(t,l)∈s.p.zs→t≠B1 f→t.1=f.1→l.ext≠ext)) (hr:RngE (Pc f ext s.p.lst gv)) (ho:Xg s.p.ms k.fx (Pc f ext s.p.lst gv)=true) (hn:RenE (Pc f ext s.p.lst gv) now out e') {p':NP}
    (hp:p'={Sm k s.p f ext gv xb pb with ws:=I2 (Sm k s.p f ext gv xb pb).ws s.p.lst e'.ends,es:=s.p.es.take (Be ordF s.p.xs f)++(xb,e')::s.p.es.drop (Be ordF s.p.xs f)}):
    InvA k p' none∧InvB k p'∧p'.ms=s.p.ms∧p'.lst=s.p.lst+1:=by
  have h1:=InvA.add (xb:=xb) (pb:=pb) hI.a hI.ok.hxs hI.ok.hys hI.ok.hzs hno hroom hl1 hg hr
  have h2:=InvB.add (xb:=xb) (pb:=pb) hI.b hI.a hI.ok.hzs hroom (fun h=>(hg h).1) hr ho
  have he:(Pf k s.p f ext gv xb pb).es=s.p.es.take (Be ordF s.p.xs f)++(xb,Pc f ext s.p.lst gv)::s.p.es.drop (Be ordF s.p.xs f):=rfl
  have h3:=InvA.renew h1.1 (show OkS (Pf k s.p f ext gv xb pb).ws from hI.ok.hws) he (.inr rfl) hn
  have h4:=InvB.renew h2 he hn
  subst hp
  exact⟨h3,h4,h1.2.1,h1.2.2⟩
theorem Sp{k:NK}{s:NS}{now:Int}{out:Bool}{b:Nat}{e e':SesE}{A B:List (Nat×SesE)}(hI:Inv k s)(he:s.p.es=A++(b,e)::B)(hn:RenE e now out e'){p':NP}
    (hp:p'={s.p with ws:=I2 s.p.ws e.id e'.ends,es:=A++(b,e')::B}):InvA k p' none∧InvB k p':=by
  subst hp
  exact⟨InvA.renew hI.a hI.ok.hws he (.inl rfl) hn,InvB.renew hI.b he hn⟩
theorem Inv.tk{k:NK}{s r:NS}(hI:Inv k s)(ok:NOk k r){tk:Nat→Option Nat}(hp:r.p={s.p with tk:=tk}):Inv k r:=
  ⟨ok,by rw[hp];exact hI.a.withTk tk s.p.TT,⟨by rw[hp];exact hI.b.rul,by rw[hp];exact hI.b.tks⟩,hI.fr,hI.fu,by rw[hp];exact hI.mr⟩
end Go.Proofs.YtmonlaoaengfdaaGreatDoor.Oct
