import Derived.Test.YtmonlaoaengfdaaGreatDoorM10
import Derived.Test.YtmonlaoaengfdaaGreatDoorM8
set_option linter.unusedVariables false
set_option linter.unusedSimpArgs false
set_option maxRecDepth 20000
namespace Go.Proofs.YtmonlaoaengfdaaGreatDoor.Oct
open Go.RowKit Base Tryz
attribute [local irreducible] Ys Yc Ht HtS HtIn Wl Wd W Mem pf Ez Wa Wo KW
open Conf (Fwd fwv)
def O7(s:NS)(es:List (Nat×SesE)):NS:={s with p:={s.p with es:=es}}
def Pj(t:Ix)(x:Nat×SesE):Bool:=x.2.given&&decide (Cc (Ed x.2)=t)
def H0(t:Ix)(es:List (Nat×SesE)):Nat:=es.countP (Pj t)
structure RngE(e:SesE):Prop where
  pr:0≤e.pr∧e.pr≤255
  src:0≤e.src∧e.src≤4294967295
  dst:0≤e.dst∧e.dst≤4294967295
  frm:0≤e.frm∧e.frm≤65535
  dto:0≤e.dto∧e.dto≤65535
  ext:0≤e.ext∧e.ext≤65535
def RngF(fx:List Conf.Fwd):Prop:= ∀x∈fx,0≤x.proto∧x.proto≤255∧0≤x.port∧x.port≤65535∧0≤x.host∧x.host≤4294967295∧0≤x.dest∧x.dest≤65535
def RngM(ms:List Mpg):Prop:= ∀x∈ms,0≤x.proto∧x.proto≤255∧0≤x.ext∧x.ext≤65535∧0≤x.to∧x.to≤65535∧0≤x.host∧x.host≤4294967295
structure InvA(k:NK)(p:NP)(o:Option Int):Prop where
  tie:p.xs=p.es.map P4
  ids: ∀i f,(i,f)∈p.ys↔ ∃x∈p.es,x.2.id=i∧Ed x.2=f
  idn:(p.es.map fun x=>x.2.id).Nodup
  lst:0≤p.lst∧ ∀x∈p.es,0≤x.2.id∧x.2.id<p.lst
  whl: ∀i t,(t,i)∈p.ws↔ ∃x∈p.es,x.2.id=i∧x.2.ends=t∧o≠some i
  lse: ∀e l,(e,l)∈p.zs→l.count=(H0 e p.es:Int)∧1≤l.count∧(0≤l.ext∧l.ext≤65535)∧ ∀x∈p.es,Pj e x=true→x.2.ext=l.ext
  lsi: ∀x∈p.es,x.2.given=true→Bq p.zs (Cc (Ed x.2))=true
  inj: ∀e l e' l',(e,l)∈p.zs→(e',l')∈p.zs→e.1=e'.1→l.ext=l'.ext→e=e'
  rng: ∀x∈p.es,RngE x.2
theorem Wq(t:Ix)(A B:List (Nat×SesE)):H0 t (A++B)=H0 t A+H0 t B:=List.countP_append
theorem Jx(t:Ix)(A B:List (Nat×SesE))(x:Nat×SesE):H0 t (A++x::B)=H0 t (A++B)+(bif Pj t x then 1 else 0):=by
  rw[Wq,Wq];unfold H0;rw[List.countP_cons];cases Pj t x<;>simp<;>omega
theorem Aav{t:Ix}{es:List (Nat×SesE)}(h:H0 t es=0): ∀x∈es,Pj t x=false:=fun x b=>by
  have:=(List.countP_eq_zero (p:=Pj t) (l:=es)).1 h x b
  simpa using this
theorem Lv{t:Ix}{es:List (Nat×SesE)}(h:1≤H0 t es): ∃x∈es,Pj t x=true:=List.countP_pos_iff.1 h
theorem Eg{t:Ix}{x:Nat×SesE}:Pj t x=true↔x.2.given=true∧Cc (Ed x.2)=t:=by unfold Pj;simp
section
variable {k:NK}{p p':NP}{o:Option Int}{A B:List (Nat×SesE)}{b:Nat}{e:SesE}
theorem InvA.srt(h:InvA k p o)(c:Gj ordF p.xs):(p.es.map P4).Pairwise fun p q=>ordF.lt p.1 q.1=true:=by rw[←h.tie];exact c
theorem Ad8(d:Gj ordF ((A++(b,e)::B).map P4)): ∀x∈A++B,Ed x.2≠Ed e:=fun x c f=>by
  rw[List.map_append,List.map_cons]at d
  have g:=List.pairwise_append.1 d
  rcases List.mem_append.1 c with c|c
  · have:=g.2.2 (P4 x) (List.mem_map_of_mem c) (P4 (b,e)) (List.mem_cons_self ..)
    exact ordF.ne this f
  · have:=(List.pairwise_cons.1 g.2.1).1 (P4 x) (List.mem_map_of_mem c)
    exact ordF.ne this f.symm
theorem Ad9(f:Gj ordF ((A++(b,e)::B).map P4)):Di ((A++(b,e)::B).map P4) (Ed e)=(A++B).map P4:=by
  have h:=Ad8 f
  unfold Di
  rw[List.map_append,List.map_cons,List.filter_append,List.filter_cons,List.map_append]
  have g:(!decide ((P4 (b,e)).1=Ed e))=false:=by simp[P4]
  rw[g]
  simp only[Bool.false_eq_true,if_false]
  congr 1
  · refine List.filter_eq_self.2 fun y c=>?_
    obtain⟨x,d,rfl⟩:=List.mem_map.1 c
    simp[P4,h x (List.mem_append_left _ d)]
  · refine List.filter_eq_self.2 fun y c=>?_
    obtain⟨x,d,rfl⟩:=List.mem_map.1 c
    simp[P4,h x (List.mem_append_right _ d)]
theorem Sa(d:((A++(b,e)::B).map fun x=>x.2.id).Nodup): ∀x∈A++B,x.2.id≠e.id:=fun x f g=>by
  have c:(((b,e)::(A++B)).map fun x=>x.2.id).Nodup:=(List.perm_middle.map _).nodup_iff.1 d
  rw[List.map_cons,List.nodup_cons]at c
  exact c.1<|by rw[←g];exact List.mem_map_of_mem f
theorem Cr{x y:Nat×SesE}:y∈A++x::B↔y=x∨y∈A++B:=by simp only[List.mem_append,List.mem_cons];constructor<;>(intro h;rcases h with h|h|h<;>simp_all)
theorem InvA.dropI(h:InvA k p o)(hs:Gj ordF p.xs)(S:Gj Cu p.zs)(hw:(C6 p.ws).Nodup)(D:p.es=A++(b,e)::B)(ho:o=none∨o=some e.id){pb:Nat}(L:p'=Fm k {p with es:=A++B} e pb):InvA k p' none∧p'.es=A++B∧p'.ms=p.ms∧p'.lst=p.lst:=by
  have u:=h.idn;rw[D]at u
  have M:=Sa u
  have O:=h.srt hs;rw[D]at O
  have ex:p'.xs=(A++B).map P4:=by
    have:p'.xs=Di p.xs (Ed e):=by subst L;unfold Fm;cases e.given<;>simp only[cond_true,cond_false];cases(decide ((B1 (⟨0,0⟩:Lse) p.zs (Cc (Ed e))).count-1>0))<;>rfl
    rw[this,h.tie,D];exact Ad9 O
  have ey:p'.ys=Di p.ys e.id:=by subst L;unfold Fm;cases e.given<;>simp only[cond_true,cond_false];cases(decide ((B1 (⟨0,0⟩:Lse) p.zs (Cc (Ed e))).count-1>0))<;>rfl
  have ew:p'.ws=Gh p.ws e.id:=by subst L;unfold Fm;cases e.given<;>simp only[cond_true,cond_false];cases(decide ((B1 (⟨0,0⟩:Lse) p.zs (Cc (Ed e))).count-1>0))<;>rfl
  have F:p'.es=A++B:=by subst L;unfold Fm;cases e.given<;>simp only[cond_true,cond_false];cases(decide ((B1 (⟨0,0⟩:Lse) p.zs (Cc (Ed e))).count-1>0))<;>rfl
  have em:p'.ms=p.ms:=by subst L;unfold Fm;cases e.given<;>simp only[cond_true,cond_false];cases(decide ((B1 (⟨0,0⟩:Lse) p.zs (Cc (Ed e))).count-1>0))<;>rfl
  have Z:p'.lst=p.lst:=by subst L;unfold Fm;cases e.given<;>simp only[cond_true,cond_false];cases(decide ((B1 (⟨0,0⟩:Lse) p.zs (Cc (Ed e))).count-1>0))<;>rfl
  have U:p'.zs=bif e.given then(bif decide ((B1 (⟨0,0⟩:Lse) p.zs (Cc (Ed e))).count-1>0)then Dv Cu k.mo p.zs (Cc (Ed e)) (⟨(B1 (⟨0,0⟩:Lse) p.zs (Cc (Ed e))).ext,(B1 (⟨0,0⟩:Lse) p.zs (Cc (Ed e))).count-1⟩:Lse)else Di p.zs (Cc (Ed e)))else p.zs:=by
    subst L;unfold Fm;cases e.given<;>simp only[cond_true,cond_false];cases(decide ((B1 (⟨0,0⟩:Lse) p.zs (Cc (Ed e))).count-1>0))<;>rfl
  have n: ∀x,x∈A++B→x∈p.es:=fun x d=>by rw[D];exact Cr.2 (.inr d)
  have N:(b,e)∈p.es:=by rw[D];exact Cr.2 (.inl rfl)
  refine⟨⟨ex.trans (by rw[F]),?_,?_,?_,?_,?_,?_,?_,?_⟩,F,em,Z⟩
  · intro i f
    rw[ey,F,H5,h.ids]
    constructor
    · rintro⟨⟨x,d,g,q⟩,E⟩
      rw[D]at d
      rcases Cr.1 d with rfl|d
      · exact absurd g.symm E
      · exact⟨x,d,g,q⟩
    · rintro⟨x,d,g,q⟩
      exact⟨⟨x,n x d,g,q⟩,by rw[←g];exact M x d⟩
  · rw[F]
    have g:(((b,e)::(A++B)).map fun x=>x.2.id).Nodup:=(List.perm_middle.map _).nodup_iff.1 u
    exact(List.nodup_cons.1 g).2
  · rw[Z,F];exact⟨h.lst.1,fun x d=>h.lst.2 x (n x d)⟩
  · intro i t
    rw[ew,F,Rx hw,h.whl]
    constructor
    · rintro⟨⟨x,d,g,q,E⟩,G⟩
      rw[D]at d
      rcases Cr.1 d with rfl|d
      · exact absurd g.symm G
      · exact⟨x,d,g,q,by simp⟩
    · rintro⟨x,d,g,q,_⟩
      refine⟨⟨x,n x d,g,q,?_⟩,by show i≠e.id;rw[←g];exact M x d⟩
      rcases ho with ho|ho
      · rw[ho];simp
      · rw[ho];intro P;exact M x d (by rw[g];exact(Option.some.inj P).symm)
  · --the leases
    intro t l c
    rw[U]at c;rw[F]
    have j:H0 t p.es=H0 t (A++B)+(bif Pj t (b,e)then 1 else 0):=by rw[D];exact Jx t A B (b,e)
    cases r:e.given with
    |false=>
      rw[r]at c
      have w:Pj t (b,e)=false:=by unfold Pj;simp[r]
      rw[w]at j
      obtain⟨g,q,E,G⟩:=h.lse t l c
      simp only[cond_false]at j
      exact⟨by omega,q,E,fun x d=>G x<|n x d⟩
    |true=>
      rw[r]at c
      have I:Bq p.zs (Cc (Ed e))=true:=h.lsi (b,e) N r
      have Q:=Fj (v0:=(⟨0,0⟩:Lse)) I
      obtain⟨g1,g2,g3,g4⟩:=h.lse _ _ Q
      have V:H0 (Cc (Ed e)) p.es=H0 (Cc (Ed e)) (A++B)+1:=by
        have:=Jx (Cc (Ed e)) A B (b,e);rw[←D]at this
        rw[this,(Eg (t:=Cc (Ed e)) (x:=(b,e))).2 ⟨r,rfl⟩];rfl
      simp only[cond_true]at c
      cases hc:decide ((B1 (⟨0,0⟩:Lse) p.zs (Cc (Ed e))).count-1>0)with
      |true=>
        rw[hc]at c
        simp only[cond_true]at c
        unfold Dv at c;rw[I]at c
        simp only[cond_true]at c
        rcases(Dp S).1 c with c|⟨c,C⟩
        · obtain⟨rfl,rfl⟩:=Prod.mk.inj c
          have:=of_decide_eq_true hc
          exact⟨by simp only;omega,by simp only;omega,g3,fun x d=>g4 x<|n x d⟩
        · obtain⟨g,q,E,G⟩:=h.lse t l c
          have w:Pj t (b,e)=false:=by
            cases P:Pj t (b,e)with
            |false=>rfl
            |true=>exact absurd (Eg.1 P).2.symm C
          rw[w]at j;simp only[cond_false]at j
          exact⟨by omega,q,E,fun x d=>G x<|n x d⟩
      |false=>
        rw[hc]at c
        simp only[cond_false]at c
        obtain⟨c,C⟩:=H5.1 c
        obtain⟨g,q,E,G⟩:=h.lse t l c
        have w:Pj t (b,e)=false:=by
          cases P:Pj t (b,e)with
          |false=>rfl
          |true=>exact absurd (Eg.1 P).2.symm C
        rw[w]at j;simp only[cond_false]at j
        exact⟨by omega,q,E,fun x d=>G x<|n x d⟩
  · --who is given its port has a lease
    intro x d R
    rw[F]at d;rw[U]
    have g:=h.lsi x (n x d) R
    cases r:e.given with
    |false=>exact g
    |true=>
      have I:Bq p.zs (Cc (Ed e))=true:=h.lsi (b,e) N r
      have Q:=Fj (v0:=(⟨0,0⟩:Lse)) I
      obtain⟨g1,g2,g3,g4⟩:=h.lse _ _ Q
      have V:H0 (Cc (Ed e)) p.es=H0 (Cc (Ed e)) (A++B)+1:=by
        have:=Jx (Cc (Ed e)) A B (b,e);rw[←D]at this
        rw[this,(Eg (t:=Cc (Ed e)) (x:=(b,e))).2 ⟨r,rfl⟩];rfl
      simp only[cond_true]
      obtain⟨v,hv⟩:=Ff.1 g
      cases hc:decide ((B1 (⟨0,0⟩:Lse) p.zs (Cc (Ed e))).count-1>0)with
      |true=>
        simp only[cond_true]
        unfold Dv;rw[I]
        simp only[cond_true]
        by_cases H:Cc (Ed x.2)=Cc (Ed e)
        · exact Ff.2 ⟨_,(Dp S).2 (.inl (by rw[H]))⟩
        · exact Ff.2 ⟨v,(Dp S).2 (.inr ⟨hv,H⟩)⟩
      |false=>
        simp only[cond_false]
        have am:=of_decide_eq_false hc
        have h0:H0 (Cc (Ed e)) (A++B)=0:=by omega
        have C:Cc (Ed x.2)≠Cc (Ed e):=fun H=>by
          have:=Aav h0 x d
          rw[Eg.2 ⟨R,H⟩]at this;cases this
        exact Ff.2 ⟨v,H5.2 ⟨hv,C⟩⟩
  · --no port is two ends'
    have J: ∀t l,(t,l)∈p'.zs→ ∃T,(t,T)∈p.zs∧T.ext=l.ext:=fun t l c=>by
      rw[U]at c
      cases r:e.given with
      |false=>rw[r]at c;exact⟨l,c,rfl⟩
      |true=>
        rw[r]at c
        have I:Bq p.zs (Cc (Ed e))=true:=h.lsi (b,e) N r
        have Q:=Fj (v0:=(⟨0,0⟩:Lse)) I
        simp only[cond_true]at c
        cases hc:decide ((B1 (⟨0,0⟩:Lse) p.zs (Cc (Ed e))).count-1>0)with
        |true=>
          rw[hc]at c;simp only[cond_true]at c
          unfold Dv at c;rw[I]at c
          simp only[cond_true]at c
          rcases(Dp S).1 c with c|⟨c,_⟩
          · obtain⟨rfl,rfl⟩:=Prod.mk.inj c;exact⟨_,Q,rfl⟩
          · exact⟨l,c,rfl⟩
        |false=>rw[hc]at c;exact⟨l,(H5.1 c).1,rfl⟩
    intro t l t' T g q E G
    obtain⟨a,ha,ea⟩:=J t l g
    obtain⟨a',X,Y⟩:=J t' T q
    exact h.inj t a t' a' ha X E<|by rw[ea,Y,G]
  · rw[F];exact fun x d=>h.rng x (n x d)
end
theorem Md{α:Type} [DecidableEq α]: ∀{l l':List α},l.Nodup→(∀x∈l,x∈l')→l.length≤l'.length
  | [],_,_,_=>Nat.zero_le _
  |x::l,l',hn,hs=>by
    have c:=List.nodup_cons.1 hn
    have d:=hs x (List.mem_cons_self ..)
    have g:l.length≤(l'.erase x).length:=Md c.2 fun y f=>(List.mem_erase_of_ne (fun e=>c.1 (by rw[←e];exact f))).2 (hs y (List.mem_cons_of_mem _ f))
    have h:=List.length_erase_of_mem d
    have i:=List.length_pos_of_mem d
    simp only[List.length_cons];omega
theorem Th{K V:Type} [DecidableEq K]{o:LO K}{xs:List (K×V)}(h:Gj o xs):(xs.map Prod.fst).Nodup:=by
  unfold List.Nodup
  rw[List.pairwise_map]
  exact h.imp fun c=>o.ne c
section
variable {k:NK}{p p':NP}{o:Option Int}{A B:List (Nat×SesE)}{b:Nat}{e e':SesE}{now:Int}{out:Bool}
theorem InvA.xln(h:InvA k p o):p.xs.length=p.es.length:=by rw[h.tie,List.length_map]
theorem InvA.yln(h:InvA k p o)(d:Gj LO.int p.ys):p.ys.length≤p.es.length:=by
  have c:=Md (l':=p.es.map fun x=>x.2.id) (Th d) (fun i f=>by
    obtain⟨q,g,rfl⟩:=List.mem_map.1 f
    obtain⟨x,j,c,_⟩:=(h.ids q.1 q.2).1 g
    exact List.mem_map.2 ⟨x,j,c⟩)
  simpa using c
theorem InvA.wln(h:InvA k p o)(hw:OkS p.ws):p.ws.length≤p.es.length:=by
  have c:=Md (l':=p.es.map fun x=>x.2.id) hw.nd (fun i d=>by
    unfold C6 at d
    obtain⟨q,f,rfl⟩:=List.mem_map.1 d
    obtain⟨x,g,c,_⟩:=(h.whl q.2 q.1).1 f
    exact List.mem_map.2 ⟨x,g,c⟩)
  rw[G0,List.length_map]at c;exact c
theorem InvA.zln(h:InvA k p o)(d:Gj Cu p.zs):p.zs.length≤p.es.length:=by
  have c:=Md (l':=p.es.map fun x=>Cc (Ed x.2)) (Th d) (fun t f=>by
    obtain⟨q,g,rfl⟩:=List.mem_map.1 f
    obtain⟨c,l,_⟩:=h.lse q.1 q.2 g
    obtain⟨x,i,j⟩:=Lv (t:=q.1) (es:=p.es) Ae
    exact List.mem_map.2 ⟨x,i,(Eg.1 j).2⟩)
  simpa using c
theorem RenE.fl(c:RenE e now out e'):Ed e'=Ed e:=by unfold Ed;rw[c.pr,c.src,c.dst,c.frm,c.dto]
theorem RenE.gv(c:RenE e now out e')(t:Ix):Pj t (b,e')=Pj t (b,e):=by unfold Pj;simp only[c.given,c.fl]
theorem RenE.rng(c:RenE e now out e')(h:RngE e):RngE e':=⟨by rw[c.pr];exact h.pr,by rw[c.src];exact h.src,by rw[c.dst];exact h.dst,by rw[c.frm];exact h.frm,by rw[c.dto];exact h.dto,by rw[c.ext];exact h.ext⟩
theorem InvA.renew(h:InvA k p o)(hw:OkS p.ws)(u:p.es=A++(b,e)::B)(ho:o=none∨o=some e.id)(g:RenE e now out e'):InvA k {p with ws:=Kz p.ws e.id e'.ends,es:=A++(b,e')::B} none:=by
  have n:=h.idn;rw[u]at n
  have E:=Sa n
  have q: ∀x,x∈A++B→x∈p.es:=fun x c=>by rw[u];exact Cr.2 (.inr c)
  have r:(b,e)∈p.es:=by rw[u];exact Cr.2 (.inl rfl)
  have hc: ∀t,H0 t (A++(b,e')::B)=H0 t p.es:=fun t=>by rw[u,Jx,Jx,g.gv]
  refine⟨?_,?_,?_,?_,?_,?_,?_,h.inj,?_⟩
  · show p.xs=_
    rw[h.tie,u,List.map_append,List.map_append,List.map_cons,List.map_cons]
    rw[show P4 (b,e')=P4 (b,e) by unfold P4;rw[g.fl]]
  · intro i f
    show(i,f)∈p.ys↔_
    rw[h.ids,u]
    constructor
    · rintro⟨x,c,d,j⟩
      rcases Cr.1 c with rfl|c
      · exact⟨(b,e'),Cr.2 (.inl rfl),by rw[←d];exact g.id,by rw[←j];exact g.fl⟩
      · exact⟨x,Cr.2 (.inr c),d,j⟩
    · rintro⟨x,c,d,j⟩
      rcases Cr.1 c with rfl|c
      · exact⟨(b,e),Cr.2 (.inl rfl),by rw[←d];exact g.id.symm,by rw[←j];exact g.fl.symm⟩
      · exact⟨x,Cr.2 (.inr c),d,j⟩
  · show((A++(b,e')::B).map fun x=>x.2.id).Nodup
    have:(A++(b,e')::B).map (fun x=>x.2.id)=(A++(b,e)::B).map (fun x=>x.2.id):=by simp only[List.map_append,List.map_cons,g.id]
    rw[this];exact n
  · refine⟨h.lst.1,fun x c=>?_⟩
    rcases Cr.1 c with rfl|c
    · show 0≤e'.id∧e'.id<p.lst;rw[g.id];exact h.lst.2 _ r
    · exact h.lst.2 x (q x c)
  · intro i t
    show(t,i)∈Kz p.ws e.id e'.ends↔_
    rw[Acl hw,h.whl,u]
    constructor
    · rintro(d|⟨⟨x,c,d,j,F⟩,D⟩)
      · obtain⟨rfl,rfl⟩:=Prod.mk.inj d
        exact⟨(b,e'),Cr.2<|.inl rfl,g.id,rfl,by simp⟩
      · rcases Cr.1 c with rfl|c
        · exact absurd d.symm D
        · exact⟨x,Cr.2 (.inr c),d,j,by simp⟩
    · rintro⟨x,c,d,j,_⟩
      rcases Cr.1 c with rfl|c
      · left;rw[←d,←j];show(e'.ends,e'.id)=_;rw[g.id]
      · right
        have C:i≠e.id:=by rw[←d];exact E x c
        refine⟨⟨x,Cr.2<|.inr c,d,j,?_⟩,C⟩
        rcases ho with ho|ho
        · rw[ho];simp
        · rw[ho];intro G;exact C (Option.some.inj G).symm
  · intro t l H
    obtain⟨d,j,F,D⟩:=h.lse t l H
    refine⟨by rw[hc];exact d,j,F,fun x c w=>?_⟩
    rcases Cr.1 c with rfl|c
    · rw[g.gv]at w;show e'.ext=l.ext;rw[g.ext];exact D _ r w
    · exact D x (q x c) w
  · intro x c w
    rcases Cr.1 c with rfl|c
    · show Bq p.zs (Cc (Ed e'))=true
      rw[g.fl];exact h.lsi (b,e) r (by rw[←w];exact g.given.symm)
    · exact h.lsi x (q x c) w
  · intro x c
    rcases Cr.1 c with rfl|c
    · exact g.rng (h.rng _ r)
    · exact h.rng x (q x c)
end
def fwQ(a b:Int)(w:Conf.Fwd):Bool:=(w.proto==a)&&(w.port==b)
theorem Sb(xs:List Conf.Fwd)(a b:Int):Conf.find (fun k=>xs.getD k fz) a b xs.length=((xs.find? (fwQ a b)).getD fz,(xs.find? (fwQ a b)).isSome):=by
  cases h:xs.find? (fwQ a b)with
  |none=>
    rw[List.find?_eq_none]at h
    rw[Conf.find_none _ _ _ _ (fun i c=>by
      have:=h (xs.getD i fz) (by rw[List.getD_eq_getElem?_getD,List.getElem?_eq_getElem c];exact List.getElem_mem c)
      show fwQ a b (xs.getD i fz)=false
      simpa using this)]
    rfl
  |some w=>
    obtain⟨hw,i,c,rfl,f⟩:=List.find?_eq_some_iff_getElem.1 h
    have g: ∀j (d:j<xs.length),xs.getD j fz=xs[j]:=fun j d=>by rw[List.getD_eq_getElem?_getD,List.getElem?_eq_getElem d];rfl
    rw[Conf.find_some _ _ _ _ i c (fun j d=>by
      show fwQ a b (xs.getD j fz)=false
      rw[g j Ae];simpa using f j d) (by show fwQ a b (xs.getD i fz)=true;rw[g i c];exact hw)]
    simp only[g i c];rfl
theorem Aea(xs:List Conf.Fwd)(a b:Int):Eb xs a b=(xs.find? (fwQ a b)).isSome:=by unfold Eb;rw[Sb]
theorem Aih(xs:List Conf.Fwd)(a b:Int):C0 xs a b=(xs.find? (fwQ a b)).getD fz:=by unfold C0;rw[Sb]
theorem Al0{xs:List Conf.Fwd}{a b:Int}(h:Eb xs a b=false): ∀w∈xs,¬(w.proto=a∧w.port=b):=fun w hw c=>by
  rw[Aea,Option.isSome_eq_false_iff,Option.isNone_iff_eq_none,List.find?_eq_none]at h
  exact h w hw<|by unfold fwQ;simp[c.1,c.2]
theorem Zs{xs:List Conf.Fwd}{a b:Int}(h:Eb xs a b=true):C0 xs a b∈xs∧(C0 xs a b).proto=a∧(C0 xs a b).port=b:=by
  rw[Aea]at h
  obtain⟨w,hw⟩:=Option.isSome_iff_exists.1 h
  have c:=List.find?_some hw
  have d:=List.mem_of_find?_eq_some hw
  rw[Aih,hw]
  unfold fwQ at c
  simp only[Bool.and_eq_true,beq_iff_eq]at c
  exact⟨d,c.1,c.2⟩
def FxU(fx:List Conf.Fwd):Prop:= ∀w∈fx,Eb fx w.proto w.port=true∧C0 fx w.proto w.port=w
theorem Al1{ms:List Mpg}{fx:List Conf.Fwd}{a b:Int}(h:Ma ms fx a b=false):(∀w∈fx,¬(w.proto=a∧w.port=b))∧ ∀m∈ms,¬(m.proto=a∧m.ext=b):=by
  unfold Ma at h
  rw[Bool.or_eq_false_iff]at h
  refine⟨Al0 h.1,fun m d c=>?_⟩
  have:=List.any_eq_false.1 h.2 m d
  unfold Wx at this
  simp[c.1,c.2]at this
theorem Ti{P Q:List (Int×Int)}(h: ∀x,x∈P↔x∈Q):Em P=Em Q:=by
  funext p q
  unfold Em
  congr 1
  rw[Bool.eq_iff_iff,List.any_eq_true,List.any_eq_true]
  exact⟨fun⟨x,c,d⟩=>⟨x,(h x).1 c,d⟩,fun⟨x,c,d⟩=>⟨x,(h x).2 c,d⟩⟩
theorem Aeb{P Q:List (Int×Int)}{p q:Nat}(h: ∀x,x∈Q↔x∈P∧x≠(((p:Nat):Int),(q:Int))):F8 (Em P) p (gvT (Em P p) q)=Em Q:=by
  funext r t
  have g:Em Q r t=(Em P r t&& !(decide (r=p)&&decide (t=q))):=by
    unfold Em
    rw[Bool.eq_iff_iff]
    simp only[Bool.and_eq_true,List.any_eq_true,Bool.not_eq_true',Bool.and_eq_false_iff,decide_eq_false_iff_not,decide_eq_true_eq,beq_iff_eq]
    constructor
    · rintro⟨i,x,j,c,d⟩
      obtain⟨l,n⟩:=(h x).1 j
      refine⟨⟨i,x,l,c,d⟩,?_⟩
      by_cases e:r=p
      · right;intro w;exact n (by rw[←e,←w,←c,←d])
      · exact .inl e
    · rintro⟨⟨i,x,j,c,d⟩,u⟩
      refine⟨i,x,(h x).2 ⟨j,fun e=>?_⟩,c,d⟩
      rw[e]at c d
      simp only at c d
      rcases u with u|u<;>omega
  rw[g]
  by_cases e:r=p
  · subst e
    rw[G2]
    unfold gvT
    cases C:Em P r q with
    |true=>
      simp only[cond_true]
      by_cases f:t=q
      · subst f;rw[L7];simp
      · rw[Im _ _ f];simp[f]
    |false=>
      simp only[cond_false]
      by_cases f:t=q
      · subst f;rw[C];rfl
      · simp[f]
  · rw[El _ _ e];simp[e]
structure InvB(k:NK)(p:NP):Prop where
  rul: ∀x∈p.es,Mb p.ms k.fx x.2=true
  tks:p.TT=Em (F3 k.fx++H6 p.ms++Mm p.zs)
section
variable {k:NK}{p p':NP}{o:Option Int}{A B:List (Nat×SesE)}{b:Nat}{e e':SesE}{now:Int}{out:Bool}
theorem RenE.ho(c:RenE e now out e')(ms:List Mpg)(fx:List Conf.Fwd):Mb ms fx e'=Mb ms fx e:=by
  have d:hoM e'=hoM e:=by funext m;unfold hoM;rw[c.pr,c.ext,c.src,c.frm,c.dst]
  unfold Mb;rw[d,c.given,c.pr,c.ext,c.src,c.frm]
theorem InvB.renew(h:InvB k p)(d:p.es=A++(b,e)::B)(f:RenE e now out e'):InvB k {p with ws:=Kz p.ws e.id e'.ends,es:=A++(b,e')::B}:=by
  refine⟨fun x c=>?_,h.tks⟩
  rcases Cr.1 c with rfl|c
  · show Mb p.ms k.fx e'=true
    rw[f.ho];exact h.rul (b,e) (by rw[d];exact Cr.2 (.inl rfl))
  · exact h.rul x (by rw[d];exact Cr.2 (.inr c))
theorem G8{zs:List (Ix×Lse)}{x:Int×Int}:x∈Mm zs↔ ∃t l,(t,l)∈zs∧x=(t.1,l.ext):=by
  unfold Mm;rw[List.mem_map]
  exact⟨fun⟨z,c,d⟩=>⟨z.1,z.2,c,d.symm⟩,fun⟨t,l,c,d⟩=>⟨(t,l),c,d.symm⟩⟩
theorem InvB.dropI(r:InvB k p)(h:InvA k p o)(u:Gj Cu p.zs)(I:p.es=A++(b,e)::B){pb:Nat}(n:p'=Fm k {p with es:=A++B} e pb):InvB k p':=by
  have i:(b,e)∈p.es:=by rw[I];exact Cr.2 (.inl rfl)
  have N:p'.es=A++B:=by subst n;unfold Fm;cases e.given<;>simp only[cond_true,cond_false];cases(decide ((B1 (⟨0,0⟩:Lse) p.zs (Cc (Ed e))).count-1>0))<;>rfl
  have J:p'.ms=p.ms:=by subst n;unfold Fm;cases e.given<;>simp only[cond_true,cond_false];cases(decide ((B1 (⟨0,0⟩:Lse) p.zs (Cc (Ed e))).count-1>0))<;>rfl
  refine⟨fun x c=>by rw[N]at c;rw[J];exact r.rul x (by rw[I];exact Cr.2 (.inr c)),?_⟩
  rw[J]
  cases j:e.given with
  |false=>
    have f:p'.zs=p.zs:=by subst n;unfold Fm;rw[j];rfl
    have g:p'.TT=p.TT:=by subst n;unfold Fm;rw[j];rfl
    rw[f,g];exact r.tks
  |true=>
    have L:Bq p.zs (Cc (Ed e))=true:=h.lsi (b,e) i j
    have E:=Fj (v0:=(⟨0,0⟩:Lse)) L
    obtain⟨S,T,O,P⟩:=h.lse _ _ E
    have F:Ma p.ms k.fx e.pr (B1 (⟨0,0⟩:Lse) p.zs (Cc (Ed e))).ext=false:=by
      have C:=r.rul _ i
      unfold Mb at C;simp only[j,cond_true]at C
      have G:=P (b,e) i ((Eg (t:=Cc (Ed e)) (x:=(b,e))).2 ⟨j,rfl⟩)
      rw[←G];simpa using C
    cases hc:decide ((B1 (⟨0,0⟩:Lse) p.zs (Cc (Ed e))).count-1>0)with
    |true=>
      have f:p'.zs=Jo Cu p.zs (Cc (Ed e)) (⟨(B1 (⟨0,0⟩:Lse) p.zs (Cc (Ed e))).ext,(B1 (⟨0,0⟩:Lse) p.zs (Cc (Ed e))).count-1⟩:Lse):=by subst n;unfold Fm;rw[j];simp only[cond_true];rw[hc];show Dv _ _ _ _ _=_;unfold Dv;rw[L];rfl
      have g:p'.TT=p.TT:=by subst n;unfold Fm;rw[j];simp only[cond_true];rw[hc];rfl
      rw[g,r.tks]
      refine Ti fun x=>?_
      simp only[List.mem_append]
      refine or_congr_right ?_
      rw[G8,G8,f]
      constructor
      · rintro⟨t,l,d,rfl⟩
        by_cases g:t=Cc (Ed e)
        · subst g
          have:=Jp (v0:=(⟨0,0⟩:Lse)) u d
          exact⟨_,_,(Dp u).2<|.inl rfl,by rw[this]⟩
        · exact⟨t,l,(Dp u).2 (.inr ⟨d,g⟩),rfl⟩
      · rintro⟨t,l,d,rfl⟩
        rcases(Dp u).1 d with d|⟨d,_⟩
        · obtain⟨rfl,rfl⟩:=Prod.mk.inj d;exact⟨_,_,E,rfl⟩
        · exact⟨t,l,d,rfl⟩
    |false=>
      have f:p'.zs=Di p.zs (Cc (Ed e)):=by subst n;unfold Fm;rw[j];simp only[cond_true];rw[hc];rfl
      have g:p'.TT=F8 p.TT e.pr.toNat (gvT (p.TT e.pr.toNat) (B1 (⟨0,0⟩:Lse) p.zs (Cc (Ed e))).ext.toNat):=by subst n;unfold Fm;rw[j];simp only[cond_true];rw[hc];rfl
      rw[g,r.tks]
      refine Aeb fun x=>?_
      have H:=(h.rng _ i).pr
      have Q:(e.pr.toNat:Int)=e.pr:=Int.toNat_of_nonneg H.1
      have R:((B1 (⟨0,0⟩:Lse) p.zs (Cc (Ed e))).ext.toNat:Int)=(B1 (⟨0,0⟩:Lse) p.zs (Cc (Ed e))).ext:=Int.toNat_of_nonneg O.1
      rw[Q,R,List.mem_append,List.mem_append,List.mem_append,List.mem_append]
      have M:=Al1 F
      constructor
      · rintro((c|c)|c)
        · refine⟨.inl (.inl c),fun D=>?_⟩
          unfold F3 at c;obtain⟨w,hw,rfl⟩:=List.mem_map.1 c
          exact M.1 w hw<|Prod.mk.inj D
        · refine⟨.inl (.inr c),fun D=>?_⟩
          unfold H6 at c;obtain⟨w,hw,rfl⟩:=List.mem_map.1 c
          exact M.2 w hw<|Prod.mk.inj D
        · obtain⟨t,l,d,rfl⟩:=G8.1 c
          rw[f]at d
          obtain⟨d,q⟩:=H5.1 d
          refine⟨.inr<|G8.2 ⟨t,l,d,rfl⟩,fun D=>?_⟩
          obtain⟨C,G⟩:=Prod.mk.inj D
          exact q<|h.inj _ _ _ _ d E C G
      · rintro⟨(c|c)|c,q⟩
        · exact .inl (.inl c)
        · exact .inl (.inr c)
        · obtain⟨t,l,d,rfl⟩:=G8.1 c
          refine .inr<|G8.2 ⟨t,l,?_,rfl⟩
          rw[f]
          refine H5.2 ⟨d,fun g=>q ?_⟩
          simp only at g;subst g
          have:=Jp (v0:=(⟨0,0⟩:Lse)) u d
          rw[this];rfl
end
theorem Aaw(a b:Int)(c:0≤a+b)(d:a+b≤18446744073709551615):D2 .u64 a b=a+b:=Co c Ae
def Sc(k:NK)(p:NP)(f:Ci)(ext:Int)(gv:Bool)(xb pb:Nat):NP:={Ov k p f ext gv xb pb with es:=p.es.take (Bk ordF p.xs f)++(xb,Ls f ext p.lst gv)::p.es.drop (Bk ordF p.xs f)}
section
variable {k:NK}{p:NP}{f:Ci}{ext:Int}{gv:Bool}{xb pb:Nat}
theorem N4{K V:Type} [DecidableEq K]{o:LO K}{xs:List (K×V)}{c:K}{v:V}{g:Int}(d:Bq xs c=false)(h:(xs.length:Int)<g):Dv o g xs c v=Jo o xs c v:=by
  unfold Dv;rw[d,decide_eq_false Ae];rfl
theorem InvA.fresh(h:InvA k p none):Bq p.ys p.lst=false:=by
  rw[Ik]
  intro q c e
  obtain⟨x,d,g,_⟩:=(h.ids q.1 q.2).1 c
  have:=(h.lst.2 x d).2
  omega
theorem InvA.add(h:InvA k p none)(c:Gj ordF p.xs)(hy:Gj LO.int p.ys)(L:Gj Cu p.zs)(S:Bq p.xs f=false)(M:(p.xs.length:Int)<k.mo)(an:p.lst+1≤18446744073709551615)
    (V:gv=true→(∀l,(Cc f,l)∈p.zs→l.ext=ext)∧(∀t l,(t,l)∈p.zs→t≠Cc f→t.1=f.1→l.ext≠ext)) (hr:RngE (Ls f ext p.lst gv)):
    InvA k (Sc k p f ext gv xb pb) (some p.lst)∧(Sc k p f ext gv xb pb).ms=p.ms∧(Sc k p f ext gv xb pb).lst=p.lst+1:=by
  obtain⟨i,hi⟩: ∃i,i=Bk ordF p.xs f:=⟨_,rfl⟩
  obtain⟨E,N⟩: ∃E,E=Ls f ext p.lst gv:=⟨_,rfl⟩
  have w:(Sc k p f ext gv xb pb).es=p.es.take i++(xb,E)::p.es.drop i:=by rw[hi,N];rfl
  have D:Ed E=f:=by rw[N];rfl
  have F:E.id=p.lst:=by rw[N];rfl
  have O:E.given=gv:=by rw[N];rfl
  have J:(Sc k p f ext gv xb pb).lst=p.lst+1:=by
    show D2 .u64 p.lst 1=_
    have:=h.lst.1
    exact Aaw p.lst 1 Ae Ae
  have d: ∀x,x∈p.es.take i++(xb,E)::p.es.drop i↔x=(xb,E)∨x∈p.es:=fun x=>by rw[Cr,List.take_append_drop]
  have T: ∀t,H0 t (p.es.take i++(xb,E)::p.es.drop i)=H0 t p.es+(bif Pj t (xb,E)then 1 else 0):=fun t=>by rw[Jx,List.take_append_drop]
  have Y:(Sc k p f ext gv xb pb).xs=(p.es.take i++(xb,E)::p.es.drop i).map P4:=by
    show Dv ordF k.mo p.xs f (some xb)=_
    rw[N4 S M,L6 S,List.map_append,List.map_cons,List.map_take,List.map_drop,←h.tie,←hi,N]
    rfl
  have ai:=h.xln
  have ao:=h.yln hy
  have Z:(Sc k p f ext gv xb pb).ys=Jo LO.int p.ys p.lst f:=by
    show Dv LO.int k.mo p.ys p.lst f=_
    exact N4 h.fresh Ae
  have P:(Sc k p f ext gv xb pb).zs=bif gv then Dv Cu k.mo p.zs (Cc f) (⟨ext,(B1 (⟨0,0⟩:Lse) p.zs (Cc f)).count+1⟩:Lse)else p.zs:=rfl
  have ap:=h.zln L
  have Q: ∀l,Dv Cu k.mo p.zs (Cc f) l=Jo Cu p.zs (Cc f) l:=fun l=>by
    cases C:Bq p.zs (Cc f)with
    |true=>unfold Dv;rw[C];rfl
    |false=>exact N4 C Ae
  have aa:gv=true→(B1 (⟨0,0⟩:Lse) p.zs (Cc f)).count=(H0 (Cc f) p.es:Int):=fun r=>by
    cases C:Bq p.zs (Cc f)with
    |true=>exact(h.lse _ _ (Fj C)).1
    |false=>
      rw[Hy C]
      have:H0 (Cc f) p.es=0:=by
        unfold H0;rw[List.countP_eq_zero]
        intro x c V
        obtain⟨n,q⟩:=Eg.1 V
        have:=h.lsi x c n
        rw[q,C]at this;cases this
      rw[this];rfl
  refine⟨⟨?_,?_,?_,?_,?_,?_,?_,?_,?_⟩,rfl,J⟩
  · rw[Y,w]
  · intro j g
    rw[Z,w,Dp hy,h.ids]
    constructor
    · rintro(n|⟨⟨x,c,n,q⟩,_⟩)
      · obtain⟨rfl,rfl⟩:=Prod.mk.inj n
        exact⟨(xb,E),(d _).2<|.inl rfl,F,D⟩
      · exact⟨x,(d _).2 (.inr c),n,q⟩
    · rintro⟨x,c,n,q⟩
      rcases(d _).1 c with rfl|c
      · left;rw[←n,←q];show(E.id,Ed E)=_;rw[F,D]
      · exact .inr ⟨⟨x,c,n,q⟩,by show j≠p.lst;have:=(h.lst.2 x c).2;omega⟩
  · rw[w]
    refine(List.perm_middle.map _).nodup_iff.2 ?_
    rw[List.take_append_drop,List.map_cons,List.nodup_cons]
    refine⟨fun X=>?_,h.idn⟩
    obtain⟨x,c,C⟩:=List.mem_map.1 X
    have:=(h.lst.2 x c).2
    simp only[F]at C
    omega
  · rw[J,w]
    have:=h.lst.1
    refine⟨by omega,fun x c=>?_⟩
    rcases(d _).1 c with rfl|c
    · show 0≤E.id∧E.id<p.lst+1;rw[F];omega
    · have:=h.lst.2 x c;omega
  · intro j t
    show(t,j)∈p.ws↔_
    rw[w,h.whl]
    constructor
    · rintro⟨x,c,n,q,_⟩
      refine⟨x,(d _).2<|.inr c,n,q,fun C=>?_⟩
      have:=(h.lst.2 x c).2;have:=Option.some.inj C;omega
    · rintro⟨x,c,n,q,H⟩
      rcases(d _).1 c with rfl|c
      · exact absurd (by rw[←n];exact congrArg some F.symm) H
      · exact⟨x,c,n,q,by simp⟩
  · intro t l G
    rw[P]at G;rw[w,T]
    cases r:gv with
    |false=>
      rw[r]at G
      have U:Pj t (xb,E)=false:=by unfold Pj;simp[O,r]
      rw[U]
      obtain⟨n,q,H,R⟩:=h.lse t l G
      refine⟨by simpa using n,q,H,fun x c u=>?_⟩
      rcases(d _).1 c with rfl|c
      · rw[U]at u;cases u
      · exact R x c u
    |true=>
      rw[r]at G
      obtain⟨g1,g2⟩:=V r
      simp only[cond_true]at G
      rw[Q]at G
      rcases(Dp L).1 G with G|⟨G,ad⟩
      · obtain⟨rfl,rfl⟩:=Prod.mk.inj G
        have ht:Pj (Cc f) (xb,E)=true:=Eg.2 ⟨by rw[O,r],by rw[D]⟩
        rw[ht]
        have ae:=hr.ext
        have:=aa r
        refine⟨by simp only[cond_true];omega,by simp only;omega,ae,fun x c u=>?_⟩
        rcases(d _).1 c with rfl|c
        · rw[N];rfl
        · cases C:Bq p.zs (Cc f)with
          |true=>
            have X:=Fj (v0:=(⟨0,0⟩:Lse)) C
            show x.2.ext=ext
            rw[(h.lse _ _ X).2.2.2 x c u];exact g1 _ X
          |false=>
            obtain⟨n,q⟩:=Eg.1 u
            have:=h.lsi x c n
            rw[q,C]at this;cases this
      · have U:Pj t (xb,E)=false:=by
          cases C:Pj t (xb,E)with
          |false=>rfl
          |true=>exact absurd ((Eg.1 C).2.symm.trans (by rw[D])) ad
        rw[U]
        obtain⟨n,q,H,R⟩:=h.lse t l G
        refine⟨by simpa using n,q,H,fun x c u=>?_⟩
        rcases(d _).1 c with rfl|c
        · rw[U]at u;cases u
        · exact R x c u
  · intro x c I
    rw[w]at c;rw[P]
    cases r:gv with
    |false=>
      rcases(d _).1 c with rfl|c
      · simp only[O,r]at I;cases I
      · exact h.lsi x c I
    |true=>
      simp only[cond_true];rw[Q]
      rcases(d _).1 c with rfl|c
      · exact Ff.2 ⟨_,(Dp L).2 (.inl (by show(Cc (Ed E),_)=_;rw[D]))⟩
      · obtain⟨v,hv⟩:=Ff.1 (h.lsi x c I)
        by_cases he:Cc (Ed x.2)=Cc f
        · exact Ff.2 ⟨_,(Dp L).2 (.inl (by rw[he]))⟩
        · exact Ff.2 ⟨v,(Dp L).2 (.inr ⟨hv,he⟩)⟩
  · rw[P]
    cases r:gv with
    |false=>exact h.inj
    |true=>
      obtain⟨g1,g2⟩:=V r
      simp only[cond_true];rw[Q]
      intro t l t' l' n q H R
      rcases(Dp L).1 n with n|⟨n,n1⟩<;>rcases(Dp L).1 q with q|⟨q,n2⟩
      · rw[(Prod.mk.inj n).1,(Prod.mk.inj q).1]
      · obtain⟨rfl,rfl⟩:=Prod.mk.inj n
        exact absurd R.symm<|g2 t' l' q n2 H.symm
      · obtain⟨rfl,rfl⟩:=Prod.mk.inj q
        exact absurd R<|g2 t l n n1 H
      · exact h.inj t l t' l' n q H R
  · rw[w]
    intro x c
    rcases(d _).1 c with rfl|c
    · rw[N];exact hr
    · exact h.rng x c
theorem InvB.add(i:InvB k p)(h:InvA k p none)(g:Gj Cu p.zs)(j:(p.xs.length:Int)<k.mo)(D:gv=true→(∀l,(Cc f,l)∈p.zs→l.ext=ext))(r:RngE (Ls f ext p.lst gv))(ho:Mb p.ms k.fx (Ls f ext p.lst gv)=true):
    InvB k (Sc k p f ext gv xb pb):=by
  refine⟨fun x c=>?_,?_⟩
  · rcases Cr.1 c with rfl|c
    · exact ho
    · rw[List.take_append_drop]at c;exact i.rul x c
  · cases n:gv with
    |false=>exact i.tks
    |true=>
      have u:=h.xln
      have E:=h.zln g
      have q: ∀l,Dv Cu k.mo p.zs (Cc f) l=Jo Cu p.zs (Cc f) l:=fun l=>by
        cases w:Bq p.zs (Cc f)with
        |true=>unfold Dv;rw[w];rfl
        |false=>exact N4 w Ae
      show F8 p.TT f.1.toNat (Pw (p.TT f.1.toNat) ext.toNat)=Em (F3 k.fx++H6 p.ms++Mm (Dv Cu k.mo p.zs (Cc f) (⟨ext,(B1 (⟨0,0⟩:Lse) p.zs (Cc f)).count+1⟩:Lse)))
      rw[i.tks,N3,q]
      refine Ti fun x=>?_
      have F:(f.1.toNat:Int)=f.1:=Int.toNat_of_nonneg r.pr.1
      have G:(ext.toNat:Int)=ext:=Int.toNat_of_nonneg r.ext.1
      rw[F,G]
      simp only[List.mem_append,List.mem_singleton,G8]
      constructor
      · rintro((c|⟨t,l,d,rfl⟩)|rfl)
        · exact .inl c
        · right
          by_cases C:t=Cc f
          · subst C;exact⟨_,_,(Dp g).2 (.inl rfl),by rw[D n l d]⟩
          · exact⟨t,l,(Dp g).2 (.inr ⟨d,C⟩),rfl⟩
        · exact .inr ⟨_,_,(Dp g).2 (.inl rfl),rfl⟩
      · rintro(c|⟨t,l,d,rfl⟩)
        · exact .inl (.inl c)
        · rcases(Dp g).1 d with d|⟨d,_⟩
          · obtain⟨rfl,rfl⟩:=Prod.mk.inj d;exact .inr rfl
          · exact .inl (.inr ⟨t,l,d,rfl⟩)
end
theorem InvA.withMs{k:NK}{p:NP}{o:Option Int}(h:InvA k p o)(ms:List Mpg):InvA k {p with ms:=ms} o:=⟨h.tie,h.ids,h.idn,h.lst,h.whl,h.lse,h.lsi,h.inj,h.rng⟩
theorem InvA.withTk{k:NK}{p:NP}{o:Option Int}(h:InvA k p o)(tk:Nat→Option Nat)(TT:Nat→Nat→Bool):InvA k {p with tk:=tk,TT:=TT} o:=⟨h.tie,h.ids,h.idn,h.lst,h.whl,h.lse,h.lsi,h.inj,h.rng⟩
theorem N5{k:NK}{p:NP}{o:Option Int}(h:InvA k p o)(g:p.es.length≤1000000)(t:Ix):(0≤(B1 (⟨0,0⟩:Lse) p.zs t).count∧(B1 (⟨0,0⟩:Lse) p.zs t).count≤1000000)∧(0≤(B1 (⟨0,0⟩:Lse) p.zs t).ext∧(B1 (⟨0,0⟩:Lse) p.zs t).ext≤65535):=by
  cases c:Bq p.zs t with
  |true=>
    obtain⟨i,j,d,_⟩:=h.lse _ _ (Fj (v0:=(⟨0,0⟩:Lse)) c)
    have:H0 t p.es≤p.es.length:=List.countP_le_length
    exact⟨⟨by omega,by omega⟩,d⟩
  |false=>rw[Hy c];exact⟨⟨by decide,by decide⟩,by decide,by decide⟩
theorem InvA.zrg{k:NK}{p:NP}{o:Option Int}(h:InvA k p o): ∀x∈p.zs,0≤x.1.1∧x.1.1≤255∧0≤x.2.ext∧x.2.ext≤65535:=fun z g=>by
  obtain⟨n,q,c,_⟩:=h.lse z.1 z.2 g
  obtain⟨x,i,j⟩:=Lv (t:=z.1) (es:=p.es) Ae
  have d:=(h.rng x i).pr
  have l:z.1.1=x.2.pr:=by rw[←(Eg.1 j).2];rfl
  rw[l];exact⟨d.1,d.2,c.1,c.2⟩
structure Inv(k:NK)(s:NS):Prop where
  ok:NOk k s
  a:InvA k s.p none
  b:InvB k s.p
  fr:RngF k.fx
  fu:FxU k.fx
  mr:RngM s.p.ms
theorem RngF.rs{fx:List Conf.Fwd}(h:RngF fx): ∀x∈fx,0≤x.proto∧x.proto≤255∧0≤x.port∧x.port≤65535:=fun x c=>by have:=h x c;exact⟨this.1,this.2.1,this.2.2.1,this.2.2.2.1⟩
theorem RngM.rs{ms:List Mpg}(h:RngM ms): ∀x∈ms,0≤x.proto∧x.proto≤255∧0≤x.ext∧x.ext≤65535:=fun x c=>by have:=h x c;exact⟨this.1,this.2.1,this.2.2.1,this.2.2.2.1⟩
theorem Ja{k:NK}{s:NS}{o:Option Int}(ok:NOk k s)(h:InvA k s.p o):s.p.es.length≤50000:=by have:=h.xln;have:=(NOk.len ok).1;omega
theorem NG.split(k:NK)(s:NS):NG k s=((Gr k s).take 12).flatten++s.p.es.map Jv:=by
  have e:Gr k s=(Gr k s).take 12++[s.p.es.map Jv]:=rfl
  show(Gr k s).flatten=_
  conv=>lhs;rw[e]
  rw[List.flatten_append,List.flatten_cons,List.flatten_nil,List.append_nil]
theorem foc_perm{α:Type}{N:List α}{A B R:List α}{x:α}:(N++(A++B)++(x::R)).Perm (N++(A++x::B)++R):=by
  simp only[List.append_assoc]
  refine List.Perm.append_left _<|List.Perm.append_left _ ?_
  rw[List.cons_append]
  exact List.perm_middle
section
variable {w0 w:World}{M:List Nat}{R:List (List Blk)}{k:NK}{s:NS}{A B:List (Nat×SesE)}{b:Nat}{e:SesE}
theorem M3(c:s.p.es=A++(b,e)::B)(h:Mem w0 M (NG k s::R) w):Mem w0 M (NG k (O7 s (A++B))::[Jv (b,e)]::R) w:=by
  refine h.perm ?_
  rw[List.flatten_cons,List.flatten_cons,List.flatten_cons,NG.split,NG.split]
  show((((Gr k s).take 12).flatten++(A++B).map Jv)++([Jv (b,e)]++R.flatten)).Perm _
  rw[c,List.map_append,List.map_append,List.map_cons]
  exact foc_perm
theorem Lw(c:s.p.es=A++B)(h:Mem w0 M (NG k s::[Jv (b,e)]::R) w):Mem w0 M (NG k (O7 s (A++(b,e)::B))::R) w:=by
  refine h.perm ?_
  rw[List.flatten_cons,List.flatten_cons,List.flatten_cons,NG.split,NG.split]
  show((((Gr k s).take 12).flatten++(A++(b,e)::B).map Jv)++R.flatten).Perm _
  rw[c,List.map_append,List.map_append,List.map_cons]
  exact foc_perm.symm
end
theorem F9{k:NK}{s:NS}(ok:NOk k s)(es:List (Nat×SesE)):NOk k (O7 s es):=⟨ok.okm,ok.okf,ok.oks,ok.oki,ok.oke,ok.okw,ok.hmn,ok.hfn,ok.hmo,ok.hxn,ok.hyn,ok.hzn,ok.hwn,ok.hxs,ok.hys,ok.hzs,ok.hws,ok.hz⟩
def stM(s:NS)(g:FS)(ms:List Mpg):NS:={s with gm:=g,p:={s.p with ms:=ms}}
theorem Al2{k:NK}{s:NS}(ok:NOk k s){g:FS}{ms:List Mpg}(c:g.ok 5 ms.length)(d:ms.length≤100000):NOk k (stM s g ms):=⟨c,ok.okf,ok.oks,ok.oki,ok.oke,ok.okw,d,ok.hfn,ok.hmo,ok.hxn,ok.hyn,ok.hzn,ok.hwn,ok.hxs,ok.hys,ok.hzs,ok.hws,ok.hz⟩
theorem Al3{w0 w:World}{M:List Nat}{R:List (List Blk)}{k:NK}{s:NS}{g:FS}{ms:List Mpg}(h:Mem w0 M ((NG k s).set 0 (cb k.nb (C3 k (stM s g ms)) 91)::g.seg 26 (mm Jc ms)::R) w):Mem w0 M (NG k (stM s g ms)::R) w:=by
  have c:(NG k s).set 0 (cb k.nb (C3 k (stM s g ms)) 91)=([[cb k.nb (C3 k (stM s g ms)) 91],s.gm.seg 26 (mm Jc s.p.ms)]++(Gr k s).drop 2).flatten:=by rfl
  have d:Mem w0 M ([[cb k.nb (C3 k (stM s g ms)) 91],s.gm.seg 26 (mm Jc s.p.ms),((Gr k s).drop 2).flatten,g.seg 26 (mm Jc ms),R.flatten]) w:=Mem.flat (by
    rw[List.flatten_cons,c];simp only[List.flatten_append,List.flatten_cons,List.flatten_nil,List.append_nil,List.append_assoc]) h
  have i:=d.pick (LL':=[[cb k.nb (C3 k (stM s g ms)) 91],g.seg 26 (mm Jc ms),((Gr k s).drop 2).flatten,R.flatten]) [0,3,2,4] An rfl
  refine Mem.flat ?_ i
  have j:NG k (stM s g ms)=([[cb k.nb (C3 k (stM s g ms)) 91],g.seg 26 (mm Jc ms)]++(Gr k s).drop 2).flatten:=by rfl
  rw[List.flatten_cons,j,List.flatten_append]
  first|done|simp only[List.flatten_cons,List.flatten_nil,List.append_nil,List.append_assoc]
def Jy(k:NK)(ms:List Mpg)(es:List (Nat×SesE)):List (Nat×SesE):=es.filter fun x=>Mb ms k.fx x.2
theorem Sd{k:NK}{ms:List Mpg}{es:List (Nat×SesE)}{i b:Nat}{e:SesE}(h:es[i]? =some (b,e)):Jy k ms (es.take (i+1))=Jy k ms (es.take i)++(bif Mb ms k.fx e then [(b,e)]else []):=by
  have c:=(List.getElem?_eq_some_iff.1 h)
  unfold Jy
  rw[List.take_add_one,h,List.filter_append]
  congr 1
theorem Aij{es:List (Nat×SesE)}{i b:Nat}{e:SesE}(h:es[i]? =some (b,e)):es.drop i=(b,e)::es.drop (i+1):=by
  obtain⟨c,d⟩:=List.getElem?_eq_some_iff.1 h
  rw[List.drop_eq_getElem_cons c,d]
theorem Aec(ms:List Mpg)(h:Option Addr)(q:Nat)(w:World)(r:At w h (mm Jc ms))(F:ms.length≤100000):Calls prog 37 #[sL h ms.length q] w (Bn w (fun l:FS=>l.ok 5 ms.length) (fun l=>.slice l.a ms.length l.cap) [] (fun l=>[l.seg 26 (mm Jc ms)])):=by
 refine Ap (M:=[]) (LL:=[]) (n:=8) func37 rfl rfl A7 (Mem.refl _)<|Aj []<|W.s<|Av ?_
 refine Ab 1<|Ao (v:=bV h.isNone) (Ys.pure fun _=>by generalize h=a_;cases a_<;>kernel_rfl)<|Ai ?_
 refine Ak (h.isNone) Aa (fun G=>?_) fun N=>?_
 ·refine Aj []<|Am rfl ?_
  have c:ms=[]:=List.length_eq_zero_iff.1 (by have H:=Km r G;rw[We]at H;omega)
  exact D9 rfl (Ar<|sL none 0 0) fun C j=>⟨FS.nul,(by rw[c];exact B6 5),Eo<|(by rw[c];rfl),(Mem.cast (by rw[c];rfl)<|Mem.push j)⟩
 ·refine Ag<|A9<|Av<|Af rfl (Bj (mk:=fun I=>.slice (some ⟨I,0,none⟩) 0 0) (t:=26) (cs:=[]) rfl fun _=>kr) fun J=>?_
  refine Ab 1<|Aw rfl (HtS.append (eu:=26) (xv:=sL h ms.length q) (i:=0) (g:=(FS.mk false J 0 [])) (e:=26) (ii:=(prog.info? 26).getD default) (z:=aV zl4) (sz:=5) (bytes:=16) (nn:=0) (m:=ms.length) (k:=ms.length) (xs:=mm Jc []) (news:=mm Jc ms) (cs':=mm Jc ms) (Lo:=fun d=>[d.seg 26 (mm Jc ms)]) rfl rfl Aa Aa Aa Aa Aa Aa Aa Aa Aa rfl (D4 An) rfl (fun _=>rfl) (Src.at (a:=h) (Ch (g:=Jc) (sz:=5) (fun _=>rfl) _) fun C L=>(r.mem0 L)) (Ch (g:=Jc) (sz:=5) (fun _=>rfl) _) (Gz Ahh _) Ey Ho Ey rfl fun _=>rfl) fun d u=>?_
  obtain⟨x,D,E⟩:=u
  refine Ab 1<|Ai<|Am rfl<|D9 rfl (Ar<|sV d ms.length) fun C j=>⟨d,x,rfl,(j.pick [0] An rfl)⟩
abbrev Q1i(k:NK)(p2:Nat):List Blk:=[cb p2 [pL (some ⟨k.nb,0,none⟩)] 35]
theorem Aik(k:NK)(s:NS)(M:List Nat)(ms:List Mpg)(ma:Option Addr)(ah:Nat)(w:World)(ok:NOk k s)(hl:Mem w M [NG k s] w)(hA:InvA k s.p none)(hF:RngF k.fx)(hU:FxU k.fx)(hM:RngM ms)(d:At w ma (mm Jc ms))(ai:0<(mm Jc ms).length→(ma.getD default).block∉M)(cf:ms.length≤100000):Calls prog 11 #[pL (some ⟨k.nb,0,none⟩),sL ma ms.length ah] w (Bn w (fun r:NS=>Inv k r∧r.p.ms=ms∧r.p.lst=s.p.lst∧r.p.es=Jy k ms s.p.es) (fun _=>.tuple #[]) M (fun r=>[NG k r])):=by
 obtain⟨cg,ch,ci,cj,ck⟩:=NOk.len ok;have a9:=d;clear d;have d:=a9
 refine Ap (M:=M) (LL:=[NG k s]) (n:=27) func11 rfl rfl A7 (hl)<|W.s ?_
 refine Ac<|Af rfl (E9 (v:=pL<|some ⟨k.nb,0,none⟩) (cs:=[pL (some ⟨k.nb,0,none⟩)]) rfl rfl Aa rfl) fun p2=>?_
 refine Ai<|W.s<|C5 [(0,true),(1,false),(2,false),(3,false),(4,false),(5,false)] [0]<|Bs 2 [(0,0)] ?_
 refine Ca rfl rfl (Au [] [0,1] fun D q G=>(Aec ms ma ah _ (d.mem' q ai) D1)) (Az [1,2]) fun E aj=>Dh 2 []<|Cj rfl rfl (Es (b:=k.nb) (o':=28) (i:=2) (j:=0) (cs:=C3 k s) (cs':=C3 k<|stM s E ms) (v:=sL E.a ms.length E.cap) (LL':=[E.seg 26 (mm Jc ms),Q1i k p2,(NG k s).set 0 (cb k.nb (C3 k<|stM s E ms) 91)]) rfl rfl Aa Aa sizeOf56 rfl rfl rfl (by rw[show(C3 k s).length=290 from Hk rfl];decide) ((Lm rfl An).trans rfl) rfl) (.inl Aa) fun _=>Cl ?_
 refine W.s<|W.s ?_
 obtain⟨H,I⟩: ∃z,z=(stM s E ms):=⟨_,rfl⟩
 have J:NOk k H:=I▸Al2 ok aj Ae
 have h:H.p={s.p with ms:=ms}:=by rw[I];rfl
 obtain⟨b3,b4,b5,b6,b7⟩:=NOk.len J
 refine W.conseq (S':=Mem w M [NG k H,Q1i k p2]) (fun D L=>I▸Al3 (L.pick [2,0,1] An rfl))<|Ac<|A5 3 [(1,0)]<|Ao (Bf (b:=k.nb) (o':=29) (i:=0) (j:=0) (cs:=C3 k H) (v:=pL<|some ⟨k.ts,0,none⟩) rfl Aa isAgg85 rfl rfl<|(Cf rfl An).trans rfl)<|Aw rfl (Au [] [0,1] fun D q G=>(Xf k.ts _)) fun O _=>?_
 refine Ai<|W.block ?_
 have g:H.p.xs=s.p.xs:=by rw[h]
 have g:H.p.xs=s.p.xs:=by rw[h]
 have g:H.p.xs=s.p.xs:=by rw[h]
 have g:H.p.xs=s.p.xs:=by rw[h]
 refine Jn (σ:=NS) (enc:=fun i=>[aV (Kw<|(s.p.xs.getD i dS).1),pL (Cz<|(s.p.xs.getD i dS).2)]) (N:=s.p.xs.length) (Lu:=fun(t:NS)=>[NG k t,Q1i k p2]) (Li:=[[cb O [pL (some ⟨k.ts,0,none⟩)] 85]]) (Lk:=[]) [1,2] [0] [] H (fun i (t:NS)=>NOk k t∧InvA k t.p none∧t.p.es=Jy k ms (s.p.es.take i)++s.p.es.drop i∧t.p.ms=ms∧t.p.lst=s.p.lst) (fun c_ (t:NS)=>False) [16,17] Aa (fun _ _=>rfl) An (by rfl) rfl rfl rfl (fun _=>rfl) (⟨J,(by rw[h];exact hA.withMs ms),(by rw[h];rfl),(by rw[h]),(by rw[h])⟩) (fun D_ l_ ba bb q=>(T7 s.p.xs H.gs.a H.gs.cap k.mo k.ts O _ bb (by rw[←g];exact(Fv (i:=2) q rfl)) (by rw[←g];exact(NG.xs (i:=2) q rfl J)) D1)) ?_ ?_ ?_
 ·intro D15 bc b9 ak i bd bf Mu22 cn al am bg an
  obtain⟨l,rfl⟩: ∃a_,a_=bd:=⟨_,rfl⟩
  obtain⟨c,V,ad,d,C⟩:=am
  obtain⟨co,eb,F,P,cp,bi⟩:=Xv hA.tie al
  have Q:l.p.es=Jy k ms (s.p.es.take i)++(eb,F)::s.p.es.drop (i+1):=by rw[ad,Aij P]
  have bj:l.p.es[(Jy k ms (s.p.es.take i)).length]? =some (eb,F):=by rw[Q,List.getElem?_append_right (Nat.le_refl _)];simp
  obtain⟨ao,ap,aq,ar,au⟩:=NOk.len c
  refine Ac<|Ao (v:=pV eb 0) ((Ys.p (v:=pL<|Cz<|(s.p.xs.getD i dS).2)).conseq<|(by rw[bi];rfl))<|Ay ?_
  refine fun D L=>an _ [NG k l,Q1i k p2] ?_ D L
  refine W.block<|W.s ?_
  refine Ac<|A5 2 [(3,0)]<|Cb (v:=bV<|Mb l.p.ms k.fx F) (A8 fun D q=>(Aib k l F eb _ (Tf (i:=2) q rfl c) c<|NG.ent (i:=2) q rfl bj))<|Ab 1<|Ay ?_
  refine A9 ?_
  refine Ak (!(Mb l.p.ms k.fx F)) Aa (fun bk=>?_) fun bl=>?_
  ·obtain⟨S,u⟩: ∃z,z=O7 l ((Jy k ms (s.p.es.take i))++(s.p.es.drop (i+1))):=⟨_,rfl⟩
   have X:NOk k S:=u▸F9 c _
   have Y:S.p={l.p with es:=(Jy k ms (s.p.es.take i))++(s.p.es.drop (i+1))}:=by rw[u];rfl
   obtain⟨bm,bn,bo,bp,bq⟩:=NOk.len X
   refine W.conseq (S':=Mem bf Mu22 [NG k S,[cb eb (Sq F) 113],dB D15,lB bc ak,Q1i k p2]) (fun D L=>u▸M3 Q (L.pick [2,0,1,3] An rfl)) ?_
   have T:=N5 V (by have z_:=Ja c V;omega) (F.pr,F.src,F.frm)
   rw[show l.p.zs=S.p.zs by rw[Y]]at T
   have av:=V.rng (eb,F) (by rw[Q];exact Cr.2 (.inl rfl))
   refine Ac<|A5 2 [(4,0)]<|Aw rfl (Au [0,1] [2,3,4] fun D q G=>(Ad1 k S _ F eb _ X G T.1 T.2 av.pr)) fun aw ax=>?_
   obtain⟨Z,ay⟩:=ax
   obtain⟨br,bs,bt,bu,bw⟩:=NOk.len Z
   refine Ay ?_
   obtain⟨cq,az⟩:=ay
   have U:=InvA.dropI V c.hxs c.hzs c.hws.nd Q (.inl rfl) (az.trans (by rw[Y]))
   have af:Mb ms k.fx F=false:=by rw[←d];simpa using bk
   have ag:aw.p.es=Jy k ms (s.p.es.take (i+1))++s.p.es.drop (i+1):=by rw[U.2.1,Sd P,af];simp
   exact fun D L=>Exists.intro aw<|And.intro ⟨Z,U.1,ag,U.2.2.1.trans d,U.2.2.2.trans C⟩<|L.pick [1,2,0,3] An rfl
  ·refine Ag ?_
   have af:Mb ms k.fx F=true:=by rw[←d];simpa using bl
   have ag:l.p.es=Jy k ms (s.p.es.take (i+1))++s.p.es.drop (i+1):=by rw[Sd P,af,Q];simp
   exact fun D L=>Exists.intro l<|And.intro ⟨c,V,ag,d,C⟩ L
 ·intro D41 cr cc bx a0
  obtain⟨l,rfl⟩: ∃a_,a_=bx:=⟨_,rfl⟩
  obtain⟨c,V,ad,d,C⟩:=a0
  obtain⟨ao,ap,aq,ar,au⟩:=NOk.len c
  refine Gc (LL':=[[cb O [pL (some ⟨k.ts,0,none⟩)] 85],NG k l,Q1i k p2,dB D41]) [4,2,3,0] An rfl<|A9<|Al [1,2,3] An rfl ?_
  have a1:=hF.rs
  have a2: ∀x∈l.p.ms,0≤x.proto∧x.proto≤255∧0≤x.ext∧x.ext≤65535:=by rw[d];exact hM.rs
  refine Ac<|A5 1 [(1,0)]<|Aw rfl (Au [0] [1,2] fun D q G=>(Tg k l _ _ c G a1 a2 V.zrg)) fun aa a3=>Ay ?_
  have a5:l.p.es=Jy k ms s.p.es:=by rw[ad,List.take_of_length_le (by rw[hA.tie,List.length_map];exact Nat.le_refl _),List.drop_eq_nil_of_le (by rw[hA.tie,List.length_map];exact Nat.le_refl _),List.append_nil]
  show∀D,_→bodyPostM (Cv none) 0 prog Tryz.f11 _ Exit.normal _ D
  exact fun D a6=>Fq (a6.mark (i:=2) rfl).1 (by have bz:Mem w M [NG k (Hu l aa<|Em<|F3 k.fx++H6 l.p.ms++Mm l.p.zs),Q1i k p2,[⟨D41,.deferred none⟩]] _:=(a6.mark (i:=2) rfl).2;exact Iv rfl ⟨(Hu l aa<|Em<|F3 k.fx++H6 l.p.ms++Mm l.p.zs),⟨⟨a3,V.withTk _ _,⟨fun x hx=>by have z_:x∈Jy k ms s.p.es:=a5▸hx;have y_:=(List.mem_filter.1 z_).2;show Mb l.p.ms k.fx x.2=true;rw[d];exact y_,rfl⟩,hF,hU,by show RngM l.p.ms;rw[d];exact hM⟩,d,C,a5⟩,rfl,(bz.pick [0] An rfl)⟩)
 ·intro D_ l_ ba c_ s_ L;exact L.elim
end Go.Proofs.YtmonlaoaengfdaaGreatDoor.Oct
namespace Go.Proofs.YtmonlaoaengfdaaGreatDoor.Base
open Go.RowKit
section
variable {σ:Type}{r:Option Nat}{P:Program}{n:Nat}{ds:List Deferred}{f:Nat→Value}{S:World→Prop}{o:Oper}{d:Nat}{w0:World}{M:List Nat}{LL:List (List Blk)}{yv:Value}{args:Array Value}
theorem Yld.mono{T T':Bool→World→Prop}(h: ∀b w,T b w→T' b w)(q:Yld P yv args S T):Yld P yv args S T':=fun w hw=>by
  obtain⟨j,t,c⟩:=q w hw
  refine⟨j,t,?_⟩
  cases j<;>simp only[YN]at c⊢ <;>try exact c
  case enter k a=>exact Calls.mono c (by rintro e g ⟨b,rfl,i⟩;exact⟨b,rfl,h b g i⟩)
  case round l fn tmps assign body=>exact c.mono (by rintro e g ⟨b,rfl,i⟩;exact⟨b,rfl,h b g i⟩)
def Aju{σ:Type}(P:Program)(k:FuncId)(lb:Array Value)(enc:Nat→List Value)(N:Nat)(Li:List (List Blk))(c:World)(M:List Nat)(Lu:σ→List (List Blk))(Φ Φ':Nat→σ→Prop):Prop:=
  ∀(β:Type) (yv:Value) (X:β→List Blk) (g:β) (Ψ:σ×β→Prop) (h:σ),
    (∀i s (R:List (List Blk)) (u:World) (Mu:List Nat),i<N→Φ' i s→Keeps c M u Mu→Yld P yv (enc i).toArray (Mem u Mu ((X g++(Lu s).flatten)::R)) (fun b w=> ∃j l,(bif b then(Φ (i+1) j∧l=g)else Ψ (j,l))∧Mem u Mu ((X l++(Lu j).flatten)::R) w))→
    Φ 0 h→Mem c M ((X g++(Lu h).flatten)::Li) c→(∀k∈M,k∈((X g++(Lu h).flatten)::Li).flatten.map (·.b))→
    Calls P k (#[yv]++lb) c (Bn c (fun q:σ×β=>(Φ N q.1∧q.2=g)∨Ψ q) (fun _=>.tuple #[]) M (fun q=>(X q.2++(Lu q.1).flatten)::Li))
theorem Aed{Q:Exit→Act→World→Prop}{g:Operand}{ps:Array Tmp}{assign body:Code}{k:FuncId}{lb:Array Value}{enc:Nat→List Value}{N:Nat}{Lu:σ→List (List Blk)}{Li Lk:List (List Blk)}
    (is js ks:List Nat) (V:σ) (Φ Φ':Nat→σ→Prop) (Ψ:Code→σ→Prop) (ad:List Nat)
    (hg:ev n f g=.func (.func k) #[] lb) (hk: ∀x w,(callFunc k x).run P w=.ok (.enter k x) w)
    (bh:(is++js++ks).Nodup) (hi:C2 LL is=Lu V) (hj:C2 LL js=Li) (bi:C2 LL ks=Lk)
    (av:ps.toList=ad) (aw: ∀i,(enc i).length=ad.length) (h0:Φ 0 V)
    (bj: ∀(D l:Nat) (ob:Loop) (O:World),Mem w0 M (((dB D::lB l ob::Lu V)++Li)++Lk) O→Aju P k lb enc N Li O (((dB D::lB l ob::Lu V)++Li).flatten.map (·.b)) Lu Φ Φ')
    (aj: ∀(D l:Nat) (ob ax:Loop) (i:Nat) (s:σ) (u:World) (Mu:List Nat) (J:Act→World→Prop),i<N→Φ' i s→Keeps w0 M u Mu→
      (∀f' L',W (some l) P (RQ u Mu D l ax Lu (Φ (i+1)) Ψ) body n [] f' (Mem u Mu (dB D::lB l ax::L'))→ ∀T,Mem u Mu (dB D::lB l ob::L') T→J (Fr n [] f') T)→
      W (some l) P (Exit.then J E4) assign n [] ((ad.zip (enc i)).foldl (fun f p=>Fg f p.1 p.2) f) (Mem u Mu (dB D::lB l ob::Lu s)))
    (ak: ∀(D l:Nat) (ob:Loop) (s:σ),Φ N s→ ∀w,Mem w0 M (((dB D::lB l ob::Lu s)++Li)++Lk) w→Q .normal (Fr n (mk D::ds) f) w)
    (al: ∀(D l:Nat) (ob:Loop) (c:Code) (s:σ),Ψ c s→W none P Q c n (mk D::ds) f (Mem w0 M (((dB D::lB l ob::Lu s)++Li)++Lk))):
    W none P Q (.rangeFunc g ps assign body) n ds f (Mem w0 M LL):=fun w hS=>by
  have bl:Mem w0 M (Lu V++Li++Lk) w:=hS.pick (is++js++ks) bh (by rw[←hi,←hj,←bi];simp[C2])
  refine wpIn_rangeFunc ?_
  intro fn _
  obtain⟨C,H⟩: ∃C:LoopState→Option Code→Loop,C=fun st E=>{state:=st,pending:=E,fn,tmps:=(Fr n ds f).tmps,params:=ps,assign,body,defers:=w.heap.size}:=⟨_,rfl⟩
  obtain⟨D,hD⟩: ∃D,D=w.heap.size:=⟨_,rfl⟩
  obtain⟨l,hl⟩: ∃l,l=w.heap.size+1:=⟨_,rfl⟩
  obtain⟨O,ay⟩: ∃O,(w.alloc (.deferred (some []))).alloc (.loop (C .ready none))=O:=⟨_,rfl⟩
  have hm:Mem w0 M (((dB D::lB l (C .ready none)::Lu V)++Li)++Lk) O:=by
    have h1:=(bl.allocO (.deferred (some []))).allocO (.loop (C .ready none))
    rw[←ay]
    refine Mem.perm ?_ h1
    simp only[List.flatten_append,List.flatten_cons,dB,lB,hD,hl,List.cons_append,List.nil_append,List.append_assoc,Array.size_push]
    exact List.Perm.swap _ _ _
  let U:σ×Option Code→List Blk:=fun s=>dB D++lB l (C (if s.2.isNone then .ready else .done) s.2)++(Lu s.1).flatten
  have hU: ∀(s:σ) (E:Option Code) (R:List (List Blk)),(U (s,E)::R).flatten=((dB D::lB l (C (if E.isNone then .ready else .done) E)::Lu s)++R).flatten:=fun s E R=>by
    simp[U,List.flatten_append]
  obtain⟨M1,Y⟩: ∃M1,M1=((dB D::lB l (C .ready none)::Lu V)++Li).flatten.map (·.b):=⟨_,rfl⟩
  have a0:Mem O M1 (U (V,none)::Li) O:=by
    rw[Y];exact(Mem.local hm).flat (hU V none Li).symm
  have am: ∀k∈M1,k∈(U (V,none)::Li).flatten.map (·.b):=fun k hk=>by
    rw[hU V none Li];rw[Y]at hk;exact hk
  have an: ∀{LL':List (List Blk)} {T:World},Mem O M1 LL' T→Mem w0 M (LL'++Lk) T:=fun h=>Mem.back hm (by rw[Y]at h;exact h)
  have bm:Keeps w0 M O M1:=fun a cs ao ap=>by
    have h2:=Dq (L:=(dB D::lB l (C .ready none)::Lu V)++Li) (R:=Lk) ao ap hm
    rw[Y];exact h2
  refine⟨l,[mk D],O,{target:=.fn (.func k) lb,args:= #[.func (.yield l) #[] #[]]},O,k,#[.func (.yield l) #[] #[]]++lb,O,?_,?_,fun _ _=>trivial,?_,fun h=>(by cases h),?_⟩
  · rw[←ay,H,hl];simp only[mk,hD];exact run_enterLoop_outer _ _ _ _ _
  · simp only[resolve,Dj,hg]
    simp[go_sem];rfl
  · simp[invoke,go_sem,hk]
  have hI:=bj D l _ O hm
  rw[←Y]at hI
  refine H8<|Calls.mono (hI (Option Code) (.func (.yield l) #[] #[]) (fun E=>dB D++lB l (C (if E.isNone then .ready else .done) E)) none (fun q=> ∃c,q.2=some c∧Ψ c q.1) V ?_ h0 a0 am) ?_
  · rintro i s R ub Mub bp hΦ bq u hu
    have br:u.heap[l]? =some (.loop (C .ready none)):=hu.at (i:=0) (j:=1) (p:=⟨l,_⟩) rfl rfl
    obtain⟨Mu,aq⟩: ∃Mu,Mu=(U (s,none)).map (·.b):=⟨_,rfl⟩
    have ar:Mem u Mu (dB D::lB l (C .ready none)::Lu s) u:=by
      have h1:Mem u Mu [U (s,none)] u:=by rw[aq];exact hu.one (i:=0) rfl
      exact h1.flat (by have:=hU s none [];simpa using this)
    have ah: ∀{I:σ} {E:Option Code} {T:World},Mem u Mu (dB D::lB l (C (if E.isNone then .ready else .done) E)::Lu I) T→Mem ub Mub (U (I,E)::R) T:=fun {I E T} h=>by
      have h1:Mem u ([U (s,none)].flatten.map (·.b)) [U (I,E)] T:=by
        simp only[List.flatten_cons,List.flatten_nil,List.append_nil];rw[←aq]
        exact h.flat (by have:=hU I E [];simpa using this.symm)
      exact Mem.back (LL:=[U (s,none)]) (R:=R) hu h1
    refine⟨.round l fn ((ps.zip (enc i).toArray).foldl (fun t (p:Nat×Value)=>t.setIfInBounds p.1 p.2) (Fr n ds f).tmps) assign body,?_,?_⟩
    · have:=run_yield (P:=P) (args:=(enc i).toArray) br (by rw[H];simp only[List.size_toArray];rw[aw,←av];simp)
      rw[H]at this
      simp only[S8,Deferred.ofValue,Sem.run_bind]
      simp[go_sem,invoke,this]
    refine roundIn_of_wpIn (F:=Cv none) trivial ?_
    have et:(ps.zip (enc i).toArray).foldl (fun t (p:Nat×Value)=>t.setIfInBounds p.1 p.2) (Fr n ds f).tmps=(Fr n [] ((ad.zip (enc i)).foldl (fun f p=>Fg f p.1 p.2) f)).tmps:=by
      rw[←L3 (ds:=ds),←av]
      rw[←Array.foldl_toList,Array.toList_zip]
    rw[et]
    refine aj D l (C .ready none) (C .busy none) i s u Mu _ bp hΦ ?_ ?_ u ar
    · intro a cs ao ap
      obtain⟨h1,h2⟩:=bm.trans bq a cs ao ap
      have X:=Dq (L:=[U (s,none)]) (R:=R) h1 h2 (show Mem ub Mub ([U (s,none)]++R) u from hu)
      rw[aq];simpa using X
    intro f' L' hW T a1
    have a2:T.heap[l]? =some (.loop (C .ready none)):=a1.at (i:=1) (j:=0) (p:=⟨l,_⟩) rfl rfl
    have a5:=(Array.getElem?_eq_some_iff.1 a2).1
    refine⟨T.putObj l<|.loop<|C .busy none,?_,?_⟩
    · have:=run_beginRound (P:=P) a2 (by rw[H]);rw[this,H]
    have ai:Mem u Mu (dB D::lB l (C .busy none)::L') (T.putObj l (.loop (C .busy none))):=
      a1.putO (s:=lB l (C .ready none)) (i:=1) (j:=0) rfl rfl rfl rfl rfl (by simp) (fun k _ hk=>World.putObj_heap_other hk) (World.putObj_heap_same a5)
    refine wpIn_mono (hW _ ai) ?_
    have fin: ∀(G:Option Code) (I:σ) (w3:World),Mem u Mu (dB D::lB l (C .busy none)::Lu I) w3→
        (Instr.endRound l G).run P w3=.ok (.bool G.isNone) (w3.putObj l (.loop (C (if G.isNone then .ready else .done) G)))∧
        Mem ub Mub (U (I,G)::R) (w3.putObj l (.loop (C (if G.isNone then .ready else .done) G))):=fun G I w3 X=>by
      have a6:w3.heap[l]? =some (.loop (C .busy none)):=X.at (i:=1) (j:=0) (p:=⟨l,_⟩) rfl rfl
      have a7:=(Array.getElem?_eq_some_iff.1 a6).1
      refine⟨?_,ah ?_⟩
      · have:=run_endRound (P:=P) G a6;rw[this,H]
      · exact X.putO (s:=lB l (C .busy none)) (i:=1) (j:=0) rfl rfl rfl rfl rfl (by simp) (fun k _ hk=>World.putObj_heap_other hk) (World.putObj_heap_same a7)
    rintro e a3 w3 hp
    cases e with
    |normal=>
      obtain⟨I,Z,X⟩:=hp
      obtain⟨hr,h4⟩:=fin none I w3 X
      exact⟨_,_,hr,true,rfl,I,none,⟨Z,rfl⟩,h4⟩
    |ret=>
      obtain⟨I,Z,X⟩:=hp
      obtain⟨hr,h4⟩:=fin (some .ret) I w3 X
      exact⟨_,_,hr,false,rfl,I,some .ret,⟨_,rfl,Z⟩,h4⟩
    |exit id=>
      obtain⟨I,Z,X⟩:=hp
      obtain⟨hr,h4⟩:=fin (some (.exit id)) I w3 X
      exact⟨_,_,hr,false,rfl,I,some<|.exit id,⟨_,rfl,Z⟩,h4⟩
    |goto t=>exact hp.elim
    |panic ch=>exact hp.elim
    |outgrown=>exact hp.elim
  · rintro e w2 ⟨⟨s,E⟩,bs,rfl,ai⟩
    have ba:w2.heap[l]? =some (.loop (C (if E.isNone then .ready else .done) E)):=ai.at (i:=0) (j:=1) (p:=⟨l,_⟩) rfl rfl
    have bb:=(Array.getElem?_eq_some_iff.1 ba).1
    have he:(Instr.endLoop l).run P w2=.ok E (w2.putObj l (.loop (C .exhausted E))):=by
      have:=run_endLoop (P:=P) ba (by rw[H];cases E<;>simp);rw[this,H]
    have X:Mem w0 M (((dB D::lB l (C .exhausted E)::Lu s)++Li)++Lk) (w2.putObj l (.loop (C .exhausted E))):=by
      have h1:Mem w0 M (((dB D::lB l (C (if E.isNone then .ready else .done) E)::Lu s)++Li)++Lk) w2:=(an ai).flat (by rw[List.flatten_append,hU s E Li,←List.flatten_append])
      exact h1.putO (s:=lB l<|C (if E.isNone then .ready else .done) E) (i:=1) (j:=0) rfl rfl rfl rfl rfl (by simp) (fun k _ hk=>World.putObj_heap_other hk)<|World.putObj_heap_same bb
    refine⟨E,_,he,?_⟩
    rcases bs with⟨hΦ,hpe⟩|⟨c,hpe,hΨ⟩
    · simp only at hpe hΦ;subst hpe
      exact ak D l _ s hΦ _ X
    · simp only at hpe hΨ;subst hpe
      exact al D l _ c s hΨ _ X
end
end Go.Proofs.YtmonlaoaengfdaaGreatDoor.Base
namespace Go.Proofs.YtmonlaoaengfdaaGreatDoor.Oct
open Go.RowKit Base Tryz
attribute [local irreducible] Ys Yc Ht HtS HtIn Wl Wd W Mem pf Ez Wa Wo KW
open Conf (Fwd fwv)
theorem Xz{w0 w:World}{M:List Nat}{LL:List (List Blk)}{k:NK}{s:NS}{i:Nat}(h:Mem w0 M LL w)(c:LL[i]? =some (NG k s)):At w (some ⟨k.wb,0,none⟩) [.slice s.gw.a s.p.ws.length s.gw.cap]:=A4 (i:=10) (j:=0) (Hr h c) rfl rfl
theorem NG.ws{w0 w:World}{M:List Nat}{LL:List (List Blk)}{k:NK}{s:NS}{i:Nat}(h:Mem w0 M LL w)(c:LL[i]? =some (NG k s))(ok:NOk k s):At w s.gw.a (mm Hq s.p.ws):=FS.at (i:=9) (Hr h c) rfl (Ah ok.okw (Ch G6 _))
def Zt(s:NS)(g:FS)(ws:List (Int×Int)):NS:={s with gw:=g,p:={s.p with ws:=ws}}
theorem Aee{k:NK}{s:NS}(ok:NOk k s){g:FS}(c:g.ok 2 (s.p.ws.drop 1).length):NOk k (Zt s g (s.p.ws.drop 1)):=⟨ok.okm,ok.okf,ok.oks,ok.oki,ok.oke,c,ok.hmn,ok.hfn,ok.hmo,ok.hxn,ok.hyn,ok.hzn,(by show(s.p.ws.drop 1).length≤90000;rw[List.length_drop];have:=ok.hwn;omega),ok.hxs,ok.hys,ok.hzs,ok.hws.drop 1,ok.hz⟩
def Aax(k:NK)(s:NS):List Blk:=((Gr k s).take 9).flatten
def Tj(k:NK)(s:NS):List Blk:=((Gr k s).drop 11).flatten
theorem Aef(k:NK)(s:NS):NG k s=Aax k s++(s.gw.seg 219 (mm Hq s.p.ws)++(cb k.wb [.slice s.gw.a s.p.ws.length s.gw.cap] 150::Tj k s)):=by
  have e:Gr k s=(Gr k s).take 9++([s.gw.seg 219 (mm Hq s.p.ws),[cb k.wb [.slice s.gw.a s.p.ws.length s.gw.cap] 150]]++(Gr k s).drop 11):=rfl
  show(Gr k s).flatten=_
  conv=>lhs;rw[e]
  rw[List.flatten_append,List.flatten_append]
  simp only[Aax,Tj,List.flatten_cons,List.flatten_nil,List.append_nil,List.append_assoc,List.cons_append,List.nil_append]
theorem Ail{w0 w:World}{M:List Nat}{R:List (List Blk)}{k:NK}{s:NS}(h:Mem w0 M (NG k s::R) w):Mem w0 M (Aax k s::s.gw.seg 219 (mm Hq s.p.ws)::[cb k.wb [.slice s.gw.a s.p.ws.length s.gw.cap] 150]::Tj k s::R) w:=
  h.flat (by rw[List.flatten_cons,Aef];simp only[List.flatten_cons,List.append_assoc,List.cons_append,List.nil_append])
theorem Aim{w0 w:World}{M:List Nat}{R:List (List Blk)}{k:NK}{s:NS}{g:FS}{ws:List (Int×Int)}(h:Mem w0 M (Aax k s::g.seg 219 (mm Hq ws)::[cb k.wb [.slice g.a ws.length g.cap] 150]::Tj k s::R) w):Mem w0 M (NG k (Zt s g ws)::R) w:=
  h.flat (by rw[List.flatten_cons (l:=NG k (Zt s g ws)),Aef];simp only[List.flatten_cons,List.append_assoc,List.cons_append,List.nil_append];rfl)
def Ga(now:Int)(ws:List (Int×Int)):Nat:=(ws.takeWhile fun x=>decide (x.1≤now)).length
theorem P6(now:Int)(ws:List (Int×Int)):Ga now ws≤ws.length:=(List.takeWhile_sublist _).length_le
theorem Jz{now:Int}: ∀{ws:List (Int×Int)} {i:Nat},i≤Ga now ws→i<ws.length→((ws.getD i (0,0)).1≤now↔i<Ga now ws)
  | [],_,_,h=>by simp at h
  |x::ws,0,_,_=>by
    unfold Ga;rw[List.takeWhile_cons]
    show x.1≤now↔_
    by_cases h:x.1≤now
    · rw[if_pos (decide_eq_true h)];simp[h]
    · rw[if_neg (by simpa using h)];simp;omega
  |x::ws,i+1,h1,h2=>by
    unfold Ga at h1⊢;rw[List.takeWhile_cons]at h1⊢
    by_cases h:x.1≤now
    · rw[if_pos (decide_eq_true h)]at h1⊢
      rw[List.getD_cons_succ]
      have:=Jz (now:=now) (ws:=ws) (i:=i) (by unfold Ga;simpa using h1) (by simpa using h2)
      rw[this];unfold Ga;simp
    · rw[if_neg (by simpa using h)]at h1;simp at h1
theorem Ao8(c:Nat)(now:Int)(w:World):Calls prog 59 #[pV c 0,iV .u64 now] w (Bn w (fun _:Nat×Nat=>True) (fun q=>.func (.func 112) #[] #[.pointer (some ⟨q.1,0,none⟩),.pointer (some ⟨q.2,0,none⟩)]) [] (fun q=>[[cb q.1 [.pointer (some ⟨c,0,none⟩)] 83],[cb q.2 [.int .u64 now] 45]])):=by
 refine Ap (M:=[]) (LL:=[]) (n:=6) func59 rfl rfl A7 (Mem.refl _)<|W.s ?_
 refine Ac<|Af rfl (E9 (v:=pV c 0) (cs:=[pV c 0]) rfl rfl Aa rfl) fun h=>?_
 refine Af rfl (E9 (v:=iV .u64 now) (cs:=[iV .u64 now]) rfl rfl Aa rfl) fun i=>Ab 1<|Ai<|Aj [] ?_
 refine Am rfl<|D9 rfl (Ar<|Value.func (.func 112) #[] #[pV h 0,pV i 0]) fun j g=>⟨(h,i),trivial,rfl,(g.pick [1,0] An rfl)⟩
abbrev Q1j(c:Nat)(k:NK):List Blk:=[cb c [pL (some ⟨k.wb,0,none⟩)] 83]
theorem Al5(k:NK)(now:Int)(l:List (Int×Int))(D b2:Nat)(β:Type)(yv:Value)(X:β→List Blk)(I:β)(Φ Φ':Nat→NS→Prop)(Ψ:NS×β→Prop)(s0:NS)(M:List Nat)(w:World)(h1: ∀i s,Φ i s→NOk k s∧s.p.ws=l.drop i)(h2: ∀i s g,i<Ga now l→Φ i s→g.ok 2 (s.p.ws.drop 1).length→Φ' i (Zt s g (s.p.ws.drop 1)))(a1: ∀i s (R:List (List Blk)) (u:World) (Mu:List Nat),i<Ga now l→Φ' i s→Keeps w M u Mu→Yld prog yv ([Value.int .u64 (l.getD i (0,0)).2]:List Value).toArray (Mem u Mu ((X I++[NG k s].flatten)::R)) (fun b w'=> ∃s' b',(bif b then(Φ (i+1) s'∧b'=I)else Ψ (s',b'))∧Mem u Mu ((X b'++[NG k s'].flatten)::R) w'))(h0:Φ 0 s0)(hl:Mem w M [X I,NG k s0,[cb D [pL (some ⟨k.wb,0,none⟩)] 83],[cb b2 [Value.int .u64 now] 45]] w):Calls prog 112 #[yv,pV D 0,pV b2 0] w (Bn w (fun q:NS×β=>(Φ (Ga now l) q.1∧q.2=I)∨Ψ q) (fun _=>.tuple #[]) M (fun q=>[X q.2++[NG k q.1].flatten,[cb D [pL (some ⟨k.wb,0,none⟩)] 83],[cb b2 [iV .u64 now] 45]])):=by
 have b7:=(h1 0 s0 h0).1
 refine Ap (M:=M) (LL:=[X I,NG k s0,Q1j D k,[cb b2 [iV .u64 now] 45]]) (n:=41) func112 rfl rfl A7 (hl)<|W.block<|Fx [0,1,2] (fun(i:Nat) (c:NS)=>[yv,pV D 0,pV b2 0]) (fun(i:Nat) (c:NS)=>i≤Ga now l∧Φ i c) (fun(i:Nat) (c:NS)=>[X I,NG k c,Q1j D k,[cb b2 [iV .u64 now] 45]]) (fun(i:Nat) (c:NS)=>Ga now l-i) 0 s0 Aa ⟨(Nat.zero_le _),h0⟩ (by rfl) fun i c f2 J1 a5 a6=>?_
 obtain⟨hi,O⟩:=a5
 obtain⟨x,ab⟩:=h1 i c O
 have b9:=P6 now l
 have bp:c.p.ws.length=l.length-i:=by rw[ab,List.length_drop]
 have bq:=x.hwn
 obtain⟨br,bs,bt,bu,bw⟩:=NOk.len x
 refine W.s<|W.s ?_
 refine C5 [(0,false),(1,false),(2,false),(3,false),(4,false),(5,false),(6,false),(7,true),(8,true),(9,true),(10,true),(11,true),(12,true),(13,true),(14,false),(15,false),(16,false)] [7,8,9,10,11,12,13]<|Bs 3 [(2,0)]<|Gg (v:=sL c.gw.a c.p.ws.length c.gw.cap) rfl (Ys.ld (a:=⟨k.wb,0,none⟩) rfl Aa isAgg148 fun E h=>by have U:=(Xz (i:=1) h rfl).ld (q:=0) (v:=sL c.gw.a c.p.ws.length c.gw.cap) rfl;rw[Be]at U;exact U)<|Bs 3 [] ?_
 refine Bg (v:=pL<|some ⟨k.wb,0,none⟩) (decide<|((c.p.ws.length:Nat):Int)>0) rfl (Bv rfl Aa) rfl (fun ca=>?_) ?_
 ·exact Cn D 0 2 0 isAgg83
 refine Bg (v:=pL<|some ⟨k.wb,0,none⟩) (decide<|((c.p.ws.length:Nat):Int)>0) rfl (Bv rfl Aa) rfl (fun am=>?_) ?_
 ·have an:=am;try simp only[zA]at an
  refine Bh (t:=12) (v0:=pL<|some ⟨k.wb,0,none⟩) (lz (g:=decide<|((c.p.ws.length:Nat):Int)>0) (u:=undef) am Aa) ?_
  exact Ys.p
 refine Bg (v:=pL<|some ⟨k.wb,0,none⟩) (decide<|((c.p.ws.length:Nat):Int)>0) rfl (Bv rfl Aa) rfl (fun ao=>?_) ?_
 ·have ap:=ao;try simp only[zA]at ap
  refine Bh (t:=13) (v0:=pL<|some ⟨k.wb,0,none⟩) (lz (g:=decide<|((c.p.ws.length:Nat):Int)>0) (u:=undef) ao Aa) ?_
  exact Ys.p
 refine Bg (v:=sL c.gw.a c.p.ws.length c.gw.cap) (decide<|((c.p.ws.length:Nat):Int)>0) rfl (Bv rfl Aa) rfl (fun aq=>?_) ?_
 ·have ar:=aq;try simp only[zA]at ar
  refine Bh (t:=14) (v0:=pL<|some ⟨k.wb,0,none⟩) (lz (g:=decide<|((c.p.ws.length:Nat):Int)>0) (u:=undef) aq Aa) ?_
  exact Ys.ld (a:=⟨k.wb,0,none⟩) rfl Aa isAgg148 fun E h=>by have U:=(Xz (i:=1) h rfl).ld (q:=0) (v:=sL c.gw.a c.p.ws.length c.gw.cap) rfl;rw[Be]at U;exact U
 refine Bg (v:=pL<|some<|Cs c.gw.a 0) (decide<|((c.p.ws.length:Nat):Int)>0) rfl (Bv rfl Aa) rfl (fun Y=>?_) ?_
 ·have ad:=Y;try simp only[zA]at ad
  refine Bh (t:=15) (v0:=sL c.gw.a c.p.ws.length c.gw.cap) (lz (g:=decide<|((c.p.ws.length:Nat):Int)>0) (u:=undef) Y Aa) ?_
  exact Bb fun E h=>Aq (k:=.i64) (a:=c.gw.a) (len:=c.p.ws.length) (cap:=c.gw.cap) (i:=0) (sz:=2) rfl Aa Aa runUnderlying148 sizeOf219 Ae Ae<|(NG.ws (i:=1) h rfl x).here<|by rw[Ch (g:=Hq) (sz:=2) (fun _=>rfl)];first|omega|(simp;omega)
 refine Bg (v:=pL<|some<|Cs c.gw.a 0) (decide<|((c.p.ws.length:Nat):Int)>0) rfl (Bv rfl Aa) rfl (fun Z=>?_) ?_
 ·have ae:=Z;try simp only[zA]at ae
  refine Bh (t:=16) (v0:=pL<|some<|Cs c.gw.a 0) (lz (g:=decide<|((c.p.ws.length:Nat):Int)>0) (u:=undef) Z Aa) ?_
  exact Ys.p
 refine Bg (v:=iV .u64<|(c.p.ws.getD 0 (0,0)).1) (decide<|((c.p.ws.length:Nat):Int)>0) rfl (Bv rfl Aa) rfl (fun aa=>?_) ?_
 ·have af:=aa;try simp only[zA]at af
  refine Bh (t:=17) (v0:=pL<|some<|Cs c.gw.a 0) (lz (g:=decide<|((c.p.ws.length:Nat):Int)>0) (u:=undef) aa Aa) ?_
  exact Ys.ld (a:=Cs c.gw.a 0) rfl Aa isAgg45 fun E h=>(NG.ws (i:=1) h rfl x).ld<|Ki (g:=Hq) (sz:=2) (fun _=>rfl) (0,0) (xs:=c.p.ws) (k:=0) Ae 0 rfl
 refine Bp (v:=iV .u64 now) (decide<|((c.p.ws.length:Nat):Int)>0) rfl (Bv rfl Aa) rfl (fun bx=>?_) (.inr fun _ h=>h) ?_
 ·refine Ys.yc ?_
  exact Cn b2 0 3 0 isAgg45
 refine Bp (v:=bV<|decide<|((c.p.ws.getD 0 (0,0)).1)≤now) (decide<|((c.p.ws.length:Nat):Int)>0) rfl (Bv rfl Aa) rfl (fun Q=>?_) (.inr fun _ h=>h) ?_
 ·have ag:=Q;try simp only[zA]at ag
  refine Ys.yc<|Bh (t:=18) (v0:=iV .u64<|(c.p.ws.getD 0 (0,0)).1) (lz (g:=decide<|((c.p.ws.length:Nat):Int)>0) (u:=undef) Q Aa)<|Bh (t:=19) (v0:=iV .u64 now) (lz (g:=decide<|((c.p.ws.length:Nat):Int)>0) (u:=undef) Q Aa) ?_
  exact Ys.p
 refine Gg (v:=bV<|(decide<|((c.p.ws.length:Nat):Int)>0)&&(decide<|((c.p.ws.getD 0 (0,0)).1)≤now)) rfl (B9 (e:=decide<|((c.p.ws.length:Nat):Int)>0) (b:=decide<|((c.p.ws.getD 0 (0,0)).1)≤now) rfl Aa Aa Aa)<|Cl ?_
 refine Ak ((decide<|((c.p.ws.length:Nat):Int)>0)&&(decide<|((c.p.ws.getD 0 (0,0)).1)≤now)) Aa (fun au=>?_) fun av=>?_
 ·have aw:=au;try simp only[zA]at aw
  refine Ag<|A9<|W.block<|W.s ?_
  have C:c.p.ws.getD 0 (0,0)=l.getD i (0,0):=by rw[ab,List.getD_eq_getElem?_getD,List.getElem?_drop,List.getD_eq_getElem?_getD];rfl
  have F:=au
  simp only[Bool.and_eq_true,decide_eq_true_eq]at F
  have ax:i<Ga now l:=(Jz hi Ae).1 (by rw[←C];exact F.2)
  refine Ac<|A5 3 [(2,0)]<|Ao (Ys.ld (a:=⟨k.wb,0,none⟩) rfl Aa isAgg148 fun E h=>by have U:=(Xz (i:=1) h rfl).ld (q:=0) (v:=Value.slice c.gw.a c.p.ws.length c.gw.cap) rfl;rw[Be]at U;exact U)<|Ao (v:=Value.pointer<|some<|Cs c.gw.a 0) (Bb fun E h=>Aq (k:=.i64) (a:=c.gw.a) (len:=c.p.ws.length) (cap:=c.gw.cap) (i:=0) (sz:=2) rfl Aa Aa runUnderlying148 sizeOf219 Ae Ae<|(NG.ws (i:=1) h rfl x).here<|by rw[Ch (g:=Hq) (sz:=2) (fun _=>rfl)];first|omega|(simp;omega))<|Ab 1 ?_
  refine Ao (v:=iV .u64<|(c.p.ws.getD 0 (0,0)).2) (Ys.ld (a:=(Cs c.gw.a 0).add 1) rfl Aa isAgg45 fun E h=>(NG.ws (i:=1) h rfl x).ldF<|Ki (g:=Hq) (sz:=2) (fun _=>rfl) (0,0) (xs:=c.p.ws) (k:=0) Ae 1 rfl)<|Ab 1<|Ai<|W.s ?_
  refine W.conseq (S':=Mem w M [Aax k c,c.gw.seg 219<|mm Hq c.p.ws,[cb k.wb [sL c.gw.a c.p.ws.length c.gw.cap] 150],Tj k c,X I,Q1j D k,[cb b2 [iV .u64 now] 45]]) (fun E h=>Ail<|h.pick [1,0,2,3] An rfl)<|B3 [(0,true),(1,false),(2,false),(3,false),(4,false),(5,false),(6,false),(7,false),(8,false)] [0] (Mem w M [Aax k c,[cb k.wb [sL c.gw.a c.p.ws.length c.gw.cap] 150],Tj k c,X I,Q1j D k,[cb b2 [iV .u64 now] 45]]) Aa Aa Aa rfl Aa (fun _ _ h=>h.drawn _) (fun _ h=>h.pick [0,2,3,4,5,6] An rfl)<|Wd.mp 4 [(4,0),(5,0)] [0,2,3,4,5,6]<|Wd.yc (v:=sL c.gw.a c.p.ws.length c.gw.cap) rfl rfl rfl (Ys.yc<|Bf (b:=k.wb) (o':=0) (i:=2) (j:=0) (v:=sL c.gw.a c.p.ws.length c.gw.cap) rfl Aa isAgg148 rfl rfl rfl) (Ee [0,2,3,4,5,6])<|Ca rfl rfl (Au [1] [0,2,3,4,5,6] fun E cc a7=>(Acp c.gw c.p.ws (c.p.ws.drop 1) 0 _ _ _ _ rfl rfl A7 a7 x.okw Ae Ae)) (Az [1,2,3,4,5,6]) fun J ay=>?_
  obtain⟨T,bz⟩:=ay
  refine Dh 2 []<|Cj rfl rfl (Bd k.wb 0 2 0 (sL J.a ((c.p.ws.drop 1).length) J.cap) sizeOf148 rfl rfl) (.inl Aa) fun _=>?_
  refine Cl<|W.s ?_
  obtain⟨V,H⟩: ∃z,z=Zt c J (c.p.ws.drop 1):=⟨_,rfl⟩
  have az:NOk k V:=H▸Aee x T
  obtain⟨a8,a9,ba,bb,bc⟩:=NOk.len az
  refine W.conseq (S':=Mem w M [NG k V,X I,Q1j D k,[cb b2 [iV .u64 now] 45]]) (fun E h=>H▸Aim (h.pick [1,0,2,3,4,5,6] An rfl))<|Ac<|Ab 2<|Nf rfl (Kh (σ:=NS×β) (Φ:=fun b q=>bif b then(Φ (i+1) q.1∧q.2=I)else Ψ q) (Lf:=fun q=>[X q.2,NG k q.1,Q1j D k,[cb b2 [iV .u64 now] 45]]) (args:= #[iV .u64 ((c.p.ws.getD 0 (0,0)).2)]) rfl rfl (fun _=>kr)<|Nn (by show _=([iV .u64 (l.getD i (0,0)).2]:List Value).toArray;rw[C])<|Yld.mono (fun b_ E h=>by obtain⟨s_,U,bd,bf⟩:=h;exact⟨(s_,U),bd,Mem.flat Af6 bf⟩)<|Pq (fun E h=>Mem.flat Af6<|Mem.pick (LL':=[X I,NG k V,Q1j D k,[cb b2 [iV .u64 now] 45]]) [1,0,2,3] An h rfl)<|a1 i V [Q1j D k,[cb b2 [iV .u64 now] 45]] w M ax (H▸h2 i c J ax O T)<|Keeps.refl _ _) fun bg=>?_
  obtain⟨⟨ah,⟨N,G⟩⟩,L⟩:=bg
  refine B0 (LL':=[X G,NG k N,Q1j D k,[cb b2 [iV .u64 now] 45]]) rfl<|Ab 1<|Ai ?_
  refine Ak (!ah) Aa (fun bh=>?_) fun bi=>?_
  ·refine Am rfl fun E ai=>Iv rfl ⟨(N,G),(.inr (by have aj:ah=false:=(by simpa using bh);rw[aj]at L;exact L)),rfl,(Mem.flat (LL:=[X G,NG k N,Q1j D k,[cb b2 [iV .u64 now] 45]]) Af6<|ai.pick [0,1,2,3] An rfl)⟩
  ·refine Ag ?_
   have ak:Φ (i+1) N∧G=I:=by have aj:ah=true:=(by simpa using bi);rw[aj]at L;exact L
   obtain⟨ak,bj⟩:=ak
   refine fun E h=>a6 (i+1) N _ E Ae ⟨Ae,ak⟩ ?_<|Mem.cast (LL:=[X G,NG k N,[cb D [Value.pointer (some ⟨k.wb,0,none⟩)] 83],[cb b2 [iV .u64 now] 45]]) (by rw[bj]) h
   kernel_rfl
 ·have a0:=av;try simp only[zA]at a0
  refine Cm ?_
  have bk:i=Ga now l:=by
   have F:=av
   have C:c.p.ws.getD 0 (0,0)=l.getD i (0,0):=by rw[ab,List.getD_eq_getElem?_getD,List.getElem?_drop,List.getD_eq_getElem?_getD];rfl
   by_cases b3:c.p.ws.length=0
   ·omega
   ·have bl:=Jz (now:=now) hi Ae
    rw[←C]at bl
    rw[decide_eq_true Ae,Bool.true_and]at F
    have:=of_decide_eq_false F
    omega
  show∀E,_→bodyPostM (Cv none) 0 prog Tryz.f112 _ Exit.normal _ E
  exact fun E ai=>Ei<|Iv rfl ⟨(c,I),(.inl ⟨bk▸O,rfl⟩),rfl,(Mem.flat (LL:=[X I,NG k c,Q1j D k,[cb b2 [iV .u64 now] 45]]) Af6<|ai.pick [0,1,2,3] An rfl)⟩
def Aay(ws:List (Int×Int))(i:Nat):List Int:=(ws.take i).map Prod.snd
def J0(ws:List (Int×Int))(i:Nat)(es:List (Nat×SesE)):List (Nat×SesE):=es.filter fun x=> !(Aay ws i).contains x.2.id
theorem X0(ws:List (Int×Int))(es:List (Nat×SesE)):J0 ws 0 es=es:=by
  unfold J0 Aay;exact List.filter_eq_self.2 fun x _=>by simp
theorem Aeh{ws:List (Int×Int)}{i:Int}(h: ∀t,(t,i)∉ws):Gh ws i=ws:=by
  have c: ¬Nt (C6 ws) i<(C6 ws).length:=fun g=>by
    obtain⟨q,j,e⟩:=List.mem_map.1 (Y4.1 g)
    exact h q.1<|by rw[←e];exact j
  unfold Gh Nu
  rw[decide_eq_false c];rfl
theorem InvA.pop{k:NK}{p:NP}(h:InvA k p none)(hw:OkS p.ws){t:Int}{i:Int}{ws:List (Int×Int)}(e:p.ws=(t,i)::ws):InvA k {p with ws:=ws} (some i):=by
  refine⟨h.tie,h.ids,h.idn,h.lst,fun j u=>?_,h.lse,h.lsi,h.inj,h.rng⟩
  have c:=hw.nd
  rw[e]at c
  have F:i∉C6 ws:=(List.nodup_cons.1 c).1
  show(u,j)∈ws↔_
  have l:=h.whl j u
  rw[e]at l
  constructor
  · intro E
    obtain⟨x,q,C,D,_⟩:=l.1 (List.mem_cons_of_mem _ E)
    refine⟨x,q,C,D,fun g=>F ?_⟩
    rw[Option.some.inj g];exact List.mem_map.2 ⟨(u,j),E,rfl⟩
  · rintro⟨x,q,C,D,G⟩
    rcases List.mem_cons.1 (l.2 ⟨x,q,C,D,by simp⟩)with g|g
    · exact absurd (congrArg some (Prod.mk.inj g).2.symm) G
    · exact g
theorem Ka{es:List (Nat×SesE)}{x:Nat×SesE}(h:x∈es): ∃A B,es=A++(x.1,x.2)::B:=by
  obtain⟨A,B,e⟩:=List.append_of_mem h
  exact⟨A,B,e⟩
theorem Aaz{k:NK}{p:NP}{o:Option Int}(h:InvA k p o)(j:Gj ordF p.xs)(l:Gj LO.int p.ys){i:Int}(q: ∃x∈p.es,x.2.id=i):
    ∃A B b e,p.es=A++(b,e)::B∧e.id=i∧Bq p.ys i=true∧B1 ((0,0,0,0,0):Ci) p.ys i=Ed e∧B1 none p.xs (Ed e)=some b:=by
  obtain⟨x,c,e⟩:=q
  obtain⟨A,B,t⟩:=Ka c
  have g:(i,Ed x.2)∈p.ys:=(h.ids i _).2 ⟨x,c,e,rfl⟩
  refine⟨A,B,x.1,x.2,t,e,Ff.2 ⟨_,g⟩,Jp l g,Jp j ?_⟩
  rw[h.tie];exact List.mem_map.2 ⟨x,c,rfl⟩
theorem X1{k:NK}{p:NP}{o:Option Int}{ws:List (Int×Int)}{es A B:List (Nat×SesE)}{i b:Nat}{e:SesE}(h:InvA k p o)(l:i<ws.length)(g:p.es=J0 ws i es)(q:p.es=A++(b,e)::B)(j:e.id=(ws.getD i (0,0)).2):J0 ws (i+1) es=A++B:=by
  have c:=h.idn;rw[q]at c
  have ho:=Sa c
  have C:J0 ws (i+1) es=(J0 ws i es).filter fun x=> !(x.2.id==e.id):=by
    unfold J0
    rw[List.filter_filter]
    refine List.filter_congr fun x _=>?_
    unfold Aay
    rw[List.take_add_one,List.getElem?_eq_getElem l,List.map_append]
    have:(ws.getD i (0,0))=ws[i]:=by rw[List.getD_eq_getElem?_getD,List.getElem?_eq_getElem l];rfl
    rw[j,this]
    simp only[Option.toList_some,List.map_cons,List.map_nil,List.contains_eq_mem,List.mem_append,List.mem_singleton]
    rw[Bool.eq_iff_iff]
    simp only[Bool.not_eq_true',decide_eq_false_iff_not,Bool.and_eq_true,beq_eq_false_iff_ne]
    constructor
    · intro t;exact⟨fun z=>t (.inr z),fun z=>t (.inl z)⟩
    · rintro⟨D,E⟩ (z|z);exact E z;exact D z
  rw[C,←g,q,List.filter_append,List.filter_cons]
  have F:(!((b,e).2.id==e.id))=false:=by simp
  rw[F]
  simp only[Bool.false_eq_true,if_false]
  congr 1<;>refine List.filter_eq_self.2 fun x u=>?_
  · have:=ho x (List.mem_append_left _ u);simp[this]
  · have:=ho x (List.mem_append_right _ u);simp[this]
theorem Aa0{k:NK}{p:NP}{now:Int}(h:InvA k p none)(hw:OkS p.ws):J0 p.ws (Ga now p.ws) p.es=p.es.filter fun x=>decide (x.2.ends>now):=by
  unfold J0
  refine List.filter_congr fun x I=>?_
  have J:(x.2.ends,x.2.id)∈p.ws:=(h.whl x.2.id x.2.ends).2 ⟨x,I,rfl,rfl,by simp⟩
  obtain⟨j,E,D⟩:=List.getElem_of_mem J
  have L:p.ws.getD j (0,0)=(x.2.ends,x.2.id):=by rw[List.getD_eq_getElem?_getD,List.getElem?_eq_getElem E,D];rfl
  have g:x.2.ends≤now↔j<Ga now p.ws:=by
    constructor
    · intro u
      --all ahead of j end earlier
      rcases Nat.lt_or_ge j (Ga now p.ws)with t|t
      · exact t
      · have X:=P6 now p.ws
        have N:=Jz (now:=now) (ws:=p.ws) (i:=Ga now p.ws) (Nat.le_refl _) Ae
        have Y:(p.ws.getD (Ga now p.ws) (0,0)).1≤x.2.ends:=by
          have H:Ga now p.ws<p.ws.length:=by omega
          have O:p.ws.getD (Ga now p.ws) (0,0)=p.ws[Ga now p.ws]:=by rw[List.getD_eq_getElem?_getD,List.getElem?_eq_getElem H];rfl
          rw[O]
          rcases Nat.lt_or_ge (Ga now p.ws) j with C|C
          · have:=List.pairwise_iff_getElem.1 hw.srt _ j H E C
            rw[D]at this
            unfold LtS at this;simp only at this;omega
          · have Q:Ga now p.ws=j:=by omega
            have T:p.ws[Ga now p.ws]=p.ws[j]:=by simp only[Q]
            rw[T,D];exact Int.le_refl _
        have:=N.1 Ae
        omega
    · intro F
      have:=(Jz (now:=now) (ws:=p.ws) (i:=j) Ae E).2 F
      rw[L]at this;exact this
  have hc:(Aay p.ws (Ga now p.ws)).contains x.2.id=decide (j<Ga now p.ws):=by
    rw[List.contains_eq_mem]
    refine decide_eq_decide.2 ⟨fun t=>?_,fun t=>?_⟩
    · unfold Aay at t
      obtain⟨q,U,eq⟩:=List.mem_map.1 t
      obtain⟨l,V,G⟩:=List.getElem_of_mem U
      rw[List.length_take]at V
      rw[List.getElem_take]at G
      have c:=hw.nd
      unfold C6 List.Nodup at c
      rw[List.pairwise_map,List.pairwise_iff_getElem]at c
      rcases Nat.lt_trichotomy l j with C|C|C
      · exact absurd (by rw[G,eq,D]) (c l j Ae E C)
      · omega
      · exact absurd (by rw[G,eq,D]) (c j l E Ae C)
    · unfold Aay
      refine List.mem_map.2 ⟨(x.2.ends,x.2.id),?_,rfl⟩
      rw[←D]
      exact List.mem_take_iff_getElem.2 ⟨j,by omega,rfl⟩
  rw[hc]
  by_cases u:x.2.ends≤now
  · rw[decide_eq_true (g.1 u),decide_eq_false Ae];rfl
  · rw[decide_eq_false (fun t=>u (g.2 t)),decide_eq_true Ae];rfl
theorem due_perm{α:Type}{U X N:List α}{R:List α}:((X++(N++U))++R).Perm (((U++X)++N)++R):=by
  refine List.Perm.append_right _ ?_
  have h:=List.perm_append_comm (l₁:=X++N) (l₂:=U)
  simpa only[List.append_assoc]using h
theorem Ain(k:NK)(now:Int)(c:List (Int×Int))(h b2:Nat)(U:List (List Blk))(Φ Φ':Nat→NS→Prop)(w:World)(M:List Nat)(D: ∀i s,Φ i s→NOk k s∧s.p.ws=c.drop i)(E: ∀i s g,i<Ga now c→Φ i s→g.ok 2 (s.p.ws.drop 1).length→Φ' i (Zt s g (s.p.ws.drop 1))):
    Aju prog 112 #[.pointer (some ⟨h,0,none⟩),.pointer (some ⟨b2,0,none⟩)] (fun i=>[Value.int .u64 (c.getD i (0,0)).2]) (Ga now c) [[cb h [Value.pointer (some ⟨k.wb,0,none⟩)] 83],[cb b2 [Value.int .u64 now] 45]] w M (fun s=>NG k s::U) Φ Φ':=fun β yv X x Ψ C j F G _=>by
  have hc:=Al5 k now c h b2 β yv (fun b=>U.flatten++X b) x Φ Φ' Ψ C M w D E (fun i s R u Mu H l I=>by
    have J:=j i s R u Mu H l I
    refine Yld.mono (fun b_ L t=>?_)<|Pq (fun L t=>?_) J
    · obtain⟨O,Q,T,V⟩:=t
      refine⟨O,Q,T,Mem.perm ?_ V⟩
      simp only[List.flatten_cons,List.flatten_nil,List.append_nil]
      exact due_perm.symm
    · refine Mem.perm ?_ t
      simp only[List.flatten_cons,List.flatten_nil,List.append_nil]
      exact due_perm) F (Mem.perm (by
      simp only[List.flatten_cons,List.flatten_nil,List.append_nil]
      have:=(due_perm (U:=U.flatten) (X:=X x) (N:=NG k C) (R:=([cb h [Value.pointer (some ⟨k.wb,0,none⟩)] 83]++[cb b2 [Value.int .u64 now] 45]))).symm
      simpa only[List.append_assoc]using this) G)
  refine Calls.mono hc ?_
  rintro e w' ⟨q,Y,rfl,Z⟩
  refine⟨q,Y,rfl,Mem.perm ?_ Z⟩
  simp only[List.flatten_cons,List.flatten_nil,List.append_nil]
  exact due_perm
theorem Al6{k:NK}{s:NS}{now:Int}{i:Nat}{t:NS}{g:FS}(L:OkS s.p.ws)(N:i<Ga now s.p.ws)(h:NOk k t∧InvA k t.p none∧InvB k t.p∧t.p.ws=s.p.ws.drop i∧t.p.es=J0 s.p.ws i s.p.es∧t.p.ms=s.p.ms∧t.p.lst=s.p.lst)(u:g.ok 2 (t.p.ws.drop 1).length):NOk k (Zt t g (t.p.ws.drop 1))∧InvA k (Zt t g (t.p.ws.drop 1)).p (some (s.p.ws.getD i (0,0)).2)∧InvB k (Zt t g (t.p.ws.drop 1)).p∧(Zt t g (t.p.ws.drop 1)).p.ws=s.p.ws.drop (i+1)∧((Zt t g (t.p.ws.drop 1)).p.es=J0 s.p.ws i s.p.es∧ ∃x∈(Zt t g (t.p.ws.drop 1)).p.es,x.2.id=(s.p.ws.getD i (0,0)).2)∧(Zt t g (t.p.ws.drop 1)).p.ms=s.p.ms∧(Zt t g (t.p.ws.drop 1)).p.lst=s.p.lst:=by
  obtain⟨j,l,q,C,D,E,F⟩:=h
  have O:=P6 now s.p.ws
  have G:s.p.ws.drop i=s.p.ws.getD i (0,0)::s.p.ws.drop (i+1):=by
    rw[List.drop_eq_getElem_cons Ae,List.getD_eq_getElem?_getD,List.getElem?_eq_getElem Ae];rfl
  have c:t.p.ws=((s.p.ws.getD i (0,0)).1,(s.p.ws.getD i (0,0)).2)::s.p.ws.drop (i+1):=by rw[C,G]
  have H:=l.pop j.hws c
  have hw:t.p.ws.drop 1=s.p.ws.drop (i+1):=by rw[c];rfl
  refine⟨Aee j u,?_,⟨q.rul,q.tks⟩,hw,⟨D,?_⟩,E,F⟩
  · rw[hw];exact H
  · obtain⟨x,I,J,_⟩:=(l.whl (s.p.ws.getD i (0,0)).2 (s.p.ws.getD i (0,0)).1).1 (by rw[c];exact List.mem_cons_self ..)
    exact⟨x,I,J⟩
theorem Aei(k:NK)(p:NP)(e:SesE)(pb:Nat):(Fm k p e pb).ws=Gh p.ws e.id:=by
  unfold Fm;cases e.given<;>simp only[cond_true,cond_false];cases(decide ((B1 (⟨0,0⟩:Lse) p.zs (Cc (Ed e))).count-1>0))<;>rfl
abbrev Q1k(k:NK)(p2:Nat):List Blk:=[cb p2 [pL (some ⟨k.nb,0,none⟩)] 35]
theorem Aej(k:NK)(s:NS)(M:List Nat)(now:Int)(w:World)(ok:NOk k s)(hl:Mem w M [NG k s] w)(ab:InvA k s.p none)(ay:InvB k s.p)(hF:RngF k.fx)(hU:FxU k.fx)(hM:RngM s.p.ms):Calls prog 19 #[pL (some ⟨k.nb,0,none⟩),iV .u64 now] w (Bn w (fun r:NS=>Inv k r∧r.p.ms=s.p.ms∧r.p.lst=s.p.lst∧r.p.es=s.p.es.filter (fun x=>decide (x.2.ends>now))) (fun _=>.tuple #[]) M (fun r=>[NG k r])):=by
 obtain⟨ca,cc,cd,ce,cf⟩:=NOk.len ok;have hA:=ok.hws
 refine Ap (M:=M) (LL:=[NG k s]) (n:=38) func19 rfl rfl A7 (hl)<|W.s ?_
 refine Ac<|Af rfl (E9 (v:=pL<|some ⟨k.nb,0,none⟩) (cs:=[pL (some ⟨k.nb,0,none⟩)]) rfl rfl Aa rfl) fun V=>?_
 refine Ai<|W.s<|Al [1,0] An rfl<|Ac ?_
 refine A5 3 [(1,0)]<|Ao (Bf (b:=k.nb) (o':=287) (i:=0) (j:=0) (cs:=C3 k s) (v:=pL<|some ⟨k.wb,0,none⟩) rfl Aa isAgg83 rfl rfl<|(Fk rfl 0).trans rfl)<|Ab 1<|Aw rfl (Au [] [0,1] fun H l ad=>(Ao8 k.wb now _)) fun q5 _=>?_
 obtain⟨C,D⟩:=q5
 refine B0 (LL':=[[cb C [pL (some ⟨k.wb,0,none⟩)] 83],[cb D [iV .u64 now] 45],NG k s,Q1k k V]) rfl<|Ai<|W.block ?_
 refine Aed (σ:=NS) (enc:=fun i=>[iV .u64 ((s.p.ws.getD i (0,0)).2)]) (N:=Ga now s.p.ws) (Lu:=fun(g:NS)=>[NG k g,Q1k k V]) (Li:=[[cb C [pL (some ⟨k.wb,0,none⟩)] 83],[cb D [iV .u64 now] 45]]) (Lk:=[]) [2,3] [0,1] [] s (fun i (g:NS)=>NOk k g∧InvA k g.p none∧InvB k g.p∧g.p.ws=s.p.ws.drop i∧g.p.es=J0 s.p.ws i s.p.es∧g.p.ms=s.p.ms∧g.p.lst=s.p.lst) (fun i (g:NS)=>NOk k g∧InvA k g.p (some (s.p.ws.getD i (0,0)).2)∧InvB k g.p∧g.p.ws=s.p.ws.drop (i+1)∧(g.p.es=J0 s.p.ws i s.p.es∧ ∃x∈g.p.es,x.2.id=(s.p.ws.getD i (0,0)).2)∧g.p.ms=s.p.ms∧g.p.lst=s.p.lst) (fun c_ (g:NS)=>False) [15] Aa (fun _ _=>rfl) An (by rfl) rfl rfl rfl (fun _=>rfl) (⟨ok,ab,ay,rfl,(X0 _ _).symm,rfl,rfl⟩) (fun D_ l_ az a0 l=>(Ain k now s.p.ws C D [Q1k k V] _ _ a0 _ (fun i s_ u=>⟨u.1,u.2.2.2.1⟩) fun i s_ g_ a1 u a2=>Al6 hA a1 u a2)) ?_ ?_ ?_
 ·intro D8 l9 b0 ae i a3 a5 Mu15 cl b1 af a6 ag
  obtain⟨h,rfl⟩: ∃a_,a_=a3:=⟨_,rfl⟩
  obtain⟨c,I,hB,ah,⟨X,a9⟩,L,E⟩:=af
  obtain⟨fA,fB,eb,J,t,Y,bb,bc,bd⟩:=Aaz I c.hxs c.hys a9
  have cm:h.p.es[fA.length]? =some (eb,J):=by rw[t,List.getElem?_append_right (Nat.le_refl _)];simp
  obtain⟨aj,ak,al,am,an⟩:=NOk.len c
  refine Ac<|Ab 1<|Ay ?_
  refine fun H u=>ag _ [NG k h,Q1k k V] ?_ H u
  refine W.block<|W.s ?_
  refine Ac<|A5 3 [(3,0)]<|Ao (Bf (b:=k.nb) (o':=288) (i:=2) (j:=0) (cs:=C3 k h) (v:=pL<|some ⟨k.ti,0,none⟩) rfl Aa isAgg89 rfl rfl<|(Fk rfl 1).trans rfl)<|Ab 1<|Cb (v:=Value.tuple #[aV (Kw<|B1 (0,0,0,0,0) h.p.ys<|(s.p.ws.getD i (0,0)).2),bV (Bq h.p.ys<|(s.p.ws.getD i (0,0)).2)]) (A8 fun H l=>(Akq h.p.ys h.gi.a h.gi.cap k.mo k.ti ((s.p.ws.getD i (0,0)).2) _ (Ado (i:=2) l rfl) (NG.ys (i:=2) l rfl c) D1 c.hys)) ?_
  refine Ab 2<|Ao (v:=bV true) ((Ys.p (v:=bV<|Bq h.p.ys<|(s.p.ws.getD i (0,0)).2)).conseq<|B2 bb)<|Af rfl (Ba zeroValue47) fun p5=>Af rfl (A0 p5 0 0 0 (Kw<|B1 (0,0,0,0,0) h.p.ys<|(s.p.ws.getD i (0,0)).2) sizeOf47 rfl rfl) fun _=>Ab 1 ?_
  refine Ai<|Aj []<|Cd Aa<|W.s ?_
  refine C5 [(0,true),(1,true),(2,true),(3,true),(4,false),(5,false),(6,false),(7,true),(8,true),(9,false),(10,false)] [0,1,2,3,7,8]<|Dh 3 [(4,0)]<|Bm rfl (Bf (b:=k.nb) (o':=29) (i:=3) (j:=0) (cs:=C3 k h) (v:=pL<|some ⟨k.ts,0,none⟩) rfl Aa isAgg85 rfl rfl<|(Cf rfl An).trans rfl)<|Bs 1 [(0,0)]<|Ec (v:=Value.tuple #[pL (Cz<|B1 none h.p.xs<|B1 (0,0,0,0,0) h.p.ys<|(s.p.ws.getD i (0,0)).2),bV (Bq h.p.xs<|B1 (0,0,0,0,0) h.p.ys<|(s.p.ws.getD i (0,0)).2)]) rfl (A8 fun H l=>(Mx h.p.xs h.gs.a h.gs.cap k.mo k.ts (B1 (0,0,0,0,0) h.p.ys<|(s.p.ws.getD i (0,0)).2) _ (Fv (i:=3) l rfl) (NG.xs (i:=3) l rfl c) D1 c.hxs)) ?_
  refine Bs 1 []<|Bm (v:=pV eb 0) rfl ((Ys.p (v:=pL<|Cz<|B1 none h.p.xs<|B1 (0,0,0,0,0) h.p.ys<|(s.p.ws.getD i (0,0)).2)).conseq<|(by rw[bc,bd];rfl))<|Bs 3 []<|Cl ?_
  refine Al [1,2,3,4] An rfl ?_
  obtain⟨F,q⟩: ∃z,z=O7 h (fA++fB):=⟨_,rfl⟩
  have Q:NOk k F:=q▸F9 c _
  have T:F.p={h.p with es:=fA++fB}:=by rw[q];rfl
  obtain⟨bf,bg,bh,bi,bj⟩:=NOk.len Q
  refine W.conseq (S':=Mem a5 Mu15 [NG k F,[cb eb (Sq J) 113],dB D8,lB l9 ae,Q1k k V]) (fun H u=>q▸M3 t (u.pick [2,0,1,3] An rfl)) ?_
  have G:=N5 I (by have z_:=Ja c I;omega) (J.pr,J.src,J.frm)
  rw[show h.p.zs=F.p.zs by rw[T]]at G
  have ao:=I.rng (eb,J) (by rw[t];exact Cr.2 (.inl rfl))
  refine Ac<|A5 2 [(4,0)]<|Aw rfl (Au [0,1] [2,3,4] fun H l ad=>(Ad1 k F _ J eb _ Q ad G.1 G.2 ao.pr)) fun Z ap=>?_
  obtain⟨U,aq⟩:=ap
  obtain⟨bk,bl,bm,bn,bo⟩:=NOk.len U
  refine Ay ?_
  obtain⟨bp,ar⟩:=aq
  have aa:Z.p=Fm k {h.p with es:=fA++fB} J bp:=ar.trans (by rw[T])
  have O:=InvA.dropI I c.hxs c.hzs c.hws.nd t (.inr (congrArg some Y.symm)) aa
  have au:=InvB.dropI hB I c.hzs t aa
  have b3:=P6 now s.p.ws
  have bq:=X1 I Ae X t Y
  have br:Z.p.ws=s.p.ws.drop (i+1):=by rw[aa,Aei];show Gh h.p.ws J.id=_;rw[Aeh (fun t_ bs=>by obtain⟨x_,cp,cq,_,bt⟩:=(I.whl J.id t_).1 bs;exact bt (congrArg some Y.symm))];exact ah
  exact fun H u=>Exists.intro Z<|And.intro ⟨U,O.1,au,br,(O.2.1.trans bq.symm),(O.2.2.1.trans L),(O.2.2.2.trans E)⟩<|u.pick [1,2,0,3] An rfl
 ·intro D35 cr b4 bu av
  obtain⟨h,rfl⟩: ∃a_,a_=bu:=⟨_,rfl⟩
  obtain⟨c,I,hB,ah,X,L,E⟩:=av
  obtain⟨aj,ak,al,am,an⟩:=NOk.len c
  refine Gc (LL':=[[cb C [Value.pointer (some ⟨k.wb,0,none⟩)] 83],[cb D [iV .u64 now] 45],NG k h,Q1k k V,dB D35]) [4,5,2,3,0] An rfl ?_
  have bw:h.p.es=s.p.es.filter (fun x=>decide (x.2.ends>now)):=X.trans (Aa0 ab ok.hws)
  show∀H,_→bodyPostM (Cv none) 0 prog Tryz.f19 _ Exit.normal _ H
  exact fun H aw=>Fq (aw.mark (i:=4) rfl).1 (by have bx:Mem w M [[cb C [Value.pointer (some ⟨k.wb,0,none⟩)] 83],[cb D [iV .u64 now] 45],NG k h,Q1k k V,[⟨D35,.deferred none⟩]] _:=(aw.mark (i:=4) rfl).2;exact Iv rfl ⟨h,⟨⟨c,I,hB,hF,hU,by rw[L];exact hM⟩,L,E,bw⟩,rfl,(bx.pick [2] An rfl)⟩)
 ·intro D_ l_ az c_ s_ u;exact u.elim
end Go.Proofs.YtmonlaoaengfdaaGreatDoor.Oct
