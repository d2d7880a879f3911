import Derived.StillTail
import Derived.OrdersIn
import Derived.RangeFuncIn
import Derived.RangeFuncLeaves
import Derived.RangeFuncRecord
import Derived.WalkKit
import Derived.KernelRfl
import Derived.Laws.AppendOwn
import Derived.Laws.OwnMore
import Derived.Laws.MakeOwn
import Derived.Laws.CopyRow
import Derived.Laws.BytesString
import Derived.Laws.Slices
set_option linter.unusedVariables false
set_option linter.unusedSimpArgs false
namespace Go.Proofs.YtmonlaoaengfdaaGreatDoor.Base
open Go.RowKit
abbrev Cy(r:Option Nat):Fence:={Fence.wide with round:=r}
def D9:Exit→Act→World→Prop:=fun _ _ _=>False
def I0(o:Oper):Bool:=match o.op with
  | .defer _=>false
  |_=>true
theorem Of{o:Oper}(h:I0 o=true): ∀c,o.op≠.defer c:=fun c hc=>by simp[I0,hc]at h
theorem G6{P:Program}{f:FuncId}{args:Array Value}{w:World}{R:Ending→World→Prop}{r:Option Nat}{n:Nat}(h:Calls P f args w R):CallsIn (Cy r) n P f args w R:=by
  have h1:CallsIn Fence.wide n P f args w R:=callsIn_wide.2 h
  cases r with
  |none=>exact h1
  |some l=>exact h1
theorem Uw{P:Program}{f:FuncId}{args:Array Value}{w:World}{R:Ending→World→Prop}{r:Option Nat}{n:Nat}(h:CallsIn (Cy r) n P f args w R):Calls P f args w R:=by
  have h1:CallsIn Fence.wide n P f args w R:=by
    cases r with
    |none=>exact h
    |some l=>exact h
  exact callsIn_wide.1 h1
theorem Xs{P:Program}{row:String}{args:Array Value}{w:World}{R:Value→World→Prop}{r:Option Nat}{n:Nat}(h:Rows P row args w R):RowsIn (Cy r) n P row args w R:=fun c cs _=>by
  obtain⟨v,w',hr,hs⟩:=h c cs
  have h2:StepsIn (Machine.fenced P Fence.wide) P (lone (Frame.ofRow P row args .normal) (c::cs) w) (lone (c.finish v) cs w'):=stepsIn_wide.2 hs
  refine⟨v,w',hr,?_⟩
  cases r with
  |none=>exact h2
  |some l=>exact h2
theorem G7{P:Program}{Q:Exit→Act→World→Prop}{r:Option Nat}{n:Nat}{o:Oper}{a:Act}{w:World}{K:Act→World→Prop}(hd:I0 o=true)(h:o.wp P a w K D9):o.wpIn (Cy r) n P a w K Q:=by
  refine⟨fun _ _=>trivial,?_⟩
  have e:o.semAt (Cy r).round a.eval=execOp a.eval o:=Oper.semAt_eq _ _ _ (Of hd)
  rw[e]
  unfold Oper.wp at h
  generalize(execOp a.eval o).run P w=r' at*
  cases r' with
  |ok x w'=>
    cases x<;>simp only[Oper.upon]at h<;>simp only[Oper.uponIn]
    case value=>exact h
    case skip=>exact h
    case defer=>exact h
    case enter=>
      refine⟨fun h=>(by cases h),G6 (Calls.mono h fun e w'' he=>?_)⟩
      cases e with
      |returned v=>exact he
      |panicked c=>exact he.elim
      |outgrown=>obtain⟨_,_,he⟩:=he;exact he.elim
    case row=>exact⟨fun h=>(by cases h),Xs h⟩
    all_goals exact h.elim
  |halt x w'=>
    cases x<;>simp only[Oper.upon]at h
    all_goals exact h.elim
theorem Te{P:Program}{Q:Exit→Act→World→Prop}{r:Option Nat}{n:Nat}{o:Oper}{a:Act}{w:World}{K:Act→World→Prop}(h:o.wpIn (Cy r) n P a w K D9):o.wpIn (Cy r) n P a w K Q:=by
  refine⟨fun _ _=>trivial,?_⟩
  have h:=h.2
  generalize(o.semAt (Cy r).round a.eval).run P w=r' at*
  cases r' with
  |ok x w'=>
    cases x<;>simp only[Oper.uponIn]at h⊢
    case value=>exact h
    case skip=>exact h
    case defer=>exact h
    case enter=>
      refine⟨h.1,CallsIn.mono h.2 fun e w'' he=>?_⟩
      cases e with
      |returned v=>exact he
      |panicked c=>exact he.elim
      |outgrown=>obtain⟨_,_,he⟩:=he;exact he.elim
    case row=>exact h
    case round=>
      refine⟨h.1,RoundIn.mono h.2 fun e w'' he=>?_⟩
      cases e with
      |returned v=>exact he
      |panicked c=>exact he.elim
      |outgrown=>obtain⟨_,_,he⟩:=he;exact he.elim
  |halt x w'=>
    cases x<;>simp only[Oper.uponIn]at h⊢
    all_goals exact h.elim
def wl(r:Option Nat)(P:Program)(ops:Array Oper)(K:Act→World→Prop):List Oper→Act→World→Prop
  | [],a,w=>K a w
  |o::l,a,w=>if Region.wanted o (yielded ops a.tmps)then o.wpIn (Cy r) 0 P a w (wl r P ops K l) D9 else wl r P ops K l (a.put o.dst undef) w
theorem Agj{r:Option Nat}{P:Program}{ops:Array Oper}{K:Act→World→Prop}{Q:Exit→Act→World→Prop}(hK: ∀a w,K a w→Q .normal a w): ∀(l:List Oper) (k:Nat) (a:Act) (w:World),(∀j,l[j]? =ops[k+j]? ∨l.length≤j)→wl r P ops K l a w→wpOpsIn (Cy r) 0 P ops Q (List.range' k l.length) a w
  | [],k,a,w,_,h=>by simpa [wpOpsIn]using hK a w h
  |o::l,k,a,w,hg,h=>by
    have h0:ops[k]? =some o:=by
      rcases hg 0 with e|e
      · simpa using e.symm
      · simp at e
    have ih:=fun a w=>Agj (r:=r) (P:=P) hK l (k+1) a w (fun j=>by
      rcases hg (j+1)with e|e
      · left;rw[←show(o::l)[j+1]? =l[j]? from rfl,e];congr 1;omega
      · right;simpa using e)
    simp only[List.length_cons,List.range'_succ,wpOpsIn,h0]
    simp only[wl]at h
    split at h
    · rename_i hw
      rw[if_pos hw]
      exact Oper.wpIn_mono ih (Te h)
    · rename_i hw
      rw[if_neg hw]
      exact⟨fun _ _=>trivial,ih _ _ h⟩
section
variable {P:Program}{ops:Array Oper}{Q:Exit→Act→World→Prop}{md:Region.Mode}{S:World→Prop}{r:Option Nat}{K:Act→World→Prop}
def YieldsR(P:Program)(ops:Array Oper)(S:World→Prop)(o:Oper)(v:Value)(a:Act):Prop:=
  (Region.wanted o (yielded ops a.tmps)=true∧ ∀w,S w→(execOp a.eval o).run P w=.ok (.value v) w)∨
  (Region.wanted o (yielded ops a.tmps)=false∧v=undef)
theorem YieldsR.wpOp{i:Nat}{o:Oper}{v:Value}{a:Act}(hi:ops[i]? =some o)(hy:YieldsR P ops S o v a)
    {K:Act→World→Prop} {w:World} (hS:S w) (h:K (a.put o.dst v) w):wpOp P ops Q i K a w:=by
  unfold Go.wpOp
  simp only[hi]
  rcases hy with⟨hw,hv⟩|⟨hw,rfl⟩
  · simp only[hw,if_true];refine .inl ?_;unfold Oper.wp;rw[hv w hS];exact h
  · simp only[hw,Bool.false_eq_true,if_false];exact h
theorem YieldsR.put{oi oj:Oper}{v:Value}{a:Act}(hap:oi.apart ops oj=true)(hsi: ∀cs b,oi.op≠.select cs b)(hy:YieldsR P ops S oi v a)(u:Value):
    YieldsR P ops S oi v (a.put oj.dst u):=by
  obtain⟨h1,h2,h3⟩:=Oper.apart_spec hap
  unfold YieldsR at*
  rw[wanted_put oi a oj.dst u h3,execOp_put oi hsi a oj.dst u h3]
  exact hy
theorem YieldsR.defers{o:Oper}{v:Value}{a:Act}(d:Deferred)(hy:YieldsR P ops S o v a):YieldsR P ops S o v {a with defers:=d::a.defers}:=hy
theorem Xt{j:Nat}{oi oj:Oper}{v:Value}{Y:Act→Prop}(hj:ops[j]? =some oj)(hap:oi.apart ops oj=true)
    (hsj: ∀cs b,oj.op≠.select cs b) {K:Act→World→Prop} {a:Act} {w:World}
    (hyp: ∀a u,Y a→Y (a.put oj.dst u)) (hyd: ∀(a:Act) (d:Deferred),Y a→Y {a with defers:=d::a.defers}) (hy:Y a) (h:wpOp P ops D9 j K (a.put oi.dst v) w):
    wpOp P ops Q j (fun a' w'=>Y a'∧K (a'.put oi.dst v) w') a w:=by
  obtain⟨h1,h2,h3⟩:=Oper.apart_spec hap
  unfold wpOp at*
  simp only[hj]at*
  rw[wanted_put oj a oi.dst v h1]at h
  split
  · rename_i hw
    simp only[hw,if_true]at h
    rcases h with h|⟨_,_,_,hlets⟩
    case inr=>exact hlets.elim
    refine .inl ?_
    unfold Oper.wp at*
    rw[execOp_put oj hsj a oi.dst v h1]at h
    generalize(execOp a.eval oj).run P w=r at*
    cases r with
    |ok n w'=>
      cases n<;>simp only[Oper.upon]at h⊢
      case value u=>exact⟨hyp _ u hy,by rw[←Act.put_comm a v u h2];exact h⟩
      case skip=>exact⟨hyp _ _ hy,by rw[←Act.put_comm a v undef h2];exact h⟩
      case defer d=>
        refine⟨hyp _ _ (hyd _ d hy),?_⟩
        rw[←Act.put_comm _ v undef h2,←Act.put_defers]
        exact h
      case enter f args=>
        refine Calls.mono h fun e w'' he=>?_
        cases e with
        |returned u=>exact⟨hyp _ u hy,by rw[←Act.put_comm a v u h2];exact he⟩
        |panicked c=>exact he.elim
        |outgrown=>obtain⟨_,_,he⟩:=he;exact he.elim
      case row row args=>exact Rows.mono h fun u w'' he=>⟨hyp _ u hy,by rw[←Act.put_comm a v u h2];exact he⟩
    |halt x w'=>
      cases x<;>simp only[Oper.upon]at h⊢
      case panic u=>exact h.elim
  · rename_i hw
    simp only[hw]at h
    exact⟨hyp _ _ hy,by rw[←Act.put_comm a v undef h2];exact h⟩
def Kk(ops:Array Oper):Bool:=ops.all I0
theorem Tf{i:Nat}{o:Oper}(h:Kk ops=true)(hi:ops[i]? =some o):I0 o=true:=by
  obtain⟨hl,e⟩:=Array.getElem?_eq_some_iff.1 hi
  have h2:=Array.all_eq_true.1 h i hl
  rw[e]at h2
  exact h2
theorem Xu{i:Nat}{K:Act→World→Prop}{a:Act}{w:World}(hd:Kk ops=true)(h:wpOp P ops D9 i K a w):wpOpIn (Cy r) 0 P ops Q i K a w:=by
  unfold wpOp at h
  unfold wpOpIn
  split
  · rename_i ho;simpa [ho]using h
  · rename_i o ho
    simp only[ho]at h
    split
    · rename_i hw
      simp only[hw,if_true]at h
      rcases h with h|⟨_,_,_,hlets⟩
      · exact G7 (Tf hd ho) h
      · exact hlets.elim
    · rename_i hw;simp only[hw]at h;exact⟨fun _ _=>trivial,by simpa using h⟩
def Fk(md:Region.Mode)(ops:Array Oper)(A:List Nat)(j:Nat):Bool:=A.all fun i=>match ops[j]? with
  |some oj=>oj.after.any fun e=>Region.binds md e&&e.on==i
  |none=>false
theorem Xv{A:List Nat}{i j:Nat}{oj:Oper}(hi:i∈A)(hj:ops[j]? =some oj)(hn: ∀e∈oj.after,Region.binds md e=true→e.on≠i):Fk md ops A j≠true:=fun h=>by
  have:=List.all_eq_true.1 h i hi
  rw[hj]at this
  simp only[Array.any_eq_true,Bool.and_eq_true,beq_iff_eq]at this
  obtain⟨q,hq,hb,he⟩:=this
  exact hn _ (Array.getElem_mem hq) hb he
def Kl(P:Program)(md:Region.Mode)(ops:Array Oper)(K:Act→World→Prop)(S:World→Prop)(A:List Nat):Nat→Array Bool→Act→World→Prop
  |0,listed,a,w=>Region.ready md ops listed=[]∧K a w
  |f+1,listed,a,w=>(Region.ready md ops listed=[]→K a w)∧
    ∀i∈Region.ready md ops listed,wpOp P ops D9 i (fun a' w'=>(Fk md ops A i=true∨S w')∧Kl P md ops K S A f (listed.setIfInBounds i true) a' w') a w
theorem Ma{A:List Nat}(hd:Kk ops=true)(hK: ∀a w,K a w→Q .normal a w): ∀(f:Nat) (listed:Array Bool) (a:Act) (w:World),Kl P md ops K S A f listed a w→wpAnyIn (Cy r) 0 P md ops Q f listed a w
  |0,listed,a,w,h=>⟨h.1,hK _ _ h.2⟩
  |f+1,listed,a,w,h=>⟨fun h0=>hK _ _ (h.1 h0),fun i hi=>wpOpIn_mono (fun a' w' h'=>Ma hd hK f _ a' w' h'.2) (Xu hd (h.2 i hi))⟩
theorem Ky{A:List Nat}{i:Nat}{oi:Oper}{v:Value}(hA:i∈A)(hi:ops[i]? =some oi)(hsel: ∀(j:Nat) (o:Oper) cs b,ops[j]? =some o→o.op≠.select cs b):
    ∀(f:Nat) (listed:Array Bool) (a:Act) (w:World),
      (∀j oj,ops[j]? =some oj→j≠i→listed.getD j true=false→(∀e∈oj.after,Region.binds md e=true→e.on≠i)→oi.apart ops oj=true)→
      i∈Region.ready md ops listed→YieldsR P ops S oi v a→S w→
      Kl P md ops K S A f (listed.setIfInBounds i true) (a.put oi.dst v) w→Kl P md ops K S A (f+1) listed a w:=by
  intro f
  induction f with
  |zero=>
    intro listed a w _ hr hy hS H
    refine⟨fun h=>(by rw[h]at hr;cases hr),fun j hj=>?_⟩
    by_cases hji:j=i
    · subst hji;exact hy.wpOp hi hS ⟨.inr hS,H⟩
    · have:=ready_mono hj hji
      rw[H.1]at this
      cases this
  |succ f ih=>
    intro listed a w hfree hr hy hS H
    refine⟨fun h=>(by rw[h]at hr;cases hr),fun j hj=>?_⟩
    by_cases hji:j=i
    · subst hji;exact hy.wpOp hi hS ⟨.inr hS,H⟩
    · have hun:=(mem_ready.1 hr).1
      have h1:=H.2 j (ready_mono hj hji)
      obtain⟨hjun,oj,hoj,hall⟩:=mem_ready.1 hj
      have hnot: ∀e∈oj.after,Region.binds md e=true→e.on≠i:=fun e he hb heq=>by
        have h1:=hall e he hb
        rw[heq]at h1
        rcases Nat.lt_or_ge i listed.size with h'|h'
        · simp[h']at hun h1;rw[hun]at h1;cases h1
        · simp[Array.getElem?_eq_none h']at h1
      have hw:=Xv (md:=md) hA hoj hnot
      have hap:=hfree j oj hoj hji hjun hnot
      have h2:=Xt (Q:=D9) (Y:=YieldsR P ops S oi v) hoj hap (fun cs b=>hsel j oj cs b hoj) (fun a u hy=>hy.put hap (fun cs b=>hsel i oi cs b hi) u) (fun a d hy=>hy.defers d) hy h1
      have hfree': ∀k ok,ops[k]? =some ok→k≠i→(listed.setIfInBounds j true).getD k true=false→
          (∀e∈ok.after,Region.binds md e=true→e.on≠i)→oi.apart ops ok=true:=fun k ok hk hki hun hno=>by
        refine hfree k ok hk hki ?_ hno
        by_cases hjk:j=k
        · subst hjk;exact hjun
        · rw[getD_set_ne true hjk]at hun;exact hun
      refine wpOp_mono (fun a' w' h3=>⟨h3.2.1,ih (listed.setIfInBounds j true) a' w' hfree' (ready_mono hr (Ne.symm hji)) h3.1 (h3.2.1.resolve_left hw) ?_⟩) h2
      rw[Array.setIfInBounds_comm _ _ hji]
      exact h3.2.2
def Kz(md:Region.Mode)(ops:Array Oper)(A:List Nat):Array Bool→List (Nat×Bool)→Bool
  |listed,[]=>(Region.ready md ops listed).isEmpty
  |listed,(i,true)::l=>A.contains i&&(Region.ready md ops listed).contains i&&Region.free md ops listed i&&Kz md ops A (listed.setIfInBounds i true) l
  |listed,(i,false)::l=>(Region.ready md ops listed==[i])&&(!Fk md ops A i||l.all (fun p=> !p.2))&&Kz md ops A (listed.setIfInBounds i true) l
def wd(P:Program)(md:Region.Mode)(ops:Array Oper)(K:Act→World→Prop)(S:World→Prop)(A:List Nat):List (Nat×Bool)→Act→World→Prop
  | [],a,w=>K a w
  |(i,true)::l,a,w=> ∃o v,ops[i]? =some o∧YieldsR P ops S o v a∧wd P md ops K S A l (a.put o.dst v) w
  |(i,false)::l,a,w=>wpOp P ops D9 i (fun a' w'=>(Fk md ops A i=true∨S w')∧wd P md ops K S A l a' w') a w
theorem Og{A:List Nat}(hsel:Region.noSelect ops=true): ∀(l:List (Nat×Bool)) (listed:Array Bool) (a:Act) (w:World),Kz md ops A listed l=true→(S w∨l.all (fun p=> !p.2)=true)→wd P md ops K S A l a w→Kl P md ops K S A l.length listed a w
  | [],listed,a,w,hp,hS,h=>by
    simp only[Kz,List.isEmpty_iff]at hp
    exact⟨hp,h⟩
  |(i,true)::l,listed,a,w,hp,hS,h=>by
    simp only[Kz,Bool.and_eq_true]at hp
    obtain⟨o,v,ho,hy,hw⟩:=h
    have hS:S w:=hS.resolve_right (by simp)
    exact Ky (by simpa using hp.1.1.1) ho (Region.noSelect_spec hsel) l.length listed a w (Region.free_spec ho hp.1.2) (by simpa using hp.1.1.2) hy hS (Og hsel l _ _ w hp.2 (.inl hS) hw)
  |(i,false)::l,listed,a,w,hp,hS,h=>by
    simp only[Kz,Bool.and_eq_true,beq_iff_eq]at hp
    refine⟨fun h0=>(by rw[hp.1.1]at h0;cases h0),fun j hj=>?_⟩
    rw[hp.1.1]at hj
    obtain rfl:j=i:=by simpa using hj
    refine wpOp_mono (fun a' w' h'=>⟨h'.1,Og hsel l _ a' w' hp.2 ?_ h'.2⟩) h
    rcases h'.1 with hw|hw
    · right;have h3:=hp.1.2;rw[hw]at h3;simpa using h3
    · exact .inl hw
theorem Oh{id:Nat}{l:List Oper}{a:Act}{w:World}(pl:List (Nat×Bool))(A:List Nat)(S:World→Prop)(hm:P.follows .mixedOrders=true)(hd:Kk l.toArray=true)(hsel:Region.noSelect l.toArray=true)
    (hl:pl.length=l.length) (hp:Kz .any l.toArray A (Array.replicate l.length false) pl=true) (hK: ∀a w,K a w→Q .normal a w) (hS:S {w with drawn:=w.drawn+1})
    (h:wd P .any l.toArray K S A pl a {w with drawn:=w.drawn+1}):(Code.region id l.toArray true).wpIn (Cy r) 0 P Q a w:=by
  refine wpIn_region_any hm ?_
  have h1:=Ma (r:=r) (Q:=Q) hd hK _ _ _ _ (Og (md:=.any) hsel pl (Array.replicate l.length false) a _ hp (.inl hS) h)
  rw[hl]at h1
  simpa using h1
end
abbrev sL(a:Option Addr)(l c:Nat):Value:=.slice a l c
abbrev pL(a:Option Addr):Value:=.pointer a
abbrev nV(k:IntKind)(n:Nat):Value:=.int k ((n:Nat):Int)
abbrev iV(k:IntKind)(n:Int):Value:=.int k n
abbrev bV(b:Bool):Value:=.bool b
abbrev pV(b o:Nat):Value:=.pointer (some ⟨b,o,none⟩)
abbrev aV(l:List Value):Value:=.agg l.toArray
theorem zA:(∀a b:Bool,((a&&b)=true)=(a=true∧b=true))∧(∀a b:Bool,((a||b)=true)=(a=true∨b=true))∧(∀b:Bool,((!b)=true)=(b=false))∧(∀b:Bool,((!b)=false)=(b=true))∧(∀a b:Bool,((a&&b)=false)↔(a=false∨b=false))∧(∀a b:Bool,((a||b)=false)↔(a=false∧b=false))∧(∀(p:Prop) [Decidable p],(decide p=true)=p)∧(∀(p:Prop) [Decidable p],decide p=false↔ ¬p)
  ∧(∀(α:Type) [BEq α] [LawfulBEq α] (a b:α),((a==b)=true)↔a=b)∧(∀(α:Type) [BEq α] [LawfulBEq α] (a b:α),((a !=b)=true)↔a≠b)∧(∀(α:Type) [BEq α] [LawfulBEq α] (a b:α),((a==b)=false)↔a≠b)∧(∀(α:Type) [BEq α] [LawfulBEq α] (a b:α),((a !=b)=false)↔a=b):=
  ⟨Bool.and_eq_true,Bool.or_eq_true,Bool.not_eq_true',Bool.not_eq_false',fun _ _=>Bool.and_eq_false_iff,fun _ _=>Bool.or_eq_false_iff,fun _ _=>decide_eq_true_eq,fun _ _=>decide_eq_false_iff_not,fun _ _ _ _ _=>beq_iff_eq,fun _ _ _ _ _=>bne_iff_ne,fun _ _ _ _ _=>beq_eq_false_iff_ne,fun _ _ _ _ _=>bne_eq_false_iff_eq⟩
theorem kr.{u}{α:Sort u}{a b:α}(h:a=b:=by kernel_rfl):a=b:=h
theorem om{p:Prop}(h:p:=by omega):p:=h
theorem de{p:Prop}(h:p:=by decide):p:=h
theorem sp{p:Prop}(h:p:=by simp):p:=h
theorem lb{p:Prop}{a b:Nat}(e:p=(a≤b):=by rfl)(h:Nat.ble a b=true:=by kernel_rfl):p:=e▸Nat.le_of_ble_eq_true h
theorem Ae{p:Prop}(h:p:=by kernel_rfl):p:=h
theorem Ag{p:Prop}(h:p:=by omega):p:=h
theorem Al{p:Prop}(h:p:=by decide):p:=h
theorem Zb{p:Prop}(h:p:=by simp[Value.oneCell']):p:=h
theorem Ef{p:Prop}(h:p:=by first|omega|(simp;done)|(simp;omega)):p:=h
theorem I7{p:Prop}(h:p:=by first|rfl|omega|(rw[List.length_take];omega)|(simp;done)|(simp[A8,A8,By];omega)):p:=h
theorem S7{p:Prop}(h:p:=by first|rfl|(rw[Da,List.length_take];omega)|(rw[Da,List.length_take,List.length_drop];omega)|(simp[mc,A8,By];done)|(simp[mc,A8,By];omega)):p:=h
theorem E5{p:Prop}(h:p:=by rw[Da,A8,Nat.mul_one];try rfl):p:=h
theorem S8{p:Prop}(h:p:=by first|rfl|(rw[Da,List.length_take];omega)|(rw[Da,List.length_take,List.length_drop];omega)|(simp[mc,A8];done)|(simp[mc,A8];omega)):p:=h
theorem Ex{p:Prop}(h:p:=by first|omega|(simp;omega)):p:=h
theorem A5{p:Prop}(h:p:=by simp):p:=h
theorem K0{p:Prop}(h:p:=by first|omega|exact Ag2 _|exact Ag3 _|exact Aj2 .. |exact Acj (by first|omega|exact Dx _ _) _|exact Dx _ _):p:=h
theorem Gv{p:Prop}(h:p:=by simp only[maxLen];first|omega|(simp;done)|(simp;omega)):p:=h
theorem Fa{p:Prop}(h:p:=by first|omega|exact Ag2 _|exact Ag3 _):p:=h
theorem Tg{p:Prop}(h:p:=by rw[(show(cs.drop (i*6)).length=(n-i)*6 by rw[List.length_drop,hcs];omega)];(try simp only[List.length_append,List.length_take]);omega):p:=h
theorem Kb{p:Prop}(h:p:=by rw[hnl];(try simp only[List.length_append,List.length_take]);omega):p:=h
theorem M8{p:Prop}(h:p:=by first|omega|(simp[A8,A8,By];done)|(simp[A8,A8,By];omega)):p:=h
theorem Fb{p:Prop}(h:p:=by first|omega|(simp;done)):p:=h
theorem Hj{p:Prop}(h:p:=by rw[Da];first|omega|(simp;omega)):p:=h
theorem I8{p:Prop}(h:p:=by first|omega|(simp[A8,By];omega)):p:=h
theorem Zc{p:Prop}(h:p:=by first|rfl|(rw[List.length_take];omega)|(rw[List.length_take,List.length_drop];omega)|(simp[A8,By];done)|(simp[A8,By];omega)):p:=h
theorem H0{p:Prop}(h:p:=by show _<18446744073709551616;omega):p:=h
theorem Zd{p:Prop}(h:p:=by first|omega|exact Dx _ _):p:=h
theorem Ac3{p:Prop}(h:p:=by rw[(show(cs.drop ((i+1)*6)).length=(n-(i+1))*6 by rw[List.length_drop,hcs];omega)];(try simp only[List.length_append,List.length_take]);omega):p:=h
theorem Ac4{p:Prop}(h:p:=by first|(simp only[Da];omega)|(simp only[Da,List.length_append,List.length_take,List.length_drop];omega)|(simp[mc,A8];try omega)):p:=h
theorem Ac5{p:Prop}(h:p:=by rw[(show(cs.drop (i*5)).length=(n-i)*5 by rw[List.length_drop,hcs];omega)];(try simp only[List.length_append,List.length_take]);omega):p:=h
theorem Ac6{p:Prop}(h:p:=by rw[(show(cs.drop (i*2)).length=(n-i)*2 by rw[List.length_drop,hcs];omega)];(try simp only[List.length_append,List.length_take]);omega):p:=h
theorem Kc{p:Prop}(h:p:=by simp[A8,By];try omega):p:=h
theorem Xw{p:Prop}(h:p:=by first|rfl|(simp[A8,A8,By];done)|(simp[A8,A8,By];omega)):p:=h
theorem Mb{p:Prop}(h:p:=by simp[mc,A8,By];try omega):p:=h
theorem H1{p:Prop}(h:p:=by show _<65536;omega):p:=h
theorem Ac7{p:Prop}(h:p:=by first|rfl|omega|(rw[List.length_take];omega)|(simp;done)|(simp[A8,A8,By,Oc];omega)):p:=h
theorem Th{p:Prop}(h:p:=by simp only[List.length_cons,List.length_nil];omega):p:=h
theorem Kd{p:Prop}(h:p:=by show min _ _=_;omega):p:=h
theorem Ps{p:Prop}(h:p:=by first|(simp;done)|(simp;omega)):p:=h
theorem I9{p:Prop}(h:p:=by first|rfl|omega):p:=h
theorem Ag9{p:Prop}(h:p:=by unfold Nh;first|rw[if_pos (by omega)]|rw[if_neg (by omega),if_pos (by omega)]|rw[if_neg (by omega),if_neg (by omega)]):p:=h
theorem Ti{p:Prop}(h:p:=by rw[List.length_drop,hc,Nat.sub_mul];omega):p:=h
theorem Rr{p:Prop}(h:p:=by first|omega|exact Ajk (by omega)):p:=h
theorem Mc{p:Prop}(h:p:=by show s.p.lst≤_;omega):p:=h
theorem Ac8{p:Prop}(h:p:=by simp only[List.flatten_cons,List.flatten_nil,List.append_nil,List.append_assoc]):p:=h
theorem Pt{p:Prop}(h:p:=by first|omega|trivial|simp):p:=h
theorem Rs{p:Prop}(h:p:=by show(21:Int)≠0;decide):p:=h
theorem Xx{p:Prop}(h:p:=by rw[Eb (C5 ok (by omega))];rfl):p:=h
abbrev Y6:List Value:=[iV .u8 0,iV .u32 0,iV .u32 0,iV .u16 0,iV .u16 0]
abbrev M9:List Value:=[iV .u8 0,iV .u8 0,iV .u16 0,iV .u32 0,iV .u32 0,Value.slice none 0 0]
abbrev zl2:List Value:=[iV .u16 0,iV .u16 0,iV .u32 0,iV .u32 0,iV .u8 0,iV .u16 0,iV .u16 0,Value.slice none 0 0,Value.slice none 0 0]
abbrev zl3:List Value:=[iV .u16 0,iV .u16 0,bV false,Value.slice none 0 0]
abbrev zl4:List Value:=[iV .u8 0,iV .u32 0,iV .u32 0,iV .u16 0,iV .u16 0,Value.pointer none]
abbrev zl5:List Value:=[iV .i64 0,iV .u8 0,iV .u8 0,iV .u16 0,iV .u32 0,iV .u32 0,Value.slice none 0 0,iV .u64 0,iV .u64 0,Value.slice none 0 0]
abbrev zl6:List Value:=[iV .u8 0,iV .u8 0,iV .u32 0,Value.slice none 0 0]
abbrev zl7:List Value:=[iV .u8 0,iV .u32 0,iV .u16 0]
abbrev zl8:List Value:=[iV .u16 0,iV .i64 0]
abbrev zl9:List Value:=[iV .u8 0,iV .u32 0,iV .u16 0,iV .u16 0,iV .i64 0]
abbrev Ux:List Value:=[iV .u64 0,iV .u8 0,iV .u32 0,iV .u32 0,iV .u16 0,iV .u16 0]
abbrev Akw:List Value:=[iV .u8 0,iV .u16 0,iV .u16 0,iV .u32 0,iV .u32 0]
abbrev Xy:List Value:=[iV .u8 0,iV .u16 0,iV .u16 0,iV .u32 0]
abbrev Pu:List Value:=[Value.pointer none]
abbrev Na:List Value:=[iV .u8 0,iV .u8 0]
end Go.Proofs.YtmonlaoaengfdaaGreatDoor.Base
namespace Go.Proofs.YtmonlaoaengfdaaGreatDoor.Base
open Go.RowKit
def Ft(f:Nat→Value)(d:Nat)(v:Value):Nat→Value:=fun k=>bif Nat.beq k d then v else f k
def Fr(n:Nat)(ds:List Deferred)(f:Nat→Value):Act:={tmps:=Array.ofFn (n:=n) fun i=>f i.1,defers:=ds}
def ev(n:Nat)(f:Nat→Value):Operand→Value
  | .tmp t=>bif Nat.blt t n then f t else undef
  | .const v=>v
  | .global g=>.pointer (some ⟨g,0,none⟩)
  | .func k=>.func (.func k) #[] #[]
theorem C1(n:Nat)(ds:List Deferred)(f:Nat→Value):(Fr n ds f).eval=ev n f:=by
  funext x
  cases x with
  |tmp t=>
    by_cases h:t<n
    · have hb:Nat.blt t n=true:=by simpa [Nat.blt_eq]using h
      simp[Act.eval,ev,Fr,h,hb,Array.getD]
    · have hb:Nat.blt t n=false:=by
        cases hb:Nat.blt t n with
        |false=>rfl
        |true=>exact absurd (by simpa [Nat.blt_eq]using hb) h
      simp[Act.eval,ev,Fr,h,hb,Array.getD]
  |const v=>rfl
  |global g=>rfl
  |func k=>rfl
theorem De(n:Nat)(ds:List Deferred)(f:Nat→Value)(d:Nat)(v:Value):(Fr n ds f).put (some d) v=Fr n ds (Ft f d v):=by
  simp only[Act.put,Fr,Act.mk.injEq,and_true]
  apply Array.ext
  · simp
  · intro i h1 h2
    simp only[Array.size_setIfInBounds,Array.size_ofFn]at h1
    by_cases hi:d=i
    · subst hi
      simp[Ft]
    · rw[Array.getElem_setIfInBounds_ne (by simpa using h1) hi]
      have hb:Nat.beq i d=false:=by
        cases hb:Nat.beq i d with
        |false=>rfl
        |true=>exact absurd (Nat.eq_of_beq_eq_true hb).symm hi
      simp[Ft,hb]
theorem Ja(n:Nat)(ds:List Deferred)(f:Nat→Value)(v:Value):(Fr n ds f).put none v=Fr n ds f:=rfl
def yl(ops:Array Oper)(n:Nat)(f:Nat→Value)(j:Nat):Option Bool:=
  match(ops[j]?).bind (·.dst)with
  |some t=>match ev n f (.tmp t)with
    | .bool b=>some b
    |_=>none
  |none=>none
theorem Ze(n t:Nat)(f:Nat→Value)(h: ¬t<n):ev n f (.tmp t)=undef:=by
  have hb:Nat.blt t n=false:=by
    cases hb:Nat.blt t n with
    |false=>rfl
    |true=>exact absurd (by simpa [Nat.blt_eq]using hb) h
  simp[ev,hb]
theorem Df(ops:Array Oper)(n:Nat)(ds:List Deferred)(f:Nat→Value):yielded ops (Fr n ds f).tmps=yl ops n f:=by
  funext j
  unfold yielded yl
  cases hd:(ops[j]?).bind (·.dst)with
  |none=>rfl
  |some t=>
    simp only[Option.bind_some]
    by_cases h:t<n
    · have hb:Nat.blt t n=true:=by simpa [Nat.blt_eq]using h
      have e:(Fr n ds f).tmps[t]? =some (f t):=by simp[Fr,h]
      rw[e]
      simp only[ev,hb,cond_true]
      cases f t<;>rfl
    · have e:(Fr n ds f).tmps[t]? =none:=Array.getElem?_eq_none (by simpa [Fr]using h)
      rw[e,Ze n t f h]
      rfl
theorem La{ops:Array Oper}{n:Nat}{f:Nat→Value}{o:Oper}{j:Nat}{want e:Bool}(hg:o.guard=some (j,want))(h:yl ops n f j=some e):
    Region.wanted o (yl ops n f)=(e==want):=by
  simp[Region.wanted,hg,h]
theorem Jb{f:Nat→Value}{d:Nat}{v:Value}(h:f d=v):Ft f d v=f:=by
  funext k
  unfold Ft
  cases hk:Nat.beq k d with
  |false=>rfl
  |true=>rw[Nat.eq_of_beq_eq_true hk];exact h.symm
def Gp:List (Nat×Value)→(Nat→Value)→Nat→Value
  | [],f=>f
  |(d,v)::l,f=>Ft (Gp l f) d v
def Mx(f:Nat→Value):List (Nat×Value)→Prop
  | []=>True
  |(d,v)::l=>f d=v∧Mx f l
theorem Fe: ∀{l:List (Nat×Value)} {f:Nat→Value},Mx f l→Gp l f=f
  | [],_,_=>rfl
  |(d,v)::l,f,h=>by
    show Ft (Gp l f) d v=f
    rw[Fe h.2]
    exact Jb h.1
structure Blk where
  b:Nat
  o:Obj
abbrev cb(b:Nat)(cs:List Value)(t:TypeId):Blk:=⟨b,.cells cs.toArray t (0,0)⟩
structure Mem0(w0:World)(M:List Nat)(L:List Blk)(w:World):Prop where
  os:w.os=w0.os
  tape:w.tape=w0.tape
  output:w.output=w0.output
  size:w0.heap.size≤w.heap.size
  same: ∀k,k<w0.heap.size→k∉M→w.heap[k]? =w0.heap[k]?
  here: ∀p∈L,w.heap[p.b]? =some p.o
  nodup:(L.map (·.b)).Nodup
  old: ∀p∈L,p.b<w0.heap.size→p.b∈M
theorem Mem0.refl(w:World):Mem0 w [] [] w:=⟨rfl,rfl,rfl,Nat.le_refl _,fun _ _ _=>rfl,fun p hp=>(by cases hp),List.nodup_nil,fun p hp=>(by cases hp)⟩
theorem Mem0.drawn{w0 w:World}{M:List Nat}{L:List Blk}(h:Mem0 w0 M L w)(k:Nat):Mem0 w0 M L {w with drawn:=k}:=
  ⟨h.os,h.tape,h.output,h.size,h.same,h.here,h.nodup,h.old⟩
theorem Mem0.lt{w0 w:World}{M:List Nat}{L:List Blk}(h:Mem0 w0 M L w){p:Blk}(hp:p∈L):p.b<w.heap.size:=by
  have:=h.here p hp
  exact(Array.getElem?_eq_some_iff.1 this).1
theorem Mem0.below{w0 w:World}{L:List Blk}(h:Mem0 w0 [] L w):Below w0.heap.size w0 w:=
  ⟨h.os,h.tape,h.output,h.size,fun k hk=>h.same k hk (by simp)⟩
theorem Mem0.at{w0 w:World}{M:List Nat}{L:List Blk}(h:Mem0 w0 M L w){i:Nat}{p:Blk}(hi:L[i]? =some p):w.heap[p.b]? =some p.o:=
  h.here p (List.mem_of_getElem? hi)
theorem Mem0.cell{w0 w:World}{M:List Nat}{L:List Blk}(h:Mem0 w0 M L w){i b o:Nat}{cs:List Value}{t:TypeId}{v:Value}(hi:L[i]? =some (cb b cs t))(hv:cs[o]? =some v):
    w.cell? ⟨b,o,none⟩=some v:=by
  have:=h.at hi
  simp only at this
  simp[World.cell?,this,hv]
theorem Mem0.allocO{w0 w:World}{M:List Nat}{L:List Blk}(h:Mem0 w0 M L w)(o:Obj):
    Mem0 w0 M (⟨w.heap.size,o⟩::L) {w with heap:=w.heap.push o} where
  os:=h.os
  tape:=h.tape
  output:=h.output
  size:=by have:=h.size;simp;omega
  same:=fun k hk hm=>by
    have hs:=h.size
    show(w.heap.push _)[k]? =_
    rw[Array.getElem?_push,if_neg (by omega)]
    exact h.same k hk hm
  here:=fun p hp=>by
    show(w.heap.push _)[p.b]? =_
    rcases List.mem_cons.1 hp with rfl|hp
    · simp
    · have:=h.lt hp
      rw[Array.getElem?_push,if_neg (by omega)]
      exact h.here p hp
  nodup:=by
    simp only[List.map_cons,List.nodup_cons]
    refine⟨fun hm=>?_,h.nodup⟩
    obtain⟨p,hp,hb⟩:=List.mem_map.1 hm
    have:=h.lt hp
    omega
  old:=fun p hp hb=>by
    rcases List.mem_cons.1 hp with rfl|hp
    · have:=h.size;simp at hb;omega
    · exact h.old p hp hb
theorem Mem0.alloc{w0 w:World}{M:List Nat}{L:List Blk}(h:Mem0 w0 M L w)(cs:List Value)(t:TypeId):
    Mem0 w0 M ((cb w.heap.size cs t)::L) {w with heap:=w.heap.push (.cells cs.toArray t (0,0))}:=h.allocO _
theorem Mem0.putO{w0 w w':World}{M:List Nat}{L:List Blk}(h:Mem0 w0 M L w){i b:Nat}{o o':Obj}(hi:L[i]? =some ⟨b,o⟩)
    (hos:w'.os=w.os) (htape:w'.tape=w.tape) (hout:w'.output=w.output) (hsize:w.heap.size≤w'.heap.size) (hoth: ∀k,k<w.heap.size→k≠b→w'.heap[k]? =w.heap[k]?)
    (hb:w'.heap[b]? =some o'):Mem0 w0 M (L.set i ⟨b,o'⟩) w' where
  os:=hos.trans h.os
  tape:=htape.trans h.tape
  output:=hout.trans h.output
  size:=Nat.le_trans h.size hsize
  same:=fun k hk hm=>by
    have hmem:=List.mem_of_getElem? hi
    have hs:=h.size
    rw[hoth k (by omega) (fun e=>hm (e▸h.old _ hmem (e▸hk)))]
    exact h.same k hk hm
  here:=fun p hp=>by
    rcases List.mem_or_eq_of_mem_set hp with hp'|rfl
    · by_cases hpb:p.b=b
      · --the block itself:nodup says that p stands at i,but there stands the new one
        obtain⟨j,hj,hpj⟩:=List.getElem_of_mem hp
        simp only[List.length_set]at hj
        by_cases hji:i=j
        · subst hji
          rw[List.getElem_set_self]at hpj
          rw[←hpj];exact hb
        · rw[List.getElem_set_ne hji]at hpj
          obtain⟨hi',hpi⟩:=List.getElem?_eq_some_iff.1 hi
          have hnd:=h.nodup
          have e1:(L.map (·.b))[j]'(by simpa using hj)=b:=by simp[hpj,hpb]
          have e2:(L.map (·.b))[i]'(by simpa using hi')=b:=by simp[hpi]
          have:=(List.getElem_inj hnd).1 (e1.trans e2.symm)
          exact absurd this.symm hji
      · rw[hoth p.b (h.lt hp') hpb]
        exact h.here p hp'
    · exact hb
  nodup:=by
    obtain⟨hi',hpi⟩:=List.getElem?_eq_some_iff.1 hi
    have e:(L.set i ⟨b,o'⟩).map (·.b)=L.map (·.b):=by
      rw[List.map_set]
      apply List.ext_getElem?
      intro j
      by_cases hji:i=j
      · subst hji
        simp[hi',hpi]
      · rw[List.getElem?_set_ne hji]
    rw[e];exact h.nodup
  old:=fun p hp hlt=>by
    rcases List.mem_or_eq_of_mem_set hp with hp|rfl
    · exact h.old p hp hlt
    · exact h.old ⟨b,o⟩ (List.mem_of_getElem? hi) hlt
theorem Mem0.put{w0 w w':World}{M:List Nat}{L:List Blk}(h:Mem0 w0 M L w){i b:Nat}{cs cs':List Value}{t:TypeId}(hi:L[i]? =some (cb b cs t))
    (hos:w'.os=w.os) (htape:w'.tape=w.tape) (hout:w'.output=w.output) (hsize:w.heap.size≤w'.heap.size) (hoth: ∀k,k<w.heap.size→k≠b→w'.heap[k]? =w.heap[k]?)
    (hb:w'.heap[b]? =some (.cells cs'.toArray t (0,0))):Mem0 w0 M (L.set i (cb b cs' t)) w':=h.putO hi hos htape hout hsize hoth hb
theorem Mem0.setCell{w0 w:World}{M:List Nat}{L:List Blk}(h:Mem0 w0 M L w){i b o:Nat}{cs:List Value}{t:TypeId}(hi:L[i]? =some (cb b cs t))(v:Value):
    Mem0 w0 M (L.set i (cb b (cs.set o v) t)) (w.setCell ⟨b,o,none⟩ v):=by
  have hb:=h.at hi
  simp only at hb
  refine h.put hi rfl rfl rfl (by simp[World.setCell]) (fun k _ hk=>?_) ?_
  · simp only[World.setCell,Array.getElem?_modify];rw[if_neg (by omega)]
  · simp only[World.setCell,Array.getElem?_modify,if_true,hb]
    simp
theorem Mem0.sub{w0 w:World}{M:List Nat}{L L':List Blk}(h:Mem0 w0 M L w)(hs: ∀p∈L',p∈L)(hn:(L'.map (·.b)).Nodup):Mem0 w0 M L' w:=
  ⟨h.os,h.tape,h.output,h.size,h.same,fun p hp=>h.here p (hs p hp),hn,fun p hp=>h.old p (hs p hp)⟩
theorem Mem0.ext{w0 w w':World}{M:List Nat}{L:List Blk}(h:Mem0 w0 M L w)(hb:Below w.heap.size w w'):Mem0 w0 M L w':=
  ⟨hb.os.trans h.os,hb.tape.trans h.tape,hb.output.trans h.output,Nat.le_trans h.size hb.size,fun k hk hm=>(hb.block k (by have:=h.size;omega)).trans (h.same k hk hm),
    fun p hp=>(hb.block _ (h.lt hp)).trans (h.here p hp),h.nodup,h.old⟩
def Mem(w0:World)(M:List Nat)(LL:List (List Blk))(w:World):Prop:=Mem0 w0 M LL.flatten w
section
variable {w0 w w':World}{M:List Nat}{LL LL' R:List (List Blk)}{i j b:Nat}{s:List Blk}
theorem H2: ∀(LL:List (List Blk)) (i j:Nat) (s:List Blk) (p:Blk),LL[i]? =some s→s[j]? =some p→
    ∃k,LL.flatten[k]? =some p∧ ∀p',(LL.set i (s.set j p')).flatten=LL.flatten.set k p'
  | [],i,j,s,p,h,_=>by simp at h
  |t::LL,0,j,s,p,h,hj=>by
    obtain rfl:t=s:=by simpa using h
    have hl:=(List.getElem?_eq_some_iff.1 hj).1
    refine⟨j,?_,fun p'=>?_⟩
    · rw[List.flatten_cons,List.getElem?_append_left hl];exact hj
    · rw[List.set_cons_zero,List.flatten_cons,List.flatten_cons,List.set_append_left _ _ hl]
  |t::LL,i+1,j,s,p,h,hj=>by
    obtain⟨k,h1,h2⟩:=H2 LL i j s p (by simpa using h) hj
    refine⟨t.length+k,?_,fun p'=>?_⟩
    · rw[List.flatten_cons,List.getElem?_append_right (by omega)];rw[show t.length+k-t.length=k by omega];exact h1
    · rw[List.set_cons_succ,List.flatten_cons,List.flatten_cons,h2 p',List.set_append_right _ _ (by omega)]
      rw[show t.length+k-t.length=k by omega]
theorem Mem.refl(w:World):Mem w [] [] w:=Mem0.refl w
theorem Mem.drawn(h:Mem w0 M LL w)(k:Nat):Mem w0 M LL {w with drawn:=k}:=Mem0.drawn h k
theorem Mem.size(h:Mem w0 M LL w):w0.heap.size≤w.heap.size:=Mem0.size h
theorem Mem.below(h:Mem w0 [] LL w):Below w0.heap.size w0 w:=Mem0.below h
theorem Mem.at(h:Mem w0 M LL w){p:Blk}(hi:LL[i]? =some s)(hj:s[j]? =some p):w.heap[p.b]? =some p.o:=by
  obtain⟨k,hk,_⟩:=H2 LL i j s p hi hj
  exact Mem0.at h hk
theorem Mem.lt(h:Mem w0 M LL w){p:Blk}(hi:LL[i]? =some s)(hj:s[j]? =some p):p.b<w.heap.size:=(Array.getElem?_eq_some_iff.1 (h.at hi hj)).1
theorem Mem.cell(h:Mem w0 M LL w){o:Nat}{cs:List Value}{t:TypeId}{v:Value}(hi:LL[i]? =some s)(hj:s[j]? =some (cb b cs t))(hv:cs[o]? =some v):w.cell? ⟨b,o,none⟩=some v:=by
  obtain⟨k,hk,_⟩:=H2 LL i j s _ hi hj
  exact Mem0.cell h hk hv
theorem Mem.allocO(h:Mem w0 M LL w)(o:Obj):Mem w0 M ([⟨w.heap.size,o⟩]::LL) {w with heap:=w.heap.push o}:=Mem0.allocO h o
theorem Mem.alloc(h:Mem w0 M LL w)(cs:List Value)(t:TypeId):Mem w0 M ([cb w.heap.size cs t]::LL) {w with heap:=w.heap.push (.cells cs.toArray t (0,0))}:=Mem0.alloc h cs t
theorem Mem.putO{o o':Obj}(h:Mem w0 M LL w)(hi:LL[i]? =some s)(hj:s[j]? =some ⟨b,o⟩)
    (hos:w'.os=w.os) (htape:w'.tape=w.tape) (hout:w'.output=w.output) (hsize:w.heap.size≤w'.heap.size) (hoth: ∀k,k<w.heap.size→k≠b→w'.heap[k]? =w.heap[k]?)
    (hb:w'.heap[b]? =some o'):Mem w0 M (LL.set i (s.set j ⟨b,o'⟩)) w':=by
  obtain⟨k,hk,hs⟩:=H2 LL i j s _ hi hj
  unfold Mem
  rw[hs]
  exact Mem0.putO h hk hos htape hout hsize hoth hb
theorem Mem.setCell(h:Mem w0 M LL w){o:Nat}{cs:List Value}{t:TypeId}(hi:LL[i]? =some s)(hj:s[j]? =some (cb b cs t))(v:Value):Mem w0 M (LL.set i (s.set j (cb b (cs.set o v) t))) (w.setCell ⟨b,o,none⟩ v):=by
  obtain⟨k,hk,hs⟩:=H2 LL i j s _ hi hj
  unfold Mem
  rw[hs]
  exact Mem0.setCell h hk v
theorem Mem.ext(h:Mem w0 M LL w)(hb:Below w.heap.size w w'):Mem w0 M LL w':=Mem0.ext h hb
theorem Mem.cast(e:LL=LL')(h:Mem w0 M LL w):Mem w0 M LL' w:=e▸h
def Ct(LL:List (List Blk))(is:List Nat):List (List Blk):=is.map fun i=>(LL[i]?).getD []
theorem Zf(is:List Nat): ∀p∈(Ct LL is).flatten,p∈LL.flatten:=fun p hp=>by
  obtain⟨s,hs,hp⟩:=List.mem_flatten.1 hp
  obtain⟨i,_,rfl⟩:=List.mem_map.1 hs
  cases h:LL[i]? with
  |none=>simp[h]at hp
  |some t=>
    simp only[h,Option.getD_some]at hp
    exact List.mem_flatten.2 ⟨t,List.mem_of_getElem? h,hp⟩
def Zg(s t:List Blk):Prop:= ∀p∈s,∀q∈t,p.b≠q.b
theorem Km{LL:List (List Blk)}:(LL.flatten.map (·.b)).Nodup↔(∀s∈LL,(s.map (·.b)).Nodup)∧LL.Pairwise Zg:=by
  rw[List.map_flatten,List.Nodup,List.pairwise_flatten]
  constructor
  · rintro⟨h1,h2⟩
    refine⟨fun s hs=>h1 _ (List.mem_map_of_mem hs),?_⟩
    rw[List.pairwise_map]at h2
    refine h2.imp ?_
    intro s t h p hp q hq
    exact h _ (List.mem_map_of_mem hp) _ (List.mem_map_of_mem hq)
  · rintro⟨h1,h2⟩
    refine⟨fun l hl=>?_,?_⟩
    · obtain⟨s,hs,rfl⟩:=List.mem_map.1 hl;exact h1 s hs
    · rw[List.pairwise_map]
      refine h2.imp fun {s t} h x hx y hy=>?_
      obtain⟨p,hp,rfl⟩:=List.mem_map.1 hx
      obtain⟨q,hq,rfl⟩:=List.mem_map.1 hy
      exact h p hp q hq
theorem Oi(hn:LL.Pairwise Zg){i k:Nat}(hik:i≠k):Zg ((LL[i]?).getD []) ((LL[k]?).getD []):=by
  rw[List.pairwise_iff_getElem]at hn
  by_cases hi:i<LL.length
  · by_cases hk:k<LL.length
    · rw[List.getElem?_eq_getElem hi,List.getElem?_eq_getElem hk]
      rcases Nat.lt_or_gt_of_ne hik with h|h
      · exact hn i k hi hk h
      · exact fun p hp q hq e=>hn k i hk hi h q hq p hp e.symm
    · rw[List.getElem?_eq_none (by omega:LL.length≤k)];intro p _ q hq;cases hq
  · rw[List.getElem?_eq_none (by omega:LL.length≤i)];intro p hp;cases hp
theorem Uy{is:List Nat}(hn:(LL.flatten.map (·.b)).Nodup)(hd:is.Nodup):((Ct LL is).flatten.map (·.b)).Nodup:=by
  rw[Km]at hn⊢
  refine⟨fun s hs=>?_,?_⟩
  · obtain⟨i,_,rfl⟩:=List.mem_map.1 hs
    cases h:LL[i]? with
    |none=>simp
    |some t=>exact hn.1 t (List.mem_of_getElem? h)
  · unfold Ct
    rw[List.pairwise_map]
    exact List.Pairwise.imp (fun {i k} h=>Oi hn.2 h) hd
theorem Mem.pick(is:List Nat)(hd:is.Nodup)(h:Mem w0 M LL w)(e:Ct LL is=LL'):Mem w0 M LL' w:=by
  subst e
  exact Mem0.sub h (Zf is) (Uy h.nodup hd)
theorem Mem.local(h:Mem w0 M (LL++R) w):Mem w (LL.flatten.map (·.b)) LL w where
  os:=rfl
  tape:=rfl
  output:=rfl
  size:=Nat.le_refl _
  same:=fun _ _ _=>rfl
  here:=fun p hp=>Mem0.here h p (by rw[List.flatten_append];exact List.mem_append_left _ hp)
  nodup:=by have:=Mem0.nodup h;rw[List.flatten_append,List.map_append,List.nodup_append]at this;exact this.1
  old:=fun p hp _=>List.mem_map_of_mem hp
theorem Mem.back(h:Mem w0 M (LL++R) w)(hc:Mem w (LL.flatten.map (·.b)) LL' w'):Mem w0 M (LL'++R) w':=by
  have hnd:=Mem0.nodup h
  rw[List.flatten_append,List.map_append,List.nodup_append]at hnd
  have hold: ∀p∈LL.flatten,p.b<w.heap.size:=fun p hp=>Mem0.lt h (by rw[List.flatten_append];exact List.mem_append_left _ hp)
  have hR: ∀p∈R.flatten,p.b<w.heap.size∧p.b∉LL.flatten.map (·.b):=fun p hp=>⟨Mem0.lt h (by rw[List.flatten_append];exact List.mem_append_right _ hp),fun hm=>by
    exact hnd.2.2 _ hm _ (List.mem_map_of_mem hp) rfl⟩
  exact {
    os:=hc.os.trans h.os
    tape:=hc.tape.trans h.tape
    output:=hc.output.trans h.output
    size:=Nat.le_trans (Mem0.size h) (Mem0.size hc)
    same:=fun k hk hm=>by
      have hs:=Mem0.size h
      rw[Mem0.same hc k (by omega) (fun hmm=>by
        obtain⟨p,hp,rfl⟩:=List.mem_map.1 hmm
        exact hm (Mem0.old h p (by rw[List.flatten_append];exact List.mem_append_left _ hp) hk))]
      exact Mem0.same h k hk hm
    here:=fun p hp=>by
      rw[List.flatten_append]at hp
      rcases List.mem_append.1 hp with hp|hp
      · exact Mem0.here hc p hp
      · rw[Mem0.same hc p.b (hR p hp).1 (hR p hp).2]
        exact Mem0.here h p (by rw[List.flatten_append];exact List.mem_append_right _ hp)
    nodup:=by
      rw[List.flatten_append,List.map_append,List.nodup_append]
      refine⟨Mem0.nodup hc,hnd.2.1,fun x hx y hy e=>?_⟩
      subst e
      obtain⟨p,hp,rfl⟩:=List.mem_map.1 hx
      obtain⟨q,hq,he⟩:=List.mem_map.1 hy
      have h1:=hR q hq
      rw[he]at h1
      exact h1.2 (Mem0.old hc p hp h1.1)
    old:=fun p hp hlt=>by
      rw[List.flatten_append]at hp
      have hs:=Mem0.size h
      rcases List.mem_append.1 hp with hp|hp
      · obtain⟨q,hq,he⟩:=List.mem_map.1 (Mem0.old hc p hp (by omega))
        rw[←he]
        exact Mem0.old h q (by rw[List.flatten_append];exact List.mem_append_left _ hq) (by rw[he];exact hlt)
      · exact Mem0.old h p (by rw[List.flatten_append];exact List.mem_append_right _ hp) hlt}
end
section
variable {r:Option Nat}{P:Program}{ops:Array Oper}{Q:Exit→Act→World→Prop}{S S':World→Prop}{n:Nat}{ds:List Deferred}{f f':Nat→Value}{o:Oper}{rest:List Oper}{v:Value}{d:Nat}{K:Act→World→Prop}
def Ys(P:Program)(n:Nat)(S:World→Prop)(f:Nat→Value)(o:Oper)(v:Value):Prop:=
  ∀w,S w→(execOp (ev n f) o).run P w=.ok (.value v) w
def Yc(P:Program)(n:Nat)(S:World→Prop)(f:Nat→Value)(o:Oper)(v:Value):Prop:=
  ∀ds w,S w→ ∀K:Act→World→Prop,(∀w',S w'→K ((Fr n ds f).put o.dst v) w')→o.wp P (Fr n ds f) w K D9
theorem Ys.yc{P:Program}{n:Nat}{S:World→Prop}{f:Nat→Value}{o:Oper}{v:Value}(h:Ys P n S f o v):Yc P n S f o v:=fun ds w hS K hK=>by
  unfold Oper.wp
  rw[C1,h w hS]
  exact hK w hS
def Ht{β:Type}(P:Program)(n:Nat)(S:World→Prop)(f:Nat→Value)(o:Oper)(f':β→Nat→Value)(S':β→World→Prop):Prop:=
  ∀ds w,S w→ ∀K:Act→World→Prop,(∀b w',S' b w'→K (Fr n ds (f' b)) w')→o.wp P (Fr n ds f) w K D9
def HtIn{β:Type}(r:Option Nat)(P:Program)(n:Nat)(S:World→Prop)(f:Nat→Value)(o:Oper)(f':β→Nat→Value)(S':β→World→Prop):Prop:=
  ∀ds w,S w→ ∀K:Act→World→Prop,(∀b w',S' b w'→K (Fr n ds (f' b)) w')→o.wpIn (Cy r) 0 P (Fr n ds f) w K D9
def Wl(r:Option Nat)(P:Program)(ops:Array Oper)(K:Act→World→Prop)(l:List Oper)(n:Nat)(ds:List Deferred)(f:Nat→Value)(S:World→Prop):Prop:=
  ∀w,S w→wl r P ops K l (Fr n ds f) w
def Wd(P:Program)(ops:Array Oper)(K:Act→World→Prop)(S:World→Prop)(A:List Nat)(l:List (Nat×Bool))(n:Nat)(ds:List Deferred)(f:Nat→Value)(T:World→Prop):Prop:=
  ∀w,T w→wd P .any ops K S A l (Fr n ds f) w
def W(r:Option Nat)(P:Program)(Q:Exit→Act→World→Prop)(c:Code)(n:Nat)(ds:List Deferred)(f:Nat→Value)(S:World→Prop):Prop:=
  ∀w,S w→c.wpIn (Cy r) 0 P Q (Fr n ds f) w
def Gu(o:Oper):Bool:=o.guard.isNone&&I0 o
theorem Rt(h:Gu o=true):o.guard=none:=by simp[Gu]at h;exact h.1
theorem Vx(h:Gu o=true):I0 o=true:=by simp[Gu]at h;exact h.2
theorem Wl.yc(hg:Gu o=true)(hd:o.dst=some d)(h:Yc P n S f o v)(hr:Wl r P ops K rest n ds (Ft f d v) S):Wl r P ops K (o::rest) n ds f S:=fun w hS=>by
  unfold wl
  rw[if_pos (by simp[Region.wanted,Rt hg])]
  exact G7 (Vx hg) (h ds w hS _ fun w' hw'=>by rw[hd,De];exact hr w' hw')
theorem Wl.ys(hg:Gu o=true)(hd:o.dst=some d)(h:Ys P n S f o v)(hr:Wl r P ops K rest n ds (Ft f d v) S):Wl r P ops K (o::rest) n ds f S:=Wl.yc hg hd h.yc hr
theorem Dn(g:Bool)(hn:I0 o=true)(hg:Region.wanted o (yl ops n f)=g)(hd:o.dst=some d)(h:g=true→Yc P n S f o v)(hr:Wl r P ops K rest n ds (Ft f d (bif g then v else undef)) S):Wl r P ops K (o::rest) n ds f S:=fun w hS=>by
  unfold wl
  rw[Df,hg]
  cases g with
  |false=>simp only[Bool.false_eq_true,if_false];rw[hd,De];exact hr w hS
  |true=>simp only[if_true];exact G7 hn (h rfl ds w hS _ fun w' hw'=>by rw[hd,De];exact hr w' hw')
theorem Am(g:Bool)(hn:I0 o=true)(hg:Region.wanted o (yl ops n f)=g)(hd:o.dst=some d)(h:g=true→Ys P n S f o v)(hr:Wl r P ops K rest n ds (Ft f d (bif g then v else undef)) S):Wl r P ops K (o::rest) n ds f S:=
  Dn g hn hg hd (fun e=>(h e).yc) hr
theorem B7(hg:Region.wanted o (yl ops n f)=false)(hd:o.dst=some d)(hr:Wl r P ops K rest n ds (Ft f d undef) S):Wl r P ops K (o::rest) n ds f S:=fun w hS=>by
  unfold wl
  rw[Df,hg]
  simp only[Bool.false_eq_true,if_false];rw[hd,De];exact hr w hS
theorem Lb{β:Type}{f':β→Nat→Value}{S':β→World→Prop}(hg:o.guard=none)(h:HtIn r P n S f o f' S')(hr: ∀b,Wl r P ops K rest n ds (f' b) (S' b)):Wl r P ops K (o::rest) n ds f S:=fun w hS=>by
  unfold wl
  rw[if_pos (by simp[Region.wanted,hg])]
  exact h ds w hS _ fun b w' hw'=>hr b w' hw'
theorem Ai{β:Type}{f':β→Nat→Value}{S':β→World→Prop}(hg:Gu o=true)(h:Ht P n S f o f' S')(hr: ∀b,Wl r P ops K rest n ds (f' b) (S' b)):Wl r P ops K (o::rest) n ds f S:=
  Lb (Rt hg) (fun ds w hS K hK=>G7 (Vx hg) (h ds w hS K hK)) hr
theorem Aha{β:Type}{f':β→Nat→Value}{S':β→World→Prop}(hn:I0 o=true)(hw:Region.wanted o (yl ops n f)=true)(h:Ht P n S f o f' S')(hr: ∀b,Wl r P ops K rest n ds (f' b) (S' b)):Wl r P ops K (o::rest) n ds f S:=fun w hS=>by
  unfold wl
  rw[Df,if_pos hw]
  exact G7 hn (h ds w hS _ fun b w' hw'=>hr b w' hw')
theorem Ac(h: ∀w,S w→K (Fr n ds f) w):Wl r P ops K [] n ds f S:=fun w hS=>h w hS
theorem Wl.conseq{l:List Oper}(hS: ∀w,S w→S' w)(h:Wl r P ops K l n ds f S'):Wl r P ops K l n ds f S:=fun w hw=>h w (hS w hw)
section
variable {T:World→Prop}{i:Nat}{pl:List (Nat×Bool)}{A:List Nat}
theorem Wd.ys(hi:ops[i]? =some o)(hg:o.guard=none)(hd:o.dst=some d)(h:Ys P n S f o v)(hr:Wd P ops K S A pl n ds (Ft f d v) T):Wd P ops K S A ((i,true)::pl) n ds f T:=fun w hT=>
  ⟨o,v,hi,.inl ⟨by simp[Region.wanted,hg],by rw[C1];exact h⟩,by rw[hd,De];exact hr w hT⟩
theorem Bs(g:Bool)(hi:ops[i]? =some o)(hg:Region.wanted o (yl ops n f)=g)(hd:o.dst=some d)(h:g=true→Ys P n S f o v)(hr:Wd P ops K S A pl n ds (Ft f d (bif g then v else undef)) T):Wd P ops K S A ((i,true)::pl) n ds f T:=fun w hT=>by
  cases g with
  |false=>exact⟨o,undef,hi,.inr ⟨by rw[Df];exact hg,rfl⟩,by rw[hd,De];exact hr w hT⟩
  |true=>exact⟨o,v,hi,.inl ⟨by rw[Df];exact hg,by rw[C1];exact h rfl⟩,by rw[hd,De];exact hr w hT⟩
theorem Amx(hi:ops[i]? =some o)(hg:Region.wanted o (yl ops n f)=false)(hd:o.dst=some d)(hr:Wd P ops K S A pl n ds (Ft f d undef) T):Wd P ops K S A ((i,true)::pl) n ds f T:=Bs (v:=undef) false hi hg hd (fun h=>by cases h) hr
theorem Wd.yc(hi:ops[i]? =some o)(hg:o.guard=none)(hd:o.dst=some d)(h:Yc P n T f o v)(hTS:Fk .any ops A i=true∨ ∀w,T w→S w)(hr:Wd P ops K S A pl n ds (Ft f d v) T):Wd P ops K S A ((i,false)::pl) n ds f T:=fun w hT=>by
  show wpOp P ops D9 i _ _ w
  unfold wpOp
  simp only[hi]
  rw[if_pos (by simp[Region.wanted,hg])]
  exact .inl (h ds w hT _ fun w' hw'=>⟨hTS.imp_right fun h=>h w' hw',by rw[hd,De];exact hr w' hw'⟩)
theorem Cx(g:Bool)(hi:ops[i]? =some o)(hg:Region.wanted o (yl ops n f)=g)(hd:o.dst=some d)(h:g=true→Yc P n T f o v)(hTS:Fk .any ops A i=true∨ ∀w,T w→S w)(hr:Wd P ops K S A pl n ds (Ft f d (bif g then v else undef)) T):Wd P ops K S A ((i,false)::pl) n ds f T:=fun w hT=>by
  show wpOp P ops D9 i _ _ w
  unfold wpOp
  simp only[hi]
  rw[Df,hg]
  cases g with
  |false=>simp only[Bool.false_eq_true,if_false];exact⟨hTS.imp_right fun h=>h w hT,by rw[hd,De];exact hr w hT⟩
  |true=>rw[if_pos rfl];exact .inl (h rfl ds w hT _ fun w' hw'=>⟨hTS.imp_right fun h=>h w' hw',by rw[hd,De];exact hr w' hw'⟩)
theorem Lc(hi:ops[i]? =some o)(hg:Region.wanted o (yl ops n f)=false)(hd:o.dst=some d)(hTS:Fk .any ops A i=true∨ ∀w,T w→S w)(hr:Wd P ops K S A pl n ds (Ft f d undef) T):Wd P ops K S A ((i,false)::pl) n ds f T:=fun w hT=>by
  show wpOp P ops D9 i _ _ w
  unfold wpOp
  simp only[hi]
  rw[Df,hg]
  simp only[Bool.false_eq_true,if_false];exact⟨hTS.imp_right fun h=>h w hT,by rw[hd,De];exact hr w hT⟩
theorem B8{β:Type}{f':β→Nat→Value}{T':β→World→Prop}(hi:ops[i]? =some o)(hg:o.guard=none)(h:Ht P n T f o f' T')(hTS:Fk .any ops A i=true∨ ∀b w,T' b w→S w)(hr: ∀b,Wd P ops K S A pl n ds (f' b) (T' b)):Wd P ops K S A ((i,false)::pl) n ds f T:=fun w hT=>by
  show wpOp P ops D9 i _ _ w
  unfold wpOp
  simp only[hi]
  rw[if_pos (by simp[Region.wanted,hg])]
  exact .inl (h ds w hT _ fun b w' hw'=>⟨hTS.imp_right fun h=>h b w' hw',hr b w' hw'⟩)
theorem Zh{β:Type}{f':β→Nat→Value}{T':β→World→Prop}(hi:ops[i]? =some o)(hw:Region.wanted o (yl ops n f)=true)(h:Ht P n T f o f' T')(hTS:Fk .any ops A i=true∨ ∀b w,T' b w→S w)(hr: ∀b,Wd P ops K S A pl n ds (f' b) (T' b)):Wd P ops K S A ((i,false)::pl) n ds f T:=fun w hT=>by
  show wpOp P ops D9 i _ _ w
  unfold wpOp
  simp only[hi]
  rw[Df,if_pos hw]
  exact .inl (h ds w hT _ fun b w' hw'=>⟨hTS.imp_right fun h=>h b w' hw',hr b w' hw'⟩)
theorem A7(h: ∀w,T w→K (Fr n ds f) w):Wd P ops K S A [] n ds f T:=fun w hT=>h w hT
theorem Wd.conseq{T':World→Prop}(hT: ∀w,T w→T' w)(h:Wd P ops K S A pl n ds f T'):Wd P ops K S A pl n ds f T:=fun w hw=>h w (hT w hw)
theorem Zi{w0:World}{M:List Nat}{LL LL':List (List Blk)}(e:LL=LL')(h:Wd P ops K S A pl n ds f (Mem w0 M LL')):Wd P ops K S A pl n ds f (Mem w0 M LL):=by rwa[e]
end
theorem Aa{id:Nat}{l:List Oper}(h:Wl r P l.toArray (Q .normal) l n ds f S):W r P Q (.region id l.toArray false) n ds f S:=fun w hS=>wpIn_region (by
  have:=Agj (r:=r) (P:=P) (ops:=l.toArray) (Q:=Q) (fun _ _ h=>h) l 0 _ w (fun j=>by simp) (h w hS)
  rw[List.size_toArray,List.range_eq_range']
  exact this)
theorem Bz{T:World→Prop}{id:Nat}{l:List Oper}(pl:List (Nat×Bool))(A:List Nat)(S:World→Prop)(hm:P.follows .mixedOrders=true)(hd:Kk l.toArray=true)(hsel:Region.noSelect l.toArray=true)
    (hl:pl.length=l.length) (hp:Kz .any l.toArray A (Array.replicate l.length false) pl=true) (hT: ∀w k,T w→T {w with drawn:=k}) (hS: ∀w,T w→S w)
    (h:Wd P l.toArray (Q .normal) S A pl n ds f T):W r P Q (.region id l.toArray true) n ds f T:=fun w hw=>
  Oh (K:=Q .normal) pl A S hm hd hsel hl hp (fun _ _ h=>h) (hS _ (hT w _ hw)) (h _ (hT w _ hw))
theorem Ad{x y:Code}(h: ∀K:Act→World→Prop,(∀ds f' (S':World→Prop),W r P Q y n ds f' S'→ ∀w,S' w→K (Fr n ds f') w)→W r P (Exit.then K Q) x n ds f S):W r P Q (.seq x y) n ds f S:=fun w hS=>
  wpIn_seq_k fun K hK=>h K (fun ds f' S' hW w' hw'=>hK _ _ (hW w' hw')) w hS
theorem Ak(h: ∀w,S w→Q .normal (Fr n ds f) w):W r P Q .skip n ds f S:=fun w hS=>wpIn_skip (h w hS)
theorem Tj(h: ∀w,S w→Q .ret (Fr n ds f) w):W r P Q .ret n ds f S:=fun w hS=>wpIn_ret (h w hS)
theorem Cr{id:Nat}(h: ∀w,S w→Q (.exit id) (Fr n ds f) w):W r P Q (.exit id) n ds f S:=fun w hS=>wpIn_exit (h w hS)
theorem W.block{id:Nat}{c:Code}(h:W r P (Exit.inBlock id Q) c n ds f S):W r P Q (.block id c) n ds f S:=fun w hS=>wpIn_block (h w hS)
theorem B5{x:Operand}{c1 c2:Code}(hx:ev n f x=.bool true)(h:W r P Q c1 n ds f S):W r P Q (.cond x c1 c2) n ds f S:=fun w hS=>wpIn_cond_true (by rw[C1];exact hx) (h w hS)
theorem B4{x:Operand}{c1 c2:Code}(hx:ev n f x=.bool false)(h:W r P Q c2 n ds f S):W r P Q (.cond x c1 c2) n ds f S:=fun w hS=>wpIn_cond_false (by rw[C1];exact hx) (h w hS)
theorem Ao{x:Operand}{c1 c2:Code}(e:Bool)(hx:ev n f x=.bool e)(h1:e=true→W r P Q c1 n ds f S)(h2:e=false→W r P Q c2 n ds f S):W r P Q (.cond x c1 c2) n ds f S:=fun w hS=>by
  cases e with
  |true=>exact wpIn_cond_true (by rw[C1];exact hx) (h1 rfl w hS)
  |false=>exact wpIn_cond_false (by rw[C1];exact hx) (h2 rfl w hS)
theorem Ru{x:Code}{γ:Type}(K:Act→World→Prop)(F:γ→List (Nat×Value))(T:γ→World→Prop)
    (first: ∀J:Act→World→Prop,(∀g f' w,Mx f' (F g)→T g w→J (Fr n ds f') w)→W r P (Exit.then J Q) x n ds f S)
    (after: ∀g f',∀w,T g w→K (Fr n ds (Gp (F g) f')) w):W r P (Exit.then K Q) x n ds f S:=fun w hS=>by
  refine wpIn_mono (first (fun a w=> ∃g f',a=Fr n ds (Gp (F g) f')∧T g w) (fun g f' w hF hT=>⟨g,f',by rw[Fe hF],hT⟩) w hS) ?_
  intro e a' w' hq
  cases e with
  |normal=>obtain⟨g,f',rfl,hT⟩:=hq;exact after g f' w' hT
  |exit id=>exact hq
  |goto l=>exact hq
  |ret=>exact hq
  |panic ch=>exact hq
  |outgrown=>exact hq
theorem Uz{c:Code}{γ:Type}(F:γ→List (Nat×Value))(T:γ→World→Prop)(μ:γ→Nat)(g0:γ)(h0:Mx f (F g0))(hS: ∀w,S w→T g0 w)
    (round: ∀(g:γ) (f':Nat→Value) (J:Act→World→Prop),(∀g' f'' w,μ g'<μ g→Mx f'' (F g')→T g' w→J (Fr n ds f'') w)→W r P (Exit.then J Q) c n ds (Gp (F g) f') (T g)):
    W r P Q (.loop c) n ds f S:=fun w hw=>by
  classical
  let I:Act→World→Prop:=fun a w=> ∃g f',a=Fr n ds (Gp (F g) f')∧T g w
  let p:Act→World→Nat→Prop:=fun a w k=> ∃g f',a=Fr n ds (Gp (F g) f')∧T g w∧μ g=k
  have least: ∀q:Nat→Prop,(∃k,q k)→ ∃k,q k∧ ∀j,q j→k≤j:=fun q ⟨k,hk⟩=>by
    induction k using Nat.strongRecOn with
    |_ k ih=>
      by_cases h: ∃j,j<k∧q j
      · obtain⟨j,hj,hq⟩:=h;exact ih j hj hq
      · exact⟨k,hk,fun j hj=>Nat.le_of_not_lt fun hlt=>h ⟨j,hlt,hj⟩⟩
  let m:Act→World→Nat:=fun a w=>if h: ∃k,p a w k then Classical.choose (least _ h)else 0
  have hm: ∀a w,I a w→ ∃g f',a=Fr n ds (Gp (F g) f')∧T g w∧μ g=m a w:=fun a w ⟨g,f',ha,hT⟩=>by
    have h: ∃k,p a w k:=⟨μ g,g,f',ha,hT,rfl⟩
    have:=(Classical.choose_spec (least _ h)).1
    simp only[m,dif_pos h]
    exact this
  have hle: ∀g f' w,T g w→m (Fr n ds (Gp (F g) f')) w≤μ g:=fun g f' w hT=>by
    have h: ∃k,p (Fr n ds (Gp (F g) f')) w k:=⟨μ g,g,f',rfl,hT,rfl⟩
    simp only[m,dif_pos h]
    exact(Classical.choose_spec (least _ h)).2 _ ⟨g,f',rfl,hT,rfl⟩
  refine wpIn_loop I m ⟨g0,f,by rw[Fe h0],hS w hw⟩ fun a w' hI=>?_
  obtain⟨g,f',rfl,hT,hμ⟩:=hm a w' hI
  refine round g f' _ (fun g' f'' w'' hlt hF hT'=>?_) w' hT
  have e:Fr n ds f''=Fr n ds (Gp (F g') f''):=by rw[Fe hF]
  refine⟨⟨g',f'',e,hT'⟩,?_⟩
  have:=hle g' f'' w'' hT'
  rw[←e]at this
  omega
theorem Ada{c:Code}(l:List (Nat×Value))(hl:Mx f l)(h: ∀f',W r P Q c n ds (Gp l f') S):W r P Q c n ds f S:=by
  have:=h f
  rwa[Fe hl]at this
theorem K.prune{K:Act→World→Prop}{w:World}(l:List (Nat×Value))(hl:Mx f l)(h: ∀f',K (Fr n ds (Gp l f')) w):K (Fr n ds f) w:=by
  have:=h f
  rwa[Fe hl]at this
theorem W.conseq{c:Code}(hS: ∀w,S w→S' w)(h:W r P Q c n ds f S'):W r P Q c n ds f S:=fun w hw=>h w (hS w hw)
theorem Zj{c:Code}{p:Prop}(h:p→W r P Q c n ds f S):W r P Q c n ds f (fun w=>S w∧p):=fun w ⟨hS,hp⟩=>h hp w hS
theorem Ea: ∀{ks:List Nat} {vs:List Value},ks.map f=vs→Mx f (ks.zip vs)
  | [],_,_=>by cases ‹List Value› <;>trivial
  |k::ks,[],h=>by cases h
  |k::ks,v::vs,h=>⟨(List.cons.inj h).1,Ea (List.cons.inj h).2⟩
theorem Akx{c:Code}(ks:List Nat)(vs:List Value)(hl:ks.map f=vs)(h: ∀f',W r P Q c n ds (Gp (ks.zip vs) f') S):W r P Q c n ds f S:=Ada (ks.zip vs) (Ea hl) h
variable {w0:World}{M:List Nat}{LL:List (List Blk)}
theorem Nm{x:Code}(K:Act→World→Prop)(ks:List Nat)(vs:List Value)(Φ:Prop)(Lf:List (List Blk))
    (first: ∀J:Act→World→Prop,(∀f' w,Φ→ks.map f'=vs→Mem w0 M (Lf) w→J (Fr n ds f') w)→W r P (Exit.then J Q) x n ds f S)
    (after: ∀f',Φ→ ∀w,Mem w0 M (Lf) w→K (Fr n ds (Gp (ks.zip (vs)) f')) w):W r P (Exit.then K Q) x n ds f S:=
  Ru (γ:=Unit) K (fun g=>ks.zip (vs)) (fun g w=>Mem w0 M (Lf) w∧Φ) (fun J hJ=>first J fun f' w hφ hk hm=>hJ () f' w (Ea hk) ⟨hm,hφ⟩)
    fun g f' w hT=>after f' hT.2 w hT.1
theorem Ep{c:Code}{γ1:Type}(ks:List Nat)(vs:γ1→List Value)(Φ:γ1→Prop)(Lf:γ1→List (List Blk))(μ:γ1→Nat)(i1:γ1)(h0:ks.map f=vs i1)(hΦ:Φ i1)(hL:LL=Lf i1)
    (round: ∀g1,∀f' J,Φ g1→(∀g1' f'' w,μ g1'<μ g1→Φ g1'→ks.map f''=vs g1'→Mem w0 M (Lf g1') w→J (Fr n ds f'') w)→W r P (Exit.then J Q) c n ds (Gp (ks.zip (vs g1)) f') (Mem w0 M (Lf g1))):
    W r P Q (.loop c) n ds f (Mem w0 M LL):=
  Uz (γ:=γ1) (fun g=>ks.zip (vs (g))) (fun g w=>Mem w0 M (Lf (g)) w∧Φ (g)) (fun g=>μ (g)) i1 (Ea h0) (fun w hS=>⟨hL▸hS,hΦ⟩) fun g f' J hJ=>
    Zj fun hφ=>round (g) f' J hφ fun g1' f'' w hμ hφ' hk hm=>hJ g1' f'' w hμ (Ea hk) ⟨hm,hφ'⟩
theorem Adb{x:Code}{γ1:Type}(K:Act→World→Prop)(ks:List Nat)(vs:γ1→List Value)(Φ:γ1→Prop)(Lf:γ1→List (List Blk))
    (first: ∀J:Act→World→Prop,(∀g1,∀f' w,Φ g1→ks.map f'=vs g1→Mem w0 M (Lf g1) w→J (Fr n ds f') w)→W r P (Exit.then J Q) x n ds f S)
    (after: ∀g1,∀f',Φ g1→ ∀w,Mem w0 M (Lf g1) w→K (Fr n ds (Gp (ks.zip (vs g1)) f')) w):W r P (Exit.then K Q) x n ds f S:=
  Ru (γ:=γ1) K (fun g=>ks.zip (vs (g))) (fun g w=>Mem w0 M (Lf (g)) w∧Φ (g)) (fun J hJ=>first J fun g1 f' w hφ hk hm=>hJ g1 f' w (Ea hk) ⟨hm,hφ⟩)
    fun g f' w hT=>after (g) f' hT.2 w hT.1
theorem E6{c:Code}{γ1 γ2:Type}(ks:List Nat)(vs:γ1→γ2→List Value)(Φ:γ1→γ2→Prop)(Lf:γ1→γ2→List (List Blk))(μ:γ1→γ2→Nat)(i1:γ1)(i2:γ2)(h0:ks.map f=vs i1 i2)(hΦ:Φ i1 i2)(hL:LL=Lf i1 i2)
    (round: ∀g1 g2,∀f' J,Φ g1 g2→(∀g1' g2' f'' w,μ g1' g2'<μ g1 g2→Φ g1' g2'→ks.map f''=vs g1' g2'→Mem w0 M (Lf g1' g2') w→J (Fr n ds f'') w)→W r P (Exit.then J Q) c n ds (Gp (ks.zip (vs g1 g2)) f') (Mem w0 M (Lf g1 g2))):
    W r P Q (.loop c) n ds f (Mem w0 M LL):=
  Uz (γ:=γ1×γ2) (fun g=>ks.zip (vs (g.1) (g.2))) (fun g w=>Mem w0 M (Lf (g.1) (g.2)) w∧Φ (g.1) (g.2)) (fun g=>μ (g.1) (g.2)) (i1,i2) (Ea h0) (fun w hS=>⟨hL▸hS,hΦ⟩) fun g f' J hJ=>
    Zj fun hφ=>round (g.1) (g.2) f' J hφ fun g1' g2' f'' w hμ hφ' hk hm=>hJ (g1',g2') f'' w hμ (Ea hk) ⟨hm,hφ'⟩
theorem Vy{c:Code}{γ1 γ2 γ3:Type}(ks:List Nat)(vs:γ1→γ2→γ3→List Value)(Φ:γ1→γ2→γ3→Prop)(Lf:γ1→γ2→γ3→List (List Blk))(μ:γ1→γ2→γ3→Nat)(i1:γ1)(i2:γ2)(i3:γ3)(h0:ks.map f=vs i1 i2 i3)(hΦ:Φ i1 i2 i3)(hL:LL=Lf i1 i2 i3)
    (round: ∀g1 g2 g3,∀f' J,Φ g1 g2 g3→(∀g1' g2' g3' f'' w,μ g1' g2' g3'<μ g1 g2 g3→Φ g1' g2' g3'→ks.map f''=vs g1' g2' g3'→Mem w0 M (Lf g1' g2' g3') w→J (Fr n ds f'') w)→W r P (Exit.then J Q) c n ds (Gp (ks.zip (vs g1 g2 g3)) f') (Mem w0 M (Lf g1 g2 g3))):
    W r P Q (.loop c) n ds f (Mem w0 M LL):=
  Uz (γ:=γ1×γ2×γ3) (fun g=>ks.zip (vs (g.1) (g.2.1) (g.2.2))) (fun g w=>Mem w0 M (Lf (g.1) (g.2.1) (g.2.2)) w∧Φ (g.1) (g.2.1) (g.2.2)) (fun g=>μ (g.1) (g.2.1) (g.2.2)) (i1,i2,i3) (Ea h0) (fun w hS=>⟨hL▸hS,hΦ⟩) fun g f' J hJ=>
    Zj fun hφ=>round (g.1) (g.2.1) (g.2.2) f' J hφ fun g1' g2' g3' f'' w hμ hφ' hk hm=>hJ (g1',g2',g3') f'' w hμ (Ea hk) ⟨hm,hφ'⟩
theorem Adc{x:Code}{γ1 γ2 γ3 γ4:Type}(K:Act→World→Prop)(ks:List Nat)(vs:γ1→γ2→γ3→γ4→List Value)(Φ:γ1→γ2→γ3→γ4→Prop)(Lf:γ1→γ2→γ3→γ4→List (List Blk))
    (first: ∀J:Act→World→Prop,(∀g1 g2 g3 g4,∀f' w,Φ g1 g2 g3 g4→ks.map f'=vs g1 g2 g3 g4→Mem w0 M (Lf g1 g2 g3 g4) w→J (Fr n ds f') w)→W r P (Exit.then J Q) x n ds f S)
    (after: ∀g1 g2 g3 g4,∀f',Φ g1 g2 g3 g4→ ∀w,Mem w0 M (Lf g1 g2 g3 g4) w→K (Fr n ds (Gp (ks.zip (vs g1 g2 g3 g4)) f')) w):W r P (Exit.then K Q) x n ds f S:=
  Ru (γ:=γ1×γ2×γ3×γ4) K (fun g=>ks.zip (vs (g.1) (g.2.1) (g.2.2.1) (g.2.2.2))) (fun g w=>Mem w0 M (Lf (g.1) (g.2.1) (g.2.2.1) (g.2.2.2)) w∧Φ (g.1) (g.2.1) (g.2.2.1) (g.2.2.2)) (fun J hJ=>first J fun g1 g2 g3 g4 f' w hφ hk hm=>hJ (g1,g2,g3,g4) f' w (Ea hk) ⟨hm,hφ⟩)
    fun g f' w hT=>after (g.1) (g.2.1) (g.2.2.1) (g.2.2.2) f' hT.2 w hT.1
theorem Add{x:Code}{γ1 γ2 γ3 γ4 γ5:Type}(K:Act→World→Prop)(ks:List Nat)(vs:γ1→γ2→γ3→γ4→γ5→List Value)(Φ:γ1→γ2→γ3→γ4→γ5→Prop)(Lf:γ1→γ2→γ3→γ4→γ5→List (List Blk))
    (first: ∀J:Act→World→Prop,(∀g1 g2 g3 g4 g5,∀f' w,Φ g1 g2 g3 g4 g5→ks.map f'=vs g1 g2 g3 g4 g5→Mem w0 M (Lf g1 g2 g3 g4 g5) w→J (Fr n ds f') w)→W r P (Exit.then J Q) x n ds f S)
    (after: ∀g1 g2 g3 g4 g5,∀f',Φ g1 g2 g3 g4 g5→ ∀w,Mem w0 M (Lf g1 g2 g3 g4 g5) w→K (Fr n ds (Gp (ks.zip (vs g1 g2 g3 g4 g5)) f')) w):W r P (Exit.then K Q) x n ds f S:=
  Ru (γ:=γ1×γ2×γ3×γ4×γ5) K (fun g=>ks.zip (vs (g.1) (g.2.1) (g.2.2.1) (g.2.2.2.1) (g.2.2.2.2))) (fun g w=>Mem w0 M (Lf (g.1) (g.2.1) (g.2.2.1) (g.2.2.2.1) (g.2.2.2.2)) w∧Φ (g.1) (g.2.1) (g.2.2.1) (g.2.2.2.1) (g.2.2.2.2)) (fun J hJ=>first J fun g1 g2 g3 g4 g5 f' w hφ hk hm=>hJ (g1,g2,g3,g4,g5) f' w (Ea hk) ⟨hm,hφ⟩)
    fun g f' w hT=>after (g.1) (g.2.1) (g.2.2.1) (g.2.2.2.1) (g.2.2.2.2) f' hT.2 w hT.1
end
theorem lz2{x:Value}{g c:Bool}{v u:Value}(h:g=true)(e:x=(bif (g&&c)then v else u)):x=(bif c then v else u):=by rw[e,h];rfl
section
variable {r:Option Nat}{P:Program}{S S':World→Prop}{n:Nat}{ds:List Deferred}{f f':Nat→Value}{o:Oper}{rest:List Oper}{v:Value}{d:Nat}{w0:World}{M:List Nat}{LL LL':List (List Blk)}
def Dc(w:World)(v:Value)(e:Ending)(w':World):Prop:=e=.returned v∧Below w.heap.size w w'
def Bj{β:Type}(w:World)(Φ:β→Prop)(v:β→Value)(M:List Nat)(LL:β→List (List Blk))(e:Ending)(w':World):Prop:= ∃g,Φ g∧e=.returned (v g)∧Mem w M (LL g) w'
theorem Ar{k:FuncId}{fn:Func}{c:Code}{args:Array Value}{R:Ending→World→Prop}(hf:P.funcs[k]? =some fn)(hb:fn.body=some c)(hn:fn.ntmps=n)(hl:args.size≤n)
    (hM:Mem w0 M LL w0) (h:W none P (bodyPostM (Cy none) 0 P fn R) c n [] (fun i=>args.getD i undef) (Mem w0 M LL)):Calls P k args w0 R:=by
  refine Uw (r:=none) (n:=0) (callsIn_of_wp_marks hf hb trivial ?_)
  have e:({tmps:=args++Array.replicate (fn.ntmps-args.size) undef,defers:=[]}:Act)=Fr n [] (fun i=>args.getD i undef):=by
    simp only[Fr,Act.mk.injEq,and_true]
    apply Array.ext
    · simp[hn];omega
    · intro i h1 h2
      simp only[Array.size_ofFn]at h2
      rw[Array.getElem_ofFn]
      by_cases hi:i<args.size
      · rw[Array.getElem_append_left hi];simp[Array.getD,hi]
      · rw[Array.getElem_append_right (by omega)];simp[Array.getD,hi]
  rw[e]
  exact h w0 hM
def RV(P:Program)(S:World→Prop)(n:Nat)(f:Nat→Value):ResultVar→Value→Prop
  | .tmp t,v=>ev n f (.tmp t)=v
  | .cell a t,v=> ∃adr,ev n f (.tmp a)=.pointer (some adr)∧ ∀w,S w→(loadVar t adr).run P w=.ok v w
theorem Vz(t:Nat):(Fr n ds f).tmps.getD t undef=ev n f (.tmp t):=congrFun (C1 n ds f) (.tmp t)
def Rv:ResultVar→Array Value→Sem Value
  | .tmp t,tmps=>pure (tmps.getD t undef)
  | .cell a t,tmps=>do loadVar t (←asAddr (tmps.getD a undef))
theorem Dz{r:ResultVar}{w:World}(hS:S w)(h:RV P S n f r v):(Rv r (Fr n ds f).tmps).run P w=.ok v w:=by
  cases r with
  |tmp t=>simp only[Rv,Vz];rw[show ev n f (.tmp t)=v from h];rfl
  |cell a t=>
    obtain⟨adr,ha,hl⟩:=h
    simp only[Rv,Vz,ha,Sem.run_bind]
    simp[asAddr,hl w hS]
theorem G8(fn:Func)(tmps:Array Value):results fn tmps=(do
    let vs←fn.results.mapM fun r=>Rv r tmps
    pure (if h:vs.size=1 then vs[0]else .tuple vs)):=by
  unfold results
  congr 2
  funext r
  cases r<;>rfl
abbrev Fin(P:Program)(fn:Func)(R:Ending→World→Prop)(a:Act)(w:World):Prop:= ∃v,(results fn a.tmps).run P w=.ok v w∧R (.returned v) w
theorem V0{fn:Func}{R:Ending→World→Prop}{w:World}(h:Fin P fn R (Fr n [] f) w):bodyPostM (Cy none) 0 P fn R .ret (Fr n [] f) w:=by
  exact h
theorem Dq{fn:Func}{R:Ending→World→Prop}{w:World}(h:Fin P fn R (Fr n [] f) w):bodyPostM (Cy none) 0 P fn R .normal (Fr n [] f) w:=V0 h
theorem Jc{fn:Func}{R:Ending→World→Prop}{D:Nat}{w:World}(hD:w.heap[D]? =some (.deferred (some [])))
    (h:Fin P fn R (Fr n [] f) (w.putObj D (.deferred none))):bodyPostM (Cy none) 0 P fn R .ret (Fr n [{target:=.collected D,args:= #[]}] f) w:=
  ⟨by simp,.inl ⟨D,_,rfl,run_takeDeferred hD,h⟩⟩
theorem Mem.mark{w:World}{D i:Nat}(h:Mem w0 M LL w)(hi:LL[i]? =some [⟨D,.deferred (some [])⟩]):w.heap[D]? =some (.deferred (some []))∧Mem w0 M (LL.set i [⟨D,.deferred none⟩]) (w.putObj D (.deferred none)):=by
  have hd:w.heap[D]? =some (.deferred (some [])):=h.at (p:=⟨D,.deferred (some [])⟩) (j:=0) hi rfl
  refine⟨hd,?_⟩
  have hlt:D<w.heap.size:=(Array.getElem?_eq_some_iff.1 hd).1
  exact h.putO (s:=[⟨D,.deferred (some [])⟩]) (j:=0) hi rfl rfl rfl rfl (by simp) (fun k _ hk=>World.putObj_heap_other hk) (World.putObj_heap_same hlt)
end
end Go.Proofs.YtmonlaoaengfdaaGreatDoor.Base
namespace Go.Proofs.YtmonlaoaengfdaaGreatDoor.Base
open Go.RowKit
def Bt(k:IntKind)(a b:Int):Int:=k.wrap (a+b)
def Hk(k:IntKind)(a b:Int):Int:=k.wrap (a-b)
def Ld(k:IntKind)(a b:Int):Int:=k.wrap (a*b)
def Cn(k:IntKind)(a b:Int):Int:=k.wrap ((BitVec.ofInt k.bits a&&&BitVec.ofInt k.bits b).toNat)
def bor(k:IntKind)(a b:Int):Int:=k.wrap ((BitVec.ofInt k.bits a|||BitVec.ofInt k.bits b).toNat)
def Pv(k:IntKind)(a b:Int):Int:=k.wrap ((BitVec.ofInt k.bits a^^^BitVec.ofInt k.bits b).toNat)
def V1(k:IntKind)(a b:Int):Int:=k.wrap ((BitVec.ofInt k.bits a&&& ~~~BitVec.ofInt k.bits b).toNat)
def Hw(k:IntKind)(a b:Int):Int:=k.wrap (a*2^(min b.toNat k.bits))
def Jd(k:IntKind)(a b:Int):Int:=a.fdiv (2^(min b.toNat k.bits))
def Nb(k:IntKind)(a b:Int):Int:=k.wrap (a.tdiv b)
def Tk(a b:Int):Int:=a.tmod b
def Cg(k:IntKind)(a:Int):Int:=k.wrap a
def Nc(a b:Int):Int:=if b<a then b else a
def D3(a b:Int):Int:=if b>a then b else a
theorem Cz{x:Int}(h1: -9223372036854775808≤x)(h2:x≤9223372036854775807):IntKind.i64.wrap x=x:=by
  simp only[IntKind.wrap,IntKind.bits,IntKind.signed,Bool.true_and,Nat.reduceSub,Int.reducePow]
  by_cases h:x%18446744073709551616≥9223372036854775808
  · rw[if_pos (by simpa using h)];omega
  · rw[if_neg (by simpa using h)];omega
theorem Rw(a b:Int):Nc a b≤a∧Nc a b≤b∧(Nc a b=a∨Nc a b=b):=by unfold Nc;split<;>omega
theorem Ik(a b:Int):a≤D3 a b∧b≤D3 a b∧(D3 a b=a∨D3 a b=b):=by unfold D3;split<;>omega
theorem A6{a b c:Int}(h:a+b=c)(h1: -9223372036854775808≤c)(h2:c≤9223372036854775807):Bt .i64 a b=c:=by unfold Bt;rw[h,Cz h1 h2]
theorem Er{a b c:Int}(h:a-b=c)(h1: -9223372036854775808≤c)(h2:c≤9223372036854775807):Hk .i64 a b=c:=by unfold Hk;rw[h,Cz h1 h2]
theorem Nn{a b c:Int}(h:a*b=c)(h1: -9223372036854775808≤c)(h2:c≤9223372036854775807):Ld .i64 a b=c:=by unfold Ld;rw[h,Cz h1 h2]
theorem Oj{a b:Nat}(h:(a:Int)≤9223372036854775807):Nb .i64 (a:Int) (b:Int)=((a/b:Nat):Int):=by
  unfold Nb
  have e:(a:Int).tdiv (b:Int)=((a/b:Nat):Int):=rfl
  rw[e]
  have:=Nat.div_le_self a b
  generalize a/b=q at*
  exact Cz (by omega) (by omega)
theorem U0{k:IntKind}{x:Int}(hs:k.signed=false)(h1:0≤x)(h2:x<2^k.bits):k.wrap x=x:=by
  simp only[IntKind.wrap,hs,Bool.false_and,Bool.false_eq_true,if_false]
  exact Int.emod_eq_of_lt h1 h2
theorem Ej{x:Int}(h1:0≤x)(h2:x<65536):IntKind.u16.wrap x=x:=U0 rfl h1 (by simpa [IntKind.bits]using h2)
theorem Le{x:Int}(h1:0≤x)(h2:x<4294967296):IntKind.u32.wrap x=x:=U0 rfl h1 (by simpa [IntKind.bits]using h2)
theorem Cc{x:Int}(h1:0≤x)(h2:x<18446744073709551616):IntKind.u64.wrap x=x:=U0 rfl h1 (by simpa [IntKind.bits]using h2)
def pv(P:Program){α:Type}:Sem α→Option α
  | .pure a=>some a
  | .program k=>pv P (k P)
  | .mark _ k=>pv P k
  |_=>none
theorem Rx{P:Program}{α:Type}: ∀{s:Sem α} {a:α},pv P s=some a→ ∀w,s.run P w=.ok a w
  | .pure a,b,h,w=>by cases h;rfl
  | .program k,b,h,w=>Rx (s:=k P) h w
  | .mark m k,b,h,w=>Rx (s:=k) h w
  | .load ..,_,h,_=>by cases h
  | .store ..,_,h,_=>by cases h
  | .new ..,_,h,_=>by cases h
  | .shape ..,_,h,_=>by cases h
  | .freeze ..,_,h,_=>by cases h
  | .frozen ..,_,h,_=>by cases h
  | .getObj ..,_,h,_=>by cases h
  | .setObj ..,_,h,_=>by cases h
  | .choose ..,_,h,_=>by cases h
  | .sys ..,_,h,_=>by cases h
  | .halt ..,_,h,_=>by cases h
def V2(P:Program)(n:Nat)(f:Nat→Value)(o:Oper):Option Value:=match pv P (execOp (ev n f) o)with
  |some (.value v)=>some v
  |_=>none
def Hm(P:Program)(n:Nat):List Oper→(Nat→Value)→Option (Nat→Value)
  | [],f=>some f
  |o::l,f=>match Gu o,o.dst,V2 P n f o with
    |true,some d,some v=>Hm P n l (Ft f d v)
    |_,_,_=>none
def pf(P:Program)(n k:Nat)(l:List Oper)(f:Nat→Value):Nat→Value:=(Hm P n (l.take k) f).getD f
section
variable {r:Option Nat}{P:Program}{ops:Array Oper}{Q:Exit→Act→World→Prop}{K:Act→World→Prop}{S:World→Prop}{n:Nat}{ds:List Deferred}{f:Nat→Value}{o:Oper}{rest:List Oper}{v:Value}{d:Nat}{w0:World}{M:List Nat}{LL LL':List (List Blk)}{s:List Blk}{i j b:Nat}
theorem Ok(h: ∀w,S w→(execOp (ev n f) o).run P w=.ok (.value v) w):Ys P n S f o v:=h
theorem Ys.pure(h: ∀w,(execOp (ev n f) o).run P w=.ok (.value v) w):Ys P n S f o v:=fun w _=>h w
theorem Ys.conseq{v':Value}(e:v=v')(h:Ys P n S f o v):Ys P n S f o v':=e▸h
theorem Ys.mono{S':World→Prop}(hs: ∀w,S w→S' w)(h:Ys P n S' f o v):Ys P n S f o v:=fun w hS=>h w (hs w hS)
theorem V3: ∀(l:List Oper) (k:Nat) (f:Nat→Value) (f':Nat→Value),Hm P n (l.take k) f=some f'→Wl r P ops K (l.drop k) n ds f' S→Wl r P ops K l n ds f S
  |l,0,f,f',h,hw=>by simp[Hm]at h;subst h;exact hw
  | [],k+1,f,f',h,hw=>by simp[Hm]at h;subst h;simpa using hw
  |o::l,k+1,f,f',h,hw=>by
    simp only[List.take_succ_cons,Hm]at h
    split at h
    · rename_i d v hp hd hv
      have hy:Ys P n S f o v:=Ys.pure fun w=>by
        unfold V2 at hv
        split at hv
        · rename_i v' hpv
          obtain rfl:=Option.some.inj hv
          exact Rx hpv w
        · cases hv
      exact Wl.ys hp hd hy (V3 l k _ f' h (by simpa using hw))
    · cases h
theorem Ahb{l:List Oper}(k:Nat)(h:(Hm P n (l.take k) f).isSome=true)(hw:Wl r P ops K (l.drop k) n ds (pf P n k l f) S):Wl r P ops K l n ds f S:=by
  obtain⟨f',hf⟩:=Option.isSome_iff_exists.1 h
  have e:pf P n k l f=f':=by simp[pf,hf]
  rw[e]at hw
  exact V3 l k f f' hf hw
def Gw(P:Program)(n:Nat)(ops:Array Oper):List (Nat×Bool)→(Nat→Value)→Option (Nat→Value)
  | [],f=>some f
  |(i,true)::l,f=>match ops[i]? with
    |some o=>match Gu o,o.dst,V2 P n f o with
      |true,some d,some v=>Gw P n ops l (Ft f d v)
      |_,_,_=>none
    |none=>none
  |(_,false)::_,_=>none
def D4(P:Program)(n:Nat)(ops:Array Oper)(k:Nat)(l:List (Nat×Bool))(f:Nat→Value):Nat→Value:=(Gw P n ops (l.take k) f).getD f
theorem V4{T:World→Prop}{A:List Nat}: ∀(l:List (Nat×Bool)) (k:Nat) (f f':Nat→Value),Gw P n ops (l.take k) f=some f'→Wd P ops K S A (l.drop k) n ds f' T→Wd P ops K S A l n ds f T
  |l,0,f,f',h,hw=>by simp[Gw]at h;subst h;exact hw
  | [],k+1,f,f',h,hw=>by simp[Gw]at h;subst h;simpa using hw
  |(i,false)::l,k+1,f,f',h,hw=>by simp[Gw]at h
  |(i,true)::l,k+1,f,f',h,hw=>by
    simp only[List.take_succ_cons,Gw]at h
    split at h
    · rename_i o ho
      split at h
      · rename_i d v hp hd hv
        have hy:Ys P n S f o v:=Ys.pure fun w=>by
          unfold V2 at hv
          split at hv
          · rename_i v' hpv
            obtain rfl:=Option.some.inj hv
            exact Rx hpv w
          · cases hv
        exact Wd.ys ho (Rt hp) hd hy (V4 l k _ f' h (by simpa using hw))
      · cases h
    · cases h
theorem Ahc{T:World→Prop}{A:List Nat}{l:List (Nat×Bool)}(k:Nat)(h:(Gw P n ops (l.take k) f).isSome=true)(hw:Wd P ops K S A (l.drop k) n ds (D4 P n ops k l f) T):Wd P ops K S A l n ds f T:=by
  obtain⟨f',hf⟩:=Option.isSome_iff_exists.1 h
  have e:D4 P n ops k l f=f':=by simp[D4,hf]
  rw[e]at hw
  exact V4 l k f f' hf hw
theorem V5{c x y:Operand}{e:Bool}(hop:o.op=.pick c x y)(hc:ev n f c=.bool e):Ys P n S f o (bif e then ev n f x else ev n f y):=Ys.pure fun w=>by
  simp only[execOp,hop,hc,asBool]
  cases e<;>rfl
theorem D0{c x y:Operand}{e b:Bool}(hop:o.op=.pick c x y)(hc:ev n f c=.bool e)(hx:ev n f x=bif e then .bool b else undef)(hy:ev n f y=.bool false):Ys P n S f o (.bool (e&&b)):=
  (V5 hop hc).conseq (by cases e<;>simp[hx,hy])
theorem Lg{t:TypeId}{a:Addr}{w:World}(ht: ∀w,(isAgg t).run P w=.ok false w)(hc:w.cell? a=some v):(loadVar t a).run P w=.ok v w:=by
  simp[loadVar,ht,hc]
theorem Lh{t:TypeId}{a:Addr}{w:World}{vs:List Value}(ht: ∀w,(isAgg t).run P w=.ok true w)(hz: ∀w,(sizeOf t).run P w=.ok vs.length w)(hc: ∀j v,vs[j]? =some v→w.cell? (a.add j)=some v):
    (loadVar t a).run P w=.ok (.agg vs.toArray) w:=by
  have hl:=run_loadCells_list (P:=P) w a vs hc
  simp[loadVar,ht,hz,hl]
theorem add_lit(b o j:Nat):(⟨b,o,none⟩:Addr).add j=⟨b,o+j,none⟩:=by
  unfold Addr.add;split<;>simp_all
theorem Lj(a:Addr):a.add 0=a:=by
  unfold Addr.add
  split<;>simp_all
theorem Ge(a:Addr)(m n:Nat):(a.add m).add n=a.add (m+n):=by
  unfold Addr.add
  by_cases h1:m=0<;>by_cases h2:n=0<;>simp[h1,h2,Nat.add_assoc]
theorem Md(a:Addr)(i:Nat):(a.add i).block=a.block:=by unfold Addr.add;split<;>rfl
theorem Adg{w:World}{a:Addr}{v:Value}(h:w.cell? a=some v):a.block<w.heap.size:=by
  unfold World.cell? at h
  split at h
  · rename_i hb
    exact(Array.getElem?_eq_some_iff.1 hb).1
  · cases h
theorem My{t:TypeId}{x:Operand}{a:Addr}{w:World}(hop:o.op=.load t x)(hx:ev n f x=.pointer (some a))(h:(loadVar t a).run P w=.ok v w):(execOp (ev n f) o).run P w=.ok (.value v) w:=by
  simp[execOp,hop,hx,Instr.loadAt,Instr.sureAddr,h]
theorem Ys.ld{t:TypeId}{x:Operand}{a:Addr}(hop:o.op=.load t x)(hx:ev n f x=.pointer (some a))(ht: ∀w,(isAgg t).run P w=.ok false w)(hc: ∀w,S w→w.cell? a=some v):Ys P n S f o v:=
  Ok fun w hS=>My hop hx (Lg ht (hc w hS))
theorem Ys.ldN{t:TypeId}{x:Operand}{a:Addr}{sz:Nat}{vs:List Value}(hop:o.op=.load t x)(hx:ev n f x=.pointer (some a))(ht: ∀w,(isAgg t).run P w=.ok true w)
    (hz: ∀w,(sizeOf t).run P w=.ok sz w) (hl:vs.length=sz) (hc: ∀w,S w→ ∀j v,vs[j]? =some v→w.cell? (a.add j)=some v):Ys P n S f o (.agg vs.toArray):=
  Ok fun w hS=>My hop hx (Lh ht (by rw[hl];exact hz) (hc w hS))
theorem Mem.cells{w:World}(h:Mem w0 M LL w){o:Nat}{cs vs:List Value}{t:TypeId}(hi:LL[i]? =some s)(hj:s[j]? =some (cb b cs t))(hv: ∀q v,vs[q]? =some v→cs[o+q]? =some v):
    ∀q v,vs[q]? =some v→w.cell? ((⟨b,o,none⟩:Addr).add q)=some v:=fun q v hq=>by
  rw[add_lit]
  exact h.cell hi hj (hv q v hq)
theorem No{cs vs:List Value}{o sz:Nat}(hv:(cs.drop o).take sz=vs): ∀q v,vs[q]? =some v→cs[o+q]? =some v:=fun q v hj=>by
  rw[←hv,List.getElem?_take]at hj
  split at hj
  · simpa using hj
  · cases hj
theorem Bp{t:TypeId}{x:Operand}{o':Nat}{cs:List Value}{ty:TypeId}(hop:o.op=.load t x)(hx:ev n f x=.pointer (some ⟨b,o',none⟩))(ht: ∀w,(isAgg t).run P w=.ok false w)
    (hi:LL[i]? =some s) (hj:s[j]? =some (cb b cs ty)) (hv:cs[o']? =some v):Ys P n (Mem w0 M LL) f o v:=Ys.ld hop hx ht fun _ hS=>hS.cell hi hj hv
theorem Zk{t:TypeId}{x:Operand}{o' sz:Nat}{cs vs:List Value}{ty:TypeId}(hop:o.op=.load t x)(hx:ev n f x=.pointer (some ⟨b,o',none⟩))(ht: ∀w,(isAgg t).run P w=.ok true w)
    (hz: ∀w,(sizeOf t).run P w=.ok sz w) (hi:LL[i]? =some s) (hj:s[j]? =some (cb b cs ty)) (hv:(cs.drop o').take sz=vs) (hl:vs.length=sz):Ys P n (Mem w0 M LL) f o (.agg vs.toArray):=
  Ys.ldN hop hx ht hz hl fun _ hS=>hS.cells hi hj (No hv)
theorem Ll{t:TypeId}{x y:Operand}{a:Addr}{w w':World}(hop:o.op=.store t x y)(hx:ev n f x=.pointer (some a))(hy:ev n f y=v)(h:(storeVar t a v).run P w=.ok () w'):(execOp (ev n f) o).run P w=.ok .skip w':=by
  simp[execOp,hop,hx,hy,Instr.storeAt,Instr.sureAddr,h]
theorem Xz(hv:v.oneCell'=true):v.cells= #[v]:=by
  cases v<;>first|rfl|cases hv
theorem Mem.free{w:World}(h:Mem w0 M LL w){o:Nat}{cs:List Value}{t:TypeId}(hi:LL[i]? =some s)(hj:s[j]? =some (cb b cs t)):w.frozen? ⟨b,o,none⟩=false:=by
  have:=h.at hi hj
  simp only at this
  simp[World.frozen?,this]
theorem U1{w:World}(h:Mem w0 M LL w){o:Nat}{cs:List Value}{t:TypeId}(hi:LL[i]? =some s)(hj:s[j]? =some (cb b cs t))(ho:o<cs.length)(hv:v.oneCell'=true):
    (store ⟨b,o,none⟩ v).run P w=.ok () (w.setCell ⟨b,o,none⟩ v):=by
  rw[run_store P w _ v _ hv,h.cell hi hj (List.getElem?_eq_getElem ho),h.free hi hj]
  simp
theorem Ek{t:TypeId}{x y:Operand}{o':Nat}{cs cs':List Value}{ty:TypeId}(hd:o.dst=none)(hop:o.op=.store t x y)(hx:ev n f x=.pointer (some ⟨b,o',none⟩))(hy:ev n f y=v)
    (hz: ∀w,(sizeOf t).run P w=.ok 1 w) (hv:v.oneCell'=true) (hi:LL[i]? =some s) (hj:s[j]? =some (cb b cs ty)) (ho:o'<cs.length) (hcs:cs.set o' v=cs') (hL:LL.set i (s.set j (cb b cs' ty))=LL'):
    Ht (β:=Unit) P n (Mem w0 M LL) f o (fun _=>f) (fun _=>Mem w0 M LL'):=fun ds w hS K hK=>by
  have hs:(storeVar t ⟨b,o',none⟩ v).run P w=.ok () (w.setCell ⟨b,o',none⟩ v):=by
    simp only[storeVar,Sem.run_bind,hz,Xz hv,Result.andThen_ok]
    have:(⟨b,o',none⟩:Addr).add 0=⟨b,o',none⟩:=rfl
    simp[storeCells,this,U1 hS hi hj ho hv]
  unfold Oper.wp
  rw[C1,Ll hop hx hy hs]
  subst hcs
  have:=hK () _ (hL▸hS.setCell hi hj v)
  simp only[Oper.upon,hd,Ja]
  exact this
def Bn(cs:List Value)(o:Nat)(vs:List Value):List Value:=cs.take o++(vs++cs.drop (o+vs.length))
theorem Ce(cs:List Value)(o:Nat)(vs:List Value)(h:o+vs.length≤cs.length):(Bn cs o vs).length=cs.length:=by
  unfold Bn;simp;omega
theorem X0(cs:List Value)(o:Nat):Bn cs o []=cs:=by simp[Bn]
theorem Ey{w:World}(h:Mem w0 M LL w)(vs:List Value)(o k:Nat){cs:List Value}{t:TypeId}(hi:LL[i]? =some s)(hj:s[j]? =some (cb b cs t))(hl:o+vs.length≤cs.length)(h1: ∀v∈vs,v.oneCell'=true):
    ∃w',(storeCells ⟨b,o,none⟩ vs 0).run P w=.ok () w'∧Mem w0 M (LL.set i (s.set j (cb b (Bn cs o vs) t))) w':=by
  have hb:=h.at hi hj
  simp only at hb
  have Y8:=run_storeCells_at P b o t vs 0 cs.toArray w hb (by simpa using hl) h1
  refine⟨_,Y8,?_⟩
  have e:((cs.toArray).toList.take (o+0)++vs++(cs.toArray).toList.drop (o+0+vs.length))=Bn cs o vs:=by simp[Bn]
  rw[e]
  exact h.putO hi hj rfl rfl rfl (by simp[World.setRow]) (fun k _ hk=>setRow_other w b k _ hk) (setRow_heap w b _ _ t _ hb)
theorem P1{t:TypeId}{x y:Operand}{o':Nat}{cs vs cs':List Value}{ty:TypeId}(hd:o.dst=none)(hop:o.op=.store t x y)(hx:ev n f x=.pointer (some ⟨b,o',none⟩))(hy:ev n f y=.agg vs.toArray)
    (hz: ∀w,(sizeOf t).run P w=.ok vs.length w) (hv: ∀v∈vs,v.oneCell'=true) (hi:LL[i]? =some s) (hj:s[j]? =some (cb b cs ty)) (ho:o'+vs.length≤cs.length) (hcs:Bn cs o' vs=cs') (hL:LL.set i (s.set j (cb b cs' ty))=LL'):
    Ht (β:=Unit) P n (Mem w0 M LL) f o (fun _=>f) (fun _=>Mem w0 M LL'):=fun ds w hS K hK=>by
  obtain⟨w',hr,hm⟩:=Ey (P:=P) hS vs o' 0 hi hj ho hv
  have hs:(storeVar t ⟨b,o',none⟩ (.agg vs.toArray)).run P w=.ok () w':=by
    simp only[storeVar,Sem.run_bind,hz,Value.cells,Result.andThen_ok]
    simpa using hr
  unfold Oper.wp
  rw[C1,Ll hop hx hy hs]
  rw[hcs,hL]at hm
  have:=hK () _ hm
  simp only[Oper.upon,hd,Ja]
  exact this
theorem Bd{mk:Nat→Value}{t:TypeId}{cs:List Value}(hd:o.dst=some d)
    (hr: ∀w,(execOp (ev n f) o).run P w=.ok (.value (mk w.heap.size)) {w with heap:=w.heap.push (.cells cs.toArray t (0,0))}):
    Ht P n (Mem w0 M LL) f o (fun b=>Ft f d (mk b)) (fun b=>Mem w0 M ([cb b cs t]::LL)):=fun ds w hS K hK=>by
  unfold Oper.wp
  rw[C1,hr]
  simp only[Oper.upon,hd,De]
  exact hK _ _ (hS.alloc cs t)
theorem Ht.alloc{t:TypeId}{z:Value}{cs:List Value}(hd:o.dst=some d)(hop:o.op=.alloc t)(hz: ∀w,(zeroValue t).run P w=.ok z w)(hcs:z.cells.toList=cs):
    Ht P n (Mem w0 M LL) f o (fun b=>Ft f d (.pointer (some ⟨b,0,none⟩))) (fun b=>Mem w0 M ([cb b cs t]::LL)):=Bd (mk:=fun b=>.pointer (some ⟨b,0,none⟩)) hd fun w=>by
  have e:z.cells=cs.toArray:=by rw[←hcs]
  simp[execOp,hop,Instr.alloc,hz,newVar,newRow,newObj,Sem.run,e]
theorem Fl{t:TypeId}{x:Operand}{cs:List Value}(hd:o.dst=some d)(hop:o.op=.box t x)(hx:ev n f x=v)(hcs:v.cells.toList=cs):
    Ht P n (Mem w0 M LL) f o (fun b=>Ft f d (.pointer (some ⟨b,0,none⟩))) (fun b=>Mem w0 M ([cb b cs t]::LL)):=Bd (mk:=fun b=>.pointer (some ⟨b,0,none⟩)) hd fun w=>by
  have e:v.cells=cs.toArray:=by rw[←hcs]
  simp[execOp,hop,hx,Instr.box,newVar,newRow,newObj,Sem.run,e]
end
section
variable {r:Option Nat}{P:Program}{ops:Array Oper}{Q:Exit→Act→World→Prop}{K:Act→World→Prop}{S:World→Prop}{n:Nat}{ds:List Deferred}{f:Nat→Value}{o:Oper}{rest:List Oper}{v:Value}{d:Nat}{w0:World}{M:List Nat}{LL LL':List (List Blk)}{s:List Blk}{i j b:Nat}
theorem Yc.call{k:FuncId}{args:Array Value}(h: ∀w,(execOp (ev n f) o).run P w=.ok (.enter k args) w)(hc: ∀w,Mem w0 M LL w→Calls P k args w (Dc w v)):Yc P n (Mem w0 M LL) f o v:=fun ds w hS K hK=>by
  unfold Oper.wp
  rw[C1,h w]
  refine Calls.mono (hc w hS) ?_
  rintro e w' ⟨rfl,hb⟩
  exact hK _ (hS.ext hb)
theorem Adh{β:Type}{k:FuncId}{args:Array Value}{Φ:β→Prop}{vf:β→Value}{Lin Lk:List (List Blk)}{Lf Lo:β→List (List Blk)}{Mi:List Nat}(is ks:List Nat)(hd:o.dst=some d)
    (h: ∀w,(execOp (ev n f) o).run P w=.ok (.enter k args) w) (hnd:(is++ks).Nodup) (hin:Ct LL is=Lin) (hk:Ct LL ks=Lk) (hM:Lin.flatten.map (·.b)=Mi)
    (hc: ∀w,Mem w0 M LL w→Mem w Mi Lin w→Calls P k args w (Bj w Φ vf Mi Lf)) (hLo: ∀g,Lf g++Lk=Lo g):
    Ht (β:={g:β//Φ g}) P n (Mem w0 M LL) f o (fun g=>Ft f d (vf g.1)) (fun g=>Mem w0 M (Lo g.1)):=fun ds w hS K hK=>by
  subst hM
  have h1:Mem w0 M (Lin++Lk) w:=hS.pick (is++ks) hnd (by rw[←hin,←hk];simp[Ct])
  unfold Oper.wp
  rw[C1,h w]
  refine Calls.mono (hc w hS h1.local) ?_
  rintro e w' ⟨g,hΦ,rfl,hm⟩
  simp only[hd,De]
  exact hK ⟨g,hΦ⟩ _ (by show Mem w0 M (Lo g) w';rw[←hLo g];exact h1.back hm)
def HtS{β:Type}(P:Program)(n:Nat)(S:World→Prop)(f:Nat→Value)(o:Oper)(Φ:β→Prop)(f':β→Nat→Value)(S':β→World→Prop):Prop:=
  Ht (β:={g:β//Φ g}) P n S f o (fun g=>f' g.1) (fun g=>S' g.1)
theorem Zl{β:Type}{k:FuncId}{args:Array Value}{Φ:β→Prop}{vf:β→Value}{Lin Lk:List (List Blk)}{Lf Lo:β→List (List Blk)}{Mi:List Nat}(is ks:List Nat)(hd:o.dst=some d)
    (h: ∀w,(execOp (ev n f) o).run P w=.ok (.enter k args) w) (hnd:(is++ks).Nodup) (hin:Ct LL is=Lin) (hk:Ct LL ks=Lk) (hM:Lin.flatten.map (·.b)=Mi)
    (hc: ∀w,Mem w0 M LL w→Mem w Mi Lin w→Calls P k args w (Bj w Φ vf Mi Lf)) (hLo: ∀g,Lf g++Lk=Lo g):
    HtS P n (Mem w0 M LL) f o Φ (fun g=>Ft f d (vf g)) (fun g=>Mem w0 M (Lo g)):=Adh is ks hd h hnd hin hk hM hc hLo
theorem Ax{β:Type}{Φ:β→Prop}{f':β→Nat→Value}{S':β→World→Prop}(hg:Gu o=true)(h:HtS P n S f o Φ f' S')(hr: ∀b,Φ b→Wl r P ops K rest n ds (f' b) (S' b)):Wl r P ops K (o::rest) n ds f S:=Ai hg h fun b=>hr b.1 b.2
theorem Cd{T:World→Prop}{i:Nat}{pl:List (Nat×Bool)}{A:List Nat}{β:Type}{Φ:β→Prop}{f':β→Nat→Value}{T':β→World→Prop}(hi:ops[i]? =some o)(hg:o.guard=none)(h:HtS P n T f o Φ f' T')(hTS:Fk .any ops A i=true∨ ∀b w,T' b w→S w)(hr: ∀b,Φ b→Wd P ops K S A pl n ds (f' b) (T' b)):Wd P ops K S A ((i,false)::pl) n ds f T:=
  B8 hi hg h (hTS.imp_right fun h b w=>h b.1 w) fun b=>hr b.1 b.2
theorem Adi{T:World→Prop}{i:Nat}{pl:List (Nat×Bool)}{A:List Nat}{β:Type}{Φ:β→Prop}{f':β→Nat→Value}{T':β→World→Prop}(hi:ops[i]? =some o)(hw:Region.wanted o (yl ops n f)=true)(h:HtS P n T f o Φ f' T')(hTS:Fk .any ops A i=true∨ ∀b w,T' b w→S w)(hr: ∀b,Φ b→Wd P ops K S A pl n ds (f' b) (T' b)):Wd P ops K S A ((i,false)::pl) n ds f T:=
  Zh hi hw h (hTS.imp_right fun h b w=>h b.1 w) fun b=>hr b.1 b.2
theorem Amy{β:Type}{Φ:β→Prop}{f':β→Nat→Value}{S':β→World→Prop}(hn:I0 o=true)(hw:Region.wanted o (yl ops n f)=true)(h:HtS P n S f o Φ f' S')(hr: ∀b,Φ b→Wl r P ops K rest n ds (f' b) (S' b)):Wl r P ops K (o::rest) n ds f S:=Aha hn hw h fun b=>hr b.1 b.2
theorem An(b o' i j:Nat){t:TypeId}(ht: ∀w,(isAgg t).run P w=.ok false w){x:Operand}{cs:List Value}{ty:TypeId}(hop:o.op=.load t x:=by rfl)(hx:ev n f x=.pointer (some ⟨b,o',none⟩):=by kernel_rfl)
    (hi:LL[i]? =some s:=by rfl) (hj:s[j]? =some (cb b cs ty):=by rfl) (hv:cs[o']? =some v:=by rfl):Ys P n (Mem w0 M LL) f o v:=Bp hop hx ht hi hj hv
theorem Amz{l:List Oper}(is:List Nat)(hd:is.Nodup)(e:Ct LL is=LL')(h:Wl r P ops K l n ds f (Mem w0 M LL')):Wl r P ops K l n ds f (Mem w0 M LL):=Wl.conseq (fun _ hS=>hS.pick is hd e) h
theorem Ap{c:Code}(is:List Nat)(hd:is.Nodup)(e:Ct LL is=LL')(h:W r P Q c n ds f (Mem w0 M LL')):W r P Q c n ds f (Mem w0 M LL):=W.conseq (fun _ hS=>hS.pick is hd e) h
theorem Bu{l:List Oper}(e:LL=LL')(h:Wl r P ops K l n ds f (Mem w0 M LL')):Wl r P ops K l n ds f (Mem w0 M LL):=by rwa[e]
theorem Il{fn:Func}{R:Ending→World→Prop}{w:World}(hres:fn.results= #[])(hR:R (.returned (.tuple #[])) w):Fin P fn R (Fr n ds f) w:=by
  refine⟨_,?_,hR⟩
  rw[G8]
  simp[hres]
theorem Bb{fn:Func}{R:Ending→World→Prop}{r:ResultVar}{w:World}(hres:fn.results= #[r])(hv:RV P S n f r v)(hS:S w)(hR:R (.returned v) w):Fin P fn R (Fr n ds f) w:=by
  refine⟨v,?_,hR⟩
  rw[G8]
  simp[hres,Dz hS hv]
theorem B9{fn:Func}{R:Ending→World→Prop}{r1 r2:ResultVar}{v1 v2:Value}{w:World}(hres:fn.results= #[r1,r2])(hv1:RV P S n f r1 v1)(hv2:RV P S n f r2 v2)(hS:S w)(hR:R (.returned (.tuple #[v1,v2])) w):Fin P fn R (Fr n ds f) w:=by
  refine⟨_,?_,hR⟩
  rw[G8]
  simp[hres,Dz hS hv1,Dz hS hv2]
theorem I1{fn:Func}{R:Ending→World→Prop}{r1 r2 r3:ResultVar}{v1 v2 v3:Value}{w:World}(hres:fn.results= #[r1,r2,r3])(hv1:RV P S n f r1 v1)(hv2:RV P S n f r2 v2)(hv3:RV P S n f r3 v3)(hS:S w)
    (hR:R (.returned (.tuple #[v1,v2,v3])) w):Fin P fn R (Fr n ds f) w:=by
  refine⟨_,?_,hR⟩
  rw[G8]
  simp[hres,Dz hS hv1,Dz hS hv2,Dz hS hv3]
theorem Zm{fn:Func}{R:Ending→World→Prop}{r1 r2 r3 r4:ResultVar}{v1 v2 v3 v4:Value}{w:World}(hres:fn.results= #[r1,r2,r3,r4])(hv1:RV P S n f r1 v1)(hv2:RV P S n f r2 v2)(hv3:RV P S n f r3 v3)(hv4:RV P S n f r4 v4)(hS:S w)
    (hR:R (.returned (.tuple #[v1,v2,v3,v4])) w):Fin P fn R (Fr n ds f) w:=by
  refine⟨_,?_,hR⟩
  rw[G8]
  simp[hres,Dz hS hv1,Dz hS hv2,Dz hS hv3,Dz hS hv4]
theorem Ahd{t:Nat}(h:ev n f (.tmp t)=v):RV P S n f (.tmp t) v:=h
theorem Dj{t:TypeId}{a o':Nat}{cs:List Value}{ty:TypeId}(hx:ev n f (.tmp a)=.pointer (some ⟨b,o',none⟩))(ht: ∀w,(isAgg t).run P w=.ok false w)(hi:LL[i]? =some s)(hj:s[j]? =some (cb b cs ty))(hv:cs[o']? =some v):
    RV P (Mem w0 M LL) n f (.cell a t) v:=⟨_,hx,fun _ hS=>Lg ht (hS.cell hi hj hv)⟩
theorem Zn{t:TypeId}{a o' sz:Nat}{cs vs:List Value}{ty:TypeId}(hx:ev n f (.tmp a)=.pointer (some ⟨b,o',none⟩))(ht: ∀w,(isAgg t).run P w=.ok true w)(hz: ∀w,(sizeOf t).run P w=.ok sz w)
    (hi:LL[i]? =some s) (hj:s[j]? =some (cb b cs ty)) (hv:(cs.drop o').take sz=vs) (hl:vs.length=sz):RV P (Mem w0 M LL) n f (.cell a t) (.agg vs.toArray):=⟨_,hx,fun _ hS=>Lh ht (by rw[hl];exact hz) (hS.cells hi hj (No hv))⟩
end
section
variable {P:Program}{S:World→Prop}{n:Nat}{f:Nat→Value}{o:Oper}{v:Value}
theorem Af{k:IntKind}{a b:Int}(h:a=b):Value.int k a=Value.int k b:=by rw[h]
theorem Cj{a b:Bool}(h:a=b):Value.bool a=Value.bool b:=by rw[h]
theorem Ahe{t ty:TypeId}{x y:Operand}{k k':IntKind}{a b:Int}(hop:o.op=.binOp .shr t x y ty)(hx:ev n f x=.int k a)(hy:ev n f y=.int k' b)(h:0≤b):Ys P n S f o (.int k (Jd k a b)):=Ys.pure fun w=>by
  simp only[execOp,hop,hx,hy]
  have e:(eqGuard .shr t x y (.int k a) (.int k' b)).run P w=.ok () w:=rfl
  rw[Sem.run_bind,Sem.run_bind,e]
  simp[binOp,Op.shift,Int.not_lt.2 h,Jd]
theorem U2{t ty:TypeId}{x y:Operand}{k k':IntKind}{a b:Int}(hop:o.op=.binOp .shl t x y ty)(hx:ev n f x=.int k a)(hy:ev n f y=.int k' b)(h:0≤b):Ys P n S f o (.int k (Hw k a b)):=Ys.pure fun w=>by
  simp only[execOp,hop,hx,hy]
  have e:(eqGuard .shl t x y (.int k a) (.int k' b)).run P w=.ok () w:=rfl
  rw[Sem.run_bind,Sem.run_bind,e]
  simp[binOp,Op.shift,Int.not_lt.2 h,Hw]
theorem lz{x:Value}{g:Bool}{v u:Value}(h:g=true)(e:x=(bif g then v else u)):x=v:=by rw[e,h];rfl
theorem Bh{t:Nat}{v0:Value}(h:f t=v0)(hy:Ys P n S (Ft f t v0) o v):Ys P n S f o v:=by rwa[Jb h]at hy
theorem Eh{t:Nat}{v0:Value}(h:f t=v0)(hy:Yc P n S (Ft f t v0) o v):Yc P n S f o v:=by rwa[Jb h]at hy
theorem Bi{ops:Array Oper}{j:Nat}{e:Bool}(hg:o.guard=some (j,true))(h:yl ops n f j=some e):Region.wanted o (yl ops n f)=e:=by
  rw[La hg h];cases e<;>rfl
theorem B3{ops:Array Oper}{j:Nat}{e:Bool}(hg:o.guard=some (j,false))(h:yl ops n f j=some e):Region.wanted o (yl ops n f)= !e:=by
  rw[La hg h];cases e<;>rfl
theorem Zo{ops:Array Oper}{j t:Nat}{g e:Bool}(hg:o.guard=some (j,true))(hd:(ops[j]?).bind (·.dst)=some t)(h:ev n f (.tmp t)=(bif g then .bool e else undef)):Region.wanted o (yl ops n f)=(g&&e):=by
  cases g<;>simp[Region.wanted,hg,yl,hd,h,undef]
theorem Zp{ops:Array Oper}{j t:Nat}{g e:Bool}(hg:o.guard=some (j,false))(hd:(ops[j]?).bind (·.dst)=some t)(h:ev n f (.tmp t)=(bif g then .bool e else undef)):Region.wanted o (yl ops n f)=(g&& !e):=by
  cases g<;>simp[Region.wanted,hg,yl,hd,h,undef]
theorem Dr{c x y:Operand}{e b:Bool}(hop:o.op=.pick c x y)(hc:ev n f c=.bool e)(hx:ev n f x=.bool true)(hy:ev n f y=bif (!e)then .bool b else undef):Ys P n S f o (.bool (e||b)):=
  (V5 hop hc).conseq (by cases e<;>simp[hx,hy])
end
section
variable {r:Option Nat}{P:Program}{ops:Array Oper}{Q:Exit→Act→World→Prop}{K:Act→World→Prop}{S T:World→Prop}{n:Nat}{ds:List Deferred}{f:Nat→Value}{o:Oper}{rest:List Oper}{v:Value}{w0:World}{M:List Nat}{LL:List (List Blk)}{s:List Blk}{i j:Nat}{A:List Nat}{pl:List (Nat×Bool)}
theorem Ys.p(h: ∀w,(execOp (ev n f) o).run P w=.ok (.value v) w:=by intro _;kernel_rfl):Ys P n S f o v:=Ys.pure h
theorem Ab{l:List Oper}(k:Nat)(hw:Wl r P ops K (l.drop k) n ds (pf P n k l f) S)(h:(Hm P n (l.take k) f).isSome=true:=by kernel_rfl):Wl r P ops K l n ds f S:=Ahb k h hw
theorem Ay{l:List (Nat×Bool)}(k:Nat)(hw:Wd P ops K S A (l.drop k) n ds (D4 P n ops k l f) T)(h:(Gw P n ops (l.take k) f).isSome=true:=by kernel_rfl):Wd P ops K S A l n ds f T:=Ahc k h hw
theorem B0(h:Yc P n S f o v)(hr:Wl r P ops K rest n ds (Ft f (o.dst.getD 0) v) S)(hg:Gu o=true:=by rfl)(hd:o.dst.isSome=true:=by rfl):Wl r P ops K (o::rest) n ds f S:=by
  obtain⟨d,e⟩:=Option.isSome_iff_exists.1 hd
  rw[e]at hr;exact Wl.yc hg e h hr
theorem Ah(h:Ys P n S f o v)(hr:Wl r P ops K rest n ds (Ft f (o.dst.getD 0) v) S)(hg:Gu o=true:=by rfl)(hd:o.dst.isSome=true:=by rfl):Wl r P ops K (o::rest) n ds f S:=B0 h.yc hr hg hd
theorem A9{k:FuncId}{args:Array Value}(hc: ∀w,Mem w0 M LL w→Calls P k args w (Dc w v))(h: ∀w,(execOp (ev n f) o).run P w=.ok (.enter k args) w:=by intro _;kernel_rfl):Yc P n (Mem w0 M LL) f o v:=Yc.call h hc
theorem Au{β:Type}{k:FuncId}{args:Array Value}{Φ:β→Prop}{vf:β→Value}{Lf:β→List (List Blk)}(is ks:List Nat)(hc: ∀w,Mem w0 M LL w→Mem w ((Ct LL is).flatten.map (·.b)) (Ct LL is) w→Calls P k args w (Bj w Φ vf ((Ct LL is).flatten.map (·.b)) Lf))(h: ∀w,(execOp (ev n f) o).run P w=.ok (.enter k args) w:=by intro _;kernel_rfl)(hnd:(is++ks).Nodup:=by decide)(hd:o.dst.isSome=true:=by rfl):
    HtS P n (Mem w0 M LL) f o Φ (fun g=>Ft f (o.dst.getD 0) (vf g)) (fun g=>Mem w0 M (Lf g++Ct LL ks)):=by
  obtain⟨d,e⟩:=Option.isSome_iff_exists.1 hd
  rw[e];exact Zl is ks e h hnd rfl rfl rfl hc (fun _=>rfl)
theorem A0(b o' i j:Nat)(vs:List Value){t:TypeId}{sz:Nat}(ht: ∀w,(isAgg t).run P w=.ok true w)(hz: ∀w,(sizeOf t).run P w=.ok sz w){x:Operand}{cs:List Value}{ty:TypeId}(hop:o.op=.load t x:=by rfl)(hx:ev n f x=.pointer (some ⟨b,o',none⟩):=by kernel_rfl)
    (hi:LL[i]? =some s:=by rfl) (hj:s[j]? =some (cb b cs ty):=by rfl) (hv:(cs.drop o').take sz=vs:=by rfl) (hl:vs.length=sz:=by rfl):Ys P n (Mem w0 M LL) f o (.agg vs.toArray):=Zk hop hx ht hz hi hj hv hl
theorem Bq(b o' i j:Nat)(vs:List Value){t:TypeId}{a sz:Nat}(ht: ∀w,(isAgg t).run P w=.ok true w)(hz: ∀w,(sizeOf t).run P w=.ok sz w){cs:List Value}{ty:TypeId}(hx:ev n f (.tmp a)=.pointer (some ⟨b,o',none⟩):=by kernel_rfl)
    (hi:LL[i]? =some s:=by rfl) (hj:s[j]? =some (cb b cs ty):=by rfl) (hv:(cs.drop o').take sz=vs:=by rfl) (hl:vs.length=sz:=by rfl):RV P (Mem w0 M LL) n f (.cell a t) (.agg vs.toArray):=Zn hx ht hz hi hj hv hl
theorem Aw{t:Nat}(v:Value)(h:ev n f (.tmp t)=v:=by kernel_rfl):RV P S n f (.tmp t) v:=Ahd h
theorem A4(b o' i j:Nat)(vs:List Value){t:TypeId}{cs:List Value}{ty:TypeId}(hz: ∀w,(sizeOf t).run P w=.ok vs.length w)(hi:LL[i]? =some s)(hj:s[j]? =some (cb b cs ty)){x y:Operand}(hop:o.op=.store t x y:=by rfl)(hd:o.dst=none:=by rfl)(hx:ev n f x=.pointer (some ⟨b,o',none⟩):=by kernel_rfl)(hy:ev n f y=.agg vs.toArray:=by kernel_rfl)
    (hv: ∀v∈vs,v.oneCell'=true:=by simp[Value.oneCell']) (ho:Nat.ble (o'+vs.length) cs.length=true:=by kernel_rfl):Ht (β:=Unit) P n (Mem w0 M LL) f o (fun _=>f) (fun _=>Mem w0 M (LL.set i (s.set j (cb b (Bn cs o' vs) ty)))):=P1 hd hop hx hy hz hv hi hj (Nat.le_of_ble_eq_true ho) rfl rfl
theorem Bg(b o' i j:Nat)(v:Value){t:TypeId}{cs:List Value}{ty:TypeId}(hz: ∀w,(sizeOf t).run P w=.ok 1 w)(hi:LL[i]? =some s)(hj:s[j]? =some (cb b cs ty)){x y:Operand}(hop:o.op=.store t x y:=by rfl)(hd:o.dst=none:=by rfl)(hx:ev n f x=.pointer (some ⟨b,o',none⟩):=by kernel_rfl)(hy:ev n f y=v:=by kernel_rfl)
    (hv:v.oneCell'=true:=by rfl) (ho:Nat.ble (o'+1) cs.length=true:=by kernel_rfl):Ht (β:=Unit) P n (Mem w0 M LL) f o (fun _=>f) (fun _=>Mem w0 M (LL.set i (s.set j (cb b (cs.set o' v) ty)))):=Ek hd hop hx hy hz hv hi hj (Nat.le_of_ble_eq_true ho) rfl rfl
theorem Bc{t:TypeId}{z:Value}(hz: ∀w,(zeroValue t).run P w=.ok z w)(hop:o.op=.alloc t:=by rfl)(hd:o.dst.isSome=true:=by rfl):Ht P n (Mem w0 M LL) f o (fun b=>Ft f (o.dst.getD 0) (.pointer (some ⟨b,0,none⟩))) (fun b=>Mem w0 M ([cb b z.cells.toList t]::LL)):=by
  obtain⟨d,e⟩:=Option.isSome_iff_exists.1 hd
  rw[e];exact Ht.alloc e hop hz rfl
theorem Bx(cs:List Value){t:TypeId}{x:Operand}(hop:o.op=.box t x)(hx:ev n f x=.agg cs.toArray:=by kernel_rfl)(hd:o.dst.isSome=true:=by rfl):Ht P n (Mem w0 M LL) f o (fun b=>Ft f (o.dst.getD 0) (.pointer (some ⟨b,0,none⟩))) (fun b=>Mem w0 M ([cb b cs t]::LL)):=by
  obtain⟨d,e⟩:=Option.isSome_iff_exists.1 hd
  rw[e];exact Fl e hop hx rfl
theorem Dh{id:Nat}{l:List Oper}(pl:List (Nat×Bool))(A:List Nat)(h:Wd P l.toArray (Q .normal) (Mem w0 M LL) A pl n ds f (Mem w0 M LL))(hm:P.follows .mixedOrders=true:=by kernel_rfl)(hd:Kk l.toArray=true:=by kernel_rfl)(hsel:Region.noSelect l.toArray=true:=by kernel_rfl)
    (hl:pl.length=l.length:=by rfl) (hp:Kz .any l.toArray A (Array.replicate l.length false) pl=true:=by kernel_rfl):W r P Q (.region id l.toArray true) n ds f (Mem w0 M LL):=Bz pl A _ hm hd hsel hl hp (fun _ _ h=>h.drawn _) (fun _ h=>h) h
theorem Aq{fn:Func}{R:Ending→World→Prop}(e:Q .ret (Fr n [] f)=bodyPostM (Cy none) 0 P fn R .ret (Fr n [] f))(h: ∀w,S w→Fin P fn R (Fr n [] f) w):W r P Q .ret n [] f S:=Tj fun w hS=>by rw[e];exact V0 (h w hS)
end
end Go.Proofs.YtmonlaoaengfdaaGreatDoor.Base
