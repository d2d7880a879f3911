import Derived.StillTail
import Derived.OrdersIn
import Derived.RangeFuncIn
import Derived.RangeFuncLeaves
import Derived.RangeFuncRecord
import Derived.WalkKit
import Derived.KernelRfl
set_option linter.unusedVariables false
set_option linter.unusedSimpArgs false
namespace Go.Proofs.YtmonlaoaengfdaaGreatDoor.Base
open Go.RowKit
abbrev Cv(r:Option Nat):Fence:={Fence.wide with round:=r}
def E4:Exit→Act→World→Prop:=fun _ _ _=>False
def H7(o:Oper):Bool:=match o.op with
  | .defer _=>false
  |_=>true
theorem Ra{o:Oper}(h:H7 o=true): ∀c,o.op≠.defer c:=fun c hc=>by simp[H7,hc]at h
theorem H8{P:Program}{f:FuncId}{args:Array Value}{w:World}{R:Ending→World→Prop}{r:Option Nat}{n:Nat}(h:Calls P f args w R):CallsIn (Cv r) n P f args w R:=by
  have b:CallsIn Fence.wide n P f args w R:=callsIn_wide.2 h
  cases r with
  |none=>exact b
  |some l=>exact b
theorem W2{P:Program}{f:FuncId}{args:Array Value}{w:World}{R:Ending→World→Prop}{r:Option Nat}{n:Nat}(h:CallsIn (Cv r) n P f args w R):Calls P f args w R:=by
  have b:CallsIn Fence.wide n P f args w R:=by
    cases r with
    |none=>exact h
    |some l=>exact h
  exact callsIn_wide.1 b
theorem Z1{P:Program}{b:String}{args:Array Value}{w:World}{R:Value→World→Prop}{r:Option Nat}{n:Nat}(h:Rows P b args w R):RowsIn (Cv r) n P b args w R:=fun c cs _=>by
  obtain⟨v,d,f,g⟩:=h c cs
  have e:StepsIn (Machine.fenced P Fence.wide) P (lone (Frame.ofRow P b args .normal) (c::cs) w) (lone (c.finish v) cs d):=stepsIn_wide.2 g
  refine⟨v,d,f,?_⟩
  cases r with
  |none=>exact e
  |some l=>exact e
theorem H9{P:Program}{Q:Exit→Act→World→Prop}{r:Option Nat}{n:Nat}{o:Oper}{a:Act}{w:World}{K:Act→World→Prop}(d:H7 o=true)(h:o.wp P a w K E4):o.wpIn (Cv r) n P a w K Q:=by
  refine⟨fun _ _=>trivial,?_⟩
  have e:o.semAt (Cv r).round a.eval=execOp a.eval o:=Oper.semAt_eq _ _ _ (Ra d)
  rw[e]
  unfold Oper.wp at h
  generalize(execOp a.eval o).run P w=r' at*
  cases r' with
  |ok x f=>
    cases x<;>simp only[Oper.upon]at h<;>simp only[Oper.uponIn]
    case value=>exact h
    case skip=>exact h
    case defer=>exact h
    case enter=>
      refine⟨fun h=>(by cases h),H8<|Calls.mono h fun e g b=>?_⟩
      cases e with
      |returned v=>exact b
      |panicked c=>exact b.elim
      |outgrown=>obtain⟨_,_,b⟩:=b;exact b.elim
    case row=>exact⟨fun h=>(by cases h),Z1 h⟩
    all_goals exact h.elim
  |halt x f=>
    cases x<;>simp only[Oper.upon]at h
    all_goals exact h.elim
theorem Vg{P:Program}{Q:Exit→Act→World→Prop}{r:Option Nat}{n:Nat}{o:Oper}{a:Act}{w:World}{K:Act→World→Prop}(h:o.wpIn (Cv r) n P a w K E4):o.wpIn (Cv r) n P a w K Q:=by
  refine⟨fun _ _=>trivial,?_⟩
  have h:=h.2
  generalize(o.semAt (Cv r).round a.eval).run P w=r' at*
  cases r' with
  |ok x f=>
    cases x<;>simp only[Oper.uponIn]at h⊢
    case value=>exact h
    case skip=>exact h
    case defer=>exact h
    case enter=>
      refine⟨h.1,CallsIn.mono h.2 fun e d b=>?_⟩
      cases e with
      |returned v=>exact b
      |panicked c=>exact b.elim
      |outgrown=>obtain⟨_,_,b⟩:=b;exact b.elim
    case row=>exact h
    case round=>
      refine⟨h.1,RoundIn.mono h.2 fun e d b=>?_⟩
      cases e with
      |returned v=>exact b
      |panicked c=>exact b.elim
      |outgrown=>obtain⟨_,_,b⟩:=b;exact b.elim
  |halt x f=>
    cases x<;>simp only[Oper.uponIn]at h⊢
    all_goals exact h.elim
def wl(r:Option Nat)(P:Program)(ops:Array Oper)(K:Act→World→Prop):List Oper→Act→World→Prop
  | [],a,w=>K a w
  |o::l,a,w=>if Region.wanted o (yielded ops a.tmps)then o.wpIn (Cv r) 0 P a w (wl r P ops K l) E4 else wl r P ops K l (a.put o.dst undef) w
theorem Aji{r:Option Nat}{P:Program}{ops:Array Oper}{K:Act→World→Prop}{Q:Exit→Act→World→Prop}(b: ∀a w,K a w→Q .normal a w): ∀(l:List Oper) (k:Nat) (a:Act) (w:World),(∀j,l[j]? =ops[k+j]? ∨l.length≤j)→wl r P ops K l a w→wpOpsIn (Cv r) 0 P ops Q (List.range' k l.length) a w
  | [],k,a,w,_,h=>by simpa [wpOpsIn]using b a w h
  |o::l,k,a,w,hg,h=>by
    have d:ops[k]? =some o:=by
      rcases hg 0 with e|e
      · simpa using e.symm
      · simp at e
    have c:=fun a w=>Aji (r:=r) (P:=P) b l (k+1) a w (fun j=>by
      rcases hg (j+1)with e|e
      · left;rw[←show(o::l)[j+1]? =l[j]? from rfl,e];congr 1;omega
      · right;simpa using e)
    simp only[List.length_cons,List.range'_succ,wpOpsIn,d]
    simp only[wl]at h
    split at h
    · rename_i hw
      rw[if_pos hw]
      exact Oper.wpIn_mono c<|Vg h
    · rename_i hw
      rw[if_neg hw]
      exact⟨fun _ _=>trivial,c _ _ h⟩
section
variable {P:Program}{ops:Array Oper}{Q:Exit→Act→World→Prop}{md:Region.Mode}{S:World→Prop}{r:Option Nat}{K:Act→World→Prop}
def YieldsR(P:Program)(ops:Array Oper)(S:World→Prop)(o:Oper)(v:Value)(a:Act):Prop:=
  (Region.wanted o (yielded ops a.tmps)=true∧ ∀w,S w→(execOp a.eval o).run P w=.ok (.value v) w)∨
  (Region.wanted o (yielded ops a.tmps)=false∧v=undef)
theorem YieldsR.wpOp{i:Nat}{o:Oper}{v:Value}{a:Act}(b:ops[i]? =some o)(c:YieldsR P ops S o v a)
    {K:Act→World→Prop} {w:World} (d:S w) (h:K (a.put o.dst v) w):wpOp P ops Q i K a w:=by
  unfold Go.wpOp
  simp only[b]
  rcases c with⟨hw,hv⟩|⟨hw,rfl⟩
  · simp only[hw,if_true];refine .inl ?_;unfold Oper.wp;rw[hv w d];exact h
  · simp only[hw,Bool.false_eq_true,if_false];exact h
theorem YieldsR.put{c d:Oper}{v:Value}{a:Act}(e:c.apart ops d=true)(f: ∀cs b,c.op≠.select cs b)(h:YieldsR P ops S c v a)(u:Value):
    YieldsR P ops S c v (a.put d.dst u):=by
  obtain⟨i,j,g⟩:=Oper.apart_spec e
  unfold YieldsR at*
  rw[wanted_put c a d.dst u g,execOp_put c f a d.dst u g]
  exact h
theorem YieldsR.defers{o:Oper}{v:Value}{a:Act}(d:Deferred)(b:YieldsR P ops S o v a):YieldsR P ops S o v {a with defers:=d::a.defers}:=b
theorem Z2{j:Nat}{A i:Oper}{v:Value}{Y:Act→Prop}(I:ops[j]? =some i)(B:A.apart ops i=true)
    (C: ∀cs b,i.op≠.select cs b) {K:Act→World→Prop} {a:Act} {w:World}
    (g: ∀a u,Y a→Y (a.put i.dst u)) (D: ∀(a:Act) (d:Deferred),Y a→Y {a with defers:=d::a.defers}) (q:Y a) (h:wpOp P ops E4 j K (a.put A.dst v) w):
    wpOp P ops Q j (fun G E=>Y G∧K (G.put A.dst v) E) a w:=by
  obtain⟨H,t,J⟩:=Oper.apart_spec B
  unfold wpOp at*
  simp only[I]at*
  rw[wanted_put i a A.dst v H]at h
  split
  · rename_i hw
    simp only[hw,if_true]at h
    rcases h with h|⟨_,_,_,l⟩
    case inr=>exact l.elim
    refine .inl ?_
    unfold Oper.wp at*
    rw[execOp_put i C a A.dst v H]at h
    generalize(execOp a.eval i).run P w=r at*
    cases r with
    |ok n E=>
      cases n<;>simp only[Oper.upon]at h⊢
      case value u=>exact⟨g _ u q,by rw[←Act.put_comm a v u t];exact h⟩
      case skip=>exact⟨g _ _ q,by rw[←Act.put_comm a v undef t];exact h⟩
      case defer d=>
        refine⟨g _ _<|D _ d q,?_⟩
        rw[←Act.put_comm _ v undef t,←Act.put_defers]
        exact h
      case enter f args=>
        refine Calls.mono h fun e F o=>?_
        cases e with
        |returned u=>exact⟨g _ u q,by rw[←Act.put_comm a v u t];exact o⟩
        |panicked c=>exact o.elim
        |outgrown=>obtain⟨_,_,o⟩:=o;exact o.elim
      case row row args=>exact Rows.mono h fun u F o=>⟨g _ u q,by rw[←Act.put_comm a v u t];exact o⟩
    |halt x E=>
      cases x<;>simp only[Oper.upon]at h⊢
      case panic u=>exact h.elim
  · rename_i hw
    simp only[hw]at h
    exact⟨g _ _ q,by rw[←Act.put_comm a v undef t];exact h⟩
def Mp(ops:Array Oper):Bool:=ops.all H7
theorem Vh{i:Nat}{o:Oper}(h:Mp ops=true)(c:ops[i]? =some o):H7 o=true:=by
  obtain⟨d,e⟩:=Array.getElem?_eq_some_iff.1 c
  have b:=Array.all_eq_true.1 h i d
  rw[e]at b
  exact b
theorem Z3{i:Nat}{K:Act→World→Prop}{a:Act}{w:World}(c:Mp ops=true)(h:wpOp P ops E4 i K a w):wpOpIn (Cv r) 0 P ops Q i K a w:=by
  unfold wpOp at h
  unfold wpOpIn
  split
  · rename_i ho;simpa [ho]using h
  · rename_i o ho
    simp only[ho]at h
    split
    · rename_i hw
      simp only[hw,if_true]at h
      rcases h with h|⟨_,_,_,b⟩
      · exact H9 (Vh c ho) h
      · exact b.elim
    · rename_i hw;simp only[hw]at h;exact⟨fun _ _=>trivial,by simpa using h⟩
def Gb(md:Region.Mode)(ops:Array Oper)(A:List Nat)(j:Nat):Bool:=A.all fun i=>match ops[j]? with
  |some b=>b.after.any fun e=>Region.binds md e&&e.on==i
  |none=>false
theorem Z4{A:List Nat}{i j:Nat}{b:Oper}(c:i∈A)(d:ops[j]? =some b)(f: ∀e∈b.after,Region.binds md e=true→e.on≠i):Gb md ops A j≠true:=fun h=>by
  have:=List.all_eq_true.1 h i c
  rw[d]at this
  simp only[Array.any_eq_true,Bool.and_eq_true,beq_iff_eq]at this
  obtain⟨q,g,l,n⟩:=this
  exact f _ (Array.getElem_mem g) l n
def Mq(P:Program)(md:Region.Mode)(ops:Array Oper)(K:Act→World→Prop)(S:World→Prop)(A:List Nat):Nat→Array Bool→Act→World→Prop
  |0,listed,a,w=>Region.ready md ops listed=[]∧K a w
  |f+1,listed,a,w=>(Region.ready md ops listed=[]→K a w)∧
    ∀i∈Region.ready md ops listed,wpOp P ops E4 i (fun c b=>(Gb md ops A i=true∨S b)∧Mq P md ops K S A f (listed.setIfInBounds i true) c b) a w
theorem Oa{A:List Nat}(d:Mp ops=true)(c: ∀a w,K a w→Q .normal a w): ∀(f:Nat) (b:Array Bool) (a:Act) (w:World),Mq P md ops K S A f b a w→wpAnyIn (Cv r) 0 P md ops Q f b a w
  |0,b,a,w,h=>⟨h.1,c _ _ h.2⟩
  |f+1,b,a,w,h=>⟨fun e=>c _ _ (h.1 e),fun i g=>wpOpIn_mono (fun j l n=>Oa d c f _ j l n.2) (Z3 d (h.2 i g))⟩
theorem M9{A:List Nat}{i:Nat}{E:Oper}{v:Value}(hA:i∈A)(T:ops[i]? =some E)(x: ∀(j:Nat) (o:Oper) cs b,ops[j]? =some o→o.op≠.select cs b):
    ∀(f:Nat) (c:Array Bool) (a:Act) (w:World),
      (∀j F,ops[j]? =some F→j≠i→c.getD j true=false→(∀e∈F.after,Region.binds md e=true→e.on≠i)→E.apart ops F=true)→
      i∈Region.ready md ops c→YieldsR P ops S E v a→S w→
      Mq P md ops K S A f (c.setIfInBounds i true) (a.put E.dst v) w→Mq P md ops K S A (f+1) c a w:=by
  intro f
  induction f with
  |zero=>
    intro c a w _ G B J H
    refine⟨fun h=>(by rw[h]at G;cases G),fun j O=>?_⟩
    by_cases g:j=i
    · subst g;exact B.wpOp T J ⟨.inr J,H⟩
    · have:=ready_mono O g
      rw[H.1]at this
      cases this
  |succ f ih=>
    intro c a w l G B J H
    refine⟨fun h=>(by rw[h]at G;cases G),fun j O=>?_⟩
    by_cases g:j=i
    · subst g;exact B.wpOp T J ⟨.inr J,H⟩
    · have n:=(mem_ready.1 G).1
      have I:=H.2 j (ready_mono O g)
      obtain⟨C,F,q,L⟩:=mem_ready.1 O
      have D: ∀e∈F.after,Region.binds md e=true→e.on≠i:=fun e he hb U=>by
        have I:=L e he hb
        rw[U]at I
        rcases Nat.lt_or_ge i c.size with V|V
        · simp[V]at n I;rw[n]at I;cases I
        · simp[Array.getElem?_eq_none V]at I
      have hw:=Z4 (md:=md) hA q D
      have M:=l j F q g C D
      have h2:=Z2 (Q:=E4) (Y:=YieldsR P ops S E v) q M (fun cs b=>x j F cs b q) (fun a u B=>B.put M (fun cs b=>x i E cs b T) u) (fun a d B=>B.defers d) B I
      have t: ∀k ok,ops[k]? =some ok→k≠i→(c.setIfInBounds j true).getD k true=false→
          (∀e∈ok.after,Region.binds md e=true→e.on≠i)→E.apart ops ok=true:=fun k ok hk X n Z=>by
        refine l k ok hk X ?_ Z
        by_cases N:j=k
        · subst N;exact C
        · rw[getD_set_ne true N]at n;exact n
      refine wpOp_mono (fun a' w' R=>⟨R.2.1,ih (c.setIfInBounds j true) a' w' t (ready_mono G<|Ne.symm g) R.1 (R.2.1.resolve_left hw) ?_⟩) h2
      rw[Array.setIfInBounds_comm _ _ g]
      exact R.2.2
def Na(md:Region.Mode)(ops:Array Oper)(A:List Nat):Array Bool→List (Nat×Bool)→Bool
  |listed,[]=>(Region.ready md ops listed).isEmpty
  |listed,(i,true)::l=>A.contains i&&(Region.ready md ops listed).contains i&&Region.free md ops listed i&&Na md ops A (listed.setIfInBounds i true) l
  |listed,(i,false)::l=>(Region.ready md ops listed==[i])&&(!Gb md ops A i||l.all (fun p=> !p.2))&&Na md ops A (listed.setIfInBounds i true) l
def wd(P:Program)(md:Region.Mode)(ops:Array Oper)(K:Act→World→Prop)(S:World→Prop)(A:List Nat):List (Nat×Bool)→Act→World→Prop
  | [],a,w=>K a w
  |(i,true)::l,a,w=> ∃o v,ops[i]? =some o∧YieldsR P ops S o v a∧wd P md ops K S A l (a.put o.dst v) w
  |(i,false)::l,a,w=>wpOp P ops E4 i (fun c b=>(Gb md ops A i=true∨S b)∧wd P md ops K S A l c b) a w
theorem Rb{A:List Nat}(c:Region.noSelect ops=true): ∀(l:List (Nat×Bool)) (b:Array Bool) (a:Act) (w:World),Na md ops A b l=true→(S w∨l.all (fun p=> !p.2)=true)→wd P md ops K S A l a w→Mq P md ops K S A l.length b a w
  | [],b,a,w,hp,d,h=>by
    simp only[Na,List.isEmpty_iff]at hp
    exact⟨hp,h⟩
  |(i,true)::l,b,a,w,hp,d,h=>by
    simp only[Na,Bool.and_eq_true]at hp
    obtain⟨o,v,ho,q,hw⟩:=h
    have d:S w:=d.resolve_right (by simp)
    exact M9 (by simpa using hp.1.1.1) ho (Region.noSelect_spec c) l.length b a w (Region.free_spec ho hp.1.2) (by simpa using hp.1.1.2) q d<|Rb c l _ _ w hp.2 (.inl d) hw
  |(i,false)::l,b,a,w,hp,d,h=>by
    simp only[Na,Bool.and_eq_true,beq_iff_eq]at hp
    refine⟨fun f=>(by rw[hp.1.1]at f;cases f),fun j g=>?_⟩
    rw[hp.1.1]at g
    obtain rfl:j=i:=by simpa using g
    refine wpOp_mono (fun t u e=>⟨e.1,Rb c l _ t u hp.2 ?_ e.2⟩) h
    rcases e.1 with hw|hw
    · right;have n:=hp.1.2;rw[hw]at n;simpa using n
    · exact .inl hw
theorem Rc{d:Nat}{l:List Oper}{a:Act}{w:World}(pl:List (Nat×Bool))(A:List Nat)(S:World→Prop)(e:P.follows .mixedOrders=true)(f:Mp l.toArray=true)(b:Region.noSelect l.toArray=true)
    (g:pl.length=l.length) (i:Na .any l.toArray A (Array.replicate l.length false) pl=true) (j: ∀a w,K a w→Q .normal a w) (n:S {w with drawn:=w.drawn+1})
    (h:wd P .any l.toArray K S A pl a {w with drawn:=w.drawn+1}):(Code.region d l.toArray true).wpIn (Cv r) 0 P Q a w:=by
  refine wpIn_region_any e ?_
  have c:=Oa (r:=r) (Q:=Q) f j _ _ _ _ (Rb (md:=.any) b pl (Array.replicate l.length false) a _ i (.inl n) h)
  rw[g]at c
  simpa using c
end
abbrev sL(a:Option Addr)(l c:Nat):Value:=.slice a l c
abbrev pL(a:Option Addr):Value:=.pointer a
abbrev nV(k:IntKind)(n:Nat):Value:=.int k ((n:Nat):Int)
abbrev iV(k:IntKind)(n:Int):Value:=.int k n
abbrev bV(b:Bool):Value:=.bool b
abbrev pV(b o:Nat):Value:=.pointer (some ⟨b,o,none⟩)
abbrev aV(l:List Value):Value:=.agg l.toArray
theorem zA:(∀a b:Bool,((a&&b)=true)=(a=true∧b=true))∧(∀a b:Bool,((a||b)=true)=(a=true∨b=true))∧(∀b:Bool,((!b)=true)=(b=false))∧(∀b:Bool,((!b)=false)=(b=true))∧(∀a b:Bool,((a&&b)=false)↔(a=false∨b=false))∧(∀a b:Bool,((a||b)=false)↔(a=false∧b=false))∧(∀(p:Prop) [Decidable p],(decide p=true)=p)∧(∀(p:Prop) [Decidable p],decide p=false↔ ¬p)
  ∧(∀(α:Type) [BEq α] [LawfulBEq α] (a b:α),((a==b)=true)↔a=b)∧(∀(α:Type) [BEq α] [LawfulBEq α] (a b:α),((a !=b)=true)↔a≠b)∧(∀(α:Type) [BEq α] [LawfulBEq α] (a b:α),((a==b)=false)↔a≠b)∧(∀(α:Type) [BEq α] [LawfulBEq α] (a b:α),((a !=b)=false)↔a=b):=
  ⟨Bool.and_eq_true,Bool.or_eq_true,Bool.not_eq_true',Bool.not_eq_false',fun _ _=>Bool.and_eq_false_iff,fun _ _=>Bool.or_eq_false_iff,fun _ _=>decide_eq_true_eq,fun _ _=>decide_eq_false_iff_not,fun _ _ _ _ _=>beq_iff_eq,fun _ _ _ _ _=>bne_iff_ne,fun _ _ _ _ _=>beq_eq_false_iff_ne,fun _ _ _ _ _=>bne_eq_false_iff_eq⟩
theorem kr.{u}{α:Sort u}{a b:α}(h:a=b:=by kernel_rfl):a=b:=h
theorem om{p:Prop}(h:p:=by omega):p:=h
theorem de{p:Prop}(h:p:=by decide):p:=h
theorem sp{p:Prop}(h:p:=by simp):p:=h
theorem lb{p:Prop}{a b:Nat}(e:p=(a≤b):=by rfl)(h:Nat.ble a b=true:=by kernel_rfl):p:=e▸Nat.le_of_ble_eq_true h
theorem Aa{p:Prop}(h:p:=by kernel_rfl):p:=h
theorem Ae{p:Prop}(h:p:=by omega):p:=h
theorem An{p:Prop}(h:p:=by decide):p:=h
theorem ma3{p:Prop}(h:p:=by simp[Value.oneCell']):p:=h
theorem Ey{p:Prop}(h:p:=by first|omega|(simp;done)|(simp;omega)):p:=h
theorem K1{p:Prop}(h:p:=by first|rfl|omega|(rw[List.length_take];omega)|(simp;done)|(simp[Bc,Bc,B8];omega)):p:=h
theorem U9{p:Prop}(h:p:=by first|rfl|(rw[Du,List.length_take];omega)|(rw[Du,List.length_take,List.length_drop];omega)|(simp[mc,Bc,B8];done)|(simp[mc,Bc,B8];omega)):p:=h
theorem Fw{p:Prop}(h:p:=by rw[Du,Bc,Nat.mul_one];try rfl):p:=h
theorem Va{p:Prop}(h:p:=by first|rfl|(rw[Du,List.length_take];omega)|(rw[Du,List.length_take,List.length_drop];omega)|(simp[mc,Bc];done)|(simp[mc,Bc];omega)):p:=h
theorem Fp{p:Prop}(h:p:=by first|omega|(simp;omega)):p:=h
theorem A7{p:Prop}(h:p:=by simp):p:=h
theorem Nb{p:Prop}(h:p:=by first|omega|exact Aj3 _|exact Aj4 _|exact Am0 .. |exact Afb (by first|omega|exact Eu _ _) _|exact Eu _ _):p:=h
theorem D1{p:Prop}(h:p:=by first|omega|(simp;done)):p:=h
theorem Ho{p:Prop}(h:p:=by simp only[maxLen];first|omega|(simp;done)|(simp;omega)):p:=h
theorem F4{p:Prop}(h:p:=by first|omega|exact Aj3 _|exact Aj4 _):p:=h
theorem Vi{p:Prop}(h:p:=by rw[(show(cs.drop (i*6)).length=(n-i)*6 by rw[List.length_drop,hcs];omega)];(try simp only[List.length_append,List.length_take]);omega):p:=h
theorem Me{p:Prop}(h:p:=by rw[hnl];(try simp only[List.length_append,List.length_take]);omega):p:=h
theorem O9{p:Prop}(h:p:=by first|omega|(simp[Bc,Bc,B8];done)|(simp[Bc,Bc,B8];omega)):p:=h
theorem Iu{p:Prop}(h:p:=by rw[Du];first|omega|(simp;omega)):p:=h
theorem K2{p:Prop}(h:p:=by first|omega|(simp[Bc,B8];omega)):p:=h
theorem Abn{p:Prop}(h:p:=by first|rfl|(rw[List.length_take];omega)|(rw[List.length_take,List.length_drop];omega)|(simp[Bc,B8];done)|(simp[Bc,B8];omega)):p:=h
theorem Tq{p:Prop}(h:p:=by rw[Ch (g:=fwv) (sz:=4) (fun _=>rfl)];first|omega|(simp;omega)):p:=h
theorem K4{p:Prop}(h:p:=by show _<18446744073709551616;omega):p:=h
theorem Abo{p:Prop}(h:p:=by first|omega|exact Eu _ _):p:=h
theorem Af1{p:Prop}(h:p:=by rw[(show(cs.drop ((i+1)*6)).length=(n-(i+1))*6 by rw[List.length_drop,hcs];omega)];(try simp only[List.length_append,List.length_take]);omega):p:=h
theorem Vj{p:Prop}(h:p:=by rw[Ch (g:=Jc) (sz:=5) (fun _=>rfl)];first|omega|(simp;omega)):p:=h
theorem Af2{p:Prop}(h:p:=by first|(simp only[Du];omega)|(simp only[Du,List.length_append,List.length_take,List.length_drop];omega)|(simp[mc,Bc];try omega)):p:=h
theorem Af3{p:Prop}(h:p:=by rw[(show(cs.drop (i*5)).length=(n-i)*5 by rw[List.length_drop,hcs];omega)];(try simp only[List.length_append,List.length_take]);omega):p:=h
theorem Af4{p:Prop}(h:p:=by rw[(show(cs.drop (i*2)).length=(n-i)*2 by rw[List.length_drop,hcs];omega)];(try simp only[List.length_append,List.length_take]);omega):p:=h
theorem Mf{p:Prop}(h:p:=by simp[Bc,B8];try omega):p:=h
theorem Z5{p:Prop}(h:p:=by first|rfl|(simp[Bc,Bc,B8];done)|(simp[Bc,Bc,B8];omega)):p:=h
theorem Ob{p:Prop}(h:p:=by simp[mc,Bc,B8];try omega):p:=h
theorem Jg{p:Prop}(h:p:=by show _<65536;omega):p:=h
theorem Af5{p:Prop}(h:p:=by first|rfl|omega|(rw[List.length_take];omega)|(simp;done)|(simp[Bc,Bc,B8,P8];omega)):p:=h
theorem Vk{p:Prop}(h:p:=by simp only[List.length_cons,List.length_nil];omega):p:=h
theorem Mg{p:Prop}(h:p:=by show min _ _=_;omega):p:=h
theorem Pa{p:Prop}(h:p:=by show 0≤_∧_≤_;omega):p:=h
theorem Nc{p:Prop}(h:p:=by show s.p.lst≤_;omega):p:=h
theorem Su{p:Prop}(h:p:=by first|(simp;done)|(simp;omega)):p:=h
theorem K5{p:Prop}(h:p:=by first|rfl|omega):p:=h
theorem Aj9{p:Prop}(h:p:=by unfold Ph;first|rw[if_pos (by omega)]|rw[if_neg (by omega),if_pos (by omega)]|rw[if_neg (by omega),if_neg (by omega)]):p:=h
theorem Vl{p:Prop}(h:p:=by rw[List.length_drop,hc,Nat.sub_mul];omega):p:=h
theorem Tr{p:Prop}(h:p:=by first|omega|exact Ami (by omega)):p:=h
theorem Af6{p:Prop}(h:p:=by simp only[List.flatten_cons,List.flatten_nil,List.append_nil,List.append_assoc]):p:=h
theorem Sv{p:Prop}(h:p:=by first|omega|trivial|simp):p:=h
theorem Z6{p:Prop}(h:p:=by rw[Et (De ok (by omega))];rfl):p:=h
theorem Vm{p:Prop}(h:p:=by show(21:Int)≠0;decide):p:=h
abbrev zl0:List Value:=[iV .u8 0,iV .u32 0,iV .u32 0,iV .u16 0,iV .u16 0]
abbrev Oc:List Value:=[iV .u8 0,iV .u8 0,iV .u16 0,iV .u32 0,iV .u32 0,Value.slice none 0 0]
abbrev zl2:List Value:=[iV .u16 0,iV .u16 0,iV .u32 0,iV .u32 0,iV .u8 0,iV .u16 0,iV .u16 0,Value.slice none 0 0,Value.slice none 0 0]
abbrev zl3:List Value:=[iV .u16 0,iV .u16 0,bV false,Value.slice none 0 0]
abbrev zl4:List Value:=[iV .u8 0,iV .u16 0,iV .u16 0,iV .u32 0,iV .u32 0]
abbrev zl5:List Value:=[iV .u8 0,iV .u16 0,iV .u16 0,iV .u32 0]
abbrev zl6:List Value:=[iV .i64 0,iV .u8 0,iV .u8 0,iV .u16 0,iV .u32 0,iV .u32 0,Value.slice none 0 0,iV .u64 0,iV .u64 0,Value.slice none 0 0]
abbrev zl7:List Value:=[iV .u8 0,iV .u8 0,iV .u32 0,Value.slice none 0 0]
abbrev zl8:List Value:=[iV .u8 0,iV .u32 0,iV .u32 0,iV .u16 0,iV .u16 0,Value.pointer none]
abbrev zl9:List Value:=[iV .u16 0,iV .i64 0]
abbrev Ha:List Value:=[Value.pointer none]
abbrev Vn:List Value:=[iV .u8 0,iV .u32 0,iV .u16 0,iV .u16 0,iV .i64 0]
abbrev W3:List Value:=[iV .u64 0,iV .u8 0,iV .u32 0,iV .u32 0,iV .u16 0,iV .u16 0]
abbrev Anx:List Value:=[iV .u8 0,iV .u32 0,iV .u16 0]
abbrev Pb:List Value:=[iV .u8 0,iV .u8 0]
abbrev Ky(x:Int×Int×Int):List Value:=[iV .u8 (x.1),iV .u32 (x.2.1),iV .u16 (x.2.2)]
abbrev Kw(x:Int×Int×Int×Int×Int):List Value:=[iV .u8 (x.1),iV .u32 (x.2.1),iV .u32 (x.2.2.1),iV .u16 (x.2.2.2.1),iV .u16 (x.2.2.2.2)]
end Go.Proofs.YtmonlaoaengfdaaGreatDoor.Base
namespace Go.Proofs.YtmonlaoaengfdaaGreatDoor.Base
open Go.RowKit
def Fg(f:Nat→Value)(d:Nat)(v:Value):Nat→Value:=fun k=>bif Nat.beq k d then v else f k
def Fr(n:Nat)(ds:List Deferred)(f:Nat→Value):Act:={tmps:=Array.ofFn (n:=n) fun i=>f i.1,defers:=ds}
def ev(n:Nat)(f:Nat→Value):Operand→Value
  | .tmp t=>bif Nat.blt t n then f t else undef
  | .const v=>v
  | .global g=>.pointer (some ⟨g,0,none⟩)
  | .func k=>.func (.func k) #[] #[]
theorem Dj(n:Nat)(ds:List Deferred)(f:Nat→Value):(Fr n ds f).eval=ev n f:=by
  funext x
  cases x with
  |tmp t=>
    by_cases h:t<n
    · have b:Nat.blt t n=true:=by simpa [Nat.blt_eq]using h
      simp[Act.eval,ev,Fr,h,b,Array.getD]
    · have b:Nat.blt t n=false:=by
        cases b:Nat.blt t n with
        |false=>rfl
        |true=>exact absurd (by simpa [Nat.blt_eq]using b) h
      simp[Act.eval,ev,Fr,h,b,Array.getD]
  |const v=>rfl
  |global g=>rfl
  |func k=>rfl
theorem Dy(n:Nat)(ds:List Deferred)(f:Nat→Value)(d:Nat)(v:Value):(Fr n ds f).put (some d) v=Fr n ds (Fg f d v):=by
  simp only[Act.put,Fr,Act.mk.injEq,and_true]
  apply Array.ext
  · simp
  · intro i e g
    simp only[Array.size_setIfInBounds,Array.size_ofFn]at e
    by_cases b:d=i
    · subst b
      simp[Fg]
    · rw[Array.getElem_setIfInBounds_ne (by simpa using e) b]
      have c:Nat.beq i d=false:=by
        cases c:Nat.beq i d with
        |false=>rfl
        |true=>exact absurd (Nat.eq_of_beq_eq_true c).symm b
      simp[Fg,c]
theorem K6(n:Nat)(ds:List Deferred)(f:Nat→Value)(v:Value):(Fr n ds f).put none v=Fr n ds f:=rfl
def yl(ops:Array Oper)(n:Nat)(f:Nat→Value)(j:Nat):Option Bool:=
  match(ops[j]?).bind (·.dst)with
  |some t=>match ev n f (.tmp t)with
    | .bool b=>some b
    |_=>none
  |none=>none
theorem Abq(n t:Nat)(f:Nat→Value)(h: ¬t<n):ev n f (.tmp t)=undef:=by
  have b:Nat.blt t n=false:=by
    cases b:Nat.blt t n with
    |false=>rfl
    |true=>exact absurd (by simpa [Nat.blt_eq]using b) h
  simp[ev,b]
theorem Dz(ops:Array Oper)(n:Nat)(ds:List Deferred)(f:Nat→Value):yielded ops (Fr n ds f).tmps=yl ops n f:=by
  funext j
  unfold yielded yl
  cases c:(ops[j]?).bind (·.dst)with
  |none=>rfl
  |some t=>
    simp only[Option.bind_some]
    by_cases h:t<n
    · have b:Nat.blt t n=true:=by simpa [Nat.blt_eq]using h
      have e:(Fr n ds f).tmps[t]? =some (f t):=by simp[Fr,h]
      rw[e]
      simp only[ev,b,cond_true]
      cases f t<;>rfl
    · have e:(Fr n ds f).tmps[t]? =none:=Array.getElem?_eq_none (by simpa [Fr]using h)
      rw[e,Abq n t f h]
      rfl
theorem Ke{ops:Array Oper}{n:Nat}{f:Nat→Value}{o:Oper}{j:Nat}{want e:Bool}(b:o.guard=some (j,want))(h:yl ops n f j=some e):
    Region.wanted o (yl ops n f)=(e==want):=by
  simp[Region.wanted,b,h]
theorem K7{f:Nat→Value}{d:Nat}{v:Value}(h:f d=v):Fg f d v=f:=by
  funext k
  unfold Fg
  cases b:Nat.beq k d with
  |false=>rfl
  |true=>rw[Nat.eq_of_beq_eq_true b];exact h.symm
def Hb:List (Nat×Value)→(Nat→Value)→Nat→Value
  | [],f=>f
  |(d,v)::l,f=>Fg (Hb l f) d v
def O0(f:Nat→Value):List (Nat×Value)→Prop
  | []=>True
  |(d,v)::l=>f d=v∧O0 f l
theorem F6: ∀{l:List (Nat×Value)} {f:Nat→Value},O0 f l→Hb l f=f
  | [],_,_=>rfl
  |(d,v)::l,f,h=>by
    show Fg (Hb l f) d v=f
    rw[F6 h.2]
    exact K7 h.1
structure Blk where
  b:Nat
  o:Obj
abbrev cb(b:Nat)(cs:List Value)(t:TypeId):Blk:=⟨b,.cells cs.toArray t (0,0)⟩
structure Mem0(w0:World)(M:List Nat)(L:List Blk)(w:World):Prop where
  os:w.os=w0.os
  tape:w.tape=w0.tape
  output:w.output=w0.output
  size:w0.heap.size≤w.heap.size
  same: ∀k,k<w0.heap.size→k∉M→w.heap[k]? =w0.heap[k]?
  here: ∀p∈L,w.heap[p.b]? =some p.o
  nodup:(L.map (·.b)).Nodup
  old: ∀p∈L,p.b<w0.heap.size→p.b∈M
theorem Mem0.refl(w:World):Mem0 w [] [] w:=⟨rfl,rfl,rfl,Nat.le_refl _,fun _ _ _=>rfl,fun p b=>(by cases b),List.nodup_nil,fun p b=>(by cases b)⟩
theorem Mem0.drawn{w0 w:World}{M:List Nat}{L:List Blk}(h:Mem0 w0 M L w)(k:Nat):Mem0 w0 M L {w with drawn:=k}:=
  ⟨h.os,h.tape,h.output,h.size,h.same,h.here,h.nodup,h.old⟩
theorem Mem0.lt{w0 w:World}{M:List Nat}{L:List Blk}(h:Mem0 w0 M L w){p:Blk}(c:p∈L):p.b<w.heap.size:=by
  have:=h.here p c
  exact(Array.getElem?_eq_some_iff.1 this).1
theorem Mem0.below{w0 w:World}{L:List Blk}(h:Mem0 w0 [] L w):Below w0.heap.size w0 w:=
  ⟨h.os,h.tape,h.output,h.size,fun k b=>h.same k b (by simp)⟩
theorem Mem0.at{w0 w:World}{M:List Nat}{L:List Blk}(h:Mem0 w0 M L w){i:Nat}{p:Blk}(c:L[i]? =some p):w.heap[p.b]? =some p.o:=
  h.here p (List.mem_of_getElem? c)
theorem Mem0.cell{w0 w:World}{M:List Nat}{L:List Blk}(h:Mem0 w0 M L w){i b o:Nat}{cs:List Value}{t:TypeId}{v:Value}(c:L[i]? =some (cb b cs t))(d:cs[o]? =some v):
    w.cell? ⟨b,o,none⟩=some v:=by
  have:=h.at c
  simp only at this
  simp[World.cell?,this,d]
theorem Mem0.allocO{w0 w:World}{M:List Nat}{L:List Blk}(h:Mem0 w0 M L w)(o:Obj):
    Mem0 w0 M (⟨w.heap.size,o⟩::L) {w with heap:=w.heap.push o} where
  os:=h.os
  tape:=h.tape
  output:=h.output
  size:=by have:=h.size;simp;omega
  same:=fun k f d=>by
    have g:=h.size
    show(w.heap.push _)[k]? =_
    rw[Array.getElem?_push,if_neg (by omega)]
    exact h.same k f d
  here:=fun p c=>by
    show(w.heap.push _)[p.b]? =_
    rcases List.mem_cons.1 c with rfl|c
    · simp
    · have:=h.lt c
      rw[Array.getElem?_push,if_neg (by omega)]
      exact h.here p c
  nodup:=by
    simp only[List.map_cons,List.nodup_cons]
    refine⟨fun d=>?_,h.nodup⟩
    obtain⟨p,c,e⟩:=List.mem_map.1 d
    have:=h.lt c
    omega
  old:=fun p c e=>by
    rcases List.mem_cons.1 c with rfl|c
    · have:=h.size;simp at e;omega
    · exact h.old p c e
theorem Mem0.alloc{w0 w:World}{M:List Nat}{L:List Blk}(h:Mem0 w0 M L w)(cs:List Value)(t:TypeId):
    Mem0 w0 M ((cb w.heap.size cs t)::L) {w with heap:=w.heap.push (.cells cs.toArray t (0,0))}:=h.allocO _
theorem Mem0.putO{w0 w g:World}{M:List Nat}{L:List Blk}(h:Mem0 w0 M L w){i b:Nat}{o o':Obj}(E:L[i]? =some ⟨b,o⟩)
    (F:g.os=w.os) (l:g.tape=w.tape) (x:g.output=w.output) (n:w.heap.size≤g.heap.size) (f: ∀k,k<w.heap.size→k≠b→g.heap[k]? =w.heap[k]?)
    (H:g.heap[b]? =some o'):Mem0 w0 M (L.set i ⟨b,o'⟩) g where
  os:=F.trans h.os
  tape:=l.trans h.tape
  output:=x.trans h.output
  size:=Nat.le_trans h.size n
  same:=fun k I J=>by
    have A:=List.mem_of_getElem? E
    have T:=h.size
    rw[f k (by omega) (fun e=>J (e▸h.old _ A (e▸I)))]
    exact h.same k I J
  here:=fun p u=>by
    rcases List.mem_or_eq_of_mem_set u with B|rfl
    · by_cases C:p.b=b
      · --the block itself:nodup says that p stands at i,but there stands the new one
        obtain⟨j,N,d⟩:=List.getElem_of_mem u
        simp only[List.length_set]at N
        by_cases c:i=j
        · subst c
          rw[List.getElem_set_self]at d
          rw[←d];exact H
        · rw[List.getElem_set_ne c]at d
          obtain⟨q,t⟩:=List.getElem?_eq_some_iff.1 E
          have G:=h.nodup
          have O:(L.map (·.b))[j]'(by simpa using N)=b:=by simp[d,C]
          have R:(L.map (·.b))[i]'(by simpa using q)=b:=by simp[t]
          have:=(List.getElem_inj G).1 (O.trans R.symm)
          exact absurd this.symm c
      · rw[f p.b (h.lt B) C]
        exact h.here p B
    · exact H
  nodup:=by
    obtain⟨q,t⟩:=List.getElem?_eq_some_iff.1 E
    have e:(L.set i ⟨b,o'⟩).map (·.b)=L.map (·.b):=by
      rw[List.map_set]
      apply List.ext_getElem?
      intro j
      by_cases c:i=j
      · subst c
        simp[q,t]
      · rw[List.getElem?_set_ne c]
    rw[e];exact h.nodup
  old:=fun p u D=>by
    rcases List.mem_or_eq_of_mem_set u with u|rfl
    · exact h.old p u D
    · exact h.old ⟨b,o⟩ (List.mem_of_getElem? E) D
theorem Mem0.put{w0 w c:World}{M:List Nat}{L:List Blk}(h:Mem0 w0 M L w){i b:Nat}{cs cs':List Value}{t:TypeId}(l:L[i]? =some (cb b cs t))
    (j:c.os=w.os) (d:c.tape=w.tape) (f:c.output=w.output) (e:w.heap.size≤c.heap.size) (g: ∀k,k<w.heap.size→k≠b→c.heap[k]? =w.heap[k]?)
    (n:c.heap[b]? =some (.cells cs'.toArray t (0,0))):Mem0 w0 M (L.set i (cb b cs' t)) c:=h.putO l j d f e g n
theorem Mem0.setCell{w0 w:World}{M:List Nat}{L:List Blk}(h:Mem0 w0 M L w){i b o:Nat}{cs:List Value}{t:TypeId}(c:L[i]? =some (cb b cs t))(v:Value):
    Mem0 w0 M (L.set i (cb b (cs.set o v) t)) (w.setCell ⟨b,o,none⟩ v):=by
  have d:=h.at c
  simp only at d
  refine h.put c rfl rfl rfl (by simp[World.setCell]) (fun k _ e=>?_) ?_
  · simp only[World.setCell,Array.getElem?_modify];rw[if_neg (by omega)]
  · simp only[World.setCell,Array.getElem?_modify,if_true,d]
    simp
theorem Mem0.sub{w0 w:World}{M:List Nat}{L L':List Blk}(h:Mem0 w0 M L w)(d: ∀p∈L',p∈L)(e:(L'.map (·.b)).Nodup):Mem0 w0 M L' w:=
  ⟨h.os,h.tape,h.output,h.size,h.same,fun p c=>h.here p (d p c),e,fun p c=>h.old p (d p c)⟩
theorem Mem0.ext{w0 w c:World}{M:List Nat}{L:List Blk}(h:Mem0 w0 M L w)(b:Below w.heap.size w c):Mem0 w0 M L c:=
  ⟨b.os.trans h.os,b.tape.trans h.tape,b.output.trans h.output,Nat.le_trans h.size b.size,fun k e f=>(b.block k (by have:=h.size;omega)).trans (h.same k e f),
    fun p d=>(b.block _ (h.lt d)).trans (h.here p d),h.nodup,h.old⟩
def Mem(w0:World)(M:List Nat)(LL:List (List Blk))(w:World):Prop:=Mem0 w0 M LL.flatten w
section
variable {w0 w w':World}{M:List Nat}{LL LL' R:List (List Blk)}{i j b:Nat}{s:List Blk}
theorem Jh: ∀(LL:List (List Blk)) (i j:Nat) (s:List Blk) (p:Blk),LL[i]? =some s→s[j]? =some p→
    ∃k,LL.flatten[k]? =some p∧ ∀c,(LL.set i (s.set j c)).flatten=LL.flatten.set k c
  | [],i,j,s,p,h,_=>by simp at h
  |t::LL,0,j,s,p,h,hj=>by
    obtain rfl:t=s:=by simpa using h
    have d:=(List.getElem?_eq_some_iff.1 hj).1
    refine⟨j,?_,fun c=>?_⟩
    · rw[List.flatten_cons,List.getElem?_append_left d];exact hj
    · rw[List.set_cons_zero,List.flatten_cons,List.flatten_cons,List.set_append_left _ _ d]
  |t::LL,i+1,j,s,p,h,hj=>by
    obtain⟨k,e,f⟩:=Jh LL i j s p (by simpa using h) hj
    refine⟨t.length+k,?_,fun c=>?_⟩
    · rw[List.flatten_cons,List.getElem?_append_right (by omega)];rw[show t.length+k-t.length=k by omega];exact e
    · rw[List.set_cons_succ,List.flatten_cons,List.flatten_cons,f c,List.set_append_right _ _ (by omega)]
      rw[show t.length+k-t.length=k by omega]
theorem Mem.refl(w:World):Mem w [] [] w:=Mem0.refl w
theorem Mem.drawn(h:Mem w0 M LL w)(k:Nat):Mem w0 M LL {w with drawn:=k}:=Mem0.drawn h k
theorem Mem.size(h:Mem w0 M LL w):w0.heap.size≤w.heap.size:=Mem0.size h
theorem Mem.below(h:Mem w0 [] LL w):Below w0.heap.size w0 w:=Mem0.below h
theorem Mem.at(h:Mem w0 M LL w){p:Blk}(c:LL[i]? =some s)(d:s[j]? =some p):w.heap[p.b]? =some p.o:=by
  obtain⟨k,e,_⟩:=Jh LL i j s p c d
  exact Mem0.at h e
theorem Mem.lt(h:Mem w0 M LL w){p:Blk}(c:LL[i]? =some s)(d:s[j]? =some p):p.b<w.heap.size:=(Array.getElem?_eq_some_iff.1 (h.at c d)).1
theorem Mem.cell(h:Mem w0 M LL w){o:Nat}{cs:List Value}{t:TypeId}{v:Value}(c:LL[i]? =some s)(d:s[j]? =some (cb b cs t))(e:cs[o]? =some v):w.cell? ⟨b,o,none⟩=some v:=by
  obtain⟨k,f,_⟩:=Jh LL i j s _ c d
  exact Mem0.cell h f e
theorem Mem.allocO(h:Mem w0 M LL w)(o:Obj):Mem w0 M ([⟨w.heap.size,o⟩]::LL) {w with heap:=w.heap.push o}:=Mem0.allocO h o
theorem Mem.alloc(h:Mem w0 M LL w)(cs:List Value)(t:TypeId):Mem w0 M ([cb w.heap.size cs t]::LL) {w with heap:=w.heap.push (.cells cs.toArray t (0,0))}:=Mem0.alloc h cs t
theorem Mem.putO{o o':Obj}(h:Mem w0 M LL w)(l:LL[i]? =some s)(n:s[j]? =some ⟨b,o⟩)
    (g:w'.os=w.os) (c:w'.tape=w.tape) (e:w'.output=w.output) (d:w.heap.size≤w'.heap.size) (f: ∀k,k<w.heap.size→k≠b→w'.heap[k]? =w.heap[k]?)
    (q:w'.heap[b]? =some o'):Mem w0 M (LL.set i (s.set j ⟨b,o'⟩)) w':=by
  obtain⟨k,t,u⟩:=Jh LL i j s _ l n
  unfold Mem
  rw[u]
  exact Mem0.putO h t g c e d f q
theorem Mem.setCell(h:Mem w0 M LL w){o:Nat}{cs:List Value}{t:TypeId}(c:LL[i]? =some s)(d:s[j]? =some (cb b cs t))(v:Value):Mem w0 M (LL.set i (s.set j (cb b (cs.set o v) t))) (w.setCell ⟨b,o,none⟩ v):=by
  obtain⟨k,e,f⟩:=Jh LL i j s _ c d
  unfold Mem
  rw[f]
  exact Mem0.setCell h e v
theorem Mem.ext(h:Mem w0 M LL w)(c:Below w.heap.size w w'):Mem w0 M LL w':=Mem0.ext h c
theorem Mem.cast(e:LL=LL')(h:Mem w0 M LL w):Mem w0 M LL' w:=e▸h
def C2(LL:List (List Blk))(c:List Nat):List (List Blk):=c.map fun i=>(LL[i]?).getD []
theorem Abr(d:List Nat): ∀p∈(C2 LL d).flatten,p∈LL.flatten:=fun p c=>by
  obtain⟨s,e,c⟩:=List.mem_flatten.1 c
  obtain⟨i,_,rfl⟩:=List.mem_map.1 e
  cases h:LL[i]? with
  |none=>simp[h]at c
  |some t=>
    simp only[h,Option.getD_some]at c
    exact List.mem_flatten.2 ⟨t,List.mem_of_getElem? h,c⟩
def Abs(s t:List Blk):Prop:= ∀p∈s,∀q∈t,p.b≠q.b
theorem Mr{LL:List (List Blk)}:(LL.flatten.map (·.b)).Nodup↔(∀s∈LL,(s.map (·.b)).Nodup)∧LL.Pairwise Abs:=by
  rw[List.map_flatten,List.Nodup,List.pairwise_flatten]
  constructor
  · rintro⟨d,c⟩
    refine⟨fun s e=>d _<|List.mem_map_of_mem e,?_⟩
    rw[List.pairwise_map]at c
    refine c.imp ?_
    intro s t h p f q g
    exact h _ (List.mem_map_of_mem f) _<|List.mem_map_of_mem g
  · rintro⟨d,c⟩
    refine⟨fun l n=>?_,?_⟩
    · obtain⟨s,e,rfl⟩:=List.mem_map.1 n;exact d s e
    · rw[List.pairwise_map]
      refine c.imp fun {s t} h x o y u=>?_
      obtain⟨p,f,rfl⟩:=List.mem_map.1 o
      obtain⟨q,g,rfl⟩:=List.mem_map.1 u
      exact h p f q g
theorem Rd(c:LL.Pairwise Abs){i k:Nat}(d:i≠k):Abs ((LL[i]?).getD []) ((LL[k]?).getD []):=by
  rw[List.pairwise_iff_getElem]at c
  by_cases f:i<LL.length
  · by_cases g:k<LL.length
    · rw[List.getElem?_eq_getElem f,List.getElem?_eq_getElem g]
      rcases Nat.lt_or_gt_of_ne d with h|h
      · exact c i k f g h
      · exact fun p l q n e=>c k i g f h q n p l e.symm
    · rw[List.getElem?_eq_none (by omega:LL.length≤k)];intro p _ q n;cases n
  · rw[List.getElem?_eq_none (by omega:LL.length≤i)];intro p l;cases l
theorem W4{d:List Nat}(c:(LL.flatten.map (·.b)).Nodup)(e:d.Nodup):((C2 LL d).flatten.map (·.b)).Nodup:=by
  rw[Mr]at c⊢
  refine⟨fun s f=>?_,?_⟩
  · obtain⟨i,_,rfl⟩:=List.mem_map.1 f
    cases h:LL[i]? with
    |none=>simp
    |some t=>exact c.1 t (List.mem_of_getElem? h)
  · unfold C2
    rw[List.pairwise_map]
    exact List.Pairwise.imp (fun {i k} h=>Rd c.2 h) e
theorem Mem.pick(c:List Nat)(d:c.Nodup)(h:Mem w0 M LL w)(e:C2 LL c=LL'):Mem w0 M LL' w:=by
  subst e
  exact Mem0.sub h (Abr c)<|W4 h.nodup d
theorem Mem.local(h:Mem w0 M (LL++R) w):Mem w (LL.flatten.map (·.b)) LL w where
  os:=rfl
  tape:=rfl
  output:=rfl
  size:=Nat.le_refl _
  same:=fun _ _ _=>rfl
  here:=fun p c=>Mem0.here h p (by rw[List.flatten_append];exact List.mem_append_left _ c)
  nodup:=by have:=Mem0.nodup h;rw[List.flatten_append,List.map_append,List.nodup_append]at this;exact this.1
  old:=fun p c _=>List.mem_map_of_mem c
theorem Mem.back(h:Mem w0 M (LL++R) w)(hc:Mem w (LL.flatten.map (·.b)) LL' w'):Mem w0 M (LL'++R) w':=by
  have c:=Mem0.nodup h
  rw[List.flatten_append,List.map_append,List.nodup_append]at c
  have t: ∀p∈LL.flatten,p.b<w.heap.size:=fun p hp=>Mem0.lt h (by rw[List.flatten_append];exact List.mem_append_left _ hp)
  have l: ∀p∈R.flatten,p.b<w.heap.size∧p.b∉LL.flatten.map (·.b):=fun p hp=>⟨Mem0.lt h (by rw[List.flatten_append];exact List.mem_append_right _ hp),fun f=>by
    exact c.2.2 _ f _ (List.mem_map_of_mem hp) rfl⟩
  exact {
    os:=hc.os.trans h.os
    tape:=hc.tape.trans h.tape
    output:=hc.output.trans h.output
    size:=Nat.le_trans (Mem0.size h) (Mem0.size hc)
    same:=fun k u f=>by
      have A:=Mem0.size h
      rw[Mem0.same hc k (by omega) (fun n=>by
        obtain⟨p,hp,rfl⟩:=List.mem_map.1 n
        exact f (Mem0.old h p (by rw[List.flatten_append];exact List.mem_append_left _ hp) u))]
      exact Mem0.same h k u f
    here:=fun p hp=>by
      rw[List.flatten_append]at hp
      rcases List.mem_append.1 hp with hp|hp
      · exact Mem0.here hc p hp
      · rw[Mem0.same hc p.b (l p hp).1 (l p hp).2]
        exact Mem0.here h p<|by rw[List.flatten_append];exact List.mem_append_right _ hp
    nodup:=by
      rw[List.flatten_append,List.map_append,List.nodup_append]
      refine⟨Mem0.nodup hc,c.2.1,fun x B y C e=>?_⟩
      subst e
      obtain⟨p,hp,rfl⟩:=List.mem_map.1 B
      obtain⟨q,hq,g⟩:=List.mem_map.1 C
      have o:=l q hq
      rw[g]at o
      exact o.2<|Mem0.old hc p hp o.1
    old:=fun p hp d=>by
      rw[List.flatten_append]at hp
      have A:=Mem0.size h
      rcases List.mem_append.1 hp with hp|hp
      · obtain⟨q,hq,g⟩:=List.mem_map.1 (Mem0.old hc p hp (by omega))
        rw[←g]
        exact Mem0.old h q (by rw[List.flatten_append];exact List.mem_append_left _ hq)<|by rw[g];exact d
      · exact Mem0.old h p (by rw[List.flatten_append];exact List.mem_append_right _ hp) d}
end
section
variable {r:Option Nat}{P:Program}{ops:Array Oper}{Q:Exit→Act→World→Prop}{S S':World→Prop}{n:Nat}{ds:List Deferred}{f f':Nat→Value}{o:Oper}{rest:List Oper}{v:Value}{d:Nat}{K:Act→World→Prop}
def Ys(P:Program)(n:Nat)(S:World→Prop)(f:Nat→Value)(o:Oper)(v:Value):Prop:=
  ∀w,S w→(execOp (ev n f) o).run P w=.ok (.value v) w
def Yc(P:Program)(n:Nat)(S:World→Prop)(f:Nat→Value)(o:Oper)(v:Value):Prop:=
  ∀ds w,S w→ ∀K:Act→World→Prop,(∀w',S w'→K ((Fr n ds f).put o.dst v) w')→o.wp P (Fr n ds f) w K E4
theorem Ys.yc{P:Program}{n:Nat}{S:World→Prop}{f:Nat→Value}{o:Oper}{v:Value}(h:Ys P n S f o v):Yc P n S f o v:=fun ds w c K e=>by
  unfold Oper.wp
  rw[Dj,h w c]
  exact e w c
def Ht{β:Type}(P:Program)(n:Nat)(S:World→Prop)(f:Nat→Value)(o:Oper)(f':β→Nat→Value)(S':β→World→Prop):Prop:=
  ∀ds w,S w→ ∀K:Act→World→Prop,(∀b w',S' b w'→K (Fr n ds (f' b)) w')→o.wp P (Fr n ds f) w K E4
def HtIn{β:Type}(r:Option Nat)(P:Program)(n:Nat)(S:World→Prop)(f:Nat→Value)(o:Oper)(f':β→Nat→Value)(S':β→World→Prop):Prop:=
  ∀ds w,S w→ ∀K:Act→World→Prop,(∀b w',S' b w'→K (Fr n ds (f' b)) w')→o.wpIn (Cv r) 0 P (Fr n ds f) w K E4
def Wl(r:Option Nat)(P:Program)(ops:Array Oper)(K:Act→World→Prop)(l:List Oper)(n:Nat)(ds:List Deferred)(f:Nat→Value)(S:World→Prop):Prop:=
  ∀w,S w→wl r P ops K l (Fr n ds f) w
def Wd(P:Program)(ops:Array Oper)(K:Act→World→Prop)(S:World→Prop)(A:List Nat)(l:List (Nat×Bool))(n:Nat)(ds:List Deferred)(f:Nat→Value)(T:World→Prop):Prop:=
  ∀w,T w→wd P .any ops K S A l (Fr n ds f) w
def W(r:Option Nat)(P:Program)(Q:Exit→Act→World→Prop)(c:Code)(n:Nat)(ds:List Deferred)(f:Nat→Value)(S:World→Prop):Prop:=
  ∀w,S w→c.wpIn (Cv r) 0 P Q (Fr n ds f) w
def Gt(o:Oper):Bool:=o.guard.isNone&&H7 o
theorem Nd(h:Gt o=true):o.guard=none:=by simp[Gt]at h;exact h.1
theorem Yd(h:Gt o=true):H7 o=true:=by simp[Gt]at h;exact h.2
theorem Wl.yc(e:Gt o=true)(g:o.dst=some d)(h:Yc P n S f o v)(l:Wl r P ops K rest n ds (Fg f d v) S):Wl r P ops K (o::rest) n ds f S:=fun w q=>by
  unfold wl
  rw[if_pos (by simp[Region.wanted,Nd e])]
  exact H9 (Yd e) (h ds w q _ fun w' c=>by rw[g,Dy];exact l w' c)
theorem Wl.ys(c:Gt o=true)(e:o.dst=some d)(h:Ys P n S f o v)(g:Wl r P ops K rest n ds (Fg f d v) S):Wl r P ops K (o::rest) n ds f S:=Wl.yc c e h.yc g
theorem Ji(g:Bool)(t:H7 o=true)(u:Region.wanted o (yl ops n f)=g)(e:o.dst=some d)(h:g=true→Yc P n S f o v)(l:Wl r P ops K rest n ds (Fg f d (bif g then v else undef)) S):Wl r P ops K (o::rest) n ds f S:=fun w q=>by
  unfold wl
  rw[Dz,u]
  cases g with
  |false=>simp only[Bool.false_eq_true,if_false];rw[e,Dy];exact l w q
  |true=>simp only[if_true];exact H9 t (h rfl ds w q _ fun w' c=>by rw[e,Dy];exact l w' c)
theorem Bz(g:Bool)(c:H7 o=true)(l:Region.wanted o (yl ops n f)=g)(q:o.dst=some d)(h:g=true→Ys P n S f o v)(t:Wl r P ops K rest n ds (Fg f d (bif g then v else undef)) S):Wl r P ops K (o::rest) n ds f S:=
  Ji g c l q (fun e=>(h e).yc) t
theorem Ye(c:Region.wanted o (yl ops n f)=false)(e:o.dst=some d)(g:Wl r P ops K rest n ds (Fg f d undef) S):Wl r P ops K (o::rest) n ds f S:=fun w h=>by
  unfold wl
  rw[Dz,c]
  simp only[Bool.false_eq_true,if_false];rw[e,Dy];exact g w h
theorem Nf{β:Type}{f':β→Nat→Value}{S':β→World→Prop}(e:o.guard=none)(h:HtIn r P n S f o f' S')(g: ∀b,Wl r P ops K rest n ds (f' b) (S' b)):Wl r P ops K (o::rest) n ds f S:=fun w l=>by
  unfold wl
  rw[if_pos (by simp[Region.wanted,e])]
  exact h ds w l _ fun b w' c=>g b w' c
theorem Af{β:Type}{f':β→Nat→Value}{S':β→World→Prop}(c:Gt o=true)(h:Ht P n S f o f' S')(e: ∀b,Wl r P ops K rest n ds (f' b) (S' b)):Wl r P ops K (o::rest) n ds f S:=
  Nf (Nd c) (fun ds w g K l=>H9 (Yd c) (h ds w g K l)) e
theorem Akb{β:Type}{f':β→Nat→Value}{S':β→World→Prop}(e:H7 o=true)(hw:Region.wanted o (yl ops n f)=true)(h:Ht P n S f o f' S')(g: ∀b,Wl r P ops K rest n ds (f' b) (S' b)):Wl r P ops K (o::rest) n ds f S:=fun w l=>by
  unfold wl
  rw[Dz,if_pos hw]
  exact H9 e<|h ds w l _ fun b w' c=>g b w' c
theorem Ay(h: ∀w,S w→K (Fr n ds f) w):Wl r P ops K [] n ds f S:=fun w c=>h w c
theorem Wl.conseq{l:List Oper}(c: ∀w,S w→S' w)(h:Wl r P ops K l n ds f S'):Wl r P ops K l n ds f S:=fun w hw=>h w (c w hw)
section
variable {T:World→Prop}{i:Nat}{pl:List (Nat×Bool)}{A:List Nat}
theorem Wd.ys(c:ops[i]? =some o)(e:o.guard=none)(g:o.dst=some d)(h:Ys P n S f o v)(l:Wd P ops K S A pl n ds (Fg f d v) T):Wd P ops K S A ((i,true)::pl) n ds f T:=fun w q=>
  ⟨o,v,c,.inl ⟨by simp[Region.wanted,e],by rw[Dj];exact h⟩,by rw[g,Dy];exact l w q⟩
theorem Bg(g:Bool)(c:ops[i]? =some o)(e:Region.wanted o (yl ops n f)=g)(l:o.dst=some d)(h:g=true→Ys P n S f o v)(q:Wd P ops K S A pl n ds (Fg f d (bif g then v else undef)) T):Wd P ops K S A ((i,true)::pl) n ds f T:=fun w t=>by
  cases g with
  |false=>exact⟨o,undef,c,.inr ⟨by rw[Dz];exact e,rfl⟩,by rw[l,Dy];exact q w t⟩
  |true=>exact⟨o,v,c,.inl ⟨by rw[Dz];exact e,by rw[Dj];exact h rfl⟩,by rw[l,Dy];exact q w t⟩
theorem Ap6(c:ops[i]? =some o)(e:Region.wanted o (yl ops n f)=false)(g:o.dst=some d)(l:Wd P ops K S A pl n ds (Fg f d undef) T):Wd P ops K S A ((i,true)::pl) n ds f T:=Bg (v:=undef) false c e g (fun h=>by cases h) l
theorem Wd.yc(g:ops[i]? =some o)(l:o.guard=none)(q:o.dst=some d)(h:Yc P n T f o v)(e:Gb .any ops A i=true∨ ∀w,T w→S w)(t:Wd P ops K S A pl n ds (Fg f d v) T):Wd P ops K S A ((i,false)::pl) n ds f T:=fun w u=>by
  show wpOp P ops E4 i _ _ w
  unfold wpOp
  simp only[g]
  rw[if_pos (by simp[Region.wanted,l])]
  exact .inl<|h ds w u _ fun w' c=>⟨e.imp_right fun h=>h w' c,by rw[q,Dy];exact t w' c⟩
theorem Bp(g:Bool)(u:ops[i]? =some o)(x:Region.wanted o (yl ops n f)=g)(q:o.dst=some d)(h:g=true→Yc P n T f o v)(c:Gb .any ops A i=true∨ ∀w,T w→S w)(t:Wd P ops K S A pl n ds (Fg f d (bif g then v else undef)) T):Wd P ops K S A ((i,false)::pl) n ds f T:=fun w l=>by
  show wpOp P ops E4 i _ _ w
  unfold wpOp
  simp only[u]
  rw[Dz,x]
  cases g with
  |false=>simp only[Bool.false_eq_true,if_false];exact⟨c.imp_right fun h=>h w l,by rw[q,Dy];exact t w l⟩
  |true=>rw[if_pos rfl];exact .inl (h rfl ds w l _ fun w' e=>⟨c.imp_right fun h=>h w' e,by rw[q,Dy];exact t w' e⟩)
theorem Jj(g:ops[i]? =some o)(l:Region.wanted o (yl ops n f)=false)(q:o.dst=some d)(c:Gb .any ops A i=true∨ ∀w,T w→S w)(t:Wd P ops K S A pl n ds (Fg f d undef) T):Wd P ops K S A ((i,false)::pl) n ds f T:=fun w e=>by
  show wpOp P ops E4 i _ _ w
  unfold wpOp
  simp only[g]
  rw[Dz,l]
  simp only[Bool.false_eq_true,if_false];exact⟨c.imp_right fun h=>h w e,by rw[q,Dy];exact t w e⟩
theorem Cj{β:Type}{f':β→Nat→Value}{T':β→World→Prop}(g:ops[i]? =some o)(l:o.guard=none)(h:Ht P n T f o f' T')(e:Gb .any ops A i=true∨ ∀b w,T' b w→S w)(q: ∀b,Wd P ops K S A pl n ds (f' b) (T' b)):Wd P ops K S A ((i,false)::pl) n ds f T:=fun w t=>by
  show wpOp P ops E4 i _ _ w
  unfold wpOp
  simp only[g]
  rw[if_pos (by simp[Region.wanted,l])]
  exact .inl<|h ds w t _ fun b w' c=>⟨e.imp_right fun h=>h b w' c,q b w' c⟩
theorem Abt{β:Type}{f':β→Nat→Value}{T':β→World→Prop}(g:ops[i]? =some o)(hw:Region.wanted o (yl ops n f)=true)(h:Ht P n T f o f' T')(e:Gb .any ops A i=true∨ ∀b w,T' b w→S w)(l: ∀b,Wd P ops K S A pl n ds (f' b) (T' b)):Wd P ops K S A ((i,false)::pl) n ds f T:=fun w q=>by
  show wpOp P ops E4 i _ _ w
  unfold wpOp
  simp only[g]
  rw[Dz,if_pos hw]
  exact .inl<|h ds w q _ fun b w' c=>⟨e.imp_right fun h=>h b w' c,l b w' c⟩
theorem Ev(h: ∀w,T w→K (Fr n ds f) w):Wd P ops K S A [] n ds f T:=fun w c=>h w c
theorem Wd.conseq{T':World→Prop}(c: ∀w,T w→T' w)(h:Wd P ops K S A pl n ds f T'):Wd P ops K S A pl n ds f T:=fun w hw=>h w (c w hw)
theorem Abu{w0:World}{M:List Nat}{LL LL':List (List Blk)}(e:LL=LL')(h:Wd P ops K S A pl n ds f (Mem w0 M LL')):Wd P ops K S A pl n ds f (Mem w0 M LL):=by rwa[e]
end
theorem Ac{c:Nat}{l:List Oper}(h:Wl r P l.toArray (Q .normal) l n ds f S):W r P Q (.region c l.toArray false) n ds f S:=fun w e=>wpIn_region (by
  have:=Aji (r:=r) (P:=P) (ops:=l.toArray) (Q:=Q) (fun _ _ h=>h) l 0 _ w (fun j=>by simp) (h w e)
  rw[List.size_toArray,List.range_eq_range']
  exact this)
theorem B3{T:World→Prop}{g:Nat}{l:List Oper}(pl:List (Nat×Bool))(A:List Nat)(S:World→Prop)(q:P.follows .mixedOrders=true)(t:Mp l.toArray=true)(c:Region.noSelect l.toArray=true)
    (u:pl.length=l.length) (x:Na .any l.toArray A (Array.replicate l.length false) pl=true) (e: ∀w k,T w→T {w with drawn:=k}) (B: ∀w,T w→S w)
    (h:Wd P l.toArray (Q .normal) S A pl n ds f T):W r P Q (.region g l.toArray true) n ds f T:=fun w hw=>
  Rc (K:=Q .normal) pl A S q t c u x (fun _ _ h=>h) (B _ (e w _ hw)) (h _ (e w _ hw))
theorem Anz{x y:Code}(h: ∀K:Act→World→Prop,(∀ds f' (S':World→Prop),W r P Q y n ds f' S'→ ∀w,S' w→K (Fr n ds f') w)→W r P (Exit.then K Q) x n ds f S):W r P Q (.seq x y) n ds f S:=fun w e=>
  wpIn_seq_k fun K g=>h K (fun ds f' S' l w' c=>g _ _ (l w' c)) w e
theorem Ag(h: ∀w,S w→Q .normal (Fr n ds f) w):W r P Q .skip n ds f S:=fun w c=>wpIn_skip (h w c)
theorem Gu(h: ∀w,S w→Q .ret (Fr n ds f) w):W r P Q .ret n ds f S:=fun w c=>wpIn_ret (h w c)
theorem Cm{c:Nat}(h: ∀w,S w→Q (.exit c) (Fr n ds f) w):W r P Q (.exit c) n ds f S:=fun w e=>wpIn_exit (h w e)
theorem W.block{e:Nat}{c:Code}(h:W r P (Exit.inBlock e Q) c n ds f S):W r P Q (.block e c) n ds f S:=fun w g=>wpIn_block (h w g)
theorem Cd{x:Operand}{c c2:Code}(e:ev n f x=.bool true)(h:W r P Q c n ds f S):W r P Q (.cond x c c2) n ds f S:=fun w g=>wpIn_cond_true (by rw[Dj];exact e) (h w g)
theorem B4{x:Operand}{c c2:Code}(e:ev n f x=.bool false)(h:W r P Q c2 n ds f S):W r P Q (.cond x c c2) n ds f S:=fun w g=>wpIn_cond_false (by rw[Dj];exact e) (h w g)
theorem Ak{x:Operand}{c c2:Code}(e:Bool)(g:ev n f x=.bool e)(l:e=true→W r P Q c n ds f S)(q:e=false→W r P Q c2 n ds f S):W r P Q (.cond x c c2) n ds f S:=fun w h=>by
  cases e with
  |true=>exact wpIn_cond_true (by rw[Dj];exact g) (l rfl w h)
  |false=>exact wpIn_cond_false (by rw[Dj];exact g) (q rfl w h)
theorem Ts{x:Code}{γ:Type}(K:Act→World→Prop)(F:γ→List (Nat×Value))(T:γ→World→Prop)
    (first: ∀J:Act→World→Prop,(∀g f' w,O0 f' (F g)→T g w→J (Fr n ds f') w)→W r P (Exit.then J Q) x n ds f S)
    (c: ∀g f',∀w,T g w→K (Fr n ds (Hb (F g) f')) w):W r P (Exit.then K Q) x n ds f S:=fun w t=>by
  refine wpIn_mono (first (fun a w=> ∃g f',a=Fr n ds (Hb (F g) f')∧T g w) (fun g f' w u q=>⟨g,f',by rw[F6 u],q⟩) w t) ?_
  intro e B w' h
  cases e with
  |normal=>obtain⟨g,f',rfl,q⟩:=h;exact c g f' w' q
  |exit C=>exact h
  |goto l=>exact h
  |ret=>exact h
  |panic D=>exact h
  |outgrown=>exact h
theorem Tt{c:Code}{γ:Type}(F:γ→List (Nat×Value))(T:γ→World→Prop)(μ:γ→Nat)(E:γ)(N:O0 f (F E))(O: ∀w,S w→T E w)
    (u: ∀(g:γ) (f':Nat→Value) (J:Act→World→Prop),(∀x l w,μ x<μ g→O0 l (F x)→T x w→J (Fr n ds l) w)→W r P (Exit.then J Q) c n ds (Hb (F g) f') (T g)):
    W r P Q (.loop c) n ds f S:=fun w hw=>by
  classical
  let I:Act→World→Prop:=fun a w=> ∃g f',a=Fr n ds (Hb (F g) f')∧T g w
  let p:Act→World→Nat→Prop:=fun a w k=> ∃g f',a=Fr n ds (Hb (F g) f')∧T g w∧μ g=k
  have t: ∀q:Nat→Prop,(∃k,q k)→ ∃k,q k∧ ∀j,q j→k≤j:=fun q ⟨k,U⟩=>by
    induction k using Nat.strongRecOn with
    |_ k V=>
      by_cases h: ∃j,j<k∧q j
      · obtain⟨j,G,X⟩:=h;exact V j G X
      · exact⟨k,U,fun j G=>Nat.le_of_not_lt fun C=>h ⟨j,C,G⟩⟩
  let m:Act→World→Nat:=fun a w=>if h: ∃k,p a w k then Classical.choose (t _ h)else 0
  have Y: ∀a w,I a w→ ∃g f',a=Fr n ds (Hb (F g) f')∧T g w∧μ g=m a w:=fun a w ⟨g,f',Z,B⟩=>by
    have h: ∃k,p a w k:=⟨μ g,g,f',Z,B,rfl⟩
    have:=(Classical.choose_spec (t _ h)).1
    simp only[m,dif_pos h]
    exact this
  have H: ∀g f' w,T g w→m (Fr n ds (Hb (F g) f')) w≤μ g:=fun g f' w B=>by
    have h: ∃k,p (Fr n ds (Hb (F g) f')) w k:=⟨μ g,g,f',rfl,B,rfl⟩
    simp only[m,dif_pos h]
    exact(Classical.choose_spec<|t _ h).2 _ ⟨g,f',rfl,B,rfl⟩
  refine wpIn_loop I m ⟨E,f,by rw[F6 N],O w hw⟩ fun a w' hI=>?_
  obtain⟨g,f',rfl,B,hμ⟩:=Y a w' hI
  refine u g f' _ (fun x l L C hF D=>?_) w' B
  have e:Fr n ds l=Fr n ds (Hb (F x) l):=by rw[F6 hF]
  refine⟨⟨x,l,e,D⟩,?_⟩
  have:=H x l L D
  rw[←e]at this
  omega
theorem Af8{c:Code}(l:List (Nat×Value))(e:O0 f l)(h: ∀f',W r P Q c n ds (Hb l f') S):W r P Q c n ds f S:=by
  have:=h f
  rwa[F6 e]at this
theorem K.prune{K:Act→World→Prop}{w:World}(l:List (Nat×Value))(c:O0 f l)(h: ∀f',K (Fr n ds (Hb l f')) w):K (Fr n ds f) w:=by
  have:=h f
  rwa[F6 c]at this
theorem W.conseq{c:Code}(e: ∀w,S w→S' w)(h:W r P Q c n ds f S'):W r P Q c n ds f S:=fun w hw=>h w (e w hw)
theorem Yf{c:Code}{p:Prop}(h:p→W r P Q c n ds f S):W r P Q c n ds f (fun w=>S w∧p):=fun w ⟨e,g⟩=>h g w e
theorem Eh: ∀{ks:List Nat} {vs:List Value},ks.map f=vs→O0 f (ks.zip vs)
  | [],_,_=>by cases ‹List Value› <;>trivial
  |k::ks,[],h=>by cases h
  |k::ks,v::vs,h=>⟨(List.cons.inj h).1,Eh (List.cons.inj h).2⟩
theorem An0{c:Code}(ks:List Nat)(vs:List Value)(e:ks.map f=vs)(h: ∀f',W r P Q c n ds (Hb (ks.zip vs) f') S):W r P Q c n ds f S:=Af8 (ks.zip vs) (Eh e) h
variable {w0:World}{M:List Nat}{LL:List (List Blk)}
theorem Pm{x:Code}(K:Act→World→Prop)(ks:List Nat)(vs:List Value)(Φ:Prop)(Lf:List (List Blk))
    (first: ∀J:Act→World→Prop,(∀f' w,Φ→ks.map f'=vs→Mem w0 M (Lf) w→J (Fr n ds f') w)→W r P (Exit.then J Q) x n ds f S)
    (c: ∀f',Φ→ ∀w,Mem w0 M (Lf) w→K (Fr n ds (Hb (ks.zip (vs)) f')) w):W r P (Exit.then K Q) x n ds f S:=
  Ts (γ:=Unit) K (fun g=>ks.zip (vs)) (fun g w=>Mem w0 M (Lf) w∧Φ) (fun J l=>first J fun f' w e q t=>l () f' w (Eh q) ⟨t,e⟩)
    fun g f' w h=>c f' h.2 w h.1
theorem Dd{c:Code}{e:Type}(ks:List Nat)(vs:e→List Value)(Φ:e→Prop)(Lf:e→List (List Blk))(μ:e→Nat)(u:e)(E:ks.map f=vs u)(B:Φ u)(F:LL=Lf u)
    (q: ∀x,∀f' J,Φ x→(∀h l w,μ h<μ x→Φ h→ks.map l=vs h→Mem w0 M (Lf h) w→J (Fr n ds l) w)→W r P (Exit.then J Q) c n ds (Hb (ks.zip (vs x)) f') (Mem w0 M (Lf x))):
    W r P Q (.loop c) n ds f (Mem w0 M LL):=
  Tt (γ:=e) (fun g=>ks.zip (vs (g))) (fun g w=>Mem w0 M (Lf (g)) w∧Φ (g)) (fun g=>μ (g)) u (Eh E) (fun w G=>⟨F▸G,B⟩) fun g f' J H=>
    Yf fun C=>q (g) f' J C fun h l w D t I L=>H h l w D (Eh I) ⟨L,t⟩
theorem Af9{x:Code}{c:Type}(K:Act→World→Prop)(ks:List Nat)(vs:c→List Value)(Φ:c→Prop)(Lf:c→List (List Blk))
    (first: ∀J:Act→World→Prop,(∀e,∀f' w,Φ e→ks.map f'=vs e→Mem w0 M (Lf e) w→J (Fr n ds f') w)→W r P (Exit.then J Q) x n ds f S)
    (h: ∀e,∀f',Φ e→ ∀w,Mem w0 M (Lf e) w→K (Fr n ds (Hb (ks.zip (vs e)) f')) w):W r P (Exit.then K Q) x n ds f S:=
  Ts (γ:=c) K (fun g=>ks.zip (vs (g))) (fun g w=>Mem w0 M (Lf (g)) w∧Φ (g)) (fun J t=>first J fun e f' w l u B=>t e f' w (Eh u) ⟨B,l⟩)
    fun g f' w q=>h (g) f' q.2 w q.1
theorem Fx{c:Code}{e h:Type}(ks:List Nat)(vs:e→h→List Value)(Φ:e→h→Prop)(Lf:e→h→List (List Blk))(μ:e→h→Nat)(B:e)(C:h)(I:ks.map f=vs B C)(F:Φ B C)(L:LL=Lf B C)
    (u: ∀D E,∀f' J,Φ D E→(∀l q t w,μ l q<μ D E→Φ l q→ks.map t=vs l q→Mem w0 M (Lf l q) w→J (Fr n ds t) w)→W r P (Exit.then J Q) c n ds (Hb (ks.zip (vs D E)) f') (Mem w0 M (Lf D E))):
    W r P Q (.loop c) n ds f (Mem w0 M LL):=
  Tt (γ:=e×h) (fun g=>ks.zip (vs (g.1) (g.2))) (fun g w=>Mem w0 M (Lf (g.1) (g.2)) w∧Φ (g.1) (g.2)) (fun g=>μ (g.1) (g.2)) (B,C) (Eh I) (fun w N=>⟨L▸N,F⟩) fun g f' J O=>
    Yf fun G=>u (g.1) (g.2) f' J G fun l q t w H x U V=>O (l,q) t w H (Eh U) ⟨V,x⟩
theorem Aga{c:Code}{e h l:Type}(ks:List Nat)(vs:e→h→l→List Value)(Φ:e→h→l→Prop)(Lf:e→h→l→List (List Blk))(μ:e→h→l→Nat)(D:e)(E:h)(F:l)(U:ks.map f=vs D E F)(L:Φ D E F)(V:LL=Lf D E F)
    (B: ∀G H I,∀f' J,Φ G H I→(∀q t u x w,μ q t u<μ G H I→Φ q t u→ks.map x=vs q t u→Mem w0 M (Lf q t u) w→J (Fr n ds x) w)→W r P (Exit.then J Q) c n ds (Hb (ks.zip (vs G H I)) f') (Mem w0 M (Lf G H I))):
    W r P Q (.loop c) n ds f (Mem w0 M LL):=
  Tt (γ:=e×h×l) (fun g=>ks.zip (vs (g.1) (g.2.1) (g.2.2))) (fun g w=>Mem w0 M (Lf (g.1) (g.2.1) (g.2.2)) w∧Φ (g.1) (g.2.1) (g.2.2)) (fun g=>μ (g.1) (g.2.1) (g.2.2)) (D,E,F) (Eh U) (fun w X=>⟨V▸X,L⟩) fun g f' J Y=>
    Yf fun N=>B (g.1) (g.2.1) (g.2.2) f' J N fun q t u x w O C Z hm=>Y (q,t,u) x w O (Eh Z) ⟨hm,C⟩
theorem Agb{c:Code}{e h l q:Type}(ks:List Nat)(vs:e→h→l→q→List Value)(Φ:e→h→l→q→Prop)(Lf:e→h→l→q→List (List Blk))(μ:e→h→l→q→Nat)(F:e)(G:h)(H:l)(I:q)(Z:ks.map f=vs F G H I)(V:Φ F G H I)(hL:LL=Lf F G H I)
    (D: ∀L N O U,∀f' J,Φ L N O U→(∀t u x B C w,μ t u x B<μ L N O U→Φ t u x B→ks.map C=vs t u x B→Mem w0 M (Lf t u x B) w→J (Fr n ds C) w)→W r P (Exit.then J Q) c n ds (Hb (ks.zip (vs L N O U)) f') (Mem w0 M (Lf L N O U))):
    W r P Q (.loop c) n ds f (Mem w0 M LL):=
  Tt (γ:=e×h×l×q) (fun g=>ks.zip (vs (g.1) (g.2.1) (g.2.2.1) (g.2.2.2))) (fun g w=>Mem w0 M (Lf (g.1) (g.2.1) (g.2.2.1) (g.2.2.2)) w∧Φ (g.1) (g.2.1) (g.2.2.1) (g.2.2.2)) (fun g=>μ (g.1) (g.2.1) (g.2.2.1) (g.2.2.2)) (F,G,H,I) (Eh Z) (fun w hS=>⟨hL▸hS,V⟩) fun g f' J hJ=>
    Yf fun X=>D (g.1) (g.2.1) (g.2.2.1) (g.2.2.2) f' J X fun t u x B C w Y E hk hm=>hJ (t,u,x,B) C w Y (Eh hk) ⟨hm,E⟩
theorem Agc{x:Code}{c e h l:Type}(K:Act→World→Prop)(ks:List Nat)(vs:c→e→h→l→List Value)(Φ:c→e→h→l→Prop)(Lf:c→e→h→l→List (List Blk))
    (first: ∀J:Act→World→Prop,(∀q t u B,∀f' w,Φ q t u B→ks.map f'=vs q t u B→Mem w0 M (Lf q t u B) w→J (Fr n ds f') w)→W r P (Exit.then J Q) x n ds f S)
    (C: ∀q t u B,∀f',Φ q t u B→ ∀w,Mem w0 M (Lf q t u B) w→K (Fr n ds (Hb (ks.zip (vs q t u B)) f')) w):W r P (Exit.then K Q) x n ds f S:=
  Ts (γ:=c×e×h×l) K (fun g=>ks.zip (vs (g.1) (g.2.1) (g.2.2.1) (g.2.2.2))) (fun g w=>Mem w0 M (Lf (g.1) (g.2.1) (g.2.2.1) (g.2.2.2)) w∧Φ (g.1) (g.2.1) (g.2.2.1) (g.2.2.2)) (fun J F=>first J fun q t u B f' w D G H=>F (q,t,u,B) f' w (Eh G) ⟨H,D⟩)
    fun g f' w E=>C (g.1) (g.2.1) (g.2.2.1) (g.2.2.2) f' E.2 w E.1
theorem Agd{x:Code}{c e h l q:Type}(K:Act→World→Prop)(ks:List Nat)(vs:c→e→h→l→q→List Value)(Φ:c→e→h→l→q→Prop)(Lf:c→e→h→l→q→List (List Blk))
    (first: ∀J:Act→World→Prop,(∀t u B C D,∀f' w,Φ t u B C D→ks.map f'=vs t u B C D→Mem w0 M (Lf t u B C D) w→J (Fr n ds f') w)→W r P (Exit.then J Q) x n ds f S)
    (E: ∀t u B C D,∀f',Φ t u B C D→ ∀w,Mem w0 M (Lf t u B C D) w→K (Fr n ds (Hb (ks.zip (vs t u B C D)) f')) w):W r P (Exit.then K Q) x n ds f S:=
  Ts (γ:=c×e×h×l×q) K (fun g=>ks.zip (vs (g.1) (g.2.1) (g.2.2.1) (g.2.2.2.1) (g.2.2.2.2))) (fun g w=>Mem w0 M (Lf (g.1) (g.2.1) (g.2.2.1) (g.2.2.2.1) (g.2.2.2.2)) w∧Φ (g.1) (g.2.1) (g.2.2.1) (g.2.2.2.1) (g.2.2.2.2)) (fun J H=>first J fun t u B C D f' w F I L=>H (t,u,B,C,D) f' w (Eh I) ⟨L,F⟩)
    fun g f' w G=>E (g.1) (g.2.1) (g.2.2.1) (g.2.2.2.1) (g.2.2.2.2) f' G.2 w G.1
end
theorem lz2{x:Value}{g c:Bool}{v u:Value}(h:g=true)(e:x=(bif (g&&c)then v else u)):x=(bif c then v else u):=by rw[e,h];rfl
section
variable {r:Option Nat}{P:Program}{S S':World→Prop}{n:Nat}{ds:List Deferred}{f f':Nat→Value}{o:Oper}{rest:List Oper}{v:Value}{d:Nat}{w0:World}{M:List Nat}{LL LL':List (List Blk)}
def Df(w:World)(v:Value)(e:Ending)(w':World):Prop:=e=.returned v∧Below w.heap.size w w'
def Bn{β:Type}(w:World)(Φ:β→Prop)(v:β→Value)(M:List Nat)(LL:β→List (List Blk))(e:Ending)(w':World):Prop:= ∃g,Φ g∧e=.returned (v g)∧Mem w M (LL g) w'
theorem Ap{k:FuncId}{fn:Func}{c:Code}{args:Array Value}{R:Ending→World→Prop}(l:P.funcs[k]? =some fn)(q:fn.body=some c)(t:fn.ntmps=n)(B:args.size≤n)
    (u:Mem w0 M LL w0) (h:W none P (bodyPostM (Cv none) 0 P fn R) c n [] (fun i=>args.getD i undef) (Mem w0 M LL)):Calls P k args w0 R:=by
  refine W2 (r:=none) (n:=0)<|callsIn_of_wp_marks l q trivial ?_
  have e:({tmps:=args++Array.replicate (fn.ntmps-args.size) undef,defers:=[]}:Act)=Fr n [] (fun i=>args.getD i undef):=by
    simp only[Fr,Act.mk.injEq,and_true]
    apply Array.ext
    · simp[t];omega
    · intro i C x
      simp only[Array.size_ofFn]at x
      rw[Array.getElem_ofFn]
      by_cases g:i<args.size
      · rw[Array.getElem_append_left g];simp[Array.getD,g]
      · rw[Array.getElem_append_right (by omega)];simp[Array.getD,g]
  rw[e]
  exact h w0 u
def RV(P:Program)(S:World→Prop)(n:Nat)(f:Nat→Value):ResultVar→Value→Prop
  | .tmp t,v=>ev n f (.tmp t)=v
  | .cell a t,v=> ∃c,ev n f (.tmp a)=.pointer (some c)∧ ∀w,S w→(loadVar t c).run P w=.ok v w
theorem Yg(t:Nat):(Fr n ds f).tmps.getD t undef=ev n f (.tmp t):=congrFun (Dj n ds f) (.tmp t)
def Tu:ResultVar→Array Value→Sem Value
  | .tmp t,tmps=>pure (tmps.getD t undef)
  | .cell a t,tmps=>do loadVar t (←asAddr (tmps.getD a undef))
theorem Ew{r:ResultVar}{w:World}(c:S w)(h:RV P S n f r v):(Tu r (Fr n ds f).tmps).run P w=.ok v w:=by
  cases r with
  |tmp t=>simp only[Tu,Yg];rw[show ev n f (.tmp t)=v from h];rfl
  |cell a t=>
    obtain⟨e,g,l⟩:=h
    simp only[Tu,Yg,g,Sem.run_bind]
    simp[asAddr,l w c]
theorem Ia(fn:Func)(tmps:Array Value):results fn tmps=(do
    let c←fn.results.mapM fun r=>Tu r tmps
    pure (if h:c.size=1 then c[0]else .tuple c)):=by
  unfold results
  congr 2
  funext r
  cases r<;>rfl
abbrev W5(P:Program)(fn:Func)(R:Ending→World→Prop)(a:Act)(w:World):Prop:= ∃v,(results fn a.tmps).run P w=.ok v w∧R (.returned v) w
theorem Hv{fn:Func}{R:Ending→World→Prop}{w:World}(h:W5 P fn R (Fr n [] f) w):bodyPostM (Cv none) 0 P fn R .ret (Fr n [] f) w:=by
  exact h
theorem Ei{fn:Func}{R:Ending→World→Prop}{w:World}(h:W5 P fn R (Fr n [] f) w):bodyPostM (Cv none) 0 P fn R .normal (Fr n [] f) w:=Hv h
theorem Fq{fn:Func}{R:Ending→World→Prop}{D:Nat}{w:World}(c:w.heap[D]? =some (.deferred (some [])))
    (h:W5 P fn R (Fr n [] f) (w.putObj D (.deferred none))):bodyPostM (Cv none) 0 P fn R .ret (Fr n [{target:=.collected D,args:= #[]}] f) w:=
  ⟨by simp,.inl ⟨D,_,rfl,run_takeDeferred c,h⟩⟩
theorem Mem.mark{w:World}{D i:Nat}(h:Mem w0 M LL w)(e:LL[i]? =some [⟨D,.deferred (some [])⟩]):w.heap[D]? =some (.deferred (some []))∧Mem w0 M (LL.set i [⟨D,.deferred none⟩]) (w.putObj D (.deferred none)):=by
  have g:w.heap[D]? =some (.deferred (some [])):=h.at (p:=⟨D,.deferred (some [])⟩) (j:=0) e rfl
  refine⟨g,?_⟩
  have c:D<w.heap.size:=(Array.getElem?_eq_some_iff.1 g).1
  exact h.putO (s:=[⟨D,.deferred<|some []⟩]) (j:=0) e rfl rfl rfl rfl (by simp) (fun k _ l=>World.putObj_heap_other l)<|World.putObj_heap_same c
end
end Go.Proofs.YtmonlaoaengfdaaGreatDoor.Base
