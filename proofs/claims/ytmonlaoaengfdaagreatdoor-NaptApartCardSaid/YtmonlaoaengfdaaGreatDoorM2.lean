import Derived.Test.YtmonlaoaengfdaaGreatDoorM1
import Derived.ProofKit
import Derived.OpenShut
import Derived.ChangeArms
import Derived.Deep.Slices
import Derived.ShutString
import Derived.ChangeOld
import Derived.Laws.StructEq
import Derived.ChangeKeysEq
import Derived.Lib.Overlaps
import Derived.Test.YtmonlaoaengfdaaGreatDoorProg
import Derived.LoopNIn
set_option linter.unusedVariables false
set_option linter.unusedSimpArgs false
namespace Go.Proofs.YtmonlaoaengfdaaGreatDoor.Base
open Go.RowKit
inductive Leaf where
  |int (k:IntKind)
  |bool
  |string
  |slice (e:TypeId)
def F2{α β:Type}(R:α→β→Prop):List α→List β→Prop
  | [],[]=>True
  |a::a2,b::bs=>R a b∧F2 R a2 bs
  |_,_=>False
theorem F2.append{α β:Type}{R:α→β→Prop}: ∀{a:List α} {b:List β} {c:List α} {b':List β},F2 R a b→F2 R c b'→F2 R (a++c) (b++b')
  | [],[],_,_,_,h=>h
  |_::_,_::_,_,_,h1,h2=>⟨h1.1,F2.append h1.2 h2⟩
  | [],_::_,_,_,h,_=>h.elim
  |_::_,[],_,_,h,_=>h.elim
def Ih(r:TypeId→Option (List Leaf))(P:Program)(total:Nat):List Field→Nat→Option (List Leaf)
  | [],off=>if off=total then some []else none
  |f::fs,off=>if f.offset=off then(r f.type).bind fun a=>if a.length=P.cellsOf f.type then(Ih r P total fs (off+a.length)).map (a++ ·)else none else none
def flat(P:Program):Nat→TypeId→Option (List Leaf)
  |0,_=>none
  |k+1,t=>match P.underlying t with
    |some .bool=>some [.bool]
    |some (.int k)=>some [.int k]
    |some .string=>some [.string]
    |some (.slice e)=>some [.slice e]
    |some (.struct fs)=>Ih (flat P k) P (P.cellsOf t) fs.toList 0
    |some (.array n e)=>(flat P k e).bind fun a=>if a.length=P.cellsOf e∧n*a.length=P.cellsOf t then some (List.replicate n a).flatten else none
    |_=>none
section
variable {H:Type}(enc:TypeId×Value→H)(P:Program)(w:World)(base:Nat)(spare:Nat→Bool)(held:Bool)
def Ii:Leaf→Value→Prop
  | .int k,v=> ∃n,v=.int k n∧(Lit.int k n).wf=true
  | .bool,v=> ∃b,v=.bool b
  | .string,v=> ∃s:ByteArray,v=.string s∧s.size≤maxLen
  | .slice e,v=> ∃a len c,v=.slice a len c∧len≤c∧c≤maxLen∧(0<c→ ∃d,a=some d)∧ ∀d,a=some d→ ∀i,i<len→
      ∃cs m x,w.cells? base (d.add (i*P.cellsOf e)) (P.cellsOf e)=some cs∧DataW.trod enc P w base spare held m e cs=some x
variable {enc P w base spare held}
theorem S7{r:TypeId→Option (List Leaf)}{total m:Nat}{cs:List Value}(j: ∀t ls,r t=some ls→ ∀cs x,DataW.trod enc P w base spare held m t cs=some x→F2 (Ii enc P w base spare held) ls cs)
    (hc:cs.length=total): ∀(c:List Field) (b:Nat) (ls:List Leaf),Ih r P total c b=some ls→
    (∀f∈c,∃x,DataW.trod enc P w base spare held m f.type ((cs.drop f.offset).take (P.cellsOf f.type))=some x)→F2 (Ii enc P w base spare held) ls (cs.drop b)
  | [],b,ls,h,_=>by
    simp only[Ih]at h
    split at h
    · rename_i ho
      obtain rfl:=Option.some.inj h
      rw[ho,←hc,List.drop_length]
      trivial
    · cases h
  |f::c,b,ls,h,hx=>by
    simp only[Ih]at h
    split at h
    · rename_i ho
      obtain⟨a,n,h⟩:=Option.bind_eq_some_iff.1 h
      split at h
      · rename_i o
        obtain⟨d,q,rfl⟩:=Option.map_eq_some_iff.1 h
        obtain⟨x,i⟩:=hx f (List.mem_cons_self ..)
        have l:=j f.type a n _ x i
        have u:=S7 j hc c _ d q (fun g A=>hx g (List.mem_cons_of_mem _ A))
        rw[ho,←o]at l
        have e:cs.drop b=(cs.drop b).take a.length++cs.drop (b+a.length):=by
          rw[←List.drop_drop,List.take_append_drop]
        rw[e]
        exact l.append u
      · cases h
    · cases h
theorem Yr{a:List Leaf}{c m n:Nat}{e:TypeId}{cs:List Value}(g:a.length=c)(hc:cs.length=n*c)
    (d: ∀i,i<n→ ∃x,DataW.trod enc P w base spare held m e ((cs.drop (i*c)).take c)=some x)
    (f: ∀cs x,DataW.trod enc P w base spare held m e cs=some x→F2 (Ii enc P w base spare held) a cs): ∀(k i:Nat),i+k=n→F2 (Ii enc P w base spare held) (List.replicate k a).flatten (cs.drop (i*c))
  |0,i,h=>by
    have:cs.drop (i*c)=[]:=by
      apply List.drop_eq_nil_of_le
      rw[hc,show i=n by omega]
      exact Nat.le_refl _
    rw[this]
    simp[F2]
  |k+1,i,h=>by
    obtain⟨x,b⟩:=d i (by omega)
    have j:=f _ x b
    have l:=Yr g hc d f k (i+1) (by omega)
    have o:cs.drop (i*c)=(cs.drop (i*c)).take c++cs.drop ((i+1)*c):=by
      rw[Nat.succ_mul,←List.drop_drop,List.take_append_drop]
    rw[o,List.replicate_succ,List.flatten_cons]
    exact j.append l
theorem I2: ∀(k:Nat) (t:TypeId) (ls:List Leaf),flat P k t=some ls→ ∀(m:Nat) (cs:List Value) (x:DataW H×List MemPlace),DataW.trod enc P w base spare held m t cs=some x→F2 (Ii enc P w base spare held) ls cs
  |0,_,_,h=>by simp[flat]at h
  |k+1,t,ls,h=>by
    intro m cs x j
    simp only[flat]at h
    split at h
    · rename_i g
      obtain rfl:=Option.some.inj h
      obtain⟨b,rfl,_⟩:=DataW.trod_bool g j
      exact⟨⟨b,rfl⟩,trivial⟩
    · rename_i g
      obtain rfl:=Option.some.inj h
      obtain⟨n,rfl,_,hw⟩:=DataW.trod_int g j
      exact⟨⟨n,rfl,hw⟩,trivial⟩
    · rename_i g
      obtain rfl:=Option.some.inj h
      obtain⟨s,rfl,_,D⟩:=DataW.trod_string g j
      exact⟨⟨s,rfl,D⟩,trivial⟩
    · rename_i e g
      obtain rfl:=Option.some.inj h
      rcases DataW.trod_slice g j with⟨rfl,_⟩|⟨a,len,cap,elems,rest,n,_,rfl,_,hb,q,hm,hel,d,_,_⟩
      · exact⟨⟨none,0,0,rfl,Nat.le_refl _,Nat.zero_le _,fun h=>absurd h (Nat.lt_irrefl _),fun _ h=>by cases h⟩,trivial⟩
      · refine⟨⟨some a,len,cap,rfl,q,hm,fun _=>⟨a,rfl⟩,fun E u i o=>?_⟩,trivial⟩
        obtain rfl:=Option.some.inj u
        have l:=d i o
        rw[List.getElem?_eq_getElem (by omega)]at l
        obtain⟨A,F,G⟩:=Option.bind_eq_some_iff.1 l
        exact⟨A,n,_,F,G⟩
    · rename_i B g
      obtain⟨xs,n,_,_,hc,r,d⟩:=DataW.trod_struct g j
      have:=S7 (enc:=enc) (w:=w) (base:=base) (spare:=spare) (held:=held) (m:=n) (cs:=cs) (fun t ls h cs x j=>I2 k t ls h n cs x j) hc B.toList 0 ls h (fun f I=>by
        obtain⟨i,o,rfl⟩:=List.getElem_of_mem I
        have l:=d i B.toList[i] (by simp at o⊢)
        simp only[Array.length_toList]at o
        rw[List.getElem?_eq_getElem (by omega)]at l
        exact⟨_,l⟩)
      simpa using this
    · rename_i n e g
      obtain⟨xs,C,_,_,hc,r,d⟩:=DataW.trod_array g j
      obtain⟨a,J,h⟩:=Option.bind_eq_some_iff.1 h
      split at h
      · rename_i q
        obtain rfl:=Option.some.inj h
        have:=Yr (enc:=enc) (P:=P) (w:=w) (base:=base) (spare:=spare) (held:=held) (a:=a) (c:=P.cellsOf e) (m:=C) (n:=n) (e:=e) (cs:=cs) q.1 (by rw[hc,←q.2,q.1]) (fun i o=>by
          have l:=d i o
          rw[List.getElem?_eq_getElem (by omega)]at l
          exact⟨_,l⟩) (fun cs x j=>I2 k e a J C cs x j) n 0 (by omega)
        simpa using this
      · cases h
    · cases h
end
theorem Oe{α β:Type}{R:α→β→Prop}(l:List β):F2 R [] l↔l=[]:=by cases l<;>simp[F2]
theorem L2{α β:Type}{R:α→β→Prop}(a:α)(d:List α)(l:List β):F2 R (a::d) l↔ ∃b c,l=b::c∧R a b∧F2 R d c:=by
  cases l with
  |nil=>simp[F2]
  |cons b c=>
    refine⟨fun h=>⟨b,c,rfl,h.1,h.2⟩,?_⟩
    rintro⟨j,f,e,g,i⟩
    obtain⟨rfl,rfl⟩:=List.cons.inj e
    exact⟨g,i⟩
theorem E0{α β:Type}{R:α→β→Prop}{a:α}{c:List α}{l:List β}(h:F2 R (a::c) l): ∃b d,l=b::d∧R a b∧F2 R c d:=(L2 a c l).1 h
theorem Akj{α β:Type}{R:α→β→Prop}{l:List β}(h:F2 R [] l):l=[]:=(Oe l).1 h
theorem An5{H:Type}{enc:TypeId×Value→H}{P:Program}{w:World}{spare:Nat→Bool}{held:Bool}{e:TypeId}{a:Option Addr}{len cap:Nat}{α:Type} [Inhabited α]{g:α→Value}{p:α→Prop}(f:P.cellsOf e=1)
    (t:len≤cap) (u:0<cap→ ∃b,a=some b)
    (h: ∀b,a=some b→ ∀i,i<len→ ∃cs m x,w.cells? 0 (b.add (i*P.cellsOf e)) (P.cellsOf e)=some cs∧DataW.trod enc P w 0 spare held m e cs=some x)
    (A: ∀m cs x,DataW.trod enc P w 0 spare held m e cs=some x→ ∃y,cs=[g y]∧p y): ∃xs:List α,xs.length=len∧At w a (mc g xs)∧ ∀x∈xs,p x:=by
  by_cases D:0<len
  · obtain⟨b,rfl⟩:=u (by omega)
    obtain⟨X,r⟩:=Deep.choose_lt (α:=α) (p:=fun i y=>w.cells? 0 (b.add (i*1)) 1=some [g y]∧p y) (n:=len) (fun i j=>by
      obtain⟨cs,m,x,c,B⟩:=h b rfl i j
      obtain⟨y,rfl,C⟩:=A m cs x B
      exact⟨y,by rw[f]at c;exact c,C⟩)
    refine⟨(List.range len).map X,by simp,⟨fun _=>rfl,fun q v l=>?_⟩,fun x o=>?_⟩
    · have d:q<len:=by have:=(List.getElem?_eq_some_iff.1 l).1;simpa [mc]using this
      obtain⟨_,E,hc⟩:=World.cells?_some (r q d).1
      have c:=hc 0 (by decide)
      simp only[Option.getD_some]
      rw[Nat.mul_one,Nk]at c
      rw[c]
      simp[mc,d]at l
      simpa using l
    · obtain⟨i,j,rfl⟩:=List.mem_map.1 o
      exact(r i<|by simpa using j).2
  · obtain rfl:len=0:=by omega
    exact⟨[],rfl,At.nil _ _,fun x o=>by cases o⟩
theorem An6{n:Int}(h:(Lit.int .u8 n).wf=true):Value.int .u8 n=b8 (UInt8.ofNat n.toNat):=by
  have b:=bounds_u8 h
  unfold b8
  rw[UInt8.toNat_ofNat',Nat.mod_eq_of_lt (by omega),show((n.toNat:Nat):Int)=n by omega]
end Go.Proofs.YtmonlaoaengfdaaGreatDoor.Base
namespace Go.Proofs.YtmonlaoaengfdaaGreatDoor.Base
open Go.RowKit
def YN(P:Program)(w:World)(T:Bool→World→Prop):Next→Prop
  | .enter k a=>Calls P k a w (fun e g=> ∃b,e=.returned (.bool b)∧T b g)
  | .round l h d c f=>RoundIn (Cv none) 0 P l h d c f w (fun e g=> ∃b,e=.returned (.bool b)∧T b g)
  |_=>False
def S8(b:Value)(args:Array Value):Sem Next:=do
  let d←Deferred.ofValue b args
  invoke d.target d.args
def Yld(P:Program)(c:Value)(args:Array Value)(S:World→Prop)(T:Bool→World→Prop):Prop:=
  ∀w,S w→ ∃b,(S8 c args).run P w=.ok b w∧YN P w T b
theorem Vs{r:Option Nat}{P:Program}{l:Nat}{f:FuncId}{tmps:Array Value}{b c:Code}{w:World}{R:Ending→World→Prop}(h:RoundIn (Cv none) 0 P l f tmps b c w R):RoundIn (Cv r) 0 P l f tmps b c w R:=by
  cases r with
  |none=>exact h
  |some q=>exact h
section
variable {σ:Type}{r:Option Nat}{P:Program}{n:Nat}{ds:List Deferred}{f:Nat→Value}{S:World→Prop}{o:Oper}{d:Nat}{w0:World}{M:List Nat}{LL:List (List Blk)}{yv:Value}{args:Array Value}
theorem An7{k:FuncId}{lb c:Array Value}{T:Bool→World→Prop}(g: ∀w,(S8 (.func (.func k) #[] lb) args).run P w=.ok (.enter k c) w)
    (h: ∀w,S w→Calls P k c w (fun e i=> ∃b,e=.returned (.bool b)∧T b i)):Yld P (.func (.func k) #[] lb) args S T:=fun w hw=>⟨_,g w,h w hw⟩
theorem Nn{b:Array Value}{T:Bool→World→Prop}(e:args=b)(h:Yld P yv b S T):Yld P yv args S T:=by subst e;exact h
theorem Gc{LL':List (List Blk)}{G:World→Prop}(b:List Nat)(c:b.Nodup)(e:C2 LL b=LL')(h: ∀w,Mem w0 M LL' w→G w): ∀w,Mem w0 M LL w→G w:=fun w hw=>h w (hw.pick b c e)
theorem Kh{Φ:Bool→σ→Prop}{Lf:σ→List (List Blk)}(i:H7 o=true)(t:o.dst=some d)(h: ∀w,(execOp (ev n f) o).run P w=(S8 yv args).run P w)
    (x:Yld P yv args S (fun b w=> ∃s,Φ b s∧Mem w0 M (Lf s) w)):
    HtIn (β:={g:Bool×σ//Φ g.1 g.2}) r P n S f o (fun g=>Fg f d (.bool g.1.1)) (fun g=>Mem w0 M (Lf g.1.2)):=fun ds w A K u=>by
  refine⟨fun _ _=>trivial,?_⟩
  have e:o.semAt (Cv r).round (Fr n ds f).eval=execOp (Fr n ds f).eval o:=Oper.semAt_eq _ _ _ (Ra i)
  rw[e,Dj,h w]
  obtain⟨B,C,i⟩:=x w A
  rw[C]
  cases B<;>simp only[YN]at i<;>try exact i.elim
  case enter k a=>
    refine⟨fun h=>(by cases h),H8<|Calls.mono i ?_⟩
    rintro e j ⟨b,rfl,s,c,q⟩
    simp only[t,Dy]
    exact u ⟨(b,s),c⟩ j q
  case round l fn tmps assign body=>
    refine⟨fun h=>(by cases h),(Vs i).mono ?_⟩
    rintro e j ⟨b,rfl,s,c,q⟩
    simp only[t,Dy]
    exact u ⟨(b,s),c⟩ j q
def Iter(P:Program)(k:FuncId)(lb:Array Value)(enc:Nat→List Value)(N:Nat)(Li:List (List Blk))(c:World)(M:List Nat):Prop:=
  ∀(τ:Type) (yv:Value) (U:τ→List Blk) (Φ:Nat→τ→Prop) (Ψ:τ→Prop) (g:τ),
    (∀i s (R:List (List Blk)),i<N→Φ i s→Yld P yv (enc i).toArray (Mem c M (U s::R)) (fun b w=> ∃e,(bif b then Φ (i+1) e else Ψ e)∧Mem c M (U e::R) w))→
    Φ 0 g→Mem c M (U g::Li) c→Calls P k (#[yv]++lb) c (Bn c (fun s=>Φ N s∨Ψ s) (fun _=>.tuple #[]) M (fun s=>U s::Li))
theorem Mem.flat{w:World}{LL':List (List Blk)}(e:LL.flatten=LL'.flatten)(h:Mem w0 M LL w):Mem w0 M LL' w:=by
  unfold Mem at h⊢;rwa[←e]
theorem Mem.perm{w:World}{LL':List (List Blk)}(p:LL'.flatten.Perm LL.flatten)(h:Mem w0 M LL w):Mem w0 M LL' w:=
  Mem0.sub h (fun q c=>p.mem_iff.1 c) ((p.map (·.b)).nodup_iff.2 (Mem0.nodup h))
abbrev dB(D:Nat):List Blk:=[⟨D,.deferred (some [])⟩]
abbrev lB(l:Nat)(o:Loop):List Blk:=[⟨l,.loop o⟩]
abbrev mk(D:Nat):Deferred:={target:=.collected D,args:= #[]}
def RQ(u:World)(Mu:List Nat)(D l:Nat)(b:Loop)(Lu:σ→List (List Blk))(Φ:σ→Prop)(Ψ:Code→σ→Prop):Exit→Act→World→Prop
  | .normal,_,w=> ∃s,Φ s∧Mem u Mu (dB D::lB l b::Lu s) w
  | .ret,_,w=> ∃s,Ψ .ret s∧Mem u Mu (dB D::lB l b::Lu s) w
  | .exit id,_,w=> ∃s,Ψ (.exit id) s∧Mem u Mu (dB D::lB l b::Lu s) w
  |_,_,_=>False
theorem L3: ∀(l:List (Nat×Value)) (f:Nat→Value),l.foldl (fun t (p:Nat×Value)=>t.setIfInBounds p.1 p.2) (Fr n ds f).tmps=(Fr n [] (l.foldl (fun f p=>Fg f p.1 p.2) f)).tmps
  | [],f=>rfl
  |(p,v)::l,f=>by
    have e:(Fr n ds f).tmps.setIfInBounds p v=(Fr n ds (Fg f p v)).tmps:=congrArg Act.tmps (Dy n ds f p v)
    simp only[List.foldl_cons]
    rw[e]
    exact L3 l _
theorem Dq{w:World}{a:Option Addr}{cs:List Value}{L R:List (List Blk)}(h:At w0 a cs)(c:0<cs.length→(a.getD default).block∉M)(g:Mem w0 M (L++R) w):
    At w a cs∧(0<cs.length→(a.getD default).block∉L.flatten.map (·.b)):=
  ⟨h.mem' g c,fun i j=>by
    obtain⟨p,l,e⟩:=List.mem_map.1 j
    have q:=h.lt i
    exact c i (e▸Mem0.old g p (by rw[List.flatten_append];exact List.mem_append_left _ l) (by rw[e];exact q))⟩
theorem Ago{Q:Exit→Act→World→Prop}{g:Operand}{ps:Array Tmp}{assign body:Code}{k:FuncId}{lb:Array Value}{enc:Nat→List Value}{N:Nat}{Lu:σ→List (List Blk)}{Li Lk:List (List Blk)}
    (is js ks:List Nat) (Z:σ) (Φ:Nat→σ→Prop) (Ψ:Code→σ→Prop) (ab:List Nat)
    (hg:ev n f g=.func (.func k) #[] lb) (hk: ∀x w,(callFunc k x).run P w=.ok (.enter k x) w)
    (bb:(is++js++ks).Nodup) (hi:C2 LL is=Lu Z) (hj:C2 LL js=Li) (bc:C2 LL ks=Lk)
    (ap:ps.toList=ab) (aq: ∀i,(enc i).length=ab.length) (h0:Φ 0 Z)
    (bd: ∀(D l:Nat) (ob:Loop) (I:World),Mem w0 M (((dB D::lB l ob::Lu Z)++Li)++Lk) I→Iter P k lb enc N Li I (((dB D::lB l ob::Lu Z)++Li).flatten.map (·.b)))
    (ai: ∀(D l:Nat) (ob ar:Loop) (i:Nat) (s:σ) (u:World) (Mu:List Nat) (J:Act→World→Prop),i<N→Φ i s→
      (∀a cs,At w0 a cs→(0<cs.length→(a.getD default).block∉M)→At u a cs∧(0<cs.length→(a.getD default).block∉Mu))→
      (∀f' L',W (some l) P (RQ u Mu D l ar Lu (Φ (i+1)) Ψ) body n [] f' (Mem u Mu (dB D::lB l ar::L'))→ ∀O,Mem u Mu (dB D::lB l ob::L') O→J (Fr n [] f') O)→
      W (some l) P (Exit.then J E4) assign n [] ((ab.zip (enc i)).foldl (fun f p=>Fg f p.1 p.2) f) (Mem u Mu (dB D::lB l ob::Lu s)))
    (aj: ∀(D l:Nat) (ob:Loop) (s:σ),Φ N s→ ∀w,Mem w0 M (((dB D::lB l ob::Lu s)++Li)++Lk) w→Q .normal (Fr n (mk D::ds) f) w)
    (ak: ∀(D l:Nat) (ob:Loop) (c:Code) (s:σ),Ψ c s→W none P Q c n (mk D::ds) f (Mem w0 M (((dB D::lB l ob::Lu s)++Li)++Lk))):
    W none P Q (.rangeFunc g ps assign body) n ds f (Mem w0 M LL):=fun w hS=>by
  have bg:Mem w0 M (Lu Z++Li++Lk) w:=hS.pick (is++js++ks) bb (by rw[←hi,←hj,←bc];simp[C2])
  refine wpIn_rangeFunc ?_
  intro fn _
  obtain⟨q,C⟩: ∃q:LoopState→Option Code→Loop,q=fun st B=>{state:=st,pending:=B,fn,tmps:=(Fr n ds f).tmps,params:=ps,assign,body,defers:=w.heap.size}:=⟨_,rfl⟩
  obtain⟨D,hD⟩: ∃D,D=w.heap.size:=⟨_,rfl⟩
  obtain⟨l,hl⟩: ∃l,l=w.heap.size+1:=⟨_,rfl⟩
  obtain⟨I,au⟩: ∃I,(w.alloc (.deferred (some []))).alloc (.loop (q .ready none))=I:=⟨_,rfl⟩
  have hm:Mem w0 M (((dB D::lB l (q .ready none)::Lu Z)++Li)++Lk) I:=by
    have h1:=(bg.allocO (.deferred (some []))).allocO (.loop (q .ready none))
    rw[←au]
    refine Mem.perm ?_ h1
    simp only[List.flatten_append,List.flatten_cons,dB,lB,hD,hl,List.cons_append,List.nil_append,List.append_assoc,Array.size_push]
    exact List.Perm.swap _ _ _
  let U:σ×Option Code→List Blk:=fun s=>dB D++lB l (q (if s.2.isNone then .ready else .done) s.2)++(Lu s.1).flatten
  have hU: ∀(s:σ) (B:Option Code) (R:List (List Blk)),(U (s,B)::R).flatten=((dB D::lB l (q (if B.isNone then .ready else .done) B)::Lu s)++R).flatten:=fun s B R=>by
    simp[U,List.flatten_append]
  obtain⟨M1,al⟩: ∃M1,M1=((dB D::lB l (q .ready none)::Lu Z)++Li).flatten.map (·.b):=⟨_,rfl⟩
  have av:Mem I M1 (U (Z,none)::Li) I:=by
    rw[al];exact(Mem.local hm).flat (hU Z none Li).symm
  have T: ∀{LL':List (List Blk)} {O:World},Mem I M1 LL' O→Mem w0 M (LL'++Lk) O:=fun h=>Mem.back hm (by rw[al]at h;exact h)
  refine⟨l,[mk D],I,{target:=.fn (.func k) lb,args:= #[.func (.yield l) #[] #[]]},I,k,#[.func (.yield l) #[] #[]]++lb,I,?_,?_,fun _ _=>trivial,?_,fun h=>(by cases h),?_⟩
  · rw[←au,C,hl];simp only[mk,hD];exact run_enterLoop_outer _ _ _ _ _
  · simp only[resolve,Dj,hg]
    simp[go_sem];rfl
  · simp[invoke,go_sem,hk]
  have hI:=bd D l _ I hm
  rw[←al]at hI
  refine H8<|Calls.mono (hI (σ×Option Code) (.func (.yield l) #[] #[]) U (fun i s=>Φ i s.1∧s.2=none) (fun s=> ∃c,s.2=some c∧Ψ c s.1) (Z,none) ?_ ⟨h0,rfl⟩ av) ?_
  · rintro i ⟨s,B⟩ R bi ⟨V,G⟩ u hu
    simp only at G V;subst G
    have bj:u.heap[l]? =some (.loop (q .ready none)):=hu.at (i:=0) (j:=1) (p:=⟨l,_⟩) rfl rfl
    obtain⟨Mu,am⟩: ∃Mu,Mu=(U (s,none)).map (·.b):=⟨_,rfl⟩
    have an:Mem u Mu (dB D::lB l (q .ready none)::Lu s) u:=by
      have h1:Mem u Mu [U (s,none)] u:=by rw[am];exact hu.one (i:=0) rfl
      exact h1.flat (by have:=hU s none [];simpa using this)
    have af: ∀{E:σ} {B:Option Code} {O:World},Mem u Mu (dB D::lB l (q (if B.isNone then .ready else .done) B)::Lu E) O→Mem I M1 (U (E,B)::R) O:=fun {E B O} h=>by
      have h1:Mem u ([U (s,none)].flatten.map (·.b)) [U (E,B)] O:=by
        simp only[List.flatten_cons,List.flatten_nil,List.append_nil];rw[←am]
        exact h.flat (by have:=hU E B [];simpa using this.symm)
      exact Mem.back (LL:=[U (s,none)]) (R:=R) hu h1
    refine⟨.round l fn ((ps.zip (enc i).toArray).foldl (fun t (p:Nat×Value)=>t.setIfInBounds p.1 p.2) (Fr n ds f).tmps) assign body,?_,?_⟩
    · have:=run_yield (P:=P) (args:=(enc i).toArray) bj (by rw[C];simp only[List.size_toArray];rw[aq,←ap];simp)
      rw[C]at this
      simp only[S8,Deferred.ofValue,Sem.run_bind]
      simp[go_sem,invoke,this]
    refine roundIn_of_wpIn (F:=Cv none) trivial ?_
    have et:(ps.zip (enc i).toArray).foldl (fun t (p:Nat×Value)=>t.setIfInBounds p.1 p.2) (Fr n ds f).tmps=(Fr n [] ((ab.zip (enc i)).foldl (fun f p=>Fg f p.1 p.2) f)).tmps:=by
      rw[←L3 (ds:=ds),←ap]
      rw[←Array.foldl_toList,Array.toList_zip]
    rw[et]
    refine ai D l (q .ready none) (q .busy none) i s u Mu _ bi V ?_ ?_ u an
    · intro a cs bk bl
      have h1:Mem w0 M ((U (s,none)::R)++Lk) u:=T hu
      have h2:=Dq (L:=[U (s,none)]) (R:=R++Lk) bk bl (by simpa using h1)
      rw[am];simpa using h2
    intro f' L' hW O aw
    have ax:O.heap[l]? =some (.loop (q .ready none)):=aw.at (i:=1) (j:=0) (p:=⟨l,_⟩) rfl rfl
    have ay:=(Array.getElem?_eq_some_iff.1 ax).1
    refine⟨O.putObj l<|.loop<|q .busy none,?_,?_⟩
    · have:=run_beginRound (P:=P) ax (by rw[C]);rw[this,C]
    have ag:Mem u Mu (dB D::lB l (q .busy none)::L') (O.putObj l (.loop (q .busy none))):=
      aw.putO (s:=lB l (q .ready none)) (i:=1) (j:=0) rfl rfl rfl rfl rfl (by simp) (fun k _ hk=>World.putObj_heap_other hk) (World.putObj_heap_same ay)
    refine wpIn_mono (hW _ ag) ?_
    have fin: ∀(A:Option Code) (E:σ) (w3:World),Mem u Mu (dB D::lB l (q .busy none)::Lu E) w3→
        (Instr.endRound l A).run P w3=.ok (.bool A.isNone) (w3.putObj l (.loop (q (if A.isNone then .ready else .done) A)))∧
        Mem I M1 (U (E,A)::R) (w3.putObj l (.loop (q (if A.isNone then .ready else .done) A))):=fun A E w3 X=>by
      have az:w3.heap[l]? =some (.loop (q .busy none)):=X.at (i:=1) (j:=0) (p:=⟨l,_⟩) rfl rfl
      have a0:=(Array.getElem?_eq_some_iff.1 az).1
      refine⟨?_,af ?_⟩
      · have:=run_endRound (P:=P) A az;rw[this,C]
      · exact X.putO (s:=lB l (q .busy none)) (i:=1) (j:=0) rfl rfl rfl rfl rfl (by simp) (fun k _ hk=>World.putObj_heap_other hk) (World.putObj_heap_same a0)
    rintro e a3 w3 hp
    cases e with
    |normal=>
      obtain⟨E,Y,X⟩:=hp
      obtain⟨hr,h4⟩:=fin none E w3 X
      exact⟨_,_,hr,true,rfl,(E,none),⟨Y,rfl⟩,h4⟩
    |ret=>
      obtain⟨E,Y,X⟩:=hp
      obtain⟨hr,h4⟩:=fin (some .ret) E w3 X
      exact⟨_,_,hr,false,rfl,(E,some .ret),⟨_,rfl,Y⟩,h4⟩
    |exit id=>
      obtain⟨E,Y,X⟩:=hp
      obtain⟨hr,h4⟩:=fin (some (.exit id)) E w3 X
      exact⟨_,_,hr,false,rfl,(E,some<|.exit id),⟨_,rfl,Y⟩,h4⟩
    |goto t=>exact hp.elim
    |panic ch=>exact hp.elim
    |outgrown=>exact hp.elim
  · rintro e w2 ⟨⟨s,B⟩,bm,rfl,ag⟩
    have a5:w2.heap[l]? =some (.loop (q (if B.isNone then .ready else .done) B)):=ag.at (i:=0) (j:=1) (p:=⟨l,_⟩) rfl rfl
    have a6:=(Array.getElem?_eq_some_iff.1 a5).1
    have he:(Instr.endLoop l).run P w2=.ok B (w2.putObj l (.loop (q .exhausted B))):=by
      have:=run_endLoop (P:=P) a5 (by rw[C];cases B<;>simp);rw[this,C]
    have X:Mem w0 M (((dB D::lB l (q .exhausted B)::Lu s)++Li)++Lk) (w2.putObj l (.loop (q .exhausted B))):=by
      have h1:Mem w0 M (((dB D::lB l (q (if B.isNone then .ready else .done) B)::Lu s)++Li)++Lk) w2:=(T ag).flat (by rw[List.flatten_append,hU s B Li,←List.flatten_append])
      exact h1.putO (s:=lB l<|q (if B.isNone then .ready else .done) B) (i:=1) (j:=0) rfl rfl rfl rfl rfl (by simp) (fun k _ hk=>World.putObj_heap_other hk)<|World.putObj_heap_same a6
    refine⟨B,_,he,?_⟩
    rcases bm with⟨V,G⟩|⟨c,G,hΨ⟩
    · simp only at G V;subst G
      exact aj D l _ s V _ X
    · simp only at G hΨ;subst G
      exact ak D l _ c s hΨ _ X
theorem RQ.fin{u:World}{Mu:List Nat}{D l:Nat}{b:Loop}{Lu:σ→List (List Blk)}{Φ:σ→Prop}{Ψ:Code→σ→Prop}{a:Act}{w:World}(s:σ)(h:Φ s)(c:Mem u Mu (dB D::lB l b::Lu s) w):RQ u Mu D l b Lu Φ Ψ .normal a w:=⟨s,h,c⟩
theorem RQ.ret{u:World}{Mu:List Nat}{D l:Nat}{b:Loop}{Lu:σ→List (List Blk)}{Φ:σ→Prop}{Ψ:Code→σ→Prop}{a:Act}{w:World}(s:σ)(h:Ψ .ret s)(c:Mem u Mu (dB D::lB l b::Lu s) w):RQ u Mu D l b Lu Φ Ψ .ret a w:=⟨s,h,c⟩
theorem RQ.exit{b:Nat}{u:World}{Mu:List Nat}{D l:Nat}{c:Loop}{Lu:σ→List (List Blk)}{Φ:σ→Prop}{Ψ:Code→σ→Prop}{a:Act}{w:World}(s:σ)(h:Ψ (.exit b) s)(e:Mem u Mu (dB D::lB l c::Lu s) w):RQ u Mu D l c Lu Φ Ψ (.exit b) a w:=⟨s,h,e⟩
theorem Mem.other{w:World}{s:List Blk}{p:Blk}{L':List (List Blk)}(x:Mem w0 M LL w)(t:List Nat)(q:Nat)(A:q∉t)(B:LL[q]? =some s)(C:p∈s)(e:C2 LL t=L'):p.b∉L'.flatten.map (·.b):=fun h=>by
  subst e
  obtain⟨D,g,e⟩:=List.mem_map.1 h
  obtain⟨F,j,c⟩:=List.mem_flatten.1 g
  obtain⟨i,l,rfl⟩:=List.mem_map.1 j
  have E:=(Mr.1 (Mem0.nodup x)).2
  have u:=Rd E (i:=i) (k:=q) (fun e=>A (e▸l))
  rw[B]at u
  exact u D c p C e
theorem FS.other{w:World}{g:FS}{t:TypeId}{cs:List Value}{sz len:Nat}{L':List (List Blk)}(j:Mem w0 M LL w)(c:List Nat)(q:Nat)(l:q∉c)(h:LL[q]? =some (g.seg t cs))(ok:g.ok sz len)(u:cs.length=len*sz)(e:C2 LL c=L')(x:0<cs.length):(g.a.getD default).block∉L'.flatten.map (·.b):=by
  have i:g.nil=false:=by
    cases A:g.nil with
    |false=>rfl
    |true=>have:=Ah ok u A;subst this;simp at x
  rw[Ie i]at h
  rw[Et i]
  exact j.other c q l h (List.mem_singleton.2 rfl) e
theorem Am8{k:FuncId}{lb:Array Value}{enc b:Nat→List Value}{N N':Nat}{Li Li':List (List Blk)}{c:World}{M:List Nat}(h:Iter P k lb enc N Li c M)(e:enc=b)(g:N=N')(i:Li=Li'):Iter P k lb b N' Li' c M:=by
  subst e;subst g;subst i;exact h
end
theorem Ab7{x:Int}{c:Nat}(hc:c≤62)(m M:Nat)(b:m=2^c-1)(e:M=2^c):Dw .i64 x ((m:Nat):Int)=(((x%(M:Int)).toNat:Nat):Int):=by
  subst b;subst e
  have u:2^c≤2^62:=Nat.pow_le_pow_right (by decide) hc
  have g:=Nat.two_pow_pos c
  obtain⟨d,h⟩: ∃d,2^64=2^c*d:=⟨2^(64-c),by rw[←Nat.pow_add];congr 1;omega⟩
  unfold Dw
  rw[BitVec.toNat_and,Mt,Nat.mod_eq_of_lt (show 2^c-1<2^IntKind.i64.bits by show _<2^64;omega),Nat.and_two_pow_sub_one_eq_mod,BitVec.toNat_ofInt]
  have i:(x%((2^64:Nat):Int)).toNat%2^c=(x%((2^c:Nat):Int)).toNat:=by
    have j:((x%((2^64:Nat):Int))%((2^c:Nat):Int))=x%((2^c:Nat):Int):=Int.emod_emod_of_dvd _ ⟨(d:Int),by rw[h];push_cast;rfl⟩
    have l:(0:Int)≤x%((2^64:Nat):Int):=Int.emod_nonneg _ (by decide)
    rw[←j]
    obtain⟨q,t⟩:=Int.eq_ofNat_of_zero_le l
    rw[t,←Int.natCast_emod,Int.toNat_natCast,Int.toNat_natCast]
  have A:(x%((2^c:Nat):Int)).toNat<2^c:=by
    have:=Int.emod_lt_of_pos x (show(0:Int)<((2^c:Nat):Int) by omega)
    have:=Int.emod_nonneg x (show((2^c:Nat):Int)≠0 by omega)
    omega
  show IntKind.i64.wrap (((x%((2^64:Nat):Int)).toNat%2^c:Nat):Int)=_
  rw[i,Dg (by omega) (by omega)]
section
variable {P:Program}{n:Nat}{S:World→Prop}{f:Nat→Value}{o:Oper}
theorem Tz{t e:TypeId}{x:Operand}{b len sz o':Nat}(c:o.op=.slice t x none none none)(g:ev n f x=.pointer (some ⟨b,o',none⟩))
    (h: ∀w,(underlying t).run P w=.ok (.array len e) w) (i: ∀w,(sizeOf e).run P w=.ok sz w):Ys P n S f o (.slice (some ⟨b,o',none⟩) len len):=Ys.pure fun w=>by
  simp[execOp,c,g,Instr.sliceAt,Instr.slice,h,asAddr,Instr.sureAddr,Instr.sliceBounds,i,Nk]
end
def mm{α:Type}(g:α→List Value)(xs:List α):List Value:=xs.flatMap g
section
variable {α:Type}{g:α→List Value}{sz:Nat}
theorem Ch(b: ∀x,(g x).length=sz): ∀xs:List α,(mm g xs).length=xs.length*sz
  | []=>by simp[mm]
  |x::xs=>by
    have:=Ch b xs
    unfold mm at this⊢
    rw[List.flatMap_cons,List.length_append,b,this,List.length_cons,Nat.succ_mul];omega
theorem Db(b: ∀x,(g x).length=sz)(d:α): ∀{xs:List α} {k:Nat},k<xs.length→ ∀j v,(g (xs.getD k d))[j]? =some v→(mm g xs)[k*sz+j]? =some v
  | [],k,h,_,_,_=>by simp at h
  |x::xs,0,h,j,v,hv=>by
    have e:=(List.getElem?_eq_some_iff.1 hv).1
    unfold mm
    rw[List.flatMap_cons,Nat.zero_mul,Nat.zero_add,List.getElem?_append_left (by simpa using e)]
    exact hv
  |x::xs,k+1,h,j,v,hv=>by
    have c:=Db b d (xs:=xs) (k:=k) (by simpa using h) j v (by simpa using hv)
    unfold mm at c⊢
    rw[List.flatMap_cons,List.getElem?_append_right (by rw[b,Nat.succ_mul];omega),b]
    rw[show(k+1)*sz+j-sz=k*sz+j by rw[Nat.succ_mul];omega]
    exact c
theorem Ki(b: ∀x,(g x).length=sz)(d:α){xs:List α}{k:Nat}(h:k<xs.length)(j:Nat){v:Value}(c:(g (xs.getD k d))[j]? =some v):(mm g xs)[k*sz+j]? =some v:=Db b d h j v c
end
theorem Xc{H:Type}{enc:TypeId×Value→H}{P:Program}{w:World}{spare:Nat→Bool}{held:Bool}{e:TypeId}{a:Option Addr}{len cap sz:Nat}{α:Type} [Inhabited α]{g:α→List Value}{p:α→Prop}(A:P.cellsOf e=sz)(t: ∀x,(g x).length=sz)
    (G:len≤cap) (I:0<cap→ ∃b,a=some b)
    (h: ∀b,a=some b→ ∀i,i<len→ ∃cs m x,w.cells? 0 (b.add (i*P.cellsOf e)) (P.cellsOf e)=some cs∧DataW.trod enc P w 0 spare held m e cs=some x)
    (J: ∀m cs x,DataW.trod enc P w 0 spare held m e cs=some x→ ∃y,cs=g y∧p y): ∃xs:List α,xs.length=len∧At w a (mm g xs)∧ ∀x∈xs,p x:=by
  by_cases R:0<len
  · obtain⟨b,rfl⟩:=I (by omega)
    obtain⟨X,F⟩:=Deep.choose_lt (α:=α) (p:=fun i y=>w.cells? 0 (b.add (i*sz)) sz=some (g y)∧p y) (n:=len) (fun i B=>by
      obtain⟨cs,m,x,j,L⟩:=h b rfl i B
      obtain⟨y,rfl,N⟩:=J m cs x L
      exact⟨y,by rw[A]at j;exact j,N⟩)
    have C: ∀(n l:Nat),l+n≤len→ ∀q v,(mm g ((List.range' l n).map X))[q]? =some v→w.cell? ((b.add (l*sz)).add q)=some v:=by
      intro n
      induction n with
      |zero=>intro l _ q v c;simp[mm]at c
      |succ n O=>
        intro l Q q v c
        rw[List.range'_succ,List.map_cons]at c
        unfold mm at c
        rw[List.flatMap_cons]at c
        rcases Nat.lt_or_ge q sz with u|D
        · rw[List.getElem?_append_left (by rw[t];exact u)]at c
          obtain⟨_,T,hc⟩:=World.cells?_some (F l (by omega)).1
          have j:=hc q u
          rw[j];exact c
        · rw[List.getElem?_append_right (by rw[t];exact D),t]at c
          have j:=O (l+1) (by omega) (q-sz) v c
          rw[Hc]at j⊢
          rw[show l*sz+q=(l+1)*sz+(q-sz) by rw[Nat.succ_mul];omega]
          exact j
    refine⟨(List.range len).map X,by simp,⟨fun _=>rfl,fun q v c=>?_⟩,fun x E=>?_⟩
    · have j:=C len 0 (by omega) q v (by rw[←List.range_eq_range'];exact c)
      simp only[Option.getD_some]
      rw[Nat.zero_mul,Nk]at j
      exact j
    · obtain⟨i,B,rfl⟩:=List.mem_map.1 E
      exact(F i<|by simpa using B).2
  · obtain rfl:len=0:=by omega
    exact⟨[],rfl,At.nil _ _,fun x E=>by cases E⟩
section
variable {r:Option Nat}{P:Program}{ops:Array Oper}{Q:Exit→Act→World→Prop}{K:Act→World→Prop}{S T:World→Prop}{A:List Nat}{k:Nat}{listed:Array Bool}{n:Nat}{ds:List Deferred}{f:Nat→Value}{o:Oper}{v:Value}{d i:Nat}
def Wa(P:Program)(ops:Array Oper)(K:Act→World→Prop)(S:World→Prop)(A:List Nat)(k:Nat)(listed:Array Bool)(n:Nat)(ds:List Deferred)(f:Nat→Value)(T:World→Prop):Prop:=
  ∀w,T w→Mq P .any ops K S A k listed (Fr n ds f) w
def Wo(P:Program)(ops:Array Oper)(K:Act→World→Prop)(S:World→Prop)(A:List Nat)(k:Nat)(listed:Array Bool)(i:Nat)(n:Nat)(ds:List Deferred)(f:Nat→Value)(T:World→Prop):Prop:=
  ∀w,T w→wpOp P ops E4 i (fun c b=>(Gb .any ops A i=true∨S b)∧Mq P .any ops K S A k (listed.setIfInBounds i true) c b) (Fr n ds f) w
theorem E5{b:Nat}{l:List Oper}(A:List Nat)(S:World→Prop)(c:P.follows .mixedOrders=true)(e:Mp l.toArray=true)
    (j: ∀w k,T w→T {w with drawn:=k}) (h:Wa P l.toArray (Q .normal) S A l.length (Array.replicate l.length false) n ds f T):W r P Q (.region b l.toArray true) n ds f T:=fun w hw=>by
  refine wpIn_region_any c ?_
  have q:=Oa (r:=r) (Q:=Q) e (fun _ _ h=>h) _ _ _ _ (h {w with drawn:=w.drawn+1} (j w _ hw))
  simpa using q
theorem Vt(g:Bool)(b:Region.noSelect ops=true)(q:A.contains i=true)(t:(Region.ready .any ops listed).contains i=true)(u:Region.free .any ops listed i=true)(c: ∀w,T w→S w)
    (j:ops[i]? =some o) (l:Region.wanted o (yl ops n f)=g) (x:o.dst=some d) (h:g=true→Ys P n S f o v) (e:Wa P ops K S A k (listed.setIfInBounds i true) n ds (Fg f d (bif g then v else undef)) T):Wa P ops K S A (k+1) listed n ds f T:=fun w hw=>by
  refine M9 (v:=bif g then v else undef) (by simpa using q) j (Region.noSelect_spec b) k listed _ w (Region.free_spec j u) (by simpa using t) ?_ (c w hw)<|by rw[x,Dy];exact e w hw
  cases g with
  |false=>exact .inr ⟨by rw[Dz];exact l,rfl⟩
  |true=>exact .inl ⟨by rw[Dz];exact l,by rw[Dj];exact h rfl⟩
theorem Wa.ys(b:Region.noSelect ops=true)(j:A.contains i=true)(l:(Region.ready .any ops listed).contains i=true)(q:Region.free .any ops listed i=true)(c: ∀w,T w→S w)
    (t:ops[i]? =some o) (u:o.guard=none) (x:o.dst=some d) (h:Ys P n S f o v) (e:Wa P ops K S A k (listed.setIfInBounds i true) n ds (Fg f d v) T):Wa P ops K S A (k+1) listed n ds f T:=
  Vt true b j l q c t (by simp[Region.wanted,u]) x (fun _=>h) e
theorem Ap8(b:Region.noSelect ops=true)(j:A.contains i=true)(l:(Region.ready .any ops listed).contains i=true)(q:Region.free .any ops listed i=true)(c: ∀w,T w→S w)
    (t:ops[i]? =some o) (u:Region.wanted o (yl ops n f)=false) (x:o.dst=some d) (e:Wa P ops K S A k (listed.setIfInBounds i true) n ds (Fg f d undef) T):Wa P ops K S A (k+1) listed n ds f T:=
  Vt (v:=undef) false b j l q c t u x (fun h=>by cases h) e
theorem A6(b:Region.ready .any ops listed=[i])(h:Wo P ops K S A k listed i n ds f T):Wa P ops K S A (k+1) listed n ds f T:=fun w hw=>
  ⟨fun c=>(by rw[b]at c;cases c),fun j e=>(by rw[b]at e;obtain rfl:j=i:=(by simpa using e);exact h w hw)⟩
theorem C9{j:Nat}(b:Region.ready .any ops listed=[i,j])(h:Wo P ops K S A k listed i n ds f T)(l:Wo P ops K S A k listed j n ds f T):Wa P ops K S A (k+1) listed n ds f T:=fun w hw=>
  ⟨fun c=>(by rw[b]at c;cases c),fun q e=>by
    rw[b]at e
    rcases(by simpa using e:q=i∨q=j)with rfl|rfl
    · exact h w hw
    · exact l w hw⟩
theorem Yt{j l:Nat}(b:Region.ready .any ops listed=[i,j,l])(h:Wo P ops K S A k listed i n ds f T)(t:Wo P ops K S A k listed j n ds f T)(u:Wo P ops K S A k listed l n ds f T):Wa P ops K S A (k+1) listed n ds f T:=fun w hw=>
  ⟨fun c=>(by rw[b]at c;cases c),fun q e=>by
    rw[b]at e
    rcases(by simpa using e:q=i∨q=j∨q=l)with rfl|rfl|rfl
    · exact h w hw
    · exact t w hw
    · exact u w hw⟩
theorem Ej(b:Region.ready .any ops listed=[])(h: ∀w,T w→K (Fr n ds f) w):Wa P ops K S A 0 listed n ds f T:=fun w hw=>⟨b,h w hw⟩
theorem Wa.conseq{T':World→Prop}(b: ∀w,T w→T' w)(h:Wa P ops K S A k listed n ds f T'):Wa P ops K S A k listed n ds f T:=fun w hw=>h w (b w hw)
theorem Wo.conseq{T':World→Prop}(b: ∀w,T w→T' w)(h:Wo P ops K S A k listed i n ds f T'):Wo P ops K S A k listed i n ds f T:=fun w hw=>h w (b w hw)
theorem An8{w0:World}{M:List Nat}{LL LL':List (List Blk)}(e:LL=LL')(h:Wa P ops K S A k listed n ds f (Mem w0 M LL')):Wa P ops K S A k listed n ds f (Mem w0 M LL):=by rwa[e]
theorem Wo.yc(j:ops[i]? =some o)(l:o.guard=none)(q:o.dst=some d)(h:Yc P n T f o v)(c:Gb .any ops A i=true∨ ∀w,T w→S w)(t:Wa P ops K S A k (listed.setIfInBounds i true) n ds (Fg f d v) T):Wo P ops K S A k listed i n ds f T:=fun w u=>by
  unfold wpOp
  simp only[j]
  rw[if_pos (by simp[Region.wanted,l])]
  exact .inl<|h ds w u _ fun e b=>⟨c.imp_right fun h=>h e b,by rw[q,Dy];exact t e b⟩
theorem Am9(g:Bool)(t:ops[i]? =some o)(u:Region.wanted o (yl ops n f)=g)(j:o.dst=some d)(h:g=true→Yc P n T f o v)(b:Gb .any ops A i=true∨ ∀w,T w→S w)(l:Wa P ops K S A k (listed.setIfInBounds i true) n ds (Fg f d (bif g then v else undef)) T):Wo P ops K S A k listed i n ds f T:=fun w e=>by
  unfold wpOp
  simp only[t]
  rw[Dz,u]
  cases g with
  |false=>simp only[Bool.false_eq_true,if_false];exact⟨b.imp_right fun h=>h w e,by rw[j,Dy];exact l w e⟩
  |true=>rw[if_pos rfl];exact .inl (h rfl ds w e _ fun q c=>⟨b.imp_right fun h=>h q c,by rw[j,Dy];exact l q c⟩)
theorem An9(e:ops[i]? =some o)(j:Region.wanted o (yl ops n f)=false)(l:o.dst=some d)(b:Gb .any ops A i=true∨ ∀w,T w→S w)(q:Wa P ops K S A k (listed.setIfInBounds i true) n ds (Fg f d undef) T):Wo P ops K S A k listed i n ds f T:=fun w c=>by
  unfold wpOp
  simp only[e]
  rw[Dz,j]
  simp only[Bool.false_eq_true,if_false];exact⟨b.imp_right fun h=>h w c,by rw[l,Dy];exact q w c⟩
theorem Cp{β:Type}{j:β→Nat→Value}{T':β→World→Prop}(q:ops[i]? =some o)(t:o.guard=none)(h:Ht P n T f o j T')(e:Gb .any ops A i=true∨ ∀b w,T' b w→S w)(u: ∀b,Wa P ops K S A k (listed.setIfInBounds i true) n ds (j b) (T' b)):Wo P ops K S A k listed i n ds f T:=fun w x=>by
  unfold wpOp
  simp only[q]
  rw[if_pos (by simp[Region.wanted,t])]
  exact .inl<|h ds w x _ fun b l c=>⟨e.imp_right fun h=>h b l c,u b l c⟩
theorem Akk{β:Type}{j:β→Nat→Value}{T':β→World→Prop}(q:ops[i]? =some o)(hw:Region.wanted o (yl ops n f)=true)(h:Ht P n T f o j T')(e:Gb .any ops A i=true∨ ∀b w,T' b w→S w)(t: ∀b,Wa P ops K S A k (listed.setIfInBounds i true) n ds (j b) (T' b)):Wo P ops K S A k listed i n ds f T:=fun w u=>by
  unfold wpOp
  simp only[q]
  rw[Dz,if_pos hw]
  exact .inl<|h ds w u _ fun b l c=>⟨e.imp_right fun h=>h b l c,t b l c⟩
theorem B7{β:Type}{Φ:β→Prop}{e:β→Nat→Value}{T':β→World→Prop}(j:ops[i]? =some o)(l:o.guard=none)(h:HtS P n T f o Φ e T')(c:Gb .any ops A i=true∨ ∀b w,T' b w→S w)(q: ∀b,Φ b→Wa P ops K S A k (listed.setIfInBounds i true) n ds (e b) (T' b)):Wo P ops K S A k listed i n ds f T:=
  Cp j l h (c.imp_right fun h b w=>h b.1 w) fun b=>q b.1 b.2
theorem Ap9{β:Type}{Φ:β→Prop}{e:β→Nat→Value}{T':β→World→Prop}(j:ops[i]? =some o)(hw:Region.wanted o (yl ops n f)=true)(h:HtS P n T f o Φ e T')(c:Gb .any ops A i=true∨ ∀b w,T' b w→S w)(l: ∀b,Φ b→Wa P ops K S A k (listed.setIfInBounds i true) n ds (e b) (T' b)):Wo P ops K S A k listed i n ds f T:=
  Akk j hw h (c.imp_right fun h b w=>h b.1 w) fun b=>l b.1 b.2
end
theorem Yu{cs ys r cs':List Value}{k:Nat}(b:k+ys.length≤cs.length)(e:Bt cs k ys=cs'):Bt (cs++r) k ys=cs'++r:=by
  subst e
  unfold Bt
  rw[List.take_append_of_le_length (by omega),List.drop_append_of_le_length (by omega)]
  simp
end Go.Proofs.YtmonlaoaengfdaaGreatDoor.Base
namespace Go.Proofs.YtmonlaoaengfdaaGreatDoor.Base
open Go.RowKit
def Rn:Value→Value→Bool
  | .int _ a,.int _ b=>a==b
  | .bool a,.bool b=>a==b
  | .string a,.string b=>a==b
  |_,_=>false
def Dk:List Value→List Value→Bool
  | [],[]=>true
  |x::xs,y::ys=>Rn x y&&Dk xs ys
  |_,_=>false
theorem Ij: ∀{a b c b':List Value},a.length=b.length→Dk (a++c) (b++b')=(Dk a b&&Dk c b')
  | [],[],_,_,_=>by simp[Dk]
  |x::a,y::b,c,b',h=>by
    simp only[List.cons_append,Dk,Ij (a:=a) (b:=b) (by simpa using h),Bool.and_assoc]
  | [],_::_,_,_,h=>by cases h
  |_::_,[],_,_,h=>by cases h
inductive Lf where
  |int (k:IntKind)
  |bool
  |string
def Sy:Lf→Value→Prop
  | .int k,v=> ∃n,v=.int k n
  | .bool,v=> ∃b,v=.bool b
  | .string,v=> ∃s,v=.string s
def Gd(r:TypeId→Option (List Lf))(P:Program)(total:Nat):List Field→Nat→Option (List Lf)
  | [],off=>if off=total then some []else none
  |f::fs,off=>if f.offset=off∧(f.name≠ "_")then(r f.type).bind fun a=>if a.length=P.cellsOf f.type then(Gd r P total fs (off+a.length)).map (a++ ·)else none else none
def Mv(P:Program)(t:TypeId):Bool:=
  match P.underlying t with
  |some (.struct _)|some (.array _ _)=>true
  |_=>false
def Kj(P:Program):Nat→TypeId→Option (List Lf)
  |0,_=>none
  |k+1,t=>match P.underlying t with
    |some .bool=>if P.cellsOf t=1 then some [.bool]else none
    |some (.int k)=>if P.cellsOf t=1 then some [.int k]else none
    |some .string=>if P.cellsOf t=1 then some [.string]else none
    |some (.struct fs)=>if P.stoodInHeld t=false then Gd (Kj P k) P (P.cellsOf t) fs.toList 0 else none
    |some (.array n e)=>(Kj P k e).bind fun a=>if a.length=P.cellsOf e∧n*a.length=P.cellsOf t then some (List.replicate n a).flatten else none
    |_=>none
def mkV(P:Program)(t:TypeId)(cs:List Value):Value:=if Mv P t then .agg cs.toArray else cs.headD undef
theorem F2.length{α β:Type}{R:α→β→Prop}: ∀{a:List α} {b:List β},F2 R a b→a.length=b.length
  | [],[],_=>rfl
  |_::_,_::_,h=>by simp[F2.length h.2]
  | [],_::_,h=>h.elim
  |_::_,[],h=>h.elim
theorem F2.split{α β:Type}{R:α→β→Prop}: ∀{a b:List α} {l:List β},F2 R (a++b) l→F2 R a (l.take a.length)∧F2 R b (l.drop a.length)
  | [],_,_,h=>⟨by simp[F2],by simpa using h⟩
  |x::a,b,[],h=>by simp[F2]at h
  |x::a,b,y::l,h=>by
    have c:F2 R (a++b) l:=h.2
    obtain⟨e,j⟩:=F2.split c
    exact⟨⟨h.1,e⟩,j⟩
section
variable {P:Program}
theorem Xd(t:TypeId)(d:TypeDesc)(b:P.underlying t=some d)(w:World):(isAgg t).run P w=.ok (Mv P t) w:=by
  unfold isAgg
  rw[Sem.run_bind,run_underlying b w]
  cases d<;>simp[Mv,b]
theorem No(t:TypeId)(d:TypeDesc)(q:P.underlying t=some d)(xs:List Value)(b:Nat)(c:List Value)(hc:(xs.drop b).take (P.cellsOf t)=c)(l:c.length=P.cellsOf t)(u:Mv P t=false→P.cellsOf t=1)(h:(P.info? t).isSome)(w:World):
    (part t xs.toArray b).run P w=.ok (mkV P t c) w:=by
  unfold part
  rw[Sem.run_bind,Xd t d q w]
  simp only[Result.andThen_ok]
  cases j:Mv P t with
  |true=>
    obtain⟨i,h⟩:=Option.isSome_iff_exists.1 h
    have B:P.cellsOf t=i.size:=by simp[Program.cellsOf,h]
    have e:xs.toArray.extract b (b+P.cellsOf t)=c.toArray:=by
      rw[List.extract_toArray,List.extract_eq_take_drop,Nat.add_sub_cancel_left,hc]
    simp[sizeOf,typeInfo,h,mkV,j,←B]
    exact hc
  |false=>
    have C:=u j
    rw[C]at l hc
    match c,l with
    | [x],_=>
      have:xs[b]? =some x:=by
        have D:((xs.drop b).take 1)[0]? =some x:=by rw[hc];rfl
        simpa using D
      simp[this,mkV,j]
def Akl(P:Program)(k:Nat):Prop:= ∀(t:TypeId) (c:List Lf),Kj P k t=some c→c.length=P.cellsOf t∧(Mv P t=false→P.cellsOf t=1)∧(∃d,P.underlying t=some d)∧
  ∀(d:Nat),k≤d→ ∀(cs b:List Value) (w:World),F2 Sy c cs→F2 Sy c b→(Op.equalIn d t (mkV P t cs) (mkV P t b)).run P w=.ok (Dk cs b) w
theorem Ek{t:TypeId}{d:TypeDesc}(h:P.underlying t=some d):(P.info? t).isSome:=by
  cases b:P.info? t with
  |some i=>rfl
  |none=>
    simp[Program.underlying,b]at h
theorem O2{k d total:Nat}(t:Akl P k)(u:k≤d){xs ys:List Value}(x:xs.length=total)(B:ys.length=total): ∀(e:List Field) (b:Nat) (ls:List Lf) (w:World),Gd (Kj P k) P total e b=some ls→
    F2 Sy ls (xs.drop b)→F2 Sy ls (ys.drop b)→(Op.eqFields d xs.toArray ys.toArray e).run P w=.ok (Dk (xs.drop b) (ys.drop b)) w
  | [],b,ls,w,h,hF,hG=>by
    simp only[Gd]at h
    split at h
    · rename_i ho
      have N:xs.drop b=[]:=by rw[ho,←x,List.drop_length]
      have O:ys.drop b=[]:=by rw[ho,←B,List.drop_length]
      rw[N,O]
      rfl
    · cases h
  |f::e,b,ls,w,h,hF,hG=>by
    simp only[Gd]at h
    split at h
    · rename_i ho
      obtain⟨a,R,h⟩:=Option.bind_eq_some_iff.1 h
      split at h
      · rename_i hl
        obtain⟨l,U,rfl⟩:=Option.map_eq_some_iff.1 h
        obtain⟨c,C,⟨D,j⟩,q⟩:=t f.type a R
        obtain⟨E,F⟩:=hF.split
        obtain⟨G,I⟩:=hG.split
        rw[List.drop_drop]at F I
        have J:=E.length
        have L:=G.length
        have V:=No (P:=P) f.type D j xs f.offset ((xs.drop b).take a.length) (by rw[ho.1,c]) (by rw[←J,c]) C (Ek j) w
        have X:=No (P:=P) f.type D j ys f.offset ((ys.drop b).take a.length) (by rw[ho.1,c]) (by rw[←L,c]) C (Ek j) w
        have Y:=q d u _ _ w E G
        have Z:=O2 t u x B e (b+a.length) l w U F I
        have ex:xs.drop b=(xs.drop b).take a.length++xs.drop (b+a.length):=by rw[←List.drop_drop,List.take_append_drop]
        have ey:ys.drop b=(ys.drop b).take a.length++ys.drop (b+a.length):=by rw[←List.drop_drop,List.take_append_drop]
        rw[ex,ey,Ij (by rw[←J,←L])]
        simp only[Op.eqFields,ho.2,if_true,Sem.run_bind,V,X,Y,Result.andThen_ok,ne_eq,not_false_eq_true]
        cases hb:Dk ((xs.drop b).take a.length) ((ys.drop b).take a.length)with
        |true=>simpa using Z
        |false=>simp
      · cases h
    · cases h
theorem S9{k d c n:Nat}{e:TypeId}{a:List Lf}(q:Akl P k)(t:Kj P k e=some a)(u:k≤d)(hc:P.cellsOf e=c){xs ys:List Value}(x:xs.length=n*c)(B:ys.length=n*c): ∀(m i:Nat) (w:World),i+m=n→
    F2 Sy (List.replicate m a).flatten (xs.drop (i*c))→F2 Sy (List.replicate m a).flatten (ys.drop (i*c))→
    (Op.eqItems d e c xs.toArray ys.toArray (List.range' i m)).run P w=.ok (Dk (xs.drop (i*c)) (ys.drop (i*c))) w
  |0,i,w,h,hF,hG=>by
    have N:xs.drop (i*c)=[]:=by rw[show i=n by omega,←x,List.drop_length]
    have O:ys.drop (i*c)=[]:=by rw[show i=n by omega,←B,List.drop_length]
    rw[N,O]
    rfl
  |m+1,i,w,h,hF,hG=>by
    obtain⟨b,C,⟨D,j⟩,l⟩:=q e a t
    rw[List.replicate_succ,List.flatten_cons]at hF hG
    obtain⟨E,F⟩:=hF.split
    obtain⟨G,I⟩:=hG.split
    rw[b,hc,List.drop_drop,←Nat.succ_mul]at F I
    have J:=E.length
    have L:=G.length
    have R:=No (P:=P) e D j xs (i*c) ((xs.drop (i*c)).take a.length) (by rw[b]) (by rw[←J,b]) C (Ek j) w
    have U:=No (P:=P) e D j ys (i*c) ((ys.drop (i*c)).take a.length) (by rw[b]) (by rw[←L,b]) C (Ek j) w
    have V:=l d u _ _ w E G
    have X:=S9 q t u hc x B m (i+1) w (by omega) F I
    have Y:xs.drop (i*c)=(xs.drop (i*c)).take a.length++xs.drop ((i+1)*c):=by rw[b,hc,Nat.succ_mul,←List.drop_drop,List.take_append_drop]
    have Z:ys.drop (i*c)=(ys.drop (i*c)).take a.length++ys.drop ((i+1)*c):=by rw[b,hc,Nat.succ_mul,←List.drop_drop,List.take_append_drop]
    rw[Y,Z,Ij (by rw[←J,←L]),List.range'_succ]
    simp only[Op.eqItems,Sem.run_bind,R,U,V,Result.andThen_ok]
    cases hb:Dk ((xs.drop (i*c)).take a.length) ((ys.drop (i*c)).take a.length)with
    |true=>simpa using X
    |false=>simp
theorem Jm{r:TypeId→Option (List Lf)}{total:Nat}: ∀{c:List Field} {b:Nat} {ls:List Lf},Gd r P total c b=some ls→b+ls.length=total
  | [],b,ls,h=>by
    simp only[Gd]at h
    split at h
    · obtain rfl:=Option.some.inj h;simpa
    · cases h
  |f::c,b,ls,h=>by
    simp only[Gd]at h
    split at h
    · obtain⟨a,l,h⟩:=Option.bind_eq_some_iff.1 h
      split at h
      · obtain⟨e,j,rfl⟩:=Option.map_eq_some_iff.1 h
        have:=Jm j
        simp only[List.length_append]
        omega
      · cases h
    · cases h
theorem Ro: ∀k,Akl P k
  |0=>fun t R h=>by simp[Kj]at h
  |k+1=>fun t R h=>by
    have J:=Ro k
    simp only[Kj]at h
    split at h
    · rename_i l
      split at h
      · rename_i C
        obtain rfl:=Option.some.inj h
        refine⟨C.symm,fun _=>C,⟨_,l⟩,fun d I cs j w x B=>?_⟩
        obtain⟨d,rfl⟩: ∃e,d=e+1:=⟨d-1,by omega⟩
        match cs,j,x,B with
        | [_],[_],⟨⟨a,rfl⟩,_⟩,⟨⟨b,rfl⟩,_⟩=>
          simp only[mkV,Mv,l,Bool.false_eq_true,if_false,List.headD_cons,run_equalIn_bool' w d t a b l]
          simp[Dk,Rn]
      · cases h
    · rename_i l
      split at h
      · rename_i C
        obtain rfl:=Option.some.inj h
        refine⟨C.symm,fun _=>C,⟨_,l⟩,fun d I cs j w x B=>?_⟩
        obtain⟨d,rfl⟩: ∃e,d=e+1:=⟨d-1,by omega⟩
        match cs,j,x,B with
        | [_],[_],⟨⟨a,rfl⟩,_⟩,⟨⟨b,rfl⟩,_⟩=>
          simp only[mkV,Mv,l,Bool.false_eq_true,if_false,List.headD_cons,run_equalIn_int w d t _ _ a b l]
          simp[Dk,Rn]
      · cases h
    · rename_i l
      split at h
      · rename_i C
        obtain rfl:=Option.some.inj h
        refine⟨C.symm,fun _=>C,⟨_,l⟩,fun d I cs j w x B=>?_⟩
        obtain⟨d,rfl⟩: ∃e,d=e+1:=⟨d-1,by omega⟩
        match cs,j,x,B with
        | [_],[_],⟨⟨a,rfl⟩,_⟩,⟨⟨b,rfl⟩,_⟩=>
          simp only[mkV,Mv,l,Bool.false_eq_true,if_false,List.headD_cons]
          rw[run_equalIn_string w d t a b l,←beq_toListBytes]
          simp[Dk,Rn]
      · cases h
    · rename_i U l
      split at h
      · rename_i My
        have q:=Jm h
        rw[Nat.zero_add]at q
        have u:Mv P t=true:=by simp[Mv,l]
        refine⟨q,fun E=>(by rw[u]at E;cases E),⟨_,l⟩,fun d I cs j w x B=>?_⟩
        obtain⟨d,rfl⟩: ∃e,d=e+1:=⟨d-1,by omega⟩
        have F:P.fieldsOf t=U:=by simp[Program.fieldsOf,l]
        have L:=run_equalIn_struct (P:=P) w d t cs.toArray j.toArray (by rw[F];exact l) My
        have N:=O2 (P:=P) J (d:=d) (by omega) (xs:=cs) (ys:=j) (total:=P.cellsOf t) (by rw[←x.length,q]) (by rw[←B.length,q]) U.toList 0 R w h (by simpa using x) (by simpa using B)
        simp only[mkV,u,if_true]
        rw[L,F,N]
        simp
      · cases h
    · rename_i n e l
      obtain⟨a,V,h⟩:=Option.bind_eq_some_iff.1 h
      split at h
      · rename_i G
        obtain rfl:=Option.some.inj h
        obtain⟨q,Z,⟨dd,O⟩,X⟩:=J e a V
        have D:(List.replicate n a).flatten.length=P.cellsOf t:=by rw[←G.2];simp
        have u:Mv P t=true:=by simp[Mv,l]
        refine⟨D,fun E=>(by rw[u]at E;cases E),⟨_,l⟩,fun d I cs j w x B=>?_⟩
        obtain⟨d,rfl⟩: ∃e,d=e+1:=⟨d-1,by omega⟩
        obtain⟨i,Y⟩:=Option.isSome_iff_exists.1 (Ek O)
        have L:=run_equalIn_array (P:=P) w d cs.toArray j.toArray l Y
        have N:=S9 (P:=P) J V (d:=d) (c:=P.cellsOf e) (n:=n) (by omega) rfl (xs:=cs) (ys:=j) (by rw[←x.length,D,←G.2,G.1]) (by rw[←B.length,D,←G.2,G.1]) n 0 w (by omega) (by simpa using x) (by simpa using B)
        simp only[mkV,u,if_true]
        rw[L,List.range_eq_range',N]
        simp
      · cases h
    · cases h
theorem Agp{t:TypeId}{ls:List Lf}{cs cs':List Value}{x y:Operand}(b:Kj P 100 t=some ls)(c:Mv P t=true)(e:P.eqGuardType P.depth t=false)(j:F2 Sy ls cs)(l:F2 Sy ls cs')(w:World):
    (do eqGuard .eql t x y (.agg cs.toArray) (.agg cs'.toArray);binOp .eql t (.agg cs.toArray) (.agg cs'.toArray):Sem Value).run P w=.ok (.bool (Dk cs cs')) w:=by
  have h:=(Ro (P:=P) 100 t ls b).2.2.2 10000 (by decide) cs cs' w j l
  simp only[mkV,c,if_true]at h
  rw[Sem.run_bind,run_eqGuard_agg w .eql t x y cs.toArray cs'.toArray e]
  simp only[Result.andThen_ok,run_eql_struct,h]
variable {S:World→Prop}{n:Nat}{f:Nat→Value}{o:Oper}{b:Bool}
theorem Ab9{t ty:TypeId}{ls:List Lf}{cs cs':List Value}{x y:Operand}(c:o.op=.binOp .eql t x y ty)(e:ev n f x=.agg cs.toArray)(h:ev n f y=.agg cs'.toArray)(j:Kj P 100 t=some ls)(l:Mv P t=true)(q:P.eqGuardType P.depth t=false)(u:F2 Sy ls cs)(B:F2 Sy ls cs')(C:Dk cs cs'=b):
    Ys P n S f o (.bool b):=Ys.pure fun w=>by
  subst C
  have:=Agp (P:=P) (x:=x) (y:=y) j l q u B w
  simp only[execOp,c,e,h]
  rw[Sem.run_bind,this]
  rfl
end
section
variable {S:World→Prop}{P:Program}{n:Nat}{f:Nat→Value}{o:Oper}
end
end Go.Proofs.YtmonlaoaengfdaaGreatDoor.Base
namespace Go.Proofs.YtmonlaoaengfdaaGreatDoor.Base
open Go.RowKit
section
variable {P:Program}{n:Nat}{S:World→Prop}{f:Nat→Value}{r:Option Nat}{ops:Array Oper}{K:Act→World→Prop}{ds:List Deferred}
theorem Vu{l:List Oper}(t:Nat){v0:Value}(h:f t=v0)(c:Wl r P ops K l n ds (Fg f t v0) S):Wl r P ops K l n ds f S:=by rwa[K7 h]at c
theorem Aca{l:List Oper}(e:Bool)(c:e=true→Wl r P ops K l n ds f S)(h:e=false→Wl r P ops K l n ds f S):Wl r P ops K l n ds f S:=by
  cases e
  · exact h rfl
  · exact c rfl
theorem Hg{T:World→Prop}{A:List Nat}{pl:List (Nat×Bool)}(t:Nat){v0:Value}(h:f t=v0)(c:Wd P ops K S A pl n ds (Fg f t v0) T):Wd P ops K S A pl n ds f T:=by rwa[K7 h]at c
theorem Vv{T:World→Prop}{A:List Nat}{pl:List (Nat×Bool)}(e:Bool)(c:e=true→Wd P ops K S A pl n ds f T)(h:e=false→Wd P ops K S A pl n ds f T):Wd P ops K S A pl n ds f T:=by
  cases e
  · exact h rfl
  · exact c rfl
theorem Ef{γ:Type}{w0:World}{M:List Nat}{T:World→Prop}{A:List Nat}{k:Nat}{listed:Array Bool}(ks:List Nat)(vs:γ→List Value)(Φ:γ→Prop)(Lf:γ→List (List Blk))(k':Nat)(c:Array Bool)
    (h: ∀g,Φ g→ ∀e,Wa P ops K S A k' c n ds (Hb (ks.zip (vs g)) e) (Mem w0 M (Lf g)))
    (j:(∀g,Φ g→ ∀e,Wa P ops K S A k' c n ds (Hb (ks.zip (vs g)) e) (Mem w0 M (Lf g)))→Wa P ops K S A k listed n ds f T):Wa P ops K S A k listed n ds f T:=j h
theorem Ck{T T':World→Prop}{A:List Nat}{k:Nat}{listed:Array Bool}(ks:List Nat)(vs:List Value)(c:Array Bool)(h: ∀j,Wa P ops K S A k c n ds (Hb (ks.zip vs) j) T')(l:ks.map f=vs)(q:listed=c)(t: ∀w,T w→T' w):Wa P ops K S A k listed n ds f T:=by
  have e:=h f
  rw[F6 (Eh l)]at e
  rw[q]
  exact e.conseq t
theorem Kx{x:Value}{e b:Bool}(c:x=.bool e)(h:e=b):x=.bool b:=by rw[c,h]
end
end Go.Proofs.YtmonlaoaengfdaaGreatDoor.Base
namespace Go.Proofs.YtmonlaoaengfdaaGreatDoor.Base
open Go.RowKit
section
variable {r:Option Nat}{P:Program}{ops:Array Oper}{Q:Exit→Act→World→Prop}{K:Act→World→Prop}{S:World→Prop}{n:Nat}{ds:List Deferred}{f:Nat→Value}{o:Oper}{rest:List Oper}{v:Value}{d:Nat}{w0 w:World}{M:List Nat}{LL LL':List (List Blk)}{s s':List Blk}{i j i' j' b b':Nat}{a:Option Addr}{cs cs':List Value}
theorem I3{t e:TypeId}{x l h m:Operand}{len cap sz:Nat}{k k' k'':IntKind}{i j q:Int}(c:o.op=.slice t x (some l) (some h) (some m))(C:ev n f x=.slice a len cap)(D:ev n f l=.int k i)(E:ev n f h=.int k' j)(F:ev n f m=.int k'' q)
    (G: ∀w,(underlying t).run P w=.ok (.slice e) w) (I: ∀w,(sizeOf e).run P w=.ok sz w) (J:0≤i) (L:i≤j) (N:j≤q) (O:q≤cap):Ys P n S f o (.slice (Ds a q.toNat i.toNat sz) (j.toNat-i.toNat) (q.toNat-i.toNat)):=Ys.pure fun w=>by
  obtain⟨j,rfl⟩:=Int.eq_ofNat_of_zero_le (show 0≤j by omega)
  obtain⟨q,rfl⟩:=Int.eq_ofNat_of_zero_le (show 0≤q by omega)
  have u:j≤q:=by omega
  have B:q≤cap:=by omega
  simp[execOp,c,C,D,E,F,Instr.sliceAt,Instr.slice,G,Instr.sliceBounds,Instr.sliceBound,asIntOf,J,L,u,B,I,Ds]
theorem Hh{b cap k sz:Nat}(h:k<cap):Ds (some ⟨b,0,none⟩) cap k sz=some ⟨b,k*sz,none⟩:=by
  unfold Ds;rw[if_neg (by omega)];simp[add_lit]
theorem At.dropN{w:World}{a:Option Addr}{cs:List Value}(h:At w a cs){cap k sz:Nat}(c:k<cap):At w (Ds a cap k sz) (cs.drop (k*sz)):=by
  unfold Ds;rw[if_neg (by omega)]
  have:=h.sub (k*sz) cs.length
  rwa[List.take_of_length_le (by simp)]at this
theorem At.dropT{w:World}{a:Option Addr}{cs:List Value}(h:At w a cs){cap k m sz:Nat}(c:k<cap∨m=0):At w (Ds a cap k sz) ((cs.drop (k*sz)).take (m*sz)):=by
  rcases c with c|rfl
  · exact(h.dropN c).take _
  · rw[Nat.zero_mul,List.take_zero];exact At.nil _ _
theorem Mem.shape(h:Mem w0 M LL w){t:TypeId}(c:LL[i]? =some s)(e:s[j]? =some (cb b cs t)):w.shape? b=some (t,cs.length):=by
  have:=h.at c e
  simp only at this
  simp[World.shape?,this]
theorem Mem.apart(h:Mem w0 M LL w)(q:LL[i]? =some s)(c:LL[i']? =some s'){p p':Blk}(e:i≠i')(t:s[j]? =some p)(l:s'[j']? =some p'):p.b≠p'.b:=by
  have u:=(Mr.1 (Mem0.nodup h)).2
  have:=Rd u e
  rw[q,c]at this
  exact this p (List.mem_of_getElem? t) p'<|List.mem_of_getElem? l
theorem I4{k:FuncId}{fn:Func}{tS tR e:TypeId}{sz la ca lb cp o1 o2:Nat}{t t':TypeId}(E: ∀w,(execOp (ev n f) o).run P w=(callFunc k #[.slice (some ⟨b,o1,none⟩) la ca,.slice (some ⟨b',o2,none⟩) lb cp]).run P w)(F:P.funcs[k]? =some fn)
    (c:(fn.name== "runtime.NumGoroutine")=false) (G:fn.body.isNone=true) (B:Extern.findNext fn=none) (I:Extern.find fn=some (Extern.SlicesOverlaps.overlaps #[tS,tS] #[tR])) (J:P.underlying tS=some (.slice e)) (L: ∀w,(Go.sizeOf e).run P w=.ok sz w)
    (C:i≠i') (u:LL[i]? =some s) (x:s[j]? =some (cb b cs t)) (h:LL[i']? =some s') (l:s'[j']? =some (cb b' cs' t')) (R:0<cs'.length):Ys P n (Mem w0 M LL) f o (.bool false):=Rh fun w q=>by
  obtain⟨D,N⟩: ∃D,D=cs'.length:=⟨_,rfl⟩
  have O:=Lib.run_overlaps_apart (P:=P) w tS tR e J sz L ⟨b,o1,none⟩ ⟨b',o2,none⟩ la ca lb cp (q.apart u h C x l) t t' cs.length cs'.length (q.shape u x) (q.shape h l) (by omega) (q.free u x) (q.free u x)
  rw[E,run_callFunc_extern F c G B I,O];rfl
theorem I5{t u e:TypeId}{eu:TypeId}{ii:TypeInfo}{x y:Operand}{xv:Value}{nn m k cap sz:Nat}{ty:TypeId}{news:List Value}(I:o.dst=some d)
    (ho:o.op=.call {callee:=.builtin .append,args:= #[x,y],argTypes:= #[t,u]}) (J:P.underlying t=some (.slice e)) (L:P.underlying u=some (.slice eu)) (N:P.info? e=some ii) (c:ii.size=sz)
    (O:ev n f x=.slice (some ⟨b,0,none⟩) nn cap) (R:ev n f y=xv) (U:LL[i]? =some s) (V:s[j]? =some (cb b cs ty)) (l: ∀w,(Builtin.lenOf xv).run P w=.ok m w) (X:nn+m=k) (h:k≤cap) (q:Src P (Mem w0 M LL) sz m xv news)
    (Y:nn*sz+news.length≤cs.length) (Z: ∀v∈news,v.oneCell'=true) (hcs:Bt cs (nn*sz) news=cs') (C:LL.set i (s.set j (cb b cs' ty))=LL'):
    Ht (β:=Unit) P n (Mem w0 M LL) f o (fun _=>Fg f d (.slice (some ⟨b,0,none⟩) k cap)) (fun _=>Mem w0 M LL'):=fun ds w E K hK=>by
  subst c;subst X
  obtain⟨F,My,G⟩:=Fs (P:=P) E news (nn*ii.size) 0 U V Y Z
  rw[hcs,C]at G
  have hs:=q w E
  have D:=run_underlying (P:=P) L
  have B:(Builtin.append_ #[t,u] o.type #[ev n f x,ev n f y]).run P w=.ok (.slice (some ⟨b,0,none⟩) (nn+m) cap) F:=by
    simp[Builtin.append_,O,R,run_underlying J,D,sizeOf,typeInfo,N,l,h,hs,Addr.add_lit,My]
  unfold Oper.wp execOp
  simp only[ho,resolve,invoke,builtin,Sem.run_bind,Sem.run_pure,Result.andThen_ok,List.map_toArray,List.map_cons,List.map_nil,Dj,B]
  simp only[Oper.upon,I,Dy]
  exact hK () F G
theorem Kk{LL':Nat→List Value→List (List Blk)}{t u e:TypeId}{ii:TypeInfo}{z:Value}{ku:IntKind}{x y:Operand}{nn m k cap sz bytes:Nat}{lv:Int}{xs:List Value}{kk:IntKind}(hd:o.dst=some d)
    (ho:o.op=.call {callee:=.builtin .append,args:= #[x,y],argTypes:= #[t,u]}) (ht:P.underlying t=some (.slice e)) (hu:P.underlying u=some (.int ku)) (hi:P.info? e=some ii) (hz:ii.zero=some z)
    (l:ii.size=sz) (N:ii.bytes=bytes) (D:z.cells.size=sz) (hx:ev n f x=.slice a nn cap) (hy:ev n f y=.int kk lv) (hm:lv=((m:Nat):Int)) (O: ∀w,Mem w0 M LL w→At w a xs) (U:xs.length=nn*sz)
    (hk:nn+m=k) (ae:nn≤cap) (ar:cap<k) (au:k≤1000000000) (c:k*bytes≤140737488355328) (V: ∀(b:Nat) (R:List Value),[cb b (xs++R) e]::LL=LL' b R):
    Ht (β:={q:Nat×Nat×List Value//k≤q.2.1∧q.2.1≤maxLen∧q.2.2.length+nn*sz=q.2.1*sz}) P n (Mem w0 M LL) f o (fun q=>Fg f d (.slice (some ⟨q.1.1,0,none⟩) k q.1.2.1)) (fun q=>Mem w0 M (LL' q.1.1 q.1.2.2)):=fun ds w hS K hK=>by
  subst N;subst hk;subst hm;subst l
  have X:=run_underlying (P:=P) hu
  have hn: ¬(nn+m≤cap):=by omega
  have E: ¬(9223372036854775807<((nn:Int)+(m:Int))):=by omega
  have Y:Builtin.nextslicecap (nn+m) cap*ii.bytes≤281474976710656:=growslice_fits (by omega) c
  have F: ¬(281474976710656<Builtin.nextslicecap (nn+m) cap*ii.bytes):=by omega
  have Z:IntKind.i64.wrap ((m:Nat):Int)=((m:Nat):Int):=Dg (by omega) (by omega)
  have ax:m*ii.bytes≤140737488355328:=Nat.le_trans (Nat.mul_le_mul_right _ (by omega)) c
  have G: ¬(281474976710656<((m:Nat):Int)*((ii.bytes:Nat):Int)):=by rw[←Int.natCast_mul];omega
  have I: ¬(((m:Nat):Int)<0):=by omega
  have aa:(Builtin.firstCells ii.size nn (.slice a nn cap)).run P w.drew=.ok xs.toArray w.drew:=
    Src.at (P:=P) (S:=fun w'=>w'=w.drew) U (fun w' e=>by subst e;exact(O w hS).of_block fun _=>rfl) w.drew rfl
  have ab:=grownCap_ge w (nn+m) cap e
  have J:=grownCap_le_maxLen w (nn+m) cap e (by simp only[maxLen];omega)
  obtain⟨C,B⟩: ∃C:Array Value,C=if m*ii.size=0 then #[]else Builtin.zeroCells z.cells m:=⟨_,rfl⟩
  have ad:C.size=m*ii.size:=by
    rw[B];split
    · rename_i h;rw[h];rfl
    · rw[size_zeroCells,D]
  have L:(Builtin.append_ #[t,u] o.type #[ev n f x,ev n f y]).run P w=.ok (.slice (some ⟨w.heap.size,0,none⟩) (nn+m) (grownCap w (nn+m) cap e)) (w.drew.alloc (.cells (xs++(C.toList++(Builtin.zeroCells z.cells (grownCap w (nn+m) cap e-(nn+m))).toList)).toArray e)):=by
    simp only[hx,hy]
    simp[Builtin.append_,run_underlying ht,X,sizeOf,typeInfo,zeroValue,hi,hz,asInt,asIntOf,Z,I,G,hn,E,F,Question.forced,aa,newRow,grownCap]
    by_cases h:m*ii.size=0
    · rw[if_pos h,B,if_pos h]
      congr 3
      apply Array.ext';simp
    · rw[if_neg h,B,if_neg h]
      congr 3
      apply Array.ext';simp
  have h2:=(hS.drawn (w.drawn+1)).alloc (xs++(C.toList++(Builtin.zeroCells z.cells (grownCap w (nn+m) cap e-(nn+m))).toList)) e
  rw[V]at h2
  unfold Oper.wp execOp
  simp only[ho,resolve,invoke,builtin,Sem.run_bind,Sem.run_pure,Result.andThen_ok,List.map_toArray,List.map_cons,List.map_nil,Dj,L]
  simp only[Oper.upon,hd,Dy]
  refine hK ⟨(w.heap.size,grownCap w (nn+m) cap e,C.toList++(Builtin.zeroCells z.cells<|grownCap w (nn+m) cap e-(nn+m)).toList),ab,J,?_⟩ _ h2
  simp only[List.length_append,Array.length_toList,ad,size_zeroCells,D]
  rw[show m*ii.size+(grownCap w (nn+m) cap e-(nn+m))*ii.size+nn*ii.size=(nn+m+(grownCap w (nn+m) cap e-(nn+m)))*ii.size by rw[Nat.add_mul,Nat.add_mul];omega]
  rw[show nn+m+(grownCap w (nn+m) cap e-(nn+m))=grownCap w (nn+m) cap e by omega]
theorem La{t e:TypeId}{ii:TypeInfo}{z:Value}{x:Operand}{m cap o':Nat}{ty:TypeId}{zs:List Value}(B:o.dst=none)
    (ho:o.op=.call {callee:=.builtin .clear,args:= #[x],argTypes:= #[t]}) (C:P.underlying t=some (.slice e)) (D:P.info? e=some ii) (E:ii.zero=some z)
    (F:ev n f x=.slice (some ⟨b,o',none⟩) (m+1) cap) (G:LL[i]? =some s) (I:s[j]? =some (cb b cs ty)) (h:(Builtin.zeroCells z.cells (m+1)).toList=zs)
    (J:o'+zs.length≤cs.length) (L: ∀v∈zs,v.oneCell'=true) (hcs:Bt cs o' zs=cs') (l:LL.set i (s.set j (cb b cs' ty))=LL'):
    Ht (β:=Unit) P n (Mem w0 M LL) f o (fun _=>f) (fun _=>Mem w0 M LL'):=fun ds w N K O=>by
  subst h
  obtain⟨q,My,u⟩:=Fs (P:=P) N _ o' 0 G I J L
  rw[hcs,l]at u
  have c:(Builtin.clear_ #[t] o.type #[ev n f x]).run P w=.ok (.tuple #[]) q:=by
    simp[Builtin.clear_,F,run_underlying C,zeroValue,typeInfo,D,E,My]
  unfold Oper.wp execOp
  simp only[ho,resolve,invoke,builtin,Sem.run_bind,Sem.run_pure,Result.andThen_ok,List.map_toArray,List.map_cons,List.map_nil,Dj,c]
  simp only[Oper.upon,B,K6]
  exact O () q u
theorem Vw{t:TypeId}{x y:Operand}{g:FS}{q k:Nat}{ty:TypeId}(e:o.dst=none)(c:o.op=.store t x y)(h:ev n f x=.pointer (some ((Cs g.a q).add k)))(l:ev n f y=v)
    (u: ∀w,(sizeOf t).run P w=.ok 1 w) (B:v.oneCell'=true) (C:g.nil=false) (D:LL[i]? =some (g.seg ty cs)) (ho:q+k<cs.length) (hcs:cs.set (q+k) v=cs') (E:LL.set i (g.seg ty cs')=LL'):
    Ht (β:=Unit) P n (Mem w0 M LL) f o (fun _=>f) (fun _=>Mem w0 M LL'):=
  Ms (q:=q+k) e c (by rw[h];unfold Cs;rw[Hc]) l u B C D ho hcs E
end
section
variable {P:Program}{w0 w w':World}{M:List Nat}{LL:List (List Blk)}
theorem Kl(h:Mem w0 M LL w):Mem w (LL.flatten.map (·.b)) LL w:=Mem.local (R:=[]) (by rw[List.append_nil];exact h)
theorem Vx{v:Value}{e:Ending}(t:Mem w (LL.flatten.map (·.b)) LL w)(h:Bn w (fun _:Unit=>True) (fun _=>v) (LL.flatten.map (·.b)) (fun _=>LL) e w'):Df w v e w':=by
  obtain⟨_,_,u,c⟩:=h
  refine⟨u,c.os,c.tape,c.output,c.size,fun k x=>?_⟩
  by_cases l:k∈LL.flatten.map (·.b)
  · obtain⟨p,q,rfl⟩:=List.mem_map.1 l
    rw[Mem0.here c p q,Mem0.here t p q]
  · exact Mem0.same c k x l
theorem Np{k:FuncId}{args:Array Value}{v:Value}(c:Mem w (LL.flatten.map (·.b)) LL w)(h:Calls P k args w (Bn w (fun _:Unit=>True) (fun _=>v) (LL.flatten.map (·.b)) (fun _=>LL))):Calls P k args w (Df w v):=
  Calls.mono h fun _ _ h=>Vx c h
end
section
variable {r:Option Nat}{P:Program}{Q:Exit→Act→World→Prop}{n:Nat}{ds:List Deferred}{f:Nat→Value}{w0:World}{M:List Nat}{LL:List (List Blk)}
end
end Go.Proofs.YtmonlaoaengfdaaGreatDoor.Base
namespace Go.Proofs.YtmonlaoaengfdaaGreatDoor.Base
open Go.RowKit
theorem Rp{cs r vs:List Value}{o:Nat}(h:o+vs.length≤cs.length):Bt (cs++r) o vs=Bt cs o vs++r:=by
  unfold Bt
  rw[List.take_append_of_le_length (by omega),List.drop_append_of_le_length h];simp only[List.append_assoc]
theorem Nq{α:Type}{g:α→List Value}{sz:Nat}(c: ∀x,(g x).length=sz)(d y:α){k:Nat}{vs:List Value}(l:k+vs.length≤sz): ∀{xs:List α} {i:Nat},i<xs.length→g y=Bt (g (xs.getD i d)) k vs→
    Bt (mm g xs) (i*sz+k) vs=mm g (xs.set i y)
  | [],i,h,_=>by simp at h
  |x::xs,0,_,hy=>by
    simp only[List.getD_cons_zero]at hy
    rw[Nat.zero_mul,Nat.zero_add]
    show Bt (g x++mm g xs) k vs=g y++mm g xs
    rw[hy,Rp (by rw[c];exact l)]
  |x::xs,i+1,h,hy=>by
    simp only[List.getD_cons_succ]at hy
    have q:=Nq c d y l (i:=i) (by simpa using h) hy
    show Bt (g x++mm g xs) _ vs=g x++mm g (xs.set i y)
    rw[←q]
    unfold Bt
    have e:(i+1)*sz+k=(g x).length+(i*sz+k):=by rw[c,Nat.add_mul];omega
    rw[e,List.take_length_add_append,Nat.add_assoc,List.drop_length_add_append];simp only[List.append_assoc]
theorem Yv{α:Type}{g:α→List Value}{sz:Nat}(e: ∀x,(g x).length=sz)(d:α){xs:List α}{k:Nat}(h:k<xs.length)(c m:Nat){vs:List Value}(l:((g (xs.getD k d)).drop c).take m=vs): ∀j v,vs[j]? =some v→(mm g xs)[k*sz+c+j]? =some v:=fun j v q=>by
  rw[Nat.add_assoc];exact Db e d h (c+j) v (Lz l j v q)
section
variable {r:Option Nat}{P:Program}{S:World→Prop}{n:Nat}{f:Nat→Value}{o:Oper}{v:Value}{w0 w w1:World}{M:List Nat}{LL LL' L0:List (List Blk)}{i:Nat}{a:Option Addr}{cs cs' vs:List Value}
theorem O3{t:TypeId}{x y:Operand}{g:FS}{q k:Nat}{ty:TypeId}(B:o.dst=none)(c:o.op=.store t x y)(e:ev n f x=.pointer (some ((Cs g.a q).add k)))(C:ev n f y=.agg vs.toArray)
    (D: ∀w,(sizeOf t).run P w=.ok vs.length w) (E: ∀v∈vs,v.oneCell'=true) (h:g.nil=false) (l:LL[i]? =some (g.seg ty cs)) (ho:q+k+vs.length≤cs.length) (hcs:Bt cs (q+k) vs=cs') (u:LL.set i (g.seg ty cs')=LL'):
    Ht (β:=Unit) P n (Mem w0 M LL) f o (fun _=>f) (fun _=>Mem w0 M LL'):=by
  rw[Ie h]at l u
  rw[Ab2 h,add_lit]at e
  exact S5 (o':=q+k) (j:=0) B c e C D E l rfl (by rw[List.length_append];omega) (by rw[Rp ho,hcs])<|by simpa using u
theorem Vy{t:TypeId}{x y:Operand}{g:FS}{q k:Nat}{ty:TypeId}(e:o.dst=none)(c:o.op=.store t x y)(h:ev n f x=.pointer (some ((Cs g.a q).add k)))(l:ev n f y=v)
    (u: ∀w,(sizeOf t).run P w=.ok 1 w) (B:v.oneCell'=true) (C:g.nil=false) (D:LL[i]? =some (g.seg ty cs)) (ho:q+k+[v].length≤cs.length) (hcs:Bt cs (q+k) [v]=cs') (E:LL.set i (g.seg ty cs')=LL'):
    Ht (β:=Unit) P n (Mem w0 M LL) f o (fun _=>f) (fun _=>Mem w0 M LL'):=
  Vw e c h l u B C D (by simp only[List.length_cons,List.length_nil]at ho;omega) (by
    rw[←hcs];unfold Bt
    simp only[List.length_cons,List.length_nil]at ho
    rw[List.set_eq_take_append_cons_drop,if_pos (by omega)];simp) E
theorem Km(h:At w a cs)(c:a.isNone=true):cs.length=0:=by
  cases cs with
  |nil=>rfl
  |cons x l=>have:=h.here (by simp);rw[this]at c;cases c
theorem Pp(c:At w1 a cs)(x:Mem w1 M L0 w1)(B: ∀k∈M,k∈L0.flatten.map (·.b))(h:Mem w1 M L0 w):At w a cs:=c.of_block fun hc=>by
  have e:=c.lt hc
  by_cases l:(a.getD default).block∈M
  · obtain⟨p,q,C⟩:=List.mem_map.1 (B _ l)
    have t:=Mem0.here h p q
    have u:=Mem0.here x p q
    rw[C]at t u
    rw[t,u]
  · exact Mem0.same h _ e l
end
section
variable {σ:Type}{r:Option Nat}{P:Program}{n:Nat}{ds:List Deferred}{f:Nat→Value}{S:World→Prop}{o:Oper}{d:Nat}{w0:World}{M:List Nat}{LL:List (List Blk)}{yv:Value}{args:Array Value}
theorem Pq{T:Bool→World→Prop}{S':World→Prop}(h: ∀w,S w→S' w)(c:Yld P yv args S' T):Yld P yv args S T:=fun w hw=>c w (h w hw)
abbrev Keeps(w0:World)(M:List Nat)(u:World)(Mu:List Nat):Prop:= ∀a cs,At w0 a cs→(0<cs.length→(a.getD default).block∉M)→At u a cs∧(0<cs.length→(a.getD default).block∉Mu)
theorem Keeps.refl(w:World)(M:List Nat):Keeps w M w M:=fun _ _ h k=>⟨h,k⟩
theorem Keeps.trans{w0 w1 u:World}{M M1 Mu:List Nat}(h:Keeps w0 M w1 M1)(k:Keeps w1 M1 u Mu):Keeps w0 M u Mu:=fun a cs c e=>k a cs (h a cs c e).1 (h a cs c e).2
def Iter2(P:Program)(k:FuncId)(lb:Array Value)(enc:Nat→List Value)(N:Nat)(Li:List (List Blk))(w1:World)(M:List Nat):Prop:=
  ∀(τ:Type) (yv:Value) (U:τ→List Blk) (Φ:Nat→τ→Prop) (Ψ:τ→Prop) (c:τ),
    (∀i s (R:List (List Blk)) (u:World) (Mu:List Nat),i<N→Φ i s→Keeps w1 M u Mu→Yld P yv (enc i).toArray (Mem u Mu (U s::R)) (fun b w=> ∃s',(bif b then Φ (i+1) s' else Ψ s')∧Mem u Mu (U s'::R) w))→
    Φ 0 c→Mem w1 M (U c::Li) w1→(∀k∈M,k∈(U c::Li).flatten.map (·.b))→Calls P k (#[yv]++lb) w1 (Bn w1 (fun s=>Φ N s∨Ψ s) (fun _=>.tuple #[]) M (fun s=>U s::Li))
theorem Jn{Q:Exit→Act→World→Prop}{g:Operand}{ps:Array Tmp}{assign body:Code}{k:FuncId}{lb:Array Value}{enc:Nat→List Value}{N:Nat}{Lu:σ→List (List Blk)}{Li Lk:List (List Blk)}
    (is js ks:List Nat) (I:σ) (Φ:Nat→σ→Prop) (Ψ:Code→σ→Prop) (ab:List Nat)
    (hg:ev n f g=.func (.func k) #[] lb) (Z: ∀x w,(callFunc k x).run P w=.ok (.enter k x) w)
    (bf:(is++js++ks).Nodup) (hi:C2 LL is=Lu I) (hj:C2 LL js=Li) (bg:C2 LL ks=Lk)
    (ar:ps.toList=ab) (au: ∀i,(enc i).length=ab.length) (h0:Φ 0 I)
    (bh: ∀(D l:Nat) (ob:Loop) (w1:World),Mem w0 M (((dB D::lB l ob::Lu I)++Li)++Lk) w1→Iter2 P k lb enc N Li w1 (((dB D::lB l ob::Lu I)++Li).flatten.map (·.b)))
    (ah: ∀(D l:Nat) (ob av:Loop) (i:Nat) (s:σ) (u:World) (Mu:List Nat) (J:Act→World→Prop),i<N→Φ i s→Keeps w0 M u Mu→
      (∀f' L',W (some l) P (RQ u Mu D l av Lu (Φ (i+1)) Ψ) body n [] f' (Mem u Mu (dB D::lB l av::L'))→ ∀w',Mem u Mu (dB D::lB l ob::L') w'→J (Fr n [] f') w')→
      W (some l) P (Exit.then J E4) assign n [] ((ab.zip (enc i)).foldl (fun f p=>Fg f p.1 p.2) f) (Mem u Mu (dB D::lB l ob::Lu s)))
    (ai: ∀(D l:Nat) (ob:Loop) (s:σ),Φ N s→ ∀w,Mem w0 M (((dB D::lB l ob::Lu s)++Li)++Lk) w→Q .normal (Fr n (mk D::ds) f) w)
    (aj: ∀(D l:Nat) (ob:Loop) (c:Code) (s:σ),Ψ c s→W none P Q c n (mk D::ds) f (Mem w0 M (((dB D::lB l ob::Lu s)++Li)++Lk))):
    W none P Q (.rangeFunc g ps assign body) n ds f (Mem w0 M LL):=fun w hS=>by
  have bj:Mem w0 M (Lu I++Li++Lk) w:=hS.pick (is++js++ks) bf (by rw[←hi,←hj,←bg];simp[C2])
  refine wpIn_rangeFunc ?_
  intro fn _
  obtain⟨q,E⟩: ∃q:LoopState→Option Code→Loop,q=fun st C=>{state:=st,pending:=C,fn,tmps:=(Fr n ds f).tmps,params:=ps,assign,body,defers:=w.heap.size}:=⟨_,rfl⟩
  obtain⟨D,hD⟩: ∃D,D=w.heap.size:=⟨_,rfl⟩
  obtain⟨l,hl⟩: ∃l,l=w.heap.size+1:=⟨_,rfl⟩
  obtain⟨w1,aw⟩: ∃w1,(w.alloc (.deferred (some []))).alloc (.loop (q .ready none))=w1:=⟨_,rfl⟩
  have hm:Mem w0 M (((dB D::lB l (q .ready none)::Lu I)++Li)++Lk) w1:=by
    have h1:=(bj.allocO (.deferred (some []))).allocO (.loop (q .ready none))
    rw[←aw]
    refine Mem.perm ?_ h1
    simp only[List.flatten_append,List.flatten_cons,dB,lB,hD,hl,List.cons_append,List.nil_append,List.append_assoc,Array.size_push]
    exact List.Perm.swap _ _ _
  let U:σ×Option Code→List Blk:=fun s=>dB D++lB l (q (if s.2.isNone then .ready else .done) s.2)++(Lu s.1).flatten
  have hU: ∀(s:σ) (C:Option Code) (R:List (List Blk)),(U (s,C)::R).flatten=((dB D::lB l (q (if C.isNone then .ready else .done) C)::Lu s)++R).flatten:=fun s C R=>by
    simp[U,List.flatten_append]
  obtain⟨M1,V⟩: ∃M1,M1=((dB D::lB l (q .ready none)::Lu I)++Li).flatten.map (·.b):=⟨_,rfl⟩
  have ay:Mem w1 M1 (U (I,none)::Li) w1:=by
    rw[V];exact(Mem.local hm).flat (hU I none Li).symm
  have ak: ∀k∈M1,k∈(U (I,none)::Li).flatten.map (·.b):=fun k Z=>by
    rw[hU I none Li];rw[V]at Z;exact Z
  have al: ∀{LL':List (List Blk)} {w':World},Mem w1 M1 LL' w'→Mem w0 M (LL'++Lk) w':=fun h=>Mem.back hm (by rw[V]at h;exact h)
  have bk:Keeps w0 M w1 M1:=fun a cs am an=>by
    have h2:=Dq (L:=(dB D::lB l (q .ready none)::Lu I)++Li) (R:=Lk) am an hm
    rw[V];exact h2
  refine⟨l,[mk D],w1,{target:=.fn (.func k) lb,args:= #[.func (.yield l) #[] #[]]},w1,k,#[.func (.yield l) #[] #[]]++lb,w1,?_,?_,fun _ _=>trivial,?_,fun h=>(by cases h),?_⟩
  · rw[←aw,E,hl];simp only[mk,hD];exact run_enterLoop_outer _ _ _ _ _
  · simp only[resolve,Dj,hg]
    simp[go_sem];rfl
  · simp[invoke,go_sem,Z]
  have hI:=bh D l _ w1 hm
  rw[←V]at hI
  refine H8<|Calls.mono (hI (σ×Option Code) (.func (.yield l) #[] #[]) U (fun i s=>Φ i s.1∧s.2=none) (fun s=> ∃c,s.2=some c∧Ψ c s.1) (I,none) ?_ ⟨h0,rfl⟩ ay ak) ?_
  · rintro i ⟨s,C⟩ R ub Mub bm ⟨X,G⟩ bn u hu
    simp only at G X;subst G
    have bo:u.heap[l]? =some (.loop (q .ready none)):=hu.at (i:=0) (j:=1) (p:=⟨l,_⟩) rfl rfl
    obtain⟨Mu,ao⟩: ∃Mu,Mu=(U (s,none)).map (·.b):=⟨_,rfl⟩
    have ap:Mem u Mu (dB D::lB l (q .ready none)::Lu s) u:=by
      have h1:Mem u Mu [U (s,none)] u:=by rw[ao];exact hu.one (i:=0) rfl
      exact h1.flat (by have:=hU s none [];simpa using this)
    have af: ∀{s':σ} {C:Option Code} {w':World},Mem u Mu (dB D::lB l (q (if C.isNone then .ready else .done) C)::Lu s') w'→Mem ub Mub (U (s',C)::R) w':=fun {s' C w'} h=>by
      have h1:Mem u ([U (s,none)].flatten.map (·.b)) [U (s',C)] w':=by
        simp only[List.flatten_cons,List.flatten_nil,List.append_nil];rw[←ao]
        exact h.flat (by have:=hU s' C [];simpa using this.symm)
      exact Mem.back (LL:=[U (s,none)]) (R:=R) hu h1
    refine⟨.round l fn ((ps.zip (enc i).toArray).foldl (fun t (p:Nat×Value)=>t.setIfInBounds p.1 p.2) (Fr n ds f).tmps) assign body,?_,?_⟩
    · have:=run_yield (P:=P) (args:=(enc i).toArray) bo (by rw[E];simp only[List.size_toArray];rw[au,←ar];simp)
      rw[E]at this
      simp only[S8,Deferred.ofValue,Sem.run_bind]
      simp[go_sem,invoke,this]
    refine roundIn_of_wpIn (F:=Cv none) trivial ?_
    have et:(ps.zip (enc i).toArray).foldl (fun t (p:Nat×Value)=>t.setIfInBounds p.1 p.2) (Fr n ds f).tmps=(Fr n [] ((ab.zip (enc i)).foldl (fun f p=>Fg f p.1 p.2) f)).tmps:=by
      rw[←L3 (ds:=ds),←ar]
      rw[←Array.foldl_toList,Array.toList_zip]
    rw[et]
    refine ah D l (q .ready none) (q .busy none) i s u Mu _ bm X ?_ ?_ u ap
    · intro a cs am an
      obtain⟨h1,h2⟩:=bk.trans bn a cs am an
      have O:=Dq (L:=[U (s,none)]) (R:=R) h1 h2 (by simpa using hu)
      rw[ao];simpa using O
    intro f' L' hW w' az
    have a0:w'.heap[l]? =some (.loop (q .ready none)):=az.at (i:=1) (j:=0) (p:=⟨l,_⟩) rfl rfl
    have a1:=(Array.getElem?_eq_some_iff.1 a0).1
    refine⟨w'.putObj l<|.loop<|q .busy none,?_,?_⟩
    · have:=run_beginRound (P:=P) a0 (by rw[E]);rw[this,E]
    have ag:Mem u Mu (dB D::lB l (q .busy none)::L') (w'.putObj l (.loop (q .busy none))):=
      az.putO (s:=lB l (q .ready none)) (i:=1) (j:=0) rfl rfl rfl rfl rfl (by simp) (fun k _ Z=>World.putObj_heap_other Z) (World.putObj_heap_same a1)
    refine wpIn_mono (hW _ ag) ?_
    have fin: ∀(B:Option Code) (s':σ) (w3:World),Mem u Mu (dB D::lB l (q .busy none)::Lu s') w3→
        (Instr.endRound l B).run P w3=.ok (.bool B.isNone) (w3.putObj l (.loop (q (if B.isNone then .ready else .done) B)))∧
        Mem ub Mub (U (s',B)::R) (w3.putObj l (.loop (q (if B.isNone then .ready else .done) B))):=fun B s' w3 O=>by
      have a2:w3.heap[l]? =some (.loop (q .busy none)):=O.at (i:=1) (j:=0) (p:=⟨l,_⟩) rfl rfl
      have a5:=(Array.getElem?_eq_some_iff.1 a2).1
      refine⟨?_,af ?_⟩
      · have:=run_endRound (P:=P) B a2;rw[this,E]
      · exact O.putO (s:=lB l (q .busy none)) (i:=1) (j:=0) rfl rfl rfl rfl rfl (by simp) (fun k _ Z=>World.putObj_heap_other Z) (World.putObj_heap_same a5)
    rintro e a3 w3 hp
    cases e with
    |normal=>
      obtain⟨s',Y,O⟩:=hp
      obtain⟨hr,h4⟩:=fin none s' w3 O
      exact⟨_,_,hr,true,rfl,(s',none),⟨Y,rfl⟩,h4⟩
    |ret=>
      obtain⟨s',Y,O⟩:=hp
      obtain⟨hr,h4⟩:=fin (some .ret) s' w3 O
      exact⟨_,_,hr,false,rfl,(s',some .ret),⟨_,rfl,Y⟩,h4⟩
    |exit id=>
      obtain⟨s',Y,O⟩:=hp
      obtain⟨hr,h4⟩:=fin (some (.exit id)) s' w3 O
      exact⟨_,_,hr,false,rfl,(s',some<|.exit id),⟨_,rfl,Y⟩,h4⟩
    |goto t=>exact hp.elim
    |panic ch=>exact hp.elim
    |outgrown=>exact hp.elim
  · rintro e w2 ⟨⟨s,C⟩,bp,rfl,ag⟩
    have a8:w2.heap[l]? =some (.loop (q (if C.isNone then .ready else .done) C)):=ag.at (i:=0) (j:=1) (p:=⟨l,_⟩) rfl rfl
    have a9:=(Array.getElem?_eq_some_iff.1 a8).1
    have he:(Instr.endLoop l).run P w2=.ok C (w2.putObj l (.loop (q .exhausted C))):=by
      have:=run_endLoop (P:=P) a8 (by rw[E];cases C<;>simp);rw[this,E]
    have O:Mem w0 M (((dB D::lB l (q .exhausted C)::Lu s)++Li)++Lk) (w2.putObj l (.loop (q .exhausted C))):=by
      have h1:Mem w0 M (((dB D::lB l (q (if C.isNone then .ready else .done) C)::Lu s)++Li)++Lk) w2:=(al ag).flat (by rw[List.flatten_append,hU s C Li,←List.flatten_append])
      exact h1.putO (s:=lB l<|q (if C.isNone then .ready else .done) C) (i:=1) (j:=0) rfl rfl rfl rfl rfl (by simp) (fun k _ Z=>World.putObj_heap_other Z)<|World.putObj_heap_same a9
    refine⟨C,_,he,?_⟩
    rcases bp with⟨X,G⟩|⟨c,G,hΨ⟩
    · simp only at G X;subst G
      exact ai D l _ s X _ O
    · simp only at G hΨ;subst G
      exact aj D l _ c s hΨ _ O
theorem Iter2.cast{k:FuncId}{lb:Array Value}{enc c:Nat→List Value}{N N':Nat}{Li Li':List (List Blk)}{w1:World}{M:List Nat}(h:Iter2 P k lb enc N Li w1 M)(e:enc=c)(l:N=N')(q:Li=Li'):Iter2 P k lb c N' Li' w1 M:=by
  subst e;subst l;subst q;exact h
end
end Go.Proofs.YtmonlaoaengfdaaGreatDoor.Base
set_option maxRecDepth 20000
namespace Go.Proofs.YtmonlaoaengfdaaGreatDoor.Oct
open Go.RowKit Base Tryz
attribute [local irreducible] Ys Yc Ht HtS HtIn Wl Wd W Mem pf Ez Wa Wo KW
set_option linter.unusedSectionVars false
structure LO(K:Type) where
  lt:K→K→Bool
  irr: ∀a,lt a a=false
  tr: ∀{a b c},lt a b=true→lt b c=true→lt a c=true
  tri: ∀{a b},lt a b=false→lt b a=false→a=b
def LO.cmp{K:Type}(o:LO K)(a b:K):Int:=bif o.lt a b then-1 else bif o.lt b a then 1 else 0
theorem Arf{K:Type}(o:LO K){a b:K}(h:o.lt a b=true):o.lt b a=false:=by
  cases c:o.lt b a
  · rfl
  · have:=o.tr h c;rw[o.irr]at this;cases this
theorem LO.ne{K:Type}(o:LO K){a b:K}(h:o.lt a b=true):a≠b:=fun e=>by rw[e,o.irr]at h;cases h
theorem H4{K:Type}(o:LO K){a b:K}:o.cmp a b<0↔o.lt a b=true:=by
  unfold LO.cmp
  cases c:o.lt a b<;>cases e:o.lt b a<;>simp
theorem LO.cmp_eq{K:Type}(o:LO K){a b:K}:o.cmp a b=0↔a=b:=by
  unfold LO.cmp
  constructor
  · cases c:o.lt a b<;>cases e:o.lt b a<;>simp
    exact o.tri c e
  · rintro rfl;rw[o.irr];rfl
def LO.int:LO Int:=⟨fun a b=>decide (a<b),fun a=>by simp,fun {a b c} e h=>by simp at e h⊢;omega,fun {a b} e h=>by simp at e h;omega⟩
def Gw{A B:Type} [DecidableEq A](p:LO A)(q:LO B):LO (A×B) where
  lt x y:=p.lt x.1 y.1||(decide (x.1=y.1)&&q.lt x.2 y.2)
  irr a:=by rw[p.irr,q.irr];simp
  tr {a b c} l t:=by
    simp only[Bool.or_eq_true,Bool.and_eq_true,decide_eq_true_eq]at l t⊢
    rcases l with l|⟨u,l⟩<;>rcases t with t|⟨C,t⟩
    · exact .inl (p.tr l t)
    · exact .inl (C▸l)
    · exact .inl (u▸t)
    · exact .inr ⟨u.trans C,q.tr l t⟩
  tri {a b} l t:=by
    simp only[Bool.or_eq_false_iff,Bool.and_eq_false_iff,decide_eq_false_iff_not]at l t
    have e:=p.tri l.1 t.1
    exact Prod.ext e<|q.tri (l.2.resolve_left fun h=>h e)<|t.2.resolve_left fun h=>h e.symm
theorem Gx{A B:Type} [DecidableEq A](p:LO A)(q:LO B)(x y:A×B):(Gw p q).cmp x y=bif decide (p.cmp x.1 y.1=0)then q.cmp x.2 y.2 else p.cmp x.1 y.1:=by
  by_cases e:x.1=y.1
  · rw[decide_eq_true (p.cmp_eq.2 e)]
    simp[LO.cmp,Gw,e,p.irr]
  · rw[decide_eq_false (fun h=>e (p.cmp_eq.1 h))]
    have c: ¬y.1=x.1:=fun h=>e h.symm
    simp[LO.cmp,Gw,e,c]
section
variable {K V:Type} [DecidableEq K](o:LO K)(d:K×V)
def Bk(xs:List (K×V))(k:K):Nat:=(xs.takeWhile fun p=>o.lt p.1 k).length
def Bq(xs:List (K×V))(k:K):Bool:=xs.any fun p=>decide (p.1=k)
def Gj(xs:List (K×V)):Prop:=xs.Pairwise fun p q=>o.lt p.1 q.1=true
def B1(v0:V):List (K×V)→K→V
  | [],_=>v0
  |x::xs,k=>if x.1=k then x.2 else B1 v0 xs k
def Jo:List (K×V)→K→V→List (K×V)
  | [],k,v=>[(k,v)]
  |x::xs,k,v=>if o.lt x.1 k=true then x::Jo xs k v else if x.1=k then(k,v)::xs else(k,v)::x::xs
def Di(xs:List (K×V))(k:K):List (K×V):=xs.filter fun p=> !decide (p.1=k)
def Mw(c:Int)(xs:List (K×V))(k:K):Int:=bif Bq xs k then 0 else bif decide (((xs.length:Nat):Int)≥c)then 20 else 0
def Dv(c:Int)(xs:List (K×V))(k:K)(v:V):List (K×V):=bif Bq xs k then Jo o xs k v else bif decide (((xs.length:Nat):Int)≥c)then xs else Jo o xs k v
variable {o}{xs ys:List (K×V)}{x p:K×V}{k:K}{v v0:V}{most:Int}
theorem L4(h:o.lt x.1 k=true):Bk o (x::xs) k=Bk o xs k+1:=by unfold Bk;rw[List.takeWhile_cons,if_pos h,List.length_cons]
theorem L5(h:o.lt x.1 k=false):Bk o (x::xs) k=0:=by unfold Bk;rw[List.takeWhile_cons,if_neg (by rw[h];decide)];rfl
theorem G4:Bk o xs k≤xs.length:=by unfold Bk;exact(List.takeWhile_sublist _).length_le
theorem Rq(c:Gj o (x::xs))(h:o.lt x.1 k=false): ∀p∈xs,p.1≠k:=fun p l e=>by
  have:=(List.pairwise_cons.1 c).1 p l
  rw[e,h]at this;cases this
theorem Gy: ∀{xs:List (K×V)},Gj o xs→ ∀{h:Nat},h<xs.length→(o.lt (xs.getD h d).1 k=true↔h<Bk o xs k)
  | [],_,h,hh=>by simp at hh
  |x::xs,hs,h,hh=>by
    have e:=List.pairwise_cons.1 hs
    cases c:o.lt x.1 k with
    |true=>
      rw[L4 c]
      cases h with
      |zero=>simpa using c
      |succ h=>rw[List.getD_cons_succ,Gy e.2 (by simpa using hh)];omega
    |false=>
      rw[L5 c]
      cases h with
      |zero=>simp[c]
      |succ h=>
        have l:h<xs.length:=by simpa using hh
        have t:=e.1 (xs.getD h d) (by rw[List.getD_eq_getElem?_getD,List.getElem?_eq_getElem l];exact List.getElem_mem _)
        rw[List.getD_cons_succ]
        constructor
        · intro q;rw[o.tr t q]at c;cases c
        · intro q;omega
theorem Ff:Bq xs k=true↔ ∃v,(k,v)∈xs:=by
  unfold Bq
  rw[List.any_eq_true]
  constructor
  · rintro⟨p,c,h⟩;exact⟨p.2,by rw[←of_decide_eq_true h];exact c⟩
  · rintro⟨v,e⟩;exact⟨_,e,by simp⟩
theorem Ik:Bq xs k=false↔ ∀p∈xs,p.1≠k:=by
  unfold Bq;rw[List.any_eq_false];simp
theorem E6:Bq (x::xs) k=(decide (x.1=k)||Bq xs k):=rfl
theorem Lb: ∀{xs:List (K×V)},Gj o xs→(decide (Bk o xs k<xs.length)&&decide ((xs.getD (Bk o xs k) d).1=k))=Bq xs k
  | [],_=>by simp[Bq,Bk]
  |x::xs,hs=>by
    cases c:o.lt x.1 k with
    |true=>
      rw[L4 c,List.getD_cons_succ,List.length_cons,E6,decide_eq_false (o.ne c),Bool.false_or,←Lb (List.pairwise_cons.1 hs).2]
      congr 1;exact decide_eq_decide.2 Ae
    |false=>
      rw[L5 c,List.getD_cons_zero,List.length_cons,decide_eq_true Ae,Bool.true_and,E6,(Ik).2 (Rq hs c),Bool.or_false]
theorem G5(c:Gj o xs)(h:Bq xs k=true):Bk o xs k<xs.length∧(xs.getD (Bk o xs k) d).1=k:=by
  rw[←Lb d c]at h;simpa using h
theorem Nr: ∀{xs:List (K×V)},Gj o xs→Bq xs k=true→Jo o xs k v=xs.set (Bk o xs k) (k,v)
  | [],_,h=>by cases h
  |x::xs,hs,h=>by
    unfold Jo
    cases c:o.lt x.1 k with
    |true=>
      rw[E6,decide_eq_false (o.ne c),Bool.false_or]at h
      rw[L4 c,if_pos rfl,List.set_cons_succ,Nr (List.pairwise_cons.1 hs).2 h]
    |false=>
      rw[E6,(Ik).2 (Rq hs c),Bool.or_false]at h
      rw[L5 c,if_neg An,if_pos (of_decide_eq_true h)];rfl
theorem L6: ∀{xs:List (K×V)},Bq xs k=false→Jo o xs k v=xs.take (Bk o xs k)++(k,v)::xs.drop (Bk o xs k)
  | [],_=>rfl
  |x::xs,h=>by
    rw[E6,Bool.or_eq_false_iff]at h
    unfold Jo
    cases c:o.lt x.1 k with
    |true=>rw[L4 c,if_pos rfl,List.take_succ_cons,List.drop_succ_cons,L6 h.2];rfl
    |false=>rw[L5 c,if_neg An,if_neg (of_decide_eq_false h.1)];rfl
theorem Lc: ∀{xs:List (K×V)},Gj o xs→Bq xs k=true→Di xs k=xs.take (Bk o xs k)++xs.drop (Bk o xs k+1)
  | [],_,h=>by cases h
  |x::xs,hs,h=>by
    unfold Di
    cases c:o.lt x.1 k with
    |true=>
      rw[E6,decide_eq_false (o.ne c),Bool.false_or]at h
      have e:=Lc (List.pairwise_cons.1 hs).2 h
      unfold Di at e
      rw[L4 c,List.filter_cons,if_pos (by simp[o.ne c]),e,List.take_succ_cons,List.drop_succ_cons];rfl
    |false=>
      have l:=Rq hs c
      rw[E6,(Ik).2 l,Bool.or_false]at h
      rw[L5 c,List.filter_cons,if_neg (by simp[of_decide_eq_true h]),List.take_zero,List.nil_append,List.drop_succ_cons,List.drop_zero]
      exact List.filter_eq_self.2 fun p q=>by simp[l p q]
theorem Ns(h:Bq xs k=false):Di xs k=xs:=List.filter_eq_self.2 fun p c=>by simp[Ik.1 h p c]
theorem Pr: ∀{xs:List (K×V)},Gj o xs→Bq xs k=true→B1 v0 xs k=(xs.getD (Bk o xs k) d).2
  | [],_,h=>by cases h
  |x::xs,hs,h=>by
    unfold B1
    cases c:o.lt x.1 k with
    |true=>
      rw[E6,decide_eq_false (o.ne c),Bool.false_or]at h
      rw[L4 c,if_neg (o.ne c),List.getD_cons_succ,Pr (List.pairwise_cons.1 hs).2 h]
    |false=>
      rw[E6,(Ik).2 (Rq hs c),Bool.or_false]at h
      rw[L5 c,if_pos (of_decide_eq_true h)];rfl
theorem Hy: ∀{xs:List (K×V)},Bq xs k=false→B1 v0 xs k=v0
  | [],_=>rfl
  |x::xs,h=>by
    rw[E6,Bool.or_eq_false_iff]at h
    unfold B1
    rw[if_neg (of_decide_eq_false h.1),Hy h.2]
theorem Dp: ∀{xs:List (K×V)},Gj o xs→ ∀{p},(p∈Jo o xs k v↔p=(k,v)∨(p∈xs∧p.1≠k))
  | [],_,p=>by simp[Jo]
  |x::xs,hs,p=>by
    unfold Jo
    cases q:o.lt x.1 k with
    |true=>
      have l:=o.ne q
      rw[if_pos rfl,List.mem_cons,Dp (List.pairwise_cons.1 hs).2,List.mem_cons]
      constructor
      · rintro(rfl|h|h)
        · exact .inr ⟨.inl rfl,l⟩
        · exact .inl h
        · exact .inr ⟨.inr h.1,h.2⟩
      · rintro(h|⟨rfl|h,c⟩)
        · exact .inr (.inl h)
        · exact .inl rfl
        · exact .inr (.inr ⟨h,c⟩)
    |false=>
      have t:=Rq hs q
      rw[if_neg An]
      by_cases e:x.1=k
      · rw[if_pos e,List.mem_cons,List.mem_cons]
        constructor
        · rintro(h|h)
          · exact .inl h
          · exact .inr ⟨.inr h,t p h⟩
        · rintro(h|⟨rfl|h,c⟩)
          · exact .inl h
          · exact absurd e c
          · exact .inr h
      · rw[if_neg e,List.mem_cons,List.mem_cons]
        constructor
        · rintro(h|rfl|h)
          · exact .inl h
          · exact .inr ⟨.inl rfl,e⟩
          · exact .inr ⟨.inr h,t p h⟩
        · rintro(h|⟨h,c⟩)
          · exact .inl h
          · exact .inr h
theorem Rr: ∀{xs:List (K×V)},Gj o xs→Gj o (Jo o xs k v)
  | [],_=>List.pairwise_singleton _ _
  |x::xs,hs=>by
    have c:=List.pairwise_cons.1 hs
    unfold Jo
    cases t:o.lt x.1 k with
    |true=>
      rw[if_pos rfl]
      refine List.pairwise_cons.2 ⟨fun p e=>?_,Rr c.2⟩
      rcases(Dp c.2).1 e with rfl|⟨e,_⟩
      · exact t
      · exact c.1 p e
    |false=>
      rw[if_neg An]
      by_cases q:x.1=k
      · rw[if_pos q]
        exact List.pairwise_cons.2 ⟨fun p e=>by have:=c.1 p e;rw[q]at this;exact this,c.2⟩
      · rw[if_neg q]
        have l:o.lt k x.1=true:=by
          cases h:o.lt k x.1 with
          |true=>rfl
          |false=>exact absurd (o.tri t h) q
        refine List.pairwise_cons.2 ⟨fun p e=>?_,hs⟩
        rcases List.mem_cons.1 e with rfl|e
        · exact l
        · exact o.tr l (c.1 p e)
theorem H5:p∈Di xs k↔p∈xs∧p.1≠k:=by unfold Di;rw[List.mem_filter];simp
theorem Og(c:Gj o xs):Gj o (Di xs k):=List.Pairwise.sublist List.filter_sublist c
theorem Acb(u:Gj o xs){a b:V}(B:(k,a)∈xs)(C:(k,b)∈xs):a=b:=by
  obtain⟨i,l,e⟩:=List.getElem_of_mem B
  obtain⟨j,q,c⟩:=List.getElem_of_mem C
  have t:=List.pairwise_iff_getElem.1 u
  rcases Nat.lt_trichotomy i j with h|h|h
  · have:=t i j l q h;rw[e,c,o.irr]at this;cases this
  · subst h;rw[e]at c;exact congrArg Prod.snd c
  · have:=t j i q l h;rw[e,c,o.irr]at this;cases this
theorem Jp(l:Gj o xs)(h:(k,v)∈xs):B1 v0 xs k=v:=by
  induction xs with
  |nil=>cases h
  |cons x xs q=>
    unfold B1
    by_cases c:x.1=k
    · rw[if_pos c]
      refine Acb l (k:=k) ?_ h
      rw[←c];exact List.mem_cons_self ..
    · rw[if_neg c]
      rcases List.mem_cons.1 h with e|h
      · rw[←e]at c;exact absurd rfl c
      · exact q (List.pairwise_cons.1 l).2 h
theorem Fj: ∀{xs:List (K×V)},Bq xs k=true→(k,B1 v0 xs k)∈xs
  | [],h=>by cases h
  |x::xs,h=>by
    unfold B1
    by_cases c:x.1=k
    · rw[if_pos c]
      have e:(k,x.2)=x:=by rw[←c]
      rw[e];exact List.mem_cons_self ..
    · rw[if_neg c]
      rw[E6,decide_eq_false c,Bool.false_or]at h
      exact List.mem_cons_of_mem _<|Fj h
theorem Vz(c:Gj o xs):(Jo o xs k v).length=bif Bq xs k then xs.length else xs.length+1:=by
  cases h:Bq xs k
  · rw[L6 h];have:=G4 (o:=o) (xs:=xs) (k:=k);simp;omega
  · rw[Nr c h];simp
theorem Aac(c:Gj o xs):(Di xs k).length=bif Bq xs k then xs.length-1 else xs.length:=by
  cases h:Bq xs k
  · rw[Ns h];rfl
  · rw[Lc c h]
    by_cases e:xs=[]
    · subst e;cases h
    · obtain⟨x,l,rfl⟩:=List.exists_cons_of_ne_nil e
      have:=(G5 x c h).1
      simp only[cond_true,List.length_append,List.length_take,List.length_drop];omega
theorem Rs(c:Gj o xs):Gj o (Dv o most xs k v):=by
  unfold Dv
  cases Bq xs k
  · cases(decide (((xs.length:Nat):Int)≥most))
    · exact Rr c
    · exact c
  · exact Rr c
theorem Oh(c:Gj o xs)(h:(xs.length:Int)≤most):((Dv o most xs k v).length:Int)≤most:=by
  unfold Dv
  cases e:Bq xs k
  · by_cases l:(xs.length:Int)≥most
    · rw[decide_eq_true l];exact h
    · rw[decide_eq_false l];show((Jo o xs k v).length:Int)≤most;rw[Vz c,e];simp only[cond_false];omega
  · show((Jo o xs k v).length:Int)≤most;rw[Vz c,e];exact h
theorem Rt(c:Gj o xs):(Di xs k).length≤xs.length:=by rw[Aac c];cases Bq xs k;exact Nat.le_refl _;exact Nat.sub_le _ _
end
section
variable {α:Type}{g:α→List Value}{sz:Nat}
theorem Kn(xs ys:List α):mm g (xs++ys)=mm g xs++mm g ys:=by simp[mm]
theorem Ko(x:α)(xs:List α):mm g (x::xs)=g x++mm g xs:=by simp[mm]
theorem Hz(c: ∀x,(g x).length=sz): ∀(xs:List α) (i:Nat),(mm g xs).drop (i*sz)=mm g (xs.drop i)
  |xs,0=>by simp
  | [],i+1=>by simp[mm]
  |x::xs,i+1=>by
    rw[Ko,List.drop_succ_cons,show(i+1)*sz=(g x).length+i*sz by rw[c,Nat.add_mul];omega,←List.drop_drop,List.drop_left]
    exact Hz c xs i
theorem Fy(c: ∀x,(g x).length=sz): ∀(xs:List α) (i:Nat),(mm g xs).take (i*sz)=mm g (xs.take i)
  |xs,0=>by simp[mm]
  | [],i+1=>by simp[mm]
  |x::xs,i+1=>by
    rw[Ko,List.take_succ_cons,Ko,show(i+1)*sz=(g x).length+i*sz by rw[c,Nat.add_mul];omega,List.take_append,Nat.add_sub_cancel_left,Fy c xs i]
    rw[List.take_of_length_le Ae]
theorem Gz(c: ∀x,∀v∈g x,v.oneCell'=true)(xs:List α): ∀v∈mm g xs,v.oneCell'=true:=fun v e=>by
  obtain⟨x,_,h⟩:=List.mem_flatMap.1 e
  exact c x v h
end
end Go.Proofs.YtmonlaoaengfdaaGreatDoor.Oct
namespace Go.Proofs.YtmonlaoaengfdaaGreatDoor.Base
section
variable {r:Option Nat}{P:Program}{Q:Exit→Act→World→Prop}{S:World→Prop}{n:Nat}{ds:List Deferred}{f:Nat→Value}
def Wr(r:Option Nat)(P:Program)(Q:Exit→Act→World→Prop)(c:Code)(m:Nat)(n:Nat)(ds:List Deferred)(f:Nat→Value)(S:World→Prop):Prop:= ∀w,S w→Code.roundsIn (Cv r) 0 P c Q m (Fr n ds f) w
theorem Jq{c:Code}(m:Nat)(h:Wr r P Q c m n ds f S):W r P Q (.loop c) n ds f S:=fun w e=>wpIn_loop_rounds m (h w e)
theorem Dl{c:Code}{m:Nat}(h: ∀K:Act→World→Prop,(∀ds e (S':World→Prop),Wr r P Q c m n ds e S'→ ∀w,S' w→K (Fr n ds e) w)→W r P (Exit.then K Q) c n ds f S):Wr r P Q c (m+1) n ds f S:=fun w q=>by
  rw[roundsIn_succ]
  exact h _ (fun ds e S' t w' l=>t w' l) w q
end
end Go.Proofs.YtmonlaoaengfdaaGreatDoor.Base
