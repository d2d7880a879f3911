import Derived.Test.YtmonlaoaengfdaaGreatDoorM0
import Derived.Laws.AppendOwn
import Derived.Laws.OwnMore
import Derived.Laws.MakeOwn
import Derived.Laws.CopyRow
import Derived.Laws.BytesString
import Derived.Laws.Slices
import Derived.Lib.MakeNoZero
set_option linter.unusedVariables false
set_option linter.unusedSimpArgs false
namespace Go.Proofs.YtmonlaoaengfdaaGreatDoor.Base
open Go.RowKit
def D2(k:IntKind)(a b:Int):Int:=k.wrap (a+b)
def Hp(k:IntKind)(a b:Int):Int:=k.wrap (a-b)
def Ng(k:IntKind)(a b:Int):Int:=k.wrap (a*b)
def Dw(k:IntKind)(a b:Int):Int:=k.wrap ((BitVec.ofInt k.bits a&&&BitVec.ofInt k.bits b).toNat)
def bor(k:IntKind)(a b:Int):Int:=k.wrap ((BitVec.ofInt k.bits a|||BitVec.ofInt k.bits b).toNat)
def Sw(k:IntKind)(a b:Int):Int:=k.wrap ((BitVec.ofInt k.bits a^^^BitVec.ofInt k.bits b).toNat)
def Yh(k:IntKind)(a b:Int):Int:=k.wrap ((BitVec.ofInt k.bits a&&& ~~~BitVec.ofInt k.bits b).toNat)
def Jb(k:IntKind)(a b:Int):Int:=k.wrap (a*2^(min b.toNat k.bits))
def Ib(k:IntKind)(a b:Int):Int:=a.fdiv (2^(min b.toNat k.bits))
def Pc(k:IntKind)(a b:Int):Int:=k.wrap (a.tdiv b)
def Hw(a b:Int):Int:=a.tmod b
def Ct(k:IntKind)(a:Int):Int:=k.wrap a
def Pd(a b:Int):Int:=if b<a then b else a
def Ep(a b:Int):Int:=if b>a then b else a
theorem Dg{x:Int}(b: -9223372036854775808≤x)(c:x≤9223372036854775807):IntKind.i64.wrap x=x:=by
  simp only[IntKind.wrap,IntKind.bits,IntKind.signed,Bool.true_and,Nat.reduceSub,Int.reducePow]
  by_cases h:x%18446744073709551616≥9223372036854775808
  · rw[if_pos (by simpa using h)];omega
  · rw[if_neg (by simpa using h)];omega
theorem Tv(a b:Int):Pd a b≤a∧Pd a b≤b∧(Pd a b=a∨Pd a b=b):=by unfold Pd;split<;>omega
theorem Kf(a b:Int):a≤Ep a b∧b≤Ep a b∧(Ep a b=a∨Ep a b=b):=by unfold Ep;split<;>omega
theorem Fi{a b c:Int}(h:a+b=c)(d: -9223372036854775808≤c)(e:c≤9223372036854775807):D2 .i64 a b=c:=by unfold D2;rw[h,Dg d e]
theorem Er{a b c:Int}(h:a-b=c)(d: -9223372036854775808≤c)(e:c≤9223372036854775807):Hp .i64 a b=c:=by unfold Hp;rw[h,Dg d e]
theorem Pn{a b c:Int}(h:a*b=c)(d: -9223372036854775808≤c)(e:c≤9223372036854775807):Ng .i64 a b=c:=by unfold Ng;rw[h,Dg d e]
theorem Rg{a b:Nat}(h:(a:Int)≤9223372036854775807):Pc .i64 (a:Int) (b:Int)=((a/b:Nat):Int):=by
  unfold Pc
  have e:(a:Int).tdiv (b:Int)=((a/b:Nat):Int):=rfl
  rw[e]
  have:=Nat.div_le_self a b
  generalize a/b=q at*
  exact Dg (by omega)<|by omega
theorem W6{k:IntKind}{x:Int}(b:k.signed=false)(c:0≤x)(d:x<2^k.bits):k.wrap x=x:=by
  simp only[IntKind.wrap,b,Bool.false_and,Bool.false_eq_true,if_false]
  exact Int.emod_eq_of_lt c d
theorem Fb{x:Int}(b:0≤x)(c:x<65536):IntKind.u16.wrap x=x:=W6 rfl b (by simpa [IntKind.bits]using c)
theorem Nh{x:Int}(b:0≤x)(c:x<4294967296):IntKind.u32.wrap x=x:=W6 rfl b (by simpa [IntKind.bits]using c)
theorem Co{x:Int}(b:0≤x)(c:x<18446744073709551616):IntKind.u64.wrap x=x:=W6 rfl b (by simpa [IntKind.bits]using c)
def pv(P:Program){α:Type}:Sem α→Option α
  | .pure a=>some a
  | .program k=>pv P (k P)
  | .mark _ k=>pv P k
  |_=>none
theorem K8{P:Program}{α:Type}: ∀{s:Sem α} {a:α},pv P s=some a→ ∀w,s.run P w=.ok a w
  | .pure a,b,h,w=>by cases h;rfl
  | .program k,b,h,w=>K8 (s:=k P) h w
  | .mark m k,b,h,w=>K8 (s:=k) h w
  | .load ..,_,h,_=>by cases h
  | .store ..,_,h,_=>by cases h
  | .new ..,_,h,_=>by cases h
  | .shape ..,_,h,_=>by cases h
  | .freeze ..,_,h,_=>by cases h
  | .frozen ..,_,h,_=>by cases h
  | .getObj ..,_,h,_=>by cases h
  | .setObj ..,_,h,_=>by cases h
  | .choose ..,_,h,_=>by cases h
  | .sys ..,_,h,_=>by cases h
  | .halt ..,_,h,_=>by cases h
def S4(P:Program)(n:Nat)(f:Nat→Value)(o:Oper):Option Value:=match pv P (execOp (ev n f) o)with
  |some (.value v)=>some v
  |_=>none
def Iz(P:Program)(n:Nat):List Oper→(Nat→Value)→Option (Nat→Value)
  | [],f=>some f
  |o::l,f=>match Gt o,o.dst,S4 P n f o with
    |true,some d,some v=>Iz P n l (Fg f d v)
    |_,_,_=>none
def pf(P:Program)(n k:Nat)(l:List Oper)(f:Nat→Value):Nat→Value:=(Iz P n (l.take k) f).getD f
section
variable {r:Option Nat}{P:Program}{ops:Array Oper}{Q:Exit→Act→World→Prop}{K:Act→World→Prop}{S:World→Prop}{n:Nat}{ds:List Deferred}{f:Nat→Value}{o:Oper}{rest:List Oper}{v:Value}{d:Nat}{w0:World}{M:List Nat}{LL LL':List (List Blk)}{s:List Blk}{i j b:Nat}
theorem Rh(h: ∀w,S w→(execOp (ev n f) o).run P w=.ok (.value v) w):Ys P n S f o v:=h
theorem Ys.pure(h: ∀w,(execOp (ev n f) o).run P w=.ok (.value v) w):Ys P n S f o v:=fun w _=>h w
theorem Ys.conseq{c:Value}(e:v=c)(h:Ys P n S f o v):Ys P n S f o c:=e▸h
theorem Ys.mono{S':World→Prop}(c: ∀w,S w→S' w)(h:Ys P n S' f o v):Ys P n S f o v:=fun w e=>h w (c w e)
theorem Yi: ∀(l:List Oper) (k:Nat) (f:Nat→Value) (c:Nat→Value),Iz P n (l.take k) f=some c→Wl r P ops K (l.drop k) n ds c S→Wl r P ops K l n ds f S
  |l,0,f,c,h,hw=>by simp[Iz]at h;subst h;exact hw
  | [],k+1,f,c,h,hw=>by simp[Iz]at h;subst h;simpa using hw
  |o::l,k+1,f,c,h,hw=>by
    simp only[List.take_succ_cons,Iz]at h
    split at h
    · rename_i d v q t e
      have u:Ys P n S f o v:=Ys.pure fun w=>by
        unfold S4 at e
        split at e
        · rename_i x g
          obtain rfl:=Option.some.inj e
          exact K8 g w
        · cases e
      exact Wl.ys q t u<|Yi l k _ c h<|by simpa using hw
    · cases h
theorem Akc{l:List Oper}(k:Nat)(h:(Iz P n (l.take k) f).isSome=true)(hw:Wl r P ops K (l.drop k) n ds (pf P n k l f) S):Wl r P ops K l n ds f S:=by
  obtain⟨c,g⟩:=Option.isSome_iff_exists.1 h
  have e:pf P n k l f=c:=by simp[pf,g]
  rw[e]at hw
  exact Yi l k f c g hw
def Hx(P:Program)(n:Nat)(ops:Array Oper):List (Nat×Bool)→(Nat→Value)→Option (Nat→Value)
  | [],f=>some f
  |(i,true)::l,f=>match ops[i]? with
    |some o=>match Gt o,o.dst,S4 P n f o with
      |true,some d,some v=>Hx P n ops l (Fg f d v)
      |_,_,_=>none
    |none=>none
  |(_,false)::_,_=>none
def Ez(P:Program)(n:Nat)(ops:Array Oper)(k:Nat)(l:List (Nat×Bool))(f:Nat→Value):Nat→Value:=(Hx P n ops (l.take k) f).getD f
theorem Yj{T:World→Prop}{A:List Nat}: ∀(l:List (Nat×Bool)) (k:Nat) (f c:Nat→Value),Hx P n ops (l.take k) f=some c→Wd P ops K S A (l.drop k) n ds c T→Wd P ops K S A l n ds f T
  |l,0,f,c,h,hw=>by simp[Hx]at h;subst h;exact hw
  | [],k+1,f,c,h,hw=>by simp[Hx]at h;subst h;simpa using hw
  |(i,false)::l,k+1,f,c,h,hw=>by simp[Hx]at h
  |(i,true)::l,k+1,f,c,h,hw=>by
    simp only[List.take_succ_cons,Hx]at h
    split at h
    · rename_i o ho
      split at h
      · rename_i d v q t e
        have u:Ys P n S f o v:=Ys.pure fun w=>by
          unfold S4 at e
          split at e
          · rename_i x g
            obtain rfl:=Option.some.inj e
            exact K8 g w
          · cases e
        exact Wd.ys ho (Nd q) t u<|Yj l k _ c h<|by simpa using hw
      · cases h
    · cases h
theorem Akd{T:World→Prop}{A:List Nat}{l:List (Nat×Bool)}(k:Nat)(h:(Hx P n ops (l.take k) f).isSome=true)(hw:Wd P ops K S A (l.drop k) n ds (Ez P n ops k l f) T):Wd P ops K S A l n ds f T:=by
  obtain⟨c,g⟩:=Option.isSome_iff_exists.1 h
  have e:Ez P n ops k l f=c:=by simp[Ez,g]
  rw[e]at hw
  exact Yj l k f c g hw
theorem Yk{c x y:Operand}{e:Bool}(g:o.op=.pick c x y)(hc:ev n f c=.bool e):Ys P n S f o (bif e then ev n f x else ev n f y):=Ys.pure fun w=>by
  simp only[execOp,g,hc,asBool]
  cases e<;>rfl
theorem B9{c x y:Operand}{e b:Bool}(g:o.op=.pick c x y)(hc:ev n f c=.bool e)(h:ev n f x=bif e then .bool b else undef)(l:ev n f y=.bool false):Ys P n S f o (.bool (e&&b)):=
  (Yk g hc).conseq (by cases e<;>simp[h,l])
theorem Ni{t:TypeId}{a:Addr}{w:World}(c: ∀w,(isAgg t).run P w=.ok false w)(hc:w.cell? a=some v):(loadVar t a).run P w=.ok v w:=by
  simp[loadVar,c,hc]
theorem Nj{t:TypeId}{a:Addr}{w:World}{vs:List Value}(c: ∀w,(isAgg t).run P w=.ok true w)(e: ∀w,(sizeOf t).run P w=.ok vs.length w)(hc: ∀j v,vs[j]? =some v→w.cell? (a.add j)=some v):
    (loadVar t a).run P w=.ok (.agg vs.toArray) w:=by
  have g:=run_loadCells_list (P:=P) w a vs hc
  simp[loadVar,c,e,g]
theorem add_lit(b o j:Nat):(⟨b,o,none⟩:Addr).add j=⟨b,o+j,none⟩:=by
  unfold Addr.add;split<;>simp_all
theorem Nk(a:Addr):a.add 0=a:=by
  unfold Addr.add
  split<;>simp_all
theorem Hc(a:Addr)(m n:Nat):(a.add m).add n=a.add (m+n):=by
  unfold Addr.add
  by_cases c:m=0<;>by_cases e:n=0<;>simp[c,e,Nat.add_assoc]
theorem Od(a:Addr)(i:Nat):(a.add i).block=a.block:=by unfold Addr.add;split<;>rfl
theorem Agf{w:World}{a:Addr}{v:Value}(h:w.cell? a=some v):a.block<w.heap.size:=by
  unfold World.cell? at h
  split at h
  · rename_i c
    exact(Array.getElem?_eq_some_iff.1 c).1
  · cases h
theorem O1{t:TypeId}{x:Operand}{a:Addr}{w:World}(c:o.op=.load t x)(e:ev n f x=.pointer (some a))(h:(loadVar t a).run P w=.ok v w):(execOp (ev n f) o).run P w=.ok (.value v) w:=by
  simp[execOp,c,e,Instr.loadAt,Instr.sureAddr,h]
theorem Ys.ld{t:TypeId}{x:Operand}{a:Addr}(c:o.op=.load t x)(e:ev n f x=.pointer (some a))(g: ∀w,(isAgg t).run P w=.ok false w)(hc: ∀w,S w→w.cell? a=some v):Ys P n S f o v:=
  Rh fun w h=>O1 c e (Ni g (hc w h))
theorem Ys.ldN{t:TypeId}{x:Operand}{a:Addr}{sz:Nat}{vs:List Value}(c:o.op=.load t x)(e:ev n f x=.pointer (some a))(g: ∀w,(isAgg t).run P w=.ok true w)
    (h: ∀w,(sizeOf t).run P w=.ok sz w) (l:vs.length=sz) (hc: ∀w,S w→ ∀j v,vs[j]? =some v→w.cell? (a.add j)=some v):Ys P n S f o (.agg vs.toArray):=
  Rh fun w q=>O1 c e (Nj g (by rw[l];exact h) (hc w q))
theorem Mem.cells{w:World}(h:Mem w0 M LL w){o:Nat}{cs vs:List Value}{t:TypeId}(c:LL[i]? =some s)(e:s[j]? =some (cb b cs t))(g: ∀q v,vs[q]? =some v→cs[o+q]? =some v):
    ∀q v,vs[q]? =some v→w.cell? ((⟨b,o,none⟩:Addr).add q)=some v:=fun q v l=>by
  rw[add_lit]
  exact h.cell c e<|g q v l
theorem Lz{cs vs:List Value}{o sz:Nat}(e:(cs.drop o).take sz=vs): ∀q v,vs[q]? =some v→cs[o+q]? =some v:=fun q v c=>by
  rw[←e,List.getElem?_take]at c
  split at c
  · simpa using c
  · cases c
theorem Bf{t:TypeId}{x:Operand}{o':Nat}{cs:List Value}{ty:TypeId}(c:o.op=.load t x)(e:ev n f x=.pointer (some ⟨b,o',none⟩))(g: ∀w,(isAgg t).run P w=.ok false w)
    (h:LL[i]? =some s) (l:s[j]? =some (cb b cs ty)) (q:cs[o']? =some v):Ys P n (Mem w0 M LL) f o v:=Ys.ld c e g fun _ u=>u.cell h l q
theorem Vo{t:TypeId}{x:Operand}{o' sz:Nat}{cs vs:List Value}{ty:TypeId}(c:o.op=.load t x)(e:ev n f x=.pointer (some ⟨b,o',none⟩))(g: ∀w,(isAgg t).run P w=.ok true w)
    (h: ∀w,(sizeOf t).run P w=.ok sz w) (l:LL[i]? =some s) (q:s[j]? =some (cb b cs ty)) (u:(cs.drop o').take sz=vs) (A:vs.length=sz):Ys P n (Mem w0 M LL) f o (.agg vs.toArray):=
  Ys.ldN c e g h A fun _ B=>B.cells l q (Lz u)
theorem Nl{t:TypeId}{x y:Operand}{a:Addr}{w e:World}(c:o.op=.store t x y)(g:ev n f x=.pointer (some a))(l:ev n f y=v)(h:(storeVar t a v).run P w=.ok () e):(execOp (ev n f) o).run P w=.ok .skip e:=by
  simp[execOp,c,g,l,Instr.storeAt,Instr.sureAddr,h]
theorem Z7(c:v.oneCell'=true):v.cells= #[v]:=by
  cases v<;>first|rfl|cases c
theorem Mem.free{w:World}(h:Mem w0 M LL w){o:Nat}{cs:List Value}{t:TypeId}(c:LL[i]? =some s)(e:s[j]? =some (cb b cs t)):w.frozen? ⟨b,o,none⟩=false:=by
  have:=h.at c e
  simp only at this
  simp[World.frozen?,this]
theorem W7{w:World}(h:Mem w0 M LL w){o:Nat}{cs:List Value}{t:TypeId}(c:LL[i]? =some s)(e:s[j]? =some (cb b cs t))(ho:o<cs.length)(g:v.oneCell'=true):
    (store ⟨b,o,none⟩ v).run P w=.ok () (w.setCell ⟨b,o,none⟩ v):=by
  rw[run_store P w _ v _ g,h.cell c e (List.getElem?_eq_getElem ho),h.free c e]
  simp
theorem Es{t:TypeId}{x y:Operand}{o':Nat}{cs cs':List Value}{ty:TypeId}(q:o.dst=none)(c:o.op=.store t x y)(u:ev n f x=.pointer (some ⟨b,o',none⟩))(A:ev n f y=v)
    (B: ∀w,(sizeOf t).run P w=.ok 1 w) (e:v.oneCell'=true) (g:LL[i]? =some s) (h:s[j]? =some (cb b cs ty)) (ho:o'<cs.length) (hcs:cs.set o' v=cs') (C:LL.set i (s.set j (cb b cs' ty))=LL'):
    Ht (β:=Unit) P n (Mem w0 M LL) f o (fun _=>f) (fun _=>Mem w0 M LL'):=fun ds w l K D=>by
  have E:(storeVar t ⟨b,o',none⟩ v).run P w=.ok () (w.setCell ⟨b,o',none⟩ v):=by
    simp only[storeVar,Sem.run_bind,B,Z7 e,Result.andThen_ok]
    have:(⟨b,o',none⟩:Addr).add 0=⟨b,o',none⟩:=rfl
    simp[storeCells,this,W7 l g h ho e]
  unfold Oper.wp
  rw[Dj,Nl c u A E]
  subst hcs
  have:=D () _ (C▸l.setCell g h v)
  simp only[Oper.upon,q,K6]
  exact this
def Bt(cs:List Value)(o:Nat)(vs:List Value):List Value:=cs.take o++(vs++cs.drop (o+vs.length))
theorem Cw(cs:List Value)(o:Nat)(vs:List Value)(h:o+vs.length≤cs.length):(Bt cs o vs).length=cs.length:=by
  unfold Bt;simp;omega
theorem Aaa(cs:List Value)(o:Nat):Bt cs o []=cs:=by simp[Bt]
theorem Fs{w:World}(h:Mem w0 M LL w)(vs:List Value)(o k:Nat){cs:List Value}{t:TypeId}(g:LL[i]? =some s)(l:s[j]? =some (cb b cs t))(u:o+vs.length≤cs.length)(x: ∀v∈vs,v.oneCell'=true):
    ∃q,(storeCells ⟨b,o,none⟩ vs 0).run P w=.ok () q∧Mem w0 M (LL.set i (s.set j (cb b (Bt cs o vs) t))) q:=by
  have c:=h.at g l
  simp only at c
  have My:=run_storeCells_at P b o t vs 0 cs.toArray w c (by simpa using u) x
  refine⟨_,My,?_⟩
  have e:((cs.toArray).toList.take (o+0)++vs++(cs.toArray).toList.drop (o+0+vs.length))=Bt cs o vs:=by simp[Bt]
  rw[e]
  exact h.putO g l rfl rfl rfl (by simp[World.setRow]) (fun k _ A=>setRow_other w b k _ A)<|setRow_heap w b _ _ t _ c
theorem S5{t:TypeId}{x y:Operand}{o':Nat}{cs vs cs':List Value}{ty:TypeId}(g:o.dst=none)(c:o.op=.store t x y)(h:ev n f x=.pointer (some ⟨b,o',none⟩))(l:ev n f y=.agg vs.toArray)
    (q: ∀w,(sizeOf t).run P w=.ok vs.length w) (u: ∀v∈vs,v.oneCell'=true) (A:LL[i]? =some s) (B:s[j]? =some (cb b cs ty)) (ho:o'+vs.length≤cs.length) (hcs:Bt cs o' vs=cs') (C:LL.set i (s.set j (cb b cs' ty))=LL'):
    Ht (β:=Unit) P n (Mem w0 M LL) f o (fun _=>f) (fun _=>Mem w0 M LL'):=fun ds w D K E=>by
  obtain⟨F,G,e⟩:=Fs (P:=P) D vs o' 0 A B ho u
  have H:(storeVar t ⟨b,o',none⟩ (.agg vs.toArray)).run P w=.ok () F:=by
    simp only[storeVar,Sem.run_bind,q,Value.cells,Result.andThen_ok]
    simpa using G
  unfold Oper.wp
  rw[Dj,Nl c h l H]
  rw[hcs,C]at e
  have:=E () _ e
  simp only[Oper.upon,g,K6]
  exact this
theorem Bj{mk:Nat→Value}{t:TypeId}{cs:List Value}(c:o.dst=some d)
    (e: ∀w,(execOp (ev n f) o).run P w=.ok (.value (mk w.heap.size)) {w with heap:=w.heap.push (.cells cs.toArray t (0,0))}):
    Ht P n (Mem w0 M LL) f o (fun b=>Fg f d (mk b)) (fun b=>Mem w0 M ([cb b cs t]::LL)):=fun ds w g K h=>by
  unfold Oper.wp
  rw[Dj,e]
  simp only[Oper.upon,c,Dy]
  exact h _ _<|g.alloc cs t
theorem Ht.alloc{t:TypeId}{z:Value}{cs:List Value}(g:o.dst=some d)(c:o.op=.alloc t)(h: ∀w,(zeroValue t).run P w=.ok z w)(hcs:z.cells.toList=cs):
    Ht P n (Mem w0 M LL) f o (fun b=>Fg f d (.pointer (some ⟨b,0,none⟩))) (fun b=>Mem w0 M ([cb b cs t]::LL)):=Bj (mk:=fun b=>.pointer (some ⟨b,0,none⟩)) g fun w=>by
  have e:z.cells=cs.toArray:=by rw[←hcs]
  simp[execOp,c,Instr.alloc,h,newVar,newRow,newObj,Sem.run,e]
theorem E9{t:TypeId}{x:Operand}{cs:List Value}(g:o.dst=some d)(c:o.op=.box t x)(h:ev n f x=v)(hcs:v.cells.toList=cs):
    Ht P n (Mem w0 M LL) f o (fun b=>Fg f d (.pointer (some ⟨b,0,none⟩))) (fun b=>Mem w0 M ([cb b cs t]::LL)):=Bj (mk:=fun b=>.pointer (some ⟨b,0,none⟩)) g fun w=>by
  have e:v.cells=cs.toArray:=by rw[←hcs]
  simp[execOp,c,h,Instr.box,newVar,newRow,newObj,Sem.run,e]
end
section
variable {r:Option Nat}{P:Program}{ops:Array Oper}{Q:Exit→Act→World→Prop}{K:Act→World→Prop}{S:World→Prop}{n:Nat}{ds:List Deferred}{f:Nat→Value}{o:Oper}{rest:List Oper}{v:Value}{d:Nat}{w0:World}{M:List Nat}{LL LL':List (List Blk)}{s:List Blk}{i j b:Nat}
theorem Yc.call{k:FuncId}{args:Array Value}(h: ∀w,(execOp (ev n f) o).run P w=.ok (.enter k args) w)(hc: ∀w,Mem w0 M LL w→Calls P k args w (Df w v)):Yc P n (Mem w0 M LL) f o v:=fun ds w c K g=>by
  unfold Oper.wp
  rw[Dj,h w]
  refine Calls.mono (hc w c) ?_
  rintro e q ⟨rfl,l⟩
  exact g _<|c.ext l
theorem Agg{β:Type}{k:FuncId}{args:Array Value}{Φ:β→Prop}{x:β→Value}{Lin Lk:List (List Blk)}{Lf Lo:β→List (List Blk)}{Mi:List Nat}(c ks:List Nat)(C:o.dst=some d)
    (h: ∀w,(execOp (ev n f) o).run P w=.ok (.enter k args) w) (l:(c++ks).Nodup) (q:C2 LL c=Lin) (D:C2 LL ks=Lk) (E:Lin.flatten.map (·.b)=Mi)
    (hc: ∀w,Mem w0 M LL w→Mem w Mi Lin w→Calls P k args w (Bn w Φ x Mi Lf)) (t: ∀g,Lf g++Lk=Lo g):
    Ht (β:={g:β//Φ g}) P n (Mem w0 M LL) f o (fun g=>Fg f d (x g.1)) (fun g=>Mem w0 M (Lo g.1)):=fun ds w A K F=>by
  subst E
  have B:Mem w0 M (Lin++Lk) w:=A.pick (c++ks) l (by rw[←q,←D];simp[C2])
  unfold Oper.wp
  rw[Dj,h w]
  refine Calls.mono (hc w A B.local) ?_
  rintro e G ⟨g,u,rfl,H⟩
  simp only[C,Dy]
  exact F ⟨g,u⟩ _ (by show Mem w0 M (Lo g) G;rw[←t g];exact B.back H)
def HtS{β:Type}(P:Program)(n:Nat)(S:World→Prop)(f:Nat→Value)(o:Oper)(Φ:β→Prop)(c:β→Nat→Value)(S':β→World→Prop):Prop:=
  Ht (β:={g:β//Φ g}) P n S f o (fun g=>c g.1) (fun g=>S' g.1)
theorem Abw{β:Type}{k:FuncId}{args:Array Value}{Φ:β→Prop}{t:β→Value}{Lin Lk:List (List Blk)}{Lf Lo:β→List (List Blk)}{Mi:List Nat}(c ks:List Nat)(u:o.dst=some d)
    (h: ∀w,(execOp (ev n f) o).run P w=.ok (.enter k args) w) (e:(c++ks).Nodup) (l:C2 LL c=Lin) (x:C2 LL ks=Lk) (A:Lin.flatten.map (·.b)=Mi)
    (hc: ∀w,Mem w0 M LL w→Mem w Mi Lin w→Calls P k args w (Bn w Φ t Mi Lf)) (q: ∀g,Lf g++Lk=Lo g):
    HtS P n (Mem w0 M LL) f o Φ (fun g=>Fg f d (t g)) (fun g=>Mem w0 M (Lo g)):=Agg c ks u h e l x A hc q
theorem Aw{β:Type}{Φ:β→Prop}{c:β→Nat→Value}{S':β→World→Prop}(e:Gt o=true)(h:HtS P n S f o Φ c S')(g: ∀b,Φ b→Wl r P ops K rest n ds (c b) (S' b)):Wl r P ops K (o::rest) n ds f S:=Af e h fun b=>g b.1 b.2
theorem Ca{T:World→Prop}{i:Nat}{pl:List (Nat×Bool)}{A:List Nat}{β:Type}{Φ:β→Prop}{e:β→Nat→Value}{T':β→World→Prop}(g:ops[i]? =some o)(l:o.guard=none)(h:HtS P n T f o Φ e T')(c:Gb .any ops A i=true∨ ∀b w,T' b w→S w)(q: ∀b,Φ b→Wd P ops K S A pl n ds (e b) (T' b)):Wd P ops K S A ((i,false)::pl) n ds f T:=
  Cj g l h (c.imp_right fun h b w=>h b.1 w) fun b=>q b.1 b.2
theorem Yl{T:World→Prop}{i:Nat}{pl:List (Nat×Bool)}{A:List Nat}{β:Type}{Φ:β→Prop}{e:β→Nat→Value}{T':β→World→Prop}(g:ops[i]? =some o)(hw:Region.wanted o (yl ops n f)=true)(h:HtS P n T f o Φ e T')(c:Gb .any ops A i=true∨ ∀b w,T' b w→S w)(l: ∀b,Φ b→Wd P ops K S A pl n ds (e b) (T' b)):Wd P ops K S A ((i,false)::pl) n ds f T:=
  Abt g hw h (c.imp_right fun h b w=>h b.1 w) fun b=>l b.1 b.2
theorem Agh{β:Type}{Φ:β→Prop}{c:β→Nat→Value}{S':β→World→Prop}(e:H7 o=true)(hw:Region.wanted o (yl ops n f)=true)(h:HtS P n S f o Φ c S')(g: ∀b,Φ b→Wl r P ops K rest n ds (c b) (S' b)):Wl r P ops K (o::rest) n ds f S:=Akb e hw h fun b=>g b.1 b.2
theorem Cn(b o' i j:Nat){t:TypeId}(e: ∀w,(isAgg t).run P w=.ok false w){x:Operand}{cs:List Value}{ty:TypeId}(c:o.op=.load t x:=by rfl)(g:ev n f x=.pointer (some ⟨b,o',none⟩):=by kernel_rfl)
    (h:LL[i]? =some s:=by rfl) (l:s[j]? =some (cb b cs ty):=by rfl) (q:cs[o']? =some v:=by rfl):Ys P n (Mem w0 M LL) f o v:=Bf c g e h l q
theorem Ap7{l:List Oper}(c:List Nat)(g:c.Nodup)(e:C2 LL c=LL')(h:Wl r P ops K l n ds f (Mem w0 M LL')):Wl r P ops K l n ds f (Mem w0 M LL):=Wl.conseq (fun _ q=>q.pick c g e) h
theorem Al{c:Code}(g:List Nat)(l:g.Nodup)(e:C2 LL g=LL')(h:W r P Q c n ds f (Mem w0 M LL')):W r P Q c n ds f (Mem w0 M LL):=W.conseq (fun _ q=>q.pick g l e) h
theorem B0{l:List Oper}(e:LL=LL')(h:Wl r P ops K l n ds f (Mem w0 M LL')):Wl r P ops K l n ds f (Mem w0 M LL):=by rwa[e]
theorem Iv{fn:Func}{R:Ending→World→Prop}{w:World}(c:fn.results= #[])(e:R (.returned (.tuple #[])) w):W5 P fn R (Fr n ds f) w:=by
  refine⟨_,?_,e⟩
  rw[Ia]
  simp[c]
theorem Abx{fn:Func}{R:Ending→World→Prop}{r:ResultVar}{w:World}(c:fn.results= #[r])(e:RV P S n f r v)(g:S w)(h:R (.returned v) w):W5 P fn R (Fr n ds f) w:=by
  refine⟨v,?_,h⟩
  rw[Ia]
  simp[c,Ew g e]
theorem An1{fn:Func}{R:Ending→World→Prop}{h l:ResultVar}{q t:Value}{w:World}(c:fn.results= #[h,l])(e:RV P S n f h q)(g:RV P S n f l t)(u:S w)(x:R (.returned (.tuple #[q,t])) w):W5 P fn R (Fr n ds f) w:=by
  refine⟨_,?_,x⟩
  rw[Ia]
  simp[c,Ew u e,Ew u g]
theorem Aqp{fn:Func}{R:Ending→World→Prop}{q t u:ResultVar}{x A B:Value}{w:World}(c:fn.results= #[q,t,u])(e:RV P S n f q x)(g:RV P S n f t A)(h:RV P S n f u B)(l:S w)
    (C:R (.returned (.tuple #[x,A,B])) w):W5 P fn R (Fr n ds f) w:=by
  refine⟨_,?_,C⟩
  rw[Ia]
  simp[c,Ew l e,Ew l g,Ew l h]
theorem Ri{fn:Func}{R:Ending→World→Prop}{t u x A:ResultVar}{B C D E:Value}{w:World}(c:fn.results= #[t,u,x,A])(g:RV P S n f t B)(h:RV P S n f u C)(l:RV P S n f x D)(q:RV P S n f A E)(e:S w)
    (F:R (.returned (.tuple #[B,C,D,E])) w):W5 P fn R (Fr n ds f) w:=by
  refine⟨_,?_,F⟩
  rw[Ia]
  simp[c,Ew e g,Ew e h,Ew e l,Ew e q]
theorem Ake{t:Nat}(h:ev n f (.tmp t)=v):RV P S n f (.tmp t) v:=h
theorem Cg{t:TypeId}{a o':Nat}{cs:List Value}{ty:TypeId}(c:ev n f (.tmp a)=.pointer (some ⟨b,o',none⟩))(e: ∀w,(isAgg t).run P w=.ok false w)(g:LL[i]? =some s)(h:s[j]? =some (cb b cs ty))(l:cs[o']? =some v):
    RV P (Mem w0 M LL) n f (.cell a t) v:=⟨_,c,fun _ q=>Ni e (q.cell g h l)⟩
theorem Vp{t:TypeId}{a o' sz:Nat}{cs vs:List Value}{ty:TypeId}(c:ev n f (.tmp a)=.pointer (some ⟨b,o',none⟩))(e: ∀w,(isAgg t).run P w=.ok true w)(g: ∀w,(sizeOf t).run P w=.ok sz w)
    (h:LL[i]? =some s) (l:s[j]? =some (cb b cs ty)) (q:(cs.drop o').take sz=vs) (u:vs.length=sz):RV P (Mem w0 M LL) n f (.cell a t) (.agg vs.toArray):=⟨_,c,fun _ x=>Nj e (by rw[u];exact g) (x.cells h l (Lz q))⟩
end
section
variable {P:Program}{S:World→Prop}{n:Nat}{f:Nat→Value}{o:Oper}{v:Value}
theorem Ad{k:IntKind}{a b:Int}(h:a=b):Value.int k a=Value.int k b:=by rw[h]
theorem B2{a b:Bool}(h:a=b):Value.bool a=Value.bool b:=by rw[h]
theorem Tw{t ty:TypeId}{x y:Operand}{k k':IntKind}{a b:Int}(c:o.op=.binOp .shr t x y ty)(g:ev n f x=.int k a)(l:ev n f y=.int k' b)(h:0≤b):Ys P n S f o (.int k (Ib k a b)):=Ys.pure fun w=>by
  simp only[execOp,c,g,l]
  have e:(eqGuard .shr t x y (.int k a) (.int k' b)).run P w=.ok () w:=rfl
  rw[Sem.run_bind,Sem.run_bind,e]
  simp[binOp,Op.shift,Int.not_lt.2 h,Ib]
theorem W8{t ty:TypeId}{x y:Operand}{k k':IntKind}{a b:Int}(c:o.op=.binOp .shl t x y ty)(g:ev n f x=.int k a)(l:ev n f y=.int k' b)(h:0≤b):Ys P n S f o (.int k (Jb k a b)):=Ys.pure fun w=>by
  simp only[execOp,c,g,l]
  have e:(eqGuard .shl t x y (.int k a) (.int k' b)).run P w=.ok () w:=rfl
  rw[Sem.run_bind,Sem.run_bind,e]
  simp[binOp,Op.shift,Int.not_lt.2 h,Jb]
def D0(s:ByteArray)(k:Nat):Int:=((s[k]?).getD 0).toNat
theorem Hd{t:TypeId}{x g:Operand}{k:IntKind}{s:ByteArray}{i:Int}(c:o.op=.index t x g)(h:ev n f x=.string s)(l:ev n f g=.int k i)(q: ∀w,(underlying t).run P w=.ok .string w)(u:0≤i)(A:i<s.size):
    Ys P n S f o (.int .u8 (D0 s i.toNat)):=Ys.pure fun w=>by
  have e:i.toNat<s.size:=by omega
  simp[execOp,c,h,l,Instr.index,asIntOf,q,u,D0,e]
theorem lz{x:Value}{g:Bool}{v u:Value}(h:g=true)(e:x=(bif g then v else u)):x=v:=by rw[e,h];rfl
theorem Bh{t:Nat}{v0:Value}(h:f t=v0)(c:Ys P n S (Fg f t v0) o v):Ys P n S f o v:=by rwa[K7 h]at c
theorem I0{t:Nat}{v0:Value}(h:f t=v0)(c:Yc P n S (Fg f t v0) o v):Yc P n S f o v:=by rwa[K7 h]at c
theorem Bv{ops:Array Oper}{j:Nat}{e:Bool}(c:o.guard=some (j,true))(h:yl ops n f j=some e):Region.wanted o (yl ops n f)=e:=by
  rw[Ke c h];cases e<;>rfl
theorem Are{ops:Array Oper}{j:Nat}{e:Bool}(c:o.guard=some (j,false))(h:yl ops n f j=some e):Region.wanted o (yl ops n f)= !e:=by
  rw[Ke c h];cases e<;>rfl
theorem F7{ops:Array Oper}{j t:Nat}{g e:Bool}(c:o.guard=some (j,true))(l:(ops[j]?).bind (·.dst)=some t)(h:ev n f (.tmp t)=(bif g then .bool e else undef)):Region.wanted o (yl ops n f)=(g&&e):=by
  cases g<;>simp[Region.wanted,c,yl,l,h,undef]
theorem Dr{ops:Array Oper}{j t:Nat}{g e:Bool}(c:o.guard=some (j,false))(l:(ops[j]?).bind (·.dst)=some t)(h:ev n f (.tmp t)=(bif g then .bool e else undef)):Region.wanted o (yl ops n f)=(g&& !e):=by
  cases g<;>simp[Region.wanted,c,yl,l,h,undef]
theorem Ce{c x y:Operand}{e b:Bool}(g:o.op=.pick c x y)(hc:ev n f c=.bool e)(h:ev n f x=.bool true)(l:ev n f y=bif (!e)then .bool b else undef):Ys P n S f o (.bool (e||b)):=
  (Yk g hc).conseq (by cases e<;>simp[h,l])
end
def ldM(P:Program)(LL:List (List Blk))(t:TypeId)(a:Addr)(h:Nat×Nat):Option (Value×Nat×Nat):=
  match a.spot,(LL[h.1]?).bind (·[h.2]?)with
  |none,some ⟨b',.cells cs _ fr⟩=>bif fr.1.beq 0&&fr.2.beq 0 then
      match pv P (isAgg t)with
      |some false=>(cs.toList[a.off]?).map fun v=>(v,a.block,b')
      |some true=>match pv P (sizeOf t)with
        |some sz=>bif ((cs.toList.drop a.off).take sz).length.beq sz then some (.agg ((cs.toList.drop a.off).take sz).toArray,a.block,b')else none
        |none=>none
      |none=>none
    else none
  |_,_=>none
def Ym(P:Program)(n:Nat)(LL:List (List Blk))(o:Oper)(c:List (Nat×Nat))(f:Nat→Value):Option (Value×List (Nat×Nat)×List (Nat×Nat)):=match o.op with
  | .load t x=>match ev n f x,c with
    | .pointer (some a),h::c=>match ldM P LL t a h with
      |some (v,e)=>some (v,c,[e])
      |none=>none
    |_,_=>none
  |_=>match S4 P n f o with
    |some v=>some (v,c,[])
    |none=>none
def Jk(P:Program)(n:Nat)(ops:Array Oper)(LL:List (List Blk)):List Oper→List (Nat×Nat)→(Nat→Value)→Option ((Nat→Value)×List (Nat×Nat))
  | [],_,f=>some (f,[])
  |o::l,hs,f=>match H7 o,o.dst with
    |true,some d=>match Region.wanted o (yl ops n f)with
      |false=>Jk P n ops LL l hs (Fg f d undef)
      |true=>match Ym P n LL o hs f with
        |some (v,hs,e)=>(Jk P n ops LL l hs (Fg f d v)).map fun r=>(r.1,e++r.2)
        |none=>none
    |_,_=>none
section
variable {r:Option Nat}{P:Program}{ops:Array Oper}{Q:Exit→Act→World→Prop}{K:Act→World→Prop}{n:Nat}{ds:List Deferred}{f:Nat→Value}{o:Oper}{v:Value}{w0:World}{M:List Nat}{LL:List (List Blk)}
theorem Akf{t:TypeId}{x:Operand}{a:Addr}{h:Nat×Nat}{e:Nat×Nat}(q:o.op=.load t x)(F:ev n f x=.pointer (some a))(c:ldM P LL t a h=some (v,e))(G:e.1=e.2):Ys P n (Mem w0 M LL) f o v:=by
  obtain⟨b,w,sp⟩:=a
  unfold ldM at c
  split at c
  · rename_i A cs I B C J
    obtain rfl:sp=none:=C
    obtain⟨s,H,L⟩:=Option.bind_eq_some_iff.1 J
    cases g:(B.1.beq 0&&B.2.beq 0)with
    |false=>rw[g]at c;cases c
    |true=>
      rw[g]at c
      obtain rfl:B=(0,0):=by
        rw[Bool.and_eq_true]at g
        exact Prod.ext (Nat.eq_of_beq_eq_true g.1)<|Nat.eq_of_beq_eq_true g.2
      simp only[cond_true]at c
      have u:s[h.2]? =some (cb A cs.toList I):=by rw[L]
      split at c
      · rename_i l
        obtain⟨R,N,O⟩:=Option.map_eq_some_iff.1 c
        obtain⟨rfl,rfl⟩:=Prod.mk.inj O
        obtain rfl:b=A:=G
        exact Bf q F (K8 l) H u N
      · rename_i l
        split at c
        · rename_i sz D
          cases E:((cs.toList.drop w).take sz).length.beq sz with
          |false=>rw[E]at c;cases c
          |true=>
            rw[E]at c
            obtain⟨rfl,rfl⟩:=Prod.mk.inj (Option.some.inj c)
            obtain rfl:b=A:=G
            exact Vo q F (K8 l) (K8 D) H u rfl<|Nat.eq_of_beq_eq_true E
        · cases c
      · cases c
  · cases c
theorem Nm{A c e:List (Nat×Nat)}(h:Ym P n LL o A f=some (v,c,e))(B:e.map Prod.fst=e.map Prod.snd):Ys P n (Mem w0 M LL) f o v:=by
  unfold Ym at h
  split at h
  · rename_i t x l
    split at h
    · rename_i a F c C
      split at h
      · rename_i u G D
        obtain⟨rfl,E⟩:=Prod.mk.inj (Option.some.inj h)
        obtain⟨_,rfl⟩:=Prod.mk.inj E
        exact Akf l C D<|by simpa using B
      · cases h
    · cases h
  · split at h
    · rename_i u g
      obtain⟨rfl,_⟩:=Prod.mk.inj (Option.some.inj h)
      exact Ys.pure fun w=>by
        unfold S4 at g
        split at g
        · rename_i u q
          obtain rfl:=Option.some.inj g
          exact K8 q w
        · cases g
    · cases h
theorem W9{a b:List (Nat×Nat)}(h:(a++b).map Prod.fst=(a++b).map Prod.snd):a.map Prod.fst=a.map Prod.snd∧b.map Prod.fst=b.map Prod.snd:=by
  rw[List.map_append,List.map_append]at h
  exact List.append_inj h<|by simp
theorem Aby: ∀(l:List Oper) (k:Nat) (c:List (Nat×Nat)) (f g:Nat→Value) (es:List (Nat×Nat)),Jk P n ops LL (l.take k) c f=some (g,es)→es.map Prod.fst=es.map Prod.snd→Wl r P ops K (l.drop k) n ds g (Mem w0 M LL)→Wl r P ops K l n ds f (Mem w0 M LL)
  |l,0,c,f,g,es,h,he,hw=>by
    simp only[List.take_zero,Jk,Option.some.injEq,Prod.mk.injEq]at h
    obtain⟨rfl,_⟩:=h;exact hw
  | [],k+1,c,f,g,es,h,he,hw=>by
    simp only[List.take_nil,Jk,Option.some.injEq,Prod.mk.injEq]at h
    obtain⟨rfl,_⟩:=h;simpa using hw
  |o::l,k+1,c,f,g,es,h,he,hw=>by
    simp only[List.take_succ_cons,Jk]at h
    split at h
    · rename_i d x u
      split at h
      · rename_i q
        exact Ye q u<|Aby l k c _ g es h he<|by simpa using hw
      · rename_i q
        split at h
        · rename_i v t e c
          obtain⟨C,A,B⟩:=Option.map_eq_some_iff.1 h
          obtain⟨rfl,rfl⟩:=Prod.mk.inj B
          have w:=W9 he
          exact Bz true x q u (fun _=>Nm c w.1)<|Aby l k t _ _ _ A w.2<|by simpa using hw
        · cases h
    · cases h
def mf(P:Program)(n:Nat)(ops:Array Oper)(LL:List (List Blk))(k:Nat)(l:List Oper)(c:List (Nat×Nat))(f:Nat→Value):(Nat→Value)×List (Nat×Nat):=(Jk P n ops LL (l.take k) c f).getD (f,[])
theorem An2{k:Nat}{l:List Oper}{c:List (Nat×Nat)}(h:(Jk P n ops LL (l.take k) c f).isSome=true):Jk P n ops LL (l.take k) c f=some ((mf P n ops LL k l c f).1,(mf P n ops LL k l c f).2):=by
  obtain⟨g,e⟩:=Option.isSome_iff_exists.1 h
  simp[mf,e]
theorem A5{l:List Oper}(k:Nat)(c:List (Nat×Nat))(hw:Wl r P ops K (l.drop k) n ds (mf P n ops LL k l c f).1 (Mem w0 M LL))(h:(Jk P n ops LL (l.take k) c f).isSome=true:=by kernel_rfl)(e:(mf P n ops LL k l c f).2.map Prod.fst=(mf P n ops LL k l c f).2.map Prod.snd:=by kernel_rfl):Wl r P ops K l n ds f (Mem w0 M LL):=
  Aby l k c f _ _ (An2 h) e hw
theorem Aj{e:Nat}{l:List Oper}{y:Code}(c:List (Nat×Nat))(hw:W r P Q y n ds (mf P n l.toArray LL l.length l c f).1 (Mem w0 M LL))(h:(Jk P n l.toArray LL (l.take l.length) c f).isSome=true:=by kernel_rfl)(g:(mf P n l.toArray LL l.length l c f).2.map Prod.fst=(mf P n l.toArray LL l.length l c f).2.map Prod.snd:=by kernel_rfl):W r P Q (.seq (.region e l.toArray false) y) n ds f (Mem w0 M LL):=
  Anz fun K q=>Ac (A5 l.length c (by rw[List.drop_length];exact Ay (q _ _ _ hw)) h g)
def K9(P:Program)(n:Nat)(ops:Array Oper)(A:List Nat)(c:Bool)(LS LL:List (List Blk)):List (Nat×Bool)→List (Nat×Nat)→(Nat→Value)→Option ((Nat→Value)×List (Nat×Nat))
  | [],_,f=>some (f,[])
  |(i,b)::l,hs,f=>match ops[i]? with
    |some o=>match Gt o,o.dst,b||(c||Gb .any ops A i)with
      |true,some d,true=>match Ym P n (bif b then LS else LL) o hs f with
        |some (v,hs,e)=>(K9 P n ops A c LS LL l hs (Fg f d v)).map fun r=>(r.1,e++r.2)
        |none=>none
      |_,_,_=>none
    |none=>none
variable {A:List Nat}{tb:Bool}{LS:List (List Blk)}
theorem Yn(g:tb=true→ ∀w,Mem w0 M LL w→Mem w0 M LS w): ∀(l:List (Nat×Bool)) (k:Nat) (c:List (Nat×Nat)) (f q:Nat→Value) (es:List (Nat×Nat)),K9 P n ops A tb LS LL (l.take k) c f=some (q,es)→es.map Prod.fst=es.map Prod.snd→Wd P ops K (Mem w0 M LS) A (l.drop k) n ds q (Mem w0 M LL)→Wd P ops K (Mem w0 M LS) A l n ds f (Mem w0 M LL)
  |l,0,c,f,q,es,h,he,hw=>by
    simp only[List.take_zero,K9,Option.some.injEq,Prod.mk.injEq]at h
    obtain⟨rfl,_⟩:=h;exact hw
  | [],k+1,c,f,q,es,h,he,hw=>by
    simp only[List.take_nil,K9,Option.some.injEq,Prod.mk.injEq]at h
    obtain⟨rfl,_⟩:=h;simpa using hw
  |(i,b)::l,k+1,c,f,q,es,h,he,hw=>by
    simp only[List.take_succ_cons,K9]at h
    split at h
    · rename_i o ho
      split at h
      · rename_i d B C D
        split at h
        · rename_i v u e c
          obtain⟨G,E,F⟩:=Option.map_eq_some_iff.1 h
          obtain⟨rfl,rfl⟩:=Prod.mk.inj F
          have x:=W9 he
          have t:=Yn g l k u _ _ _ E x.2 (by simpa using hw)
          cases b with
          |true=>exact Wd.ys ho (Nd B) C (Nm c x.1) t
          |false=>
            refine Wd.yc ho (Nd B) C (Nm c x.1).yc ?_ t
            cases tb with
            |true=>exact .inr (g rfl)
            |false=>exact .inl (by simpa using D)
        · cases h
      · cases h
    · cases h
def df(P:Program)(n:Nat)(ops:Array Oper)(A:List Nat)(tb:Bool)(LS LL:List (List Blk))(k:Nat)(l:List (Nat×Bool))(c:List (Nat×Nat))(f:Nat→Value):(Nat→Value)×List (Nat×Nat):=(K9 P n ops A tb LS LL (l.take k) c f).getD (f,[])
theorem Abz{k:Nat}{l:List (Nat×Bool)}{c:List (Nat×Nat)}(h:(K9 P n ops A tb LS LL (l.take k) c f).isSome=true):K9 P n ops A tb LS LL (l.take k) c f=some ((df P n ops A tb LS LL k l c f).1,(df P n ops A tb LS LL k l c f).2):=by
  obtain⟨g,e⟩:=Option.isSome_iff_exists.1 h
  simp[df,e]
theorem Dh{l:List (Nat×Bool)}(k:Nat)(c:List (Nat×Nat))(hw:Wd P ops K (Mem w0 M LS) A (l.drop k) n ds (df P n ops A false LS LL k l c f).1 (Mem w0 M LL))(h:(K9 P n ops A false LS LL (l.take k) c f).isSome=true:=by kernel_rfl)(e:(df P n ops A false LS LL k l c f).2.map Prod.fst=(df P n ops A false LS LL k l c f).2.map Prod.snd:=by kernel_rfl):Wd P ops K (Mem w0 M LS) A l n ds f (Mem w0 M LL):=
  Yn (fun h=>by cases h) l k c f _ _ (Abz h) e hw
theorem Bs{l:List (Nat×Bool)}(k:Nat)(c:List (Nat×Nat))(hw:Wd P ops K (Mem w0 M LL) A (l.drop k) n ds (df P n ops A true LL LL k l c f).1 (Mem w0 M LL))(h:(K9 P n ops A true LL LL (l.take k) c f).isSome=true:=by kernel_rfl)(e:(df P n ops A true LL LL k l c f).2.map Prod.fst=(df P n ops A true LL LL k l c f).2.map Prod.snd:=by kernel_rfl):Wd P ops K (Mem w0 M LL) A l n ds f (Mem w0 M LL):=
  Yn (fun _ _ h=>h) l k c f _ _ (Abz h) e hw
theorem Wd.mp{l:List (Nat×Bool)}(k:Nat)(c:List (Nat×Nat))(e:List Nat)(hw:Wd P ops K (Mem w0 M LS) A (l.drop k) n ds (df P n ops A true LS LL k l c f).1 (Mem w0 M LL))(g:e.Nodup:=by decide)(q:C2 LL e=LS:=by rfl)(h:(K9 P n ops A true LS LL (l.take k) c f).isSome=true:=by kernel_rfl)(t:(df P n ops A true LS LL k l c f).2.map Prod.fst=(df P n ops A true LS LL k l c f).2.map Prod.snd:=by kernel_rfl):Wd P ops K (Mem w0 M LS) A l n ds f (Mem w0 M LL):=
  Yn (fun _ _ h=>h.pick e g q) l k c f _ _ (Abz h) t hw
end
def Rj(o:Oper):Oper:={o with guard:=none}
def Gs(P:Program)(n:Nat)(S:World→Prop):List Oper→(Nat→Value)→(Nat→Value)→Prop
  | [],f,f'=>f'=f
  |o::l,f,f'=> ∃d v,o.dst=some d∧Yc P n S f o v∧Gs P n S l (Fg f d v) f'
def gok(c:Nat)(want:Bool)(t:Nat):List Oper→Bool
  | []=>true
  |o::l=>(match o.guard with|some g=>g.1.beq c&&(g.2==want)|none=>false)&&(H7 o&&((match o.dst with|some d=> !(d.beq t)|none=>false)&&gok c want t l))
def inD(x:Nat):List Oper→Bool
  | []=>false
  |o::l=>(match o.dst with|some d=>Nat.beq x d|none=>false)||inD x l
def mg(g:Bool)(l:List Oper)(c f:Nat→Value):Nat→Value:=fun x=>bif inD x l then(bif g then c x else undef)else f x
def gc(l:List Oper):Nat:=match l with|o::_=>(match o.guard with|some g=>g.1|none=>0)| []=>0
def gt(ops:Array Oper)(l:List Oper):Nat:=((ops[gc l]?).bind (·.dst)).getD 0
section
variable {r:Option Nat}{P:Program}{ops:Array Oper}{Q:Exit→Act→World→Prop}{K:Act→World→Prop}{n:Nat}{ds:List Deferred}{f f':Nat→Value}{o:Oper}{v:Value}{w0:World}{M:List Nat}{LL:List (List Blk)}{S:World→Prop}{l:List Oper}{c t:Nat}{e want:Bool}
theorem Gs.nil:Gs P n S [] f f:=rfl
theorem Gs.k(h:Yc P n S f o v)(g:Gs P n S l (Fg f (o.dst.getD 0) v) f')(q:o.dst.isSome=true:=by rfl):Gs P n S (o::l) f f':=by
  obtain⟨d,e⟩:=Option.isSome_iff_exists.1 q
  rw[e]at g;exact⟨d,v,e,h,g⟩
theorem Gs.y(h:Ys P n S f o v)(g:Gs P n S l (Fg f (o.dst.getD 0) v) f')(q:o.dst.isSome=true:=by rfl):Gs P n S (o::l) f f':=Gs.k h.yc g q
theorem Gs.m_: ∀(l:List Oper) (k:Nat) (g:List (Nat×Nat)) (f q:Nat→Value) (es:List (Nat×Nat)),Jk P n #[] LL ((l.take k).map Rj) g f=some (q,es)→es.map Prod.fst=es.map Prod.snd→Gs P n (Mem w0 M LL) (l.drop k) q f'→Gs P n (Mem w0 M LL) l f f'
  |l,0,g,f,q,es,h,he,hw=>by
    simp only[List.take_zero,List.map_nil,Jk,Option.some.injEq,Prod.mk.injEq]at h
    obtain⟨rfl,_⟩:=h;exact hw
  | [],k+1,g,f,q,es,h,he,hw=>by
    simp only[List.take_nil,List.map_nil,Jk,Option.some.injEq,Prod.mk.injEq]at h
    obtain⟨rfl,_⟩:=h;simpa using hw
  |o::l,k+1,g,f,q,es,h,he,hw=>by
    simp only[List.take_succ_cons,List.map_cons,Jk]at h
    split at h
    · rename_i d H C
      have u:o.dst=some d:=C
      split at h
      · rename_i D;cases D
      · split at h
        · rename_i v w e g
          obtain⟨I,E,F⟩:=Option.map_eq_some_iff.1 h
          obtain⟨rfl,rfl⟩:=Prod.mk.inj F
          have B:=W9 he
          have G:Ys P n (Mem w0 M LL) f (Rj o) v:=Nm g B.1
          have x:Ys P n (Mem w0 M LL) f o v:=G
          exact⟨d,v,u,x.yc,Gs.m_ l k w _ _ _ E B.2<|by simpa using hw⟩
        · cases h
    · cases h
def gf(P:Program)(n:Nat)(LL:List (List Blk))(k:Nat)(l:List Oper)(g:List (Nat×Nat))(f:Nat→Value):(Nat→Value)×List (Nat×Nat):=(Jk P n #[] LL ((l.take k).map Rj) g f).getD (f,[])
theorem Ajk{k:Nat}{g:List (Nat×Nat)}(h:(Jk P n #[] LL ((l.take k).map Rj) g f).isSome=true):Jk P n #[] LL ((l.take k).map Rj) g f=some ((gf P n LL k l g f).1,(gf P n LL k l g f).2):=by
  obtain⟨f',q⟩:=Option.isSome_iff_exists.1 h
  unfold gf;rw[q];rfl
theorem Gs.m(k:Nat)(g:List (Nat×Nat))(q:Gs P n (Mem w0 M LL) (l.drop k) (gf P n LL k l g f).1 f')(h:(Jk P n #[] LL ((l.take k).map Rj) g f).isSome=true:=by kernel_rfl)(u:(gf P n LL k l g f).2.map Prod.fst=(gf P n LL k l g f).2.map Prod.snd:=by kernel_rfl):Gs P n (Mem w0 M LL) l f f':=Gs.m_ l k g f _ _ (Ajk h) u q
theorem Gs.z(g:List (Nat×Nat))(h:(Jk P n #[] LL ((l.take l.length).map Rj) g f).isSome=true:=by kernel_rfl)(q:(gf P n LL l.length l g f).2.map Prod.fst=(gf P n LL l.length l g f).2.map Prod.snd:=by kernel_rfl):Gs P n (Mem w0 M LL) l f (gf P n LL l.length l g f).1:=Gs.m_ l l.length g f _ _ (Ajk h) q (by rw[List.drop_length];rfl)
theorem Ab0(hc:(ops[c]?).bind (·.dst)=some t){d:Nat}(g:d≠t):yl ops n (Fg f d v) c=yl ops n f c:=by
  have q:Nat.beq t d=false:=by
    cases h:Nat.beq t d with
    |false=>rfl
    |true=>exact absurd (Nat.eq_of_beq_eq_true h).symm g
  simp[yl,hc,ev,Fg,q]
theorem Gs.out: ∀(l:List Oper) (f:Nat→Value),Gs P n S l f f'→ ∀x,inD x l=false→f' x=f x
  | [],f,h,x,_=>by cases h;rfl
  |o::l,f,h,x,hx=>by
    obtain⟨d,v,q,_,u⟩:=h
    have g:(Nat.beq x d||inD x l)=false:=by unfold inD at hx;rw[q]at hx;exact hx
    rw[Bool.or_eq_false_iff]at g
    rw[Gs.out l _ u x g.2]
    unfold Fg;rw[g.1];rfl
theorem An3(h:gok c want t (o::l)=true):o.guard=some (c,want)∧H7 o=true∧(∃d,o.dst=some d∧d≠t)∧gok c want t l=true:=by
  unfold gok at h
  rw[Bool.and_eq_true,Bool.and_eq_true,Bool.and_eq_true]at h
  obtain⟨q,B,u,C⟩:=h
  refine⟨?_,B,?_,C⟩
  · cases w:o.guard with
    |none=>rw[w]at q;cases q
    |some g=>
      rw[w]at q
      simp only[Bool.and_eq_true]at q
      exact congrArg some<|Prod.ext (Nat.eq_of_beq_eq_true q.1)<|eq_of_beq q.2
  · cases x:o.dst with
    |none=>rw[x]at u;cases u
    |some d=>
      rw[x]at u
      refine⟨d,rfl,fun e=>?_⟩
      subst e;simp at u
theorem Yo{rest:List Oper}(hc:(ops[c]?).bind (·.dst)=some t): ∀(l:List Oper) (f:Nat→Value),gok c want t l=true→yl ops n f c=some e→((e==want)=true→Gs P n S l f f')→Wl r P ops K rest n ds (mg (e==want) l f' f) S→Wl r P ops K (l++rest) n ds f S
  | [],f,_,_,h,hw=>hw
  |o::l,f,hk,hy,h,hw=>by
    obtain⟨J,L,⟨d,w,B⟩,C⟩:=An3 hk
    have g:=Ke J hy
    cases u:(e==want)with
    |false=>
      rw[u]at g
      refine Ye g w<|Yo hc l _ C ((Ab0 hc B).trans hy) (fun G=>by rw[u]at G;cases G) ?_
      rw[u]at hw⊢
      have D:mg false l f' (Fg f d undef)=mg false (o::l) f' f:=by
        funext x
        unfold mg
        simp only[inD,w,cond_false]
        cases H:inD x l<;>cases q:Nat.beq x d<;>simp[Fg,q]
      rw[D];exact hw
    |true=>
      rw[u]at g hw
      obtain⟨E,v,F,N,I⟩:=h u
      obtain rfl:E=d:=Option.some.inj (F.symm.trans w)
      refine Ji (v:=v) true L g w (fun _=>N) ?_
      refine Yo hc l _ C ((Ab0 hc B).trans hy) (fun _=>I) ?_
      rw[u]
      have D:mg true l f' (Fg f E (bif true then v else undef))=mg true (o::l) f' f:=by
        funext x
        unfold mg
        simp only[inD,w,cond_true]
        cases H:inD x l with
        |true=>simp
        |false=>
          cases q:Nat.beq x E with
          |false=>simp[Fg,q]
          |true=>simp only[Bool.or_false,cond_true,cond_false];exact(Gs.out l _ I x H).symm
      rw[D];exact hw
theorem Da(k:Nat)(e:Bool)(h:e=true→Gs P n S (l.take k) f f')(q:Wl r P ops K (l.drop k) n ds (mg e (l.take k) f' f) S)(hc:(ops[gc l]?).bind (·.dst)=some (gt ops l):=by kernel_rfl)(u:gok (gc l) true (gt ops l) (l.take k)=true:=by kernel_rfl)(w:yl ops n f (gc l)=some e:=by kernel_rfl):Wl r P ops K l n ds f S:=by
  rw[←List.take_append_drop k l]
  have g:(e==true)=e:=by cases e<;>rfl
  exact Yo (want:=true) hc _ _ u w (by rw[g];exact h)<|by rw[g];exact q
theorem C1(k:Nat)(e:Bool)(h:(!e)=true→Gs P n S (l.take k) f f')(q:Wl r P ops K (l.drop k) n ds (mg (!e) (l.take k) f' f) S)(hc:(ops[gc l]?).bind (·.dst)=some (gt ops l):=by kernel_rfl)(u:gok (gc l) false (gt ops l) (l.take k)=true:=by kernel_rfl)(w:yl ops n f (gc l)=some e:=by kernel_rfl):Wl r P ops K l n ds f S:=by
  rw[←List.take_append_drop k l]
  have g:(e==false)= !e:=by cases e<;>rfl
  exact Yo (want:=false) hc _ _ u w (by rw[g];exact h)<|by rw[g];exact q
end
section
variable {r:Option Nat}{P:Program}{ops:Array Oper}{Q:Exit→Act→World→Prop}{K:Act→World→Prop}{S T:World→Prop}{n:Nat}{ds:List Deferred}{f:Nat→Value}{o:Oper}{rest:List Oper}{v:Value}{w0:World}{M:List Nat}{LL:List (List Blk)}{s:List Blk}{i j:Nat}{A:List Nat}{pl:List (Nat×Bool)}
theorem Ys.p(h: ∀w,(execOp (ev n f) o).run P w=.ok (.value v) w:=by intro _;kernel_rfl):Ys P n S f o v:=Ys.pure h
theorem Ab{l:List Oper}(k:Nat)(hw:Wl r P ops K (l.drop k) n ds (pf P n k l f) S)(h:(Iz P n (l.take k) f).isSome=true:=by kernel_rfl):Wl r P ops K l n ds f S:=Akc k h hw
theorem B5{l:List (Nat×Bool)}(k:Nat)(hw:Wd P ops K S A (l.drop k) n ds (Ez P n ops k l f) T)(h:(Hx P n ops (l.take k) f).isSome=true:=by kernel_rfl):Wd P ops K S A l n ds f T:=Akd k h hw
theorem Cb(h:Yc P n S f o v)(g:Wl r P ops K rest n ds (Fg f (o.dst.getD 0) v) S)(q:Gt o=true:=by rfl)(u:o.dst.isSome=true:=by rfl):Wl r P ops K (o::rest) n ds f S:=by
  obtain⟨d,e⟩:=Option.isSome_iff_exists.1 u
  rw[e]at g;exact Wl.yc q e h g
theorem Ao(h:Ys P n S f o v)(g:Wl r P ops K rest n ds (Fg f (o.dst.getD 0) v) S)(q:Gt o=true:=by rfl)(u:o.dst.isSome=true:=by rfl):Wl r P ops K (o::rest) n ds f S:=Cb h.yc g q u
theorem A8{k:FuncId}{args:Array Value}(hc: ∀w,Mem w0 M LL w→Calls P k args w (Df w v))(h: ∀w,(execOp (ev n f) o).run P w=.ok (.enter k args) w:=by intro _;kernel_rfl):Yc P n (Mem w0 M LL) f o v:=Yc.call h hc
theorem Au{β:Type}{k:FuncId}{args:Array Value}{Φ:β→Prop}{x:β→Value}{Lf:β→List (List Blk)}(q ks:List Nat)(hc: ∀w,Mem w0 M LL w→Mem w ((C2 LL q).flatten.map (·.b)) (C2 LL q) w→Calls P k args w (Bn w Φ x ((C2 LL q).flatten.map (·.b)) Lf))(h: ∀w,(execOp (ev n f) o).run P w=.ok (.enter k args) w:=by intro _;kernel_rfl)(u:(q++ks).Nodup:=by decide)(B:o.dst.isSome=true:=by rfl):
    HtS P n (Mem w0 M LL) f o Φ (fun g=>Fg f (o.dst.getD 0) (x g)) (fun g=>Mem w0 M (Lf g++C2 LL ks)):=by
  obtain⟨d,e⟩:=Option.isSome_iff_exists.1 B
  rw[e];exact Abw q ks e h u rfl rfl rfl hc (fun _=>rfl)
theorem F0(b o' i j:Nat)(vs:List Value){t:TypeId}{sz:Nat}(h: ∀w,(isAgg t).run P w=.ok true w)(q: ∀w,(sizeOf t).run P w=.ok sz w){x:Operand}{cs:List Value}{ty:TypeId}(g:o.op=.load t x:=by rfl)(u:ev n f x=.pointer (some ⟨b,o',none⟩):=by kernel_rfl)
    (B:LL[i]? =some s:=by rfl) (C:s[j]? =some (cb b cs ty):=by rfl) (D:(cs.drop o').take sz=vs:=by rfl) (E:vs.length=sz:=by rfl):Ys P n (Mem w0 M LL) f o (.agg vs.toArray):=Vo g u h q B C D E
theorem Bu(b o' i j:Nat)(vs:List Value){t:TypeId}{a sz:Nat}(g: ∀w,(isAgg t).run P w=.ok true w)(h: ∀w,(sizeOf t).run P w=.ok sz w){cs:List Value}{ty:TypeId}(q:ev n f (.tmp a)=.pointer (some ⟨b,o',none⟩):=by kernel_rfl)
    (u:LL[i]? =some s:=by rfl) (x:s[j]? =some (cb b cs ty):=by rfl) (B:(cs.drop o').take sz=vs:=by rfl) (C:vs.length=sz:=by rfl):RV P (Mem w0 M LL) n f (.cell a t) (.agg vs.toArray):=Vp q g h u x B C
theorem Ar{t:Nat}(v:Value)(h:ev n f (.tmp t)=v:=by kernel_rfl):RV P S n f (.tmp t) v:=Ake h
theorem A0(b o' i j:Nat)(vs:List Value){t:TypeId}{cs:List Value}{ty:TypeId}(h: ∀w,(sizeOf t).run P w=.ok vs.length w)(q:LL[i]? =some s)(u:s[j]? =some (cb b cs ty)){x y:Operand}(g:o.op=.store t x y:=by rfl)(B:o.dst=none:=by rfl)(C:ev n f x=.pointer (some ⟨b,o',none⟩):=by kernel_rfl)(D:ev n f y=.agg vs.toArray:=by kernel_rfl)
    (E: ∀v∈vs,v.oneCell'=true:=by simp[Value.oneCell']) (ho:Nat.ble (o'+vs.length) cs.length=true:=by kernel_rfl):Ht (β:=Unit) P n (Mem w0 M LL) f o (fun _=>f) (fun _=>Mem w0 M (LL.set i (s.set j (cb b (Bt cs o' vs) ty)))):=S5 B g C D h E q u (Nat.le_of_ble_eq_true ho) rfl rfl
theorem Bd(b o' i j:Nat)(v:Value){t:TypeId}{cs:List Value}{ty:TypeId}(h: ∀w,(sizeOf t).run P w=.ok 1 w)(q:LL[i]? =some s)(u:s[j]? =some (cb b cs ty)){x y:Operand}(g:o.op=.store t x y:=by rfl)(B:o.dst=none:=by rfl)(C:ev n f x=.pointer (some ⟨b,o',none⟩):=by kernel_rfl)(D:ev n f y=v:=by kernel_rfl)
    (E:v.oneCell'=true:=by rfl) (ho:Nat.ble (o'+1) cs.length=true:=by kernel_rfl):Ht (β:=Unit) P n (Mem w0 M LL) f o (fun _=>f) (fun _=>Mem w0 M (LL.set i (s.set j (cb b (cs.set o' v) ty)))):=Es B g C D h E q u (Nat.le_of_ble_eq_true ho) rfl rfl
theorem Ba{t:TypeId}{z:Value}(h: ∀w,(zeroValue t).run P w=.ok z w)(g:o.op=.alloc t:=by rfl)(q:o.dst.isSome=true:=by rfl):Ht P n (Mem w0 M LL) f o (fun b=>Fg f (o.dst.getD 0) (.pointer (some ⟨b,0,none⟩))) (fun b=>Mem w0 M ([cb b z.cells.toList t]::LL)):=by
  obtain⟨d,e⟩:=Option.isSome_iff_exists.1 q
  rw[e];exact Ht.alloc e g h rfl
theorem Bx(cs:List Value){t:TypeId}{x:Operand}(g:o.op=.box t x)(h:ev n f x=.agg cs.toArray:=by kernel_rfl)(q:o.dst.isSome=true:=by rfl):Ht P n (Mem w0 M LL) f o (fun b=>Fg f (o.dst.getD 0) (.pointer (some ⟨b,0,none⟩))) (fun b=>Mem w0 M ([cb b cs t]::LL)):=by
  obtain⟨d,e⟩:=Option.isSome_iff_exists.1 q
  rw[e];exact E9 e g h rfl
theorem C5{q:Nat}{l:List Oper}(pl:List (Nat×Bool))(A:List Nat)(h:Wd P l.toArray (Q .normal) (Mem w0 M LL) A pl n ds f (Mem w0 M LL))(u:P.follows .mixedOrders=true:=by kernel_rfl)(w:Mp l.toArray=true:=by kernel_rfl)(g:Region.noSelect l.toArray=true:=by kernel_rfl)
    (x:pl.length=l.length:=by rfl) (B:Na .any l.toArray A (Array.replicate l.length false) pl=true:=by kernel_rfl):W r P Q (.region q l.toArray true) n ds f (Mem w0 M LL):=B3 pl A _ u w g x B (fun _ _ h=>h.drawn _) (fun _ h=>h) h
theorem I1(b o' i j:Nat){t:TypeId}{a sz:Nat}(g: ∀w,(isAgg t).run P w=.ok true w)(h: ∀w,(sizeOf t).run P w=.ok sz w){cs:List Value}{ty:TypeId}(q:ev n f (.tmp a)=.pointer (some ⟨b,o',none⟩):=by kernel_rfl)
    (u:LL[i]? =some s:=by rfl) (x:s[j]? =some (cb b cs ty):=by rfl) (B:((cs.drop o').take sz).length=sz:=by rfl):RV P (Mem w0 M LL) n f (.cell a t) (.agg ((cs.drop o').take sz).toArray):=Vp q g h u x rfl B
theorem Ec{i:Nat}(q:ops[i]? =some o)(h:Yc P n S f o v)(g:Wd P ops K S A pl n ds (Fg f (o.dst.getD 0) v) S)(u:o.guard=none:=by rfl)(w:o.dst.isSome=true:=by rfl):Wd P ops K S A ((i,false)::pl) n ds f S:=by
  obtain⟨d,e⟩:=Option.isSome_iff_exists.1 w
  rw[e]at g;exact Wd.yc q u e h (.inr fun _ h=>h) g
theorem Gg{i:Nat}(g:ops[i]? =some o)(h:Ys P n S f o v)(q:Wd P ops K S A pl n ds (Fg f (o.dst.getD 0) v) S)(u:o.guard=none:=by rfl)(w:o.dst.isSome=true:=by rfl):Wd P ops K S A ((i,false)::pl) n ds f S:=Ec g h.yc q u w
theorem Bm{i:Nat}(q:ops[i]? =some o)(h:Ys P n S f o v)(g:Wd P ops K S A pl n ds (Fg f (o.dst.getD 0) v) T)(u:o.guard=none:=by rfl)(w:o.dst.isSome=true:=by rfl):Wd P ops K S A ((i,true)::pl) n ds f T:=by
  obtain⟨d,e⟩:=Option.isSome_iff_exists.1 w
  rw[e]at g;exact Wd.ys q u e h g
theorem Bw(c a b:Int)(g:Wl r P ops K rest n ds (Fg f (o.dst.getD 0) (.int .i64 c)) S)(h: ∀w,(execOp (ev n f) o).run P w=.ok (.value (.int .i64 (D2 .i64 a b))) w:=by intro _;kernel_rfl)(e:a+b=c:=by omega)(q: -9223372036854775808≤c:=by omega)(u:c≤9223372036854775807:=by omega)(x:Gt o=true:=by rfl)(B:o.dst.isSome=true:=by rfl):Wl r P ops K (o::rest) n ds f S:=
  Ao ((Ys.pure h).conseq (Ad (Fi e q u))) g x B
theorem Am{fn:Func}{R:Ending→World→Prop}(e:Q .ret (Fr n [] f)=bodyPostM (Cv none) 0 P fn R .ret (Fr n [] f))(h: ∀w,S w→W5 P fn R (Fr n [] f) w):W r P Q .ret n [] f S:=Gu fun w g=>by rw[e];exact Hv (h w g)
end
section
variable {r:Option Nat}{P:Program}{ops:Array Oper}{Q:Exit→Act→World→Prop}{K:Act→World→Prop}{S T:World→Prop}{n:Nat}{ds:List Deferred}{f f':Nat→Value}{o:Oper}{rest:List Oper}{v:Value}{w0:World}{M:List Nat}{LL:List (List Blk)}{A:List Nat}{pl:List (Nat×Bool)}{x y:Code}
def KW(r:Option Nat)(P:Program)(Q:Exit→Act→World→Prop)(y:Code):Act→World→Prop:=fun a w=>y.wpIn (Cv r) 0 P Q a w
theorem A9(h:W r P Q y n ds f S): ∀w,S w→KW r P Q y (Fr n ds f) w:=fun w g=>h w g
theorem W.s(h:W r P (Exit.then (KW r P Q y) Q) x n ds f S):W r P Q (.seq x y) n ds f S:=fun w g=>wpIn_seq (h w g)
theorem Av{g:Nat}{l:List Oper}(h:Wl r P l.toArray (KW r P Q y) l n ds f S):W r P Q (.seq (.region g l.toArray false) y) n ds f S:=W.s (Ac h)
theorem Ai(h:W r P Q y n ds f S):Wl r P ops (KW r P Q y) [] n ds f S:=Ay (A9 h)
theorem Cl(h:W r P Q y n ds f S):Wd P ops (KW r P Q y) T A [] n ds f S:=Ev (A9 h)
theorem Eo{a b:Value}(h:a=b):Ending.returned a=Ending.returned b:=congrArg _ h
theorem Ee{LL':List (List Blk)}{p:Prop}(g:List Nat)(q:g.Nodup:=by decide)(u:C2 LL g=LL':=by rfl):p∨ ∀w,Mem w0 M LL w→Mem w0 M LL' w:=.inr fun _ h=>h.pick g q u
theorem Az{β:Type}{LL':β→List (List Blk)}{L:List (List Blk)}{p:Prop}(g:List Nat)(q:g.Nodup:=by decide)(u: ∀b,C2 (LL' b) g=L:=by intro _;rfl):p∨ ∀(b:β) w,Mem w0 M (LL' b) w→Mem w0 M L w:=.inr fun b _ h=>h.pick g q (u b)
theorem fb0{fn:Func}{h:Value}(g:fn.results= #[])(q:Value.tuple #[]=h): ∀w,Mem w0 [] LL w→W5 P fn (Df w0 h) (Fr n [] f) w:=fun w u=>Iv g ⟨congrArg _ q,u.below⟩
theorem D7{fn:Func}{a:ResultVar}{v q:Value}(g:fn.results= #[a])(h:RV P (Mem w0 [] LL) n f a v)(B:v=q): ∀w,Mem w0 [] LL w→W5 P fn (Df w0 q) (Fr n [] f) w:=fun w u=>Abx g h u ⟨congrArg _ B,u.below⟩
theorem L1{fn:Func}{a b:ResultVar}{v u q:Value}(g:fn.results= #[a,b])(h:RV P (Mem w0 [] LL) n f a v)(C:RV P (Mem w0 [] LL) n f b u)(D:Value.tuple #[v,u]=q): ∀w,Mem w0 [] LL w→W5 P fn (Df w0 q) (Fr n [] f) w:=fun w B=>An1 g h C B ⟨congrArg _ D,B.below⟩
theorem Vb{fn:Func}{a b c:ResultVar}{v u x q:Value}(g:fn.results= #[a,b,c])(h:RV P (Mem w0 [] LL) n f a v)(C:RV P (Mem w0 [] LL) n f b u)(D:RV P (Mem w0 [] LL) n f c x)(E:Value.tuple #[v,u,x]=q): ∀w,Mem w0 [] LL w→W5 P fn (Df w0 q) (Fr n [] f) w:=fun w B=>Aqp g h C D B ⟨congrArg _ E,B.below⟩
theorem D9{fn:Func}{R:Ending→World→Prop}{a:ResultVar}{v:Value}(g:fn.results= #[a])(h:RV P S n f a v)(u: ∀w,S w→R (.returned v) w): ∀w,S w→W5 P fn R (Fr n [] f) w:=fun w q=>Abx g h q (u w q)
theorem E2{fn:Func}{R:Ending→World→Prop}{a b:ResultVar}{v u:Value}(g:fn.results= #[a,b])(h:RV P S n f a v)(B:RV P S n f b u)(C: ∀w,S w→R (.returned (.tuple #[v,u])) w): ∀w,S w→W5 P fn R (Fr n [] f) w:=fun w q=>An1 g h B q (C w q)
end
end Go.Proofs.YtmonlaoaengfdaaGreatDoor.Base
namespace Go.Proofs.YtmonlaoaengfdaaGreatDoor.Base
open Go.RowKit
structure At(w:World)(a:Option Addr)(cs:List Value):Prop where
  here:0<cs.length→a=some (a.getD default)
  cell: ∀q v,cs[q]? =some v→w.cell? ((a.getD default).add q)=some v
theorem At.nil(w:World)(a:Option Addr):At w a []:=⟨fun h=>absurd h (Nat.lt_irrefl _),fun q v h=>by simp at h⟩
theorem At.lt{w:World}{a:Option Addr}{cs:List Value}(h:At w a cs)(g:0<cs.length):(a.getD default).block<w.heap.size:=by
  have:=Agf (h.cell 0 _ (List.getElem?_eq_getElem g))
  rwa[Od]at this
theorem At.of_block{w g:World}{a:Option Addr}{cs:List Value}(h:At w a cs)(B:0<cs.length→g.heap[(a.getD default).block]? =w.heap[(a.getD default).block]?):At g a cs:=
  ⟨h.here,fun q v u=>by
    rw[World.cell?_of_block (w:=w) (by rw[Od];exact B (by have:=(List.getElem?_eq_some_iff.1 u).1;omega))]
    exact h.cell q v u⟩
theorem At.below{w g:World}{a:Option Addr}{cs:List Value}(h:At w a cs)(q:Below w.heap.size w g):At g a cs:=h.of_block fun u=>q.block _ (h.lt u)
theorem At.sub{w:World}{a:Option Addr}{cs:List Value}(h:At w a cs)(k m:Nat):At w (a.map (·.add k)) ((cs.drop k).take m):=by
  have u:((cs.drop k).take m).length≤cs.length-k:=by simp;omega
  refine⟨fun C=>?_,fun q v g=>?_⟩
  · have:=h.here (by omega)
    rw[this];rfl
  · have D:=(List.getElem?_eq_some_iff.1 g).1
    have:=h.here (by omega)
    rw[this]at h⊢
    simp only[Option.map_some,Option.getD_some]
    rw[Hc]
    have B:=h.cell (k+q) v (by
      rw[List.getElem?_take]at g
      split at g
      · simpa using g
      · cases g)
    simpa using B
theorem At.take{w:World}{a:Option Addr}{cs:List Value}(h:At w a cs)(m:Nat):At w a (cs.take m):=
  ⟨fun u=>h.here (by simp at u;omega),fun q v g=>h.cell q v (by
    rw[List.getElem?_take]at g
    split at g
    · exact g
    · cases g)⟩
def Ds(a:Option Addr)(cap k sz:Nat):Option Addr:=if cap=k then a else a.map (·.add (k*sz))
theorem At.drop{w:World}{a:Option Addr}{cs:List Value}(h:At w a cs)(cap k sz:Nat)(g:cs.length≤cap*sz):At w (Ds a cap k sz) (cs.drop (k*sz)):=by
  unfold Ds
  split
  · rename_i e
    have:cs.drop (k*sz)=[]:=List.drop_eq_nil_of_le (by rw[←e];exact g)
    rw[this];exact At.nil _ _
  · have:=h.sub (k*sz) cs.length
    rwa[List.take_of_length_le (by simp)]at this
structure FS where
  nil:Bool
  b:Nat
  cap:Nat
  rest:List Value
def FS.a(g:FS):Option Addr:=bif g.nil then none else some ⟨g.b,0,none⟩
def FS.seg(g:FS)(t:TypeId)(cs:List Value):List Blk:=bif g.nil then []else [cb g.b (cs++g.rest) t]
theorem Agj(b c:Nat)(r:List Value):(FS.mk false b c r).a=some ⟨b,0,none⟩:=rfl
structure FS.ok(g:FS)(sz len:Nat):Prop where
  h0:g.nil=true→len=0∧g.cap=0
  le:len≤g.cap
  mx:g.cap≤maxLen
  len:g.cap*sz≤len*sz+g.rest.length
section
variable {r:Option Nat}{P:Program}{ops:Array Oper}{Q:Exit→Act→World→Prop}{K:Act→World→Prop}{S:World→Prop}{n:Nat}{ds:List Deferred}{f:Nat→Value}{o:Oper}{rest:List Oper}{v:Value}{d:Nat}{w0 w:World}{M:List Nat}{LL LL':List (List Blk)}{s:List Blk}{i j b:Nat}{a:Option Addr}{cs:List Value}
theorem At.mem(h:At w0 a cs)(g:Mem w0 M LL w)(q:(a.getD default).block∉M):At w a cs:=h.of_block fun u=>Mem0.same g _ (h.lt u) q
theorem At.mem0(h:At w0 a cs)(g:Mem w0 [] LL w):At w a cs:=h.mem g (by simp)
theorem Ab1{t:TypeId}{xs:List Value}{k:Nat}(g:Mem w0 M LL w)(h:LL[i]? =some s)(u:s[j]? =some (cb b xs t))(B: ∀q v,cs[q]? =some v→xs[k+q]? =some v):At w (some ⟨b,k,none⟩) cs:=
  ⟨fun _=>rfl,fun q v C=>by
    simp only[Option.getD_some]
    rw[add_lit]
    exact g.cell h u (B q v C)⟩
theorem Akh{t:TypeId}{xs:List Value}(h:Mem w0 M LL w)(u:LL[i]? =some s)(B:s[j]? =some (cb b (cs++xs) t)):At w (some ⟨b,0,none⟩) cs:=
  Ab1 h u B fun q v g=>by rw[Nat.zero_add,List.getElem?_append_left (List.getElem?_eq_some_iff.1 g).1];exact g
theorem A4{t:TypeId}(g:Mem w0 M LL w)(h:LL[i]? =some s)(u:s[j]? =some (cb b cs t)):At w (some ⟨b,0,none⟩) cs:=
  Ab1 g h u fun q v B=>by rw[Nat.zero_add];exact B
def Cs(a:Option Addr)(q:Nat):Addr:=(a.getD default).add q
theorem Aq{t e:TypeId}{x q:Operand}{len cap sz:Nat}{k:IntKind}{i:Int}(h:o.op=.indexAddr t x q)(u:ev n f x=.slice a len cap)(B:ev n f q=.int k i)
    (C: ∀w,(underlying t).run P w=.ok (.slice e) w) (D: ∀w,(sizeOf e).run P w=.ok sz w) (E:0≤i) (F:i<len) (G:a=some (a.getD default)):Ys P n S f o (.pointer (some (Cs a (i.toNat*sz)))):=Ys.pure fun w=>by
  obtain⟨g,rfl⟩: ∃g,a=some g:=⟨_,G⟩
  simp[execOp,h,u,B,Instr.indexAt,asIntOf,C,D,E,F,Cs]
theorem Dt{t e:TypeId}{x h:Operand}{len sz o':Nat}{k:IntKind}{i:Int}(g:o.op=.indexAddr t x h)(q:ev n f x=.pointer (some ⟨b,o',none⟩))(u:ev n f h=.int k i)
    (B: ∀w,(underlying t).run P w=.ok (.array len e) w) (C: ∀w,(sizeOf e).run P w=.ok sz w) (D:0≤i) (E:i<len):Ys P n S f o (.pointer (some ⟨b,o'+i.toNat*sz,none⟩)):=Ys.pure fun w=>by
  simp[execOp,g,q,u,Instr.indexAt,Instr.sureAddr,asIntOf,B,C,D,E,add_lit]
theorem At.ld(h:At w a cs){q:Nat}(g:cs[q]? =some v):w.cell? (Cs a q)=some v:=h.cell q v g
theorem At.ldF(h:At w a cs){q k:Nat}(g:cs[q+k]? =some v):w.cell? ((Cs a q).add k)=some v:=by
  unfold Cs;rw[Hc];exact h.cell _ v g
theorem At.ldN(h:At w a cs){q:Nat}{vs:List Value}(g: ∀j v,vs[j]? =some v→cs[q+j]? =some v): ∀j v,vs[j]? =some v→w.cell? ((Cs a q).add j)=some v:=fun j v u=>h.ldF (g j v u)
theorem At.ldNF(h:At w a cs){q k:Nat}{vs:List Value}(g: ∀j v,vs[j]? =some v→cs[q+k+j]? =some v): ∀j v,vs[j]? =some v→w.cell? (((Cs a q).add k).add j)=some v:=fun j v u=>by
  rw[Hc];exact h.ldF (by rw[←Nat.add_assoc];exact g j v u)
theorem Yp(b k q:Nat):Cs (some ⟨b,k,none⟩) q=⟨b,k+q,none⟩:=by unfold Cs;simp only[Option.getD_some];exact add_lit _ _ _
theorem Be(b q:Nat):Cs (some ⟨b,0,none⟩) q=⟨b,q,none⟩:=by rw[Yp,Nat.zero_add]
theorem Bb(h: ∀w,S w→Ys P n S f o v):Ys P n S f o v:=fun w g=>h w g w g
theorem An4(cap sz:Nat):Ds a cap 0 sz=a:=by
  unfold Ds;split
  · rfl
  · cases a<;>simp[Nk]
theorem Br{t e:TypeId}{x l:Operand}{len cap sz:Nat}{k:IntKind}{i:Int}(g:o.op=.slice t x (some l) none none)(h:ev n f x=.slice a len cap)(q:ev n f l=.int k i)
    (u: ∀w,(underlying t).run P w=.ok (.slice e) w) (B: ∀w,(sizeOf e).run P w=.ok sz w) (C:0≤i) (D:i≤len):Ys P n S f o (.slice (Ds a cap i.toNat sz) (len-i.toNat) (cap-i.toNat)):=Ys.pure fun w=>by
  simp[execOp,g,h,q,Instr.sliceAt,Instr.slice,u,Instr.sliceBounds,Instr.sliceBound,asIntOf,C,D,B,Ds]
theorem Dm{t e:TypeId}{x h:Operand}{len cap sz:Nat}{k:IntKind}{i:Int}(g:o.op=.slice t x none (some h) none)(q:ev n f x=.slice a len cap)(u:ev n f h=.int k i)
    (B: ∀w,(underlying t).run P w=.ok (.slice e) w) (C: ∀w,(sizeOf e).run P w=.ok sz w) (D:0≤i) (E:i≤cap):Ys P n S f o (.slice a i.toNat cap):=Ys.pure fun w=>by
  have e:=An4 (a:=a) cap sz
  unfold Ds at e
  simp only[Nat.zero_mul]at e
  simp[execOp,g,q,u,Instr.sliceAt,Instr.slice,B,Instr.sliceBounds,Instr.sliceBound,asIntOf,D,E,C,e]
theorem Ic{t e:TypeId}{x l h:Operand}{len cap sz:Nat}{k k':IntKind}{i j:Int}(g:o.op=.slice t x (some l) (some h) none)(u:ev n f x=.slice a len cap)(B:ev n f l=.int k i)(C:ev n f h=.int k' j)
    (D: ∀w,(underlying t).run P w=.ok (.slice e) w) (E: ∀w,(sizeOf e).run P w=.ok sz w) (F:0≤i) (G:i≤j) (H:j≤cap):Ys P n S f o (.slice (Ds a cap i.toNat sz) (j.toNat-i.toNat) (cap-i.toNat)):=Ys.pure fun w=>by
  obtain⟨j,rfl⟩:=Int.eq_ofNat_of_zero_le (show 0≤j by omega)
  have q:j≤cap:=by omega
  simp[execOp,g,u,B,C,Instr.sliceAt,Instr.slice,D,Instr.sliceBounds,Instr.sliceBound,asIntOf,F,G,q,E,Ds]
theorem Xa{t e:TypeId}{x h m:Operand}{len cap sz:Nat}{k k':IntKind}{i j:Int}(g:o.op=.slice t x none (some h) (some m))(u:ev n f x=.slice a len cap)(B:ev n f h=.int k i)(C:ev n f m=.int k' j)
    (D: ∀w,(underlying t).run P w=.ok (.slice e) w) (E: ∀w,(sizeOf e).run P w=.ok sz w) (F:0≤i) (G:i≤j) (H:j≤cap):Ys P n S f o (.slice a i.toNat j.toNat):=Ys.pure fun w=>by
  obtain⟨j,rfl⟩:=Int.eq_ofNat_of_zero_le (show 0≤j by omega)
  have q:j≤cap:=by omega
  have e:=An4 (a:=a) j sz
  unfold Ds at e
  simp only[Nat.zero_mul]at e
  simp[execOp,g,u,B,C,Instr.sliceAt,Instr.slice,D,Instr.sliceBounds,Instr.sliceBound,asIntOf,F,G,q,E,e]
abbrev FS.nul:FS:=⟨true,0,0,[]⟩
theorem B6(sz:Nat):FS.nul.ok sz 0:=⟨fun _=>⟨rfl,rfl⟩,Nat.le_refl _,Nat.zero_le _,by simp⟩
theorem D4{b sz k:Nat}(h:k≤maxLen):(FS.mk false b k []).ok sz k:=⟨fun h=>(by cases h),Nat.le_refl _,h,by simp⟩
theorem De{g:FS}{sz len:Nat}(h:g.ok sz len)(q:0<len):g.nil=false:=by
  cases e:g.nil with
  |false=>rfl
  |true=>have:=(h.h0 e).1;omega
theorem Et{g:FS}(h:g.nil=false):g.a=some ⟨g.b,0,none⟩:=by simp[FS.a,h]
theorem Ie{g:FS}{t:TypeId}(h:g.nil=false):g.seg t cs=[cb g.b (cs++g.rest) t]:=by simp[FS.seg,h]
theorem FS.at{g:FS}{t:TypeId}(u:Mem w0 M LL w)(q:LL[i]? =some (g.seg t cs))(h:g.nil=true→cs=[]):At w g.a cs:=by
  cases e:g.nil with
  |true=>rw[h e];exact At.nil _ _
  |false=>
    rw[Ie e]at q
    rw[Et e]
    exact Akh (j:=0) (b:=g.b) (t:=t) u q rfl
theorem Ah{g:FS}{sz len:Nat}(h:g.ok sz len)(q:cs.length=len*sz):g.nil=true→cs=[]:=fun e=>by
  rw[(h.h0 e).1,Nat.zero_mul]at q
  exact List.length_eq_zero_iff.1 q
theorem Ab2{g:FS}(h:g.nil=false)(q:Nat):Cs g.a q=⟨g.b,q,none⟩:=by rw[Et h,Yp];simp
theorem Ms{t:TypeId}{x y:Operand}{g:FS}{q:Nat}{cs':List Value}{ty:TypeId}(E:o.dst=none)(h:o.op=.store t x y)(u:ev n f x=.pointer (some (Cs g.a q)))(F:ev n f y=v)
    (G: ∀w,(sizeOf t).run P w=.ok 1 w) (H:v.oneCell'=true) (B:g.nil=false) (C:LL[i]? =some (g.seg ty cs)) (ho:q<cs.length) (hcs:cs.set q v=cs') (D:LL.set i (g.seg ty cs')=LL'):
    Ht (β:=Unit) P n (Mem w0 M LL) f o (fun _=>f) (fun _=>Mem w0 M LL'):=by
  rw[Ie B]at C D
  rw[Ab2 B]at u
  exact Es (o':=q) (j:=0) E h u F G H C rfl (by simp;omega) (by rw[List.set_append_left _ _ ho,hcs])<|by simpa using D
def Src(P:Program)(S:World→Prop)(sz m:Nat)(x:Value)(news:List Value):Prop:= ∀w,S w→(Builtin.firstCells sz m x).run P w=.ok news.toArray w
theorem Src.at{sz m len cap:Nat}{news:List Value}(u:news.length=m*sz)(h: ∀w,S w→At w a news):Src P S sz m (.slice a len cap) news:=fun w B=>by
  have h:=h w B
  cases a with
  |none=>
    have:news=[]:=by
      cases news with
      |nil=>rfl
      |cons x l=>have:=h.here (by simp);cases this
    subst this
    exact run_firstCells_none (P:=P) w sz m len cap
  |some g=>exact run_firstCells_some (P:=P) w sz m g len cap news u (fun q v C=>by simpa using h.cell q v C)
theorem Pe{t u ty e:TypeId}{eu:TypeId}{ii:TypeInfo}{z:Value}{g:FS}{nn m sz:Nat}{xs news:List Value}{x:Value}(ht:P.underlying t=some (.slice e))(hu:P.underlying u=some (.slice eu))(hi:P.info? e=some ii)(hz:ii.zero=some z)(H:ii.size=sz)(ak:z.cells.size=sz)
    (hS:Mem w0 M LL w) (U:LL[i]? =some (g.seg e xs)) (ok:g.ok sz nn) (C:xs.length=nn*sz) (D:(Builtin.lenOf x).run P w=.ok m w) (E: ∀k,(Builtin.firstCells sz m x).run P {w with drawn:=k}=.ok news.toArray {w with drawn:=k}) (hl:news.length=m*sz) (h1: ∀v∈news,v.oneCell'=true)
    (V:nn+m≤maxLen) (G:(nn+m)*ii.bytes≤140737488355328):
    ∃(R:FS) (I:World),(Builtin.append_ #[t,u] ty #[.slice g.a nn g.cap,x]).run P w=.ok (.slice R.a (nn+m) R.cap) I∧Mem w0 M (LL.set i (R.seg e (xs++news))) I∧R.ok sz (nn+m)∧(0<nn+m→R.nil=false)∧(g.nil=false→R.nil=false):=by
  subst H
  have J:=run_underlying (P:=P) hu
  by_cases B:nn+m≤g.cap
  · cases L:g.nil with
    |true=>
      have h0:=ok.h0 L
      have X:m=0:=by omega
      have ax:xs=[]:=Ah ok C L
      have al:news=[]:=by rw[X,Nat.zero_mul]at hl;exact List.length_eq_zero_iff.1 hl
      refine⟨g,w,?_,?_,?_,?_,fun h=>(by cases h)⟩
      · have ha:g.a=none:=by simp[FS.a,L]
        rw[ha]
        have hs:=E w.drawn
        simp[Builtin.append_,run_underlying ht,J,sizeOf,typeInfo,hi,D,B,hs]
      · rw[al,List.append_nil]
        obtain⟨Y,an⟩:=List.getElem?_eq_some_iff.1 U
        rw[←an,List.set_getElem_self];exact hS
      · rw[X];exact ok
      · intro h;omega
    |false=>
      rw[Ie L]at U
      have hs:=E w.drawn
      have N:=ok.len
      have F:nn*ii.size+news.length≤(xs++g.rest).length:=by
        rw[List.length_append,C,hl,←Nat.add_mul];exact Nat.le_trans (Nat.mul_le_mul_right _ B) N
      obtain⟨I,My,Z⟩:=Fs (P:=P) (j:=0) (b:=g.b) (t:=e) hS news (nn*ii.size) 0 U rfl F h1
      have aa:Bt (xs++g.rest) (nn*ii.size) news=xs++news++g.rest.drop news.length:=by
        unfold Bt
        rw[←C,List.take_left,List.drop_append,List.drop_of_length_le (by omega)]
        simp
      rw[aa]at Z
      refine⟨⟨false,g.b,g.cap,g.rest.drop news.length⟩,I,?_,?_,?_,fun _=>rfl,fun _=>rfl⟩
      · rw[Et L]
        simp[Builtin.append_,run_underlying ht,J,sizeOf,typeInfo,hi,D,B,hs,Addr.add_lit,My,FS.a]
      · simpa [FS.seg]using Z
      · refine⟨fun h=>(by cases h),B,ok.mx,?_⟩
        rw[List.length_append,C]at F
        simp only[List.length_drop,hl]at F⊢
        rw[Nat.add_mul]
        omega
  · have L: ¬(nn+m≤g.cap):=B
    have ab: ¬(9223372036854775807<((nn:Int)+(m:Int))):=by simp only[maxLen]at V;omega
    have az:=ok.le
    have ao:Builtin.nextslicecap (nn+m) g.cap*ii.bytes≤281474976710656:=growslice_fits (by omega) G
    have ad: ¬(281474976710656<Builtin.nextslicecap (nn+m) g.cap*ii.bytes):=by omega
    have ap:At w g.a xs:=FS.at hS U (Ah ok C)
    have aq:(Builtin.firstCells ii.size nn (.slice g.a nn g.cap)).run P w.drew=.ok xs.toArray w.drew:=
      Src.at (P:=P) (S:=fun I=>I=w.drew) C (fun I e=>by subst e;exact ap.of_block fun _=>rfl) w.drew rfl
    have hf:(Builtin.firstCells ii.size m x).run P w.drew=.ok news.toArray w.drew:=E (w.drawn+1)
    have ar:=grownCap_ge w (nn+m) g.cap e
    have ae:=grownCap_le_maxLen w (nn+m) g.cap e V
    refine⟨⟨false,w.heap.size,grownCap w (nn+m) g.cap e,(Builtin.zeroCells z.cells<|grownCap w (nn+m) g.cap e-(nn+m)).toList⟩,w.drew.alloc<|.cells (xs++news++(Builtin.zeroCells z.cells<|grownCap w (nn+m) g.cap e-(nn+m)).toList).toArray e,?_,?_,?_,fun _=>rfl,fun _=>rfl⟩
    · simp[Builtin.append_,run_underlying ht,J,sizeOf,typeInfo,zeroValue,hi,hz,D,L,ab,ad,Question.forced,hf,aq,newRow,grownCap,Agj]
      congr 2
      apply Array.ext'
      simp[List.append_assoc]
    · have h2:=(hS.drawn (w.drawn+1)).alloc (xs++news++(Builtin.zeroCells z.cells (grownCap w (nn+m) g.cap e-(nn+m))).toList) e
      have Y:=(List.getElem?_eq_some_iff.1 U).1
      --the old segment is dropped,the new one stands in its place
      obtain⟨k,hk⟩: ∃k,k=LL.length:=⟨_,rfl⟩
      refine h2.pick ((List.range LL.length).map fun q=>if q=i then 0 else q+1) ?_ ?_
      · rw[List.Nodup,List.pairwise_map]
        refine List.Pairwise.imp_of_mem ?_<|List.nodup_range (n:=LL.length)
        intro p q _ _ a2 e
        split at e<;>split at e<;>omega
      · unfold C2
        apply List.ext_getElem?
        intro q
        rw[List.map_map,List.getElem?_map,List.getElem?_set]
        by_cases hq:q<LL.length
        · rw[List.getElem?_range hq]
          simp only[Option.map_some,Function.comp]
          by_cases O:q=i
          · subst O
            rw[if_pos rfl,if_pos rfl,if_pos hq]
            simp[FS.seg]
          · rw[if_neg O,if_neg (fun e=>O e.symm)]
            simp[List.getElem?_eq_getElem hq]
        · rw[List.getElem?_eq_none (by simpa using hq:(List.range LL.length).length≤q)]
          split
          · rename_i e;subst e;exact absurd Y hq
          · rw[List.getElem?_eq_none (by omega)];rfl
    · refine⟨fun h=>(by cases h),ar,ae,?_⟩
      simp only[Array.length_toList,size_zeroCells,ak,←Nat.add_mul]
      rw[show nn+m+(grownCap w (nn+m) g.cap e-(nn+m))=grownCap w (nn+m) g.cap e by omega]
      exact Nat.le_refl _
theorem Ht.append{t u e:TypeId}{eu:TypeId}{ii:TypeInfo}{z:Value}{s x:Operand}{g:FS}{xv:Value}{nn m k sz bytes:Nat}{xs news cs':List Value}{Lo:FS→List (List Blk)}(V:o.dst=some d)
    (ho:o.op=.call {callee:=.builtin .append,args:= #[s,x],argTypes:= #[t,u]}) (X:P.underlying t=some (.slice e)) (Y:P.underlying u=some (.slice eu)) (Z:P.info? e=some ii) (hz:ii.zero=some z)
    (B:ii.size=sz) (G:ii.bytes=bytes) (H:z.cells.size=sz) (hs:ev n f s=.slice g.a nn g.cap) (hx:ev n f x=xv) (hL:LL[i]? =some (g.seg e xs)) (ok:g.ok sz nn) (I:xs.length=nn*sz)
    (C: ∀w,(Builtin.lenOf xv).run P w=.ok m w) (D:Src P (Mem w0 M LL) sz m xv news) (hl:news.length=m*sz) (h1: ∀v∈news,v.oneCell'=true) (hk:nn+m=k) (J:k≤maxLen) (q:k*bytes≤140737488355328)
    (hcs:xs++news=cs') (L: ∀h,LL.set i (h.seg e cs')=Lo h):
    Ht (β:={h:FS//h.ok sz k∧(0<k→h.nil=false)∧(g.nil=false→h.nil=false)}) P n (Mem w0 M LL) f o (fun h=>Fg f d (.slice h.1.a k h.1.cap)) (fun h=>Mem w0 M (Lo h.1)):=fun ds w R K hK=>by
  subst G;subst hk;subst hcs
  obtain⟨h,w',E,U,N,O,F⟩:=Pe (P:=P) (t:=t) (u:=u) (ty:=o.type) (x:=xv) X Y Z hz B H R hL ok I (C w) (fun k=>D _ (R.drawn k)) hl h1 J q
  rw[L]at U
  unfold Oper.wp execOp
  simp only[ho,resolve,invoke,builtin,Sem.run_bind,Sem.run_pure,Result.andThen_ok,List.map_toArray,List.map_cons,List.map_nil,Dj,hs,hx,E]
  simp only[Oper.upon,V,Dy]
  exact hK ⟨h,N,O,F⟩ w' U
theorem HtS.append{t u e:TypeId}{eu:TypeId}{ii:TypeInfo}{z:Value}{s x:Operand}{g:FS}{xv:Value}{nn m k sz bytes:Nat}{xs news cs':List Value}{Lo:FS→List (List Blk)}(J:o.dst=some d)
    (ho:o.op=.call {callee:=.builtin .append,args:= #[s,x],argTypes:= #[t,u]}) (L:P.underlying t=some (.slice e)) (N:P.underlying u=some (.slice eu)) (O:P.info? e=some ii) (R:ii.zero=some z)
    (B:ii.size=sz) (E:ii.bytes=bytes) (F:z.cells.size=sz) (U:ev n f s=.slice g.a nn g.cap) (V:ev n f x=xv) (X:LL[i]? =some (g.seg e xs)) (ok:g.ok sz nn) (G:xs.length=nn*sz)
    (C: ∀w,(Builtin.lenOf xv).run P w=.ok m w) (D:Src P (Mem w0 M LL) sz m xv news) (Y:news.length=m*sz) (Z: ∀v∈news,v.oneCell'=true) (hk:nn+m=k) (H:k≤maxLen) (q:k*bytes≤140737488355328)
    (hcs:xs++news=cs') (I: ∀h,LL.set i (h.seg e cs')=Lo h):
    HtS P n (Mem w0 M LL) f o (fun h:FS=>h.ok sz k∧(0<k→h.nil=false)∧(g.nil=false→h.nil=false)) (fun h=>Fg f d (.slice h.a k h.cap)) (fun h=>Mem w0 M (Lo h)):=
  Ht.append J ho L N O R B E F U V X ok G C D Y Z hk H q hcs I
theorem Agk{t e:TypeId}{ii:TypeInfo}{z:Value}{l c:Operand}{kl kc:IntKind}{lv:Int}{sz bytes:Nat}{cs:List Value}(D:o.dst=some d)(u:o.op=.makeSlice t l c)(E:P.underlying t=some (.slice e))(F:P.info? e=some ii)(G:ii.zero=some z)
    (q:ii.size=sz) (B:ii.bytes=bytes) (H:ev n f l=.int kl lv) (hc:ev n f c=.int kc lv) (I:0≤lv) (g:(bytes:Int)*lv≤281474976710656) (C:lv≤9223372036854775807) (hcs:(madeCells z.cells (lv.toNat*sz)).toList=cs):
    Ht P n (Mem w0 M LL) f o (fun b=>Fg f d (.slice (some ⟨b,0,none⟩) lv.toNat lv.toNat)) (fun b=>Mem w0 M ([cb b cs e]::LL)):=Bj (mk:=fun b=>.slice (some ⟨b,0,none⟩) lv.toNat lv.toNat) D fun w=>by
  subst q;subst B;subst hcs
  have h:=run_make (P:=P) w t e ii z E F G kl kc lv lv I (Int.le_refl _) g C
  simp[execOp,u,H,hc,h]
theorem Tx{td tx e:TypeId}{ii:TypeInfo}{x y:Operand}{xv:Value}{dl dc m q sz o':Nat}{t:TypeId}{cs' news:List Value}(G:o.dst=some d)
    (ho:o.op=.call {callee:=.builtin .copy,args:= #[x,y],argTypes:= #[td,tx]}) (H:P.underlying td=some (.slice e)) (I:P.info? e=some ii) (g:ii.size=sz)
    (J:ev n f x=.slice (some ⟨b,o',none⟩) dl dc) (L:ev n f y=xv) (N:LL[i]? =some s) (O:s[j]? =some (cb b cs t)) (h: ∀w,(Builtin.lenOf xv).run P w=.ok m w) (R:Nat.min m dl=q) (u:Src P (Mem w0 M LL) sz q xv news)
    (U:o'+news.length≤cs.length) (V: ∀v∈news,v.oneCell'=true) (hcs:Bt cs o' news=cs') (C:LL.set i (s.set j (cb b cs' t))=LL'):
    Ht (β:=Unit) P n (Mem w0 M LL) f o (fun _=>Fg f d (.int .i64 q)) (fun _=>Mem w0 M LL'):=fun ds w D K X=>by
  subst g
  obtain⟨E,My,F⟩:=Fs (P:=P) D news o' 0 N O U V
  rw[hcs,C]at F
  have Y:=u w D
  have B:(Builtin.copy_ #[td,tx] o.type #[ev n f x,ev n f y]).run P w=.ok (goInt q) E:=by
    simp[Builtin.copy_,J,L,run_underlying H,sizeOf,typeInfo,I,h,R,Y,My]
  unfold Oper.wp execOp
  simp only[ho,resolve,invoke,builtin,Sem.run_bind,Sem.run_pure,Result.andThen_ok,List.map_toArray,List.map_cons,List.map_nil,Dj,B]
  simp only[Oper.upon,G,Dy]
  exact X () E F
theorem Rk(cs:List Value)(o:Nat)(news:List Value)(h:news.length=0):Bt cs o news=cs:=by
  obtain rfl:=List.length_eq_zero_iff.1 h
  exact Aaa cs o
theorem Cy{td tx e:TypeId}{ii:TypeInfo}{x y:Operand}{xv:Value}{dl dc m q sz o' cap:Nat}{t:TypeId}{cs' news:List Value}(F:o.dst=some d)
    (ho:o.op=.call {callee:=.builtin .copy,args:= #[x,y],argTypes:= #[td,tx]}) (G:P.underlying td=some (.slice e)) (H:P.info? e=some ii) (g:ii.size=sz)
    (B:ev n f x=.slice (Ds (some ⟨b,0,none⟩) cap o' sz) dl dc) (R:cap=o'→q=0) (I:ev n f y=xv) (J:LL[i]? =some s) (L:s[j]? =some (cb b cs t)) (h: ∀w,(Builtin.lenOf xv).run P w=.ok m w) (N:Nat.min m dl=q) (u:Src P (Mem w0 M LL) sz q xv news) (hnl:news.length=q*sz)
    (U:o'*sz+news.length≤cs.length) (O: ∀v∈news,v.oneCell'=true) (hcs:Bt cs (o'*sz) news=cs') (C:LL.set i (s.set j (cb b cs' t))=LL'):
    Ht (β:=Unit) P n (Mem w0 M LL) f o (fun _=>Fg f d (.int .i64 q)) (fun _=>Mem w0 M LL'):=by
  by_cases hc:cap=o'
  · have E:=R hc
    have D:news.length=0:=by rw[hnl,E,Nat.zero_mul]
    unfold Ds at B
    rw[if_pos hc]at B
    exact Tx (o':=0) F ho G H g B I J L h N u (by omega) O (by rw[Rk _ _ _ D,←hcs,Rk _ _ _ D]) C
  · unfold Ds at B
    rw[if_neg hc]at B
    simp only[Option.map_some,add_lit,Nat.zero_add]at B
    exact Tx (o':=o'*sz) F ho G H g B I J L h N u U O hcs C
def mc{α:Type}(g:α→Value)(xs:List α):List Value:=xs.map g
section
variable {α:Type}{g:α→Value}
theorem Du(xs:List α):(mc g xs).length=xs.length:=by simp[mc]
theorem Bo(xs:List α):(mc g xs).length=xs.length*1:=by simp[mc]
theorem Ft{xs:List α}{k:Nat}(d:α)(h:k<xs.length):(mc g xs)[k]? =some (g (xs.getD k d)):=by
  simp[mc,h]
theorem Gi{xs:List α}{k:Nat}(d:α)(h:k<xs.length):(mc g xs)[k*1]? =some (g (xs.getD k d)):=by
  rw[Nat.mul_one];exact Ft d h
theorem Fu(xs ys:List α):mc g xs++mc g ys=mc g (xs++ys):=by simp[mc]
theorem Ab3(xs:List α)(k:Nat):(mc g xs).drop (k*1)=mc g (xs.drop k):=by simp[mc]
theorem Agl(xs:List α)(k:Nat):(mc g xs).take k=mc g (xs.take k):=by simp[mc]
theorem Ea(h: ∀x,(g x).oneCell'=true)(xs:List α): ∀v∈mc g xs,v.oneCell'=true:=fun v q=>by
  obtain⟨b,_,rfl⟩:=List.mem_map.1 q
  exact h b
theorem Ty(xs:List α)(k:Nat)(b:α):(mc g xs).set (k*1) (g b)=mc g (xs.set k b):=by simp[mc,List.map_set]
theorem Ab4(xs ys:List α)(k:Nat):Bt (mc g xs) k (mc g ys)=mc g (xs.take k++ys++xs.drop (k+ys.length)):=by simp[mc,Bt]
theorem Po(xs ys:List α)(k:Nat):Bt (mc g xs) (k*1) (mc g ys)=mc g (xs.take k++ys++xs.drop (k+ys.length)):=by rw[Nat.mul_one];exact Ab4 xs ys k
theorem Agm(k:Nat)(x:α)(h:(g x).cells= #[g x]):(madeCells (g x).cells (k*1)).toList=mc g (List.replicate k x):=by
  rw[h,Nat.mul_one,toList_madeCells_one]
  simp[mc]
end
section
variable {α:Type}{g:α→Value}{w:World}{a:Option Addr}{xs:List α}
theorem At.mdrop(h:At w a (mc g xs))(cap k:Nat)(q:xs.length≤cap):At w (Ds a cap k 1) (mc g (xs.drop k)):=by
  have:=h.drop cap k 1 (by rw[Du];omega)
  rwa[Ab3]at this
theorem At.mtake(h:At w a (mc g xs))(k:Nat):At w a (mc g (xs.take k)):=by
  have:=h.take k
  rwa[Agl]at this
end
abbrev b8(b:UInt8):Value:=.int .u8 ((b.toNat:Nat):Int)
abbrev Cx(xs:List UInt8):List Value:=mc b8 xs
def Ab5(xs:List UInt8):ByteArray:=⟨xs.toArray⟩
theorem Yq(n:Int):IntKind.u8.wrap n=(((UInt8.ofInt n).toNat:Nat):Int):=by
  simp only[IntKind.wrap,IntKind.bits,IntKind.signed,Bool.false_and,Bool.false_eq_true,if_false,UInt8.ofInt]
  rw[UInt8.toNat_ofNat']
  omega
end
abbrev sV(g:FS)(n:Nat):Value:=.slice g.a n g.cap
end Go.Proofs.YtmonlaoaengfdaaGreatDoor.Base
namespace Go.Proofs.YtmonlaoaengfdaaGreatDoor.Base
theorem He(n:Nat):IntKind.u8.wrap ((n:Nat):Int)=(((UInt8.ofNat n).toNat:Nat):Int):=by
  simp only[IntKind.wrap,IntKind.bits,IntKind.signed,Bool.false_and,Bool.false_eq_true,if_false]
  rw[UInt8.toNat_ofNat']
  rfl
theorem Fc{k:IntKind}(a c:Nat)(hc:c≤k.bits):Ib k ((a:Nat):Int) ((c:Nat):Int)=((a/2^c:Nat):Int):=by
  unfold Ib
  rw[Int.toNat_natCast,Nat.min_eq_left hc,Int.fdiv_eq_ediv_of_nonneg _ (by exact Int.pow_nonneg (by decide))]
  rw[Int.natCast_ediv,Int.natCast_pow]
  rfl
theorem Fe{k:IntKind}(h:k.signed=false)(a:Nat):k.wrap ((a:Nat):Int)=((a%2^k.bits:Nat):Int):=by
  simp only[IntKind.wrap,h,Bool.false_and,Bool.false_eq_true,if_false]
  rw[Int.natCast_emod,Int.natCast_pow]
  rfl
theorem Jl{k:IntKind}{a b:Nat}(q:k.signed=false)(h:a<2^k.bits):Pc k ((a:Nat):Int) ((b:Nat):Int)=((a/b:Nat):Int):=by
  unfold Pc
  have e:(a:Int).tdiv (b:Int)=((a/b:Nat):Int):=rfl
  rw[e,Fe q,Nat.mod_eq_of_lt (Nat.lt_of_le_of_lt (Nat.div_le_self _ _) h)]
theorem H2{k:IntKind}{a b:Nat}(q:k.signed=false)(h:a+b<2^k.bits):D2 k ((a:Nat):Int) ((b:Nat):Int)=((a+b:Nat):Int):=by
  unfold D2
  rw[←Int.natCast_add,Fe q,Nat.mod_eq_of_lt h]
theorem Vq{k:IntKind}{a b:Nat}(h:k.signed=false):D2 k ((a:Nat):Int) ((b:Nat):Int)=(((a+b)%2^k.bits:Nat):Int):=by
  unfold D2
  rw[←Int.natCast_add,Fe h]
theorem S6{k:IntKind}{a b:Nat}(q:k.signed=false)(h:a*b<2^k.bits):Ng k ((a:Nat):Int) ((b:Nat):Int)=((a*b:Nat):Int):=by
  unfold Ng
  rw[←Int.natCast_mul,Fe q,Nat.mod_eq_of_lt h]
theorem Vr{k:IntKind}{a b:Nat}(h:k.signed=false):Ng k ((a:Nat):Int) ((b:Nat):Int)=(((a*b)%2^k.bits:Nat):Int):=by
  unfold Ng
  rw[←Int.natCast_mul,Fe h]
theorem Aab{k:IntKind}{a b:Nat}(q:k.signed=false)(h:b≤a)(u:a<2^k.bits):Hp k ((a:Nat):Int) ((b:Nat):Int)=((a-b:Nat):Int):=by
  unfold Hp
  rw[←Int.natCast_sub h,Fe q,Nat.mod_eq_of_lt (by omega)]
theorem Hf{k:IntKind}(h:k.signed=false)(a c:Nat)(hc:c≤k.bits):Jb k ((a:Nat):Int) ((c:Nat):Int)=(((a*2^c)%2^k.bits:Nat):Int):=by
  unfold Jb
  rw[Int.toNat_natCast,Nat.min_eq_left hc,show((a:Int)*2^c)=((a*2^c:Nat):Int) by push_cast;rfl,Fe h]
theorem Dn{k:IntKind}(h:k.signed=false)(a:Nat):Ct k ((a:Nat):Int)=((a%2^k.bits:Nat):Int):=by
  unfold Ct;exact Fe h a
theorem Mt(m a:Nat):(BitVec.ofInt m ((a:Nat):Int)).toNat=a%2^m:=by
  rw[BitVec.ofInt_natCast,BitVec.toNat_ofNat]
theorem Rl{k:IntKind}(q:k.signed=false){a b:Nat}(h:a<2^k.bits)(u:b<2^k.bits):Dw k ((a:Nat):Int) ((b:Nat):Int)=((a&&&b:Nat):Int):=by
  unfold Dw
  rw[BitVec.toNat_and,Mt,Mt,Nat.mod_eq_of_lt h,Nat.mod_eq_of_lt u,Fe q,Nat.mod_eq_of_lt (Nat.lt_of_le_of_lt Nat.and_le_left h)]
theorem Kg{k:IntKind}(u:k.signed=false){a b:Nat}(h:a<2^k.bits)(q:b<2^k.bits):bor k ((a:Nat):Int) ((b:Nat):Int)=((a|||b:Nat):Int):=by
  unfold bor
  rw[BitVec.toNat_or,Mt,Mt,Nat.mod_eq_of_lt h,Nat.mod_eq_of_lt q,Fe u,Nat.mod_eq_of_lt (Nat.or_lt_two_pow h q)]
theorem Ab6{k:IntKind}(u:k.signed=false){a b:Nat}(h:a<2^k.bits)(q:b<2^k.bits):Sw k ((a:Nat):Int) ((b:Nat):Int)=((a^^^b:Nat):Int):=by
  unfold Sw
  rw[BitVec.toNat_xor,Mt,Mt,Nat.mod_eq_of_lt h,Nat.mod_eq_of_lt q,Fe u,Nat.mod_eq_of_lt (Nat.xor_lt_two_pow h q)]
theorem H3{k:IntKind}(h:k.signed=false){a c:Nat}(q:a<2^k.bits)(hc:c≤k.bits)(m:Nat)(u:m=2^c-1):Dw k ((a:Nat):Int) ((m:Nat):Int)=((a%2^c:Nat):Int):=by
  subst u
  rw[Rl h q (by have:=Nat.pow_le_pow_right (n:=2) (by decide) hc;have:=Nat.two_pow_pos c;omega),Nat.and_two_pow_sub_one_eq_mod]
theorem Ig{k:IntKind}(u:k.signed=false){a:Nat}(h:a<2^k.bits)(m:Nat)(B:m=2^k.bits-1):Sw k ((m:Nat):Int) ((a:Nat):Int)=((m-a:Nat):Int):=by
  subst B
  rw[Ab6 u (by have:=Nat.two_pow_pos k.bits;omega) h]
  congr 1
  apply Nat.eq_of_testBit_eq
  intro i
  rw[Nat.testBit_xor,Nat.testBit_two_pow_sub_one,Nat.sub_sub,Nat.add_comm 1 a,Nat.testBit_two_pow_sub_succ h]
  by_cases q:i<k.bits
  · simp[q]
  · have:a.testBit i=false:=Nat.testBit_lt_two_pow (Nat.lt_of_lt_of_le h (Nat.pow_le_pow_right (by decide) (by omega)))
    simp[q,this]
theorem Xb{a b c:Nat}(h:b<2^c):a*2^c|||b=a*2^c+b:=by
  rw[←Nat.shiftLeft_eq,←Nat.shiftLeft_add_eq_or_of_lt h]
theorem Mem.push{w0 w:World}{M:List Nat}{LL:List (List Blk)}(h:Mem w0 M LL w):Mem w0 M ([]::LL) w:=h
theorem Agn{r:Option Nat}{P:Program}{ops:Array Oper}{K:Act→World→Prop}{l:List Oper}{n:Nat}{ds:List Deferred}{f:Nat→Value}{w0:World}{M:List Nat}{LL:List (List Blk)}(h:Wl r P ops K l n ds f (Mem w0 M ([]::LL))):Wl r P ops K l n ds f (Mem w0 M LL):=Wl.conseq (fun _ h=>h) h
section
variable {w0 w:World}{M:List Nat}{LL:List (List Blk)}{a a' a'':Option Addr}
theorem At.mem'{cs:List Value}(h:At w0 a cs)(u:Mem w0 M LL w)(B:0<cs.length→(a.getD default).block∉M):At w a cs:=h.of_block fun q=>Mem0.same u _ (h.lt q) (B q)
theorem At.ne{α:Type}{g:α→Value}{xs:List α}{cs:List Value}{b:Nat}{t:TypeId}{fz:Nat×Nat}(h:At w a (mc g xs))(B:w.heap[b]? =some (.cells cs.toArray t fz))(C: ∀v∈cs,∀x,v≠g x)(u:0<(mc g xs).length):(a.getD default).block≠b:=fun e=>by
  rw[Du]at u
  have D:(mc g xs)[0]? =some (g xs[0]):=by simp[mc,u]
  have q:=h.cell 0 _ D
  unfold World.cell? at q
  rw[Od,e,B]at q
  simp only at q
  split at q
  · cases q
  · have E:cs[((a.getD default).add 0).off]? =some (g xs[0]):=by simpa using q
    exact C _ (List.mem_of_getElem? E) _ rfl
def View(a':Option Addr)(zs:List UInt8)(a:Option Addr)(ys:List UInt8):Prop:= ∀w,At w a (Cx ys)→At w a' (Cx zs)
theorem View.refl(a:Option Addr)(ys:List UInt8):View a ys a ys:=fun _ h=>h
theorem View.trans{zs ys xs:List UInt8}(h:View a'' zs a' ys)(k:View a' ys a xs):View a'' zs a xs:=fun w hw=>h w (k w hw)
theorem View.nil(a' a:Option Addr)(ys:List UInt8):View a' [] a ys:=fun w _=>At.nil w a'
theorem View.drop{ys:List UInt8}(cap k:Nat)(h:ys.length≤cap):View (Ds a cap k 1) (ys.drop k) a ys:=fun w hw=>hw.mdrop cap k h
end
theorem Mem.one{w0 w:World}{M:List Nat}{LL:List (List Blk)}{i:Nat}{s:List Blk}(h:Mem w0 M LL w)(q:LL[i]? =some s):Mem w (s.map (·.b)) [s] w:=by
  have u:Mem w0 M ([s]++[]) w:=h.pick [i] (by simp) (by simp[C2,q])
  have B:=u.local
  simpa using B
theorem Aki{w B:World}{v:Value}{M:List Nat}{LL:List (List Blk)}{e:Ending}(D:Mem w M LL w)(E: ∀k∈M,k∈LL.flatten.map (·.b))(h:Bn w (fun _:Unit=>True) (fun _=>v) M (fun _=>LL) e B):Df w v e B:=by
  obtain⟨_,_,F,q⟩:=h
  refine⟨F,q.os,q.tape,q.output,q.size,fun k G=>?_⟩
  by_cases u:k∈M
  · obtain⟨p,C,rfl⟩:=List.mem_map.1 (E k u)
    rw[Mem0.here q p C,Mem0.here D p C]
  · exact Mem0.same q k G u
abbrev n16(n:Nat):Value:=.int .u16 ((n:Nat):Int)
theorem Rm: ∀(n t:Nat) (h:List UInt8),∃zs:List UInt8,zs.length=h.length+n∧Extern.BytealgMakeNoZero.digits n t (Cx h).toArray=(Cx zs).toArray
  |0,t,h=>⟨h,rfl,rfl⟩
  |n+1,t,h=>by
    obtain⟨zs,q,u⟩:=Rm n (t/256) (h++[UInt8.ofNat (t%256)])
    refine⟨zs,by rw[q];simp;omega,?_⟩
    rw[Extern.BytealgMakeNoZero.digits,←u]
    congr 1
    apply Array.ext'
    simp only[Array.toList_push,Cx,mc,List.map_append,List.map_cons,List.map_nil]
    congr 1
    unfold b8
    rw[UInt8.toNat_ofNat',Nat.mod_eq_of_lt (show t%256<2^8 by have:=Nat.mod_lt t (show 0<256 by decide);simpa using this)]
    rfl
structure MZ where
  b:Nat
  zs:List UInt8
theorem Sx{P:Program}{n:Nat}{f:Nat→Value}{o:Oper}{d:Nat}{w0:World}{M:List Nat}{LL:List (List Blk)}{ps:Array TypeId}{t e:TypeId}{k fid:Nat}{x y:Operand}{F:Array TypeId}{fn:Func}(X:o.dst=some d)(G:o.op=.call {callee:=.value x,args:= #[y],argTypes:=F})(Y:ev n f x=.func (.func fid) #[] #[])(Z:ev n f y=.int .i64 ((k:Nat):Int))
    (H:P.funcs[fid]? =some fn) (I:(fn.name== "runtime.NumGoroutine")=false) (J:fn.body.isNone=true) (L:Extern.findNext fn=none) (N:Extern.find fn=some (Extern.BytealgMakeNoZero.makeNoZero ps #[t])) (ht:P.underlying t=some (.slice e)) (hk:k≤70368744177664):
    Ht (β:={x:MZ//k≤x.zs.length∧x.zs.length≤maxLen}) P n (Mem w0 M LL) f o (fun x=>Fg f d (.slice (some ⟨x.1.b,0,none⟩) k x.1.zs.length)) (fun x=>Mem w0 M ([cb x.1.b (Cx x.1.zs) e]::LL)):=fun ds w hS K hK=>by
  have C:Extern.BytealgMakeNoZero.makeNoZero ps #[t] #[.int .i64 k]=
      (do
        let .slice h←underlying t|stuck "bytealg.MakeNoZero: slice type expected"
        if(k:Int)<0||(k:Int)>2^48 then runtimePanic (.error "makeslice: len out of range")
        let q←choose (.appendCap (k:Int).toNat 0 h)
        askRoom q
        let u←choose (.extern "internal/bytealg.MakeNoZero.bytes" 0)
        let a←newRow h (Extern.BytealgMakeNoZero.digits q u #[])
        pure (.slice (some a) (k:Int).toNat q)):=rfl
  obtain⟨zs,hz,O⟩:=Rm (grownCap w k 0 e) ((Question.extern "internal/bytealg.MakeNoZero.bytes" 0).cut (w.tape (w.drawn+1) (.extern "internal/bytealg.MakeNoZero.bytes" 0))) []
  have B:zs.length=grownCap w k 0 e:=by simpa using hz
  have D:(Extern.BytealgMakeNoZero.makeNoZero ps #[t] #[.int .i64 ((k:Nat):Int)]).run P w=.ok (.slice (some ⟨w.heap.size,0,none⟩) k zs.length) (w.drew.drew.alloc (.cells (Cx zs).toArray e)):=by
    rw[C]
    have h1: ¬(k:Int)<0:=by omega
    have h2: ¬(281474976710656:Int)<(k:Int):=by omega
    have R:Extern.BytealgMakeNoZero.digits (grownCap w k 0 e) ((Question.extern "internal/bytealg.MakeNoZero.bytes" 0).cut (w.tape (w.drawn+1) (.extern "internal/bytealg.MakeNoZero.bytes" 0))) #[]=(Cx zs).toArray:=O
    simp[run_underlying ht,h1,h2,Question.forced,newRow,B,←R,grownCap]
  have U:(callFunc fid #[.int .i64 ((k:Nat):Int)]).run P w=.ok (.value (.slice (some ⟨w.heap.size,0,none⟩) k zs.length)) (w.drew.drew.alloc (.cells (Cx zs).toArray e)):=by
    rw[run_callFunc_extern H I J L N,D]
    rfl
  have V:(execOp (ev n f) o).run P w=.ok (.value (.slice (some ⟨w.heap.size,0,none⟩) k zs.length)) (w.drew.drew.alloc (.cells (Cx zs).toArray e)):=by
    have E:=U
    simp only[execOp,G,resolve,Y,Z,Sem.run_bind,Sem.run_pure,Result.andThen_ok,List.map_toArray,List.map_cons,List.map_nil]
    simp[Deferred.ofValue,invoke,E]
  unfold Oper.wp
  rw[Dj,V]
  simp only[Oper.upon,X,Dy]
  have hm:=((hS.drawn (w.drawn+1)).drawn (w.drawn+1+1)).alloc (Cx zs) e
  refine hK ⟨⟨w.heap.size,zs⟩,?_,?_⟩ _ hm
  · show k≤zs.length
    rw[B];exact grownCap_ge w k 0 e
  · show zs.length≤maxLen
    rw[B];exact grownCap_le_maxLen w k 0 e (by simp only[maxLen];omega)
end Go.Proofs.YtmonlaoaengfdaaGreatDoor.Base
