import Derived.Test.YtmonlaoaengfdaaGreatDoorM2
import Derived.Test.YtmonlaoaengfdaaGreatDoorM4
import Derived.Test.YtmonlaoaengfdaaGreatDoorM5
import Derived.Test.YtmonlaoaengfdaaGreatDoorChecked
import Derived.Test.YtmonlaoaengfdaaGreatDoorM1
set_option linter.unusedVariables false
set_option linter.unusedSimpArgs false
set_option maxRecDepth 20000
namespace Go.Proofs.YtmonlaoaengfdaaGreatDoor.Oct
open Go.RowKit Base Tryz
attribute [local irreducible] Ys Yc Ht HtS HtIn Wl Wd W Mem pf Ez Wa Wo KW
namespace Conf
structure Cfg where
  (lm0 lm1 lm2 lm3 lm4 lm5 wm0 wm1 wm2 wm3 wm4 wm5 hm0 hm1 hm2 hm3 hm4 hm5 lan wan bits ms mm mc mu:Int)
  (fa:Option Addr)
  (fl fc:Nat)
  (dmz:Int)
  (uu:ByteArray)
structure Fwd where
  (proto port dest host:Int)
instance :Inhabited Fwd:=⟨⟨0,0,0,0⟩⟩
def isF(F:Nat→Fwd)(b c:Int)(k:Nat):Bool:=(F k).proto==b&&(F k).port==c
def findN(F:Nat→Fwd)(b c:Int):Nat→Nat→Option Nat
  |0,_=>none
  |n+1,k=>bif isF F b c k then some k else findN F b c n (k+1)
def find(F:Nat→Fwd)(b c:Int)(len:Nat):Fwd×Bool:=
  match findN F b c len 0 with
  |none=>(⟨0,0,0,0⟩,false)
  |some k=>(F k,true)
theorem findN_some(F:Nat→Fwd)(b c:Int)(len k:Nat): ∀n j,j+n=len→j≤k→k<len→(∀i,i<k→isF F b c i=false)→isF F b c k=true→findN F b c n j=some k:=by
  intro n
  induction n with
  |zero=>intro j g h d;omega
  |succ n l=>
    intro j g h d e f
    unfold findN
    by_cases o:j=k
    · subst o;rw[f];rfl
    · rw[e j Ae];exact l (j+1) Ae Ae d e f
theorem findN_none(F:Nat→Fwd)(b c:Int)(len:Nat): ∀n j,j+n=len→(∀i,i<len→isF F b c i=false)→findN F b c n j=none:=by
  intro n
  induction n with
  |zero=>intro j e d;rfl
  |succ n f=>
    intro j e d
    unfold findN
    rw[d j Ae];exact f (j+1) Ae d
theorem find_some(F:Nat→Fwd)(b c:Int)(len k:Nat)(d:k<len)(e: ∀i,i<k→isF F b c i=false)(f:isF F b c k=true):find F b c len=(F k,true):=by
  unfold find;rw[findN_some F b c len k len 0 Ae Ae d e f]
theorem find_none(F:Nat→Fwd)(b c:Int)(len:Nat)(d: ∀i,i<len→isF F b c i=false):find F b c len=(⟨0,0,0,0⟩,false):=by
  unfold find;rw[findN_none F b c len len 0 Ae d]
def fwv(x:Fwd):List Value:=[.int .u8 x.proto,.int .u16 x.port,.int .u16 x.dest,.int .u32 x.host]
end Conf
open Conf (Fwd fwv)
theorem Ahd(x:Fwd):(fwv x).length=4:=rfl
theorem Ahe(x:Fwd): ∀v∈fwv x,v.oneCell'=true:=by simp[fwv,Value.oneCell']
theorem V9(xs:List Fwd):(mm fwv xs).length=xs.length*4:=Ch Ahd xs
abbrev fz:Fwd:=⟨0,0,0,0⟩
abbrev btX(a k:Nat):Int:=Dw .u32 (Ib .u32 (a:Int) (31-(k:Int))) 1
def R1(a b:Nat)(c:Int):Nat→Nat→Bool
  |0,_=>true
  |n+1,k=>bif decide (((k:Nat):Int)<c)then(bif btX a k !=btX b k then false else R1 a b c n (k+1))else true
def S1(a:Nat)(b:Int):Nat→Nat→Nat→Bool→Bool→Bool
  |0,_,n,z,o=>(((n:Nat):Int)==0)||((!z)&&(!o))
  |m+1,k,n,z,o=>bif decide (((k:Nat):Int)<b)then S1 a b m (k+1) n z o else bif btX a k==1 then S1 a b m (k+1) (n+1) false o else S1 a b m (k+1) (n+1) z false
section
variable {a b k n:Nat}{bits:Int}{z o v:Bool}
theorem Aos(d:k<32)(c:decide (((k:Nat):Int)<bits)=true):R1 a b bits (32-k) k=bif btX a k !=btX b k then false else R1 a b bits (32-(k+1)) (k+1):=by
  rw[show 32-k=(32-(k+1))+1 by omega];simp only[R1,c,cond_true]
theorem Aqs(h:((decide (((k:Nat):Int)<32))&&(decide (((k:Nat):Int)<bits)))=false)(c:k≤32):R1 a b bits (32-k) k=true:=by
  by_cases e:k=32
  · subst e;rfl
  · rw[show 32-k=(32-(k+1))+1 by omega]
    rw[decide_eq_true (show(k:Int)<32 by omega),Bool.true_and]at h
    simp only[R1,h,cond_false]
theorem Ak5(c:k<32):S1 a bits (32-k) k n z o=bif decide (((k:Nat):Int)<bits)then S1 a bits (32-(k+1)) (k+1) n z o else bif btX a k==1 then S1 a bits (32-(k+1)) (k+1) (n+1) false o else S1 a bits (32-(k+1)) (k+1) (n+1) z false:=by
  rw[show 32-k=(32-(k+1))+1 by omega];simp only[S1]
end
def My(c bits a:Int):Bool:=(R1 a.toNat c.toNat bits 32 0&&a !=c)&&S1 a.toNat bits 32 0 0 true true
theorem Ahf(w:World):Calls prog 8 #[] w (Df w (aV [iV .u8 2,iV .u8 0,iV .u8 0,iV .u8 0,iV .u8 0,iV .u8 1,iV .u8 2,iV .u8 0,iV .u8 0,iV .u8 0,iV .u8 1,iV .u8 1,iV .u8 2,iV .u8 0,iV .u8 0,iV .u8 0,iV .u8 1,iV .u8 2,iV .u32 3232235777,iV .u32 3405803781,iV .i64 24,iV .i64 8,iV .i64 4,iV .i64 3,iV .i64 2,sL none 0 0,iV .u32 0,Value.string (Ab5 [48,48,48,48,48,48,48,48,45,49,49,49,49,45,50,50,50,50,45,51,51,51,51,45,52,52,52,52,52,52,52,52,52,52,52,52])])):=by
 refine Ap (M:=[]) (LL:=[]) (n:=5) func8 rfl rfl A7 (Mem.refl _)<|W.s ?_
 refine Ac<|Af rfl (Ba zeroValue32) fun c=>?_
 refine Ai<|Av<|Ab 4 ?_
 refine Af rfl (A0 c 0 0 0 [iV .u8 2,iV .u8 0,iV .u8 0,iV .u8 0,iV .u8 0,iV .u8 1,iV .u8 2,iV .u8 0,iV .u8 0,iV .u8 0,iV .u8 1,iV .u8 1,iV .u8 2,iV .u8 0,iV .u8 0,iV .u8 0,iV .u8 1,iV .u8 2,iV .u32 3232235777,iV .u32 3405803781,iV .i64 24,iV .i64 8,iV .i64 4,iV .i64 3,iV .i64 2,sL none 0 0,iV .u32 0,Value.string (Ab5 [48,48,48,48,48,48,48,48,45,49,49,49,49,45,50,50,50,50,45,51,51,51,51,45,52,52,52,52,52,52,52,52,52,52,52,52])] sizeOf32 rfl rfl) fun _=>Ai<|Am rfl<|D7 rfl (I1 c 0 0 0 isAgg32 sizeOf32) rfl
theorem Aot(a b:Nat)(bits:Int)(w:World)(A:a<4294967296)(B:b<4294967296):Calls prog 26 #[nV .u32 a,nV .u32 b,iV .i64 bits] w (Df w (.bool (R1 a b bits 32 0))):=by
 refine Ap (M:=[]) (LL:=[]) (n:=30) func26 rfl rfl A7 (Mem.refl _)<|Aj []<|W.s<|Aj []<|W.block ?_
 refine Dd [0,1,2,7] (fun(k:Nat)=>[nV .u32 a,nV .u32 b,iV .i64 bits,nV .i64 k]) (fun(k:Nat)=>k≤32∧R1 a b bits (32-k) k=R1 a b bits 32 0) (fun(k:Nat)=>[]) (fun(k:Nat)=>32-k) 0 Aa ⟨Ae,rfl⟩ (by rfl) fun k C D l c=>?_
 obtain⟨t,q⟩:=l
 refine W.s<|W.s ?_
 refine Ac<|Ab 3<|Da 3 (decide<|((k:Nat):Int)<32) (fun _=>Gs.z [])<|Ao (v:=bV<|(decide<|((k:Nat):Int)<32)&&(decide<|((k:Nat):Int)<bits)) (B9 (e:=decide<|((k:Nat):Int)<32) (b:=decide<|((k:Nat):Int)<bits) rfl Aa Aa Aa)<|Ay ?_
 refine A9 ?_
 refine Ak ((decide<|((k:Nat):Int)<32)&&(decide<|((k:Nat):Int)<bits)) Aa (fun d=>?_) fun r=>?_
 ·have f:=d;try simp only[zA]at f
  refine Ag<|A9<|W.s<|W.block<|W.s ?_
  refine Ac<|Ab 2<|Ao (v:=iV .i64<|31-(k:Int)) ((Ys.p (v:=.int .i64<|Hp .i64 31 (k:Int))).conseq<|Ad<|Er rfl Ae Ae)<|Ao (v:=iV .u64<|31-(k:Int)) ((Ys.p (v:=.int .u64<|Ct .u64<|31-(k:Int))).conseq<|Ad<|Co Ae Ae)<|Ao (v:=iV .u32<|Ib .u32 (a:Int)<|31-(k:Int)) (Tw (k:=.u32) (k':=.u64) (a:=(a:Int)) (b:=31-(k:Int)) rfl Aa Aa Ae) ?_
  refine Ab 3<|Ao (v:=iV .i64<|31-(k:Int)) ((Ys.p (v:=.int .i64<|Hp .i64 31 (k:Int))).conseq<|Ad<|Er rfl Ae Ae)<|Ao (v:=iV .u64<|31-(k:Int)) ((Ys.p (v:=.int .u64<|Ct .u64<|31-(k:Int))).conseq<|Ad<|Co Ae Ae)<|Ao (v:=iV .u32<|Ib .u32 (b:Int)<|31-(k:Int)) (Tw (k:=.u32) (k':=.u64) (a:=(b:Int)) (b:=31-(k:Int)) rfl Aa Aa Ae)<|Ab 2 ?_
  refine Ai ?_
  refine Ak ((Dw .u32 (Ib .u32 (a:Int)<|31-(k:Int)) 1) !=(Dw .u32 (Ib .u32 (b:Int)<|31-(k:Int)) 1)) Aa (fun g=>?_) fun h=>?_
  ·have i:=g;try simp only[zA]at i
   refine Aj []<|Am rfl<|D7 rfl (Ar<|bV false) (by clear c;exact B2 (by rw[←q,Aos Ae (Bool.and_eq_true_iff.1 d).2,show(btX a k !=btX b k)=true from g];rfl))
  ·have j:=h;try simp only[zA]at j
   refine Ag<|A9<|Ac<|Ab 1<|Bw (((k+1):Nat):Int) (k:Int) 1 ?_
   refine Ab 1<|Ay ?_
   refine fun u x=>c (k+1) _ u Ae ⟨Ae,((by rw[←q,Aos Ae (Bool.and_eq_true_iff.1 d).2,show(btX a k !=btX b k)=false from h];rfl))⟩ ?_ x
   kernel_rfl
 ·refine Cm<|A9<|Aj []<|Am rfl<|D7 rfl (Ar<|bV true)<|by clear c;exact B2 (by rw[←q,Aqs r t])
theorem Aou(a:Nat)(bits:Int)(w:World)(N:a<4294967296):Calls prog 27 #[nV .u32 a,iV .i64 bits] w (Df w (.bool (S1 a bits 32 0 0 true true))):=by
 refine Ap (M:=[]) (LL:=[]) (n:=35) func27 rfl rfl A7 (Mem.refl _)<|Aj []<|Aj []<|W.s<|Aj [] ?_
 refine W.block<|Agb [0,1,5,6,7,8] (fun(k:Nat) (n:Nat) (z:Bool) (o:Bool)=>[nV .u32 a,iV .i64 bits,nV .i64 n,bV z,bV o,nV .i64 k]) (fun(k:Nat) (n:Nat) (z:Bool) (o:Bool)=>k≤32∧n≤k∧S1 a bits (32-k) k n z o=S1 a bits 32 0 0 true true) (fun(k:Nat) (n:Nat) (z:Bool) (o:Bool)=>[]) (fun(k:Nat) (n:Nat) (z:Bool) (o:Bool)=>32-k) 0 0 true true Aa ⟨Ae,Ae,rfl⟩ (by rfl) fun k n z o O P I c=>?_
 obtain⟨Q,R,H⟩:=I
 refine W.s<|Aj [] ?_
 refine Ak (decide<|((k:Nat):Int)<32) Aa (fun J=>?_) fun i=>?_
 ·have j:=J;try simp only[zA]at j
  refine Ag<|A9<|W.s<|W.block<|W.s ?_
  refine Aj [] ?_
  refine Ak (decide<|((k:Nat):Int)<bits) Aa (fun l=>?_) fun h=>?_
  ·have q:=l;try simp only[zA]at q
   refine Cm<|A9<|Ac<|Ab 1<|Bw (((k+1):Nat):Int) (k:Int) 1 ?_
   refine Ab 1<|Ay ?_
   refine fun r x=>c (k+1) n z o _ r Ae ⟨Ae,Ae,(by have d:=H;rw[Ak5 Ae,l]at d;exact d)⟩ ?_ x
   kernel_rfl
  ·have A:=h;try simp only[zA]at A
   refine Ag<|A9<|Av<|Ab 1 ?_
   refine Bw (((n+1):Nat):Int) (n:Int) 1<|Ab 1<|Ai<|W.s ?_
   refine Ac<|Ab 2<|Ao (v:=iV .i64<|31-(k:Int)) ((Ys.p (v:=.int .i64<|Hp .i64 31 (k:Int))).conseq<|Ad<|Er rfl Ae Ae)<|Ao (v:=iV .u64<|31-(k:Int)) ((Ys.p (v:=.int .u64<|Ct .u64<|31-(k:Int))).conseq<|Ad<|Co Ae Ae)<|Ao (v:=iV .u32<|Ib .u32 (a:Int)<|31-(k:Int)) (Tw (k:=.u32) (k':=.u64) (a:=(a:Int)) (b:=31-(k:Int)) rfl Aa Aa Ae) ?_
   refine Ab 2<|Ai ?_
   refine Ak ((Dw .u32 (Ib .u32 (a:Int)<|31-(k:Int)) 1)==1) Aa (fun B=>?_) fun C=>?_
   ·have D:=B;try simp only[zA]at D
    refine Ac<|Ab 1<|Ai<|Ac ?_
    refine Ab 1<|Bw (((k+1):Nat):Int) (k:Int) 1<|Ab 1<|Ay ?_
    refine fun r x=>c (k+1) (n+1) false o _ r Ae ⟨Ae,Ae,(by have d:=H;rw[Ak5 Ae,h,show(btX a k==1)=true from B]at d;exact d)⟩ ?_ x
    kernel_rfl
   ·have E:=C;try simp only[zA]at E
    refine Ac<|Ab 1<|Ai<|Ac ?_
    refine Ab 1<|Bw (((k+1):Nat):Int) (k:Int) 1<|Ab 1<|Ay ?_
    refine fun r x=>c (k+1) (n+1) z false _ r Ae ⟨Ae,Ae,(by have d:=H;rw[Ak5 Ae,h,show(btX a k==1)=false from C]at d;exact d)⟩ ?_ x
    kernel_rfl
 ·have F:=i;try simp only[zA]at F
  refine Cm<|A9<|Av<|Ab 3 ?_
  refine C1 3 (((n:Nat):Int)==0) (fun _=>Gs.z []) ?_
  refine Bz (v:=bV o) ((!(((n:Nat):Int)==0))&& !z) rfl (F7 rfl rfl Aa) rfl (fun L=>?_) ?_
  ·exact Ys.p
  refine Bz (v:=bV<|!o) ((!(((n:Nat):Int)==0))&& !z) rfl (F7 rfl rfl Aa) rfl (fun G=>?_) ?_
  ·refine Bh (t:=31) (v0:=bV o) (lz (g:=(!(((n:Nat):Int)==0))&& !z) (u:=undef) G Aa) ?_
   exact Ys.p
  refine C1 1 (((n:Nat):Int)==0) (fun f=>Gs.y (v:=bV<|(!z)&&(!o)) (Bh (t:=30) (v0:=bV<|!z) (lz (g:= !(((n:Nat):Int)==0)) (u:=undef) f Aa)<|Bh (t:=32) (v0:=(bif !z then bV (!o)else undef)) (lz2 (g:= !(((n:Nat):Int)==0)) f Aa)<|B9 (e:= !z) (b:= !o) rfl Aa Aa Aa) Gs.nil)<|Ao (v:=bV<|((n:Int)==0)||((!z)&&(!o))) (Ce (e:=(n:Int)==0) (b:=(!z)&&(!o)) rfl Aa Aa Aa)<|Ab 1<|Ai ?_
  refine Am rfl<|D7 rfl (Ar<|bV<|((n:Int)==0)||((!z)&&(!o))) (by clear c;exact B2 (by rw[←H,show 32-k=0 by have d:=of_decide_eq_false i;omega];rfl))
abbrev L8(x:Conf.Fwd):List Value:=[iV .u8 (x.proto),iV .u16 (x.port),iV .u16 (x.dest),iV .u32 (x.host)]
abbrev cfL(x:Conf.Cfg):List Value:=[iV .u8 (x.lm0),iV .u8 (x.lm1),iV .u8 (x.lm2),iV .u8 (x.lm3),iV .u8 (x.lm4),iV .u8 (x.lm5),iV .u8 (x.wm0),iV .u8 (x.wm1),iV .u8 (x.wm2),iV .u8 (x.wm3),iV .u8 (x.wm4),iV .u8 (x.wm5),iV .u8 (x.hm0),iV .u8 (x.hm1),iV .u8 (x.hm2),iV .u8 (x.hm3),iV .u8 (x.hm4),iV .u8 (x.hm5),iV .u32 (x.lan),iV .u32 (x.wan),iV .i64 (x.bits),iV .i64 (x.ms),iV .i64 (x.mm),iV .i64 (x.mc),iV .i64 (x.mu),Value.slice x.fa x.fl x.fc,iV .u32 (x.dmz),Value.string (x.uu)]
def tkC(tk:Nat→Option Nat):List Value:=(List.range 256).map fun i=>Value.pointer (Cz (tk i))
theorem Fz(tk:Nat→Option Nat):(tkC tk).length=256:=by unfold tkC;rw[List.length_map,List.length_range]
theorem Ny{tk:Nat→Option Nat}{p:Nat}(h:p<256):(tkC tk)[p]? =some (.pointer (Cz (tk p))):=by
  unfold tkC;rw[List.getElem?_map,List.getElem?_range h];rfl
def M7(tk:Nat→Option Nat)(p:Nat)(b:Option Nat):Nat→Option Nat:=fun q=>bif q==p then b else tk q
theorem E7(tk:Nat→Option Nat)(p:Nat)(b:Option Nat):M7 tk p b p=b:=by simp[M7]
theorem Ge(tk:Nat→Option Nat){p q:Nat}(b:Option Nat)(h:q≠p):M7 tk p b q=tk q:=by unfold M7;rw[show(q==p)=false from beq_eq_false_iff_ne.2 h];rfl
theorem Ahg{tk:Nat→Option Nat}{p:Nat}(b:Option Nat)(h:p<256):(tkC tk).set p (.pointer (Cz b))=tkC (M7 tk p b):=by
  apply List.ext_getElem?
  intro i
  rw[List.getElem?_set]
  by_cases c:i<256
  · rw[Ny c]
    by_cases e:p=i
    · subst e;rw[if_pos rfl,if_pos (by rw[Fz];exact c),Ny c,E7]
    · rw[if_neg e,Ny c,Ge _ _ (fun z=>e z.symm)]
  · rw[if_neg Ae,List.getElem?_eq_none (by rw[Fz];omega),List.getElem?_eq_none (by rw[Fz];omega)]
def En(f:List Value)(m s e:Value)(tk:Nat→Option Nat)(g d c:Value):List Value:=(f++[m,s,e])++(tkC tk++[g,d,c])
section
variable {cf:List Value}{m s e wh ids last v:Value}{tk:Nat→Option Nat}
theorem Hk(hc:cf.length=28):(En cf m s e tk wh ids last).length=290:=by
  unfold En;simp only[List.length_append,Fz,hc];rfl
theorem Cf(hc:cf.length=28){q:Nat}(h:q<31):(En cf m s e tk wh ids last)[q]? =(cf++[m,s,e])[q]? :=by
  unfold En;rw[List.getElem?_append_left (by simp[hc];omega)]
theorem Px(hc:cf.length=28){p:Nat}(h:p<256):(En cf m s e tk wh ids last)[31+p]? =some (.pointer (Cz (tk p))):=by
  unfold En
  rw[List.getElem?_append_right (by simp[hc]),show 31+p-(cf++[m,s,e]).length=p by simp[hc],List.getElem?_append_left (by rw[Fz];exact h),Ny h]
theorem Fk(hc:cf.length=28)(q:Nat):(En cf m s e tk wh ids last)[287+q]? =[wh,ids,last][q]? :=by
  unfold En
  rw[List.getElem?_append_right (by simp[hc];omega),show 287+q-(cf++[m,s,e]).length=256+q by simp[hc];omega,List.getElem?_append_right (by rw[Fz];omega),Fz,show 256+q-256=q by omega]
theorem Wb(hc:cf.length=28){p:Nat}(b:Option Nat)(h:p<256):(En cf m s e tk wh ids last).set (31+p) (.pointer (Cz b))=En cf m s e (M7 tk p b) wh ids last:=by
  unfold En
  rw[List.set_append_right _ _ (by simp[hc]),show 31+p-(cf++[m,s,e]).length=p by simp[hc],List.set_append_left _ _ (by rw[Fz];exact h),Ahg b h]
theorem Ll(hc:cf.length=28)(q:Nat):(En cf m s e tk wh ids last).set (287+q) v=(cf++[m,s,e])++(tkC tk++[wh,ids,last].set q v):=by
  unfold En
  rw[List.set_append_right _ _ (by simp[hc];omega),show 287+q-(cf++[m,s,e]).length=256+q by simp[hc];omega,List.set_append_right _ _ (by rw[Fz];omega),Fz,show 256+q-256=q by omega]
theorem Lm(hc:cf.length=28){q:Nat}(h:q<31):(En cf m s e tk wh ids last).set q v=(cf++[m,s,e]).set q v++(tkC tk++[wh,ids,last]):=by
  unfold En
  rw[List.set_append_left _ _ (by simp[hc];omega)]
end
def Js(ty:TypeId)(tk:Nat→Option Nat)(TT:Nat→Nat→Bool)(cn:Nat→Int)(a n:Nat):List Blk:=(List.range' a n).flatMap fun i=>(tk i).elim [] fun b=>[cb b (F5 (TT i) (cn i)) ty]
theorem I6{ty:TypeId}{tk:Nat→Option Nat}{TT:Nat→Nat→Bool}{cn:Nat→Int}{p:Nat}(d:p<256):Js ty tk TT cn 0 256=Js ty tk TT cn 0 p++(((tk p).elim [] fun b=>[cb b (F5 (TT p) (cn p)) ty])++Js ty tk TT cn (p+1) (255-p)):=by
  unfold Js
  have e:List.range' 0 256=List.range' 0 p++(p::List.range' (p+1) (255-p)):=by
    have c:=List.range'_append_1 (s:=0) (m:=p) (n:=256-p)
    rw[show p+(256-p)=256 by omega,Nat.zero_add]at c
    rw[←c,show 256-p=(255-p)+1 by omega,List.range'_succ]
  rw[e,List.flatMap_append,List.flatMap_cons]
theorem I7{ty:TypeId}{tk tk':Nat→Option Nat}{TT TT':Nat→Nat→Bool}{cn c:Nat→Int}{a n:Nat}(h: ∀i,a≤i→i<a+n→tk' i=tk i∧TT' i=TT i∧c i=cn i):Js ty tk' TT' c a n=Js ty tk TT cn a n:=by
  unfold Js
  rw[List.flatMap_def,List.flatMap_def]
  refine congrArg List.flatten<|List.map_congr_left fun i d=>?_
  obtain⟨f,g⟩:=List.mem_range'_1.1 d
  obtain⟨j,l,q⟩:=h i f g
  rw[j,l,q]
theorem Mz(a b c d e:Int)(w:World):Calls prog 79 #[aV [iV .u8 a,iV .u32 b,iV .u32 c,iV .u16 d,iV .u16 e]] w (Df w (aV [iV .u8 a,iV .u32 b,iV .u16 d])):=by
 refine Ap (M:=[]) (LL:=[]) (n:=10) func79 rfl rfl A7 (Mem.refl _)<|W.s ?_
 refine Ac<|Af rfl (Bx [iV .u8 a,iV .u32 b,iV .u32 c,iV .u16 d,iV .u16 e] rfl) fun g=>?_
 refine Af rfl (Ba zeroValue97) fun f=>Ai<|Av ?_
 refine A5 7 [(1,0),(1,0),(1,0)]<|Af rfl (A0 f 0 0 0 [iV .u8 a,iV .u32 b,iV .u16 d] sizeOf97 rfl rfl) fun _=>?_
 refine Ai<|Al [0] An rfl<|Am rfl<|D7 rfl (I1 f 0 0 0 isAgg97 sizeOf97) rfl
abbrev O4(c:Conf.Cfg)(d:Value):List Value:=[Value.int .u8 c.lm0,Value.int .u8 c.lm1,Value.int .u8 c.lm2,Value.int .u8 c.lm3,Value.int .u8 c.lm4,Value.int .u8 c.lm5,Value.int .u8 c.wm0,Value.int .u8 c.wm1,Value.int .u8 c.wm2,Value.int .u8 c.wm3,Value.int .u8 c.wm4,Value.int .u8 c.wm5,Value.int .u8 c.hm0,Value.int .u8 c.hm1,Value.int .u8 c.hm2,Value.int .u8 c.hm3,Value.int .u8 c.hm4,Value.int .u8 c.hm5,Value.int .u32 c.lan,Value.int .u32 c.wan,Value.int .i64 c.bits,Value.int .i64 c.ms,Value.int .i64 c.mm,Value.int .i64 c.mc,Value.int .i64 c.mu,d,Value.int .u32 c.dmz,Value.string c.uu]
theorem Aag(c:Conf.Cfg)(gf:FS)(fx:List Conf.Fwd)(r:Value)(t u:Nat)(tk:Nat→Option Nat)(x A:Nat)(lst:Int)(d pr:Nat)(b:Nat)(w:World)(f:At w (some ⟨d,0,none⟩) (En (O4 c (sL gf.a fx.length gf.cap)) (r) (pL (some ⟨t,0,none⟩)) (pL (some ⟨u,0,none⟩)) tk (pL (some ⟨x,0,none⟩)) (pL (some ⟨A,0,none⟩)) (Value.int .u64 lst)))(g:tk pr=some b)(C:pr<256):Calls prog 69 #[pV d 0,nV .u8 pr] w (Df w (.pointer (some ⟨b,0,none⟩))):=by
 refine Ap (M:=[]) (LL:=[]) (n:=24) func69 rfl rfl A7 (Mem.refl _)<|Aj []<|W.s<|Av ?_
 refine Ab 4<|Ao (v:=pL<|some ⟨d,31+pr*1,none⟩) (Dt (k:=.u8) (i:=(pr:Int)) (sz:=1) rfl Aa Aa runUnderlying88 sizeOf87 Ae Ae)<|Ao (v:=pL<|Cz<|tk pr) (Ys.ld (a:=⟨d,31+pr*1,none⟩) rfl Aa isAgg87 fun B j=>by have h:=(f.mem0 j).ld (q:=31+pr*1) ((by rw[Nat.mul_one];exact Px rfl Ae));rw[Be]at h;exact h)<|Ao (v:=bV<|(tk pr).isNone) (Ys.pure fun _=>by generalize(tk pr)=o_;cases o_<;>kernel_rfl)<|Ay ?_
 refine A9 ?_
 refine Ak ((tk pr).isNone) Aa (fun l=>?_) fun D=>?_
 ·(exfalso;rw[g]at l;cases l)
 ·refine Ag<|A9<|Av<|Ab 4 ?_
  refine Ao (v:=pL<|some ⟨d,31+pr*1,none⟩) (Dt (k:=.u8) (i:=(pr:Int)) (sz:=1) rfl Aa Aa runUnderlying88 sizeOf87 Ae Ae)<|Ao (v:=pL<|Cz<|tk pr) (Ys.ld (a:=⟨d,31+pr*1,none⟩) rfl Aa isAgg87 fun B j=>by have h:=(f.mem0 j).ld (q:=31+pr*1) ((by rw[Nat.mul_one];exact Px rfl Ae));rw[Be]at h;exact h)<|Ab 1<|Ai ?_
  refine Am rfl<|D7 rfl (Ar<|pL<|Cz<|tk pr)<|by rw[g];rfl
theorem Aah(c:Conf.Cfg)(gf:FS)(fx:List Conf.Fwd)(g:Value)(h l:Nat)(tk:Nat→Option Nat)(q r:Nat)(lst:Int)(f pr:Nat)(M:List Nat)(w:World)(B:Mem w M [[cb f (En (O4 c (sL gf.a fx.length gf.cap)) (g) (pL (some ⟨h,0,none⟩)) (pL (some ⟨l,0,none⟩)) tk (pL (some ⟨q,0,none⟩)) (pL (some ⟨r,0,none⟩)) (Value.int .u64 lst)) 91]] w)(t:tk pr=none)(F:pr<256):Calls prog 69 #[pV f 0,nV .u8 pr] w (Bn w (fun _:Nat=>True) (fun b=>.pointer (some ⟨b,0,none⟩)) M (fun b=>[[cb f (En (O4 c (sL gf.a fx.length gf.cap)) (g) (pV h 0) (pV l 0) (M7 tk pr (some b)) (pV q 0) (pV r 0) (iV .u64 lst)) 91],[cb b (F5 (fun _=>false) 0) 230]])):=by
 refine Ap (M:=M) (LL:=[[cb f (En (O4 c<|sL gf.a fx.length gf.cap) (g) (pV h 0) (pV l 0) tk (pV q 0) (pV r 0)<|iV .u64 lst) 91]]) (n:=24) func69 rfl rfl A7 (B)<|Aj []<|W.s<|Av ?_
 refine Ab 4<|Ao (v:=pL<|some ⟨f,31+pr*1,none⟩) (Dt (k:=.u8) (i:=(pr:Int)) (sz:=1) rfl Aa Aa runUnderlying88 sizeOf87 Ae Ae)<|Ao (Bf (b:=f) (o':=31+pr*1) (i:=0) (j:=0) (cs:=En (O4 c<|sL gf.a fx.length gf.cap) (g) (pV h 0) (pV l 0) tk (pV q 0) (pV r 0)<|iV .u64 lst) (v:=pL<|Cz<|tk pr) rfl Aa isAgg87 rfl rfl<|(by rw[Nat.mul_one];exact Px rfl Ae))<|Ao (v:=bV<|(tk pr).isNone) (Ys.pure fun _=>by generalize(tk pr)=o_;cases o_<;>kernel_rfl)<|Ay ?_
 refine A9 ?_
 refine Ak ((tk pr).isNone) Aa (fun G=>?_) fun A=>?_
 ·refine B3 [(0,true),(1,true),(3,true),(4,true),(2,false),(5,false),(6,false)] [0,1,3,4] (Mem w M []) Aa Aa Aa rfl Aa (fun _ _ u=>u.drawn _) (fun _ u=>u.pick [] An rfl)<|B5 4<|Ca rfl rfl (Au [] [0] fun C D E=>(Aor _)) (Az []) fun d _=>Wd.yc (v:=pL<|some ⟨f,31+pr*1,none⟩) rfl rfl rfl (Ys.yc<|Dt (k:=.u8) (i:=(pr:Int)) (sz:=1) rfl Aa Aa runUnderlying88 sizeOf87 Ae Ae) (Ee [])<|Cj rfl rfl (Es (b:=f) (o':=31+pr*1) (i:=1) (j:=0) (cs:=En (O4 c<|sL gf.a fx.length gf.cap) (g) (pV h 0) (pV l 0) tk (pV q 0) (pV r 0)<|iV .u64 lst) (cs':=En (O4 c<|sL gf.a fx.length gf.cap) (g) (pV h 0) (pV l 0) (M7 tk pr<|some d) (pV q 0) (pV r 0)<|iV .u64 lst) (v:=pV d 0) (LL':=[[cb d (F5 (fun _=>false) 0) 230],[cb f (En (O4 c<|sL gf.a fx.length gf.cap) (g) (pV h 0) (pV l 0) (M7 tk pr<|some d) (pV q 0) (pV r 0)<|iV .u64 lst) 91]]) rfl rfl Aa Aa sizeOf87 rfl rfl rfl (by rw[Hk rfl];omega) (by rw[Nat.mul_one];exact Wb rfl (some d) Ae) rfl) (Az []) fun _=>?_
  refine Cl<|Av<|Ab 4 ?_
  refine Ao (v:=pL<|some ⟨f,31+pr*1,none⟩) (Dt (k:=.u8) (i:=(pr:Int)) (sz:=1) rfl Aa Aa runUnderlying88 sizeOf87 Ae Ae)<|Ao (Bf (b:=f) (o':=31+pr*1) (i:=1) (j:=0) (cs:=En (O4 c<|sL gf.a fx.length gf.cap) (g) (pV h 0) (pV l 0) (M7 tk pr<|some d) (pV q 0) (pV r 0)<|iV .u64 lst) (v:=pL<|Cz<|M7 tk pr (some d) pr) rfl Aa isAgg87 rfl rfl<|(by rw[Nat.mul_one];exact Px rfl Ae))<|Ab 1<|Ai ?_
  refine Am rfl<|D9 rfl (Ar<|pL<|Cz<|M7 tk pr (some d) pr) fun C x=>⟨d,trivial,Eo<|(by rw[E7];rfl),(x.pick [1,0] An rfl)⟩
 ·(exfalso;rw[t]at A;cases A)
theorem Wc(ttl pid c d:Int)(f:Option Addr)(g h:Nat)(w:World):Calls prog 88 #[aV [iV .u8 ttl,iV .u8 17,iV .u16 pid,iV .u32 c,iV .u32 d,sL f g h]] w (Df w (.tuple #[.int .u8 0,.bool false])):=by
 refine Ap (M:=[]) (LL:=[]) (n:=21) func88 rfl rfl A7 (Mem.refl _)<|W.s ?_
 refine Ac<|Af rfl (Bx [iV .u8 ttl,iV .u8 17,iV .u16 pid,iV .u32 c,iV .u32 d,sL f g h] rfl) fun i=>?_
 refine Ab 2<|Ai<|W.s<|Aj [(0,0)] ?_
 refine Cd Aa<|Aj []<|Al [] An rfl<|Am rfl<|L1 rfl (Ar<|iV .u8 0) (Ar<|bV false) rfl
theorem Aai(ttl pid c d:Int)(f:Option Addr)(g h:Nat)(w:World):Calls prog 99 #[aV [iV .u8 ttl,iV .u8 17,iV .u16 pid,iV .u32 c,iV .u32 d,sL f g h]] w (Df w (.bool true)):=by
 refine Ap (M:=[]) (LL:=[]) (n:=16) func99 rfl rfl A7 (Mem.refl _)<|W.s ?_
 refine Ac<|Af rfl (Bx [iV .u8 ttl,iV .u8 17,iV .u16 pid,iV .u32 c,iV .u32 d,sL f g h] rfl) fun j=>?_
 refine Ab 1<|Ai<|Av ?_
 refine A5 1 [(0,0)]<|Cb (v:=Value.tuple #[iV .u8 0,bV false]) (A8 fun l i=>(Wc ttl pid c d f g h _))<|Ab 5<|Ai ?_
 refine Al [] An rfl<|Aj []<|Am rfl<|D7 rfl (Ar<|bV true) rfl
structure SesE where
  (pr src dst frm dto ext ends:Int)
  lan:Bool
  (s0 s1 s2 s3 s4:Bool)
  id:Int
  given:Bool
abbrev seL(x:SesE):List Value:=[iV .u8 (x.pr),iV .u32 (x.src),iV .u32 (x.dst),iV .u16 (x.frm),iV .u16 (x.dto),iV .u16 (x.ext),iV .u64 (x.ends),bV (x.lan),bV (x.s0),bV (x.s1),bV (x.s2),bV (x.s3),bV (x.s4)]
abbrev seF(x:SesE):List Value:=[iV .u8 (x.pr),iV .u32 (x.src),iV .u32 (x.dst),iV .u16 (x.frm),iV .u16 (x.dto)]
abbrev Sq(x:SesE):List Value:=[iV .u8 (x.pr),iV .u32 (x.src),iV .u32 (x.dst),iV .u16 (x.frm),iV .u16 (x.dto),iV .u16 (x.ext),iV .u64 (x.ends),bV (x.lan),bV (x.s0),bV (x.s1),bV (x.s2),bV (x.s3),bV (x.s4),iV .u64 (x.id),bV (x.given)]
def Ac0(x:SesE):List Value:=[.int .u8 x.pr,.int .u32 x.src,.int .u32 x.dst,.int .u16 x.frm,.int .u16 x.dto,.int .u16 x.ext,.int .u64 x.ends,.bool x.lan,.bool x.s0,.bool x.s1,.bool x.s2,.bool x.s3,.bool x.s4,.int .u64 x.id,.bool x.given]
def Ac1(now:Int):Int:=bif decide (D2 .u64 now 300<now)then 18446744073709551615 else D2 .u64 now 300
structure Mpg where
  proto:Int
  ext:Int
  to:Int
  remote:Int
  host:Int
abbrev K0(x:Mpg):List Value:=[iV .u8 (x.proto),iV .u16 (x.ext),iV .u16 (x.to),iV .u32 (x.remote),iV .u32 (x.host)]
abbrev Ax:Mpg:=(⟨0,0,0,0,0⟩:Mpg)
instance :Inhabited Mpg:=⟨Ax⟩
def Jc(x:Mpg):List Value:=[Value.int .u8 x.proto,Value.int .u16 x.ext,Value.int .u16 x.to,Value.int .u32 x.remote,Value.int .u32 x.host]
theorem We(xs:List Mpg):(mm Jc xs).length=xs.length*5:=Ch (g:=Jc) (fun _=>rfl) xs
theorem Ahh(x:Mpg): ∀v∈Jc x,v.oneCell'=true:=by simp[Jc,Value.oneCell']
def ruM(f:Ci)(m:Mpg):Bool:=(((m.proto==f.1)&&(m.host==f.2.1))&&(m.to==f.2.2.2.1))&&((m.remote==0)||(m.remote==f.2.2.1))
def ruW(f:Ci)(w:Conf.Fwd):Bool:=((w.proto==f.1)&&(w.host==f.2.1))&&(w.dest==f.2.2.2.1)
def Gm(ms:List Mpg)(fx:List Conf.Fwd)(f:Ci):Option Int:=match ms.find? (ruM f)with
  |some m=>some m.ext
  |none=>(fx.find? (ruW f)).map fun w=>w.port
theorem Ks{α:Type}{q:α→Bool}(d:α){xs:List α}{i:Nat}(l:i<xs.length)(f: ∀j,j<i→q (xs.getD j d)=false)(h:q (xs.getD i d)=true):xs.find? q=some (xs.getD i d):=by
  have g: ∀j (c:j<xs.length),xs.getD j d=xs[j]:=fun j c=>by rw[List.getD_eq_getElem?_getD,List.getElem?_eq_getElem c];rfl
  have e:xs=xs.take i++xs.getD i d::xs.drop (i+1):=by rw[g i l,←List.drop_eq_getElem_cons l,List.take_append_drop]
  conv=>lhs;rw[e]
  rw[List.find?_append,List.find?_cons,h]
  have:(xs.take i).find? q=none:=by
    rw[List.find?_eq_none]
    intro x r
    obtain⟨j,c,rfl⟩:=List.getElem_of_mem r
    rw[List.length_take]at c
    rw[List.getElem_take]
    have:=f j Ae
    rw[g j Ae]at this
    rw[this];decide
  rw[this];rfl
theorem Kt{α:Type}{q:α→Bool}(d:α){xs:List α}(c: ∀j,j<xs.length→q (xs.getD j d)=false):xs.find? q=none:=by
  rw[List.find?_eq_none]
  intro x g
  obtain⟨j,f,rfl⟩:=List.getElem_of_mem g
  have:=c j f
  rw[List.getD_eq_getElem?_getD,List.getElem?_eq_getElem f]at this
  have h:q xs[j]=false:=this
  rw[h];decide
abbrev Q8(f:Ci):List Value:=(Kw f)
theorem Ak7(c:Conf.Cfg)(fx:List Conf.Fwd)(E:Option Addr)(fc:Nat)(ms:List Mpg)(F:Option Addr)(r:Nat)(ts te:Nat)(tk:Nat→Option Nat)(wb ti:Nat)(lst:Int)(I:Nat)(f:Ci)(w:World)(J:At w (some ⟨I,0,none⟩) (En (O4 c (sL E fx.length fc)) (sL F ms.length r) (pL (some ⟨ts,0,none⟩)) (pL (some ⟨te,0,none⟩)) tk (pL (some ⟨wb,0,none⟩)) (pL (some ⟨ti,0,none⟩)) (Value.int .u64 lst)))(L:At w E (mm Conf.fwv fx))(aw:fx.length≤100000)(N:At w F (mm Jc ms))(ax:ms.length≤100000):Calls prog 110 #[pV I 0,aV (Kw f)] w (Df w (.tuple #[.int .u16 ((Gm ms fx f).getD 0),.bool (Gm ms fx f).isSome])):=by
 refine Ap (M:=[]) (LL:=[]) (n:=85) func110 rfl rfl A7 (Mem.refl _)<|W.s ?_
 refine Ac<|Af rfl (Bx (Q8 f) rfl) fun G=>?_
 refine Ab 2<|Ai<|W.s<|W.s ?_
 refine Ac<|Ab 3<|Ao (v:=sL F ms.length r) (Ys.ld (a:=⟨I,28,none⟩) rfl Aa isAgg56 fun x d=>by have O:=(J.mem0 d).ld (q:=28) ((Cf rfl An).trans rfl);rw[Be]at O;exact O)<|Ab 2<|Ay ?_
 refine A9<|W.block<|Dd [0,3,13,14,15] (fun(i:Nat)=>[pV I 0,pV G 0,sL F ms.length r,nV .i64 ms.length,nV .i64 i]) (fun(i:Nat)=>i≤ms.length∧ ∀j,j<i→ruM f (ms.getD j Ax)=false) (fun(i:Nat)=>[[cb G (Q8 f) 47]]) (fun(i:Nat)=>ms.length-i) 0 Aa ⟨(Nat.zero_le _),(fun j l=>absurd l<|Nat.not_lt_zero j)⟩ (by rfl) fun i f7 J6 ai A=>?_
 obtain⟨hi,B⟩:=ai
 refine Aj []<|W.s ?_
 refine Ak (decide<|((i:Nat):Int)<(ms.length:Int)) Aa (fun aj=>?_) fun ak=>?_
 ·have P:=aj;try simp only[zA]at P
  refine Ag<|A9<|W.s<|W.block<|W.s ?_
  refine Ac<|Ao (v:=pL<|some<|Cs F<|i*5) (Bb fun x d=>Aq (k:=.i64) (a:=F) (len:=ms.length) (cap:=r) (i:=(i:Int)) (sz:=5) rfl Aa Aa runUnderlying56 sizeOf26 Ae Ae<|(N.mem0 d).here Vj)<|Ao (v:=aV<|K0<|ms.getD i Ax) (Ys.ldN (a:=Cs F<|i*5) (vs:=(K0<|ms.getD i Ax)) rfl Aa isAgg26 sizeOf26 rfl fun x d=>(N.mem0 d).ldN<|Db (g:=Jc) (sz:=5) (fun _=>rfl) Ax (xs:=ms) (k:=i) Ae)<|Af rfl (Ba zeroValue26) fun p7=>Af rfl (A0 p7 0 0 0 (K0<|ms.getD i Ax) sizeOf26 rfl rfl) fun _=>?_
  refine Ai<|Av<|A5 6 [(0,0),(1,0)] ?_
  refine Da 5 (((ms.getD i Ax).proto)==f.1) (fun _=>Gs.z [(0,0),(1,0)])<|Ao (v:=bV<|(((ms.getD i Ax).proto)==f.1)&&(((ms.getD i Ax).host)==f.2.1)) (B9 (e:=((ms.getD i Ax).proto)==f.1) (b:=((ms.getD i Ax).host)==f.2.1) rfl Aa Aa Aa)<|Ab 1<|Da 5 ((((ms.getD i Ax).proto)==f.1)&&(((ms.getD i Ax).host)==f.2.1)) (fun _=>Gs.z [(0,0),(1,0)])<|Ao (v:=bV<|((((ms.getD i Ax).proto)==f.1)&&(((ms.getD i Ax).host)==f.2.1))&&(((ms.getD i Ax).to)==f.2.2.2.1)) (B9 (e:=(((ms.getD i Ax).proto)==f.1)&&(((ms.getD i Ax).host)==f.2.1)) (b:=((ms.getD i Ax).to)==f.2.2.2.1) rfl Aa Aa Aa) ?_
  refine Ab 1<|Da 4 (((((ms.getD i Ax).proto)==f.1)&&(((ms.getD i Ax).host)==f.2.1))&&(((ms.getD i Ax).to)==f.2.2.2.1)) (fun _=>Gs.z [(0,0)]) ?_
  refine Bz (v:=pV p7 3) ((((((ms.getD i Ax).proto)==f.1)&&(((ms.getD i Ax).host)==f.2.1))&&(((ms.getD i Ax).to)==f.2.2.2.1))&& !(((ms.getD i Ax).remote)==0)) rfl (Dr rfl rfl Aa) rfl (fun ao=>?_) ?_
  ·exact Ys.p
  refine Bz (v:=iV .u32<|(ms.getD i Ax).remote) ((((((ms.getD i Ax).proto)==f.1)&&(((ms.getD i Ax).host)==f.2.1))&&(((ms.getD i Ax).to)==f.2.2.2.1))&& !(((ms.getD i Ax).remote)==0)) rfl (Dr rfl rfl Aa) rfl (fun Q=>?_) ?_
  ·refine Bh (t:=43) (v0:=pV p7 3) (lz (g:=(((((ms.getD i Ax).proto)==f.1)&&(((ms.getD i Ax).host)==f.2.1))&&(((ms.getD i Ax).to)==f.2.2.2.1))&& !(((ms.getD i Ax).remote)==0)) (u:=undef) Q Aa) ?_
   exact Cn p7 3 0 0 isAgg24
  refine Bz (v:=pV G 2) ((((((ms.getD i Ax).proto)==f.1)&&(((ms.getD i Ax).host)==f.2.1))&&(((ms.getD i Ax).to)==f.2.2.2.1))&& !(((ms.getD i Ax).remote)==0)) rfl (Dr rfl rfl Aa) rfl (fun ap=>?_) ?_
  ·exact Ys.p
  refine Bz (v:=iV .u32 f.2.2.1) ((((((ms.getD i Ax).proto)==f.1)&&(((ms.getD i Ax).host)==f.2.1))&&(((ms.getD i Ax).to)==f.2.2.2.1))&& !(((ms.getD i Ax).remote)==0)) rfl (Dr rfl rfl Aa) rfl (fun R=>?_) ?_
  ·refine Bh (t:=45) (v0:=pV G 2) (lz (g:=(((((ms.getD i Ax).proto)==f.1)&&(((ms.getD i Ax).host)==f.2.1))&&(((ms.getD i Ax).to)==f.2.2.2.1))&& !(((ms.getD i Ax).remote)==0)) (u:=undef) R Aa) ?_
   exact Cn G 2 1 0 isAgg24
  refine Bz (v:=bV<|((ms.getD i Ax).remote)==f.2.2.1) ((((((ms.getD i Ax).proto)==f.1)&&(((ms.getD i Ax).host)==f.2.1))&&(((ms.getD i Ax).to)==f.2.2.2.1))&& !(((ms.getD i Ax).remote)==0)) rfl (Dr rfl rfl Aa) rfl (fun C=>?_) ?_
  ·refine Bh (t:=44) (v0:=iV .u32<|(ms.getD i Ax).remote) (lz (g:=(((((ms.getD i Ax).proto)==f.1)&&(((ms.getD i Ax).host)==f.2.1))&&(((ms.getD i Ax).to)==f.2.2.2.1))&& !(((ms.getD i Ax).remote)==0)) (u:=undef) C Aa)<|Bh (t:=46) (v0:=iV .u32 f.2.2.1) (lz (g:=(((((ms.getD i Ax).proto)==f.1)&&(((ms.getD i Ax).host)==f.2.1))&&(((ms.getD i Ax).to)==f.2.2.2.1))&& !(((ms.getD i Ax).remote)==0)) (u:=undef) C Aa) ?_
   exact Ys.p
  refine Da 1 (((((ms.getD i Ax).proto)==f.1)&&(((ms.getD i Ax).host)==f.2.1))&&(((ms.getD i Ax).to)==f.2.2.2.1)) (fun D=>Gs.y (v:=bV<|(((ms.getD i Ax).remote)==0)||(((ms.getD i Ax).remote)==f.2.2.1)) (Bh (t:=42) (v0:=bV<|((ms.getD i Ax).remote)==0) (lz (g:=((((ms.getD i Ax).proto)==f.1)&&(((ms.getD i Ax).host)==f.2.1))&&(((ms.getD i Ax).to)==f.2.2.2.1)) (u:=undef) D Aa)<|Bh (t:=47) (v0:=(bif !(((ms.getD i Ax).remote)==0)then bV (((ms.getD i Ax).remote)==f.2.2.1)else undef)) (lz2 (g:=((((ms.getD i Ax).proto)==f.1)&&(((ms.getD i Ax).host)==f.2.1))&&(((ms.getD i Ax).to)==f.2.2.2.1)) D Aa)<|Ce (e:=((ms.getD i Ax).remote)==0) (b:=((ms.getD i Ax).remote)==f.2.2.1) rfl Aa Aa Aa) Gs.nil)<|Ao (v:=bV<|(((((ms.getD i Ax).proto)==f.1)&&(((ms.getD i Ax).host)==f.2.1))&&(((ms.getD i Ax).to)==f.2.2.2.1))&&((((ms.getD i Ax).remote)==0)||(((ms.getD i Ax).remote)==f.2.2.1))) (B9 (e:=((((ms.getD i Ax).proto)==f.1)&&(((ms.getD i Ax).host)==f.2.1))&&(((ms.getD i Ax).to)==f.2.2.2.1)) (b:=(((ms.getD i Ax).remote)==0)||(((ms.getD i Ax).remote)==f.2.2.1)) rfl Aa Aa Aa)<|Ai ?_
  refine Ak ((((((ms.getD i Ax).proto)==f.1)&&(((ms.getD i Ax).host)==f.2.1))&&(((ms.getD i Ax).to)==f.2.2.2.1))&&((((ms.getD i Ax).remote)==0)||(((ms.getD i Ax).remote)==f.2.2.1))) Aa (fun S=>?_) fun T=>?_
  ·have U:=S;try simp only[zA]at U
   refine Aj [(0,0)]<|Al [] An rfl<|Am rfl<|L1 rfl (Ar<|iV .u16<|(ms.getD i Ax).ext) (Ar<|bV true) (by clear A;unfold Gm;rw[Ks Ax Ae B (show ruM f (ms.getD i Ax)=true from S)];rfl)
  ·have V:=T;try simp only[zA]at V
   refine Ag<|A9<|Ac<|Bw (((i+1):Nat):Int) (i:Int) 1<|Ab 1 ?_
   refine Ay ?_
   refine fun x d=>A (i+1) _ x Ae ⟨Ae,(fun j l=>(Nat.lt_succ_iff_lt_or_eq.1 l).elim (B j) fun e_=>by subst e_;exact T)⟩ ?_<|d.pick [1] An rfl
   kernel_rfl
 ·have X:=ak;try simp only[zA]at X
  refine Cm<|A9<|W.s<|Av ?_
  refine Ab 4<|Ao (v:=sL E fx.length fc) (Ys.ld (a:=⟨I,25,none⟩) rfl Aa isAgg30 fun x d=>by have O:=(J.mem0 d).ld (q:=25) ((Cf rfl An).trans rfl);rw[Be]at O;exact O)<|Ab 2<|Ai ?_
  refine W.block<|Dd [3,57,58,59] (fun(k:Nat)=>[pV G 0,sL E fx.length fc,nV .i64 fx.length,nV .i64 k]) (fun(k:Nat)=>k≤fx.length∧ ∀j,j<k→ruW f (fx.getD j fz)=false) (fun(k:Nat)=>[[cb G (Q8 f) 47]]) (fun(k:Nat)=>fx.length-k) 0 Aa ⟨(Nat.zero_le _),(fun j l=>absurd l<|Nat.not_lt_zero j)⟩ (by rfl) fun k ay az Y h=>?_
  obtain⟨hk,H⟩:=Y
  refine Aj []<|W.s ?_
  refine Ak (decide<|((k:Nat):Int)<(fx.length:Int)) Aa (fun am=>?_) fun an=>?_
  ·have Z:=am;try simp only[zA]at Z
   refine Ag<|A9<|W.s<|W.block<|W.s ?_
   refine Ac<|Ao (v:=pL<|some<|Cs E<|k*4) (Bb fun x d=>Aq (k:=.i64) (a:=E) (len:=fx.length) (cap:=fc) (i:=(k:Int)) (sz:=4) rfl Aa Aa runUnderlying30 sizeOf65 Ae Ae<|(L.mem0 d).here Tq)<|Ao (v:=aV<|L8<|fx.getD k fz) (Ys.ldN (a:=Cs E<|k*4) (vs:=(L8<|fx.getD k fz)) rfl Aa isAgg65 sizeOf65 rfl fun x d=>(L.mem0 d).ldN<|Db (g:=fwv) (sz:=4) (fun _=>rfl) fz (xs:=fx) (k:=k) Ae)<|Af rfl (Ba zeroValue65) fun p9=>Af rfl (A0 p9 0 0 0 (L8<|fx.getD k fz) sizeOf65 rfl rfl) fun _=>?_
   refine Ai<|Av<|A5 6 [(0,0),(1,0)] ?_
   refine Da 5 (((fx.getD k fz).proto)==f.1) (fun _=>Gs.z [(0,0),(1,0)])<|Ao (v:=bV<|(((fx.getD k fz).proto)==f.1)&&(((fx.getD k fz).host)==f.2.1)) (B9 (e:=((fx.getD k fz).proto)==f.1) (b:=((fx.getD k fz).host)==f.2.1) rfl Aa Aa Aa)<|Ab 1<|Da 5 ((((fx.getD k fz).proto)==f.1)&&(((fx.getD k fz).host)==f.2.1)) (fun _=>Gs.z [(0,0),(1,0)])<|Ao (v:=bV<|((((fx.getD k fz).proto)==f.1)&&(((fx.getD k fz).host)==f.2.1))&&(((fx.getD k fz).dest)==f.2.2.2.1)) (B9 (e:=(((fx.getD k fz).proto)==f.1)&&(((fx.getD k fz).host)==f.2.1)) (b:=((fx.getD k fz).dest)==f.2.2.2.1) rfl Aa Aa Aa) ?_
   refine Ai ?_
   refine Ak (((((fx.getD k fz).proto)==f.1)&&(((fx.getD k fz).host)==f.2.1))&&(((fx.getD k fz).dest)==f.2.2.2.1)) Aa (fun aa=>?_) fun ab=>?_
   ·have ad:=aa;try simp only[zA]at ad
    refine Aj [(0,0)]<|Al [] An rfl<|Am rfl<|L1 rfl (Ar<|iV .u16<|(fx.getD k fz).port) (Ar<|bV true) (by clear A h;unfold Gm;rw[Kt Ax (fun j l=>B j Ae),Ks fz Ae H (show ruW f (fx.getD k fz)=true from aa)];rfl)
   ·have ae:=ab;try simp only[zA]at ae
    refine Ag<|A9<|Ac<|Bw (((k+1):Nat):Int) (k:Int) 1<|Ab 1 ?_
    refine Ay ?_
    refine fun x d=>h (k+1) _ x Ae ⟨Ae,(fun j l=>(Nat.lt_succ_iff_lt_or_eq.1 l).elim (H j) fun e_=>by subst e_;exact ab)⟩ ?_<|d.pick [1] An rfl
    kernel_rfl
  ·have af:=an;try simp only[zA]at af
   refine Cm<|A9<|Al [] An rfl<|Aj []<|Am rfl<|L1 rfl (Ar<|iV .u16 0) (Ar<|bV false)<|by clear A h;unfold Gm;rw[Kt Ax (fun j l=>B j Ae),Kt fz (fun j l=>H j Ae)];rfl
def maQ(f:Ci)(r:Int)(m:Mpg):Bool:=((m.proto==f.1)&&(m.ext==f.2.2.2.2))&&(m.remote==r)
def Ex(ms:List Mpg)(f:Ci):Option Mpg:=match ms.find? (maQ f f.2.1)with
  |some m=>some m
  |none=>ms.find? (maQ f 0)
abbrev Q9:List Value:=zl4
abbrev Qa(f:Ci):List Value:=(Kw f)
theorem Tb(c:Conf.Cfg)(fx:List Conf.Fwd)(fa:Option Addr)(fc:Nat)(ms:List Mpg)(r:Option Addr)(d:Nat)(ts te:Nat)(tk:Nat→Option Nat)(wb ti:Nat)(lst:Int)(G:Nat)(f:Ci)(w:World)(H:At w (some ⟨G,0,none⟩) (En (O4 c (sL fa fx.length fc)) (sL r ms.length d) (pL (some ⟨ts,0,none⟩)) (pL (some ⟨te,0,none⟩)) tk (pL (some ⟨wb,0,none⟩)) (pL (some ⟨ti,0,none⟩)) (Value.int .u64 lst)))(ap:At w fa (mm Conf.fwv fx))(aq:fx.length≤100000)(B:At w r (mm Jc ms))(ar:ms.length≤100000):Calls prog 98 #[pV G 0,aV (Kw f)] w (Df w (.tuple #[aV (K0 ((Ex ms f).getD Ax)),.bool (Ex ms f).isSome])):=by
 refine Ap (M:=[]) (LL:=[]) (n:=47) func98 rfl rfl A7 (Mem.refl _)<|W.s ?_
 refine Ac<|Af rfl (Bx (Qa f) rfl) fun p3=>?_
 refine Af rfl (Ba zeroValue26) fun x=>Ab 1<|Ai<|W.s ?_
 refine Aj [(1,0)]<|W.block<|Jq 3<|Dl fun J6 C=>Aj [] ?_
 refine W.s<|Cd Aa<|Ag<|A9<|W.s ?_
 refine W.block<|Aj []<|Av<|Ab 3 ?_
 refine Ao (v:=sL r ms.length d) (Ys.ld (a:=⟨G,28,none⟩) rfl Aa isAgg56 fun D h=>by have I:=(H.mem0 h).ld (q:=28) ((Cf rfl An).trans rfl);rw[Be]at I;exact I)<|Ab 2<|Ai<|W.block ?_
 refine Dd [0,3,4,7,12,13,19,20,21] (fun(i:Nat)=>[pV G 0,pV p3 0,pV x 0,iV .u32 f.2.1,aV [iV .u32 f.2.1,iV .u32 0],iV .i64 0,sL r ms.length d,nV .i64 ms.length,nV .i64 i]) (fun(i:Nat)=>i≤ms.length∧ ∀j,j<i→maQ f f.2.1 (ms.getD j Ax)=false) (fun(i:Nat)=>[[cb x Q9 26],[cb p3 (Qa f) 47]]) (fun(i:Nat)=>ms.length-i) 0 Aa ⟨(Nat.zero_le _),(fun j A=>absurd A<|Nat.not_lt_zero j)⟩ (by rfl) fun i au av J l=>?_
 obtain⟨hi,E⟩:=J
 refine Aj []<|W.s ?_
 refine Ak (decide<|((i:Nat):Int)<(ms.length:Int)) Aa (fun ad=>?_) fun ae=>?_
 ·have L:=ad;try simp only[zA]at L
  refine Ag<|A9<|W.s<|W.block<|W.s ?_
  refine Ac<|Ao (v:=pL<|some<|Cs r<|i*5) (Bb fun D h=>Aq (k:=.i64) (a:=r) (len:=ms.length) (cap:=d) (i:=(i:Int)) (sz:=5) rfl Aa Aa runUnderlying56 sizeOf26 Ae Ae<|(B.mem0 h).here Vj)<|Ao (v:=aV<|K0<|ms.getD i Ax) (Ys.ldN (a:=Cs r<|i*5) (vs:=(K0<|ms.getD i Ax)) rfl Aa isAgg26 sizeOf26 rfl fun D h=>(B.mem0 h).ldN<|Db (g:=Jc) (sz:=5) (fun _=>rfl) Ax (xs:=ms) (k:=i) Ae)<|Af rfl (Ba zeroValue26) fun p9=>Af rfl (A0 p9 0 0 0 (K0<|ms.getD i Ax) sizeOf26 rfl rfl) fun _=>?_
  refine Ai<|Av<|A5 6 [(0,0),(2,0)] ?_
  refine Da 5 (((ms.getD i Ax).proto)==f.1) (fun _=>Gs.z [(0,0),(2,0)])<|Ao (v:=bV<|(((ms.getD i Ax).proto)==f.1)&&(((ms.getD i Ax).ext)==f.2.2.2.2)) (B9 (e:=((ms.getD i Ax).proto)==f.1) (b:=((ms.getD i Ax).ext)==f.2.2.2.2) rfl Aa Aa Aa)<|Ab 1<|Da 4 ((((ms.getD i Ax).proto)==f.1)&&(((ms.getD i Ax).ext)==f.2.2.2.2)) (fun _=>Gs.z [(0,0)])<|Ao (v:=bV<|((((ms.getD i Ax).proto)==f.1)&&(((ms.getD i Ax).ext)==f.2.2.2.2))&&(((ms.getD i Ax).remote)==f.2.1)) (B9 (e:=(((ms.getD i Ax).proto)==f.1)&&(((ms.getD i Ax).ext)==f.2.2.2.2)) (b:=((ms.getD i Ax).remote)==f.2.1) rfl Aa Aa Aa) ?_
  refine Ai ?_
  refine Ak (((((ms.getD i Ax).proto)==f.1)&&(((ms.getD i Ax).ext)==f.2.2.2.2))&&(((ms.getD i Ax).remote)==f.2.1)) Aa (fun N=>?_) fun O=>?_
  ·have P:=N;try simp only[zA]at P
   refine Av<|A5 1 [(0,0)]<|Af rfl (A0 x 0 1 0 (K0<|ms.getD i Ax) sizeOf26 rfl rfl) fun _=>Ab 1 ?_
   refine Ai<|Al [1] An rfl<|Am rfl<|L1 rfl (Bu x 0 0 0 (K0<|ms.getD i Ax) isAgg26 sizeOf26) (Ar<|bV true) (by clear C l;unfold Ex;rw[Ks Ax Ae E (show maQ f f.2.1 (ms.getD i Ax)=true from N)];rfl)
  ·have Q:=O;try simp only[zA]at Q
   refine Ag<|A9<|Ac<|Bw (((i+1):Nat):Int) (i:Int) 1<|Ab 1 ?_
   refine Ay ?_
   refine fun D h=>l (i+1) _ D Ae ⟨Ae,(fun j A=>(Nat.lt_succ_iff_lt_or_eq.1 A).elim (E j) fun e_=>by subst e_;exact O)⟩ ?_<|h.pick [1,2] An rfl
   kernel_rfl
 ·have R:=ae;try simp only[zA]at R
  refine Cm<|A9<|Ac<|Ab 2<|Ay ?_
  refine C _ _ _<|Dl fun aw t=>?_
  refine Aj []<|W.s ?_
  refine Cd Aa<|Ag<|A9<|W.s<|W.block ?_
  refine Aj []<|W.s ?_
  refine Ac<|Ab 3<|Ao (v:=sL r ms.length d) (Ys.ld (a:=⟨G,28,none⟩) rfl Aa isAgg56 fun D h=>by have I:=(H.mem0 h).ld (q:=28) ((Cf rfl An).trans rfl);rw[Be]at I;exact I)<|Ab 2<|Ay ?_
  refine A9<|W.block<|Dd [0,3,4,7,12,13,19,20,21] (fun(k:Nat)=>[pV G 0,pV p3 0,pV x 0,iV .u32 0,aV [iV .u32 f.2.1,iV .u32 0],iV .i64 1,sL r ms.length d,nV .i64 ms.length,nV .i64 k]) (fun(k:Nat)=>k≤ms.length∧ ∀j,j<k→maQ f 0 (ms.getD j Ax)=false) (fun(k:Nat)=>[[cb x Q9 26],[cb p3 (Qa f) 47]]) (fun(k:Nat)=>ms.length-k) 0 Aa ⟨(Nat.zero_le _),(fun j A=>absurd A<|Nat.not_lt_zero j)⟩ (by rfl) fun k ax ay S u=>?_
  obtain⟨hk,F⟩:=S
  refine Aj []<|W.s ?_
  refine Ak (decide<|((k:Nat):Int)<(ms.length:Int)) Aa (fun ah=>?_) fun ai=>?_
  ·have T:=ah;try simp only[zA]at T
   refine Ag<|A9<|W.s<|W.block<|W.s ?_
   refine Ac<|Ao (v:=pL<|some<|Cs r<|k*5) (Bb fun D h=>Aq (k:=.i64) (a:=r) (len:=ms.length) (cap:=d) (i:=(k:Int)) (sz:=5) rfl Aa Aa runUnderlying56 sizeOf26 Ae Ae<|(B.mem0 h).here Vj)<|Ao (v:=aV<|K0<|ms.getD k Ax) (Ys.ldN (a:=Cs r<|k*5) (vs:=(K0<|ms.getD k Ax)) rfl Aa isAgg26 sizeOf26 rfl fun D h=>(B.mem0 h).ldN<|Db (g:=Jc) (sz:=5) (fun _=>rfl) Ax (xs:=ms) (k:=k) Ae)<|Af rfl (Ba zeroValue26) fun p9=>Af rfl (A0 p9 0 0 0 (K0<|ms.getD k Ax) sizeOf26 rfl rfl) fun _=>?_
   refine Ai<|Av<|A5 6 [(0,0),(2,0)] ?_
   refine Da 5 (((ms.getD k Ax).proto)==f.1) (fun _=>Gs.z [(0,0),(2,0)])<|Ao (v:=bV<|(((ms.getD k Ax).proto)==f.1)&&(((ms.getD k Ax).ext)==f.2.2.2.2)) (B9 (e:=((ms.getD k Ax).proto)==f.1) (b:=((ms.getD k Ax).ext)==f.2.2.2.2) rfl Aa Aa Aa)<|Ab 1<|Da 4 ((((ms.getD k Ax).proto)==f.1)&&(((ms.getD k Ax).ext)==f.2.2.2.2)) (fun _=>Gs.z [(0,0)])<|Ao (v:=bV<|((((ms.getD k Ax).proto)==f.1)&&(((ms.getD k Ax).ext)==f.2.2.2.2))&&(((ms.getD k Ax).remote)==0)) (B9 (e:=(((ms.getD k Ax).proto)==f.1)&&(((ms.getD k Ax).ext)==f.2.2.2.2)) (b:=((ms.getD k Ax).remote)==0) rfl Aa Aa Aa) ?_
   refine Ai ?_
   refine Ak (((((ms.getD k Ax).proto)==f.1)&&(((ms.getD k Ax).ext)==f.2.2.2.2))&&(((ms.getD k Ax).remote)==0)) Aa (fun U=>?_) fun V=>?_
   ·have X:=U;try simp only[zA]at X
    refine Av<|A5 1 [(0,0)]<|Af rfl (A0 x 0 1 0 (K0<|ms.getD k Ax) sizeOf26 rfl rfl) fun _=>Ab 1 ?_
    refine Ai<|Al [1] An rfl<|Am rfl<|L1 rfl (Bu x 0 0 0 (K0<|ms.getD k Ax) isAgg26 sizeOf26) (Ar<|bV true) (by clear C l t u;unfold Ex;rw[Kt Ax (fun j A=>E j Ae),Ks Ax Ae F (show maQ f 0 (ms.getD k Ax)=true from U)];rfl)
   ·have Y:=V;try simp only[zA]at Y
    refine Ag<|A9<|Ac<|Bw (((k+1):Nat):Int) (k:Int) 1<|Ab 1 ?_
    refine Ay ?_
    refine fun D h=>u (k+1) _ D Ae ⟨Ae,(fun j A=>(Nat.lt_succ_iff_lt_or_eq.1 A).elim (F j) fun e_=>by subst e_;exact V)⟩ ?_<|h.pick [1,2] An rfl
    kernel_rfl
  ·have Z:=ai;try simp only[zA]at Z
   refine Cm<|A9<|Ac<|Ab 2<|Ay ?_
   refine t _ _ _<|Dl fun az aa=>?_
   refine Aj []<|W.s ?_
   refine B4 Aa<|Cm<|A9<|Al [0] An rfl<|W.s ?_
   refine Ac<|Ab 1<|Af rfl (A0 x 0 0 0 Q9 sizeOf26 rfl rfl) fun _=>Ab 1<|Ay ?_
   refine A9<|Am rfl<|L1 rfl (Bu x 0 0 0 zl4 isAgg26 sizeOf26) (Ar<|bV false)<|by clear C l t u aa;unfold Ex;rw[Kt Ax (fun j A=>E j Ae),Kt Ax (fun j A=>F j Ae)];rfl
def Bl(n:Int):Nat:=(Pd (Ep n 0) 8).toNat
theorem Ln(n:Int):Bl n≤8:=by unfold Bl;have:=Tv (Ep n 0) 8;omega
theorem Nz(n:Int):Pd (Ep n 0) 8=(Bl n:Int):=by unfold Bl;have c:=Tv (Ep n 0) 8;have d:=Kf n 0;omega
theorem Zc(size:Int)(w:World):Calls prog 172 #[iV .i64 size] w (Df w (.int .i64 (Bl size:Int))):=by
 refine Ap (M:=[]) (LL:=[]) (n:=6) func172 rfl rfl A7 (Mem.refl _)<|Aj []<|Av<|Ab 4 ?_
 have c:=Kf size 0
 have d:=Tv (Ep size 0) 8
 refine Ai<|Am rfl<|D7 rfl (Ar<|iV .i64<|Pd (Ep size 0) 8)<|by exact Ad (Nz size)
theorem Ahj(size:Int)(w:World):Calls prog 157 #[iV .i64 size] w (Df w (.int .i64 (Bl size:Int))):=by
 refine Ap (M:=[]) (LL:=[]) (n:=8) func157 rfl rfl A7 (Mem.refl _)<|Aj []<|W.s<|Aj [] ?_
 refine Ak (decide<|size<0) Aa (fun j=>?_) fun l=>?_
 ·have f:=j;try simp only[zA]at f
  refine Aj []<|Am rfl<|D7 rfl (Ar<|iV .i64 0)<|by refine Ad ((Nz size).symm.trans ?_).symm;unfold Pd Ep;repeat(first|omega|split)
 ·have g:=l;try simp only[zA]at g
  refine Ag<|A9<|W.s<|Aj [] ?_
  refine Ak (decide<|size>8) Aa (fun h=>?_) fun i=>?_
  ·have c:=h;try simp only[zA]at c
   refine Aj []<|Am rfl<|D7 rfl (Ar<|iV .i64 8)<|by refine Ad ((Nz size).symm.trans ?_).symm;unfold Pd Ep;repeat(first|omega|split)
  ·have d:=i;try simp only[zA]at d
   refine Ag<|A9<|Aj []<|Am rfl<|D7 rfl (Ar<|iV .i64 size)<|by refine Ad ((Nz size).symm.trans ?_).symm;unfold Pd Ep;repeat(first|omega|split)
def be:Nat→Nat→List UInt8
  |0,_=>[]
  |k+1,n=>be k (n/256)++[UInt8.ofNat n]
theorem Bc: ∀k n,(be k n).length=k
  |0,_=>rfl
  |k+1,n=>by simp[be,Bc k]
theorem R2: ∀k n,be (k+1) n=UInt8.ofNat (n/256^k)::be k n
  |0,n=>by simp[be]
  |k+1,n=>by
    rw[be,R2 k,be,List.cons_append]
    rw[Nat.div_div_eq_div_mul,←Nat.pow_succ']
theorem Ac2(k i n:Nat)(h:i<k):(List.replicate (k-i) 0++be i n).set (k-1-i) (UInt8.ofNat (n/256^i))=List.replicate (k-(i+1)) 0++be (i+1) n:=by
  obtain⟨m,rfl⟩: ∃m,k=i+1+m:=⟨k-(i+1),by omega⟩
  rw[show i+1+m-i=m+1 by omega,show i+1+m-1-i=m by omega,show i+1+m-(i+1)=m by omega,R2]
  rw[List.set_append_left _ _ A7,List.replicate_succ',List.set_append_right _ _ A7]
  simp
theorem Tc(x:Nat):UInt8.ofNat (x%256)=UInt8.ofNat x:=UInt8.toNat_inj.1 (by rw[UInt8.toNat_ofNat',UInt8.toNat_ofNat'];omega)
theorem Ac3(n i:Nat)(h:n<18446744073709551616):n/256^i<18446744073709551616:=Nat.lt_of_le_of_lt (Nat.div_le_self _ _) h
theorem Wf(n i:Nat):n/256^i/256=n/256^(i+1):=by rw[Nat.div_div_eq_div_mul,←Nat.pow_succ]
theorem C7(size:Int)(n:Nat)(A:n<18446744073709551616)(w:World):Calls prog 145 #[iV .i64 size,nV .u64 n] w (Bn w (fun g:FS=>g.ok 1 (Bl size)∧g.nil=false) (fun g=>.slice g.a (Bl size) g.cap) [] (fun g=>[g.seg 5 (Cx (be (Bl size) n))])):=by
 have B:=Ln size
 refine Ap (M:=[]) (LL:=[]) (n:=28) func145 rfl rfl A7 (Mem.refl _)<|Aj []<|Av<|Ab 1 ?_
 refine Cb (v:=nV .i64<|Bl size) (A8 fun h C=>Zc _ _)<|Af rfl (Agk (kl:=.i64) (kc:=.i64) (t:=38) (e:=5) (ii:=(prog.info? 5).getD default) (z:=iV .u8 0) (lv:=(Bl size:Int)) (sz:=1) (bytes:=1) (cs:=mc b8<|List.replicate (Bl size) 0) rfl rfl Aa Aa Aa Aa Aa Aa Aa Ae Ae Ae<|Agm (g:=b8) _ 0 rfl) fun c=>?_
 refine Ab 1<|Ai<|W.s<|Aj [] ?_
 refine W.block<|Dd [1,5,11,12] (fun(i:Nat)=>[nV .u64 (n/256^i),Value.slice (some ⟨c,0,none⟩) (Bl size)<|Bl size,nV .i64<|Bl size,nV .i64 i]) (fun(i:Nat)=>i≤Bl size) (fun(i:Nat)=>[[cb c (mc b8<|List.replicate (Bl size-i) 0++be i n) 5]]) (fun(i:Nat)=>Bl size-i) 0 (Eq.trans (b:=([nV .u64 n,Value.slice (some ⟨c,0,none⟩) (Bl size)<|Bl size,nV .i64<|Bl size,iV .i64 0]:List Value)) Aa A7) Sv (by simp[be]) fun i E F l q=>?_
 have G:=l
 have H:=Ac3 n i A;have I:=Ln size;have J:(List.replicate (Bl size-i) (0:UInt8)++be i n).length=Bl size:=by simp[Bc];omega
 refine Aj []<|W.s ?_
 refine Ak (decide<|((i:Nat):Int)<(Bl size:Int)) Aa (fun r=>?_) fun u=>?_
 ·have d:=r;try simp only[zA]at d
  refine Ag<|A9<|W.s<|W.block<|Aj [] ?_
  refine Av<|Ab 3<|Ao (v:=iV .i64<|((Bl size:Nat):Int)-1) ((Ys.p (v:=.int .i64<|Hp .i64 (Bl size:Int) 1)).conseq<|Ad<|Er rfl Ae Ae)<|Ab 1 ?_
  refine Ao (v:=iV .i64<|((Bl size:Int)-1)-(i:Int)) ((Ys.p (v:=.int .i64<|Hp .i64 (((Bl size:Nat):Int)-1) (i:Int))).conseq<|Ad<|Er rfl Ae Ae)<|Ab 1<|Ao (v:=nV .u8<|(UInt8.ofNat<|n/256^i).toNat) ((Ys.p (v:=.int .u8<|Ct .u8 ((n/256^i:Nat):Int))).conseq<|Ad<|He _)<|Ao (v:=Value.pointer<|some ⟨c,(((((Bl size:Nat):Int)-1)-(i:Int)).toNat)*1,none⟩) ((Aq (k:=.i64) (a:=some ⟨c,0,none⟩) (len:=Bl size) (cap:=Bl size) (i:=(((Bl size:Nat):Int)-1)-(i:Int)) (sz:=1) rfl Aa Aa runUnderlying38 sizeOf5 Ae Ae rfl).conseq<|congrArg (fun a=>Value.pointer<|some a)<|Be _ _)<|Af rfl (Es (b:=c) (o':=(((((Bl size:Nat):Int)-1)-(i:Int)).toNat)*1) (i:=0) (j:=0) (cs:=mc b8<|List.replicate (Bl size-i) 0++be i n) (cs':=mc b8<|(List.replicate (Bl size-i) 0++be i n).set (((((Bl size:Nat):Int)-1)-(i:Int)).toNat)<|UInt8.ofNat<|n/256^i) (v:=nV .u8<|(UInt8.ofNat<|n/256^i).toNat) (LL':=[[cb c (mc b8<|(List.replicate (Bl size-i) 0++be i n).set (((((Bl size:Nat):Int)-1)-(i:Int)).toNat)<|UInt8.ofNat<|n/256^i) 5]]) rfl rfl Aa Aa sizeOf5 rfl rfl rfl (by first|(simp[mc];done)|(simp[mc];omega)) (Ty (g:=b8) (List.replicate (Bl size-i) 0++be i n) (((((Bl size:Nat):Int)-1)-(i:Int)).toNat)<|UInt8.ofNat<|n/256^i) rfl) fun _=>?_
  refine Ai<|Ac<|Ab 1<|Ao (v:=nV .u64<|(n/256^i)/256) ((Ys.p (v:=.int .u64<|Ib .u64 ((n/256^i:Nat):Int) ((8:Nat):Int))).conseq<|Ad<|Fc (n/256^i) 8 An) ?_
  refine Ab 1<|Ai<|Ac<|Bw (((i+1):Nat):Int) (i:Int) 1 ?_
  refine Ab 1<|Ay ?_
  refine fun h D=>q (i+1) _ h Ae Sv ?_<|Mem.cast (LL:=[[cb c (mc b8<|(List.replicate (Bl size-i) 0++be i n).set (((((Bl size:Nat):Int)-1)-(i:Int)).toNat)<|UInt8.ofNat<|n/256^i) 5]]) (by rw[show(((Bl size:Nat):Int)-1-(i:Int)).toNat=Bl size-1-i by omega,Ac2 _ _ _ Ae]) D
  refine Eq.trans (b:=([nV .u64 ((n/256^i)/256),Value.slice (some ⟨c,0,none⟩) (Bl size)<|Bl size,nV .i64<|Bl size,nV .i64 (i+1)]:List Value)) Aa<|by rw[Wf]
 ·have f:=u;try simp only[zA]at f
  refine Cm<|A9<|Aj []<|Am rfl<|D9 rfl (Ar<|Value.slice (some ⟨c,0,none⟩) (Bl size)<|Bl size) fun h x=>⟨⟨false,c,Bl size,[]⟩,⟨D4 (by have:=Ln size;simp only[maxLen];omega),rfl⟩,rfl,(Mem.cast (by rw[show Bl size-i=0 by omega,show i=Bl size by omega];simp[FS.seg]) x)⟩
theorem Xi(size:Int)(n:Nat)(I:n<18446744073709551616)(w:World):Calls prog 155 #[iV .i64 size,nV .u64 n] w (Bn w (fun g:FS=>g.ok 1 (Bl size)∧g.nil=false) (fun g=>.slice g.a (Bl size) g.cap) [] (fun g=>[g.seg 5 (Cx (be (Bl size) n))])):=by
 have J:=Ln size
 refine Ap (M:=[]) (LL:=[]) (n:=25) func155 rfl rfl A7 (Mem.refl _)<|Aj []<|Av<|Af rfl (Bj (mk:=fun r=>.slice (some ⟨r,0,none⟩) 0 0) (t:=5) (cs:=[]) rfl fun _=>kr) fun G=>?_
 refine Ab 3<|Ai<|W.s<|Aj [] ?_
 refine W.block<|Fx [0,5,6,7] (fun(i:Nat) (g:FS)=>[iV .i64 size,sV g i,nV .u64<|n/256^i,nV .i64 i]) (fun(i:Nat) (g:FS)=>i≤Bl size∧g.ok 1 i∧g.nil=false) (fun(i:Nat) (g:FS)=>[g.seg 5 (mc b8<|be i n)]) (fun(i:Nat) (g:FS)=>Bl size-i) 0 ⟨false,G,0,[]⟩ (Eq.trans (b:=([iV .i64 size,Value.slice (some ⟨G,0,none⟩) 0 0,nV .u64 n,iV .i64 0]:List Value)) Aa<|by simp[FS.a]) ⟨(Nat.zero_le _),(D4 An),rfl⟩ (by rfl) fun i g N O u x=>?_
 obtain⟨P,ok,A⟩:=u
 have Q:=Ac3 n i I
 refine W.s<|W.s ?_
 refine Ac<|Ab 2<|Cb (v:=nV .i64<|Bl size) (A8 fun q L=>Ahj _ _)<|Ab 1<|Ay ?_
 refine A9 ?_
 refine Ak (decide<|((i:Nat):Int)<(Bl size:Int)) Aa (fun B=>?_) fun C=>?_
 ·have d:=B;try simp only[zA]at d
  refine Ag<|A9<|W.s<|W.block<|W.s ?_
  refine Ac<|Ab 1<|Ao (v:=nV .u64<|(n/256^i)%256) ((Ys.p (v:=.int .u64<|Hw ((n/256^i:Nat):Int) ((256:Nat):Int))).conseq<|Ad rfl)<|Ao (v:=nV .u8<|(UInt8.ofNat<|(n/256^i)%256).toNat) ((Ys.p (v:=.int .u8<|Ct .u8 (((n/256^i)%256:Nat):Int))).conseq<|Ad<|He _)<|Af rfl (Bj (mk:=fun r=>.slice (some ⟨r,0,none⟩) 1 1) (t:=5) (cs:=[nV .u8 ((UInt8.ofNat<|(n/256^i)%256).toNat)]) rfl fun _=>kr) fun D=>?_
  refine Ab 1<|Aw rfl (HtS.append (eu:=5) (xv:=sV g i) (i:=0) (g:=(FS.mk false D 1 [])) (e:=5) (ii:=(prog.info? 5).getD default) (z:=iV .u8 0) (sz:=1) (bytes:=1) (nn:=1) (m:=i) (k:=1+i) (xs:=mc b8 [(UInt8.ofNat<|(n/256^i)%256)]) (news:=mc b8<|be i n) (cs':=mc b8<|[(UInt8.ofNat<|(n/256^i)%256)]++(be i n)) (Lo:=fun c=>[c.seg 5 (mc b8<|[(UInt8.ofNat<|(n/256^i)%256)]++(be i n)),g.seg 5 (mc b8<|be i n)]) rfl rfl Aa Aa Aa Aa Aa Aa Aa Aa Aa rfl (D4 An) (by first|rfl|simp[mc,Bc]) (fun _=>rfl) (Src.at (a:=g.a) Va fun q E=>(FS.at (i:=1) (t:=5) E rfl<|Ah ok<|by rw[Du,Bc,Nat.mul_one])) Va (Ea (fun _=>rfl) _) Ey Ho Ey (Fu _ _) fun _=>rfl) fun c f=>?_
  obtain⟨h,H,j⟩:=f
  refine Ab 1<|Ai<|Al [0] An rfl<|Ac ?_
  refine Ab 1<|Ao (v:=nV .u64<|(n/256^i)/256) ((Ys.p (v:=.int .u64<|Pc .u64 ((n/256^i:Nat):Int) ((256:Nat):Int))).conseq<|Ad<|Jl rfl K4)<|Ab 1<|Ai ?_
  refine Ac<|Ab 1<|Bw (((i+1):Nat):Int) (i:Int) 1<|Ab 1<|Ay ?_
  refine fun q E=>x (i+1) c _ q Ae ⟨Ae,(by rw[Nat.add_comm];exact h),(j<|by rfl)⟩ ?_<|Mem.cast (LL:=[c.seg 5 (mc b8<|[(UInt8.ofNat<|(n/256^i)%256)]++(be i n))]) (by rw[R2,Tc];rfl) E
  refine Eq.trans (b:=([iV .i64 size,sV c<|1+i,nV .u64<|(n/256^i)/256,nV .i64 (i+1)]:List Value)) Aa<|by rw[Wf,Nat.add_comm]
 ·have l:=C;try simp only[zA]at l
  refine Cm<|A9<|Aj []<|Am rfl<|D9 rfl (Ar<|sV g i) fun q F=>⟨g,⟨(show i=Bl size by omega)▸ok,A⟩,Eo<|(by rw[show i=Bl size by omega]),(Mem.cast (by rw[show i=Bl size by omega]) F)⟩
theorem Td{w:World}{a:Option Addr}{xs:List UInt8}(h:At w a (Cx xs))(c:a.isNone=true):xs.length=0:=by
  cases a with
  |none=>
            rcases Nat.eq_zero_or_pos xs.length with e|e
            · exact e
            · have:=h.here (by rw[Du];exact e);cases this
  |some x=>cases c
theorem Ahk(xs:List UInt8)(a:Option Addr)(cap:Nat)(w:World)(d:At w a (Cx xs))(C:xs.length≤70368744177664):Calls prog 148 #[sL a xs.length cap] w (Bn w (fun g:FS=>g.ok 1 xs.length) (fun g=>.slice g.a xs.length g.cap) [] (fun g=>[g.seg 5 (Cx xs)])):=by
 refine Ap (M:=[]) (LL:=[]) (n:=8) func148 rfl rfl A7 (Mem.refl _)<|Aj []<|W.s<|Av ?_
 refine Ab 1<|Ao (v:=bV a.isNone) (Ys.pure fun _=>by generalize a=a_;cases a_<;>kernel_rfl)<|Ai ?_
 refine Ak (a.isNone) Aa (fun l=>?_) fun D=>?_
 ·refine Aj []<|Am rfl<|D9 rfl (Ar<|sL none 0 0) fun q f=>⟨FS.nul,((Td d l)▸B6 1),Eo<|(by rw[(Td d l)];rfl),(Mem.push f)⟩
 ·refine Ag<|A9<|Av<|Af rfl (Bj (mk:=fun x=>.slice (some ⟨x,0,none⟩) 0 0) (t:=5) (cs:=[]) rfl fun _=>kr) fun A=>?_
  refine Ab 1<|Aw rfl (HtS.append (eu:=5) (xv:=Value.slice a xs.length cap) (i:=0) (g:=(FS.mk false A 0 [])) (e:=5) (ii:=(prog.info? 5).getD default) (z:=iV .u8 0) (sz:=1) (bytes:=1) (nn:=0) (m:=xs.length) (k:=xs.length) (xs:=mc b8 []) (news:=mc b8 xs) (cs':=mc b8 xs) (Lo:=fun c=>[c.seg 5 (mc b8 xs)]) rfl rfl Aa Aa Aa Aa Aa Aa Aa Aa Aa rfl (D4 An) (by first|rfl|simp[mc,Bc]) (fun _=>rfl) (Src.at (a:=a) (Bo _) fun q B=>(d.mem0 B)) (Bo _) (Ea (fun _=>rfl) _) Ey Ho Ey rfl fun _=>rfl) fun c h=>?_
  obtain⟨j,r,u⟩:=h
  refine Ab 1<|Ai<|Am rfl<|D9 rfl (Ar<|sV c xs.length) fun q f=>⟨c,j,rfl,f⟩
theorem Wg(xs:List UInt8)(a:Option Addr)(len cap:Nat)(w:World)(c:At w a (Cx xs))(d:len=xs.length)(f:len≤70368744177664):Calls prog 148 #[.slice a len cap] w (Bn w (fun g:FS=>g.ok 1 xs.length) (fun g=>.slice g.a xs.length g.cap) [] (fun g=>[g.seg 5 (Cx xs)])):=by
  subst d;exact Ahk xs a cap w c f
structure NE where
  b:Nat
  g:FS
theorem Ac4(xs:List UInt8)(a:Option Addr)(cap:Nat)(w:World)(c:At w a (Cx xs))(r:xs.length≤70368744177664):Calls prog 131 #[sL a xs.length cap] w (Bn w (fun x:NE=>x.g.ok 1 xs.length) (fun x=>.pointer (some ⟨x.b,0,none⟩)) [] (fun x=>[[cb x.b [.slice x.g.a xs.length x.g.cap,.bool false] 283],x.g.seg 5 (Cx xs)])):=by
 refine Ap (M:=[]) (LL:=[]) (n:=7) func131 rfl rfl A7 (Mem.refl _)<|Aj []<|Av<|Ab 1 ?_
 refine Aw rfl (Au [] [] fun l d q=>(Wg xs a xs.length cap _ (c.mem0 d) rfl Ae)) fun i f=>Ab 1<|Af rfl (Bx [sV i xs.length,bV false] rfl) fun j=>Ab 1<|Ay ?_
 refine A9<|Am rfl<|D9 rfl (Ar<|pV j 0) fun l h=>⟨⟨j,i⟩,f,rfl,h⟩
theorem Ak8(v:Value)(x:UInt8)(h:(match v with| .int _ _=>false|_=>true)=true):v≠b8 x:=fun e=>by subst e;cases h
theorem Om{w:World}{b len cap:Nat}{a d:Option Addr}{c:Bool}{ys:List UInt8}{t:TypeId}(h:Mem w [b] [[cb b [.slice d len cap,.bool c] t]] w)(f:At w a (Cx ys)):0<(Cx ys).length→(a.getD default).block∉[b]:=fun l=>by
  have q:=h.at (i:=0) (j:=0) (p:=cb b [.slice d len cap,.bool c] t) rfl rfl
  have:=f.ne (b:=b) (cs:=[.slice d len cap,.bool c]) q (fun v g x=>Ak8 v x (by
    rcases List.mem_cons.1 g with rfl|g
    · rfl
    · obtain rfl:=List.mem_singleton.1 g;rfl)) l
  simpa using this
theorem Ak9(ys:List UInt8)(a:Option Addr)(cap:Nat)(c:Bool)(b:Nat)(w:World)(g:Mem w [b] [[cb b [.slice a ys.length cap,.bool c] 283]] w)(d:At w a (Cx ys)):Calls prog 136 #[pV b 0] w (Bn w (fun _:Unit=>True) (fun _=>.int .i64 (ys.length:Int)) [b] (fun _=>[[cb b [.slice a ys.length cap,.bool c] 283]])):=by
 have h:=Om g d
 refine Ap (M:=[b]) (LL:=[[cb b [sL a ys.length cap,bV c] 283]]) (n:=8) func136 rfl rfl A7 (g)<|Aj []<|Aj [(0,0)]<|Am rfl<|D9 rfl (Ar<|nV .i64 ys.length) fun i f=>⟨(),trivial,rfl,f⟩
def C4(n:Int):Nat:=(Ep n 0).toNat
theorem Ac5(n:Int):Ep n 0=(C4 n:Int):=by unfold C4;have:=Kf n 0;omega
def Dc(ys:List UInt8)(n:Int):List UInt8:=if C4 n≤ys.length then ys.take (C4 n)else []
def D3(ys:List UInt8)(n:Int):List UInt8:=if C4 n≤ys.length then ys.drop (C4 n)else []
def Pf(ys:List UInt8)(c:Bool)(n:Int):Bool:=bif decide (C4 n≤ys.length)then c else true
theorem Ui{ys:List UInt8}{n:Int}(h:C4 n≤ys.length):Dc ys n=ys.take (C4 n):=if_pos h
theorem Uj{ys:List UInt8}{n:Int}(h:C4 n≤ys.length):D3 ys n=ys.drop (C4 n):=if_pos h
theorem Ac6{ys:List UInt8}{c:Bool}{n:Int}(h:C4 n≤ys.length):Pf ys c n=c:=by simp[Pf,h]
theorem Xj{ys:List UInt8}{n:Int}(h: ¬C4 n≤ys.length):Dc ys n=[]:=if_neg h
theorem Zd{ys:List UInt8}{n:Int}(h: ¬C4 n≤ys.length):D3 ys n=[]:=if_neg h
theorem Ala{ys:List UInt8}{c:Bool}{n:Int}(h: ¬C4 n≤ys.length):Pf ys c n=true:=by simp[Pf,h]
structure EG where
  g:FS
  a:Option Addr
  cap:Nat
theorem Ahl(ys:List UInt8)(a:Option Addr)(cap:Nat)(d:Bool)(b:Nat)(n:Int)(w:World)(B:Mem w [b] [[cb b [.slice a ys.length cap,.bool d] 283]] w)(j:At w a (Cx ys))(l:ys.length≤cap)(H:ys.length≤70368744177664):Calls prog 135 #[pV b 0,iV .i64 n] w (Bn w (fun x:EG=>x.g.ok 1 (Dc ys n).length∧View x.a (D3 ys n) a ys∧(D3 ys n).length≤x.cap) (fun x=>.slice x.g.a (Dc ys n).length x.g.cap) [b] (fun x=>[[cb b [.slice x.a (D3 ys n).length x.cap,.bool (Pf ys d n)] 283],x.g.seg 5 (Cx (Dc ys n))])):=by
 have r:=Om B j
 refine Ap (M:=[b]) (LL:=[[cb b [sL a ys.length cap,bV d] 283]]) (n:=37) func135 rfl rfl A7 (B)<|Aj []<|Av<|Ab 1 ?_
 refine Ao (v:=nV .i64<|C4 n) ((Ys.p (v:=iV .i64<|Ep n 0)).conseq<|Ad<|Ac5 n) ?_
 have D:=Kf n 0
 refine Ab 1<|Ai<|W.s<|Aj [(0,0)] ?_
 refine Ak (decide<|((C4 n:Nat):Int)>(ys.length:Int)) Aa (fun E=>?_) fun F=>?_
 ·have t:=E;try simp only[zA]at t
  refine Av<|Ab 4<|Af rfl (Bd b 0 0 0 (sL none 0 0) sizeOf38 rfl rfl) fun _=>Ab 2 ?_
  refine Af rfl (Bd b 1 0 0 (bV true) sizeOf4 rfl rfl) fun _=>Ai<|Aj []<|Am rfl<|D9 rfl (Ar<|Value.slice none 0 0) fun C f=>⟨⟨FS.nul,none,0⟩,(by have c: ¬C4 n≤ys.length:=Ae;dsimp only;rw[Xj c,Zd c];exact⟨B6 1,View.nil _ _ _,Nat.le_refl _⟩),Eo<|(by have c: ¬C4 n≤ys.length:=Ae;dsimp only;rw[Xj c];rfl),(Mem.cast (by have c: ¬C4 n≤ys.length:=Ae;rw[Xj c,Zd c,Ala c];rfl)<|f.push.pick (LL':=[[cb b [.slice none 0 0,.bool true] 283],[]]) [1,0] An rfl)⟩
 ·have u:=F;try simp only[zA]at u
  refine Ag<|A9<|W.s<|C5 [(0,true),(1,true),(2,true),(3,true),(4,true),(5,true),(6,true),(8,true),(9,true),(10,true),(11,true),(12,true),(13,true),(7,false),(14,false),(15,false),(16,false),(17,false)] [0,1,2,3,4,5,6,8,9,10,11,12,13]<|Dh 6 [(0,0)] ?_
  refine Bm (v:=Value.slice a (C4 n) cap) rfl (Dm (a:=a) (len:=ys.length) (cap:=cap) (sz:=1) (k:=.i64) (i:=(C4 n:Int)) rfl Aa Aa runUnderlying38 sizeOf5 Ae Ae)<|Dh 5 [(0,0)]<|Bm (v:=Value.slice (Ds a cap (C4 n) 1) (ys.length-(C4 n))<|cap-(C4 n)) rfl (Br (a:=a) (len:=ys.length) (cap:=cap) (sz:=1) (k:=.i64) (i:=(C4 n:Int)) rfl Aa Aa runUnderlying38 sizeOf5 Ae Ae)<|Ca rfl rfl (Au [] [0] fun C A G=>(Wg (ys.take<|C4 n) a (C4 n) cap _ ((j.mem' A r).mtake<|C4 n) (by first|rfl|(rw[List.length_take];omega)|(rw[List.length_take,List.length_drop];omega)|(simp[Bc];done)|(simp[Bc];omega)) Ae)) (Az [1]) fun h q=>Wd.mp 3 [] [1] ?_
  refine Cj rfl rfl (Bd b 0 1 0 (Value.slice (Ds a cap (C4 n) 1) (ys.length-(C4 n))<|cap-(C4 n)) sizeOf38 rfl rfl) (.inl Aa) fun _=>Cl<|Aj []<|Am rfl<|D9 rfl (Ar<|sV h<|(ys.take<|C4 n).length) fun C f=>⟨⟨h,Ds a cap (C4 n) 1,cap-(C4 n)⟩,(by have c:C4 n≤ys.length:=Ae;dsimp only;rw[Uj c,Ui c];exact⟨q,View.drop cap (C4 n) l,by rw[List.length_drop];omega⟩),Eo<|(by have c:C4 n≤ys.length:=Ae;dsimp only;rw[Ui c]),(Mem.cast (by have c:C4 n≤ys.length:=Ae;dsimp only;rw[Ui c,Uj c,Ac6 c,List.length_drop])<|f.pick (LL':=[[cb b [Value.slice (Ds a cap (C4 n) 1) (ys.length-(C4 n)) (cap-(C4 n)),bV d] 283],h.seg 5 (mc b8<|ys.take<|C4 n)]) [1,0] An rfl)⟩
theorem Jt(ys:List UInt8)(a:Option Addr)(len cap:Nat)(c:Bool)(b:Nat)(n:Int)(w:World)(h:len=ys.length)(i:Mem w [b] [[cb b [.slice a len cap,.bool c] 283]] w)(f:At w a (Cx ys))(d:ys.length≤cap)(j:ys.length≤70368744177664):
    Calls prog 135 #[.pointer (some ⟨b,0,none⟩),.int .i64 n] w (Bn w (fun x:EG=>x.g.ok 1 (Dc ys n).length∧View x.a (D3 ys n) a ys∧(D3 ys n).length≤x.cap) (fun x=>.slice x.g.a (Dc ys n).length x.g.cap) [b] (fun x=>[[cb b [.slice x.a (D3 ys n).length x.cap,.bool (Pf ys c n)] 283],x.g.seg 5 (Cx (Dc ys n))])):=by
  subst h;exact Ahl ys a cap c b n w i f d j
def bv(xs:List UInt8):Nat:=xs.foldl (fun n b=>n*256+b.toNat) 0
theorem Ze(xs:List UInt8)(b:UInt8):bv (xs++[b])=bv xs*256+b.toNat:=by simp[bv]
theorem Aaj{xs:List UInt8}{k:Nat}(h:k<xs.length):xs.take (k+1)=xs.take k++[xs.getD k 0]:=by
  rw[List.take_add_one];simp[h]
theorem Zf: ∀(xs:List UInt8),bv xs<256^xs.length:=fun xs=>by
  have c: ∀(ys:List UInt8),bv ys.reverse<256^ys.length:=by
    intro ys
    induction ys with
    |nil=>simp[bv]
    |cons y ys d=>
      rw[List.reverse_cons,Ze,List.length_cons,Nat.pow_succ]
      have:=UInt8.toNat_lt y
      omega
  have:=c xs.reverse
  simpa using this
theorem Ahm{xs:List UInt8}(h:xs.length≤8):bv xs<18446744073709551616:=by
  have c:=Zf xs
  have d:256^xs.length≤256^8:=Nat.pow_le_pow_right An h
  omega
theorem Ahn{xs:List UInt8}(h:xs.length≤7):bv xs*256<18446744073709551616-255:=by
  have c:=Zf xs
  have d:256^xs.length≤256^7:=Nat.pow_le_pow_right An h
  omega
theorem Aov{xs:List UInt8}{k:Nat}(h:k<xs.length)(c:xs.length≤8):bv (xs.take k)*256%18446744073709551616|||(xs.getD k 0).toNat=bv (xs.take (k+1)):=by
  have d:=Ahn (xs:=xs.take k) (by simp;omega)
  rw[Aaj h,Ze,Nat.mod_eq_of_lt Ae,show bv (xs.take k)*256=bv (xs.take k)*2^8 by rfl,Xb (UInt8.toNat_lt _)]
theorem Aho(ys:List UInt8)(n:Int):(Dc ys n).length≤C4 n:=by
  unfold Dc;split
  · rw[List.length_take];omega
  · simp
theorem Wh(n:Int):C4 (Bl n:Int)=Bl n:=by
  unfold C4 Ep
  split<;>omega
structure EV where
  a:Option Addr
  cap:Nat
theorem Alb(ys:List UInt8)(a:Option Addr)(cap:Nat)(d:Bool)(b:Nat)(size:Int)(w:World)(N:Mem w [b] [[cb b [.slice a ys.length cap,.bool d] 283]] w)(f:At w a (Cx ys))(O:ys.length≤cap)(T:ys.length≤70368744177664):Calls prog 132 #[pV b 0,iV .i64 size] w (Bn w (fun x:EV=>View x.a (D3 ys (Bl size:Int)) a ys∧(D3 ys (Bl size:Int)).length≤x.cap) (fun x=>.int .u64 (bv (Dc ys (Bl size:Int)):Int)) [b] (fun x=>[[cb b [.slice x.a (D3 ys (Bl size:Int)).length x.cap,.bool (Pf ys d (Bl size:Int))] 283]])):=by
 have C:=Om N f;have Q:=Ln size;have D:=Aho ys (Bl size:Int);rw[Wh]at D
 refine Ap (M:=[b]) (LL:=[[cb b [sL a ys.length cap,bV d] 283]]) (n:=23) func132 rfl rfl A7 (N)<|Aj []<|W.s<|Av ?_
 refine Ab 2<|Cb (v:=nV .i64<|Bl size) (A8 fun h j=>Zc _ _)<|Aw rfl (Au [0] [] fun h j E=>(Jt ys a ys.length cap d b (Bl size:Int) _ rfl E (f.mem' j C) Fp Fp)) fun c l=>?_
 obtain⟨q,F,G⟩:=l
 refine Ab 2<|Ai<|W.block<|Dd [4,10,11,12] (fun(k:Nat)=>[nV .u64 (bv<|(Dc ys (Bl size:Int)).take k),Value.slice c.g.a ((Dc ys (Bl size:Int)).length) c.g.cap,nV .i64<|(Dc ys (Bl size:Int)).length,nV .i64 k]) (fun(k:Nat)=>k≤(Dc ys (Bl size:Int)).length) (fun(k:Nat)=>[[cb b [Value.slice c.a ((D3 ys (Bl size:Int)).length) c.cap,bV (Pf ys d (Bl size:Int))] 283],c.g.seg 5 (mc b8<|Dc ys (Bl size:Int))]) (fun(k:Nat)=>(Dc ys (Bl size:Int)).length-k) 0 (Eq.trans (b:=([iV .u64 0,Value.slice c.g.a ((Dc ys (Bl size:Int)).length) c.g.cap,nV .i64<|(Dc ys (Bl size:Int)).length,iV .i64 0]:List Value)) Aa<|by simp[bv]) Sv (by rfl) fun k R S r u=>?_
 have U:=r
 have V:=Ahm (xs:=(Dc ys (Bl size:Int)).take k) (by simp;omega)
 refine Aj []<|W.s ?_
 refine Ak (decide<|((k:Nat):Int)<((Dc ys (Bl size:Int)).length:Int)) Aa (fun H=>?_) fun I=>?_
 ·have A:=H;try simp only[zA]at A
  refine Ag<|A9<|W.s<|W.block<|W.s ?_
  refine Ac<|Ao (v:=pL<|some<|Cs c.g.a<|k*1) (Aq (k:=.i64) (a:=c.g.a) (len:=(Dc ys (Bl size:Int)).length) (cap:=c.g.cap) (i:=(k:Int)) (sz:=1) rfl Aa Aa runUnderlying38 sizeOf5 Ae Ae<|by rw[Et (De q Ae)];rfl)<|Ao (v:=nV .u8<|((Dc ys (Bl size:Int)).getD k 0).toNat) (Ys.ld (a:=Cs c.g.a<|k*1) rfl Aa isAgg5 fun h J=>(FS.at (i:=1) (t:=5) J rfl<|Ah q<|Bo _).ld<|Gi 0 Fp) ?_
  have P:((Dc ys (Bl size:Int)).getD k 0).toNat<256:=UInt8.toNat_lt _
  refine Ab 1<|Ai<|Ac<|Ab 1 ?_
  refine Ao (v:=nV .u64<|((bv<|(Dc ys (Bl size:Int)).take k)*256)%18446744073709551616) ((Ys.p (v:=.int .u64<|Jb .u64 (bv ((Dc ys (Bl size:Int)).take k):Int) ((8:Nat):Int))).conseq<|Ad<|Hf rfl (bv<|(Dc ys (Bl size:Int)).take k) 8 An)<|Ab 1<|Ao (v:=nV .u64<|((Dc ys (Bl size:Int)).getD k 0).toNat) ((Ys.p (v:=.int .u64<|Ct .u64 (((Dc ys (Bl size:Int)).getD k 0).toNat:Int))).conseq<|Ad<|Co Ae Ae)<|Ao (v:=nV .u64<|(((bv<|(Dc ys (Bl size:Int)).take k)*256)%18446744073709551616)|||(((Dc ys (Bl size:Int)).getD k 0).toNat)) ((Ys.p (v:=.int .u64<|bor .u64 ((((bv<|(Dc ys (Bl size:Int)).take k)*256)%18446744073709551616:Nat):Int) (((Dc ys (Bl size:Int)).getD k 0).toNat:Int))).conseq<|Ad<|Kg rfl K4 K4)<|Ab 1 ?_
  refine Ai<|Ac<|Bw (((k+1):Nat):Int) (k:Int) 1<|Ab 1 ?_
  refine Ay ?_
  refine fun h J=>u (k+1) _ h Ae Sv ?_ J
  refine Eq.trans (b:=([nV .u64 ((((bv<|(Dc ys (Bl size:Int)).take k)*256)%18446744073709551616)|||(((Dc ys (Bl size:Int)).getD k 0).toNat)),Value.slice c.g.a ((Dc ys (Bl size:Int)).length) c.g.cap,nV .i64<|(Dc ys (Bl size:Int)).length,nV .i64 (k+1)]:List Value)) Aa<|by rw[Aov Ae Ae]
 ·have B:=I;try simp only[zA]at B
  refine Cm<|A9<|Al [0] An rfl<|Aj []<|Am rfl<|D9 rfl (Ar<|nV .u64<|bv<|(Dc ys (Bl size:Int)).take k) fun h L=>⟨⟨c.a,c.cap⟩,⟨F,G⟩,Eo<|(by dsimp only;rw[List.take_of_length_le Ae]),L⟩
theorem Zg(ys:List UInt8)(a:Option Addr)(len cap:Nat)(c:Bool)(b:Nat)(w:World)(g:len=ys.length)(f:Mem w [b] [[cb b [.slice a len cap,.bool c] 283]] w)(d:At w a (Cx ys)):Calls prog 136 #[.pointer (some ⟨b,0,none⟩)] w (Df w (.int .i64 (len:Int))):=by
  subst g;exact Calls.mono (Ak9 ys a cap c b w f d) (fun e i h=>Aki f A7 h)
theorem Oo(xs:List UInt8)(a:Option Addr)(len cap:Nat)(w:World)(d:len=xs.length)(c:At w a (Cx xs))(f:xs.length≤70368744177664):Calls prog 131 #[.slice a len cap] w (Bn w (fun x:NE=>x.g.ok 1 xs.length) (fun x=>.pointer (some ⟨x.b,0,none⟩)) [] (fun x=>[[cb x.b [.slice x.g.a xs.length x.g.cap,.bool false] 283],x.g.seg 5 (Cx xs)])):=by
  subst d;exact Ac4 xs a cap w c f
theorem Ahp(ys:List UInt8)(a:Option Addr)(len cap:Nat)(c:Bool)(b:Nat)(size:Int)(w:World)(g:len=ys.length)(h:Mem w [b] [[cb b [.slice a len cap,.bool c] 283]] w)(f:At w a (Cx ys))(d:ys.length≤cap)(i:ys.length≤70368744177664):
    Calls prog 132 #[.pointer (some ⟨b,0,none⟩),.int .i64 size] w (Bn w (fun x:EV=>View x.a (D3 ys (Bl size:Int)) a ys∧(D3 ys (Bl size:Int)).length≤x.cap) (fun x=>.int .u64 (bv (Dc ys (Bl size:Int)):Int)) [b] (fun x=>[[cb b [.slice x.a (D3 ys (Bl size:Int)).length x.cap,.bool (Pf ys c (Bl size:Int))] 283]])):=by
  subst g;exact Alb ys a cap c b size w h f d i
theorem Ju(k:Nat):C4 (k:Int)=k:=by unfold C4 Ep;split<;>omega
def pw:List UInt8→List Nat
  | []=>[]
  | [x]=>[x.toNat*256]
  |x::y::l=>(x.toNat*256+y.toNat)::pw l
theorem Lp: ∀xs:List UInt8,(pw xs).length=(xs.length+1)/2
  | []=>rfl
  | [x]=>by simp[pw]
  |x::y::l=>by simp only[pw,List.length_cons,Lp l];omega
theorem Py: ∀(xs:List UInt8) (k:Nat),2*k+1<xs.length→(pw xs).getD k 0=(xs.getD (2*k) 0).toNat*256+(xs.getD (2*k+1) 0).toNat
  | [],k,h=>by simp at h
  | [_],k,h=>by simp at h
  |x::y::l,0,h=>by simp[pw]
  |x::y::l,k+1,h=>by
    have:=Py l k (by simp at h;omega)
    simp only[pw,List.getD_cons_succ,this,show 2*(k+1)=2*k+1+1 by omega,show 2*k+1+1+1=2*k+1+1+1 by rfl]
theorem Pz: ∀(xs:List UInt8) (k:Nat),2*k+1=xs.length→(pw xs).getD k 0=(xs.getD (2*k) 0).toNat*256
  | [],k,h=>by simp at h
  | [x],k,h=>by
    obtain rfl:k=0:=by simp at h;omega
    simp[pw]
  |x::y::l,0,h=>by simp at h
  |x::y::l,k+1,h=>by
    have:=Pz l k (by simp at h;omega)
    simp only[pw,List.getD_cons_succ,this,show 2*(k+1)=2*k+1+1 by omega]
theorem Zh(xs:List UInt8)(k:Nat):(pw xs).getD k 0<65536:=by
  by_cases h:k<(pw xs).length
  · have d:=Lp xs
    rcases Nat.lt_or_ge (2*k+1) xs.length with c|c
    · rw[Py xs k c]
      have:=UInt8.toNat_lt (xs.getD (2*k) 0);have:=UInt8.toNat_lt (xs.getD (2*k+1) 0);omega
    · rw[Pz xs k Ae]
      have:=UInt8.toNat_lt (xs.getD (2*k) 0);omega
  · rw[List.getD_eq_getElem?_getD,List.getElem?_eq_none Ae];decide
theorem Ac7(a:Option Addr)(len cap:Nat)(w:World):Calls prog 177 #[sL a len cap] w (Bn w (fun _:Nat=>True) (fun b=>.func (.func 185) #[] #[.pointer (some ⟨b,0,none⟩)]) [] (fun b=>[[cb b [.slice a len cap] 38]])):=by
 refine Ap (M:=[]) (LL:=[]) (n:=4) func177 rfl rfl A7 (Mem.refl _)<|W.s ?_
 refine Ac<|Af rfl (E9 (v:=sL a len cap) (cs:=[sL a len cap]) rfl rfl Aa rfl) fun d=>?_
 refine Ab 1<|Ai<|Aj []<|Am rfl<|D9 rfl (Ar<|Value.func (.func 185) #[] #[pV d 0]) fun f c=>⟨d,trivial,rfl,c⟩
theorem Ahq{xs:List UInt8}{k:Nat}(h:2*k<xs.length):(pw xs).take (k+1)=(pw xs).take k++[(pw xs).getD k 0]:=by
  have d:=Lp xs
  have c:k<(pw xs).length:=by omega
  rw[List.take_add_one];simp[c]
theorem Aow{xs:List UInt8}{k:Nat}(h:2*k+1<xs.length):(xs.getD (2*k) 0).toNat*256%65536|||(xs.getD (2*k+1) 0).toNat=(pw xs).getD k 0:=by
  have d:=UInt8.toNat_lt (xs.getD (2*k) 0);have c:=UInt8.toNat_lt (xs.getD (2*k+1) 0)
  rw[Py xs k h,Nat.mod_eq_of_lt Ae,show(xs.getD (2*k) 0).toNat*256=(xs.getD (2*k) 0).toNat*2^8 by rfl,Xb c]
theorem Ahr{xs:List UInt8}{k:Nat}(h:2*k<xs.length)(c: ¬2*k+1<xs.length):(xs.getD (2*k) 0).toNat*256%65536=(pw xs).getD k 0:=by
  have d:=UInt8.toNat_lt (xs.getD (2*k) 0)
  rw[Pz xs k Ae,Nat.mod_eq_of_lt Ae]
theorem Alc{xs:List UInt8}{k:Nat}(h:2*k+1<xs.length):(256*(xs.getD (2*k) 0).toNat%65536+(xs.getD (2*k+1) 0).toNat)%65536=(pw xs).getD k 0:=by
  have c:=UInt8.toNat_lt (xs.getD (2*k) 0);have d:=UInt8.toNat_lt (xs.getD (2*k+1) 0)
  rw[Py xs k h];omega
theorem Ac8{xs:List UInt8}{k:Nat}(h:2*k<xs.length)(c: ¬2*k+1<xs.length):256*(xs.getD (2*k) 0).toNat%65536=(pw xs).getD k 0:=by
  have d:=UInt8.toNat_lt (xs.getD (2*k) 0)
  rw[Pz xs k Ae];omega
theorem Ac9(xs:List UInt8)(a:Option Addr)(cap:Nat)(w:World)(l:At w a (Cx xs))(hy:xs.length≤1000000000):Calls prog 158 #[sL a xs.length cap] w (Bn w (fun g:FS=>g.ok 1 (pw xs).length) (fun g=>.slice g.a (pw xs).length g.cap) [] (fun g=>[g.seg 22 (mc n16 (pw xs))])):=by
 refine Ap (M:=[]) (LL:=[]) (n:=37) func158 rfl rfl A7 (Mem.refl _)<|Aj []<|Av<|Af rfl (Bj (mk:=fun G=>.slice (some ⟨G,0,none⟩) 0 0) (t:=22) (cs:=[]) rfl fun _=>kr) fun Q=>?_
 refine Ab 1<|Ai<|W.s<|Aj [] ?_
 refine W.block<|Fx [0,3,4] (fun(k:Nat) (h:FS)=>[Value.slice a xs.length cap,Value.slice h.a k h.cap,nV .i64 (2*k)]) (fun(k:Nat) (h:FS)=>k≤(pw xs).length∧h.ok 1 k) (fun(k:Nat) (h:FS)=>[h.seg 22 (mc n16<|(pw xs).take k)]) (fun(k:Nat) (h:FS)=>(pw xs).length-k) 0 ⟨false,Q,0,[]⟩ (Eq.trans (b:=([Value.slice a xs.length cap,Value.slice (some ⟨Q,0,none⟩) 0 0,iV .i64 0]:List Value)) Aa<|by simp[FS.a]) ⟨(Nat.zero_le _),(D4 An)⟩ (by simp[mc,FS.seg]) fun k h f7 J6 H I=>?_
 obtain⟨hk,x⟩:=H
 have X:=Lp xs
 refine W.s<|Aj [] ?_
 refine Ak (decide<|((2*k:Nat):Int)<(xs.length:Int)) Aa (fun J=>?_) fun L=>?_
 ·have A:=J;try simp only[zA]at A
  refine Ag<|A9<|W.s<|W.block<|W.s ?_
  refine Ac<|Ab 2<|Ao (v:=pL<|some<|Cs a<|(2*k)*1) (Bb fun d c=>Aq (k:=.i64) (a:=a) (len:=xs.length) (cap:=cap) (i:=((2*k:Nat):Int)) (sz:=1) rfl Aa Aa runUnderlying38 sizeOf5 Ae Ae<|(l.mem0 c).here Iu)<|Ao (v:=nV .u8<|(xs.getD (2*k) 0).toNat) (Ys.ld (a:=Cs a<|(2*k)*1) rfl Aa isAgg5 fun d c=>(l.mem0 c).ld<|Gi 0 Fp) ?_
  have R:(xs.getD (2*k) 0).toNat<256:=UInt8.toNat_lt _
  refine Ao (v:=nV .u16<|(xs.getD (2*k) 0).toNat) ((Ys.p (v:=.int .u16<|Ct .u16 ((xs.getD (2*k) 0).toNat:Int))).conseq<|Ad<|Fb Ae Ae)<|Ao (v:=nV .u16<|(256*((xs.getD (2*k) 0).toNat))%65536) ((Ys.p (v:=.int .u16<|Ng .u16 ((256:Nat):Int) ((xs.getD (2*k) 0).toNat:Int))).conseq<|Ad<|Vr rfl)<|Ab 1<|Ai ?_
  refine W.s ?_
  refine Pm (w0:=w) (M:=[]) _ [0,3,4,5] ([sL a xs.length cap,sL h.a k h.cap,nV .i64<|2*k,nV .u16 ((pw xs).getD k 0)]) (True) ([h.seg 22 (mc n16<|(pw xs).take k)]) (fun Y r=>?_) fun Z S=>?_
  ·refine Av<|Ab 3<|Ao (v:=iV .i64<|((xs.length:Nat):Int)-1) ((Ys.p (v:=.int .i64<|Hp .i64 (xs.length:Int) 1)).conseq<|Ad<|Er rfl Ae Ae)<|Ab 1 ?_
   refine Ai ?_
   refine Ak (decide<|((2*k:Nat):Int)<(((xs.length:Nat):Int)-1)) Aa (fun N=>?_) fun O=>?_
   ·have B:=N;try simp only[zA]at B
    refine Ac<|Ab 3<|Bw ((((2*k)+1):Nat):Int) ((2*k:Nat):Int) 1<|Ao (v:=pL<|some<|Cs a<|((2*k)+1)*1) (Bb fun d c=>Aq (k:=.i64) (a:=a) (len:=xs.length) (cap:=cap) (i:=(((2*k)+1:Nat):Int)) (sz:=1) rfl Aa Aa runUnderlying38 sizeOf5 Ae Ae<|(l.mem0 c).here Iu)<|Ao (v:=nV .u8<|(xs.getD ((2*k)+1) 0).toNat) (Ys.ld (a:=Cs a<|((2*k)+1)*1) rfl Aa isAgg5 fun d c=>(l.mem0 c).ld<|Gi 0 Fp) ?_
    have T:(xs.getD ((2*k)+1) 0).toNat<256:=UInt8.toNat_lt _
    refine Ao (v:=nV .u16<|(xs.getD ((2*k)+1) 0).toNat) ((Ys.p (v:=.int .u16<|Ct .u16 ((xs.getD ((2*k)+1) 0).toNat:Int))).conseq<|Ad<|Fb Ae Ae)<|Ao (v:=nV .u16<|(((256*((xs.getD (2*k) 0).toNat))%65536)+((xs.getD ((2*k)+1) 0).toNat))%65536) ((Ys.p (v:=.int .u16<|D2 .u16 (((256*((xs.getD (2*k) 0).toNat))%65536:Nat):Int) ((xs.getD ((2*k)+1) 0).toNat:Int))).conseq<|Ad<|Vq rfl)<|Ab 1<|Ay ?_
    refine fun d c=>r _ d trivial ?_ c
    refine Eq.trans (b:=([Value.slice a xs.length cap,Value.slice h.a k h.cap,nV .i64<|2*k,nV .u16 ((((256*((xs.getD (2*k) 0).toNat))%65536)+((xs.getD ((2*k)+1) 0).toNat))%65536)]:List Value)) Aa<|by rw[Alc Ae]
   ·have C:=O;try simp only[zA]at C
    refine Ag ?_
    refine fun d c=>r _ d trivial ?_ c
    refine Eq.trans (b:=([Value.slice a xs.length cap,Value.slice h.a k h.cap,nV .i64<|2*k,nV .u16 ((256*((xs.getD (2*k) 0).toNat))%65536)]:List Value)) Aa<|by rw[Ac8 Ae Ae]
  ·refine A9<|Ac<|Ab 2<|Af rfl (Bj (mk:=fun G=>.slice (some ⟨G,0,none⟩) 1 1) (t:=22) (cs:=[nV .u16 ((pw xs).getD k 0)]) rfl fun _=>kr) fun q=>Aw rfl (HtS.append (eu:=22) (xv:=Value.slice (some ⟨q,0,none⟩) 1 1) (i:=1) (g:=h) (e:=22) (ii:=(prog.info? 22).getD default) (z:=iV .u16 0) (sz:=1) (bytes:=2) (nn:=k) (m:=1) (k:=k+1) (xs:=mc n16<|(pw xs).take k) (news:=mc n16 [(pw xs).getD k 0]) (cs':=mc n16<|((pw xs).take k)++[(pw xs).getD k 0]) (Lo:=fun f=>[[cb q [nV .u16 ((pw xs).getD k 0)] 22],f.seg 22 (mc n16<|((pw xs).take k)++[(pw xs).getD k 0])]) rfl rfl Aa Aa Aa Aa Aa Aa Aa Aa Aa rfl x (by simp[mc];omega) (fun _=>rfl) (Src.at (a:=some ⟨q,0,none⟩) Va fun d c=>(A4 (i:=0) (j:=0) (t:=22) (b:=q) c rfl rfl)) Va (Ea (fun _=>rfl) _) Ey Ho Ey (Fu _ _) fun _=>rfl) fun f D=>?_
   obtain⟨E,U,V⟩:=D
   refine Ab 1<|Ai<|Al [1] An rfl<|Ac ?_
   refine Ab 1<|Bw ((((2*k)+2):Nat):Int) ((2*k:Nat):Int) 2<|Ab 1<|Ay ?_
   refine fun d c=>I (k+1) f _ d Ae ⟨Ae,(by simpa using E)⟩ ?_<|Mem.cast (LL:=[f.seg 22 (mc n16<|((pw xs).take k)++[(pw xs).getD k 0])]) (by rw[Ahq Ae]) c
   refine Eq.trans (b:=([Value.slice a xs.length cap,sV f<|k+1,nV .i64 ((2*k)+2)]:List Value)) Aa<|by simp;try omega
 ·have F:=L;try simp only[zA]at F
  refine Cm<|A9<|Aj []<|Am rfl<|D9 rfl (Ar<|sL h.a k h.cap) fun d P=>⟨h,(by have u:(pw xs).length=k:=Ae;rw[u];exact x),Eo<|(by have u:(pw xs).length=k:=Ae;rw[u]),(Mem.cast (by rw[List.take_of_length_le Ae]) P)⟩
theorem Aak(xs:List UInt8)(a:Option Addr)(len cap:Nat)(w:World)(d:len=xs.length)(c:At w a (Cx xs))(f:xs.length≤1000000000):Calls prog 158 #[.slice a len cap] w (Bn w (fun g:FS=>g.ok 1 (pw xs).length) (fun g=>.slice g.a (pw xs).length g.cap) [] (fun g=>[g.seg 22 (mc n16 (pw xs))])):=by
  subst d;exact Ac9 xs a cap w c f
end Go.Proofs.YtmonlaoaengfdaaGreatDoor.Oct
