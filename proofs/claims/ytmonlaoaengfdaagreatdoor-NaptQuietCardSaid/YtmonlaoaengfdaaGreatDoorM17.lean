import Derived.Test.YtmonlaoaengfdaaGreatDoorM16
import Derived.Test.YtmonlaoaengfdaaGreatDoorM9
import Derived.Test.YtmonlaoaengfdaaGreatDoorM11
import Derived.Test.YtmonlaoaengfdaaGreatDoorM10
set_option linter.unusedVariables false
set_option linter.unusedSimpArgs false
set_option maxRecDepth 20000
namespace Go.Proofs.YtmonlaoaengfdaaGreatDoor.Oct
open Go.RowKit Base Tryz
attribute [local irreducible] Ys Yc Ht HtS HtIn Wl Wd W Mem pf Ex Wa Wo KW
open Conf (Fwd fwv)
def Ks(e:SesE):List Value:=[Value.int .u8 e.pr,Value.int .u32 e.src,Value.int .u32 e.dst,Value.int .u16 e.frm,Value.int .u16 e.dto,Value.int .u16 e.ext,Value.int .u64 e.ends,Value.bool e.lan,Value.bool e.s0,Value.bool e.s1,Value.bool e.s2,Value.bool e.s3,Value.bool e.s4]
theorem Ai8(e:SesE):(Ks e).length=13:=rfl
theorem Ai9(e:SesE): ∀v∈Ks e,v.oneCell'=true:=by simp[Ks,Value.oneCell']
theorem Lx(xs:List SesE):(mm Ks xs).length=xs.length*13:=Cj Ai8 xs
abbrev Q32(e:SesE):List Value:=(N0 e)
theorem Aja(out:List SesE)(c:FS)(d:Nat)(M:List Nat)(e:SesE)(w:World)(x:Mem w M [c.seg 74 (mm Ks out),[cb d [sL c.a out.length c.cap] 68]] w)(o:c.ok 13 out.length)(A:out.length≤100000):Calls prog 25 #[aV (N0 e),pV d 0] w (Bl w (fun f:FS=>f.ok 13 (out++[e]).length) (fun _=>.bool true) M (fun f=>[f.seg 74 (mm Ks (out++[e])),[cb d [sL f.a ((out++[e]).length) f.cap] 68]])):=by
 refine Ap (M:=M) (LL:=[c.seg 74 (mm Ks out),[cb d [sL c.a out.length c.cap] 68]]) (n:=8) func25 rfl rfl A5 (x)<|W.s ?_
 refine Ac<|Af rfl (Bx (Q32 e) rfl) fun B=>?_
 refine Ab 1<|Ai<|Av ?_
 refine A3 2 [(2,0),(0,0)]<|Af rfl (Bf (mk:=fun C=>.slice (some ⟨C,0,none⟩) 1 1) (t:=74) (cs:=(Q32 e)) rfl fun _=>kr) fun h=>?_
 refine Aw rfl (HtS.append (eu:=74) (xv:=Value.slice (some ⟨h,0,none⟩) 1 1) (i:=2) (g:=c) (e:=74) (ii:=(prog.info? 74).getD default) (z:=aV [iV .u8 0,iV .u32 0,iV .u32 0,iV .u16 0,iV .u16 0,iV .u16 0,iV .u64 0,bV false,bV false,bV false,bV false,bV false,bV false]) (sz:=13) (bytes:=40) (nn:=out.length) (m:=1) (k:=(out++[e]).length) (xs:=mm Ks out) (news:=mm Ks [e]) (cs':=mm Ks<|out++[e]) (Lo:=fun l=>[[cb h (Q32 e) 74],[cb B (Q32 e) 74],l.seg 74<|mm Ks<|out++[e],[cb d [Value.slice c.a out.length c.cap] 68]]) rfl rfl Aa Aa Aa Aa Aa Aa Aa Aa Aa rfl o (Lx _) (fun _=>rfl) (Src.at (a:=some ⟨h,0,none⟩) (by first|rfl|(rw[Cj (g:=Ks) (sz:=13) (fun _=>rfl)];done)|(rw[Cj (g:=Ks) (sz:=13) (fun _=>rfl)];simp)) fun D E=>(Az (i:=0) (j:=0) (t:=74) (b:=h) E rfl rfl)) (by first|rfl|(rw[Cj (g:=Ks) (sz:=13) (fun _=>rfl)];done)|(rw[Cj (g:=Ks) (sz:=13) (fun _=>rfl)];simp)) (Gw Ai9 _) Ew Hl Ew (Kj _ _).symm fun _=>rfl) fun l q=>?_
 obtain⟨r,F,G⟩:=q
 refine Af rfl (Bb d 0 3 0 (sV l<|(out++[e]).length) sizeOf68 rfl rfl) fun _=>Ai<|Ak [2,3] An rfl<|Aj [] ?_
 refine Am rfl<|D4 rfl (Ar<|bV true) fun D u=>⟨l,r,rfl,(u.pick [0,1] An rfl)⟩
abbrev Q33(k:NK)(b:Nat):List Blk:=[cb b [pL (some ⟨k.nb,0,none⟩)] 35]
abbrev Q34(p2 b:Nat):List Blk:=[cb p2 [Value.func (.func 25) #[] #[pV b 0]] 75]
theorem Afj(k:NK)(s:NS)(O:List SesE)(t:FS)(e l:Nat)(M:List Nat)(w:World)(ok:NOk k s)(u:s.p.xs=s.p.es.map Rd)(hl:Mem w M [NG k s,t.seg 74 (mm Ks O),[cb e [sL t.a O.length t.cap] 68],[cb l [pL (some ⟨k.nb,0,none⟩)] 35]] w)(U:t.ok 13 O.length)(hO:O=[]):Calls prog 62 #[Value.func (.func 25) #[] #[pV e 0],pV l 0] w (Bl w (fun E:FS=>E.ok 13 (s.p.es.map Prod.snd).length) (fun _=>.tuple #[]) M (fun E=>[NG k s,E.seg 74 (mm Ks (s.p.es.map Prod.snd)),[cb e [sL E.a ((s.p.es.map Prod.snd).length) E.cap] 68],[cb l [pL (some ⟨k.nb,0,none⟩)] 35]])):=by
 obtain⟨ap,aq,ar,au,av⟩:=NOk.len ok
 refine Ap (M:=M) (LL:=[NG k s,t.seg 74<|mm Ks O,[cb e [sL t.a O.length t.cap] 68],Q33 k l]) (n:=19) func62 rfl rfl A5 (hl)<|W.s ?_
 refine Ac<|Af rfl (E6 (v:=Value.func (.func 25) #[] #[pV e 0]) (cs:=[Value.func (.func 25) #[] #[pV e 0]]) rfl rfl Aa rfl) fun F=>?_
 refine Ai<|Av<|A3 3 [(4,0)] ?_
 refine Ao (Bk (b:=k.nb) (o':=29) (i:=1) (j:=0) (cs:=C3 k s) (v:=pL<|some ⟨k.ts,0,none⟩) rfl Aa isAgg85 rfl rfl<|(Cd rfl An).trans rfl)<|Aw rfl (Au [] [0,1,2,3,4] fun x o G=>(Xf k.ts _)) fun r _=>?_
 refine Ai<|W.block ?_
 refine Jl (σ:=List SesE×FS) (enc:=fun i=>[aV (Kt<|(s.p.xs.getD i dS).1),pL (Cz<|(s.p.xs.getD i dS).2)]) (N:=s.p.xs.length) (Lu:=fun(d:List SesE×FS)=>[Q34 F e,NG k s,d.2.seg 74<|mm Ks d.1,[cb e [sL d.2.a d.1.length d.2.cap] 68],Q33 k l]) (Li:=[[cb r [pL (some ⟨k.ts,0,none⟩)] 85]]) (Lk:=[]) [1,2,3,4,5] [0] [] (O,t) (fun i (d:List SesE×FS)=>d.2.ok 13 d.1.length∧d.1=(s.p.es.take i).map Prod.snd) (fun c_ (d:List SesE×FS)=>False) [10,11] Aa (fun _ _=>rfl) An (by rfl) rfl rfl rfl (fun _=>rfl) (⟨U,(by rw[hO];rfl)⟩) (fun D_ l_ V X o=>(Uc s.p.xs s.gs.a s.gs.cap k.mo k.ts r _ X (Fq (i:=3) o rfl) (NG.xs (i:=3) o rfl ok) Dz)) ?_ ?_ ?_
 ·intro D6 l7 az Y i Z aa Mu13 a0 H I ab J
  obtain⟨c,f⟩:=Z
  obtain⟨B,C⟩:=I
  obtain⟨a1,eb,L,P,a2,ad⟩:=Xw u H
  have A:c=(s.p.es.take i).map Prod.snd:=C
  have ai:c.length≤i:=by rw[A,List.length_map,List.length_take];omega
  refine Ac<|Ao (v:=pV eb 0) ((Ys.p (v:=pL<|Cz<|(s.p.xs.getD i dS).2)).conseq<|(by rw[ad];rfl))<|Ax ?_
  refine fun x g=>J _ [Q34 F e,NG k s,f.seg 74<|mm Ks c,[cb e [sV f c.length] 68],Q33 k l] ?_ x g
  refine W.block<|W.s ?_
  refine B2 [(0,true),(1,false),(2,false),(3,false),(4,false),(5,false),(6,false)] [0] (Mem aa Mu13 [dB D6,lB l7 Y,Q34 F e,NG k s,Q33 k l]) Aa Aa Aa rfl Aa (fun _ _ g=>g.drawn _) (fun _ g=>g.pick [0,1,2,3,6] An rfl)<|Wd.mp 4 [(2,0)] [0,1,2,3,6]<|Wd.yc (v:=aV<|N0 L) rfl rfl rfl (Ys.yc<|Ys.ldN (a:=⟨eb,0,none⟩) (vs:=(N0 L)) rfl Aa isAgg74 sizeOf74 rfl fun x g=>by have x_:=(NG.ent (i:=3) g rfl P).ldN (q:=0) (vs:=(N0 L)) (Ly (sz:=13) rfl);rw[Bc]at x_;exact x_) (Ec [0,1,2,3,6]) ?_
  obtain⟨D,h⟩: ∃z,c++[L]=z:=⟨_,rfl⟩
  have ak:D.length=c.length+1:=h▸List.length_append
  refine B8 rfl rfl (Au [4,5] [0,1,2,3,6] fun x o G=>(h▸Aja c f e _ L _ G B Ae)) (.inl Aa) fun ae Q=>Wd.mp 1 [] [2,3,4,5,6]<|Ck<|B3 Aa ?_
  refine Ag ?_
  exact fun x g=>Exists.intro (D,ae)<|And.intro ⟨Q,(by show D=(s.p.es.take<|i+1).map Prod.snd;rw[←h,A,List.take_add_one,P,List.map_append];rfl)⟩<|g.pick [2,3,4,5,0,1,6] An rfl
 ·intro D27 a3 al af R
  obtain⟨c,f⟩:=af
  obtain⟨B,C⟩:=R
  refine F9 (LL':=[[cb r [Value.pointer (some ⟨k.ts,0,none⟩)] 85],Q34 F e,NG k s,f.seg 74<|mm Ks c,[cb e [sV f c.length] 68],Q33 k l,dB D27]) [7,2,3,4,5,6,0] An rfl ?_
  have S:c=(s.p.es.map Prod.snd):=by have z_:=C;rw[u,List.length_map,List.take_length]at z_;exact z_
  show∀x,_→bodyPostM (Ct none) 0 prog Tryz.f62 _ Exit.normal _ x
  exact fun x T=>Fm (T.mark (i:=6) rfl).1 (by have ag:Mem w M [[cb r [Value.pointer (some ⟨k.ts,0,none⟩)] 85],[cb F [Value.func (.func 25) #[] #[pV e 0]] 75],NG k s,f.seg 74<|mm Ks c,[cb e [sV f c.length] 68],[cb l [Value.pointer (some ⟨k.nb,0,none⟩)] 35],[⟨D27,.deferred none⟩]] _:=(T.mark (i:=6) rfl).2;exact Iv rfl ⟨f,(by rw[←S];exact B),rfl,(Mem.cast (LL:=[NG k s,f.seg 74<|mm Ks c,[cb e [sV f c.length] 68],[cb l [Value.pointer (some ⟨k.nb,0,none⟩)] 35]]) (by rw[S];try rfl)<|ag.pick [2,3,4,5] An rfl)⟩)
 ·intro D_ l_ V c_ s_ g;exact g.elim
theorem Am0(c:Nat)(w:World):Calls prog 22 #[pV c 0] w (Bl w (fun _:Nat=>True) (fun b=>.func (.func 62) #[] #[.pointer (some ⟨b,0,none⟩)]) [] (fun b=>[[cb b [.pointer (some ⟨c,0,none⟩)] 35]])):=by
 refine Ap (M:=[]) (LL:=[]) (n:=4) func22 rfl rfl A5 (Mem.refl _)<|W.s ?_
 refine Ac<|Af rfl (E6 (v:=pV c 0) (cs:=[pV c 0]) rfl rfl Aa rfl) fun e=>?_
 refine Ab 1<|Ai<|Aj []<|Am rfl<|D4 rfl (Ar<|Value.func (.func 62) #[] #[pV e 0]) fun f d=>⟨e,trivial,rfl,(d.pick [0] An rfl)⟩
theorem U9(k:NK)(s:NS)(pv:Nat)(M:List Nat)(w:World)(x:Inv k s)(A:Mem w M [NG k s,[cb pv [pL (some ⟨k.nb,0,none⟩)] 35]] w):Calls prog 24 #[pV pv 0] w (Bl w (fun f:FS=>f.ok 13 (s.p.es.map Prod.snd).length) (fun f=>.slice f.a (s.p.es.map Prod.snd).length f.cap) M (fun f=>[f.seg 74 (mm Ks (s.p.es.map Prod.snd)),NG k s,[cb pv [pL (some ⟨k.nb,0,none⟩)] 35]])):=by
 refine Ap (M:=M) (LL:=[NG k s,[cb pv [pL (some ⟨k.nb,0,none⟩)] 35]]) (n:=9) func24 rfl rfl A5 (A)<|Aj []<|Av<|Af rfl (Bf (mk:=fun B=>.slice (some ⟨B,0,none⟩) 0 0) (t:=74) (cs:=[]) rfl fun _=>kr) fun j=>?_
 refine Af rfl (Ba zeroValue68) fun l=>Af rfl (Bb l 0 0 0 (sL (some ⟨j,0,none⟩) 0 0) sizeOf68 rfl rfl) fun _=>?_
 refine Ai<|W.s ?_
 obtain⟨O_,d⟩: ∃z:List SesE,z=[]:=⟨_,rfl⟩
 obtain⟨b,c⟩: ∃z:FS,z=FS.mk false j 0 []:=⟨_,rfl⟩
 have g:b.ok 13 O_.length:=by rw[d,c];exact D5 An
 refine W.conseq (S':=Mem w M [[cb l [sL b.a O_.length b.cap] 68],b.seg 74<|mm Ks O_,NG k s,[cb pv [pL (some ⟨k.nb,0,none⟩)] 35]]) (fun o C=>Mem.cast (LL:=[[cb l [sL (some ⟨j,0,none⟩) 0 0] 68],[cb j [] 74],NG k s,[cb pv [pL (some ⟨k.nb,0,none⟩)] 35]]) (by rw[d,c];rfl) C)<|Ac<|A3 1 [(3,0)]<|Aw rfl (Au [] [0,1,2,3] fun o q h=>(Am0 k.nb _)) fun r _=>Ab 1 ?_
 refine Aw rfl (Au [3,2,1,0] [4] fun o q h=>(Afj k s O_ b l r _ _ x.ok x.a.tie h g d)) fun e i=>Ai<|Ak [0,1,2,4] An rfl<|Aj [(2,0)] ?_
 refine Ak [0,1,3] An rfl<|Am rfl<|D4 rfl (Ar<|sL e.a ((s.p.es.map Prod.snd).length) e.cap) fun o u=>⟨e,i,rfl,(u.pick [1,0,2] An rfl)⟩
section
variable {β:Type}{Φr:Cc→β→Prop}{rv:Cc→β→PkV}{re:Cc→Int}{rs:Cc→β→List Blk}{k:NK}{s r:NS}{f:Cc}{src now cd kd oc:Int}{bg qu:Bool}{dr:Nat}{pv:PkV}{bl:List Blk}
theorem Am1(l:OutR Φr rv re rs k s f src kd oc bg qu dr now r cd pv bl)(d:oc=0→ ∀g,re g=0)(h:cd≠0):r.p.es=s.p.es:=by
  cases l with
  |no n c=>exact c
  |err ho j c=>exact c
  |old ho j o A B b e q t x u c i=>exact absurd (i.1.trans (d ho _)) h
  |new ho j o w ext gv C A B b q t u c i=>exact absurd (i.1.trans (d ho _)) h
theorem Apt(j:InR Φr rv re rs k s f kd oc bg qu now r cd pv bl)(d:oc=0→ ∀g,re g=0)(h:cd≠0):r.p.es=s.p.es:=by
  cases j with
  |no l c=>exact c
  |err ho n o c=>exact c
  |old ho A B b e q t x u c i=>exact absurd (i.1.trans (d ho _)) h
  |new ho n C D w A B b q t u c i=>exact absurd (i.1.trans (d ho _)) h
end
theorem Afk{pr:UInt8}{s d:Nat}{xs:List UInt8}(h:Je pr s d xs=0)(g:Cc):rwY pr s d xs g=0:=by
  unfold rwY
  cases Hk pr s d xs==3 with
  |true=>rfl
  |false=>unfold X9;rw[h];simp
def uuX(b:ByteArray)(i:Nat):Bool:=(!(((((((i:Nat):Int)==8)||(((i:Nat):Int)==13))||(((i:Nat):Int)==18))||(((i:Nat):Int)==23))==((Dy b i)==45)))||((!(((((i:Int)==8)||(((i:Nat):Int)==13))||(((i:Nat):Int)==18))||(((i:Nat):Int)==23)))&&(!(((decide ((Dy b i)≥48))&&(decide ((Dy b i)≤57)))||((decide ((Dy b i)≥97))&&(decide ((Dy b i)≤102))))))
def uuR(b:ByteArray):Bool:= !(((b.size:Nat):Int) !=36)&&(List.range 36).all (fun i=> !uuX b i)
theorem Aq3{b:ByteArray}(h:(((b.size:Nat):Int) !=36)=true):uuR b=false:=by unfold uuR;rw[h];rfl
theorem Aq4{b:ByteArray}{i:Nat}(h:decide (((i:Nat):Int)<36)=true)(c:uuX b i=true):uuR b=false:=by
  unfold uuR;rw[Bool.and_eq_false_iff]
  exact .inr<|List.all_eq_false.2 ⟨i,List.mem_range.2 (by have:=of_decide_eq_true h;omega),by rw[c];decide⟩
theorem Aq5{b:ByteArray}{i:Nat}(h:(((b.size:Nat):Int) !=36)=false)(c:decide (((i:Nat):Int)<36)=false)(d: ∀q,q<i→uuX b q=false):uuR b=true:=by
  unfold uuR;rw[h]
  exact List.all_eq_true.2 fun q e=>by rw[d q (by have:=of_decide_eq_false c;have:=List.mem_range.1 e;omega)];rfl
theorem Apu(c:ByteArray)(w:World):Calls prog 61 #[Value.string c] w (Df w (.bool (uuR c))):=by
 refine Ap (M:=[]) (LL:=[]) (n:=63) func61 rfl rfl A5 (Mem.refl _)<|Aj []<|W.s<|Aj [] ?_
 refine Al (((c.size:Nat):Int) !=36) Aa (fun h5=>?_) fun U=>?_
 ·refine Aj []<|Am rfl<|D3 rfl (Ar<|bV false)<|by exact B4 (Aq3 h5).symm
 ·have Q:=U;try simp only[zA]at Q
  refine Ag<|A7<|W.s<|Aj []<|W.block ?_
  refine Ds [0,3] (fun(i:Nat)=>[Value.string c,nV .i64 i]) (fun(i:Nat)=>i≤36∧ ∀q,q<i→uuX c q=false) (fun(i:Nat)=>[]) (fun(i:Nat)=>36-i) 0 Aa ⟨(Nat.zero_le _),(fun q R=>absurd R<|Nat.not_lt_zero q)⟩ (by rfl) fun i ab ad H d=>?_
  obtain⟨hi,V⟩:=H
  refine W.s<|Aj [] ?_
  refine Al (decide<|((i:Nat):Int)<36) Aa (fun I=>?_) fun S=>?_
  ·have J:=I;try simp only[zA]at J
   refine Ag<|A7<|W.s<|W.block<|W.s ?_
   refine Ac<|Ab 3<|Cx 2 (((i:Nat):Int)==8) (fun _=>Gs.z [])<|Ao (v:=bV<|((i:Int)==8)||(((i:Nat):Int)==13)) (Cf (e:=(i:Int)==8) (b:=(i:Int)==13) rfl Aa Aa Aa)<|Ab 1 ?_
   refine Cx 2 (((i:Int)==8)||(((i:Nat):Int)==13)) (fun _=>Gs.z [])<|Ao (v:=bV<|((((i:Nat):Int)==8)||(((i:Nat):Int)==13))||(((i:Nat):Int)==18)) (Cf (e:=(((i:Nat):Int)==8)||(((i:Nat):Int)==13)) (b:=(i:Int)==18) rfl Aa Aa Aa)<|Ab 1<|Cx 2 (((((i:Nat):Int)==8)||(((i:Nat):Int)==13))||(((i:Nat):Int)==18)) (fun _=>Gs.z [])<|Ao (v:=bV<|((((i:Int)==8)||(((i:Nat):Int)==13))||(((i:Nat):Int)==18))||(((i:Nat):Int)==23)) (Cf (e:=(((i:Int)==8)||(((i:Nat):Int)==13))||(((i:Nat):Int)==18)) (b:=(i:Int)==23) rfl Aa Aa Aa) ?_
   refine Ab 1<|Ai<|Av ?_
   refine Ab 2<|Ao (v:=iV .u8<|Dy c i) (G9 (s:=c) (i:=(i:Int)) (k:=.i64) rfl Aa Aa runUnderlying9 Ae Ae)<|Ab 2<|Dx 4 (decide<|(Dy c i)≥48) (fun L=>by have A:=L;try simp only[zA]at A;exact Gs.m 2 [] (Gs.y (v:=iV .u8<|Dy c i) (G9 (s:=c) (i:=(i:Int)) (k:=.i64) rfl Aa Aa runUnderlying9 Ae Ae)<|Gs.z []))<|Ao (v:=bV<|(decide<|(Dy c i)≥48)&&(decide<|(Dy c i)≤57)) (Ci (e:=decide<|(Dy c i)≥48) (b:=decide<|(Dy c i)≤57) rfl Aa Aa Aa) ?_
   refine Ab 1<|Cx 5 ((decide<|(Dy c i)≥48)&&(decide<|(Dy c i)≤57)) (fun N=>by have B:=N;try simp only[zA]at B;exact Gs.m 2 [] (Gs.y (v:=iV .u8<|Dy c i) (G9 (s:=c) (i:=(i:Int)) (k:=.i64) rfl Aa Aa runUnderlying9 Ae Ae)<|Gs.z [])) ?_
   refine C0 (v:=Value.string c) ((!((decide<|(Dy c i)≥48)&&(decide<|(Dy c i)≤57)))&&(decide<|(Dy c i)≥97)) rfl (F4 rfl rfl Aa) rfl (fun X=>?_) ?_
   ·exact Ys.p
   refine C0 (v:=nV .i64 i) ((!((decide<|(Dy c i)≥48)&&(decide<|(Dy c i)≤57)))&&(decide<|(Dy c i)≥97)) rfl (F4 rfl rfl Aa) rfl (fun Y=>?_) ?_
   ·exact Ys.p
   refine C0 (v:=iV .u8<|Dy c i) ((!((decide<|(Dy c i)≥48)&&(decide<|(Dy c i)≤57)))&&(decide<|(Dy c i)≥97)) rfl (F4 rfl rfl Aa) rfl (fun h=>?_) ?_
   ·have C:=h;try simp only[zA]at C
    refine Bs (t:=43) (v0:=Value.string c) (lz (g:=(!((decide<|(Dy c i)≥48)&&(decide<|(Dy c i)≤57)))&&(decide<|(Dy c i)≥97)) (u:=undef) h Aa)<|Bs (t:=44) (v0:=nV .i64 i) (lz (g:=(!((decide<|(Dy c i)≥48)&&(decide<|(Dy c i)≤57)))&&(decide<|(Dy c i)≥97)) (u:=undef) h Aa) ?_
    exact G9 (s:=c) (i:=(i:Int)) (k:=.i64) rfl Aa Aa runUnderlying9 Ae Ae
   refine C0 (v:=bV<|decide<|(Dy c i)≤102) ((!((decide<|(Dy c i)≥48)&&(decide<|(Dy c i)≤57)))&&(decide<|(Dy c i)≥97)) rfl (F4 rfl rfl Aa) rfl (fun o=>?_) ?_
   ·have D:=o;try simp only[zA]at D
    refine Bs (t:=45) (v0:=iV .u8<|Dy c i) (lz (g:=(!((decide<|(Dy c i)≥48)&&(decide<|(Dy c i)≤57)))&&(decide<|(Dy c i)≥97)) (u:=undef) o Aa) ?_
    exact Ys.p
   refine Cx 1 ((decide<|(Dy c i)≥48)&&(decide<|(Dy c i)≤57)) (fun j=>by have E:=j;try simp only[zA]at E;exact Gs.y (v:=bV<|(decide<|(Dy c i)≥97)&&(decide<|(Dy c i)≤102)) (Bs (t:=42) (v0:=bV<|decide<|(Dy c i)≥97) (lz (g:= !((decide<|(Dy c i)≥48)&&(decide<|(Dy c i)≤57))) (u:=undef) j Aa)<|Bs (t:=46) (v0:=(bif decide ((Dy c i)≥97)then bV (decide<|(Dy c i)≤102)else undef)) (lz2 (g:= !((decide<|(Dy c i)≥48)&&(decide<|(Dy c i)≤57))) j Aa)<|Ci (e:=decide<|(Dy c i)≥97) (b:=decide<|(Dy c i)≤102) rfl Aa Aa Aa) Gs.nil)<|Ao (v:=bV<|((decide<|(Dy c i)≥48)&&(decide<|(Dy c i)≤57))||((decide<|(Dy c i)≥97)&&(decide<|(Dy c i)≤102))) (Cf (e:=(decide<|(Dy c i)≥48)&&(decide<|(Dy c i)≤57)) (b:=(decide<|(Dy c i)≥97)&&(decide<|(Dy c i)≤102)) rfl Aa Aa Aa)<|Ab 1<|Ai ?_
   refine Av<|Ab 3<|Ao (v:=iV .u8<|Dy c i) (G9 (s:=c) (i:=(i:Int)) (k:=.i64) rfl Aa Aa runUnderlying9 Ae Ae)<|Ab 3 ?_
   refine Cx 3 (!(((((((i:Nat):Int)==8)||(((i:Nat):Int)==13))||(((i:Nat):Int)==18))||(((i:Nat):Int)==23))==((Dy c i)==45))) (fun _=>Gs.z []) ?_
   refine C0 (v:=bV<|((decide<|(Dy c i)≥48)&&(decide<|(Dy c i)≤57))||((decide<|(Dy c i)≥97)&&(decide<|(Dy c i)≤102))) ((!(!(((((((i:Nat):Int)==8)||(((i:Nat):Int)==13))||(((i:Nat):Int)==18))||(((i:Nat):Int)==23))==((Dy c i)==45))))&& !(((((i:Int)==8)||(((i:Nat):Int)==13))||(((i:Nat):Int)==18))||(((i:Nat):Int)==23))) rfl (F4 rfl rfl Aa) rfl (fun Z=>?_) ?_
   ·exact Ys.p
   refine C0 (v:=bV<|!(((decide<|(Dy c i)≥48)&&(decide<|(Dy c i)≤57))||((decide<|(Dy c i)≥97)&&(decide<|(Dy c i)≤102)))) ((!(!(((((((i:Nat):Int)==8)||(((i:Nat):Int)==13))||(((i:Nat):Int)==18))||(((i:Nat):Int)==23))==((Dy c i)==45))))&& !(((((i:Int)==8)||(((i:Nat):Int)==13))||(((i:Nat):Int)==18))||(((i:Nat):Int)==23))) rfl (F4 rfl rfl Aa) rfl (fun x=>?_) ?_
   ·have F:=x;try simp only[zA]at F
    refine Bs (t:=59) (v0:=bV<|((decide<|(Dy c i)≥48)&&(decide<|(Dy c i)≤57))||((decide<|(Dy c i)≥97)&&(decide<|(Dy c i)≤102))) (lz (g:=(!(!(((((((i:Nat):Int)==8)||(((i:Nat):Int)==13))||(((i:Nat):Int)==18))||(((i:Nat):Int)==23))==((Dy c i)==45))))&& !(((((i:Int)==8)||(((i:Nat):Int)==13))||(((i:Nat):Int)==18))||(((i:Nat):Int)==23))) (u:=undef) x Aa) ?_
    exact Ys.p
   refine Cx 1 (!(((((((i:Nat):Int)==8)||(((i:Nat):Int)==13))||(((i:Nat):Int)==18))||(((i:Nat):Int)==23))==((Dy c i)==45))) (fun l=>by have G:=l;try simp only[zA]at G;exact Gs.y (v:=bV<|(!(((((i:Int)==8)||(((i:Nat):Int)==13))||(((i:Nat):Int)==18))||(((i:Nat):Int)==23)))&&(!(((decide<|(Dy c i)≥48)&&(decide<|(Dy c i)≤57))||((decide<|(Dy c i)≥97)&&(decide<|(Dy c i)≤102))))) (Bs (t:=58) (v0:=bV<|!(((((i:Int)==8)||(((i:Nat):Int)==13))||(((i:Nat):Int)==18))||(((i:Nat):Int)==23))) (lz (g:= !(!(((((((i:Nat):Int)==8)||(((i:Nat):Int)==13))||(((i:Nat):Int)==18))||(((i:Nat):Int)==23))==((Dy c i)==45)))) (u:=undef) l Aa)<|Bs (t:=60) (v0:=(bif !(((((i:Int)==8)||(((i:Nat):Int)==13))||(((i:Nat):Int)==18))||(((i:Nat):Int)==23))then bV (!(((decide<|(Dy c i)≥48)&&(decide<|(Dy c i)≤57))||((decide<|(Dy c i)≥97)&&(decide<|(Dy c i)≤102))))else undef)) (lz2 (g:= !(!(((((((i:Nat):Int)==8)||(((i:Nat):Int)==13))||(((i:Nat):Int)==18))||(((i:Nat):Int)==23))==((Dy c i)==45)))) l Aa)<|Ci (e:= !(((((i:Int)==8)||(((i:Nat):Int)==13))||(((i:Nat):Int)==18))||(((i:Nat):Int)==23))) (b:= !(((decide<|(Dy c i)≥48)&&(decide<|(Dy c i)≤57))||((decide<|(Dy c i)≥97)&&(decide<|(Dy c i)≤102)))) rfl Aa Aa Aa) Gs.nil)<|Ao (v:=bV<|(!(((((((i:Nat):Int)==8)||(((i:Nat):Int)==13))||(((i:Nat):Int)==18))||(((i:Nat):Int)==23))==((Dy c i)==45)))||((!(((((i:Int)==8)||(((i:Nat):Int)==13))||(((i:Nat):Int)==18))||(((i:Nat):Int)==23)))&&(!(((decide<|(Dy c i)≥48)&&(decide<|(Dy c i)≤57))||((decide<|(Dy c i)≥97)&&(decide<|(Dy c i)≤102)))))) (Cf (e:= !(((((((i:Nat):Int)==8)||(((i:Nat):Int)==13))||(((i:Nat):Int)==18))||(((i:Nat):Int)==23))==((Dy c i)==45))) (b:=(!(((((i:Int)==8)||(((i:Nat):Int)==13))||(((i:Nat):Int)==18))||(((i:Nat):Int)==23)))&&(!(((decide<|(Dy c i)≥48)&&(decide<|(Dy c i)≤57))||((decide<|(Dy c i)≥97)&&(decide<|(Dy c i)≤102))))) rfl Aa Aa Aa)<|Ai ?_
   refine Al ((!(((((((i:Nat):Int)==8)||(((i:Nat):Int)==13))||(((i:Nat):Int)==18))||(((i:Nat):Int)==23))==((Dy c i)==45)))||((!(((((i:Int)==8)||(((i:Nat):Int)==13))||(((i:Nat):Int)==18))||(((i:Nat):Int)==23)))&&(!(((decide<|(Dy c i)≥48)&&(decide<|(Dy c i)≤57))||((decide<|(Dy c i)≥97)&&(decide<|(Dy c i)≤102)))))) Aa (fun T=>?_) fun O=>?_
   ·refine Aj []<|Am rfl<|D3 rfl (Ar<|bV false)<|by clear d;exact B4 (Aq4 I T).symm
   ·have P:=O;try simp only[zA]at P
    refine Ag<|A7<|Ac<|Ab 1<|Bz (((i+1):Nat):Int) (i:Int) 1 ?_
    refine Ab 1<|Ax ?_
    refine fun w_ h_=>d (i+1) _ w_ Ae ⟨Ae,(fun q R=>(Nat.lt_succ_iff_lt_or_eq.1 R).elim (V q) fun e_=>by subst e_;exact O)⟩ ?_ h_
    kernel_rfl
  ·refine Cp<|A7<|Aj []<|Am rfl<|D3 rfl (Ar<|bV true)<|by clear d;exact B4 (Aq5 U S V).symm
theorem Apv(a b c:Int)(w:World)(h:0≤a∧a≤4294967295)(d:0≤b∧b≤4294967295):Calls prog 26 #[.int .u32 a,.int .u32 b,.int .i64 c] w (Df w (.bool (R7 a.toNat b.toNat c 32 0))):=by
  obtain⟨n,rfl⟩:=Int.eq_ofNat_of_zero_le h.1
  obtain⟨m,rfl⟩:=Int.eq_ofNat_of_zero_le d.1
  exact Aol n m c w Ae Ae
theorem Apw(a b:Int)(w:World)(h:0≤a∧a≤4294967295):Calls prog 27 #[.int .u32 a,.int .i64 b] w (Df w (.bool (S5 a.toNat b 32 0 0 true true))):=by
  obtain⟨n,rfl⟩:=Int.eq_ofNat_of_zero_le h.1
  exact Aom n b w Ae
theorem Apx(c:Conf.Cfg)(a:Int)(w:World)(l:0≤a∧a≤4294967295)(i:0≤c.lan∧c.lan≤4294967295):Calls prog 9 #[aV (cfL c),iV .u32 a] w (Df w (.bool (Mx c.lan c.bits a))):=by
 refine Ap (M:=[]) (LL:=[]) (n:=23) func9 rfl rfl A5 (Mem.refl _)<|W.s ?_
 refine Ac<|Af rfl (Bx (cfL c) rfl) fun o=>?_
 refine Ab 1<|Ai<|Av ?_
 refine A3 5 [(0,0),(0,0)]<|Ca (v:=bV<|R7 a.toNat c.lan.toNat c.bits 32 0) (A6 fun j g=>(Apv a c.lan c.bits _ Pi Pi))<|Ab 1<|Dx 4 (R7 a.toNat c.lan.toNat c.bits 32 0) (fun _=>Gs.z [(0,0)])<|Ao (v:=bV<|(R7 a.toNat c.lan.toNat c.bits 32 0)&&(a !=c.lan)) (Ci (e:=R7 a.toNat c.lan.toNat c.bits 32 0) (b:=a !=c.lan) rfl Aa Aa Aa) ?_
 refine Ab 1<|Dx 4 ((R7 a.toNat c.lan.toNat c.bits 32 0)&&(a !=c.lan)) (fun h=>by have d:=h;try simp only[zA]at d;exact Gs.m 3 [(0,0)] (Gs.k (v:=bV<|S5 a.toNat c.bits 32 0 0 true true) (A6 fun j g=>(Apw a c.bits _ Pi)) Gs.nil))<|Ao (v:=bV<|((R7 a.toNat c.lan.toNat c.bits 32 0)&&(a !=c.lan))&&(S5 a.toNat c.bits 32 0 0 true true)) (Ci (e:=(R7 a.toNat c.lan.toNat c.bits 32 0)&&(a !=c.lan)) (b:=S5 a.toNat c.bits 32 0 0 true true) rfl Aa Aa Aa)<|Ab 1<|Ax ?_
 refine A7<|Ak [] An rfl<|Am rfl<|D3 rfl (Ar<|bV<|((R7 a.toNat c.lan.toNat c.bits 32 0)&&(a !=c.lan))&&(S5 a.toNat c.bits 32 0 0 true true)) rfl
theorem Afm{fx:List Fwd}(d: ∀q,q<fx.length→ ∀j,j<q→Conf.isF (fun k=>fx.getD k fz) (fx.getD q fz).proto (fx.getD q fz).port j=false):FxU fx:=fun x g=>by
  obtain⟨i,b,rfl⟩:=List.getElem_of_mem g
  have e:fx.getD i fz=fx[i]:=by rw[List.getD_eq_getElem?_getD,List.getElem?_eq_getElem b];rfl
  have c:=d i b
  simp only[e]at c
  have h:=Ko (q:=fwQ fx[i].proto fx[i].port) fz b (fun j l=>c j l) (by rw[e];unfold fwQ;simp)
  unfold E7 Em
  rw[Sh,h]
  exact⟨rfl,e⟩
abbrev Q35(c:Conf.Cfg)(b:Option Addr)(d e:Nat)(fx:List Fwd):List Blk:=[cb e [iV .u8 c.lm0,iV .u8 c.lm1,iV .u8 c.lm2,iV .u8 c.lm3,iV .u8 c.lm4,iV .u8 c.lm5,iV .u8 c.wm0,iV .u8 c.wm1,iV .u8 c.wm2,iV .u8 c.wm3,iV .u8 c.wm4,iV .u8 c.wm5,iV .u8 c.hm0,iV .u8 c.hm1,iV .u8 c.hm2,iV .u8 c.hm3,iV .u8 c.hm4,iV .u8 c.hm5,iV .u32 c.lan,iV .u32 c.wan,iV .i64 c.bits,iV .i64 c.ms,iV .i64 c.mm,iV .i64 c.mc,iV .i64 c.mu,sL b fx.length d,iV .u32 c.dmz,Value.string c.uu] 32]
abbrev Q36(c:Conf.Cfg)(b:Option Addr)(d:Nat)(fx:List Fwd):List Value:=[iV .u8 c.lm0,iV .u8 c.lm1,iV .u8 c.lm2,iV .u8 c.lm3,iV .u8 c.lm4,iV .u8 c.lm5,iV .u8 c.wm0,iV .u8 c.wm1,iV .u8 c.wm2,iV .u8 c.wm3,iV .u8 c.wm4,iV .u8 c.wm5,iV .u8 c.hm0,iV .u8 c.hm1,iV .u8 c.hm2,iV .u8 c.hm3,iV .u8 c.hm4,iV .u8 c.hm5,iV .u32 c.lan,iV .u32 c.wan,iV .i64 c.bits,iV .i64 c.ms,iV .i64 c.mm,iV .i64 c.mc,iV .i64 c.mu,sL b fx.length d,iV .u32 c.dmz,Value.string c.uu]
set_option maxHeartbeats 1000000 in
theorem Afn(c:Conf.Cfg)(fx:List Fwd)(l:Option Addr)(x:Nat)(w:World)(B:At w l (mm fwv fx))(bs:fx.length≤4611686018427387904)(a6: ∀k,k<fx.length→0≤(fx.getD k fz).host∧(fx.getD k fz).host≤4294967295)(bt:0≤c.lan∧c.lan≤4294967295)(bu:0≤c.wan∧c.wan≤4294967295)(bw:0≤c.dmz∧c.dmz≤4294967295):Calls prog 20 #[aV [iV .u8 c.lm0,iV .u8 c.lm1,iV .u8 c.lm2,iV .u8 c.lm3,iV .u8 c.lm4,iV .u8 c.lm5,iV .u8 c.wm0,iV .u8 c.wm1,iV .u8 c.wm2,iV .u8 c.wm3,iV .u8 c.wm4,iV .u8 c.wm5,iV .u8 c.hm0,iV .u8 c.hm1,iV .u8 c.hm2,iV .u8 c.hm3,iV .u8 c.hm4,iV .u8 c.hm5,iV .u32 c.lan,iV .u32 c.wan,iV .i64 c.bits,iV .i64 c.ms,iV .i64 c.mm,iV .i64 c.mc,iV .i64 c.mu,sL l fx.length x,iV .u32 c.dmz,Value.string c.uu]] w (Bl w (fun v:Int=>v=0→fx.length≤32∧c.ms≤4096∧FxU fx) (fun v=>.int .i64 v) [] (fun _=>[])):=by
 refine Ap (M:=[]) (LL:=[]) (n:=180) func20 rfl rfl A5 (Mem.refl _)<|W.s ?_
 refine Ac<|Af rfl (Bx (Q36 c l x fx) rfl) fun C=>?_
 refine Ab 1<|Ai<|W.s<|W.s ?_
 refine Ac<|A3 4 [(0,0)]<|Cx 3 (decide<|c.bits<8) (fun _=>Gs.z [(0,0)])<|Ao (v:=bV<|(decide<|c.bits<8)||(decide<|c.bits>30)) (Cf (e:=decide<|c.bits<8) (b:=decide<|c.bits>30) rfl Aa Aa Aa)<|Ab 1 ?_
 refine Cx 6 ((decide<|c.bits<8)||(decide<|c.bits>30)) (fun a7=>by have an:=a7;try simp only[zA]at an;exact Gs.m 4 [(0,0),(0,0)] (Gs.k (v:=bV<|S5 c.lan.toNat c.bits 32 0 0 true true) (A6 fun o I=>(Apw c.lan c.bits _ Pi))<|Gs.z []))<|Ao (v:=bV<|((decide<|c.bits<8)||(decide<|c.bits>30))||(!(S5 c.lan.toNat c.bits 32 0 0 true true))) (Cf (e:=(decide<|c.bits<8)||(decide<|c.bits>30)) (b:= !(S5 c.lan.toNat c.bits 32 0 0 true true)) rfl Aa Aa Aa)<|Ai ?_
 refine Al (((decide<|c.bits<8)||(decide<|c.bits>30))||(!(S5 c.lan.toNat c.bits 32 0 0 true true))) Aa (fun bx=>?_) fun a8=>?_
 ·refine Aj []<|Am rfl<|D4 rfl (Ar<|iV .i64 40) fun o h=>⟨(40:Int),(fun d=>absurd d An),rfl,(h.pick [] An rfl)⟩
 ·have ao:=a8;try simp only[zA]at ao
  refine Ag<|A7<|W.s<|Av ?_
  refine A3 4 [(0,0)]<|Cx 3 (c.wan==0) (fun _=>Gs.z [(0,0)])<|Ao (v:=bV<|(c.wan==0)||(c.wan==4294967295)) (Cf (e:=c.wan==0) (b:=c.wan==4294967295) rfl Aa Aa Aa)<|Ab 1<|Cx 7 ((c.wan==0)||(c.wan==4294967295)) (fun ap=>by have S:=ap;try simp only[zA]at S;exact Gs.m 6 [(0,0),(0,0),(0,0)] (Gs.k (v:=bV<|R7 c.wan.toNat c.lan.toNat c.bits 32 0) (A6 fun o I=>(Apv c.wan c.lan c.bits _ Pi Pi)) Gs.nil)) ?_
  refine Ao (v:=bV<|((c.wan==0)||(c.wan==4294967295))||(R7 c.wan.toNat c.lan.toNat c.bits 32 0)) (Cf (e:=(c.wan==0)||(c.wan==4294967295)) (b:=R7 c.wan.toNat c.lan.toNat c.bits 32 0) rfl Aa Aa Aa)<|Ai ?_
  refine Al (((c.wan==0)||(c.wan==4294967295))||(R7 c.wan.toNat c.lan.toNat c.bits 32 0)) Aa (fun bz=>?_) fun a9=>?_
  ·refine Aj []<|Am rfl<|D4 rfl (Ar<|iV .i64 40) fun o h=>⟨(40:Int),(fun d=>absurd d An),rfl,(h.pick [] An rfl)⟩
  ·have aq:=a9;try simp only[zA]at aq
   refine Ag<|A7<|W.s<|Av ?_
   refine A3 6 [(0,0)]<|Cx 5 ((Hs c.lm0 2)==1) (fun _=>Gs.z [(0,0)])<|Ao (v:=bV<|((Hs c.lm0 2)==1)||((Hs c.wm0 2)==1)) (Cf (e:=(Hs c.lm0 2)==1) (b:=(Hs c.wm0 2)==1) rfl Aa Aa Aa)<|Ab 1<|Cx 5 (((Hs c.lm0 2)==1)||((Hs c.wm0 2)==1)) (fun _=>Gs.z [(0,0)]) ?_
   refine Ao (v:=bV<|(((Hs c.lm0 2)==1)||((Hs c.wm0 2)==1))||((Hs c.hm0 2)==1)) (Cf (e:=((Hs c.lm0 2)==1)||((Hs c.wm0 2)==1)) (b:=(Hs c.hm0 2)==1) rfl Aa Aa Aa)<|Ai ?_
   refine Al ((((Hs c.lm0 2)==1)||((Hs c.wm0 2)==1))||((Hs c.hm0 2)==1)) Aa (fun b0=>?_) fun ba=>?_
   ·refine Aj []<|Am rfl<|D4 rfl (Ar<|iV .i64 40) fun o h=>⟨(40:Int),(fun d=>absurd d An),rfl,(h.pick [] An rfl)⟩
   ·have ar:=ba;try simp only[zA]at ar
    refine Ag<|A7<|W.s<|Av ?_
    refine A3 4 [(0,0)]<|Cx 3 (decide<|c.ms<1) (fun _=>Gs.z [(0,0)])<|Ao (v:=bV<|(decide<|c.ms<1)||(decide<|c.ms>4096)) (Cf (e:=decide<|c.ms<1) (b:=decide<|c.ms>4096) rfl Aa Aa Aa)<|Ab 1<|Cx 3 ((decide<|c.ms<1)||(decide<|c.ms>4096)) (fun _=>Gs.z [(0,0)]) ?_
    refine Ao (v:=bV<|((decide<|c.ms<1)||(decide<|c.ms>4096))||(decide<|c.mm<1)) (Cf (e:=(decide<|c.ms<1)||(decide<|c.ms>4096)) (b:=decide<|c.mm<1) rfl Aa Aa Aa)<|Ab 1<|Cx 3 (((decide<|c.ms<1)||(decide<|c.ms>4096))||(decide<|c.mm<1)) (fun _=>Gs.z [(0,0)])<|Ao (v:=bV<|(((decide<|c.ms<1)||(decide<|c.ms>4096))||(decide<|c.mm<1))||(decide<|c.mm>256)) (Cf (e:=((decide<|c.ms<1)||(decide<|c.ms>4096))||(decide<|c.mm<1)) (b:=decide<|c.mm>256) rfl Aa Aa Aa)<|Ab 1 ?_
    refine Cx 3 ((((decide<|c.ms<1)||(decide<|c.ms>4096))||(decide<|c.mm<1))||(decide<|c.mm>256)) (fun _=>Gs.z [(0,0)])<|Ao (v:=bV<|((((decide<|c.ms<1)||(decide<|c.ms>4096))||(decide<|c.mm<1))||(decide<|c.mm>256))||(decide<|c.mc<1)) (Cf (e:=(((decide<|c.ms<1)||(decide<|c.ms>4096))||(decide<|c.mm<1))||(decide<|c.mm>256)) (b:=decide<|c.mc<1) rfl Aa Aa Aa)<|Ab 1<|Cx 3 (((((decide<|c.ms<1)||(decide<|c.ms>4096))||(decide<|c.mm<1))||(decide<|c.mm>256))||(decide<|c.mc<1)) (fun _=>Gs.z [(0,0)])<|Ao (v:=bV<|(((((decide<|c.ms<1)||(decide<|c.ms>4096))||(decide<|c.mm<1))||(decide<|c.mm>256))||(decide<|c.mc<1))||(decide<|c.mc>32)) (Cf (e:=((((decide<|c.ms<1)||(decide<|c.ms>4096))||(decide<|c.mm<1))||(decide<|c.mm>256))||(decide<|c.mc<1)) (b:=decide<|c.mc>32) rfl Aa Aa Aa) ?_
    refine Ab 1<|Cx 3 ((((((decide<|c.ms<1)||(decide<|c.ms>4096))||(decide<|c.mm<1))||(decide<|c.mm>256))||(decide<|c.mc<1))||(decide<|c.mc>32)) (fun _=>Gs.z [(0,0)])<|Ao (v:=bV<|((((((decide<|c.ms<1)||(decide<|c.ms>4096))||(decide<|c.mm<1))||(decide<|c.mm>256))||(decide<|c.mc<1))||(decide<|c.mc>32))||(decide<|c.mu<1)) (Cf (e:=(((((decide<|c.ms<1)||(decide<|c.ms>4096))||(decide<|c.mm<1))||(decide<|c.mm>256))||(decide<|c.mc<1))||(decide<|c.mc>32)) (b:=decide<|c.mu<1) rfl Aa Aa Aa)<|Ab 1<|Cx 3 (((((((decide<|c.ms<1)||(decide<|c.ms>4096))||(decide<|c.mm<1))||(decide<|c.mm>256))||(decide<|c.mc<1))||(decide<|c.mc>32))||(decide<|c.mu<1)) (fun _=>Gs.z [(0,0)]) ?_
    refine Ao (v:=bV<|(((((((decide<|c.ms<1)||(decide<|c.ms>4096))||(decide<|c.mm<1))||(decide<|c.mm>256))||(decide<|c.mc<1))||(decide<|c.mc>32))||(decide<|c.mu<1))||(decide<|c.mu>16)) (Cf (e:=((((((decide<|c.ms<1)||(decide<|c.ms>4096))||(decide<|c.mm<1))||(decide<|c.mm>256))||(decide<|c.mc<1))||(decide<|c.mc>32))||(decide<|c.mu<1)) (b:=decide<|c.mu>16) rfl Aa Aa Aa)<|Ai ?_
    refine Al ((((((((decide<|c.ms<1)||(decide<|c.ms>4096))||(decide<|c.mm<1))||(decide<|c.mm>256))||(decide<|c.mc<1))||(decide<|c.mc>32))||(decide<|c.mu<1))||(decide<|c.mu>16)) Aa (fun b1=>?_) fun au=>?_
    ·refine Aj []<|Am rfl<|D4 rfl (Ar<|iV .i64 40) fun o h=>⟨(40:Int),(fun d=>absurd d An),rfl,(h.pick [] An rfl)⟩
    ·have av:=au;try simp only[zA]at av
     refine Ag<|A7<|W.s<|Av ?_
     refine A3 5 [(0,0)]<|Cx 4 (decide<|((fx.length:Nat):Int)>32) (fun _=>Gs.z [(0,0)]) ?_
     refine C0 (v:=aV<|Q36 c l x fx) ((!(decide<|((fx.length:Nat):Int)>32))&&(c.dmz !=0)) rfl (F4 rfl rfl Aa) rfl (fun bh=>?_) ?_
     ·exact Fv C 0 0 0 (Q36 c l x fx) isAgg32 sizeOf32
     refine C0 (v:=pV C 26) ((!(decide<|((fx.length:Nat):Int)>32))&&(c.dmz !=0)) rfl (F4 rfl rfl Aa) rfl (fun bi=>?_) ?_
     ·exact Ys.p
     refine C0 (v:=iV .u32 c.dmz) ((!(decide<|((fx.length:Nat):Int)>32))&&(c.dmz !=0)) rfl (F4 rfl rfl Aa) rfl (fun O=>?_) ?_
     ·have T:=O;try simp only[zA]at T
      refine Bs (t:=106) (v0:=pV C 26) (lz (g:=(!(decide<|((fx.length:Nat):Int)>32))&&(c.dmz !=0)) (u:=undef) O Aa) ?_
      exact Cm C 26 0 0 isAgg24
     refine H2 (v:=bV<|Mx c.lan c.bits c.dmz) ((!(decide<|((fx.length:Nat):Int)>32))&&(c.dmz !=0)) rfl (F4 rfl rfl Aa) rfl (fun D=>?_) ?_
     ·have U:=D;try simp only[zA]at U
      refine I2 (t:=105) (v0:=aV<|Q36 c l x fx) (lz (g:=(!(decide<|((fx.length:Nat):Int)>32))&&(c.dmz !=0)) (u:=undef) D Aa)<|I2 (t:=107) (v0:=iV .u32 c.dmz) (lz (g:=(!(decide<|((fx.length:Nat):Int)>32))&&(c.dmz !=0)) (u:=undef) D Aa) ?_
      exact A6 fun o I=>(Apx (⟨c.lm0,c.lm1,c.lm2,c.lm3,c.lm4,c.lm5,c.wm0,c.wm1,c.wm2,c.wm3,c.wm4,c.wm5,c.hm0,c.hm1,c.hm2,c.hm3,c.hm4,c.hm5,c.lan,c.wan,c.bits,c.ms,c.mm,c.mc,c.mu,l,fx.length,x,c.dmz,c.uu⟩:Conf.Cfg) c.dmz _ Pi Pi)
     refine C0 (v:=bV<|!(Mx c.lan c.bits c.dmz)) ((!(decide<|((fx.length:Nat):Int)>32))&&(c.dmz !=0)) rfl (F4 rfl rfl Aa) rfl (fun P=>?_) ?_
     ·have V:=P;try simp only[zA]at V
      refine Bs (t:=108) (v0:=bV<|Mx c.lan c.bits c.dmz) (lz (g:=(!(decide<|((fx.length:Nat):Int)>32))&&(c.dmz !=0)) (u:=undef) P Aa) ?_
      exact Ys.p
     refine Cx 1 (decide<|((fx.length:Nat):Int)>32) (fun E=>by have X:=E;try simp only[zA]at X;exact Gs.y (v:=bV<|(c.dmz !=0)&&(!(Mx c.lan c.bits c.dmz))) (Bs (t:=104) (v0:=bV<|c.dmz !=0) (lz (g:= !(decide<|((fx.length:Nat):Int)>32)) (u:=undef) E Aa)<|Bs (t:=109) (v0:=(bif c.dmz !=0 then bV (!(Mx c.lan c.bits c.dmz))else undef)) (lz2 (g:= !(decide<|((fx.length:Nat):Int)>32)) E Aa)<|Ci (e:=c.dmz !=0) (b:= !(Mx c.lan c.bits c.dmz)) rfl Aa Aa Aa) Gs.nil)<|Ao (v:=bV<|(decide<|((fx.length:Nat):Int)>32)||((c.dmz !=0)&&(!(Mx c.lan c.bits c.dmz)))) (Cf (e:=decide<|((fx.length:Nat):Int)>32) (b:=(c.dmz !=0)&&(!(Mx c.lan c.bits c.dmz))) rfl Aa Aa Aa)<|Ab 1<|Cx 4 ((decide<|((fx.length:Nat):Int)>32)||((c.dmz !=0)&&(!(Mx c.lan c.bits c.dmz)))) (fun _=>Gs.m 2 [(0,0)]<|Gs.k (v:=bV<|uuR c.uu) (A6 fun o I=>(Apu c.uu _))<|Gs.z [])<|Ao (v:=bV<|((decide<|((fx.length:Nat):Int)>32)||((c.dmz !=0)&&(!(Mx c.lan c.bits c.dmz))))||(!(uuR c.uu))) (Cf (e:=(decide<|((fx.length:Nat):Int)>32)||((c.dmz !=0)&&(!(Mx c.lan c.bits c.dmz)))) (b:= !(uuR c.uu)) rfl Aa Aa Aa) ?_
     refine Ai ?_
     refine Al (((decide<|((fx.length:Nat):Int)>32)||((c.dmz !=0)&&(!(Mx c.lan c.bits c.dmz))))||(!(uuR c.uu))) Aa (fun b3=>?_) fun aw=>?_
     ·refine Aj []<|Am rfl<|D4 rfl (Ar<|iV .i64 40) fun o h=>⟨(40:Int),(fun d=>absurd d An),rfl,(h.pick [] An rfl)⟩
     ·have ax:=aw;try simp only[zA]at ax
      refine Ag<|A7<|W.s<|Aj []<|W.block ?_
      refine Ds [1,3] (fun(i:Nat)=>[pV C 0,nV .i64 i]) (fun(i:Nat)=>i≤fx.length∧ ∀q,q<i→ ∀j,j<q→Conf.isF (fun k=>fx.getD k fz) (fx.getD q fz).proto (fx.getD q fz).port j=false) (fun(i:Nat)=>[Q35 c l x C fx]) (fun(i:Nat)=>fx.length-i) 0 Aa ⟨(Nat.zero_le _),(fun q Q=>absurd Q<|Nat.not_lt_zero q)⟩ (by rfl) fun i bj bk Y Z=>?_
      obtain⟨hi,hu⟩:=Y
      refine W.s<|Aj [(0,0)] ?_
      refine Al (decide<|((i:Nat):Int)<(fx.length:Int)) Aa (fun ay=>?_) fun az=>?_
      ·have aa:=ay;try simp only[zA]at aa
       refine Ag<|A7<|W.s<|W.block<|W.s ?_
       refine Ac<|A3 3 [(0,0)]<|Ao (v:=pL<|some<|Cv l<|i*4) (Bd fun o d=>Aq (k:=.i64) (a:=l) (len:=fx.length) (cap:=x) (i:=(i:Int)) (sz:=4) rfl Aa Aa runUnderlying30 sizeOf65 Ae Ae<|(B.mem0 d).here Z5)<|Ao (v:=aV<|Ob<|fx.getD i fz) (Ys.ldN (a:=Cv l<|i*4) (vs:=(Ob<|fx.getD i fz)) rfl Aa isAgg65 sizeOf65 rfl fun o d=>(B.mem0 d).ldN<|Di (g:=fwv) (sz:=4) (fun _=>rfl) fz (xs:=fx) (k:=i) Ae)<|Af rfl (Ba zeroValue65) fun H=>?_
       refine Af rfl (A0 H 0 0 0 (Ob<|fx.getD i fz) sizeOf65 rfl rfl) fun _=>Ai<|W.s<|W.s ?_
       refine Ac<|A3 4 [(0,0)]<|Dx 3 (((fx.getD i fz).proto) !=6) (fun _=>Gs.z [(0,0)])<|Ao (v:=bV<|(((fx.getD i fz).proto) !=6)&&(((fx.getD i fz).proto) !=17)) (Ci (e:=((fx.getD i fz).proto) !=6) (b:=((fx.getD i fz).proto) !=17) rfl Aa Aa Aa)<|Ab 1 ?_
       refine Cx 3 ((((fx.getD i fz).proto) !=6)&&(((fx.getD i fz).proto) !=17)) (fun _=>Gs.z [(0,0)])<|Ao (v:=bV<|((((fx.getD i fz).proto) !=6)&&(((fx.getD i fz).proto) !=17))||(((fx.getD i fz).port)==0)) (Cf (e:=(((fx.getD i fz).proto) !=6)&&(((fx.getD i fz).proto) !=17)) (b:=((fx.getD i fz).port)==0) rfl Aa Aa Aa)<|Ab 1<|Cx 3 (((((fx.getD i fz).proto) !=6)&&(((fx.getD i fz).proto) !=17))||(((fx.getD i fz).port)==0)) (fun _=>Gs.z [(0,0)])<|Ao (v:=bV<|(((((fx.getD i fz).proto) !=6)&&(((fx.getD i fz).proto) !=17))||(((fx.getD i fz).port)==0))||(((fx.getD i fz).dest)==0)) (Cf (e:=((((fx.getD i fz).proto) !=6)&&(((fx.getD i fz).proto) !=17))||(((fx.getD i fz).port)==0)) (b:=((fx.getD i fz).dest)==0) rfl Aa Aa Aa) ?_
       refine Ab 1<|Cx 5 ((((((fx.getD i fz).proto) !=6)&&(((fx.getD i fz).proto) !=17))||(((fx.getD i fz).port)==0))||(((fx.getD i fz).dest)==0)) (fun ab=>by have J:=ab;try simp only[zA]at J;exact Gs.m 3 [(1,0),(0,0)] (Gs.k (v:=bV<|Mx c.lan c.bits<|(fx.getD i fz).host) (A6 fun o I=>(Apx (⟨c.lm0,c.lm1,c.lm2,c.lm3,c.lm4,c.lm5,c.wm0,c.wm1,c.wm2,c.wm3,c.wm4,c.wm5,c.hm0,c.hm1,c.hm2,c.hm3,c.hm4,c.hm5,c.lan,c.wan,c.bits,c.ms,c.mm,c.mc,c.mu,l,fx.length,x,c.dmz,c.uu⟩:Conf.Cfg) ((fx.getD i fz).host) _ (a6 i Ae) Pi))<|Gs.z []))<|Ao (v:=bV<|((((((fx.getD i fz).proto) !=6)&&(((fx.getD i fz).proto) !=17))||(((fx.getD i fz).port)==0))||(((fx.getD i fz).dest)==0))||(!(Mx c.lan c.bits<|(fx.getD i fz).host))) (Cf (e:=(((((fx.getD i fz).proto) !=6)&&(((fx.getD i fz).proto) !=17))||(((fx.getD i fz).port)==0))||(((fx.getD i fz).dest)==0)) (b:= !(Mx c.lan c.bits<|(fx.getD i fz).host)) rfl Aa Aa Aa)<|Ai ?_
       refine Al (((((((fx.getD i fz).proto) !=6)&&(((fx.getD i fz).proto) !=17))||(((fx.getD i fz).port)==0))||(((fx.getD i fz).dest)==0))||(!(Mx c.lan c.bits<|(fx.getD i fz).host))) Aa (fun bn=>?_) fun a0=>?_
       ·refine Aj []<|Am rfl<|D4 rfl (Ar<|iV .i64 40) fun o h=>⟨(40:Int),(fun d=>absurd d An),rfl,(h.pick [] An rfl)⟩
       ·have ad:=a0;try simp only[zA]at ad
        refine Ag<|A7<|Aj []<|W.block<|Ds [1,3,4,5,134,135,136,139,140,141,144,145,146,149,150,151,152,153] (fun(j:Nat)=>[pV C 0,nV .i64 i,pV H 0,nV .i64 j,(bif ((fx.getD i fz).proto) !=6 then pV H 0 else undef),(bif ((fx.getD i fz).proto) !=6 then iV .u8 ((fx.getD i fz).proto)else undef),(bif ((fx.getD i fz).proto) !=6 then bV (((fx.getD i fz).proto) !=17)else undef),(bif !((((fx.getD i fz).proto) !=6)&&(((fx.getD i fz).proto) !=17))then pV H 1 else undef),(bif !((((fx.getD i fz).proto) !=6)&&(((fx.getD i fz).proto) !=17))then iV .u16 ((fx.getD i fz).port)else undef),(bif !((((fx.getD i fz).proto) !=6)&&(((fx.getD i fz).proto) !=17))then bV (((fx.getD i fz).port)==0)else undef),(bif !(((((fx.getD i fz).proto) !=6)&&(((fx.getD i fz).proto) !=17))||(((fx.getD i fz).port)==0))then pV H 2 else undef),(bif !(((((fx.getD i fz).proto) !=6)&&(((fx.getD i fz).proto) !=17))||(((fx.getD i fz).port)==0))then iV .u16 ((fx.getD i fz).dest)else undef),(bif !(((((fx.getD i fz).proto) !=6)&&(((fx.getD i fz).proto) !=17))||(((fx.getD i fz).port)==0))then bV (((fx.getD i fz).dest)==0)else undef),(bif !((((((fx.getD i fz).proto) !=6)&&(((fx.getD i fz).proto) !=17))||(((fx.getD i fz).port)==0))||(((fx.getD i fz).dest)==0))then aV (Q36 c l x fx)else undef),(bif !((((((fx.getD i fz).proto) !=6)&&(((fx.getD i fz).proto) !=17))||(((fx.getD i fz).port)==0))||(((fx.getD i fz).dest)==0))then pV H 3 else undef),(bif !((((((fx.getD i fz).proto) !=6)&&(((fx.getD i fz).proto) !=17))||(((fx.getD i fz).port)==0))||(((fx.getD i fz).dest)==0))then iV .u32 ((fx.getD i fz).host)else undef),(bif !((((((fx.getD i fz).proto) !=6)&&(((fx.getD i fz).proto) !=17))||(((fx.getD i fz).port)==0))||(((fx.getD i fz).dest)==0))then bV (Mx c.lan c.bits<|(fx.getD i fz).host)else undef),(bif !((((((fx.getD i fz).proto) !=6)&&(((fx.getD i fz).proto) !=17))||(((fx.getD i fz).port)==0))||(((fx.getD i fz).dest)==0))then bV (!(Mx c.lan c.bits<|(fx.getD i fz).host))else undef)]) (fun(j:Nat)=>j≤i∧ ∀q,q<j→Conf.isF (fun k=>fx.getD k fz) (fx.getD i fz).proto (fx.getD i fz).port q=false) (fun(j:Nat)=>[[cb H (Ob<|fx.getD i fz) 65],Q35 c l x C fx]) (fun(j:Nat)=>i-j) 0 Aa ⟨(Nat.zero_le _),(fun q Q=>absurd Q<|Nat.not_lt_zero q)⟩ (by rfl) fun j bo bp ae af=>?_
        obtain⟨hj,hv⟩:=ae
        refine W.s<|Aj [] ?_
        refine Al (decide<|((j:Nat):Int)<(i:Int)) Aa (fun a1=>?_) fun a2=>?_
        ·have ag:=a1;try simp only[zA]at ag
         refine Ag<|A7<|W.s<|W.block<|W.s ?_
         refine C6 [(0,true),(1,true),(2,true),(3,true),(4,true),(5,true),(6,false),(7,false),(8,false),(9,false),(10,true),(11,true),(12,true),(13,true),(14,true),(15,true),(16,false),(17,false),(18,false),(19,false)] [0,1,2,3,4,5,10,11,12,13,14,15]<|Dd 3 [(1,0)]<|Bi (v:=pL<|some<|Cv l<|j*4) rfl (Bd fun o d=>Aq (k:=.i64) (a:=l) (len:=fx.length) (cap:=x) (i:=(j:Int)) (sz:=4) rfl Aa Aa runUnderlying30 sizeOf65 Ae Ae<|(B.mem0 d).here Z5)<|B1 1<|Bi (v:=iV .u8<|(fx.getD j fz).proto) rfl (Ys.ld (a:=Cv l<|j*4) rfl Aa isAgg5 fun o d=>(B.mem0 d).ld<|Nn (g:=fwv) (sz:=4) (fun _=>rfl) fz (xs:=fx) (k:=j) Ae 0 rfl) ?_
         refine Bq 4 [(0,0)] ?_
         refine Bg (v:=pV C 25) (((fx.getD j fz).proto)==((fx.getD i fz).proto)) rfl (Bw rfl Aa) rfl (fun bb=>?_) ?_
         ·exact Ys.p
         refine Bg (v:=sL l fx.length x) (((fx.getD j fz).proto)==((fx.getD i fz).proto)) rfl (Bw rfl Aa) rfl (fun ah=>?_) ?_
         ·refine Bs (t:=170) (v0:=pV C 25) (lz (g:=((fx.getD j fz).proto)==((fx.getD i fz).proto)) (u:=undef) ah Aa) ?_
          exact Cm C 25 1 0 isAgg30
         refine Bg (v:=nV .i64 j) (((fx.getD j fz).proto)==((fx.getD i fz).proto)) rfl (Bw rfl Aa) rfl (fun bc=>?_) ?_
         ·exact Ys.p
         refine Bg (v:=pL<|some<|Cv l<|j*4) (((fx.getD j fz).proto)==((fx.getD i fz).proto)) rfl (Bw rfl Aa) rfl (fun A=>?_) ?_
         ·have L:=A;try simp only[zA]at L
          refine Bs (t:=171) (v0:=sL l fx.length x) (lz (g:=((fx.getD j fz).proto)==((fx.getD i fz).proto)) (u:=undef) A Aa)<|Bs (t:=172) (v0:=nV .i64 j) (lz (g:=((fx.getD j fz).proto)==((fx.getD i fz).proto)) (u:=undef) A Aa) ?_
          exact Bd fun o d=>Aq (k:=.i64) (a:=l) (len:=fx.length) (cap:=x) (i:=(j:Int)) (sz:=4) rfl Aa Aa runUnderlying30 sizeOf65 Ae Ae<|(B.mem0 d).here Z5
         refine Bg (v:=pL<|some<|(Cv l<|j*4).add 1) (((fx.getD j fz).proto)==((fx.getD i fz).proto)) rfl (Bw rfl Aa) rfl (fun ai=>?_) ?_
         ·refine Bs (t:=173) (v0:=pL<|some<|Cv l<|j*4) (lz (g:=((fx.getD j fz).proto)==((fx.getD i fz).proto)) (u:=undef) ai Aa) ?_
          exact Ys.p
         refine Bg (v:=iV .u16<|(fx.getD j fz).port) (((fx.getD j fz).proto)==((fx.getD i fz).proto)) rfl (Bw rfl Aa) rfl (fun F=>?_) ?_
         ·have N:=F;try simp only[zA]at N
          refine Bs (t:=174) (v0:=pL<|some<|(Cv l<|j*4).add 1) (lz (g:=((fx.getD j fz).proto)==((fx.getD i fz).proto)) (u:=undef) F Aa) ?_
          exact Ys.ld (a:=(Cv l<|j*4).add 1) rfl Aa isAgg22 fun o d=>(B.mem0 d).ldF<|Nn (g:=fwv) (sz:=4) (fun _=>rfl) fz (xs:=fx) (k:=j) Ae 1 rfl
         refine Bo (v:=pV H 1) (((fx.getD j fz).proto)==((fx.getD i fz).proto)) rfl (Bw rfl Aa) rfl (fun bd=>?_) (.inr fun _ d=>d) ?_
         ·refine Ys.yc ?_
          exact Ys.p
         refine Bo (v:=iV .u16<|(fx.getD i fz).port) (((fx.getD j fz).proto)==((fx.getD i fz).proto)) rfl (Bw rfl Aa) rfl (fun aj=>?_) (.inr fun _ d=>d) ?_
         ·refine Ys.yc<|Bs (t:=176) (v0:=pV H 1) (lz (g:=((fx.getD j fz).proto)==((fx.getD i fz).proto)) (u:=undef) aj Aa) ?_
          exact Cm H 1 0 0 isAgg22
         refine Bo (v:=bV<|((fx.getD j fz).port)==((fx.getD i fz).port)) (((fx.getD j fz).proto)==((fx.getD i fz).proto)) rfl (Bw rfl Aa) rfl (fun G=>?_) (.inr fun _ d=>d) ?_
         ·refine Ys.yc<|Bs (t:=175) (v0:=iV .u16<|(fx.getD j fz).port) (lz (g:=((fx.getD j fz).proto)==((fx.getD i fz).proto)) (u:=undef) G Aa)<|Bs (t:=177) (v0:=iV .u16<|(fx.getD i fz).port) (lz (g:=((fx.getD j fz).proto)==((fx.getD i fz).proto)) (u:=undef) G Aa) ?_
          exact Ys.p
         refine Fk (v:=bV<|(((fx.getD j fz).proto)==((fx.getD i fz).proto))&&(((fx.getD j fz).port)==((fx.getD i fz).port))) rfl (Ci (e:=((fx.getD j fz).proto)==((fx.getD i fz).proto)) (b:=((fx.getD j fz).port)==((fx.getD i fz).port)) rfl Aa Aa Aa)<|Ck ?_
         refine Al ((((fx.getD j fz).proto)==((fx.getD i fz).proto))&&(((fx.getD j fz).port)==((fx.getD i fz).port))) Aa (fun br=>?_) fun R=>?_
         ·refine Aj []<|Am rfl<|D4 rfl (Ar<|iV .i64 40) fun o h=>⟨(40:Int),(fun d=>absurd d An),rfl,(h.pick [] An rfl)⟩
         ·have ak:=R;try simp only[zA]at ak
          refine Ag<|A7<|Ac<|Ab 1<|Bz (((j+1):Nat):Int) (j:Int) 1 ?_
          refine Ab 1<|Ax ?_
          refine fun o d=>af (j+1) _ o Ae ⟨Ae,(fun q Q=>(Nat.lt_succ_iff_lt_or_eq.1 Q).elim (hv q) fun e_=>by subst e_;exact R)⟩ ?_ d
          kernel_rfl
        ·have al:=a2;try simp only[zA]at al
         refine Cp<|A7<|Ac<|Ab 1<|Bz (((i+1):Nat):Int) (i:Int) 1 ?_
         refine Ab 1<|Ax ?_
         refine fun o d=>Z (i+1) _ o Ae ⟨Ae,(fun q Q=>(Nat.lt_succ_iff_lt_or_eq.1 Q).elim (hu q) fun e_=>by subst e_;exact fun j_ b5=>hv j_ Ae)⟩ ?_<|d.pick [1] An rfl
         kernel_rfl
      ·have am:=az;try simp only[zA]at am
       refine Cp<|A7<|Ak [] An rfl<|Aj []<|Am rfl ?_
       have a3:=au
       simp only[Bool.or_eq_false_iff,decide_eq_false_iff_not]at a3
       have a5:=aw
       simp only[Bool.or_eq_false_iff,decide_eq_false_iff_not]at a5
       exact D4 rfl (Ar<|iV .i64 0) fun o h=>⟨(0:Int),(fun _=>⟨by omega,by omega,Afm fun q Q=>hu q Ae⟩),rfl,(h.pick [] An rfl)⟩
abbrev Q37(la:Cll)(b:Nat):List Blk:=[cb b (Rj la) 58]
abbrev Q38(b:NK)(c:Nat):List Blk:=[cb c [pL (some ⟨b.nb,0,none⟩)] 35]
abbrev Q39(c:Conf.Cfg)(b:Option Addr)(d:Nat)(fx:List Fwd):List Value:=[iV .u8 c.lm0,iV .u8 c.lm1,iV .u8 c.lm2,iV .u8 c.lm3,iV .u8 c.lm4,iV .u8 c.lm5,iV .u8 c.wm0,iV .u8 c.wm1,iV .u8 c.wm2,iV .u8 c.wm3,iV .u8 c.wm4,iV .u8 c.wm5,iV .u8 c.hm0,iV .u8 c.hm1,iV .u8 c.hm2,iV .u8 c.hm3,iV .u8 c.hm4,iV .u8 c.hm5,iV .u32 c.lan,iV .u32 c.wan,iV .i64 c.bits,iV .i64 c.ms,iV .i64 c.mm,iV .i64 c.mc,iV .i64 c.mu,sL b fx.length d,iV .u32 c.dmz,Value.string c.uu]
abbrev Q3a(la:Cll):List Value:=(Rj la)
set_option maxHeartbeats 1000000 in
theorem Abd(c:Conf.Cfg)(fx:List Fwd)(fa:Option Addr)(fc:Nat)(Q:List Cll)(na:Option Addr)(V:Nat)(la:Cll)(w:World)(a3:At w fa (mm fwv fx))(c5:fx.length≤4611686018427387904)(hF:RngF fx)(a5:At w na (mm clC Q))(c6:Q.length≤9223372036854775807)(b9: ∀x∈Q,ClOK w x)(l:ClOK w la)(cr:0≤c.lan∧c.lan≤4294967295)(ah:0≤c.wan∧c.wan≤4294967295)(ai:0≤c.dmz∧c.dmz≤4294967295)(S:At w (some ⟨0,0,none⟩) (Cw dbt)):Calls prog 6 #[aV [iV .u8 c.lm0,iV .u8 c.lm1,iV .u8 c.lm2,iV .u8 c.lm3,iV .u8 c.lm4,iV .u8 c.lm5,iV .u8 c.wm0,iV .u8 c.wm1,iV .u8 c.wm2,iV .u8 c.wm3,iV .u8 c.wm4,iV .u8 c.wm5,iV .u8 c.hm0,iV .u8 c.hm1,iV .u8 c.hm2,iV .u8 c.hm3,iV .u8 c.hm4,iV .u8 c.hm5,iV .u32 c.lan,iV .u32 c.wan,iV .i64 c.bits,iV .i64 c.ms,iV .i64 c.mm,iV .i64 c.mc,iV .i64 c.mu,sL fa fx.length fc,iV .u32 c.dmz,Value.string c.uu],sL na Q.length V,aV (Rj la)] w (Df w (.bool true)):=by
 have ae:0<(Cw dbt).length→(Option.getD (some (⟨0,0,none⟩:Addr)) default).block∉([]:List Nat):=fun _ I=>by cases I
 have ca: ∀x∈fx,0≤x.host∧x.host≤4294967295:=fun x hx=>⟨(hF x hx).2.2.2.2.1,(hF x hx).2.2.2.2.2.1⟩
 have cu:=l.tick
 have cv:=l.draw
 refine Ap (M:=[]) (LL:=[]) (n:=83) func6 rfl rfl A5 (Mem.refl _)<|W.s ?_
 refine Ac<|Af rfl (Bx (Q39 c fa fc fx) rfl) fun p3=>?_
 refine Af rfl (Bx (Q3a la) rfl) fun p5=>Ab 1<|Ai<|W.s ?_
 refine Av<|Ca (v:=bV true) (A6 fun O C=>(X6 _<|S.mem' C ae))<|Ab 1<|Ax ?_
 refine A7<|B3 Aa<|Ag<|A7<|W.s ?_
 refine Av<|Ab 1<|Ca (v:=bV<|Pu Q) (A6 fun O C=>(Zy Q na V _ (a5.mem0 C) Ae))<|Ab 1 ?_
 refine Cx 1 (Pu Q) (fun _=>Gs.z [(0,0)]) ?_
 refine Vw (Pu Q) (fun a6=>?_) fun af=>?_
 ·refine Ku 17 (v0:=.bool true) (I5 (e:=Pu Q) Aa a6)<|Ku 18 (v0:=.bool true) (I5 (e:=Pu Q) Aa a6)<|A3 8 []<|Ai ?_
  refine B9 Aa<|Aj []<|Am rfl<|D3 rfl (Ar<|bV true) rfl
 ·refine Ku 17 (v0:=.bool false) (I5 (e:=Pu Q) Aa af)<|Ku 18 (v0:=.bool false) (I5 (e:=Pu Q) Aa af)<|Ku 19 (v0:=aV<|Q3a la) (lz (g:= !(Pu Q)) (u:=undef) (by rw[af];rfl) Aa)<|Abt rfl Aa (Bf (mk:=fun b_=>.slice (some ⟨b_,0,none⟩) 1 1) (t:=58) (cs:=(Q3a la)) rfl fun _=>kr) fun a7=>H2 (v:=bV<|Pu [la]) (true) rfl Aa rfl (fun _=>A6 fun O C=>(Zy [la] (some ⟨a7,0,none⟩) 1 _ (Az (i:=0) (j:=0) (t:=58) (b:=a7) C rfl rfl) A5)) ?_
  refine Ab 2<|Cx 1 (Pu [la]) (fun _=>Gs.z [(2,0)]) ?_
  refine Vw (Pu [la]) (fun ar=>?_) fun X=>?_
  ·refine Ku 21 (v0:=.bool true) (I5 (e:=Pu [la]) Aa ar)<|Ku 22 (v0:=.bool true) (I5 (e:=Pu [la]) Aa ar)<|Ku 23 (v0:=.bool true) (I5 (e:=Pu [la]) Aa ar)<|A3 3 []<|Ax ?_
   refine A7<|Ak [1,2] An rfl<|B9 Aa<|Aj []<|Am rfl<|D3 rfl (Ar<|bV true) rfl
  ·refine Ku 21 (v0:=.bool false) (I5 (e:=Pu [la]) Aa X)<|Ku 22 (v0:=.bool false) (I5 (e:=Pu [la]) Aa X)<|Ku 23 (v0:=.bool false) (I5 (e:=Pu [la]) Aa X)<|Ku 24 (v0:=aV<|Q39 c fa fc fx) (lz (g:= !(Pu [la])) (u:=undef) (by rw[X];rfl) Aa) ?_
   refine Agc rfl Aa (Au [] [0,1,2] fun O C F=>(Afn (⟨c.lm0,c.lm1,c.lm2,c.lm3,c.lm4,c.lm5,c.wm0,c.wm1,c.wm2,c.wm3,c.wm4,c.wm5,c.hm0,c.hm1,c.hm2,c.hm3,c.hm4,c.hm5,c.lan,c.wan,c.bits,c.ms,c.mm,c.mc,c.mu,fa,fx.length,fc,c.dmz,c.uu⟩:Conf.Cfg) fx fa fc _ (a3.mem0 C) Ae (fun k_ cc=>by rw[List.getD_eq_getElem?_getD,List.getElem?_eq_getElem cc];exact ca _ (List.getElem_mem _)) Pi Pi Pi)) fun a8 ce=>?_
   refine A3 2 []<|Ai<|Ak [1,2] An rfl ?_
   refine Al (a8 !=0) Aa (fun c9=>?_) fun a9=>?_
   ·refine Aj []<|Am rfl<|D3 rfl (Ar<|bV true) rfl
   ·have ba:=a9;try simp only[zA]at ba
    refine Ag<|A7<|W.s ?_
    have bb:=Afi af
    have cw:=(Afi X).2 la (List.mem_singleton.2 rfl)
    have D:la.xs.length≤100000:=by omega
    have Y:=ce (by simpa using a9)
    have b4:=Y.1
    refine Ac<|A3 2 [(1,0)]<|Aw rfl (Au [] [0,1] fun O C F=>(Abc c fx fa fc Q na V _ (a5.mem0 C) Ae (fun x_ cf=>(b9 x_ cf).mem C) bb.2 (a3.mem0 C) Ae (by have U:=Y.2.1;show c.ms≤50000;have y_:c.ms≤4096:=U;omega) hF Y.2.2 ah ai<|S.mem' C ae)) fun cg aj=>?_
    obtain⟨o,h,ak⟩:=cg
    dsimp only at aj
    obtain⟨P,db,dc,bc,dd,dg⟩:=aj
    refine Bv (LL':=[NG o h,Q37 la p5,[cb p3 (Q39 c fa fc fx) 32]]) rfl<|Ab 3<|Af rfl (Ba zeroValue35) fun p7=>Af rfl (Bb p7 0 0 0 (pL<|some ⟨o.nb,0,none⟩) sizeOf35 rfl rfl) fun _=>Ab 1 ?_
    refine Ai<|Ak [0,1,2] An rfl<|Aj []<|W.s ?_
    refine Ac<|Ab 1<|Aw rfl (Au [1,0] [2] fun O C F=>(U9 o h p7 _ _ P F)) fun q N=>Ab 1<|Ax ?_
    refine A7<|Aj []<|W.s<|Av ?_
    refine A3 2 [(3,0)]<|Ao (v:=nV .i64<|(la.kd%2).toNat) ((Ys.p (v:=.int .i64<|Dp .i64 la.kd 1)).conseq<|Ad<|Vu (c:=1) An 1 2 rfl rfl)<|Ab 1<|Ai ?_
    refine Al ((((la.kd%2).toNat:Nat):Int)==0) Aa (fun ch=>?_) fun ci=>?_
    ·have bd:=ch;try simp only[zA]at bd
     refine Ac<|A3 6 [(2,0),(3,0),(3,0)]<|Aw rfl (Au [1] [0,2,3] fun O C F=>(have J:=(C5 (L:=[NG o h]) (R:=[q.seg 74 (mm Ks<|h.p.es.map Prod.snd),Q38 o p7,Q37 la p5]) l.at' (fun _ I=>by cases I)<|Mem.pick [1,0,2,3] An C rfl);(Sm o h _ ((Hh la.pr la.s la.d la.xs).toNat) (F0 la.pr la.s la.d la.xs:Int) (Gd la.pr la.s la.d la.xs:Int) (Iz la.pr la.s la.d la.xs:Int) (I0 la.pr la.s la.d la.xs:Int) (la.tt.toNat:Int) (la.pr.toNat:Int) (la.id:Int) (la.s:Int) (la.d:Int) la.a la.xs.length la.cap (Hk la.pr la.s la.d la.xs) (Je la.pr la.s la.d la.xs) (bgA la.pr la.s la.d la.xs) ((((mT la.xs 0).toNat:Nat):Int) !=0) (Ww la.pr la.s la.d la.xs) (H1 la.pr) (ak:Int) la.draw (PkV×List Blk) (fun _ _=>True) (fun _ x=>x.1) (rwY la.pr la.s la.d la.xs) (fun _ x=>x.2) _ P F Ae (by rw[bc];exact ah) (UInt8.toNat_lt _) (L8 l.s l.d) l.draw (O3 J.1 J.2 l.id l.s l.d D l.cap) (O4 J.1 J.2 l.id l.s l.d D l.cap) (O5 J.1 J.2 l.id l.s l.d D l.cap) (O6 J.1 J.2 D l.cap) (O7 J.1 J.2 l.id l.s l.d D l.cap) (C5 (L:=[NG o h]) (R:=[q.seg 74 (mm Ks<|h.p.es.map Prod.snd),Q38 o p7,Q37 la p5]) S ae<|Mem.pick [1,0,2,3] An C rfl).1 (C5 (L:=[NG o h]) (R:=[q.seg 74 (mm Ks<|h.p.es.map Prod.snd),Q38 o p7,Q37 la p5]) S ae<|Mem.pick [1,0,2,3] An C rfl).2))) fun cj al=>?_
     obtain⟨A,bf,cx,am⟩:=cj
     dsimp only at al
     obtain⟨bh,ck,cl,bi⟩:=al
     refine Bv (LL':=[NG o A,am,q.seg 74<|mm Ks<|h.p.es.map Prod.snd,Q38 o p7,Q37 la p5]) rfl<|Ab 4<|Ai<|Ak [0,1,2,3] An rfl ?_
     refine Av<|Ab 1<|Aw rfl (Au [0,3] [1,2] fun O C F=>(U9 o A p7 _ _ bh F)) fun G Z=>Ab 1 ?_
     refine Ai<|Ak [0,1,3,4] An rfl<|W.s<|Aj [] ?_
     refine Al (bf==0) Aa (fun dh=>?_) fun bj=>?_
     ·refine Aj []<|Am rfl<|D3 rfl (Ar<|bV true) rfl
     ·have bk:=bj;try simp only[zA]at bk
      refine Ag<|A7<|W.s<|W.s ?_
      have H:A.p.es=h.p.es:=Am1 bi (fun I g_=>Afk I g_) (by simpa using bj)
      refine Ac<|Ab 5<|Ai ?_
      refine Al ((((h.p.es.map Prod.snd).length:Nat):Int) !=((A.p.es.map Prod.snd).length:Int)) Aa (fun bm=>?_) fun cn=>?_
      ·have bn:=bm;try simp only[zA]at bn
       (exfalso;have U:=bm;rw[H]at U;simp at U)
      ·have bo:=cn;try simp only[zA]at bo
       refine Ag<|A7<|W.s<|Aj []<|W.block ?_
       refine Ds [10,12,69,70] (fun(i:Nat)=>[sL q.a ((h.p.es.map Prod.snd).length) q.cap,sL G.a ((A.p.es.map Prod.snd).length) G.cap,nV .i64<|(h.p.es.map Prod.snd).length,nV .i64 i]) (fun(i:Nat)=>i≤(h.p.es.map Prod.snd).length) (fun(i:Nat)=>[G.seg 74 (mm Ks<|A.p.es.map Prod.snd),NG o A,am,q.seg 74 (mm Ks<|h.p.es.map Prod.snd)]) (fun(i:Nat)=>(h.p.es.map Prod.snd).length-i) 0 Aa (Nat.zero_le _) (by rfl) fun i di dj bp bq=>?_
       have hi:=bp
       have br:(A.p.es.map Prod.snd).length=(h.p.es.map Prod.snd).length:=by rw[H]
       have bs:=H0 P.ok P.a
       have au:(h.p.es.map Prod.snd).length=h.p.es.length:=List.length_map ..
       refine Aj []<|W.s ?_
       refine Al (decide<|((i:Nat):Int)<((h.p.es.map Prod.snd).length:Int)) Aa (fun co=>?_) fun dl=>?_
       ·have bt:=co;try simp only[zA]at bt
        refine Ag<|A7<|W.s<|W.block<|Aj [] ?_
        refine W.s<|C6 [(0,true),(1,true),(2,true),(3,true),(4,true),(5,false),(6,false),(7,false),(8,false)] [0,1,2,3,4]<|B1 2<|Bi (v:=pL<|some<|Cv q.a<|i*13) rfl (Aq (k:=.i64) (a:=q.a) (len:=(h.p.es.map Prod.snd).length) (cap:=q.cap) (i:=(i:Int)) (sz:=13) rfl Aa Aa runUnderlying68 sizeOf74 Ae Ae<|by rw[D1 (C1 N Ae)];rfl)<|Bi (v:=aV<|N0<|(h.p.es.map Prod.snd).getD i Hy) rfl (Ys.ldN (a:=Cv q.a<|i*13) (vs:=(N0<|(h.p.es.map Prod.snd).getD i Hy)) rfl Aa isAgg74 sizeOf74 rfl fun O I=>(FS.at (i:=3) (t:=74) I rfl<|Ah N<|Lx _).ldN<|Di (g:=Ks) (sz:=13) (fun _=>rfl) Hy (xs:=h.p.es.map Prod.snd) (k:=i) Ae) ?_
        refine Bq 2 []<|Fk (v:=pL<|some<|Cv G.a<|i*13) rfl (Aq (k:=.i64) (a:=G.a) (len:=(A.p.es.map Prod.snd).length) (cap:=G.cap) (i:=(i:Int)) (sz:=13) rfl Aa Aa runUnderlying68 sizeOf74 Ae Ae<|by rw[D1 (C1 Z Ae)];rfl)<|Fk (v:=aV<|N0<|(A.p.es.map Prod.snd).getD i Hy) rfl (Ys.ldN (a:=Cv G.a<|i*13) (vs:=(N0<|(A.p.es.map Prod.snd).getD i Hy)) rfl Aa isAgg74 sizeOf74 rfl fun O I=>(FS.at (i:=0) (t:=74) I rfl<|Ah Z<|Lx _).ldN<|Di (g:=Ks) (sz:=13) (fun _=>rfl) Hy (xs:=A.p.es.map Prod.snd) (k:=i) Ae)<|Fk (v:=bV<|!(Cr (N0<|(h.p.es.map Prod.snd).getD i Hy)<|N0<|(A.p.es.map Prod.snd).getD i Hy)) rfl (Ab9 (ls:=[.int .u8,.int .u32,.int .u32,.int .u16,.int .u16,.int .u16,.int .u64,.bool,.bool,.bool,.bool,.bool,.bool]) (cs:=(N0<|(h.p.es.map Prod.snd).getD i Hy)) (cs':=(N0<|(A.p.es.map Prod.snd).getD i Hy)) (b:=Cr (N0<|(h.p.es.map Prod.snd).getD i Hy)<|N0<|(A.p.es.map Prod.snd).getD i Hy) rfl Aa Aa Aa Aa Aa ⟨⟨_,rfl⟩,⟨_,rfl⟩,⟨_,rfl⟩,⟨_,rfl⟩,⟨_,rfl⟩,⟨_,rfl⟩,⟨_,rfl⟩,⟨_,rfl⟩,⟨_,rfl⟩,⟨_,rfl⟩,⟨_,rfl⟩,⟨_,rfl⟩,⟨_,rfl⟩,trivial⟩ ⟨⟨_,rfl⟩,⟨_,rfl⟩,⟨_,rfl⟩,⟨_,rfl⟩,⟨_,rfl⟩,⟨_,rfl⟩,⟨_,rfl⟩,⟨_,rfl⟩,⟨_,rfl⟩,⟨_,rfl⟩,⟨_,rfl⟩,⟨_,rfl⟩,⟨_,rfl⟩,trivial⟩ rfl)<|Ee ?_
        refine A7 ?_
        refine Al (!(Cr (N0<|(h.p.es.map Prod.snd).getD i Hy)<|N0<|(A.p.es.map Prod.snd).getD i Hy)) Aa (fun cp=>?_) fun dm=>?_
        ·(exfalso;have U:=cp;rw[H]at U;simp[Cr,Ms]at U)
        ·refine Ag<|A7<|Ac<|Bz (((i+1):Nat):Int) (i:Int) 1<|Ab 1 ?_
         refine Ax ?_
         refine fun O I=>bq (i+1) _ O Ae Ae ?_ I
         kernel_rfl
       ·refine Cp<|A7<|Ak [1,2] An rfl<|Aj []<|Am rfl<|D3 rfl (Ar<|bV true) rfl
    ·have bu:=ci;try simp only[zA]at bu
     refine Ac<|A3 4 [(2,0),(3,0)]<|Aw rfl (Au [1] [0,2,3] fun O C F=>(have J:=(C5 (L:=[NG o h]) (R:=[q.seg 74 (mm Ks<|h.p.es.map Prod.snd),Q38 o p7,Q37 la p5]) l.at' (fun _ I=>by cases I)<|Mem.pick [1,0,2,3] An C rfl);(Ao6 o h _ ((Hh la.pr la.s la.d la.xs).toNat) (F0 la.pr la.s la.d la.xs:Int) (Gd la.pr la.s la.d la.xs:Int) (Iz la.pr la.s la.d la.xs:Int) (I0 la.pr la.s la.d la.xs) (la.tt.toNat:Int) (la.pr.toNat:Int) (la.id:Int) (la.s:Int) (la.d:Int) la.a la.xs.length la.cap (Hk la.pr la.s la.d la.xs) (Je la.pr la.s la.d la.xs) (bgA la.pr la.s la.d la.xs) ((((mT la.xs 0).toNat:Nat):Int) !=0) (Ww la.pr la.s la.d la.xs) (H1 la.pr) (ak:Int) (PkV×List Blk) (fun _ _=>True) (fun _ x=>x.1) (rwY la.pr la.s la.d la.xs) (fun _ x=>x.2) _ P F Ae (by rw[bc];exact ai) (UInt8.toNat_lt _) (U8 ..) (L8 l.s l.d) (O3 J.1 J.2 l.id l.s l.d D l.cap) (O4 J.1 J.2 l.id l.s l.d D l.cap) (O5 J.1 J.2 l.id l.s l.d D l.cap) (O6 J.1 J.2 D l.cap)<|O7 J.1 J.2 l.id l.s l.d D l.cap))) fun bw aa=>?_
     obtain⟨B,bx,cq,ab⟩:=bw
     dsimp only at aa
     obtain⟨av,b5,b6,aw⟩:=aa
     refine Bv (LL':=[NG o B,ab,q.seg 74<|mm Ks<|h.p.es.map Prod.snd,Q38 o p7,Q37 la p5]) rfl<|Ab 4<|Ai<|Ak [0,1,2,3] An rfl ?_
     refine Av<|Ab 1<|Aw rfl (Au [0,3] [1,2] fun O C F=>(U9 o B p7 _ _ av F)) fun E T=>Ab 1 ?_
     refine Ai<|Ak [0,1,3,4] An rfl<|W.s<|Aj [] ?_
     refine Al (bx==0) Aa (fun cy=>?_) fun an=>?_
     ·refine Aj []<|Am rfl<|D3 rfl (Ar<|bV true) rfl
     ·have ax:=an;try simp only[zA]at ax
      refine Ag<|A7<|W.s<|W.s ?_
      have H:B.p.es=h.p.es:=Apt aw (fun I g_=>Afk I g_) (by simpa using an)
      refine Ac<|Ab 5<|Ai ?_
      refine Al ((((h.p.es.map Prod.snd).length:Nat):Int) !=((B.p.es.map Prod.snd).length:Int)) Aa (fun ao=>?_) fun bz=>?_
      ·have ay:=ao;try simp only[zA]at ay
       (exfalso;have U:=ao;rw[H]at U;simp at U)
      ·have az:=bz;try simp only[zA]at az
       refine Ag<|A7<|W.s<|Aj []<|W.block ?_
       refine Ds [10,12,69,70] (fun(i:Nat)=>[sL q.a ((h.p.es.map Prod.snd).length) q.cap,sL E.a ((B.p.es.map Prod.snd).length) E.cap,nV .i64<|(h.p.es.map Prod.snd).length,nV .i64 i]) (fun(i:Nat)=>i≤(h.p.es.map Prod.snd).length) (fun(i:Nat)=>[E.seg 74 (mm Ks<|B.p.es.map Prod.snd),NG o B,ab,q.seg 74 (mm Ks<|h.p.es.map Prod.snd)]) (fun(i:Nat)=>(h.p.es.map Prod.snd).length-i) 0 Aa (Nat.zero_le _) (by rfl) fun i c0 c1 a0 a1=>?_
       have hi:=a0
       have br:(B.p.es.map Prod.snd).length=(h.p.es.map Prod.snd).length:=by rw[H]
       have bs:=H0 P.ok P.a
       have au:(h.p.es.map Prod.snd).length=h.p.es.length:=List.length_map ..
       refine Aj []<|W.s ?_
       refine Al (decide<|((i:Nat):Int)<((h.p.es.map Prod.snd).length:Int)) Aa (fun b0=>?_) fun c3=>?_
       ·have a2:=b0;try simp only[zA]at a2
        refine Ag<|A7<|W.s<|W.block<|Aj [] ?_
        refine W.s<|C6 [(0,true),(1,true),(2,true),(3,true),(4,true),(5,false),(6,false),(7,false),(8,false)] [0,1,2,3,4]<|B1 2<|Bi (v:=pL<|some<|Cv q.a<|i*13) rfl (Aq (k:=.i64) (a:=q.a) (len:=(h.p.es.map Prod.snd).length) (cap:=q.cap) (i:=(i:Int)) (sz:=13) rfl Aa Aa runUnderlying68 sizeOf74 Ae Ae<|by rw[D1 (C1 N Ae)];rfl)<|Bi (v:=aV<|N0<|(h.p.es.map Prod.snd).getD i Hy) rfl (Ys.ldN (a:=Cv q.a<|i*13) (vs:=(N0<|(h.p.es.map Prod.snd).getD i Hy)) rfl Aa isAgg74 sizeOf74 rfl fun O I=>(FS.at (i:=3) (t:=74) I rfl<|Ah N<|Lx _).ldN<|Di (g:=Ks) (sz:=13) (fun _=>rfl) Hy (xs:=h.p.es.map Prod.snd) (k:=i) Ae) ?_
        refine Bq 2 []<|Fk (v:=pL<|some<|Cv E.a<|i*13) rfl (Aq (k:=.i64) (a:=E.a) (len:=(B.p.es.map Prod.snd).length) (cap:=E.cap) (i:=(i:Int)) (sz:=13) rfl Aa Aa runUnderlying68 sizeOf74 Ae Ae<|by rw[D1 (C1 T Ae)];rfl)<|Fk (v:=aV<|N0<|(B.p.es.map Prod.snd).getD i Hy) rfl (Ys.ldN (a:=Cv E.a<|i*13) (vs:=(N0<|(B.p.es.map Prod.snd).getD i Hy)) rfl Aa isAgg74 sizeOf74 rfl fun O I=>(FS.at (i:=0) (t:=74) I rfl<|Ah T<|Lx _).ldN<|Di (g:=Ks) (sz:=13) (fun _=>rfl) Hy (xs:=B.p.es.map Prod.snd) (k:=i) Ae)<|Fk (v:=bV<|!(Cr (N0<|(h.p.es.map Prod.snd).getD i Hy)<|N0<|(B.p.es.map Prod.snd).getD i Hy)) rfl (Ab9 (ls:=[.int .u8,.int .u32,.int .u32,.int .u16,.int .u16,.int .u16,.int .u64,.bool,.bool,.bool,.bool,.bool,.bool]) (cs:=(N0<|(h.p.es.map Prod.snd).getD i Hy)) (cs':=(N0<|(B.p.es.map Prod.snd).getD i Hy)) (b:=Cr (N0<|(h.p.es.map Prod.snd).getD i Hy)<|N0<|(B.p.es.map Prod.snd).getD i Hy) rfl Aa Aa Aa Aa Aa ⟨⟨_,rfl⟩,⟨_,rfl⟩,⟨_,rfl⟩,⟨_,rfl⟩,⟨_,rfl⟩,⟨_,rfl⟩,⟨_,rfl⟩,⟨_,rfl⟩,⟨_,rfl⟩,⟨_,rfl⟩,⟨_,rfl⟩,⟨_,rfl⟩,⟨_,rfl⟩,trivial⟩ ⟨⟨_,rfl⟩,⟨_,rfl⟩,⟨_,rfl⟩,⟨_,rfl⟩,⟨_,rfl⟩,⟨_,rfl⟩,⟨_,rfl⟩,⟨_,rfl⟩,⟨_,rfl⟩,⟨_,rfl⟩,⟨_,rfl⟩,⟨_,rfl⟩,⟨_,rfl⟩,trivial⟩ rfl)<|Ee ?_
        refine A7 ?_
        refine Al (!(Cr (N0<|(h.p.es.map Prod.snd).getD i Hy)<|N0<|(B.p.es.map Prod.snd).getD i Hy)) Aa (fun b1=>?_) fun c4=>?_
        ·(exfalso;have U:=b1;rw[H]at U;simp[Cr,Ms]at U)
        ·refine Ag<|A7<|Ac<|Bz (((i+1):Nat):Int) (i:Int) 1<|Ab 1 ?_
         refine Ax ?_
         refine fun O I=>a1 (i+1) _ O Ae Ae ?_ I
         kernel_rfl
       ·refine Cp<|A7<|Ak [1,2] An rfl<|Aj []<|Am rfl<|D3 rfl (Ar<|bV true) rfl
end Go.Proofs.YtmonlaoaengfdaaGreatDoor.Oct
