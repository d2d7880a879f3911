import Derived.Test.YtmonlaoaengfdaaGreatDoorM16
import Derived.Test.YtmonlaoaengfdaaGreatDoorM11
import Derived.Test.YtmonlaoaengfdaaGreatDoorM9
import Derived.Test.YtmonlaoaengfdaaGreatDoorM10
set_option linter.unusedVariables false
set_option linter.unusedSimpArgs false
set_option maxRecDepth 20000
namespace Go.Proofs.YtmonlaoaengfdaaGreatDoor.Oct
open Go.RowKit Base Tryz
attribute [local irreducible] Ys Yc Ht HtS HtIn Wl Wd W Mem pf Ez Wa Wo KW
open Conf (Fwd fwv)
def M6(e:SesE):List Value:=[Value.int .u8 e.pr,Value.int .u32 e.src,Value.int .u32 e.dst,Value.int .u16 e.frm,Value.int .u16 e.dto,Value.int .u16 e.ext,Value.int .u64 e.ends,Value.bool e.lan,Value.bool e.s0,Value.bool e.s1,Value.bool e.s2,Value.bool e.s3,Value.bool e.s4]
theorem Aje(e:SesE):(M6 e).length=13:=rfl
theorem Ajf(e:SesE): ∀v∈M6 e,v.oneCell'=true:=by simp[M6,Value.oneCell']
theorem N7(xs:List SesE):(mm M6 xs).length=xs.length*13:=Ch Aje xs
abbrev Q32(e:SesE):List Value:=(seL e)
theorem Ajg(out:List SesE)(c:FS)(d:Nat)(M:List Nat)(e:SesE)(w:World)(x:Mem w M [c.seg 74 (mm M6 out),[cb d [sL c.a out.length c.cap] 68]] w)(o:c.ok 13 out.length)(A:out.length≤100000):Calls prog 23 #[aV (seL e),pV d 0] w (Bn w (fun f:FS=>f.ok 13 (out++[e]).length) (fun _=>.bool true) M (fun f=>[f.seg 74 (mm M6 (out++[e])),[cb d [sL f.a ((out++[e]).length) f.cap] 68]])):=by
 refine Ap (M:=M) (LL:=[c.seg 74 (mm M6 out),[cb d [sL c.a out.length c.cap] 68]]) (n:=8) func23 rfl rfl A7 (x)<|W.s ?_
 refine Ac<|Af rfl (Bx (Q32 e) rfl) fun B=>?_
 refine Ab 1<|Ai<|Av ?_
 refine A5 2 [(2,0),(0,0)]<|Af rfl (Bj (mk:=fun C=>.slice (some ⟨C,0,none⟩) 1 1) (t:=74) (cs:=(Q32 e)) rfl fun _=>kr) fun h=>?_
 refine Aw rfl (HtS.append (eu:=74) (xv:=Value.slice (some ⟨h,0,none⟩) 1 1) (i:=2) (g:=c) (e:=74) (ii:=(prog.info? 74).getD default) (z:=aV [iV .u8 0,iV .u32 0,iV .u32 0,iV .u16 0,iV .u16 0,iV .u16 0,iV .u64 0,bV false,bV false,bV false,bV false,bV false,bV false]) (sz:=13) (bytes:=40) (nn:=out.length) (m:=1) (k:=(out++[e]).length) (xs:=mm M6 out) (news:=mm M6 [e]) (cs':=mm M6<|out++[e]) (Lo:=fun l=>[[cb h (Q32 e) 74],[cb B (Q32 e) 74],l.seg 74<|mm M6<|out++[e],[cb d [Value.slice c.a out.length c.cap] 68]]) rfl rfl Aa Aa Aa Aa Aa Aa Aa Aa Aa rfl o (N7 _) (fun _=>rfl) (Src.at (a:=some ⟨h,0,none⟩) (by first|rfl|(rw[Ch (g:=M6) (sz:=13) (fun _=>rfl)];done)|(rw[Ch (g:=M6) (sz:=13) (fun _=>rfl)];simp)) fun D E=>(A4 (i:=0) (j:=0) (t:=74) (b:=h) E rfl rfl)) (by first|rfl|(rw[Ch (g:=M6) (sz:=13) (fun _=>rfl)];done)|(rw[Ch (g:=M6) (sz:=13) (fun _=>rfl)];simp)) (Gz Ajf _) Ey Ho Ey (Kn _ _).symm fun _=>rfl) fun l q=>?_
 obtain⟨r,F,G⟩:=q
 refine Af rfl (Bd d 0 3 0 (sV l<|(out++[e]).length) sizeOf68 rfl rfl) fun _=>Ai<|Al [2,3] An rfl<|Aj [] ?_
 refine Am rfl<|D9 rfl (Ar<|bV true) fun D u=>⟨l,r,rfl,(u.pick [0,1] An rfl)⟩
abbrev Q33(k:NK)(b:Nat):List Blk:=[cb b [pL (some ⟨k.nb,0,none⟩)] 35]
abbrev Q34(p2 b:Nat):List Blk:=[cb p2 [Value.func (.func 23) #[] #[pV b 0]] 75]
theorem Afi(k:NK)(s:NS)(O:List SesE)(t:FS)(e l:Nat)(M:List Nat)(w:World)(ok:NOk k s)(u:s.p.xs=s.p.es.map P4)(hl:Mem w M [NG k s,t.seg 74 (mm M6 O),[cb e [sL t.a O.length t.cap] 68],[cb l [pL (some ⟨k.nb,0,none⟩)] 35]] w)(U:t.ok 13 O.length)(hO:O=[]):Calls prog 62 #[Value.func (.func 23) #[] #[pV e 0],pV l 0] w (Bn w (fun E:FS=>E.ok 13 (s.p.es.map Prod.snd).length) (fun _=>.tuple #[]) M (fun E=>[NG k s,E.seg 74 (mm M6 (s.p.es.map Prod.snd)),[cb e [sL E.a ((s.p.es.map Prod.snd).length) E.cap] 68],[cb l [pL (some ⟨k.nb,0,none⟩)] 35]])):=by
 obtain⟨ap,aq,ar,au,av⟩:=NOk.len ok
 refine Ap (M:=M) (LL:=[NG k s,t.seg 74<|mm M6 O,[cb e [sL t.a O.length t.cap] 68],Q33 k l]) (n:=19) func62 rfl rfl A7 (hl)<|W.s ?_
 refine Ac<|Af rfl (E9 (v:=Value.func (.func 23) #[] #[pV e 0]) (cs:=[Value.func (.func 23) #[] #[pV e 0]]) rfl rfl Aa rfl) fun F=>?_
 refine Ai<|Av<|A5 3 [(4,0)] ?_
 refine Ao (Bf (b:=k.nb) (o':=29) (i:=1) (j:=0) (cs:=C3 k s) (v:=pL<|some ⟨k.ts,0,none⟩) rfl Aa isAgg85 rfl rfl<|(Cf rfl An).trans rfl)<|Aw rfl (Au [] [0,1,2,3,4] fun x o G=>(Xf k.ts _)) fun r _=>?_
 refine Ai<|W.block ?_
 refine Jn (σ:=List SesE×FS) (enc:=fun i=>[aV (Kw<|(s.p.xs.getD i dS).1),pL (Cz<|(s.p.xs.getD i dS).2)]) (N:=s.p.xs.length) (Lu:=fun(d:List SesE×FS)=>[Q34 F e,NG k s,d.2.seg 74<|mm M6 d.1,[cb e [sL d.2.a d.1.length d.2.cap] 68],Q33 k l]) (Li:=[[cb r [pL (some ⟨k.ts,0,none⟩)] 85]]) (Lk:=[]) [1,2,3,4,5] [0] [] (O,t) (fun i (d:List SesE×FS)=>d.2.ok 13 d.1.length∧d.1=(s.p.es.take i).map Prod.snd) (fun c_ (d:List SesE×FS)=>False) [10,11] Aa (fun _ _=>rfl) An (by rfl) rfl rfl rfl (fun _=>rfl) (⟨U,(by rw[hO];rfl)⟩) (fun D_ l_ V X o=>(T7 s.p.xs s.gs.a s.gs.cap k.mo k.ts r _ X (Fv (i:=3) o rfl) (NG.xs (i:=3) o rfl ok) D1)) ?_ ?_ ?_
 ·intro D6 l7 az Y i Z aa Mu13 a0 H I ab J
  obtain⟨c,f⟩:=Z
  obtain⟨B,C⟩:=I
  obtain⟨a1,eb,L,P,a2,ad⟩:=Xv u H
  have A:c=(s.p.es.take i).map Prod.snd:=C
  have ai:c.length≤i:=by rw[A,List.length_map,List.length_take];omega
  refine Ac<|Ao (v:=pV eb 0) ((Ys.p (v:=pL<|Cz<|(s.p.xs.getD i dS).2)).conseq<|(by rw[ad];rfl))<|Ay ?_
  refine fun x g=>J _ [Q34 F e,NG k s,f.seg 74<|mm M6 c,[cb e [sV f c.length] 68],Q33 k l] ?_ x g
  refine W.block<|W.s ?_
  refine B3 [(0,true),(1,false),(2,false),(3,false),(4,false),(5,false),(6,false)] [0] (Mem aa Mu13 [dB D6,lB l7 Y,Q34 F e,NG k s,Q33 k l]) Aa Aa Aa rfl Aa (fun _ _ g=>g.drawn _) (fun _ g=>g.pick [0,1,2,3,6] An rfl)<|Wd.mp 4 [(2,0)] [0,1,2,3,6]<|Wd.yc (v:=aV<|seL L) rfl rfl rfl (Ys.yc<|Ys.ldN (a:=⟨eb,0,none⟩) (vs:=(seL L)) rfl Aa isAgg74 sizeOf74 rfl fun x g=>by have x_:=(NG.ent (i:=3) g rfl P).ldN (q:=0) (vs:=(seL L)) (Lz (sz:=13) rfl);rw[Be]at x_;exact x_) (Ee [0,1,2,3,6]) ?_
  obtain⟨D,h⟩: ∃z,c++[L]=z:=⟨_,rfl⟩
  have ak:D.length=c.length+1:=h▸List.length_append
  refine Ca rfl rfl (Au [4,5] [0,1,2,3,6] fun x o G=>(h▸Ajg c f e _ L _ G B Ae)) (.inl Aa) fun ae Q=>Wd.mp 1 [] [2,3,4,5,6]<|Cl<|B4 Aa ?_
  refine Ag ?_
  exact fun x g=>Exists.intro (D,ae)<|And.intro ⟨Q,(by show D=(s.p.es.take<|i+1).map Prod.snd;rw[←h,A,List.take_add_one,P,List.map_append];rfl)⟩<|g.pick [2,3,4,5,0,1,6] An rfl
 ·intro D27 a3 al af R
  obtain⟨c,f⟩:=af
  obtain⟨B,C⟩:=R
  refine Gc (LL':=[[cb r [Value.pointer (some ⟨k.ts,0,none⟩)] 85],Q34 F e,NG k s,f.seg 74<|mm M6 c,[cb e [sV f c.length] 68],Q33 k l,dB D27]) [7,2,3,4,5,6,0] An rfl ?_
  have S:c=(s.p.es.map Prod.snd):=by have z_:=C;rw[u,List.length_map,List.take_length]at z_;exact z_
  show∀x,_→bodyPostM (Cv none) 0 prog Tryz.f62 _ Exit.normal _ x
  exact fun x T=>Fq (T.mark (i:=6) rfl).1 (by have ag:Mem w M [[cb r [Value.pointer (some ⟨k.ts,0,none⟩)] 85],[cb F [Value.func (.func 23) #[] #[pV e 0]] 75],NG k s,f.seg 74<|mm M6 c,[cb e [sV f c.length] 68],[cb l [Value.pointer (some ⟨k.nb,0,none⟩)] 35],[⟨D27,.deferred none⟩]] _:=(T.mark (i:=6) rfl).2;exact Iv rfl ⟨f,(by rw[←S];exact B),rfl,(Mem.cast (LL:=[NG k s,f.seg 74<|mm M6 c,[cb e [sV f c.length] 68],[cb l [Value.pointer (some ⟨k.nb,0,none⟩)] 35]]) (by rw[S];try rfl)<|ag.pick [2,3,4,5] An rfl)⟩)
 ·intro D_ l_ V c_ s_ g;exact g.elim
theorem Am6(c:Nat)(w:World):Calls prog 22 #[pV c 0] w (Bn w (fun _:Nat=>True) (fun b=>.func (.func 62) #[] #[.pointer (some ⟨b,0,none⟩)]) [] (fun b=>[[cb b [.pointer (some ⟨c,0,none⟩)] 35]])):=by
 refine Ap (M:=[]) (LL:=[]) (n:=4) func22 rfl rfl A7 (Mem.refl _)<|W.s ?_
 refine Ac<|Af rfl (E9 (v:=pV c 0) (cs:=[pV c 0]) rfl rfl Aa rfl) fun e=>?_
 refine Ab 1<|Ai<|Aj []<|Am rfl<|D9 rfl (Ar<|Value.func (.func 62) #[] #[pV e 0]) fun f d=>⟨e,trivial,rfl,(d.pick [0] An rfl)⟩
def mpX(a b:Mpg):Bool:=((a.proto==b.proto)&&(a.ext==b.ext))&&((a.host !=b.host)||(a.to !=b.to))
def mpY(fx:List Fwd)(a:Mpg):Bool:=Eb fx a.proto a.ext&&(((C0 fx a.proto a.ext).host !=a.host)||((C0 fx a.proto a.ext).dest !=a.to))
def MOk(fx:List Fwd)(ms:List Mpg):Prop:=(∀q,q<ms.length→ ∀p,p<q→mpX (ms.getD q Ax) (ms.getD p Ax)=false)∧ ∀q,q<ms.length→mpY fx (ms.getD q Ax)=false
theorem MOk.nil{fx:List Fwd}:MOk fx []:=⟨fun q h=>absurd h (Nat.not_lt_zero q),fun q h=>absurd h (Nat.not_lt_zero q)⟩
theorem Afj{a b:Mpg}(h:mpX a b=false)(c:a.proto=b.proto)(d:a.ext=b.ext):a.host=b.host∧a.to=b.to:=by
  unfold mpX at h
  rw[c,d]at h
  simpa using h
theorem MOk.one{fx:List Fwd}{ms:List Mpg}(h:MOk fx ms){a b:Mpg}(o:a∈ms)(r:b∈ms)(f:a.proto=b.proto)(l:a.ext=b.ext):a.host=b.host∧a.to=b.to:=by
  obtain⟨i,c,rfl⟩:=List.getElem_of_mem o
  obtain⟨j,d,rfl⟩:=List.getElem_of_mem r
  have g: ∀q (n:q<ms.length),ms.getD q Ax=ms[q]:=fun q n=>by rw[List.getD_eq_getElem?_getD,List.getElem?_eq_getElem n];rfl
  rcases Nat.lt_trichotomy i j with e|rfl|e
  · have:=h.1 j d i e
    rw[g j d,g i c]at this
    have:=Afj this f.symm l.symm
    exact⟨this.1.symm,this.2.symm⟩
  · exact⟨rfl,rfl⟩
  · have:=h.1 i c j e
    rw[g j d,g i c]at this
    exact Afj this f l
theorem MOk.fw{fx:List Fwd}{ms:List Mpg}(h:MOk fx ms){a:Mpg}(c:a∈ms){p e:Int}(d:a.proto=p)(f:a.ext=e)(g:Eb fx p e=true):(C0 fx p e).host=a.host∧(C0 fx p e).dest=a.to:=by
  subst d;subst f
  obtain⟨i,b,rfl⟩:=List.getElem_of_mem c
  have:=h.2 i b
  rw[List.getD_eq_getElem?_getD,List.getElem?_eq_getElem b]at this
  unfold mpY at this
  rw[show(some ms[i]).getD Ax=ms[i] from rfl,g]at this
  simpa using this
theorem Am7{e:SesE}{m:Mpg}(h:hoM e m=true):m.proto=e.pr∧m.ext=e.ext∧m.host=e.src∧m.to=e.frm:=by
  unfold hoM at h
  simp only[Bool.and_eq_true,beq_iff_eq]at h
  exact⟨h.1.1.1.1,h.1.1.1.2,h.1.1.2,h.1.2⟩
theorem U8{ms:List Mpg}{fx:List Fwd}{e:SesE}(h:Mb ms fx e=true)(b:e.given=false):(∃m∈ms,m.proto=e.pr∧m.ext=e.ext∧m.host=e.src∧m.to=e.frm)∨(Eb fx e.pr e.ext=true∧(C0 fx e.pr e.ext).host=e.src∧(C0 fx e.pr e.ext).dest=e.frm):=by
  unfold Mb at h
  rw[b]at h
  simp only[cond_false,Bool.or_eq_true,Bool.and_eq_true,beq_iff_eq]at h
  rcases h with h|h
  · obtain⟨m,c,d⟩:=List.any_eq_true.1 h
    exact .inl ⟨m,c,Am7 d⟩
  · exact .inr ⟨h.1.1,h.1.2,h.2⟩
theorem Afk{ms:List Mpg}{fx:List Fwd}{e:SesE}(h:Mb ms fx e=true)(b:e.given=false):Ma ms fx e.pr e.ext=true:=by
  unfold Ma
  rcases U8 h b with⟨m,hm,hp,he,_⟩|h
  · rw[List.any_eq_true.2 ⟨m,hm,by unfold Wx;simp[hp,he]⟩];simp
  · rw[h.1];simp
theorem Afl{k:NK}{s:NS}(e:Inv k s)(q:MOk k.fx s.p.ms){x y:Nat×SesE}(r:x∈s.p.es)(t:y∈s.p.es)(f:x.2.pr=y.2.pr)(g:x.2.ext=y.2.ext):x.2.src=y.2.src∧x.2.frm=y.2.frm:=by
  have h:=e.b.rul x r
  have i:=e.b.rul y t
  have j: ∀{u v:SesE},Mb s.p.ms k.fx u=true→u.given=true→Mb s.p.ms k.fx v=true→v.given=false→u.pr=v.pr→u.ext=v.ext→False:=fun {u v} l w A B C D=>by
    have:=Afk A B
    unfold Mb at l
    rw[w]at l
    rw[C,D]at l
    rw[this]at l
    cases l
  cases d:x.2.given with
  |true=>
    cases c:y.2.given with
    |false=>exact(j h d i c f g).elim
    |true=>
      obtain⟨G,n⟩:=Ff.1 (e.a.lsi x r d)
      obtain⟨H,o⟩:=Ff.1 (e.a.lsi y t c)
      have E:=(e.a.lse _ _ n).2.2.2 x r (Eg.2 ⟨d,rfl⟩)
      have F:=(e.a.lse _ _ o).2.2.2 y t (Eg.2 ⟨c,rfl⟩)
      have:=e.a.inj _ _ _ _ n o f (by rw[←E,←F];exact g)
      exact⟨congrArg (·.2.1) this,congrArg (·.2.2) this⟩
  |false=>
    cases c:y.2.given with
    |true=>exact(j i c h d f.symm g.symm).elim
    |false=>
      rcases U8 h d with⟨m,hm1,a1,a2,a3,a4⟩|⟨a1,a3,a4⟩<;>rcases U8 i c with⟨m',hm2,b1,b2,b3,b4⟩|⟨b1,b3,b4⟩
      · have:=q.one hm1 hm2 (by rw[a1,b1,f]) (by rw[a2,b2,g])
        exact⟨by rw[←a3,←b3];exact this.1,by rw[←a4,←b4];exact this.2⟩
      · have:=q.fw hm1 (by rw[a1,f]) (by rw[a2,g]) b1
        exact⟨by rw[←a3,←b3];exact this.1.symm,by rw[←a4,←b4];exact this.2.symm⟩
      · have:=q.fw hm2 (by rw[b1,f]) (by rw[b2,g]) a1
        exact⟨by rw[←a3,←b3];exact this.1,by rw[←a4,←b4];exact this.2⟩
      · rw[f,g]at a3 a4
        exact⟨by rw[←a3,←b3],by rw[←a4,←b4]⟩
def uuX(b:ByteArray)(i:Nat):Bool:=(!(((((((i:Nat):Int)==8)||(((i:Nat):Int)==13))||(((i:Nat):Int)==18))||(((i:Nat):Int)==23))==((D0 b i)==45)))||((!(((((i:Int)==8)||(((i:Nat):Int)==13))||(((i:Nat):Int)==18))||(((i:Nat):Int)==23)))&&(!(((decide ((D0 b i)≥48))&&(decide ((D0 b i)≤57)))||((decide ((D0 b i)≥97))&&(decide ((D0 b i)≤102))))))
def uuR(b:ByteArray):Bool:= !(((b.size:Nat):Int) !=36)&&(List.range 36).all (fun i=> !uuX b i)
theorem Arb{b:ByteArray}(h:(((b.size:Nat):Int) !=36)=true):uuR b=false:=by unfold uuR;rw[h];rfl
theorem Arc{b:ByteArray}{i:Nat}(h:decide (((i:Nat):Int)<36)=true)(c:uuX b i=true):uuR b=false:=by
  unfold uuR;rw[Bool.and_eq_false_iff]
  exact .inr<|List.all_eq_false.2 ⟨i,List.mem_range.2 (by have:=of_decide_eq_true h;omega),by rw[c];decide⟩
theorem Ard{b:ByteArray}{i:Nat}(h:(((b.size:Nat):Int) !=36)=false)(c:decide (((i:Nat):Int)<36)=false)(d: ∀q,q<i→uuX b q=false):uuR b=true:=by
  unfold uuR;rw[h]
  exact List.all_eq_true.2 fun q e=>by rw[d q (by have:=of_decide_eq_false c;have:=List.mem_range.1 e;omega)];rfl
theorem Apz(c:ByteArray)(w:World):Calls prog 61 #[Value.string c] w (Df w (.bool (uuR c))):=by
 refine Ap (M:=[]) (LL:=[]) (n:=63) func61 rfl rfl A7 (Mem.refl _)<|Aj []<|W.s<|Aj [] ?_
 refine Ak (((c.size:Nat):Int) !=36) Aa (fun Y=>?_) fun S=>?_
 ·refine Aj []<|Am rfl<|D7 rfl (Ar<|bV false)<|by exact B2 (Arb Y).symm
 ·have O:=S;try simp only[zA]at O
  refine Ag<|A9<|W.s<|Aj []<|W.block ?_
  refine Dd [0,3] (fun(i:Nat)=>[Value.string c,nV .i64 i]) (fun(i:Nat)=>i≤36∧ ∀q,q<i→uuX c q=false) (fun(i:Nat)=>[]) (fun(i:Nat)=>36-i) 0 Aa ⟨(Nat.zero_le _),(fun q P=>absurd P<|Nat.not_lt_zero q)⟩ (by rfl) fun i Z aa F d=>?_
  obtain⟨hi,T⟩:=F
  refine W.s<|Aj [] ?_
  refine Ak (decide<|((i:Nat):Int)<36) Aa (fun G=>?_) fun Q=>?_
  ·have H:=G;try simp only[zA]at H
   refine Ag<|A9<|W.s<|W.block<|W.s ?_
   refine Ac<|Ab 3<|C1 2 (((i:Nat):Int)==8) (fun _=>Gs.z [])<|Ao (v:=bV<|((i:Int)==8)||(((i:Nat):Int)==13)) (Ce (e:=(i:Int)==8) (b:=(i:Int)==13) rfl Aa Aa Aa)<|Ab 1 ?_
   refine C1 2 (((i:Int)==8)||(((i:Nat):Int)==13)) (fun _=>Gs.z [])<|Ao (v:=bV<|((((i:Nat):Int)==8)||(((i:Nat):Int)==13))||(((i:Nat):Int)==18)) (Ce (e:=(((i:Nat):Int)==8)||(((i:Nat):Int)==13)) (b:=(i:Int)==18) rfl Aa Aa Aa)<|Ab 1<|C1 2 (((((i:Nat):Int)==8)||(((i:Nat):Int)==13))||(((i:Nat):Int)==18)) (fun _=>Gs.z [])<|Ao (v:=bV<|((((i:Int)==8)||(((i:Nat):Int)==13))||(((i:Nat):Int)==18))||(((i:Nat):Int)==23)) (Ce (e:=(((i:Int)==8)||(((i:Nat):Int)==13))||(((i:Nat):Int)==18)) (b:=(i:Int)==23) rfl Aa Aa Aa) ?_
   refine Ab 1<|Ai<|Av ?_
   refine Ab 2<|Ao (v:=iV .u8<|D0 c i) (Hd (s:=c) (i:=(i:Int)) (k:=.i64) rfl Aa Aa runUnderlying9 Ae Ae)<|Ab 2<|Da 4 (decide<|(D0 c i)≥48) (fun I=>by have r:=I;try simp only[zA]at r;exact Gs.m 2 [] (Gs.y (v:=iV .u8<|D0 c i) (Hd (s:=c) (i:=(i:Int)) (k:=.i64) rfl Aa Aa runUnderlying9 Ae Ae)<|Gs.z []))<|Ao (v:=bV<|(decide<|(D0 c i)≥48)&&(decide<|(D0 c i)≤57)) (B9 (e:=decide<|(D0 c i)≥48) (b:=decide<|(D0 c i)≤57) rfl Aa Aa Aa) ?_
   refine Ab 1<|C1 5 ((decide<|(D0 c i)≥48)&&(decide<|(D0 c i)≤57)) (fun J=>by have x:=J;try simp only[zA]at x;exact Gs.m 2 [] (Gs.y (v:=iV .u8<|D0 c i) (Hd (s:=c) (i:=(i:Int)) (k:=.i64) rfl Aa Aa runUnderlying9 Ae Ae)<|Gs.z [])) ?_
   refine Bz (v:=Value.string c) ((!((decide<|(D0 c i)≥48)&&(decide<|(D0 c i)≤57)))&&(decide<|(D0 c i)≥97)) rfl (F7 rfl rfl Aa) rfl (fun U=>?_) ?_
   ·exact Ys.p
   refine Bz (v:=nV .i64 i) ((!((decide<|(D0 c i)≥48)&&(decide<|(D0 c i)≤57)))&&(decide<|(D0 c i)≥97)) rfl (F7 rfl rfl Aa) rfl (fun V=>?_) ?_
   ·exact Ys.p
   refine Bz (v:=iV .u8<|D0 c i) ((!((decide<|(D0 c i)≥48)&&(decide<|(D0 c i)≤57)))&&(decide<|(D0 c i)≥97)) rfl (F7 rfl rfl Aa) rfl (fun f=>?_) ?_
   ·have A:=f;try simp only[zA]at A
    refine Bh (t:=43) (v0:=Value.string c) (lz (g:=(!((decide<|(D0 c i)≥48)&&(decide<|(D0 c i)≤57)))&&(decide<|(D0 c i)≥97)) (u:=undef) f Aa)<|Bh (t:=44) (v0:=nV .i64 i) (lz (g:=(!((decide<|(D0 c i)≥48)&&(decide<|(D0 c i)≤57)))&&(decide<|(D0 c i)≥97)) (u:=undef) f Aa) ?_
    exact Hd (s:=c) (i:=(i:Int)) (k:=.i64) rfl Aa Aa runUnderlying9 Ae Ae
   refine Bz (v:=bV<|decide<|(D0 c i)≤102) ((!((decide<|(D0 c i)≥48)&&(decide<|(D0 c i)≤57)))&&(decide<|(D0 c i)≥97)) rfl (F7 rfl rfl Aa) rfl (fun l=>?_) ?_
   ·have B:=l;try simp only[zA]at B
    refine Bh (t:=45) (v0:=iV .u8<|D0 c i) (lz (g:=(!((decide<|(D0 c i)≥48)&&(decide<|(D0 c i)≤57)))&&(decide<|(D0 c i)≥97)) (u:=undef) l Aa) ?_
    exact Ys.p
   refine C1 1 ((decide<|(D0 c i)≥48)&&(decide<|(D0 c i)≤57)) (fun h=>by have C:=h;try simp only[zA]at C;exact Gs.y (v:=bV<|(decide<|(D0 c i)≥97)&&(decide<|(D0 c i)≤102)) (Bh (t:=42) (v0:=bV<|decide<|(D0 c i)≥97) (lz (g:= !((decide<|(D0 c i)≥48)&&(decide<|(D0 c i)≤57))) (u:=undef) h Aa)<|Bh (t:=46) (v0:=(bif decide ((D0 c i)≥97)then bV (decide<|(D0 c i)≤102)else undef)) (lz2 (g:= !((decide<|(D0 c i)≥48)&&(decide<|(D0 c i)≤57))) h Aa)<|B9 (e:=decide<|(D0 c i)≥97) (b:=decide<|(D0 c i)≤102) rfl Aa Aa Aa) Gs.nil)<|Ao (v:=bV<|((decide<|(D0 c i)≥48)&&(decide<|(D0 c i)≤57))||((decide<|(D0 c i)≥97)&&(decide<|(D0 c i)≤102))) (Ce (e:=(decide<|(D0 c i)≥48)&&(decide<|(D0 c i)≤57)) (b:=(decide<|(D0 c i)≥97)&&(decide<|(D0 c i)≤102)) rfl Aa Aa Aa)<|Ab 1<|Ai ?_
   refine Av<|Ab 3<|Ao (v:=iV .u8<|D0 c i) (Hd (s:=c) (i:=(i:Int)) (k:=.i64) rfl Aa Aa runUnderlying9 Ae Ae)<|Ab 3 ?_
   refine C1 3 (!(((((((i:Nat):Int)==8)||(((i:Nat):Int)==13))||(((i:Nat):Int)==18))||(((i:Nat):Int)==23))==((D0 c i)==45))) (fun _=>Gs.z []) ?_
   refine Bz (v:=bV<|((decide<|(D0 c i)≥48)&&(decide<|(D0 c i)≤57))||((decide<|(D0 c i)≥97)&&(decide<|(D0 c i)≤102))) ((!(!(((((((i:Nat):Int)==8)||(((i:Nat):Int)==13))||(((i:Nat):Int)==18))||(((i:Nat):Int)==23))==((D0 c i)==45))))&& !(((((i:Int)==8)||(((i:Nat):Int)==13))||(((i:Nat):Int)==18))||(((i:Nat):Int)==23))) rfl (F7 rfl rfl Aa) rfl (fun X=>?_) ?_
   ·exact Ys.p
   refine Bz (v:=bV<|!(((decide<|(D0 c i)≥48)&&(decide<|(D0 c i)≤57))||((decide<|(D0 c i)≥97)&&(decide<|(D0 c i)≤102)))) ((!(!(((((((i:Nat):Int)==8)||(((i:Nat):Int)==13))||(((i:Nat):Int)==18))||(((i:Nat):Int)==23))==((D0 c i)==45))))&& !(((((i:Int)==8)||(((i:Nat):Int)==13))||(((i:Nat):Int)==18))||(((i:Nat):Int)==23))) rfl (F7 rfl rfl Aa) rfl (fun o=>?_) ?_
   ·have D:=o;try simp only[zA]at D
    refine Bh (t:=59) (v0:=bV<|((decide<|(D0 c i)≥48)&&(decide<|(D0 c i)≤57))||((decide<|(D0 c i)≥97)&&(decide<|(D0 c i)≤102))) (lz (g:=(!(!(((((((i:Nat):Int)==8)||(((i:Nat):Int)==13))||(((i:Nat):Int)==18))||(((i:Nat):Int)==23))==((D0 c i)==45))))&& !(((((i:Int)==8)||(((i:Nat):Int)==13))||(((i:Nat):Int)==18))||(((i:Nat):Int)==23))) (u:=undef) o Aa) ?_
    exact Ys.p
   refine C1 1 (!(((((((i:Nat):Int)==8)||(((i:Nat):Int)==13))||(((i:Nat):Int)==18))||(((i:Nat):Int)==23))==((D0 c i)==45))) (fun j=>by have E:=j;try simp only[zA]at E;exact Gs.y (v:=bV<|(!(((((i:Int)==8)||(((i:Nat):Int)==13))||(((i:Nat):Int)==18))||(((i:Nat):Int)==23)))&&(!(((decide<|(D0 c i)≥48)&&(decide<|(D0 c i)≤57))||((decide<|(D0 c i)≥97)&&(decide<|(D0 c i)≤102))))) (Bh (t:=58) (v0:=bV<|!(((((i:Int)==8)||(((i:Nat):Int)==13))||(((i:Nat):Int)==18))||(((i:Nat):Int)==23))) (lz (g:= !(!(((((((i:Nat):Int)==8)||(((i:Nat):Int)==13))||(((i:Nat):Int)==18))||(((i:Nat):Int)==23))==((D0 c i)==45)))) (u:=undef) j Aa)<|Bh (t:=60) (v0:=(bif !(((((i:Int)==8)||(((i:Nat):Int)==13))||(((i:Nat):Int)==18))||(((i:Nat):Int)==23))then bV (!(((decide<|(D0 c i)≥48)&&(decide<|(D0 c i)≤57))||((decide<|(D0 c i)≥97)&&(decide<|(D0 c i)≤102))))else undef)) (lz2 (g:= !(!(((((((i:Nat):Int)==8)||(((i:Nat):Int)==13))||(((i:Nat):Int)==18))||(((i:Nat):Int)==23))==((D0 c i)==45)))) j Aa)<|B9 (e:= !(((((i:Int)==8)||(((i:Nat):Int)==13))||(((i:Nat):Int)==18))||(((i:Nat):Int)==23))) (b:= !(((decide<|(D0 c i)≥48)&&(decide<|(D0 c i)≤57))||((decide<|(D0 c i)≥97)&&(decide<|(D0 c i)≤102)))) rfl Aa Aa Aa) Gs.nil)<|Ao (v:=bV<|(!(((((((i:Nat):Int)==8)||(((i:Nat):Int)==13))||(((i:Nat):Int)==18))||(((i:Nat):Int)==23))==((D0 c i)==45)))||((!(((((i:Int)==8)||(((i:Nat):Int)==13))||(((i:Nat):Int)==18))||(((i:Nat):Int)==23)))&&(!(((decide<|(D0 c i)≥48)&&(decide<|(D0 c i)≤57))||((decide<|(D0 c i)≥97)&&(decide<|(D0 c i)≤102)))))) (Ce (e:= !(((((((i:Nat):Int)==8)||(((i:Nat):Int)==13))||(((i:Nat):Int)==18))||(((i:Nat):Int)==23))==((D0 c i)==45))) (b:=(!(((((i:Int)==8)||(((i:Nat):Int)==13))||(((i:Nat):Int)==18))||(((i:Nat):Int)==23)))&&(!(((decide<|(D0 c i)≥48)&&(decide<|(D0 c i)≤57))||((decide<|(D0 c i)≥97)&&(decide<|(D0 c i)≤102))))) rfl Aa Aa Aa)<|Ai ?_
   refine Ak ((!(((((((i:Nat):Int)==8)||(((i:Nat):Int)==13))||(((i:Nat):Int)==18))||(((i:Nat):Int)==23))==((D0 c i)==45)))||((!(((((i:Int)==8)||(((i:Nat):Int)==13))||(((i:Nat):Int)==18))||(((i:Nat):Int)==23)))&&(!(((decide<|(D0 c i)≥48)&&(decide<|(D0 c i)≤57))||((decide<|(D0 c i)≥97)&&(decide<|(D0 c i)≤102)))))) Aa (fun R=>?_) fun L=>?_
   ·refine Aj []<|Am rfl<|D7 rfl (Ar<|bV false)<|by clear d;exact B2 (Arc G R).symm
   ·have N:=L;try simp only[zA]at N
    refine Ag<|A9<|Ac<|Ab 1<|Bw (((i+1):Nat):Int) (i:Int) 1 ?_
    refine Ab 1<|Ay ?_
    refine fun w_ h_=>d (i+1) _ w_ Ae ⟨Ae,(fun q P=>(Nat.lt_succ_iff_lt_or_eq.1 P).elim (T q) fun e_=>by subst e_;exact L)⟩ ?_ h_
    kernel_rfl
  ·refine Cm<|A9<|Aj []<|Am rfl<|D7 rfl (Ar<|bV true)<|by clear d;exact B2 (Ard S Q T).symm
theorem Ap0(a b c:Int)(w:World)(h:0≤a∧a≤4294967295)(d:0≤b∧b≤4294967295):Calls prog 26 #[.int .u32 a,.int .u32 b,.int .i64 c] w (Df w (.bool (R1 a.toNat b.toNat c 32 0))):=by
  obtain⟨n,rfl⟩:=Int.eq_ofNat_of_zero_le h.1
  obtain⟨m,rfl⟩:=Int.eq_ofNat_of_zero_le d.1
  exact Aot n m c w Ae Ae
theorem Ap1(a b:Int)(w:World)(h:0≤a∧a≤4294967295):Calls prog 27 #[.int .u32 a,.int .i64 b] w (Df w (.bool (S1 a.toNat b 32 0 0 true true))):=by
  obtain⟨n,rfl⟩:=Int.eq_ofNat_of_zero_le h.1
  exact Aou n b w Ae
theorem Ap2(c:Conf.Cfg)(a:Int)(w:World)(j:0≤a∧a≤4294967295)(h:0≤c.lan∧c.lan≤4294967295):Calls prog 9 #[aV (cfL c),iV .u32 a] w (Df w (.bool (My c.lan c.bits a))):=by
 refine Ap (M:=[]) (LL:=[]) (n:=23) func9 rfl rfl A7 (Mem.refl _)<|W.s ?_
 refine Ac<|Af rfl (Bx (cfL c) rfl) fun l=>?_
 refine Ab 1<|Ai<|Av ?_
 refine A5 5 [(0,0),(0,0)]<|Cb (v:=bV<|R1 a.toNat c.lan.toNat c.bits 32 0) (A8 fun i f=>(Ap0 a c.lan c.bits _ Pa Pa))<|Ab 1<|Da 4 (R1 a.toNat c.lan.toNat c.bits 32 0) (fun _=>Gs.z [(0,0)])<|Ao (v:=bV<|(R1 a.toNat c.lan.toNat c.bits 32 0)&&(a !=c.lan)) (B9 (e:=R1 a.toNat c.lan.toNat c.bits 32 0) (b:=a !=c.lan) rfl Aa Aa Aa) ?_
 refine Ab 1<|Da 4 ((R1 a.toNat c.lan.toNat c.bits 32 0)&&(a !=c.lan)) (fun g=>by have d:=g;try simp only[zA]at d;exact Gs.m 3 [(0,0)] (Gs.k (v:=bV<|S1 a.toNat c.bits 32 0 0 true true) (A8 fun i f=>(Ap1 a c.bits _ Pa)) Gs.nil))<|Ao (v:=bV<|((R1 a.toNat c.lan.toNat c.bits 32 0)&&(a !=c.lan))&&(S1 a.toNat c.bits 32 0 0 true true)) (B9 (e:=(R1 a.toNat c.lan.toNat c.bits 32 0)&&(a !=c.lan)) (b:=S1 a.toNat c.bits 32 0 0 true true) rfl Aa Aa Aa)<|Ab 1<|Ay ?_
 refine A9<|Al [] An rfl<|Am rfl<|D7 rfl (Ar<|bV<|((R1 a.toNat c.lan.toNat c.bits 32 0)&&(a !=c.lan))&&(S1 a.toNat c.bits 32 0 0 true true)) rfl
theorem Afn{fx:List Fwd}(d: ∀q,q<fx.length→ ∀j,j<q→Conf.isF (fun k=>fx.getD k fz) (fx.getD q fz).proto (fx.getD q fz).port j=false):FxU fx:=fun x f=>by
  obtain⟨i,b,rfl⟩:=List.getElem_of_mem f
  have e:fx.getD i fz=fx[i]:=by rw[List.getD_eq_getElem?_getD,List.getElem?_eq_getElem b];rfl
  have c:=d i b
  simp only[e]at c
  have g:=Ks (q:=fwQ fx[i].proto fx[i].port) fz b (fun j h=>c j h) (by rw[e];unfold fwQ;simp)
  unfold Eb C0
  rw[Sb,g]
  exact⟨rfl,e⟩
abbrev Q35(c:Conf.Cfg)(b:Option Addr)(d e:Nat)(fx:List Fwd):List Blk:=[cb e [iV .u8 c.lm0,iV .u8 c.lm1,iV .u8 c.lm2,iV .u8 c.lm3,iV .u8 c.lm4,iV .u8 c.lm5,iV .u8 c.wm0,iV .u8 c.wm1,iV .u8 c.wm2,iV .u8 c.wm3,iV .u8 c.wm4,iV .u8 c.wm5,iV .u8 c.hm0,iV .u8 c.hm1,iV .u8 c.hm2,iV .u8 c.hm3,iV .u8 c.hm4,iV .u8 c.hm5,iV .u32 c.lan,iV .u32 c.wan,iV .i64 c.bits,iV .i64 c.ms,iV .i64 c.mm,iV .i64 c.mc,iV .i64 c.mu,sL b fx.length d,iV .u32 c.dmz,Value.string c.uu] 32]
abbrev Q36(c:Conf.Cfg)(b:Option Addr)(d:Nat)(fx:List Fwd):List Value:=[iV .u8 c.lm0,iV .u8 c.lm1,iV .u8 c.lm2,iV .u8 c.lm3,iV .u8 c.lm4,iV .u8 c.lm5,iV .u8 c.wm0,iV .u8 c.wm1,iV .u8 c.wm2,iV .u8 c.wm3,iV .u8 c.wm4,iV .u8 c.wm5,iV .u8 c.hm0,iV .u8 c.hm1,iV .u8 c.hm2,iV .u8 c.hm3,iV .u8 c.hm4,iV .u8 c.hm5,iV .u32 c.lan,iV .u32 c.wan,iV .i64 c.bits,iV .i64 c.ms,iV .i64 c.mm,iV .i64 c.mc,iV .i64 c.mu,sL b fx.length d,iV .u32 c.dmz,Value.string c.uu]
set_option maxHeartbeats 1000000 in
theorem Afo(c:Conf.Cfg)(fx:List Fwd)(h:Option Addr)(o:Nat)(w:World)(x:At w h (mm fwv fx))(bo:fx.length≤4611686018427387904)(a3: ∀k,k<fx.length→0≤(fx.getD k fz).host∧(fx.getD k fz).host≤4294967295)(bp:0≤c.lan∧c.lan≤4294967295)(bq:0≤c.wan∧c.wan≤4294967295)(br:0≤c.dmz∧c.dmz≤4294967295):Calls prog 20 #[aV [iV .u8 c.lm0,iV .u8 c.lm1,iV .u8 c.lm2,iV .u8 c.lm3,iV .u8 c.lm4,iV .u8 c.lm5,iV .u8 c.wm0,iV .u8 c.wm1,iV .u8 c.wm2,iV .u8 c.wm3,iV .u8 c.wm4,iV .u8 c.wm5,iV .u8 c.hm0,iV .u8 c.hm1,iV .u8 c.hm2,iV .u8 c.hm3,iV .u8 c.hm4,iV .u8 c.hm5,iV .u32 c.lan,iV .u32 c.wan,iV .i64 c.bits,iV .i64 c.ms,iV .i64 c.mm,iV .i64 c.mc,iV .i64 c.mu,sL h fx.length o,iV .u32 c.dmz,Value.string c.uu]] w (Bn w (fun v:Int=>v=0→fx.length≤32∧(1≤c.ms∧c.ms≤4096)∧FxU fx) (fun v=>.int .i64 v) [] (fun _=>[])):=by
 refine Ap (M:=[]) (LL:=[]) (n:=180) func20 rfl rfl A7 (Mem.refl _)<|W.s ?_
 refine Ac<|Af rfl (Bx (Q36 c h o fx) rfl) fun A=>?_
 refine Ab 1<|Ai<|W.s<|W.s ?_
 refine Ac<|A5 4 [(0,0)]<|C1 3 (decide<|c.bits<8) (fun _=>Gs.z [(0,0)])<|Ao (v:=bV<|(decide<|c.bits<8)||(decide<|c.bits>30)) (Ce (e:=decide<|c.bits<8) (b:=decide<|c.bits>30) rfl Aa Aa Aa)<|Ab 1 ?_
 refine C1 6 ((decide<|c.bits<8)||(decide<|c.bits>30)) (fun a5=>by have al:=a5;try simp only[zA]at al;exact Gs.m 4 [(0,0),(0,0)] (Gs.k (v:=bV<|S1 c.lan.toNat c.bits 32 0 0 true true) (A8 fun l G=>(Ap1 c.lan c.bits _ Pa))<|Gs.z []))<|Ao (v:=bV<|((decide<|c.bits<8)||(decide<|c.bits>30))||(!(S1 c.lan.toNat c.bits 32 0 0 true true))) (Ce (e:=(decide<|c.bits<8)||(decide<|c.bits>30)) (b:= !(S1 c.lan.toNat c.bits 32 0 0 true true)) rfl Aa Aa Aa)<|Ai ?_
 refine Ak (((decide<|c.bits<8)||(decide<|c.bits>30))||(!(S1 c.lan.toNat c.bits 32 0 0 true true))) Aa (fun bs=>?_) fun a6=>?_
 ·refine Aj []<|Am rfl<|D9 rfl (Ar<|iV .i64 40) fun l f=>⟨(40:Int),(fun d=>absurd d An),rfl,(f.pick [] An rfl)⟩
 ·have am:=a6;try simp only[zA]at am
  refine Ag<|A9<|W.s<|Av ?_
  refine A5 4 [(0,0)]<|C1 3 (c.wan==0) (fun _=>Gs.z [(0,0)])<|Ao (v:=bV<|(c.wan==0)||(c.wan==4294967295)) (Ce (e:=c.wan==0) (b:=c.wan==4294967295) rfl Aa Aa Aa)<|Ab 1<|C1 7 ((c.wan==0)||(c.wan==4294967295)) (fun an=>by have Q:=an;try simp only[zA]at Q;exact Gs.m 6 [(0,0),(0,0),(0,0)] (Gs.k (v:=bV<|R1 c.wan.toNat c.lan.toNat c.bits 32 0) (A8 fun l G=>(Ap0 c.wan c.lan c.bits _ Pa Pa)) Gs.nil)) ?_
  refine Ao (v:=bV<|((c.wan==0)||(c.wan==4294967295))||(R1 c.wan.toNat c.lan.toNat c.bits 32 0)) (Ce (e:=(c.wan==0)||(c.wan==4294967295)) (b:=R1 c.wan.toNat c.lan.toNat c.bits 32 0) rfl Aa Aa Aa)<|Ai ?_
  refine Ak (((c.wan==0)||(c.wan==4294967295))||(R1 c.wan.toNat c.lan.toNat c.bits 32 0)) Aa (fun bt=>?_) fun a7=>?_
  ·refine Aj []<|Am rfl<|D9 rfl (Ar<|iV .i64 40) fun l f=>⟨(40:Int),(fun d=>absurd d An),rfl,(f.pick [] An rfl)⟩
  ·have ao:=a7;try simp only[zA]at ao
   refine Ag<|A9<|W.s<|Av ?_
   refine A5 6 [(0,0)]<|C1 5 ((Hw c.lm0 2)==1) (fun _=>Gs.z [(0,0)])<|Ao (v:=bV<|((Hw c.lm0 2)==1)||((Hw c.wm0 2)==1)) (Ce (e:=(Hw c.lm0 2)==1) (b:=(Hw c.wm0 2)==1) rfl Aa Aa Aa)<|Ab 1<|C1 5 (((Hw c.lm0 2)==1)||((Hw c.wm0 2)==1)) (fun _=>Gs.z [(0,0)]) ?_
   refine Ao (v:=bV<|(((Hw c.lm0 2)==1)||((Hw c.wm0 2)==1))||((Hw c.hm0 2)==1)) (Ce (e:=((Hw c.lm0 2)==1)||((Hw c.wm0 2)==1)) (b:=(Hw c.hm0 2)==1) rfl Aa Aa Aa)<|Ai ?_
   refine Ak ((((Hw c.lm0 2)==1)||((Hw c.wm0 2)==1))||((Hw c.hm0 2)==1)) Aa (fun bu=>?_) fun a8=>?_
   ·refine Aj []<|Am rfl<|D9 rfl (Ar<|iV .i64 40) fun l f=>⟨(40:Int),(fun d=>absurd d An),rfl,(f.pick [] An rfl)⟩
   ·have ap:=a8;try simp only[zA]at ap
    refine Ag<|A9<|W.s<|Av ?_
    refine A5 4 [(0,0)]<|C1 3 (decide<|c.ms<1) (fun _=>Gs.z [(0,0)])<|Ao (v:=bV<|(decide<|c.ms<1)||(decide<|c.ms>4096)) (Ce (e:=decide<|c.ms<1) (b:=decide<|c.ms>4096) rfl Aa Aa Aa)<|Ab 1<|C1 3 ((decide<|c.ms<1)||(decide<|c.ms>4096)) (fun _=>Gs.z [(0,0)]) ?_
    refine Ao (v:=bV<|((decide<|c.ms<1)||(decide<|c.ms>4096))||(decide<|c.mm<1)) (Ce (e:=(decide<|c.ms<1)||(decide<|c.ms>4096)) (b:=decide<|c.mm<1) rfl Aa Aa Aa)<|Ab 1<|C1 3 (((decide<|c.ms<1)||(decide<|c.ms>4096))||(decide<|c.mm<1)) (fun _=>Gs.z [(0,0)])<|Ao (v:=bV<|(((decide<|c.ms<1)||(decide<|c.ms>4096))||(decide<|c.mm<1))||(decide<|c.mm>256)) (Ce (e:=((decide<|c.ms<1)||(decide<|c.ms>4096))||(decide<|c.mm<1)) (b:=decide<|c.mm>256) rfl Aa Aa Aa)<|Ab 1 ?_
    refine C1 3 ((((decide<|c.ms<1)||(decide<|c.ms>4096))||(decide<|c.mm<1))||(decide<|c.mm>256)) (fun _=>Gs.z [(0,0)])<|Ao (v:=bV<|((((decide<|c.ms<1)||(decide<|c.ms>4096))||(decide<|c.mm<1))||(decide<|c.mm>256))||(decide<|c.mc<1)) (Ce (e:=(((decide<|c.ms<1)||(decide<|c.ms>4096))||(decide<|c.mm<1))||(decide<|c.mm>256)) (b:=decide<|c.mc<1) rfl Aa Aa Aa)<|Ab 1<|C1 3 (((((decide<|c.ms<1)||(decide<|c.ms>4096))||(decide<|c.mm<1))||(decide<|c.mm>256))||(decide<|c.mc<1)) (fun _=>Gs.z [(0,0)])<|Ao (v:=bV<|(((((decide<|c.ms<1)||(decide<|c.ms>4096))||(decide<|c.mm<1))||(decide<|c.mm>256))||(decide<|c.mc<1))||(decide<|c.mc>32)) (Ce (e:=((((decide<|c.ms<1)||(decide<|c.ms>4096))||(decide<|c.mm<1))||(decide<|c.mm>256))||(decide<|c.mc<1)) (b:=decide<|c.mc>32) rfl Aa Aa Aa) ?_
    refine Ab 1<|C1 3 ((((((decide<|c.ms<1)||(decide<|c.ms>4096))||(decide<|c.mm<1))||(decide<|c.mm>256))||(decide<|c.mc<1))||(decide<|c.mc>32)) (fun _=>Gs.z [(0,0)])<|Ao (v:=bV<|((((((decide<|c.ms<1)||(decide<|c.ms>4096))||(decide<|c.mm<1))||(decide<|c.mm>256))||(decide<|c.mc<1))||(decide<|c.mc>32))||(decide<|c.mu<1)) (Ce (e:=(((((decide<|c.ms<1)||(decide<|c.ms>4096))||(decide<|c.mm<1))||(decide<|c.mm>256))||(decide<|c.mc<1))||(decide<|c.mc>32)) (b:=decide<|c.mu<1) rfl Aa Aa Aa)<|Ab 1<|C1 3 (((((((decide<|c.ms<1)||(decide<|c.ms>4096))||(decide<|c.mm<1))||(decide<|c.mm>256))||(decide<|c.mc<1))||(decide<|c.mc>32))||(decide<|c.mu<1)) (fun _=>Gs.z [(0,0)]) ?_
    refine Ao (v:=bV<|(((((((decide<|c.ms<1)||(decide<|c.ms>4096))||(decide<|c.mm<1))||(decide<|c.mm>256))||(decide<|c.mc<1))||(decide<|c.mc>32))||(decide<|c.mu<1))||(decide<|c.mu>16)) (Ce (e:=((((((decide<|c.ms<1)||(decide<|c.ms>4096))||(decide<|c.mm<1))||(decide<|c.mm>256))||(decide<|c.mc<1))||(decide<|c.mc>32))||(decide<|c.mu<1)) (b:=decide<|c.mu>16) rfl Aa Aa Aa)<|Ai ?_
    refine Ak ((((((((decide<|c.ms<1)||(decide<|c.ms>4096))||(decide<|c.mm<1))||(decide<|c.mm>256))||(decide<|c.mc<1))||(decide<|c.mc>32))||(decide<|c.mu<1))||(decide<|c.mu>16)) Aa (fun bw=>?_) fun aq=>?_
    ·refine Aj []<|Am rfl<|D9 rfl (Ar<|iV .i64 40) fun l f=>⟨(40:Int),(fun d=>absurd d An),rfl,(f.pick [] An rfl)⟩
    ·have ar:=aq;try simp only[zA]at ar
     refine Ag<|A9<|W.s<|Av ?_
     refine A5 5 [(0,0)]<|C1 4 (decide<|((fx.length:Nat):Int)>32) (fun _=>Gs.z [(0,0)]) ?_
     refine Bz (v:=aV<|Q36 c h o fx) ((!(decide<|((fx.length:Nat):Int)>32))&&(c.dmz !=0)) rfl (F7 rfl rfl Aa) rfl (fun bd=>?_) ?_
     ·exact F0 A 0 0 0 (Q36 c h o fx) isAgg32 sizeOf32
     refine Bz (v:=pV A 26) ((!(decide<|((fx.length:Nat):Int)>32))&&(c.dmz !=0)) rfl (F7 rfl rfl Aa) rfl (fun bf=>?_) ?_
     ·exact Ys.p
     refine Bz (v:=iV .u32 c.dmz) ((!(decide<|((fx.length:Nat):Int)>32))&&(c.dmz !=0)) rfl (F7 rfl rfl Aa) rfl (fun L=>?_) ?_
     ·have R:=L;try simp only[zA]at R
      refine Bh (t:=106) (v0:=pV A 26) (lz (g:=(!(decide<|((fx.length:Nat):Int)>32))&&(c.dmz !=0)) (u:=undef) L Aa) ?_
      exact Cn A 26 0 0 isAgg24
     refine Ji (v:=bV<|My c.lan c.bits c.dmz) ((!(decide<|((fx.length:Nat):Int)>32))&&(c.dmz !=0)) rfl (F7 rfl rfl Aa) rfl (fun B=>?_) ?_
     ·have S:=B;try simp only[zA]at S
      refine I0 (t:=105) (v0:=aV<|Q36 c h o fx) (lz (g:=(!(decide<|((fx.length:Nat):Int)>32))&&(c.dmz !=0)) (u:=undef) B Aa)<|I0 (t:=107) (v0:=iV .u32 c.dmz) (lz (g:=(!(decide<|((fx.length:Nat):Int)>32))&&(c.dmz !=0)) (u:=undef) B Aa) ?_
      exact A8 fun l G=>(Ap2 (⟨c.lm0,c.lm1,c.lm2,c.lm3,c.lm4,c.lm5,c.wm0,c.wm1,c.wm2,c.wm3,c.wm4,c.wm5,c.hm0,c.hm1,c.hm2,c.hm3,c.hm4,c.hm5,c.lan,c.wan,c.bits,c.ms,c.mm,c.mc,c.mu,h,fx.length,o,c.dmz,c.uu⟩:Conf.Cfg) c.dmz _ Pa Pa)
     refine Bz (v:=bV<|!(My c.lan c.bits c.dmz)) ((!(decide<|((fx.length:Nat):Int)>32))&&(c.dmz !=0)) rfl (F7 rfl rfl Aa) rfl (fun N=>?_) ?_
     ·have T:=N;try simp only[zA]at T
      refine Bh (t:=108) (v0:=bV<|My c.lan c.bits c.dmz) (lz (g:=(!(decide<|((fx.length:Nat):Int)>32))&&(c.dmz !=0)) (u:=undef) N Aa) ?_
      exact Ys.p
     refine C1 1 (decide<|((fx.length:Nat):Int)>32) (fun C=>by have U:=C;try simp only[zA]at U;exact Gs.y (v:=bV<|(c.dmz !=0)&&(!(My c.lan c.bits c.dmz))) (Bh (t:=104) (v0:=bV<|c.dmz !=0) (lz (g:= !(decide<|((fx.length:Nat):Int)>32)) (u:=undef) C Aa)<|Bh (t:=109) (v0:=(bif c.dmz !=0 then bV (!(My c.lan c.bits c.dmz))else undef)) (lz2 (g:= !(decide<|((fx.length:Nat):Int)>32)) C Aa)<|B9 (e:=c.dmz !=0) (b:= !(My c.lan c.bits c.dmz)) rfl Aa Aa Aa) Gs.nil)<|Ao (v:=bV<|(decide<|((fx.length:Nat):Int)>32)||((c.dmz !=0)&&(!(My c.lan c.bits c.dmz)))) (Ce (e:=decide<|((fx.length:Nat):Int)>32) (b:=(c.dmz !=0)&&(!(My c.lan c.bits c.dmz))) rfl Aa Aa Aa)<|Ab 1<|C1 4 ((decide<|((fx.length:Nat):Int)>32)||((c.dmz !=0)&&(!(My c.lan c.bits c.dmz)))) (fun _=>Gs.m 2 [(0,0)]<|Gs.k (v:=bV<|uuR c.uu) (A8 fun l G=>(Apz c.uu _))<|Gs.z [])<|Ao (v:=bV<|((decide<|((fx.length:Nat):Int)>32)||((c.dmz !=0)&&(!(My c.lan c.bits c.dmz))))||(!(uuR c.uu))) (Ce (e:=(decide<|((fx.length:Nat):Int)>32)||((c.dmz !=0)&&(!(My c.lan c.bits c.dmz)))) (b:= !(uuR c.uu)) rfl Aa Aa Aa) ?_
     refine Ai ?_
     refine Ak (((decide<|((fx.length:Nat):Int)>32)||((c.dmz !=0)&&(!(My c.lan c.bits c.dmz))))||(!(uuR c.uu))) Aa (fun bx=>?_) fun au=>?_
     ·refine Aj []<|Am rfl<|D9 rfl (Ar<|iV .i64 40) fun l f=>⟨(40:Int),(fun d=>absurd d An),rfl,(f.pick [] An rfl)⟩
     ·have av:=au;try simp only[zA]at av
      refine Ag<|A9<|W.s<|Aj []<|W.block ?_
      refine Dd [1,3] (fun(i:Nat)=>[pV A 0,nV .i64 i]) (fun(i:Nat)=>i≤fx.length∧ ∀q,q<i→ ∀j,j<q→Conf.isF (fun k=>fx.getD k fz) (fx.getD q fz).proto (fx.getD q fz).port j=false) (fun(i:Nat)=>[Q35 c h o A fx]) (fun(i:Nat)=>fx.length-i) 0 Aa ⟨(Nat.zero_le _),(fun q O=>absurd O<|Nat.not_lt_zero q)⟩ (by rfl) fun i bg bh V X=>?_
      obtain⟨hi,hu⟩:=V
      refine W.s<|Aj [(0,0)] ?_
      refine Ak (decide<|((i:Nat):Int)<(fx.length:Int)) Aa (fun aw=>?_) fun ax=>?_
      ·have Y:=aw;try simp only[zA]at Y
       refine Ag<|A9<|W.s<|W.block<|W.s ?_
       refine Ac<|A5 3 [(0,0)]<|Ao (v:=pL<|some<|Cs h<|i*4) (Bb fun l d=>Aq (k:=.i64) (a:=h) (len:=fx.length) (cap:=o) (i:=(i:Int)) (sz:=4) rfl Aa Aa runUnderlying30 sizeOf65 Ae Ae<|(x.mem0 d).here Tq)<|Ao (v:=aV<|L8<|fx.getD i fz) (Ys.ldN (a:=Cs h<|i*4) (vs:=(L8<|fx.getD i fz)) rfl Aa isAgg65 sizeOf65 rfl fun l d=>(x.mem0 d).ldN<|Db (g:=fwv) (sz:=4) (fun _=>rfl) fz (xs:=fx) (k:=i) Ae)<|Af rfl (Ba zeroValue65) fun F=>?_
       refine Af rfl (A0 F 0 0 0 (L8<|fx.getD i fz) sizeOf65 rfl rfl) fun _=>Ai<|W.s<|W.s ?_
       refine Ac<|A5 4 [(0,0)]<|Da 3 (((fx.getD i fz).proto) !=6) (fun _=>Gs.z [(0,0)])<|Ao (v:=bV<|(((fx.getD i fz).proto) !=6)&&(((fx.getD i fz).proto) !=17)) (B9 (e:=((fx.getD i fz).proto) !=6) (b:=((fx.getD i fz).proto) !=17) rfl Aa Aa Aa)<|Ab 1 ?_
       refine C1 3 ((((fx.getD i fz).proto) !=6)&&(((fx.getD i fz).proto) !=17)) (fun _=>Gs.z [(0,0)])<|Ao (v:=bV<|((((fx.getD i fz).proto) !=6)&&(((fx.getD i fz).proto) !=17))||(((fx.getD i fz).port)==0)) (Ce (e:=(((fx.getD i fz).proto) !=6)&&(((fx.getD i fz).proto) !=17)) (b:=((fx.getD i fz).port)==0) rfl Aa Aa Aa)<|Ab 1<|C1 3 (((((fx.getD i fz).proto) !=6)&&(((fx.getD i fz).proto) !=17))||(((fx.getD i fz).port)==0)) (fun _=>Gs.z [(0,0)])<|Ao (v:=bV<|(((((fx.getD i fz).proto) !=6)&&(((fx.getD i fz).proto) !=17))||(((fx.getD i fz).port)==0))||(((fx.getD i fz).dest)==0)) (Ce (e:=((((fx.getD i fz).proto) !=6)&&(((fx.getD i fz).proto) !=17))||(((fx.getD i fz).port)==0)) (b:=((fx.getD i fz).dest)==0) rfl Aa Aa Aa) ?_
       refine Ab 1<|C1 5 ((((((fx.getD i fz).proto) !=6)&&(((fx.getD i fz).proto) !=17))||(((fx.getD i fz).port)==0))||(((fx.getD i fz).dest)==0)) (fun Z=>by have H:=Z;try simp only[zA]at H;exact Gs.m 3 [(1,0),(0,0)] (Gs.k (v:=bV<|My c.lan c.bits<|(fx.getD i fz).host) (A8 fun l G=>(Ap2 (⟨c.lm0,c.lm1,c.lm2,c.lm3,c.lm4,c.lm5,c.wm0,c.wm1,c.wm2,c.wm3,c.wm4,c.wm5,c.hm0,c.hm1,c.hm2,c.hm3,c.hm4,c.hm5,c.lan,c.wan,c.bits,c.ms,c.mm,c.mc,c.mu,h,fx.length,o,c.dmz,c.uu⟩:Conf.Cfg) ((fx.getD i fz).host) _ (a3 i Ae) Pa))<|Gs.z []))<|Ao (v:=bV<|((((((fx.getD i fz).proto) !=6)&&(((fx.getD i fz).proto) !=17))||(((fx.getD i fz).port)==0))||(((fx.getD i fz).dest)==0))||(!(My c.lan c.bits<|(fx.getD i fz).host))) (Ce (e:=(((((fx.getD i fz).proto) !=6)&&(((fx.getD i fz).proto) !=17))||(((fx.getD i fz).port)==0))||(((fx.getD i fz).dest)==0)) (b:= !(My c.lan c.bits<|(fx.getD i fz).host)) rfl Aa Aa Aa)<|Ai ?_
       refine Ak (((((((fx.getD i fz).proto) !=6)&&(((fx.getD i fz).proto) !=17))||(((fx.getD i fz).port)==0))||(((fx.getD i fz).dest)==0))||(!(My c.lan c.bits<|(fx.getD i fz).host))) Aa (fun bj=>?_) fun ay=>?_
       ·refine Aj []<|Am rfl<|D9 rfl (Ar<|iV .i64 40) fun l f=>⟨(40:Int),(fun d=>absurd d An),rfl,(f.pick [] An rfl)⟩
       ·have aa:=ay;try simp only[zA]at aa
        refine Ag<|A9<|Aj []<|W.block<|Dd [1,3,4,5,134,135,136,139,140,141,144,145,146,149,150,151,152,153] (fun(j:Nat)=>[pV A 0,nV .i64 i,pV F 0,nV .i64 j,(bif ((fx.getD i fz).proto) !=6 then pV F 0 else undef),(bif ((fx.getD i fz).proto) !=6 then iV .u8 ((fx.getD i fz).proto)else undef),(bif ((fx.getD i fz).proto) !=6 then bV (((fx.getD i fz).proto) !=17)else undef),(bif !((((fx.getD i fz).proto) !=6)&&(((fx.getD i fz).proto) !=17))then pV F 1 else undef),(bif !((((fx.getD i fz).proto) !=6)&&(((fx.getD i fz).proto) !=17))then iV .u16 ((fx.getD i fz).port)else undef),(bif !((((fx.getD i fz).proto) !=6)&&(((fx.getD i fz).proto) !=17))then bV (((fx.getD i fz).port)==0)else undef),(bif !(((((fx.getD i fz).proto) !=6)&&(((fx.getD i fz).proto) !=17))||(((fx.getD i fz).port)==0))then pV F 2 else undef),(bif !(((((fx.getD i fz).proto) !=6)&&(((fx.getD i fz).proto) !=17))||(((fx.getD i fz).port)==0))then iV .u16 ((fx.getD i fz).dest)else undef),(bif !(((((fx.getD i fz).proto) !=6)&&(((fx.getD i fz).proto) !=17))||(((fx.getD i fz).port)==0))then bV (((fx.getD i fz).dest)==0)else undef),(bif !((((((fx.getD i fz).proto) !=6)&&(((fx.getD i fz).proto) !=17))||(((fx.getD i fz).port)==0))||(((fx.getD i fz).dest)==0))then aV (Q36 c h o fx)else undef),(bif !((((((fx.getD i fz).proto) !=6)&&(((fx.getD i fz).proto) !=17))||(((fx.getD i fz).port)==0))||(((fx.getD i fz).dest)==0))then pV F 3 else undef),(bif !((((((fx.getD i fz).proto) !=6)&&(((fx.getD i fz).proto) !=17))||(((fx.getD i fz).port)==0))||(((fx.getD i fz).dest)==0))then iV .u32 ((fx.getD i fz).host)else undef),(bif !((((((fx.getD i fz).proto) !=6)&&(((fx.getD i fz).proto) !=17))||(((fx.getD i fz).port)==0))||(((fx.getD i fz).dest)==0))then bV (My c.lan c.bits<|(fx.getD i fz).host)else undef),(bif !((((((fx.getD i fz).proto) !=6)&&(((fx.getD i fz).proto) !=17))||(((fx.getD i fz).port)==0))||(((fx.getD i fz).dest)==0))then bV (!(My c.lan c.bits<|(fx.getD i fz).host))else undef)]) (fun(j:Nat)=>j≤i∧ ∀q,q<j→Conf.isF (fun k=>fx.getD k fz) (fx.getD i fz).proto (fx.getD i fz).port q=false) (fun(j:Nat)=>[[cb F (L8<|fx.getD i fz) 65],Q35 c h o A fx]) (fun(j:Nat)=>i-j) 0 Aa ⟨(Nat.zero_le _),(fun q O=>absurd O<|Nat.not_lt_zero q)⟩ (by rfl) fun j bk bl ab ad=>?_
        obtain⟨hj,hv⟩:=ab
        refine W.s<|Aj [] ?_
        refine Ak (decide<|((j:Nat):Int)<(i:Int)) Aa (fun az=>?_) fun a0=>?_
        ·have ae:=az;try simp only[zA]at ae
         refine Ag<|A9<|W.s<|W.block<|W.s ?_
         refine C5 [(0,true),(1,true),(2,true),(3,true),(4,true),(5,true),(6,false),(7,false),(8,false),(9,false),(10,true),(11,true),(12,true),(13,true),(14,true),(15,true),(16,false),(17,false),(18,false),(19,false)] [0,1,2,3,4,5,10,11,12,13,14,15]<|Dh 3 [(1,0)]<|Bm (v:=pL<|some<|Cs h<|j*4) rfl (Bb fun l d=>Aq (k:=.i64) (a:=h) (len:=fx.length) (cap:=o) (i:=(j:Int)) (sz:=4) rfl Aa Aa runUnderlying30 sizeOf65 Ae Ae<|(x.mem0 d).here Tq)<|B5 1<|Bm (v:=iV .u8<|(fx.getD j fz).proto) rfl (Ys.ld (a:=Cs h<|j*4) rfl Aa isAgg5 fun l d=>(x.mem0 d).ld<|Ki (g:=fwv) (sz:=4) (fun _=>rfl) fz (xs:=fx) (k:=j) Ae 0 rfl) ?_
         refine Bs 4 [(0,0)] ?_
         refine Bg (v:=pV A 25) (((fx.getD j fz).proto)==((fx.getD i fz).proto)) rfl (Bv rfl Aa) rfl (fun a9=>?_) ?_
         ·exact Ys.p
         refine Bg (v:=sL h fx.length o) (((fx.getD j fz).proto)==((fx.getD i fz).proto)) rfl (Bv rfl Aa) rfl (fun af=>?_) ?_
         ·refine Bh (t:=170) (v0:=pV A 25) (lz (g:=((fx.getD j fz).proto)==((fx.getD i fz).proto)) (u:=undef) af Aa) ?_
          exact Cn A 25 1 0 isAgg30
         refine Bg (v:=nV .i64 j) (((fx.getD j fz).proto)==((fx.getD i fz).proto)) rfl (Bv rfl Aa) rfl (fun ba=>?_) ?_
         ·exact Ys.p
         refine Bg (v:=pL<|some<|Cs h<|j*4) (((fx.getD j fz).proto)==((fx.getD i fz).proto)) rfl (Bv rfl Aa) rfl (fun r=>?_) ?_
         ·have I:=r;try simp only[zA]at I
          refine Bh (t:=171) (v0:=sL h fx.length o) (lz (g:=((fx.getD j fz).proto)==((fx.getD i fz).proto)) (u:=undef) r Aa)<|Bh (t:=172) (v0:=nV .i64 j) (lz (g:=((fx.getD j fz).proto)==((fx.getD i fz).proto)) (u:=undef) r Aa) ?_
          exact Bb fun l d=>Aq (k:=.i64) (a:=h) (len:=fx.length) (cap:=o) (i:=(j:Int)) (sz:=4) rfl Aa Aa runUnderlying30 sizeOf65 Ae Ae<|(x.mem0 d).here Tq
         refine Bg (v:=pL<|some<|(Cs h<|j*4).add 1) (((fx.getD j fz).proto)==((fx.getD i fz).proto)) rfl (Bv rfl Aa) rfl (fun ag=>?_) ?_
         ·refine Bh (t:=173) (v0:=pL<|some<|Cs h<|j*4) (lz (g:=((fx.getD j fz).proto)==((fx.getD i fz).proto)) (u:=undef) ag Aa) ?_
          exact Ys.p
         refine Bg (v:=iV .u16<|(fx.getD j fz).port) (((fx.getD j fz).proto)==((fx.getD i fz).proto)) rfl (Bv rfl Aa) rfl (fun D=>?_) ?_
         ·have J:=D;try simp only[zA]at J
          refine Bh (t:=174) (v0:=pL<|some<|(Cs h<|j*4).add 1) (lz (g:=((fx.getD j fz).proto)==((fx.getD i fz).proto)) (u:=undef) D Aa) ?_
          exact Ys.ld (a:=(Cs h<|j*4).add 1) rfl Aa isAgg22 fun l d=>(x.mem0 d).ldF<|Ki (g:=fwv) (sz:=4) (fun _=>rfl) fz (xs:=fx) (k:=j) Ae 1 rfl
         refine Bp (v:=pV F 1) (((fx.getD j fz).proto)==((fx.getD i fz).proto)) rfl (Bv rfl Aa) rfl (fun bb=>?_) (.inr fun _ d=>d) ?_
         ·refine Ys.yc ?_
          exact Ys.p
         refine Bp (v:=iV .u16<|(fx.getD i fz).port) (((fx.getD j fz).proto)==((fx.getD i fz).proto)) rfl (Bv rfl Aa) rfl (fun ah=>?_) (.inr fun _ d=>d) ?_
         ·refine Ys.yc<|Bh (t:=176) (v0:=pV F 1) (lz (g:=((fx.getD j fz).proto)==((fx.getD i fz).proto)) (u:=undef) ah Aa) ?_
          exact Cn F 1 0 0 isAgg22
         refine Bp (v:=bV<|((fx.getD j fz).port)==((fx.getD i fz).port)) (((fx.getD j fz).proto)==((fx.getD i fz).proto)) rfl (Bv rfl Aa) rfl (fun E=>?_) (.inr fun _ d=>d) ?_
         ·refine Ys.yc<|Bh (t:=175) (v0:=iV .u16<|(fx.getD j fz).port) (lz (g:=((fx.getD j fz).proto)==((fx.getD i fz).proto)) (u:=undef) E Aa)<|Bh (t:=177) (v0:=iV .u16<|(fx.getD i fz).port) (lz (g:=((fx.getD j fz).proto)==((fx.getD i fz).proto)) (u:=undef) E Aa) ?_
          exact Ys.p
         refine Gg (v:=bV<|(((fx.getD j fz).proto)==((fx.getD i fz).proto))&&(((fx.getD j fz).port)==((fx.getD i fz).port))) rfl (B9 (e:=((fx.getD j fz).proto)==((fx.getD i fz).proto)) (b:=((fx.getD j fz).port)==((fx.getD i fz).port)) rfl Aa Aa Aa)<|Cl ?_
         refine Ak ((((fx.getD j fz).proto)==((fx.getD i fz).proto))&&(((fx.getD j fz).port)==((fx.getD i fz).port))) Aa (fun bn=>?_) fun P=>?_
         ·refine Aj []<|Am rfl<|D9 rfl (Ar<|iV .i64 40) fun l f=>⟨(40:Int),(fun d=>absurd d An),rfl,(f.pick [] An rfl)⟩
         ·have ai:=P;try simp only[zA]at ai
          refine Ag<|A9<|Ac<|Ab 1<|Bw (((j+1):Nat):Int) (j:Int) 1 ?_
          refine Ab 1<|Ay ?_
          refine fun l d=>ad (j+1) _ l Ae ⟨Ae,(fun q O=>(Nat.lt_succ_iff_lt_or_eq.1 O).elim (hv q) fun e_=>by subst e_;exact P)⟩ ?_ d
          kernel_rfl
        ·have aj:=a0;try simp only[zA]at aj
         refine Cm<|A9<|Ac<|Ab 1<|Bw (((i+1):Nat):Int) (i:Int) 1 ?_
         refine Ab 1<|Ay ?_
         refine fun l d=>X (i+1) _ l Ae ⟨Ae,(fun q O=>(Nat.lt_succ_iff_lt_or_eq.1 O).elim (hu q) fun e_=>by subst e_;exact fun j_ b0=>hv j_ Ae)⟩ ?_<|d.pick [1] An rfl
         kernel_rfl
      ·have ak:=ax;try simp only[zA]at ak
       refine Cm<|A9<|Al [] An rfl<|Aj []<|Am rfl ?_
       have a1:=aq
       simp only[Bool.or_eq_false_iff,decide_eq_false_iff_not]at a1
       have a2:=au
       simp only[Bool.or_eq_false_iff,decide_eq_false_iff_not]at a2
       exact D9 rfl (Ar<|iV .i64 0) fun l f=>⟨(0:Int),(fun _=>⟨by omega,⟨by omega,by omega⟩,Afn fun q O=>hu q Ae⟩),rfl,(f.pick [] An rfl)⟩
end Go.Proofs.YtmonlaoaengfdaaGreatDoor.Oct
