import Derived.Test.YtmonlaoaengfdaaGreatDoorM17
set_option linter.unusedVariables false
set_option linter.unusedSimpArgs false
set_option maxRecDepth 20000
namespace Go.Proofs.YtmonlaoaengfdaaGreatDoor.Oct
open Go.RowKit Base Tryz
attribute [local irreducible] Ys Yc Ht HtS HtIn Wl Wd W Mem pf Ez Wa Wo KW
open Conf (Fwd fwv)
abbrev Q37(c:Conf.Cfg)(b:Option Addr)(d:Nat)(xs:List Conf.Fwd):List Value:=[iV .u8 c.lm0,iV .u8 c.lm1,iV .u8 c.lm2,iV .u8 c.lm3,iV .u8 c.lm4,iV .u8 c.lm5,iV .u8 c.wm0,iV .u8 c.wm1,iV .u8 c.wm2,iV .u8 c.wm3,iV .u8 c.wm4,iV .u8 c.wm5,iV .u8 c.hm0,iV .u8 c.hm1,iV .u8 c.hm2,iV .u8 c.hm3,iV .u8 c.hm4,iV .u8 c.hm5,iV .u32 c.lan,iV .u32 c.wan,iV .i64 c.bits,iV .i64 c.ms,iV .i64 c.mm,iV .i64 c.mc,iV .i64 c.mu,sL b xs.length d,iV .u32 c.dmz,Value.string c.uu]
theorem Ajh(c:Conf.Cfg)(xs:List Conf.Fwd)(d:Option Addr)(t:Nat)(a b:Int)(w:World)(f:At w d (mm Conf.fwv xs))(O:xs.length≤4611686018427387904):Calls prog 21 #[aV [iV .u8 c.lm0,iV .u8 c.lm1,iV .u8 c.lm2,iV .u8 c.lm3,iV .u8 c.lm4,iV .u8 c.lm5,iV .u8 c.wm0,iV .u8 c.wm1,iV .u8 c.wm2,iV .u8 c.wm3,iV .u8 c.wm4,iV .u8 c.wm5,iV .u8 c.hm0,iV .u8 c.hm1,iV .u8 c.hm2,iV .u8 c.hm3,iV .u8 c.hm4,iV .u8 c.hm5,iV .u32 c.lan,iV .u32 c.wan,iV .i64 c.bits,iV .i64 c.ms,iV .i64 c.mm,iV .i64 c.mc,iV .i64 c.mu,sL d xs.length t,iV .u32 c.dmz,Value.string c.uu],iV .u8 a,iV .u16 b] w (Df w (.tuple #[.agg (Conf.fwv (C0 xs a b)).toArray,.bool (Eb xs a b)])):=by
 refine Ap (M:=[]) (LL:=[]) (n:=40) func21 rfl rfl A7 (Mem.refl _)<|W.s ?_
 refine Ac<|Af rfl (Bx (Q37 c d t xs) rfl) fun L=>?_
 refine Af rfl (Ba zeroValue65) fun u=>Ab 1<|Ai<|W.s ?_
 refine Aj []<|W.block<|Dd [1,2,3,6,8] (fun(i:Nat)=>[iV .u8 a,iV .u16 b,pV L 0,pV u 0,nV .i64 i]) (fun(i:Nat)=>i≤xs.length∧ ∀j,j<i→Conf.isF (fun k=>xs.getD k fz) a b j=false) (fun(i:Nat)=>[[cb u zl5 65],[cb L (Q37 c d t xs) 32]]) (fun(i:Nat)=>xs.length-i) 0 Aa ⟨(Nat.zero_le _),(fun j G=>absurd G<|Nat.not_lt_zero j)⟩ (by rfl) fun i P Q H l=>?_
 obtain⟨R,o⟩:=H
 refine W.s<|Aj [(1,0)] ?_
 refine Ak (decide<|((i:Nat):Int)<(xs.length:Int)) Aa (fun I=>?_) fun J=>?_
 ·have x:=I;try simp only[zA]at x
  refine Ag<|A9<|W.s<|W.block<|W.s ?_
  refine Ac<|A5 3 [(1,0)]<|Ao (v:=pL<|some<|Cs d<|i*4) (Bb fun q h=>Aq (k:=.i64) (a:=d) (len:=xs.length) (cap:=t) (i:=(i:Int)) (sz:=4) rfl Aa Aa runUnderlying30 sizeOf65 Ae Ae<|(f.mem0 h).here Tq)<|Ab 1<|Ao (v:=iV .u8<|(xs.getD i fz).proto) (Ys.ld (a:=Cs d<|i*4) rfl Aa isAgg5 fun q h=>(f.mem0 h).ld<|Ki (g:=fwv) (sz:=4) (fun _=>rfl) fz (xs:=xs) (k:=i) Ae 0 rfl) ?_
  refine Ab 3<|Da 8 (((xs.getD i fz).proto)==a) (fun A=>by have r:=A;try simp only[zA]at r;exact Gs.m 3 [(1,0)] (Gs.y (v:=Value.pointer<|some<|Cs d<|i*4) (Bb fun q h=>Aq (k:=.i64) (a:=d) (len:=xs.length) (cap:=t) (i:=(i:Int)) (sz:=4) rfl Aa Aa runUnderlying30 sizeOf65 Ae Ae<|(f.mem0 h).here Tq)<|Gs.m 1 []<|Gs.y (v:=iV .u16<|(xs.getD i fz).port) (Ys.ld (a:=(Cs d<|i*4).add 1) rfl Aa isAgg22 fun q h=>(f.mem0 h).ldF<|Ki (g:=fwv) (sz:=4) (fun _=>rfl) fz (xs:=xs) (k:=i) Ae 1 rfl)<|Gs.z []))<|Ao (v:=bV<|(((xs.getD i fz).proto)==a)&&(((xs.getD i fz).port)==b)) (B9 (e:=((xs.getD i fz).proto)==a) (b:=((xs.getD i fz).port)==b) rfl Aa Aa Aa)<|Ai ?_
  refine Ak ((((xs.getD i fz).proto)==a)&&(((xs.getD i fz).port)==b)) Aa (fun B=>?_) fun C=>?_
  ·have D:=B;try simp only[zA]at D
   refine Av<|A5 3 [(1,0)]<|Ao (v:=pL<|some<|Cs d<|i*4) (Bb fun q h=>Aq (k:=.i64) (a:=d) (len:=xs.length) (cap:=t) (i:=(i:Int)) (sz:=4) rfl Aa Aa runUnderlying30 sizeOf65 Ae Ae<|(f.mem0 h).here Tq)<|Ao (v:=aV<|L8<|xs.getD i fz) (Ys.ldN (a:=Cs d<|i*4) (vs:=(L8<|xs.getD i fz)) rfl Aa isAgg65 sizeOf65 rfl fun q h=>(f.mem0 h).ldN<|Db (g:=fwv) (sz:=4) (fun _=>rfl) fz (xs:=xs) (k:=i) Ae) ?_
   refine Af rfl (A0 u 0 0 0 (L8<|xs.getD i fz) sizeOf65 rfl rfl) fun _=>Ab 1<|Ai<|Al [0] An rfl ?_
   refine Am rfl<|L1 rfl (Bu u 0 0 0 (L8<|xs.getD i fz) isAgg65 sizeOf65) (Ar<|bV true) (by clear l;unfold Eb C0;rw[Conf.find_some _ a b xs.length i Ae o (show Conf.isF (fun k=>xs.getD k fz) a b i=true from B)];rfl)
  ·have E:=C;try simp only[zA]at E
   refine Ag<|A9<|Ac<|Ab 1<|Bw (((i+1):Nat):Int) (i:Int) 1 ?_
   refine Ab 1<|Ay ?_
   refine fun q h=>l (i+1) _ q Ae ⟨Ae,(fun j G=>(Nat.lt_succ_iff_lt_or_eq.1 G).elim (o j) fun N=>by subst N;exact C)⟩ ?_ h
   kernel_rfl
 ·have F:=J;try simp only[zA]at F
  refine Cm<|A9<|Al [0] An rfl<|Av ?_
  refine Ab 1<|Af rfl (A0 u 0 0 0 zl5 sizeOf65 rfl rfl) fun _=>?_
  refine Ab 1<|Ai<|Am rfl<|L1 rfl (Bu u 0 0 0 zl5 isAgg65 sizeOf65) (Ar<|bV false)<|by clear l;unfold Eb C0;rw[Conf.find_none _ a b xs.length (fun j G=>o j Ae)];rfl
theorem Afp{α:Type}(d:α){xs:List α}{j p:Nat}(h:p<j):(xs.take j).getD p d=xs.getD p d:=by
  rw[List.getD_eq_getElem?_getD,List.getD_eq_getElem?_getD,List.getElem?_take_of_lt h]
theorem Afq{k:NK}{s:NS}{i j:Nat}(c:Inv k s)(d:MOk k.fx s.p.ms)(e:i<(s.p.es.map Prod.snd).length)(f:j<(s.p.es.map Prod.snd).length)
    (h:(((((s.p.es.map Prod.snd).getD i Cq).pr==((s.p.es.map Prod.snd).getD j Cq).pr)&&(((s.p.es.map Prod.snd).getD i Cq).ext==((s.p.es.map Prod.snd).getD j Cq).ext))&&((((s.p.es.map Prod.snd).getD i Cq).src !=((s.p.es.map Prod.snd).getD j Cq).src)||(((s.p.es.map Prod.snd).getD i Cq).frm !=((s.p.es.map Prod.snd).getD j Cq).frm)))=true):False:=by
  have g: ∀q,q<(s.p.es.map Prod.snd).length→ ∃x∈s.p.es,(s.p.es.map Prod.snd).getD q Cq=x.2:=fun q b=>by
    rw[List.getD_eq_getElem?_getD,List.getElem?_eq_getElem b]
    exact⟨s.p.es[q]'(by simpa using b),List.getElem_mem _,by simp⟩
  obtain⟨x,l,n⟩:=g i e
  obtain⟨y,o,r⟩:=g j f
  rw[n,r]at h
  simp only[Bool.and_eq_true,Bool.or_eq_true,beq_iff_eq,bne_iff_ne]at h
  have:=Afl c d l o h.1.1 h.1.2
  rcases h.2 with h|h
  · exact h this.1
  · exact h this.2
abbrev Q38(c:Conf.Cfg)(b:Option Addr)(d p2:Nat)(fx:List Fwd):List Blk:=[cb p2 [iV .u8 c.lm0,iV .u8 c.lm1,iV .u8 c.lm2,iV .u8 c.lm3,iV .u8 c.lm4,iV .u8 c.lm5,iV .u8 c.wm0,iV .u8 c.wm1,iV .u8 c.wm2,iV .u8 c.wm3,iV .u8 c.wm4,iV .u8 c.wm5,iV .u8 c.hm0,iV .u8 c.hm1,iV .u8 c.hm2,iV .u8 c.hm3,iV .u8 c.hm4,iV .u8 c.hm5,iV .u32 c.lan,iV .u32 c.wan,iV .i64 c.bits,iV .i64 c.ms,iV .i64 c.mm,iV .i64 c.mc,iV .i64 c.mu,sL b fx.length d,iV .u32 c.dmz,Value.string c.uu] 32]
abbrev Q39(c:Conf.Cfg)(b:Option Addr)(d:Nat)(fx:List Fwd):List Value:=[iV .u8 c.lm0,iV .u8 c.lm1,iV .u8 c.lm2,iV .u8 c.lm3,iV .u8 c.lm4,iV .u8 c.lm5,iV .u8 c.wm0,iV .u8 c.wm1,iV .u8 c.wm2,iV .u8 c.wm3,iV .u8 c.wm4,iV .u8 c.wm5,iV .u8 c.hm0,iV .u8 c.hm1,iV .u8 c.hm2,iV .u8 c.hm3,iV .u8 c.hm4,iV .u8 c.hm5,iV .u32 c.lan,iV .u32 c.wan,iV .i64 c.bits,iV .i64 c.ms,iV .i64 c.mm,iV .i64 c.mc,iV .i64 c.mu,sL b fx.length d,iV .u32 c.dmz,Value.string c.uu]
abbrev Q3a:List Value:=[iV .u8 0,iV .u32 0,iV .u32 0,iV .u16 0,iV .u16 0,iV .u16 0,iV .u64 0,bV false,bV false,bV false,bV false,bV false,bV false]
set_option maxHeartbeats 1000000 in
theorem Abd(c:Conf.Cfg)(fx:List Fwd)(G:Option Addr)(J:Nat)(f:List Cll)(R:Option Addr)(r:Nat)(w:World)(av:At w G (mm fwv fx))(d4:fx.length≤4611686018427387904)(hF:RngF fx)(ae:At w R (mm clC f))(d5:f.length≤9223372036854775807)(bi: ∀x∈f,ClOK w x)(dh:0≤c.lan∧c.lan≤4294967295)(bj:0≤c.wan∧c.wan≤4294967295)(bk:0≤c.dmz∧c.dmz≤4294967295)(al:At w (some ⟨0,0,none⟩) (Cx dbt)):Calls prog 5 #[aV [iV .u8 c.lm0,iV .u8 c.lm1,iV .u8 c.lm2,iV .u8 c.lm3,iV .u8 c.lm4,iV .u8 c.lm5,iV .u8 c.wm0,iV .u8 c.wm1,iV .u8 c.wm2,iV .u8 c.wm3,iV .u8 c.wm4,iV .u8 c.wm5,iV .u8 c.hm0,iV .u8 c.hm1,iV .u8 c.hm2,iV .u8 c.hm3,iV .u8 c.hm4,iV .u8 c.hm5,iV .u32 c.lan,iV .u32 c.wan,iV .i64 c.bits,iV .i64 c.ms,iV .i64 c.mm,iV .i64 c.mc,iV .i64 c.mu,sL G fx.length J,iV .u32 c.dmz,Value.string c.uu],sL R f.length r] w (Df w (.bool true)):=by
 have bl:0<(Cx dbt).length→(Option.getD (some (⟨0,0,none⟩:Addr)) default).block∉([]:List Nat):=fun _ o=>by cases o
 have cp: ∀x∈fx,0≤x.host∧x.host≤4294967295:=fun x hx=>⟨(hF x hx).2.2.2.2.1,(hF x hx).2.2.2.2.2.1⟩
 refine Ap (M:=[]) (LL:=[]) (n:=177) func5 rfl rfl A7 (Mem.refl _)<|W.s ?_
 refine Ac<|Af rfl (Bx (Q39 c G J fx) rfl) fun S=>?_
 refine Ab 1<|Ai<|W.s<|W.s ?_
 refine Ac<|Cb (v:=bV true) (A8 fun C A=>(X5 _<|al.mem' A bl))<|Ab 1<|Ai ?_
 refine B4 Aa<|Ag<|A9<|W.s<|W.s ?_
 refine Ac<|Ab 1<|Cb (v:=bV<|Yb f) (A8 fun C A=>(Ajd f R r _ (ae.mem0 A) Ae))<|Ab 1<|C1 1 (Yb f) (fun _=>Gs.z [(0,0)]) ?_
 refine Aca (Yb f) (fun bm=>?_) fun af=>?_
 ·refine Vu 23 (v0:=.bool true) (Kx (e:=Yb f) Aa bm)<|Vu 24 (v0:=.bool true) (Kx (e:=Yb f) Aa bm)<|A5 3 []<|Ai ?_
  refine Cd Aa<|Aj []<|Am rfl<|D7 rfl (Ar<|bV true) rfl
 ·refine Vu 23 (v0:=.bool false) (Kx (e:=Yb f) Aa af)<|Vu 24 (v0:=.bool false) (Kx (e:=Yb f) Aa af)<|Vu 25 (v0:=aV<|Q39 c G J fx) (lz (g:= !(Yb f)) (u:=undef) (by rw[af];rfl) Aa) ?_
  refine Agh rfl Aa (Au [] [0] fun C A T=>(Afo (⟨c.lm0,c.lm1,c.lm2,c.lm3,c.lm4,c.lm5,c.wm0,c.wm1,c.wm2,c.wm3,c.wm4,c.wm5,c.hm0,c.hm1,c.hm2,c.hm3,c.hm4,c.hm5,c.lan,c.wan,c.bits,c.ms,c.mm,c.mc,c.mu,G,fx.length,J,c.dmz,c.uu⟩:Conf.Cfg) fx G J _ (av.mem0 A) Ae (fun k_ cq=>by rw[List.getD_eq_getElem?_getD,List.getElem?_eq_getElem cq];exact cp _ (List.getElem_mem _)) Pa Pa Pa)) fun bn cr=>?_
  refine A5 2 []<|Ai ?_
  refine Ak (bn !=0) Aa (fun d6=>?_) fun bo=>?_
  ·refine Aj []<|Am rfl<|D7 rfl (Ar<|bV true) rfl
  ·have bp:=bo;try simp only[zA]at bp
   refine Ag<|A9<|W.s<|W.s ?_
   have am:=Am5 af
   have O:=cr (by simpa using bo)
   have cn:=O.1
   refine Ac<|Ab 3<|Ai<|W.block ?_
   refine Dd [1,2,29,30,31] (fun(i:Nat)=>[sL R f.length r,pV S 0,sL R f.length r,nV .i64 f.length,nV .i64 i]) (fun(i:Nat)=>i≤f.length∧ ∀q,q<i→MOk fx (f.getD q A3).mp) (fun(i:Nat)=>[Q38 c G J S fx]) (fun(i:Nat)=>f.length-i) 0 Aa ⟨(Nat.zero_le _),(fun q L=>absurd L<|Nat.not_lt_zero q)⟩ (by rfl) fun i d7 d8 bq V=>?_
   obtain⟨hi,hA⟩:=bq
   have H:=Aj8 bi i
   obtain⟨dl,dm⟩:=Afh am.2 i
   have dn:=H.mcap
   refine Aj []<|W.s ?_
   refine Ak (decide<|((i:Nat):Int)<(f.length:Int)) Aa (fun ct=>?_) fun cu=>?_
   ·have br:=ct;try simp only[zA]at br
    refine Ag<|A9<|W.s<|W.block<|W.s ?_
    refine Ac<|Ao (v:=Value.pointer<|some<|Cs R<|i*10) (Bb fun C o=>Aq (k:=.i64) (a:=R) (len:=f.length) (cap:=r) (i:=(i:Int)) (sz:=10) rfl Aa Aa runUnderlying53 sizeOf58 Ae Ae<|(ae.mem0 o).here<|by rw[Ch (g:=clC) (sz:=10) (fun _=>rfl)];first|omega|(simp;omega))<|Ao (v:=aV<|O8<|f.getD i A3) (Ys.ldN (a:=Cs R<|i*10) (vs:=(O8<|f.getD i A3)) rfl Aa isAgg58 sizeOf58 rfl fun C o=>(ae.mem0 o).ldN<|Db (g:=clC) (sz:=10) (fun _=>rfl) A3 (xs:=f) (k:=i) Ae)<|Af rfl (Ba zeroValue58) fun p6=>Af rfl (A0 p6 0 0 0 (O8<|f.getD i A3) sizeOf58 rfl rfl) fun _=>?_
    refine Ai<|Aj [(0,0)]<|W.block<|Dd [1,2,6,29,30,31,36,37,38] (fun(j:Nat)=>[sL R f.length r,pV S 0,pV p6 0,sL R f.length r,nV .i64 f.length,nV .i64 i,sL ((f.getD i A3).ma) ((f.getD i A3).mp.length)<|(f.getD i A3).mc,nV .i64<|(f.getD i A3).mp.length,nV .i64 j]) (fun(j:Nat)=>j≤(f.getD i A3).mp.length∧(∀q,q<j→ ∀p,p<q→mpX ((f.getD i A3).mp.getD q Ax) ((f.getD i A3).mp.getD p Ax)=false)∧ ∀q,q<j→mpY fx ((f.getD i A3).mp.getD q Ax)=false) (fun(j:Nat)=>[[cb p6 (O8<|f.getD i A3) 58],Q38 c G J S fx]) (fun(j:Nat)=>(f.getD i A3).mp.length-j) 0 Aa ⟨(Nat.zero_le _),(fun q L=>absurd L<|Nat.not_lt_zero q),(fun q L=>absurd L<|Nat.not_lt_zero q)⟩ (by rfl) fun j ea eb bt bu=>?_
    obtain⟨hj,hB,hY⟩:=bt
    refine Aj []<|W.s ?_
    refine Ak (decide<|((j:Nat):Int)<((f.getD i A3).mp.length:Int)) Aa (fun cv=>?_) fun cw=>?_
    ·have bw:=cv;try simp only[zA]at bw
     refine Ag<|A9<|W.s<|W.block<|W.s ?_
     refine Ac<|Ab 1<|Ao (v:=pL<|some<|Cs ((f.getD i A3).ma)<|j*5) (Bb fun C o=>Aq (k:=.i64) (a:=(f.getD i A3).ma) (len:=(f.getD i A3).mp.length) (cap:=(f.getD i A3).mc) (i:=(j:Int)) (sz:=5) rfl Aa Aa runUnderlying56 sizeOf26 Ae Ae<|(H.atm.mem0 o).here Vj)<|Ao (v:=aV<|K0<|((f.getD i A3).mp).getD j Ax) (Ys.ldN (a:=Cs ((f.getD i A3).ma)<|j*5) (vs:=(K0<|((f.getD i A3).mp).getD j Ax)) rfl Aa isAgg26 sizeOf26 rfl fun C o=>(H.atm.mem0 o).ldN<|Db (g:=Jc) (sz:=5) (fun _=>rfl) Ax (xs:=(f.getD i A3).mp) (k:=j) Ae)<|Af rfl (Ba zeroValue26) fun p8=>?_
     refine Ab 1<|Af rfl (A0 p8 0 0 0 (K0<|((f.getD i A3).mp).getD j Ax) sizeOf26 rfl rfl) fun _=>?_
     refine Ai<|W.s<|Av ?_
     refine A5 3 [(1,0)]<|Ao (v:=sL ((f.getD i A3).ma) j<|(f.getD i A3).mc) (Dm (a:=(f.getD i A3).ma) (len:=(f.getD i A3).mp.length) (cap:=(f.getD i A3).mc) (sz:=5) (k:=.i64) (i:=(j:Int)) rfl Aa Aa runUnderlying56 sizeOf26 Ae Ae)<|Ab 2<|Ai ?_
     refine W.block<|Dd [1,2,6,8,29,30,31,36,37,38,46,47,48] (fun(k:Nat)=>[sL R f.length r,pV S 0,pV p6 0,pV p8 0,sL R f.length r,nV .i64 f.length,nV .i64 i,sL ((f.getD i A3).ma) ((f.getD i A3).mp.length)<|(f.getD i A3).mc,nV .i64<|(f.getD i A3).mp.length,nV .i64 j,sL ((f.getD i A3).ma) j<|(f.getD i A3).mc,nV .i64 j,nV .i64 k]) (fun(k:Nat)=>k≤j∧ ∀q,q<k→mpX ((f.getD i A3).mp.getD j Ax) (((f.getD i A3).mp.take j).getD q Ax)=false) (fun(k:Nat)=>[[cb p8 (K0<|((f.getD i A3).mp).getD j Ax) 26],[cb p6 (O8<|f.getD i A3) 58],Q38 c G J S fx]) (fun(k:Nat)=>j-k) 0 Aa ⟨(Nat.zero_le _),(fun q L=>absurd L<|Nat.not_lt_zero q)⟩ (by rfl) fun k ec ed bx bz=>?_
     obtain⟨hk,hC⟩:=bx
     have b0:((f.getD i A3).mp.take j).length=j:=by rw[List.length_take];omega
     refine Aj []<|W.s ?_
     refine Ak (decide<|((k:Nat):Int)<(j:Int)) Aa (fun cx=>?_) fun cy=>?_
     ·have b1:=cx;try simp only[zA]at b1
      refine Ag<|A9<|W.s<|W.block<|W.s ?_
      refine Ac<|Ao (v:=pL<|some<|Cs ((f.getD i A3).ma)<|k*5) (Bb fun C o=>Aq (k:=.i64) (a:=(f.getD i A3).ma) (len:=j) (cap:=(f.getD i A3).mc) (i:=(k:Int)) (sz:=5) rfl Aa Aa runUnderlying56 sizeOf26 Ae Ae<|((Fy (g:=Jc) (sz:=5) (fun _=>rfl) ((f.getD i A3).mp) j)▸At.take (H.atm.mem0 o) (j*5)).here Vj)<|Ao (v:=aV<|K0<|(((f.getD i A3).mp).take j).getD k Ax) (Ys.ldN (a:=Cs ((f.getD i A3).ma)<|k*5) (vs:=(K0<|(((f.getD i A3).mp).take j).getD k Ax)) rfl Aa isAgg26 sizeOf26 rfl fun C o=>((Fy (g:=Jc) (sz:=5) (fun _=>rfl) ((f.getD i A3).mp) j)▸At.take (H.atm.mem0 o) (j*5)).ldN<|Db (g:=Jc) (sz:=5) (fun _=>rfl) Ax (xs:=((f.getD i A3).mp).take j) (k:=k) Ae)<|Af rfl (Ba zeroValue26) fun ah=>Af rfl (A0 ah 0 0 0 (K0<|(((f.getD i A3).mp).take j).getD k Ax) sizeOf26 rfl rfl) fun _=>?_
      refine Ai<|Av<|A5 6 [(1,0),(0,0)] ?_
      refine Da 5 (((((f.getD i A3).mp).getD j Ax).proto)==(((((f.getD i A3).mp).take j).getD k Ax).proto)) (fun _=>Gs.z [(1,0),(0,0)])<|Ao (v:=bV<|(((((f.getD i A3).mp).getD j Ax).proto)==(((((f.getD i A3).mp).take j).getD k Ax).proto))&&(((((f.getD i A3).mp).getD j Ax).ext)==(((((f.getD i A3).mp).take j).getD k Ax).ext))) (B9 (e:=((((f.getD i A3).mp).getD j Ax).proto)==(((((f.getD i A3).mp).take j).getD k Ax).proto)) (b:=((((f.getD i A3).mp).getD j Ax).ext)==(((((f.getD i A3).mp).take j).getD k Ax).ext)) rfl Aa Aa Aa)<|Ab 1<|Da 6 ((((((f.getD i A3).mp).getD j Ax).proto)==(((((f.getD i A3).mp).take j).getD k Ax).proto))&&(((((f.getD i A3).mp).getD j Ax).ext)==(((((f.getD i A3).mp).take j).getD k Ax).ext))) (fun _=>Gs.z [(1,0),(0,0)]) ?_
      refine Bz (v:=pV p8 2) (((((((f.getD i A3).mp).getD j Ax).proto)==(((((f.getD i A3).mp).take j).getD k Ax).proto))&&(((((f.getD i A3).mp).getD j Ax).ext)==(((((f.getD i A3).mp).take j).getD k Ax).ext)))&& !(((((f.getD i A3).mp).getD j Ax).host) !=(((((f.getD i A3).mp).take j).getD k Ax).host))) rfl (Dr rfl rfl Aa) rfl (fun ds=>?_) ?_
      ·exact Ys.p
      refine Bz (v:=iV .u16<|(((f.getD i A3).mp).getD j Ax).to) (((((((f.getD i A3).mp).getD j Ax).proto)==(((((f.getD i A3).mp).take j).getD k Ax).proto))&&(((((f.getD i A3).mp).getD j Ax).ext)==(((((f.getD i A3).mp).take j).getD k Ax).ext)))&& !(((((f.getD i A3).mp).getD j Ax).host) !=(((((f.getD i A3).mp).take j).getD k Ax).host))) rfl (Dr rfl rfl Aa) rfl (fun b3=>?_) ?_
      ·refine Bh (t:=71) (v0:=pV p8 2) (lz (g:=((((((f.getD i A3).mp).getD j Ax).proto)==(((((f.getD i A3).mp).take j).getD k Ax).proto))&&(((((f.getD i A3).mp).getD j Ax).ext)==(((((f.getD i A3).mp).take j).getD k Ax).ext)))&& !(((((f.getD i A3).mp).getD j Ax).host) !=(((((f.getD i A3).mp).take j).getD k Ax).host))) (u:=undef) b3 Aa) ?_
       exact Bf (b:=p8) (o':=2) (i:=1) (j:=0) (v:=iV .u16<|(((f.getD i A3).mp).getD j Ax).to) rfl Aa isAgg22 rfl rfl rfl
      refine Bz (v:=pV ah 2) (((((((f.getD i A3).mp).getD j Ax).proto)==(((((f.getD i A3).mp).take j).getD k Ax).proto))&&(((((f.getD i A3).mp).getD j Ax).ext)==(((((f.getD i A3).mp).take j).getD k Ax).ext)))&& !(((((f.getD i A3).mp).getD j Ax).host) !=(((((f.getD i A3).mp).take j).getD k Ax).host))) rfl (Dr rfl rfl Aa) rfl (fun dt=>?_) ?_
      ·exact Ys.p
      refine Bz (v:=iV .u16<|((((f.getD i A3).mp).take j).getD k Ax).to) (((((((f.getD i A3).mp).getD j Ax).proto)==(((((f.getD i A3).mp).take j).getD k Ax).proto))&&(((((f.getD i A3).mp).getD j Ax).ext)==(((((f.getD i A3).mp).take j).getD k Ax).ext)))&& !(((((f.getD i A3).mp).getD j Ax).host) !=(((((f.getD i A3).mp).take j).getD k Ax).host))) rfl (Dr rfl rfl Aa) rfl (fun b4=>?_) ?_
      ·refine Bh (t:=73) (v0:=pV ah 2) (lz (g:=((((((f.getD i A3).mp).getD j Ax).proto)==(((((f.getD i A3).mp).take j).getD k Ax).proto))&&(((((f.getD i A3).mp).getD j Ax).ext)==(((((f.getD i A3).mp).take j).getD k Ax).ext)))&& !(((((f.getD i A3).mp).getD j Ax).host) !=(((((f.getD i A3).mp).take j).getD k Ax).host))) (u:=undef) b4 Aa) ?_
       exact Bf (b:=ah) (o':=2) (i:=0) (j:=0) (v:=iV .u16<|((((f.getD i A3).mp).take j).getD k Ax).to) rfl Aa isAgg22 rfl rfl rfl
      refine Bz (v:=bV<|((((f.getD i A3).mp).getD j Ax).to) !=(((((f.getD i A3).mp).take j).getD k Ax).to)) (((((((f.getD i A3).mp).getD j Ax).proto)==(((((f.getD i A3).mp).take j).getD k Ax).proto))&&(((((f.getD i A3).mp).getD j Ax).ext)==(((((f.getD i A3).mp).take j).getD k Ax).ext)))&& !(((((f.getD i A3).mp).getD j Ax).host) !=(((((f.getD i A3).mp).take j).getD k Ax).host))) rfl (Dr rfl rfl Aa) rfl (fun an=>?_) ?_
      ·refine Bh (t:=72) (v0:=iV .u16<|(((f.getD i A3).mp).getD j Ax).to) (lz (g:=((((((f.getD i A3).mp).getD j Ax).proto)==(((((f.getD i A3).mp).take j).getD k Ax).proto))&&(((((f.getD i A3).mp).getD j Ax).ext)==(((((f.getD i A3).mp).take j).getD k Ax).ext)))&& !(((((f.getD i A3).mp).getD j Ax).host) !=(((((f.getD i A3).mp).take j).getD k Ax).host))) (u:=undef) an Aa)<|Bh (t:=74) (v0:=iV .u16<|((((f.getD i A3).mp).take j).getD k Ax).to) (lz (g:=((((((f.getD i A3).mp).getD j Ax).proto)==(((((f.getD i A3).mp).take j).getD k Ax).proto))&&(((((f.getD i A3).mp).getD j Ax).ext)==(((((f.getD i A3).mp).take j).getD k Ax).ext)))&& !(((((f.getD i A3).mp).getD j Ax).host) !=(((((f.getD i A3).mp).take j).getD k Ax).host))) (u:=undef) an Aa) ?_
       exact Ys.p
      refine Da 1 ((((((f.getD i A3).mp).getD j Ax).proto)==(((((f.getD i A3).mp).take j).getD k Ax).proto))&&(((((f.getD i A3).mp).getD j Ax).ext)==(((((f.getD i A3).mp).take j).getD k Ax).ext))) (fun ao=>Gs.y (v:=bV<|(((((f.getD i A3).mp).getD j Ax).host) !=(((((f.getD i A3).mp).take j).getD k Ax).host))||(((((f.getD i A3).mp).getD j Ax).to) !=(((((f.getD i A3).mp).take j).getD k Ax).to))) (Bh (t:=70) (v0:=bV<|((((f.getD i A3).mp).getD j Ax).host) !=(((((f.getD i A3).mp).take j).getD k Ax).host)) (lz (g:=(((((f.getD i A3).mp).getD j Ax).proto)==(((((f.getD i A3).mp).take j).getD k Ax).proto))&&(((((f.getD i A3).mp).getD j Ax).ext)==(((((f.getD i A3).mp).take j).getD k Ax).ext))) (u:=undef) ao Aa)<|Bh (t:=75) (v0:=(bif !(((((f.getD i A3).mp).getD j Ax).host) !=(((((f.getD i A3).mp).take j).getD k Ax).host))then bV (((((f.getD i A3).mp).getD j Ax).to) !=(((((f.getD i A3).mp).take j).getD k Ax).to))else undef)) (lz2 (g:=(((((f.getD i A3).mp).getD j Ax).proto)==(((((f.getD i A3).mp).take j).getD k Ax).proto))&&(((((f.getD i A3).mp).getD j Ax).ext)==(((((f.getD i A3).mp).take j).getD k Ax).ext))) ao Aa)<|Ce (e:=((((f.getD i A3).mp).getD j Ax).host) !=(((((f.getD i A3).mp).take j).getD k Ax).host)) (b:=((((f.getD i A3).mp).getD j Ax).to) !=(((((f.getD i A3).mp).take j).getD k Ax).to)) rfl Aa Aa Aa) Gs.nil)<|Ao (v:=bV<|((((((f.getD i A3).mp).getD j Ax).proto)==(((((f.getD i A3).mp).take j).getD k Ax).proto))&&(((((f.getD i A3).mp).getD j Ax).ext)==(((((f.getD i A3).mp).take j).getD k Ax).ext)))&&((((((f.getD i A3).mp).getD j Ax).host) !=(((((f.getD i A3).mp).take j).getD k Ax).host))||(((((f.getD i A3).mp).getD j Ax).to) !=(((((f.getD i A3).mp).take j).getD k Ax).to)))) (B9 (e:=(((((f.getD i A3).mp).getD j Ax).proto)==(((((f.getD i A3).mp).take j).getD k Ax).proto))&&(((((f.getD i A3).mp).getD j Ax).ext)==(((((f.getD i A3).mp).take j).getD k Ax).ext))) (b:=(((((f.getD i A3).mp).getD j Ax).host) !=(((((f.getD i A3).mp).take j).getD k Ax).host))||(((((f.getD i A3).mp).getD j Ax).to) !=(((((f.getD i A3).mp).take j).getD k Ax).to))) rfl Aa Aa Aa)<|Ai ?_
      refine Ak (((((((f.getD i A3).mp).getD j Ax).proto)==(((((f.getD i A3).mp).take j).getD k Ax).proto))&&(((((f.getD i A3).mp).getD j Ax).ext)==(((((f.getD i A3).mp).take j).getD k Ax).ext)))&&((((((f.getD i A3).mp).getD j Ax).host) !=(((((f.getD i A3).mp).take j).getD k Ax).host))||(((((f.getD i A3).mp).getD j Ax).to) !=(((((f.getD i A3).mp).take j).getD k Ax).to)))) Aa (fun ef=>?_) fun b5=>?_
      ·refine Aj []<|Am rfl<|D7 rfl (Ar<|bV true) rfl
      ·have b6:=b5;try simp only[zA]at b6
       refine Ag<|A9<|Ac<|Bw (((k+1):Nat):Int) (k:Int) 1<|Ab 1 ?_
       refine Ay ?_
       refine fun C o=>bz (k+1) _ C Ae ⟨Ae,(fun q L=>(Nat.lt_succ_iff_lt_or_eq.1 L).elim (hC q) fun e_=>by subst e_;exact b5)⟩ ?_<|o.pick [1,2,3] An rfl
       kernel_rfl
     ·have b7:=cy;try simp only[zA]at b7
      refine Cm<|A9<|Av<|A5 5 [(2,0),(0,0),(0,0)] ?_
      refine Cb (v:=Value.tuple #[aV (L8<|C0 fx ((((f.getD i A3).mp).getD j Ax).proto)<|(((f.getD i A3).mp).getD j Ax).ext),bV (Eb fx ((((f.getD i A3).mp).getD j Ax).proto)<|(((f.getD i A3).mp).getD j Ax).ext)]) (A8 fun C A=>(Ajh (⟨c.lm0,c.lm1,c.lm2,c.lm3,c.lm4,c.lm5,c.wm0,c.wm1,c.wm2,c.wm3,c.wm4,c.wm5,c.hm0,c.hm1,c.hm2,c.hm3,c.hm4,c.hm5,c.lan,c.wan,c.bits,c.ms,c.mm,c.mc,c.mu,G,fx.length,J,c.dmz,c.uu⟩:Conf.Cfg) fx G J ((((f.getD i A3).mp).getD j Ax).proto) ((((f.getD i A3).mp).getD j Ax).ext) _ (av.mem0 A) Ae))<|Ab 3<|Af rfl (Ba zeroValue65) fun ai=>Af rfl (A0 ai 0 0 0 (L8<|C0 fx ((((f.getD i A3).mp).getD j Ax).proto)<|(((f.getD i A3).mp).getD j Ax).ext) sizeOf65 rfl rfl) fun _=>Ab 1 ?_
      refine Ai<|Av<|Ab 2 ?_
      refine Da 6 (Eb fx ((((f.getD i A3).mp).getD j Ax).proto)<|(((f.getD i A3).mp).getD j Ax).ext) (fun _=>Gs.z [(0,0),(1,0)]) ?_
      refine Bz (v:=pV ai 2) ((Eb fx ((((f.getD i A3).mp).getD j Ax).proto)<|(((f.getD i A3).mp).getD j Ax).ext)&& !(((C0 fx ((((f.getD i A3).mp).getD j Ax).proto)<|(((f.getD i A3).mp).getD j Ax).ext).host) !=((((f.getD i A3).mp).getD j Ax).host))) rfl (Dr rfl rfl Aa) rfl (fun du=>?_) ?_
      ·exact Ys.p
      refine Bz (v:=iV .u16<|(C0 fx ((((f.getD i A3).mp).getD j Ax).proto)<|(((f.getD i A3).mp).getD j Ax).ext).dest) ((Eb fx ((((f.getD i A3).mp).getD j Ax).proto)<|(((f.getD i A3).mp).getD j Ax).ext)&& !(((C0 fx ((((f.getD i A3).mp).getD j Ax).proto)<|(((f.getD i A3).mp).getD j Ax).ext).host) !=((((f.getD i A3).mp).getD j Ax).host))) rfl (Dr rfl rfl Aa) rfl (fun b9=>?_) ?_
      ·refine Bh (t:=96) (v0:=pV ai 2) (lz (g:=(Eb fx ((((f.getD i A3).mp).getD j Ax).proto)<|(((f.getD i A3).mp).getD j Ax).ext)&& !(((C0 fx ((((f.getD i A3).mp).getD j Ax).proto)<|(((f.getD i A3).mp).getD j Ax).ext).host) !=((((f.getD i A3).mp).getD j Ax).host))) (u:=undef) b9 Aa) ?_
       exact Bf (b:=ai) (o':=2) (i:=0) (j:=0) (v:=iV .u16<|(C0 fx ((((f.getD i A3).mp).getD j Ax).proto)<|(((f.getD i A3).mp).getD j Ax).ext).dest) rfl Aa isAgg22 rfl rfl rfl
      refine Bz (v:=pV p8 2) ((Eb fx ((((f.getD i A3).mp).getD j Ax).proto)<|(((f.getD i A3).mp).getD j Ax).ext)&& !(((C0 fx ((((f.getD i A3).mp).getD j Ax).proto)<|(((f.getD i A3).mp).getD j Ax).ext).host) !=((((f.getD i A3).mp).getD j Ax).host))) rfl (Dr rfl rfl Aa) rfl (fun dv=>?_) ?_
      ·exact Ys.p
      refine Bz (v:=iV .u16<|(((f.getD i A3).mp).getD j Ax).to) ((Eb fx ((((f.getD i A3).mp).getD j Ax).proto)<|(((f.getD i A3).mp).getD j Ax).ext)&& !(((C0 fx ((((f.getD i A3).mp).getD j Ax).proto)<|(((f.getD i A3).mp).getD j Ax).ext).host) !=((((f.getD i A3).mp).getD j Ax).host))) rfl (Dr rfl rfl Aa) rfl (fun ca=>?_) ?_
      ·refine Bh (t:=98) (v0:=pV p8 2) (lz (g:=(Eb fx ((((f.getD i A3).mp).getD j Ax).proto)<|(((f.getD i A3).mp).getD j Ax).ext)&& !(((C0 fx ((((f.getD i A3).mp).getD j Ax).proto)<|(((f.getD i A3).mp).getD j Ax).ext).host) !=((((f.getD i A3).mp).getD j Ax).host))) (u:=undef) ca Aa) ?_
       exact Bf (b:=p8) (o':=2) (i:=1) (j:=0) (v:=iV .u16<|(((f.getD i A3).mp).getD j Ax).to) rfl Aa isAgg22 rfl rfl rfl
      refine Bz (v:=bV<|((C0 fx ((((f.getD i A3).mp).getD j Ax).proto)<|(((f.getD i A3).mp).getD j Ax).ext).dest) !=((((f.getD i A3).mp).getD j Ax).to)) ((Eb fx ((((f.getD i A3).mp).getD j Ax).proto)<|(((f.getD i A3).mp).getD j Ax).ext)&& !(((C0 fx ((((f.getD i A3).mp).getD j Ax).proto)<|(((f.getD i A3).mp).getD j Ax).ext).host) !=((((f.getD i A3).mp).getD j Ax).host))) rfl (Dr rfl rfl Aa) rfl (fun ap=>?_) ?_
      ·refine Bh (t:=97) (v0:=iV .u16<|(C0 fx ((((f.getD i A3).mp).getD j Ax).proto)<|(((f.getD i A3).mp).getD j Ax).ext).dest) (lz (g:=(Eb fx ((((f.getD i A3).mp).getD j Ax).proto)<|(((f.getD i A3).mp).getD j Ax).ext)&& !(((C0 fx ((((f.getD i A3).mp).getD j Ax).proto)<|(((f.getD i A3).mp).getD j Ax).ext).host) !=((((f.getD i A3).mp).getD j Ax).host))) (u:=undef) ap Aa)<|Bh (t:=99) (v0:=iV .u16<|(((f.getD i A3).mp).getD j Ax).to) (lz (g:=(Eb fx ((((f.getD i A3).mp).getD j Ax).proto)<|(((f.getD i A3).mp).getD j Ax).ext)&& !(((C0 fx ((((f.getD i A3).mp).getD j Ax).proto)<|(((f.getD i A3).mp).getD j Ax).ext).host) !=((((f.getD i A3).mp).getD j Ax).host))) (u:=undef) ap Aa) ?_
       exact Ys.p
      refine Da 1 (Eb fx ((((f.getD i A3).mp).getD j Ax).proto)<|(((f.getD i A3).mp).getD j Ax).ext) (fun X=>Gs.y (v:=bV<|(((C0 fx ((((f.getD i A3).mp).getD j Ax).proto)<|(((f.getD i A3).mp).getD j Ax).ext).host) !=((((f.getD i A3).mp).getD j Ax).host))||(((C0 fx ((((f.getD i A3).mp).getD j Ax).proto)<|(((f.getD i A3).mp).getD j Ax).ext).dest) !=((((f.getD i A3).mp).getD j Ax).to))) (Bh (t:=95) (v0:=bV<|((C0 fx ((((f.getD i A3).mp).getD j Ax).proto)<|(((f.getD i A3).mp).getD j Ax).ext).host) !=((((f.getD i A3).mp).getD j Ax).host)) (lz (g:=Eb fx ((((f.getD i A3).mp).getD j Ax).proto)<|(((f.getD i A3).mp).getD j Ax).ext) (u:=undef) X Aa)<|Bh (t:=100) (v0:=(bif !(((C0 fx ((((f.getD i A3).mp).getD j Ax).proto)<|(((f.getD i A3).mp).getD j Ax).ext).host) !=((((f.getD i A3).mp).getD j Ax).host))then bV (((C0 fx ((((f.getD i A3).mp).getD j Ax).proto)<|(((f.getD i A3).mp).getD j Ax).ext).dest) !=((((f.getD i A3).mp).getD j Ax).to))else undef)) (lz2 (g:=Eb fx ((((f.getD i A3).mp).getD j Ax).proto)<|(((f.getD i A3).mp).getD j Ax).ext) X Aa)<|Ce (e:=((C0 fx ((((f.getD i A3).mp).getD j Ax).proto)<|(((f.getD i A3).mp).getD j Ax).ext).host) !=((((f.getD i A3).mp).getD j Ax).host)) (b:=((C0 fx ((((f.getD i A3).mp).getD j Ax).proto)<|(((f.getD i A3).mp).getD j Ax).ext).dest) !=((((f.getD i A3).mp).getD j Ax).to)) rfl Aa Aa Aa) Gs.nil)<|Ao (v:=bV<|(Eb fx ((((f.getD i A3).mp).getD j Ax).proto)<|(((f.getD i A3).mp).getD j Ax).ext)&&((((C0 fx ((((f.getD i A3).mp).getD j Ax).proto)<|(((f.getD i A3).mp).getD j Ax).ext).host) !=((((f.getD i A3).mp).getD j Ax).host))||(((C0 fx ((((f.getD i A3).mp).getD j Ax).proto)<|(((f.getD i A3).mp).getD j Ax).ext).dest) !=((((f.getD i A3).mp).getD j Ax).to)))) (B9 (e:=Eb fx ((((f.getD i A3).mp).getD j Ax).proto)<|(((f.getD i A3).mp).getD j Ax).ext) (b:=(((C0 fx ((((f.getD i A3).mp).getD j Ax).proto)<|(((f.getD i A3).mp).getD j Ax).ext).host) !=((((f.getD i A3).mp).getD j Ax).host))||(((C0 fx ((((f.getD i A3).mp).getD j Ax).proto)<|(((f.getD i A3).mp).getD j Ax).ext).dest) !=((((f.getD i A3).mp).getD j Ax).to))) rfl Aa Aa Aa)<|Ai ?_
      refine Ak ((Eb fx ((((f.getD i A3).mp).getD j Ax).proto)<|(((f.getD i A3).mp).getD j Ax).ext)&&((((C0 fx ((((f.getD i A3).mp).getD j Ax).proto)<|(((f.getD i A3).mp).getD j Ax).ext).host) !=((((f.getD i A3).mp).getD j Ax).host))||(((C0 fx ((((f.getD i A3).mp).getD j Ax).proto)<|(((f.getD i A3).mp).getD j Ax).ext).dest) !=((((f.getD i A3).mp).getD j Ax).to)))) Aa (fun dw=>?_) fun aq=>?_
      ·refine Aj []<|Am rfl<|D7 rfl (Ar<|bV true) rfl
      ·have ax:=aq;try simp only[zA]at ax
       refine Ag<|A9<|Ac<|Bw (((j+1):Nat):Int) (j:Int) 1<|Ab 1 ?_
       refine Ay ?_
       refine fun C o=>bu (j+1) _ C Ae ⟨Ae,(fun q L=>(Nat.lt_succ_iff_lt_or_eq.1 L).elim (hB q) fun e_=>by subst e_;exact fun p_ c0=>by rw[←Afp Ax c0];exact hC p_ Ae),(fun q L=>(Nat.lt_succ_iff_lt_or_eq.1 L).elim (hY q) fun e_=>by subst e_;exact aq)⟩ ?_<|o.pick [2,3] An rfl
       kernel_rfl
    ·have cc:=cw;try simp only[zA]at cc
     refine Cm<|A9<|Al [1] An rfl<|Ac<|Bw (((i+1):Nat):Int) (i:Int) 1 ?_
     refine Ab 1<|Ay ?_
     refine fun C o=>V (i+1) _ C Ae ⟨Ae,(fun q L=>(Nat.lt_succ_iff_lt_or_eq.1 L).elim (hA q) fun e_=>by subst e_;exact⟨fun q_ ce=>hB q_ Ae,fun q_ ce=>hY q_ Ae⟩)⟩ ?_ o
     kernel_rfl
   ·have cf:=cu;try simp only[zA]at cf
    refine Cm<|A9<|Av<|A5 2 [(0,0)] ?_
    refine Aw rfl (Au [] [0] fun C A T=>(Abc (MOk fx) c fx G J f R r _ MOk.nil (fun q_ ce=>hA q_ Ae) (ae.mem0 A) Ae (fun x_ c1=>(bi x_ c1).mem A) am.2 (av.mem0 A) Ae (by have z_:=O.2.1;show c.ms≤50000;have y_:c.ms≤4096:=z_.2;omega) hF O.2.2 bj bk<|al.mem' A bl)) fun cg Y=>?_
    obtain⟨l,d,c4⟩:=cg
    dsimp only at Y
    obtain⟨E,ej,ek,el,c5,c6,c7⟩:=Y
    refine B0 (LL':=[NG l d,Q38 c G J S fx]) rfl<|Ab 5<|Ai<|W.s ?_
    refine Ac<|Af rfl (Bj (mk:=fun b_=>.slice (some ⟨b_,0,none⟩) 0 0) (t:=74) (cs:=[]) rfl fun _=>kr) fun P=>?_
    refine Af rfl (Ba zeroValue68) fun F=>Af rfl (Bd F 0 0 0 (sL (some ⟨P,0,none⟩) 0 0) sizeOf68 rfl rfl) fun _=>?_
    refine Ai<|W.s ?_
    obtain⟨O_,ay⟩: ∃z:List SesE,z=[]:=⟨_,rfl⟩
    obtain⟨Z,ar⟩: ∃z:FS,z=FS.mk false P 0 []:=⟨_,rfl⟩
    have ch:Z.ok 13 O_.length:=by rw[ay,ar];exact D4 An
    refine W.conseq (S':=Mem w [] [[cb F [sL Z.a O_.length Z.cap] 68],Z.seg 74<|mm M6 O_,NG l d,[cb S (Q39 c G J fx) 32]]) (fun C o=>Mem.cast (LL:=[[cb F [sL (some ⟨P,0,none⟩) 0 0] 68],[cb P [] 74],NG l d,[cb S (Q39 c G J fx) 32]]) (by rw[ay,ar];rfl) o)<|Ac<|Ab 1<|Aw rfl (Au [] [0,1,2,3] fun C A T=>(Am6 l.nb _)) fun az _=>Ab 1 ?_
    refine Aw rfl (Au [3,2,1,0] [4] fun C A T=>(Afi l d O_ Z F az _ _ E.ok E.a.tie T ch ay)) fun h B=>Ai<|Al [0,1,2,4] An rfl<|W.s ?_
    refine Aj [(2,0)]<|W.block<|Dd [2,13,15,116,117,118] (fun(i:Nat)=>[pV S 0,pL<|some ⟨l.nb,0,none⟩,pV F 0,sL h.a ((d.p.es.map Prod.snd).length) h.cap,nV .i64<|(d.p.es.map Prod.snd).length,nV .i64 i]) (fun(i:Nat)=>i≤(d.p.es.map Prod.snd).length) (fun(i:Nat)=>[NG l d,h.seg 74<|mm M6<|d.p.es.map Prod.snd,[cb F [sL h.a ((d.p.es.map Prod.snd).length) h.cap] 68],Q38 c G J S fx]) (fun(i:Nat)=>(d.p.es.map Prod.snd).length-i) 0 Aa (Nat.zero_le _) (by rfl) fun i dx dy a0 N=>?_
    have hi:=a0
    have dz:=B.le
    have d0:=Ja E.ok E.a
    have c8:(d.p.es.map Prod.snd).length=d.p.es.length:=List.length_map ..
    refine Aj []<|W.s ?_
    refine Ak (decide<|((i:Nat):Int)<((d.p.es.map Prod.snd).length:Int)) Aa (fun ci=>?_) fun cj=>?_
    ·have a1:=ci;try simp only[zA]at a1
     refine Ag<|A9<|W.s<|W.block<|W.s ?_
     refine Ac<|Ab 1<|Ao (v:=pL<|some<|Cs h.a<|i*13) (Aq (k:=.i64) (a:=h.a) (len:=(d.p.es.map Prod.snd).length) (cap:=h.cap) (i:=(i:Int)) (sz:=13) rfl Aa Aa runUnderlying68 sizeOf74 Ae Ae<|by rw[Et (De B Ae)];rfl)<|Ao (v:=aV<|seL<|(d.p.es.map Prod.snd).getD i Cq) (Ys.ldN (a:=Cs h.a<|i*13) (vs:=(seL<|(d.p.es.map Prod.snd).getD i Cq)) rfl Aa isAgg74 sizeOf74 rfl fun C o=>(FS.at (i:=1) (t:=74) o rfl<|Ah B<|N7 _).ldN<|Db (g:=M6) (sz:=13) (fun _=>rfl) Cq (xs:=d.p.es.map Prod.snd) (k:=i) Ae)<|Af rfl (Ba zeroValue74) fun I=>?_
     refine Ab 1<|Af rfl (A0 I 0 0 0 (seL<|(d.p.es.map Prod.snd).getD i Cq) sizeOf74 rfl rfl) fun _=>?_
     refine Ai<|Av<|A5 2 [(3,0)] ?_
     refine Ao (v:=sL h.a i h.cap) (Dm (a:=h.a) (len:=(d.p.es.map Prod.snd).length) (cap:=h.cap) (sz:=13) (k:=.i64) (i:=(i:Int)) rfl Aa Aa runUnderlying68 sizeOf74 Ae Ae)<|Ab 2<|Ai<|W.block ?_
     refine Dd [2,13,15,17,116,117,118,125,126,127] (fun(k:Nat)=>[pV S 0,pL<|some ⟨l.nb,0,none⟩,pV F 0,pV I 0,sL h.a ((d.p.es.map Prod.snd).length) h.cap,nV .i64<|(d.p.es.map Prod.snd).length,nV .i64 i,sL h.a i h.cap,nV .i64 i,nV .i64 k]) (fun(k:Nat)=>k≤i) (fun(k:Nat)=>[[cb I (seL<|(d.p.es.map Prod.snd).getD i Cq) 74],NG l d,h.seg 74<|mm M6<|d.p.es.map Prod.snd,[cb F [sL h.a ((d.p.es.map Prod.snd).length) h.cap] 68],Q38 c G J S fx]) (fun(k:Nat)=>i-k) 0 Aa (Nat.zero_le _) (by rfl) fun k d1 d2 a2 a3=>?_
     have hk:=a2
     have b0:((d.p.es.map Prod.snd).take i).length=i:=by rw[List.length_take];omega
     refine Aj []<|W.s ?_
     refine Ak (decide<|((k:Nat):Int)<(i:Int)) Aa (fun ck=>?_) fun cl=>?_
     ·have a5:=ck;try simp only[zA]at a5
      refine Ag<|A9<|W.s<|W.block<|W.s ?_
      refine Ac<|Ao (v:=Value.pointer<|some<|Cs h.a<|k*13) (Bb fun C o=>Aq (k:=.i64) (a:=h.a) (len:=i) (cap:=h.cap) (i:=(k:Int)) (sz:=13) rfl Aa Aa runUnderlying68 sizeOf74 Ae Ae<|((Fy (g:=M6) (sz:=13) (fun _=>rfl) (d.p.es.map Prod.snd) i)▸At.take (FS.at (i:=2) (t:=74) o rfl<|Ah B<|N7 _) (i*13)).here<|by rw[Ch (g:=M6) (sz:=13) (fun _=>rfl)];first|omega|(simp;omega))<|Ao (v:=aV<|seL<|((d.p.es.map Prod.snd).take i).getD k Cq) (Ys.ldN (a:=Cs h.a<|k*13) (vs:=(seL<|((d.p.es.map Prod.snd).take i).getD k Cq)) rfl Aa isAgg74 sizeOf74 rfl fun C o=>((Fy (g:=M6) (sz:=13) (fun _=>rfl) (d.p.es.map Prod.snd) i)▸At.take (FS.at (i:=2) (t:=74) o rfl<|Ah B<|N7 _) (i*13)).ldN<|Db (g:=M6) (sz:=13) (fun _=>rfl) Cq (xs:=(d.p.es.map Prod.snd).take i) (k:=k) Ae)<|Af rfl (Ba zeroValue74) fun U=>Af rfl (A0 U 0 0 0 (seL<|((d.p.es.map Prod.snd).take i).getD k Cq) sizeOf74 rfl rfl) fun _=>?_
      refine Ai<|Av<|A5 8 [(1,0),(0,0)] ?_
      refine Da 5 ((((d.p.es.map Prod.snd).getD i Cq).pr)==((((d.p.es.map Prod.snd).take i).getD k Cq).pr)) (fun _=>Gs.z [(1,0),(0,0)])<|Ao (v:=bV<|((((d.p.es.map Prod.snd).getD i Cq).pr)==((((d.p.es.map Prod.snd).take i).getD k Cq).pr))&&((((d.p.es.map Prod.snd).getD i Cq).ext)==((((d.p.es.map Prod.snd).take i).getD k Cq).ext))) (B9 (e:=(((d.p.es.map Prod.snd).getD i Cq).pr)==((((d.p.es.map Prod.snd).take i).getD k Cq).pr)) (b:=(((d.p.es.map Prod.snd).getD i Cq).ext)==((((d.p.es.map Prod.snd).take i).getD k Cq).ext)) rfl Aa Aa Aa)<|Ab 1<|Da 8 (((((d.p.es.map Prod.snd).getD i Cq).pr)==((((d.p.es.map Prod.snd).take i).getD k Cq).pr))&&((((d.p.es.map Prod.snd).getD i Cq).ext)==((((d.p.es.map Prod.snd).take i).getD k Cq).ext))) (fun _=>Gs.z [(1,0),(0,0)]) ?_
      refine Bz (v:=pV I 0) ((((((d.p.es.map Prod.snd).getD i Cq).pr)==((((d.p.es.map Prod.snd).take i).getD k Cq).pr))&&((((d.p.es.map Prod.snd).getD i Cq).ext)==((((d.p.es.map Prod.snd).take i).getD k Cq).ext)))&& !((((d.p.es.map Prod.snd).getD i Cq).src) !=((((d.p.es.map Prod.snd).take i).getD k Cq).src))) rfl (Dr rfl rfl Aa) rfl (fun c9=>?_) ?_
      ·exact Ys.p
      refine Bz (v:=pV I 3) ((((((d.p.es.map Prod.snd).getD i Cq).pr)==((((d.p.es.map Prod.snd).take i).getD k Cq).pr))&&((((d.p.es.map Prod.snd).getD i Cq).ext)==((((d.p.es.map Prod.snd).take i).getD k Cq).ext)))&& !((((d.p.es.map Prod.snd).getD i Cq).src) !=((((d.p.es.map Prod.snd).take i).getD k Cq).src))) rfl (Dr rfl rfl Aa) rfl (fun a6=>?_) ?_
      ·refine Bh (t:=154) (v0:=pV I 0) (lz (g:=(((((d.p.es.map Prod.snd).getD i Cq).pr)==((((d.p.es.map Prod.snd).take i).getD k Cq).pr))&&((((d.p.es.map Prod.snd).getD i Cq).ext)==((((d.p.es.map Prod.snd).take i).getD k Cq).ext)))&& !((((d.p.es.map Prod.snd).getD i Cq).src) !=((((d.p.es.map Prod.snd).take i).getD k Cq).src))) (u:=undef) a6 Aa) ?_
       exact Ys.p
      refine Bz (v:=iV .u16<|((d.p.es.map Prod.snd).getD i Cq).frm) ((((((d.p.es.map Prod.snd).getD i Cq).pr)==((((d.p.es.map Prod.snd).take i).getD k Cq).pr))&&((((d.p.es.map Prod.snd).getD i Cq).ext)==((((d.p.es.map Prod.snd).take i).getD k Cq).ext)))&& !((((d.p.es.map Prod.snd).getD i Cq).src) !=((((d.p.es.map Prod.snd).take i).getD k Cq).src))) rfl (Dr rfl rfl Aa) rfl (fun a7=>?_) ?_
      ·refine Bh (t:=155) (v0:=pV I 3) (lz (g:=(((((d.p.es.map Prod.snd).getD i Cq).pr)==((((d.p.es.map Prod.snd).take i).getD k Cq).pr))&&((((d.p.es.map Prod.snd).getD i Cq).ext)==((((d.p.es.map Prod.snd).take i).getD k Cq).ext)))&& !((((d.p.es.map Prod.snd).getD i Cq).src) !=((((d.p.es.map Prod.snd).take i).getD k Cq).src))) (u:=undef) a7 Aa) ?_
       exact Bf (b:=I) (o':=3) (i:=1) (j:=0) (v:=iV .u16<|((d.p.es.map Prod.snd).getD i Cq).frm) rfl Aa isAgg22 rfl rfl rfl
      refine Bz (v:=pV U 0) ((((((d.p.es.map Prod.snd).getD i Cq).pr)==((((d.p.es.map Prod.snd).take i).getD k Cq).pr))&&((((d.p.es.map Prod.snd).getD i Cq).ext)==((((d.p.es.map Prod.snd).take i).getD k Cq).ext)))&& !((((d.p.es.map Prod.snd).getD i Cq).src) !=((((d.p.es.map Prod.snd).take i).getD k Cq).src))) rfl (Dr rfl rfl Aa) rfl (fun da=>?_) ?_
      ·exact Ys.p
      refine Bz (v:=pV U 3) ((((((d.p.es.map Prod.snd).getD i Cq).pr)==((((d.p.es.map Prod.snd).take i).getD k Cq).pr))&&((((d.p.es.map Prod.snd).getD i Cq).ext)==((((d.p.es.map Prod.snd).take i).getD k Cq).ext)))&& !((((d.p.es.map Prod.snd).getD i Cq).src) !=((((d.p.es.map Prod.snd).take i).getD k Cq).src))) rfl (Dr rfl rfl Aa) rfl (fun a8=>?_) ?_
      ·refine Bh (t:=157) (v0:=pV U 0) (lz (g:=(((((d.p.es.map Prod.snd).getD i Cq).pr)==((((d.p.es.map Prod.snd).take i).getD k Cq).pr))&&((((d.p.es.map Prod.snd).getD i Cq).ext)==((((d.p.es.map Prod.snd).take i).getD k Cq).ext)))&& !((((d.p.es.map Prod.snd).getD i Cq).src) !=((((d.p.es.map Prod.snd).take i).getD k Cq).src))) (u:=undef) a8 Aa) ?_
       exact Ys.p
      refine Bz (v:=iV .u16<|(((d.p.es.map Prod.snd).take i).getD k Cq).frm) ((((((d.p.es.map Prod.snd).getD i Cq).pr)==((((d.p.es.map Prod.snd).take i).getD k Cq).pr))&&((((d.p.es.map Prod.snd).getD i Cq).ext)==((((d.p.es.map Prod.snd).take i).getD k Cq).ext)))&& !((((d.p.es.map Prod.snd).getD i Cq).src) !=((((d.p.es.map Prod.snd).take i).getD k Cq).src))) rfl (Dr rfl rfl Aa) rfl (fun a9=>?_) ?_
      ·refine Bh (t:=158) (v0:=pV U 3) (lz (g:=(((((d.p.es.map Prod.snd).getD i Cq).pr)==((((d.p.es.map Prod.snd).take i).getD k Cq).pr))&&((((d.p.es.map Prod.snd).getD i Cq).ext)==((((d.p.es.map Prod.snd).take i).getD k Cq).ext)))&& !((((d.p.es.map Prod.snd).getD i Cq).src) !=((((d.p.es.map Prod.snd).take i).getD k Cq).src))) (u:=undef) a9 Aa) ?_
       exact Bf (b:=U) (o':=3) (i:=0) (j:=0) (v:=iV .u16<|(((d.p.es.map Prod.snd).take i).getD k Cq).frm) rfl Aa isAgg22 rfl rfl rfl
      refine Bz (v:=bV<|(((d.p.es.map Prod.snd).getD i Cq).frm) !=((((d.p.es.map Prod.snd).take i).getD k Cq).frm)) ((((((d.p.es.map Prod.snd).getD i Cq).pr)==((((d.p.es.map Prod.snd).take i).getD k Cq).pr))&&((((d.p.es.map Prod.snd).getD i Cq).ext)==((((d.p.es.map Prod.snd).take i).getD k Cq).ext)))&& !((((d.p.es.map Prod.snd).getD i Cq).src) !=((((d.p.es.map Prod.snd).take i).getD k Cq).src))) rfl (Dr rfl rfl Aa) rfl (fun aa=>?_) ?_
      ·refine Bh (t:=156) (v0:=iV .u16<|((d.p.es.map Prod.snd).getD i Cq).frm) (lz (g:=(((((d.p.es.map Prod.snd).getD i Cq).pr)==((((d.p.es.map Prod.snd).take i).getD k Cq).pr))&&((((d.p.es.map Prod.snd).getD i Cq).ext)==((((d.p.es.map Prod.snd).take i).getD k Cq).ext)))&& !((((d.p.es.map Prod.snd).getD i Cq).src) !=((((d.p.es.map Prod.snd).take i).getD k Cq).src))) (u:=undef) aa Aa)<|Bh (t:=159) (v0:=iV .u16<|(((d.p.es.map Prod.snd).take i).getD k Cq).frm) (lz (g:=(((((d.p.es.map Prod.snd).getD i Cq).pr)==((((d.p.es.map Prod.snd).take i).getD k Cq).pr))&&((((d.p.es.map Prod.snd).getD i Cq).ext)==((((d.p.es.map Prod.snd).take i).getD k Cq).ext)))&& !((((d.p.es.map Prod.snd).getD i Cq).src) !=((((d.p.es.map Prod.snd).take i).getD k Cq).src))) (u:=undef) aa Aa) ?_
       exact Ys.p
      refine Da 1 (((((d.p.es.map Prod.snd).getD i Cq).pr)==((((d.p.es.map Prod.snd).take i).getD k Cq).pr))&&((((d.p.es.map Prod.snd).getD i Cq).ext)==((((d.p.es.map Prod.snd).take i).getD k Cq).ext))) (fun ab=>Gs.y (v:=bV<|((((d.p.es.map Prod.snd).getD i Cq).src) !=((((d.p.es.map Prod.snd).take i).getD k Cq).src))||((((d.p.es.map Prod.snd).getD i Cq).frm) !=((((d.p.es.map Prod.snd).take i).getD k Cq).frm))) (Bh (t:=153) (v0:=bV<|(((d.p.es.map Prod.snd).getD i Cq).src) !=((((d.p.es.map Prod.snd).take i).getD k Cq).src)) (lz (g:=((((d.p.es.map Prod.snd).getD i Cq).pr)==((((d.p.es.map Prod.snd).take i).getD k Cq).pr))&&((((d.p.es.map Prod.snd).getD i Cq).ext)==((((d.p.es.map Prod.snd).take i).getD k Cq).ext))) (u:=undef) ab Aa)<|Bh (t:=160) (v0:=(bif !((((d.p.es.map Prod.snd).getD i Cq).src) !=((((d.p.es.map Prod.snd).take i).getD k Cq).src))then bV ((((d.p.es.map Prod.snd).getD i Cq).frm) !=((((d.p.es.map Prod.snd).take i).getD k Cq).frm))else undef)) (lz2 (g:=((((d.p.es.map Prod.snd).getD i Cq).pr)==((((d.p.es.map Prod.snd).take i).getD k Cq).pr))&&((((d.p.es.map Prod.snd).getD i Cq).ext)==((((d.p.es.map Prod.snd).take i).getD k Cq).ext))) ab Aa)<|Ce (e:=(((d.p.es.map Prod.snd).getD i Cq).src) !=((((d.p.es.map Prod.snd).take i).getD k Cq).src)) (b:=(((d.p.es.map Prod.snd).getD i Cq).frm) !=((((d.p.es.map Prod.snd).take i).getD k Cq).frm)) rfl Aa Aa Aa) Gs.nil)<|Ao (v:=bV<|(((((d.p.es.map Prod.snd).getD i Cq).pr)==((((d.p.es.map Prod.snd).take i).getD k Cq).pr))&&((((d.p.es.map Prod.snd).getD i Cq).ext)==((((d.p.es.map Prod.snd).take i).getD k Cq).ext)))&&(((((d.p.es.map Prod.snd).getD i Cq).src) !=((((d.p.es.map Prod.snd).take i).getD k Cq).src))||((((d.p.es.map Prod.snd).getD i Cq).frm) !=((((d.p.es.map Prod.snd).take i).getD k Cq).frm)))) (B9 (e:=((((d.p.es.map Prod.snd).getD i Cq).pr)==((((d.p.es.map Prod.snd).take i).getD k Cq).pr))&&((((d.p.es.map Prod.snd).getD i Cq).ext)==((((d.p.es.map Prod.snd).take i).getD k Cq).ext))) (b:=((((d.p.es.map Prod.snd).getD i Cq).src) !=((((d.p.es.map Prod.snd).take i).getD k Cq).src))||((((d.p.es.map Prod.snd).getD i Cq).frm) !=((((d.p.es.map Prod.snd).take i).getD k Cq).frm))) rfl Aa Aa Aa)<|Ai ?_
      refine Ak ((((((d.p.es.map Prod.snd).getD i Cq).pr)==((((d.p.es.map Prod.snd).take i).getD k Cq).pr))&&((((d.p.es.map Prod.snd).getD i Cq).ext)==((((d.p.es.map Prod.snd).take i).getD k Cq).ext)))&&(((((d.p.es.map Prod.snd).getD i Cq).src) !=((((d.p.es.map Prod.snd).take i).getD k Cq).src))||((((d.p.es.map Prod.snd).getD i Cq).frm) !=((((d.p.es.map Prod.snd).take i).getD k Cq).frm)))) Aa (fun au=>?_) fun cm=>?_
      ·have ba:=au;try simp only[zA]at ba
       (have y_:=au;have k_:k<i:=Ae;simp only[Afp Cq k_]at y_;exact(Afq E (by rw[c5];exact c7) Ae Ae y_).elim)
      ·have bb:=cm;try simp only[zA]at bb
       refine Ag<|A9<|Ac<|Bw (((k+1):Nat):Int) (k:Int) 1<|Ab 1 ?_
       refine Ay ?_
       refine fun C o=>a3 (k+1) _ C Ae Ae ?_<|o.pick [1,2,3,4,5] An rfl
       kernel_rfl
     ·have bc:=cl;try simp only[zA]at bc
      refine Cm<|A9<|Al [1,2,3,4] An rfl<|Ac<|Bw (((i+1):Nat):Int) (i:Int) 1 ?_
      refine Ab 1<|Ay ?_
      refine fun C o=>N (i+1) _ C Ae Ae ?_ o
      kernel_rfl
    ·have bd:=cj;try simp only[zA]at bd
     refine Cm<|A9<|W.s<|C5 [(0,true),(1,true),(2,false),(3,false),(4,false),(5,false),(6,true),(8,true),(9,true),(7,false),(10,false),(11,false),(12,false)] [0,1,6,8,9]<|Bs 6 [(2,0),(3,0)] ?_
     refine Bg (v:=pL<|some ⟨l.nb,0,none⟩) (decide<|(((d.p.es.map Prod.snd).length:Nat):Int)≤c.ms) rfl (Bv rfl Aa) rfl (fun db=>?_) ?_
     ·exact Ys.p
     refine Bg (v:=sL h.a ((d.p.es.map Prod.snd).length) h.cap) (decide<|(((d.p.es.map Prod.snd).length:Nat):Int)≤c.ms) rfl (Bv rfl Aa) rfl (fun dc=>?_) ?_
     ·exact Cn F 0 2 0 isAgg68
     refine Bg (v:=nV .i64<|(d.p.es.map Prod.snd).length) (decide<|(((d.p.es.map Prod.snd).length:Nat):Int)≤c.ms) rfl (Bv rfl Aa) rfl (fun ad=>?_) ?_
     ·have aj:=ad;try simp only[zA]at aj
      refine Bh (t:=173) (v0:=sL h.a ((d.p.es.map Prod.snd).length) h.cap) (lz (g:=decide<|(((d.p.es.map Prod.snd).length:Nat):Int)≤c.ms) (u:=undef) ad Aa) ?_
      exact Ys.p
     refine Vv (decide<|(((d.p.es.map Prod.snd).length:Nat):Int)≤c.ms) (fun D=>?_) fun Q=>?_
     ·have bf:=D;try simp only[zA]at bf
      refine Hg 169 (v0:=.bool true) (Kx (e:=decide<|(((d.p.es.map Prod.snd).length:Nat):Int)≤c.ms) Aa D)<|Hg 170 (v0:=.bool true) (Kx (e:=decide<|(((d.p.es.map Prod.snd).length:Nat):Int)≤c.ms) Aa D)<|Hg 171 (v0:=pL<|some ⟨l.nb,0,none⟩) (lz (g:=decide<|(((d.p.es.map Prod.snd).length:Nat):Int)≤c.ms) (u:=undef) D Aa)<|Hg 173 (v0:=sL h.a ((d.p.es.map Prod.snd).length) h.cap) (lz (g:=decide<|(((d.p.es.map Prod.snd).length:Nat):Int)≤c.ms) (u:=undef) D Aa)<|Hg 174 (v0:=nV .i64<|(d.p.es.map Prod.snd).length) (lz (g:=decide<|(((d.p.es.map Prod.snd).length:Nat):Int)≤c.ms) (u:=undef) D Aa) ?_
      refine Yl rfl Aa (Au [0] [1,2,3] fun C A T=>(Ajx l d _ _ E.ok T)) (.inr fun _ _ o=>o) fun d3 _=>Bp (v:=bV<|((d.p.xs.length:Nat):Int)==((d.p.es.map Prod.snd).length:Int)) (true) rfl Aa rfl (fun _=>Ys.yc Ys.p) (.inr fun _ o=>o)<|Bs 2 []<|Cl ?_
      refine Al [0] An rfl<|Am rfl<|D7 rfl (Ar<|bV<|((d.p.xs.length:Nat):Int)==((d.p.es.map Prod.snd).length:Int)) (by clear V N;exact B2 (beq_iff_eq.2 (by have ak:=congrArg List.length E.a.tie;rw[List.length_map]at ak;rw[List.length_map,ak])))
     ·have bg:=Q;try simp only[zA]at bg
      refine Hg 169 (v0:=.bool false) (Kx (e:=decide<|(((d.p.es.map Prod.snd).length:Nat):Int)≤c.ms) Aa Q)<|Hg 170 (v0:=.bool false) (Kx (e:=decide<|(((d.p.es.map Prod.snd).length:Nat):Int)≤c.ms) Aa Q)<|Jj rfl Aa rfl (.inr fun _ o=>o)<|Jj rfl Aa rfl (.inr fun _ o=>o)<|Bs 2 [] ?_
      refine Cl<|Al [0] An rfl<|Am rfl<|D7 rfl (Ar<|bV false) (by clear V N;exfalso;have ak:=congrArg List.length E.a.tie;rw[List.length_map]at ak;have dd:=O.2.1;have bh:=E.ok.hxn;rw[c6]at bh;have dg:=of_decide_eq_false Q;rw[List.length_map]at dg;unfold Ep at bh;have en:1≤c.ms∧c.ms≤4096:=dd;split at bh<;>omega)
end Go.Proofs.YtmonlaoaengfdaaGreatDoor.Oct
