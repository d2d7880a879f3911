import Derived.Test.YtmonlaoaengfdaaGreatDoorM13
import Derived.Test.YtmonlaoaengfdaaGreatDoorM6
import Derived.Test.YtmonlaoaengfdaaGreatDoorM8
set_option linter.unusedVariables false
set_option linter.unusedSimpArgs false
set_option maxRecDepth 20000
namespace Go.Proofs.YtmonlaoaengfdaaGreatDoor.Oct
open Go.RowKit Base Tryz
attribute [local irreducible] Ys Yc Ht HtS HtIn Wl Wd W Mem pf Ez Wa Wo KW
open Conf (Fwd fwv)
theorem Amg:FxU []:=fun _ h=>by cases h
theorem Amh:RngF []:=fun _ h=>by cases h
theorem Sg{ttl pid:Int}{s d:Nat}{xs:List UInt8}{e f:Nat}(h:DgP s d xs e f){s2 d2 f2 t2:Nat}{g:Ci}{b:Int}{pv:PkV}{c:List Blk}(i:Pk (dgF s d xs) (dgV ttl pid s d xs) (fun _=>0) (dgS s d xs) g b pv c)(j:g=(((17:Nat):Int),(s2:Int),(d2:Int),(f2:Int),(t2:Int)))
    (n:s2<4294967296) (b2:d2<4294967296) (o:f2<65536) (q:t2<65536):b=0∧ ∃(x:FS) (ys:List UInt8),x.ok 1 ys.length∧pv=⟨ttl,17,pid,(s2:Int),(d2:Int),x.a,ys.length,x.cap⟩∧c=x.seg 5 (mc b8 ys)∧DgP s2 d2 ys f2 t2:=by
  subst j
  have l:RngFl (((17:Nat):Int),(s2:Int),(d2:Int),(f2:Int),(t2:Int)):=by refine⟨⟨?_,?_⟩,⟨?_,?_⟩,⟨?_,?_⟩,⟨?_,?_⟩,?_,?_⟩<;>(show _≤_;dsimp only;omega)
  exact Aiy h l i
abbrev spF(d b:Nat):Ci:=(((17:Nat):Int),((3232235783:Nat):Int),(d:Int),(b:Int),((53:Nat):Int))
abbrev spE(b:Nat):Ix:=(((17:Nat):Int),((3232235783:Nat):Int),(b:Int))
section
variable {β:Type}{Φr:Ci→β→Prop}{rv:Ci→β→PkV}{re:Ci→Int}{rs:Ci→β→List Blk}{k:NK}{s r:NS}{src cd:Int}{qu:Bool}{pv:PkV}{bl:List Blk}{c:Conf.Cfg}
theorem Aph(d:NewP c [] k s)(n:c.ms=8)(o:OutR Φr rv re rs k s (spF 134744072 5000) src 1 0 true qu 0 0 r cd pv bl):(r.p.es.length=1∧ ∀x∈r.p.es,x.2.given=true∧Ed x.2=spF 134744072 5000∧x.2.ext=1024)∧Pk Φr rv re rs (((17:Nat):Int),k.c.wan,((134744072:Nat):Int),((1024:Nat):Int),((53:Nat):Int)) cd pv bl:=by
  have f: ∀x∈s.p.es,False:=fun x e=>by rw[d.es]at e;cases e
  have g:pk (s.p.TT 17) 0=1024:=Ame (Bool.eq_false_iff.2 fun h=>by
    obtain⟨x,e,_⟩:=(d.inv.tt d.ms d.kfx (p:=17) (q:=1024) An).1 h
    exact f x e)
  obtain⟨A,B,b,E,j,t,i,u⟩:=Ut d.inv d.ms d.kfx (by rw[d.es,d.kmo,n];decide) (fun x e=>(f x e).elim) o (ext:=((1024:Nat):Int)) (.inr ⟨fun x e=>(f x e).elim,by show pk (s.p.TT 17) 0<65536;rw[g];decide,by show _=((pk (s.p.TT 17) 0:Nat):Int);rw[g]⟩)
  rw[d.es]at j
  have l:=List.append_eq_nil_iff.1 j.symm
  rw[i,l.1,l.2]
  obtain⟨w,C,D,_,_⟩:=t.nw
  refine⟨⟨rfl,fun x e=>?_⟩,u⟩
  obtain rfl:=List.mem_singleton.1 e
  exact⟨D,w,C⟩
theorem Api(t:Inv k s)(i:s.p.ms=[])(j:k.fx=[])(l:k.mo=8)(e:s.p.es.length=1∧ ∀x∈s.p.es,x.2.given=true∧Ed x.2=spF 134744072 5000∧x.2.ext=1024)(u:OutR Φr rv re rs k s (spF 134744073 5000) src 1 0 true qu 0 0 r cd pv bl):
    (r.p.es.length=2∧ ∀x∈r.p.es,x.2.given=true∧Cc (Ed x.2)=spE 5000∧x.2.ext=1024)∧Pk Φr rv re rs (((17:Nat):Int),k.c.wan,((134744073:Nat):Int),((1024:Nat):Int),((53:Nat):Int)) cd pv bl:=by
  obtain⟨o,f⟩: ∃x,x∈s.p.es:=List.exists_mem_of_length_pos Ae
  have n:=e.2 o f
  obtain⟨A,B,b,G,q,w,g,C⟩:=Ut t i j (by rw[e.1,l];decide) (fun x d h=>by rw[(e.2 x d).2.1]at h;cases h) u (ext:=((1024:Nat):Int)) (.inl ⟨o,f,n.1,by rw[n.2.1];rfl,n.2.2⟩)
  obtain⟨H,D,E,_,F⟩:=w.nw
  refine⟨⟨?_,fun x d=>?_⟩,C⟩
  · have:=e.1;rw[q]at this;rw[g];simp only[List.length_append,List.length_cons]at*;omega
  · rw[g]at d
    rcases Cr.1 d with rfl|d
    · exact⟨E,F,D⟩
    · have h:=e.2 x (by rw[q];exact d)
      exact⟨h.1,by rw[h.2.1];rfl,h.2.2⟩
theorem Apj(n:Inv k s)(d:s.p.ms=[])(e:k.fx=[])(o:k.mo=8)(f:s.p.es.length=2∧ ∀x∈s.p.es,x.2.given=true∧Cc (Ed x.2)=spE 5000∧x.2.ext=1024)(D:OutR Φr rv re rs k s (spF 134744072 5001) src 1 0 true qu 0 0 r cd pv bl):
    r.p.es.length=3∧Pk Φr rv re rs (((17:Nat):Int),k.c.wan,((134744072:Nat):Int),((1025:Nat):Int),((53:Nat):Int)) cd pv bl:=by
  obtain⟨t,g⟩: ∃x,x∈s.p.es:=List.exists_mem_of_length_pos Ae
  have u:=f.2 t g
  have w:t.2.pr=((17:Nat):Int):=congrArg (·.1) u.2.1
  have i:pk (s.p.TT 17) 0=1025:=Amf ((n.tt d e (p:=17) (q:=1024) An).2 ⟨t,g,u.1,w,u.2.2⟩) (Bool.eq_false_iff.2 fun h=>by
    obtain⟨x,j,_,_,l⟩:=(n.tt d e (p:=17) (q:=1025) An).1 h
    rw[(f.2 x j).2.2]at l;cases l)
  obtain⟨A,B,b,G,E,H,C,F⟩:=Ut n d e (by rw[f.1,o];decide) (fun x j h=>by have l:=(f.2 x j).2.1;rw[h]at l;cases l) D (ext:=((1025:Nat):Int)) (.inr ⟨fun x j _ h=>(by rw[(f.2 x j).2.1]at h;cases h),by show pk (s.p.TT 17) 0<65536;rw[i];decide,by show _=((pk (s.p.TT 17) 0:Nat):Int);rw[i]⟩)
  refine⟨?_,F⟩
  have:=f.1;rw[E]at this;rw[C];simp only[List.length_append,List.length_cons]at*;omega
end
abbrev Vc(b d e:FS)(i:Nat)(f g h:List UInt8):List Blk:=[cb i [iV .u8 9,iV .u8 17,iV .u16 0,nV .u32 3232235783,nV .u32 134744072,sL b.a f.length b.cap,iV .u8 9,iV .u8 17,iV .u16 0,nV .u32 3232235783,nV .u32 134744073,sL d.a g.length d.cap,iV .u8 9,iV .u8 17,iV .u16 0,nV .u32 3232235783,nV .u32 134744072,sL e.a h.length e.cap] 40]
abbrev Q24(b:FS)(e:Nat)(d:List UInt8):List Blk:=[cb e [iV .u8 9,iV .u8 17,iV .u16 0,nV .u32 3232235783,nV .u32 134744072,sL b.a d.length b.cap] 40]
abbrev Q25(b:FS)(e:Nat)(d:List UInt8):List Blk:=[cb e [iV .u8 9,iV .u8 17,iV .u16 0,nV .u32 3232235783,nV .u32 134744073,sL b.a d.length b.cap] 40]
abbrev Q26(b:FS)(e:Nat)(d:List UInt8):List Blk:=[cb e [iV .u8 9,iV .u8 17,iV .u16 0,nV .u32 3232235783,nV .u32 134744072,sL b.a d.length b.cap] 40]
abbrev Q27(b:Nat):List Blk:=[cb b [iV .u8 17,iV .u32 3405803781,iV .u32 134744073,iV .u16 1024,iV .u16 53] 47]
abbrev Q28(b:Nat):List Blk:=[cb b [iV .u8 17,iV .u32 3405803781,iV .u32 134744072,iV .u16 1024,iV .u16 53] 47]
abbrev Q29:List Value:=Oc
abbrev Q2a:List Value:=zl0
theorem X5(w:World)(O:At w (some ⟨0,0,none⟩) (Cx dbt)):Calls prog 7 #[] w (Df w (.bool true)):=by
 have T:0<(Cx dbt).length→(Option.getD (some (⟨0,0,none⟩:Addr)) default).block∉([]:List Nat):=fun _ h_=>by cases h_
 refine Ap (M:=[]) (LL:=[]) (n:=50) func7 rfl rfl A7 (Mem.refl _)<|Aj []<|Av<|Cb (v:=aV [iV .u8 2,iV .u8 0,iV .u8 0,iV .u8 0,iV .u8 0,iV .u8 1,iV .u8 2,iV .u8 0,iV .u8 0,iV .u8 0,iV .u8 1,iV .u8 1,iV .u8 2,iV .u8 0,iV .u8 0,iV .u8 0,iV .u8 1,iV .u8 2,iV .u32 3232235777,iV .u32 3405803781,iV .i64 24,iV .i64 8,iV .i64 4,iV .i64 3,iV .i64 2,sL none 0 0,iV .u32 0,Value.string (Ab5 [48,48,48,48,48,48,48,48,45,49,49,49,49,45,50,50,50,50,45,51,51,51,51,45,52,52,52,52,52,52,52,52,52,52,52,52])]) (A8 fun U j=>(Ahf _)) ?_
 refine Aw rfl (Au [] [] fun U j H=>(Aeo (⟨2,0,0,0,0,1,2,0,0,0,1,1,2,0,0,0,1,2,3232235777,3405803781,24,8,4,3,2,none,0,0,0,(Ab5 [48,48,48,48,48,48,48,48,45,49,49,49,49,45,50,50,50,50,45,51,51,51,51,45,52,52,52,52,52,52,52,52,52,52,52,52])⟩:Conf.Cfg) [] none 0 _ (At.nil _ _) An An Amh Amg)) fun q7 az=>?_
 obtain⟨l,N⟩:=q7
 dsimp only at az
 have B:=az
 refine B0 (LL':=[NG l N]) rfl<|Ab 1<|Ai<|W.s ?_
 refine Aj []<|B4 Aa<|Ag<|A9<|W.s ?_
 refine Av<|Aw rfl (Au [] [0] fun U j H=>(M4 3232235783 134744072 5000 53 _ Ae Ae Ae Ae)) fun bo ad=>?_
 obtain⟨d,b⟩:=bo
 dsimp only at ad
 obtain⟨E,q⟩:=ad
 refine B0 (LL':=[d.seg 5 (mc b8 b),NG l N]) rfl ?_
 have bx:=q.hl
 refine Aw rfl (Au [] [0,1] fun U j H=>(M4 3232235783 134744073 5000 53 _ Ae Ae Ae Ae)) fun bp ae=>?_
 obtain⟨f,e⟩:=bp
 dsimp only at ae
 obtain⟨F,u⟩:=ae
 refine B0 (LL':=[f.seg 5 (mc b8 e),d.seg 5<|mc b8 b,NG l N]) rfl ?_
 have bz:=u.hl
 refine Aw rfl (Au [] [0,1,2] fun U j H=>(M4 3232235783 134744072 5001 53 _ Ae Ae Ae Ae)) fun bq af=>?_
 obtain⟨h,g⟩:=bq
 dsimp only at af
 obtain⟨G,x⟩:=af
 refine B0 (LL':=[h.seg 5 (mc b8 g),f.seg 5<|mc b8 e,d.seg 5<|mc b8 b,NG l N]) rfl ?_
 have b0:=x.hl
 refine Af rfl (Bj (mk:=fun b_=>.slice (some ⟨b_,0,none⟩) 3 3) (t:=40) (cs:=[iV .u8 9,iV .u8 17,iV .u16 0,nV .u32 3232235783,nV .u32 134744072,sL d.a b.length d.cap,iV .u8 9,iV .u8 17,iV .u16 0,nV .u32 3232235783,nV .u32 134744073,sL f.a e.length f.cap,iV .u8 9,iV .u8 17,iV .u16 0,nV .u32 3232235783,nV .u32 134744072,sL h.a g.length h.cap]) rfl fun _=>kr) fun o=>Ab 2<|Ai<|W.block ?_
 refine Jq 4<|Dl fun ch ag=>?_
 refine Aj []<|W.s ?_
 refine Cd Aa<|Ag<|A9<|W.s<|W.block ?_
 refine Av<|Ab 1<|Ao (v:=pV o 0) ((Aq (k:=.i64) (a:=some ⟨o,0,none⟩) (len:=3) (cap:=3) (i:=0) (sz:=6) rfl Aa Aa runUnderlying79 sizeOf40 An An rfl).conseq Aa)<|A5 1 [(0,0)] ?_
 refine Af rfl (Ba zeroValue40) fun I=>Ab 1<|Af rfl (A0 I 0 0 0 [iV .u8 9,iV .u8 17,iV .u16 0,nV .u32 3232235783,nV .u32 134744072,sL d.a b.length d.cap] sizeOf40 rfl rfl) fun _=>Ai ?_
 refine Av<|A5 2 [(0,0)]<|Aw rfl (Au [5] [0,1,2,3,4] fun U j H=>(Tl l N _ 17 ((3232235783:Nat):Int) ((134744072:Nat):Int) ((5000:Nat):Int) ((53:Nat):Int) 9 17 0 ((3232235783:Nat):Int) ((134744072:Nat):Int) d.a b.length d.cap 1 0 true ((((mT b 0).toNat:Nat):Int) !=0) 0 false 0 0 FS (dgF 3232235783 134744072 b) (dgV 9 0 3232235783 134744072 b) (fun _=>0) (dgS 3232235783 134744072 b) _ B.inv H (by rw[B.lst];decide) (by rw[B.kc];exact⟨by decide,by decide⟩) An (X4 q) Ae (Aev q E.le fun LL_ P A=>FS.at (i:=LL_.length+4) (t:=5) (Mem.back (LL:=[NG l N]) (R:=[Q24 d I b,Vc d f h o b e g,h.seg 5<|mc b8 g,f.seg 5<|mc b8 e,d.seg 5 (mc b8 b)]) (Mem.pick [5,0,1,2,3,4] An j rfl) A) ((Kv 4).trans rfl)<|Ah E<|Bo _) (Aew q) (Aex q) (Aey q E.le fun LL_ P A=>FS.at (i:=LL_.length+4) (t:=5) (Mem.back (LL:=[NG l N]) (R:=[Q24 d I b,Vc d f h o b e g,h.seg 5<|mc b8 g,f.seg 5<|mc b8 e,d.seg 5 (mc b8 b)]) (Mem.pick [5,0,1,2,3,4] An j rfl) A) ((Kv 4).trans rfl)<|Ah E<|Bo _) (Aez q E.le fun LL_ P A=>FS.at (i:=LL_.length+4) (t:=5) (Mem.back (LL:=[NG l N]) (R:=[Q24 d I b,Vc d f h o b e g,h.seg 5<|mc b8 g,f.seg 5<|mc b8 e,d.seg 5 (mc b8 b)]) (Mem.pick [5,0,1,2,3,4] An j rfl) A) ((Kv 4).trans rfl)<|Ah E<|Bo _) (Dq (L:=[NG l N]) (R:=[Q24 d I b,Vc d f h o b e g,h.seg 5<|mc b8 g,f.seg 5<|mc b8 e,d.seg 5 (mc b8 b)]) O T<|Mem.pick [5,0,1,2,3,4] An j rfl).1 (Dq (L:=[NG l N]) (R:=[Q24 d I b,Vc d f h o b e g,h.seg 5<|mc b8 g,f.seg 5<|mc b8 e,d.seg 5 (mc b8 b)]) O T<|Mem.pick [5,0,1,2,3,4] An j rfl).2)) fun br ah=>?_
 obtain⟨C,b1,b3,a0⟩:=br
 dsimp only at ah
 obtain⟨ai,ap,aq,a1⟩:=ah
 refine B0 (LL':=[NG l C,a0,Q24 d I b,Vc d f h o b e g,h.seg 5<|mc b8 g,f.seg 5<|mc b8 e,d.seg 5 (mc b8 b)]) rfl ?_
 skip
 ·have aj:l.mo=8:=by rw[B.kmo];rfl
  have ak:C.p.ms=[]:=ap.trans B.ms
  have b4:C.p.lst≤1:=by have z_:=aq;rw[B.lst]at z_;omega
  obtain⟨a2,a3⟩:=Aph B rfl a1
  obtain⟨rfl,a5,a6,V,rfl,rfl,a7⟩:=Sg (s2:=3405803781) (d2:=134744072) (f2:=1024) (t2:=53) q a3 (by rw[B.kc];rfl) An An An An
  refine Ab 3<|Af rfl (Ba zeroValue40) fun p4=>?_
  refine Af rfl (A0 p4 0 0 0 [iV .u8 9,iV .u8 17,iV .u16 0,nV .u32 3405803781,nV .u32 134744072,sL a5.a a6.length a5.cap] sizeOf40 rfl rfl) fun _=>Ab 1<|Ai<|Al [0,1,2,4,5,6,7] An rfl ?_
  refine Av<|A5 1 [(0,0)]<|Cb (v:=Value.tuple #[aV [iV .u8 17,iV .u32 3405803781,iV .u32 134744072,iV .u16 1024,iV .u16 53],iV .i64 1,iV .i64 0]) (A8 fun U j=>(X3 (ttl:=9) (pid:=0) a7 V.le<|FS.at (i:=2) (t:=5) j rfl<|Ah V<|Bo _))<|Ab 4 ?_
  refine Af rfl (Ba zeroValue47) fun p6=>Af rfl (A0 p6 0 0 0 [iV .u8 17,iV .u32 3405803781,iV .u32 134744072,iV .u16 1024,iV .u16 53] sizeOf47 rfl rfl) fun _=>?_
  refine Ab 2<|Ai<|Al [0,2,4,5,6,7] An rfl<|Aj [(0,0)] ?_
  refine B4 Aa<|Ag<|A9<|Ac<|Ab 2 ?_
  refine Ay<|ag _ _ _<|Dl fun cj al=>Aj []<|W.s ?_
  refine Cd Aa<|Ag<|A9<|W.s<|W.block ?_
  refine Av<|Ab 1<|Ao (v:=pV o 6) ((Aq (k:=.i64) (a:=some ⟨o,0,none⟩) (len:=3) (cap:=3) (i:=1) (sz:=6) rfl Aa Aa runUnderlying79 sizeOf40 An An rfl).conseq Aa)<|A5 1 [(2,0)] ?_
  refine Af rfl (Ba zeroValue40) fun I=>Ab 1<|Af rfl (A0 I 0 0 0 [iV .u8 9,iV .u8 17,iV .u16 0,nV .u32 3232235783,nV .u32 134744073,sL f.a e.length f.cap] sizeOf40 rfl rfl) fun _=>Ai ?_
  refine Av<|A5 2 [(0,0)]<|Aw rfl (Au [2] [0,1,3,4,5,6] fun U j H=>(Tl l C _ 17 ((3232235783:Nat):Int) ((134744073:Nat):Int) ((5000:Nat):Int) ((53:Nat):Int) 9 17 0 ((3232235783:Nat):Int) ((134744073:Nat):Int) f.a e.length f.cap 1 0 true ((((mT e 0).toNat:Nat):Int) !=0) 0 false 0 0 FS (dgF 3232235783 134744073 e) (dgV 9 0 3232235783 134744073 e) (fun _=>0) (dgS 3232235783 134744073 e) _ ai H Ae (by rw[B.kc];exact⟨by decide,by decide⟩) An (X4 u) Ae (Aev u F.le fun LL_ P A=>FS.at (i:=LL_.length+4) (t:=5) (Mem.back (LL:=[NG l C]) (R:=[Q25 f I e,Q28 p6,Vc d f h o b e g,h.seg 5<|mc b8 g,f.seg 5<|mc b8 e,d.seg 5 (mc b8 b)]) (Mem.pick [2,0,1,3,4,5,6] An j rfl) A) ((Kv 4).trans rfl)<|Ah F<|Bo _) (Aew u) (Aex u) (Aey u F.le fun LL_ P A=>FS.at (i:=LL_.length+4) (t:=5) (Mem.back (LL:=[NG l C]) (R:=[Q25 f I e,Q28 p6,Vc d f h o b e g,h.seg 5<|mc b8 g,f.seg 5<|mc b8 e,d.seg 5 (mc b8 b)]) (Mem.pick [2,0,1,3,4,5,6] An j rfl) A) ((Kv 4).trans rfl)<|Ah F<|Bo _) (Aez u F.le fun LL_ P A=>FS.at (i:=LL_.length+4) (t:=5) (Mem.back (LL:=[NG l C]) (R:=[Q25 f I e,Q28 p6,Vc d f h o b e g,h.seg 5<|mc b8 g,f.seg 5<|mc b8 e,d.seg 5 (mc b8 b)]) (Mem.pick [2,0,1,3,4,5,6] An j rfl) A) ((Kv 4).trans rfl)<|Ah F<|Bo _) (Dq (L:=[NG l C]) (R:=[Q25 f I e,Q28 p6,Vc d f h o b e g,h.seg 5<|mc b8 g,f.seg 5<|mc b8 e,d.seg 5 (mc b8 b)]) O T<|Mem.pick [2,0,1,3,4,5,6] An j rfl).1 (Dq (L:=[NG l C]) (R:=[Q25 f I e,Q28 p6,Vc d f h o b e g,h.seg 5<|mc b8 g,f.seg 5<|mc b8 e,d.seg 5 (mc b8 b)]) O T<|Mem.pick [2,0,1,3,4,5,6] An j rfl).2)) fun bs am=>?_
  obtain⟨D,b5,b6,a9⟩:=bs
  dsimp only at am
  obtain⟨an,ar,bt,ba⟩:=am
  refine B0 (LL':=[NG l D,a9,Q25 f I e,Q28 p6,Vc d f h o b e g,h.seg 5<|mc b8 g,f.seg 5<|mc b8 e,d.seg 5 (mc b8 b)]) rfl ?_
  skip
  ·have bb:D.p.ms=[]:=ar.trans ak
   have b7:D.p.lst≤2:=by omega
   obtain⟨bc,bd⟩:=Api ai ak B.kfx aj a2 ba
   obtain⟨rfl,bf,bg,X,rfl,rfl,bh⟩:=Sg (s2:=3405803781) (d2:=134744073) (f2:=1024) (t2:=53) u bd (by rw[B.kc];rfl) An An An An
   refine Ab 3<|Af rfl (Ba zeroValue40) fun p4=>?_
   refine Af rfl (A0 p4 0 0 0 [iV .u8 9,iV .u8 17,iV .u16 0,nV .u32 3405803781,nV .u32 134744073,sL bf.a bg.length bf.cap] sizeOf40 rfl rfl) fun _=>Ab 1<|Ai<|Al [0,1,2,4,5,6,7,8] An rfl ?_
   refine Av<|A5 1 [(0,0)]<|Cb (v:=Value.tuple #[aV [iV .u8 17,iV .u32 3405803781,iV .u32 134744073,iV .u16 1024,iV .u16 53],iV .i64 1,iV .i64 0]) (A8 fun U j=>(X3 (ttl:=9) (pid:=0) bh X.le<|FS.at (i:=2) (t:=5) j rfl<|Ah X<|Bo _))<|Ab 4 ?_
   refine Af rfl (Ba zeroValue47) fun J=>Af rfl (A0 J 0 0 0 [iV .u8 17,iV .u32 3405803781,iV .u32 134744073,iV .u16 1024,iV .u16 53] sizeOf47 rfl rfl) fun _=>?_
   refine Ab 2<|Ai<|Al [0,2,4,5,6,7,8] An rfl<|Aj [(0,0)] ?_
   refine Al [0,1,3,4,5,6] An rfl<|B4 Aa<|Ag<|A9<|Ac ?_
   refine Ab 2<|Ay<|al _ _ _<|Dl fun b9 Y=>Aj [] ?_
   refine W.s<|Cd Aa<|Ag<|A9<|W.s ?_
   refine W.block<|W.s ?_
   refine Ac<|Ab 1<|Ao (v:=pV o 12) ((Aq (k:=.i64) (a:=some ⟨o,0,none⟩) (len:=3) (cap:=3) (i:=2) (sz:=6) rfl Aa Aa runUnderlying79 sizeOf40 An An rfl).conseq Aa)<|A5 1 [(2,0)]<|Af rfl (Ba zeroValue40) fun I=>?_
   refine Ab 1<|Af rfl (A0 I 0 0 0 [iV .u8 9,iV .u8 17,iV .u16 0,nV .u32 3232235783,nV .u32 134744072,sL h.a g.length h.cap] sizeOf40 rfl rfl) fun _=>?_
   refine Ai<|Av<|A5 2 [(0,0)] ?_
   refine Aw rfl (Au [2] [0,1,3,4,5,6] fun U j H=>(Tl l D _ 17 ((3232235783:Nat):Int) ((134744072:Nat):Int) ((5001:Nat):Int) ((53:Nat):Int) 9 17 0 ((3232235783:Nat):Int) ((134744072:Nat):Int) h.a g.length h.cap 1 0 true ((((mT g 0).toNat:Nat):Int) !=0) 0 false 0 0 FS (dgF 3232235783 134744072 g) (dgV 9 0 3232235783 134744072 g) (fun _=>0) (dgS 3232235783 134744072 g) _ an H Ae (by rw[B.kc];exact⟨by decide,by decide⟩) An (X4 x) Ae (Aev x G.le fun LL_ P A=>FS.at (i:=LL_.length+3) (t:=5) (Mem.back (LL:=[NG l D]) (R:=[Q26 h I g,Q27 J,Vc d f h o b e g,h.seg 5<|mc b8 g,f.seg 5<|mc b8 e,d.seg 5 (mc b8 b)]) (Mem.pick [2,0,1,3,4,5,6] An j rfl) A) ((Kv 3).trans rfl)<|Ah G<|Bo _) (Aew x) (Aex x) (Aey x G.le fun LL_ P A=>FS.at (i:=LL_.length+3) (t:=5) (Mem.back (LL:=[NG l D]) (R:=[Q26 h I g,Q27 J,Vc d f h o b e g,h.seg 5<|mc b8 g,f.seg 5<|mc b8 e,d.seg 5 (mc b8 b)]) (Mem.pick [2,0,1,3,4,5,6] An j rfl) A) ((Kv 3).trans rfl)<|Ah G<|Bo _) (Aez x G.le fun LL_ P A=>FS.at (i:=LL_.length+3) (t:=5) (Mem.back (LL:=[NG l D]) (R:=[Q26 h I g,Q27 J,Vc d f h o b e g,h.seg 5<|mc b8 g,f.seg 5<|mc b8 e,d.seg 5 (mc b8 b)]) (Mem.pick [2,0,1,3,4,5,6] An j rfl) A) ((Kv 3).trans rfl)<|Ah G<|Bo _) (Dq (L:=[NG l D]) (R:=[Q26 h I g,Q27 J,Vc d f h o b e g,h.seg 5<|mc b8 g,f.seg 5<|mc b8 e,d.seg 5 (mc b8 b)]) O T<|Mem.pick [2,0,1,3,4,5,6] An j rfl).1 (Dq (L:=[NG l D]) (R:=[Q26 h I g,Q27 J,Vc d f h o b e g,h.seg 5<|mc b8 g,f.seg 5<|mc b8 e,d.seg 5 (mc b8 b)]) O T<|Mem.pick [2,0,1,3,4,5,6] An j rfl).2)) fun bi Z=>?_
   obtain⟨Q,bu,bw,au⟩:=bi
   dsimp only at Z
   obtain⟨aa,bm,bn,av⟩:=Z
   refine B0 (LL':=[NG l Q,au,Q26 h I g,Q27 J,Vc d f h o b e g,h.seg 5<|mc b8 g,f.seg 5<|mc b8 e,d.seg 5 (mc b8 b)]) rfl ?_
   skip
   ·obtain⟨bj,bk⟩:=Apj an bb B.kfx aj bc av
    obtain⟨rfl,ao,aw,S,rfl,rfl,ax⟩:=Sg (s2:=3405803781) (d2:=134744072) (f2:=1025) (t2:=53) x bk (by rw[B.kc];rfl) An An An An
    refine Ab 3<|Af rfl (Ba zeroValue40) fun p4=>?_
    refine Af rfl (A0 p4 0 0 0 [iV .u8 9,iV .u8 17,iV .u16 0,nV .u32 3405803781,nV .u32 134744072,sL ao.a aw.length ao.cap] sizeOf40 rfl rfl) fun _=>Ab 1<|Ai<|Al [0,1,2,4,5,6,7,8] An rfl ?_
    refine Av<|A5 1 [(0,0)]<|Cb (v:=Value.tuple #[aV [iV .u8 17,iV .u32 3405803781,iV .u32 134744072,iV .u16 1025,iV .u16 53],iV .i64 1,iV .i64 0]) (A8 fun U j=>(X3 (ttl:=9) (pid:=0) ax S.le<|FS.at (i:=2) (t:=5) j rfl<|Ah S<|Bo _))<|Ab 4 ?_
    refine Af rfl (Ba zeroValue47) fun p6=>Af rfl (A0 p6 0 0 0 [iV .u8 17,iV .u32 3405803781,iV .u32 134744072,iV .u16 1025,iV .u16 53] sizeOf47 rfl rfl) fun _=>?_
    refine Ab 2<|Ai<|Al [0,2,4,5,6,7,8] An rfl<|Aj [(0,0)] ?_
    refine Al [0,1,3,4,5,6] An rfl<|B4 Aa<|Ag<|A9<|Ac ?_
    refine Ab 2<|Ay<|Y _ _ _<|Dl fun ca ay=>Aj [] ?_
    refine W.s<|B4 Aa<|Cm<|A9<|Al [1] An rfl ?_
    refine Av<|Ab 1<|Aw rfl (Au [0] [] fun U j H=>(Ajx l Q _ _ aa.ok H)) fun cc _=>Ab 2 ?_
    refine Ai<|Am rfl<|D7 rfl (Ar<|bV<|((Q.p.xs.length:Nat):Int)==3)<|by clear ag al Y ay;exact B2 (by rw[aa.a.xes,bj];rfl)
theorem Sh(ty b:UInt8)(re:Nat)(xs:List UInt8)(a:Option Addr)(cap:Nat)(len:Nat)(w:World)(f:len=xs.length)(d:At w a (Cx xs))(h:re<4294967296)(i:xs.length≤100000)(e:xs.length≤cap):Calls prog 97 #[Value.agg ([Value.int .u8 (ty.toNat:Int),Value.int .u8 (b.toNat:Int),Value.int .u32 (re:Int),sL a len cap]).toArray] w (Bn w (fun g:FS=>g.ok 1 (mB ty b re xs).length) (fun g=>.tuple #[.slice g.a (mB ty b re xs).length g.cap,.int .i64 (uE xs.length)]) [] (fun g=>[g.seg 5 (Cx (mB ty b re xs))])):=by
  subst f;exact Aix ty b re xs a cap w d h i e
theorem Si(xs:List UInt8)(a:Option Addr)(cap:Nat)(len:Nat)(w:World)(e:len=xs.length)(b:At w a (Cx xs))(f:len≤100000)(d:len≤cap):Calls prog 87 #[.slice a len cap] w (Bn w (fun g:FS=>g.ok 1 (mD xs).length) (fun g=>.tuple #[.agg [.int .u8 ((mT xs 0).toNat:Int),.int .u8 ((mT xs 1).toNat:Int),.int .u32 (mN xs:Int),.slice g.a (mD xs).length g.cap].toArray,.int .i64 (mR xs)]) [] (fun g=>[g.seg 5 (Cx (mD xs))])):=by
  subst e;exact Zw xs a cap w b f d
theorem Ae0(xs:List UInt8):(mD xs).length≤1472:=by
  unfold mD mg;cases h:decide (mR xs=0)
  · simp
  · have b:mR xs=0:=by simpa using h
    unfold mR at b
    split at b
    · cases b
    · split at b
      · cases b
      · simp only[cond_true,List.length_drop];omega
def anU(b:Bool)(x:UInt8):UInt8:=bif b then x else 0
def anN(b:Bool)(x:Nat):Nat:=bif b then x else 0
theorem Ami{b:Bool}{x n:Nat}(h:x<n):anN b x<n:=by unfold anN;cases b<;>simp only[cond_true,cond_false]<;>omega
def a4(xs:List UInt8)(k:Nat):Nat:=w2 xs k*65536+w2 xs (k+2)
theorem Ae1(xs:List UInt8)(k:Nat):a4 xs k<4294967296:=by unfold a4;have:=Eu xs k;have:=Eu xs (k+2);omega
theorem Apl(xs:List UInt8)(k:Nat):(xs.getD k 0).toNat*256%65536|||(xs.getD (k+1) 0).toNat=w2 xs k:=by
  have d:=UInt8.toNat_lt (xs.getD k 0);have b:=UInt8.toNat_lt (xs.getD (k+1) 0)
  rw[Nat.mod_eq_of_lt Ae,show(xs.getD k 0).toNat*256=(xs.getD k 0).toNat*2^8 by rfl,Xb b]
  unfold w2;omega
theorem Apm(xs:List UInt8)(k:Nat):w2 xs k*65536%4294967296|||w2 xs (k+2)=a4 xs k:=by
  have d:=Eu xs k;have b:=Eu xs (k+2)
  rw[Nat.mod_eq_of_lt Ae,show w2 xs k*65536=2^16*w2 xs k by omega,←Nat.two_pow_add_eq_or_of_lt b]
  unfold a4;omega
theorem Amj(xs:List UInt8)(a:Option Addr)(cap k:Nat)(w:World)(b:At w a (Cx xs))(j:k+1<xs.length)(l:xs.length≤1000000)(f:xs.length≤cap):Calls prog 152 #[sL a xs.length cap,nV .i64 k] w (Df w (.int .u16 (w2 xs k:Int))):=by
 refine Ap (M:=[]) (LL:=[]) (n:=18) func152 rfl rfl A7 (Mem.refl _)<|Aj []<|W.s<|C5 [(0,true),(1,true),(2,true),(3,true),(4,true),(5,true),(6,true),(7,false),(8,false),(9,false),(10,false),(11,false),(12,false),(13,false)] [0,1,2,3,4,5,6]<|B5 2 ?_
 refine Bm (v:=pL<|some<|Cs a<|k*1) rfl (Bb fun e d=>Aq (k:=.i64) (a:=a) (len:=xs.length) (cap:=cap) (i:=(k:Int)) (sz:=1) rfl Aa Aa runUnderlying38 sizeOf5 Ae Ae<|(b.mem0 d).here Iu)<|Bm (v:=nV .u8<|(xs.getD k 0).toNat) rfl (Ys.ld (a:=Cs a<|k*1) rfl Aa isAgg5 fun e d=>(b.mem0 d).ld<|Gi 0 Fp) ?_
 have g:(xs.getD k 0).toNat<256:=UInt8.toNat_lt _
 refine Bm (v:=nV .u16<|(xs.getD k 0).toNat) rfl ((Ys.p (v:=.int .u16<|Ct .u16 ((xs.getD k 0).toNat:Int))).conseq<|Ad<|Fb Ae Ae)<|Bm (v:=nV .u16<|(((xs.getD k 0).toNat)*256)%65536) rfl ((Ys.p (v:=.int .u16<|Jb .u16 ((xs.getD k 0).toNat:Int) ((8:Nat):Int))).conseq<|Ad<|Hf rfl ((xs.getD k 0).toNat) 8 An)<|Bs 2 []<|Gg (v:=nV .i64<|k+1) rfl ((Ys.p (v:=.int .i64<|D2 .i64 (k:Int) 1)).conseq<|Ad<|Fi Ae Ae Ae)<|Gg (v:=pL<|some<|Cs a<|(k+1)*1) rfl (Bb fun e d=>Aq (k:=.i64) (a:=a) (len:=xs.length) (cap:=cap) (i:=((k+1:Nat):Int)) (sz:=1) rfl Aa Aa runUnderlying38 sizeOf5 Ae Ae<|(b.mem0 d).here Iu) ?_
 refine Gg (v:=nV .u8<|(xs.getD (k+1) 0).toNat) rfl (Ys.ld (a:=Cs a<|(k+1)*1) rfl Aa isAgg5 fun e d=>(b.mem0 d).ld<|Gi 0 Fp) ?_
 have h:(xs.getD (k+1) 0).toNat<256:=UInt8.toNat_lt _
 refine Gg (v:=nV .u16<|(xs.getD (k+1) 0).toNat) rfl ((Ys.p (v:=.int .u16<|Ct .u16 ((xs.getD (k+1) 0).toNat:Int))).conseq<|Ad<|Fb Ae Ae)<|Gg (v:=nV .u16<|((((xs.getD k 0).toNat)*256)%65536)|||((xs.getD (k+1) 0).toNat)) rfl ((Ys.p (v:=.int .u16<|bor .u16 (((((xs.getD k 0).toNat)*256)%65536:Nat):Int) ((xs.getD (k+1) 0).toNat:Int))).conseq<|Ad<|Kg rfl Jg Jg)<|Dh 1 []<|Cl ?_
 refine Am rfl<|D7 rfl (Ar<|nV .u16<|((((xs.getD k 0).toNat)*256)%65536)|||((xs.getD (k+1) 0).toNat))<|by first|rfl|exact Ad (congrArg (fun n:Nat=>(n:Int))<|Apl xs k)
theorem G9(xs:List UInt8)(a:Option Addr)(cap k:Nat)(len:Nat)(w:World)(e:len=xs.length)(b:At w a (Cx xs))(f:k+1<xs.length)(g:xs.length≤1000000)(d:xs.length≤cap):Calls prog 152 #[.slice a len cap,.int .i64 (k:Int)] w (Df w (.int .u16 (w2 xs k:Int))):=by
  subst e;exact Amj xs a cap k w b f g d
theorem Amk(xs:List UInt8)(a:Option Addr)(cap k:Nat)(w:World)(d:At w a (Cx xs))(i:k+3<xs.length)(j:xs.length≤1000000)(e:xs.length≤cap):Calls prog 173 #[sL a xs.length cap,nV .i64 k] w (Df w (.int .u32 (a4 xs k:Int))):=by
 have f:=Eu xs k;have g:=Eu xs (k+2)
 refine Ap (M:=[]) (LL:=[]) (n:=16) func173 rfl rfl A7 (Mem.refl _)<|Aj []<|Av<|Ab 2 ?_
 refine Cb (v:=nV .u16<|w2 xs k) (A8 fun h b=>(G9 xs a cap k xs.length _ K1 (d.mem0 b) Ae Ae Ey))<|Ao (v:=nV .u32<|w2 xs k) ((Ys.p (v:=.int .u32<|Ct .u32 (w2 xs k:Int))).conseq<|Ad<|Nh Ae Ae)<|Ao (v:=nV .u32<|((w2 xs k)*65536)%4294967296) ((Ys.p (v:=.int .u32<|Jb .u32 (w2 xs k:Int) ((16:Nat):Int))).conseq<|Ad<|Hf rfl (w2 xs k) 16 An)<|Ab 2<|Bw (((k+2):Nat):Int) (k:Int) 2 ?_
 refine Cb (v:=nV .u16<|w2 xs<|k+2) (A8 fun h b=>(G9 xs a cap (k+2) xs.length _ K1 (d.mem0 b) Ae Ae Ey))<|Ao (v:=nV .u32<|w2 xs<|k+2) ((Ys.p (v:=.int .u32<|Ct .u32 (w2 xs (k+2):Int))).conseq<|Ad<|Nh Ae Ae)<|Ao (v:=nV .u32<|(((w2 xs k)*65536)%4294967296)|||(w2 xs<|k+2)) ((Ys.p (v:=.int .u32<|bor .u32 ((((w2 xs k)*65536)%4294967296:Nat):Int) (w2 xs (k+2):Int))).conseq<|Ad<|Kg rfl (by show _<4294967296;omega) (by show _<4294967296;omega))<|Ab 1<|Ay ?_
 refine A9<|Am rfl<|D7 rfl (Ar<|nV .u32<|(((w2 xs k)*65536)%4294967296)|||(w2 xs<|k+2))<|by first|rfl|exact Ad (congrArg (fun n:Nat=>(n:Int))<|Apm xs k)
theorem Zx(xs:List UInt8)(a:Option Addr)(cap k:Nat)(len:Nat)(w:World)(e:len=xs.length)(b:At w a (Cx xs))(f:k+3<xs.length)(g:xs.length≤1000000)(d:xs.length≤cap):Calls prog 173 #[.slice a len cap,.int .i64 (k:Int)] w (Df w (.int .u32 (a4 xs k:Int))):=by
  subst e;exact Amk xs a cap k w b f g d
def Mh(k:UInt8):Bool:=(k.toNat:Int)==8
def Wt(k c:UInt8):Bool:=(((c.toNat:Nat):Int)==0)&&(((k.toNat:Int)==8)||(((k.toNat:Nat):Int)==0))
def Sr(b:Bool)(x y:Nat):Nat:=bif b then x else y
theorem Uv(k c:UInt8)(w:World):Calls prog 96 #[nV .u8 k.toNat,nV .u8 c.toNat] w (Df w (.tuple #[.bool (Mh k),.bool (Wt k c)])):=by
 refine Ap (M:=[]) (LL:=[]) (n:=18) func96 rfl rfl A7 (Mem.refl _)<|Aj []<|Av<|Ab 5 ?_
 refine Da 3 (((c.toNat:Nat):Int)==0) (fun _=>Gs.z []) ?_
 refine Bz (v:=nV .u8 k.toNat) (((c.toNat:Int)==0)&& !(((k.toNat:Nat):Int)==8)) rfl (Dr rfl rfl Aa) rfl (fun h=>?_) ?_
 ·exact Ys.p
 refine Bz (v:=bV<|((k.toNat:Nat):Int)==0) (((c.toNat:Int)==0)&& !(((k.toNat:Nat):Int)==8)) rfl (Dr rfl rfl Aa) rfl (fun f=>?_) ?_
 ·refine Bh (t:=14) (v0:=nV .u8 k.toNat) (lz (g:=(((c.toNat:Nat):Int)==0)&& !(((k.toNat:Nat):Int)==8)) (u:=undef) f Aa) ?_
  exact Ys.p
 refine Da 1 (((c.toNat:Nat):Int)==0) (fun d=>Gs.y (v:=bV<|((k.toNat:Int)==8)||(((k.toNat:Nat):Int)==0)) (Bh (t:=13) (v0:=bV<|((k.toNat:Nat):Int)==8) (lz (g:=(c.toNat:Int)==0) (u:=undef) d Aa)<|Bh (t:=15) (v0:=(bif !(((k.toNat:Nat):Int)==8)then bV (((k.toNat:Nat):Int)==0)else undef)) (lz2 (g:=(c.toNat:Int)==0) d Aa)<|Ce (e:=(k.toNat:Int)==8) (b:=(k.toNat:Int)==0) rfl Aa Aa Aa) Gs.nil)<|Ao (v:=bV<|((c.toNat:Int)==0)&&(((k.toNat:Int)==8)||(((k.toNat:Nat):Int)==0))) (B9 (e:=(c.toNat:Int)==0) (b:=(((k.toNat:Nat):Int)==8)||(((k.toNat:Nat):Int)==0)) rfl Aa Aa Aa)<|Ab 2<|Ai ?_
 refine Am rfl<|L1 rfl (Ar<|bV<|((k.toNat:Nat):Int)==8) (Ar<|bV<|((c.toNat:Int)==0)&&(((k.toNat:Int)==8)||(((k.toNat:Nat):Int)==0))) rfl
theorem Ajy(pr:UInt8)(s d e f:Nat)(b:Nat)(q:Bool)(w:World):Calls prog 137 #[aV [nV .u8 pr.toNat,nV .u32 s,nV .u32 d,nV .u16 e,nV .u16 f],nV .u16 b,bV q] w (Df w (.agg ([nV .u8 pr.toNat,nV .u32 s,nV .u32 d,nV .u16 (Sr q b e),nV .u16 (Sr q f b)]).toArray)):=by
 refine Ap (M:=[]) (LL:=[]) (n:=13) func137 rfl rfl A7 (Mem.refl _)<|W.s ?_
 refine Ac<|Af rfl (Bx [nV .u8 pr.toNat,nV .u32 s,nV .u32 d,nV .u16 e,nV .u16 f] rfl) fun h=>?_
 refine Af rfl (Ba zeroValue47) fun g=>Ai<|W.s<|Aj [] ?_
 refine Ak (q) Aa (fun i=>?_) fun j=>?_
 ·refine Ac<|Ab 2<|Af rfl (Bd h 3 1 0 (nV .u16 b) sizeOf22 rfl rfl) fun _=>Ai ?_
  refine Av<|A5 1 [(1,0)]<|Af rfl (A0 g 0 0 0 [nV .u8 pr.toNat,nV .u32 s,nV .u32 d,nV .u16 b,nV .u16 f] sizeOf47 rfl rfl) fun _=>Ay ?_
  refine A9<|Al [0] An rfl<|Am rfl<|D7 rfl (Bu g 0 0 0 [nV .u8 pr.toNat,nV .u32 s,nV .u32 d,nV .u16 b,nV .u16 f] isAgg47 sizeOf47)<|by rw[i];rfl
 ·refine Ac<|Ab 2<|Af rfl (Bd h 4 1 0 (nV .u16 b) sizeOf22 rfl rfl) fun _=>Ai ?_
  refine Av<|A5 1 [(1,0)]<|Af rfl (A0 g 0 0 0 [nV .u8 pr.toNat,nV .u32 s,nV .u32 d,nV .u16 e,nV .u16 b] sizeOf47 rfl rfl) fun _=>Ay ?_
  refine A9<|Al [0] An rfl<|Am rfl<|D7 rfl (Bu g 0 0 0 [nV .u8 pr.toNat,nV .u32 s,nV .u32 d,nV .u16 e,nV .u16 b] isAgg47 sizeOf47)<|by rw[j];rfl
theorem M5(pr:UInt8)(s d b e:Nat)(w:World):Calls prog 95 #[aV [nV .u8 pr.toNat,nV .u32 s,nV .u32 d,nV .u16 b,nV .u16 e]] w (Df w (.agg ([nV .u8 pr.toNat,nV .u32 d,nV .u32 s,nV .u16 e,nV .u16 b]).toArray)):=by
 refine Ap (M:=[]) (LL:=[]) (n:=16) func95 rfl rfl A7 (Mem.refl _)<|W.s ?_
 refine Ac<|Af rfl (Bx [nV .u8 pr.toNat,nV .u32 s,nV .u32 d,nV .u16 b,nV .u16 e] rfl) fun f=>?_
 refine Af rfl (Ba zeroValue47) fun g=>Ai<|Av ?_
 refine A5 9 [(1,0),(1,0),(1,0),(1,0)]<|Af rfl (Bd f 1 1 0 (nV .u32 d) sizeOf24 rfl rfl) fun _=>?_
 refine Ab 1<|Af rfl (Bd f 2 1 0 (nV .u32 s) sizeOf24 rfl rfl) fun _=>?_
 refine Ab 1<|Af rfl (Bd f 3 1 0 (nV .u16 e) sizeOf22 rfl rfl) fun _=>?_
 refine Ab 1<|Af rfl (Bd f 4 1 0 (nV .u16 b) sizeOf22 rfl rfl) fun _=>?_
 refine Ai<|Av<|A5 1 [(1,0)] ?_
 refine Af rfl (A0 g 0 0 0 [nV .u8 pr.toNat,nV .u32 d,nV .u32 s,nV .u16 e,nV .u16 b] sizeOf47 rfl rfl) fun _=>Ai<|Al [0] An rfl<|Am rfl<|D7 rfl (I1 g 0 0 0 isAgg47 sizeOf47) rfl
def inC(xs:List UInt8):Bool:=((decide (((xs.length:Nat):Int)<28))||((((xs.getD 0 0).toNat:Nat):Int) !=69))||((((w2 xs 6)%8192:Nat):Int) !=0)
def i9(xs:List UInt8)(k:Int):Bool:=((xs.getD 9 0).toNat:Int)==k
def Uw(xs:List UInt8):UInt8:=bif inC xs then 0 else xs.getD 9 0
def Mn(xs:List UInt8)(k:Nat):Nat:=bif inC xs then 0 else a4 xs k
def Sj(xs:List UInt8):Nat:=bif inC xs then 0 else bif i9 xs 6 then w2 xs 20 else bif i9 xs 17 then w2 xs 20 else bif i9 xs 1 then Sr (Mh (xs.getD 20 0)) (w2 xs 24) 0 else 0
def Sk(xs:List UInt8):Nat:=bif inC xs then 0 else bif i9 xs 6 then w2 xs 22 else bif i9 xs 17 then w2 xs 22 else bif i9 xs 1 then Sr (Mh (xs.getD 20 0)) 0 (w2 xs 24)else 0
def P7(xs:List UInt8):Bool:=bif inC xs then false else bif i9 xs 6 then true else bif i9 xs 17 then true else bif i9 xs 1 then Wt (xs.getD 20 0) (xs.getD 21 0)else false
theorem Ux{b:Bool}{x y n:Nat}(d:x<n)(e:y<n):Sr b x y<n:=by unfold Sr;cases b<;>assumption
theorem Ae2(xs:List UInt8)(k:Nat):Mn xs k<4294967296:=by unfold Mn;cases inC xs;exact Ae1 xs k;show(0:Nat)<_;decide
theorem Aml(xs:List UInt8):Sj xs<65536:=by
  unfold Sj;have:=Eu xs 20;have:=Eu xs 24
  cases inC xs<;>cases i9 xs 6<;>cases i9 xs 17<;>cases i9 xs 1<;>simp only[cond_true,cond_false]<;>first|omega|exact Ux Ae Ae
theorem Amm(xs:List UInt8):Sk xs<65536:=by
  unfold Sk;have:=Eu xs 22;have:=Eu xs 24
  cases inC xs<;>cases i9 xs 6<;>cases i9 xs 17<;>cases i9 xs 1<;>simp only[cond_true,cond_false]<;>first|omega|exact Ux Ae Ae
abbrev Q2b(xs:List UInt8):List Value:=[nV .u8 ((xs.getD 9 0).toNat),nV .u32 (a4 xs 12),nV .u32 (a4 xs 16),iV .u16 0,iV .u16 0]
theorem Aiz(xs:List UInt8)(a:Option Addr)(cap:Nat)(w:World)(f:At w a (Cx xs))(hl:xs.length≤1000000)(ak:xs.length≤cap):Calls prog 138 #[sL a xs.length cap] w (Df w (.tuple #[.agg ([nV .u8 ((Uw xs).toNat),nV .u32 (Mn xs 12),nV .u32 (Mn xs 16),nV .u16 (Sj xs),nV .u16 (Sk xs)]).toArray,.bool (P7 xs)])):=by
 have aa:=Eu xs 20;have ab:=Eu xs 22;have ad:=Eu xs 24;have ae:=Ae1 xs 12;have af:=Ae1 xs 16;have al:=Eu xs 6
 refine Ap (M:=[]) (LL:=[]) (n:=61) func138 rfl rfl A7 (Mem.refl _)<|W.s ?_
 refine Ac<|Af rfl (Ba zeroValue47) fun o=>?_
 refine Ab 1<|Ai<|W.s<|W.s ?_
 refine Ac<|Ab 4<|C1 4 (decide<|((xs.length:Nat):Int)<28) (fun X=>by have D:=X;try simp only[zA]at D;exact Gs.m 1 [] (Gs.y (v:=Value.pointer<|some<|Cs a 0) (Bb fun t g=>Aq (k:=.i64) (a:=a) (len:=xs.length) (cap:=cap) (i:=0) (sz:=1) rfl Aa Aa runUnderlying38 sizeOf5 Ae Ae<|(f.mem0 g).here Iu)<|Gs.y (v:=nV .u8<|(xs.getD 0 0).toNat) (Ys.ld (a:=Cs a 0) rfl Aa isAgg5 fun t g=>(f.mem0 g).ld<|Ft 0 Fp)<|Gs.z []))<|Ao (v:=bV<|(decide<|((xs.length:Nat):Int)<28)||((((xs.getD 0 0).toNat:Nat):Int) !=69)) (Ce (e:=decide<|((xs.length:Nat):Int)<28) (b:=((xs.getD 0 0).toNat:Int) !=69) rfl Aa Aa Aa)<|Ab 1 ?_
 refine C1 4 ((decide<|((xs.length:Nat):Int)<28)||((((xs.getD 0 0).toNat:Nat):Int) !=69)) (fun Y=>by have E:=Y;try simp only[zA]at E;exact Gs.m 1 [] (Gs.k (v:=nV .u16<|w2 xs 6) (A8 fun t d=>(G9 xs a cap 6 xs.length _ K1 (f.mem0 d) Ae Ae Ey))<|Gs.y (v:=nV .u16<|(w2 xs 6)%8192) ((Ys.p (v:=.int .u16<|Dw .u16 ((w2 xs 6:Nat):Int) ((8191:Nat):Int))).conseq<|Ad<|H3 rfl (a:=w2 xs 6) (c:=13) Jg An 8191 rfl)<|Gs.z []))<|Ao (v:=bV<|((decide<|((xs.length:Nat):Int)<28)||((((xs.getD 0 0).toNat:Nat):Int) !=69))||((((w2 xs 6)%8192:Nat):Int) !=0)) (Ce (e:=(decide<|((xs.length:Nat):Int)<28)||((((xs.getD 0 0).toNat:Nat):Int) !=69)) (b:=(((w2 xs 6)%8192:Nat):Int) !=0) rfl Aa Aa Aa)<|Ai ?_
 refine Ak (((decide<|((xs.length:Nat):Int)<28)||((((xs.getD 0 0).toNat:Nat):Int) !=69))||((((w2 xs 6)%8192:Nat):Int) !=0)) Aa (fun F=>?_) fun u=>?_
 ·have G:=F;try simp only[zA]at G
  refine Av<|A5 1 [(0,0)]<|Af rfl (A0 o 0 0 0 zl0 sizeOf47 rfl rfl) fun _=>Ab 1 ?_
  refine Ai<|Am rfl ?_
  have q:inC xs=true:=F
  exact L1 rfl (Bu o 0 0 0 zl0 isAgg47 sizeOf47) (Ar<|bV false)<|by simp only[Uw,Mn,Sj,Sk,P7,q,cond_true,cond_false];try rfl
 ·have H:=u;try simp only[zA]at H
  refine Ag<|A9<|W.s<|C5 [(0,true),(1,true),(2,true),(3,true),(5,true),(4,false),(6,false),(7,false),(8,false)] [0,1,2,3,5]<|B5 1 ?_
  refine Bm (v:=pL<|some<|Cs a 9) rfl (Bb fun t g=>Aq (k:=.i64) (a:=a) (len:=xs.length) (cap:=cap) (i:=9) (sz:=1) rfl Aa Aa runUnderlying38 sizeOf5 Ae Ae<|(f.mem0 g).here Iu)<|Bm (v:=nV .u8<|(xs.getD 9 0).toNat) rfl (Ys.ld (a:=Cs a 9) rfl Aa isAgg5 fun t g=>(f.mem0 g).ld<|Ft 0 Fp) ?_
  have ag:(xs.getD 9 0).toNat<256:=UInt8.toNat_lt _
  refine B5 2<|Ec (v:=nV .u32<|a4 xs 12) rfl (A8 fun t d=>(Zx xs a cap 12 xs.length _ K1 (f.mem0 d) Ae Ae Ey))<|Ec (v:=nV .u32<|a4 xs 16) rfl (A8 fun t d=>(Zx xs a cap 16 xs.length _ K1 (f.mem0 d) Ae Ae Ey))<|Bs 1 []<|Cj rfl rfl (A0 o 0 0 0 (Q2b xs) sizeOf47 rfl rfl) (.inl Aa) fun _=>?_
  refine Cl<|W.s<|Aj [(0,0)]<|W.block ?_
  refine W.s<|Aj [] ?_
  refine Ak ((((xs.getD 9 0).toNat:Nat):Int)==6) Aa (fun I=>?_) fun A=>?_
  ·have J:=I;try simp only[zA]at J
   refine Ag<|A9 ?_
   refine Ak ((((xs.getD 9 0).toNat:Nat):Int)==6) Aa (fun L=>?_) fun Z=>?_
   ·have N:=L;try simp only[zA]at N
    refine Av<|Ab 1<|Cb (v:=nV .u16<|w2 xs 20) (A8 fun t d=>(G9 xs a cap 20 xs.length _ K1 (f.mem0 d) Ae Ae Ey))<|Ab 1 ?_
    refine Cb (v:=nV .u16<|w2 xs 22) (A8 fun t d=>(G9 xs a cap 22 xs.length _ K1 (f.mem0 d) Ae Ae Ey))<|Ab 1<|Af rfl (Bd o 3 0 0 (nV .u16<|w2 xs 20) sizeOf22 rfl rfl) fun _=>Ab 1<|Af rfl (Bd o 4 0 0 (nV .u16<|w2 xs 22) sizeOf22 rfl rfl) fun _=>?_
    refine Ai<|Av<|A5 1 [(0,0)] ?_
    refine Af rfl (A0 o 0 0 0 [nV .u8 ((xs.getD 9 0).toNat),nV .u32<|a4 xs 12,nV .u32<|a4 xs 16,nV .u16<|w2 xs 20,nV .u16 (w2 xs 22)] sizeOf47 rfl rfl) fun _=>Ab 1<|Ai<|Am rfl ?_
    have q:inC xs=false:=u
    have h:i9 xs 6=true:=L
    exact L1 rfl (Bu o 0 0 0 [nV .u8 ((xs.getD 9 0).toNat),nV .u32<|a4 xs 12,nV .u32<|a4 xs 16,nV .u16<|w2 xs 20,nV .u16 (w2 xs 22)] isAgg47 sizeOf47) (Ar<|bV true)<|by simp only[Uw,Mn,Sj,Sk,P7,q,h,cond_true,cond_false];try rfl
   ·exact absurd (I.symm.trans Z) An
  ·have O:=A;try simp only[zA]at O
   refine Ac<|Ab 2<|Ai ?_
   refine Ak ((((xs.getD 9 0).toNat:Nat):Int)==17) Aa (fun P=>?_) fun B=>?_
   ·have Q:=P;try simp only[zA]at Q
    refine Av<|Ab 1<|Cb (v:=nV .u16<|w2 xs 20) (A8 fun t d=>(G9 xs a cap 20 xs.length _ K1 (f.mem0 d) Ae Ae Ey))<|Ab 1 ?_
    refine Cb (v:=nV .u16<|w2 xs 22) (A8 fun t d=>(G9 xs a cap 22 xs.length _ K1 (f.mem0 d) Ae Ae Ey))<|Ab 1<|Af rfl (Bd o 3 0 0 (nV .u16<|w2 xs 20) sizeOf22 rfl rfl) fun _=>Ab 1<|Af rfl (Bd o 4 0 0 (nV .u16<|w2 xs 22) sizeOf22 rfl rfl) fun _=>?_
    refine Ai<|Av<|A5 1 [(0,0)] ?_
    refine Af rfl (A0 o 0 0 0 [nV .u8 ((xs.getD 9 0).toNat),nV .u32<|a4 xs 12,nV .u32<|a4 xs 16,nV .u16<|w2 xs 20,nV .u16 (w2 xs 22)] sizeOf47 rfl rfl) fun _=>Ab 1<|Ai<|Am rfl ?_
    have q:inC xs=false:=u
    have h:i9 xs 6=false:=A
    have l:i9 xs 17=true:=P
    exact L1 rfl (Bu o 0 0 0 [nV .u8 ((xs.getD 9 0).toNat),nV .u32<|a4 xs 12,nV .u32<|a4 xs 16,nV .u16<|w2 xs 20,nV .u16 (w2 xs 22)] isAgg47 sizeOf47) (Ar<|bV true)<|by simp only[Uw,Mn,Sj,Sk,P7,q,h,l,cond_true,cond_false];try rfl
   ·have R:=B;try simp only[zA]at R
    refine Aj [] ?_
    refine Ak ((((xs.getD 9 0).toNat:Nat):Int)==1) Aa (fun S=>?_) fun T=>?_
    ·have U:=S;try simp only[zA]at U
     refine W.s<|C5 [(0,true),(1,true),(2,true),(3,false),(4,false),(5,false),(6,false),(7,false),(8,true),(9,true),(10,false),(11,false)] [0,1,2,8,9]<|B5 1<|Bm (v:=pL<|some<|Cs a 20) rfl (Bb fun t g=>Aq (k:=.i64) (a:=a) (len:=xs.length) (cap:=cap) (i:=20) (sz:=1) rfl Aa Aa runUnderlying38 sizeOf5 Ae Ae<|(f.mem0 g).here Iu)<|Bm (v:=nV .u8<|(xs.getD 20 0).toNat) rfl (Ys.ld (a:=Cs a 20) rfl Aa isAgg5 fun t g=>(f.mem0 g).ld<|Ft 0 Fp) ?_
     have ah:(xs.getD 20 0).toNat<256:=UInt8.toNat_lt _
     refine Bs 1 []<|Gg (v:=pL<|some<|Cs a 21) rfl (Bb fun t g=>Aq (k:=.i64) (a:=a) (len:=xs.length) (cap:=cap) (i:=21) (sz:=1) rfl Aa Aa runUnderlying38 sizeOf5 Ae Ae<|(f.mem0 g).here Iu)<|Gg (v:=nV .u8<|(xs.getD 21 0).toNat) rfl (Ys.ld (a:=Cs a 21) rfl Aa isAgg5 fun t g=>(f.mem0 g).ld<|Ft 0 Fp) ?_
     have ai:(xs.getD 21 0).toNat<256:=UInt8.toNat_lt _
     refine Ec (v:=Value.tuple #[bV (Mh<|xs.getD 20 0),bV (Wt (xs.getD 20 0)<|xs.getD 21 0)]) rfl (A8 fun t d=>(Uv (xs.getD 20 0) (xs.getD 21 0) _))<|Bs 5 []<|Cl<|W.s ?_
     refine E5 [1,3,5,7] (Mem w [] []) Aa Aa (fun _ _ g=>g.drawn _) ?_
     refine Ef (w0:=w) (M:=[]) [2,54,56,57,59] (fun(C:Unit)=>[pV o 0,aV<|Q2b xs,nV .u16<|w2 xs 24,bV<|Mh<|xs.getD 20 0,bV (Wt (xs.getD 20 0)<|xs.getD 21 0)]) (fun(C:Unit)=>True) (fun(C:Unit)=>[[cb o (Q2b xs) 47]]) 3 #[true,true,true,true,false,true,false,false] (fun C aj am=>?_) fun JD55=>?_
     ·refine A6 (i:=4) Aa<|Wo.yc (v:=aV [nV .u8 ((xs.getD 9 0).toNat),nV .u32<|a4 xs 12,nV .u32<|a4 xs 16,nV .u16<|Sr (Mh<|xs.getD 20 0) (w2 xs 24) 0,nV .u16 (Sr (Mh<|xs.getD 20 0) 0<|w2 xs 24)]) rfl rfl rfl (A8 fun t d=>(Ajy (xs.getD 9 0) (a4 xs 12) (a4 xs 16) 0 0 (w2 xs 24) (Mh<|xs.getD 20 0) _)) (Ee [])<|A6 (i:=6) Aa<|Cp rfl rfl (A0 o 0 0 0 [nV .u8 ((xs.getD 9 0).toNat),nV .u32<|a4 xs 12,nV .u32<|a4 xs 16,nV .u16<|Sr (Mh<|xs.getD 20 0) (w2 xs 24) 0,nV .u16 (Sr (Mh<|xs.getD 20 0) 0<|w2 xs 24)] sizeOf47 rfl rfl) (Az []) fun _=>Wa.ys (v:=bV<|Wt (xs.getD 20 0)<|xs.getD 21 0) (i:=7) Aa Aa Aa Aa (fun _ g=>g.pick [] An rfl) rfl rfl rfl (Ys.p) ?_
      refine Ej Aa<|A9<|Am rfl ?_
      have q:inC xs=false:=u
      have h:i9 xs 6=false:=A
      have l:i9 xs 17=false:=B
      have x:i9 xs 1=true:=S
      exact L1 rfl (Bu o 0 0 0 [nV .u8 ((xs.getD 9 0).toNat),nV .u32<|a4 xs 12,nV .u32<|a4 xs 16,nV .u16<|Sr (Mh<|xs.getD 20 0) (w2 xs 24) 0,nV .u16 (Sr (Mh<|xs.getD 20 0) 0<|w2 xs 24)] isAgg47 sizeOf47) (Ar<|bV<|Wt (xs.getD 20 0)<|xs.getD 21 0)<|by simp only[Uw,Mn,Sj,Sk,P7,q,h,l,x,cond_true,cond_false];try rfl
     ·refine Wa.ys (v:=sL a xs.length cap) (i:=1) Aa Aa Aa Aa (fun _ g=>g.pick [] An rfl) rfl rfl rfl (Ys.p)<|Wa.ys (v:=bV<|Mh<|xs.getD 20 0) (i:=3) Aa Aa Aa Aa (fun _ g=>g.pick [] An rfl) rfl rfl rfl (Ys.p)<|Wa.ys (v:=bV<|Wt (xs.getD 20 0)<|xs.getD 21 0) (i:=5) Aa Aa Aa Aa (fun _ g=>g.pick [] An rfl) rfl rfl rfl (Ys.p) ?_
      refine C9 (i:=0) (j:=2) Aa ?_ ?_
      ·refine Wo.yc (v:=aV<|Q2b xs) rfl rfl rfl (Ys.yc<|F0 o 0 0 0 (Q2b xs) isAgg47 sizeOf47) (Ee [])<|A6 (i:=2) Aa<|Wo.yc (v:=nV .u16<|w2 xs 24) rfl rfl rfl (A8 fun t d=>(G9 xs a cap 24 xs.length _ K1 (f.mem0 d) Ae Ae Ey)) (Ee []) ?_
       exact Ck [2,54,56,57,59] [pV o 0,aV [nV .u8 ((xs.getD 9 0).toNat),nV .u32<|a4 xs 12,nV .u32<|a4 xs 16,iV .u16 0,iV .u16 0],nV .u16<|w2 xs 24,bV<|Mh<|xs.getD 20 0,bV (Wt (xs.getD 20 0)<|xs.getD 21 0)] #[true,true,true,true,false,true,false,false] (JD55 () trivial) Aa Aa fun _ g=>g
      ·refine Wo.yc (v:=nV .u16<|w2 xs 24) rfl rfl rfl (A8 fun t d=>(G9 xs a cap 24 xs.length _ K1 (f.mem0 d) Ae Ae Ey)) (Ee [])<|A6 (i:=0) Aa<|Wo.yc (v:=aV<|Q2b xs) rfl rfl rfl (Ys.yc<|F0 o 0 0 0 (Q2b xs) isAgg47 sizeOf47) (Ee []) ?_
       exact Ck [2,54,56,57,59] [pV o 0,aV [nV .u8 ((xs.getD 9 0).toNat),nV .u32<|a4 xs 12,nV .u32<|a4 xs 16,iV .u16 0,iV .u16 0],nV .u16<|w2 xs 24,bV<|Mh<|xs.getD 20 0,bV (Wt (xs.getD 20 0)<|xs.getD 21 0)] #[true,true,true,true,false,true,false,false] (JD55 () trivial) Aa Aa fun _ g=>g
    ·have V:=T;try simp only[zA]at V
     refine Ag<|A9<|Av<|A5 1 [(0,0)] ?_
     refine Af rfl (A0 o 0 0 0 (Q2b xs) sizeOf47 rfl rfl) fun _=>Ab 1<|Ai<|Am rfl ?_
     have q:inC xs=false:=u
     have h:i9 xs 6=false:=A
     have l:i9 xs 17=false:=B
     have x:i9 xs 1=false:=T
     exact L1 rfl (Bu o 0 0 0 [nV .u8 ((xs.getD 9 0).toNat),nV .u32<|a4 xs 12,nV .u32<|a4 xs 16,iV .u16 0,iV .u16 0] isAgg47 sizeOf47) (Ar<|bV false)<|by simp only[Uw,Mn,Sj,Sk,P7,q,h,l,x,cond_true,cond_false];try rfl
theorem Sl(xs:List UInt8)(a:Option Addr)(cap len:Nat)(w:World)(e:len=xs.length)(b:At w a (Cx xs))(f:xs.length≤1000000)(d:xs.length≤cap):Calls prog 138 #[.slice a len cap] w (Df w (.tuple #[.agg ([Value.int .u8 ((Uw xs).toNat:Int),Value.int .u32 ((Mn xs 12:Nat):Int),Value.int .u32 ((Mn xs 16:Nat):Int),Value.int .u16 (Sj xs:Int),Value.int .u16 (Sk xs:Int)]).toArray,.bool (P7 xs)])):=by
  subst e;exact Aiz xs a cap w b f d
def Vd(k:UInt8)(n:Int):Bool:=(k.toNat:Int)==n
def Uy(k:UInt8):Bool:=Vd k 3||(Vd k 11||Vd k 12)
def M8(xs:List UInt8):Bool:=(mR xs==0)&&Wt (mT xs 0) (mT xs 1)
def Mj(xs:List UInt8):Bool:=((mR xs==0)&& !Wt (mT xs 0) (mT xs 1))&&(Uy (mT xs 0)&&P7 (mD xs))
def Sm(xs:List UInt8):Int:=bif mR xs==0 then(bif M8 xs then 0 else bif Mj xs then 0 else 11)else mR xs
def Ve(xs:List UInt8):Int:=bif M8 xs then 2 else bif Mj xs then 3 else 0
def msI(xs:List UInt8):Nat:=(mN xs/65536)%65536
def Kb(b:UInt8)(xs:List UInt8):UInt8:=bif Mj xs then Uw (mD xs)else b
def Mk(b k:Nat)(xs:List UInt8):Nat:=bif Mj xs then Mn (mD xs) k else b
def S2(b:Nat)(xs:List UInt8):Nat:=bif Mj xs then Sk (mD xs)else bif M8 xs then Sr (Mh (mT xs 0)) (msI xs) b else b
def S3(b:Nat)(xs:List UInt8):Nat:=bif Mj xs then Sj (mD xs)else bif M8 xs then Sr (Mh (mT xs 0)) b (msI xs)else b
abbrev Q2c(xs:List UInt8):List Value:=[nV .u8 ((Uw (mD xs)).toNat),nV .u32 (Mn (mD xs) 12),nV .u32 (Mn (mD xs) 16),nV .u16 (Sj (mD xs)),nV .u16 (Sk (mD xs))]
abbrev Q2d(xs:List UInt8):List Value:=[nV .u8 ((Uw (mD xs)).toNat),nV .u32 (Mn (mD xs) 16),nV .u32 (Mn (mD xs) 12),nV .u16 (Sk (mD xs)),nV .u16 (Sj (mD xs))]
abbrev Q2e(fd b d e:Nat)(f:UInt8):List Value:=[nV .u8 f.toNat,nV .u32 d,nV .u32 fd,nV .u16 b,nV .u16 e]
abbrev Q2f:List Value:=zl0
theorem Aa4(tt pr:UInt8)(id s d:Nat)(xs:List UInt8)(a:Option Addr)(cap:Nat)(o:UInt8)(q fd u x:Nat)(w:World)(ad:At w a (Cx xs))(hi:id<65536)(hs:s<4294967296)(hd:d<4294967296)(hl:xs.length≤100000)(ao:xs.length≤cap):Calls prog 86 #[aV [nV .u8 tt.toNat,nV .u8 pr.toNat,nV .u16 id,nV .u32 s,nV .u32 d,sL a xs.length cap],aV [nV .u8 o.toNat,nV .u32 q,nV .u32 fd,nV .u16 u,nV .u16 x]] w (Df w (.tuple #[.agg ([nV .u8 ((Kb o xs).toNat),nV .u32 (Mk q 16 xs),nV .u32 (Mk fd 12 xs),nV .u16 (S2 u xs),nV .u16 (S3 x xs)]).toArray,.int .i64 (Ve xs),.int .i64 (Sm xs)])):=by
 have am:=Aes xs;have an:=Ae0 xs
 refine Ap (M:=[]) (LL:=[]) (n:=55) func86 rfl rfl A7 (Mem.refl _)<|W.s ?_
 refine Ac<|Af rfl (Bx [nV .u8 tt.toNat,nV .u8 pr.toNat,nV .u16 id,nV .u32 s,nV .u32 d,sL a xs.length cap] rfl) fun p2=>?_
 refine Af rfl (Bx (Q2e fd u q x o) rfl) fun p3=>Af rfl (Ba zeroValue47) fun l=>?_
 refine Ab 2<|Ai<|Av ?_
 refine A5 2 [(2,0)]<|Aw rfl (Au [] [0,1,2] fun E b ap=>(Si xs a cap xs.length _ K1 (ad.mem0 b) Fp Fp)) fun F A=>?_
 refine Ab 3<|Af rfl (Ba zeroValue132) fun p7=>?_
 refine Af rfl (A0 p7 0 0 0 [nV .u8 ((mT xs 0).toNat),nV .u8<|(mT xs 1).toNat,nV .u32<|mN xs,sV F ((mD xs).length)] sizeOf132 rfl rfl) fun _=>Ab 1<|Ai<|Al [0,1,2,3] An rfl ?_
 refine W.s<|Aj [] ?_
 refine Ak ((mR xs) !=0) Aa (fun J=>?_) fun j=>?_
 ·have L:=J;try simp only[zA]at L
  refine Av<|A5 2 [(3,0)]<|Af rfl (A0 l 0 2 0 (Q2e fd u q x o) sizeOf47 rfl rfl) fun _=>Ab 2 ?_
  refine Ai<|Al [2] An rfl<|Am rfl ?_
  have b:(mR xs==0)=false:=by have e:=J;rw[bne]at e;revert e;cases(mR xs==0)<;>simp
  have f:M8 xs=false:=by unfold M8;rw[b];rfl
  have g:Mj xs=false:=by unfold Mj;rw[b];rfl
  exact Vb rfl (Bu l 0 0 0 [nV .u8 o.toNat,nV .u32 q,nV .u32 fd,nV .u16 u,nV .u16 x] isAgg47 sizeOf47) (Ar<|iV .i64 0) (Ar<|iV .i64<|mR xs)<|by simp only[Kb,Mk,S2,S3,Ve,Sm,f,g,b,cond_true,cond_false];try rfl
 ·have N:=j;try simp only[zA]at N
  refine Ag<|A9<|W.s<|Av ?_
  refine A5 4 [(0,0),(0,0)]<|Cb (v:=Value.tuple #[bV (Mh<|mT xs 0),bV (Wt (mT xs 0)<|mT xs 1)]) (A8 fun E b=>(Uv (mT xs 0) (mT xs 1) _))<|Ab 5<|Ai ?_
  refine Aj [] ?_
  refine Ak (Wt (mT xs 0)<|mT xs 1) Aa (fun O=>?_) fun h=>?_
  ·refine Av<|A5 3 [(3,0),(0,0)]<|Ao (v:=nV .u32<|(mN xs)/65536) ((Ys.p (v:=.int .u32<|Ib .u32 (mN xs:Int) ((16:Nat):Int))).conseq<|Ad<|Fc (mN xs) 16 An)<|Ao (v:=nV .u16<|((mN xs)/65536)%65536) ((Ys.p (v:=.int .u16<|Ct .u16 (((mN xs)/65536:Nat):Int))).conseq<|Ad<|Dn rfl _) ?_
   refine Ab 1<|Cb (v:=aV [nV .u8 o.toNat,nV .u32 q,nV .u32 fd,nV .u16<|Sr (Mh<|mT xs 0) (((mN xs)/65536)%65536) u,nV .u16 (Sr (Mh<|mT xs 0) x<|((mN xs)/65536)%65536)]) (A8 fun E b=>(Ajy o q fd u x (((mN xs)/65536)%65536) (Mh<|mT xs 0) _))<|Af rfl (A0 l 0 2 0 [nV .u8 o.toNat,nV .u32 q,nV .u32 fd,nV .u16<|Sr (Mh<|mT xs 0) (((mN xs)/65536)%65536) u,nV .u16 (Sr (Mh<|mT xs 0) x<|((mN xs)/65536)%65536)] sizeOf47 rfl rfl) fun _=>Ab 2<|Ay ?_
   refine A9<|Al [2] An rfl<|Am rfl ?_
   have b:(mR xs==0)=true:=by have e:=j;rw[bne]at e;revert e;cases(mR xs==0)<;>simp
   have f:M8 xs=true:=by unfold M8;rw[b,O];rfl
   have g:Mj xs=false:=by unfold Mj;rw[b,O];rfl
   exact Vb rfl (Bu l 0 0 0 [nV .u8 o.toNat,nV .u32 q,nV .u32 fd,nV .u16<|Sr (Mh<|mT xs 0) (((mN xs)/65536)%65536) u,nV .u16 (Sr (Mh<|mT xs 0) x<|((mN xs)/65536)%65536)] isAgg47 sizeOf47) (Ar<|iV .i64 2) (Ar<|iV .i64 0)<|by simp only[Kb,Mk,S2,S3,Ve,Sm,f,g,b,cond_true,cond_false];try rfl
  ·refine Ag<|A9<|W.s<|Aj [(0,0)]<|W.block ?_
   refine W.s<|Aj [] ?_
   refine Ak ((((mT xs 0).toNat:Nat):Int)==3) Aa (fun P=>?_) fun B=>?_
   ·have Q:=P;try simp only[zA]at Q
    refine Ag<|A9 ?_
    refine Ak ((((mT xs 0).toNat:Nat):Int)==3) Aa (fun G=>?_) fun ae=>?_
    ·have R:=G;try simp only[zA]at R
     refine Av<|A5 2 [(0,0)]<|Cb (v:=Value.tuple #[aV (Q2c xs),bV (P7<|mD xs)]) (A8 fun E b=>(Sl (mD xs) F.a F.cap ((mD xs).length) _ K1 (FS.at (i:=1) (t:=5) b rfl<|Ah A<|Bo _) Fp (by have e:=A.le;first|exact e|omega|(simp at e⊢;omega))))<|Ab 3 ?_
     refine Af rfl (Ba zeroValue47) fun C=>Af rfl (A0 C 0 0 0 (Q2c xs) sizeOf47 rfl rfl) fun _=>?_
     refine Ab 1<|Ai<|Al [0,3,4] An rfl<|Aj [] ?_
     refine Ak (P7<|mD xs) Aa (fun af=>?_) fun ag=>?_
     ·refine Av<|A5 1 [(0,0)]<|Cb (v:=aV<|Q2d xs) (A8 fun E b=>(M5 (Uw<|mD xs) (Mn (mD xs) 12) (Mn (mD xs) 16) (Sj<|mD xs) (Sk<|mD xs) _))<|Af rfl (A0 l 0 1 0 (Q2d xs) sizeOf47 rfl rfl) fun _=>?_
      refine Ab 2<|Ai<|Al [1] An rfl<|Am rfl ?_
      have b:(mR xs==0)=true:=by have e:=j;rw[bne]at e;revert e;cases(mR xs==0)<;>simp
      have f:M8 xs=false:=by unfold M8;rw[b,h];rfl
      have g:Mj xs=true:=by unfold Mj Uy;rw[b,h,show Vd (mT xs 0) 3=true from G];simp[af]
      exact Vb rfl (Bu l 0 0 0 [nV .u8 ((Uw<|mD xs).toNat),nV .u32<|Mn (mD xs) 16,nV .u32<|Mn (mD xs) 12,nV .u16<|Sk<|mD xs,nV .u16 (Sj<|mD xs)] isAgg47 sizeOf47) (Ar<|iV .i64 3) (Ar<|iV .i64 0)<|by simp only[Kb,Mk,S2,S3,Ve,Sm,f,g,b,cond_true,cond_false];try rfl
     ·refine Ag<|A9<|Al [1,2] An rfl<|Av ?_
      refine A5 1 [(1,0)]<|Af rfl (A0 l 0 0 0 (Q2e fd u q x o) sizeOf47 rfl rfl) fun _=>?_
      refine Ab 2<|Ai<|Al [0] An rfl<|Am rfl ?_
      have b:(mR xs==0)=true:=by have e:=j;rw[bne]at e;revert e;cases(mR xs==0)<;>simp
      have f:M8 xs=false:=by unfold M8;rw[b,h];rfl
      have g:Mj xs=false:=by unfold Mj Uy;rw[b,h,show Vd (mT xs 0) 3=true from G];simp[ag]
      exact Vb rfl (Bu l 0 0 0 [nV .u8 o.toNat,nV .u32 q,nV .u32 fd,nV .u16 u,nV .u16 x] isAgg47 sizeOf47) (Ar<|iV .i64 0) (Ar<|iV .i64 11)<|by simp only[Kb,Mk,S2,S3,Ve,Sm,f,g,b,cond_true,cond_false];try rfl
    ·exact absurd (P.symm.trans ae) An
   ·have S:=B;try simp only[zA]at S
    refine Aj [] ?_
    refine Ak ((((mT xs 0).toNat:Nat):Int)==11) Aa (fun T=>?_) fun D=>?_
    ·have U:=T;try simp only[zA]at U
     refine Ag<|A9 ?_
     refine Ak ((((mT xs 0).toNat:Nat):Int)==11) Aa (fun H=>?_) fun ah=>?_
     ·have V:=H;try simp only[zA]at V
      refine Av<|A5 2 [(0,0)]<|Cb (v:=Value.tuple #[aV (Q2c xs),bV (P7<|mD xs)]) (A8 fun E b=>(Sl (mD xs) F.a F.cap ((mD xs).length) _ K1 (FS.at (i:=1) (t:=5) b rfl<|Ah A<|Bo _) Fp (by have e:=A.le;first|exact e|omega|(simp at e⊢;omega))))<|Ab 3 ?_
      refine Af rfl (Ba zeroValue47) fun C=>Af rfl (A0 C 0 0 0 (Q2c xs) sizeOf47 rfl rfl) fun _=>?_
      refine Ab 1<|Ai<|Al [0,3,4] An rfl<|Aj [] ?_
      refine Ak (P7<|mD xs) Aa (fun ai=>?_) fun aj=>?_
      ·refine Av<|A5 1 [(0,0)]<|Cb (v:=aV<|Q2d xs) (A8 fun E b=>(M5 (Uw<|mD xs) (Mn (mD xs) 12) (Mn (mD xs) 16) (Sj<|mD xs) (Sk<|mD xs) _))<|Af rfl (A0 l 0 1 0 (Q2d xs) sizeOf47 rfl rfl) fun _=>?_
       refine Ab 2<|Ai<|Al [1] An rfl<|Am rfl ?_
       have b:(mR xs==0)=true:=by have e:=j;rw[bne]at e;revert e;cases(mR xs==0)<;>simp
       have f:M8 xs=false:=by unfold M8;rw[b,h];rfl
       have g:Mj xs=true:=by unfold Mj Uy;rw[b,h,show Vd (mT xs 0) 3=false from B,show Vd (mT xs 0) 11=true from H];simp[ai]
       exact Vb rfl (Bu l 0 0 0 [nV .u8 ((Uw<|mD xs).toNat),nV .u32<|Mn (mD xs) 16,nV .u32<|Mn (mD xs) 12,nV .u16<|Sk<|mD xs,nV .u16 (Sj<|mD xs)] isAgg47 sizeOf47) (Ar<|iV .i64 3) (Ar<|iV .i64 0)<|by simp only[Kb,Mk,S2,S3,Ve,Sm,f,g,b,cond_true,cond_false];try rfl
      ·refine Ag<|A9<|Al [1,2] An rfl<|Av ?_
       refine A5 1 [(1,0)]<|Af rfl (A0 l 0 0 0 (Q2e fd u q x o) sizeOf47 rfl rfl) fun _=>?_
       refine Ab 2<|Ai<|Al [0] An rfl<|Am rfl ?_
       have b:(mR xs==0)=true:=by have e:=j;rw[bne]at e;revert e;cases(mR xs==0)<;>simp
       have f:M8 xs=false:=by unfold M8;rw[b,h];rfl
       have g:Mj xs=false:=by unfold Mj Uy;rw[b,h,show Vd (mT xs 0) 3=false from B,show Vd (mT xs 0) 11=true from H];simp[aj]
       exact Vb rfl (Bu l 0 0 0 [nV .u8 o.toNat,nV .u32 q,nV .u32 fd,nV .u16 u,nV .u16 x] isAgg47 sizeOf47) (Ar<|iV .i64 0) (Ar<|iV .i64 11)<|by simp only[Kb,Mk,S2,S3,Ve,Sm,f,g,b,cond_true,cond_false];try rfl
     ·exact absurd (T.symm.trans ah) An
    ·have X:=D;try simp only[zA]at X
     refine Ac<|Ab 2<|Ai ?_
     refine Ak ((((mT xs 0).toNat:Nat):Int)==12) Aa (fun I=>?_) fun Y=>?_
     ·have Z:=I;try simp only[zA]at Z
      refine Av<|A5 2 [(0,0)]<|Cb (v:=Value.tuple #[aV (Q2c xs),bV (P7<|mD xs)]) (A8 fun E b=>(Sl (mD xs) F.a F.cap ((mD xs).length) _ K1 (FS.at (i:=1) (t:=5) b rfl<|Ah A<|Bo _) Fp (by have e:=A.le;first|exact e|omega|(simp at e⊢;omega))))<|Ab 3 ?_
      refine Af rfl (Ba zeroValue47) fun C=>Af rfl (A0 C 0 0 0 (Q2c xs) sizeOf47 rfl rfl) fun _=>?_
      refine Ab 1<|Ai<|Al [0,3,4] An rfl<|Aj [] ?_
      refine Ak (P7<|mD xs) Aa (fun ak=>?_) fun al=>?_
      ·refine Av<|A5 1 [(0,0)]<|Cb (v:=aV<|Q2d xs) (A8 fun E b=>(M5 (Uw<|mD xs) (Mn (mD xs) 12) (Mn (mD xs) 16) (Sj<|mD xs) (Sk<|mD xs) _))<|Af rfl (A0 l 0 1 0 (Q2d xs) sizeOf47 rfl rfl) fun _=>?_
       refine Ab 2<|Ai<|Al [1] An rfl<|Am rfl ?_
       have b:(mR xs==0)=true:=by have e:=j;rw[bne]at e;revert e;cases(mR xs==0)<;>simp
       have f:M8 xs=false:=by unfold M8;rw[b,h];rfl
       have g:Mj xs=true:=by unfold Mj Uy;rw[b,h,show Vd (mT xs 0) 3=false from B,show Vd (mT xs 0) 11=false from D,show Vd (mT xs 0) 12=true from I];simp[ak]
       exact Vb rfl (Bu l 0 0 0 [nV .u8 ((Uw<|mD xs).toNat),nV .u32<|Mn (mD xs) 16,nV .u32<|Mn (mD xs) 12,nV .u16<|Sk<|mD xs,nV .u16 (Sj<|mD xs)] isAgg47 sizeOf47) (Ar<|iV .i64 3) (Ar<|iV .i64 0)<|by simp only[Kb,Mk,S2,S3,Ve,Sm,f,g,b,cond_true,cond_false];try rfl
      ·refine Ag<|A9<|Al [1,2] An rfl<|Av ?_
       refine A5 1 [(1,0)]<|Af rfl (A0 l 0 0 0 (Q2e fd u q x o) sizeOf47 rfl rfl) fun _=>?_
       refine Ab 2<|Ai<|Al [0] An rfl<|Am rfl ?_
       have b:(mR xs==0)=true:=by have e:=j;rw[bne]at e;revert e;cases(mR xs==0)<;>simp
       have f:M8 xs=false:=by unfold M8;rw[b,h];rfl
       have g:Mj xs=false:=by unfold Mj Uy;rw[b,h,show Vd (mT xs 0) 3=false from B,show Vd (mT xs 0) 11=false from D,show Vd (mT xs 0) 12=true from I];simp[al]
       exact Vb rfl (Bu l 0 0 0 [nV .u8 o.toNat,nV .u32 q,nV .u32 fd,nV .u16 u,nV .u16 x] isAgg47 sizeOf47) (Ar<|iV .i64 0) (Ar<|iV .i64 11)<|by simp only[Kb,Mk,S2,S3,Ve,Sm,f,g,b,cond_true,cond_false];try rfl
     ·have aa:=Y;try simp only[zA]at aa
      refine Ag<|A9<|Al [2,3] An rfl<|Av ?_
      refine A5 1 [(1,0)]<|Af rfl (A0 l 0 0 0 (Q2e fd u q x o) sizeOf47 rfl rfl) fun _=>?_
      refine Ab 2<|Ai<|Al [0] An rfl<|Am rfl ?_
      have b:(mR xs==0)=true:=by have e:=j;rw[bne]at e;revert e;cases(mR xs==0)<;>simp
      have f:M8 xs=false:=by unfold M8;rw[b,h];rfl
      have g:Mj xs=false:=by unfold Mj Uy;rw[b,h,show Vd (mT xs 0) 3=false from B,show Vd (mT xs 0) 11=false from D,show Vd (mT xs 0) 12=false from Y];simp
      exact Vb rfl (Bu l 0 0 0 [nV .u8 o.toNat,nV .u32 q,nV .u32 fd,nV .u16 u,nV .u16 x] isAgg47 sizeOf47) (Ar<|iV .i64 0) (Ar<|iV .i64 11)<|by simp only[Kb,Mk,S2,S3,Ve,Sm,f,g,b,cond_true,cond_false];try rfl
theorem X6(tt pr:UInt8)(b s d:Nat)(xs:List UInt8)(a:Option Addr)(cap:Nat)(e:UInt8)(f fd g h:Nat)(len:Nat)(w:World)(l:len=xs.length)(i:At w a (Cx xs))(n:b<65536)(o:s<4294967296)(q:d<4294967296)(t:xs.length≤100000)(j:xs.length≤cap):Calls prog 86 #[Value.agg ([Value.int .u8 (tt.toNat:Int),Value.int .u8 (pr.toNat:Int),Value.int .u16 (b:Int),Value.int .u32 (s:Int),Value.int .u32 (d:Int),sL a len cap]).toArray,Value.agg ([Value.int .u8 (e.toNat:Int),Value.int .u32 (f:Int),Value.int .u32 (fd:Int),Value.int .u16 (g:Int),Value.int .u16 (h:Int)]).toArray] w (Df w (.tuple #[.agg ([Value.int .u8 ((Kb e xs).toNat:Int),Value.int .u32 (Mk f 16 xs:Int),Value.int .u32 (Mk fd 12 xs:Int),Value.int .u16 (S2 g xs:Int),Value.int .u16 (S3 h xs:Int)]).toArray,.int .i64 (Ve xs),.int .i64 (Sm xs)])):=by
  subst l;exact Aa4 tt pr b s d xs a cap e f fd g h w i n o q t j
def tK(xs:List UInt8):Nat:=4*((xs.getD 12 0).toNat/16)
def tR(s d:Nat)(xs:List UInt8):Int:=if xs.length<20 then 10 else if 1480<xs.length then 14 else if tK xs<20∨xs.length<tK xs then 11 else if E3 (Fa s d 6 xs.length++xs)≠0 then 12 else 0
def tg(s d:Nat)(xs:List UInt8):Bool:=decide (tR s d xs=0)
def tF(s d:Nat)(xs:List UInt8)(k:Nat):Nat:=bif tg s d xs then w2 xs k else 0
def tW(s d:Nat)(xs:List UInt8)(k:Nat):Nat:=bif tg s d xs then bv ((xs.drop k).take 4)else 0
def tL(s d:Nat)(xs:List UInt8):UInt8:=bif tg s d xs then xs.getD 13 0 else 0
def tO(s d:Nat)(xs:List UInt8):List UInt8:=bif tg s d xs then(xs.drop 20).take (tK xs-20)else []
def tD(s d:Nat)(xs:List UInt8):List UInt8:=bif tg s d xs then xs.drop (tK xs)else []
theorem Zy(xs:List UInt8)(j:Nat):bv ((xs.drop j).take 4)<4294967296:=by
  have h:=Zf ((xs.drop j).take 4)
  have b:256^((xs.drop j).take 4).length≤256^4:=Nat.pow_le_pow_right An (by rw[List.length_take];omega)
  omega
theorem X7(x:UInt8):UInt8.ofNat x.toNat=x:=UInt8.toNat_inj.1 (by rw[UInt8.toNat_ofNat',Nat.mod_eq_of_lt (UInt8.toNat_lt x)])
theorem Amn{s d:Nat}{xs:List UInt8}(h:(Ph xs.length 20 !=0)=true):tR s d xs=Ph xs.length 20:=by
  unfold tR Ph at*
  split
  · rfl
  · split
    · rfl
    · rename_i b e;rw[if_neg b,if_neg e]at h;cases h
theorem Amo{xs:List UInt8}{k:Nat}(b:20≤k)(d:k≤xs.length):Dc (D3 (xs.drop 20) (((k:Nat):Int)-20)) ((D3 (xs.drop 20) (((k:Nat):Int)-20)).length:Int)=xs.drop k:=by
  have e:(k:Int)-20=((k-20:Nat):Int):=by omega
  rw[e,P0 Ae,show 20+(k-20)=k by omega,Oq (by rw[List.length_drop];omega),List.take_of_length_le (Nat.le_refl _)]
theorem Amp{xs:List UInt8}{k:Nat}(b:20≤k)(d:k≤xs.length):Dc (xs.drop 20) (((k:Nat):Int)-20)=(xs.drop 20).take (k-20):=by
  have e:(k:Int)-20=((k-20:Nat):Int):=by omega
  rw[e,Oq Ae]
theorem Amq{xs:List UInt8}{k:Nat}(h:k+1≤xs.length):bv ((xs.drop k).take 1)=(xs.getD k 0).toNat:=by
  have e:(xs.drop k).take 1=[xs.getD k 0]:=by
    apply List.ext_getElem?
    intro j
    rcases j with _|j
    · simp[List.getElem?_take,List.getElem?_drop,List.getElem?_eq_getElem (show k<xs.length by omega)]
    · simp;omega
  rw[e];simp[bv]
theorem Wu(X:List UInt8)(a:Option Addr)(len cap:Nat)(d:Bool)(b j k:Nat)(w:World)(l:Mem w [b] [[cb b [.slice a len cap,.bool d] 283]] w)(g:At w a (Cx (X.drop j)))(n:len=X.length-j)(e:j+k≤X.length)(f:len≤cap)(o:X.length≤70368744177664)(i:k≤8)(q:k=1:=by rfl):
    Calls prog 132 #[.pointer (some ⟨b,0,none⟩),.int .i64 (k:Int)] w (Bn w (fun x:EV=>View x.a (X.drop (j+k)) a (X.drop j)∧X.length-(j+k)≤x.cap) (fun x=>.int .u64 ((X.getD j 0).toNat:Int)) [b] (fun x=>[[cb b [.slice x.a (X.length-(j+k)) x.cap,.bool d] 283]])):=by
  have h:=Ot X a len cap d b j k w l g n e f o i
  subst q
  rw[Amq e]at h
  exact h
abbrev Q2g:List Value:=zl2
set_option maxHeartbeats 2000000 in
theorem Amr(s d:Nat)(xs:List UInt8)(a:Option Addr)(cap:Nat)(w:World)(ar:At w a (Cx xs))(hs:s<4294967296)(hd:d<4294967296)(hl:xs.length≤100000)(bw:xs.length≤cap):Calls prog 84 #[nV .u32 s,nV .u32 d,sL a xs.length cap] w (Bn w (fun g:FS×FS=>g.1.ok 1 (tO s d xs).length∧g.2.ok 1 (tD s d xs).length) (fun g=>.tuple #[.agg [.int .u16 ((tF s d xs 0:Nat):Int),.int .u16 ((tF s d xs 2:Nat):Int),.int .u32 ((tW s d xs 4:Nat):Int),.int .u32 ((tW s d xs 8:Nat):Int),.int .u8 ((tL s d xs).toNat:Int),.int .u16 ((tF s d xs 14:Nat):Int),.int .u16 ((tF s d xs 18:Nat):Int),.slice g.1.a (tO s d xs).length g.1.cap,.slice g.2.a (tD s d xs).length g.2.cap].toArray,.int .i64 (tR s d xs)]) [] (fun g=>[g.1.seg 5 (Cx (tO s d xs)),g.2.seg 5 (Cx (tD s d xs))])):=by
 have bi:=UInt8.toNat_lt (xs.getD 12 0)
 refine Ap (M:=[]) (LL:=[]) (n:=86) func84 rfl rfl A7 (Mem.refl _)<|W.s ?_
 refine Ac<|Af rfl (Ba zeroValue126) fun I=>?_
 refine Ab 1<|Ai<|W.s<|W.s ?_
 refine Ac<|Ab 1<|Cb (v:=iV .i64<|Ph xs.length 20) (A8 fun H f=>R6 a xs.length cap 20 _ Ae Ae)<|Ab 1<|Ay ?_
 refine A9<|Aj [] ?_
 refine Ak ((Ph xs.length 20) !=0) Aa (fun h8=>?_) fun h9=>?_
 ·have ba:=h8;try simp only[zA]at ba
  refine Av<|A5 2 [(0,0)]<|Af rfl (A0 I 0 0 0 Q2g sizeOf126 rfl rfl) fun _=>Ab 1 ?_
  refine Ai<|Am rfl ?_
  have R:tR s d xs=Ph xs.length 20:=Amn h8
  have L:tg s d xs=false:=by unfold tg;rw[R];exact decide_eq_false (by simpa using h8)
  have O:tO s d xs=[]:=by unfold tO;rw[L];rfl
  have P:tD s d xs=[]:=by unfold tD;rw[L];rfl
  exact E2 rfl (Bu I 0 0 0 zl2 isAgg126 sizeOf126) (Ar<|iV .i64<|Ph xs.length 20) fun H N=>⟨(FS.nul,FS.nul),⟨by rw[O];exact B6 1,by rw[P];exact B6 1⟩,Eo<|(by simp only[tF,tW,tL,L,cond_false,R,O,P];rfl),(Mem.cast (by rw[O,P];rfl)<|Mem.push<|Mem.push<|N.pick [] An rfl)⟩
 ·have bb:=h9;try simp only[zA]at bb
  refine Ag<|A9<|W.s ?_
  have bx:=Xo h9
  refine Ac<|Ab 1<|Aw rfl (Au [] [0] fun H f l=>(Oo xs a xs.length cap _ rfl (ar.mem0 f) Fp)) fun q u=>Ab 1<|Ay ?_
  refine A9<|W.s ?_
  refine Ac<|Ab 1<|Aw rfl (Au [0] [1,2] fun H f l=>(G7 xs q.g.a xs.length q.g.cap false q.b 0 2 _ l (by rw[List.drop_zero];exact(FS.at (i:=1) (t:=5) f rfl<|Ah u<|Bo _)) K5 Ae (u.le) Ae An)) fun U au=>?_
  obtain⟨x,bk⟩:=au
  refine Ao (v:=nV .u16<|(w2 xs 0)%65536) ((Ys.p (v:=.int .u16<|Ct .u16 ((w2 xs 0:Nat):Int))).conseq<|Ad<|Dn rfl _)<|Ab 1<|Aw rfl (Au [0] [1,2] fun H f l=>(G7 xs U.a (xs.length-2) U.cap false q.b 2 2 _ l (x _<|by rw[List.drop_zero];exact(FS.at (i:=1) (t:=5) f rfl<|Ah u<|Bo _)) K5 Ae Ae Ae An)) fun V av=>?_
  obtain⟨A,bm⟩:=av
  refine Ao (v:=nV .u16<|(w2 xs 2)%65536) ((Ys.p (v:=.int .u16<|Ct .u16 ((w2 xs 2:Nat):Int))).conseq<|Ad<|Dn rfl _)<|Ab 1<|Af rfl (Bd I 0 2 0 (nV .u16<|(w2 xs 0)%65536) sizeOf22 rfl rfl) fun _=>Ab 1<|Af rfl (Bd I 1 2 0 (nV .u16<|(w2 xs 2)%65536) sizeOf22 rfl rfl) fun _=>?_
  refine Ai<|Av<|Ab 1 ?_
  refine Aw rfl (Au [0] [1,2] fun H f l=>(Ot xs V.a (xs.length-4) V.cap false q.b 4 4 _ l (A _<|x _<|by rw[List.drop_zero];exact(FS.at (i:=1) (t:=5) f rfl<|Ah u<|Bo _)) K5 Ae Ae Ae An)) fun X aw=>?_
  obtain⟨C,bn⟩:=aw
  refine Ao (v:=nV .u32<|(bv<|(xs.drop 4).take 4)%4294967296) ((Ys.p (v:=.int .u32<|Ct .u32 (bv ((xs.drop 4).take 4):Int))).conseq<|Ad<|Dn rfl _)<|Ab 1<|Aw rfl (Au [0] [1,2] fun H f l=>(Ot xs X.a (xs.length-8) X.cap false q.b 8 4 _ l (C _<|A _<|x _<|by rw[List.drop_zero];exact(FS.at (i:=1) (t:=5) f rfl<|Ah u<|Bo _)) K5 Ae Ae Ae An)) fun Y ax=>?_
  obtain⟨D,bo⟩:=ax
  refine Ao (v:=nV .u32<|(bv<|(xs.drop 8).take 4)%4294967296) ((Ys.p (v:=.int .u32<|Ct .u32 (bv ((xs.drop 8).take 4):Int))).conseq<|Ad<|Dn rfl _)<|Ab 1<|Af rfl (Bd I 2 2 0 (nV .u32<|(bv<|(xs.drop 4).take 4)%4294967296) sizeOf23 rfl rfl) fun _=>Ab 1<|Af rfl (Bd I 3 2 0 (nV .u32<|(bv<|(xs.drop 8).take 4)%4294967296) sizeOf23 rfl rfl) fun _=>?_
  refine Ai<|Av<|Ab 1 ?_
  refine Aw rfl (Au [0] [1,2] fun H f l=>(Wu xs Y.a (xs.length-12) Y.cap false q.b 12 1 _ l (D _<|C _<|A _<|x _<|by rw[List.drop_zero];exact(FS.at (i:=1) (t:=5) f rfl<|Ah u<|Bo _)) K5 Ae Ae Ae An)) fun Z ay=>?_
  obtain⟨E,bp⟩:=ay
  refine Ao (v:=nV .u64<|((xs.getD 12 0).toNat)/16) ((Ys.p (v:=.int .u64<|Ib .u64 ((xs.getD 12 0).toNat:Int) ((4:Nat):Int))).conseq<|Ad<|Fc ((xs.getD 12 0).toNat) 4 An)<|Ao (v:=nV .i64<|((xs.getD 12 0).toNat)/16) ((Ys.p (v:=.int .i64<|Ct .i64 ((((xs.getD 12 0).toNat)/16:Nat):Int))).conseq<|Ad<|Dg Ae Ae)<|Ao (v:=nV .i64<|(((xs.getD 12 0).toNat)/16)*4) ((Ys.p (v:=.int .i64<|Ng .i64 ((((xs.getD 12 0).toNat)/16:Nat):Int) 4)).conseq<|Ad<|Pn (by first|omega|rfl|(push_cast;rfl)) Ae Ae)<|Ab 1<|Ay ?_
  refine A9<|W.s ?_
  refine Ac<|Ab 1<|Aw rfl (Au [0] [1,2] fun H f l=>(Wu xs Z.a (xs.length-13) Z.cap false q.b 13 1 _ l (E _<|D _<|C _<|A _<|x _<|by rw[List.drop_zero];exact(FS.at (i:=1) (t:=5) f rfl<|Ah u<|Bo _)) K5 Ae Ae Ae An)) fun aa az=>?_
  obtain⟨F,bq⟩:=az
  refine Ao (v:=nV .u8<|(UInt8.ofNat<|(xs.getD 13 0).toNat).toNat) ((Ys.p (v:=.int .u8<|Ct .u8 ((xs.getD 13 0).toNat:Int))).conseq<|Ad<|He _)<|Ab 1<|Aw rfl (Au [0] [1,2] fun H f l=>(G7 xs aa.a (xs.length-14) aa.cap false q.b 14 2 _ l (F _<|E _<|D _<|C _<|A _<|x _<|by rw[List.drop_zero];exact(FS.at (i:=1) (t:=5) f rfl<|Ah u<|Bo _)) K5 Ae Ae Ae An)) fun ab a0=>?_
  obtain⟨J,br⟩:=a0
  refine Ao (v:=nV .u16<|(w2 xs 14)%65536) ((Ys.p (v:=.int .u16<|Ct .u16 ((w2 xs 14:Nat):Int))).conseq<|Ad<|Dn rfl _)<|Ab 1<|Af rfl (Bd I 4 2 0 (nV .u8<|(UInt8.ofNat<|(xs.getD 13 0).toNat).toNat) sizeOf5 rfl rfl) fun _=>Ab 1<|Af rfl (Bd I 5 2 0 (nV .u16<|(w2 xs 14)%65536) sizeOf22 rfl rfl) fun _=>?_
  refine Ai<|Av<|Ab 1 ?_
  refine Aw rfl (Au [0] [1,2] fun H f l=>(G7 xs ab.a (xs.length-16) ab.cap false q.b 16 2 _ l (J _<|F _<|E _<|D _<|C _<|A _<|x _<|by rw[List.drop_zero];exact(FS.at (i:=1) (t:=5) f rfl<|Ah u<|Bo _)) K5 Ae Ae Ae An)) fun ad a1=>?_
  obtain⟨Q,bs⟩:=a1
  refine Ai<|Av<|Ab 1 ?_
  refine Aw rfl (Au [0] [1,2] fun H f l=>(G7 xs ad.a (xs.length-18) ad.cap false q.b 18 2 _ l (Q _<|J _<|F _<|E _<|D _<|C _<|A _<|x _<|by rw[List.drop_zero];exact(FS.at (i:=1) (t:=5) f rfl<|Ah u<|Bo _)) K5 Ae Ae Ae An)) fun ae a2=>?_
  obtain⟨S,bt⟩:=a2
  refine Ao (v:=nV .u16<|(w2 xs 18)%65536) ((Ys.p (v:=.int .u16<|Ct .u16 ((w2 xs 18:Nat):Int))).conseq<|Ad<|Dn rfl _)<|Ab 1<|Af rfl (Bd I 6 2 0 (nV .u16<|(w2 xs 18)%65536) sizeOf22 rfl rfl) fun _=>Ai ?_
  refine W.s<|W.block<|Av<|Ab 3 ?_
  refine C1 4 (decide<|(((((xs.getD 12 0).toNat)/16)*4:Nat):Int)<20) (fun _=>Gs.z [])<|Ao (v:=bV<|(decide<|(((((xs.getD 12 0).toNat)/16)*4:Nat):Int)<20)||(decide<|(((((xs.getD 12 0).toNat)/16)*4:Nat):Int)>(xs.length:Int))) (Ce (e:=decide<|(((((xs.getD 12 0).toNat)/16)*4:Nat):Int)<20) (b:=decide<|(((((xs.getD 12 0).toNat)/16)*4:Nat):Int)>(xs.length:Int)) rfl Aa Aa Aa)<|Ab 1<|Ai ?_
  refine Ak ((decide<|(((((xs.getD 12 0).toNat)/16)*4:Nat):Int)<20)||(decide<|(((((xs.getD 12 0).toNat)/16)*4:Nat):Int)>(xs.length:Int))) Aa (fun a3=>?_) fun a5=>?_
  ·have ah:=a3;try simp only[zA]at ah
   refine Av<|Ab 1<|Af rfl (A0 I 0 2 0 Q2g sizeOf126 rfl rfl) fun _=>Ab 1 ?_
   refine Ai<|Al [2] An rfl<|Am rfl ?_
   have hK:tK xs=4*((xs.getD 12 0).toNat/16):=rfl
   have R:tR s d xs=11:=by unfold tR;rw[if_neg Ae,if_neg Ae,if_pos Ae]
   have L:tg s d xs=false:=by unfold tg;rw[R];rfl
   have O:tO s d xs=[]:=by unfold tO;rw[L];rfl
   have P:tD s d xs=[]:=by unfold tD;rw[L];rfl
   exact E2 rfl (Bu I 0 0 0 zl2 isAgg126 sizeOf126) (Ar<|iV .i64 11) fun H N=>⟨(FS.nul,FS.nul),⟨by rw[O];exact B6 1,by rw[P];exact B6 1⟩,Eo<|(by simp only[tF,tW,tL,L,cond_false,R,O,P];rfl),(Mem.cast (by rw[O,P];rfl)<|Mem.push<|Mem.push<|N.pick [] An rfl)⟩
  ·have ai:=a5;try simp only[zA]at ai
   refine Av<|Ab 4<|Aw rfl (Au [] [0,1,2] fun H f l=>(N0 s d (6:UInt8) xs.length _ Ae Ae Ae)) fun G aj=>Ab 1 ?_
   refine Af rfl (Bj (mk:=fun b_=>.slice (some ⟨b_,0,none⟩) 2 2) (t:=38) (cs:=[sV G 12,Value.slice a xs.length cap]) rfl fun _=>kr) fun ak=>Cb (v:=bV<|((E3 ((Fa s d (6:UInt8) xs.length)++xs):Nat):Int)==0) (A8 fun H f=>(R5 [⟨G.a,(Fa s d (6:UInt8) xs.length),G.cap⟩,⟨a,xs,cap⟩] ((Fa s d (6:UInt8) xs.length)++xs) (some ⟨ak,0,none⟩) 2 2 (12+xs.length) _ rfl (by simp[jn]) Mf (by first|exact A4 (i:=0) (j:=0) (t:=38) (b:=ak) f rfl rfl|(rw[show mc Pg ([⟨G.a,(Fa s d (6:UInt8) xs.length),G.cap⟩,⟨a,xs,cap⟩]:List SV)=[sV G 12,Value.slice a xs.length cap] by(simp[mc,Bc,B8];try omega)];exact A4 (i:=0) (j:=0) (t:=38) (b:=ak) f rfl rfl)) (List.forall_mem_cons.2 ⟨(FS.at (i:=1) (t:=5) f rfl<|Ah aj<|by rw[Du,B8]),(List.forall_mem_cons.2 ⟨(ar.mem0 f),(fun _ h=>by cases h)⟩)⟩) K2 A7 A7))<|Ab 2<|Ai ?_
   refine Al [2,3,4] An rfl ?_
   refine Ak (!(((E3 ((Fa s d (6:UInt8) xs.length)++xs):Nat):Int)==0)) Aa (fun af=>?_) fun ag=>?_
   ·have al:=af;try simp only[zA]at al
    refine Av<|Ab 1<|Af rfl (A0 I 0 2 0 Q2g sizeOf126 rfl rfl) fun _=>Ab 1 ?_
    refine Ai<|Al [2] An rfl<|Am rfl ?_
    have hK:tK xs=4*((xs.getD 12 0).toNat/16):=rfl
    have bc: ¬(E3 (Fa s d 6 xs.length++xs)=0):=by have z_:=af;simp at z_;omega
    have R:tR s d xs=12:=by unfold tR;rw[if_neg Ae,if_neg Ae,if_neg Ae,if_pos Ae]
    have L:tg s d xs=false:=by unfold tg;rw[R];rfl
    have O:tO s d xs=[]:=by unfold tO;rw[L];rfl
    have P:tD s d xs=[]:=by unfold tD;rw[L];rfl
    exact E2 rfl (Bu I 0 0 0 zl2 isAgg126 sizeOf126) (Ar<|iV .i64 12) fun H N=>⟨(FS.nul,FS.nul),⟨by rw[O];exact B6 1,by rw[P];exact B6 1⟩,Eo<|(by simp only[tF,tW,tL,L,cond_false,R,O,P];rfl),(Mem.cast (by rw[O,P];rfl)<|Mem.push<|Mem.push<|N.pick [] An rfl)⟩
   ·have am:=ag;try simp only[zA]at am
    refine Ag<|A9<|Av<|Ab 2 ?_
    refine Ao (v:=iV .i64<|(((((xs.getD 12 0).toNat)/16)*4:Nat):Int)-20) ((Ys.p (v:=.int .i64<|Hp .i64 (((((xs.getD 12 0).toNat)/16)*4:Nat):Int) 20)).conseq<|Ad<|Er rfl Ae Ae)<|Aw rfl (Au [0] [1,2] fun H f l=>(Jt (xs.drop 20) ae.a (xs.length-20) ae.cap false q.b ((((((xs.getD 12 0).toNat)/16)*4:Nat):Int)-20) _ Abn l (S _<|Q _<|J _<|F _<|E _<|D _<|C _<|A _<|x _<|by rw[List.drop_zero];exact(FS.at (i:=1) (t:=5) f rfl<|Ah u<|Bo _)) Fp Fp)) fun o an=>?_
    obtain⟨ao,T,bf⟩:=an
    refine Ab 1<|Af rfl (Bd I 7 3 0 (sL o.g.a ((Dc (xs.drop 20)<|(((((xs.getD 12 0).toNat)/16)*4:Nat):Int)-20).length) o.g.cap) sizeOf38 rfl rfl) fun _=>?_
    refine Ai<|W.s ?_
    have b0:(D3 (xs.drop 20) ((((xs.getD 12 0).toNat/16*4:Nat):Int)-20)).length=xs.length-(xs.getD 12 0).toNat/16*4:=by rw[show((((xs.getD 12 0).toNat/16*4:Nat):Int)-20)=(((xs.getD 12 0).toNat/16*4-20:Nat):Int) by omega,P0 Ae,List.length_drop];omega
    refine Ac<|Ab 2<|Cb (v:=nV .i64<|(D3 (xs.drop 20)<|(((((xs.getD 12 0).toNat)/16)*4:Nat):Int)-20).length) (A8 fun H f=>(Zg (D3 (xs.drop 20)<|(((((xs.getD 12 0).toNat)/16)*4:Nat):Int)-20) o.a ((D3 (xs.drop 20)<|(((((xs.getD 12 0).toNat)/16)*4:Nat):Int)-20).length) o.cap (Pf (xs.drop 20) false<|(((((xs.getD 12 0).toNat)/16)*4:Nat):Int)-20) q.b _ rfl (f.one (i:=0) rfl)<|T _<|S _<|Q _<|J _<|F _<|E _<|D _<|C _<|A _<|x _<|by rw[List.drop_zero];exact(FS.at (i:=2) (t:=5) f rfl<|Ah u<|Bo _)))<|Aw rfl (Au [0] [1,2,3] fun H f l=>(Jt (D3 (xs.drop 20)<|(((((xs.getD 12 0).toNat)/16)*4:Nat):Int)-20) o.a ((D3 (xs.drop 20)<|(((((xs.getD 12 0).toNat)/16)*4:Nat):Int)-20).length) o.cap (Pf (xs.drop 20) false<|(((((xs.getD 12 0).toNat)/16)*4:Nat):Int)-20) q.b ((D3 (xs.drop 20)<|(((((xs.getD 12 0).toNat)/16)*4:Nat):Int)-20).length:Int) _ rfl l (T _<|S _<|Q _<|J _<|F _<|E _<|D _<|C _<|A _<|x _<|by rw[List.drop_zero];exact(FS.at (i:=2) (t:=5) f rfl<|Ah u<|Bo _)) Fp Fp)) fun B ap=>?_
    obtain⟨aq,bg,bh⟩:=ap
    refine Ab 1<|Af rfl (Bd I 8 4 0 (sL B.g.a ((Dc (D3 (xs.drop 20)<|(((((xs.getD 12 0).toNat)/16)*4:Nat):Int)-20) ((D3 (xs.drop 20)<|(((((xs.getD 12 0).toNat)/16)*4:Nat):Int)-20).length:Int)).length) B.g.cap) sizeOf38 rfl rfl) fun _=>?_
    refine Ai<|Al [1,2,4] An rfl<|Av ?_
    refine A5 1 [(2,0)]<|Af rfl (A0 I 0 2 0 [nV .u16 ((w2 xs 0)%65536),nV .u16<|(w2 xs 2)%65536,nV .u32<|(bv<|(xs.drop 4).take 4)%4294967296,nV .u32<|(bv<|(xs.drop 8).take 4)%4294967296,nV .u8<|(UInt8.ofNat<|(xs.getD 13 0).toNat).toNat,nV .u16<|(w2 xs 14)%65536,nV .u16<|(w2 xs 18)%65536,sL o.g.a ((Dc (xs.drop 20)<|(((((xs.getD 12 0).toNat)/16)*4:Nat):Int)-20).length) o.g.cap,sL B.g.a ((Dc (D3 (xs.drop 20)<|(((((xs.getD 12 0).toNat)/16)*4:Nat):Int)-20) ((D3 (xs.drop 20)<|(((((xs.getD 12 0).toNat)/16)*4:Nat):Int)-20).length:Int)).length) B.g.cap] sizeOf126 rfl rfl) fun _=>?_
    refine Ab 1<|Ai<|Am rfl ?_
    have hK:tK xs=4*((xs.getD 12 0).toNat/16):=rfl
    have bc:(E3 (Fa s d 6 xs.length++xs)=0):=by have z_:=ag;simp at z_;omega
    have R:tR s d xs=0:=by unfold tR;rw[if_neg Ae,if_neg Ae,if_neg Ae,if_neg Ae]
    have L:tg s d xs=true:=by unfold tg;rw[R];rfl
    have a6:(xs.getD 12 0).toNat/16*4=tK xs:=by omega
    have O:tO s d xs=Dc (xs.drop 20) ((((((xs.getD 12 0).toNat)/16)*4:Nat):Int)-20):=by unfold tO;rw[L];simp only[cond_true];rw[a6,Amp Ae Ae]
    have P:tD s d xs=Dc (D3 (xs.drop 20) ((((((xs.getD 12 0).toNat)/16)*4:Nat):Int)-20)) ((D3 (xs.drop 20) ((((((xs.getD 12 0).toNat)/16)*4:Nat):Int)-20)).length:Int):=by unfold tD;rw[L];simp only[cond_true];rw[a6,Amo Ae Ae]
    have a7:(tO s d xs).length=(Dc (xs.drop 20) ((((((xs.getD 12 0).toNat)/16)*4:Nat):Int)-20)).length:=by rw[O];first|done|rfl|(rw[List.length_take,List.length_drop];omega)
    have a8:(tD s d xs).length=(Dc (D3 (xs.drop 20) ((((((xs.getD 12 0).toNat)/16)*4:Nat):Int)-20)) ((D3 (xs.drop 20) ((((((xs.getD 12 0).toNat)/16)*4:Nat):Int)-20)).length:Int)).length:=by rw[P];first|done|rfl|(simp;done)|(rw[List.length_drop];omega)
    exact E2 rfl (Bu I 0 2 0 [nV .u16 ((w2 xs 0)%65536),nV .u16<|(w2 xs 2)%65536,nV .u32<|(bv<|(xs.drop 4).take 4)%4294967296,nV .u32<|(bv<|(xs.drop 8).take 4)%4294967296,nV .u8<|(UInt8.ofNat<|(xs.getD 13 0).toNat).toNat,nV .u16<|(w2 xs 14)%65536,nV .u16<|(w2 xs 18)%65536,Value.slice o.g.a ((Dc (xs.drop 20)<|(((((xs.getD 12 0).toNat)/16)*4:Nat):Int)-20).length) o.g.cap,Value.slice B.g.a ((Dc (D3 (xs.drop 20)<|(((((xs.getD 12 0).toNat)/16)*4:Nat):Int)-20) ((D3 (xs.drop 20)<|(((((xs.getD 12 0).toNat)/16)*4:Nat):Int)-20).length:Int)).length) B.g.cap] isAgg126 sizeOf126) (Ar<|iV .i64 0) fun H N=>⟨(o.g,B.g),⟨by rw[a7];exact ao,by rw[a8];exact aq⟩,Eo<|(by rw[a7,a8];simp only[tF,tW,tL,L,cond_true,R,X7,Nat.mod_eq_of_lt<|Zy xs _,Nat.mod_eq_of_lt (Eu xs _)];try rfl),(Mem.cast (by rw[O,P];rfl)<|N.pick [1,0] An rfl)⟩
theorem Uz(s d:Nat)(xs:List UInt8)(a:Option Addr)(cap:Nat)(len:Nat)(w:World)(f:len=xs.length)(b:At w a (Cx xs))(h:s<4294967296)(i:d<4294967296)(j:len≤100000)(e:len≤cap):Calls prog 84 #[.int .u32 (s:Int),.int .u32 (d:Int),.slice a len cap] w (Bn w (fun g:FS×FS=>g.1.ok 1 (tO s d xs).length∧g.2.ok 1 (tD s d xs).length) (fun g=>.tuple #[.agg [.int .u16 ((tF s d xs 0:Nat):Int),.int .u16 ((tF s d xs 2:Nat):Int),.int .u32 ((tW s d xs 4:Nat):Int),.int .u32 ((tW s d xs 8:Nat):Int),.int .u8 ((tL s d xs).toNat:Int),.int .u16 ((tF s d xs 14:Nat):Int),.int .u16 ((tF s d xs 18:Nat):Int),.slice g.1.a (tO s d xs).length g.1.cap,.slice g.2.a (tD s d xs).length g.2.cap].toArray,.int .i64 (tR s d xs)]) [] (fun g=>[g.1.seg 5 (Cx (tO s d xs)),g.2.seg 5 (Cx (tD s d xs))])):=by
  subst f;exact Amr s d xs a cap w b h i j e
def Ir(pr:UInt8):Bool:=(pr.toNat:Int)==6
def Oz(pr:UInt8):Bool:=(pr.toNat:Int)==17
def isI(pr:UInt8):Bool:=(pr.toNat:Int)==1
def Kd(pr:UInt8)(s d:Nat)(xs:List UInt8):Int:=bif Ir pr then tR s d xs else bif Oz pr then uR s d xs else bif isI pr then Sm xs else 11
def N9(pr:UInt8)(s d:Nat)(xs:List UInt8):Bool:= !(Kd pr s d xs !=0)
def H1(pr:UInt8)(s d:Nat)(xs:List UInt8):Int:=bif N9 pr s d xs then(bif Ir pr then 1 else bif Oz pr then 1 else Ve xs)else 0
def Hs(pr:UInt8)(s d:Nat)(xs:List UInt8):UInt8:=bif N9 pr s d xs then(bif Ir pr then pr else bif Oz pr then pr else Kb pr xs)else 0
def Gf(pr:UInt8)(s d:Nat)(xs:List UInt8):Nat:=bif N9 pr s d xs then(bif Ir pr then s else bif Oz pr then s else Mk s 16 xs)else 0
def Gn(pr:UInt8)(s d:Nat)(xs:List UInt8):Nat:=bif N9 pr s d xs then(bif Ir pr then d else bif Oz pr then d else Mk d 12 xs)else 0
def Jd(pr:UInt8)(s d:Nat)(xs:List UInt8):Nat:=bif N9 pr s d xs then(bif Ir pr then tF s d xs 0 else bif Oz pr then uF s d xs 0 else S2 0 xs)else 0
def Je(pr:UInt8)(s d:Nat)(xs:List UInt8):Nat:=bif N9 pr s d xs then(bif Ir pr then tF s d xs 2 else bif Oz pr then uF s d xs 2 else S3 0 xs)else 0
abbrev Q2h:List Value:=zl0
theorem Apn(tt pr:UInt8)(id s d:Nat)(xs:List UInt8)(a:Option Addr)(cap:Nat)(w:World)(t:At w a (Cx xs))(hi:id<65536)(hs:s<4294967296)(hd:d<4294967296)(hl:xs.length≤100000)(ak:xs.length≤cap):Calls prog 41 #[aV [nV .u8 tt.toNat,nV .u8 pr.toNat,nV .u16 id,nV .u32 s,nV .u32 d,sL a xs.length cap]] w (Df w (.tuple #[.agg ([nV .u8 ((Hs pr s d xs).toNat),nV .u32 (Gf pr s d xs),nV .u32 (Gn pr s d xs),nV .u16 (Jd pr s d xs),nV .u16 (Je pr s d xs)]).toArray,.int .i64 (H1 pr s d xs),.int .i64 (Kd pr s d xs)])):=by
 refine Ap (M:=[]) (LL:=[]) (n:=71) func41 rfl rfl A7 (Mem.refl _)<|W.s ?_
 refine Ac<|Af rfl (Bx [nV .u8 tt.toNat,nV .u8 pr.toNat,nV .u16 id,nV .u32 s,nV .u32 d,sL a xs.length cap] rfl) fun p1=>?_
 refine Af rfl (Ba zeroValue47) fun j=>Ab 2<|Ai<|W.s ?_
 refine Ac<|A5 7 [(1,0),(1,0),(1,0)]<|Af rfl (A0 j 0 0 0 [nV .u8 pr.toNat,nV .u32 s,nV .u32 d,iV .u16 0,iV .u16 0] sizeOf47 rfl rfl) fun _=>Ai ?_
 refine W.s<|Aj [(1,0)]<|W.block<|Aj [] ?_
 refine Ak (((pr.toNat:Nat):Int)==6) Aa (fun u=>?_) fun l=>?_
 ·have G:=u;try simp only[zA]at G
  refine Av<|A5 6 [(1,0),(1,0),(1,0)]<|Aw rfl (Au [] [0,1] fun w_ o ad=>(Uz s d xs a cap xs.length _ K1 (t.mem0 o) Ae Ae Fp Fp)) fun h H=>?_
  obtain⟨af,ag⟩:=H
  refine Ab 3<|Af rfl (Ba zeroValue126) fun p5=>?_
  refine Af rfl (A0 p5 0 0 0 [nV .u16 (tF s d xs 0),nV .u16<|tF s d xs 2,nV .u32<|tW s d xs 4,nV .u32<|tW s d xs 8,nV .u8<|(tL s d xs).toNat,nV .u16<|tF s d xs 14,nV .u16<|tF s d xs 18,sL h.1.a ((tO s d xs).length) h.1.cap,sL h.2.a ((tD s d xs).length) h.2.cap] sizeOf126 rfl rfl) fun _=>Ab 1<|Ai<|Al [0,1,2,3] An rfl ?_
  refine B3 [(0,true),(1,true),(2,true),(3,true),(4,true),(5,false),(6,false),(7,false),(8,false),(9,false),(10,false)] [0,1,2,3,4] (Mem w [] [[cb p5 [nV .u16 (tF s d xs 0),nV .u16<|tF s d xs 2,nV .u32<|tW s d xs 4,nV .u32<|tW s d xs 8,nV .u8<|(tL s d xs).toNat,nV .u16<|tF s d xs 14,nV .u16<|tF s d xs 18,sL h.1.a ((tO s d xs).length) h.1.cap,sL h.2.a ((tD s d xs).length) h.2.cap] 126],h.1.seg 5<|mc b8<|tO s d xs,h.2.seg 5 (mc b8<|tD s d xs)]) Aa Aa Aa rfl Aa (fun _ _ x=>x.drawn _) (fun _ x=>x.pick [0,1,2] An rfl)<|Wd.mp 6 [(0,0),(0,0)] [0,1,2]<|Cj rfl rfl (Bd j 3 3 0 (nV .u16<|tF s d xs 0) sizeOf22 rfl rfl) (Az [0,1,2]) fun _=>Wd.mp 1 [] [0,1,2]<|Cj rfl rfl (Bd j 4 3 0 (nV .u16<|tF s d xs 2) sizeOf22 rfl rfl) (Az [0,1,2]) fun _=>?_
  refine Wd.mp 2 [] [0,1,2]<|Cl<|Al [3] An rfl<|W.s ?_
  refine Aj [] ?_
  refine Ak ((tR s d xs) !=0) Aa (fun I=>?_) fun A=>?_
  ·have J:=I;try simp only[zA]at J
   refine Av<|Ab 2<|Af rfl (A0 j 0 0 0 Q2h sizeOf47 rfl rfl) fun _=>Ab 2 ?_
   refine Ai<|Am rfl ?_
   have b:Ir pr=true:=u
   have f:Kd pr s d xs=tR s d xs:=by simp only[Kd,b,cond_true,cond_false]
   have i:N9 pr s d xs=false:=by unfold N9;rw[f,I];rfl
   exact Vb rfl (Bu j 0 0 0 zl0 isAgg47 sizeOf47) (Ar<|iV .i64 0) (Ar<|iV .i64<|tR s d xs)<|by simp only[H1,Hs,Gf,Gn,Jd,Je,f,i,b,cond_true,cond_false];try rfl
  ·have L:=A;try simp only[zA]at L
   refine Ag<|A9<|Av<|A5 2 [(0,0)] ?_
   refine Af rfl (A0 j 0 0 0 [nV .u8 pr.toNat,nV .u32 s,nV .u32 d,nV .u16<|tF s d xs 0,nV .u16 (tF s d xs 2)] sizeOf47 rfl rfl) fun _=>Ab 2<|Ai<|Am rfl ?_
   have b:Ir pr=true:=u
   have f:Kd pr s d xs=tR s d xs:=by simp only[Kd,b,cond_true,cond_false]
   have i:N9 pr s d xs=true:=by unfold N9;rw[f,A];rfl
   exact Vb rfl (Bu j 0 0 0 [nV .u8 pr.toNat,nV .u32 s,nV .u32 d,nV .u16<|tF s d xs 0,nV .u16 (tF s d xs 2)] isAgg47 sizeOf47) (Ar<|iV .i64 1) (Ar<|iV .i64 0) (by simp only[H1,Hs,Gf,Gn,Jd,Je,f,i,b,cond_true,cond_false];try(rw[show tR s d xs=(0:Int) from by have N:=A;simpa using N]);try rfl)
 ·have O:=l;try simp only[zA]at O
  refine Aj [] ?_
  refine Ak (((pr.toNat:Nat):Int)==17) Aa (fun B=>?_) fun q=>?_
  ·have P:=B;try simp only[zA]at P
   refine Av<|A5 6 [(1,0),(1,0),(1,0)]<|Aw rfl (Au [] [0,1] fun w_ o ad=>(P1 s d xs a cap xs.length _ K1 (t.mem0 o) Ae Ae Fp Fp)) fun C ai=>Ab 3 ?_
   refine Af rfl (Ba zeroValue124) fun p7=>Af rfl (A0 p7 0 0 0 [nV .u16 (uF s d xs 0),nV .u16<|uF s d xs 2,bV<|uP s d xs,sV C ((uD s d xs).length)] sizeOf124 rfl rfl) fun _=>?_
   refine Ab 1<|Ai<|Al [0,1,2] An rfl<|B3 [(0,true),(1,true),(2,true),(3,true),(4,true),(5,false),(6,false),(7,false),(8,false),(9,false),(10,false)] [0,1,2,3,4] (Mem w [] [[cb p7 [nV .u16 (uF s d xs 0),nV .u16<|uF s d xs 2,bV<|uP s d xs,sV C ((uD s d xs).length)] 124],C.seg 5 (mc b8<|uD s d xs)]) Aa Aa Aa rfl Aa (fun _ _ x=>x.drawn _) (fun _ x=>x.pick [0,1] An rfl) ?_
   refine Wd.mp 6 [(0,0),(0,0)] [0,1]<|Cj rfl rfl (Bd j 3 2 0 (nV .u16<|uF s d xs 0) sizeOf22 rfl rfl) (Az [0,1]) fun _=>?_
   refine Wd.mp 1 [] [0,1]<|Cj rfl rfl (Bd j 4 2 0 (nV .u16<|uF s d xs 2) sizeOf22 rfl rfl) (Az [0,1]) fun _=>?_
   refine Wd.mp 2 [] [0,1]<|Cl<|Al [2] An rfl<|W.s ?_
   refine Aj [] ?_
   refine Ak ((uR s d xs) !=0) Aa (fun Q=>?_) fun D=>?_
   ·have R:=Q;try simp only[zA]at R
    refine Av<|Ab 2<|Af rfl (A0 j 0 0 0 Q2h sizeOf47 rfl rfl) fun _=>Ab 2 ?_
    refine Ai<|Am rfl ?_
    have b:Ir pr=false:=l
    have e:Oz pr=true:=B
    have f:Kd pr s d xs=uR s d xs:=by simp only[Kd,b,e,cond_true,cond_false]
    have i:N9 pr s d xs=false:=by unfold N9;rw[f,Q];rfl
    exact Vb rfl (Bu j 0 0 0 zl0 isAgg47 sizeOf47) (Ar<|iV .i64 0) (Ar<|iV .i64<|uR s d xs)<|by simp only[H1,Hs,Gf,Gn,Jd,Je,f,i,b,e,cond_true,cond_false];try rfl
   ·have S:=D;try simp only[zA]at S
    refine Ag<|A9<|Av<|A5 2 [(0,0)] ?_
    refine Af rfl (A0 j 0 0 0 [nV .u8 pr.toNat,nV .u32 s,nV .u32 d,nV .u16<|uF s d xs 0,nV .u16 (uF s d xs 2)] sizeOf47 rfl rfl) fun _=>Ab 2<|Ai<|Am rfl ?_
    have b:Ir pr=false:=l
    have e:Oz pr=true:=B
    have f:Kd pr s d xs=uR s d xs:=by simp only[Kd,b,e,cond_true,cond_false]
    have i:N9 pr s d xs=true:=by unfold N9;rw[f,D];rfl
    exact Vb rfl (Bu j 0 0 0 [nV .u8 pr.toNat,nV .u32 s,nV .u32 d,nV .u16<|uF s d xs 0,nV .u16 (uF s d xs 2)] isAgg47 sizeOf47) (Ar<|iV .i64 1) (Ar<|iV .i64 0) (by simp only[H1,Hs,Gf,Gn,Jd,Je,f,i,b,e,cond_true,cond_false];try(rw[show uR s d xs=(0:Int) from by have N:=D;simpa using N]);try rfl)
  ·have T:=q;try simp only[zA]at T
   refine Aj [] ?_
   refine Ak (((pr.toNat:Nat):Int)==1) Aa (fun E=>?_) fun U=>?_
   ·have V:=E;try simp only[zA]at V
    refine Ac<|A5 2 [(1,0),(0,0)]<|Cb (v:=Value.tuple #[aV [nV .u8 ((Kb pr xs).toNat),nV .u32<|Mk s 16 xs,nV .u32<|Mk d 12 xs,nV .u16<|S2 0 xs,nV .u16 (S3 0 xs)],iV .i64<|Ve xs,iV .i64 (Sm xs)]) (A8 fun w_ o=>(X6 tt pr id s d xs a cap pr s d 0 0 xs.length _ K1 (t.mem0 o) Tr Tr Tr Ey Ey))<|Ab 4<|Af rfl (A0 j 0 0 0 [nV .u8 ((Kb pr xs).toNat),nV .u32<|Mk s 16 xs,nV .u32<|Mk d 12 xs,nV .u16<|S2 0 xs,nV .u16 (S3 0 xs)] sizeOf47 rfl rfl) fun _=>?_
    refine Ab 2<|Ai<|Al [0] An rfl<|W.s ?_
    refine Aj [] ?_
    refine Ak ((Sm xs) !=0) Aa (fun X=>?_) fun F=>?_
    ·have Y:=X;try simp only[zA]at Y
     refine Av<|Ab 2<|Af rfl (A0 j 0 0 0 Q2h sizeOf47 rfl rfl) fun _=>Ab 2 ?_
     refine Ai<|Am rfl ?_
     have b:Ir pr=false:=l
     have e:Oz pr=false:=q
     have g:isI pr=true:=E
     have f:Kd pr s d xs=Sm xs:=by simp only[Kd,b,e,g,cond_true,cond_false]
     have i:N9 pr s d xs=false:=by unfold N9;rw[f,X];rfl
     exact Vb rfl (Bu j 0 0 0 zl0 isAgg47 sizeOf47) (Ar<|iV .i64 0) (Ar<|iV .i64<|Sm xs)<|by simp only[H1,Hs,Gf,Gn,Jd,Je,f,i,b,e,g,cond_true,cond_false];try rfl
    ·have Z:=F;try simp only[zA]at Z
     refine Ag<|A9<|Av<|A5 2 [(0,0)] ?_
     refine Af rfl (A0 j 0 0 0 [nV .u8 ((Kb pr xs).toNat),nV .u32<|Mk s 16 xs,nV .u32<|Mk d 12 xs,nV .u16<|S2 0 xs,nV .u16 (S3 0 xs)] sizeOf47 rfl rfl) fun _=>Ab 2<|Ai<|Am rfl ?_
     have b:Ir pr=false:=l
     have e:Oz pr=false:=q
     have g:isI pr=true:=E
     have f:Kd pr s d xs=Sm xs:=by simp only[Kd,b,e,g,cond_true,cond_false]
     have i:N9 pr s d xs=true:=by unfold N9;rw[f,F];rfl
     exact Vb rfl (Bu j 0 0 0 [nV .u8 ((Kb pr xs).toNat),nV .u32<|Mk s 16 xs,nV .u32<|Mk d 12 xs,nV .u16<|S2 0 xs,nV .u16 (S3 0 xs)] isAgg47 sizeOf47) (Ar<|iV .i64<|Ve xs) (Ar<|iV .i64 0) (by simp only[H1,Hs,Gf,Gn,Jd,Je,f,i,b,e,g,cond_true,cond_false];try(rw[show Sm xs=(0:Int) from by have N:=F;simpa using N]);try rfl)
   ·have aa:=U;try simp only[zA]at aa
    refine Ac<|Ab 1<|Ai<|Al [0] An rfl ?_
    refine W.s<|Aj []<|Cd Aa<|Av ?_
    refine Ab 2<|Af rfl (A0 j 0 0 0 Q2h sizeOf47 rfl rfl) fun _=>?_
    refine Ab 2<|Ai<|Am rfl ?_
    have b:Ir pr=false:=l
    have e:Oz pr=false:=q
    have g:isI pr=false:=U
    have f:Kd pr s d xs=11:=by simp only[Kd,b,e,g,cond_true,cond_false]
    have i:N9 pr s d xs=false:=by unfold N9;rw[f];rfl
    exact Vb rfl (Bu j 0 0 0 zl0 isAgg47 sizeOf47) (Ar<|iV .i64 0) (Ar<|iV .i64 11)<|by simp only[H1,Hs,Gf,Gn,Jd,Je,f,i,b,e,g,cond_true,cond_false];try rfl
theorem Aj0(tt pr:UInt8)(b s d:Nat)(xs:List UInt8)(a:Option Addr)(cap:Nat)(len:Nat)(w:World)(g:len=xs.length)(e:At w a (Cx xs))(h:b<65536)(i:s<4294967296)(j:d<4294967296)(l:xs.length≤100000)(f:xs.length≤cap):Calls prog 41 #[Value.agg ([Value.int .u8 (tt.toNat:Int),Value.int .u8 (pr.toNat:Int),Value.int .u16 (b:Int),Value.int .u32 (s:Int),Value.int .u32 (d:Int),sL a len cap]).toArray] w (Df w (.tuple #[.agg ([Value.int .u8 ((Hs pr s d xs).toNat:Int),Value.int .u32 (Gf pr s d xs:Int),Value.int .u32 (Gn pr s d xs:Int),Value.int .u16 (Jd pr s d xs:Int),Value.int .u16 (Je pr s d xs:Int)]).toArray,.int .i64 (H1 pr s d xs),.int .i64 (Kd pr s d xs)])):=by
  subst g;exact Apn tt pr b s d xs a cap w e h i j l f
end Go.Proofs.YtmonlaoaengfdaaGreatDoor.Oct
