import Derived.Test.YtmonlaoaengfdaaGreatDoorM16
import Derived.Test.YtmonlaoaengfdaaGreatDoorM2
import Derived.Test.YtmonlaoaengfdaaGreatDoorM14
set_option linter.unusedVariables false
set_option linter.unusedSimpArgs false
set_option maxRecDepth 20000
namespace Go.Proofs.YtmonlaoaengfdaaGreatDoor.Oct
open Go.RowKit Base
attribute [local irreducible] Ys Yc Ht HtS HtIn Wl Wd W Mem pf D4 Wa Wo
theorem Acl(zs:List UInt8)(a:Option Addr)(cap:Nat)(w:World)(hat:At w a (Ci zs))(h0:0<zs.length)(hz:zs.length≤1000000)(hlc:zs.length≤cap):Calls Tryz.prog 148 #[sL a zs.length cap] w (Bj w (fun g:FS=>g.ok 1 zs.length∧g.nil=false) (fun g=>.slice g.a zs.length g.cap) [] (fun g=>[g.seg 5 (Ci zs)])):=by
 refine Ar (M:=[]) (LL:=[]) (n:=8) Tryz.func148 rfl rfl A5 (Mem.refl _) (Ad (fun K1 hK1=>?_))
 refine Aa (Ab 1 (Ac (hK1 _ _ _ (Ad (fun K2 hK2=>?_)))))
 refine Ad (fun K3 hK3=>Aa (Ab 1 (Ah (v:=bV a.isNone) (Ys.pure (fun _=>by generalize a=a_;cases a_<;>kernel_rfl)) (Ac ?_))))
 refine hK3 _ _ _ ?_
 refine Ao (a.isNone) Ae (fun h5=>?_) (fun h6=>?_)
 ·(exfalso;have z_:=hat.here (by rw[Da];omega);rw[z_]at h5;cases h5)
 ·refine Ak (hK2 _ _ _ (Ad (fun K8 hK8=>Aa (Ai rfl (Bd (mk:=fun b_=>.slice (some ⟨b_,0,none⟩) 0 0) (t:=5) (cs:=[]) rfl (fun _=>kr)) (fun p5=>?_)))))
  refine Ab 1 (Ax rfl (HtS.append (eu:=5) (xv:=Value.slice a zs.length cap) (i:=0) (g:=(FS.mk false p5 0 [])) (e:=5) (ii:=(Tryz.prog.info? 5).getD default) (z:=iV .u8 0) (sz:=1) (bytes:=1) (nn:=0) (m:=zs.length) (k:=zs.length) (xs:=mc b8 []) (news:=mc b8 zs) (cs':=mc b8 zs) (Lo:=fun g9=>[g9.seg 5 (mc b8 zs)]) rfl rfl Ae Ae Ae Ae Ae Ae Ae Ae Ae rfl (Dp Al) (by first|rfl|simp[mc,A8,By]) (fun _=>rfl) (Src.at (a:=a) (Ba _) (fun w_ h_=>(hat.mem0 h_))) (Ba _) (Dl (fun _=>rfl) _) Ef Gv Ef rfl (fun _=>rfl)) (fun g9 hx14=>?_))
  obtain⟨ok10,hn11,hn12⟩:=hx14
  refine Ab 1 (Ac (hK8 _ _ _ (Aq (fn:=Tryz.f148) rfl (fun w_ hS_=>Bb rfl (Aw (sV g9 zs.length)) hS_ ⟨g9,⟨ok10,C5 ok10 Ag⟩,rfl,(hS_.pick [0] Al rfl)⟩))))
theorem Y0(zs:List UInt8)(a:Option Addr)(cap len:Nat)(w:World)(hn:len=zs.length)(hat:At w a (Ci zs))(h0:0<zs.length)(hz:zs.length≤1000000)(hlc:zs.length≤cap):Calls Tryz.prog 148 #[.slice a len cap] w (Bj w (fun g:FS=>g.ok 1 zs.length∧g.nil=false) (fun g=>.slice g.a zs.length g.cap) [] (fun g=>[g.seg 5 (Ci zs)])):=by
  subst hn;exact Acl zs a cap w hat h0 hz hlc
def hw(n:Nat):Nat:=n/65536%65536
def lw(n:Nat):Nat:=n%65536
theorem Ag2(n:Nat):hw n<65536:=by unfold hw;omega
theorem Ag3(n:Nat):lw n<65536:=by unfold lw;omega
theorem Js(pr:UInt8)(s d fr to:Nat)(w:World)(hs:s<4294967296)(hd:d<4294967296):Calls Tryz.prog 149 #[aV [nV .u8 pr.toNat,nV .u32 s,nV .u32 d,nV .u16 fr,nV .u16 to]] w (Dc w (.agg ([nV .u16 (hw s),nV .u16 (lw s),nV .u16 (hw d),nV .u16 (lw d)]).toArray)):=by
 refine Ar (M:=[]) (LL:=[]) (n:=18) Tryz.func149 rfl rfl A5 (Mem.refl _) (Ad (fun K1 hK1=>?_))
 refine Aa (Ai rfl (Bx [nV .u8 pr.toNat,nV .u32 s,nV .u32 d,nV .u16 fr,nV .u16 to] rfl) (fun p1=>?_))
 refine Ai rfl (Bc Tryz.zeroValue258) (fun p2=>Ac (hK1 _ _ _ (Ad (fun K3 hK3=>Aa ?_))))
 refine Ab 1 (Ah (An p1 1 1 0 Tryz.isAgg24) (Ah (v:=nV .u32 (s/65536)) ((Ys.p (v:=.int .u32 (Jd .u32 (s:Int) ((16:Nat):Int)))).conseq (Af (El s 16 Al))) (Ah (v:=nV .u16 ((s/65536)%65536)) ((Ys.p (v:=.int .u16 (Cg .u16 ((s/65536:Nat):Int)))).conseq (Af (C6 rfl _))) (Ab 1 ?_))))
 refine Ah (An p1 1 1 0 Tryz.isAgg24) (Ah (v:=nV .u16 (s%65536)) ((Ys.p (v:=.int .u16 (Cg .u16 (s:Int)))).conseq (Af (C6 rfl _))) (Ab 1 (Ah (An p1 2 1 0 Tryz.isAgg24) (Ah (v:=nV .u32 (d/65536)) ((Ys.p (v:=.int .u32 (Jd .u32 (d:Int) ((16:Nat):Int)))).conseq (Af (El d 16 Al))) ?_))))
 refine Ah (v:=nV .u16 ((d/65536)%65536)) ((Ys.p (v:=.int .u16 (Cg .u16 ((d/65536:Nat):Int)))).conseq (Af (C6 rfl _))) (Ab 1 (Ah (An p1 2 1 0 Tryz.isAgg24) (Ah (v:=nV .u16 (d%65536)) ((Ys.p (v:=.int .u16 (Cg .u16 (d:Int)))).conseq (Af (C6 rfl _))) (Ab 1 ?_))))
 refine Ai rfl (A4 p2 0 0 0 [nV .u16 ((s/65536)%65536),nV .u16 (s%65536),nV .u16 ((d/65536)%65536),nV .u16 (d%65536)] Tryz.sizeOf258 rfl rfl) (fun _=>Ac (hK3 _ _ _ (Ap [0] Al rfl (Aq (fn:=Tryz.f149) rfl (fun w_ hS_=>Bb rfl (Bq p2 0 0 0 [nV .u16 ((s/65536)%65536),nV .u16 (s%65536),nV .u16 ((d/65536)%65536),nV .u16 (d%65536)] Tryz.isAgg258 Tryz.sizeOf258) hS_ ⟨rfl,hS_.below⟩)))))
def Eo(zs:List UInt8)(k n:Nat):List UInt8:=(zs.set k (UInt8.ofNat (n/256))).set (k+1) (UInt8.ofNat (n%256))
theorem Y1{zs:List UInt8}{k n:Nat}(h:k+2≤zs.length):Eo zs k n=Hl zs k n:=Ue h
theorem Hi(zs:List UInt8)(k n:Nat):(Eo zs k n).length=zs.length:=by unfold Eo;simp
theorem Jt(zs:List UInt8){k n p:Nat}(h:p+1≤k∨k+2≤p):(Eo zs k n).getD p 0=zs.getD p 0:=by
  unfold Eo;simp only[List.getD_eq_getElem?_getD]
  rw[List.getElem?_set_ne Ag,List.getElem?_set_ne Ag]
theorem Dk{z Z:List UInt8}{k n:Nat}(h:Eo z k n=Z):Z.length=z.length:=by rw[←h];exact Hi ..
theorem Pq{z zs:List UInt8}{k m:Nat}(e:z.length=zs.length)(h:m≤zs.length)(hk:k≤m):k≤z.length:=by omega
theorem Pr{z zs:List UInt8}{m:Nat}(e:z.length=zs.length)(h:zs.length≤m):z.length≤m:=by omega
theorem lec{z:List UInt8}{m n:Nat}(e:z.length=n)(h:n≤m):z.length≤m:=by omega
theorem mcl{z:List UInt8}{n:Nat}(h:z.length=n):(mc b8 z).length=n*1:=by rw[Da,h,Nat.mul_one]
theorem Cw{z Z:List UInt8}{k n p:Nat}(h:Eo z k n=Z)(hd:p+2≤k∨k+2≤p):w2 Z p=w2 z p:=by
  subst h;unfold w2;rw[Jt _ Ag,Jt _ Ag]
theorem Kj{z Z:List UInt8}{k n p:Nat}(h:Eo z k n=Z)(hd:p+1≤k∨k+2≤p):Z.getD p 0=z.getD p 0:=by subst h;exact Jt _ hd
theorem Aj1(g:FS)(zs:List UInt8)(k n:Nat)(M:List Nat)(w:World)(hl:Mem w M [g.seg 5 (Ci zs)] w)(ok:g.ok 1 zs.length)(hnn:g.nil=false)(hk:k+2≤zs.length)(hz:zs.length≤1000000)(hn:n<65536):Calls Tryz.prog 150 #[sV g zs.length,nV .i64 k,nV .u16 n] w (Bj w (fun _:Unit=>True) (fun _=>.tuple #[]) M (fun _=>[g.seg 5 (Ci (Eo zs k n))])):=by
 refine Ar (M:=M) (LL:=[g.seg 5 (mc b8 zs)]) (n:=13) Tryz.func150 rfl rfl A5 (hl) ?_
 have hn2:=hnn
 obtain⟨gn1,gb,gc,gr⟩:=g
 obtain rfl:gn1=false:=hn2
 have hc3:zs.length≤gc:=ok.le
 refine Bz [(0,true),(1,true),(2,true),(3,false),(4,false),(5,false),(6,false)] [0,1,2] (Mem w M []) Ae Ae Ae rfl Ae (fun _ _ h_=>h_.drawn _) (fun _ h_=>h_.pick [] Al rfl) (Ay 2 (Wd.ys (v:=sL (C8 (some ⟨gb,0,none⟩) gc k 1) (zs.length-k) (gc-k)) rfl rfl rfl (Bk (a:=some ⟨gb,0,none⟩) (len:=zs.length) (cap:=gc) (sz:=1) (k:=.i64) (i:=(k:Int)) rfl Ae Ae Tryz.runUnderlying38 Tryz.sizeOf5 Ag Ag) (Wd.yc (v:=nV .u16 n) rfl rfl rfl (Ys.yc (Ys.p)) (.inr fun _ h_=>h_.pick [] Al rfl) (Wd.yc (v:=nV .u64 n) rfl rfl rfl (Ys.yc ((Ys.p (v:=.int .u64 (Cg .u64 (n:Int)))).conseq (Af (Cc Ag Ag)))) (.inr fun _ h_=>h_.pick [] Al rfl) ?_))))
 refine Cd rfl rfl (Au [] [0] (fun w_ hm_ hl_=>Cv 2 n Ag _)) (.inr fun _ _ h_=>h_.pick [] Al rfl) (fun g4 hx8=>?_)
 obtain⟨ok5,nn6⟩:=hx8
 refine B8 rfl rfl (Ck (cap:=gc) (dl:=zs.length-k) (dc:=gc-k) (m:=2) (q:=2) (sz:=1) (o':=k) (i:=1) (j:=0) (e:=5) (ii:=(Tryz.prog.info? 5).getD default) (b:=gb) (t:=5) (xv:=sV g4 2) (cs:=(mc b8 zs)++gr) (news:=mc b8 (be 2 n)) (cs':=(mc b8 (zs.take k++(be 2 n)++zs.drop (k+(be 2 n).length)))++gr) (LL':=[g4.seg 5 (mc b8 (be 2 n)),[cb gb ((mc b8 (zs.take k++(be 2 n)++zs.drop (k+(be 2 n).length)))++gr) 5]]) rfl rfl Ae Ae Ae Ae Ag Ae rfl rfl (fun _=>rfl) (by show min _ _=_;first|omega|(simp;omega)) (Src.at (a:=g4.a) S7 (fun w_ h_=>(FS.at (i:=0) (t:=5) h_ rfl (Aj ok5 E5)))) S7 (by first|(simp only[Da];omega)|(simp only[Da,List.length_append,List.length_take,List.length_drop];omega)|(simp[mc,A8,By];try omega)) (Dl (fun _=>rfl) _) (Wb (by first|(simp[mc,A8,By];done)|(simp[mc,A8,By];omega)) (Np (g:=b8) zs (be 2 n) k)) rfl) (.inr fun _ _ h_=>h_.pick [] Al rfl) (fun _=>A7 ?_)
 show∀w_,_→bodyPostM (Cy none) 0 Tryz.prog Tryz.f150 _ Exit.normal _ w_
 exact fun w_ hS_=>Dq (Il rfl ⟨(),trivial,rfl,(Mem.cast (by rw[Y1 hk];unfold Hl;rw[A8];rfl) (hS_.pick [1] Al rfl))⟩)
theorem Eu(g:FS)(zs:List UInt8)(len k n:Nat)(M:List Nat)(w:World)(Z:List UInt8)(hZ:Eo zs k n=Z)(hlen:len=zs.length)(hl:Mem w M [g.seg 5 (Ci zs)] w)(ok:g.ok 1 len)(hnn:g.nil=false)(hk:k+2≤zs.length)(hz:zs.length≤1000000)(hn:n<65536):
    Calls Tryz.prog 150 #[.slice g.a len g.cap,.int .i64 (k:Int),.int .u16 (n:Int)] w (Bj w (fun _:Unit=>True) (fun _=>.tuple #[]) M (fun _=>[g.seg 5 (Ci Z)])):=by
  subst hlen;subst hZ;exact Aj1 g zs k n M w hl ok hnn hk hz hn
theorem Gm(xs:List UInt8)(a:Option Addr)(cap k:Nat)(len:Nat)(w:World){v:Nat}(hv:w2 xs k=v)(hn:len=xs.length)(hat:At w a (Ci xs))(hk:k+1<xs.length)(hl:xs.length≤1000000)(hlc:xs.length≤cap):Calls Tryz.prog 152 #[.slice a len cap,.int .i64 (k:Int)] w (Dc w (.int .u16 (v:Int))):=by
  subst hv;exact Gd xs a cap k len w hn hat hk hl hlc
theorem Aj2(n a b:Nat):upc n a b<65536:=by have:=Aa3 n a b;omega
def Xr(zs:List UInt8)(ns nd:Nat):List UInt8:=Eo (Eo (Eo (Eo zs 12 (hw ns)) 14 (lw ns)) 16 (hw nd)) 18 (lw nd)
def Y2(os od ns nd:Nat):List (Nat×Nat):=[(hw os,hw ns),(lw os,lw ns),(hw od,hw nd),(lw od,lw nd)]
def Ut(zs:List UInt8)(os od ns nd:Nat):List UInt8:=Eo (Xr zs ns nd) 10 (Gl (w2 zs 10) (Y2 os od ns nd))
def Y3(zs:List UInt8)(os od ns nd nf nt:Nat):List UInt8:=Eo (Eo (Ut zs os od ns nd) 20 nf) 22 nt
def rtI(zs:List UInt8)(os od ns nd id:Nat):List UInt8:=Eo (Eo (Ut zs os od ns nd) 22 (Gl (w2 zs 22) [(w2 zs 24,id)])) 24 id
def M7(op:UInt8)(os od og ot ns nd nf nt:Nat)(zs:List UInt8):List UInt8:=
  bif Yz op then rtI zs os od ns nd (bif !(I4 (zs.getD 20 0))then nt else nf)
  else bif Mw op&&(((w2 zs 26:Nat):Int) !=0)then Eo (Y3 zs os od ns nd nf nt) 26 (Es (Gl (w2 zs 26) (Y2 os od ns nd++[(og,nf),(ot,nt)])))
  else bif G1 op&&decide (((zs.length:Nat):Int)≥38)then Eo (Y3 zs os od ns nd nf nt) 36 (Gl (w2 zs 36) (Y2 os od ns nd++[(og,nf),(ot,nt)]))
  else Y3 zs os od ns nd nf nt
abbrev Uu(nd nf ns nt p5:Nat)(np:UInt8):List Blk:=[cb p5 [nV .u8 np.toNat,nV .u32 ns,nV .u32 nd,nV .u16 nf,nV .u16 nt] 47]
abbrev Uv(od og os ot p4:Nat)(op:UInt8):List Blk:=[cb p4 [nV .u8 op.toNat,nV .u32 os,nV .u32 od,nV .u16 og,nV .u16 ot] 47]
abbrev Q2n(nd ns p9:Nat):List Blk:=[cb p9 [nV .u16 (hw ns),nV .u16 (lw ns),nV .u16 (hw nd),nV .u16 (lw nd)] 258]
abbrev Q2o(od os p8:Nat):List Blk:=[cb p8 [nV .u16 (hw os),nV .u16 (lw os),nV .u16 (hw od),nV .u16 (lw od)] 258]
abbrev Q2p:List Value:=[iV .u16 0,iV .u16 0,iV .u16 0,iV .u16 0]
abbrev Q2q(od os:Nat):List Value:=[nV .u16 (hw os),nV .u16 (lw os),nV .u16 (hw od),nV .u16 (lw od)]
abbrev Q2r(nd ns:Nat):List Value:=[nV .u16 (hw ns),nV .u16 (lw ns),nV .u16 (hw nd),nV .u16 (lw nd)]
abbrev Q2s(nd nf ns nt:Nat)(np:UInt8):List Value:=[nV .u8 np.toNat,nV .u32 ns,nV .u32 nd,nV .u16 nf,nV .u16 nt]
abbrev Q2t(nd ns od os:Nat):List Value:=[nV .u16 (hw os),nV .u16 (hw ns),nV .u16 (lw os),nV .u16 (lw ns),nV .u16 (hw od),nV .u16 (hw nd),nV .u16 (lw od),nV .u16 (lw nd)]
set_option maxHeartbeats 2000000 in
theorem Acn(zs:List UInt8)(a:Option Addr)(cap:Nat)(op:UInt8)(os od og ot:Nat)(np:UInt8)(ns nd nf nt:Nat)(w:World)(hat:At w a (Ci zs))(h0:28≤zs.length)(hz:zs.length≤1000000)(hlc:zs.length≤cap)(hos:os<4294967296)(hod:od<4294967296)(hog:og<65536)(hot:ot<65536)(hns:ns<4294967296)(hnd:nd<4294967296)(hnf:nf<65536)(hnt:nt<65536):Calls Tryz.prog 94 #[sL a zs.length cap,aV [nV .u8 op.toNat,nV .u32 os,nV .u32 od,nV .u16 og,nV .u16 ot],aV [nV .u8 np.toNat,nV .u32 ns,nV .u32 nd,nV .u16 nf,nV .u16 nt]] w (Bj w (fun g:FS=>g.ok 1 zs.length∧g.nil=false) (fun g=>.slice g.a zs.length g.cap) [] (fun g=>[g.seg 5 (Ci (M7 op os od og ot ns nd nf nt zs))])):=by
 have hcl_:=hlc
 refine Ar (M:=[]) (LL:=[]) (n:=139) Tryz.func94 rfl rfl A5 (Mem.refl _) (Ad (fun K1 hK1=>?_))
 refine Aa (Ai rfl (Bx [nV .u8 op.toNat,nV .u32 os,nV .u32 od,nV .u16 og,nV .u16 ot] rfl) (fun p4=>?_))
 refine Ai rfl (Bx (Q2s nd nf ns nt np) rfl) (fun p5=>Ab 1 (Ac (hK1 _ _ _ (Ad (fun K3 hK3=>?_)))))
 refine Aa (Ab 1 (Ax rfl (Au [] [0,1] (fun w_ hm_ hl_=>(Y0 zs a cap zs.length _ I7 (hat.mem0 hm_) Ag Ag Ef))) (fun g4 hx8=>?_)))
 obtain⟨ok5,nn6⟩:=hx8
 refine Ab 1 (Ac (hK3 _ _ _ (Ad (fun K10 hK10=>Aa ?_))))
 refine Ab 1 (Ac (hK10 _ _ _ (Ad (fun K11 hK11=>E2 [0,2] (Mem w [] [g4.seg 5 (mc b8 zs),Uu nd nf ns nt p5 np,Uv od og os ot p4 op]) Ae Ae (fun _ _ h_=>h_.drawn _) ?_))))
 refine Dw (w0:=w) (M:=[]) [0,4,5,7,8,9,18,20] (fun(z25:Nat×Nat)=>[sV g4 zs.length,pV p4 0,pV p5 0,sL none 0 0,pL (some ⟨z25.1,0,none⟩),pL (some ⟨z25.2,0,none⟩),aV (Q2q od os),aV (Q2r nd ns)]) (fun(z25:Nat×Nat)=>True) (fun(z25:Nat×Nat)=>[[cb z25.2 Q2p 258],[cb z25.1 Q2p 258],g4.seg 5 (mc b8 zs),Uu nd nf ns nt p5 np,Uv od og os ot p4 op]) 2 #[true,true,true,true,true,true,false,false] (fun z25 hp26 f27=>?_) (fun JD22=>?_)
 ·obtain⟨p8,p9⟩:=z25
  refine A3 (i:=6) Ae (Ch rfl rfl (A4 p8 0 1 0 (Q2q od os) Tryz.sizeOf258 rfl rfl) (.inr fun _ _ h_=>h_.pick [2,3,4] Al rfl) (fun _=>?_))
  refine A3 (i:=7) Ae (Ch rfl rfl (A4 p9 0 0 0 (Q2r nd ns) Tryz.sizeOf258 rfl rfl) (.inl Ae) (fun _=>?_))
  refine D1 Ae (hK11 _ _ _ (Ad (fun K29 hK29=>Ad (fun K30 hK30=>Aa ?_))))
  refine Ab 1 (Ac (hK30 _ _ _ (W.block (H7 5 ?_))))
  refine C4 (fun J31 hJ31=>Ad (fun K32 hK32=>?_))
  refine Aa (Ab 1 (Ac (hK32 _ _ _ (Ad (fun K33 hK33=>?_)))))
  refine B5 Ae (Ak (hK33 _ _ _ (Ad (fun K35 hK35=>W.block ?_))))
  refine Ad (fun K36 hK36=>Aa (Ab 2 (Ac (hK36 _ _ _ ?_))))
  refine Ad (fun K38 hK38=>Dh [(0,true),(1,true),(2,true),(3,true),(4,false),(5,false),(6,false),(7,false),(8,false),(9,false),(10,false)] [0,1,2,3] (Ay 3 (Wd.ys rfl rfl rfl (An p8 0 1 0 Tryz.isAgg22) (Wd.yc (v:=iV .i64 0) rfl rfl rfl (Ys.yc (Ys.p)) (.inr fun _ h_=>h_) ?_))))
  refine Wd.yc (v:=pV p9 0) rfl rfl rfl (Ys.yc (Ys.p)) (.inr fun _ h_=>h_) (Wd.yc (v:=nV .u16 (hw ns)) rfl rfl rfl (Ys.yc (An p9 0 0 0 Tryz.isAgg22)) (.inr fun _ h_=>h_) (Wd.yc (v:=aV [nV .u16 (hw os),nV .u16 (hw ns)]) rfl rfl rfl (Ys.yc (Ys.p)) (.inr fun _ h_=>h_) (B8 rfl rfl (Bd (mk:=fun b_=>.slice (some ⟨b_,0,none⟩) 1 1) (t:=260) (cs:=[nV .u16 (hw os),nV .u16 (hw ns)]) rfl (fun _=>kr)) (.inr fun _ _ h_=>h_.pick [1,2,3,4,5] Al rfl) (fun p32=>Wd.conseq (fun _ h_=>Mem.push h_) ?_))))
  refine Cd rfl rfl (HtS.append (eu:=260) (xv:=sL (some ⟨p32,0,none⟩) 1 1) (i:=0) (g:=FS.nul) (e:=260) (ii:=(Tryz.prog.info? 260).getD default) (z:=aV [iV .u16 0,iV .u16 0]) (sz:=2) (bytes:=4) (nn:=0) (m:=1) (k:=1) (xs:=[]) (news:=[nV .u16 (hw os),nV .u16 (hw ns)]) (cs':=[nV .u16 (hw os),nV .u16 (hw ns)]) (Lo:=fun g39=>[g39.seg 260 [nV .u16 (hw os),nV .u16 (hw ns)],[cb p32 [nV .u16 (hw os),nV .u16 (hw ns)] 260],Q2n nd ns p9,Q2o od os p8,g4.seg 5 (mc b8 zs),Uu nd nf ns nt p5 np,Uv od og os ot p4 op]) rfl rfl Ae Ae Ae Ae Ae Ae Ae Ae Ae rfl (Bw _) rfl (fun _=>rfl) (Src.at (a:=some ⟨p32,0,none⟩) rfl (fun w_ h_=>(Az (i:=1) (j:=0) (t:=260) (b:=p32) h_ rfl rfl))) rfl Zb rfl Al Al rfl (fun _=>rfl)) (.inr fun _ _ h_=>h_.pick [2,3,4,5,6] Al rfl) (fun g39 hx44=>?_)
  obtain⟨ok40,hn41,hn42⟩:=hx44
  refine Wd.yc (v:=sV g39 1) rfl rfl rfl (Ys.yc (Ys.p)) (.inl Ae) (A7 (hK38 _ _ _ (Ap [0,2,3,4,5,6] Al rfl (Aa ?_))))
  refine Ab 6 (Ah (An p9 0 1 0 Tryz.isAgg22) ?_)
  obtain⟨Z46,hZ47⟩: ∃Z,Eo zs 12 (hw ns)=Z:=⟨_,rfl⟩
  have hL48:Z46.length=zs.length:=(Dk hZ47).trans rfl
  refine Ax rfl (Au [3] [0,1,2,4,5] (fun w_ hm_ hl_=>(Eu g4 zs zs.length 12 (hw ns) _ _ Z46 hZ47 rfl hl_ ok5 nn6 (Pq rfl h0 Al) (Pr rfl hz) K0))) (fun _u _=>Ac (hK35 _ _ _ (Aa (Ab 2 ?_))))
  refine Ac (hJ31 _ _ _ (C4 (fun J51 hJ51=>Ad (fun K53 hK53=>Aa ?_))))
  refine Ab 1 (Ac (hK53 _ _ _ (Ad (fun K54 hK54=>B5 Ae ?_))))
  refine Ak (hK54 _ _ _ (Ad (fun K56 hK56=>W.block (Ad (fun K57 hK57=>?_)))))
  refine Aa (Ab 2 (Ac (hK57 _ _ _ (Ad (fun K59 hK59=>?_)))))
  refine Bz [(0,true),(1,true),(2,true),(3,true),(4,false),(5,false),(6,false),(7,false),(8,false),(9,false),(10,false)] [0,1,2,3] (Mem w [] [g4.seg 5 (mc b8 Z46),Q2n nd ns p9,Q2o od os p8,Uu nd nf ns nt p5 np,Uv od og os ot p4 op]) Ae Ae Ae rfl Ae (fun _ _ h_=>h_.drawn _) (fun _ h_=>h_.pick [0,2,3,4,5] Al rfl) (Ay 3 (Wd.ys rfl rfl rfl (An p8 1 2 0 Tryz.isAgg22) (Wd.yc (v:=iV .i64 1) rfl rfl rfl (Ys.yc (Ys.p)) (.inr fun _ h_=>h_.pick [0,2,3,4,5] Al rfl) (Wd.yc (v:=pV p9 1) rfl rfl rfl (Ys.yc (Ys.p)) (.inr fun _ h_=>h_.pick [0,2,3,4,5] Al rfl) ?_))))
  refine Wd.yc (v:=nV .u16 (lw ns)) rfl rfl rfl (Ys.yc (An p9 1 2 0 Tryz.isAgg22)) (.inr fun _ h_=>h_.pick [0,2,3,4,5] Al rfl) (Wd.yc (v:=aV [nV .u16 (lw os),nV .u16 (lw ns)]) rfl rfl rfl (Ys.yc (Ys.p)) (.inr fun _ h_=>h_.pick [0,2,3,4,5] Al rfl) (B8 rfl rfl (Bd (mk:=fun b_=>.slice (some ⟨b_,0,none⟩) 1 1) (t:=260) (cs:=[nV .u16 (lw os),nV .u16 (lw ns)]) rfl (fun _=>kr)) (.inr fun _ _ h_=>h_.pick [1,3,4,5,6] Al rfl) (fun p32=>Cd rfl rfl (HtS.append (eu:=260) (xv:=sL (some ⟨p32,0,none⟩) 1 1) (i:=2) (g:=g39) (e:=260) (ii:=(Tryz.prog.info? 260).getD default) (z:=aV [iV .u16 0,iV .u16 0]) (sz:=2) (bytes:=4) (nn:=1) (m:=1) (k:=2) (xs:=[nV .u16 (hw os),nV .u16 (hw ns)]) (news:=[nV .u16 (lw os),nV .u16 (lw ns)]) (cs':=[nV .u16 (hw os),nV .u16 (hw ns),nV .u16 (lw os),nV .u16 (lw ns)]) (Lo:=fun g60=>[[cb p32 [nV .u16 (lw os),nV .u16 (lw ns)] 260],g4.seg 5 (mc b8 Z46),g60.seg 260 [nV .u16 (hw os),nV .u16 (hw ns),nV .u16 (lw os),nV .u16 (lw ns)],Q2n nd ns p9,Q2o od os p8,Uu nd nf ns nt p5 np,Uv od og os ot p4 op]) rfl rfl Ae Ae Ae Ae Ae Ae Ae Ae Ae rfl ok40 rfl (fun _=>rfl) (Src.at (a:=some ⟨p32,0,none⟩) rfl (fun w_ h_=>(Az (i:=0) (j:=0) (t:=260) (b:=p32) h_ rfl rfl))) rfl Zb rfl Al Al rfl (fun _=>rfl)) (.inr fun _ _ h_=>h_.pick [1,3,4,5,6] Al rfl) (fun g60 hx65=>?_))))
  obtain⟨ok61,hn62,hn63⟩:=hx65
  refine Wd.yc (v:=sV g60 2) rfl rfl rfl (Ys.yc (Ys.p)) (.inl Ae) (A7 (hK59 _ _ _ (Ap [1,2,3,4,5,6] Al rfl (Aa ?_))))
  refine Ab 6 (Ah (An p9 1 2 0 Tryz.isAgg22) ?_)
  obtain⟨Z67,hZ68⟩: ∃Z,Eo Z46 14 (lw ns)=Z:=⟨_,rfl⟩
  have hL69:Z67.length=zs.length:=(Dk hZ68).trans hL48
  refine Ax rfl (Au [0] [1,2,3,4,5] (fun w_ hm_ hl_=>(Eu g4 Z46 zs.length 14 (lw ns) _ _ Z67 hZ68 hL48.symm hl_ ok5 nn6 (Pq hL48 h0 Al) (Pr hL48 hz) K0))) (fun _u _=>Ac (hK56 _ _ _ (Aa (Ab 2 ?_))))
  refine Ac (hJ51 _ _ _ (C4 (fun J72 hJ72=>Ad (fun K74 hK74=>Aa ?_))))
  refine Ab 1 (Ac (hK74 _ _ _ (Ad (fun K75 hK75=>B5 Ae ?_))))
  refine Ak (hK75 _ _ _ (Ad (fun K77 hK77=>W.block (Ad (fun K78 hK78=>?_)))))
  refine Aa (Ab 2 (Ac (hK78 _ _ _ (Ad (fun K80 hK80=>?_)))))
  refine Bz [(0,true),(1,true),(2,true),(3,true),(4,false),(5,false),(6,false),(7,false),(8,false),(9,false),(10,false)] [0,1,2,3] (Mem w [] [g4.seg 5 (mc b8 Z67),Q2n nd ns p9,Q2o od os p8,Uu nd nf ns nt p5 np,Uv od og os ot p4 op]) Ae Ae Ae rfl Ae (fun _ _ h_=>h_.drawn _) (fun _ h_=>h_.pick [0,2,3,4,5] Al rfl) (Ay 3 (Wd.ys rfl rfl rfl (An p8 2 2 0 Tryz.isAgg22) (Wd.yc (v:=iV .i64 2) rfl rfl rfl (Ys.yc (Ys.p)) (.inr fun _ h_=>h_.pick [0,2,3,4,5] Al rfl) (Wd.yc (v:=pV p9 2) rfl rfl rfl (Ys.yc (Ys.p)) (.inr fun _ h_=>h_.pick [0,2,3,4,5] Al rfl) ?_))))
  refine Wd.yc (v:=nV .u16 (hw nd)) rfl rfl rfl (Ys.yc (An p9 2 2 0 Tryz.isAgg22)) (.inr fun _ h_=>h_.pick [0,2,3,4,5] Al rfl) (Wd.yc (v:=aV [nV .u16 (hw od),nV .u16 (hw nd)]) rfl rfl rfl (Ys.yc (Ys.p)) (.inr fun _ h_=>h_.pick [0,2,3,4,5] Al rfl) (B8 rfl rfl (Bd (mk:=fun b_=>.slice (some ⟨b_,0,none⟩) 1 1) (t:=260) (cs:=[nV .u16 (hw od),nV .u16 (hw nd)]) rfl (fun _=>kr)) (.inr fun _ _ h_=>h_.pick [1,3,4,5,6] Al rfl) (fun p32=>Cd rfl rfl (HtS.append (eu:=260) (xv:=sL (some ⟨p32,0,none⟩) 1 1) (i:=2) (g:=g60) (e:=260) (ii:=(Tryz.prog.info? 260).getD default) (z:=aV [iV .u16 0,iV .u16 0]) (sz:=2) (bytes:=4) (nn:=2) (m:=1) (k:=3) (xs:=[nV .u16 (hw os),nV .u16 (hw ns),nV .u16 (lw os),nV .u16 (lw ns)]) (news:=[nV .u16 (hw od),nV .u16 (hw nd)]) (cs':=[nV .u16 (hw os),nV .u16 (hw ns),nV .u16 (lw os),nV .u16 (lw ns),nV .u16 (hw od),nV .u16 (hw nd)]) (Lo:=fun g81=>[[cb p32 [nV .u16 (hw od),nV .u16 (hw nd)] 260],g4.seg 5 (mc b8 Z67),g81.seg 260 [nV .u16 (hw os),nV .u16 (hw ns),nV .u16 (lw os),nV .u16 (lw ns),nV .u16 (hw od),nV .u16 (hw nd)],Q2n nd ns p9,Q2o od os p8,Uu nd nf ns nt p5 np,Uv od og os ot p4 op]) rfl rfl Ae Ae Ae Ae Ae Ae Ae Ae Ae rfl ok61 rfl (fun _=>rfl) (Src.at (a:=some ⟨p32,0,none⟩) rfl (fun w_ h_=>(Az (i:=0) (j:=0) (t:=260) (b:=p32) h_ rfl rfl))) rfl Zb rfl Al Al rfl (fun _=>rfl)) (.inr fun _ _ h_=>h_.pick [1,3,4,5,6] Al rfl) (fun g81 hx86=>?_))))
  obtain⟨ok82,hn83,hn84⟩:=hx86
  refine Wd.yc (v:=sV g81 3) rfl rfl rfl (Ys.yc (Ys.p)) (.inl Ae) (A7 (hK80 _ _ _ (Ap [1,2,3,4,5,6] Al rfl (Aa ?_))))
  refine Ab 6 (Ah (An p9 2 2 0 Tryz.isAgg22) ?_)
  obtain⟨Z88,hZ89⟩: ∃Z,Eo Z67 16 (hw nd)=Z:=⟨_,rfl⟩
  have hL90:Z88.length=zs.length:=(Dk hZ89).trans hL69
  refine Ax rfl (Au [0] [1,2,3,4,5] (fun w_ hm_ hl_=>(Eu g4 Z67 zs.length 16 (hw nd) _ _ Z88 hZ89 hL69.symm hl_ ok5 nn6 (Pq hL69 h0 Al) (Pr hL69 hz) K0))) (fun _u _=>Ac (hK77 _ _ _ (Aa (Ab 2 ?_))))
  refine Ac (hJ72 _ _ _ (C4 (fun J93 hJ93=>Ad (fun K95 hK95=>Aa ?_))))
  refine Ab 1 (Ac (hK95 _ _ _ (Ad (fun K96 hK96=>B5 Ae ?_))))
  refine Ak (hK96 _ _ _ (Ad (fun K98 hK98=>W.block (Ad (fun K99 hK99=>?_)))))
  refine Aa (Ab 2 (Ac (hK99 _ _ _ (Ad (fun K101 hK101=>?_)))))
  refine Bz [(0,true),(1,true),(2,true),(3,true),(4,false),(5,false),(6,false),(7,false),(8,false),(9,false),(10,false)] [0,1,2,3] (Mem w [] [g4.seg 5 (mc b8 Z88),Q2n nd ns p9,Q2o od os p8,Uu nd nf ns nt p5 np,Uv od og os ot p4 op]) Ae Ae Ae rfl Ae (fun _ _ h_=>h_.drawn _) (fun _ h_=>h_.pick [0,2,3,4,5] Al rfl) (Ay 3 (Wd.ys rfl rfl rfl (An p8 3 2 0 Tryz.isAgg22) (Wd.yc (v:=iV .i64 3) rfl rfl rfl (Ys.yc (Ys.p)) (.inr fun _ h_=>h_.pick [0,2,3,4,5] Al rfl) (Wd.yc (v:=pV p9 3) rfl rfl rfl (Ys.yc (Ys.p)) (.inr fun _ h_=>h_.pick [0,2,3,4,5] Al rfl) ?_))))
  refine Wd.yc (v:=nV .u16 (lw nd)) rfl rfl rfl (Ys.yc (An p9 3 2 0 Tryz.isAgg22)) (.inr fun _ h_=>h_.pick [0,2,3,4,5] Al rfl) (Wd.yc (v:=aV [nV .u16 (lw od),nV .u16 (lw nd)]) rfl rfl rfl (Ys.yc (Ys.p)) (.inr fun _ h_=>h_.pick [0,2,3,4,5] Al rfl) (B8 rfl rfl (Bd (mk:=fun b_=>.slice (some ⟨b_,0,none⟩) 1 1) (t:=260) (cs:=[nV .u16 (lw od),nV .u16 (lw nd)]) rfl (fun _=>kr)) (.inr fun _ _ h_=>h_.pick [1,3,4,5,6] Al rfl) (fun p32=>Cd rfl rfl (HtS.append (eu:=260) (xv:=sL (some ⟨p32,0,none⟩) 1 1) (i:=2) (g:=g81) (e:=260) (ii:=(Tryz.prog.info? 260).getD default) (z:=aV [iV .u16 0,iV .u16 0]) (sz:=2) (bytes:=4) (nn:=3) (m:=1) (k:=4) (xs:=[nV .u16 (hw os),nV .u16 (hw ns),nV .u16 (lw os),nV .u16 (lw ns),nV .u16 (hw od),nV .u16 (hw nd)]) (news:=[nV .u16 (lw od),nV .u16 (lw nd)]) (cs':=(Q2t nd ns od os)) (Lo:=fun g102=>[[cb p32 [nV .u16 (lw od),nV .u16 (lw nd)] 260],g4.seg 5 (mc b8 Z88),g102.seg 260 (Q2t nd ns od os),Q2n nd ns p9,Q2o od os p8,Uu nd nf ns nt p5 np,Uv od og os ot p4 op]) rfl rfl Ae Ae Ae Ae Ae Ae Ae Ae Ae rfl ok82 rfl (fun _=>rfl) (Src.at (a:=some ⟨p32,0,none⟩) rfl (fun w_ h_=>(Az (i:=0) (j:=0) (t:=260) (b:=p32) h_ rfl rfl))) rfl Zb rfl Al Al rfl (fun _=>rfl)) (.inr fun _ _ h_=>h_.pick [1,3,4,5,6] Al rfl) (fun g102 hx107=>?_))))
  obtain⟨ok103,hn104,hn105⟩:=hx107
  refine Wd.yc (v:=sV g102 4) rfl rfl rfl (Ys.yc (Ys.p)) (.inl Ae) (A7 (hK101 _ _ _ (Ap [1,2,3,4,5,6] Al rfl (Aa ?_))))
  refine Ab 6 (Ah (An p9 3 2 0 Tryz.isAgg22) ?_)
  obtain⟨Z109,hZ110⟩: ∃Z,Eo Z88 18 (lw nd)=Z:=⟨_,rfl⟩
  have hL111:Z109.length=zs.length:=(Dk hZ110).trans hL90
  refine Ax rfl (Au [0] [1,2,3,4,5] (fun w_ hm_ hl_=>(Eu g4 Z88 zs.length 18 (lw nd) _ _ Z109 hZ110 hL90.symm hl_ ok5 nn6 (Pq hL90 h0 Al) (Pr hL90 hz) K0))) (fun _u _=>Ac (hK98 _ _ _ (Aa (Ab 2 ?_))))
  refine Ac (hJ93 _ _ _ (C4 (fun J114 hJ114=>Ad (fun K116 hK116=>Aa ?_))))
  refine Ab 1 (Ac (hK116 _ _ _ (Ad (fun K117 hK117=>B4 Ae ?_))))
  refine Cr (hK29 _ _ _ (Ap [0,1,4,5] Al rfl (Ad (fun K119 hK119=>Aa ?_))))
  refine Ab 2 (B0 (v:=nV .u16 (w2 zs 10)) (A9 (fun w_ hm_=>(Gm Z109 g4.a g4.cap 10 zs.length _ ((Cw hZ110 Al).trans ((Cw hZ89 Al).trans ((Cw hZ68 Al).trans (Cw hZ47 Al)))) hL111.symm (FS.at (i:=0) (t:=5) hm_ rfl (Aj ok5 (mcl hL111))) (Pq hL111 h0 Al) (Pr hL111 hz) (lec hL111 ok5.le)))) (Ab 1 (B0 (v:=nV .u16 (Gl (w2 zs 10) [((hw os),(hw ns)),((lw os),(lw ns)),((hw od),(hw nd)),((lw od),(lw nd))])) (A9 (fun w_ hm_=>(Ii (w2 zs 10) [((hw os),(hw ns)),((lw os),(lw ns)),((hw od),(hw nd)),((lw od),(lw nd))] g102.a 4 g102.cap _ rfl (FS.at (i:=1) (t:=260) hm_ rfl (Aj ok103 rfl)) Zd (List.forall_mem_cons.2 ⟨⟨Fa,Fa⟩,(List.forall_mem_cons.2 ⟨⟨Fa,Fa⟩,(List.forall_mem_cons.2 ⟨⟨Fa,Fa⟩,(List.forall_mem_cons.2 ⟨⟨Fa,Fa⟩,(fun _ h=>by cases h)⟩)⟩)⟩)⟩) A5))) ?_)))
  obtain⟨Z120,hZ121⟩: ∃Z,Eo Z109 10 (Gl (w2 zs 10) [((hw os),(hw ns)),((lw os),(lw ns)),((hw od),(hw nd)),((lw od),(lw nd))])=Z:=⟨_,rfl⟩
  have hL122:Z120.length=zs.length:=(Dk hZ121).trans hL111
  refine Ax rfl (Au [0] [1,2,3] (fun w_ hm_ hl_=>(Eu g4 Z109 zs.length 10 (Gl (w2 zs 10) [((hw os),(hw ns)),((lw os),(lw ns)),((hw od),(hw nd)),((lw od),(lw nd))]) _ _ Z120 hZ121 hL111.symm hl_ ok5 nn6 (Pq hL111 h0 Al) (Pr hL111 hz) K0))) (fun _u _=>Ac (hK119 _ _ _ (Ad (fun K125 hK125=>Ad (fun K126 hK126=>?_)))))
  refine Aa (Ab 1 (Ah (An p4 0 3 0 Tryz.isAgg5) (Ab 1 (Ac ?_))))
  refine hK126 _ _ _ ?_
  refine Ao (((op.toNat:Nat):Int)==1) Ae (fun h128=>?_) (fun h129=>?_)
  ·have qh128:=h128;try simp only[zA]at qh128
   refine Ad (fun K130 hK130=>Aa (Ab 1 (Ah (An p5 3 2 0 Tryz.isAgg22) (Ab 1 ?_))))
   refine Ac (hK130 _ _ _ (Ap [0,2] Al rfl (Ad (fun K132 hK132=>Ad (fun K133 hK133=>?_)))))
   refine Dh [(0,true),(1,true),(2,true),(3,false),(4,false),(5,false),(6,false),(7,false),(8,true),(9,true),(10,false),(11,false)] [0,1,2,8,9] (Ay 1 (Wd.ys (v:=pL (some (Co g4.a 20))) rfl rfl rfl (Av (k:=.i64) (a:=g4.a) (len:=zs.length) (cap:=g4.cap) (i:=20) (sz:=1) rfl Ae Ae Tryz.runUnderlying38 Tryz.sizeOf5 Ag Ag (by rw[Eb (nn6)];rfl)) (Wd.ys (v:=nV .u8 ((zs.getD 20 0).toNat)) rfl rfl rfl (Ys.conseq (v:=nV .u8 ((Z120.getD 20 0).toNat)) (Af (congrArg (fun x:UInt8=>(x.toNat:Int)) (((((Kj hZ121 Al).trans (Kj hZ110 Al)).trans (Kj hZ89 Al)).trans (Kj hZ68 Al)).trans (Kj hZ47 Al)))) (Ys.ld (a:=Co g4.a 20) rfl Ae Tryz.isAgg5 (fun w_ h_=>(FS.at (i:=0) (t:=5) h_ rfl (Aj ok5 (mcl hL122))).ld (Ez 0 Ex)))) ?_)))
   have hb134:(Z120.getD 20 0).toNat<256:=UInt8.toNat_lt _
   refine Wd.yc (v:=sV g4 zs.length) rfl rfl rfl (Ys.yc (Ys.p)) (.inr fun _ h_=>h_) (Wd.yc (v:=pL (some (Co g4.a 21))) rfl rfl rfl (Ys.yc (Av (k:=.i64) (a:=g4.a) (len:=zs.length) (cap:=g4.cap) (i:=21) (sz:=1) rfl Ae Ae Tryz.runUnderlying38 Tryz.sizeOf5 Ag Ag (by rw[Eb (nn6)];rfl))) (.inr fun _ h_=>h_) (Wd.yc (v:=nV .u8 ((zs.getD 21 0).toNat)) rfl rfl rfl (Ys.yc (Ys.conseq (v:=nV .u8 ((Z120.getD 21 0).toNat)) (Af (congrArg (fun x:UInt8=>(x.toNat:Int)) (((((Kj hZ121 Al).trans (Kj hZ110 Al)).trans (Kj hZ89 Al)).trans (Kj hZ68 Al)).trans (Kj hZ47 Al)))) (Ys.ld (a:=Co g4.a 21) rfl Ae Tryz.isAgg5 (fun w_ h_=>(FS.at (i:=0) (t:=5) h_ rfl (Aj ok5 (mcl hL122))).ld (Ez 0 Ex))))) (.inr fun _ h_=>h_) ?_))
   have hb135:(Z120.getD 21 0).toNat<256:=UInt8.toNat_lt _
   refine Wd.yc (v:=Value.tuple #[bV (I4 (zs.getD 20 0)),bV (P0 (zs.getD 20 0) (zs.getD 21 0))]) rfl rfl rfl (A9 (fun w_ hm_=>(Ss (zs.getD 20 0) (zs.getD 21 0) _))) (.inr fun _ h_=>h_) (Wd.yc (v:=Value.tuple #[bV (I4 (zs.getD 20 0)),bV (P0 (zs.getD 20 0) (zs.getD 21 0))]) rfl rfl rfl (Ys.yc (Ys.p)) (.inr fun _ h_=>h_) (Ay 2 (Wd.yc (v:=bV (I4 (zs.getD 20 0))) rfl rfl rfl (Ys.yc (Ys.p)) (.inr fun _ h_=>h_) (Wd.yc (v:=bV (P0 (zs.getD 20 0) (zs.getD 21 0))) rfl rfl rfl (Ys.yc (Ys.p)) (.inl Ae) ?_))))
   refine A7 (hK133 _ _ _ (Ad (fun K137 hK137=>Aa (Ab 2 ?_))))
   refine Ac (hK137 _ _ _ ?_)
   refine Ao (!(I4 (zs.getD 20 0))) Ae (fun h139=>?_) (fun h140=>?_)
   ·refine Aa (Ab 1 (Ah (An p5 4 1 0 Tryz.isAgg22) (Ab 1 (Ac ?_))))
    refine hK132 _ _ _ (Ap [0] Al rfl (Ad (fun K142 hK142=>Aa (Ab 2 ?_))))
    refine B0 (v:=nV .u16 (w2 zs 22)) (A9 (fun w_ hm_=>(Gm Z120 g4.a g4.cap 22 zs.length _ ((Cw hZ121 Al).trans ((Cw hZ110 Al).trans ((Cw hZ89 Al).trans ((Cw hZ68 Al).trans (Cw hZ47 Al))))) hL122.symm (FS.at (i:=0) (t:=5) hm_ rfl (Aj ok5 (mcl hL122))) (Pq hL122 h0 Al) (Pr hL122 hz) (lec hL122 ok5.le)))) (Ab 1 (B0 (v:=nV .u16 (w2 zs 24)) (A9 (fun w_ hm_=>(Gm Z120 g4.a g4.cap 24 zs.length _ ((Cw hZ121 Al).trans ((Cw hZ110 Al).trans ((Cw hZ89 Al).trans ((Cw hZ68 Al).trans (Cw hZ47 Al))))) hL122.symm (FS.at (i:=0) (t:=5) hm_ rfl (Aj ok5 (mcl hL122))) (Pq hL122 h0 Al) (Pr hL122 hz) (lec hL122 ok5.le)))) (Ab 2 (Ai rfl (Bd (mk:=fun b_=>.slice (some ⟨b_,0,none⟩) 1 1) (t:=260) (cs:=[nV .u16 (w2 zs 24),nV .u16 nt]) rfl (fun _=>kr)) (fun p75=>?_)))))
    refine B0 (v:=nV .u16 (Gl (w2 zs 22) [((w2 zs 24),nt)])) (A9 (fun w_ hm_=>(Ii (w2 zs 22) [((w2 zs 24),nt)] (some ⟨p75,0,none⟩) 1 1 _ rfl (Az (i:=0) (j:=0) (t:=260) (b:=p75) hm_ rfl rfl) Zd (List.forall_mem_cons.2 ⟨⟨(by show(w2 zs 24)<_;first|omega|exact Dx _ _),(by show nt<_;first|omega|exact Dx _ _)⟩,(fun _ h=>by cases h)⟩) A5))) ?_
    obtain⟨Z143,hZ144⟩: ∃Z,Eo Z120 22 (Gl (w2 zs 22) [((w2 zs 24),nt)])=Z:=⟨_,rfl⟩
    have hL145:Z143.length=zs.length:=(Dk hZ144).trans hL122
    refine Ax rfl (Au [1] [0] (fun w_ hm_ hl_=>(Eu g4 Z120 zs.length 22 (Gl (w2 zs 22) [((w2 zs 24),nt)]) _ _ Z143 hZ144 hL122.symm hl_ ok5 nn6 (Pq hL122 h0 Al) (Pr hL122 hz) K0))) (fun _u _=>Ac (hK142 _ _ _ (Ap [0] Al rfl (Ad (fun K148 hK148=>?_)))))
    refine Aa ?_
    obtain⟨Z149,hZ150⟩: ∃Z,Eo Z143 24 nt=Z:=⟨_,rfl⟩
    have hL151:Z149.length=zs.length:=(Dk hZ150).trans hL145
    refine Ab 2 (Ax rfl (Au [0] [] (fun w_ hm_ hl_=>(Eu g4 Z143 zs.length 24 nt _ _ Z149 hZ150 hL145.symm hl_ ok5 nn6 (Pq hL145 h0 Al) (Pr hL145 hz) K0))) (fun _u _=>?_))
    refine Ac (hK148 _ _ _ (Ad (fun K154 hK154=>Aa (Ab 2 ?_))))
    refine Ac (hK154 _ _ _ (Aq (fn:=Tryz.f94) rfl ?_))
    have e4_:Xr zs ns nd=Z109:=by unfold Xr;rw[hZ47,hZ68,hZ89,hZ110]
    have e5_:Ut zs os od ns nd=Z120:=by unfold Ut Y2;rw[e4_];exact hZ121
    have hB:M7 op os od og ot ns nd nf nt zs=Z149:=by unfold M7;rw[show Yz op=true from h128,h139];simp only[cond_true,cond_false];unfold rtI;rw[e5_,hZ144];exact hZ150
    exact fun w_ hS_=>Bb rfl (Aw (sV g4 zs.length)) hS_ ⟨g4,⟨ok5,nn6⟩,rfl,(Mem.cast (by rw[hB];rfl) (hS_.pick [0] Al rfl))⟩
   ·refine Ak (hK132 _ _ _ (Ap [0] Al rfl (Ad (fun K157 hK157=>Aa ?_))))
    refine Ab 2 (B0 (v:=nV .u16 (w2 zs 22)) (A9 (fun w_ hm_=>(Gm Z120 g4.a g4.cap 22 zs.length _ ((Cw hZ121 Al).trans ((Cw hZ110 Al).trans ((Cw hZ89 Al).trans ((Cw hZ68 Al).trans (Cw hZ47 Al))))) hL122.symm (FS.at (i:=0) (t:=5) hm_ rfl (Aj ok5 (mcl hL122))) (Pq hL122 h0 Al) (Pr hL122 hz) (lec hL122 ok5.le)))) (Ab 1 (B0 (v:=nV .u16 (w2 zs 24)) (A9 (fun w_ hm_=>(Gm Z120 g4.a g4.cap 24 zs.length _ ((Cw hZ121 Al).trans ((Cw hZ110 Al).trans ((Cw hZ89 Al).trans ((Cw hZ68 Al).trans (Cw hZ47 Al))))) hL122.symm (FS.at (i:=0) (t:=5) hm_ rfl (Aj ok5 (mcl hL122))) (Pq hL122 h0 Al) (Pr hL122 hz) (lec hL122 ok5.le)))) (Ab 2 ?_))))
    refine Ai rfl (Bd (mk:=fun b_=>.slice (some ⟨b_,0,none⟩) 1 1) (t:=260) (cs:=[nV .u16 (w2 zs 24),nV .u16 nf]) rfl (fun _=>kr)) (fun p75=>B0 (v:=nV .u16 (Gl (w2 zs 22) [((w2 zs 24),nf)])) (A9 (fun w_ hm_=>(Ii (w2 zs 22) [((w2 zs 24),nf)] (some ⟨p75,0,none⟩) 1 1 _ rfl (Az (i:=0) (j:=0) (t:=260) (b:=p75) hm_ rfl rfl) Zd (List.forall_mem_cons.2 ⟨⟨(by show(w2 zs 24)<_;first|omega|exact Dx _ _),(by show nf<_;first|omega|exact Dx _ _)⟩,(fun _ h=>by cases h)⟩) A5))) ?_)
    obtain⟨Z158,hZ159⟩: ∃Z,Eo Z120 22 (Gl (w2 zs 22) [((w2 zs 24),nf)])=Z:=⟨_,rfl⟩
    have hL160:Z158.length=zs.length:=(Dk hZ159).trans hL122
    refine Ax rfl (Au [1] [0] (fun w_ hm_ hl_=>(Eu g4 Z120 zs.length 22 (Gl (w2 zs 22) [((w2 zs 24),nf)]) _ _ Z158 hZ159 hL122.symm hl_ ok5 nn6 (Pq hL122 h0 Al) (Pr hL122 hz) K0))) (fun _u _=>Ac (hK157 _ _ _ (Ap [0] Al rfl (Ad (fun K163 hK163=>?_)))))
    refine Aa ?_
    obtain⟨Z164,hZ165⟩: ∃Z,Eo Z158 24 nf=Z:=⟨_,rfl⟩
    have hL166:Z164.length=zs.length:=(Dk hZ165).trans hL160
    refine Ab 2 (Ax rfl (Au [0] [] (fun w_ hm_ hl_=>(Eu g4 Z158 zs.length 24 nf _ _ Z164 hZ165 hL160.symm hl_ ok5 nn6 (Pq hL160 h0 Al) (Pr hL160 hz) K0))) (fun _u _=>?_))
    refine Ac (hK163 _ _ _ (Ad (fun K169 hK169=>Aa (Ab 2 ?_))))
    refine Ac (hK169 _ _ _ (Aq (fn:=Tryz.f94) rfl ?_))
    have e4_:Xr zs ns nd=Z109:=by unfold Xr;rw[hZ47,hZ68,hZ89,hZ110]
    have e5_:Ut zs os od ns nd=Z120:=by unfold Ut Y2;rw[e4_];exact hZ121
    have hB:M7 op os od og ot ns nd nf nt zs=Z164:=by unfold M7;rw[show Yz op=true from h128,h140];simp only[cond_true,cond_false];unfold rtI;rw[e5_,hZ159];exact hZ165
    exact fun w_ hS_=>Bb rfl (Aw (sV g4 zs.length)) hS_ ⟨g4,⟨ok5,nn6⟩,rfl,(Mem.cast (by rw[hB];rfl) (hS_.pick [0] Al rfl))⟩
  ·have qh129:=h129;try simp only[zA]at qh129
   refine Ak (hK125 _ _ _ (Ad (fun K172 hK172=>Aa (Ab 2 ?_))))
   refine Ah (An p5 3 2 0 Tryz.isAgg22) ?_
   obtain⟨Z173,hZ174⟩: ∃Z,Eo Z120 20 nf=Z:=⟨_,rfl⟩
   have hL175:Z173.length=zs.length:=(Dk hZ174).trans hL122
   refine Ax rfl (Au [0] [1,2,3] (fun w_ hm_ hl_=>(Eu g4 Z120 zs.length 20 nf _ _ Z173 hZ174 hL122.symm hl_ ok5 nn6 (Pq hL122 h0 Al) (Pr hL122 hz) K0))) (fun _u _=>Ac (hK172 _ _ _ (Ad (fun K178 hK178=>Aa ?_))))
   refine Ab 2 (Ah (An p5 4 2 0 Tryz.isAgg22) ?_)
   obtain⟨Z179,hZ180⟩: ∃Z,Eo Z173 22 nt=Z:=⟨_,rfl⟩
   have hL181:Z179.length=zs.length:=(Dk hZ180).trans hL175
   refine Ax rfl (Au [0] [1,2,3] (fun w_ hm_ hl_=>(Eu g4 Z173 zs.length 22 nt _ _ Z179 hZ180 hL175.symm hl_ ok5 nn6 (Pq hL175 h0 Al) (Pr hL175 hz) K0))) (fun _u _=>Ac (hK178 _ _ _ (Ad (fun K184 hK184=>Aa ?_))))
   refine Ab 2 (Ah (An p4 3 3 0 Tryz.isAgg22) (Ab 1 (Ah (An p5 3 2 0 Tryz.isAgg22) (Ab 2 ?_))))
   refine Ah (An p4 4 3 0 Tryz.isAgg22) (Ab 1 (Ah (An p5 4 2 0 Tryz.isAgg22) (Ab 1 (Ai rfl (Bd (mk:=fun b_=>.slice (some ⟨b_,0,none⟩) 2 2) (t:=260) (cs:=[nV .u16 og,nV .u16 nf,nV .u16 ot,nV .u16 nt]) rfl (fun _=>kr)) (fun p101=>?_)))))
   refine Ax rfl (HtS.append (eu:=260) (xv:=sL (some ⟨p101,0,none⟩) 2 2) (i:=2) (g:=g102) (e:=260) (ii:=(Tryz.prog.info? 260).getD default) (z:=aV [iV .u16 0,iV .u16 0]) (sz:=2) (bytes:=4) (nn:=4) (m:=2) (k:=6) (xs:=(Q2t nd ns od os)) (news:=[nV .u16 og,nV .u16 nf,nV .u16 ot,nV .u16 nt]) (cs':=[nV .u16 (hw os),nV .u16 (hw ns),nV .u16 (lw os),nV .u16 (lw ns),nV .u16 (hw od),nV .u16 (hw nd),nV .u16 (lw od),nV .u16 (lw nd),nV .u16 og,nV .u16 nf,nV .u16 ot,nV .u16 nt]) (Lo:=fun g185=>[[cb p101 [nV .u16 og,nV .u16 nf,nV .u16 ot,nV .u16 nt] 260],g4.seg 5 (mc b8 Z179),g185.seg 260 [nV .u16 (hw os),nV .u16 (hw ns),nV .u16 (lw os),nV .u16 (lw ns),nV .u16 (hw od),nV .u16 (hw nd),nV .u16 (lw od),nV .u16 (lw nd),nV .u16 og,nV .u16 nf,nV .u16 ot,nV .u16 nt],Uu nd nf ns nt p5 np,Uv od og os ot p4 op]) rfl rfl Ae Ae Ae Ae Ae Ae Ae Ae Ae rfl ok103 rfl (fun _=>rfl) (Src.at (a:=some ⟨p101,0,none⟩) rfl (fun w_ h_=>(Az (i:=0) (j:=0) (t:=260) (b:=p101) h_ rfl rfl))) rfl Zb rfl Al Al rfl (fun _=>rfl)) (fun g185 hx190=>?_)
   obtain⟨ok186,hn187,hn188⟩:=hx190
   refine Ab 1 (Ac (hK184 _ _ _ (Ap [1,2,4] Al rfl (Ad (fun K192 hK192=>?_)))))
   refine W.block (Ad (fun K193 hK193=>?_))
   refine Aa (Ab 1 (Ah (An p4 0 2 0 Tryz.isAgg5) (Ab 2 ?_)))
   refine Am (v:=sV g4 zs.length) (((op.toNat:Nat):Int)==17) rfl (Bi rfl Ae) rfl (fun hg194=>?_) ?_
   ·exact Ys.p
   refine Dn (v:=nV .u16 (w2 zs 26)) (((op.toNat:Nat):Int)==17) rfl (Bi rfl Ae) rfl (fun hg195=>?_) ?_
   ·refine Eh (t:=108) (v0:=sV g4 zs.length) (lz (g:=(op.toNat:Int)==17) (u:=undef) hg195 Ae) ?_
    exact A9 (fun w_ hm_=>(Gm Z179 g4.a g4.cap 26 zs.length _ ((Cw hZ180 Al).trans ((Cw hZ174 Al).trans ((Cw hZ121 Al).trans ((Cw hZ110 Al).trans ((Cw hZ89 Al).trans ((Cw hZ68 Al).trans (Cw hZ47 Al))))))) hL181.symm (FS.at (i:=0) (t:=5) hm_ rfl (Aj ok5 (mcl hL181))) (Pq hL181 h0 Al) (Pr hL181 hz) (lec hL181 ok5.le)))
   refine Am (v:=bV (((w2 zs 26:Nat):Int) !=0)) (((op.toNat:Nat):Int)==17) rfl (Bi rfl Ae) rfl (fun hg196=>?_) ?_
   ·refine Bh (t:=109) (v0:=nV .u16 (w2 zs 26)) (lz (g:=(op.toNat:Int)==17) (u:=undef) hg196 Ae) ?_
    exact Ys.p
   refine Ah (v:=bV (((op.toNat:Int)==17)&&(((w2 zs 26:Nat):Int) !=0))) (D0 (e:=(op.toNat:Int)==17) (b:=((w2 zs 26:Nat):Int) !=0) rfl Ae Ae Ae) (Ab 1 (Ac (hK193 _ _ _ ?_)))
   refine Ao (((op.toNat:Int)==17)&&(((w2 zs 26:Nat):Int) !=0)) Ae (fun h198=>?_) (fun h199=>?_)
   ·have qh198:=h198;try simp only[zA]at qh198
    refine Ad (fun K200 hK200=>Aa (Ab 1 (B0 (v:=nV .u16 (w2 zs 26)) (A9 (fun w_ hm_=>(Gm Z179 g4.a g4.cap 26 zs.length _ ((Cw hZ180 Al).trans ((Cw hZ174 Al).trans ((Cw hZ121 Al).trans ((Cw hZ110 Al).trans ((Cw hZ89 Al).trans ((Cw hZ68 Al).trans (Cw hZ47 Al))))))) hL181.symm (FS.at (i:=0) (t:=5) hm_ rfl (Aj ok5 (mcl hL181))) (Pq hL181 h0 Al) (Pr hL181 hz) (lec hL181 ok5.le)))) (Ab 1 ?_))))
    refine B0 (v:=nV .u16 (Gl (w2 zs 26) [((hw os),(hw ns)),((lw os),(lw ns)),((hw od),(hw nd)),((lw od),(lw nd)),(og,nf),(ot,nt)])) (A9 (fun w_ hm_=>(Ii (w2 zs 26) [((hw os),(hw ns)),((lw os),(lw ns)),((hw od),(hw nd)),((lw od),(lw nd)),(og,nf),(ot,nt)] g185.a 6 g185.cap _ rfl (FS.at (i:=1) (t:=260) hm_ rfl (Aj ok186 rfl)) Zd (List.forall_mem_cons.2 ⟨⟨Fa,Fa⟩,(List.forall_mem_cons.2 ⟨⟨Fa,Fa⟩,(List.forall_mem_cons.2 ⟨⟨Fa,Fa⟩,(List.forall_mem_cons.2 ⟨⟨Fa,Fa⟩,(List.forall_mem_cons.2 ⟨⟨Fa,Fa⟩,(List.forall_mem_cons.2 ⟨⟨Fa,Fa⟩,(fun _ h=>by cases h)⟩)⟩)⟩)⟩)⟩)⟩) A5))) (Ab 1 (Ac (hK200 _ _ _ (Ap [0] Al rfl ?_))))
    refine Ad (fun K202 hK202=>Ad (fun K203 hK203=>?_))
    refine Aa (Ab 2 (Ac (hK203 _ _ _ ?_)))
    refine Ao (((Gl (w2 zs 26) [((hw os),(hw ns)),((lw os),(lw ns)),((hw od),(hw nd)),((lw od),(lw nd)),(og,nf),(ot,nt)]:Nat):Int)==0) Ae (fun h205=>?_) (fun h206=>?_)
    ·have qh205:=h205;try simp only[zA]at qh205
     refine Aa (Ab 1 (Ah (v:=nV .u16 (65535-(Gl (w2 zs 26) [((hw os),(hw ns)),((lw os),(lw ns)),((hw od),(hw nd)),((lw od),(lw nd)),(og,nf),(ot,nt)]))) ((Ys.p (v:=.int .u16 (Pv .u16 ((65535:Nat):Int) (Gl (w2 zs 26) [((hw os),(hw ns)),((lw os),(lw ns)),((hw od),(hw nd)),((lw od),(lw nd)),(og,nf),(ot,nt)]:Int)))).conseq (Af (Hb rfl H1 65535 rfl))) (Ab 1 (Ac ?_))))
     refine hK202 _ _ _ (Aa ?_)
     obtain⟨Z208,hZ209⟩: ∃Z,Eo Z179 26 (65535-(Gl (w2 zs 26) [((hw os),(hw ns)),((lw os),(lw ns)),((hw od),(hw nd)),((lw od),(lw nd)),(og,nf),(ot,nt)]))=Z:=⟨_,rfl⟩
     have hL210:Z208.length=zs.length:=(Dk hZ209).trans hL181
     refine Ab 2 (Ax rfl (Au [0] [] (fun w_ hm_ hl_=>(Eu g4 Z179 zs.length 26 (65535-(Gl (w2 zs 26) [((hw os),(hw ns)),((lw os),(lw ns)),((hw od),(hw nd)),((lw od),(lw nd)),(og,nf),(ot,nt)])) _ _ Z208 hZ209 hL181.symm hl_ ok5 nn6 (Pq hL181 h0 Al) (Pr hL181 hz) K0))) (fun _u _=>?_))
     refine Ac (hK192 _ _ _ (Ad (fun K213 hK213=>Aa (Ab 2 ?_))))
     refine Ac (hK213 _ _ _ (Aq (fn:=Tryz.f94) rfl ?_))
     have e4_:Xr zs ns nd=Z109:=by unfold Xr;rw[hZ47,hZ68,hZ89,hZ110]
     have e5_:Ut zs os od ns nd=Z120:=by unfold Ut Y2;rw[e4_];exact hZ121
     have e7_:Y3 zs os od ns nd nf nt=Z179:=by unfold Y3;rw[e5_,hZ174];exact hZ180
     have en_:Es (Gl (w2 zs 26) (Y2 os od ns nd++[(og,nf),(ot,nt)]))=(65535-(Gl (w2 zs 26) [((hw os),(hw ns)),((lw os),(lw ns)),((hw od),(hw nd)),((lw od),(lw nd)),(og,nf),(ot,nt)])):=by unfold Es;rw[if_pos (show Gl (w2 zs 26) (Y2 os od ns nd++[(og,nf),(ot,nt)])=0 from by have z_:=h205;have y_:=beq_iff_eq.1 z_;exact Int.ofNat.inj y_)];have z_:=h205;have y_:=beq_iff_eq.1 z_;omega
     have hB:M7 op os od og ot ns nd nf nt zs=Z208:=by unfold M7;rw[show Yz op=false from h129,show(Mw op&&(((w2 zs 26:Nat):Int) !=0))=true from h198];simp only[cond_true,cond_false];rw[e7_,en_];exact hZ209
     exact fun w_ hS_=>Bb rfl (Aw (sV g4 zs.length)) hS_ ⟨g4,⟨ok5,nn6⟩,rfl,(Mem.cast (by rw[hB];rfl) (hS_.pick [0] Al rfl))⟩
    ·have qh206:=h206;try simp only[zA]at qh206
     refine Ak (hK202 _ _ _ (Aa ?_))
     obtain⟨Z216,hZ217⟩: ∃Z,Eo Z179 26 (Gl (w2 zs 26) [((hw os),(hw ns)),((lw os),(lw ns)),((hw od),(hw nd)),((lw od),(lw nd)),(og,nf),(ot,nt)])=Z:=⟨_,rfl⟩
     have hL218:Z216.length=zs.length:=(Dk hZ217).trans hL181
     refine Ab 2 (Ax rfl (Au [0] [] (fun w_ hm_ hl_=>(Eu g4 Z179 zs.length 26 (Gl (w2 zs 26) [((hw os),(hw ns)),((lw os),(lw ns)),((hw od),(hw nd)),((lw od),(lw nd)),(og,nf),(ot,nt)]) _ _ Z216 hZ217 hL181.symm hl_ ok5 nn6 (Pq hL181 h0 Al) (Pr hL181 hz) K0))) (fun _u _=>?_))
     refine Ac (hK192 _ _ _ (Ad (fun K221 hK221=>Aa (Ab 2 ?_))))
     refine Ac (hK221 _ _ _ (Aq (fn:=Tryz.f94) rfl ?_))
     have e4_:Xr zs ns nd=Z109:=by unfold Xr;rw[hZ47,hZ68,hZ89,hZ110]
     have e5_:Ut zs os od ns nd=Z120:=by unfold Ut Y2;rw[e4_];exact hZ121
     have e7_:Y3 zs os od ns nd nf nt=Z179:=by unfold Y3;rw[e5_,hZ174];exact hZ180
     have en_:Es (Gl (w2 zs 26) (Y2 os od ns nd++[(og,nf),(ot,nt)]))=(Gl (w2 zs 26) [((hw os),(hw ns)),((lw os),(lw ns)),((hw od),(hw nd)),((lw od),(lw nd)),(og,nf),(ot,nt)]):=by unfold Es;rw[if_neg (show¬Gl (w2 zs 26) (Y2 os od ns nd++[(og,nf),(ot,nt)])=0 from fun y_=>by have z_:=h206;have x_:=beq_eq_false_iff_ne.1 z_;exact x_ (congrArg (fun n:Nat=>(n:Int)) y_))];rfl
     have hB:M7 op os od og ot ns nd nf nt zs=Z216:=by unfold M7;rw[show Yz op=false from h129,show(Mw op&&(((w2 zs 26:Nat):Int) !=0))=true from h198];simp only[cond_true,cond_false];rw[e7_,en_];exact hZ217
     exact fun w_ hS_=>Bb rfl (Aw (sV g4 zs.length)) hS_ ⟨g4,⟨ok5,nn6⟩,rfl,(Mem.cast (by rw[hB];rfl) (hS_.pick [0] Al rfl))⟩
   ·have qh199:=h199;try simp only[zA]at qh199
    refine Ad (fun K223 hK223=>Aa (Ab 1 (Ah (An p4 0 2 0 Tryz.isAgg5) (Ab 2 ?_))))
    refine Am (v:=sV g4 zs.length) (((op.toNat:Nat):Int)==6) rfl (Bi rfl Ae) rfl (fun hg224=>?_) ?_
    ·exact Ys.p
    refine Am (v:=nV .i64 zs.length) (((op.toNat:Nat):Int)==6) rfl (Bi rfl Ae) rfl (fun hg225=>?_) ?_
    ·refine Bh (t:=128) (v0:=sV g4 zs.length) (lz (g:=(op.toNat:Int)==6) (u:=undef) hg225 Ae) ?_
     exact Ys.p
    refine Am (v:=bV (decide (((zs.length:Nat):Int)≥38))) (((op.toNat:Nat):Int)==6) rfl (Bi rfl Ae) rfl (fun hg226=>?_) ?_
    ·refine Bh (t:=129) (v0:=nV .i64 zs.length) (lz (g:=(op.toNat:Int)==6) (u:=undef) hg226 Ae) ?_
     exact Ys.p
    refine Ah (v:=bV (((op.toNat:Int)==6)&&(decide (((zs.length:Nat):Int)≥38)))) (D0 (e:=(op.toNat:Int)==6) (b:=decide (((zs.length:Nat):Int)≥38)) rfl Ae Ae Ae) (Ab 1 (Ac (hK223 _ _ _ (Ap [0,1] Al rfl ?_))))
    refine Ao (((op.toNat:Int)==6)&&(decide (((zs.length:Nat):Int)≥38))) Ae (fun h228=>?_) (fun h229=>?_)
    ·have qh228:=h228;try simp only[zA]at qh228
     refine Aa (Ab 2 (B0 (v:=nV .u16 (w2 zs 36)) (A9 (fun w_ hm_=>(Gm Z179 g4.a g4.cap 36 zs.length _ ((Cw hZ180 Al).trans ((Cw hZ174 Al).trans ((Cw hZ121 Al).trans ((Cw hZ110 Al).trans ((Cw hZ89 Al).trans ((Cw hZ68 Al).trans (Cw hZ47 Al))))))) hL181.symm (FS.at (i:=0) (t:=5) hm_ rfl (Aj ok5 (mcl hL181))) (Pq hL181 (Int.ofNat_le.1 (show((38:Nat):Int)≤(zs.length:Int) from qh228.2)) Al) (Pr hL181 hz) (lec hL181 ok5.le)))) (Ab 1 (B0 (v:=nV .u16 (Gl (w2 zs 36) [((hw os),(hw ns)),((lw os),(lw ns)),((hw od),(hw nd)),((lw od),(lw nd)),(og,nf),(ot,nt)])) (A9 (fun w_ hm_=>(Ii (w2 zs 36) [((hw os),(hw ns)),((lw os),(lw ns)),((hw od),(hw nd)),((lw od),(lw nd)),(og,nf),(ot,nt)] g185.a 6 g185.cap _ rfl (FS.at (i:=1) (t:=260) hm_ rfl (Aj ok186 rfl)) Zd (List.forall_mem_cons.2 ⟨⟨Fa,Fa⟩,(List.forall_mem_cons.2 ⟨⟨Fa,Fa⟩,(List.forall_mem_cons.2 ⟨⟨Fa,Fa⟩,(List.forall_mem_cons.2 ⟨⟨Fa,Fa⟩,(List.forall_mem_cons.2 ⟨⟨Fa,Fa⟩,(List.forall_mem_cons.2 ⟨⟨Fa,Fa⟩,(fun _ h=>by cases h)⟩)⟩)⟩)⟩)⟩)⟩) A5))) ?_))))
     obtain⟨Z230,hZ231⟩: ∃Z,Eo Z179 36 (Gl (w2 zs 36) [((hw os),(hw ns)),((lw os),(lw ns)),((hw od),(hw nd)),((lw od),(lw nd)),(og,nf),(ot,nt)])=Z:=⟨_,rfl⟩
     have hL232:Z230.length=zs.length:=(Dk hZ231).trans hL181
     refine Ax rfl (Au [0] [1] (fun w_ hm_ hl_=>(Eu g4 Z179 zs.length 36 (Gl (w2 zs 36) [((hw os),(hw ns)),((lw os),(lw ns)),((hw od),(hw nd)),((lw od),(lw nd)),(og,nf),(ot,nt)]) _ _ Z230 hZ231 hL181.symm hl_ ok5 nn6 (Pq hL181 (Int.ofNat_le.1 (show((38:Nat):Int)≤(zs.length:Int) from qh228.2)) Al) (Pr hL181 hz) K0))) (fun _u _=>Ac (hK192 _ _ _ (Ap [0] Al rfl (Ad (fun K235 hK235=>?_)))))
     refine Aa (Ab 2 (Ac (hK235 _ _ _ (Aq (fn:=Tryz.f94) rfl ?_))))
     have e4_:Xr zs ns nd=Z109:=by unfold Xr;rw[hZ47,hZ68,hZ89,hZ110]
     have e5_:Ut zs os od ns nd=Z120:=by unfold Ut Y2;rw[e4_];exact hZ121
     have e7_:Y3 zs os od ns nd nf nt=Z179:=by unfold Y3;rw[e5_,hZ174];exact hZ180
     have hB:M7 op os od og ot ns nd nf nt zs=Z230:=by unfold M7;rw[show Yz op=false from h129,show(Mw op&&(((w2 zs 26:Nat):Int) !=0))=false from h199,show(G1 op&&decide (((zs.length:Nat):Int)≥38))=true from h228];simp only[cond_true,cond_false];rw[e7_];exact hZ231
     exact fun w_ hS_=>Bb rfl (Aw (sV g4 zs.length)) hS_ ⟨g4,⟨ok5,nn6⟩,rfl,(Mem.cast (by rw[hB];rfl) (hS_.pick [0] Al rfl))⟩
    ·have qh229:=h229;try simp only[zA]at qh229
     refine Ak (hK192 _ _ _ (Ap [0] Al rfl (Ad (fun K238 hK238=>Aa ?_))))
     refine Ab 2 (Ac (hK238 _ _ _ (Aq (fn:=Tryz.f94) rfl ?_)))
     have e4_:Xr zs ns nd=Z109:=by unfold Xr;rw[hZ47,hZ68,hZ89,hZ110]
     have e5_:Ut zs os od ns nd=Z120:=by unfold Ut Y2;rw[e4_];exact hZ121
     have e7_:Y3 zs os od ns nd nf nt=Z179:=by unfold Y3;rw[e5_,hZ174];exact hZ180
     have hB:M7 op os od og ot ns nd nf nt zs=Z179:=by unfold M7;rw[show Yz op=false from h129,show(Mw op&&(((w2 zs 26:Nat):Int) !=0))=false from h199,show(G1 op&&decide (((zs.length:Nat):Int)≥38))=false from h229];simp only[cond_true,cond_false];rw[e7_]
     exact fun w_ hS_=>Bb rfl (Aw (sV g4 zs.length)) hS_ ⟨g4,⟨ok5,nn6⟩,rfl,(Mem.cast (by rw[hB];rfl) (hS_.pick [0] Al rfl))⟩
 ·refine Dw (w0:=w) (M:=[]) [0,4,5,7,8,9,18,19] (fun(z240:Nat×Nat)=>[sV g4 zs.length,pV p4 0,pV p5 0,sL none 0 0,pL (some ⟨z240.1,0,none⟩),pL (some ⟨z240.2,0,none⟩),aV (Q2q od os),aV (Q2s nd nf ns nt np)]) (fun(z240:Nat×Nat)=>True) (fun(z240:Nat×Nat)=>[[cb z240.2 Q2p 258],[cb z240.1 Q2p 258],g4.seg 5 (mc b8 zs),Uu nd nf ns nt p5 np,Uv od og os ot p4 op]) 3 #[true,true,true,false,true,true,false,false] (fun z240 hp241 f242=>?_) (fun JD21=>?_)
  ·obtain⟨p8,p9⟩:=z240
   refine A3 (i:=3) Ae (Wo.yc (v:=aV (Q2r nd ns)) rfl rfl rfl (A9 (fun w_ hm_=>(Js np ns nd nf nt _ Ag Ag))) (.inr fun _ h_=>h_.pick [2,3,4] Al rfl) ?_)
   exact Cb [0,4,5,7,8,9,18,20] [sV g4 zs.length,pV p4 0,pV p5 0,sL none 0 0,pV p8 0,pV p9 0,aV [nV .u16 (hw os),nV .u16 (lw os),nV .u16 (hw od),nV .u16 (lw od)],aV [nV .u16 (hw ns),nV .u16 (lw ns),nV .u16 (hw nd),nV .u16 (lw nd)]] #[true,true,true,true,true,true,false,false] (JD22 (p8,p9) trivial) Ae Ae (fun _ h_=>h_)
  ·refine Dw (w0:=w) (M:=[]) [0,4,5,7,9,18,20] (fun(z243:Nat)=>[sV g4 zs.length,pV p4 0,pV p5 0,sL none 0 0,pV z243 0,aV (Q2q od os),aV (Q2r nd ns)]) (fun(z243:Nat)=>True) (fun(z243:Nat)=>[[cb z243 Q2p 258],g4.seg 5 (mc b8 zs),Uu nd nf ns nt p5 np,Uv od og os ot p4 op]) 3 #[true,true,true,true,false,true,false,false] (fun z243 hp244 f245=>?_) (fun JD20=>?_)
   ·obtain⟨p9,rfl⟩: ∃a_,a_=z243:=⟨_,rfl⟩
    refine A3 (i:=4) Ae (Ch rfl rfl (Bc Tryz.zeroValue258) (.inr fun _ _ h_=>h_.pick [2,3,4] Al rfl) (fun p8=>?_))
    exact Cb [0,4,5,7,8,9,18,20] [sV g4 zs.length,pV p4 0,pV p5 0,sL none 0 0,pV p8 0,pV p9 0,aV [nV .u16 (hw os),nV .u16 (lw os),nV .u16 (hw od),nV .u16 (lw od)],aV [nV .u16 (hw ns),nV .u16 (lw ns),nV .u16 (hw nd),nV .u16 (lw nd)]] #[true,true,true,true,true,true,false,false] (JD22 (p8,p9) trivial) Ae Ae (fun _ h_=>h_.pick [1,0,2,3,4] Al rfl)
   ·refine Dw (w0:=w) (M:=[]) [0,4,5,7,8,18,20] (fun(z246:Nat)=>[sV g4 zs.length,pV p4 0,pV p5 0,sL none 0 0,pV z246 0,aV (Q2q od os),aV (Q2r nd ns)]) (fun(z246:Nat)=>True) (fun(z246:Nat)=>[[cb z246 Q2p 258],g4.seg 5 (mc b8 zs),Uu nd nf ns nt p5 np,Uv od og os ot p4 op]) 3 #[true,true,true,true,true,false,false,false] (fun z246 hp247 f248=>?_) (fun JD19=>?_)
    ·obtain⟨p8,rfl⟩: ∃a_,a_=z246:=⟨_,rfl⟩
     refine A3 (i:=5) Ae (Ch rfl rfl (Bc Tryz.zeroValue258) (.inr fun _ _ h_=>h_.pick [2,3,4] Al rfl) (fun p9=>?_))
     exact Cb [0,4,5,7,8,9,18,20] [sV g4 zs.length,pV p4 0,pV p5 0,sL none 0 0,pV p8 0,pV p9 0,aV [nV .u16 (hw os),nV .u16 (lw os),nV .u16 (hw od),nV .u16 (lw od)],aV [nV .u16 (hw ns),nV .u16 (lw ns),nV .u16 (hw nd),nV .u16 (lw nd)]] #[true,true,true,true,true,true,false,false] (JD22 (p8,p9) trivial) Ae Ae (fun _ h_=>h_)
    ·refine Dw (w0:=w) (M:=[]) [0,4,5,7,8,9,17,19] (fun(z249:Nat×Nat)=>[sV g4 zs.length,pV p4 0,pV p5 0,sL none 0 0,pL (some ⟨z249.1,0,none⟩),pL (some ⟨z249.2,0,none⟩),aV [nV .u8 op.toNat,nV .u32 os,nV .u32 od,nV .u16 og,nV .u16 ot],aV (Q2s nd nf ns nt np)]) (fun(z249:Nat×Nat)=>True) (fun(z249:Nat×Nat)=>[[cb z249.2 Q2p 258],[cb z249.1 Q2p 258],g4.seg 5 (mc b8 zs),Uu nd nf ns nt p5 np,Uv od og os ot p4 op]) 4 #[true,false,true,false,true,true,false,false] (fun z249 hp250 f251=>?_) (fun JD18=>?_)
     ·obtain⟨p8,p9⟩:=z249
      refine A3 (i:=1) Ae (Wo.yc (v:=aV (Q2q od os)) rfl rfl rfl (A9 (fun w_ hm_=>(Js op os od og ot _ Ag Ag))) (.inr fun _ h_=>h_.pick [2,3,4] Al rfl) ?_)
      exact Cb [0,4,5,7,8,9,18,19] [sV g4 zs.length,pV p4 0,pV p5 0,sL none 0 0,pV p8 0,pV p9 0,aV [nV .u16 (hw os),nV .u16 (lw os),nV .u16 (hw od),nV .u16 (lw od)],aV [nV .u8 np.toNat,nV .u32 ns,nV .u32 nd,nV .u16 nf,nV .u16 nt]] #[true,true,true,false,true,true,false,false] (JD21 (p8,p9) trivial) Ae Ae (fun _ h_=>h_)
     ·refine Dw (w0:=w) (M:=[]) [0,4,5,7,9,18,19] (fun(z252:Nat)=>[sV g4 zs.length,pV p4 0,pV p5 0,sL none 0 0,pV z252 0,aV (Q2q od os),aV (Q2s nd nf ns nt np)]) (fun(z252:Nat)=>True) (fun(z252:Nat)=>[[cb z252 Q2p 258],g4.seg 5 (mc b8 zs),Uu nd nf ns nt p5 np,Uv od og os ot p4 op]) 4 #[true,true,true,false,false,true,false,false] (fun z252 hp253 f254=>?_) (fun JD17=>?_)
      ·obtain⟨p9,rfl⟩: ∃a_,a_=z252:=⟨_,rfl⟩
       refine C3 (i:=3) (j:=4) Ae ?_ ?_
       ·refine Wo.yc (v:=aV (Q2r nd ns)) rfl rfl rfl (A9 (fun w_ hm_=>(Js np ns nd nf nt _ Ag Ag))) (.inr fun _ h_=>h_.pick [1,2,3] Al rfl) ?_
        exact Cb [0,4,5,7,9,18,20] [sV g4 zs.length,pV p4 0,pV p5 0,sL none 0 0,pV p9 0,aV [nV .u16 (hw os),nV .u16 (lw os),nV .u16 (hw od),nV .u16 (lw od)],aV [nV .u16 (hw ns),nV .u16 (lw ns),nV .u16 (hw nd),nV .u16 (lw nd)]] #[true,true,true,true,false,true,false,false] (JD20 p9 trivial) Ae Ae (fun _ h_=>h_)
       ·refine Ch rfl rfl (Bc Tryz.zeroValue258) (.inr fun _ _ h_=>h_.pick [2,3,4] Al rfl) (fun p8=>?_)
        exact Cb [0,4,5,7,8,9,18,19] [sV g4 zs.length,pV p4 0,pV p5 0,sL none 0 0,pV p8 0,pV p9 0,aV [nV .u16 (hw os),nV .u16 (lw os),nV .u16 (hw od),nV .u16 (lw od)],aV [nV .u8 np.toNat,nV .u32 ns,nV .u32 nd,nV .u16 nf,nV .u16 nt]] #[true,true,true,false,true,true,false,false] (JD21 (p8,p9) trivial) Ae Ae (fun _ h_=>h_.pick [1,0,2,3,4] Al rfl)
      ·refine Dw (w0:=w) (M:=[]) [0,4,5,7,8,18,19] (fun(z255:Nat)=>[sV g4 zs.length,pV p4 0,pV p5 0,sL none 0 0,pV z255 0,aV (Q2q od os),aV (Q2s nd nf ns nt np)]) (fun(z255:Nat)=>True) (fun(z255:Nat)=>[[cb z255 Q2p 258],g4.seg 5 (mc b8 zs),Uu nd nf ns nt p5 np,Uv od og os ot p4 op]) 4 #[true,true,true,false,true,false,false,false] (fun z255 hp256 f257=>?_) (fun JD16=>?_)
       ·obtain⟨p8,rfl⟩: ∃a_,a_=z255:=⟨_,rfl⟩
        refine C3 (i:=3) (j:=5) Ae ?_ ?_
        ·refine Wo.yc (v:=aV (Q2r nd ns)) rfl rfl rfl (A9 (fun w_ hm_=>(Js np ns nd nf nt _ Ag Ag))) (.inr fun _ h_=>h_.pick [1,2,3] Al rfl) ?_
         exact Cb [0,4,5,7,8,18,20] [sV g4 zs.length,pV p4 0,pV p5 0,sL none 0 0,pV p8 0,aV [nV .u16 (hw os),nV .u16 (lw os),nV .u16 (hw od),nV .u16 (lw od)],aV [nV .u16 (hw ns),nV .u16 (lw ns),nV .u16 (hw nd),nV .u16 (lw nd)]] #[true,true,true,true,true,false,false,false] (JD19 p8 trivial) Ae Ae (fun _ h_=>h_)
        ·refine Ch rfl rfl (Bc Tryz.zeroValue258) (.inr fun _ _ h_=>h_.pick [2,3,4] Al rfl) (fun p9=>?_)
         exact Cb [0,4,5,7,8,9,18,19] [sV g4 zs.length,pV p4 0,pV p5 0,sL none 0 0,pV p8 0,pV p9 0,aV [nV .u16 (hw os),nV .u16 (lw os),nV .u16 (hw od),nV .u16 (lw od)],aV [nV .u8 np.toNat,nV .u32 ns,nV .u32 nd,nV .u16 nf,nV .u16 nt]] #[true,true,true,false,true,true,false,false] (JD21 (p8,p9) trivial) Ae Ae (fun _ h_=>h_)
       ·refine Wa.ys (v:=aV [nV .u8 op.toNat,nV .u32 os,nV .u32 od,nV .u16 og,nV .u16 ot]) (i:=0) Ae Ae Ae Ae (fun _ h_=>h_) rfl rfl rfl (A0 p4 0 2 0 [nV .u8 op.toNat,nV .u32 os,nV .u32 od,nV .u16 og,nV .u16 ot] Tryz.isAgg47 Tryz.sizeOf47) (Wa.ys (v:=aV (Q2s nd nf ns nt np)) (i:=2) Ae Ae Ae Ae (fun _ h_=>h_) rfl rfl rfl (A0 p5 0 1 0 (Q2s nd nf ns nt np) Tryz.isAgg47 Tryz.sizeOf47) ?_)
        refine V9 (i:=1) (j:=4) (l:=5) Ae ?_ ?_ ?_
        ·refine Wo.yc (v:=aV (Q2q od os)) rfl rfl rfl (A9 (fun w_ hm_=>(Js op os od og ot _ Ag Ag))) (.inr fun _ h_=>h_) ?_
         refine V9 (i:=3) (j:=4) (l:=5) Ae ?_ ?_ ?_
         ·refine Wo.yc (v:=aV (Q2r nd ns)) rfl rfl rfl (A9 (fun w_ hm_=>(Js np ns nd nf nt _ Ag Ag))) (.inr fun _ h_=>h_) ?_
          refine C3 (i:=4) (j:=5) Ae ?_ ?_
          ·refine Ch rfl rfl (Bc Tryz.zeroValue258) (.inr fun _ _ h_=>h_.pick [1,2,3] Al rfl) (fun p8=>?_)
           exact Cb [0,4,5,7,8,18,20] [sV g4 zs.length,pV p4 0,pV p5 0,sL none 0 0,pV p8 0,aV [nV .u16 (hw os),nV .u16 (lw os),nV .u16 (hw od),nV .u16 (lw od)],aV [nV .u16 (hw ns),nV .u16 (lw ns),nV .u16 (hw nd),nV .u16 (lw nd)]] #[true,true,true,true,true,false,false,false] (JD19 p8 trivial) Ae Ae (fun _ h_=>h_)
          ·refine Ch rfl rfl (Bc Tryz.zeroValue258) (.inr fun _ _ h_=>h_.pick [1,2,3] Al rfl) (fun p9=>?_)
           exact Cb [0,4,5,7,9,18,20] [sV g4 zs.length,pV p4 0,pV p5 0,sL none 0 0,pV p9 0,aV [nV .u16 (hw os),nV .u16 (lw os),nV .u16 (hw od),nV .u16 (lw od)],aV [nV .u16 (hw ns),nV .u16 (lw ns),nV .u16 (hw nd),nV .u16 (lw nd)]] #[true,true,true,true,false,true,false,false] (JD20 p9 trivial) Ae Ae (fun _ h_=>h_)
         ·refine Ch rfl rfl (Bc Tryz.zeroValue258) (.inr fun _ _ h_=>h_.pick [1,2,3] Al rfl) (fun p8=>?_)
          exact Cb [0,4,5,7,8,18,19] [sV g4 zs.length,pV p4 0,pV p5 0,sL none 0 0,pV p8 0,aV [nV .u16 (hw os),nV .u16 (lw os),nV .u16 (hw od),nV .u16 (lw od)],aV [nV .u8 np.toNat,nV .u32 ns,nV .u32 nd,nV .u16 nf,nV .u16 nt]] #[true,true,true,false,true,false,false,false] (JD16 p8 trivial) Ae Ae (fun _ h_=>h_)
         ·refine Ch rfl rfl (Bc Tryz.zeroValue258) (.inr fun _ _ h_=>h_.pick [1,2,3] Al rfl) (fun p9=>?_)
          exact Cb [0,4,5,7,9,18,19] [sV g4 zs.length,pV p4 0,pV p5 0,sL none 0 0,pV p9 0,aV [nV .u16 (hw os),nV .u16 (lw os),nV .u16 (hw od),nV .u16 (lw od)],aV [nV .u8 np.toNat,nV .u32 ns,nV .u32 nd,nV .u16 nf,nV .u16 nt]] #[true,true,true,false,false,true,false,false] (JD17 p9 trivial) Ae Ae (fun _ h_=>h_)
        ·refine Ch rfl rfl (Bc Tryz.zeroValue258) (.inr fun _ _ h_=>h_.pick [1,2,3] Al rfl) (fun p8=>?_)
         refine C3 (i:=1) (j:=5) Ae ?_ ?_
         ·refine Wo.yc (v:=aV (Q2q od os)) rfl rfl rfl (A9 (fun w_ hm_=>(Js op os od og ot _ Ag Ag))) (.inr fun _ h_=>h_.pick [1,2,3] Al rfl) ?_
          exact Cb [0,4,5,7,8,18,19] [sV g4 zs.length,pV p4 0,pV p5 0,sL none 0 0,pV p8 0,aV [nV .u16 (hw os),nV .u16 (lw os),nV .u16 (hw od),nV .u16 (lw od)],aV [nV .u8 np.toNat,nV .u32 ns,nV .u32 nd,nV .u16 nf,nV .u16 nt]] #[true,true,true,false,true,false,false,false] (JD16 p8 trivial) Ae Ae (fun _ h_=>h_)
         ·refine Ch rfl rfl (Bc Tryz.zeroValue258) (.inr fun _ _ h_=>h_.pick [2,3,4] Al rfl) (fun p9=>?_)
          exact Cb [0,4,5,7,8,9,17,19] [sV g4 zs.length,pV p4 0,pV p5 0,sL none 0 0,pV p8 0,pV p9 0,aV [nV .u8 op.toNat,nV .u32 os,nV .u32 od,nV .u16 og,nV .u16 ot],aV [nV .u8 np.toNat,nV .u32 ns,nV .u32 nd,nV .u16 nf,nV .u16 nt]] #[true,false,true,false,true,true,false,false] (JD18 (p8,p9) trivial) Ae Ae (fun _ h_=>h_)
        ·refine Ch rfl rfl (Bc Tryz.zeroValue258) (.inr fun _ _ h_=>h_.pick [1,2,3] Al rfl) (fun p9=>?_)
         refine C3 (i:=1) (j:=4) Ae ?_ ?_
         ·refine Wo.yc (v:=aV (Q2q od os)) rfl rfl rfl (A9 (fun w_ hm_=>(Js op os od og ot _ Ag Ag))) (.inr fun _ h_=>h_.pick [1,2,3] Al rfl) ?_
          exact Cb [0,4,5,7,9,18,19] [sV g4 zs.length,pV p4 0,pV p5 0,sL none 0 0,pV p9 0,aV [nV .u16 (hw os),nV .u16 (lw os),nV .u16 (hw od),nV .u16 (lw od)],aV [nV .u8 np.toNat,nV .u32 ns,nV .u32 nd,nV .u16 nf,nV .u16 nt]] #[true,true,true,false,false,true,false,false] (JD17 p9 trivial) Ae Ae (fun _ h_=>h_)
         ·refine Ch rfl rfl (Bc Tryz.zeroValue258) (.inr fun _ _ h_=>h_.pick [2,3,4] Al rfl) (fun p8=>?_)
          exact Cb [0,4,5,7,8,9,17,19] [sV g4 zs.length,pV p4 0,pV p5 0,sL none 0 0,pV p8 0,pV p9 0,aV [nV .u8 op.toNat,nV .u32 os,nV .u32 od,nV .u16 og,nV .u16 ot],aV [nV .u8 np.toNat,nV .u32 ns,nV .u32 nd,nV .u16 nf,nV .u16 nt]] #[true,false,true,false,true,true,false,false] (JD18 (p8,p9) trivial) Ae Ae (fun _ h_=>h_.pick [1,0,2,3,4] Al rfl)
theorem Oc(op:UInt8)(os od og ot ns nd nf nt:Nat)(zs:List UInt8):(M7 op os od og ot ns nd nf nt zs).length=zs.length:=by
  have h5:(Ut zs os od ns nd).length=zs.length:=by unfold Ut Xr;simp only[Hi]
  have h7:(Y3 zs os od ns nd nf nt).length=zs.length:=by unfold Y3;simp only[Hi,h5]
  unfold M7
  cases Yz op
  · simp only[cond_false]
    cases(Mw op&&(((w2 zs 26:Nat):Int) !=0))
    · simp only[cond_false]
      cases(G1 op&&decide (((zs.length:Nat):Int)≥38))
      · exact h7
      · simp only[cond_true,Hi,h7]
    · simp only[cond_true,Hi,h7]
  · simp only[cond_true];unfold rtI;simp only[Hi,h5]
theorem Aml{Z:List UInt8}(h:Ta Z=true):inC Z=false:=by
  cases hc:inC Z
  · rfl
  · unfold Ta at h;rw[hc]at h;cases h
theorem Af9{Z:List UInt8}(h:inC Z=false):28≤Z.length:=by
  unfold inC at h;simp only[Bool.or_eq_false_iff,decide_eq_false_iff_not]at h;omega
theorem Pn(zs:List UInt8){k n p:Nat}(h:p+2≤k∨k+2≤p):w2 (Eo zs k n) p=w2 zs p:=Cw rfl h
structure Re(Z R:List UInt8)(ns nd:Nat):Prop where
  l:R.length=Z.length
  b0:R.getD 0 0=Z.getD 0 0
  b6:w2 R 6=w2 Z 6
  b9:R.getD 9 0=Z.getD 9 0
  a12:a4 R 12=ns
  a16:a4 R 16=nd
theorem Re.put{Z R:List UInt8}{ns nd:Nat}(h:Re Z R ns nd){k:Nat}(n:Nat)(hk:20≤k):Re Z (Eo R k n) ns nd:=by
  constructor
  · rw[Hi];exact h.l
  · rw[Jt _ Ag];exact h.b0
  · rw[Pn _ Ag];exact h.b6
  · rw[Jt _ Ag];exact h.b9
  · unfold a4;rw[Pn _ Ag,Pn _ Ag];exact h.a12
  · unfold a4;rw[Pn _ Ag,Pn _ Ag];exact h.a16
theorem Re.inC{Z R:List UInt8}{ns nd:Nat}(h:Re Z R ns nd):inC R=inC Z:=by
  unfold Oct.inC;rw[h.l,h.b0,h.b6]
theorem Re.i9{Z R:List UInt8}{ns nd:Nat}(h:Re Z R ns nd)(k:Int):i9 R k=i9 Z k:=by unfold Oct.i9;rw[h.b9]
structure Rf(Z R:List UInt8)(ns nd f t:Nat):Prop where
  o:Ta R=true
  p:St R=St Z
  s:Ki R 12=ns
  d:Ki R 16=nd
  f:Rn R=f
  t:Ro R=t
structure K3(pr:UInt8)(s d:Nat)(xs:List UInt8):Prop where
  e:Ij pr s d xs=0
  p1:pr=1
  r:mR xs=0
  o:Ta (mD xs)=true
  k:Sv (mT xs 0)=true
  P:Gn pr s d xs=St (mD xs)
  S:E4 pr s d xs=Ki (mD xs) 16
  D:E9 pr s d xs=Ki (mD xs) 12
  F:Hu pr s d xs=Ro (mD xs)
  T:Hv pr s d xs=Rn (mD xs)
theorem Amm{pr:UInt8}{s d:Nat}{xs:List UInt8}(h:Ew pr s d xs=3):K3 pr s d xs:=by
  have hE:Ij pr s d xs=0:=by
    unfold Ew at h
    cases hz:L9 pr s d xs
    · rw[hz]at h;cases h
    · unfold L9 at hz;simpa using hz
  have hZ:=Sz hE
  cases Af6 hE with
  |tcp h1 _ _=>subst h1;unfold Ew at h;rw[hZ]at h;exact absurd h (by show¬((1:Int)=3);decide)
  |udp h1 _ _=>subst h1;unfold Ew at h;rw[hZ]at h;exact absurd h (by show¬((1:Int)=3);decide)
  |query h1 hR hQ hm _=>subst h1;unfold Ew at h;rw[hZ]at h;have h:Tc xs=3:=h;unfold Tc at h;rw[hm]at h;cases h
  |err h1 hR hr hm _=>
    subst h1
    have hr':=hr
    unfold Kf at hr'
    simp only[Bool.and_eq_true]at hr'
    refine⟨hE,rfl,hR,hr'.2.2,hr'.2.1,?_,?_,?_,?_,?_⟩
    · unfold Gn;rw[hZ];show I5 1 xs=_;unfold I5;rw[hr];rfl
    · unfold E4;rw[hZ];show L7 s 16 xs=_;unfold L7;rw[hr];rfl
    · unfold E9;rw[hZ];show L7 d 12 xs=_;unfold L7;rw[hr];rfl
    · unfold Hu;rw[hZ];show Sw 0 xs=_;unfold Sw;rw[hr];rfl
    · unfold Hv;rw[hZ];show Sx 0 xs=_;unfold Sx;rw[hr];rfl
def rx3(pr:UInt8)(s d:Nat)(xs:List UInt8)(fs fd ff ft:Nat):List UInt8:=mB (mT xs 0) (mT xs 1) (mN xs) (M7 (Gn pr s d xs) (E9 pr s d xs) (E4 pr s d xs) (Hv pr s d xs) (Hu pr s d xs) fd fs ft ff (mD xs))
def Nl(s o f:Nat):Nat:=bif (s:Int)==(o:Int)then f else s
theorem Aco{s o f:Nat}(h1:s<4294967296)(h2:f<4294967296):Nl s o f<4294967296:=by unfold Nl;cases(((s:Nat):Int)==(o:Int))<;>assumption
theorem Y4(zs:List UInt8)(a:Option Addr)(cap:Nat)(op:UInt8)(os od og ot:Nat)(np:UInt8)(ns nd nf nt:Nat)(len:Nat)(w:World)(hn:len=zs.length)(hat:At w a (Ci zs))(h0:28≤zs.length)(hz:zs.length≤1000000)(hlc:zs.length≤cap)(hos:os<4294967296)(hod:od<4294967296)(hog:og<65536)(hot:ot<65536)(hns:ns<4294967296)(hnd:nd<4294967296)(hnf:nf<65536)(hnt:nt<65536):Calls Tryz.prog 94 #[.slice a len cap,Value.agg ([Value.int .u8 (op.toNat:Int),Value.int .u32 (os:Int),Value.int .u32 (od:Int),Value.int .u16 (og:Int),Value.int .u16 (ot:Int)]).toArray,Value.agg ([Value.int .u8 (np.toNat:Int),Value.int .u32 (ns:Int),Value.int .u32 (nd:Int),Value.int .u16 (nf:Int),Value.int .u16 (nt:Int)]).toArray] w (Bj w (fun g:FS=>g.ok 1 zs.length∧g.nil=false) (fun g=>.slice g.a zs.length g.cap) [] (fun g=>[g.seg 5 (Ci (M7 op os od og ot ns nd nf nt zs))])):=by
  subst hn;exact Acn zs a cap op os od og ot np ns nd nf nt w hat h0 hz hlc hos hod hog hot hns hnd hnf hnt
abbrev Q2u(d p6 s:Nat)(pr:UInt8)(xs:List UInt8):List Blk:=[cb p6 [nV .u8 ((Gn pr s d xs).toNat),nV .u32 (E4 pr s d xs),nV .u32 (E9 pr s d xs),nV .u16 (Hu pr s d xs),nV .u16 (Hv pr s d xs)] 47]
abbrev Q2v(p4:Nat):List Blk:=[cb p4 M9 40]
abbrev Q2w(fd ff fs ft p3:Nat)(fp:UInt8):List Blk:=[cb p3 [nV .u8 fp.toNat,nV .u32 fs,nV .u32 fd,nV .u16 ff,nV .u16 ft] 47]
abbrev Q2x(d s:Nat)(pr:UInt8)(xs:List UInt8):List Value:=[nV .u8 ((Gn pr s d xs).toNat),nV .u32 (E4 pr s d xs),nV .u32 (E9 pr s d xs),nV .u16 (Hu pr s d xs),nV .u16 (Hv pr s d xs)]
abbrev Q2y(d s:Nat)(pr:UInt8)(xs:List UInt8):List Value:=[nV .u8 ((Gn pr s d xs).toNat),nV .u32 (E9 pr s d xs),nV .u32 (E4 pr s d xs),nV .u16 (Hv pr s d xs),nV .u16 (Hu pr s d xs)]
theorem Amn(tt pr:UInt8)(id s d:Nat)(xs:List UInt8)(a:Option Addr)(cap:Nat)(fp:UInt8)(fs fd ff ft:Nat)(w:World)(hk3:Ew pr s d xs=3)(hP_:Gn pr s d xs=fp)(hfs:fs<4294967296)(hfd:fd<4294967296)(hff:ff<65536)(hft:ft<65536)(hat:At w a (Ci xs))(hi:id<65536)(hs:s<4294967296)(hd:d<4294967296)(hl:xs.length≤100000)(hlc:xs.length≤cap):Calls Tryz.prog 45 #[aV [nV .u8 tt.toNat,nV .u8 pr.toNat,nV .u16 id,nV .u32 s,nV .u32 d,sL a xs.length cap],aV [nV .u8 fp.toNat,nV .u32 fs,nV .u32 fd,nV .u16 ff,nV .u16 ft]] w (Bj w (fun g:FS=>g.ok 1 (rx3 pr s d xs fs fd ff ft).length) (fun g=>.tuple #[.agg ([nV .u8 tt.toNat,nV .u8 pr.toNat,nV .u16 id,nV .u32 (Nl s (E4 pr s d xs) fs),nV .u32 (Nl d (E9 pr s d xs) fd),sV g ((rx3 pr s d xs fs fd ff ft).length)]).toArray,.int .i64 0]) [] (fun g=>[g.seg 5 (Ci (rx3 pr s d xs fs fd ff ft))])):=by
 have hK3_:=Amm hk3;have hl28_:=Af9 (Aml hK3_.o);have hmn_:=Ab3 xs;have hml_:=Ab8 xs;have oS_:=Acg (pr:=pr) (d:=d) (xs:=xs) hs;have oD_:=Ach (pr:=pr) (s:=s) (xs:=xs) hd;have oF_:=Acf pr s d xs;have oT_:=Vw pr s d xs;have rS_:=Aco (o:=E4 pr s d xs) hs hfs;have rD_:=Aco (o:=E9 pr s d xs) hd hfd
 refine Ar (M:=[]) (LL:=[]) (n:=167) Tryz.func45 rfl rfl A5 (Mem.refl _) (Ad (fun K1 hK1=>?_))
 refine Aa (Ai rfl (Bx [nV .u8 tt.toNat,nV .u8 pr.toNat,nV .u16 id,nV .u32 s,nV .u32 d,sL a xs.length cap] rfl) (fun p2=>?_))
 refine Ai rfl (Bx [nV .u8 fp.toNat,nV .u32 fs,nV .u32 fd,nV .u16 ff,nV .u16 ft] rfl) (fun p3=>Ai rfl (Bc Tryz.zeroValue40) (fun p4=>?_))
 refine Ab 1 (Ac (hK1 _ _ _ (Ad (fun K3 hK3=>Aa ?_))))
 refine Ah (A0 p2 0 2 0 [nV .u8 tt.toNat,nV .u8 pr.toNat,nV .u16 id,nV .u32 s,nV .u32 d,sL a xs.length cap] Tryz.isAgg40 Tryz.sizeOf40) (B0 (v:=Value.tuple #[aV (Q2x d s pr xs),iV .i64 (Ew pr s d xs),iV .i64 (Ij pr s d xs)]) (A9 (fun w_ hm_=>(Agz tt pr id s d xs a cap xs.length _ Ac7 (hat.mem0 hm_) Rr Rr Rr Ef Ef))) (Ab 4 (Ai rfl (Bc Tryz.zeroValue47) (fun p6=>Ai rfl (A4 p6 0 0 0 (Q2x d s pr xs) Tryz.sizeOf47 rfl rfl) (fun _=>?_)))))
 refine Ab 2 (Ac (hK3 _ _ _ (Ad (fun K5 hK5=>W.block ?_))))
 refine Ad (fun K6 hK6=>Aa (Ab 3 (Ac (hK6 _ _ _ ?_))))
 refine Ao ((Ij pr s d xs) !=0) Ae (fun h8=>?_) (fun h9=>?_)
 ·(exfalso;have z_:=h8;rw[hK3_.e]at z_;exact absurd z_ Al)
 ·have qh9:=h9;try simp only[zA]at qh9
  refine Ad (fun K10 hK10=>Aa (Ab 1 (Ah (An p3 0 2 0 Tryz.isAgg5) (Ab 1 ?_))))
  refine Ah (An p6 0 0 0 Tryz.isAgg5) (Ab 2 (Ac (hK10 _ _ _ ?_)))
  refine Ao (((fp.toNat:Nat):Int) !=((Gn pr s d xs).toNat:Int)) Ae (fun h12=>?_) (fun h13=>?_)
  ·have qh12:=h12;try simp only[zA]at qh12
   (exfalso;have z_:=h12;rw[hP_]at z_;simp at z_)
  ·have qh13:=h13;try simp only[zA]at qh13
   refine Ak (hK5 _ _ _ (Ad (fun K15 hK15=>Dh [(0,true),(1,true),(2,true),(3,true),(4,true),(5,true),(6,false),(7,false),(8,false)] [0,1,2,3,4,5] (Ay 1 ?_))))
   refine Wd.ys rfl rfl rfl (An p2 3 3 0 Tryz.isAgg24) (Ay 1 (Wd.ys rfl rfl rfl (An p2 4 3 0 Tryz.isAgg24) (Ay 1 (Wd.ys rfl rfl rfl (An p2 5 3 0 Tryz.isAgg38) ?_))))
   refine Wd.yc (v:=nV .u32 s) rfl rfl rfl (Ys.yc (Ys.p)) (.inr fun _ h_=>h_) (Wd.yc (v:=nV .u32 d) rfl rfl rfl (Ys.yc (Ys.p)) (.inr fun _ h_=>h_) (Wd.yc (v:=sL a xs.length cap) rfl rfl rfl (Ys.yc (Ys.p)) (.inl Ae) (A7 (hK15 _ _ _ ?_))))
   refine Ad (fun K17 hK17=>?_)
   refine Nm (w0:=w) (M:=[]) K17 [2,3,4,6,7,9,10,11] ([pV p2 0,pV p3 0,pV p4 0,pV p6 0,iV .i64 (Ew pr s d xs),nV .u32 s,nV .u32 d,sL a xs.length cap]) (True) ([Q2u d p6 s pr xs,Q2v p4,Q2w fd ff fs ft p3 fp,[cb p2 [nV .u8 tt.toNat,nV .u8 pr.toNat,nV .u16 id,nV .u32 (Nl s (E4 pr s d xs) fs),nV .u32 d,sL a xs.length cap] 40]]) (fun J18 hJ18=>?_) (fun f19 hp20=>?_)
   ·refine Ad (fun K21 hK21=>Aa (Ab 3 ?_))
    refine Am (v:=nV .u32 s) (!((Ew pr s d xs) !=3)) rfl (B3 rfl Ae) rfl (fun hg22=>?_) ?_
    ·exact Ys.p
    refine Am (v:=pV p6 1) (!((Ew pr s d xs) !=3)) rfl (B3 rfl Ae) rfl (fun hg23=>?_) ?_
    ·exact Ys.p
    refine Am (v:=nV .u32 (E4 pr s d xs)) (!((Ew pr s d xs) !=3)) rfl (B3 rfl Ae) rfl (fun hg24=>?_) ?_
    ·refine Bh (t:=49) (v0:=pV p6 1) (lz (g:= !((Ew pr s d xs) !=3)) (u:=undef) hg24 Ae) ?_
     exact An p6 1 0 0 Tryz.isAgg24
    refine Am (v:=bV (((s:Nat):Int)==(E4 pr s d xs:Int))) (!((Ew pr s d xs) !=3)) rfl (B3 rfl Ae) rfl (fun hg25=>?_) ?_
    ·refine Bh (t:=48) (v0:=nV .u32 s) (lz (g:= !((Ew pr s d xs) !=3)) (u:=undef) hg25 Ae) (Bh (t:=50) (v0:=nV .u32 (E4 pr s d xs)) (lz (g:= !((Ew pr s d xs) !=3)) (u:=undef) hg25 Ae) ?_)
     exact Ys.p
    refine Ah (v:=bV (((Ew pr s d xs) !=3)||(((s:Nat):Int)==(E4 pr s d xs:Int)))) (Dr (e:=(Ew pr s d xs) !=3) (b:=(s:Int)==(E4 pr s d xs:Int)) rfl Ae Ae Ae) (Ac (hK21 _ _ _ ?_))
    refine Ao (((Ew pr s d xs) !=3)||(((s:Nat):Int)==(E4 pr s d xs:Int))) Ae (fun h27=>?_) (fun h28=>?_)
    ·have qh27:=h27;try simp only[zA]at qh27
     refine Aa (Ab 1 (Ah (An p3 1 2 0 Tryz.isAgg24) (Ab 1 (Ai rfl (Bg p2 3 3 0 (nV .u32 fs) Tryz.sizeOf24 rfl rfl) (fun _=>?_)))))
     refine Ac ?_
     refine fun w_ h_=>hJ18 _ w_ trivial Ae (Mem.cast (LL:=[Q2u d p6 s pr xs,Q2v p4,Q2w fd ff fs ft p3 fp,[cb p2 [nV .u8 tt.toNat,nV .u8 pr.toNat,nV .u16 id,nV .u32 fs,nV .u32 d,Value.slice a xs.length cap] 40]]) (by unfold Nl;rw[show(((s:Nat):Int)==(E4 pr s d xs:Int))=true from by have z_:=h27;rw[hk3]at z_;simpa using z_];rfl) h_)
    ·have qh28:=h28;try simp only[zA]at qh28
     refine Ak ?_
     refine fun w_ h_=>hJ18 _ w_ trivial Ae (Mem.cast (LL:=[Q2u d p6 s pr xs,Q2v p4,Q2w fd ff fs ft p3 fp,[cb p2 [nV .u8 tt.toNat,nV .u8 pr.toNat,nV .u16 id,nV .u32 s,nV .u32 d,Value.slice a xs.length cap] 40]]) (by unfold Nl;rw[show(((s:Nat):Int)==(E4 pr s d xs:Int))=false from by have z_:=h28;rw[hk3]at z_;simpa using z_];rfl) h_)
   ·refine hK17 _ _ _ (Ad (fun K29 hK29=>?_))
    refine Nm (w0:=w) (M:=[]) K29 [2,3,4,6,7,9,10,11] ([pV p2 0,pV p3 0,pV p4 0,pV p6 0,iV .i64 (Ew pr s d xs),nV .u32 s,nV .u32 d,sL a xs.length cap]) (True) ([Q2u d p6 s pr xs,Q2v p4,Q2w fd ff fs ft p3 fp,[cb p2 [nV .u8 tt.toNat,nV .u8 pr.toNat,nV .u16 id,nV .u32 (Nl s (E4 pr s d xs) fs),nV .u32 (Nl d (E9 pr s d xs) fd),sL a xs.length cap] 40]]) (fun J30 hJ30=>?_) (fun f31 hp32=>?_)
    ·refine Ad (fun K33 hK33=>Aa (Ab 3 ?_))
     refine Am (v:=nV .u32 d) (!((Ew pr s d xs) !=3)) rfl (B3 rfl Ae) rfl (fun hg34=>?_) ?_
     ·exact Ys.p
     refine Am (v:=pV p6 2) (!((Ew pr s d xs) !=3)) rfl (B3 rfl Ae) rfl (fun hg35=>?_) ?_
     ·exact Ys.p
     refine Am (v:=nV .u32 (E9 pr s d xs)) (!((Ew pr s d xs) !=3)) rfl (B3 rfl Ae) rfl (fun hg36=>?_) ?_
     ·refine Bh (t:=60) (v0:=pV p6 2) (lz (g:= !((Ew pr s d xs) !=3)) (u:=undef) hg36 Ae) ?_
      exact An p6 2 0 0 Tryz.isAgg24
     refine Am (v:=bV (((d:Nat):Int)==(E9 pr s d xs:Int))) (!((Ew pr s d xs) !=3)) rfl (B3 rfl Ae) rfl (fun hg37=>?_) ?_
     ·refine Bh (t:=59) (v0:=nV .u32 d) (lz (g:= !((Ew pr s d xs) !=3)) (u:=undef) hg37 Ae) (Bh (t:=61) (v0:=nV .u32 (E9 pr s d xs)) (lz (g:= !((Ew pr s d xs) !=3)) (u:=undef) hg37 Ae) ?_)
      exact Ys.p
     refine Ah (v:=bV (((Ew pr s d xs) !=3)||(((d:Nat):Int)==(E9 pr s d xs:Int)))) (Dr (e:=(Ew pr s d xs) !=3) (b:=(d:Int)==(E9 pr s d xs:Int)) rfl Ae Ae Ae) (Ac (hK33 _ _ _ ?_))
     refine Ao (((Ew pr s d xs) !=3)||(((d:Nat):Int)==(E9 pr s d xs:Int))) Ae (fun h39=>?_) (fun h40=>?_)
     ·have qh39:=h39;try simp only[zA]at qh39
      refine Aa (Ab 1 (Ah (An p3 2 2 0 Tryz.isAgg24) (Ab 1 (Ai rfl (Bg p2 4 3 0 (nV .u32 fd) Tryz.sizeOf24 rfl rfl) (fun _=>?_)))))
      refine Ac ?_
      refine fun w_ h_=>hJ30 _ w_ trivial Ae (Mem.cast (LL:=[Q2u d p6 s pr xs,Q2v p4,Q2w fd ff fs ft p3 fp,[cb p2 [nV .u8 tt.toNat,nV .u8 pr.toNat,nV .u16 id,nV .u32 (Nl s (E4 pr s d xs) fs),nV .u32 fd,Value.slice a xs.length cap] 40]]) (by unfold Nl;rw[show(((d:Nat):Int)==(E9 pr s d xs:Int))=true from by have z_:=h39;rw[hk3]at z_;simpa using z_];rfl) h_)
     ·have qh40:=h40;try simp only[zA]at qh40
      refine Ak ?_
      refine fun w_ h_=>hJ30 _ w_ trivial Ae (Mem.cast (LL:=[Q2u d p6 s pr xs,Q2v p4,Q2w fd ff fs ft p3 fp,[cb p2 [nV .u8 tt.toNat,nV .u8 pr.toNat,nV .u16 id,nV .u32 (Nl s (E4 pr s d xs) fs),nV .u32 d,Value.slice a xs.length cap] 40]]) (by unfold Nl;rw[show(((d:Nat):Int)==(E9 pr s d xs:Int))=false from by have z_:=h40;rw[hk3]at z_;simpa using z_];rfl) h_)
    ·refine hK29 _ _ _ (Ad (fun K41 hK41=>?_))
     refine Ad (fun K42 hK42=>Aa (Ab 1 (Ah (An p2 1 3 0 Tryz.isAgg5) (Ac ?_))))
     refine hK42 _ _ _ (W.block (Ad (fun K44 hK44=>Aa (Ab 2 ?_))))
     refine Ac (hK44 _ _ _ ?_)
     refine Ao (((pr.toNat:Nat):Int)==6) Ae (fun h46=>?_) (fun h47=>?_)
     ·(exfalso;have z_:=h46;rw[hK3_.p1]at z_;exact absurd z_ Al)
     ·have qh47:=h47;try simp only[zA]at qh47
      refine Ad (fun K48 hK48=>Aa (Ab 2 (Ac (hK48 _ _ _ ?_))))
      refine Ao (((pr.toNat:Nat):Int)==17) Ae (fun h50=>?_) (fun h51=>?_)
      ·(exfalso;have z_:=h50;rw[hK3_.p1]at z_;exact absurd z_ Al)
      ·have qh51:=h51;try simp only[zA]at qh51
       refine Ad (fun K52 hK52=>Aa (Ab 1 (Ax rfl (Au [] [0,1,2,3] (fun w_ hm_ hl_=>(Pk xs a cap xs.length _ Ac7 (hat.mem0 hm_) Ex Ex))) (fun g53 ok54=>Ab 3 ?_))))
       refine Ai rfl (Bc Tryz.zeroValue132) (fun p16=>Ai rfl (A4 p16 0 0 0 [nV .u8 ((mT xs 0).toNat),nV .u8 ((mT xs 1).toNat),nV .u32 (mN xs),sV g53 ((mD xs).length)] Tryz.sizeOf132 rfl rfl) (fun _=>?_))
       refine Ab 1 (Ac (hK52 _ _ _ (Ad (fun K57 hK57=>Ad (fun K58 hK58=>?_)))))
       refine Aa (Ab 2 (Ac (hK58 _ _ _ ?_)))
       refine Ao ((Ew pr s d xs)==3) Ae (fun h60=>?_) (fun h61=>?_)
       ·have qh60:=h60;try simp only[zA]at qh60
        refine E2 [0,2,4,7] (Mem w [] [g53.seg 5 (mc b8 (mD xs)),Q2u d p6 s pr xs,Q2v p4,Q2w fd ff fs ft p3 fp,[cb p2 [nV .u8 tt.toNat,nV .u8 pr.toNat,nV .u16 id,nV .u32 (Nl s (E4 pr s d xs) fs),nV .u32 (Nl d (E9 pr s d xs) fd),sL a xs.length cap] 40]]) Ae Ae (fun _ _ h_=>h_.drawn _) ?_
        refine Dw (w0:=w) (M:=[]) [2,4,16,77,79,81] (fun(z75:Unit)=>[pV p2 0,pV p4 0,pV p16 0,sV g53 ((mD xs).length),aV (Q2y d s pr xs),aV [nV .u8 fp.toNat,nV .u32 fd,nV .u32 fs,nV .u16 ft,nV .u16 ff]]) (fun(z75:Unit)=>True) (fun(z75:Unit)=>[[cb p16 [nV .u8 ((mT xs 0).toNat),nV .u8 ((mT xs 1).toNat),nV .u32 (mN xs),sV g53 ((mD xs).length)] 132],g53.seg 5 (mc b8 (mD xs)),Q2u d p6 s pr xs,Q2v p4,Q2w fd ff fs ft p3 fp,[cb p2 [nV .u8 tt.toNat,nV .u8 pr.toNat,nV .u16 id,nV .u32 (Nl s (E4 pr s d xs) fs),nV .u32 (Nl d (E9 pr s d xs) fd),sL a xs.length cap] 40]]) 3 #[true,true,true,true,true,true,false,false,false] (fun z75 hp76 f77=>?_) (fun JD72=>?_)
        ·refine A3 (i:=6) Ae ?_
         have hq82:(M7 (Gn pr s d xs) (E9 pr s d xs) (E4 pr s d xs) (Hv pr s d xs) (Hu pr s d xs) fd fs ft ff (mD xs)).length=(mD xs).length:=Oc ..
         refine Bv rfl rfl (Au [] [0,1,2,3,4,5] (fun w_ hm_ hl_=>(Y4 (mD xs) g53.a g53.cap (Gn pr s d xs) (E9 pr s d xs) (E4 pr s d xs) (Hv pr s d xs) (Hu pr s d xs) fp fd fs ft ff ((mD xs).length) _ Ac7 (FS.at (i:=1) (t:=5) hm_ rfl (Aj ok54 (Ba _))) hl28_ Ag (by have z_:=ok54.le;first|exact z_|omega|(simp at z_⊢;omega)) (by first|omega|assumption) (by first|omega|assumption) (by first|omega|assumption) (by first|omega|assumption) (by first|omega|assumption) (by first|omega|assumption) (by first|omega|assumption) (by first|omega|assumption)))) (.inr fun _ _ h_=>h_.pick [2,3,4,5,6] Al rfl) (fun g78 hx83=>?_)
         obtain⟨ok79,nn80⟩:=hx83
         refine Wa.ys (v:=pV p16 3) (i:=7) Ae Ae Ae Ae (fun _ h_=>h_.pick [2,3,4,5,6] Al rfl) rfl rfl rfl (Ys.p) (A3 (i:=8) Ae (Ch rfl rfl (Bg p16 3 1 0 (sV g78 ((mD xs).length)) Tryz.sizeOf38 rfl rfl) (.inl Ae) (fun _=>D1 Ae (hK57 _ _ _ ?_))))
         refine Ap [0,1,4,6] Al rfl (Aa (Ah (A0 p16 0 1 0 [nV .u8 ((mT xs 0).toNat),nV .u8 ((mT xs 1).toNat),nV .u32 (mN xs),sV g78 ((mD xs).length)] Tryz.isAgg132 Tryz.sizeOf132) ?_))
         have hl88:=Ab1 (mT xs 0) (mT xs 1) (mN xs) (M7 (Gn pr s d xs) (E9 pr s d xs) (E4 pr s d xs) (Hv pr s d xs) (Hu pr s d xs) fd fs ft ff (mD xs))
         refine Ax rfl (Au [] [0,1,2,3] (fun w_ hm_ hl_=>(Pj (mT xs 0) (mT xs 1) (mN xs) (M7 (Gn pr s d xs) (E9 pr s d xs) (E4 pr s d xs) (Hv pr s d xs) (Hu pr s d xs) fd fs ft ff (mD xs)) g78.a g78.cap ((mD xs).length) _ Ac7 (FS.at (i:=0) (t:=5) hm_ rfl (Aj ok79 (by rw[Da,Oc,Nat.mul_one]))) (by first|omega|exact Nat.or_lt_two_pow (n:=32) Ag Ag) Ef (by have z_:=ok79.le;first|exact z_|omega|(simp at z_⊢;omega))))) (fun g85 ok86=>Ab 4 (Ai rfl (Bg p2 5 4 0 (sV g85 ((mB (mT xs 0) (mT xs 1) (mN xs) (M7 (Gn pr s d xs) (E9 pr s d xs) (E4 pr s d xs) (Hv pr s d xs) (Hu pr s d xs) fd fs ft ff (mD xs))).length)) Tryz.sizeOf38 rfl rfl) (fun _=>Ab 1 (Ac ?_))))
         refine hK41 _ _ _ (Ap [0,3,4] Al rfl (Ad (fun K90 hK90=>Ad (fun K91 hK91=>Aa ?_))))
         refine Ab 2 (Ac (hK91 _ _ _ ?_))
         refine Ao ((uE (M7 (Gn pr s d xs) (E9 pr s d xs) (E4 pr s d xs) (Hv pr s d xs) (Hu pr s d xs) fd fs ft ff (mD xs)).length) !=0) Ae (fun h93=>?_) (fun h94=>?_)
         ·(exfalso;have z_:=h93;rw[Oc,S1]at z_;exact absurd z_ Al)
         ·have qh94:=h94;try simp only[zA]at qh94
          refine Ak (hK90 _ _ _ (Ad (fun K96 hK96=>Aa (Ah (A0 p2 0 2 0 [nV .u8 tt.toNat,nV .u8 pr.toNat,nV .u16 id,nV .u32 (Nl s (E4 pr s d xs) fs),nV .u32 (Nl d (E9 pr s d xs) fd),sV g85 ((mB (mT xs 0) (mT xs 1) (mN xs) (M7 (Gn pr s d xs) (E9 pr s d xs) (E4 pr s d xs) (Hv pr s d xs) (Hu pr s d xs) fd fs ft ff (mD xs))).length)] Tryz.isAgg40 Tryz.sizeOf40) ?_))))
          refine Ai rfl (A4 p4 0 1 0 [nV .u8 tt.toNat,nV .u8 pr.toNat,nV .u16 id,nV .u32 (Nl s (E4 pr s d xs) fs),nV .u32 (Nl d (E9 pr s d xs) fd),sV g85 ((mB (mT xs 0) (mT xs 1) (mN xs) (M7 (Gn pr s d xs) (E9 pr s d xs) (E4 pr s d xs) (Hv pr s d xs) (Hu pr s d xs) fd fs ft ff (mD xs))).length)] Tryz.sizeOf40 rfl rfl) (fun _=>Ab 1 (Ac (hK96 _ _ _ (Ap [0,1] Al rfl ?_))))
          refine Aq (fn:=Tryz.f45) rfl ?_
          have hB:rx3 pr s d xs fs fd ff ft=mB (mT xs 0) (mT xs 1) (mN xs) (M7 (Gn pr s d xs) (E9 pr s d xs) (E4 pr s d xs) (Hv pr s d xs) (Hu pr s d xs) fd fs ft ff (mD xs)):=rfl
          exact fun w_ hS_=>B9 rfl (Bq p4 0 1 0 [nV .u8 tt.toNat,nV .u8 pr.toNat,nV .u16 id,nV .u32 (Nl s (E4 pr s d xs) fs),nV .u32 (Nl d (E9 pr s d xs) fd),sV g85 ((mB (mT xs 0) (mT xs 1) (mN xs) (M7 (Gn pr s d xs) (E9 pr s d xs) (E4 pr s d xs) (Hv pr s d xs) (Hu pr s d xs) fd fs ft ff (mD xs))).length)] Tryz.isAgg40 Tryz.sizeOf40) (Aw (iV .i64 0)) hS_ ⟨g85,(by rw[hB];exact ok86),congrArg Ending.returned ((by rw[hB])),(Mem.cast (by rw[hB];rfl) (hS_.pick [0] Al rfl))⟩
        ·refine Dw (w0:=w) (M:=[]) [2,4,16,77,79,80] (fun(z98:Unit)=>[pV p2 0,pV p4 0,pV p16 0,sV g53 ((mD xs).length),aV (Q2y d s pr xs),aV [nV .u8 fp.toNat,nV .u32 fs,nV .u32 fd,nV .u16 ff,nV .u16 ft]]) (fun(z98:Unit)=>True) (fun(z98:Unit)=>[[cb p16 [nV .u8 ((mT xs 0).toNat),nV .u8 ((mT xs 1).toNat),nV .u32 (mN xs),sV g53 ((mD xs).length)] 132],g53.seg 5 (mc b8 (mD xs)),Q2u d p6 s pr xs,Q2v p4,Q2w fd ff fs ft p3 fp,[cb p2 [nV .u8 tt.toNat,nV .u8 pr.toNat,nV .u16 id,nV .u32 (Nl s (E4 pr s d xs) fs),nV .u32 (Nl d (E9 pr s d xs) fd),sL a xs.length cap] 40]]) 4 #[true,true,true,true,true,false,false,false,false] (fun z98 hp99 f100=>?_) (fun JD70=>?_)
         ·refine A3 (i:=5) Ae (Wo.yc (v:=aV [nV .u8 fp.toNat,nV .u32 fd,nV .u32 fs,nV .u16 ft,nV .u16 ff]) rfl rfl rfl (A9 (fun w_ hm_=>(Kw fp fs fd ff ft _))) (.inr fun _ h_=>h_.pick [1,2,3,4,5] Al rfl) ?_)
          exact Cb [2,4,16,77,79,81] [pV p2 0,pV p4 0,pV p16 0,sV g53 ((mD xs).length),aV [nV .u8 ((Gn pr s d xs).toNat),nV .u32 (E9 pr s d xs),nV .u32 (E4 pr s d xs),nV .u16 (Hv pr s d xs),nV .u16 (Hu pr s d xs)],aV [nV .u8 fp.toNat,nV .u32 fd,nV .u32 fs,nV .u16 ft,nV .u16 ff]] #[true,true,true,true,true,true,false,false,false] (JD72 () trivial) Ae Ae (fun _ h_=>h_)
         ·refine Wa.ys (v:=pV p16 3) (i:=0) Ae Ae Ae Ae (fun _ h_=>h_.pick [1,2,3,4,5] Al rfl) rfl rfl rfl (Ys.p) (Wa.ys (v:=aV (Q2x d s pr xs)) (i:=2) Ae Ae Ae Ae (fun _ h_=>h_.pick [1,2,3,4,5] Al rfl) rfl rfl rfl (A0 p6 0 1 0 (Q2x d s pr xs) Tryz.isAgg47 Tryz.sizeOf47) (Wa.ys (v:=aV [nV .u8 fp.toNat,nV .u32 fs,nV .u32 fd,nV .u16 ff,nV .u16 ft]) (i:=4) Ae Ae Ae Ae (fun _ h_=>h_.pick [1,2,3,4,5] Al rfl) rfl rfl rfl (A0 p3 0 3 0 [nV .u8 fp.toNat,nV .u32 fs,nV .u32 fd,nV .u16 ff,nV .u16 ft] Tryz.isAgg47 Tryz.sizeOf47) ?_))
          refine C3 (i:=1) (j:=3) Ae ?_ ?_
          ·refine Wo.yc (v:=sV g53 ((mD xs).length)) rfl rfl rfl (Ys.yc (An p16 3 0 0 Tryz.isAgg38)) (.inr fun _ h_=>h_.pick [1,2,3,4,5] Al rfl) (A3 (i:=3) Ae (Wo.yc (v:=aV (Q2y d s pr xs)) rfl rfl rfl (A9 (fun w_ hm_=>(Kw (Gn pr s d xs) (E4 pr s d xs) (E9 pr s d xs) (Hu pr s d xs) (Hv pr s d xs) _))) (.inr fun _ h_=>h_.pick [1,2,3,4,5] Al rfl) ?_))
           exact Cb [2,4,16,77,79,80] [pV p2 0,pV p4 0,pV p16 0,sV g53 ((mD xs).length),aV [nV .u8 ((Gn pr s d xs).toNat),nV .u32 (E9 pr s d xs),nV .u32 (E4 pr s d xs),nV .u16 (Hv pr s d xs),nV .u16 (Hu pr s d xs)],aV [nV .u8 fp.toNat,nV .u32 fs,nV .u32 fd,nV .u16 ff,nV .u16 ft]] #[true,true,true,true,true,false,false,false,false] (JD70 () trivial) Ae Ae (fun _ h_=>h_)
          ·refine Wo.yc (v:=aV (Q2y d s pr xs)) rfl rfl rfl (A9 (fun w_ hm_=>(Kw (Gn pr s d xs) (E4 pr s d xs) (E9 pr s d xs) (Hu pr s d xs) (Hv pr s d xs) _))) (.inr fun _ h_=>h_.pick [1,2,3,4,5] Al rfl) ?_
           refine C3 (i:=1) (j:=5) Ae ?_ ?_
           ·refine Wo.yc (v:=sV g53 ((mD xs).length)) rfl rfl rfl (Ys.yc (An p16 3 0 0 Tryz.isAgg38)) (.inr fun _ h_=>h_.pick [1,2,3,4,5] Al rfl) ?_
            exact Cb [2,4,16,77,79,80] [pV p2 0,pV p4 0,pV p16 0,sV g53 ((mD xs).length),aV [nV .u8 ((Gn pr s d xs).toNat),nV .u32 (E9 pr s d xs),nV .u32 (E4 pr s d xs),nV .u16 (Hv pr s d xs),nV .u16 (Hu pr s d xs)],aV [nV .u8 fp.toNat,nV .u32 fs,nV .u32 fd,nV .u16 ff,nV .u16 ft]] #[true,true,true,true,true,false,false,false,false] (JD70 () trivial) Ae Ae (fun _ h_=>h_)
           ·refine Wo.yc (v:=aV [nV .u8 fp.toNat,nV .u32 fd,nV .u32 fs,nV .u16 ft,nV .u16 ff]) rfl rfl rfl (A9 (fun w_ hm_=>(Kw fp fs fd ff ft _))) (.inr fun _ h_=>h_.pick [1,2,3,4,5] Al rfl) (A3 (i:=1) Ae (Wo.yc (v:=sV g53 ((mD xs).length)) rfl rfl rfl (Ys.yc (An p16 3 0 0 Tryz.isAgg38)) (.inr fun _ h_=>h_.pick [1,2,3,4,5] Al rfl) ?_))
            exact Cb [2,4,16,77,79,81] [pV p2 0,pV p4 0,pV p16 0,sV g53 ((mD xs).length),aV [nV .u8 ((Gn pr s d xs).toNat),nV .u32 (E9 pr s d xs),nV .u32 (E4 pr s d xs),nV .u16 (Hv pr s d xs),nV .u16 (Hu pr s d xs)],aV [nV .u8 fp.toNat,nV .u32 fd,nV .u32 fs,nV .u16 ft,nV .u16 ff]] #[true,true,true,true,true,true,false,false,false] (JD72 () trivial) Ae Ae (fun _ h_=>h_)
       ·(exfalso;have z_:=h61;rw[hk3]at z_;exact absurd z_ Al)
open Conf (Fwd fwv)
def Uo(pr:UInt8)(s d:Nat)(xs:List UInt8):Int:=bif G1 pr then((tL s d xs).toNat:Int)else 0
def bgA(pr:UInt8)(s d:Nat)(xs:List UInt8):Bool:= !G1 pr||((Cn .u8 (Uo pr s d xs) 22)==2)
theorem Up(tt pr:UInt8)(id s d:Nat)(xs:List UInt8)(a:Option Addr)(cap:Nat)(w:World)(hat:At w a (Ci xs))(hi:id<65536)(hs:s<4294967296)(hd:d<4294967296)(hl:xs.length≤100000)(hlc:xs.length≤cap):Calls Tryz.prog 88 #[aV [nV .u8 tt.toNat,nV .u8 pr.toNat,nV .u16 id,nV .u32 s,nV .u32 d,sL a xs.length cap]] w (Dc w (.tuple #[.int .u8 (Uo pr s d xs),.bool (G1 pr)])):=by
 refine Ar (M:=[]) (LL:=[]) (n:=21) Tryz.func88 rfl rfl A5 (Mem.refl _) (Ad (fun K1 hK1=>?_))
 refine Aa (Ai rfl (Bx [nV .u8 tt.toNat,nV .u8 pr.toNat,nV .u16 id,nV .u32 s,nV .u32 d,sL a xs.length cap] rfl) (fun p1=>?_))
 refine Ab 2 (Ac (hK1 _ _ _ (Ad (fun K3 hK3=>Ad (fun K4 hK4=>?_)))))
 refine Aa (Ab 1 (Ah (An p1 1 0 0 Tryz.isAgg5) (Ab 1 (Ac ?_))))
 refine hK4 _ _ _ ?_
 refine Ao (((pr.toNat:Nat):Int) !=6) Ae (fun h6=>?_) (fun h7=>?_)
 ·refine Ad (fun K8 hK8=>Aa (Ab 2 (Ac (hK8 _ _ _ ?_))))
  refine Ap [] Al rfl (Aq (fn:=Tryz.f88) rfl ?_)
  have hT_:G1 pr=false:=by have z_:(!G1 pr)=true:=h6;cases h:G1 pr<;>rw[h]at z_<;>first|rfl|cases z_
  exact fun w_ hS_=>B9 rfl (Aw (iV .u8 0)) (Aw (bV false)) hS_ ⟨by clear hK1 hK3 hK4 hK8;refine congrArg Ending.returned ?_;unfold Uo;rw[hT_];rfl,hS_.below⟩
 ·have qh7:=h7;try simp only[zA]at qh7
  refine Ak (hK3 _ _ _ (Ad (fun K11 hK11=>Aa (Ab 1 ?_))))
  refine Ah (An p1 3 0 0 Tryz.isAgg24) (Ab 1 (Ah (An p1 4 0 0 Tryz.isAgg24) (Ab 1 (Ah (An p1 5 0 0 Tryz.isAgg38) ?_))))
  refine Ax rfl (Au [] [0] (fun w_ hm_ hl_=>(Sy s d xs a cap xs.length _ I7 (hat.mem0 hm_) Ag Ag Ex Ex))) (fun gg12 hx16=>?_)
  obtain⟨ok13,ok14⟩:=hx16
  refine Ab 3 (Ai rfl (Bc Tryz.zeroValue126) (fun p4=>?_))
  refine Ai rfl (A4 p4 0 0 0 [nV .u16 (tF s d xs 0),nV .u16 (tF s d xs 2),nV .u32 (tW s d xs 4),nV .u32 (tW s d xs 8),nV .u8 ((tL s d xs).toNat),nV .u16 (tF s d xs 14),nV .u16 (tF s d xs 18),sL gg12.1.a ((tO s d xs).length) gg12.1.cap,sL gg12.2.a ((tD s d xs).length) gg12.2.cap] Tryz.sizeOf126 rfl rfl) (fun _=>Ab 1 (Ac (hK11 _ _ _ (Ap [0,1,2] Al rfl ?_))))
  refine Ad (fun K18 hK18=>Aa (Ab 1 (Ah (An p4 4 0 0 Tryz.isAgg5) (Ab 2 ?_))))
  refine Ac (hK18 _ _ _ (Ap [] Al rfl (Aq (fn:=Tryz.f88) rfl ?_)))
  have hT_:G1 pr=true:=by have z_:(!G1 pr)=false:=h7;cases h:G1 pr<;>rw[h]at z_<;>first|rfl|cases z_
  exact fun w_ hS_=>B9 rfl (Aw (nV .u8 ((tL s d xs).toNat))) (Aw (bV true)) hS_ ⟨by clear hK1 hK3 hK4 hK11 hK18;refine congrArg Ending.returned ?_;unfold Uo;rw[hT_];rfl,hS_.below⟩
theorem Y5(tt pr:UInt8)(id s d:Nat)(xs:List UInt8)(a:Option Addr)(cap:Nat)(w:World)(hat:At w a (Ci xs))(hi:id<65536)(hs:s<4294967296)(hd:d<4294967296)(hl:xs.length≤100000)(hlc:xs.length≤cap):Calls Tryz.prog 99 #[aV [nV .u8 tt.toNat,nV .u8 pr.toNat,nV .u16 id,nV .u32 s,nV .u32 d,sL a xs.length cap]] w (Dc w (.bool (bgA pr s d xs))):=by
 refine Ar (M:=[]) (LL:=[]) (n:=16) Tryz.func99 rfl rfl A5 (Mem.refl _) (Ad (fun K1 hK1=>?_))
 refine Aa (Ai rfl (Bx [nV .u8 tt.toNat,nV .u8 pr.toNat,nV .u16 id,nV .u32 s,nV .u32 d,sL a xs.length cap] rfl) (fun p1=>?_))
 refine Ab 1 (Ac (hK1 _ _ _ (Ad (fun K3 hK3=>Aa ?_))))
 refine Ah (A0 p1 0 0 0 [nV .u8 tt.toNat,nV .u8 pr.toNat,nV .u16 id,nV .u32 s,nV .u32 d,sL a xs.length cap] Tryz.isAgg40 Tryz.sizeOf40) (B0 (v:=Value.tuple #[iV .u8 (Uo pr s d xs),bV (G1 pr)]) (A9 (fun w_ hm_=>(Up tt pr id s d xs a cap _ (hat.mem0 hm_) hi hs hd hl hlc))) (Ab 5 (Ac (hK3 _ _ _ ?_))))
 refine Ap [] Al rfl (Ad (fun K5 hK5=>?_))
 refine Aa (Ab 3 ?_)
 refine Am (v:=iV .u8 (Uo pr s d xs)) (!(!(G1 pr))) rfl (B3 rfl Ae) rfl (fun hg6=>?_) ?_
 ·exact Ys.p
 refine Dn (v:=bV ((Cn .u8 (Uo pr s d xs) 22)==2)) (!(!(G1 pr))) rfl (B3 rfl Ae) rfl (fun hg7=>?_) ?_
 ·refine Eh (t:=13) (v0:=iV .u8 (Uo pr s d xs)) (lz (g:= !(!(G1 pr))) (u:=undef) hg7 Ae) ?_
  exact A9 (fun w_ hm_=>(Abh (Uo pr s d xs) _))
 refine Ah (v:=bV ((!(G1 pr))||((Cn .u8 (Uo pr s d xs) 22)==2))) (Dr (e:= !(G1 pr)) (b:=(Cn .u8 (Uo pr s d xs) 22)==2) rfl Ae Ae Ae) (Ab 1 (Ac (hK5 _ _ _ (Aq (fn:=Tryz.f99) rfl (fun w_ hS_=>Bb rfl (Aw (bV ((!(G1 pr))||((Cn .u8 (Uo pr s d xs) 22)==2)))) hS_ ⟨rfl,hS_.below⟩)))))
def rwY(pr:UInt8)(s d:Nat)(xs:List UInt8)(g:B2):Int:=bif Ew pr s d xs==3 then 0 else Xq pr s d xs (Gn pr s d xs)
section
variable {w:World}{M:List Nat}{tt pr:UInt8}{id s d:Nat}{xs:List UInt8}{a:Option Addr}{cap:Nat}
theorem S2(hat:At w a (Ci xs))(hne:0<(Ci xs).length→(a.getD default).block∉M)(hi:id<65536)(hs:s<4294967296)(hd:d<4294967296)(hl:xs.length≤100000)(hlc:xs.length≤cap): ∀LL w1,Mem w M LL w1→Calls Tryz.prog 41 #[N6 (((tt.toNat:Nat):Int)) (((pr.toNat:Nat):Int)) (id:Int) (s:Int) (d:Int) a xs.length cap] w1 (Dc w1 (.tuple #[.agg [.int .u8 ((Gn pr s d xs).toNat:Int),.int .u32 (E4 pr s d xs:Int),.int .u32 (E9 pr s d xs:Int),.int .u16 (Hu pr s d xs:Int),.int .u16 (Hv pr s d xs:Int)].toArray,.int .i64 (Ew pr s d xs),.int .i64 (Ij pr s d xs)])):=fun LL w1 hm=>Amf tt pr id s d xs a cap w1 (hat.mem' hm hne) hi hs hd hl hlc
theorem S3(hat:At w a (Ci xs))(hne:0<(Ci xs).length→(a.getD default).block∉M)(hi:id<65536)(hs:s<4294967296)(hd:d<4294967296)(hl:xs.length≤100000)(hlc:xs.length≤cap): ∀LL w1,Mem w M LL w1→Calls Tryz.prog 99 #[N6 (((tt.toNat:Nat):Int)) (((pr.toNat:Nat):Int)) (id:Int) (s:Int) (d:Int) a xs.length cap] w1 (Dc w1 (.bool (bgA pr s d xs))):=fun LL w1 hm=>Y5 tt pr id s d xs a cap w1 (hat.mem' hm hne) hi hs hd hl hlc
theorem S4(hat:At w a (Ci xs))(hne:0<(Ci xs).length→(a.getD default).block∉M)(hi:id<65536)(hs:s<4294967296)(hd:d<4294967296)(hl:xs.length≤100000)(hlc:xs.length≤cap): ∀LL w1,Mem w M LL w1→Calls Tryz.prog 88 #[N6 (((tt.toNat:Nat):Int)) (((pr.toNat:Nat):Int)) (id:Int) (s:Int) (d:Int) a xs.length cap] w1 (Dc w1 (.tuple #[.int .u8 (Uo pr s d xs),.bool (G1 pr)])):=fun LL w1 hm=>Up tt pr id s d xs a cap w1 (hat.mem' hm hne) hi hs hd hl hlc
theorem S5(hat:At w a (Ci xs))(hne:0<(Ci xs).length→(a.getD default).block∉M)(hl:xs.length≤100000)(hlc:xs.length≤cap): ∀LL w1,Mem w M LL w1→Calls Tryz.prog 42 #[N6 (((tt.toNat:Nat):Int)) (((pr.toNat:Nat):Int)) (id:Int) (s:Int) (d:Int) a xs.length cap] w1 (Dc w1 (.bool ((((mT xs 0).toNat:Nat):Int) !=0))):=fun LL w1 hm=>Ab5 _ _ _ _ _ xs a cap w1 (hat.mem' hm hne) hl hlc
theorem Od(hs:s<4294967296)(hd:d<4294967296):RngFl ((((Gn pr s d xs).toNat:Nat):Int),(E4 pr s d xs:Int),(E9 pr s d xs:Int),(Hu pr s d xs:Int),(Hv pr s d xs:Int)):=by
  have h1:=UInt8.toNat_lt (Gn pr s d xs);have h2:=Acg (pr:=pr) (d:=d) (xs:=xs) hs;have h3:=Ach (pr:=pr) (s:=s) (xs:=xs) hd;have h4:=Acf pr s d xs;have h5:=Vw pr s d xs
  refine⟨⟨?_,?_⟩,⟨?_,?_⟩,⟨?_,?_⟩,⟨?_,?_⟩,?_,?_⟩<;>(show _≤_;dsimp only;omega)
theorem S6(hat:At w a (Ci xs))(hne:0<(Ci xs).length→(a.getD default).block∉M)(hi:id<65536)(hs:s<4294967296)(hd:d<4294967296)(hl:xs.length≤100000)(hlc:xs.length≤cap): ∀g LL w1,Mem w M LL w1→RngFl g→g.1=((Gn pr s d xs).toNat:Int)→Calls Tryz.prog 45 #[N6 (((tt.toNat:Nat):Int)) (((pr.toNat:Nat):Int)) (id:Int) (s:Int) (d:Int) a xs.length cap,flV g] w1 (Bj w1 (fun x:PkV×List Blk=>True) (fun x=>.tuple #[x.1.v,.int .i64 (rwY pr s d xs g)]) [] (fun x=>[x.2])):=fun g LL w1 hm hg hp=>by
  obtain⟨g1,g2,g3,g4,g5⟩:=g
  obtain⟨⟨a1,b1⟩,⟨a2,b2⟩,⟨a3,b3⟩,⟨a4,b4⟩,⟨a5,b5⟩⟩:=hg
  obtain⟨q2,rfl⟩:=Int.eq_ofNat_of_zero_le a2
  obtain⟨q3,rfl⟩:=Int.eq_ofNat_of_zero_le a3
  obtain⟨q4,rfl⟩:=Int.eq_ofNat_of_zero_le a4
  obtain⟨q5,rfl⟩:=Int.eq_ofNat_of_zero_le a5
  simp only at hp b2 b3 b4 b5
  subst hp
  by_cases h3:Ew pr s d xs=3
  · have h:=Amn tt pr id s d xs a cap (Gn pr s d xs) q2 q3 q4 q5 w1 h3 rfl Ag Ag Ag Ag (hat.mem' hm hne) hi hs hd hl hlc
    refine Calls.mono h ?_
    rintro e w' ⟨x,hx,rfl,hm'⟩
    exact⟨(⟨(tt.toNat:Int),(pr.toNat:Int),(id:Int),_,_,x.a,_,x.cap⟩,_),trivial,(by unfold rwY;rw[h3];rfl),hm'⟩
  · have h:=Amj tt pr id s d xs a cap (Gn pr s d xs) q2 q3 q4 q5 w1 h3 Ag Ag Ag Ag (hat.mem' hm hne) hi hs hd hl hlc
    refine Calls.mono h ?_
    rintro e w' ⟨x,hx,rfl,hm'⟩
    exact⟨(⟨_,_,_,_,_,x.a,_,x.cap⟩,_),trivial,(by unfold rwY;rw[beq_false_of_ne h3];rfl),hm'⟩
end
end Go.Proofs.YtmonlaoaengfdaaGreatDoor.Oct
