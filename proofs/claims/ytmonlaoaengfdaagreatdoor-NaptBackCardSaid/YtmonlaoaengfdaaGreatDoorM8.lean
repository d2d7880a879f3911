import Derived.Test.YtmonlaoaengfdaaGreatDoorM7
import Derived.Test.YtmonlaoaengfdaaGreatDoorM1
set_option linter.unusedVariables false
set_option linter.unusedSimpArgs false
set_option maxRecDepth 20000
namespace Go.Proofs.YtmonlaoaengfdaaGreatDoor.Oct
open Go.RowKit Base
attribute [local irreducible] Ys Yc Ht HtS HtIn Wl Wd W Mem pf D4
def fd(n:Nat):Nat:=if n=0 then 0 else(n-1)%65535+1
theorem W8(n:Nat):fd n≤65535:=by unfold fd;split<;>omega
theorem O5{n:Nat}(h:n≤65535):fd n=n:=by unfold fd;split<;>omega
theorem Aev{m:Nat}(h:65535<m):fd (m/65536+m%65536)=fd m:=by
  unfold fd
  rw[if_neg Ag,if_neg Ag]
  omega
def Dy(xs:List UInt8):Nat:=65535-fd (pw xs).sum
theorem O6{ns:List Nat}{k:Nat}(h:k<ns.length):(ns.take (k+1)).sum=(ns.take k).sum+ns.getD k 0:=by
  rw[List.take_add_one,List.sum_append];simp[h]
theorem M6(ns:List Nat)(h: ∀k,ns.getD k 0<65536)(k:Nat):(ns.take k).sum≤65535*k:=by
  induction k with
  |zero=>simp
  |succ k ih=>
    rcases Nat.lt_or_ge k ns.length with hk|hk
    · rw[O6 hk];have:=h k;omega
    · rw[List.take_of_length_le Ag]at ih⊢;omega
theorem Aa2(n:Nat)(w:World)(hn:n<18446744073709551616):Calls Tryz.prog 178 #[nV .u64 n] w (Dc w (.int .u16 (fd n:Int))):=by
 refine Ar (M:=[]) (LL:=[]) (n:=12) Tryz.func178 rfl rfl A5 (Mem.refl _) (Ad (fun K1 hK1=>?_))
 refine Aa (Ab 1 (Ac (hK1 _ _ _ (Ad (fun K2 hK2=>?_)))))
 refine W.block (Ep [0] (fun(m:Nat)=>[nV .u64 m]) (fun(m:Nat)=>fd m=fd n∧m<18446744073709551616) (fun(m:Nat)=>[]) (fun(m:Nat)=>m) n Ae ⟨rfl,hn⟩ (by rfl) (fun m f4 J3 hp5 hJ3=>?_))
 obtain⟨hf,hlt⟩:=hp5
 refine Ad (fun K6 hK6=>Ad (fun K7 hK7=>?_))
 refine Aa (Ab 2 (Ac (hK7 _ _ _ ?_)))
 refine Ao (decide (((m:Nat):Int)>65535)) Ae (fun h9=>?_) (fun h10=>?_)
 ·have qh9:=h9;try simp only[zA]at qh9
  refine Ak (hK6 _ _ _ (W.block (Aa (Ab 1 ?_))))
  refine Ah (v:=nV .u64 (m/65536)) ((Ys.p (v:=.int .u64 (Jd .u64 (m:Int) ((16:Nat):Int)))).conseq (Af (El m 16 Al))) (Ab 1 (Ah (v:=nV .u64 (m%65536)) ((Ys.p (v:=.int .u64 (Cn .u64 (m:Int) ((65535:Nat):Int)))).conseq (Af (G2 rfl (a:=m) (c:=16) H0 Al 65535 rfl))) (Ah (v:=nV .u64 ((m/65536)+(m%65536))) ((Ys.p (v:=.int .u64 (Bt .u64 ((m/65536:Nat):Int) ((m%65536:Nat):Int)))).conseq (Af (E7 rfl H0))) (Ab 1 ?_))))
  refine Ac ?_
  refine fun w_ h_=>hJ3 (m/65536+m%65536) _ w_ Ag ⟨((Aev Ag).trans hf),Ag⟩ ?_ h_
  kernel_rfl
 ·have qh10:=h10;try simp only[zA]at qh10
  refine Cr (hK2 _ _ _ (Ad (fun K13 hK13=>Aa (Ab 1 ?_))))
  refine Ah (v:=nV .u16 (m%65536)) ((Ys.p (v:=.int .u16 (Cg .u16 (m:Int)))).conseq (Af (C6 rfl _))) (Ab 1 (Ac (hK13 _ _ _ (Aq (fn:=Tryz.f178) rfl (fun w_ hS_=>Bb rfl (Aw (nV .u16 (m%65536))) hS_ ⟨by clear hK1 hK2 hJ3 hK6 hK7 hK13;refine congrArg Ending.returned ?_;exact Af (by rw[←hf,O5 Ag];omega),hS_.below⟩)))))
theorem Alr(ps:List SV)(pa:Option Addr)(pcap:Nat)(w:World)(hpa:At w pa (mc Ng ps))(hp: ∀p∈ps,At w p.a (Ci p.xs))(htot:(jn ps).length≤1000000000)(hn:ps.length≤1000000000)(hpc:ps.length≤pcap):Calls Tryz.prog 147 #[sL pa ps.length pcap] w (Dc w (.int .u16 (Dy (jn ps):Int))):=by
 refine Ar (M:=[]) (LL:=[]) (n:=18) Tryz.func147 rfl rfl A5 (Mem.refl _) (Ad (fun K1 hK1=>?_))
 refine Aa (Ab 1 (Ac (hK1 _ _ _ (Ad (fun K2 hK2=>?_)))))
 refine Aa (Ai rfl (Bc Tryz.zeroValue45) (fun p3=>?_))
 refine Ai rfl (Bg p3 0 0 0 (iV .u64 0) Tryz.sizeOf45 rfl rfl) (fun _=>Ac (hK2 _ _ _ (Ad (fun K4 hK4=>Ad (fun K5 hK5=>?_)))))
 refine Aa (Ab 1 (Ax rfl (Au [] [0] (fun w_ hm_ hl_=>(Ed ps (jn ps) pa ps.length pcap ((jn ps).length) _ rfl rfl rfl (hpa.mem0 hm_) (fun p h=>(hp p h).mem0 hm_) Ag Ag Ag))) (fun g9 hx13=>?_)))
 obtain⟨ok10,nn11⟩:=hx13
 refine Ax rfl (Au [] [0,1] (fun w_ hm_ hl_=>(Aav g9.a ((jn ps).length) g9.cap _))) (fun pb14 _=>Ac (hK5 _ _ _ (W.block ?_)))
 refine Ado (σ:=Nat) (enc:=fun i=>[nV .i64 i,nV .u16 ((pw (jn ps)).getD i 0)]) (N:=(pw (jn ps)).length) (Lu:=fun(gs_:Nat)=>[[cb p3 [nV .u64 gs_] 45]]) (Li:=[[cb pb14 [sV g9 ((jn ps).length)] 38]]) (Lk:=[g9.seg 5 (mc b8 (jn ps))]) [2] [0] [1] 0 (fun i (gs_:Nat)=>gs_=((pw (jn ps)).take i).sum) (fun c_ (gs_:Nat)=>False) [9,10] Ae (fun _ _=>rfl) Al (by rfl) rfl rfl rfl (fun _=>rfl) (rfl) (fun D_ l_ ob_ w1_ hm_=>(Aa1 (jn ps) g9.a ((jn ps).length) g9.cap pb14 _ w1_ (by first|rfl|(simp;done)) (FS.at (i:=4) (t:=5) hm_ rfl (Aj ok10 (Ba _))) (fun h0=>FS.other hm_ [0,1,2,3] 4 Al rfl ok10 (Ba _) rfl h0) Ag)) ?_ ?_ ?_
 ·intro D17 l18 ob19 ob20 i s22 u23 Mu24 J25 hi26 hp27 hcv28 hJ29
  obtain⟨t,rfl⟩: ∃a_,a_=s22:=⟨_,rfl⟩
  have ht:=hp27
  have hb:=W5 (jn ps) i;have hpl:=Jn (jn ps);have htl:=M6 _ (W5 (jn ps)) i;rw[←ht]at htl
  refine Aa (Ab 1 (Ac ?_))
  refine fun w_ h_=>hJ29 _ [[cb p3 [nV .u64 t] 45]] ?_ w_ h_
  refine W.block (Aa (Ah (An p3 0 2 0 Tryz.isAgg45) (Ab 1 (Ah (v:=nV .u64 ((pw (jn ps)).getD i 0)) ((Ys.p (v:=.int .u64 (Cg .u64 (((pw (jn ps)).getD i 0:Nat):Int)))).conseq (Af (Cc Ag Ag))) ?_))))
  refine Ah (v:=nV .u64 (t+((pw (jn ps)).getD i 0))) ((Ys.p (v:=.int .u64 (Bt .u64 (t:Int) (((pw (jn ps)).getD i 0:Nat):Int)))).conseq (Af (E7 rfl H0))) (Ai rfl (Bg p3 0 2 0 (nV .u64 (t+((pw (jn ps)).getD i 0))) Tryz.sizeOf45 rfl rfl) (fun _=>?_))
  refine Ac ?_
  exact fun w_ h_=>Exists.intro (t+(pw (jn ps)).getD i 0) (And.intro (by rw[O6 Ag,←ht]) h_)
 ·intro D31 l32 ob33 s34 hp35
  obtain⟨t,rfl⟩: ∃a_,a_=s34:=⟨_,rfl⟩
  have ht:=hp35
  have hpl:=Jn (jn ps);have htl:=M6 _ (W5 (jn ps)) (pw (jn ps)).length;rw[←ht]at htl;rw[List.take_length]at ht;have hfd:=W8 t
  refine Jv (LL':=[[cb pb14 [sV g9 ((jn ps).length)] 38],g9.seg 5 (mc b8 (jn ps)),[cb p3 [nV .u64 t] 45],dB D31]) [3,4,2,0] Al rfl (hK4 _ _ _ (Ap [2,3] Al rfl (Ad (fun K37 hK37=>Aa ?_))))
  refine Ah (An p3 0 0 0 Tryz.isAgg45) (B0 (v:=nV .u16 (fd t)) (A9 (fun w_ hm_=>Aa2 t _ Ag)) (Ah (v:=nV .u16 (65535-(fd t))) ((Ys.p (v:=.int .u16 (Pv .u16 ((65535:Nat):Int) (fd t:Int)))).conseq (Af (Hb rfl H1 65535 rfl))) (Ab 1 (Ac ?_))))
  refine hK37 _ _ _ (Ap [1] Al rfl (Tj ?_))
  show∀w_,_→bodyPostM (Cy none) 0 Tryz.prog Tryz.f147 _ Exit.ret _ w_
  exact fun w_ h0_=>Jc (h0_.mark (i:=0) rfl).1 (by have hS_:Mem w [] [[⟨D31,.deferred none⟩]] _:=(h0_.mark (i:=0) rfl).2;exact Bb rfl (Aw (nV .u16 (65535-(fd t)))) hS_ ⟨by clear hK1 hK2 hK4 hK5 hK37;refine congrArg Ending.returned ?_;exact Af (by rw[ht];rfl),hS_.below⟩)
 ·intro D_ l_ ob_ c_ s_ h_;exact h_.elim
theorem Sj(ps:List SV)(zs:List UInt8)(pa:Option Addr)(len pcap n:Nat)(w:World)(hl:len=ps.length)(hz:jn ps=zs)(hn':zs.length=n)(hpa:At w pa (mc Ng ps))(hp: ∀p∈ps,At w p.a (Ci p.xs))(htot:n≤1000000000)(hn:ps.length≤1000000000)(hpc:ps.length≤pcap):
    Calls Tryz.prog 147 #[.slice pa len pcap] w (Dc w (.int .u16 (Dy zs:Int))):=by
  subst hl;subst hz;subst hn';exact Alr ps pa pcap w hpa hp htot hn hpc
theorem Aew(ps:List SV)(pa:Option Addr)(pcap:Nat)(w:World)(hpa:At w pa (mc Ng ps))(hp: ∀p∈ps,At w p.a (Ci p.xs))(htot:(jn ps).length≤1000000000)(hn:ps.length≤1000000000)(hpc:ps.length≤pcap):Calls Tryz.prog 133 #[sL pa ps.length pcap] w (Dc w (.bool (((Dy (jn ps):Nat):Int)==0))):=by
 refine Ar (M:=[]) (LL:=[]) (n:=6) Tryz.func133 rfl rfl A5 (Mem.refl _) (Ad (fun K1 hK1=>?_))
 refine Aa (Ab 1 (Ac (hK1 _ _ _ (Ad (fun K2 hK2=>?_)))))
 refine Aa (Ab 1 (B0 (v:=nV .u16 (Dy (jn ps))) (A9 (fun w_ hm_=>(Sj ps (jn ps) pa ps.length pcap ((jn ps).length) _ rfl rfl rfl (hpa.mem0 hm_) (fun p h=>(hp p h).mem0 hm_) Ag Ag Ag))) (Ab 2 (Ac ?_))))
 refine hK2 _ _ _ (Aq (fn:=Tryz.f133) rfl (fun w_ hS_=>Bb rfl (Aw (bV (((Dy (jn ps):Nat):Int)==0))) hS_ ⟨rfl,hS_.below⟩))
theorem O7(ps:List SV)(zs:List UInt8)(pa:Option Addr)(len pcap n:Nat)(w:World)(hl:len=ps.length)(hz:jn ps=zs)(hn':zs.length=n)(hpa:At w pa (mc Ng ps))(hp: ∀p∈ps,At w p.a (Ci p.xs))(htot:n≤1000000000)(hn:ps.length≤1000000000)(hpc:ps.length≤pcap):
    Calls Tryz.prog 133 #[.slice pa len pcap] w (Dc w (.bool (((Dy zs:Nat):Int)==0))):=by
  subst hl;subst hz;subst hn';exact Aew ps pa pcap w hpa hp htot hn hpc
theorem Aie(a b:Nat)(w:World)(ha:a<65536)(hb:b<65536):Calls Tryz.prog 159 #[nV .u16 a,nV .u16 b] w (Dc w (.int .u16 (fd (a+b):Int))):=by
 refine Ar (M:=[]) (LL:=[]) (n:=17) Tryz.func159 rfl rfl A5 (Mem.refl _) (Ad (fun K1 hK1=>?_))
 refine Aa (Ab 1 (Ac (hK1 _ _ _ (Ad (fun K2 hK2=>?_)))))
 refine Aa (Ab 1 (Ah (v:=nV .i64 a) ((Ys.p (v:=.int .i64 (Cg .i64 (a:Int)))).conseq (Af (Cz Ag Ag))) (Ab 1 (Ah (v:=nV .i64 b) ((Ys.p (v:=.int .i64 (Cg .i64 (b:Int)))).conseq (Af (Cz Ag Ag))) ?_))))
 refine Ah (v:=nV .i64 (a+b)) ((Ys.p (v:=.int .i64 (Bt .i64 (a:Int) (b:Int)))).conseq (Af (A6 Ag Ag Ag))) (Ab 1 (Ac (hK2 _ _ _ (Ad (fun K4 hK4=>?_)))))
 refine Ad (fun K5 hK5=>Aa (Ab 2 (Ac (hK5 _ _ _ ?_))))
 refine Ao (decide (((a+b:Nat):Int)>65535)) Ae (fun h7=>?_) (fun h8=>?_)
 ·have qh7:=h7;try simp only[zA]at qh7
  refine Aa (Ab 1 (Ah (v:=iV .i64 (((a+b:Nat):Int)-65535)) ((Ys.p (v:=.int .i64 (Hk .i64 ((a+b:Nat):Int) 65535))).conseq (Af (Er rfl Ag Ag))) (Ab 1 (Ac ?_))))
  refine hK4 _ _ _ (Ad (fun K10 hK10=>?_))
  refine Aa (Ab 3 (Ac (hK10 _ _ _ (Aq (fn:=Tryz.f159) rfl (fun w_ hS_=>Bb rfl (Aw (iV .u16 (Cg .u16 (((a+b:Nat):Int)-65535)))) hS_ ⟨by clear hK1 hK2 hK4 hK5 hK10;refine congrArg Ending.returned ?_;exact Af (by first|(rw[O5 Ag];omega)|(show IntKind.wrap .u16 _=_;rw[Ej Ag Ag];unfold fd;rw[if_neg Ag];omega)),hS_.below⟩)))))
 ·have qh8:=h8;try simp only[zA]at qh8
  refine Ak (hK4 _ _ _ (Ad (fun K13 hK13=>Aa (Ab 1 ?_))))
  refine Ah (v:=nV .u16 ((a+b)%65536)) ((Ys.p (v:=.int .u16 (Cg .u16 ((a+b:Nat):Int)))).conseq (Af (C6 rfl _))) (Ab 1 (Ac (hK13 _ _ _ (Aq (fn:=Tryz.f159) rfl (fun w_ hS_=>Bb rfl (Aw (nV .u16 ((a+b)%65536))) hS_ ⟨by clear hK1 hK2 hK4 hK5 hK13;refine congrArg Ending.returned ?_;exact Af (by first|(rw[O5 Ag];omega)|(show IntKind.wrap .u16 _=_;rw[Ej Ag Ag];unfold fd;rw[if_neg Ag];omega)),hS_.below⟩)))))
theorem Als(a b:Nat):fd (fd a+b)=fd (a+b):=by
  unfold fd;split<;>split<;>(try split)<;>omega
theorem Aif(xs:List UInt8)(a:Option Addr)(cap:Nat)(w:World)(hat:At w a (Ci xs))(hy:xs.length≤1000000000):Calls Tryz.prog 106 #[sL a xs.length cap] w (Dc w (.int .u16 (Dy xs:Int))):=by
 refine Ar (M:=[]) (LL:=[]) (n:=22) Tryz.func106 rfl rfl A5 (Mem.refl _) (Ad (fun K1 hK1=>?_))
 refine Aa (Ab 1 (Ac (hK1 _ _ _ (Ad (fun K2 hK2=>?_)))))
 refine Aa (Ab 1 (Ax rfl (Au [] [] (fun w_ hm_ hl_=>(Yb xs a xs.length cap _ (by first|rfl|(simp;done)) (hat.mem0 hm_) Fb))) (fun g3 ok4=>Ab 2 (Ac ?_))))
 refine hK2 _ _ _ (Ad (fun K7 hK7=>?_))
 refine Ad (fun K8 hK8=>Aa (Ab 1 (Ac (hK8 _ _ _ ?_))))
 refine W.block (Ep [3,4,5] (fun(k:Nat)=>[sV g3 ((pw xs).length),nV .u16 (fd ((pw xs).take k).sum),nV .i64 k]) (fun(k:Nat)=>k≤(pw xs).length) (fun(k:Nat)=>[g3.seg 22 (mc Y7 (pw xs))]) (fun(k:Nat)=>(pw xs).length-k) 0 Ae Pt (by rfl) (fun k f10 J9 hp11 hJ9=>?_))
 have hk:=hp11
 have hb:=W5 xs k;have hfl:=W8 ((pw xs).take k).sum;have hpl:=Jn xs
 refine Ad (fun K12 hK12=>Ad (fun K13 hK13=>?_))
 refine Aa (Ab 4 (Ac (hK13 _ _ _ ?_)))
 refine Ao (decide (((k:Nat):Int)<((pw xs).length:Int))) Ae (fun h15=>?_) (fun h16=>?_)
 ·have qh15:=h15;try simp only[zA]at qh15
  refine Ak (hK12 _ _ _ (Ad (fun K18 hK18=>W.block (Aa ?_))))
  refine Ab 3 (Ah (v:=pL (some (Co g3.a (k*1)))) (Av (k:=.i64) (a:=g3.a) (len:=(pw xs).length) (cap:=g3.cap) (i:=(k:Int)) (sz:=1) rfl Ae Ae Tryz.runUnderlying267 Tryz.sizeOf22 Ag Ag (by rw[Eb (C5 ok4 Ag)];rfl)) (Ah (v:=nV .u16 ((pw xs).getD k 0)) (Ys.ld (a:=Co g3.a (k*1)) rfl Ae Tryz.isAgg22 (fun w_ h_=>(FS.at (i:=0) (t:=22) h_ rfl (Aj ok4 (Ba _))).ld (Fm 0 Ex))) (B0 (v:=nV .u16 (fd ((fd ((pw xs).take k).sum)+((pw xs).getD k 0)))) (A9 (fun w_ hm_=>(Aie (fd ((pw xs).take k).sum) ((pw xs).getD k 0) _ Ag Ag))) (Ab 1 ?_))))
  refine Ac (hK18 _ _ _ (Aa (Ab 1 (Ah (v:=nV .i64 (k+1)) ((Ys.p (v:=.int .i64 (Bt .i64 (k:Int) 1))).conseq (Af (A6 Ag Ag Ag))) ?_))))
  refine Ab 1 (Ac ?_)
  refine fun w_ h_=>hJ9 (k+1) _ w_ Ag Pt ?_ h_
  refine Eq.trans (b:=([sV g3 ((pw xs).length),nV .u16 (fd ((fd ((pw xs).take k).sum)+((pw xs).getD k 0))),nV .i64 (k+1)]:List Value)) Ae (by rw[Als,O6 Ag])
 ·have qh16:=h16;try simp only[zA]at qh16
  refine Cr (hK7 _ _ _ (Ap [] Al rfl (Ad (fun K21 hK21=>?_))))
  have hfl:=W8 ((pw xs).take k).sum
  refine Aa (Ab 1 (Ah (v:=nV .u16 (65535-(fd ((pw xs).take k).sum))) ((Ys.p (v:=.int .u16 (Hk .u16 ((65535:Nat):Int) (fd ((pw xs).take k).sum:Int)))).conseq (Af (X1 rfl Ag H1))) (Ab 1 (Ac ?_))))
  refine hK21 _ _ _ (Aq (fn:=Tryz.f106) rfl (fun w_ hS_=>Bb rfl (Aw (nV .u16 (65535-(fd ((pw xs).take k).sum)))) hS_ ⟨by clear hK1 hK2 hK7 hK8 hJ9 hK12 hK13 hK21;refine congrArg Ending.returned ?_;exact Af (by rw[List.take_of_length_le Ag];rfl),hS_.below⟩))
theorem Aex(xs:List UInt8)(a:Option Addr)(len cap:Nat)(w:World)(hn:len=xs.length)(hat:At w a (Ci xs))(hy:len≤1000000000):Calls Tryz.prog 106 #[.slice a len cap] w (Dc w (.int .u16 (Dy xs:Int))):=by
  subst hn;exact Aif xs a cap w hat hy
def upc(n old next:Nat):Nat:=65535-fd ((65535-n)+(65535-old)+next)
theorem Aa3(n a b:Nat):upc n a b≤65535:=by unfold upc;omega
theorem Ve: ∀(xs ys:List UInt8),xs.length%2=0→pw (xs++ys)=pw xs++pw ys
  | [],ys,_=>rfl
  | [_],_,h=>by simp at h
  |x::y::l,ys,h=>by
    have:=Ve l ys (by simp at h;omega)
    simp only[List.cons_append,pw,this]
theorem Aig{m:Nat}(h:m<65536):pw (be 2 m)=[m]:=by
  rw[be2]
  simp only[pw,UInt8.toNat_ofNat']
  congr 1;omega
theorem Kt(xs:List UInt8):Dy xs≤65535:=by unfold Dy;omega
theorem Mo{X:List UInt8}{j k:Nat}(h:j+k≤X.length):Cp (X.drop j) (k:Int)=(X.drop j).take k:=by
  rw[Sg (by rw[Ic,List.length_drop];omega),Ic]
theorem N2{X:List UInt8}{j k:Nat}(h:j+k≤X.length):Dd (X.drop j) (k:Int)=X.drop (j+k):=by
  rw[Sh (by rw[Ic,List.length_drop];omega),Ic,List.drop_drop]
theorem Aih{X:List UInt8}{j k:Nat}{bad:Bool}(h:j+k≤X.length):Nf (X.drop j) bad (k:Int)=bad:=Aau (by rw[Ic,List.length_drop];omega)
theorem Mp(X:List UInt8)(a:Option Addr)(len cap:Nat)(bad:Bool)(b j k:Nat)(w:World)(hl:Mem w [b] [[cb b [.slice a len cap,.bool bad] 283]] w)(hat:At w a (Ci (X.drop j)))(hn:len=X.length-j)(hjk:j+k≤X.length)(hcap:len≤cap)(hy:X.length≤70368744177664)(hk8:k≤8):
    Calls Tryz.prog 132 #[.pointer (some ⟨b,0,none⟩),.int .i64 (k:Int)] w (Bj w (fun x:EV=>View x.a (X.drop (j+k)) a (X.drop j)∧X.length-(j+k)≤x.cap) (fun x=>.int .u64 (bv ((X.drop j).take k):Int)) [b] (fun x=>[[cb b [.slice x.a (X.length-(j+k)) x.cap,.bool bad] 283]])):=by
  have hlen:len=(X.drop j).length:=by rw[List.length_drop];omega
  have h8:Bf (k:Int)=k:=by unfold Bf Nc D3;repeat(first|omega|split)
  refine(Aer (X.drop j) a len cap bad b (k:Int) w hlen hl hat Ag Ag).mono ?_
  rw[h8]
  rintro e w' ⟨x,⟨h2,h3⟩,rfl,h4⟩
  rw[N2 hjk]at h2 h3
  refine⟨x,⟨h2,by rw[List.length_drop]at h3;exact h3⟩,by dsimp only;rw[Mo hjk],?_⟩
  dsimp only at h4⊢
  rw[N2 hjk,Aih hjk,List.length_drop]at h4
  exact h4
attribute [local irreducible] Wa Wo
theorem Uc(n:Nat)(w:World)(hn:n<65536):Calls Tryz.prog 102 #[nV .i64 n] w (Bj w (fun g:FS=>g.ok 1 2∧g.nil=false) (fun g=>.slice g.a 2 g.cap) [] (fun g=>[g.seg 5 (Ci (be 2 n))])):=by
 refine Ar (M:=[]) (LL:=[]) (n:=6) Tryz.func102 rfl rfl A5 (Mem.refl _) (Ad (fun K1 hK1=>?_))
 refine Aa (Ab 1 (Ac (hK1 _ _ _ (Ad (fun K2 hK2=>?_)))))
 refine Aa (Ab 1 (Ah (v:=nV .u64 n) ((Ys.p (v:=.int .u64 (Cg .u64 (n:Int)))).conseq (Af (Cc Ag Ag))) (Ax rfl (Au [] [] (fun w_ hm_ hl_=>Va 2 n Ag _)) (fun g3 hx7=>?_))))
 obtain⟨ok4,nn5⟩:=hx7
 refine Ab 1 (Ac (hK2 _ _ _ (Aq (fn:=Tryz.f102) rfl (fun w_ hS_=>Bb rfl (Aw (sV g3 2)) hS_ ⟨g3,⟨ok4,nn5⟩,rfl,hS_⟩))))
def Eg(s d:Nat)(pr:UInt8)(n:Nat):List UInt8:=be 4 s++be 4 d++[0,pr]++be 2 n
theorem By(s d:Nat)(pr:UInt8)(n:Nat):(Eg s d pr n).length=12:=by unfold Eg;simp[A8]
def Hl(zs:List UInt8)(k n:Nat):List UInt8:=zs.take k++be 2 n++zs.drop (k+2)
theorem Ud{zs:List UInt8}{k n:Nat}(h:k+2≤zs.length):(Hl zs k n).length=zs.length:=by unfold Hl;simp[A8];omega
theorem Ue{zs:List UInt8}{k n:Nat}(h:k+2≤zs.length):(zs.set k (UInt8.ofNat (n/256))).set (k+1) (UInt8.ofNat (n%256))=Hl zs k n:=by
  have e:UInt8.ofNat (n%256)=UInt8.ofNat n:=P9 n
  rw[e]
  unfold Hl
  apply List.ext_getElem?
  intro i
  rw[List.getElem?_set,List.getElem?_set,List.length_set]
  have hl:(zs.take k).length=k:=by rw[List.length_take];omega
  by_cases h1:i<k
  · rw[if_neg Ag,if_neg Ag,List.append_assoc,List.getElem?_append_left Ag,List.getElem?_take,if_pos h1]
  · rw[List.append_assoc,List.getElem?_append_right Ag,hl]
    by_cases h2:i=k
    · subst h2;rw[if_neg Ag,if_pos rfl,if_pos Ag,Nat.sub_self];rfl
    · by_cases h3:i=k+1
      · subst h3;rw[if_pos rfl,if_pos Ag,show k+1-k=1 by omega];rfl
      · rw[if_neg Ag,if_neg Ag,List.getElem?_append_right (by rw[A8];omega),A8,List.getElem?_drop]
        congr 1;omega
theorem L3(s d:Nat)(pr:UInt8)(n:Nat)(w:World)(hs:s<4294967296)(hd:d<4294967296)(hn:n<65536):Calls Tryz.prog 134 #[nV .u32 s,nV .u32 d,nV .u8 pr.toNat,nV .i64 n] w (Bj w (fun g:FS=>g.ok 1 12) (fun g=>.slice g.a 12 g.cap) [] (fun g=>[g.seg 5 (Ci (Eg s d pr n))])):=by
 refine Ar (M:=[]) (LL:=[]) (n:=22) Tryz.func134 rfl rfl A5 (Mem.refl _) (Ad (fun K1 hK1=>?_))
 refine Aa (Ab 1 (Ac (hK1 _ _ _ (Ad (fun K2 hK2=>?_)))))
 refine Aa (Ab 1 (Ah (v:=nV .u64 s) ((Ys.p (v:=.int .u64 (Cg .u64 (s:Int)))).conseq (Af (Cc Ag Ag))) (Ax rfl (Au [] [] (fun w_ hm_ hl_=>Cv 4 s Ag _)) (fun g3 hx7=>?_))))
 obtain⟨ok4,nn5⟩:=hx7
 refine Ab 1 (Ah (v:=nV .u64 d) ((Ys.p (v:=.int .u64 (Cg .u64 (d:Int)))).conseq (Af (Cc Ag Ag))) (Ax rfl (Au [] [0] (fun w_ hm_ hl_=>Cv 4 d Ag _)) (fun g8 hx12=>?_)))
 obtain⟨ok9,nn10⟩:=hx12
 refine Ab 1 (Ai rfl (Bd (mk:=fun b_=>.slice (some ⟨b_,0,none⟩) 2 2) (t:=5) (cs:=[iV .u8 0,nV .u8 pr.toNat]) rfl (fun _=>kr)) (fun p16=>?_))
 refine Ab 1 (Ah (v:=nV .u64 n) ((Ys.p (v:=.int .u64 (Cg .u64 (n:Int)))).conseq (Af (Cc Ag Ag))) (Ax rfl (Au [] [0,1,2] (fun w_ hm_ hl_=>Cv 2 n Ag _)) (fun g13 hx17=>?_)))
 obtain⟨ok14,nn15⟩:=hx17
 refine Ai rfl (Bd (mk:=fun b_=>.slice (some ⟨b_,0,none⟩) 4 4) (t:=38) (cs:=[sV g3 4,sV g8 4,Value.slice (some ⟨p16,0,none⟩) 2 2,sV g13 2]) rfl (fun _=>kr)) (fun p20=>Ax rfl (Au [] [0,1,2,3,4] (fun w_ hm_ hl_=>(Ed [⟨g3.a,(be 4 s),g3.cap⟩,⟨g8.a,(be 4 d),g8.cap⟩,⟨some ⟨p16,0,none⟩,[(0:UInt8),pr],2⟩,⟨g13.a,(be 2 n),g13.cap⟩] ((be 4 s)++(be 4 d)++[(0:UInt8),pr]++(be 2 n)) (some ⟨p20,0,none⟩) 4 4 (4+4+2+2) _ rfl (by simp[jn]) (by simp[A8];try omega) (by first|exact Az (i:=0) (j:=0) (t:=38) (b:=p20) hm_ rfl rfl|(rw[show mc Ng ([⟨g3.a,(be 4 s),g3.cap⟩,⟨g8.a,(be 4 d),g8.cap⟩,⟨some ⟨p16,0,none⟩,[(0:UInt8),pr],2⟩,⟨g13.a,(be 2 n),g13.cap⟩]:List SV)=[sV g3 4,sV g8 4,Value.slice (some ⟨p16,0,none⟩) 2 2,sV g13 2] by(simp[mc,A8];try omega)];exact Az (i:=0) (j:=0) (t:=38) (b:=p20) hm_ rfl rfl)) (List.forall_mem_cons.2 ⟨(FS.at (i:=4) (t:=5) hm_ rfl (Aj ok4 E5)),(List.forall_mem_cons.2 ⟨(FS.at (i:=3) (t:=5) hm_ rfl (Aj ok9 E5)),(List.forall_mem_cons.2 ⟨(Az (i:=2) (j:=0) (t:=5) (b:=p16) hm_ rfl rfl),(List.forall_mem_cons.2 ⟨(FS.at (i:=1) (t:=5) hm_ rfl (Aj ok14 E5)),(fun _ h=>by cases h)⟩)⟩)⟩)⟩) (by first|omega|(simp[A8];omega)) A5 A5))) (fun g18 hx22=>?_))
 obtain⟨ok19,nn20⟩:=hx22
 refine Ab 1 (Ac (hK2 _ _ _ (Ap [0] Al rfl (Aq (fn:=Tryz.f134) rfl ?_))))
 have hB:Eg s d pr n=(be 4 s)++(be 4 d)++[(0:UInt8),pr]++(be 2 n):=rfl
 exact fun w_ hS_=>Bb rfl (Aw (sV g18 (4+4+2+2))) hS_ ⟨g18,ok19,rfl,(Mem.cast (by rw[hB];rfl) (hS_.pick [0] Al rfl))⟩
def Nh(n least:Nat):Int:=if n<least then 10 else if 1480<n then 14 else 0
theorem O8(a:Option Addr)(len cap k:Nat)(w:World)(hl:len≤9223372036854775807)(hk:k≤100):Calls Tryz.prog 130 #[sL a len cap,nV .i64 k] w (Dc w (.int .i64 (Nh len k))):=by
 refine Ar (M:=[]) (LL:=[]) (n:=14) Tryz.func130 rfl rfl A5 (Mem.refl _) (Ad (fun K1 hK1=>?_))
 refine Aa (Ab 1 (Ac (hK1 _ _ _ (Ad (fun K2 hK2=>?_)))))
 refine W.block (Ad (fun K3 hK3=>?_))
 refine Aa (Ab 5 (Ac (hK3 _ _ _ ?_)))
 refine Ao (decide (((len:Nat):Int)<(k:Int))) Ae (fun h5=>?_) (fun h6=>?_)
 ·have qh5:=h5;try simp only[zA]at qh5
  refine Ad (fun K7 hK7=>Aa (Ab 1 (Ac (hK7 _ _ _ ?_))))
  refine Aq (fn:=Tryz.f130) rfl (fun w_ hS_=>Bb rfl (Aw (iV .i64 10)) hS_ ⟨by clear hK1 hK2 hK3 hK7;refine congrArg Ending.returned ?_;exact Af Ag9,hS_.below⟩)
 ·have qh6:=h6;try simp only[zA]at qh6
  refine Ad (fun K8 hK8=>Aa (Ab 4 (Ac (hK8 _ _ _ ?_))))
  refine Ao (decide (((len:Nat):Int)>1480)) Ae (fun h10=>?_) (fun h11=>?_)
  ·have qh10:=h10;try simp only[zA]at qh10
   refine Ad (fun K12 hK12=>Aa (Ab 1 (Ac (hK12 _ _ _ ?_))))
   refine Aq (fn:=Tryz.f130) rfl (fun w_ hS_=>Bb rfl (Aw (iV .i64 14)) hS_ ⟨by clear hK1 hK2 hK3 hK8 hK12;refine congrArg Ending.returned ?_;exact Af Ag9,hS_.below⟩)
  ·have qh11:=h11;try simp only[zA]at qh11
   refine Ak (hK2 _ _ _ (Ad (fun K14 hK14=>Aa (Ab 1 ?_))))
   refine Ac (hK14 _ _ _ (Aq (fn:=Tryz.f130) rfl (fun w_ hS_=>Bb rfl (Aw (iV .i64 0)) hS_ ⟨by clear hK1 hK2 hK3 hK8 hK14;refine congrArg Ending.returned ?_;exact Af Ag9,hS_.below⟩)))
theorem Aii(g:FS)(zs:List UInt8)(k n:Nat)(M:List Nat)(w:World)(hl:Mem w M [g.seg 5 (Ci zs)] w)(ok:g.ok 1 zs.length)(hnn:g.nil=false)(hk:k+2≤zs.length)(hz:zs.length≤1000000)(hn:n<65536):Calls Tryz.prog 146 #[sV g zs.length,nV .i64 k,nV .u16 n] w (Bj w (fun g:FS=>g.ok 1 zs.length∧g.nil=false) (fun g=>.slice g.a zs.length g.cap) M (fun g=>[g.seg 5 (Ci (Hl zs k n))])):=by
 refine Ar (M:=M) (LL:=[g.seg 5 (mc b8 zs)]) (n:=15) Tryz.func146 rfl rfl A5 (hl) (Ad (fun K1 hK1=>?_))
 refine Aa (Ab 1 (Ac (hK1 _ _ _ (Ad (fun K2 hK2=>?_)))))
 have hn4:=hnn
 obtain⟨gn3,gb,gc,gr⟩:=g
 obtain rfl:gn3=false:=hn4
 have hc5:zs.length≤gc:=ok.le
 refine Bz [(0,true),(1,true),(2,true),(3,false),(4,false),(5,false),(6,false)] [0,1,2] (Mem w M []) Ae Ae Ae rfl Ae (fun _ _ h_=>h_.drawn _) (fun _ h_=>h_.pick [] Al rfl) (Ay 2 (Wd.ys (v:=sL (C8 (some ⟨gb,0,none⟩) gc k 1) (zs.length-k) (gc-k)) rfl rfl rfl (Bk (a:=some ⟨gb,0,none⟩) (len:=zs.length) (cap:=gc) (sz:=1) (k:=.i64) (i:=(k:Int)) rfl Ae Ae Tryz.runUnderlying38 Tryz.sizeOf5 Ag Ag) (Wd.yc (v:=nV .u16 n) rfl rfl rfl (Ys.yc (Ys.p)) (.inr fun _ h_=>h_.pick [] Al rfl) (Wd.yc (v:=nV .u64 n) rfl rfl rfl (Ys.yc ((Ys.p (v:=.int .u64 (Cg .u64 (n:Int)))).conseq (Af (Cc Ag Ag)))) (.inr fun _ h_=>h_.pick [] Al rfl) ?_))))
 refine Cd rfl rfl (Au [] [0] (fun w_ hm_ hl_=>Cv 2 n Ag _)) (.inr fun _ _ h_=>h_.pick [] Al rfl) (fun g6 hx10=>?_)
 obtain⟨ok7,nn8⟩:=hx10
 refine B8 rfl rfl (Ck (cap:=gc) (dl:=zs.length-k) (dc:=gc-k) (m:=2) (q:=2) (sz:=1) (o':=k) (i:=1) (j:=0) (e:=5) (ii:=(Tryz.prog.info? 5).getD default) (b:=gb) (t:=5) (xv:=sV g6 2) (cs:=(mc b8 zs)++gr) (news:=mc b8 (be 2 n)) (cs':=(mc b8 (zs.take k++(be 2 n)++zs.drop (k+(be 2 n).length)))++gr) (LL':=[g6.seg 5 (mc b8 (be 2 n)),[cb gb ((mc b8 (zs.take k++(be 2 n)++zs.drop (k+(be 2 n).length)))++gr) 5]]) rfl rfl Ae Ae Ae Ae Ag Ae rfl rfl (fun _=>rfl) (by show min _ _=_;first|omega|(simp;omega)) (Src.at (a:=g6.a) S8 (fun w_ h_=>(FS.at (i:=0) (t:=5) h_ rfl (Aj ok7 E5)))) S8 Ac4 (Dl (fun _=>rfl) _) (Wb (by first|(simp[mc,A8];done)|(simp[mc,A8];omega)) (Np (g:=b8) zs (be 2 n) k)) rfl) (.inr fun _ _ h_=>h_.pick [] Al rfl) (fun _=>A7 (hK2 _ _ _ (Ap [1] Al rfl (Ad (fun K12 hK12=>?_)))))
 refine Aa (Ab 2 (Ac (hK12 _ _ _ (Aq (fn:=Tryz.f146) rfl ?_))))
 have hpl:=Ud (n:=n) hk
 exact fun w_ hS_=>Bb rfl (Aw (sL (some ⟨gb,0,none⟩) zs.length gc)) hS_ ⟨(FS.mk false gb gc gr),⟨ok,rfl⟩,rfl,(Mem.cast (by unfold Hl;rw[A8];rfl) (hS_.pick [0] Al rfl))⟩
theorem Alt(g:FS)(zs:List UInt8)(k n:Nat)(M:List Nat)(w:World)(hl:Mem w M [g.seg 5 (Ci zs)] w)(ok:g.ok 1 zs.length)(hnn:g.nil=false)(hk:k+2≤zs.length)(hz:zs.length≤1000000)(hn:n<65536):Calls Tryz.prog 104 #[sV g zs.length,nV .i64 k,nV .u16 n] w (Bj w (fun g:FS=>g.ok 1 zs.length∧g.nil=false) (fun g=>.slice g.a zs.length g.cap) M (fun g=>[g.seg 5 (Ci (Hl zs k n))])):=by
 refine Ar (M:=M) (LL:=[g.seg 5 (mc b8 zs)]) (n:=21) Tryz.func104 rfl rfl A5 (hl) (Ad (fun K1 hK1=>?_))
 refine Aa (Ab 1 (Ac (hK1 _ _ _ (Ad (fun K2 hK2=>?_)))))
 refine Aa (Ab 3 (Ah (v:=nV .u16 (n/256)) ((Ys.p (v:=.int .u16 (Nb .u16 (n:Int) ((256:Nat):Int)))).conseq (Af (H3 rfl H1))) (Ah (v:=nV .u8 ((UInt8.ofNat (n/256)).toNat)) ((Ys.p (v:=.int .u8 (Cg .u8 ((n/256:Nat):Int)))).conseq (Af (Gf _))) (Ah (v:=pL (some (Co g.a (k*1)))) (Av (k:=.i64) (a:=g.a) (len:=zs.length) (cap:=g.cap) (i:=(k:Int)) (sz:=1) rfl Ae Ae Tryz.runUnderlying38 Tryz.sizeOf5 Ag Ag (by rw[Eb (hnn)];rfl)) ?_))))
 refine Ai rfl (Kn (i:=0) (g:=g) (q:=k*1) (ty:=5) (cs:=mc b8 zs) (cs':=mc b8 (zs.set k (UInt8.ofNat (n/256)))) (v:=nV .u8 ((UInt8.ofNat (n/256)).toNat)) (LL':=[g.seg 5 (mc b8 (zs.set k (UInt8.ofNat (n/256))))]) rfl rfl Ae Ae Tryz.sizeOf5 rfl (hnn) rfl (by first|(simp[mc,A8];done)|(simp[mc,A8];omega)) (Rz (g:=b8) zs k (UInt8.ofNat (n/256))) rfl) (fun _=>Ac (hK2 _ _ _ (Ad (fun K4 hK4=>Aa ?_))))
 refine Ab 2 (Ah (v:=nV .i64 (k+1)) ((Ys.p (v:=.int .i64 (Bt .i64 (k:Int) 1))).conseq (Af (A6 Ag Ag Ag))) (Ab 1 (Ah (v:=nV .u16 (n%256)) ((Ys.p (v:=.int .u16 (Tk (n:Int) ((256:Nat):Int)))).conseq (Af (rfl))) (Ah (v:=nV .u8 ((UInt8.ofNat (n%256)).toNat)) ((Ys.p (v:=.int .u8 (Cg .u8 ((n%256:Nat):Int)))).conseq (Af (Gf _))) ?_))))
 refine Ah (v:=Value.pointer (some (Co g.a ((k+1)*1)))) (Av (k:=.i64) (a:=g.a) (len:=zs.length) (cap:=g.cap) (i:=((k+1:Nat):Int)) (sz:=1) rfl Ae Ae Tryz.runUnderlying38 Tryz.sizeOf5 Ag Ag (by rw[Eb (hnn)];rfl)) (Ai rfl (Kn (i:=0) (g:=g) (q:=(k+1)*1) (ty:=5) (cs:=mc b8 (zs.set k (UInt8.ofNat (n/256)))) (cs':=mc b8 ((zs.set k (UInt8.ofNat (n/256))).set (k+1) (UInt8.ofNat (n%256)))) (v:=nV .u8 ((UInt8.ofNat (n%256)).toNat)) (LL':=[g.seg 5 (mc b8 ((zs.set k (UInt8.ofNat (n/256))).set (k+1) (UInt8.ofNat (n%256))))]) rfl rfl Ae Ae Tryz.sizeOf5 rfl (hnn) rfl (by first|(simp[mc,A8];done)|(simp[mc,A8];omega)) (Rz (g:=b8) (zs.set k (UInt8.ofNat (n/256))) (k+1) (UInt8.ofNat (n%256))) rfl) (fun _=>?_))
 refine Ac (hK4 _ _ _ (Ad (fun K6 hK6=>Aa (Ab 2 ?_))))
 refine Ac (hK6 _ _ _ (Aq (fn:=Tryz.f104) rfl (fun w_ hS_=>Bb rfl (Aw (sV g zs.length)) hS_ ⟨g,⟨ok,hnn⟩,rfl,(Mem.cast (by rw[←Ue hk];rfl) (hS_.pick [0] Al rfl))⟩)))
theorem Iy(g:FS)(zs:List UInt8)(len k n:Nat)(M:List Nat)(w:World)(hlen:len=zs.length)(hl:Mem w M [g.seg 5 (Ci zs)] w)(ok:g.ok 1 len)(hnn:g.nil=false)(hk:k+2≤zs.length)(hz:zs.length≤1000000)(hn:n<65536):
    Calls Tryz.prog 146 #[.slice g.a len g.cap,.int .i64 (k:Int),.int .u16 (n:Int)] w (Bj w (fun g:FS=>g.ok 1 len∧g.nil=false) (fun g=>.slice g.a len g.cap) M (fun g=>[g.seg 5 (Ci (Hl zs k n))])):=by
  subst hlen;exact Aii g zs k n M w hl ok hnn hk hz hn
theorem Rb(g:FS)(zs:List UInt8)(len k n:Nat)(M:List Nat)(w:World)(hlen:len=zs.length)(hl:Mem w M [g.seg 5 (Ci zs)] w)(ok:g.ok 1 len)(hnn:g.nil=false)(hk:k+2≤zs.length)(hz:zs.length≤1000000)(hn:n<65536):
    Calls Tryz.prog 104 #[.slice g.a len g.cap,.int .i64 (k:Int),.int .u16 (n:Int)] w (Bj w (fun g:FS=>g.ok 1 len∧g.nil=false) (fun g=>.slice g.a len g.cap) M (fun g=>[g.seg 5 (Ci (Hl zs k n))])):=by
  subst hlen;exact Alt g zs k n M w hl ok hnn hk hz hn
theorem Aij(s d:Nat)(pr:UInt8)(xs:List UInt8)(a:Option Addr)(cap:Nat)(w:World)(hat:At w a (Ci xs))(hs:s<4294967296)(hd:d<4294967296)(hx:xs.length<65536)(hxc:xs.length≤cap):Calls Tryz.prog 103 #[nV .u32 s,nV .u32 d,nV .u8 pr.toNat,sL a xs.length cap] w (Dc w (.int .u16 (Dy (Eg s d pr xs.length++xs):Int))):=by
 refine Ar (M:=[]) (LL:=[]) (n:=29) Tryz.func103 rfl rfl A5 (Mem.refl _) (Ad (fun K1 hK1=>?_))
 refine Aa (Ab 1 (Ac (hK1 _ _ _ (Ad (fun K2 hK2=>?_)))))
 refine Aa (Ab 1 (Ah (v:=nV .u64 s) ((Ys.p (v:=.int .u64 (Cg .u64 (s:Int)))).conseq (Af (Cc Ag Ag))) (Ax rfl (Au [] [] (fun w_ hm_ hl_=>Va 4 s Ag _)) (fun g3 hx7=>?_))))
 obtain⟨ok4,nn5⟩:=hx7
 refine Ab 1 (Ah (v:=nV .u64 d) ((Ys.p (v:=.int .u64 (Cg .u64 (d:Int)))).conseq (Af (Cc Ag Ag))) (Ax rfl (Au [] [0] (fun w_ hm_ hl_=>Va 4 d Ag _)) (fun g8 hx12=>?_)))
 obtain⟨ok9,nn10⟩:=hx12
 refine Ax rfl (HtS.append (eu:=5) (xv:=sV g8 4) (i:=1) (g:=g3) (e:=5) (ii:=(Tryz.prog.info? 5).getD default) (z:=iV .u8 0) (sz:=1) (bytes:=1) (nn:=4) (m:=4) (k:=4+4) (xs:=mc b8 (be 4 s)) (news:=mc b8 (be 4 d)) (cs':=mc b8 ((be 4 s)++(be 4 d))) (Lo:=fun g13=>[g8.seg 5 (mc b8 (be 4 d)),g13.seg 5 (mc b8 ((be 4 s)++(be 4 d)))]) rfl rfl Ae Ae Ae Ae Ae Ae Ae Ae Ae rfl ok4 E5 (fun _=>rfl) (Src.at (a:=g8.a) S8 (fun w_ h_=>(FS.at (i:=0) (t:=5) h_ rfl (Aj ok9 E5)))) S8 (Dl (fun _=>rfl) _) Ef Gv Ef (E1 _ _) (fun _=>rfl)) (fun g13 hx18=>?_)
 obtain⟨ok14,hn15,hn16⟩:=hx18
 refine Ab 1 (Ac (hK2 _ _ _ (Ap [1] Al rfl (Ad (fun K20 hK20=>?_)))))
 refine Aa (Ab 2 (Ai rfl (Bd (mk:=fun b_=>.slice (some ⟨b_,0,none⟩) 2 2) (t:=5) (cs:=[iV .u8 0,nV .u8 pr.toNat]) rfl (fun _=>kr)) (fun p19=>Ax rfl (HtS.append (eu:=5) (xv:=Value.slice (some ⟨p19,0,none⟩) 2 2) (i:=1) (g:=g13) (e:=5) (ii:=(Tryz.prog.info? 5).getD default) (z:=iV .u8 0) (sz:=1) (bytes:=1) (nn:=4+4) (m:=2) (k:=(4+4)+2) (xs:=mc b8 ((be 4 s)++(be 4 d))) (news:=mc b8 [(0:UInt8),pr]) (cs':=mc b8 (((be 4 s)++(be 4 d))++[(0:UInt8),pr])) (Lo:=fun g21=>[[cb p19 [iV .u8 0,nV .u8 pr.toNat] 5],g21.seg 5 (mc b8 (((be 4 s)++(be 4 d))++[(0:UInt8),pr]))]) rfl rfl Ae Ae Ae Ae Ae Ae Ae Ae Ae rfl ok14 (by simp[mc,A8];try omega) (fun _=>rfl) (Src.at (a:=some ⟨p19,0,none⟩) S8 (fun w_ h_=>(Az (i:=0) (j:=0) (t:=5) (b:=p19) h_ rfl rfl))) S8 (Dl (fun _=>rfl) _) Ef Gv Ef (E1 _ _) (fun _=>rfl)) (fun g21 hx26=>?_))))
 obtain⟨ok22,hn23,hn24⟩:=hx26
 refine Ab 2 (Ax rfl (Au [] [0,1] (fun w_ hm_ hl_=>Uc xs.length _ Ag)) (fun g27 hx31=>?_))
 obtain⟨ok28,nn29⟩:=hx31
 refine Ax rfl (HtS.append (eu:=5) (xv:=sV g27 2) (i:=2) (g:=g21) (e:=5) (ii:=(Tryz.prog.info? 5).getD default) (z:=iV .u8 0) (sz:=1) (bytes:=1) (nn:=(4+4)+2) (m:=2) (k:=((4+4)+2)+2) (xs:=mc b8 (((be 4 s)++(be 4 d))++[(0:UInt8),pr])) (news:=mc b8 (be 2 xs.length)) (cs':=mc b8 ((((be 4 s)++(be 4 d))++[(0:UInt8),pr])++(be 2 xs.length))) (Lo:=fun g32=>[g27.seg 5 (mc b8 (be 2 xs.length)),[cb p19 [iV .u8 0,nV .u8 pr.toNat] 5],g32.seg 5 (mc b8 ((((be 4 s)++(be 4 d))++[(0:UInt8),pr])++(be 2 xs.length)))]) rfl rfl Ae Ae Ae Ae Ae Ae Ae Ae Ae rfl ok22 (by simp[mc,A8];try omega) (fun _=>rfl) (Src.at (a:=g27.a) S8 (fun w_ h_=>(FS.at (i:=0) (t:=5) h_ rfl (Aj ok28 (by rw[Da,A8,Nat.mul_one]))))) S8 (Dl (fun _=>rfl) _) Ef Gv Ef (E1 _ _) (fun _=>rfl)) (fun g32 hx37=>?_)
 obtain⟨ok33,hn34,hn35⟩:=hx37
 refine Ab 1 (Ac (hK20 _ _ _ (Ap [2] Al rfl (Ad (fun K39 hK39=>?_)))))
 refine Aa (Ab 2 (Ax rfl (HtS.append (eu:=5) (xv:=Value.slice a xs.length cap) (i:=0) (g:=g32) (e:=5) (ii:=(Tryz.prog.info? 5).getD default) (z:=iV .u8 0) (sz:=1) (bytes:=1) (nn:=((4+4)+2)+2) (m:=xs.length) (k:=(((4+4)+2)+2)+xs.length) (xs:=mc b8 ((((be 4 s)++(be 4 d))++[(0:UInt8),pr])++(be 2 xs.length))) (news:=mc b8 xs) (cs':=mc b8 (((((be 4 s)++(be 4 d))++[(0:UInt8),pr])++(be 2 xs.length))++xs)) (Lo:=fun g40=>[g40.seg 5 (mc b8 (((((be 4 s)++(be 4 d))++[(0:UInt8),pr])++(be 2 xs.length))++xs))]) rfl rfl Ae Ae Ae Ae Ae Ae Ae Ae Ae rfl ok33 (by simp[mc,A8];try omega) (fun _=>rfl) (Src.at (a:=a) (Ba _) (fun w_ h_=>(hat.mem0 h_))) (Ba _) (Dl (fun _=>rfl) _) Ef Gv Ef (E1 _ _) (fun _=>rfl)) (fun g40 hx45=>?_)))
 obtain⟨ok41,hn42,hn43⟩:=hx45
 refine B0 (v:=nV .u16 (Dy (((((be 4 s)++(be 4 d))++[(0:UInt8),pr])++(be 2 xs.length))++xs))) (A9 (fun w_ hm_=>(Aex (((((be 4 s)++(be 4 d))++[(0:UInt8),pr])++(be 2 xs.length))++xs) g40.a ((((4+4)+2)+2)+xs.length) g40.cap _ (by first|rfl|(simp;done)|(simp[mc,A8];omega)) (FS.at (i:=0) (t:=5) hm_ rfl (Aj ok41 (by simp[mc,A8];try omega))) Ag))) (Ab 1 (Ac (hK39 _ _ _ (Ap [] Al rfl ?_))))
 refine Aq (fn:=Tryz.f103) rfl (fun w_ hS_=>Bb rfl (Aw (nV .u16 (Dy (((((be 4 s)++(be 4 d))++[(0:UInt8),pr])++(be 2 xs.length))++xs)))) hS_ ⟨by clear hK1 hK2 hK20 hK39;refine congrArg Ending.returned ?_;exact Af (by unfold Eg;rfl),hS_.below⟩)
theorem W9(s d:Nat)(pr:UInt8)(xs:List UInt8)(a:Option Addr)(len cap:Nat)(w:World)(hn:len=xs.length)(hat:At w a (Ci xs))(hs:s<4294967296)(hd:d<4294967296)(hx:len<65536)(hxc:len≤cap):
    Calls Tryz.prog 103 #[.int .u32 (s:Int),.int .u32 (d:Int),.int .u8 (pr.toNat:Int),.slice a len cap] w (Dc w (.int .u16 (Dy (Eg s d pr xs.length++xs):Int))):=by
  subst hn;exact Aij s d pr xs a cap w hat hs hd hx hxc
def uH(fr to:Nat)(xs:List UInt8):List UInt8:=be 2 fr++be 2 to++be 2 (8+xs.length)++be 2 0++xs
def Es(c:Nat):Nat:=if c=0 then 65535 else c
def uC(s d fr to:Nat)(xs:List UInt8):Nat:=Dy (Eg s d 17 (8+xs.length)++uH fr to xs)
def uB(s d fr to:Nat)(pl:Bool)(xs:List UInt8):List UInt8:=if 1472<xs.length then []else bif pl then uH fr to xs else Hl (uH fr to xs) 6 (Es (uC s d fr to xs))
def uE(n:Nat):Int:=if 1472<n then 14 else 0
theorem Vf(fr to:Nat)(xs:List UInt8):(uH fr to xs).length=8+xs.length:=by unfold uH;simp[A8];omega
theorem Jo{s d fr to:Nat}{pl:Bool}{xs:List UInt8}(h: ¬1472<xs.length):(uB s d fr to pl xs).length=8+xs.length:=by
  unfold uB;rw[if_neg h];cases pl
  · show(Hl _ _ _).length=_;rw[Ud (by rw[Vf];omega),Vf]
  · exact Vf _ _ _
theorem Aa4(s d fr to:Nat)(pl:Bool)(xs:List UInt8):(uB s d fr to pl xs).length≤1480:=by
  by_cases h:1472<xs.length
  · unfold uB;rw[if_pos h];simp
  · rw[Jo h];omega
theorem Aik(s d fr to:Nat)(pl:Bool)(xs:List UInt8)(a:Option Addr)(cap:Nat)(w:World)(hat:At w a (Ci xs))(hs:s<4294967296)(hd:d<4294967296)(hf:fr<65536)(ht:to<65536)(hl:xs.length≤100000)(hlc:xs.length≤cap):Calls Tryz.prog 93 #[nV .u32 s,nV .u32 d,aV [nV .u16 fr,nV .u16 to,bV pl,sL a xs.length cap]] w (Bj w (fun g:FS=>g.ok 1 (uB s d fr to pl xs).length) (fun g=>.tuple #[.slice g.a (uB s d fr to pl xs).length g.cap,.int .i64 (uE xs.length)]) [] (fun g=>[g.seg 5 (Ci (uB s d fr to pl xs))])):=by
 refine Ar (M:=[]) (LL:=[]) (n:=52) Tryz.func93 rfl rfl A5 (Mem.refl _) (Ad (fun K1 hK1=>?_))
 refine Aa (Ai rfl (Bx [nV .u16 fr,nV .u16 to,bV pl,sL a xs.length cap] rfl) (fun p5=>?_))
 refine Ab 2 (Ac (hK1 _ _ _ (Ad (fun K3 hK3=>Ad (fun K4 hK4=>?_)))))
 refine Aa (Ab 1 (Ah (An p5 3 0 0 Tryz.isAgg38) (Ab 1 (Ah (v:=nV .i64 (8+xs.length)) ((Ys.p (v:=.int .i64 (Bt .i64 8 (xs.length:Int)))).conseq (Af (A6 Ag Ag Ag))) ?_))))
 refine Ab 1 (Ac (hK4 _ _ _ ?_))
 refine Ao (decide (((8+xs.length:Nat):Int)>1480)) Ae (fun h6=>?_) (fun h7=>?_)
 ·have qh6:=h6;try simp only[zA]at qh6
  refine Ad (fun K8 hK8=>Aa (Ab 2 (Ac (hK8 _ _ _ ?_))))
  refine Ap [] Al rfl (Aq (fn:=Tryz.f93) rfl ?_)
  have hE:uE xs.length=14:=by unfold uE;rw[if_pos Ag]
  have hB:uB s d fr to pl xs=[]:=by unfold uB;rw[if_pos Ag]
  exact fun w_ hS_=>B9 rfl (Aw (sL none 0 0)) (Aw (iV .i64 14)) hS_ ⟨FS.nul,(by rw[hB];exact Bw 1),congrArg Ending.returned ((by rw[hB,hE];rfl)),(Mem.cast (by rw[hB];rfl) (Mem.push (hS_.pick [] Al rfl)))⟩
 ·have qh7:=h7;try simp only[zA]at qh7
  refine Ak (hK3 _ _ _ (Ad (fun K11 hK11=>Dh [(0,true),(1,true),(2,true),(4,true),(5,true),(6,true),(8,true),(9,true),(10,true),(11,true),(12,true),(15,true),(16,true),(3,false),(7,false),(13,false),(14,false),(17,false),(18,false),(19,false)] [0,1,2,4,5,6,8,9,10,11,12,15,16] (Ay 1 ?_))))
  refine Wd.ys rfl rfl rfl (An p5 0 0 0 Tryz.isAgg22) (Wd.ys (v:=nV .u64 fr) rfl rfl rfl ((Ys.p (v:=.int .u64 (Cg .u64 (fr:Int)))).conseq (Af (Cc Ag Ag))) (Ay 1 (Wd.ys rfl rfl rfl (An p5 1 0 0 Tryz.isAgg22) (Wd.ys (v:=nV .u64 to) rfl rfl rfl ((Ys.p (v:=.int .u64 (Cg .u64 (to:Int)))).conseq (Af (Cc Ag Ag))) ?_))))
  refine Ay 1 (Wd.ys rfl rfl rfl (An p5 3 0 0 Tryz.isAgg38) (Ay 1 (Wd.ys (v:=nV .i64 (8+xs.length)) rfl rfl rfl ((Ys.p (v:=.int .i64 (Bt .i64 8 (xs.length:Int)))).conseq (Af (A6 Ag Ag Ag))) (Wd.ys (v:=nV .u64 (8+xs.length)) rfl rfl rfl ((Ys.p (v:=.int .u64 (Cg .u64 ((8+xs.length:Nat):Int)))).conseq (Af (Cc Ag Ag))) ?_))))
  refine Ay 1 (Wd.ys rfl rfl rfl (An p5 3 0 0 Tryz.isAgg38) (Cd rfl rfl (Au [] [0] (fun w_ hm_ hl_=>Cv 2 fr Ag _)) (.inr fun _ _ h_=>h_.pick [1] Al rfl) (fun g12 hx16=>?_)))
  obtain⟨ok13,nn14⟩:=hx16
  refine Cd rfl rfl (Au [] [0,1] (fun w_ hm_ hl_=>Cv 2 to Ag _)) (.inr fun _ _ h_=>h_.pick [2] Al rfl) (fun g17 hx21=>?_)
  obtain⟨ok18,nn19⟩:=hx21
  refine Cd rfl rfl (Au [] [0,1,2] (fun w_ hm_ hl_=>Cv 2 (8+xs.length) Ag _)) (.inr fun _ _ h_=>h_.pick [3] Al rfl) (fun g22 hx26=>?_)
  obtain⟨ok23,nn24⟩:=hx26
  refine Cd rfl rfl (Au [] [0,1,2,3] (fun w_ hm_ hl_=>Cv 2 0 Ag _)) (.inr fun _ _ h_=>h_.pick [4] Al rfl) (fun g27 hx31=>?_)
  obtain⟨ok28,nn29⟩:=hx31
  refine B8 rfl rfl (Bd (mk:=fun b_=>.slice (some ⟨b_,0,none⟩) 5 5) (t:=38) (cs:=[sV g12 2,sV g17 2,sV g22 2,sV g27 2,Value.slice a xs.length cap]) rfl (fun _=>kr)) (.inr fun _ _ h_=>h_.pick [5] Al rfl) (fun p32=>Cd rfl rfl (Au [] [0,1,2,3,4,5] (fun w_ hm_ hl_=>(Ed [⟨g12.a,(be 2 fr),g12.cap⟩,⟨g17.a,(be 2 to),g17.cap⟩,⟨g22.a,(be 2 (8+xs.length)),g22.cap⟩,⟨g27.a,(be 2 0),g27.cap⟩,⟨a,xs,cap⟩] ((be 2 fr)++(be 2 to)++(be 2 (8+xs.length))++(be 2 0)++xs) (some ⟨p32,0,none⟩) 5 5 (2+2+2+2+xs.length) _ rfl (by simp[jn]) Kc (by first|exact Az (i:=0) (j:=0) (t:=38) (b:=p32) hm_ rfl rfl|(rw[show mc Ng ([⟨g12.a,(be 2 fr),g12.cap⟩,⟨g17.a,(be 2 to),g17.cap⟩,⟨g22.a,(be 2 (8+xs.length)),g22.cap⟩,⟨g27.a,(be 2 0),g27.cap⟩,⟨a,xs,cap⟩]:List SV)=[sV g12 2,sV g17 2,sV g22 2,sV g27 2,Value.slice a xs.length cap] by(simp[mc,A8,By];try omega)];exact Az (i:=0) (j:=0) (t:=38) (b:=p32) hm_ rfl rfl)) (List.forall_mem_cons.2 ⟨(FS.at (i:=4) (t:=5) hm_ rfl (Aj ok13 E5)),(List.forall_mem_cons.2 ⟨(FS.at (i:=3) (t:=5) hm_ rfl (Aj ok18 E5)),(List.forall_mem_cons.2 ⟨(FS.at (i:=2) (t:=5) hm_ rfl (Aj ok23 E5)),(List.forall_mem_cons.2 ⟨(FS.at (i:=1) (t:=5) hm_ rfl (Aj ok28 E5)),(List.forall_mem_cons.2 ⟨(hat.mem0 hm_),(fun _ h=>by cases h)⟩)⟩)⟩)⟩)⟩) I8 A5 A5))) (.inr fun _ _ h_=>h_.pick [6] Al rfl) (fun g32 hx36=>?_))
  obtain⟨ok33,nn34⟩:=hx36
  refine Wd.yc (v:=sV g32 (2+2+2+2+xs.length)) rfl rfl rfl (Ys.yc (Ys.p)) (.inl Ae) (A7 (hK11 _ _ _ (Ap [0,6] Al rfl (Ad (fun K38 hK38=>?_)))))
  refine Ad (fun K39 hK39=>Aa (Ab 1 (Ah (An p5 2 1 0 Tryz.isAgg4) (Ac ?_))))
  refine hK39 _ _ _ (Ap [0] Al rfl ?_)
  refine Ao (pl) Ae (fun h41=>?_) (fun h42=>?_)
  ·refine Ad (fun K43 hK43=>Aa (Ab 3 (Ac (hK43 _ _ _ ?_))))
   refine Aq (fn:=Tryz.f93) rfl ?_
   have hE:uE xs.length=0:=by unfold uE;rw[if_neg Ag]
   have hB:uB s d fr to pl xs=(be 2 fr)++(be 2 to)++(be 2 (8+xs.length))++(be 2 0)++xs:=by unfold uB;rw[if_neg Ag,h41];rfl
   have hn:(uB s d fr to pl xs).length=(2+2+2+2+xs.length):=by rw[Jo Ag];first|done|omega
   exact fun w_ hS_=>B9 rfl (Aw (sV g32 (2+2+2+2+xs.length))) (Aw (iV .i64 0)) hS_ ⟨g32,(by rw[hn];exact ok33),congrArg Ending.returned ((by rw[hn,hE])),(Mem.cast (by rw[hB];rfl) (hS_.pick [0] Al rfl))⟩
  ·refine Ak (hK38 _ _ _ (Ad (fun K46 hK46=>Aa (Ab 4 ?_))))
   refine Ax rfl (Au [] [0] (fun w_ hm_ hl_=>(L3 s d (17:UInt8) (2+2+2+2+xs.length) _ Ag Ag Ag))) (fun g47 ok48=>Ab 1 (Ai rfl (Bd (mk:=fun b_=>.slice (some ⟨b_,0,none⟩) 2 2) (t:=38) (cs:=[sV g47 12,sV g32 (2+2+2+2+xs.length)]) rfl (fun _=>kr)) (fun p43=>?_)))
   have hk50:=Kt (((Eg s d (17:UInt8) (2+2+2+2+xs.length))++((be 2 fr)++(be 2 to)++(be 2 (8+xs.length))++(be 2 0)++xs)))
   refine B0 (v:=nV .u16 (Dy ((Eg s d (17:UInt8) (2+2+2+2+xs.length))++((be 2 fr)++(be 2 to)++(be 2 (8+xs.length))++(be 2 0)++xs)))) (A9 (fun w_ hm_=>(Sj [⟨g47.a,(Eg s d (17:UInt8) (2+2+2+2+xs.length)),g47.cap⟩,⟨g32.a,((be 2 fr)++(be 2 to)++(be 2 (8+xs.length))++(be 2 0)++xs),g32.cap⟩] ((Eg s d (17:UInt8) (2+2+2+2+xs.length))++((be 2 fr)++(be 2 to)++(be 2 (8+xs.length))++(be 2 0)++xs)) (some ⟨p43,0,none⟩) 2 2 (12+(2+2+2+2+xs.length)) _ rfl (by simp[jn]) Kc (by first|exact Az (i:=0) (j:=0) (t:=38) (b:=p43) hm_ rfl rfl|(rw[show mc Ng ([⟨g47.a,(Eg s d (17:UInt8) (2+2+2+2+xs.length)),g47.cap⟩,⟨g32.a,((be 2 fr)++(be 2 to)++(be 2 (8+xs.length))++(be 2 0)++xs),g32.cap⟩]:List SV)=[sV g47 12,sV g32 (2+2+2+2+xs.length)] by(simp[mc,A8,By];try omega)];exact Az (i:=0) (j:=0) (t:=38) (b:=p43) hm_ rfl rfl)) (List.forall_mem_cons.2 ⟨(FS.at (i:=1) (t:=5) hm_ rfl (Aj ok48 (by rw[Da,By]))),(List.forall_mem_cons.2 ⟨(FS.at (i:=2) (t:=5) hm_ rfl (Aj ok33 Mb)),(fun _ h=>by cases h)⟩)⟩) I8 A5 A5))) (Ab 1 (Ac (hK46 _ _ _ (Ap [2] Al rfl ?_))))
   refine Ad (fun K52 hK52=>Ad (fun K53 hK53=>?_))
   refine Aa (Ab 2 (Ac (hK53 _ _ _ ?_)))
   refine Ao (((Dy ((Eg s d (17:UInt8) (2+2+2+2+xs.length))++((be 2 fr)++(be 2 to)++(be 2 (8+xs.length))++(be 2 0)++xs)):Nat):Int)==0) Ae (fun h55=>?_) (fun h56=>?_)
   ·have qh55:=h55;try simp only[zA]at qh55
    refine Aa (Ab 1 (Ah (v:=nV .u16 (65535-(Dy ((Eg s d (17:UInt8) (2+2+2+2+xs.length))++((be 2 fr)++(be 2 to)++(be 2 (8+xs.length))++(be 2 0)++xs))))) ((Ys.p (v:=.int .u16 (Pv .u16 ((65535:Nat):Int) (Dy ((Eg s d (17:UInt8) (2+2+2+2+xs.length))++((be 2 fr)++(be 2 to)++(be 2 (8+xs.length))++(be 2 0)++xs)):Int)))).conseq (Af (Hb rfl H1 65535 rfl))) (Ab 1 (Ac ?_))))
    refine hK52 _ _ _ (Ad (fun K58 hK58=>?_))
    refine Aa (Ab 2 (Ax rfl (Au [0] [] (fun w_ hm_ hl_=>(Iy g32 ((be 2 fr)++(be 2 to)++(be 2 (8+xs.length))++(be 2 0)++xs) (2+2+2+2+xs.length) 6 (65535-(Dy ((Eg s d (17:UInt8) (2+2+2+2+xs.length))++((be 2 fr)++(be 2 to)++(be 2 (8+xs.length))++(be 2 0)++xs)))) _ _ Xw hl_ ok33 (nn34 A5) M8 M8 Ag))) (fun g59 hx63=>?_)))
    obtain⟨ok60,nn61⟩:=hx63
    refine Ab 2 (Ac (hK58 _ _ _ (Aq (fn:=Tryz.f93) rfl ?_)))
    have hE:uE xs.length=0:=by unfold uE;rw[if_neg Ag]
    have hl8:2+2+2+2+xs.length=8+xs.length:=by first|omega|(simp[A8];omega)
    have hq:uC s d fr to xs=Dy ((Eg s d (17:UInt8) (2+2+2+2+xs.length))++((be 2 fr)++(be 2 to)++(be 2 (8+xs.length))++(be 2 0)++xs)):=by unfold uC uH;rw[hl8];first|done|rfl
    have hc0:(Dy ((Eg s d (17:UInt8) (2+2+2+2+xs.length))++((be 2 fr)++(be 2 to)++(be 2 (8+xs.length))++(be 2 0)++xs))=0):=by have z_:=qh55;omega
    have hB:uB s d fr to pl xs=Hl ((be 2 fr)++(be 2 to)++(be 2 (8+xs.length))++(be 2 0)++xs) 6 (65535-(Dy ((Eg s d (17:UInt8) (2+2+2+2+xs.length))++((be 2 fr)++(be 2 to)++(be 2 (8+xs.length))++(be 2 0)++xs)))):=by unfold uB Es;rw[if_neg Ag,h42,hq,if_pos hc0];(try rw[hc0]);first|done|rfl
    have hn:(uB s d fr to pl xs).length=2+2+2+2+xs.length:=by rw[Jo Ag];first|done|omega
    exact fun w_ hS_=>B9 rfl (Aw (sV g59 (2+2+2+2+xs.length))) (Aw (iV .i64 0)) hS_ ⟨g59,(by rw[hn];exact ok60),congrArg Ending.returned ((by rw[hn,hE])),(Mem.cast (by rw[hB];rfl) (hS_.pick [0] Al rfl))⟩
   ·have qh56:=h56;try simp only[zA]at qh56
    refine Ak (hK52 _ _ _ (Ad (fun K66 hK66=>Aa (Ab 2 ?_))))
    refine Ax rfl (Au [0] [] (fun w_ hm_ hl_=>(Iy g32 ((be 2 fr)++(be 2 to)++(be 2 (8+xs.length))++(be 2 0)++xs) (2+2+2+2+xs.length) 6 (Dy ((Eg s d (17:UInt8) (2+2+2+2+xs.length))++((be 2 fr)++(be 2 to)++(be 2 (8+xs.length))++(be 2 0)++xs))) _ _ Xw hl_ ok33 (nn34 A5) M8 M8 Ag))) (fun g67 hx71=>?_)
    obtain⟨ok68,nn69⟩:=hx71
    refine Ab 2 (Ac (hK66 _ _ _ (Aq (fn:=Tryz.f93) rfl ?_)))
    have hE:uE xs.length=0:=by unfold uE;rw[if_neg Ag]
    have hl8:2+2+2+2+xs.length=8+xs.length:=by first|omega|(simp[A8];omega)
    have hq:uC s d fr to xs=Dy ((Eg s d (17:UInt8) (2+2+2+2+xs.length))++((be 2 fr)++(be 2 to)++(be 2 (8+xs.length))++(be 2 0)++xs)):=by unfold uC uH;rw[hl8];first|done|rfl
    have hc0: ¬(Dy ((Eg s d (17:UInt8) (2+2+2+2+xs.length))++((be 2 fr)++(be 2 to)++(be 2 (8+xs.length))++(be 2 0)++xs))=0):=by have z_:=qh56;omega
    have hB:uB s d fr to pl xs=Hl ((be 2 fr)++(be 2 to)++(be 2 (8+xs.length))++(be 2 0)++xs) 6 (Dy ((Eg s d (17:UInt8) (2+2+2+2+xs.length))++((be 2 fr)++(be 2 to)++(be 2 (8+xs.length))++(be 2 0)++xs))):=by unfold uB Es;rw[if_neg Ag,h42,hq,if_neg hc0];first|done|rfl
    have hn:(uB s d fr to pl xs).length=2+2+2+2+xs.length:=by rw[Jo Ag];first|done|omega
    exact fun w_ hS_=>B9 rfl (Aw (sV g67 (2+2+2+2+xs.length))) (Aw (iV .i64 0)) hS_ ⟨g67,(by rw[hn];exact ok68),congrArg Ending.returned ((by rw[hn,hE])),(Mem.cast (by rw[hB];rfl) (hS_.pick [0] Al rfl))⟩
abbrev Qf(a:Option Addr)(cap fr p5 to:Nat)(pl:Bool)(xs:List UInt8):List Blk:=[cb p5 [nV .u16 fr,nV .u16 to,bV pl,sL a xs.length cap] 124]
theorem Aey(s d fr to:Nat)(pl:Bool)(xs:List UInt8)(a:Option Addr)(cap:Nat)(w:World)(hat:At w a (Ci xs))(hs:s<4294967296)(hd:d<4294967296)(hf:fr<65536)(ht:to<65536)(hl:xs.length≤100000)(hlc:xs.length≤cap):Calls Tryz.prog 49 #[nV .u32 s,nV .u32 d,aV [nV .u16 fr,nV .u16 to,bV pl,sL a xs.length cap]] w (Bj w (fun g:FS=>g.ok 1 (uB s d fr to pl xs).length) (fun g=>.tuple #[.slice g.a (uB s d fr to pl xs).length g.cap,.int .i64 (uE xs.length)]) [] (fun g=>[g.seg 5 (Ci (uB s d fr to pl xs))])):=by
 refine Ar (M:=[]) (LL:=[]) (n:=48) Tryz.func49 rfl rfl A5 (Mem.refl _) (Ad (fun K1 hK1=>?_))
 refine Aa (Ai rfl (Bx [nV .u16 fr,nV .u16 to,bV pl,sL a xs.length cap] rfl) (fun p5=>?_))
 refine Ab 2 (Ac (hK1 _ _ _ (Ad (fun K3 hK3=>Ad (fun K4 hK4=>?_)))))
 refine Aa (Ab 1 (Ah (An p5 3 0 0 Tryz.isAgg38) (Ab 2 (Ac ?_))))
 refine hK4 _ _ _ ?_
 refine Ao (decide (((xs.length:Nat):Int)>1472)) Ae (fun h6=>?_) (fun h7=>?_)
 ·have qh6:=h6;try simp only[zA]at qh6
  refine Ad (fun K8 hK8=>Aa (Ai rfl (Bd (mk:=fun b_=>.slice (some ⟨b_,0,none⟩) 0 0) (t:=5) (cs:=[]) rfl (fun _=>kr)) (fun p14=>Ab 2 (Ac ?_))))
  refine hK8 _ _ _ (Ap [0] Al rfl (Aq (fn:=Tryz.f49) rfl ?_))
  have hE:uE xs.length=14:=by unfold uE;rw[if_pos Ag]
  have hB:uB s d fr to pl xs=[]:=by unfold uB;rw[if_pos Ag]
  exact fun w_ hS_=>B9 rfl (Aw (sL (some ⟨p14,0,none⟩) 0 0)) (Aw (iV .i64 14)) hS_ ⟨(FS.mk false p14 0 []),(by rw[hB];exact(Dp Al)),congrArg Ending.returned ((by rw[hB,hE];rfl)),(Mem.cast (by rw[hB];rfl) (hS_.pick [0] Al rfl))⟩
 ·have qh7:=h7;try simp only[zA]at qh7
  refine Ak (hK3 _ _ _ (Ad (fun K11 hK11=>Dh [(0,true),(1,true),(2,true),(4,true),(5,true),(6,true),(3,false),(7,false),(8,false),(9,false)] [0,1,2,4,5,6] (Ay 1 ?_))))
  refine Wd.ys rfl rfl rfl (An p5 0 0 0 Tryz.isAgg22) (Wd.ys (v:=nV .i64 fr) rfl rfl rfl ((Ys.p (v:=.int .i64 (Cg .i64 (fr:Int)))).conseq (Af (Cz Ag Ag))) (Ay 1 (Wd.ys rfl rfl rfl (An p5 1 0 0 Tryz.isAgg22) (Wd.ys (v:=nV .i64 to) rfl rfl rfl ((Ys.p (v:=.int .i64 (Cg .i64 (to:Int)))).conseq (Af (Cz Ag Ag))) ?_))))
  refine Cd rfl rfl (Au [] [0] (fun w_ hm_ hl_=>Uc fr _ Ag)) (.inr fun _ _ h_=>h_.pick [1] Al rfl) (fun g12 hx16=>?_)
  obtain⟨ok13,nn14⟩:=hx16
  refine Cd rfl rfl (Au [] [0,1] (fun w_ hm_ hl_=>Uc to _ Ag)) (.inr fun _ _ h_=>h_.pick [2] Al rfl) (fun g17 hx21=>?_)
  obtain⟨ok18,nn19⟩:=hx21
  refine Cd rfl rfl (HtS.append (eu:=5) (xv:=sV g17 2) (i:=1) (g:=g12) (e:=5) (ii:=(Tryz.prog.info? 5).getD default) (z:=iV .u8 0) (sz:=1) (bytes:=1) (nn:=2) (m:=2) (k:=2+2) (xs:=mc b8 (be 2 fr)) (news:=mc b8 (be 2 to)) (cs':=mc b8 ((be 2 fr)++(be 2 to))) (Lo:=fun g22=>[g17.seg 5 (mc b8 (be 2 to)),g22.seg 5 (mc b8 ((be 2 fr)++(be 2 to))),Qf a cap fr p5 to pl xs]) rfl rfl Ae Ae Ae Ae Ae Ae Ae Ae Ae rfl ok13 (by rw[Da,A8,Nat.mul_one]) (fun _=>rfl) (Src.at (a:=g17.a) S7 (fun w_ h_=>(FS.at (i:=0) (t:=5) h_ rfl (Aj ok18 (by rw[Da,A8,Nat.mul_one]))))) S7 (Dl (fun _=>rfl) _) Ef Gv Ef (E1 _ _) (fun _=>rfl)) (.inr fun _ _ h_=>h_.pick [2] Al rfl) (fun g22 hx27=>?_)
  obtain⟨ok23,hn24,hn25⟩:=hx27
  refine Wd.yc (v:=sV g22 (2+2)) rfl rfl rfl (Ys.yc (Ys.p)) (.inl Ae) (A7 (hK11 _ _ _ (Ap [1,2] Al rfl (Ad (fun K29 hK29=>?_)))))
  refine Add (w0:=w) (M:=[]) K29 [0,1,5,8] (fun(g30:FS) (g35:FS) (p31:Nat) (g41:FS) (g47:FS)=>[nV .u32 s,nV .u32 d,pV p5 0,sV g47 ((((2+2)+2)+2)+xs.length)]) (fun(g30:FS) (g35:FS) (p31:Nat) (g41:FS) (g47:FS)=>g30.ok 1 2∧g30.nil=false∧g35.ok 1 ((2+2)+2)∧(0<(2+2)+2→g35.nil=false)∧(g22.nil=false→g35.nil=false)∧g41.ok 1 (((2+2)+2)+2)∧(0<((2+2)+2)+2→g41.nil=false)∧(g35.nil=false→g41.nil=false)∧g47.ok 1 ((((2+2)+2)+2)+xs.length)∧(0<(((2+2)+2)+2)+xs.length→g47.nil=false)∧(g41.nil=false→g47.nil=false)) (fun(g30:FS) (g35:FS) (p31:Nat) (g41:FS) (g47:FS)=>[[cb p31 Na 5],g30.seg 5 (mc b8 (be 2 (8+xs.length))),g47.seg 5 (mc b8 (((((be 2 fr)++(be 2 to))++(be 2 (8+xs.length)))++[(0:UInt8),(0:UInt8)])++xs)),Qf a cap fr p5 to pl xs]) (fun J30 hJ30=>?_) (fun g30 g35 p31 g41 g47 f31 hp32=>?_)
  ·refine E2 [0,1,2,3,4,9,10,12] (Mem w [] [Qf a cap fr p5 to pl xs]) Ae Ae (fun _ _ h_=>h_.drawn _) (Wa.ys (v:=sV g22 (2+2)) (i:=0) Ae Ae Ae Ae (fun _ h_=>h_.pick [1] Al rfl) rfl rfl rfl (Ys.p) (Wa.ys (v:=pV p5 3) (i:=1) Ae Ae Ae Ae (fun _ h_=>h_.pick [1] Al rfl) rfl rfl rfl (Ys.p) (Wa.ys (i:=2) Ae Ae Ae Ae (fun _ h_=>h_.pick [1] Al rfl) rfl rfl rfl (An p5 3 0 0 Tryz.isAgg38) (Wa.ys (v:=nV .i64 xs.length) (i:=3) Ae Ae Ae Ae (fun _ h_=>h_.pick [1] Al rfl) rfl rfl rfl (Ys.p) ?_))))
   refine Wa.ys (v:=nV .i64 (8+xs.length)) (i:=4) Ae Ae Ae Ae (fun _ h_=>h_.pick [1] Al rfl) rfl rfl rfl ((Ys.p (v:=.int .i64 (Bt .i64 8 (xs.length:Int)))).conseq (Af (A6 Ag Ag Ag))) (Wa.ys (v:=pV p5 3) (i:=9) Ae Ae Ae Ae (fun _ h_=>h_.pick [1] Al rfl) rfl rfl rfl (Ys.p) (Wa.ys (i:=10) Ae Ae Ae Ae (fun _ h_=>h_.pick [1] Al rfl) rfl rfl rfl (An p5 3 0 0 Tryz.isAgg38) ?_))
   refine C3 (i:=5) (j:=7) Ae ?_ ?_
   ·refine Bv rfl rfl (Au [] [0,1] (fun w_ hm_ hl_=>Uc (8+xs.length) _ Ag)) (.inr fun _ _ h_=>h_.pick [2] Al rfl) (fun g33 hx37=>?_)
    obtain⟨ok34,nn35⟩:=hx37
    refine C3 (i:=6) (j:=7) Ae ?_ ?_
    ·refine Bv rfl rfl (HtS.append (eu:=5) (xv:=sV g33 2) (i:=1) (g:=g22) (e:=5) (ii:=(Tryz.prog.info? 5).getD default) (z:=iV .u8 0) (sz:=1) (bytes:=1) (nn:=2+2) (m:=2) (k:=(2+2)+2) (xs:=mc b8 ((be 2 fr)++(be 2 to))) (news:=mc b8 (be 2 (8+xs.length))) (cs':=mc b8 (((be 2 fr)++(be 2 to))++(be 2 (8+xs.length)))) (Lo:=fun g38=>[g33.seg 5 (mc b8 (be 2 (8+xs.length))),g38.seg 5 (mc b8 (((be 2 fr)++(be 2 to))++(be 2 (8+xs.length)))),Qf a cap fr p5 to pl xs]) rfl rfl Ae Ae Ae Ae Ae Ae Ae Ae Ae rfl ok23 Mb (fun _=>rfl) (Src.at (a:=g33.a) S7 (fun w_ h_=>(FS.at (i:=0) (t:=5) h_ rfl (Aj ok34 (by rw[Da,A8,Nat.mul_one]))))) S7 (Dl (fun _=>rfl) _) Ef Gv Ef (E1 _ _) (fun _=>rfl)) (.inr fun _ _ h_=>h_.pick [2] Al rfl) (fun g38 hx43=>?_)
     obtain⟨ok39,hn40,hn41⟩:=hx43
     refine A3 (i:=7) Ae (Ch rfl rfl (Bd (mk:=fun b_=>.slice (some ⟨b_,0,none⟩) 2 2) (t:=5) (cs:=Na) rfl (fun _=>kr)) (.inr fun _ _ h_=>h_.pick [3] Al rfl) (fun p31=>?_))
     refine A3 (i:=8) Ae (Bv rfl rfl (HtS.append (eu:=5) (xv:=sL (some ⟨p31,0,none⟩) 2 2) (i:=2) (g:=g38) (e:=5) (ii:=(Tryz.prog.info? 5).getD default) (z:=iV .u8 0) (sz:=1) (bytes:=1) (nn:=(2+2)+2) (m:=2) (k:=((2+2)+2)+2) (xs:=mc b8 (((be 2 fr)++(be 2 to))++(be 2 (8+xs.length)))) (news:=mc b8 [(0:UInt8),(0:UInt8)]) (cs':=mc b8 ((((be 2 fr)++(be 2 to))++(be 2 (8+xs.length)))++[(0:UInt8),(0:UInt8)])) (Lo:=fun g44=>[[cb p31 Na 5],g33.seg 5 (mc b8 (be 2 (8+xs.length))),g44.seg 5 (mc b8 ((((be 2 fr)++(be 2 to))++(be 2 (8+xs.length)))++[(0:UInt8),(0:UInt8)])),Qf a cap fr p5 to pl xs]) rfl rfl Ae Ae Ae Ae Ae Ae Ae Ae Ae rfl ok39 Mb (fun _=>rfl) (Src.at (a:=some ⟨p31,0,none⟩) S7 (fun w_ h_=>(Az (i:=0) (j:=0) (t:=5) (b:=p31) h_ rfl rfl))) S7 (Dl (fun _=>rfl) _) Ef Gv Ef (E1 _ _) (fun _=>rfl)) (.inr fun _ _ h_=>h_.pick [3] Al rfl) (fun g44 hx49=>?_))
     obtain⟨ok45,hn46,hn47⟩:=hx49
     refine A3 (i:=11) Ae (Bv rfl rfl (HtS.append (eu:=5) (xv:=sL a xs.length cap) (i:=2) (g:=g44) (e:=5) (ii:=(Tryz.prog.info? 5).getD default) (z:=iV .u8 0) (sz:=1) (bytes:=1) (nn:=((2+2)+2)+2) (m:=xs.length) (k:=(((2+2)+2)+2)+xs.length) (xs:=mc b8 ((((be 2 fr)++(be 2 to))++(be 2 (8+xs.length)))++[(0:UInt8),(0:UInt8)])) (news:=mc b8 xs) (cs':=mc b8 (((((be 2 fr)++(be 2 to))++(be 2 (8+xs.length)))++[(0:UInt8),(0:UInt8)])++xs)) (Lo:=fun g50=>[[cb p31 Na 5],g33.seg 5 (mc b8 (be 2 (8+xs.length))),g50.seg 5 (mc b8 (((((be 2 fr)++(be 2 to))++(be 2 (8+xs.length)))++[(0:UInt8),(0:UInt8)])++xs)),Qf a cap fr p5 to pl xs]) rfl rfl Ae Ae Ae Ae Ae Ae Ae Ae Ae rfl ok45 Mb (fun _=>rfl) (Src.at (a:=a) (Ba _) (fun w_ h_=>(hat.mem0 h_))) (Ba _) (Dl (fun _=>rfl) _) Ef Gv Ef (E1 _ _) (fun _=>rfl)) (.inr fun _ _ h_=>h_.pick [3] Al rfl) (fun g50 hx55=>?_))
     obtain⟨ok51,hn52,hn53⟩:=hx55
     refine Wa.ys (v:=sV g50 ((((2+2)+2)+2)+xs.length)) (i:=12) Ae Ae Ae Ae (fun _ h_=>h_.pick [3] Al rfl) rfl rfl rfl (Ys.p) (D1 Ae ?_)
     refine fun w_ h_=>hJ30 g33 g38 p31 g44 g50 _ w_ ⟨ok34,nn35,ok39,hn40,hn41,ok45,hn46,hn47,ok51,hn52,hn53⟩ Ae h_
    ·refine Ch rfl rfl (Bd (mk:=fun b_=>.slice (some ⟨b_,0,none⟩) 2 2) (t:=5) (cs:=Na) rfl (fun _=>kr)) (.inr fun _ _ h_=>h_.pick [3] Al rfl) (fun p31=>A3 (i:=6) Ae (Bv rfl rfl (HtS.append (eu:=5) (xv:=sV g33 2) (i:=2) (g:=g22) (e:=5) (ii:=(Tryz.prog.info? 5).getD default) (z:=iV .u8 0) (sz:=1) (bytes:=1) (nn:=2+2) (m:=2) (k:=(2+2)+2) (xs:=mc b8 ((be 2 fr)++(be 2 to))) (news:=mc b8 (be 2 (8+xs.length))) (cs':=mc b8 (((be 2 fr)++(be 2 to))++(be 2 (8+xs.length)))) (Lo:=fun g56=>[[cb p31 Na 5],g33.seg 5 (mc b8 (be 2 (8+xs.length))),g56.seg 5 (mc b8 (((be 2 fr)++(be 2 to))++(be 2 (8+xs.length)))),Qf a cap fr p5 to pl xs]) rfl rfl Ae Ae Ae Ae Ae Ae Ae Ae Ae rfl ok23 Mb (fun _=>rfl) (Src.at (a:=g33.a) S7 (fun w_ h_=>(FS.at (i:=1) (t:=5) h_ rfl (Aj ok34 (by rw[Da,A8,Nat.mul_one]))))) S7 (Dl (fun _=>rfl) _) Ef Gv Ef (E1 _ _) (fun _=>rfl)) (.inr fun _ _ h_=>h_.pick [3] Al rfl) (fun g56 hx61=>?_)))
     obtain⟨ok57,hn58,hn59⟩:=hx61
     refine A3 (i:=8) Ae (Bv rfl rfl (HtS.append (eu:=5) (xv:=sL (some ⟨p31,0,none⟩) 2 2) (i:=2) (g:=g56) (e:=5) (ii:=(Tryz.prog.info? 5).getD default) (z:=iV .u8 0) (sz:=1) (bytes:=1) (nn:=(2+2)+2) (m:=2) (k:=((2+2)+2)+2) (xs:=mc b8 (((be 2 fr)++(be 2 to))++(be 2 (8+xs.length)))) (news:=mc b8 [(0:UInt8),(0:UInt8)]) (cs':=mc b8 ((((be 2 fr)++(be 2 to))++(be 2 (8+xs.length)))++[(0:UInt8),(0:UInt8)])) (Lo:=fun g62=>[[cb p31 Na 5],g33.seg 5 (mc b8 (be 2 (8+xs.length))),g62.seg 5 (mc b8 ((((be 2 fr)++(be 2 to))++(be 2 (8+xs.length)))++[(0:UInt8),(0:UInt8)])),Qf a cap fr p5 to pl xs]) rfl rfl Ae Ae Ae Ae Ae Ae Ae Ae Ae rfl ok57 Mb (fun _=>rfl) (Src.at (a:=some ⟨p31,0,none⟩) S7 (fun w_ h_=>(Az (i:=0) (j:=0) (t:=5) (b:=p31) h_ rfl rfl))) S7 (Dl (fun _=>rfl) _) Ef Gv Ef (E1 _ _) (fun _=>rfl)) (.inr fun _ _ h_=>h_.pick [3] Al rfl) (fun g62 hx67=>?_))
     obtain⟨ok63,hn64,hn65⟩:=hx67
     refine A3 (i:=11) Ae (Bv rfl rfl (HtS.append (eu:=5) (xv:=sL a xs.length cap) (i:=2) (g:=g62) (e:=5) (ii:=(Tryz.prog.info? 5).getD default) (z:=iV .u8 0) (sz:=1) (bytes:=1) (nn:=((2+2)+2)+2) (m:=xs.length) (k:=(((2+2)+2)+2)+xs.length) (xs:=mc b8 ((((be 2 fr)++(be 2 to))++(be 2 (8+xs.length)))++[(0:UInt8),(0:UInt8)])) (news:=mc b8 xs) (cs':=mc b8 (((((be 2 fr)++(be 2 to))++(be 2 (8+xs.length)))++[(0:UInt8),(0:UInt8)])++xs)) (Lo:=fun g68=>[[cb p31 Na 5],g33.seg 5 (mc b8 (be 2 (8+xs.length))),g68.seg 5 (mc b8 (((((be 2 fr)++(be 2 to))++(be 2 (8+xs.length)))++[(0:UInt8),(0:UInt8)])++xs)),Qf a cap fr p5 to pl xs]) rfl rfl Ae Ae Ae Ae Ae Ae Ae Ae Ae rfl ok63 Mb (fun _=>rfl) (Src.at (a:=a) (Ba _) (fun w_ h_=>(hat.mem0 h_))) (Ba _) (Dl (fun _=>rfl) _) Ef Gv Ef (E1 _ _) (fun _=>rfl)) (.inr fun _ _ h_=>h_.pick [3] Al rfl) (fun g68 hx73=>?_))
     obtain⟨ok69,hn70,hn71⟩:=hx73
     refine Wa.ys (v:=sV g68 ((((2+2)+2)+2)+xs.length)) (i:=12) Ae Ae Ae Ae (fun _ h_=>h_.pick [3] Al rfl) rfl rfl rfl (Ys.p) (D1 Ae ?_)
     refine fun w_ h_=>hJ30 g33 g56 p31 g62 g68 _ w_ ⟨ok34,nn35,ok57,hn58,hn59,ok63,hn64,hn65,ok69,hn70,hn71⟩ Ae h_
   ·refine Ch rfl rfl (Bd (mk:=fun b_=>.slice (some ⟨b_,0,none⟩) 2 2) (t:=5) (cs:=Na) rfl (fun _=>kr)) (.inr fun _ _ h_=>h_.pick [2] Al rfl) (fun p31=>A3 (i:=5) Ae (Bv rfl rfl (Au [] [0,1,2] (fun w_ hm_ hl_=>Uc (8+xs.length) _ Ag)) (.inr fun _ _ h_=>h_.pick [3] Al rfl) (fun g74 hx78=>?_)))
    obtain⟨ok75,nn76⟩:=hx78
    refine A3 (i:=6) Ae (Bv rfl rfl (HtS.append (eu:=5) (xv:=sV g74 2) (i:=2) (g:=g22) (e:=5) (ii:=(Tryz.prog.info? 5).getD default) (z:=iV .u8 0) (sz:=1) (bytes:=1) (nn:=2+2) (m:=2) (k:=(2+2)+2) (xs:=mc b8 ((be 2 fr)++(be 2 to))) (news:=mc b8 (be 2 (8+xs.length))) (cs':=mc b8 (((be 2 fr)++(be 2 to))++(be 2 (8+xs.length)))) (Lo:=fun g79=>[g74.seg 5 (mc b8 (be 2 (8+xs.length))),[cb p31 Na 5],g79.seg 5 (mc b8 (((be 2 fr)++(be 2 to))++(be 2 (8+xs.length)))),Qf a cap fr p5 to pl xs]) rfl rfl Ae Ae Ae Ae Ae Ae Ae Ae Ae rfl ok23 Mb (fun _=>rfl) (Src.at (a:=g74.a) S7 (fun w_ h_=>(FS.at (i:=0) (t:=5) h_ rfl (Aj ok75 (by rw[Da,A8,Nat.mul_one]))))) S7 (Dl (fun _=>rfl) _) Ef Gv Ef (E1 _ _) (fun _=>rfl)) (.inr fun _ _ h_=>h_.pick [3] Al rfl) (fun g79 hx84=>?_))
    obtain⟨ok80,hn81,hn82⟩:=hx84
    refine A3 (i:=8) Ae (Bv rfl rfl (HtS.append (eu:=5) (xv:=sL (some ⟨p31,0,none⟩) 2 2) (i:=2) (g:=g79) (e:=5) (ii:=(Tryz.prog.info? 5).getD default) (z:=iV .u8 0) (sz:=1) (bytes:=1) (nn:=(2+2)+2) (m:=2) (k:=((2+2)+2)+2) (xs:=mc b8 (((be 2 fr)++(be 2 to))++(be 2 (8+xs.length)))) (news:=mc b8 [(0:UInt8),(0:UInt8)]) (cs':=mc b8 ((((be 2 fr)++(be 2 to))++(be 2 (8+xs.length)))++[(0:UInt8),(0:UInt8)])) (Lo:=fun g85=>[g74.seg 5 (mc b8 (be 2 (8+xs.length))),[cb p31 Na 5],g85.seg 5 (mc b8 ((((be 2 fr)++(be 2 to))++(be 2 (8+xs.length)))++[(0:UInt8),(0:UInt8)])),Qf a cap fr p5 to pl xs]) rfl rfl Ae Ae Ae Ae Ae Ae Ae Ae Ae rfl ok80 Mb (fun _=>rfl) (Src.at (a:=some ⟨p31,0,none⟩) S7 (fun w_ h_=>(Az (i:=1) (j:=0) (t:=5) (b:=p31) h_ rfl rfl))) S7 (Dl (fun _=>rfl) _) Ef Gv Ef (E1 _ _) (fun _=>rfl)) (.inr fun _ _ h_=>h_.pick [3] Al rfl) (fun g85 hx90=>?_))
    obtain⟨ok86,hn87,hn88⟩:=hx90
    refine A3 (i:=11) Ae (Bv rfl rfl (HtS.append (eu:=5) (xv:=sL a xs.length cap) (i:=2) (g:=g85) (e:=5) (ii:=(Tryz.prog.info? 5).getD default) (z:=iV .u8 0) (sz:=1) (bytes:=1) (nn:=((2+2)+2)+2) (m:=xs.length) (k:=(((2+2)+2)+2)+xs.length) (xs:=mc b8 ((((be 2 fr)++(be 2 to))++(be 2 (8+xs.length)))++[(0:UInt8),(0:UInt8)])) (news:=mc b8 xs) (cs':=mc b8 (((((be 2 fr)++(be 2 to))++(be 2 (8+xs.length)))++[(0:UInt8),(0:UInt8)])++xs)) (Lo:=fun g91=>[g74.seg 5 (mc b8 (be 2 (8+xs.length))),[cb p31 Na 5],g91.seg 5 (mc b8 (((((be 2 fr)++(be 2 to))++(be 2 (8+xs.length)))++[(0:UInt8),(0:UInt8)])++xs)),Qf a cap fr p5 to pl xs]) rfl rfl Ae Ae Ae Ae Ae Ae Ae Ae Ae rfl ok86 Mb (fun _=>rfl) (Src.at (a:=a) (Ba _) (fun w_ h_=>(hat.mem0 h_))) (Ba _) (Dl (fun _=>rfl) _) Ef Gv Ef (E1 _ _) (fun _=>rfl)) (.inr fun _ _ h_=>h_.pick [3] Al rfl) (fun g91 hx96=>?_))
    obtain⟨ok92,hn93,hn94⟩:=hx96
    refine Wa.ys (v:=sV g91 ((((2+2)+2)+2)+xs.length)) (i:=12) Ae Ae Ae Ae (fun _ h_=>h_.pick [3] Al rfl) rfl rfl rfl (Ys.p) (D1 Ae ?_)
    refine fun w_ h_=>hJ30 g74 g79 p31 g85 g91 _ w_ ⟨ok75,nn76,ok80,hn81,hn82,ok86,hn87,hn88,ok92,hn93,hn94⟩ Ae (h_.pick [1,0,2,3] Al rfl)
  ·refine hK29 _ _ _ ?_
   obtain⟨ok31,nn32,ok36,hn37,hn38,ok42,hn43,hn44,ok48,hn49,hn50⟩:=hp32
   refine Ad (fun K97 hK97=>Ad (fun K98 hK98=>?_))
   refine Aa (Ab 1 (Ah (An p5 2 3 0 Tryz.isAgg4) (Ac (hK98 _ _ _ ?_))))
   refine Ap [2] Al rfl ?_
   refine Ao (pl) Ae (fun h100=>?_) (fun h101=>?_)
   ·refine Ad (fun K102 hK102=>Aa (Ab 3 (Ac (hK102 _ _ _ ?_))))
    refine Aq (fn:=Tryz.f49) rfl ?_
    have hE:uE xs.length=0:=by unfold uE;rw[if_neg Ag]
    have hB:uB s d fr to pl xs=((((be 2 fr)++(be 2 to))++(be 2 (8+xs.length)))++[(0:UInt8),(0:UInt8)])++xs:=by unfold uB;rw[if_neg Ag,h100];rfl
    have hn:(uB s d fr to pl xs).length=(((2+2)+2)+2)+xs.length:=by rw[Jo Ag];first|done|omega
    exact fun w_ hS_=>B9 rfl (Aw (sV g47 ((((2+2)+2)+2)+xs.length))) (Aw (iV .i64 0)) hS_ ⟨g47,(by rw[hn];exact ok48),congrArg Ending.returned ((by rw[hn,hE])),(Mem.cast (by rw[hB];rfl) (hS_.pick [0] Al rfl))⟩
   ·refine Ak (hK97 _ _ _ (Ad (fun K105 hK105=>Aa ?_)))
    have hk106:=Kt ((Eg s d (17:UInt8) (((((be 2 fr)++(be 2 to))++(be 2 (8+xs.length)))++[(0:UInt8),(0:UInt8)])++xs).length++(((((be 2 fr)++(be 2 to))++(be 2 (8+xs.length)))++[(0:UInt8),(0:UInt8)])++xs)))
    refine Ab 3 (B0 (v:=nV .u16 (Dy (Eg s d (17:UInt8) (((((be 2 fr)++(be 2 to))++(be 2 (8+xs.length)))++[(0:UInt8),(0:UInt8)])++xs).length++(((((be 2 fr)++(be 2 to))++(be 2 (8+xs.length)))++[(0:UInt8),(0:UInt8)])++xs)))) (A9 (fun w_ hm_=>(W9 s d (17:UInt8) (((((be 2 fr)++(be 2 to))++(be 2 (8+xs.length)))++[(0:UInt8),(0:UInt8)])++xs) g47.a ((((2+2)+2)+2)+xs.length) g47.cap _ (by first|rfl|(rw[List.length_take];omega)|(simp[A8,A8,By];done)|(simp[A8,A8,By];omega)) (FS.at (i:=0) (t:=5) hm_ rfl (Aj ok48 Mb)) Ag Ag (by first|omega|(simp[A8,A8,By];omega)) (ok48.le)))) (Ab 1 (Ac (hK105 _ _ _ ?_))))
    refine Ad (fun K108 hK108=>Ad (fun K109 hK109=>?_))
    refine Aa (Ab 2 (Ac (hK109 _ _ _ ?_)))
    refine Ao (((Dy (Eg s d (17:UInt8) (((((be 2 fr)++(be 2 to))++(be 2 (8+xs.length)))++[(0:UInt8),(0:UInt8)])++xs).length++(((((be 2 fr)++(be 2 to))++(be 2 (8+xs.length)))++[(0:UInt8),(0:UInt8)])++xs)):Nat):Int)==0) Ae (fun h111=>?_) (fun h112=>?_)
    ·have qh111:=h111;try simp only[zA]at qh111
     refine Aa (Ab 1 (Ac (hK108 _ _ _ (Ad (fun K114 hK114=>?_)))))
     refine Aa (Ab 2 (Ax rfl (Au [0] [] (fun w_ hm_ hl_=>(Rb g47 (((((be 2 fr)++(be 2 to))++(be 2 (8+xs.length)))++[(0:UInt8),(0:UInt8)])++xs) ((((2+2)+2)+2)+xs.length) 6 65535 _ _ Xw hl_ ok48 (hn49 Ex) M8 M8 Ag))) (fun g115 hx119=>?_)))
     obtain⟨ok116,nn117⟩:=hx119
     refine Ab 2 (Ac (hK114 _ _ _ (Aq (fn:=Tryz.f49) rfl ?_)))
     have hE:uE xs.length=0:=by unfold uE;rw[if_neg Ag]
     have hl8:(((((be 2 fr)++(be 2 to))++(be 2 (8+xs.length)))++[(0:UInt8),(0:UInt8)])++xs).length=8+xs.length:=by first|omega|(simp[A8];omega)
     have hq:uC s d fr to xs=Dy (Eg s d (17:UInt8) (((((be 2 fr)++(be 2 to))++(be 2 (8+xs.length)))++[(0:UInt8),(0:UInt8)])++xs).length++(((((be 2 fr)++(be 2 to))++(be 2 (8+xs.length)))++[(0:UInt8),(0:UInt8)])++xs)):=by unfold uC uH;rw[hl8];first|done|rfl
     have hc0:(Dy (Eg s d (17:UInt8) (((((be 2 fr)++(be 2 to))++(be 2 (8+xs.length)))++[(0:UInt8),(0:UInt8)])++xs).length++(((((be 2 fr)++(be 2 to))++(be 2 (8+xs.length)))++[(0:UInt8),(0:UInt8)])++xs))=0):=by have z_:=qh111;omega
     have hB:uB s d fr to pl xs=Hl (((((be 2 fr)++(be 2 to))++(be 2 (8+xs.length)))++[(0:UInt8),(0:UInt8)])++xs) 6 65535:=by unfold uB Es;rw[if_neg Ag,h101,hq,if_pos hc0];(try rw[hc0]);first|done|rfl
     have hn:(uB s d fr to pl xs).length=(((2+2)+2)+2)+xs.length:=by rw[Jo Ag];first|done|omega
     exact fun w_ hS_=>B9 rfl (Aw (sV g115 ((((2+2)+2)+2)+xs.length))) (Aw (iV .i64 0)) hS_ ⟨g115,(by rw[hn];exact ok116),congrArg Ending.returned ((by rw[hn,hE])),(Mem.cast (by rw[hB];rfl) (hS_.pick [0] Al rfl))⟩
    ·have qh112:=h112;try simp only[zA]at qh112
     refine Ak (hK108 _ _ _ (Ad (fun K122 hK122=>Aa (Ab 2 ?_))))
     refine Ax rfl (Au [0] [] (fun w_ hm_ hl_=>(Rb g47 (((((be 2 fr)++(be 2 to))++(be 2 (8+xs.length)))++[(0:UInt8),(0:UInt8)])++xs) ((((2+2)+2)+2)+xs.length) 6 (Dy (Eg s d (17:UInt8) (((((be 2 fr)++(be 2 to))++(be 2 (8+xs.length)))++[(0:UInt8),(0:UInt8)])++xs).length++(((((be 2 fr)++(be 2 to))++(be 2 (8+xs.length)))++[(0:UInt8),(0:UInt8)])++xs))) _ _ Xw hl_ ok48 (hn49 Ex) M8 M8 Ag))) (fun g123 hx127=>?_)
     obtain⟨ok124,nn125⟩:=hx127
     refine Ab 2 (Ac (hK122 _ _ _ (Aq (fn:=Tryz.f49) rfl ?_)))
     have hE:uE xs.length=0:=by unfold uE;rw[if_neg Ag]
     have hl8:(((((be 2 fr)++(be 2 to))++(be 2 (8+xs.length)))++[(0:UInt8),(0:UInt8)])++xs).length=8+xs.length:=by first|omega|(simp[A8];omega)
     have hq:uC s d fr to xs=Dy (Eg s d (17:UInt8) (((((be 2 fr)++(be 2 to))++(be 2 (8+xs.length)))++[(0:UInt8),(0:UInt8)])++xs).length++(((((be 2 fr)++(be 2 to))++(be 2 (8+xs.length)))++[(0:UInt8),(0:UInt8)])++xs)):=by unfold uC uH;rw[hl8];first|done|rfl
     have hc0: ¬(Dy (Eg s d (17:UInt8) (((((be 2 fr)++(be 2 to))++(be 2 (8+xs.length)))++[(0:UInt8),(0:UInt8)])++xs).length++(((((be 2 fr)++(be 2 to))++(be 2 (8+xs.length)))++[(0:UInt8),(0:UInt8)])++xs))=0):=by have z_:=qh112;omega
     have hB:uB s d fr to pl xs=Hl (((((be 2 fr)++(be 2 to))++(be 2 (8+xs.length)))++[(0:UInt8),(0:UInt8)])++xs) 6 (Dy (Eg s d (17:UInt8) (((((be 2 fr)++(be 2 to))++(be 2 (8+xs.length)))++[(0:UInt8),(0:UInt8)])++xs).length++(((((be 2 fr)++(be 2 to))++(be 2 (8+xs.length)))++[(0:UInt8),(0:UInt8)])++xs))):=by unfold uB Es;rw[if_neg Ag,h101,hq,if_neg hc0];first|done|rfl
     have hn:(uB s d fr to pl xs).length=(((2+2)+2)+2)+xs.length:=by rw[Jo Ag];first|done|omega
     exact fun w_ hS_=>B9 rfl (Aw (sV g123 ((((2+2)+2)+2)+xs.length))) (Aw (iV .i64 0)) hS_ ⟨g123,(by rw[hn];exact ok124),congrArg Ending.returned ((by rw[hn,hE])),(Mem.cast (by rw[hB];rfl) (hS_.pick [0] Al rfl))⟩
end Go.Proofs.YtmonlaoaengfdaaGreatDoor.Oct
