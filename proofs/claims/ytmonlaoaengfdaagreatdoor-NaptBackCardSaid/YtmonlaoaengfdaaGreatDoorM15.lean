import Derived.Test.YtmonlaoaengfdaaGreatDoorM14
import Derived.Test.YtmonlaoaengfdaaGreatDoorM9
set_option linter.unusedVariables false
set_option linter.unusedSimpArgs false
set_option maxRecDepth 20000
namespace Go.Proofs.YtmonlaoaengfdaaGreatDoor.Oct
open Go.RowKit Base
attribute [local irreducible] Ys Yc Ht HtS HtIn Wl Wd W Mem pf D4 Wa Wo
def a4(xs:List UInt8)(k:Nat):Nat:=w2 xs k*65536+w2 xs (k+2)
theorem Ab9(xs:List UInt8)(k:Nat):a4 xs k<4294967296:=by unfold a4;have:=Dx xs k;have:=Dx xs (k+2);omega
theorem Amd(xs:List UInt8)(k:Nat):(xs.getD k 0).toNat*256%65536|||(xs.getD (k+1) 0).toNat=w2 xs k:=by
  have h1:=UInt8.toNat_lt (xs.getD k 0);have h2:=UInt8.toNat_lt (xs.getD (k+1) 0)
  rw[Nat.mod_eq_of_lt Ag,show(xs.getD k 0).toNat*256=(xs.getD k 0).toNat*2^8 by rfl,U4 h2]
  unfold w2;omega
theorem Ame(xs:List UInt8)(k:Nat):w2 xs k*65536%4294967296|||w2 xs (k+2)=a4 xs k:=by
  have h1:=Dx xs k;have h2:=Dx xs (k+2)
  rw[Nat.mod_eq_of_lt Ag,show w2 xs k*65536=2^16*w2 xs k by omega,←Nat.two_pow_add_eq_or_of_lt h2]
  unfold a4;omega
theorem Ajl(xs:List UInt8)(a:Option Addr)(cap k:Nat)(w:World)(hat:At w a (Ci xs))(hk:k+1<xs.length)(hl:xs.length≤1000000)(hlc:xs.length≤cap):Calls Tryz.prog 152 #[sL a xs.length cap,nV .i64 k] w (Dc w (.int .u16 (w2 xs k:Int))):=by
 refine Ar (M:=[]) (LL:=[]) (n:=18) Tryz.func152 rfl rfl A5 (Mem.refl _) (Ad (fun K1 hK1=>?_))
 refine Aa (Ab 1 (Ac (hK1 _ _ _ (Ad (fun K2 hK2=>?_)))))
 refine Dh [(0,true),(1,true),(2,true),(3,true),(4,true),(5,true),(6,true),(7,false),(8,false),(9,false),(10,false),(11,false),(12,false),(13,false)] [0,1,2,3,4,5,6] (Ay 2 (Wd.ys (v:=pL (some (Co a (k*1)))) rfl rfl rfl (Bm fun w_ h_=>Av (k:=.i64) (a:=a) (len:=xs.length) (cap:=cap) (i:=(k:Int)) (sz:=1) rfl Ae Ae Tryz.runUnderlying38 Tryz.sizeOf5 Ag Ag ((hat.mem0 h_).here Hj)) (Wd.ys (v:=nV .u8 ((xs.getD k 0).toNat)) rfl rfl rfl (Ys.ld (a:=Co a (k*1)) rfl Ae Tryz.isAgg5 (fun w_ h_=>(hat.mem0 h_).ld (Fm 0 Ex))) ?_)))
 have hb3:(xs.getD k 0).toNat<256:=UInt8.toNat_lt _
 refine Wd.ys (v:=nV .u16 ((xs.getD k 0).toNat)) rfl rfl rfl ((Ys.p (v:=.int .u16 (Cg .u16 ((xs.getD k 0).toNat:Int)))).conseq (Af (Ej Ag Ag))) (Wd.ys (v:=nV .u16 ((((xs.getD k 0).toNat)*256)%65536)) rfl rfl rfl ((Ys.p (v:=.int .u16 (Hw .u16 ((xs.getD k 0).toNat:Int) ((8:Nat):Int)))).conseq (Af (Gg rfl ((xs.getD k 0).toNat) 8 Al))) (Ay 1 (Wd.yc (v:=nV .i64 k) rfl rfl rfl (Ys.yc (Ys.p)) (.inr fun _ h_=>h_) (Wd.yc (v:=nV .i64 (k+1)) rfl rfl rfl (Ys.yc ((Ys.p (v:=.int .i64 (Bt .i64 (k:Int) 1))).conseq (Af (A6 Ag Ag Ag)))) (.inr fun _ h_=>h_) ?_))))
 refine Wd.yc (v:=pL (some (Co a ((k+1)*1)))) rfl rfl rfl (Ys.yc (Bm fun w_ h_=>Av (k:=.i64) (a:=a) (len:=xs.length) (cap:=cap) (i:=((k+1:Nat):Int)) (sz:=1) rfl Ae Ae Tryz.runUnderlying38 Tryz.sizeOf5 Ag Ag ((hat.mem0 h_).here Hj))) (.inr fun _ h_=>h_) (Wd.yc (v:=nV .u8 ((xs.getD (k+1) 0).toNat)) rfl rfl rfl (Ys.yc (Ys.ld (a:=Co a ((k+1)*1)) rfl Ae Tryz.isAgg5 (fun w_ h_=>(hat.mem0 h_).ld (Fm 0 Ex)))) (.inr fun _ h_=>h_) ?_)
 have hb4:(xs.getD (k+1) 0).toNat<256:=UInt8.toNat_lt _
 refine Wd.yc (v:=nV .u16 ((xs.getD (k+1) 0).toNat)) rfl rfl rfl (Ys.yc ((Ys.p (v:=.int .u16 (Cg .u16 ((xs.getD (k+1) 0).toNat:Int)))).conseq (Af (Ej Ag Ag)))) (.inr fun _ h_=>h_) (Wd.yc (v:=nV .u16 (((((xs.getD k 0).toNat)*256)%65536)|||((xs.getD (k+1) 0).toNat))) rfl rfl rfl (Ys.yc ((Ys.p (v:=.int .u16 (bor .u16 (((((xs.getD k 0).toNat)*256)%65536:Nat):Int) ((xs.getD (k+1) 0).toNat:Int)))).conseq (Af (Im rfl H1 H1)))) (.inr fun _ h_=>h_) (Wd.yc (v:=nV .u16 (((((xs.getD k 0).toNat)*256)%65536)|||((xs.getD (k+1) 0).toNat))) rfl rfl rfl (Ys.yc (Ys.p)) (.inl Ae) (A7 (hK2 _ _ _ ?_))))
 refine Aq (fn:=Tryz.f152) rfl (fun w_ hS_=>Bb rfl (Aw (nV .u16 (((((xs.getD k 0).toNat)*256)%65536)|||((xs.getD (k+1) 0).toNat)))) hS_ ⟨by clear hK1 hK2;refine congrArg Ending.returned ?_;first|rfl|exact Af (congrArg (fun n:Nat=>(n:Int)) (Amd xs k)),hS_.below⟩)
theorem Gd(xs:List UInt8)(a:Option Addr)(cap k:Nat)(len:Nat)(w:World)(hn:len=xs.length)(hat:At w a (Ci xs))(hk:k+1<xs.length)(hl:xs.length≤1000000)(hlc:xs.length≤cap):Calls Tryz.prog 152 #[.slice a len cap,.int .i64 (k:Int)] w (Dc w (.int .u16 (w2 xs k:Int))):=by
  subst hn;exact Ajl xs a cap k w hat hk hl hlc
theorem Ajm(xs:List UInt8)(a:Option Addr)(cap k:Nat)(w:World)(hat:At w a (Ci xs))(hk:k+3<xs.length)(hl:xs.length≤1000000)(hlc:xs.length≤cap):Calls Tryz.prog 173 #[sL a xs.length cap,nV .i64 k] w (Dc w (.int .u32 (a4 xs k:Int))):=by
 have hw1:=Dx xs k;have hw2:=Dx xs (k+2)
 refine Ar (M:=[]) (LL:=[]) (n:=16) Tryz.func173 rfl rfl A5 (Mem.refl _) (Ad (fun K1 hK1=>?_))
 refine Aa (Ab 1 (Ac (hK1 _ _ _ (Ad (fun K2 hK2=>?_)))))
 refine Aa (Ab 2 (B0 (v:=nV .u16 (w2 xs k)) (A9 (fun w_ hm_=>(Gd xs a cap k xs.length _ I7 (hat.mem0 hm_) Ag Ag Ef))) (Ah (v:=nV .u32 (w2 xs k)) ((Ys.p (v:=.int .u32 (Cg .u32 (w2 xs k:Int)))).conseq (Af (Le Ag Ag))) (Ah (v:=nV .u32 (((w2 xs k)*65536)%4294967296)) ((Ys.p (v:=.int .u32 (Hw .u32 (w2 xs k:Int) ((16:Nat):Int)))).conseq (Af (Gg rfl (w2 xs k) 16 Al))) ?_))))
 refine Ab 2 (Ah (v:=nV .i64 (k+2)) ((Ys.p (v:=.int .i64 (Bt .i64 (k:Int) 2))).conseq (Af (A6 Ag Ag Ag))) (B0 (v:=nV .u16 (w2 xs (k+2))) (A9 (fun w_ hm_=>(Gd xs a cap (k+2) xs.length _ I7 (hat.mem0 hm_) Ag Ag Ef))) (Ah (v:=nV .u32 (w2 xs (k+2))) ((Ys.p (v:=.int .u32 (Cg .u32 (w2 xs (k+2):Int)))).conseq (Af (Le Ag Ag))) (Ah (v:=nV .u32 ((((w2 xs k)*65536)%4294967296)|||(w2 xs (k+2)))) ((Ys.p (v:=.int .u32 (bor .u32 ((((w2 xs k)*65536)%4294967296:Nat):Int) (w2 xs (k+2):Int)))).conseq (Af (Im rfl (by show _<4294967296;omega) (by show _<4294967296;omega)))) ?_))))
 refine Ab 1 (Ac (hK2 _ _ _ (Aq (fn:=Tryz.f173) rfl (fun w_ hS_=>Bb rfl (Aw (nV .u32 ((((w2 xs k)*65536)%4294967296)|||(w2 xs (k+2))))) hS_ ⟨by clear hK1 hK2;refine congrArg Ending.returned ?_;first|rfl|exact Af (congrArg (fun n:Nat=>(n:Int)) (Ame xs k)),hS_.below⟩))))
theorem Xo(xs:List UInt8)(a:Option Addr)(cap k:Nat)(len:Nat)(w:World)(hn:len=xs.length)(hat:At w a (Ci xs))(hk:k+3<xs.length)(hl:xs.length≤1000000)(hlc:xs.length≤cap):Calls Tryz.prog 173 #[.slice a len cap,.int .i64 (k:Int)] w (Dc w (.int .u32 (a4 xs k:Int))):=by
  subst hn;exact Ajm xs a cap k w hat hk hl hlc
def I4(k:UInt8):Bool:=(k.toNat:Int)==8
def P0(k c:UInt8):Bool:=(((c.toNat:Nat):Int)==0)&&(((k.toNat:Int)==8)||(((k.toNat:Nat):Int)==0))
def Pp(b:Bool)(x y:Nat):Nat:=bif b then x else y
theorem Ss(k c:UInt8)(w:World):Calls Tryz.prog 96 #[nV .u8 k.toNat,nV .u8 c.toNat] w (Dc w (.tuple #[.bool (I4 k),.bool (P0 k c)])):=by
 refine Ar (M:=[]) (LL:=[]) (n:=18) Tryz.func96 rfl rfl A5 (Mem.refl _) (Ad (fun K1 hK1=>?_))
 refine Aa (Ab 2 (Ac (hK1 _ _ _ (Ad (fun K3 hK3=>?_)))))
 refine Aa (Ab 5 ?_)
 refine Am (v:=nV .u8 k.toNat) (((c.toNat:Nat):Int)==0) rfl (Bi rfl Ae) rfl (fun hg4=>?_) ?_
 ·exact Ys.p
 refine Am (v:=bV (((k.toNat:Nat):Int)==8)) (((c.toNat:Nat):Int)==0) rfl (Bi rfl Ae) rfl (fun hg5=>?_) ?_
 ·refine Bh (t:=11) (v0:=nV .u8 k.toNat) (lz (g:=(c.toNat:Int)==0) (u:=undef) hg5 Ae) ?_
  exact Ys.p
 refine Am (v:=bV (((k.toNat:Nat):Int)==8)) (((c.toNat:Nat):Int)==0) rfl (Bi rfl Ae) rfl (fun hg6=>?_) ?_
 ·refine Bh (t:=12) (v0:=bV (((k.toNat:Nat):Int)==8)) (lz (g:=(c.toNat:Int)==0) (u:=undef) hg6 Ae) ?_
  exact Ys.p
 refine Am (v:=nV .u8 k.toNat) (((c.toNat:Int)==0)&& !(((k.toNat:Nat):Int)==8)) rfl (Zp rfl rfl Ae) rfl (fun hg7=>?_) ?_
 ·exact Ys.p
 refine Am (v:=bV (((k.toNat:Nat):Int)==0)) (((c.toNat:Int)==0)&& !(((k.toNat:Nat):Int)==8)) rfl (Zp rfl rfl Ae) rfl (fun hg8=>?_) ?_
 ·refine Bh (t:=14) (v0:=nV .u8 k.toNat) (lz (g:=(((c.toNat:Nat):Int)==0)&& !(((k.toNat:Nat):Int)==8)) (u:=undef) hg8 Ae) ?_
  exact Ys.p
 refine Am (v:=bV (((k.toNat:Int)==8)||(((k.toNat:Nat):Int)==0))) (((c.toNat:Nat):Int)==0) rfl (Bi rfl Ae) rfl (fun hg9=>?_) ?_
 ·refine Bh (t:=13) (v0:=bV (((k.toNat:Nat):Int)==8)) (lz (g:=(c.toNat:Int)==0) (u:=undef) hg9 Ae) (Bh (t:=15) (v0:=(bif !(((k.toNat:Nat):Int)==8)then bV (((k.toNat:Nat):Int)==0)else undef)) (lz2 (g:=(c.toNat:Int)==0) hg9 Ae) ?_)
  exact Dr (e:=(k.toNat:Int)==8) (b:=(k.toNat:Int)==0) rfl Ae Ae Ae
 refine Ah (v:=bV (((c.toNat:Int)==0)&&(((k.toNat:Int)==8)||(((k.toNat:Nat):Int)==0)))) (D0 (e:=(c.toNat:Int)==0) (b:=(((k.toNat:Nat):Int)==8)||(((k.toNat:Nat):Int)==0)) rfl Ae Ae Ae) (Ab 2 (Ac (hK3 _ _ _ (Aq (fn:=Tryz.f96) rfl (fun w_ hS_=>B9 rfl (Aw (bV (((k.toNat:Nat):Int)==8))) (Aw (bV (((c.toNat:Int)==0)&&(((k.toNat:Int)==8)||(((k.toNat:Nat):Int)==0))))) hS_ ⟨rfl,hS_.below⟩)))))
theorem Agy(pr:UInt8)(s d fr to:Nat)(id:Nat)(q:Bool)(w:World):Calls Tryz.prog 137 #[aV [nV .u8 pr.toNat,nV .u32 s,nV .u32 d,nV .u16 fr,nV .u16 to],nV .u16 id,bV q] w (Dc w (.agg ([nV .u8 pr.toNat,nV .u32 s,nV .u32 d,nV .u16 (Pp q id fr),nV .u16 (Pp q to id)]).toArray)):=by
 refine Ar (M:=[]) (LL:=[]) (n:=13) Tryz.func137 rfl rfl A5 (Mem.refl _) (Ad (fun K1 hK1=>?_))
 refine Aa (Ai rfl (Bx [nV .u8 pr.toNat,nV .u32 s,nV .u32 d,nV .u16 fr,nV .u16 to] rfl) (fun p3=>?_))
 refine Ai rfl (Bc Tryz.zeroValue47) (fun p6=>Ac (hK1 _ _ _ (Ad (fun K3 hK3=>Ad (fun K4 hK4=>?_)))))
 refine Aa (Ab 1 (Ac (hK4 _ _ _ ?_)))
 refine Ao (q) Ae (fun h5=>?_) (fun h6=>?_)
 ·refine Aa (Ab 2 (Ai rfl (Bg p3 3 1 0 (nV .u16 id) Tryz.sizeOf22 rfl rfl) (fun _=>Ac (hK3 _ _ _ ?_))))
  refine Ad (fun K8 hK8=>Aa (Ah (A0 p3 0 1 0 [nV .u8 pr.toNat,nV .u32 s,nV .u32 d,nV .u16 id,nV .u16 to] Tryz.isAgg47 Tryz.sizeOf47) (Ai rfl (A4 p6 0 0 0 [nV .u8 pr.toNat,nV .u32 s,nV .u32 d,nV .u16 id,nV .u16 to] Tryz.sizeOf47 rfl rfl) (fun _=>Ac ?_))))
  refine hK8 _ _ _ (Ap [0] Al rfl (Aq (fn:=Tryz.f137) rfl (fun w_ hS_=>Bb rfl (Bq p6 0 0 0 [nV .u8 pr.toNat,nV .u32 s,nV .u32 d,nV .u16 id,nV .u16 to] Tryz.isAgg47 Tryz.sizeOf47) hS_ ⟨by clear hK1 hK3 hK4 hK8;refine congrArg Ending.returned ?_;rw[h5];rfl,hS_.below⟩)))
 ·refine Aa (Ab 2 (Ai rfl (Bg p3 4 1 0 (nV .u16 id) Tryz.sizeOf22 rfl rfl) (fun _=>Ac (hK3 _ _ _ ?_))))
  refine Ad (fun K11 hK11=>Aa (Ah (A0 p3 0 1 0 [nV .u8 pr.toNat,nV .u32 s,nV .u32 d,nV .u16 fr,nV .u16 id] Tryz.isAgg47 Tryz.sizeOf47) (Ai rfl (A4 p6 0 0 0 [nV .u8 pr.toNat,nV .u32 s,nV .u32 d,nV .u16 fr,nV .u16 id] Tryz.sizeOf47 rfl rfl) (fun _=>Ac ?_))))
  refine hK11 _ _ _ (Ap [0] Al rfl (Aq (fn:=Tryz.f137) rfl (fun w_ hS_=>Bb rfl (Bq p6 0 0 0 [nV .u8 pr.toNat,nV .u32 s,nV .u32 d,nV .u16 fr,nV .u16 id] Tryz.isAgg47 Tryz.sizeOf47) hS_ ⟨by clear hK1 hK3 hK4 hK11;refine congrArg Ending.returned ?_;rw[h6];rfl,hS_.below⟩)))
theorem Kw(pr:UInt8)(s d fr to:Nat)(w:World):Calls Tryz.prog 95 #[aV [nV .u8 pr.toNat,nV .u32 s,nV .u32 d,nV .u16 fr,nV .u16 to]] w (Dc w (.agg ([nV .u8 pr.toNat,nV .u32 d,nV .u32 s,nV .u16 to,nV .u16 fr]).toArray)):=by
 refine Ar (M:=[]) (LL:=[]) (n:=16) Tryz.func95 rfl rfl A5 (Mem.refl _) (Ad (fun K1 hK1=>?_))
 refine Aa (Ai rfl (Bx [nV .u8 pr.toNat,nV .u32 s,nV .u32 d,nV .u16 fr,nV .u16 to] rfl) (fun p1=>?_))
 refine Ai rfl (Bc Tryz.zeroValue47) (fun p2=>Ac (hK1 _ _ _ (Ad (fun K3 hK3=>Aa ?_))))
 refine Ab 1 (Ah (An p1 2 1 0 Tryz.isAgg24) (Ab 1 (Ah (An p1 1 1 0 Tryz.isAgg24) (Ab 1 ?_))))
 refine Ah (An p1 4 1 0 Tryz.isAgg22) (Ab 1 (Ah (An p1 3 1 0 Tryz.isAgg22) (Ab 1 (Ai rfl (Bg p1 1 1 0 (nV .u32 d) Tryz.sizeOf24 rfl rfl) (fun _=>?_)))))
 refine Ab 1 (Ai rfl (Bg p1 2 1 0 (nV .u32 s) Tryz.sizeOf24 rfl rfl) (fun _=>?_))
 refine Ab 1 (Ai rfl (Bg p1 3 1 0 (nV .u16 to) Tryz.sizeOf22 rfl rfl) (fun _=>?_))
 refine Ab 1 (Ai rfl (Bg p1 4 1 0 (nV .u16 fr) Tryz.sizeOf22 rfl rfl) (fun _=>?_))
 refine Ac (hK3 _ _ _ (Ad (fun K5 hK5=>Aa (Ah (A0 p1 0 1 0 [nV .u8 pr.toNat,nV .u32 d,nV .u32 s,nV .u16 to,nV .u16 fr] Tryz.isAgg47 Tryz.sizeOf47) ?_))))
 refine Ai rfl (A4 p2 0 0 0 [nV .u8 pr.toNat,nV .u32 d,nV .u32 s,nV .u16 to,nV .u16 fr] Tryz.sizeOf47 rfl rfl) (fun _=>Ac (hK5 _ _ _ (Ap [0] Al rfl (Aq (fn:=Tryz.f95) rfl (fun w_ hS_=>Bb rfl (Bq p2 0 0 0 [nV .u8 pr.toNat,nV .u32 d,nV .u32 s,nV .u16 to,nV .u16 fr] Tryz.isAgg47 Tryz.sizeOf47) hS_ ⟨rfl,hS_.below⟩)))))
def inC(xs:List UInt8):Bool:=((decide (((xs.length:Nat):Int)<28))||((((xs.getD 0 0).toNat:Nat):Int) !=69))||((((w2 xs 6)%8192:Nat):Int) !=0)
def i9(xs:List UInt8)(k:Int):Bool:=((xs.getD 9 0).toNat:Int)==k
def St(xs:List UInt8):UInt8:=bif inC xs then 0 else xs.getD 9 0
def Ki(xs:List UInt8)(k:Nat):Nat:=bif inC xs then 0 else a4 xs k
def Rn(xs:List UInt8):Nat:=bif inC xs then 0 else bif i9 xs 6 then w2 xs 20 else bif i9 xs 17 then w2 xs 20 else bif i9 xs 1 then Pp (I4 (xs.getD 20 0)) (w2 xs 24) 0 else 0
def Ro(xs:List UInt8):Nat:=bif inC xs then 0 else bif i9 xs 6 then w2 xs 22 else bif i9 xs 17 then w2 xs 22 else bif i9 xs 1 then Pp (I4 (xs.getD 20 0)) 0 (w2 xs 24)else 0
def Ta(xs:List UInt8):Bool:=bif inC xs then false else bif i9 xs 6 then true else bif i9 xs 17 then true else bif i9 xs 1 then P0 (xs.getD 20 0) (xs.getD 21 0)else false
theorem Su{b:Bool}{x y n:Nat}(hx:x<n)(hy:y<n):Pp b x y<n:=by unfold Pp;cases b<;>assumption
theorem Aca(xs:List UInt8)(k:Nat):Ki xs k<4294967296:=by unfold Ki;cases inC xs;exact Ab9 xs k;show(0:Nat)<_;decide
theorem Ajn(xs:List UInt8):Rn xs<65536:=by
  unfold Rn;have:=Dx xs 20;have:=Dx xs 24
  cases inC xs<;>cases i9 xs 6<;>cases i9 xs 17<;>cases i9 xs 1<;>simp only[cond_true,cond_false]<;>first|omega|exact Su Ag Ag
theorem Ajo(xs:List UInt8):Ro xs<65536:=by
  unfold Ro;have:=Dx xs 22;have:=Dx xs 24
  cases inC xs<;>cases i9 xs 6<;>cases i9 xs 17<;>cases i9 xs 1<;>simp only[cond_true,cond_false]<;>first|omega|exact Su Ag Ag
abbrev Q26(xs:List UInt8):List Value:=[nV .u8 ((xs.getD 9 0).toNat),nV .u32 (a4 xs 12),nV .u32 (a4 xs 16),iV .u16 0,iV .u16 0]
abbrev Q27(xs:List UInt8):List Value:=[nV .u8 ((xs.getD 9 0).toNat),nV .u32 (a4 xs 12),nV .u32 (a4 xs 16),nV .u16 (w2 xs 20),nV .u16 (w2 xs 22)]
abbrev Q28:List Value:=Y6
theorem Af1(xs:List UInt8)(a:Option Addr)(cap:Nat)(w:World)(hat:At w a (Ci xs))(hl:xs.length≤1000000)(hlc:xs.length≤cap):Calls Tryz.prog 138 #[sL a xs.length cap] w (Dc w (.tuple #[.agg ([nV .u8 ((St xs).toNat),nV .u32 (Ki xs 12),nV .u32 (Ki xs 16),nV .u16 (Rn xs),nV .u16 (Ro xs)]).toArray,.bool (Ta xs)])):=by
 have hw20:=Dx xs 20;have hw22:=Dx xs 22;have hw24:=Dx xs 24;have ha12:=Ab9 xs 12;have ha16:=Ab9 xs 16;have hw6:=Dx xs 6
 refine Ar (M:=[]) (LL:=[]) (n:=61) Tryz.func138 rfl rfl A5 (Mem.refl _) (Ad (fun K1 hK1=>?_))
 refine Aa (Ai rfl (Bc Tryz.zeroValue47) (fun p2=>?_))
 refine Ab 1 (Ac (hK1 _ _ _ (Ad (fun K3 hK3=>Ad (fun K4 hK4=>?_)))))
 refine Aa (Ab 4 ?_)
 refine Am (v:=sL a xs.length cap) (!(decide (((xs.length:Nat):Int)<28))) rfl (B3 rfl Ae) rfl (fun hg5=>?_) ?_
 ·exact Ys.p
 refine Am (v:=pL (some (Co a 0))) (!(decide (((xs.length:Nat):Int)<28))) rfl (B3 rfl Ae) rfl (fun hg6=>?_) ?_
 ·have qhg6:=hg6;try simp only[zA]at qhg6
  refine Bh (t:=10) (v0:=sL a xs.length cap) (lz (g:= !(decide (((xs.length:Nat):Int)<28))) (u:=undef) hg6 Ae) ?_
  exact Bm fun w_ h_=>Av (k:=.i64) (a:=a) (len:=xs.length) (cap:=cap) (i:=0) (sz:=1) rfl Ae Ae Tryz.runUnderlying38 Tryz.sizeOf5 Ag Ag ((hat.mem0 h_).here Hj)
 refine Am (v:=nV .u8 ((xs.getD 0 0).toNat)) (!(decide (((xs.length:Nat):Int)<28))) rfl (B3 rfl Ae) rfl (fun hg7=>?_) ?_
 ·have qhg7:=hg7;try simp only[zA]at qhg7
  refine Bh (t:=11) (v0:=pL (some (Co a 0))) (lz (g:= !(decide (((xs.length:Nat):Int)<28))) (u:=undef) hg7 Ae) ?_
  exact Ys.ld (a:=Co a 0) rfl Ae Tryz.isAgg5 (fun w_ h_=>(hat.mem0 h_).ld (Ez 0 Ex))
 refine Am (v:=bV ((((xs.getD 0 0).toNat:Nat):Int) !=69)) (!(decide (((xs.length:Nat):Int)<28))) rfl (B3 rfl Ae) rfl (fun hg8=>?_) ?_
 ·have qhg8:=hg8;try simp only[zA]at qhg8
  refine Bh (t:=12) (v0:=nV .u8 ((xs.getD 0 0).toNat)) (lz (g:= !(decide (((xs.length:Nat):Int)<28))) (u:=undef) hg8 Ae) ?_
  exact Ys.p
 refine Ah (v:=bV ((decide (((xs.length:Nat):Int)<28))||((((xs.getD 0 0).toNat:Nat):Int) !=69))) (Dr (e:=decide (((xs.length:Nat):Int)<28)) (b:=((xs.getD 0 0).toNat:Int) !=69) rfl Ae Ae Ae) (Ab 1 ?_)
 refine Am (v:=sL a xs.length cap) (!((decide (((xs.length:Nat):Int)<28))||((((xs.getD 0 0).toNat:Nat):Int) !=69))) rfl (B3 rfl Ae) rfl (fun hg9=>?_) ?_
 ·exact Ys.p
 refine Dn (v:=nV .u16 (w2 xs 6)) (!((decide (((xs.length:Nat):Int)<28))||((((xs.getD 0 0).toNat:Nat):Int) !=69))) rfl (B3 rfl Ae) rfl (fun hg10=>?_) ?_
 ·have qhg10:=hg10;try simp only[zA]at qhg10
  refine Eh (t:=16) (v0:=sL a xs.length cap) (lz (g:= !((decide (((xs.length:Nat):Int)<28))||((((xs.getD 0 0).toNat:Nat):Int) !=69))) (u:=undef) hg10 Ae) ?_
  exact A9 (fun w_ hm_=>(Gd xs a cap 6 xs.length _ I7 (hat.mem0 hm_) Ag Ag Ef))
 refine Am (v:=nV .u16 ((w2 xs 6)%8192)) (!((decide (((xs.length:Nat):Int)<28))||((((xs.getD 0 0).toNat:Nat):Int) !=69))) rfl (B3 rfl Ae) rfl (fun hg11=>?_) ?_
 ·have qhg11:=hg11;try simp only[zA]at qhg11
  refine Bh (t:=17) (v0:=nV .u16 (w2 xs 6)) (lz (g:= !((decide (((xs.length:Nat):Int)<28))||((((xs.getD 0 0).toNat:Nat):Int) !=69))) (u:=undef) hg11 Ae) ?_
  exact(Ys.p (v:=.int .u16 (Cn .u16 ((w2 xs 6:Nat):Int) ((8191:Nat):Int)))).conseq (Af (G2 rfl (a:=w2 xs 6) (c:=13) H1 Al 8191 rfl))
 refine Am (v:=bV ((((w2 xs 6)%8192:Nat):Int) !=0)) (!((decide (((xs.length:Nat):Int)<28))||((((xs.getD 0 0).toNat:Nat):Int) !=69))) rfl (B3 rfl Ae) rfl (fun hg12=>?_) ?_
 ·have qhg12:=hg12;try simp only[zA]at qhg12
  refine Bh (t:=18) (v0:=nV .u16 ((w2 xs 6)%8192)) (lz (g:= !((decide (((xs.length:Nat):Int)<28))||((((xs.getD 0 0).toNat:Nat):Int) !=69))) (u:=undef) hg12 Ae) ?_
  exact Ys.p
 refine Ah (v:=bV (((decide (((xs.length:Nat):Int)<28))||((((xs.getD 0 0).toNat:Nat):Int) !=69))||((((w2 xs 6)%8192:Nat):Int) !=0))) (Dr (e:=(decide (((xs.length:Nat):Int)<28))||((((xs.getD 0 0).toNat:Nat):Int) !=69)) (b:=(((w2 xs 6)%8192:Nat):Int) !=0) rfl Ae Ae Ae) (Ac (hK4 _ _ _ ?_))
 refine Ao (((decide (((xs.length:Nat):Int)<28))||((((xs.getD 0 0).toNat:Nat):Int) !=69))||((((w2 xs 6)%8192:Nat):Int) !=0)) Ae (fun h14=>?_) (fun h15=>?_)
 ·have qh14:=h14;try simp only[zA]at qh14
  refine Ad (fun K16 hK16=>Aa (Ah (A0 p2 0 0 0 Q28 Tryz.isAgg47 Tryz.sizeOf47) (Ai rfl (A4 p2 0 0 0 Q28 Tryz.sizeOf47 rfl rfl) (fun _=>Ab 1 ?_))))
  refine Ac (hK16 _ _ _ (Aq (fn:=Tryz.f138) rfl ?_))
  have hC_:inC xs=true:=h14
  exact fun w_ hS_=>B9 rfl (Bq p2 0 0 0 Y6 Tryz.isAgg47 Tryz.sizeOf47) (Aw (bV false)) hS_ ⟨by clear hK1 hK3 hK4 hK16;refine congrArg Ending.returned ?_;simp only[St,Ki,Rn,Ro,Ta,hC_,cond_true,cond_false];try rfl,hS_.below⟩
 ·have qh15:=h15;try simp only[zA]at qh15
  refine Ak (hK3 _ _ _ (Ad (fun K19 hK19=>Dh [(0,true),(1,true),(2,true),(3,true),(5,true),(4,false),(6,false),(7,false),(8,false)] [0,1,2,3,5] (Ay 1 ?_))))
  refine Wd.ys (v:=pL (some (Co a 9))) rfl rfl rfl (Bm fun w_ h_=>Av (k:=.i64) (a:=a) (len:=xs.length) (cap:=cap) (i:=9) (sz:=1) rfl Ae Ae Tryz.runUnderlying38 Tryz.sizeOf5 Ag Ag ((hat.mem0 h_).here Hj)) (Wd.ys (v:=nV .u8 ((xs.getD 9 0).toNat)) rfl rfl rfl (Ys.ld (a:=Co a 9) rfl Ae Tryz.isAgg5 (fun w_ h_=>(hat.mem0 h_).ld (Ez 0 Ex))) ?_)
  have hb20:(xs.getD 9 0).toNat<256:=UInt8.toNat_lt _
  refine Ay 2 (Wd.yc (v:=nV .u32 (a4 xs 12)) rfl rfl rfl (A9 (fun w_ hm_=>(Xo xs a cap 12 xs.length _ I7 (hat.mem0 hm_) Ag Ag Ef))) (.inr fun _ h_=>h_) (Wd.yc (v:=nV .u32 (a4 xs 16)) rfl rfl rfl (A9 (fun w_ hm_=>(Xo xs a cap 16 xs.length _ I7 (hat.mem0 hm_) Ag Ag Ef))) (.inr fun _ h_=>h_) (Wd.yc (v:=aV (Q26 xs)) rfl rfl rfl (Ys.yc (Ys.p)) (.inr fun _ h_=>h_) (B8 rfl rfl (A4 p2 0 0 0 (Q26 xs) Tryz.sizeOf47 rfl rfl) (.inl Ae) (fun _=>?_)))))
  refine A7 (hK19 _ _ _ (Ad (fun K22 hK22=>Ad (fun K23 hK23=>Aa ?_))))
  refine Ab 1 (Ah (An p2 0 0 0 Tryz.isAgg5) (Ac (hK23 _ _ _ (W.block ?_))))
  refine Ad (fun K25 hK25=>Ad (fun K26 hK26=>?_))
  refine Aa (Ab 2 (Ac (hK26 _ _ _ ?_)))
  refine Ao ((((xs.getD 9 0).toNat:Nat):Int)==6) Ae (fun h28=>?_) (fun h29=>?_)
  ·have qh28:=h28;try simp only[zA]at qh28
   refine Ak (hK25 _ _ _ ?_)
   refine Ao ((((xs.getD 9 0).toNat:Nat):Int)==6) Ae (fun h31=>?_) (fun h32=>?_)
   ·have qh31:=h31;try simp only[zA]at qh31
    refine Ad (fun K33 hK33=>Aa (Ab 1 (B0 (v:=nV .u16 (w2 xs 20)) (A9 (fun w_ hm_=>(Gd xs a cap 20 xs.length _ I7 (hat.mem0 hm_) Ag Ag Ef))) (Ab 1 ?_))))
    refine B0 (v:=nV .u16 (w2 xs 22)) (A9 (fun w_ hm_=>(Gd xs a cap 22 xs.length _ I7 (hat.mem0 hm_) Ag Ag Ef))) (Ab 1 (Ai rfl (Bg p2 3 0 0 (nV .u16 (w2 xs 20)) Tryz.sizeOf22 rfl rfl) (fun _=>Ab 1 (Ai rfl (Bg p2 4 0 0 (nV .u16 (w2 xs 22)) Tryz.sizeOf22 rfl rfl) (fun _=>?_)))))
    refine Ac (hK33 _ _ _ (Ad (fun K35 hK35=>Aa (Ah (A0 p2 0 0 0 (Q27 xs) Tryz.isAgg47 Tryz.sizeOf47) ?_))))
    refine Ai rfl (A4 p2 0 0 0 (Q27 xs) Tryz.sizeOf47 rfl rfl) (fun _=>Ab 1 (Ac (hK35 _ _ _ (Aq (fn:=Tryz.f138) rfl ?_))))
    have hC_:inC xs=false:=h15
    have h9_6:i9 xs 6=true:=h31
    exact fun w_ hS_=>B9 rfl (Bq p2 0 0 0 [nV .u8 ((xs.getD 9 0).toNat),nV .u32 (a4 xs 12),nV .u32 (a4 xs 16),nV .u16 (w2 xs 20),nV .u16 (w2 xs 22)] Tryz.isAgg47 Tryz.sizeOf47) (Aw (bV true)) hS_ ⟨by clear hK1 hK3 hK4 hK19 hK22 hK23 hK25 hK26 hK33 hK35;refine congrArg Ending.returned ?_;simp only[St,Ki,Rn,Ro,Ta,hC_,h9_6,cond_true,cond_false];try rfl,hS_.below⟩
   ·exact absurd (h28.symm.trans h32) Al
  ·have qh29:=h29;try simp only[zA]at qh29
   refine Aa (Ab 2 (Ac (hK25 _ _ _ ?_)))
   refine Ao ((((xs.getD 9 0).toNat:Nat):Int)==17) Ae (fun h38=>?_) (fun h39=>?_)
   ·have qh38:=h38;try simp only[zA]at qh38
    refine Ad (fun K40 hK40=>Aa (Ab 1 (B0 (v:=nV .u16 (w2 xs 20)) (A9 (fun w_ hm_=>(Gd xs a cap 20 xs.length _ I7 (hat.mem0 hm_) Ag Ag Ef))) (Ab 1 ?_))))
    refine B0 (v:=nV .u16 (w2 xs 22)) (A9 (fun w_ hm_=>(Gd xs a cap 22 xs.length _ I7 (hat.mem0 hm_) Ag Ag Ef))) (Ab 1 (Ai rfl (Bg p2 3 0 0 (nV .u16 (w2 xs 20)) Tryz.sizeOf22 rfl rfl) (fun _=>Ab 1 (Ai rfl (Bg p2 4 0 0 (nV .u16 (w2 xs 22)) Tryz.sizeOf22 rfl rfl) (fun _=>?_)))))
    refine Ac (hK40 _ _ _ (Ad (fun K42 hK42=>Aa (Ah (A0 p2 0 0 0 (Q27 xs) Tryz.isAgg47 Tryz.sizeOf47) ?_))))
    refine Ai rfl (A4 p2 0 0 0 (Q27 xs) Tryz.sizeOf47 rfl rfl) (fun _=>Ab 1 (Ac (hK42 _ _ _ (Aq (fn:=Tryz.f138) rfl ?_))))
    have hC_:inC xs=false:=h15
    have h9_6:i9 xs 6=false:=h29
    have h9_17:i9 xs 17=true:=h38
    exact fun w_ hS_=>B9 rfl (Bq p2 0 0 0 [nV .u8 ((xs.getD 9 0).toNat),nV .u32 (a4 xs 12),nV .u32 (a4 xs 16),nV .u16 (w2 xs 20),nV .u16 (w2 xs 22)] Tryz.isAgg47 Tryz.sizeOf47) (Aw (bV true)) hS_ ⟨by clear hK1 hK3 hK4 hK19 hK22 hK23 hK25 hK26 hK40 hK42;refine congrArg Ending.returned ?_;simp only[St,Ki,Rn,Ro,Ta,hC_,h9_6,h9_17,cond_true,cond_false];try rfl,hS_.below⟩
   ·have qh39:=h39;try simp only[zA]at qh39
    refine Ad (fun K44 hK44=>Aa (Ab 2 (Ac (hK44 _ _ _ ?_))))
    refine Ao ((((xs.getD 9 0).toNat:Nat):Int)==1) Ae (fun h46=>?_) (fun h47=>?_)
    ·have qh46:=h46;try simp only[zA]at qh46
     refine Ad (fun K48 hK48=>Dh [(0,true),(1,true),(2,true),(3,false),(4,false),(5,false),(6,false),(7,false),(8,true),(9,true),(10,false),(11,false)] [0,1,2,8,9] (Ay 1 (Wd.ys (v:=pL (some (Co a 20))) rfl rfl rfl (Bm fun w_ h_=>Av (k:=.i64) (a:=a) (len:=xs.length) (cap:=cap) (i:=20) (sz:=1) rfl Ae Ae Tryz.runUnderlying38 Tryz.sizeOf5 Ag Ag ((hat.mem0 h_).here Hj)) (Wd.ys (v:=nV .u8 ((xs.getD 20 0).toNat)) rfl rfl rfl (Ys.ld (a:=Co a 20) rfl Ae Tryz.isAgg5 (fun w_ h_=>(hat.mem0 h_).ld (Ez 0 Ex))) ?_))))
     have hb49:(xs.getD 20 0).toNat<256:=UInt8.toNat_lt _
     refine Wd.yc (v:=sL a xs.length cap) rfl rfl rfl (Ys.yc (Ys.p)) (.inr fun _ h_=>h_) (Wd.yc (v:=pL (some (Co a 21))) rfl rfl rfl (Ys.yc (Bm fun w_ h_=>Av (k:=.i64) (a:=a) (len:=xs.length) (cap:=cap) (i:=21) (sz:=1) rfl Ae Ae Tryz.runUnderlying38 Tryz.sizeOf5 Ag Ag ((hat.mem0 h_).here Hj))) (.inr fun _ h_=>h_) (Wd.yc (v:=nV .u8 ((xs.getD 21 0).toNat)) rfl rfl rfl (Ys.yc (Ys.ld (a:=Co a 21) rfl Ae Tryz.isAgg5 (fun w_ h_=>(hat.mem0 h_).ld (Ez 0 Ex)))) (.inr fun _ h_=>h_) ?_))
     have hb50:(xs.getD 21 0).toNat<256:=UInt8.toNat_lt _
     refine Wd.yc (v:=Value.tuple #[bV (I4 (xs.getD 20 0)),bV (P0 (xs.getD 20 0) (xs.getD 21 0))]) rfl rfl rfl (A9 (fun w_ hm_=>(Ss (xs.getD 20 0) (xs.getD 21 0) _))) (.inr fun _ h_=>h_) (Wd.yc (v:=Value.tuple #[bV (I4 (xs.getD 20 0)),bV (P0 (xs.getD 20 0) (xs.getD 21 0))]) rfl rfl rfl (Ys.yc (Ys.p)) (.inr fun _ h_=>h_) (Ay 2 (Wd.yc (v:=bV (I4 (xs.getD 20 0))) rfl rfl rfl (Ys.yc (Ys.p)) (.inr fun _ h_=>h_) (Wd.yc (v:=bV (P0 (xs.getD 20 0) (xs.getD 21 0))) rfl rfl rfl (Ys.yc (Ys.p)) (.inl Ae) ?_))))
     refine A7 (hK48 _ _ _ (Ad (fun K52 hK52=>E2 [1,3,5,7] (Mem w [] []) Ae Ae (fun _ _ h_=>h_.drawn _) ?_)))
     refine Dw (w0:=w) (M:=[]) [2,54,56,57,59] (fun(z58:Unit)=>[pV p2 0,aV (Q26 xs),nV .u16 (w2 xs 24),bV (I4 (xs.getD 20 0)),bV (P0 (xs.getD 20 0) (xs.getD 21 0))]) (fun(z58:Unit)=>True) (fun(z58:Unit)=>[[cb p2 (Q26 xs) 47]]) 3 #[true,true,true,true,false,true,false,false] (fun z58 hp59 f60=>?_) (fun JD55=>?_)
     ·refine A3 (i:=4) Ae (Wo.yc (v:=aV [nV .u8 ((xs.getD 9 0).toNat),nV .u32 (a4 xs 12),nV .u32 (a4 xs 16),nV .u16 (Pp (I4 (xs.getD 20 0)) (w2 xs 24) 0),nV .u16 (Pp (I4 (xs.getD 20 0)) 0 (w2 xs 24))]) rfl rfl rfl (A9 (fun w_ hm_=>(Agy (xs.getD 9 0) (a4 xs 12) (a4 xs 16) 0 0 (w2 xs 24) (I4 (xs.getD 20 0)) _))) (.inr fun _ h_=>h_.pick [] Al rfl) (A3 (i:=6) Ae (Ch rfl rfl (A4 p2 0 0 0 [nV .u8 ((xs.getD 9 0).toNat),nV .u32 (a4 xs 12),nV .u32 (a4 xs 16),nV .u16 (Pp (I4 (xs.getD 20 0)) (w2 xs 24) 0),nV .u16 (Pp (I4 (xs.getD 20 0)) 0 (w2 xs 24))] Tryz.sizeOf47 rfl rfl) (.inr fun _ _ h_=>h_.pick [] Al rfl) (fun _=>Wa.ys (v:=bV (P0 (xs.getD 20 0) (xs.getD 21 0))) (i:=7) Ae Ae Ae Ae (fun _ h_=>h_.pick [] Al rfl) rfl rfl rfl (Ys.p) ?_))))
      refine D1 Ae (hK52 _ _ _ (Aq (fn:=Tryz.f138) rfl ?_))
      have hC_:inC xs=false:=h15
      have h9_6:i9 xs 6=false:=h29
      have h9_17:i9 xs 17=false:=h39
      have h9_1:i9 xs 1=true:=h46
      exact fun w_ hS_=>B9 rfl (Bq p2 0 0 0 [nV .u8 ((xs.getD 9 0).toNat),nV .u32 (a4 xs 12),nV .u32 (a4 xs 16),nV .u16 (Pp (I4 (xs.getD 20 0)) (w2 xs 24) 0),nV .u16 (Pp (I4 (xs.getD 20 0)) 0 (w2 xs 24))] Tryz.isAgg47 Tryz.sizeOf47) (Aw (bV (P0 (xs.getD 20 0) (xs.getD 21 0)))) hS_ ⟨by clear hK1 hK3 hK4 hK19 hK22 hK23 hK25 hK26 hK44 hK48 hK52;refine congrArg Ending.returned ?_;simp only[St,Ki,Rn,Ro,Ta,hC_,h9_6,h9_17,h9_1,cond_true,cond_false];try rfl,hS_.below⟩
     ·refine Wa.ys (v:=sL a xs.length cap) (i:=1) Ae Ae Ae Ae (fun _ h_=>h_.pick [] Al rfl) rfl rfl rfl (Ys.p) (Wa.ys (v:=bV (I4 (xs.getD 20 0))) (i:=3) Ae Ae Ae Ae (fun _ h_=>h_.pick [] Al rfl) rfl rfl rfl (Ys.p) (Wa.ys (v:=bV (P0 (xs.getD 20 0) (xs.getD 21 0))) (i:=5) Ae Ae Ae Ae (fun _ h_=>h_.pick [] Al rfl) rfl rfl rfl (Ys.p) ?_))
      refine C3 (i:=0) (j:=2) Ae ?_ ?_
      ·refine Wo.yc (v:=aV (Q26 xs)) rfl rfl rfl (Ys.yc (A0 p2 0 0 0 (Q26 xs) Tryz.isAgg47 Tryz.sizeOf47)) (.inr fun _ h_=>h_.pick [] Al rfl) (A3 (i:=2) Ae (Wo.yc (v:=nV .u16 (w2 xs 24)) rfl rfl rfl (A9 (fun w_ hm_=>(Gd xs a cap 24 xs.length _ I7 (hat.mem0 hm_) Ag Ag Ef))) (.inr fun _ h_=>h_.pick [] Al rfl) ?_))
       exact Cb [2,54,56,57,59] [pV p2 0,aV [nV .u8 ((xs.getD 9 0).toNat),nV .u32 (a4 xs 12),nV .u32 (a4 xs 16),iV .u16 0,iV .u16 0],nV .u16 (w2 xs 24),bV (I4 (xs.getD 20 0)),bV (P0 (xs.getD 20 0) (xs.getD 21 0))] #[true,true,true,true,false,true,false,false] (JD55 () trivial) Ae Ae (fun _ h_=>h_)
      ·refine Wo.yc (v:=nV .u16 (w2 xs 24)) rfl rfl rfl (A9 (fun w_ hm_=>(Gd xs a cap 24 xs.length _ I7 (hat.mem0 hm_) Ag Ag Ef))) (.inr fun _ h_=>h_.pick [] Al rfl) (A3 (i:=0) Ae (Wo.yc (v:=aV (Q26 xs)) rfl rfl rfl (Ys.yc (A0 p2 0 0 0 (Q26 xs) Tryz.isAgg47 Tryz.sizeOf47)) (.inr fun _ h_=>h_.pick [] Al rfl) ?_))
       exact Cb [2,54,56,57,59] [pV p2 0,aV [nV .u8 ((xs.getD 9 0).toNat),nV .u32 (a4 xs 12),nV .u32 (a4 xs 16),iV .u16 0,iV .u16 0],nV .u16 (w2 xs 24),bV (I4 (xs.getD 20 0)),bV (P0 (xs.getD 20 0) (xs.getD 21 0))] #[true,true,true,true,false,true,false,false] (JD55 () trivial) Ae Ae (fun _ h_=>h_)
    ·have qh47:=h47;try simp only[zA]at qh47
     refine Ak (hK22 _ _ _ (Ad (fun K63 hK63=>Aa (Ah (A0 p2 0 0 0 (Q26 xs) Tryz.isAgg47 Tryz.sizeOf47) ?_))))
     refine Ai rfl (A4 p2 0 0 0 (Q26 xs) Tryz.sizeOf47 rfl rfl) (fun _=>Ab 1 (Ac (hK63 _ _ _ (Aq (fn:=Tryz.f138) rfl ?_))))
     have hC_:inC xs=false:=h15
     have h9_6:i9 xs 6=false:=h29
     have h9_17:i9 xs 17=false:=h39
     have h9_1:i9 xs 1=false:=h47
     exact fun w_ hS_=>B9 rfl (Bq p2 0 0 0 [nV .u8 ((xs.getD 9 0).toNat),nV .u32 (a4 xs 12),nV .u32 (a4 xs 16),iV .u16 0,iV .u16 0] Tryz.isAgg47 Tryz.sizeOf47) (Aw (bV false)) hS_ ⟨by clear hK1 hK3 hK4 hK19 hK22 hK23 hK25 hK26 hK44 hK63;refine congrArg Ending.returned ?_;simp only[St,Ki,Rn,Ro,Ta,hC_,h9_6,h9_17,h9_1,cond_true,cond_false];try rfl,hS_.below⟩
theorem Pl(xs:List UInt8)(a:Option Addr)(cap len:Nat)(w:World)(hn:len=xs.length)(hat:At w a (Ci xs))(hl:xs.length≤1000000)(hlc:xs.length≤cap):Calls Tryz.prog 138 #[.slice a len cap] w (Dc w (.tuple #[.agg ([Value.int .u8 ((St xs).toNat:Int),Value.int .u32 ((Ki xs 12:Nat):Int),Value.int .u32 ((Ki xs 16:Nat):Int),Value.int .u16 (Rn xs:Int),Value.int .u16 (Ro xs:Int)]).toArray,.bool (Ta xs)])):=by
  subst hn;exact Af1 xs a cap w hat hl hlc
def Tb(k:UInt8)(n:Int):Bool:=(k.toNat:Int)==n
def Sv(k:UInt8):Bool:=Tb k 3||(Tb k 11||Tb k 12)
def Kx(xs:List UInt8):Bool:=(mR xs==0)&&P0 (mT xs 0) (mT xs 1)
def Kf(xs:List UInt8):Bool:=((mR xs==0)&& !P0 (mT xs 0) (mT xs 1))&&(Sv (mT xs 0)&&Ta (mD xs))
def Pm(xs:List UInt8):Int:=bif mR xs==0 then(bif Kx xs then 0 else bif Kf xs then 0 else 11)else mR xs
def Tc(xs:List UInt8):Int:=bif Kx xs then 2 else bif Kf xs then 3 else 0
def msI(xs:List UInt8):Nat:=(mN xs/65536)%65536
def I5(fp:UInt8)(xs:List UInt8):UInt8:=bif Kf xs then St (mD xs)else fp
def L7(fs k:Nat)(xs:List UInt8):Nat:=bif Kf xs then Ki (mD xs) k else fs
def Sw(ff:Nat)(xs:List UInt8):Nat:=bif Kf xs then Ro (mD xs)else bif Kx xs then Pp (I4 (mT xs 0)) (msI xs) ff else ff
def Sx(ft:Nat)(xs:List UInt8):Nat:=bif Kf xs then Rn (mD xs)else bif Kx xs then Pp (I4 (mT xs 0)) ft (msI xs)else ft
abbrev Q29(xs:List UInt8):List Value:=[nV .u8 ((St (mD xs)).toNat),nV .u32 (Ki (mD xs) 12),nV .u32 (Ki (mD xs) 16),nV .u16 (Rn (mD xs)),nV .u16 (Ro (mD xs))]
abbrev Za(fd ff fs ft:Nat)(fp:UInt8):List Value:=[nV .u8 fp.toNat,nV .u32 fs,nV .u32 fd,nV .u16 ff,nV .u16 ft]
abbrev Q2b(xs:List UInt8):List Value:=[nV .u8 ((St (mD xs)).toNat),nV .u32 (Ki (mD xs) 16),nV .u32 (Ki (mD xs) 12),nV .u16 (Ro (mD xs)),nV .u16 (Rn (mD xs))]
abbrev Q2c:List Value:=Y6
theorem Yy(tt pr:UInt8)(id s d:Nat)(xs:List UInt8)(a:Option Addr)(cap:Nat)(fp:UInt8)(fs fd ff ft:Nat)(w:World)(hat:At w a (Ci xs))(hi:id<65536)(hs:s<4294967296)(hd:d<4294967296)(hl:xs.length≤100000)(hlc:xs.length≤cap):Calls Tryz.prog 86 #[aV [nV .u8 tt.toNat,nV .u8 pr.toNat,nV .u16 id,nV .u32 s,nV .u32 d,sL a xs.length cap],aV [nV .u8 fp.toNat,nV .u32 fs,nV .u32 fd,nV .u16 ff,nV .u16 ft]] w (Dc w (.tuple #[.agg ([nV .u8 ((I5 fp xs).toNat),nV .u32 (L7 fs 16 xs),nV .u32 (L7 fd 12 xs),nV .u16 (Sw ff xs),nV .u16 (Sx ft xs)]).toArray,.int .i64 (Tc xs),.int .i64 (Pm xs)])):=by
 have hmn_:=Ab3 xs;have hml_:=Ab8 xs
 refine Ar (M:=[]) (LL:=[]) (n:=55) Tryz.func86 rfl rfl A5 (Mem.refl _) (Ad (fun K1 hK1=>?_))
 refine Aa (Ai rfl (Bx [nV .u8 tt.toNat,nV .u8 pr.toNat,nV .u16 id,nV .u32 s,nV .u32 d,sL a xs.length cap] rfl) (fun p2=>?_))
 refine Ai rfl (Bx (Za fd ff fs ft fp) rfl) (fun p3=>Ai rfl (Bc Tryz.zeroValue47) (fun p4=>?_))
 refine Ab 2 (Ac (hK1 _ _ _ (Ad (fun K3 hK3=>Aa ?_))))
 refine Ab 1 (Ah (An p2 5 2 0 Tryz.isAgg38) (Ax rfl (Au [] [0,1,2] (fun w_ hm_ hl_=>(Pk xs a cap xs.length _ I7 (hat.mem0 hm_) Ex Ex))) (fun g4 ok5=>Ab 3 (Ai rfl (Bc Tryz.zeroValue132) (fun p7=>?_)))))
 refine Ai rfl (A4 p7 0 0 0 [nV .u8 ((mT xs 0).toNat),nV .u8 ((mT xs 1).toNat),nV .u32 (mN xs),sV g4 ((mD xs).length)] Tryz.sizeOf132 rfl rfl) (fun _=>Ab 1 (Ac (hK3 _ _ _ (Ap [0,1,2,3] Al rfl ?_))))
 refine Ad (fun K8 hK8=>Ad (fun K9 hK9=>?_))
 refine Aa (Ab 2 (Ac (hK9 _ _ _ ?_)))
 refine Ao ((mR xs) !=0) Ae (fun h11=>?_) (fun h12=>?_)
 ·have qh11:=h11;try simp only[zA]at qh11
  refine Ad (fun K13 hK13=>Aa (Ah (A0 p3 0 3 0 (Za fd ff fs ft fp) Tryz.isAgg47 Tryz.sizeOf47) (Ab 1 (Ai rfl (A4 p4 0 2 0 (Za fd ff fs ft fp) Tryz.sizeOf47 rfl rfl) (fun _=>?_)))))
  refine Ab 2 (Ac (hK13 _ _ _ (Ap [2] Al rfl (Aq (fn:=Tryz.f86) rfl ?_))))
  have hm_:(mR xs==0)=false:=by have z_:=h11;rw[bne]at z_;revert z_;cases(mR xs==0)<;>simp
  have hQ_:Kx xs=false:=by unfold Kx;rw[hm_];rfl
  have hR_:Kf xs=false:=by unfold Kf;rw[hm_];rfl
  exact fun w_ hS_=>I1 rfl (Bq p4 0 0 0 [nV .u8 fp.toNat,nV .u32 fs,nV .u32 fd,nV .u16 ff,nV .u16 ft] Tryz.isAgg47 Tryz.sizeOf47) (Aw (iV .i64 0)) (Aw (iV .i64 (mR xs))) hS_ ⟨by clear hK1 hK3 hK8 hK9 hK13;refine congrArg Ending.returned ?_;simp only[I5,L7,Sw,Sx,Tc,Pm,hQ_,hR_,hm_,cond_true,cond_false];try rfl,hS_.below⟩
 ·have qh12:=h12;try simp only[zA]at qh12
  refine Ak (hK8 _ _ _ (Ad (fun K16 hK16=>Ad (fun K17 hK17=>Aa ?_))))
  refine Ab 1 (Ah (An p7 0 0 0 Tryz.isAgg5) (Ab 1 (Ah (An p7 1 0 0 Tryz.isAgg5) (B0 (v:=Value.tuple #[bV (I4 (mT xs 0)),bV (P0 (mT xs 0) (mT xs 1))]) (A9 (fun w_ hm_=>(Ss (mT xs 0) (mT xs 1) _))) ?_))))
  refine Ab 5 (Ac (hK17 _ _ _ (Ad (fun K19 hK19=>Aa ?_))))
  refine Ab 1 (Ac (hK19 _ _ _ ?_))
  refine Ao (P0 (mT xs 0) (mT xs 1)) Ae (fun h20=>?_) (fun h21=>?_)
  ·refine Ad (fun K22 hK22=>Aa (Ah (A0 p3 0 3 0 (Za fd ff fs ft fp) Tryz.isAgg47 Tryz.sizeOf47) (Ab 1 (Ah (An p7 2 0 0 Tryz.isAgg23) ?_))))
   refine Ah (v:=nV .u32 ((mN xs)/65536)) ((Ys.p (v:=.int .u32 (Jd .u32 (mN xs:Int) ((16:Nat):Int)))).conseq (Af (El (mN xs) 16 Al))) (Ah (v:=nV .u16 (((mN xs)/65536)%65536)) ((Ys.p (v:=.int .u16 (Cg .u16 (((mN xs)/65536:Nat):Int)))).conseq (Af (C6 rfl _))) (Ab 1 (B0 (v:=aV [nV .u8 fp.toNat,nV .u32 fs,nV .u32 fd,nV .u16 (Pp (I4 (mT xs 0)) (((mN xs)/65536)%65536) ff),nV .u16 (Pp (I4 (mT xs 0)) ft (((mN xs)/65536)%65536))]) (A9 (fun w_ hm_=>(Agy fp fs fd ff ft (((mN xs)/65536)%65536) (I4 (mT xs 0)) _))) (Ai rfl (A4 p4 0 2 0 [nV .u8 fp.toNat,nV .u32 fs,nV .u32 fd,nV .u16 (Pp (I4 (mT xs 0)) (((mN xs)/65536)%65536) ff),nV .u16 (Pp (I4 (mT xs 0)) ft (((mN xs)/65536)%65536))] Tryz.sizeOf47 rfl rfl) (fun _=>?_)))))
   refine Ab 2 (Ac (hK22 _ _ _ (Ap [2] Al rfl (Aq (fn:=Tryz.f86) rfl ?_))))
   have hm_:(mR xs==0)=true:=by have z_:=h12;rw[bne]at z_;revert z_;cases(mR xs==0)<;>simp
   have hQ_:Kx xs=true:=by unfold Kx;rw[hm_,h20];rfl
   have hR_:Kf xs=false:=by unfold Kf;rw[hm_,h20];rfl
   exact fun w_ hS_=>I1 rfl (Bq p4 0 0 0 [nV .u8 fp.toNat,nV .u32 fs,nV .u32 fd,nV .u16 (Pp (I4 (mT xs 0)) (((mN xs)/65536)%65536) ff),nV .u16 (Pp (I4 (mT xs 0)) ft (((mN xs)/65536)%65536))] Tryz.isAgg47 Tryz.sizeOf47) (Aw (iV .i64 2)) (Aw (iV .i64 0)) hS_ ⟨by clear hK1 hK3 hK8 hK9 hK16 hK17 hK19 hK22;refine congrArg Ending.returned ?_;simp only[I5,L7,Sw,Sx,Tc,Pm,hQ_,hR_,hm_,cond_true,cond_false];try rfl,hS_.below⟩
  ·refine Ak (hK16 _ _ _ (Ad (fun K25 hK25=>Ad (fun K26 hK26=>Aa ?_))))
   refine Ab 1 (Ah (An p7 0 0 0 Tryz.isAgg5) (Ac (hK26 _ _ _ (W.block ?_))))
   refine Ad (fun K28 hK28=>Ad (fun K29 hK29=>?_))
   refine Aa (Ab 2 (Ac (hK29 _ _ _ ?_)))
   refine Ao ((((mT xs 0).toNat:Nat):Int)==3) Ae (fun h31=>?_) (fun h32=>?_)
   ·have qh31:=h31;try simp only[zA]at qh31
    refine Ak (hK28 _ _ _ ?_)
    refine Ao ((((mT xs 0).toNat:Nat):Int)==3) Ae (fun h34=>?_) (fun h35=>?_)
    ·have qh34:=h34;try simp only[zA]at qh34
     refine Ad (fun K36 hK36=>Aa (Ab 1 (Ah (An p7 3 0 0 Tryz.isAgg38) (B0 (v:=Value.tuple #[aV (Q29 xs),bV (Ta (mD xs))]) (A9 (fun w_ hm_=>(Pl (mD xs) g4.a g4.cap ((mD xs).length) _ I7 (FS.at (i:=1) (t:=5) hm_ rfl (Aj ok5 (Ba _))) Ex (by have z_:=ok5.le;first|exact z_|omega|(simp at z_⊢;omega))))) ?_))))
     refine Ab 3 (Ai rfl (Bc Tryz.zeroValue47) (fun p11=>?_))
     refine Ai rfl (A4 p11 0 0 0 (Q29 xs) Tryz.sizeOf47 rfl rfl) (fun _=>Ab 1 (Ac (hK36 _ _ _ (Ap [0,3,4] Al rfl ?_))))
     refine Ad (fun K38 hK38=>Aa (Ab 1 (Ac (hK38 _ _ _ ?_))))
     refine Ao (Ta (mD xs)) Ae (fun h39=>?_) (fun h40=>?_)
     ·refine Ad (fun K41 hK41=>Aa (Ah (A0 p11 0 0 0 (Q29 xs) Tryz.isAgg47 Tryz.sizeOf47) (B0 (v:=aV (Q2b xs)) (A9 (fun w_ hm_=>(Kw (St (mD xs)) (Ki (mD xs) 12) (Ki (mD xs) 16) (Rn (mD xs)) (Ro (mD xs)) _))) (Ai rfl (A4 p4 0 1 0 (Q2b xs) Tryz.sizeOf47 rfl rfl) (fun _=>?_)))))
      refine Ab 2 (Ac (hK41 _ _ _ (Ap [1] Al rfl (Aq (fn:=Tryz.f86) rfl ?_))))
      have hm_:(mR xs==0)=true:=by have z_:=h12;rw[bne]at z_;revert z_;cases(mR xs==0)<;>simp
      have hQ_:Kx xs=false:=by unfold Kx;rw[hm_,h21];rfl
      have hR_:Kf xs=true:=by unfold Kf Sv;rw[hm_,h21,show Tb (mT xs 0) 3=true from h34];simp[h39]
      exact fun w_ hS_=>I1 rfl (Bq p4 0 0 0 [nV .u8 ((St (mD xs)).toNat),nV .u32 (Ki (mD xs) 16),nV .u32 (Ki (mD xs) 12),nV .u16 (Ro (mD xs)),nV .u16 (Rn (mD xs))] Tryz.isAgg47 Tryz.sizeOf47) (Aw (iV .i64 3)) (Aw (iV .i64 0)) hS_ ⟨by clear hK1 hK3 hK8 hK9 hK16 hK17 hK19 hK25 hK26 hK28 hK29 hK36 hK38 hK41;refine congrArg Ending.returned ?_;simp only[I5,L7,Sw,Sx,Tc,Pm,hQ_,hR_,hm_,cond_true,cond_false];try rfl,hS_.below⟩
     ·refine Ak (hK25 _ _ _ (Ap [1,2] Al rfl (Ad (fun K44 hK44=>Aa ?_))))
      refine Ah (A0 p3 0 1 0 (Za fd ff fs ft fp) Tryz.isAgg47 Tryz.sizeOf47) (Ai rfl (A4 p4 0 0 0 (Za fd ff fs ft fp) Tryz.sizeOf47 rfl rfl) (fun _=>?_))
      refine Ab 2 (Ac (hK44 _ _ _ (Ap [0] Al rfl (Aq (fn:=Tryz.f86) rfl ?_))))
      have hm_:(mR xs==0)=true:=by have z_:=h12;rw[bne]at z_;revert z_;cases(mR xs==0)<;>simp
      have hQ_:Kx xs=false:=by unfold Kx;rw[hm_,h21];rfl
      have hR_:Kf xs=false:=by unfold Kf Sv;rw[hm_,h21,show Tb (mT xs 0) 3=true from h34];simp[h40]
      exact fun w_ hS_=>I1 rfl (Bq p4 0 0 0 [nV .u8 fp.toNat,nV .u32 fs,nV .u32 fd,nV .u16 ff,nV .u16 ft] Tryz.isAgg47 Tryz.sizeOf47) (Aw (iV .i64 0)) (Aw (iV .i64 11)) hS_ ⟨by clear hK1 hK3 hK8 hK9 hK16 hK17 hK19 hK25 hK26 hK28 hK29 hK36 hK38 hK44;refine congrArg Ending.returned ?_;simp only[I5,L7,Sw,Sx,Tc,Pm,hQ_,hR_,hm_,cond_true,cond_false];try rfl,hS_.below⟩
    ·exact absurd (h31.symm.trans h35) Al
   ·have qh32:=h32;try simp only[zA]at qh32
    refine Ad (fun K46 hK46=>Aa (Ab 2 (Ac (hK46 _ _ _ ?_))))
    refine Ao ((((mT xs 0).toNat:Nat):Int)==11) Ae (fun h48=>?_) (fun h49=>?_)
    ·have qh48:=h48;try simp only[zA]at qh48
     refine Ak (hK28 _ _ _ ?_)
     refine Ao ((((mT xs 0).toNat:Nat):Int)==11) Ae (fun h51=>?_) (fun h52=>?_)
     ·have qh51:=h51;try simp only[zA]at qh51
      refine Ad (fun K53 hK53=>Aa (Ab 1 (Ah (An p7 3 0 0 Tryz.isAgg38) (B0 (v:=Value.tuple #[aV (Q29 xs),bV (Ta (mD xs))]) (A9 (fun w_ hm_=>(Pl (mD xs) g4.a g4.cap ((mD xs).length) _ I7 (FS.at (i:=1) (t:=5) hm_ rfl (Aj ok5 (Ba _))) Ex (by have z_:=ok5.le;first|exact z_|omega|(simp at z_⊢;omega))))) ?_))))
      refine Ab 3 (Ai rfl (Bc Tryz.zeroValue47) (fun p11=>?_))
      refine Ai rfl (A4 p11 0 0 0 (Q29 xs) Tryz.sizeOf47 rfl rfl) (fun _=>Ab 1 (Ac (hK53 _ _ _ (Ap [0,3,4] Al rfl ?_))))
      refine Ad (fun K55 hK55=>Aa (Ab 1 (Ac (hK55 _ _ _ ?_))))
      refine Ao (Ta (mD xs)) Ae (fun h56=>?_) (fun h57=>?_)
      ·refine Ad (fun K58 hK58=>Aa (Ah (A0 p11 0 0 0 (Q29 xs) Tryz.isAgg47 Tryz.sizeOf47) (B0 (v:=aV (Q2b xs)) (A9 (fun w_ hm_=>(Kw (St (mD xs)) (Ki (mD xs) 12) (Ki (mD xs) 16) (Rn (mD xs)) (Ro (mD xs)) _))) (Ai rfl (A4 p4 0 1 0 (Q2b xs) Tryz.sizeOf47 rfl rfl) (fun _=>?_)))))
       refine Ab 2 (Ac (hK58 _ _ _ (Ap [1] Al rfl (Aq (fn:=Tryz.f86) rfl ?_))))
       have hm_:(mR xs==0)=true:=by have z_:=h12;rw[bne]at z_;revert z_;cases(mR xs==0)<;>simp
       have hQ_:Kx xs=false:=by unfold Kx;rw[hm_,h21];rfl
       have hR_:Kf xs=true:=by unfold Kf Sv;rw[hm_,h21,show Tb (mT xs 0) 3=false from h32,show Tb (mT xs 0) 11=true from h51];simp[h56]
       exact fun w_ hS_=>I1 rfl (Bq p4 0 0 0 [nV .u8 ((St (mD xs)).toNat),nV .u32 (Ki (mD xs) 16),nV .u32 (Ki (mD xs) 12),nV .u16 (Ro (mD xs)),nV .u16 (Rn (mD xs))] Tryz.isAgg47 Tryz.sizeOf47) (Aw (iV .i64 3)) (Aw (iV .i64 0)) hS_ ⟨by clear hK1 hK3 hK8 hK9 hK16 hK17 hK19 hK25 hK26 hK28 hK29 hK46 hK53 hK55 hK58;refine congrArg Ending.returned ?_;simp only[I5,L7,Sw,Sx,Tc,Pm,hQ_,hR_,hm_,cond_true,cond_false];try rfl,hS_.below⟩
      ·refine Ak (hK25 _ _ _ (Ap [1,2] Al rfl (Ad (fun K61 hK61=>Aa ?_))))
       refine Ah (A0 p3 0 1 0 (Za fd ff fs ft fp) Tryz.isAgg47 Tryz.sizeOf47) (Ai rfl (A4 p4 0 0 0 (Za fd ff fs ft fp) Tryz.sizeOf47 rfl rfl) (fun _=>?_))
       refine Ab 2 (Ac (hK61 _ _ _ (Ap [0] Al rfl (Aq (fn:=Tryz.f86) rfl ?_))))
       have hm_:(mR xs==0)=true:=by have z_:=h12;rw[bne]at z_;revert z_;cases(mR xs==0)<;>simp
       have hQ_:Kx xs=false:=by unfold Kx;rw[hm_,h21];rfl
       have hR_:Kf xs=false:=by unfold Kf Sv;rw[hm_,h21,show Tb (mT xs 0) 3=false from h32,show Tb (mT xs 0) 11=true from h51];simp[h57]
       exact fun w_ hS_=>I1 rfl (Bq p4 0 0 0 [nV .u8 fp.toNat,nV .u32 fs,nV .u32 fd,nV .u16 ff,nV .u16 ft] Tryz.isAgg47 Tryz.sizeOf47) (Aw (iV .i64 0)) (Aw (iV .i64 11)) hS_ ⟨by clear hK1 hK3 hK8 hK9 hK16 hK17 hK19 hK25 hK26 hK28 hK29 hK46 hK53 hK55 hK61;refine congrArg Ending.returned ?_;simp only[I5,L7,Sw,Sx,Tc,Pm,hQ_,hR_,hm_,cond_true,cond_false];try rfl,hS_.below⟩
     ·exact absurd (h48.symm.trans h52) Al
    ·have qh49:=h49;try simp only[zA]at qh49
     refine Aa (Ab 2 (Ac (hK28 _ _ _ ?_)))
     refine Ao ((((mT xs 0).toNat:Nat):Int)==12) Ae (fun h64=>?_) (fun h65=>?_)
     ·have qh64:=h64;try simp only[zA]at qh64
      refine Ad (fun K66 hK66=>Aa (Ab 1 (Ah (An p7 3 0 0 Tryz.isAgg38) (B0 (v:=Value.tuple #[aV (Q29 xs),bV (Ta (mD xs))]) (A9 (fun w_ hm_=>(Pl (mD xs) g4.a g4.cap ((mD xs).length) _ I7 (FS.at (i:=1) (t:=5) hm_ rfl (Aj ok5 (Ba _))) Ex (by have z_:=ok5.le;first|exact z_|omega|(simp at z_⊢;omega))))) ?_))))
      refine Ab 3 (Ai rfl (Bc Tryz.zeroValue47) (fun p11=>?_))
      refine Ai rfl (A4 p11 0 0 0 (Q29 xs) Tryz.sizeOf47 rfl rfl) (fun _=>Ab 1 (Ac (hK66 _ _ _ (Ap [0,3,4] Al rfl ?_))))
      refine Ad (fun K68 hK68=>Aa (Ab 1 (Ac (hK68 _ _ _ ?_))))
      refine Ao (Ta (mD xs)) Ae (fun h69=>?_) (fun h70=>?_)
      ·refine Ad (fun K71 hK71=>Aa (Ah (A0 p11 0 0 0 (Q29 xs) Tryz.isAgg47 Tryz.sizeOf47) (B0 (v:=aV (Q2b xs)) (A9 (fun w_ hm_=>(Kw (St (mD xs)) (Ki (mD xs) 12) (Ki (mD xs) 16) (Rn (mD xs)) (Ro (mD xs)) _))) (Ai rfl (A4 p4 0 1 0 (Q2b xs) Tryz.sizeOf47 rfl rfl) (fun _=>?_)))))
       refine Ab 2 (Ac (hK71 _ _ _ (Ap [1] Al rfl (Aq (fn:=Tryz.f86) rfl ?_))))
       have hm_:(mR xs==0)=true:=by have z_:=h12;rw[bne]at z_;revert z_;cases(mR xs==0)<;>simp
       have hQ_:Kx xs=false:=by unfold Kx;rw[hm_,h21];rfl
       have hR_:Kf xs=true:=by unfold Kf Sv;rw[hm_,h21,show Tb (mT xs 0) 3=false from h32,show Tb (mT xs 0) 11=false from h49,show Tb (mT xs 0) 12=true from h64];simp[h69]
       exact fun w_ hS_=>I1 rfl (Bq p4 0 0 0 [nV .u8 ((St (mD xs)).toNat),nV .u32 (Ki (mD xs) 16),nV .u32 (Ki (mD xs) 12),nV .u16 (Ro (mD xs)),nV .u16 (Rn (mD xs))] Tryz.isAgg47 Tryz.sizeOf47) (Aw (iV .i64 3)) (Aw (iV .i64 0)) hS_ ⟨by clear hK1 hK3 hK8 hK9 hK16 hK17 hK19 hK25 hK26 hK28 hK29 hK46 hK66 hK68 hK71;refine congrArg Ending.returned ?_;simp only[I5,L7,Sw,Sx,Tc,Pm,hQ_,hR_,hm_,cond_true,cond_false];try rfl,hS_.below⟩
      ·refine Ak (hK25 _ _ _ (Ap [1,2] Al rfl (Ad (fun K74 hK74=>Aa ?_))))
       refine Ah (A0 p3 0 1 0 (Za fd ff fs ft fp) Tryz.isAgg47 Tryz.sizeOf47) (Ai rfl (A4 p4 0 0 0 (Za fd ff fs ft fp) Tryz.sizeOf47 rfl rfl) (fun _=>?_))
       refine Ab 2 (Ac (hK74 _ _ _ (Ap [0] Al rfl (Aq (fn:=Tryz.f86) rfl ?_))))
       have hm_:(mR xs==0)=true:=by have z_:=h12;rw[bne]at z_;revert z_;cases(mR xs==0)<;>simp
       have hQ_:Kx xs=false:=by unfold Kx;rw[hm_,h21];rfl
       have hR_:Kf xs=false:=by unfold Kf Sv;rw[hm_,h21,show Tb (mT xs 0) 3=false from h32,show Tb (mT xs 0) 11=false from h49,show Tb (mT xs 0) 12=true from h64];simp[h70]
       exact fun w_ hS_=>I1 rfl (Bq p4 0 0 0 [nV .u8 fp.toNat,nV .u32 fs,nV .u32 fd,nV .u16 ff,nV .u16 ft] Tryz.isAgg47 Tryz.sizeOf47) (Aw (iV .i64 0)) (Aw (iV .i64 11)) hS_ ⟨by clear hK1 hK3 hK8 hK9 hK16 hK17 hK19 hK25 hK26 hK28 hK29 hK46 hK66 hK68 hK74;refine congrArg Ending.returned ?_;simp only[I5,L7,Sw,Sx,Tc,Pm,hQ_,hR_,hm_,cond_true,cond_false];try rfl,hS_.below⟩
     ·have qh65:=h65;try simp only[zA]at qh65
      refine Ak (hK25 _ _ _ (Ap [2,3] Al rfl (Ad (fun K77 hK77=>Aa ?_))))
      refine Ah (A0 p3 0 1 0 (Za fd ff fs ft fp) Tryz.isAgg47 Tryz.sizeOf47) (Ai rfl (A4 p4 0 0 0 (Za fd ff fs ft fp) Tryz.sizeOf47 rfl rfl) (fun _=>?_))
      refine Ab 2 (Ac (hK77 _ _ _ (Ap [0] Al rfl (Aq (fn:=Tryz.f86) rfl ?_))))
      have hm_:(mR xs==0)=true:=by have z_:=h12;rw[bne]at z_;revert z_;cases(mR xs==0)<;>simp
      have hQ_:Kx xs=false:=by unfold Kx;rw[hm_,h21];rfl
      have hR_:Kf xs=false:=by unfold Kf Sv;rw[hm_,h21,show Tb (mT xs 0) 3=false from h32,show Tb (mT xs 0) 11=false from h49,show Tb (mT xs 0) 12=false from h65];simp
      exact fun w_ hS_=>I1 rfl (Bq p4 0 0 0 [nV .u8 fp.toNat,nV .u32 fs,nV .u32 fd,nV .u16 ff,nV .u16 ft] Tryz.isAgg47 Tryz.sizeOf47) (Aw (iV .i64 0)) (Aw (iV .i64 11)) hS_ ⟨by clear hK1 hK3 hK8 hK9 hK16 hK17 hK19 hK25 hK26 hK28 hK29 hK46 hK77;refine congrArg Ending.returned ?_;simp only[I5,L7,Sw,Sx,Tc,Pm,hQ_,hR_,hm_,cond_true,cond_false];try rfl,hS_.below⟩
theorem Vt(tt pr:UInt8)(id s d:Nat)(xs:List UInt8)(a:Option Addr)(cap:Nat)(fp:UInt8)(fs fd ff ft:Nat)(len:Nat)(w:World)(hn:len=xs.length)(hat:At w a (Ci xs))(hi:id<65536)(hs:s<4294967296)(hd:d<4294967296)(hl:xs.length≤100000)(hlc:xs.length≤cap):Calls Tryz.prog 86 #[Value.agg ([Value.int .u8 (tt.toNat:Int),Value.int .u8 (pr.toNat:Int),Value.int .u16 (id:Int),Value.int .u32 (s:Int),Value.int .u32 (d:Int),sL a len cap]).toArray,Value.agg ([Value.int .u8 (fp.toNat:Int),Value.int .u32 (fs:Int),Value.int .u32 (fd:Int),Value.int .u16 (ff:Int),Value.int .u16 (ft:Int)]).toArray] w (Dc w (.tuple #[.agg ([Value.int .u8 ((I5 fp xs).toNat:Int),Value.int .u32 (L7 fs 16 xs:Int),Value.int .u32 (L7 fd 12 xs:Int),Value.int .u16 (Sw ff xs:Int),Value.int .u16 (Sx ft xs:Int)]).toArray,.int .i64 (Tc xs),.int .i64 (Pm xs)])):=by
  subst hn;exact Yy tt pr id s d xs a cap fp fs fd ff ft w hat hi hs hd hl hlc
def tK(xs:List UInt8):Nat:=4*((xs.getD 12 0).toNat/16)
def tR(s d:Nat)(xs:List UInt8):Int:=if xs.length<20 then 10 else if 1480<xs.length then 14 else if tK xs<20∨xs.length<tK xs then 11 else if Dy (Eg s d 6 xs.length++xs)≠0 then 12 else 0
def tg(s d:Nat)(xs:List UInt8):Bool:=decide (tR s d xs=0)
def tF(s d:Nat)(xs:List UInt8)(k:Nat):Nat:=bif tg s d xs then w2 xs k else 0
def tW(s d:Nat)(xs:List UInt8)(k:Nat):Nat:=bif tg s d xs then bv ((xs.drop k).take 4)else 0
def tL(s d:Nat)(xs:List UInt8):UInt8:=bif tg s d xs then xs.getD 13 0 else 0
def tO(s d:Nat)(xs:List UInt8):List UInt8:=bif tg s d xs then(xs.drop 20).take (tK xs-20)else []
def tD(s d:Nat)(xs:List UInt8):List UInt8:=bif tg s d xs then xs.drop (tK xs)else []
theorem Xp(xs:List UInt8)(j:Nat):bv ((xs.drop j).take 4)<4294967296:=by
  have h:=W3 ((xs.drop j).take 4)
  have h2:256^((xs.drop j).take 4).length≤256^4:=Nat.pow_le_pow_right Al (by rw[List.length_take];omega)
  omega
theorem Vu(x:UInt8):UInt8.ofNat x.toNat=x:=UInt8.toNat_inj.1 (by rw[UInt8.toNat_ofNat',Nat.mod_eq_of_lt (UInt8.toNat_lt x)])
theorem Ajp{s d:Nat}{xs:List UInt8}(h:(Nh xs.length 20 !=0)=true):tR s d xs=Nh xs.length 20:=by
  unfold tR Nh at*
  split
  · rfl
  · split
    · rfl
    · rename_i h1 h2;rw[if_neg h1,if_neg h2]at h;cases h
theorem Ajq{xs:List UInt8}{k:Nat}(h1:20≤k)(h2:k≤xs.length):Cp (Dd (xs.drop 20) (((k:Nat):Int)-20)) ((Dd (xs.drop 20) (((k:Nat):Int)-20)).length:Int)=xs.drop k:=by
  have e:(k:Int)-20=((k-20:Nat):Int):=by omega
  rw[e,N2 Ag,show 20+(k-20)=k by omega,Mo (by rw[List.length_drop];omega),List.take_of_length_le (Nat.le_refl _)]
theorem Ajr{xs:List UInt8}{k:Nat}(h1:20≤k)(h2:k≤xs.length):Cp (xs.drop 20) (((k:Nat):Int)-20)=(xs.drop 20).take (k-20):=by
  have e:(k:Int)-20=((k-20:Nat):Int):=by omega
  rw[e,Mo Ag]
theorem Ajs{xs:List UInt8}{k:Nat}(h:k+1≤xs.length):bv ((xs.drop k).take 1)=(xs.getD k 0).toNat:=by
  have e:(xs.drop k).take 1=[xs.getD k 0]:=by
    apply List.ext_getElem?
    intro j
    rcases j with _|j
    · simp[List.getElem?_take,List.getElem?_drop,List.getElem?_eq_getElem (show k<xs.length by omega)]
    · simp;omega
  rw[e];simp[bv]
theorem Un(X:List UInt8)(a:Option Addr)(len cap:Nat)(bad:Bool)(b j k:Nat)(w:World)(hl:Mem w [b] [[cb b [.slice a len cap,.bool bad] 283]] w)(hat:At w a (Ci (X.drop j)))(hn:len=X.length-j)(hjk:j+k≤X.length)(hcap:len≤cap)(hy:X.length≤70368744177664)(hk8:k≤8)(h2:k=1:=by rfl):
    Calls Tryz.prog 132 #[.pointer (some ⟨b,0,none⟩),.int .i64 (k:Int)] w (Bj w (fun x:EV=>View x.a (X.drop (j+k)) a (X.drop j)∧X.length-(j+k)≤x.cap) (fun x=>.int .u64 ((X.getD j 0).toNat:Int)) [b] (fun x=>[[cb b [.slice x.a (X.length-(j+k)) x.cap,.bool bad] 283]])):=by
  have h:=Mp X a len cap bad b j k w hl hat hn hjk hcap hy hk8
  subst h2
  rw[Ajs hjk]at h
  exact h
abbrev Q2d:List Value:=zl2
set_option maxHeartbeats 2000000 in
theorem Ajt(s d:Nat)(xs:List UInt8)(a:Option Addr)(cap:Nat)(w:World)(hat:At w a (Ci xs))(hs:s<4294967296)(hd:d<4294967296)(hl:xs.length≤100000)(hlc:xs.length≤cap):Calls Tryz.prog 84 #[nV .u32 s,nV .u32 d,sL a xs.length cap] w (Bj w (fun g:FS×FS=>g.1.ok 1 (tO s d xs).length∧g.2.ok 1 (tD s d xs).length) (fun g=>.tuple #[.agg [.int .u16 ((tF s d xs 0:Nat):Int),.int .u16 ((tF s d xs 2:Nat):Int),.int .u32 ((tW s d xs 4:Nat):Int),.int .u32 ((tW s d xs 8:Nat):Int),.int .u8 ((tL s d xs).toNat:Int),.int .u16 ((tF s d xs 14:Nat):Int),.int .u16 ((tF s d xs 18:Nat):Int),.slice g.1.a (tO s d xs).length g.1.cap,.slice g.2.a (tD s d xs).length g.2.cap].toArray,.int .i64 (tR s d xs)]) [] (fun g=>[g.1.seg 5 (Ci (tO s d xs)),g.2.seg 5 (Ci (tD s d xs))])):=by
 have hb12:=UInt8.toNat_lt (xs.getD 12 0)
 refine Ar (M:=[]) (LL:=[]) (n:=86) Tryz.func84 rfl rfl A5 (Mem.refl _) (Ad (fun K1 hK1=>?_))
 refine Aa (Ai rfl (Bc Tryz.zeroValue126) (fun p6=>?_))
 refine Ab 1 (Ac (hK1 _ _ _ (Ad (fun K3 hK3=>Ad (fun K4 hK4=>?_)))))
 refine Aa (Ab 1 (B0 (v:=iV .i64 (Nh xs.length 20)) (A9 (fun w_ hm_=>O8 a xs.length cap 20 _ Ag Ag)) (Ab 1 (Ac ?_))))
 refine hK4 _ _ _ (Ad (fun K6 hK6=>?_))
 refine Aa (Ab 2 (Ac (hK6 _ _ _ ?_)))
 refine Ao ((Nh xs.length 20) !=0) Ae (fun h8=>?_) (fun h9=>?_)
 ·have qh8:=h8;try simp only[zA]at qh8
  refine Ad (fun K10 hK10=>Aa (Ah (A0 p6 0 0 0 Q2d Tryz.isAgg126 Tryz.sizeOf126) (Ab 1 (Ai rfl (A4 p6 0 0 0 Q2d Tryz.sizeOf126 rfl rfl) (fun _=>?_)))))
  refine Ab 1 (Ac (hK10 _ _ _ (Aq (fn:=Tryz.f84) rfl ?_)))
  have hR:tR s d xs=Nh xs.length 20:=Ajp h8
  have hG:tg s d xs=false:=by unfold tg;rw[hR];exact decide_eq_false (by simpa using h8)
  have hO:tO s d xs=[]:=by unfold tO;rw[hG];rfl
  have hD:tD s d xs=[]:=by unfold tD;rw[hG];rfl
  exact fun w_ hS_=>B9 rfl (Bq p6 0 0 0 zl2 Tryz.isAgg126 Tryz.sizeOf126) (Aw (iV .i64 (Nh xs.length 20))) hS_ ⟨(FS.nul,FS.nul),⟨by rw[hO];exact Bw 1,by rw[hD];exact Bw 1⟩,congrArg Ending.returned ((by simp only[tF,tW,tL,hG,cond_false,hR,hO,hD];rfl)),(Mem.cast (by rw[hO,hD];rfl) (Mem.push (Mem.push (hS_.pick [] Al rfl))))⟩
 ·have qh9:=h9;try simp only[zA]at qh9
  refine Ak (hK3 _ _ _ (Ad (fun K13 hK13=>?_)))
  have hb_:=Vg h9
  refine Aa (Ab 1 (Ax rfl (Au [] [0] (fun w_ hm_ hl_=>(Mn xs a xs.length cap _ rfl (hat.mem0 hm_) Ex))) (fun ne14 ok15=>Ab 1 (Ac ?_))))
  refine hK13 _ _ _ (Ad (fun K19 hK19=>?_))
  refine Aa (Ab 1 (Ax rfl (Au [0] [1,2] (fun w_ hm_ hl_=>(Gb xs ne14.g.a xs.length ne14.g.cap false ne14.b 0 2 _ hl_ (by rw[List.drop_zero];exact(FS.at (i:=1) (t:=5) hm_ rfl (Aj ok15 (Ba _)))) I9 Ag (ok15.le) Ag Al))) (fun ev20 hx26=>?_)))
  obtain⟨hv22,hc23⟩:=hx26
  refine Ah (v:=nV .u16 ((w2 xs 0)%65536)) ((Ys.p (v:=.int .u16 (Cg .u16 ((w2 xs 0:Nat):Int)))).conseq (Af (C6 rfl _))) (Ab 1 (Ax rfl (Au [0] [1,2] (fun w_ hm_ hl_=>(Gb xs ev20.a (xs.length-2) ev20.cap false ne14.b 2 2 _ hl_ (hv22 _ (by rw[List.drop_zero];exact(FS.at (i:=1) (t:=5) hm_ rfl (Aj ok15 (Ba _))))) I9 Ag Ag Ag Al))) (fun ev27 hx33=>?_)))
  obtain⟨hv29,hc30⟩:=hx33
  refine Ah (v:=nV .u16 ((w2 xs 2)%65536)) ((Ys.p (v:=.int .u16 (Cg .u16 ((w2 xs 2:Nat):Int)))).conseq (Af (C6 rfl _))) (Ab 1 (Ai rfl (Bg p6 0 2 0 (nV .u16 ((w2 xs 0)%65536)) Tryz.sizeOf22 rfl rfl) (fun _=>Ab 1 (Ai rfl (Bg p6 1 2 0 (nV .u16 ((w2 xs 2)%65536)) Tryz.sizeOf22 rfl rfl) (fun _=>?_)))))
  refine Ac (hK19 _ _ _ (Ad (fun K35 hK35=>Aa (Ab 1 ?_))))
  refine Ax rfl (Au [0] [1,2] (fun w_ hm_ hl_=>(Mp xs ev27.a (xs.length-4) ev27.cap false ne14.b 4 4 _ hl_ (hv29 _ (hv22 _ (by rw[List.drop_zero];exact(FS.at (i:=1) (t:=5) hm_ rfl (Aj ok15 (Ba _)))))) I9 Ag Ag Ag Al))) (fun ev36 hx42=>?_)
  obtain⟨hv38,hc39⟩:=hx42
  refine Ah (v:=nV .u32 ((bv ((xs.drop 4).take 4))%4294967296)) ((Ys.p (v:=.int .u32 (Cg .u32 (bv ((xs.drop 4).take 4):Int)))).conseq (Af (C6 rfl _))) (Ab 1 (Ax rfl (Au [0] [1,2] (fun w_ hm_ hl_=>(Mp xs ev36.a (xs.length-8) ev36.cap false ne14.b 8 4 _ hl_ (hv38 _ (hv29 _ (hv22 _ (by rw[List.drop_zero];exact(FS.at (i:=1) (t:=5) hm_ rfl (Aj ok15 (Ba _))))))) I9 Ag Ag Ag Al))) (fun ev43 hx49=>?_)))
  obtain⟨hv45,hc46⟩:=hx49
  refine Ah (v:=nV .u32 ((bv ((xs.drop 8).take 4))%4294967296)) ((Ys.p (v:=.int .u32 (Cg .u32 (bv ((xs.drop 8).take 4):Int)))).conseq (Af (C6 rfl _))) (Ab 1 (Ai rfl (Bg p6 2 2 0 (nV .u32 ((bv ((xs.drop 4).take 4))%4294967296)) Tryz.sizeOf23 rfl rfl) (fun _=>Ab 1 (Ai rfl (Bg p6 3 2 0 (nV .u32 ((bv ((xs.drop 8).take 4))%4294967296)) Tryz.sizeOf23 rfl rfl) (fun _=>?_)))))
  refine Ac (hK35 _ _ _ (Ad (fun K51 hK51=>Aa (Ab 1 ?_))))
  refine Ax rfl (Au [0] [1,2] (fun w_ hm_ hl_=>(Un xs ev43.a (xs.length-12) ev43.cap false ne14.b 12 1 _ hl_ (hv45 _ (hv38 _ (hv29 _ (hv22 _ (by rw[List.drop_zero];exact(FS.at (i:=1) (t:=5) hm_ rfl (Aj ok15 (Ba _)))))))) I9 Ag Ag Ag Al))) (fun ev52 hx58=>?_)
  obtain⟨hv54,hc55⟩:=hx58
  refine Ah (v:=nV .u64 (((xs.getD 12 0).toNat)/16)) ((Ys.p (v:=.int .u64 (Jd .u64 ((xs.getD 12 0).toNat:Int) ((4:Nat):Int)))).conseq (Af (El ((xs.getD 12 0).toNat) 4 Al))) (Ah (v:=nV .i64 (((xs.getD 12 0).toNat)/16)) ((Ys.p (v:=.int .i64 (Cg .i64 ((((xs.getD 12 0).toNat)/16:Nat):Int)))).conseq (Af (Cz Ag Ag))) (Ah (v:=nV .i64 ((((xs.getD 12 0).toNat)/16)*4)) ((Ys.p (v:=.int .i64 (Ld .i64 ((((xs.getD 12 0).toNat)/16:Nat):Int) 4))).conseq (Af (Nn (by first|omega|rfl|(push_cast;rfl)) Ag Ag))) (Ab 1 (Ac ?_))))
  refine hK51 _ _ _ (Ad (fun K60 hK60=>?_))
  refine Aa (Ab 1 (Ax rfl (Au [0] [1,2] (fun w_ hm_ hl_=>(Un xs ev52.a (xs.length-13) ev52.cap false ne14.b 13 1 _ hl_ (hv54 _ (hv45 _ (hv38 _ (hv29 _ (hv22 _ (by rw[List.drop_zero];exact(FS.at (i:=1) (t:=5) hm_ rfl (Aj ok15 (Ba _))))))))) I9 Ag Ag Ag Al))) (fun ev61 hx67=>?_)))
  obtain⟨hv63,hc64⟩:=hx67
  refine Ah (v:=nV .u8 ((UInt8.ofNat ((xs.getD 13 0).toNat)).toNat)) ((Ys.p (v:=.int .u8 (Cg .u8 ((xs.getD 13 0).toNat:Int)))).conseq (Af (Gf _))) (Ab 1 (Ax rfl (Au [0] [1,2] (fun w_ hm_ hl_=>(Gb xs ev61.a (xs.length-14) ev61.cap false ne14.b 14 2 _ hl_ (hv63 _ (hv54 _ (hv45 _ (hv38 _ (hv29 _ (hv22 _ (by rw[List.drop_zero];exact(FS.at (i:=1) (t:=5) hm_ rfl (Aj ok15 (Ba _)))))))))) I9 Ag Ag Ag Al))) (fun ev68 hx74=>?_)))
  obtain⟨hv70,hc71⟩:=hx74
  refine Ah (v:=nV .u16 ((w2 xs 14)%65536)) ((Ys.p (v:=.int .u16 (Cg .u16 ((w2 xs 14:Nat):Int)))).conseq (Af (C6 rfl _))) (Ab 1 (Ai rfl (Bg p6 4 2 0 (nV .u8 ((UInt8.ofNat ((xs.getD 13 0).toNat)).toNat)) Tryz.sizeOf5 rfl rfl) (fun _=>Ab 1 (Ai rfl (Bg p6 5 2 0 (nV .u16 ((w2 xs 14)%65536)) Tryz.sizeOf22 rfl rfl) (fun _=>?_)))))
  refine Ac (hK60 _ _ _ (Ad (fun K76 hK76=>Aa (Ab 1 ?_))))
  refine Ax rfl (Au [0] [1,2] (fun w_ hm_ hl_=>(Gb xs ev68.a (xs.length-16) ev68.cap false ne14.b 16 2 _ hl_ (hv70 _ (hv63 _ (hv54 _ (hv45 _ (hv38 _ (hv29 _ (hv22 _ (by rw[List.drop_zero];exact(FS.at (i:=1) (t:=5) hm_ rfl (Aj ok15 (Ba _))))))))))) I9 Ag Ag Ag Al))) (fun ev77 hx83=>?_)
  obtain⟨hv79,hc80⟩:=hx83
  refine Ac (hK76 _ _ _ (Ad (fun K85 hK85=>Aa (Ab 1 ?_))))
  refine Ax rfl (Au [0] [1,2] (fun w_ hm_ hl_=>(Gb xs ev77.a (xs.length-18) ev77.cap false ne14.b 18 2 _ hl_ (hv79 _ (hv70 _ (hv63 _ (hv54 _ (hv45 _ (hv38 _ (hv29 _ (hv22 _ (by rw[List.drop_zero];exact(FS.at (i:=1) (t:=5) hm_ rfl (Aj ok15 (Ba _)))))))))))) I9 Ag Ag Ag Al))) (fun ev86 hx92=>?_)
  obtain⟨hv88,hc89⟩:=hx92
  refine Ah (v:=nV .u16 ((w2 xs 18)%65536)) ((Ys.p (v:=.int .u16 (Cg .u16 ((w2 xs 18:Nat):Int)))).conseq (Af (C6 rfl _))) (Ab 1 (Ai rfl (Bg p6 6 2 0 (nV .u16 ((w2 xs 18)%65536)) Tryz.sizeOf22 rfl rfl) (fun _=>Ac (hK85 _ _ _ ?_))))
  refine Ad (fun K94 hK94=>W.block (Ad (fun K95 hK95=>Aa (Ab 3 ?_))))
  refine Am (v:=nV .i64 ((((xs.getD 12 0).toNat)/16)*4)) (!(decide ((((((xs.getD 12 0).toNat)/16)*4:Nat):Int)<20))) rfl (B3 rfl Ae) rfl (fun hg96=>?_) ?_
  ·exact Ys.p
  refine Am (v:=sL a xs.length cap) (!(decide ((((((xs.getD 12 0).toNat)/16)*4:Nat):Int)<20))) rfl (B3 rfl Ae) rfl (fun hg97=>?_) ?_
  ·exact Ys.p
  refine Am (v:=nV .i64 xs.length) (!(decide ((((((xs.getD 12 0).toNat)/16)*4:Nat):Int)<20))) rfl (B3 rfl Ae) rfl (fun hg98=>?_) ?_
  ·have qhg98:=hg98;try simp only[zA]at qhg98
   refine Bh (t:=59) (v0:=sL a xs.length cap) (lz (g:= !(decide ((((((xs.getD 12 0).toNat)/16)*4:Nat):Int)<20))) (u:=undef) hg98 Ae) ?_
   exact Ys.p
  refine Am (v:=bV (decide ((((((xs.getD 12 0).toNat)/16)*4:Nat):Int)>(xs.length:Int)))) (!(decide ((((((xs.getD 12 0).toNat)/16)*4:Nat):Int)<20))) rfl (B3 rfl Ae) rfl (fun hg99=>?_) ?_
  ·have qhg99:=hg99;try simp only[zA]at qhg99
   refine Bh (t:=58) (v0:=nV .i64 ((((xs.getD 12 0).toNat)/16)*4)) (lz (g:= !(decide ((((((xs.getD 12 0).toNat)/16)*4:Nat):Int)<20))) (u:=undef) hg99 Ae) (Bh (t:=60) (v0:=nV .i64 xs.length) (lz (g:= !(decide ((((((xs.getD 12 0).toNat)/16)*4:Nat):Int)<20))) (u:=undef) hg99 Ae) ?_)
   exact Ys.p
  refine Ah (v:=bV ((decide ((((((xs.getD 12 0).toNat)/16)*4:Nat):Int)<20))||(decide ((((((xs.getD 12 0).toNat)/16)*4:Nat):Int)>(xs.length:Int))))) (Dr (e:=decide ((((((xs.getD 12 0).toNat)/16)*4:Nat):Int)<20)) (b:=decide ((((((xs.getD 12 0).toNat)/16)*4:Nat):Int)>(xs.length:Int))) rfl Ae Ae Ae) (Ab 1 (Ac (hK95 _ _ _ ?_)))
  refine Ao ((decide ((((((xs.getD 12 0).toNat)/16)*4:Nat):Int)<20))||(decide ((((((xs.getD 12 0).toNat)/16)*4:Nat):Int)>(xs.length:Int)))) Ae (fun h101=>?_) (fun h102=>?_)
  ·have qh101:=h101;try simp only[zA]at qh101
   refine Ad (fun K103 hK103=>Aa (Ab 1 (Ai rfl (A4 p6 0 2 0 Q2d Tryz.sizeOf126 rfl rfl) (fun _=>Ab 1 ?_))))
   refine Ac (hK103 _ _ _ (Ap [2] Al rfl (Aq (fn:=Tryz.f84) rfl ?_)))
   have hK:tK xs=4*((xs.getD 12 0).toNat/16):=rfl
   have hR:tR s d xs=11:=by unfold tR;rw[if_neg Ag,if_neg Ag,if_pos Ag]
   have hG:tg s d xs=false:=by unfold tg;rw[hR];rfl
   have hO:tO s d xs=[]:=by unfold tO;rw[hG];rfl
   have hD:tD s d xs=[]:=by unfold tD;rw[hG];rfl
   exact fun w_ hS_=>B9 rfl (Bq p6 0 0 0 zl2 Tryz.isAgg126 Tryz.sizeOf126) (Aw (iV .i64 11)) hS_ ⟨(FS.nul,FS.nul),⟨by rw[hO];exact Bw 1,by rw[hD];exact Bw 1⟩,congrArg Ending.returned ((by simp only[tF,tW,tL,hG,cond_false,hR,hO,hD];rfl)),(Mem.cast (by rw[hO,hD];rfl) (Mem.push (Mem.push (hS_.pick [] Al rfl))))⟩
  ·have qh102:=h102;try simp only[zA]at qh102
   refine Ad (fun K105 hK105=>Aa (Ab 4 (Ax rfl (Au [] [0,1,2] (fun w_ hm_ hl_=>(L3 s d (6:UInt8) xs.length _ Ag Ag Ag))) (fun g106 ok107=>Ab 1 ?_))))
   refine Ai rfl (Bd (mk:=fun b_=>.slice (some ⟨b_,0,none⟩) 2 2) (t:=38) (cs:=[sV g106 12,Value.slice a xs.length cap]) rfl (fun _=>kr)) (fun p71=>B0 (v:=bV (((Dy ((Eg s d (6:UInt8) xs.length)++xs):Nat):Int)==0)) (A9 (fun w_ hm_=>(O7 [⟨g106.a,(Eg s d (6:UInt8) xs.length),g106.cap⟩,⟨a,xs,cap⟩] ((Eg s d (6:UInt8) xs.length)++xs) (some ⟨p71,0,none⟩) 2 2 (12+xs.length) _ rfl (by simp[jn]) Kc (by first|exact Az (i:=0) (j:=0) (t:=38) (b:=p71) hm_ rfl rfl|(rw[show mc Ng ([⟨g106.a,(Eg s d (6:UInt8) xs.length),g106.cap⟩,⟨a,xs,cap⟩]:List SV)=[sV g106 12,Value.slice a xs.length cap] by(simp[mc,A8,By];try omega)];exact Az (i:=0) (j:=0) (t:=38) (b:=p71) hm_ rfl rfl)) (List.forall_mem_cons.2 ⟨(FS.at (i:=1) (t:=5) hm_ rfl (Aj ok107 (by rw[Da,By]))),(List.forall_mem_cons.2 ⟨(hat.mem0 hm_),(fun _ h=>by cases h)⟩)⟩) I8 A5 A5))) (Ab 2 (Ac (hK105 _ _ _ ?_))))
   refine Ap [2,3,4] Al rfl ?_
   refine Ao (!(((Dy ((Eg s d (6:UInt8) xs.length)++xs):Nat):Int)==0)) Ae (fun h110=>?_) (fun h111=>?_)
   ·have qh110:=h110;try simp only[zA]at qh110
    refine Ad (fun K112 hK112=>Aa (Ab 1 (Ai rfl (A4 p6 0 2 0 Q2d Tryz.sizeOf126 rfl rfl) (fun _=>Ab 1 ?_))))
    refine Ac (hK112 _ _ _ (Ap [2] Al rfl (Aq (fn:=Tryz.f84) rfl ?_)))
    have hK:tK xs=4*((xs.getD 12 0).toNat/16):=rfl
    have hz_: ¬(Dy (Eg s d 6 xs.length++xs)=0):=by have z_:=h110;simp at z_;omega
    have hR:tR s d xs=12:=by unfold tR;rw[if_neg Ag,if_neg Ag,if_neg Ag,if_pos Ag]
    have hG:tg s d xs=false:=by unfold tg;rw[hR];rfl
    have hO:tO s d xs=[]:=by unfold tO;rw[hG];rfl
    have hD:tD s d xs=[]:=by unfold tD;rw[hG];rfl
    exact fun w_ hS_=>B9 rfl (Bq p6 0 0 0 zl2 Tryz.isAgg126 Tryz.sizeOf126) (Aw (iV .i64 12)) hS_ ⟨(FS.nul,FS.nul),⟨by rw[hO];exact Bw 1,by rw[hD];exact Bw 1⟩,congrArg Ending.returned ((by simp only[tF,tW,tL,hG,cond_false,hR,hO,hD];rfl)),(Mem.cast (by rw[hO,hD];rfl) (Mem.push (Mem.push (hS_.pick [] Al rfl))))⟩
   ·have qh111:=h111;try simp only[zA]at qh111
    refine Ak (hK94 _ _ _ (Ad (fun K115 hK115=>Aa (Ab 2 ?_))))
    refine Ah (v:=iV .i64 ((((((xs.getD 12 0).toNat)/16)*4:Nat):Int)-20)) ((Ys.p (v:=.int .i64 (Hk .i64 (((((xs.getD 12 0).toNat)/16)*4:Nat):Int) 20))).conseq (Af (Er rfl Ag Ag))) (Ax rfl (Au [0] [1,2] (fun w_ hm_ hl_=>(Ib (xs.drop 20) ev86.a (xs.length-20) ev86.cap false ne14.b ((((((xs.getD 12 0).toNat)/16)*4:Nat):Int)-20) _ Zc hl_ (hv88 _ (hv79 _ (hv70 _ (hv63 _ (hv54 _ (hv45 _ (hv38 _ (hv29 _ (hv22 _ (by rw[List.drop_zero];exact(FS.at (i:=1) (t:=5) hm_ rfl (Aj ok15 (Ba _))))))))))))) Ex Ex))) (fun eg116 hx122=>?_))
    obtain⟨ok117,hv118,hc119⟩:=hx122
    refine Ab 1 (Ai rfl (Bg p6 7 3 0 (sL eg116.g.a ((Cp (xs.drop 20) ((((((xs.getD 12 0).toNat)/16)*4:Nat):Int)-20)).length) eg116.g.cap) Tryz.sizeOf38 rfl rfl) (fun _=>?_))
    refine Ac (hK115 _ _ _ (Ad (fun K124 hK124=>?_)))
    have hrl:(Dd (xs.drop 20) ((((xs.getD 12 0).toNat/16*4:Nat):Int)-20)).length=xs.length-(xs.getD 12 0).toNat/16*4:=by rw[show((((xs.getD 12 0).toNat/16*4:Nat):Int)-20)=(((xs.getD 12 0).toNat/16*4-20:Nat):Int) by omega,N2 Ag,List.length_drop];omega
    refine Aa (Ab 2 (B0 (v:=nV .i64 ((Dd (xs.drop 20) ((((((xs.getD 12 0).toNat)/16)*4:Nat):Int)-20)).length)) (A9 (fun w_ hm_=>(W4 (Dd (xs.drop 20) ((((((xs.getD 12 0).toNat)/16)*4:Nat):Int)-20)) eg116.a ((Dd (xs.drop 20) ((((((xs.getD 12 0).toNat)/16)*4:Nat):Int)-20)).length) eg116.cap (Nf (xs.drop 20) false ((((((xs.getD 12 0).toNat)/16)*4:Nat):Int)-20)) ne14.b _ rfl (hm_.one (i:=0) rfl) (hv118 _ (hv88 _ (hv79 _ (hv70 _ (hv63 _ (hv54 _ (hv45 _ (hv38 _ (hv29 _ (hv22 _ (by rw[List.drop_zero];exact(FS.at (i:=2) (t:=5) hm_ rfl (Aj ok15 (Ba _))))))))))))))))) (Ax rfl (Au [0] [1,2,3] (fun w_ hm_ hl_=>(Ib (Dd (xs.drop 20) ((((((xs.getD 12 0).toNat)/16)*4:Nat):Int)-20)) eg116.a ((Dd (xs.drop 20) ((((((xs.getD 12 0).toNat)/16)*4:Nat):Int)-20)).length) eg116.cap (Nf (xs.drop 20) false ((((((xs.getD 12 0).toNat)/16)*4:Nat):Int)-20)) ne14.b ((Dd (xs.drop 20) ((((((xs.getD 12 0).toNat)/16)*4:Nat):Int)-20)).length:Int) _ rfl hl_ (hv118 _ (hv88 _ (hv79 _ (hv70 _ (hv63 _ (hv54 _ (hv45 _ (hv38 _ (hv29 _ (hv22 _ (by rw[List.drop_zero];exact(FS.at (i:=2) (t:=5) hm_ rfl (Aj ok15 (Ba _)))))))))))))) Ex Ex))) (fun eg125 hx131=>?_))))
    obtain⟨ok126,hv127,hc128⟩:=hx131
    refine Ab 1 (Ai rfl (Bg p6 8 4 0 (sL eg125.g.a ((Cp (Dd (xs.drop 20) ((((((xs.getD 12 0).toNat)/16)*4:Nat):Int)-20)) ((Dd (xs.drop 20) ((((((xs.getD 12 0).toNat)/16)*4:Nat):Int)-20)).length:Int)).length) eg125.g.cap) Tryz.sizeOf38 rfl rfl) (fun _=>?_))
    refine Ac (hK124 _ _ _ (Ap [1,2,4] Al rfl (Ad (fun K133 hK133=>Aa ?_))))
    refine Ah (A0 p6 0 2 0 [nV .u16 ((w2 xs 0)%65536),nV .u16 ((w2 xs 2)%65536),nV .u32 ((bv ((xs.drop 4).take 4))%4294967296),nV .u32 ((bv ((xs.drop 8).take 4))%4294967296),nV .u8 ((UInt8.ofNat ((xs.getD 13 0).toNat)).toNat),nV .u16 ((w2 xs 14)%65536),nV .u16 ((w2 xs 18)%65536),sL eg116.g.a ((Cp (xs.drop 20) ((((((xs.getD 12 0).toNat)/16)*4:Nat):Int)-20)).length) eg116.g.cap,sL eg125.g.a ((Cp (Dd (xs.drop 20) ((((((xs.getD 12 0).toNat)/16)*4:Nat):Int)-20)) ((Dd (xs.drop 20) ((((((xs.getD 12 0).toNat)/16)*4:Nat):Int)-20)).length:Int)).length) eg125.g.cap] Tryz.isAgg126 Tryz.sizeOf126) (Ai rfl (A4 p6 0 2 0 [nV .u16 ((w2 xs 0)%65536),nV .u16 ((w2 xs 2)%65536),nV .u32 ((bv ((xs.drop 4).take 4))%4294967296),nV .u32 ((bv ((xs.drop 8).take 4))%4294967296),nV .u8 ((UInt8.ofNat ((xs.getD 13 0).toNat)).toNat),nV .u16 ((w2 xs 14)%65536),nV .u16 ((w2 xs 18)%65536),sL eg116.g.a ((Cp (xs.drop 20) ((((((xs.getD 12 0).toNat)/16)*4:Nat):Int)-20)).length) eg116.g.cap,sL eg125.g.a ((Cp (Dd (xs.drop 20) ((((((xs.getD 12 0).toNat)/16)*4:Nat):Int)-20)) ((Dd (xs.drop 20) ((((((xs.getD 12 0).toNat)/16)*4:Nat):Int)-20)).length:Int)).length) eg125.g.cap] Tryz.sizeOf126 rfl rfl) (fun _=>?_))
    refine Ab 1 (Ac (hK133 _ _ _ (Aq (fn:=Tryz.f84) rfl ?_)))
    have hK:tK xs=4*((xs.getD 12 0).toNat/16):=rfl
    have hz_:(Dy (Eg s d 6 xs.length++xs)=0):=by have z_:=h111;simp at z_;omega
    have hR:tR s d xs=0:=by unfold tR;rw[if_neg Ag,if_neg Ag,if_neg Ag,if_neg Ag]
    have hG:tg s d xs=true:=by unfold tg;rw[hR];rfl
    have hKc:(xs.getD 12 0).toNat/16*4=tK xs:=by omega
    have hO:tO s d xs=Cp (xs.drop 20) ((((((xs.getD 12 0).toNat)/16)*4:Nat):Int)-20):=by unfold tO;rw[hG];simp only[cond_true];rw[hKc,Ajr Ag Ag]
    have hD:tD s d xs=Cp (Dd (xs.drop 20) ((((((xs.getD 12 0).toNat)/16)*4:Nat):Int)-20)) ((Dd (xs.drop 20) ((((((xs.getD 12 0).toNat)/16)*4:Nat):Int)-20)).length:Int):=by unfold tD;rw[hG];simp only[cond_true];rw[hKc,Ajq Ag Ag]
    have hOl:(tO s d xs).length=(Cp (xs.drop 20) ((((((xs.getD 12 0).toNat)/16)*4:Nat):Int)-20)).length:=by rw[hO];first|done|rfl|(rw[List.length_take,List.length_drop];omega)
    have hDl:(tD s d xs).length=(Cp (Dd (xs.drop 20) ((((((xs.getD 12 0).toNat)/16)*4:Nat):Int)-20)) ((Dd (xs.drop 20) ((((((xs.getD 12 0).toNat)/16)*4:Nat):Int)-20)).length:Int)).length:=by rw[hD];first|done|rfl|(simp;done)|(rw[List.length_drop];omega)
    exact fun w_ hS_=>B9 rfl (Bq p6 0 2 0 [nV .u16 ((w2 xs 0)%65536),nV .u16 ((w2 xs 2)%65536),nV .u32 ((bv ((xs.drop 4).take 4))%4294967296),nV .u32 ((bv ((xs.drop 8).take 4))%4294967296),nV .u8 ((UInt8.ofNat ((xs.getD 13 0).toNat)).toNat),nV .u16 ((w2 xs 14)%65536),nV .u16 ((w2 xs 18)%65536),Value.slice eg116.g.a ((Cp (xs.drop 20) ((((((xs.getD 12 0).toNat)/16)*4:Nat):Int)-20)).length) eg116.g.cap,Value.slice eg125.g.a ((Cp (Dd (xs.drop 20) ((((((xs.getD 12 0).toNat)/16)*4:Nat):Int)-20)) ((Dd (xs.drop 20) ((((((xs.getD 12 0).toNat)/16)*4:Nat):Int)-20)).length:Int)).length) eg125.g.cap] Tryz.isAgg126 Tryz.sizeOf126) (Aw (iV .i64 0)) hS_ ⟨(eg116.g,eg125.g),⟨by rw[hOl];exact ok117,by rw[hDl];exact ok126⟩,congrArg Ending.returned ((by rw[hOl,hDl];simp only[tF,tW,tL,hG,cond_true,hR,Vu,Nat.mod_eq_of_lt (Xp xs _),Nat.mod_eq_of_lt (Dx xs _)];try rfl)),(Mem.cast (by rw[hO,hD];rfl) (hS_.pick [1,0] Al rfl))⟩
theorem Sy(s d:Nat)(xs:List UInt8)(a:Option Addr)(cap:Nat)(len:Nat)(w:World)(hn:len=xs.length)(hat:At w a (Ci xs))(hs:s<4294967296)(hd:d<4294967296)(hl:len≤100000)(hlc:len≤cap):Calls Tryz.prog 84 #[.int .u32 (s:Int),.int .u32 (d:Int),.slice a len cap] w (Bj w (fun g:FS×FS=>g.1.ok 1 (tO s d xs).length∧g.2.ok 1 (tD s d xs).length) (fun g=>.tuple #[.agg [.int .u16 ((tF s d xs 0:Nat):Int),.int .u16 ((tF s d xs 2:Nat):Int),.int .u32 ((tW s d xs 4:Nat):Int),.int .u32 ((tW s d xs 8:Nat):Int),.int .u8 ((tL s d xs).toNat:Int),.int .u16 ((tF s d xs 14:Nat):Int),.int .u16 ((tF s d xs 18:Nat):Int),.slice g.1.a (tO s d xs).length g.1.cap,.slice g.2.a (tD s d xs).length g.2.cap].toArray,.int .i64 (tR s d xs)]) [] (fun g=>[g.1.seg 5 (Ci (tO s d xs)),g.2.seg 5 (Ci (tD s d xs))])):=by
  subst hn;exact Ajt s d xs a cap w hat hs hd hl hlc
def G1(pr:UInt8):Bool:=(pr.toNat:Int)==6
def Mw(pr:UInt8):Bool:=(pr.toNat:Int)==17
def Yz(pr:UInt8):Bool:=(pr.toNat:Int)==1
def Ij(pr:UInt8)(s d:Nat)(xs:List UInt8):Int:=bif G1 pr then tR s d xs else bif Mw pr then uR s d xs else bif Yz pr then Pm xs else 11
def L9(pr:UInt8)(s d:Nat)(xs:List UInt8):Bool:= !(Ij pr s d xs !=0)
def Ew(pr:UInt8)(s d:Nat)(xs:List UInt8):Int:=bif L9 pr s d xs then(bif G1 pr then 1 else bif Mw pr then 1 else Tc xs)else 0
def Gn(pr:UInt8)(s d:Nat)(xs:List UInt8):UInt8:=bif L9 pr s d xs then(bif G1 pr then pr else bif Mw pr then pr else I5 pr xs)else 0
def E4(pr:UInt8)(s d:Nat)(xs:List UInt8):Nat:=bif L9 pr s d xs then(bif G1 pr then s else bif Mw pr then s else L7 s 16 xs)else 0
def E9(pr:UInt8)(s d:Nat)(xs:List UInt8):Nat:=bif L9 pr s d xs then(bif G1 pr then d else bif Mw pr then d else L7 d 12 xs)else 0
def Hu(pr:UInt8)(s d:Nat)(xs:List UInt8):Nat:=bif L9 pr s d xs then(bif G1 pr then tF s d xs 0 else bif Mw pr then uF s d xs 0 else Sw 0 xs)else 0
def Hv(pr:UInt8)(s d:Nat)(xs:List UInt8):Nat:=bif L9 pr s d xs then(bif G1 pr then tF s d xs 2 else bif Mw pr then uF s d xs 2 else Sx 0 xs)else 0
abbrev Q2e(d s:Nat)(pr:UInt8)(xs:List UInt8):List Value:=[nV .u8 ((I5 pr xs).toNat),nV .u32 (L7 s 16 xs),nV .u32 (L7 d 12 xs),nV .u16 (Sw 0 xs),nV .u16 (Sx 0 xs)]
abbrev Q2f:List Value:=Y6
theorem Amf(tt pr:UInt8)(id s d:Nat)(xs:List UInt8)(a:Option Addr)(cap:Nat)(w:World)(hat:At w a (Ci xs))(hi:id<65536)(hs:s<4294967296)(hd:d<4294967296)(hl:xs.length≤100000)(hlc:xs.length≤cap):Calls Tryz.prog 41 #[aV [nV .u8 tt.toNat,nV .u8 pr.toNat,nV .u16 id,nV .u32 s,nV .u32 d,sL a xs.length cap]] w (Dc w (.tuple #[.agg ([nV .u8 ((Gn pr s d xs).toNat),nV .u32 (E4 pr s d xs),nV .u32 (E9 pr s d xs),nV .u16 (Hu pr s d xs),nV .u16 (Hv pr s d xs)]).toArray,.int .i64 (Ew pr s d xs),.int .i64 (Ij pr s d xs)])):=by
 refine Ar (M:=[]) (LL:=[]) (n:=71) Tryz.func41 rfl rfl A5 (Mem.refl _) (Ad (fun K1 hK1=>?_))
 refine Aa (Ai rfl (Bx [nV .u8 tt.toNat,nV .u8 pr.toNat,nV .u16 id,nV .u32 s,nV .u32 d,sL a xs.length cap] rfl) (fun p1=>?_))
 refine Ai rfl (Bc Tryz.zeroValue47) (fun p2=>Ab 2 (Ac (hK1 _ _ _ (Ad (fun K3 hK3=>?_)))))
 refine Aa (Ab 1 (Ah (An p1 1 1 0 Tryz.isAgg5) (Ab 1 (Ah (An p1 3 1 0 Tryz.isAgg24) ?_))))
 refine Ab 1 (Ah (An p1 4 1 0 Tryz.isAgg24) (Ab 1 (Ai rfl (A4 p2 0 0 0 [nV .u8 pr.toNat,nV .u32 s,nV .u32 d,iV .u16 0,iV .u16 0] Tryz.sizeOf47 rfl rfl) (fun _=>Ac ?_))))
 refine hK3 _ _ _ (Ad (fun K5 hK5=>?_))
 refine Ad (fun K6 hK6=>Aa (Ab 1 (Ah (An p1 1 1 0 Tryz.isAgg5) (Ac ?_))))
 refine hK6 _ _ _ (W.block (Ad (fun K8 hK8=>Aa (Ab 2 ?_))))
 refine Ac (hK8 _ _ _ ?_)
 refine Ao (((pr.toNat:Nat):Int)==6) Ae (fun h10=>?_) (fun h11=>?_)
 ·have qh10:=h10;try simp only[zA]at qh10
  refine Ad (fun K12 hK12=>Aa (Ab 1 (Ah (An p1 3 1 0 Tryz.isAgg24) (Ab 1 ?_))))
  refine Ah (An p1 4 1 0 Tryz.isAgg24) (Ab 1 (Ah (An p1 5 1 0 Tryz.isAgg38) (Ax rfl (Au [] [0,1] (fun w_ hm_ hl_=>(Sy s d xs a cap xs.length _ I7 (hat.mem0 hm_) Ag Ag Ex Ex))) (fun gg13 hx17=>?_))))
  obtain⟨ok14,ok15⟩:=hx17
  refine Ab 3 (Ai rfl (Bc Tryz.zeroValue126) (fun p5=>?_))
  refine Ai rfl (A4 p5 0 0 0 [nV .u16 (tF s d xs 0),nV .u16 (tF s d xs 2),nV .u32 (tW s d xs 4),nV .u32 (tW s d xs 8),nV .u8 ((tL s d xs).toNat),nV .u16 (tF s d xs 14),nV .u16 (tF s d xs 18),sL gg13.1.a ((tO s d xs).length) gg13.1.cap,sL gg13.2.a ((tD s d xs).length) gg13.2.cap] Tryz.sizeOf126 rfl rfl) (fun _=>Ab 1 (Ac (hK12 _ _ _ (Ap [0,1,2,3] Al rfl ?_))))
  refine Bz [(0,true),(1,true),(2,true),(3,true),(4,true),(5,false),(6,false),(7,false),(8,false),(9,false),(10,false)] [0,1,2,3,4] (Mem w [] [[cb p5 [nV .u16 (tF s d xs 0),nV .u16 (tF s d xs 2),nV .u32 (tW s d xs 4),nV .u32 (tW s d xs 8),nV .u8 ((tL s d xs).toNat),nV .u16 (tF s d xs 14),nV .u16 (tF s d xs 18),sL gg13.1.a ((tO s d xs).length) gg13.1.cap,sL gg13.2.a ((tD s d xs).length) gg13.2.cap] 126],gg13.1.seg 5 (mc b8 (tO s d xs)),gg13.2.seg 5 (mc b8 (tD s d xs))]) Ae Ae Ae rfl Ae (fun _ _ h_=>h_.drawn _) (fun _ h_=>h_.pick [0,1,2] Al rfl) (Ay 1 (Wd.ys rfl rfl rfl (An p5 0 0 0 Tryz.isAgg22) (Ay 1 (Wd.ys rfl rfl rfl (An p5 1 0 0 Tryz.isAgg22) ?_))))
  refine Ay 1 (Wd.yc (v:=pV p2 3) rfl rfl rfl (Ys.yc (Ys.p)) (.inr fun _ h_=>h_.pick [0,1,2] Al rfl) (B8 rfl rfl (Bg p2 3 3 0 (nV .u16 (tF s d xs 0)) Tryz.sizeOf22 rfl rfl) (.inr fun _ _ h_=>h_.pick [0,1,2] Al rfl) (fun _=>Wd.yc (v:=pV p2 4) rfl rfl rfl (Ys.yc (Ys.p)) (.inr fun _ h_=>h_.pick [0,1,2] Al rfl) (B8 rfl rfl (Bg p2 4 3 0 (nV .u16 (tF s d xs 2)) Tryz.sizeOf22 rfl rfl) (.inr fun _ _ h_=>h_.pick [0,1,2] Al rfl) (fun _=>?_)))))
  refine Wd.yc (v:=iV .i64 1) rfl rfl rfl (Ys.yc (Ys.p)) (.inr fun _ h_=>h_.pick [0,1,2] Al rfl) (Wd.yc (v:=iV .i64 (tR s d xs)) rfl rfl rfl (Ys.yc (Ys.p)) (.inl Ae) (A7 (hK5 _ _ _ (Ap [3] Al rfl ?_))))
  refine Ad (fun K20 hK20=>Ad (fun K21 hK21=>?_))
  refine Aa (Ab 2 (Ac (hK21 _ _ _ ?_)))
  refine Ao ((tR s d xs) !=0) Ae (fun h23=>?_) (fun h24=>?_)
  ·have qh23:=h23;try simp only[zA]at qh23
   refine Ad (fun K25 hK25=>Aa (Ab 2 (Ai rfl (A4 p2 0 0 0 Q2f Tryz.sizeOf47 rfl rfl) (fun _=>Ab 2 ?_))))
   refine Ac (hK25 _ _ _ (Aq (fn:=Tryz.f41) rfl ?_))
   have hisT_:G1 pr=true:=h10
   have hE_:Ij pr s d xs=tR s d xs:=by simp only[Ij,hisT_,cond_true,cond_false]
   have hZ_:L9 pr s d xs=false:=by unfold L9;rw[hE_,h23];rfl
   exact fun w_ hS_=>I1 rfl (Bq p2 0 0 0 Y6 Tryz.isAgg47 Tryz.sizeOf47) (Aw (iV .i64 0)) (Aw (iV .i64 (tR s d xs))) hS_ ⟨by clear hK1 hK3 hK5 hK6 hK8 hK12 hK20 hK21 hK25;refine congrArg Ending.returned ?_;simp only[Ew,Gn,E4,E9,Hu,Hv,hE_,hZ_,hisT_,cond_true,cond_false];try rfl,hS_.below⟩
  ·have qh24:=h24;try simp only[zA]at qh24
   refine Ak (hK20 _ _ _ (Ad (fun K28 hK28=>Aa (Ah (A0 p2 0 0 0 [nV .u8 pr.toNat,nV .u32 s,nV .u32 d,nV .u16 (tF s d xs 0),nV .u16 (tF s d xs 2)] Tryz.isAgg47 Tryz.sizeOf47) ?_))))
   refine Ab 1 (Ai rfl (A4 p2 0 0 0 [nV .u8 pr.toNat,nV .u32 s,nV .u32 d,nV .u16 (tF s d xs 0),nV .u16 (tF s d xs 2)] Tryz.sizeOf47 rfl rfl) (fun _=>?_))
   refine Ab 2 (Ac (hK28 _ _ _ (Aq (fn:=Tryz.f41) rfl ?_)))
   have hisT_:G1 pr=true:=h10
   have hE_:Ij pr s d xs=tR s d xs:=by simp only[Ij,hisT_,cond_true,cond_false]
   have hZ_:L9 pr s d xs=true:=by unfold L9;rw[hE_,h24];rfl
   exact fun w_ hS_=>I1 rfl (Bq p2 0 0 0 [nV .u8 pr.toNat,nV .u32 s,nV .u32 d,nV .u16 (tF s d xs 0),nV .u16 (tF s d xs 2)] Tryz.isAgg47 Tryz.sizeOf47) (Aw (iV .i64 1)) (Aw (iV .i64 0)) hS_ ⟨by clear hK1 hK3 hK5 hK6 hK8 hK12 hK20 hK21 hK28;refine congrArg Ending.returned ?_;simp only[Ew,Gn,E4,E9,Hu,Hv,hE_,hZ_,hisT_,cond_true,cond_false];try(rw[show tR s d xs=(0:Int) from by have z_:=h24;simpa using z_]);try rfl,hS_.below⟩
 ·have qh11:=h11;try simp only[zA]at qh11
  refine Ad (fun K30 hK30=>Aa (Ab 2 (Ac (hK30 _ _ _ ?_))))
  refine Ao (((pr.toNat:Nat):Int)==17) Ae (fun h32=>?_) (fun h33=>?_)
  ·have qh32:=h32;try simp only[zA]at qh32
   refine Ad (fun K34 hK34=>Aa (Ab 1 (Ah (An p1 3 1 0 Tryz.isAgg24) (Ab 1 ?_))))
   refine Ah (An p1 4 1 0 Tryz.isAgg24) (Ab 1 (Ah (An p1 5 1 0 Tryz.isAgg38) (Ax rfl (Au [] [0,1] (fun w_ hm_ hl_=>(N3 s d xs a cap xs.length _ I7 (hat.mem0 hm_) Ag Ag Ex Ex))) (fun g35 ok36=>Ab 3 ?_))))
   refine Ai rfl (Bc Tryz.zeroValue124) (fun p7=>Ai rfl (A4 p7 0 0 0 [nV .u16 (uF s d xs 0),nV .u16 (uF s d xs 2),bV (uP s d xs),sV g35 ((uD s d xs).length)] Tryz.sizeOf124 rfl rfl) (fun _=>?_))
   refine Ab 1 (Ac (hK34 _ _ _ (Ap [0,1,2] Al rfl (Bz [(0,true),(1,true),(2,true),(3,true),(4,true),(5,false),(6,false),(7,false),(8,false),(9,false),(10,false)] [0,1,2,3,4] (Mem w [] [[cb p7 [nV .u16 (uF s d xs 0),nV .u16 (uF s d xs 2),bV (uP s d xs),sV g35 ((uD s d xs).length)] 124],g35.seg 5 (mc b8 (uD s d xs))]) Ae Ae Ae rfl Ae (fun _ _ h_=>h_.drawn _) (fun _ h_=>h_.pick [0,1] Al rfl) ?_))))
   refine Ay 1 (Wd.ys rfl rfl rfl (An p7 0 0 0 Tryz.isAgg22) (Ay 1 (Wd.ys rfl rfl rfl (An p7 1 0 0 Tryz.isAgg22) (Ay 1 ?_))))
   refine Wd.yc (v:=pV p2 3) rfl rfl rfl (Ys.yc (Ys.p)) (.inr fun _ h_=>h_.pick [0,1] Al rfl) (B8 rfl rfl (Bg p2 3 2 0 (nV .u16 (uF s d xs 0)) Tryz.sizeOf22 rfl rfl) (.inr fun _ _ h_=>h_.pick [0,1] Al rfl) (fun _=>?_))
   refine Wd.yc (v:=pV p2 4) rfl rfl rfl (Ys.yc (Ys.p)) (.inr fun _ h_=>h_.pick [0,1] Al rfl) (B8 rfl rfl (Bg p2 4 2 0 (nV .u16 (uF s d xs 2)) Tryz.sizeOf22 rfl rfl) (.inr fun _ _ h_=>h_.pick [0,1] Al rfl) (fun _=>?_))
   refine Wd.yc (v:=iV .i64 1) rfl rfl rfl (Ys.yc (Ys.p)) (.inr fun _ h_=>h_.pick [0,1] Al rfl) (Wd.yc (v:=iV .i64 (uR s d xs)) rfl rfl rfl (Ys.yc (Ys.p)) (.inl Ae) (A7 (hK5 _ _ _ (Ap [2] Al rfl ?_))))
   refine Ad (fun K40 hK40=>Ad (fun K41 hK41=>?_))
   refine Aa (Ab 2 (Ac (hK41 _ _ _ ?_)))
   refine Ao ((uR s d xs) !=0) Ae (fun h43=>?_) (fun h44=>?_)
   ·have qh43:=h43;try simp only[zA]at qh43
    refine Ad (fun K45 hK45=>Aa (Ab 2 (Ai rfl (A4 p2 0 0 0 Q2f Tryz.sizeOf47 rfl rfl) (fun _=>Ab 2 ?_))))
    refine Ac (hK45 _ _ _ (Aq (fn:=Tryz.f41) rfl ?_))
    have hisT_:G1 pr=false:=h11
    have hisU_:Mw pr=true:=h32
    have hE_:Ij pr s d xs=uR s d xs:=by simp only[Ij,hisT_,hisU_,cond_true,cond_false]
    have hZ_:L9 pr s d xs=false:=by unfold L9;rw[hE_,h43];rfl
    exact fun w_ hS_=>I1 rfl (Bq p2 0 0 0 Y6 Tryz.isAgg47 Tryz.sizeOf47) (Aw (iV .i64 0)) (Aw (iV .i64 (uR s d xs))) hS_ ⟨by clear hK1 hK3 hK5 hK6 hK8 hK30 hK34 hK40 hK41 hK45;refine congrArg Ending.returned ?_;simp only[Ew,Gn,E4,E9,Hu,Hv,hE_,hZ_,hisT_,hisU_,cond_true,cond_false];try rfl,hS_.below⟩
   ·have qh44:=h44;try simp only[zA]at qh44
    refine Ak (hK40 _ _ _ (Ad (fun K48 hK48=>Aa (Ah (A0 p2 0 0 0 [nV .u8 pr.toNat,nV .u32 s,nV .u32 d,nV .u16 (uF s d xs 0),nV .u16 (uF s d xs 2)] Tryz.isAgg47 Tryz.sizeOf47) ?_))))
    refine Ab 1 (Ai rfl (A4 p2 0 0 0 [nV .u8 pr.toNat,nV .u32 s,nV .u32 d,nV .u16 (uF s d xs 0),nV .u16 (uF s d xs 2)] Tryz.sizeOf47 rfl rfl) (fun _=>?_))
    refine Ab 2 (Ac (hK48 _ _ _ (Aq (fn:=Tryz.f41) rfl ?_)))
    have hisT_:G1 pr=false:=h11
    have hisU_:Mw pr=true:=h32
    have hE_:Ij pr s d xs=uR s d xs:=by simp only[Ij,hisT_,hisU_,cond_true,cond_false]
    have hZ_:L9 pr s d xs=true:=by unfold L9;rw[hE_,h44];rfl
    exact fun w_ hS_=>I1 rfl (Bq p2 0 0 0 [nV .u8 pr.toNat,nV .u32 s,nV .u32 d,nV .u16 (uF s d xs 0),nV .u16 (uF s d xs 2)] Tryz.isAgg47 Tryz.sizeOf47) (Aw (iV .i64 1)) (Aw (iV .i64 0)) hS_ ⟨by clear hK1 hK3 hK5 hK6 hK8 hK30 hK34 hK40 hK41 hK48;refine congrArg Ending.returned ?_;simp only[Ew,Gn,E4,E9,Hu,Hv,hE_,hZ_,hisT_,hisU_,cond_true,cond_false];try(rw[show uR s d xs=(0:Int) from by have z_:=h44;simpa using z_]);try rfl,hS_.below⟩
  ·have qh33:=h33;try simp only[zA]at qh33
   refine Ad (fun K50 hK50=>Aa (Ab 2 (Ac (hK50 _ _ _ ?_))))
   refine Ao (((pr.toNat:Nat):Int)==1) Ae (fun h52=>?_) (fun h53=>?_)
   ·have qh52:=h52;try simp only[zA]at qh52
    refine Aa (Ah (A0 p1 0 1 0 [nV .u8 tt.toNat,nV .u8 pr.toNat,nV .u16 id,nV .u32 s,nV .u32 d,sL a xs.length cap] Tryz.isAgg40 Tryz.sizeOf40) (Ah (A0 p2 0 0 0 [nV .u8 pr.toNat,nV .u32 s,nV .u32 d,iV .u16 0,iV .u16 0] Tryz.isAgg47 Tryz.sizeOf47) (B0 (v:=Value.tuple #[aV (Q2e d s pr xs),iV .i64 (Tc xs),iV .i64 (Pm xs)]) (A9 (fun w_ hm_=>(Vt tt pr id s d xs a cap pr s d 0 0 xs.length _ I7 (hat.mem0 hm_) Rr Rr Rr Ef Ef))) (Ab 4 ?_))))
    refine Ai rfl (A4 p2 0 0 0 (Q2e d s pr xs) Tryz.sizeOf47 rfl rfl) (fun _=>Ab 2 (Ac (hK5 _ _ _ (Ap [0] Al rfl ?_))))
    refine Ad (fun K55 hK55=>Ad (fun K56 hK56=>?_))
    refine Aa (Ab 2 (Ac (hK56 _ _ _ ?_)))
    refine Ao ((Pm xs) !=0) Ae (fun h58=>?_) (fun h59=>?_)
    ·have qh58:=h58;try simp only[zA]at qh58
     refine Ad (fun K60 hK60=>Aa (Ab 2 (Ai rfl (A4 p2 0 0 0 Q2f Tryz.sizeOf47 rfl rfl) (fun _=>Ab 2 ?_))))
     refine Ac (hK60 _ _ _ (Aq (fn:=Tryz.f41) rfl ?_))
     have hisT_:G1 pr=false:=h11
     have hisU_:Mw pr=false:=h33
     have hisI_:Yz pr=true:=h52
     have hE_:Ij pr s d xs=Pm xs:=by simp only[Ij,hisT_,hisU_,hisI_,cond_true,cond_false]
     have hZ_:L9 pr s d xs=false:=by unfold L9;rw[hE_,h58];rfl
     exact fun w_ hS_=>I1 rfl (Bq p2 0 0 0 Y6 Tryz.isAgg47 Tryz.sizeOf47) (Aw (iV .i64 0)) (Aw (iV .i64 (Pm xs))) hS_ ⟨by clear hK1 hK3 hK5 hK6 hK8 hK30 hK50 hK55 hK56 hK60;refine congrArg Ending.returned ?_;simp only[Ew,Gn,E4,E9,Hu,Hv,hE_,hZ_,hisT_,hisU_,hisI_,cond_true,cond_false];try rfl,hS_.below⟩
    ·have qh59:=h59;try simp only[zA]at qh59
     refine Ak (hK55 _ _ _ (Ad (fun K63 hK63=>Aa (Ah (A0 p2 0 0 0 (Q2e d s pr xs) Tryz.isAgg47 Tryz.sizeOf47) ?_))))
     refine Ab 1 (Ai rfl (A4 p2 0 0 0 (Q2e d s pr xs) Tryz.sizeOf47 rfl rfl) (fun _=>?_))
     refine Ab 2 (Ac (hK63 _ _ _ (Aq (fn:=Tryz.f41) rfl ?_)))
     have hisT_:G1 pr=false:=h11
     have hisU_:Mw pr=false:=h33
     have hisI_:Yz pr=true:=h52
     have hE_:Ij pr s d xs=Pm xs:=by simp only[Ij,hisT_,hisU_,hisI_,cond_true,cond_false]
     have hZ_:L9 pr s d xs=true:=by unfold L9;rw[hE_,h59];rfl
     exact fun w_ hS_=>I1 rfl (Bq p2 0 0 0 [nV .u8 ((I5 pr xs).toNat),nV .u32 (L7 s 16 xs),nV .u32 (L7 d 12 xs),nV .u16 (Sw 0 xs),nV .u16 (Sx 0 xs)] Tryz.isAgg47 Tryz.sizeOf47) (Aw (iV .i64 (Tc xs))) (Aw (iV .i64 0)) hS_ ⟨by clear hK1 hK3 hK5 hK6 hK8 hK30 hK50 hK55 hK56 hK63;refine congrArg Ending.returned ?_;simp only[Ew,Gn,E4,E9,Hu,Hv,hE_,hZ_,hisT_,hisU_,hisI_,cond_true,cond_false];try(rw[show Pm xs=(0:Int) from by have z_:=h59;simpa using z_]);try rfl,hS_.below⟩
   ·have qh53:=h53;try simp only[zA]at qh53
    refine Aa (Ab 1 (Ac (hK5 _ _ _ (Ap [0] Al rfl ?_))))
    refine Ad (fun K66 hK66=>Ad (fun K67 hK67=>?_))
    refine Aa (Ab 2 (Ac (hK67 _ _ _ (B5 Ae ?_))))
    refine Ad (fun K69 hK69=>Aa (Ab 2 (Ai rfl (A4 p2 0 0 0 Q2f Tryz.sizeOf47 rfl rfl) (fun _=>Ab 2 ?_))))
    refine Ac (hK69 _ _ _ (Aq (fn:=Tryz.f41) rfl ?_))
    have hisT_:G1 pr=false:=h11
    have hisU_:Mw pr=false:=h33
    have hisI_:Yz pr=false:=h53
    have hE_:Ij pr s d xs=11:=by simp only[Ij,hisT_,hisU_,hisI_,cond_true,cond_false]
    have hZ_:L9 pr s d xs=false:=by unfold L9;rw[hE_];rfl
    exact fun w_ hS_=>I1 rfl (Bq p2 0 0 0 Y6 Tryz.isAgg47 Tryz.sizeOf47) (Aw (iV .i64 0)) (Aw (iV .i64 11)) hS_ ⟨by clear hK1 hK3 hK5 hK6 hK8 hK30 hK50 hK66 hK67 hK69;refine congrArg Ending.returned ?_;simp only[Ew,Gn,E4,E9,Hu,Hv,hE_,hZ_,hisT_,hisU_,hisI_,cond_true,cond_false];try rfl,hS_.below⟩
theorem Agz(tt pr:UInt8)(id s d:Nat)(xs:List UInt8)(a:Option Addr)(cap:Nat)(len:Nat)(w:World)(hn:len=xs.length)(hat:At w a (Ci xs))(hi:id<65536)(hs:s<4294967296)(hd:d<4294967296)(hl:xs.length≤100000)(hlc:xs.length≤cap):Calls Tryz.prog 41 #[Value.agg ([Value.int .u8 (tt.toNat:Int),Value.int .u8 (pr.toNat:Int),Value.int .u16 (id:Int),Value.int .u32 (s:Int),Value.int .u32 (d:Int),sL a len cap]).toArray] w (Dc w (.tuple #[.agg ([Value.int .u8 ((Gn pr s d xs).toNat:Int),Value.int .u32 (E4 pr s d xs:Int),Value.int .u32 (E9 pr s d xs:Int),Value.int .u16 (Hu pr s d xs:Int),Value.int .u16 (Hv pr s d xs:Int)]).toArray,.int .i64 (Ew pr s d xs),.int .i64 (Ij pr s d xs)])):=by
  subst hn;exact Amf tt pr id s d xs a cap w hat hi hs hd hl hlc
end Go.Proofs.YtmonlaoaengfdaaGreatDoor.Oct
