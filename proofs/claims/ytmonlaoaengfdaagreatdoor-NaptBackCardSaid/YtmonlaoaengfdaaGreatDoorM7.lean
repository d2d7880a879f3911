import Derived.Test.YtmonlaoaengfdaaGreatDoorM5
import Derived.Test.YtmonlaoaengfdaaGreatDoorM6
import Derived.Test.YtmonlaoaengfdaaGreatDoorChecked
import Derived.Test.YtmonlaoaengfdaaGreatDoorM1
set_option linter.unusedVariables false
set_option linter.unusedSimpArgs false
set_option maxRecDepth 20000
namespace Go.Proofs.YtmonlaoaengfdaaGreatDoor.Oct
open Go.RowKit Base
attribute [local irreducible] Ys Yc Ht HtS HtIn Wl Wd W Mem pf D4 Wa Wo
def tkC(tk:Nat→Option Nat):List Value:=(List.range 256).map fun i=>Value.pointer (Cs (tk i))
theorem E8(tk:Nat→Option Nat):(tkC tk).length=256:=by unfold tkC;rw[List.length_map,List.length_range]
theorem Lz{tk:Nat→Option Nat}{p:Nat}(h:p<256):(tkC tk)[p]? =some (.pointer (Cs (tk p))):=by
  unfold tkC;rw[List.getElem?_map,List.getElem?_range h];rfl
def Ml(tk:Nat→Option Nat)(p:Nat)(b:Option Nat):Nat→Option Nat:=fun q=>bif q==p then b else tk q
theorem E3(tk:Nat→Option Nat)(p:Nat)(b:Option Nat):Ml tk p b p=b:=by simp[Ml]
theorem Fi(tk:Nat→Option Nat){p q:Nat}(b:Option Nat)(h:q≠p):Ml tk p b q=tk q:=by unfold Ml;rw[show(q==p)=false from beq_eq_false_iff_ne.2 h];rfl
theorem Aej{tk:Nat→Option Nat}{p:Nat}(b:Option Nat)(h:p<256):(tkC tk).set p (.pointer (Cs b))=tkC (Ml tk p b):=by
  apply List.ext_getElem?
  intro i
  rw[List.getElem?_set]
  by_cases hi:i<256
  · rw[Lz hi]
    by_cases e:p=i
    · subst e;rw[if_pos rfl,if_pos (by rw[E8];exact hi),Lz hi,E3]
    · rw[if_neg e,Lz hi,Fi _ _ (fun z=>e z.symm)]
  · rw[if_neg Ag,List.getElem?_eq_none (by rw[E8];omega),List.getElem?_eq_none (by rw[E8];omega)]
def Dv(cf:List Value)(m s e:Value)(tk:Nat→Option Nat)(wh ids last:Value):List Value:=(cf++[m,s,e])++(tkC tk++[wh,ids,last])
section
variable {cf:List Value}{m s e wh ids last v:Value}{tk:Nat→Option Nat}
theorem H9(hc:cf.length=28):(Dv cf m s e tk wh ids last).length=290:=by
  unfold Dv;simp only[List.length_append,E8,hc];rfl
theorem Cq(hc:cf.length=28){q:Nat}(h:q<31):(Dv cf m s e tk wh ids last)[q]? =(cf++[m,s,e])[q]? :=by
  unfold Dv;rw[List.getElem?_append_left (by simp[hc];omega)]
theorem Nz(hc:cf.length=28){p:Nat}(h:p<256):(Dv cf m s e tk wh ids last)[31+p]? =some (.pointer (Cs (tk p))):=by
  unfold Dv
  rw[List.getElem?_append_right (by simp[hc]),show 31+p-(cf++[m,s,e]).length=p by simp[hc],List.getElem?_append_left (by rw[E8];exact h),Lz h]
theorem Fs(hc:cf.length=28)(q:Nat):(Dv cf m s e tk wh ids last)[287+q]? =[wh,ids,last][q]? :=by
  unfold Dv
  rw[List.getElem?_append_right (by simp[hc];omega),show 287+q-(cf++[m,s,e]).length=256+q by simp[hc];omega,List.getElem?_append_right (by rw[E8];omega),E8,show 256+q-256=q by omega]
theorem T6(hc:cf.length=28){p:Nat}(b:Option Nat)(h:p<256):(Dv cf m s e tk wh ids last).set (31+p) (.pointer (Cs b))=Dv cf m s e (Ml tk p b) wh ids last:=by
  unfold Dv
  rw[List.set_append_right _ _ (by simp[hc]),show 31+p-(cf++[m,s,e]).length=p by simp[hc],List.set_append_left _ _ (by rw[E8];exact h),Aej b h]
theorem M3(hc:cf.length=28)(q:Nat):(Dv cf m s e tk wh ids last).set (287+q) v=(cf++[m,s,e])++(tkC tk++[wh,ids,last].set q v):=by
  unfold Dv
  rw[List.set_append_right _ _ (by simp[hc];omega),show 287+q-(cf++[m,s,e]).length=256+q by simp[hc];omega,List.set_append_right _ _ (by rw[E8];omega),E8,show 256+q-256=q by omega]
theorem M4(hc:cf.length=28){q:Nat}(h:q<31):(Dv cf m s e tk wh ids last).set q v=(cf++[m,s,e]).set q v++(tkC tk++[wh,ids,last]):=by
  unfold Dv
  rw[List.set_append_left _ _ (by simp[hc];omega)]
end
def Ia(ty:TypeId)(tk:Nat→Option Nat)(TT:Nat→Nat→Bool)(cn:Nat→Int)(a n:Nat):List Blk:=(List.range' a n).flatMap fun i=>(tk i).elim [] fun b=>[cb b (Fd (TT i) (cn i)) ty]
theorem Hq{ty:TypeId}{tk:Nat→Option Nat}{TT:Nat→Nat→Bool}{cn:Nat→Int}{p:Nat}(hp:p<256):Ia ty tk TT cn 0 256=Ia ty tk TT cn 0 p++(((tk p).elim [] fun b=>[cb b (Fd (TT p) (cn p)) ty])++Ia ty tk TT cn (p+1) (255-p)):=by
  unfold Ia
  have e:List.range' 0 256=List.range' 0 p++(p::List.range' (p+1) (255-p)):=by
    have h1:=List.range'_append_1 (s:=0) (m:=p) (n:=256-p)
    rw[show p+(256-p)=256 by omega,Nat.zero_add]at h1
    rw[←h1,show 256-p=(255-p)+1 by omega,List.range'_succ]
  rw[e,List.flatMap_append,List.flatMap_cons]
theorem Hr{ty:TypeId}{tk tk':Nat→Option Nat}{TT TT':Nat→Nat→Bool}{cn cn':Nat→Int}{a n:Nat}(h: ∀i,a≤i→i<a+n→tk' i=tk i∧TT' i=TT i∧cn' i=cn i):Ia ty tk' TT' cn' a n=Ia ty tk TT cn a n:=by
  unfold Ia
  rw[List.flatMap_def,List.flatMap_def]
  refine congrArg List.flatten (List.map_congr_left fun i hi=>?_)
  obtain⟨h1,h2⟩:=List.mem_range'_1.1 hi
  obtain⟨e1,e2,e3⟩:=h i h1 h2
  rw[e1,e2,e3]
open Conf (Fwd fwv)
theorem Ks(a b c d e:Int)(w:World):Calls Tryz.prog 79 #[aV [iV .u8 a,iV .u32 b,iV .u32 c,iV .u16 d,iV .u16 e]] w (Dc w (aV [iV .u8 a,iV .u32 b,iV .u16 d])):=by
 refine Ar (M:=[]) (LL:=[]) (n:=10) Tryz.func79 rfl rfl A5 (Mem.refl _) (Ad (fun K1 hK1=>?_))
 refine Aa (Ai rfl (Bx [iV .u8 a,iV .u32 b,iV .u32 c,iV .u16 d,iV .u16 e] rfl) (fun p1=>?_))
 refine Ai rfl (Bc Tryz.zeroValue97) (fun p2=>Ac (hK1 _ _ _ (Ad (fun K3 hK3=>Aa ?_))))
 refine Ab 1 (Ah (An p1 0 1 0 Tryz.isAgg5) (Ab 1 (Ah (An p1 1 1 0 Tryz.isAgg24) (Ab 1 ?_))))
 refine Ah (An p1 3 1 0 Tryz.isAgg22) (Ab 1 (Ai rfl (A4 p2 0 0 0 [iV .u8 a,iV .u32 b,iV .u16 d] Tryz.sizeOf97 rfl rfl) (fun _=>Ac (hK3 _ _ _ ?_))))
 refine Ap [0] Al rfl (Aq (fn:=Tryz.f79) rfl (fun w_ hS_=>Bb rfl (Bq p2 0 0 0 [iV .u8 a,iV .u32 b,iV .u16 d] Tryz.isAgg97 Tryz.sizeOf97) hS_ ⟨rfl,hS_.below⟩))
abbrev M5(c:Conf.Cfg)(sl:Value):List Value:=[Value.int .u8 c.lm0,Value.int .u8 c.lm1,Value.int .u8 c.lm2,Value.int .u8 c.lm3,Value.int .u8 c.lm4,Value.int .u8 c.lm5,Value.int .u8 c.wm0,Value.int .u8 c.wm1,Value.int .u8 c.wm2,Value.int .u8 c.wm3,Value.int .u8 c.wm4,Value.int .u8 c.wm5,Value.int .u8 c.hm0,Value.int .u8 c.hm1,Value.int .u8 c.hm2,Value.int .u8 c.hm3,Value.int .u8 c.hm4,Value.int .u8 c.hm5,Value.int .u32 c.lan,Value.int .u32 c.wan,Value.int .i64 c.bits,Value.int .i64 c.ms,Value.int .i64 c.mm,Value.int .i64 c.mc,Value.int .i64 c.mu,sl,Value.int .u32 c.dmz,Value.string c.uu]
theorem X7(c:Conf.Cfg)(gf:FS)(fx:List Conf.Fwd)(mv:Value)(ts te:Nat)(tk:Nat→Option Nat)(wb ti:Nat)(lst:Int)(nb pr:Nat)(b:Nat)(w:World)(hnt:At w (some ⟨nb,0,none⟩) (Dv (M5 c (sL gf.a fx.length gf.cap)) (mv) (pL (some ⟨ts,0,none⟩)) (pL (some ⟨te,0,none⟩)) tk (pL (some ⟨wb,0,none⟩)) (pL (some ⟨ti,0,none⟩)) (Value.int .u64 lst)))(htk:tk pr=some b)(hp:pr<256):Calls Tryz.prog 69 #[pV nb 0,nV .u8 pr] w (Dc w (.pointer (some ⟨b,0,none⟩))):=by
 refine Ar (M:=[]) (LL:=[]) (n:=24) Tryz.func69 rfl rfl A5 (Mem.refl _) (Ad (fun K1 hK1=>?_))
 refine Aa (Ab 1 (Ac (hK1 _ _ _ (Ad (fun K2 hK2=>?_)))))
 refine Ad (fun K3 hK3=>Aa (Ab 4 (Ah (v:=pL (some ⟨nb,31+pr*1,none⟩)) (C9 (k:=.u8) (i:=(pr:Int)) (sz:=1) rfl Ae Ae Tryz.runUnderlying88 Tryz.sizeOf87 Ag Ag) (Ah (v:=pL (Cs (tk pr))) (Ys.ld (a:=⟨nb,31+pr*1,none⟩) rfl Ae Tryz.isAgg87 (fun w_ h_=>by have x_:=(hnt.mem0 h_).ld (q:=31+pr*1) ((by rw[Nat.mul_one];exact Nz rfl Ag));rw[Br]at x_;exact x_)) ?_))))
 refine Ah (v:=bV ((tk pr).isNone)) (Ys.pure (fun _=>by generalize(tk pr)=o_;cases o_<;>kernel_rfl)) (Ac (hK3 _ _ _ ?_))
 refine Ao ((tk pr).isNone) Ae (fun h5=>?_) (fun h6=>?_)
 ·(exfalso;rw[htk]at h5;cases h5)
 ·refine Ak (hK2 _ _ _ (Ad (fun K8 hK8=>Aa (Ab 4 ?_))))
  refine Ah (v:=pL (some ⟨nb,31+pr*1,none⟩)) (C9 (k:=.u8) (i:=(pr:Int)) (sz:=1) rfl Ae Ae Tryz.runUnderlying88 Tryz.sizeOf87 Ag Ag) (Ah (v:=pL (Cs (tk pr))) (Ys.ld (a:=⟨nb,31+pr*1,none⟩) rfl Ae Tryz.isAgg87 (fun w_ h_=>by have x_:=(hnt.mem0 h_).ld (q:=31+pr*1) ((by rw[Nat.mul_one];exact Nz rfl Ag));rw[Br]at x_;exact x_)) (Ab 1 (Ac (hK8 _ _ _ ?_))))
  refine Aq (fn:=Tryz.f69) rfl (fun w_ hS_=>Bb rfl (Aw (pL (Cs (tk pr)))) hS_ ⟨by clear hK1 hK2 hK3 hK8;refine congrArg Ending.returned ?_;rw[htk];rfl,hS_.below⟩)
theorem X8(c:Conf.Cfg)(gf:FS)(fx:List Conf.Fwd)(mv:Value)(ts te:Nat)(tk:Nat→Option Nat)(wb ti:Nat)(lst:Int)(nb pr:Nat)(M:List Nat)(w:World)(hl:Mem w M [[cb nb (Dv (M5 c (sL gf.a fx.length gf.cap)) (mv) (pL (some ⟨ts,0,none⟩)) (pL (some ⟨te,0,none⟩)) tk (pL (some ⟨wb,0,none⟩)) (pL (some ⟨ti,0,none⟩)) (Value.int .u64 lst)) 91]] w)(htk:tk pr=none)(hp:pr<256):Calls Tryz.prog 69 #[pV nb 0,nV .u8 pr] w (Bj w (fun _:Nat=>True) (fun b=>.pointer (some ⟨b,0,none⟩)) M (fun b=>[[cb nb (Dv (M5 c (sL gf.a fx.length gf.cap)) (mv) (pV ts 0) (pV te 0) (Ml tk pr (some b)) (pV wb 0) (pV ti 0) (iV .u64 lst)) 91],[cb b (Fd (fun _=>false) 0) 230]])):=by
 refine Ar (M:=M) (LL:=[[cb nb (Dv (M5 c (sL gf.a fx.length gf.cap)) (mv) (pV ts 0) (pV te 0) tk (pV wb 0) (pV ti 0) (iV .u64 lst)) 91]]) (n:=24) Tryz.func69 rfl rfl A5 (hl) (Ad (fun K1 hK1=>?_))
 refine Aa (Ab 1 (Ac (hK1 _ _ _ (Ad (fun K2 hK2=>?_)))))
 refine Ad (fun K3 hK3=>Aa (Ab 4 (Ah (v:=pL (some ⟨nb,31+pr*1,none⟩)) (C9 (k:=.u8) (i:=(pr:Int)) (sz:=1) rfl Ae Ae Tryz.runUnderlying88 Tryz.sizeOf87 Ag Ag) (Ah (Bp (b:=nb) (o':=31+pr*1) (i:=0) (j:=0) (cs:=Dv (M5 c (sL gf.a fx.length gf.cap)) (mv) (pV ts 0) (pV te 0) tk (pV wb 0) (pV ti 0) (iV .u64 lst)) (v:=pL (Cs (tk pr))) rfl Ae Tryz.isAgg87 rfl rfl ((by rw[Nat.mul_one];exact Nz rfl Ag))) ?_))))
 refine Ah (v:=bV ((tk pr).isNone)) (Ys.pure (fun _=>by generalize(tk pr)=o_;cases o_<;>kernel_rfl)) (Ac (hK3 _ _ _ ?_))
 refine Ao ((tk pr).isNone) Ae (fun h5=>?_) (fun h6=>?_)
 ·refine Bz [(0,true),(1,true),(3,true),(4,true),(2,false),(5,false),(6,false)] [0,1,3,4] (Mem w M []) Ae Ae Ae rfl Ae (fun _ _ h_=>h_.drawn _) (fun _ h_=>h_.pick [] Al rfl) (Ay 4 (Cd rfl rfl (Au [] [0] (fun w_ hm_ hl_=>(Alm _))) (.inr fun _ _ h_=>h_.pick [] Al rfl) (fun pb7 _=>Wd.yc (v:=pL (some ⟨nb,31+pr*1,none⟩)) rfl rfl rfl (Ys.yc (C9 (k:=.u8) (i:=(pr:Int)) (sz:=1) rfl Ae Ae Tryz.runUnderlying88 Tryz.sizeOf87 Ag Ag)) (.inr fun _ h_=>h_.pick [] Al rfl) (B8 rfl rfl (Ek (b:=nb) (o':=31+pr*1) (i:=1) (j:=0) (cs:=Dv (M5 c (sL gf.a fx.length gf.cap)) (mv) (pV ts 0) (pV te 0) tk (pV wb 0) (pV ti 0) (iV .u64 lst)) (cs':=Dv (M5 c (sL gf.a fx.length gf.cap)) (mv) (pV ts 0) (pV te 0) (Ml tk pr (some pb7)) (pV wb 0) (pV ti 0) (iV .u64 lst)) (v:=pV pb7 0) (LL':=[[cb pb7 (Fd (fun _=>false) 0) 230],[cb nb (Dv (M5 c (sL gf.a fx.length gf.cap)) (mv) (pV ts 0) (pV te 0) (Ml tk pr (some pb7)) (pV wb 0) (pV ti 0) (iV .u64 lst)) 91]]) rfl rfl Ae Ae Tryz.sizeOf87 rfl rfl rfl (by rw[H9 rfl];omega) (by rw[Nat.mul_one];exact T6 rfl (some pb7) Ag) rfl) (.inr fun _ _ h_=>h_.pick [] Al rfl) (fun _=>?_)))))
  refine A7 (hK2 _ _ _ (Ad (fun K10 hK10=>Aa (Ab 4 ?_))))
  refine Ah (v:=pL (some ⟨nb,31+pr*1,none⟩)) (C9 (k:=.u8) (i:=(pr:Int)) (sz:=1) rfl Ae Ae Tryz.runUnderlying88 Tryz.sizeOf87 Ag Ag) (Ah (Bp (b:=nb) (o':=31+pr*1) (i:=1) (j:=0) (cs:=Dv (M5 c (sL gf.a fx.length gf.cap)) (mv) (pV ts 0) (pV te 0) (Ml tk pr (some pb7)) (pV wb 0) (pV ti 0) (iV .u64 lst)) (v:=pL (Cs (Ml tk pr (some pb7) pr))) rfl Ae Tryz.isAgg87 rfl rfl ((by rw[Nat.mul_one];exact Nz rfl Ag))) (Ab 1 (Ac (hK10 _ _ _ ?_))))
  refine Aq (fn:=Tryz.f69) rfl (fun w_ hS_=>Bb rfl (Aw (pL (Cs (Ml tk pr (some pb7) pr)))) hS_ ⟨pb7,trivial,congrArg Ending.returned ((by rw[E3];rfl)),(hS_.pick [1,0] Al rfl)⟩)
 ·(exfalso;rw[htk]at h6;cases h6)
theorem T7(ttl pid src dst:Int)(ba:Option Addr)(bl bc:Nat)(w:World):Calls Tryz.prog 88 #[aV [iV .u8 ttl,iV .u8 17,iV .u16 pid,iV .u32 src,iV .u32 dst,sL ba bl bc]] w (Dc w (.tuple #[.int .u8 0,.bool false])):=by
 refine Ar (M:=[]) (LL:=[]) (n:=21) Tryz.func88 rfl rfl A5 (Mem.refl _) (Ad (fun K1 hK1=>?_))
 refine Aa (Ai rfl (Bx [iV .u8 ttl,iV .u8 17,iV .u16 pid,iV .u32 src,iV .u32 dst,sL ba bl bc] rfl) (fun p1=>?_))
 refine Ab 2 (Ac (hK1 _ _ _ (Ad (fun K3 hK3=>Ad (fun K4 hK4=>?_)))))
 refine Aa (Ab 1 (Ah (An p1 1 0 0 Tryz.isAgg5) (Ab 1 (Ac ?_))))
 refine hK4 _ _ _ (B5 Ae (Ad (fun K6 hK6=>Aa (Ab 2 ?_))))
 refine Ac (hK6 _ _ _ (Ap [] Al rfl (Aq (fn:=Tryz.f88) rfl (fun w_ hS_=>B9 rfl (Aw (iV .u8 0)) (Aw (bV false)) hS_ ⟨rfl,hS_.below⟩))))
theorem X9(ttl pid src dst:Int)(ba:Option Addr)(bl bc:Nat)(w:World):Calls Tryz.prog 99 #[aV [iV .u8 ttl,iV .u8 17,iV .u16 pid,iV .u32 src,iV .u32 dst,sL ba bl bc]] w (Dc w (.bool true)):=by
 refine Ar (M:=[]) (LL:=[]) (n:=16) Tryz.func99 rfl rfl A5 (Mem.refl _) (Ad (fun K1 hK1=>?_))
 refine Aa (Ai rfl (Bx [iV .u8 ttl,iV .u8 17,iV .u16 pid,iV .u32 src,iV .u32 dst,sL ba bl bc] rfl) (fun p1=>?_))
 refine Ab 1 (Ac (hK1 _ _ _ (Ad (fun K3 hK3=>Aa ?_))))
 refine Ah (A0 p1 0 0 0 [iV .u8 ttl,iV .u8 17,iV .u16 pid,iV .u32 src,iV .u32 dst,sL ba bl bc] Tryz.isAgg40 Tryz.sizeOf40) (B0 (v:=Value.tuple #[iV .u8 0,bV false]) (A9 (fun w_ hm_=>(T7 ttl pid src dst ba bl bc _))) (Ab 5 (Ac (hK3 _ _ _ ?_))))
 refine Ap [] Al rfl (Ad (fun K5 hK5=>?_))
 refine Aa (Ab 3 (B7 Ae rfl (B7 Ae rfl (Ab 2 ?_))))
 refine Ac (hK5 _ _ _ (Aq (fn:=Tryz.f99) rfl (fun w_ hS_=>Bb rfl (Aw (bV true)) hS_ ⟨rfl,hS_.below⟩)))
structure SesE where
  (pr src dst frm dto ext ends:Int)
  lan:Bool
  (s0 s1 s2 s3 s4:Bool)
  id:Int
  given:Bool
def Aek(x:SesE):List Value:=[.int .u8 x.pr,.int .u32 x.src,.int .u32 x.dst,.int .u16 x.frm,.int .u16 x.dto,.int .u16 x.ext,.int .u64 x.ends,.bool x.lan,.bool x.s0,.bool x.s1,.bool x.s2,.bool x.s3,.bool x.s4,.int .u64 x.id,.bool x.given]
def U9(now:Int):Int:=bif decide (Bt .u64 now 300<now)then 18446744073709551615 else Bt .u64 now 300
structure Mpg where
  proto:Int
  ext:Int
  to:Int
  remote:Int
  host:Int
abbrev Ff:Mpg:=(⟨0,0,0,0,0⟩:Mpg)
instance :Inhabited Mpg:=⟨Ff⟩
def mpM(x:Mpg):List Value:=[Value.int .u8 x.proto,Value.int .u16 x.ext,Value.int .u16 x.to,Value.int .u32 x.remote,Value.int .u32 x.host]
theorem Aap(xs:List Mpg):(mm mpM xs).length=xs.length*5:=B6 (g:=mpM) (fun _=>rfl) xs
def ruM(f:B2)(m:Mpg):Bool:=(((m.proto==f.1)&&(m.host==f.2.1))&&(m.to==f.2.2.2.1))&&((m.remote==0)||(m.remote==f.2.2.1))
def ruW(f:B2)(w:Conf.Fwd):Bool:=((w.proto==f.1)&&(w.host==f.2.1))&&(w.dest==f.2.2.2.1)
def Hg(ms:List Mpg)(fx:List Conf.Fwd)(f:B2):Option Int:=match ms.find? (ruM f)with
  |some m=>some m.ext
  |none=>(fx.find? (ruW f)).map fun w=>w.port
theorem Wz{α:Type}{q:α→Bool}(d:α){xs:List α}{i:Nat}(hi:i<xs.length)(hno: ∀j,j<i→q (xs.getD j d)=false)(h:q (xs.getD i d)=true):xs.find? q=some (xs.getD i d):=by
  have g: ∀j (hj:j<xs.length),xs.getD j d=xs[j]:=fun j hj=>by rw[List.getD_eq_getElem?_getD,List.getElem?_eq_getElem hj];rfl
  have e:xs=xs.take i++xs.getD i d::xs.drop (i+1):=by rw[g i hi,←List.drop_eq_getElem_cons hi,List.take_append_drop]
  conv=>lhs;rw[e]
  rw[List.find?_append,List.find?_cons,h]
  have:(xs.take i).find? q=none:=by
    rw[List.find?_eq_none]
    intro x hx
    obtain⟨j,hj,rfl⟩:=List.getElem_of_mem hx
    rw[List.length_take]at hj
    rw[List.getElem_take]
    have:=hno j Ag
    rw[g j Ag]at this
    rw[this];decide
  rw[this];rfl
theorem L1{α:Type}{q:α→Bool}(d:α){xs:List α}(hno: ∀j,j<xs.length→q (xs.getD j d)=false):xs.find? q=none:=by
  rw[List.find?_eq_none]
  intro x hx
  obtain⟨j,hj,rfl⟩:=List.getElem_of_mem hx
  have:=hno j hj
  rw[List.getD_eq_getElem?_getD,List.getElem?_eq_getElem hj]at this
  have h2:q xs[j]=false:=this
  rw[h2];decide
def maQ(f:B2)(r:Int)(m:Mpg):Bool:=((m.proto==f.1)&&(m.ext==f.2.2.2.2))&&(m.remote==r)
def Ev(ms:List Mpg)(f:B2):Option Mpg:=match ms.find? (maQ f f.2.1)with
  |some m=>some m
  |none=>ms.find? (maQ f 0)
abbrev Qd(f:B2):List Value:=[iV .u8 f.1,iV .u32 f.2.1,iV .u32 f.2.2.1,iV .u16 f.2.2.2.1,iV .u16 f.2.2.2.2]
abbrev Qe:List Value:=Akw
theorem P8(c:Conf.Cfg)(fx:List Conf.Fwd)(fa:Option Addr)(fc:Nat)(ms:List Mpg)(ma:Option Addr)(mc_:Nat)(ts te:Nat)(tk:Nat→Option Nat)(wb ti:Nat)(lst:Int)(nb:Nat)(f:B2)(w:World)(hnt:At w (some ⟨nb,0,none⟩) (Dv (M5 c (sL fa fx.length fc)) (sL ma ms.length mc_) (pL (some ⟨ts,0,none⟩)) (pL (some ⟨te,0,none⟩)) tk (pL (some ⟨wb,0,none⟩)) (pL (some ⟨ti,0,none⟩)) (Value.int .u64 lst)))(hfx:At w fa (mm Conf.fwv fx))(hfn:fx.length≤100000)(hms:At w ma (mm mpM ms))(hmn:ms.length≤100000)(hm0:ms.length=0):Calls Tryz.prog 98 #[pV nb 0,aV [iV .u8 f.1,iV .u32 f.2.1,iV .u32 f.2.2.1,iV .u16 f.2.2.2.1,iV .u16 f.2.2.2.2]] w (Dc w (.tuple #[aV [iV .u8 (((Ev ms f).getD Ff).proto),iV .u16 (((Ev ms f).getD Ff).ext),iV .u16 (((Ev ms f).getD Ff).to),iV .u32 (((Ev ms f).getD Ff).remote),iV .u32 (((Ev ms f).getD Ff).host)],.bool (Ev ms f).isSome])):=by
 refine Ar (M:=[]) (LL:=[]) (n:=47) Tryz.func98 rfl rfl A5 (Mem.refl _) (Ad (fun K1 hK1=>?_))
 refine Aa (Ai rfl (Bx (Qd f) rfl) (fun p3=>?_))
 refine Ai rfl (Bc Tryz.zeroValue26) (fun p4=>Ab 1 (Ac (hK1 _ _ _ (Ad (fun K3 hK3=>?_)))))
 refine Ad (fun K4 hK4=>Aa (Ab 1 (Ah (An p3 1 1 0 Tryz.isAgg24) (Ab 2 ?_))))
 refine Ac (hK4 _ _ _ (W.block (H7 3 (C4 (fun J6 hJ6=>?_)))))
 refine Ad (fun K7 hK7=>Aa (Ab 1 (Ac (hK7 _ _ _ ?_))))
 refine Ad (fun K8 hK8=>B5 Ae (Ak (hK8 _ _ _ (Ad (fun K10 hK10=>?_)))))
 refine W.block (Ad (fun K11 hK11=>?_))
 refine Aa (Ab 2 (Ac (hK11 _ _ _ (Ad (fun K13 hK13=>?_)))))
 refine Aa (Ab 3 (Ah (v:=sL ma ms.length mc_) (Ys.ld (a:=⟨nb,28,none⟩) rfl Ae Tryz.isAgg56 (fun w_ h_=>by have x_:=(hnt.mem0 h_).ld (q:=28) ((Cq rfl Al).trans rfl);rw[Br]at x_;exact x_)) (Ab 2 (Ac ?_))))
 refine hK13 _ _ _ (W.block (Ep [0,3,4,7,12,13,19,20,21] (fun(i:Nat)=>[pV nb 0,pV p3 0,pV p4 0,iV .u32 f.2.1,aV [iV .u32 f.2.1,iV .u32 0],iV .i64 0,sL ma ms.length mc_,nV .i64 ms.length,nV .i64 i]) (fun(i:Nat)=>i≤ms.length∧ ∀j,j<i→maQ f f.2.1 (ms.getD j Ff)=false) (fun(i:Nat)=>[[cb p4 Qe 26],[cb p3 (Qd f) 47]]) (fun(i:Nat)=>ms.length-i) 0 Ae ⟨(Nat.zero_le _),(fun j hj=>absurd hj (Nat.not_lt_zero j))⟩ (by rfl) (fun i f16 J15 hp17 hJ15=>?_)))
 obtain⟨hi,hno⟩:=hp17
 refine Ad (fun K18 hK18=>Aa (Ab 1 (Ac (hK18 _ _ _ ?_))))
 refine Ad (fun K19 hK19=>?_)
 refine Ao (decide (((i:Nat):Int)<(ms.length:Int))) Ae (fun h20=>?_) (fun h21=>?_)
 ·have qh20:=h20;try simp only[zA]at qh20
  exfalso;have z_:=of_decide_eq_true h20;omega
 ·have qh21:=h21;try simp only[zA]at qh21
  refine Cr (hK10 _ _ _ (Aa (Ab 2 (Ac ?_))))
  refine hJ6 _ _ _ (C4 (fun J23 hJ23=>?_))
  refine Ad (fun K25 hK25=>Aa (Ab 1 (Ac (hK25 _ _ _ ?_))))
  refine Ad (fun K26 hK26=>B5 Ae (Ak (hK26 _ _ _ (Ad (fun K28 hK28=>?_)))))
  refine W.block (Ad (fun K29 hK29=>?_))
  refine Aa (Ab 2 (Ac (hK29 _ _ _ (Ad (fun K31 hK31=>?_)))))
  refine Aa (Ab 3 (Ah (v:=sL ma ms.length mc_) (Ys.ld (a:=⟨nb,28,none⟩) rfl Ae Tryz.isAgg56 (fun w_ h_=>by have x_:=(hnt.mem0 h_).ld (q:=28) ((Cq rfl Al).trans rfl);rw[Br]at x_;exact x_)) (Ab 2 (Ac ?_))))
  refine hK31 _ _ _ (W.block (Ep [0,3,4,7,12,13,19,20,21] (fun(k:Nat)=>[pV nb 0,pV p3 0,pV p4 0,iV .u32 0,aV [iV .u32 f.2.1,iV .u32 0],iV .i64 1,sL ma ms.length mc_,nV .i64 ms.length,nV .i64 k]) (fun(k:Nat)=>k≤ms.length∧ ∀j,j<k→maQ f 0 (ms.getD j Ff)=false) (fun(k:Nat)=>[[cb p4 Qe 26],[cb p3 (Qd f) 47]]) (fun(k:Nat)=>ms.length-k) 0 Ae ⟨(Nat.zero_le _),(fun j hj=>absurd hj (Nat.not_lt_zero j))⟩ (by rfl) (fun k f34 J33 hp35 hJ33=>?_)))
  obtain⟨hk,hnw⟩:=hp35
  refine Ad (fun K36 hK36=>Aa (Ab 1 (Ac (hK36 _ _ _ ?_))))
  refine Ad (fun K37 hK37=>?_)
  refine Ao (decide (((k:Nat):Int)<(ms.length:Int))) Ae (fun h38=>?_) (fun h39=>?_)
  ·have qh38:=h38;try simp only[zA]at qh38
   exfalso;have z_:=of_decide_eq_true h38;omega
  ·have qh39:=h39;try simp only[zA]at qh39
   refine Cr (hK28 _ _ _ (Aa (Ab 2 (Ac ?_))))
   refine hJ23 _ _ _ (C4 (fun J41 hJ41=>?_))
   refine Ad (fun K43 hK43=>Aa (Ab 1 (Ac (hK43 _ _ _ ?_))))
   refine Ad (fun K44 hK44=>B4 Ae (Cr (hK3 _ _ _ (Ap [0] Al rfl ?_))))
   refine Ad (fun K46 hK46=>Aa (Ab 1 (Ai rfl (A4 p4 0 0 0 Qe Tryz.sizeOf26 rfl rfl) (fun _=>Ab 1 ?_))))
   refine Ac (hK46 _ _ _ (Aq (fn:=Tryz.f98) rfl (fun w_ hS_=>B9 rfl (Bq p4 0 0 0 Akw Tryz.isAgg26 Tryz.sizeOf26) (Aw (bV false)) hS_ ⟨by clear hK1 hK3 hK4 hJ6 hK7 hK8 hK10 hK11 hK13 hJ15 hK18 hK19 hJ23 hK25 hK26 hK28 hK29 hK31 hJ33 hK36 hK37 hJ41 hK43 hK44 hK46;refine congrArg Ending.returned ?_;unfold Ev;rw[L1 Ff (fun j hj=>hno j Ag),L1 Ff (fun j hj=>hnw j Ag)];rfl,hS_.below⟩)))
def Bf(n:Int):Nat:=(Nc (D3 n 0) 8).toNat
theorem Jm(n:Int):Bf n≤8:=by unfold Bf;have:=Rw (D3 n 0) 8;omega
theorem L2(n:Int):Nc (D3 n 0) 8=(Bf n:Int):=by unfold Bf;have h1:=Rw (D3 n 0) 8;have h2:=Ik n 0;omega
theorem W0(size:Int)(w:World):Calls Tryz.prog 172 #[iV .i64 size] w (Dc w (.int .i64 (Bf size:Int))):=by
 refine Ar (M:=[]) (LL:=[]) (n:=6) Tryz.func172 rfl rfl A5 (Mem.refl _) (Ad (fun K1 hK1=>?_))
 refine Aa (Ab 1 (Ac (hK1 _ _ _ (Ad (fun K2 hK2=>?_)))))
 refine Aa (Ab 4 ?_)
 have hm3:=Ik size 0
 have hm4:=Rw (D3 size 0) 8
 refine Ac (hK2 _ _ _ (Aq (fn:=Tryz.f172) rfl (fun w_ hS_=>Bb rfl (Aw (iV .i64 (Nc (D3 size 0) 8))) hS_ ⟨by clear hK1 hK2;refine congrArg Ending.returned ?_;exact Af (L2 size),hS_.below⟩)))
theorem Ael(size:Int)(w:World):Calls Tryz.prog 157 #[iV .i64 size] w (Dc w (.int .i64 (Bf size:Int))):=by
 refine Ar (M:=[]) (LL:=[]) (n:=8) Tryz.func157 rfl rfl A5 (Mem.refl _) (Ad (fun K1 hK1=>?_))
 refine Aa (Ab 1 (Ac (hK1 _ _ _ (Ad (fun K2 hK2=>?_)))))
 refine Ad (fun K3 hK3=>Aa (Ab 2 (Ac (hK3 _ _ _ ?_))))
 refine Ao (decide (size<0)) Ae (fun h5=>?_) (fun h6=>?_)
 ·have qh5:=h5;try simp only[zA]at qh5
  refine Ad (fun K7 hK7=>Aa (Ab 1 (Ac (hK7 _ _ _ ?_))))
  refine Aq (fn:=Tryz.f157) rfl (fun w_ hS_=>Bb rfl (Aw (iV .i64 0)) hS_ ⟨by clear hK1 hK2 hK3 hK7;refine congrArg Ending.returned ?_;refine Af ((L2 size).symm.trans ?_).symm;unfold Nc D3;repeat(first|omega|split),hS_.below⟩)
 ·have qh6:=h6;try simp only[zA]at qh6
  refine Ak (hK2 _ _ _ (Ad (fun K9 hK9=>Ad (fun K10 hK10=>Aa ?_))))
  refine Ab 2 (Ac (hK10 _ _ _ ?_))
  refine Ao (decide (size>8)) Ae (fun h12=>?_) (fun h13=>?_)
  ·have qh12:=h12;try simp only[zA]at qh12
   refine Ad (fun K14 hK14=>Aa (Ab 1 (Ac (hK14 _ _ _ ?_))))
   refine Aq (fn:=Tryz.f157) rfl (fun w_ hS_=>Bb rfl (Aw (iV .i64 8)) hS_ ⟨by clear hK1 hK2 hK3 hK9 hK10 hK14;refine congrArg Ending.returned ?_;refine Af ((L2 size).symm.trans ?_).symm;unfold Nc D3;repeat(first|omega|split),hS_.below⟩)
  ·have qh13:=h13;try simp only[zA]at qh13
   refine Ak (hK9 _ _ _ (Ad (fun K16 hK16=>Aa (Ab 2 ?_))))
   refine Ac (hK16 _ _ _ (Aq (fn:=Tryz.f157) rfl (fun w_ hS_=>Bb rfl (Aw (iV .i64 size)) hS_ ⟨by clear hK1 hK2 hK3 hK9 hK10 hK16;refine congrArg Ending.returned ?_;refine Af ((L2 size).symm.trans ?_).symm;unfold Nc D3;repeat(first|omega|split),hS_.below⟩)))
def be:Nat→Nat→List UInt8
  |0,_=>[]
  |k+1,n=>be k (n/256)++[UInt8.ofNat n]
theorem A8: ∀k n,(be k n).length=k
  |0,_=>rfl
  |k+1,n=>by simp[be,A8 k]
theorem O4: ∀k n,be (k+1) n=UInt8.ofNat (n/256^k)::be k n
  |0,n=>by simp[be]
  |k+1,n=>by
    rw[be,O4 k,be,List.cons_append]
    rw[Nat.div_div_eq_div_mul,←Nat.pow_succ']
theorem Aaq(k i n:Nat)(h:i<k):(List.replicate (k-i) 0++be i n).set (k-1-i) (UInt8.ofNat (n/256^i))=List.replicate (k-(i+1)) 0++be (i+1) n:=by
  obtain⟨m,rfl⟩: ∃m,k=i+1+m:=⟨k-(i+1),by omega⟩
  rw[show i+1+m-i=m+1 by omega,show i+1+m-1-i=m by omega,show i+1+m-(i+1)=m by omega,O4]
  rw[List.set_append_left _ _ A5,List.replicate_succ',List.set_append_right _ _ A5]
  simp
theorem P9(x:Nat):UInt8.ofNat (x%256)=UInt8.ofNat x:=UInt8.toNat_inj.1 (by rw[UInt8.toNat_ofNat',UInt8.toNat_ofNat'];omega)
theorem Aar(n i:Nat)(h:n<18446744073709551616):n/256^i<18446744073709551616:=Nat.lt_of_le_of_lt (Nat.div_le_self _ _) h
theorem T8(n i:Nat):n/256^i/256=n/256^(i+1):=by rw[Nat.div_div_eq_div_mul,←Nat.pow_succ]
theorem Cv(size:Int)(n:Nat)(hn:n<18446744073709551616)(w:World):Calls Tryz.prog 145 #[iV .i64 size,nV .u64 n] w (Bj w (fun g:FS=>g.ok 1 (Bf size)∧g.nil=false) (fun g=>.slice g.a (Bf size) g.cap) [] (fun g=>[g.seg 5 (Ci (be (Bf size) n))])):=by
 have hs8:=Jm size
 refine Ar (M:=[]) (LL:=[]) (n:=28) Tryz.func145 rfl rfl A5 (Mem.refl _) (Ad (fun K1 hK1=>?_))
 refine Aa (Ab 1 (Ac (hK1 _ _ _ (Ad (fun K2 hK2=>?_)))))
 refine Aa (Ab 1 (B0 (v:=nV .i64 (Bf size)) (A9 (fun w_ hm_=>W0 _ _)) (Ai rfl (Adk (kl:=.i64) (kc:=.i64) (t:=38) (e:=5) (ii:=(Tryz.prog.info? 5).getD default) (z:=iV .u8 0) (lv:=(Bf size:Int)) (sz:=1) (bytes:=1) (cs:=mc b8 (List.replicate (Bf size) 0)) rfl rfl Ae Ae Ae Ae Ae Ae Ae Ag Ag Ag (Adm (g:=b8) _ 0 rfl)) (fun p9=>Ab 1 ?_))))
 refine Ac (hK2 _ _ _ (Ad (fun K4 hK4=>Ad (fun K5 hK5=>Aa ?_))))
 refine Ab 3 (Ac (hK5 _ _ _ (W.block (Ep [1,5,11,12] (fun(i:Nat)=>[nV .u64 (n/256^i),Value.slice (some ⟨p9,0,none⟩) (Bf size) (Bf size),nV .i64 (Bf size),nV .i64 i]) (fun(i:Nat)=>i≤Bf size) (fun(i:Nat)=>[[cb p9 (mc b8 (List.replicate (Bf size-i) 0++be i n)) 5]]) (fun(i:Nat)=>Bf size-i) 0 (Eq.trans (b:=([nV .u64 n,Value.slice (some ⟨p9,0,none⟩) (Bf size) (Bf size),nV .i64 (Bf size),iV .i64 0]:List Value)) Ae A5) Pt (by simp[be]) (fun i f8 J7 hp9 hJ7=>?_)))))
 have hi:=hp9
 have hd:=Aar n i hn;have hs:=Jm size;have hl:(List.replicate (Bf size-i) (0:UInt8)++be i n).length=Bf size:=by simp[A8];omega
 refine Ad (fun K10 hK10=>Aa (Ab 1 (Ac (hK10 _ _ _ ?_))))
 refine Ad (fun K11 hK11=>?_)
 refine Ao (decide (((i:Nat):Int)<(Bf size:Int))) Ae (fun h12=>?_) (fun h13=>?_)
 ·have qh12:=h12;try simp only[zA]at qh12
  refine Ak (hK11 _ _ _ (Ad (fun K15 hK15=>W.block (Ad (fun K16 hK16=>?_)))))
  refine Aa (Ab 2 (Ac (hK16 _ _ _ (Ad (fun K18 hK18=>?_)))))
  refine Aa (Ab 3 (Ah (v:=iV .i64 (((Bf size:Nat):Int)-1)) ((Ys.p (v:=.int .i64 (Hk .i64 (Bf size:Int) 1))).conseq (Af (Er rfl Ag Ag))) (Ab 1 (Ah (v:=iV .i64 (((Bf size:Int)-1)-(i:Int))) ((Ys.p (v:=.int .i64 (Hk .i64 (((Bf size:Nat):Int)-1) (i:Int)))).conseq (Af (Er rfl Ag Ag))) ?_))))
  refine Ab 1 (Ah (v:=nV .u8 ((UInt8.ofNat (n/256^i)).toNat)) ((Ys.p (v:=.int .u8 (Cg .u8 ((n/256^i:Nat):Int)))).conseq (Af (Gf _))) (Ah (v:=Value.pointer (some ⟨p9,(((((Bf size:Nat):Int)-1)-(i:Int)).toNat)*1,none⟩)) ((Av (k:=.i64) (a:=some ⟨p9,0,none⟩) (len:=Bf size) (cap:=Bf size) (i:=(((Bf size:Nat):Int)-1)-(i:Int)) (sz:=1) rfl Ae Ae Tryz.runUnderlying38 Tryz.sizeOf5 Ag Ag rfl).conseq (congrArg (fun a=>Value.pointer (some a)) (Br _ _))) (Ai rfl (Ek (b:=p9) (o':=(((((Bf size:Nat):Int)-1)-(i:Int)).toNat)*1) (i:=0) (j:=0) (cs:=mc b8 (List.replicate (Bf size-i) 0++be i n)) (cs':=mc b8 ((List.replicate (Bf size-i) 0++be i n).set (((((Bf size:Nat):Int)-1)-(i:Int)).toNat) (UInt8.ofNat (n/256^i)))) (v:=nV .u8 ((UInt8.ofNat (n/256^i)).toNat)) (LL':=[[cb p9 (mc b8 ((List.replicate (Bf size-i) 0++be i n).set (((((Bf size:Nat):Int)-1)-(i:Int)).toNat) (UInt8.ofNat (n/256^i)))) 5]]) rfl rfl Ae Ae Tryz.sizeOf5 rfl rfl rfl (by first|(simp[mc];done)|(simp[mc];omega)) (Rz (g:=b8) (List.replicate (Bf size-i) 0++be i n) (((((Bf size:Nat):Int)-1)-(i:Int)).toNat) (UInt8.ofNat (n/256^i))) rfl) (fun _=>Ac ?_))))
  refine hK18 _ _ _ (Aa (Ab 1 (Ah (v:=nV .u64 ((n/256^i)/256)) ((Ys.p (v:=.int .u64 (Jd .u64 ((n/256^i:Nat):Int) ((8:Nat):Int)))).conseq (Af (El (n/256^i) 8 Al))) (Ab 1 ?_))))
  refine Ac (hK15 _ _ _ (Aa (Ah (v:=nV .i64 (i+1)) ((Ys.p (v:=.int .i64 (Bt .i64 (i:Int) 1))).conseq (Af (A6 Ag Ag Ag))) (Ab 1 ?_))))
  refine Ac ?_
  refine fun w_ h_=>hJ7 (i+1) _ w_ Ag Pt ?_ (Mem.cast (LL:=[[cb p9 (mc b8 ((List.replicate (Bf size-i) 0++be i n).set (((((Bf size:Nat):Int)-1)-(i:Int)).toNat) (UInt8.ofNat (n/256^i)))) 5]]) (by rw[show(((Bf size:Nat):Int)-1-(i:Int)).toNat=Bf size-1-i by omega,Aaq _ _ _ Ag]) h_)
  refine Eq.trans (b:=([nV .u64 ((n/256^i)/256),Value.slice (some ⟨p9,0,none⟩) (Bf size) (Bf size),nV .i64 (Bf size),nV .i64 (i+1)]:List Value)) Ae (by rw[T8])
 ·have qh13:=h13;try simp only[zA]at qh13
  refine Cr (hK4 _ _ _ (Ad (fun K22 hK22=>Aa (Ab 2 ?_))))
  refine Ac (hK22 _ _ _ (Aq (fn:=Tryz.f145) rfl (fun w_ hS_=>Bb rfl (Aw (Value.slice (some ⟨p9,0,none⟩) (Bf size) (Bf size))) hS_ ⟨⟨false,p9,Bf size,[]⟩,⟨Dp (by have:=Jm size;simp only[maxLen];omega),rfl⟩,rfl,(Mem.cast (by rw[show Bf size-i=0 by omega,show i=Bf size by omega];simp[FS.seg]) hS_)⟩)))
theorem Va(size:Int)(n:Nat)(hn:n<18446744073709551616)(w:World):Calls Tryz.prog 155 #[iV .i64 size,nV .u64 n] w (Bj w (fun g:FS=>g.ok 1 (Bf size)∧g.nil=false) (fun g=>.slice g.a (Bf size) g.cap) [] (fun g=>[g.seg 5 (Ci (be (Bf size) n))])):=by
 have hs8:=Jm size
 refine Ar (M:=[]) (LL:=[]) (n:=25) Tryz.func155 rfl rfl A5 (Mem.refl _) (Ad (fun K1 hK1=>?_))
 refine Aa (Ab 1 (Ac (hK1 _ _ _ (Ad (fun K2 hK2=>?_)))))
 refine Aa (Ai rfl (Bd (mk:=fun b_=>.slice (some ⟨b_,0,none⟩) 0 0) (t:=5) (cs:=[]) rfl (fun _=>kr)) (fun p8=>?_))
 refine Ab 3 (Ac (hK2 _ _ _ (Ad (fun K4 hK4=>Ad (fun K5 hK5=>?_)))))
 refine Aa (Ab 1 (Ac (hK5 _ _ _ (W.block ?_))))
 refine E6 [0,5,6,7] (fun(i:Nat) (g:FS)=>[iV .i64 size,sV g i,nV .u64 (n/256^i),nV .i64 i]) (fun(i:Nat) (g:FS)=>i≤Bf size∧g.ok 1 i∧g.nil=false) (fun(i:Nat) (g:FS)=>[g.seg 5 (mc b8 (be i n))]) (fun(i:Nat) (g:FS)=>Bf size-i) 0 ⟨false,p8,0,[]⟩ (Eq.trans (b:=([iV .i64 size,Value.slice (some ⟨p8,0,none⟩) 0 0,nV .u64 n,iV .i64 0]:List Value)) Ae (by simp[FS.a])) ⟨(Nat.zero_le _),(Dp Al),rfl⟩ (by rfl) (fun i g f7 J6 hp8 hJ6=>?_)
 obtain⟨hi,ok,hnn⟩:=hp8
 have hd:=Aar n i hn
 refine Ad (fun K9 hK9=>Ad (fun K10 hK10=>?_))
 refine Aa (Ab 2 (B0 (v:=nV .i64 (Bf size)) (A9 (fun w_ hm_=>Ael _ _)) (Ab 1 (Ac ?_))))
 refine hK10 _ _ _ ?_
 refine Ao (decide (((i:Nat):Int)<(Bf size:Int))) Ae (fun h12=>?_) (fun h13=>?_)
 ·have qh12:=h12;try simp only[zA]at qh12
  refine Ak (hK9 _ _ _ (Ad (fun K15 hK15=>W.block (Ad (fun K16 hK16=>?_)))))
  refine Aa (Ab 1 (Ah (v:=nV .u64 ((n/256^i)%256)) ((Ys.p (v:=.int .u64 (Tk ((n/256^i:Nat):Int) ((256:Nat):Int)))).conseq (Af (rfl))) (Ah (v:=nV .u8 ((UInt8.ofNat ((n/256^i)%256)).toNat)) ((Ys.p (v:=.int .u8 (Cg .u8 (((n/256^i)%256:Nat):Int)))).conseq (Af (Gf _))) (Ai rfl (Bd (mk:=fun b_=>.slice (some ⟨b_,0,none⟩) 1 1) (t:=5) (cs:=[nV .u8 ((UInt8.ofNat ((n/256^i)%256)).toNat)]) rfl (fun _=>kr)) (fun p19=>?_)))))
  refine Ab 1 (Ax rfl (HtS.append (eu:=5) (xv:=sV g i) (i:=0) (g:=(FS.mk false p19 1 [])) (e:=5) (ii:=(Tryz.prog.info? 5).getD default) (z:=iV .u8 0) (sz:=1) (bytes:=1) (nn:=1) (m:=i) (k:=1+i) (xs:=mc b8 [(UInt8.ofNat ((n/256^i)%256))]) (news:=mc b8 (be i n)) (cs':=mc b8 ([(UInt8.ofNat ((n/256^i)%256))]++(be i n))) (Lo:=fun g17=>[g17.seg 5 (mc b8 ([(UInt8.ofNat ((n/256^i)%256))]++(be i n))),g.seg 5 (mc b8 (be i n))]) rfl rfl Ae Ae Ae Ae Ae Ae Ae Ae Ae rfl (Dp Al) (by first|rfl|simp[mc,A8]) (fun _=>rfl) (Src.at (a:=g.a) S8 (fun w_ h_=>(FS.at (i:=1) (t:=5) h_ rfl (Aj ok (by rw[Da,A8,Nat.mul_one]))))) S8 (Dl (fun _=>rfl) _) Ef Gv Ef (E1 _ _) (fun _=>rfl)) (fun g17 hx22=>?_))
  obtain⟨ok18,hn19,hn20⟩:=hx22
  refine Ab 1 (Ac (hK16 _ _ _ (Ap [0] Al rfl (Aa ?_))))
  refine Ab 1 (Ah (v:=nV .u64 ((n/256^i)/256)) ((Ys.p (v:=.int .u64 (Nb .u64 ((n/256^i:Nat):Int) ((256:Nat):Int)))).conseq (Af (H3 rfl H0))) (Ab 1 (Ac (hK15 _ _ _ ?_))))
  refine Aa (Ab 1 (Ah (v:=nV .i64 (i+1)) ((Ys.p (v:=.int .i64 (Bt .i64 (i:Int) 1))).conseq (Af (A6 Ag Ag Ag))) (Ab 1 (Ac ?_))))
  refine fun w_ h_=>hJ6 (i+1) g17 _ w_ Ag ⟨Ag,(by rw[Nat.add_comm];exact ok18),(hn20 (by rfl))⟩ ?_ (Mem.cast (LL:=[g17.seg 5 (mc b8 ([(UInt8.ofNat ((n/256^i)%256))]++(be i n)))]) (by rw[O4,P9];rfl) h_)
  refine Eq.trans (b:=([iV .i64 size,sV g17 (1+i),nV .u64 ((n/256^i)/256),nV .i64 (i+1)]:List Value)) Ae (by rw[T8,Nat.add_comm])
 ·have qh13:=h13;try simp only[zA]at qh13
  refine Cr (hK4 _ _ _ (Ad (fun K26 hK26=>Aa (Ab 2 ?_))))
  refine Ac (hK26 _ _ _ (Aq (fn:=Tryz.f155) rfl (fun w_ hS_=>Bb rfl (Aw (sV g i)) hS_ ⟨g,⟨(show i=Bf size by omega)▸ok,hnn⟩,congrArg Ending.returned ((by rw[show i=Bf size by omega])),(Mem.cast (by rw[show i=Bf size by omega]) hS_)⟩)))
theorem Ra{w:World}{a:Option Addr}{xs:List UInt8}(h:At w a (Ci xs))(hn:a.isNone=true):xs.length=0:=by
  cases a with
  |none=>
            rcases Nat.eq_zero_or_pos xs.length with e|e
            · exact e
            · have:=h.here (by rw[Da];exact e);cases this
  |some x=>cases hn
theorem Aem(xs:List UInt8)(a:Option Addr)(cap:Nat)(w:World)(hat:At w a (Ci xs))(hl:xs.length≤70368744177664):Calls Tryz.prog 148 #[sL a xs.length cap] w (Bj w (fun g:FS=>g.ok 1 xs.length) (fun g=>.slice g.a xs.length g.cap) [] (fun g=>[g.seg 5 (Ci xs)])):=by
 refine Ar (M:=[]) (LL:=[]) (n:=8) Tryz.func148 rfl rfl A5 (Mem.refl _) (Ad (fun K1 hK1=>?_))
 refine Aa (Ab 1 (Ac (hK1 _ _ _ (Ad (fun K2 hK2=>?_)))))
 refine Ad (fun K3 hK3=>Aa (Ab 1 (Ah (v:=bV a.isNone) (Ys.pure (fun _=>by generalize a=a_;cases a_<;>kernel_rfl)) (Ac ?_))))
 refine hK3 _ _ _ ?_
 refine Ao (a.isNone) Ae (fun h5=>?_) (fun h6=>?_)
 ·refine Ad (fun K7 hK7=>Aa (Ab 1 (Ac (hK7 _ _ _ ?_))))
  refine Aq (fn:=Tryz.f148) rfl (fun w_ hS_=>Bb rfl (Aw (sL none 0 0)) hS_ ⟨FS.nul,((Ra hat h5)▸Bw 1),congrArg Ending.returned ((by rw[(Ra hat h5)];rfl)),(Mem.push hS_)⟩)
 ·refine Ak (hK2 _ _ _ (Ad (fun K9 hK9=>Aa (Ai rfl (Bd (mk:=fun b_=>.slice (some ⟨b_,0,none⟩) 0 0) (t:=5) (cs:=[]) rfl (fun _=>kr)) (fun p5=>?_)))))
  refine Ab 1 (Ax rfl (HtS.append (eu:=5) (xv:=Value.slice a xs.length cap) (i:=0) (g:=(FS.mk false p5 0 [])) (e:=5) (ii:=(Tryz.prog.info? 5).getD default) (z:=iV .u8 0) (sz:=1) (bytes:=1) (nn:=0) (m:=xs.length) (k:=xs.length) (xs:=mc b8 []) (news:=mc b8 xs) (cs':=mc b8 xs) (Lo:=fun g10=>[g10.seg 5 (mc b8 xs)]) rfl rfl Ae Ae Ae Ae Ae Ae Ae Ae Ae rfl (Dp Al) (by first|rfl|simp[mc,A8]) (fun _=>rfl) (Src.at (a:=a) (Ba _) (fun w_ h_=>(hat.mem0 h_))) (Ba _) (Dl (fun _=>rfl) _) Ef Gv Ef rfl (fun _=>rfl)) (fun g10 hx15=>?_))
  obtain⟨ok11,hn12,hn13⟩:=hx15
  refine Ab 1 (Ac (hK9 _ _ _ (Aq (fn:=Tryz.f148) rfl (fun w_ hS_=>Bb rfl (Aw (sV g10 xs.length)) hS_ ⟨g10,ok11,rfl,hS_⟩))))
theorem T9(xs:List UInt8)(a:Option Addr)(len cap:Nat)(w:World)(hat:At w a (Ci xs))(hn:len=xs.length)(hl:len≤70368744177664):Calls Tryz.prog 148 #[.slice a len cap] w (Bj w (fun g:FS=>g.ok 1 xs.length) (fun g=>.slice g.a xs.length g.cap) [] (fun g=>[g.seg 5 (Ci xs)])):=by
  subst hn;exact Aem xs a cap w hat hl
structure NE where
  b:Nat
  g:FS
theorem Aas(xs:List UInt8)(a:Option Addr)(cap:Nat)(w:World)(hat:At w a (Ci xs))(hl:xs.length≤70368744177664):Calls Tryz.prog 131 #[sL a xs.length cap] w (Bj w (fun x:NE=>x.g.ok 1 xs.length) (fun x=>.pointer (some ⟨x.b,0,none⟩)) [] (fun x=>[[cb x.b [.slice x.g.a xs.length x.g.cap,.bool false] 283],x.g.seg 5 (Ci xs)])):=by
 refine Ar (M:=[]) (LL:=[]) (n:=7) Tryz.func131 rfl rfl A5 (Mem.refl _) (Ad (fun K1 hK1=>?_))
 refine Aa (Ab 1 (Ac (hK1 _ _ _ (Ad (fun K2 hK2=>?_)))))
 refine Aa (Ab 1 (Ax rfl (Au [] [] (fun w_ hm_ hl_=>(T9 xs a xs.length cap _ (hat.mem0 hm_) rfl Ag))) (fun g3 ok4=>Ab 1 (Ai rfl (Bx [sV g3 xs.length,bV false] rfl) (fun p6=>?_)))))
 refine Ab 1 (Ac (hK2 _ _ _ (Aq (fn:=Tryz.f131) rfl (fun w_ hS_=>Bb rfl (Aw (pV p6 0)) hS_ ⟨⟨p6,g3⟩,ok4,rfl,hS_⟩))))
theorem Ah7(v:Value)(x:UInt8)(h:(match v with| .int _ _=>false|_=>true)=true):v≠b8 x:=fun e=>by subst e;cases h
theorem Mm{w:World}{b len cap:Nat}{a a':Option Addr}{bad:Bool}{ys:List UInt8}{t:TypeId}(hl:Mem w [b] [[cb b [.slice a' len cap,.bool bad] t]] w)(hat:At w a (Ci ys)):0<(Ci ys).length→(a.getD default).block∉[b]:=fun h0=>by
  have hb:=hl.at (i:=0) (j:=0) (p:=cb b [.slice a' len cap,.bool bad] t) rfl rfl
  have:=hat.ne (b:=b) (cs:=[.slice a' len cap,.bool bad]) hb (fun v hv x=>Ah7 v x (by
    rcases List.mem_cons.1 hv with rfl|hv
    · rfl
    · obtain rfl:=List.mem_singleton.1 hv;rfl)) h0
  simpa using this
theorem Ah8(ys:List UInt8)(a:Option Addr)(cap:Nat)(bad:Bool)(b:Nat)(w:World)(hl:Mem w [b] [[cb b [.slice a ys.length cap,.bool bad] 283]] w)(hat:At w a (Ci ys)):Calls Tryz.prog 136 #[pV b 0] w (Bj w (fun _:Unit=>True) (fun _=>.int .i64 (ys.length:Int)) [b] (fun _=>[[cb b [.slice a ys.length cap,.bool bad] 283]])):=by
 have hne:=Mm hl hat
 refine Ar (M:=[b]) (LL:=[[cb b [sL a ys.length cap,bV bad] 283]]) (n:=8) Tryz.func136 rfl rfl A5 (hl) (Ad (fun K1 hK1=>?_))
 refine Aa (Ab 1 (Ac (hK1 _ _ _ (Ad (fun K2 hK2=>?_)))))
 refine Aa (Ab 3 (Ah (An b 0 0 0 Tryz.isAgg38) (Ab 2 (Ac ?_))))
 refine hK2 _ _ _ (Aq (fn:=Tryz.f136) rfl (fun w_ hS_=>Bb rfl (Aw (nV .i64 ys.length)) hS_ ⟨(),trivial,rfl,hS_⟩))
def Cm(n:Int):Nat:=(D3 n 0).toNat
theorem Aat(n:Int):D3 n 0=(Cm n:Int):=by unfold Cm;have:=Ik n 0;omega
def Cp(ys:List UInt8)(n:Int):List UInt8:=if Cm n≤ys.length then ys.take (Cm n)else []
def Dd(ys:List UInt8)(n:Int):List UInt8:=if Cm n≤ys.length then ys.drop (Cm n)else []
def Nf(ys:List UInt8)(bad:Bool)(n:Int):Bool:=bif decide (Cm n≤ys.length)then bad else true
theorem Sg{ys:List UInt8}{n:Int}(h:Cm n≤ys.length):Cp ys n=ys.take (Cm n):=if_pos h
theorem Sh{ys:List UInt8}{n:Int}(h:Cm n≤ys.length):Dd ys n=ys.drop (Cm n):=if_pos h
theorem Aau{ys:List UInt8}{bad:Bool}{n:Int}(h:Cm n≤ys.length):Nf ys bad n=bad:=by simp[Nf,h]
theorem Vb{ys:List UInt8}{n:Int}(h: ¬Cm n≤ys.length):Cp ys n=[]:=if_neg h
theorem W1{ys:List UInt8}{n:Int}(h: ¬Cm n≤ys.length):Dd ys n=[]:=if_neg h
theorem Ah9{ys:List UInt8}{bad:Bool}{n:Int}(h: ¬Cm n≤ys.length):Nf ys bad n=true:=by simp[Nf,h]
structure EG where
  g:FS
  a:Option Addr
  cap:Nat
theorem Aen(ys:List UInt8)(a:Option Addr)(cap:Nat)(bad:Bool)(b:Nat)(n:Int)(w:World)(hl:Mem w [b] [[cb b [.slice a ys.length cap,.bool bad] 283]] w)(hat:At w a (Ci ys))(hcap:ys.length≤cap)(hy:ys.length≤70368744177664):Calls Tryz.prog 135 #[pV b 0,iV .i64 n] w (Bj w (fun x:EG=>x.g.ok 1 (Cp ys n).length∧View x.a (Dd ys n) a ys∧(Dd ys n).length≤x.cap) (fun x=>.slice x.g.a (Cp ys n).length x.g.cap) [b] (fun x=>[[cb b [.slice x.a (Dd ys n).length x.cap,.bool (Nf ys bad n)] 283],x.g.seg 5 (Ci (Cp ys n))])):=by
 have hne:=Mm hl hat
 refine Ar (M:=[b]) (LL:=[[cb b [sL a ys.length cap,bV bad] 283]]) (n:=37) Tryz.func135 rfl rfl A5 (hl) (Ad (fun K1 hK1=>?_))
 refine Aa (Ab 1 (Ac (hK1 _ _ _ (Ad (fun K2 hK2=>?_)))))
 refine Aa (Ab 1 (Ah (v:=nV .i64 (Cm n)) ((Ys.p (v:=iV .i64 (D3 n 0))).conseq (Af (Aat n))) ?_))
 have hm3:=Ik n 0
 refine Ab 1 (Ac (hK2 _ _ _ (Ad (fun K5 hK5=>Ad (fun K6 hK6=>?_)))))
 refine Aa (Ab 4 (Ah (An b 0 0 0 Tryz.isAgg38) (Ab 2 (Ac ?_))))
 refine hK6 _ _ _ ?_
 refine Ao (decide (((Cm n:Nat):Int)>(ys.length:Int))) Ae (fun h8=>?_) (fun h9=>?_)
 ·have qh8:=h8;try simp only[zA]at qh8
  refine Ad (fun K10 hK10=>Aa (Ab 4 (Ai rfl (Bg b 0 0 0 (sL none 0 0) Tryz.sizeOf38 rfl rfl) (fun _=>Ab 2 ?_))))
  refine Ai rfl (Bg b 1 0 0 (bV true) Tryz.sizeOf4 rfl rfl) (fun _=>Ac (hK10 _ _ _ (Ad (fun K12 hK12=>Aa ?_))))
  refine Ab 1 (Ac (hK12 _ _ _ (Aq (fn:=Tryz.f135) rfl (fun w_ hS_=>Bb rfl (Aw (Value.slice none 0 0)) hS_ ⟨⟨FS.nul,none,0⟩,(by have hk: ¬Cm n≤ys.length:=Ag;dsimp only;rw[Vb hk,W1 hk];exact⟨Bw 1,View.nil _ _ _,Nat.le_refl _⟩),congrArg Ending.returned ((by have hk: ¬Cm n≤ys.length:=Ag;dsimp only;rw[Vb hk];rfl)),(Mem.cast (by have hk: ¬Cm n≤ys.length:=Ag;rw[Vb hk,W1 hk,Ah9 hk];rfl) (hS_.push.pick (LL':=[[cb b [.slice none 0 0,.bool true] 283],[]]) [1,0] Al rfl))⟩))))
 ·have qh9:=h9;try simp only[zA]at qh9
  refine Ak (hK5 _ _ _ (Ad (fun K14 hK14=>Dh [(0,true),(1,true),(2,true),(3,true),(4,true),(5,true),(6,true),(8,true),(9,true),(10,true),(11,true),(12,true),(13,true),(7,false),(14,false),(15,false),(16,false),(17,false)] [0,1,2,3,4,5,6,8,9,10,11,12,13] (Ay 4 ?_))))
  refine Wd.ys rfl rfl rfl (An b 0 0 0 Tryz.isAgg38) (Ay 1 (Wd.ys (v:=sL a (Cm n) cap) rfl rfl rfl (Dg (a:=a) (len:=ys.length) (cap:=cap) (sz:=1) (k:=.i64) (i:=(Cm n:Int)) rfl Ae Ae Tryz.runUnderlying38 Tryz.sizeOf5 Ag Ag) (Ay 3 (Wd.ys rfl rfl rfl (An b 0 0 0 Tryz.isAgg38) ?_))))
  refine Ay 1 (Wd.ys (v:=Value.slice (C8 a cap (Cm n) 1) (ys.length-(Cm n)) (cap-(Cm n))) rfl rfl rfl (Bk (a:=a) (len:=ys.length) (cap:=cap) (sz:=1) (k:=.i64) (i:=(Cm n:Int)) rfl Ae Ae Tryz.runUnderlying38 Tryz.sizeOf5 Ag Ag) (Cd rfl rfl (Au [] [0] (fun w_ hm_ hl_=>(T9 (ys.take (Cm n)) a (Cm n) cap _ ((hat.mem' hm_ hne).mtake (Cm n)) (by first|rfl|(rw[List.length_take];omega)|(rw[List.length_take,List.length_drop];omega)|(simp[A8];done)|(simp[A8];omega)) Ag))) (.inr fun _ _ h_=>h_.pick [1] Al rfl) (fun g15 ok16=>Wd.yc (v:=sV g15 ((ys.take (Cm n)).length)) rfl rfl rfl (Ys.yc (Ys.p)) (.inr fun _ h_=>h_.pick [1] Al rfl) (Wd.yc (v:=pV b 0) rfl rfl rfl (Ys.yc (Ys.p)) (.inl Ae) ?_))))
  refine Wd.yc (v:=pV b 0) rfl rfl rfl (Ys.yc (Ys.p)) (.inl Ae) (B8 rfl rfl (Bg b 0 1 0 (sL (C8 a cap (Cm n) 1) (ys.length-(Cm n)) (cap-(Cm n))) Tryz.sizeOf38 rfl rfl) (.inl Ae) (fun _=>?_))
  refine A7 (hK14 _ _ _ (Ad (fun K19 hK19=>Aa (Ab 2 ?_))))
  refine Ac (hK19 _ _ _ (Aq (fn:=Tryz.f135) rfl (fun w_ hS_=>Bb rfl (Aw (sV g15 ((ys.take (Cm n)).length))) hS_ ⟨⟨g15,C8 a cap (Cm n) 1,cap-(Cm n)⟩,(by have hk:Cm n≤ys.length:=Ag;dsimp only;rw[Sh hk,Sg hk];exact⟨ok16,View.drop cap (Cm n) hcap,by rw[List.length_drop];omega⟩),congrArg Ending.returned ((by have hk:Cm n≤ys.length:=Ag;dsimp only;rw[Sg hk])),(Mem.cast (by have hk:Cm n≤ys.length:=Ag;dsimp only;rw[Sg hk,Sh hk,Aau hk,List.length_drop]) (hS_.pick (LL':=[[cb b [Value.slice (C8 a cap (Cm n) 1) (ys.length-(Cm n)) (cap-(Cm n)),bV bad] 283],g15.seg 5 (mc b8 (ys.take (Cm n)))]) [1,0] Al rfl))⟩)))
theorem Ib(ys:List UInt8)(a:Option Addr)(len cap:Nat)(bad:Bool)(b:Nat)(n:Int)(w:World)(hn:len=ys.length)(hl:Mem w [b] [[cb b [.slice a len cap,.bool bad] 283]] w)(hat:At w a (Ci ys))(hcap:ys.length≤cap)(hy:ys.length≤70368744177664):
    Calls Tryz.prog 135 #[.pointer (some ⟨b,0,none⟩),.int .i64 n] w (Bj w (fun x:EG=>x.g.ok 1 (Cp ys n).length∧View x.a (Dd ys n) a ys∧(Dd ys n).length≤x.cap) (fun x=>.slice x.g.a (Cp ys n).length x.g.cap) [b] (fun x=>[[cb b [.slice x.a (Dd ys n).length x.cap,.bool (Nf ys bad n)] 283],x.g.seg 5 (Ci (Cp ys n))])):=by
  subst hn;exact Aen ys a cap bad b n w hl hat hcap hy
def bv(xs:List UInt8):Nat:=xs.foldl (fun n b=>n*256+b.toNat) 0
theorem W2(xs:List UInt8)(b:UInt8):bv (xs++[b])=bv xs*256+b.toNat:=by simp[bv]
theorem Ya{xs:List UInt8}{k:Nat}(h:k<xs.length):xs.take (k+1)=xs.take k++[xs.getD k 0]:=by
  rw[List.take_add_one];simp[h]
theorem W3: ∀(xs:List UInt8),bv xs<256^xs.length:=fun xs=>by
  have key: ∀(ys:List UInt8),bv ys.reverse<256^ys.length:=by
    intro ys
    induction ys with
    |nil=>simp[bv]
    |cons y ys ih=>
      rw[List.reverse_cons,W2,List.length_cons,Nat.pow_succ]
      have:=UInt8.toNat_lt y
      omega
  have:=key xs.reverse
  simpa using this
theorem Aeo{xs:List UInt8}(h:xs.length≤8):bv xs<18446744073709551616:=by
  have h1:=W3 xs
  have h2:256^xs.length≤256^8:=Nat.pow_le_pow_right Al h
  omega
theorem Aep{xs:List UInt8}(h:xs.length≤7):bv xs*256<18446744073709551616-255:=by
  have h1:=W3 xs
  have h2:256^xs.length≤256^7:=Nat.pow_le_pow_right Al h
  omega
theorem Alp{xs:List UInt8}{k:Nat}(h:k<xs.length)(h8:xs.length≤8):bv (xs.take k)*256%18446744073709551616|||(xs.getD k 0).toNat=bv (xs.take (k+1)):=by
  have h1:=Aep (xs:=xs.take k) (by simp;omega)
  rw[Ya h,W2,Nat.mod_eq_of_lt Ag,show bv (xs.take k)*256=bv (xs.take k)*2^8 by rfl,U4 (UInt8.toNat_lt _)]
theorem Aeq(ys:List UInt8)(n:Int):(Cp ys n).length≤Cm n:=by
  unfold Cp;split
  · rw[List.length_take];omega
  · simp
theorem Ua(n:Int):Cm (Bf n:Int)=Bf n:=by
  unfold Cm D3
  split<;>omega
structure EV where
  a:Option Addr
  cap:Nat
theorem Aia(ys:List UInt8)(a:Option Addr)(cap:Nat)(bad:Bool)(b:Nat)(size:Int)(w:World)(hl:Mem w [b] [[cb b [.slice a ys.length cap,.bool bad] 283]] w)(hat:At w a (Ci ys))(hcap:ys.length≤cap)(hy:ys.length≤70368744177664):Calls Tryz.prog 132 #[pV b 0,iV .i64 size] w (Bj w (fun x:EV=>View x.a (Dd ys (Bf size:Int)) a ys∧(Dd ys (Bf size:Int)).length≤x.cap) (fun x=>.int .u64 (bv (Cp ys (Bf size:Int)):Int)) [b] (fun x=>[[cb b [.slice x.a (Dd ys (Bf size:Int)).length x.cap,.bool (Nf ys bad (Bf size:Int))] 283]])):=by
 have hne:=Mm hl hat;have hs8:=Jm size;have ho8:=Aeq ys (Bf size:Int);rw[Ua]at ho8
 refine Ar (M:=[b]) (LL:=[[cb b [sL a ys.length cap,bV bad] 283]]) (n:=23) Tryz.func132 rfl rfl A5 (hl) (Ad (fun K1 hK1=>?_))
 refine Aa (Ab 1 (Ac (hK1 _ _ _ (Ad (fun K2 hK2=>?_)))))
 refine Ad (fun K3 hK3=>Aa (Ab 2 (B0 (v:=nV .i64 (Bf size)) (A9 (fun w_ hm_=>W0 _ _)) (Ax rfl (Au [0] [] (fun w_ hm_ hl_=>(Ib ys a ys.length cap bad b (Bf size:Int) _ rfl hl_ (hat.mem' hm_ hne) Ex Ex))) (fun eg4 hx10=>?_)))))
 obtain⟨ok5,hv6,hc7⟩:=hx10
 refine Ab 2 (Ac (hK3 _ _ _ (W.block (Ep [4,10,11,12] (fun(k:Nat)=>[nV .u64 (bv ((Cp ys (Bf size:Int)).take k)),Value.slice eg4.g.a ((Cp ys (Bf size:Int)).length) eg4.g.cap,nV .i64 ((Cp ys (Bf size:Int)).length),nV .i64 k]) (fun(k:Nat)=>k≤(Cp ys (Bf size:Int)).length) (fun(k:Nat)=>[[cb b [Value.slice eg4.a ((Dd ys (Bf size:Int)).length) eg4.cap,bV (Nf ys bad (Bf size:Int))] 283],eg4.g.seg 5 (mc b8 (Cp ys (Bf size:Int)))]) (fun(k:Nat)=>(Cp ys (Bf size:Int)).length-k) 0 (Eq.trans (b:=([iV .u64 0,Value.slice eg4.g.a ((Cp ys (Bf size:Int)).length) eg4.g.cap,nV .i64 ((Cp ys (Bf size:Int)).length),iV .i64 0]:List Value)) Ae (by simp[bv])) Pt (by rfl) (fun k f13 J12 hp14 hJ12=>?_)))))
 have hk:=hp14
 have hb:=Aeo (xs:=(Cp ys (Bf size:Int)).take k) (by simp;omega)
 refine Ad (fun K15 hK15=>Aa (Ab 1 (Ac (hK15 _ _ _ ?_))))
 refine Ad (fun K16 hK16=>?_)
 refine Ao (decide (((k:Nat):Int)<((Cp ys (Bf size:Int)).length:Int))) Ae (fun h17=>?_) (fun h18=>?_)
 ·have qh17:=h17;try simp only[zA]at qh17
  refine Ak (hK16 _ _ _ (Ad (fun K20 hK20=>W.block (Ad (fun K21 hK21=>?_)))))
  refine Aa (Ah (v:=pL (some (Co eg4.g.a (k*1)))) (Av (k:=.i64) (a:=eg4.g.a) (len:=(Cp ys (Bf size:Int)).length) (cap:=eg4.g.cap) (i:=(k:Int)) (sz:=1) rfl Ae Ae Tryz.runUnderlying38 Tryz.sizeOf5 Ag Ag (by rw[Eb (C5 ok5 Ag)];rfl)) (Ah (v:=nV .u8 (((Cp ys (Bf size:Int)).getD k 0).toNat)) (Ys.ld (a:=Co eg4.g.a (k*1)) rfl Ae Tryz.isAgg5 (fun w_ h_=>(FS.at (i:=1) (t:=5) h_ rfl (Aj ok5 (Ba _))).ld (Fm 0 Ex))) ?_))
  have hb22:((Cp ys (Bf size:Int)).getD k 0).toNat<256:=UInt8.toNat_lt _
  refine Ab 1 (Ac (hK21 _ _ _ (Aa (Ab 1 ?_))))
  refine Ah (v:=nV .u64 (((bv ((Cp ys (Bf size:Int)).take k))*256)%18446744073709551616)) ((Ys.p (v:=.int .u64 (Hw .u64 (bv ((Cp ys (Bf size:Int)).take k):Int) ((8:Nat):Int)))).conseq (Af (Gg rfl (bv ((Cp ys (Bf size:Int)).take k)) 8 Al))) (Ab 1 (Ah (v:=nV .u64 (((Cp ys (Bf size:Int)).getD k 0).toNat)) ((Ys.p (v:=.int .u64 (Cg .u64 (((Cp ys (Bf size:Int)).getD k 0).toNat:Int)))).conseq (Af (Cc Ag Ag))) (Ah (v:=nV .u64 ((((bv ((Cp ys (Bf size:Int)).take k))*256)%18446744073709551616)|||(((Cp ys (Bf size:Int)).getD k 0).toNat))) ((Ys.p (v:=.int .u64 (bor .u64 ((((bv ((Cp ys (Bf size:Int)).take k))*256)%18446744073709551616:Nat):Int) (((Cp ys (Bf size:Int)).getD k 0).toNat:Int)))).conseq (Af (Im rfl H0 H0))) (Ab 1 ?_))))
  refine Ac (hK20 _ _ _ (Aa (Ah (v:=nV .i64 (k+1)) ((Ys.p (v:=.int .i64 (Bt .i64 (k:Int) 1))).conseq (Af (A6 Ag Ag Ag))) (Ab 1 ?_))))
  refine Ac ?_
  refine fun w_ h_=>hJ12 (k+1) _ w_ Ag Pt ?_ h_
  refine Eq.trans (b:=([nV .u64 ((((bv ((Cp ys (Bf size:Int)).take k))*256)%18446744073709551616)|||(((Cp ys (Bf size:Int)).getD k 0).toNat)),Value.slice eg4.g.a ((Cp ys (Bf size:Int)).length) eg4.g.cap,nV .i64 ((Cp ys (Bf size:Int)).length),nV .i64 (k+1)]:List Value)) Ae (by rw[Alp Ag Ag])
 ·have qh18:=h18;try simp only[zA]at qh18
  refine Cr (hK2 _ _ _ (Ap [0] Al rfl (Ad (fun K26 hK26=>Aa ?_))))
  refine Ab 2 (Ac (hK26 _ _ _ (Aq (fn:=Tryz.f132) rfl (fun w_ hS_=>Bb rfl (Aw (nV .u64 (bv ((Cp ys (Bf size:Int)).take k)))) hS_ ⟨⟨eg4.a,eg4.cap⟩,⟨hv6,hc7⟩,congrArg Ending.returned ((by dsimp only;rw[List.take_of_length_le Ag])),hS_⟩))))
theorem W4(ys:List UInt8)(a:Option Addr)(len cap:Nat)(bad:Bool)(b:Nat)(w:World)(hn:len=ys.length)(hl:Mem w [b] [[cb b [.slice a len cap,.bool bad] 283]] w)(hat:At w a (Ci ys)):Calls Tryz.prog 136 #[.pointer (some ⟨b,0,none⟩)] w (Dc w (.int .i64 (len:Int))):=by
  subst hn;exact Calls.mono (Ah8 ys a cap bad b w hl hat) (fun e w' h=>Ahg hl A5 h)
theorem Mn(xs:List UInt8)(a:Option Addr)(len cap:Nat)(w:World)(hn:len=xs.length)(hat:At w a (Ci xs))(hl:xs.length≤70368744177664):Calls Tryz.prog 131 #[.slice a len cap] w (Bj w (fun x:NE=>x.g.ok 1 xs.length) (fun x=>.pointer (some ⟨x.b,0,none⟩)) [] (fun x=>[[cb x.b [.slice x.g.a xs.length x.g.cap,.bool false] 283],x.g.seg 5 (Ci xs)])):=by
  subst hn;exact Aas xs a cap w hat hl
theorem Aer(ys:List UInt8)(a:Option Addr)(len cap:Nat)(bad:Bool)(b:Nat)(size:Int)(w:World)(hn:len=ys.length)(hl:Mem w [b] [[cb b [.slice a len cap,.bool bad] 283]] w)(hat:At w a (Ci ys))(hcap:ys.length≤cap)(hy:ys.length≤70368744177664):
    Calls Tryz.prog 132 #[.pointer (some ⟨b,0,none⟩),.int .i64 size] w (Bj w (fun x:EV=>View x.a (Dd ys (Bf size:Int)) a ys∧(Dd ys (Bf size:Int)).length≤x.cap) (fun x=>.int .u64 (bv (Cp ys (Bf size:Int)):Int)) [b] (fun x=>[[cb b [.slice x.a (Dd ys (Bf size:Int)).length x.cap,.bool (Nf ys bad (Bf size:Int))] 283]])):=by
  subst hn;exact Aia ys a cap bad b size w hl hat hcap hy
theorem Ic(k:Nat):Cm (k:Int)=k:=by unfold Cm D3;split<;>omega
def pw:List UInt8→List Nat
  | []=>[]
  | [x]=>[x.toNat*256]
  |x::y::l=>(x.toNat*256+y.toNat)::pw l
theorem Jn: ∀xs:List UInt8,(pw xs).length=(xs.length+1)/2
  | []=>rfl
  | [x]=>by simp[pw]
  |x::y::l=>by simp only[pw,List.length_cons,Jn l];omega
theorem N0: ∀(xs:List UInt8) (k:Nat),2*k+1<xs.length→(pw xs).getD k 0=(xs.getD (2*k) 0).toNat*256+(xs.getD (2*k+1) 0).toNat
  | [],k,h=>by simp at h
  | [_],k,h=>by simp at h
  |x::y::l,0,h=>by simp[pw]
  |x::y::l,k+1,h=>by
    have:=N0 l k (by simp at h;omega)
    simp only[pw,List.getD_cons_succ,this,show 2*(k+1)=2*k+1+1 by omega,show 2*k+1+1+1=2*k+1+1+1 by rfl]
theorem N1: ∀(xs:List UInt8) (k:Nat),2*k+1=xs.length→(pw xs).getD k 0=(xs.getD (2*k) 0).toNat*256
  | [],k,h=>by simp at h
  | [x],k,h=>by
    obtain rfl:k=0:=by simp at h;omega
    simp[pw]
  |x::y::l,0,h=>by simp at h
  |x::y::l,k+1,h=>by
    have:=N1 l k (by simp at h;omega)
    simp only[pw,List.getD_cons_succ,this,show 2*(k+1)=2*k+1+1 by omega]
theorem W5(xs:List UInt8)(k:Nat):(pw xs).getD k 0<65536:=by
  by_cases h:k<(pw xs).length
  · have hl:=Jn xs
    rcases Nat.lt_or_ge (2*k+1) xs.length with h1|h1
    · rw[N0 xs k h1]
      have:=UInt8.toNat_lt (xs.getD (2*k) 0);have:=UInt8.toNat_lt (xs.getD (2*k+1) 0);omega
    · rw[N1 xs k Ag]
      have:=UInt8.toNat_lt (xs.getD (2*k) 0);omega
  · rw[List.getD_eq_getElem?_getD,List.getElem?_eq_none Ag];decide
theorem Aav(a:Option Addr)(len cap:Nat)(w:World):Calls Tryz.prog 177 #[sL a len cap] w (Bj w (fun _:Nat=>True) (fun b=>.func (.func 185) #[] #[.pointer (some ⟨b,0,none⟩)]) [] (fun b=>[[cb b [.slice a len cap] 38]])):=by
 refine Ar (M:=[]) (LL:=[]) (n:=4) Tryz.func177 rfl rfl A5 (Mem.refl _) (Ad (fun K1 hK1=>?_))
 refine Aa (Ai rfl (Fl (v:=sL a len cap) (cs:=[sL a len cap]) rfl rfl Ae rfl) (fun p1=>?_))
 refine Ab 1 (Ac (hK1 _ _ _ (Ad (fun K3 hK3=>Aa ?_))))
 refine Ab 2 (Ac (hK3 _ _ _ (Aq (fn:=Tryz.f177) rfl (fun w_ hS_=>Bb rfl (Aw (Value.func (.func 185) #[] #[pV p1 0])) hS_ ⟨p1,trivial,rfl,hS_⟩))))
theorem Aes{xs:List UInt8}{k:Nat}(h:2*k<xs.length):(pw xs).take (k+1)=(pw xs).take k++[(pw xs).getD k 0]:=by
  have hl:=Jn xs
  have hk:k<(pw xs).length:=by omega
  rw[List.take_add_one];simp[hk]
theorem Alq{xs:List UInt8}{k:Nat}(h:2*k+1<xs.length):(xs.getD (2*k) 0).toNat*256%65536|||(xs.getD (2*k+1) 0).toNat=(pw xs).getD k 0:=by
  have h1:=UInt8.toNat_lt (xs.getD (2*k) 0);have h2:=UInt8.toNat_lt (xs.getD (2*k+1) 0)
  rw[N0 xs k h,Nat.mod_eq_of_lt Ag,show(xs.getD (2*k) 0).toNat*256=(xs.getD (2*k) 0).toNat*2^8 by rfl,U4 h2]
theorem Aet{xs:List UInt8}{k:Nat}(h:2*k<xs.length)(h1: ¬2*k+1<xs.length):(xs.getD (2*k) 0).toNat*256%65536=(pw xs).getD k 0:=by
  have h2:=UInt8.toNat_lt (xs.getD (2*k) 0)
  rw[N1 xs k Ag,Nat.mod_eq_of_lt Ag]
theorem Aib{xs:List UInt8}{k:Nat}(h:2*k+1<xs.length):(256*(xs.getD (2*k) 0).toNat%65536+(xs.getD (2*k+1) 0).toNat)%65536=(pw xs).getD k 0:=by
  have h1:=UInt8.toNat_lt (xs.getD (2*k) 0);have h2:=UInt8.toNat_lt (xs.getD (2*k+1) 0)
  rw[N0 xs k h];omega
theorem Aaw{xs:List UInt8}{k:Nat}(h:2*k<xs.length)(h1: ¬2*k+1<xs.length):256*(xs.getD (2*k) 0).toNat%65536=(pw xs).getD k 0:=by
  have h2:=UInt8.toNat_lt (xs.getD (2*k) 0)
  rw[N1 xs k Ag];omega
theorem Aax(xs:List UInt8)(a:Option Addr)(cap:Nat)(w:World)(hat:At w a (Ci xs))(hy:xs.length≤1000000000):Calls Tryz.prog 158 #[sL a xs.length cap] w (Bj w (fun g:FS=>g.ok 1 (pw xs).length) (fun g=>.slice g.a (pw xs).length g.cap) [] (fun g=>[g.seg 22 (mc Y7 (pw xs))])):=by
 refine Ar (M:=[]) (LL:=[]) (n:=37) Tryz.func158 rfl rfl A5 (Mem.refl _) (Ad (fun K1 hK1=>?_))
 refine Aa (Ab 1 (Ac (hK1 _ _ _ (Ad (fun K2 hK2=>?_)))))
 refine Aa (Ai rfl (Bd (mk:=fun b_=>.slice (some ⟨b_,0,none⟩) 0 0) (t:=22) (cs:=[]) rfl (fun _=>kr)) (fun p6=>?_))
 refine Ab 1 (Ac (hK2 _ _ _ (Ad (fun K4 hK4=>Ad (fun K5 hK5=>?_)))))
 refine Aa (Ab 1 (Ac (hK5 _ _ _ (W.block ?_))))
 refine E6 [0,3,4] (fun(k:Nat) (h:FS)=>[Value.slice a xs.length cap,Value.slice h.a k h.cap,nV .i64 (2*k)]) (fun(k:Nat) (h:FS)=>k≤(pw xs).length∧h.ok 1 k) (fun(k:Nat) (h:FS)=>[h.seg 22 (mc Y7 ((pw xs).take k))]) (fun(k:Nat) (h:FS)=>(pw xs).length-k) 0 ⟨false,p6,0,[]⟩ (Eq.trans (b:=([Value.slice a xs.length cap,Value.slice (some ⟨p6,0,none⟩) 0 0,iV .i64 0]:List Value)) Ae (by simp[FS.a])) ⟨(Nat.zero_le _),(Dp Al)⟩ (by simp[mc,FS.seg]) (fun k h f7 J6 hp8 hJ6=>?_)
 obtain⟨hk,okh⟩:=hp8
 have hpl:=Jn xs
 refine Ad (fun K9 hK9=>Ad (fun K10 hK10=>?_))
 refine Aa (Ab 4 (Ac (hK10 _ _ _ ?_)))
 refine Ao (decide (((2*k:Nat):Int)<(xs.length:Int))) Ae (fun h12=>?_) (fun h13=>?_)
 ·have qh12:=h12;try simp only[zA]at qh12
  refine Ak (hK9 _ _ _ (Ad (fun K15 hK15=>W.block (Ad (fun K16 hK16=>?_)))))
  refine Aa (Ab 2 (Ah (v:=pL (some (Co a ((2*k)*1)))) (Bm fun w_ h_=>Av (k:=.i64) (a:=a) (len:=xs.length) (cap:=cap) (i:=((2*k:Nat):Int)) (sz:=1) rfl Ae Ae Tryz.runUnderlying38 Tryz.sizeOf5 Ag Ag ((hat.mem0 h_).here Hj)) (Ah (v:=nV .u8 ((xs.getD (2*k) 0).toNat)) (Ys.ld (a:=Co a ((2*k)*1)) rfl Ae Tryz.isAgg5 (fun w_ h_=>(hat.mem0 h_).ld (Fm 0 Ex))) ?_)))
  have hb17:(xs.getD (2*k) 0).toNat<256:=UInt8.toNat_lt _
  refine Ah (v:=nV .u16 ((xs.getD (2*k) 0).toNat)) ((Ys.p (v:=.int .u16 (Cg .u16 ((xs.getD (2*k) 0).toNat:Int)))).conseq (Af (Ej Ag Ag))) (Ah (v:=nV .u16 ((256*((xs.getD (2*k) 0).toNat))%65536)) ((Ys.p (v:=.int .u16 (Ld .u16 ((256:Nat):Int) ((xs.getD (2*k) 0).toNat:Int)))).conseq (Af (Tm rfl))) (Ab 1 (Ac (hK16 _ _ _ ?_))))
  refine Ad (fun K19 hK19=>?_)
  refine Nm (w0:=w) (M:=[]) K19 [0,3,4,5] ([sL a xs.length cap,sL h.a k h.cap,nV .i64 (2*k),nV .u16 ((pw xs).getD k 0)]) (True) ([h.seg 22 (mc Y7 ((pw xs).take k))]) (fun J20 hJ20=>?_) (fun f21 hp22=>?_)
  ·refine Ad (fun K23 hK23=>Aa (Ab 3 (Ah (v:=iV .i64 (((xs.length:Nat):Int)-1)) ((Ys.p (v:=.int .i64 (Hk .i64 (xs.length:Int) 1))).conseq (Af (Er rfl Ag Ag))) (Ab 1 ?_))))
   refine Ac (hK23 _ _ _ ?_)
   refine Ao (decide (((2*k:Nat):Int)<(((xs.length:Nat):Int)-1))) Ae (fun h25=>?_) (fun h26=>?_)
   ·have qh25:=h25;try simp only[zA]at qh25
    refine Aa (Ab 3 (Ah (v:=nV .i64 ((2*k)+1)) ((Ys.p (v:=.int .i64 (Bt .i64 ((2*k:Nat):Int) 1))).conseq (Af (A6 Ag Ag Ag))) (Ah (v:=pL (some (Co a (((2*k)+1)*1)))) (Bm fun w_ h_=>Av (k:=.i64) (a:=a) (len:=xs.length) (cap:=cap) (i:=(((2*k)+1:Nat):Int)) (sz:=1) rfl Ae Ae Tryz.runUnderlying38 Tryz.sizeOf5 Ag Ag ((hat.mem0 h_).here Hj)) (Ah (v:=nV .u8 ((xs.getD ((2*k)+1) 0).toNat)) (Ys.ld (a:=Co a (((2*k)+1)*1)) rfl Ae Tryz.isAgg5 (fun w_ h_=>(hat.mem0 h_).ld (Fm 0 Ex))) ?_))))
    have hb27:(xs.getD ((2*k)+1) 0).toNat<256:=UInt8.toNat_lt _
    refine Ah (v:=nV .u16 ((xs.getD ((2*k)+1) 0).toNat)) ((Ys.p (v:=.int .u16 (Cg .u16 ((xs.getD ((2*k)+1) 0).toNat:Int)))).conseq (Af (Ej Ag Ag))) (Ah (v:=nV .u16 ((((256*((xs.getD (2*k) 0).toNat))%65536)+((xs.getD ((2*k)+1) 0).toNat))%65536)) ((Ys.p (v:=.int .u16 (Bt .u16 (((256*((xs.getD (2*k) 0).toNat))%65536:Nat):Int) ((xs.getD ((2*k)+1) 0).toNat:Int)))).conseq (Af (Tl rfl))) (Ab 1 (Ac ?_)))
    refine fun w_ h_=>hJ20 _ w_ trivial ?_ h_
    refine Eq.trans (b:=([Value.slice a xs.length cap,Value.slice h.a k h.cap,nV .i64 (2*k),nV .u16 ((((256*((xs.getD (2*k) 0).toNat))%65536)+((xs.getD ((2*k)+1) 0).toNat))%65536)]:List Value)) Ae (by rw[Aib Ag])
   ·have qh26:=h26;try simp only[zA]at qh26
    refine Ak ?_
    refine fun w_ h_=>hJ20 _ w_ trivial ?_ h_
    refine Eq.trans (b:=([Value.slice a xs.length cap,Value.slice h.a k h.cap,nV .i64 (2*k),nV .u16 ((256*((xs.getD (2*k) 0).toNat))%65536)]:List Value)) Ae (by rw[Aaw Ag Ag])
  ·refine hK19 _ _ _ (Aa (Ab 2 (Ai rfl (Bd (mk:=fun b_=>.slice (some ⟨b_,0,none⟩) 1 1) (t:=22) (cs:=[nV .u16 ((pw xs).getD k 0)]) rfl (fun _=>kr)) (fun p34=>Ax rfl (HtS.append (eu:=22) (xv:=Value.slice (some ⟨p34,0,none⟩) 1 1) (i:=1) (g:=h) (e:=22) (ii:=(Tryz.prog.info? 22).getD default) (z:=iV .u16 0) (sz:=1) (bytes:=2) (nn:=k) (m:=1) (k:=k+1) (xs:=mc Y7 ((pw xs).take k)) (news:=mc Y7 [(pw xs).getD k 0]) (cs':=mc Y7 (((pw xs).take k)++[(pw xs).getD k 0])) (Lo:=fun g28=>[[cb p34 [nV .u16 ((pw xs).getD k 0)] 22],g28.seg 22 (mc Y7 (((pw xs).take k)++[(pw xs).getD k 0]))]) rfl rfl Ae Ae Ae Ae Ae Ae Ae Ae Ae rfl okh (by simp[mc];omega) (fun _=>rfl) (Src.at (a:=some ⟨p34,0,none⟩) S8 (fun w_ h_=>(Az (i:=0) (j:=0) (t:=22) (b:=p34) h_ rfl rfl))) S8 (Dl (fun _=>rfl) _) Ef Gv Ef (E1 _ _) (fun _=>rfl)) (fun g28 hx33=>?_)))))
   obtain⟨ok29,hn30,hn31⟩:=hx33
   refine Ab 1 (Ac (hK15 _ _ _ (Ap [1] Al rfl (Aa ?_))))
   refine Ab 1 (Ah (v:=nV .i64 ((2*k)+2)) ((Ys.p (v:=.int .i64 (Bt .i64 ((2*k:Nat):Int) 2))).conseq (Af (A6 Ag Ag Ag))) (Ab 1 (Ac ?_)))
   refine fun w_ h_=>hJ6 (k+1) g28 _ w_ Ag ⟨Ag,(by simpa using ok29)⟩ ?_ (Mem.cast (LL:=[g28.seg 22 (mc Y7 (((pw xs).take k)++[(pw xs).getD k 0]))]) (by rw[Aes Ag]) h_)
   refine Eq.trans (b:=([Value.slice a xs.length cap,sV g28 (k+1),nV .i64 ((2*k)+2)]:List Value)) Ae (by simp;try omega)
 ·have qh13:=h13;try simp only[zA]at qh13
  refine Cr (hK4 _ _ _ (Ad (fun K36 hK36=>Aa (Ab 2 ?_))))
  refine Ac (hK36 _ _ _ (Aq (fn:=Tryz.f158) rfl (fun w_ hS_=>Bb rfl (Aw (sL h.a k h.cap)) hS_ ⟨h,(by have hk2:(pw xs).length=k:=Ag;rw[hk2];exact okh),congrArg Ending.returned ((by have hk2:(pw xs).length=k:=Ag;rw[hk2])),(Mem.cast (by rw[List.take_of_length_le Ag]) hS_)⟩)))
theorem Yb(xs:List UInt8)(a:Option Addr)(len cap:Nat)(w:World)(hn:len=xs.length)(hat:At w a (Ci xs))(hy:xs.length≤1000000000):Calls Tryz.prog 158 #[.slice a len cap] w (Bj w (fun g:FS=>g.ok 1 (pw xs).length) (fun g=>.slice g.a (pw xs).length g.cap) [] (fun g=>[g.seg 22 (mc Y7 (pw xs))])):=by
  subst hn;exact Aax xs a cap w hat hy
structure SV where
  a:Option Addr
  xs:List UInt8
  cap:Nat
instance :Inhabited SV:=⟨⟨none,[],0⟩⟩
abbrev Ng(p:SV):Value:=.slice p.a p.xs.length p.cap
def jn(ps:List SV):List UInt8:=(ps.map (·.xs)).flatten
theorem J4{ps:List SV}{k:Nat}(h:k<ps.length):jn (ps.take (k+1))=jn (ps.take k)++(ps.getD k default).xs:=by
  unfold jn;rw[List.take_add_one,List.map_append,List.flatten_append];simp[h]
theorem F4(ps:List SV)(k:Nat):(jn (ps.take k)).length≤(jn ps).length:=by
  have:jn ps=jn (ps.take k)++jn (ps.drop k):=by unfold jn;rw[←List.flatten_append,←List.map_append,List.take_append_drop]
  rw[this,List.length_append];omega
theorem Aay{ps:List SV}{k:Nat}(h:ps.length≤k):jn (ps.take k)=jn ps:=by rw[List.take_of_length_le h]
theorem Vc{ps:List SV}(h:ps.length=1):jn ps=(ps.getD 0 default).xs:=by
  match ps,h with
  | [p],_=>simp[jn]
theorem Ub{ps:List SV}(h:0<ps.length):jn (ps.take 1)=(ps.getD 0 default).xs:=by
  match ps,h with
  |p::_,_=>simp[jn]
theorem Si{ps:List SV}{k:Nat}(h:k<ps.length):ps.getD k default∈ps:=by
  rw[List.getD_eq_getElem?_getD,List.getElem?_eq_getElem h];exact List.getElem_mem h
theorem Hh(ps:List SV)(k:Nat):(ps.drop 1).getD k default=ps.getD (k+1) default:=by
  simp[List.getD_eq_getElem?_getD,List.getElem?_drop,Nat.add_comm]
theorem Aaz{ps:List SV}{k:Nat}(h:k<ps.length):(ps.getD k default).xs.length≤(jn ps).length:=by
  have h1:=congrArg List.length (J4 h)
  have h2:=F4 ps (k+1)
  rw[List.length_append]at h1;omega
theorem Aic{ps:List SV}{k:Nat}(h:k+1<ps.length):(jn (ps.take (k+1))).length+((ps.drop 1).getD k default).xs.length≤(jn ps).length:=by
  rw[Hh]
  have h1:=congrArg List.length (J4 h)
  have h2:=F4 ps (k+1+1)
  rw[List.length_append]at h1;omega
theorem Aa0{zs ys xs:List UInt8}{k:Nat}(h:zs.take k=xs)(hk:k≤zs.length)(hl:k+ys.length≤zs.length):(zs.take k++ys++zs.drop (k+ys.length)).take (k+ys.length)=xs++ys:=by
  have hkl:(zs.take k++ys).length=k+ys.length:=by simp;omega
  rw[←hkl,List.take_left,h]
theorem W6{zs ys xs:List UInt8}{k:Nat}(h:zs.take k=xs):(zs.take k++[]++zs.drop (k+([]:List UInt8).length)).take k++ys++(zs.take k++[]++zs.drop (k+([]:List UInt8).length)).drop (k+ys.length)=zs.take k++ys++zs.drop (k+ys.length):=by
  rw[List.append_nil,List.length_nil,Nat.add_zero,List.take_append_drop]
theorem W7{zs ys:List UInt8}{k:Nat}(hl:k+ys.length≤zs.length):(zs.take k++ys++zs.drop (k+ys.length)).length=zs.length:=by
  simp;omega
theorem Aid(ps:List SV)(pa:Option Addr)(pcap:Nat)(w:World)(hpa:At w pa (mc Ng ps))(hp: ∀p∈ps,At w p.a (Ci p.xs))(htot:(jn ps).length≤1000000000000)(hn:ps.length≤1000000000)(hpc:ps.length≤pcap):Calls Tryz.prog 176 #[sL pa ps.length pcap,sL none 0 0] w (Bj w (fun g:FS=>g.ok 1 (jn ps).length∧(2≤ps.length→g.nil=false)) (fun g=>.slice g.a (jn ps).length g.cap) [] (fun g=>[g.seg 5 (Ci (jn ps))])):=by
 refine Ar (M:=[]) (LL:=[]) (n:=92) Tryz.func176 rfl rfl A5 (Mem.refl _) (Ad (fun K1 hK1=>?_))
 refine Aa (Ab 1 (Ac (hK1 _ _ _ (Ad (fun K2 hK2=>?_)))))
 refine Ad (fun K3 hK3=>Aa (Ab 3 (Ac (hK3 _ _ _ ?_))))
 refine Ao (((ps.length:Nat):Int)==0) Ae (fun h5=>?_) (fun h6=>?_)
 ·have qh5:=h5;try simp only[zA]at qh5
  refine Ad (fun K7 hK7=>Aa (Ai rfl (Bd (mk:=fun b_=>.slice (some ⟨b_,0,none⟩) 0 0) (t:=5) (cs:=[]) rfl (fun _=>kr)) (fun p15=>Ab 1 (Ac ?_))))
  refine hK7 _ _ _ (Aq (fn:=Tryz.f176) rfl (fun w_ hS_=>Bb rfl (Aw (sL (some ⟨p15,0,none⟩) 0 0)) hS_ ⟨⟨false,p15,0,[]⟩,⟨(by rw[List.length_eq_zero_iff.1 (show ps.length=0 by omega)];exact Dp Al),fun _=>rfl⟩,congrArg Ending.returned ((by rw[List.length_eq_zero_iff.1 (show ps.length=0 by omega)];rfl)),(Mem.cast (by rw[List.length_eq_zero_iff.1 (show ps.length=0 by omega)];rfl) hS_)⟩))
 ·have qh6:=h6;try simp only[zA]at qh6
  refine Ak (hK2 _ _ _ (Ad (fun K10 hK10=>Ad (fun K11 hK11=>Aa ?_))))
  refine Ab 3 (Ac (hK11 _ _ _ ?_))
  refine Ao (((ps.length:Nat):Int)==1) Ae (fun h13=>?_) (fun h14=>?_)
  ·have qh13:=h13;try simp only[zA]at qh13
   refine Ad (fun K15 hK15=>Aa (Ab 1 (Ah (v:=pL (some (Co pa 0))) (Bm fun w_ h_=>Av (k:=.i64) (a:=pa) (len:=ps.length) (cap:=pcap) (i:=0) (sz:=1) rfl Ae Ae Tryz.runUnderlying284 Tryz.sizeOf38 Ag Ag ((hpa.mem0 h_).here Hj)) (Ah (v:=sL ((ps.getD 0 default).a) ((ps.getD 0 default).xs.length) ((ps.getD 0 default).cap)) (Ys.ld (a:=Co pa 0) rfl Ae Tryz.isAgg38 (fun w_ h_=>(hpa.mem0 h_).ld (Ez default Ex))) ?_))))
   have hb16:=Aaz (ps:=ps) (k:=0) Ag
   refine Adn (Ax rfl (HtS.append (eu:=5) (xv:=Value.slice ((ps.getD 0 default).a) ((ps.getD 0 default).xs.length) ((ps.getD 0 default).cap)) (i:=0) (g:=FS.nul) (e:=5) (ii:=(Tryz.prog.info? 5).getD default) (z:=iV .u8 0) (sz:=1) (bytes:=1) (nn:=0) (m:=(ps.getD 0 default).xs.length) (k:=(ps.getD 0 default).xs.length) (xs:=mc b8 []) (news:=mc b8 ((ps.getD 0 default).xs)) (cs':=mc b8 ((ps.getD 0 default).xs)) (Lo:=fun g17=>[g17.seg 5 (mc b8 ((ps.getD 0 default).xs))]) rfl rfl Ae Ae Ae Ae Ae Ae Ae Ae Ae rfl (Bw _) (by first|rfl|simp[mc,A8]) (fun _=>rfl) (Src.at (a:=(ps.getD 0 default).a) S8 (fun w_ h_=>((hp _ (Si Ag)).mem0 h_))) S8 (Dl (fun _=>rfl) _) Ef Gv Ef rfl (fun _=>rfl)) (fun g17 hx22=>?_))
   obtain⟨ok18,hn19,hn20⟩:=hx22
   refine Ab 1 (Ac (hK15 _ _ _ (Aq (fn:=Tryz.f176) rfl (fun w_ hS_=>Bb rfl (Aw (sV g17 ((ps.getD 0 default).xs.length))) hS_ ⟨g17,⟨(by rw[Vc Ag];exact ok18),fun h=>absurd h Ag⟩,congrArg Ending.returned ((by rw[Vc Ag])),(Mem.cast (by rw[Vc Ag]) hS_)⟩))))
  ·have qh14:=h14;try simp only[zA]at qh14
   refine Ak (hK10 _ _ _ (Ad (fun K25 hK25=>Aa (Ab 1 ?_))))
   refine Ac (hK25 _ _ _ (Ad (fun K26 hK26=>Ad (fun K27 hK27=>Aa ?_))))
   refine Ab 3 (Ac (hK27 _ _ _ (B4 Ae (Ak ?_))))
   refine hK26 _ _ _ (Ad (fun K30 hK30=>?_))
   refine Ad (fun K31 hK31=>Aa (Ab 3 (Ac (hK31 _ _ _ ?_))))
   refine W.block (Ep [0,1,5,42,43,44] (fun(k:Nat)=>[Value.slice pa ps.length pcap,Value.slice none 0 0,nV .i64 ((jn (ps.take k)).length),Value.slice pa ps.length pcap,nV .i64 ps.length,nV .i64 k]) (fun(k:Nat)=>k≤ps.length) (fun(k:Nat)=>[]) (fun(k:Nat)=>ps.length-k) 0 (Eq.trans (b:=([Value.slice pa ps.length pcap,Value.slice none 0 0,iV .i64 0,Value.slice pa ps.length pcap,nV .i64 ps.length,iV .i64 0]:List Value)) Ae (by simp[jn])) Pt (by rfl) (fun k f34 J33 hp35 hJ33=>?_))
   have hk:=hp35
   have htl:=F4 ps k;have htk:=F4 ps (k+1)
   refine Ad (fun K36 hK36=>Aa (Ab 1 (Ac (hK36 _ _ _ ?_))))
   refine Ad (fun K37 hK37=>?_)
   refine Ao (decide (((k:Nat):Int)<(ps.length:Int))) Ae (fun h38=>?_) (fun h39=>?_)
   ·have qh38:=h38;try simp only[zA]at qh38
    refine Ak (hK37 _ _ _ (Ad (fun K41 hK41=>W.block (Ad (fun K42 hK42=>?_)))))
    refine Aa (Ah (v:=pL (some (Co pa (k*1)))) (Bm fun w_ h_=>Av (k:=.i64) (a:=pa) (len:=ps.length) (cap:=pcap) (i:=(k:Int)) (sz:=1) rfl Ae Ae Tryz.runUnderlying284 Tryz.sizeOf38 Ag Ag ((hpa.mem0 h_).here Hj)) (Ah (v:=sL ((ps.getD k default).a) ((ps.getD k default).xs.length) ((ps.getD k default).cap)) (Ys.ld (a:=Co pa (k*1)) rfl Ae Tryz.isAgg38 (fun w_ h_=>(hpa.mem0 h_).ld (Fm default Ex))) ?_))
    have hb43:=Aaz (ps:=ps) (k:=k) Ag
    refine Ab 1 (Ac (hK42 _ _ _ (Ad (fun K45 hK45=>Ad (fun K46 hK46=>?_)))))
    refine Aa (Ab 3 (Ah (v:=iV .i64 (9223372036854775807-((jn (ps.take k)).length:Int))) ((Ys.p (v:=.int .i64 (Hk .i64 9223372036854775807 ((jn (ps.take k)).length:Int)))).conseq (Af (Er rfl Ag Ag))) (Ab 1 (Ac ?_))))
    refine hK46 _ _ _ ?_
    refine Ao (decide ((((ps.getD k default).xs.length:Nat):Int)>(9223372036854775807-((jn (ps.take k)).length:Int)))) Ae (fun h48=>?_) (fun h49=>?_)
    ·have qh48:=h48;try simp only[zA]at qh48
     (exfalso;have hjs:=congrArg List.length (J4 (ps:=ps) (k:=k) Ag);rw[List.length_append]at hjs;omega)
    ·have qh49:=h49;try simp only[zA]at qh49
     refine Ak (hK45 _ _ _ (Aa (Ab 3 (Ah (v:=nV .i64 (((jn (ps.take k)).length)+((ps.getD k default).xs.length))) ((Ys.p (v:=.int .i64 (Bt .i64 ((jn (ps.take k)).length:Int) ((ps.getD k default).xs.length:Int)))).conseq (Af (A6 Ag Ag Ag))) ?_))))
     refine Ab 1 (Ac (hK41 _ _ _ (Aa (Ah (v:=nV .i64 (k+1)) ((Ys.p (v:=.int .i64 (Bt .i64 (k:Int) 1))).conseq (Af (A6 Ag Ag Ag))) ?_))))
     refine Ab 1 (Ac ?_)
     have hjs:=congrArg List.length (J4 (ps:=ps) (k:=k) Ag);rw[List.length_append]at hjs
     refine fun w_ h_=>hJ33 (k+1) _ w_ Ag Pt ?_ h_
     refine Eq.trans (b:=([Value.slice pa ps.length pcap,Value.slice none 0 0,nV .i64 (((jn (ps.take k)).length)+((ps.getD k default).xs.length)),Value.slice pa ps.length pcap,nV .i64 ps.length,nV .i64 (k+1)]:List Value)) Ae (by rw[hjs])
   ·have qh39:=h39;try simp only[zA]at qh39
    refine Cr (hK30 _ _ _ (Ad (fun K53 hK53=>?_)))
    have hke:(jn (ps.take k)).length=(jn ps).length:=by rw[Aay Ag]
    refine Aa (Ab 1 (Ai rfl (Pw (ps:= #[3]) (t:=38) (e:=5) (k:=(jn (ps.take k)).length) (fid:=184) (fn:=Tryz.f184) rfl rfl Ae Ae Tryz.func184 Ae Ae Ae Ae Ae Ag) (fun x57=>?_)))
    obtain⟨mz54,hz55,hz56⟩:=x57
    refine Bu (LL':=[[cb mz54.b (mc b8 mz54.zs) 5]]) rfl (Ab 2 (Ah (v:=sL (some ⟨mz54.b,0,none⟩) ((jn (ps.take k)).length) ((jn (ps.take k)).length)) (U3 (a:=some ⟨mz54.b,0,none⟩) (len:=(jn (ps.take k)).length) (cap:=mz54.zs.length) (sz:=1) (k:=.i64) (i:=((jn (ps.take k)).length:Int)) (k':=.i64) (j:=((jn (ps.take k)).length:Int)) rfl Ae Ae Ae Tryz.runUnderlying38 Tryz.sizeOf5 Ag Ag Ag) (Ab 1 (Ac ?_))))
    refine hK53 _ _ _ (Ad (fun K59 hK59=>?_))
    refine Aa (Ab 2 (Ah (v:=pL (some (Co pa 0))) (Bm fun w_ h_=>Av (k:=.i64) (a:=pa) (len:=ps.length) (cap:=pcap) (i:=0) (sz:=1) rfl Ae Ae Tryz.runUnderlying284 Tryz.sizeOf38 Ag Ag ((hpa.mem0 h_).here Hj)) (Ah (v:=sL ((ps.getD 0 default).a) ((ps.getD 0 default).xs.length) ((ps.getD 0 default).cap)) (Ys.ld (a:=Co pa 0) rfl Ae Tryz.isAgg38 (fun w_ h_=>(hpa.mem0 h_).ld (Ez default Ex))) ?_)))
    have hb60:=Aaz (ps:=ps) (k:=0) Ag
    refine Ai rfl (Ry (dl:=(jn (ps.take k)).length) (dc:=(jn (ps.take k)).length) (m:=(ps.getD 0 default).xs.length) (q:=(ps.getD 0 default).xs.length) (sz:=1) (o':=0) (i:=0) (j:=0) (e:=5) (ii:=(Tryz.prog.info? 5).getD default) (b:=mz54.b) (t:=5) (xv:=Value.slice ((ps.getD 0 default).a) ((ps.getD 0 default).xs.length) ((ps.getD 0 default).cap)) (cs:=mc b8 mz54.zs) (news:=mc b8 ((ps.getD 0 default).xs)) (cs':=mc b8 (mz54.zs.take 0++((ps.getD 0 default).xs)++mz54.zs.drop (0+((ps.getD 0 default).xs).length))) (LL':=[[cb mz54.b (mc b8 (mz54.zs.take 0++((ps.getD 0 default).xs)++mz54.zs.drop (0+((ps.getD 0 default).xs).length))) 5]]) rfl rfl Ae Ae Ae Ae Ae rfl rfl (fun _=>rfl) (by show min _ _=_;first|omega|(simp;omega)) (Src.at (a:=(ps.getD 0 default).a) S8 (fun w_ h_=>((hp _ (Si Ag)).mem0 h_))) Ac4 (Dl (fun _=>rfl) _) (Zt (g:=b8) mz54.zs ((ps.getD 0 default).xs) 0) rfl) (fun _=>Ab 1 (Ac (hK59 _ _ _ (Ad (fun K62 hK62=>?_)))))
    refine Ad (fun K63 hK63=>Aa (Ab 1 (Ah (v:=sL (C8 pa pcap 1 1) (ps.length-1) (pcap-1)) (Bk (a:=pa) (len:=ps.length) (cap:=pcap) (sz:=1) (k:=.i64) (i:=1) rfl Ae Ae Tryz.runUnderlying284 Tryz.sizeOf38 Ag Ag) (Ab 2 ?_))))
    refine Ac (hK63 _ _ _ (W.block (E6 [1,8,9,70,71,72] (fun(m:Nat) (zs:List UInt8)=>[Value.slice none 0 0,Value.slice (some ⟨mz54.b,0,none⟩) ((jn (ps.take k)).length) ((jn (ps.take k)).length),nV .i64 ((jn (ps.take (m+1))).length),Value.slice (C8 pa pcap 1 1) (ps.length-1) (pcap-1),nV .i64 (ps.length-1),nV .i64 m]) (fun(m:Nat) (zs:List UInt8)=>m+1≤ps.length∧zs.length=mz54.zs.length∧zs.take (jn (ps.take (m+1))).length=jn (ps.take (m+1))) (fun(m:Nat) (zs:List UInt8)=>[[cb mz54.b (mc b8 zs) 5]]) (fun(m:Nat) (zs:List UInt8)=>ps.length-m) 0 (mz54.zs.take 0++((ps.getD 0 default).xs)++mz54.zs.drop (0+((ps.getD 0 default).xs).length)) (Eq.trans (b:=([Value.slice none 0 0,Value.slice (some ⟨mz54.b,0,none⟩) ((jn (ps.take k)).length) ((jn (ps.take k)).length),nV .i64 ((ps.getD 0 default).xs.length),Value.slice (C8 pa pcap 1 1) (ps.length-1) (pcap-1),nV .i64 (ps.length-1),iV .i64 0]:List Value)) Ae (by rw[Nat.zero_add,Ub Ag];rfl)) ⟨Ag,(W7 (k:=0) Ag),(by rw[Ub Ag];simp)⟩ (by rfl) (fun m zs f66 J65 hp67 hJ65=>?_))))
    obtain⟨hm,hzl,hzt⟩:=hp67
    have htl2:=F4 ps (m+1);have htk2:=F4 ps (m+1+1)
    refine Ad (fun K68 hK68=>Aa (Ab 1 (Ac (hK68 _ _ _ ?_))))
    refine Ad (fun K69 hK69=>?_)
    refine Ao (decide (((m:Nat):Int)<((ps.length-1:Nat):Int))) Ae (fun h70=>?_) (fun h71=>?_)
    ·have qh70:=h70;try simp only[zA]at qh70
     refine Ak (hK69 _ _ _ (Ad (fun K73 hK73=>W.block (Ad (fun K74 hK74=>?_)))))
     refine Aa (Ah (v:=pL (some (Co (C8 pa pcap 1 1) (m*1)))) (Bm fun w_ h_=>Av (k:=.i64) (a:=C8 pa pcap 1 1) (len:=ps.length-1) (cap:=pcap-1) (i:=(m:Int)) (sz:=1) rfl Ae Ae Tryz.runUnderlying284 Tryz.sizeOf38 Ag Ag (((hpa.mem0 h_).mdrop pcap 1 Ag).here Hj)) (Ah (v:=sL (((ps.drop 1).getD m default).a) (((ps.drop 1).getD m default).xs.length) (((ps.drop 1).getD m default).cap)) (Ys.ld (a:=Co (C8 pa pcap 1 1) (m*1)) rfl Ae Tryz.isAgg38 (fun w_ h_=>((hpa.mem0 h_).mdrop pcap 1 Ag).ld (Fm default Ex))) ?_))
     have hb75:=Aic (ps:=ps) (k:=m) Ag
     refine Ab 1 (Ac (hK74 _ _ _ (Ad (fun K77 hK77=>Aa ?_))))
     refine Ab 3 (Ah (v:=Value.slice (C8 (some ⟨mz54.b,0,none⟩) ((jn (ps.take k)).length) ((jn (ps.take (m+1))).length) 1) (((jn (ps.take k)).length)-((jn (ps.take (m+1))).length)) (((jn (ps.take k)).length)-((jn (ps.take (m+1))).length))) (Bk (a:=some ⟨mz54.b,0,none⟩) (len:=(jn (ps.take k)).length) (cap:=(jn (ps.take k)).length) (sz:=1) (k:=.i64) (i:=((jn (ps.take (m+1))).length:Int)) rfl Ae Ae Tryz.runUnderlying38 Tryz.sizeOf5 Ag Ag) (Ab 1 (Ai rfl (Ck (cap:=((jn (ps.take k)).length)) (dl:=((jn (ps.take k)).length)-((jn (ps.take (m+1))).length)) (dc:=((jn (ps.take k)).length)-((jn (ps.take (m+1))).length)) (m:=0) (q:=0) (sz:=1) (o':=(jn (ps.take (m+1))).length) (i:=0) (j:=0) (e:=5) (ii:=(Tryz.prog.info? 5).getD default) (b:=mz54.b) (t:=5) (xv:=Value.slice none 0 0) (cs:=mc b8 zs) (news:=mc b8 []) (cs':=mc b8 (zs.take ((jn (ps.take (m+1))).length)++[]++zs.drop ((jn (ps.take (m+1))).length+[].length))) (LL':=[[cb mz54.b (mc b8 (zs.take ((jn (ps.take (m+1))).length)++[]++zs.drop ((jn (ps.take (m+1))).length+[].length))) 5]]) rfl rfl Ae Ae Ae Ae Ag Ae rfl rfl (fun _=>rfl) (by show min _ _=_;first|omega|(simp;omega)) (Src.at (a:=none) (by simp[mc]) (fun _ _=>At.nil _ _)) S8 Ac4 (Dl (fun _=>rfl) _) (Np (g:=b8) zs [] ((jn (ps.take (m+1))).length)) rfl) (fun _=>Ah (v:=nV .i64 (((jn (ps.take (m+1))).length)+0)) ((Ys.p (v:=.int .i64 (Bt .i64 ((jn (ps.take (m+1))).length:Int) 0))).conseq (Af (A6 Ag Ag Ag))) ?_))))
     refine Ab 1 (Ac (hK77 _ _ _ (Aa (Ab 3 ?_))))
     refine Ah (v:=Value.slice (C8 (some ⟨mz54.b,0,none⟩) ((jn (ps.take k)).length) (((jn (ps.take (m+1))).length)+0) 1) (((jn (ps.take k)).length)-(((jn (ps.take (m+1))).length)+0)) (((jn (ps.take k)).length)-(((jn (ps.take (m+1))).length)+0))) (Bk (a:=some ⟨mz54.b,0,none⟩) (len:=(jn (ps.take k)).length) (cap:=(jn (ps.take k)).length) (sz:=1) (k:=.i64) (i:=((((jn (ps.take (m+1))).length)+0:Nat):Int)) rfl Ae Ae Tryz.runUnderlying38 Tryz.sizeOf5 Ag Ag) (Ab 1 (Ai rfl (Ck (cap:=((jn (ps.take k)).length)) (dl:=((jn (ps.take k)).length)-(((jn (ps.take (m+1))).length)+0)) (dc:=((jn (ps.take k)).length)-(((jn (ps.take (m+1))).length)+0)) (m:=((ps.drop 1).getD m default).xs.length) (q:=((ps.drop 1).getD m default).xs.length) (sz:=1) (o':=((jn (ps.take (m+1))).length)+0) (i:=0) (j:=0) (e:=5) (ii:=(Tryz.prog.info? 5).getD default) (b:=mz54.b) (t:=5) (xv:=Value.slice (((ps.drop 1).getD m default).a) (((ps.drop 1).getD m default).xs.length) (((ps.drop 1).getD m default).cap)) (cs:=mc b8 (zs.take ((jn (ps.take (m+1))).length)++[]++zs.drop ((jn (ps.take (m+1))).length+[].length))) (news:=mc b8 (((ps.drop 1).getD m default).xs)) (cs':=mc b8 ((zs.take ((jn (ps.take (m+1))).length)++[]++zs.drop ((jn (ps.take (m+1))).length+[].length)).take (((jn (ps.take (m+1))).length)+0)++(((ps.drop 1).getD m default).xs)++(zs.take ((jn (ps.take (m+1))).length)++[]++zs.drop ((jn (ps.take (m+1))).length+[].length)).drop (((jn (ps.take (m+1))).length)+0+(((ps.drop 1).getD m default).xs).length))) (LL':=[[cb mz54.b (mc b8 ((zs.take ((jn (ps.take (m+1))).length)++[]++zs.drop ((jn (ps.take (m+1))).length+[].length)).take (((jn (ps.take (m+1))).length)+0)++(((ps.drop 1).getD m default).xs)++(zs.take ((jn (ps.take (m+1))).length)++[]++zs.drop ((jn (ps.take (m+1))).length+[].length)).drop (((jn (ps.take (m+1))).length)+0+(((ps.drop 1).getD m default).xs).length))) 5]]) rfl rfl Ae Ae Ae Ae Ag Ae rfl rfl (fun _=>rfl) (by show min _ _=_;first|omega|(simp;omega)) (Src.at (a:=((ps.drop 1).getD m default).a) S8 (fun w_ h_=>((hp _ (by rw[Hh];exact Si Ag)).mem0 h_))) S8 Ac4 (Dl (fun _=>rfl) _) (Np (g:=b8) (zs.take ((jn (ps.take (m+1))).length)++[]++zs.drop ((jn (ps.take (m+1))).length+[].length)) (((ps.drop 1).getD m default).xs) (((jn (ps.take (m+1))).length)+0)) rfl) (fun _=>Ah (v:=nV .i64 ((((jn (ps.take (m+1))).length)+0)+(((ps.drop 1).getD m default).xs.length))) ((Ys.p (v:=.int .i64 (Bt .i64 ((((jn (ps.take (m+1))).length)+0:Nat):Int) (((ps.drop 1).getD m default).xs.length:Int)))).conseq (Af (A6 Ag Ag Ag))) (Ab 1 ?_))))
     refine Ac (hK73 _ _ _ (Aa (Ah (v:=nV .i64 (m+1)) ((Ys.p (v:=.int .i64 (Bt .i64 (m:Int) 1))).conseq (Af (A6 Ag Ag Ag))) (Ab 1 ?_))))
     refine Ac ?_
     have hjs:=congrArg List.length (J4 (ps:=ps) (k:=m+1) Ag);rw[List.length_append]at hjs
     refine fun w_ h_=>hJ65 (m+1) ((zs.take ((jn (ps.take (m+1))).length)++[]++zs.drop ((jn (ps.take (m+1))).length+[].length)).take (((jn (ps.take (m+1))).length)+0)++(((ps.drop 1).getD m default).xs)++(zs.take ((jn (ps.take (m+1))).length)++[]++zs.drop ((jn (ps.take (m+1))).length+[].length)).drop (((jn (ps.take (m+1))).length)+0+(((ps.drop 1).getD m default).xs).length)) _ w_ Ag ⟨Ag,(by rw[Hh,Nat.add_zero (jn (ps.take (m+1))).length,W6 hzt];exact(W7 Ag).trans hzl),(by rw[Hh,Nat.add_zero (jn (ps.take (m+1))).length,W6 hzt,hjs,Aa0 hzt Ag Ag,J4 (k:=m+1) Ag])⟩ ?_ h_
     refine Eq.trans (b:=([Value.slice none 0 0,Value.slice (some ⟨mz54.b,0,none⟩) ((jn (ps.take k)).length) ((jn (ps.take k)).length),nV .i64 ((((jn (ps.take (m+1))).length)+0)+(((ps.drop 1).getD m default).xs.length)),Value.slice (C8 pa pcap 1 1) (ps.length-1) (pcap-1),nV .i64 (ps.length-1),nV .i64 (m+1)]:List Value)) Ae (by rw[Hh,Nat.add_zero,hjs])
    ·have qh71:=h71;try simp only[zA]at qh71
     refine Cr (hK62 _ _ _ (Ad (fun K81 hK81=>Aa (Ab 2 ?_))))
     refine Ac (hK81 _ _ _ (Aq (fn:=Tryz.f176) rfl (fun w_ hS_=>Bb rfl (Aw (Value.slice (some ⟨mz54.b,0,none⟩) ((jn (ps.take k)).length) ((jn (ps.take k)).length))) hS_ ⟨⟨false,mz54.b,(jn ps).length,mc b8 (zs.drop (jn ps).length)⟩,⟨⟨fun h=>(by cases h),Nat.le_refl _,by simp only[maxLen];omega,by simp only[Da,List.length_drop];omega⟩,fun _=>rfl⟩,congrArg Ending.returned ((by simp only[hke];rfl)),(Mem.cast (by have he:=Aay (ps:=ps) (k:=m+1) Ag;rw[he]at hzt;show [[cb _ (mc b8 zs) 5]]=[[cb _ (mc b8 (jn ps)++mc b8 (zs.drop (jn ps).length)) 5]];rw[E1];conv=>lhs;rw[←List.take_append_drop (jn ps).length zs,hzt]) hS_)⟩)))
theorem Aeu(ps:List SV)(pa:Option Addr)(pcap:Nat)(w:World)(hpa:At w pa (mc Ng ps))(hp: ∀p∈ps,At w p.a (Ci p.xs))(htot:(jn ps).length≤1000000000000)(hn:ps.length≤1000000000)(hpc:ps.length≤pcap):Calls Tryz.prog 144 #[sL pa ps.length pcap] w (Bj w (fun g:FS=>g.ok 1 (jn ps).length∧(2≤ps.length→g.nil=false)) (fun g=>.slice g.a (jn ps).length g.cap) [] (fun g=>[g.seg 5 (Ci (jn ps))])):=by
 refine Ar (M:=[]) (LL:=[]) (n:=5) Tryz.func144 rfl rfl A5 (Mem.refl _) (Ad (fun K1 hK1=>?_))
 refine Aa (Ab 1 (Ac (hK1 _ _ _ (Ad (fun K2 hK2=>?_)))))
 refine Aa (Ab 1 (Ax rfl (Au [] [] (fun w_ hm_ hl_=>(Aid ps pa pcap _ (hpa.mem0 hm_) (fun p h=>(hp p h).mem0 hm_) htot hn hpc))) (fun g3 hx7=>?_)))
 obtain⟨ok4,nn5⟩:=hx7
 refine Ab 1 (Ac (hK2 _ _ _ (Aq (fn:=Tryz.f144) rfl (fun w_ hS_=>Bb rfl (Aw (sV g3 ((jn ps).length))) hS_ ⟨g3,⟨ok4,nn5⟩,rfl,hS_⟩))))
theorem Ed(ps:List SV)(zs:List UInt8)(pa:Option Addr)(len pcap n:Nat)(w:World)(hl:len=ps.length)(hz:jn ps=zs)(hn':zs.length=n)(hpa:At w pa (mc Ng ps))(hp: ∀p∈ps,At w p.a (Ci p.xs))(htot:n≤1000000000000)(hn:ps.length≤1000000000)(hpc:ps.length≤pcap):
    Calls Tryz.prog 144 #[.slice pa len pcap] w (Bj w (fun g:FS=>g.ok 1 n∧(2≤ps.length→g.nil=false)) (fun g=>.slice g.a n g.cap) [] (fun g=>[g.seg 5 (Ci zs)])):=by
  subst hl;subst hz;subst hn';exact Aeu ps pa pcap w hpa hp htot hn hpc
def b2(ns:List Nat):List UInt8:=(ns.map (be 2)).flatten
theorem be2(n:Nat):be 2 n=[UInt8.ofNat (n/256),UInt8.ofNat n]:=rfl
theorem Vd(xs:List UInt8)(a:Option Addr)(cap:Nat)(p1:Nat)(M:List Nat)(τ:Type)(yv:Value)(U:τ→List Blk)(Φ:Nat→τ→Prop)(Ψ:τ→Prop)(s0:τ)(w:World)(hat:At w a (Ci xs))(hne:0<(Ci xs).length→(a.getD default).block∉M)(hy:xs.length≤1000000000)(hyl:(∀i s (R:List (List Blk)),i<(pw xs).length→Φ i s→Yld Tryz.prog yv ((fun i:Nat=>[Value.int .i64 (i:Int),Value.int .u16 (((pw xs).getD i 0:Nat):Int)]) i).toArray (Mem w M (U s::R)) (fun b w'=> ∃s',(bif b then Φ (i+1) s' else Ψ s')∧Mem w M (U s'::R) w')))(h0:Φ 0 s0)(hl:Mem w M [U s0,[cb p1 [.slice a xs.length cap] 38]] w):Calls Tryz.prog 185 #[yv,pV p1 0] w (Bj w (fun s:τ=>Φ (pw xs).length s∨Ψ s) (fun _=>.tuple #[]) M (fun s=>[U s,[cb p1 [.slice a xs.length cap] 38]])):=by
 refine Ar (M:=M) (LL:=[U s0,[cb p1 [sL a xs.length cap] 38]]) (n:=36) Tryz.func185 rfl rfl A5 (hl) (Ad (fun K1 hK1=>?_))
 refine Aa (Ab 1 (Ac (hK1 _ _ _ (W.block ?_))))
 refine E6 [0,1,3] (fun(k:Nat) (s:τ)=>[yv,pV p1 0,nV .i64 (2*k)]) (fun(k:Nat) (s:τ)=>k≤(pw xs).length∧Φ k s) (fun(k:Nat) (s:τ)=>[U s,[cb p1 [sL a xs.length cap] 38]]) (fun(k:Nat) (s:τ)=>(pw xs).length-k) 0 s0 (Eq.trans (b:=([yv,pV p1 0,iV .i64 0]:List Value)) Ae A5) ⟨(Nat.zero_le _),h0⟩ (by rfl) (fun k s f3 J2 hp4 hJ2=>?_)
 obtain⟨hk,hphi⟩:=hp4
 have hpl:=Jn xs
 refine Ad (fun K5 hK5=>Ad (fun K6 hK6=>?_))
 refine Aa (Ab 1 (Ah (An p1 0 1 0 Tryz.isAgg38) (Ab 2 (Ac ?_))))
 refine hK6 _ _ _ ?_
 refine Ao (decide (((2*k:Nat):Int)<(xs.length:Int))) Ae (fun h8=>?_) (fun h9=>?_)
 ·have qh8:=h8;try simp only[zA]at qh8
  refine Ak (hK5 _ _ _ (Ad (fun K11 hK11=>W.block (Ad (fun K12 hK12=>?_)))))
  refine Aa (Ah (An p1 0 1 0 Tryz.isAgg38) (Ab 1 (Ah (v:=pL (some (Co a ((2*k)*1)))) (Bm fun w_ h_=>Av (k:=.i64) (a:=a) (len:=xs.length) (cap:=cap) (i:=((2*k:Nat):Int)) (sz:=1) rfl Ae Ae Tryz.runUnderlying38 Tryz.sizeOf5 Ag Ag ((hat.mem' h_ hne).here Hj)) (Ah (v:=nV .u8 ((xs.getD (2*k) 0).toNat)) (Ys.ld (a:=Co a ((2*k)*1)) rfl Ae Tryz.isAgg5 (fun w_ h_=>(hat.mem' h_ hne).ld (Fm 0 Ex))) ?_))))
  have hb13:(xs.getD (2*k) 0).toNat<256:=UInt8.toNat_lt _
  refine Ah (v:=nV .u16 ((xs.getD (2*k) 0).toNat)) ((Ys.p (v:=.int .u16 (Cg .u16 ((xs.getD (2*k) 0).toNat:Int)))).conseq (Af (Ej Ag Ag))) (Ah (v:=nV .u16 ((((xs.getD (2*k) 0).toNat)*256)%65536)) ((Ys.p (v:=.int .u16 (Hw .u16 ((xs.getD (2*k) 0).toNat:Int) ((8:Nat):Int)))).conseq (Af (Gg rfl ((xs.getD (2*k) 0).toNat) 8 Al))) (Ab 1 (Ac (hK12 _ _ _ ?_))))
  refine Ad (fun K15 hK15=>?_)
  refine Nm (w0:=w) (M:=M) K15 [0,1,3,4] ([yv,pV p1 0,nV .i64 (2*k),nV .u16 ((pw xs).getD k 0)]) (True) ([U s,[cb p1 [sL a xs.length cap] 38]]) (fun J16 hJ16=>?_) (fun f17 hp18=>?_)
  ·refine Ad (fun K19 hK19=>Aa (Ab 1 (Ah (v:=nV .i64 ((2*k)+1)) ((Ys.p (v:=.int .i64 (Bt .i64 ((2*k:Nat):Int) 1))).conseq (Af (A6 Ag Ag Ag))) (Ah (An p1 0 1 0 Tryz.isAgg38) ?_))))
   refine Ab 2 (Ac (hK19 _ _ _ ?_))
   refine Ao (decide ((((2*k)+1:Nat):Int)<(xs.length:Int))) Ae (fun h21=>?_) (fun h22=>?_)
   ·have qh21:=h21;try simp only[zA]at qh21
    refine Aa (Ab 1 (Ah (An p1 0 1 0 Tryz.isAgg38) (Ab 1 (Ah (v:=nV .i64 ((2*k)+1)) ((Ys.p (v:=.int .i64 (Bt .i64 ((2*k:Nat):Int) 1))).conseq (Af (A6 Ag Ag Ag))) ?_))))
    refine Ah (v:=pL (some (Co a (((2*k)+1)*1)))) (Bm fun w_ h_=>Av (k:=.i64) (a:=a) (len:=xs.length) (cap:=cap) (i:=(((2*k)+1:Nat):Int)) (sz:=1) rfl Ae Ae Tryz.runUnderlying38 Tryz.sizeOf5 Ag Ag ((hat.mem' h_ hne).here Hj)) (Ah (v:=nV .u8 ((xs.getD ((2*k)+1) 0).toNat)) (Ys.ld (a:=Co a (((2*k)+1)*1)) rfl Ae Tryz.isAgg5 (fun w_ h_=>(hat.mem' h_ hne).ld (Fm 0 Ex))) ?_)
    have hb23:(xs.getD ((2*k)+1) 0).toNat<256:=UInt8.toNat_lt _
    refine Ah (v:=nV .u16 ((xs.getD ((2*k)+1) 0).toNat)) ((Ys.p (v:=.int .u16 (Cg .u16 ((xs.getD ((2*k)+1) 0).toNat:Int)))).conseq (Af (Ej Ag Ag))) (Ah (v:=nV .u16 (((((xs.getD (2*k) 0).toNat)*256)%65536)|||((xs.getD ((2*k)+1) 0).toNat))) ((Ys.p (v:=.int .u16 (bor .u16 (((((xs.getD (2*k) 0).toNat)*256)%65536:Nat):Int) ((xs.getD ((2*k)+1) 0).toNat:Int)))).conseq (Af (Im rfl H1 H1))) (Ab 1 (Ac ?_)))
    refine fun w_ h_=>hJ16 _ w_ trivial ?_ h_
    refine Eq.trans (b:=([yv,pV p1 0,nV .i64 (2*k),nV .u16 (((((xs.getD (2*k) 0).toNat)*256)%65536)|||((xs.getD ((2*k)+1) 0).toNat))]:List Value)) Ae (by rw[Alq Ag])
   ·have qh22:=h22;try simp only[zA]at qh22
    refine Ak ?_
    refine fun w_ h_=>hJ16 _ w_ trivial ?_ h_
    refine Eq.trans (b:=([yv,pV p1 0,nV .i64 (2*k),nV .u16 ((((xs.getD (2*k) 0).toNat)*256)%65536)]:List Value)) Ae (by rw[Aet Ag Ag])
  ·refine hK15 _ _ _ (Ad (fun K24 hK24=>?_))
   refine Aa (Ab 2 (Ah (v:=nV .i64 ((2*k)/2)) ((Ys.p (v:=.int .i64 (Nb .i64 ((2*k:Nat):Int) 2))).conseq (Af (Oj Ag))) (Ab 1 (Lb rfl (Io (σ:=τ) (Φ:=fun b s=>bif b then Φ (k+1) s else Ψ s) (Lf:=fun s=>[U s,[cb p1 [sL a xs.length cap] 38]]) (args:= #[nV .i64 ((2*k)/2),nV .u16 ((pw xs).getD k 0)]) rfl rfl (fun _=>kr) (Lm (by have he_:2*k/2=k:=Ag;try rw[he_]) (hyl (k) s [[cb p1 [sL a xs.length cap] 38]] Ag hphi))) (fun x28=>?_)))))
   obtain⟨⟨b25,s26⟩,hs27⟩:=x28
   refine Bu (LL':=[U s26,[cb p1 [sL a xs.length cap] 38]]) rfl (Ab 1 (Ac (hK24 _ _ _ ?_)))
   refine Ao (!b25) Ae (fun h30=>?_) (fun h31=>?_)
   ·refine Aq (fn:=Tryz.f185) rfl (fun w_ hS_=>Il rfl ⟨s26,(.inr (by have hb_:b25=false:=(by simpa using h30);rw[hb_]at hs27;exact hs27)),rfl,hS_⟩)
   ·refine Ak (hK11 _ _ _ (Aa (Ab 1 (Ah (v:=nV .i64 ((2*k)+2)) ((Ys.p (v:=.int .i64 (Bt .i64 ((2*k:Nat):Int) 2))).conseq (Af (A6 Ag Ag Ag))) ?_))))
    refine Ab 1 (Ac ?_)
    refine fun w_ h_=>hJ2 (k+1) s26 _ w_ Ag ⟨Ag,(by have hb_:b25=true:=(by simpa using h31);rw[hb_]at hs27;exact hs27)⟩ ?_ h_
    refine Eq.trans (b:=([yv,pV p1 0,nV .i64 ((2*k)+2)]:List Value)) Ae (by simp;try omega)
 ·have qh9:=h9;try simp only[zA]at qh9
  refine Cr ?_
  show∀w_,_→bodyPostM (Cy none) 0 Tryz.prog Tryz.f185 _ Exit.normal _ w_
  exact fun w_ hS_=>Dq (Il rfl ⟨s,(.inl (by rw[show(pw xs).length=k by omega];exact hphi)),rfl,hS_⟩)
theorem Aa1(xs:List UInt8)(a:Option Addr)(len cap:Nat)(p1:Nat)(M:List Nat)(w:World)(hn:len=xs.length)(hat:At w a (Ci xs))(hne:0<(Ci xs).length→(a.getD default).block∉M)(hy:xs.length≤1000000000):
    Iter Tryz.prog 185 #[.pointer (some ⟨p1,0,none⟩)] (fun i:Nat=>[Value.int .i64 (i:Int),Value.int .u16 (((pw xs).getD i 0:Nat):Int)]) (pw xs).length [[cb p1 [.slice a len cap] 38]] w M:=by
  subst hn;exact fun τ yv U Φ Ψ s0 hyl h0 hl=>Vd xs a cap p1 M τ yv U Φ Ψ s0 w hat hne hy hyl h0 hl
end Go.Proofs.YtmonlaoaengfdaaGreatDoor.Oct
