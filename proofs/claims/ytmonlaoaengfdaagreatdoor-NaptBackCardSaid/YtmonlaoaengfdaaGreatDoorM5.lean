import Derived.Test.YtmonlaoaengfdaaGreatDoorM3
import Derived.Test.YtmonlaoaengfdaaGreatDoorM4
import Derived.Test.YtmonlaoaengfdaaGreatDoorM2
set_option linter.unusedVariables false
set_option linter.unusedSimpArgs false
set_option maxRecDepth 20000
namespace Go.Proofs.YtmonlaoaengfdaaGreatDoor.Oct
open Go.RowKit Base
attribute [local irreducible] Ys Yc Ht HtS HtIn Wl Wd W Mem pf D4 Wa Wo
open ZS ZD ZN
theorem Adr(g:FS)(xs X:List ((Int×Int×Int×Int×Int)×(Option Nat)))(x:(Int×Int×Int×Int×Int)×(Option Nat))(vb i:Nat)(M:List Nat)(w:World)(hX:xs.take i++x::xs.drop i=X)(hl:Mem w M [g.seg 173 (mm Fo xs),[cb vb (Fo x) 173]] w)(ok:g.ok 6 xs.length)(hi:i≤xs.length)(hn:xs.length≤100000):
    Calls Tryz.prog 179 #[.slice g.a xs.length g.cap,.int .i64 (i:Int),.slice (some ⟨vb,0,none⟩) 1 1] w (Bj w (fun g':FS=>g'.ok 6 X.length∧g'.nil=false) (fun g'=>.slice g'.a X.length g'.cap) M (fun g'=>[g'.seg 173 (mm Fo X)])):=by
  subst hX
  have h:=insRS_c g (mm Fo xs) (Fo x) vb xs.length i M w hl ok (B6 Iv _) hi hn rfl (Gq Nv _) (Nv _)
  have e:(mm Fo xs).take (i*6)++(Fo x++(mm Fo xs).drop (i*6))=mm Fo (xs.take i++x::xs.drop i):=by rw[Gy Iv,Gx Iv,It,Iu]
  have el:(xs.take i++x::xs.drop i).length=xs.length+1:=by simp;omega
  rw[e]at h;rw[el];exact h
theorem Ads(g:FS)(xs X:List ((Int×Int×Int×Int×Int)×(Option Nat)))(i:Nat)(M:List Nat)(w:World)(hX:xs.take i++xs.drop (i+1)=X)(hl:Mem w M [g.seg 173 (mm Fo xs)] w)(ok:g.ok 6 xs.length)(hi:i<xs.length)(hn:xs.length≤100000):
    Calls Tryz.prog 124 #[.slice g.a xs.length g.cap,.int .i64 (i:Int),.int .i64 ((i+1:Nat):Int)] w (Bj w (fun g':FS=>g'.ok 6 X.length∧g'.nil=false) (fun g'=>.slice g'.a X.length g'.cap) M (fun g'=>[g'.seg 173 (mm Fo X)])):=by
  subst hX
  have h:=delRS_c g (mm Fo xs) xs.length i M w hl ok (B6 Iv _) hi hn (Gq Nv _)
  have e:(mm Fo xs).take (i*6)++(mm Fo xs).drop ((i+1)*6)=mm Fo (xs.take i++xs.drop (i+1)):=by rw[Gy Iv,Gx Iv,It]
  have el:(xs.take i++xs.drop (i+1)).length=xs.length-1:=by simp;omega
  rw[e]at h;rw[el];exact h
abbrev Q6(k:Int×Int×Int×Int×Int):List Value:=[iV .u8 k.1,iV .u32 k.2.1,iV .u32 k.2.2.1,iV .u16 k.2.2.2.1,iV .u16 k.2.2.2.2]
theorem Ahs(xs:List ((Int×Int×Int×Int×Int)×(Option Nat)))(g:FS)(most:Int)(tb:Nat)(M:List Nat)(k:Int×Int×Int×Int×Int)(v:Option Nat)(w:World)(hl:Mem w M [g.seg 173 (mm Fo xs),[cb tb [sL g.a xs.length g.cap,Value.int .i64 most,Value.func (.func 31) #[] #[]] 153]] w)(ok:g.ok 6 xs.length)(hn:xs.length≤100000)(hs:Fn ordF xs):Calls Tryz.prog 153 #[pV tb 0,aV [iV .u8 k.1,iV .u32 k.2.1,iV .u32 k.2.2.1,iV .u16 k.2.2.2.1,iV .u16 k.2.2.2.2],pL (Cs v)] w (Bj w (fun g':FS=>g'.ok 6 (Db ordF most xs k v).length) (fun _=>iV .i64 (Kr most xs k)) M (fun g'=>[g'.seg 173 (mm Fo (Db ordF most xs k v)),[cb tb [.slice g'.a (Db ordF most xs k v).length g'.cap,.int .i64 most,Value.func (.func 31) #[] #[]] 153]])):=by
 refine Ar (M:=M) (LL:=[g.seg 173 (mm Fo xs),[cb tb [sV g xs.length,iV .i64 most,Value.func (.func 31) #[] #[]] 153]]) (n:=49) Tryz.func153 rfl rfl A5 (hl) (Ad (fun K1 hK1=>?_))
 refine Aa (Ai rfl (Bx (Q6 k) rfl) (fun p4=>?_))
 refine Ab 1 (Ac (hK1 _ _ _ (Ad (fun K3 hK3=>Aa ?_))))
 refine Ab 1 (Ah (A0 p4 0 0 0 (Q6 k) Tryz.isAgg47 Tryz.sizeOf47) (B0 (v:=Value.tuple #[nV .i64 (Be ordF xs k),bV (Bl xs k)]) (A9 (fun w_ hm_=>(R4 xs g.a g.cap most tb k _ (Az (i:=2) (j:=0) (t:=153) (b:=tb) hm_ rfl rfl) (FS.at (i:=1) (t:=173) hm_ rfl (Aj ok (Jh _))) Fb hs))) (Ab 5 (Ac ?_))))
 refine hK3 _ _ _ (Ad (fun K5 hK5=>?_))
 refine W.block (Ad (fun K6 hK6=>?_))
 refine Aa (Ab 2 (Ac (hK6 _ _ _ ?_)))
 refine Ao (Bl xs k) Ae (fun h8=>?_) (fun h9=>?_)
 ·have hps_:=F9 dS hs h8
  refine Aa (Ab 3 (Ah (An tb 0 2 0 Tryz.isAgg151) (Ab 2 (Ah (v:=pL (some (Co g.a ((Be ordF xs k)*6)))) (Av (k:=.i64) (a:=g.a) (len:=xs.length) (cap:=g.cap) (i:=(Be ordF xs k:Int)) (sz:=6) rfl Ae Ae Tryz.runUnderlying151 Tryz.sizeOf173 Ag Ag Xx) ?_))))
  refine Ab 1 (Ai rfl (Ts (k:=5) (i:=1) (g:=g) (q:=(Be ordF xs k)*6) (ty:=173) (cs:=mm Fo xs) (v:=Value.pointer (Cs v)) (cs':=mm Fo (xs.set (Be ordF xs k) (((xs.getD (Be ordF xs k) dS).1),v))) (LL':=[[cb p4 (Q6 k) 47],g.seg 173 (mm Fo (xs.set (Be ordF xs k) (((xs.getD (Be ordF xs k) dS).1),v))),[cb tb [sV g xs.length,iV .i64 most,Value.func (.func 31) #[] #[]] 153]]) rfl rfl Ae Ae Tryz.sizeOf93 rfl (C5 ok Ag) rfl (by rw[B6 (g:=Fo) (sz:=6) (fun _=>rfl)];(try simp only[List.length_cons,List.length_nil]);omega) (Lq (g:=Fo) (sz:=6) (fun _=>rfl) dS (((xs.getD (Be ordF xs k) dS).1),v) (by first|decide|(simp only[List.length_cons,List.length_nil];omega)) Ag rfl) rfl) (fun _=>?_))
  refine Ac (hK5 _ _ _ (Ap [1,2] Al rfl (Ad (fun K11 hK11=>Aa ?_))))
  refine Ab 1 (Ac (hK11 _ _ _ (Aq (fn:=Tryz.f153) rfl ?_)))
  have hB:Db ordF most xs k v=xs.set (Be ordF xs k) (((xs.getD (Be ordF xs k) dS).1),v):=by unfold Db;rw[h8];simp only[cond_true,cond_false];rw[Lr hs h8,hps_.2]
  exact fun w_ hS_=>Bb rfl (Aw (iV .i64 0)) hS_ ⟨g,(by rw[hB,List.length_set];exact ok),congrArg Ending.returned ((by unfold Kr;simp only[h8,cond_true,cond_false])),(Mem.cast (by rw[hB,List.length_set];rfl) (hS_.pick [0,1] Al rfl))⟩
 ·refine Ad (fun K12 hK12=>Dh [(0,true),(1,true),(2,true),(3,true),(4,true),(5,false),(6,false),(7,false),(8,false),(9,false),(10,false)] [0,1,2,3,4] (Ay 3 (Wd.ys rfl rfl rfl (An tb 0 2 0 Tryz.isAgg151) (Ay 1 ?_))))
  refine Wd.yc (v:=pV tb 0) rfl rfl rfl (Ys.yc (Ys.p)) (.inr fun _ h_=>h_) (Wd.yc (v:=pV tb 0) rfl rfl rfl (Ys.yc (Ys.p)) (.inr fun _ h_=>h_) (Wd.yc (v:=pV tb 1) rfl rfl rfl (Ys.yc (Ys.p)) (.inr fun _ h_=>h_) (Wd.yc (v:=iV .i64 most) rfl rfl rfl (Ys.yc (An tb 1 2 0 Tryz.isAgg3)) (.inr fun _ h_=>h_) (Wd.yc (v:=bV (decide (((xs.length:Nat):Int)≥most))) rfl rfl rfl (Ys.yc (Ys.p)) (.inr fun _ h_=>h_) ?_))))
  refine Wd.yc (v:=bV (decide (((xs.length:Nat):Int)≥most))) rfl rfl rfl (Ys.yc (Ys.p)) (.inr fun _ h_=>h_) (A7 (hK12 _ _ _ ?_))
  refine Ao (decide (((xs.length:Nat):Int)≥most)) Ae (fun h14=>?_) (fun h15=>?_)
  ·have qh14:=h14;try simp only[zA]at qh14
   refine Ad (fun K16 hK16=>Aa (Ab 1 (Ac (hK16 _ _ _ ?_))))
   refine Aq (fn:=Tryz.f153) rfl ?_
   have hB:Db ordF most xs k v=xs:=by unfold Db;rw[h9];simp only[cond_true,cond_false];rw[h14];simp only[cond_true,cond_false]
   exact fun w_ hS_=>Bb rfl (Aw (iV .i64 20)) hS_ ⟨g,(by rw[hB];exact ok),congrArg Ending.returned ((by unfold Kr;simp only[h9,h14,cond_true,cond_false])),(Mem.cast (by rw[hB];rfl) (hS_.pick [1,2] Al rfl))⟩
  ·have qh15:=h15;try simp only[zA]at qh15
   refine Bz [(0,true),(1,true),(2,true),(3,true),(4,true),(5,true),(6,true),(7,false),(8,false),(9,false),(10,false),(11,false),(12,false),(13,false)] [0,1,2,3,4,5,6] (Mem w M [[cb p4 (Q6 k) 47],[cb tb [sV g xs.length,iV .i64 most,Value.func (.func 31) #[] #[]] 153]]) Ae Ae Ae rfl Ae (fun _ _ h_=>h_.drawn _) (fun _ h_=>h_.pick [0,2] Al rfl) (Ay 4 (Wd.ys rfl rfl rfl (An tb 0 1 0 Tryz.isAgg151) (Ay 1 (Wd.ys rfl rfl rfl (A0 p4 0 0 0 (Q6 k) Tryz.isAgg47 Tryz.sizeOf47) ?_))))
   refine Wd.yc (v:=pL (Cs v)) rfl rfl rfl (Ys.yc (Ys.p)) (.inr fun _ h_=>h_.pick [0,2] Al rfl) (Wd.yc (v:=aV [iV .u8 k.1,iV .u32 k.2.1,iV .u32 k.2.2.1,iV .u16 k.2.2.2.1,iV .u16 k.2.2.2.2,pL (Cs v)]) rfl rfl rfl (Ys.yc (Ys.p)) (.inr fun _ h_=>h_.pick [0,2] Al rfl) (B8 rfl rfl (Bd (mk:=fun b_=>.slice (some ⟨b_,0,none⟩) 1 1) (t:=173) (cs:=[iV .u8 k.1,iV .u32 k.2.1,iV .u32 k.2.2.1,iV .u16 k.2.2.2.1,iV .u16 k.2.2.2.2,pL (Cs v)]) rfl (fun _=>kr)) (.inr fun _ _ h_=>h_.pick [1,3] Al rfl) (fun p24=>?_)))
   obtain⟨Z17,hZ18⟩: ∃Z,xs.take (Be ordF xs k)++(k,v)::xs.drop (Be ordF xs k)=Z:=⟨_,rfl⟩
   refine Cd rfl rfl (Au [2,0] [1,3] (fun w_ hm_ hl_=>(Adr g xs Z17 (k,v) p24 (Be ordF xs k) _ _ hZ18 hl_ ok (by have z_:= @F8;first|omega|exact F8) Ag))) (.inr fun _ _ h_=>h_.pick [1,2] Al rfl) (fun g19 hx23=>?_)
   obtain⟨ok20,nn21⟩:=hx23
   refine Wd.yc (v:=pV tb 0) rfl rfl rfl (Ys.yc (Ys.p)) (.inl Ae) (Wd.yc (v:=pV tb 0) rfl rfl rfl (Ys.yc (Ys.p)) (.inl Ae) (B8 rfl rfl (Bg tb 0 2 0 (sV g19 Z17.length) Tryz.sizeOf151 rfl rfl) (.inl Ae) (fun _=>A7 (hK5 _ _ _ ?_))))
   refine Ap [0,2] Al rfl (Ad (fun K25 hK25=>?_))
   refine Aa (Ab 1 (Ac (hK25 _ _ _ (Aq (fn:=Tryz.f153) rfl ?_))))
   have hB:Db ordF most xs k v=Z17:=by unfold Db;rw[h9];simp only[cond_true,cond_false];rw[h15];simp only[cond_true,cond_false];rw[Jz h9];exact hZ18
   exact fun w_ hS_=>Bb rfl (Aw (iV .i64 0)) hS_ ⟨g19,(by rw[hB];exact ok20),congrArg Ending.returned ((by unfold Kr;simp only[h9,h15,cond_true,cond_false])),(Mem.cast (by rw[hB];rfl) (hS_.pick [0,1] Al rfl))⟩
theorem Adt(xs:List ((Int×Int×Int×Int×Int)×(Option Nat)))(g:FS)(most:Int)(tb:Nat)(M:List Nat)(k:Int×Int×Int×Int×Int)(w:World)(hl:Mem w M [g.seg 173 (mm Fo xs),[cb tb [sL g.a xs.length g.cap,Value.int .i64 most,Value.func (.func 31) #[] #[]] 153]] w)(ok:g.ok 6 xs.length)(hn:xs.length≤100000)(hs:Fn ordF xs):Calls Tryz.prog 76 #[pV tb 0,aV [iV .u8 k.1,iV .u32 k.2.1,iV .u32 k.2.2.1,iV .u16 k.2.2.2.1,iV .u16 k.2.2.2.2]] w (Bj w (fun g':FS=>g'.ok 6 (C0 xs k).length) (fun _=>bV (Bl xs k)) M (fun g'=>[g'.seg 173 (mm Fo (C0 xs k)),[cb tb [.slice g'.a (C0 xs k).length g'.cap,.int .i64 most,Value.func (.func 31) #[] #[]] 153]])):=by
 refine Ar (M:=M) (LL:=[g.seg 173 (mm Fo xs),[cb tb [sV g xs.length,iV .i64 most,Value.func (.func 31) #[] #[]] 153]]) (n:=26) Tryz.func76 rfl rfl A5 (hl) (Ad (fun K1 hK1=>?_))
 refine Aa (Ai rfl (Bx [iV .u8 k.1,iV .u32 k.2.1,iV .u32 k.2.2.1,iV .u16 k.2.2.2.1,iV .u16 k.2.2.2.2] rfl) (fun p3=>?_))
 refine Ab 1 (Ac (hK1 _ _ _ (Ad (fun K3 hK3=>Aa ?_))))
 refine Ab 1 (Ah (A0 p3 0 0 0 [iV .u8 k.1,iV .u32 k.2.1,iV .u32 k.2.2.1,iV .u16 k.2.2.2.1,iV .u16 k.2.2.2.2] Tryz.isAgg47 Tryz.sizeOf47) (B0 (v:=Value.tuple #[nV .i64 (Be ordF xs k),bV (Bl xs k)]) (A9 (fun w_ hm_=>(R4 xs g.a g.cap most tb k _ (Az (i:=2) (j:=0) (t:=153) (b:=tb) hm_ rfl rfl) (FS.at (i:=1) (t:=173) hm_ rfl (Aj ok (Jh _))) Fb hs))) (Ab 5 (Ac ?_))))
 refine hK3 _ _ _ (Ap [1,2] Al rfl (Ad (fun K5 hK5=>Ad (fun K6 hK6=>Aa ?_))))
 refine Ab 1 (Ac (hK6 _ _ _ ?_))
 refine Ao (Bl xs k) Ae (fun h7=>?_) (fun h8=>?_)
 ·have hps_:=F9 dS hs h7
  refine Aa (Ab 4 (Ah (An tb 0 1 0 Tryz.isAgg151) (Ab 2 (Ah (v:=nV .i64 ((Be ordF xs k)+1)) ((Ys.p (v:=.int .i64 (Bt .i64 (Be ordF xs k:Int) 1))).conseq (Af (A6 Ag Ag Ag))) ?_))))
  obtain⟨Z9,hZ10⟩: ∃Z,xs.take (Be ordF xs k)++xs.drop ((Be ordF xs k)+1)=Z:=⟨_,rfl⟩
  refine Ax rfl (Au [0] [1] (fun w_ hm_ hl_=>(Ads g xs Z9 (Be ordF xs k) _ _ hZ10 hl_ ok hps_.1 Ag))) (fun g11 hx15=>?_)
  obtain⟨ok12,nn13⟩:=hx15
  refine Ab 2 (Ai rfl (Bg tb 0 1 0 (sV g11 Z9.length) Tryz.sizeOf151 rfl rfl) (fun _=>?_))
  refine Ac (hK5 _ _ _ (Ad (fun K17 hK17=>Aa (Ab 2 ?_))))
  refine Ac (hK17 _ _ _ (Aq (fn:=Tryz.f76) rfl ?_))
  have hB:C0 xs k=Z9:=by rw[Jg hs h7];exact hZ10
  exact fun w_ hS_=>Bb rfl (Aw (bV (Bl xs k))) hS_ ⟨g11,(by rw[hB];exact ok12),congrArg Ending.returned ((by rw[h7])),(Mem.cast (by rw[hB];rfl) (hS_.pick [0,1] Al rfl))⟩
 ·refine Ak (hK5 _ _ _ (Ad (fun K20 hK20=>Aa (Ab 2 ?_))))
  refine Ac (hK20 _ _ _ (Aq (fn:=Tryz.f76) rfl ?_))
  have hB:C0 xs k=xs:=by exact Ls h8
  exact fun w_ hS_=>Bb rfl (Aw (bV (Bl xs k))) hS_ ⟨g,(by rw[hB];exact ok),congrArg Ending.returned ((by rw[h8])),(Mem.cast (by rw[hB];rfl) (hS_.pick [0,1] Al rfl))⟩
theorem Adu(g:FS)(xs X:List ((Int×Int×Int)×(Lse)))(x:(Int×Int×Int)×(Lse))(vb i:Nat)(M:List Nat)(w:World)(hX:xs.take i++x::xs.drop i=X)(hl:Mem w M [g.seg 234 (mm Fu xs),[cb vb (Fu x) 234]] w)(ok:g.ok 5 xs.length)(hi:i≤xs.length)(hn:xs.length≤100000):
    Calls Tryz.prog 128 #[.slice g.a xs.length g.cap,.int .i64 (i:Int),.slice (some ⟨vb,0,none⟩) 1 1] w (Bj w (fun g':FS=>g'.ok 5 X.length∧g'.nil=false) (fun g'=>.slice g'.a X.length g'.cap) M (fun g'=>[g'.seg 234 (mm Fu X)])):=by
  subst hX
  have h:=insRD_c g (mm Fu xs) (Fu x) vb xs.length i M w hl ok (B6 Iw _) hi hn rfl (Gq Nw _) (Nw _)
  have e:(mm Fu xs).take (i*5)++(Fu x++(mm Fu xs).drop (i*5))=mm Fu (xs.take i++x::xs.drop i):=by rw[Gy Iw,Gx Iw,It,Iu]
  have el:(xs.take i++x::xs.drop i).length=xs.length+1:=by simp;omega
  rw[e]at h;rw[el];exact h
theorem Adv(g:FS)(xs X:List ((Int×Int×Int)×(Lse)))(i:Nat)(M:List Nat)(w:World)(hX:xs.take i++xs.drop (i+1)=X)(hl:Mem w M [g.seg 234 (mm Fu xs)] w)(ok:g.ok 5 xs.length)(hi:i<xs.length)(hn:xs.length≤100000):
    Calls Tryz.prog 129 #[.slice g.a xs.length g.cap,.int .i64 (i:Int),.int .i64 ((i+1:Nat):Int)] w (Bj w (fun g':FS=>g'.ok 5 X.length∧g'.nil=false) (fun g'=>.slice g'.a X.length g'.cap) M (fun g'=>[g'.seg 234 (mm Fu X)])):=by
  subst hX
  have h:=delRD_c g (mm Fu xs) xs.length i M w hl ok (B6 Iw _) hi hn (Gq Nw _)
  have e:(mm Fu xs).take (i*5)++(mm Fu xs).drop ((i+1)*5)=mm Fu (xs.take i++xs.drop (i+1)):=by rw[Gy Iw,Gx Iw,It]
  have el:(xs.take i++xs.drop (i+1)).length=xs.length-1:=by simp;omega
  rw[e]at h;rw[el];exact h
abbrev Q7(g:FS)(most:Int)(tb:Nat)(xs:List ((Int×Int×Int)×(Lse))):List Blk:=[cb tb [sV g xs.length,iV .i64 most,Value.func (.func 33) #[] #[]] 160]
abbrev Q8(v:Lse):List Value:=[iV .u16 v.ext,iV .i64 v.count]
abbrev Q9(k:Int×Int×Int):List Value:=[iV .u8 k.1,iV .u32 k.2.1,iV .u16 k.2.2]
theorem Aht(xs:List ((Int×Int×Int)×(Lse)))(g:FS)(most:Int)(tb:Nat)(M:List Nat)(k:Int×Int×Int)(v:Lse)(w:World)(hl:Mem w M [g.seg 234 (mm Fu xs),[cb tb [sL g.a xs.length g.cap,Value.int .i64 most,Value.func (.func 33) #[] #[]] 160]] w)(ok:g.ok 5 xs.length)(hn:xs.length≤100000)(hs:Fn Ca xs):Calls Tryz.prog 81 #[pV tb 0,aV [iV .u8 k.1,iV .u32 k.2.1,iV .u16 k.2.2],aV [iV .u16 v.ext,iV .i64 v.count]] w (Bj w (fun g':FS=>g'.ok 5 (Db Ca most xs k v).length) (fun _=>iV .i64 (Kr most xs k)) M (fun g'=>[g'.seg 234 (mm Fu (Db Ca most xs k v)),[cb tb [.slice g'.a (Db Ca most xs k v).length g'.cap,.int .i64 most,Value.func (.func 33) #[] #[]] 160]])):=by
 refine Ar (M:=M) (LL:=[g.seg 234 (mm Fu xs),Q7 g most tb xs]) (n:=49) Tryz.func81 rfl rfl A5 (hl) (Ad (fun K1 hK1=>?_))
 refine Aa (Ai rfl (Bx (Q9 k) rfl) (fun p4=>?_))
 refine Ai rfl (Bx (Q8 v) rfl) (fun p5=>Ab 1 (Ac (hK1 _ _ _ (Ad (fun K3 hK3=>?_)))))
 refine Aa (Ab 1 (Ah (A0 p4 0 1 0 (Q9 k) Tryz.isAgg97 Tryz.sizeOf97) (B0 (v:=Value.tuple #[nV .i64 (Be Ca xs k),bV (Bl xs k)]) (A9 (fun w_ hm_=>(R5 xs g.a g.cap most tb k _ (Az (i:=3) (j:=0) (t:=160) (b:=tb) hm_ rfl rfl) (FS.at (i:=2) (t:=234) hm_ rfl (Aj ok (Ji _))) Fb hs))) (Ab 5 ?_))))
 refine Ac (hK3 _ _ _ (Ad (fun K5 hK5=>W.block (Ad (fun K6 hK6=>?_)))))
 refine Aa (Ab 2 (Ac (hK6 _ _ _ ?_)))
 refine Ao (Bl xs k) Ae (fun h8=>?_) (fun h9=>?_)
 ·have hps_:=F9 dD hs h8
  refine Dh [(0,true),(1,true),(2,true),(3,true),(4,true),(5,false),(6,false),(7,false),(8,false)] [0,1,2,3,4] (Ay 3 (Wd.ys rfl rfl rfl (An tb 0 3 0 Tryz.isAgg158) (Ay 1 (Wd.yc (v:=aV (Q8 v)) rfl rfl rfl (Ys.yc (A0 p5 0 0 0 (Q8 v) Tryz.isAgg99 Tryz.sizeOf99)) (.inr fun _ h_=>h_) ?_))))
  refine Wd.yc (v:=Value.pointer (some (Co g.a ((Be Ca xs k)*5)))) rfl rfl rfl (Ys.yc (Av (k:=.i64) (a:=g.a) (len:=xs.length) (cap:=g.cap) (i:=(Be Ca xs k:Int)) (sz:=5) rfl Ae Ae Tryz.runUnderlying158 Tryz.sizeOf234 Ag Ag Xx)) (.inl Ae) (Wd.yc (v:=Value.pointer (some ((Co g.a ((Be Ca xs k)*5)).add 3))) rfl rfl rfl (Ys.yc (Ys.p)) (.inl Ae) (B8 rfl rfl (M0 (k:=3) (i:=2) (g:=g) (q:=(Be Ca xs k)*5) (ty:=234) (cs:=mm Fu xs) (vs:=(Q8 v)) (cs':=mm Fu (xs.set (Be Ca xs k) (((xs.getD (Be Ca xs k) dD).1),v))) (LL':=[[cb p5 (Q8 v) 99],[cb p4 (Q9 k) 97],g.seg 234 (mm Fu (xs.set (Be Ca xs k) (((xs.getD (Be Ca xs k) dD).1),v))),Q7 g most tb xs]) rfl rfl Ae Ae Tryz.sizeOf99 Zb (C5 ok Ag) rfl (by rw[B6 (g:=Fu) (sz:=5) (fun _=>rfl)];(try simp only[List.length_cons,List.length_nil]);omega) (Lq (g:=Fu) (sz:=5) (fun _=>rfl) dD (((xs.getD (Be Ca xs k) dD).1),v) (by first|decide|(simp only[List.length_cons,List.length_nil];omega)) Ag rfl) rfl) (.inl Ae) (fun _=>A7 (hK5 _ _ _ ?_))))
  refine Ap [2,3] Al rfl (Ad (fun K11 hK11=>?_))
  refine Aa (Ab 1 (Ac (hK11 _ _ _ (Aq (fn:=Tryz.f81) rfl ?_))))
  have hB:Db Ca most xs k v=xs.set (Be Ca xs k) (((xs.getD (Be Ca xs k) dD).1),v):=by unfold Db;rw[h8];simp only[cond_true,cond_false];rw[Lr hs h8,hps_.2]
  exact fun w_ hS_=>Bb rfl (Aw (iV .i64 0)) hS_ ⟨g,(by rw[hB,List.length_set];exact ok),congrArg Ending.returned ((by unfold Kr;simp only[h8,cond_true,cond_false])),(Mem.cast (by rw[hB,List.length_set];rfl) (hS_.pick [0,1] Al rfl))⟩
 ·refine Ad (fun K12 hK12=>Dh [(0,true),(1,true),(2,true),(3,true),(4,true),(5,false),(6,false),(7,false),(8,false),(9,false),(10,false)] [0,1,2,3,4] (Ay 3 (Wd.ys rfl rfl rfl (An tb 0 3 0 Tryz.isAgg158) (Ay 1 ?_))))
  refine Wd.yc (v:=pV tb 0) rfl rfl rfl (Ys.yc (Ys.p)) (.inr fun _ h_=>h_) (Wd.yc (v:=pV tb 0) rfl rfl rfl (Ys.yc (Ys.p)) (.inr fun _ h_=>h_) (Wd.yc (v:=pV tb 1) rfl rfl rfl (Ys.yc (Ys.p)) (.inr fun _ h_=>h_) (Wd.yc (v:=iV .i64 most) rfl rfl rfl (Ys.yc (An tb 1 3 0 Tryz.isAgg3)) (.inr fun _ h_=>h_) (Wd.yc (v:=bV (decide (((xs.length:Nat):Int)≥most))) rfl rfl rfl (Ys.yc (Ys.p)) (.inr fun _ h_=>h_) ?_))))
  refine Wd.yc (v:=bV (decide (((xs.length:Nat):Int)≥most))) rfl rfl rfl (Ys.yc (Ys.p)) (.inr fun _ h_=>h_) (A7 (hK12 _ _ _ ?_))
  refine Ao (decide (((xs.length:Nat):Int)≥most)) Ae (fun h14=>?_) (fun h15=>?_)
  ·have qh14:=h14;try simp only[zA]at qh14
   refine Ad (fun K16 hK16=>Aa (Ab 1 (Ac (hK16 _ _ _ ?_))))
   refine Aq (fn:=Tryz.f81) rfl ?_
   have hB:Db Ca most xs k v=xs:=by unfold Db;rw[h9];simp only[cond_true,cond_false];rw[h14];simp only[cond_true,cond_false]
   exact fun w_ hS_=>Bb rfl (Aw (iV .i64 20)) hS_ ⟨g,(by rw[hB];exact ok),congrArg Ending.returned ((by unfold Kr;simp only[h9,h14,cond_true,cond_false])),(Mem.cast (by rw[hB];rfl) (hS_.pick [2,3] Al rfl))⟩
  ·have qh15:=h15;try simp only[zA]at qh15
   refine Bz [(0,true),(1,true),(2,true),(3,true),(4,true),(5,true),(6,true),(7,false),(8,false),(9,false),(10,false),(11,false),(12,false),(13,false)] [0,1,2,3,4,5,6] (Mem w M [[cb p5 (Q8 v) 99],[cb p4 (Q9 k) 97],Q7 g most tb xs]) Ae Ae Ae rfl Ae (fun _ _ h_=>h_.drawn _) (fun _ h_=>h_.pick [0,1,3] Al rfl) (Ay 4 (Wd.ys rfl rfl rfl (An tb 0 2 0 Tryz.isAgg158) (Ay 1 (Wd.ys rfl rfl rfl (A0 p4 0 1 0 (Q9 k) Tryz.isAgg97 Tryz.sizeOf97) ?_))))
   refine Wd.yc (v:=aV (Q8 v)) rfl rfl rfl (Ys.yc (A0 p5 0 0 0 (Q8 v) Tryz.isAgg99 Tryz.sizeOf99)) (.inr fun _ h_=>h_.pick [0,1,3] Al rfl) (Wd.yc (v:=aV [iV .u8 k.1,iV .u32 k.2.1,iV .u16 k.2.2,iV .u16 v.ext,iV .i64 v.count]) rfl rfl rfl (Ys.yc (Ys.p)) (.inr fun _ h_=>h_.pick [0,1,3] Al rfl) (B8 rfl rfl (Bd (mk:=fun b_=>.slice (some ⟨b_,0,none⟩) 1 1) (t:=234) (cs:=[iV .u8 k.1,iV .u32 k.2.1,iV .u16 k.2.2,iV .u16 v.ext,iV .i64 v.count]) rfl (fun _=>kr)) (.inr fun _ _ h_=>h_.pick [1,2,4] Al rfl) (fun p24=>?_)))
   obtain⟨Z17,hZ18⟩: ∃Z,xs.take (Be Ca xs k)++(k,v)::xs.drop (Be Ca xs k)=Z:=⟨_,rfl⟩
   refine Cd rfl rfl (Au [3,0] [1,2,4] (fun w_ hm_ hl_=>(Adu g xs Z17 (k,v) p24 (Be Ca xs k) _ _ hZ18 hl_ ok (by have z_:= @F8;first|omega|exact F8) Ag))) (.inr fun _ _ h_=>h_.pick [1,2,3] Al rfl) (fun g19 hx23=>?_)
   obtain⟨ok20,nn21⟩:=hx23
   refine Wd.yc (v:=pV tb 0) rfl rfl rfl (Ys.yc (Ys.p)) (.inl Ae) (Wd.yc (v:=pV tb 0) rfl rfl rfl (Ys.yc (Ys.p)) (.inl Ae) (B8 rfl rfl (Bg tb 0 3 0 (sV g19 Z17.length) Tryz.sizeOf158 rfl rfl) (.inl Ae) (fun _=>A7 (hK5 _ _ _ ?_))))
   refine Ap [0,3] Al rfl (Ad (fun K25 hK25=>?_))
   refine Aa (Ab 1 (Ac (hK25 _ _ _ (Aq (fn:=Tryz.f81) rfl ?_))))
   have hB:Db Ca most xs k v=Z17:=by unfold Db;rw[h9];simp only[cond_true,cond_false];rw[h15];simp only[cond_true,cond_false];rw[Jz h9];exact hZ18
   exact fun w_ hS_=>Bb rfl (Aw (iV .i64 0)) hS_ ⟨g19,(by rw[hB];exact ok20),congrArg Ending.returned ((by unfold Kr;simp only[h9,h15,cond_true,cond_false])),(Mem.cast (by rw[hB];rfl) (hS_.pick [0,1] Al rfl))⟩
theorem Adw(xs:List ((Int×Int×Int)×(Lse)))(g:FS)(most:Int)(tb:Nat)(M:List Nat)(k:Int×Int×Int)(w:World)(hl:Mem w M [g.seg 234 (mm Fu xs),[cb tb [sL g.a xs.length g.cap,Value.int .i64 most,Value.func (.func 33) #[] #[]] 160]] w)(ok:g.ok 5 xs.length)(hn:xs.length≤100000)(hs:Fn Ca xs):Calls Tryz.prog 82 #[pV tb 0,aV [iV .u8 k.1,iV .u32 k.2.1,iV .u16 k.2.2]] w (Bj w (fun g':FS=>g'.ok 5 (C0 xs k).length) (fun _=>bV (Bl xs k)) M (fun g'=>[g'.seg 234 (mm Fu (C0 xs k)),[cb tb [.slice g'.a (C0 xs k).length g'.cap,.int .i64 most,Value.func (.func 33) #[] #[]] 160]])):=by
 refine Ar (M:=M) (LL:=[g.seg 234 (mm Fu xs),[cb tb [sV g xs.length,iV .i64 most,Value.func (.func 33) #[] #[]] 160]]) (n:=26) Tryz.func82 rfl rfl A5 (hl) (Ad (fun K1 hK1=>?_))
 refine Aa (Ai rfl (Bx [iV .u8 k.1,iV .u32 k.2.1,iV .u16 k.2.2] rfl) (fun p3=>?_))
 refine Ab 1 (Ac (hK1 _ _ _ (Ad (fun K3 hK3=>Aa ?_))))
 refine Ab 1 (Ah (A0 p3 0 0 0 [iV .u8 k.1,iV .u32 k.2.1,iV .u16 k.2.2] Tryz.isAgg97 Tryz.sizeOf97) (B0 (v:=Value.tuple #[nV .i64 (Be Ca xs k),bV (Bl xs k)]) (A9 (fun w_ hm_=>(R5 xs g.a g.cap most tb k _ (Az (i:=2) (j:=0) (t:=160) (b:=tb) hm_ rfl rfl) (FS.at (i:=1) (t:=234) hm_ rfl (Aj ok (Ji _))) Fb hs))) (Ab 5 (Ac ?_))))
 refine hK3 _ _ _ (Ap [1,2] Al rfl (Ad (fun K5 hK5=>Ad (fun K6 hK6=>Aa ?_))))
 refine Ab 1 (Ac (hK6 _ _ _ ?_))
 refine Ao (Bl xs k) Ae (fun h7=>?_) (fun h8=>?_)
 ·have hps_:=F9 dD hs h7
  refine Aa (Ab 4 (Ah (An tb 0 1 0 Tryz.isAgg158) (Ab 2 (Ah (v:=nV .i64 ((Be Ca xs k)+1)) ((Ys.p (v:=.int .i64 (Bt .i64 (Be Ca xs k:Int) 1))).conseq (Af (A6 Ag Ag Ag))) ?_))))
  obtain⟨Z9,hZ10⟩: ∃Z,xs.take (Be Ca xs k)++xs.drop ((Be Ca xs k)+1)=Z:=⟨_,rfl⟩
  refine Ax rfl (Au [0] [1] (fun w_ hm_ hl_=>(Adv g xs Z9 (Be Ca xs k) _ _ hZ10 hl_ ok hps_.1 Ag))) (fun g11 hx15=>?_)
  obtain⟨ok12,nn13⟩:=hx15
  refine Ab 2 (Ai rfl (Bg tb 0 1 0 (sV g11 Z9.length) Tryz.sizeOf158 rfl rfl) (fun _=>?_))
  refine Ac (hK5 _ _ _ (Ad (fun K17 hK17=>Aa (Ab 2 ?_))))
  refine Ac (hK17 _ _ _ (Aq (fn:=Tryz.f82) rfl ?_))
  have hB:C0 xs k=Z9:=by rw[Jg hs h7];exact hZ10
  exact fun w_ hS_=>Bb rfl (Aw (bV (Bl xs k))) hS_ ⟨g11,(by rw[hB];exact ok12),congrArg Ending.returned ((by rw[h7])),(Mem.cast (by rw[hB];rfl) (hS_.pick [0,1] Al rfl))⟩
 ·refine Ak (hK5 _ _ _ (Ad (fun K20 hK20=>Aa (Ab 2 ?_))))
  refine Ac (hK20 _ _ _ (Aq (fn:=Tryz.f82) rfl ?_))
  have hB:C0 xs k=xs:=by exact Ls h8
  exact fun w_ hS_=>Bb rfl (Aw (bV (Bl xs k))) hS_ ⟨g,(by rw[hB];exact ok),congrArg Ending.returned ((by rw[h8])),(Mem.cast (by rw[hB];rfl) (hS_.pick [0,1] Al rfl))⟩
theorem Adx(g:FS)(xs X:List ((Int)×(Int×Int×Int×Int×Int)))(x:(Int)×(Int×Int×Int×Int×Int))(vb i:Nat)(M:List Nat)(w:World)(hX:xs.take i++x::xs.drop i=X)(hl:Mem w M [g.seg 223 (mm Hy xs),[cb vb (Hy x) 223]] w)(ok:g.ok 6 xs.length)(hi:i≤xs.length)(hn:xs.length≤100000):
    Calls Tryz.prog 180 #[.slice g.a xs.length g.cap,.int .i64 (i:Int),.slice (some ⟨vb,0,none⟩) 1 1] w (Bj w (fun g':FS=>g'.ok 6 X.length∧g'.nil=false) (fun g'=>.slice g'.a X.length g'.cap) M (fun g'=>[g'.seg 223 (mm Hy X)])):=by
  subst hX
  have h:=insRN_c g (mm Hy xs) (Hy x) vb xs.length i M w hl ok (B6 Ix _) hi hn rfl (Gq R3 _) (R3 _)
  have e:(mm Hy xs).take (i*6)++(Hy x++(mm Hy xs).drop (i*6))=mm Hy (xs.take i++x::xs.drop i):=by rw[Gy Ix,Gx Ix,It,Iu]
  have el:(xs.take i++x::xs.drop i).length=xs.length+1:=by simp;omega
  rw[e]at h;rw[el];exact h
theorem Ady(g:FS)(xs X:List ((Int)×(Int×Int×Int×Int×Int)))(i:Nat)(M:List Nat)(w:World)(hX:xs.take i++xs.drop (i+1)=X)(hl:Mem w M [g.seg 223 (mm Hy xs)] w)(ok:g.ok 6 xs.length)(hi:i<xs.length)(hn:xs.length≤100000):
    Calls Tryz.prog 125 #[.slice g.a xs.length g.cap,.int .i64 (i:Int),.int .i64 ((i+1:Nat):Int)] w (Bj w (fun g':FS=>g'.ok 6 X.length∧g'.nil=false) (fun g'=>.slice g'.a X.length g'.cap) M (fun g'=>[g'.seg 223 (mm Hy X)])):=by
  subst hX
  have h:=delRN_c g (mm Hy xs) xs.length i M w hl ok (B6 Ix _) hi hn (Gq R3 _)
  have e:(mm Hy xs).take (i*6)++(mm Hy xs).drop ((i+1)*6)=mm Hy (xs.take i++xs.drop (i+1)):=by rw[Gy Ix,Gx Ix,It]
  have el:(xs.take i++xs.drop (i+1)).length=xs.length-1:=by simp;omega
  rw[e]at h;rw[el];exact h
abbrev Qa(p5:Nat)(v:Int×Int×Int×Int×Int):List Blk:=[cb p5 [iV .u8 v.1,iV .u32 v.2.1,iV .u32 v.2.2.1,iV .u16 v.2.2.2.1,iV .u16 v.2.2.2.2] 47]
abbrev Qb(g:FS)(most:Int)(tb:Nat)(xs:List ((Int)×(Int×Int×Int×Int×Int))):List Blk:=[cb tb [sV g xs.length,iV .i64 most,Value.func (.func 35) #[] #[]] 163]
abbrev Qc(v:Int×Int×Int×Int×Int):List Value:=[iV .u8 v.1,iV .u32 v.2.1,iV .u32 v.2.2.1,iV .u16 v.2.2.2.1,iV .u16 v.2.2.2.2]
theorem Ahu(xs:List ((Int)×(Int×Int×Int×Int×Int)))(g:FS)(most:Int)(tb:Nat)(M:List Nat)(k:Int)(v:Int×Int×Int×Int×Int)(w:World)(hl:Mem w M [g.seg 223 (mm Hy xs),[cb tb [sL g.a xs.length g.cap,Value.int .i64 most,Value.func (.func 35) #[] #[]] 163]] w)(ok:g.ok 6 xs.length)(hn:xs.length≤100000)(hs:Fn LO.int xs):Calls Tryz.prog 154 #[pV tb 0,iV .u64 k,aV [iV .u8 v.1,iV .u32 v.2.1,iV .u32 v.2.2.1,iV .u16 v.2.2.2.1,iV .u16 v.2.2.2.2]] w (Bj w (fun g':FS=>g'.ok 6 (Db LO.int most xs k v).length) (fun _=>iV .i64 (Kr most xs k)) M (fun g'=>[g'.seg 223 (mm Hy (Db LO.int most xs k v)),[cb tb [.slice g'.a (Db LO.int most xs k v).length g'.cap,.int .i64 most,Value.func (.func 35) #[] #[]] 163]])):=by
 refine Ar (M:=M) (LL:=[g.seg 223 (mm Hy xs),Qb g most tb xs]) (n:=49) Tryz.func154 rfl rfl A5 (hl) (Ad (fun K1 hK1=>?_))
 refine Aa (Ai rfl (Bx (Qc v) rfl) (fun p5=>?_))
 refine Ab 1 (Ac (hK1 _ _ _ (Ad (fun K3 hK3=>Aa ?_))))
 refine Ab 2 (B0 (v:=Value.tuple #[nV .i64 (Be LO.int xs k),bV (Bl xs k)]) (A9 (fun w_ hm_=>(R6 xs g.a g.cap most tb k _ (Az (i:=2) (j:=0) (t:=163) (b:=tb) hm_ rfl rfl) (FS.at (i:=1) (t:=223) hm_ rfl (Aj ok (Oy _))) Fb hs))) (Ab 5 (Ac (hK3 _ _ _ ?_))))
 refine Ad (fun K5 hK5=>W.block (Ad (fun K6 hK6=>Aa (Ab 2 ?_))))
 refine Ac (hK6 _ _ _ ?_)
 refine Ao (Bl xs k) Ae (fun h8=>?_) (fun h9=>?_)
 ·have hps_:=F9 dN hs h8
  refine Dh [(0,true),(1,true),(2,true),(3,true),(4,true),(5,false),(6,false),(7,false),(8,false)] [0,1,2,3,4] (Ay 3 (Wd.ys rfl rfl rfl (An tb 0 2 0 Tryz.isAgg161) (Ay 1 (Wd.yc (v:=aV (Qc v)) rfl rfl rfl (Ys.yc (A0 p5 0 0 0 (Qc v) Tryz.isAgg47 Tryz.sizeOf47)) (.inr fun _ h_=>h_) ?_))))
  refine Wd.yc (v:=Value.pointer (some (Co g.a ((Be LO.int xs k)*6)))) rfl rfl rfl (Ys.yc (Av (k:=.i64) (a:=g.a) (len:=xs.length) (cap:=g.cap) (i:=(Be LO.int xs k:Int)) (sz:=6) rfl Ae Ae Tryz.runUnderlying161 Tryz.sizeOf223 Ag Ag Xx)) (.inl Ae) (Wd.yc (v:=Value.pointer (some ((Co g.a ((Be LO.int xs k)*6)).add 1))) rfl rfl rfl (Ys.yc (Ys.p)) (.inl Ae) (B8 rfl rfl (M0 (k:=1) (i:=1) (g:=g) (q:=(Be LO.int xs k)*6) (ty:=223) (cs:=mm Hy xs) (vs:=(Qc v)) (cs':=mm Hy (xs.set (Be LO.int xs k) (((xs.getD (Be LO.int xs k) dN).1),v))) (LL':=[Qa p5 v,g.seg 223 (mm Hy (xs.set (Be LO.int xs k) (((xs.getD (Be LO.int xs k) dN).1),v))),Qb g most tb xs]) rfl rfl Ae Ae Tryz.sizeOf47 Zb (C5 ok Ag) rfl (by rw[B6 (g:=Hy) (sz:=6) (fun _=>rfl)];(try simp only[List.length_cons,List.length_nil]);omega) (Lq (g:=Hy) (sz:=6) (fun _=>rfl) dN (((xs.getD (Be LO.int xs k) dN).1),v) (by first|decide|(simp only[List.length_cons,List.length_nil];omega)) Ag rfl) rfl) (.inl Ae) (fun _=>A7 (hK5 _ _ _ ?_))))
  refine Ap [1,2] Al rfl (Ad (fun K11 hK11=>?_))
  refine Aa (Ab 1 (Ac (hK11 _ _ _ (Aq (fn:=Tryz.f154) rfl ?_))))
  have hB:Db LO.int most xs k v=xs.set (Be LO.int xs k) (((xs.getD (Be LO.int xs k) dN).1),v):=by unfold Db;rw[h8];simp only[cond_true,cond_false];rw[Lr hs h8,hps_.2]
  exact fun w_ hS_=>Bb rfl (Aw (iV .i64 0)) hS_ ⟨g,(by rw[hB,List.length_set];exact ok),congrArg Ending.returned ((by unfold Kr;simp only[h8,cond_true,cond_false])),(Mem.cast (by rw[hB,List.length_set];rfl) (hS_.pick [0,1] Al rfl))⟩
 ·refine Ad (fun K12 hK12=>Dh [(0,true),(1,true),(2,true),(3,true),(4,true),(5,false),(6,false),(7,false),(8,false),(9,false),(10,false)] [0,1,2,3,4] (Ay 3 (Wd.ys rfl rfl rfl (An tb 0 2 0 Tryz.isAgg161) (Ay 1 ?_))))
  refine Wd.yc (v:=pV tb 0) rfl rfl rfl (Ys.yc (Ys.p)) (.inr fun _ h_=>h_) (Wd.yc (v:=pV tb 0) rfl rfl rfl (Ys.yc (Ys.p)) (.inr fun _ h_=>h_) (Wd.yc (v:=pV tb 1) rfl rfl rfl (Ys.yc (Ys.p)) (.inr fun _ h_=>h_) (Wd.yc (v:=iV .i64 most) rfl rfl rfl (Ys.yc (An tb 1 2 0 Tryz.isAgg3)) (.inr fun _ h_=>h_) (Wd.yc (v:=bV (decide (((xs.length:Nat):Int)≥most))) rfl rfl rfl (Ys.yc (Ys.p)) (.inr fun _ h_=>h_) ?_))))
  refine Wd.yc (v:=bV (decide (((xs.length:Nat):Int)≥most))) rfl rfl rfl (Ys.yc (Ys.p)) (.inr fun _ h_=>h_) (A7 (hK12 _ _ _ ?_))
  refine Ao (decide (((xs.length:Nat):Int)≥most)) Ae (fun h14=>?_) (fun h15=>?_)
  ·have qh14:=h14;try simp only[zA]at qh14
   refine Ad (fun K16 hK16=>Aa (Ab 1 (Ac (hK16 _ _ _ ?_))))
   refine Aq (fn:=Tryz.f154) rfl ?_
   have hB:Db LO.int most xs k v=xs:=by unfold Db;rw[h9];simp only[cond_true,cond_false];rw[h14];simp only[cond_true,cond_false]
   exact fun w_ hS_=>Bb rfl (Aw (iV .i64 20)) hS_ ⟨g,(by rw[hB];exact ok),congrArg Ending.returned ((by unfold Kr;simp only[h9,h14,cond_true,cond_false])),(Mem.cast (by rw[hB];rfl) (hS_.pick [1,2] Al rfl))⟩
  ·have qh15:=h15;try simp only[zA]at qh15
   refine Bz [(0,true),(1,true),(2,true),(3,true),(4,true),(5,true),(6,true),(7,false),(8,false),(9,false),(10,false),(11,false),(12,false),(13,false)] [0,1,2,3,4,5,6] (Mem w M [Qa p5 v,Qb g most tb xs]) Ae Ae Ae rfl Ae (fun _ _ h_=>h_.drawn _) (fun _ h_=>h_.pick [0,2] Al rfl) (Ay 4 (Wd.ys rfl rfl rfl (An tb 0 1 0 Tryz.isAgg161) (Ay 2 (Wd.yc (v:=aV (Qc v)) rfl rfl rfl (Ys.yc (A0 p5 0 0 0 (Qc v) Tryz.isAgg47 Tryz.sizeOf47)) (.inr fun _ h_=>h_.pick [0,2] Al rfl) ?_))))
   refine Wd.yc (v:=aV [iV .u64 k,iV .u8 v.1,iV .u32 v.2.1,iV .u32 v.2.2.1,iV .u16 v.2.2.2.1,iV .u16 v.2.2.2.2]) rfl rfl rfl (Ys.yc (Ys.p)) (.inr fun _ h_=>h_.pick [0,2] Al rfl) (B8 rfl rfl (Bd (mk:=fun b_=>.slice (some ⟨b_,0,none⟩) 1 1) (t:=223) (cs:=[iV .u64 k,iV .u8 v.1,iV .u32 v.2.1,iV .u32 v.2.2.1,iV .u16 v.2.2.2.1,iV .u16 v.2.2.2.2]) rfl (fun _=>kr)) (.inr fun _ _ h_=>h_.pick [1,3] Al rfl) (fun p24=>?_))
   obtain⟨Z17,hZ18⟩: ∃Z,xs.take (Be LO.int xs k)++(k,v)::xs.drop (Be LO.int xs k)=Z:=⟨_,rfl⟩
   refine Cd rfl rfl (Au [2,0] [1,3] (fun w_ hm_ hl_=>(Adx g xs Z17 (k,v) p24 (Be LO.int xs k) _ _ hZ18 hl_ ok (by have z_:= @F8;first|omega|exact F8) Ag))) (.inr fun _ _ h_=>h_.pick [1,2] Al rfl) (fun g19 hx23=>?_)
   obtain⟨ok20,nn21⟩:=hx23
   refine Wd.yc (v:=pV tb 0) rfl rfl rfl (Ys.yc (Ys.p)) (.inl Ae) (Wd.yc (v:=pV tb 0) rfl rfl rfl (Ys.yc (Ys.p)) (.inl Ae) (B8 rfl rfl (Bg tb 0 2 0 (sV g19 Z17.length) Tryz.sizeOf161 rfl rfl) (.inl Ae) (fun _=>A7 (hK5 _ _ _ ?_))))
   refine Ap [0,2] Al rfl (Ad (fun K25 hK25=>?_))
   refine Aa (Ab 1 (Ac (hK25 _ _ _ (Aq (fn:=Tryz.f154) rfl ?_))))
   have hB:Db LO.int most xs k v=Z17:=by unfold Db;rw[h9];simp only[cond_true,cond_false];rw[h15];simp only[cond_true,cond_false];rw[Jz h9];exact hZ18
   exact fun w_ hS_=>Bb rfl (Aw (iV .i64 0)) hS_ ⟨g19,(by rw[hB];exact ok20),congrArg Ending.returned ((by unfold Kr;simp only[h9,h15,cond_true,cond_false])),(Mem.cast (by rw[hB];rfl) (hS_.pick [0,1] Al rfl))⟩
theorem Adz(xs:List ((Int)×(Int×Int×Int×Int×Int)))(g:FS)(most:Int)(tb:Nat)(M:List Nat)(k:Int)(w:World)(hl:Mem w M [g.seg 223 (mm Hy xs),[cb tb [sL g.a xs.length g.cap,Value.int .i64 most,Value.func (.func 35) #[] #[]] 163]] w)(ok:g.ok 6 xs.length)(hn:xs.length≤100000)(hs:Fn LO.int xs):Calls Tryz.prog 77 #[pV tb 0,iV .u64 k] w (Bj w (fun g':FS=>g'.ok 6 (C0 xs k).length) (fun _=>bV (Bl xs k)) M (fun g'=>[g'.seg 223 (mm Hy (C0 xs k)),[cb tb [.slice g'.a (C0 xs k).length g'.cap,.int .i64 most,Value.func (.func 35) #[] #[]] 163]])):=by
 refine Ar (M:=M) (LL:=[g.seg 223 (mm Hy xs),[cb tb [sV g xs.length,iV .i64 most,Value.func (.func 35) #[] #[]] 163]]) (n:=26) Tryz.func77 rfl rfl A5 (hl) (Ad (fun K1 hK1=>?_))
 refine Aa (Ab 1 (Ac (hK1 _ _ _ (Ad (fun K2 hK2=>?_)))))
 refine Aa (Ab 2 (B0 (v:=Value.tuple #[nV .i64 (Be LO.int xs k),bV (Bl xs k)]) (A9 (fun w_ hm_=>(R6 xs g.a g.cap most tb k _ (Az (i:=1) (j:=0) (t:=163) (b:=tb) hm_ rfl rfl) (FS.at (i:=0) (t:=223) hm_ rfl (Aj ok (Oy _))) Fb hs))) (Ab 5 (Ac ?_))))
 refine hK2 _ _ _ (Ad (fun K4 hK4=>?_))
 refine Ad (fun K5 hK5=>Aa (Ab 1 (Ac (hK5 _ _ _ ?_))))
 refine Ao (Bl xs k) Ae (fun h6=>?_) (fun h7=>?_)
 ·have hps_:=F9 dN hs h6
  refine Aa (Ab 4 (Ah (An tb 0 1 0 Tryz.isAgg161) (Ab 2 (Ah (v:=nV .i64 ((Be LO.int xs k)+1)) ((Ys.p (v:=.int .i64 (Bt .i64 (Be LO.int xs k:Int) 1))).conseq (Af (A6 Ag Ag Ag))) ?_))))
  obtain⟨Z8,hZ9⟩: ∃Z,xs.take (Be LO.int xs k)++xs.drop ((Be LO.int xs k)+1)=Z:=⟨_,rfl⟩
  refine Ax rfl (Au [0] [1] (fun w_ hm_ hl_=>(Ady g xs Z8 (Be LO.int xs k) _ _ hZ9 hl_ ok hps_.1 Ag))) (fun g10 hx14=>?_)
  obtain⟨ok11,nn12⟩:=hx14
  refine Ab 2 (Ai rfl (Bg tb 0 1 0 (sV g10 Z8.length) Tryz.sizeOf161 rfl rfl) (fun _=>?_))
  refine Ac (hK4 _ _ _ (Ad (fun K16 hK16=>Aa (Ab 2 ?_))))
  refine Ac (hK16 _ _ _ (Aq (fn:=Tryz.f77) rfl ?_))
  have hB:C0 xs k=Z8:=by rw[Jg hs h6];exact hZ9
  exact fun w_ hS_=>Bb rfl (Aw (bV (Bl xs k))) hS_ ⟨g10,(by rw[hB];exact ok11),congrArg Ending.returned ((by rw[h6])),(Mem.cast (by rw[hB];rfl) (hS_.pick [0,1] Al rfl))⟩
 ·refine Ak (hK4 _ _ _ (Ad (fun K19 hK19=>Aa (Ab 2 ?_))))
  refine Ac (hK19 _ _ _ (Aq (fn:=Tryz.f77) rfl ?_))
  have hB:C0 xs k=xs:=by exact Ls h7
  exact fun w_ hS_=>Bb rfl (Aw (bV (Bl xs k))) hS_ ⟨g,(by rw[hB];exact ok),congrArg Ending.returned ((by rw[h7])),(Mem.cast (by rw[hB];rfl) (hS_.pick [0,1] Al rfl))⟩
theorem Z2(xs:List ((Int×Int×Int×Int×Int)×(Option Nat)))(a:Option Addr)(cap:Nat)(w:World)(hls:At w a (mm Fo xs))(hn:xs.length≤100000):Calls Tryz.prog 73 #[sL a xs.length cap] w (Bj w (fun g':FS=>g'.ok 6 xs.length) (fun g'=>.slice g'.a xs.length g'.cap) [] (fun g'=>[g'.seg 173 (mm Fo xs)])):=by
 refine Ar (M:=[]) (LL:=[]) (n:=8) Tryz.func73 rfl rfl A5 (Mem.refl _) (Ad (fun K1 hK1=>?_))
 refine Aa (Ab 1 (Ac (hK1 _ _ _ (Ad (fun K2 hK2=>?_)))))
 refine Ad (fun K3 hK3=>Aa (Ab 1 (Ah (v:=bV a.isNone) (Ys.pure (fun _=>by generalize a=a_;cases a_<;>kernel_rfl)) (Ac ?_))))
 refine hK3 _ _ _ ?_
 refine Ao (a.isNone) Ae (fun h5=>?_) (fun h6=>?_)
 ·refine Ad (fun K7 hK7=>Aa (Ab 1 (Ac (hK7 _ _ _ ?_))))
  refine Aq (fn:=Tryz.f73) rfl ?_
  have hx0_:xs=[]:=List.length_eq_zero_iff.1 (by have z_:=Kq hls h5;rw[Jh]at z_;omega)
  exact fun w_ hS_=>Bb rfl (Aw (sL none 0 0)) hS_ ⟨FS.nul,(by rw[hx0_];exact Bw 6),congrArg Ending.returned ((by rw[hx0_];rfl)),(Mem.cast (by rw[hx0_];rfl) (Mem.push hS_))⟩
 ·refine Ak (hK2 _ _ _ (Ad (fun K9 hK9=>Aa (Ai rfl (Bd (mk:=fun b_=>.slice (some ⟨b_,0,none⟩) 0 0) (t:=173) (cs:=[]) rfl (fun _=>kr)) (fun p5=>?_)))))
  refine Ab 1 (Ax rfl (HtS.append (eu:=173) (xv:=sL a xs.length cap) (i:=0) (g:=(FS.mk false p5 0 [])) (e:=173) (ii:=(Tryz.prog.info? 173).getD default) (z:=aV zl4) (sz:=6) (bytes:=24) (nn:=0) (m:=xs.length) (k:=xs.length) (xs:=mm Fo []) (news:=mm Fo xs) (cs':=mm Fo xs) (Lo:=fun g10=>[g10.seg 173 (mm Fo xs)]) rfl rfl Ae Ae Ae Ae Ae Ae Ae Ae Ae rfl (Dp Al) rfl (fun _=>rfl) (Src.at (a:=a) (B6 (g:=Fo) (sz:=6) (fun _=>rfl) _) (fun w_ h_=>(hls.mem0 h_))) (B6 (g:=Fo) (sz:=6) (fun _=>rfl) _) (Gq Nv _) Ef Gv Ef rfl (fun _=>rfl)) (fun g10 hx15=>?_))
  obtain⟨ok11,hn12,hn13⟩:=hx15
  refine Ab 1 (Ac (hK9 _ _ _ (Aq (fn:=Tryz.f73) rfl (fun w_ hS_=>Bb rfl (Aw (sV g10 xs.length)) hS_ ⟨g10,ok11,rfl,(hS_.pick [0] Al rfl)⟩))))
theorem Ahv(tb:Nat)(w:World):Calls Tryz.prog 38 #[pV tb 0] w (Bj w (fun _:Nat=>True) (fun b=>.func (.func 72) #[] #[.pointer (some ⟨b,0,none⟩)]) [] (fun b=>[[cb b [.pointer (some ⟨tb,0,none⟩)] 85]])):=by
 refine Ar (M:=[]) (LL:=[]) (n:=4) Tryz.func38 rfl rfl A5 (Mem.refl _) (Ad (fun K1 hK1=>?_))
 refine Aa (Ai rfl (Fl (v:=pV tb 0) (cs:=[pV tb 0]) rfl rfl Ae rfl) (fun p1=>?_))
 refine Ab 1 (Ac (hK1 _ _ _ (Ad (fun K3 hK3=>Aa ?_))))
 refine Ab 2 (Ac (hK3 _ _ _ (Aq (fn:=Tryz.f38) rfl (fun w_ hS_=>Bb rfl (Aw (Value.func (.func 72) #[] #[pV p1 0])) hS_ ⟨p1,trivial,rfl,(hS_.pick [0] Al rfl)⟩))))
theorem Ad0(xs:List ((Int×Int×Int×Int×Int)×(Option Nat)))(a:Option Addr)(cap:Nat)(most:Int)(tb pt:Nat)(M:List Nat)(τ:Type)(yv:Value)(U:τ→List Blk)(Φ:Nat→τ→Prop)(Ψ:τ→Prop)(s0:τ)(w:World)(htb:At w (some ⟨tb,0,none⟩) [sL a xs.length cap,Value.int .i64 most,Value.func (.func 31) #[] #[]])(hls:At w a (mm Fo xs))(hn:xs.length≤100000)(hyl:(∀i s (R:List (List Blk)) (u:World) (Mu:List Nat),i<xs.length→Φ i s→Keeps w M u Mu→Yld Tryz.prog yv ((fun k:Nat=>[Value.agg ([Value.int .u8 (((xs.getD k dS).1).1),Value.int .u32 (((xs.getD k dS).1).2.1),Value.int .u32 (((xs.getD k dS).1).2.2.1),Value.int .u16 (((xs.getD k dS).1).2.2.2.1),Value.int .u16 (((xs.getD k dS).1).2.2.2.2)]).toArray,pL (Cs ((xs.getD k dS).2))]) i).toArray (Mem u Mu (U s::R)) (fun b w'=> ∃s',(bif b then Φ (i+1) s' else Ψ s')∧Mem u Mu (U s'::R) w')))(h0:Φ 0 s0)(hl:Mem w M [U s0,[cb pt [pL (some ⟨tb,0,none⟩)] 85]] w)(hMs: ∀k∈M,k∈([U s0,[cb pt [pL (some ⟨tb,0,none⟩)] 85]]:List (List Blk)).flatten.map (·.b)):Calls Tryz.prog 72 #[yv,pV pt 0] w (Bj w (fun s:τ=>Φ xs.length s∨Ψ s) (fun _=>.tuple #[]) M (fun s=>[U s,[cb pt [pV tb 0] 85]])):=by
 refine Ar (M:=M) (LL:=[U s0,[cb pt [pV tb 0] 85]]) (n:=23) Tryz.func72 rfl rfl A5 (hl) (Ad (fun K1 hK1=>?_))
 refine Aa (Ah (An pt 0 1 0 Tryz.isAgg85) (Ab 2 (Ah (Ys.ld (a:=⟨tb,0,none⟩) rfl Ae Tryz.isAgg151 (fun w_ h_=>by have x_:=(Nr htb hl hMs h_).ld (q:=0) (v:=sL a xs.length cap) rfl;rw[Br]at x_;exact x_)) (Ax rfl (Au [] [0,1] (fun w_ hm_ hl_=>(Z2 xs a cap _ (Nr hls hl hMs hm_) Fb))) (fun g2 ok3=>?_)))))
 refine Ab 2 (Ac (hK1 _ _ _ (W.block (E6 [0,9,10,11] (fun(k:Nat) (s:τ)=>[yv,sV g2 xs.length,nV .i64 xs.length,nV .i64 k]) (fun(k:Nat) (s:τ)=>k≤xs.length∧Φ k s) (fun(k:Nat) (s:τ)=>[g2.seg 173 (mm Fo xs),U s,[cb pt [pV tb 0] 85]]) (fun(k:Nat) (s:τ)=>xs.length-k) 0 s0 Ae ⟨(Nat.zero_le _),h0⟩ (by rfl) (fun k s f7 J6 hp8 hJ6=>?_)))))
 obtain⟨hk,hphi⟩:=hp8
 refine Ad (fun K9 hK9=>Aa (Ab 1 (Ac (hK9 _ _ _ ?_))))
 refine Ad (fun K10 hK10=>?_)
 refine Ao (decide (((k:Nat):Int)<(xs.length:Int))) Ae (fun h11=>?_) (fun h12=>?_)
 ·have qh11:=h11;try simp only[zA]at qh11
  refine Ak (hK10 _ _ _ (Ad (fun K14 hK14=>W.block (Ad (fun K15 hK15=>?_)))))
  refine Aa (Ah (v:=pL (some (Co g2.a (k*6)))) (Av (k:=.i64) (a:=g2.a) (len:=xs.length) (cap:=g2.cap) (i:=(k:Int)) (sz:=6) rfl Ae Ae Tryz.runUnderlying151 Tryz.sizeOf173 Ag Ag (by rw[Eb (C5 ok3 Ag)];rfl)) (Ah (v:=aV [iV .u8 (((xs.getD k dS).1).1),iV .u32 (((xs.getD k dS).1).2.1),iV .u32 (((xs.getD k dS).1).2.2.1),iV .u16 (((xs.getD k dS).1).2.2.2.1),iV .u16 (((xs.getD k dS).1).2.2.2.2),pL (Cs ((xs.getD k dS).2))]) (Ys.ldN (a:=Co g2.a (k*6)) (vs:=[iV .u8 (((xs.getD k dS).1).1),iV .u32 (((xs.getD k dS).1).2.1),iV .u32 (((xs.getD k dS).1).2.2.1),iV .u16 (((xs.getD k dS).1).2.2.2.1),iV .u16 (((xs.getD k dS).1).2.2.2.2),pL (Cs ((xs.getD k dS).2))]) rfl Ae Tryz.isAgg173 Tryz.sizeOf173 rfl (fun w_ h_=>(FS.at (i:=0) (t:=173) h_ rfl (Aj ok3 (Jh _))).ldN (Ei (g:=Fo) (sz:=6) (fun _=>rfl) dS (xs:=xs) (k:=k) Ag))) (Ai rfl (Bc Tryz.zeroValue173) (fun p4=>Ai rfl (A4 p4 0 0 0 [iV .u8 (((xs.getD k dS).1).1),iV .u32 (((xs.getD k dS).1).2.1),iV .u32 (((xs.getD k dS).1).2.2.1),iV .u16 (((xs.getD k dS).1).2.2.2.1),iV .u16 (((xs.getD k dS).1).2.2.2.2),pL (Cs ((xs.getD k dS).2))] Tryz.sizeOf173 rfl rfl) (fun _=>?_)))))
  refine Ac (hK15 _ _ _ (Ad (fun K17 hK17=>Aa (Ab 2 ?_))))
  refine Ah (A0 p4 0 0 0 [iV .u8 (((xs.getD k dS).1).1),iV .u32 (((xs.getD k dS).1).2.1),iV .u32 (((xs.getD k dS).1).2.2.1),iV .u16 (((xs.getD k dS).1).2.2.2.1),iV .u16 (((xs.getD k dS).1).2.2.2.2)] Tryz.isAgg47 Tryz.sizeOf47) (Ab 1 (Ah (An p4 5 0 0 Tryz.isAgg93) (Lb rfl (Io (σ:=τ) (Φ:=fun b s=>bif b then Φ (k+1) s else Ψ s) (Lf:=fun s=>[U s,[cb p4 [iV .u8 (((xs.getD k dS).1).1),iV .u32 (((xs.getD k dS).1).2.1),iV .u32 (((xs.getD k dS).1).2.2.1),iV .u16 (((xs.getD k dS).1).2.2.2.1),iV .u16 (((xs.getD k dS).1).2.2.2.2),pL (Cs ((xs.getD k dS).2))] 173],g2.seg 173 (mm Fo xs),[cb pt [pV tb 0] 85]]) (args:= #[aV [iV .u8 (((xs.getD k dS).1).1),iV .u32 (((xs.getD k dS).1).2.1),iV .u32 (((xs.getD k dS).1).2.2.1),iV .u16 (((xs.getD k dS).1).2.2.2.1),iV .u16 (((xs.getD k dS).1).2.2.2.2)],pL (Cs ((xs.getD k dS).2))]) rfl rfl (fun _=>kr) (Lm rfl (Ns (fun _ h_=>h_.pick [2,0,1,3] Al rfl)<|hyl (k) s [[cb p4 [iV .u8 (((xs.getD k dS).1).1),iV .u32 (((xs.getD k dS).1).2.1),iV .u32 (((xs.getD k dS).1).2.2.1),iV .u16 (((xs.getD k dS).1).2.2.2.1),iV .u16 (((xs.getD k dS).1).2.2.2.2),pL (Cs ((xs.getD k dS).2))] 173],g2.seg 173 (mm Fo xs),[cb pt [pV tb 0] 85]] w M Ag hphi (Keeps.refl _ _)))) (fun x21=>?_))))
  obtain⟨⟨b18,s19⟩,hs20⟩:=x21
  refine Bu (LL':=[U s19,[cb p4 [iV .u8 (((xs.getD k dS).1).1),iV .u32 (((xs.getD k dS).1).2.1),iV .u32 (((xs.getD k dS).1).2.2.1),iV .u16 (((xs.getD k dS).1).2.2.2.1),iV .u16 (((xs.getD k dS).1).2.2.2.2),pL (Cs ((xs.getD k dS).2))] 173],g2.seg 173 (mm Fo xs),[cb pt [pV tb 0] 85]]) rfl (Ab 1 (Ac (hK17 _ _ _ (Ap [0,2,3] Al rfl ?_))))
  refine Ao (!b18) Ae (fun h23=>?_) (fun h24=>?_)
  ·refine Aq (fn:=Tryz.f72) rfl (fun w_ hS_=>Il rfl ⟨s19,(.inr (by have hb_:b18=false:=(by simpa using h23);rw[hb_]at hs20;exact hs20)),rfl,(hS_.pick [0,2] Al rfl)⟩)
  ·refine Ak (hK14 _ _ _ (Aa (Ah (v:=nV .i64 (k+1)) ((Ys.p (v:=.int .i64 (Bt .i64 (k:Int) 1))).conseq (Af (A6 Ag Ag Ag))) (Ab 1 ?_))))
   refine Ac ?_
   refine fun w_ h_=>hJ6 (k+1) s19 _ w_ Ag ⟨Ag,(by have hb_:b18=true:=(by simpa using h24);rw[hb_]at hs20;exact hs20)⟩ ?_ (h_.pick [1,0,2] Al rfl)
   kernel_rfl
 ·have qh12:=h12;try simp only[zA]at qh12
  refine Cr ?_
  show∀w_,_→bodyPostM (Cy none) 0 Tryz.prog Tryz.f72 _ Exit.normal _ w_
  exact fun w_ hS_=>Dq (Il rfl ⟨s,(.inl (by rw[show xs.length=k by omega];exact hphi)),rfl,(hS_.pick [1,2] Al rfl)⟩)
theorem Ad1(xs:List ((Int×Int×Int×Int×Int)×(Option Nat)))(a:Option Addr)(cap:Nat)(most:Int)(tb pt:Nat)(M:List Nat)(w:World)(htb:At w (some ⟨tb,0,none⟩) [Value.slice a xs.length cap,Value.int .i64 most,Value.func (.func 31) #[] #[]])(hls:At w a (mm Fo xs))(hn:xs.length≤100000):
    Iter2 Tryz.prog 72 #[.pointer (some ⟨pt,0,none⟩)] (fun k:Nat=>[Value.agg ([Value.int .u8 (((xs.getD k dS).1).1),Value.int .u32 (((xs.getD k dS).1).2.1),Value.int .u32 (((xs.getD k dS).1).2.2.1),Value.int .u16 (((xs.getD k dS).1).2.2.2.1),Value.int .u16 (((xs.getD k dS).1).2.2.2.2)]).toArray,Value.pointer (Cs ((xs.getD k dS).2))]) xs.length [[cb pt [Value.pointer (some ⟨tb,0,none⟩)] 85]] w M:=fun τ yv U Φ Ψ s0 hyl h0 hl hMs=>Ad0 xs a cap most tb pt M τ yv U Φ Ψ s0 w htb hls hn hyl h0 hl hMs
theorem Z3(xs:List ((Int×Int×Int)×(Lse)))(a:Option Addr)(cap:Nat)(w:World)(hls:At w a (mm Fu xs))(hn:xs.length≤100000):Calls Tryz.prog 121 #[sL a xs.length cap] w (Bj w (fun g':FS=>g'.ok 5 xs.length) (fun g'=>.slice g'.a xs.length g'.cap) [] (fun g'=>[g'.seg 234 (mm Fu xs)])):=by
 refine Ar (M:=[]) (LL:=[]) (n:=8) Tryz.func121 rfl rfl A5 (Mem.refl _) (Ad (fun K1 hK1=>?_))
 refine Aa (Ab 1 (Ac (hK1 _ _ _ (Ad (fun K2 hK2=>?_)))))
 refine Ad (fun K3 hK3=>Aa (Ab 1 (Ah (v:=bV a.isNone) (Ys.pure (fun _=>by generalize a=a_;cases a_<;>kernel_rfl)) (Ac ?_))))
 refine hK3 _ _ _ ?_
 refine Ao (a.isNone) Ae (fun h5=>?_) (fun h6=>?_)
 ·refine Ad (fun K7 hK7=>Aa (Ab 1 (Ac (hK7 _ _ _ ?_))))
  refine Aq (fn:=Tryz.f121) rfl ?_
  have hx0_:xs=[]:=List.length_eq_zero_iff.1 (by have z_:=Kq hls h5;rw[Ji]at z_;omega)
  exact fun w_ hS_=>Bb rfl (Aw (sL none 0 0)) hS_ ⟨FS.nul,(by rw[hx0_];exact Bw 5),congrArg Ending.returned ((by rw[hx0_];rfl)),(Mem.cast (by rw[hx0_];rfl) (Mem.push hS_))⟩
 ·refine Ak (hK2 _ _ _ (Ad (fun K9 hK9=>Aa (Ai rfl (Bd (mk:=fun b_=>.slice (some ⟨b_,0,none⟩) 0 0) (t:=234) (cs:=[]) rfl (fun _=>kr)) (fun p5=>?_)))))
  refine Ab 1 (Ax rfl (HtS.append (eu:=234) (xv:=sL a xs.length cap) (i:=0) (g:=(FS.mk false p5 0 [])) (e:=234) (ii:=(Tryz.prog.info? 234).getD default) (z:=aV zl9) (sz:=5) (bytes:=32) (nn:=0) (m:=xs.length) (k:=xs.length) (xs:=mm Fu []) (news:=mm Fu xs) (cs':=mm Fu xs) (Lo:=fun g10=>[g10.seg 234 (mm Fu xs)]) rfl rfl Ae Ae Ae Ae Ae Ae Ae Ae Ae rfl (Dp Al) rfl (fun _=>rfl) (Src.at (a:=a) (B6 (g:=Fu) (sz:=5) (fun _=>rfl) _) (fun w_ h_=>(hls.mem0 h_))) (B6 (g:=Fu) (sz:=5) (fun _=>rfl) _) (Gq Nw _) Ef Gv Ef rfl (fun _=>rfl)) (fun g10 hx15=>?_))
  obtain⟨ok11,hn12,hn13⟩:=hx15
  refine Ab 1 (Ac (hK9 _ _ _ (Aq (fn:=Tryz.f121) rfl (fun w_ hS_=>Bb rfl (Aw (sV g10 xs.length)) hS_ ⟨g10,ok11,rfl,(hS_.pick [0] Al rfl)⟩))))
theorem Ahw(tb:Nat)(w:World):Calls Tryz.prog 71 #[pV tb 0] w (Bj w (fun _:Nat=>True) (fun b=>.func (.func 120) #[] #[.pointer (some ⟨b,0,none⟩)]) [] (fun b=>[[cb b [.pointer (some ⟨tb,0,none⟩)] 86]])):=by
 refine Ar (M:=[]) (LL:=[]) (n:=4) Tryz.func71 rfl rfl A5 (Mem.refl _) (Ad (fun K1 hK1=>?_))
 refine Aa (Ai rfl (Fl (v:=pV tb 0) (cs:=[pV tb 0]) rfl rfl Ae rfl) (fun p1=>?_))
 refine Ab 1 (Ac (hK1 _ _ _ (Ad (fun K3 hK3=>Aa ?_))))
 refine Ab 2 (Ac (hK3 _ _ _ (Aq (fn:=Tryz.f71) rfl (fun w_ hS_=>Bb rfl (Aw (Value.func (.func 120) #[] #[pV p1 0])) hS_ ⟨p1,trivial,rfl,(hS_.pick [0] Al rfl)⟩))))
theorem Ad2(xs:List ((Int×Int×Int)×(Lse)))(a:Option Addr)(cap:Nat)(most:Int)(tb pt:Nat)(M:List Nat)(τ:Type)(yv:Value)(U:τ→List Blk)(Φ:Nat→τ→Prop)(Ψ:τ→Prop)(s0:τ)(w:World)(htb:At w (some ⟨tb,0,none⟩) [sL a xs.length cap,Value.int .i64 most,Value.func (.func 33) #[] #[]])(hls:At w a (mm Fu xs))(hn:xs.length≤100000)(hyl:(∀i s (R:List (List Blk)) (u:World) (Mu:List Nat),i<xs.length→Φ i s→Keeps w M u Mu→Yld Tryz.prog yv ((fun k:Nat=>[Value.agg ([Value.int .u8 (((xs.getD k dD).1).1),Value.int .u32 (((xs.getD k dD).1).2.1),Value.int .u16 (((xs.getD k dD).1).2.2)]).toArray,Value.agg ([Value.int .u16 (((xs.getD k dD).2).ext),Value.int .i64 (((xs.getD k dD).2).count)]).toArray]) i).toArray (Mem u Mu (U s::R)) (fun b w'=> ∃s',(bif b then Φ (i+1) s' else Ψ s')∧Mem u Mu (U s'::R) w')))(h0:Φ 0 s0)(hl:Mem w M [U s0,[cb pt [pL (some ⟨tb,0,none⟩)] 86]] w)(hMs: ∀k∈M,k∈([U s0,[cb pt [pL (some ⟨tb,0,none⟩)] 86]]:List (List Blk)).flatten.map (·.b)):Calls Tryz.prog 120 #[yv,pV pt 0] w (Bj w (fun s:τ=>Φ xs.length s∨Ψ s) (fun _=>.tuple #[]) M (fun s=>[U s,[cb pt [pV tb 0] 86]])):=by
 refine Ar (M:=M) (LL:=[U s0,[cb pt [pV tb 0] 86]]) (n:=23) Tryz.func120 rfl rfl A5 (hl) (Ad (fun K1 hK1=>?_))
 refine Aa (Ah (An pt 0 1 0 Tryz.isAgg86) (Ab 2 (Ah (Ys.ld (a:=⟨tb,0,none⟩) rfl Ae Tryz.isAgg158 (fun w_ h_=>by have x_:=(Nr htb hl hMs h_).ld (q:=0) (v:=sL a xs.length cap) rfl;rw[Br]at x_;exact x_)) (Ax rfl (Au [] [0,1] (fun w_ hm_ hl_=>(Z3 xs a cap _ (Nr hls hl hMs hm_) Fb))) (fun g2 ok3=>?_)))))
 refine Ab 2 (Ac (hK1 _ _ _ (W.block (E6 [0,9,10,11] (fun(k:Nat) (s:τ)=>[yv,sV g2 xs.length,nV .i64 xs.length,nV .i64 k]) (fun(k:Nat) (s:τ)=>k≤xs.length∧Φ k s) (fun(k:Nat) (s:τ)=>[g2.seg 234 (mm Fu xs),U s,[cb pt [pV tb 0] 86]]) (fun(k:Nat) (s:τ)=>xs.length-k) 0 s0 Ae ⟨(Nat.zero_le _),h0⟩ (by rfl) (fun k s f7 J6 hp8 hJ6=>?_)))))
 obtain⟨hk,hphi⟩:=hp8
 refine Ad (fun K9 hK9=>Aa (Ab 1 (Ac (hK9 _ _ _ ?_))))
 refine Ad (fun K10 hK10=>?_)
 refine Ao (decide (((k:Nat):Int)<(xs.length:Int))) Ae (fun h11=>?_) (fun h12=>?_)
 ·have qh11:=h11;try simp only[zA]at qh11
  refine Ak (hK10 _ _ _ (Ad (fun K14 hK14=>W.block (Ad (fun K15 hK15=>?_)))))
  refine Aa (Ah (v:=pL (some (Co g2.a (k*5)))) (Av (k:=.i64) (a:=g2.a) (len:=xs.length) (cap:=g2.cap) (i:=(k:Int)) (sz:=5) rfl Ae Ae Tryz.runUnderlying158 Tryz.sizeOf234 Ag Ag (by rw[Eb (C5 ok3 Ag)];rfl)) (Ah (v:=aV [iV .u8 (((xs.getD k dD).1).1),iV .u32 (((xs.getD k dD).1).2.1),iV .u16 (((xs.getD k dD).1).2.2),iV .u16 (((xs.getD k dD).2).ext),iV .i64 (((xs.getD k dD).2).count)]) (Ys.ldN (a:=Co g2.a (k*5)) (vs:=[iV .u8 (((xs.getD k dD).1).1),iV .u32 (((xs.getD k dD).1).2.1),iV .u16 (((xs.getD k dD).1).2.2),iV .u16 (((xs.getD k dD).2).ext),iV .i64 (((xs.getD k dD).2).count)]) rfl Ae Tryz.isAgg234 Tryz.sizeOf234 rfl (fun w_ h_=>(FS.at (i:=0) (t:=234) h_ rfl (Aj ok3 (Ji _))).ldN (Ei (g:=Fu) (sz:=5) (fun _=>rfl) dD (xs:=xs) (k:=k) Ag))) (Ai rfl (Bc Tryz.zeroValue234) (fun p4=>Ai rfl (A4 p4 0 0 0 [iV .u8 (((xs.getD k dD).1).1),iV .u32 (((xs.getD k dD).1).2.1),iV .u16 (((xs.getD k dD).1).2.2),iV .u16 (((xs.getD k dD).2).ext),iV .i64 (((xs.getD k dD).2).count)] Tryz.sizeOf234 rfl rfl) (fun _=>?_)))))
  refine Ac (hK15 _ _ _ (Ad (fun K17 hK17=>Aa (Ab 2 ?_))))
  refine Ah (A0 p4 0 0 0 [iV .u8 (((xs.getD k dD).1).1),iV .u32 (((xs.getD k dD).1).2.1),iV .u16 (((xs.getD k dD).1).2.2)] Tryz.isAgg97 Tryz.sizeOf97) (Ab 1 (Ah (A0 p4 3 0 0 [iV .u16 (((xs.getD k dD).2).ext),iV .i64 (((xs.getD k dD).2).count)] Tryz.isAgg99 Tryz.sizeOf99) (Lb rfl (Io (σ:=τ) (Φ:=fun b s=>bif b then Φ (k+1) s else Ψ s) (Lf:=fun s=>[U s,[cb p4 [iV .u8 (((xs.getD k dD).1).1),iV .u32 (((xs.getD k dD).1).2.1),iV .u16 (((xs.getD k dD).1).2.2),iV .u16 (((xs.getD k dD).2).ext),iV .i64 (((xs.getD k dD).2).count)] 234],g2.seg 234 (mm Fu xs),[cb pt [pV tb 0] 86]]) (args:= #[aV [iV .u8 (((xs.getD k dD).1).1),iV .u32 (((xs.getD k dD).1).2.1),iV .u16 (((xs.getD k dD).1).2.2)],aV [iV .u16 (((xs.getD k dD).2).ext),iV .i64 (((xs.getD k dD).2).count)]]) rfl rfl (fun _=>kr) (Lm rfl (Ns (fun _ h_=>h_.pick [2,0,1,3] Al rfl)<|hyl (k) s [[cb p4 [iV .u8 (((xs.getD k dD).1).1),iV .u32 (((xs.getD k dD).1).2.1),iV .u16 (((xs.getD k dD).1).2.2),iV .u16 (((xs.getD k dD).2).ext),iV .i64 (((xs.getD k dD).2).count)] 234],g2.seg 234 (mm Fu xs),[cb pt [pV tb 0] 86]] w M Ag hphi (Keeps.refl _ _)))) (fun x21=>?_))))
  obtain⟨⟨b18,s19⟩,hs20⟩:=x21
  refine Bu (LL':=[U s19,[cb p4 [iV .u8 (((xs.getD k dD).1).1),iV .u32 (((xs.getD k dD).1).2.1),iV .u16 (((xs.getD k dD).1).2.2),iV .u16 (((xs.getD k dD).2).ext),iV .i64 (((xs.getD k dD).2).count)] 234],g2.seg 234 (mm Fu xs),[cb pt [pV tb 0] 86]]) rfl (Ab 1 (Ac (hK17 _ _ _ (Ap [0,2,3] Al rfl ?_))))
  refine Ao (!b18) Ae (fun h23=>?_) (fun h24=>?_)
  ·refine Aq (fn:=Tryz.f120) rfl (fun w_ hS_=>Il rfl ⟨s19,(.inr (by have hb_:b18=false:=(by simpa using h23);rw[hb_]at hs20;exact hs20)),rfl,(hS_.pick [0,2] Al rfl)⟩)
  ·refine Ak (hK14 _ _ _ (Aa (Ah (v:=nV .i64 (k+1)) ((Ys.p (v:=.int .i64 (Bt .i64 (k:Int) 1))).conseq (Af (A6 Ag Ag Ag))) (Ab 1 ?_))))
   refine Ac ?_
   refine fun w_ h_=>hJ6 (k+1) s19 _ w_ Ag ⟨Ag,(by have hb_:b18=true:=(by simpa using h24);rw[hb_]at hs20;exact hs20)⟩ ?_ (h_.pick [1,0,2] Al rfl)
   kernel_rfl
 ·have qh12:=h12;try simp only[zA]at qh12
  refine Cr ?_
  show∀w_,_→bodyPostM (Cy none) 0 Tryz.prog Tryz.f120 _ Exit.normal _ w_
  exact fun w_ hS_=>Dq (Il rfl ⟨s,(.inl (by rw[show xs.length=k by omega];exact hphi)),rfl,(hS_.pick [1,2] Al rfl)⟩)
theorem Ad3(xs:List ((Int×Int×Int)×(Lse)))(a:Option Addr)(cap:Nat)(most:Int)(tb pt:Nat)(M:List Nat)(w:World)(htb:At w (some ⟨tb,0,none⟩) [Value.slice a xs.length cap,Value.int .i64 most,Value.func (.func 33) #[] #[]])(hls:At w a (mm Fu xs))(hn:xs.length≤100000):
    Iter2 Tryz.prog 120 #[.pointer (some ⟨pt,0,none⟩)] (fun k:Nat=>[Value.agg ([Value.int .u8 (((xs.getD k dD).1).1),Value.int .u32 (((xs.getD k dD).1).2.1),Value.int .u16 (((xs.getD k dD).1).2.2)]).toArray,Value.agg ([Value.int .u16 (((xs.getD k dD).2).ext),Value.int .i64 (((xs.getD k dD).2).count)]).toArray]) xs.length [[cb pt [Value.pointer (some ⟨tb,0,none⟩)] 86]] w M:=fun τ yv U Φ Ψ s0 hyl h0 hl hMs=>Ad2 xs a cap most tb pt M τ yv U Φ Ψ s0 w htb hls hn hyl h0 hl hMs
namespace ZW
theorem drop_take{cs r:List Value}{n i s:Nat}(hc:cs.length=n*s)(hi:i≤n):((cs++r).drop (i*s)).take ((n-i)*s)=cs.drop (i*s):=by
  have h:i*s≤n*s:=Nat.mul_le_mul_right _ hi
  rw[List.drop_append_of_le_length Ag,List.take_append_of_le_length Ti]
  exact List.take_of_length_le Ti
theorem one_drop{cs:List Value}(h: ∀v∈cs,v.oneCell'=true)(k:Nat): ∀v∈cs.drop k,v.oneCell'=true:=fun v hv=>h v (List.mem_of_mem_drop hv)
theorem putAt_app{a b c:List Value}{o:Nat}{v:List Value}(ho:o=a.length)(hv:v.length=b.length):Bn (a++(b++c)) o v=a++(v++c):=by
  subst ho;unfold Bn
  rw[List.take_left,hv,←List.drop_drop,List.drop_left,List.drop_left]
theorem ins_in{cs r news A1 A2:List Value}{n i:Nat}(hc:cs.length=n*2)(hi:i<n)(hn:news.length=2)(hr:2≤r.length)(h1:Bn (cs++r) ((i+1)*2) (cs.drop (i*2))=A1)(h2:Bn A1 (i*2) news=A2):
    A2=(cs.take (i*2)++(news++cs.drop (i*2)))++r.drop 2:=by
  subst h1;subst h2
  obtain⟨a,b,rfl,ha⟩: ∃a b,cs=a++b∧a.length=i*2:=⟨cs.take (i*2),cs.drop (i*2),(List.take_append_drop _ _).symm,by rw[List.length_take];omega⟩
  rw[List.length_append]at hc
  obtain⟨x,r',rfl,hx⟩: ∃x r',r=x++r'∧x.length=2:=⟨r.take 2,r.drop 2,(List.take_append_drop _ _).symm,by rw[List.length_take];omega⟩
  rw[←ha,List.drop_left,List.take_left]
  have e:Bn (a++b++(x++r')) ((i+1)*2) b=a++(b.take 2++(b++r')):=by
    have hb:b=b.take 2++b.drop 2:=(List.take_append_drop _ _).symm
    have hb2:(b.take 2).length=2:=by rw[List.length_take];omega
    have e1:a++b++(x++r')=(a++b.take 2)++((b.drop 2++x)++r'):=by
      rw[List.append_assoc,List.append_assoc,List.append_assoc]
      congr 1
      rw[←List.append_assoc (b.take 2),←hb]
    rw[e1,putAt_app (by rw[List.length_append,hb2];omega) (by rw[List.length_append,List.length_drop,hx];omega),List.append_assoc]
  rw[e,putAt_app rfl (by rw[List.length_take,hn];omega)]
  rw[show(x++r').drop 2=r' by rw[←hx,List.drop_left]]
  simp only[List.append_assoc]
theorem ins_own{cs R news A1 A2:List Value}{n i:Nat}(hc:cs.length=n*2)(hi:i<n)(hn:news.length=2)(hR:(n+1-i)*2≤R.length)(h1:Bn (cs.take (i*2)++R) (i*2) news=A1)(h2:Bn A1 ((i+1)*2) (cs.drop (i*2))=A2):
    A2=(cs.take (i*2)++(news++cs.drop (i*2)))++R.drop ((n+1-i)*2):=by
  subst h1;subst h2
  have ha:(cs.take (i*2)).length=i*2:=by rw[List.length_take];omega
  have hd:(cs.drop (i*2)).length=(n-i)*2:=by rw[List.length_drop];omega
  obtain⟨x,y,z,rfl,hx,hy⟩: ∃x y z,R=x++(y++z)∧x.length=2∧y.length=(n-i)*2:=
    ⟨R.take 2,(R.drop 2).take ((n-i)*2),(R.drop 2).drop ((n-i)*2),by rw[List.take_append_drop,List.take_append_drop],by rw[List.length_take];omega,by rw[List.length_take,List.length_drop];omega⟩
  rw[putAt_app ha.symm (by rw[hn,hx]),←List.append_assoc,putAt_app (by rw[List.length_append,ha,hn];omega) (by rw[hd,hy])]
  rw[show(n+1-i)*2=(x++y).length by rw[List.length_append,hx,hy];omega,←List.append_assoc x,List.drop_left]
  simp only[List.append_assoc]
theorem del_in{cs r zs A1 A2:List Value}{n i:Nat}(hc:cs.length=n*2)(hi:i<n)(hz:zs.length=2)(h1:Bn (cs++r) (i*2) (cs.drop ((i+1)*2))=A1)(h2:Bn A1 ((n-1)*2) zs=A2):
    A2=(cs.take (i*2)++cs.drop ((i+1)*2))++(zs++r):=by
  subst h1;subst h2
  obtain⟨a,x,b,rfl,ha,hx⟩: ∃a x b,cs=a++(x++b)∧a.length=i*2∧x.length=2:=
    ⟨cs.take (i*2),(cs.drop (i*2)).take 2,(cs.drop (i*2)).drop 2,by rw[List.take_append_drop,List.take_append_drop],by rw[List.length_take];omega,by rw[List.length_take,List.length_drop];omega⟩
  simp only[List.length_append]at hc
  have e1:(a++(x++b)).drop ((i+1)*2)=b:=by
    rw[show(i+1)*2=(a++x).length by rw[List.length_append,ha,hx];omega,←List.append_assoc,List.drop_left]
  have e2:(a++(x++b)).take (i*2)=a:=by rw[←ha,List.take_left]
  rw[e1,e2]
  have hb:x++b=(x++b).take b.length++(x++b).drop b.length:=(List.take_append_drop _ _).symm
  have e3:a++(x++b)++r=a++((x++b).take b.length++((x++b).drop b.length++r)):=by
    rw[List.append_assoc,←List.append_assoc ((x++b).take b.length),←hb]
  rw[e3,putAt_app ha.symm (by rw[List.length_take,List.length_append];omega),←List.append_assoc]
  rw[putAt_app (by rw[List.length_append,ha];omega) (by rw[List.length_drop,List.length_append,hz];omega)]
theorem insS_c(g:FS)(cs news:List Value)(vb n i:Nat)(M:List Nat)(w:World)(hl:Mem w M [g.seg 219 cs,[cb vb news 219]] w)(ok:g.ok 2 n)(hcs:cs.length=n*2)(hi:i≤n)(hn:n≤100000)(hnl:news.length=1*2)(h1c: ∀v∈cs,v.oneCell'=true)(h1n: ∀v∈news,v.oneCell'=true):Calls Tryz.prog 143 #[sV g n,nV .i64 i,sL (some ⟨vb,0,none⟩) 1 1] w (Bj w (fun g':FS=>g'.ok 2 (n+1)∧g'.nil=false) (fun g'=>.slice g'.a (n+1) g'.cap) M (fun g'=>[g'.seg 219 (cs.take (i*2)++(news++cs.drop (i*2)))])):=by
 have hle_:=ok.le;have hmx_:=ok.mx;have h2_:=hcs
 refine Ar (M:=M) (LL:=[g.seg 219 cs,[cb vb news 219]]) (n:=95) Tryz.func143 rfl rfl A5 (hl) (Ad (fun K1 hK1=>?_))
 refine Aa (Ab 1 (Ac (hK1 _ _ _ (Ad (fun K2 hK2=>?_)))))
 refine Aa (Ab 2 (Ah (v:=sL (C8 g.a g.cap i 2) (n-i) (g.cap-i)) (Bk (a:=g.a) (len:=n) (cap:=g.cap) (sz:=2) (k:=.i64) (i:=(i:Int)) rfl Ae Ae Tryz.runUnderlying148 Tryz.sizeOf219 Ag Ag) (Ac (hK2 _ _ _ ?_))))
 refine Ad (fun K4 hK4=>Aa (Ab 3 (Ac (hK4 _ _ _ ?_))))
 refine Ad (fun K6 hK6=>Ad (fun K7 hK7=>?_))
 refine Aa (Ab 2 (Ac (hK7 _ _ _ (B4 Ae ?_))))
 refine Ak (hK6 _ _ _ (Ad (fun K10 hK10=>Aa (Ab 3 ?_))))
 refine Ac (hK10 _ _ _ (Ad (fun K12 hK12=>Ad (fun K13 hK13=>Aa ?_))))
 refine Ab 3 (Ac (hK13 _ _ _ ?_))
 refine Ao (((i:Nat):Int)==(n:Int)) Ae (fun h15=>?_) (fun h16=>?_)
 ·have qh15:=h15;try simp only[zA]at qh15
  refine Ad (fun K17 hK17=>Aa (Ab 2 (Ax rfl (HtS.append (eu:=219) (xv:=Value.slice (some ⟨vb,0,none⟩) 1 1) (i:=0) (g:=g) (e:=219) (ii:=(Tryz.prog.info? 219).getD default) (z:=aV [iV .u64 0,iV .u64 0]) (sz:=2) (bytes:=16) (nn:=n) (m:=1) (k:=n+1) (xs:=cs) (news:=news) (cs':=cs++news) (Lo:=fun g18=>[g18.seg 219 (cs++news),[cb vb news 219]]) rfl rfl Ae Ae Ae Ae Ae Ae Ae Ae Ae rfl ok hcs (fun _=>rfl) (Src.at (a:=some ⟨vb,0,none⟩) hnl (fun w_ h_=>(Az (i:=1) (j:=0) (t:=219) (b:=vb) h_ rfl rfl))) hnl h1n rfl (by simp only[maxLen];omega) Ag rfl (fun _=>rfl)) (fun g18 hx23=>?_))))
  obtain⟨ok19,hn20,hn21⟩:=hx23
  refine Ab 1 (Ac (hK17 _ _ _ (Aq (fn:=Tryz.f143) rfl ?_)))
  have hin_:i=n:=by omega
  have hB:cs.take (i*2)++(news++cs.drop (i*2))=cs++news:=by rw[List.take_of_length_le Ag,List.drop_of_length_le Ag,List.append_nil]
  exact fun w_ hS_=>Bb rfl (Aw (sV g18 (n+1))) hS_ ⟨g18,⟨ok19,(hn20 Ag)⟩,rfl,(Mem.cast (by rw[hB];rfl) (hS_.pick [0] Al rfl))⟩
 ·have qh16:=h16;try simp only[zA]at qh16
  refine Ak (hK12 _ _ _ (Ad (fun K26 hK26=>Ad (fun K27 hK27=>Aa ?_))))
  refine Ab 2 (Ah (v:=nV .i64 (n+1)) ((Ys.p (v:=.int .i64 (Bt .i64 (n:Int) 1))).conseq (Af (A6 Ag Ag Ag))) (Ab 3 (Ac (hK27 _ _ _ ?_))))
  refine Ao (decide (((n+1:Nat):Int)>(g.cap:Int))) Ae (fun h29=>?_) (fun h30=>?_)
  ·have qh29:=h29;try simp only[zA]at qh29
   refine Ad (fun K31 hK31=>Aa (Ab 2 (Ah (v:=sV g i) (Dg (a:=g.a) (len:=n) (cap:=g.cap) (sz:=2) (k:=.i64) (i:=(i:Int)) rfl Ae Ae Tryz.runUnderlying148 Tryz.sizeOf219 Ag Ag) (Ab 2 ?_))))
   refine Ah (v:=nV .i64 (n+1)) ((Ys.p (v:=.int .i64 (Bt .i64 (n:Int) 1))).conseq (Af (A6 Ag Ag Ag))) (Ab 1 (Ah (v:=iV .i64 (((n+1:Nat):Int)-(i:Int))) ((Ys.p (v:=.int .i64 (Hk .i64 ((n+1:Nat):Int) (i:Int)))).conseq (Af (Er rfl Ag Ag))) (Ai rfl (Iq (t:=148) (u:=3) (e:=219) (ii:=(Tryz.prog.info? 219).getD default) (z:=aV [iV .u64 0,iV .u64 0]) (ku:=.i64) (kk:=.i64) (lv:=((n+1:Nat):Int)-(i:Int)) (a:=g.a) (nn:=i) (m:=n+1-i) (k:=n+1) (cap:=g.cap) (sz:=2) (bytes:=16) (xs:=cs.take (i*2)) (LL':=fun b32 R34=>[[cb b32 (cs.take (i*2)++R34) 219],g.seg 219 cs,[cb vb news 219]]) rfl rfl Ae Ae Ae Ae Ae Ae Ae Ae Ae Ag (fun w_ h_=>(FS.at (i:=0) (t:=219) h_ rfl (Aj ok hcs)).take _) (by rw[List.length_take,hcs];omega) Ag Ag Ag Ag Ag (fun _ _=>rfl)) (fun x38=>?_))))
   obtain⟨⟨b32,cap33,R34⟩,hc35,hm36,hR37⟩:=x38
   refine Bu (LL':=[[cb b32 (cs.take (i*2)++R34) 219],g.seg 219 cs,[cb vb news 219]]) rfl ?_
   dsimp only at hc35 hm36 hR37
   refine Ab 1 (Ac (hK31 _ _ _ (Ad (fun K40 hK40=>Aa ?_))))
   refine Ab 2 (Ah (v:=sL (C8 (some ⟨b32,0,none⟩) cap33 i 2) ((n+1)-i) (cap33-i)) (Bk (a:=some ⟨b32,0,none⟩) (len:=n+1) (cap:=cap33) (sz:=2) (k:=.i64) (i:=(i:Int)) rfl Ae Ae Tryz.runUnderlying148 Tryz.sizeOf219 Ag Ag) ?_)
   obtain⟨A41,hA42⟩: ∃A,Bn (cs.take (i*2)++R34) (i*2) news=A:=⟨_,rfl⟩
   have hl43:A41.length=(cs.take (i*2)++R34).length:=by rw[←hA42];exact Ce _ _ _ Kb
   try simp only[List.length_append,List.length_take]at hl43
   refine Ab 1 (Ai rfl (Ck (td:=148) (tx:=148) (e:=219) (ii:=(Tryz.prog.info? 219).getD default) (xv:=sL (some ⟨vb,0,none⟩) 1 1) (cap:=cap33) (dl:=(n+1)-i) (dc:=cap33-i) (m:=1) (q:=1) (sz:=2) (o':=i) (i:=0) (j:=0) (b:=b32) (t:=219) (cs:=cs.take (i*2)++R34) (cs':=A41) (news:=news) (LL':=[[cb b32 A41 219],g.seg 219 cs,[cb vb news 219]]) rfl rfl Ae Ae Ae Ae Ag Ae rfl rfl (fun _=>rfl) Kd (Src.at (a:=some ⟨vb,0,none⟩) hnl (fun w_ h_=>(Az (i:=2) (j:=0) (t:=219) (b:=vb) h_ rfl rfl))) hnl Kb h1n hA42 rfl) (fun _=>?_))
   refine Ac (hK40 _ _ _ (Ad (fun K45 hK45=>Bz [(0,true),(1,true),(2,true),(3,true),(4,true),(5,true),(6,false),(7,false),(8,false)] [0,1,2,3,4,5] (Mem w M [g.seg 219 cs,[cb vb news 219]]) Ae Ae Ae rfl Ae (fun _ _ h_=>h_.drawn _) (fun _ h_=>h_.pick [1,2] Al rfl) (Ay 3 ?_))))
   refine Wd.ys (v:=nV .i64 (i+1)) rfl rfl rfl ((Ys.p (v:=.int .i64 (Bt .i64 (i:Int) 1))).conseq (Af (A6 Ag Ag Ag))) (Wd.ys (v:=sL (C8 (some ⟨b32,0,none⟩) cap33 (i+1) 2) ((n+1)-(i+1)) (cap33-(i+1))) rfl rfl rfl (Bk (a:=some ⟨b32,0,none⟩) (len:=n+1) (cap:=cap33) (sz:=2) (k:=.i64) (i:=((i+1:Nat):Int)) rfl Ae Ae Tryz.runUnderlying148 Tryz.sizeOf219 Ag Ag) (Ay 1 (Wd.yc (v:=nV .i64 i) rfl rfl rfl (Ys.yc (Ys.p)) (.inr fun _ h_=>h_.pick [1,2] Al rfl) (Wd.yc (v:=sL (C8 g.a g.cap i 2) (n-i) (g.cap-i)) rfl rfl rfl (Ys.yc (Bk (a:=g.a) (len:=n) (cap:=g.cap) (sz:=2) (k:=.i64) (i:=(i:Int)) rfl Ae Ae Tryz.runUnderlying148 Tryz.sizeOf219 Ag Ag)) (.inr fun _ h_=>h_.pick [1,2] Al rfl) ?_))))
   obtain⟨A46,hA47⟩: ∃A,Bn A41 ((i+1)*2) (cs.drop (i*2))=A:=⟨_,rfl⟩
   have hl48:A46.length=A41.length:=by rw[←hA47];exact Ce _ _ _ Ac6
   try simp only[List.length_append,List.length_take]at hl48
   refine B8 rfl rfl (Ck (td:=148) (tx:=148) (e:=219) (ii:=(Tryz.prog.info? 219).getD default) (xv:=sL (C8 g.a g.cap i 2) (n-i) (g.cap-i)) (cap:=cap33) (dl:=(n+1)-(i+1)) (dc:=cap33-(i+1)) (m:=n-i) (q:=n-i) (sz:=2) (o':=i+1) (i:=0) (j:=0) (b:=b32) (t:=219) (cs:=A41) (cs':=A46) (news:=cs.drop (i*2)) (LL':=[[cb b32 A46 219],g.seg 219 cs,[cb vb news 219]]) rfl rfl Ae Ae Ae Ae Ag Ae rfl rfl (fun _=>rfl) Kd (Src.at (a:=C8 g.a g.cap i 2) (show(cs.drop (i*2)).length=(n-i)*2 by rw[List.length_drop,hcs];omega) (fun w_ h_=>((FS.at (i:=1) (t:=219) h_ rfl (Aj ok hcs)).dropN (cap:=g.cap) (k:=i) (sz:=2) Ag))) (show(cs.drop (i*2)).length=(n-i)*2 by rw[List.length_drop,hcs];omega) Ac6 (one_drop h1c _) hA47 rfl) (.inr fun _ _ h_=>h_.pick [1,2] Al rfl) (fun _=>A7 (hK45 _ _ _ (Ad (fun K50 hK50=>Aa ?_))))
   refine Ab 2 (Ac (hK50 _ _ _ (Aq (fn:=Tryz.f143) rfl ?_)))
   have hB:=ins_own hcs Ag Ag Ag hA42 hA47
   exact fun w_ hS_=>Bb rfl (Aw (sL (some ⟨b32,0,none⟩) (n+1) cap33)) hS_ ⟨⟨false,b32,cap33,R34.drop ((n+1-i)*2)⟩,⟨⟨fun h=>(by cases h),Ag,Ag,(by show cap33*2≤_;rw[List.length_drop];omega)⟩,rfl⟩,rfl,(Mem.cast (by rw[hB];rfl) (hS_.pick [0] Al rfl))⟩
  ·have qh30:=h30;try simp only[zA]at qh30
   refine Ak (hK26 _ _ _ (Ad (fun K53 hK53=>?_)))
   have hn55:=C5 ok Ag
   obtain⟨gn54,gb,gc,gr⟩:=g
   obtain rfl:gn54=false:=hn55
   have hc56:n≤gc:=ok.le
   have hlr_:gc*2≤n*2+gr.length:=ok.len
   have hroom_:n+1≤gc:=by have z_: ¬(((n+1:Nat):Int)>(gc:Int)):=qh30;omega
   refine Aa (Ab 3 (Ah (v:=nV .i64 (n+1)) ((Ys.p (v:=.int .i64 (Bt .i64 (n:Int) 1))).conseq (Af (A6 Ag Ag Ag))) (Ah (v:=sL (some ⟨gb,0,none⟩) (n+1) gc) (Dg (a:=some ⟨gb,0,none⟩) (len:=n) (cap:=gc) (sz:=2) (k:=.i64) (i:=((n+1:Nat):Int)) rfl Ae Ae Tryz.runUnderlying148 Tryz.sizeOf219 Ag Ag) (Ab 1 ?_))))
   refine Ac (hK53 _ _ _ (Ad (fun K58 hK58=>Ad (fun K59 hK59=>Aa ?_))))
   refine Ab 4 (Ah (v:=nV .i64 (i+1)) ((Ys.p (v:=.int .i64 (Bt .i64 (i:Int) 1))).conseq (Af (A6 Ag Ag Ag))) (Ah (v:=Value.slice (C8 (some ⟨gb,0,none⟩) gc (i+1) 2) ((n+1)-(i+1)) (gc-(i+1))) (Bk (a:=some ⟨gb,0,none⟩) (len:=n+1) (cap:=gc) (sz:=2) (k:=.i64) (i:=((i+1:Nat):Int)) rfl Ae Ae Tryz.runUnderlying148 Tryz.sizeOf219 Ag Ag) (Ah (v:=bV false) ((Ho (k:=174) (tS:=148) (tR:=4) (e:=219) (sz:=2) (b:=vb) (b':=gb) (o1:=0) (o2:=(i+1)*2) (la:=1) (ca:=1) (lb:=((n+1)-(i+1))) (cp:=(gc-(i+1))) (i:=1) (j:=0) (i':=0) (j':=0) (t:=219) (t':=219) (cs:=news) (cs':=cs++gr) (fun w_=>Eq.trans (b:=Sem.run Tryz.prog (callFunc 174 #[Value.slice (some ⟨vb,0,none⟩) 1 1,Value.slice (C8 (some ⟨gb,0,none⟩) gc (i+1) 2) ((n+1)-(i+1)) (gc-(i+1))]) w_) Ae (by rw[Gh Ag])) Tryz.func174 Ae Ae Ae Ae Ae Tryz.sizeOf219 Al rfl rfl rfl rfl (by simp only[List.length_append];omega))) (Ab 1 ?_))))
   refine Ac (hK59 _ _ _ (B5 Ae (Ad (fun K61 hK61=>Bz [(0,true),(1,true),(2,true),(3,true),(4,true),(5,true),(6,false),(7,false),(8,false)] [0,1,2,3,4,5] (Mem w M [[cb vb news 219]]) Ae Ae Ae rfl Ae (fun _ _ h_=>h_.drawn _) (fun _ h_=>h_.pick [1] Al rfl) ?_))))
   refine Ay 3 (Wd.ys (v:=nV .i64 (i+1)) rfl rfl rfl ((Ys.p (v:=.int .i64 (Bt .i64 (i:Int) 1))).conseq (Af (A6 Ag Ag Ag))) (Wd.ys (v:=sL (C8 (some ⟨gb,0,none⟩) gc (i+1) 2) ((n+1)-(i+1)) (gc-(i+1))) rfl rfl rfl (Bk (a:=some ⟨gb,0,none⟩) (len:=n+1) (cap:=gc) (sz:=2) (k:=.i64) (i:=((i+1:Nat):Int)) rfl Ae Ae Tryz.runUnderlying148 Tryz.sizeOf219 Ag Ag) (Ay 1 (Wd.yc (v:=nV .i64 i) rfl rfl rfl (Ys.yc (Ys.p)) (.inr fun _ h_=>h_.pick [1] Al rfl) ?_))))
   refine Wd.yc (v:=sL (C8 (some ⟨gb,0,none⟩) gc i 2) ((n+1)-i) (gc-i)) rfl rfl rfl (Ys.yc (Bk (a:=some ⟨gb,0,none⟩) (len:=n+1) (cap:=gc) (sz:=2) (k:=.i64) (i:=(i:Int)) rfl Ae Ae Tryz.runUnderlying148 Tryz.sizeOf219 Ag Ag)) (.inr fun _ h_=>h_.pick [1] Al rfl) ?_
   obtain⟨A62,hA63⟩: ∃A,Bn (cs++gr) ((i+1)*2) (cs.drop (i*2))=A:=⟨_,rfl⟩
   have hl64:A62.length=(cs++gr).length:=by rw[←hA63];exact Ce _ _ _ Ac6
   try simp only[List.length_append,List.length_take]at hl64
   refine B8 rfl rfl (Ck (td:=148) (tx:=148) (e:=219) (ii:=(Tryz.prog.info? 219).getD default) (xv:=sL (C8 (some ⟨gb,0,none⟩) gc i 2) ((n+1)-i) (gc-i)) (cap:=gc) (dl:=(n+1)-(i+1)) (dc:=gc-(i+1)) (m:=(n+1)-i) (q:=n-i) (sz:=2) (o':=i+1) (i:=0) (j:=0) (b:=gb) (t:=219) (cs:=cs++gr) (cs':=A62) (news:=cs.drop (i*2)) (LL':=[[cb gb A62 219],[cb vb news 219]]) rfl rfl Ae Ae Ae Ae Ag Ae rfl rfl (fun _=>rfl) Kd (Src.at (a:=C8 (some ⟨gb,0,none⟩) gc i 2) (show(cs.drop (i*2)).length=(n-i)*2 by rw[List.length_drop,hcs];omega) (fun w_ h_=>(by have z_:=((Az (i:=0) (j:=0) (t:=219) (b:=gb) h_ rfl rfl).dropT (cap:=gc) (k:=i) (m:=n-i) (sz:=2) Ag);rwa[drop_take hcs Ag]at z_))) (show(cs.drop (i*2)).length=(n-i)*2 by rw[List.length_drop,hcs];omega) Ac6 (one_drop h1c _) hA63 rfl) (.inr fun _ _ h_=>h_.pick [1] Al rfl) (fun _=>A7 (hK61 _ _ _ (Ad (fun K66 hK66=>Aa ?_))))
   refine Ab 2 (Ah (v:=sL (C8 (some ⟨gb,0,none⟩) gc i 2) ((n+1)-i) (gc-i)) (Bk (a:=some ⟨gb,0,none⟩) (len:=n+1) (cap:=gc) (sz:=2) (k:=.i64) (i:=(i:Int)) rfl Ae Ae Tryz.runUnderlying148 Tryz.sizeOf219 Ag Ag) ?_)
   obtain⟨A67,hA68⟩: ∃A,Bn A62 (i*2) news=A:=⟨_,rfl⟩
   have hl69:A67.length=A62.length:=by rw[←hA68];exact Ce _ _ _ Kb
   try simp only[List.length_append,List.length_take]at hl69
   refine Ab 1 (Ai rfl (Ck (td:=148) (tx:=148) (e:=219) (ii:=(Tryz.prog.info? 219).getD default) (xv:=sL (some ⟨vb,0,none⟩) 1 1) (cap:=gc) (dl:=(n+1)-i) (dc:=gc-i) (m:=1) (q:=1) (sz:=2) (o':=i) (i:=0) (j:=0) (b:=gb) (t:=219) (cs:=A62) (cs':=A67) (news:=news) (LL':=[[cb gb A67 219],[cb vb news 219]]) rfl rfl Ae Ae Ae Ae Ag Ae rfl rfl (fun _=>rfl) Kd (Src.at (a:=some ⟨vb,0,none⟩) hnl (fun w_ h_=>(Az (i:=1) (j:=0) (t:=219) (b:=vb) h_ rfl rfl))) hnl Kb h1n hA68 rfl) (fun _=>?_))
   refine Ac (hK66 _ _ _ (Ad (fun K71 hK71=>Aa (Ab 2 ?_))))
   refine Ac (hK71 _ _ _ (Aq (fn:=Tryz.f143) rfl ?_))
   have hB:=ins_in hcs Ag Ag Ag hA63 hA68
   exact fun w_ hS_=>Bb rfl (Aw (sL (some ⟨gb,0,none⟩) (n+1) gc)) hS_ ⟨⟨false,gb,gc,gr.drop 2⟩,⟨⟨fun h=>(by cases h),Ag,ok.mx,(by show gc*2≤_;rw[List.length_drop];omega)⟩,rfl⟩,rfl,(Mem.cast (by rw[hB];rfl) (hS_.pick [0] Al rfl))⟩
theorem delS_c(g:FS)(cs:List Value)(n i:Nat)(M:List Nat)(w:World)(hl:Mem w M [g.seg 219 cs] w)(ok:g.ok 2 n)(hcs:cs.length=n*2)(hi:i<n)(hn:n≤100000)(h1c: ∀v∈cs,v.oneCell'=true):Calls Tryz.prog 113 #[sV g n,nV .i64 i,nV .i64 (i+1)] w (Bj w (fun g':FS=>g'.ok 2 (n-1)∧g'.nil=false) (fun g'=>.slice g'.a (n-1) g'.cap) M (fun g'=>[g'.seg 219 (cs.take (i*2)++cs.drop ((i+1)*2))])):=by
 have hle_:=ok.le;have hmx_:=ok.mx;have h2_:=hcs
 refine Ar (M:=M) (LL:=[g.seg 219 cs]) (n:=33) Tryz.func113 rfl rfl A5 (hl) (Ad (fun K1 hK1=>?_))
 refine Aa (Ab 1 (Ac (hK1 _ _ _ (Ad (fun K2 hK2=>?_)))))
 refine Aa (Ab 5 (Ah (v:=sL (C8 g.a n i 2) ((i+1)-i) (n-i)) (Hn (a:=g.a) (len:=n) (cap:=g.cap) (sz:=2) (k:=.i64) (k':=.i64) (k'':=.i64) (i:=(i:Int)) (j:=((i+1:Nat):Int)) (q:=(n:Int)) rfl Ae Ae Ae Ae Tryz.runUnderlying148 Tryz.sizeOf219 Ag Ag Ag Ag) (Ac (hK2 _ _ _ ?_))))
 refine Ad (fun K4 hK4=>Ad (fun K5 hK5=>?_))
 refine Aa (Ab 3 (Ac (hK5 _ _ _ ?_)))
 refine Ao (((i:Nat):Int)==((i+1:Nat):Int)) Ae (fun h7=>?_) (fun h8=>?_)
 ·have qh7:=h7;try simp only[zA]at qh7
  (exfalso;omega)
 ·have qh8:=h8;try simp only[zA]at qh8
  refine Ak (hK4 _ _ _ (Ad (fun K10 hK10=>Aa (Ab 3 ?_))))
  refine Ac (hK10 _ _ _ (Ad (fun K12 hK12=>?_)))
  have hn14:=C5 ok Ag
  obtain⟨gn13,gb,gc,gr⟩:=g
  obtain rfl:gn13=false:=hn14
  have hc15:n≤gc:=ok.le
  have hlr_:gc*2≤n*2+gr.length:=ok.len
  refine Bz [(0,true),(1,true),(2,true),(3,true),(4,false),(5,false),(6,false),(7,false)] [0,1,2,3] (Mem w M []) Ae Ae Ae rfl Ae (fun _ _ h_=>h_.drawn _) (fun _ h_=>h_.pick [] Al rfl) (Ay 2 (Wd.ys (v:=sL (some ⟨gb,0,none⟩) i gc) rfl rfl rfl (Dg (a:=some ⟨gb,0,none⟩) (len:=n) (cap:=gc) (sz:=2) (k:=.i64) (i:=(i:Int)) rfl Ae Ae Tryz.runUnderlying148 Tryz.sizeOf219 Ag Ag) (Ay 1 (Wd.yc (v:=nV .i64 (i+1)) rfl rfl rfl (Ys.yc (Ys.p)) (.inr fun _ h_=>h_.pick [] Al rfl) ?_))))
  refine Wd.yc (v:=sL (C8 (some ⟨gb,0,none⟩) gc (i+1) 2) (n-(i+1)) (gc-(i+1))) rfl rfl rfl (Ys.yc (Bk (a:=some ⟨gb,0,none⟩) (len:=n) (cap:=gc) (sz:=2) (k:=.i64) (i:=((i+1:Nat):Int)) rfl Ae Ae Tryz.runUnderlying148 Tryz.sizeOf219 Ag Ag)) (.inr fun _ h_=>h_.pick [] Al rfl) ?_
  obtain⟨A16,hA17⟩: ∃A,Bn (cs++gr) (i*2) (cs.drop ((i+1)*2))=A:=⟨_,rfl⟩
  have hl18:A16.length=(cs++gr).length:=by rw[←hA17];exact Ce _ _ _ (by rw[(show(cs.drop ((i+1)*2)).length=(n-(i+1))*2 by rw[List.length_drop,hcs];omega)];(try simp only[List.length_append,List.length_take]);omega)
  try simp only[List.length_append,List.length_take]at hl18
  refine B8 rfl rfl (Hp (t:=148) (u:=148) (e:=219) (eu:=219) (ii:=(Tryz.prog.info? 219).getD default) (xv:=Value.slice (C8 (some ⟨gb,0,none⟩) gc (i+1) 2) (n-(i+1)) (gc-(i+1))) (nn:=i) (m:=n-(i+1)) (k:=n-1) (cap:=gc) (sz:=2) (i:=0) (j:=0) (b:=gb) (ty:=219) (cs:=cs++gr) (cs':=A16) (news:=cs.drop ((i+1)*2)) (LL':=[[cb gb A16 219]]) rfl rfl Ae Ae Ae Ae Ae Ae rfl rfl (fun _=>rfl) Ag Ag (Src.at (a:=C8 (some ⟨gb,0,none⟩) gc (i+1) 2) (show(cs.drop ((i+1)*2)).length=(n-(i+1))*2 by rw[List.length_drop,hcs];omega) (fun w_ h_=>(by have z_:=((Az (i:=0) (j:=0) (t:=219) (b:=gb) h_ rfl rfl).dropT (cap:=gc) (k:=i+1) (m:=n-(i+1)) (sz:=2) Ag);rwa[drop_take hcs Ag]at z_))) (by rw[(show(cs.drop ((i+1)*2)).length=(n-(i+1))*2 by rw[List.length_drop,hcs];omega)];(try simp only[List.length_append,List.length_take]);omega) (one_drop h1c _) hA17 rfl) (.inr fun _ _ h_=>h_.pick [] Al rfl) (fun _=>Wd.yc (v:=Value.slice (some ⟨gb,0,none⟩) (n-1) gc) rfl rfl rfl (Ys.yc (Ys.p)) (.inl Ae) (A7 (hK12 _ _ _ (Ad (fun K20 hK20=>?_)))))
  refine Aa (Ab 4 (Ah (v:=sL (C8 (some ⟨gb,0,none⟩) gc (n-1) 2) (n-(n-1)) (gc-(n-1))) (G9 (a:=some ⟨gb,0,none⟩) (len:=n-1) (cap:=gc) (sz:=2) (k:=.i64) (i:=((n-1:Nat):Int)) (k':=.i64) (j:=(n:Int)) rfl Ae Ae Ae Tryz.runUnderlying148 Tryz.sizeOf219 Ag Ag Ag) ?_))
  obtain⟨A21,hA22⟩: ∃A,Bn A16 ((n-1)*2) [iV .u64 0,iV .u64 0]=A:=⟨_,rfl⟩
  have hl23:A21.length=A16.length:=by rw[←hA22];exact Ce _ _ _ Th
  refine Ai rfl (Je (t:=148) (e:=219) (ii:=(Tryz.prog.info? 219).getD default) (z:=aV [iV .u64 0,iV .u64 0]) (m:=0) (cap:=gc-(n-1)) (o':=(n-1)*2) (i:=0) (j:=0) (b:=gb) (ty:=219) (cs:=A16) (cs':=A21) (zs:=[iV .u64 0,iV .u64 0]) (LL':=[[cb gb A21 219]]) rfl rfl Ae Ae Ae (Eq.trans (b:=sL (C8 (some ⟨gb,0,none⟩) gc (n-1) 2) (n-(n-1)) (gc-(n-1))) Ae (by rw[Gh Ag];congr 1;omega)) rfl rfl Ae Th Zb hA22 rfl) (fun _=>Ac (hK20 _ _ _ (Ad (fun K25 hK25=>Aa ?_))))
  refine Ab 2 (Ac (hK25 _ _ _ (Aq (fn:=Tryz.f113) rfl ?_)))
  have hB:=del_in (zs:=[iV .u64 0,iV .u64 0]) hcs Ag rfl hA17 hA22
  exact fun w_ hS_=>Bb rfl (Aw (Value.slice (some ⟨gb,0,none⟩) (n-1) gc)) hS_ ⟨⟨false,gb,gc,[iV .u64 0,iV .u64 0]++gr⟩,⟨⟨fun h=>(by cases h),(by show n-1≤gc;omega),ok.mx,(by show gc*2≤_;simp only[List.length_append,List.length_cons,List.length_nil];omega)⟩,rfl⟩,rfl,(Mem.cast (by rw[hB];rfl) (hS_.pick [0] Al rfl))⟩
end ZW
end Go.Proofs.YtmonlaoaengfdaaGreatDoor.Oct
