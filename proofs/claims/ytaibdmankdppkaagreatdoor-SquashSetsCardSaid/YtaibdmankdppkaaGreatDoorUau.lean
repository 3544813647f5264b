/- Contracts of the reference: Squashed, Squash. -/
import Derived.Test.YtaibdmankdppkaaGreatDoorUat
set_option linter.unusedSimpArgs false
set_option linter.unusedVariables false
set_option maxHeartbeats 8000000
namespace Go.Proofs
open Go Go.Q
attribute [local irreducible] Eb AV Ga BG Fu
instance yK:Y4 Tryz.prog 77 108 67 88:=⟨by
 have h1:Tryz.prog.underlying 77=some (.slice 108):=by kernel_rfl
 have h2:(Tryz.prog.info? 108).map (fun i=>(i.size,i.bytes,i.zero.map (·.cells.size)))=some (67,88,some 67):=by kernel_rfl
 obtain⟨i,h3,h4⟩:=BR.1 h2
 simp only[Prod.mk.injEq]at h4
 obtain⟨h5,h6,h7⟩:=h4
 obtain⟨z,h8,h9⟩:=BR.1 h7
 exact⟨i,z,h1,h3,h5,h6,h8,h9,by decide,by decide⟩⟩
instance w6:Ck Tryz.prog 108 (eMvd Mvd.zero):=Ck.of (us:=(eMvd Mvd.zero).map zv) (by kernel_rfl) (by kernel_rfl)
theorem jg {α:Type} {vf:α→List Value} {E sz:Nat} {v:Value} (h:JI vf E sz v ([]:List α) []):GM E sz v [] []:=by
 unfold JI at h
 generalize hn:([]:List α).length=n at h
 generalize hu:([]:List α).flatMap vf=us at h
 generalize hR:([]:List Res)=R at h
 cases h with
 |nil o ho=>exact .nil o ho
 |row=>cases hR
instance (m:Mta) (ds:List Dig) (cs:List Chg) (tg:C9):Jl (.agg (SF m ds cs tg)) (.agg (Bh ⟨m.author,m.message,m.time,ds,cs⟩)):=⟨r7 m ds cs tg⟩
instance (m:Mta) (ds:List Dig) (cs:List Chg) (tg:C9):DA (SF m ds cs tg) 5:=⟨rfl⟩
instance ze (m:Mta) (ds:List Dig) (cs:List Chg) (tg:C9):At (SF m ds cs tg) 3 (.slice (ds.map eDig) .ro):=⟨rfl⟩
instance zd (m:Mta) (ds:List Dig) (cs:List Chg) (tg:C9):At (SF m ds cs tg) 4 (.slice (cs.map eChg) tg):=⟨rfl⟩
theorem eD (m:Mta) (ds:List Dig) (cs:List Chg) (tg:C9):Ju (SF m ds cs tg):=Kn (Kn (FM rfl (JF (JF Gn))))
theorem sD:Ck Tryz.prog 40 [.str [],.str [],.raw (.int .i64 0),.slice [] .ro,.slice [] .nil]:=⟨by
 have h:((Tryz.prog.info? 40).bind (·.zero)).map (·.cells.toList)=some [.string ⟨#[]⟩,.string ⟨#[]⟩,.int .i64 0,.slice none 0 0,.slice none 0 0]:=by kernel_rfl
 obtain⟨v,h1,h2⟩:=BR.1 h
 obtain⟨i,h3,h4⟩:=Da.1 h1
 exact⟨i,v,_,h3,h4,by rw[←h2],fun g=> .cons (.str (by simp)) (.cons (.str (by simp)) (.cons (.raw _) (.cons .nilR (.cons (.nilN none (by simp)) (.nil g)))))⟩⟩
structure ug (s:List Sto) (l:List Dig) (i:Nat) (mv:List Mvd) (n:Int) (cs:List Chg) (ds:List Dig):Prop where
 is:((C5 s).take i).foldl (jR s l) ([],0,[],[])=(mv,n,cs,ds)
 n0:0≤n∧n≤i*16200
 mvs: ∀ e∈mv,e.lo=0∧e.hi≤16200∧0≤e.dst∧e.dst≤i*16200
 len:mv.length≤i
 cs:cs.length≤i*200
 ds:ds.length≤i*200
theorem ug.out {s:List Sto} {l:List Dig} {i:Nat} {mv:List Mvd} {n:Int} {cs:List Chg} {ds:List Dig} (h:ug s l i mv n cs ds) (hi:i < (C5 s).length) (hl: ¬(C5 s)[i]∈l):ug s l (i+1) mv n cs ds:=by
 obtain⟨h1,h2,h3,h4,h5,h6⟩:=h
 refine⟨?_,by omega,fun e he=>by have:=h3 e he;omega,by omega,by omega,by omega⟩
 rw[A6 hi,Bk,h1,Br,JK]
 unfold jR
 rw[if_neg hl]
theorem OZ: ∀ (l:List Dig) (d:Dig),(EK l d).length≤l.length+1
 | [],d=>by simp[EK]
 |x::xs,d=>by
  have:=OZ xs d
  unfold EK
  split
  ·rw[AN,AN];omega
  ·split<;>simp
theorem Sk: ∀ (m l:List Dig),(m.foldl EK l).length≤l.length+m.length
 | [],l=>by simp
 |d::m,l=>by
  have a:=Sk m (EK l d)
  have b:=OZ l d
  rw[Br,AN];omega
theorem ug.in_ {s:List Sto} (v:Bc s) {l:List Dig} {i:Nat} {mv:List Mvd} {n:Int} {cs:List Chg} {ds:List Dig} (h:ug s l i mv n cs ds) (hi:i < (C5 s).length) {x:Sto} (hx:x∈s) (hd:(C5 s)[i]=x.id) (hl:x.id∈l):
  ug s l (i+1) (mv++ [(⟨x.id,0,cntS s x.id,Dig.zero,n⟩:Mvd)]) (n+cntS s x.id) (cs++x.patch.changes.map (P6 (gM (mv++ [(⟨x.id,0,cntS s x.id,Dig.zero,n⟩:Mvd)]) x.id))) ((x.patch.deps.filter fun e=>decide (¬e∈l)).foldl EK ds):=by
 obtain⟨h1,h2,h3,h4,h5,h6⟩:=h
 have hb:=v.close.1.2 x hx
 have hc:cntS s x.id≤16200:=by rw[v.cntS hx];exact(EB hb).1
 obtain⟨_,_,g1,g2,_⟩:=EY hb
 have hf:(x.patch.deps.filter fun e=>decide (¬e∈l)).length≤x.patch.deps.length:=CX _ _
 refine⟨?_,by omega,fun e he=>?_,by rw[AD,B9];omega,by rw[AD,AU];omega,?_⟩
 ·rw[A6 hi,Bk,h1,Br,JK,hd]
  unfold jR
  rw[if_pos hl,v.getS hx]
  rfl
 ·rcases Ah.1 he with he|he
  ·have:=h3 e he;omega
  ·rw[Ae.1 he]
   refine⟨rfl,?_,?_,?_⟩
   ·show(cntS s x.id:Int)≤16200;omega
   ·exact h2.1
   ·show n≤_;omega
 ·have:=Sk (x.patch.deps.filter fun e=>decide (¬e∈l)) ds
  omega
structure RS where
 i:Nat
 mv:List Mvd
 n:Int
 cs:List Chg
 tg:C9
 ds:List Dig
 v:Value
 R:List Res
theorem Ug (s:List Sto) (t:C9) (l:List Dig) (u:C9) (m:Mta) (hv:Bc s):BG Tryz.prog 42 [.slice (s.map eSto) t,.slice (l.map eDig) u,.agg (Ed m)] [] (fun r L'=> ∃ ds cs tg v,Qf s l m=⟨m.author,m.message,m.time,ds,cs⟩∧r= .tuple [.agg (SF m ds cs tg),.raw v]∧L'= []):=by
 have i1:Aw (GQ s):=⟨hv.close.1⟩
 have ho:=Ey s
 have hol:(C5 s).length≤200:=by
  have:=FE ho.nodup (u:=ids s) ho.sub
  have:=hv.close.1.1
  unfold ids at*
  simp only[AU]at*
  omega
 refine C7 Tryz.func42 rfl Tryz.ntmps42 (rs:= [.cell 6 40,.tmp 7]) rfl rfl fun hb LF=>?_
 refine wf ?_
 refine Bw fun b6=>?_
 refine wo ?_
 refine AE ?_
 repeat(refine DP ?_)
 refine CC (by kernel_rfl) ?_
 iterate 6 (refine w1 ?_)
 refine QM (hZ:=sD) (c0:= [.str m.author]) (c1:= [.str m.message]) (c2:= [.raw (.int .i64 m.time)]) (r0:= [.str m.author,.str [],.raw (.int .i64 0),.slice [] .ro,.slice [] .nil]) (r1:= [.str m.author,.str m.message,.raw (.int .i64 0),.slice [] .ro,.slice [] .nil]) (r2:=SF m [] [] .nil) (hP0:=⟨rfl,by simp⟩) (hP1:=⟨rfl,by simp⟩) (hP2:=⟨rfl,by simp⟩) ?_ ?_ ?_ rfl rfl rfl ?_
 ·exact DB.one (c:= .str m.author) Dn.out
 ·exact DB.one (c:= .str m.message) Dn.out
 ·exact DB.one (c:= .raw (.int .i64 m.time)) Dn.out
 refine Bw fun b8=>?_
 refine Lq (new:=SF m [] [] .nil) (hf:=⟨eD _ _ _ _⟩) rfl rfl .here rfl (by simp) ?_
 refine AE ?_
 repeat(refine DP ?_)
 refine CC (by kernel_rfl) ?_
 refine X0 (α:=Mvd) (vf:=fun _=> []) fun v0 hv0=>?_
 have hr0:GM 108 67 v0 [] []:=jg hv0
 refine wf ?_
 refine EP 139 ?_
 refine EO (My.trans (.cons _ (.swap _ _ _))) ?_
 refine AZ (σ:=RS) (fun k=>k.i≤(C5 s).length∧ug s l k.i k.mv k.n k.cs k.ds∧GM 108 67 k.v (k.mv.map eMvd) k.R) (fun k=>(C5 s).length - k.i) (fun k=> [(0,.slice (s.map eSto) t),(1,.slice (l.map eDig) u),(6,.raw (.pointer (some ⟨b6,0,none⟩))),(8,.raw (.pointer (some ⟨b8,0,none⟩))),(9,.raw k.v),(10,.raw (.int .i64 k.n)),(11,.slice ((C5 s).map eDig) .ro),(12,.raw (.int .i64 k.i))]) (fun k=> .box b6 40 (Bh Pat.zero):: .box b8 40 (SF m k.ds k.cs k.tg):: .tok k.tg (k.cs).length 139::(k.R++LF)) ⟨0,[],0,[],.nil,[],v0,[]⟩ ⟨by simp,⟨rfl,⟨by simp,by simp⟩,fun e he=>absurd he Aa,by simp,by simp,by simp⟩,hr0⟩ ⟨rfl,rfl,rfl,rfl,rfl,rfl,rfl,rfl⟩ (.refl _) ?_
 rintro⟨i,mv,n,cs,tg,ds,v,R⟩ ⟨hi,hJ,hR⟩
 dsimp only at hi hJ hR ⊢
 refine wf ?_
 refine A7 (fun hc=>?_) (fun hc=>?_)
 ·have hlt:i < (C5 s).length:=by omega
  obtain⟨x,hx,hxd⟩:=AQ.1 (ho.sub _ (AG hlt))
  refine wf ?_
  refine AR (fun h=>?_) (fun h=>?_)
  ·refine wf ?_
   exact⟨⟨i+1,mv,n,cs,tg,ds,v,R⟩,⟨by dsimp only;omega,hJ.out hlt h,hR⟩,by dsimp only;omega,⟨rfl,rfl,rfl,rfl,rfl,rfl,rfl,rfl⟩,.refl _⟩
  ·have hl:x.id∈l:=by rw[hxd];exact h
   have hJ':=hJ.in_ hv hlt hx hxd.symm hl
   have hb0:=hv.close.1.2 x hx
   have hc16:cntS s x.id≤16200:=by rw[hv.cntS hx];exact(EB hb0).1
   obtain⟨_,_,g1,g2,gch⟩:=EY hb0
   have cg: ∀ t,C6 Tryz.prog 40 [.slice (s.map eSto) t,.agg (eDig (C5 s)[i])] (.tuple [.agg (Bh x.patch),.raw (.bool true)]):=fun t=>by
    have:=uj s (C5 s)[i] t
    rw[←hxd,hv.getS hx]at this
    rw[←hxd]
    exact this
   have cc:=cJ hv hx
   have hn0:=hJ.n0
   have hml:=hJ'.len
   have hml0:=hJ.len
   have hmv0:=hJ'.mvs
   have hcs0:=hJ.cs
   have hds0:=hJ.ds
   have hok:zR (mv++ [(⟨x.id,0,cntS s x.id,Dig.zero,n⟩:Mvd)]):=fun e he=>by have:=hmv0 e he;omega
   have hd:(C5 s)[i]=x.id:=hxd.symm
   refine wz fun b13=>?_
   refine Au 13 ?_
   refine wf ?_
   refine X1 (f:=eMvd) (m:= [(⟨(C5 s)[i],0,cntS s x.id,Dig.zero,n⟩:Mvd)]) (R:=R) (LF:= .box b6 40 (Bh Pat.zero):: .box b8 40 (SF m ds cs tg):: .tok tg cs.length 139::LF) (fun R'=> .box b6 40 (Bh Pat.zero):: .box b8 40 (SF m ds cs tg):: .tok tg (cs).length 139::(R'++LF)) rfl rfl hR Ta (fun R'=>Ta.symm) (by simp only[AU,AN,Af];omega) (by simp only[AU,AN,Af];omega) fun v2 R2 hv2=>?_
   rw[hd,←Al]at hv2
   refine wf ?_
   refine wf ?_
   refine AZ (σ:=Nat × List Chg × C9) (fun k=>k.1≤x.patch.changes.length∧k.2.1=cs++(x.patch.changes.take k.1).map (P6 (gM (mv++ [(⟨x.id,0,cntS s x.id,Dig.zero,n⟩:Mvd)]) x.id))) (fun k=>x.patch.changes.length - k.1) (fun k=> [(0,.slice (s.map eSto) t),(1,.slice (l.map eDig) u),(6,.raw (.pointer (some ⟨b6,0,none⟩))),(8,.raw (.pointer (some ⟨b8,0,none⟩))),(9,.raw v2),(10,.raw (.int .i64 (n+cntS s x.id))),(11,.slice ((C5 s).map eDig) .ro),(12,.raw (.int .i64 i)),(13,.pt (Bh x.patch) 0),(16,.raw (.int .i64 k.1))]) (fun k=> .box b6 40 (Bh Pat.zero):: .box b8 40 (SF m ds k.2.1 k.2.2):: .tok k.2.2 (k.2.1).length 139::(R2++LF)) (0,cs,tg) ⟨by simp,by simp⟩ ⟨rfl,rfl,rfl,rfl,rfl,rfl,rfl,rfl,rfl,rfl⟩ (.refl _) ?_
   rintro⟨j,cs1,tg1⟩ ⟨hj,hcs⟩
   dsimp only at hj hcs ⊢
   refine wf ?_
   refine A7 (fun hc1=>?_) (fun hc1=>?_)
   ·have hjl:j < x.patch.changes.length:=by omega
    have hch:=AG hjl
    have hl1:cs1.length=cs.length+j:=by rw[hcs];simp;omega
    refine wn ?_
    refine Bb 14 ?_ ?_
    ·decide+kernel
    refine wf ?_
    refine L6 (xs:= [.tmp 78,.tmp 82,.tmp 83]) R2 (.box b6 40 (Bh Pat.zero):: .box b8 40 (SF m ds cs1 tg1):: .tok tg1 cs1.length 139::LF) (.agg (eChg (P6 (gM (mv++ [(⟨x.id,0,cntS s x.id,Dig.zero,n⟩:Mvd)]) (C5 s)[i]) x.patch.changes[j]))) (f:=71) (cs:= []) (Bx _) rfl rfl Ta (Yg x.patch.changes[j] (C5 s)[i] (mv++ [(⟨x.id,0,cntS s x.id,Dig.zero,n⟩:Mvd)]) v2 R2 hv2 hok (by omega) (by have:=(gch _ hch).over;omega)) ?_
    rw[hd]
    refine aQ fun v'=>?_
    refine FW (ay:= .slice ((cs1++ [P6 (gM (mv++ [(⟨x.id,0,cntS s x.id,Dig.zero,n⟩:Mvd)]) x.id) x.patch.changes[j]]).map eChg) v') (SF m ds (cs1++ [P6 (gM (mv++ [(⟨x.id,0,cntS s x.id,Dig.zero,n⟩:Mvd)]) x.id) x.patch.changes[j]]) v') rfl rfl Dn.out rfl (by simp) ?_
    refine wf ?_
    refine wf ?_
    refine⟨(j+1,(cs1++ [P6 (gM (mv++ [(⟨x.id,0,cntS s x.id,Dig.zero,n⟩:Mvd)]) x.id) x.patch.changes[j]]),v'),⟨by dsimp only;omega,?_⟩,by dsimp only;omega,⟨rfl,rfl,rfl,rfl,rfl,rfl,rfl,rfl,rfl,rfl⟩,.refl _⟩
    dsimp only
    rw[A6 hjl,Al,hcs,AX]
    rfl
   ·have hcs:cs1=cs++x.patch.changes.map (P6 (gM (mv++ [(⟨x.id,0,cntS s x.id,Dig.zero,n⟩:Mvd)]) x.id)):=by rw[hcs,AA (by omega)]
    rw[←hcs]at hJ'
    refine wf ?_
    refine AZ (σ:=Nat × List Dig) (fun k=>k.1≤x.patch.deps.length∧k.2=((x.patch.deps.take k.1).filter (fun e=>decide (¬e∈l))).foldl EK ds) (fun k=>x.patch.deps.length - k.1) (fun k=> [(0,.slice (s.map eSto) t),(1,.slice (l.map eDig) u),(6,.raw (.pointer (some ⟨b6,0,none⟩))),(8,.raw (.pointer (some ⟨b8,0,none⟩))),(9,.raw v2),(10,.raw (.int .i64 (n+cntS s x.id))),(11,.slice ((C5 s).map eDig) .ro),(12,.raw (.int .i64 i)),(13,.pt (Bh x.patch) 0),(17,.raw (.int .i64 k.1))]) (fun k=> .box b6 40 (Bh Pat.zero):: .box b8 40 (SF m k.2 cs1 tg1):: .tok tg1 (cs1).length 139::(R2++LF)) (0,ds) ⟨by simp,by simp⟩ ⟨rfl,rfl,rfl,rfl,rfl,rfl,rfl,rfl,rfl,rfl⟩ (.refl _) ?_
    rintro⟨q,ds1⟩ ⟨hq,hds⟩
    dsimp only at hq hds ⊢
    have hdl:ds1.length≤40000+q:=by
     have a:=CX (fun e=>decide (¬e∈l)) (x.patch.deps.take q)
     have b:=Sk ((x.patch.deps.take q).filter (fun e=>decide (¬e∈l))) ds
     rw[←hds]at b
     rw[Ab]at a
     omega
    have i2:Aw (ds1.length≤1000000):=⟨by omega⟩
    refine wf ?_
    refine A7 (fun hc2=>?_) (fun hc2=>?_)
    ·have hql:q < x.patch.deps.length:=by omega
     refine wf ?_
     refine AR (fun hd2=>?_) (fun hd2=>?_)
     ·refine wn ?_
      refine Bb 8 ?_ ?_
      ·decide+kernel
      refine wf ?_
      refine FW (ay:= .slice ((EK ds1 x.patch.deps[q]).map eDig) .ro) (SF m (EK ds1 x.patch.deps[q]) cs1 tg1) rfl rfl Dn.out rfl (by simp) ?_
      refine wf ?_
      refine wf ?_
      refine⟨(q+1,EK ds1 x.patch.deps[q]),⟨by dsimp only;omega,?_⟩,by dsimp only;omega,⟨rfl,rfl,rfl,rfl,rfl,rfl,rfl,rfl,rfl,rfl⟩,.refl _⟩
      dsimp only
      rw[A6 hql,DU,Bk,←hds,E0 (by simpa using hd2)]
      rfl
     ·refine wf ?_
      refine⟨(q+1,ds1),⟨by dsimp only;omega,?_⟩,by dsimp only;omega,⟨rfl,rfl,rfl,rfl,rfl,rfl,rfl,rfl,rfl,rfl⟩,.refl _⟩
      dsimp only
      rw[A6 hql,DU,Bk,←hds,E1 (by simpa using hd2)]
      rfl
    ·have hds:ds1=(x.patch.deps.filter (fun e=>decide (¬e∈l))).foldl EK ds:=by rw[hds,AA (by omega)]
     rw[←hds]at hJ'
     refine wf ?_
     exact⟨⟨i+1,(mv++ [(⟨x.id,0,cntS s x.id,Dig.zero,n⟩:Mvd)]),(n+cntS s x.id),cs1,tg1,ds1,v2,R2⟩,⟨by dsimp only;omega,hJ',hv2⟩,by dsimp only;omega,⟨rfl,rfl,rfl,rfl,rfl,rfl,rfl,rfl⟩,.refl _⟩
 have hjn:Qf s l m=⟨m.author,m.message,m.time,ds,cs⟩:=by
  unfold Qf
  rw[show(C5 s).foldl (jR s l) ([],0,[],[])=(mv,n,cs,ds) by rw[←hJ.is,AA (by omega)]]
 refine wf ?_
 exact⟨trivial,_,[],.cons (.cell 6 40 rfl AI Ek.out rfl) (.cons (.tmp 7) .nil),.cons _ (.cons _ (.cons _ (DE R LF))),ds,cs,tg,v,hjn,rfl,rfl⟩
theorem YE (s:List Sto) (t:C9) (l:List Dig) (u:C9) (m:Mta) (hv:Bc s) (hl:l.length≤400) (hs:s.length≤190) (hg:E6 (Qf s l m)=false):
  C6 Tryz.prog 13 [.slice (s.map eSto) t,.slice (l.map eDig) u,.agg (Ed m)] (.tuple [.slice ((ai s l m).1.map eSto) .ro,.agg (eDig (ai s l m).2.1),.raw (.int .i64 (ai s l m).2.2)]):=⟨by
 have cc:=fun t u=>SH s t l u hv hs hl
 have cn:=fun t u=>ZL s t l u hv
 have co:=fun t u=>ZF s t l u (by omega)
 refine Av Tryz.func13 Tryz.ntmps13 rfl (rs:= [.tmp 6,.cell 7 31,.tmp 8]) rfl rfl fun hb LF=>?_
 refine wf ?_
 refine Bw fun b7=>?_
 refine wf ?_
 refine AZ (σ:=Nat) (fun k=>k≤l.length∧CW (ids s) (l.take k)=true) (fun k=>l.length - k) (fun k=> [(0,.slice (s.map eSto) t),(1,.slice (l.map eDig) u),(5,.pt (Ed m) 0),(7,.raw (.pointer (some ⟨b7,0,none⟩))),(9,.raw (.int .i64 k))]) (fun _=> .box b7 31 (eDig Dig.zero)::LF) 0 ⟨by simp,by simp[CW]⟩ ⟨rfl,rfl,rfl,rfl,rfl⟩ (.refl _) ?_
 rintro k ⟨hk,ha⟩
 refine wf ?_
 refine A7 (fun hc=>?_) (fun hc=>?_)
 ·have hlt:k < l.length:=by omega
  have hgs:=NB s l[k]
  refine wz fun b10=>?_
  refine wf ?_
  refine AO (fun h=>?_) (fun h=>?_)
  ·have hn:l[k]∉ids s:=by
    rw[hgs]at h
    simpa using h
   have:CW (ids s) l=false:=by
    unfold CW
    exact FK.2 ⟨l[k],AG hlt,by simpa using hn⟩
   have e:ai s l m=([],Dig.zero,7):=by unfold ai;rw[if_pos this]
   rw[e]
   refine wf ?_
   refine H0 rfl ?_
   exact .tuple3 (.ro _ _) (.refl _) (.refl _)
  ·have hn:l[k]∈ids s:=by
    rw[hgs]at h
    simpa using h
   refine wf ?_
   refine⟨k+1,⟨by omega,?_⟩,by dsimp only;omega,⟨rfl,rfl,rfl,rfl,rfl⟩,.cons _ (.refl _)⟩
   unfold CW at ha ⊢
   rw[A6 hlt,qI,ha]
   simp[hn]
 have h1:CW (ids s) l=true:=by rw[AA (by omega)]at ha;exact ha
 refine wf ?_
 refine BM [(41,.raw (.bool (decide (l.length=0∨rS s l=false)))),(0,.slice (s.map eSto) t),(1,.slice (l.map eDig) u),(5,.pt (Ed m) 0),(7,.raw (.pointer (some ⟨b7,0,none⟩)))] (.box b7 31 (eDig Dig.zero)::LF) ?_ ?_
 ·repeat' (first|(refine A7 (fun h=>?_) (fun h=>?_)<;>refine wf ?_)|(refine AR (fun h=>?_) (fun h=>?_)<;>refine wf ?_)|(refine AO (fun h=>?_) (fun h=>?_)<;>refine wf ?_)|(refine Aq (fun h=>?_) (fun h=>?_)<;>(have h2:=h;(try simp only[AB,A8,AH,AK]at h2);refine wf ?_)))
  all_goals (refine⟨⟨Bp (by rfl) ?_,rfl,rfl,rfl,rfl⟩,.refl _⟩;first|(simp_all;done)|(simp_all;omega)|grind)
 refine wf ?_
 refine A7 (fun h2=>?_) (fun h2=>?_)
 ·have e:ai s l m=([],Dig.zero,1):=by unfold ai;rw[if_neg (by simp[h1]),if_pos h2]
  rw[e]
  refine wf ?_
  refine H0 rfl ?_
  exact .tuple3 (.ro _ _) (.refl _) (.refl _)
 refine wf ?_
 refine AO (fun h3=>?_) (fun h3=>?_)
 ·have e:ai s l m=([],Dig.zero,19):=by unfold ai;rw[if_neg (by simp[h1]),if_neg h2,if_pos h3]
  rw[e]
  refine wf ?_
  refine H0 rfl ?_
  exact .tuple3 (.ro _ _) (.refl _) (.refl _)
 have e:ai s l m=Ee (FG s l) (Qf s l m):=by unfold ai;rw[if_neg (by simp[h1]),if_neg h2,if_neg (by simp[h3])]
 rw[e]
 have i6:Aw (GQ (FG s l)):=⟨(hv.out h3).close.1⟩
 refine wf ?_
 refine CK (xs:= [.tmp 50,.tmp 51,.tmp 52]) [] (.box b7 31 (eDig Dig.zero)::LF) (f:=42) (cs:= []) (Bx _) rfl rfl (.refl _) _ (Ug s t l u m hv) fun r L' ⟨ds,cs,tg,v,hj,e1,e2⟩=>?_
 subst e1 e2
 rw[B7]
 rw[hj]at hg ⊢
 have i7:Aw (E6 (⟨m.author,m.message,m.time,ds,cs⟩:Pat)=false):=⟨hg⟩
 refine wf ?_
 refine Bw fun b12=>?_
 refine Lq (new:=SF m ds cs tg) (hf:=⟨eD _ _ _ _⟩) rfl rfl .here rfl (by simp) ?_
 refine wo ?_
 refine AE ?_
 refine Au 12 ?_
 refine wn ?_
 refine MC [false,false,false,false,false,false,false,false,false,true,false] ?_ ?_
 ·decide+kernel
 refine wf ?_
 refine H0 rfl ?_
 exact .refl _⟩
end Go.Proofs
namespace Go.Q
open Go
def Ud (l:List Int):List PV:= [.slice (l.map eI) .ro]
@[simp] theorem oc (l:List Int):(Ud l).length=1:=rfl
instance :NM Ud 1:=⟨oc⟩
theorem aH {n:Nat} {f:Nat→PV} {c:Nat} (h:c < n):At ((List.range n).map f) (0+c*1) (f c):=⟨by simp[h]⟩
theorem RU {n:Nat} {f g:Nat→PV} {c:Nat} (h:c < n) (hg: ∀ d,d < n→g d=if d=c then g c else f d):FA ((List.range n).map f) (0+c*1) [g c] ((List.range n).map g):=⟨by
 have hs:((List.range n).map f).set c (g c)=(List.range n).map g:=by
  refine E3 (by simp) fun i h1 h2=>?_
  simp only[AU,H9]at h2
  rw[SZ,B4,B4,ch,hg i h2]
  by_cases e:c=i
  ·rw[if_pos e,if_pos e.symm]
  ·rw[if_neg e,if_neg fun k=>e k.symm]
 refine⟨?_,by simp;omega⟩
 rw[BN,IB,←hs,Gw,if_pos (by simpa using h),AX,MR]
 rfl⟩
end Go.Q
namespace Go.Proofs
open Go Go.Q
attribute [local irreducible] Eb AV Ga BG Fu
theorem Qi (A:List (List Int)) (m:List Int) (c:Int):R5 (A++ [m]) c=if c∈A.flatten then R5 A c else if c∈m then(A.length:Int)else -1:=by
 unfold R5
 rw[List.findIdx?_append]
 cases h:A.findIdx? (fun l=>decide (c∈l))with
 |some k=>
  obtain⟨hk,h1,_⟩:=L0.1 h
  rw[if_pos (EJ.2 ⟨_,AG hk,Az h1⟩)]
  rfl
 |none=>
  have hn:c∉A.flatten:=fun hc=>by
   obtain⟨l,hl,hcl⟩:=EJ.1 hc
   have:=vy.1 h l hl
   simp[hcl]at this
  rw[if_neg hn]
  by_cases hm:c∈m
  ·rw[if_pos hm,List.findIdx?_cons]
   simp[hm]
  ·rw[if_neg hm,List.findIdx?_cons]
   simp[hm]
theorem Rm (A:List (List Int)) (c:Int): -1≤R5 A c∧R5 A c < A.length∧(0≤R5 A c↔c∈A.flatten):=by
 unfold R5
 cases h:A.findIdx? (fun l=>decide (c∈l))with
 |some k=>
  obtain⟨hk,h1,_⟩:=L0.1 h
  refine⟨by dsimp only;omega,by dsimp only;omega,fun _=>EJ.2 ⟨_,AG hk,Az h1⟩,fun _=>by dsimp only;omega⟩
 |none=>
  refine⟨by decide,by dsimp only;omega,fun h=>absurd h (by decide),fun hc=>?_⟩
  obtain⟨l,hl,hcl⟩:=EJ.1 hc
  have:=vy.1 h l hl
  simp[hcl]at this
theorem bX {n:Nat} {D l:List Int} {ps:List (List Int)}:Fw n D (l::ps)=(Tf n D l&&decide (l≠ [])&&Fw n (D++l) ps):=rfl
theorem fp {n:Nat} {D l:List Int} {i:Nat} (hi:i < l.length) (h:Qx n D l i=true):Tf n D l=false:=by
 unfold Tf
 exact FK.2 ⟨i,Ba.2 hi,by simp[h]⟩
theorem bW {n:Nat} {D l:List Int} (h: ∀ i,i < l.length→Qx n D l i=false):Tf n D l=true:=by
 unfold Tf
 exact BH.2 fun i hi=>by simp[h i (Ba.1 hi)]
def ZX (n:Nat) (A:List (List Int)):List PV:=(List.range n).map fun c=> .raw (.int .i64 (R5 A (c:Nat)))
theorem oh (n:Nat) (A:List (List Int)):ZX n (A++ [[]])=ZX n A:=by
 unfold ZX
 refine Cc fun c _=>?_
 rw[Qi]
 obtain⟨h1,h2,h3⟩:=Rm A c
 split
 ·rfl
 ·rename_i h
  rw[if_neg Aa]
  have: ¬0≤R5 A c:=fun k=>h (h3.1 k)
  rw[show R5 A c= -1 by omega]
theorem og {n:Nat} {A:List (List Int)} {l:List Int} {i:Nat} (hi:i < l.length) {c:Nat} (hc:c < n) (hx:l[i]=(c:Int)) (hn:(c:Int)∉A.flatten++l.take i):FA (ZX n (A++ [l.take i])) (0+c*1) [.raw (.int .i64 A.length)] (ZX n (A++ [l.take (i+1)])):=by
 have h1:(c:Int)∉A.flatten:=fun h=>hn (Dk _ h)
 have h2:(c:Int)∉l.take i:=fun h=>hn (DY _ h)
 have e:l.take (i+1)=l.take i++ [(c:Int)]:=by rw[A6 hi,hx]
 have hg:R5 (A++ [l.take (i+1)]) c=A.length:=by rw[Qi,if_neg h1,if_pos (by rw[e];simp)]
 have:=RU (f:=fun d=>PV.raw (.int .i64 (R5 (A++ [l.take i]) (d:Nat)))) (g:=fun d=>PV.raw (.int .i64 (R5 (A++ [l.take (i+1)]) (d:Nat)))) hc fun d hd=>by
  by_cases hdc:d=c
  ·rw[if_pos hdc,hdc]
  ·rw[if_neg hdc,Qi,Qi]
   have:((d:Int)∈l.take (i+1))=((d:Int)∈l.take i):=by
    rw[e]
    simp only[Ah,Ae,eq_iff_iff]
    exact⟨fun h=>h.elim id fun h=>absurd (by omega) hdc,.inl⟩
   simp only[this]
 rw[hg]at this
 exact this
theorem pf {n:Nat} {A:List (List Int)} {l:List Int} {i:Nat} (hi:i < l.length) {c:Nat} (hx:l[i]=(c:Int)):Qx n A.flatten l i=(decide (n≤c)||decide (0≤R5 (A++ [l.take i]) c)||(decide (0 < i)&&decide ((c:Int)≤l.getD (i - 1) 0))):=by
 unfold Qx
 have e:l.getD i 0=(c:Int):=by simp[List.getD,hi,hx]
 have h3:=(Rm (A++ [l.take i]) c).2.2
 rw[CD,GW]at h3
 rw[e,Cf (show ¬(c:Int) < 0 by omega),Fi]
 congr 1
 congr 1
 ·rw[decide_eq_decide];omega
 ·rw[decide_eq_decide];exact h3.symm
theorem XD (n:Nat) (Q:List (List Int)) (t:C9) (hn:n≤1000000) (hQ:Q.length≤1000000) (hl: ∀ l∈Q,l.length≤1000000):BG Tryz.prog 63 [.raw (.int .i64 (n:Int)),.slice (Q.map Ud) t] []
  (fun r L'=>L'= []∧((r= .tuple [.slice [] .nil,.raw (.bool false)]∧Fw n [] Q=false)∨ ∃ b,r= .tuple [.slice (((List.range n).map fun c=>R5 Q (c:Nat)).map eI) .ro,.raw (.bool b)]∧Fw n [] Q=b)):=by
 refine C7 Tryz.func63 rfl Tryz.ntmps63 (rs:= [.tmp 4,.tmp 5]) rfl rfl fun hb LF=>?_
 refine wf ?_
 refine qc (z:= .raw (.int .i64 0)) rfl rfl (by omega) (by omega) fun b=>?_
 refine wf ?_
 refine Ia rfl ?_
 refine wf ?_
 refine AZ (σ:=Nat) (fun k=>k≤n) (fun k=>n - k) (fun k=> [(0,.raw (.int .i64 (n:Int))),(1,.slice (Q.map Ud) t),(6,.raw (.slice (some ⟨b,0,none⟩) n n)),(16,.raw (.int .i64 (n:Int))),(17,.raw (.int .i64 k))]) (fun k=> .box b 3 ((List.range n).map fun c=>if c < k then .raw (.int .i64 (-1))else .raw (.int .i64 0))::LF) 0 (by omega) ⟨rfl,rfl,rfl,rfl,rfl⟩ (by
  have:((List.range n).map fun c=>if c < 0 then(PV.raw (.int .i64 (-1)))else .raw (.int .i64 0))=List.replicate n (.raw (.int .i64 0)):=E3 (by simp) fun i h1 h2=>by simp
  rw[this];exact .refl _) ?_
 rintro k hk
 refine wf ?_
 refine A7 (fun hc=>?_) (fun hc=>?_)
 ·have hlt:k < n:=by omega
  have ip:FA ((List.range n).map fun c=>if c < k then(PV.raw (.int .i64 (-1)))else .raw (.int .i64 0)) (0+k*1) [.raw (.int .i64 (-1))] ((List.range n).map fun c=>if c < k+1 then .raw (.int .i64 (-1))else .raw (.int .i64 0)):=by
   have:=RU (f:=fun c=>if c < k then(PV.raw (.int .i64 (-1)))else .raw (.int .i64 0)) (g:=fun c=>if c < k+1 then(PV.raw (.int .i64 (-1)))else .raw (.int .i64 0)) hlt fun d hd=>by
    by_cases e:d=k
    ·rw[if_pos e];simp[e]
    ·rw[if_neg e]
     by_cases h2:d < k
     ·rw[if_pos h2,if_pos (by omega)]
     ·rw[if_neg h2,if_neg (by omega)]
   simpa using this
  refine wf ?_
  refine Dh (k:=k) rfl rfl hlt ?_
  refine wf ?_
  exact⟨k+1,by omega,by dsimp only;omega,⟨rfl,rfl,rfl,rfl,rfl⟩,.refl _⟩
 have h0:((List.range n).map fun c=>if c < k then(PV.raw (.int .i64 (-1)))else .raw (.int .i64 0))=ZX n []:=by
  unfold ZX
  refine Cc fun c hcm=>?_
  have:=Ba.1 hcm
  rw[if_pos (by omega)]
  rfl
 rw[h0]
 clear h0
 refine wf ?_
 refine AZ (σ:=Nat) (fun k=>k≤Q.length∧Fw n [] Q=Fw n (Q.take k).flatten (Q.drop k)∧(Q.take k).flatten.length≤k*1000000) (fun k=>Q.length - k) (fun k=> [(0,.raw (.int .i64 (n:Int))),(1,.slice (Q.map Ud) t),(6,.raw (.slice (some ⟨b,0,none⟩) n n)),(8,.raw (.int .i64 ((Q.take k).flatten.length:Nat))),(24,.slice (Q.map Ud) t),(25,.raw (.int .i64 Q.length)),(26,.raw (.int .i64 k))]) (fun k=> .box b 3 (ZX n (Q.take k))::LF) 0 ⟨by simp,by simp,by simp⟩ ⟨rfl,rfl,rfl,rfl,rfl,rfl,rfl⟩ (.refl _) ?_
 rintro k ⟨hk,hok,hfl⟩
 refine wf ?_
 refine A7 (fun hc=>?_) (fun hc=>?_)
 ·have hlt:k < Q.length:=by omega
  have hll:=hl _ (AG hlt)
  rw[CP hlt,bX]at hok
  obtain⟨l,hql⟩: ∃ l,l=Q[k]:=⟨_,rfl⟩
  rw[←hql]at hok hll
  have htk:Q.take (k+1)=Q.take k++ [l]:=by rw[A6 hlt,hql]
  generalize hD:(Q.take k).flatten=D at hok hfl
  refine wf ?_
  rw[←hql]
  refine A7 (fun he=>?_) (fun he=>?_)
  ·refine wf ?_
   have hl0:l= []:=BL (by omega)
   exact⟨trivial,_,[],.cons (.tmp 4) (.cons (.tmp 5) .nil),.cons _ (.refl _),rfl,.inl ⟨rfl,by rw[hok,hl0];simp⟩⟩
  obtain⟨A,hA⟩: ∃ A,A=Q.take k:=⟨_,rfl⟩
  have hAl:A.length=k:=by rw[hA];simp;omega
  rw[←hA]at hD htk ⊢
  refine wf ?_
  refine AZ (σ:=Nat) (fun i=>i≤l.length∧ ∀ j,j < i→Qx n D l j=false) (fun i=>l.length - i) (fun i=> [(0,.raw (.int .i64 (n:Int))),(1,.slice (Q.map Ud) t),(6,.raw (.slice (some ⟨b,0,none⟩) n n)),(8,.raw (.int .i64 ((D.length+i:Nat)))),(9,.raw (.int .i64 k)),(10,.slice (l.map eI) .ro),(24,.slice (Q.map Ud) t),(25,.raw (.int .i64 Q.length)),(26,.raw (.int .i64 k)),(34,.slice (l.map eI) .ro),(35,.raw (.int .i64 l.length)),(36,.raw (.int .i64 i))]) (fun i=> .box b 3 (ZX n (A++ [l.take i]))::LF) 0 ⟨by simp,fun j hj=>absurd hj (Dy _)⟩ ⟨rfl,rfl,rfl,by rw[←hD];rfl,rfl,rfl,rfl,rfl,rfl,rfl,rfl,rfl⟩ (by rw[List.take_zero,oh];exact .refl _) ?_
  rintro i ⟨hi,hbad⟩
  refine wf ?_
  refine A7 (fun hc2=>?_) (fun hc2=>?_)
  ·have hil:i < l.length:=by omega
   have hret:Qx n D l i=true→Fw n [] Q=false:=fun h=>by rw[hok,fp hil h];rfl
   refine wf ?_
   by_cases hx0:l[i] < 0
   ·have hb1:Qx n D l i=true:=by
     unfold Qx
     rw[show l.getD i 0=l[i] by simp[List.getD,hil],BO hx0];rfl
    have hret:=hret hb1
    generalize l[i]=x at*
    refine BM [(67,.raw (.bool (Qx n D l i))),(0,.raw (.int .i64 (n:Int))),(1,.slice (Q.map Ud) t),(6,.raw (.slice (some ⟨b,0,none⟩) n n)),(8,.raw (.int .i64 ((D.length+i:Nat)))),(9,.raw (.int .i64 k)),(10,.slice (l.map eI) .ro),(11,.raw (.int .i64 i)),(12,.raw (.int .i64 x)),(24,.slice (Q.map Ud) t),(25,.raw (.int .i64 Q.length)),(26,.raw (.int .i64 k)),(34,.slice (l.map eI) .ro),(35,.raw (.int .i64 l.length)),(36,.raw (.int .i64 i))] (.box b 3 (ZX n (A++ [l.take i]))::LF) ?_ ?_
    ·repeat' (first|(refine A7 (fun h=>?_) (fun h=>?_)<;>refine wf ?_)|(refine AR (fun h=>?_) (fun h=>?_)<;>refine wf ?_)|(refine AO (fun h=>?_) (fun h=>?_)<;>refine wf ?_)|(refine Aq (fun h=>?_) (fun h=>?_)<;>(have h2:=h;(try simp only[AB,A8,AH,AK]at h2);refine wf ?_)))
     all_goals first|(refine⟨⟨Bp (by rfl) ?_,rfl,rfl,rfl,rfl,rfl,rfl,rfl,rfl,rfl,rfl,rfl,rfl,rfl,rfl⟩,.refl _⟩;first|(rw[hb1];done)|(rw[hb1];first|(simp_all;done)|(exfalso;simp_all;omega)))|(exfalso;simp_all;done)|(exfalso;simp_all;omega)|(trace_state;fail)
    refine wf ?_
    refine AO (fun hr=>?_) (fun hr=>?_)
    ·refine wf ?_
     exact⟨trivial,_,[],.cons (.tmp 4) (.cons (.tmp 5) .nil),.cons _ (.refl _),rfl,.inl ⟨rfl,hret⟩⟩
    ·rw[hb1]at hr
     simp at hr
   ·obtain⟨c,hcx⟩:=zD (show 0≤l[i] by omega)
    have hbe:=pf (n:=n) (A:=A) hil hcx
    rw[hD]at hbe
    have iat: ∀ hcn:c < n,At (ZX n (A++ [l.take i])) (0+c*1) (.raw (.int .i64 (R5 (A++ [l.take i]) (c:Nat)))):=fun hcn=>aH (f:=fun c=>PV.raw (.int .i64 (R5 (A++ [l.take i]) (c:Nat)))) hcn
    rw[hcx]
    by_cases hcn:c < n
    ·have iat:=iat hcn
     refine BM [(67,.raw (.bool (Qx n D l i))),(0,.raw (.int .i64 (n:Int))),(1,.slice (Q.map Ud) t),(6,.raw (.slice (some ⟨b,0,none⟩) n n)),(8,.raw (.int .i64 ((D.length+i:Nat)))),(9,.raw (.int .i64 k)),(10,.slice (l.map eI) .ro),(11,.raw (.int .i64 i)),(12,.raw (.int .i64 (c:Int))),(24,.slice (Q.map Ud) t),(25,.raw (.int .i64 Q.length)),(26,.raw (.int .i64 k)),(34,.slice (l.map eI) .ro),(35,.raw (.int .i64 l.length)),(36,.raw (.int .i64 i))] (.box b 3 (ZX n (A++ [l.take i]))::LF) ?_ ?_
     ·rcases Q5 i with hi0|hi0
      ·rw[Cf (show ¬0 < i by omega),uy,yE]at hbe
       repeat' (first|(refine Dh (k:=c) rfl rfl hcn ?_;refine wf ?_)|(refine A7 (fun h=>?_) (fun h=>?_)<;>refine wf ?_)|(refine AR (fun h=>?_) (fun h=>?_)<;>refine wf ?_)|(refine AO (fun h=>?_) (fun h=>?_)<;>refine wf ?_)|(refine Aq (fun h=>?_) (fun h=>?_)<;>(have h2:=h;(try simp only[AB,A8,AH,AK]at h2);refine wf ?_)))
       all_goals first|(refine⟨⟨Bp (by rfl) ?_,rfl,rfl,rfl,rfl,rfl,rfl,rfl,rfl,rfl,rfl,rfl,rfl,rfl,rfl⟩,.refl _⟩;rw[hbe];first|(simp_all;done)|(simp_all;omega)|grind)|(exfalso;simp_all;done)|(exfalso;simp_all;omega)|(trace_state;fail)
      ·have hj:i - 1 < l.length:=by omega
       repeat' (first|(refine Dh (k:=c) rfl rfl hcn ?_;refine wf ?_)|(refine A7 (fun h=>?_) (fun h=>?_)<;>refine wf ?_)|(refine AR (fun h=>?_) (fun h=>?_)<;>refine wf ?_)|(refine AO (fun h=>?_) (fun h=>?_)<;>refine wf ?_)|(refine Aq (fun h=>?_) (fun h=>?_)<;>(have h2:=h;(try simp only[AB,A8,AH,AK]at h2);refine wf ?_)))
       all_goals first|(refine⟨⟨Bp (by rfl) ?_,rfl,rfl,rfl,rfl,rfl,rfl,rfl,rfl,rfl,rfl,rfl,rfl,rfl,rfl⟩,.refl _⟩;rw[hbe];first|(simp_all;done)|(simp_all;omega)|grind)|(exfalso;simp_all;done)|(exfalso;simp_all;omega)|(trace_state;fail)
     refine wf ?_
     refine AO (fun hr=>?_) (fun hr=>?_)
     ·refine wf ?_
      exact⟨trivial,_,[],.cons (.tmp 4) (.cons (.tmp 5) .nil),.cons _ (.refl _),rfl,.inl ⟨rfl,hret hr⟩⟩
     have hnm:(c:Int)∉A.flatten++l.take i:=fun hm=>by
      have:=hbe.symm.trans hr
      have h3:=(Rm (A++ [l.take i]) c).2.2
      rw[CD,GW]at h3
      rw[BO (h3.2 hm)]at this
      simp at this
     have iput:=og hil hcn hcx hnm
     rw[hAl]at iput
     refine wf ?_
     refine Dh (k:=c) rfl rfl hcn ?_
     refine wf ?_
     refine⟨i+1,⟨by omega,fun j hj=>?_⟩,by dsimp only;omega,⟨rfl,rfl,rfl,rfl,rfl,rfl,rfl,rfl,rfl,rfl,rfl,rfl⟩,.refl _⟩
     by_cases e:j=i
     ·rw[e];exact hr
     ·exact hbad j (by omega)
    ·have hb1:Qx n D l i=true:=by rw[hbe,BO (show n≤c by omega)];rfl
     have hret:=hret hb1
     refine BM [(67,.raw (.bool (Qx n D l i))),(0,.raw (.int .i64 (n:Int))),(1,.slice (Q.map Ud) t),(6,.raw (.slice (some ⟨b,0,none⟩) n n)),(8,.raw (.int .i64 ((D.length+i:Nat)))),(9,.raw (.int .i64 k)),(10,.slice (l.map eI) .ro),(11,.raw (.int .i64 i)),(12,.raw (.int .i64 (c:Int))),(24,.slice (Q.map Ud) t),(25,.raw (.int .i64 Q.length)),(26,.raw (.int .i64 k)),(34,.slice (l.map eI) .ro),(35,.raw (.int .i64 l.length)),(36,.raw (.int .i64 i))] (.box b 3 (ZX n (A++ [l.take i]))::LF) ?_ ?_
     ·repeat' (first|(refine A7 (fun h=>?_) (fun h=>?_)<;>refine wf ?_)|(refine AR (fun h=>?_) (fun h=>?_)<;>refine wf ?_)|(refine AO (fun h=>?_) (fun h=>?_)<;>refine wf ?_)|(refine Aq (fun h=>?_) (fun h=>?_)<;>(have h2:=h;(try simp only[AB,A8,AH,AK]at h2);refine wf ?_)))
      all_goals first|(refine⟨⟨Bp (by rfl) ?_,rfl,rfl,rfl,rfl,rfl,rfl,rfl,rfl,rfl,rfl,rfl,rfl,rfl,rfl⟩,.refl _⟩;first|(rw[hb1];done)|(rw[hb1];first|(simp_all;done)|(exfalso;simp_all;omega)))|(exfalso;simp_all;done)|(exfalso;simp_all;omega)|(trace_state;fail)
     refine wf ?_
     refine AO (fun hr=>?_) (fun hr=>?_)
     ·refine wf ?_
      exact⟨trivial,_,[],.cons (.tmp 4) (.cons (.tmp 5) .nil),.cons _ (.refl _),rfl,.inl ⟨rfl,hret⟩⟩
     ·rw[hb1]at hr
      simp at hr
  ·obtain rfl:i=l.length:=by omega
   have hl0:l≠ []:=fun e=>he (by rw[e];rfl)
   rw[bW (fun j hj=>hbad j (by omega)),BO hl0,E5,E5]at hok
   refine wf ?_
   refine⟨k+1,⟨by omega,?_,?_⟩,by dsimp only;omega,⟨rfl,rfl,rfl,?_,rfl,rfl,rfl⟩,?_⟩
   ·rw[hok,htk,CD,GW,hD]
   ·rw[htk,CD,GW,hD,AD];omega
   ·have e2:((Q.take (k+1)).flatten.length:Nat)=D.length+l.length:=by rw[htk,CD,GW,hD,AD]
    simp only[e2]
    rfl
   ·dsimp only
    rw[htk,EI];exact .refl _
 ·have hk2:k=Q.length:=by omega
  subst hk2
  rw[mC,EI]at hok
  rw[EI]at hfl ⊢
  have e1:(((List.range n).map fun c=>R5 Q (c:Nat)).map eI).flatten=ZX n Q:=by
   unfold ZX
   rw[CU]
   generalize List.range n=rs
   induction rs with
   |nil=>rfl
   |cons x xs ih=>rw[Ar,Cb,ih];rfl
  have hv1:GM 3 1 (.slice (some ⟨b,0,none⟩) n n) (((List.range n).map fun c=>R5 Q (c:Nat)).map eI) [.box b 3 (ZX n Q)]:=by
   have:=GM.row (E:=3) (sz:=1) (r:=b) (n:=n) (cap:=n) (xs:=((List.range n).map fun c=>R5 Q (c:Nat)).map eI) (rest:= []) (by simp) (An _) (by simp[eI]) (by rw[e1];simp[ZX])
   rw[e1,BQ]at this
   exact this
  refine Jc 6 hv1 ⟨by simp[maxN];omega,by simp[maxN];omega⟩ (.refl _) rfl ?_
  refine wf ?_
  refine⟨trivial,_,[],.cons (.tmp 4) (.cons (.tmp 5) .nil),.refl _,rfl,.inr ⟨_,rfl,?_⟩⟩
  rw[hok]
  show decide (Q.flatten.length=n)=decide ((Q.flatten.length:Int)=n)
  rw[decide_eq_decide];omega
theorem dj {cs:List Chg} {n:Int} {k:Nat} (hk:k < cs.length) (h1:(DW cs k:Int)≤n) (h2: ∀ i,k < i→i < cs.length→ ¬(DW cs i:Int)≤n):E7 cs n=k:=by
 unfold E7
 rw[OH (f:=DW cs) (fun i j h=>Eo cs h) hk h1 h2]
 rfl
def lK (b:Nat) (k:Nat) (LF:List Res):List Res:= .box b 3 [.raw (.int .i64 (k:Int))]::LF
theorem Vy {s:List Sto} (v:Bc s) {x:Sto} (hx:x∈s) {n:Nat} (hn:n < x.patch.changes.length):C6 Tryz.prog 31 [.agg (Bh x.patch),.raw (.int .i64 (n:Int))] (.raw (.int .i64 (DW x.patch.changes n:Int))):=⟨by
 have hb0:=v.close.1.2 x hx
 have i1:Aw (E6 x.patch=false):=⟨hb0⟩
 obtain⟨_,_,g1,g2,gch⟩:=EY hb0
 have hp:=Ht (Js (v.id x hx).1).1
 have hc16:DW x.patch.changes x.patch.changes.length≤16200:=by
  have h1:cntS s x.id=DW x.patch.changes x.patch.changes.length:=by rw[v.cntS hx,hp.cnt]
  have h2:cntS s x.id≤16200:=by rw[v.cntS hx];exact(EB hb0).1
  omega
 refine Av Tryz.func31 Tryz.ntmps31 rfl (rs:= [.tmp 4]) rfl rfl fun hb LF=>?_
 have he:(CN x.patch).2=0:=by
  have:=(v.id x hx).1
  rw[Ei]at this
  split at this
  ·rename_i h;exact absurd this h
  ·rename_i h;simpa using h
 refine wf ?_
 refine BM [(21,.raw (.bool (false))),(1,.raw (.int .i64 (n:Int))),(2,.pt (Bh x.patch) 0)] (LF) ?_ ?_
 ·repeat' (first|(refine A7 (fun h=>?_) (fun h=>?_)<;>refine wf ?_)|(refine AR (fun h=>?_) (fun h=>?_)<;>refine wf ?_)|(refine AO (fun h=>?_) (fun h=>?_)<;>refine wf ?_)|(refine Aq (fun h=>?_) (fun h=>?_)<;>(have h2:=h;(try simp only[AB,A8,AH,AK]at h2);refine wf ?_)))
  all_goals (refine⟨⟨Bp (by rfl) ?_,rfl,rfl⟩,.refl _⟩;first|(simp_all;done)|(exfalso;simp_all;omega)|grind|(trace_state;fail))
 refine wf ?_
 refine Y2 fun b5=>?_
 obtain⟨L,hL⟩: ∃ L,L=x.patch.changes.take n:=⟨_,rfl⟩
 have hfl:DW L L.length=DW x.patch.changes n:=by
  unfold DW
  rw[EI,hL]
 have hLl:L.length=n:=by rw[hL,Ab];omega
 have hLm: ∀ c∈L,c∈x.patch.changes:=fun c hc=>E8 (hL ▸ hc)
 have hnn:=Eo x.patch.changes (show n≤x.patch.changes.length by omega)
 rw[←hL]
 clear hL
 refine AZ (σ:=Nat) (fun k=>k≤L.length) (fun k=>L.length - k) (fun k=> [(5,.raw (.pointer (some ⟨b5,0,none⟩))),(25,.slice (L.map eChg) .ro),(26,.raw (.int .i64 L.length)),(27,.raw (.int .i64 k))]) (fun k=>lK b5 (DW L k) LF) 0 (by omega) ⟨rfl,rfl,rfl,rfl⟩ (by rw[Ow];exact .refl _) ?_
 rintro k hk
 have hmk:=Eo L (show k≤L.length by omega)
 unfold lK
 refine wf ?_
 refine A7 (fun hc=>?_) (fun hc=>?_)
 ·have hlt:k < L.length:=by omega
  have hm:=hLm _ (AG hlt)
  have hkk:=v.kinds hx _ hm
  have hll:=(gch _ hm).lines
  have hs:=IW hlt
  have hm2:=Eo L (show k+1≤L.length by omega)
  refine wz fun b7=>?_
  refine Au 7 ?_
  refine wf ?_
  refine JT (Ri L[k] (DW L k:Nat) hkk ⟨by omega,by omega,by omega⟩) [34] (σ:=Nat) (fun pre s=>s=DW L k+pre.length) (fun _ _=>False) (fun s LF'=>lK b5 s LF') (DW L k) LF (.refl _) rfl (fun _=>rfl) (by simp) (fun _ _=>rfl) (.refl _) (by simp) ?_ ?_ (fun _ _ h=>h.elim)
  ·rintro pre y q LF' hpre hI
   have hpl:=hpre.length_le
   rw[RP,AD,B9]at hpl
   unfold lK
   refine wf ?_
   refine⟨q+1,by dsimp only at hI ⊢;rw[AD,B9];omega,?_⟩
   exact .refl _
  ·rintro q hI
   rw[RP,←hs]at hI
   unfold lK
   refine wf ?_
   refine⟨k+1,by omega,by dsimp only;omega,⟨rfl,rfl,rfl,rfl⟩,?_⟩
   rw[hI];exact .refl _
 ·obtain rfl:k=L.length:=by omega
  refine wf ?_
  refine Ax (.of_eq ?_)
  rw[hfl]⟩
instance xR (a b:Int):C6 Tryz.prog 229 [.raw (.int .i64 a),.raw (.int .i64 b)] (.raw (.bool (decide (a < b)))):=⟨by
 refine Av Tryz.func229 Tryz.ntmps229 rfl (rs:= [.tmp 4]) rfl rfl fun hb LF=>?_
 refine wf ?_
 refine Ax (.of_eq rfl)⟩
instance vV (a:Int):C6 Tryz.prog 230 [.raw (.int .i64 a)] (.raw (.bool false)):=⟨by
 refine Av Tryz.func230 Tryz.ntmps230 rfl (rs:= [.tmp 2]) rfl rfl fun hb LF=>?_
 refine wf ?_
 refine Ax (.of_eq ?_)
 simp⟩
def Pn (l:List Int) (n:Int):Nat:=l.findIdx fun x=>decide (n≤x)
theorem o7 {l:List Int} {n:Int} {i:Nat} (hi:i≤l.length) (h1: ∀ k (h:k < l.length),k < i→l[k] < n) (h2: ∀ k (h:k < l.length),i≤k→n≤l[k]):Pn l n=i:=by
 unfold Pn
 by_cases h:i < l.length
 ·refine qG h |>.2 ⟨BO (h2 i h (An _)),fun j hj=>?_⟩
  have:=h1 j (by omega) hj
  simp;omega
 ·obtain rfl:i=l.length:=by omega
  refine zx.2 fun y hy=>?_
  obtain⟨k,hk,rfl⟩:=Ai.1 hy
  have:=h1 k hk hk
  simp;omega
theorem pc (l:List Int) (t:C9) (n:Int) (ha:l.Pairwise (·< ·)) (hl:l.length≤1000000):C6 Tryz.prog 181 [.slice (l.map eI) t,.raw (.int .i64 n)] (.tuple [.raw (.int .i64 (Pn l n)),.raw (.bool (decide (l[Pn l n]? =some n)))]):=⟨by
 refine Av Tryz.func181 Tryz.ntmps181 rfl (rs:= [.tmp 4,.tmp 5]) rfl rfl fun hb LF=>?_
 refine wf ?_
 refine AZ (σ:=Nat × Nat) (fun k=>k.1≤k.2∧k.2≤l.length∧(∀ i (h:i < l.length),i < k.1→l[i] < n)∧(∀ i (h:i < l.length),k.2≤i→n≤l[i])) (fun k=>k.2 - k.1) (fun k=> [(0,.slice (l.map eI) t),(1,.raw (.int .i64 n)),(6,.raw (.int .i64 l.length)),(7,.raw (.int .i64 k.1)),(8,.raw (.int .i64 k.2))]) (fun _=>LF) (0,l.length) ⟨Xv _,An _,fun i _ h=>absurd h (Dy _),fun i h h2=>absurd h (Nat.not_lt.2 h2)⟩ ⟨rfl,rfl,rfl,rfl,rfl⟩ (.refl _) ?_
 rintro⟨i,j⟩ ⟨hij,hjn,h1,h2⟩
 dsimp only at hij hjn h1 h2 ⊢
 have mono: ∀ a b (ha':a < l.length) (hb':b < l.length),a < b→l[a] < l[b]:=fun a b x y h=>B5.1 ha a b x y h
 refine wf ?_
 refine A7 (fun hc=>?_) (fun hc=>?_)
 ·have hlt:i < j:=by omega
  obtain⟨m,hm⟩: ∃ m,m=(i+j) / 2 ^ (min 1 64):=⟨_,rfl⟩
  have hm2:m=(i+j) / 2:=hm
  have hmn:m < l.length:=by omega
  refine wf ?_
  refine Wv (n:=(((i+j) / 2 ^ (min 1 64):Nat):Int)) rfl (IntWalk.i64_in _ ⟨by omega,by omega⟩) ?_
  rw[←hm]
  refine wf ?_
  refine A7 (fun h=>?_) (fun h=>?_)
  ·refine wf ?_
   refine⟨(m+1,j),⟨by dsimp only;omega,hjn,fun k hk hkm=>?_,h2⟩,by dsimp only;omega,⟨rfl,rfl,rfl,rfl,rfl⟩,.refl _⟩
   dsimp only at hkm
   by_cases e:k=m
   ·subst e;exact h
   ·have:=mono k m hk hmn (by omega);omega
  ·refine wf ?_
   refine⟨(i,m),⟨by dsimp only;omega,by dsimp only;omega,h1,fun k hk hkm=>?_⟩,by dsimp only;omega,⟨rfl,rfl,rfl,rfl,rfl⟩,.refl _⟩
   dsimp only at hkm
   by_cases e:k=m
   ·subst e;omega
   ·have:=mono m k hmn hk (by omega);omega
 ·have e:i=j:=by omega
  subst e
  rw[o7 hjn h1 h2]
  by_cases hin:i < l.length
  ·have g:decide ((i:Int) < (l.length:Int))=true:=BO (by omega)
   refine wf ?_
   refine BM [(5,.raw (.bool (decide (l[i]? =some n)))),(4,.raw (.int .i64 i))] (LF) ?_ ?_
   ·repeat' (first|(refine A7 (fun h=>?_) (fun h=>?_)<;>refine wf ?_)|(refine AR (fun h=>?_) (fun h=>?_)<;>refine wf ?_)|(refine AO (fun h=>?_) (fun h=>?_)<;>refine wf ?_)|(refine Aq (fun h=>?_) (fun h=>?_)<;>(have h2:=h;(try simp only[AB,A8,AH,AK]at h2);refine wf ?_)))
    all_goals (refine⟨⟨Bp (by rfl) ?_,rfl⟩,.refl _⟩;rw[AY hin];first|(simp_all;done)|(simp_all;omega)|(trace_state;fail))
   refine wf ?_
   refine H2 (.of_eq rfl)
  ·have g:decide ((i:Int) < (l.length:Int))=false:=Cf (by omega)
   refine wf ?_
   refine H2 (.of_eq ?_)
   rw[FS (by omega)]
   rfl⟩
def Ej (cs:List Chg):List Int:=(List.range cs.length).map fun i=>(DW cs i:Int)
theorem Jh (cs:List Chg):(Ej cs).length=cs.length:=by simp[Ej]
theorem NC {cs:List Chg} {i:Nat} (h:i < (Ej cs).length):(Ej cs)[i]=(DW cs i:Int):=by simp[Ej]
theorem lB {c:Chg} (h1:1≤c.kind) (h7:c.kind≤7):1≤Kq c:=by
 rw[lF h1 h7];unfold NG;split<;>omega
theorem dz {cs:List Chg} (hk: ∀ c∈cs,1≤c.kind∧c.kind≤7) {i j:Nat} (h:i < j) (hj:j < cs.length):DW cs i < DW cs j:=by
 have h1:=Eo cs (show i+1≤j by omega)
 have hi:i < cs.length:=by omega
 have h2:=IW hi
 have h3:=hk _ (AG hi)
 have:=lB h3.1 h3.2
 omega
theorem Zp {cs:List Chg} (hk: ∀ c∈cs,1≤c.kind∧c.kind≤7):(Ej cs).Pairwise (·< ·):=by
 refine B5.2 fun i j hi hj hij=>?_
 rw[NC,NC]
 have:=dz hk hij (by rw[Jh]at hj;exact hj)
 omega
theorem TX (l:List Int) (n:Int):Pn l n≤l.length∧(∀ k (h:k < l.length),k < Pn l n→l[k] < n)∧ ∀ h:Pn l n < l.length,n≤l[Pn l n]:=by
 refine⟨zw,fun k h hk=>?_,fun h=>?_⟩
 ·have:=zq hk
  simp at this;omega
 ·have:=List.findIdx_getElem (w:=h)
  exact Az this
theorem k9 {cs:List Chg} (hk: ∀ c∈cs,1≤c.kind∧c.kind≤7) (hne:cs≠ []) {n:Int} (h0:0≤n):
  ((Ej cs)[Pn (Ej cs) n]? =some n→Pn (Ej cs) n=E7 cs n)∧(¬(Ej cs)[Pn (Ej cs) n]? =some n→Pn (Ej cs) n=E7 cs n+1):=by
 obtain⟨h1,h2,h3⟩:=TX (Ej cs) n
 have hasc:=Zp hk
 generalize Pn (Ej cs) n=p at*
 rw[Jh]at h1
 have up: ∀ i,p < i→i < cs.length→ ∀ hp:p < cs.length,(DW cs p:Int) < DW cs i:=fun i a b hp=>by have:=dz hk a b;omega
 constructor
 ·intro h
  obtain⟨hp,he⟩:=Bj.1 h
  rw[NC]at he
  rw[Jh]at hp
  rw[dj hp (by omega) fun i a b=>by have:=up i a b hp;omega]
 ·intro h
  have hlt: ∀ hp:p < cs.length,n < DW cs p:=fun hp=>by
   have hp':p < (Ej cs).length:=by rw[Jh];exact hp
   have h4:=h3 hp'
   rw[AY hp',NC]at h
   rw[NC]at h4
   have: ¬(DW cs p:Int)=n:=fun e=>h (by rw[e])
   omega
  have hp0:p≠0:=fun e=>by
   have:=hlt (by rw[e];exact Jz.2 hne)
   rw[e,Ow]at this;omega
  obtain⟨q,rfl⟩: ∃ q,p=q+1:=⟨p - 1,by omega⟩
  have hq:q < (Ej cs).length:=by rw[Jh];omega
  have h5:=h2 q hq (by omega)
  rw[NC]at h5
  rw[dj (k:=q) (by omega) (by omega) fun i a b=>by
   have:=hlt (by omega)
   have:=Eo cs (show q+1≤i by omega)
   omega]
theorem Vk {cs:List Chg} (hk: ∀ c∈cs,1≤c.kind∧c.kind≤7) (hne:cs≠ []) (hl:cs.length≤1000000) (b:Nat) (us:List PV) (tg:C9) [At us 6 (.slice ((Ej cs).map eI) tg)] (y:Ident) (h0:0≤y.n):BG Tryz.prog 128 [.raw (.pointer (some ⟨b,0,none⟩)),.agg (eIdent y)] [.box b 104 us]
  (fun r L'=>r= .raw (.int .i64 (E7 cs y.n:Int))∧L'= [.box b 104 us]):=by
 have cb:=pc (Ej cs) tg y.n (Zp hk) (by rw[Jh];exact hl)
 obtain⟨m1,m2⟩:=k9 hk hne h0
 have hpl:=(TX (Ej cs) y.n).1
 rw[Jh]at hpl
 refine C7 Tryz.func128 rfl Tryz.ntmps128 (rs:= [.tmp 4]) rfl rfl fun hb LF=>?_
 refine wn ?_
 refine Bb 12 ?_ ?_
 ·decide+kernel
 refine wf ?_
 refine AR (fun h=>?_) (fun h=>?_)
 ·refine wf ?_
  exact⟨trivial,_,_,.cons (.tmp 4) .nil,.refl _,by show PV.raw (.int .i64 ((Pn (Ej cs) y.n:Int) - 1))=_;rw[m2 h];congr 2;omega,rfl⟩
 ·refine wf ?_
  exact⟨trivial,_,_,.cons (.tmp 4) .nil,.refl _,by show PV.raw (.int .i64 ((Pn (Ej cs) y.n:Nat):Int))=_;rw[m1 h],rfl⟩
def gE (cs:List Chg) (ns:List Int) (i:Nat) (st:Bool) (y:Ident):Bool:=st||(Ef y&&decide (ns.getD i 0 < ns.getD (E7 cs y.n) 0))
theorem gZ {cs:List Chg} (hk: ∀ c∈cs,1≤c.kind∧c.kind≤7) (hl:cs.length≤1000000) (ns:List Int) (hns:ns.length=cs.length) (b3 bx i:Nat) (hi:i < cs.length) (us:List PV) (tg:C9) [At us 5 (.slice (ns.map eI) .ro)] [At us 6 (.slice ((Ej cs).map eI) tg)] (st:Bool) (y:Ident):
  BG Tryz.prog 127 [.agg (eIdent y),.raw (.pointer (some ⟨b3,0,none⟩)),.pt [.raw (.pointer (some ⟨bx,0,none⟩))] 0,.pt [.raw (.int .i64 (i:Int))] 0] [.box b3 4 [.raw (.bool st)],.box bx 104 us]
  (fun r L'=>r= .agg (eIdent y)∧L'= [.box b3 4 [.raw (.bool (gE cs ns i st y))],.box bx 104 us]):=by
 have hne:cs≠ []:=fun e=>by rw[e]at hi;exact absurd hi (Dy _)
 have hm:=Ou (n:=y.n) hne
 refine C7 Tryz.func127 rfl Tryz.ntmps127 (rs:= [.cell 5 65]) rfl rfl fun hb LF=>?_
 rw[B2,B2,B7]
 refine wf ?_
 refine Bw fun b5=>?_
 refine wn ?_
 refine Bb 24 ?_ ?_
 ·decide+kernel
 refine wf ?_
 refine Aq (fun h=>?_) (fun h=>?_)
 ·have e:gE cs ns i st y=true:=by unfold gE;rw[h];rfl
  rw[e]
  refine wf ?_
  exact⟨trivial,_,_,.cons (.cell 5 65 rfl AI Ek.out (by simp)) .nil,.cons _ (.refl _),rfl,rfl⟩
 ·refine wf ?_
  refine Aq (fun ho=>?_) (fun ho=>?_)
  ·have h0:0≤y.n:=by unfold Ef at ho;simp at ho;exact ho.2
   have hm':E7 cs y.n < ns.length:=by omega
   have hi':i < ns.length:=by omega
   have e:gE cs ns i st y=decide (ns[i] < ns[E7 cs y.n]):=by
    unfold gE
    rw[h,ho,Fi,E5]
    simp[List.getD,hm',hi']
   rw[e]
   refine wf ?_
   refine L6 (xs:= [.tmp 15,.tmp 16]) [.box bx 104 us] (.box b5 65 (eIdent Ident.zero):: .box b3 4 [.raw (.bool st)]::LF) (.raw (.int .i64 (E7 cs y.n:Int))) (f:=128) (cs:= []) (Bx _) rfl rfl My (Vk hk hne hl bx us tg y h0) ?_
   refine wf ?_
   exact⟨trivial,_,_,.cons (.cell 5 65 rfl AI Ek.out (by simp)) .nil,.cons _ (.refl _),rfl,rfl⟩
  ·have e:gE cs ns i st y=false:=by unfold gE;rw[h,ho];rfl
   rw[e]
   refine wf ?_
   exact⟨trivial,_,_,.cons (.cell 5 65 rfl AI Ek.out (by simp)) .nil,.cons _ (.refl _),rfl,rfl⟩
theorem Zg {cs:List Chg} {ns:List Int} {i:Nat}: ∀ (l:List Ident) (st:Bool),l.foldl (gE cs ns i) st=(st||l.any fun y=>Ef y&&decide (ns.getD i 0 < ns.getD (E7 cs y.n) 0))
 | [],st=>by simp
 |y::l,st=>by rw[Br,Zg l,gE,aU,Bool.or_assoc]
theorem l5 {cs:List Chg} (hk: ∀ c∈cs,1≤c.kind∧c.kind≤7) (hl:cs.length≤1000000) (ho: ∀ c∈cs,c.over.length≤1000) (ns:List Int) (hns:ns.length=cs.length) (bx:Nat) (us:List PV) (tg:C9) [At us 4 (.slice (cs.map eChg) .ro)] [At us 5 (.slice (ns.map eI) .ro)] [At us 6 (.slice ((Ej cs).map eI) tg)]:
  BG Tryz.prog 65 [.raw (.pointer (some ⟨bx,0,none⟩))] [.box bx 104 us]
  (fun r L'=>r= .raw (.bool ((List.range cs.length).any fun i=>(Cw (cs.getD i Chg.zero)).any fun y=>Ef y&&decide (ns.getD i 0 < ns.getD (E7 cs y.n) 0)))∧L'= [.box bx 104 us]):=by
 refine C7 Tryz.func65 rfl Tryz.ntmps65 (rs:= [.tmp 2]) rfl rfl fun hb LF=>?_
 rw[B2,B7]
 refine wf ?_
 refine Y2 fun b3=>?_
 let E:Nat→Bool:=fun i=>(Cw (cs.getD i Chg.zero)).any fun y=>Ef y&&decide (ns.getD i 0 < ns.getD (E7 cs y.n) 0)
 have hE: ∀ i,E i=(Cw (cs.getD i Chg.zero)).any fun y=>Ef y&&decide (ns.getD i 0 < ns.getD (E7 cs y.n) 0):=fun _=>rfl
 refine AZ (σ:=Nat) (fun k=>k≤cs.length) (fun k=>cs.length - k) (fun k=> [(1,.pt [.raw (.pointer (some ⟨bx,0,none⟩))] 0),(3,.raw (.pointer (some ⟨b3,0,none⟩))),(10,.slice (cs.map eChg) .ro),(11,.raw (.int .i64 cs.length)),(12,.raw (.int .i64 k))]) (fun k=> .box b3 4 [.raw (.bool ((List.range k).any E))]:: .box bx 104 us::LF) 0 (by omega) ⟨rfl,rfl,rfl,rfl,rfl⟩ (.refl _) ?_
 rintro k hk'
 refine wf ?_
 refine A7 (fun hc=>?_) (fun hc=>?_)
 ·have hlt:k < cs.length:=by omega
  have hm:=AG hlt
  have hov:=ho _ hm
  have e:(Cw cs[k]).foldl (gE cs ns k) ((List.range k).any E)=(List.range (k+1)).any E:=by
   rw[Zg,ER,GK,aU,List.any_nil,yE,hE k]
   simp[List.getD,hlt]
  refine wf ?_
  refine Bw fun b4=>?_
  refine wz fun b5=>?_
  refine Au 5 ?_
  refine Au 4 ?_
  refine wf ?_
  refine C0 (xs:= [.tmp 17,.tmp 18]) [.box b3 4 [.raw (.bool ((List.range k).any E))],.box bx 104 us] LF (fun R'=>R'++LF) (f:=102) (cs:= []) (Bx _) rfl rfl (.refl _) _ (Rh 127 _ (fun st:Bool=> [.box b3 4 [.raw (.bool st)],.box bx 104 us]) (fun y=>y) (gE cs ns k) cs[k] (fun st y _=>gZ hk hl ns hns b3 bx k hlt us tg st y) hov ((List.range k).any E)) (fun _=> .refl _) fun r L' ⟨hr,hL'⟩=>?_
  rw[e]at hL'
  subst hL'
  rw[B2,B2,B7]
  refine wf ?_
  exact⟨k+1,by omega,by dsimp only;omega,⟨rfl,rfl,rfl,rfl,rfl⟩,.refl _⟩
 ·obtain rfl:k=cs.length:=by omega
  refine wf ?_
  exact⟨trivial,_,_,.cons (.tmp 2) .nil,.cons _ (.refl _),rfl,rfl⟩
end Go.Proofs
namespace Go.Q
open Go
def FP (p:Pat) (ns fs:List Int) (tf:C9) (ss:List Int) (ts:C9) (is:List Dig) (ti:C9):List PV:=Bh p++ [.slice (ns.map eI) .ro,.slice (fs.map eI) tf,.slice (ss.map eI) ts,.slice (is.map eDig) ti]
section
variable (p:Pat) (ns fs:List Int) (tf:C9) (ss:List Int) (ts:C9) (is:List Dig) (ti:C9)
@[simp] theorem xT:(FP p ns fs tf ss ts is ti).length=9:=rfl
instance yu:At (FP p ns fs tf ss ts is ti) 4 (.slice (p.changes.map eChg) .ro):=⟨rfl⟩
instance yt:At (FP p ns fs tf ss ts is ti) 5 (.slice (ns.map eI) .ro):=⟨rfl⟩
instance yr:At (FP p ns fs tf ss ts is ti) 6 (.slice (fs.map eI) tf):=⟨rfl⟩
instance yq:At (FP p ns fs tf ss ts is ti) 7 (.slice (ss.map eI) ts):=⟨rfl⟩
instance yp:At (FP p ns fs tf ss ts is ti) 8 (.slice (is.map eDig) ti):=⟨rfl⟩
instance wy (q:Pat):FA (FP p ns fs tf ss ts is ti) 0 (Bh q) (FP q ns fs tf ss ts is ti):=⟨rfl,Gj rfl⟩
instance wx (l:List Int):FA (FP p ns fs tf ss ts is ti) 5 [.slice (l.map eI) .ro] (FP p l fs tf ss ts is ti):=⟨rfl,Gj rfl⟩
end
end Go.Q
namespace Go.Proofs
open Go Go.Q
instance w5:Ck Tryz.prog 104 (FP Pat.zero [] [] .nil [] .nil [] .nil):=⟨by
 have h:((Tryz.prog.info? 104).bind (·.zero)).map (·.cells.toList)=some [.string ⟨#[]⟩,.string ⟨#[]⟩,.int .i64 0,.slice none 0 0,.slice none 0 0,.slice none 0 0,.slice none 0 0,.slice none 0 0,.slice none 0 0]:=by kernel_rfl
 obtain⟨v,h1,h2⟩:=BR.1 h
 obtain⟨i,h3,h4⟩:=Da.1 h1
 have hv: ∀ g,EF g [.string ⟨#[]⟩,.string ⟨#[]⟩,.int .i64 0,.slice none 0 0,.slice none 0 0,.slice none 0 0,.slice none 0 0,.slice none 0 0,.slice none 0 0] [.str [],.str [],.raw (.int .i64 0),.slice [] .ro,.slice [] .ro,.slice [] .ro,.slice [] .nil,.slice [] .nil,.slice [] .nil]:=fun g=> .cons (.str (by simp)) (.cons (.str (by simp)) (.cons (.raw _) (.cons .nilR (.cons .nilR (.cons .nilR (.cons (.nilN none (by simp)) (.cons (.nilN none (by simp)) (.cons (.nilN none (by simp)) (.nil g)))))))))
 exact⟨i,v,_,h3,h4,by rw[←h2],hv⟩⟩
attribute [local irreducible] Eb AV Ga BG Fu
def Kz (cs:List Chg) (ns:List Int) (k:Nat) (j:Nat):Nat:=(((List.range k).filter fun d=>decide (ns.getD d 0=(j:Int))).map fun d=>Kq (cs.getD d Chg.zero)).sum
theorem Ry (cs:List Chg) (ns:List Int) (k j:Nat):Kz cs ns (k+1) j=Kz cs ns k j+if ns.getD k 0=(j:Int)then Kq (cs.getD k Chg.zero)else 0:=by
 unfold Kz
 rw[ER,DU,Al,Df]
 by_cases h:ns.getD k 0=(j:Int)
 ·rw[if_pos h,E0 (by simpa using h)];simp
 ·rw[if_neg h,E1 (by simpa using h)];simp
theorem eO (cs:List Chg) (ns:List Int) (k j:Nat) (hk:k≤cs.length):Kz cs ns k j≤DW cs k:=by
 induction k with
 |zero=>simp[Kz]
 |succ k ih=>
  have:=ih (by omega)
  have hs:=IW (cs:=cs) (i:=k) (by omega)
  have hg:cs.getD k Chg.zero=cs[k]'(by omega):=by simp[List.getD,show k < cs.length by omega]
  rw[Ry,hs,hg]
  split<;>omega
def Nb (cs:List Chg) (k:Nat):List Int:=(List.range k).map fun i=>(DW cs i:Int)
def HD (cs:List Chg) (ns:List Int) (k:Nat):List Int:=(List.range k).map fun c=>(Kz cs ns c (ns.getD c 0).toNat:Int)
theorem gU (cs:List Chg) (k:Nat):Nb cs (k+1)=Nb cs k++ [(DW cs k:Int)]:=by simp[Nb,ER]
theorem ew (cs:List Chg) (ns:List Int) (k:Nat):HD cs ns (k+1)=HD cs ns k++ [(Kz cs ns k (ns.getD k 0).toNat:Int)]:=by simp[HD,ER]
def Xl (cs:List Chg) (ns:List Int) (m k:Nat):List PV:=(List.range m).map fun j=> .raw (.int .i64 (Kz cs ns k j:Int))
theorem Tj {s:List Sto} (v:Bc s) {x:Sto} (hx:x∈s) (ns:List Int) (hns:ns.length=x.patch.changes.length) (m:Nat) (hm:m≤1000000) (hr: ∀ e∈ns,0≤e∧e < m):BG Tryz.prog 64 [.agg (Bh x.patch),.slice (ns.map eI) .ro,.raw (.int .i64 (m:Int))] []
  (fun r L'=> ∃ b tf ts,r= .raw (.pointer (some ⟨b,0,none⟩))∧L'= [.box b 104 (FP x.patch ns (Nb x.patch.changes x.patch.changes.length) tf (HD x.patch.changes ns x.patch.changes.length) ts [] .nil)]):=by
 have hb0:=v.close.1.2 x hx
 have i1:Aw (E6 x.patch=false):=⟨hb0⟩
 obtain⟨_,_,g1,g2,gch⟩:=EY hb0
 have hp:=Ht (Js (v.id x hx).1).1
 have hcn:cntS s x.id=DW x.patch.changes x.patch.changes.length:=by rw[v.cntS hx,hp.cnt]
 have hc16:cntS s x.id≤16200:=by rw[v.cntS hx];exact(EB hb0).1
 have cc:=W5 v hx
 refine C7 Tryz.func64 rfl Tryz.ntmps64 (rs:= [.tmp 6]) rfl rfl fun hb LF=>?_
 refine sF fun b3=>?_
 refine sF fun b7=>?_
 refine qc (z:= .raw (.int .i64 0)) rfl rfl (by omega) (by omega) fun b8=>?_
 refine wf ?_
 refine EO My ?_
 refine Au 3 ?_
 refine EP 1 ?_
 refine EP 1 ?_
 refine AZ (σ:=Nat × C9 × C9) (fun k=>k.1≤x.patch.changes.length) (fun k=>x.patch.changes.length - k.1) (fun k=> [(1,.slice (ns.map eI) .ro),(3,.pt (Bh x.patch) 0),(7,.raw (.pointer (some ⟨b7,0,none⟩))),(8,.raw (.slice (some ⟨b8,0,none⟩) m m)),(19,.slice (x.patch.changes.map eChg) .ro),(20,.raw (.int .i64 x.patch.changes.length)),(21,.raw (.int .i64 k.1))]) (fun k=> .tok k.2.1 (Nb x.patch.changes k.1).length 1:: .tok k.2.2 (HD x.patch.changes ns k.1).length 1:: .box b8 3 (Xl x.patch.changes ns m k.1):: .box b7 104 (FP x.patch ns (Nb x.patch.changes k.1) k.2.1 (HD x.patch.changes ns k.1) k.2.2 [] .nil)::LF) (0,.nil,.nil) (by dsimp only;omega) ⟨rfl,rfl,rfl,rfl,rfl,rfl,rfl⟩ (by
  have:Xl x.patch.changes ns m 0=List.replicate m (.raw (.int .i64 0)):=E3 (by simp[Xl]) fun i h1 h2=>by simp[Xl,Kz]
  dsimp only
  rw[this];exact .refl _) ?_
 rintro⟨k,tf,ts⟩ hk
 dsimp only at hk ⊢
 refine wf ?_
 refine A7 (fun hc=>?_) (fun hc=>?_)
 ·have hlt:k < x.patch.changes.length:=by omega
  have cf:=Vy v hx hlt
  have hkn:k < ns.length:=by omega
  have hnr:=hr _ (AG hkn)
  obtain⟨c,hcx⟩:=zD hnr.1
  have hcm:c < m:=by omega
  have hng:ns.getD k 0=(c:Int):=by simp[List.getD,hkn,hcx]
  have hgk:x.patch.changes.getD k Chg.zero=x.patch.changes[k]:=by simp[List.getD,hlt]
  have hf1:=Eo x.patch.changes (show k≤x.patch.changes.length by omega)
  have hf2:=Eo x.patch.changes (show k+1≤x.patch.changes.length by omega)
  have hfs:=IW hlt
  have hck:=eO x.patch.changes ns k c hk
  have hfl:(Nb x.patch.changes k).length=k:=by simp[Nb]
  have hsl:(HD x.patch.changes ns k).length=k:=by simp[HD]
  refine wf ?_
  refine Cx (σ:=Unit) (fun _=>True) (fun _=> [(1,.slice (ns.map eI) .ro),(3,.pt (Bh x.patch) 0),(7,.raw (.pointer (some ⟨b7,0,none⟩))),(8,.raw (.slice (some ⟨b8,0,none⟩) m m)),(19,.slice (x.patch.changes.map eChg) .ro),(20,.raw (.int .i64 x.patch.changes.length)),(21,.raw (.int .i64 k)),(9,.raw (.int .i64 k)),(10,.raw (.int .i64 (DW x.patch.changes k:Int))),(11,.raw (.int .i64 (DW x.patch.changes (k+1):Int)))]) (fun _=> .tok tf (Nb x.patch.changes k).length 1:: .tok ts (HD x.patch.changes ns k).length 1:: .box b8 3 (Xl x.patch.changes ns m k):: .box b7 104 (FP x.patch ns (Nb x.patch.changes k) tf (HD x.patch.changes ns k) ts [] .nil)::LF) ?_ ?_
  ·refine A7 (fun h=>?_) (fun h=>?_)
   ·have cf2:C6 Tryz.prog 31 [.agg (Bh x.patch),.raw (.int .i64 ((k:Int)+1))] (.raw (.int .i64 (DW x.patch.changes (k+1):Int))):=Vy v hx (n:=k+1) (by omega)
    refine wf ?_
    exact⟨(),trivial,⟨rfl,rfl,rfl,rfl,rfl,rfl,rfl,rfl,rfl,rfl⟩,.refl _⟩
   ·have e:(cntS s x.id:Int)=(DW x.patch.changes (k+1):Int):=by rw[hcn,show k+1=x.patch.changes.length by omega]
    rw[←e]
    refine wf ?_
    exact⟨(),trivial,⟨rfl,rfl,rfl,rfl,rfl,rfl,rfl,rfl,rfl,rfl⟩,.refl _⟩
  rintro - -
  refine wf ?_
  have iat:At (Xl x.patch.changes ns m k) (0+c*1) (.raw (.int .i64 (Kz x.patch.changes ns k c:Int))):=aH (f:=fun j=>PV.raw (.int .i64 (Kz x.patch.changes ns k j:Int))) hcm
  have iput:FA (Xl x.patch.changes ns m k) (0+c*1) [.raw (.int .i64 (Kz x.patch.changes ns (k+1) c:Int))] (Xl x.patch.changes ns m (k+1)):=RU (f:=fun j=>PV.raw (.int .i64 (Kz x.patch.changes ns k j:Int))) (g:=fun j=>PV.raw (.int .i64 (Kz x.patch.changes ns (k+1) j:Int))) hcm fun d hd=>by
   by_cases e:d=c
   ·rw[if_pos e,e]
   ·rw[if_neg e,Ry,hng,if_neg (by omega),Dv]
  refine JX (f:=eI) (l:=Nb x.patch.changes k) (m:= [(DW x.patch.changes k:Int)]) (by rfl) (by rfl) (by simp only[B9];omega) (by simp only[B9];omega) (fun t=> .here) fun t1=>?_
  rw[←gU]
  refine wf ?_
  refine FW (ay:= .slice ((Nb x.patch.changes (k+1)).map eI) t1) (FP x.patch ns (Nb x.patch.changes (k+1)) t1 (HD x.patch.changes ns k) ts [] .nil) rfl rfl Dn.out rfl (by simp) ?_
  have hss:HD x.patch.changes ns k++ [(Kz x.patch.changes ns k c:Int)]=HD x.patch.changes ns (k+1):=by rw[ew,hng];rfl
  refine AE ?_
  refine DP ?_
  refine Cx (σ:=C9) (fun _=>True) (fun _=> [(1,.slice (ns.map eI) .ro),(3,.pt (Bh x.patch) 0),(7,.raw (.pointer (some ⟨b7,0,none⟩))),(8,.raw (.slice (some ⟨b8,0,none⟩) m m)),(19,.slice (x.patch.changes.map eChg) .ro),(20,.raw (.int .i64 x.patch.changes.length)),(21,.raw (.int .i64 k)),(9,.raw (.int .i64 k)),(10,.raw (.int .i64 (DW x.patch.changes k:Int))),(11,.raw (.int .i64 (DW x.patch.changes (k+1):Int)))]) (fun t2=> .tok t1 (Nb x.patch.changes (k+1)).length 1:: .tok t2 (HD x.patch.changes ns (k+1)).length 1:: .box b8 3 (Xl x.patch.changes ns m k):: .box b7 104 (FP x.patch ns (Nb x.patch.changes (k+1)) t1 (HD x.patch.changes ns (k+1)) t2 [] .nil)::LF) ?_ ?_
  ·refine wn ?_
   refine GP [4,11,13,16] (by decide+kernel) ?_
   refine B3 0 ?_
   refine B3 1 ?_
   refine B3 2 ?_
   refine B3 3 ?_
   refine B3 5 ?_
   refine B3 6 ?_
   refine B3 7 ?_
   refine B3 8 ?_
   refine B3 9 ?_
   rw[hcx]
   refine B3 10 (hq:=fun _=>by refine Dh (k:=c) rfl rfl hcm ?_;refine AE ?_;exact⟨Cu _ _ _,rfl⟩) ?_
   refine C4 (fuel:=6) [4,11] (by decide+kernel) (by simp) fun i hi=>?_
   simp only[AF,Aa,or_false]at hi
   rcases hi with rfl|rfl
   ·refine⟨_,rfl,?_⟩
    refine wo ?_
    refine AE ?_
    refine Ad 5 11 ?_
    refine wo ?_
    refine AE ?_
    refine B3 12 ?_
    refine Ad 3 13 ?_
    refine JX (f:=eI) (l:=HD x.patch.changes ns k) (m:= [(Kz x.patch.changes ns k c:Int)]) (by rfl) (by rfl) (by simp only[B9];omega) (by simp only[B9];omega) (fun t=> .there .here) fun t2=>?_
    rw[hss]
    refine AE ?_
    refine B3 14 ?_
    refine B3 15 ?_
    refine Ad 0 16 ?_
    refine FW (ay:= .slice ((HD x.patch.changes ns (k+1)).map eI) t2) (FP x.patch ns (Nb x.patch.changes (k+1)) t1 (HD x.patch.changes ns (k+1)) t2 [] .nil) rfl rfl Dn.out rfl (by simp) ?_
    refine AE ?_
    refine CR (by decide+kernel) ?_
    exact⟨t2,trivial,⟨rfl,rfl,rfl,rfl,rfl,rfl,rfl,rfl,rfl,rfl⟩,.refl _⟩
   ·refine⟨_,rfl,?_⟩
    refine wo ?_
    refine AE ?_
    refine B3 12 ?_
    refine Ad 4 4 ?_
    refine wo ?_
    refine AE ?_
    refine Ad 3 13 ?_
    refine JX (f:=eI) (l:=HD x.patch.changes ns k) (m:= [(Kz x.patch.changes ns k c:Int)]) (by rfl) (by rfl) (by simp only[B9];omega) (by simp only[B9];omega) (fun t=> .there .here) fun t2=>?_
    rw[hss]
    refine AE ?_
    refine B3 14 ?_
    refine B3 15 ?_
    refine Ad 0 16 ?_
    refine FW (ay:= .slice ((HD x.patch.changes ns (k+1)).map eI) t2) (FP x.patch ns (Nb x.patch.changes (k+1)) t1 (HD x.patch.changes ns (k+1)) t2 [] .nil) rfl rfl Dn.out rfl (by simp) ?_
    refine AE ?_
    refine CR (by decide+kernel) ?_
    exact⟨t2,trivial,⟨rfl,rfl,rfl,rfl,rfl,rfl,rfl,rfl,rfl,rfl⟩,.refl _⟩
  rintro t2 -
  have ev:((Kz x.patch.changes ns (k+1) c:Nat):Int)=(Kz x.patch.changes ns k c:Int)+((DW x.patch.changes (k+1):Int) - (DW x.patch.changes k:Int)):=by rw[Ry,hng,if_pos rfl,hgk,hfs];omega
  rw[ev]at iput
  refine wf ?_
  rw[hcx]
  refine Dh (k:=c) rfl rfl hcm ?_
  refine wf ?_
  refine Dh (k:=c) rfl rfl hcm ?_
  refine wf ?_
  exact⟨(k+1,t1,t2),by dsimp only;omega,by dsimp only;omega,⟨rfl,rfl,rfl,rfl,rfl,rfl,rfl⟩,.refl _⟩
 ·obtain rfl:k=x.patch.changes.length:=by omega
  refine wf ?_
  exact⟨trivial,_,[_],.cons (.tmp 6) .nil,.cons _ (.cons _ (.cons _ (.refl _))),_,_,_,rfl,rfl⟩
end Go.Proofs
