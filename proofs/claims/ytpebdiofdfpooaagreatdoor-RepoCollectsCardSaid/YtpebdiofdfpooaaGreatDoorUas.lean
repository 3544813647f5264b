/- Plain laws: what the statements on repositories ask. -/
import Derived.Test.YtpebdiofdfpooaaGreatDoorUar
import Derived.Test.YtpebdiofdfpooaaGreatDoorUan
import Derived.Test.YtpebdiofdfpooaaGreatDoorUag
set_option linter.unusedSimpArgs false
set_option linter.unusedVariables false
set_option maxHeartbeats 8000000
namespace Go.Proofs
open Go Go.Q
theorem ba {r:Repo} (v:H4 r) {a:Deed} (hp:EE a.patch=false) (hs:Dc a.set) (hl:2*r.pool.length+1≤200) (hl2:r.pool.length+a.set.length≤200) (h:(SR r a).2=0):
  H4 (SR r a).1∧(∀ m s,C6 r m=some s→(a.kind=2∧m=a.name)∨ ∃ s',C6 (SR r a).1 m=some s'∧(¬(m=a.name∧4≤a.kind∧a.kind≤6)→s'=s))∧
  (4≤a.kind∧a.kind≤6→ ∃ b∈r.branches,b.name=a.name)∧(∀ b∈(SR r a).1.branches,(∃ c∈r.branches,c.name=b.name)∨C6 r b.name=none)∧
  (SR r a).1.pool.length≤r.pool.length+1+a.set.length:=by
 have brn_view: ∀ {r':Repo},r'.branches=r.branches→ ∀ b∈r'.branches,(∃ c∈r.branches,c.name=b.name)∨C6 r b.name=none:=fun e b hb=> .inl ⟨b,e ▸ hb,rfl⟩
 have brn_with: ∀ {x:Brn},((∃ c∈r.branches,c.name=x.name)∨C6 r x.name=none)→ ∀ b∈Dw Brn.name r.branches x,(∃ c∈r.branches,c.name=b.name)∨C6 r b.name=none:=fun hx b hb=>by
  rcases(EN v.ascB _).1 hb with rfl|⟨hb,_⟩
  ·exact hx
  ·exact .inl ⟨b,hb,rfl⟩
 unfold SR at h ⊢
 split at h
 ·rename_i hk
  rw[if_pos hk]
  obtain⟨s,e1,e2,e3,e4,e5⟩:=UC v h
  refine⟨e3,fun m w hm=> .inr ⟨w,?_,fun _=>rfl⟩,fun h=>by omega,?_,by rw[e4];omega⟩
  ·rw[e5,if_neg fun e=>by rw[e,e2]at hm;cases hm];exact hm
  ·intro b hb
   by_cases hn:b.name=a.name
   ·exact .inr (by rw[hn];exact e2)
   ·have hb2:=HI e3.ascB hb
    rw[e5,if_neg hn]at hb2
    cases hv:C6 r b.name with
    |none=>exact .inr rfl
    |some w=>
     rcases Ga hv with ⟨c,hc,e,_⟩|⟨_,t,ht,e,_⟩
     ·exact .inl ⟨c,hc,e⟩
     ·
      exfalso
      have hz:EO r=0:=(DH v.pool.close.1).2 v
      have ht2:t∈(IA r a.name a.other).1.tags:=by
       unfold IA at h ⊢
       rw[if_neg (by rw[hz];simp)]at h ⊢
       split at h
       ·cases h
       rename_i h1
       rw[if_neg h1]
       split at h
       ·rename_i h2;exact absurd h h2
       rename_i h2
       rw[if_neg h2,e1]
       rw[e1]at h
       dsimp only at h ⊢
       split at h
       ·cases h
       rename_i h3
       rw[if_neg h3];exact ht
      exact(e3.okT t ht2).new b hb e.symm
 rename_i hk1
 rw[if_neg hk1]
 split at h
 ·rename_i hk
  rw[if_pos hk]
  obtain⟨e3,e4,e5⟩:=U1 v h
  refine⟨e3,fun m w hm=>?_,fun h=>by omega,?_,by rw[e4];omega⟩
  ·by_cases hn:m=a.name
   ·exact .inl ⟨hk,hn⟩
   ·exact .inr ⟨w,by rw[e5,if_neg hn];exact hm,fun _=>rfl⟩
  ·have hz:EO r=0:=(DH v.pool.close.1).2 v
   intro b hb
   refine .inl ⟨b,?_,rfl⟩
   unfold PA at h hb
   rw[if_neg (by rw[hz];simp)]at h hb
   split at h
   ·cases h
   rename_i h1
   rw[if_neg h1]at hb
   split at h
   ·cases h
   rename_i h2
   rw[if_neg h2]at hb
   split at h
   ·rename_i h3
    rw[if_pos h3]at hb
    exact(VA (l:=r.branches) (k:=(C3 Brn.name r.branches a.name).toNat)).subset hb
   ·rename_i h3
    rw[if_neg h3]at hb
    exact hb
 rename_i hk2
 rw[if_neg hk2]
 split at h
 ·rename_i hk
  rw[if_pos hk]
  obtain⟨e3,e4,e5⟩:=Sf v h
  refine⟨e3,fun m w hm=> .inr ⟨w,by rw[e5];exact hm,fun _=>rfl⟩,fun h=>by omega,?_,by rw[e4];omega⟩
  have hz:EO r=0:=(DH v.pool.close.1).2 v
  refine brn_view ?_
  unfold JW at h ⊢
  rw[if_neg (by rw[hz];simp)]at h ⊢
  split at h
  ·cases h
  ·rename_i h1;rw[if_neg h1]
 rename_i hk3
 rw[if_neg hk3]
 split at h
 ·rename_i hk
  rw[if_pos hk]
  obtain⟨s,e1,e2,hf,vs,e3,e4,hu,e5,e6⟩:=SV v hp hl h
  have hsl:=e2.len
  have hul:=hu.len
  rw[Nq]at hul
  have hb: ∃ b∈r.branches,b.name=a.name:=by
   have: ¬C3 Brn.name r.branches a.name < 0:=fun hlt=>by
    have hz:EO r=0:=(DH v.pool.close.1).2 v
    unfold Js at h
    rw[if_neg (by rw[hz];simp),if_pos hlt]at h
    cases h
   obtain⟨b,hb,e,_⟩:=Fi this
   exact⟨b,hb,e⟩
  refine⟨e4,fun m w hm=> .inr ?_,fun _=>hb,?_,?_⟩
  ·by_cases hn:m=a.name
   ·exact⟨_,by rw[e5,if_pos hn],fun h=>absurd ⟨hn,by omega,by omega⟩ h⟩
   ·exact⟨w,by rw[e5,if_neg hn];exact hm,fun _=>rfl⟩
  ·dsimp only
   rw[e6]
   exact brn_with (.inl hb)
  ·dsimp only
   have hx: ∀ d∈ids (Js r a.name a.patch).1.pool,d∈(EF a.patch).1::ids r.pool:=fun d hd=>by
    rcases hu.sub.1 hd with hd|hd
    ·exact AD _ hd
    ·rcases HP.1 hd with e|hd
     ·rw[e];exact AI
     ·exact AD _ (e2.idsS d hd)
   have:=Eh hu.asc.nodup hx
   rw[Dj,AH,Dj]at this
   omega
 rename_i hk4
 rw[if_neg hk4]
 split at h
 ·rename_i hk
  rw[if_pos hk]
  obtain⟨s,w,e1,e2,hd,er,hw,hm,e3,e4,e5⟩:=PN v h
  have hb: ∃ b∈r.branches,b.name=a.name:=by
   have: ¬C3 Brn.name r.branches a.name < 0:=fun hlt=>by
    have hz:EO r=0:=(DH v.pool.close.1).2 v
    unfold Fg at h
    rw[if_neg (by rw[hz];simp),if_pos hlt]at h
    cases h
   obtain⟨b,hb,e,_⟩:=Fi this
   exact⟨b,hb,e⟩
  refine⟨e3,fun m w' hm=> .inr ?_,fun _=>hb,?_,by rw[e4];dsimp only;omega⟩
  ·by_cases hn:m=a.name
   ·exact⟨_,by rw[e5,if_pos hn],fun h=>absurd ⟨hn,by omega,by omega⟩ h⟩
   ·exact⟨w',by rw[e5,if_neg hn];exact hm,fun _=>rfl⟩
  ·rw[e4]
   exact brn_with (.inl hb)
 rename_i hk5
 rw[if_neg hk5]
 split at h
 ·rename_i hk
  rw[if_pos hk]
  obtain⟨b,w,hb,eb,e1,vs,hu,s2,s1,em,hw,sw,e3,e4,e5⟩:=Gy v hs hl2 h
  have hul:=hu.len
  refine⟨e3,fun m w' hm=> .inr ?_,fun _=>⟨b,hb,eb⟩,?_,by dsimp only;omega⟩
  ·by_cases hn:m=a.name
   ·exact⟨_,by rw[e5,if_pos hn],fun h=>absurd ⟨hn,by omega,by omega⟩ h⟩
   ·exact⟨w',by rw[e5,if_neg hn];exact hm,fun _=>rfl⟩
  ·dsimp only
   rw[e4]
   exact brn_with (.inl ⟨b,hb,eb⟩)
 rename_i hk6
 rw[if_neg hk6]
 split at h
 ·rename_i hk
  rw[if_pos hk]
  obtain⟨s,e1,e2,e3,e4,e5⟩:=WY v h
  refine⟨e3,fun m w hm=> .inr ⟨w,?_,fun _=>rfl⟩,fun h=>by omega,?_,by rw[e4];omega⟩
  ·rw[e5,if_neg fun e=>by rw[e,e2]at hm;cases hm];exact hm
  ·have hz:EO r=0:=(DH v.pool.close.1).2 v
   refine brn_view ?_
   unfold NM at h ⊢
   rw[if_neg (by rw[hz];simp)]at h ⊢
   split at h
   ·cases h
   rename_i h1
   rw[if_neg h1]
   split at h
   ·cases h
   rename_i h2
   rw[if_neg h2]
   split at h
   ·rename_i h3;exact absurd h h3
   rename_i h3
   rw[if_neg h3]
   split at h
   ·cases h
   rename_i h4
   rw[if_neg h4]
 ·rename_i hk7
  rw[if_neg hk7]
  obtain⟨e1,e2,e3⟩:=HG v
  refine⟨e2,fun m w hm=> .inr ⟨w,by rw[e3];exact hm,fun _=>rfl⟩,fun h=>by omega,?_,?_⟩
  ·dsimp only
   rw[e1]
   exact brn_view rfl
  ·dsimp only
   rw[e1]
   have:(Bt r.pool (EY r)).length≤r.pool.length:=Cv _ _
   dsimp only
   omega
theorem fX {old s w:List Sto} (vo:C7 old) (vs:C7 s) (h:Pk old s w) {l:List Dig} (hl: ∀ d,d∈l↔d∈ids old):w.length=old.length+((ids s).filter fun d=>decide (d∉l)).length:=by
 have hn:(ids old++(ids s).filter fun d=>decide (d∉l)).Nodup:=by
  refine Lf.2 ⟨vo.asc.nodup,vs.asc.nodup.filter _,fun a ha b hb e=>?_⟩
  subst e
  have:=(EI.1 hb).2
  exact absurd ((hl a).2 ha) (by simpa using this)
 have:=Z6 (l:=ids w) (m:=ids old++(ids s).filter fun d=>decide (d∉l)) h.asc.nodup hn fun d=>by
  rw[h.sub,Ai,EI]
  constructor
  ·rintro(hd|hd)
   ·exact .inl hd
   ·by_cases h2:d∈l
    ·exact .inl ((hl d).1 h2)
    ·exact .inr ⟨hd,by simpa using h2⟩
  ·rintro(hd|⟨hd,_⟩)
   ·exact .inl hd
   ·exact .inr hd
 rw[Dj,A8,Dj]at this
 exact this
theorem Tf {p s u:List Sto} (h:Pk p s u) (hp:Ej (ids p)) (hs:Ej (ids s)):Pk u s u:=⟨h.asc,fun x=>by rw[h.mem];constructor<;>(rintro(h|h)<;>simp_all)⟩
theorem VE {a b u:List Sto} (ha:Ej (ids a)) (hb:Ej (ids b)) (hl:a.length+b.length≤400) (h:Pk a b u):EP a b=(u,0):=by
 have hc:ly a b:=fun x hx y hy e=>KX h.asc ((h.mem x).2 (.inl hx)) ((h.mem y).2 (.inr hy)) e
 obtain⟨w,e,i⟩:=Va ha hb hl hc
 rw[e,i.uniq h]
theorem SZ {r:Repo} (v:H4 r) {b:Brn} (hb:b∈r.branches):Dw Brn.name r.branches b=r.branches:=by
 obtain⟨i,hi,rfl⟩:=AX.1 hb
 rw[GY _ v.ascB hi rfl,List.set_getElem_self]
theorem NU {r:Repo} (v:H4 r) {b x y:Brn} (hb:b∈r.branches) (ex:b.name=x.name) (ey:b.name=y.name):Dw Brn.name (Dw Brn.name r.branches x) y=Dw Brn.name r.branches y:=by
 obtain⟨i,hi,rfl⟩:=AX.1 hb
 have h1:=GY _ v.ascB hi ex
 have h2:=GY _ v.ascB hi ey
 have ha:Ju Brn.name (Dw Brn.name r.branches x):=Ll _ v.ascB x
 rw[h1]at ha ⊢
 rw[GY _ ha (i:=i) (by rw[Bm];exact hi) (by rw[Uz];exact ex.symm.trans ey),List.set_set,h2]
theorem Yx {r:Repo} (v:H4 r) {n:Str} {s u:List Sto} (vs:C7 s) (hb: ∃ b∈r.branches,b.name=n) (hl:r.pool.length+s.length≤200) (h:Pk r.pool s u):(CT r n s).2.2=0:=by
 have hz:EO r=0:=(DH v.pool.close.1).2 v
 obtain⟨b,hb,e⟩:=hb
 have hf: ¬C3 Brn.name r.branches n < 0:=fun h=>(Df _).1 h b hb e
 unfold CT
 rw[if_neg (by rw[hz];simp),if_neg hf,if_neg (by rw[Kp vs];simp),VE v.pool.asc vs.asc (by omega) h,if_neg (by simp)]
theorem Yy {r:Repo} (v:H4 r) {n:Str} {s:List Sto} (hg:Dc s) (hl:r.pool.length+2*s.length≤200) (h:(CT r n s).2.2=0):CT (CT r n s).1 n s=((CT r n s).1,[],0):=by
 obtain⟨b,w,hb,eb,e1,vs,hu,s2,s1,em,hw,sw,e3,e4,e5⟩:=Gy v hg (by omega) h
 have hpl:=hu.len
 generalize (CT r n s).1=r1 at*
 have hu1:Pk r1.pool s r1.pool:=Tf hu v.pool.asc vs.asc
 have hin:(⟨n,ids w⟩:Brn)∈r1.branches:=by rw[e4];exact(EN v.ascB _).2 (.inl rfl)
 have h2:=Yx e3 vs ⟨_,hin,rfl⟩ (by omega) hu1
 obtain⟨b2,w2,hb2,eb2,k1,_,ku,_,_,km,kw,ksw,k3,k4,_⟩:=Gy e3 hg (by omega) h2
 have hb2e:b2=⟨n,ids w⟩:=by
  obtain⟨i,hi,ei⟩:=AX.1 hb2
  obtain⟨j,hj,ej⟩:=AX.1 hin
  have:i=j:=e3.ascB.inj _ hi hj (by rw[ei,ej];exact eb2)
  subst this
  rw[←ei,←ej]
 subst hb2e
 dsimp only at kw km
 rw[sw.keep_ids]at kw
 have hww:Pk w s w:=Tf hw (v.viewS e1).vp.asc vs.asc
 have e6:w2=w:=kw.uniq hww
 subst e6
 have hp:(CT r1 n s).1.pool=r1.pool:=ku.uniq hu1
 have hm:(CT r1 n s).2.1= []:=by
  rw[km,List.filter_eq_nil_iff]
  intro d hd
  have:d∈ids w2:=hww.sub.2 (.inr hd)
  simpa using this
 have hr:(CT r1 n s).1=r1:=by
  rw[k4,hp,SZ e3 hin]
 exact Prod.ext hr (Prod.ext hm h2)
theorem bF {r:Repo} (v:H4 r) {n:Str} {s t:List Sto} (hs:Dc s) (ht:Dc t) (hl:r.pool.length+s.length+t.length≤200) (h1:(CT r n s).2.2=0) (h2:(CT (CT r n s).1 n t).2.2=0) (h3:(CT r n t).2.2=0):
  (CT (CT r n t).1 n s).2.2=0∧(CT (CT r n s).1 n t).1=(CT (CT r n t).1 n s).1:=by
 obtain⟨b,w,hb,eb,e1,vs,hu,s2,s1,em,hw,sw,e3,e4,_⟩:=Gy v hs (by omega) h1
 have hul:=hu.len
 obtain⟨c,x,hc,ec,f1,vt,gu,t2,t1,_,gx,tx,f3,f4,_⟩:=Gy v ht (by omega) h3
 have gul:=gu.len
 have hbc:c=b:=by
  obtain⟨i,hi,ei⟩:=AX.1 hc
  obtain⟨j,hj,ej⟩:=AX.1 hb
  have:i=j:=v.ascB.inj _ hi hj (by rw[ei,ej];exact ec.trans eb.symm)
  subst this
  rw[←ei,←ej]
 subst hbc
 generalize hr1:(CT r n s).1=r1 at*
 generalize hr2:(CT r n t).1=r2 at*
 obtain⟨b2,y,hb2,eb2,k1,_,ku,_,_,_,kw,ky,k3,k4,_⟩:=Gy e3 ht (by omega) h2
 have hin:(⟨n,ids w⟩:Brn)∈r1.branches:=by rw[e4];exact(EN v.ascB _).2 (.inl rfl)
 have hin2:(⟨n,ids x⟩:Brn)∈r2.branches:=by rw[f4];exact(EN v.ascB _).2 (.inl rfl)
 have hb2e:b2=⟨n,ids w⟩:=by
  obtain⟨i,hi,ei⟩:=AX.1 hb2
  obtain⟨j,hj,ej⟩:=AX.1 hin
  have:i=j:=e3.ascB.inj _ hi hj (by rw[ei,ej];exact eb2)
  subst this
  rw[←ei,←ej]
 subst hb2e
 dsimp only at kw
 rw[sw.keep_ids]at kw
 have hU:Pk r2.pool s (CT r1 n t).1.pool:=⟨ku.asc,fun z=>by rw[ku.mem,hu.mem,gu.mem];constructor<;>(rintro((h|h)|h)<;>simp[h])⟩
 have h4:=Yx f3 vs ⟨_,hin2,rfl⟩ (by omega) hU
 refine⟨h4,?_⟩
 obtain⟨b3,y3,hb3,eb3,j1,_,ju,_,_,_,jw,jy,j3,j4,_⟩:=Gy f3 hs (by omega) h4
 have hb3e:b3=⟨n,ids x⟩:=by
  obtain⟨i,hi,ei⟩:=AX.1 hb3
  obtain⟨j,hj,ej⟩:=AX.1 hin2
  have:i=j:=f3.ascB.inj _ hi hj (by rw[ei,ej];exact eb3)
  subst this
  rw[←ei,←ej]
 subst hb3e
 dsimp only at jw
 rw[tx.keep_ids]at jw
 have hW:Pk x s y:=⟨kw.asc,fun z=>by rw[kw.mem,hw.mem,gx.mem];constructor<;>(rintro((h|h)|h)<;>simp[h])⟩
 have ey:y3=y:=jw.uniq hW
 subst ey
 have ep:(CT r2 n s).1.pool=(CT r1 n t).1.pool:=ju.uniq hU
 rw[k4,j4,ep]
 have w1:r1.branches=Dw Brn.name r.branches ⟨n,ids w⟩:=by rw[e4]
 have w2:r2.branches=Dw Brn.name r.branches ⟨n,ids x⟩:=by rw[f4]
 have t1':r1.tags=r.tags:=by rw[e4]
 have t2':r2.tags=r.tags:=by rw[f4]
 have c1':r1.current=r.current:=by rw[e4]
 have c2':r2.current=r.current:=by rw[f4]
 rw[w1,w2,NU v hb (by exact eb) (by exact eb),NU v hb (by exact eb) (by exact eb),t1',t2',c1',c2']
theorem Vl {α:Type} (p:α→Bool): ∀ l:List α,l.length=(l.filter p).length+(l.filter fun x=>!p x).length
 | []=>rfl
 |x::l=>by
  have ih:=Vl p l
  cases h:p x<;>simp[h]<;>omega
theorem QP {p u:List Sto} (vp:C7 p) (h:Ey p u):u.length=p.length+(u.filter fun x=>decide (x.id∉ids p)).length:=by
 have h1:(u.filter fun x=>decide (x.id∈ids p)).length=p.length:=by
  have:=h.keep_ids
  unfold Bt at this
  rw[this]
 have h2:=Vl (fun x:Sto=>decide (x.id∈ids p)) u
 rw[h1]at h2
 rw[h2]
 congr 1
 congr 1
 exact J5 fun x _=>by simp
theorem Um {r:Repo} (v:H4 r):DS (DS r).1=((DS r).1,0):=by
 obtain⟨e1,e2,e3⟩:=HG v
 obtain⟨k1,_,_⟩:=HG e2
 have hk:Bt (DS r).1.pool (EY (DS r).1)=(DS r).1.pool:=by
  have hp:(DS r).1.pool=Bt r.pool (EY r):=by rw[e1]
  unfold Bt
  rw[GB]
  intro x hx
  rw[hp,Dz]at hx
  exact BL ((VD e3 x.id).2 hx.2)
 rw[k1,hk]
 refine Prod.ext rfl ?_
 dsimp only
 omega
theorem U5 {r:Repo} (v:H4 r) {x:Sto} (hx:x∈(DS r).1.pool): ∃ m s,m∈Ha (DS r).1∧C6 (DS r).1 m=some s∧(getS s x.id).isSome=true:=by
 obtain⟨e1,e2,e3⟩:=HG v
 have hp:(DS r).1.pool=Bt r.pool (EY r):=by rw[e1]
 have hx2:=hx
 rw[hp,Dz]at hx2
 obtain⟨m,s,hs,hd⟩:=Gi.1 hx2.2
 rw[←e3]at hs
 refine⟨m,s,JK.2 ⟨s,hs⟩,hs,?_⟩
 rw[IR (e2.viewS hs).vp.asc]
 exact BL hd
theorem bu {r:Repo} (v:H4 r) (hc:Bt r.pool (EY r)=r.pool) {n:Str} {p:Pat} (hg:EE p=false) (hl:2*r.pool.length+1≤200) (h:(Js r n p).2.2=0) (hn:(EF p).1∉ids r.pool):
  (Fg (Js r n p).1 n (EF p).1).2=0∧DS (Fg (Js r n p).1 n (EF p).1).1=(r,1):=by
 obtain⟨s,e1,e2,hf,vs,e3,e4,hu,e5,e6⟩:=SV v hg hl h
 generalize hr1:(Js r n p).1=r1 at*
 generalize hx:(⟨(EF p).1,p⟩:Sto)=x at*
 have hxi:x.id=(EF p).1:=by rw[←hx]
 have hns:x.id∉ids s:=hf.new
 have hv1:C6 r1 n=some (H6 s x):=by rw[e5,if_pos rfl]
 obtain⟨b,hb,eb,hgb⟩: ∃ b∈r1.branches,b.name=n∧r1.branches.getD (C3 Brn.name r1.branches n).toNat Brn.zero=b:=Fi fun hlt=>by
  have hb:(⟨n,ids (H6 s x)⟩:Brn)∈r1.branches:=by rw[e6];exact(EN v.ascB _).2 (.inl rfl)
  exact(Df _).1 hlt _ hb rfl
 have hset:Kx r1 n=H6 s x:=by
  have:=HI e4.ascB hb
  rw[eb,hv1]at this
  rw[cR hgb]
  exact(BX this).symm
 have hrem:MU (H6 s x) (EF p).1=(s,0):=by
  unfold MU
  rw[if_neg (by rw[Aj];exact HP.2 (.inl hxi.symm)),if_neg]
  ·refine Prod.ext ?_ rfl
   dsimp only
   rw[←hxi]
   refine(J5 (q:=fun y:Sto=>decide (y.id∈ids s)) fun y hy=>?_).trans (kS (s:=s) (x:=x) hns)
   rcases GJ.1 hy with rfl|hy
   ·simp[hns]
   ·have hyi:y.id∈ids s:=AU.2 ⟨y,hy,rfl⟩
    have:y.id≠x.id:=fun e=>hns (e ▸ hyi)
    simp[this,hyi]
  ·rw[BW]
   rintro⟨y,hy,hd⟩
   have hd:=Ab hd
   rw[←hxi]at hd
   rcases GJ.1 hy with rfl|hy
   ·exact hns (hf.needs _ hd)
   ·exact hns (e2.vp.close.2 y hy _ hd)
 have hz1:EO r1=0:=(DH e4.pool.close.1).2 e4
 have hfb: ¬C3 Brn.name r1.branches n < 0:=fun hlt=>(Df _).1 hlt b hb eb
 have hrm:Fg r1 n (EF p).1=({ r1 with branches:=Dw Brn.name r1.branches ⟨n,ids s⟩ },0):=by
  unfold Fg
  rw[if_neg (by rw[hz1];simp),if_neg hfb,hset,hrem,if_neg (by simp)]
 refine⟨by rw[hrm],?_⟩
 obtain⟨b0,hb0,eb0,_⟩:=Fi (r:=r) (n:=n) fun hlt=>by
  have hz:EO r=0:=(DH v.pool.close.1).2 v
  unfold Js at h
  rw[if_neg (by rw[hz];simp),if_pos hlt]at h
  cases h
 have hs0:s=Bt r.pool b0.ids:=by
  have:=HI v.ascB hb0
  rw[eb0,e1]at this
  exact BX this
 have hb0e:b0=⟨n,ids s⟩:=by
  have:ids s=b0.ids:=by rw[hs0];exact(v.okB b0 hb0).ids v.pool
  obtain⟨nm,is⟩:=b0
  dsimp only at eb0 this
  rw[eb0,this]
 have hbr:Dw Brn.name r1.branches ⟨n,ids s⟩=r.branches:=by
  rw[show r1.branches=Dw Brn.name r.branches ⟨n,ids (H6 s x)⟩ by rw[e6]]
  rw[NU v hb0 eb0 eb0,←hb0e,SZ v hb0]
 rw[hrm]
 have er2:({ r1 with branches:=Dw Brn.name r1.branches ⟨n,ids s⟩ }:Repo)= { r with pool:=r1.pool }:=by
  rw[hbr]
  rw[e6]
 rw[er2]
 have hsub:Ey r.pool r1.pool:=⟨v.pool,e4.pool,fun y hy=>(hu.mem y).2 (.inl hy)⟩
 obtain⟨v2,hv2⟩:=v.grow hsub
 obtain⟨k1,_,_⟩:=HG v2
 have hk:Bt r1.pool (EY { r with pool:=r1.pool })=r.pool:=by
  refine SS (e4.pool.asc.sublist (Gk _ _)) v.pool.asc fun y=>?_
  rw[Dz,VD hv2]
  constructor
  ·rintro⟨hy,hd⟩
   obtain⟨m,w,hw,hd⟩:=Gi.1 hd
   exact hsub.mem hy ((v.viewS hw).idsS _ hd)
  ·intro hy
   refine⟨hsub.sub y hy,?_⟩
   rw[←hc,Dz]at hy
   exact hy.2
 have hlen:r1.pool.length=r.pool.length+1:=by
  have h1:=QP v.pool hsub
  have h2:r1.pool.filter (fun y=>decide (y.id∉ids r.pool))= [x]:=by
   have hxm:x∈r1.pool:=(hu.mem x).2 (.inr (GJ.2 (.inl rfl)))
   have hnd:(r1.pool.filter fun y=>decide (y.id∉ids r.pool)).Nodup:=(eN e4.pool.asc).filter _
   refine List.perm_singleton.1 ((List.perm_ext_iff_of_nodup hnd (by simp: [x].Nodup)).2 fun y=>?_)
   rw[EI,B1]
   constructor
   ·rintro⟨hy,hd⟩
    have hd:=Ab hd
    rcases(hu.mem y).1 hy with hy|hy
    ·exact absurd (AU.2 ⟨y,hy,rfl⟩) hd
    ·rcases GJ.1 hy with e|hy
     ·exact e
     ·exact absurd (e2.idsS _ (AU.2 ⟨y,hy,rfl⟩)) hd
   ·rintro rfl
    exact⟨hxm,BL (by rw[hxi];exact hn)⟩
  rw[h2]at h1
  exact h1
 rw[k1]
 dsimp only
 rw[hk,hlen]
 refine Prod.ext rfl ?_
 dsimp only
 omega
theorem Vx {α:Type} (nm:α→Str) (l:List α) (n:Str):C3 nm l n=Ea (fun y=>decide (nm y=n)) l:=by
 unfold C3 Ea
 cases h:l.findIdx? fun y=>decide (nm y=n)with
 |none=>
  rw[Jw]at h
  rw[if_neg]
  intro h2
  obtain⟨x,hx,e⟩:=BW.1 h2
  rw[h x hx]at e;cases e
 |some i=>
  obtain⟨h1,h2⟩:=Zw.1 h
  have:(l.any fun y=>decide (nm y=n))=true:=by
   obtain⟨hi,e,_⟩:=E3.1 h
   exact BW.2 ⟨_,AK hi,e⟩
  rw[if_pos this,h2]
theorem Yh {α:Type} {nm:α→Str} {l:List α} (ha:Ju nm l) {n:Str} (h: ∀ y∈l,nm y≠n):
  Ea (fun y=>Hz n (nm y)) l=if Ik nm l n=l.length then -1 else(Ik nm l n:Int):=by
 have hp:=al nm ha h
 unfold Ea
 cases hf:l.findIdx? fun y=>Hz n (nm y)with
 |none=>
  rw[hf]at hp
  rw[Jw]at hf
  rw[if_neg,if_pos hp.symm]
  intro h2
  obtain⟨x,hx,e⟩:=BW.1 h2
  rw[hf x hx]at e;cases e
 |some i=>
  rw[hf]at hp
  obtain⟨h1,h2⟩:=Zw.1 hf
  have:(l.any fun y=>Hz n (nm y))=true:=by
   obtain⟨hi,e,_⟩:=E3.1 hf
   exact BW.2 ⟨_,AK hi,e⟩
  have hp':i=Ik nm l n:=hp
  rw[if_pos this,h2,if_neg (by omega),hp']
theorem du {r:Repo} {i:Nat} (hi:i < r.branches.length) (hz: ∀ j,j < i→KH r j=0) (hn:KH r i≠0):Aq (KH r) (List.range r.branches.length)=KH r i:=by
 have e:=CQ (f:=KH r) (l:=List.range r.branches.length) (k:=i) (by simpa using hi) (fun j hj hji=>by rw[DW];exact hz j hji) (by rw[DW];exact hn)
 rw[DW]at e
 exact e
theorem Zi {r:Repo} (hz: ∀ j,j < r.branches.length→KH r j=0):Aq (KH r) (List.range r.branches.length)=0:=CG fun i hi=>by
 rw[H7]at hi
 rw[DW];exact hz i hi
theorem dt {r:Repo} {i:Nat} (hi:i < r.tags.length) (hz: ∀ j,j < i→KG r j=0) (hn:KG r i≠0):Aq (KG r) (List.range r.tags.length)=KG r i:=by
 have e:=CQ (f:=KG r) (l:=List.range r.tags.length) (k:=i) (by simpa using hi) (fun j hj hji=>by rw[DW];exact hz j hji) (by rw[DW];exact hn)
 rw[DW]at e
 exact e
theorem Zh {r:Repo} (hz: ∀ j,j < r.tags.length→KG r j=0):Aq (KG r) (List.range r.tags.length)=0:=CG fun i hi=>by
 rw[H7]at hi
 rw[DW];exact hz i hi
theorem UG {l:List Dig} {i:Nat} (h0:0 < i) (hi:i < l.length) (h: ¬Dh (l[i - 1]'(by omega)) l[i] < 0):O3 l=false:=by
 cases ha:O3 l with
 |false=>rfl
 |true=>exact absurd ((BN.1 (Qj.1 ha)) (i - 1) i (by omega) hi (by omega)) h
theorem WA {l:List Dig} (h: ∀ i (h0:0 < i) (hi:i < l.length),Dh (l[i - 1]'(by omega)) l[i] < 0):O3 l=true:=Qj.2 (Iz fun i hi=>by
 have h1:=h (i+1) (by omega) hi
 simp only[Nat.add_sub_cancel]at h1
 exact h1)
theorem kZ {u:List Sto} (hu:Ej (ids u)) {a b:List Dig} (ha:Ej a) (hs: ∀ d,d∈a∨d∈b→d∈ids u):ids (Bt u (a++b))=CU a b:=by
 refine Ej.ext (hu.sublist (Gk _ _)) (Eb ha) fun d=>?_
 rw[HQ,Ec,Ai]
 exact⟨fun h=>h.2,fun h=>⟨hs d h,h⟩⟩
attribute [local irreducible] EG AY H2 B2 FZ
end Go.Proofs
namespace Go.Q
open Go
section
variable {P:Program} {N:Nat} {all:Array Oper} {K:Env→List Res→Prop} {fl:List Bool} {os:List Oper} {ρ:Env} {L:List Res} {d:Nat} {ty:TypeId} {pos:String} {af:Array Edge}
theorem lN (t:TypeId) (a b:ByteArray):binOp .gtr t (.string a) (.string b)=pure (.bool !(Op.bytesLess a.toList b.toList||a.toList==b.toList)):=by simp[binOp,Op.stringOp]
theorem lO (t:TypeId) (a b:ByteArray):binOp .geq t (.string a) (.string b)=pure (.bool !(Op.bytesLess a.toList b.toList)):=by simp[binOp,Op.stringOp]
theorem tD (s t:Str):(!(Hz s t||s==t))=Hz t s:=by
 by_cases e:s=t
 ·subst e;simp[Kk]
 ·cases h:Hz s t with
  |true=>rw[Vk h];rfl
  |false=>rw[RP e h];simp[e]
theorem qU {T T':TypeId} [hT:Pg P T] {x y:Operand} {s t:Str} {ax ay:PV} (hx:ρ.ev x=ax) [jx:IX ax s] (hy:ρ.ev y=ay) [jy:IX ay t] (k:AY P N all K fl.tail os (CN ρ d (.raw (.bool (Hz t s)))) L) (hd:Nat.blt d N=true:=by rfl):
  AY P N all K fl (⟨some d,.binOp .gtr T x y T',ty,pos,af,none⟩::os) ρ L:=
 Vd (hx ▸ jx.out) (hy ▸ jy.out) (fun w=>by unfold eqGuard;rfl) (fun w=>by rw[lN,IJ,IJ,Sem.run_pure];exact congrArg (fun b=>Result.ok (Value.bool b) w) (tD s t)) (fun g=> .raw _) k hd
theorem ca {T T':TypeId} [hT:Pg P T] {x y:Operand} {s t:Str} {ax ay:PV} (hx:ρ.ev x=ax) [jx:IX ax s] (hy:ρ.ev y=ay) [jy:IX ay t] (k:AY P N all K fl.tail os (CN ρ d (.raw (.bool (!Hz s t)))) L) (hd:Nat.blt d N=true:=by rfl):
  AY P N all K fl (⟨some d,.binOp .geq T x y T',ty,pos,af,none⟩::os) ρ L:=
 Vd (hx ▸ jx.out) (hy ▸ jy.out) (fun w=>by unfold eqGuard;rfl) (fun w=>by rw[lO,IJ,IJ,Sem.run_pure];rfl) (fun g=> .raw _) k hd
instance tj (f:Nat):Dt (.raw (.func (.func f) #[] #[])) [.raw (.func (.func f) #[] #[])]:=⟨.one fun x hx=>by
 rw[B1.1 hx]
 exact⟨by simp,by simp,fun u e=>by cases e;rfl,by simp⟩⟩
end
end Go.Q
namespace Go.Proofs
open Go Go.Q
attribute [local irreducible] EG AY H2 B2 FZ
instance tC (s:Str):Bl Tryz.prog 86 [.str s] (.raw (.bool (EK s))):=⟨by
 refine Ak Tryz.func86 Tryz.ntmps86 rfl (rs:= [.tmp 2]) rfl rfl fun hb LF=>?_
 have hlen:s.length≤140737488355328:=(hb (.str s) (by simp)).str_len
 refine wf ?_
 refine AW (σ:=Nat) (fun k=>k≤s.length∧ ∀ i (h:i < s.length),i < k→HY s[i]=true) (fun k=>s.length - k) (fun k=> [(0,.str s),(6,.raw (.int .i64 s.length)),(7,.raw (.int .i64 k))]) (fun _=>LF) 0 ⟨by simp,by simp⟩ ⟨rfl,rfl,rfl⟩ (.refl _) ?_
 rintro k ⟨hk,he⟩
 refine wf ?_
 refine A1 (fun hc=>?_) (fun hc=>?_)
 ·have hlt:k < s.length:=by omega
  refine wf ?_
  refine B0 [(46,.raw (.bool (!HY s[k]))),(0,.str s),(6,.raw (.int .i64 s.length)),(7,.raw (.int .i64 k))] (LF) ?_ ?_
  ·repeat' (first|(refine A1 (fun h=>?_) (fun h=>?_)<;>refine wf ?_)|(refine AL (fun h=>?_) (fun h=>?_)<;>refine wf ?_)|(refine AO (fun h=>?_) (fun h=>?_)<;>refine wf ?_)|(refine An (fun h=>?_) (fun h=>?_)<;>(have h2:=h;(try simp only[AB,A7,AG,AF]at h2);refine wf ?_)))
   all_goals (refine⟨⟨BO (by rfl) ?_,rfl,rfl,rfl⟩,.refl _⟩;(clear he hc;grind [HY]))
  refine wf ?_
  refine AO (fun h=>?_) (fun h=>?_)
  ·refine wf ?_
   refine Ah (.of_eq ?_)
   have:HY s[k]=false:=by simpa using h
   rw[EK,Fl hlt this];rfl
  ·refine wf ?_
   exact⟨k+1,⟨by omega,KJ he hlt (by simpa using h)⟩,by dsimp only;omega,⟨rfl,rfl,rfl⟩,.refl _⟩
 ·have hall:s.all HY=true:=GZ fun i h=>he i h (by omega)
  have e1:decide (1≤(s.length:Int))=!decide (s= []):=by cases s<;>simp;omega
  refine wf ?_
  repeat' (first|(refine A1 (fun h=>?_) (fun h=>?_)<;>refine wf ?_)|(refine AL (fun h=>?_) (fun h=>?_)<;>refine wf ?_)|(refine AO (fun h=>?_) (fun h=>?_)<;>refine wf ?_)|(refine An (fun h=>?_) (fun h=>?_)<;>(have h2:=h;(try simp only[AB,A7,AG,AF]at h2);refine wf ?_)))
  all_goals (refine Ah (.of_eq ?_);rw[EK,hall,e1];clear he hall hb;first|(simp_all;done)|grind)⟩
instance mh (b:Brn):Bl Tryz.prog 62 [.agg (eBrn b)] (.str b.name):=⟨by
 refine Ak Tryz.func62 Tryz.ntmps62 rfl (rs:= [.tmp 2]) rfl rfl fun hb LF=>?_
 refine wf ?_
 exact Ah (.refl _)⟩
instance rp (b:Tgg):Bl Tryz.prog 90 [.agg (eTgg b)] (.str b.name):=⟨by
 refine Ak Tryz.func90 Tryz.ntmps90 rfl (rs:= [.tmp 2]) rfl rfl fun hb LF=>?_
 refine wf ?_
 exact Ah (.refl _)⟩
abbrev sr:PV:= .raw (.func (.func 62) #[] #[])
abbrev sq:PV:= .raw (.func (.func 90) #[] #[])
instance ui (x:Brn) (n:Str):Bl Tryz.prog 119 [.agg (eBrn x),.pt [sr] 0,.pt [.str n] 0] (.raw (.bool (decide (x.name=n)))):=⟨by
 refine Ak Tryz.func119 Tryz.ntmps119 rfl (rs:= [.tmp 4]) rfl rfl fun hb LF=>?_
 refine wf ?_
 exact Ah (.refl _)⟩
instance ks (l:List Brn) (t:CW) (n:Str):Bl Tryz.prog 61 [.slice (l.map eBrn) t,sr,.str n] (.raw (.int .i64 (C3 Brn.name l n))):=⟨by
 have c1:=fun t=>Rr 119 [.pt [sr] 0,.pt [.str n] 0] (fun y:Brn=>decide (y.name=n)) l t
 rw[←Vx]at c1
 refine Ak Tryz.func61 Tryz.ntmps61 rfl (rs:= [.tmp 6]) rfl rfl fun hb LF=>?_
 refine wf ?_
 exact Ah (.refl _)⟩
end Go.Proofs
namespace Go.Proofs
open Go Go.Q
theorem kA {s:List Sto} (v:C7 s) (d:Dig):(ndS s d).length≤200:=by
 unfold ndS
 cases hg:getS s d with
 |none=>rw[Option.getD_none,Mi];simp
 |some p=>rw[Option.getD_some];exact Vi v (RU hg)
attribute [local irreducible] EG AY H2 B2 FZ
instance yW:Ch Tryz.prog 78 (eBrn Brn.zero):=Ch.of (us:=(eBrn Brn.zero).map zv) (by kernel_rfl) (by kernel_rfl)
instance yU:Ch Tryz.prog 80 (eTgg Tgg.zero):=Ch.of (us:=(eTgg Tgg.zero).map zv) (by kernel_rfl) (by kernel_rfl)
instance xd:Ch Tryz.prog 27 (Ay Repo.zero):=Ch.of (us:=(Ay Repo.zero).map zv) (by kernel_rfl) (by kernel_rfl)
theorem oZ (f:Nat):Le (.clo f []) (.raw (.func (.func f) #[] #[])):=fun g v h=>by
 obtain⟨vs,rfl,h2⟩:=h.clo_inv
 have:vs= []:=BU h2.len
 subst this
 exact .raw _
theorem OZ {P:Program} {f F:Nat} {a c X:PV} (h:Bl P f [a,.raw (.func (.func F) #[] #[]),c] X):Bl P f [a,.clo F [],c] X:=⟨B2.args (bs:= [a,.raw (.func (.func F) #[] #[]),c]) rfl (fun i g1 g2=>by
 match i,g1,g2 with
 |0,_,_=>exact .refl _
 |1,_,_=>exact oZ F
 |2,_,_=>exact .refl _
 |m+3,g1,_=>exact absurd g1 (by simp)) h.out⟩
instance Oa (l:List Brn) (t:CW) (n:Str):Bl Tryz.prog 61 [.slice (l.map eBrn) t,.clo 62 [],.str n] (.raw (.int .i64 (C3 Brn.name l n))):=OZ (ks l t n)
def ar (l:List Brn) (i:Nat):Int:=if EK (l.getD i Brn.zero).name=false then 5 else if 0 < i∧Hz (l.getD (i - 1) Brn.zero).name (l.getD i Brn.zero).name=false then 9 else 0
def aq (l:List Tgg) (i:Nat):Int:=if EK (l.getD i Tgg.zero).name=false then 5 else if 0 < i∧Hz (l.getD (i - 1) Tgg.zero).name (l.getD i Tgg.zero).name=false then 9 else 0
theorem P8 (s:List Sto) (t:CW) (l:List Dig) (u:CW) (ha:Ej (ids s)):Bl Tryz.prog 113 [.slice (s.map eSto) t,.slice (l.map eDig) u] (.raw (.int .i64 (Fw s l))):=⟨by
 refine Ak Tryz.func113 Tryz.ntmps113 rfl (rs:= [.tmp 4]) rfl rfl fun hb LF=>?_
 have hll:l.length≤140737488355328:=(hb (.slice (l.map eDig) u) (by simp)).slice_map
 have hsome:=fun d=>IR ha d
 refine wf ?_
 refine AW (σ:=Nat) (fun i=>1≤i∧ ∀ j (h0:0 < j) (hj:j < l.length),j < i→Dh (l[j - 1]'(by omega)) l[j] < 0) (fun i=>l.length - i) (fun i=> [(0,.slice (s.map eSto) t),(1,.slice (l.map eDig) u),(5,.raw (.int .i64 i))]) (fun _=>LF) 1 ⟨by omega,fun j h0 hj h=>by omega⟩ ⟨rfl,rfl,rfl⟩ (.refl _) ?_
 rintro i ⟨h1,hz⟩
 refine wf ?_
 refine A1 (fun hc=>?_) (fun hc=>?_)
 ·have hlt:i < l.length:=by omega
  have e1:((i:Int) - 1).toNat=i - 1:=by omega
  have hf:=fun(h: ¬Dh (l[i - 1]'(by omega)) l[i] < 0)=>UG (l:=l) (i:=i) (by omega) hlt h
  refine wf ?_
  refine A1 (fun h=>?_) (fun h=>?_)
  ·simp only[e1]at h
   refine wf ?_
   refine Ah (.of_eq ?_)
   unfold Fw
   rw[hf (by omega),if_pos rfl]
  ·refine wf ?_
   refine⟨i+1,⟨by omega,fun j h0 hj hji=>?_⟩,by dsimp only;omega,⟨rfl,rfl,rfl⟩,.refl _⟩
   simp only[e1]at h
   by_cases e:j=i
   ·subst e;omega
   ·exact hz j h0 hj (by omega)
 have hasc:O3 l=true:=WA fun i h0 hi=>hz i h0 hi (by omega)
 have hck:Fw s l=if Ca (ids s) l=false then 7 else 0:=by unfold Fw;rw[if_neg (by simp[hasc])]
 rw[hck]
 clear hck hz
 refine wf ?_
 refine AW (σ:=Nat) (fun k=>k≤l.length∧ ∀ d∈l.take k,d∈ids s) (fun k=>l.length - k) (fun k=> [(0,.slice (s.map eSto) t),(27,.slice (l.map eDig) u),(28,.raw (.int .i64 l.length)),(29,.raw (.int .i64 k))]) (fun _=>LF) 0 ⟨by simp,by simp⟩ ⟨rfl,rfl,rfl,rfl⟩ (.refl _) ?_
 rintro k ⟨hk,hin⟩
 refine wf ?_
 refine A1 (fun hc=>?_) (fun hc=>?_)
 ·have hlt:k < l.length:=by omega
  have hs:=hsome l[k]
  refine wz fun b7=>?_
  refine Ag 7 ?_
  refine wz fun b8=>?_
  refine Ag 8 ?_
  refine wf ?_
  rw[hs]
  refine AL (fun h=>?_) (fun h=>?_)
  ·have hn:Ca (ids s) l=false:=by
    cases hA:Ca (ids s) l with
    |false=>rfl
    |true=>exact absurd (GU.1 hA _ (AK hlt)) h
   refine wf ?_
   refine Ah (.of_eq ?_)
   rw[if_pos hn]
  ·refine wf ?_
   refine⟨k+1,⟨by omega,fun d hd=>?_⟩,by dsimp only;omega,⟨rfl,rfl,rfl,rfl⟩,.refl _⟩
   rw[A6 hlt]at hd
   rcases Ai.1 hd with hd|hd
   ·exact hin d hd
   ·rw[B1.1 hd];exact h
 ·rw[AA (by omega)]at hin
  refine wf ?_
  refine Ah (.of_eq ?_)
  rw[if_neg (by simp[GU.2 hin])]⟩
theorem Yt (l:List Brn) (t:CW) (i:Nat) (hi:i < l.length):Bl Tryz.prog 112 [.slice (l.map eBrn) t,sr,.raw (.int .i64 (i:Int))] (.raw (.int .i64 (ar l i))):=⟨by
 refine Ak Tryz.func112 Tryz.ntmps112 rfl (rs:= [.tmp 6]) rfl rfl fun hb LF=>?_
 have hll:l.length≤140737488355328:=(hb (.slice (l.map eBrn) t) (by simp)).slice_map
 unfold ar
 rw[GK hi]
 have hp: ∀ h:0 < i,l.getD (i - 1) Brn.zero=l[i - 1]'(by omega):=fun h=>GK (by omega)
 generalize l.getD (i - 1) Brn.zero=y at hp ⊢
 refine wf ?_
 refine AO (fun h=>?_) (fun h=>?_)
 ·have h':EK l[i].name=false:=by simpa using h
  refine wf ?_
  refine Ah (.of_eq ?_)
  rw[if_pos h']
 have h':EK l[i].name=true:=by simpa using h
 rw[if_neg (by simp[h'])]
 by_cases h0:0 < i
 ·have e1:(i:Int) - 1=((i - 1:Nat):Int):=by omega
  have g:decide (0 < (i:Int))=true:=BL (by omega)
  rw[hp h0]
  refine wf ?_
  refine ca (ax:= .str (l[((i:Int) - 1).toNat]'(by omega)).name) (ay:= .str l[i].name) rfl rfl ?_
  have e2:l[((i:Int) - 1).toNat]'(by omega)=l[i - 1]'(by omega):=by congr 1;omega
  rw[e2]
  refine wf ?_
  refine AO (fun h=>?_) (fun h=>?_)
  ·have h2:Hz (l[i - 1]'(by omega)).name l[i].name=false:=by simpa using h
   refine wf ?_
   refine Ah (.of_eq ?_)
   rw[if_pos ⟨h0,h2⟩]
  ·have h2:Hz (l[i - 1]'(by omega)).name l[i].name=true:=by simpa using h
   refine wf ?_
   refine Ah (.of_eq ?_)
   rw[if_neg (by simp[h2])]
 ·have g:decide (0 < (i:Int))=false:=Ck (by omega)
  rw[if_neg (by omega)]
  refine wf ?_
  exact Ah (.refl _)⟩
theorem Ys (l:List Tgg) (t:CW) (i:Nat) (hi:i < l.length):Bl Tryz.prog 116 [.slice (l.map eTgg) t,sq,.raw (.int .i64 (i:Int))] (.raw (.int .i64 (aq l i))):=⟨by
 refine Ak Tryz.func116 Tryz.ntmps116 rfl (rs:= [.tmp 6]) rfl rfl fun hb LF=>?_
 have hll:l.length≤140737488355328:=(hb (.slice (l.map eTgg) t) (by simp)).slice_map
 unfold aq
 rw[HF hi]
 have hp: ∀ h:0 < i,l.getD (i - 1) Tgg.zero=l[i - 1]'(by omega):=fun h=>HF (by omega)
 generalize l.getD (i - 1) Tgg.zero=y at hp ⊢
 refine wf ?_
 refine AO (fun h=>?_) (fun h=>?_)
 ·have h':EK l[i].name=false:=by simpa using h
  refine wf ?_
  refine Ah (.of_eq ?_)
  rw[if_pos h']
 have h':EK l[i].name=true:=by simpa using h
 rw[if_neg (by simp[h'])]
 by_cases h0:0 < i
 ·have e1:(i:Int) - 1=((i - 1:Nat):Int):=by omega
  have g:decide (0 < (i:Int))=true:=BL (by omega)
  rw[hp h0]
  refine wf ?_
  refine ca (ax:= .str (l[((i:Int) - 1).toNat]'(by omega)).name) (ay:= .str l[i].name) rfl rfl ?_
  have e2:l[((i:Int) - 1).toNat]'(by omega)=l[i - 1]'(by omega):=by congr 1;omega
  rw[e2]
  refine wf ?_
  refine AO (fun h=>?_) (fun h=>?_)
  ·have h2:Hz (l[i - 1]'(by omega)).name l[i].name=false:=by simpa using h
   refine wf ?_
   refine Ah (.of_eq ?_)
   rw[if_pos ⟨h0,h2⟩]
  ·have h2:Hz (l[i - 1]'(by omega)).name l[i].name=true:=by simpa using h
   refine wf ?_
   refine Ah (.of_eq ?_)
   rw[if_neg (by simp[h2])]
 ·have g:decide (0 < (i:Int))=false:=Ck (by omega)
  rw[if_neg (by omega)]
  refine wf ?_
  exact Ah (.refl _)⟩
theorem lG (r:Repo) (i:Nat):KH r i=if ar r.branches i≠0 then ar r.branches i else if Fw r.pool (r.branches.getD i Brn.zero).ids≠0 then Fw r.pool (r.branches.getD i Brn.zero).ids else
  if Fj r.pool (r.branches.getD i Brn.zero).ids=false then 19 else 0:=by
 unfold KH ar
 split
 ·simp
 ·split<;>simp
theorem lB (r:Repo) (i:Nat):KG r i=if aq r.tags i≠0 then aq r.tags i else if 0≤C3 Brn.name r.branches (r.tags.getD i Tgg.zero).name then 6 else if 1000 < ((r.tags.getD i Tgg.zero).note.length:Int)then 4 else
  if Fw r.pool (r.tags.getD i Tgg.zero).tops≠0 then Fw r.pool (r.tags.getD i Tgg.zero).tops else if K1 r.pool (r.tags.getD i Tgg.zero).tops=false then 1 else 0:=by
 unfold KG aq
 split
 ·simp
 ·split<;>simp
theorem Vs {s:List Sto} (v:C7 s) {l:List Dig} (h:Fw s l=0):l.length≤200:=by
 obtain⟨a,b⟩:=Jr.1 h
 have:=Eh a.nodup b
 rw[Dj]at this
 have:=v.close.1.1
 omega
theorem U9 (r:Repo) (i:Nat) (v:C7 r.pool) (hi:i < r.branches.length):Bl Tryz.prog 59 [.agg (Ay r),.raw (.int .i64 (i:Int))] (.raw (.int .i64 (KH r i))):=⟨by
 refine Ak Tryz.func59 Tryz.ntmps59 rfl (rs:= [.tmp 4]) rfl rfl fun hb LF=>?_
 have c1:=fun t=>OZ (Yt r.branches t i hi)
 have c2:=fun t u=>P8 r.pool t r.branches[i].ids u v.asc
 have hch:=lG r i
 rw[GK hi]at hch
 rw[hch]
 clear hch
 by_cases h1:ar r.branches i≠0
 ·rw[if_pos h1]
  generalize ar r.branches i=e at c1 h1 ⊢
  refine wf ?_
  refine AL (fun _=>?_) (fun h=>absurd h h1)
  refine wf ?_
  exact Ah (.refl _)
 rw[if_neg h1]
 rw[Aj.1 h1]at c1
 by_cases h2:Fw r.pool r.branches[i].ids≠0
 ·rw[if_pos h2]
  generalize Fw r.pool r.branches[i].ids=e at c2 h2 ⊢
  refine wf ?_
  refine AL (fun _=>?_) (fun h=>absurd h h2)
  refine wf ?_
  exact Ah (.refl _)
 rw[if_neg h2]
 have h2:=Aj.1 h2
 rw[h2]at c2
 have hsh:=Vs v h2
 refine vS fun m=>?_
 generalize r.branches[i].ids=l at c2 h2 hsh ⊢
 refine AW (σ:=Nat × List (Dig × Bool)) (fun z=>z.1≤l.length∧Kt z.2 (l.take z.1)) (fun z=>l.length - z.1) (fun z=> [(2,.pt (Ay r) 0),(6,.slice (l.map eDig) .ro),(8,.raw (.map (some m))),(38,.slice (l.map eDig) .ro),(39,.raw (.int .i64 l.length)),(40,.raw (.int .i64 z.1))]) (fun z=> .map m (Cj kDig vBool z.2)::LF) (0,[]) ⟨by simp,fun d=>by simp[Dv]⟩ ⟨rfl,rfl,rfl,rfl,rfl,rfl⟩ (.refl _) ?_
 rintro⟨k,T⟩ ⟨hk,hT⟩
 dsimp only at hk hT ⊢
 refine wf ?_
 refine A1 (fun hc=>?_) (fun hc=>?_)
 ·have hlt:k < l.length:=by omega
  have hTa:=hT.add l[k]
  rw[←A6 hlt]at hTa
  refine wz fun b10=>?_
  refine Ag 10 ?_
  refine wf ?_
  exact⟨(k+1,Hb l[k] true T),⟨by dsimp only;omega,hTa⟩,by dsimp only;omega,⟨rfl,rfl,rfl,rfl,rfl,rfl⟩,.refl _⟩
 rw[AA (by omega)]at hT
 refine wf ?_
 refine AW (σ:=Nat) (fun k=>k≤l.length∧ ∀ d∈l.take k,Ca l (ndS r.pool d)=true) (fun k=>l.length - k) (fun k=> [(2,.pt (Ay r) 0),(8,.raw (.map (some m))),(47,.slice (l.map eDig) .ro),(48,.raw (.int .i64 l.length)),(49,.raw (.int .i64 k))]) (fun _=> .map m (Cj kDig vBool T)::LF) 0 ⟨by simp,by simp⟩ ⟨rfl,rfl,rfl,rfl,rfl⟩ (.refl _) ?_
 clear hk hc
 rintro k ⟨hk,hin⟩
 refine wf ?_
 refine A1 (fun hc=>?_) (fun hc=>?_)
 ·have hlt:k < l.length:=by omega
  have i1:B3 (EE ((getS r.pool l[k]).getD Pat.zero)=false):=⟨v.close.great _⟩
  have hnl:=kA v l[k]
  have hbad:=fun(h:Ca l (ndS r.pool l[k])=false)=>show Fj r.pool l=false from by
   cases hA:Fj r.pool l with
   |false=>rfl
   |true=>rw[Ar.1 hA _ (AK hlt)]at h;cases h
  refine wz fun b12=>?_
  refine Ag 12 ?_
  refine wz fun b13=>?_
  refine Ag 13 ?_
  refine wf ?_
  rw[show Bf ((getS r.pool l[k]).getD Pat.zero)=ndS r.pool l[k] from rfl]
  have hdo:=fun(h:Ca l (ndS r.pool l[k])=true)=>show ∀ d∈l.take (k+1),Ca l (ndS r.pool d)=true from fun d hd=>by
   rw[A6 hlt]at hd
   rcases Ai.1 hd with hd|hd
   ·exact hin d hd
   ·rw[B1.1 hd];exact h
  generalize ndS r.pool l[k]=nd at hnl hbad hdo ⊢
  refine AW (σ:=Nat) (fun j=>j≤nd.length∧ ∀ d∈nd.take j,d∈l) (fun j=>nd.length - j) (fun j=> [(2,.pt (Ay r) 0),(8,.raw (.map (some m))),(47,.slice (l.map eDig) .ro),(48,.raw (.int .i64 l.length)),(49,.raw (.int .i64 k)),(61,.slice (nd.map eDig) .ro),(62,.raw (.int .i64 nd.length)),(63,.raw (.int .i64 j))]) (fun _=> .map m (Cj kDig vBool T)::LF) 0 ⟨by simp,by simp⟩ ⟨rfl,rfl,rfl,rfl,rfl,rfl,rfl,rfl⟩ (.refl _) ?_
  rintro j ⟨hj,hjn⟩
  refine wf ?_
  refine A1 (fun hc=>?_) (fun hc=>?_)
  ·have hjl:j < nd.length:=by omega
   have hTj:=hT nd[j]
   refine wz fun b16=>?_
   refine Ag 16 ?_
   refine wf ?_
   rw[hTj]
   refine AO (fun h=>?_) (fun h=>?_)
   ·have hnm:nd[j]∉l:=BJ (by simpa using h)
    have:=hbad (by
     cases hA:Ca l nd with
     |false=>rfl
     |true=>exact absurd (GU.1 hA _ (AK hjl)) hnm)
    refine wf ?_
    refine Ah (.of_eq ?_)
    rw[if_pos this]
   ·have hm:nd[j]∈l:=Ab (by simpa using h)
    refine wf ?_
    refine⟨j+1,⟨by omega,fun d hd=>?_⟩,by dsimp only;omega,⟨rfl,rfl,rfl,rfl,rfl,rfl,rfl,rfl⟩,.refl _⟩
    rw[A6 hjl]at hd
    rcases Ai.1 hd with hd|hd
    ·exact hjn d hd
    ·rw[B1.1 hd];exact hm
  ·rw[AA (by omega)]at hjn
   refine wf ?_
   exact⟨k+1,⟨by omega,hdo (GU.2 hjn)⟩,by dsimp only;omega,⟨rfl,rfl,rfl,rfl,rfl⟩,.refl _⟩
 ·rw[AA (by omega)]at hin
  have:Fj r.pool l=true:=Ar.2 fun d hd=>hin d hd
  refine wf ?_
  refine Ah (.of_eq ?_)
  rw[if_neg (by simp[this])]⟩
theorem Zk (r:Repo) (i:Nat) (v:C7 r.pool) (hi:i < r.tags.length):Bl Tryz.prog 60 [.agg (Ay r),.raw (.int .i64 (i:Int))] (.raw (.int .i64 (KG r i))):=⟨by
 have iv:B3 (C7 r.pool):=⟨v⟩
 refine Ak Tryz.func60 Tryz.ntmps60 rfl (rs:= [.tmp 4]) rfl rfl fun hb LF=>?_
 have c1:=fun t=>OZ (Ys r.tags t i hi)
 have c2:=fun t u=>P8 r.pool t r.tags[i].tops u v.asc
 have hch:=lB r i
 rw[HF hi]at hch
 rw[hch]
 clear hch
 by_cases h1:aq r.tags i≠0
 ·rw[if_pos h1]
  generalize aq r.tags i=e at c1 h1 ⊢
  refine wf ?_
  refine AL (fun _=>?_) (fun h=>absurd h h1)
  refine wf ?_
  exact Ah (.refl _)
 rw[if_neg h1]
 rw[Aj.1 h1]at c1
 refine wf ?_
 refine BR fun b6=>?_
 refine wo ?_
 refine AN ?_
 refine Ag 6 ?_
 generalize r.tags[i]=tg at c2 ⊢
 refine wf ?_
 refine A1 (fun h=>?_) (fun h=>?_)
 ·rw[if_pos h]
  refine wf ?_
  exact Ah (.refl _)
 rw[if_neg h]
 clear h
 refine wf ?_
 refine A1 (fun h=>?_) (fun h=>?_)
 ·rw[if_pos h]
  refine wf ?_
  exact Ah (.refl _)
 rw[if_neg h]
 clear h
 by_cases h2:Fw r.pool tg.tops≠0
 ·rw[if_pos h2]
  generalize Fw r.pool tg.tops=e at c2 h2 ⊢
  refine wf ?_
  refine AL (fun _=>?_) (fun h=>absurd h h2)
  refine wf ?_
  exact Ah (.refl _)
 rw[if_neg h2]
 have h2:=Aj.1 h2
 rw[h2]at c2
 have hsh:=Vs v h2
 refine wf ?_
 refine AW (σ:=Nat) (fun k=>k≤tg.tops.length∧ ∀ p∈tg.tops.take k,∀ q∈tg.tops,p=q∨Fv r.pool p q=false) (fun k=>tg.tops.length - k) (fun k=> [(2,.pt (Ay r) 0),(6,.pt (eTgg tg) 0),(43,.slice (tg.tops.map eDig) .ro),(44,.raw (.int .i64 tg.tops.length)),(45,.raw (.int .i64 k))]) (fun _=>LF) 0 ⟨by simp,by simp⟩ ⟨rfl,rfl,rfl,rfl,rfl⟩ (.refl _) ?_
 rintro k ⟨hk,hin⟩
 refine wf ?_
 refine A1 (fun hc=>?_) (fun hc=>?_)
 ·have hlt:k < tg.tops.length:=by omega
  refine wz fun b9=>?_
  refine Ag 9 ?_
  refine wf ?_
  refine AW (σ:=Nat) (fun j=>j≤tg.tops.length∧ ∀ q∈tg.tops.take j,tg.tops[k]=q∨Fv r.pool tg.tops[k] q=false) (fun j=>tg.tops.length - j) (fun j=> [(2,.pt (Ay r) 0),(6,.pt (eTgg tg) 0),(9,.pt (eDig tg.tops[k]) 0),(43,.slice (tg.tops.map eDig) .ro),(44,.raw (.int .i64 tg.tops.length)),(45,.raw (.int .i64 k)),(50,.slice (tg.tops.map eDig) .ro),(51,.raw (.int .i64 tg.tops.length)),(52,.raw (.int .i64 j))]) (fun _=>LF) 0 ⟨by simp,by simp⟩ ⟨rfl,rfl,rfl,rfl,rfl,rfl,rfl,rfl,rfl⟩ (.refl _) ?_
  rintro j ⟨hj,hjn⟩
  refine wf ?_
  refine A1 (fun hc=>?_) (fun hc=>?_)
  ·have hjl:j < tg.tops.length:=by omega
   refine wz fun b11=>?_
   refine Ag 11 ?_
   have hbad: ¬(tg.tops[k]=tg.tops[j]∨Fv r.pool tg.tops[k] tg.tops[j]=false)→K1 r.pool tg.tops=false:=fun h=>by
    cases hA:K1 r.pool tg.tops with
    |false=>rfl
    |true=>exact absurd (Kq.1 hA _ (AK hlt) _ (AK hjl)) h
   have hdo:(tg.tops[k]=tg.tops[j]∨Fv r.pool tg.tops[k] tg.tops[j]=false)→ ∀ q∈tg.tops.take (j+1),tg.tops[k]=q∨Fv r.pool tg.tops[k] q=false:=fun h q hq=>by
    rw[A6 hjl]at hq
    rcases Ai.1 hq with hq|hq
    ·exact hjn q hq
    ·rw[B1.1 hq];exact h
   generalize tg.tops[j]=q at hbad hdo ⊢
   generalize tg.tops[k]=p at hbad hdo ⊢
   refine wf ?_
   refine An (fun hp=>?_) (fun hp=>?_)
   ·have hne:p≠q:=by simpa using hp
    refine wf ?_
    refine AO (fun h=>?_) (fun h=>?_)
    ·refine wf ?_
     refine Ah (.of_eq ?_)
     rw[if_pos (hbad (by simp[hne,h]))]
    ·refine wf ?_
     exact⟨j+1,⟨by omega,hdo (.inr h)⟩,by dsimp only;omega,⟨rfl,rfl,rfl,rfl,rfl,rfl,rfl,rfl,rfl⟩,.refl _⟩
   ·have he:p=q:=by simpa using hp
    refine wf ?_
    exact⟨j+1,⟨by omega,hdo (.inl he)⟩,by dsimp only;omega,⟨rfl,rfl,rfl,rfl,rfl,rfl,rfl,rfl,rfl⟩,.refl _⟩
  ·rw[AA (by omega)]at hjn
   refine wf ?_
   refine⟨k+1,⟨by omega,fun p hp q hq=>?_⟩,by dsimp only;omega,⟨rfl,rfl,rfl,rfl,rfl⟩,.refl _⟩
   rw[A6 hlt]at hp
   rcases Ai.1 hp with hp|hp
   ·exact hin p hp q hq
   ·rw[B1.1 hp];exact hjn q hq
 ·rw[AA (by omega)]at hin
  refine wf ?_
  refine Ah (.of_eq ?_)
  rw[if_neg (by simp[Kq.2 hin])]⟩
theorem GN (r:Repo) (hg:Dc r.pool):Bl Tryz.prog 18 [.agg (Ay r)] (.raw (.int .i64 (EO r))):=⟨by
 have ig:B3 (Dc r.pool):=⟨hg⟩
 refine Ak Tryz.func18 Tryz.ntmps18 rfl (rs:= [.tmp 2]) rfl rfl fun hb LF=>?_
 have hbl:r.branches.length≤140737488355328:=((hb (.agg (Ay r)) (by simp)).agg_at (c:= .slice (r.branches.map eBrn) .ro) (by simp[Ay])).slice_map
 have htl:r.tags.length≤140737488355328:=((hb (.agg (Ay r)) (by simp)).agg_at (c:= .slice (r.tags.map eTgg) .ro) (by simp[Ay])).slice_map
 have c1:=fun t=>Pn r.pool t
 unfold EO
 by_cases h1:FJ r.pool≠0
 ·rw[if_pos h1]
  generalize FJ r.pool=e at c1 h1 ⊢
  refine wf ?_
  refine AL (fun _=>?_) (fun h=>absurd h h1)
  refine wf ?_
  exact Ah (.refl _)
 rw[if_neg h1]
 have v:=KI hg (Aj.1 h1)
 rw[Aj.1 h1]at c1
 refine wf ?_
 refine An (fun hp=>?_) (fun hp=>?_)
 ·rw[if_pos (.inl (Ab hp))]
  refine wf ?_
  exact Ah (.refl _)
 have hb1:=BJ hp
 refine wf ?_
 refine A1 (fun h=>?_) (fun h=>?_)
 ·rw[if_pos (.inr h)]
  refine wf ?_
  exact Ah (.refl _)
 rw[if_neg (by omega)]
 refine wf ?_
 refine AW (σ:=Nat) (fun i=>i≤r.branches.length∧ ∀ j,j < i→KH r j=0) (fun i=>r.branches.length - i) (fun i=> [(1,.pt (Ay r) 0),(25,.slice (r.branches.map eBrn) .ro),(26,.raw (.int .i64 r.branches.length)),(27,.raw (.int .i64 i))]) (fun _=>LF) 0 ⟨by simp,fun j h=>absurd h (Ia _)⟩ ⟨rfl,rfl,rfl,rfl⟩ (.refl _) ?_
 rintro i ⟨hi,hz⟩
 refine wf ?_
 refine A1 (fun hc=>?_) (fun hc=>?_)
 ·have hlt:i < r.branches.length:=by omega
  have cb:=U9 r i v hlt
  have hat:=du hlt hz
  by_cases h2:KH r i≠0
  ·have hat:=hat h2
   generalize KH r i=e at cb hat h2
   refine wf ?_
   refine AL (fun _=>?_) (fun h=>absurd h h2)
   refine wf ?_
   refine Ah (.of_eq ?_)
   rw[hat,if_pos h2]
  ·have h2:=Aj.1 h2
   rw[h2]at cb
   refine wf ?_
   refine⟨i+1,⟨by omega,fun j hj=>?_⟩,by dsimp only;omega,⟨rfl,rfl,rfl,rfl⟩,.refl _⟩
   by_cases e:j=i
   ·rw[e];exact h2
   ·exact hz j (by omega)
 have hzb:=Zi (r:=r) fun j hj=>hz j (by omega)
 rw[hzb,if_neg (by simp)]
 clear hz hc hi hzb
 refine wf ?_
 refine AW (σ:=Nat) (fun i=>i≤r.tags.length∧ ∀ j,j < i→KG r j=0) (fun i=>r.tags.length - i) (fun i=> [(1,.pt (Ay r) 0),(38,.slice (r.tags.map eTgg) .ro),(39,.raw (.int .i64 r.tags.length)),(40,.raw (.int .i64 i))]) (fun _=>LF) 0 ⟨by simp,fun j h=>absurd h (Ia _)⟩ ⟨rfl,rfl,rfl,rfl⟩ (.refl _) ?_
 rintro i ⟨hi,hz⟩
 refine wf ?_
 refine A1 (fun hc=>?_) (fun hc=>?_)
 ·have hlt:i < r.tags.length:=by omega
  have cb:=Zk r i v hlt
  have hat:=dt hlt hz
  by_cases h2:KG r i≠0
  ·have hat:=hat h2
   generalize KG r i=e at cb hat h2
   refine wf ?_
   refine AL (fun _=>?_) (fun h=>absurd h h2)
   refine wf ?_
   refine Ah (.of_eq ?_)
   rw[hat,if_pos h2]
  ·have h2:=Aj.1 h2
   rw[h2]at cb
   refine wf ?_
   refine⟨i+1,⟨by omega,fun j hj=>?_⟩,by dsimp only;omega,⟨rfl,rfl,rfl,rfl⟩,.refl _⟩
   by_cases e:j=i
   ·rw[e];exact h2
   ·exact hz j (by omega)
 have hzt:=Zh (r:=r) fun j hj=>hz j (by omega)
 rw[hzt,if_neg (by simp)]
 refine wf ?_
 refine A1 (fun h=>?_) (fun h=>?_)
 ·rw[if_pos h]
  refine wf ?_
  exact Ah (.refl _)
 ·rw[if_neg h]
  refine wf ?_
  exact Ah (.refl _)⟩
instance dP (n:Str):Bl Tryz.prog 36 [.str n] (.tuple [.agg (Ay (SE n).1),.raw (.int .i64 (SE n).2)]):=⟨by
 refine Ak Tryz.func36 Tryz.ntmps36 rfl (rs:= [.cell 2 27,.tmp 3]) rfl rfl fun hb LF=>?_
 unfold SE
 refine wf ?_
 refine BR fun b2=>?_
 refine wf ?_
 refine AO (fun h=>?_) (fun h=>?_)
 ·rw[if_pos (by simpa using h)]
  refine wf ?_
  exact DX rfl (.of_eq rfl)
 ·rw[if_neg (by simpa using h)]
  refine wf ?_
  exact DX rfl (.of_eq rfl)⟩
instance y5 (s:List Sto) (t:CW):Bl Tryz.prog 73 [.slice (s.map eSto) t] (.slice ((ids s).map eDig) .ro):=⟨by
 refine Ak Tryz.func73 Tryz.ntmps73 rfl (rs:= [.tmp 2]) rfl rfl fun hb LF=>?_
 have hll:s.length*37≤140737488355328:=(hb (.slice (s.map eSto) t) (by simp)).slice_cells (sz:=37)
 have hsu:=fun k (hk:k < s.length)=>show ids (s.take (k+1))=ids (s.take k)++ [s[k].id] from by
  unfold ids;rw[A6 hk,Az];rfl
 have hsl:=fun k=>show(ids (s.take k)).length≤s.length from by rw[Dj,AV];omega
 refine wf ?_
 refine Ee 32 ?_
 refine AW (σ:=Nat × CW) (fun z=>z.1≤s.length) (fun z=>s.length - z.1) (fun z=> [(3,.slice ((ids (s.take z.1)).map eDig) z.2),(6,.slice (s.map eSto) t),(7,.raw (.int .i64 s.length)),(8,.raw (.int .i64 z.1))]) (fun z=> .tok z.2 (ids (s.take z.1)).length 32::LF) (0,.nil) (by simp) ⟨rfl,rfl,rfl,rfl⟩ (.refl _) ?_
 rintro⟨k,u⟩ hk
 dsimp only at hk ⊢
 refine wf ?_
 refine A1 (fun hc=>?_) (fun hc=>?_)
 ·have hlt:k < s.length:=by omega
  have e1:=hsu k hlt
  have e2:=hsl k
  refine wz fun b5=>?_
  refine Ag 5 ?_
  generalize s[k]=x at e1 ⊢
  generalize ids (s.take k)=A at e1 e2 ⊢
  refine Xw fun u'=>?_
  refine⟨(k+1,u'),by dsimp only;omega,by dsimp only;omega,⟨?_,rfl,rfl,rfl⟩,?_⟩
  ·dsimp only;rw[e1];rfl
  ·dsimp only;rw[e1];exact .refl _
 ·have hkk:k=s.length:=by omega
  rw[hkk,Cu]
  refine wf ?_
  exact Ah (.ro _ _)⟩
instance uh (x:Tgg) (n:Str):Bl Tryz.prog 146 [.agg (eTgg x),.pt [sq] 0,.pt [.str n] 0] (.raw (.bool (decide (x.name=n)))):=⟨by
 refine Ak Tryz.func146 Tryz.ntmps146 rfl (rs:= [.tmp 4]) rfl rfl fun hb LF=>?_
 refine wf ?_
 exact Ah (.refl _)⟩
instance kq (l:List Tgg) (t:CW) (n:Str):Bl Tryz.prog 89 [.slice (l.map eTgg) t,sq,.str n] (.raw (.int .i64 (C3 Tgg.name l n))):=⟨by
 have c1:=fun t=>Rq 146 [.pt [sq] 0,.pt [.str n] 0] (fun y:Tgg=>decide (y.name=n)) l t
 rw[←Vx]at c1
 refine Ak Tryz.func89 Tryz.ntmps89 rfl (rs:= [.tmp 6]) rfl rfl fun hb LF=>?_
 refine wf ?_
 exact Ah (.refl _)⟩
instance fq (l:List Tgg) (t:CW) (n:Str):Bl Tryz.prog 89 [.slice (l.map eTgg) t,.clo 90 [],.str n] (.raw (.int .i64 (C3 Tgg.name l n))):=OZ (kq l t n)
instance ZJ (r:Repo) (n:Str):Bl Tryz.prog 87 [.agg (Ay r),.str n] (.raw (.int .i64 (NJ r n))):=⟨by
 refine Ak Tryz.func87 Tryz.ntmps87 rfl (rs:= [.tmp 4]) rfl rfl fun hb LF=>?_
 unfold NJ
 refine wf ?_
 refine An (fun hp=>?_) (fun hp=>?_)
 ·rw[if_pos (.inl (Ab hp))]
  refine wf ?_
  exact Ah (.refl _)
 have h1:=BJ hp
 refine wf ?_
 refine A1 (fun h=>?_) (fun h=>?_)
 ·rw[if_pos (.inr h)]
  refine wf ?_
  exact Ah (.refl _)
 ·rw[if_neg (fun h2=>h2.elim h1 h)]
  refine wf ?_
  exact Ah (.refl _)⟩
theorem aI (r:Repo) (t:Tgg) (v:C7 r.pool) (hl:t.tops.length≤400):Bl Tryz.prog 110 [.agg (Ay r),.agg (eTgg t)] (.slice ((tagV r.pool t).map eSto) .ro):=⟨by
 have iv:B3 (C7 r.pool):=⟨v⟩
 have il:B3 (t.tops.length≤400):=⟨hl⟩
 have h40:=v.close.1.1
 have kl:B3 (r.pool.length≤1000000):=⟨by omega⟩
 refine Ak Tryz.func110 Tryz.ntmps110 rfl (rs:= [.tmp 4]) rfl rfl fun hb LF=>?_
 unfold tagV
 refine wf ?_
 exact Ah (.refl _)⟩
instance uG (r:Repo):Bl Tryz.prog 53 [.agg (Ay r)] (.clo 109 [.pt (Ay r) 0]):=⟨by
 refine Ak Tryz.func53 Tryz.ntmps53 rfl (rs:= [.tmp 2]) rfl rfl fun hb LF=>?_
 refine wf ?_
 exact Ah (.refl _)⟩
def tZ (x:Str × List Sto):List PV:= [.str x.1,.slice (x.2.map eSto) .ro]
def dv (r:Repo) (b:Brn):Str × List Sto:=(b.name,Bt r.pool b.ids)
def iR (r:Repo) (t:Tgg):Str × List Sto:=(t.name,tagV r.pool t)
def NX (r:Repo):List (Str × List Sto):=r.branches.map (dv r)++r.tags.map (iR r)
theorem Sa (r:Repo) (v:H4 r):Zp Tryz.prog 109 [.pt (Ay r) 0] tZ (NX r):=by
 intro l J Jx hY L hJ
 have h200:=v.pool.close.1.1
 have kl:B3 (r.pool.length≤1000000):=⟨by omega⟩
 have hbl:=v.lenB
 have htl:=v.lenT
 refine Bw Tryz.func109 rfl Tryz.ntmps109 (rs:= []) rfl rfl fun hb LF=>?_
 refine wf ?_
 refine AW (σ:=Nat × List Res) (fun k=>k.1≤r.branches.length∧J ((r.branches.take k.1).map (dv r)) k.2) (fun k=>r.branches.length - k.1) (fun k=> [(0,.raw (.func (.yield l) #[] #[])),(1,.pt (Ay r) 0),(8,.slice (r.branches.map eBrn) .ro),(9,.raw (.int .i64 r.branches.length)),(10,.raw (.int .i64 k.1))]) (fun k=>k.2++LF) (0,L) ⟨by simp,by simpa using hJ⟩ ⟨rfl,rfl,rfl,rfl,rfl⟩ (.refl _) ?_
 rintro⟨k,L1⟩ ⟨hk,hJ1⟩
 dsimp only at hk hJ1 ⊢
 refine wf ?_
 refine A1 (fun hc=>?_) (fun hc=>?_)
 ·have hlt:k < r.branches.length:=by omega
  have ht:(r.branches.take (k+1)).map (dv r)=(r.branches.take k).map (dv r)++ [dv r r.branches[k]]:=by
   rw[A6 hlt,Az];rfl
  have hpre:(r.branches.take k).map (dv r)++ [dv r r.branches[k]] <+:NX r:=by
   rw[←ht]
   unfold NX
   refine⟨(r.branches.drop (k+1)).map (dv r)++r.tags.map (iR r),?_⟩
   rw[←AJ,←Az,C4]
  have hy:=hY _ _ L1 hpre hJ1
  rw[←ht]at hy
  refine wz fun b4=>?_
  refine Ag 4 ?_
  refine wn ?_
  refine BZ 8 ?_ ?_
  ·decide+kernel
  refine wf ?_
  refine Ht L1 LF rfl rfl rfl (.refl _) _ hy fun bo L' hR=>?_
  refine wf ?_
  rcases hR with ⟨rfl,hJ2⟩|⟨rfl,hJx⟩
  ·refine wf ?_
   exact⟨(k+1,L'),⟨by dsimp only;omega,hJ2⟩,by dsimp only;omega,⟨rfl,rfl,rfl,rfl,rfl⟩,.refl _⟩
  ·refine wf ?_
   exact⟨trivial,_,L',.nil,.refl _,.inr ⟨_,hJx⟩⟩
 rw[AA (by omega)]at hJ1
 clear hk hc
 refine wf ?_
 refine AW (σ:=Nat × List Res) (fun k=>k.1≤r.tags.length∧J (r.branches.map (dv r)++(r.tags.take k.1).map (iR r)) k.2) (fun k=>r.tags.length - k.1) (fun k=> [(0,.raw (.func (.yield l) #[] #[])),(1,.pt (Ay r) 0),(26,.slice (r.tags.map eTgg) .ro),(27,.raw (.int .i64 r.tags.length)),(28,.raw (.int .i64 k.1))]) (fun k=>k.2++LF) (0,L1) ⟨by simp,by simpa using hJ1⟩ ⟨rfl,rfl,rfl,rfl,rfl⟩ (.refl _) ?_
 clear hJ1 L1
 rintro⟨k,L1⟩ ⟨hk,hJ1⟩
 dsimp only at hk hJ1 ⊢
 refine wf ?_
 refine A1 (fun hc=>?_) (fun hc=>?_)
 ·have hlt:k < r.tags.length:=by omega
  have ht:r.branches.map (dv r)++(r.tags.take (k+1)).map (iR r)=r.branches.map (dv r)++(r.tags.take k).map (iR r)++ [iR r r.tags[k]]:=by
   rw[A6 hlt,Az,AJ];rfl
  have hpre:r.branches.map (dv r)++(r.tags.take k).map (iR r)++ [iR r r.tags[k]] <+:NX r:=by
   rw[←ht]
   unfold NX
   refine⟨(r.tags.drop (k+1)).map (iR r),?_⟩
   rw[AJ,←Az,C4]
  have hy:=hY _ _ L1 hpre hJ1
  rw[←ht]at hy
  have hot:=v.okT _ (AK hlt)
  have htl2:=Eh hot.asc.nodup hot.sub
  rw[Dj]at htl2
  have ct:=aI r r.tags[k] v.pool (by omega)
  refine wz fun b6=>?_
  refine Ag 6 ?_
  refine wn ?_
  refine BZ 6 ?_ ?_
  ·decide+kernel
  refine wf ?_
  refine Ht L1 LF rfl rfl rfl (.refl _) _ hy fun bo L' hR=>?_
  refine wf ?_
  rcases hR with ⟨rfl,hJ2⟩|⟨rfl,hJx⟩
  ·refine wf ?_
   exact⟨(k+1,L'),⟨by dsimp only;omega,hJ2⟩,by dsimp only;omega,⟨rfl,rfl,rfl,rfl,rfl⟩,.refl _⟩
  ·refine wf ?_
   exact⟨trivial,_,L',.nil,.refl _,.inr ⟨_,hJx⟩⟩
 ·rw[AA (by omega)]at hJ1
  refine wf ?_
  exact⟨trivial,_,L1,.nil,.refl _,.inl hJ1⟩
end Go.Proofs
namespace Go.Q
open Go
section
variable {P:Program} {ρ:Env} {L LF:List Res} {X:PV}
theorem qy {t u T T' b c B B':Nat} {x y:PV} (hT:PB P T) (hT':PB P T') (h1:ρ t= .raw (.pointer (some ⟨b,0,none⟩))) (h2:ρ u= .raw (.pointer (some ⟨c,0,none⟩))) (hX:Le (.tuple [x,y]) X) (m1:Res.box b B [x]∈L) (m2:Res.box c B' [y]∈L) (hs:LF.Sublist L):
  gj P [.cell t T,.cell u T'] (fun r L'=>Le r X∧L'= []) LF .ret ρ L:=⟨trivial,_,[],.cons (.cell1 t T h1 m1 hT) (.cons (.cell1 u T' h2 m2 hT') .nil),hs,hX,rfl⟩
end
end Go.Q
namespace Go.Proofs
open Go Go.Q
attribute [local irreducible] EG AY H2 B2 FZ
theorem Y4:PB Tryz.prog 23:=⟨.slice 47,by kernel_rfl,(fun _ e=>(by cases e)),(fun _ _ e=>(by cases e))⟩
theorem VK:PB Tryz.prog 4:=⟨.bool,by kernel_rfl,(fun _ e=>(by cases e)),(fun _ _ e=>(by cases e))⟩
theorem Sb {r:Repo} (v:H4 r) {x:Str × List Sto} (h:x∈NX r):C6 r x.1=some x.2:=by
 unfold NX at h
 rcases Ai.1 h with h|h
 ·obtain⟨b,hb,rfl⟩:=AU.1 h
  exact HI v.ascB hb
 ·obtain⟨t,ht,rfl⟩:=AU.1 h
  exact v.viewT ht
theorem iE {r:Repo} {n:Str} (h: ∀ x∈NX r,x.1≠n):C6 r n=none:=FP.2
 ⟨fun b hb=>h (dv r b) (JU _ (AU.2 ⟨b,hb,rfl⟩)),fun t ht=>h (iR r t) (Ed _ (AU.2 ⟨t,ht,rfl⟩))⟩
def yv (b4 b5:Nat):Option (List Sto)→List Res→List Res
 |none,L=> .box b4 23 [.slice [] .nil]:: .box b5 4 [.raw (.bool false)]::L
 |some w,L=> .box b4 23 [.slice (w.map eSto) .ro]:: .box b5 4 [.raw (.bool true)]::L
theorem Sc (r:Repo) (n:Str) (v:H4 r):Bl Tryz.prog 51 [.agg (Ay r),.str n] (.tuple [.slice (((C6 r n).getD []).map eSto) .ro,.raw (.bool (C6 r n).isSome)]):=⟨by
 refine Ak Tryz.func51 Tryz.ntmps51 rfl (rs:= [.cell 4 23,.cell 5 4]) rfl rfl fun hb LF=>?_
 refine wf ?_
 refine BR fun b4=>?_
 refine wf ?_
 refine BR fun b5=>?_
 refine wf ?_
 refine GI (.swap _ _ _) ?_
 refine Hp (Sa r v) [10,11] (σ:=Option (List Sto)) (fun pre s=>s=none∧ ∀ x∈pre,x.1≠n) (fun _ s=> ∃ w,s=some w∧C6 r n=some w) (yv b4 b5) none LF (.refl _) rfl (fun _=>rfl) (by simp) (fun s LF'=>by cases s<;>rfl) (.refl _) ⟨rfl,by simp⟩ ?_ ?_ ?_
 ·rintro pre x s LF' hpx ⟨rfl,hne⟩
  have hx:=Sb v (hpx.subset (Ed _ (B1.2 rfl)))
  obtain⟨m,w⟩:=x
  dsimp only[tZ,yv]at hx ⊢
  refine wf ?_
  refine A1 (fun h=>?_) (fun h=>?_)
  ·refine wf ?_
   exact⟨some w,⟨w,rfl,by rw[←h];exact hx⟩,.refl _⟩
  ·refine wf ?_
   refine⟨none,⟨rfl,fun y hy=>?_⟩,.refl _⟩
   rcases Ai.1 hy with hy|hy
   ·exact hne y hy
   ·rw[B1.1 hy];exact h
 ·rintro s ⟨rfl,hne⟩
  rw[iE hne]
  dsimp only[yv]
  refine wf ?_
  exact qy Y4 VK rfl rfl (.tuple2 .nilr (.refl _)) AI (AD _ AI) (.cons _ (.cons _ (.refl _)))
 ·rintro pre s ⟨w,rfl,hw⟩
  rw[hw]
  exact qy Y4 VK rfl rfl (.refl _) AI (AD _ AI) (.cons _ (.cons _ (.refl _)))⟩
end Go.Proofs
namespace Go.Q
open Go
theorem iC {g:Gh} {us:List Value} {A B:List PV} {v:Value} {y:PV} (h:VR g v y) (hl:E8 g us (A++ .raw v::B)):E8 g us (A++y::B):=by
 refine⟨by rw[hl.len];simp,fun i k1 k2=>?_⟩
 have:=hl.at_ i k1 (by simpa using k2)
 rcases Fp i A.length with h1|h1|h1
 ·rw[Bh h1]at this ⊢
  exact this
 ·subst h1
  rw[C5 (B5 _)]at this ⊢
  simp only[zA,B9]at this ⊢
  rw[this.raw_inv];exact h
 ·rw[C5 (by omega)]at this ⊢
  obtain⟨m,hm⟩: ∃ m,i - A.length=m+1:=⟨i - A.length - 1,by omega⟩
  simp only[hm,Cn]at this ⊢
  exact this
theorem U3 {cur us zs:List Value} {a b n:Nat} (hc:cur.take us.length=us) (ha:a≤b) (hb:b≤us.length) (hn:n=a+(us.length - b)) (hle:n≤us.length):
  (CA cur a (us.drop b)).take n++zs=us.take a++us.drop b++zs:=by
 congr 1
 unfold CA
 have h1:cur.take a=us.take a:=by rw[←hc,List.take_take];congr 1;omega
 have hul:us.length≤cur.length:=by
  have:=congrArg List.length hc
  rw[AV]at this;omega
 rw[h1]
 refine E1 ?_
 rw[A8,AV,Ao];omega
section
variable {P:Program} {N:Nat} {all:Array Oper} {K:Env→List Res→Prop} {fl:List Bool} {os:List Oper} {ρ:Env} {L:List Res} {d:Nat} {ty:TypeId} {pos:String} {af:Array Edge}
theorem cg {T E sz by_:Nat} [hT:LK P T E] [hE:ER P E sz by_] {x y:Operand} {r o:Nat} {kk:IntKind} {n c i:Nat} (hx:ρ.ev x= .raw (.slice (some ⟨r,o,none⟩) n c)) (hy:ρ.ev y= .raw (.int kk (i:Int))) (hi:i≤n) (hn:n≤c)
  (k: ∀ o2,(i < n→o2=o+i*sz)→AY P N all K fl.tail os (CN ρ d (.raw (.slice (some ⟨r,o2,none⟩) (n - i) (c - i)))) L) (hd:Nat.blt d N=true:=by rfl):AY P N all K fl (⟨some d,.slice T x (some y) none none,ty,pos,af,none⟩::os) ρ L:=by
 obtain⟨o2,ho2⟩: ∃ o2,o2=if c=i then o else o+i*sz:=⟨_,rfl⟩
 refine Bg (x:= .raw (.slice (some ⟨r,o2,none⟩) (n - i) (c - i))) hd (B7 fun a w g ha hI=>?_) (k o2 fun h=>by rw[ho2,if_neg (by omega)])
 have e1:=CR ha (x:=x) (by simp[Op.operands]) hx
 have e2:=CR ha (x:=y) (by simp[Op.operands]) hy
 refine⟨.slice (some ⟨r,o2,none⟩) (n - i) (c - i),?_,.raw _⟩
 have hbounds:(Instr.sliceBounds true n c (some (a.eval y)) none none).run P w= .ok (i,n,c) w:=by
  unfold Instr.sliceBounds
  simp[e2,Instr.sliceBound,asIntOf]
  omega
 show(do pure (Next.value (←Instr.sliceAt T (a.eval x) (some (a.eval y)) none none)):Sem Next).run P w=_
 simp only[Instr.sliceAt,Sem.run_bind,run_underlying hT.out,Result.andThen_ok,Instr.slice,e1,hbounds,ER.run hE,Sem.run_pure]
 by_cases h:c=i
 ·rw[ho2,if_pos h,if_pos h]
 ·rw[ho2,if_neg h,if_neg h];simp[DN]
theorem jH {T E sz by_:Nat} [hT:LK P T E] [hE:ER P E sz by_] {x y z u:Operand} {b:Option Addr} {k1 k2 k3:IntKind} {n c i j m:Nat} (hx:ρ.ev x= .raw (.slice b n c)) (hy:ρ.ev y= .raw (.int k1 (i:Int))) (hz:ρ.ev z= .raw (.int k2 (j:Int))) (hu:ρ.ev u= .raw (.int k3 (m:Int))) (hij:i≤j) (hjm:j≤m) (hmc:m≤c)
  (k: ∀ v,AY P N all K fl.tail os (CN ρ d (.raw v)) L) (hd:Nat.blt d N=true:=by rfl):AY P N all K fl (⟨some d,.slice T x (some y) (some z) (some u),ty,pos,af,none⟩::os) ρ L:=by
 obtain⟨v,hv⟩: ∃ v:Value,v= .slice (if m=i then b else b.map (·.add (i*sz))) (j - i) (m - i):=⟨_,rfl⟩
 refine Bg (x:= .raw v) hd (B7 fun a w g ha hI=>?_) (k v)
 have e1:=CR ha (x:=x) (by simp[Op.operands]) hx
 have e2:=CR ha (x:=y) (by simp[Op.operands]) hy
 have e3:=CR ha (x:=z) (by simp[Op.operands]) hz
 have e4:=CR ha (x:=u) (by simp[Op.operands]) hu
 refine⟨v,?_,.raw _⟩
 have hbounds:(Instr.sliceBounds true n c (some (a.eval y)) (some (a.eval z)) (some (a.eval u))).run P w= .ok (i,j,m) w:=by
  unfold Instr.sliceBounds
  simp[e2,e3,e4,Instr.sliceBound,asIntOf,hij,hjm,hmc]
 show(do pure (Next.value (←Instr.sliceAt T (a.eval x) (some (a.eval y)) (some (a.eval z)) (some (a.eval u)))):Sem Next).run P w=_
 simp only[Instr.sliceAt,Sem.run_bind,run_underlying hT.out,Result.andThen_ok,Instr.slice,e1,hbounds,ER.run hE,Sem.run_pure,hv]
theorem jF {T E sz by_:Nat} [hT:LK P T E] [hE:ER P E sz by_] {x y:Operand} {kk:IntKind} (hx:ρ.ev x= .raw (.slice none 0 0)) (hy:ρ.ev y= .raw (.int kk 0))
  (k:AY P N all K fl.tail os (CN ρ d (.raw (.slice none 0 0))) L) (hd:Nat.blt d N=true:=by rfl):AY P N all K fl (⟨some d,.slice T x none (some y) none,ty,pos,af,none⟩::os) ρ L:=
 Bg hd (B7 fun a w g ha hI=>by
  have e1:=CR ha (x:=x) (by simp[Op.operands]) hx
  have e2:=CR ha (x:=y) (by simp[Op.operands]) hy
  refine⟨.slice none 0 0,?_,.raw _⟩
  have hbounds:(Instr.sliceBounds true 0 0 none (some (a.eval y)) none).run P w= .ok (0,0,0) w:=by
   unfold Instr.sliceBounds
   simp[e2,Instr.sliceBound,asIntOf]
  show(do pure (Next.value (←Instr.sliceAt T (a.eval x) none (some (a.eval y)) none)):Sem Next).run P w=_
  simp only[Instr.sliceAt,Sem.run_bind,run_underlying hT.out,Result.andThen_ok,Instr.slice,e1,hbounds,ER.run hE,Sem.run_pure]
  rfl) k
theorem cw {T T₂ E E₂ sz by_:Nat} [hT:WE P T E sz by_] [h2:LK P T₂ E₂] {x y:Operand} {r n m c o2 sc:Nat} {cur:Array Value} (cs:List Value) {L':List Res} (F:Res→List Res)
  (hx:ρ.ev x= .raw (.slice (some ⟨r,0,none⟩) n c)) (hy:ρ.ev y= .raw (.slice (some ⟨r,o2,none⟩) m sc)) (hp:L.Perm (.raw r (.cells cur E (0,0))::L')) (hq: ∀ c,(c::L').Perm (F c))
  (hl:cs.length=m*sz) (hone: ∀ x∈cs,x.oneCell'=true) (hroom:n+m≤c) (hsz:cur.size=c*sz) (hc:J2 cur o2 cs)
  (k:AY P N all K fl.tail os (CN ρ d (.raw (.slice (some ⟨r,0,none⟩) (n+m) c))) (F (.raw r (.cells (CA cur.toList (n*sz) cs).toArray E (0,0))))) (hd:Nat.blt d N=true:=by rfl) (hfl:fl.headD true=true:=by rfl):
  AY P N all K fl (⟨some d,.call { callee:= .builtin .append,args:= #[x,y],argTypes:= #[T,T₂] },ty,pos,af,none⟩::os) ρ L:=
 Dr rfl (Qn hd) hfl (FZ.perm hp fun a w g ha hi=>by
  have h1:=CR ha (x:=x) (by simp[Op.operands,Call.operands]) hx
  have h3:=CR ha (x:=y) (by simp[Op.operands,Call.operands]) hy
  obtain⟨i,z,t1,t2,t3,t4,t5,t6,t7,t8⟩:=hT.out
  obtain⟨k1,k2,k3,k4,k5⟩:=hi.rawHead
  have hload:(loadCells ⟨r,o2,none⟩ (m*sz)).run P w= .ok cs.toArray w:=by
   rw[←hl];exact Ek (hc.cell k1)
  have hfit:n*sz+m*sz≤c*sz:=by rw[←Bq];exact Au _ hroom
  obtain⟨w',hrun,hb',hos,htp,hout,hsz',hk⟩:=Eo (P:=P) cs w cur.toList (n*sz) 0 (by simpa using k1) (by simp only[C9,hsz,hl,DP];exact hfit) hone
  have hr:(execOp a.eval ⟨some d,.call { callee:= .builtin .append,args:= #[x,y],argTypes:= #[T,T₂] },ty,pos,af,none⟩).run P w= .ok (.value (.slice (some ⟨r,0,none⟩) (n+m) c)) w':=by
   show(do pure (.value (←Builtin.append_ #[T,T₂] ty (#[x,y].map a.eval))):Sem Next).run P w=_
   simp[Builtin.append_,h1,h3,run_underlying t1,run_underlying h2.out,sizeOf,typeInfo,t2,t3,Builtin.lenOf,Builtin.firstCells,hroom,hload,DN,hrun]
  rw[DP]at hb'
  refine Oper.wq_of_run hr ?_
  exact⟨_,.raw _,g,_,rfl,.raw _,(hi.turnRaw hb' hk).perm (hq _),⟨hos,htp,hout,Db hsz'.symm,fun b _ hn=>hk b (fun e=>hn (by simp[Al,Res.block,e])),.refl g,fun _ _ _=>⟨fun _=>rfl,rfl⟩⟩,
   fun b hb _=>by
    have:=(DA (hq _)).symm.subset hb
    simpa [Al,Res.block]using this,k⟩)
theorem nW {T T₂ E sz by_:Nat} [hT:WE P T E sz by_] {kk:IntKind} (h2:P.underlying T₂=some (.int .i64)) {x y:Operand} {m:Nat}
  (hx:ρ.ev x= .raw (.slice none 0 0)) (hy:ρ.ev y= .raw (.int kk (m:Int))) (h0:0 < m) (hb:m*by_≤140737488355328) (hbm:m≤140737488355328)
  (k: ∀ r' nc (zs:List Value),m≤nc→zs.length=nc*sz→AY P N all K fl.tail os (CN ρ d (.raw (.slice (some ⟨r',0,none⟩) m nc))) (.raw r' (.cells zs.toArray E (0,0))::L)) (hd:Nat.blt d N=true:=by rfl) (hfl:fl.headD true=true:=by rfl):
  AY P N all K fl (⟨some d,.call { callee:= .builtin .append,args:= #[x,y],argTypes:= #[T,T₂] },ty,pos,af,none⟩::os) ρ L:=
 Dr rfl (Qn hd) hfl (fun a w g ha hi=>by
  have h1:=CR ha (x:=x) (by simp[Op.operands,Call.operands]) hx
  have h3:=CR ha (x:=y) (by simp[Op.operands,Call.operands]) hy
  obtain⟨i,z,t1,t2,t3,t4,t5,t6,t7,t8⟩:=hT.out
  have hw:IntKind.i64.wrap (m:Int)=m:=by rw[IntKind.wrap_i64];omega
  have h63': ¬(9223372036854775807 < (m:Int)):=by omega
  have h48': ¬(281474976710656 < Builtin.nextslicecap m 0*i.bytes):=by
   rw[t4]
   have:Builtin.nextslicecap m 0*by_≤2*140737488355328:=by
    calc Builtin.nextslicecap m 0*by_≤(2*m)*by_:=Au _ (Gq h0)
     _=2*(m*by_):=by rw[Zz]
     _≤2*140737488355328:=HV _ hb
   omega
  have h48i: ¬(281474976710656 < (m:Int)*(i.bytes:Int)):=by
   rw[←Int.natCast_mul,t4]
   omega
  have hneg: ¬((m:Int) < 0):=by omega
  have hns: ¬(m*sz=0):=Nat.mul_ne_zero (by omega) t7
  have hm0: ¬(m=0):=by omega
  obtain⟨zs,hzs⟩: ∃ zs:List Value,zs=(Builtin.zeroCells z.cells m).toList++(Builtin.zeroCells z.cells (grownCap w m 0 E - m)).toList:=⟨_,rfl⟩
  have hr:(execOp a.eval ⟨some d,.call { callee:= .builtin .append,args:= #[x,y],argTypes:= #[T,T₂] },ty,pos,af,none⟩).run P w= .ok (.value (.slice (some ⟨w.heap.size,0,none⟩) m (grownCap w m 0 E))) (w.drew.alloc (.cells zs.toArray E (0,0))):=by
   show(do pure (.value (←Builtin.append_ #[T,T₂] ty (#[x,y].map a.eval))):Sem Next).run P w=_
   simp[Builtin.append_,h1,h3,run_underlying t1,run_underlying h2,sizeOf,typeInfo,zeroValue,t2,t3,t5,asInt,asIntOf,hw,hneg,h48i,hns,hm0,h63',h48',Question.forced,Builtin.firstCells,newRow,grownCap,hzs]
   try(congr 2;apply N2;simp[grownCap])
  have hge:=grownCap_ge w m 0 E
  have hlen:zs.length=grownCap w m 0 E*sz:=by
   have e1: ∀ m,(Builtin.zeroCells z.cells m).toList.length=m*sz:=fun m=>by rw[C9,size_zeroCells,t6]
   rw[hzs,A8,e1,e1,←Bq]
   congr 1;omega
  obtain⟨j1,j2,j3⟩:=OY (R:= []) (LF:=L) hi (.cells zs.toArray E (0,0))
  refine Oper.wq_of_run hr ?_
  exact⟨_,.raw _,g,_,rfl,.raw _,j1,j2,j3,k _ _ zs hge hlen⟩)
theorem Yd {E sz b B:Nat} {R L':List Res} {v:Value} {ys:List (List PV)} {xs zs:List PV} {c:Code} {Q:PPost} (hv:E9 E sz v ys R) (hm:ys.length≤maxN∧ys.length*sz≤maxN) (hp:L.Perm (R++ .box b B xs::L'))
  (hx: ∀ g us,VR g v (.slice ys .ro)→E8 g us xs→E8 g us zs) (k:EG P N c Q ρ (.box b B zs::L')):EG P N c Q ρ L:=
 HO (fun base a w g ha hI=>by
  obtain⟨g',h1,h2,h3,h4⟩:=E9.freeze (hI.perm hp) hv hm
  obtain⟨us,u1,u2⟩:=DJ.boxRaw h1
  have h5:DJ w g' (.box b B zs::L'):=DJ.rawBox u2 (by simpa using hx g' us h4 u1)
  refine⟨g',⟨ha.size,ha.defers.mono h2.le,fun j=>(ha.slot j).mono h2.le⟩,h5,h2.grow (fun b hb=>(DA hp).symm.subset hb),fun b hb hlt=>(DA hp).symm.subset (h3 b (by simpa [Al,Res.block]using hb) hlt)⟩) k
theorem aj {r E:Nat} {cur:Array Value} {L':List Res} {c:Code} {Q:PPost} (k:EG P N c Q ρ (.box r E (cur.toList.map .raw)::L')):EG P N c Q ρ (.raw r (.cells cur E (0,0))::L'):=
 HO (fun base a w g ha hI=>⟨g,ha,DJ.rawBox hI (E8.raws g _),.refl _ _ _,fun b hb _=>by simpa [Al,Res.block]using hb⟩) k
end
theorem Rj {P:Program} {f E sz n':Nat} {v:Value} {q0Z:List PV} {xs ys:List (List PV)} {R:List Res} {T:List Value→List Value} (hv:E9 E sz v xs R) (hys:ys.length=n') (hsz: ∀ e∈ys,e.length=sz) (hfl:Jl xs.flatten)
  (hT: ∀ g us,E8 g us xs.flatten→E8 g (T us) ys.flatten)
  (key: ∀ us R₁,IZ E sz v xs.length us R₁→(∀ x∈us,x.oneCell'=true)→B2 P f q0Z R₁ (fun x L'=> ∃ v',x= .raw v'∧IZ E sz v' n' (T us) L')):
  B2 P f q0Z R (fun x L'=> ∃ v',x= .raw v'∧E9 E sz v' ys L'):=by
 unfold B2
 intro vs w g LF hvv hI
 obtain⟨us,R₁,q1,q2,q3,q4⟩:=hv.open hI
 have hbl: ∀ (A B:List Res),Al A=Al B→Al (A++LF)=Al (B++LF):=fun A B h=>by
  simp only[Al,CB]at h ⊢;rw[h]
 have k0:=key us R₁ q2 (q1.one hfl)
 unfold B2 at k0
 refine(k0 vs w g LF hvv q3).mono ?_
 rintro e w' ⟨v',x',g',L',rfl,k2,k3,k4,k5,v2,rfl,k6⟩
 obtain⟨R2,z1,z2,z3⟩:=E9.close (xs:=ys) hys hsz k6 (hT _ _ (q1.mono k4.le)) k3
 refine⟨v',.raw v2,g',R2,rfl,k2,z2,hbl _ _ q4 ▸ k4,fun b hb hlt=>?_,v2,rfl,z1⟩
 rw[hbl _ _ z3]at hb
 rw[←hbl _ _ q4]
 exact k5 b hb hlt
theorem B2.frozenR {P:Program} {f:FuncId} {args:List PV} {E sz:Nat} {xs:List (List PV)} {R:List Res} (hm:xs.length≤maxN∧xs.length*sz≤maxN) (h:B2 P f args R (fun r L'=> ∃ v,r= .raw v∧E9 E sz v xs L')):B2 P f args R (fun r L'=>r= .slice xs .ro∧L'= []):=by
 unfold B2 at h ⊢
 intro vs w g LF hv hi
 refine(h vs w g LF hv hi).mono ?_
 rintro e w' ⟨v,x,g',L',h1,h2,h3,h4,h5,v0,rfl,hrow⟩
 obtain⟨g2,k1,k2,k3,k4⟩:=E9.freeze h3 hrow hm
 refine⟨v,_,g2,[],h1,?_,k1,h4.trans h5 k2,h5.trans h4.size k3,rfl,rfl⟩
 rw[h2.raw_inv];exact k4
theorem Vt {α:Type} (f:α→List PV) (sz:Nat) (hsz:sz≤1000) (m:List α) (h:m.length≤1000000):(m.map f).length≤maxN∧(m.map f).length*sz≤maxN:=by
 have h1:maxN=140737488355328:=rfl
 rw[AR]
 have:=Nat.mul_le_mul h hsz
 omega
end Go.Q
namespace Go.Proofs
open Go Go.Q
attribute [local irreducible] EG AY B2 FZ
theorem mv: ∀ i z,Tryz.prog.info? 78=some i→i.zero=some z→ ∀ x∈z.cells,x.oneCell'=true:=by
 have h:(Tryz.prog.info? 78).map (fun i=>(i.zero.getD undef).cells.all (·.oneCell'))=some true:=by kernel_rfl
 intro i z hi hz x hx
 rw[hi]at h
 simp only[FG,hz,Option.getD_some,Fo,EA]at h
 exact h x hx
theorem Ui (v:Value) (n:Nat) (us:List Value) (R:List Res) (hv:IZ 78 2 v n us R) (i:Nat) (hi:i < n) (hn:n≤1000) (h1u: ∀ x∈us,x.oneCell'=true):
  B2 Tryz.prog 93 [.raw v,.raw (.int .i64 (i:Int)),.raw (.int .i64 ((i:Int)+1))] R (fun x L'=> ∃ v',x= .raw v'∧IZ 78 2 v' (n - 1) (us.take (i*2)++us.drop ((i+1)*2)) L'):=by
 refine Bw Tryz.func93 rfl Tryz.ntmps93 (rs:= [.tmp 6]) rfl rfl fun hb LF=>?_
 have hul:=hv.len
 have e1:(i:Int)+1=((i+1:Nat):Int):=by omega
 rw[e1]
 cases hv with
 |nil o ho=>omega
 |row hlc hs hu hc=>
 rename_i r c cur
 have hc':cur.toList.take us.length=us:=by rw[hul];exact hc
 have hcs:cur.toList.length=c*2:=by simpa using hs
 have hdl:(us.drop ((i+1)*2)).length=(n - (i+1))*2:=by rw[Ao];omega
 have hncz:n*2≤c*2:=Au _ hlc
 refine wf ?_
 refine FS rfl ?_
 refine wf ?_
 refine jH (b:=some ⟨r,0,none⟩) (i:=i) (j:=i+1) (m:=n) rfl rfl rfl rfl (by omega) (by omega) hlc fun u=>?_
 refine wf ?_
 refine A1 (fun h=>?_) (fun h=>?_)
 ·omega
 refine wf ?_
 refine FS rfl ?_
 refine wn ?_
 refine BZ 6 ?_ ?_
 ·decide+kernel
 refine wf ?_
 refine EC 0 i rfl (by omega) (by omega) (by omega) hlc (fun _ e=>by cases e) (fun _=>rfl) (fun o e=>by cases e;exact⟨_,rfl⟩) (fun e=>by cases e) ?_
 refine wf ?_
 refine cg (i:=i+1) rfl rfl (by omega) hlc fun o2 ho2=>?_
 refine wf ?_
 refine cw (r:=r) (cur:=cur) (us.drop ((i+1)*2)) (fun c=>c::LF) rfl rfl (.refl _) (fun c=> .refl _) hdl (fun x hx=>h1u x (Di hx)) (by omega) hs (fun j hj=>by
  have hj':=hj
  rw[hdl]at hj'
  rw[ho2 (by rcases BB (i+1) n with h|h;exact h;rw[show n - (i+1)=0 by omega]at hj';omega)]
  have:=Fk hc' ((i+1)*2) j hj
  simpa using this) ?_
 refine wf ?_
 refine FS rfl ?_
 refine wf ?_
 have hsp:(CA cur.toList (i*2) (us.drop ((i+1)*2))).length=c*2:=by
  rw[E7 (by rw[hcs,hdl];omega),hcs]
 have en:(i - 0)+(n - (i+1))=n - 1:=by omega
 rw[en]
 refine EC (n - 1) n rfl (by omega) hlc (by omega) (by omega) (fun o e=>by cases e;exact⟨_,rfl⟩) (fun e=>by cases e) (fun o e=>by cases e;exact⟨_,rfl⟩) (fun e=>by cases e) ?_
 refine PF mv (r:=r) (cur:=(CA cur.toList (i*2) (us.drop ((i+1)*2))).toArray) (fun c=>c::LF) rfl (by omega) (by rw[BH,hsp];omega) (.refl _) (fun c=> .refl _) fun zs hzs=>?_
 refine AN ?_
 refine wf ?_
 have hul2:us.length=n*2:=hul
 refine⟨trivial,_,[.raw r (.cells _ 78 (0,0))],.cons (.tmp 6) .nil,.refl _,_,rfl,.row (by omega) ?_ ?_ ?_⟩
 ·rw[BH,A8,A8,AV,Ao,hzs,show(CA cur.toList (i*2) (us.drop ((i+1)*2))).toArray.toList=CA cur.toList (i*2) (us.drop ((i+1)*2)) from rfl,hsp]
  omega
 ·rw[A8,AV,Ao];omega
 ·have e3:=U3 (cur:=cur.toList) (us:=us) (zs:= []) (a:=i*2) (b:=(i+1)*2) (n:=(n - 1)*2) hc' (by omega) (by omega) (by omega) (by omega)
  rw[B6,B6]at e3
  rw[show(CA cur.toList (i*2) (us.drop ((i+1)*2))).toArray.toList=CA cur.toList (i*2) (us.drop ((i+1)*2)) from rfl,AJ,show 0+(n - 1)*2=(n - 1)*2 by omega]
  rw[E1 (by rw[AV,hsp];omega)]
  exact e3
theorem Xe (v:Value) (l:List Brn) (R:List Res) (hv:E9 78 2 v (l.map eBrn) R) (i:Nat) (hi:i < l.length) (hn:l.length≤1000):
  B2 Tryz.prog 93 [.raw v,.raw (.int .i64 (i:Int)),.raw (.int .i64 ((i:Int)+1))] R (fun x L'=> ∃ v',x= .raw v'∧E9 78 2 v' ((l.eraseIdx i).map eBrn) L'):=by
 have hls: ∀ (m:List Brn),∀ e∈m.map eBrn,e.length=2:=fun m e he=>by obtain⟨a,_,rfl⟩:=AU.1 he;simp
 obtain⟨f1,_⟩:=JM (f:=eBrn) (sz:=2) l i (by omega)
 obtain⟨_,f2⟩:=JM (f:=eBrn) (sz:=2) l (i+1) (by omega)
 refine Rj (T:=fun us=>us.take (i*2)++us.drop ((i+1)*2)) (n':=l.length - 1) hv (by rw[AR,JV hi]) (hls _) (fun c hc=>by
  obtain⟨e,he,hce⟩:=Hd.1 hc
  obtain⟨a,_,rfl⟩:=AU.1 he
  exact(inferInstance:Gw eBrn).out a c hce) (fun g us h=>?_) fun us R₁ h1 h2=>?_
 ·rw[gl,Az,C8,←f1,←f2]
  exact(h.take _).append (h.drop _)
 ·rw[AR]at h1
  exact Ui v l.length us R₁ h1 i hi hn h2
theorem bg (v:Value) (l:List Brn) (R:List Res) (hv:E9 78 2 v (l.map eBrn) R) (i:Nat) (hi:i < l.length) (hn:l.length≤1000):
  B2 Tryz.prog 93 [.raw v,.raw (.int .i64 (i:Int)),.raw (.int .i64 ((i:Int)+1))] R (fun x L'=>x= .slice ((l.eraseIdx i).map eBrn) .ro∧L'= []):=B2.frozenR (Vt eBrn 2 (by decide) _ (by rw[JV hi];omega)) (Xe v l R hv i hi hn)
theorem mo: ∀ i z,Tryz.prog.info? 80=some i→i.zero=some z→ ∀ x∈z.cells,x.oneCell'=true:=by
 have h:(Tryz.prog.info? 80).map (fun i=>(i.zero.getD undef).cells.all (·.oneCell'))=some true:=by kernel_rfl
 intro i z hi hz x hx
 rw[hi]at h
 simp only[FG,hz,Option.getD_some,Fo,EA]at h
 exact h x hx
theorem Uh (v:Value) (n:Nat) (us:List Value) (R:List Res) (hv:IZ 80 3 v n us R) (i:Nat) (hi:i < n) (hn:n≤1000) (h1u: ∀ x∈us,x.oneCell'=true):
  B2 Tryz.prog 91 [.raw v,.raw (.int .i64 (i:Int)),.raw (.int .i64 ((i:Int)+1))] R (fun x L'=> ∃ v',x= .raw v'∧IZ 80 3 v' (n - 1) (us.take (i*3)++us.drop ((i+1)*3)) L'):=by
 refine Bw Tryz.func91 rfl Tryz.ntmps91 (rs:= [.tmp 6]) rfl rfl fun hb LF=>?_
 have hul:=hv.len
 have e1:(i:Int)+1=((i+1:Nat):Int):=by omega
 rw[e1]
 cases hv with
 |nil o ho=>omega
 |row hlc hs hu hc=>
 rename_i r c cur
 have hc':cur.toList.take us.length=us:=by rw[hul];exact hc
 have hcs:cur.toList.length=c*3:=by simpa using hs
 have hdl:(us.drop ((i+1)*3)).length=(n - (i+1))*3:=by rw[Ao];omega
 have hncz:n*3≤c*3:=Au _ hlc
 refine wf ?_
 refine FS rfl ?_
 refine wf ?_
 refine jH (b:=some ⟨r,0,none⟩) (i:=i) (j:=i+1) (m:=n) rfl rfl rfl rfl (by omega) (by omega) hlc fun u=>?_
 refine wf ?_
 refine A1 (fun h=>?_) (fun h=>?_)
 ·omega
 refine wf ?_
 refine FS rfl ?_
 refine wn ?_
 refine BZ 6 ?_ ?_
 ·decide+kernel
 refine wf ?_
 refine EC 0 i rfl (by omega) (by omega) (by omega) hlc (fun _ e=>by cases e) (fun _=>rfl) (fun o e=>by cases e;exact⟨_,rfl⟩) (fun e=>by cases e) ?_
 refine wf ?_
 refine cg (i:=i+1) rfl rfl (by omega) hlc fun o2 ho2=>?_
 refine wf ?_
 refine cw (r:=r) (cur:=cur) (us.drop ((i+1)*3)) (fun c=>c::LF) rfl rfl (.refl _) (fun c=> .refl _) hdl (fun x hx=>h1u x (Di hx)) (by omega) hs (fun j hj=>by
  have hj':=hj
  rw[hdl]at hj'
  rw[ho2 (by rcases BB (i+1) n with h|h;exact h;rw[show n - (i+1)=0 by omega]at hj';omega)]
  have:=Fk hc' ((i+1)*3) j hj
  simpa using this) ?_
 refine wf ?_
 refine FS rfl ?_
 refine wf ?_
 have hsp:(CA cur.toList (i*3) (us.drop ((i+1)*3))).length=c*3:=by
  rw[E7 (by rw[hcs,hdl];omega),hcs]
 have en:(i - 0)+(n - (i+1))=n - 1:=by omega
 rw[en]
 refine EC (n - 1) n rfl (by omega) hlc (by omega) (by omega) (fun o e=>by cases e;exact⟨_,rfl⟩) (fun e=>by cases e) (fun o e=>by cases e;exact⟨_,rfl⟩) (fun e=>by cases e) ?_
 refine PF mo (r:=r) (cur:=(CA cur.toList (i*3) (us.drop ((i+1)*3))).toArray) (fun c=>c::LF) rfl (by omega) (by rw[BH,hsp];omega) (.refl _) (fun c=> .refl _) fun zs hzs=>?_
 refine AN ?_
 refine wf ?_
 have hul2:us.length=n*3:=hul
 refine⟨trivial,_,[.raw r (.cells _ 80 (0,0))],.cons (.tmp 6) .nil,.refl _,_,rfl,.row (by omega) ?_ ?_ ?_⟩
 ·rw[BH,A8,A8,AV,Ao,hzs,show(CA cur.toList (i*3) (us.drop ((i+1)*3))).toArray.toList=CA cur.toList (i*3) (us.drop ((i+1)*3)) from rfl,hsp]
  omega
 ·rw[A8,AV,Ao];omega
 ·have e3:=U3 (cur:=cur.toList) (us:=us) (zs:= []) (a:=i*3) (b:=(i+1)*3) (n:=(n - 1)*3) hc' (by omega) (by omega) (by omega) (by omega)
  rw[B6,B6]at e3
  rw[show(CA cur.toList (i*3) (us.drop ((i+1)*3))).toArray.toList=CA cur.toList (i*3) (us.drop ((i+1)*3)) from rfl,AJ,show 0+(n - 1)*3=(n - 1)*3 by omega]
  rw[E1 (by rw[AV,hsp];omega)]
  exact e3
theorem Xd (v:Value) (l:List Tgg) (R:List Res) (hv:E9 80 3 v (l.map eTgg) R) (i:Nat) (hi:i < l.length) (hn:l.length≤1000):
  B2 Tryz.prog 91 [.raw v,.raw (.int .i64 (i:Int)),.raw (.int .i64 ((i:Int)+1))] R (fun x L'=> ∃ v',x= .raw v'∧E9 80 3 v' ((l.eraseIdx i).map eTgg) L'):=by
 have hls: ∀ (m:List Tgg),∀ e∈m.map eTgg,e.length=3:=fun m e he=>by obtain⟨a,_,rfl⟩:=AU.1 he;simp
 obtain⟨f1,_⟩:=JM (f:=eTgg) (sz:=3) l i (by omega)
 obtain⟨_,f2⟩:=JM (f:=eTgg) (sz:=3) l (i+1) (by omega)
 refine Rj (T:=fun us=>us.take (i*3)++us.drop ((i+1)*3)) (n':=l.length - 1) hv (by rw[AR,JV hi]) (hls _) (fun c hc=>by
  obtain⟨e,he,hce⟩:=Hd.1 hc
  obtain⟨a,_,rfl⟩:=AU.1 he
  exact(inferInstance:Gw eTgg).out a c hce) (fun g us h=>?_) fun us R₁ h1 h2=>?_
 ·rw[gl,Az,C8,←f1,←f2]
  exact(h.take _).append (h.drop _)
 ·rw[AR]at h1
  exact Uh v l.length us R₁ h1 i hi hn h2
theorem bc (v:Value) (l:List Tgg) (R:List Res) (hv:E9 80 3 v (l.map eTgg) R) (i:Nat) (hi:i < l.length) (hn:l.length≤1000):
  B2 Tryz.prog 91 [.raw v,.raw (.int .i64 (i:Int)),.raw (.int .i64 ((i:Int)+1))] R (fun x L'=>x= .slice ((l.eraseIdx i).map eTgg) .ro∧L'= []):=B2.frozenR (Vt eTgg 3 (by decide) _ (by rw[JV hi];omega)) (Xd v l R hv i hi hn)
def tc (l:List Dig):List PV:= [.slice (l.map eDig) .ro]
instance :Kz tc 1:=⟨fun _=>rfl⟩
instance (l:List Dig) (t:CW):Fx (.slice (l.map eDig) t) tc l:=⟨.ro _ _⟩
theorem ka (n:Nat) (hn:n≤1000000) (v:Value) (hv:v= .slice none 0 0):B2 Tryz.prog 137 [.raw v,.raw (.int .i64 (n:Int))] [] (fun r L'=> ∃ v,r= .raw v∧E9 45 32 v [] L'):=by
 refine Bw Tryz.func137 rfl Tryz.ntmps137 (rs:= [.tmp 4]) rfl rfl fun hb LF=>?_
 rw[BK]
 refine wf ?_
 refine So (a:=none) (n:=0) (c:=0) (by show PV.raw v=_;rw[hv]) ?_
 refine wf ?_
 refine FS (by show PV.raw v=PV.raw (.slice none 0 0);rw[hv]) ?_
 refine wf ?_
 refine A1 (fun h=>?_) (fun h=>?_)
 ·refine wf ?_
  refine So (a:=none) (n:=0) (c:=0) (by show PV.raw v=_;rw[hv]) ?_
  refine wf ?_
  refine jF (by show PV.raw v=_;rw[hv]) rfl ?_
  refine wf ?_
  refine nW (m:=n) (by kernel_rfl) rfl (by show PV.raw _=PV.raw _;congr 2) (by omega) (by omega) (by omega) fun r nc zs hnc hzl=>?_
  refine wf ?_
  refine FS (by show PV.raw v=PV.raw (.slice none 0 0);rw[hv]) ?_
  refine wf ?_
  refine EC 0 0 rfl (by omega) (by omega) (by omega) hnc (fun _ e=>by cases e) (fun _=>rfl) (fun o e=>by cases e;exact⟨_,rfl⟩) (fun e=>by cases e) ?_
  refine wo ?_
  refine AN ?_
  refine aj (r:=r) (cur:=zs.toArray) ?_
  refine wf ?_
  exact⟨trivial,_,_,.cons (.tmp 4) .nil,.refl _,_,rfl,.row rfl (by omega) (by simp) (by simpa using hzl)⟩
 ·refine wf ?_
  exact⟨trivial,_,[],.cons (.tmp 4) .nil,.refl _,_,rfl,by rw[hv];exact .nil none (by simp)⟩
theorem Qw {L:List (List Dig)} {k:Nat} (hk:k < L.length):(L.take (k+1)).flatten=(L.take k).flatten++L[k]:=by
 rw[A6 hk,C8,CD,N1,B6]
theorem WX (L:List (List Dig)) (k:Nat):(L.take k).flatten.length≤L.flatten.length:=by
 have:L.flatten=(L.take k).flatten++(L.drop k).flatten:=by rw[←C8,C4]
 rw[this,A8];omega
theorem bh (L:List (List Dig)) (t:CW) (hl:L.flatten.length≤1000000):Bl Tryz.prog 76 [.slice (L.map tc) t] (.slice (L.flatten.map eDig) .ro):=⟨B2.frozenR (Vt eDig 32 (by decide) _ hl) (by
 refine Bw Tryz.func76 rfl Tryz.ntmps76 (rs:= [.tmp 2]) rfl rfl fun hb LF=>?_
 rw[BK]
 have hll:L.length≤140737488355328:=(hb (.slice (L.map tc) t) (by simp)).slice_map
 have hle:=WX L
 refine wf ?_
 refine AW (σ:=Nat × Nat) (fun k=>k.1≤L.length∧k.2=(L.take k.1).flatten.length) (fun k=>L.length - k.1) (fun k=> [(0,.slice (L.map tc) t),(3,.raw (.int .i64 (k.2:Int))),(9,.slice (L.map tc) t),(10,.raw (.int .i64 L.length)),(11,.raw (.int .i64 k.1))]) (fun _=>LF) (0,0) ⟨by simp,by simp⟩ ⟨rfl,rfl,rfl,rfl,rfl⟩ (.refl _) ?_
 rintro⟨k,n⟩ ⟨hk,hn⟩
 dsimp only at hk hn ⊢
 refine wf ?_
 refine A1 (fun hc=>?_) (fun hc=>?_)
 ·have hlt:k < L.length:=by omega
  have e2:=congrArg List.length (Qw hlt)
  rw[A8,←hn]at e2
  have e3:=hle (k+1)
  refine wf ?_
  refine⟨(k+1,n+L[k].length),⟨by dsimp only;omega,by dsimp only;omega⟩,by dsimp only;omega,⟨rfl,?_,rfl,rfl,rfl⟩,.refl _⟩
  dsimp only
  show PV.raw _=PV.raw _
  congr 2
 have hn1:n=L.flatten.length:=by rw[hn,AA (by omega)]
 clear hk hc hn
 subst hn1
 refine wf ?_
 refine Bo (xs:= [.const (Value.slice none 0 0),.tmp 23]) [] LF (f:=137) (cs:= []) (Bx _) rfl rfl (.refl _) _ (ka L.flatten.length hl _ rfl) fun r L' ⟨v,e1,hv⟩=>?_
 subst e1
 refine wf ?_
 refine wf ?_
 refine AW (σ:=Nat × Value × List Res) (fun k=>k.1≤L.length∧E9 45 32 k.2.1 ((L.take k.1).flatten.map eDig) k.2.2) (fun k=>L.length - k.1) (fun k=> [(6,.raw k.2.1),(25,.slice (L.map tc) t),(26,.raw (.int .i64 L.length)),(27,.raw (.int .i64 k.1))]) (fun k=>k.2.2++LF) (0,v,L') ⟨by simp,by simpa using hv⟩ ⟨rfl,rfl,rfl,rfl⟩ (.refl _) ?_
 clear hv
 rintro⟨k,v,R⟩ ⟨hk,hv⟩
 dsimp only at hk hv ⊢
 refine wf ?_
 refine A1 (fun hc=>?_) (fun hc=>?_)
 ·have hlt:k < L.length:=by omega
  have e2:=congrArg List.length (Qw hlt)
  rw[A8]at e2
  have e3:=hle (k+1)
  refine wf ?_
  refine R4 (f:=eDig) (m:=L[k]) (R:=R) (LF:=LF) (fun R'=>R'++LF) rfl rfl hv (.refl _) (fun R'=> .refl _) (by simp only[AR];omega) (by simp only[AR];omega) fun v2 R2 hv2=>?_
  rw[←Az,←Qw hlt]at hv2
  refine wf ?_
  refine wf ?_
  exact⟨(k+1,v2,R2),⟨by dsimp only;omega,hv2⟩,by dsimp only;omega,⟨rfl,rfl,rfl,rfl⟩,.refl _⟩
 ·rw[AA (by omega)]at hv
  refine wf ?_
  exact⟨trivial,_,R,.cons (.tmp 2) .nil,.refl _,v,rfl,hv⟩)⟩
end Go.Proofs
