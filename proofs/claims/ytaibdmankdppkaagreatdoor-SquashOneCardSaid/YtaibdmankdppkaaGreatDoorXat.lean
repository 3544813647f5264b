/- Plain laws: one patch squashed, one patch split into a single part. -/
import Derived.Test.YtaibdmankdppkaaGreatDoorXas
set_option linter.unusedSimpArgs false
set_option linter.unusedVariables false
namespace Go.Proofs
open Go Go.Q Go.Sort
theorem Yi {a:Atm}: ∀ {cs:List Chg} {own:List Atm},a∈cs.foldl (fun own c=>own++DZ c own.length) own→a∈own∨ ∃ c∈cs,∃ n:Int,a∈DZ c n
 | [],_,h=> .inl h
 |c::cs,own,h=>by
  rcases Yi (cs:=cs) h with h|⟨c',hc,n,h⟩
  ·rcases Ai.1 h with h|h
   ·exact .inl h
   ·exact .inr ⟨c,AF,_,h⟩
  ·exact .inr ⟨c',AI _ hc,n,h⟩
theorem eo {a:Atm} {c:Chg} {n:Int} (h:a∈DZ c n) (hk:a.kind≠7):a.file.patch=Dig.zero∨a.file=c.file:=by
 unfold DZ at h
 repeat' split at h
 all_goals simp only[Ag,Ai,AO]at h
 ·subst h;exact .inl rfl
 ·subst h;exact .inr rfl
 ·subst h;exact .inr rfl
 ·subst h;exact .inr rfl
 ·subst h;exact .inr rfl
 ·subst h;exact absurd rfl hk
 ·rcases h with ⟨_,_,rfl⟩|⟨_,_,rfl⟩<;>exact .inr rfl
theorem j0 (d:Dig) (a:Atm):(QH d a).kind=a.kind∧(QH d a).file=if a.kind≠7 then Dw a.file d else a.file:=by
 unfold QH aI Mi Np Nq LH
 dsimp only
 by_cases h7:a.kind=7
 ·simp[h7]
 by_cases h2:a.kind=2
 ·simp[h2]
 by_cases h6:a.kind=6
 ·simp[h6]
 simp[h7,h2,h6]
theorem Bc.atom_file {s:List Sto} (v:Bc s) {x:Sto} (hx:x∈s) {y:Ident} (hy:y.patch∈Ax x.patch) {a:Atm} (ha:HT s y=some a) (hk:a.kind≠7) (hn:0≤a.file.n):a.file.patch≠x.id:=by
 unfold HT at ha
 split at ha
 ·cases ha
 have hm:=List.mem_of_getElem? ha
 obtain⟨z,hz,e⟩:=AO.1 (v.close.2 x hx _ hy)
 have r1:=v.rank hx hy
 rw[←e]at hm r1
 unfold Ht Iq at hm
 rw[v.getS hz,Br,if_neg (by simp[(v.id z hz).1]),(v.id z hz).2]at hm
 obtain⟨a0,h0,rfl⟩:=AO.1 hm
 obtain⟨k1,k2⟩:=j0 z.id a0
 rw[k1]at hk
 rw[k2,if_pos hk]at hn ⊢
 have hp:=Gl (IM (v.id z hz).1).1
 rw[hp.made]at h0
 rcases Yi h0 with h0|⟨c,hc,n,h0⟩
 ·cases h0
 unfold Dw at hn ⊢
 intro ex
 split at ex
 ·dsimp only at ex
  rw[ex]at r1;omega
 ·rename_i hw
  rw[if_neg hw]at hn
  have hne:a0.file.patch≠Dig.zero:=fun k=>hw ⟨k,hn⟩
  rcases eo h0 hk with h1|h1
  ·exact hne h1
  ·have:=Hz (v.id z hz).1 hc (y:=c.file) (by simp[IL]) (by rw[←h1];simp[EH,hne])
   rw[←h1,ex]at this
   have:=v.rank hz this
   omega
theorem Rm {o:Option Atm} {f:Atm→Bool} (h:EG o f=0): ∃ a,o=some a∧f a=true:=by
 have hs:=Jb h
 obtain⟨a,rfl⟩:=Eb.1 hs
 refine⟨a,rfl,?_⟩
 unfold EG at h
 rw[if_neg (by simp)]at h
 cases hf:f a with
 |true=>rfl
 |false=>
  rw[Br,if_pos hf]at h
  exact absurd h (by decide)
theorem Bc.end_any {s:List Sto} (v:Bc s) {x:Sto} (hx:x∈s) {y f:Ident} (hy:EH y=true→y.patch∈Ax x.patch) (h:GL s y f x.id=0) (d:Dig):GL s y f d=0:=by
 unfold GL at h ⊢
 by_cases k:EH y=false∨y=f
 ·rw[if_pos k]
 rw[if_neg k]at h ⊢
 by_cases ho:0≤f.n∧f.patch=Dig.zero
 ·exfalso
  obtain⟨a,ha,hf⟩:=Rm h
  unfold Im FA at hf
  rw[if_pos ho]at hf
  simp only[BJ,AB]at hf
  have hyo:EH y=true:=by
   cases h':EH y with
   |true=>rfl
   |false=>exact absurd (.inl h') k
  exact v.atom_file hx (hy hyo) ha (by rw[hf.1];decide) (by rw[hf.2];exact ho.1) (by rw[hf.2])
 ·have e: ∀ e:Dig,FA f e=f:=fun e=>by unfold FA;rw[if_neg ho]
  rw[e]at h ⊢
  exact h
theorem Bc.over_any {s:List Sto} (v:Bc s) {x:Sto} (hx:x∈s) {c:Chg} {y:Ident} (hy:EH y=true→y.patch∈Ax x.patch) (h:Ky s c x.id y=0) (d:Dig):Ky s c d y=0:=by
 unfold Ky at h ⊢
 by_cases k:EH y=false
 ·rw[if_pos k]
 rw[if_neg k]at h ⊢
 have hyo:EH y=true:=by simpa using k
 obtain⟨a,ha,hf⟩:=Rm h
 unfold EG
 rw[ha,if_neg (by simp),Br]
 have:GK c.kind (FA c.file d) a=true:=by
  unfold GK at hf ⊢
  simp only[UA,BJ,AB]at hf ⊢
  rcases hf with hf|⟨h1,h2⟩
  ·exact .inl hf
  by_cases h0:QB c.kind=0
  ·exact .inl h0
  refine .inr ⟨h1,?_⟩
  unfold FA at h2 ⊢
  by_cases ho:0≤c.file.n∧c.file.patch=Dig.zero
  ·exfalso
   rw[if_pos ho]at h2
   refine v.atom_file hx (hy hyo) ha ?_ (by rw[h2];exact ho.1) (by rw[h2])
   rw[h1]
   unfold QB at h0 ⊢
   split
   ·decide
   ·rename_i h7;exact h7
  ·rw[if_neg ho]at h2 ⊢;exact h2
 rw[if_neg (by simp[this])]
theorem Bc.refs_any {s:List Sto} (v:Bc s) {x:Sto} (hx:x∈s) (d:Dig):GF s x.patch d=0:=by
 refine Db fun i hi=>?_
 have hc:=AJ hi
 have h:=Cc (v.refs x hx) _ hc
 have hy: ∀ y∈IL x.patch.changes[i],EH y=true→y.patch∈Ax x.patch:=fun y hy ho=>Hz (v.id x hx).1 hc hy ho
 generalize x.patch.changes[i]=c at h hy
 unfold KU at h ⊢
 split at h
 ·rename_i h0;exact absurd h h0
 rename_i hF
 split at h
 ·rename_i h0;exact absurd h h0
 rename_i hP
 split at h
 ·rename_i h0;exact absurd h h0
 rename_i hA
 split at h
 ·rename_i h0;exact absurd h h0
 rename_i hB
 have hA:=v.end_any hx (hy _ (by simp[IL])) (CY.1 hA) d
 have hB:=v.end_any hx (hy _ (by simp[IL])) (CY.1 hB) d
 have hO:=Cc h
 rw[if_neg hF,if_neg hP,if_neg (by simp[hA]),if_neg (by simp[hB])]
 exact Db fun j hj=>v.over_any hx (hy _ (by simp[IL])) (hO _ (AJ hj)) d
def Ew (p:Pat) (m:Mta) (deps:List Dig):Pat:=⟨m.author,m.message,m.time,deps,p.changes⟩
theorem YC (p:Pat):(IB p).2=0∨(IB p).2=4:=by
 unfold IB
 split
 ·exact .inr rfl
 ·exact .inl rfl
theorem mc (p:Pat):(EW p).2=(Bo p).2∨(EW p).2=4:=by
 unfold EW CD
 by_cases h:(Bo p).2≠0
 ·rw[if_pos h,if_pos h];exact .inl rfl
 ·rw[if_neg h]
  have h:(Bo p).2=0:=by simpa using h
  rcases YC p with k|k
  ·rw[if_neg (by simp[k]),h];exact .inl rfl
  ·rw[if_pos (by simp[k])];exact .inr k
theorem fF {s:List Sto} {l:List Dig} {d:Dig} (h:d∈ids s) (hl:d∉l):getS (IR s l) d=getS s d:=by
 rw[VA]
 exact Od (Ef.2 ⟨h,BK hl⟩) s
theorem Zh {s:List Sto} (v:Bc s) {x:Sto} (hx:x∈s) {m:Mta} {deps:List Dig} (hd: ∀ d∈deps,d∈Ax x.patch) (hid:(EW (Ew x.patch m deps)).2=0): ∀ d∈Ax (Ew x.patch m deps),d∈Ax x.patch:=fun d h=>by
 have he: ∀ {p:Pat},(EW p).2=0→ ¬(CD p).2≠0:=fun {p} h h'=>by rw[EW,if_pos h']at h;exact h' h
 have e0:=he hid
 have e1:=he (v.id x hx).1
 rw[Ax,if_neg e0,JH]at h
 rcases h with h|⟨c,hc,h⟩
 ·exact hd d (((LZ deps [] .nil).2 d).1 h |>.elim (fun k=>absurd k Ah) id)
 ·rw[Ax,if_neg e1,JH]
  exact .inr ⟨c,hc,h⟩
theorem XZ {s:List Sto} (v:Bc s) {x:Sto} (hx:x∈s) {m:Mta} {deps l:List Dig} (hl: ∀ d∈l,d=x.id) (hd: ∀ d∈deps,d∈Ax x.patch) {e:Int} (h:(FJ (IR s l) (Ew x.patch m deps)).2.2=e):
  e=0∨e=4∨e=6∨e=14∨e=19∨e=(Bo (Ew x.patch m deps)).2:=by
 subst h
 unfold FJ
 by_cases h1:(EW (Ew x.patch m deps)).2≠0
 ·rw[if_pos h1]
  rcases mc (Ew x.patch m deps)with k|k
  ·exact .inr (.inr (.inr (.inr (.inr k))))
  ·exact .inr (.inl k)
 rw[if_neg h1]
 have h1:(EW (Ew x.patch m deps)).2=0:=by simpa using h1
 split
 ·split
  ·exact .inr (.inr (.inl rfl))
  ·exact .inr (.inr (.inr (.inl rfl)))
 split
 ·exact .inr (.inr (.inr (.inr (.inl rfl))))
 have hz:GF (IR s l) (Ew x.patch m deps) (EW (Ew x.patch m deps)).1=0:=by
  rw[K9 (t:=s) h1 fun d hd'=>by
   have hn:=Zh v hx hd h1 d hd'
   refine fF (v.close.2 x hx d hn) fun k=>?_
   have:=v.rank hx hn
   rw[hl d k]at this
   omega]
  exact v.refs_any hx _
 rw[if_neg (by simp[hz])]
 split
 ·exact .inr (.inl rfl)
 ·exact .inl rfl
theorem QY {t:List Sto} {x:Sto} (v:Bc (KY t x)):getS (KY t x) x.id=some x.patch:=v.getS (Kb.2 (.inl rfl))
theorem mB {s:List Sto} (v:Bc s) (hg:Ez s=false) {x:Sto} (hx:x∈s) {m:Mta} (ha:m.author.length≤60) (hm:m.message.length≤60):
  ((SA s [x.id,x.id] m).2.2=0→getS (SA s [x.id,x.id] m).1 (SA s [x.id,x.id] m).2.1=some (Ew x.patch m x.patch.deps))∧
  ((SA s [x.id,x.id] m).2.2=1∨(SA s [x.id,x.id] m).2.2=7→(SA s [x.id,x.id] m).2.2=(Bo (Ew x.patch m x.patch.deps)).2):=by
 have hl: ∀ d,d∈ [x.id,x.id]↔d=x.id:=fun d=>by simp
 have hj:=VI v hx hl m
 obtain⟨g1,_⟩:=HP hg
 refine⟨fun h=>?_,fun h=>?_⟩
 ·obtain⟨t,id,e,q⟩:=rF v (RM v hg _ m ha hm) (by omega) h
  rw[e]
  dsimp only
  have e2:=q.is
  have hv:=q.val
  rw[e2,hj]at hv
  rw[e2,hj]
  exact QY hv
 ·have hdeps: ∀ d∈x.patch.deps,d∈Ax x.patch:=fun d hd=>by
   have hxe: ¬(CD x.patch).2≠0:=fun h=>by have:=(v.id x hx).1;rw[EW,if_pos h]at this;exact h this
   rw[Ax,if_neg hxe,JH]
   exact .inl ((LZ _ [] .nil).2 d |>.2 (.inr hd))
  have key: ∀ e,(SA s [x.id,x.id] m).2.2=e→e=1∨e=7→e=(Bo (Ew x.patch m x.patch.deps)).2:=fun e he h=>by
   unfold SA at he
   rw[if_neg (by
    have:x.id∈ids s:=AO.2 ⟨x,hx,rfl⟩
    simp[DM,this]),if_neg (by simp[oH v hx hl])]at he
   split at he
   ·dsimp only at he;omega
   rw[hj]at he
   rcases XZ v hx (fun d hd=>(hl d).1 hd) hdeps he with k|k|k|k|k|k
   all_goals first|exact k|omega
  exact key _ rfl h
def J5 (n:Nat):List Int:=(List.range n).map fun i:Nat=>(i:Int)
theorem VB {n:Nat} (h:n≠0):FO n [] [J5 n]=true:=by
 unfold FO FO
 rw[BJ,BJ]
 refine⟨⟨?_,?_⟩,?_⟩
 ·refine BT.2 fun i hi=>?_
  have hi:i < n:=by simpa [J5]using BW.1 hi
  have e: ∀ j,j < n→(J5 n).getD j 0=(j:Int):=fun j hj=>by simp[J5,List.getD,hj]
  unfold Pd
  rw[e i hi]
  simp only[AG,CJ,J0,A8,B9]
  refine⟨⟨⟨by omega,by omega⟩,fun hm=>?_⟩,?_⟩
  ·obtain⟨j,hj,e2⟩:=Ad.1 hm
   simp only[J5,AZ,AR,FF]at hj
   simp[J5]at e2
   omega
  ·by_cases h0:0 < i
   ·rw[e (i - 1) (by omega)];exact .inr (by omega)
   ·exact .inl h0
 ·have:J5 n≠ []:=fun e=>by
   have:=congrArg List.length e
   simp[J5]at this;exact h this
  exact BK this
 ·simp[J5]
theorem Yf (n:Nat):EZ [J5 n]= [List.range n]:=by
 unfold EZ J5
 simp only[Aq,CG,CK]
 congr 1
 conv=>rhs;rw[←XR (List.range n)]
 exact C6 fun i _=>by simp
theorem Wh {n c:Nat} (h:c < n):Jn [List.range n] c=0:=by
 unfold Jn
 rw[H4]
 have:decide (c∈List.range n)=true:=by simp[h]
 rw[this];rfl
theorem fU (cs:List Chg):JM [List.range cs.length] cs=false:=by
 unfold JM
 refine Bf.2 fun i hi=>?_
 have hi:=BW.1 hi
 rw[Hj]
 refine Bf.2 fun y _=>?_
 rw[Wh hi,Wh (Mu fun e=>by rw[e]at hi;exact absurd hi (Dv _))]
 simp
theorem gb {cs:List Chg} {c:Nat} (h:c < cs.length):S8 [List.range cs.length] cs c=DT cs c:=by
 have hp:KG [List.range cs.length] cs.length:=by
  have:=Kz (VB (n:=cs.length) (by omega))
  rwa [show([J5 cs.length].map fun l=>l.map Int.toNat)= [List.range cs.length] from Yf _]at this
 rw[OI hp (k:=0) (by simp) (a:=List.range c) (b:=(List.range cs.length).drop (c+1)) (c:=c)]
 ·unfold DT
  congr 1
  refine DY (by simp;omega) fun i h1 h2=>?_
  simp only[AR,FF]at h1
  simp[List.getD,show i < cs.length by omega]
 ·rw[BM]
  have e1:List.range c=(List.range cs.length).take c:=by
   rw[List.take_range,Cy (by omega)]
  have e2:(List.range cs.length)[c]'(by simpa using h)=c:=by simp
  conv=>lhs;rw[←C7 c (List.range cs.length),CP (by simpa using h)]
  rw[e1,e2]
theorem Uz {s:List Sto} (v:Bc s) {x:Sto} (hx:x∈s) (m:Mta):Ia x [List.range x.patch.changes.length] [] (List.range x.patch.changes.length) m=Ew x.patch m (Ax x.patch):=by
 have hp:=Gl (IM (v.id x hx).1).1
 unfold Ia Ew
 congr 1
 ·refine(Fw _).1.ext (Ga x.patch) fun d=>?_
  rw[(Fw _).2,BU]
 ·refine DY (by simp) fun i h1 h2=>?_
  have e:x.patch.changes.getD i Chg.zero=x.patch.changes[i]:=by simp[List.getD,h2]
  rw[BQ,Pk,e]
  have hu:=v.uses hx (AJ h2)
  refine VE (hu.mono fun y hy=>?_) rfl (QP (hp.fields i h2))
  unfold fS
  by_cases ho:EY y=true
  ·rw[if_pos ho]
   obtain⟨o1,o2⟩:=FZ.1 ho
   have hlt:=hy.1.2 o1
   rw[hp.cnt]at hlt
   obtain⟨q1,_,_⟩:=Nu (Ak _) o2 hlt
   rw[Wh q1,gb q1]
   simp only[Af,if_true]
   cases y
   dsimp only at o1 ⊢
   subst o1
   congr 1
   omega
  ·rw[if_neg ho]
theorem Zp {s:List Sto} (v:Bc s) (hg:Ez s=false) {x:Sto} (hx:x∈s) {m:Mta} (ha:m.author.length≤60) (hm:m.message.length≤60):
  ((Ha s x.id [J5 x.patch.changes.length] [m]).2.2=0→ ∃ d,(Ha s x.id [J5 x.patch.changes.length] [m]).2.1= [d]∧getS (Ha s x.id [J5 x.patch.changes.length] [m]).1 d=some (Ew x.patch m (Ax x.patch)))∧
  (Ha s x.id [J5 x.patch.changes.length] [m]).2.2≠9:=by
 have hchk:=(IM (v.id x hx).1).1
 have hne:x.patch.changes.length≠0:=fun e=>by
  unfold Bo at hchk
  split at hchk
  ·simp at hchk
  split at hchk
  ·simp at hchk
  split at hchk
  ·simp at hchk
  split at hchk
  ·rename_i h;exact h hchk
  rw[if_pos (by omega)]at hchk
  simp at hchk
 have hes:Ha s x.id [J5 x.patch.changes.length] [m]=if KZ s [x.id]=true then([],[],19)else SB x [List.range x.patch.changes.length] [(List.range x.patch.changes.length,m)] (IR s [x.id]) []:=by
  unfold Ha
  rw[v.getS hx]
  dsimp only
  rw[VB hne,Yf,fU]
  simp
 rw[hes]
 by_cases hn:KZ s [x.id]=true
 ·rw[if_pos hn]
  exact⟨fun h=>absurd h (by decide),by decide⟩
 rw[if_neg hn]
 unfold SB SB
 dsimp only
 rw[Uz v hx m]
 by_cases he:(FJ (IR s [x.id]) (Ew x.patch m (Ax x.patch))).2.2=0
 ·rw[if_neg (by simp[he])]
  refine⟨fun _=>⟨_,rfl,?_⟩,show(0:Int)≠9 by decide⟩
  have hn:KZ s [x.id]=false:=by simpa using hn
  have hb:E5 (Ew x.patch m (Ax x.patch))=false:=by
   obtain⟨g1,g2⟩:=HP hg
   rw[←Uz v hx m]
   have n1:(Ax x.patch).length≤s.length:=by
    have:=FR (Ga x.patch).nodup (fun d hd=>v.close.2 x hx d hd)
    unfold ids at this
    rwa [AR]at this
   exact V7 (g2 x hx).1 (g2 x hx).2 (by rw[BU];omega) List.nodup_range (fun c hc=>BW.1 hc) ha hm
  have a0:=Sb v hx hn
  have hlen:(IR s [x.id]).length≤s.length:=DP _ _
  obtain⟨g1,_⟩:=HP hg
  obtain⟨s1,s2,s3⟩:=a0.step hb (by omega) he
  dsimp only
  have hv:=s1.val
  rw[s3]at hv ⊢
  exact QY hv
 ·rw[if_pos he]
  refine⟨fun h=>absurd h he,fun h9=>?_⟩
  dsimp only at h9
  rcases XZ v hx (fun d hd=>by simpa using hd) (fun d hd=>hd) h9 with k|k|k|k|k|k
  ·omega
  ·omega
  ·omega
  ·omega
  ·omega
  ·unfold Bo at k
   have hdz:H9 (Ax x.patch)≠9:=by
    unfold H9
    split
    ·decide
    intro h
    have asc:=Ga x.patch
    have: ∀ i (hi:i < (List.range (Ax x.patch).length).length),Fj (Ax x.patch) (List.range (Ax x.patch).length)[i]=0∨Fj (Ax x.patch) (List.range (Ax x.patch).length)[i]=1:=fun i hi=>by
     rw[Pk]
     have hi:i < (Ax x.patch).length:=by simpa using hi
     unfold Fj
     split
     ·exact .inr rfl
     ·rw[if_neg]
      ·exact .inl rfl
      ·rintro⟨h0,h1⟩
       have h0:0 < i:=by omega
       have:=B7.1 asc (i - 1) i (by omega) hi (by omega)
       have e1:(Ax x.patch).getD i Dig.zero=(Ax x.patch)[i]:=by simp[List.getD,hi]
       have e2:(Ax x.patch).getD (i - 1) Dig.zero=(Ax x.patch)[i - 1]:=by simp[List.getD,show i - 1 < (Ax x.patch).length by omega]
       rw[e1,e2]at h1
       have this:Ea (Ax x.patch)[i - 1] (Ax x.patch)[i] < 0:=this
       omega
    have any: ∀ (l:List Nat),(∀ i∈l,Fj (Ax x.patch) i=0∨Fj (Ax x.patch) i=1)→Av (Fj (Ax x.patch)) l=0∨Av (Fj (Ax x.patch)) l=1:=fun l=>by
     induction l with
     |nil=>intro _;exact .inl rfl
     |cons i l ih=>
      intro hl
      unfold Av
      rcases hl i AF with h0|h0
      ·rw[if_pos h0]
       exact ih fun j hj=>hl j (AI _ hj)
      ·rw[if_neg (by omega)]
       exact .inr h0
    rcases any _ (fun i hi=>by
     obtain⟨j,hj,rfl⟩:=Ad.1 hi
     exact this j hj)with h'|h'<;>omega
   have hch:(Cv x.patch.changes []).2=0:=by
    unfold Bo at hchk
    split at hchk
    ·simp at hchk
    split at hchk
    ·simp at hchk
    split at hchk
    ·simp at hchk
    split at hchk
    ·rename_i h;exact absurd hchk h
    split at hchk
    ·simp at hchk
    split at hchk
    ·simp at hchk
    exact hchk
   unfold Ew at k
   dsimp only at k
   split at k
   ·dsimp only at k;omega
   split at k
   ·dsimp only at k;omega
   split at k
   ·dsimp only at k;omega
   split at k
   ·dsimp only at k;exact hdz k.symm
   split at k
   ·dsimp only at k;omega
   split at k
   ·dsimp only at k;omega
   omega
end Go.Proofs
namespace Go.Proofs
open Go Go.Q
attribute [local irreducible] ER AQ H0 BG Fu
def bG (c:Chg):Nat:=if c.kind=5 then 2*c.lines.length+1 else 1
theorem tC {c:Chg} (h1:1≤c.kind) (h7:c.kind≤7):Kr c=bG c:=by
 unfold Kr bG DZ
 by_cases k1:c.kind=1
 ·simp[k1]
 by_cases k2:c.kind=2
 ·simp[k2]
 by_cases k3:c.kind=3
 ·simp[k3]
 by_cases k4:c.kind=4
 ·simp[k4]
 by_cases k6:c.kind=6
 ·simp[k6]
 by_cases k7:c.kind=7
 ·simp[k7]
 have k5:c.kind=5:=by omega
 simp[k5]
 omega
theorem Bc.kinds {s:List Sto} (v:Bc s) {x:Sto} (hx:x∈s): ∀ c∈x.patch.changes,1≤c.kind∧c.kind≤7:=fun c hc=>by
 have hp:=Gl (IM (v.id x hx).1).1
 obtain⟨i,hi,rfl⟩:=Ad.1 hc
 have:=hp.fields i hi
 unfold Bz at this
 split at this
 ·omega
 ·rename_i h
  omega
end Go.Proofs
