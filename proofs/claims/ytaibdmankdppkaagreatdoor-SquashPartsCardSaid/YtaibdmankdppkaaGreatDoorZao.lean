/- Plain laws: a valid set with one more patch is a valid set. -/
import Derived.Test.YtaibdmankdppkaaGreatDoorZan
import Derived.Test.YtaibdmankdppkaaGreatDoorZal
import Derived.Test.YtaibdmankdppkaaGreatDoorZam
import Derived.Test.YtaibdmankdppkaaGreatDoorZad
set_option linter.unusedSimpArgs false
set_option linter.unusedVariables false
set_option maxHeartbeats 8000000
namespace Go.Proofs
open Go Go.Q
theorem Rp (s:List Sto) (x:Sto):(MF s x).Perm (x::s):=by
 unfold MF
 refine Bb.trans ?_
 rw[jE]
theorem IK {s:List Sto} {x y:Sto}:y∈MF s x↔y=x∨y∈s:=by
 rw[(Rp s x).mem_iff,AH]
theorem Hh {s:List Sto} {x:Sto} {d:Dig}:d∈ids (MF s x)↔d=x.id∨d∈ids s:=by
 unfold ids
 rw[((Rp s x).map _).mem_iff,Ar,AH]
theorem Tt (s:List Sto) (x:Sto):(MF s x).length=s.length+1:=by
 rw[(Rp s x).length_eq,AL]
theorem ef {x:Sto}: ∀ {s:List Sto},HB (ids s)→x.id∉ids s→ ∀ y∈s.dropWhile (fun y=>decide (Ec y.id x.id < 0)),Dig.lt x.id y.id
 | [],_,_,y,hy=>by cases hy
 |z::s,ha,hx,y,hy=>by
  have ha':HB (ids s):=(Bq.1 ha).2
  by_cases hz:Ec z.id x.id < 0
  ·rw[List.dropWhile_cons_of_pos (by simpa using hz)]at hy
   exact ef ha' (fun h=>hx (AJ _ h)) y hy
  ·rw[List.dropWhile_cons_of_neg (by simpa using hz)]at hy
   have hzx:Dig.lt x.id z.id:=by
    rcases Dig.tri x.id z.id with h|h|h
    ·exact h
    ·exact absurd (by rw[h];exact AG) hx
    ·exact absurd h hz
   rcases AH.1 hy with rfl|hy
   ·exact hzx
   ·exact Dig.lt_trans hzx ((Bq.1 ha).1 y.id (AQ.2 ⟨y,hy,rfl⟩))
theorem dV {x:Sto}: ∀ {s:List Sto},∀ y∈s.takeWhile (fun y=>decide (Ec y.id x.id < 0)),Dig.lt y.id x.id
 | [],y,hy=>by cases hy
 |z::s,y,hy=>by
  by_cases hz:Ec z.id x.id < 0
  ·rw[List.takeWhile_cons_of_pos (by simpa using hz)]at hy
   rcases AH.1 hy with rfl|hy
   ·exact hz
   ·exact dV y hy
  ·rw[List.takeWhile_cons_of_neg (by simpa using hz)]at hy
   cases hy
theorem Z1 {s:List Sto} {x:Sto} (ha:HB (ids s)) (hx:x.id∉ids s):HB (ids (MF s x)):=by
 have e:ids (MF s x)=ids (s.takeWhile fun y=>decide (Ec y.id x.id < 0))++x.id::ids (s.dropWhile fun y=>decide (Ec y.id x.id < 0)):=by
  unfold MF ids;rw[Aq,Ar]
 have e2:ids s=ids (s.takeWhile fun y=>decide (Ec y.id x.id < 0))++ids (s.dropWhile fun y=>decide (Ec y.id x.id < 0)):=by
  unfold ids;rw[←Aq,jE]
 have hp:=ha
 rw[e2]at hp
 obtain⟨p1,p2,p3⟩:=HG.1 hp
 rw[e]
 refine HG.2 ⟨p1,Bq.2 ⟨fun d hd=>?_,p2⟩,fun a h b hb=>?_⟩
 ·obtain⟨y,hy,rfl⟩:=AQ.1 hd
  exact ef ha hx y hy
 ·rcases AH.1 hb with rfl|hb
  ·obtain⟨y,hy,rfl⟩:=AQ.1 h
   exact dV y hy
  ·exact p3 a h b hb
theorem R4: ∀ {s:List Sto},HB (ids s)→ ∀ {x:Sto},x∈s→getS s x.id=some x.patch
 | [],_,x,h=>by cases h
 |y::s,ha,x,h=>by
  by_cases e:y.id=x.id
  ·rw[getS,if_pos e]
   rcases AH.1 h with rfl|h
   ·rfl
   ·have:=(Bq.1 ha).1 x.id (AQ.2 ⟨x,h,rfl⟩)
    change Dig.lt y.id x.id at this
    rw[e]at this
    exact absurd this (Dig.lt_irrefl _)
  ·rw[getS,if_neg e]
   rcases AH.1 h with rfl|h
   ·exact absurd rfl e
   ·exact R4 (Bq.1 ha).2 h
theorem UO {s:List Sto} {d:Dig} (h:d∉ids s):getS s d=none:=by
 cases hg:getS s d with
 |none=>rfl
 |some p=>
  obtain⟨x,hx,rfl,_⟩:=Kh hg
  exact absurd (AQ.2 ⟨x,hx,rfl⟩) h
theorem Sd {s:List Sto} (ha:HB (ids s)) (d:Dig):(getS s d).isSome=decide (d∈ids s):=by
 by_cases h:d∈ids s
 ·obtain⟨x,hx,rfl⟩:=AQ.1 h
  rw[R4 ha hx];simp[h]
 ·rw[UO h];simp[h]
theorem lQ {s:List Sto} {x:Sto} (ha:HB (ids s)) (hx:x.id∉ids s) {d:Dig} (hd:d≠x.id):getS (MF s x) d=getS s d:=by
 by_cases h:d∈ids s
 ·obtain⟨y,hy,rfl⟩:=AQ.1 h
  rw[R4 ha hy,R4 (Z1 ha hx) (IK.2 (.inr hy))]
 ·rw[UO h,UO fun h'=>(Hh.1 h').elim hd h]
structure mh (s:List Sto) (x:Sto):Prop where
 id:(Ej x.patch).2=0∧(Ej x.patch).1=x.id
 new:x.id∉ids s
 needs: ∀ d∈B7 x.patch,d∈ids s
 refs:Fb s x.patch x.id=0
 great:E7 x.patch=false
theorem BP.put {s:List Sto} (v:BP s) {x:Sto} (f:mh s x) (hl:s.length < 200):BP (MF s x):=by
 have hcl: ∀ y∈MF s x,∀ d∈B7 y.patch,d∈ids (MF s x):=fun y hy d hd=>by
  rcases IK.1 hy with rfl|hy
  ·exact Hh.2 (.inr (f.needs d hd))
  ·exact Hh.2 (.inr (v.close.2 y hy d hd))
 have hasc:=Z1 v.asc f.new
 have hget: ∀ d∈ids s,Go.Proofs.getS (MF s x) d=Go.Proofs.getS s d:=fun d hd=>lQ v.asc f.new fun e=>f.new (e ▸ hd)
 refine⟨⟨⟨by rw[Tt];omega,fun y hy=>?_⟩,hcl⟩,fun y hy=>?_,hasc,?_,fun y hy=>?_⟩
 ·rcases IK.1 hy with rfl|hy
  ·exact f.great
  ·exact v.close.1.2 y hy
 ·rcases IK.1 hy with rfl|hy
  ·exact f.id
  ·exact v.id y hy
 ·have hr:SN (MF s x) (fun d=>if d=x.id then(CT s).length+1 else Qc s d):=by
   refine⟨hasc,hcl,fun y hy d hd=>?_⟩
   rcases IK.1 hy with rfl|hy
   ·have hne:d≠y.id:=fun e=>f.new (e ▸ f.needs d hd)
    simp only[if_true,if_neg hne]
    have:Qc s d≤(CT s).length:=by
     unfold Qc;exact List.idxOf_le_length
    omega
   ·have hne:d≠x.id:=fun e=>f.new (e ▸ v.close.2 y hy d hd)
    have hne2:y.id≠x.id:=fun e=>f.new (e ▸ AQ.2 ⟨y,hy,rfl⟩)
    simp only[if_neg hne,if_neg hne2]
    exact v.rank hy hd
  exact EF hr.order.symm
 ·rcases IK.1 hy with rfl|hy
  ·rw[My f.id.1 fun d hd=>hget d (f.needs d hd)]
   exact f.refs
  ·rw[My (v.id y hy).1 fun d hd=>hget d (v.close.2 y hy d hd)]
   exact v.refs y hy
theorem BP.rAdd_ok {s:List Sto} (v:BP s) {p:Pat} (hg:E7 p=false) (h:(FB s p).2.2=0):mh s ⟨(Ej p).1,p⟩∧FB s p=(MF s ⟨(Ej p).1,p⟩,(Ej p).1,0):=by
 unfold FB at h ⊢
 by_cases h1:(Ej p).2≠0
 ·rw[if_pos h1]at h;exact absurd h h1
 rw[if_neg h1]at h ⊢
 by_cases h2:(Go.Proofs.getS s (Ej p).1).isSome=true
 ·rw[if_pos h2]at h
  split at h<;>exact absurd h (by decide)
 rw[if_neg h2]at h ⊢
 by_cases h3:DI (ids s) (B7 p)=false
 ·rw[if_pos h3]at h;exact absurd h (by decide)
 rw[if_neg h3]at h ⊢
 by_cases h4:Fb s p (Ej p).1≠0
 ·rw[if_pos h4]at h;exact absurd h h4
 rw[if_neg h4]at h ⊢
 by_cases h5:400≤(s.length:Int)
 ·rw[if_pos h5]at h;exact absurd h (by decide)
 rw[if_neg h5]
 refine⟨⟨⟨by simpa using h1,rfl⟩,fun hn=>?_,fun d hd=>?_,by simpa using h4,hg⟩,rfl⟩
 ·rw[Sd v.asc]at h2
  exact h2 (BF hn)
 ·have h3:DI (ids s) (B7 p)=true:=by simpa using h3
  simpa using Bc.1 h3 d hd
attribute [local irreducible] ER AU BA Fk
instance zc:Ck Tryz.prog 170 [.slice [] .ro,.raw (.map none)]:=Ck.of (us:= [PV.slice [] .ro,.raw (.map none)].map zv) (by kernel_rfl) (by kernel_rfl)
def VG (s:List Sto) (m:Nat):List PV:= [.slice (s.map eSto) .ro,.raw (.map (some m))]
def Gl (m:Nat) (known:List (Dig × List Atm)):List Res:= [.map m (BO kDig (JJ eAtm) known)]
theorem OB (s:List Sto) (t:CC):BA Tryz.prog 75 [.slice (s.map eSto) t] [] (fun r L'=> ∃ m,r= .pt (VG s m) 0∧L'=Gl m []):=by
 refine C4 Tryz.func75 rfl Tryz.ntmps75 (rs:= [.tmp 2]) rfl rfl fun hb LF=>?_
 refine wf ?_
 refine KN fun m=>?_
 refine wf ?_
 exact⟨trivial,_,Gl m [],.cons (.tmp 2) .nil,.refl _,m,rfl,rfl⟩
theorem lR (s:List Sto) (d:Dig):(FG (fun x=>decide (x.id=d)) s < 0→getS s d=none)∧(∀ k:Nat,FG (fun x=>decide (x.id=d)) s=(k:Int)→ ∃ h:k < s.length,getS s d=some s[k].patch):=by
 have key: ∀ l:List Sto,(l.any (fun x=>decide (x.id=d))=false→getS l d=none)∧(l.any (fun x=>decide (x.id=d))=true→ ∃ h:l.findIdx (fun x=>decide (x.id=d)) < l.length,getS l d=some (l[l.findIdx fun x=>decide (x.id=d)]).patch):=fun l=>by
  induction l with
  |nil=>exact⟨fun _=>rfl,fun h=>by cases h⟩
  |cons x l ih=>
   by_cases hx:x.id=d
   ·refine⟨fun h=>by simp[hx]at h,fun _=>?_⟩
    have e:(x::l).findIdx (fun x=>decide (x.id=d))=0:=by simp[JB,hx]
    refine⟨by rw[e];simp,?_⟩
    simp only[e,BL]
    rw[getS,if_pos hx]
   ·have eg:getS (x::l) d=getS l d:=by rw[getS,if_neg hx]
    refine⟨fun h=>by rw[eg];exact ih.1 (by simpa [hx]using h),fun h=>?_⟩
    obtain⟨h1,h2⟩:=ih.2 (by simpa [hx]using h)
    have e:(x::l).findIdx (fun x=>decide (x.id=d))=l.findIdx (fun x=>decide (x.id=d))+1:=by simp[JB,hx]
    refine⟨by rw[e,AL];omega,?_⟩
    simp only[e,DM]
    rw[eg,h2]
 obtain⟨k1,k2⟩:=key s
 refine⟨fun h=>k1 ?_,fun k h=>?_⟩
 ·unfold FG at h
  by_cases ha:s.any (fun x=>decide (x.id=d))=true
  ·rw[if_pos ha]at h;omega
  ·simpa using ha
 ·unfold FG at h
  by_cases ha:s.any (fun x=>decide (x.id=d))=true
  ·rw[if_pos ha]at h
   have hk:s.findIdx (fun x=>decide (x.id=d))=k:=by omega
   obtain⟨h1,h2⟩:=k2 ha
   subst hk
   exact⟨h1,h2⟩
  ·rw[if_neg ha]at h;omega
instance yz (x:Sto) (d:Dig):C8 Tryz.prog 52 [.agg (eSto x),.pt (eDig d) 0] (.raw (.bool (decide (x.id=d)))):=⟨by
 refine Av Tryz.func52 Tryz.ntmps52 rfl (rs:= [.tmp 3]) rfl rfl fun hb LF=>?_
 refine wf ?_
 exact B1 (.refl _)⟩
instance KM (s:List Sto) (t:CC) (d:Dig):C8 Tryz.prog 17 [.slice (s.map eSto) t,.agg (eDig d)] (.tuple [.agg (Bn ((getS s d).getD Pat.zero)),.raw (.bool (getS s d).isSome)]):=⟨by
 have i1: ∀ t,C8 Tryz.prog 51 [.slice (s.map eSto) t,.clo 52 [.pt (eDig d) 0]] (.raw (.int .i64 (FG (fun x=>decide (x.id=d)) s))):=fun t=>W4 _ _ _ s t
 obtain⟨g1,g2⟩:=lR s d
 refine Av Tryz.func17 Tryz.ntmps17 rfl (rs:= [.cell 4 40,.tmp 5]) rfl rfl fun hb LF=>?_
 refine wf ?_
 refine Bx fun b4=>?_
 refine wf ?_
 refine A6 (fun h=>?_) (fun h=>?_)
 ·rw[g1 h]
  rw[CX,NV]
  refine wf ?_
  exact Jq rfl (.refl _)
 ·obtain⟨k,hk⟩: ∃ k:Nat,FG (fun x=>decide (x.id=d)) s=(k:Int):=⟨(FG (fun x=>decide (x.id=d)) s).toNat,by omega⟩
  obtain⟨hlt,hg⟩:=g2 k hk
  rw[hk,hg,dI,Bj]
  refine wf ?_
  exact Jq rfl (.refl _)⟩
def coreA (a:Atm):Atm:={ a with over:= [] }
theorem Pe: ∀ (l:List Chg) (own:List Atm),Nf own→Nf (DC l own).1
 | [],_,h=>h
 |c::l,own,h=>by
  unfold DC
  split
  ·exact fun i hi=>absurd hi (by simp)
  ·split
   ·exact fun i hi=>absurd hi (by simp)
   ·exact Pe l _ (Q8 c h)
theorem Zk (p:Pat):Nf (CA p).1:=by
 have h0:Nf ([]:List Atm):=fun i hi=>absurd hi (by simp)
 unfold CA
 repeat' split
 all_goals first|exact h0|exact Pe _ _ h0
theorem pz (d:Dig) {a:Atm} (h1:a.id.patch=Dig.zero) (h2:0≤a.id.n):coreA (fP d a)=coreA (Vs d a):=by
 have e:iE d a=N1 d a:=by
  unfold iE N1 Cq;rw[if_pos ⟨h1,h2⟩]
 rw[fP,Vs,e]
 rfl
theorem Tn (p:Pat):(Kq p).2.2=(Ej p).2:=by
 rw[XE,Ej]
 by_cases h:(CV p).2≠0
 ·rw[if_pos h]
 ·rw[if_neg h];simpa using h
theorem TD {p:Pat} (h:(Kq p).2.2=0):(Kq p).1=(CA p).1∧(CA p).2=0:=by
 unfold Kq at h ⊢
 by_cases g1:(CA p).2≠0
 ·rw[if_pos g1]at h;exact absurd h g1
 by_cases g2:65536 < ((Nk p).length:Int)
 ·rw[if_neg g1,if_pos g2]at h;exact absurd h (by decide)
 rw[if_neg g1,if_neg g2]
 exact⟨rfl,by simpa using g1⟩
theorem dA (p:Pat):(En p).1.map coreA=(JO p).1.map coreA:=by
 unfold En JO
 rw[Tn]
 by_cases h:(Ej p).2≠0
 ·rw[if_pos h,if_pos h]
 ·rw[if_neg h,if_neg h,if_neg h]
  have h3:(Kq p).2.2=0:=by rw[Tn];simpa using h
  dsimp only
  rw[(TD h3).1,CR,CR]
  refine Ca fun a ha=>?_
  obtain⟨i,hi,rfl⟩:=AY.1 ha
  have e:=Zk p i hi
  exact pz _ (by rw[e]) (by rw[e];exact Int.natCast_nonneg _)
def Jd (s:List Sto) (d:Dig):List Atm:=(En ((getS s d).getD Pat.zero)).1
def J6 (s:List Sto) (x:Ident):Option Atm:=if x.n < 0∨((Jd s x.patch).length:Int)≤x.n then none else(Jd s x.patch)[x.n.toNat]?
theorem iW (s:List Sto) (x:Ident):(J6 s x).map coreA=(Ih s x).map coreA:=by
 have e:=dA ((getS s x.patch).getD Pat.zero)
 have el:=congrArg List.length e
 rw[AR,AR]at el
 unfold J6 Ih Jd J0
 rw[el]
 by_cases h:x.n < 0∨((JO ((getS s x.patch).getD Pat.zero)).1.length:Int)≤x.n
 ·rw[if_pos h,if_pos h]
 ·rw[if_neg h,if_neg h,←EY,←EY,e]
theorem bZ {f:Atm→Bool} (hf: ∀ a,f a=f (coreA a)) {o p:Option Atm} (e:o.map coreA=p.map coreA):EU o f=EU p f:=by
 cases o with
 |none=>cases p with
  |none=>rfl
  |some b=>cases e
 |some a=>cases p with
  |none=>cases e
  |some b=>
   have e2:coreA a=coreA b:=by simpa using e
   unfold EU
   rw[Bj,Bj,hf a,hf b,e2];rfl
theorem Oo (s:List Sto) (x:Ident) {f:Atm→Bool} (hf: ∀ a,f a=f (coreA a)):EU (J6 s x) f=EU (Ih s x) f:=bZ hf (iW s x)
def Pd (c:Chg) (g:Ident) (r:Rfc):Atm→Bool:=
 if r.f=187 then vv c.kind else if r.f=189 then ov else if r.f=190 then va r.id c.file g else wj (iz c.kind) g
theorem UA {l:List Rfc} {r x:Rfc} (h:r∈Jk l x):r∈l∨r=x:=by
 unfold Jk at h
 split at h
 ·exact .inl h
 ·simpa using h
theorem Rz {α:Type} {f:α→Rfc} {r:Rfc}: ∀ {o:List α} {l:List Rfc},r∈o.foldl (fun l x=>Jk l (f x)) l→r∈l∨ ∃ x∈o,r=f x
 | [],_,h=> .inl h
 |y::o,l,h=>by
  rw[Bp]at h
  rcases Rz (o:=o) h with h|⟨x,hx,e⟩
  ·rcases UA h with h|h
   ·exact .inl h
   ·exact .inr ⟨y,by simp,h⟩
  ·exact .inr ⟨x,by simp[hx],e⟩
theorem gw (id:Dig) (c:Chg) (r:Rfc) (h:r∈Jf id c):yT Tryz.prog r (Pd c (DV id c) r):=by
 unfold Jf tV at h
 rcases Rz h with h|⟨x,_,rfl⟩
 ·unfold iu at h
  have key:r∈bW c (YA c)∨ ∃ x:Ident,r=OJ (DV id c) c x:=by
   split at h
   ·rcases Rz h with h|⟨x,_,e⟩
    ·exact .inl h
    ·exact .inr ⟨x,e⟩
   ·exact .inl h
  rcases key with h|⟨x,rfl⟩
  ·unfold bW at h
   have key:r∈YA c∨r=⟨c.parent,189,[]⟩:=by
    split at h
    ·exact UA h
    ·exact .inl h
   rcases key with h|rfl
   ·unfold YA at h
    have key:r=⟨c.file,187,[.pt (eChg c) 0]⟩:=by
     split at h
     ·rcases UA h with h|h
      ·cases h
      ·exact h
     ·cases h
    subst key
    exact⟨inferInstance,fun a=>(tD c a).out⟩
   ·exact⟨inferInstance,fun a=>(tC a).out⟩
  ·exact⟨(inferInstance:B2 Tryz.prog 190),fun a=>(tB x (DV id c) c a).out⟩
 ·exact⟨(inferInstance:B2 Tryz.prog 192),fun a=>(tA (iz c.kind) (DV id c) a).out⟩
def Hn (s:List Sto) (c:Chg) (g:Ident) (r:Rfc):Int:=EU (J6 s r.id) (Pd c g r)
def OT (s:List Sto) (id:Dig) (c:Chg):Int:=Aw (Hn s c (DV id c)) (Jf id c)
def RY (s:List Sto) (p:Pat) (id:Dig):Int:=Aw (OT s id) p.changes
theorem LV (f:Rfc→Int) (l:List Rfc) (r:Rfc):Aw f (Jk l r)=if Aw f l≠0 then Aw f l else if r.id.patch=Dig.zero then 0 else f r:=by
 unfold Jk
 by_cases h:r.id.patch=Dig.zero
 ·rw[if_pos h,if_pos h]
  by_cases h2:Aw f l=0
  ·rw[if_neg (by simp[h2]),h2]
  ·rw[if_pos h2]
 ·rw[if_neg h,if_neg h,Gx]
  have:Aw f [r]=f r:=by
   rw[Aw,Aw];split
   ·rename_i h;exact h.symm
   ·rfl
  rw[this]
theorem J4 {α:Type} (f:Rfc→Int) (h:α→Rfc): ∀ (o:List α) (l:List Rfc),Aw f (o.foldl (fun l x=>Jk l (h x)) l)=if Aw f l≠0 then Aw f l else Aw (fun x=>if(h x).id.patch=Dig.zero then 0 else f (h x)) o
 | [],l=>by
   by_cases h2:Aw f l=0
   ·simp[h2,Aw]
   ·simp[h2]
 |x::o,l=>by
  rw[Bp,J4 f h o,LV,Aw]
  generalize (if(h x).id.patch=Dig.zero then 0 else f (h x))=v
  by_cases h2:Aw f l=0<;>by_cases h3:v=0<;>simp[h2,h3]
theorem SU {c:Chg} (hf:C3 c=0):(¬(2≤c.kind∧c.kind≤6)→c.file=Ident.zero)∧(c.kind≠2→c.parent=Ident.zero)∧(¬(c.kind=5∨c.kind=6)→c.after=Ident.zero∧c.before=Ident.zero):=by
 have h2:=KK hf
 unfold Fu IG at h2
 simp only[BR,AD]at h2
 obtain⟨⟨⟨⟨⟨⟨⟨⟨⟨h1,_⟩,h3⟩,_⟩,_⟩,_⟩,h7⟩,h8⟩,_⟩,_⟩:=h2
 refine⟨fun h=>?_,fun h=>?_,fun h=>⟨?_,?_⟩⟩
 ·rwa [if_neg h]at h1
 ·rwa [if_neg h]at h3
 ·rwa [if_neg h]at h7
 ·rwa [if_neg h]at h8
theorem mA (s:List Sto) (id:Dig) {c:Chg} {own:List Atm} (hf:C3 c=0) (hr:FC c own=0):OT s id c=L7 s c id:=by
 have hk:=Jo hf
 obtain⟨z1,z2,z3⟩:=SU hf
 have hn:2≤c.kind∧c.kind≤6→0≤c.file.n:=fun h=>by
  have h1:K6 c own=0:=by
   by_cases h0:K6 c own=0
   ·exact h0
   ·rw[FC,if_pos h0]at hr;exact absurd hr h0
  rw[K6,if_pos h,JD]at h1
  by_cases h2:Dm c.file own.length=false
  ·rw[if_pos h2]at h1;omega
  ·have h2:Dm c.file own.length=true:=by simpa using h2
   unfold Dm at h2
   split at h2<;>simp at h2<;>omega
 have hg:2≤c.kind∧c.kind≤6→DV id c=Hf c.file id:=fun h=>by
  unfold DV Hf
  by_cases h1:c.file.patch=Dig.zero
  ·rw[if_pos h1,if_pos ⟨hn h,h1⟩]
  ·rw[if_neg h1,if_neg (fun h=>h1 h.2)]
 have e1:Aw (Hn s c (DV id c)) (YA c)=Ji s c:=by
  unfold YA Ji
  by_cases h:c.kind≠1∧c.kind≠7
  ·rw[if_pos h,LV,if_neg (by simp[Aw])]
   unfold FP
   by_cases h1:c.file.patch=Dig.zero
   ·rw[if_pos h1,if_neg (by simp[h1])]
   ·rw[if_neg h1,if_pos (by simp[h1]),Hn,show Pd c (DV id c) ⟨c.file,187,[.pt (eChg c) 0]⟩=vv c.kind from rfl,Oo s c.file (fun a=>rfl)]
    congr 1
    funext a
    unfold vv EL Ig
    by_cases h5:c.kind=5∨c.kind=6
    ·rcases h5 with h|h<;>simp[h]
    ·have: ¬c.kind=5∧ ¬c.kind=6:=⟨fun h=>h5 (.inl h),fun h=>h5 (.inr h)⟩
     by_cases h4:c.kind=4<;>simp[this,h4]
  ·rw[if_neg h,z1 (by omega)]
   simp[Aw,FP,Ident.zero]
 have e2: ∀ l,Aw (Hn s c (DV id c)) (bW c l)=if Aw (Hn s c (DV id c)) l≠0 then Aw (Hn s c (DV id c)) l else MC s c:=fun l=>by
  unfold bW MC
  by_cases h:c.kind=2
  ·rw[if_pos h,LV]
   unfold FP
   by_cases h1:c.parent.patch=Dig.zero
   ·rw[if_pos h1,if_neg (by simp[h1]: ¬(!decide (c.parent.patch=Dig.zero))=true)]
   ·rw[if_neg h1,if_pos (by simp[h1]:(!decide (c.parent.patch=Dig.zero))=true),Hn,show Pd c (DV id c) ⟨c.parent,189,[]⟩=ov from rfl,Oo s c.parent (fun a=>rfl)]
    rfl
  ·rw[if_neg h,z2 h,if_neg (by simp[FP,Ident.zero]: ¬FP Ident.zero=true)]
   split
   ·rfl
   ·rename_i h;simpa using h
 have e3:Ji s c=0→ ∀ l,Aw (Hn s c (DV id c)) (iu (DV id c) c l)=if Aw (Hn s c (DV id c)) l≠0 then Aw (Hn s c (DV id c)) l else if HC s c.after c.file id≠0 then HC s c.after c.file id else HC s c.before c.file id:=fun hF l=>by
  unfold iu
  by_cases h:c.kind=5∨c.kind=6
  ·have hx: ∀ x:Ident,(if(OJ (DV id c) c x).id.patch=Dig.zero then 0 else Hn s c (DV id c) (OJ (DV id c) c x))=HC s x c.file id:=fun x=>by
    unfold HC FP
    by_cases h1:x.patch=Dig.zero
    ·rw[if_pos (show(OJ (DV id c) c x).id.patch=Dig.zero from h1),if_pos (by simp[h1])]
    ·rw[if_neg (show ¬(OJ (DV id c) c x).id.patch=Dig.zero from h1),Hn,show Pd c (DV id c) (OJ (DV id c) c x)=va x c.file (DV id c) from rfl,show(OJ (DV id c) c x).id=x from rfl,Oo s x (fun a=>rfl)]
     by_cases h2:x=c.file
     ·rw[if_pos (.inr h2)]
      subst h2
      rw[Ji,if_pos (by simp[FP,h1]),EU]at hF
      by_cases h3:(Ih s c.file).isSome=false
      ·rw[if_pos h3]at hF;omega
      ·rw[EU,if_neg h3,if_neg (by simp[va])]
     ·rw[if_neg (by simp[h1,h2]),hg (by omega)]
      congr 1
      funext a
      simp[va,Jh,h2]
   rw[if_pos h,J4,Aw,Aw,Aw,hx,hx]
   by_cases q1:HC s c.after c.file id=0
   ·rw[if_pos q1,if_neg (by simp[q1]: ¬HC s c.after c.file id≠0)]
    by_cases q2:HC s c.before c.file id=0
    ·rw[if_pos q2,q2]
    ·rw[if_neg q2]
   ·rw[if_neg q1,if_pos q1]
  ·obtain⟨za,zb⟩:=z3 h
   have q:HC s Ident.zero c.file id=0:=by rw[HC,if_pos (.inl (by simp[FP,Ident.zero]))]
   rw[if_neg h,za,zb,q]
   split
   ·rfl
   ·rename_i h;simpa using h
 have e4: ∀ l,Aw (Hn s c (DV id c)) (tV (DV id c) c l c.over)=if Aw (Hn s c (DV id c)) l≠0 then Aw (Hn s c (DV id c)) l else Aw (O8 s c id) c.over:=fun l=>by
  unfold tV
  rw[J4]
  congr 1
  refine GZ fun x hx=>?_
  have h15:c.kind≠1∧c.kind≠5:=⟨fun h=>(by rw[Jn hf (.inl h)]at hx;simp at hx),fun h=>(by rw[Jn hf (.inr h)]at hx;simp at hx)⟩
  unfold O8 FP
  by_cases h1:x.patch=Dig.zero
  ·rw[if_pos (show(NA (DV id c) c x).id.patch=Dig.zero from h1),if_pos (by simp[h1])]
  ·rw[if_neg (show ¬(NA (DV id c) c x).id.patch=Dig.zero from h1),if_neg (by simp[h1]),Hn,show Pd c (DV id c) (NA (DV id c) c x)=wj (iz c.kind) (DV id c) from rfl,show(NA (DV id c) c x).id=x from rfl,Oo s x (fun a=>rfl)]
   congr 1
   funext a
   unfold wj Hd Td iz
   by_cases h7:c.kind=7
   ·simp[h7]
   ·have:c.kind=2∨c.kind=3∨c.kind=4∨c.kind=6:=by omega
    rw[if_pos this,if_neg h7,hg (by omega)]
 unfold OT Jf L7
 rw[e4]
 by_cases q0:Ji s c=0
 ·rw[e3 q0,e2,e1,q0]
  by_cases q1:MC s c=0
  ·by_cases q2:HC s c.after c.file id=0
   ·by_cases q3:HC s c.before c.file id=0
    ·simp[q1,q2,q3]
    ·simp[q1,q2,q3]
   ·simp[q1,q2]
  ·simp[q1]
 ·have k2:Aw (Hn s c (DV id c)) (bW c (YA c))=Ji s c:=by rw[e2,e1,if_pos q0]
  have k3:Aw (Hn s c (DV id c)) (iu (DV id c) c (bW c (YA c)))=Ji s c:=by
   unfold iu
   split
   ·rw[J4,k2,if_pos q0]
   ·exact k2
  rw[k3,if_pos q0,if_pos q0]
theorem Um: ∀ {l:List Chg} {own:List Atm},(DC l own).2=0→ ∀ c∈l,C3 c=0∧ ∃ own,FC c own=0
 | [],_,_,c,h=>by cases h
 |x::l,own,h,c,hc=>by
  unfold DC at h
  by_cases h1:C3 x≠0
  ·rw[if_pos h1]at h;exact absurd h h1
  by_cases h2:FC x own≠0
  ·rw[if_neg h1,if_pos h2]at h;exact absurd h h2
  rw[if_neg h1,if_neg h2]at h
  rcases AH.1 hc with rfl|hc
  ·exact⟨by simpa using h1,own,by simpa using h2⟩
  ·exact Um h c hc
theorem VJ {p:Pat} (h:(CA p).2=0): ∀ c∈p.changes,C3 c=0∧ ∃ own,FC c own=0:=by
 have e:JG p=0:=by
  by_cases h0:JG p=0
  ·exact h0
  ·rw[Iq,if_pos h0]at h;exact absurd h h0
 rw[N4 e]at h
 exact Um h
theorem YH (s:List Sto) {p:Pat} (id:Dig) (h:(Ej p).2=0):RY s p id=Fb s p id:=by
 have h2:=(TD (p:=p) (by rw[Tn];exact h)).2
 refine GZ fun c hc=>?_
 obtain⟨hf,own,hr⟩:=VJ h2 c hc
 exact mA s id hf hr
end Go.Proofs
namespace Go.Proofs
open Go Go.Q
theorem QU {n:Nat} (h:n < 256):(UInt8.ofNat n).toNat=n:=by
 rw[UInt8.toNat_ofNat'];omega
theorem N3 (n:Nat): ∀ c∈IH n,48≤c.toNat∧c.toNat≤57:=by
 induction n using Nat.strongRecOn with
 |_ n ih=>
  by_cases h:n < 10
  ·rw[IZ h]
   intro c hc
   rw[Ah.1 hc,QU (by omega)]
   omega
  ·rw[MB h]
   intro c hc
   rcases Aj.1 hc with hc|hc
   ·exact ih (n / 10) (by omega) c hc
   ·rw[Ah.1 hc,QU (by omega)]
    omega
theorem dt (n:Nat):IH n≠ []:=by
 by_cases h:n < 10
 ·rw[IZ h];simp
 ·rw[MB h];simp
def qy (l:Str):Nat:=l.foldl (fun a c=>10*a+(c.toNat - 48)) 0
theorem TN (n:Nat):qy (IH n)=n:=by
 induction n using Nat.strongRecOn with
 |_ n ih=>
  by_cases h:n < 10
  ·rw[IZ h]
   show 10*0+((UInt8.ofNat (48+n)).toNat - 48)=n
   rw[QU (by omega)];omega
  ·rw[MB h]
   have e:=ih (n / 10) (by omega)
   unfold qy at e ⊢
   rw[BX,e]
   show 10*(n / 10)+((UInt8.ofNat (48+n % 10)).toNat - 48)=n
   rw[QU (by omega)];omega
theorem Tp {n m:Nat} (h:IH n=IH m):n=m:=by rw[←TN n,h,TN]
theorem Vt (n:Nat) (l:Str) (r:Str): ¬45::l=IH n++r:=fun h=>by
 cases hd:IH n with
 |nil=>exact dt n hd
 |cons c t=>
  rw[hd,B3]at h
  injection h with h1 _
  have:=N3 n c (by rw[hd];simp)
  rw[←h1]at this
  exact absurd this.1 (by decide)
theorem fj {n m:Int} (h:JH n=JH m):n=m:=by
 unfold JH at h
 by_cases h1:n < 0
 ·by_cases h2:m < 0
  ·rw[if_pos h1,if_pos h2]at h
   injection h with _ h
   have:=Tp h
   omega
  ·rw[if_pos h1,if_neg h2]at h
   exact absurd (by rw[h,BW]) (Vt m.toNat _ [])
 ·by_cases h2:m < 0
  ·rw[if_neg h1,if_pos h2]at h
   exact absurd (by rw[←h,BW]) (Vt n.toNat (IH (-m).toNat) [])
  ·rw[if_neg h1,if_neg h2]at h
   have:=Tp h
   omega
theorem dX: ∀ {a b r s:Str},(∀ c∈a,c.toNat≤57)→(∀ c∈b,c.toNat≤57)→a++58::r=b++58::s→a=b∧r=s
 | [],[],r,s,_,_,h=>⟨rfl,by simpa using h⟩
 | [],y::b,r,s,_,hb,h=>by
   rw[BB,B3]at h
   injection h with h1 _
   have:=hb y (by simp)
   rw[←h1]at this
   exact absurd this (by decide)
 |x::a,[],r,s,ha,_,h=>by
  rw[BB,B3]at h
  injection h with h1 _
  have:=ha x (by simp)
  rw[h1]at this
  exact absurd this (by decide)
 |x::a,y::b,r,s,ha,hb,h=>by
  rw[B3,B3]at h
  injection h with h1 h2
  obtain⟨e1,e2⟩:=dX (fun c hc=>ha c (AJ _ hc)) (fun c hc=>hb c (AJ _ hc)) h2
  exact⟨by rw[h1,e1],e2⟩
theorem P7: ∀ {d:Nat} {x:Sx},PE d x→ ∃ c t,Dq d x=c::t∧c≠41∧(c=40↔x.isList=true)
 |0,_,h=>h.elim
 |d+1,x,_=>by
  cases hl:x.isList with
  |true=>exact⟨40,_,by rw[Dq,if_pos hl],by decide,by simp⟩
  |false=>
   have e:Dq (d+1) x=IH x.atom.length++58::x.atom:=by rw[Dq,if_neg (by simp[hl])]
   cases hd:IH x.atom.length with
   |nil=>exact absurd hd (dt _)
   |cons c t=>
    have hc:=N3 x.atom.length c (by rw[hd];simp)
    refine⟨c,t++58::x.atom,by rw[e,hd];rfl,?_,?_⟩
    ·rintro rfl;exact absurd hc.1 (by decide)
    ·constructor
     ·rintro rfl;exact absurd hc.1 (by decide)
     ·intro h';cases h'
theorem aG {d:Nat} (ih: ∀ {x y:Sx} {r s:Str},PE d x→PE d y→Dq d x++r=Dq d y++s→x=y∧r=s): ∀ {l m:List Sx} {r s:Str},(∀ y∈l,PE d y)→(∀ y∈m,PE d y)→l.flatMap (Dq d)++41::r=m.flatMap (Dq d)++41::s→l=m∧r=s
 | [],[],r,s,_,_,h=>⟨rfl,by simpa using h⟩
 | [],y::m,r,s,_,hm,h=>by
   obtain⟨c,t,e,h41,_⟩:=P7 (hm y (by simp))
   rw[List.flatMap_nil,BB,DR,e,B3,B3]at h
   injection h with h1 _
   exact absurd h1.symm h41
 |x::l,[],r,s,hl,_,h=>by
  obtain⟨c,t,e,h41,_⟩:=P7 (hl x (by simp))
  rw[List.flatMap_nil,BB,DR,e,B3,B3]at h
  injection h with h1 _
  exact absurd h1 h41
 |x::l,y::m,r,s,hl,hm,h=>by
  rw[DR,DR,AV,AV]at h
  obtain⟨e1,e2⟩:=ih (hl x (by simp)) (hm y (by simp)) h
  obtain⟨e3,e4⟩:=aG ih (fun z hz=>hl z (AJ _ hz)) (fun z hz=>hm z (AJ _ hz)) e2
  exact⟨by rw[e1,e3],e4⟩
theorem aF: ∀ (d:Nat) {x y:Sx} {r s:Str},PE d x→PE d y→Dq d x++r=Dq d y++s→x=y∧r=s
 |0,_,_,_,_,h,_,_=>h.elim
 |d+1,x,y,r,s,hx,hy,h=>by
  obtain⟨c1,t1,e1,_,k1⟩:=P7 hx
  obtain⟨c2,t2,e2,_,k2⟩:=P7 hy
  have hc:c1=c2:=by
   rw[e1,e2,B3,B3]at h
   injection h
  subst hc
  have hkind:x.isList=y.isList:=by
   rw[Iu];exact k1.symm.trans k2
  clear k1 k2 e1 e2
  obtain⟨b1,a1,l1⟩:=x
  obtain⟨b2,a2,l2⟩:=y
  change b1=b2 at hkind
  subst hkind
  rcases hx with ⟨h1,h2,h3⟩|⟨h1,h2,h3⟩
  ·rcases hy with ⟨_,g2,_⟩|⟨g1,_⟩
   ·change b1=false at h1
    change l1= []at h2
    change l2= []at g2
    subst h1 h2 g2
    have q1:Dq (d+1) (.mk false a1 [])=IH a1.length++58::a1:=rfl
    have q2:Dq (d+1) (.mk false a2 [])=IH a2.length++58::a2:=rfl
    rw[q1,q2,AV,AV,B3,B3]at h
    obtain⟨e1,e2⟩:=dX (fun c hc=>(N3 _ c hc).2) (fun c hc=>(N3 _ c hc).2) h
    obtain⟨e3,e4⟩:=List.append_inj e2 (Tp e1)
    exact⟨by rw[e3],e4⟩
   ·change b1=false at h1
    change b1=true at g1
    rw[h1]at g1;cases g1
  ·rcases hy with ⟨g1,_⟩|⟨_,g2,g3⟩
   ·change b1=true at h1
    change b1=false at g1
    rw[h1]at g1;cases g1
   ·change b1=true at h1
    change a1= []at h2
    change a2= []at g2
    subst h1 h2 g2
    have q1:Dq (d+1) (.mk true [] l1)=40::(l1.flatMap (Dq d)++ [41]):=rfl
    have q2:Dq (d+1) (.mk true [] l2)=40::(l2.flatMap (Dq d)++ [41]):=rfl
    rw[q1,q2,B3,B3,AV,AV]at h
    injection h with _ h
    obtain⟨e1,e2⟩:=aG (fun hx hy h=>aF d hx hy h) h3 g3 h
    exact⟨congrArg (Sx.mk true []) e1,e2⟩
theorem Kg {α β:Type} {f:α→β}: ∀ {l m:List α},(∀ x∈l,∀ y∈m,f x=f y→x=y)→l.map f=m.map f→l=m
 | [],[],_,_=>rfl
 | [],y::m,_,h=>by simp at h
 |x::l,[],_,h=>by simp at h
 |x::l,y::m,hf,h=>by
  rw[Ar,Ar]at h
  injection h with h1 h2
  rw[hf x (by simp) y (by simp) h1,Kg (fun a ha b hb=>hf a (AJ _ ha) b (AJ _ hb)) h2]
theorem Hb {a b:Str} (h:Cf a=Cf b):a=b:=congrArg Sx.atom h
theorem KP {l m:List Sx} (h:E6 l=E6 m):l=m:=congrArg Sx.list h
theorem Yl {a b:Dig} (h:KE a=KE b):a=b:=by
 unfold KE at h
 by_cases h1:a=Dig.zero
 ·by_cases h2:b=Dig.zero
  ·rw[h1,h2]
  ·rw[if_pos h1,if_neg h2]at h
   have:=congrArg List.length (Hb h)
   rw[b.len]at this;simp at this
 ·by_cases h2:b=Dig.zero
  ·rw[if_neg h1,if_pos h2]at h
   have:=congrArg List.length (Hb h)
   rw[a.len]at this;simp at this
  ·rw[if_neg h1,if_neg h2]at h
   exact Dig.ext (Hb h)
def Sb (n:Int):Prop:= -1099511627776≤n∧n≤1099511627776
theorem O0 {n m:Int} (hn:Sb n) (hm:Sb m) (h:GJ n=GJ m):n=m:=by
 unfold Sb at hn hm
 unfold GJ Rl at h
 rw[if_neg (by omega),if_neg (by omega)]at h
 exact fj (Hb h)
theorem HP {x y:Ident} (hx:Sb x.n) (hy:Sb y.n) (h:GI x=GI y):x=y:=by
 have h:=KP h
 injection h with h1 h2
 injection h2 with h2 _
 obtain⟨p,n⟩:=x
 obtain⟨q,m⟩:=y
 have e1:=Yl h1
 have e2:=O0 hx hy h2
 subst e1 e2;rfl
structure qN (c:Chg):Prop where
 fields:C3 c=0
 file:Sb c.file.n
 parent:Sb c.parent.n
 after:Sb c.after.n
 before:Sb c.before.n
 over: ∀ x∈c.over,Sb x.n
 mode:c.kind=3→Sb c.mode
 type:c.kind=1→Sb c.type
theorem Lu {l m:List Ident} (hl: ∀ x∈l,Sb x.n) (hm: ∀ x∈m,Sb x.n) (h:JF l=JF m):l=m:=
 Kg (fun x hx y hy e=>HP (hl x hx) (hm y hy) e) (KP h)
theorem Vk (c:Chg):(Kr c).list=([GJ c.kind]++K5 c++Ie c)++Ky c:=rfl
theorem kI {c e:Chg} (hc:qN c) (he:qN e) (h:Kr c=Kr e):c=e:=by
 have k1:=Jo hc.fields
 have k2:=Jo he.fields
 have z1:=KK hc.fields
 have z2:=KK he.fields
 have h:=congrArg Sx.list h
 rw[Vk,Vk]at h
 have hk:c.kind=e.kind:=by
  have h1:=congrArg List.head? h
  simp only[Mb,B3,List.head?_cons,JA]at h1
  exact O0 (by unfold Sb;omega) (by unfold Sb;omega) h1
 obtain⟨ck,cfile,ctype,cparent,cname,cmode,cdata,cafter,cbefore,clines,cover⟩:=c
 obtain⟨ek,efile,etype,eparent,ename,emode,edata,eafter,ebefore,elines,eover⟩:=e
 change ck=ek at hk
 subst hk
 obtain⟨_,c1,c2,c3,c4,c5,c6,c7⟩:=hc
 obtain⟨_,e1,e2,e3,e4,e5,e6,e7⟩:=he
 simp only at k1 c1 c2 c3 c4 c5 c6 c7 e1 e2 e3 e4 e5 e6 e7
 unfold Fu IG at z1 z2
 simp only[BR,AD]at z1 z2
 obtain⟨⟨⟨⟨⟨⟨⟨⟨⟨p1,p2⟩,p3⟩,p4⟩,p5⟩,p6⟩,p7⟩,p8⟩,p9⟩,p10⟩:=z1
 obtain⟨⟨⟨⟨⟨⟨⟨⟨⟨q1,q2⟩,q3⟩,q4⟩,q5⟩,q6⟩,q7⟩,q8⟩,q9⟩,q10⟩:=z2
 have n9: ∀ {α:Type} {l:List α},(l.length:Int)=0→l= []:=fun h=>BN (by omega)
 have p9:=n9 p9
 have p10:=n9 p10
 have q9:=n9 q9
 have q10:=n9 q10
 clear n9
 have hlin: ∀ {l m:List Str},E6 (l.map Cf)=E6 (m.map Cf)→l=m:=fun h=>Kg (fun _ _ _ _ e=>Hb e) (KP h)
 rcases kinds k1 with rfl|rfl|rfl|rfl|rfl|rfl|rfl<;>
  simp (decide:=true) only[K5,Ie,Ky,if_true,if_false,ite_true,ite_false,BB,BW,Mb,B3,Oc,true_and,and_true,and_self,true_or,or_true,or_self,ne_eq,not_true_eq_false,not_false_eq_true]at h p1 p2 p3 p4 p5 p6 p7 p8 p9 p10 q1 q2 q3 q4 q5 q6 q7 q8 q9 q10
 ·have:=O0 (c7 rfl) (e7 rfl) h
  simp only[*]
 ·obtain⟨h1,h2,h3,h4⟩:=h
  have:=HP c1 e1 h1
  have:=HP c2 e2 h2
  have:=Hb h3
  have:=Lu c5 e5 h4
  simp only[*]
 ·obtain⟨h1,h2,h3⟩:=h
  have:=HP c1 e1 h1
  have:=O0 (c6 rfl) (e6 rfl) h2
  have:=Lu c5 e5 h3
  simp only[*]
 ·obtain⟨h1,h2,h3⟩:=h
  have:=HP c1 e1 h1
  have:=Hb h2
  have:=Lu c5 e5 h3
  simp only[*]
 ·obtain⟨h1,h2,h3,h4⟩:=h
  have:=HP c1 e1 h1
  have:=HP c3 e3 h2
  have:=HP c4 e4 h3
  have:=hlin h4
  simp only[*]
 ·obtain⟨h1,h2,h3,h4⟩:=h
  have:=HP c1 e1 h1
  have:=HP c3 e3 h2
  have:=HP c4 e4 h3
  have:=Lu c5 e5 h4
  simp only[*]
 ·have:=Lu c5 e5 h
  simp only[*]
theorem Sg (N:Nat): ∀ {l:List Chg} {own:List Atm},(DC l own).2=0→own.length+4001*l.length≤N→ ∀ c∈l,C3 c=0∧ ∃ own:List Atm,own.length≤N∧FC c own=0
 | [],_,_,_,c,h=>by cases h
 |x::l,own,h,hN,c,hc=>by
  unfold DC at h
  by_cases h1:C3 x≠0
  ·rw[if_pos h1]at h;exact absurd h h1
  by_cases h2:FC x own≠0
  ·rw[if_neg h1,if_pos h2]at h;exact absurd h h2
  rw[if_neg h1,if_neg h2]at h
  have h1:C3 x=0:=by simpa using h1
  rw[AL]at hN
  rcases AH.1 hc with rfl|hc
  ·exact⟨h1,own,by omega,by simpa using h2⟩
  ·refine Sg N h ?_ c hc
   have:=Ly x own.length
   have:=JZ h1
   rw[AA]
   omega
theorem Qh {x:Ident} {own:List Atm} {b:Bool} (hN:own.length≤1000000000) (h:JD x own b=0):Sb x.n:=by
 unfold JD at h
 by_cases h1:Dm x own.length=false
 ·rw[if_pos h1]at h;exact absurd h (by decide)
 ·have h1:Dm x own.length=true:=by simpa using h1
  unfold Dm at h1
  unfold Sb
  split at h1<;>simp at h1<;>omega
theorem Qx:Sb Ident.zero.n:=by unfold Sb;exact⟨by decide,by decide⟩
theorem qM {c:Chg} {own:List Atm} (hN:own.length≤1000000000) (hf:C3 c=0) (hr:FC c own=0):qN c:=by
 obtain⟨z1,z2,z3⟩:=SU hf
 have r1:K6 c own=0:=by
  by_cases h0:K6 c own=0
  ·exact h0
  ·rw[FC,if_pos h0]at hr;exact absurd hr h0
 rw[FC,if_neg (by simp[r1])]at hr
 have r2:Lx c own=0:=by
  by_cases h0:Lx c own=0
  ·exact h0
  ·rw[if_pos h0]at hr;exact absurd hr h0
 rw[if_neg (by simp[r2])]at hr
 have r3:IX c own=0:=by
  by_cases h0:IX c own=0
  ·exact h0
  ·rw[if_pos h0]at hr;exact absurd hr h0
 rw[if_neg (by simp[r3])]at hr
 have r4:Aw (O3 c own) c.over=0:=by
  by_cases h0:Aw (O3 c own) c.over=0
  ·exact h0
  ·rw[if_pos h0]at hr;exact absurd hr h0
 have hE:(c.kind=5∨c.kind=6)→ ∀ x∈ [c.after,c.before],Sb x.n:=fun h x hx=>by
  rw[IX,if_pos (by unfold Ig;simpa using h)]at r3
  exact Qh hN (Cx r3 x hx)
 refine⟨hf,?_,?_,?_,?_,fun x hx=>Qh hN (Cx r4 x hx),fun h=>?_,fun h=>?_⟩
 ·by_cases h:2≤c.kind∧c.kind≤6
  ·rw[K6,if_pos h]at r1;exact Qh hN r1
  ·rw[z1 h];exact Qx
 ·by_cases h:c.kind=2
  ·by_cases h2:c.parent=rRoot
   ·rw[h2];unfold Sb;exact⟨by decide,by decide⟩
   ·rw[Lx,if_pos ⟨h,h2⟩]at r2;exact Qh hN r2
  ·rw[z2 h];exact Qx
 ·by_cases h:c.kind=5∨c.kind=6
  ·exact hE h _ (by simp)
  ·rw[(z3 h).1];exact Qx
 ·by_cases h:c.kind=5∨c.kind=6
  ·exact hE h _ (by simp)
  ·rw[(z3 h).2];exact Qx
 ·unfold Sb
  unfold C3 at hf
  have: ¬(c.mode < 0∨511 < c.mode):=fun hm=>by
   rw[if_neg (by omega)]at hf
   split at hf
   ·omega
   ·rw[if_neg (by omega),if_neg (by omega),if_pos ⟨h,hm⟩]at hf;omega
  omega
 ·unfold Sb
  unfold C3 at hf
  have: ¬(c.type < 1∨4 < c.type):=fun hm=>by
   rw[if_neg (by omega)]at hf
   split at hf
   ·omega
   ·rw[if_pos ⟨h,hm⟩]at hf;omega
  omega
theorem Uj {p:Pat} (h:(CA p).2=0):(∀ c∈p.changes,qN c)∧Sb p.time:=by
 have e:JG p=0:=by
  by_cases h0:JG p=0
  ·exact h0
  ·rw[Iq,if_pos h0]at h;exact absurd h h0
 rw[N4 e]at h
 have ht: ¬(p.time < 0∨1099511627776 < p.time)∧ ¬400 < (p.changes.length:Int):=by
  unfold JG at e
  split at e
  ·omega
  split at e
  ·omega
  split at e
  ·omega
  rename_i ht
  split at e
  ·rename_i hd;exact absurd e hd
  split at e
  ·omega
  split at e
  ·omega
  rename_i hc
  exact⟨ht,hc⟩
 refine⟨fun c hc=>?_,by unfold Sb;omega⟩
 obtain⟨hf,own,hN,hr⟩:=Sg 1600400 h (by simp;omega) c hc
 exact qM (by omega) hf hr
theorem kQ {p q:Pat} (hp:WI p) (hq:WI q) (cp:(CA p).2=0) (cq:(CA q).2=0) (h:Nk p=Nk q):p=q:=by
 obtain⟨c1,t1⟩:=Uj cp
 obtain⟨c2,t2⟩:=Uj cq
 have h1:=(aF 8 (r:= []) (s:= []) hp.ok.1 hq.ok.1 (by rw[BW,BW];exact h)).1
 have h1:=KP h1
 simp only[Oc,and_true,true_and]at h1
 obtain⟨e1,e2,e3,e4,e5⟩:=h1
 replace e1:=Hb e1
 replace e2:=Hb e2
 replace e3:=O0 t1 t2 e3
 replace e4:=Kg (fun _ _ _ _ e=>Yl e) (KP e4)
 replace e5:=Kg (fun x hx y hy e=>kI (c1 x hx) (c2 y hy) e) (KP e5)
 obtain⟨a1,a2,a3,a4,a5⟩:=p
 obtain⟨b1,b2,b3,b4,b5⟩:=q
 simp only at e1 e2 e3 e4 e5
 subst e1 e2 e3 e4 e5;rfl
attribute [local irreducible] ER AU BA Fk
section
variable {P:Program} {N:Nat} {all:Array Oper} {K:Env→List Res→Prop} {fl:List Bool} {os:List Oper} {ρ:Env} {L:List Res} {d:Nat} {ty:TypeId} {pos:String} {af:Array Edge}
theorem Nx {x:Operand} {cs:List PV} {off:Nat} (hx:ρ.ev x= .pt cs off) (k:AU P N all K fl.tail os (CU ρ d (.pt cs off)) L) (hd:Nat.blt d N=true:=by rfl):AU P N all K fl (⟨some d,.nilCheck x,ty,pos,af,none⟩::os) ρ L:=
 Bk hd (B9 fun a w g ha hi=>by
  have h1:=ha x (by simp[Op.operands])
  rw[hx]at h1
  generalize hv:a.eval x=v at h1
  cases h1 with
  |pt ff hH hv'=>
   rename_i b o
   exact⟨.pointer (some ⟨b,o+off,none⟩),by simp[execOp,hv],.pt ff hH hv'⟩) k
end
instance y6 (s:List Sto) (m:Nat):Jt (VG s m) 0 [.slice (s.map eSto) .ro]:=⟨by simp[VG]⟩
instance y5 (s:List Sto) (m:Nat):Jt (VG s m) 1 [.raw (.map (some m))]:=⟨by simp[VG]⟩
def J9 (s:List Sto) (known:List (Dig × List Atm)):Prop:= ∀ d l,CB d known=some l→l=Jd s d
theorem J9.set {s:List Sto} {known:List (Dig × List Atm)} (h:J9 s known) (d:Dig):J9 s (DD d (Jd s d) known):=fun x l e=>by
 rw[GA]at e
 split at e
 ·rename_i hx;subst hx;injection e with e;exact e.symm
 ·exact h x l e
theorem mN (s:List Sto) (hg:Gw s) (m:Nat) (known:List (Dig × List Atm)) (hk:J9 s known) (x:Ident):BA Tryz.prog 140 [.pt (VG s m) 0,.agg (eIdent x)] (Gl m known) (fun r L'=>r= .tuple [.agg (eAtm ((J6 s x).getD Atm.zero)),.raw (.bool (J6 s x).isSome)]∧ ∃ known',L'=Gl m known'∧J9 s known'):=by
 have i1:B0 (E7 ((getS s x.patch).getD Pat.zero)=false):=⟨hg.great _⟩
 refine C4 Tryz.func140 rfl Tryz.ntmps140 (rs:= [.cell 4 125,.tmp 5]) rfl rfl fun hb LF=>?_
 rw[show Gl m known++LF= .map m (BO kDig (JJ eAtm) known)::LF from rfl]
 refine wf ?_
 refine Bx fun b4=>?_
 refine wf ?_
 refine Nx rfl ?_
 refine wf ?_
 refine E3 (.swap _ _ _) ?_
 refine Cv (σ:=List (Dig × List Atm)) (fun k=>J9 s k) (fun k=> [(3,.pt (eIdent x) 0),(4,.raw (.pointer (some ⟨b4,0,none⟩))),(6,.slice ((Jd s x.patch).map eAtm) .ro)]) (fun k=> .map m (BO kDig (JJ eAtm) k):: .box b4 125 (eAtm Atm.zero)::LF) ?_ ?_
 ·refine AW (fun h=>?_) (fun h=>?_)
  ·refine wn ?_
   refine H2 [10,11] (by decide+kernel) ?_
   refine B5 0 ?_
   refine B5 1 (hq:=fun _=>by refine Nx rfl ?_;refine AE ?_;exact⟨DB _ _ _,rfl⟩) ?_
   refine B5 2 ?_
   refine B5 3 ?_
   refine B5 4 ?_
   refine B5 5 ?_
   refine B5 6 ?_
   refine B5 7 ?_
   refine B5 8 ?_
   refine B5 9 ?_
   refine Ad 2 10 ?_
   refine Bx fun b8=>?_
   refine AE ?_
   refine Ad 1 11 ?_
   refine wo ?_
   refine AE ?_
   refine Ad 0 12 ?_
   refine wo ?_
   refine AE ?_
   refine Cu (by decide+kernel) ?_
   refine Al 8 ?_
   refine wn ?_
   refine BZ 7 ?_ ?_
   ·decide+kernel
   refine wf ?_
   refine Nx rfl ?_
   refine wf ?_
   exact⟨DD x.patch (Jd s x.patch) known,hk.set _,⟨rfl,rfl,rfl⟩,.refl _⟩
  ·have h1:(CB x.patch known).isSome=true:=by simpa using h
   obtain⟨l,hl⟩:=Fl.1 h1
   have e:=hk _ _ hl
   subst e
   refine wf ?_
   refine⟨known,hk,⟨rfl,rfl,by rw[hl];rfl⟩,.refl _⟩
 intro k hkn
 refine E3 (.swap _ _ _) ?_
 refine wf ?_
 refine BT [(53,.raw (.bool (decide (x.n < 0∨((Jd s x.patch).length:Int)≤x.n)))),(3,.pt (eIdent x) 0),(4,.raw (.pointer (some ⟨b4,0,none⟩))),(6,.slice ((Jd s x.patch).map eAtm) .ro)] (.box b4 125 (eAtm Atm.zero):: .map m (BO kDig (JJ eAtm) k)::LF) ?_ ?_
 ·repeat' (first|(refine A6 (fun h=>?_) (fun h=>?_)<;>refine wf ?_)|(refine AX (fun h=>?_) (fun h=>?_)<;>refine wf ?_)|(refine AW (fun h=>?_) (fun h=>?_)<;>refine wf ?_)|(refine Ay (fun h=>?_) (fun h=>?_)<;>(have h2:=h;(try simp only[AD,A8,AI,AN]at h2);refine wf ?_)))
  all_goals (refine⟨⟨C9 (by rfl) ?_,rfl,rfl,rfl⟩,.refl _⟩;first|(simp_all;done)|grind)
 refine wf ?_
 refine A6 (fun h=>?_) (fun h=>?_)
 ·refine wf ?_
  refine⟨trivial,_,Gl m k,.cons (.cell 4 125 rfl AG (inferInstance:FA Tryz.prog 125 172).out (by simp)) (.cons (.tmp 5) .nil),.cons _ (.refl _),?_,k,rfl,hkn⟩
  rw[J6,if_pos h];rfl
 ·have hlt:x.n.toNat < (Jd s x.patch).length:=by omega
  refine wf ?_
  refine⟨trivial,_,Gl m k,.cons (.cell 4 125 rfl AG (inferInstance:FA Tryz.prog 125 172).out (by simp)) (.cons (.tmp 5) .nil),.cons _ (.refl _),?_,k,rfl,hkn⟩
  rw[J6,if_neg h,AO hlt];rfl
theorem fc (id:Dig) (c:Chg):(Jf id c).length≤c.over.length+4:=by
 have r1:=dr c
 have r2:=dq c (YA c)
 have r3:=dp (DV id c) c (bW c (YA c))
 have r4:=Ki (NA (DV id c) c) c.over (iu (DV id c) c (bW c (YA c)))
 unfold Jf tV
 omega
theorem VU (s:List Sto) (hg:Gw s) (m:Nat) (known:List (Dig × List Atm)) (hk0:J9 s known) (x:Sto) (hx:E7 x.patch=false):BA Tryz.prog 76 [.pt (VG s m) 0,.agg (eSto x)] (Gl m known) (fun r L'=>r= .raw (.int .i64 (RY s x.patch x.id))∧ ∃ known',L'=Gl m known'∧J9 s known'):=by
 have hgf:=(EW hx).2.2.2.2
 have hcl:=(EW hx).2.2.2.1
 refine C4 Tryz.func76 rfl Tryz.ntmps76 (rs:= [.tmp 4]) rfl rfl fun hb LF=>?_
 rw[show Gl m known++LF= .map m (BO kDig (JJ eAtm) known)::LF from rfl]
 refine wf ?_
 refine Ab (σ:=Nat × List (Dig × List Atm)) (fun k=>k.1≤x.patch.changes.length∧J9 s k.2∧ ∀ i (h:i < x.patch.changes.length),i < k.1→OT s x.id x.patch.changes[i]=0) (fun k=>x.patch.changes.length - k.1) (fun k=> [(0,.pt (VG s m) 0),(3,.pt (eSto x) 0),(13,.slice (x.patch.changes.map eChg) .ro),(14,.raw (.int .i64 x.patch.changes.length)),(15,.raw (.int .i64 k.1))]) (fun k=> .map m (BO kDig (JJ eAtm) k.2)::LF) (0,known) ⟨by simp,hk0,by simp⟩ ⟨rfl,rfl,rfl,rfl,rfl⟩ (.refl _) ?_
 rintro⟨k,kn⟩ ⟨hk,hkn,he⟩
 dsimp only at hk hkn he ⊢
 refine wf ?_
 refine A6 (fun hc=>?_) (fun hc=>?_)
 ·have hlt:k < x.patch.changes.length:=by omega
  have hat:=Cj (f:=OT s x.id) hlt he
  have hsu:=fun h=>Dj (f:=OT s x.id) he hlt h
  have hcg:=hgf _ (AB hlt)
  refine wz fun b6=>?_
  generalize x.patch.changes[k]=c at hat hsu hcg ⊢
  have i1:B0 (c.over.length≤400):=⟨by have:=hcg.over;omega⟩
  have hrl:(Jf x.id c).length≤400:=by have:=fc x.id c;have:=hcg.over;omega
  refine Al 6 ?_
  refine wf ?_
  refine Ab (σ:=Nat × List (Dig × List Atm)) (fun j=>j.1≤(Jf x.id c).length∧J9 s j.2∧ ∀ i (h:i < (Jf x.id c).length),i < j.1→Hn s c (DV x.id c) (Jf x.id c)[i]=0) (fun j=>(Jf x.id c).length - j.1) (fun j=> [(0,.pt (VG s m) 0),(3,.pt (eSto x) 0),(13,.slice (x.patch.changes.map eChg) .ro),(14,.raw (.int .i64 x.patch.changes.length)),(15,.raw (.int .i64 k)),(22,.slice ((Jf x.id c).map eRfc) .ro),(23,.raw (.int .i64 (Jf x.id c).length)),(24,.raw (.int .i64 j.1))]) (fun j=> .map m (BO kDig (JJ eAtm) j.2)::LF) (0,kn) ⟨by simp,hkn,by simp⟩ ⟨rfl,rfl,rfl,rfl,rfl,rfl,rfl,rfl⟩ (.refl _) ?_
  rintro⟨j,kn2⟩ ⟨hj,hkn2,hje⟩
  dsimp only at hj hkn2 hje ⊢
  refine wf ?_
  refine A6 (fun hc2=>?_) (fun hc2=>?_)
  ·have hlt2:j < (Jf x.id c).length:=by omega
   have hat2:=Cj (f:=Hn s c (DV x.id c)) hlt2 hje
   have hsu2:=fun h=>Dj (f:=Hn s c (DV x.id c)) hje hlt2 h
   have hfit:=gw x.id c _ (AB hlt2)
   refine wz fun b8=>?_
   generalize (Jf x.id c)[j]=r at hat2 hsu2 hfit ⊢
   refine Al 8 ?_
   have i2:B2 Tryz.prog r.f:=hfit.fn
   have i3: ∀ a:Atm,C8 Tryz.prog r.f (.agg (eAtm a)::r.cs) (.raw (.bool (Pd c (DV x.id c) r a))):=fun a=>⟨hfit.out a⟩
   have er:Hn s c (DV x.id c) r=if(J6 s r.id).isSome=false then 7 else if Pd c (DV x.id c) r ((J6 s r.id).getD Atm.zero)=false then 8 else 0:=rfl
   refine wf ?_
   refine CQ (xs:= [.tmp 29,.tmp 31]) (Gl m kn2) LF (f:=140) (cs:= []) (C5 _) rfl rfl (.refl _) _ (mN s hg m kn2 hkn2 r.id) fun u L' ⟨e1,kn3,e2,hkn3⟩=>?_
   subst e1;rw[e2]
   rw[show Gl m kn3++LF= .map m (BO kDig (JJ eAtm) kn3)::LF from rfl]
   refine wf ?_
   refine Bx fun b9=>?_
   refine wo ?_
   refine AE ?_
   refine Al 9 ?_
   refine wf ?_
   refine AW (fun h=>?_) (fun h=>?_)
   ·refine wf ?_
    have h:(J6 s r.id).isSome=false:=L9 h
    rw[if_pos h]at er
    refine⟨trivial,_,Gl m kn3,.cons (.tmp 4) .nil,.refl _,?_,kn3,rfl,hkn3⟩
    have e3:=hat2 (by rw[er];decide)
    have e4:OT s x.id c=7:=by rw[OT,e3,er]
    rw[RY,hat (by rw[e4];decide),e4];rfl
   have h:(J6 s r.id).isSome=true:=pK h
   rw[if_neg (by simp[h])]at er
   refine wf ?_
   refine AW (fun h2=>?_) (fun h2=>?_)
   ·refine wf ?_
    have h2:Pd c (DV x.id c) r ((J6 s r.id).getD Atm.zero)=false:=L9 h2
    rw[if_pos h2]at er
    refine⟨trivial,_,Gl m kn3,.cons (.tmp 4) .nil,.refl _,?_,kn3,rfl,hkn3⟩
    have e3:=hat2 (by rw[er];decide)
    have e4:OT s x.id c=8:=by rw[OT,e3,er]
    rw[RY,hat (by rw[e4];decide),e4];rfl
   ·have h2:Pd c (DV x.id c) r ((J6 s r.id).getD Atm.zero)=true:=pK h2
    rw[if_neg (by simp[h2])]at er
    refine wf ?_
    exact⟨(j+1,kn3),⟨by dsimp only;omega,hkn3,hsu2 er⟩,by dsimp only;omega,⟨rfl,rfl,rfl,rfl,rfl,rfl,rfl,rfl⟩,.refl _⟩
  ·have e0:OT s x.id c=0:=DK fun i h=>hje i h (by omega)
   refine wf ?_
   exact⟨(k+1,kn2),⟨by dsimp only;omega,hkn2,hsu e0⟩,by dsimp only;omega,⟨rfl,rfl,rfl,rfl,rfl⟩,.refl _⟩
 ·refine wf ?_
  refine⟨trivial,_,Gl m kn,.cons (.tmp 4) .nil,.refl _,?_,kn,rfl,hkn⟩
  rw[RY,DK fun i h=>he i h (by omega)];rfl
theorem dB {s:List Sto} (h:Aw (FE s) (List.range s.length)=0):HB (ids s):=by
 refine NN fun i hi=>?_
 have hi:i+1 < s.length:=by simpa [ids]using hi
 have h4:=Cx h (i+1) (Bg.2 hi)
 have e0:s.getD (i+1) Sto.zero=s[i+1]:=by simp[List.getD,hi]
 have e1:s.getD (i+1 - 1) Sto.zero=s[i]:=by
  have:i < s.length:=by omega
  simp[List.getD,this]
 unfold FE at h4
 rw[e0,e1]at h4
 by_cases h5:(Ej s[i+1].patch).2≠0
 ·rw[if_pos h5]at h4;exact absurd h4 h5
 rw[if_neg h5]at h4
 by_cases h6:(Ej s[i+1].patch).1≠s[i+1].id
 ·rw[if_pos h6]at h4;exact absurd h4 (by decide)
 rw[if_neg h6]at h4
 have h6:(Ej s[i+1].patch).1=s[i+1].id:=CZ.1 h6
 rw[h6]at h4
 by_cases h7:0 < ((i+1:Nat):Int)∧0≤Ec s[i].id s[i+1].id
 ·rw[if_pos h7]at h4;exact absurd h4 (by decide)
 ·simp only[ids,BK]
  show Ec s[i].id s[i+1].id < 0
  omega
theorem gh {s:List Sto} (h:Aw (FE s) (List.range s.length)=0) {x:Sto} (hx:x∈s):(Ej x.patch).2=0:=by
 obtain⟨i,hi,rfl⟩:=AY.1 hx
 have h4:=Cx h i (Bg.2 hi)
 have e0:s.getD i Sto.zero=s[i]:=by simp[List.getD,hi]
 unfold FE at h4
 rw[e0]at h4
 by_cases h5:(Ej s[i].patch).2≠0
 ·rw[if_pos h5]at h4;exact absurd h4 h5
 ·exact CZ.1 h5
theorem Yq (s:List Sto): ∀ n out,(O4 s n out).length≤out.length+n
 |0,out=>by rw[O4];omega
 |n+1,out=>by
  rw[O4]
  split
  ·omega
  ·have:=Yq s n (out++ [(s.getD (L6 s out).toNat Sto.zero).id])
   rw[AA,Au]at this
   omega
theorem bf (s:List Sto):(CT s).length≤s.length:=by
 have:=Yq s s.length []
 rw[Af,BC]at this
 exact this
instance dF (s:List Sto) (t:CC) [hs:B0 (Gw s)]:C8 Tryz.prog 25 [.slice (s.map eSto) t] (.raw (.int .i64 (KH s))):=⟨by
 have hg:=hs.out
 obtain⟨hl8,hgr⟩:=hg
 refine Av Tryz.func25 Tryz.ntmps25 rfl (rs:= [.tmp 2]) rfl rfl fun hb LF=>?_
 refine wf ?_
 refine A6 (fun h1=>?_) (fun h1=>?_)
 ·omega
 rw[KH,if_neg h1]
 refine wf ?_
 refine Ab (σ:=Nat) (fun k=>k≤s.length∧ ∀ i (h:i < (List.range s.length).length),i < k→FE s (List.range s.length)[i]=0) (fun k=>s.length - k) (fun k=> [(0,.slice (s.map eSto) t),(16,.slice (s.map eSto) t),(17,.raw (.int .i64 s.length)),(18,.raw (.int .i64 k))]) (fun _=>LF) 0 ⟨by simp,by simp⟩ ⟨rfl,rfl,rfl,rfl⟩ (.refl _) ?_
 rintro k ⟨hk,he⟩
 refine wf ?_
 refine A6 (fun hc=>?_) (fun hc=>?_)
 ·have hlt:k < s.length:=by omega
  have hltr:k < (List.range s.length).length:=by simpa using hlt
  have ek:(List.range s.length)[k]=k:=by simp
  have e0:s.getD k Sto.zero=s[k]:=by simp[List.getD,hlt]
  have i1:B0 (E7 s[k].patch=false):=⟨hgr _ (AB hlt)⟩
  refine wf ?_
  refine Bx fun b4=>?_
  refine wo ?_
  refine AE ?_
  refine Al 4 ?_
  refine wf ?_
  refine Bx fun b5=>?_
  refine wo ?_
  refine AE ?_
  refine Al 5 ?_
  refine wf ?_
  refine AX (fun h2=>?_) (fun h2=>?_)
  ·refine wf ?_
   refine B1 (.of_eq ?_)
   have e:FE s (List.range s.length)[k]=(Ej s[k].patch).2:=by rw[ek,FE,e0,if_pos h2]
   have f:=Cj hltr he (by rw[e];exact h2)
   rw[if_pos (by rw[f,e];exact h2),f,e]
  refine wf ?_
  refine AX (fun h3=>?_) (fun h3=>?_)
  ·refine wf ?_
   refine B1 (.of_eq ?_)
   have e:FE s (List.range s.length)[k]=13:=by rw[ek,FE,e0,if_neg (by simp[h2]),if_pos h3]
   have f:=Cj hltr he (by rw[e];decide)
   rw[if_pos (by rw[f,e];decide),f,e]
  refine wf ?_
  refine Ay (fun hp=>?_) (fun hp=>?_)
  ·have hp':0 < (k:Int):=BJ hp
   refine wf ?_
   have e1:s.getD (k - 1) Sto.zero=s[((k:Int) - 1).toNat]:=by
    have:((k:Int) - 1).toNat=k - 1:=by omega
    simp only[this]
    have h':k - 1 < s.length:=by omega
    simp[List.getD,h']
   refine A6 (fun h4=>?_) (fun h4=>?_)
   ·refine wf ?_
    refine B1 (.of_eq ?_)
    have e:FE s (List.range s.length)[k]=9:=by rw[ek,FE,e0,e1,if_neg (by simp[h2]),if_neg (by simp[h3]),if_pos ⟨hp',h4⟩]
    have f:=Cj hltr he (by rw[e];decide)
    rw[if_pos (by rw[f,e];decide),f,e]
   ·refine wf ?_
    have e:FE s (List.range s.length)[k]=0:=by rw[ek,FE,e0,e1,if_neg (by simp[h2]),if_neg (by simp[h3]),if_neg (fun h=>h4 h.2)]
    exact⟨k+1,⟨by omega,Dj he hltr e⟩,by dsimp only;omega,⟨rfl,rfl,rfl,rfl⟩,.refl _⟩
  ·have hp': ¬0 < (k:Int):=Bh hp
   refine wf ?_
   have e:FE s (List.range s.length)[k]=0:=by rw[ek,FE,e0,if_neg (by simp[h2]),if_neg (by simp[h3]),if_neg (fun h=>hp' h.1)]
   exact⟨k+1,⟨by omega,Dj he hltr e⟩,by dsimp only;omega,⟨rfl,rfl,rfl,rfl⟩,.refl _⟩
 have hA:Aw (FE s) (List.range s.length)=0:=DK fun i h=>he i h (by simp at h;omega)
 have hasc:=dB hA
 have hid:=fun x (hx:x∈s)=>gh hA hx
 rw[if_neg (by simp[hA])]
 clear he hA hk hc
 refine wf ?_
 refine Ab (σ:=Nat) (fun k=>k≤s.length∧ ∀ i (h:i < s.length),i < k→DI (ids s) (B7 s[i].patch)=true) (fun k=>s.length - k) (fun k=> [(0,.slice (s.map eSto) t),(53,.slice (s.map eSto) t),(54,.raw (.int .i64 s.length)),(55,.raw (.int .i64 k))]) (fun _=>LF) 0 ⟨by simp,by simp⟩ ⟨rfl,rfl,rfl,rfl⟩ (.refl _) ?_
 rintro k ⟨hk,he⟩
 refine wf ?_
 refine A6 (fun hc=>?_) (fun hc=>?_)
 ·have hlt:k < s.length:=by omega
  have i1:=fun t=>ZW s t s[k].patch hasc (by omega) (hgr _ (AB hlt))
  refine wf ?_
  refine Bx fun b8=>?_
  refine wo ?_
  refine AE ?_
  refine Al 8 ?_
  refine wf ?_
  refine AW (fun h=>?_) (fun h=>?_)
  ·refine wf ?_
   refine B1 (.of_eq ?_)
   have hx:DI (ids s) (B7 s[k].patch)=false:=L9 h
   have hy:s.all (fun x=>DI (ids s) (B7 x.patch))=false:=Gn hlt hx
   rw[if_pos hy]
  ·refine wf ?_
   have hx:DI (ids s) (B7 s[k].patch)=true:=pK h
   have hy: ∀ i (h:i < s.length),i < k+1→DI (ids s) (B7 s[i].patch)=true:=fun i hi hik=>by
    rcases B8 i k with h'|h'
    ·exact he i hi h'
    ·have e:i=k:=by omega
     subst e;exact hx
   exact⟨k+1,⟨by omega,hy⟩,by dsimp only;omega,⟨rfl,rfl,rfl,rfl⟩,.refl _⟩
 have hB:s.all (fun x=>DI (ids s) (B7 x.patch))=true:=HY fun i h=>he i h (by omega)
 rw[if_neg (by simp[hB])]
 clear he hB hk hc
 have i3:=fun t=>Rs s t hs.out hasc
 have hol:=bf s
 refine wf ?_
 refine AX (fun h=>?_) (fun h=>?_)
 ·refine wf ?_
  refine B1 (.of_eq ?_)
  rw[if_pos (by omega)]
 rw[if_neg (by omega)]
 refine wf ?_
 refine CQ (xs:= [.tmp 70]) [] LF (f:=75) (cs:= []) (C5 _) rfl rfl (.refl _) _ (OB s t) fun r L' ⟨m,e1,e2⟩=>?_
 subst e1;rw[e2]
 rw[show Gl m []++LF= .map m (BO kDig (JJ eAtm) [])::LF from rfl]
 refine wf ?_
 refine wf ?_
 refine Ab (σ:=Nat × List (Dig × List Atm)) (fun k=>k.1≤s.length∧J9 s k.2∧ ∀ i (h:i < s.length),i < k.1→Fb s s[i].patch s[i].id=0) (fun k=>s.length - k.1) (fun k=> [(9,.pt (VG s m) 0),(72,.slice (s.map eSto) t),(73,.raw (.int .i64 s.length)),(74,.raw (.int .i64 k.1))]) (fun k=> .map m (BO kDig (JJ eAtm) k.2)::LF) (0,[]) ⟨by simp,fun d l h=>by simp[CB]at h,by simp⟩ ⟨rfl,rfl,rfl,rfl⟩ (.refl _) ?_
 rintro⟨k,kn⟩ ⟨hk,hkn,he⟩
 dsimp only at hk hkn he ⊢
 refine wf ?_
 refine A6 (fun hc=>?_) (fun hc=>?_)
 ·have hlt:k < s.length:=by omega
  have hq:=YH s s[k].id (hid _ (AB hlt))
  refine wf ?_
  refine Bx fun b11=>?_
  refine wo ?_
  refine AE ?_
  refine Al 11 ?_
  refine wf ?_
  refine CQ (xs:= [.tmp 78,.tmp 79]) (Gl m kn) LF (f:=76) (cs:= []) (C5 _) rfl rfl (.refl _) _ (VU s hs.out m kn hkn s[k] (hgr _ (AB hlt))) fun u L' ⟨e1,kn3,e2,hkn3⟩=>?_
  subst e1;rw[e2]
  rw[show Gl m kn3++LF= .map m (BO kDig (JJ eAtm) kn3)::LF from rfl,hq]
  refine wf ?_
  refine wf ?_
  refine AX (fun h2=>?_) (fun h2=>?_)
  ·refine wf ?_
   refine B1 (.of_eq ?_)
   rw[Cj (f:=fun(x:Sto)=>Fb s x.patch x.id) hlt he h2]
  ·refine wf ?_
   exact⟨(k+1,kn3),⟨by dsimp only;omega,hkn3,Dj (f:=fun(x:Sto)=>Fb s x.patch x.id) he hlt h2⟩,by dsimp only;omega,⟨rfl,rfl,rfl,rfl⟩,.refl _⟩
 ·refine wf ?_
  refine B1 (.of_eq ?_)
  rw[DK (f:=fun(x:Sto)=>Fb s x.patch x.id) fun i h=>he i h (by omega)]⟩
attribute [local irreducible] H8
theorem Fc {p:Pat} (h:(Ej p).2=0):(CA p).2=0∧(CV p).1=Nk p:=by
 have h1: ¬(CV p).2≠0:=fun h'=>by rw[Ej,if_pos h']at h;exact h' h
 unfold CV at h1 ⊢
 by_cases h2:(CA p).2≠0
 ·rw[if_pos h2]at h1;exact absurd h2 h1
 rw[if_neg h2]at h1 ⊢
 refine⟨CZ.1 h2,?_⟩
 unfold KG at h1 ⊢
 by_cases h3:65536 < ((Nk p).length:Int)
 ·rw[if_pos h3]at h1;exact absurd (by decide) h1
 ·rw[if_neg h3]
theorem iH {p q:Pat} (gp:E7 p=false) (gq:E7 q=false) (hp:(Ej p).2=0) (hq:(Ej q).2=0):decide ((CV q).1=(CV p).1)=decide (p=q):=by
 obtain⟨c1,e1⟩:=Fc hp
 obtain⟨c2,e2⟩:=Fc hq
 rw[e1,e2,decide_eq_decide]
 exact⟨fun h=>kQ (OM gp) (OM gq) c1 c2 h.symm,fun h=>by rw[h]⟩
instance vy (a b:Pat) [ha:B0 (E7 a=false)] [hb:B0 (E7 b=false)]:C8 Tryz.prog 93 [.agg (Bn a),.agg (Bn b)] (.raw (.bool (decide ((CV a).1=(CV b).1)))):=⟨by
 refine Av Tryz.func93 Tryz.ntmps93 rfl (rs:= [.tmp 4]) rfl rfl fun hb LF=>?_
 refine wf ?_
 exact B1 (.refl _)⟩
theorem Yz (s:List Sto) (x:Sto):MF s x=s.take (Jl s x.id)++x::s.drop (Jl s x.id):=by
 have e:(fun(y:Sto)=>!decide (Ec y.id x.id < 0))=fun y=>decide (0≤Ec y.id x.id):=by
  funext y
  by_cases h:Ec y.id x.id < 0
  ·rw[BF h,Cp (by omega)];rfl
  ·rw[Cp h,BF (by omega)];rfl
 unfold MF Jl
 rw[List.takeWhile_eq_take_findIdx_not,List.dropWhile_eq_drop_findIdx_not,e]
theorem oq (s:List Sto) (d:Dig):Jl s d≤s.length:=A0H
theorem ot {s:List Sto} (ha:HB (ids s)) {d:Dig} (h:d∈ids s): ∃ hlt:Jl s d < s.length,s[Jl s d].id=d∧getS s d=some s[Jl s d].patch:=by
 obtain⟨x,hx,rfl⟩:=AQ.1 h
 obtain⟨i,hi,rfl⟩:=AY.1 hx
 have e:Jl s s[i].id=i:=XH (Nat.le_of_lt hi) (fun k hk hki=>by
  have:=Ax.1 ha k i (by simpa [ids]using hk) (by simpa [ids]using hi) hki
  simp only[ids,BK]at this
  exact this) (fun k hk hik=>by
  rcases B8 i k with h'|h'
  ·have:=Ax.1 ha i k (by simpa [ids]using hi) (by simpa [ids]using hk) h'
   simp only[ids,BK]at this
   rcases Ux (Ec s[k].id s[i].id) 0 with h2|h2
   ·exact absurd h2 (Dig.lt_asymm this)
   ·exact h2
  ·have e2:k=i:=by omega
   subst e2
   rcases Ux (Ec s[k].id s[k].id) 0 with h2|h2
   ·exact absurd h2 (Dig.lt_irrefl _)
   ·exact h2)
 refine⟨by rw[e];exact hi,?_⟩
 simp only[e]
 exact⟨trivial,R4 ha hx⟩
def QD (s:List Sto) (p:Pat):Int:=if(getS s (Ej p).1).isSome=true then(if p=(getS s (Ej p).1).getD Pat.zero then 6 else 14)else if DI (ids s) (B7 p)=false then 19 else Fb s p (Ej p).1
theorem kS {s:List Sto} {p:Pat} (h0:(Ej p).2=0) (hl:s.length < 400):FB s p=if QD s p≠0 then([],Dig.zero,QD s p)else(MF s ⟨(Ej p).1,p⟩,(Ej p).1,0):=by
 unfold FB QD
 rw[if_neg (by simp[h0])]
 by_cases h1:(getS s (Ej p).1).isSome=true
 ·rw[if_pos h1,if_pos h1]
  by_cases h2:p=(getS s (Ej p).1).getD Pat.zero
  ·rw[if_pos h2,if_pos h2];rfl
  ·rw[if_neg h2,if_neg h2];rfl
 rw[if_neg h1,if_neg h1]
 by_cases h3:DI (ids s) (B7 p)=false
 ·rw[if_pos h3,if_pos h3];rfl
 rw[if_neg h3,if_neg h3]
 by_cases h4:Fb s p (Ej p).1≠0
 ·rw[if_pos h4,if_pos h4]
 ·rw[if_neg h4,if_neg h4,if_neg (by omega)]
theorem dw {a b:Res} {R LF:List Res}:(R++a::b::LF).Perm (b::a::(R++LF)):=(Bb.trans (.cons a Bb)).trans (.swap _ _ _)
theorem dv {a b:Res} {R LF:List Res}:(b::a::(R++LF)).Perm (R++(b::a::LF)):=(Bb.trans (.cons b Bb)).symm
instance Y2 (s:List Sto) (p:Pat) (t:CC) [hs:B0 (BP s)] [hg:B0 (E7 p=false)]:C8 Tryz.prog 35 [.slice (s.map eSto) t,.agg (Bn p)] (.tuple [.slice ((FB s p).1.map eSto) .ro,.agg (eDig (FB s p).2.1),.raw (.int .i64 (FB s p).2.2)]):=⟨by
 have v:=hs.out
 have hgd:=v.close.1
 have hlen:=hgd.1
 have hgp:=hg.out
 have i2:=fun t=>TT s t (Ej p).1 v.asc (by omega)
 have i3:=fun t=>ZW s t p v.asc (by omega) hgp
 have hpl:=oq s (Ej p).1
 refine Av Tryz.func35 Tryz.ntmps35 rfl (rs:= [.tmp 4,.cell 5 31,.tmp 6]) rfl rfl fun hb LF=>?_
 refine wf ?_
 refine Bx fun b5=>?_
 refine wf ?_
 refine Bx fun b7=>?_
 refine wo ?_
 refine AE ?_
 refine Al 7 ?_
 refine wf ?_
 refine AX (fun h1=>?_) (fun h1=>?_)
 ·refine wf ?_
  refine OI rfl ?_
  rw[FB,if_pos h1]
  exact .tuple3 (.ro _ _) (.refl _) (.refl _)
 rw[kS h1 (by omega)]
 refine wf ?_
 refine BT [(32,.raw (.bool (decide ((Ej p).1∈ids s∧ ¬p=(getS s (Ej p).1).getD Pat.zero)))),(0,.slice (s.map eSto) t),(3,.pt (Bn p) 0),(5,.raw (.pointer (some ⟨b5,0,none⟩))),(7,.pt (eDig (Ej p).1) 0),(9,.raw (.int .i64 (Jl s (Ej p).1:Nat))),(10,.raw (.bool (decide ((Ej p).1∈ids s))))] (.box b5 31 (eDig Dig.zero)::LF) ?_ ?_
 ·refine Ay (fun hp=>?_) (fun hp=>?_)
  ·have hd:=BJ hp
   obtain⟨hlt,hid,hget⟩:=ot v.asc hd
   have hq0:s[Jl s (Ej p).1]∈s:=AB hlt
   have i4:B0 (E7 s[Jl s (Ej p).1].patch=false):=⟨hgd.2 _ hq0⟩
   have heq:=iH hgp (hgd.2 _ hq0) h1 (v.id _ hq0).1
   refine wf ?_
   refine⟨⟨C9 (by rfl) ?_,rfl,rfl,rfl,rfl,rfl,rfl⟩,.refl _⟩
   rw[heq,hget,Bj]
   generalize s[Jl s (Ej p).1].patch=q
   by_cases h2:p=q
   ·rw[BF h2,Cp (fun h=>h.2 h2)];rfl
   ·rw[Cp h2,BF ⟨hd,h2⟩];rfl
  ·have hd:=Bh hp
   refine wf ?_
   refine⟨⟨C9 (by rfl) ?_,rfl,rfl,rfl,rfl,rfl,rfl⟩,.refl _⟩
   simp[hd]
 have hsome:=Sd v.asc (Ej p).1
 refine wf ?_
 refine Cv (σ:=Unit) (fun _=>True) (fun _=> [(0,.slice (s.map eSto) t),(3,.pt (Bn p) 0),(5,.raw (.pointer (some ⟨b5,0,none⟩))),(7,.pt (eDig (Ej p).1) 0),(8,.raw (.int .i64 (QD s p))),(9,.raw (.int .i64 (Jl s (Ej p).1:Nat)))]) (fun _=> .box b5 31 (eDig Dig.zero)::LF) ?_ ?_
 ·refine A6 (fun h=>?_) (fun h=>?_)
  ·have eA:QD s p=14:=by
    unfold QD;rw[hsome,if_pos (BF h.1),if_neg h.2]
   refine wf ?_
   exact⟨(),trivial,⟨rfl,rfl,rfl,rfl,by rw[eA];rfl,rfl⟩,.refl _⟩
  refine wf ?_
  refine A6 (fun h2=>?_) (fun h2=>?_)
  ·have eA:QD s p=6:=by
    unfold QD;rw[hsome,if_pos (BF h2),if_pos (Cd fun h3=>h ⟨h2,h3⟩)]
   refine wf ?_
   exact⟨(),trivial,⟨rfl,rfl,rfl,rfl,by rw[eA];rfl,rfl⟩,.refl _⟩
  have hns: ¬(getS s (Ej p).1).isSome=true:=by rw[hsome];simpa using h2
  refine wf ?_
  refine AW (fun h3=>?_) (fun h3=>?_)
  ·have eA:QD s p=19:=by
    unfold QD;rw[if_neg hns,if_pos (L9 h3)]
   refine wf ?_
   exact⟨(),trivial,⟨rfl,rfl,rfl,rfl,by rw[eA];rfl,rfl⟩,.refl _⟩
  have eA:QD s p=Fb s p (Ej p).1:=by
   unfold QD;rw[if_neg hns,if_neg (J1 h3)]
  refine wn ?_
  refine H2 [1,5] (by decide+kernel) ?_
  refine B5 0 ?_
  refine B5 2 ?_
  refine B5 3 ?_
  refine B5 4 ?_
  refine Ad 2 1 ?_
  refine CQ (xs:= [.tmp 26]) [] (.box b5 31 (eDig Dig.zero)::LF) (f:=75) (cs:= []) (C5 _) rfl rfl (.refl _) _ (OB s t) fun r L' ⟨m,e1,e2⟩=>?_
  subst e1;rw[e2]
  refine AE ?_
  refine Ad 1 5 ?_
  refine CQ (xs:= [.tmp 27,.tmp 30]) (Gl m []) (.box b5 31 (eDig Dig.zero)::LF) (f:=76) (cs:= []) (C5 _) rfl rfl (.refl _) _ (VU s hgd m [] (fun d l h=>by simp[CB]at h) ⟨(Ej p).1,p⟩ hgp) fun u L' ⟨e1,kn3,e2,hkn3⟩=>?_
  subst e1;rw[e2]
  refine AE ?_
  refine Ad 0 6 ?_
  refine wo ?_
  refine AE ?_
  refine Cu (by decide+kernel) ?_
  rw[show RY s (⟨(Ej p).1,p⟩:Sto).patch (⟨(Ej p).1,p⟩:Sto).id=QD s p from(YH s (Ej p).1 h1).trans eA.symm]
  exact⟨(),trivial,⟨rfl,rfl,rfl,rfl,rfl,rfl⟩,.cons _ (.refl _)⟩
 intro _ _
 refine wf ?_
 refine BT [(56,.raw (.bool (decide (QD s p=0∧400≤(s.length:Int))))),(0,.slice (s.map eSto) t),(3,.pt (Bn p) 0),(5,.raw (.pointer (some ⟨b5,0,none⟩))),(7,.pt (eDig (Ej p).1) 0),(8,.raw (.int .i64 (QD s p))),(9,.raw (.int .i64 (Jl s (Ej p).1:Nat)))] (.box b5 31 (eDig Dig.zero)::LF) ?_ ?_
 ·repeat' (first|(refine A6 (fun h=>?_) (fun h=>?_)<;>refine wf ?_)|(refine AX (fun h=>?_) (fun h=>?_)<;>refine wf ?_)|(refine AW (fun h=>?_) (fun h=>?_)<;>refine wf ?_)|(refine Ay (fun h=>?_) (fun h=>?_)<;>(have h2:=h;(try simp only[AD,A8,AI,AN]at h2);refine wf ?_)))
  all_goals (refine⟨⟨C9 (by rfl) ?_,rfl,rfl,rfl,rfl,rfl,rfl⟩,.refl _⟩;first|(simp_all;done)|grind)
 refine wf ?_
 refine A6 (fun h=>?_) (fun _=>?_)
 ·omega
 refine wf ?_
 refine AX (fun h=>?_) (fun h=>?_)
 ·refine wf ?_
  refine OI rfl ?_
  rw[if_pos h]
  exact .tuple3 (.ro _ _) (.refl _) (.refl _)
 rw[if_neg (fun h'=>h' h)]
 refine wn ?_
 refine H2 [1,6,7,10] (by decide+kernel) ?_
 refine B5 0 ?_
 refine B5 2 ?_
 refine B5 3 ?_
 refine B5 4 ?_
 refine B5 5 ?_
 refine B5 8 ?_
 refine Cw (fuel:=5) [1,6] (by decide+kernel) (by simp) fun i hi=>?_
 simp only[AH,Ai,or_false]at hi
 rcases hi with rfl|rfl
 ·refine⟨_,rfl,?_⟩
  refine CQ (xs:= [.tmp 61]) [] (.box b5 31 (eDig Dig.zero)::LF) (f:=95) (cs:= []) (C5 _) rfl rfl (.refl _) _ (SH s t (by omega)) fun r R0 ⟨v0,e1,hv0⟩=>?_
  subst e1
  refine AE ?_
  refine Ad 4 6 ?_
  refine Vh (cs:=eSto (⟨(Ej p).1,p⟩:Sto)) (.agg _) (by simp) (by decide) fun b=>?_
  refine AE ?_
  refine Ad 3 7 ?_
  refine CQ (xs:= [.tmp 62,.tmp 63,.tmp 67]) (R0++ [Res.box b 59 (eSto (⟨(Ej p).1,p⟩:Sto))]) (.box b5 31 (eDig Dig.zero)::LF) (f:=94) (cs:= []) (C5 _) rfl rfl (by rw[AV];exact Bb.symm) _ (UJ v0 s R0 hv0 (Jl s (Ej p).1) hpl (by omega) b (⟨(Ej p).1,p⟩:Sto)) fun r L' ⟨v2,R2,e1,hv2,e2⟩=>?_
  subst e1;rw[e2]
  refine AE ?_
  refine Ad 2 9 ?_
  refine wo ?_
  refine AE ?_
  refine Ad 1 10 ?_
  refine Vw (L':= .box b5 31 (eDig Dig.zero):: .box b 59 (eSto (⟨(Ej p).1,p⟩:Sto))::(R2++LF)) (by rw[AV];exact dw) rfl ?_ (fun h=>h)
  refine wo ?_
  refine AE ?_
  refine Ad 0 11 ?_
  refine wo ?_
  refine AE ?_
  refine Cu (by decide+kernel) ?_
  have hxl:((s.take (Jl s (Ej p).1)++(⟨(Ej p).1,p⟩:Sto)::s.drop (Jl s (Ej p).1)).map eSto).length≤201:=by
   simp only[AR,AA,Aa,AL,B4];omega
  refine Jj 4 hv2 ⟨by unfold maxN;omega,by unfold maxN;omega⟩ dv rfl ?_
  refine wf ?_
  refine OI rfl ?_
  rw[Yz]
  exact .refl _
 ·refine⟨_,rfl,?_⟩
  refine Vh (cs:=eSto (⟨(Ej p).1,p⟩:Sto)) (.agg _) (by simp) (by decide) fun b=>?_
  refine AE ?_
  refine Ad 4 1 ?_
  refine CQ (xs:= [.tmp 61]) [] (.box b 59 (eSto (⟨(Ej p).1,p⟩:Sto)):: .box b5 31 (eDig Dig.zero)::LF) (f:=95) (cs:= []) (C5 _) rfl rfl (.refl _) _ (SH s t (by omega)) fun r R0 ⟨v0,e1,hv0⟩=>?_
  subst e1
  refine AE ?_
  refine Ad 3 7 ?_
  refine CQ (xs:= [.tmp 62,.tmp 63,.tmp 67]) (R0++ [Res.box b 59 (eSto (⟨(Ej p).1,p⟩:Sto))]) (.box b5 31 (eDig Dig.zero)::LF) (f:=94) (cs:= []) (C5 _) rfl rfl (by rw[AV];exact .refl _) _ (UJ v0 s R0 hv0 (Jl s (Ej p).1) hpl (by omega) b (⟨(Ej p).1,p⟩:Sto)) fun r L' ⟨v2,R2,e1,hv2,e2⟩=>?_
  subst e1;rw[e2]
  refine AE ?_
  refine Ad 2 9 ?_
  refine wo ?_
  refine AE ?_
  refine Ad 1 10 ?_
  refine Vw (L':= .box b5 31 (eDig Dig.zero):: .box b 59 (eSto (⟨(Ej p).1,p⟩:Sto))::(R2++LF)) (by rw[AV];exact dw) rfl ?_ (fun h=>h)
  refine wo ?_
  refine AE ?_
  refine Ad 0 11 ?_
  refine wo ?_
  refine AE ?_
  refine Cu (by decide+kernel) ?_
  have hxl:((s.take (Jl s (Ej p).1)++(⟨(Ej p).1,p⟩:Sto)::s.drop (Jl s (Ej p).1)).map eSto).length≤201:=by
   simp only[AR,AA,Aa,AL,B4];omega
  refine Jj 4 hv2 ⟨by unfold maxN;omega,by unfold maxN;omega⟩ dv rfl ?_
  refine wf ?_
  refine OI rfl ?_
  rw[Yz]
  exact .refl _⟩
end Go.Proofs
namespace Go.Proofs
open Go Go.Q
def Hl (p:Pat):Nat:=(CA p).1.length
def RL (n:Nat) (x:Ident):Prop:=0≤x.n∧(x.patch=Dig.zero→x.n < n)
structure Oa (c:Chg) (G:Ident→Prop):Prop where
 file:2≤c.kind→c.kind≤6→G c.file
 parent:c.kind=2→c.parent≠rRoot→G c.parent
 after:c.kind=5∨c.kind=6→G c.after
 before:c.kind=5∨c.kind=6→G c.before
 over: ∀ y∈c.over,G y
theorem Oa.mono {c:Chg} {G H:Ident→Prop} (h:Oa c G) (k: ∀ x,G x→H x):Oa c H:=
 ⟨fun a b=>k _ (h.file a b),fun a b=>k _ (h.parent a b),fun a=>k _ (h.after a),fun a=>k _ (h.before a),fun y hy=>k _ (h.over y hy)⟩
theorem Oa.and {c:Chg} {G H:Ident→Prop} (h:Oa c G) (k:Oa c H):Oa c fun x=>G x∧H x:=
 ⟨fun a b=>⟨h.file a b,k.file a b⟩,fun a b=>⟨h.parent a b,k.parent a b⟩,fun a=>⟨h.after a,k.after a⟩,fun a=>⟨h.before a,k.before a⟩,fun y hy=>⟨h.over y hy,k.over y hy⟩⟩
theorem O5 {x:Ident} {own:List Atm} {f:Bool} (h:JD x own f=0):RL own.length x:=by
 unfold JD at h
 split at h
 ·omega
 rename_i h1
 have h1:Dm x own.length=true:=by simpa using h1
 unfold Dm at h1
 split at h1
 ·rename_i hp
  simp only[BR,AD]at h1
  exact⟨h1.1,fun _=>h1.2⟩
 ·rename_i hp
  simp only[BR,AD]at h1
  exact⟨h1.1,fun e=>absurd e hp⟩
theorem Px {c:Chg} {own:List Atm} (h:FC c own=0):Oa c (RL own.length):=by
 unfold FC at h
 split at h
 ·rename_i h0;exact absurd h h0
 rename_i hF
 split at h
 ·rename_i h0;exact absurd h h0
 rename_i hP
 split at h
 ·rename_i h0;exact absurd h h0
 rename_i hE
 split at h
 ·rename_i h0;exact absurd h h0
 rename_i hO
 have hF:=CZ.1 hF
 have hP:=CZ.1 hP
 have hE:=CZ.1 hE
 have hO:=Cx (CZ.1 hO)
 unfold K6 at hF
 unfold Lx at hP
 unfold IX at hE
 refine⟨fun a b=>?_,fun a b=>?_,fun a=>?_,fun a=>?_,fun y hy=>O5 (hO y hy)⟩
 ·rw[if_pos ⟨a,b⟩]at hF;exact O5 hF
 ·rw[if_pos ⟨a,b⟩]at hP;exact O5 hP
 ·rw[if_pos (by unfold Ig;rcases a with a|a<;>simp[a])]at hE
  exact O5 (Cx hE _ (by simp))
 ·rw[if_pos (by unfold Ig;rcases a with a|a<;>simp[a])]at hE
  exact O5 (Cx hE _ (by simp))
def Qo (l:List Chg) (i:Nat):List Atm:=(l.take i).foldl (fun own c=>own++CW c own.length) []
theorem SV: ∀ {l:List Chg} {own A:List Atm},DC l own=(A,0)→A=l.foldl (fun own c=>own++CW c own.length) own∧
  ∀ i (h:i < l.length),C3 l[i]=0∧FC l[i] ((l.take i).foldl (fun own c=>own++CW c own.length) own)=0
 | [],own,A,h=>by
   simp only[DC,Prod.mk.injEq]at h
   exact⟨h.1.symm,fun i hi=>absurd hi (DF _)⟩
 |c::l,own,A,h=>by
  unfold DC at h
  split at h
  ·rename_i h0;exact absurd (congrArg Prod.snd h) h0
  rename_i h1
  split at h
  ·rename_i h0;exact absurd (congrArg Prod.snd h) h0
  rename_i h2
  obtain⟨k1,k2⟩:=SV h
  refine⟨k1,fun i hi=>?_⟩
  cases i with
  |zero=>exact⟨CZ.1 h1,CZ.1 h2⟩
  |succ i=>exact k2 i (by simpa using hi)
theorem ZK: ∀ (l:List Chg) (own:List Atm),own.length≤(l.foldl (fun own c=>own++CW c own.length) own).length
 | [],_=>Ak _
 |c::l,own=>Cz (by rw[AA];omega) (ZK l (own++CW c own.length))
structure Ni (p:Pat):Prop where
 made:(CA p).1=p.changes.foldl (fun own c=>own++CW c own.length) []
 fields: ∀ i (h:i < p.changes.length),C3 p.changes[i]=0
 refs: ∀ i (h:i < p.changes.length),FC p.changes[i] (Qo p.changes i)=0
theorem EH {p:Pat} (h:(CA p).2=0):Ni p:=by
 unfold CA at h
 have:DC p.changes []=((CA p).1,0):=by
  unfold CA
  split at h
  ·simp at h
  rename_i h1
  rw[if_neg h1]
  split at h
  ·simp at h
  rename_i h1
  rw[if_neg h1]
  split at h
  ·simp at h
  rename_i h1
  rw[if_neg h1]
  split at h
  ·rename_i h1;exact absurd h h1
  rename_i h1
  rw[if_neg h1]
  split at h
  ·simp at h
  rename_i h1
  rw[if_neg h1]
  split at h
  ·simp at h
  rename_i h1
  rw[if_neg h1]
  exact Prod.ext rfl h
 obtain⟨h1,h2⟩:=SV this
 exact⟨h1,fun i hi=>(h2 i hi).1,fun i hi=>(h2 i hi).2⟩
theorem kj {p:Pat} (h:Ni p) (i:Nat):(Qo p.changes i).length≤Hl p:=by
 unfold Hl Qo
 rw[h.made]
 have e:p.changes=p.changes.take i++p.changes.drop i:=(Bf i _).symm
 conv=>rhs;rw[e,BX]
 exact ZK _ _
theorem Ni.uses {p:Pat} (h:Ni p) {c:Chg} (hc:c∈p.changes):Oa c (RL (Hl p)):=by
 obtain⟨i,hi,rfl⟩:=AY.1 hc
 exact(Px (h.refs i hi)).mono fun x hx=>⟨hx.1,fun e=>by have:=hx.2 e;have:=kj h i;omega⟩
def Kn (s:List Sto) (x:Ident):Prop:=x.patch≠Dig.zero→ ∃ z∈s,z.id=x.patch∧0≤x.n∧x.n < Hl z.patch
theorem L5 {o:Option Atm} {f:Atm→Bool} (h:EU o f=0):o.isSome=true:=by
 unfold EU at h
 split at h
 ·omega
 ·rename_i h1
  cases ho:o.isSome with
  |true=>rfl
  |false=>exact absurd ho h1
theorem N5 {s:List Sto} (v:BP s) {x:Ident} (h:(Ih s x).isSome=true):Kn s x:=fun hz=>by
 unfold Ih at h
 split at h
 ·simp at h
 rename_i h1
 unfold J0 at h1 h
 cases hg:getS s x.patch with
 |none=>
  rw[hg]at h1
  exfalso
  apply h1
  right
  have:(JO Pat.zero).1= []:=by unfold JO;rw[if_pos (by decide+kernel)]
  rw[NV,this]
  simp only[Af]
  omega
 |some p=>
  rw[hg,Bj]at h1
  obtain⟨z,hz,e1,e2⟩:=Kh hg
  refine⟨z,hz,e1,by omega,?_⟩
  subst e2
  have:(JO z.patch).1.length=Hl z.patch:=by
   unfold JO Hl
   rw[if_neg (by simp[(v.id z hz).1])]
   simp
  omega
theorem Ys {s:List Sto} (v:BP s) {x f:Ident} {d:Dig} (h:HC s x f d=0) (hf:Kn s f):Kn s x:=fun hz=>by
 unfold HC at h
 split at h
 ·rename_i h1
  rcases h1 with h1|h1
  ·unfold FP at h1;simp at h1;exact absurd h1 hz
  ·subst h1;exact hf hz
 ·exact N5 v (L5 h) hz
theorem bk {s:List Sto} (v:BP s) {c:Chg} {d:Dig} (h:L7 s c d=0):Oa c (Kn s):=by
 unfold L7 at h
 split at h
 ·rename_i h0;exact absurd h h0
 rename_i hF
 split at h
 ·rename_i h0;exact absurd h h0
 rename_i hP
 split at h
 ·rename_i h0;exact absurd h h0
 rename_i hA
 split at h
 ·rename_i h0;exact absurd h h0
 rename_i hB
 have hF:=CZ.1 hF
 have hP:=CZ.1 hP
 have hA:=CZ.1 hA
 have hB:=CZ.1 hB
 have hO:=Cx h
 have xF:Kn s c.file:=fun hz=>by
  unfold Ji at hF
  rw[if_pos (by unfold FP;simp[hz])]at hF
  exact N5 v (L5 hF) hz
 refine⟨fun _ _=>xF,fun _ _ hz=>?_,fun _=>Ys v hA xF,fun _=>Ys v hB xF,fun y hy hz=>?_⟩
 ·unfold MC at hP
  rw[if_pos (by unfold FP;simp[hz])]at hP
  exact N5 v (L5 hP) hz
 ·have:=hO y hy
  unfold O8 at this
  rw[if_neg (by unfold FP;simp[hz])]at this
  exact N5 v (L5 this) hz
theorem BP.uses {s:List Sto} (v:BP s) {x:Sto} (hx:x∈s) {c:Chg} (hc:c∈x.patch.changes):Oa c fun y=>RL (Hl x.patch) y∧Kn s y:=by
 have hp:=EH (Fc (v.id x hx).1).1
 refine(hp.uses hc).and (bk v (d:=x.id) ?_)
 exact Cx (v.refs x hx) c hc
end Go.Proofs
namespace Go.Q
open Go
structure Mta where
 author:Str
 message:Str
 time:Int
 deriving DecidableEq
def Mta.zero:Mta:=⟨[],[],0⟩
def GF (c:Mta):List PV:= [.str c.author]++([.str c.message]++([.raw (.int .i64 c.time)]))
@[simp] theorem l8 (c:Mta):(GF c).length=3:=by unfold GF;simp
instance :NS GF 3:=⟨l8⟩
instance (c:Mta):Dx (GF c):=by unfold GF;infer_instance
instance (c:Mta):GP (.agg (GF c)) GF c:=⟨Dn.agg _⟩
instance lY (c:Mta):Jt (GF c) 0 [.str c.author]:=by unfold GF;exact DE
instance kY (c:Mta) (x:Str):FO (GF c) 0 [.str x] (GF { c with author:=x }):=by unfold GF;exact Df (by simp)
instance j0 (c:Mta):Jt (GF c) 1 [.str c.message]:=by unfold GF;exact Ae (n:=1) (off:=0) (by simp) (DE)
instance pq (c:Mta):Jt (GF c) 2 [.raw (.int .i64 c.time)]:=by unfold GF;exact Ae (n:=1) (off:=1) (by simp) (Ae (n:=1) (off:=0) (by simp) (Kj))
structure Mvd where
 old:Dig
 lo:Int
 hi:Int
 patch:Dig
 dst:Int
 deriving DecidableEq
def yD (c:Mvd):List PV:=(eDig c.old)++([.raw (.int .i64 c.lo)]++([.raw (.int .i64 c.hi)]++((eDig c.patch)++([.raw (.int .i64 c.dst)]))))
@[simp] theorem xp (c:Mvd):(yD c).length=67:=by unfold yD;simp
end Go.Q
namespace Go.Proofs
open Go Go.Q
def l4 (x y:Sto):Bool:=if x.patch.time≠y.patch.time then decide (x.patch.time < y.patch.time)else decide (Ec x.id y.id < 0)
def sW (q:List Sto) (i:Nat):Sto:=q.getD i Sto.zero
def YJ (q:List Sto) (i j:Nat):List Sto:=(q.set i (sW q j)).set j (sW q i)
@[simp] theorem VW (q:List Sto) (i j:Nat):(YJ q i j).length=q.length:=by simp[YJ]
def yf:Nat→List Sto→Nat→List Sto
 |0,q,_=>q
 |n+1,q,j=>if j=0 then q else if l4 (sW q j) (sW q ((j - 1) / 2))=true then yf n (YJ q ((j - 1) / 2) j) ((j - 1) / 2)else q
def zt (q:List Sto) (i n:Nat):Nat:=if 2*i+2 < n∧l4 (sW q (2*i+2)) (sW q (2*i+1))=true then 2*i+2 else 2*i+1
def zF:Nat→List Sto→Nat→Nat→List Sto
 |0,q,_,_=>q
 |f+1,q,i,n=>if n≤2*i+1 then q else if l4 (sW q (zt q i n)) (sW q i)=true then zF f (YJ q i (zt q i n)) (zt q i n) n else q
def rj (q:List Sto) (x:Sto):List Sto:=yf q.length (q++ [x]) q.length
def ra (q:List Sto):List Sto:=zF (q.length - 1) (YJ q 0 (q.length - 1)) 0 (q.length - 1)
theorem dU: ∀ (n:Nat) (q:List Sto) (j:Nat),(yf n q j).length=q.length
 |0,_,_=>rfl
 |n+1,q,j=>by
  rw[yf]
  split
  ·rfl
  ·split
   ·rw[dU,VW]
   ·rfl
theorem eh: ∀ (f:Nat) (q:List Sto) (i n:Nat),(zF f q i n).length=q.length
 |0,_,_,_=>rfl
 |f+1,q,i,n=>by
  rw[zF]
  split
  ·rfl
  ·split
   ·rw[eh,VW]
   ·rfl
@[simp] theorem vi (q:List Sto) (x:Sto):(rj q x).length=q.length+1:=by simp[rj,dU]
@[simp] theorem vg (q:List Sto):(ra q).length=q.length:=by simp[ra,eh]
end Go.Proofs
