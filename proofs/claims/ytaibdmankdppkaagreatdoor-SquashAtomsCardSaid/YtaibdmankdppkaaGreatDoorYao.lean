/- Plain laws: a valid set with one more patch is a valid set. -/
import Derived.Test.YtaibdmankdppkaaGreatDoorYan
import Derived.Test.YtaibdmankdppkaaGreatDoorYal
import Derived.Test.YtaibdmankdppkaaGreatDoorYam
import Derived.Test.YtaibdmankdppkaaGreatDoorYad
set_option linter.unusedSimpArgs false
set_option linter.unusedVariables false
set_option maxHeartbeats 8000000
namespace Go.Proofs
open Go Go.Q
theorem Rb (s:List Sto) (x:Sto):(Kb s x).Perm (x::s):=by
 unfold Kb
 refine Bc.trans ?_
 rw[ic]
theorem HC {s:List Sto} {x y:Sto}:y∈Kb s x↔y=x∨y∈s:=by
 rw[(Rb s x).mem_iff,AI]
theorem HS {s:List Sto} {x:Sto} {d:Dig}:d∈ids (Kb s x)↔d=x.id∨d∈ids s:=by
 unfold ids
 rw[((Rb s x).map _).mem_iff,Ar,AI]
theorem Yt (s:List Sto) (x:Sto):(Kb s x).length=s.length+1:=by
 rw[(Rb s x).length_eq,AN]
theorem eO {x:Sto}: ∀ {s:List Sto},H2 (ids s)→x.id∉ids s→ ∀ y∈s.dropWhile (fun y=>decide (Ep y.id x.id < 0)),Dig.lt x.id y.id
 | [],_,_,y,hy=>by cases hy
 |z::s,ha,hx,y,hy=>by
  have ha':H2 (ids s):=(Bq.1 ha).2
  by_cases hz:Ep z.id x.id < 0
  ·rw[List.dropWhile_cons_of_pos (by simpa using hz)]at hy
   exact eO ha' (fun h=>hx (AH _ h)) y hy
  ·rw[List.dropWhile_cons_of_neg (by simpa using hz)]at hy
   have hzx:Dig.lt x.id z.id:=by
    rcases Dig.tri x.id z.id with h|h|h
    ·exact h
    ·exact absurd (by rw[h];exact AG) hx
    ·exact absurd h hz
   rcases AI.1 hy with rfl|hy
   ·exact hzx
   ·exact Dig.lt_trans hzx ((Bq.1 ha).1 y.id (AQ.2 ⟨y,hy,rfl⟩))
theorem dE {x:Sto}: ∀ {s:List Sto},∀ y∈s.takeWhile (fun y=>decide (Ep y.id x.id < 0)),Dig.lt y.id x.id
 | [],y,hy=>by cases hy
 |z::s,y,hy=>by
  by_cases hz:Ep z.id x.id < 0
  ·rw[List.takeWhile_cons_of_pos (by simpa using hz)]at hy
   rcases AI.1 hy with rfl|hy
   ·exact hz
   ·exact dE y hy
  ·rw[List.takeWhile_cons_of_neg (by simpa using hz)]at hy
   cases hy
theorem Yu {s:List Sto} {x:Sto} (ha:H2 (ids s)) (hx:x.id∉ids s):H2 (ids (Kb s x)):=by
 have e:ids (Kb s x)=ids (s.takeWhile fun y=>decide (Ep y.id x.id < 0))++x.id::ids (s.dropWhile fun y=>decide (Ep y.id x.id < 0)):=by
  unfold Kb ids;rw[Ak,Ar]
 have e2:ids s=ids (s.takeWhile fun y=>decide (Ep y.id x.id < 0))++ids (s.dropWhile fun y=>decide (Ep y.id x.id < 0)):=by
  unfold ids;rw[←Ak,ic]
 have hp:=ha
 rw[e2]at hp
 obtain⟨p1,p2,p3⟩:=H3.1 hp
 rw[e]
 refine H3.2 ⟨p1,Bq.2 ⟨fun d hd=>?_,p2⟩,fun a h b hb=>?_⟩
 ·obtain⟨y,hy,rfl⟩:=AQ.1 hd
  exact eO ha hx y hy
 ·rcases AI.1 hb with rfl|hb
  ·obtain⟨y,hy,rfl⟩:=AQ.1 h
   exact dE y hy
  ·exact p3 a h b hb
theorem Qm: ∀ {s:List Sto},H2 (ids s)→ ∀ {x:Sto},x∈s→getS s x.id=some x.patch
 | [],_,x,h=>by cases h
 |y::s,ha,x,h=>by
  by_cases e:y.id=x.id
  ·rw[getS,if_pos e]
   rcases AI.1 h with rfl|h
   ·rfl
   ·have:=(Bq.1 ha).1 x.id (AQ.2 ⟨x,h,rfl⟩)
    change Dig.lt y.id x.id at this
    rw[e]at this
    exact absurd this (Dig.lt_irrefl _)
  ·rw[getS,if_neg e]
   rcases AI.1 h with rfl|h
   ·exact absurd rfl e
   ·exact Qm (Bq.1 ha).2 h
theorem UA {s:List Sto} {d:Dig} (h:d∉ids s):getS s d=none:=by
 cases hg:getS s d with
 |none=>rfl
 |some p=>
  obtain⟨x,hx,rfl,_⟩:=Kf hg
  exact absurd (AQ.2 ⟨x,hx,rfl⟩) h
theorem SQ {s:List Sto} (ha:H2 (ids s)) (d:Dig):(getS s d).isSome=decide (d∈ids s):=by
 by_cases h:d∈ids s
 ·obtain⟨x,hx,rfl⟩:=AQ.1 h
  rw[Qm ha hx];simp[h]
 ·rw[UA h];simp[h]
theorem l7 {s:List Sto} {x:Sto} (ha:H2 (ids s)) (hx:x.id∉ids s) {d:Dig} (hd:d≠x.id):getS (Kb s x) d=getS s d:=by
 by_cases h:d∈ids s
 ·obtain⟨y,hy,rfl⟩:=AQ.1 h
  rw[Qm ha hy,Qm (Yu ha hx) (HC.2 (.inr hy))]
 ·rw[UA h,UA fun h'=>(HS.1 h').elim hd h]
structure ef (s:List Sto) (x:Sto):Prop where
 id:(FB x.patch).2=0∧(FB x.patch).1=x.id
 new:x.id∉ids s
 needs: ∀ d∈BP x.patch,d∈ids s
 refs:GZ s x.patch x.id=0
 great:ED x.patch=false
theorem BH.put {s:List Sto} (v:BH s) {x:Sto} (f:ef s x) (hl:s.length < 200):BH (Kb s x):=by
 have hcl: ∀ y∈Kb s x,∀ d∈BP y.patch,d∈ids (Kb s x):=fun y hy d hd=>by
  rcases HC.1 hy with rfl|hy
  ·exact HS.2 (.inr (f.needs d hd))
  ·exact HS.2 (.inr (v.close.2 y hy d hd))
 have hasc:=Yu v.asc f.new
 have hget: ∀ d∈ids s,Go.Proofs.getS (Kb s x) d=Go.Proofs.getS s d:=fun d hd=>l7 v.asc f.new fun e=>f.new (e ▸ hd)
 refine⟨⟨⟨by rw[Yt];omega,fun y hy=>?_⟩,hcl⟩,fun y hy=>?_,hasc,?_,fun y hy=>?_⟩
 ·rcases HC.1 hy with rfl|hy
  ·exact f.great
  ·exact v.close.1.2 y hy
 ·rcases HC.1 hy with rfl|hy
  ·exact f.id
  ·exact v.id y hy
 ·have hr:SC (Kb s x) (fun d=>if d=x.id then(BK s).length+1 else PF s d):=by
   refine⟨hasc,hcl,fun y hy d hd=>?_⟩
   rcases HC.1 hy with rfl|hy
   ·have hne:d≠y.id:=fun e=>f.new (e ▸ f.needs d hd)
    simp only[if_true,if_neg hne]
    have:PF s d≤(BK s).length:=by
     unfold PF;exact List.idxOf_le_length
    omega
   ·have hne:d≠x.id:=fun e=>f.new (e ▸ v.close.2 y hy d hd)
    have hne2:y.id≠x.id:=fun e=>f.new (e ▸ AQ.2 ⟨y,hy,rfl⟩)
    simp only[if_neg hne,if_neg hne2]
    exact v.rank hy hd
  exact EG hr.order.symm
 ·rcases HC.1 hy with rfl|hy
  ·rw[Mn f.id.1 fun d hd=>hget d (f.needs d hd)]
   exact f.refs
  ·rw[Mn (v.id y hy).1 fun d hd=>hget d (v.close.2 y hy d hd)]
   exact v.refs y hy
theorem BH.rAdd_ok {s:List Sto} (v:BH s) {p:Pat} (hg:ED p=false) (h:(FC s p).2.2=0):ef s ⟨(FB p).1,p⟩∧FC s p=(Kb s ⟨(FB p).1,p⟩,(FB p).1,0):=by
 unfold FC at h ⊢
 by_cases h1:(FB p).2≠0
 ·rw[if_pos h1]at h;exact absurd h h1
 rw[if_neg h1]at h ⊢
 by_cases h2:(Go.Proofs.getS s (FB p).1).isSome=true
 ·rw[if_pos h2]at h
  split at h<;>exact absurd h (by decide)
 rw[if_neg h2]at h ⊢
 by_cases h3:DW (ids s) (BP p)=false
 ·rw[if_pos h3]at h;exact absurd h (by decide)
 rw[if_neg h3]at h ⊢
 by_cases h4:GZ s p (FB p).1≠0
 ·rw[if_pos h4]at h;exact absurd h h4
 rw[if_neg h4]at h ⊢
 by_cases h5:400≤(s.length:Int)
 ·rw[if_pos h5]at h;exact absurd h (by decide)
 rw[if_neg h5]
 refine⟨⟨⟨by simpa using h1,rfl⟩,fun hn=>?_,fun d hd=>?_,by simpa using h4,hg⟩,rfl⟩
 ·rw[SQ v.asc]at h2
  exact h2 (BR hn)
 ·have h3:DW (ids s) (BP p)=true:=by simpa using h3
  simpa using Bg.1 h3 d hd
theorem kC {s:List Sto} {p:Pat} (h:(FC s p).2.2≠0):(FC s p).1= []∧(FC s p).2.1=Dig.zero:=by
 unfold FC at h ⊢
 repeat' split
 all_goals first|exact⟨rfl,rfl⟩|skip
 all_goals (exfalso;simp_all)
attribute [local irreducible] ER AV BA Fc
instance zR:Cp Tryz.prog 170 [.slice [] .ro,.raw (.map none)]:=Cp.of (us:= [PV.slice [] .ro,.raw (.map none)].map zv) (by kernel_rfl) (by kernel_rfl)
def Xl (s:List Sto) (m:Nat):List PV:= [.slice (s.map eSto) .ro,.raw (.map (some m))]
def Hf (m:Nat) (known:List (Dig × List Atm)):List Res:= [.map m (BQ kDig (Jr eAtm) known)]
theorem Tt (s:List Sto) (t:CF):BA Tryz.prog 75 [.slice (s.map eSto) t] [] (fun r L'=> ∃ m,r= .pt (Xl s m) 0∧L'=Hf m []):=by
 refine C5 Tryz.func75 rfl Tryz.ntmps75 (rs:= [.tmp 2]) rfl rfl fun hb LF=>?_
 refine wf ?_
 refine KK fun m=>?_
 refine wf ?_
 exact⟨trivial,_,Hf m [],.cons (.tmp 2) .nil,.refl _,m,rfl,rfl⟩
theorem l8 (s:List Sto) (d:Dig):(FE (fun x=>decide (x.id=d)) s < 0→getS s d=none)∧(∀ k:Nat,FE (fun x=>decide (x.id=d)) s=(k:Int)→ ∃ h:k < s.length,getS s d=some s[k].patch):=by
 have key: ∀ l:List Sto,(l.any (fun x=>decide (x.id=d))=false→getS l d=none)∧(l.any (fun x=>decide (x.id=d))=true→ ∃ h:l.findIdx (fun x=>decide (x.id=d)) < l.length,getS l d=some (l[l.findIdx fun x=>decide (x.id=d)]).patch):=fun l=>by
  induction l with
  |nil=>exact⟨fun _=>rfl,fun h=>by cases h⟩
  |cons x l ih=>
   by_cases hx:x.id=d
   ·refine⟨fun h=>by simp[hx]at h,fun _=>?_⟩
    have e:(x::l).findIdx (fun x=>decide (x.id=d))=0:=by simp[J5,hx]
    refine⟨by rw[e];simp,?_⟩
    simp only[e,BJ]
    rw[getS,if_pos hx]
   ·have eg:getS (x::l) d=getS l d:=by rw[getS,if_neg hx]
    refine⟨fun h=>by rw[eg];exact ih.1 (by simpa [hx]using h),fun h=>?_⟩
    obtain⟨h1,h2⟩:=ih.2 (by simpa [hx]using h)
    have e:(x::l).findIdx (fun x=>decide (x.id=d))=l.findIdx (fun x=>decide (x.id=d))+1:=by simp[J5,hx]
    refine⟨by rw[e,AN];omega,?_⟩
    simp only[e,DF]
    rw[eg,h2]
 obtain⟨k1,k2⟩:=key s
 refine⟨fun h=>k1 ?_,fun k h=>?_⟩
 ·unfold FE at h
  by_cases ha:s.any (fun x=>decide (x.id=d))=true
  ·rw[if_pos ha]at h;omega
  ·simpa using ha
 ·unfold FE at h
  by_cases ha:s.any (fun x=>decide (x.id=d))=true
  ·rw[if_pos ha]at h
   have hk:s.findIdx (fun x=>decide (x.id=d))=k:=by omega
   obtain⟨h1,h2⟩:=k2 ha
   subst hk
   exact⟨h1,h2⟩
  ·rw[if_neg ha]at h;omega
instance yp (x:Sto) (d:Dig):CB Tryz.prog 52 [.agg (eSto x),.pt (eDig d) 0] (.raw (.bool (decide (x.id=d)))):=⟨by
 refine Au Tryz.func52 Tryz.ntmps52 rfl (rs:= [.tmp 3]) rfl rfl fun hb LF=>?_
 refine wf ?_
 exact B2 (.refl _)⟩
instance KJ (s:List Sto) (t:CF) (d:Dig):CB Tryz.prog 17 [.slice (s.map eSto) t,.agg (eDig d)] (.tuple [.agg (Bz ((getS s d).getD Pat.zero)),.raw (.bool (getS s d).isSome)]):=⟨by
 have i1: ∀ t,CB Tryz.prog 51 [.slice (s.map eSto) t,.clo 52 [.pt (eDig d) 0]] (.raw (.int .i64 (FE (fun x=>decide (x.id=d)) s))):=fun t=>Vs _ _ _ s t
 obtain⟨g1,g2⟩:=l8 s d
 refine Au Tryz.func17 Tryz.ntmps17 rfl (rs:= [.cell 4 40,.tmp 5]) rfl rfl fun hb LF=>?_
 refine wf ?_
 refine C6 fun b4=>?_
 refine wf ?_
 refine A6 (fun h=>?_) (fun h=>?_)
 ·rw[g1 h]
  rw[CY,NL]
  refine wf ?_
  exact Jk rfl (.refl _)
 ·obtain⟨k,hk⟩: ∃ k:Nat,FE (fun x=>decide (x.id=d)) s=(k:Int):=⟨(FE (fun x=>decide (x.id=d)) s).toNat,by omega⟩
  obtain⟨hlt,hg⟩:=g2 k hk
  rw[hk,hg,ct,BU]
  refine wf ?_
  exact Jk rfl (.refl _)⟩
def coreA (a:Atm):Atm:={ a with over:= [] }
theorem PK: ∀ (l:List Chg) (own:List Atm),NU own→NU (DA l own).1
 | [],_,h=>h
 |c::l,own,h=>by
  unfold DA
  split
  ·exact fun i hi=>absurd hi (by simp)
  ·split
   ·exact fun i hi=>absurd hi (by simp)
   ·exact PK l _ (Po c h)
theorem Zb (p:Pat):NU (C9 p).1:=by
 have h0:NU ([]:List Atm):=fun i hi=>absurd hi (by simp)
 unfold C9
 repeat' split
 all_goals first|exact h0|exact PK _ _ h0
theorem ph (d:Dig) {a:Atm} (h1:a.id.patch=Dig.zero) (h2:0≤a.id.n):coreA (fP d a)=coreA (Vh d a):=by
 have e:gg d a=Mq d a:=by
  unfold gg Mq Cr;rw[if_pos ⟨h1,h2⟩]
 rw[fP,Vh,e]
 rfl
theorem Tc (p:Pat):(Kq p).2.2=(FB p).2:=by
 rw[X7,FB]
 by_cases h:(Cb p).2≠0
 ·rw[if_pos h]
 ·rw[if_neg h];simpa using h
theorem So {p:Pat} (h:(Kq p).2.2=0):(Kq p).1=(C9 p).1∧(C9 p).2=0:=by
 unfold Kq at h ⊢
 by_cases g1:(C9 p).2≠0
 ·rw[if_pos g1]at h;exact absurd h g1
 by_cases g2:65536 < ((Na p).length:Int)
 ·rw[if_neg g1,if_pos g2]at h;exact absurd h (by decide)
 rw[if_neg g1,if_neg g2]
 exact⟨rfl,by simpa using g1⟩
theorem cX (p:Pat):(El p).1.map coreA=(JI p).1.map coreA:=by
 unfold El JI
 rw[Tc]
 by_cases h:(FB p).2≠0
 ·rw[if_pos h,if_pos h]
 ·rw[if_neg h,if_neg h,if_neg h]
  have h3:(Kq p).2.2=0:=by rw[Tc];simpa using h
  dsimp only
  rw[(So h3).1,CG,CG]
  refine CC fun a ha=>?_
  obtain⟨i,hi,rfl⟩:=AZ.1 ha
  have e:=Zb p i hi
  exact ph _ (by rw[e]) (by rw[e];exact Int.natCast_nonneg _)
def JX (s:List Sto) (d:Dig):List Atm:=(El ((getS s d).getD Pat.zero)).1
def J1 (s:List Sto) (x:Ident):Option Atm:=if x.n < 0∨((JX s x.patch).length:Int)≤x.n then none else(JX s x.patch)[x.n.toNat]?
theorem gw (s:List Sto) (x:Ident):(J1 s x).map coreA=(IX s x).map coreA:=by
 have e:=cX ((getS s x.patch).getD Pat.zero)
 have el:=congrArg List.length e
 rw[AR,AR]at el
 unfold J1 IX JX Iu
 rw[el]
 by_cases h:x.n < 0∨((JI ((getS s x.patch).getD Pat.zero)).1.length:Int)≤x.n
 ·rw[if_pos h,if_pos h]
 ·rw[if_neg h,if_neg h,←EW,←EW,e]
theorem bL {f:Atm→Bool} (hf: ∀ a,f a=f (coreA a)) {o p:Option Atm} (e:o.map coreA=p.map coreA):EU o f=EU p f:=by
 cases o with
 |none=>cases p with
  |none=>rfl
  |some b=>cases e
 |some a=>cases p with
  |none=>cases e
  |some b=>
   have e2:coreA a=coreA b:=by simpa using e
   unfold EU
   rw[BU,BU,hf a,hf b,e2];rfl
theorem OY (s:List Sto) (x:Ident) {f:Atm→Bool} (hf: ∀ a,f a=f (coreA a)):EU (J1 s x) f=EU (IX s x) f:=bL hf (gw s x)
def PJ (c:Chg) (g:Ident) (r:Rfc):Atm→Bool:=
 if r.f=187 then vm c.kind else if r.f=189 then oa else if r.f=190 then vP r.id c.file g else wa (iW c.kind) g
theorem Tx {l:List Rfc} {r x:Rfc} (h:r∈Je l x):r∈l∨r=x:=by
 unfold Je at h
 split at h
 ·exact .inl h
 ·simpa using h
theorem Rm {α:Type} {f:α→Rfc} {r:Rfc}: ∀ {o:List α} {l:List Rfc},r∈o.foldl (fun l x=>Je l (f x)) l→r∈l∨ ∃ x∈o,r=f x
 | [],_,h=> .inl h
 |y::o,l,h=>by
  rw[BM]at h
  rcases Rm (o:=o) h with h|⟨x,hx,e⟩
  ·rcases Tx h with h|h
   ·exact .inl h
   ·exact .inr ⟨y,by simp,h⟩
  ·exact .inr ⟨x,by simp[hx],e⟩
theorem gY (id:Dig) (c:Chg) (r:Rfc) (h:r∈JZ id c):yL Tryz.prog r (PJ c (DT id c) r):=by
 unfold JZ tQ at h
 rcases Rm h with h|⟨x,_,rfl⟩
 ·unfold iR at h
  have key:r∈bJ c (Y6 c)∨ ∃ x:Ident,r=O8 (DT id c) c x:=by
   split at h
   ·rcases Rm h with h|⟨x,_,e⟩
    ·exact .inl h
    ·exact .inr ⟨x,e⟩
   ·exact .inl h
  rcases key with h|⟨x,rfl⟩
  ·unfold bJ at h
   have key:r∈Y6 c∨r=⟨c.parent,189,[]⟩:=by
    split at h
    ·exact Tx h
    ·exact .inl h
   rcases key with h|rfl
   ·unfold Y6 at h
    have key:r=⟨c.file,187,[.pt (eChg c) 0]⟩:=by
     split at h
     ·rcases Tx h with h|h
      ·cases h
      ·exact h
     ·cases h
    subst key
    exact⟨inferInstance,fun a=>(sx c a).out⟩
   ·exact⟨inferInstance,fun a=>(sw a).out⟩
  ·exact⟨(inferInstance:Az Tryz.prog 190),fun a=>(sv x (DT id c) c a).out⟩
 ·exact⟨(inferInstance:Az Tryz.prog 192),fun a=>(su (iW c.kind) (DT id c) a).out⟩
def Ha (s:List Sto) (c:Chg) (g:Ident) (r:Rfc):Int:=EU (J1 s r.id) (PJ c g r)
def OC (s:List Sto) (id:Dig) (c:Chg):Int:=Aw (Ha s c (DT id c)) (JZ id c)
def RI (s:List Sto) (p:Pat) (id:Dig):Int:=Aw (OC s id) p.changes
theorem LU (f:Rfc→Int) (l:List Rfc) (r:Rfc):Aw f (Je l r)=if Aw f l≠0 then Aw f l else if r.id.patch=Dig.zero then 0 else f r:=by
 unfold Je
 by_cases h:r.id.patch=Dig.zero
 ·rw[if_pos h,if_pos h]
  by_cases h2:Aw f l=0
  ·rw[if_neg (by simp[h2]),h2]
  ·rw[if_pos h2]
 ·rw[if_neg h,if_neg h,Gk]
  have:Aw f [r]=f r:=by
   rw[Aw,Aw];split
   ·rename_i h;exact h.symm
   ·rfl
  rw[this]
theorem Iz {α:Type} (f:Rfc→Int) (h:α→Rfc): ∀ (o:List α) (l:List Rfc),Aw f (o.foldl (fun l x=>Je l (h x)) l)=if Aw f l≠0 then Aw f l else Aw (fun x=>if(h x).id.patch=Dig.zero then 0 else f (h x)) o
 | [],l=>by
   by_cases h2:Aw f l=0
   ·simp[h2,Aw]
   ·simp[h2]
 |x::o,l=>by
  rw[BM,Iz f h o,LU,Aw]
  generalize (if(h x).id.patch=Dig.zero then 0 else f (h x))=v
  by_cases h2:Aw f l=0<;>by_cases h3:v=0<;>simp[h2,h3]
theorem SH {c:Chg} (hf:C3 c=0):(¬(2≤c.kind∧c.kind≤6)→c.file=Ident.zero)∧(c.kind≠2→c.parent=Ident.zero)∧(¬(c.kind=5∨c.kind=6)→c.after=Ident.zero∧c.before=Ident.zero):=by
 have h2:=KG hf
 unfold Fl Hx at h2
 simp only[BW,AB]at h2
 obtain⟨⟨⟨⟨⟨⟨⟨⟨⟨h1,_⟩,h3⟩,_⟩,_⟩,_⟩,h7⟩,h8⟩,_⟩,_⟩:=h2
 refine⟨fun h=>?_,fun h=>?_,fun h=>⟨?_,?_⟩⟩
 ·rwa [if_neg h]at h1
 ·rwa [if_neg h]at h3
 ·rwa [if_neg h]at h7
 ·rwa [if_neg h]at h8
theorem lj (s:List Sto) (id:Dig) {c:Chg} {own:List Atm} (hf:C3 c=0) (hr:FA c own=0):OC s id c=L6 s c id:=by
 have hk:=Jj hf
 obtain⟨z1,z2,z3⟩:=SH hf
 have hn:2≤c.kind∧c.kind≤6→0≤c.file.n:=fun h=>by
  have h1:K1 c own=0:=by
   by_cases h0:K1 c own=0
   ·exact h0
   ·rw[FA,if_pos h0]at hr;exact absurd hr h0
  rw[K1,if_pos h,J7]at h1
  by_cases h2:Di c.file own.length=false
  ·rw[if_pos h2]at h1;omega
  ·have h2:Di c.file own.length=true:=by simpa using h2
   unfold Di at h2
   split at h2<;>simp at h2<;>omega
 have hg:2≤c.kind∧c.kind≤6→DT id c=HP c.file id:=fun h=>by
  unfold DT HP
  by_cases h1:c.file.patch=Dig.zero
  ·rw[if_pos h1,if_pos ⟨hn h,h1⟩]
  ·rw[if_neg h1,if_neg (fun h=>h1 h.2)]
 have e1:Aw (Ha s c (DT id c)) (Y6 c)=Jc s c:=by
  unfold Y6 Jc
  by_cases h:c.kind≠1∧c.kind≠7
  ·rw[if_pos h,LU,if_neg (by simp[Aw])]
   unfold FM
   by_cases h1:c.file.patch=Dig.zero
   ·rw[if_pos h1,if_neg (by simp[h1])]
   ·rw[if_neg h1,if_pos (by simp[h1]),Ha,show PJ c (DT id c) ⟨c.file,187,[.pt (eChg c) 0]⟩=vm c.kind from rfl,OY s c.file (fun a=>rfl)]
    congr 1
    funext a
    unfold vm EL IV
    by_cases h5:c.kind=5∨c.kind=6
    ·rcases h5 with h|h<;>simp[h]
    ·have: ¬c.kind=5∧ ¬c.kind=6:=⟨fun h=>h5 (.inl h),fun h=>h5 (.inr h)⟩
     by_cases h4:c.kind=4<;>simp[this,h4]
  ·rw[if_neg h,z1 (by omega)]
   simp[Aw,FM,Ident.zero]
 have e2: ∀ l,Aw (Ha s c (DT id c)) (bJ c l)=if Aw (Ha s c (DT id c)) l≠0 then Aw (Ha s c (DT id c)) l else Lz s c:=fun l=>by
  unfold bJ Lz
  by_cases h:c.kind=2
  ·rw[if_pos h,LU]
   unfold FM
   by_cases h1:c.parent.patch=Dig.zero
   ·rw[if_pos h1,if_neg (by simp[h1]: ¬(!decide (c.parent.patch=Dig.zero))=true)]
   ·rw[if_neg h1,if_pos (by simp[h1]:(!decide (c.parent.patch=Dig.zero))=true),Ha,show PJ c (DT id c) ⟨c.parent,189,[]⟩=oa from rfl,OY s c.parent (fun a=>rfl)]
    rfl
  ·rw[if_neg h,z2 h,if_neg (by simp[FM,Ident.zero]: ¬FM Ident.zero=true)]
   split
   ·rfl
   ·rename_i h;simpa using h
 have e3:Jc s c=0→ ∀ l,Aw (Ha s c (DT id c)) (iR (DT id c) c l)=if Aw (Ha s c (DT id c)) l≠0 then Aw (Ha s c (DT id c)) l else if Gz s c.after c.file id≠0 then Gz s c.after c.file id else Gz s c.before c.file id:=fun hF l=>by
  unfold iR
  by_cases h:c.kind=5∨c.kind=6
  ·have hx: ∀ x:Ident,(if(O8 (DT id c) c x).id.patch=Dig.zero then 0 else Ha s c (DT id c) (O8 (DT id c) c x))=Gz s x c.file id:=fun x=>by
    unfold Gz FM
    by_cases h1:x.patch=Dig.zero
    ·rw[if_pos (show(O8 (DT id c) c x).id.patch=Dig.zero from h1),if_pos (by simp[h1])]
    ·rw[if_neg (show ¬(O8 (DT id c) c x).id.patch=Dig.zero from h1),Ha,show PJ c (DT id c) (O8 (DT id c) c x)=vP x c.file (DT id c) from rfl,show(O8 (DT id c) c x).id=x from rfl,OY s x (fun a=>rfl)]
     by_cases h2:x=c.file
     ·rw[if_pos (.inr h2)]
      subst h2
      rw[Jc,if_pos (by simp[FM,h1]),EU]at hF
      by_cases h3:(IX s c.file).isSome=false
      ·rw[if_pos h3]at hF;omega
      ·rw[EU,if_neg h3,if_neg (by simp[vP])]
     ·rw[if_neg (by simp[h1,h2]),hg (by omega)]
      congr 1
      funext a
      simp[vP,Jb,h2]
   rw[if_pos h,Iz,Aw,Aw,Aw,hx,hx]
   by_cases q1:Gz s c.after c.file id=0
   ·rw[if_pos q1,if_neg (by simp[q1]: ¬Gz s c.after c.file id≠0)]
    by_cases q2:Gz s c.before c.file id=0
    ·rw[if_pos q2,q2]
    ·rw[if_neg q2]
   ·rw[if_neg q1,if_pos q1]
  ·obtain⟨za,zb⟩:=z3 h
   have q:Gz s Ident.zero c.file id=0:=by rw[Gz,if_pos (.inl (by simp[FM,Ident.zero]))]
   rw[if_neg h,za,zb,q]
   split
   ·rfl
   ·rename_i h;simpa using h
 have e4: ∀ l,Aw (Ha s c (DT id c)) (tQ (DT id c) c l c.over)=if Aw (Ha s c (DT id c)) l≠0 then Aw (Ha s c (DT id c)) l else Aw (O0 s c id) c.over:=fun l=>by
  unfold tQ
  rw[Iz]
  congr 1
  refine GN fun x hx=>?_
  have h15:c.kind≠1∧c.kind≠5:=⟨fun h=>(by rw[Ji hf (.inl h)]at hx;simp at hx),fun h=>(by rw[Ji hf (.inr h)]at hx;simp at hx)⟩
  unfold O0 FM
  by_cases h1:x.patch=Dig.zero
  ·rw[if_pos (show(Mz (DT id c) c x).id.patch=Dig.zero from h1),if_pos (by simp[h1])]
  ·rw[if_neg (show ¬(Mz (DT id c) c x).id.patch=Dig.zero from h1),if_neg (by simp[h1]),Ha,show PJ c (DT id c) (Mz (DT id c) c x)=wa (iW c.kind) (DT id c) from rfl,show(Mz (DT id c) c x).id=x from rfl,OY s x (fun a=>rfl)]
   congr 1
   funext a
   unfold wa HO TS iW
   by_cases h7:c.kind=7
   ·simp[h7]
   ·have:c.kind=2∨c.kind=3∨c.kind=4∨c.kind=6:=by omega
    rw[if_pos this,if_neg h7,hg (by omega)]
 unfold OC JZ L6
 rw[e4]
 by_cases q0:Jc s c=0
 ·rw[e3 q0,e2,e1,q0]
  by_cases q1:Lz s c=0
  ·by_cases q2:Gz s c.after c.file id=0
   ·by_cases q3:Gz s c.before c.file id=0
    ·simp[q1,q2,q3]
    ·simp[q1,q2,q3]
   ·simp[q1,q2]
  ·simp[q1]
 ·have k2:Aw (Ha s c (DT id c)) (bJ c (Y6 c))=Jc s c:=by rw[e2,e1,if_pos q0]
  have k3:Aw (Ha s c (DT id c)) (iR (DT id c) c (bJ c (Y6 c)))=Jc s c:=by
   unfold iR
   split
   ·rw[Iz,k2,if_pos q0]
   ·exact k2
  rw[k3,if_pos q0,if_pos q0]
theorem UZ: ∀ {l:List Chg} {own:List Atm},(DA l own).2=0→ ∀ c∈l,C3 c=0∧ ∃ own,FA c own=0
 | [],_,_,c,h=>by cases h
 |x::l,own,h,c,hc=>by
  unfold DA at h
  by_cases h1:C3 x≠0
  ·rw[if_pos h1]at h;exact absurd h h1
  by_cases h2:FA x own≠0
  ·rw[if_neg h1,if_pos h2]at h;exact absurd h h2
  rw[if_neg h1,if_neg h2]at h
  rcases AI.1 hc with rfl|hc
  ·exact⟨by simpa using h1,own,by simpa using h2⟩
  ·exact UZ h c hc
theorem Uy {p:Pat} (h:(C9 p).2=0): ∀ c∈p.changes,C3 c=0∧ ∃ own,FA c own=0:=by
 have e:J9 p=0:=by
  by_cases h0:J9 p=0
  ·exact h0
  ·rw[Ie,if_pos h0]at h;exact absurd h h0
 rw[Mw e]at h
 exact UZ h
theorem iq (s:List Sto) {p:Pat} (id:Dig) (h:(FB p).2=0):RI s p id=GZ s p id:=by
 have h2:=(So (p:=p) (by rw[Tc];exact h)).2
 refine GN fun c hc=>?_
 obtain⟨hf,own,hr⟩:=Uy h2 c hc
 exact lj s id hf hr
end Go.Proofs
namespace Go.Proofs
open Go Go.Q
theorem QB {n:Nat} (h:n < 256):(UInt8.ofNat n).toNat=n:=by
 rw[UInt8.toNat_ofNat'];omega
theorem Mu (n:Nat): ∀ c∈Hy n,48≤c.toNat∧c.toNat≤57:=by
 induction n using Nat.strongRecOn with
 |_ n ih=>
  by_cases h:n < 10
  ·rw[IL h]
   intro c hc
   rw[An.1 hc,QB (by omega)]
   omega
  ·rw[Ly h]
   intro c hc
   rcases Aj.1 hc with hc|hc
   ·exact ih (n / 10) (by omega) c hc
   ·rw[An.1 hc,QB (by omega)]
    omega
theorem dZ (n:Nat):Hy n≠ []:=by
 by_cases h:n < 10
 ·rw[IL h];simp
 ·rw[Ly h];simp
def qn (l:Str):Nat:=l.foldl (fun a c=>10*a+(c.toNat - 48)) 0
theorem TA (n:Nat):qn (Hy n)=n:=by
 induction n using Nat.strongRecOn with
 |_ n ih=>
  by_cases h:n < 10
  ·rw[IL h]
   show 10*0+((UInt8.ofNat (48+n)).toNat - 48)=n
   rw[QB (by omega)];omega
  ·rw[Ly h]
   have e:=ih (n / 10) (by omega)
   unfold qn at e ⊢
   rw[BO,e]
   show 10*(n / 10)+((UInt8.ofNat (48+n % 10)).toNat - 48)=n
   rw[QB (by omega)];omega
theorem Td {n m:Nat} (h:Hy n=Hy m):n=m:=by rw[←TA n,h,TA]
theorem Vi (n:Nat) (l:Str) (r:Str): ¬45::l=Hy n++r:=fun h=>by
 cases hd:Hy n with
 |nil=>exact dZ n hd
 |cons c t=>
  rw[hd,B0]at h
  injection h with h1 _
  have:=Mu n c (by rw[hd];simp)
  rw[←h1]at this
  exact absurd this.1 (by decide)
theorem fU {n m:Int} (h:JA n=JA m):n=m:=by
 unfold JA at h
 by_cases h1:n < 0
 ·by_cases h2:m < 0
  ·rw[if_pos h1,if_pos h2]at h
   injection h with _ h
   have:=Td h
   omega
  ·rw[if_pos h1,if_neg h2]at h
   exact absurd (by rw[h,BX]) (Vi m.toNat _ [])
 ·by_cases h2:m < 0
  ·rw[if_neg h1,if_pos h2]at h
   exact absurd (by rw[←h,BX]) (Vi n.toNat (Hy (-m).toNat) [])
  ·rw[if_neg h1,if_neg h2]at h
   have:=Td h
   omega
theorem dI: ∀ {a b r s:Str},(∀ c∈a,c.toNat≤57)→(∀ c∈b,c.toNat≤57)→a++58::r=b++58::s→a=b∧r=s
 | [],[],r,s,_,_,h=>⟨rfl,by simpa using h⟩
 | [],y::b,r,s,_,hb,h=>by
   rw[B8,B0]at h
   injection h with h1 _
   have:=hb y (by simp)
   rw[←h1]at this
   exact absurd this (by decide)
 |x::a,[],r,s,ha,_,h=>by
  rw[B8,B0]at h
  injection h with h1 _
  have:=ha x (by simp)
  rw[h1]at this
  exact absurd this (by decide)
 |x::a,y::b,r,s,ha,hb,h=>by
  rw[B0,B0]at h
  injection h with h1 h2
  obtain⟨e1,e2⟩:=dI (fun c hc=>ha c (AH _ hc)) (fun c hc=>hb c (AH _ hc)) h2
  exact⟨by rw[h1,e1],e2⟩
theorem Ou: ∀ {d:Nat} {x:Sx},P2 d x→ ∃ c t,Dn d x=c::t∧c≠41∧(c=40↔x.isList=true)
 |0,_,h=>h.elim
 |d+1,x,_=>by
  cases hl:x.isList with
  |true=>exact⟨40,_,by rw[Dn,if_pos hl],by decide,by simp⟩
  |false=>
   have e:Dn (d+1) x=Hy x.atom.length++58::x.atom:=by rw[Dn,if_neg (by simp[hl])]
   cases hd:Hy x.atom.length with
   |nil=>exact absurd hd (dZ _)
   |cons c t=>
    have hc:=Mu x.atom.length c (by rw[hd];simp)
    refine⟨c,t++58::x.atom,by rw[e,hd];rfl,?_,?_⟩
    ·rintro rfl;exact absurd hc.1 (by decide)
    ·constructor
     ·rintro rfl;exact absurd hc.1 (by decide)
     ·intro h';cases h'
theorem Zw {d:Nat} (ih: ∀ {x y:Sx} {r s:Str},P2 d x→P2 d y→Dn d x++r=Dn d y++s→x=y∧r=s): ∀ {l m:List Sx} {r s:Str},(∀ y∈l,P2 d y)→(∀ y∈m,P2 d y)→l.flatMap (Dn d)++41::r=m.flatMap (Dn d)++41::s→l=m∧r=s
 | [],[],r,s,_,_,h=>⟨rfl,by simpa using h⟩
 | [],y::m,r,s,_,hm,h=>by
   obtain⟨c,t,e,h41,_⟩:=Ou (hm y (by simp))
   rw[List.flatMap_nil,B8,DP,e,B0,B0]at h
   injection h with h1 _
   exact absurd h1.symm h41
 |x::l,[],r,s,hl,_,h=>by
  obtain⟨c,t,e,h41,_⟩:=Ou (hl x (by simp))
  rw[List.flatMap_nil,B8,DP,e,B0,B0]at h
  injection h with h1 _
  exact absurd h1 h41
 |x::l,y::m,r,s,hl,hm,h=>by
  rw[DP,DP,AU,AU]at h
  obtain⟨e1,e2⟩:=ih (hl x (by simp)) (hm y (by simp)) h
  obtain⟨e3,e4⟩:=Zw ih (fun z hz=>hl z (AH _ hz)) (fun z hz=>hm z (AH _ hz)) e2
  exact⟨by rw[e1,e3],e4⟩
theorem Zu: ∀ (d:Nat) {x y:Sx} {r s:Str},P2 d x→P2 d y→Dn d x++r=Dn d y++s→x=y∧r=s
 |0,_,_,_,_,h,_,_=>h.elim
 |d+1,x,y,r,s,hx,hy,h=>by
  obtain⟨c1,t1,e1,_,k1⟩:=Ou hx
  obtain⟨c2,t2,e2,_,k2⟩:=Ou hy
  have hc:c1=c2:=by
   rw[e1,e2,B0,B0]at h
   injection h
  subst hc
  have hkind:x.isList=y.isList:=by
   rw[Ih];exact k1.symm.trans k2
  clear k1 k2 e1 e2
  obtain⟨b1,a1,l1⟩:=x
  obtain⟨b2,a2,l2⟩:=y
  change b1=b2 at hkind
  subst hkind
  rcases hx with ⟨h1,h2,h3⟩|⟨h1,h2,h3⟩
  ·rcases hy with ⟨_,g2,_⟩|⟨g1,_⟩
   ·change b1=false at h1
    change l1= []at h2
    change l2= []at g2
    subst h1 h2 g2
    have q1:Dn (d+1) (.mk false a1 [])=Hy a1.length++58::a1:=rfl
    have q2:Dn (d+1) (.mk false a2 [])=Hy a2.length++58::a2:=rfl
    rw[q1,q2,AU,AU,B0,B0]at h
    obtain⟨e1,e2⟩:=dI (fun c hc=>(Mu _ c hc).2) (fun c hc=>(Mu _ c hc).2) h
    obtain⟨e3,e4⟩:=List.append_inj e2 (Td e1)
    exact⟨by rw[e3],e4⟩
   ·change b1=false at h1
    change b1=true at g1
    rw[h1]at g1;cases g1
  ·rcases hy with ⟨g1,_⟩|⟨_,g2,g3⟩
   ·change b1=true at h1
    change b1=false at g1
    rw[h1]at g1;cases g1
   ·change b1=true at h1
    change a1= []at h2
    change a2= []at g2
    subst h1 h2 g2
    have q1:Dn (d+1) (.mk true [] l1)=40::(l1.flatMap (Dn d)++ [41]):=rfl
    have q2:Dn (d+1) (.mk true [] l2)=40::(l2.flatMap (Dn d)++ [41]):=rfl
    rw[q1,q2,B0,B0,AU,AU]at h
    injection h with _ h
    obtain⟨e1,e2⟩:=Zw (fun hx hy h=>Zu d hx hy h) h3 g3 h
    exact⟨congrArg (Sx.mk true []) e1,e2⟩
theorem Ke {α β:Type} {f:α→β}: ∀ {l m:List α},(∀ x∈l,∀ y∈m,f x=f y→x=y)→l.map f=m.map f→l=m
 | [],[],_,_=>rfl
 | [],y::m,_,h=>by simp at h
 |x::l,[],_,h=>by simp at h
 |x::l,y::m,hf,h=>by
  rw[Ar,Ar]at h
  injection h with h1 h2
  rw[hf x (by simp) y (by simp) h1,Ke (fun a ha b hb=>hf a (AH _ ha) b (AH _ hb)) h2]
theorem HN {a b:Str} (h:Ch a=Ch b):a=b:=congrArg Sx.atom h
theorem KM {l m:List Sx} (h:E5 l=E5 m):l=m:=congrArg Sx.list h
theorem Yf {a b:Dig} (h:KC a=KC b):a=b:=by
 unfold KC at h
 by_cases h1:a=Dig.zero
 ·by_cases h2:b=Dig.zero
  ·rw[h1,h2]
  ·rw[if_pos h1,if_neg h2]at h
   have:=congrArg List.length (HN h)
   rw[b.len]at this;simp at this
 ·by_cases h2:b=Dig.zero
  ·rw[if_neg h1,if_pos h2]at h
   have:=congrArg List.length (HN h)
   rw[a.len]at this;simp at this
  ·rw[if_neg h1,if_neg h2]at h
   exact Dig.ext (HN h)
def SO (n:Int):Prop:= -1099511627776≤n∧n≤1099511627776
theorem Nr {n m:Int} (hn:SO n) (hm:SO m) (h:GB n=GB m):n=m:=by
 unfold SO at hn hm
 unfold GB RY at h
 rw[if_neg (by omega),if_neg (by omega)]at h
 exact fU (HN h)
theorem H9 {x y:Ident} (hx:SO x.n) (hy:SO y.n) (h:GA x=GA y):x=y:=by
 have h:=KM h
 injection h with h1 h2
 injection h2 with h2 _
 obtain⟨p,n⟩:=x
 obtain⟨q,m⟩:=y
 have e1:=Yf h1
 have e2:=Nr hx hy h2
 subst e1 e2;rfl
structure qE (c:Chg):Prop where
 fields:C3 c=0
 file:SO c.file.n
 parent:SO c.parent.n
 after:SO c.after.n
 before:SO c.before.n
 over: ∀ x∈c.over,SO x.n
 mode:c.kind=3→SO c.mode
 type:c.kind=1→SO c.type
theorem Ln {l m:List Ident} (hl: ∀ x∈l,SO x.n) (hm: ∀ x∈m,SO x.n) (h:J8 l=J8 m):l=m:=
 Ke (fun x hx y hy e=>H9 (hl x hx) (hm y hy) e) (KM h)
theorem VZ (c:Chg):(Kr c).list=([GB c.kind]++K0 c++IU c)++Ky c:=rfl
theorem jq {c e:Chg} (hc:qE c) (he:qE e) (h:Kr c=Kr e):c=e:=by
 have k1:=Jj hc.fields
 have k2:=Jj he.fields
 have z1:=KG hc.fields
 have z2:=KG he.fields
 have h:=congrArg Sx.list h
 rw[VZ,VZ]at h
 have hk:c.kind=e.kind:=by
  have h1:=congrArg List.head? h
  simp only[MQ,B0,List.head?_cons,J3]at h1
  exact Nr (by unfold SO;omega) (by unfold SO;omega) h1
 obtain⟨ck,cfile,ctype,cparent,cname,cmode,cdata,cafter,cbefore,clines,cover⟩:=c
 obtain⟨ek,efile,etype,eparent,ename,emode,edata,eafter,ebefore,elines,eover⟩:=e
 change ck=ek at hk
 subst hk
 obtain⟨_,c1,c2,c3,c4,c5,c6,c7⟩:=hc
 obtain⟨_,e1,e2,e3,e4,e5,e6,e7⟩:=he
 simp only at k1 c1 c2 c3 c4 c5 c6 c7 e1 e2 e3 e4 e5 e6 e7
 unfold Fl Hx at z1 z2
 simp only[BW,AB]at z1 z2
 obtain⟨⟨⟨⟨⟨⟨⟨⟨⟨p1,p2⟩,p3⟩,p4⟩,p5⟩,p6⟩,p7⟩,p8⟩,p9⟩,p10⟩:=z1
 obtain⟨⟨⟨⟨⟨⟨⟨⟨⟨q1,q2⟩,q3⟩,q4⟩,q5⟩,q6⟩,q7⟩,q8⟩,q9⟩,q10⟩:=z2
 have n9: ∀ {α:Type} {l:List α},(l.length:Int)=0→l= []:=fun h=>BL (by omega)
 have p9:=n9 p9
 have p10:=n9 p10
 have q9:=n9 q9
 have q10:=n9 q10
 clear n9
 have hlin: ∀ {l m:List Str},E5 (l.map Ch)=E5 (m.map Ch)→l=m:=fun h=>Ke (fun _ _ _ _ e=>HN e) (KM h)
 rcases kinds k1 with rfl|rfl|rfl|rfl|rfl|rfl|rfl<;>
  simp (decide:=true) only[K0,IU,Ky,if_true,if_false,ite_true,ite_false,B8,BX,MQ,B0,OQ,true_and,and_true,and_self,true_or,or_true,or_self,ne_eq,not_true_eq_false,not_false_eq_true]at h p1 p2 p3 p4 p5 p6 p7 p8 p9 p10 q1 q2 q3 q4 q5 q6 q7 q8 q9 q10
 ·have:=Nr (c7 rfl) (e7 rfl) h
  simp only[*]
 ·obtain⟨h1,h2,h3,h4⟩:=h
  have:=H9 c1 e1 h1
  have:=H9 c2 e2 h2
  have:=HN h3
  have:=Ln c5 e5 h4
  simp only[*]
 ·obtain⟨h1,h2,h3⟩:=h
  have:=H9 c1 e1 h1
  have:=Nr (c6 rfl) (e6 rfl) h2
  have:=Ln c5 e5 h3
  simp only[*]
 ·obtain⟨h1,h2,h3⟩:=h
  have:=H9 c1 e1 h1
  have:=HN h2
  have:=Ln c5 e5 h3
  simp only[*]
 ·obtain⟨h1,h2,h3,h4⟩:=h
  have:=H9 c1 e1 h1
  have:=H9 c3 e3 h2
  have:=H9 c4 e4 h3
  have:=hlin h4
  simp only[*]
 ·obtain⟨h1,h2,h3,h4⟩:=h
  have:=H9 c1 e1 h1
  have:=H9 c3 e3 h2
  have:=H9 c4 e4 h3
  have:=Ln c5 e5 h4
  simp only[*]
 ·have:=Ln c5 e5 h
  simp only[*]
theorem SU (N:Nat): ∀ {l:List Chg} {own:List Atm},(DA l own).2=0→own.length+4001*l.length≤N→ ∀ c∈l,C3 c=0∧ ∃ own:List Atm,own.length≤N∧FA c own=0
 | [],_,_,_,c,h=>by cases h
 |x::l,own,h,hN,c,hc=>by
  unfold DA at h
  by_cases h1:C3 x≠0
  ·rw[if_pos h1]at h;exact absurd h h1
  by_cases h2:FA x own≠0
  ·rw[if_neg h1,if_pos h2]at h;exact absurd h h2
  rw[if_neg h1,if_neg h2]at h
  have h1:C3 x=0:=by simpa using h1
  rw[AN]at hN
  rcases AI.1 hc with rfl|hc
  ·exact⟨h1,own,by omega,by simpa using h2⟩
  ·refine SU N h ?_ c hc
   have:=Lu x own.length
   have:=JT h1
   rw[AA]
   omega
theorem QP {x:Ident} {own:List Atm} {b:Bool} (hN:own.length≤1000000000) (h:J7 x own b=0):SO x.n:=by
 unfold J7 at h
 by_cases h1:Di x own.length=false
 ·rw[if_pos h1]at h;exact absurd h (by decide)
 ·have h1:Di x own.length=true:=by simpa using h1
  unfold Di at h1
  unfold SO
  split at h1<;>simp at h1<;>omega
theorem Qj:SO Ident.zero.n:=by unfold SO;exact⟨by decide,by decide⟩
theorem qD {c:Chg} {own:List Atm} (hN:own.length≤1000000000) (hf:C3 c=0) (hr:FA c own=0):qE c:=by
 obtain⟨z1,z2,z3⟩:=SH hf
 have r1:K1 c own=0:=by
  by_cases h0:K1 c own=0
  ·exact h0
  ·rw[FA,if_pos h0]at hr;exact absurd hr h0
 rw[FA,if_neg (by simp[r1])]at hr
 have r2:Lq c own=0:=by
  by_cases h0:Lq c own=0
  ·exact h0
  ·rw[if_pos h0]at hr;exact absurd hr h0
 rw[if_neg (by simp[r2])]at hr
 have r3:IK c own=0:=by
  by_cases h0:IK c own=0
  ·exact h0
  ·rw[if_pos h0]at hr;exact absurd hr h0
 rw[if_neg (by simp[r3])]at hr
 have r4:Aw (Nu c own) c.over=0:=by
  by_cases h0:Aw (Nu c own) c.over=0
  ·exact h0
  ·rw[if_pos h0]at hr;exact absurd hr h0
 have hE:(c.kind=5∨c.kind=6)→ ∀ x∈ [c.after,c.before],SO x.n:=fun h x hx=>by
  rw[IK,if_pos (by unfold IV;simpa using h)]at r3
  exact QP hN (DY r3 x hx)
 refine⟨hf,?_,?_,?_,?_,fun x hx=>QP hN (DY r4 x hx),fun h=>?_,fun h=>?_⟩
 ·by_cases h:2≤c.kind∧c.kind≤6
  ·rw[K1,if_pos h]at r1;exact QP hN r1
  ·rw[z1 h];exact Qj
 ·by_cases h:c.kind=2
  ·by_cases h2:c.parent=rRoot
   ·rw[h2];unfold SO;exact⟨by decide,by decide⟩
   ·rw[Lq,if_pos ⟨h,h2⟩]at r2;exact QP hN r2
  ·rw[z2 h];exact Qj
 ·by_cases h:c.kind=5∨c.kind=6
  ·exact hE h _ (by simp)
  ·rw[(z3 h).1];exact Qj
 ·by_cases h:c.kind=5∨c.kind=6
  ·exact hE h _ (by simp)
  ·rw[(z3 h).2];exact Qj
 ·unfold SO
  unfold C3 at hf
  have: ¬(c.mode < 0∨511 < c.mode):=fun hm=>by
   rw[if_neg (by omega)]at hf
   split at hf
   ·omega
   ·rw[if_neg (by omega),if_neg (by omega),if_pos ⟨h,hm⟩]at hf;omega
  omega
 ·unfold SO
  unfold C3 at hf
  have: ¬(c.type < 1∨4 < c.type):=fun hm=>by
   rw[if_neg (by omega)]at hf
   split at hf
   ·omega
   ·rw[if_pos ⟨h,hm⟩]at hf;omega
  omega
theorem UX {p:Pat} (h:(C9 p).2=0):(∀ c∈p.changes,qE c)∧SO p.time:=by
 have e:J9 p=0:=by
  by_cases h0:J9 p=0
  ·exact h0
  ·rw[Ie,if_pos h0]at h;exact absurd h h0
 rw[Mw e]at h
 have ht: ¬(p.time < 0∨1099511627776 < p.time)∧ ¬400 < (p.changes.length:Int):=by
  unfold J9 at e
  split at e
  ·omega
  split at e
  ·omega
  split at e
  ·omega
  rename_i ht
  split at e
  ·rename_i hd;exact absurd e hd
  split at e
  ·omega
  split at e
  ·omega
  rename_i hc
  exact⟨ht,hc⟩
 refine⟨fun c hc=>?_,by unfold SO;omega⟩
 obtain⟨hf,own,hN,hr⟩:=SU 1600400 h (by simp;omega) c hc
 exact qD (by omega) hf hr
theorem k9 {p q:Pat} (hp:W6 p) (hq:W6 q) (cp:(C9 p).2=0) (cq:(C9 q).2=0) (h:Na p=Na q):p=q:=by
 obtain⟨c1,t1⟩:=UX cp
 obtain⟨c2,t2⟩:=UX cq
 have h1:=(Zu 8 (r:= []) (s:= []) hp.ok.1 hq.ok.1 (by rw[BX,BX];exact h)).1
 have h1:=KM h1
 simp only[OQ,and_true,true_and]at h1
 obtain⟨e1,e2,e3,e4,e5⟩:=h1
 replace e1:=HN e1
 replace e2:=HN e2
 replace e3:=Nr t1 t2 e3
 replace e4:=Ke (fun _ _ _ _ e=>Yf e) (KM e4)
 replace e5:=Ke (fun x hx y hy e=>jq (c1 x hx) (c2 y hy) e) (KM e5)
 obtain⟨a1,a2,a3,a4,a5⟩:=p
 obtain⟨b1,b2,b3,b4,b5⟩:=q
 simp only at e1 e2 e3 e4 e5
 subst e1 e2 e3 e4 e5;rfl
attribute [local irreducible] ER AV BA Fc
section
variable {P:Program} {N:Nat} {all:Array Oper} {K:Env→List Res→Prop} {fl:List Bool} {os:List Oper} {ρ:Env} {L:List Res} {d:Nat} {ty:TypeId} {pos:String} {af:Array Edge}
theorem Np {x:Operand} {cs:List PV} {off:Nat} (hx:ρ.ev x= .pt cs off) (k:AV P N all K fl.tail os (CV ρ d (.pt cs off)) L) (hd:Nat.blt d N=true:=by rfl):AV P N all K fl (⟨some d,.nilCheck x,ty,pos,af,none⟩::os) ρ L:=
 Bh hd (B7 fun a w g ha hi=>by
  have h1:=ha x (by simp[Op.operands])
  rw[hx]at h1
  generalize hv:a.eval x=v at h1
  cases h1 with
  |pt ff hH hv'=>
   rename_i b o
   exact⟨.pointer (some ⟨b,o+off,none⟩),by simp[execOp,hv],.pt ff hH hv'⟩) k
end
instance xt (s:List Sto) (m:Nat):K5 (Xl s m) 0 [.slice (s.map eSto) .ro]:=⟨by simp[Xl]⟩
instance xr (s:List Sto) (m:Nat):K5 (Xl s m) 1 [.raw (.map (some m))]:=⟨by simp[Xl]⟩
def JY (s:List Sto) (known:List (Dig × List Atm)):Prop:= ∀ d l,C4 d known=some l→l=JX s d
theorem JY.set {s:List Sto} {known:List (Dig × List Atm)} (h:JY s known) (d:Dig):JY s (Cn d (JX s d) known):=fun x l e=>by
 rw[Ei]at e
 split at e
 ·rename_i hx;subst hx;injection e with e;exact e.symm
 ·exact h x l e
theorem mA (s:List Sto) (hg:HF s) (m:Nat) (known:List (Dig × List Atm)) (hk:JY s known) (x:Ident):BA Tryz.prog 140 [.pt (Xl s m) 0,.agg (eIdent x)] (Hf m known) (fun r L'=>r= .tuple [.agg (eAtm ((J1 s x).getD Atm.zero)),.raw (.bool (J1 s x).isSome)]∧ ∃ known',L'=Hf m known'∧JY s known'):=by
 have i1:B1 (ED ((getS s x.patch).getD Pat.zero)=false):=⟨hg.great _⟩
 refine C5 Tryz.func140 rfl Tryz.ntmps140 (rs:= [.cell 4 125,.tmp 5]) rfl rfl fun hb LF=>?_
 rw[show Hf m known++LF= .map m (BQ kDig (Jr eAtm) known)::LF from rfl]
 refine wf ?_
 refine C6 fun b4=>?_
 refine wf ?_
 refine Np rfl ?_
 refine wf ?_
 refine E0 (.swap _ _ _) ?_
 refine Cv (σ:=List (Dig × List Atm)) (fun k=>JY s k) (fun k=> [(3,.pt (eIdent x) 0),(4,.raw (.pointer (some ⟨b4,0,none⟩))),(6,.slice ((JX s x.patch).map eAtm) .ro)]) (fun k=> .map m (BQ kDig (Jr eAtm) k):: .box b4 125 (eAtm Atm.zero)::LF) ?_ ?_
 ·refine AW (fun h=>?_) (fun h=>?_)
  ·refine wn ?_
   refine Gp [10,11] (by decide+kernel) ?_
   refine B4 0 ?_
   refine B4 1 (hq:=fun _=>by refine Np rfl ?_;refine AD ?_;exact⟨Cz _ _ _,rfl⟩) ?_
   refine B4 2 ?_
   refine B4 3 ?_
   refine B4 4 ?_
   refine B4 5 ?_
   refine B4 6 ?_
   refine B4 7 ?_
   refine B4 8 ?_
   refine B4 9 ?_
   refine Ab 2 10 ?_
   refine C6 fun b8=>?_
   refine AD ?_
   refine Ab 1 11 ?_
   refine wo ?_
   refine AD ?_
   refine Ab 0 12 ?_
   refine wo ?_
   refine AD ?_
   refine Cu (by decide+kernel) ?_
   refine Ao 8 ?_
   refine wn ?_
   refine Bj 7 ?_ ?_
   ·decide+kernel
   refine wf ?_
   refine Np rfl ?_
   refine wf ?_
   exact⟨Cn x.patch (JX s x.patch) known,hk.set _,⟨rfl,rfl,rfl⟩,.refl _⟩
  ·have h1:(C4 x.patch known).isSome=true:=by simpa using h
   obtain⟨l,hl⟩:=Fe.1 h1
   have e:=hk _ _ hl
   subst e
   refine wf ?_
   refine⟨known,hk,⟨rfl,rfl,by rw[hl];rfl⟩,.refl _⟩
 intro k hkn
 refine E0 (.swap _ _ _) ?_
 refine wf ?_
 refine BZ [(53,.raw (.bool (decide (x.n < 0∨((JX s x.patch).length:Int)≤x.n)))),(3,.pt (eIdent x) 0),(4,.raw (.pointer (some ⟨b4,0,none⟩))),(6,.slice ((JX s x.patch).map eAtm) .ro)] (.box b4 125 (eAtm Atm.zero):: .map m (BQ kDig (Jr eAtm) k)::LF) ?_ ?_
 ·repeat' (first|(refine A6 (fun h=>?_) (fun h=>?_)<;>refine wf ?_)|(refine AY (fun h=>?_) (fun h=>?_)<;>refine wf ?_)|(refine AW (fun h=>?_) (fun h=>?_)<;>refine wf ?_)|(refine Av (fun h=>?_) (fun h=>?_)<;>(have h2:=h;(try simp only[AB,A8,AJ,AL]at h2);refine wf ?_)))
  all_goals (refine⟨⟨CD (by rfl) ?_,rfl,rfl,rfl⟩,.refl _⟩;first|(simp_all;done)|grind)
 refine wf ?_
 refine A6 (fun h=>?_) (fun h=>?_)
 ·refine wf ?_
  refine⟨trivial,_,Hf m k,.cons (.cell 4 125 rfl AG (inferInstance:FF Tryz.prog 125 172).out (by simp)) (.cons (.tmp 5) .nil),.cons _ (.refl _),?_,k,rfl,hkn⟩
  rw[J1,if_pos h];rfl
 ·have hlt:x.n.toNat < (JX s x.patch).length:=by omega
  refine wf ?_
  refine⟨trivial,_,Hf m k,.cons (.cell 4 125 rfl AG (inferInstance:FF Tryz.prog 125 172).out (by simp)) (.cons (.tmp 5) .nil),.cons _ (.refl _),?_,k,rfl,hkn⟩
  rw[J1,if_neg h,AO hlt];rfl
theorem fM (id:Dig) (c:Chg):(JZ id c).length≤c.over.length+4:=by
 have r1:=dY c
 have r2:=dX c (Y6 c)
 have r3:=dW (DT id c) c (bJ c (Y6 c))
 have r4:=Kh (Mz (DT id c) c) c.over (iR (DT id c) c (bJ c (Y6 c)))
 unfold JZ tQ
 omega
theorem ep (s:List Sto) (hg:HF s) (m:Nat) (known:List (Dig × List Atm)) (hk0:JY s known) (x:Sto) (hx:ED x.patch=false):BA Tryz.prog 76 [.pt (Xl s m) 0,.agg (eSto x)] (Hf m known) (fun r L'=>r= .raw (.int .i64 (RI s x.patch x.id))∧ ∃ known',L'=Hf m known'∧JY s known'):=by
 have hgf:=(Ek hx).2.2.2.2
 have hcl:=(Ek hx).2.2.2.1
 refine C5 Tryz.func76 rfl Tryz.ntmps76 (rs:= [.tmp 4]) rfl rfl fun hb LF=>?_
 rw[show Hf m known++LF= .map m (BQ kDig (Jr eAtm) known)::LF from rfl]
 refine wf ?_
 refine Ad (σ:=Nat × List (Dig × List Atm)) (fun k=>k.1≤x.patch.changes.length∧JY s k.2∧ ∀ i (h:i < x.patch.changes.length),i < k.1→OC s x.id x.patch.changes[i]=0) (fun k=>x.patch.changes.length - k.1) (fun k=> [(0,.pt (Xl s m) 0),(3,.pt (eSto x) 0),(13,.slice (x.patch.changes.map eChg) .ro),(14,.raw (.int .i64 x.patch.changes.length)),(15,.raw (.int .i64 k.1))]) (fun k=> .map m (BQ kDig (Jr eAtm) k.2)::LF) (0,known) ⟨by simp,hk0,by simp⟩ ⟨rfl,rfl,rfl,rfl,rfl⟩ (.refl _) ?_
 rintro⟨k,kn⟩ ⟨hk,hkn,he⟩
 dsimp only at hk hkn he ⊢
 refine wf ?_
 refine A6 (fun hc=>?_) (fun hc=>?_)
 ·have hlt:k < x.patch.changes.length:=by omega
  have hat:=DU (f:=OC s x.id) hlt he
  have hsu:=fun h=>EC (f:=OC s x.id) he hlt h
  have hcg:=hgf _ (AF hlt)
  refine wz fun b6=>?_
  generalize x.patch.changes[k]=c at hat hsu hcg ⊢
  have i1:B1 (c.over.length≤400):=⟨by have:=hcg.over;omega⟩
  have hrl:(JZ x.id c).length≤400:=by have:=fM x.id c;have:=hcg.over;omega
  refine Ao 6 ?_
  refine wf ?_
  refine Ad (σ:=Nat × List (Dig × List Atm)) (fun j=>j.1≤(JZ x.id c).length∧JY s j.2∧ ∀ i (h:i < (JZ x.id c).length),i < j.1→Ha s c (DT x.id c) (JZ x.id c)[i]=0) (fun j=>(JZ x.id c).length - j.1) (fun j=> [(0,.pt (Xl s m) 0),(3,.pt (eSto x) 0),(13,.slice (x.patch.changes.map eChg) .ro),(14,.raw (.int .i64 x.patch.changes.length)),(15,.raw (.int .i64 k)),(22,.slice ((JZ x.id c).map eRfc) .ro),(23,.raw (.int .i64 (JZ x.id c).length)),(24,.raw (.int .i64 j.1))]) (fun j=> .map m (BQ kDig (Jr eAtm) j.2)::LF) (0,kn) ⟨by simp,hkn,by simp⟩ ⟨rfl,rfl,rfl,rfl,rfl,rfl,rfl,rfl⟩ (.refl _) ?_
  rintro⟨j,kn2⟩ ⟨hj,hkn2,hje⟩
  dsimp only at hj hkn2 hje ⊢
  refine wf ?_
  refine A6 (fun hc2=>?_) (fun hc2=>?_)
  ·have hlt2:j < (JZ x.id c).length:=by omega
   have hat2:=DU (f:=Ha s c (DT x.id c)) hlt2 hje
   have hsu2:=fun h=>EC (f:=Ha s c (DT x.id c)) hje hlt2 h
   have hfit:=gY x.id c _ (AF hlt2)
   refine wz fun b8=>?_
   generalize (JZ x.id c)[j]=r at hat2 hsu2 hfit ⊢
   refine Ao 8 ?_
   have i2:Az Tryz.prog r.f:=hfit.fn
   have i3: ∀ a:Atm,CB Tryz.prog r.f (.agg (eAtm a)::r.cs) (.raw (.bool (PJ c (DT x.id c) r a))):=fun a=>⟨hfit.out a⟩
   have er:Ha s c (DT x.id c) r=if(J1 s r.id).isSome=false then 7 else if PJ c (DT x.id c) r ((J1 s r.id).getD Atm.zero)=false then 8 else 0:=rfl
   refine wf ?_
   refine CW (xs:= [.tmp 29,.tmp 31]) (Hf m kn2) LF (f:=140) (cs:= []) (CA _) rfl rfl (.refl _) _ (mA s hg m kn2 hkn2 r.id) fun u L' ⟨e1,kn3,e2,hkn3⟩=>?_
   subst e1;rw[e2]
   rw[show Hf m kn3++LF= .map m (BQ kDig (Jr eAtm) kn3)::LF from rfl]
   refine wf ?_
   refine C6 fun b9=>?_
   refine wo ?_
   refine AD ?_
   refine Ao 9 ?_
   refine wf ?_
   refine AW (fun h=>?_) (fun h=>?_)
   ·refine wf ?_
    have h:(J1 s r.id).isSome=false:=MC h
    rw[if_pos h]at er
    refine⟨trivial,_,Hf m kn3,.cons (.tmp 4) .nil,.refl _,?_,kn3,rfl,hkn3⟩
    have e3:=hat2 (by rw[er];decide)
    have e4:OC s x.id c=7:=by rw[OC,e3,er]
    rw[RI,hat (by rw[e4];decide),e4];rfl
   have h:(J1 s r.id).isSome=true:=u5 h
   rw[if_neg (by simp[h])]at er
   refine wf ?_
   refine AW (fun h2=>?_) (fun h2=>?_)
   ·refine wf ?_
    have h2:PJ c (DT x.id c) r ((J1 s r.id).getD Atm.zero)=false:=MC h2
    rw[if_pos h2]at er
    refine⟨trivial,_,Hf m kn3,.cons (.tmp 4) .nil,.refl _,?_,kn3,rfl,hkn3⟩
    have e3:=hat2 (by rw[er];decide)
    have e4:OC s x.id c=8:=by rw[OC,e3,er]
    rw[RI,hat (by rw[e4];decide),e4];rfl
   ·have h2:PJ c (DT x.id c) r ((J1 s r.id).getD Atm.zero)=true:=u5 h2
    rw[if_neg (by simp[h2])]at er
    refine wf ?_
    exact⟨(j+1,kn3),⟨by dsimp only;omega,hkn3,hsu2 er⟩,by dsimp only;omega,⟨rfl,rfl,rfl,rfl,rfl,rfl,rfl,rfl⟩,.refl _⟩
  ·have e0:OC s x.id c=0:=E3 fun i h=>hje i h (by omega)
   refine wf ?_
   exact⟨(k+1,kn2),⟨by dsimp only;omega,hkn2,hsu e0⟩,by dsimp only;omega,⟨rfl,rfl,rfl,rfl,rfl⟩,.refl _⟩
 ·refine wf ?_
  refine⟨trivial,_,Hf m kn,.cons (.tmp 4) .nil,.refl _,?_,kn,rfl,hkn⟩
  rw[RI,E3 fun i h=>he i h (by omega)];rfl
attribute [local irreducible] Gw
theorem Fj {p:Pat} (h:(FB p).2=0):(C9 p).2=0∧(Cb p).1=Na p:=by
 have h1: ¬(Cb p).2≠0:=fun h'=>by rw[FB,if_pos h']at h;exact h' h
 unfold Cb at h1 ⊢
 by_cases h2:(C9 p).2≠0
 ·rw[if_pos h2]at h1;exact absurd h2 h1
 rw[if_neg h2]at h1 ⊢
 refine⟨Cy.1 h2,?_⟩
 unfold KD at h1 ⊢
 by_cases h3:65536 < ((Na p).length:Int)
 ·rw[if_pos h3]at h1;exact absurd (by decide) h1
 ·rw[if_neg h3]
theorem gi {p q:Pat} (gp:ED p=false) (gq:ED q=false) (hp:(FB p).2=0) (hq:(FB q).2=0):decide ((Cb q).1=(Cb p).1)=decide (p=q):=by
 obtain⟨c1,e1⟩:=Fj hp
 obtain⟨c2,e2⟩:=Fj hq
 rw[e1,e2,decide_eq_decide]
 exact⟨fun h=>k9 (O9 gp) (O9 gq) c1 c2 h.symm,fun h=>by rw[h]⟩
instance vp (a b:Pat) [ha:B1 (ED a=false)] [hb:B1 (ED b=false)]:CB Tryz.prog 93 [.agg (Bz a),.agg (Bz b)] (.raw (.bool (decide ((Cb a).1=(Cb b).1)))):=⟨by
 refine Au Tryz.func93 Tryz.ntmps93 rfl (rs:= [.tmp 4]) rfl rfl fun hb LF=>?_
 refine wf ?_
 exact B2 (.refl _)⟩
theorem Ys (s:List Sto) (x:Sto):Kb s x=s.take (Jf s x.id)++x::s.drop (Jf s x.id):=by
 have e:(fun(y:Sto)=>!decide (Ep y.id x.id < 0))=fun y=>decide (0≤Ep y.id x.id):=by
  funext y
  by_cases h:Ep y.id x.id < 0
  ·rw[BR h,DB (by omega)];rfl
  ·rw[DB h,BR (by omega)];rfl
 unfold Kb Jf
 rw[List.takeWhile_eq_take_findIdx_not,List.dropWhile_eq_drop_findIdx_not,e]
theorem oX (s:List Sto) (d:Dig):Jf s d≤s.length:=A0A
theorem oY {s:List Sto} (ha:H2 (ids s)) {d:Dig} (h:d∈ids s): ∃ hlt:Jf s d < s.length,s[Jf s d].id=d∧getS s d=some s[Jf s d].patch:=by
 obtain⟨x,hx,rfl⟩:=AQ.1 h
 obtain⟨i,hi,rfl⟩:=AZ.1 hx
 have e:Jf s s[i].id=i:=XA (Nat.le_of_lt hi) (fun k hk hki=>by
  have:=Ay.1 ha k i (by simpa [ids]using hk) (by simpa [ids]using hi) hki
  simp only[ids,BN]at this
  exact this) (fun k hk hik=>by
  rcases B9 i k with h'|h'
  ·have:=Ay.1 ha i k (by simpa [ids]using hi) (by simpa [ids]using hk) h'
   simp only[ids,BN]at this
   rcases Ug (Ep s[k].id s[i].id) 0 with h2|h2
   ·exact absurd h2 (Dig.lt_asymm this)
   ·exact h2
  ·have e2:k=i:=by omega
   subst e2
   rcases Ug (Ep s[k].id s[k].id) 0 with h2|h2
   ·exact absurd h2 (Dig.lt_irrefl _)
   ·exact h2)
 refine⟨by rw[e];exact hi,?_⟩
 simp only[e]
 exact⟨trivial,Qm ha hx⟩
def Pv (s:List Sto) (p:Pat):Int:=if(getS s (FB p).1).isSome=true then(if p=(getS s (FB p).1).getD Pat.zero then 6 else 14)else if DW (ids s) (BP p)=false then 19 else GZ s p (FB p).1
theorem kB {s:List Sto} {p:Pat} (h0:(FB p).2=0) (hl:s.length < 400):FC s p=if Pv s p≠0 then([],Dig.zero,Pv s p)else(Kb s ⟨(FB p).1,p⟩,(FB p).1,0):=by
 unfold FC Pv
 rw[if_neg (by simp[h0])]
 by_cases h1:(getS s (FB p).1).isSome=true
 ·rw[if_pos h1,if_pos h1]
  by_cases h2:p=(getS s (FB p).1).getD Pat.zero
  ·rw[if_pos h2,if_pos h2];rfl
  ·rw[if_neg h2,if_neg h2];rfl
 rw[if_neg h1,if_neg h1]
 by_cases h3:DW (ids s) (BP p)=false
 ·rw[if_pos h3,if_pos h3];rfl
 rw[if_neg h3,if_neg h3]
 by_cases h4:GZ s p (FB p).1≠0
 ·rw[if_pos h4,if_pos h4]
 ·rw[if_neg h4,if_neg h4,if_neg (by omega)]
theorem de {a b:Res} {R LF:List Res}:(R++a::b::LF).Perm (b::a::(R++LF)):=(Bc.trans (.cons a Bc)).trans (.swap _ _ _)
theorem db {a b:Res} {R LF:List Res}:(b::a::(R++LF)).Perm (R++(b::a::LF)):=(Bc.trans (.cons b Bc)).symm
instance Xx (s:List Sto) (p:Pat) (t:CF) [hs:B1 (BH s)] [hg:B1 (ED p=false)]:CB Tryz.prog 35 [.slice (s.map eSto) t,.agg (Bz p)] (.tuple [.slice ((FC s p).1.map eSto) .ro,.agg (eDig (FC s p).2.1),.raw (.int .i64 (FC s p).2.2)]):=⟨by
 have v:=hs.out
 have hgd:=v.close.1
 have hlen:=hgd.1
 have hgp:=hg.out
 have i2:=fun t=>TI s t (FB p).1 v.asc (by omega)
 have i3:=fun t=>ku s t p v.asc (by omega) hgp
 have hpl:=oX s (FB p).1
 refine Au Tryz.func35 Tryz.ntmps35 rfl (rs:= [.tmp 4,.cell 5 31,.tmp 6]) rfl rfl fun hb LF=>?_
 refine wf ?_
 refine C6 fun b5=>?_
 refine wf ?_
 refine C6 fun b7=>?_
 refine wo ?_
 refine AD ?_
 refine Ao 7 ?_
 refine wf ?_
 refine AY (fun h1=>?_) (fun h1=>?_)
 ·refine wf ?_
  refine O7 rfl ?_
  rw[FC,if_pos h1]
  exact .tuple3 (.ro _ _) (.refl _) (.refl _)
 rw[kB h1 (by omega)]
 refine wf ?_
 refine BZ [(32,.raw (.bool (decide ((FB p).1∈ids s∧ ¬p=(getS s (FB p).1).getD Pat.zero)))),(0,.slice (s.map eSto) t),(3,.pt (Bz p) 0),(5,.raw (.pointer (some ⟨b5,0,none⟩))),(7,.pt (eDig (FB p).1) 0),(9,.raw (.int .i64 (Jf s (FB p).1:Nat))),(10,.raw (.bool (decide ((FB p).1∈ids s))))] (.box b5 31 (eDig Dig.zero)::LF) ?_ ?_
 ·refine Av (fun hp=>?_) (fun hp=>?_)
  ·have hd:=BB hp
   obtain⟨hlt,hid,hget⟩:=oY v.asc hd
   have hq0:s[Jf s (FB p).1]∈s:=AF hlt
   have i4:B1 (ED s[Jf s (FB p).1].patch=false):=⟨hgd.2 _ hq0⟩
   have heq:=gi hgp (hgd.2 _ hq0) h1 (v.id _ hq0).1
   refine wf ?_
   refine⟨⟨CD (by rfl) ?_,rfl,rfl,rfl,rfl,rfl,rfl⟩,.refl _⟩
   rw[heq,hget,BU]
   generalize s[Jf s (FB p).1].patch=q
   by_cases h2:p=q
   ·rw[BR h2,DB (fun h=>h.2 h2)];rfl
   ·rw[DB h2,BR ⟨hd,h2⟩];rfl
  ·have hd:=Bp hp
   refine wf ?_
   refine⟨⟨CD (by rfl) ?_,rfl,rfl,rfl,rfl,rfl,rfl⟩,.refl _⟩
   simp[hd]
 have hsome:=SQ v.asc (FB p).1
 refine wf ?_
 refine Cv (σ:=Unit) (fun _=>True) (fun _=> [(0,.slice (s.map eSto) t),(3,.pt (Bz p) 0),(5,.raw (.pointer (some ⟨b5,0,none⟩))),(7,.pt (eDig (FB p).1) 0),(8,.raw (.int .i64 (Pv s p))),(9,.raw (.int .i64 (Jf s (FB p).1:Nat)))]) (fun _=> .box b5 31 (eDig Dig.zero)::LF) ?_ ?_
 ·refine A6 (fun h=>?_) (fun h=>?_)
  ·have eA:Pv s p=14:=by
    unfold Pv;rw[hsome,if_pos (BR h.1),if_neg h.2]
   refine wf ?_
   exact⟨(),trivial,⟨rfl,rfl,rfl,rfl,by rw[eA];rfl,rfl⟩,.refl _⟩
  refine wf ?_
  refine A6 (fun h2=>?_) (fun h2=>?_)
  ·have eA:Pv s p=6:=by
    unfold Pv;rw[hsome,if_pos (BR h2),if_pos (DE fun h3=>h ⟨h2,h3⟩)]
   refine wf ?_
   exact⟨(),trivial,⟨rfl,rfl,rfl,rfl,by rw[eA];rfl,rfl⟩,.refl _⟩
  have hns: ¬(getS s (FB p).1).isSome=true:=by rw[hsome];simpa using h2
  refine wf ?_
  refine AW (fun h3=>?_) (fun h3=>?_)
  ·have eA:Pv s p=19:=by
    unfold Pv;rw[if_neg hns,if_pos (MC h3)]
   refine wf ?_
   exact⟨(),trivial,⟨rfl,rfl,rfl,rfl,by rw[eA];rfl,rfl⟩,.refl _⟩
  have eA:Pv s p=GZ s p (FB p).1:=by
   unfold Pv;rw[if_neg hns,if_neg (Iv h3)]
  refine wn ?_
  refine Gp [1,5] (by decide+kernel) ?_
  refine B4 0 ?_
  refine B4 2 ?_
  refine B4 3 ?_
  refine B4 4 ?_
  refine Ab 2 1 ?_
  refine CW (xs:= [.tmp 26]) [] (.box b5 31 (eDig Dig.zero)::LF) (f:=75) (cs:= []) (CA _) rfl rfl (.refl _) _ (Tt s t) fun r L' ⟨m,e1,e2⟩=>?_
  subst e1;rw[e2]
  refine AD ?_
  refine Ab 1 5 ?_
  refine CW (xs:= [.tmp 27,.tmp 30]) (Hf m []) (.box b5 31 (eDig Dig.zero)::LF) (f:=76) (cs:= []) (CA _) rfl rfl (.refl _) _ (ep s hgd m [] (fun d l h=>by simp[C4]at h) ⟨(FB p).1,p⟩ hgp) fun u L' ⟨e1,kn3,e2,hkn3⟩=>?_
  subst e1;rw[e2]
  refine AD ?_
  refine Ab 0 6 ?_
  refine wo ?_
  refine AD ?_
  refine Cu (by decide+kernel) ?_
  rw[show RI s (⟨(FB p).1,p⟩:Sto).patch (⟨(FB p).1,p⟩:Sto).id=Pv s p from(iq s (FB p).1 h1).trans eA.symm]
  exact⟨(),trivial,⟨rfl,rfl,rfl,rfl,rfl,rfl⟩,.cons _ (.refl _)⟩
 intro _ _
 refine wf ?_
 refine BZ [(56,.raw (.bool (decide (Pv s p=0∧400≤(s.length:Int))))),(0,.slice (s.map eSto) t),(3,.pt (Bz p) 0),(5,.raw (.pointer (some ⟨b5,0,none⟩))),(7,.pt (eDig (FB p).1) 0),(8,.raw (.int .i64 (Pv s p))),(9,.raw (.int .i64 (Jf s (FB p).1:Nat)))] (.box b5 31 (eDig Dig.zero)::LF) ?_ ?_
 ·repeat' (first|(refine A6 (fun h=>?_) (fun h=>?_)<;>refine wf ?_)|(refine AY (fun h=>?_) (fun h=>?_)<;>refine wf ?_)|(refine AW (fun h=>?_) (fun h=>?_)<;>refine wf ?_)|(refine Av (fun h=>?_) (fun h=>?_)<;>(have h2:=h;(try simp only[AB,A8,AJ,AL]at h2);refine wf ?_)))
  all_goals (refine⟨⟨CD (by rfl) ?_,rfl,rfl,rfl,rfl,rfl,rfl⟩,.refl _⟩;first|(simp_all;done)|grind)
 refine wf ?_
 refine A6 (fun h=>?_) (fun _=>?_)
 ·omega
 refine wf ?_
 refine AY (fun h=>?_) (fun h=>?_)
 ·refine wf ?_
  refine O7 rfl ?_
  rw[if_pos h]
  exact .tuple3 (.ro _ _) (.refl _) (.refl _)
 rw[if_neg (fun h'=>h' h)]
 refine wn ?_
 refine Gp [1,6,7,10] (by decide+kernel) ?_
 refine B4 0 ?_
 refine B4 2 ?_
 refine B4 3 ?_
 refine B4 4 ?_
 refine B4 5 ?_
 refine B4 8 ?_
 refine Cw (fuel:=5) [1,6] (by decide+kernel) (by simp) fun i hi=>?_
 simp only[AI,Ai,or_false]at hi
 rcases hi with rfl|rfl
 ·refine⟨_,rfl,?_⟩
  refine CW (xs:= [.tmp 61]) [] (.box b5 31 (eDig Dig.zero)::LF) (f:=95) (cs:= []) (CA _) rfl rfl (.refl _) _ (S7 s t (by omega)) fun r R0 ⟨v0,e1,hv0⟩=>?_
  subst e1
  refine AD ?_
  refine Ab 4 6 ?_
  refine VW (cs:=eSto (⟨(FB p).1,p⟩:Sto)) (.agg _) (by simp) (by decide) fun b=>?_
  refine AD ?_
  refine Ab 3 7 ?_
  refine CW (xs:= [.tmp 62,.tmp 63,.tmp 67]) (R0++ [Res.box b 59 (eSto (⟨(FB p).1,p⟩:Sto))]) (.box b5 31 (eDig Dig.zero)::LF) (f:=94) (cs:= []) (CA _) rfl rfl (by rw[AU];exact Bc.symm) _ (U6 v0 s R0 hv0 (Jf s (FB p).1) hpl (by omega) b (⟨(FB p).1,p⟩:Sto)) fun r L' ⟨v2,R2,e1,hv2,e2⟩=>?_
  subst e1;rw[e2]
  refine AD ?_
  refine Ab 2 9 ?_
  refine wo ?_
  refine AD ?_
  refine Ab 1 10 ?_
  refine Vk (L':= .box b5 31 (eDig Dig.zero):: .box b 59 (eSto (⟨(FB p).1,p⟩:Sto))::(R2++LF)) (by rw[AU];exact de) rfl ?_ (fun h=>h)
  refine wo ?_
  refine AD ?_
  refine Ab 0 11 ?_
  refine wo ?_
  refine AD ?_
  refine Cu (by decide+kernel) ?_
  have hxl:((s.take (Jf s (FB p).1)++(⟨(FB p).1,p⟩:Sto)::s.drop (Jf s (FB p).1)).map eSto).length≤201:=by
   simp only[AR,AA,Aa,AN,B5];omega
  refine Jd 4 hv2 ⟨by unfold maxN;omega,by unfold maxN;omega⟩ db rfl ?_
  refine wf ?_
  refine O7 rfl ?_
  rw[Ys]
  exact .refl _
 ·refine⟨_,rfl,?_⟩
  refine VW (cs:=eSto (⟨(FB p).1,p⟩:Sto)) (.agg _) (by simp) (by decide) fun b=>?_
  refine AD ?_
  refine Ab 4 1 ?_
  refine CW (xs:= [.tmp 61]) [] (.box b 59 (eSto (⟨(FB p).1,p⟩:Sto)):: .box b5 31 (eDig Dig.zero)::LF) (f:=95) (cs:= []) (CA _) rfl rfl (.refl _) _ (S7 s t (by omega)) fun r R0 ⟨v0,e1,hv0⟩=>?_
  subst e1
  refine AD ?_
  refine Ab 3 7 ?_
  refine CW (xs:= [.tmp 62,.tmp 63,.tmp 67]) (R0++ [Res.box b 59 (eSto (⟨(FB p).1,p⟩:Sto))]) (.box b5 31 (eDig Dig.zero)::LF) (f:=94) (cs:= []) (CA _) rfl rfl (by rw[AU];exact .refl _) _ (U6 v0 s R0 hv0 (Jf s (FB p).1) hpl (by omega) b (⟨(FB p).1,p⟩:Sto)) fun r L' ⟨v2,R2,e1,hv2,e2⟩=>?_
  subst e1;rw[e2]
  refine AD ?_
  refine Ab 2 9 ?_
  refine wo ?_
  refine AD ?_
  refine Ab 1 10 ?_
  refine Vk (L':= .box b5 31 (eDig Dig.zero):: .box b 59 (eSto (⟨(FB p).1,p⟩:Sto))::(R2++LF)) (by rw[AU];exact de) rfl ?_ (fun h=>h)
  refine wo ?_
  refine AD ?_
  refine Ab 0 11 ?_
  refine wo ?_
  refine AD ?_
  refine Cu (by decide+kernel) ?_
  have hxl:((s.take (Jf s (FB p).1)++(⟨(FB p).1,p⟩:Sto)::s.drop (Jf s (FB p).1)).map eSto).length≤201:=by
   simp only[AR,AA,Aa,AN,B5];omega
  refine Jd 4 hv2 ⟨by unfold maxN;omega,by unfold maxN;omega⟩ db rfl ?_
  refine wf ?_
  refine O7 rfl ?_
  rw[Ys]
  exact .refl _⟩
end Go.Proofs
namespace Go.Proofs
open Go Go.Q
def Hg (p:Pat):Nat:=(C9 p).1.length
def R7 (n:Nat) (x:Ident):Prop:=0≤x.n∧(x.patch=Dig.zero→x.n < n)
structure OM (c:Chg) (G:Ident→Prop):Prop where
 file:2≤c.kind→c.kind≤6→G c.file
 parent:c.kind=2→c.parent≠rRoot→G c.parent
 after:c.kind=5∨c.kind=6→G c.after
 before:c.kind=5∨c.kind=6→G c.before
 over: ∀ y∈c.over,G y
theorem OM.mono {c:Chg} {G H:Ident→Prop} (h:OM c G) (k: ∀ x,G x→H x):OM c H:=
 ⟨fun a b=>k _ (h.file a b),fun a b=>k _ (h.parent a b),fun a=>k _ (h.after a),fun a=>k _ (h.before a),fun y hy=>k _ (h.over y hy)⟩
theorem OM.and {c:Chg} {G H:Ident→Prop} (h:OM c G) (k:OM c H):OM c fun x=>G x∧H x:=
 ⟨fun a b=>⟨h.file a b,k.file a b⟩,fun a b=>⟨h.parent a b,k.parent a b⟩,fun a=>⟨h.after a,k.after a⟩,fun a=>⟨h.before a,k.before a⟩,fun y hy=>⟨h.over y hy,k.over y hy⟩⟩
theorem Nv {x:Ident} {own:List Atm} {f:Bool} (h:J7 x own f=0):R7 own.length x:=by
 unfold J7 at h
 split at h
 ·omega
 rename_i h1
 have h1:Di x own.length=true:=by simpa using h1
 unfold Di at h1
 split at h1
 ·rename_i hp
  simp only[BW,AB]at h1
  exact⟨h1.1,fun _=>h1.2⟩
 ·rename_i hp
  simp only[BW,AB]at h1
  exact⟨h1.1,fun e=>absurd e hp⟩
theorem Pb {c:Chg} {own:List Atm} (h:FA c own=0):OM c (R7 own.length):=by
 unfold FA at h
 split at h
 ·rename_i h0;exact absurd h h0
 rename_i hF
 split at h
 ·rename_i h0;exact absurd h h0
 rename_i hP
 split at h
 ·rename_i h0;exact absurd h h0
 rename_i hE
 split at h
 ·rename_i h0;exact absurd h h0
 rename_i hO
 have hF:=Cy.1 hF
 have hP:=Cy.1 hP
 have hE:=Cy.1 hE
 have hO:=DY (Cy.1 hO)
 unfold K1 at hF
 unfold Lq at hP
 unfold IK at hE
 refine⟨fun a b=>?_,fun a b=>?_,fun a=>?_,fun a=>?_,fun y hy=>Nv (hO y hy)⟩
 ·rw[if_pos ⟨a,b⟩]at hF;exact Nv hF
 ·rw[if_pos ⟨a,b⟩]at hP;exact Nv hP
 ·rw[if_pos (by unfold IV;rcases a with a|a<;>simp[a])]at hE
  exact Nv (DY hE _ (by simp))
 ·rw[if_pos (by unfold IV;rcases a with a|a<;>simp[a])]at hE
  exact Nv (DY hE _ (by simp))
def QZ (l:List Chg) (i:Nat):List Atm:=(l.take i).foldl (fun own c=>own++Ca c own.length) []
theorem SI: ∀ {l:List Chg} {own A:List Atm},DA l own=(A,0)→A=l.foldl (fun own c=>own++Ca c own.length) own∧
  ∀ i (h:i < l.length),C3 l[i]=0∧FA l[i] ((l.take i).foldl (fun own c=>own++Ca c own.length) own)=0
 | [],own,A,h=>by
   simp only[DA,Prod.mk.injEq]at h
   exact⟨h.1.symm,fun i hi=>absurd hi (DK _)⟩
 |c::l,own,A,h=>by
  unfold DA at h
  split at h
  ·rename_i h0;exact absurd (congrArg Prod.snd h) h0
  rename_i h1
  split at h
  ·rename_i h0;exact absurd (congrArg Prod.snd h) h0
  rename_i h2
  obtain⟨k1,k2⟩:=SI h
  refine⟨k1,fun i hi=>?_⟩
  cases i with
  |zero=>exact⟨Cy.1 h1,Cy.1 h2⟩
  |succ i=>exact k2 i (by simpa using hi)
theorem ZB: ∀ (l:List Chg) (own:List Atm),own.length≤(l.foldl (fun own c=>own++Ca c own.length) own).length
 | [],_=>Ah _
 |c::l,own=>CZ (by rw[AA];omega) (ZB l (own++Ca c own.length))
structure NY (p:Pat):Prop where
 made:(C9 p).1=p.changes.foldl (fun own c=>own++Ca c own.length) []
 fields: ∀ i (h:i < p.changes.length),C3 p.changes[i]=0
 refs: ∀ i (h:i < p.changes.length),FA p.changes[i] (QZ p.changes i)=0
theorem EN {p:Pat} (h:(C9 p).2=0):NY p:=by
 unfold C9 at h
 have:DA p.changes []=((C9 p).1,0):=by
  unfold C9
  split at h
  ·simp at h
  rename_i h1
  rw[if_neg h1]
  split at h
  ·simp at h
  rename_i h1
  rw[if_neg h1]
  split at h
  ·simp at h
  rename_i h1
  rw[if_neg h1]
  split at h
  ·rename_i h1;exact absurd h h1
  rename_i h1
  rw[if_neg h1]
  split at h
  ·simp at h
  rename_i h1
  rw[if_neg h1]
  split at h
  ·simp at h
  rename_i h1
  rw[if_neg h1]
  exact Prod.ext rfl h
 obtain⟨h1,h2⟩:=SI this
 exact⟨h1,fun i hi=>(h2 i hi).1,fun i hi=>(h2 i hi).2⟩
theorem kR {p:Pat} (h:NY p) (i:Nat):(QZ p.changes i).length≤Hg p:=by
 unfold Hg QZ
 rw[h.made]
 have e:p.changes=p.changes.take i++p.changes.drop i:=(Bm i _).symm
 conv=>rhs;rw[e,BO]
 exact ZB _ _
theorem NY.uses {p:Pat} (h:NY p) {c:Chg} (hc:c∈p.changes):OM c (R7 (Hg p)):=by
 obtain⟨i,hi,rfl⟩:=AZ.1 hc
 exact(Pb (h.refs i hi)).mono fun x hx=>⟨hx.1,fun e=>by have:=hx.2 e;have:=kR h i;omega⟩
def Kn (s:List Sto) (x:Ident):Prop:=x.patch≠Dig.zero→ ∃ z∈s,z.id=x.patch∧0≤x.n∧x.n < Hg z.patch
theorem L5 {o:Option Atm} {f:Atm→Bool} (h:EU o f=0):o.isSome=true:=by
 unfold EU at h
 split at h
 ·omega
 ·rename_i h1
  cases ho:o.isSome with
  |true=>rfl
  |false=>exact absurd ho h1
theorem Mx {s:List Sto} (v:BH s) {x:Ident} (h:(IX s x).isSome=true):Kn s x:=fun hz=>by
 unfold IX at h
 split at h
 ·simp at h
 rename_i h1
 unfold Iu at h1 h
 cases hg:getS s x.patch with
 |none=>
  rw[hg]at h1
  exfalso
  apply h1
  right
  have:(JI Pat.zero).1= []:=by unfold JI;rw[if_pos (by decide+kernel)]
  rw[NL,this]
  simp only[Af]
  omega
 |some p=>
  rw[hg,BU]at h1
  obtain⟨z,hz,e1,e2⟩:=Kf hg
  refine⟨z,hz,e1,by omega,?_⟩
  subst e2
  have:(JI z.patch).1.length=Hg z.patch:=by
   unfold JI Hg
   rw[if_neg (by simp[(v.id z hz).1])]
   simp
  omega
theorem Yl {s:List Sto} (v:BH s) {x f:Ident} {d:Dig} (h:Gz s x f d=0) (hf:Kn s f):Kn s x:=fun hz=>by
 unfold Gz at h
 split at h
 ·rename_i h1
  rcases h1 with h1|h1
  ·unfold FM at h1;simp at h1;exact absurd h1 hz
  ·subst h1;exact hf hz
 ·exact Mx v (L5 h) hz
theorem bT {s:List Sto} (v:BH s) {c:Chg} {d:Dig} (h:L6 s c d=0):OM c (Kn s):=by
 unfold L6 at h
 split at h
 ·rename_i h0;exact absurd h h0
 rename_i hF
 split at h
 ·rename_i h0;exact absurd h h0
 rename_i hP
 split at h
 ·rename_i h0;exact absurd h h0
 rename_i hA
 split at h
 ·rename_i h0;exact absurd h h0
 rename_i hB
 have hF:=Cy.1 hF
 have hP:=Cy.1 hP
 have hA:=Cy.1 hA
 have hB:=Cy.1 hB
 have hO:=DY h
 have xF:Kn s c.file:=fun hz=>by
  unfold Jc at hF
  rw[if_pos (by unfold FM;simp[hz])]at hF
  exact Mx v (L5 hF) hz
 refine⟨fun _ _=>xF,fun _ _ hz=>?_,fun _=>Yl v hA xF,fun _=>Yl v hB xF,fun y hy hz=>?_⟩
 ·unfold Lz at hP
  rw[if_pos (by unfold FM;simp[hz])]at hP
  exact Mx v (L5 hP) hz
 ·have:=hO y hy
  unfold O0 at this
  rw[if_neg (by unfold FM;simp[hz])]at this
  exact Mx v (L5 this) hz
theorem BH.uses {s:List Sto} (v:BH s) {x:Sto} (hx:x∈s) {c:Chg} (hc:c∈x.patch.changes):OM c fun y=>R7 (Hg x.patch) y∧Kn s y:=by
 have hp:=EN (Fj (v.id x hx).1).1
 refine(hp.uses hc).and (bT v (d:=x.id) ?_)
 exact DY (v.refs x hx) c hc
end Go.Proofs
namespace Go.Q
open Go
structure Mta where
 author:Str
 message:Str
 time:Int
 deriving DecidableEq
def Mta.zero:Mta:=⟨[],[],0⟩
def FY (c:Mta):List PV:= [.str c.author]++([.str c.message]++([.raw (.int .i64 c.time)]))
@[simp] theorem kp (c:Mta):(FY c).length=3:=by unfold FY;simp
instance :NX FY 3:=⟨kp⟩
instance (c:Mta):Dv (FY c):=by unfold FY;infer_instance
instance (c:Mta):GI (.agg (FY c)) FY c:=⟨Dj.agg _⟩
instance lJ (c:Mta):K5 (FY c) 0 [.str c.author]:=by unfold FY;exact DJ
instance kH (c:Mta) (x:Str):FK (FY c) 0 [.str x] (FY { c with author:=x }):=by unfold FY;exact Dd (by simp)
instance iX (c:Mta):K5 (FY c) 1 [.str c.message]:=by unfold FY;exact Ae (n:=1) (off:=0) (by simp) (DJ)
instance pZ (c:Mta):K5 (FY c) 2 [.raw (.int .i64 c.time)]:=by unfold FY;exact Ae (n:=1) (off:=1) (by simp) (Ae (n:=1) (off:=0) (by simp) (MI))
structure Mvd where
 old:Dig
 lo:Int
 hi:Int
 patch:Dig
 dst:Int
 deriving DecidableEq
def y5 (c:Mvd):List PV:=(eDig c.old)++([.raw (.int .i64 c.lo)]++([.raw (.int .i64 c.hi)]++((eDig c.patch)++([.raw (.int .i64 c.dst)]))))
@[simp] theorem xg (c:Mvd):(y5 c).length=67:=by unfold y5;simp
end Go.Q
namespace Go.Proofs
open Go Go.Q
def kj (x y:Sto):Bool:=if x.patch.time≠y.patch.time then decide (x.patch.time < y.patch.time)else decide (Ep x.id y.id < 0)
def sP (q:List Sto) (i:Nat):Sto:=q.getD i Sto.zero
def YE (q:List Sto) (i j:Nat):List Sto:=(q.set i (sP q j)).set j (sP q i)
@[simp] theorem VJ (q:List Sto) (i j:Nat):(YE q i j).length=q.length:=by simp[YE]
def yW:Nat→List Sto→Nat→List Sto
 |0,q,_=>q
 |n+1,q,j=>if j=0 then q else if kj (sP q j) (sP q ((j - 1) / 2))=true then yW n (YE q ((j - 1) / 2) j) ((j - 1) / 2)else q
def zj (q:List Sto) (i n:Nat):Nat:=if 2*i+2 < n∧kj (sP q (2*i+2)) (sP q (2*i+1))=true then 2*i+2 else 2*i+1
def yz:Nat→List Sto→Nat→Nat→List Sto
 |0,q,_,_=>q
 |f+1,q,i,n=>if n≤2*i+1 then q else if kj (sP q (zj q i n)) (sP q i)=true then yz f (YE q i (zj q i n)) (zj q i n) n else q
def rV (q:List Sto) (x:Sto):List Sto:=yW q.length (q++ [x]) q.length
def rP (q:List Sto):List Sto:=yz (q.length - 1) (YE q 0 (q.length - 1)) 0 (q.length - 1)
theorem dD: ∀ (n:Nat) (q:List Sto) (j:Nat),(yW n q j).length=q.length
 |0,_,_=>rfl
 |n+1,q,j=>by
  rw[yW]
  split
  ·rfl
  ·split
   ·rw[dD,VJ]
   ·rfl
theorem eP: ∀ (f:Nat) (q:List Sto) (i n:Nat),(yz f q i n).length=q.length
 |0,_,_,_=>rfl
 |f+1,q,i,n=>by
  rw[yz]
  split
  ·rfl
  ·split
   ·rw[eP,VJ]
   ·rfl
@[simp] theorem vZ (q:List Sto) (x:Sto):(rV q x).length=q.length+1:=by simp[rV,dD]
@[simp] theorem vW (q:List Sto):(rP q).length=q.length:=by simp[rP,eP]
end Go.Proofs
