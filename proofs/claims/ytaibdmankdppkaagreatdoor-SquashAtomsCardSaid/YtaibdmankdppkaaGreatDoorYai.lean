/- Contracts of the program: the fields of changes, the description of a patch. -/
import Derived.Test.YtaibdmankdppkaaGreatDoorYahc
import Derived.Test.YtaibdmankdppkaaGreatDoorYae
import Derived.Test.YtaibdmankdppkaaGreatDoorYaf
set_option linter.unusedSimpArgs false
set_option linter.unusedVariables false
set_option maxHeartbeats 8000000
namespace Go.Proofs
open Go Go.Q
attribute [local irreducible] ER AV BA Fc
def Ny (c:Chg):Int:=
 if c.kind < 1∨7 < c.kind then 8 else
 if Yj c=false then 1 else
 if c.kind=1∧(c.type < 1∨4 < c.type)then 8 else
 if c.kind=2∧Ja c.name=false then 5 else
 if c.mode < 0∨511 < c.mode then 2 else
 if 65536 < (c.data.length:Int)then 4 else
 if c.kind=5∧(c.lines.length:Int)=0 then 1 else
 if 2000 < (c.lines.length:Int)then 4 else
 if c.lines.all JE=false then 3 else
 if c.kind=7∧(c.over.length:Int)=0 then 1 else
 if 400 < (c.over.length:Int)then 4 else
 if Pf c.over=false then 9 else 0
theorem nN (c:Chg) (h1:1≤c.kind) (h2:c.kind≤7):Yj c=Fl (Hx c):=by
 have hk:c.kind=1∨c.kind=2∨c.kind=3∨c.kind=4∨c.kind=5∨c.kind=6∨c.kind=7:=by omega
 unfold Yj Ml Mj Nt Pa RU TT X5 bM Fl Hx
 rcases hk with h|h|h|h|h|h|h<;>simp[h]<;>grind
theorem cG (c:Chg):Ny c=C3 c:=by
 unfold Ny C3
 by_cases h1:c.kind < 1∨7 < c.kind
 ·rw[if_pos h1,if_pos h1]
 rw[if_neg h1,if_neg h1,nN c (by omega) (by omega)]
 by_cases h2:Fl (Hx c)=false
 ·rw[if_pos h2,if_pos h2]
 rw[if_neg h2,if_neg h2]
 have h2:Fl (Hx c)=true:=by simpa using h2
 by_cases h3:c.kind=1∧(c.type < 1∨4 < c.type)
 ·rw[if_pos h3,if_pos h3]
 rw[if_neg h3,if_neg h3]
 by_cases h4:c.kind=2∧Ja c.name=false
 ·rw[if_pos h4,if_pos h4]
 rw[if_neg h4,if_neg h4]
 have hmode:c.kind≠3→c.mode=0:=fun h=>by
  unfold Fl Hx at h2
  simp only[BW,AB,h,if_false]at h2
  exact h2.1.1.1.1.1.2
 by_cases h5:c.kind=3∧(c.mode < 0∨511 < c.mode)
 ·rw[if_pos h5.2,if_pos h5]
 rw[if_neg (fun h=>h5 ⟨by
  by_cases e:c.kind=3
  ·exact e
  ·have:=hmode e;omega,h⟩),if_neg h5]
 by_cases h6:65536 < (c.data.length:Int)
 ·rw[if_pos h6,if_pos h6]
 rw[if_neg h6,if_neg h6]
 by_cases h7:c.kind=5
 ·have hov:c.over.length=0:=by
   unfold Fl Hx at h2
   simp only[BW,AB,h7]at h2
   have:=h2.2
   simp at this
   simp[this]
  have ho:c.over= []:=BL hov
  rw[if_pos h7,Mo]
  by_cases h8:(c.lines.length:Int)=0
  ·rw[if_pos ⟨h7,h8⟩,if_pos h8]
  rw[if_neg (fun h=>h8 h.2),if_neg h8]
  by_cases h9:2000 < (c.lines.length:Int)
  ·rw[if_pos h9,if_pos h9]
  rw[if_neg h9,if_neg h9]
  by_cases h10:c.lines.all JE=true
  ·rw[if_neg (by simp[h10]),if_pos h10,if_neg (fun h=>by omega),if_neg (by omega),ho];rfl
  ·rw[if_pos (by simpa using h10),if_neg h10]
 ·have hl:c.lines= []:=by
   unfold Fl Hx at h2
   simp only[BW,AB,h7,if_false]at h2
   exact BL (by have:=h2.1.2;omega)
  rw[if_neg h7,if_neg (fun h=>h7 h.1),hl,if_neg (by simp),if_neg (by simp)]
theorem UY (c:Chg):Q.Fn Tryz.prog 142 [.agg (eChg c)] (.raw (.int .i64 (Ny c))):=by
 refine Au Tryz.func142 Tryz.ntmps142 rfl (rs:= [.tmp 2]) rfl rfl fun hb LF=>?_
 have hagg:Bd (.agg (eChg c)):=hb _ (by simp)
 have hlines:c.lines.length≤140737488355328:=(hagg.agg_at (c:= .slice (c.lines.map eS) .ro) (by simp[eChg])).slice_map
 have hover:c.over.length≤140737488355328:=(hagg.agg_at (c:= .slice (c.over.map eIdent) .ro) (by simp[eChg])).slice_map
 refine wf ?_
 refine BZ [(6,.raw (.bool (decide (c.kind < 1∨7 < c.kind)))),(1,.pt (eChg c) 0)] (LF) ?_ ?_
 ·repeat' (first|(refine A6 (fun h=>?_) (fun h=>?_)<;>refine wf ?_)|(refine AY (fun h=>?_) (fun h=>?_)<;>refine wf ?_)|(refine AW (fun h=>?_) (fun h=>?_)<;>refine wf ?_)|(refine Av (fun h=>?_) (fun h=>?_)<;>(have h2:=h;(try simp only[AB,A8,AJ,AL]at h2);refine wf ?_)))
  all_goals (refine⟨⟨CD (by rfl) ?_,rfl⟩,.refl _⟩;first|(simp_all;done)|grind)
 refine wf ?_
 refine A6 (fun h=>?_) (fun h=>?_)
 ·refine wf ?_
  refine B2 (.of_eq ?_)
  rw[Ny,if_pos h]
 rw[Ny,if_neg h]
 refine wf ?_
 refine AW (fun h=>?_) (fun h=>?_)
 ·refine wf ?_
  refine B2 (.of_eq ?_)
  rw[if_pos (by simpa using h)]
 rw[if_neg (by simpa using h)]
 refine wf ?_
 refine BZ [(19,.raw (.bool (decide (c.kind=1∧(c.type < 1∨4 < c.type))))),(1,.pt (eChg c) 0)] (LF) ?_ ?_
 ·repeat' (first|(refine A6 (fun h=>?_) (fun h=>?_)<;>refine wf ?_)|(refine AY (fun h=>?_) (fun h=>?_)<;>refine wf ?_)|(refine AW (fun h=>?_) (fun h=>?_)<;>refine wf ?_)|(refine Av (fun h=>?_) (fun h=>?_)<;>(have h2:=h;(try simp only[AB,A8,AJ,AL]at h2);refine wf ?_)))
  all_goals (refine⟨⟨CD (by rfl) ?_,rfl⟩,.refl _⟩;first|(simp_all;done)|grind)
 refine wf ?_
 refine A6 (fun h=>?_) (fun h=>?_)
 ·refine wf ?_
  refine B2 (.of_eq ?_)
  rw[if_pos h]
 rw[if_neg h]
 refine wf ?_
 refine BZ [(33,.raw (.bool (decide (c.kind=2∧Ja c.name=false)))),(1,.pt (eChg c) 0)] (LF) ?_ ?_
 ·repeat' (first|(refine A6 (fun h=>?_) (fun h=>?_)<;>refine wf ?_)|(refine AY (fun h=>?_) (fun h=>?_)<;>refine wf ?_)|(refine AW (fun h=>?_) (fun h=>?_)<;>refine wf ?_)|(refine Av (fun h=>?_) (fun h=>?_)<;>(have h2:=h;(try simp only[AB,A8,AJ,AL]at h2);refine wf ?_)))
  all_goals (refine⟨⟨CD (by rfl) ?_,rfl⟩,.refl _⟩;first|(simp_all;done)|grind)
 refine wf ?_
 refine A6 (fun h=>?_) (fun h=>?_)
 ·refine wf ?_
  refine B2 (.of_eq ?_)
  rw[if_pos h]
 rw[if_neg h]
 refine wf ?_
 refine BZ [(43,.raw (.bool (decide (c.mode < 0∨511 < c.mode)))),(1,.pt (eChg c) 0)] (LF) ?_ ?_
 ·repeat' (first|(refine A6 (fun h=>?_) (fun h=>?_)<;>refine wf ?_)|(refine AY (fun h=>?_) (fun h=>?_)<;>refine wf ?_)|(refine AW (fun h=>?_) (fun h=>?_)<;>refine wf ?_)|(refine Av (fun h=>?_) (fun h=>?_)<;>(have h2:=h;(try simp only[AB,A8,AJ,AL]at h2);refine wf ?_)))
  all_goals (refine⟨⟨CD (by rfl) ?_,rfl⟩,.refl _⟩;first|(simp_all;done)|grind)
 refine wf ?_
 refine A6 (fun h=>?_) (fun h=>?_)
 ·refine wf ?_
  refine B2 (.of_eq ?_)
  rw[if_pos h]
 rw[if_neg h]
 refine wf ?_
 refine A6 (fun h=>?_) (fun h=>?_)
 ·refine wf ?_
  refine B2 (.of_eq ?_)
  rw[if_pos h]
 rw[if_neg h]
 refine wf ?_
 refine BZ [(57,.raw (.bool (decide (c.kind=5∧(c.lines.length:Int)=0)))),(1,.pt (eChg c) 0)] (LF) ?_ ?_
 ·repeat' (first|(refine A6 (fun h=>?_) (fun h=>?_)<;>refine wf ?_)|(refine AY (fun h=>?_) (fun h=>?_)<;>refine wf ?_)|(refine AW (fun h=>?_) (fun h=>?_)<;>refine wf ?_)|(refine Av (fun h=>?_) (fun h=>?_)<;>(have h2:=h;(try simp only[AB,A8,AJ,AL]at h2);refine wf ?_)))
  all_goals (refine⟨⟨CD (by rfl) ?_,rfl⟩,.refl _⟩;first|(simp_all;done)|grind)
 refine wf ?_
 refine A6 (fun h=>?_) (fun h=>?_)
 ·refine wf ?_
  refine B2 (.of_eq ?_)
  rw[if_pos h]
 rw[if_neg h]
 refine wf ?_
 refine A6 (fun h=>?_) (fun h=>?_)
 ·refine wf ?_
  refine B2 (.of_eq ?_)
  rw[if_pos h]
 rw[if_neg h]
 refine wf ?_
 refine Ad (σ:=Nat) (fun k=>k≤c.lines.length∧ ∀ i (h:i < c.lines.length),i < k→JE c.lines[i]=true) (fun k=>c.lines.length - k) (fun k=> [(1,.pt (eChg c) 0),(73,.slice (c.lines.map eS) .ro),(74,.raw (.int .i64 c.lines.length)),(75,.raw (.int .i64 k))]) (fun _=>LF) 0 ⟨by simp,by simp⟩ ⟨rfl,rfl,rfl,rfl⟩ (.refl _) ?_
 rintro k ⟨hk,he⟩
 refine wf ?_
 refine A6 (fun hc=>?_) (fun hc=>?_)
 ·have hlt:k < c.lines.length:=by omega
  refine wf ?_
  refine AW (fun h=>?_) (fun h=>?_)
  ·refine wf ?_
   refine B2 (.of_eq ?_)
   have:JE c.lines[k]=false:=by simpa using h
   rw[if_pos (HY hlt this)]
  ·refine wf ?_
   exact⟨k+1,⟨by omega,Lh he hlt (by simpa using h)⟩,by dsimp only;omega,⟨rfl,rfl,rfl,rfl⟩,.refl _⟩
 have hall:c.lines.all JE=true:=Ig fun i h=>he i h (by omega)
 rw[if_neg (by simp[hall])]
 clear he hk hc
 refine wf ?_
 refine BZ [(83,.raw (.bool (decide (c.kind=7∧(c.over.length:Int)=0)))),(1,.pt (eChg c) 0)] (LF) ?_ ?_
 ·repeat' (first|(refine A6 (fun h=>?_) (fun h=>?_)<;>refine wf ?_)|(refine AY (fun h=>?_) (fun h=>?_)<;>refine wf ?_)|(refine AW (fun h=>?_) (fun h=>?_)<;>refine wf ?_)|(refine Av (fun h=>?_) (fun h=>?_)<;>(have h2:=h;(try simp only[AB,A8,AJ,AL]at h2);refine wf ?_)))
  all_goals (refine⟨⟨CD (by rfl) ?_,rfl⟩,.refl _⟩;first|(simp_all;done)|grind)
 refine wf ?_
 refine A6 (fun h=>?_) (fun h=>?_)
 ·refine wf ?_
  refine B2 (.of_eq ?_)
  rw[if_pos h]
 rw[if_neg h]
 refine wf ?_
 refine A6 (fun h=>?_) (fun h=>?_)
 ·refine wf ?_
  refine B2 (.of_eq ?_)
  rw[if_pos h]
 rw[if_neg h]
 refine wf ?_
 refine Ad (σ:=Nat) (fun k=>1≤k∧ ∀ i,i+1 < k→i+1 < c.over.length→Hh (c.over.getD i Ident.zero) (c.over.getD (i+1) Ident.zero) < 0) (fun k=>c.over.length - k) (fun k=> [(1,.pt (eChg c) 0),(5,.raw (.int .i64 k))]) (fun _=>LF) 1 ⟨by simp,fun i h=>by omega⟩ ⟨rfl,rfl⟩ (.refl _) ?_
 rintro k ⟨hk,he⟩
 refine wf ?_
 refine A6 (fun hc=>?_) (fun hc=>?_)
 ·obtain⟨j,rfl⟩: ∃ j,k=j+1:=⟨k - 1,by omega⟩
  refine wf ?_
  have e:((↑(j+1):Int) - 1).toNat=j:=by omega
  have hj:j+1 < c.over.length:=by omega
  refine A6 (fun h1=>?_) (fun h1=>?_)
  ·refine wf ?_
   refine B2 (.of_eq ?_)
   simp only[e]at h1
   have:Pf c.over=false:=by
    unfold Pf
    rw[J6]
    refine⟨j,Br.2 (by omega),?_⟩
    simp only[AB,C0,AO hj,AO (show j < c.over.length by omega),BU]
    omega
   rw[if_pos this]
  ·refine wf ?_
   simp only[e]at h1
   refine⟨j+1+1,⟨by omega,fun i h2 h3=>?_⟩,by dsimp only;omega,⟨rfl,rfl⟩,.refl _⟩
   rcases B9 (i+1) (j+1)with h'|h'
   ·exact he i h' h3
   ·have:i=j:=by omega
    subst this
    simp only[C0,AO hj,AO (show i < c.over.length by omega),BU]
    omega
 ·refine wf ?_
  refine B2 (.of_eq ?_)
  have:Pf c.over=true:=by
   unfold Pf
   rw[Bg]
   intro i hi
   rw[Br]at hi
   exact BR (he i (by omega) (by omega))
  rw[if_neg (by simp[this])]
instance lk (c:Chg):CB Tryz.prog 142 [.agg (eChg c)] (.raw (.int .i64 (C3 c))):=⟨by rw[←cG];exact UY c⟩
def J9 (p:Pat):Int:=
 if Ja p.author=false then 5 else if 1000 < (p.message.length:Int)then 4 else if p.time < 0∨1099511627776 < p.time then 2 else
 if Ir p.deps≠0 then Ir p.deps else if(p.changes.length:Int)=0 then 1 else if 400 < (p.changes.length:Int)then 4 else 0
theorem Ie (p:Pat):C9 p=if J9 p≠0 then([],J9 p)else DA p.changes []:=by
 unfold C9 J9
 generalize Ir p.deps=e
 generalize DA p.changes []=r
 by_cases h1:Ja p.author=false<;>by_cases h2:1000 < (p.message.length:Int)<;>by_cases h3:p.time < 0∨1099511627776 < p.time<;>by_cases h4:e=0<;>by_cases h5:(p.changes.length:Int)=0<;>by_cases h6:400 < (p.changes.length:Int)<;>simp only[h1,h2,h3,h4,h5,h6,if_true,if_false,ne_eq,not_true_eq_false,not_false_eq_true]<;>first|rfl|simp[h4]|simp
instance yo (p:Pat):CB Tryz.prog 141 [.agg (Bz p)] (.raw (.int .i64 (J9 p))):=⟨by
 refine Au Tryz.func141 Tryz.ntmps141 rfl (rs:= [.tmp 2]) rfl rfl fun hb LF=>?_
 have hagg:Bd (.agg (Bz p)):=hb _ (by simp)
 have hdeps:p.deps.length≤140737488355328:=(hagg.agg_at (c:= .slice (p.deps.map eDig) .ro) (by simp[Bz])).slice_map
 have hdr:Ir p.deps=if 100 < (p.deps.length:Int)then 4 else Aw (Hb p.deps) (List.range p.deps.length):=rfl
 refine wf ?_
 refine AW (fun h=>?_) (fun h=>?_)
 ·refine wf ?_
  refine B2 (.of_eq ?_)
  rw[J9,if_pos (by simpa using h)]
 rw[J9,if_neg (by simpa using h)]
 refine wf ?_
 refine A6 (fun h=>?_) (fun h=>?_)
 ·refine wf ?_
  refine B2 (.of_eq ?_)
  rw[if_pos h]
 rw[if_neg h]
 refine wf ?_
 refine BZ [(16,.raw (.bool (decide (p.time < 0∨1099511627776 < p.time)))),(1,.pt (Bz p) 0)] (LF) ?_ ?_
 ·repeat' (first|(refine A6 (fun h=>?_) (fun h=>?_)<;>refine wf ?_)|(refine AY (fun h=>?_) (fun h=>?_)<;>refine wf ?_)|(refine AW (fun h=>?_) (fun h=>?_)<;>refine wf ?_)|(refine Av (fun h=>?_) (fun h=>?_)<;>(have h2:=h;(try simp only[AB,A8,AJ,AL]at h2);refine wf ?_)))
  all_goals (refine⟨⟨CD (by rfl) ?_,rfl⟩,.refl _⟩;first|(simp_all;done)|grind)
 refine wf ?_
 refine A6 (fun h=>?_) (fun h=>?_)
 ·refine wf ?_
  refine B2 (.of_eq ?_)
  rw[if_pos h]
 rw[if_neg h]
 refine wf ?_
 refine A6 (fun h=>?_) (fun h=>?_)
 ·refine wf ?_
  refine B2 (.of_eq ?_)
  rw[hdr,if_pos h,if_pos (by decide)]
 rw[if_neg h]at hdr
 refine wf ?_
 refine Ad (σ:=Nat) (fun k=>k≤p.deps.length∧ ∀ i (h:i < (List.range p.deps.length).length),i < k→Hb p.deps (List.range p.deps.length)[i]=0) (fun k=>p.deps.length - k) (fun k=> [(1,.pt (Bz p) 0),(31,.slice (p.deps.map eDig) .ro),(32,.raw (.int .i64 p.deps.length)),(33,.raw (.int .i64 k))]) (fun _=>LF) 0 ⟨by simp,by simp⟩ ⟨rfl,rfl,rfl,rfl⟩ (.refl _) ?_
 rintro k ⟨hk,he⟩
 refine wf ?_
 refine A6 (fun hc=>?_) (fun hc=>?_)
 ·have hlt:k < p.deps.length:=by omega
  have hltr:k < (List.range p.deps.length).length:=by simpa using hlt
  have ek:(List.range p.deps.length)[k]=k:=by simp
  have e0:p.deps.getD k Dig.zero=p.deps[k]:=by simp[List.getD,hlt]
  refine wz fun b4=>?_
  refine Ao 4 ?_
  refine wf ?_
  refine A6 (fun h2=>?_) (fun h2=>?_)
  ·refine wf ?_
   refine B2 (.of_eq ?_)
   have e:Hb p.deps (List.range p.deps.length)[k]=1:=by rw[ek,Hb,e0,if_pos h2]
   have e3:Ir p.deps=1:=by rw[hdr,DU hltr he (by rw[e];decide),e]
   rw[e3];rfl
  refine wf ?_
  refine Av (fun hp=>?_) (fun hp=>?_)
  ·have hp':0 < (k:Int):=BB hp
   refine wf ?_
   have e1:p.deps.getD (k - 1) Dig.zero=p.deps[((k:Int) - 1).toNat]:=by
    have:((k:Int) - 1).toNat=k - 1:=by omega
    simp only[this]
    have h':k - 1 < p.deps.length:=by omega
    simp[List.getD,h']
   refine A6 (fun h3=>?_) (fun h3=>?_)
   ·refine wf ?_
    refine B2 (.of_eq ?_)
    have e:Hb p.deps (List.range p.deps.length)[k]=9:=by rw[ek,Hb,e0,e1,if_neg h2,if_pos ⟨hp',h3⟩]
    have e3:Ir p.deps=9:=by rw[hdr,DU hltr he (by rw[e];decide),e]
    rw[e3];rfl
   ·refine wf ?_
    have e:Hb p.deps (List.range p.deps.length)[k]=0:=by rw[ek,Hb,e0,e1,if_neg h2,if_neg (fun h=>h3 h.2)]
    exact⟨k+1,⟨by omega,EC he hltr e⟩,by dsimp only;omega,⟨rfl,rfl,rfl,rfl⟩,.refl _⟩
  ·have hp': ¬0 < (k:Int):=Bp hp
   refine wf ?_
   have e:Hb p.deps (List.range p.deps.length)[k]=0:=by rw[ek,Hb,e0,if_neg h2,if_neg (fun h=>hp' h.1)]
   exact⟨k+1,⟨by omega,EC he hltr e⟩,by dsimp only;omega,⟨rfl,rfl,rfl,rfl⟩,.refl _⟩
 have e3:Ir p.deps=0:=by rw[hdr,E3 fun i h=>he i h (by simp at h;omega)]
 rw[if_neg (by simp[e3])]
 refine wf ?_
 refine A6 (fun h=>?_) (fun h=>?_)
 ·refine wf ?_
  refine B2 (.of_eq ?_)
  rw[if_pos h]
 rw[if_neg h]
 refine wf ?_
 refine A6 (fun h=>?_) (fun h=>?_)
 ·refine wf ?_
  refine B2 (.of_eq ?_)
  rw[if_pos h]
 ·refine wf ?_
  refine B2 (.of_eq ?_)
  rw[if_neg h]⟩
structure Rfc where
 id:Ident
 f:Nat
 cs:List PV
def eRfc (r:Rfc):List PV:=eIdent r.id++ [.clo r.f r.cs]
@[simp] theorem km (r:Rfc):(eRfc r).length=34:=by unfold eRfc;simp
instance :NX eRfc 34:=⟨km⟩
instance (r:Rfc):Dv (eRfc r):=by unfold eRfc;infer_instance
instance :K6 eRfc:=⟨fun r=>(inferInstance:Dv (eRfc r)).out⟩
instance (x:Ident) (f:Nat) (cs:List PV):GI (.agg (eIdent x++ [.clo f cs])) eRfc ⟨x,f,cs⟩:=⟨Dj.agg _⟩
instance (x y:Ident) (z:PV):FK (eIdent x++ [z]) 0 (eIdent y) (eIdent y++ [z]):=Dd (by simp)
instance (x:Ident) (y z:PV):FK (eIdent x++ [y]) 33 [z] (eIdent x++ [z]):=Ag (n:=33) (off:=0) (by simp) (MA (by simp))
instance (r:Rfc):K5 (eRfc r) 0 (eIdent r.id):=by unfold eRfc;exact DJ
instance (r:Rfc):K5 (eRfc r) 33 [.clo r.f r.cs]:=by unfold eRfc;exact Ae (n:=33) (off:=0) (by simp) MI
instance :Cx (eIdent Ident.zero++ [.raw .nilFunc]) 34:=⟨by simp⟩
instance :Cp Tryz.prog 94 (eIdent Ident.zero++ [.raw .nilFunc]):=Cp.of (us:=(eIdent Ident.zero++ [PV.raw .nilFunc]).map zv) (by kernel_rfl) (by kernel_rfl)
instance :Cp Tryz.prog 174 (eIdent Ident.zero++ [.raw .nilFunc]):=Cp.of (us:=(eIdent Ident.zero++ [PV.raw .nilFunc]).map zv) (by kernel_rfl) (by kernel_rfl)
instance :Cp Tryz.prog 171 [.slice [] .nil]:=LZ (v:= .slice none 0 0) (by kernel_rfl) rfl fun _=> .nilN none (by simp)
structure yL (P:Program) (r:Rfc) (p:Atm→Bool):Prop where
 fn:Az P r.f
 out: ∀ a:Atm,Q.Fn P r.f (.agg (eAtm a)::r.cs) (.raw (.bool (p a)))
def iW (k:Int):Int:=if k=2∨k=3∨k=4∨k=6 then k else 0
instance rY (k:Int):CB Tryz.prog 123 [.raw (.int .i64 k)] (.raw (.int .i64 (iW k))):=⟨by
 refine Au Tryz.func123 Tryz.ntmps123 rfl (rs:= [.tmp 2]) rfl rfl fun hb LF=>?_
 refine zS fun b=>?_
 refine B2 (.of_eq ?_)
 simp only[iW]
 simp[Cn,C4]
 grind⟩
def xK (a:Atm):Bool:=decide (a.kind=1)
def vb (a:Atm):Bool:=decide (a.kind=1)&&(decide (a.type=2)||decide (a.type=3))
def va (a:Atm):Bool:=decide (a.kind=1)&&decide (a.type=1)
def oa (a:Atm):Bool:=decide (a.kind=1)&&decide (a.type=4)
def xJ (c:Chg) (a:Atm):Bool:=decide (a.id=c.file)||(decide (a.kind=5)&&decide (a.file=c.file))
def xI (c:Chg) (a:Atm):Bool:=decide (c.kind=7)||(decide (a.kind=iW c.kind)&&decide (a.file=c.file))
instance tp (a:Atm):CB Tryz.prog 116 [.agg (eAtm a)] (.raw (.bool (xK a))):=⟨by
 refine Au Tryz.func116 Tryz.ntmps116 rfl (rs:= [.tmp 2]) rfl rfl fun hb LF=>?_
 refine wf ?_
 refine B2 (.of_eq ?_)
 rfl⟩
instance tn (a:Atm):CB Tryz.prog 117 [.agg (eAtm a)] (.raw (.bool (vb a))):=⟨by
 refine Au Tryz.func117 Tryz.ntmps117 rfl (rs:= [.tmp 2]) rfl rfl fun hb LF=>?_
 refine wf ?_
 repeat' (first|(refine A6 (fun h=>?_) (fun h=>?_)<;>refine wf ?_)|(refine AY (fun h=>?_) (fun h=>?_)<;>refine wf ?_)|(refine AW (fun h=>?_) (fun h=>?_)<;>refine wf ?_)|(refine Av (fun h=>?_) (fun h=>?_)<;>(have h2:=h;(try simp only[AB,A8,AJ,AL]at h2);refine wf ?_)))
 all_goals (refine B2 (.of_eq ?_);simp only[vb];first|(simp_all;done)|grind)⟩
instance tk (a:Atm):CB Tryz.prog 118 [.agg (eAtm a)] (.raw (.bool (va a))):=⟨by
 refine Au Tryz.func118 Tryz.ntmps118 rfl (rs:= [.tmp 2]) rfl rfl fun hb LF=>?_
 refine wf ?_
 repeat' (first|(refine A6 (fun h=>?_) (fun h=>?_)<;>refine wf ?_)|(refine AY (fun h=>?_) (fun h=>?_)<;>refine wf ?_)|(refine AW (fun h=>?_) (fun h=>?_)<;>refine wf ?_)|(refine Av (fun h=>?_) (fun h=>?_)<;>(have h2:=h;(try simp only[AB,A8,AJ,AL]at h2);refine wf ?_)))
 all_goals (refine B2 (.of_eq ?_);simp only[va];first|(simp_all;done)|grind)⟩
instance tj (a:Atm):CB Tryz.prog 120 [.agg (eAtm a)] (.raw (.bool (oa a))):=⟨by
 refine Au Tryz.func120 Tryz.ntmps120 rfl (rs:= [.tmp 2]) rfl rfl fun hb LF=>?_
 refine wf ?_
 repeat' (first|(refine A6 (fun h=>?_) (fun h=>?_)<;>refine wf ?_)|(refine AY (fun h=>?_) (fun h=>?_)<;>refine wf ?_)|(refine AW (fun h=>?_) (fun h=>?_)<;>refine wf ?_)|(refine Av (fun h=>?_) (fun h=>?_)<;>(have h2:=h;(try simp only[AB,A8,AJ,AL]at h2);refine wf ?_)))
 all_goals (refine B2 (.of_eq ?_);simp only[oa];first|(simp_all;done)|grind)⟩
instance th (c:Chg) (a:Atm):CB Tryz.prog 121 [.agg (eAtm a),.pt (eChg c) 0] (.raw (.bool (xJ c a))):=⟨by
 refine Au Tryz.func121 Tryz.ntmps121 rfl (rs:= [.tmp 3]) rfl rfl fun hb LF=>?_
 refine wf ?_
 repeat' (first|(refine A6 (fun h=>?_) (fun h=>?_)<;>refine wf ?_)|(refine AY (fun h=>?_) (fun h=>?_)<;>refine wf ?_)|(refine AW (fun h=>?_) (fun h=>?_)<;>refine wf ?_)|(refine Av (fun h=>?_) (fun h=>?_)<;>(have h2:=h;(try simp only[AB,A8,AJ,AL]at h2);refine wf ?_)))
 all_goals (refine B2 (.of_eq ?_);simp only[xJ];first|(simp_all;done)|grind)⟩
instance te (c:Chg) (a:Atm):CB Tryz.prog 122 [.agg (eAtm a),.pt (eChg c) 0] (.raw (.bool (xI c a))):=⟨by
 refine Au Tryz.func122 Tryz.ntmps122 rfl (rs:= [.tmp 3]) rfl rfl fun hb LF=>?_
 refine wf ?_
 repeat' (first|(refine A6 (fun h=>?_) (fun h=>?_)<;>refine wf ?_)|(refine AY (fun h=>?_) (fun h=>?_)<;>refine wf ?_)|(refine AW (fun h=>?_) (fun h=>?_)<;>refine wf ?_)|(refine Av (fun h=>?_) (fun h=>?_)<;>(have h2:=h;(try simp only[AB,A8,AJ,AL]at h2);refine wf ?_)))
 all_goals (refine B2 (.of_eq ?_);simp only[xI];first|(simp_all;done)|grind)⟩
def iB (b:Nat) (l:List Rfc) (t:CF):List Res:= [.box b 90 [.slice (l.map eRfc) t],.tok t l.length 34]
theorem uw (x:Ident) (f:Nat) (cs:List PV) (b:Nat) (l:List Rfc) (t:CF) (hl:l.length≤1000000):
  BA Tryz.prog 115 [.agg (eIdent x),.clo f cs,.raw (.pointer (some ⟨b,0,none⟩))] (iB b l t) (fun _ L'=> ∃ t',L'=iB b (l++ [⟨x,f,cs⟩]) t'):=by
 refine C5 Tryz.func115 rfl Tryz.ntmps115 (rs:= []) rfl rfl fun hb LF=>?_
 rw[show iB b l t++LF= .box b 90 [.slice (l.map eRfc) t]:: .tok t l.length 34::LF from rfl]
 refine dB fun t'=>?_
 exact⟨trivial,[],iB b (l++ [⟨x,f,cs⟩]) t',.nil,.refl _,t',rfl⟩
section
variable {N:Nat} {all:Array Oper} {K:Env→List Res→Prop} {fl:List Bool} {os:List Oper} {ρ:Env} {L:List Res} {Q:PPost} {c:Code} {d:Nat} {ty:TypeId} {pos:String} {af:Array Edge}
theorem U5 {x x0 x1:Operand} {ats:Array TypeId} {b f:Nat} {l:List Rfc} {t:CF} {id:Ident} {cs:List PV} {a1:PV} {LF:List Res}
  (qx:ρ.ev x= .clo 115 [.raw (.pointer (some ⟨b,0,none⟩))]) (q0:ρ.ev x0= .agg (eIdent id)) (q1:ρ.ev x1=a1) [h1:Wa a1 f cs] (hl:l.length≤1000000)
  (k: ∀ t' u,AV Tryz.prog N all K fl.tail os (CV ρ d u) (.box b 90 [.slice ((l++ [Rfc.mk id f cs]).map eRfc) t']:: .tok t' (l++ [Rfc.mk id f cs]).length 34::LF)) (hd:Nat.blt d N=true:=by rfl) (hfl:fl.headD true=true:=by rfl):
  AV Tryz.prog N all K fl (⟨some d,.call { callee:= .value x,args:= #[x0,x1],argTypes:=ats },ty,pos,af,none⟩::os) ρ (.box b 90 [.slice (l.map eRfc) t]:: .tok t l.length 34::LF):=
 CW (xs:= [x0,x1]) (iB b l t) LF (.of_eq qx) rfl rfl (.refl _) (fun _ L'=> ∃ t',L'=iB b (l++ [⟨id,f,cs⟩]) t')
  (BA.args (bs:= [.agg (eIdent id),.clo f cs,.raw (.pointer (some ⟨b,0,none⟩))]) rfl (fun i g1 g2=>by
   match i,g1,g2 with
   |0,_,_=>exact .of_eq q0
   |1,_,_=>show Le (ρ.ev x1) _;rw[q1];exact h1.out
   |2,_,_=>exact .refl _
   |m+3,g1,_=>exact absurd g1 (by simp)) (uw id f cs b l t hl)) (fun r L' ⟨t',e⟩=>by subst e;exact k t' r) hd hfl
end
def Ht (c:Chg):List Rfc:=
 if c.kind=2∨c.kind=3 then [⟨c.file,116,[]⟩]else if c.kind=4 then [⟨c.file,117,[]⟩]else
 if c.kind=5∨c.kind=6 then [⟨c.file,118,[]⟩]else []
def KV (c:Chg):List Rfc:=if c.kind=2∧c.parent≠⟨Dig.zero,-1⟩then [⟨c.parent,120,[]⟩]else []
def PE (c:Chg):List Rfc:=if c.kind=5∨c.kind=6 then [⟨c.after,121,[.pt (eChg c) 0]⟩,⟨c.before,121,[.pt (eChg c) 0]⟩]else []
def NP (c:Chg) (l:List Ident):List Rfc:=l.map fun x=>⟨x,122,[.pt (eChg c) 0]⟩
def En (c:Chg):List Rfc:=Ht c++KV c++PE c++NP c c.over
theorem Vf (c:Chg):(Ht c).length≤1:=by unfold Ht;split<;>(try split)<;>(try split)<;>simp
theorem Ve (c:Chg):(KV c).length≤1:=by unfold KV;split<;>simp
theorem Vc (c:Chg):(PE c).length≤2:=by unfold PE;split<;>simp
instance kP (c:Chg) [hs:B1 (c.over.length≤400)]:CB Tryz.prog 58 [.agg (eChg c)] (.slice ((En c).map eRfc) .ro):=⟨by
 have hover:=hs.out
 have r1:=Vf c
 have r2:=Ve c
 have r3:=Vc c
 refine Au Tryz.func58 Tryz.ntmps58 rfl (rs:= [.tmp 2]) rfl rfl fun hb LF=>?_
 refine wf ?_
 refine C6 fun b3=>?_
 refine wo ?_
 refine AD ?_
 refine EO 34 ?_
 refine E0 (.swap _ _ _) ?_
 refine ws ?_
 refine Cv (σ:=List Rfc × CF) (fun s=>s.1=Ht c) (fun s=> [(1,.pt (eChg c) 0),(3,.raw (.pointer (some ⟨b3,0,none⟩))),(4,.clo 115 [.raw (.pointer (some ⟨b3,0,none⟩))])]) (fun s=> .box b3 90 [.slice (s.1.map eRfc) s.2]:: .tok s.2 s.1.length 34::LF) ?_ ?_
 ·refine wf ?_
  refine Cv (σ:=Unit) (fun _=>True) (fun _=> [(1,.pt (eChg c) 0),(3,.raw (.pointer (some ⟨b3,0,none⟩))),(4,.clo 115 [.raw (.pointer (some ⟨b3,0,none⟩))]),(10,.raw (.int .i64 c.kind)),(11,.raw (.bool (decide (c.kind=2∨c.kind=3))))]) (fun _=> .box b3 90 [.slice [] .nil]:: .tok .nil 0 34::LF) ?_ ?_
  ·refine A6 (fun h=>?_) (fun h=>?_)
   ·refine wf ?_
    exact⟨(),trivial,⟨rfl,rfl,rfl,rfl,CD (by rfl) (by simp[h])⟩,.refl _⟩
   ·refine wf ?_
    exact⟨(),trivial,⟨rfl,rfl,rfl,rfl,CD (by rfl) (by simp[h])⟩,.refl _⟩
  intro _ _
  refine A6 (fun h=>?_) (fun h=>?_)
  ·refine wf ?_
   refine U5 (l:= []) rfl rfl (by(conv=>lhs;whnf);done) (h1:=(by first|infer_instance|fail)) (by simp) fun t' u=>?_
   refine wf ?_
   exact⟨([⟨c.file,116,[]⟩],t'),by rw[Ht,if_pos h],⟨rfl,rfl,rfl⟩,.refl _⟩
  have e1:Ht c=if c.kind=4 then [⟨c.file,117,[]⟩]else if c.kind=5∨c.kind=6 then [⟨c.file,118,[]⟩]else []:=by rw[Ht,if_neg h]
  refine wf ?_
  refine A6 (fun h4=>?_) (fun h4=>?_)
  ·refine wf ?_
   refine U5 (l:= []) rfl rfl (by(conv=>lhs;whnf);done) (h1:=(by first|infer_instance|fail)) (by simp) fun t' u=>?_
   refine wf ?_
   exact⟨([⟨c.file,117,[]⟩],t'),by rw[e1,if_pos h4],⟨rfl,rfl,rfl⟩,.refl _⟩
  rw[if_neg h4]at e1
  refine wf ?_
  refine Cv (σ:=Unit) (fun _=>True) (fun _=> [(1,.pt (eChg c) 0),(3,.raw (.pointer (some ⟨b3,0,none⟩))),(4,.clo 115 [.raw (.pointer (some ⟨b3,0,none⟩))]),(24,.raw (.bool (decide (c.kind=5∨c.kind=6))))]) (fun _=> .box b3 90 [.slice [] .nil]:: .tok .nil 0 34::LF) ?_ ?_
  ·refine A6 (fun h=>?_) (fun h=>?_)
   ·refine wf ?_
    exact⟨(),trivial,⟨rfl,rfl,rfl,CD (by rfl) (by simp[h])⟩,.refl _⟩
   ·refine wf ?_
    exact⟨(),trivial,⟨rfl,rfl,rfl,CD (by rfl) (by simp[h])⟩,.refl _⟩
  intro _ _
  refine A6 (fun h5=>?_) (fun h5=>?_)
  ·refine wf ?_
   refine U5 (l:= []) rfl rfl (by(conv=>lhs;whnf);done) (h1:=(by first|infer_instance|fail)) (by simp) fun t' u=>?_
   refine wf ?_
   exact⟨([⟨c.file,118,[]⟩],t'),by rw[e1,if_pos h5],⟨rfl,rfl,rfl⟩,.refl _⟩
  ·refine wf ?_
   exact⟨([],.nil),by rw[e1,if_neg h5],⟨rfl,rfl,rfl⟩,.refl _⟩
 rintro⟨l1,t1⟩ hl1
 dsimp only at hl1 ⊢
 subst hl1
 refine ws ?_
 refine BZ [(39,.raw (.bool (decide (c.kind=2∧c.parent≠⟨Dig.zero,-1⟩)))),(1,.pt (eChg c) 0),(3,.raw (.pointer (some ⟨b3,0,none⟩))),(4,.clo 115 [.raw (.pointer (some ⟨b3,0,none⟩))])] (.box b3 90 [.slice ((Ht c).map eRfc) t1]:: .tok t1 (Ht c).length 34::LF) ?_ ?_
 ·repeat' (first|(refine A6 (fun h=>?_) (fun h=>?_)<;>refine wf ?_)|(refine AY (fun h=>?_) (fun h=>?_)<;>refine wf ?_)|(refine AW (fun h=>?_) (fun h=>?_)<;>refine wf ?_)|(refine Av (fun h=>?_) (fun h=>?_)<;>(have h2:=h;(try simp only[AB,A8,AJ,AL]at h2);refine wf ?_)))
  all_goals (refine⟨⟨CD (by rfl) ?_,rfl,rfl,rfl⟩,.refl _⟩;first|(simp_all;done)|grind)
 refine Cv (σ:=List Rfc × CF) (fun s=>s.1=Ht c++KV c) (fun s=> [(1,.pt (eChg c) 0),(3,.raw (.pointer (some ⟨b3,0,none⟩))),(4,.clo 115 [.raw (.pointer (some ⟨b3,0,none⟩))])]) (fun s=> .box b3 90 [.slice (s.1.map eRfc) s.2]:: .tok s.2 s.1.length 34::LF) ?_ ?_
 ·refine A6 (fun h=>?_) (fun h=>?_)
  ·refine wf ?_
   refine U5 rfl rfl (by(conv=>lhs;whnf);done) (h1:=(by first|infer_instance|fail)) (by omega) fun t' u=>?_
   refine wf ?_
   exact⟨(Ht c++ [⟨c.parent,120,[]⟩],t'),by rw[KV,if_pos h],⟨rfl,rfl,rfl⟩,.refl _⟩
  ·refine wf ?_
   exact⟨(Ht c,t1),by rw[KV,if_neg h];simp,⟨rfl,rfl,rfl⟩,.refl _⟩
 rintro⟨l1,t2⟩ hl1
 dsimp only at hl1 ⊢
 subst hl1
 refine ws ?_
 refine BZ [(51,.raw (.bool (decide (c.kind=5∨c.kind=6)))),(1,.pt (eChg c) 0),(3,.raw (.pointer (some ⟨b3,0,none⟩))),(4,.clo 115 [.raw (.pointer (some ⟨b3,0,none⟩))])] (.box b3 90 [.slice ((Ht c++KV c).map eRfc) t2]:: .tok t2 (Ht c++KV c).length 34::LF) ?_ ?_
 ·repeat' (first|(refine A6 (fun h=>?_) (fun h=>?_)<;>refine wf ?_)|(refine AY (fun h=>?_) (fun h=>?_)<;>refine wf ?_)|(refine AW (fun h=>?_) (fun h=>?_)<;>refine wf ?_)|(refine Av (fun h=>?_) (fun h=>?_)<;>(have h2:=h;(try simp only[AB,A8,AJ,AL]at h2);refine wf ?_)))
  all_goals (refine⟨⟨CD (by rfl) ?_,rfl,rfl,rfl⟩,.refl _⟩;first|(simp_all;done)|grind)
 refine Cv (σ:=List Rfc × CF) (fun s=>s.1=Ht c++KV c++PE c) (fun s=> [(1,.pt (eChg c) 0),(3,.raw (.pointer (some ⟨b3,0,none⟩))),(4,.clo 115 [.raw (.pointer (some ⟨b3,0,none⟩))])]) (fun s=> .box b3 90 [.slice (s.1.map eRfc) s.2]:: .tok s.2 s.1.length 34::LF) ?_ ?_
 ·refine A6 (fun h=>?_) (fun h=>?_)
  ·refine wf ?_
   refine U5 rfl rfl (by(conv=>lhs;whnf);done) (h1:=(by first|infer_instance|fail)) (by simp only[AA];omega) fun t' u=>?_
   refine wf ?_
   refine U5 rfl rfl (by(conv=>lhs;whnf);done) (h1:=(by first|infer_instance|fail)) (by simp only[AA,AN,Af];omega) fun t' u=>?_
   refine wf ?_
   exact⟨(Ht c++KV c++ [⟨c.after,121,[.pt (eChg c) 0]⟩]++ [⟨c.before,121,[.pt (eChg c) 0]⟩],t'),by rw[PE,if_pos h];simp,⟨rfl,rfl,rfl⟩,.refl _⟩
  ·refine wf ?_
   exact⟨(Ht c++KV c,t2),by rw[PE,if_neg h];simp,⟨rfl,rfl,rfl⟩,.refl _⟩
 rintro⟨l1,t3⟩ hl1
 dsimp only at hl1 ⊢
 have hl3:l1.length≤4:=by rw[hl1];simp only[AA];omega
 refine wf ?_
 refine Ad (σ:=Nat × List Rfc × CF) (fun k=>k.1≤c.over.length∧k.2.1=l1++NP c (c.over.take k.1)) (fun k=>c.over.length - k.1) (fun k=> [(1,.pt (eChg c) 0),(3,.raw (.pointer (some ⟨b3,0,none⟩))),(4,.clo 115 [.raw (.pointer (some ⟨b3,0,none⟩))]),(64,.slice (c.over.map eIdent) .ro),(65,.raw (.int .i64 c.over.length)),(66,.raw (.int .i64 k.1))]) (fun k=> .box b3 90 [.slice (k.2.1.map eRfc) k.2.2]:: .tok k.2.2 k.2.1.length 34::LF) (0,l1,t3) ⟨by simp,by simp[NP]⟩ ⟨rfl,rfl,rfl,rfl,rfl,rfl⟩ (.refl _) ?_
 rintro⟨k,m,t4⟩ ⟨hk,hm⟩
 dsimp only at hk hm ⊢
 have hml:m.length≤404:=by rw[hm,NP];simp only[AA,AR,Aa];omega
 refine wf ?_
 refine A6 (fun hc=>?_) (fun hc=>?_)
 ·have hlt:k < c.over.length:=by omega
  refine wz fun b7=>?_
  refine Ao 7 ?_
  refine wf ?_
  refine U5 rfl rfl (by(conv=>lhs;whnf);done) (h1:=(by first|infer_instance|fail)) (by omega) fun t' u=>?_
  refine wf ?_
  refine⟨(k+1,m++ [⟨c.over[k],122,[.pt (eChg c) 0]⟩],t'),⟨by dsimp only;omega,?_⟩,by dsimp only;omega,⟨rfl,rfl,rfl,rfl,rfl,rfl⟩,.refl _⟩
  dsimp only
  rw[hm,NP,NP,A7 hlt,Ak,AU];rfl
 ·rw[AE (by omega)]at hm
  refine wf ?_
  refine B2 (.ros ?_)
  rw[hm,hl1];rfl⟩
theorem Gk {α:Type} (f:α→Int): ∀ a b:List α,Aw f (a++b)=if Aw f a≠0 then Aw f a else Aw f b
 | [],b=>by simp[Aw]
 |x::a,b=>by
  simp only[B0,Aw,Gk f a b]
  by_cases h:f x=0<;>simp[h]
theorem Qp {α β:Type} (f:β→Int) (g:α→β): ∀ l:List α,Aw f (l.map g)=Aw (fun x=>f (g x)) l
 | []=>rfl
 |x::l=>by simp only[Ar,Aw,Qp f g l]
theorem GN {α:Type} {f g:α→Int}: ∀ {l:List α},(∀ x∈l,f x=g x)→Aw f l=Aw g l
 | [],_=>rfl
 |x::l,h=>by
  rw[Aw,Aw,h x (by simp),GN (fun y hy=>h y (AH _ hy))]
def NS (c:Chg) (f:Nat):Atm→Bool:=
 if f=116 then xK else if f=117 then vb else if f=118 then va else if f=120 then oa else if f=121 then xJ c else xI c
theorem lL (c:Chg) (r:Rfc) (h:r∈En c):yL Tryz.prog r (NS c r.f):=by
 simp only[En,Aj]at h
 rcases h with ((h|h)|h)|h
 ·unfold Ht at h
  split at h
  ·simp at h;subst h;exact⟨inferInstance,fun a=>(tp a).out⟩
  ·split at h
   ·simp at h;subst h;exact⟨inferInstance,fun a=>(tn a).out⟩
   ·split at h
    ·simp at h;subst h;exact⟨inferInstance,fun a=>(tk a).out⟩
    ·simp at h
 ·unfold KV at h
  split at h
  ·simp at h;subst h;exact⟨inferInstance,fun a=>(tj a).out⟩
  ·simp at h
 ·unfold PE at h
  split at h
  ·simp at h
   rcases h with h|h<;>subst h<;>exact⟨inferInstance,fun a=>(th c a).out⟩
  ·simp at h
 ·unfold NP at h
  obtain⟨x,_,rfl⟩:=AQ.1 h
  exact⟨inferInstance,fun a=>(te c a).out⟩
def Ns (c:Chg) (own:List Atm) (r:Rfc):Int:=
 if r.id.n < 0∨(r.id.patch=Dig.zero∧(own.length:Int)≤r.id.n)∨100000≤r.id.n then 7 else if r.id.patch=Dig.zero∧NS c r.f (own.getD r.id.n.toNat Atm.zero)=false then 8 else 0
def RV (c:Chg) (own:List Atm):Int:=
 if Aw (Ns c own) (En c)≠0 then Aw (Ns c own) (En c)else if c.kind=2∧c.parent=c.file then 20 else
 if(c.kind=6∧c.after=c.before)∨(c.kind=5∧c.after=c.before∧c.after≠c.file)then 1 else 0
def NU (own:List Atm):Prop:= ∀ i (h:i < own.length),own[i].id=⟨Dig.zero,i⟩
theorem Lp (c:Chg) (own:List Atm) (hl:own.length≤100000) (x:Ident) (f:Nat) (cs:List PV):Ns c own ⟨x,f,cs⟩=J7 x own (NS c f (Lv own x)):=by
 by_cases h:x.patch=Dig.zero
 ·by_cases h1:0≤x.n∧x.n < own.length
  ·have n1: ¬(x.n < 0∨(x.patch=Dig.zero∧(own.length:Int)≤x.n)∨100000≤x.n):=by rintro(h2|⟨_,h2⟩|h2)<;>omega
   have ha:Di x own.length=true:=by unfold Di;rw[if_pos h];simp[h1]
   unfold Ns J7 Lv
   dsimp only
   rw[if_neg n1,ha,if_pos (show x.patch=Dig.zero∧0≤x.n from⟨h,h1.1⟩)]
   simp only[Bool.true_eq_false,if_false]
  ·have n1:x.n < 0∨(x.patch=Dig.zero∧(own.length:Int)≤x.n)∨100000≤x.n:=by
    by_cases h2:x.n < 0
    ·exact .inl h2
    ·exact .inr (.inl ⟨h,by omega⟩)
   have ha:Di x own.length=false:=by
    unfold Di;rw[if_pos h]
    by_cases h2:0≤x.n
    ·have: ¬x.n < own.length:=fun h3=>h1 ⟨h2,h3⟩
     simp[this]
    ·simp[h2]
   unfold Ns J7
   dsimp only
   rw[if_pos n1,if_pos ha]
 ·by_cases h1:0≤x.n∧x.n < 100000
  ·have n1: ¬(x.n < 0∨(x.patch=Dig.zero∧(own.length:Int)≤x.n)∨100000≤x.n):=by
    rintro(h2|⟨h2,_⟩|h2)
    ·omega
    ·exact h h2
    ·omega
   have ha:Di x own.length=true:=by unfold Di;rw[if_neg h];simp[h1]
   unfold Ns J7
   dsimp only
   rw[if_neg n1,ha]
   simp only[Bool.true_eq_false,if_false,h,false_and]
  ·have n1:x.n < 0∨(x.patch=Dig.zero∧(own.length:Int)≤x.n)∨100000≤x.n:=by omega
   have ha:Di x own.length=false:=by
    unfold Di;rw[if_neg h]
    by_cases h2:0≤x.n
    ·have: ¬x.n < 100000:=fun h3=>h1 ⟨h2,h3⟩
     simp[this]
    ·simp[h2]
   unfold Ns J7
   dsimp only
   rw[if_pos n1,if_pos ha]
theorem Ta {x:Ident} {own:List Atm} {a b:Bool} (h:x.patch=Dig.zero→0≤x.n→x.n < own.length→a=b):J7 x own a=J7 x own b:=by
 unfold J7
 by_cases h1:Di x own.length=false
 ·rw[if_pos h1,if_pos h1]
 rw[if_neg h1,if_neg h1]
 by_cases h2:x.patch=Dig.zero
 ·have h3:Di x own.length=true:=by simpa using h1
  unfold Di at h3
  simp only[h2,if_true,BW,AB]at h3
  rw[h h2 h3.1 h3.2]
 ·rw[if_neg (fun h3=>h2 h3.1),if_neg (fun h3=>h2 h3.1)]
theorem Jj {c:Chg} (h:C3 c=0):1≤c.kind∧c.kind≤7:=by
 unfold C3 at h
 by_cases h1:c.kind < 1∨7 < c.kind
 ·rw[if_pos h1]at h;omega
 ·omega
theorem KG {c:Chg} (h:C3 c=0):Fl (Hx c)=true:=by
 have hk:=Jj h
 unfold C3 at h
 rw[if_neg (by omega)]at h
 by_cases h1:Fl (Hx c)=false
 ·rw[if_pos h1]at h;omega
 ·simpa using h1
theorem Ji {c:Chg} (h:C3 c=0) (hk:c.kind=1∨c.kind=5):c.over= []:=by
 have h2:=KG h
 unfold Fl Hx at h2
 simp only[BW,AB]at h2
 have h3:=h2.2
 rw[if_neg (by omega)]at h3
 exact BL (by omega)
theorem Sf {c:Chg} (h:C3 c=0):c.over.length≤400:=by
 have h0:=Ji h
 have hk:c.kind=5∨c.kind≠5:=by omega
 rcases hk with hk|hk
 ·rw[h0 (.inr hk)];simp
 clear h0
 unfold C3 at h
 generalize Fl (Hx c)=a1 at h
 generalize Ja c.name=a2 at h
 generalize Pf c.over=a3 at h
 generalize Mo c.lines=a4 at h
 rcases B9 400 c.over.length with hc|hc
 ·exfalso
  have hc':400 < (c.over.length:Int):=by omega
  rw[if_pos hc',if_neg hk]at h
  by_cases g1:c.kind < 1∨7 < c.kind
  ·rw[if_pos g1]at h;exact absurd h (by decide)
  rw[if_neg g1]at h
  by_cases g2:a1=false
  ·rw[if_pos g2]at h;exact absurd h (by decide)
  rw[if_neg g2]at h
  by_cases g3:c.kind=1∧(c.type < 1∨4 < c.type)
  ·rw[if_pos g3]at h;exact absurd h (by decide)
  rw[if_neg g3]at h
  by_cases g4:c.kind=2∧a2=false
  ·rw[if_pos g4]at h;exact absurd h (by decide)
  rw[if_neg g4]at h
  by_cases g5:c.kind=3∧(c.mode < 0∨511 < c.mode)
  ·rw[if_pos g5]at h;exact absurd h (by decide)
  rw[if_neg g5]at h
  by_cases g6:65536 < (c.data.length:Int)
  ·rw[if_pos g6]at h;exact absurd h (by decide)
  rw[if_neg g6]at h
  by_cases g7:c.kind=7∧(c.over.length:Int)=0
  ·rw[if_pos g7]at h;exact absurd h (by decide)
  rw[if_neg g7]at h
  exact absurd h (by decide)
 ·exact hc
theorem jt {c:Chg} {own:List Atm} (hf:C3 c=0) (hl:own.length≤100000) (hi:NU own):RV c own=FA c own:=by
 have hk:=Jj hf
 have e1:Aw (Ns c own) (Ht c)=K1 c own:=by
  unfold Ht K1
  by_cases h1:c.kind=2∨c.kind=3
  ·have:xK=EL c.kind:=by
    funext a;unfold xK EL IV
    rcases h1 with h|h<;>simp[h]
   rw[if_pos h1,if_pos (by omega),Aw,Aw,Lp c own hl,show NS c 116=xK from rfl,this]
   split<;>simp_all
  by_cases h2:c.kind=4
  ·have:vb=EL c.kind:=by
    funext a;unfold vb EL IV
    simp[h2]<;>(by_cases ha:a.kind=1<;>simp[ha])
   rw[if_neg h1,if_pos h2,if_pos (by omega),Aw,Aw,Lp c own hl,show NS c 117=vb from rfl,this]
   split<;>simp_all
  by_cases h3:c.kind=5∨c.kind=6
  ·have:va=EL c.kind:=by
    funext a;unfold va EL IV
    rcases h3 with h|h<;>simp[h]<;>by_cases ha:a.kind=1<;>simp[ha]
   rw[if_neg h1,if_neg h2,if_pos h3,if_pos (by omega),Aw,Aw,Lp c own hl,show NS c 118=va from rfl,this]
   split<;>simp_all
  ·rw[if_neg h1,if_neg h2,if_neg h3,if_neg (by omega)];rfl
 have e2:Aw (Ns c own) (KV c)=Lq c own:=by
  unfold KV Lq rRoot
  by_cases h1:c.kind=2∧c.parent≠⟨Dig.zero,-1⟩
  ·rw[if_pos h1,if_pos h1,Aw,Aw,Lp c own hl,show NS c 120=oa from rfl,show oa=rDirectory from rfl]
   split<;>simp_all
  ·rw[if_neg h1,if_neg h1];rfl
 have e6: ∀ x:Ident,Ns c own ⟨x,121,[.pt (eChg c) 0]⟩=QM c own x:=fun x=>by
  rw[Lp c own hl,show NS c 121=xJ c from rfl,QM]
  refine Ta fun h1 h2 h3=>?_
  have h4:x.n.toNat < own.length:=by omega
  have e:(Lv own x).id=x:=by
   unfold Lv
   rw[if_pos ⟨h1,h2⟩]
   have:own.getD x.n.toNat Atm.zero=own[x.n.toNat]:=by simp[List.getD,h4]
   rw[this,hi _ h4]
   obtain⟨p,n⟩:=x
   simp only at h1 h2 ⊢
   subst h1
   congr 1
   omega
  unfold xJ
  rw[e];rfl
 have e3:Aw (Ns c own) (PE c)=IK c own:=by
  unfold PE IK
  by_cases h1:c.kind=5∨c.kind=6
  ·have:IV c.kind=true:=by unfold IV;rcases h1 with h|h<;>simp[h]
   rw[if_pos h1,if_pos this]
   simp only[Aw,e6]
  ·have: ¬IV c.kind=true:=by unfold IV;intro h;simp at h;exact h1 h
   rw[if_neg h1,if_neg this];rfl
 have e4:Aw (Ns c own) (NP c c.over)=Aw (Nu c own) c.over:=by
  unfold NP
  rw[Qp]
  refine GN fun x hx=>?_
  rw[Lp c own hl,show NS c 122=xI c from rfl,Nu]
  refine Ta fun _ _ _=>?_
  have h15:c.kind≠1∧c.kind≠5:=⟨fun h=>(by rw[Ji hf (.inl h)]at hx;simp at hx),fun h=>(by rw[Ji hf (.inr h)]at hx;simp at hx)⟩
  unfold xI HO TS iW
  by_cases h7:c.kind=7
  ·simp[h7]
  ·have:c.kind=2∨c.kind=3∨c.kind=4∨c.kind=6:=by omega
   rw[if_pos this,if_neg h7]
   simp[h7]
   omega
 unfold RV FA
 rw[En,Gk,Gk,Gk,e1,e2,e3,e4]
 have e5:((c.kind=6∧c.after=c.before)∨(c.kind=5∧c.after=c.before∧c.after≠c.file))↔((IV c.kind=true∧c.after=c.before)∧(c.kind=6∨c.after≠c.file)):=by
  unfold IV
  simp only[qj,AB]
  constructor
  ·rintro(⟨h1,h2⟩|⟨h1,h2,h3⟩)
   ·exact⟨⟨.inr h1,h2⟩,.inl h1⟩
   ·exact⟨⟨.inl h1,h2⟩,.inr h3⟩
  ·rintro⟨⟨h1|h1,h2⟩,h3⟩
   ·rcases h3 with h3|h3
    ·omega
    ·exact .inr ⟨h1,h2,h3⟩
   ·exact .inl ⟨h1,h2⟩
 simp only[e5]
 by_cases a1:K1 c own=0<;>by_cases a2:Lq c own=0<;>by_cases a3:IK c own=0<;>by_cases a4:Aw (Nu c own) c.over=0<;>simp[a1,a2,a3,a4]
theorem Vb {c:Chg} (h:c.over.length≤400):(En c).length≤404:=by
 have r1:=Vf c
 have r2:=Ve c
 have r3:=Vc c
 rw[En,NP];simp only[AA,AR];omega
theorem Xq (c:Chg) (own:List Atm) (t:CF) (hov:c.over.length≤400) (hol:own.length≤100000):Q.Fn Tryz.prog 143 [.agg (eChg c),.slice (own.map eAtm) t] (.raw (.int .i64 (RV c own))):=by
 have i0:B1 (c.over.length≤400):=⟨hov⟩
 have hrl:=Vb hov
 refine Au Tryz.func143 Tryz.ntmps143 rfl (rs:= [.tmp 4]) rfl rfl fun hb LF=>?_
 refine wf ?_
 refine Ad (σ:=Nat) (fun k=>k≤(En c).length∧ ∀ i (h:i < (En c).length),i < k→Ns c own (En c)[i]=0) (fun k=>(En c).length - k) (fun k=> [(1,.slice (own.map eAtm) t),(2,.pt (eChg c) 0),(8,.slice ((En c).map eRfc) .ro),(9,.raw (.int .i64 (En c).length)),(10,.raw (.int .i64 k))]) (fun _=>LF) 0 ⟨by simp,by simp⟩ ⟨rfl,rfl,rfl,rfl,rfl⟩ (.refl _) ?_
 rintro k ⟨hk,he⟩
 refine wf ?_
 refine A6 (fun hc=>?_) (fun hc=>?_)
 ·have hlt:k < (En c).length:=by omega
  have hat:=DU (f:=Ns c own) hlt he
  have hsu:=fun h=>EC (f:=Ns c own) he hlt h
  have hfit:=lL c _ (AF hlt)
  refine wz fun b6=>?_
  generalize (En c)[k]=r at hat hsu hfit ⊢
  refine Ao 6 ?_
  have i1:Az Tryz.prog r.f:=hfit.fn
  have i2: ∀ a:Atm,CB Tryz.prog r.f (.agg (eAtm a)::r.cs) (.raw (.bool (NS c r.f a))):=fun a=>⟨hfit.out a⟩
  have er:Ns c own r=if r.id.n < 0∨(r.id.patch=Dig.zero∧(own.length:Int)≤r.id.n)∨100000≤r.id.n then 7 else if r.id.patch=Dig.zero∧NS c r.f (own.getD r.id.n.toNat Atm.zero)=false then 8 else 0:=rfl
  refine wf ?_
  refine Cv (σ:=Unit) (fun _=>True) (fun _=> [(1,.slice (own.map eAtm) t),(2,.pt (eChg c) 0),(6,.pt (eRfc r) 0),(8,.slice ((En c).map eRfc) .ro),(9,.raw (.int .i64 (En c).length)),(10,.raw (.int .i64 k)),(14,.raw (.bool (decide (r.id.n < 0∨(r.id.patch=Dig.zero∧(own.length:Int)≤r.id.n)∨100000≤r.id.n))))]) (fun _=>LF) ?_ ?_
  ·refine A6 (fun h=>?_) (fun h=>?_)
   ·refine wf ?_
    exact⟨(),trivial,⟨rfl,rfl,rfl,rfl,rfl,rfl,CD (by rfl) (by simp[h])⟩,.refl _⟩
   ·refine wf ?_
    refine BZ [(14,.raw (.bool (decide (r.id.patch=Dig.zero∧(own.length:Int)≤r.id.n)))),(1,.slice (own.map eAtm) t),(2,.pt (eChg c) 0),(6,.pt (eRfc r) 0),(8,.slice ((En c).map eRfc) .ro),(9,.raw (.int .i64 (En c).length)),(10,.raw (.int .i64 k))] (LF) ?_ ?_
    ·repeat' (first|(refine A6 (fun h=>?_) (fun h=>?_)<;>refine wf ?_)|(refine AY (fun h=>?_) (fun h=>?_)<;>refine wf ?_)|(refine AW (fun h=>?_) (fun h=>?_)<;>refine wf ?_)|(refine Av (fun h=>?_) (fun h=>?_)<;>(have h2:=h;(try simp only[AB,A8,AJ,AL]at h2);refine wf ?_)))
     all_goals (refine⟨⟨CD (by rfl) ?_,rfl,rfl,rfl,rfl,rfl,rfl⟩,.refl _⟩;first|(simp_all;done)|(clear hat hsu hfit er he;grind))
    refine wf ?_
    refine A6 (fun h2=>?_) (fun h2=>?_)
    ·refine wf ?_
     exact⟨(),trivial,⟨rfl,rfl,rfl,rfl,rfl,rfl,CD (by rfl) (by simp[h2])⟩,.refl _⟩
    ·refine wf ?_
     have e8:(100000≤r.id.n)↔(r.id.n < 0∨(r.id.patch=Dig.zero∧(own.length:Int)≤r.id.n)∨100000≤r.id.n):=⟨fun h=> .inr (.inr h),fun h3=>by
      rcases h3 with h3|h3|h3
      ·exact absurd h3 h
      ·exact absurd h3 h2
      ·exact h3⟩
     exact⟨(),trivial,⟨rfl,rfl,rfl,rfl,rfl,rfl,CD (by rfl) (by rw[decide_eq_decide];exact e8)⟩,.refl _⟩
  intro _ _
  refine A6 (fun h=>?_) (fun h=>?_)
  ·refine wf ?_
   refine B2 (.of_eq ?_)
   rw[if_pos h]at er
   rw[RV,hat (by rw[er];decide),er];rfl
  rw[if_neg h]at er
  refine wf ?_
  refine BZ [(34,.raw (.bool (decide (r.id.patch=Dig.zero∧NS c r.f (own.getD r.id.n.toNat Atm.zero)=false)))),(1,.slice (own.map eAtm) t),(2,.pt (eChg c) 0),(8,.slice ((En c).map eRfc) .ro),(9,.raw (.int .i64 (En c).length)),(10,.raw (.int .i64 k))] LF ?_ ?_
  ·refine Av (fun hp=>?_) (fun hp=>?_)
   ·have hp2:=BB hp
    have g1:0≤r.id.n:=by
     rcases Ug r.id.n 0 with h'|h'
     ·exact absurd (.inl h') h
     ·exact h'
    have g2:r.id.n < own.length:=by
     rcases Ug r.id.n own.length with h'|h'
     ·exact h'
     ·exact absurd (.inr (.inl ⟨hp2,h'⟩)) h
    have g3:own.getD r.id.n.toNat Atm.zero=own[r.id.n.toNat]'(by omega):=by
     have:r.id.n.toNat < own.length:=by omega
     simp[List.getD,this]
    refine wf ?_
    exact⟨⟨CD (by rfl) (by rw[g3];simp[hp2]),rfl,rfl,rfl,rfl,rfl⟩,.refl _⟩
   ·have hp2:=Bp hp
    refine wf ?_
    exact⟨⟨CD (by rfl) (by simp[hp2]),rfl,rfl,rfl,rfl,rfl⟩,.refl _⟩
  refine wf ?_
  refine A6 (fun h2=>?_) (fun h2=>?_)
  ·refine wf ?_
   refine B2 (.of_eq ?_)
   rw[if_pos h2]at er
   rw[RV,hat (by rw[er];decide),er];rfl
  ·rw[if_neg h2]at er
   refine wf ?_
   exact⟨k+1,⟨by omega,hsu er⟩,by dsimp only;omega,⟨rfl,rfl,rfl,rfl,rfl⟩,.refl _⟩
 have e0:Aw (Ns c own) (En c)=0:=E3 fun i h=>he i h (by omega)
 rw[RV,if_neg (by simp[e0])]
 clear e0 he hk hc
 refine wf ?_
 refine BZ [(51,.raw (.bool (decide (c.kind=2∧c.parent=c.file)))),(2,.pt (eChg c) 0)] (LF) ?_ ?_
 ·repeat' (first|(refine A6 (fun h=>?_) (fun h=>?_)<;>refine wf ?_)|(refine AY (fun h=>?_) (fun h=>?_)<;>refine wf ?_)|(refine AW (fun h=>?_) (fun h=>?_)<;>refine wf ?_)|(refine Av (fun h=>?_) (fun h=>?_)<;>(have h2:=h;(try simp only[AB,A8,AJ,AL]at h2);refine wf ?_)))
  all_goals (refine⟨⟨CD (by rfl) ?_,rfl⟩,.refl _⟩;first|(simp_all;done)|grind)
 refine wf ?_
 refine A6 (fun h=>?_) (fun h=>?_)
 ·refine wf ?_
  refine B2 (.of_eq ?_)
  rw[if_pos h]
 rw[if_neg h]
 refine wf ?_
 refine BZ [(62,.raw (.bool (decide (c.kind=6∧c.after=c.before)))),(2,.pt (eChg c) 0)] (LF) ?_ ?_
 ·repeat' (first|(refine A6 (fun h=>?_) (fun h=>?_)<;>refine wf ?_)|(refine AY (fun h=>?_) (fun h=>?_)<;>refine wf ?_)|(refine AW (fun h=>?_) (fun h=>?_)<;>refine wf ?_)|(refine Av (fun h=>?_) (fun h=>?_)<;>(have h2:=h;(try simp only[AB,A8,AJ,AL]at h2);refine wf ?_)))
  all_goals (refine⟨⟨CD (by rfl) ?_,rfl⟩,.refl _⟩;first|(simp_all;done)|grind)
 refine wf ?_
 refine Cv (σ:=Unit) (fun _=>True) (fun _=> [(62,.raw (.bool (decide ((c.kind=6∧c.after=c.before)∨(c.kind=5∧c.after=c.before∧c.after≠c.file)))))]) (fun _=>LF) ?_ ?_
 ·refine A6 (fun h=>?_) (fun h=>?_)
  ·refine wf ?_
   exact⟨(),trivial,CD (by rfl) (by simp[h]),.refl _⟩
  ·refine wf ?_
   repeat' (first|(refine A6 (fun h=>?_) (fun h=>?_)<;>refine wf ?_)|(refine AY (fun h=>?_) (fun h=>?_)<;>refine wf ?_)|(refine AW (fun h=>?_) (fun h=>?_)<;>refine wf ?_)|(refine Av (fun h=>?_) (fun h=>?_)<;>(have h2:=h;(try simp only[AB,A8,AJ,AL]at h2);refine wf ?_)))
   all_goals (refine⟨(),trivial,CD (by rfl) ?_,.refl _⟩;first|(simp_all;done)|grind)
 intro _ _
 refine A6 (fun h=>?_) (fun h=>?_)
 ·refine wf ?_
  refine B2 (.of_eq ?_)
  rw[if_pos h]
 ·refine wf ?_
  refine B2 (.of_eq ?_)
  rw[if_neg h]
instance cR (c:Chg) (own:List Atm) (t:CF) [hs:B1 (C3 c=0∧own.length≤100000∧NU own)]:CB Tryz.prog 143 [.agg (eChg c),.slice (own.map eAtm) t] (.raw (.int .i64 (FA c own))):=⟨by
 obtain⟨h1,h2,h3⟩:=hs.out
 rw[←jt h1 h2 h3]
 exact Xq c own t (Sf h1) h2⟩
attribute [local irreducible] Km
instance vg (first n:Int) [hs:B1 (0≤first∧first≤1000000000∧0≤n∧n≤100000)]:CB Tryz.prog 150 [.raw (.int .i64 n),.pt [.raw (.int .i64 first)] 0] (.agg (eIdent ⟨Dig.zero,first+n⟩)):=⟨by
 obtain⟨h1,h2,h3,h4⟩:=hs.out
 refine Au Tryz.func150 Tryz.ntmps150 rfl (rs:= [.cell 3 65]) rfl rfl fun hb LF=>?_
 refine Y9 fun b=>?_
 exact Fo rfl (.refl _)⟩
theorem JH {c:Chg} {first:Int} {x:Atm} (e:Ca c first= [x]):([]++ [x]) <+:Ca c first:=by rw[e];exact⟨[],rfl⟩
theorem QK {k n:Nat} (h:k≤n):List.range k <+:List.range n:=by
 have:=Si k (List.range n)
 rwa [List.take_range,DM h]at this
theorem Aq {a b:Res} {L LF:List Res}:(a::b::(L++LF)).Perm (L++(a::b::LF)):=((Bc (l₁:=L)).trans (.cons a Bc)).symm
def re (c:Chg) (first:Int):List PV:= [.pt [.raw (.int .i64 first)] 0,.pt (eChg c) 0]
def lY (a:Atm):List PV:= [.agg (eAtm a)]
theorem Rp (c:Chg) (first:Int) (hk:1≤c.kind∧c.kind≤7) (hl:c.lines.length≤2000∧0≤first∧first≤1000000000):Uc Tryz.prog 149 (re c first) lY (Ca c first):=by
 intro l J Jx hY L hJ
 obtain⟨hl,hf0,hf1⟩:=hl
 have hz:B1 (0≤first∧first≤1000000000∧(0:Int)≤0∧(0:Int)≤100000):=⟨by omega⟩
 refine C5 Tryz.func149 rfl Tryz.ntmps149 (rs:= []) rfl rfl fun hb LF=>?_
 refine wn ?_
 refine A6 (fun h1=>?_) (fun h1=>?_)
 ·have e:Ca c first= [{ Atm.zero with id:=⟨Dig.zero,first+0⟩,kind:=1,file:=⟨Dig.zero,first+0⟩,type:=c.type }]:=by rw[Ca,if_pos h1,P8]
  refine Bj 8 ?_ ?_
  ·decide+kernel
  refine wf ?_
  refine HL L LF rfl rfl rfl (.refl _) _ (hY [] _ L (JH e) hJ) fun b L' hR=>?_
  refine wf ?_
  refine⟨trivial,[],L',.nil,.refl _,?_⟩
  rcases hR with ⟨_,h⟩|⟨_,h⟩
  ·exact .inl (by rw[e];exact h)
  ·exact .inr ⟨_,h⟩
 refine wn ?_
 refine A6 (fun h2=>?_) (fun h2=>?_)
 ·have e:Ca c first= [{ Atm.zero with id:=⟨Dig.zero,first+0⟩,kind:=2,file:=c.file,parent:=c.parent,name:=c.name,over:=c.over }]:=by rw[Ca,if_neg h1,if_pos h2,P8]
  refine Bj 12 ?_ ?_
  ·decide+kernel
  refine wf ?_
  refine HL L LF rfl rfl rfl (.refl _) _ (hY [] _ L (JH e) hJ) fun b L' hR=>?_
  refine wf ?_
  refine⟨trivial,[],L',.nil,.refl _,?_⟩
  rcases hR with ⟨_,h⟩|⟨_,h⟩
  ·exact .inl (by rw[e];exact h)
  ·exact .inr ⟨_,h⟩
 refine wn ?_
 refine A6 (fun h3=>?_) (fun h3=>?_)
 ·have e:Ca c first= [{ Atm.zero with id:=⟨Dig.zero,first+0⟩,kind:=3,file:=c.file,mode:=c.mode,over:=c.over }]:=by rw[Ca,if_neg h1,if_neg h2,if_pos h3,P8]
  refine Bj 10 ?_ ?_
  ·decide+kernel
  refine wf ?_
  refine HL L LF rfl rfl rfl (.refl _) _ (hY [] _ L (JH e) hJ) fun b L' hR=>?_
  refine wf ?_
  refine⟨trivial,[],L',.nil,.refl _,?_⟩
  rcases hR with ⟨_,h⟩|⟨_,h⟩
  ·exact .inl (by rw[e];exact h)
  ·exact .inr ⟨_,h⟩
 refine wn ?_
 refine A6 (fun h4=>?_) (fun h4=>?_)
 ·have e:Ca c first= [{ Atm.zero with id:=⟨Dig.zero,first+0⟩,kind:=4,file:=c.file,data:=c.data,over:=c.over }]:=by rw[Ca,if_neg h1,if_neg h2,if_neg h3,if_pos h4,P8]
  refine Bj 10 ?_ ?_
  ·decide+kernel
  refine wf ?_
  refine HL L LF rfl rfl rfl (.refl _) _ (hY [] _ L (JH e) hJ) fun b L' hR=>?_
  refine wf ?_
  refine⟨trivial,[],L',.nil,.refl _,?_⟩
  rcases hR with ⟨_,h⟩|⟨_,h⟩
  ·exact .inl (by rw[e];exact h)
  ·exact .inr ⟨_,h⟩
 refine wn ?_
 refine A6 (fun h6=>?_) (fun h6=>?_)
 ·have e:Ca c first= [{ Atm.zero with id:=⟨Dig.zero,first+0⟩,kind:=6,file:=c.file,src:=c.after,dst:=c.before,over:=c.over }]:=by rw[Ca,if_neg h1,if_neg h2,if_neg h3,if_neg h4,if_pos h6,P8]
  refine Bj 12 ?_ ?_
  ·decide+kernel
  refine wf ?_
  refine HL L LF rfl rfl rfl (.refl _) _ (hY [] _ L (JH e) hJ) fun b L' hR=>?_
  refine wf ?_
  refine⟨trivial,[],L',.nil,.refl _,?_⟩
  rcases hR with ⟨_,h⟩|⟨_,h⟩
  ·exact .inl (by rw[e];exact h)
  ·exact .inr ⟨_,h⟩
 refine wn ?_
 refine A6 (fun h7=>?_) (fun h7=>?_)
 ·have e:Ca c first= [{ Atm.zero with id:=⟨Dig.zero,first+0⟩,kind:=7,over:=c.over }]:=by rw[Ca,if_neg h1,if_neg h2,if_neg h3,if_neg h4,if_neg h6,if_pos h7,P8]
  refine Bj 6 ?_ ?_
  ·decide+kernel
  refine wf ?_
  refine HL L LF rfl rfl rfl (.refl _) _ (hY [] _ L (JH e) hJ) fun b L' hR=>?_
  refine wf ?_
  refine⟨trivial,[],L',.nil,.refl _,?_⟩
  rcases hR with ⟨_,h⟩|⟨_,h⟩
  ·exact .inl (by rw[e];exact h)
  ·exact .inr ⟨_,h⟩
 refine wn ?_
 refine A6 (fun h5=>?_) (fun h5=>?_)
 ·have e:Ca c first=(List.range c.lines.length).map (Fi c first)++(List.range (c.lines.length+1)).map (Ez c first):=by rw[Ca,if_neg h1,if_neg h2,if_neg h3,if_neg h4,if_neg h6,if_neg h7]
  have hc209: ∀ n:Nat,n≤4001→B1 (0≤first∧first≤1000000000∧(0:Int)≤n∧(n:Int)≤100000):=fun n hn=>⟨by omega⟩
  refine wf ?_
  refine Ad (σ:=Nat × List Res) (fun k=>k.1≤c.lines.length∧J ((List.range k.1).map (Fi c first)) k.2) (fun k=>c.lines.length - k.1) (fun k=> [(0,.raw (.func (.yield l) #[] #[])),(1,.pt [.raw (.int .i64 first)] 0),(2,.pt (eChg c) 0),(4,.clo 150 [.pt [.raw (.int .i64 first)] 0]),(93,.slice (c.lines.map eS) .ro),(94,.raw (.int .i64 c.lines.length)),(95,.raw (.int .i64 k.1))]) (fun k=>k.2++LF) (0,L) ⟨by simp,hJ⟩ ⟨rfl,rfl,rfl,rfl,rfl,rfl,rfl⟩ (.refl _) ?_
  rintro⟨k,L1⟩ ⟨hk,hJ1⟩
  dsimp only at hk hJ1 ⊢
  refine wn ?_
  refine A6 (fun hc=>?_) (fun hc=>?_)
  ·have hlt:k < c.lines.length:=by omega
   have hsk:=hc209 k (by omega)
   refine wn ?_
   refine Bj 8 ?_ ?_
   ·decide+kernel
   refine wf ?_
   have hx:Fi c first k= { Atm.zero with id:=⟨Dig.zero,first+k⟩,kind:=5,file:=c.file,text:=c.lines[k] }:=by simp[Fi,List.getD,hlt]
   have hr:(List.range (k+1)).map (Fi c first)=(List.range k).map (Fi c first)++ [Fi c first k]:=by rw[EJ,Ak];rfl
   refine HL L1 LF rfl rfl rfl (.refl _) _ (hY ((List.range k).map (Fi c first)) { Atm.zero with id:=⟨Dig.zero,first+k⟩,kind:=5,file:=c.file,text:=c.lines[k] } L1 ?_ hJ1) fun b L' hR=>?_
   ·rw[←hx,←hr,e]
    exact((QK (by omega)).map _).trans (List.prefix_append _ _)
   rw[←hx,←hr]at hR
   refine wf ?_
   rcases hR with ⟨rfl,h⟩|⟨rfl,h⟩
   ·refine AW (t:=false) (fun h'=>by cases h') (fun _=>?_)
    refine wf ?_
    exact⟨(k+1,L'),⟨by dsimp only;omega,h⟩,by dsimp only;omega,⟨rfl,rfl,rfl,rfl,rfl,rfl,rfl⟩,.refl _⟩
   ·refine AW (t:=true) (fun _=>?_) (fun h'=>by cases h')
    refine wf ?_
    exact⟨trivial,[],L',.nil,.refl _,.inr ⟨_,h⟩⟩
  have hkk:k=c.lines.length:=by omega
  subst hkk
  generalize hA:(List.range c.lines.length).map (Fi c first)=A at e hJ1
  refine Y9 fun b8=>?_
  refine Ad (σ:=Nat × Ident × List Res) (fun k=>k.1≤c.lines.length+1∧(k.1≤c.lines.length→k.2.1=(if 0 < (k.1:Int)then⟨Dig.zero,first+k.1 - 1⟩else c.after))∧J (A++(List.range k.1).map (Ez c first)) k.2.2) (fun k=>c.lines.length+1 - k.1) (fun k=> [(0,.raw (.func (.yield l) #[] #[])),(1,.pt [.raw (.int .i64 first)] 0),(2,.pt (eChg c) 0),(4,.clo 150 [.pt [.raw (.int .i64 first)] 0]),(7,.raw (.int .i64 c.lines.length)),(8,.raw (.pointer (some ⟨b8,0,none⟩))),(117,.raw (.int .i64 (c.lines.length+1))),(118,.raw (.int .i64 k.1))]) (fun k=> .box b8 65 (eIdent k.2.1)::(k.2.2++LF)) (0,c.after,L1) ⟨by simp,fun _=>rfl,by simpa using hJ1⟩ ⟨rfl,rfl,rfl,rfl,rfl,rfl,rfl,rfl⟩ (.refl _) ?_
  rintro⟨k,fr,L1⟩ ⟨hk,hfr,hJ1⟩
  dsimp only at hk hfr hJ1 ⊢
  refine wf ?_
  refine A6 (fun hc=>?_) (fun hc=>?_)
  ·have hfr:=hfr (by omega)
   have hsk:=hc209 k (by omega)
   have hsk2:B1 (0≤first∧first≤1000000000∧(0:Int)≤c.lines.length+k∧(c.lines.length+k:Int)≤100000):=⟨by omega⟩
   refine Y9 fun b10=>?_
   refine Cv (σ:=Ident) (fun s=>s=if(k:Int) < c.lines.length then⟨Dig.zero,first+k⟩else c.before) (fun s=> [(0,.raw (.func (.yield l) #[] #[])),(1,.pt [.raw (.int .i64 first)] 0),(2,.pt (eChg c) 0),(4,.clo 150 [.pt [.raw (.int .i64 first)] 0]),(7,.raw (.int .i64 c.lines.length)),(8,.raw (.pointer (some ⟨b8,0,none⟩))),(9,.raw (.int .i64 k)),(10,.raw (.pointer (some ⟨b10,0,none⟩))),(117,.raw (.int .i64 (c.lines.length+1))),(118,.raw (.int .i64 k))]) (fun s=> .box b10 65 (eIdent s):: .box b8 65 (eIdent fr)::(L1++LF)) ?_ ?_
   ·refine A6 (fun h=>?_) (fun h=>?_)
    ·refine wf ?_
     exact⟨⟨Dig.zero,first+k⟩,by rw[if_pos h],⟨rfl,rfl,rfl,rfl,rfl,rfl,rfl,rfl,rfl,rfl⟩,.refl _⟩
    ·refine wf ?_
     exact⟨c.before,by rw[if_neg h],⟨rfl,rfl,rfl,rfl,rfl,rfl,rfl,rfl,rfl,rfl⟩,.refl _⟩
   rintro to hto
   refine wn ?_
   refine Bj 11 ?_ ?_
   ·decide+kernel
   refine wf ?_
   have hx:Ez c first k= { Atm.zero with id:=⟨Dig.zero,first+(c.lines.length+k)⟩,kind:=6,file:=c.file,src:=fr,dst:=to }:=by rw[Ez,hfr,hto,Int.add_assoc]
   have hr:A++(List.range (k+1)).map (Ez c first)=(A++(List.range k).map (Ez c first))++ [Ez c first k]:=by rw[EJ,Ak,AU];rfl
   refine HL L1 (.box b10 65 (eIdent to):: .box b8 65 (eIdent fr)::LF) rfl rfl rfl Aq _ (hY (A++(List.range k).map (Ez c first)) { Atm.zero with id:=⟨Dig.zero,first+(c.lines.length+k)⟩,kind:=6,file:=c.file,src:=fr,dst:=to } L1 ?_ hJ1) fun b L' hR=>?_
   ·rw[←hx,←hr,e]
    exact(List.prefix_append_right_inj _).2 ((QK (by omega)).map _)
   rw[←hx,←hr]at hR
   refine wf ?_
   rcases hR with ⟨rfl,h⟩|⟨rfl,h⟩
   ·refine AW (t:=false) (fun h'=>by cases h') (fun _=>?_)
    refine E0 Aq.symm ?_
    refine wf ?_
    refine⟨(k+1,to,L'),⟨by dsimp only;omega,?_,h⟩,by dsimp only;omega,⟨rfl,rfl,rfl,rfl,rfl,rfl,rfl,rfl⟩,.cons _ (.refl _)⟩
    intro h'
    dsimp only at h' ⊢
    rw[hto,if_pos (by omega),if_pos (by omega)]
    congr 1
    push_cast;omega
   ·refine AW (t:=true) (fun _=>?_) (fun h'=>by cases h')
    refine wf ?_
    exact⟨trivial,[],L',.nil,(EY _).append (.cons _ (.cons _ (.refl _))),.inr ⟨_,h⟩⟩
  refine wf ?_
  have hkk:k=c.lines.length+1:=by omega
  subst hkk
  exact⟨trivial,[],L1,.nil,.cons _ (.refl _),.inl (by rw[e];exact hJ1)⟩
 ·exact absurd h5 (by omega)
instance ym (c:Chg) (first:Int):CB Tryz.prog 84 [.agg (eChg c),.raw (.int .i64 first)] (.clo 149 (re c first)):=⟨by
 refine Au Tryz.func84 Tryz.ntmps84 rfl (rs:= [.tmp 4]) rfl rfl fun hb LF=>?_
 refine wf ?_
 refine B2 (.of_eq ?_)
 rfl⟩
theorem ea {α:Type} {a:List α} {m:Nat} (h:m < a.length):a.zipIdx.reverse[a.length - (m+1)]'(by simp;omega)=(a[m],m):=by
 rw[Y1,List.getElem_zipIdx]
 have e:a.zipIdx.length - 1 - (a.length - (m+1))=m:=by simp;omega
 simp only[e,BG]
def bkD (e:Dig × Nat):List PV:= [.raw (.int .i64 (e.2:Nat)),.agg (eDig e.1)]
theorem cT (a:List Dig) (t:CF) (hl:a.length≤1000000):Uc Tryz.prog 292 [.pt [.slice (a.map eDig) t] 0] bkD a.zipIdx.reverse:=by
 intro l J Jx hY L hJ
 refine C5 Tryz.func292 rfl Tryz.ntmps292 (rs:= []) rfl rfl fun hb LF=>?_
 refine wf ?_
 refine Ad (σ:=Nat × List Res) (fun k=>k.1≤a.length∧J (a.zipIdx.reverse.take (a.length - k.1)) k.2) (fun k=>k.1) (fun k=> [(0,.raw (.func (.yield l) #[] #[])),(1,.pt [.slice (a.map eDig) t] 0),(3,.raw (.int .i64 ((k.1:Int) - 1)))]) (fun k=>k.2++LF) (a.length,L) ⟨by simp,by simpa using hJ⟩ ⟨rfl,rfl,rfl⟩ (.refl _) ?_
 rintro⟨k,L1⟩ ⟨hk,hJ1⟩
 dsimp only at hk hJ1 ⊢
 refine wf ?_
 refine A6 (fun hc=>?_) (fun hc=>?_)
 ·obtain⟨m,rfl⟩: ∃ m,k=m+1:=⟨k - 1,by omega⟩
  have hm:m < a.length:=by omega
  have hlt:a.length - (m+1) < a.zipIdx.reverse.length:=by simp;omega
  have ht:a.zipIdx.reverse.take (a.length - m)=a.zipIdx.reverse.take (a.length - (m+1))++ [(a[m],m)]:=by
   rw[show a.length - m=a.length - (m+1)+1 by omega,A7 hlt,ea hm]
  have hy:=hY _ (a[m],m) L1 (by rw[←ht];exact Si _ _) hJ1
  rw[←ht]at hy
  refine HQ [(0,.raw (.func (.yield l) #[] #[])),(1,.pt [.slice (a.map eDig) t] 0),(3,.raw (.int .i64 (m:Int)))] ⟨rfl,rfl,congrArg (fun n=>PV.raw (.int .i64 n)) (by omega)⟩ (.refl _) ?_
  refine wf ?_
  refine HL L1 LF rfl rfl rfl (.refl _) _ hy fun bo L' hR=>?_
  refine wf ?_
  rcases hR with ⟨rfl,hJ2⟩|⟨rfl,hJx⟩
  ·refine wf ?_
   exact⟨(m,L'),⟨by dsimp only;omega,hJ2⟩,by dsimp only;omega,⟨rfl,rfl,rfl⟩,.refl _⟩
  ·refine wf ?_
   exact⟨trivial,_,L',.nil,.refl _,.inr ⟨_,hJx⟩⟩
 ·have hk0:k=0:=by omega
  subst hk0
  rw[AE (by simp)]at hJ1
  refine wf ?_
  exact⟨trivial,_,L1,.nil,.refl _,.inl hJ1⟩
instance yA (a:List Dig) (t:CF):CB Tryz.prog 254 [.slice (a.map eDig) t] (.clo 292 [.pt [.slice (a.map eDig) .ro] 0]):=⟨by
 refine Au Tryz.func254 Tryz.ntmps254 rfl (rs:= [.tmp 2]) rfl rfl fun hb LF=>?_
 refine wf ?_
 exact B2 (.refl _)⟩
def bkA (e:Atm × Nat):List PV:= [.raw (.int .i64 (e.2:Nat)),.agg (eAtm e.1)]
theorem cU (a:List Atm) (t:CF) (hl:a.length≤1000000):Uc Tryz.prog 293 [.pt [.slice (a.map eAtm) t] 0] bkA a.zipIdx.reverse:=by
 intro l J Jx hY L hJ
 refine C5 Tryz.func293 rfl Tryz.ntmps293 (rs:= []) rfl rfl fun hb LF=>?_
 refine wf ?_
 refine Ad (σ:=Nat × List Res) (fun k=>k.1≤a.length∧J (a.zipIdx.reverse.take (a.length - k.1)) k.2) (fun k=>k.1) (fun k=> [(0,.raw (.func (.yield l) #[] #[])),(1,.pt [.slice (a.map eAtm) t] 0),(3,.raw (.int .i64 ((k.1:Int) - 1)))]) (fun k=>k.2++LF) (a.length,L) ⟨by simp,by simpa using hJ⟩ ⟨rfl,rfl,rfl⟩ (.refl _) ?_
 rintro⟨k,L1⟩ ⟨hk,hJ1⟩
 dsimp only at hk hJ1 ⊢
 refine wf ?_
 refine A6 (fun hc=>?_) (fun hc=>?_)
 ·obtain⟨m,rfl⟩: ∃ m,k=m+1:=⟨k - 1,by omega⟩
  have hm:m < a.length:=by omega
  have hlt:a.length - (m+1) < a.zipIdx.reverse.length:=by simp;omega
  have ht:a.zipIdx.reverse.take (a.length - m)=a.zipIdx.reverse.take (a.length - (m+1))++ [(a[m],m)]:=by
   rw[show a.length - m=a.length - (m+1)+1 by omega,A7 hlt,ea hm]
  have hy:=hY _ (a[m],m) L1 (by rw[←ht];exact Si _ _) hJ1
  rw[←ht]at hy
  refine HQ [(0,.raw (.func (.yield l) #[] #[])),(1,.pt [.slice (a.map eAtm) t] 0),(3,.raw (.int .i64 (m:Int)))] ⟨rfl,rfl,congrArg (fun n=>PV.raw (.int .i64 n)) (by omega)⟩ (.refl _) ?_
  refine wf ?_
  refine HL L1 LF rfl rfl rfl (.refl _) _ hy fun bo L' hR=>?_
  refine wf ?_
  rcases hR with ⟨rfl,hJ2⟩|⟨rfl,hJx⟩
  ·refine wf ?_
   exact⟨(m,L'),⟨by dsimp only;omega,hJ2⟩,by dsimp only;omega,⟨rfl,rfl,rfl⟩,.refl _⟩
  ·refine wf ?_
   exact⟨trivial,_,L',.nil,.refl _,.inr ⟨_,hJx⟩⟩
 ·have hk0:k=0:=by omega
  subst hk0
  rw[AE (by simp)]at hJ1
  refine wf ?_
  exact⟨trivial,_,L1,.nil,.refl _,.inl hJ1⟩
instance yB (a:List Atm) (t:CF):CB Tryz.prog 255 [.slice (a.map eAtm) t] (.clo 293 [.pt [.slice (a.map eAtm) .ro] 0]):=⟨by
 refine Au Tryz.func255 Tryz.ntmps255 rfl (rs:= [.tmp 2]) rfl rfl fun hb LF=>?_
 refine wf ?_
 exact B2 (.refl _)⟩
end Go.Proofs
namespace Go.Proofs
open Go Go.Q
attribute [local irreducible] ER AV BA Fc
def PG:Nat→Nat→Str
 |0,n=> [UInt8.ofNat (48+n)]
 |f+1,n=>if n < 10 then [UInt8.ofNat (48+n)]else PG f (n / 10)++ [UInt8.ofNat (48+n % 10)]
theorem Te: ∀ (f n:Nat),n≤f→PG f n=PG n n
 |0,n,h=>by have:n=0:=by omega
            subst this;rfl
 |f+1,n,h=>by
  by_cases hn:n < 10
  ·cases n with
   |zero=>simp[PG]
   |succ m=>simp only[PG,hn,if_true]
  ·obtain⟨m,rfl⟩: ∃ m,n=m+1:=⟨n - 1,by omega⟩
   simp only[PG,hn,if_false]
   rw[Te f ((m+1) / 10) (by omega),Te m ((m+1) / 10) (by omega)]
def Hy (n:Nat):Str:=PG n n
theorem IL {n:Nat} (h:n < 10):Hy n= [UInt8.ofNat (48+n)]:=by
 unfold Hy
 cases n with
 |zero=>simp[PG]
 |succ m=>simp only[PG,h,if_true]
theorem Ly {n:Nat} (h: ¬n < 10):Hy n=Hy (n / 10)++ [UInt8.ofNat (48+n % 10)]:=by
 obtain⟨m,rfl⟩: ∃ m,n=m+1:=⟨n - 1,by omega⟩
 unfold Hy
 simp only[PG,h,if_false]
 rw[Te m ((m+1) / 10) (by omega)]
theorem Yn: ∀ (m n:Nat),n < 10 ^ (m+1)→(Hy n).length≤m+1
 |0,n,h=>by rw[IL (by omega)];simp
 |m+1,n,h=>by
  by_cases hn:n < 10
  ·rw[IL hn];simp
  ·rw[Ly hn,AA]
   have:=Yn m (n / 10) (by rw[Nat.div_lt_iff_lt_mul (by omega)];rw[Nat.pow_succ]at h;omega)
   simp only[AN,Af];omega
theorem KY {n:Nat} (h:n≤140737488355328):(Hy n).length≤15:=Yn 14 n (by omega)
theorem SX: ∀ (n:Nat),n≤140737488355328→Q.Fn Tryz.prog 282 [.raw (.int .i64 (n:Int))] (.str (Hy n)):=by
 intro n
 induction n using Nat.strongRecOn with
 |_ n ih=>
 intro hn
 have ih': ∀ m:Nat,[B1 (m < n)]→CB Tryz.prog 282 [.raw (.int .i64 (m:Int))] (.str (Hy m)):=fun m h=>⟨ih m h.out (by have:=h.out;omega)⟩
 refine Au Tryz.func282 Tryz.ntmps282 rfl (rs:= [.tmp 2]) rfl rfl fun hb LF=>?_
 refine AX ?_
 refine A6 (fun h2=>?_) (fun h2=>?_)
 ·refine AX ?_
  refine B2 (.of_eq ?_)
  rw[IL (by omega)]
 ·have:B1 (n / 10 < n):=⟨by omega⟩
  have hl:=KY (n:=n / 10) (by omega)
  refine AX ?_
  refine YS (n:=10) (by rfl) (by rfl) (by decide) (by omega) ?_
  refine CK ?_
  refine YR (n:=10) (by rfl) (by rfl) (by decide) ?_
  refine CK ?_
  refine B2 (.of_eq ?_)
  rw[Ly (n:=n) (by omega)]
def JA (n:Int):Str:=if n < 0 then 45::Hy (-n).toNat else Hy n.toNat
theorem Ob {n:Int} (h: -140737488355328≤n∧n≤140737488355328):(JA n).length≤16:=by
 unfold JA
 split
 ·have:=KY (n:=(-n).toNat) (by omega)
  simp only[AN];omega
 ·have:=KY (n:=n.toNat) (by omega)
  omega
instance vF (n:Int) [hs:B1 (-140737488355328≤n∧n≤140737488355328)]:CB Tryz.prog 282 [.raw (.int .i64 n)] (.str (JA n)):=⟨by
 obtain⟨h0,h1⟩:=hs.out
 by_cases hn:n < 0
 ·have h3:CB Tryz.prog 282 [.raw (.int .i64 (-n))] (.str (Hy (-n).toNat)):=⟨by
   have:=SX (-n).toNat (by omega)
   rwa [show(((-n).toNat:Nat):Int)= -n by omega]at this⟩
  refine Au Tryz.func282 Tryz.ntmps282 rfl (rs:= [.tmp 2]) rfl rfl fun hb LF=>?_
  refine AX ?_
  refine A6 (fun h1=>?_) (fun h1=>?_)
  ·refine AX ?_
   refine A6 (fun h2=>?_) (fun h2=>?_)
   ·omega
   ·have hl:=KY (n:=(-n).toNat) (by omega)
    refine AX ?_
    refine B2 (.of_eq ?_)
    rw[JA,if_pos hn];rfl
  ·omega
 ·have:=SX n.toNat (by omega)
  rw[show((n.toNat:Nat):Int)=n by omega]at this
  rw[JA,if_neg hn];exact this⟩
def Ch (s:Str):Sx:= .mk false s []
def E5 (l:List Sx):Sx:= .mk true [] l
def RY (n:Int):Sx × Int:=if n < -1099511627776∨1099511627776 < n then(Sx.zero,2)else(Ch (JA n),0)
instance zy (n:Int):CB Tryz.prog 223 [.raw (.int .i64 n)] (.tuple [.agg (eSx (RY n).1),.raw (.int .i64 (RY n).2)]):=⟨by
 refine Au Tryz.func223 Tryz.ntmps223 rfl (rs:= [.cell 2 196,.tmp 3]) rfl rfl fun hb LF=>?_
 refine DQ fun b=>?_
 refine BZ [(9,.raw (.bool (decide (n < -1099511627776∨1099511627776 < n)))),(0,.raw (.int .i64 n)),(2,.raw (.pointer (some ⟨b,0,none⟩)))] (.box b 196 (eSx Sx.zero)::LF) ?_ ?_
 ·repeat' (first|(refine A6 (fun h=>?_) (fun h=>?_)<;>refine AX ?_)|(refine AY (fun h=>?_) (fun h=>?_)<;>refine AX ?_)|(refine AW (fun h=>?_) (fun h=>?_)<;>refine AX ?_)|(refine Av (fun h=>?_) (fun h=>?_)<;>(have h2:=h;(try simp only[AB,A8,AJ,AL]at h2);refine CK ?_)))
  all_goals (refine⟨⟨CD (by rfl) ?_,rfl,rfl⟩,.refl _⟩;first|(simp_all;done)|(simp_all;omega)|grind)
 refine AX ?_
 refine A6 (fun h=>?_) (fun h=>?_)
 ·refine AX ?_
  refine Jk rfl (.of_eq ?_)
  rw[RY,if_pos h]
 ·have:B1 (-140737488355328≤n∧n≤140737488355328):=⟨by omega⟩
  refine AX ?_
  refine Jk rfl (.of_eq ?_)
  rw[RY,if_neg h];rfl⟩
instance yC (s:Str):CB Tryz.prog 168 [.str s] (.agg (eSx (Ch s))):=⟨by
 refine Au Tryz.func168 Tryz.ntmps168 rfl (rs:= [.cell 2 196]) rfl rfl fun hb LF=>?_
 refine DQ fun b=>?_
 refine Fo rfl (.of_eq ?_)
 rfl⟩
instance xY (l:List Sx) (t:CF):CB Tryz.prog 167 [.slice (l.map eSx) t] (.agg (eSx (E5 l))):=⟨by
 refine Au Tryz.func167 Tryz.ntmps167 rfl (rs:= [.cell 2 196]) rfl rfl fun hb LF=>?_
 refine DQ fun b=>?_
 refine Fo rfl (.of_eq ?_)
 rfl⟩
def GB (n:Int):Sx:=(RY n).1
instance u0 (n:Int):CB Tryz.prog 169 [.raw (.int .i64 n)] (.agg (eSx (GB n))):=⟨by
 refine Au Tryz.func169 Tryz.ntmps169 rfl (rs:= [.cell 2 196]) rfl rfl fun hb LF=>?_
 refine DQ fun b=>?_
 refine Fh fun b2=>?_
 refine Fo rfl (.of_eq ?_)
 rfl⟩
instance yM (d:Dig):CB Tryz.prog 218 [.agg (eDig d)] (.str d.bs):=⟨by
 refine Au Tryz.func218 Tryz.ntmps218 rfl (rs:= [.tmp 2]) rfl rfl fun hb LF=>?_
 refine DQ fun b=>?_
 refine B2 (.of_eq ?_)
 rfl⟩
def KC (d:Dig):Sx:=if d=Dig.zero then Ch []else Ch d.bs
instance uf (d:Dig):CB Tryz.prog 164 [.agg (eDig d)] (.agg (eSx (KC d))):=⟨by
 refine Au Tryz.func164 Tryz.ntmps164 rfl (rs:= [.cell 2 196]) rfl rfl fun hb LF=>?_
 refine DQ fun b=>?_
 refine Fh fun b2=>?_
 refine A6 (fun h=>?_) (fun h=>?_)
 ·refine AX ?_
  refine Fo rfl (.of_eq ?_)
  rw[KC,if_pos h]
 ·refine AX ?_
  refine Fo rfl (.of_eq ?_)
  rw[KC,if_neg h]⟩
def GA (x:Ident):Sx:=E5 [KC x.patch,GB x.n]
instance mi (x:Ident):CB Tryz.prog 219 [.agg (eIdent x)] (.agg (eSx (GA x))):=⟨by
 refine Au Tryz.func219 Tryz.ntmps219 rfl (rs:= [.cell 2 196]) rfl rfl fun hb LF=>?_
 refine ai fun b=>?_
 refine nK fun b2=>?_
 refine Bj 8 ?_ ?_
 ·decide+kernel
 refine CK ?_
 refine Fo rfl (.of_eq ?_)
 rfl⟩
def J8 (l:List Ident):Sx:=E5 (l.map GA)
instance xM (l:List Ident) (t:CF) [hs:B1 (l.length≤1000000)]:CB Tryz.prog 220 [.slice (l.map eIdent) t] (.agg (eSx (J8 l))):=⟨by
 refine Au Tryz.func220 Tryz.ntmps220 rfl (rs:= [.cell 2 196]) rfl rfl fun hb LF=>?_
 have hlen:=hs.out
 refine DQ fun b=>?_
 refine EO 3 ?_
 refine Ad (σ:=Nat × CF × List Sx) (fun k=>k.1≤l.length∧k.2.2=(l.take k.1).map GA) (fun k=>l.length - k.1) (fun k=> [(0,.slice (l.map eIdent) t),(2,.raw (.pointer (some ⟨b,0,none⟩))),(3,.slice (k.2.2.map eSx) k.2.1),(4,.raw (.int .i64 k.1))]) (fun k=> .tok k.2.1 k.2.2.length 3:: .box b 196 (eSx Sx.zero)::LF) (0,.nil,[]) ⟨by simp,by simp⟩ ⟨rfl,rfl,rfl,rfl⟩ (.refl _) ?_
 rintro⟨k,v,out⟩ ⟨hk,he⟩
 dsimp only at hk he
 have hol:out.length=k:=by rw[he];simp;omega
 refine AX ?_
 refine A6 (fun hc=>?_) (fun hc=>?_)
 ·have hlt:k < l.length:=by omega
  refine Hq fun v'=>?_
  refine⟨(k+1,v',out++ [GA l[k]]),⟨by dsimp only;omega,?_⟩,by dsimp only;omega,⟨rfl,rfl,rfl,rfl⟩,.refl _⟩
  dsimp only
  rw[A7 hlt,Ak,he];rfl
 ·refine AX ?_
  refine Fo rfl (.of_eq ?_)
  rw[AE (by omega)]at he
  rw[J8,←he]⟩
def P2:Nat→Sx→Prop
 |0,_=>False
 |d+1,x=>(x.isList=false∧x.list= []∧x.atom.length≤65536)∨(x.isList=true∧x.atom= []∧ ∀ y∈x.list,P2 d y)
def Ib:Nat→Sx→Nat
 |0,_=>0
 |d+1,x=>if x.isList then 1+(x.list.map (Ib d)).sum else 1
def Dn:Nat→Sx→Str
 |0,_=> []
 |d+1,x=>if x.isList then 40::(x.list.flatMap (Dn d)++ [41])else Hy x.atom.length++58::x.atom
theorem Kx {l:List Nat} {k:Nat}:(l.take k).sum≤l.sum:=by
 conv=>rhs;rw[←Bm k l,DC]
 omega
theorem aA: ∀ (d:Nat) (x:Sx) (limit depth:Int),P2 d x→(Ib d x:Int)≤limit→limit≤1000000→(d:Int)≤depth→depth≤1000→Q.Fn Tryz.prog 280 [.agg (eSx x),.raw (.int .i64 limit),.raw (.int .i64 depth)] (.raw (.int .i64 (Ib d x:Int)))
 |0,x,limit,depth,hw,_,_,_,_=>hw.elim
 |d+1,x,limit,depth,hw,hn,hl,hd,hd2=>by
  have ih: ∀ (y:Sx) (lim dep:Int),[B1 (P2 d y∧(Ib d y:Int)≤lim∧lim≤1000000∧(d:Int)≤dep∧dep≤1000)]→CB Tryz.prog 280 [.agg (eSx y),.raw (.int .i64 lim),.raw (.int .i64 dep)] (.raw (.int .i64 (Ib d y:Int))):=fun y lim dep h=>⟨by
   obtain⟨h1,h2,h3,h4,h5⟩:=h.out
   exact aA d y lim dep h1 h2 h3 h4 h5⟩
  have hpos:1≤Ib (d+1) x:=by unfold Ib;split<;>omega
  refine Au Tryz.func280 Tryz.ntmps280 rfl (rs:= [.tmp 6]) rfl rfl fun hb LF=>?_
  refine DQ fun b=>?_
  refine Av (fun hp=>?_) (fun hp=>?_)
  ·have:=BB hp;omega
  refine CK ?_
  refine A6 (fun h1=>?_) (fun h1=>?_)
  ·omega
  refine AX ?_
  refine AW (fun h2=>?_) (fun h2=>?_)
  ·refine AX ?_
   refine B2 (.of_eq ?_)
   have:x.isList=false:=by simpa using h2
   simp[Ib,this]
  have hL:x.isList=true:=by simpa using h2
  rcases hw with ⟨h3,_⟩|⟨_,_,hw⟩
  ·rw[hL]at h3;cases h3
  have hnd:Ib (d+1) x=1+(x.list.map (Ib d)).sum:=by simp[Ib,hL]
  rw[hnd]at hn ⊢
  have hlen:x.list.length≤140737488355328:=by
   have:=(hb (.agg (eSx x)) (by simp)).agg_at (c:= .slice (x.list.map eSx) .ro) (by rw[Fp];simp)
   exact this.slice_map
  refine AX ?_
  refine Ad (σ:=Nat) (fun k=>k≤x.list.length) (fun k=>x.list.length - k) (fun k=> [(1,.raw (.int .i64 limit)),(2,.raw (.int .i64 depth)),(3,.raw (.pointer (some ⟨b,0,none⟩))),(7,.raw (.int .i64 ((1+((x.list.map (Ib d)).take k).sum:Nat):Int))),(8,.raw (.int .i64 k))]) (fun _=> .box b 196 (eSx x)::LF) 0 (by simp) ⟨rfl,rfl,rfl,by simp;rfl,rfl⟩ (.refl _) ?_
  intro k hk
  have hsk:=Kx (l:=x.list.map (Ib d)) (k:=k)
  have hsk1:=Kx (l:=x.list.map (Ib d)) (k:=k+1)
  refine AX ?_
  refine Av (fun hp=>?_) (fun hp=>?_)
  ·have hc:=BB hp
   have hlt:k < x.list.length:=by omega
   have e:((x.list.map (Ib d)).take (k+1)).sum=((x.list.map (Ib d)).take k).sum+Ib d x.list[k]:=by
    rw[A7 (by simpa using hlt),DC];simp
   refine CK ?_
   refine A6 (fun h4=>?_) (fun h4=>?_)
   ·have:B1 (P2 d x.list[k]∧(Ib d x.list[k]:Int)≤limit - ((1+((x.list.map (Ib d)).take k).sum:Nat):Int)∧limit - ((1+((x.list.map (Ib d)).take k).sum:Nat):Int)≤1000000∧(d:Int)≤depth - 1∧depth - 1≤1000):=⟨hw _ (AF hlt),by omega,by omega,by omega,by omega⟩
    refine AX ?_
    refine⟨k+1,by omega,by dsimp only;omega,⟨rfl,rfl,rfl,?_,rfl⟩,.refl _⟩
    show PV.raw (Value.int .i64 _)=PV.raw (Value.int .i64 _)
    rw[e];congr 2;omega
   ·omega
  ·have hc:=Bp hp
   refine CK ?_
   refine B2 (.of_eq ?_)
   rw[AE (by simp;omega)]
theorem aD: ∀ (d:Nat) (x:Sx),P2 d x→Q.Fn Tryz.prog 281 [.agg (eSx x)] (.raw (.int .i64 0))
 |0,x,hw=>hw.elim
 |d+1,x,hw=>by
  have ih: ∀ (y:Sx),[B1 (P2 d y)]→CB Tryz.prog 281 [.agg (eSx y)] (.raw (.int .i64 0)):=fun y h=>⟨aD d y h.out⟩
  refine Au Tryz.func281 Tryz.ntmps281 rfl (rs:= [.tmp 2]) rfl rfl fun hb LF=>?_
  have hlen:x.list.length≤140737488355328:=by
   have:=(hb (.agg (eSx x)) (by simp)).agg_at (c:= .slice (x.list.map eSx) .ro) (by rw[Fp];simp)
   exact this.slice_map
  refine DQ fun b=>?_
  refine AW (fun h2=>?_) (fun h2=>?_)
  ·have hL:x.isList=false:=by simpa using h2
   rcases hw with ⟨_,h3,h4⟩|⟨h3,_⟩
   ·refine AX ?_
    refine A6 (fun h5=>?_) (fun h5=>?_)
    ·rw[h3]at h5;simp at h5
    refine AX ?_
    refine A6 (fun h6=>?_) (fun h6=>?_)
    ·omega
    refine AX ?_
    exact B2 (.refl _)
   ·rw[hL]at h3;cases h3
  have hL:x.isList=true:=by simpa using h2
  rcases hw with ⟨h3,_⟩|⟨_,ha,hw⟩
  ·rw[hL]at h3;cases h3
  refine AX ?_
  refine AY (fun h5=>?_) (fun h5=>?_)
  ·exact absurd ha h5
  refine AX ?_
  refine Ad (σ:=Nat) (fun k=>k≤x.list.length) (fun k=>x.list.length - k) (fun k=> [(1,.raw (.pointer (some ⟨b,0,none⟩))),(3,.raw (.int .i64 k))]) (fun _=> .box b 196 (eSx x)::LF) 0 (by simp) ⟨rfl,rfl⟩ (.refl _) ?_
  intro k hk
  refine AX ?_
  refine A6 (fun hc=>?_) (fun hc=>?_)
  ·have hlt:k < x.list.length:=by omega
   have:B1 (P2 d x.list[k]):=⟨hw _ (AF hlt)⟩
   refine AX ?_
   exact⟨k+1,by omega,by dsimp only;omega,⟨rfl,rfl⟩,.refl _⟩
  ·refine AX ?_
   exact B2 (.refl _)
def oh (x:Sx):Prop:=P2 8 x∧Ib 8 x≤20000
instance wA (x:Sx) [hs:B1 (oh x)]:CB Tryz.prog 221 [.agg (eSx x)] (.raw (.int .i64 0)):=⟨by
 obtain⟨h1,h2⟩:=hs.out
 have i1:CB Tryz.prog 280 [.agg (eSx x),.raw (.int .i64 20000),.raw (.int .i64 12)] (.raw (.int .i64 (Ib 8 x:Int))):=⟨aA 8 x 20000 12 h1 (by omega) (by omega) (by omega) (by omega)⟩
 have i2:CB Tryz.prog 281 [.agg (eSx x)] (.raw (.int .i64 0)):=⟨aD 8 x h1⟩
 refine Au Tryz.func221 Tryz.ntmps221 rfl (rs:= [.tmp 2]) rfl rfl fun hb LF=>?_
 refine DQ fun b=>?_
 refine A6 (fun h=>?_) (fun h=>?_)
 ·omega
 refine AX ?_
 exact B2 (.refl _)⟩
theorem Iy {α β:Type} {l:List α} {f:α→List β} {k:Nat} (h:k < l.length):(l.take (k+1)).flatMap f=(l.take k).flatMap f++f l[k]:=by
 rw[A7 h,FI];simp
theorem JO {α β:Type} {l:List α} {f:α→List β} {k:Nat}:((l.take k).flatMap f).length≤(l.flatMap f).length:=by
 conv=>rhs;rw[←Bm k l,FI,AA]
 omega
theorem S3 {α β:Type} {l:List α} {f:α→List β} {a:α} (h:a∈l):(f a).length≤(l.flatMap f).length:=by
 induction l with
 |nil=>cases h
 |cons x l ih=>
  rw[DP,AA]
  rcases AI.1 h with rfl|h
  ·omega
  ·have:=ih h;omega
theorem W5: ∀ (d:Nat) (x:Sx),P2 d x→(Dn d x).length≤1000000000→Q.Fn Tryz.prog 222 [.agg (eSx x)] (.str (Dn d x))
 |0,x,hw,_=>hw.elim
 |d+1,x,hw,hl=>by
  have ih: ∀ (y:Sx),[B1 (P2 d y∧(Dn d y).length≤1000000000)]→CB Tryz.prog 222 [.agg (eSx y)] (.str (Dn d y)):=fun y h=>⟨W5 d y h.out.1 h.out.2⟩
  refine Au Tryz.func222 Tryz.ntmps222 rfl (rs:= [.tmp 2]) rfl rfl fun hb LF=>?_
  have hlen:x.list.length≤140737488355328:=by
   have:=(hb (.agg (eSx x)) (by simp)).agg_at (c:= .slice (x.list.map eSx) .ro) (by rw[Fp];simp)
   exact this.slice_map
  refine DQ fun b=>?_
  refine AW (fun h2=>?_) (fun h2=>?_)
  ·have hL:x.isList=false:=by simpa using h2
   rcases hw with ⟨_,h3,h4⟩|⟨h3,_⟩
   ·have:B1 (-140737488355328≤(x.atom.length:Int)∧(x.atom.length:Int)≤140737488355328):=⟨by omega,by omega⟩
    have hd:=Ob (n:=(x.atom.length:Int)) ⟨by omega,by omega⟩
    refine AX ?_
    refine B2 (.of_eq ?_)
    have e:JA (x.atom.length:Int)=Hy x.atom.length:=by
     rw[JA,if_neg (by omega)];rfl
    simp[Dn,hL,e]
   ·rw[hL]at h3;cases h3
  have hL:x.isList=true:=by simpa using h2
  rcases hw with ⟨h3,_⟩|⟨_,ha,hw⟩
  ·rw[hL]at h3;cases h3
  have he:Dn (d+1) x=40::(x.list.flatMap (Dn d)++ [41]):=by simp[Dn,hL]
  rw[he]at hl ⊢
  simp only[AN,AA,Af]at hl
  refine AX ?_
  refine Ad (σ:=Nat × Str) (fun k=>k.1≤x.list.length∧k.2=40::(x.list.take k.1).flatMap (Dn d)) (fun k=>x.list.length - k.1) (fun k=> [(1,.raw (.pointer (some ⟨b,0,none⟩))),(3,.str k.2),(4,.raw (.int .i64 k.1))]) (fun _=> .box b 196 (eSx x)::LF) (0,[40]) ⟨by simp,by simp⟩ ⟨rfl,rfl,rfl⟩ (.refl _) ?_
  rintro⟨k,s⟩ ⟨hk,hs⟩
  dsimp only at hk hs
  have hsl:s.length≤1+(x.list.flatMap (Dn d)).length:=by
   rw[hs,AN]
   have:=JO (l:=x.list) (f:=Dn d) (k:=k)
   omega
  refine AX ?_
  refine A6 (fun hc=>?_) (fun hc=>?_)
  ·have hlt:k < x.list.length:=by omega
   have hel:(Dn d x.list[k]).length≤(x.list.flatMap (Dn d)).length:=S3 (AF hlt)
   have:B1 (P2 d x.list[k]∧(Dn d x.list[k]).length≤1000000000):=⟨hw _ (AF hlt),by omega⟩
   refine AX ?_
   refine⟨(k+1,s++Dn d x.list[k]),⟨by dsimp only;omega,?_⟩,by dsimp only;omega,⟨rfl,rfl,rfl⟩,.refl _⟩
   dsimp only
   rw[Iy hlt,hs,B0]
  ·refine AX ?_
   refine B2 (.of_eq ?_)
   rw[hs,AE (by omega)];rfl
instance vC (x:Sx) [hs:B1 (oh x∧(Dn 8 x).length≤1000000000)]:CB Tryz.prog 166 [.agg (eSx x)] (.tuple [.str (Dn 8 x),.raw (.int .i64 0)]):=⟨by
 obtain⟨h1,h2⟩:=hs.out
 have:B1 (oh x):=⟨h1⟩
 have i2:CB Tryz.prog 222 [.agg (eSx x)] (.str (Dn 8 x)):=⟨W5 8 x h1.1 h2⟩
 refine Au Tryz.func166 Tryz.ntmps166 rfl (rs:= [.tmp 2,.tmp 3]) rfl rfl fun hb LF=>?_
 refine DQ fun b=>?_
 refine HH ?_
 exact .refl _⟩
def K0 (c:Chg):List Sx:=if 2≤c.kind∧c.kind≤6 then [GA c.file]else []
def IU (c:Chg):List Sx:=if c.kind=1 then [GB c.type]else if c.kind=2 then [GA c.parent,Ch c.name]else if c.kind=3 then [GB c.mode]else if c.kind=4 then [Ch c.data]else if c.kind=5∨c.kind=6 then [GA c.after,GA c.before]else []
def Ky (c:Chg):List Sx:=if c.kind=5 then [E5 (c.lines.map Ch)]else if c.kind≠1 then [J8 c.over]else []
def Kr (c:Chg):Sx:=E5 (([GB c.kind]++K0 c++IU c)++Ky c)
theorem RQ (c:Chg):(K0 c).length≤1:=by unfold K0;split<;>simp
theorem RP (c:Chg):(IU c).length≤2:=by
 unfold IU
 repeat' split
 all_goals simp
instance ui (c:Chg) [hs:B1 (c.lines.length≤100000∧c.over.length≤100000)]:CB Tryz.prog 165 [.agg (eChg c)] (.agg (eSx (Kr c))):=⟨by
 refine Au Tryz.func165 Tryz.ntmps165 rfl (rs:= [.cell 2 196]) rfl rfl fun hb LF=>?_
 obtain⟨hl1,hl2⟩:=hs.out
 have i1:B1 (c.over.length≤1000000):=⟨by omega⟩
 have hc1:=RQ c
 have hc2:=RP c
 refine ai fun b=>?_
 refine C6 fun b2=>?_
 refine sf fun t=>?_
 refine BZ [(17,.raw (.bool (decide (2≤c.kind∧c.kind≤6)))),(1,.raw (.pointer (some ⟨b,0,none⟩))),(2,.raw (.pointer (some ⟨b2,0,none⟩))),(3,.slice ([GB c.kind].map eSx) t)] (.tok t [GB c.kind].length 3:: .box b2 196 (eSx Sx.zero):: .box b 73 (eChg c)::LF) ?_ ?_
 ·repeat' (first|(refine A6 (fun h=>?_) (fun h=>?_)<;>refine AX ?_)|(refine AY (fun h=>?_) (fun h=>?_)<;>refine AX ?_)|(refine AW (fun h=>?_) (fun h=>?_)<;>refine AX ?_)|(refine Av (fun h=>?_) (fun h=>?_)<;>(have h2:=h;(try simp only[AB,A8,AJ,AL]at h2);refine CK ?_)))
  all_goals (refine⟨⟨CD (by rfl) ?_,rfl,rfl,rfl⟩,.refl _⟩;first|(simp_all;done)|(simp_all;omega)|grind)
 refine AX ?_
 refine Cv (σ:=CF × List Sx) (fun s=>s.2= [GB c.kind]++K0 c) (fun s=> [(1,.raw (.pointer (some ⟨b,0,none⟩))),(2,.raw (.pointer (some ⟨b2,0,none⟩))),(3,.slice (s.2.map eSx) s.1)]) (fun s=> .tok s.1 s.2.length 3:: .box b2 196 (eSx Sx.zero):: .box b 73 (eChg c)::LF) ?_ ?_
 ·refine A6 (fun h=>?_) (fun h=>?_)
  ·refine Hq fun t'=>?_
   exact⟨(t',[GB c.kind]++ [GA c.file]),by dsimp only;rw[K0,if_pos h],⟨rfl,rfl,rfl⟩,.refl _⟩
  ·refine AX ?_
   exact⟨(t,[GB c.kind]),by dsimp only;rw[K0,if_neg h];rfl,⟨rfl,rfl,rfl⟩,.refl _⟩
 rintro⟨t,out⟩ ho
 dsimp only at ho
 have hol:out.length≤2:=by rw[ho,AA,B6];omega
 refine AX ?_
 refine Cv (σ:=CF × List Sx) (fun s=>s.2= [GB c.kind]++K0 c++IU c) (fun s=> [(1,.raw (.pointer (some ⟨b,0,none⟩))),(2,.raw (.pointer (some ⟨b2,0,none⟩))),(3,.slice (s.2.map eSx) s.1)]) (fun s=> .tok s.1 s.2.length 3:: .box b2 196 (eSx Sx.zero):: .box b 73 (eChg c)::LF) ?_ ?_
 ·refine A6 (fun h1=>?_) (fun h1=>?_)
  ·refine Hq fun t'=>?_
   exact⟨(t',out++ [GB c.type]),by dsimp only;rw[IU,if_pos h1,ho],⟨rfl,rfl,rfl⟩,.refl _⟩
  refine AX ?_
  refine A6 (fun h2=>?_) (fun h2=>?_)
  ·refine SE ?_
   refine Bj 8 ?_ ?_
   ·decide+kernel
   refine IJ fun t'=>?_
   exact⟨(t',out++ [GA c.parent,Ch c.name]),by dsimp only;rw[IU,if_neg h1,if_pos h2,ho],⟨rfl,rfl,rfl⟩,.refl _⟩
  refine AX ?_
  refine A6 (fun h3=>?_) (fun h3=>?_)
  ·refine Hq fun t'=>?_
   exact⟨(t',out++ [GB c.mode]),by dsimp only;rw[IU,if_neg h1,if_neg h2,if_pos h3,ho],⟨rfl,rfl,rfl⟩,.refl _⟩
  refine AX ?_
  refine A6 (fun h4=>?_) (fun h4=>?_)
  ·refine Hq fun t'=>?_
   exact⟨(t',out++ [Ch c.data]),by dsimp only;rw[IU,if_neg h1,if_neg h2,if_neg h3,if_pos h4,ho],⟨rfl,rfl,rfl⟩,.refl _⟩
  refine AX ?_
  refine A6 (fun h5=>?_) (fun h5=>?_)
  ·refine SE ?_
   refine Ka (t:=true) (by show PV.raw (.bool (decide (c.kind=5)))=_;rw[BR h5]) (fun _=>?_) (by simp)
   refine SE ?_
   refine Bj 8 ?_ ?_
   ·decide+kernel
   refine IJ fun t'=>?_
   exact⟨(t',out++ [GA c.after,GA c.before]),by dsimp only;rw[IU,if_neg h1,if_neg h2,if_neg h3,if_neg h4,if_pos (.inl h5),ho],⟨rfl,rfl,rfl⟩,.refl _⟩
  refine AX ?_
  refine A6 (fun h6=>?_) (fun h6=>?_)
  ·refine SE ?_
   refine Bj 8 ?_ ?_
   ·decide+kernel
   refine IJ fun t'=>?_
   exact⟨(t',out++ [GA c.after,GA c.before]),by dsimp only;rw[IU,if_neg h1,if_neg h2,if_neg h3,if_neg h4,if_pos (.inr h6),ho],⟨rfl,rfl,rfl⟩,.refl _⟩
  ·refine AX ?_
   exact⟨(t,out),by dsimp only;rw[IU,if_neg h1,if_neg h2,if_neg h3,if_neg h4,if_neg (by rintro(h|h);exact h5 h;exact h6 h),BX,ho],⟨rfl,rfl,rfl⟩,.refl _⟩
 clear ho hol
 rintro⟨t,out⟩ ho
 dsimp only at ho
 have hol:out.length≤4:=by rw[ho,AA,AA,B6];omega
 refine AX ?_
 refine A6 (fun h5=>?_) (fun h5=>?_)
 ·refine AX ?_
  refine EO 3 ?_
  refine Ad (σ:=Nat × CF × List Sx) (fun k=>k.1≤c.lines.length∧k.2.2=(c.lines.take k.1).map Ch) (fun k=>c.lines.length - k.1) (fun k=> [(1,.raw (.pointer (some ⟨b,0,none⟩))),(2,.raw (.pointer (some ⟨b2,0,none⟩))),(3,.slice (out.map eSx) t),(4,.slice (k.2.2.map eSx) k.2.1),(5,.raw (.int .i64 k.1))]) (fun k=> .tok k.2.1 k.2.2.length 3:: .tok t out.length 3:: .box b2 196 (eSx Sx.zero):: .box b 73 (eChg c)::LF) (0,.nil,[]) ⟨by simp,by simp⟩ ⟨rfl,rfl,rfl,rfl,rfl⟩ (.refl _) ?_
  rintro⟨k,v,l⟩ ⟨hk,he⟩
  dsimp only at hk he
  have hll:l.length=k:=by rw[he];simp;omega
  refine AX ?_
  refine A6 (fun hc=>?_) (fun hc=>?_)
  ·have hlt:k < c.lines.length:=by omega
   refine Hq fun v'=>?_
   refine⟨(k+1,v',l++ [Ch c.lines[k]]),⟨by dsimp only;omega,?_⟩,by dsimp only;omega,⟨rfl,rfl,rfl,rfl,rfl⟩,.refl _⟩
   dsimp only
   rw[A7 hlt,Ak,he];rfl
  ·refine Hq fun v'=>?_
   refine Fo rfl (.of_eq ?_)
   rw[AE (by omega)]at he
   rw[Kr,Ky,if_pos h5,←he,ho]
 ·refine AX ?_
  refine AY (fun h6=>?_) (fun h6=>?_)
  ·refine Hq fun v'=>?_
   refine Fo rfl (.of_eq ?_)
   rw[Kr,Ky,if_neg h5,if_pos h6,ho]
  ·refine AX ?_
   refine Fo rfl (.of_eq ?_)
   rw[Kr,Ky,if_neg h5,if_neg (by simp[h6]),BX,ho]⟩
def X4 (p:Pat):Sx:=E5 [Ch [113,117,105,108,116,49],Ch p.author,Ch p.message,GB p.time,E5 (p.deps.map KC),E5 (p.changes.map Kr)]
def Na (p:Pat):Str:=Dn 8 (X4 p)
structure W6 (p:Pat):Prop where
 deps:p.deps.length≤100000
 chgs:p.changes.length≤100000
 chg: ∀ c∈p.changes,c.lines.length≤100000∧c.over.length≤100000
 ok:oh (X4 p)
 len:(Na p).length≤1000000000
def KD (p:Pat):Str × Int:=if 65536 < ((Na p).length:Int)then([],4)else(Na p,0)
instance ue (p:Pat) [hs:B1 (W6 p)]:CB Tryz.prog 114 [.agg (Bz p)] (.tuple [.str (KD p).1,.raw (.int .i64 (KD p).2)]):=⟨by
 refine Au Tryz.func114 Tryz.ntmps114 rfl (rs:= [.tmp 2,.tmp 3]) rfl rfl fun hb LF=>?_
 have hd:=hs.out.deps
 have hch:=hs.out.chgs
 refine DQ fun b=>?_
 refine EO 3 ?_
 refine EO 3 ?_
 refine Ad (σ:=Nat × CF × List Sx) (fun k=>k.1≤p.deps.length∧k.2.2=(p.deps.take k.1).map KC) (fun k=>p.deps.length - k.1) (fun k=> [(1,.raw (.pointer (some ⟨b,0,none⟩))),(4,.slice (k.2.2.map eSx) k.2.1),(5,.slice [] .nil),(6,.raw (.int .i64 k.1))]) (fun k=> .tok k.2.1 k.2.2.length 3:: .tok .nil 0 3:: .box b 40 (Bz p)::LF) (0,.nil,[]) ⟨by simp,by simp⟩ ⟨rfl,rfl,rfl,rfl⟩ (.refl _) ?_
 rintro⟨k,v,l⟩ ⟨hk,he⟩
 dsimp only at hk he
 have hll:l.length=k:=by rw[he];simp;omega
 refine AX ?_
 refine A6 (fun hc=>?_) (fun hc=>?_)
 ·have hlt:k < p.deps.length:=by omega
  refine Hq fun v'=>?_
  refine⟨(k+1,v',l++ [KC p.deps[k]]),⟨by dsimp only;omega,?_⟩,by dsimp only;omega,⟨rfl,rfl,rfl,rfl⟩,.refl _⟩
  dsimp only
  rw[A7 hlt,Ak,he];rfl
 rw[AE (by omega)]at he
 clear hll
 refine AX ?_
 refine Ad (σ:=Nat × CF × List Sx) (fun k=>k.1≤p.changes.length∧k.2.2=(p.changes.take k.1).map Kr) (fun k=>p.changes.length - k.1) (fun k=> [(1,.raw (.pointer (some ⟨b,0,none⟩))),(4,.slice (l.map eSx) v),(5,.slice (k.2.2.map eSx) k.2.1),(7,.raw (.int .i64 k.1))]) (fun k=> .tok k.2.1 k.2.2.length 3:: .box b 40 (Bz p)::LF) (0,.nil,[]) ⟨by simp,by simp⟩ ⟨rfl,rfl,rfl,rfl⟩ (.cons _ (.refl _)) ?_
 rintro⟨k,v,m⟩ ⟨hk,hm⟩
 dsimp only at hk hm
 have hml:m.length=k:=by rw[hm];simp;omega
 refine AX ?_
 refine A6 (fun hc=>?_) (fun hc=>?_)
 ·have hlt:k < p.changes.length:=by omega
  have:B1 (p.changes[k].lines.length≤100000∧p.changes[k].over.length≤100000):=⟨hs.out.chg _ (AF hlt)⟩
  refine Hq fun v'=>?_
  refine⟨(k+1,v',m++ [Kr p.changes[k]]),⟨by dsimp only;omega,?_⟩,by dsimp only;omega,⟨rfl,rfl,rfl,rfl⟩,.refl _⟩
  dsimp only
  rw[A7 hlt,Ak,hm];rfl
 rw[AE (by omega)]at hm
 have e:X4 p=E5 [Ch [113,117,105,108,116,49],Ch p.author,Ch p.message,GB p.time,E5 l,E5 m]:=by rw[X4,←he,←hm]
 have i1:B1 (oh (E5 [Ch [113,117,105,108,116,49],Ch p.author,Ch p.message,GB p.time,E5 l,E5 m])∧(Dn 8 (E5 [Ch [113,117,105,108,116,49],Ch p.author,Ch p.message,GB p.time,E5 l,E5 m])).length≤1000000000):=by
  rw[←e];exact⟨hs.out.ok,hs.out.len⟩
 refine AX ?_
 refine A6 (fun h=>?_) (fun h=>?_)
 ·refine AX ?_
  refine HH ?_
  rw[←e]at h
  have h':65536 < ((Na p).length:Int):=h
  rw[KD,if_pos h']
  exact .refl _
 ·refine AX ?_
  refine HH ?_
  rw[←e]at h
  have h': ¬65536 < ((Na p).length:Int):=h
  rw[KD,if_neg h',Na,e]
  exact .refl _⟩
end Go.Proofs
