/- Contracts of the program: the fields of changes, the description of a patch. -/
import Derived.Test.YtaibdmankdppkaaGreatDoorZahc
import Derived.Test.YtaibdmankdppkaaGreatDoorZae
import Derived.Test.YtaibdmankdppkaaGreatDoorZaf
set_option linter.unusedSimpArgs false
set_option linter.unusedVariables false
set_option maxHeartbeats 8000000
namespace Go.Proofs
open Go Go.Q
attribute [local irreducible] ER AU BA Fk
def O7 (c:Chg):Int:=
 if c.kind < 1∨7 < c.kind then 8 else
 if Yp c=false then 1 else
 if c.kind=1∧(c.type < 1∨4 < c.type)then 8 else
 if c.kind=2∧Jg c.name=false then 5 else
 if c.mode < 0∨511 < c.mode then 2 else
 if 65536 < (c.data.length:Int)then 4 else
 if c.kind=5∧(c.lines.length:Int)=0 then 1 else
 if 2000 < (c.lines.length:Int)then 4 else
 if c.lines.all JL=false then 3 else
 if c.kind=7∧(c.over.length:Int)=0 then 1 else
 if 400 < (c.over.length:Int)then 4 else
 if Q2 c.over=false then 9 else 0
theorem nf (c:Chg) (h1:1≤c.kind) (h2:c.kind≤7):Yp c=Fu (IG c):=by
 have hk:c.kind=1∨c.kind=2∨c.kind=3∨c.kind=4∨c.kind=5∨c.kind=6∨c.kind=7:=by omega
 unfold Yp Mw Mu O2 Pw Rj Te XC ba Fu IG
 rcases hk with h|h|h|h|h|h|h<;>simp[h]<;>grind
theorem cW (c:Chg):O7 c=C3 c:=by
 unfold O7 C3
 by_cases h1:c.kind < 1∨7 < c.kind
 ·rw[if_pos h1,if_pos h1]
 rw[if_neg h1,if_neg h1,nf c (by omega) (by omega)]
 by_cases h2:Fu (IG c)=false
 ·rw[if_pos h2,if_pos h2]
 rw[if_neg h2,if_neg h2]
 have h2:Fu (IG c)=true:=by simpa using h2
 by_cases h3:c.kind=1∧(c.type < 1∨4 < c.type)
 ·rw[if_pos h3,if_pos h3]
 rw[if_neg h3,if_neg h3]
 by_cases h4:c.kind=2∧Jg c.name=false
 ·rw[if_pos h4,if_pos h4]
 rw[if_neg h4,if_neg h4]
 have hmode:c.kind≠3→c.mode=0:=fun h=>by
  unfold Fu IG at h2
  simp only[BR,AD,h,if_false]at h2
  exact h2.1.1.1.1.1.2
 by_cases h5:c.kind=3∧(c.mode < 0∨511 < c.mode)
 ·rw[if_pos h5.2,if_pos h5]
 rw[if_neg (fun h=>h5 ⟨by
  by_cases e:c.kind=3
  ·exact e
  ·have:=hmode e;omega,h⟩),if_neg h5]
 by_cases h6:65536 < (c.data.length:Int)
 ·rw[if_pos h6,if_pos h6]
 rw[if_neg h6,if_neg h6]
 by_cases h7:c.kind=5
 ·have hov:c.over.length=0:=by
   unfold Fu IG at h2
   simp only[BR,AD,h7]at h2
   have:=h2.2
   simp at this
   simp[this]
  have ho:c.over= []:=BN hov
  rw[if_pos h7,Mz]
  by_cases h8:(c.lines.length:Int)=0
  ·rw[if_pos ⟨h7,h8⟩,if_pos h8]
  rw[if_neg (fun h=>h8 h.2),if_neg h8]
  by_cases h9:2000 < (c.lines.length:Int)
  ·rw[if_pos h9,if_pos h9]
  rw[if_neg h9,if_neg h9]
  by_cases h10:c.lines.all JL=true
  ·rw[if_neg (by simp[h10]),if_pos h10,if_neg (fun h=>by omega),if_neg (by omega),ho];rfl
  ·rw[if_pos (by simpa using h10),if_neg h10]
 ·have hl:c.lines= []:=by
   unfold Fu IG at h2
   simp only[BR,AD,h7,if_false]at h2
   exact BN (by have:=h2.1.2;omega)
  rw[if_neg h7,if_neg (fun h=>h7 h.1),hl,if_neg (by simp),if_neg (by simp)]
theorem Uk (c:Chg):Q.Fn Tryz.prog 142 [.agg (eChg c)] (.raw (.int .i64 (O7 c))):=by
 refine Av Tryz.func142 Tryz.ntmps142 rfl (rs:= [.tmp 2]) rfl rfl fun hb LF=>?_
 have hagg:Bd (.agg (eChg c)):=hb _ (by simp)
 have hlines:c.lines.length≤140737488355328:=(hagg.agg_at (c:= .slice (c.lines.map eS) .ro) (by simp[eChg])).slice_map
 have hover:c.over.length≤140737488355328:=(hagg.agg_at (c:= .slice (c.over.map eIdent) .ro) (by simp[eChg])).slice_map
 refine wf ?_
 refine BT [(6,.raw (.bool (decide (c.kind < 1∨7 < c.kind)))),(1,.pt (eChg c) 0)] (LF) ?_ ?_
 ·repeat' (first|(refine A6 (fun h=>?_) (fun h=>?_)<;>refine wf ?_)|(refine AX (fun h=>?_) (fun h=>?_)<;>refine wf ?_)|(refine AW (fun h=>?_) (fun h=>?_)<;>refine wf ?_)|(refine Ay (fun h=>?_) (fun h=>?_)<;>(have h2:=h;(try simp only[AD,A8,AI,AN]at h2);refine wf ?_)))
  all_goals (refine⟨⟨C9 (by rfl) ?_,rfl⟩,.refl _⟩;first|(simp_all;done)|grind)
 refine wf ?_
 refine A6 (fun h=>?_) (fun h=>?_)
 ·refine wf ?_
  refine B1 (.of_eq ?_)
  rw[O7,if_pos h]
 rw[O7,if_neg h]
 refine wf ?_
 refine AW (fun h=>?_) (fun h=>?_)
 ·refine wf ?_
  refine B1 (.of_eq ?_)
  rw[if_pos (by simpa using h)]
 rw[if_neg (by simpa using h)]
 refine wf ?_
 refine BT [(19,.raw (.bool (decide (c.kind=1∧(c.type < 1∨4 < c.type))))),(1,.pt (eChg c) 0)] (LF) ?_ ?_
 ·repeat' (first|(refine A6 (fun h=>?_) (fun h=>?_)<;>refine wf ?_)|(refine AX (fun h=>?_) (fun h=>?_)<;>refine wf ?_)|(refine AW (fun h=>?_) (fun h=>?_)<;>refine wf ?_)|(refine Ay (fun h=>?_) (fun h=>?_)<;>(have h2:=h;(try simp only[AD,A8,AI,AN]at h2);refine wf ?_)))
  all_goals (refine⟨⟨C9 (by rfl) ?_,rfl⟩,.refl _⟩;first|(simp_all;done)|grind)
 refine wf ?_
 refine A6 (fun h=>?_) (fun h=>?_)
 ·refine wf ?_
  refine B1 (.of_eq ?_)
  rw[if_pos h]
 rw[if_neg h]
 refine wf ?_
 refine BT [(33,.raw (.bool (decide (c.kind=2∧Jg c.name=false)))),(1,.pt (eChg c) 0)] (LF) ?_ ?_
 ·repeat' (first|(refine A6 (fun h=>?_) (fun h=>?_)<;>refine wf ?_)|(refine AX (fun h=>?_) (fun h=>?_)<;>refine wf ?_)|(refine AW (fun h=>?_) (fun h=>?_)<;>refine wf ?_)|(refine Ay (fun h=>?_) (fun h=>?_)<;>(have h2:=h;(try simp only[AD,A8,AI,AN]at h2);refine wf ?_)))
  all_goals (refine⟨⟨C9 (by rfl) ?_,rfl⟩,.refl _⟩;first|(simp_all;done)|grind)
 refine wf ?_
 refine A6 (fun h=>?_) (fun h=>?_)
 ·refine wf ?_
  refine B1 (.of_eq ?_)
  rw[if_pos h]
 rw[if_neg h]
 refine wf ?_
 refine BT [(43,.raw (.bool (decide (c.mode < 0∨511 < c.mode)))),(1,.pt (eChg c) 0)] (LF) ?_ ?_
 ·repeat' (first|(refine A6 (fun h=>?_) (fun h=>?_)<;>refine wf ?_)|(refine AX (fun h=>?_) (fun h=>?_)<;>refine wf ?_)|(refine AW (fun h=>?_) (fun h=>?_)<;>refine wf ?_)|(refine Ay (fun h=>?_) (fun h=>?_)<;>(have h2:=h;(try simp only[AD,A8,AI,AN]at h2);refine wf ?_)))
  all_goals (refine⟨⟨C9 (by rfl) ?_,rfl⟩,.refl _⟩;first|(simp_all;done)|grind)
 refine wf ?_
 refine A6 (fun h=>?_) (fun h=>?_)
 ·refine wf ?_
  refine B1 (.of_eq ?_)
  rw[if_pos h]
 rw[if_neg h]
 refine wf ?_
 refine A6 (fun h=>?_) (fun h=>?_)
 ·refine wf ?_
  refine B1 (.of_eq ?_)
  rw[if_pos h]
 rw[if_neg h]
 refine wf ?_
 refine BT [(57,.raw (.bool (decide (c.kind=5∧(c.lines.length:Int)=0)))),(1,.pt (eChg c) 0)] (LF) ?_ ?_
 ·repeat' (first|(refine A6 (fun h=>?_) (fun h=>?_)<;>refine wf ?_)|(refine AX (fun h=>?_) (fun h=>?_)<;>refine wf ?_)|(refine AW (fun h=>?_) (fun h=>?_)<;>refine wf ?_)|(refine Ay (fun h=>?_) (fun h=>?_)<;>(have h2:=h;(try simp only[AD,A8,AI,AN]at h2);refine wf ?_)))
  all_goals (refine⟨⟨C9 (by rfl) ?_,rfl⟩,.refl _⟩;first|(simp_all;done)|grind)
 refine wf ?_
 refine A6 (fun h=>?_) (fun h=>?_)
 ·refine wf ?_
  refine B1 (.of_eq ?_)
  rw[if_pos h]
 rw[if_neg h]
 refine wf ?_
 refine A6 (fun h=>?_) (fun h=>?_)
 ·refine wf ?_
  refine B1 (.of_eq ?_)
  rw[if_pos h]
 rw[if_neg h]
 refine wf ?_
 refine Ab (σ:=Nat) (fun k=>k≤c.lines.length∧ ∀ i (h:i < c.lines.length),i < k→JL c.lines[i]=true) (fun k=>c.lines.length - k) (fun k=> [(1,.pt (eChg c) 0),(73,.slice (c.lines.map eS) .ro),(74,.raw (.int .i64 c.lines.length)),(75,.raw (.int .i64 k))]) (fun _=>LF) 0 ⟨by simp,by simp⟩ ⟨rfl,rfl,rfl,rfl⟩ (.refl _) ?_
 rintro k ⟨hk,he⟩
 refine wf ?_
 refine A6 (fun hc=>?_) (fun hc=>?_)
 ·have hlt:k < c.lines.length:=by omega
  refine wf ?_
  refine AW (fun h=>?_) (fun h=>?_)
  ·refine wf ?_
   refine B1 (.of_eq ?_)
   have:JL c.lines[k]=false:=by simpa using h
   rw[if_pos (Gn hlt this)]
  ·refine wf ?_
   exact⟨k+1,⟨by omega,Ln he hlt (by simpa using h)⟩,by dsimp only;omega,⟨rfl,rfl,rfl,rfl⟩,.refl _⟩
 have hall:c.lines.all JL=true:=HY fun i h=>he i h (by omega)
 rw[if_neg (by simp[hall])]
 clear he hk hc
 refine wf ?_
 refine BT [(83,.raw (.bool (decide (c.kind=7∧(c.over.length:Int)=0)))),(1,.pt (eChg c) 0)] (LF) ?_ ?_
 ·repeat' (first|(refine A6 (fun h=>?_) (fun h=>?_)<;>refine wf ?_)|(refine AX (fun h=>?_) (fun h=>?_)<;>refine wf ?_)|(refine AW (fun h=>?_) (fun h=>?_)<;>refine wf ?_)|(refine Ay (fun h=>?_) (fun h=>?_)<;>(have h2:=h;(try simp only[AD,A8,AI,AN]at h2);refine wf ?_)))
  all_goals (refine⟨⟨C9 (by rfl) ?_,rfl⟩,.refl _⟩;first|(simp_all;done)|grind)
 refine wf ?_
 refine A6 (fun h=>?_) (fun h=>?_)
 ·refine wf ?_
  refine B1 (.of_eq ?_)
  rw[if_pos h]
 rw[if_neg h]
 refine wf ?_
 refine A6 (fun h=>?_) (fun h=>?_)
 ·refine wf ?_
  refine B1 (.of_eq ?_)
  rw[if_pos h]
 rw[if_neg h]
 refine wf ?_
 refine Ab (σ:=Nat) (fun k=>1≤k∧ ∀ i,i+1 < k→i+1 < c.over.length→Hr (c.over.getD i Ident.zero) (c.over.getD (i+1) Ident.zero) < 0) (fun k=>c.over.length - k) (fun k=> [(1,.pt (eChg c) 0),(5,.raw (.int .i64 k))]) (fun _=>LF) 1 ⟨by simp,fun i h=>by omega⟩ ⟨rfl,rfl⟩ (.refl _) ?_
 rintro k ⟨hk,he⟩
 refine wf ?_
 refine A6 (fun hc=>?_) (fun hc=>?_)
 ·obtain⟨j,rfl⟩: ∃ j,k=j+1:=⟨k - 1,by omega⟩
  refine wf ?_
  have e:((↑(j+1):Int) - 1).toNat=j:=by omega
  have hj:j+1 < c.over.length:=by omega
  refine A6 (fun h1=>?_) (fun h1=>?_)
  ·refine wf ?_
   refine B1 (.of_eq ?_)
   simp only[e]at h1
   have:Q2 c.over=false:=by
    unfold Q2
    rw[JC]
    refine⟨j,Bg.2 (by omega),?_⟩
    simp only[AD,BG,AO hj,AO (show j < c.over.length by omega),Bj]
    omega
   rw[if_pos this]
  ·refine wf ?_
   simp only[e]at h1
   refine⟨j+1+1,⟨by omega,fun i h2 h3=>?_⟩,by dsimp only;omega,⟨rfl,rfl⟩,.refl _⟩
   rcases B8 (i+1) (j+1)with h'|h'
   ·exact he i h' h3
   ·have:i=j:=by omega
    subst this
    simp only[BG,AO hj,AO (show i < c.over.length by omega),Bj]
    omega
 ·refine wf ?_
  refine B1 (.of_eq ?_)
  have:Q2 c.over=true:=by
   unfold Q2
   rw[Bc]
   intro i hi
   rw[Bg]at hi
   exact BF (he i (by omega) (by omega))
  rw[if_neg (by simp[this])]
instance mB (c:Chg):C8 Tryz.prog 142 [.agg (eChg c)] (.raw (.int .i64 (C3 c))):=⟨by rw[←cW];exact Uk c⟩
def JG (p:Pat):Int:=
 if Jg p.author=false then 5 else if 1000 < (p.message.length:Int)then 4 else if p.time < 0∨1099511627776 < p.time then 2 else
 if Iz p.deps≠0 then Iz p.deps else if(p.changes.length:Int)=0 then 1 else if 400 < (p.changes.length:Int)then 4 else 0
theorem Iq (p:Pat):CA p=if JG p≠0 then([],JG p)else DC p.changes []:=by
 unfold CA JG
 generalize Iz p.deps=e
 generalize DC p.changes []=r
 by_cases h1:Jg p.author=false<;>by_cases h2:1000 < (p.message.length:Int)<;>by_cases h3:p.time < 0∨1099511627776 < p.time<;>by_cases h4:e=0<;>by_cases h5:(p.changes.length:Int)=0<;>by_cases h6:400 < (p.changes.length:Int)<;>simp only[h1,h2,h3,h4,h5,h6,if_true,if_false,ne_eq,not_true_eq_false,not_false_eq_true]<;>first|rfl|simp[h4]|simp
instance yy (p:Pat):C8 Tryz.prog 141 [.agg (Bn p)] (.raw (.int .i64 (JG p))):=⟨by
 refine Av Tryz.func141 Tryz.ntmps141 rfl (rs:= [.tmp 2]) rfl rfl fun hb LF=>?_
 have hagg:Bd (.agg (Bn p)):=hb _ (by simp)
 have hdeps:p.deps.length≤140737488355328:=(hagg.agg_at (c:= .slice (p.deps.map eDig) .ro) (by simp[Bn])).slice_map
 have hdr:Iz p.deps=if 100 < (p.deps.length:Int)then 4 else Aw (Ho p.deps) (List.range p.deps.length):=rfl
 refine wf ?_
 refine AW (fun h=>?_) (fun h=>?_)
 ·refine wf ?_
  refine B1 (.of_eq ?_)
  rw[JG,if_pos (by simpa using h)]
 rw[JG,if_neg (by simpa using h)]
 refine wf ?_
 refine A6 (fun h=>?_) (fun h=>?_)
 ·refine wf ?_
  refine B1 (.of_eq ?_)
  rw[if_pos h]
 rw[if_neg h]
 refine wf ?_
 refine BT [(16,.raw (.bool (decide (p.time < 0∨1099511627776 < p.time)))),(1,.pt (Bn p) 0)] (LF) ?_ ?_
 ·repeat' (first|(refine A6 (fun h=>?_) (fun h=>?_)<;>refine wf ?_)|(refine AX (fun h=>?_) (fun h=>?_)<;>refine wf ?_)|(refine AW (fun h=>?_) (fun h=>?_)<;>refine wf ?_)|(refine Ay (fun h=>?_) (fun h=>?_)<;>(have h2:=h;(try simp only[AD,A8,AI,AN]at h2);refine wf ?_)))
  all_goals (refine⟨⟨C9 (by rfl) ?_,rfl⟩,.refl _⟩;first|(simp_all;done)|grind)
 refine wf ?_
 refine A6 (fun h=>?_) (fun h=>?_)
 ·refine wf ?_
  refine B1 (.of_eq ?_)
  rw[if_pos h]
 rw[if_neg h]
 refine wf ?_
 refine A6 (fun h=>?_) (fun h=>?_)
 ·refine wf ?_
  refine B1 (.of_eq ?_)
  rw[hdr,if_pos h,if_pos (by decide)]
 rw[if_neg h]at hdr
 refine wf ?_
 refine Ab (σ:=Nat) (fun k=>k≤p.deps.length∧ ∀ i (h:i < (List.range p.deps.length).length),i < k→Ho p.deps (List.range p.deps.length)[i]=0) (fun k=>p.deps.length - k) (fun k=> [(1,.pt (Bn p) 0),(31,.slice (p.deps.map eDig) .ro),(32,.raw (.int .i64 p.deps.length)),(33,.raw (.int .i64 k))]) (fun _=>LF) 0 ⟨by simp,by simp⟩ ⟨rfl,rfl,rfl,rfl⟩ (.refl _) ?_
 rintro k ⟨hk,he⟩
 refine wf ?_
 refine A6 (fun hc=>?_) (fun hc=>?_)
 ·have hlt:k < p.deps.length:=by omega
  have hltr:k < (List.range p.deps.length).length:=by simpa using hlt
  have ek:(List.range p.deps.length)[k]=k:=by simp
  have e0:p.deps.getD k Dig.zero=p.deps[k]:=by simp[List.getD,hlt]
  refine wz fun b4=>?_
  refine Al 4 ?_
  refine wf ?_
  refine A6 (fun h2=>?_) (fun h2=>?_)
  ·refine wf ?_
   refine B1 (.of_eq ?_)
   have e:Ho p.deps (List.range p.deps.length)[k]=1:=by rw[ek,Ho,e0,if_pos h2]
   have e3:Iz p.deps=1:=by rw[hdr,Cj hltr he (by rw[e];decide),e]
   rw[e3];rfl
  refine wf ?_
  refine Ay (fun hp=>?_) (fun hp=>?_)
  ·have hp':0 < (k:Int):=BJ hp
   refine wf ?_
   have e1:p.deps.getD (k - 1) Dig.zero=p.deps[((k:Int) - 1).toNat]:=by
    have:((k:Int) - 1).toNat=k - 1:=by omega
    simp only[this]
    have h':k - 1 < p.deps.length:=by omega
    simp[List.getD,h']
   refine A6 (fun h3=>?_) (fun h3=>?_)
   ·refine wf ?_
    refine B1 (.of_eq ?_)
    have e:Ho p.deps (List.range p.deps.length)[k]=9:=by rw[ek,Ho,e0,e1,if_neg h2,if_pos ⟨hp',h3⟩]
    have e3:Iz p.deps=9:=by rw[hdr,Cj hltr he (by rw[e];decide),e]
    rw[e3];rfl
   ·refine wf ?_
    have e:Ho p.deps (List.range p.deps.length)[k]=0:=by rw[ek,Ho,e0,e1,if_neg h2,if_neg (fun h=>h3 h.2)]
    exact⟨k+1,⟨by omega,Dj he hltr e⟩,by dsimp only;omega,⟨rfl,rfl,rfl,rfl⟩,.refl _⟩
  ·have hp': ¬0 < (k:Int):=Bh hp
   refine wf ?_
   have e:Ho p.deps (List.range p.deps.length)[k]=0:=by rw[ek,Ho,e0,if_neg h2,if_neg (fun h=>hp' h.1)]
   exact⟨k+1,⟨by omega,Dj he hltr e⟩,by dsimp only;omega,⟨rfl,rfl,rfl,rfl⟩,.refl _⟩
 have e3:Iz p.deps=0:=by rw[hdr,DK fun i h=>he i h (by simp at h;omega)]
 rw[if_neg (by simp[e3])]
 refine wf ?_
 refine A6 (fun h=>?_) (fun h=>?_)
 ·refine wf ?_
  refine B1 (.of_eq ?_)
  rw[if_pos h]
 rw[if_neg h]
 refine wf ?_
 refine A6 (fun h=>?_) (fun h=>?_)
 ·refine wf ?_
  refine B1 (.of_eq ?_)
  rw[if_pos h]
 ·refine wf ?_
  refine B1 (.of_eq ?_)
  rw[if_neg h]⟩
structure Rfc where
 id:Ident
 f:Nat
 cs:List PV
def eRfc (r:Rfc):List PV:=eIdent r.id++ [.clo r.f r.cs]
@[simp] theorem l6 (r:Rfc):(eRfc r).length=34:=by unfold eRfc;simp
instance :NS eRfc 34:=⟨l6⟩
instance (r:Rfc):Dx (eRfc r):=by unfold eRfc;infer_instance
instance :K8 eRfc:=⟨fun r=>(inferInstance:Dx (eRfc r)).out⟩
instance (x:Ident) (f:Nat) (cs:List PV):GP (.agg (eIdent x++ [.clo f cs])) eRfc ⟨x,f,cs⟩:=⟨Dn.agg _⟩
instance (x y:Ident) (z:PV):FO (eIdent x++ [z]) 0 (eIdent y) (eIdent y++ [z]):=Df (by simp)
instance (x:Ident) (y z:PV):FO (eIdent x++ [y]) 33 [z] (eIdent x++ [z]):=Ag (n:=33) (off:=0) (by simp) (ME (by simp))
instance (r:Rfc):Jt (eRfc r) 0 (eIdent r.id):=by unfold eRfc;exact DE
instance (r:Rfc):Jt (eRfc r) 33 [.clo r.f r.cs]:=by unfold eRfc;exact Ae (n:=33) (off:=0) (by simp) Kj
instance :Cy (eIdent Ident.zero++ [.raw .nilFunc]) 34:=⟨by simp⟩
instance :Ck Tryz.prog 94 (eIdent Ident.zero++ [.raw .nilFunc]):=Ck.of (us:=(eIdent Ident.zero++ [PV.raw .nilFunc]).map zv) (by kernel_rfl) (by kernel_rfl)
instance :Ck Tryz.prog 174 (eIdent Ident.zero++ [.raw .nilFunc]):=Ck.of (us:=(eIdent Ident.zero++ [PV.raw .nilFunc]).map zv) (by kernel_rfl) (by kernel_rfl)
instance :Ck Tryz.prog 171 [.slice [] .nil]:=Lh (v:= .slice none 0 0) (by kernel_rfl) rfl fun _=> .nilN none (by simp)
structure yT (P:Program) (r:Rfc) (p:Atm→Bool):Prop where
 fn:B2 P r.f
 out: ∀ a:Atm,Q.Fn P r.f (.agg (eAtm a)::r.cs) (.raw (.bool (p a)))
def iz (k:Int):Int:=if k=2∨k=3∨k=4∨k=6 then k else 0
instance rk (k:Int):C8 Tryz.prog 123 [.raw (.int .i64 k)] (.raw (.int .i64 (iz k))):=⟨by
 refine Av Tryz.func123 Tryz.ntmps123 rfl (rs:= [.tmp 2]) rfl rfl fun hb LF=>?_
 refine zd fun b=>?_
 refine B1 (.of_eq ?_)
 simp only[iz]
 simp[DD,CB]
 grind⟩
def xT (a:Atm):Bool:=decide (a.kind=1)
def vk (a:Atm):Bool:=decide (a.kind=1)&&(decide (a.type=2)||decide (a.type=3))
def vj (a:Atm):Bool:=decide (a.kind=1)&&decide (a.type=1)
def ov (a:Atm):Bool:=decide (a.kind=1)&&decide (a.type=4)
def xR (c:Chg) (a:Atm):Bool:=decide (a.id=c.file)||(decide (a.kind=5)&&decide (a.file=c.file))
def xQ (c:Chg) (a:Atm):Bool:=decide (c.kind=7)||(decide (a.kind=iz c.kind)&&decide (a.file=c.file))
instance tx (a:Atm):C8 Tryz.prog 116 [.agg (eAtm a)] (.raw (.bool (xT a))):=⟨by
 refine Av Tryz.func116 Tryz.ntmps116 rfl (rs:= [.tmp 2]) rfl rfl fun hb LF=>?_
 refine wf ?_
 refine B1 (.of_eq ?_)
 rfl⟩
instance tw (a:Atm):C8 Tryz.prog 117 [.agg (eAtm a)] (.raw (.bool (vk a))):=⟨by
 refine Av Tryz.func117 Tryz.ntmps117 rfl (rs:= [.tmp 2]) rfl rfl fun hb LF=>?_
 refine wf ?_
 repeat' (first|(refine A6 (fun h=>?_) (fun h=>?_)<;>refine wf ?_)|(refine AX (fun h=>?_) (fun h=>?_)<;>refine wf ?_)|(refine AW (fun h=>?_) (fun h=>?_)<;>refine wf ?_)|(refine Ay (fun h=>?_) (fun h=>?_)<;>(have h2:=h;(try simp only[AD,A8,AI,AN]at h2);refine wf ?_)))
 all_goals (refine B1 (.of_eq ?_);simp only[vk];first|(simp_all;done)|grind)⟩
instance tv (a:Atm):C8 Tryz.prog 118 [.agg (eAtm a)] (.raw (.bool (vj a))):=⟨by
 refine Av Tryz.func118 Tryz.ntmps118 rfl (rs:= [.tmp 2]) rfl rfl fun hb LF=>?_
 refine wf ?_
 repeat' (first|(refine A6 (fun h=>?_) (fun h=>?_)<;>refine wf ?_)|(refine AX (fun h=>?_) (fun h=>?_)<;>refine wf ?_)|(refine AW (fun h=>?_) (fun h=>?_)<;>refine wf ?_)|(refine Ay (fun h=>?_) (fun h=>?_)<;>(have h2:=h;(try simp only[AD,A8,AI,AN]at h2);refine wf ?_)))
 all_goals (refine B1 (.of_eq ?_);simp only[vj];first|(simp_all;done)|grind)⟩
instance tu (a:Atm):C8 Tryz.prog 120 [.agg (eAtm a)] (.raw (.bool (ov a))):=⟨by
 refine Av Tryz.func120 Tryz.ntmps120 rfl (rs:= [.tmp 2]) rfl rfl fun hb LF=>?_
 refine wf ?_
 repeat' (first|(refine A6 (fun h=>?_) (fun h=>?_)<;>refine wf ?_)|(refine AX (fun h=>?_) (fun h=>?_)<;>refine wf ?_)|(refine AW (fun h=>?_) (fun h=>?_)<;>refine wf ?_)|(refine Ay (fun h=>?_) (fun h=>?_)<;>(have h2:=h;(try simp only[AD,A8,AI,AN]at h2);refine wf ?_)))
 all_goals (refine B1 (.of_eq ?_);simp only[ov];first|(simp_all;done)|grind)⟩
instance tp (c:Chg) (a:Atm):C8 Tryz.prog 121 [.agg (eAtm a),.pt (eChg c) 0] (.raw (.bool (xR c a))):=⟨by
 refine Av Tryz.func121 Tryz.ntmps121 rfl (rs:= [.tmp 3]) rfl rfl fun hb LF=>?_
 refine wf ?_
 repeat' (first|(refine A6 (fun h=>?_) (fun h=>?_)<;>refine wf ?_)|(refine AX (fun h=>?_) (fun h=>?_)<;>refine wf ?_)|(refine AW (fun h=>?_) (fun h=>?_)<;>refine wf ?_)|(refine Ay (fun h=>?_) (fun h=>?_)<;>(have h2:=h;(try simp only[AD,A8,AI,AN]at h2);refine wf ?_)))
 all_goals (refine B1 (.of_eq ?_);simp only[xR];first|(simp_all;done)|grind)⟩
instance tn (c:Chg) (a:Atm):C8 Tryz.prog 122 [.agg (eAtm a),.pt (eChg c) 0] (.raw (.bool (xQ c a))):=⟨by
 refine Av Tryz.func122 Tryz.ntmps122 rfl (rs:= [.tmp 3]) rfl rfl fun hb LF=>?_
 refine wf ?_
 repeat' (first|(refine A6 (fun h=>?_) (fun h=>?_)<;>refine wf ?_)|(refine AX (fun h=>?_) (fun h=>?_)<;>refine wf ?_)|(refine AW (fun h=>?_) (fun h=>?_)<;>refine wf ?_)|(refine Ay (fun h=>?_) (fun h=>?_)<;>(have h2:=h;(try simp only[AD,A8,AI,AN]at h2);refine wf ?_)))
 all_goals (refine B1 (.of_eq ?_);simp only[xQ];first|(simp_all;done)|grind)⟩
def ib (b:Nat) (l:List Rfc) (t:CC):List Res:= [.box b 90 [.slice (l.map eRfc) t],.tok t l.length 34]
theorem vC (x:Ident) (f:Nat) (cs:List PV) (b:Nat) (l:List Rfc) (t:CC) (hl:l.length≤1000000):
  BA Tryz.prog 115 [.agg (eIdent x),.clo f cs,.raw (.pointer (some ⟨b,0,none⟩))] (ib b l t) (fun _ L'=> ∃ t',L'=ib b (l++ [⟨x,f,cs⟩]) t'):=by
 refine C4 Tryz.func115 rfl Tryz.ntmps115 (rs:= []) rfl rfl fun hb LF=>?_
 rw[show ib b l t++LF= .box b 90 [.slice (l.map eRfc) t]:: .tok t l.length 34::LF from rfl]
 refine dR fun t'=>?_
 exact⟨trivial,[],ib b (l++ [⟨x,f,cs⟩]) t',.nil,.refl _,t',rfl⟩
section
variable {N:Nat} {all:Array Oper} {K:Env→List Res→Prop} {fl:List Bool} {os:List Oper} {ρ:Env} {L:List Res} {Q:PPost} {c:Code} {d:Nat} {ty:TypeId} {pos:String} {af:Array Edge}
theorem UI {x x0 x1:Operand} {ats:Array TypeId} {b f:Nat} {l:List Rfc} {t:CC} {id:Ident} {cs:List PV} {a1:PV} {LF:List Res}
  (qx:ρ.ev x= .clo 115 [.raw (.pointer (some ⟨b,0,none⟩))]) (q0:ρ.ev x0= .agg (eIdent id)) (q1:ρ.ev x1=a1) [h1:Wi a1 f cs] (hl:l.length≤1000000)
  (k: ∀ t' u,AU Tryz.prog N all K fl.tail os (CU ρ d u) (.box b 90 [.slice ((l++ [Rfc.mk id f cs]).map eRfc) t']:: .tok t' (l++ [Rfc.mk id f cs]).length 34::LF)) (hd:Nat.blt d N=true:=by rfl) (hfl:fl.headD true=true:=by rfl):
  AU Tryz.prog N all K fl (⟨some d,.call { callee:= .value x,args:= #[x0,x1],argTypes:=ats },ty,pos,af,none⟩::os) ρ (.box b 90 [.slice (l.map eRfc) t]:: .tok t l.length 34::LF):=
 CQ (xs:= [x0,x1]) (ib b l t) LF (.of_eq qx) rfl rfl (.refl _) (fun _ L'=> ∃ t',L'=ib b (l++ [⟨id,f,cs⟩]) t')
  (BA.args (bs:= [.agg (eIdent id),.clo f cs,.raw (.pointer (some ⟨b,0,none⟩))]) rfl (fun i g1 g2=>by
   match i,g1,g2 with
   |0,_,_=>exact .of_eq q0
   |1,_,_=>show Le (ρ.ev x1) _;rw[q1];exact h1.out
   |2,_,_=>exact .refl _
   |m+3,g1,_=>exact absurd g1 (by simp)) (vC id f cs b l t hl)) (fun r L' ⟨t',e⟩=>by subst e;exact k t' r) hd hfl
end
def IC (c:Chg):List Rfc:=
 if c.kind=2∨c.kind=3 then [⟨c.file,116,[]⟩]else if c.kind=4 then [⟨c.file,117,[]⟩]else
 if c.kind=5∨c.kind=6 then [⟨c.file,118,[]⟩]else []
def KZ (c:Chg):List Rfc:=if c.kind=2∧c.parent≠⟨Dig.zero,-1⟩then [⟨c.parent,120,[]⟩]else []
def Pa (c:Chg):List Rfc:=if c.kind=5∨c.kind=6 then [⟨c.after,121,[.pt (eChg c) 0]⟩,⟨c.before,121,[.pt (eChg c) 0]⟩]else []
def NY (c:Chg) (l:List Ident):List Rfc:=l.map fun x=>⟨x,122,[.pt (eChg c) 0]⟩
def Ep (c:Chg):List Rfc:=IC c++KZ c++Pa c++NY c c.over
theorem Vp (c:Chg):(IC c).length≤1:=by unfold IC;split<;>(try split)<;>(try split)<;>simp
theorem Vo (c:Chg):(KZ c).length≤1:=by unfold KZ;split<;>simp
theorem Vn (c:Chg):(Pa c).length≤2:=by unfold Pa;split<;>simp
instance kh (c:Chg) [hs:B0 (c.over.length≤400)]:C8 Tryz.prog 58 [.agg (eChg c)] (.slice ((Ep c).map eRfc) .ro):=⟨by
 have hover:=hs.out
 have r1:=Vp c
 have r2:=Vo c
 have r3:=Vn c
 refine Av Tryz.func58 Tryz.ntmps58 rfl (rs:= [.tmp 2]) rfl rfl fun hb LF=>?_
 refine wf ?_
 refine Bx fun b3=>?_
 refine wo ?_
 refine AE ?_
 refine EO 34 ?_
 refine E3 (.swap _ _ _) ?_
 refine ws ?_
 refine Cv (σ:=List Rfc × CC) (fun s=>s.1=IC c) (fun s=> [(1,.pt (eChg c) 0),(3,.raw (.pointer (some ⟨b3,0,none⟩))),(4,.clo 115 [.raw (.pointer (some ⟨b3,0,none⟩))])]) (fun s=> .box b3 90 [.slice (s.1.map eRfc) s.2]:: .tok s.2 s.1.length 34::LF) ?_ ?_
 ·refine wf ?_
  refine Cv (σ:=Unit) (fun _=>True) (fun _=> [(1,.pt (eChg c) 0),(3,.raw (.pointer (some ⟨b3,0,none⟩))),(4,.clo 115 [.raw (.pointer (some ⟨b3,0,none⟩))]),(10,.raw (.int .i64 c.kind)),(11,.raw (.bool (decide (c.kind=2∨c.kind=3))))]) (fun _=> .box b3 90 [.slice [] .nil]:: .tok .nil 0 34::LF) ?_ ?_
  ·refine A6 (fun h=>?_) (fun h=>?_)
   ·refine wf ?_
    exact⟨(),trivial,⟨rfl,rfl,rfl,rfl,C9 (by rfl) (by simp[h])⟩,.refl _⟩
   ·refine wf ?_
    exact⟨(),trivial,⟨rfl,rfl,rfl,rfl,C9 (by rfl) (by simp[h])⟩,.refl _⟩
  intro _ _
  refine A6 (fun h=>?_) (fun h=>?_)
  ·refine wf ?_
   refine UI (l:= []) rfl rfl (by(conv=>lhs;whnf);done) (h1:=(by first|infer_instance|fail)) (by simp) fun t' u=>?_
   refine wf ?_
   exact⟨([⟨c.file,116,[]⟩],t'),by rw[IC,if_pos h],⟨rfl,rfl,rfl⟩,.refl _⟩
  have e1:IC c=if c.kind=4 then [⟨c.file,117,[]⟩]else if c.kind=5∨c.kind=6 then [⟨c.file,118,[]⟩]else []:=by rw[IC,if_neg h]
  refine wf ?_
  refine A6 (fun h4=>?_) (fun h4=>?_)
  ·refine wf ?_
   refine UI (l:= []) rfl rfl (by(conv=>lhs;whnf);done) (h1:=(by first|infer_instance|fail)) (by simp) fun t' u=>?_
   refine wf ?_
   exact⟨([⟨c.file,117,[]⟩],t'),by rw[e1,if_pos h4],⟨rfl,rfl,rfl⟩,.refl _⟩
  rw[if_neg h4]at e1
  refine wf ?_
  refine Cv (σ:=Unit) (fun _=>True) (fun _=> [(1,.pt (eChg c) 0),(3,.raw (.pointer (some ⟨b3,0,none⟩))),(4,.clo 115 [.raw (.pointer (some ⟨b3,0,none⟩))]),(24,.raw (.bool (decide (c.kind=5∨c.kind=6))))]) (fun _=> .box b3 90 [.slice [] .nil]:: .tok .nil 0 34::LF) ?_ ?_
  ·refine A6 (fun h=>?_) (fun h=>?_)
   ·refine wf ?_
    exact⟨(),trivial,⟨rfl,rfl,rfl,C9 (by rfl) (by simp[h])⟩,.refl _⟩
   ·refine wf ?_
    exact⟨(),trivial,⟨rfl,rfl,rfl,C9 (by rfl) (by simp[h])⟩,.refl _⟩
  intro _ _
  refine A6 (fun h5=>?_) (fun h5=>?_)
  ·refine wf ?_
   refine UI (l:= []) rfl rfl (by(conv=>lhs;whnf);done) (h1:=(by first|infer_instance|fail)) (by simp) fun t' u=>?_
   refine wf ?_
   exact⟨([⟨c.file,118,[]⟩],t'),by rw[e1,if_pos h5],⟨rfl,rfl,rfl⟩,.refl _⟩
  ·refine wf ?_
   exact⟨([],.nil),by rw[e1,if_neg h5],⟨rfl,rfl,rfl⟩,.refl _⟩
 rintro⟨l1,t1⟩ hl1
 dsimp only at hl1 ⊢
 subst hl1
 refine ws ?_
 refine BT [(39,.raw (.bool (decide (c.kind=2∧c.parent≠⟨Dig.zero,-1⟩)))),(1,.pt (eChg c) 0),(3,.raw (.pointer (some ⟨b3,0,none⟩))),(4,.clo 115 [.raw (.pointer (some ⟨b3,0,none⟩))])] (.box b3 90 [.slice ((IC c).map eRfc) t1]:: .tok t1 (IC c).length 34::LF) ?_ ?_
 ·repeat' (first|(refine A6 (fun h=>?_) (fun h=>?_)<;>refine wf ?_)|(refine AX (fun h=>?_) (fun h=>?_)<;>refine wf ?_)|(refine AW (fun h=>?_) (fun h=>?_)<;>refine wf ?_)|(refine Ay (fun h=>?_) (fun h=>?_)<;>(have h2:=h;(try simp only[AD,A8,AI,AN]at h2);refine wf ?_)))
  all_goals (refine⟨⟨C9 (by rfl) ?_,rfl,rfl,rfl⟩,.refl _⟩;first|(simp_all;done)|grind)
 refine Cv (σ:=List Rfc × CC) (fun s=>s.1=IC c++KZ c) (fun s=> [(1,.pt (eChg c) 0),(3,.raw (.pointer (some ⟨b3,0,none⟩))),(4,.clo 115 [.raw (.pointer (some ⟨b3,0,none⟩))])]) (fun s=> .box b3 90 [.slice (s.1.map eRfc) s.2]:: .tok s.2 s.1.length 34::LF) ?_ ?_
 ·refine A6 (fun h=>?_) (fun h=>?_)
  ·refine wf ?_
   refine UI rfl rfl (by(conv=>lhs;whnf);done) (h1:=(by first|infer_instance|fail)) (by omega) fun t' u=>?_
   refine wf ?_
   exact⟨(IC c++ [⟨c.parent,120,[]⟩],t'),by rw[KZ,if_pos h],⟨rfl,rfl,rfl⟩,.refl _⟩
  ·refine wf ?_
   exact⟨(IC c,t1),by rw[KZ,if_neg h];simp,⟨rfl,rfl,rfl⟩,.refl _⟩
 rintro⟨l1,t2⟩ hl1
 dsimp only at hl1 ⊢
 subst hl1
 refine ws ?_
 refine BT [(51,.raw (.bool (decide (c.kind=5∨c.kind=6)))),(1,.pt (eChg c) 0),(3,.raw (.pointer (some ⟨b3,0,none⟩))),(4,.clo 115 [.raw (.pointer (some ⟨b3,0,none⟩))])] (.box b3 90 [.slice ((IC c++KZ c).map eRfc) t2]:: .tok t2 (IC c++KZ c).length 34::LF) ?_ ?_
 ·repeat' (first|(refine A6 (fun h=>?_) (fun h=>?_)<;>refine wf ?_)|(refine AX (fun h=>?_) (fun h=>?_)<;>refine wf ?_)|(refine AW (fun h=>?_) (fun h=>?_)<;>refine wf ?_)|(refine Ay (fun h=>?_) (fun h=>?_)<;>(have h2:=h;(try simp only[AD,A8,AI,AN]at h2);refine wf ?_)))
  all_goals (refine⟨⟨C9 (by rfl) ?_,rfl,rfl,rfl⟩,.refl _⟩;first|(simp_all;done)|grind)
 refine Cv (σ:=List Rfc × CC) (fun s=>s.1=IC c++KZ c++Pa c) (fun s=> [(1,.pt (eChg c) 0),(3,.raw (.pointer (some ⟨b3,0,none⟩))),(4,.clo 115 [.raw (.pointer (some ⟨b3,0,none⟩))])]) (fun s=> .box b3 90 [.slice (s.1.map eRfc) s.2]:: .tok s.2 s.1.length 34::LF) ?_ ?_
 ·refine A6 (fun h=>?_) (fun h=>?_)
  ·refine wf ?_
   refine UI rfl rfl (by(conv=>lhs;whnf);done) (h1:=(by first|infer_instance|fail)) (by simp only[AA];omega) fun t' u=>?_
   refine wf ?_
   refine UI rfl rfl (by(conv=>lhs;whnf);done) (h1:=(by first|infer_instance|fail)) (by simp only[AA,AL,Af];omega) fun t' u=>?_
   refine wf ?_
   exact⟨(IC c++KZ c++ [⟨c.after,121,[.pt (eChg c) 0]⟩]++ [⟨c.before,121,[.pt (eChg c) 0]⟩],t'),by rw[Pa,if_pos h];simp,⟨rfl,rfl,rfl⟩,.refl _⟩
  ·refine wf ?_
   exact⟨(IC c++KZ c,t2),by rw[Pa,if_neg h];simp,⟨rfl,rfl,rfl⟩,.refl _⟩
 rintro⟨l1,t3⟩ hl1
 dsimp only at hl1 ⊢
 have hl3:l1.length≤4:=by rw[hl1];simp only[AA];omega
 refine wf ?_
 refine Ab (σ:=Nat × List Rfc × CC) (fun k=>k.1≤c.over.length∧k.2.1=l1++NY c (c.over.take k.1)) (fun k=>c.over.length - k.1) (fun k=> [(1,.pt (eChg c) 0),(3,.raw (.pointer (some ⟨b3,0,none⟩))),(4,.clo 115 [.raw (.pointer (some ⟨b3,0,none⟩))]),(64,.slice (c.over.map eIdent) .ro),(65,.raw (.int .i64 c.over.length)),(66,.raw (.int .i64 k.1))]) (fun k=> .box b3 90 [.slice (k.2.1.map eRfc) k.2.2]:: .tok k.2.2 k.2.1.length 34::LF) (0,l1,t3) ⟨by simp,by simp[NY]⟩ ⟨rfl,rfl,rfl,rfl,rfl,rfl⟩ (.refl _) ?_
 rintro⟨k,m,t4⟩ ⟨hk,hm⟩
 dsimp only at hk hm ⊢
 have hml:m.length≤404:=by rw[hm,NY];simp only[AA,AR,Aa];omega
 refine wf ?_
 refine A6 (fun hc=>?_) (fun hc=>?_)
 ·have hlt:k < c.over.length:=by omega
  refine wz fun b7=>?_
  refine Al 7 ?_
  refine wf ?_
  refine UI rfl rfl (by(conv=>lhs;whnf);done) (h1:=(by first|infer_instance|fail)) (by omega) fun t' u=>?_
  refine wf ?_
  refine⟨(k+1,m++ [⟨c.over[k],122,[.pt (eChg c) 0]⟩],t'),⟨by dsimp only;omega,?_⟩,by dsimp only;omega,⟨rfl,rfl,rfl,rfl,rfl,rfl⟩,.refl _⟩
  dsimp only
  rw[hm,NY,NY,A7 hlt,Aq,AV];rfl
 ·rw[AF (by omega)]at hm
  refine wf ?_
  refine B1 (.ros ?_)
  rw[hm,hl1];rfl⟩
theorem Gx {α:Type} (f:α→Int): ∀ a b:List α,Aw f (a++b)=if Aw f a≠0 then Aw f a else Aw f b
 | [],b=>by simp[Aw]
 |x::a,b=>by
  simp only[B3,Aw,Gx f a b]
  by_cases h:f x=0<;>simp[h]
theorem R6 {α β:Type} (f:β→Int) (g:α→β): ∀ l:List α,Aw f (l.map g)=Aw (fun x=>f (g x)) l
 | []=>rfl
 |x::l=>by simp only[Ar,Aw,R6 f g l]
theorem GZ {α:Type} {f g:α→Int}: ∀ {l:List α},(∀ x∈l,f x=g x)→Aw f l=Aw g l
 | [],_=>rfl
 |x::l,h=>by
  rw[Aw,Aw,h x (by simp),GZ (fun y hy=>h y (AJ _ hy))]
def Nc (c:Chg) (f:Nat):Atm→Bool:=
 if f=116 then xT else if f=117 then vk else if f=118 then vj else if f=120 then ov else if f=121 then xR c else xQ c
theorem la (c:Chg) (r:Rfc) (h:r∈Ep c):yT Tryz.prog r (Nc c r.f):=by
 simp only[Ep,Aj]at h
 rcases h with ((h|h)|h)|h
 ·unfold IC at h
  split at h
  ·simp at h;subst h;exact⟨inferInstance,fun a=>(tx a).out⟩
  ·split at h
   ·simp at h;subst h;exact⟨inferInstance,fun a=>(tw a).out⟩
   ·split at h
    ·simp at h;subst h;exact⟨inferInstance,fun a=>(tv a).out⟩
    ·simp at h
 ·unfold KZ at h
  split at h
  ·simp at h;subst h;exact⟨inferInstance,fun a=>(tu a).out⟩
  ·simp at h
 ·unfold Pa at h
  split at h
  ·simp at h
   rcases h with h|h<;>subst h<;>exact⟨inferInstance,fun a=>(tp c a).out⟩
  ·simp at h
 ·unfold NY at h
  obtain⟨x,_,rfl⟩:=AQ.1 h
  exact⟨inferInstance,fun a=>(tn c a).out⟩
def O1 (c:Chg) (own:List Atm) (r:Rfc):Int:=
 if r.id.n < 0∨(r.id.patch=Dig.zero∧(own.length:Int)≤r.id.n)∨100000≤r.id.n then 7 else if r.id.patch=Dig.zero∧Nc c r.f (own.getD r.id.n.toNat Atm.zero)=false then 8 else 0
def Rk (c:Chg) (own:List Atm):Int:=
 if Aw (O1 c own) (Ep c)≠0 then Aw (O1 c own) (Ep c)else if c.kind=2∧c.parent=c.file then 20 else
 if(c.kind=6∧c.after=c.before)∨(c.kind=5∧c.after=c.before∧c.after≠c.file)then 1 else 0
def Nf (own:List Atm):Prop:= ∀ i (h:i < own.length),own[i].id=⟨Dig.zero,i⟩
theorem Lv (c:Chg) (own:List Atm) (hl:own.length≤100000) (x:Ident) (f:Nat) (cs:List PV):O1 c own ⟨x,f,cs⟩=JD x own (Nc c f (Lz own x)):=by
 by_cases h:x.patch=Dig.zero
 ·by_cases h1:0≤x.n∧x.n < own.length
  ·have n1: ¬(x.n < 0∨(x.patch=Dig.zero∧(own.length:Int)≤x.n)∨100000≤x.n):=by rintro(h2|⟨_,h2⟩|h2)<;>omega
   have ha:Dm x own.length=true:=by unfold Dm;rw[if_pos h];simp[h1]
   unfold O1 JD Lz
   dsimp only
   rw[if_neg n1,ha,if_pos (show x.patch=Dig.zero∧0≤x.n from⟨h,h1.1⟩)]
   simp only[Bool.true_eq_false,if_false]
  ·have n1:x.n < 0∨(x.patch=Dig.zero∧(own.length:Int)≤x.n)∨100000≤x.n:=by
    by_cases h2:x.n < 0
    ·exact .inl h2
    ·exact .inr (.inl ⟨h,by omega⟩)
   have ha:Dm x own.length=false:=by
    unfold Dm;rw[if_pos h]
    by_cases h2:0≤x.n
    ·have: ¬x.n < own.length:=fun h3=>h1 ⟨h2,h3⟩
     simp[this]
    ·simp[h2]
   unfold O1 JD
   dsimp only
   rw[if_pos n1,if_pos ha]
 ·by_cases h1:0≤x.n∧x.n < 100000
  ·have n1: ¬(x.n < 0∨(x.patch=Dig.zero∧(own.length:Int)≤x.n)∨100000≤x.n):=by
    rintro(h2|⟨h2,_⟩|h2)
    ·omega
    ·exact h h2
    ·omega
   have ha:Dm x own.length=true:=by unfold Dm;rw[if_neg h];simp[h1]
   unfold O1 JD
   dsimp only
   rw[if_neg n1,ha]
   simp only[Bool.true_eq_false,if_false,h,false_and]
  ·have n1:x.n < 0∨(x.patch=Dig.zero∧(own.length:Int)≤x.n)∨100000≤x.n:=by omega
   have ha:Dm x own.length=false:=by
    unfold Dm;rw[if_neg h]
    by_cases h2:0≤x.n
    ·have: ¬x.n < 100000:=fun h3=>h1 ⟨h2,h3⟩
     simp[this]
    ·simp[h2]
   unfold O1 JD
   dsimp only
   rw[if_pos n1,if_pos ha]
theorem Tl {x:Ident} {own:List Atm} {a b:Bool} (h:x.patch=Dig.zero→0≤x.n→x.n < own.length→a=b):JD x own a=JD x own b:=by
 unfold JD
 by_cases h1:Dm x own.length=false
 ·rw[if_pos h1,if_pos h1]
 rw[if_neg h1,if_neg h1]
 by_cases h2:x.patch=Dig.zero
 ·have h3:Dm x own.length=true:=by simpa using h1
  unfold Dm at h3
  simp only[h2,if_true,BR,AD]at h3
  rw[h h2 h3.1 h3.2]
 ·rw[if_neg (fun h3=>h2 h3.1),if_neg (fun h3=>h2 h3.1)]
theorem Jo {c:Chg} (h:C3 c=0):1≤c.kind∧c.kind≤7:=by
 unfold C3 at h
 by_cases h1:c.kind < 1∨7 < c.kind
 ·rw[if_pos h1]at h;omega
 ·omega
theorem KK {c:Chg} (h:C3 c=0):Fu (IG c)=true:=by
 have hk:=Jo h
 unfold C3 at h
 rw[if_neg (by omega)]at h
 by_cases h1:Fu (IG c)=false
 ·rw[if_pos h1]at h;omega
 ·simpa using h1
theorem Jn {c:Chg} (h:C3 c=0) (hk:c.kind=1∨c.kind=5):c.over= []:=by
 have h2:=KK h
 unfold Fu IG at h2
 simp only[BR,AD]at h2
 have h3:=h2.2
 rw[if_neg (by omega)]at h3
 exact BN (by omega)
theorem Sr {c:Chg} (h:C3 c=0):c.over.length≤400:=by
 have h0:=Jn h
 have hk:c.kind=5∨c.kind≠5:=by omega
 rcases hk with hk|hk
 ·rw[h0 (.inr hk)];simp
 clear h0
 unfold C3 at h
 generalize Fu (IG c)=a1 at h
 generalize Jg c.name=a2 at h
 generalize Q2 c.over=a3 at h
 generalize Mz c.lines=a4 at h
 rcases B8 400 c.over.length with hc|hc
 ·exfalso
  have hc':400 < (c.over.length:Int):=by omega
  rw[if_pos hc',if_neg hk]at h
  by_cases g1:c.kind < 1∨7 < c.kind
  ·rw[if_pos g1]at h;exact absurd h (by decide)
  rw[if_neg g1]at h
  by_cases g2:a1=false
  ·rw[if_pos g2]at h;exact absurd h (by decide)
  rw[if_neg g2]at h
  by_cases g3:c.kind=1∧(c.type < 1∨4 < c.type)
  ·rw[if_pos g3]at h;exact absurd h (by decide)
  rw[if_neg g3]at h
  by_cases g4:c.kind=2∧a2=false
  ·rw[if_pos g4]at h;exact absurd h (by decide)
  rw[if_neg g4]at h
  by_cases g5:c.kind=3∧(c.mode < 0∨511 < c.mode)
  ·rw[if_pos g5]at h;exact absurd h (by decide)
  rw[if_neg g5]at h
  by_cases g6:65536 < (c.data.length:Int)
  ·rw[if_pos g6]at h;exact absurd h (by decide)
  rw[if_neg g6]at h
  by_cases g7:c.kind=7∧(c.over.length:Int)=0
  ·rw[if_pos g7]at h;exact absurd h (by decide)
  rw[if_neg g7]at h
  exact absurd h (by decide)
 ·exact hc
theorem kL {c:Chg} {own:List Atm} (hf:C3 c=0) (hl:own.length≤100000) (hi:Nf own):Rk c own=FC c own:=by
 have hk:=Jo hf
 have e1:Aw (O1 c own) (IC c)=K6 c own:=by
  unfold IC K6
  by_cases h1:c.kind=2∨c.kind=3
  ·have:xT=EL c.kind:=by
    funext a;unfold xT EL Ig
    rcases h1 with h|h<;>simp[h]
   rw[if_pos h1,if_pos (by omega),Aw,Aw,Lv c own hl,show Nc c 116=xT from rfl,this]
   split<;>simp_all
  by_cases h2:c.kind=4
  ·have:vk=EL c.kind:=by
    funext a;unfold vk EL Ig
    simp[h2]<;>(by_cases ha:a.kind=1<;>simp[ha])
   rw[if_neg h1,if_pos h2,if_pos (by omega),Aw,Aw,Lv c own hl,show Nc c 117=vk from rfl,this]
   split<;>simp_all
  by_cases h3:c.kind=5∨c.kind=6
  ·have:vj=EL c.kind:=by
    funext a;unfold vj EL Ig
    rcases h3 with h|h<;>simp[h]<;>by_cases ha:a.kind=1<;>simp[ha]
   rw[if_neg h1,if_neg h2,if_pos h3,if_pos (by omega),Aw,Aw,Lv c own hl,show Nc c 118=vj from rfl,this]
   split<;>simp_all
  ·rw[if_neg h1,if_neg h2,if_neg h3,if_neg (by omega)];rfl
 have e2:Aw (O1 c own) (KZ c)=Lx c own:=by
  unfold KZ Lx rRoot
  by_cases h1:c.kind=2∧c.parent≠⟨Dig.zero,-1⟩
  ·rw[if_pos h1,if_pos h1,Aw,Aw,Lv c own hl,show Nc c 120=ov from rfl,show ov=rDirectory from rfl]
   split<;>simp_all
  ·rw[if_neg h1,if_neg h1];rfl
 have e6: ∀ x:Ident,O1 c own ⟨x,121,[.pt (eChg c) 0]⟩=Qf c own x:=fun x=>by
  rw[Lv c own hl,show Nc c 121=xR c from rfl,Qf]
  refine Tl fun h1 h2 h3=>?_
  have h4:x.n.toNat < own.length:=by omega
  have e:(Lz own x).id=x:=by
   unfold Lz
   rw[if_pos ⟨h1,h2⟩]
   have:own.getD x.n.toNat Atm.zero=own[x.n.toNat]:=by simp[List.getD,h4]
   rw[this,hi _ h4]
   obtain⟨p,n⟩:=x
   simp only at h1 h2 ⊢
   subst h1
   congr 1
   omega
  unfold xR
  rw[e];rfl
 have e3:Aw (O1 c own) (Pa c)=IX c own:=by
  unfold Pa IX
  by_cases h1:c.kind=5∨c.kind=6
  ·have:Ig c.kind=true:=by unfold Ig;rcases h1 with h|h<;>simp[h]
   rw[if_pos h1,if_pos this]
   simp only[Aw,e6]
  ·have: ¬Ig c.kind=true:=by unfold Ig;intro h;simp at h;exact h1 h
   rw[if_neg h1,if_neg this];rfl
 have e4:Aw (O1 c own) (NY c c.over)=Aw (O3 c own) c.over:=by
  unfold NY
  rw[R6]
  refine GZ fun x hx=>?_
  rw[Lv c own hl,show Nc c 122=xQ c from rfl,O3]
  refine Tl fun _ _ _=>?_
  have h15:c.kind≠1∧c.kind≠5:=⟨fun h=>(by rw[Jn hf (.inl h)]at hx;simp at hx),fun h=>(by rw[Jn hf (.inr h)]at hx;simp at hx)⟩
  unfold xQ Hd Td iz
  by_cases h7:c.kind=7
  ·simp[h7]
  ·have:c.kind=2∨c.kind=3∨c.kind=4∨c.kind=6:=by omega
   rw[if_pos this,if_neg h7]
   simp[h7]
   omega
 unfold Rk FC
 rw[Ep,Gx,Gx,Gx,e1,e2,e3,e4]
 have e5:((c.kind=6∧c.after=c.before)∨(c.kind=5∧c.after=c.before∧c.after≠c.file))↔((Ig c.kind=true∧c.after=c.before)∧(c.kind=6∨c.after≠c.file)):=by
  unfold Ig
  simp only[qu,AD]
  constructor
  ·rintro(⟨h1,h2⟩|⟨h1,h2,h3⟩)
   ·exact⟨⟨.inr h1,h2⟩,.inl h1⟩
   ·exact⟨⟨.inl h1,h2⟩,.inr h3⟩
  ·rintro⟨⟨h1|h1,h2⟩,h3⟩
   ·rcases h3 with h3|h3
    ·omega
    ·exact .inr ⟨h1,h2,h3⟩
   ·exact .inl ⟨h1,h2⟩
 simp only[e5]
 by_cases a1:K6 c own=0<;>by_cases a2:Lx c own=0<;>by_cases a3:IX c own=0<;>by_cases a4:Aw (O3 c own) c.over=0<;>simp[a1,a2,a3,a4]
theorem Vm {c:Chg} (h:c.over.length≤400):(Ep c).length≤404:=by
 have r1:=Vp c
 have r2:=Vo c
 have r3:=Vn c
 rw[Ep,NY];simp only[AA,AR];omega
theorem Xw (c:Chg) (own:List Atm) (t:CC) (hov:c.over.length≤400) (hol:own.length≤100000):Q.Fn Tryz.prog 143 [.agg (eChg c),.slice (own.map eAtm) t] (.raw (.int .i64 (Rk c own))):=by
 have i0:B0 (c.over.length≤400):=⟨hov⟩
 have hrl:=Vm hov
 refine Av Tryz.func143 Tryz.ntmps143 rfl (rs:= [.tmp 4]) rfl rfl fun hb LF=>?_
 refine wf ?_
 refine Ab (σ:=Nat) (fun k=>k≤(Ep c).length∧ ∀ i (h:i < (Ep c).length),i < k→O1 c own (Ep c)[i]=0) (fun k=>(Ep c).length - k) (fun k=> [(1,.slice (own.map eAtm) t),(2,.pt (eChg c) 0),(8,.slice ((Ep c).map eRfc) .ro),(9,.raw (.int .i64 (Ep c).length)),(10,.raw (.int .i64 k))]) (fun _=>LF) 0 ⟨by simp,by simp⟩ ⟨rfl,rfl,rfl,rfl,rfl⟩ (.refl _) ?_
 rintro k ⟨hk,he⟩
 refine wf ?_
 refine A6 (fun hc=>?_) (fun hc=>?_)
 ·have hlt:k < (Ep c).length:=by omega
  have hat:=Cj (f:=O1 c own) hlt he
  have hsu:=fun h=>Dj (f:=O1 c own) he hlt h
  have hfit:=la c _ (AB hlt)
  refine wz fun b6=>?_
  generalize (Ep c)[k]=r at hat hsu hfit ⊢
  refine Al 6 ?_
  have i1:B2 Tryz.prog r.f:=hfit.fn
  have i2: ∀ a:Atm,C8 Tryz.prog r.f (.agg (eAtm a)::r.cs) (.raw (.bool (Nc c r.f a))):=fun a=>⟨hfit.out a⟩
  have er:O1 c own r=if r.id.n < 0∨(r.id.patch=Dig.zero∧(own.length:Int)≤r.id.n)∨100000≤r.id.n then 7 else if r.id.patch=Dig.zero∧Nc c r.f (own.getD r.id.n.toNat Atm.zero)=false then 8 else 0:=rfl
  refine wf ?_
  refine Cv (σ:=Unit) (fun _=>True) (fun _=> [(1,.slice (own.map eAtm) t),(2,.pt (eChg c) 0),(6,.pt (eRfc r) 0),(8,.slice ((Ep c).map eRfc) .ro),(9,.raw (.int .i64 (Ep c).length)),(10,.raw (.int .i64 k)),(14,.raw (.bool (decide (r.id.n < 0∨(r.id.patch=Dig.zero∧(own.length:Int)≤r.id.n)∨100000≤r.id.n))))]) (fun _=>LF) ?_ ?_
  ·refine A6 (fun h=>?_) (fun h=>?_)
   ·refine wf ?_
    exact⟨(),trivial,⟨rfl,rfl,rfl,rfl,rfl,rfl,C9 (by rfl) (by simp[h])⟩,.refl _⟩
   ·refine wf ?_
    refine BT [(14,.raw (.bool (decide (r.id.patch=Dig.zero∧(own.length:Int)≤r.id.n)))),(1,.slice (own.map eAtm) t),(2,.pt (eChg c) 0),(6,.pt (eRfc r) 0),(8,.slice ((Ep c).map eRfc) .ro),(9,.raw (.int .i64 (Ep c).length)),(10,.raw (.int .i64 k))] (LF) ?_ ?_
    ·repeat' (first|(refine A6 (fun h=>?_) (fun h=>?_)<;>refine wf ?_)|(refine AX (fun h=>?_) (fun h=>?_)<;>refine wf ?_)|(refine AW (fun h=>?_) (fun h=>?_)<;>refine wf ?_)|(refine Ay (fun h=>?_) (fun h=>?_)<;>(have h2:=h;(try simp only[AD,A8,AI,AN]at h2);refine wf ?_)))
     all_goals (refine⟨⟨C9 (by rfl) ?_,rfl,rfl,rfl,rfl,rfl,rfl⟩,.refl _⟩;first|(simp_all;done)|(clear hat hsu hfit er he;grind))
    refine wf ?_
    refine A6 (fun h2=>?_) (fun h2=>?_)
    ·refine wf ?_
     exact⟨(),trivial,⟨rfl,rfl,rfl,rfl,rfl,rfl,C9 (by rfl) (by simp[h2])⟩,.refl _⟩
    ·refine wf ?_
     have e8:(100000≤r.id.n)↔(r.id.n < 0∨(r.id.patch=Dig.zero∧(own.length:Int)≤r.id.n)∨100000≤r.id.n):=⟨fun h=> .inr (.inr h),fun h3=>by
      rcases h3 with h3|h3|h3
      ·exact absurd h3 h
      ·exact absurd h3 h2
      ·exact h3⟩
     exact⟨(),trivial,⟨rfl,rfl,rfl,rfl,rfl,rfl,C9 (by rfl) (by rw[decide_eq_decide];exact e8)⟩,.refl _⟩
  intro _ _
  refine A6 (fun h=>?_) (fun h=>?_)
  ·refine wf ?_
   refine B1 (.of_eq ?_)
   rw[if_pos h]at er
   rw[Rk,hat (by rw[er];decide),er];rfl
  rw[if_neg h]at er
  refine wf ?_
  refine BT [(34,.raw (.bool (decide (r.id.patch=Dig.zero∧Nc c r.f (own.getD r.id.n.toNat Atm.zero)=false)))),(1,.slice (own.map eAtm) t),(2,.pt (eChg c) 0),(8,.slice ((Ep c).map eRfc) .ro),(9,.raw (.int .i64 (Ep c).length)),(10,.raw (.int .i64 k))] LF ?_ ?_
  ·refine Ay (fun hp=>?_) (fun hp=>?_)
   ·have hp2:=BJ hp
    have g1:0≤r.id.n:=by
     rcases Ux r.id.n 0 with h'|h'
     ·exact absurd (.inl h') h
     ·exact h'
    have g2:r.id.n < own.length:=by
     rcases Ux r.id.n own.length with h'|h'
     ·exact h'
     ·exact absurd (.inr (.inl ⟨hp2,h'⟩)) h
    have g3:own.getD r.id.n.toNat Atm.zero=own[r.id.n.toNat]'(by omega):=by
     have:r.id.n.toNat < own.length:=by omega
     simp[List.getD,this]
    refine wf ?_
    exact⟨⟨C9 (by rfl) (by rw[g3];simp[hp2]),rfl,rfl,rfl,rfl,rfl⟩,.refl _⟩
   ·have hp2:=Bh hp
    refine wf ?_
    exact⟨⟨C9 (by rfl) (by simp[hp2]),rfl,rfl,rfl,rfl,rfl⟩,.refl _⟩
  refine wf ?_
  refine A6 (fun h2=>?_) (fun h2=>?_)
  ·refine wf ?_
   refine B1 (.of_eq ?_)
   rw[if_pos h2]at er
   rw[Rk,hat (by rw[er];decide),er];rfl
  ·rw[if_neg h2]at er
   refine wf ?_
   exact⟨k+1,⟨by omega,hsu er⟩,by dsimp only;omega,⟨rfl,rfl,rfl,rfl,rfl⟩,.refl _⟩
 have e0:Aw (O1 c own) (Ep c)=0:=DK fun i h=>he i h (by omega)
 rw[Rk,if_neg (by simp[e0])]
 clear e0 he hk hc
 refine wf ?_
 refine BT [(51,.raw (.bool (decide (c.kind=2∧c.parent=c.file)))),(2,.pt (eChg c) 0)] (LF) ?_ ?_
 ·repeat' (first|(refine A6 (fun h=>?_) (fun h=>?_)<;>refine wf ?_)|(refine AX (fun h=>?_) (fun h=>?_)<;>refine wf ?_)|(refine AW (fun h=>?_) (fun h=>?_)<;>refine wf ?_)|(refine Ay (fun h=>?_) (fun h=>?_)<;>(have h2:=h;(try simp only[AD,A8,AI,AN]at h2);refine wf ?_)))
  all_goals (refine⟨⟨C9 (by rfl) ?_,rfl⟩,.refl _⟩;first|(simp_all;done)|grind)
 refine wf ?_
 refine A6 (fun h=>?_) (fun h=>?_)
 ·refine wf ?_
  refine B1 (.of_eq ?_)
  rw[if_pos h]
 rw[if_neg h]
 refine wf ?_
 refine BT [(62,.raw (.bool (decide (c.kind=6∧c.after=c.before)))),(2,.pt (eChg c) 0)] (LF) ?_ ?_
 ·repeat' (first|(refine A6 (fun h=>?_) (fun h=>?_)<;>refine wf ?_)|(refine AX (fun h=>?_) (fun h=>?_)<;>refine wf ?_)|(refine AW (fun h=>?_) (fun h=>?_)<;>refine wf ?_)|(refine Ay (fun h=>?_) (fun h=>?_)<;>(have h2:=h;(try simp only[AD,A8,AI,AN]at h2);refine wf ?_)))
  all_goals (refine⟨⟨C9 (by rfl) ?_,rfl⟩,.refl _⟩;first|(simp_all;done)|grind)
 refine wf ?_
 refine Cv (σ:=Unit) (fun _=>True) (fun _=> [(62,.raw (.bool (decide ((c.kind=6∧c.after=c.before)∨(c.kind=5∧c.after=c.before∧c.after≠c.file)))))]) (fun _=>LF) ?_ ?_
 ·refine A6 (fun h=>?_) (fun h=>?_)
  ·refine wf ?_
   exact⟨(),trivial,C9 (by rfl) (by simp[h]),.refl _⟩
  ·refine wf ?_
   repeat' (first|(refine A6 (fun h=>?_) (fun h=>?_)<;>refine wf ?_)|(refine AX (fun h=>?_) (fun h=>?_)<;>refine wf ?_)|(refine AW (fun h=>?_) (fun h=>?_)<;>refine wf ?_)|(refine Ay (fun h=>?_) (fun h=>?_)<;>(have h2:=h;(try simp only[AD,A8,AI,AN]at h2);refine wf ?_)))
   all_goals (refine⟨(),trivial,C9 (by rfl) ?_,.refl _⟩;first|(simp_all;done)|grind)
 intro _ _
 refine A6 (fun h=>?_) (fun h=>?_)
 ·refine wf ?_
  refine B1 (.of_eq ?_)
  rw[if_pos h]
 ·refine wf ?_
  refine B1 (.of_eq ?_)
  rw[if_neg h]
instance cu (c:Chg) (own:List Atm) (t:CC) [hs:B0 (C3 c=0∧own.length≤100000∧Nf own)]:C8 Tryz.prog 143 [.agg (eChg c),.slice (own.map eAtm) t] (.raw (.int .i64 (FC c own))):=⟨by
 obtain⟨h1,h2,h3⟩:=hs.out
 rw[←kL h1 h2 h3]
 exact Xw c own t (Sr h1) h2⟩
attribute [local irreducible] Km
instance vn (first n:Int) [hs:B0 (0≤first∧first≤1000000000∧0≤n∧n≤100000)]:C8 Tryz.prog 150 [.raw (.int .i64 n),.pt [.raw (.int .i64 first)] 0] (.agg (eIdent ⟨Dig.zero,first+n⟩)):=⟨by
 obtain⟨h1,h2,h3,h4⟩:=hs.out
 refine Av Tryz.func150 Tryz.ntmps150 rfl (rs:= [.cell 3 65]) rfl rfl fun hb LF=>?_
 refine YD fun b=>?_
 exact Fv rfl (.refl _)⟩
theorem JN {c:Chg} {first:Int} {x:Atm} (e:CW c first= [x]):([]++ [x]) <+:CW c first:=by rw[e];exact⟨[],rfl⟩
theorem Qd {k n:Nat} (h:k≤n):List.range k <+:List.range n:=by
 have:=Sv k (List.range n)
 rwa [List.take_range,DP h]at this
theorem Ao {a b:Res} {L LF:List Res}:(a::b::(L++LF)).Perm (L++(a::b::LF)):=((Bb (l₁:=L)).trans (.cons a Bb)).symm
def rn (c:Chg) (first:Int):List PV:= [.pt [.raw (.int .i64 first)] 0,.pt (eChg c) 0]
def lq (a:Atm):List PV:= [.agg (eAtm a)]
theorem S4 (c:Chg) (first:Int) (hk:1≤c.kind∧c.kind≤7) (hl:c.lines.length≤2000∧0≤first∧first≤1000000000):Ur Tryz.prog 149 (rn c first) lq (CW c first):=by
 intro l J Jx hY L hJ
 obtain⟨hl,hf0,hf1⟩:=hl
 have hz:B0 (0≤first∧first≤1000000000∧(0:Int)≤0∧(0:Int)≤100000):=⟨by omega⟩
 refine C4 Tryz.func149 rfl Tryz.ntmps149 (rs:= []) rfl rfl fun hb LF=>?_
 refine wn ?_
 refine A6 (fun h1=>?_) (fun h1=>?_)
 ·have e:CW c first= [{ Atm.zero with id:=⟨Dig.zero,first+0⟩,kind:=1,file:=⟨Dig.zero,first+0⟩,type:=c.type }]:=by rw[CW,if_pos h1,PR]
  refine BZ 8 ?_ ?_
  ·decide+kernel
  refine wf ?_
  refine Ha L LF rfl rfl rfl (.refl _) _ (hY [] _ L (JN e) hJ) fun b L' hR=>?_
  refine wf ?_
  refine⟨trivial,[],L',.nil,.refl _,?_⟩
  rcases hR with ⟨_,h⟩|⟨_,h⟩
  ·exact .inl (by rw[e];exact h)
  ·exact .inr ⟨_,h⟩
 refine wn ?_
 refine A6 (fun h2=>?_) (fun h2=>?_)
 ·have e:CW c first= [{ Atm.zero with id:=⟨Dig.zero,first+0⟩,kind:=2,file:=c.file,parent:=c.parent,name:=c.name,over:=c.over }]:=by rw[CW,if_neg h1,if_pos h2,PR]
  refine BZ 12 ?_ ?_
  ·decide+kernel
  refine wf ?_
  refine Ha L LF rfl rfl rfl (.refl _) _ (hY [] _ L (JN e) hJ) fun b L' hR=>?_
  refine wf ?_
  refine⟨trivial,[],L',.nil,.refl _,?_⟩
  rcases hR with ⟨_,h⟩|⟨_,h⟩
  ·exact .inl (by rw[e];exact h)
  ·exact .inr ⟨_,h⟩
 refine wn ?_
 refine A6 (fun h3=>?_) (fun h3=>?_)
 ·have e:CW c first= [{ Atm.zero with id:=⟨Dig.zero,first+0⟩,kind:=3,file:=c.file,mode:=c.mode,over:=c.over }]:=by rw[CW,if_neg h1,if_neg h2,if_pos h3,PR]
  refine BZ 10 ?_ ?_
  ·decide+kernel
  refine wf ?_
  refine Ha L LF rfl rfl rfl (.refl _) _ (hY [] _ L (JN e) hJ) fun b L' hR=>?_
  refine wf ?_
  refine⟨trivial,[],L',.nil,.refl _,?_⟩
  rcases hR with ⟨_,h⟩|⟨_,h⟩
  ·exact .inl (by rw[e];exact h)
  ·exact .inr ⟨_,h⟩
 refine wn ?_
 refine A6 (fun h4=>?_) (fun h4=>?_)
 ·have e:CW c first= [{ Atm.zero with id:=⟨Dig.zero,first+0⟩,kind:=4,file:=c.file,data:=c.data,over:=c.over }]:=by rw[CW,if_neg h1,if_neg h2,if_neg h3,if_pos h4,PR]
  refine BZ 10 ?_ ?_
  ·decide+kernel
  refine wf ?_
  refine Ha L LF rfl rfl rfl (.refl _) _ (hY [] _ L (JN e) hJ) fun b L' hR=>?_
  refine wf ?_
  refine⟨trivial,[],L',.nil,.refl _,?_⟩
  rcases hR with ⟨_,h⟩|⟨_,h⟩
  ·exact .inl (by rw[e];exact h)
  ·exact .inr ⟨_,h⟩
 refine wn ?_
 refine A6 (fun h6=>?_) (fun h6=>?_)
 ·have e:CW c first= [{ Atm.zero with id:=⟨Dig.zero,first+0⟩,kind:=6,file:=c.file,src:=c.after,dst:=c.before,over:=c.over }]:=by rw[CW,if_neg h1,if_neg h2,if_neg h3,if_neg h4,if_pos h6,PR]
  refine BZ 12 ?_ ?_
  ·decide+kernel
  refine wf ?_
  refine Ha L LF rfl rfl rfl (.refl _) _ (hY [] _ L (JN e) hJ) fun b L' hR=>?_
  refine wf ?_
  refine⟨trivial,[],L',.nil,.refl _,?_⟩
  rcases hR with ⟨_,h⟩|⟨_,h⟩
  ·exact .inl (by rw[e];exact h)
  ·exact .inr ⟨_,h⟩
 refine wn ?_
 refine A6 (fun h7=>?_) (fun h7=>?_)
 ·have e:CW c first= [{ Atm.zero with id:=⟨Dig.zero,first+0⟩,kind:=7,over:=c.over }]:=by rw[CW,if_neg h1,if_neg h2,if_neg h3,if_neg h4,if_neg h6,if_pos h7,PR]
  refine BZ 6 ?_ ?_
  ·decide+kernel
  refine wf ?_
  refine Ha L LF rfl rfl rfl (.refl _) _ (hY [] _ L (JN e) hJ) fun b L' hR=>?_
  refine wf ?_
  refine⟨trivial,[],L',.nil,.refl _,?_⟩
  rcases hR with ⟨_,h⟩|⟨_,h⟩
  ·exact .inl (by rw[e];exact h)
  ·exact .inr ⟨_,h⟩
 refine wn ?_
 refine A6 (fun h5=>?_) (fun h5=>?_)
 ·have e:CW c first=(List.range c.lines.length).map (Ft c first)++(List.range (c.lines.length+1)).map (Ey c first):=by rw[CW,if_neg h1,if_neg h2,if_neg h3,if_neg h4,if_neg h6,if_neg h7]
  have hc209: ∀ n:Nat,n≤4001→B0 (0≤first∧first≤1000000000∧(0:Int)≤n∧(n:Int)≤100000):=fun n hn=>⟨by omega⟩
  refine wf ?_
  refine Ab (σ:=Nat × List Res) (fun k=>k.1≤c.lines.length∧J ((List.range k.1).map (Ft c first)) k.2) (fun k=>c.lines.length - k.1) (fun k=> [(0,.raw (.func (.yield l) #[] #[])),(1,.pt [.raw (.int .i64 first)] 0),(2,.pt (eChg c) 0),(4,.clo 150 [.pt [.raw (.int .i64 first)] 0]),(93,.slice (c.lines.map eS) .ro),(94,.raw (.int .i64 c.lines.length)),(95,.raw (.int .i64 k.1))]) (fun k=>k.2++LF) (0,L) ⟨by simp,hJ⟩ ⟨rfl,rfl,rfl,rfl,rfl,rfl,rfl⟩ (.refl _) ?_
  rintro⟨k,L1⟩ ⟨hk,hJ1⟩
  dsimp only at hk hJ1 ⊢
  refine wn ?_
  refine A6 (fun hc=>?_) (fun hc=>?_)
  ·have hlt:k < c.lines.length:=by omega
   have hsk:=hc209 k (by omega)
   refine wn ?_
   refine BZ 8 ?_ ?_
   ·decide+kernel
   refine wf ?_
   have hx:Ft c first k= { Atm.zero with id:=⟨Dig.zero,first+k⟩,kind:=5,file:=c.file,text:=c.lines[k] }:=by simp[Ft,List.getD,hlt]
   have hr:(List.range (k+1)).map (Ft c first)=(List.range k).map (Ft c first)++ [Ft c first k]:=by rw[EJ,Aq];rfl
   refine Ha L1 LF rfl rfl rfl (.refl _) _ (hY ((List.range k).map (Ft c first)) { Atm.zero with id:=⟨Dig.zero,first+k⟩,kind:=5,file:=c.file,text:=c.lines[k] } L1 ?_ hJ1) fun b L' hR=>?_
   ·rw[←hx,←hr,e]
    exact((Qd (by omega)).map _).trans (List.prefix_append _ _)
   rw[←hx,←hr]at hR
   refine wf ?_
   rcases hR with ⟨rfl,h⟩|⟨rfl,h⟩
   ·refine AW (t:=false) (fun h'=>by cases h') (fun _=>?_)
    refine wf ?_
    exact⟨(k+1,L'),⟨by dsimp only;omega,h⟩,by dsimp only;omega,⟨rfl,rfl,rfl,rfl,rfl,rfl,rfl⟩,.refl _⟩
   ·refine AW (t:=true) (fun _=>?_) (fun h'=>by cases h')
    refine wf ?_
    exact⟨trivial,[],L',.nil,.refl _,.inr ⟨_,h⟩⟩
  have hkk:k=c.lines.length:=by omega
  subst hkk
  generalize hA:(List.range c.lines.length).map (Ft c first)=A at e hJ1
  refine YD fun b8=>?_
  refine Ab (σ:=Nat × Ident × List Res) (fun k=>k.1≤c.lines.length+1∧(k.1≤c.lines.length→k.2.1=(if 0 < (k.1:Int)then⟨Dig.zero,first+k.1 - 1⟩else c.after))∧J (A++(List.range k.1).map (Ey c first)) k.2.2) (fun k=>c.lines.length+1 - k.1) (fun k=> [(0,.raw (.func (.yield l) #[] #[])),(1,.pt [.raw (.int .i64 first)] 0),(2,.pt (eChg c) 0),(4,.clo 150 [.pt [.raw (.int .i64 first)] 0]),(7,.raw (.int .i64 c.lines.length)),(8,.raw (.pointer (some ⟨b8,0,none⟩))),(117,.raw (.int .i64 (c.lines.length+1))),(118,.raw (.int .i64 k.1))]) (fun k=> .box b8 65 (eIdent k.2.1)::(k.2.2++LF)) (0,c.after,L1) ⟨by simp,fun _=>rfl,by simpa using hJ1⟩ ⟨rfl,rfl,rfl,rfl,rfl,rfl,rfl,rfl⟩ (.refl _) ?_
  rintro⟨k,fr,L1⟩ ⟨hk,hfr,hJ1⟩
  dsimp only at hk hfr hJ1 ⊢
  refine wf ?_
  refine A6 (fun hc=>?_) (fun hc=>?_)
  ·have hfr:=hfr (by omega)
   have hsk:=hc209 k (by omega)
   have hsk2:B0 (0≤first∧first≤1000000000∧(0:Int)≤c.lines.length+k∧(c.lines.length+k:Int)≤100000):=⟨by omega⟩
   refine YD fun b10=>?_
   refine Cv (σ:=Ident) (fun s=>s=if(k:Int) < c.lines.length then⟨Dig.zero,first+k⟩else c.before) (fun s=> [(0,.raw (.func (.yield l) #[] #[])),(1,.pt [.raw (.int .i64 first)] 0),(2,.pt (eChg c) 0),(4,.clo 150 [.pt [.raw (.int .i64 first)] 0]),(7,.raw (.int .i64 c.lines.length)),(8,.raw (.pointer (some ⟨b8,0,none⟩))),(9,.raw (.int .i64 k)),(10,.raw (.pointer (some ⟨b10,0,none⟩))),(117,.raw (.int .i64 (c.lines.length+1))),(118,.raw (.int .i64 k))]) (fun s=> .box b10 65 (eIdent s):: .box b8 65 (eIdent fr)::(L1++LF)) ?_ ?_
   ·refine A6 (fun h=>?_) (fun h=>?_)
    ·refine wf ?_
     exact⟨⟨Dig.zero,first+k⟩,by rw[if_pos h],⟨rfl,rfl,rfl,rfl,rfl,rfl,rfl,rfl,rfl,rfl⟩,.refl _⟩
    ·refine wf ?_
     exact⟨c.before,by rw[if_neg h],⟨rfl,rfl,rfl,rfl,rfl,rfl,rfl,rfl,rfl,rfl⟩,.refl _⟩
   rintro to hto
   refine wn ?_
   refine BZ 11 ?_ ?_
   ·decide+kernel
   refine wf ?_
   have hx:Ey c first k= { Atm.zero with id:=⟨Dig.zero,first+(c.lines.length+k)⟩,kind:=6,file:=c.file,src:=fr,dst:=to }:=by rw[Ey,hfr,hto,Int.add_assoc]
   have hr:A++(List.range (k+1)).map (Ey c first)=(A++(List.range k).map (Ey c first))++ [Ey c first k]:=by rw[EJ,Aq,AV];rfl
   refine Ha L1 (.box b10 65 (eIdent to):: .box b8 65 (eIdent fr)::LF) rfl rfl rfl Ao _ (hY (A++(List.range k).map (Ey c first)) { Atm.zero with id:=⟨Dig.zero,first+(c.lines.length+k)⟩,kind:=6,file:=c.file,src:=fr,dst:=to } L1 ?_ hJ1) fun b L' hR=>?_
   ·rw[←hx,←hr,e]
    exact(List.prefix_append_right_inj _).2 ((Qd (by omega)).map _)
   rw[←hx,←hr]at hR
   refine wf ?_
   rcases hR with ⟨rfl,h⟩|⟨rfl,h⟩
   ·refine AW (t:=false) (fun h'=>by cases h') (fun _=>?_)
    refine E3 Ao.symm ?_
    refine wf ?_
    refine⟨(k+1,to,L'),⟨by dsimp only;omega,?_,h⟩,by dsimp only;omega,⟨rfl,rfl,rfl,rfl,rfl,rfl,rfl,rfl⟩,.cons _ (.refl _)⟩
    intro h'
    dsimp only at h' ⊢
    rw[hto,if_pos (by omega),if_pos (by omega)]
    congr 1
    push_cast;omega
   ·refine AW (t:=true) (fun _=>?_) (fun h'=>by cases h')
    refine wf ?_
    exact⟨trivial,[],L',.nil,(EZ _).append (.cons _ (.cons _ (.refl _))),.inr ⟨_,h⟩⟩
  refine wf ?_
  have hkk:k=c.lines.length+1:=by omega
  subst hkk
  exact⟨trivial,[],L1,.nil,.cons _ (.refl _),.inl (by rw[e];exact hJ1)⟩
 ·exact absurd h5 (by omega)
instance yw (c:Chg) (first:Int):C8 Tryz.prog 84 [.agg (eChg c),.raw (.int .i64 first)] (.clo 149 (rn c first)):=⟨by
 refine Av Tryz.func84 Tryz.ntmps84 rfl (rs:= [.tmp 4]) rfl rfl fun hb LF=>?_
 refine wf ?_
 refine B1 (.of_eq ?_)
 rfl⟩
theorem ey {α:Type} {a:List α} {m:Nat} (h:m < a.length):a.zipIdx.reverse[a.length - (m+1)]'(by simp;omega)=(a[m],m):=by
 rw[Y5,List.getElem_zipIdx]
 have e:a.zipIdx.length - 1 - (a.length - (m+1))=m:=by simp;omega
 simp only[e,BC]
def bkD (e:Dig × Nat):List PV:= [.raw (.int .i64 (e.2:Nat)),.agg (eDig e.1)]
theorem cw (a:List Dig) (t:CC) (hl:a.length≤1000000):Ur Tryz.prog 292 [.pt [.slice (a.map eDig) t] 0] bkD a.zipIdx.reverse:=by
 intro l J Jx hY L hJ
 refine C4 Tryz.func292 rfl Tryz.ntmps292 (rs:= []) rfl rfl fun hb LF=>?_
 refine wf ?_
 refine Ab (σ:=Nat × List Res) (fun k=>k.1≤a.length∧J (a.zipIdx.reverse.take (a.length - k.1)) k.2) (fun k=>k.1) (fun k=> [(0,.raw (.func (.yield l) #[] #[])),(1,.pt [.slice (a.map eDig) t] 0),(3,.raw (.int .i64 ((k.1:Int) - 1)))]) (fun k=>k.2++LF) (a.length,L) ⟨by simp,by simpa using hJ⟩ ⟨rfl,rfl,rfl⟩ (.refl _) ?_
 rintro⟨k,L1⟩ ⟨hk,hJ1⟩
 dsimp only at hk hJ1 ⊢
 refine wf ?_
 refine A6 (fun hc=>?_) (fun hc=>?_)
 ·obtain⟨m,rfl⟩: ∃ m,k=m+1:=⟨k - 1,by omega⟩
  have hm:m < a.length:=by omega
  have hlt:a.length - (m+1) < a.zipIdx.reverse.length:=by simp;omega
  have ht:a.zipIdx.reverse.take (a.length - m)=a.zipIdx.reverse.take (a.length - (m+1))++ [(a[m],m)]:=by
   rw[show a.length - m=a.length - (m+1)+1 by omega,A7 hlt,ey hm]
  have hy:=hY _ (a[m],m) L1 (by rw[←ht];exact Sv _ _) hJ1
  rw[←ht]at hy
  refine HD [(0,.raw (.func (.yield l) #[] #[])),(1,.pt [.slice (a.map eDig) t] 0),(3,.raw (.int .i64 (m:Int)))] ⟨rfl,rfl,congrArg (fun n=>PV.raw (.int .i64 n)) (by omega)⟩ (.refl _) ?_
  refine wf ?_
  refine Ha L1 LF rfl rfl rfl (.refl _) _ hy fun bo L' hR=>?_
  refine wf ?_
  rcases hR with ⟨rfl,hJ2⟩|⟨rfl,hJx⟩
  ·refine wf ?_
   exact⟨(m,L'),⟨by dsimp only;omega,hJ2⟩,by dsimp only;omega,⟨rfl,rfl,rfl⟩,.refl _⟩
  ·refine wf ?_
   exact⟨trivial,_,L',.nil,.refl _,.inr ⟨_,hJx⟩⟩
 ·have hk0:k=0:=by omega
  subst hk0
  rw[AF (by simp)]at hJ1
  refine wf ?_
  exact⟨trivial,_,L1,.nil,.refl _,.inl hJ1⟩
instance yI (a:List Dig) (t:CC):C8 Tryz.prog 254 [.slice (a.map eDig) t] (.clo 292 [.pt [.slice (a.map eDig) .ro] 0]):=⟨by
 refine Av Tryz.func254 Tryz.ntmps254 rfl (rs:= [.tmp 2]) rfl rfl fun hb LF=>?_
 refine wf ?_
 exact B1 (.refl _)⟩
def bkA (e:Atm × Nat):List PV:= [.raw (.int .i64 (e.2:Nat)),.agg (eAtm e.1)]
theorem cy (a:List Atm) (t:CC) (hl:a.length≤1000000):Ur Tryz.prog 293 [.pt [.slice (a.map eAtm) t] 0] bkA a.zipIdx.reverse:=by
 intro l J Jx hY L hJ
 refine C4 Tryz.func293 rfl Tryz.ntmps293 (rs:= []) rfl rfl fun hb LF=>?_
 refine wf ?_
 refine Ab (σ:=Nat × List Res) (fun k=>k.1≤a.length∧J (a.zipIdx.reverse.take (a.length - k.1)) k.2) (fun k=>k.1) (fun k=> [(0,.raw (.func (.yield l) #[] #[])),(1,.pt [.slice (a.map eAtm) t] 0),(3,.raw (.int .i64 ((k.1:Int) - 1)))]) (fun k=>k.2++LF) (a.length,L) ⟨by simp,by simpa using hJ⟩ ⟨rfl,rfl,rfl⟩ (.refl _) ?_
 rintro⟨k,L1⟩ ⟨hk,hJ1⟩
 dsimp only at hk hJ1 ⊢
 refine wf ?_
 refine A6 (fun hc=>?_) (fun hc=>?_)
 ·obtain⟨m,rfl⟩: ∃ m,k=m+1:=⟨k - 1,by omega⟩
  have hm:m < a.length:=by omega
  have hlt:a.length - (m+1) < a.zipIdx.reverse.length:=by simp;omega
  have ht:a.zipIdx.reverse.take (a.length - m)=a.zipIdx.reverse.take (a.length - (m+1))++ [(a[m],m)]:=by
   rw[show a.length - m=a.length - (m+1)+1 by omega,A7 hlt,ey hm]
  have hy:=hY _ (a[m],m) L1 (by rw[←ht];exact Sv _ _) hJ1
  rw[←ht]at hy
  refine HD [(0,.raw (.func (.yield l) #[] #[])),(1,.pt [.slice (a.map eAtm) t] 0),(3,.raw (.int .i64 (m:Int)))] ⟨rfl,rfl,congrArg (fun n=>PV.raw (.int .i64 n)) (by omega)⟩ (.refl _) ?_
  refine wf ?_
  refine Ha L1 LF rfl rfl rfl (.refl _) _ hy fun bo L' hR=>?_
  refine wf ?_
  rcases hR with ⟨rfl,hJ2⟩|⟨rfl,hJx⟩
  ·refine wf ?_
   exact⟨(m,L'),⟨by dsimp only;omega,hJ2⟩,by dsimp only;omega,⟨rfl,rfl,rfl⟩,.refl _⟩
  ·refine wf ?_
   exact⟨trivial,_,L',.nil,.refl _,.inr ⟨_,hJx⟩⟩
 ·have hk0:k=0:=by omega
  subst hk0
  rw[AF (by simp)]at hJ1
  refine wf ?_
  exact⟨trivial,_,L1,.nil,.refl _,.inl hJ1⟩
instance yJ (a:List Atm) (t:CC):C8 Tryz.prog 255 [.slice (a.map eAtm) t] (.clo 293 [.pt [.slice (a.map eAtm) .ro] 0]):=⟨by
 refine Av Tryz.func255 Tryz.ntmps255 rfl (rs:= [.tmp 2]) rfl rfl fun hb LF=>?_
 refine wf ?_
 exact B1 (.refl _)⟩
end Go.Proofs
namespace Go.Proofs
open Go Go.Q
attribute [local irreducible] ER AU BA Fk
def Pb:Nat→Nat→Str
 |0,n=> [UInt8.ofNat (48+n)]
 |f+1,n=>if n < 10 then [UInt8.ofNat (48+n)]else Pb f (n / 10)++ [UInt8.ofNat (48+n % 10)]
theorem Tq: ∀ (f n:Nat),n≤f→Pb f n=Pb n n
 |0,n,h=>by have:n=0:=by omega
            subst this;rfl
 |f+1,n,h=>by
  by_cases hn:n < 10
  ·cases n with
   |zero=>simp[Pb]
   |succ m=>simp only[Pb,hn,if_true]
  ·obtain⟨m,rfl⟩: ∃ m,n=m+1:=⟨n - 1,by omega⟩
   simp only[Pb,hn,if_false]
   rw[Tq f ((m+1) / 10) (by omega),Tq m ((m+1) / 10) (by omega)]
def IH (n:Nat):Str:=Pb n n
theorem IZ {n:Nat} (h:n < 10):IH n= [UInt8.ofNat (48+n)]:=by
 unfold IH
 cases n with
 |zero=>simp[Pb]
 |succ m=>simp only[Pb,h,if_true]
theorem MB {n:Nat} (h: ¬n < 10):IH n=IH (n / 10)++ [UInt8.ofNat (48+n % 10)]:=by
 obtain⟨m,rfl⟩: ∃ m,n=m+1:=⟨n - 1,by omega⟩
 unfold IH
 simp only[Pb,h,if_false]
 rw[Tq m ((m+1) / 10) (by omega)]
theorem Yu: ∀ (m n:Nat),n < 10 ^ (m+1)→(IH n).length≤m+1
 |0,n,h=>by rw[IZ (by omega)];simp
 |m+1,n,h=>by
  by_cases hn:n < 10
  ·rw[IZ hn];simp
  ·rw[MB hn,AA]
   have:=Yu m (n / 10) (by rw[Nat.div_lt_iff_lt_mul (by omega)];rw[Nat.pow_succ]at h;omega)
   simp only[AL,Af];omega
theorem Kc {n:Nat} (h:n≤140737488355328):(IH n).length≤15:=Yu 14 n (by omega)
theorem Si: ∀ (n:Nat),n≤140737488355328→Q.Fn Tryz.prog 282 [.raw (.int .i64 (n:Int))] (.str (IH n)):=by
 intro n
 induction n using Nat.strongRecOn with
 |_ n ih=>
 intro hn
 have ih': ∀ m:Nat,[B0 (m < n)]→C8 Tryz.prog 282 [.raw (.int .i64 (m:Int))] (.str (IH m)):=fun m h=>⟨ih m h.out (by have:=h.out;omega)⟩
 refine Av Tryz.func282 Tryz.ntmps282 rfl (rs:= [.tmp 2]) rfl rfl fun hb LF=>?_
 refine AZ ?_
 refine A6 (fun h2=>?_) (fun h2=>?_)
 ·refine AZ ?_
  refine B1 (.of_eq ?_)
  rw[IZ (by omega)]
 ·have:B0 (n / 10 < n):=⟨by omega⟩
  have hl:=Kc (n:=n / 10) (by omega)
  refine AZ ?_
  refine YY (n:=10) (by rfl) (by rfl) (by decide) (by omega) ?_
  refine CH ?_
  refine YX (n:=10) (by rfl) (by rfl) (by decide) ?_
  refine CH ?_
  refine B1 (.of_eq ?_)
  rw[MB (n:=n) (by omega)]
def JH (n:Int):Str:=if n < 0 then 45::IH (-n).toNat else IH n.toNat
theorem Ou {n:Int} (h: -140737488355328≤n∧n≤140737488355328):(JH n).length≤16:=by
 unfold JH
 split
 ·have:=Kc (n:=(-n).toNat) (by omega)
  simp only[AL];omega
 ·have:=Kc (n:=n.toNat) (by omega)
  omega
instance vM (n:Int) [hs:B0 (-140737488355328≤n∧n≤140737488355328)]:C8 Tryz.prog 282 [.raw (.int .i64 n)] (.str (JH n)):=⟨by
 obtain⟨h0,h1⟩:=hs.out
 by_cases hn:n < 0
 ·have h3:C8 Tryz.prog 282 [.raw (.int .i64 (-n))] (.str (IH (-n).toNat)):=⟨by
   have:=Si (-n).toNat (by omega)
   rwa [show(((-n).toNat:Nat):Int)= -n by omega]at this⟩
  refine Av Tryz.func282 Tryz.ntmps282 rfl (rs:= [.tmp 2]) rfl rfl fun hb LF=>?_
  refine AZ ?_
  refine A6 (fun h1=>?_) (fun h1=>?_)
  ·refine AZ ?_
   refine A6 (fun h2=>?_) (fun h2=>?_)
   ·omega
   ·have hl:=Kc (n:=(-n).toNat) (by omega)
    refine AZ ?_
    refine B1 (.of_eq ?_)
    rw[JH,if_pos hn];rfl
  ·omega
 ·have:=Si n.toNat (by omega)
  rw[show((n.toNat:Nat):Int)=n by omega]at this
  rw[JH,if_neg hn];exact this⟩
def Cf (s:Str):Sx:= .mk false s []
def E6 (l:List Sx):Sx:= .mk true [] l
def Rl (n:Int):Sx × Int:=if n < -1099511627776∨1099511627776 < n then(Sx.zero,2)else(Cf (JH n),0)
instance A07 (n:Int):C8 Tryz.prog 223 [.raw (.int .i64 n)] (.tuple [.agg (eSx (Rl n).1),.raw (.int .i64 (Rl n).2)]):=⟨by
 refine Av Tryz.func223 Tryz.ntmps223 rfl (rs:= [.cell 2 196,.tmp 3]) rfl rfl fun hb LF=>?_
 refine DU fun b=>?_
 refine BT [(9,.raw (.bool (decide (n < -1099511627776∨1099511627776 < n)))),(0,.raw (.int .i64 n)),(2,.raw (.pointer (some ⟨b,0,none⟩)))] (.box b 196 (eSx Sx.zero)::LF) ?_ ?_
 ·repeat' (first|(refine A6 (fun h=>?_) (fun h=>?_)<;>refine AZ ?_)|(refine AX (fun h=>?_) (fun h=>?_)<;>refine AZ ?_)|(refine AW (fun h=>?_) (fun h=>?_)<;>refine AZ ?_)|(refine Ay (fun h=>?_) (fun h=>?_)<;>(have h2:=h;(try simp only[AD,A8,AI,AN]at h2);refine CH ?_)))
  all_goals (refine⟨⟨C9 (by rfl) ?_,rfl,rfl⟩,.refl _⟩;first|(simp_all;done)|(simp_all;omega)|grind)
 refine AZ ?_
 refine A6 (fun h=>?_) (fun h=>?_)
 ·refine AZ ?_
  refine Jq rfl (.of_eq ?_)
  rw[Rl,if_pos h]
 ·have:B0 (-140737488355328≤n∧n≤140737488355328):=⟨by omega⟩
  refine AZ ?_
  refine Jq rfl (.of_eq ?_)
  rw[Rl,if_neg h];rfl⟩
instance yK (s:Str):C8 Tryz.prog 168 [.str s] (.agg (eSx (Cf s))):=⟨by
 refine Av Tryz.func168 Tryz.ntmps168 rfl (rs:= [.cell 2 196]) rfl rfl fun hb LF=>?_
 refine DU fun b=>?_
 refine Fv rfl (.of_eq ?_)
 rfl⟩
instance xi (l:List Sx) (t:CC):C8 Tryz.prog 167 [.slice (l.map eSx) t] (.agg (eSx (E6 l))):=⟨by
 refine Av Tryz.func167 Tryz.ntmps167 rfl (rs:= [.cell 2 196]) rfl rfl fun hb LF=>?_
 refine DU fun b=>?_
 refine Fv rfl (.of_eq ?_)
 rfl⟩
def GJ (n:Int):Sx:=(Rl n).1
instance uA (n:Int):C8 Tryz.prog 169 [.raw (.int .i64 n)] (.agg (eSx (GJ n))):=⟨by
 refine Av Tryz.func169 Tryz.ntmps169 rfl (rs:= [.cell 2 196]) rfl rfl fun hb LF=>?_
 refine DU fun b=>?_
 refine Fq fun b2=>?_
 refine Fv rfl (.of_eq ?_)
 rfl⟩
instance yU (d:Dig):C8 Tryz.prog 218 [.agg (eDig d)] (.str d.bs):=⟨by
 refine Av Tryz.func218 Tryz.ntmps218 rfl (rs:= [.tmp 2]) rfl rfl fun hb LF=>?_
 refine DU fun b=>?_
 refine B1 (.of_eq ?_)
 rfl⟩
def KE (d:Dig):Sx:=if d=Dig.zero then Cf []else Cf d.bs
instance uo (d:Dig):C8 Tryz.prog 164 [.agg (eDig d)] (.agg (eSx (KE d))):=⟨by
 refine Av Tryz.func164 Tryz.ntmps164 rfl (rs:= [.cell 2 196]) rfl rfl fun hb LF=>?_
 refine DU fun b=>?_
 refine Fq fun b2=>?_
 refine A6 (fun h=>?_) (fun h=>?_)
 ·refine AZ ?_
  refine Fv rfl (.of_eq ?_)
  rw[KE,if_pos h]
 ·refine AZ ?_
  refine Fv rfl (.of_eq ?_)
  rw[KE,if_neg h]⟩
def GI (x:Ident):Sx:=E6 [KE x.patch,GJ x.n]
instance n5 (x:Ident):C8 Tryz.prog 219 [.agg (eIdent x)] (.agg (eSx (GI x))):=⟨by
 refine Av Tryz.func219 Tryz.ntmps219 rfl (rs:= [.cell 2 196]) rfl rfl fun hb LF=>?_
 refine av fun b=>?_
 refine nY fun b2=>?_
 refine BZ 8 ?_ ?_
 ·decide+kernel
 refine CH ?_
 refine Fv rfl (.of_eq ?_)
 rfl⟩
def JF (l:List Ident):Sx:=E6 (l.map GI)
instance xV (l:List Ident) (t:CC) [hs:B0 (l.length≤1000000)]:C8 Tryz.prog 220 [.slice (l.map eIdent) t] (.agg (eSx (JF l))):=⟨by
 refine Av Tryz.func220 Tryz.ntmps220 rfl (rs:= [.cell 2 196]) rfl rfl fun hb LF=>?_
 have hlen:=hs.out
 refine DU fun b=>?_
 refine EO 3 ?_
 refine Ab (σ:=Nat × CC × List Sx) (fun k=>k.1≤l.length∧k.2.2=(l.take k.1).map GI) (fun k=>l.length - k.1) (fun k=> [(0,.slice (l.map eIdent) t),(2,.raw (.pointer (some ⟨b,0,none⟩))),(3,.slice (k.2.2.map eSx) k.2.1),(4,.raw (.int .i64 k.1))]) (fun k=> .tok k.2.1 k.2.2.length 3:: .box b 196 (eSx Sx.zero)::LF) (0,.nil,[]) ⟨by simp,by simp⟩ ⟨rfl,rfl,rfl,rfl⟩ (.refl _) ?_
 rintro⟨k,v,out⟩ ⟨hk,he⟩
 dsimp only at hk he
 have hol:out.length=k:=by rw[he];simp;omega
 refine AZ ?_
 refine A6 (fun hc=>?_) (fun hc=>?_)
 ·have hlt:k < l.length:=by omega
  refine Hz fun v'=>?_
  refine⟨(k+1,v',out++ [GI l[k]]),⟨by dsimp only;omega,?_⟩,by dsimp only;omega,⟨rfl,rfl,rfl,rfl⟩,.refl _⟩
  dsimp only
  rw[A7 hlt,Aq,he];rfl
 ·refine AZ ?_
  refine Fv rfl (.of_eq ?_)
  rw[AF (by omega)]at he
  rw[JF,←he]⟩
def PE:Nat→Sx→Prop
 |0,_=>False
 |d+1,x=>(x.isList=false∧x.list= []∧x.atom.length≤65536)∨(x.isList=true∧x.atom= []∧ ∀ y∈x.list,PE d y)
def Im:Nat→Sx→Nat
 |0,_=>0
 |d+1,x=>if x.isList then 1+(x.list.map (Im d)).sum else 1
def Dq:Nat→Sx→Str
 |0,_=> []
 |d+1,x=>if x.isList then 40::(x.list.flatMap (Dq d)++ [41])else IH x.atom.length++58::x.atom
theorem Kx {l:List Nat} {k:Nat}:(l.take k).sum≤l.sum:=by
 conv=>rhs;rw[←Bf k l,GM]
 omega
theorem aK: ∀ (d:Nat) (x:Sx) (limit depth:Int),PE d x→(Im d x:Int)≤limit→limit≤1000000→(d:Int)≤depth→depth≤1000→Q.Fn Tryz.prog 280 [.agg (eSx x),.raw (.int .i64 limit),.raw (.int .i64 depth)] (.raw (.int .i64 (Im d x:Int)))
 |0,x,limit,depth,hw,_,_,_,_=>hw.elim
 |d+1,x,limit,depth,hw,hn,hl,hd,hd2=>by
  have ih: ∀ (y:Sx) (lim dep:Int),[B0 (PE d y∧(Im d y:Int)≤lim∧lim≤1000000∧(d:Int)≤dep∧dep≤1000)]→C8 Tryz.prog 280 [.agg (eSx y),.raw (.int .i64 lim),.raw (.int .i64 dep)] (.raw (.int .i64 (Im d y:Int))):=fun y lim dep h=>⟨by
   obtain⟨h1,h2,h3,h4,h5⟩:=h.out
   exact aK d y lim dep h1 h2 h3 h4 h5⟩
  have hpos:1≤Im (d+1) x:=by unfold Im;split<;>omega
  refine Av Tryz.func280 Tryz.ntmps280 rfl (rs:= [.tmp 6]) rfl rfl fun hb LF=>?_
  refine DU fun b=>?_
  refine Ay (fun hp=>?_) (fun hp=>?_)
  ·have:=BJ hp;omega
  refine CH ?_
  refine A6 (fun h1=>?_) (fun h1=>?_)
  ·omega
  refine AZ ?_
  refine AW (fun h2=>?_) (fun h2=>?_)
  ·refine AZ ?_
   refine B1 (.of_eq ?_)
   have:x.isList=false:=by simpa using h2
   simp[Im,this]
  have hL:x.isList=true:=by simpa using h2
  rcases hw with ⟨h3,_⟩|⟨_,_,hw⟩
  ·rw[hL]at h3;cases h3
  have hnd:Im (d+1) x=1+(x.list.map (Im d)).sum:=by simp[Im,hL]
  rw[hnd]at hn ⊢
  have hlen:x.list.length≤140737488355328:=by
   have:=(hb (.agg (eSx x)) (by simp)).agg_at (c:= .slice (x.list.map eSx) .ro) (by rw[Fw];simp)
   exact this.slice_map
  refine AZ ?_
  refine Ab (σ:=Nat) (fun k=>k≤x.list.length) (fun k=>x.list.length - k) (fun k=> [(1,.raw (.int .i64 limit)),(2,.raw (.int .i64 depth)),(3,.raw (.pointer (some ⟨b,0,none⟩))),(7,.raw (.int .i64 ((1+((x.list.map (Im d)).take k).sum:Nat):Int))),(8,.raw (.int .i64 k))]) (fun _=> .box b 196 (eSx x)::LF) 0 (by simp) ⟨rfl,rfl,rfl,by simp;rfl,rfl⟩ (.refl _) ?_
  intro k hk
  have hsk:=Kx (l:=x.list.map (Im d)) (k:=k)
  have hsk1:=Kx (l:=x.list.map (Im d)) (k:=k+1)
  refine AZ ?_
  refine Ay (fun hp=>?_) (fun hp=>?_)
  ·have hc:=BJ hp
   have hlt:k < x.list.length:=by omega
   have e:((x.list.map (Im d)).take (k+1)).sum=((x.list.map (Im d)).take k).sum+Im d x.list[k]:=by
    rw[A7 (by simpa using hlt),GM];simp
   refine CH ?_
   refine A6 (fun h4=>?_) (fun h4=>?_)
   ·have:B0 (PE d x.list[k]∧(Im d x.list[k]:Int)≤limit - ((1+((x.list.map (Im d)).take k).sum:Nat):Int)∧limit - ((1+((x.list.map (Im d)).take k).sum:Nat):Int)≤1000000∧(d:Int)≤depth - 1∧depth - 1≤1000):=⟨hw _ (AB hlt),by omega,by omega,by omega,by omega⟩
    refine AZ ?_
    refine⟨k+1,by omega,by dsimp only;omega,⟨rfl,rfl,rfl,?_,rfl⟩,.refl _⟩
    show PV.raw (Value.int .i64 _)=PV.raw (Value.int .i64 _)
    rw[e];congr 2;omega
   ·omega
  ·have hc:=Bh hp
   refine CH ?_
   refine B1 (.of_eq ?_)
   rw[AF (by simp;omega)]
theorem aO: ∀ (d:Nat) (x:Sx),PE d x→Q.Fn Tryz.prog 281 [.agg (eSx x)] (.raw (.int .i64 0))
 |0,x,hw=>hw.elim
 |d+1,x,hw=>by
  have ih: ∀ (y:Sx),[B0 (PE d y)]→C8 Tryz.prog 281 [.agg (eSx y)] (.raw (.int .i64 0)):=fun y h=>⟨aO d y h.out⟩
  refine Av Tryz.func281 Tryz.ntmps281 rfl (rs:= [.tmp 2]) rfl rfl fun hb LF=>?_
  have hlen:x.list.length≤140737488355328:=by
   have:=(hb (.agg (eSx x)) (by simp)).agg_at (c:= .slice (x.list.map eSx) .ro) (by rw[Fw];simp)
   exact this.slice_map
  refine DU fun b=>?_
  refine AW (fun h2=>?_) (fun h2=>?_)
  ·have hL:x.isList=false:=by simpa using h2
   rcases hw with ⟨_,h3,h4⟩|⟨h3,_⟩
   ·refine AZ ?_
    refine A6 (fun h5=>?_) (fun h5=>?_)
    ·rw[h3]at h5;simp at h5
    refine AZ ?_
    refine A6 (fun h6=>?_) (fun h6=>?_)
    ·omega
    refine AZ ?_
    exact B1 (.refl _)
   ·rw[hL]at h3;cases h3
  have hL:x.isList=true:=by simpa using h2
  rcases hw with ⟨h3,_⟩|⟨_,ha,hw⟩
  ·rw[hL]at h3;cases h3
  refine AZ ?_
  refine AX (fun h5=>?_) (fun h5=>?_)
  ·exact absurd ha h5
  refine AZ ?_
  refine Ab (σ:=Nat) (fun k=>k≤x.list.length) (fun k=>x.list.length - k) (fun k=> [(1,.raw (.pointer (some ⟨b,0,none⟩))),(3,.raw (.int .i64 k))]) (fun _=> .box b 196 (eSx x)::LF) 0 (by simp) ⟨rfl,rfl⟩ (.refl _) ?_
  intro k hk
  refine AZ ?_
  refine A6 (fun hc=>?_) (fun hc=>?_)
  ·have hlt:k < x.list.length:=by omega
   have:B0 (PE d x.list[k]):=⟨hw _ (AB hlt)⟩
   refine AZ ?_
   exact⟨k+1,by omega,by dsimp only;omega,⟨rfl,rfl⟩,.refl _⟩
  ·refine AZ ?_
   exact B1 (.refl _)
def pF (x:Sx):Prop:=PE 8 x∧Im 8 x≤20000
instance wJ (x:Sx) [hs:B0 (pF x)]:C8 Tryz.prog 221 [.agg (eSx x)] (.raw (.int .i64 0)):=⟨by
 obtain⟨h1,h2⟩:=hs.out
 have i1:C8 Tryz.prog 280 [.agg (eSx x),.raw (.int .i64 20000),.raw (.int .i64 12)] (.raw (.int .i64 (Im 8 x:Int))):=⟨aK 8 x 20000 12 h1 (by omega) (by omega) (by omega) (by omega)⟩
 have i2:C8 Tryz.prog 281 [.agg (eSx x)] (.raw (.int .i64 0)):=⟨aO 8 x h1⟩
 refine Av Tryz.func221 Tryz.ntmps221 rfl (rs:= [.tmp 2]) rfl rfl fun hb LF=>?_
 refine DU fun b=>?_
 refine A6 (fun h=>?_) (fun h=>?_)
 ·omega
 refine AZ ?_
 exact B1 (.refl _)⟩
theorem J3 {α β:Type} {l:List α} {f:α→List β} {k:Nat} (h:k < l.length):(l.take (k+1)).flatMap f=(l.take k).flatMap f++f l[k]:=by
 rw[A7 h,FK];simp
theorem JW {α β:Type} {l:List α} {f:α→List β} {k:Nat}:((l.take k).flatMap f).length≤(l.flatMap f).length:=by
 conv=>rhs;rw[←Bf k l,FK,AA]
 omega
theorem SC {α β:Type} {l:List α} {f:α→List β} {a:α} (h:a∈l):(f a).length≤(l.flatMap f).length:=by
 induction l with
 |nil=>cases h
 |cons x l ih=>
  rw[DR,AA]
  rcases AH.1 h with rfl|h
  ·omega
  ·have:=ih h;omega
theorem WH: ∀ (d:Nat) (x:Sx),PE d x→(Dq d x).length≤1000000000→Q.Fn Tryz.prog 222 [.agg (eSx x)] (.str (Dq d x))
 |0,x,hw,_=>hw.elim
 |d+1,x,hw,hl=>by
  have ih: ∀ (y:Sx),[B0 (PE d y∧(Dq d y).length≤1000000000)]→C8 Tryz.prog 222 [.agg (eSx y)] (.str (Dq d y)):=fun y h=>⟨WH d y h.out.1 h.out.2⟩
  refine Av Tryz.func222 Tryz.ntmps222 rfl (rs:= [.tmp 2]) rfl rfl fun hb LF=>?_
  have hlen:x.list.length≤140737488355328:=by
   have:=(hb (.agg (eSx x)) (by simp)).agg_at (c:= .slice (x.list.map eSx) .ro) (by rw[Fw];simp)
   exact this.slice_map
  refine DU fun b=>?_
  refine AW (fun h2=>?_) (fun h2=>?_)
  ·have hL:x.isList=false:=by simpa using h2
   rcases hw with ⟨_,h3,h4⟩|⟨h3,_⟩
   ·have:B0 (-140737488355328≤(x.atom.length:Int)∧(x.atom.length:Int)≤140737488355328):=⟨by omega,by omega⟩
    have hd:=Ou (n:=(x.atom.length:Int)) ⟨by omega,by omega⟩
    refine AZ ?_
    refine B1 (.of_eq ?_)
    have e:JH (x.atom.length:Int)=IH x.atom.length:=by
     rw[JH,if_neg (by omega)];rfl
    simp[Dq,hL,e]
   ·rw[hL]at h3;cases h3
  have hL:x.isList=true:=by simpa using h2
  rcases hw with ⟨h3,_⟩|⟨_,ha,hw⟩
  ·rw[hL]at h3;cases h3
  have he:Dq (d+1) x=40::(x.list.flatMap (Dq d)++ [41]):=by simp[Dq,hL]
  rw[he]at hl ⊢
  simp only[AL,AA,Af]at hl
  refine AZ ?_
  refine Ab (σ:=Nat × Str) (fun k=>k.1≤x.list.length∧k.2=40::(x.list.take k.1).flatMap (Dq d)) (fun k=>x.list.length - k.1) (fun k=> [(1,.raw (.pointer (some ⟨b,0,none⟩))),(3,.str k.2),(4,.raw (.int .i64 k.1))]) (fun _=> .box b 196 (eSx x)::LF) (0,[40]) ⟨by simp,by simp⟩ ⟨rfl,rfl,rfl⟩ (.refl _) ?_
  rintro⟨k,s⟩ ⟨hk,hs⟩
  dsimp only at hk hs
  have hsl:s.length≤1+(x.list.flatMap (Dq d)).length:=by
   rw[hs,AL]
   have:=JW (l:=x.list) (f:=Dq d) (k:=k)
   omega
  refine AZ ?_
  refine A6 (fun hc=>?_) (fun hc=>?_)
  ·have hlt:k < x.list.length:=by omega
   have hel:(Dq d x.list[k]).length≤(x.list.flatMap (Dq d)).length:=SC (AB hlt)
   have:B0 (PE d x.list[k]∧(Dq d x.list[k]).length≤1000000000):=⟨hw _ (AB hlt),by omega⟩
   refine AZ ?_
   refine⟨(k+1,s++Dq d x.list[k]),⟨by dsimp only;omega,?_⟩,by dsimp only;omega,⟨rfl,rfl,rfl⟩,.refl _⟩
   dsimp only
   rw[J3 hlt,hs,B3]
  ·refine AZ ?_
   refine B1 (.of_eq ?_)
   rw[hs,AF (by omega)];rfl
instance vK (x:Sx) [hs:B0 (pF x∧(Dq 8 x).length≤1000000000)]:C8 Tryz.prog 166 [.agg (eSx x)] (.tuple [.str (Dq 8 x),.raw (.int .i64 0)]):=⟨by
 obtain⟨h1,h2⟩:=hs.out
 have:B0 (pF x):=⟨h1⟩
 have i2:C8 Tryz.prog 222 [.agg (eSx x)] (.str (Dq 8 x)):=⟨WH 8 x h1.1 h2⟩
 refine Av Tryz.func166 Tryz.ntmps166 rfl (rs:= [.tmp 2,.tmp 3]) rfl rfl fun hb LF=>?_
 refine DU fun b=>?_
 refine HT ?_
 exact .refl _⟩
def K5 (c:Chg):List Sx:=if 2≤c.kind∧c.kind≤6 then [GI c.file]else []
def Ie (c:Chg):List Sx:=if c.kind=1 then [GJ c.type]else if c.kind=2 then [GI c.parent,Cf c.name]else if c.kind=3 then [GJ c.mode]else if c.kind=4 then [Cf c.data]else if c.kind=5∨c.kind=6 then [GI c.after,GI c.before]else []
def Ky (c:Chg):List Sx:=if c.kind=5 then [E6 (c.lines.map Cf)]else if c.kind≠1 then [JF c.over]else []
def Kr (c:Chg):Sx:=E6 (([GJ c.kind]++K5 c++Ie c)++Ky c)
theorem Ri (c:Chg):(K5 c).length≤1:=by unfold K5;split<;>simp
theorem Rh (c:Chg):(Ie c).length≤2:=by
 unfold Ie
 repeat' split
 all_goals simp
instance uu (c:Chg) [hs:B0 (c.lines.length≤100000∧c.over.length≤100000)]:C8 Tryz.prog 165 [.agg (eChg c)] (.agg (eSx (Kr c))):=⟨by
 refine Av Tryz.func165 Tryz.ntmps165 rfl (rs:= [.cell 2 196]) rfl rfl fun hb LF=>?_
 obtain⟨hl1,hl2⟩:=hs.out
 have i1:B0 (c.over.length≤1000000):=⟨by omega⟩
 have hc1:=Ri c
 have hc2:=Rh c
 refine av fun b=>?_
 refine Bx fun b2=>?_
 refine sl fun t=>?_
 refine BT [(17,.raw (.bool (decide (2≤c.kind∧c.kind≤6)))),(1,.raw (.pointer (some ⟨b,0,none⟩))),(2,.raw (.pointer (some ⟨b2,0,none⟩))),(3,.slice ([GJ c.kind].map eSx) t)] (.tok t [GJ c.kind].length 3:: .box b2 196 (eSx Sx.zero):: .box b 73 (eChg c)::LF) ?_ ?_
 ·repeat' (first|(refine A6 (fun h=>?_) (fun h=>?_)<;>refine AZ ?_)|(refine AX (fun h=>?_) (fun h=>?_)<;>refine AZ ?_)|(refine AW (fun h=>?_) (fun h=>?_)<;>refine AZ ?_)|(refine Ay (fun h=>?_) (fun h=>?_)<;>(have h2:=h;(try simp only[AD,A8,AI,AN]at h2);refine CH ?_)))
  all_goals (refine⟨⟨C9 (by rfl) ?_,rfl,rfl,rfl⟩,.refl _⟩;first|(simp_all;done)|(simp_all;omega)|grind)
 refine AZ ?_
 refine Cv (σ:=CC × List Sx) (fun s=>s.2= [GJ c.kind]++K5 c) (fun s=> [(1,.raw (.pointer (some ⟨b,0,none⟩))),(2,.raw (.pointer (some ⟨b2,0,none⟩))),(3,.slice (s.2.map eSx) s.1)]) (fun s=> .tok s.1 s.2.length 3:: .box b2 196 (eSx Sx.zero):: .box b 73 (eChg c)::LF) ?_ ?_
 ·refine A6 (fun h=>?_) (fun h=>?_)
  ·refine Hz fun t'=>?_
   exact⟨(t',[GJ c.kind]++ [GI c.file]),by dsimp only;rw[K5,if_pos h],⟨rfl,rfl,rfl⟩,.refl _⟩
  ·refine AZ ?_
   exact⟨(t,[GJ c.kind]),by dsimp only;rw[K5,if_neg h];rfl,⟨rfl,rfl,rfl⟩,.refl _⟩
 rintro⟨t,out⟩ ho
 dsimp only at ho
 have hol:out.length≤2:=by rw[ho,AA,Au];omega
 refine AZ ?_
 refine Cv (σ:=CC × List Sx) (fun s=>s.2= [GJ c.kind]++K5 c++Ie c) (fun s=> [(1,.raw (.pointer (some ⟨b,0,none⟩))),(2,.raw (.pointer (some ⟨b2,0,none⟩))),(3,.slice (s.2.map eSx) s.1)]) (fun s=> .tok s.1 s.2.length 3:: .box b2 196 (eSx Sx.zero):: .box b 73 (eChg c)::LF) ?_ ?_
 ·refine A6 (fun h1=>?_) (fun h1=>?_)
  ·refine Hz fun t'=>?_
   exact⟨(t',out++ [GJ c.type]),by dsimp only;rw[Ie,if_pos h1,ho],⟨rfl,rfl,rfl⟩,.refl _⟩
  refine AZ ?_
  refine A6 (fun h2=>?_) (fun h2=>?_)
  ·refine SQ ?_
   refine BZ 8 ?_ ?_
   ·decide+kernel
   refine IW fun t'=>?_
   exact⟨(t',out++ [GI c.parent,Cf c.name]),by dsimp only;rw[Ie,if_neg h1,if_pos h2,ho],⟨rfl,rfl,rfl⟩,.refl _⟩
  refine AZ ?_
  refine A6 (fun h3=>?_) (fun h3=>?_)
  ·refine Hz fun t'=>?_
   exact⟨(t',out++ [GJ c.mode]),by dsimp only;rw[Ie,if_neg h1,if_neg h2,if_pos h3,ho],⟨rfl,rfl,rfl⟩,.refl _⟩
  refine AZ ?_
  refine A6 (fun h4=>?_) (fun h4=>?_)
  ·refine Hz fun t'=>?_
   exact⟨(t',out++ [Cf c.data]),by dsimp only;rw[Ie,if_neg h1,if_neg h2,if_neg h3,if_pos h4,ho],⟨rfl,rfl,rfl⟩,.refl _⟩
  refine AZ ?_
  refine A6 (fun h5=>?_) (fun h5=>?_)
  ·refine SQ ?_
   refine Ke (t:=true) (by show PV.raw (.bool (decide (c.kind=5)))=_;rw[BF h5]) (fun _=>?_) (by simp)
   refine SQ ?_
   refine BZ 8 ?_ ?_
   ·decide+kernel
   refine IW fun t'=>?_
   exact⟨(t',out++ [GI c.after,GI c.before]),by dsimp only;rw[Ie,if_neg h1,if_neg h2,if_neg h3,if_neg h4,if_pos (.inl h5),ho],⟨rfl,rfl,rfl⟩,.refl _⟩
  refine AZ ?_
  refine A6 (fun h6=>?_) (fun h6=>?_)
  ·refine SQ ?_
   refine BZ 8 ?_ ?_
   ·decide+kernel
   refine IW fun t'=>?_
   exact⟨(t',out++ [GI c.after,GI c.before]),by dsimp only;rw[Ie,if_neg h1,if_neg h2,if_neg h3,if_neg h4,if_pos (.inr h6),ho],⟨rfl,rfl,rfl⟩,.refl _⟩
  ·refine AZ ?_
   exact⟨(t,out),by dsimp only;rw[Ie,if_neg h1,if_neg h2,if_neg h3,if_neg h4,if_neg (by rintro(h|h);exact h5 h;exact h6 h),BW,ho],⟨rfl,rfl,rfl⟩,.refl _⟩
 clear ho hol
 rintro⟨t,out⟩ ho
 dsimp only at ho
 have hol:out.length≤4:=by rw[ho,AA,AA,Au];omega
 refine AZ ?_
 refine A6 (fun h5=>?_) (fun h5=>?_)
 ·refine AZ ?_
  refine EO 3 ?_
  refine Ab (σ:=Nat × CC × List Sx) (fun k=>k.1≤c.lines.length∧k.2.2=(c.lines.take k.1).map Cf) (fun k=>c.lines.length - k.1) (fun k=> [(1,.raw (.pointer (some ⟨b,0,none⟩))),(2,.raw (.pointer (some ⟨b2,0,none⟩))),(3,.slice (out.map eSx) t),(4,.slice (k.2.2.map eSx) k.2.1),(5,.raw (.int .i64 k.1))]) (fun k=> .tok k.2.1 k.2.2.length 3:: .tok t out.length 3:: .box b2 196 (eSx Sx.zero):: .box b 73 (eChg c)::LF) (0,.nil,[]) ⟨by simp,by simp⟩ ⟨rfl,rfl,rfl,rfl,rfl⟩ (.refl _) ?_
  rintro⟨k,v,l⟩ ⟨hk,he⟩
  dsimp only at hk he
  have hll:l.length=k:=by rw[he];simp;omega
  refine AZ ?_
  refine A6 (fun hc=>?_) (fun hc=>?_)
  ·have hlt:k < c.lines.length:=by omega
   refine Hz fun v'=>?_
   refine⟨(k+1,v',l++ [Cf c.lines[k]]),⟨by dsimp only;omega,?_⟩,by dsimp only;omega,⟨rfl,rfl,rfl,rfl,rfl⟩,.refl _⟩
   dsimp only
   rw[A7 hlt,Aq,he];rfl
  ·refine Hz fun v'=>?_
   refine Fv rfl (.of_eq ?_)
   rw[AF (by omega)]at he
   rw[Kr,Ky,if_pos h5,←he,ho]
 ·refine AZ ?_
  refine AX (fun h6=>?_) (fun h6=>?_)
  ·refine Hz fun v'=>?_
   refine Fv rfl (.of_eq ?_)
   rw[Kr,Ky,if_neg h5,if_pos h6,ho]
  ·refine AZ ?_
   refine Fv rfl (.of_eq ?_)
   rw[Kr,Ky,if_neg h5,if_neg (by simp[h6]),BW,ho]⟩
def XA (p:Pat):Sx:=E6 [Cf [113,117,105,108,116,49],Cf p.author,Cf p.message,GJ p.time,E6 (p.deps.map KE),E6 (p.changes.map Kr)]
def Nk (p:Pat):Str:=Dq 8 (XA p)
structure WI (p:Pat):Prop where
 deps:p.deps.length≤100000
 chgs:p.changes.length≤100000
 chg: ∀ c∈p.changes,c.lines.length≤100000∧c.over.length≤100000
 ok:pF (XA p)
 len:(Nk p).length≤1000000000
def KG (p:Pat):Str × Int:=if 65536 < ((Nk p).length:Int)then([],4)else(Nk p,0)
instance um (p:Pat) [hs:B0 (WI p)]:C8 Tryz.prog 114 [.agg (Bn p)] (.tuple [.str (KG p).1,.raw (.int .i64 (KG p).2)]):=⟨by
 refine Av Tryz.func114 Tryz.ntmps114 rfl (rs:= [.tmp 2,.tmp 3]) rfl rfl fun hb LF=>?_
 have hd:=hs.out.deps
 have hch:=hs.out.chgs
 refine DU fun b=>?_
 refine EO 3 ?_
 refine EO 3 ?_
 refine Ab (σ:=Nat × CC × List Sx) (fun k=>k.1≤p.deps.length∧k.2.2=(p.deps.take k.1).map KE) (fun k=>p.deps.length - k.1) (fun k=> [(1,.raw (.pointer (some ⟨b,0,none⟩))),(4,.slice (k.2.2.map eSx) k.2.1),(5,.slice [] .nil),(6,.raw (.int .i64 k.1))]) (fun k=> .tok k.2.1 k.2.2.length 3:: .tok .nil 0 3:: .box b 40 (Bn p)::LF) (0,.nil,[]) ⟨by simp,by simp⟩ ⟨rfl,rfl,rfl,rfl⟩ (.refl _) ?_
 rintro⟨k,v,l⟩ ⟨hk,he⟩
 dsimp only at hk he
 have hll:l.length=k:=by rw[he];simp;omega
 refine AZ ?_
 refine A6 (fun hc=>?_) (fun hc=>?_)
 ·have hlt:k < p.deps.length:=by omega
  refine Hz fun v'=>?_
  refine⟨(k+1,v',l++ [KE p.deps[k]]),⟨by dsimp only;omega,?_⟩,by dsimp only;omega,⟨rfl,rfl,rfl,rfl⟩,.refl _⟩
  dsimp only
  rw[A7 hlt,Aq,he];rfl
 rw[AF (by omega)]at he
 clear hll
 refine AZ ?_
 refine Ab (σ:=Nat × CC × List Sx) (fun k=>k.1≤p.changes.length∧k.2.2=(p.changes.take k.1).map Kr) (fun k=>p.changes.length - k.1) (fun k=> [(1,.raw (.pointer (some ⟨b,0,none⟩))),(4,.slice (l.map eSx) v),(5,.slice (k.2.2.map eSx) k.2.1),(7,.raw (.int .i64 k.1))]) (fun k=> .tok k.2.1 k.2.2.length 3:: .box b 40 (Bn p)::LF) (0,.nil,[]) ⟨by simp,by simp⟩ ⟨rfl,rfl,rfl,rfl⟩ (.cons _ (.refl _)) ?_
 rintro⟨k,v,m⟩ ⟨hk,hm⟩
 dsimp only at hk hm
 have hml:m.length=k:=by rw[hm];simp;omega
 refine AZ ?_
 refine A6 (fun hc=>?_) (fun hc=>?_)
 ·have hlt:k < p.changes.length:=by omega
  have:B0 (p.changes[k].lines.length≤100000∧p.changes[k].over.length≤100000):=⟨hs.out.chg _ (AB hlt)⟩
  refine Hz fun v'=>?_
  refine⟨(k+1,v',m++ [Kr p.changes[k]]),⟨by dsimp only;omega,?_⟩,by dsimp only;omega,⟨rfl,rfl,rfl,rfl⟩,.refl _⟩
  dsimp only
  rw[A7 hlt,Aq,hm];rfl
 rw[AF (by omega)]at hm
 have e:XA p=E6 [Cf [113,117,105,108,116,49],Cf p.author,Cf p.message,GJ p.time,E6 l,E6 m]:=by rw[XA,←he,←hm]
 have i1:B0 (pF (E6 [Cf [113,117,105,108,116,49],Cf p.author,Cf p.message,GJ p.time,E6 l,E6 m])∧(Dq 8 (E6 [Cf [113,117,105,108,116,49],Cf p.author,Cf p.message,GJ p.time,E6 l,E6 m])).length≤1000000000):=by
  rw[←e];exact⟨hs.out.ok,hs.out.len⟩
 refine AZ ?_
 refine A6 (fun h=>?_) (fun h=>?_)
 ·refine AZ ?_
  refine HT ?_
  rw[←e]at h
  have h':65536 < ((Nk p).length:Int):=h
  rw[KG,if_pos h']
  exact .refl _
 ·refine AZ ?_
  refine HT ?_
  rw[←e]at h
  have h': ¬65536 < ((Nk p).length:Int):=h
  rw[KG,if_neg h',Nk,e]
  exact .refl _⟩
end Go.Proofs
