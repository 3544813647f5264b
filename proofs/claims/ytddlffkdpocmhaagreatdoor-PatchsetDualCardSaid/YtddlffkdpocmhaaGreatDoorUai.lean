/- Contracts of the program: the fields of changes, the description of a patch. -/
import Derived.Test.YtddlffkdpocmhaaGreatDoorUah
import Derived.Test.YtddlffkdpocmhaaGreatDoorUag
import Derived.Lib.UnsafeStr
import Derived.Lib.Builder
import Derived.Test.YtddlffkdpocmhaaGreatDoorProg
import Derived.Shelf.LaysM
import Derived.Shelf.Strconv.Itoa3
import Derived.Shelf.SlSortCmp.NoneTotal
import Derived.Shelf.SlGeneric
import Derived.Ground.SlsfProg
set_option linter.unusedSimpArgs false
set_option linter.unusedVariables false
namespace Go.Proofs
open Go Go.Q
attribute [local irreducible] pwp pops PCalls OpN
def rFieldsP (c:Chg):Int:=
 if c.kind < 1∨7 < c.kind then 8 else
 if rTidy c=false then 1 else
 if c.kind=1∧(c.type < 1∨4 < c.type)then 8 else
 if c.kind=2∧rName c.name=false then 5 else
 if c.mode < 0∨511 < c.mode then 2 else
 if 65536 < (c.data.length:Int)then 4 else
 if c.kind=5∧(c.lines.length:Int)=0 then 1 else
 if 2000 < (c.lines.length:Int)then 4 else
 if c.lines.all rValid=false then 3 else
 if c.kind=7∧(c.over.length:Int)=0 then 1 else
 if 400 < (c.over.length:Int)then 4 else
 if rAsc c.over=false then 9 else 0
theorem tidy_eq (c:Chg) (h1:1≤c.kind) (h2:c.kind≤7):rTidy c=rEmpty (rRest c):=by
 have hk:c.kind=1∨c.kind=2∨c.kind=3∨c.kind=4∨c.kind=5∨c.kind=6∨c.kind=7:=by omega
 unfold rTidy rTidy1 rTidy2 rTidy3 rTidy4 rTidy5 rTidy6 rTidy7 rTidy8 rEmpty rRest
 rcases hk with h|h|h|h|h|h|h<;>simp[h]<;>grind
theorem fieldsP_eq (c:Chg):rFieldsP c=rFields c:=by
 unfold rFieldsP rFields
 by_cases h1:c.kind < 1∨7 < c.kind
 ·rw[if_pos h1,if_pos h1]
 rw[if_neg h1,if_neg h1,tidy_eq c (by omega) (by omega)]
 by_cases h2:rEmpty (rRest c)=false
 ·rw[if_pos h2,if_pos h2]
 rw[if_neg h2,if_neg h2]
 have h2:rEmpty (rRest c)=true:=by simpa using h2
 by_cases h3:c.kind=1∧(c.type < 1∨4 < c.type)
 ·rw[if_pos h3,if_pos h3]
 rw[if_neg h3,if_neg h3]
 by_cases h4:c.kind=2∧rName c.name=false
 ·rw[if_pos h4,if_pos h4]
 rw[if_neg h4,if_neg h4]
 have hmode:c.kind≠3→c.mode=0:=fun h=>by
  unfold rEmpty rRest at h2
  simp only[Bool.and_eq_true,decide_eq_true_eq,h,if_false]at h2
  exact h2.1.1.1.1.1.2
 by_cases h5:c.kind=3∧(c.mode < 0∨511 < c.mode)
 ·rw[if_pos h5.2,if_pos h5]
 rw[if_neg (fun h=>h5 ⟨by
  by_cases e:c.kind=3
  ·exact e
  ·have:=hmode e;omega,h⟩),if_neg h5]
 by_cases h6:65536 < (c.data.length:Int)
 ·rw[if_pos h6,if_pos h6]
 rw[if_neg h6,if_neg h6]
 by_cases h7:c.kind=5
 ·have hov:c.over.length=0:=by
   unfold rEmpty rRest at h2
   simp only[Bool.and_eq_true,decide_eq_true_eq,h7]at h2
   have:=h2.2
   simp at this
   simp[this]
  have ho:c.over= []:=List.eq_nil_of_length_eq_zero hov
  rw[if_pos h7,rLines]
  by_cases h8:(c.lines.length:Int)=0
  ·rw[if_pos ⟨h7,h8⟩,if_pos h8]
  rw[if_neg (fun h=>h8 h.2),if_neg h8]
  by_cases h9:2000 < (c.lines.length:Int)
  ·rw[if_pos h9,if_pos h9]
  rw[if_neg h9,if_neg h9]
  by_cases h10:c.lines.all rValid=true
  ·rw[if_neg (by simp[h10]),if_pos h10,if_neg (fun h=>by omega),if_neg (by omega),ho];rfl
  ·rw[if_pos (by simpa using h10),if_neg h10]
 ·have hl:c.lines= []:=by
   unfold rEmpty rRest at h2
   simp only[Bool.and_eq_true,decide_eq_true_eq,h7,if_false]at h2
   exact List.eq_nil_of_length_eq_zero (by have:=h2.1.2;omega)
  rw[if_neg h7,if_neg (fun h=>h7 h.1),hl,if_neg (by simp),if_neg (by simp)]
set_option maxHeartbeats 4000000 in
theorem checkFields_fn (c:Chg):Q.Fn Tryz.prog 168 [.agg (eChg c)] (.raw (.int .i64 (rFieldsP c))):=by
 refine fn_of Tryz.func168 Tryz.ntmps168 rfl (rs:= [.tmp 2]) rfl rfl fun hb LF=>?_
 have hagg:Bd (.agg (eChg c)):=hb _ (by simp)
 have hlines:c.lines.length≤140737488355328:=(hagg.agg_at (c:= .slice (c.lines.map eS) .ro) (by simp[eChg])).slice_map
 have hover:c.over.length≤140737488355328:=(hagg.agg_at (c:= .slice (c.over.map eIdent) .ro) (by simp[eChg])).slice_map
 refine wf ?_
 refine pops_cutE [(6,.raw (.bool (decide (c.kind < 1∨7 < c.kind)))),(1,.pt (eChg c) 0)] (LF) ?_ ?_
 ·repeat' (first|(refine pwp_condD (fun h=>?_) (fun h=>?_)<;>refine wf ?_)|(refine pwp_condN (fun h=>?_) (fun h=>?_)<;>refine wf ?_)|(refine pwp_condB (fun h=>?_) (fun h=>?_)<;>refine wf ?_)|(refine pops_if (fun h=>?_) (fun h=>?_)<;>(have h2:=h;(try simp only[decide_eq_true_eq,decide_eq_false_iff_not,Bool.not_eq_true',Bool.not_eq_false']at h2);refine wf ?_)))
  all_goals (refine⟨⟨holdsB (by rfl) ?_,rfl⟩,.refl _⟩;first|(simp_all;done)|grind)
 refine wf ?_
 refine pwp_condD (fun h=>?_) (fun h=>?_)
 ·refine wf ?_
  refine end1 (.of_eq ?_)
  rw[rFieldsP,if_pos h]
 rw[rFieldsP,if_neg h]
 refine wf ?_
 refine pwp_condB (fun h=>?_) (fun h=>?_)
 ·refine wf ?_
  refine end1 (.of_eq ?_)
  rw[if_pos (by simpa using h)]
 rw[if_neg (by simpa using h)]
 refine wf ?_
 refine pops_cutE [(19,.raw (.bool (decide (c.kind=1∧(c.type < 1∨4 < c.type))))),(1,.pt (eChg c) 0)] (LF) ?_ ?_
 ·repeat' (first|(refine pwp_condD (fun h=>?_) (fun h=>?_)<;>refine wf ?_)|(refine pwp_condN (fun h=>?_) (fun h=>?_)<;>refine wf ?_)|(refine pwp_condB (fun h=>?_) (fun h=>?_)<;>refine wf ?_)|(refine pops_if (fun h=>?_) (fun h=>?_)<;>(have h2:=h;(try simp only[decide_eq_true_eq,decide_eq_false_iff_not,Bool.not_eq_true',Bool.not_eq_false']at h2);refine wf ?_)))
  all_goals (refine⟨⟨holdsB (by rfl) ?_,rfl⟩,.refl _⟩;first|(simp_all;done)|grind)
 refine wf ?_
 refine pwp_condD (fun h=>?_) (fun h=>?_)
 ·refine wf ?_
  refine end1 (.of_eq ?_)
  rw[if_pos h]
 rw[if_neg h]
 refine wf ?_
 refine pops_cutE [(33,.raw (.bool (decide (c.kind=2∧rName c.name=false)))),(1,.pt (eChg c) 0)] (LF) ?_ ?_
 ·repeat' (first|(refine pwp_condD (fun h=>?_) (fun h=>?_)<;>refine wf ?_)|(refine pwp_condN (fun h=>?_) (fun h=>?_)<;>refine wf ?_)|(refine pwp_condB (fun h=>?_) (fun h=>?_)<;>refine wf ?_)|(refine pops_if (fun h=>?_) (fun h=>?_)<;>(have h2:=h;(try simp only[decide_eq_true_eq,decide_eq_false_iff_not,Bool.not_eq_true',Bool.not_eq_false']at h2);refine wf ?_)))
  all_goals (refine⟨⟨holdsB (by rfl) ?_,rfl⟩,.refl _⟩;first|(simp_all;done)|grind)
 refine wf ?_
 refine pwp_condD (fun h=>?_) (fun h=>?_)
 ·refine wf ?_
  refine end1 (.of_eq ?_)
  rw[if_pos h]
 rw[if_neg h]
 refine wf ?_
 refine pops_cutE [(43,.raw (.bool (decide (c.mode < 0∨511 < c.mode)))),(1,.pt (eChg c) 0)] (LF) ?_ ?_
 ·repeat' (first|(refine pwp_condD (fun h=>?_) (fun h=>?_)<;>refine wf ?_)|(refine pwp_condN (fun h=>?_) (fun h=>?_)<;>refine wf ?_)|(refine pwp_condB (fun h=>?_) (fun h=>?_)<;>refine wf ?_)|(refine pops_if (fun h=>?_) (fun h=>?_)<;>(have h2:=h;(try simp only[decide_eq_true_eq,decide_eq_false_iff_not,Bool.not_eq_true',Bool.not_eq_false']at h2);refine wf ?_)))
  all_goals (refine⟨⟨holdsB (by rfl) ?_,rfl⟩,.refl _⟩;first|(simp_all;done)|grind)
 refine wf ?_
 refine pwp_condD (fun h=>?_) (fun h=>?_)
 ·refine wf ?_
  refine end1 (.of_eq ?_)
  rw[if_pos h]
 rw[if_neg h]
 refine wf ?_
 refine pwp_condD (fun h=>?_) (fun h=>?_)
 ·refine wf ?_
  refine end1 (.of_eq ?_)
  rw[if_pos h]
 rw[if_neg h]
 refine wf ?_
 refine pops_cutE [(57,.raw (.bool (decide (c.kind=5∧(c.lines.length:Int)=0)))),(1,.pt (eChg c) 0)] (LF) ?_ ?_
 ·repeat' (first|(refine pwp_condD (fun h=>?_) (fun h=>?_)<;>refine wf ?_)|(refine pwp_condN (fun h=>?_) (fun h=>?_)<;>refine wf ?_)|(refine pwp_condB (fun h=>?_) (fun h=>?_)<;>refine wf ?_)|(refine pops_if (fun h=>?_) (fun h=>?_)<;>(have h2:=h;(try simp only[decide_eq_true_eq,decide_eq_false_iff_not,Bool.not_eq_true',Bool.not_eq_false']at h2);refine wf ?_)))
  all_goals (refine⟨⟨holdsB (by rfl) ?_,rfl⟩,.refl _⟩;first|(simp_all;done)|grind)
 refine wf ?_
 refine pwp_condD (fun h=>?_) (fun h=>?_)
 ·refine wf ?_
  refine end1 (.of_eq ?_)
  rw[if_pos h]
 rw[if_neg h]
 refine wf ?_
 refine pwp_condD (fun h=>?_) (fun h=>?_)
 ·refine wf ?_
  refine end1 (.of_eq ?_)
  rw[if_pos h]
 rw[if_neg h]
 refine wf ?_
 refine pwp_loopS (σ:=Nat) (fun k=>k≤c.lines.length∧ ∀ i (h:i < c.lines.length),i < k→rValid c.lines[i]=true) (fun k=>c.lines.length - k) (fun k=> [(1,.pt (eChg c) 0),(73,.slice (c.lines.map eS) .ro),(74,.raw (.int .i64 c.lines.length)),(75,.raw (.int .i64 k))]) (fun _=>LF) 0 ⟨by simp,by simp⟩ ⟨rfl,rfl,rfl,rfl⟩ (.refl _) ?_
 rintro k ⟨hk,he⟩
 refine wf ?_
 refine pwp_condD (fun hc=>?_) (fun hc=>?_)
 ·have hlt:k < c.lines.length:=by omega
  refine wf ?_
  refine pwp_condB (fun h=>?_) (fun h=>?_)
  ·refine wf ?_
   refine end1 (.of_eq ?_)
   have:rValid c.lines[k]=false:=by simpa using h
   rw[if_pos (all_false_of hlt this)]
  ·refine wf ?_
   exact⟨k+1,⟨by omega,upto_succ he hlt (by simpa using h)⟩,by dsimp only;omega,⟨rfl,rfl,rfl,rfl⟩,.refl _⟩
 have hall:c.lines.all rValid=true:=all_true_of fun i h=>he i h (by omega)
 rw[if_neg (by simp[hall])]
 clear he hk hc
 refine wf ?_
 refine pops_cutE [(83,.raw (.bool (decide (c.kind=7∧(c.over.length:Int)=0)))),(1,.pt (eChg c) 0)] (LF) ?_ ?_
 ·repeat' (first|(refine pwp_condD (fun h=>?_) (fun h=>?_)<;>refine wf ?_)|(refine pwp_condN (fun h=>?_) (fun h=>?_)<;>refine wf ?_)|(refine pwp_condB (fun h=>?_) (fun h=>?_)<;>refine wf ?_)|(refine pops_if (fun h=>?_) (fun h=>?_)<;>(have h2:=h;(try simp only[decide_eq_true_eq,decide_eq_false_iff_not,Bool.not_eq_true',Bool.not_eq_false']at h2);refine wf ?_)))
  all_goals (refine⟨⟨holdsB (by rfl) ?_,rfl⟩,.refl _⟩;first|(simp_all;done)|grind)
 refine wf ?_
 refine pwp_condD (fun h=>?_) (fun h=>?_)
 ·refine wf ?_
  refine end1 (.of_eq ?_)
  rw[if_pos h]
 rw[if_neg h]
 refine wf ?_
 refine pwp_condD (fun h=>?_) (fun h=>?_)
 ·refine wf ?_
  refine end1 (.of_eq ?_)
  rw[if_pos h]
 rw[if_neg h]
 refine wf ?_
 refine pwp_loopS (σ:=Nat) (fun k=>1≤k∧ ∀ i,i+1 < k→i+1 < c.over.length→cmpI (c.over.getD i Ident.zero) (c.over.getD (i+1) Ident.zero) < 0) (fun k=>c.over.length - k) (fun k=> [(1,.pt (eChg c) 0),(5,.raw (.int .i64 k))]) (fun _=>LF) 1 ⟨by simp,fun i h=>by omega⟩ ⟨rfl,rfl⟩ (.refl _) ?_
 rintro k ⟨hk,he⟩
 refine wf ?_
 refine pwp_condD (fun hc=>?_) (fun hc=>?_)
 ·obtain⟨j,rfl⟩: ∃ j,k=j+1:=⟨k - 1,by omega⟩
  refine wf ?_
  have e:((↑(j+1):Int) - 1).toNat=j:=by omega
  have hj:j+1 < c.over.length:=by omega
  refine pwp_condD (fun h1=>?_) (fun h1=>?_)
  ·refine wf ?_
   refine end1 (.of_eq ?_)
   simp only[e]at h1
   have:rAsc c.over=false:=by
    unfold rAsc
    rw[List.all_eq_false]
    refine⟨j,List.mem_range.2 (by omega),?_⟩
    simp only[decide_eq_true_eq,List.getD_eq_getElem?_getD,List.getElem?_eq_getElem hj,List.getElem?_eq_getElem (show j < c.over.length by omega),Option.getD_some]
    omega
   rw[if_pos this]
  ·refine wf ?_
   simp only[e]at h1
   refine⟨j+1+1,⟨by omega,fun i h2 h3=>?_⟩,by dsimp only;omega,⟨rfl,rfl⟩,.refl _⟩
   rcases Nat.lt_or_ge (i+1) (j+1)with h'|h'
   ·exact he i h' h3
   ·have:i=j:=by omega
    subst this
    simp only[List.getD_eq_getElem?_getD,List.getElem?_eq_getElem hj,List.getElem?_eq_getElem (show i < c.over.length by omega),Option.getD_some]
    omega
 ·refine wf ?_
  refine end1 (.of_eq ?_)
  have:rAsc c.over=true:=by
   unfold rAsc
   rw[List.all_eq_true]
   intro i hi
   rw[List.mem_range]at hi
   exact decide_eq_true (he i (by omega) (by omega))
  rw[if_neg (by simp[this])]
instance checkFields_ct (c:Chg):FnC Tryz.prog 168 [.agg (eChg c)] (.raw (.int .i64 (rFields c))):=⟨by rw[←fieldsP_eq];exact checkFields_fn c⟩
def rHead (p:Pat):Int:=
 if rName p.author=false then 5 else if 1000 < (p.message.length:Int)then 4 else if p.time < 0∨1099511627776 < p.time then 2 else
 if rDeps p.deps≠0 then rDeps p.deps else if(p.changes.length:Int)=0 then 1 else if 400 < (p.changes.length:Int)then 4 else 0
theorem checkP_head (p:Pat):rCheckP p=if rHead p≠0 then([],rHead p)else rChanges p.changes []:=by
 unfold rCheckP rHead
 generalize rDeps p.deps=e
 generalize rChanges p.changes []=r
 by_cases h1:rName p.author=false<;>by_cases h2:1000 < (p.message.length:Int)<;>by_cases h3:p.time < 0∨1099511627776 < p.time<;>by_cases h4:e=0<;>by_cases h5:(p.changes.length:Int)=0<;>by_cases h6:400 < (p.changes.length:Int)<;>simp only[h1,h2,h3,h4,h5,h6,if_true,if_false,ne_eq,not_true_eq_false,not_false_eq_true]<;>first|rfl|simp[h4]|simp
set_option maxHeartbeats 4000000 in
instance head_ct (p:Pat):FnC Tryz.prog 167 [.agg (ePat p)] (.raw (.int .i64 (rHead p))):=⟨by
 refine fn_of Tryz.func167 Tryz.ntmps167 rfl (rs:= [.tmp 2]) rfl rfl fun hb LF=>?_
 have hagg:Bd (.agg (ePat p)):=hb _ (by simp)
 have hdeps:p.deps.length≤140737488355328:=(hagg.agg_at (c:= .slice (p.deps.map eDig) .ro) (by simp[ePat])).slice_map
 have hdr:rDeps p.deps=if 100 < (p.deps.length:Int)then 4 else firstErr (rDepE p.deps) (List.range p.deps.length):=rfl
 refine wf ?_
 refine pwp_condB (fun h=>?_) (fun h=>?_)
 ·refine wf ?_
  refine end1 (.of_eq ?_)
  rw[rHead,if_pos (by simpa using h)]
 rw[rHead,if_neg (by simpa using h)]
 refine wf ?_
 refine pwp_condD (fun h=>?_) (fun h=>?_)
 ·refine wf ?_
  refine end1 (.of_eq ?_)
  rw[if_pos h]
 rw[if_neg h]
 refine wf ?_
 refine pops_cutE [(16,.raw (.bool (decide (p.time < 0∨1099511627776 < p.time)))),(1,.pt (ePat p) 0)] (LF) ?_ ?_
 ·repeat' (first|(refine pwp_condD (fun h=>?_) (fun h=>?_)<;>refine wf ?_)|(refine pwp_condN (fun h=>?_) (fun h=>?_)<;>refine wf ?_)|(refine pwp_condB (fun h=>?_) (fun h=>?_)<;>refine wf ?_)|(refine pops_if (fun h=>?_) (fun h=>?_)<;>(have h2:=h;(try simp only[decide_eq_true_eq,decide_eq_false_iff_not,Bool.not_eq_true',Bool.not_eq_false']at h2);refine wf ?_)))
  all_goals (refine⟨⟨holdsB (by rfl) ?_,rfl⟩,.refl _⟩;first|(simp_all;done)|grind)
 refine wf ?_
 refine pwp_condD (fun h=>?_) (fun h=>?_)
 ·refine wf ?_
  refine end1 (.of_eq ?_)
  rw[if_pos h]
 rw[if_neg h]
 refine wf ?_
 refine pwp_condD (fun h=>?_) (fun h=>?_)
 ·refine wf ?_
  refine end1 (.of_eq ?_)
  rw[hdr,if_pos h,if_pos (by decide)]
 rw[if_neg h]at hdr
 refine wf ?_
 refine pwp_loopS (σ:=Nat) (fun k=>k≤p.deps.length∧ ∀ i (h:i < (List.range p.deps.length).length),i < k→rDepE p.deps (List.range p.deps.length)[i]=0) (fun k=>p.deps.length - k) (fun k=> [(1,.pt (ePat p) 0),(31,.slice (p.deps.map eDig) .ro),(32,.raw (.int .i64 p.deps.length)),(33,.raw (.int .i64 k))]) (fun _=>LF) 0 ⟨by simp,by simp⟩ ⟨rfl,rfl,rfl,rfl⟩ (.refl _) ?_
 rintro k ⟨hk,he⟩
 refine wf ?_
 refine pwp_condD (fun hc=>?_) (fun hc=>?_)
 ·have hlt:k < p.deps.length:=by omega
  have hltr:k < (List.range p.deps.length).length:=by simpa using hlt
  have ek:(List.range p.deps.length)[k]=k:=by simp
  have e0:p.deps.getD k Dig.zero=p.deps[k]:=by simp[List.getD,hlt]
  refine wz fun b4=>?_
  refine pwp_freezeD 4 ?_
  refine wf ?_
  refine pwp_condD (fun h2=>?_) (fun h2=>?_)
  ·refine wf ?_
   refine end1 (.of_eq ?_)
   have e:rDepE p.deps (List.range p.deps.length)[k]=1:=by rw[ek,rDepE,e0,if_pos h2]
   have e3:rDeps p.deps=1:=by rw[hdr,firstErr_at hltr he (by rw[e];decide),e]
   rw[e3];rfl
  refine wf ?_
  refine pops_if (fun hp=>?_) (fun hp=>?_)
  ·have hp':0 < (k:Int):=of_decide_eq_true hp
   refine wf ?_
   have e1:p.deps.getD (k - 1) Dig.zero=p.deps[((k:Int) - 1).toNat]:=by
    have:((k:Int) - 1).toNat=k - 1:=by omega
    simp only[this]
    have h':k - 1 < p.deps.length:=by omega
    simp[List.getD,h']
   refine pwp_condD (fun h3=>?_) (fun h3=>?_)
   ·refine wf ?_
    refine end1 (.of_eq ?_)
    have e:rDepE p.deps (List.range p.deps.length)[k]=9:=by rw[ek,rDepE,e0,e1,if_neg h2,if_pos ⟨hp',h3⟩]
    have e3:rDeps p.deps=9:=by rw[hdr,firstErr_at hltr he (by rw[e];decide),e]
    rw[e3];rfl
   ·refine wf ?_
    have e:rDepE p.deps (List.range p.deps.length)[k]=0:=by rw[ek,rDepE,e0,e1,if_neg h2,if_neg (fun h=>h3 h.2)]
    exact⟨k+1,⟨by omega,upto_succ0 he hltr e⟩,by dsimp only;omega,⟨rfl,rfl,rfl,rfl⟩,.refl _⟩
  ·have hp': ¬0 < (k:Int):=of_decide_eq_false hp
   refine wf ?_
   have e:rDepE p.deps (List.range p.deps.length)[k]=0:=by rw[ek,rDepE,e0,if_neg h2,if_neg (fun h=>hp' h.1)]
   exact⟨k+1,⟨by omega,upto_succ0 he hltr e⟩,by dsimp only;omega,⟨rfl,rfl,rfl,rfl⟩,.refl _⟩
 have e3:rDeps p.deps=0:=by rw[hdr,firstErr_zero fun i h=>he i h (by simp at h;omega)]
 rw[if_neg (by simp[e3])]
 refine wf ?_
 refine pwp_condD (fun h=>?_) (fun h=>?_)
 ·refine wf ?_
  refine end1 (.of_eq ?_)
  rw[if_pos h]
 rw[if_neg h]
 refine wf ?_
 refine pwp_condD (fun h=>?_) (fun h=>?_)
 ·refine wf ?_
  refine end1 (.of_eq ?_)
  rw[if_pos h]
 ·refine wf ?_
  refine end1 (.of_eq ?_)
  rw[if_neg h]⟩
end Go.Proofs
namespace Go.Proofs
open Go Go.Q
attribute [local irreducible] pwp pops PCalls OpN
structure Rfc where
 id:Ident
 f:Nat
 cs:List PV
def eRfc (r:Rfc):List PV:=eIdent r.id++ [.clo r.f r.cs]
@[simp] theorem len_eRfc (r:Rfc):(eRfc r).length=34:=by unfold eRfc;simp
instance :Len eRfc 34:=⟨len_eRfc⟩
instance (r:Rfc):Flat (eRfc r):=by unfold eRfc;infer_instance
instance :FlatF eRfc:=⟨fun r=>(inferInstance:Flat (eRfc r)).out⟩
instance (x:Ident) (f:Nat) (cs:List PV):EncC (.agg (eIdent x++ [.clo f cs])) eRfc ⟨x,f,cs⟩:=⟨Cells.agg _⟩
instance (x y:Ident) (z:PV):Put (eIdent x++ [z]) 0 (eIdent y) (eIdent y++ [z]):=put_here (by simp)
instance (x:Ident) (y z:PV):Put (eIdent x++ [y]) 33 [z] (eIdent x++ [z]):=put_skip (n:=33) (off:=0) (by simp) (put_last (by simp))
instance (r:Rfc):Fld (eRfc r) 0 (eIdent r.id):=by unfold eRfc;exact fld_here
instance (r:Rfc):Fld (eRfc r) 33 [.clo r.f r.cs]:=by unfold eRfc;exact fld_skip (n:=33) (off:=0) (by simp) fld_last
instance :LenIs (eIdent Ident.zero++ [.raw .nilFunc]) 34:=⟨by simp⟩
instance :ZeroE Tryz.prog 139 (eIdent Ident.zero++ [.raw .nilFunc]):=ZeroE.of (us:=(eIdent Ident.zero++ [PV.raw .nilFunc]).map zv) (by kernel_rfl) (by kernel_rfl)
instance :ZeroE Tryz.prog 155 (eIdent Ident.zero++ [.raw .nilFunc]):=ZeroE.of (us:=(eIdent Ident.zero++ [PV.raw .nilFunc]).map zv) (by kernel_rfl) (by kernel_rfl)
instance :ZeroE Tryz.prog 152 [.slice [] .nil]:=zero1 (v:= .slice none 0 0) (by kernel_rfl) rfl fun _=> .nilN none (by simp)
structure Fits (P:Program) (r:Rfc) (p:Atm→Bool):Prop where
 fn:TFun P r.f
 out: ∀ a:Atm,Q.Fn P r.f (.agg (eAtm a)::r.cs) (.raw (.bool (p a)))
def ovK (k:Int):Int:=if k=2∨k=3∨k=4∨k=6 then k else 0
instance overKind_ct (k:Int):FnC Tryz.prog 143 [.raw (.int .i64 k)] (.raw (.int .i64 (ovK k))):=⟨by
 refine fn_of Tryz.func143 Tryz.ntmps143 rfl (rs:= [.tmp 2]) rfl rfl fun hb LF=>?_
 refine wfm fun b=>?_
 refine end1 (.of_eq ?_)
 simp only[ovK]
 simp[mSet,mGet]
 grind⟩
def pf2 (a:Atm):Bool:=decide (a.kind=1)
def pf3 (a:Atm):Bool:=decide (a.kind=1)&&(decide (a.type=2)||decide (a.type=3))
def pf4 (a:Atm):Bool:=decide (a.kind=1)&&decide (a.type=1)
def pf5 (a:Atm):Bool:=decide (a.kind=1)&&decide (a.type=4)
def pf6 (c:Chg) (a:Atm):Bool:=decide (a.id=c.file)||(decide (a.kind=5)&&decide (a.file=c.file))
def pf7 (c:Chg) (a:Atm):Bool:=decide (c.kind=7)||(decide (a.kind=ovK c.kind)&&decide (a.file=c.file))
instance pf2_ct (a:Atm):FnC Tryz.prog 136 [.agg (eAtm a)] (.raw (.bool (pf2 a))):=⟨by
 refine fn_of Tryz.func136 Tryz.ntmps136 rfl (rs:= [.tmp 2]) rfl rfl fun hb LF=>?_
 refine wf ?_
 refine end1 (.of_eq ?_)
 rfl⟩
instance pf3_ct (a:Atm):FnC Tryz.prog 137 [.agg (eAtm a)] (.raw (.bool (pf3 a))):=⟨by
 refine fn_of Tryz.func137 Tryz.ntmps137 rfl (rs:= [.tmp 2]) rfl rfl fun hb LF=>?_
 refine wf ?_
 repeat' (first|(refine pwp_condD (fun h=>?_) (fun h=>?_)<;>refine wf ?_)|(refine pwp_condN (fun h=>?_) (fun h=>?_)<;>refine wf ?_)|(refine pwp_condB (fun h=>?_) (fun h=>?_)<;>refine wf ?_)|(refine pops_if (fun h=>?_) (fun h=>?_)<;>(have h2:=h;(try simp only[decide_eq_true_eq,decide_eq_false_iff_not,Bool.not_eq_true',Bool.not_eq_false']at h2);refine wf ?_)))
 all_goals (refine end1 (.of_eq ?_);simp only[pf3];first|(simp_all;done)|grind)⟩
instance pf4_ct (a:Atm):FnC Tryz.prog 138 [.agg (eAtm a)] (.raw (.bool (pf4 a))):=⟨by
 refine fn_of Tryz.func138 Tryz.ntmps138 rfl (rs:= [.tmp 2]) rfl rfl fun hb LF=>?_
 refine wf ?_
 repeat' (first|(refine pwp_condD (fun h=>?_) (fun h=>?_)<;>refine wf ?_)|(refine pwp_condN (fun h=>?_) (fun h=>?_)<;>refine wf ?_)|(refine pwp_condB (fun h=>?_) (fun h=>?_)<;>refine wf ?_)|(refine pops_if (fun h=>?_) (fun h=>?_)<;>(have h2:=h;(try simp only[decide_eq_true_eq,decide_eq_false_iff_not,Bool.not_eq_true',Bool.not_eq_false']at h2);refine wf ?_)))
 all_goals (refine end1 (.of_eq ?_);simp only[pf4];first|(simp_all;done)|grind)⟩
instance pf5_ct (a:Atm):FnC Tryz.prog 140 [.agg (eAtm a)] (.raw (.bool (pf5 a))):=⟨by
 refine fn_of Tryz.func140 Tryz.ntmps140 rfl (rs:= [.tmp 2]) rfl rfl fun hb LF=>?_
 refine wf ?_
 repeat' (first|(refine pwp_condD (fun h=>?_) (fun h=>?_)<;>refine wf ?_)|(refine pwp_condN (fun h=>?_) (fun h=>?_)<;>refine wf ?_)|(refine pwp_condB (fun h=>?_) (fun h=>?_)<;>refine wf ?_)|(refine pops_if (fun h=>?_) (fun h=>?_)<;>(have h2:=h;(try simp only[decide_eq_true_eq,decide_eq_false_iff_not,Bool.not_eq_true',Bool.not_eq_false']at h2);refine wf ?_)))
 all_goals (refine end1 (.of_eq ?_);simp only[pf5];first|(simp_all;done)|grind)⟩
instance pf6_ct (c:Chg) (a:Atm):FnC Tryz.prog 141 [.agg (eAtm a),.pt (eChg c) 0] (.raw (.bool (pf6 c a))):=⟨by
 refine fn_of Tryz.func141 Tryz.ntmps141 rfl (rs:= [.tmp 3]) rfl rfl fun hb LF=>?_
 refine wf ?_
 repeat' (first|(refine pwp_condD (fun h=>?_) (fun h=>?_)<;>refine wf ?_)|(refine pwp_condN (fun h=>?_) (fun h=>?_)<;>refine wf ?_)|(refine pwp_condB (fun h=>?_) (fun h=>?_)<;>refine wf ?_)|(refine pops_if (fun h=>?_) (fun h=>?_)<;>(have h2:=h;(try simp only[decide_eq_true_eq,decide_eq_false_iff_not,Bool.not_eq_true',Bool.not_eq_false']at h2);refine wf ?_)))
 all_goals (refine end1 (.of_eq ?_);simp only[pf6];first|(simp_all;done)|grind)⟩
instance pf7_ct (c:Chg) (a:Atm):FnC Tryz.prog 142 [.agg (eAtm a),.pt (eChg c) 0] (.raw (.bool (pf7 c a))):=⟨by
 refine fn_of Tryz.func142 Tryz.ntmps142 rfl (rs:= [.tmp 3]) rfl rfl fun hb LF=>?_
 refine wf ?_
 repeat' (first|(refine pwp_condD (fun h=>?_) (fun h=>?_)<;>refine wf ?_)|(refine pwp_condN (fun h=>?_) (fun h=>?_)<;>refine wf ?_)|(refine pwp_condB (fun h=>?_) (fun h=>?_)<;>refine wf ?_)|(refine pops_if (fun h=>?_) (fun h=>?_)<;>(have h2:=h;(try simp only[decide_eq_true_eq,decide_eq_false_iff_not,Bool.not_eq_true',Bool.not_eq_false']at h2);refine wf ?_)))
 all_goals (refine end1 (.of_eq ?_);simp only[pf7];first|(simp_all;done)|grind)⟩
def addL (b:Nat) (l:List Rfc) (t:Tag):List Res:= [.box b 135 [.slice (l.map eRfc) t],.tok t l.length 34]
theorem add_fn (x:Ident) (f:Nat) (cs:List PV) (b:Nat) (l:List Rfc) (t:Tag) (hl:l.length≤1000000):
  PCalls Tryz.prog 135 [.agg (eIdent x),.clo f cs,.raw (.pointer (some ⟨b,0,none⟩))] (addL b l t) (fun _ L'=> ∃ t',L'=addL b (l++ [⟨x,f,cs⟩]) t'):=by
 refine pcalls_bd Tryz.func135 rfl Tryz.ntmps135 (rs:= []) rfl rfl fun hb LF=>?_
 rw[show addL b l t++LF= .box b 135 [.slice (l.map eRfc) t]:: .tok t l.length 34::LF from rfl]
 refine wfa fun t'=>?_
 exact⟨trivial,[],addL b (l++ [⟨x,f,cs⟩]) t',.nil,.refl _,t',rfl⟩
section
variable {N:Nat} {all:Array Oper} {K:Env→List Res→Prop} {fl:List Bool} {os:List Oper} {ρ:Env} {L:List Res} {Q:PPost} {c:Code} {d:Nat} {ty:TypeId} {pos:String} {af:Array Edge}
theorem j_add {x x0 x1:Operand} {ats:Array TypeId} {b f:Nat} {l:List Rfc} {t:Tag} {id:Ident} {cs:List PV} {a1:PV} {LF:List Res}
  (qx:ρ.ev x= .clo 135 [.raw (.pointer (some ⟨b,0,none⟩))]) (q0:ρ.ev x0= .agg (eIdent id)) (q1:ρ.ev x1=a1) [h1:IsClo a1 f cs] (hl:l.length≤1000000)
  (k: ∀ t' u,pops Tryz.prog N all K fl.tail os (upd ρ d u) (.box b 135 [.slice ((l++ [Rfc.mk id f cs]).map eRfc) t']:: .tok t' (l++ [Rfc.mk id f cs]).length 34::LF)) (hd:Nat.blt d N=true:=by rfl) (hfl:fl.headD true=true:=by rfl):
  pops Tryz.prog N all K fl (⟨some d,.call { callee:= .value x,args:= #[x0,x1],argTypes:=ats },ty,pos,af,none⟩::os) ρ (.box b 135 [.slice (l.map eRfc) t]:: .tok t l.length 34::LF):=
 s_callR (xs:= [x0,x1]) (addL b l t) LF (.of_eq qx) rfl rfl (.refl _) (fun _ L'=> ∃ t',L'=addL b (l++ [⟨id,f,cs⟩]) t')
  (PCalls.args (bs:= [.agg (eIdent id),.clo f cs,.raw (.pointer (some ⟨b,0,none⟩))]) rfl (fun i g1 g2=>by
   match i,g1,g2 with
   |0,_,_=>exact .of_eq q0
   |1,_,_=>show Le (ρ.ev x1) _;rw[q1];exact h1.out
   |2,_,_=>exact .refl _
   |m+3,g1,_=>exact absurd g1 (by simp)) (add_fn id f cs b l t hl)) (fun r L' ⟨t',e⟩=>by subst e;exact k t' r) hd hfl
end
def refs1 (c:Chg):List Rfc:=
 if c.kind=2∨c.kind=3 then [⟨c.file,136,[]⟩]else if c.kind=4 then [⟨c.file,137,[]⟩]else
 if c.kind=5∨c.kind=6 then [⟨c.file,138,[]⟩]else []
def refs2 (c:Chg):List Rfc:=if c.kind=2∧c.parent≠⟨Dig.zero,-1⟩then [⟨c.parent,140,[]⟩]else []
def refs3 (c:Chg):List Rfc:=if c.kind=5∨c.kind=6 then [⟨c.after,141,[.pt (eChg c) 0]⟩,⟨c.before,141,[.pt (eChg c) 0]⟩]else []
def refs4 (c:Chg) (l:List Ident):List Rfc:=l.map fun x=>⟨x,142,[.pt (eChg c) 0]⟩
def refsP (c:Chg):List Rfc:=refs1 c++refs2 c++refs3 c++refs4 c c.over
theorem refs1_len (c:Chg):(refs1 c).length≤1:=by unfold refs1;split<;>(try split)<;>(try split)<;>simp
theorem refs2_len (c:Chg):(refs2 c).length≤1:=by unfold refs2;split<;>simp
theorem refs3_len (c:Chg):(refs3 c).length≤2:=by unfold refs3;split<;>simp
set_option maxHeartbeats 4000000 in
instance pReferences_ct (c:Chg) [hs:Small (c.over.length≤400)]:FnC Tryz.prog 108 [.agg (eChg c)] (.slice ((refsP c).map eRfc) .ro):=⟨by
 have hover:=hs.out
 have r1:=refs1_len c
 have r2:=refs2_len c
 have r3:=refs3_len c
 refine fn_of Tryz.func108 Tryz.ntmps108 rfl (rs:= [.tmp 2]) rfl rfl fun hb LF=>?_
 refine wf ?_
 refine s_alloc fun b3=>?_
 refine wo ?_
 refine pops_nil ?_
 refine pwp_tok 34 ?_
 refine pwp_perm (.swap _ _ _) ?_
 refine ws ?_
 refine pwp_joinG (σ:=List Rfc × Tag) (fun s=>s.1=refs1 c) (fun s=> [(1,.pt (eChg c) 0),(3,.raw (.pointer (some ⟨b3,0,none⟩))),(4,.clo 135 [.raw (.pointer (some ⟨b3,0,none⟩))])]) (fun s=> .box b3 135 [.slice (s.1.map eRfc) s.2]:: .tok s.2 s.1.length 34::LF) ?_ ?_
 ·refine wf ?_
  refine pwp_joinG (σ:=Unit) (fun _=>True) (fun _=> [(1,.pt (eChg c) 0),(3,.raw (.pointer (some ⟨b3,0,none⟩))),(4,.clo 135 [.raw (.pointer (some ⟨b3,0,none⟩))]),(10,.raw (.int .i64 c.kind)),(11,.raw (.bool (decide (c.kind=2∨c.kind=3))))]) (fun _=> .box b3 135 [.slice [] .nil]:: .tok .nil 0 34::LF) ?_ ?_
  ·refine pwp_condD (fun h=>?_) (fun h=>?_)
   ·refine wf ?_
    exact⟨(),trivial,⟨rfl,rfl,rfl,rfl,holdsB (by rfl) (by simp[h])⟩,.refl _⟩
   ·refine wf ?_
    exact⟨(),trivial,⟨rfl,rfl,rfl,rfl,holdsB (by rfl) (by simp[h])⟩,.refl _⟩
  intro _ _
  refine pwp_condD (fun h=>?_) (fun h=>?_)
  ·refine wf ?_
   refine j_add (l:= []) rfl rfl (by(conv=>lhs;whnf);done) (h1:=(by first|infer_instance|fail)) (by simp) fun t' u=>?_
   refine wf ?_
   exact⟨([⟨c.file,136,[]⟩],t'),by rw[refs1,if_pos h],⟨rfl,rfl,rfl⟩,.refl _⟩
  have e1:refs1 c=if c.kind=4 then [⟨c.file,137,[]⟩]else if c.kind=5∨c.kind=6 then [⟨c.file,138,[]⟩]else []:=by rw[refs1,if_neg h]
  refine wf ?_
  refine pwp_condD (fun h4=>?_) (fun h4=>?_)
  ·refine wf ?_
   refine j_add (l:= []) rfl rfl (by(conv=>lhs;whnf);done) (h1:=(by first|infer_instance|fail)) (by simp) fun t' u=>?_
   refine wf ?_
   exact⟨([⟨c.file,137,[]⟩],t'),by rw[e1,if_pos h4],⟨rfl,rfl,rfl⟩,.refl _⟩
  rw[if_neg h4]at e1
  refine wf ?_
  refine pwp_joinG (σ:=Unit) (fun _=>True) (fun _=> [(1,.pt (eChg c) 0),(3,.raw (.pointer (some ⟨b3,0,none⟩))),(4,.clo 135 [.raw (.pointer (some ⟨b3,0,none⟩))]),(24,.raw (.bool (decide (c.kind=5∨c.kind=6))))]) (fun _=> .box b3 135 [.slice [] .nil]:: .tok .nil 0 34::LF) ?_ ?_
  ·refine pwp_condD (fun h=>?_) (fun h=>?_)
   ·refine wf ?_
    exact⟨(),trivial,⟨rfl,rfl,rfl,holdsB (by rfl) (by simp[h])⟩,.refl _⟩
   ·refine wf ?_
    exact⟨(),trivial,⟨rfl,rfl,rfl,holdsB (by rfl) (by simp[h])⟩,.refl _⟩
  intro _ _
  refine pwp_condD (fun h5=>?_) (fun h5=>?_)
  ·refine wf ?_
   refine j_add (l:= []) rfl rfl (by(conv=>lhs;whnf);done) (h1:=(by first|infer_instance|fail)) (by simp) fun t' u=>?_
   refine wf ?_
   exact⟨([⟨c.file,138,[]⟩],t'),by rw[e1,if_pos h5],⟨rfl,rfl,rfl⟩,.refl _⟩
  ·refine wf ?_
   exact⟨([],.nil),by rw[e1,if_neg h5],⟨rfl,rfl,rfl⟩,.refl _⟩
 rintro⟨l1,t1⟩ hl1
 dsimp only at hl1 ⊢
 subst hl1
 refine ws ?_
 refine pops_cutE [(39,.raw (.bool (decide (c.kind=2∧c.parent≠⟨Dig.zero,-1⟩)))),(1,.pt (eChg c) 0),(3,.raw (.pointer (some ⟨b3,0,none⟩))),(4,.clo 135 [.raw (.pointer (some ⟨b3,0,none⟩))])] (.box b3 135 [.slice ((refs1 c).map eRfc) t1]:: .tok t1 (refs1 c).length 34::LF) ?_ ?_
 ·repeat' (first|(refine pwp_condD (fun h=>?_) (fun h=>?_)<;>refine wf ?_)|(refine pwp_condN (fun h=>?_) (fun h=>?_)<;>refine wf ?_)|(refine pwp_condB (fun h=>?_) (fun h=>?_)<;>refine wf ?_)|(refine pops_if (fun h=>?_) (fun h=>?_)<;>(have h2:=h;(try simp only[decide_eq_true_eq,decide_eq_false_iff_not,Bool.not_eq_true',Bool.not_eq_false']at h2);refine wf ?_)))
  all_goals (refine⟨⟨holdsB (by rfl) ?_,rfl,rfl,rfl⟩,.refl _⟩;first|(simp_all;done)|grind)
 refine pwp_joinG (σ:=List Rfc × Tag) (fun s=>s.1=refs1 c++refs2 c) (fun s=> [(1,.pt (eChg c) 0),(3,.raw (.pointer (some ⟨b3,0,none⟩))),(4,.clo 135 [.raw (.pointer (some ⟨b3,0,none⟩))])]) (fun s=> .box b3 135 [.slice (s.1.map eRfc) s.2]:: .tok s.2 s.1.length 34::LF) ?_ ?_
 ·refine pwp_condD (fun h=>?_) (fun h=>?_)
  ·refine wf ?_
   refine j_add rfl rfl (by(conv=>lhs;whnf);done) (h1:=(by first|infer_instance|fail)) (by omega) fun t' u=>?_
   refine wf ?_
   exact⟨(refs1 c++ [⟨c.parent,140,[]⟩],t'),by rw[refs2,if_pos h],⟨rfl,rfl,rfl⟩,.refl _⟩
  ·refine wf ?_
   exact⟨(refs1 c,t1),by rw[refs2,if_neg h];simp,⟨rfl,rfl,rfl⟩,.refl _⟩
 rintro⟨l1,t2⟩ hl1
 dsimp only at hl1 ⊢
 subst hl1
 refine ws ?_
 refine pops_cutE [(51,.raw (.bool (decide (c.kind=5∨c.kind=6)))),(1,.pt (eChg c) 0),(3,.raw (.pointer (some ⟨b3,0,none⟩))),(4,.clo 135 [.raw (.pointer (some ⟨b3,0,none⟩))])] (.box b3 135 [.slice ((refs1 c++refs2 c).map eRfc) t2]:: .tok t2 (refs1 c++refs2 c).length 34::LF) ?_ ?_
 ·repeat' (first|(refine pwp_condD (fun h=>?_) (fun h=>?_)<;>refine wf ?_)|(refine pwp_condN (fun h=>?_) (fun h=>?_)<;>refine wf ?_)|(refine pwp_condB (fun h=>?_) (fun h=>?_)<;>refine wf ?_)|(refine pops_if (fun h=>?_) (fun h=>?_)<;>(have h2:=h;(try simp only[decide_eq_true_eq,decide_eq_false_iff_not,Bool.not_eq_true',Bool.not_eq_false']at h2);refine wf ?_)))
  all_goals (refine⟨⟨holdsB (by rfl) ?_,rfl,rfl,rfl⟩,.refl _⟩;first|(simp_all;done)|grind)
 refine pwp_joinG (σ:=List Rfc × Tag) (fun s=>s.1=refs1 c++refs2 c++refs3 c) (fun s=> [(1,.pt (eChg c) 0),(3,.raw (.pointer (some ⟨b3,0,none⟩))),(4,.clo 135 [.raw (.pointer (some ⟨b3,0,none⟩))])]) (fun s=> .box b3 135 [.slice (s.1.map eRfc) s.2]:: .tok s.2 s.1.length 34::LF) ?_ ?_
 ·refine pwp_condD (fun h=>?_) (fun h=>?_)
  ·refine wf ?_
   refine j_add rfl rfl (by(conv=>lhs;whnf);done) (h1:=(by first|infer_instance|fail)) (by simp only[List.length_append];omega) fun t' u=>?_
   refine wf ?_
   refine j_add rfl rfl (by(conv=>lhs;whnf);done) (h1:=(by first|infer_instance|fail)) (by simp only[List.length_append,List.length_cons,List.length_nil];omega) fun t' u=>?_
   refine wf ?_
   exact⟨(refs1 c++refs2 c++ [⟨c.after,141,[.pt (eChg c) 0]⟩]++ [⟨c.before,141,[.pt (eChg c) 0]⟩],t'),by rw[refs3,if_pos h];simp,⟨rfl,rfl,rfl⟩,.refl _⟩
  ·refine wf ?_
   exact⟨(refs1 c++refs2 c,t2),by rw[refs3,if_neg h];simp,⟨rfl,rfl,rfl⟩,.refl _⟩
 rintro⟨l1,t3⟩ hl1
 dsimp only at hl1 ⊢
 have hl3:l1.length≤4:=by rw[hl1];simp only[List.length_append];omega
 refine wf ?_
 refine pwp_loopS (σ:=Nat × List Rfc × Tag) (fun k=>k.1≤c.over.length∧k.2.1=l1++refs4 c (c.over.take k.1)) (fun k=>c.over.length - k.1) (fun k=> [(1,.pt (eChg c) 0),(3,.raw (.pointer (some ⟨b3,0,none⟩))),(4,.clo 135 [.raw (.pointer (some ⟨b3,0,none⟩))]),(64,.slice (c.over.map eIdent) .ro),(65,.raw (.int .i64 c.over.length)),(66,.raw (.int .i64 k.1))]) (fun k=> .box b3 135 [.slice (k.2.1.map eRfc) k.2.2]:: .tok k.2.2 k.2.1.length 34::LF) (0,l1,t3) ⟨by simp,by simp[refs4]⟩ ⟨rfl,rfl,rfl,rfl,rfl,rfl⟩ (.refl _) ?_
 rintro⟨k,m,t4⟩ ⟨hk,hm⟩
 dsimp only at hk hm ⊢
 have hml:m.length≤404:=by rw[hm,refs4];simp only[List.length_append,List.length_map,List.length_take];omega
 refine wf ?_
 refine pwp_condD (fun hc=>?_) (fun hc=>?_)
 ·have hlt:k < c.over.length:=by omega
  refine wz fun b7=>?_
  refine pwp_freezeD 7 ?_
  refine wf ?_
  refine j_add rfl rfl (by(conv=>lhs;whnf);done) (h1:=(by first|infer_instance|fail)) (by omega) fun t' u=>?_
  refine wf ?_
  refine⟨(k+1,m++ [⟨c.over[k],142,[.pt (eChg c) 0]⟩],t'),⟨by dsimp only;omega,?_⟩,by dsimp only;omega,⟨rfl,rfl,rfl,rfl,rfl,rfl⟩,.refl _⟩
  dsimp only
  rw[hm,refs4,refs4,List.take_succ_eq_append_getElem hlt,List.map_append,List.append_assoc];rfl
 ·rw[List.take_of_length_le (by omega)]at hm
  refine wf ?_
  refine end1 (.ros ?_)
  rw[hm,hl1];rfl⟩
end Go.Proofs
namespace Go.Proofs
open Go Go.Q
attribute [local irreducible] pwp pops PCalls OpN
theorem firstErr_append {α:Type} (f:α→Int): ∀ a b:List α,firstErr f (a++b)=if firstErr f a≠0 then firstErr f a else firstErr f b
 | [],b=>by simp[firstErr]
 |x::a,b=>by
  simp only[List.cons_append,firstErr,firstErr_append f a b]
  by_cases h:f x=0<;>simp[h]
theorem firstErr_map {α β:Type} (f:β→Int) (g:α→β): ∀ l:List α,firstErr f (l.map g)=firstErr (fun x=>f (g x)) l
 | []=>rfl
 |x::l=>by simp only[List.map_cons,firstErr,firstErr_map f g l]
theorem firstErr_congr {α:Type} {f g:α→Int}: ∀ {l:List α},(∀ x∈l,f x=g x)→firstErr f l=firstErr g l
 | [],_=>rfl
 |x::l,h=>by
  rw[firstErr,firstErr,h x (by simp),firstErr_congr (fun y hy=>h y (List.mem_cons_of_mem _ hy))]
def predF (c:Chg) (f:Nat):Atm→Bool:=
 if f=136 then pf2 else if f=137 then pf3 else if f=138 then pf4 else if f=140 then pf5 else if f=141 then pf6 c else pf7 c
theorem fits_mem (c:Chg) (r:Rfc) (h:r∈refsP c):Fits Tryz.prog r (predF c r.f):=by
 simp only[refsP,List.mem_append]at h
 rcases h with ((h|h)|h)|h
 ·unfold refs1 at h
  split at h
  ·simp at h;subst h;exact⟨inferInstance,fun a=>(pf2_ct a).out⟩
  ·split at h
   ·simp at h;subst h;exact⟨inferInstance,fun a=>(pf3_ct a).out⟩
   ·split at h
    ·simp at h;subst h;exact⟨inferInstance,fun a=>(pf4_ct a).out⟩
    ·simp at h
 ·unfold refs2 at h
  split at h
  ·simp at h;subst h;exact⟨inferInstance,fun a=>(pf5_ct a).out⟩
  ·simp at h
 ·unfold refs3 at h
  split at h
  ·simp at h
   rcases h with h|h<;>subst h<;>exact⟨inferInstance,fun a=>(pf6_ct c a).out⟩
  ·simp at h
 ·unfold refs4 at h
  obtain⟨x,_,rfl⟩:=List.mem_map.1 h
  exact⟨inferInstance,fun a=>(pf7_ct c a).out⟩
def refE (c:Chg) (own:List Atm) (r:Rfc):Int:=
 if r.id.n < 0∨(r.id.patch=Dig.zero∧(own.length:Int)≤r.id.n)∨100000≤r.id.n then 7 else if r.id.patch=Dig.zero∧predF c r.f (own.getD r.id.n.toNat Atm.zero)=false then 8 else 0
def rRefsP (c:Chg) (own:List Atm):Int:=
 if firstErr (refE c own) (refsP c)≠0 then firstErr (refE c own) (refsP c)else if c.kind=2∧c.parent=c.file then 20 else
 if(c.kind=6∧c.after=c.before)∨(c.kind=5∧c.after=c.before∧c.after≠c.file)then 1 else 0
def idsOk (own:List Atm):Prop:= ∀ i (h:i < own.length),own[i].id=⟨Dig.zero,i⟩
theorem refE_one (c:Chg) (own:List Atm) (hl:own.length≤100000) (x:Ident) (f:Nat) (cs:List PV):refE c own ⟨x,f,cs⟩=rOne x own (predF c f (rGet own x)):=by
 by_cases h:x.patch=Dig.zero
 ·by_cases h1:0≤x.n∧x.n < own.length
  ·have n1: ¬(x.n < 0∨(x.patch=Dig.zero∧(own.length:Int)≤x.n)∨100000≤x.n):=by rintro(h2|⟨_,h2⟩|h2)<;>omega
   have ha:rAllowed x own.length=true:=by unfold rAllowed;rw[if_pos h];simp[h1]
   unfold refE rOne rGet
   dsimp only
   rw[if_neg n1,ha,if_pos (show x.patch=Dig.zero∧0≤x.n from⟨h,h1.1⟩)]
   simp only[Bool.true_eq_false,if_false]
  ·have n1:x.n < 0∨(x.patch=Dig.zero∧(own.length:Int)≤x.n)∨100000≤x.n:=by
    by_cases h2:x.n < 0
    ·exact .inl h2
    ·exact .inr (.inl ⟨h,by omega⟩)
   have ha:rAllowed x own.length=false:=by
    unfold rAllowed;rw[if_pos h]
    by_cases h2:0≤x.n
    ·have: ¬x.n < own.length:=fun h3=>h1 ⟨h2,h3⟩
     simp[this]
    ·simp[h2]
   unfold refE rOne
   dsimp only
   rw[if_pos n1,if_pos ha]
 ·by_cases h1:0≤x.n∧x.n < 100000
  ·have n1: ¬(x.n < 0∨(x.patch=Dig.zero∧(own.length:Int)≤x.n)∨100000≤x.n):=by
    rintro(h2|⟨h2,_⟩|h2)
    ·omega
    ·exact h h2
    ·omega
   have ha:rAllowed x own.length=true:=by unfold rAllowed;rw[if_neg h];simp[h1]
   unfold refE rOne
   dsimp only
   rw[if_neg n1,ha]
   simp only[Bool.true_eq_false,if_false,h,false_and]
  ·have n1:x.n < 0∨(x.patch=Dig.zero∧(own.length:Int)≤x.n)∨100000≤x.n:=by omega
   have ha:rAllowed x own.length=false:=by
    unfold rAllowed;rw[if_neg h]
    by_cases h2:0≤x.n
    ·have: ¬x.n < 100000:=fun h3=>h1 ⟨h2,h3⟩
     simp[this]
    ·simp[h2]
   unfold refE rOne
   dsimp only
   rw[if_pos n1,if_pos ha]
theorem rOne_congr {x:Ident} {own:List Atm} {a b:Bool} (h:x.patch=Dig.zero→0≤x.n→x.n < own.length→a=b):rOne x own a=rOne x own b:=by
 unfold rOne
 by_cases h1:rAllowed x own.length=false
 ·rw[if_pos h1,if_pos h1]
 rw[if_neg h1,if_neg h1]
 by_cases h2:x.patch=Dig.zero
 ·have h3:rAllowed x own.length=true:=by simpa using h1
  unfold rAllowed at h3
  simp only[h2,if_true,Bool.and_eq_true,decide_eq_true_eq]at h3
  rw[h h2 h3.1 h3.2]
 ·rw[if_neg (fun h3=>h2 h3.1),if_neg (fun h3=>h2 h3.1)]
theorem fields_kind {c:Chg} (h:rFields c=0):1≤c.kind∧c.kind≤7:=by
 unfold rFields at h
 by_cases h1:c.kind < 1∨7 < c.kind
 ·rw[if_pos h1]at h;omega
 ·omega
theorem fields_empty {c:Chg} (h:rFields c=0):rEmpty (rRest c)=true:=by
 have hk:=fields_kind h
 unfold rFields at h
 rw[if_neg (by omega)]at h
 by_cases h1:rEmpty (rRest c)=false
 ·rw[if_pos h1]at h;omega
 ·simpa using h1
theorem fields_over {c:Chg} (h:rFields c=0) (hk:c.kind=1∨c.kind=5):c.over= []:=by
 have h2:=fields_empty h
 unfold rEmpty rRest at h2
 simp only[Bool.and_eq_true,decide_eq_true_eq]at h2
 have h3:=h2.2
 rw[if_neg (by omega)]at h3
 exact List.eq_nil_of_length_eq_zero (by omega)
theorem fields_over_len {c:Chg} (h:rFields c=0):c.over.length≤400:=by
 have h0:=fields_over h
 have hk:c.kind=5∨c.kind≠5:=by omega
 rcases hk with hk|hk
 ·rw[h0 (.inr hk)];simp
 clear h0
 unfold rFields at h
 generalize rEmpty (rRest c)=a1 at h
 generalize rName c.name=a2 at h
 generalize rAsc c.over=a3 at h
 generalize rLines c.lines=a4 at h
 rcases Nat.lt_or_ge 400 c.over.length with hc|hc
 ·exfalso
  have hc':400 < (c.over.length:Int):=by omega
  rw[if_pos hc',if_neg hk]at h
  by_cases g1:c.kind < 1∨7 < c.kind
  ·rw[if_pos g1]at h;exact absurd h (by decide)
  rw[if_neg g1]at h
  by_cases g2:a1=false
  ·rw[if_pos g2]at h;exact absurd h (by decide)
  rw[if_neg g2]at h
  by_cases g3:c.kind=1∧(c.type < 1∨4 < c.type)
  ·rw[if_pos g3]at h;exact absurd h (by decide)
  rw[if_neg g3]at h
  by_cases g4:c.kind=2∧a2=false
  ·rw[if_pos g4]at h;exact absurd h (by decide)
  rw[if_neg g4]at h
  by_cases g5:c.kind=3∧(c.mode < 0∨511 < c.mode)
  ·rw[if_pos g5]at h;exact absurd h (by decide)
  rw[if_neg g5]at h
  by_cases g6:65536 < (c.data.length:Int)
  ·rw[if_pos g6]at h;exact absurd h (by decide)
  rw[if_neg g6]at h
  by_cases g7:c.kind=7∧(c.over.length:Int)=0
  ·rw[if_pos g7]at h;exact absurd h (by decide)
  rw[if_neg g7]at h
  exact absurd h (by decide)
 ·exact hc
theorem refsP_eq {c:Chg} {own:List Atm} (hf:rFields c=0) (hl:own.length≤100000) (hi:idsOk own):rRefsP c own=rRefs c own:=by
 have hk:=fields_kind hf
 have e1:firstErr (refE c own) (refs1 c)=rRefF c own:=by
  unfold refs1 rRefF
  by_cases h1:c.kind=2∨c.kind=3
  ·have:pf2=rFitsFile c.kind:=by
    funext a;unfold pf2 rFitsFile rText
    rcases h1 with h|h<;>simp[h]
   rw[if_pos h1,if_pos (by omega),firstErr,firstErr,refE_one c own hl,show predF c 136=pf2 from rfl,this]
   split<;>simp_all
  by_cases h2:c.kind=4
  ·have:pf3=rFitsFile c.kind:=by
    funext a;unfold pf3 rFitsFile rText
    simp[h2]<;>(by_cases ha:a.kind=1<;>simp[ha])
   rw[if_neg h1,if_pos h2,if_pos (by omega),firstErr,firstErr,refE_one c own hl,show predF c 137=pf3 from rfl,this]
   split<;>simp_all
  by_cases h3:c.kind=5∨c.kind=6
  ·have:pf4=rFitsFile c.kind:=by
    funext a;unfold pf4 rFitsFile rText
    rcases h3 with h|h<;>simp[h]<;>by_cases ha:a.kind=1<;>simp[ha]
   rw[if_neg h1,if_neg h2,if_pos h3,if_pos (by omega),firstErr,firstErr,refE_one c own hl,show predF c 138=pf4 from rfl,this]
   split<;>simp_all
  ·rw[if_neg h1,if_neg h2,if_neg h3,if_neg (by omega)];rfl
 have e2:firstErr (refE c own) (refs2 c)=rRefP c own:=by
  unfold refs2 rRefP rRoot
  by_cases h1:c.kind=2∧c.parent≠⟨Dig.zero,-1⟩
  ·rw[if_pos h1,if_pos h1,firstErr,firstErr,refE_one c own hl,show predF c 140=pf5 from rfl,show pf5=rDirectory from rfl]
   split<;>simp_all
  ·rw[if_neg h1,if_neg h1];rfl
 have e6: ∀ x:Ident,refE c own ⟨x,141,[.pt (eChg c) 0]⟩=rRefE c own x:=fun x=>by
  rw[refE_one c own hl,show predF c 141=pf6 c from rfl,rRefE]
  refine rOne_congr fun h1 h2 h3=>?_
  have h4:x.n.toNat < own.length:=by omega
  have e:(rGet own x).id=x:=by
   unfold rGet
   rw[if_pos ⟨h1,h2⟩]
   have:own.getD x.n.toNat Atm.zero=own[x.n.toNat]:=by simp[List.getD,h4]
   rw[this,hi _ h4]
   obtain⟨p,n⟩:=x
   simp only at h1 h2 ⊢
   subst h1
   congr 1
   omega
  unfold pf6
  rw[e];rfl
 have e3:firstErr (refE c own) (refs3 c)=rRefEs c own:=by
  unfold refs3 rRefEs
  by_cases h1:c.kind=5∨c.kind=6
  ·have:rText c.kind=true:=by unfold rText;rcases h1 with h|h<;>simp[h]
   rw[if_pos h1,if_pos this]
   simp only[firstErr,e6]
  ·have: ¬rText c.kind=true:=by unfold rText;intro h;simp at h;exact h1 h
   rw[if_neg h1,if_neg this];rfl
 have e4:firstErr (refE c own) (refs4 c c.over)=firstErr (rRefO c own) c.over:=by
  unfold refs4
  rw[firstErr_map]
  refine firstErr_congr fun x hx=>?_
  rw[refE_one c own hl,show predF c 142=pf7 c from rfl,rRefO]
  refine rOne_congr fun _ _ _=>?_
  have h15:c.kind≠1∧c.kind≠5:=⟨fun h=>(by rw[fields_over hf (.inl h)]at hx;simp at hx),fun h=>(by rw[fields_over hf (.inr h)]at hx;simp at hx)⟩
  unfold pf7 rFitsOver rWant ovK
  by_cases h7:c.kind=7
  ·simp[h7]
  ·have:c.kind=2∨c.kind=3∨c.kind=4∨c.kind=6:=by omega
   rw[if_pos this,if_neg h7]
   simp[h7]
   omega
 unfold rRefsP rRefs
 rw[refsP,firstErr_append,firstErr_append,firstErr_append,e1,e2,e3,e4]
 have e5:((c.kind=6∧c.after=c.before)∨(c.kind=5∧c.after=c.before∧c.after≠c.file))↔((rText c.kind=true∧c.after=c.before)∧(c.kind=6∨c.after≠c.file)):=by
  unfold rText
  simp only[Bool.or_eq_true,decide_eq_true_eq]
  constructor
  ·rintro(⟨h1,h2⟩|⟨h1,h2,h3⟩)
   ·exact⟨⟨.inr h1,h2⟩,.inl h1⟩
   ·exact⟨⟨.inl h1,h2⟩,.inr h3⟩
  ·rintro⟨⟨h1|h1,h2⟩,h3⟩
   ·rcases h3 with h3|h3
    ·omega
    ·exact .inr ⟨h1,h2,h3⟩
   ·exact .inl ⟨h1,h2⟩
 simp only[e5]
 by_cases a1:rRefF c own=0<;>by_cases a2:rRefP c own=0<;>by_cases a3:rRefEs c own=0<;>by_cases a4:firstErr (rRefO c own) c.over=0<;>simp[a1,a2,a3,a4]
end Go.Proofs
namespace Go.Proofs
open Go Go.Q
attribute [local irreducible] pwp pops PCalls OpN
theorem refsP_len {c:Chg} (h:c.over.length≤400):(refsP c).length≤404:=by
 have r1:=refs1_len c
 have r2:=refs2_len c
 have r3:=refs3_len c
 rw[refsP,refs4];simp only[List.length_append,List.length_map];omega
set_option maxHeartbeats 4000000 in
theorem checkRefs_fn (c:Chg) (own:List Atm) (t:Tag) (hov:c.over.length≤400) (hol:own.length≤100000):Q.Fn Tryz.prog 169 [.agg (eChg c),.slice (own.map eAtm) t] (.raw (.int .i64 (rRefsP c own))):=by
 have i0:Small (c.over.length≤400):=⟨hov⟩
 have hrl:=refsP_len hov
 refine fn_of Tryz.func169 Tryz.ntmps169 rfl (rs:= [.tmp 4]) rfl rfl fun hb LF=>?_
 refine wf ?_
 refine pwp_loopS (σ:=Nat) (fun k=>k≤(refsP c).length∧ ∀ i (h:i < (refsP c).length),i < k→refE c own (refsP c)[i]=0) (fun k=>(refsP c).length - k) (fun k=> [(1,.slice (own.map eAtm) t),(2,.pt (eChg c) 0),(8,.slice ((refsP c).map eRfc) .ro),(9,.raw (.int .i64 (refsP c).length)),(10,.raw (.int .i64 k))]) (fun _=>LF) 0 ⟨by simp,by simp⟩ ⟨rfl,rfl,rfl,rfl,rfl⟩ (.refl _) ?_
 rintro k ⟨hk,he⟩
 refine wf ?_
 refine pwp_condD (fun hc=>?_) (fun hc=>?_)
 ·have hlt:k < (refsP c).length:=by omega
  have hat:=firstErr_at (f:=refE c own) hlt he
  have hsu:=fun h=>upto_succ0 (f:=refE c own) he hlt h
  have hfit:=fits_mem c _ (List.getElem_mem hlt)
  refine wz fun b6=>?_
  generalize (refsP c)[k]=r at hat hsu hfit ⊢
  refine pwp_freezeD 6 ?_
  have i1:TFun Tryz.prog r.f:=hfit.fn
  have i2: ∀ a:Atm,FnC Tryz.prog r.f (.agg (eAtm a)::r.cs) (.raw (.bool (predF c r.f a))):=fun a=>⟨hfit.out a⟩
  have er:refE c own r=if r.id.n < 0∨(r.id.patch=Dig.zero∧(own.length:Int)≤r.id.n)∨100000≤r.id.n then 7 else if r.id.patch=Dig.zero∧predF c r.f (own.getD r.id.n.toNat Atm.zero)=false then 8 else 0:=rfl
  refine wf ?_
  refine pwp_joinG (σ:=Unit) (fun _=>True) (fun _=> [(1,.slice (own.map eAtm) t),(2,.pt (eChg c) 0),(6,.pt (eRfc r) 0),(8,.slice ((refsP c).map eRfc) .ro),(9,.raw (.int .i64 (refsP c).length)),(10,.raw (.int .i64 k)),(14,.raw (.bool (decide (r.id.n < 0∨(r.id.patch=Dig.zero∧(own.length:Int)≤r.id.n)∨100000≤r.id.n))))]) (fun _=>LF) ?_ ?_
  ·refine pwp_condD (fun h=>?_) (fun h=>?_)
   ·refine wf ?_
    exact⟨(),trivial,⟨rfl,rfl,rfl,rfl,rfl,rfl,holdsB (by rfl) (by simp[h])⟩,.refl _⟩
   ·refine wf ?_
    refine pops_cutE [(14,.raw (.bool (decide (r.id.patch=Dig.zero∧(own.length:Int)≤r.id.n)))),(1,.slice (own.map eAtm) t),(2,.pt (eChg c) 0),(6,.pt (eRfc r) 0),(8,.slice ((refsP c).map eRfc) .ro),(9,.raw (.int .i64 (refsP c).length)),(10,.raw (.int .i64 k))] (LF) ?_ ?_
    ·repeat' (first|(refine pwp_condD (fun h=>?_) (fun h=>?_)<;>refine wf ?_)|(refine pwp_condN (fun h=>?_) (fun h=>?_)<;>refine wf ?_)|(refine pwp_condB (fun h=>?_) (fun h=>?_)<;>refine wf ?_)|(refine pops_if (fun h=>?_) (fun h=>?_)<;>(have h2:=h;(try simp only[decide_eq_true_eq,decide_eq_false_iff_not,Bool.not_eq_true',Bool.not_eq_false']at h2);refine wf ?_)))
     all_goals (refine⟨⟨holdsB (by rfl) ?_,rfl,rfl,rfl,rfl,rfl,rfl⟩,.refl _⟩;first|(simp_all;done)|(clear hat hsu hfit er he;grind))
    refine wf ?_
    refine pwp_condD (fun h2=>?_) (fun h2=>?_)
    ·refine wf ?_
     exact⟨(),trivial,⟨rfl,rfl,rfl,rfl,rfl,rfl,holdsB (by rfl) (by simp[h2])⟩,.refl _⟩
    ·refine wf ?_
     have e8:(100000≤r.id.n)↔(r.id.n < 0∨(r.id.patch=Dig.zero∧(own.length:Int)≤r.id.n)∨100000≤r.id.n):=⟨fun h=> .inr (.inr h),fun h3=>by
      rcases h3 with h3|h3|h3
      ·exact absurd h3 h
      ·exact absurd h3 h2
      ·exact h3⟩
     exact⟨(),trivial,⟨rfl,rfl,rfl,rfl,rfl,rfl,holdsB (by rfl) (by rw[decide_eq_decide];exact e8)⟩,.refl _⟩
  intro _ _
  refine pwp_condD (fun h=>?_) (fun h=>?_)
  ·refine wf ?_
   refine end1 (.of_eq ?_)
   rw[if_pos h]at er
   rw[rRefsP,hat (by rw[er];decide),er];rfl
  rw[if_neg h]at er
  refine wf ?_
  refine pops_cutE [(34,.raw (.bool (decide (r.id.patch=Dig.zero∧predF c r.f (own.getD r.id.n.toNat Atm.zero)=false)))),(1,.slice (own.map eAtm) t),(2,.pt (eChg c) 0),(8,.slice ((refsP c).map eRfc) .ro),(9,.raw (.int .i64 (refsP c).length)),(10,.raw (.int .i64 k))] LF ?_ ?_
  ·refine pops_if (fun hp=>?_) (fun hp=>?_)
   ·have hp2:=of_decide_eq_true hp
    have g1:0≤r.id.n:=by
     rcases Int.lt_or_le r.id.n 0 with h'|h'
     ·exact absurd (.inl h') h
     ·exact h'
    have g2:r.id.n < own.length:=by
     rcases Int.lt_or_le r.id.n own.length with h'|h'
     ·exact h'
     ·exact absurd (.inr (.inl ⟨hp2,h'⟩)) h
    have g3:own.getD r.id.n.toNat Atm.zero=own[r.id.n.toNat]'(by omega):=by
     have:r.id.n.toNat < own.length:=by omega
     simp[List.getD,this]
    refine wf ?_
    exact⟨⟨holdsB (by rfl) (by rw[g3];simp[hp2]),rfl,rfl,rfl,rfl,rfl⟩,.refl _⟩
   ·have hp2:=of_decide_eq_false hp
    refine wf ?_
    exact⟨⟨holdsB (by rfl) (by simp[hp2]),rfl,rfl,rfl,rfl,rfl⟩,.refl _⟩
  refine wf ?_
  refine pwp_condD (fun h2=>?_) (fun h2=>?_)
  ·refine wf ?_
   refine end1 (.of_eq ?_)
   rw[if_pos h2]at er
   rw[rRefsP,hat (by rw[er];decide),er];rfl
  ·rw[if_neg h2]at er
   refine wf ?_
   exact⟨k+1,⟨by omega,hsu er⟩,by dsimp only;omega,⟨rfl,rfl,rfl,rfl,rfl⟩,.refl _⟩
 have e0:firstErr (refE c own) (refsP c)=0:=firstErr_zero fun i h=>he i h (by omega)
 rw[rRefsP,if_neg (by simp[e0])]
 clear e0 he hk hc
 refine wf ?_
 refine pops_cutE [(51,.raw (.bool (decide (c.kind=2∧c.parent=c.file)))),(2,.pt (eChg c) 0)] (LF) ?_ ?_
 ·repeat' (first|(refine pwp_condD (fun h=>?_) (fun h=>?_)<;>refine wf ?_)|(refine pwp_condN (fun h=>?_) (fun h=>?_)<;>refine wf ?_)|(refine pwp_condB (fun h=>?_) (fun h=>?_)<;>refine wf ?_)|(refine pops_if (fun h=>?_) (fun h=>?_)<;>(have h2:=h;(try simp only[decide_eq_true_eq,decide_eq_false_iff_not,Bool.not_eq_true',Bool.not_eq_false']at h2);refine wf ?_)))
  all_goals (refine⟨⟨holdsB (by rfl) ?_,rfl⟩,.refl _⟩;first|(simp_all;done)|grind)
 refine wf ?_
 refine pwp_condD (fun h=>?_) (fun h=>?_)
 ·refine wf ?_
  refine end1 (.of_eq ?_)
  rw[if_pos h]
 rw[if_neg h]
 refine wf ?_
 refine pops_cutE [(62,.raw (.bool (decide (c.kind=6∧c.after=c.before)))),(2,.pt (eChg c) 0)] (LF) ?_ ?_
 ·repeat' (first|(refine pwp_condD (fun h=>?_) (fun h=>?_)<;>refine wf ?_)|(refine pwp_condN (fun h=>?_) (fun h=>?_)<;>refine wf ?_)|(refine pwp_condB (fun h=>?_) (fun h=>?_)<;>refine wf ?_)|(refine pops_if (fun h=>?_) (fun h=>?_)<;>(have h2:=h;(try simp only[decide_eq_true_eq,decide_eq_false_iff_not,Bool.not_eq_true',Bool.not_eq_false']at h2);refine wf ?_)))
  all_goals (refine⟨⟨holdsB (by rfl) ?_,rfl⟩,.refl _⟩;first|(simp_all;done)|grind)
 refine wf ?_
 refine pwp_joinG (σ:=Unit) (fun _=>True) (fun _=> [(62,.raw (.bool (decide ((c.kind=6∧c.after=c.before)∨(c.kind=5∧c.after=c.before∧c.after≠c.file)))))]) (fun _=>LF) ?_ ?_
 ·refine pwp_condD (fun h=>?_) (fun h=>?_)
  ·refine wf ?_
   exact⟨(),trivial,holdsB (by rfl) (by simp[h]),.refl _⟩
  ·refine wf ?_
   repeat' (first|(refine pwp_condD (fun h=>?_) (fun h=>?_)<;>refine wf ?_)|(refine pwp_condN (fun h=>?_) (fun h=>?_)<;>refine wf ?_)|(refine pwp_condB (fun h=>?_) (fun h=>?_)<;>refine wf ?_)|(refine pops_if (fun h=>?_) (fun h=>?_)<;>(have h2:=h;(try simp only[decide_eq_true_eq,decide_eq_false_iff_not,Bool.not_eq_true',Bool.not_eq_false']at h2);refine wf ?_)))
   all_goals (refine⟨(),trivial,holdsB (by rfl) ?_,.refl _⟩;first|(simp_all;done)|grind)
 intro _ _
 refine pwp_condD (fun h=>?_) (fun h=>?_)
 ·refine wf ?_
  refine end1 (.of_eq ?_)
  rw[if_pos h]
 ·refine wf ?_
  refine end1 (.of_eq ?_)
  rw[if_neg h]
instance checkReferences_ct (c:Chg) (own:List Atm) (t:Tag) [hs:Small (rFields c=0∧own.length≤100000∧idsOk own)]:FnC Tryz.prog 169 [.agg (eChg c),.slice (own.map eAtm) t] (.raw (.int .i64 (rRefs c own))):=⟨by
 obtain⟨h1,h2,h3⟩:=hs.out
 rw[←refsP_eq h1 h2 h3]
 exact checkRefs_fn c own t (fields_over_len h1) h2⟩
end Go.Proofs
namespace Go.Proofs
open Go Go.Q
attribute [local irreducible] pwp pops PCalls OpN PYield
instance made11_ct (first n:Int) [hs:Small (0≤first∧first≤1000000000∧0≤n∧n≤100000)]:FnC Tryz.prog 210 [.raw (.int .i64 n),.pt [.raw (.int .i64 first)] 0] (.agg (eIdent ⟨Dig.zero,first+n⟩)):=⟨by
 obtain⟨h1,h2,h3,h4⟩:=hs.out
 refine fn_of Tryz.func210 Tryz.ntmps210 rfl (rs:= [.cell 3 115]) rfl rfl fun hb LF=>?_
 refine wfb fun b=>?_
 exact endC rfl (.refl _)⟩
theorem rMade_mem1 {c:Chg} {first:Int} {x:Atm} (e:rMade c first= [x]):([]++ [x]) <+:rMade c first:=by rw[e];exact⟨[],rfl⟩
theorem range_prefix {k n:Nat} (h:k≤n):List.range k <+:List.range n:=by
 have:=List.take_prefix k (List.range n)
 rwa [List.take_range,Nat.min_eq_left h]at this
theorem perm_two {a b:Res} {L LF:List Res}:(a::b::(L++LF)).Perm (L++(a::b::LF)):=((List.perm_middle (l₁:=L)).trans (.cons a List.perm_middle)).symm
def mCaps (c:Chg) (first:Int):List PV:= [.pt [.raw (.int .i64 first)] 0,.pt (eChg c) 0]
def eAtm1 (a:Atm):List PV:= [.agg (eAtm a)]
set_option maxHeartbeats 4000000 in
theorem made_iter (c:Chg) (first:Int) (hk:1≤c.kind∧c.kind≤7) (hl:c.lines.length≤2000∧0≤first∧first≤1000000000):PIter Tryz.prog 209 (mCaps c first) eAtm1 (rMade c first):=by
 intro l J Jx hY L hJ
 obtain⟨hl,hf0,hf1⟩:=hl
 have hz:Small (0≤first∧first≤1000000000∧(0:Int)≤0∧(0:Int)≤100000):=⟨by omega⟩
 refine pcalls_bd Tryz.func209 rfl Tryz.ntmps209 (rs:= []) rfl rfl fun hb LF=>?_
 refine wn ?_
 refine pwp_condD (fun h1=>?_) (fun h1=>?_)
 ·have e:rMade c first= [{ Atm.zero with id:=⟨Dig.zero,first+0⟩,kind:=1,file:=⟨Dig.zero,first+0⟩,type:=c.type }]:=by rw[rMade,if_pos h1,Int.add_zero]
  refine pwp_drawN 8 ?_ ?_
  ·decide+kernel
  refine wf ?_
  refine s_yield L LF rfl rfl rfl (.refl _) _ (hY [] _ L (rMade_mem1 e) hJ) fun b L' hR=>?_
  refine wf ?_
  refine⟨trivial,[],L',.nil,.refl _,?_⟩
  rcases hR with ⟨_,h⟩|⟨_,h⟩
  ·exact .inl (by rw[e];exact h)
  ·exact .inr ⟨_,h⟩
 refine wn ?_
 refine pwp_condD (fun h2=>?_) (fun h2=>?_)
 ·have e:rMade c first= [{ Atm.zero with id:=⟨Dig.zero,first+0⟩,kind:=2,file:=c.file,parent:=c.parent,name:=c.name,over:=c.over }]:=by rw[rMade,if_neg h1,if_pos h2,Int.add_zero]
  refine pwp_drawN 12 ?_ ?_
  ·decide+kernel
  refine wf ?_
  refine s_yield L LF rfl rfl rfl (.refl _) _ (hY [] _ L (rMade_mem1 e) hJ) fun b L' hR=>?_
  refine wf ?_
  refine⟨trivial,[],L',.nil,.refl _,?_⟩
  rcases hR with ⟨_,h⟩|⟨_,h⟩
  ·exact .inl (by rw[e];exact h)
  ·exact .inr ⟨_,h⟩
 refine wn ?_
 refine pwp_condD (fun h3=>?_) (fun h3=>?_)
 ·have e:rMade c first= [{ Atm.zero with id:=⟨Dig.zero,first+0⟩,kind:=3,file:=c.file,mode:=c.mode,over:=c.over }]:=by rw[rMade,if_neg h1,if_neg h2,if_pos h3,Int.add_zero]
  refine pwp_drawN 10 ?_ ?_
  ·decide+kernel
  refine wf ?_
  refine s_yield L LF rfl rfl rfl (.refl _) _ (hY [] _ L (rMade_mem1 e) hJ) fun b L' hR=>?_
  refine wf ?_
  refine⟨trivial,[],L',.nil,.refl _,?_⟩
  rcases hR with ⟨_,h⟩|⟨_,h⟩
  ·exact .inl (by rw[e];exact h)
  ·exact .inr ⟨_,h⟩
 refine wn ?_
 refine pwp_condD (fun h4=>?_) (fun h4=>?_)
 ·have e:rMade c first= [{ Atm.zero with id:=⟨Dig.zero,first+0⟩,kind:=4,file:=c.file,data:=c.data,over:=c.over }]:=by rw[rMade,if_neg h1,if_neg h2,if_neg h3,if_pos h4,Int.add_zero]
  refine pwp_drawN 10 ?_ ?_
  ·decide+kernel
  refine wf ?_
  refine s_yield L LF rfl rfl rfl (.refl _) _ (hY [] _ L (rMade_mem1 e) hJ) fun b L' hR=>?_
  refine wf ?_
  refine⟨trivial,[],L',.nil,.refl _,?_⟩
  rcases hR with ⟨_,h⟩|⟨_,h⟩
  ·exact .inl (by rw[e];exact h)
  ·exact .inr ⟨_,h⟩
 refine wn ?_
 refine pwp_condD (fun h6=>?_) (fun h6=>?_)
 ·have e:rMade c first= [{ Atm.zero with id:=⟨Dig.zero,first+0⟩,kind:=6,file:=c.file,src:=c.after,dst:=c.before,over:=c.over }]:=by rw[rMade,if_neg h1,if_neg h2,if_neg h3,if_neg h4,if_pos h6,Int.add_zero]
  refine pwp_drawN 12 ?_ ?_
  ·decide+kernel
  refine wf ?_
  refine s_yield L LF rfl rfl rfl (.refl _) _ (hY [] _ L (rMade_mem1 e) hJ) fun b L' hR=>?_
  refine wf ?_
  refine⟨trivial,[],L',.nil,.refl _,?_⟩
  rcases hR with ⟨_,h⟩|⟨_,h⟩
  ·exact .inl (by rw[e];exact h)
  ·exact .inr ⟨_,h⟩
 refine wn ?_
 refine pwp_condD (fun h7=>?_) (fun h7=>?_)
 ·have e:rMade c first= [{ Atm.zero with id:=⟨Dig.zero,first+0⟩,kind:=7,over:=c.over }]:=by rw[rMade,if_neg h1,if_neg h2,if_neg h3,if_neg h4,if_neg h6,if_pos h7,Int.add_zero]
  refine pwp_drawN 6 ?_ ?_
  ·decide+kernel
  refine wf ?_
  refine s_yield L LF rfl rfl rfl (.refl _) _ (hY [] _ L (rMade_mem1 e) hJ) fun b L' hR=>?_
  refine wf ?_
  refine⟨trivial,[],L',.nil,.refl _,?_⟩
  rcases hR with ⟨_,h⟩|⟨_,h⟩
  ·exact .inl (by rw[e];exact h)
  ·exact .inr ⟨_,h⟩
 refine wn ?_
 refine pwp_condD (fun h5=>?_) (fun h5=>?_)
 ·have e:rMade c first=(List.range c.lines.length).map (rLineA c first)++(List.range (c.lines.length+1)).map (rEdgeA c first):=by rw[rMade,if_neg h1,if_neg h2,if_neg h3,if_neg h4,if_neg h6,if_neg h7]
  have hc209: ∀ n:Nat,n≤4001→Small (0≤first∧first≤1000000000∧(0:Int)≤n∧(n:Int)≤100000):=fun n hn=>⟨by omega⟩
  refine wf ?_
  refine pwp_loopS (σ:=Nat × List Res) (fun k=>k.1≤c.lines.length∧J ((List.range k.1).map (rLineA c first)) k.2) (fun k=>c.lines.length - k.1) (fun k=> [(0,.raw (.func (.yield l) #[] #[])),(1,.pt [.raw (.int .i64 first)] 0),(2,.pt (eChg c) 0),(4,.clo 210 [.pt [.raw (.int .i64 first)] 0]),(93,.slice (c.lines.map eS) .ro),(94,.raw (.int .i64 c.lines.length)),(95,.raw (.int .i64 k.1))]) (fun k=>k.2++LF) (0,L) ⟨by simp,hJ⟩ ⟨rfl,rfl,rfl,rfl,rfl,rfl,rfl⟩ (.refl _) ?_
  rintro⟨k,L1⟩ ⟨hk,hJ1⟩
  dsimp only at hk hJ1 ⊢
  refine wn ?_
  refine pwp_condD (fun hc=>?_) (fun hc=>?_)
  ·have hlt:k < c.lines.length:=by omega
   have hsk:=hc209 k (by omega)
   refine wn ?_
   refine pwp_drawN 8 ?_ ?_
   ·decide+kernel
   refine wf ?_
   have hx:rLineA c first k= { Atm.zero with id:=⟨Dig.zero,first+k⟩,kind:=5,file:=c.file,text:=c.lines[k] }:=by simp[rLineA,List.getD,hlt]
   have hr:(List.range (k+1)).map (rLineA c first)=(List.range k).map (rLineA c first)++ [rLineA c first k]:=by rw[List.range_succ,List.map_append];rfl
   refine s_yield L1 LF rfl rfl rfl (.refl _) _ (hY ((List.range k).map (rLineA c first)) { Atm.zero with id:=⟨Dig.zero,first+k⟩,kind:=5,file:=c.file,text:=c.lines[k] } L1 ?_ hJ1) fun b L' hR=>?_
   ·rw[←hx,←hr,e]
    exact((range_prefix (by omega)).map _).trans (List.prefix_append _ _)
   rw[←hx,←hr]at hR
   refine wf ?_
   rcases hR with ⟨rfl,h⟩|⟨rfl,h⟩
   ·refine pwp_condB (t:=false) (fun h'=>by cases h') (fun _=>?_)
    refine wf ?_
    exact⟨(k+1,L'),⟨by dsimp only;omega,h⟩,by dsimp only;omega,⟨rfl,rfl,rfl,rfl,rfl,rfl,rfl⟩,.refl _⟩
   ·refine pwp_condB (t:=true) (fun _=>?_) (fun h'=>by cases h')
    refine wf ?_
    exact⟨trivial,[],L',.nil,.refl _,.inr ⟨_,h⟩⟩
  have hkk:k=c.lines.length:=by omega
  subst hkk
  generalize hA:(List.range c.lines.length).map (rLineA c first)=A at e hJ1
  refine wfb fun b8=>?_
  refine pwp_loopS (σ:=Nat × Ident × List Res) (fun k=>k.1≤c.lines.length+1∧(k.1≤c.lines.length→k.2.1=(if 0 < (k.1:Int)then⟨Dig.zero,first+k.1 - 1⟩else c.after))∧J (A++(List.range k.1).map (rEdgeA c first)) k.2.2) (fun k=>c.lines.length+1 - k.1) (fun k=> [(0,.raw (.func (.yield l) #[] #[])),(1,.pt [.raw (.int .i64 first)] 0),(2,.pt (eChg c) 0),(4,.clo 210 [.pt [.raw (.int .i64 first)] 0]),(7,.raw (.int .i64 c.lines.length)),(8,.raw (.pointer (some ⟨b8,0,none⟩))),(117,.raw (.int .i64 (c.lines.length+1))),(118,.raw (.int .i64 k.1))]) (fun k=> .box b8 115 (eIdent k.2.1)::(k.2.2++LF)) (0,c.after,L1) ⟨by simp,fun _=>rfl,by simpa using hJ1⟩ ⟨rfl,rfl,rfl,rfl,rfl,rfl,rfl,rfl⟩ (.refl _) ?_
  rintro⟨k,fr,L1⟩ ⟨hk,hfr,hJ1⟩
  dsimp only at hk hfr hJ1 ⊢
  refine wf ?_
  refine pwp_condD (fun hc=>?_) (fun hc=>?_)
  ·have hfr:=hfr (by omega)
   have hsk:=hc209 k (by omega)
   have hsk2:Small (0≤first∧first≤1000000000∧(0:Int)≤c.lines.length+k∧(c.lines.length+k:Int)≤100000):=⟨by omega⟩
   refine wfb fun b10=>?_
   refine pwp_joinG (σ:=Ident) (fun s=>s=if(k:Int) < c.lines.length then⟨Dig.zero,first+k⟩else c.before) (fun s=> [(0,.raw (.func (.yield l) #[] #[])),(1,.pt [.raw (.int .i64 first)] 0),(2,.pt (eChg c) 0),(4,.clo 210 [.pt [.raw (.int .i64 first)] 0]),(7,.raw (.int .i64 c.lines.length)),(8,.raw (.pointer (some ⟨b8,0,none⟩))),(9,.raw (.int .i64 k)),(10,.raw (.pointer (some ⟨b10,0,none⟩))),(117,.raw (.int .i64 (c.lines.length+1))),(118,.raw (.int .i64 k))]) (fun s=> .box b10 115 (eIdent s):: .box b8 115 (eIdent fr)::(L1++LF)) ?_ ?_
   ·refine pwp_condD (fun h=>?_) (fun h=>?_)
    ·refine wf ?_
     exact⟨⟨Dig.zero,first+k⟩,by rw[if_pos h],⟨rfl,rfl,rfl,rfl,rfl,rfl,rfl,rfl,rfl,rfl⟩,.refl _⟩
    ·refine wf ?_
     exact⟨c.before,by rw[if_neg h],⟨rfl,rfl,rfl,rfl,rfl,rfl,rfl,rfl,rfl,rfl⟩,.refl _⟩
   rintro to hto
   refine wn ?_
   refine pwp_drawN 11 ?_ ?_
   ·decide+kernel
   refine wf ?_
   have hx:rEdgeA c first k= { Atm.zero with id:=⟨Dig.zero,first+(c.lines.length+k)⟩,kind:=6,file:=c.file,src:=fr,dst:=to }:=by rw[rEdgeA,hfr,hto,Int.add_assoc]
   have hr:A++(List.range (k+1)).map (rEdgeA c first)=(A++(List.range k).map (rEdgeA c first))++ [rEdgeA c first k]:=by rw[List.range_succ,List.map_append,List.append_assoc];rfl
   refine s_yield L1 (.box b10 115 (eIdent to):: .box b8 115 (eIdent fr)::LF) rfl rfl rfl perm_two _ (hY (A++(List.range k).map (rEdgeA c first)) { Atm.zero with id:=⟨Dig.zero,first+(c.lines.length+k)⟩,kind:=6,file:=c.file,src:=fr,dst:=to } L1 ?_ hJ1) fun b L' hR=>?_
   ·rw[←hx,←hr,e]
    exact(List.prefix_append_right_inj _).2 ((range_prefix (by omega)).map _)
   rw[←hx,←hr]at hR
   refine wf ?_
   rcases hR with ⟨rfl,h⟩|⟨rfl,h⟩
   ·refine pwp_condB (t:=false) (fun h'=>by cases h') (fun _=>?_)
    refine pwp_perm perm_two.symm ?_
    refine wf ?_
    refine⟨(k+1,to,L'),⟨by dsimp only;omega,?_,h⟩,by dsimp only;omega,⟨rfl,rfl,rfl,rfl,rfl,rfl,rfl,rfl⟩,.cons _ (.refl _)⟩
    intro h'
    dsimp only at h' ⊢
    rw[hto,if_pos (by omega),if_pos (by omega)]
    congr 1
    push_cast;omega
   ·refine pwp_condB (t:=true) (fun _=>?_) (fun h'=>by cases h')
    refine wf ?_
    exact⟨trivial,[],L',.nil,(List.Sublist.refl _).append (.cons _ (.cons _ (.refl _))),.inr ⟨_,h⟩⟩
  refine wf ?_
  have hkk:k=c.lines.length+1:=by omega
  subst hkk
  exact⟨trivial,[],L1,.nil,.cons _ (.refl _),.inl (by rw[e];exact hJ1)⟩
 ·exact absurd h5 (by omega)
instance made_ct (c:Chg) (first:Int):FnC Tryz.prog 170 [.agg (eChg c),.raw (.int .i64 first)] (.clo 209 (mCaps c first)):=⟨by
 refine fn_of Tryz.func170 Tryz.ntmps170 rfl (rs:= [.tmp 4]) rfl rfl fun hb LF=>?_
 refine wf ?_
 refine end1 (.of_eq ?_)
 rfl⟩
end Go.Proofs
namespace Go.Q
open Go
section
variable {P:Program} {w w':World} {g:Gh} {L:List Res}
theorem Inv.later (hi:Inv w g L) (hk: ∀ k,k < w.heap.size→w'.heap[k]? =w.heap[k]?):Inv w' g L:=by
 refine⟨fun b i v h=>?_,fun b z h=>(hi.satM b z h).congr (hk b (hi.satM b z h).lt),fun r hr=>?_,hi.nodup,hi.glob⟩
 ·have h0:=hi.sat b i v h
  have hb:b < w.heap.size:=by
   rcases Nat.lt_or_ge b w.heap.size with h'|h'
   ·exact h'
   ·simp[World.cell?,Array.getElem?_eq_none h']at h0
  simp only[World.cell?]at h0 ⊢
  rw[hk b hb];exact h0
 ·exact Res.holds_kept (.refl g) (hi.res r hr) fun b hb=>⟨hk b (hi.lt (List.mem_filterMap.2 ⟨r,hr,hb⟩)),fun _=>rfl,rfl⟩
theorem Inv.other {l:Nat} (hi:Inv w g L) (hH: ∀ o,g.H l o=none) (hM:g.M l=none) (hl:l∉blocks L) (hk: ∀ k,k≠l→w'.heap[k]? =w.heap[k]?):Inv w' g L:=by
 refine⟨fun b i v h=>?_,fun b z h=>?_,fun r hr=>?_,hi.nodup,hi.glob⟩
 ·have:b≠l:=fun e=>by subst e;rw[hH]at h;cases h
  have h0:=hi.sat b i v h
  simp only[World.cell?]at h0 ⊢
  rw[hk b this];exact h0
 ·have:b≠l:=fun e=>by subst e;rw[hM]at h;cases h
  exact(hi.satM b z h).congr (hk b this)
 ·exact Res.holds_kept (.refl g) (hi.res r hr) fun b hb=>⟨hk b (fun e=>hl (List.mem_filterMap.2 ⟨r,hr,by rw[hb,e]⟩)),fun _=>rfl,rfl⟩
theorem Inv.rawHead {l:Nat} {o:Obj} (hi:Inv w g (.raw l o::L)):w.heap[l]? =some o∧(∀ o,g.H l o=none)∧g.M l=none∧l∉blocks L∧Inv w g L:=by
 obtain⟨h1,h2,h3⟩:=hi.res _ (List.mem_cons_self)
 have hnd:=hi.nodup
 simp only[blocks,List.filterMap_cons,Res.block]at hnd
 exact⟨h1,h2,h3,(List.nodup_cons.1 hnd).1,hi.sub (List.sublist_cons_self _ _)⟩
theorem Inv.turnRaw {l:Nat} {o o':Obj} (hi:Inv w g (.raw l o::L)) (h:w'.heap[l]? =some o') (hk: ∀ k,k≠l→w'.heap[k]? =w.heap[k]?):Inv w' g (.raw l o'::L):=by
 obtain⟨_,h2,h3,hn,hi'⟩:=hi.rawHead
 exact(hi'.other h2 h3 hn hk).addRaw h h2 h3 hn
theorem fn_ext {f:FuncId} {args:List PV} {X:PV} (h: ∀ vs w g LF,VRl g vs args→Inv w g LF→Calls P f vs.toArray w (fun e w'=> ∃ v,e= .returned v∧(∀ g,VR g v X)∧w'.os=w.os∧w'.tape=w.tape∧w'.output=w.output∧w.drawn≤w'.drawn∧w.heap.size≤w'.heap.size∧ ∀ k,k < w.heap.size→w'.heap[k]? =w.heap[k]?)):Fn P f args X:=fun vs w g LF hv hi=>by
 rw[List.nil_append]at hi
 refine(h vs w g LF hv hi).mono ?_
 rintro e w' ⟨v,rfl,h1,h2,h3,h4,h5,h6,h7⟩
 exact⟨v,X,g,[],rfl,h1 g,hi.later h7,⟨h2,h3,⟨h4,h5⟩,h6,fun k hk _=>h7 k hk,.refl g,fun _ _ _=>⟨fun _=>rfl,rfl⟩⟩,.refl _ _,rfl,rfl⟩
end
def bcs (l:List UInt8):List Value:=l.map fun b=>Value.int .u8 b.toNat
@[simp] theorem len_bcs (l:List UInt8):(bcs l).length=l.length:=by simp[bcs]
theorem bcs_append (l m:List UInt8):bcs (l++m)=bcs l++bcs m:=by simp[bcs]
class TRow (P:Program) (T:Nat) (E:outParam Nat):Prop where
 out: ∃ i,P.underlying T=some (.slice E)∧P.info? E=some i∧i.size=1∧i.bytes=1∧i.zero=some (.int .u8 0)∧P.cellsOf E=1
inductive RowOf (E:Nat):Value→List UInt8→List Res→Prop
 |nil:RowOf E (.slice none 0 0) [] []
 |row {r cap:Nat} {cur:Array Value} {l:List UInt8} (hl:l.length≤cap) (hs:cur.size=cap) (hc:cur.toList.take l.length=bcs l):RowOf E (.slice (some ⟨r,0,none⟩) l.length cap) l [.raw r (.cells cur E (0,0))]
theorem grown_row {w:World} {g:Gh} {R LF:List Res} (hi:Inv w g (R++LF)) (o:Obj):Inv (w.drew.alloc o) g (.raw w.heap.size o::LF)∧Step (blocks (R++LF)) w g (w.drew.alloc o) g∧Within w (R++LF) (.raw w.heap.size o::LF):=by
 have hk: ∀ k,k < w.heap.size→(w.drew.alloc o).heap[k]? =w.heap[k]?:=fun k hk=>by
  show(w.heap.push o)[k]? =_
  rw[Array.getElem?_push,if_neg (by omega)]
 have h1:(w.drew.alloc o).heap[w.heap.size]? =some o:=by show(w.heap.push o)[w.heap.size]? =_;simp
 have hiL:Inv w g LF:=hi.sub (List.sublist_append_right _ _)
 obtain⟨h2,h3⟩:=hi.fresh (Nat.le_refl w.heap.size)
 refine⟨(hiL.later hk).addRaw h1 h2 h3 (fun h=>Nat.lt_irrefl _ (hiL.lt h)),⟨rfl,rfl,⟨rfl,Nat.le_succ _⟩,by simp,fun k h _=>hk k h,.refl g,fun _ _ _=>⟨fun _=>rfl,rfl⟩⟩,fun b hb hlt=>?_⟩
 simp only[blocks,List.filterMap_cons,Res.block]at hb
 rcases List.mem_cons.1 hb with rfl|hb
 ·exact absurd hlt (Nat.lt_irrefl _)
 ·simp only[blocks,List.filterMap_append];exact List.mem_append_right _ hb
theorem app_core {P:Program} {T T₂ E ty:Nat} [hT:TRow P T E] (hu:P.underlying T₂=some .string∨ ∃ e,P.underlying T₂=some (.slice e)) {w:World} {g:Gh} {LF R:List Res} {v:Value} {l:List UInt8} (u:Value) (s:List UInt8)
  (hi:Inv w g (R++LF)) (hv:RowOf E v l R) (hl: ∀ w',(Builtin.lenOf u).run P w'= .ok s.length w')
  (hf: ∀ w',(∀ b o x,g.H b o=some x→w'.cell? ⟨b,o,none⟩=some x)→(Builtin.firstCells 1 s.length u).run P w'= .ok (bcs s).toArray w') (hb:l.length+s.length≤140737488355328):
  ∃ v' w' R',(Builtin.append_ #[T,T₂] ty #[v,u]).run P w= .ok v' w'∧RowOf E v' (l++s) R'∧Inv w' g (R'++LF)∧Step (blocks (R++LF)) w g w' g∧Within w (R++LF) (R'++LF):=by
 obtain⟨i,t1,t2,t3,t4,t5,_⟩:=hT.out
 have hone: ∀ x∈bcs s,x.oneCell'=true:=fun x hx=>by
  obtain⟨b,_,rfl⟩:=List.mem_map.1 hx;rfl
 have grown: ∀ cap nc (base:Option Addr),¬(l.length+s.length≤cap)→v= .slice base l.length cap→(∀ w',w'.heap=w.heap→(Builtin.firstCells 1 l.length (.slice base l.length cap)).run P w'= .ok (bcs l).toArray w')→nc=grownCap w (l.length+s.length) cap E→
   (Builtin.append_ #[T,T₂] ty #[v,u]).run P w= .ok (.slice (some ⟨w.heap.size,0,none⟩) (l.length+s.length) nc) (w.drew.alloc (.cells ((bcs l++bcs s).toArray++Builtin.zeroCells (Value.int .u8 0).cells (nc - (l.length+s.length))) E (0,0))):=by
  rintro cap nc base hn rfl hfl rfl
  have hcapb:Builtin.nextslicecap (l.length+s.length) cap≤2 ^ 48:=by
   have:=nextslicecap_le (show cap < l.length+s.length by omega)
   have:(2:Nat) ^ 48=2*140737488355328:=by decide
   omega
  have h63': ¬(9223372036854775807 < ((l.length:Int)+(s.length:Int))):=by omega
  have h48': ¬(281474976710656 < Builtin.nextslicecap (l.length+s.length) cap*i.bytes):=by
   rw[t4];have:(2:Nat) ^ 48=281474976710656:=by decide
   omega
  have f1:=hfl w.drew rfl
  have f2:=hf w.drew hi.sat
  rcases hu with hu|⟨e,hu⟩<;>
  ·simp[Builtin.append_,run_underlying t1,run_underlying hu,sizeOf,typeInfo,zeroValue,t2,t3,t5,hl,hn,h63',h48',Question.forced,f1,f2,newRow,grownCap]
   congr 2
   apply Array.ext'
   simp[List.append_assoc]
 have res: ∀ nc,l.length+s.length≤nc→ ∃ R',RowOf E (.slice (some ⟨w.heap.size,0,none⟩) (l.length+s.length) nc) (l++s) R'∧Inv (w.drew.alloc (.cells ((bcs l++bcs s).toArray++Builtin.zeroCells (Value.int .u8 0).cells (nc - (l.length+s.length))) E (0,0))) g (R'++LF)∧
   Step (blocks (R++LF)) w g (w.drew.alloc (.cells ((bcs l++bcs s).toArray++Builtin.zeroCells (Value.int .u8 0).cells (nc - (l.length+s.length))) E (0,0))) g∧Within w (R++LF) (R'++LF):=fun nc hnc=>by
  obtain⟨k1,k2,k3⟩:=grown_row hi (.cells ((bcs l++bcs s).toArray++Builtin.zeroCells (Value.int .u8 0).cells (nc - (l.length+s.length))) E (0,0))
  refine⟨[.raw w.heap.size (.cells ((bcs l++bcs s).toArray++Builtin.zeroCells (Value.int .u8 0).cells (nc - (l.length+s.length))) E (0,0))],?_,k1,k2,k3⟩
  have:=RowOf.row (E:=E) (r:=w.heap.size) (cap:=nc) (cur:=(bcs l++bcs s).toArray++Builtin.zeroCells (Value.int .u8 0).cells (nc - (l.length+s.length))) (l:=l++s) (by simpa using hnc) (by
   have hz1:(Value.int IntKind.u8 0).cells.size=1:=rfl
   simp[size_zeroCells,hz1];omega) (by
   simp only[Array.toList_append,bcs_append]
   rw[←bcs_append,List.take_left' (by simp)])
  simpa using this
 cases hv with
 |nil=>
  by_cases hs:s= []
  ·subst hs
   refine⟨.slice none 0 0,w,[],?_,.nil,hi,.refl _ _ _,.refl _ _⟩
   have f2:=hf w hi.sat
   simp only[List.length_nil]at f2 hl
   rcases hu with hu|⟨e,hu⟩<;>simp[Builtin.append_,run_underlying t1,run_underlying hu,sizeOf,typeInfo,t2,t3,hl,f2,bcs]
  ·have hpos:0 < s.length:=List.length_pos_iff.2 hs
   have hr:=grown 0 _ none (by simp;omega) rfl (fun w' _=>rfl) rfl
   obtain⟨R',k1,k2,k3,k4⟩:=res _ (grownCap_ge w (([]:List UInt8).length+s.length) 0 E)
   exact⟨_,_,R',hr,k1,k2,k3,k4⟩
 |row hlc hs hc=>
  rename_i r cap cur
  obtain⟨h1,h2,h3,hn,hiL⟩:=hi.rawHead
  by_cases hroom:l.length+s.length≤cap
  ·have hbk':w.heap[r]? =some (.cells cur.toList.toArray E (0,0)):=by simpa using h1
   obtain⟨w',hrun,hb',hos,htp,hout,hsz',hkk⟩:=storeCells_run (P:=P) (bcs s) w cur.toList l.length 0 hbk' (by simp[hs];omega) hone
   refine⟨.slice (some ⟨r,0,none⟩) (l.length+s.length) cap,w',[.raw r (.cells (cur.toList.take (l.length+0)++bcs s++cur.toList.drop (l.length+0+(bcs s).length)).toArray E (0,0))],?_,?_,hi.turnRaw hb' hkk,⟨hos,htp,hout,Nat.le_of_eq hsz'.symm,fun k _ hk=>hkk k (fun e=>hk (by simp[blocks,Res.block,e])),.refl g,fun _ _ _=>⟨fun _=>rfl,rfl⟩⟩,fun b hb _=>by simpa [blocks,Res.block]using hb⟩
   ·have f2:=hf w hi.sat
    rcases hu with hu|⟨e,hu⟩<;>simp[Builtin.append_,run_underlying t1,run_underlying hu,sizeOf,typeInfo,t2,t3,hl,hroom,f2,add_plain,hrun]
   ·have:=RowOf.row (E:=E) (r:=r) (cap:=cap) (cur:=(cur.toList.take (l.length+0)++bcs s++cur.toList.drop (l.length+0+(bcs s).length)).toArray) (l:=l++s) (by simpa using hroom) (by
     simp only[List.size_toArray,List.length_append,List.length_take,List.length_drop,Array.length_toList,hs,len_bcs,Nat.add_zero];omega) (by
     rw[Nat.add_zero,hc,←bcs_append,List.take_left' (by simp)])
    simpa using this
  ·have hr:=grown cap _ (some ⟨r,0,none⟩) hroom rfl (fun w' hw'=>by
    show(loadCells _ (l.length*1)).run P w'=_
    rw[Nat.mul_one,←len_bcs l]
    refine loadCells_run fun j hj=>?_
    have hj2:j < cur.toList.length:=by rw[Array.length_toList,hs];rw[len_bcs]at hj;omega
    simp only[World.cell?,hw',h1,Option.isSome_none,Bool.false_eq_true,if_false,Nat.zero_add]
    have:(bcs l)[j]=cur.toList[j]:=by
     have:=List.getElem_of_eq hc.symm hj
     rw[this,List.getElem_take]
    rw[this]
    simp[Array.getElem?_eq_getElem (show j < cur.size by simpa using hj2)]) rfl
   obtain⟨R',k1,k2,k3,k4⟩:=res _ (grownCap_ge w (l.length+s.length) cap E)
   exact⟨_,_,R',hr,k1,k2,k3,k4⟩
section
variable {P:Program} {N:Nat} {all:Array Oper} {K:Env→List Res→Prop} {fl:List Bool} {os:List Oper} {ρ:Env} {L:List Res} {d:Nat} {ty:TypeId} {pos:String} {af:Array Edge}
theorem firstStr (s:List UInt8) (w:World):(Builtin.firstCells 1 s.length (.string ⟨s.toArray⟩)).run P w= .ok (bcs s).toArray w:=by
 have h:=Lib.run_firstCells_string (P:=P) w 1 ⟨s.toArray⟩
 have e:(⟨s.toArray⟩:ByteArray).size=s.length:=by simp[ByteArray.size]
 rw[e]at h
 rw[h];congr 1
theorem s_appStr {T T₂ E:Nat} [hT:TRow P T E] [h2:TStr P T₂] {x y:Operand} {v:Value} {l s:List UInt8} {R LF:List Res} (F:List Res→List Res) {ay:PV} (hx:ρ.ev x= .raw v) (hy:ρ.ev y=ay) [jy:IsStr ay s] (hv:RowOf E v l R) (hp:L.Perm (R++LF)) (hq: ∀ R',(R'++LF).Perm (F R')) (hb:l.length+s.length≤140737488355328)
  (k: ∀ v' R',RowOf E v' (l++s) R'→pops P N all K fl.tail os (upd ρ d (.raw v')) (F R')) (hd:Nat.blt d N=true:=by rfl) (hfl:fl.headD true=true:=by rfl):
  pops P N all K fl (⟨some d,.call { callee:= .builtin .append,args:= #[x,y],argTypes:= #[T,T₂] },ty,pos,af,none⟩::os) ρ L:=
 pops_n rfl (dlt hd) hfl (OpN.perm hp fun a w g ha hi=>by
  have h1:=evRaw ha (x:=x) (by simp[Op.operands,Call.operands]) hx
  have h3:=ha y (by simp[Op.operands,Call.operands])
  rw[hy]at h3
  have e:a.eval y= .string ⟨s.toArray⟩:=jy.out g _ h3
  obtain⟨v',w',R',q1,q2,q3,q4,q5⟩:=app_core (P:=P) (T:=T) (T₂:=T₂) (ty:=ty) (.inl h2.out) (.string ⟨s.toArray⟩) s hi hv (fun _=>by simp[Builtin.lenOf,ByteArray.size]) (fun w' _=>firstStr s w') hb
  have he:execOp a.eval ⟨some d,.call { callee:= .builtin .append,args:= #[x,y],argTypes:= #[T,T₂] },ty,pos,af,none⟩=(do pure (.value (←Builtin.append_ #[T,T₂] ty (#[x,y].map a.eval)))):=rfl
  have hr:(execOp a.eval ⟨some d,.call { callee:= .builtin .append,args:= #[x,y],argTypes:= #[T,T₂] },ty,pos,af,none⟩).run P w= .ok (.value v') w':=by
   rw[he];simp[h1,e,q1]
  refine Oper.wq_of_run hr ?_
  exact⟨v',.raw v',g,F R',rfl,.raw _,q3.perm (hq R'),q4,fun b hb hlt=>q5 b ((blocks_perm (hq R')).symm.subset hb) hlt,k v' R' q2⟩)
theorem s_appByte {T T₂ E E₂:Nat} [hT:TRow P T E] [h2:TSl P T₂ E₂] {x y:Operand} {v:Value} {l:List UInt8} {c:UInt8} {t:Tag} {R LF:List Res} (F:List Res→List Res) (hx:ρ.ev x= .raw v) (hy:ρ.ev y= .slice [[.raw (.int .u8 c.toNat)]] t) (hv:RowOf E v l R) (hp:L.Perm (R++LF)) (hq: ∀ R',(R'++LF).Perm (F R')) (hb:l.length+1≤140737488355328)
  (k: ∀ v' R',RowOf E v' (l++ [c]) R'→pops P N all K fl.tail os (upd ρ d (.raw v')) (F R')) (hd:Nat.blt d N=true:=by rfl) (hfl:fl.headD true=true:=by rfl):
  pops P N all K fl (⟨some d,.call { callee:= .builtin .append,args:= #[x,y],argTypes:= #[T,T₂] },ty,pos,af,none⟩::os) ρ L:=
 pops_n rfl (dlt hd) hfl (OpN.perm hp fun a w g ha hi=>by
  have h1:=evRaw ha (x:=x) (by simp[Op.operands,Call.operands]) hx
  have h3:=ha y (by simp[Op.operands,Call.operands])
  rw[hy]at h3
  obtain⟨base,cap,e,_,_,hnone,_,_,us,hus,hcell⟩:=h3.slice_cells (sz:=1) (by simp)
  simp only[List.flatten_cons,List.flatten_nil,List.append_nil]at hus
  obtain⟨v1,rfl⟩: ∃ v1,us= [v1]:=by
   have:=hus.len
   match us,this with
   | [v1],_=>exact⟨v1,rfl⟩
  rw[hus.uncons.1.raw_inv]at hcell
  simp only[List.length_cons,List.length_nil,Nat.zero_add]at e
  obtain⟨v',w',R',q1,q2,q3,q4,q5⟩:=app_core (P:=P) (T:=T) (T₂:=T₂) (ty:=ty) (.inr ⟨_,h2.out⟩) (.slice base 1 cap) [c] hi hv (fun _=>rfl) (fun w' hs'=>by
   cases base with
   |none=>exact absurd (hnone rfl).1 (by simp)
   |some ad=>
    obtain⟨b,o,sp⟩:=ad
    obtain⟨hs,hH⟩:=hcell _ rfl
    rcases hs with ⟨e3,_⟩|hs
    ·cases e3
    simp only at hs
    subst hs
    exact loadCells_run (vs:= [.int .u8 c.toNat]) fun j hj=>hs' _ _ _ (hH j hj)) (by simpa using hb)
  have he:execOp a.eval ⟨some d,.call { callee:= .builtin .append,args:= #[x,y],argTypes:= #[T,T₂] },ty,pos,af,none⟩=(do pure (.value (←Builtin.append_ #[T,T₂] ty (#[x,y].map a.eval)))):=rfl
  have hr:(execOp a.eval ⟨some d,.call { callee:= .builtin .append,args:= #[x,y],argTypes:= #[T,T₂] },ty,pos,af,none⟩).run P w= .ok (.value v') w':=by
   rw[he];simp[h1,e,q1]
  refine Oper.wq_of_run hr ?_
  exact⟨v',.raw v',g,F R',rfl,.raw _,q3.perm (hq R'),q4,fun b hb hlt=>q5 b ((blocks_perm (hq R')).symm.subset hb) hlt,k v' R' q2⟩)
theorem s_lenR {T:TypeId} {E:Nat} [hT:TSl P T E] {x:Operand} {a:Option Addr} {n c:Nat} (hx:ρ.ev x= .raw (.slice a n c)) (k:pops P N all K fl.tail os (upd ρ d (.raw (.int .i64 n))) L) (hd:Nat.blt d N=true:=by rfl):
  pops P N all K fl (⟨some d,.call { callee:= .builtin .len,args:= #[x],argTypes:= #[T] },ty,pos,af,none⟩::os) ρ L:=
 step_q hd (qop_of_run fun a' w g ha hi=>⟨.int .i64 n,by
  have h1:=evRaw ha (x:=x) (by simp[Op.operands,Call.operands]) hx
  have he:execOp a'.eval ⟨some d,.call { callee:= .builtin .len,args:= #[x],argTypes:= #[T] },ty,pos,af,none⟩=(do pure (.value (←Builtin.len_ #[T] ty (#[x].map a'.eval)))):=rfl
  rw[he]
  simp[Builtin.len_,h1,run_und hT.out,goInt],.raw _⟩) k
theorem s_sliceData {T:TypeId} {x:Operand} {a:Addr} {n c:Nat} (hx:ρ.ev x= .raw (.slice (some a) n c)) (hc:c≠0) (k:pops P N all K fl.tail os (upd ρ d (.raw (.pointer (some a)))) L) (hd:Nat.blt d N=true:=by rfl):
  pops P N all K fl (⟨some d,.call { callee:= .builtin .unsafeSliceData,args:= #[x],argTypes:= #[T] },ty,pos,af,none⟩::os) ρ L:=
 step_q hd (qop_of_run fun a' w g ha hi=>⟨.pointer (some a),by
  have h1:=evRaw ha (x:=x) (by simp[Op.operands,Call.operands]) hx
  have he:execOp a'.eval ⟨some d,.call { callee:= .builtin .unsafeSliceData,args:= #[x],argTypes:= #[T] },ty,pos,af,none⟩=(do pure (.value (←Builtin.unsafeSliceData_ #[T] ty (#[x].map a'.eval)))):=rfl
  rw[he]
  have:=Lib.run_unsafeSliceData_row (P:=P) w #[T] ty a n c hc
  simp[h1,this],.raw _⟩) k
theorem s_unsafeString {T T₂ E r:Nat} (hT:P.underlying T=some (.pointer E)) (hE:P.cellsOf E=1) {x y:Operand} {cur:Array Value} {l:List UInt8} {L':List Res} (hx:ρ.ev x= .raw (.pointer (some ⟨r,0,none⟩))) (hy:ρ.ev y= .raw (.int .i64 l.length)) (hp:L.Perm (.raw r (.cells cur E (0,0))::L'))
  (h0:l≠ []) (hl:l.length≤cur.size) (hc:cur.toList.take l.length=bcs l) (hb:l.length≤140737488355328) (k:pops P N all K fl.tail os (upd ρ d (.str l)) L') (hd:Nat.blt d N=true:=by rfl) (hfl:fl.headD true=true:=by rfl):
  pops P N all K fl (⟨some d,.call { callee:= .builtin .unsafeString,args:= #[x,y],argTypes:= #[T,T₂] },ty,pos,af,none⟩::os) ρ L:=
 pops_n rfl (dlt hd) hfl (OpN.perm hp fun a w g ha hi=>by
  have h1:=evRaw ha (x:=x) (by simp[Op.operands,Call.operands]) hx
  have h2:=evRaw ha (x:=y) (by simp[Op.operands,Call.operands]) hy
  obtain⟨k1,k2,k3,k4,k5⟩:=hi.rawHead
  have he:execOp a.eval ⟨some d,.call { callee:= .builtin .unsafeString,args:= #[x,y],argTypes:= #[T,T₂] },ty,pos,af,none⟩=(do pure (.value (←Builtin.unsafeString_ #[T,T₂] ty (#[x,y].map a.eval)))):=rfl
  have hrun:=Lib.run_unsafeString_row (P:=P) w T T₂ ty E hT hE r cur.size (by simp[World.shape?,k1]) l h0 hl (by omega) (fun j x hj=>by
   have hjl:=(List.getElem?_eq_some_iff.1 hj).1
   have e1:(bcs l)[j]? =some (.int .u8 x.toNat):=by simp[bcs,hj]
   rw[←hc,List.getElem?_take,if_pos hjl]at e1
   rw[add_plain]
   simp only[World.cell?,k1,Option.isSome_none,Bool.false_eq_true,if_false,Nat.zero_add]
   simpa using e1)
  have hr:(execOp a.eval ⟨some d,.call { callee:= .builtin .unsafeString,args:= #[x,y],argTypes:= #[T,T₂] },ty,pos,af,none⟩).run P w= .ok (.value (.string ⟨l.toArray⟩)) (w.freeze ⟨r,0,none⟩ l.length):=by
   rw[he];simp[h1,h2,hrun]
  have hk: ∀ b,b≠r→(w.freeze ⟨r,0,none⟩ l.length).heap[b]? =w.heap[b]?:=fun b hb=>by
   unfold World.freeze
   split
   ·rfl
   ·simp[Array.getElem?_modify,Ne.symm hb]
  have hsz:(w.freeze ⟨r,0,none⟩ l.length).heap.size=w.heap.size:=by
   unfold World.freeze
   split<;>simp
  have hws:(w.freeze ⟨r,0,none⟩ l.length).os=w.os∧(w.freeze ⟨r,0,none⟩ l.length).tape=w.tape∧(w.freeze ⟨r,0,none⟩ l.length).output=w.output∧(w.freeze ⟨r,0,none⟩ l.length).drawn=w.drawn:=by
   unfold World.freeze
   split<;>exact⟨rfl,rfl,rfl,rfl⟩
  refine Oper.wq_of_run hr ?_
  exact⟨_,.str l,g,L',rfl,.str (by show l.length≤maxN;exact hb),k5.other k2 k3 k4 hk,⟨hws.1,hws.2.1,⟨hws.2.2.1,Nat.le_of_eq hws.2.2.2.symm⟩,Nat.le_of_eq hsz.symm,fun b _ hb=>hk b (fun e=>hb (by simp[blocks,Res.block,e])),.refl g,fun _ _ _=>⟨fun _=>rfl,rfl⟩⟩,
   fun b hb _=>by simp only[blocks,List.filterMap_cons,Res.block];exact List.mem_cons_of_mem _ hb,k⟩)
instance {x y:PV}:At [x,y] 0 x:=⟨rfl⟩
instance {x y:PV}:At [x,y] 1 y:=⟨rfl⟩
theorem RowOf.one {E:Nat} {v:Value} {l:List UInt8} {R:List Res} (h:RowOf E v l R):v.oneCell'=true:=by cases h<;>rfl
theorem s_storeV {T:TypeId} {x y:Operand} {b off by_:Nat} {cs:List PV} {v:Value} {L':List Res} [hT:TSz P T 1 by_] (cs':List PV)
  (hx:ρ.ev x= .raw (.pointer (some ⟨b,off,none⟩))) (hy:ρ.ev y= .raw v) (hv:v.oneCell'=true) [hB:BoxAt b L cs] (hp:cs.take off++ [.raw v]++cs.drop (off+1)=cs') (hle:off+1≤cs.length) [hu:UpdC b cs cs' L L']
  (k:pops P N all K fl.tail os ρ L') (hfl:fl.headD true=true:=by rfl):pops P N all K fl (⟨none,.store T x y,ty,pos,af,none⟩::os) ρ L:=
 pops_n rfl (fun _ e=>by cases e) hfl (opN_store (new:= [.raw v]) (cs:=cs) (cs':=cs') hx (fun g v' hv'=>by
  rw[hy]at hv'
  rw[hv'.raw_inv]
  refine⟨[v],?_,.cons (.raw v) (.nil g)⟩
  cases v<;>first|rfl|cases hv) rfl (fun x hx=>by
   rcases List.mem_cons.1 hx with rfl|h
   ·exact⟨by simp,by simp,fun u e=>by cases e;exact hv,by simp⟩
   ·cases h) hp hle hu.out k)
theorem le_func (f:Nat):Le (.raw (.func (.func f) #[] #[])) (.clo f []):=Norm.out
theorem TRow.of {P:Program} {T E:Nat} (h1:P.underlying T=some (.slice E)) (h2:(P.info? E).map (fun i=>(i.zero,i.size,i.bytes))=some (some (.int .u8 0),1,1)) (h3:P.cellsOf E=1):TRow P T E:=⟨by
 obtain⟨i,hi,e⟩:=Option.map_eq_some_iff.1 h2
 injection e with e1 e2
 injection e2 with e2 e3
 exact⟨i,h1,hi,e2,e3,e1,h3⟩⟩
class TPt (P:Program) (T:Nat) (E sz:outParam Nat):Prop where
 out:P.underlying T=some (.pointer E)∧ ∃ j,P.info? E=some j∧j.size=sz
theorem TPt.of {P:Program} {T E sz:Nat} (h1:P.underlying T=some (.pointer E)) (h2:(P.info? E).map (·.size)=some sz):TPt P T E sz:=⟨h1,Option.map_eq_some_iff.1 h2⟩
theorem s_eqPN {T T' E sz:Nat} [hT:TPt P T E sz] {x y:Operand} {p:Option Addr} (hx:ρ.ev x= .raw (.pointer p)) (hy:ρ.ev y= .raw (.pointer none)) (k:pops P N all K fl.tail os (upd ρ d (.raw (.bool p.isNone))) L) (hd:Nat.blt d N=true:=by rfl):
  pops P N all K fl (⟨some d,.binOp .eql T x y T',ty,pos,af,none⟩::os) ρ L:=
 s_bin hx hy (fun w=>by unfold eqGuard;simp) (fun w=>by
  have h: ∀ d:Nat,(Op.equalIn (d+1) T (.pointer p) (.pointer none)).run P w= .ok p.isNone w:=fun d=>by
   cases p<;>simp[Op.equalIn,run_underlying hT.out.1]
  simp only[binOp]
  simp[Op.equal,Op.maxDepth,h 9999]) k hd
theorem s_nePP {T T' E sz:Nat} [hT:TPt P T E sz] {x y:Operand} {a:Addr} (hx:ρ.ev x= .raw (.pointer (some a))) (hy:ρ.ev y= .raw (.pointer (some a))) (k:pops P N all K fl.tail os (upd ρ d (.raw (.bool false))) L) (hd:Nat.blt d N=true:=by rfl):
  pops P N all K fl (⟨some d,.binOp .neq T x y T',ty,pos,af,none⟩::os) ρ L:=
 s_bin hx hy (fun w=>by unfold eqGuard;simp) (fun w=>by
  obtain⟨h1,j,h2,_⟩:=hT.out
  exact Lib.run_neq_ptr_same w a h1 h2) k hd
theorem s_toUnsafe {S D E sz T' b:Nat} [hS:TPt P S E sz] (hD:P.underlying D=some .unsafePointer) (hz:sz≠0) {x:Operand} {cs:List PV} (hx:ρ.ev x= .raw (.pointer (some ⟨b,0,none⟩))) (hm:Res.box b T' cs∈L) (hc:cs≠ []) (k:pops P N all K fl.tail os (upd ρ d (.raw (.pointer (some ⟨b,0,none⟩)))) L) (hd:Nat.blt d N=true:=by rfl):
  pops P N all K fl (⟨some d,.convert S D x,ty,pos,af,none⟩::os) ρ L:=
 step_q hd (qop_of_run fun a w g ha hi=>⟨.pointer (some ⟨b,0,none⟩),by
  have h1:=evRaw ha (x:=x) (by simp[Op.operands]) hx
  obtain⟨vs,hb,hvs,_⟩:=hi.res _ hm
  obtain⟨q1,j,q2,q3⟩:=hS.out
  have hl:0 < vs.length:=by rw[hvs.len];exact List.length_pos_iff.2 hc
  have hrun:=Lib.run_to_unsafe (P:=P) w ⟨b,0,none⟩ q1 hD q2 (by rw[q3];exact hz) (e:=T') (cells:=vs.length) (by simp[World.shape?,hb]) hl
  have he:execOp a.eval ⟨some d,.convert S D x,ty,pos,af,none⟩=(do pure (.value (←convert S D (a.eval x)))):=rfl
  rw[he];simp[h1,hrun],.raw _⟩) k
theorem s_fromUnsafe {S D E sz T' b:Nat} [hD:TPt P D E sz] (hS:P.underlying S=some .unsafePointer) {x:Operand} {cs:List PV} (hx:ρ.ev x= .raw (.pointer (some ⟨b,0,none⟩))) (hm:Res.box b T' cs∈L) (hl:liesAt P P.depth T' (cs.length / P.cellsOf T') 0 E 1=true) (k:pops P N all K fl.tail os (upd ρ d (.raw (.pointer (some ⟨b,0,none⟩)))) L) (hd:Nat.blt d N=true:=by rfl):
  pops P N all K fl (⟨some d,.convert S D x,ty,pos,af,none⟩::os) ρ L:=
 step_q hd (qop_of_run fun a w g ha hi=>⟨.pointer (some ⟨b,0,none⟩),by
  have h1:=evRaw ha (x:=x) (by simp[Op.operands]) hx
  obtain⟨vs,hb,hvs,_⟩:=hi.res _ hm
  obtain⟨q1,j,q2,q3⟩:=hD.out
  have hrun:=Lib.run_from_unsafe (P:=P) w ⟨b,0,none⟩ hS q1 q2 (e:=T') (cells:=vs.length) (by simp[World.shape?,hb]) (by rw[hvs.len];exact hl)
  have he:execOp a.eval ⟨some d,.convert S D x,ty,pos,af,none⟩=(do pure (.value (←convert S D (a.eval x)))):=rfl
  rw[he];simp[h1,hrun],.raw _⟩) k
theorem extC_same {f:Nat} {fn:Func} (hf:P.funcs[f]? =some fn) (hn:(fn.name== "runtime.NumGoroutine")=false) (hb:fn.body.isNone=true) (h1:Extern.findNext fn=none) (h2:Extern.find fn=some Extern.AbiNoEscape.same) (v:Value):
  ExtC P f [.raw v] (.raw v):=⟨fun vs w g hv hs=>by
 match vs,hv with
 | [x],hv=>
   have e:=hv.uncons.1.raw_inv
   subst e
   refine⟨x,?_,.raw _⟩
   rw[run_callFunc_extern hf hn hb h1 h2]
   rw[show #[x]= [x].toArray from rfl]at*
   rfl
 | [],hv=>have:=hv.len;simp at this
 |_::_::_,hv=>have:=hv.len;simp at this⟩
theorem s_storeP {T:TypeId} {x y:Operand} {b off by_:Nat} {cs:List PV} {ay:PV} {L':List Res} [hT:TSz P T 1 by_] (cs':List PV)
  (hx:ρ.ev x= .raw (.pointer (some ⟨b,off,none⟩))) (hy:ρ.ev y=ay) [hB:BoxAt b L cs] (hf:flat [ay]) (hp:cs.take off++ [ay]++cs.drop (off+1)=cs') (hle:off+1≤cs.length) [hu:UpdC b cs cs' L L']
  (k:pops P N all K fl.tail os ρ L') (hfl:fl.headD true=true:=by rfl):pops P N all K fl (⟨none,.store T x y,ty,pos,af,none⟩::os) ρ L:=
 pops_n rfl (fun _ e=>by cases e) hfl (opN_store (new:= [ay]) (cs:=cs) (cs':=cs') hx (fun g v hv=>by
  rw[hy]at hv
  obtain⟨h1,h2,h3,h4⟩:=hf ay (by simp)
  have h1:=hv.one h1 h2 h3 h4
  refine⟨[v],?_,.cons hv (.nil g)⟩
  cases v<;>first|rfl|cases h1) rfl hf hp hle hu.out k)
end
end Go.Q
namespace Go.Proofs
open Go.Shelf
def Tryz.laysItoa_ren:Go.Shelf.Ren:=⟨fun|171=>268|243=>285|246=>291|283=>294|284=>295|285=>296|286=>297|129=>185|317=>298|318=>299|319=>300|320=>301|337=>302|338=>303|n=>n,fun|3=>3|9=>9|2=>2|4=>4|171=>297|0=>0|53=>198|37=>148|5=>5|173=>299|212=>302|51=>170|20=>20|213=>303|46=>182|232=>36|233=>304|n=>n,fun|17=>1|18=>2|19=>3|n=>n⟩
theorem Tryz.laysItoa:Go.Proofs.LaysM.n171 Tryz.prog Tryz.laysItoa_ren:={
 mixed:=by kernel_rfl
 f129:=Tryz.func185.trans (congrArg some (by kernel_rfl))
 f171:=Tryz.func268.trans (congrArg some (by kernel_rfl))
 f243:=Tryz.func285.trans (congrArg some (by kernel_rfl))
 f246:=Tryz.func291.trans (congrArg some (by kernel_rfl))
 f283:=Tryz.func294.trans (congrArg some (by kernel_rfl))
 f284:=Tryz.func295.trans (congrArg some (by kernel_rfl))
 f285:=Tryz.func296.trans (congrArg some (by kernel_rfl))
 f286:=Tryz.func297.trans (congrArg some (by kernel_rfl))
 f317:=Tryz.func298.trans (congrArg some (by kernel_rfl))
 f318:=Tryz.func299.trans (congrArg some (by kernel_rfl))
 f319:=Tryz.func300.trans (congrArg some (by kernel_rfl))
 f320:=Tryz.func301.trans (congrArg some (by kernel_rfl))
 f337:=Tryz.func302.trans (congrArg some (by kernel_rfl))
 f338:=Tryz.func303.trans (congrArg some (by kernel_rfl))
 t0:=Tryz.underlying0
 a0:=Tryz.isAgg0
 z0:=Tryz.sizeOf0
 v0:=Tryz.zeroValue0
 t2:=Tryz.underlying2
 a2:=Tryz.isAgg2
 z2:=Tryz.sizeOf2
 v2:=Tryz.zeroValue2
 t3:=Tryz.underlying3
 a3:=Tryz.isAgg3
 z3:=Tryz.sizeOf3
 v3:=Tryz.zeroValue3
 t4:=Tryz.underlying4
 a4:=Tryz.isAgg4
 z4:=Tryz.sizeOf4
 v4:=Tryz.zeroValue4
 t5:=Tryz.underlying5
 a5:=Tryz.isAgg5
 z5:=Tryz.sizeOf5
 v5:=Tryz.zeroValue5
 t9:=Tryz.underlying9
 a9:=Tryz.isAgg9
 z9:=Tryz.sizeOf9
 v9:=Tryz.zeroValue9
 t20:=Tryz.underlying20
 a20:=Tryz.isAgg20
 z20:=Tryz.sizeOf20
 v20:=Tryz.zeroValue20
 t37:=Tryz.underlying148
 a37:=Tryz.isAgg148
 z37:=Tryz.sizeOf148
 v37:=Tryz.zeroValue148
 t46:=Tryz.underlying182
 a46:=Tryz.isAgg182
 z46:=Tryz.sizeOf182
 v46:=Tryz.zeroValue182
 t51:=Tryz.underlying170
 a51:=Tryz.isAgg170
 z51:=Tryz.sizeOf170
 v51:=Tryz.zeroValue170
 t53:=Tryz.underlying198
 a53:=Tryz.isAgg198
 z53:=Tryz.sizeOf198
 v53:=Tryz.zeroValue198
 t171:=Tryz.underlying297
 a171:=Tryz.isAgg297
 z171:=Tryz.sizeOf297
 v171:=Tryz.zeroValue297
 t173:=Tryz.underlying299
 a173:=Tryz.isAgg299
 z173:=Tryz.sizeOf299
 v173:=Tryz.zeroValue299
 t212:=Tryz.underlying302
 a212:=Tryz.isAgg302
 z212:=Tryz.sizeOf302
 v212:=Tryz.zeroValue302
 t213:=Tryz.underlying303
 a213:=Tryz.isAgg303
 z213:=Tryz.sizeOf303
 t232:=Tryz.underlying36
 a232:=Tryz.isAgg36
 z232:=Tryz.sizeOf36
 v232:=Tryz.zeroValue36
 t233:=Tryz.underlying304
 a233:=Tryz.isAgg304
 z233:=Tryz.sizeOf304
 v233:=Tryz.zeroValue304
 g17:=by kernel_rfl
 g18:=by kernel_rfl
 g19:=by kernel_rfl
 i0:=by kernel_rfl
 i2:=by kernel_rfl
 i3:=by kernel_rfl
 i4:=by kernel_rfl
 i5:=by kernel_rfl
 i9:=by kernel_rfl
 i20:=by kernel_rfl
 i37:=by kernel_rfl
 i46:=by kernel_rfl
 i51:=by kernel_rfl
 i53:=by kernel_rfl
 i171:=by kernel_rfl
 i173:=by kernel_rfl
 i212:=by kernel_rfl
 i232:=by kernel_rfl
 i233:=by kernel_rfl
 m17:=by kernel_rfl
 m18:=by kernel_rfl
 m19:=by kernel_rfl }
def Tryz.sortD_ren:Go.Shelf.Ren:=⟨fun|6=>110|15=>145|14=>144|28=>184|29=>185|20=>176|21=>177|22=>178|23=>179|24=>180|25=>181|26=>182|27=>183|46=>217|47=>218|48=>219|49=>220|50=>221|57=>253|n=>n,fun|22=>25|24=>37|25=>80|3=>3|39=>182|0=>0|53=>170|55=>198|4=>4|46=>206|45=>205|50=>123|5=>5|9=>9|66=>235|70=>239|76=>263|77=>264|n=>n,fun|n=>n⟩
theorem Tryz.sortD:Go.Proofs.SlLaysF0.n6 Tryz.prog Tryz.sortD_ren:={
 mixed:=by kernel_rfl
 f6:=⟨Tryz.f110.name,by decide,Tryz.func110.trans (congrArg some (by kernel_rfl))⟩
 f14:=⟨Tryz.f144.name,by decide,Tryz.func144.trans (congrArg some (by kernel_rfl))⟩
 f15:=Tryz.func145.trans (congrArg some (by kernel_rfl))
 f20:=⟨Tryz.f176.name,by decide,Tryz.func176.trans (congrArg some (by kernel_rfl))⟩
 f21:=⟨Tryz.f177.name,by decide,Tryz.func177.trans (congrArg some (by kernel_rfl))⟩
 f22:=⟨Tryz.f178.name,by decide,Tryz.func178.trans (congrArg some (by kernel_rfl))⟩
 f23:=⟨Tryz.f179.name,by decide,Tryz.func179.trans (congrArg some (by kernel_rfl))⟩
 f24:=⟨Tryz.f180.name,by decide,Tryz.func180.trans (congrArg some (by kernel_rfl))⟩
 f25:=⟨Tryz.f181.name,by decide,Tryz.func181.trans (congrArg some (by kernel_rfl))⟩
 f26:=⟨Tryz.f182.name,by decide,Tryz.func182.trans (congrArg some (by kernel_rfl))⟩
 f27:=⟨Tryz.f183.name,by decide,Tryz.func183.trans (congrArg some (by kernel_rfl))⟩
 f28:=Tryz.func184.trans (congrArg some (by kernel_rfl))
 f29:=Tryz.func185.trans (congrArg some (by kernel_rfl))
 f46:=⟨Tryz.f217.name,by decide,Tryz.func217.trans (congrArg some (by kernel_rfl))⟩
 f47:=Tryz.func218.trans (congrArg some (by kernel_rfl))
 f48:=Tryz.func219.trans (congrArg some (by kernel_rfl))
 f49:=⟨Tryz.f220.name,by decide,Tryz.func220.trans (congrArg some (by kernel_rfl))⟩
 f50:=⟨Tryz.f221.name,by decide,Tryz.func221.trans (congrArg some (by kernel_rfl))⟩
 f57:=⟨Tryz.f253.name,by decide,Tryz.func253.trans (congrArg some (by kernel_rfl))⟩
 t0:=Tryz.underlying0
 a0:=Tryz.isAgg0
 z0:=Tryz.sizeOf0
 v0:=Tryz.zeroValue0
 t3:=Tryz.underlying3
 a3:=Tryz.isAgg3
 z3:=Tryz.sizeOf3
 v3:=Tryz.zeroValue3
 t4:=Tryz.underlying4
 a4:=Tryz.isAgg4
 z4:=Tryz.sizeOf4
 v4:=Tryz.zeroValue4
 t5:=Tryz.underlying5
 a5:=Tryz.isAgg5
 z5:=Tryz.sizeOf5
 v5:=Tryz.zeroValue5
 t9:=Tryz.underlying9
 a9:=Tryz.isAgg9
 z9:=Tryz.sizeOf9
 v9:=Tryz.zeroValue9
 t22:=Tryz.underlying25
 a22:=Tryz.isAgg25
 z22:=Tryz.sizeOf25
 v22:=Tryz.zeroValue25
 t25:=Tryz.underlying80
 a25:=Tryz.isAgg80
 z25:=Tryz.sizeOf80
 v25:=Tryz.zeroValue80
 t39:=Tryz.underlying182
 a39:=Tryz.isAgg182
 z39:=Tryz.sizeOf182
 v39:=Tryz.zeroValue182
 t45:=Tryz.underlying205
 a45:=Tryz.isAgg205
 z45:=Tryz.sizeOf205
 v45:=Tryz.zeroValue205
 t46:=Tryz.underlying206
 a46:=Tryz.isAgg206
 z46:=Tryz.sizeOf206
 v46:=Tryz.zeroValue206
 t50:=Tryz.underlying123
 a50:=Tryz.isAgg123
 z50:=Tryz.sizeOf123
 v50:=Tryz.zeroValue123
 t53:=Tryz.underlying170
 a53:=Tryz.isAgg170
 z53:=Tryz.sizeOf170
 v53:=Tryz.zeroValue170
 t55:=Tryz.underlying198
 a55:=Tryz.isAgg198
 z55:=Tryz.sizeOf198
 v55:=Tryz.zeroValue198
 t66:=Tryz.underlying235
 a66:=Tryz.isAgg235
 z66:=Tryz.sizeOf235
 v66:=Tryz.zeroValue235
 t70:=Tryz.underlying239
 a70:=Tryz.isAgg239
 z70:=Tryz.sizeOf239
 v70:=Tryz.zeroValue239
 t76:=Tryz.underlying263
 a76:=Tryz.isAgg263
 z76:=Tryz.sizeOf263
 v76:=Tryz.zeroValue263
 t77:=Tryz.underlying264
 a77:=Tryz.isAgg264
 z77:=Tryz.sizeOf264
 v77:=Tryz.zeroValue264 }
end Go.Proofs
