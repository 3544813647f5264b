/- Contracts of the program: the fields of changes, the description of a patch. -/
import Derived.Test.YtmkdlelpipefbaaGreatDoorUai
import Derived.Test.YtmkdlelpipefbaaGreatDoorProg
import Derived.Shelf.LaysM
import Derived.Shelf.Strconv.Itoa3
import Derived.Shelf.SlSortCmp.NoneTotal
import Derived.Shelf.SlGeneric
import Derived.Ground.SlsfProg
import Derived.Test.YtmkdlelpipefbaaGreatDoorUag
set_option linter.unusedSimpArgs false
set_option linter.unusedVariables false
namespace Go.Proofs
open Go Go.Q
attribute [local irreducible] pwp pops PCalls OpN
def rFieldsP (c:Chg):Int:=
 if c.kind < 1∨7 < c.kind then 8 else
 if rTidy c=false then 1 else
 if c.kind=1∧(c.type < 1∨4 < c.type)then 8 else
 if c.kind=2∧rName c.name=false then 5 else
 if c.mode < 0∨511 < c.mode then 2 else
 if 65536 < (c.data.length:Int)then 4 else
 if c.kind=5∧(c.lines.length:Int)=0 then 1 else
 if 2000 < (c.lines.length:Int)then 4 else
 if c.lines.all rValid=false then 3 else
 if c.kind=7∧(c.over.length:Int)=0 then 1 else
 if 400 < (c.over.length:Int)then 4 else
 if rAsc c.over=false then 9 else 0
theorem tidy_eq (c:Chg) (h1:1≤c.kind) (h2:c.kind≤7):rTidy c=rEmpty (rRest c):=by
 have hk:c.kind=1∨c.kind=2∨c.kind=3∨c.kind=4∨c.kind=5∨c.kind=6∨c.kind=7:=by omega
 unfold rTidy rTidy1 rTidy2 rTidy3 rTidy4 rTidy5 rTidy6 rTidy7 rTidy8 rEmpty rRest
 rcases hk with h|h|h|h|h|h|h<;>simp[h]<;>grind
theorem fieldsP_eq (c:Chg):rFieldsP c=rFields c:=by
 unfold rFieldsP rFields
 by_cases h1:c.kind < 1∨7 < c.kind
 ·rw[if_pos h1,if_pos h1]
 rw[if_neg h1,if_neg h1,tidy_eq c (by omega) (by omega)]
 by_cases h2:rEmpty (rRest c)=false
 ·rw[if_pos h2,if_pos h2]
 rw[if_neg h2,if_neg h2]
 have h2:rEmpty (rRest c)=true:=by simpa using h2
 by_cases h3:c.kind=1∧(c.type < 1∨4 < c.type)
 ·rw[if_pos h3,if_pos h3]
 rw[if_neg h3,if_neg h3]
 by_cases h4:c.kind=2∧rName c.name=false
 ·rw[if_pos h4,if_pos h4]
 rw[if_neg h4,if_neg h4]
 have hmode:c.kind≠3→c.mode=0:=fun h=>by
  unfold rEmpty rRest at h2
  simp only[Bool.and_eq_true,decide_eq_true_eq,h,if_false]at h2
  exact h2.1.1.1.1.1.2
 by_cases h5:c.kind=3∧(c.mode < 0∨511 < c.mode)
 ·rw[if_pos h5.2,if_pos h5]
 rw[if_neg (fun h=>h5 ⟨by
  by_cases e:c.kind=3
  ·exact e
  ·have:=hmode e;omega,h⟩),if_neg h5]
 by_cases h6:65536 < (c.data.length:Int)
 ·rw[if_pos h6,if_pos h6]
 rw[if_neg h6,if_neg h6]
 by_cases h7:c.kind=5
 ·have hov:c.over.length=0:=by
   unfold rEmpty rRest at h2
   simp only[Bool.and_eq_true,decide_eq_true_eq,h7]at h2
   have:=h2.2
   simp at this
   simp[this]
  have ho:c.over= []:=List.eq_nil_of_length_eq_zero hov
  rw[if_pos h7,rLines]
  by_cases h8:(c.lines.length:Int)=0
  ·rw[if_pos ⟨h7,h8⟩,if_pos h8]
  rw[if_neg (fun h=>h8 h.2),if_neg h8]
  by_cases h9:2000 < (c.lines.length:Int)
  ·rw[if_pos h9,if_pos h9]
  rw[if_neg h9,if_neg h9]
  by_cases h10:c.lines.all rValid=true
  ·rw[if_neg (by simp[h10]),if_pos h10,if_neg (fun h=>by omega),if_neg (by omega),ho];rfl
  ·rw[if_pos (by simpa using h10),if_neg h10]
 ·have hl:c.lines= []:=by
   unfold rEmpty rRest at h2
   simp only[Bool.and_eq_true,decide_eq_true_eq,h7,if_false]at h2
   exact List.eq_nil_of_length_eq_zero (by have:=h2.1.2;omega)
  rw[if_neg h7,if_neg (fun h=>h7 h.1),hl,if_neg (by simp),if_neg (by simp)]
set_option maxHeartbeats 4000000 in
theorem checkFields_fn (c:Chg):Q.Fn Tryz.prog 113 [.agg (eChg c)] (.raw (.int .i64 (rFieldsP c))):=by
 refine fn_of Tryz.func113 Tryz.ntmps113 rfl (rs:= [.tmp 2]) rfl rfl fun hb LF=>?_
 have hagg:Bd (.agg (eChg c)):=hb _ (by simp)
 have hlines:c.lines.length≤140737488355328:=(hagg.agg_at (c:= .slice (c.lines.map eS) .ro) (by simp[eChg])).slice_map
 have hover:c.over.length≤140737488355328:=(hagg.agg_at (c:= .slice (c.over.map eIdent) .ro) (by simp[eChg])).slice_map
 refine wf ?_
 refine pops_cutE [(6,.raw (.bool (decide (c.kind < 1∨7 < c.kind)))),(1,.pt (eChg c) 0)] (LF) ?_ ?_
 ·repeat' (first|(refine pwp_condD (fun h=>?_) (fun h=>?_)<;>refine wf ?_)|(refine pwp_condN (fun h=>?_) (fun h=>?_)<;>refine wf ?_)|(refine pwp_condB (fun h=>?_) (fun h=>?_)<;>refine wf ?_)|(refine pops_if (fun h=>?_) (fun h=>?_)<;>(have h2:=h;(try simp only[decide_eq_true_eq,decide_eq_false_iff_not,Bool.not_eq_true',Bool.not_eq_false']at h2);refine wf ?_)))
  all_goals (refine⟨⟨holdsB (by rfl) ?_,rfl⟩,.refl _⟩;first|(simp_all;done)|grind)
 refine wf ?_
 refine pwp_condD (fun h=>?_) (fun h=>?_)
 ·refine wf ?_
  refine end1 (.of_eq ?_)
  rw[rFieldsP,if_pos h]
 rw[rFieldsP,if_neg h]
 refine wf ?_
 refine pwp_condB (fun h=>?_) (fun h=>?_)
 ·refine wf ?_
  refine end1 (.of_eq ?_)
  rw[if_pos (by simpa using h)]
 rw[if_neg (by simpa using h)]
 refine wf ?_
 refine pops_cutE [(19,.raw (.bool (decide (c.kind=1∧(c.type < 1∨4 < c.type))))),(1,.pt (eChg c) 0)] (LF) ?_ ?_
 ·repeat' (first|(refine pwp_condD (fun h=>?_) (fun h=>?_)<;>refine wf ?_)|(refine pwp_condN (fun h=>?_) (fun h=>?_)<;>refine wf ?_)|(refine pwp_condB (fun h=>?_) (fun h=>?_)<;>refine wf ?_)|(refine pops_if (fun h=>?_) (fun h=>?_)<;>(have h2:=h;(try simp only[decide_eq_true_eq,decide_eq_false_iff_not,Bool.not_eq_true',Bool.not_eq_false']at h2);refine wf ?_)))
  all_goals (refine⟨⟨holdsB (by rfl) ?_,rfl⟩,.refl _⟩;first|(simp_all;done)|grind)
 refine wf ?_
 refine pwp_condD (fun h=>?_) (fun h=>?_)
 ·refine wf ?_
  refine end1 (.of_eq ?_)
  rw[if_pos h]
 rw[if_neg h]
 refine wf ?_
 refine pops_cutE [(33,.raw (.bool (decide (c.kind=2∧rName c.name=false)))),(1,.pt (eChg c) 0)] (LF) ?_ ?_
 ·repeat' (first|(refine pwp_condD (fun h=>?_) (fun h=>?_)<;>refine wf ?_)|(refine pwp_condN (fun h=>?_) (fun h=>?_)<;>refine wf ?_)|(refine pwp_condB (fun h=>?_) (fun h=>?_)<;>refine wf ?_)|(refine pops_if (fun h=>?_) (fun h=>?_)<;>(have h2:=h;(try simp only[decide_eq_true_eq,decide_eq_false_iff_not,Bool.not_eq_true',Bool.not_eq_false']at h2);refine wf ?_)))
  all_goals (refine⟨⟨holdsB (by rfl) ?_,rfl⟩,.refl _⟩;first|(simp_all;done)|grind)
 refine wf ?_
 refine pwp_condD (fun h=>?_) (fun h=>?_)
 ·refine wf ?_
  refine end1 (.of_eq ?_)
  rw[if_pos h]
 rw[if_neg h]
 refine wf ?_
 refine pops_cutE [(43,.raw (.bool (decide (c.mode < 0∨511 < c.mode)))),(1,.pt (eChg c) 0)] (LF) ?_ ?_
 ·repeat' (first|(refine pwp_condD (fun h=>?_) (fun h=>?_)<;>refine wf ?_)|(refine pwp_condN (fun h=>?_) (fun h=>?_)<;>refine wf ?_)|(refine pwp_condB (fun h=>?_) (fun h=>?_)<;>refine wf ?_)|(refine pops_if (fun h=>?_) (fun h=>?_)<;>(have h2:=h;(try simp only[decide_eq_true_eq,decide_eq_false_iff_not,Bool.not_eq_true',Bool.not_eq_false']at h2);refine wf ?_)))
  all_goals (refine⟨⟨holdsB (by rfl) ?_,rfl⟩,.refl _⟩;first|(simp_all;done)|grind)
 refine wf ?_
 refine pwp_condD (fun h=>?_) (fun h=>?_)
 ·refine wf ?_
  refine end1 (.of_eq ?_)
  rw[if_pos h]
 rw[if_neg h]
 refine wf ?_
 refine pwp_condD (fun h=>?_) (fun h=>?_)
 ·refine wf ?_
  refine end1 (.of_eq ?_)
  rw[if_pos h]
 rw[if_neg h]
 refine wf ?_
 refine pops_cutE [(57,.raw (.bool (decide (c.kind=5∧(c.lines.length:Int)=0)))),(1,.pt (eChg c) 0)] (LF) ?_ ?_
 ·repeat' (first|(refine pwp_condD (fun h=>?_) (fun h=>?_)<;>refine wf ?_)|(refine pwp_condN (fun h=>?_) (fun h=>?_)<;>refine wf ?_)|(refine pwp_condB (fun h=>?_) (fun h=>?_)<;>refine wf ?_)|(refine pops_if (fun h=>?_) (fun h=>?_)<;>(have h2:=h;(try simp only[decide_eq_true_eq,decide_eq_false_iff_not,Bool.not_eq_true',Bool.not_eq_false']at h2);refine wf ?_)))
  all_goals (refine⟨⟨holdsB (by rfl) ?_,rfl⟩,.refl _⟩;first|(simp_all;done)|grind)
 refine wf ?_
 refine pwp_condD (fun h=>?_) (fun h=>?_)
 ·refine wf ?_
  refine end1 (.of_eq ?_)
  rw[if_pos h]
 rw[if_neg h]
 refine wf ?_
 refine pwp_condD (fun h=>?_) (fun h=>?_)
 ·refine wf ?_
  refine end1 (.of_eq ?_)
  rw[if_pos h]
 rw[if_neg h]
 refine wf ?_
 refine pwp_loopS (σ:=Nat) (fun k=>k≤c.lines.length∧ ∀ i (h:i < c.lines.length),i < k→rValid c.lines[i]=true) (fun k=>c.lines.length - k) (fun k=> [(1,.pt (eChg c) 0),(73,.slice (c.lines.map eS) .ro),(74,.raw (.int .i64 c.lines.length)),(75,.raw (.int .i64 k))]) (fun _=>LF) 0 ⟨by simp,by simp⟩ ⟨rfl,rfl,rfl,rfl⟩ (.refl _) ?_
 rintro k ⟨hk,he⟩
 refine wf ?_
 refine pwp_condD (fun hc=>?_) (fun hc=>?_)
 ·have hlt:k < c.lines.length:=by omega
  refine wf ?_
  refine pwp_condB (fun h=>?_) (fun h=>?_)
  ·refine wf ?_
   refine end1 (.of_eq ?_)
   have:rValid c.lines[k]=false:=by simpa using h
   rw[if_pos (all_false_of hlt this)]
  ·refine wf ?_
   exact⟨k+1,⟨by omega,upto_succ he hlt (by simpa using h)⟩,by dsimp only;omega,⟨rfl,rfl,rfl,rfl⟩,.refl _⟩
 have hall:c.lines.all rValid=true:=all_true_of fun i h=>he i h (by omega)
 rw[if_neg (by simp[hall])]
 clear he hk hc
 refine wf ?_
 refine pops_cutE [(83,.raw (.bool (decide (c.kind=7∧(c.over.length:Int)=0)))),(1,.pt (eChg c) 0)] (LF) ?_ ?_
 ·repeat' (first|(refine pwp_condD (fun h=>?_) (fun h=>?_)<;>refine wf ?_)|(refine pwp_condN (fun h=>?_) (fun h=>?_)<;>refine wf ?_)|(refine pwp_condB (fun h=>?_) (fun h=>?_)<;>refine wf ?_)|(refine pops_if (fun h=>?_) (fun h=>?_)<;>(have h2:=h;(try simp only[decide_eq_true_eq,decide_eq_false_iff_not,Bool.not_eq_true',Bool.not_eq_false']at h2);refine wf ?_)))
  all_goals (refine⟨⟨holdsB (by rfl) ?_,rfl⟩,.refl _⟩;first|(simp_all;done)|grind)
 refine wf ?_
 refine pwp_condD (fun h=>?_) (fun h=>?_)
 ·refine wf ?_
  refine end1 (.of_eq ?_)
  rw[if_pos h]
 rw[if_neg h]
 refine wf ?_
 refine pwp_condD (fun h=>?_) (fun h=>?_)
 ·refine wf ?_
  refine end1 (.of_eq ?_)
  rw[if_pos h]
 rw[if_neg h]
 refine wf ?_
 refine pwp_loopS (σ:=Nat) (fun k=>1≤k∧ ∀ i,i+1 < k→i+1 < c.over.length→cmpI (c.over.getD i Ident.zero) (c.over.getD (i+1) Ident.zero) < 0) (fun k=>c.over.length - k) (fun k=> [(1,.pt (eChg c) 0),(5,.raw (.int .i64 k))]) (fun _=>LF) 1 ⟨by simp,fun i h=>by omega⟩ ⟨rfl,rfl⟩ (.refl _) ?_
 rintro k ⟨hk,he⟩
 refine wf ?_
 refine pwp_condD (fun hc=>?_) (fun hc=>?_)
 ·obtain⟨j,rfl⟩: ∃ j,k=j+1:=⟨k - 1,by omega⟩
  refine wf ?_
  have e:((↑(j+1):Int) - 1).toNat=j:=by omega
  have hj:j+1 < c.over.length:=by omega
  refine pwp_condD (fun h1=>?_) (fun h1=>?_)
  ·refine wf ?_
   refine end1 (.of_eq ?_)
   simp only[e]at h1
   have:rAsc c.over=false:=by
    unfold rAsc
    rw[List.all_eq_false]
    refine⟨j,List.mem_range.2 (by omega),?_⟩
    simp only[decide_eq_true_eq,List.getD_eq_getElem?_getD,List.getElem?_eq_getElem hj,List.getElem?_eq_getElem (show j < c.over.length by omega),Option.getD_some]
    omega
   rw[if_pos this]
  ·refine wf ?_
   simp only[e]at h1
   refine⟨j+1+1,⟨by omega,fun i h2 h3=>?_⟩,by dsimp only;omega,⟨rfl,rfl⟩,.refl _⟩
   rcases Nat.lt_or_ge (i+1) (j+1)with h'|h'
   ·exact he i h' h3
   ·have:i=j:=by omega
    subst this
    simp only[List.getD_eq_getElem?_getD,List.getElem?_eq_getElem hj,List.getElem?_eq_getElem (show i < c.over.length by omega),Option.getD_some]
    omega
 ·refine wf ?_
  refine end1 (.of_eq ?_)
  have:rAsc c.over=true:=by
   unfold rAsc
   rw[List.all_eq_true]
   intro i hi
   rw[List.mem_range]at hi
   exact decide_eq_true (he i (by omega) (by omega))
  rw[if_neg (by simp[this])]
instance checkFields_ct (c:Chg):FnC Tryz.prog 113 [.agg (eChg c)] (.raw (.int .i64 (rFields c))):=⟨by rw[←fieldsP_eq];exact checkFields_fn c⟩
def rHead (p:Pat):Int:=
 if rName p.author=false then 5 else if 1000 < (p.message.length:Int)then 4 else if p.time < 0∨1099511627776 < p.time then 2 else
 if rDeps p.deps≠0 then rDeps p.deps else if(p.changes.length:Int)=0 then 1 else if 400 < (p.changes.length:Int)then 4 else 0
theorem checkP_head (p:Pat):rCheckP p=if rHead p≠0 then([],rHead p)else rChanges p.changes []:=by
 unfold rCheckP rHead
 generalize rDeps p.deps=e
 generalize rChanges p.changes []=r
 by_cases h1:rName p.author=false<;>by_cases h2:1000 < (p.message.length:Int)<;>by_cases h3:p.time < 0∨1099511627776 < p.time<;>by_cases h4:e=0<;>by_cases h5:(p.changes.length:Int)=0<;>by_cases h6:400 < (p.changes.length:Int)<;>simp only[h1,h2,h3,h4,h5,h6,if_true,if_false,ne_eq,not_true_eq_false,not_false_eq_true]<;>first|rfl|simp[h4]|simp
set_option maxHeartbeats 4000000 in
instance head_ct (p:Pat):FnC Tryz.prog 112 [.agg (ePat p)] (.raw (.int .i64 (rHead p))):=⟨by
 refine fn_of Tryz.func112 Tryz.ntmps112 rfl (rs:= [.tmp 2]) rfl rfl fun hb LF=>?_
 have hagg:Bd (.agg (ePat p)):=hb _ (by simp)
 have hdeps:p.deps.length≤140737488355328:=(hagg.agg_at (c:= .slice (p.deps.map eDig) .ro) (by simp[ePat])).slice_map
 have hdr:rDeps p.deps=if 100 < (p.deps.length:Int)then 4 else firstErr (rDepE p.deps) (List.range p.deps.length):=rfl
 refine wf ?_
 refine pwp_condB (fun h=>?_) (fun h=>?_)
 ·refine wf ?_
  refine end1 (.of_eq ?_)
  rw[rHead,if_pos (by simpa using h)]
 rw[rHead,if_neg (by simpa using h)]
 refine wf ?_
 refine pwp_condD (fun h=>?_) (fun h=>?_)
 ·refine wf ?_
  refine end1 (.of_eq ?_)
  rw[if_pos h]
 rw[if_neg h]
 refine wf ?_
 refine pops_cutE [(16,.raw (.bool (decide (p.time < 0∨1099511627776 < p.time)))),(1,.pt (ePat p) 0)] (LF) ?_ ?_
 ·repeat' (first|(refine pwp_condD (fun h=>?_) (fun h=>?_)<;>refine wf ?_)|(refine pwp_condN (fun h=>?_) (fun h=>?_)<;>refine wf ?_)|(refine pwp_condB (fun h=>?_) (fun h=>?_)<;>refine wf ?_)|(refine pops_if (fun h=>?_) (fun h=>?_)<;>(have h2:=h;(try simp only[decide_eq_true_eq,decide_eq_false_iff_not,Bool.not_eq_true',Bool.not_eq_false']at h2);refine wf ?_)))
  all_goals (refine⟨⟨holdsB (by rfl) ?_,rfl⟩,.refl _⟩;first|(simp_all;done)|grind)
 refine wf ?_
 refine pwp_condD (fun h=>?_) (fun h=>?_)
 ·refine wf ?_
  refine end1 (.of_eq ?_)
  rw[if_pos h]
 rw[if_neg h]
 refine wf ?_
 refine pwp_condD (fun h=>?_) (fun h=>?_)
 ·refine wf ?_
  refine end1 (.of_eq ?_)
  rw[hdr,if_pos h,if_pos (by decide)]
 rw[if_neg h]at hdr
 refine wf ?_
 refine pwp_loopS (σ:=Nat) (fun k=>k≤p.deps.length∧ ∀ i (h:i < (List.range p.deps.length).length),i < k→rDepE p.deps (List.range p.deps.length)[i]=0) (fun k=>p.deps.length - k) (fun k=> [(1,.pt (ePat p) 0),(31,.slice (p.deps.map eDig) .ro),(32,.raw (.int .i64 p.deps.length)),(33,.raw (.int .i64 k))]) (fun _=>LF) 0 ⟨by simp,by simp⟩ ⟨rfl,rfl,rfl,rfl⟩ (.refl _) ?_
 rintro k ⟨hk,he⟩
 refine wf ?_
 refine pwp_condD (fun hc=>?_) (fun hc=>?_)
 ·have hlt:k < p.deps.length:=by omega
  have hltr:k < (List.range p.deps.length).length:=by simpa using hlt
  have ek:(List.range p.deps.length)[k]=k:=by simp
  have e0:p.deps.getD k Dig.zero=p.deps[k]:=by simp[List.getD,hlt]
  refine wz fun b4=>?_
  refine pwp_freezeD 4 ?_
  refine wf ?_
  refine pwp_condD (fun h2=>?_) (fun h2=>?_)
  ·refine wf ?_
   refine end1 (.of_eq ?_)
   have e:rDepE p.deps (List.range p.deps.length)[k]=1:=by rw[ek,rDepE,e0,if_pos h2]
   have e3:rDeps p.deps=1:=by rw[hdr,firstErr_at hltr he (by rw[e];decide),e]
   rw[e3];rfl
  refine wf ?_
  refine pops_if (fun hp=>?_) (fun hp=>?_)
  ·have hp':0 < (k:Int):=of_decide_eq_true hp
   refine wf ?_
   have e1:p.deps.getD (k - 1) Dig.zero=p.deps[((k:Int) - 1).toNat]:=by
    have:((k:Int) - 1).toNat=k - 1:=by omega
    simp only[this]
    have h':k - 1 < p.deps.length:=by omega
    simp[List.getD,h']
   refine pwp_condD (fun h3=>?_) (fun h3=>?_)
   ·refine wf ?_
    refine end1 (.of_eq ?_)
    have e:rDepE p.deps (List.range p.deps.length)[k]=9:=by rw[ek,rDepE,e0,e1,if_neg h2,if_pos ⟨hp',h3⟩]
    have e3:rDeps p.deps=9:=by rw[hdr,firstErr_at hltr he (by rw[e];decide),e]
    rw[e3];rfl
   ·refine wf ?_
    have e:rDepE p.deps (List.range p.deps.length)[k]=0:=by rw[ek,rDepE,e0,e1,if_neg h2,if_neg (fun h=>h3 h.2)]
    exact⟨k+1,⟨by omega,upto_succ0 he hltr e⟩,by dsimp only;omega,⟨rfl,rfl,rfl,rfl⟩,.refl _⟩
  ·have hp': ¬0 < (k:Int):=of_decide_eq_false hp
   refine wf ?_
   have e:rDepE p.deps (List.range p.deps.length)[k]=0:=by rw[ek,rDepE,e0,if_neg h2,if_neg (fun h=>hp' h.1)]
   exact⟨k+1,⟨by omega,upto_succ0 he hltr e⟩,by dsimp only;omega,⟨rfl,rfl,rfl,rfl⟩,.refl _⟩
 have e3:rDeps p.deps=0:=by rw[hdr,firstErr_zero fun i h=>he i h (by simp at h;omega)]
 rw[if_neg (by simp[e3])]
 refine wf ?_
 refine pwp_condD (fun h=>?_) (fun h=>?_)
 ·refine wf ?_
  refine end1 (.of_eq ?_)
  rw[if_pos h]
 rw[if_neg h]
 refine wf ?_
 refine pwp_condD (fun h=>?_) (fun h=>?_)
 ·refine wf ?_
  refine end1 (.of_eq ?_)
  rw[if_pos h]
 ·refine wf ?_
  refine end1 (.of_eq ?_)
  rw[if_neg h]⟩
end Go.Proofs
namespace Go.Proofs
open Go Go.Q
attribute [local irreducible] pwp pops PCalls OpN
structure Rfc where
 id:Ident
 f:Nat
 cs:List PV
def eRfc (r:Rfc):List PV:=eIdent r.id++ [.clo r.f r.cs]
@[simp] theorem len_eRfc (r:Rfc):(eRfc r).length=34:=by unfold eRfc;simp
instance :Len eRfc 34:=⟨len_eRfc⟩
instance (r:Rfc):Flat (eRfc r):=by unfold eRfc;infer_instance
instance :FlatF eRfc:=⟨fun r=>(inferInstance:Flat (eRfc r)).out⟩
instance (x:Ident) (f:Nat) (cs:List PV):EncC (.agg (eIdent x++ [.clo f cs])) eRfc ⟨x,f,cs⟩:=⟨Cells.agg _⟩
instance (x y:Ident) (z:PV):Put (eIdent x++ [z]) 0 (eIdent y) (eIdent y++ [z]):=put_here (by simp)
instance (x:Ident) (y z:PV):Put (eIdent x++ [y]) 33 [z] (eIdent x++ [z]):=put_skip (n:=33) (off:=0) (by simp) (put_last (by simp))
instance (r:Rfc):Fld (eRfc r) 0 (eIdent r.id):=by unfold eRfc;exact fld_here
instance (r:Rfc):Fld (eRfc r) 33 [.clo r.f r.cs]:=by unfold eRfc;exact fld_skip (n:=33) (off:=0) (by simp) fld_last
instance :LenIs (eIdent Ident.zero++ [.raw .nilFunc]) 34:=⟨by simp⟩
instance :ZeroE Tryz.prog 93 (eIdent Ident.zero++ [.raw .nilFunc]):=ZeroE.of (us:=(eIdent Ident.zero++ [PV.raw .nilFunc]).map zv) (by kernel_rfl) (by kernel_rfl)
instance :ZeroE Tryz.prog 143 (eIdent Ident.zero++ [.raw .nilFunc]):=ZeroE.of (us:=(eIdent Ident.zero++ [PV.raw .nilFunc]).map zv) (by kernel_rfl) (by kernel_rfl)
instance :ZeroE Tryz.prog 140 [.slice [] .nil]:=zero1 (v:= .slice none 0 0) (by kernel_rfl) rfl fun _=> .nilN none (by simp)
structure Fits (P:Program) (r:Rfc) (p:Atm→Bool):Prop where
 fn:TFun P r.f
 out: ∀ a:Atm,Q.Fn P r.f (.agg (eAtm a)::r.cs) (.raw (.bool (p a)))
def ovK (k:Int):Int:=if k=2∨k=3∨k=4∨k=6 then k else 0
instance overKind_ct (k:Int):FnC Tryz.prog 91 [.raw (.int .i64 k)] (.raw (.int .i64 (ovK k))):=⟨by
 refine fn_of Tryz.func91 Tryz.ntmps91 rfl (rs:= [.tmp 2]) rfl rfl fun hb LF=>?_
 refine wfm fun b=>?_
 refine end1 (.of_eq ?_)
 simp only[ovK]
 simp[mSet,mGet]
 grind⟩
def pf2 (a:Atm):Bool:=decide (a.kind=1)
def pf3 (a:Atm):Bool:=decide (a.kind=1)&&(decide (a.type=2)||decide (a.type=3))
def pf4 (a:Atm):Bool:=decide (a.kind=1)&&decide (a.type=1)
def pf5 (a:Atm):Bool:=decide (a.kind=1)&&decide (a.type=4)
def pf6 (c:Chg) (a:Atm):Bool:=decide (a.id=c.file)||(decide (a.kind=5)&&decide (a.file=c.file))
def pf7 (c:Chg) (a:Atm):Bool:=decide (c.kind=7)||(decide (a.kind=ovK c.kind)&&decide (a.file=c.file))
instance pf2_ct (a:Atm):FnC Tryz.prog 84 [.agg (eAtm a)] (.raw (.bool (pf2 a))):=⟨by
 refine fn_of Tryz.func84 Tryz.ntmps84 rfl (rs:= [.tmp 2]) rfl rfl fun hb LF=>?_
 refine wf ?_
 refine end1 (.of_eq ?_)
 rfl⟩
instance pf3_ct (a:Atm):FnC Tryz.prog 85 [.agg (eAtm a)] (.raw (.bool (pf3 a))):=⟨by
 refine fn_of Tryz.func85 Tryz.ntmps85 rfl (rs:= [.tmp 2]) rfl rfl fun hb LF=>?_
 refine wf ?_
 repeat' (first|(refine pwp_condD (fun h=>?_) (fun h=>?_)<;>refine wf ?_)|(refine pwp_condN (fun h=>?_) (fun h=>?_)<;>refine wf ?_)|(refine pwp_condB (fun h=>?_) (fun h=>?_)<;>refine wf ?_)|(refine pops_if (fun h=>?_) (fun h=>?_)<;>(have h2:=h;(try simp only[decide_eq_true_eq,decide_eq_false_iff_not,Bool.not_eq_true',Bool.not_eq_false']at h2);refine wf ?_)))
 all_goals (refine end1 (.of_eq ?_);simp only[pf3];first|(simp_all;done)|grind)⟩
instance pf4_ct (a:Atm):FnC Tryz.prog 86 [.agg (eAtm a)] (.raw (.bool (pf4 a))):=⟨by
 refine fn_of Tryz.func86 Tryz.ntmps86 rfl (rs:= [.tmp 2]) rfl rfl fun hb LF=>?_
 refine wf ?_
 repeat' (first|(refine pwp_condD (fun h=>?_) (fun h=>?_)<;>refine wf ?_)|(refine pwp_condN (fun h=>?_) (fun h=>?_)<;>refine wf ?_)|(refine pwp_condB (fun h=>?_) (fun h=>?_)<;>refine wf ?_)|(refine pops_if (fun h=>?_) (fun h=>?_)<;>(have h2:=h;(try simp only[decide_eq_true_eq,decide_eq_false_iff_not,Bool.not_eq_true',Bool.not_eq_false']at h2);refine wf ?_)))
 all_goals (refine end1 (.of_eq ?_);simp only[pf4];first|(simp_all;done)|grind)⟩
instance pf5_ct (a:Atm):FnC Tryz.prog 88 [.agg (eAtm a)] (.raw (.bool (pf5 a))):=⟨by
 refine fn_of Tryz.func88 Tryz.ntmps88 rfl (rs:= [.tmp 2]) rfl rfl fun hb LF=>?_
 refine wf ?_
 repeat' (first|(refine pwp_condD (fun h=>?_) (fun h=>?_)<;>refine wf ?_)|(refine pwp_condN (fun h=>?_) (fun h=>?_)<;>refine wf ?_)|(refine pwp_condB (fun h=>?_) (fun h=>?_)<;>refine wf ?_)|(refine pops_if (fun h=>?_) (fun h=>?_)<;>(have h2:=h;(try simp only[decide_eq_true_eq,decide_eq_false_iff_not,Bool.not_eq_true',Bool.not_eq_false']at h2);refine wf ?_)))
 all_goals (refine end1 (.of_eq ?_);simp only[pf5];first|(simp_all;done)|grind)⟩
instance pf6_ct (c:Chg) (a:Atm):FnC Tryz.prog 89 [.agg (eAtm a),.pt (eChg c) 0] (.raw (.bool (pf6 c a))):=⟨by
 refine fn_of Tryz.func89 Tryz.ntmps89 rfl (rs:= [.tmp 3]) rfl rfl fun hb LF=>?_
 refine wf ?_
 repeat' (first|(refine pwp_condD (fun h=>?_) (fun h=>?_)<;>refine wf ?_)|(refine pwp_condN (fun h=>?_) (fun h=>?_)<;>refine wf ?_)|(refine pwp_condB (fun h=>?_) (fun h=>?_)<;>refine wf ?_)|(refine pops_if (fun h=>?_) (fun h=>?_)<;>(have h2:=h;(try simp only[decide_eq_true_eq,decide_eq_false_iff_not,Bool.not_eq_true',Bool.not_eq_false']at h2);refine wf ?_)))
 all_goals (refine end1 (.of_eq ?_);simp only[pf6];first|(simp_all;done)|grind)⟩
instance pf7_ct (c:Chg) (a:Atm):FnC Tryz.prog 90 [.agg (eAtm a),.pt (eChg c) 0] (.raw (.bool (pf7 c a))):=⟨by
 refine fn_of Tryz.func90 Tryz.ntmps90 rfl (rs:= [.tmp 3]) rfl rfl fun hb LF=>?_
 refine wf ?_
 repeat' (first|(refine pwp_condD (fun h=>?_) (fun h=>?_)<;>refine wf ?_)|(refine pwp_condN (fun h=>?_) (fun h=>?_)<;>refine wf ?_)|(refine pwp_condB (fun h=>?_) (fun h=>?_)<;>refine wf ?_)|(refine pops_if (fun h=>?_) (fun h=>?_)<;>(have h2:=h;(try simp only[decide_eq_true_eq,decide_eq_false_iff_not,Bool.not_eq_true',Bool.not_eq_false']at h2);refine wf ?_)))
 all_goals (refine end1 (.of_eq ?_);simp only[pf7];first|(simp_all;done)|grind)⟩
def addL (b:Nat) (l:List Rfc) (t:Tag):List Res:= [.box b 89 [.slice (l.map eRfc) t],.tok t l.length 34]
theorem add_fn (x:Ident) (f:Nat) (cs:List PV) (b:Nat) (l:List Rfc) (t:Tag) (hl:l.length≤1000000):
  PCalls Tryz.prog 83 [.agg (eIdent x),.clo f cs,.raw (.pointer (some ⟨b,0,none⟩))] (addL b l t) (fun _ L'=> ∃ t',L'=addL b (l++ [⟨x,f,cs⟩]) t'):=by
 refine pcalls_bd Tryz.func83 rfl Tryz.ntmps83 (rs:= []) rfl rfl fun hb LF=>?_
 rw[show addL b l t++LF= .box b 89 [.slice (l.map eRfc) t]:: .tok t l.length 34::LF from rfl]
 refine wfa fun t'=>?_
 exact⟨trivial,[],addL b (l++ [⟨x,f,cs⟩]) t',.nil,.refl _,t',rfl⟩
section
variable {N:Nat} {all:Array Oper} {K:Env→List Res→Prop} {fl:List Bool} {os:List Oper} {ρ:Env} {L:List Res} {Q:PPost} {c:Code} {d:Nat} {ty:TypeId} {pos:String} {af:Array Edge}
theorem j_add {x x0 x1:Operand} {ats:Array TypeId} {b f:Nat} {l:List Rfc} {t:Tag} {id:Ident} {cs:List PV} {a1:PV} {LF:List Res}
  (qx:ρ.ev x= .clo 83 [.raw (.pointer (some ⟨b,0,none⟩))]) (q0:ρ.ev x0= .agg (eIdent id)) (q1:ρ.ev x1=a1) [h1:IsClo a1 f cs] (hl:l.length≤1000000)
  (k: ∀ t' u,pops Tryz.prog N all K fl.tail os (upd ρ d u) (.box b 89 [.slice ((l++ [Rfc.mk id f cs]).map eRfc) t']:: .tok t' (l++ [Rfc.mk id f cs]).length 34::LF)) (hd:Nat.blt d N=true:=by rfl) (hfl:fl.headD true=true:=by rfl):
  pops Tryz.prog N all K fl (⟨some d,.call { callee:= .value x,args:= #[x0,x1],argTypes:=ats },ty,pos,af,none⟩::os) ρ (.box b 89 [.slice (l.map eRfc) t]:: .tok t l.length 34::LF):=
 s_callR (xs:= [x0,x1]) (addL b l t) LF (.of_eq qx) rfl rfl (.refl _) (fun _ L'=> ∃ t',L'=addL b (l++ [⟨id,f,cs⟩]) t')
  (PCalls.args (bs:= [.agg (eIdent id),.clo f cs,.raw (.pointer (some ⟨b,0,none⟩))]) rfl (fun i g1 g2=>by
   match i,g1,g2 with
   |0,_,_=>exact .of_eq q0
   |1,_,_=>show Le (ρ.ev x1) _;rw[q1];exact h1.out
   |2,_,_=>exact .refl _
   |m+3,g1,_=>exact absurd g1 (by simp)) (add_fn id f cs b l t hl)) (fun r L' ⟨t',e⟩=>by subst e;exact k t' r) hd hfl
end
def refs1 (c:Chg):List Rfc:=
 if c.kind=2∨c.kind=3 then [⟨c.file,84,[]⟩]else if c.kind=4 then [⟨c.file,85,[]⟩]else
 if c.kind=5∨c.kind=6 then [⟨c.file,86,[]⟩]else []
def refs2 (c:Chg):List Rfc:=if c.kind=2∧c.parent≠⟨Dig.zero,-1⟩then [⟨c.parent,88,[]⟩]else []
def refs3 (c:Chg):List Rfc:=if c.kind=5∨c.kind=6 then [⟨c.after,89,[.pt (eChg c) 0]⟩,⟨c.before,89,[.pt (eChg c) 0]⟩]else []
def refs4 (c:Chg) (l:List Ident):List Rfc:=l.map fun x=>⟨x,90,[.pt (eChg c) 0]⟩
def refsP (c:Chg):List Rfc:=refs1 c++refs2 c++refs3 c++refs4 c c.over
theorem refs1_len (c:Chg):(refs1 c).length≤1:=by unfold refs1;split<;>(try split)<;>(try split)<;>simp
theorem refs2_len (c:Chg):(refs2 c).length≤1:=by unfold refs2;split<;>simp
theorem refs3_len (c:Chg):(refs3 c).length≤2:=by unfold refs3;split<;>simp
set_option maxHeartbeats 4000000 in
instance pReferences_ct (c:Chg) [hs:Small (c.over.length≤400)]:FnC Tryz.prog 49 [.agg (eChg c)] (.slice ((refsP c).map eRfc) .ro):=⟨by
 have hover:=hs.out
 have r1:=refs1_len c
 have r2:=refs2_len c
 have r3:=refs3_len c
 refine fn_of Tryz.func49 Tryz.ntmps49 rfl (rs:= [.tmp 2]) rfl rfl fun hb LF=>?_
 refine wf ?_
 refine s_alloc fun b3=>?_
 refine wo ?_
 refine pops_nil ?_
 refine pwp_tok 34 ?_
 refine pwp_perm (.swap _ _ _) ?_
 refine ws ?_
 refine pwp_joinG (σ:=List Rfc × Tag) (fun s=>s.1=refs1 c) (fun s=> [(1,.pt (eChg c) 0),(3,.raw (.pointer (some ⟨b3,0,none⟩))),(4,.clo 83 [.raw (.pointer (some ⟨b3,0,none⟩))])]) (fun s=> .box b3 89 [.slice (s.1.map eRfc) s.2]:: .tok s.2 s.1.length 34::LF) ?_ ?_
 ·refine wf ?_
  refine pwp_joinG (σ:=Unit) (fun _=>True) (fun _=> [(1,.pt (eChg c) 0),(3,.raw (.pointer (some ⟨b3,0,none⟩))),(4,.clo 83 [.raw (.pointer (some ⟨b3,0,none⟩))]),(10,.raw (.int .i64 c.kind)),(11,.raw (.bool (decide (c.kind=2∨c.kind=3))))]) (fun _=> .box b3 89 [.slice [] .nil]:: .tok .nil 0 34::LF) ?_ ?_
  ·refine pwp_condD (fun h=>?_) (fun h=>?_)
   ·refine wf ?_
    exact⟨(),trivial,⟨rfl,rfl,rfl,rfl,holdsB (by rfl) (by simp[h])⟩,.refl _⟩
   ·refine wf ?_
    exact⟨(),trivial,⟨rfl,rfl,rfl,rfl,holdsB (by rfl) (by simp[h])⟩,.refl _⟩
  intro _ _
  refine pwp_condD (fun h=>?_) (fun h=>?_)
  ·refine wf ?_
   refine j_add (l:= []) rfl rfl (by(conv=>lhs;whnf);done) (h1:=(by first|infer_instance|fail)) (by simp) fun t' u=>?_
   refine wf ?_
   exact⟨([⟨c.file,84,[]⟩],t'),by rw[refs1,if_pos h],⟨rfl,rfl,rfl⟩,.refl _⟩
  have e1:refs1 c=if c.kind=4 then [⟨c.file,85,[]⟩]else if c.kind=5∨c.kind=6 then [⟨c.file,86,[]⟩]else []:=by rw[refs1,if_neg h]
  refine wf ?_
  refine pwp_condD (fun h4=>?_) (fun h4=>?_)
  ·refine wf ?_
   refine j_add (l:= []) rfl rfl (by(conv=>lhs;whnf);done) (h1:=(by first|infer_instance|fail)) (by simp) fun t' u=>?_
   refine wf ?_
   exact⟨([⟨c.file,85,[]⟩],t'),by rw[e1,if_pos h4],⟨rfl,rfl,rfl⟩,.refl _⟩
  rw[if_neg h4]at e1
  refine wf ?_
  refine pwp_joinG (σ:=Unit) (fun _=>True) (fun _=> [(1,.pt (eChg c) 0),(3,.raw (.pointer (some ⟨b3,0,none⟩))),(4,.clo 83 [.raw (.pointer (some ⟨b3,0,none⟩))]),(24,.raw (.bool (decide (c.kind=5∨c.kind=6))))]) (fun _=> .box b3 89 [.slice [] .nil]:: .tok .nil 0 34::LF) ?_ ?_
  ·refine pwp_condD (fun h=>?_) (fun h=>?_)
   ·refine wf ?_
    exact⟨(),trivial,⟨rfl,rfl,rfl,holdsB (by rfl) (by simp[h])⟩,.refl _⟩
   ·refine wf ?_
    exact⟨(),trivial,⟨rfl,rfl,rfl,holdsB (by rfl) (by simp[h])⟩,.refl _⟩
  intro _ _
  refine pwp_condD (fun h5=>?_) (fun h5=>?_)
  ·refine wf ?_
   refine j_add (l:= []) rfl rfl (by(conv=>lhs;whnf);done) (h1:=(by first|infer_instance|fail)) (by simp) fun t' u=>?_
   refine wf ?_
   exact⟨([⟨c.file,86,[]⟩],t'),by rw[e1,if_pos h5],⟨rfl,rfl,rfl⟩,.refl _⟩
  ·refine wf ?_
   exact⟨([],.nil),by rw[e1,if_neg h5],⟨rfl,rfl,rfl⟩,.refl _⟩
 rintro⟨l1,t1⟩ hl1
 dsimp only at hl1 ⊢
 subst hl1
 refine ws ?_
 refine pops_cutE [(39,.raw (.bool (decide (c.kind=2∧c.parent≠⟨Dig.zero,-1⟩)))),(1,.pt (eChg c) 0),(3,.raw (.pointer (some ⟨b3,0,none⟩))),(4,.clo 83 [.raw (.pointer (some ⟨b3,0,none⟩))])] (.box b3 89 [.slice ((refs1 c).map eRfc) t1]:: .tok t1 (refs1 c).length 34::LF) ?_ ?_
 ·repeat' (first|(refine pwp_condD (fun h=>?_) (fun h=>?_)<;>refine wf ?_)|(refine pwp_condN (fun h=>?_) (fun h=>?_)<;>refine wf ?_)|(refine pwp_condB (fun h=>?_) (fun h=>?_)<;>refine wf ?_)|(refine pops_if (fun h=>?_) (fun h=>?_)<;>(have h2:=h;(try simp only[decide_eq_true_eq,decide_eq_false_iff_not,Bool.not_eq_true',Bool.not_eq_false']at h2);refine wf ?_)))
  all_goals (refine⟨⟨holdsB (by rfl) ?_,rfl,rfl,rfl⟩,.refl _⟩;first|(simp_all;done)|grind)
 refine pwp_joinG (σ:=List Rfc × Tag) (fun s=>s.1=refs1 c++refs2 c) (fun s=> [(1,.pt (eChg c) 0),(3,.raw (.pointer (some ⟨b3,0,none⟩))),(4,.clo 83 [.raw (.pointer (some ⟨b3,0,none⟩))])]) (fun s=> .box b3 89 [.slice (s.1.map eRfc) s.2]:: .tok s.2 s.1.length 34::LF) ?_ ?_
 ·refine pwp_condD (fun h=>?_) (fun h=>?_)
  ·refine wf ?_
   refine j_add rfl rfl (by(conv=>lhs;whnf);done) (h1:=(by first|infer_instance|fail)) (by omega) fun t' u=>?_
   refine wf ?_
   exact⟨(refs1 c++ [⟨c.parent,88,[]⟩],t'),by rw[refs2,if_pos h],⟨rfl,rfl,rfl⟩,.refl _⟩
  ·refine wf ?_
   exact⟨(refs1 c,t1),by rw[refs2,if_neg h];simp,⟨rfl,rfl,rfl⟩,.refl _⟩
 rintro⟨l1,t2⟩ hl1
 dsimp only at hl1 ⊢
 subst hl1
 refine ws ?_
 refine pops_cutE [(51,.raw (.bool (decide (c.kind=5∨c.kind=6)))),(1,.pt (eChg c) 0),(3,.raw (.pointer (some ⟨b3,0,none⟩))),(4,.clo 83 [.raw (.pointer (some ⟨b3,0,none⟩))])] (.box b3 89 [.slice ((refs1 c++refs2 c).map eRfc) t2]:: .tok t2 (refs1 c++refs2 c).length 34::LF) ?_ ?_
 ·repeat' (first|(refine pwp_condD (fun h=>?_) (fun h=>?_)<;>refine wf ?_)|(refine pwp_condN (fun h=>?_) (fun h=>?_)<;>refine wf ?_)|(refine pwp_condB (fun h=>?_) (fun h=>?_)<;>refine wf ?_)|(refine pops_if (fun h=>?_) (fun h=>?_)<;>(have h2:=h;(try simp only[decide_eq_true_eq,decide_eq_false_iff_not,Bool.not_eq_true',Bool.not_eq_false']at h2);refine wf ?_)))
  all_goals (refine⟨⟨holdsB (by rfl) ?_,rfl,rfl,rfl⟩,.refl _⟩;first|(simp_all;done)|grind)
 refine pwp_joinG (σ:=List Rfc × Tag) (fun s=>s.1=refs1 c++refs2 c++refs3 c) (fun s=> [(1,.pt (eChg c) 0),(3,.raw (.pointer (some ⟨b3,0,none⟩))),(4,.clo 83 [.raw (.pointer (some ⟨b3,0,none⟩))])]) (fun s=> .box b3 89 [.slice (s.1.map eRfc) s.2]:: .tok s.2 s.1.length 34::LF) ?_ ?_
 ·refine pwp_condD (fun h=>?_) (fun h=>?_)
  ·refine wf ?_
   refine j_add rfl rfl (by(conv=>lhs;whnf);done) (h1:=(by first|infer_instance|fail)) (by simp only[List.length_append];omega) fun t' u=>?_
   refine wf ?_
   refine j_add rfl rfl (by(conv=>lhs;whnf);done) (h1:=(by first|infer_instance|fail)) (by simp only[List.length_append,List.length_cons,List.length_nil];omega) fun t' u=>?_
   refine wf ?_
   exact⟨(refs1 c++refs2 c++ [⟨c.after,89,[.pt (eChg c) 0]⟩]++ [⟨c.before,89,[.pt (eChg c) 0]⟩],t'),by rw[refs3,if_pos h];simp,⟨rfl,rfl,rfl⟩,.refl _⟩
  ·refine wf ?_
   exact⟨(refs1 c++refs2 c,t2),by rw[refs3,if_neg h];simp,⟨rfl,rfl,rfl⟩,.refl _⟩
 rintro⟨l1,t3⟩ hl1
 dsimp only at hl1 ⊢
 have hl3:l1.length≤4:=by rw[hl1];simp only[List.length_append];omega
 refine wf ?_
 refine pwp_loopS (σ:=Nat × List Rfc × Tag) (fun k=>k.1≤c.over.length∧k.2.1=l1++refs4 c (c.over.take k.1)) (fun k=>c.over.length - k.1) (fun k=> [(1,.pt (eChg c) 0),(3,.raw (.pointer (some ⟨b3,0,none⟩))),(4,.clo 83 [.raw (.pointer (some ⟨b3,0,none⟩))]),(64,.slice (c.over.map eIdent) .ro),(65,.raw (.int .i64 c.over.length)),(66,.raw (.int .i64 k.1))]) (fun k=> .box b3 89 [.slice (k.2.1.map eRfc) k.2.2]:: .tok k.2.2 k.2.1.length 34::LF) (0,l1,t3) ⟨by simp,by simp[refs4]⟩ ⟨rfl,rfl,rfl,rfl,rfl,rfl⟩ (.refl _) ?_
 rintro⟨k,m,t4⟩ ⟨hk,hm⟩
 dsimp only at hk hm ⊢
 have hml:m.length≤404:=by rw[hm,refs4];simp only[List.length_append,List.length_map,List.length_take];omega
 refine wf ?_
 refine pwp_condD (fun hc=>?_) (fun hc=>?_)
 ·have hlt:k < c.over.length:=by omega
  refine wz fun b7=>?_
  refine pwp_freezeD 7 ?_
  refine wf ?_
  refine j_add rfl rfl (by(conv=>lhs;whnf);done) (h1:=(by first|infer_instance|fail)) (by omega) fun t' u=>?_
  refine wf ?_
  refine⟨(k+1,m++ [⟨c.over[k],90,[.pt (eChg c) 0]⟩],t'),⟨by dsimp only;omega,?_⟩,by dsimp only;omega,⟨rfl,rfl,rfl,rfl,rfl,rfl⟩,.refl _⟩
  dsimp only
  rw[hm,refs4,refs4,List.take_succ_eq_append_getElem hlt,List.map_append,List.append_assoc];rfl
 ·rw[List.take_of_length_le (by omega)]at hm
  refine wf ?_
  refine end1 (.ros ?_)
  rw[hm,hl1];rfl⟩
end Go.Proofs
namespace Go.Proofs
open Go Go.Q
attribute [local irreducible] pwp pops PCalls OpN
theorem firstErr_append {α:Type} (f:α→Int): ∀ a b:List α,firstErr f (a++b)=if firstErr f a≠0 then firstErr f a else firstErr f b
 | [],b=>by simp[firstErr]
 |x::a,b=>by
  simp only[List.cons_append,firstErr,firstErr_append f a b]
  by_cases h:f x=0<;>simp[h]
theorem firstErr_map {α β:Type} (f:β→Int) (g:α→β): ∀ l:List α,firstErr f (l.map g)=firstErr (fun x=>f (g x)) l
 | []=>rfl
 |x::l=>by simp only[List.map_cons,firstErr,firstErr_map f g l]
theorem firstErr_congr {α:Type} {f g:α→Int}: ∀ {l:List α},(∀ x∈l,f x=g x)→firstErr f l=firstErr g l
 | [],_=>rfl
 |x::l,h=>by
  rw[firstErr,firstErr,h x (by simp),firstErr_congr (fun y hy=>h y (List.mem_cons_of_mem _ hy))]
def predF (c:Chg) (f:Nat):Atm→Bool:=
 if f=84 then pf2 else if f=85 then pf3 else if f=86 then pf4 else if f=88 then pf5 else if f=89 then pf6 c else pf7 c
theorem fits_mem (c:Chg) (r:Rfc) (h:r∈refsP c):Fits Tryz.prog r (predF c r.f):=by
 simp only[refsP,List.mem_append]at h
 rcases h with ((h|h)|h)|h
 ·unfold refs1 at h
  split at h
  ·simp at h;subst h;exact⟨inferInstance,fun a=>(pf2_ct a).out⟩
  ·split at h
   ·simp at h;subst h;exact⟨inferInstance,fun a=>(pf3_ct a).out⟩
   ·split at h
    ·simp at h;subst h;exact⟨inferInstance,fun a=>(pf4_ct a).out⟩
    ·simp at h
 ·unfold refs2 at h
  split at h
  ·simp at h;subst h;exact⟨inferInstance,fun a=>(pf5_ct a).out⟩
  ·simp at h
 ·unfold refs3 at h
  split at h
  ·simp at h
   rcases h with h|h<;>subst h<;>exact⟨inferInstance,fun a=>(pf6_ct c a).out⟩
  ·simp at h
 ·unfold refs4 at h
  obtain⟨x,_,rfl⟩:=List.mem_map.1 h
  exact⟨inferInstance,fun a=>(pf7_ct c a).out⟩
def refE (c:Chg) (own:List Atm) (r:Rfc):Int:=
 if r.id.n < 0∨(r.id.patch=Dig.zero∧(own.length:Int)≤r.id.n)∨100000≤r.id.n then 7 else if r.id.patch=Dig.zero∧predF c r.f (own.getD r.id.n.toNat Atm.zero)=false then 8 else 0
def rRefsP (c:Chg) (own:List Atm):Int:=
 if firstErr (refE c own) (refsP c)≠0 then firstErr (refE c own) (refsP c)else if c.kind=2∧c.parent=c.file then 20 else
 if(c.kind=6∧c.after=c.before)∨(c.kind=5∧c.after=c.before∧c.after≠c.file)then 1 else 0
def idsOk (own:List Atm):Prop:= ∀ i (h:i < own.length),own[i].id=⟨Dig.zero,i⟩
theorem refE_one (c:Chg) (own:List Atm) (hl:own.length≤100000) (x:Ident) (f:Nat) (cs:List PV):refE c own ⟨x,f,cs⟩=rOne x own (predF c f (rGet own x)):=by
 by_cases h:x.patch=Dig.zero
 ·by_cases h1:0≤x.n∧x.n < own.length
  ·have n1: ¬(x.n < 0∨(x.patch=Dig.zero∧(own.length:Int)≤x.n)∨100000≤x.n):=by rintro(h2|⟨_,h2⟩|h2)<;>omega
   have ha:rAllowed x own.length=true:=by unfold rAllowed;rw[if_pos h];simp[h1]
   unfold refE rOne rGet
   dsimp only
   rw[if_neg n1,ha,if_pos (show x.patch=Dig.zero∧0≤x.n from⟨h,h1.1⟩)]
   simp only[Bool.true_eq_false,if_false]
  ·have n1:x.n < 0∨(x.patch=Dig.zero∧(own.length:Int)≤x.n)∨100000≤x.n:=by
    by_cases h2:x.n < 0
    ·exact .inl h2
    ·exact .inr (.inl ⟨h,by omega⟩)
   have ha:rAllowed x own.length=false:=by
    unfold rAllowed;rw[if_pos h]
    by_cases h2:0≤x.n
    ·have: ¬x.n < own.length:=fun h3=>h1 ⟨h2,h3⟩
     simp[this]
    ·simp[h2]
   unfold refE rOne
   dsimp only
   rw[if_pos n1,if_pos ha]
 ·by_cases h1:0≤x.n∧x.n < 100000
  ·have n1: ¬(x.n < 0∨(x.patch=Dig.zero∧(own.length:Int)≤x.n)∨100000≤x.n):=by
    rintro(h2|⟨h2,_⟩|h2)
    ·omega
    ·exact h h2
    ·omega
   have ha:rAllowed x own.length=true:=by unfold rAllowed;rw[if_neg h];simp[h1]
   unfold refE rOne
   dsimp only
   rw[if_neg n1,ha]
   simp only[Bool.true_eq_false,if_false,h,false_and]
  ·have n1:x.n < 0∨(x.patch=Dig.zero∧(own.length:Int)≤x.n)∨100000≤x.n:=by omega
   have ha:rAllowed x own.length=false:=by
    unfold rAllowed;rw[if_neg h]
    by_cases h2:0≤x.n
    ·have: ¬x.n < 100000:=fun h3=>h1 ⟨h2,h3⟩
     simp[this]
    ·simp[h2]
   unfold refE rOne
   dsimp only
   rw[if_pos n1,if_pos ha]
theorem rOne_congr {x:Ident} {own:List Atm} {a b:Bool} (h:x.patch=Dig.zero→0≤x.n→x.n < own.length→a=b):rOne x own a=rOne x own b:=by
 unfold rOne
 by_cases h1:rAllowed x own.length=false
 ·rw[if_pos h1,if_pos h1]
 rw[if_neg h1,if_neg h1]
 by_cases h2:x.patch=Dig.zero
 ·have h3:rAllowed x own.length=true:=by simpa using h1
  unfold rAllowed at h3
  simp only[h2,if_true,Bool.and_eq_true,decide_eq_true_eq]at h3
  rw[h h2 h3.1 h3.2]
 ·rw[if_neg (fun h3=>h2 h3.1),if_neg (fun h3=>h2 h3.1)]
theorem fields_kind {c:Chg} (h:rFields c=0):1≤c.kind∧c.kind≤7:=by
 unfold rFields at h
 by_cases h1:c.kind < 1∨7 < c.kind
 ·rw[if_pos h1]at h;omega
 ·omega
theorem fields_empty {c:Chg} (h:rFields c=0):rEmpty (rRest c)=true:=by
 have hk:=fields_kind h
 unfold rFields at h
 rw[if_neg (by omega)]at h
 by_cases h1:rEmpty (rRest c)=false
 ·rw[if_pos h1]at h;omega
 ·simpa using h1
theorem fields_over {c:Chg} (h:rFields c=0) (hk:c.kind=1∨c.kind=5):c.over= []:=by
 have h2:=fields_empty h
 unfold rEmpty rRest at h2
 simp only[Bool.and_eq_true,decide_eq_true_eq]at h2
 have h3:=h2.2
 rw[if_neg (by omega)]at h3
 exact List.eq_nil_of_length_eq_zero (by omega)
theorem fields_over_len {c:Chg} (h:rFields c=0):c.over.length≤400:=by
 have h0:=fields_over h
 have hk:c.kind=5∨c.kind≠5:=by omega
 rcases hk with hk|hk
 ·rw[h0 (.inr hk)];simp
 clear h0
 unfold rFields at h
 generalize rEmpty (rRest c)=a1 at h
 generalize rName c.name=a2 at h
 generalize rAsc c.over=a3 at h
 generalize rLines c.lines=a4 at h
 rcases Nat.lt_or_ge 400 c.over.length with hc|hc
 ·exfalso
  have hc':400 < (c.over.length:Int):=by omega
  rw[if_pos hc',if_neg hk]at h
  by_cases g1:c.kind < 1∨7 < c.kind
  ·rw[if_pos g1]at h;exact absurd h (by decide)
  rw[if_neg g1]at h
  by_cases g2:a1=false
  ·rw[if_pos g2]at h;exact absurd h (by decide)
  rw[if_neg g2]at h
  by_cases g3:c.kind=1∧(c.type < 1∨4 < c.type)
  ·rw[if_pos g3]at h;exact absurd h (by decide)
  rw[if_neg g3]at h
  by_cases g4:c.kind=2∧a2=false
  ·rw[if_pos g4]at h;exact absurd h (by decide)
  rw[if_neg g4]at h
  by_cases g5:c.kind=3∧(c.mode < 0∨511 < c.mode)
  ·rw[if_pos g5]at h;exact absurd h (by decide)
  rw[if_neg g5]at h
  by_cases g6:65536 < (c.data.length:Int)
  ·rw[if_pos g6]at h;exact absurd h (by decide)
  rw[if_neg g6]at h
  by_cases g7:c.kind=7∧(c.over.length:Int)=0
  ·rw[if_pos g7]at h;exact absurd h (by decide)
  rw[if_neg g7]at h
  exact absurd h (by decide)
 ·exact hc
theorem refsP_eq {c:Chg} {own:List Atm} (hf:rFields c=0) (hl:own.length≤100000) (hi:idsOk own):rRefsP c own=rRefs c own:=by
 have hk:=fields_kind hf
 have e1:firstErr (refE c own) (refs1 c)=rRefF c own:=by
  unfold refs1 rRefF
  by_cases h1:c.kind=2∨c.kind=3
  ·have:pf2=rFitsFile c.kind:=by
    funext a;unfold pf2 rFitsFile rText
    rcases h1 with h|h<;>simp[h]
   rw[if_pos h1,if_pos (by omega),firstErr,firstErr,refE_one c own hl,show predF c 84=pf2 from rfl,this]
   split<;>simp_all
  by_cases h2:c.kind=4
  ·have:pf3=rFitsFile c.kind:=by
    funext a;unfold pf3 rFitsFile rText
    simp[h2]<;>(by_cases ha:a.kind=1<;>simp[ha])
   rw[if_neg h1,if_pos h2,if_pos (by omega),firstErr,firstErr,refE_one c own hl,show predF c 85=pf3 from rfl,this]
   split<;>simp_all
  by_cases h3:c.kind=5∨c.kind=6
  ·have:pf4=rFitsFile c.kind:=by
    funext a;unfold pf4 rFitsFile rText
    rcases h3 with h|h<;>simp[h]<;>by_cases ha:a.kind=1<;>simp[ha]
   rw[if_neg h1,if_neg h2,if_pos h3,if_pos (by omega),firstErr,firstErr,refE_one c own hl,show predF c 86=pf4 from rfl,this]
   split<;>simp_all
  ·rw[if_neg h1,if_neg h2,if_neg h3,if_neg (by omega)];rfl
 have e2:firstErr (refE c own) (refs2 c)=rRefP c own:=by
  unfold refs2 rRefP rRoot
  by_cases h1:c.kind=2∧c.parent≠⟨Dig.zero,-1⟩
  ·rw[if_pos h1,if_pos h1,firstErr,firstErr,refE_one c own hl,show predF c 88=pf5 from rfl,show pf5=rDirectory from rfl]
   split<;>simp_all
  ·rw[if_neg h1,if_neg h1];rfl
 have e6: ∀ x:Ident,refE c own ⟨x,89,[.pt (eChg c) 0]⟩=rRefE c own x:=fun x=>by
  rw[refE_one c own hl,show predF c 89=pf6 c from rfl,rRefE]
  refine rOne_congr fun h1 h2 h3=>?_
  have h4:x.n.toNat < own.length:=by omega
  have e:(rGet own x).id=x:=by
   unfold rGet
   rw[if_pos ⟨h1,h2⟩]
   have:own.getD x.n.toNat Atm.zero=own[x.n.toNat]:=by simp[List.getD,h4]
   rw[this,hi _ h4]
   obtain⟨p,n⟩:=x
   simp only at h1 h2 ⊢
   subst h1
   congr 1
   omega
  unfold pf6
  rw[e];rfl
 have e3:firstErr (refE c own) (refs3 c)=rRefEs c own:=by
  unfold refs3 rRefEs
  by_cases h1:c.kind=5∨c.kind=6
  ·have:rText c.kind=true:=by unfold rText;rcases h1 with h|h<;>simp[h]
   rw[if_pos h1,if_pos this]
   simp only[firstErr,e6]
  ·have: ¬rText c.kind=true:=by unfold rText;intro h;simp at h;exact h1 h
   rw[if_neg h1,if_neg this];rfl
 have e4:firstErr (refE c own) (refs4 c c.over)=firstErr (rRefO c own) c.over:=by
  unfold refs4
  rw[firstErr_map]
  refine firstErr_congr fun x hx=>?_
  rw[refE_one c own hl,show predF c 90=pf7 c from rfl,rRefO]
  refine rOne_congr fun _ _ _=>?_
  have h15:c.kind≠1∧c.kind≠5:=⟨fun h=>(by rw[fields_over hf (.inl h)]at hx;simp at hx),fun h=>(by rw[fields_over hf (.inr h)]at hx;simp at hx)⟩
  unfold pf7 rFitsOver rWant ovK
  by_cases h7:c.kind=7
  ·simp[h7]
  ·have:c.kind=2∨c.kind=3∨c.kind=4∨c.kind=6:=by omega
   rw[if_pos this,if_neg h7]
   simp[h7]
   omega
 unfold rRefsP rRefs
 rw[refsP,firstErr_append,firstErr_append,firstErr_append,e1,e2,e3,e4]
 have e5:((c.kind=6∧c.after=c.before)∨(c.kind=5∧c.after=c.before∧c.after≠c.file))↔((rText c.kind=true∧c.after=c.before)∧(c.kind=6∨c.after≠c.file)):=by
  unfold rText
  simp only[Bool.or_eq_true,decide_eq_true_eq]
  constructor
  ·rintro(⟨h1,h2⟩|⟨h1,h2,h3⟩)
   ·exact⟨⟨.inr h1,h2⟩,.inl h1⟩
   ·exact⟨⟨.inl h1,h2⟩,.inr h3⟩
  ·rintro⟨⟨h1|h1,h2⟩,h3⟩
   ·rcases h3 with h3|h3
    ·omega
    ·exact .inr ⟨h1,h2,h3⟩
   ·exact .inl ⟨h1,h2⟩
 simp only[e5]
 by_cases a1:rRefF c own=0<;>by_cases a2:rRefP c own=0<;>by_cases a3:rRefEs c own=0<;>by_cases a4:firstErr (rRefO c own) c.over=0<;>simp[a1,a2,a3,a4]
end Go.Proofs
namespace Go.Proofs
open Go Go.Q
attribute [local irreducible] pwp pops PCalls OpN
theorem refsP_len {c:Chg} (h:c.over.length≤400):(refsP c).length≤404:=by
 have r1:=refs1_len c
 have r2:=refs2_len c
 have r3:=refs3_len c
 rw[refsP,refs4];simp only[List.length_append,List.length_map];omega
set_option maxHeartbeats 4000000 in
theorem checkRefs_fn (c:Chg) (own:List Atm) (t:Tag) (hov:c.over.length≤400) (hol:own.length≤100000):Q.Fn Tryz.prog 114 [.agg (eChg c),.slice (own.map eAtm) t] (.raw (.int .i64 (rRefsP c own))):=by
 have i0:Small (c.over.length≤400):=⟨hov⟩
 have hrl:=refsP_len hov
 refine fn_of Tryz.func114 Tryz.ntmps114 rfl (rs:= [.tmp 4]) rfl rfl fun hb LF=>?_
 refine wf ?_
 refine pwp_loopS (σ:=Nat) (fun k=>k≤(refsP c).length∧ ∀ i (h:i < (refsP c).length),i < k→refE c own (refsP c)[i]=0) (fun k=>(refsP c).length - k) (fun k=> [(1,.slice (own.map eAtm) t),(2,.pt (eChg c) 0),(8,.slice ((refsP c).map eRfc) .ro),(9,.raw (.int .i64 (refsP c).length)),(10,.raw (.int .i64 k))]) (fun _=>LF) 0 ⟨by simp,by simp⟩ ⟨rfl,rfl,rfl,rfl,rfl⟩ (.refl _) ?_
 rintro k ⟨hk,he⟩
 refine wf ?_
 refine pwp_condD (fun hc=>?_) (fun hc=>?_)
 ·have hlt:k < (refsP c).length:=by omega
  have hat:=firstErr_at (f:=refE c own) hlt he
  have hsu:=fun h=>upto_succ0 (f:=refE c own) he hlt h
  have hfit:=fits_mem c _ (List.getElem_mem hlt)
  refine wz fun b6=>?_
  generalize (refsP c)[k]=r at hat hsu hfit ⊢
  refine pwp_freezeD 6 ?_
  have i1:TFun Tryz.prog r.f:=hfit.fn
  have i2: ∀ a:Atm,FnC Tryz.prog r.f (.agg (eAtm a)::r.cs) (.raw (.bool (predF c r.f a))):=fun a=>⟨hfit.out a⟩
  have er:refE c own r=if r.id.n < 0∨(r.id.patch=Dig.zero∧(own.length:Int)≤r.id.n)∨100000≤r.id.n then 7 else if r.id.patch=Dig.zero∧predF c r.f (own.getD r.id.n.toNat Atm.zero)=false then 8 else 0:=rfl
  refine wf ?_
  refine pwp_joinG (σ:=Unit) (fun _=>True) (fun _=> [(1,.slice (own.map eAtm) t),(2,.pt (eChg c) 0),(6,.pt (eRfc r) 0),(8,.slice ((refsP c).map eRfc) .ro),(9,.raw (.int .i64 (refsP c).length)),(10,.raw (.int .i64 k)),(14,.raw (.bool (decide (r.id.n < 0∨(r.id.patch=Dig.zero∧(own.length:Int)≤r.id.n)∨100000≤r.id.n))))]) (fun _=>LF) ?_ ?_
  ·refine pwp_condD (fun h=>?_) (fun h=>?_)
   ·refine wf ?_
    exact⟨(),trivial,⟨rfl,rfl,rfl,rfl,rfl,rfl,holdsB (by rfl) (by simp[h])⟩,.refl _⟩
   ·refine wf ?_
    refine pops_cutE [(14,.raw (.bool (decide (r.id.patch=Dig.zero∧(own.length:Int)≤r.id.n)))),(1,.slice (own.map eAtm) t),(2,.pt (eChg c) 0),(6,.pt (eRfc r) 0),(8,.slice ((refsP c).map eRfc) .ro),(9,.raw (.int .i64 (refsP c).length)),(10,.raw (.int .i64 k))] (LF) ?_ ?_
    ·repeat' (first|(refine pwp_condD (fun h=>?_) (fun h=>?_)<;>refine wf ?_)|(refine pwp_condN (fun h=>?_) (fun h=>?_)<;>refine wf ?_)|(refine pwp_condB (fun h=>?_) (fun h=>?_)<;>refine wf ?_)|(refine pops_if (fun h=>?_) (fun h=>?_)<;>(have h2:=h;(try simp only[decide_eq_true_eq,decide_eq_false_iff_not,Bool.not_eq_true',Bool.not_eq_false']at h2);refine wf ?_)))
     all_goals (refine⟨⟨holdsB (by rfl) ?_,rfl,rfl,rfl,rfl,rfl,rfl⟩,.refl _⟩;first|(simp_all;done)|(clear hat hsu hfit er he;grind))
    refine wf ?_
    refine pwp_condD (fun h2=>?_) (fun h2=>?_)
    ·refine wf ?_
     exact⟨(),trivial,⟨rfl,rfl,rfl,rfl,rfl,rfl,holdsB (by rfl) (by simp[h2])⟩,.refl _⟩
    ·refine wf ?_
     have e8:(100000≤r.id.n)↔(r.id.n < 0∨(r.id.patch=Dig.zero∧(own.length:Int)≤r.id.n)∨100000≤r.id.n):=⟨fun h=> .inr (.inr h),fun h3=>by
      rcases h3 with h3|h3|h3
      ·exact absurd h3 h
      ·exact absurd h3 h2
      ·exact h3⟩
     exact⟨(),trivial,⟨rfl,rfl,rfl,rfl,rfl,rfl,holdsB (by rfl) (by rw[decide_eq_decide];exact e8)⟩,.refl _⟩
  intro _ _
  refine pwp_condD (fun h=>?_) (fun h=>?_)
  ·refine wf ?_
   refine end1 (.of_eq ?_)
   rw[if_pos h]at er
   rw[rRefsP,hat (by rw[er];decide),er];rfl
  rw[if_neg h]at er
  refine wf ?_
  refine pops_cutE [(34,.raw (.bool (decide (r.id.patch=Dig.zero∧predF c r.f (own.getD r.id.n.toNat Atm.zero)=false)))),(1,.slice (own.map eAtm) t),(2,.pt (eChg c) 0),(8,.slice ((refsP c).map eRfc) .ro),(9,.raw (.int .i64 (refsP c).length)),(10,.raw (.int .i64 k))] LF ?_ ?_
  ·refine pops_if (fun hp=>?_) (fun hp=>?_)
   ·have hp2:=of_decide_eq_true hp
    have g1:0≤r.id.n:=by
     rcases Int.lt_or_le r.id.n 0 with h'|h'
     ·exact absurd (.inl h') h
     ·exact h'
    have g2:r.id.n < own.length:=by
     rcases Int.lt_or_le r.id.n own.length with h'|h'
     ·exact h'
     ·exact absurd (.inr (.inl ⟨hp2,h'⟩)) h
    have g3:own.getD r.id.n.toNat Atm.zero=own[r.id.n.toNat]'(by omega):=by
     have:r.id.n.toNat < own.length:=by omega
     simp[List.getD,this]
    refine wf ?_
    exact⟨⟨holdsB (by rfl) (by rw[g3];simp[hp2]),rfl,rfl,rfl,rfl,rfl⟩,.refl _⟩
   ·have hp2:=of_decide_eq_false hp
    refine wf ?_
    exact⟨⟨holdsB (by rfl) (by simp[hp2]),rfl,rfl,rfl,rfl,rfl⟩,.refl _⟩
  refine wf ?_
  refine pwp_condD (fun h2=>?_) (fun h2=>?_)
  ·refine wf ?_
   refine end1 (.of_eq ?_)
   rw[if_pos h2]at er
   rw[rRefsP,hat (by rw[er];decide),er];rfl
  ·rw[if_neg h2]at er
   refine wf ?_
   exact⟨k+1,⟨by omega,hsu er⟩,by dsimp only;omega,⟨rfl,rfl,rfl,rfl,rfl⟩,.refl _⟩
 have e0:firstErr (refE c own) (refsP c)=0:=firstErr_zero fun i h=>he i h (by omega)
 rw[rRefsP,if_neg (by simp[e0])]
 clear e0 he hk hc
 refine wf ?_
 refine pops_cutE [(51,.raw (.bool (decide (c.kind=2∧c.parent=c.file)))),(2,.pt (eChg c) 0)] (LF) ?_ ?_
 ·repeat' (first|(refine pwp_condD (fun h=>?_) (fun h=>?_)<;>refine wf ?_)|(refine pwp_condN (fun h=>?_) (fun h=>?_)<;>refine wf ?_)|(refine pwp_condB (fun h=>?_) (fun h=>?_)<;>refine wf ?_)|(refine pops_if (fun h=>?_) (fun h=>?_)<;>(have h2:=h;(try simp only[decide_eq_true_eq,decide_eq_false_iff_not,Bool.not_eq_true',Bool.not_eq_false']at h2);refine wf ?_)))
  all_goals (refine⟨⟨holdsB (by rfl) ?_,rfl⟩,.refl _⟩;first|(simp_all;done)|grind)
 refine wf ?_
 refine pwp_condD (fun h=>?_) (fun h=>?_)
 ·refine wf ?_
  refine end1 (.of_eq ?_)
  rw[if_pos h]
 rw[if_neg h]
 refine wf ?_
 refine pops_cutE [(62,.raw (.bool (decide (c.kind=6∧c.after=c.before)))),(2,.pt (eChg c) 0)] (LF) ?_ ?_
 ·repeat' (first|(refine pwp_condD (fun h=>?_) (fun h=>?_)<;>refine wf ?_)|(refine pwp_condN (fun h=>?_) (fun h=>?_)<;>refine wf ?_)|(refine pwp_condB (fun h=>?_) (fun h=>?_)<;>refine wf ?_)|(refine pops_if (fun h=>?_) (fun h=>?_)<;>(have h2:=h;(try simp only[decide_eq_true_eq,decide_eq_false_iff_not,Bool.not_eq_true',Bool.not_eq_false']at h2);refine wf ?_)))
  all_goals (refine⟨⟨holdsB (by rfl) ?_,rfl⟩,.refl _⟩;first|(simp_all;done)|grind)
 refine wf ?_
 refine pwp_joinG (σ:=Unit) (fun _=>True) (fun _=> [(62,.raw (.bool (decide ((c.kind=6∧c.after=c.before)∨(c.kind=5∧c.after=c.before∧c.after≠c.file)))))]) (fun _=>LF) ?_ ?_
 ·refine pwp_condD (fun h=>?_) (fun h=>?_)
  ·refine wf ?_
   exact⟨(),trivial,holdsB (by rfl) (by simp[h]),.refl _⟩
  ·refine wf ?_
   repeat' (first|(refine pwp_condD (fun h=>?_) (fun h=>?_)<;>refine wf ?_)|(refine pwp_condN (fun h=>?_) (fun h=>?_)<;>refine wf ?_)|(refine pwp_condB (fun h=>?_) (fun h=>?_)<;>refine wf ?_)|(refine pops_if (fun h=>?_) (fun h=>?_)<;>(have h2:=h;(try simp only[decide_eq_true_eq,decide_eq_false_iff_not,Bool.not_eq_true',Bool.not_eq_false']at h2);refine wf ?_)))
   all_goals (refine⟨(),trivial,holdsB (by rfl) ?_,.refl _⟩;first|(simp_all;done)|grind)
 intro _ _
 refine pwp_condD (fun h=>?_) (fun h=>?_)
 ·refine wf ?_
  refine end1 (.of_eq ?_)
  rw[if_pos h]
 ·refine wf ?_
  refine end1 (.of_eq ?_)
  rw[if_neg h]
instance checkReferences_ct (c:Chg) (own:List Atm) (t:Tag) [hs:Small (rFields c=0∧own.length≤100000∧idsOk own)]:FnC Tryz.prog 114 [.agg (eChg c),.slice (own.map eAtm) t] (.raw (.int .i64 (rRefs c own))):=⟨by
 obtain⟨h1,h2,h3⟩:=hs.out
 rw[←refsP_eq h1 h2 h3]
 exact checkRefs_fn c own t (fields_over_len h1) h2⟩
end Go.Proofs
namespace Go.Proofs
open Go Go.Q
attribute [local irreducible] pwp pops PCalls OpN PYield
instance made11_ct (first n:Int) [hs:Small (0≤first∧first≤1000000000∧0≤n∧n≤100000)]:FnC Tryz.prog 159 [.raw (.int .i64 n),.pt [.raw (.int .i64 first)] 0] (.agg (eIdent ⟨Dig.zero,first+n⟩)):=⟨by
 obtain⟨h1,h2,h3,h4⟩:=hs.out
 refine fn_of Tryz.func159 Tryz.ntmps159 rfl (rs:= [.cell 3 84]) rfl rfl fun hb LF=>?_
 refine wfb fun b=>?_
 exact endC rfl (.refl _)⟩
theorem rMade_mem1 {c:Chg} {first:Int} {x:Atm} (e:rMade c first= [x]):([]++ [x]) <+:rMade c first:=by rw[e];exact⟨[],rfl⟩
theorem range_prefix {k n:Nat} (h:k≤n):List.range k <+:List.range n:=by
 have:=List.take_prefix k (List.range n)
 rwa [List.take_range,Nat.min_eq_left h]at this
theorem perm_two {a b:Res} {L LF:List Res}:(a::b::(L++LF)).Perm (L++(a::b::LF)):=((List.perm_middle (l₁:=L)).trans (.cons a List.perm_middle)).symm
def mCaps (c:Chg) (first:Int):List PV:= [.pt [.raw (.int .i64 first)] 0,.pt (eChg c) 0]
def eAtm1 (a:Atm):List PV:= [.agg (eAtm a)]
set_option maxHeartbeats 4000000 in
theorem made_iter (c:Chg) (first:Int) (hk:1≤c.kind∧c.kind≤7) (hl:c.lines.length≤2000∧0≤first∧first≤1000000000):PIter Tryz.prog 158 (mCaps c first) eAtm1 (rMade c first):=by
 intro l J Jx hY L hJ
 obtain⟨hl,hf0,hf1⟩:=hl
 have hz:Small (0≤first∧first≤1000000000∧(0:Int)≤0∧(0:Int)≤100000):=⟨by omega⟩
 refine pcalls_bd Tryz.func158 rfl Tryz.ntmps158 (rs:= []) rfl rfl fun hb LF=>?_
 refine wn ?_
 refine pwp_condD (fun h1=>?_) (fun h1=>?_)
 ·have e:rMade c first= [{ Atm.zero with id:=⟨Dig.zero,first+0⟩,kind:=1,file:=⟨Dig.zero,first+0⟩,type:=c.type }]:=by rw[rMade,if_pos h1,Int.add_zero]
  refine pwp_drawN 8 ?_ ?_
  ·decide+kernel
  refine wf ?_
  refine s_yield L LF rfl rfl rfl (.refl _) _ (hY [] _ L (rMade_mem1 e) hJ) fun b L' hR=>?_
  refine wf ?_
  refine⟨trivial,[],L',.nil,.refl _,?_⟩
  rcases hR with ⟨_,h⟩|⟨_,h⟩
  ·exact .inl (by rw[e];exact h)
  ·exact .inr ⟨_,h⟩
 refine wn ?_
 refine pwp_condD (fun h2=>?_) (fun h2=>?_)
 ·have e:rMade c first= [{ Atm.zero with id:=⟨Dig.zero,first+0⟩,kind:=2,file:=c.file,parent:=c.parent,name:=c.name,over:=c.over }]:=by rw[rMade,if_neg h1,if_pos h2,Int.add_zero]
  refine pwp_drawN 12 ?_ ?_
  ·decide+kernel
  refine wf ?_
  refine s_yield L LF rfl rfl rfl (.refl _) _ (hY [] _ L (rMade_mem1 e) hJ) fun b L' hR=>?_
  refine wf ?_
  refine⟨trivial,[],L',.nil,.refl _,?_⟩
  rcases hR with ⟨_,h⟩|⟨_,h⟩
  ·exact .inl (by rw[e];exact h)
  ·exact .inr ⟨_,h⟩
 refine wn ?_
 refine pwp_condD (fun h3=>?_) (fun h3=>?_)
 ·have e:rMade c first= [{ Atm.zero with id:=⟨Dig.zero,first+0⟩,kind:=3,file:=c.file,mode:=c.mode,over:=c.over }]:=by rw[rMade,if_neg h1,if_neg h2,if_pos h3,Int.add_zero]
  refine pwp_drawN 10 ?_ ?_
  ·decide+kernel
  refine wf ?_
  refine s_yield L LF rfl rfl rfl (.refl _) _ (hY [] _ L (rMade_mem1 e) hJ) fun b L' hR=>?_
  refine wf ?_
  refine⟨trivial,[],L',.nil,.refl _,?_⟩
  rcases hR with ⟨_,h⟩|⟨_,h⟩
  ·exact .inl (by rw[e];exact h)
  ·exact .inr ⟨_,h⟩
 refine wn ?_
 refine pwp_condD (fun h4=>?_) (fun h4=>?_)
 ·have e:rMade c first= [{ Atm.zero with id:=⟨Dig.zero,first+0⟩,kind:=4,file:=c.file,data:=c.data,over:=c.over }]:=by rw[rMade,if_neg h1,if_neg h2,if_neg h3,if_pos h4,Int.add_zero]
  refine pwp_drawN 10 ?_ ?_
  ·decide+kernel
  refine wf ?_
  refine s_yield L LF rfl rfl rfl (.refl _) _ (hY [] _ L (rMade_mem1 e) hJ) fun b L' hR=>?_
  refine wf ?_
  refine⟨trivial,[],L',.nil,.refl _,?_⟩
  rcases hR with ⟨_,h⟩|⟨_,h⟩
  ·exact .inl (by rw[e];exact h)
  ·exact .inr ⟨_,h⟩
 refine wn ?_
 refine pwp_condD (fun h6=>?_) (fun h6=>?_)
 ·have e:rMade c first= [{ Atm.zero with id:=⟨Dig.zero,first+0⟩,kind:=6,file:=c.file,src:=c.after,dst:=c.before,over:=c.over }]:=by rw[rMade,if_neg h1,if_neg h2,if_neg h3,if_neg h4,if_pos h6,Int.add_zero]
  refine pwp_drawN 12 ?_ ?_
  ·decide+kernel
  refine wf ?_
  refine s_yield L LF rfl rfl rfl (.refl _) _ (hY [] _ L (rMade_mem1 e) hJ) fun b L' hR=>?_
  refine wf ?_
  refine⟨trivial,[],L',.nil,.refl _,?_⟩
  rcases hR with ⟨_,h⟩|⟨_,h⟩
  ·exact .inl (by rw[e];exact h)
  ·exact .inr ⟨_,h⟩
 refine wn ?_
 refine pwp_condD (fun h7=>?_) (fun h7=>?_)
 ·have e:rMade c first= [{ Atm.zero with id:=⟨Dig.zero,first+0⟩,kind:=7,over:=c.over }]:=by rw[rMade,if_neg h1,if_neg h2,if_neg h3,if_neg h4,if_neg h6,if_pos h7,Int.add_zero]
  refine pwp_drawN 6 ?_ ?_
  ·decide+kernel
  refine wf ?_
  refine s_yield L LF rfl rfl rfl (.refl _) _ (hY [] _ L (rMade_mem1 e) hJ) fun b L' hR=>?_
  refine wf ?_
  refine⟨trivial,[],L',.nil,.refl _,?_⟩
  rcases hR with ⟨_,h⟩|⟨_,h⟩
  ·exact .inl (by rw[e];exact h)
  ·exact .inr ⟨_,h⟩
 refine wn ?_
 refine pwp_condD (fun h5=>?_) (fun h5=>?_)
 ·have e:rMade c first=(List.range c.lines.length).map (rLineA c first)++(List.range (c.lines.length+1)).map (rEdgeA c first):=by rw[rMade,if_neg h1,if_neg h2,if_neg h3,if_neg h4,if_neg h6,if_neg h7]
  have hc209: ∀ n:Nat,n≤4001→Small (0≤first∧first≤1000000000∧(0:Int)≤n∧(n:Int)≤100000):=fun n hn=>⟨by omega⟩
  refine wf ?_
  refine pwp_loopS (σ:=Nat × List Res) (fun k=>k.1≤c.lines.length∧J ((List.range k.1).map (rLineA c first)) k.2) (fun k=>c.lines.length - k.1) (fun k=> [(0,.raw (.func (.yield l) #[] #[])),(1,.pt [.raw (.int .i64 first)] 0),(2,.pt (eChg c) 0),(4,.clo 159 [.pt [.raw (.int .i64 first)] 0]),(93,.slice (c.lines.map eS) .ro),(94,.raw (.int .i64 c.lines.length)),(95,.raw (.int .i64 k.1))]) (fun k=>k.2++LF) (0,L) ⟨by simp,hJ⟩ ⟨rfl,rfl,rfl,rfl,rfl,rfl,rfl⟩ (.refl _) ?_
  rintro⟨k,L1⟩ ⟨hk,hJ1⟩
  dsimp only at hk hJ1 ⊢
  refine wn ?_
  refine pwp_condD (fun hc=>?_) (fun hc=>?_)
  ·have hlt:k < c.lines.length:=by omega
   have hsk:=hc209 k (by omega)
   refine wn ?_
   refine pwp_drawN 8 ?_ ?_
   ·decide+kernel
   refine wf ?_
   have hx:rLineA c first k= { Atm.zero with id:=⟨Dig.zero,first+k⟩,kind:=5,file:=c.file,text:=c.lines[k] }:=by simp[rLineA,List.getD,hlt]
   have hr:(List.range (k+1)).map (rLineA c first)=(List.range k).map (rLineA c first)++ [rLineA c first k]:=by rw[List.range_succ,List.map_append];rfl
   refine s_yield L1 LF rfl rfl rfl (.refl _) _ (hY ((List.range k).map (rLineA c first)) { Atm.zero with id:=⟨Dig.zero,first+k⟩,kind:=5,file:=c.file,text:=c.lines[k] } L1 ?_ hJ1) fun b L' hR=>?_
   ·rw[←hx,←hr,e]
    exact((range_prefix (by omega)).map _).trans (List.prefix_append _ _)
   rw[←hx,←hr]at hR
   refine wf ?_
   rcases hR with ⟨rfl,h⟩|⟨rfl,h⟩
   ·refine pwp_condB (t:=false) (fun h'=>by cases h') (fun _=>?_)
    refine wf ?_
    exact⟨(k+1,L'),⟨by dsimp only;omega,h⟩,by dsimp only;omega,⟨rfl,rfl,rfl,rfl,rfl,rfl,rfl⟩,.refl _⟩
   ·refine pwp_condB (t:=true) (fun _=>?_) (fun h'=>by cases h')
    refine wf ?_
    exact⟨trivial,[],L',.nil,.refl _,.inr ⟨_,h⟩⟩
  have hkk:k=c.lines.length:=by omega
  subst hkk
  generalize hA:(List.range c.lines.length).map (rLineA c first)=A at e hJ1
  refine wfb fun b8=>?_
  refine pwp_loopS (σ:=Nat × Ident × List Res) (fun k=>k.1≤c.lines.length+1∧(k.1≤c.lines.length→k.2.1=(if 0 < (k.1:Int)then⟨Dig.zero,first+k.1 - 1⟩else c.after))∧J (A++(List.range k.1).map (rEdgeA c first)) k.2.2) (fun k=>c.lines.length+1 - k.1) (fun k=> [(0,.raw (.func (.yield l) #[] #[])),(1,.pt [.raw (.int .i64 first)] 0),(2,.pt (eChg c) 0),(4,.clo 159 [.pt [.raw (.int .i64 first)] 0]),(7,.raw (.int .i64 c.lines.length)),(8,.raw (.pointer (some ⟨b8,0,none⟩))),(117,.raw (.int .i64 (c.lines.length+1))),(118,.raw (.int .i64 k.1))]) (fun k=> .box b8 84 (eIdent k.2.1)::(k.2.2++LF)) (0,c.after,L1) ⟨by simp,fun _=>rfl,by simpa using hJ1⟩ ⟨rfl,rfl,rfl,rfl,rfl,rfl,rfl,rfl⟩ (.refl _) ?_
  rintro⟨k,fr,L1⟩ ⟨hk,hfr,hJ1⟩
  dsimp only at hk hfr hJ1 ⊢
  refine wf ?_
  refine pwp_condD (fun hc=>?_) (fun hc=>?_)
  ·have hfr:=hfr (by omega)
   have hsk:=hc209 k (by omega)
   have hsk2:Small (0≤first∧first≤1000000000∧(0:Int)≤c.lines.length+k∧(c.lines.length+k:Int)≤100000):=⟨by omega⟩
   refine wfb fun b10=>?_
   refine pwp_joinG (σ:=Ident) (fun s=>s=if(k:Int) < c.lines.length then⟨Dig.zero,first+k⟩else c.before) (fun s=> [(0,.raw (.func (.yield l) #[] #[])),(1,.pt [.raw (.int .i64 first)] 0),(2,.pt (eChg c) 0),(4,.clo 159 [.pt [.raw (.int .i64 first)] 0]),(7,.raw (.int .i64 c.lines.length)),(8,.raw (.pointer (some ⟨b8,0,none⟩))),(9,.raw (.int .i64 k)),(10,.raw (.pointer (some ⟨b10,0,none⟩))),(117,.raw (.int .i64 (c.lines.length+1))),(118,.raw (.int .i64 k))]) (fun s=> .box b10 84 (eIdent s):: .box b8 84 (eIdent fr)::(L1++LF)) ?_ ?_
   ·refine pwp_condD (fun h=>?_) (fun h=>?_)
    ·refine wf ?_
     exact⟨⟨Dig.zero,first+k⟩,by rw[if_pos h],⟨rfl,rfl,rfl,rfl,rfl,rfl,rfl,rfl,rfl,rfl⟩,.refl _⟩
    ·refine wf ?_
     exact⟨c.before,by rw[if_neg h],⟨rfl,rfl,rfl,rfl,rfl,rfl,rfl,rfl,rfl,rfl⟩,.refl _⟩
   rintro to hto
   refine wn ?_
   refine pwp_drawN 11 ?_ ?_
   ·decide+kernel
   refine wf ?_
   have hx:rEdgeA c first k= { Atm.zero with id:=⟨Dig.zero,first+(c.lines.length+k)⟩,kind:=6,file:=c.file,src:=fr,dst:=to }:=by rw[rEdgeA,hfr,hto,Int.add_assoc]
   have hr:A++(List.range (k+1)).map (rEdgeA c first)=(A++(List.range k).map (rEdgeA c first))++ [rEdgeA c first k]:=by rw[List.range_succ,List.map_append,List.append_assoc];rfl
   refine s_yield L1 (.box b10 84 (eIdent to):: .box b8 84 (eIdent fr)::LF) rfl rfl rfl perm_two _ (hY (A++(List.range k).map (rEdgeA c first)) { Atm.zero with id:=⟨Dig.zero,first+(c.lines.length+k)⟩,kind:=6,file:=c.file,src:=fr,dst:=to } L1 ?_ hJ1) fun b L' hR=>?_
   ·rw[←hx,←hr,e]
    exact(List.prefix_append_right_inj _).2 ((range_prefix (by omega)).map _)
   rw[←hx,←hr]at hR
   refine wf ?_
   rcases hR with ⟨rfl,h⟩|⟨rfl,h⟩
   ·refine pwp_condB (t:=false) (fun h'=>by cases h') (fun _=>?_)
    refine pwp_perm perm_two.symm ?_
    refine wf ?_
    refine⟨(k+1,to,L'),⟨by dsimp only;omega,?_,h⟩,by dsimp only;omega,⟨rfl,rfl,rfl,rfl,rfl,rfl,rfl,rfl⟩,.cons _ (.refl _)⟩
    intro h'
    dsimp only at h' ⊢
    rw[hto,if_pos (by omega),if_pos (by omega)]
    congr 1
    push_cast;omega
   ·refine pwp_condB (t:=true) (fun _=>?_) (fun h'=>by cases h')
    refine wf ?_
    exact⟨trivial,[],L',.nil,(List.Sublist.refl _).append (.cons _ (.cons _ (.refl _))),.inr ⟨_,h⟩⟩
  refine wf ?_
  have hkk:k=c.lines.length+1:=by omega
  subst hkk
  exact⟨trivial,[],L1,.nil,.cons _ (.refl _),.inl (by rw[e];exact hJ1)⟩
 ·exact absurd h5 (by omega)
instance made_ct (c:Chg) (first:Int):FnC Tryz.prog 115 [.agg (eChg c),.raw (.int .i64 first)] (.clo 158 (mCaps c first)):=⟨by
 refine fn_of Tryz.func115 Tryz.ntmps115 rfl (rs:= [.tmp 4]) rfl rfl fun hb LF=>?_
 refine wf ?_
 refine end1 (.of_eq ?_)
 rfl⟩
end Go.Proofs
namespace Go.Proofs
open Go.Shelf
def Tryz.laysItoa_ren:Go.Shelf.Ren:=⟨fun|171=>229|243=>246|246=>259|283=>265|284=>266|285=>267|286=>268|129=>126|317=>270|318=>271|319=>272|320=>273|337=>274|338=>275|n=>n,fun|3=>3|9=>9|2=>2|4=>4|171=>279|0=>0|53=>172|37=>132|5=>5|173=>281|212=>285|51=>170|20=>20|213=>286|46=>130|232=>24|233=>287|n=>n,fun|17=>1|18=>2|19=>3|n=>n⟩
theorem Tryz.laysItoa:Go.Proofs.LaysM.n171 Tryz.prog Tryz.laysItoa_ren:={
 mixed:=by kernel_rfl
 f129:=Tryz.func126.trans (congrArg some (by kernel_rfl))
 f171:=Tryz.func229.trans (congrArg some (by kernel_rfl))
 f243:=Tryz.func246.trans (congrArg some (by kernel_rfl))
 f246:=Tryz.func259.trans (congrArg some (by kernel_rfl))
 f283:=Tryz.func265.trans (congrArg some (by kernel_rfl))
 f284:=Tryz.func266.trans (congrArg some (by kernel_rfl))
 f285:=Tryz.func267.trans (congrArg some (by kernel_rfl))
 f286:=Tryz.func268.trans (congrArg some (by kernel_rfl))
 f317:=Tryz.func270.trans (congrArg some (by kernel_rfl))
 f318:=Tryz.func271.trans (congrArg some (by kernel_rfl))
 f319:=Tryz.func272.trans (congrArg some (by kernel_rfl))
 f320:=Tryz.func273.trans (congrArg some (by kernel_rfl))
 f337:=Tryz.func274.trans (congrArg some (by kernel_rfl))
 f338:=Tryz.func275.trans (congrArg some (by kernel_rfl))
 t0:=Tryz.underlying0
 a0:=Tryz.isAgg0
 z0:=Tryz.sizeOf0
 v0:=Tryz.zeroValue0
 t2:=Tryz.underlying2
 a2:=Tryz.isAgg2
 z2:=Tryz.sizeOf2
 v2:=Tryz.zeroValue2
 t3:=Tryz.underlying3
 a3:=Tryz.isAgg3
 z3:=Tryz.sizeOf3
 v3:=Tryz.zeroValue3
 t4:=Tryz.underlying4
 a4:=Tryz.isAgg4
 z4:=Tryz.sizeOf4
 v4:=Tryz.zeroValue4
 t5:=Tryz.underlying5
 a5:=Tryz.isAgg5
 z5:=Tryz.sizeOf5
 v5:=Tryz.zeroValue5
 t9:=Tryz.underlying9
 a9:=Tryz.isAgg9
 z9:=Tryz.sizeOf9
 v9:=Tryz.zeroValue9
 t20:=Tryz.underlying20
 a20:=Tryz.isAgg20
 z20:=Tryz.sizeOf20
 v20:=Tryz.zeroValue20
 t37:=Tryz.underlying132
 a37:=Tryz.isAgg132
 z37:=Tryz.sizeOf132
 v37:=Tryz.zeroValue132
 t46:=Tryz.underlying130
 a46:=Tryz.isAgg130
 z46:=Tryz.sizeOf130
 v46:=Tryz.zeroValue130
 t51:=Tryz.underlying170
 a51:=Tryz.isAgg170
 z51:=Tryz.sizeOf170
 v51:=Tryz.zeroValue170
 t53:=Tryz.underlying172
 a53:=Tryz.isAgg172
 z53:=Tryz.sizeOf172
 v53:=Tryz.zeroValue172
 t171:=Tryz.underlying279
 a171:=Tryz.isAgg279
 z171:=Tryz.sizeOf279
 v171:=Tryz.zeroValue279
 t173:=Tryz.underlying281
 a173:=Tryz.isAgg281
 z173:=Tryz.sizeOf281
 v173:=Tryz.zeroValue281
 t212:=Tryz.underlying285
 a212:=Tryz.isAgg285
 z212:=Tryz.sizeOf285
 v212:=Tryz.zeroValue285
 t213:=Tryz.underlying286
 a213:=Tryz.isAgg286
 z213:=Tryz.sizeOf286
 t232:=Tryz.underlying24
 a232:=Tryz.isAgg24
 z232:=Tryz.sizeOf24
 v232:=Tryz.zeroValue24
 t233:=Tryz.underlying287
 a233:=Tryz.isAgg287
 z233:=Tryz.sizeOf287
 v233:=Tryz.zeroValue287
 g17:=by kernel_rfl
 g18:=by kernel_rfl
 g19:=by kernel_rfl
 i0:=by kernel_rfl
 i2:=by kernel_rfl
 i3:=by kernel_rfl
 i4:=by kernel_rfl
 i5:=by kernel_rfl
 i9:=by kernel_rfl
 i20:=by kernel_rfl
 i37:=by kernel_rfl
 i46:=by kernel_rfl
 i51:=by kernel_rfl
 i53:=by kernel_rfl
 i171:=by kernel_rfl
 i173:=by kernel_rfl
 i212:=by kernel_rfl
 i232:=by kernel_rfl
 i233:=by kernel_rfl
 m17:=by kernel_rfl
 m18:=by kernel_rfl
 m19:=by kernel_rfl }
def Tryz.sortD_ren:Go.Shelf.Ren:=⟨fun|6=>51|15=>93|14=>92|28=>125|29=>126|20=>117|21=>118|22=>119|23=>120|24=>121|25=>122|26=>123|27=>124|46=>165|47=>166|48=>167|49=>168|50=>169|57=>211|n=>n,fun|22=>31|24=>25|25=>96|3=>3|39=>130|0=>0|53=>170|55=>172|4=>4|46=>164|45=>163|50=>62|5=>5|9=>9|66=>205|70=>209|76=>240|77=>241|n=>n,fun|n=>n⟩
theorem Tryz.sortD:Go.Proofs.SlLaysF0.n6 Tryz.prog Tryz.sortD_ren:={
 mixed:=by kernel_rfl
 f6:=⟨Tryz.f51.name,by decide,Tryz.func51.trans (congrArg some (by kernel_rfl))⟩
 f14:=⟨Tryz.f92.name,by decide,Tryz.func92.trans (congrArg some (by kernel_rfl))⟩
 f15:=Tryz.func93.trans (congrArg some (by kernel_rfl))
 f20:=⟨Tryz.f117.name,by decide,Tryz.func117.trans (congrArg some (by kernel_rfl))⟩
 f21:=⟨Tryz.f118.name,by decide,Tryz.func118.trans (congrArg some (by kernel_rfl))⟩
 f22:=⟨Tryz.f119.name,by decide,Tryz.func119.trans (congrArg some (by kernel_rfl))⟩
 f23:=⟨Tryz.f120.name,by decide,Tryz.func120.trans (congrArg some (by kernel_rfl))⟩
 f24:=⟨Tryz.f121.name,by decide,Tryz.func121.trans (congrArg some (by kernel_rfl))⟩
 f25:=⟨Tryz.f122.name,by decide,Tryz.func122.trans (congrArg some (by kernel_rfl))⟩
 f26:=⟨Tryz.f123.name,by decide,Tryz.func123.trans (congrArg some (by kernel_rfl))⟩
 f27:=⟨Tryz.f124.name,by decide,Tryz.func124.trans (congrArg some (by kernel_rfl))⟩
 f28:=Tryz.func125.trans (congrArg some (by kernel_rfl))
 f29:=Tryz.func126.trans (congrArg some (by kernel_rfl))
 f46:=⟨Tryz.f165.name,by decide,Tryz.func165.trans (congrArg some (by kernel_rfl))⟩
 f47:=Tryz.func166.trans (congrArg some (by kernel_rfl))
 f48:=Tryz.func167.trans (congrArg some (by kernel_rfl))
 f49:=⟨Tryz.f168.name,by decide,Tryz.func168.trans (congrArg some (by kernel_rfl))⟩
 f50:=⟨Tryz.f169.name,by decide,Tryz.func169.trans (congrArg some (by kernel_rfl))⟩
 f57:=⟨Tryz.f211.name,by decide,Tryz.func211.trans (congrArg some (by kernel_rfl))⟩
 t0:=Tryz.underlying0
 a0:=Tryz.isAgg0
 z0:=Tryz.sizeOf0
 v0:=Tryz.zeroValue0
 t3:=Tryz.underlying3
 a3:=Tryz.isAgg3
 z3:=Tryz.sizeOf3
 v3:=Tryz.zeroValue3
 t4:=Tryz.underlying4
 a4:=Tryz.isAgg4
 z4:=Tryz.sizeOf4
 v4:=Tryz.zeroValue4
 t5:=Tryz.underlying5
 a5:=Tryz.isAgg5
 z5:=Tryz.sizeOf5
 v5:=Tryz.zeroValue5
 t9:=Tryz.underlying9
 a9:=Tryz.isAgg9
 z9:=Tryz.sizeOf9
 v9:=Tryz.zeroValue9
 t22:=Tryz.underlying31
 a22:=Tryz.isAgg31
 z22:=Tryz.sizeOf31
 v22:=Tryz.zeroValue31
 t25:=Tryz.underlying96
 a25:=Tryz.isAgg96
 z25:=Tryz.sizeOf96
 v25:=Tryz.zeroValue96
 t39:=Tryz.underlying130
 a39:=Tryz.isAgg130
 z39:=Tryz.sizeOf130
 v39:=Tryz.zeroValue130
 t45:=Tryz.underlying163
 a45:=Tryz.isAgg163
 z45:=Tryz.sizeOf163
 v45:=Tryz.zeroValue163
 t46:=Tryz.underlying164
 a46:=Tryz.isAgg164
 z46:=Tryz.sizeOf164
 v46:=Tryz.zeroValue164
 t50:=Tryz.underlying62
 a50:=Tryz.isAgg62
 z50:=Tryz.sizeOf62
 v50:=Tryz.zeroValue62
 t53:=Tryz.underlying170
 a53:=Tryz.isAgg170
 z53:=Tryz.sizeOf170
 v53:=Tryz.zeroValue170
 t55:=Tryz.underlying172
 a55:=Tryz.isAgg172
 z55:=Tryz.sizeOf172
 v55:=Tryz.zeroValue172
 t66:=Tryz.underlying205
 a66:=Tryz.isAgg205
 z66:=Tryz.sizeOf205
 v66:=Tryz.zeroValue205
 t70:=Tryz.underlying209
 a70:=Tryz.isAgg209
 z70:=Tryz.sizeOf209
 v70:=Tryz.zeroValue209
 t76:=Tryz.underlying240
 a76:=Tryz.isAgg240
 z76:=Tryz.sizeOf240
 v76:=Tryz.zeroValue240
 t77:=Tryz.underlying241
 a77:=Tryz.isAgg241
 z77:=Tryz.sizeOf241
 v77:=Tryz.zeroValue241 }
end Go.Proofs
namespace Go.Proofs
open Go Go.Q Go.Shelf
attribute [local irreducible] pwp pops PCalls OpN
theorem decDigits_eq (n:Nat):Lib.decDigits n=rDec n:=by
 induction n using Nat.strongRecOn with
 |_ n ih=>
  unfold Lib.decDigits
  by_cases h:n < 10
  ·rw[dif_pos h,rDec_small h]
  ·rw[dif_neg h,rDec_big h,ih (n / 10) (by omega)]
theorem itoa_eq (n:Int):Lib.itoa n=rDecI n:=by
 unfold Lib.itoa rDecI
 by_cases h:n < 0
 ·rw[if_pos h,if_pos h,decDigits_eq,show n.natAbs=(-n).toNat by omega]
 ·rw[if_neg h,if_neg h,decDigits_eq]
theorem tab_is {w:World} {g:Gh} {L:List Res} (hi:Inv w g L):Lib.TabIs Tryz.prog w "internal/strconv.uint64pow10" .u64 Lib.pow10Tab:=by
 obtain⟨T,p,h⟩:=hi.satM _ _ hi.glob.tab
 unfold Lib.TabIs World.var?
 rw[show Tryz.prog.globalNamed "internal/strconv.uint64pow10" =some globAt by kernel_rfl]
 simp only[Option.bind_some,h]
 rfl
instance Itoa_ct (n:Int) [hs:Small (-140737488355328≤n∧n≤140737488355328)]:FnC Tryz.prog 229 [.raw (.int .i64 n)] (.str (rDecI n)):=⟨fn_ext fun vs w g LF hv hi=>by
 obtain⟨h0,h1⟩:=hs.out
 obtain⟨v,rfl⟩: ∃ v,vs= [v]:=by
  have:=hv.len
  match vs,this with
  | [v],_=>exact⟨v,rfl⟩
 rw[hv.uncons.1.raw_inv]
 refine(Any.strconv_Itoa Tryz.laysItoa n (by omega) (by omega) w (tab_is hi)).mono ?_
 rintro e w' ⟨rfl,k,os,rfl⟩
 refine⟨_,rfl,fun g=>by rw[itoa_eq];exact .str (by have:=rDecI_len (n:=n) ⟨h0,h1⟩;show _≤2 ^ 47;omega),rfl,rfl,rfl,Nat.le_add_right _ _,?_,fun j hj=>?_⟩
 ·show w.heap.size≤(w.heap++os).size
  simp
 ·show(w.heap++os)[j]? =_
  rw[Array.getElem?_append_left hj]⟩
def bldB (b:Nat) (p v:Value):Res:= .box b 237 [.raw p,.raw v]
def self (b:Nat):Value:= .pointer (some ⟨b,0,none⟩)
instance :TPt Tryz.prog 235 237 2:= .of (by kernel_rfl) (by kernel_rfl)
instance (v:Value):ExtC Tryz.prog 260 [.raw v] (.raw v):=extC_same Tryz.func260 (by kernel_rfl) (by kernel_rfl) (by kernel_rfl) (by kernel_rfl) v
theorem copyCheck_fn (b:Nat) (p v:Value) (hp:p= .pointer none∨p=self b):PCalls Tryz.prog 247 [.raw (self b)] [bldB b p v] (fun _ L'=>L'= [bldB b (self b) v]):=by
 refine pcalls_bd Tryz.func247 rfl Tryz.ntmps247 (rs:= []) rfl rfl fun hb LF=>?_
 rw[show [bldB b p v]++LF= .box b 237 [.raw p,.raw v]::LF from rfl]
 obtain⟨q,rfl,hq⟩: ∃ q,p= .pointer q∧(q=none∨q=some ⟨b,0,none⟩):=by
  rcases hp with rfl|rfl
  ·exact⟨none,rfl,.inl rfl⟩
  ·exact⟨_,rfl,.inr rfl⟩
 refine wf ?_
 refine s_eqPN rfl rfl ?_
 refine wf ?_
 rcases hq with rfl|rfl
 ·refine pwp_condB (t:=true) (fun _=>?_) (fun h=>by cases h)
  refine wf ?_
  refine s_toUnsafe (by kernel_rfl) (by decide) rfl List.mem_cons_self (by simp) ?_
  refine s_ext (xs:= [.tmp 9]) (args:= [.raw (self b)]) rfl (fun i h1 h2=>by
   match i,h1,h2 with
   |0,_,_=>exact .refl _
   |m+1,h1,_=>exact absurd h1 (by simp)) rfl ?_
  refine s_fromUnsafe (by kernel_rfl) rfl List.mem_cons_self (by kernel_rfl) ?_
  refine wf ?_
  refine s_storeV [.raw (self b),.raw v] rfl rfl rfl rfl (by simp) ?_
  refine wf ?_
  exact⟨trivial,[],[bldB b (self b) v],.nil,.refl _,rfl⟩
 ·refine pwp_condB (t:=false) (fun h=>by cases h) (fun _=>?_)
  refine wf ?_
  refine s_nePP rfl rfl ?_
  refine wf ?_
  exact⟨trivial,[],[bldB b (self b) v],.nil,.refl _,rfl⟩
instance :TRow Tryz.prog 132 5:= .of (by kernel_rfl) (by kernel_rfl) (by kernel_rfl)
def Bld (b:Nat) (l:List UInt8) (L:List Res):Prop:= ∃ p v R,(p= .pointer none∨p=self b)∧RowOf 5 v l R∧L=bldB b p v::R
theorem writeString_fn (b:Nat) (l s:List UInt8) (L:List Res) (hL:Bld b l L) (hl:l.length+s.length≤140737488355328):PCalls Tryz.prog 232 [.raw (self b),.str s] L (fun _ L'=>Bld b (l++s) L'):=by
 obtain⟨p,v,R,hp,hv,rfl⟩:=hL
 refine pcalls_bd Tryz.func232 rfl Tryz.ntmps232 (rs:= [.tmp 4,.tmp 5]) rfl rfl fun hb LF=>?_
 rw[show(bldB b p v::R)++LF= [bldB b p v]++(R++LF) from rfl]
 refine ws ?_
 refine s_callR (xs:= [.tmp 6]) [bldB b p v] (R++LF) (f:=247) (cs:= []) (le_func _) rfl rfl (.refl _) _ (copyCheck_fn b p v hp) fun r L' e=>?_
 subst e
 refine wf ?_
 refine s_appStr (R:=R) (LF:= .box b 237 [.raw (self b),.raw v]::LF) (fun R'=> .box b 237 [.raw (self b),.raw v]::(R'++LF)) (ay:= .str s) rfl rfl hv (List.perm_middle (l₁:=R)).symm (fun R'=>List.perm_middle) hl fun v' R' hv'=>?_
 refine wf ?_
 refine s_storeV [.raw (self b),.raw v'] rfl rfl hv'.one rfl (by simp) ?_
 refine wf ?_
 refine wf ?_
 exact⟨trivial,_,bldB b (self b) v'::R',.cons (.tmp 4) (.cons (.tmp 5) .nil),.refl _,_,v',R',.inr rfl,hv',rfl⟩
theorem writeByte_fn (b:Nat) (l:List UInt8) (c:UInt8) (L:List Res) (hL:Bld b l L) (hl:l.length+1≤140737488355328):PCalls Tryz.prog 233 [.raw (self b),.raw (.int .u8 c.toNat)] L (fun _ L'=>Bld b (l++ [c]) L'):=by
 obtain⟨p,v,R,hp,hv,rfl⟩:=hL
 refine pcalls_bd Tryz.func233 rfl Tryz.ntmps233 (rs:= [.tmp 4]) rfl rfl fun hb LF=>?_
 rw[show(bldB b p v::R)++LF= [bldB b p v]++(R++LF) from rfl]
 refine ws ?_
 refine s_callR (xs:= [.tmp 5]) [bldB b p v] (R++LF) (f:=247) (cs:= []) (le_func _) rfl rfl (.refl _) _ (copyCheck_fn b p v hp) fun r L' e=>?_
 subst e
 refine wf ?_
 refine s_appByte (R:=R) (LF:= .box b 237 [.raw (self b),.raw v]::LF) (fun R'=> .box b 237 [.raw (self b),.raw v]::(R'++LF)) (t:= .ro) rfl rfl hv (List.perm_middle (l₁:=R)).symm (fun R'=>List.perm_middle) hl fun v' R' hv'=>?_
 refine wf ?_
 refine s_storeV [.raw (self b),.raw v'] rfl rfl hv'.one rfl (by simp) ?_
 refine wf ?_
 refine wf ?_
 exact⟨trivial,_,bldB b (self b) v'::R',.cons (.tmp 4) .nil,.refl _,_,v',R',.inr rfl,hv',rfl⟩
theorem string_fn (b:Nat) (l:List UInt8) (L:List Res) (hL:Bld b l L) (h0:l≠ []) (hl:l.length≤140737488355328):PCalls Tryz.prog 210 [.raw (self b)] L (fun r L'=>r= .str l∧L'= []):=by
 obtain⟨p,v,R,hp,hv,rfl⟩:=hL
 cases hv with
 |nil=>exact absurd rfl h0
 |row h1 h2 h3=>
  rename_i r cap cur
  refine pcalls_bd Tryz.func210 rfl Tryz.ntmps210 (rs:= [.tmp 2]) rfl rfl fun hb LF=>?_
  have hcap:cap≠0:=by have:=List.length_pos_iff.2 h0;omega
  rw[show(bldB b p (.slice (some ⟨r,0,none⟩) l.length cap):: [.raw r (.cells cur 5 (0,0))])++LF= .box b 237 [.raw p,.raw (.slice (some ⟨r,0,none⟩) l.length cap)]:: .raw r (.cells cur 5 (0,0))::LF from rfl]
  refine wn ?_
  refine pwp_drawN 10 ?_ ?_
  ·decide+kernel
  refine wf ?_
  refine s_sliceData rfl hcap ?_
  refine wf ?_
  refine s_lenR rfl ?_
  refine wf ?_
  refine s_unsafeString (E:=5) (by kernel_rfl) (by kernel_rfl) rfl rfl (.swap _ _ _) h0 (by omega) h3 hl ?_
  refine wf ?_
  exact⟨trivial,_,[],.cons (.tmp 2) .nil,.cons _ (.refl _),rfl,rfl⟩
end Go.Proofs
namespace Go.Proofs
open Go Go.Q
attribute [local irreducible] pwp pops PCalls OpN
set_option maxHeartbeats 1000000 in
theorem encP_fn: ∀ (d:Nat) (x:Sx),wfX d x→ ∀ (b:Nat) (l:List UInt8) (L:List Res),Bld b l L→l.length+(encX d x).length≤1000000000→PCalls Tryz.prog 209 [.raw (self b),.agg (eSx x)] L (fun _ L'=>Bld b (l++encX d x) L')
 |0,x,hw,_,_,_,_,_=>hw.elim
 |d+1,x,hw,b,l,L,hL,hl=>by
  have ih:=encP_fn d
  refine pcalls_bd Tryz.func209 rfl Tryz.ntmps209 (rs:= []) rfl rfl fun hb LF=>?_
  have hlen:x.list.length≤140737488355328:=by
   have:=(hb (.agg (eSx x)) (by simp)).agg_at (c:= .slice (x.list.map eSx) .ro) (by rw[eSx_eq];simp)
   exact this.slice_map
  refine wf ?_
  refine pwp_condB (fun h2=>?_) (fun h2=>?_)
  ·have hB:x.isList=false:=by simpa using h2
   rcases hw with ⟨_,h3,h4⟩|⟨h3,_⟩
   ·have:Small (-140737488355328≤(x.atom.length:Int)∧(x.atom.length:Int)≤140737488355328):=⟨by omega,by omega⟩
    have e:rDecI (x.atom.length:Int)=rDec x.atom.length:=by
     rw[rDecI,if_neg (by omega)];rfl
    have he:encX (d+1) x=rDec x.atom.length++58::x.atom:=by simp[encX,hB]
    rw[he]at hl ⊢
    simp only[List.length_append,List.length_cons]at hl
    refine wf ?_
    refine s_callR (xs:= [.tmp 9,.tmp 13]) L LF (f:=232) (cs:= []) (le_func _) rfl rfl (.refl _) _ (writeString_fn b l (rDecI (x.atom.length:Int)) L hL (by rw[e];omega)) fun r L1 hL1=>?_
    rw[e]at hL1
    refine wf ?_
    refine wf ?_
    refine s_callR (xs:= [.tmp 15,.const (.int .u8 58)]) L1 LF (f:=233) (cs:= []) (le_func _) rfl rfl (.refl _) _ (writeByte_fn b (l++rDec x.atom.length) 58 L1 hL1 (by simp only[List.length_append];omega)) fun r L2 hL2=>?_
    refine wf ?_
    refine wf ?_
    refine s_callR (xs:= [.tmp 17,.tmp 19]) L2 LF (f:=232) (cs:= []) (le_func _) rfl rfl (.refl _) _ (writeString_fn b (l++rDec x.atom.length++ [58]) x.atom L2 hL2 (by simp only[List.length_append,List.length_cons,List.length_nil];omega)) fun r L3 hL3=>?_
    refine wf ?_
    refine wf ?_
    exact⟨trivial,_,L3,.nil,.refl _,by simpa using hL3⟩
   ·rw[hB]at h3;cases h3
  have hB:x.isList=true:=by simpa using h2
  rcases hw with ⟨h3,_⟩|⟨_,ha,hw⟩
  ·rw[hB]at h3;cases h3
  have he:encX (d+1) x=40::(x.list.flatMap (encX d)++ [41]):=by simp[encX,hB]
  rw[he]at hl ⊢
  simp only[List.length_cons,List.length_append,List.length_nil]at hl
  refine wf ?_
  refine s_callR (xs:= [.tmp 21,.const (.int .u8 40)]) L LF (f:=233) (cs:= []) (le_func _) rfl rfl (.refl _) _ (writeByte_fn b l 40 L hL (by omega)) fun r L1 hL1=>?_
  refine wf ?_
  refine wf ?_
  refine pwp_loopS (σ:=Nat × List Res) (fun k=>k.1≤x.list.length∧Bld b (l++40::(x.list.take k.1).flatMap (encX d)) k.2) (fun k=>x.list.length - k.1) (fun k=> [(0,.raw (self b)),(24,.slice (x.list.map eSx) .ro),(25,.raw (.int .i64 x.list.length)),(26,.raw (.int .i64 k.1))]) (fun k=>k.2++LF) (0,L1) ⟨by simp,by simpa using hL1⟩ ⟨rfl,rfl,rfl,rfl⟩ (.refl _) ?_
  rintro⟨k,L2⟩ ⟨hk,hL2⟩
  dsimp only at hk hL2 ⊢
  have hsl:=flatMap_take_len (l:=x.list) (f:=encX d) (k:=k)
  refine wf ?_
  refine pwp_condD (fun hc=>?_) (fun hc=>?_)
  ·have hlt:k < x.list.length:=by omega
   have hel:=flatMap_take_len (l:=x.list) (f:=encX d) (k:=k+1)
   rw[flatMap_take_succ hlt,List.length_append]at hel
   refine wz fun b5=>?_
   refine pwp_freezeD 5 ?_
   refine wf ?_
   refine s_callR (xs:= [.tmp 30,.tmp 31]) L2 LF (f:=209) (cs:= []) (le_func _) rfl rfl (.refl _) _ (ih x.list[k] (hw _ (List.getElem_mem hlt)) b _ L2 hL2 (by simp only[List.length_append,List.length_cons];omega)) fun r L3 hL3=>?_
   refine wf ?_
   refine wf ?_
   refine⟨(k+1,L3),⟨by dsimp only;omega,?_⟩,by dsimp only;omega,⟨rfl,rfl,rfl,rfl⟩,.refl _⟩
   dsimp only
   rw[flatMap_take_succ hlt]
   simpa using hL3
  ·rw[List.take_of_length_le (by omega)]at hL2
   refine wf ?_
   refine s_callR (xs:= [.tmp 34,.const (.int .u8 41)]) L2 LF (f:=233) (cs:= []) (le_func _) rfl rfl (.refl _) _ (writeByte_fn b _ 41 L2 hL2 (by simp only[List.length_append,List.length_cons];omega)) fun r L3 hL3=>?_
   refine wf ?_
   refine wf ?_
   exact⟨trivial,_,L3,.nil,.refl _,by simpa using hL3⟩
def meas (b:Nat) (n:Int):Res:= .box b 252 [.raw (.int .i64 n),.raw (.bool false)]
set_option maxHeartbeats 1000000 in
theorem addP_fn: ∀ (d:Nat) (x:Sx),wfX d x→ ∀ (b:Nat) (n lv:Int),0≤n→n+ndX d x≤20000→1≤lv→lv+d≤13→PCalls Tryz.prog 230 [.raw (self b),.agg (eSx x),.raw (.int .i64 lv)] [meas b n] (fun _ L'=>L'= [meas b (n+ndX d x)])
 |0,x,hw,_,_,_,_,_,_,_=>hw.elim
 |d+1,x,hw,b,n,lv,hn0,hn,hl0,hl=>by
  have ih:=addP_fn d
  have hpos:1≤ndX (d+1) x:=by unfold ndX;split<;>omega
  refine pcalls_bd Tryz.func230 rfl Tryz.ntmps230 (rs:= []) rfl rfl fun hb LF=>?_
  have hlen:x.list.length≤140737488355328:=by
   have:=(hb (.agg (eSx x)) (by simp)).agg_at (c:= .slice (x.list.map eSx) .ro) (by rw[eSx_eq];simp)
   exact this.slice_map
  rw[show [meas b n]++LF= .box b 252 [.raw (.int .i64 n),.raw (.bool false)]::LF from rfl]
  refine wf ?_
  refine s_storeV [.raw (.int .i64 (n+1)),.raw (.bool false)] rfl rfl rfl rfl (by simp) ?_
  refine wf ?_
  refine wf ?_
  refine pops_if (fun hp=>?_) (fun hp=>?_)
  ·have:=of_decide_eq_true hp;omega
  refine wf ?_
  refine pwp_condD (fun h1=>?_) (fun h1=>?_)
  ·omega
  refine wf ?_
  refine pwp_condB (fun h2=>?_) (fun h2=>?_)
  ·refine wf ?_
   have:x.isList=false:=by simpa using h2
   exact⟨trivial,_,[meas b (n+1)],.nil,.refl _,by simp[ndX,this]⟩
  have hB:x.isList=true:=by simpa using h2
  rcases hw with ⟨h3,_⟩|⟨_,_,hw⟩
  ·rw[hB]at h3;cases h3
  have hnd:ndX (d+1) x=1+(x.list.map (ndX d)).sum:=by simp[ndX,hB]
  rw[hnd]at hn ⊢
  refine wf ?_
  refine pwp_loopS (σ:=Nat) (fun k=>k≤x.list.length) (fun k=>x.list.length - k) (fun k=> [(0,.raw (self b)),(2,.raw (.int .i64 lv)),(31,.slice (x.list.map eSx) .ro),(32,.raw (.int .i64 x.list.length)),(33,.raw (.int .i64 k))]) (fun k=>meas b (n+(1+((x.list.map (ndX d)).take k).sum:Nat))::LF) 0 (by simp) ⟨rfl,rfl,rfl,rfl,rfl⟩ (by simp;exact .refl _) ?_
  intro k hk
  have hsk:=sum_take_le (l:=x.list.map (ndX d)) (k:=k)
  have hsk1:=sum_take_le (l:=x.list.map (ndX d)) (k:=k+1)
  refine wf ?_
  refine pwp_condD (fun hc=>?_) (fun hc=>?_)
  ·have hlt:k < x.list.length:=by omega
   have e:((x.list.map (ndX d)).take (k+1)).sum=((x.list.map (ndX d)).take k).sum+ndX d x.list[k]:=by
    rw[List.take_succ_eq_append_getElem (by simpa using hlt),List.sum_append];simp
   refine wz fun b7=>?_
   refine pwp_freezeD 7 ?_
   rw[show meas b (n+(1+((x.list.map (ndX d)).take k).sum:Nat))::LF= .box b 252 [.raw (.int .i64 (n+(1+((x.list.map (ndX d)).take k).sum:Nat))),.raw (.bool false)]::LF from rfl]
   refine wf ?_
   refine s_callR (xs:= [.tmp 41,.tmp 42,.tmp 44]) [meas b (n+(1+((x.list.map (ndX d)).take k).sum:Nat))] LF (f:=230) (cs:= []) (le_func _) rfl rfl (.refl _) _ (ih x.list[k] (hw _ (List.getElem_mem hlt)) b _ (lv+1) (by omega) (by omega) (by omega) (by omega)) fun r L3 hL3=>?_
   subst hL3
   refine wf ?_
   refine wf ?_
   refine⟨k+1,by omega,by dsimp only;omega,⟨rfl,rfl,rfl,rfl,rfl⟩,?_⟩
   show(meas b (n+((1+((x.list.map (ndX d)).take (k+1)).sum:Nat):Int))::LF).Sublist _
   rw[e,show n+((1+(((x.list.map (ndX d)).take k).sum+ndX d x.list[k]):Nat):Int)=n+((1+((x.list.map (ndX d)).take k).sum:Nat):Int)+(ndX d x.list[k]:Int) by omega]
   exact .refl _
  ·refine wf ?_
   rw[List.take_of_length_le (by simp;omega)]
   exact⟨trivial,_,[meas b (n+(1+(x.list.map (ndX d)).sum:Nat))],.nil,.refl _,rfl⟩
set_option maxHeartbeats 1000000 in
theorem shapeP_fn: ∀ (d:Nat) (x:Sx),wfX d x→Q.Fn Tryz.prog 231 [.agg (eSx x)] (.raw (.int .i64 0))
 |0,x,hw=>hw.elim
 |d+1,x,hw=>by
  have ih: ∀ (y:Sx),[Small (wfX d y)]→FnC Tryz.prog 231 [.agg (eSx y)] (.raw (.int .i64 0)):=fun y h=>⟨shapeP_fn d y h.out⟩
  refine fn_of Tryz.func231 Tryz.ntmps231 rfl (rs:= [.tmp 2]) rfl rfl fun hb LF=>?_
  have hlen:x.list.length≤140737488355328:=by
   have:=(hb (.agg (eSx x)) (by simp)).agg_at (c:= .slice (x.list.map eSx) .ro) (by rw[eSx_eq];simp)
   exact this.slice_map
  have hsh:(x.isList=true→x.atom= [])∧(x.isList=false→x.list= [])∧x.atom.length≤65536∧ ∀ y∈x.list,wfX d y:=by
   rcases hw with ⟨h1,h2,h3⟩|⟨h1,h2,h3⟩
   ·exact⟨fun h=>(by rw[h1]at h;cases h),fun _=>h2,h3,fun y hy=>(by rw[h2]at hy;cases hy)⟩
   ·exact⟨fun _=>h2,fun h=>(by rw[h1]at h;cases h),by rw[h2];simp,h3⟩
  refine wf ?_
  refine pops_cutE [(6,.raw (.bool (false))),(1,.pt (eSx x) 0)] (LF) ?_ ?_
  ·repeat' (first|(refine pwp_condD (fun h=>?_) (fun h=>?_)<;>refine wf ?_)|(refine pwp_condN (fun h=>?_) (fun h=>?_)<;>refine wf ?_)|(refine pwp_condB (fun h=>?_) (fun h=>?_)<;>refine wf ?_)|(refine pops_if (fun h=>?_) (fun h=>?_)<;>(have h2:=h;(try simp only[decide_eq_true_eq,decide_eq_false_iff_not,Bool.not_eq_true',Bool.not_eq_false']at h2);refine wf ?_)))
   all_goals (refine⟨⟨holdsB (by rfl) ?_,rfl⟩,.refl _⟩;(have:=hsh.1;have:=hsh.2.1;cases hB:x.isList<;>simp_all))
  refine wf ?_
  refine pwp_condD (fun h5=>?_) (fun h5=>?_)
  ·have:=hsh.2.2.1;omega
  refine wf ?_
  refine pwp_loopS (σ:=Nat) (fun k=>k≤x.list.length) (fun k=>x.list.length - k) (fun k=> [(31,.slice (x.list.map eSx) .ro),(32,.raw (.int .i64 x.list.length)),(33,.raw (.int .i64 k))]) (fun _=>LF) 0 (by simp) ⟨rfl,rfl,rfl⟩ (.refl _) ?_
  intro k hk
  refine wf ?_
  refine pwp_condD (fun hc=>?_) (fun hc=>?_)
  ·have hlt:k < x.list.length:=by omega
   have:Small (wfX d x.list[k]):=⟨hsh.2.2.2 _ (List.getElem_mem hlt)⟩
   refine wz fun b4=>?_
   refine pwp_freezeD 4 ?_
   refine wf ?_
   exact⟨k+1,by omega,by dsimp only;omega,⟨rfl,rfl,rfl⟩,.refl _⟩
  ·refine wf ?_
   exact end1 (.refl _)
instance :ZeroE Tryz.prog 252 [.raw (.int .i64 0),.raw (.bool false)]:=ZeroE.of (us:= [PV.raw (.int .i64 0),.raw (.bool false)].map zv) (by kernel_rfl) (by kernel_rfl)
instance CheckXP_ct (x:Sx) [hs:Small (okX x)]:FnC Tryz.prog 208 [.agg (eSx x)] (.raw (.int .i64 0)):=⟨by
 obtain⟨h1,h2⟩:=hs.out
 have i2:FnC Tryz.prog 231 [.agg (eSx x)] (.raw (.int .i64 0)):=⟨shapeP_fn 8 x h1⟩
 refine fn_of Tryz.func208 Tryz.ntmps208 rfl (rs:= [.tmp 2]) rfl rfl fun hb LF=>?_
 refine wkb fun b1=>?_
 refine wkb fun b5=>?_
 refine s_callR (xs:= [.tmp 6,.tmp 7,.const (.int .i64 1)]) [meas b5 0] (.box b1 197 (eSx x)::LF) (f:=230) (cs:= []) (le_func _) rfl rfl (.refl _) _ (addP_fn 8 x h1 b5 0 1 (by omega) (by omega) (by omega) (by omega)) fun r L3 hL3=>?_
 subst hL3
 rw[show [meas b5 (0+ndX 8 x)]++(.box b1 197 (eSx x)::LF)= .box b5 252 [.raw (.int .i64 (0+ndX 8 x)),.raw (.bool false)]:: .box b1 197 (eSx x)::LF from rfl]
 refine wk ?_
 refine wk ?_
 exact end1 (.refl _)⟩
instance :ZeroE Tryz.prog 237 [.raw (.pointer none),.raw (.slice none 0 0)]:=ZeroE.of (us:= [PV.raw (.pointer none),.raw (.slice none 0 0)].map zv) (by kernel_rfl) (by kernel_rfl)
theorem encX_ne {d:Nat} {x:Sx} (h:wfX d x):encX d x≠ []:=by
 cases d with
 |zero=>exact h.elim
 |succ d=>unfold encX;split<;>simp
instance EncodeXP_ct (x:Sx) [hs:Small (okX x∧(encX 8 x).length≤1000000000)]:FnC Tryz.prog 164 [.agg (eSx x)] (.tuple [.str (encX 8 x),.raw (.int .i64 0)]):=⟨by
 obtain⟨h1,h2⟩:=hs.out
 have:Small (okX x):=⟨h1⟩
 refine fn_of Tryz.func164 Tryz.ntmps164 rfl (rs:= [.tmp 2,.tmp 3]) rfl rfl fun hb LF=>?_
 refine wfb fun b=>?_
 rw[show Res.box b 237 [.raw (.pointer none),.raw (.slice none 0 0)]::LF= [bldB b (.pointer none) (.slice none 0 0)]++LF from rfl]
 refine s_callR (xs:= [.tmp 5,.tmp 11]) [bldB b (.pointer none) (.slice none 0 0)] LF (f:=209) (cs:= []) (le_func _) rfl rfl (.refl _) _ (encP_fn 8 x h1.1 b [] _ ⟨.pointer none,.slice none 0 0,[],.inl rfl,.nil,rfl⟩ (by simpa using h2)) fun r L1 hL1=>?_
 rw[List.nil_append]at hL1
 refine wf ?_
 refine wf ?_
 refine s_callR (xs:= [.tmp 5]) L1 LF (f:=210) (cs:= []) (le_func _) rfl rfl (.refl _) _ (string_fn b (encX 8 x) L1 hL1 (encX_ne h1.1) (by omega)) fun r L2 ⟨hr,hL2⟩=>?_
 subst hr
 subst hL2
 refine wf ?_
 refine wf ?_
 refine end2 ?_
 exact .refl _⟩
end Go.Proofs
namespace Go.Proofs
open Go Go.Q
attribute [local irreducible] pwp pops PCalls OpN
instance IntP_ct (n:Int):FnC Tryz.prog 207 [.raw (.int .i64 n)] (.tuple [.agg (eSx (rInt n).1),.raw (.int .i64 (rInt n).2)]):=⟨by
 refine fn_of Tryz.func207 Tryz.ntmps207 rfl (rs:= [.cell 2 197,.tmp 3]) rfl rfl fun hb LF=>?_
 refine wfb fun b=>?_
 refine pops_cutE [(9,.raw (.bool (decide (n < -1099511627776∨1099511627776 < n)))),(0,.raw (.int .i64 n)),(2,.raw (.pointer (some ⟨b,0,none⟩)))] (.box b 197 (eSx Sx.zero)::LF) ?_ ?_
 ·repeat' (first|(refine pwp_condD (fun h=>?_) (fun h=>?_)<;>refine wf ?_)|(refine pwp_condN (fun h=>?_) (fun h=>?_)<;>refine wf ?_)|(refine pwp_condB (fun h=>?_) (fun h=>?_)<;>refine wf ?_)|(refine pops_if (fun h=>?_) (fun h=>?_)<;>(have h2:=h;(try simp only[decide_eq_true_eq,decide_eq_false_iff_not,Bool.not_eq_true',Bool.not_eq_false']at h2);refine wf ?_)))
  all_goals (refine⟨⟨holdsB (by rfl) ?_,rfl,rfl⟩,.refl _⟩;first|(simp_all;done)|grind)
 refine wf ?_
 refine pwp_condD (fun h=>?_) (fun h=>?_)
 ·refine wf ?_
  refine endC1 rfl (.of_eq ?_)
  rw[rInt,if_pos h]
 ·have:Small (-140737488355328≤n∧n≤140737488355328):=⟨by omega⟩
  refine wf ?_
  refine endC1 rfl (.of_eq ?_)
  rw[rInt,if_neg h];rfl⟩
instance atomP_ct (s:Str):FnC Tryz.prog 161 [.str s] (.agg (eSx (sAtom s))):=⟨by
 refine fn_of Tryz.func161 Tryz.ntmps161 rfl (rs:= [.cell 2 197]) rfl rfl fun hb LF=>?_
 refine wfb fun b=>?_
 refine endC rfl (.of_eq ?_)
 rfl⟩
@[reducible] def lsC (l:List Sx) (t:Tag):List PV:= [.raw (.bool true),.str [],.slice (l.map eSx) t]
theorem lsC_ro (l:List Sx):lsC l .ro=eSx (sList l):=by rw[eSx_eq];rfl
theorem lsC_le (l:List Sx) (t:Tag):Le (.agg (lsC l t)) (.agg (eSx (sList l))):=fun g v hv=>by
 obtain⟨vs,rfl,h⟩:=hv.agg_inv
 match vs,h with
 | [a,b,c],h=>
   rw[←lsC_ro]
   exact VRl.agg (.cons h.uncons.1 (.cons h.uncons.2.uncons.1 (.cons h.uncons.2.uncons.2.uncons.1.ro (.nil g))))
 | [],h=>have:=h.len;simp at this
 | [_],h=>have:=h.len;simp at this
 | [_,_],h=>have:=h.len;simp at this
 |_::_::_::_::_,h=>have:=h.len;simp at this
instance (l:List Sx) (t:Tag):EncC (.agg (lsC l t)) eSx (sList l):=⟨fun g v hv=>Cells.agg _ g v (lsC_le l t g v hv)⟩
instance {x y z:PV}:At [x,y,z] 2 z:=⟨rfl⟩
instance (c:Sx) (l:List Sx) (t:Tag):Put (eSx c) 0 (lsC l t) (lsC l t):=⟨by rw[eSx_eq];simp⟩
instance (l:List Sx) (t:Tag):LenIs (lsC l t) 3:=⟨rfl⟩
instance (l:List Sx) (t:Tag):Flat (lsC l t):=by unfold lsC;infer_instance
theorem list_any (l:List Sx) (t:Tag):Q.Fn Tryz.prog 160 [.slice (l.map eSx) t] (.agg (lsC l t)):=by
 refine fn_of Tryz.func160 Tryz.ntmps160 rfl (rs:= [.cell 2 197]) rfl rfl fun hb LF=>?_
 refine pwp_seq ?_
 refine pwp_region (by kernel_rfl) ?_
 refine s_alloc fun b=>?_
 refine pops_nil ?_
 refine pwp_seq ?_
 refine pwp_region (by kernel_rfl) ?_
 refine s_moveN (by(conv=>lhs;whnf);done) ?_
 refine s_build2 (z:=eSx Sx.zero) (c0:= [.raw (.bool true)]) (c1:= [.slice (l.map eSx) t]) (r1:=lsC l t) (hP0:=⟨rfl,by simp⟩) (hP1:=⟨rfl,by simp⟩) ?_ ?_ rfl rfl ?_
 ·exact Cells.one (c:= .raw (.bool true)) Flat.out
 ·exact Cells.one (c:= .slice (l.map eSx) t) Flat.out
 refine wf ?_
 exact endC rfl (.refl _)
instance listR_ct (l:List Sx):FnC Tryz.prog 160 [.slice (l.map eSx) .ro] (.agg (eSx (sList l))):=⟨lsC_ro l ▸ list_any l .ro⟩
instance (priority:=low) listT_ct (l:List Sx) (t:Tag):FnC Tryz.prog 160 [.slice (l.map eSx) t] (.agg (lsC l t)):=⟨list_any l t⟩
instance listN_ct:FnC Tryz.prog 160 [.slice [] .nil] (.agg (lsC [] .nil)):=⟨list_any [] .nil⟩
instance numberP_ct (n:Int):FnC Tryz.prog 163 [.raw (.int .i64 n)] (.agg (eSx (sNum n))):=⟨by
 refine fn_of Tryz.func163 Tryz.ntmps163 rfl (rs:= [.cell 2 197]) rfl rfl fun hb LF=>?_
 refine wfb fun b=>?_
 refine wfb fun b2=>?_
 refine endC rfl (.of_eq ?_)
 rfl⟩
instance encodeIdP_ct (x:Ident):FnC Tryz.prog 199 [.agg (eIdent x)] (.agg (eSx (sRef x))):=⟨by
 refine fn_of Tryz.func199 Tryz.ntmps199 rfl (rs:= [.cell 2 197]) rfl rfl fun hb LF=>?_
 refine wf ?_
 refine s_alloc fun b=>?_
 refine wn ?_
 refine pwp_condD (fun h=>?_) (fun h=>?_)
 ·refine wn ?_
  refine pwp_drawN 6 ?_ ?_
  ·decide+kernel
  refine wf ?_
  refine endC rfl (.of_eq ?_)
  rw[sRef,sDig,if_pos h]
 ·refine wn ?_
  refine pwp_drawN 9 ?_ ?_
  ·decide+kernel
  refine wf ?_
  refine endC rfl (.of_eq ?_)
  rw[sRef,sDig,if_neg h]⟩
set_option maxHeartbeats 1000000 in
instance overP_ct (l:List Ident) (t:Tag) [hs:Small (l.length≤1000000)]:FnC Tryz.prog 200 [.slice (l.map eIdent) t] (.agg (eSx (sOver l))):=⟨by
 refine fn_of Tryz.func200 Tryz.ntmps200 rfl (rs:= [.cell 2 197]) rfl rfl fun hb LF=>?_
 have hlen:=hs.out
 refine wfb fun b=>?_
 refine wfb fun b3=>?_
 refine pwp_tok 3 ?_
 refine pwp_loopS (σ:=Nat × Tag × List Sx) (fun k=>k.1≤l.length∧k.2.2=(l.take k.1).map sRef) (fun k=>l.length - k.1) (fun k=> [(2,.raw (.pointer (some ⟨b,0,none⟩))),(3,.raw (.pointer (some ⟨b3,0,none⟩))),(7,.slice (l.map eIdent) t),(8,.raw (.int .i64 l.length)),(9,.raw (.int .i64 k.1))]) (fun k=> .tok k.2.1 k.2.2.length 3:: .box b3 197 (lsC k.2.2 k.2.1):: .box b 197 (eSx Sx.zero)::LF) (0,.nil,[]) ⟨by simp,by simp⟩ ⟨rfl,rfl,rfl,rfl,rfl⟩ (.refl _) ?_
 rintro⟨k,v,out⟩ ⟨hk,he⟩
 dsimp only at hk he
 have hol:out.length=k:=by rw[he];simp;omega
 refine wf ?_
 refine pwp_condD (fun hc=>?_) (fun hc=>?_)
 ·have hlt:k < l.length:=by omega
  have ee:(l.take (k+1)).map sRef=out++ [sRef l[k]]:=by rw[List.take_succ_eq_append_getElem hlt,List.map_append,he];rfl
  refine wz fun b5=>?_
  refine pwp_freezeD 5 ?_
  refine wn ?_
  refine pwp_drawN 5 ?_ ?_
  ·decide+kernel
  refine wfa fun v'=>?_
  refine s_storeP (ay:= .slice ((out++ [sRef l[k]]).map eSx) v') (lsC (out++ [sRef l[k]]) v') rfl rfl Flat.out rfl (by simp) ?_
  refine wf ?_
  refine wf ?_
  exact⟨(k+1,v',out++ [sRef l[k]]),⟨by dsimp only;omega,ee.symm⟩,by dsimp only;omega,⟨rfl,rfl,rfl,rfl,rfl⟩,.refl _⟩
 ·rw[List.take_of_length_le (by omega)]at he
  refine wf ?_
  refine endC rfl ?_
  rw[sOver,←he]
  exact lsC_le _ _⟩
set_option maxHeartbeats 1000000 in
instance encodeLinesP_ct (l:List Str) (t:Tag) [hs:Small (l.length≤1000000)]:FnC Tryz.prog 204 [.slice (l.map eS) t] (.agg (eSx (sList (l.map sAtom)))):=⟨by
 refine fn_of Tryz.func204 Tryz.ntmps204 rfl (rs:= [.cell 2 197]) rfl rfl fun hb LF=>?_
 have hlen:=hs.out
 refine wfb fun b=>?_
 refine wfb fun b3=>?_
 refine pwp_tok 3 ?_
 refine pwp_loopS (σ:=Nat × Tag × List Sx) (fun k=>k.1≤l.length∧k.2.2=(l.take k.1).map sAtom) (fun k=>l.length - k.1) (fun k=> [(2,.raw (.pointer (some ⟨b,0,none⟩))),(3,.raw (.pointer (some ⟨b3,0,none⟩))),(7,.slice (l.map eS) t),(8,.raw (.int .i64 l.length)),(9,.raw (.int .i64 k.1))]) (fun k=> .tok k.2.1 k.2.2.length 3:: .box b3 197 (lsC k.2.2 k.2.1):: .box b 197 (eSx Sx.zero)::LF) (0,.nil,[]) ⟨by simp,by simp⟩ ⟨rfl,rfl,rfl,rfl,rfl⟩ (.refl _) ?_
 rintro⟨k,v,out⟩ ⟨hk,he⟩
 dsimp only at hk he
 have hol:out.length=k:=by rw[he];simp;omega
 refine wf ?_
 refine pwp_condD (fun hc=>?_) (fun hc=>?_)
 ·have hlt:k < l.length:=by omega
  have ee:(l.take (k+1)).map sAtom=out++ [sAtom l[k]]:=by rw[List.take_succ_eq_append_getElem hlt,List.map_append,he];rfl
  refine wn ?_
  refine pwp_drawN 5 ?_ ?_
  ·decide+kernel
  refine wfa fun v'=>?_
  refine s_storeP (ay:= .slice ((out++ [sAtom l[k]]).map eSx) v') (lsC (out++ [sAtom l[k]]) v') rfl rfl Flat.out rfl (by simp) ?_
  refine wf ?_
  refine wf ?_
  exact⟨(k+1,v',out++ [sAtom l[k]]),⟨by dsimp only;omega,ee.symm⟩,by dsimp only;omega,⟨rfl,rfl,rfl,rfl,rfl⟩,.refl _⟩
 ·rw[List.take_of_length_le (by omega)]at he
  refine wf ?_
  refine endC rfl ?_
  rw[←he]
  exact lsC_le _ _⟩
end Go.Proofs
