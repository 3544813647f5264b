/- Contracts: explicit dependencies; the atoms of a change (the reference's layer 16). -/
import Derived.Test.YtddlffkdpocmhaaGreatDoorUaf
import Derived.RangeFuncNested
set_option linter.unusedSimpArgs false
set_option linter.unusedVariables false
namespace Go.Proofs
open Go Go.Q
attribute [local irreducible] pwp pops PCalls OpN
def rDepE (l:List Dig) (i:Nat):Int:=if l.getD i Dig.zero=Dig.zero then 1 else if 0 < (i:Int)∧0≤cmpD (l.getD (i - 1) Dig.zero) (l.getD i Dig.zero)then 9 else 0
def rDeps (l:List Dig):Int:=if 100 < (l.length:Int)then 4 else firstErr (rDepE l) (List.range l.length)
instance deps_ct (l:List Dig) (t:Tag):FnC Tryz.prog 188 [.slice (l.map eDig) t] (.raw (.int .i64 (rDeps l))):=⟨by
 refine fn_of Tryz.func188 Tryz.ntmps188 rfl (rs:= [.tmp 2]) rfl rfl fun hb LF=>?_
 have hlen:l.length≤140737488355328:=(hb (.slice (l.map eDig) t) (by simp)).slice_map
 refine walk ?_
 refine pwp_condD (fun h1=>?_) (fun h1=>?_)
 ·refine walk ?_
  refine end1 (.of_eq ?_)
  rw[rDeps,if_pos h1]
 refine walk ?_
 refine pwp_loopS (σ:=Nat) (fun k=>k≤l.length∧ ∀ i (h:i < (List.range l.length).length),i < k→rDepE l (List.range l.length)[i]=0) (fun k=>l.length - k) (fun k=> [(0,.slice (l.map eDig) t),(3,.raw (.int .i64 k))]) (fun _=>LF) 0 ⟨by simp,by simp⟩ ⟨rfl,rfl⟩ (.refl _) ?_
 rintro k ⟨hk,he⟩
 refine walk ?_
 refine pwp_condD (fun hc=>?_) (fun hc=>?_)
 ·have hlt:k < l.length:=by omega
  have hltr:k < (List.range l.length).length:=by simpa using hlt
  have ek:(List.range l.length)[k]=k:=by simp
  have e0:l.getD k Dig.zero=l[k]:=by simp[List.getD,hlt]
  refine walk ?_
  refine pwp_condD (fun h2=>?_) (fun h2=>?_)
  ·refine walk ?_
   refine end1 (.of_eq ?_)
   have e:rDepE l (List.range l.length)[k]=1:=by rw[ek,rDepE,e0,if_pos h2]
   rw[rDeps,if_neg h1,firstErr_at hltr he (by rw[e];decide),e]
  refine walk ?_
  refine pops_if (fun hp=>?_) (fun hp=>?_)
  ·have hp':0 < (k:Int):=of_decide_eq_true hp
   refine walkp ?_
   have e1:l.getD (k - 1) Dig.zero=l[((k:Int) - 1).toNat]:=by
    have:((k:Int) - 1).toNat=k - 1:=by omega
    simp only[this]
    have h':k - 1 < l.length:=by omega
    simp[List.getD,h']
   refine pwp_condD (fun h3=>?_) (fun h3=>?_)
   ·refine walk ?_
    refine end1 (.of_eq ?_)
    have e:rDepE l (List.range l.length)[k]=9:=by rw[ek,rDepE,e0,e1,if_neg h2,if_pos ⟨hp',h3⟩]
    rw[rDeps,if_neg h1,firstErr_at hltr he (by rw[e];decide),e]
   ·refine walk ?_
    have e:rDepE l (List.range l.length)[k]=0:=by rw[ek,rDepE,e0,e1,if_neg h2,if_neg (fun h=>h3 h.2)]
    exact⟨k+1,⟨by omega,upto_succ0 he hltr e⟩,by dsimp only;omega,⟨rfl,rfl⟩,.refl _⟩
  ·have hp': ¬0 < (k:Int):=of_decide_eq_false hp
   refine walkp ?_
   have e:rDepE l (List.range l.length)[k]=0:=by rw[ek,rDepE,e0,if_neg h2,if_neg (fun h=>hp' h.1)]
   exact⟨k+1,⟨by omega,upto_succ0 he hltr e⟩,by dsimp only;omega,⟨rfl,rfl⟩,.refl _⟩
 ·refine walk ?_
  refine end1 (.of_eq ?_)
  rw[rDeps,if_neg h1,firstErr_zero fun i h=>he i h (by simp at h;omega)]⟩
def rLineA (c:Chg) (first:Int) (i:Nat):Atm:={ Atm.zero with id:=⟨Dig.zero,first+i⟩,kind:=5,file:=c.file,text:=c.lines.getD i [] }
def rEdgeA (c:Chg) (first:Int) (i:Nat):Atm:={ Atm.zero with id:=⟨Dig.zero,first+c.lines.length+i⟩,kind:=6,file:=c.file,src:=if 0 < (i:Int)then⟨Dig.zero,first+i - 1⟩else c.after,dst:=if(i:Int) < c.lines.length then⟨Dig.zero,first+i⟩else c.before }
def rMade (c:Chg) (first:Int):List Atm:=
 if c.kind=1 then [{ Atm.zero with id:=⟨Dig.zero,first⟩,kind:=1,file:=⟨Dig.zero,first⟩,type:=c.type }]else
 if c.kind=2 then [{ Atm.zero with id:=⟨Dig.zero,first⟩,kind:=2,file:=c.file,parent:=c.parent,name:=c.name,over:=c.over }]else
 if c.kind=3 then [{ Atm.zero with id:=⟨Dig.zero,first⟩,kind:=3,file:=c.file,mode:=c.mode,over:=c.over }]else
 if c.kind=4 then [{ Atm.zero with id:=⟨Dig.zero,first⟩,kind:=4,file:=c.file,data:=c.data,over:=c.over }]else
 if c.kind=6 then [{ Atm.zero with id:=⟨Dig.zero,first⟩,kind:=6,file:=c.file,src:=c.after,dst:=c.before,over:=c.over }]else
 if c.kind=7 then [{ Atm.zero with id:=⟨Dig.zero,first⟩,kind:=7,over:=c.over }]else
 (List.range c.lines.length).map (rLineA c first)++(List.range (c.lines.length+1)).map (rEdgeA c first)
theorem rMade_len (c:Chg) (first:Int):(rMade c first).length≤2*c.lines.length+1:=by
 unfold rMade
 repeat' split
 all_goals first|(simp only[List.length_cons,List.length_nil];omega)|(simp only[List.length_append,List.length_map,List.length_range];omega)
set_option maxHeartbeats 2000000 in
instance Made_ct (c:Chg) (first:Int) [hs:Small (c.lines.length≤2000∧0≤first∧first≤1000000000)]:FnC Tryz.prog 226 [.agg (eChg c),.raw (.int .i64 first)] (.slice ((rMade c first).map eAtm) .ro):=⟨by
 refine fn_of Tryz.func226 Tryz.ntmps226 rfl (rs:= [.tmp 4]) rfl rfl fun hb LF=>?_
 obtain⟨hl,hf0,hf1⟩:=hs.out
 refine walkb fun b=>?_
 refine walkbp fun b2=>?_
 refine pwp_condD (fun h1=>?_) (fun h1=>?_)
 ·refine walk ?_
  refine end1 (.of_eq ?_)
  rw[rMade,if_pos h1];rfl
 refine walk ?_
 refine pwp_condD (fun h2=>?_) (fun h2=>?_)
 ·refine walk ?_
  refine end1 (.of_eq ?_)
  rw[rMade,if_neg h1,if_pos h2];rfl
 refine walk ?_
 refine pwp_condD (fun h3=>?_) (fun h3=>?_)
 ·refine walk ?_
  refine end1 (.of_eq ?_)
  rw[rMade,if_neg h1,if_neg h2,if_pos h3];rfl
 refine walk ?_
 refine pwp_condD (fun h4=>?_) (fun h4=>?_)
 ·refine walk ?_
  refine end1 (.of_eq ?_)
  rw[rMade,if_neg h1,if_neg h2,if_neg h3,if_pos h4];rfl
 refine walk ?_
 refine pwp_condD (fun h6=>?_) (fun h6=>?_)
 ·refine walk ?_
  refine end1 (.of_eq ?_)
  rw[rMade,if_neg h1,if_neg h2,if_neg h3,if_neg h4,if_pos h6];rfl
 refine walk ?_
 refine pwp_condD (fun h7=>?_) (fun h7=>?_)
 ·refine walk ?_
  refine end1 (.of_eq ?_)
  rw[rMade,if_neg h1,if_neg h2,if_neg h3,if_neg h4,if_neg h6,if_pos h7];rfl
 refine walk ?_
 refine pwp_tok 172 ?_
 refine pwp_loopS (σ:=Nat × Tag) (fun k=>k.1≤c.lines.length) (fun k=>c.lines.length - k.1) (fun k=> [(1,.raw (.int .i64 first)),(2,.raw (.pointer (some ⟨b,0,none⟩))),(6,.slice (((List.range k.1).map (rLineA c first)).map eAtm) k.2),(7,.raw (.int .i64 c.lines.length)),(8,.raw (.int .i64 k.1))]) (fun k=> .tok k.2 ((List.range k.1).map (rLineA c first)).length 172:: .box b 119 (eChg c)::LF) (0,.nil) (by simp) ⟨rfl,rfl,rfl,rfl,rfl⟩ (.cons_cons _ (.cons _ (.refl _))) ?_
 rintro⟨k,v⟩ hk
 dsimp only at hk
 refine walk ?_
 refine pwp_condD (fun hc=>?_) (fun hc=>?_)
 ·have hlt:k < c.lines.length:=by omega
  have hll:((List.range k).map (rLineA c first)).length=k:=by simp
  generalize hB:(List.range k).map (rLineA c first)=B at hll ⊢
  refine walkn ?_
  refine pwp_drawN 14 ?_ ?_
  ·decide+kernel
  refine walkap fun v'=>?_
  have e:(List.range (k+1)).map (rLineA c first)=(List.range k).map (rLineA c first)++ [rLineA c first k]:=by rw[List.range_succ,List.map_append];rfl
  rw[hB]at e
  have e2:rLineA c first k= { Atm.zero with id:=⟨Dig.zero,first+k⟩,kind:=5,file:=c.file,text:=c.lines[k] }:=by simp[rLineA,List.getD,hlt]
  rw[e2]at e
  refine⟨(k+1,v'),by dsimp only;omega,by dsimp only;omega,⟨rfl,rfl,by dsimp only;rw[e];rfl,rfl,rfl⟩,by dsimp only;rw[e];exact .refl _⟩
 have hkk:k=c.lines.length:=by omega
 subst hkk
 refine walk ?_
 generalize hA:(List.range c.lines.length).map (rLineA c first)=A
 have hAl:A.length=c.lines.length:=by rw[←hA];simp
 refine pwp_loopS (σ:=Nat × Tag) (fun k=>k.1≤c.lines.length+1) (fun k=>c.lines.length+1 - k.1) (fun k=> [(1,.raw (.int .i64 first)),(2,.raw (.pointer (some ⟨b,0,none⟩))),(6,.slice ((A++(List.range k.1).map (rEdgeA c first)).map eAtm) k.2),(7,.raw (.int .i64 c.lines.length)),(9,.raw (.int .i64 k.1))]) (fun k=> .tok k.2 (A++(List.range k.1).map (rEdgeA c first)).length 172:: .box b 119 (eChg c)::LF) (0,v) (by simp) ⟨rfl,rfl,by simp only[List.range_zero,List.map_nil,List.append_nil];rfl,rfl,rfl⟩ (by simp only[List.range_zero,List.map_nil,List.append_nil];exact .refl _) ?_
 rintro⟨k,v⟩ hk
 dsimp only at hk
 refine walk ?_
 refine pwp_condD (fun hc=>?_) (fun hc=>?_)
 ·have hll:(A++(List.range k).map (rEdgeA c first)).length=c.lines.length+k:=by simp[hAl]
  have e:A++(List.range (k+1)).map (rEdgeA c first)=(A++(List.range k).map (rEdgeA c first))++ [rEdgeA c first k]:=by rw[List.range_succ,List.map_append,List.append_assoc];rfl
  generalize hB:A++(List.range k).map (rEdgeA c first)=B at hll e ⊢
  refine walkb fun b3=>?_
  refine pwp_condD (fun h8=>?_) (fun h8=>?_)
  ·refine walk ?_
   refine pwp_condD (fun h9=>?_) (fun h9=>?_)
   ·refine walka fun v'=>?_
    have e2:rEdgeA c first k= { Atm.zero with id:=⟨Dig.zero,first+c.lines.length+k⟩,kind:=6,file:=c.file,src:=⟨Dig.zero,first+k - 1⟩,dst:=⟨Dig.zero,first+k⟩ }:=by rw[rEdgeA,if_pos h8,if_pos h9]
    rw[e2]at e
    refine⟨(k+1,v'),by dsimp only;omega,by dsimp only;omega,⟨rfl,rfl,by dsimp only;rw[e];rfl,rfl,rfl⟩,by dsimp only;rw[e];exact .cons _ (.refl _)⟩
   ·refine walka fun v'=>?_
    have e2:rEdgeA c first k= { Atm.zero with id:=⟨Dig.zero,first+c.lines.length+k⟩,kind:=6,file:=c.file,src:=⟨Dig.zero,first+k - 1⟩,dst:=c.before }:=by rw[rEdgeA,if_pos h8,if_neg h9]
    rw[e2]at e
    refine⟨(k+1,v'),by dsimp only;omega,by dsimp only;omega,⟨rfl,rfl,by dsimp only;rw[e];rfl,rfl,rfl⟩,by dsimp only;rw[e];exact .cons _ (.refl _)⟩
  ·refine walk ?_
   refine pwp_condD (fun h9=>?_) (fun h9=>?_)
   ·refine walka fun v'=>?_
    have e2:rEdgeA c first k= { Atm.zero with id:=⟨Dig.zero,first+c.lines.length+k⟩,kind:=6,file:=c.file,src:=c.after,dst:=⟨Dig.zero,first+k⟩ }:=by rw[rEdgeA,if_neg h8,if_pos h9]
    rw[e2]at e
    refine⟨(k+1,v'),by dsimp only;omega,by dsimp only;omega,⟨rfl,rfl,by dsimp only;rw[e];rfl,rfl,rfl⟩,by dsimp only;rw[e];exact .cons _ (.refl _)⟩
   ·refine walka fun v'=>?_
    have e2:rEdgeA c first k= { Atm.zero with id:=⟨Dig.zero,first+c.lines.length+k⟩,kind:=6,file:=c.file,src:=c.after,dst:=c.before }:=by rw[rEdgeA,if_neg h8,if_neg h9]
    rw[e2]at e
    refine⟨(k+1,v'),by dsimp only;omega,by dsimp only;omega,⟨rfl,rfl,by dsimp only;rw[e];rfl,rfl,rfl⟩,by dsimp only;rw[e];exact .cons _ (.refl _)⟩
 ·refine walk ?_
  refine end1 (.ros ?_)
  have hkk:k=c.lines.length+1:=by omega
  subst hkk
  rw[rMade,if_neg h1,if_neg h2,if_neg h3,if_neg h4,if_neg h6,if_neg h7,hA]⟩
end Go.Proofs
namespace Go.Proofs
open Go Go.Q
attribute [local irreducible] pwp pops PCalls OpN
theorem rFields_lines {c:Chg} (h:rFields c=0):c.lines.length≤2000:=by
 unfold rFields at h
 split at h
 ·omega
 split at h
 ·omega
 rename_i h2
 split at h
 ·omega
 split at h
 ·omega
 split at h
 ·omega
 split at h
 ·omega
 split at h
 ·unfold rLines at h
  split at h
  ·omega
  split at h
  ·omega
  ·omega
 ·rename_i h7
  simp only[Bool.not_eq_false,rEmpty,Bool.and_eq_true,decide_eq_true_eq,rRest,h7,if_false]at h2
  omega
def rChanges:List Chg→List Atm→List Atm × Int
 | [],own=>(own,0)
 |c::l,own=>if rFields c≠0 then([],rFields c)else if rRefs c own≠0 then([],rRefs c own)else rChanges l (own++rMade c own.length)
theorem rChanges_step {l:List Chg} {k:Nat} (hk:k < l.length) (own:List Atm):rChanges (l.drop k) own=if rFields l[k]≠0 then([],rFields l[k])else if rRefs l[k] own≠0 then([],rRefs l[k] own)else rChanges (l.drop (k+1)) (own++rMade l[k] own.length):=by
 rw[List.drop_eq_getElem_cons hk,rChanges]
set_option maxHeartbeats 1000000 in
instance changes_ct (l:List Chg) (t:Tag) [hs:Small (l.length≤400)]:FnC Tryz.prog 189 [.slice (l.map eChg) t] (.tuple [.slice ((rChanges l []).1.map eAtm) .ro,.raw (.int .i64 (rChanges l []).2)]):=⟨by
 refine fn_of Tryz.func189 Tryz.ntmps189 rfl (rs:= [.tmp 2,.tmp 3]) rfl rfl fun hb LF=>?_
 have hl:=hs.out
 refine walk ?_
 refine pwp_tok 172 ?_
 refine pwp_loopS (σ:=Nat × Tag × List Atm) (fun k=>k.1≤l.length∧k.2.2.length≤k.1*4001∧rChanges l []=rChanges (l.drop k.1) k.2.2) (fun k=>l.length - k.1) (fun k=> [(0,.slice (l.map eChg) t),(4,.slice (k.2.2.map eAtm) k.2.1),(5,.raw (.int .i64 k.1))]) (fun k=> .tok k.2.1 k.2.2.length 172::LF) (0,.nil,[]) ⟨by simp,by simp,by simp⟩ ⟨rfl,rfl,rfl⟩ (.refl _) ?_
 rintro⟨k,v,own⟩ ⟨hk,hlen,he⟩
 dsimp only at hk hlen he
 refine walk ?_
 refine pwp_condD (fun hc=>?_) (fun hc=>?_)
 ·have hlt:k < l.length:=by omega
  rw[rChanges_step hlt]at he
  refine walk ?_
  refine pwp_condN (fun h1=>?_) (fun h1=>?_)
  ·refine walk ?_
   rw[if_pos h1]at he
   refine end2 (.tuple2 ?_ (.of_eq ?_))
   ·rw[he];exact .ro _ _
   ·rw[he]
  rw[if_neg (by simp[h1])]at he
  refine walk ?_
  refine pwp_condN (fun h2=>?_) (fun h2=>?_)
  ·refine walk ?_
   rw[if_pos h2]at he
   refine end2 (.tuple2 ?_ (.of_eq ?_))
   ·rw[he];exact .ro _ _
   ·rw[he]
  rw[if_neg (by simp[h2])]at he
  have hll:l[k].lines.length≤2000:=rFields_lines h1
  have hmm:=rMade_len l[k] own.length
  have:Small (l[k].lines.length≤2000∧(0:Int)≤own.length∧(own.length:Int)≤1000000000):=⟨hll,by omega,by omega⟩
  refine walka fun v'=>?_
  refine⟨(k+1,v',own++rMade l[k] own.length),⟨by dsimp only;omega,by dsimp only;rw[List.length_append];omega,he⟩,by dsimp only;omega,⟨rfl,rfl,rfl⟩,.refl _⟩
 ·refine walk ?_
  have hkk:l.drop k= []:=List.drop_eq_nil_of_le (by omega)
  rw[hkk]at he
  refine end2 (.tuple2 ?_ (.of_eq ?_))
  ·rw[he];exact .ro _ _
  ·rw[he];rfl⟩
def rCheckP (p:Pat):List Atm × Int:=
 if rName p.author=false then([],5)else if 1000 < (p.message.length:Int)then([],4)else if p.time < 0∨1099511627776 < p.time then([],2)else
 if rDeps p.deps≠0 then([],rDeps p.deps)else if(p.changes.length:Int)=0 then([],1)else if 400 < (p.changes.length:Int)then([],4)else rChanges p.changes []
instance checkP_ct (p:Pat):FnC Tryz.prog 155 [.agg (ePat p)] (.tuple [.slice ((rCheckP p).1.map eAtm) .ro,.raw (.int .i64 (rCheckP p).2)]):=⟨by
 refine fn_of Tryz.func155 Tryz.ntmps155 rfl (rs:= [.tmp 2,.tmp 3]) rfl rfl fun hb LF=>?_
 refine walkb fun b=>?_
 refine pwp_condB (fun h1=>?_) (fun h1=>?_)
 ·refine walk ?_
  rw[rCheckP,if_pos (by simpa using h1)]
  refine end2 ?_;exact .tuple2 (.ro _ _) (.refl _)
 rw[rCheckP,if_neg (by simpa using h1)]
 refine walk ?_
 refine pwp_condD (fun h2=>?_) (fun h2=>?_)
 ·refine walk ?_
  rw[if_pos h2]
  refine end2 ?_;exact .tuple2 (.ro _ _) (.refl _)
 rw[if_neg h2]
 refine walk ?_
 refine pops_cutE [(20,.raw (.bool (decide (p.time < 0∨1099511627776 < p.time)))),(1,.raw (.pointer (some ⟨b,0,none⟩)))] (.box b 57 (ePat p)::LF) ?_ ?_
 ·repeat' (first|(refine pwp_condD (fun h=>?_) (fun h=>?_)<;>refine walk ?_)|(refine pwp_condN (fun h=>?_) (fun h=>?_)<;>refine walk ?_)|(refine pwp_condB (fun h=>?_) (fun h=>?_)<;>refine walk ?_)|(refine pops_if (fun h=>?_) (fun h=>?_)<;>(have h2:=h;(try simp only[decide_eq_true_eq,decide_eq_false_iff_not,Bool.not_eq_true',Bool.not_eq_false']at h2);refine walkp ?_)))
  all_goals (refine⟨⟨holdsB (by rfl) ?_,rfl⟩,.refl _⟩;first|(simp_all;done)|(simp_all;omega)|grind)
 refine walk ?_
 refine pwp_condD (fun h3=>?_) (fun h3=>?_)
 ·refine walk ?_
  rw[if_pos h3]
  refine end2 ?_;exact .tuple2 (.ro _ _) (.refl _)
 rw[if_neg h3]
 refine walk ?_
 refine pwp_condN (fun h4=>?_) (fun h4=>?_)
 ·refine walk ?_
  rw[if_pos h4]
  refine end2 ?_;exact .tuple2 (.ro _ _) (.refl _)
 rw[if_neg (by simp[h4])]
 refine walk ?_
 refine pwp_condD (fun h5=>?_) (fun h5=>?_)
 ·refine walk ?_
  rw[if_pos h5]
  refine end2 ?_;exact .tuple2 (.ro _ _) (.refl _)
 rw[if_neg h5]
 refine walk ?_
 refine pwp_condD (fun h6=>?_) (fun h6=>?_)
 ·refine walk ?_
  rw[if_pos h6]
  refine end2 ?_;exact .tuple2 (.ro _ _) (.refl _)
 rw[if_neg h6]
 have:Small (p.changes.length≤400):=⟨by omega⟩
 refine walk ?_
 refine end2 ?_;exact .refl _⟩
end Go.Proofs
namespace Go.Proofs
open Go Go.Q
attribute [local irreducible] pwp pops PCalls OpN
def rDecF:Nat→Nat→Str
 |0,n=> [UInt8.ofNat (48+n)]
 |f+1,n=>if n < 10 then [UInt8.ofNat (48+n)]else rDecF f (n / 10)++ [UInt8.ofNat (48+n % 10)]
theorem rDecF_eq: ∀ (f n:Nat),n≤f→rDecF f n=rDecF n n
 |0,n,h=>by have:n=0:=by omega
            subst this;rfl
 |f+1,n,h=>by
  by_cases hn:n < 10
  ·cases n with
   |zero=>simp[rDecF]
   |succ m=>simp only[rDecF,hn,if_true]
  ·obtain⟨m,rfl⟩: ∃ m,n=m+1:=⟨n - 1,by omega⟩
   simp only[rDecF,hn,if_false]
   rw[rDecF_eq f ((m+1) / 10) (by omega),rDecF_eq m ((m+1) / 10) (by omega)]
def rDec (n:Nat):Str:=rDecF n n
theorem rDec_small {n:Nat} (h:n < 10):rDec n= [UInt8.ofNat (48+n)]:=by
 unfold rDec
 cases n with
 |zero=>simp[rDecF]
 |succ m=>simp only[rDecF,h,if_true]
theorem rDec_big {n:Nat} (h: ¬n < 10):rDec n=rDec (n / 10)++ [UInt8.ofNat (48+n % 10)]:=by
 obtain⟨m,rfl⟩: ∃ m,n=m+1:=⟨n - 1,by omega⟩
 unfold rDec
 simp only[rDecF,h,if_false]
 rw[rDecF_eq m ((m+1) / 10) (by omega)]
theorem rDec_len: ∀ (m n:Nat),n < 10 ^ (m+1)→(rDec n).length≤m+1
 |0,n,h=>by rw[rDec_small (by omega)];simp
 |m+1,n,h=>by
  by_cases hn:n < 10
  ·rw[rDec_small hn];simp
  ·rw[rDec_big hn,List.length_append]
   have:=rDec_len m (n / 10) (by rw[Nat.div_lt_iff_lt_mul (by omega)];rw[Nat.pow_succ]at h;omega)
   simp only[List.length_cons,List.length_nil];omega
theorem rDec_len15 {n:Nat} (h:n≤140737488355328):(rDec n).length≤15:=rDec_len 14 n (by omega)
theorem Decimal_nat: ∀ (n:Nat),n≤140737488355328→Q.Fn Tryz.prog 263 [.raw (.int .i64 (n:Int))] (.str (rDec n)):=by
 intro n
 induction n using Nat.strongRecOn with
 |_ n ih=>
 intro hn
 have ih': ∀ m:Nat,[Small (m < n)]→FnC Tryz.prog 263 [.raw (.int .i64 (m:Int))] (.str (rDec m)):=fun m h=>⟨ih m h.out (by have:=h.out;omega)⟩
 refine fn_of Tryz.func263 Tryz.ntmps263 rfl (rs:= [.tmp 2]) rfl rfl fun hb LF=>?_
 refine walk ?_
 refine pwp_condD (fun h2=>?_) (fun h2=>?_)
 ·refine walk ?_
  refine end1 (.of_eq ?_)
  rw[rDec_small (by omega)]
 ·have:Small (n / 10 < n):=⟨by omega⟩
  have hl:=rDec_len15 (n:=n / 10) (by omega)
  refine walk ?_
  refine s_quo (n:=10) (by rfl) (by rfl) (by decide) (by omega) ?_
  refine walkp ?_
  refine s_rem (n:=10) (by rfl) (by rfl) (by decide) ?_
  refine walkp ?_
  refine end1 (.of_eq ?_)
  rw[rDec_big (n:=n) (by omega)]
def rDecI (n:Int):Str:=if n < 0 then 45::rDec (-n).toNat else rDec n.toNat
theorem rDecI_len {n:Int} (h: -140737488355328≤n∧n≤140737488355328):(rDecI n).length≤16:=by
 unfold rDecI
 split
 ·have:=rDec_len15 (n:=(-n).toNat) (by omega)
  simp only[List.length_cons];omega
 ·have:=rDec_len15 (n:=n.toNat) (by omega)
  omega
instance Decimal_ct (n:Int) [hs:Small (-140737488355328≤n∧n≤140737488355328)]:FnC Tryz.prog 263 [.raw (.int .i64 n)] (.str (rDecI n)):=⟨by
 obtain⟨h0,h1⟩:=hs.out
 by_cases hn:n < 0
 ·have h3:FnC Tryz.prog 263 [.raw (.int .i64 (-n))] (.str (rDec (-n).toNat)):=⟨by
   have:=Decimal_nat (-n).toNat (by omega)
   rwa [show(((-n).toNat:Nat):Int)= -n by omega]at this⟩
  refine fn_of Tryz.func263 Tryz.ntmps263 rfl (rs:= [.tmp 2]) rfl rfl fun hb LF=>?_
  refine walk ?_
  refine pwp_condD (fun h1=>?_) (fun h1=>?_)
  ·refine walk ?_
   refine pwp_condD (fun h2=>?_) (fun h2=>?_)
   ·omega
   ·have hl:=rDec_len15 (n:=(-n).toNat) (by omega)
    refine walk ?_
    refine end1 (.of_eq ?_)
    rw[rDecI,if_pos hn];rfl
  ·omega
 ·have:=Decimal_nat n.toNat (by omega)
  rw[show((n.toNat:Nat):Int)=n by omega]at this
  rw[rDecI,if_neg hn];exact this⟩
def sAtom (s:Str):Sx:= .mk false s []
def sList (l:List Sx):Sx:= .mk true [] l
def rInt (n:Int):Sx × Int:=if n < -1099511627776∨1099511627776 < n then(Sx.zero,2)else(sAtom (rDecI n),0)
instance Int_ct (n:Int):FnC Tryz.prog 232 [.raw (.int .i64 n)] (.tuple [.agg (eSx (rInt n).1),.raw (.int .i64 (rInt n).2)]):=⟨by
 refine fn_of Tryz.func232 Tryz.ntmps232 rfl (rs:= [.cell 2 217,.tmp 3]) rfl rfl fun hb LF=>?_
 refine walkb fun b=>?_
 refine pops_cutE [(9,.raw (.bool (decide (n < -1099511627776∨1099511627776 < n)))),(0,.raw (.int .i64 n)),(2,.raw (.pointer (some ⟨b,0,none⟩)))] (.box b 217 (eSx Sx.zero)::LF) ?_ ?_
 ·repeat' (first|(refine pwp_condD (fun h=>?_) (fun h=>?_)<;>refine walk ?_)|(refine pwp_condN (fun h=>?_) (fun h=>?_)<;>refine walk ?_)|(refine pwp_condB (fun h=>?_) (fun h=>?_)<;>refine walk ?_)|(refine pops_if (fun h=>?_) (fun h=>?_)<;>(have h2:=h;(try simp only[decide_eq_true_eq,decide_eq_false_iff_not,Bool.not_eq_true',Bool.not_eq_false']at h2);refine walkp ?_)))
  all_goals (refine⟨⟨holdsB (by rfl) ?_,rfl,rfl⟩,.refl _⟩;first|(simp_all;done)|(simp_all;omega)|grind)
 refine walk ?_
 refine pwp_condD (fun h=>?_) (fun h=>?_)
 ·refine walk ?_
  refine endC1 rfl (.of_eq ?_)
  rw[rInt,if_pos h]
 ·have:Small (-140737488355328≤n∧n≤140737488355328):=⟨by omega⟩
  refine walk ?_
  refine endC1 rfl (.of_eq ?_)
  rw[rInt,if_neg h];rfl⟩
instance atomS_ct (s:Str):FnC Tryz.prog 194 [.str s] (.agg (eSx (sAtom s))):=⟨by
 refine fn_of Tryz.func194 Tryz.ntmps194 rfl (rs:= [.cell 2 217]) rfl rfl fun hb LF=>?_
 refine walkb fun b=>?_
 refine endC rfl (.of_eq ?_)
 rfl⟩
instance listS_ct (l:List Sx) (t:Tag):FnC Tryz.prog 193 [.slice (l.map eSx) t] (.agg (eSx (sList l))):=⟨by
 refine fn_of Tryz.func193 Tryz.ntmps193 rfl (rs:= [.cell 2 217]) rfl rfl fun hb LF=>?_
 refine walkb fun b=>?_
 refine endC rfl (.of_eq ?_)
 rfl⟩
def sNum (n:Int):Sx:=(rInt n).1
instance numberS_ct (n:Int):FnC Tryz.prog 195 [.raw (.int .i64 n)] (.agg (eSx (sNum n))):=⟨by
 refine fn_of Tryz.func195 Tryz.ntmps195 rfl (rs:= [.cell 2 217]) rfl rfl fun hb LF=>?_
 refine walkb fun b=>?_
 refine walkbp fun b2=>?_
 refine endC rfl (.of_eq ?_)
 rfl⟩
instance Bytes_ct (d:Dig):FnC Tryz.prog 227 [.agg (eDig d)] (.str d.bs):=⟨by
 refine fn_of Tryz.func227 Tryz.ntmps227 rfl (rs:= [.tmp 2]) rfl rfl fun hb LF=>?_
 refine walkb fun b=>?_
 refine end1 (.of_eq ?_)
 rfl⟩
def sDig (d:Dig):Sx:=if d=Dig.zero then sAtom []else sAtom d.bs
instance digestS_ct (d:Dig):FnC Tryz.prog 190 [.agg (eDig d)] (.agg (eSx (sDig d))):=⟨by
 refine fn_of Tryz.func190 Tryz.ntmps190 rfl (rs:= [.cell 2 217]) rfl rfl fun hb LF=>?_
 refine walkb fun b=>?_
 refine walkbp fun b2=>?_
 refine pwp_condD (fun h=>?_) (fun h=>?_)
 ·refine walk ?_
  refine endC rfl (.of_eq ?_)
  rw[sDig,if_pos h]
 ·refine walk ?_
  refine endC rfl (.of_eq ?_)
  rw[sDig,if_neg h]⟩
def sRef (x:Ident):Sx:=sList [sDig x.patch,sNum x.n]
instance referenceS_ct (x:Ident):FnC Tryz.prog 228 [.agg (eIdent x)] (.agg (eSx (sRef x))):=⟨by
 refine fn_of Tryz.func228 Tryz.ntmps228 rfl (rs:= [.cell 2 217]) rfl rfl fun hb LF=>?_
 refine walkbn fun b=>?_
 refine walkbnp fun b2=>?_
 refine pwp_drawN 8 ?_ ?_
 ·decide+kernel
 refine walkp ?_
 refine endC rfl (.of_eq ?_)
 rfl⟩
def sOver (l:List Ident):Sx:=sList (l.map sRef)
instance overS_ct (l:List Ident) (t:Tag) [hs:Small (l.length≤1000000)]:FnC Tryz.prog 229 [.slice (l.map eIdent) t] (.agg (eSx (sOver l))):=⟨by
 refine fn_of Tryz.func229 Tryz.ntmps229 rfl (rs:= [.cell 2 217]) rfl rfl fun hb LF=>?_
 have hlen:=hs.out
 refine walkb fun b=>?_
 refine pwp_tok 3 ?_
 refine pwp_loopS (σ:=Nat × Tag × List Sx) (fun k=>k.1≤l.length∧k.2.2=(l.take k.1).map sRef) (fun k=>l.length - k.1) (fun k=> [(0,.slice (l.map eIdent) t),(2,.raw (.pointer (some ⟨b,0,none⟩))),(3,.slice (k.2.2.map eSx) k.2.1),(4,.raw (.int .i64 k.1))]) (fun k=> .tok k.2.1 k.2.2.length 3:: .box b 217 (eSx Sx.zero)::LF) (0,.nil,[]) ⟨by simp,by simp⟩ ⟨rfl,rfl,rfl,rfl⟩ (.refl _) ?_
 rintro⟨k,v,out⟩ ⟨hk,he⟩
 dsimp only at hk he
 have hol:out.length=k:=by rw[he];simp;omega
 refine walk ?_
 refine pwp_condD (fun hc=>?_) (fun hc=>?_)
 ·have hlt:k < l.length:=by omega
  refine walka fun v'=>?_
  refine⟨(k+1,v',out++ [sRef l[k]]),⟨by dsimp only;omega,?_⟩,by dsimp only;omega,⟨rfl,rfl,rfl,rfl⟩,.refl _⟩
  dsimp only
  rw[List.take_succ_eq_append_getElem hlt,List.map_append,he];rfl
 ·refine walk ?_
  refine endC rfl (.of_eq ?_)
  rw[List.take_of_length_le (by omega)]at he
  rw[sOver,←he]⟩
end Go.Proofs
namespace Go.Proofs
open Go Go.Q
attribute [local irreducible] pwp pops PCalls OpN
def wfX:Nat→Sx→Prop
 |0,_=>False
 |d+1,x=>(x.isList=false∧x.list= []∧x.atom.length≤65536)∨(x.isList=true∧x.atom= []∧ ∀ y∈x.list,wfX d y)
def ndX:Nat→Sx→Nat
 |0,_=>0
 |d+1,x=>if x.isList then 1+(x.list.map (ndX d)).sum else 1
def encX:Nat→Sx→Str
 |0,_=> []
 |d+1,x=>if x.isList then 40::(x.list.flatMap (encX d)++ [41])else rDec x.atom.length++58::x.atom
theorem sum_take_le {l:List Nat} {k:Nat}:(l.take k).sum≤l.sum:=by
 conv=>rhs;rw[←List.take_append_drop k l,List.sum_append]
 omega
set_option maxHeartbeats 1000000 in
theorem count_fn: ∀ (d:Nat) (x:Sx) (limit depth:Int),wfX d x→(ndX d x:Int)≤limit→limit≤1000000→(d:Int)≤depth→depth≤1000→Q.Fn Tryz.prog 261 [.agg (eSx x),.raw (.int .i64 limit),.raw (.int .i64 depth)] (.raw (.int .i64 (ndX d x:Int)))
 |0,x,limit,depth,hw,_,_,_,_=>hw.elim
 |d+1,x,limit,depth,hw,hn,hl,hd,hd2=>by
  have ih: ∀ (y:Sx) (lim dep:Int),[Small (wfX d y∧(ndX d y:Int)≤lim∧lim≤1000000∧(d:Int)≤dep∧dep≤1000)]→FnC Tryz.prog 261 [.agg (eSx y),.raw (.int .i64 lim),.raw (.int .i64 dep)] (.raw (.int .i64 (ndX d y:Int))):=fun y lim dep h=>⟨by
   obtain⟨h1,h2,h3,h4,h5⟩:=h.out
   exact count_fn d y lim dep h1 h2 h3 h4 h5⟩
  have hpos:1≤ndX (d+1) x:=by unfold ndX;split<;>omega
  refine fn_of Tryz.func261 Tryz.ntmps261 rfl (rs:= [.tmp 6]) rfl rfl fun hb LF=>?_
  refine walkb fun b=>?_
  refine pops_if (fun hp=>?_) (fun hp=>?_)
  ·have:=of_decide_eq_true hp;omega
  refine walkp ?_
  refine pwp_condD (fun h1=>?_) (fun h1=>?_)
  ·omega
  refine walk ?_
  refine pwp_condB (fun h2=>?_) (fun h2=>?_)
  ·refine walk ?_
   refine end1 (.of_eq ?_)
   have:x.isList=false:=by simpa using h2
   simp[ndX,this]
  have hL:x.isList=true:=by simpa using h2
  rcases hw with ⟨h3,_⟩|⟨_,_,hw⟩
  ·rw[hL]at h3;cases h3
  have hnd:ndX (d+1) x=1+(x.list.map (ndX d)).sum:=by simp[ndX,hL]
  rw[hnd]at hn ⊢
  have hlen:x.list.length≤140737488355328:=by
   have:=(hb (.agg (eSx x)) (by simp)).agg_at (c:= .slice (x.list.map eSx) .ro) (by rw[eSx_eq];simp)
   exact this.slice_map
  refine walk ?_
  refine pwp_loopS (σ:=Nat) (fun k=>k≤x.list.length) (fun k=>x.list.length - k) (fun k=> [(1,.raw (.int .i64 limit)),(2,.raw (.int .i64 depth)),(3,.raw (.pointer (some ⟨b,0,none⟩))),(7,.raw (.int .i64 ((1+((x.list.map (ndX d)).take k).sum:Nat):Int))),(8,.raw (.int .i64 k))]) (fun _=> .box b 217 (eSx x)::LF) 0 (by simp) ⟨rfl,rfl,rfl,by simp;rfl,rfl⟩ (.refl _) ?_
  intro k hk
  have hsk:=sum_take_le (l:=x.list.map (ndX d)) (k:=k)
  have hsk1:=sum_take_le (l:=x.list.map (ndX d)) (k:=k+1)
  refine walk ?_
  refine pops_if (fun hp=>?_) (fun hp=>?_)
  ·have hc:=of_decide_eq_true hp
   have hlt:k < x.list.length:=by omega
   have e:((x.list.map (ndX d)).take (k+1)).sum=((x.list.map (ndX d)).take k).sum+ndX d x.list[k]:=by
    rw[List.take_succ_eq_append_getElem (by simpa using hlt),List.sum_append];simp
   refine walkp ?_
   refine pwp_condD (fun h4=>?_) (fun h4=>?_)
   ·have:Small (wfX d x.list[k]∧(ndX d x.list[k]:Int)≤limit - ((1+((x.list.map (ndX d)).take k).sum:Nat):Int)∧limit - ((1+((x.list.map (ndX d)).take k).sum:Nat):Int)≤1000000∧(d:Int)≤depth - 1∧depth - 1≤1000):=⟨hw _ (List.getElem_mem hlt),by omega,by omega,by omega,by omega⟩
    refine walk ?_
    refine⟨k+1,by omega,by dsimp only;omega,⟨rfl,rfl,rfl,?_,rfl⟩,.refl _⟩
    show PV.raw (Value.int .i64 _)=PV.raw (Value.int .i64 _)
    rw[e];congr 2;omega
   ·omega
  ·have hc:=of_decide_eq_false hp
   refine walkp ?_
   refine end1 (.of_eq ?_)
   rw[List.take_of_length_le (by simp;omega)]
set_option maxHeartbeats 1000000 in
theorem check_fn: ∀ (d:Nat) (x:Sx),wfX d x→Q.Fn Tryz.prog 262 [.agg (eSx x)] (.raw (.int .i64 0))
 |0,x,hw=>hw.elim
 |d+1,x,hw=>by
  have ih: ∀ (y:Sx),[Small (wfX d y)]→FnC Tryz.prog 262 [.agg (eSx y)] (.raw (.int .i64 0)):=fun y h=>⟨check_fn d y h.out⟩
  refine fn_of Tryz.func262 Tryz.ntmps262 rfl (rs:= [.tmp 2]) rfl rfl fun hb LF=>?_
  have hlen:x.list.length≤140737488355328:=by
   have:=(hb (.agg (eSx x)) (by simp)).agg_at (c:= .slice (x.list.map eSx) .ro) (by rw[eSx_eq];simp)
   exact this.slice_map
  refine walkb fun b=>?_
  refine pwp_condB (fun h2=>?_) (fun h2=>?_)
  ·have hL:x.isList=false:=by simpa using h2
   rcases hw with ⟨_,h3,h4⟩|⟨h3,_⟩
   ·refine walk ?_
    refine pwp_condD (fun h5=>?_) (fun h5=>?_)
    ·rw[h3]at h5;simp at h5
    refine walk ?_
    refine pwp_condD (fun h6=>?_) (fun h6=>?_)
    ·omega
    refine walk ?_
    exact end1 (.refl _)
   ·rw[hL]at h3;cases h3
  have hL:x.isList=true:=by simpa using h2
  rcases hw with ⟨h3,_⟩|⟨_,ha,hw⟩
  ·rw[hL]at h3;cases h3
  refine walk ?_
  refine pwp_condN (fun h5=>?_) (fun h5=>?_)
  ·exact absurd ha h5
  refine walk ?_
  refine pwp_loopS (σ:=Nat) (fun k=>k≤x.list.length) (fun k=>x.list.length - k) (fun k=> [(1,.raw (.pointer (some ⟨b,0,none⟩))),(3,.raw (.int .i64 k))]) (fun _=> .box b 217 (eSx x)::LF) 0 (by simp) ⟨rfl,rfl⟩ (.refl _) ?_
  intro k hk
  refine walk ?_
  refine pwp_condD (fun hc=>?_) (fun hc=>?_)
  ·have hlt:k < x.list.length:=by omega
   have:Small (wfX d x.list[k]):=⟨hw _ (List.getElem_mem hlt)⟩
   refine walk ?_
   exact⟨k+1,by omega,by dsimp only;omega,⟨rfl,rfl⟩,.refl _⟩
  ·refine walk ?_
   exact end1 (.refl _)
def okX (x:Sx):Prop:=wfX 8 x∧ndX 8 x≤20000
instance CheckX_ct (x:Sx) [hs:Small (okX x)]:FnC Tryz.prog 230 [.agg (eSx x)] (.raw (.int .i64 0)):=⟨by
 obtain⟨h1,h2⟩:=hs.out
 have i1:FnC Tryz.prog 261 [.agg (eSx x),.raw (.int .i64 20000),.raw (.int .i64 12)] (.raw (.int .i64 (ndX 8 x:Int))):=⟨count_fn 8 x 20000 12 h1 (by omega) (by omega) (by omega) (by omega)⟩
 have i2:FnC Tryz.prog 262 [.agg (eSx x)] (.raw (.int .i64 0)):=⟨check_fn 8 x h1⟩
 refine fn_of Tryz.func230 Tryz.ntmps230 rfl (rs:= [.tmp 2]) rfl rfl fun hb LF=>?_
 refine walkb fun b=>?_
 refine pwp_condD (fun h=>?_) (fun h=>?_)
 ·omega
 refine walk ?_
 exact end1 (.refl _)⟩
theorem flatMap_take_succ {α β:Type} {l:List α} {f:α→List β} {k:Nat} (h:k < l.length):(l.take (k+1)).flatMap f=(l.take k).flatMap f++f l[k]:=by
 rw[List.take_succ_eq_append_getElem h,List.flatMap_append];simp
theorem flatMap_take_len {α β:Type} {l:List α} {f:α→List β} {k:Nat}:((l.take k).flatMap f).length≤(l.flatMap f).length:=by
 conv=>rhs;rw[←List.take_append_drop k l,List.flatMap_append,List.length_append]
 omega
theorem flatMap_elem_len {α β:Type} {l:List α} {f:α→List β} {a:α} (h:a∈l):(f a).length≤(l.flatMap f).length:=by
 induction l with
 |nil=>cases h
 |cons x l ih=>
  rw[List.flatMap_cons,List.length_append]
  rcases List.mem_cons.1 h with rfl|h
  ·omega
  ·have:=ih h;omega
set_option maxHeartbeats 1000000 in
theorem encode_fn: ∀ (d:Nat) (x:Sx),wfX d x→(encX d x).length≤1000000000→Q.Fn Tryz.prog 231 [.agg (eSx x)] (.str (encX d x))
 |0,x,hw,_=>hw.elim
 |d+1,x,hw,hl=>by
  have ih: ∀ (y:Sx),[Small (wfX d y∧(encX d y).length≤1000000000)]→FnC Tryz.prog 231 [.agg (eSx y)] (.str (encX d y)):=fun y h=>⟨encode_fn d y h.out.1 h.out.2⟩
  refine fn_of Tryz.func231 Tryz.ntmps231 rfl (rs:= [.tmp 2]) rfl rfl fun hb LF=>?_
  have hlen:x.list.length≤140737488355328:=by
   have:=(hb (.agg (eSx x)) (by simp)).agg_at (c:= .slice (x.list.map eSx) .ro) (by rw[eSx_eq];simp)
   exact this.slice_map
  refine walkb fun b=>?_
  refine pwp_condB (fun h2=>?_) (fun h2=>?_)
  ·have hL:x.isList=false:=by simpa using h2
   rcases hw with ⟨_,h3,h4⟩|⟨h3,_⟩
   ·have:Small (-140737488355328≤(x.atom.length:Int)∧(x.atom.length:Int)≤140737488355328):=⟨by omega,by omega⟩
    have hd:=rDecI_len (n:=(x.atom.length:Int)) ⟨by omega,by omega⟩
    refine walk ?_
    refine end1 (.of_eq ?_)
    have e:rDecI (x.atom.length:Int)=rDec x.atom.length:=by
     rw[rDecI,if_neg (by omega)];rfl
    simp[encX,hL,e]
   ·rw[hL]at h3;cases h3
  have hL:x.isList=true:=by simpa using h2
  rcases hw with ⟨h3,_⟩|⟨_,ha,hw⟩
  ·rw[hL]at h3;cases h3
  have he:encX (d+1) x=40::(x.list.flatMap (encX d)++ [41]):=by simp[encX,hL]
  rw[he]at hl ⊢
  simp only[List.length_cons,List.length_append,List.length_nil]at hl
  refine walk ?_
  refine pwp_loopS (σ:=Nat × Str) (fun k=>k.1≤x.list.length∧k.2=40::(x.list.take k.1).flatMap (encX d)) (fun k=>x.list.length - k.1) (fun k=> [(1,.raw (.pointer (some ⟨b,0,none⟩))),(3,.str k.2),(4,.raw (.int .i64 k.1))]) (fun _=> .box b 217 (eSx x)::LF) (0,[40]) ⟨by simp,by simp⟩ ⟨rfl,rfl,rfl⟩ (.refl _) ?_
  rintro⟨k,s⟩ ⟨hk,hs⟩
  dsimp only at hk hs
  have hsl:s.length≤1+(x.list.flatMap (encX d)).length:=by
   rw[hs,List.length_cons]
   have:=flatMap_take_len (l:=x.list) (f:=encX d) (k:=k)
   omega
  refine walk ?_
  refine pwp_condD (fun hc=>?_) (fun hc=>?_)
  ·have hlt:k < x.list.length:=by omega
   have hel:(encX d x.list[k]).length≤(x.list.flatMap (encX d)).length:=flatMap_elem_len (List.getElem_mem hlt)
   have:Small (wfX d x.list[k]∧(encX d x.list[k]).length≤1000000000):=⟨hw _ (List.getElem_mem hlt),by omega⟩
   refine walk ?_
   refine⟨(k+1,s++encX d x.list[k]),⟨by dsimp only;omega,?_⟩,by dsimp only;omega,⟨rfl,rfl,rfl⟩,.refl _⟩
   dsimp only
   rw[flatMap_take_succ hlt,hs,List.cons_append]
  ·refine walk ?_
   refine end1 (.of_eq ?_)
   rw[hs,List.take_of_length_le (by omega)];rfl
instance EncodeX_ct (x:Sx) [hs:Small (okX x∧(encX 8 x).length≤1000000000)]:FnC Tryz.prog 192 [.agg (eSx x)] (.tuple [.str (encX 8 x),.raw (.int .i64 0)]):=⟨by
 obtain⟨h1,h2⟩:=hs.out
 have:Small (okX x):=⟨h1⟩
 have i2:FnC Tryz.prog 231 [.agg (eSx x)] (.str (encX 8 x)):=⟨encode_fn 8 x h1.1 h2⟩
 refine fn_of Tryz.func192 Tryz.ntmps192 rfl (rs:= [.tmp 2,.tmp 3]) rfl rfl fun hb LF=>?_
 refine walkb fun b=>?_
 refine end2 ?_
 exact .refl _⟩
end Go.Proofs
namespace Go.Q
open Go
section
variable {P:Program} {N:Nat} {all:Array Oper} {K:Env→List Res→Prop} {fl:List Bool} {os:List Oper} {ρ:Env} {L:List Res} {Q:PPost} {d:Nat} {ty:TypeId} {pos:String} {af:Array Edge}
theorem pwp_joinG {σ:Type} {c y:Code} {Q0:PPost} (F:σ→Prop) (E:σ→List (Nat × PV)) (LL:σ→List Res) (h:pwp P N c (PThen (fun ρ L=> ∃ s,F s∧Holds ρ (E s)∧(LL s).Sublist L) Q0) ρ L) (k: ∀ s,F s→pwp P N y Q (env (E s)) (LL s))
  (hQ: ∀ ρ L,pwp P N y Q ρ L→Q0 .normal ρ L:=by intro _ _ h;exact h):pwp P N c Q0 ρ L:=
 pwp_mono h fun e ρ' L' hq=>by
  cases e with
  |normal=>obtain⟨s,h1,h2,h3⟩:=hq;exact hQ _ _ (pwp_env (E s) h2 h3 (k s h1))
  |_=>exact hq
theorem s_addX {T T':TypeId} {x y:Operand} {m n:Int} (hx:ρ.ev x= .raw (.int .i64 m)) (hy:ρ.ev y= .raw (.int .i64 n)) (k:pops P N all K fl.tail os (upd ρ d (.raw (.int .i64 (IntKind.i64.wrap (m+n))))) L) (hd:Nat.blt d N=true:=by rfl):
  pops P N all K fl (⟨some d,.binOp .add T x y T',ty,pos,af,none⟩::os) ρ L:=s_int hx hy (fun w=>by simp[binOp,Op.intArith]) k hd
theorem s_addG {T T':TypeId} {x y:Operand} {m n:Int} {vx:Value} (hx:ρ.ev x= .raw vx) (hy:ρ.ev y= .raw (.int .i64 n)) (ex:vx= .int .i64 m) (k: ∀ v,v= .int .i64 (IntKind.i64.wrap (m+n))→pops P N all K fl.tail os (upd ρ d (.raw v)) L) (hd:Nat.blt d N=true:=by rfl):
  pops P N all K fl (⟨some d,.binOp .add T x y T',ty,pos,af,none⟩::os) ρ L:=s_addX (by rw[hx,ex]) hy (k _ rfl) hd
end
end Go.Q
namespace Go.Proofs
open Go Go.Q
attribute [local irreducible] pwp pops PCalls OpN
def sChg1 (c:Chg):List Sx:=if 2≤c.kind∧c.kind≤6 then [sRef c.file]else []
def sChg2 (c:Chg):List Sx:=if c.kind=1 then [sNum c.type]else if c.kind=2 then [sRef c.parent,sAtom c.name]else if c.kind=3 then [sNum c.mode]else if c.kind=4 then [sAtom c.data]else if c.kind=5∨c.kind=6 then [sRef c.after,sRef c.before]else []
def sChg3 (c:Chg):List Sx:=if c.kind=5 then [sList (c.lines.map sAtom)]else if c.kind≠1 then [sOver c.over]else []
def sChg (c:Chg):Sx:=sList (([sNum c.kind]++sChg1 c++sChg2 c)++sChg3 c)
theorem sChg1_len (c:Chg):(sChg1 c).length≤1:=by unfold sChg1;split<;>simp
theorem sChg2_len (c:Chg):(sChg2 c).length≤2:=by
 unfold sChg2
 repeat' split
 all_goals simp
set_option maxHeartbeats 2000000 in
instance changeS_ct (c:Chg) [hs:Small (c.lines.length≤100000∧c.over.length≤100000)]:FnC Tryz.prog 191 [.agg (eChg c)] (.agg (eSx (sChg c))):=⟨by
 refine fn_of Tryz.func191 Tryz.ntmps191 rfl (rs:= [.cell 2 217]) rfl rfl fun hb LF=>?_
 obtain⟨hl1,hl2⟩:=hs.out
 have i1:Small (c.over.length≤1000000):=⟨by omega⟩
 have hc1:=sChg1_len c
 have hc2:=sChg2_len c
 refine walkbn fun b=>?_
 refine s_alloc fun b2=>?_
 refine walktp fun t=>?_
 refine pops_cutE [(17,.raw (.bool (decide (2≤c.kind∧c.kind≤6)))),(1,.raw (.pointer (some ⟨b,0,none⟩))),(2,.raw (.pointer (some ⟨b2,0,none⟩))),(3,.slice ([sNum c.kind].map eSx) t)] (.tok t [sNum c.kind].length 3:: .box b2 217 (eSx Sx.zero):: .box b 119 (eChg c)::LF) ?_ ?_
 ·repeat' (first|(refine pwp_condD (fun h=>?_) (fun h=>?_)<;>refine walk ?_)|(refine pwp_condN (fun h=>?_) (fun h=>?_)<;>refine walk ?_)|(refine pwp_condB (fun h=>?_) (fun h=>?_)<;>refine walk ?_)|(refine pops_if (fun h=>?_) (fun h=>?_)<;>(have h2:=h;(try simp only[decide_eq_true_eq,decide_eq_false_iff_not,Bool.not_eq_true',Bool.not_eq_false']at h2);refine walkp ?_)))
  all_goals (refine⟨⟨holdsB (by rfl) ?_,rfl,rfl,rfl⟩,.refl _⟩;first|(simp_all;done)|(simp_all;omega)|grind)
 refine walk ?_
 refine pwp_joinG (σ:=Tag × List Sx) (fun s=>s.2= [sNum c.kind]++sChg1 c) (fun s=> [(1,.raw (.pointer (some ⟨b,0,none⟩))),(2,.raw (.pointer (some ⟨b2,0,none⟩))),(3,.slice (s.2.map eSx) s.1)]) (fun s=> .tok s.1 s.2.length 3:: .box b2 217 (eSx Sx.zero):: .box b 119 (eChg c)::LF) ?_ ?_
 ·refine pwp_condD (fun h=>?_) (fun h=>?_)
  ·refine walka fun t'=>?_
   exact⟨(t',[sNum c.kind]++ [sRef c.file]),by dsimp only;rw[sChg1,if_pos h],⟨rfl,rfl,rfl⟩,.refl _⟩
  ·refine walk ?_
   exact⟨(t,[sNum c.kind]),by dsimp only;rw[sChg1,if_neg h];rfl,⟨rfl,rfl,rfl⟩,.refl _⟩
 rintro⟨t,out⟩ ho
 dsimp only at ho
 have hol:out.length≤2:=by rw[ho,List.length_append,List.length_singleton];omega
 refine walk ?_
 refine pwp_joinG (σ:=Tag × List Sx) (fun s=>s.2= [sNum c.kind]++sChg1 c++sChg2 c) (fun s=> [(1,.raw (.pointer (some ⟨b,0,none⟩))),(2,.raw (.pointer (some ⟨b2,0,none⟩))),(3,.slice (s.2.map eSx) s.1)]) (fun s=> .tok s.1 s.2.length 3:: .box b2 217 (eSx Sx.zero):: .box b 119 (eChg c)::LF) ?_ ?_
 ·refine pwp_condD (fun h1=>?_) (fun h1=>?_)
  ·refine walka fun t'=>?_
   exact⟨(t',out++ [sNum c.type]),by dsimp only;rw[sChg2,if_pos h1,ho],⟨rfl,rfl,rfl⟩,.refl _⟩
  refine walk ?_
  refine pwp_condD (fun h2=>?_) (fun h2=>?_)
  ·refine walkn ?_
   refine pwp_drawN 8 ?_ ?_
   ·decide+kernel
   refine walkap fun t'=>?_
   exact⟨(t',out++ [sRef c.parent,sAtom c.name]),by dsimp only;rw[sChg2,if_neg h1,if_pos h2,ho],⟨rfl,rfl,rfl⟩,.refl _⟩
  refine walk ?_
  refine pwp_condD (fun h3=>?_) (fun h3=>?_)
  ·refine walka fun t'=>?_
   exact⟨(t',out++ [sNum c.mode]),by dsimp only;rw[sChg2,if_neg h1,if_neg h2,if_pos h3,ho],⟨rfl,rfl,rfl⟩,.refl _⟩
  refine walk ?_
  refine pwp_condD (fun h4=>?_) (fun h4=>?_)
  ·refine walka fun t'=>?_
   exact⟨(t',out++ [sAtom c.data]),by dsimp only;rw[sChg2,if_neg h1,if_neg h2,if_neg h3,if_pos h4,ho],⟨rfl,rfl,rfl⟩,.refl _⟩
  refine walk ?_
  refine pwp_condD (fun h5=>?_) (fun h5=>?_)
  ·refine walkn ?_
   refine pwp_cond (t:=true) (by show PV.raw (.bool (decide (c.kind=5)))=_;rw[decide_eq_true h5]) (fun _=>?_) (by simp)
   refine walkn ?_
   refine pwp_drawN 8 ?_ ?_
   ·decide+kernel
   refine walkap fun t'=>?_
   exact⟨(t',out++ [sRef c.after,sRef c.before]),by dsimp only;rw[sChg2,if_neg h1,if_neg h2,if_neg h3,if_neg h4,if_pos (.inl h5),ho],⟨rfl,rfl,rfl⟩,.refl _⟩
  refine walk ?_
  refine pwp_condD (fun h6=>?_) (fun h6=>?_)
  ·refine walkn ?_
   refine pwp_drawN 8 ?_ ?_
   ·decide+kernel
   refine walkap fun t'=>?_
   exact⟨(t',out++ [sRef c.after,sRef c.before]),by dsimp only;rw[sChg2,if_neg h1,if_neg h2,if_neg h3,if_neg h4,if_pos (.inr h6),ho],⟨rfl,rfl,rfl⟩,.refl _⟩
  ·refine walk ?_
   exact⟨(t,out),by dsimp only;rw[sChg2,if_neg h1,if_neg h2,if_neg h3,if_neg h4,if_neg (by rintro(h|h);exact h5 h;exact h6 h),List.append_nil,ho],⟨rfl,rfl,rfl⟩,.refl _⟩
 clear ho hol
 rintro⟨t,out⟩ ho
 dsimp only at ho
 have hol:out.length≤4:=by rw[ho,List.length_append,List.length_append,List.length_singleton];omega
 refine walk ?_
 refine pwp_condD (fun h5=>?_) (fun h5=>?_)
 ·refine walk ?_
  refine pwp_tok 3 ?_
  refine pwp_loopS (σ:=Nat × Tag × List Sx) (fun k=>k.1≤c.lines.length∧k.2.2=(c.lines.take k.1).map sAtom) (fun k=>c.lines.length - k.1) (fun k=> [(1,.raw (.pointer (some ⟨b,0,none⟩))),(2,.raw (.pointer (some ⟨b2,0,none⟩))),(3,.slice (out.map eSx) t),(4,.slice (k.2.2.map eSx) k.2.1),(5,.raw (.int .i64 k.1))]) (fun k=> .tok k.2.1 k.2.2.length 3:: .tok t out.length 3:: .box b2 217 (eSx Sx.zero):: .box b 119 (eChg c)::LF) (0,.nil,[]) ⟨by simp,by simp⟩ ⟨rfl,rfl,rfl,rfl,rfl⟩ (.refl _) ?_
  rintro⟨k,v,l⟩ ⟨hk,he⟩
  dsimp only at hk he
  have hll:l.length=k:=by rw[he];simp;omega
  refine walk ?_
  refine pwp_condD (fun hc=>?_) (fun hc=>?_)
  ·have hlt:k < c.lines.length:=by omega
   refine walka fun v'=>?_
   refine⟨(k+1,v',l++ [sAtom c.lines[k]]),⟨by dsimp only;omega,?_⟩,by dsimp only;omega,⟨rfl,rfl,rfl,rfl,rfl⟩,.refl _⟩
   dsimp only
   rw[List.take_succ_eq_append_getElem hlt,List.map_append,he];rfl
  ·refine walka fun v'=>?_
   refine endC rfl (.of_eq ?_)
   rw[List.take_of_length_le (by omega)]at he
   rw[sChg,sChg3,if_pos h5,←he,ho]
 ·refine walk ?_
  refine pwp_condN (fun h6=>?_) (fun h6=>?_)
  ·refine walka fun v'=>?_
   refine endC rfl (.of_eq ?_)
   rw[sChg,sChg3,if_neg h5,if_pos h6,ho]
  ·refine walk ?_
   refine endC rfl (.of_eq ?_)
   rw[sChg,sChg3,if_neg h5,if_neg (by simp[h6]),List.append_nil,ho]⟩
def sPat (p:Pat):Sx:=sList [sAtom [113,117,105,108,116,49],sAtom p.author,sAtom p.message,sNum p.time,sList (p.deps.map sDig),sList (p.changes.map sChg)]
def rEnc (p:Pat):Str:=encX 8 (sPat p)
structure encOk (p:Pat):Prop where
 deps:p.deps.length≤100000
 chgs:p.changes.length≤100000
 chg: ∀ c∈p.changes,c.lines.length≤100000∧c.over.length≤100000
 ok:okX (sPat p)
 len:(rEnc p).length≤1000000000
def rEncode (p:Pat):Str × Int:=if 65536 < ((rEnc p).length:Int)then([],4)else(rEnc p,0)
set_option maxHeartbeats 1000000 in
instance encodeP_ct (p:Pat) [hs:Small (encOk p)]:FnC Tryz.prog 156 [.agg (ePat p)] (.tuple [.str (rEncode p).1,.raw (.int .i64 (rEncode p).2)]):=⟨by
 refine fn_of Tryz.func156 Tryz.ntmps156 rfl (rs:= [.tmp 2,.tmp 3]) rfl rfl fun hb LF=>?_
 have hd:=hs.out.deps
 have hch:=hs.out.chgs
 refine walkb fun b=>?_
 refine pwp_tok 3 ?_
 refine pwp_tok 3 ?_
 refine pwp_loopS (σ:=Nat × Tag × List Sx) (fun k=>k.1≤p.deps.length∧k.2.2=(p.deps.take k.1).map sDig) (fun k=>p.deps.length - k.1) (fun k=> [(1,.raw (.pointer (some ⟨b,0,none⟩))),(4,.slice (k.2.2.map eSx) k.2.1),(5,.slice [] .nil),(6,.raw (.int .i64 k.1))]) (fun k=> .tok k.2.1 k.2.2.length 3:: .tok .nil 0 3:: .box b 57 (ePat p)::LF) (0,.nil,[]) ⟨by simp,by simp⟩ ⟨rfl,rfl,rfl,rfl⟩ (.refl _) ?_
 rintro⟨k,v,l⟩ ⟨hk,he⟩
 dsimp only at hk he
 have hll:l.length=k:=by rw[he];simp;omega
 refine walk ?_
 refine pwp_condD (fun hc=>?_) (fun hc=>?_)
 ·have hlt:k < p.deps.length:=by omega
  refine walka fun v'=>?_
  refine⟨(k+1,v',l++ [sDig p.deps[k]]),⟨by dsimp only;omega,?_⟩,by dsimp only;omega,⟨rfl,rfl,rfl,rfl⟩,.refl _⟩
  dsimp only
  rw[List.take_succ_eq_append_getElem hlt,List.map_append,he];rfl
 rw[List.take_of_length_le (by omega)]at he
 clear hll
 refine walk ?_
 refine pwp_loopS (σ:=Nat × Tag × List Sx) (fun k=>k.1≤p.changes.length∧k.2.2=(p.changes.take k.1).map sChg) (fun k=>p.changes.length - k.1) (fun k=> [(1,.raw (.pointer (some ⟨b,0,none⟩))),(4,.slice (l.map eSx) v),(5,.slice (k.2.2.map eSx) k.2.1),(7,.raw (.int .i64 k.1))]) (fun k=> .tok k.2.1 k.2.2.length 3:: .box b 57 (ePat p)::LF) (0,.nil,[]) ⟨by simp,by simp⟩ ⟨rfl,rfl,rfl,rfl⟩ (.cons _ (.refl _)) ?_
 rintro⟨k,v,m⟩ ⟨hk,hm⟩
 dsimp only at hk hm
 have hml:m.length=k:=by rw[hm];simp;omega
 refine walk ?_
 refine pwp_condD (fun hc=>?_) (fun hc=>?_)
 ·have hlt:k < p.changes.length:=by omega
  have:Small (p.changes[k].lines.length≤100000∧p.changes[k].over.length≤100000):=⟨hs.out.chg _ (List.getElem_mem hlt)⟩
  refine walka fun v'=>?_
  refine⟨(k+1,v',m++ [sChg p.changes[k]]),⟨by dsimp only;omega,?_⟩,by dsimp only;omega,⟨rfl,rfl,rfl,rfl⟩,.refl _⟩
  dsimp only
  rw[List.take_succ_eq_append_getElem hlt,List.map_append,hm];rfl
 rw[List.take_of_length_le (by omega)]at hm
 have e:sPat p=sList [sAtom [113,117,105,108,116,49],sAtom p.author,sAtom p.message,sNum p.time,sList l,sList m]:=by rw[sPat,←he,←hm]
 have i1:Small (okX (sList [sAtom [113,117,105,108,116,49],sAtom p.author,sAtom p.message,sNum p.time,sList l,sList m])∧(encX 8 (sList [sAtom [113,117,105,108,116,49],sAtom p.author,sAtom p.message,sNum p.time,sList l,sList m])).length≤1000000000):=by
  rw[←e];exact⟨hs.out.ok,hs.out.len⟩
 refine walk ?_
 refine pwp_condD (fun h=>?_) (fun h=>?_)
 ·refine walk ?_
  refine end2 ?_
  rw[←e]at h
  have h':65536 < ((rEnc p).length:Int):=h
  rw[rEncode,if_pos h']
  exact .refl _
 ·refine walk ?_
  refine end2 ?_
  rw[←e]at h
  have h': ¬65536 < ((rEnc p).length:Int):=h
  rw[rEncode,if_neg h',rEnc,e]
  exact .refl _⟩
end Go.Proofs
namespace Go.Q
open Go
section
variable {P:Program} {N:Nat} {Q:PPost} {all:Array Oper} {K:Env→List Res→Prop}
def listedAt (listed:Array Bool) (k:Nat):Nat→Array Bool
 |0=>listed
 |n+1=>listedAt (listed.setIfInBounds k true) (k+1) n
def lexPre (all:Array Oper) (bar:Nat→Bool):Nat→Nat→Array Bool→Bool
 |0,_,_=>true
 |fuel+1,k,listed=>!bar k&&(Region.ready .any all listed).contains k&&Region.free .any all listed k&&lexPre all bar fuel (k+1) (listed.setIfInBounds k true)
theorem pAny_pre {bar:Nat→Bool} {m:Nat} (hsk: ∀ j oj,all[j]? =some oj→bar j=true→sink all j=true): ∀ (l:List Oper) (k:Nat) (listed:Array Bool) (ρ:Env) (L:List Res),(∀ j,j < l.length→l[j]? =all[k+j]?)→Closed all listed→(∀ j,j < k→listed.getD j true=true)→
  lexPre all bar l.length k listed=true→pops P N all (fun ρ L=>pAny P N all bar K m (listedAt listed k l.length) ρ L) (List.replicate l.length false) l ρ L→pAny P N all bar K (l.length+m) listed ρ L
 | [],_,_,_,_,_,_,_,_,h=>by simpa [listedAt,pops]using h
 |o::l,k,listed,ρ,L,hl,hc,hlow,hB,h=>by
  have h0:all[k]? =some o:=by simpa using (hl 0 (by simp)).symm
  have hl': ∀ j,j < l.length→l[j]? =all[k+1+j]?:=fun j hj=>by have:=hl (j+1) (by simpa using hj);simpa [Nat.add_assoc,Nat.add_comm 1 j]using this
  simp only[List.length_cons,lexPre,Bool.and_eq_true,Bool.not_eq_true']at hB
  obtain⟨⟨⟨hb,hr⟩,hfr⟩,hB'⟩:=hB
  have hready:k∈Region.ready .any all listed:=by simpa using hr
  have hc':=hc.set hready
  have hlow': ∀ j,j < k+1→(listed.setIfInBounds k true).getD j true=true:=fun j hj=>by
   by_cases hjk:k=j
   ·subst hjk
    have hks:k < listed.size:=by rw[hc.size];exact(Array.getElem?_eq_some_iff.1 h0).1
    simp[hks]
   ·rw[getD_set_ne true hjk];exact hlow j (by omega)
  obtain⟨hd,h⟩:=h
  have: ∃ x,YQ P all o ρ L x∧pops P N all (fun ρ L=>pAny P N all bar K m (listedAt (listed.setIfInBounds k true) (k+1) l.length) ρ L) (List.replicate l.length false) l (updo ρ o.dst x) L:=by
   rcases h with ⟨hno,h⟩|⟨hyes,h⟩
   ·exact⟨_,.inl ⟨hno,rfl⟩,h⟩
   ·rcases h with ⟨x,hq,h⟩|⟨hf,_⟩
    ·exact⟨x,.inr ⟨hyes,hq⟩,h⟩
    ·cases hf
  obtain⟨x,hy,hp⟩:=this
  have rec':=pAny_pre hsk l (k+1) _ _ L hl' hc' hlow' hB' hp
  have:=pAny_first (P:=P) (N:=N) (K:=K) (bar:=bar) h0 hd (fun j oj hoj _ hbj _=>hsk j oj hoj hbj) (l.length+m) listed ρ L hc hlow (Region.free_spec h0 hfr) hready hy rec'
  rwa [show(o::l).length+m=l.length+m+1 by simp;omega]
theorem pAny_next {bar:Nat→Bool} {fuel:Nat} {listed:Array Bool} {ρ:Env} {L:List Res} (is:List Nat) (hr:Region.ready .any all listed=is) (hne:is≠ [])
  (h: ∀ i∈is,∃ o,all[i]? =some o∧pops P N all (fun ρ L=>pAny P N all bar K fuel (listed.setIfInBounds i true) ρ L) [bar i] [o] ρ L):pAny P N all bar K (fuel+1) listed ρ L:=by
 refine⟨fun h0=>absurd (hr.symm.trans h0) hne,fun i hi=>?_⟩
 rw[hr]at hi
 obtain⟨o,h0,hd,h⟩:=h i hi
 unfold pOp
 simp only[h0]
 refine⟨hd,?_⟩
 rcases h with ⟨hno,h⟩|⟨hyes,h⟩
 ·exact .inl ⟨_,.inl ⟨hno,rfl⟩,h⟩
 ·rcases h with ⟨x,hq,h⟩|⟨hf,h⟩
  ·exact .inl ⟨x,.inr ⟨hyes,hq⟩,h⟩
  ·exact .inr ⟨hf,hyes,h⟩
theorem pAny_end {bar:Nat→Bool} {listed:Array Bool} {ρ:Env} {L:List Res} (hr:Region.ready .any all listed= []) (h:K ρ L):pAny P N all bar K 0 listed ρ L:=⟨hr,h⟩
theorem pwp_drawP {id:Nat} {l:List Oper} {ρ:Env} {L:List Res} (n:Nat) (bs:List Nat) [hm:TMix P]
  (hB:(guardsIn l.toArray N&&lexPre l.toArray (fun k=>bs.contains k) n 0 (Array.replicate l.length false)&&bs.all (fun j=>sink l.toArray j)&&decide (n≤l.length))=true)
  (h:pops P N l.toArray (fun ρ L=>pAny P N l.toArray (fun k=>bs.contains k) (Q .normal) (l.length - n) (listedAt (Array.replicate l.length false) 0 n) ρ L) (List.replicate n false) (l.take n) ρ L):pwp P N (.region id l.toArray true) Q ρ L:=fun ro base a w g hst=>by
 simp only[Bool.and_eq_true,decide_eq_true_eq]at hB
 obtain⟨⟨⟨hG,hB⟩,hS⟩,hn⟩:=hB
 refine wpIn_region_any hm.out ?_
 have hi:=hst.inv
 have hst0:Step (blocks L) w g { w with drawn:=w.drawn+1 } g:=⟨rfl,rfl,⟨rfl,Nat.le_succ _⟩,Nat.le_refl _,fun _ _ _=>rfl,.refl g,fun _ _ _=>⟨fun _=>rfl,rfl⟩⟩
 have hi':Inv { w with drawn:=w.drawn+1 } g L:=⟨hi.sat,fun b z hz=>(hi.satM b z hz).congr rfl,fun r hr=>by have:=hi.res r hr;cases r<;>first|exact this|(rename_i t _ _;cases t<;>exact this),hi.nodup,hi.glob⟩
 have hln:(l.take n).length=n:=by rw[List.length_take];omega
 have:=pAny_pre (P:=P) (N:=N) (all:=l.toArray) (K:=Q .normal) (bar:=fun k=>bs.contains k) (m:=l.length - n) (fun j oj _ hb=>List.all_eq_true.1 hS j (by simpa using hb)) (l.take n) 0 (Array.replicate l.length false) ρ L
  (fun j hj=>by rw[hln]at hj;simp[hj])
  ⟨by simp,fun j oj _ hl=>by
   have:(Array.replicate l.length false).getD j false=false:=by
    rcases Nat.lt_or_ge j l.length with h|h<;>simp[h]
   rw[this]at hl;cases hl⟩ (fun j hj=>absurd hj (Nat.not_lt_zero _)) (by rw[hln];exact hB) (by rw[hln];exact h)
 rw[hln,show n+(l.length - n)=l.length by omega]at this
 have k:=wpAny_of_pAny (ro:=ro) (base:=base) (Q:=Q) (w₀:=w) (g₀:=g) (L₀:=L) (fun _ _ h=>h) hG _ _ ρ L a _ g hst.agr hi' hst0 (.refl _ _) this
 simpa using k
end
end Go.Q
namespace Go.Q
open Go
theorem Step.grow {B B':List Nat} {w w':World} {g g':Gh} (hb: ∀ b,b∈B'→b∈B) (h:Step B' w g w' g'):Step B w g w' g':=
 ⟨h.os,h.tape,h.output,h.size,fun k hk hn=>h.keep k hk (fun x=>hn (hb k x)),h.le,fun k hk hn=>h.new k hk (fun x=>hn (hb k x))⟩
theorem blocks_perm {L L':List Res} (h:L.Perm L'):(blocks L).Perm (blocks L'):=h.filterMap _
instance {f:Nat}:Norm (.raw (.func (.func f) #[] #[])) (.clo f []):=⟨fun g v h=>by cases h;exact .clo _ rfl (by simp)⟩
theorem flat_clo {f:Nat} {vs cs:List PV} (h:flat cs):flat (.clo f vs::cs):=fun x hx=>by
 rcases List.mem_cons.1 hx with rfl|h'
 ·exact⟨by simp,by simp,by simp,by simp⟩
 ·exact h x h'
instance {cs vs:List PV} {f:Nat} [h:Flat cs]:Flat (.clo f vs::cs):=⟨flat_clo h.out⟩
instance {f:Nat} {vs:List PV}:CellsC (.clo f vs) [.clo f vs]:=⟨.one (Flat.out)⟩
section
variable {P:Program} {N:Nat} {all:Array Oper} {K:Env→List Res→Prop} {fl:List Bool} {os:List Oper} {ρ:Env} {L:List Res} {Q:PPost} {c:Code} {d:Nat} {ty:TypeId} {pos:String} {af:Array Edge}
theorem OpN.conv {o:Oper} {L':List Res} {Ψ:PV→List Res→Prop} (hg: ∀ w g,Inv w g L→ ∃ g',Inv w g' L'∧Step (blocks L) w g w g'∧Within w L L') (h:OpN P o ρ L' Ψ):OpN P o ρ L Ψ:=fun a w g ha hi=>by
 obtain⟨g',h1,h2,h3⟩:=hg w g hi
 exact(h a w g' (fun x hx=>(ha x hx).mono h2.le) h1).mono fun a' w' ⟨v,x,g'',L'',k1,k2,k3,k4,k5,k6⟩=>⟨v,x,g'',L'',k1,k2,k3,h2.trans h3 k4,h3.trans h2.size k5,k6⟩
theorem OpN.perm {o:Oper} {L':List Res} {Ψ:PV→List Res→Prop} (hp:L.Perm L') (h:OpN P o ρ L' Ψ):OpN P o ρ L Ψ:=
 h.conv fun w g hi=>⟨g,hi.perm hp,.refl _ _ _,fun b hb _=>(blocks_perm hp).symm.subset hb⟩
theorem pops_perm {o:Oper} {L':List Res} (hp:L.Perm L') (hf:fl.headD true=true) (h:pops P N all K fl (o::os) ρ L') (hno: ¬GNo all o ρ):pops P N all K fl (o::os) ρ L:=by
 obtain⟨hd,h⟩:=h
 rcases h with ⟨hn,_⟩|⟨hy,h⟩
 ·exact absurd hn hno
 ·refine⟨hd,.inr ⟨hy,.inr ⟨hf,?_⟩⟩⟩
  rcases h with ⟨x,hq,h⟩|⟨_,h⟩
  ·exact(OpN.mono hq fun x' L'' ⟨e1,e2⟩=>by subst e1;subst e2;exact h).perm hp
  ·exact h.perm hp
theorem Inv.freeze {w:World} {g:Gh} {L':List Res} {b T:Nat} {cs:List PV} (hi:Inv w g L) (hp:L.Perm (.box b T cs::L')):
  ∃ g',Inv w g' L'∧Step (blocks L) w g w g'∧Within w L L'∧VR g' (.pointer (some ⟨b,0,none⟩)) (.pt cs 0):=by
 have hi2:=hi.perm hp
 obtain⟨vs,h1,h2,h3,h4⟩:=hi2.res _ (List.mem_cons_self)
 have hle:=Gh.le_lay (g:=g) (b:=b) (from_:=0) (us:=vs) (fun o _=>h3 o)
 have hbl:b∈blocks L:=(blocks_perm hp).symm.subset (by simp[blocks,Res.block])
 have hnb: ∀ r∈L',r.block≠some b:=fun r hr e=>by
  have hnd:=hi2.nodup
  simp only[blocks,List.filterMap_cons,Res.block]at hnd
  exact(List.nodup_cons.1 hnd).1 (List.mem_filterMap.2 ⟨r,hr,e⟩)
 refine⟨g.lay b 0 vs,⟨fun b' o v hv=>?_,fun b' z hz=>hi.satM b' z hz,fun r hr=>?_,?_,hi.glob.mono hle⟩,⟨rfl,rfl,⟨rfl,Nat.le_refl _⟩,Nat.le_refl _,fun _ _ _=>rfl,hle,fun k _ hn=>⟨fun o=>Gh.lay_out (fun h=>hn (h.1 ▸ hbl)),rfl⟩⟩,fun b' hb' _=>(blocks_perm hp).symm.subset ?_,?_⟩
 ·by_cases hin:b'=b∧0≤o∧o < 0+vs.length
  ·obtain⟨rfl,_,h6⟩:=hin
   have hj:o < vs.length:=by omega
   have:=Gh.lay_in (g:=g) (b:=b') (from_:=0) hj
   rw[Nat.zero_add,hv]at this
   cases this
   exact cell_of_box h1 o hj
  ·rw[Gh.lay_out hin]at hv;exact hi.sat b' o v hv
 ·refine Res.holds_kept hle (hi2.res r (List.mem_cons_of_mem _ hr)) fun b' hb'=>⟨rfl,fun o=>Gh.lay_out (fun h=>hnb r hr (h.1 ▸ hb')),rfl⟩
 ·have hnd:=hi2.nodup
  simp only[blocks,List.filterMap_cons,Res.block]at hnd
  exact(List.nodup_cons.1 hnd).2
 ·simp only[blocks,List.filterMap_cons,Res.block];exact List.mem_cons_of_mem _ hb'
 ·refine VR.pt (g:=g.lay b 0 vs) (b:=b) (o:=0) (off:=0) (cs:=cs) (fun j=>(vs[j]?).getD undef) (fun j hj=>?_) (fun j hj=>?_)
  ·have hj':j < vs.length:=by rw[h2.len];exact hj
   rw[Gh.lay_in hj'];simp[hj']
  ·have hj':j < vs.length:=by rw[h2.len];exact hj
   have:=(h2.mono hle).at_ j hj' hj
   simpa [hj']using this
@[reducible] def HoldsR (R:PV→PV→Prop) (ρ:Env):List (Nat × PV)→Prop
 | []=>True
 | [(i,v)]=>R (ρ i) v
 |(i,v)::p::E=>R (ρ i) v∧HoldsR R ρ (p::E)
theorem env_leR {R:PV→PV→Prop} {ρ:Env}: ∀ {E:List (Nat × PV)},HoldsR R ρ E→ ∀ i,R (ρ i) (env E i)∨env E i= .junk
 | [],_,i=> .inr rfl
 | [(j,v)],h,i=>by
   by_cases e:i=j
   ·subst e;left;show R _ (upd _ _ _ _);rw[upd_self];exact h
   ·right;show upd _ _ _ _=_;rw[upd_ne _ _ e]
 |(j,v)::(p::E),h,i=>by
  by_cases e:i=j
  ·subst e;left;show R _ (upd _ _ _ _);rw[upd_self];exact h.1
  ·show R _ (upd _ _ _ _)∨upd _ _ _ _=_;rw[upd_ne _ _ e];exact env_leR h.2 i
theorem opN_boxC {T:TypeId} {x:Operand} {cs:List PV} {dst:Option Nat} {gd:Option (Nat × Bool)} (hx:Cells (ρ.ev x) cs) {Ψ:PV→List Res→Prop} (k: ∀ b,Ψ (.raw (.pointer (some ⟨b,0,none⟩))) (.box b T cs::L)):OpN P ⟨dst,.box T x,ty,pos,af,gd⟩ ρ L Ψ:=fun a w g ha hi=>by
 have h1:=ha x (by simp[Op.operands])
 obtain⟨vs,h2,h3⟩:=hx g _ h1
 obtain⟨i1,i2,i3⟩:=hi.alloc h3 T
 have hr:(execOp a.eval ⟨dst,.box T x,ty,pos,af,gd⟩).run P w= .ok (.value (.pointer (some ⟨w.heap.size,0,none⟩))) { w with heap:=w.heap.push (.cells vs.toArray T (0,0)) }:=by
  simp[execOp,Instr.box,newVar,newRow,h2]
 refine Oper.wq_of_run hr ?_
 exact⟨_,_,g,_,rfl,.raw _,i1,i2,i3,k _⟩
theorem s_boxF {T:TypeId} {x:Operand} {ax:PV} {cs:List PV} (hx:ρ.ev x=ax) [hC:CellsC ax cs] (k:pops P N all K fl.tail os (upd ρ d (.pt cs 0)) L) (hd:Nat.blt d N=true:=by rfl):
  pops P N all K fl (⟨some d,.box T x,ty,pos,af,none⟩::os) ρ L:=
 step_q hd (fun a w g ha hi=>by
  have h:=opN_boxC (P:=P) (T:=T) (dst:=some d) (gd:=none) (ty:=ty) (pos:=pos) (af:=af) (L:=L) (Ψ:=fun x L'=> ∃ b,x= .raw (.pointer (some ⟨b,0,none⟩))∧L'= .box b T cs::L) (hx ▸ hC.out) (fun b=>⟨b,rfl,rfl⟩) a w g ha hi
  refine h.mono ?_
  rintro a' w' ⟨v,x,g',L',rfl,hv,hi',hs,hw,b,rfl,rfl⟩
  obtain⟨g'',k1,k2,k3,k4⟩:=hi'.freeze (.refl _)
  refine⟨v,_,g'',L,rfl,?_,k1,hs.trans hw k2,hw.trans hs.size k3,rfl,rfl⟩
  rw[hv.raw_inv];exact k4) k
theorem pwp_freezeP (i:Nat) {b T:Nat} {cs:List PV} {L':List Res} (hp:L.Perm (.box b T cs::L')) (hi:ρ i= .raw (.pointer (some ⟨b,0,none⟩))) (k:pwp P N c Q (upd ρ i (.pt cs 0)) L'):pwp P N c Q ρ L:=
 pwp_ghost (fun base a w g ha hI=>by
  obtain⟨g',h1,h2,h3,h4⟩:=hI.freeze hp
  refine⟨g',⟨ha.size,ha.defers.mono h2.le,fun j=>?_⟩,h1,h2,h3⟩
  have hj:=(ha.slot j).mono h2.le
  by_cases e:j=i
  ·subst e
   rw[hi]at hj
   show VR g' _ (upd ρ j _ j)
   rw[upd_self,hj.raw_inv];exact h4
  ·show VR g' _ (upd ρ i _ j)
   rw[upd_ne _ _ e];exact hj) k
theorem pwp_freezeD (i:Nat) {b T:Nat} {cs:List PV} (k:pwp P N c Q (upd ρ i (.pt cs 0)) L) (hi:ρ i= .raw (.pointer (some ⟨b,0,none⟩)):=by rfl):pwp P N c Q ρ (.box b T cs::L):=pwp_freezeP i (.refl _) hi k
theorem q_makeFunc {f:Nat} {xs:List Operand} {dst:Option Nat} {gd:Option (Nat × Bool)} {cs:List PV} (hx:xs.map ρ.ev=cs):QOp P ⟨dst,.makeFunc (.func f) #[] xs.toArray,ty,pos,af,gd⟩ ρ L (.clo f cs):=qop_of_run fun a w g ha hi=>by
 refine⟨.func (.func f) #[] (xs.map a.eval).toArray,by simp[execOp,Instr.makeFunc],VRl.clo f ?_⟩
 subst hx
 refine⟨by simp,fun i h1 h2=>?_⟩
 simp only[List.getElem_map]
 exact ha _ (by simp[Op.operands])
theorem s_clo1 {f:Nat} {x0:Operand} {a0:PV} (q0:ρ.ev x0=a0) (k:pops P N all K fl.tail os (upd ρ d (.clo f [a0])) L) (hd:Nat.blt d N=true:=by rfl):pops P N all K fl (⟨some d,.makeFunc (.func f) #[] #[x0],ty,pos,af,none⟩::os) ρ L:=
 step_q hd (q_makeFunc (xs:= [x0]) (by simp[q0])) k
theorem s_clo2 {f:Nat} {x0 x1:Operand} {a0 a1:PV} (q0:ρ.ev x0=a0) (q1:ρ.ev x1=a1) (k:pops P N all K fl.tail os (upd ρ d (.clo f [a0,a1])) L) (hd:Nat.blt d N=true:=by rfl):pops P N all K fl (⟨some d,.makeFunc (.func f) #[] #[x0,x1],ty,pos,af,none⟩::os) ρ L:=
 step_q hd (q_makeFunc (xs:= [x0,x1]) (by simp[q0,q1])) k
theorem s_clo3 {f:Nat} {x0 x1 x2:Operand} {a0 a1 a2:PV} (q0:ρ.ev x0=a0) (q1:ρ.ev x1=a1) (q2:ρ.ev x2=a2) (k:pops P N all K fl.tail os (upd ρ d (.clo f [a0,a1,a2])) L) (hd:Nat.blt d N=true:=by rfl):pops P N all K fl (⟨some d,.makeFunc (.func f) #[] #[x0,x1,x2],ty,pos,af,none⟩::os) ρ L:=
 step_q hd (q_makeFunc (xs:= [x0,x1,x2]) (by simp[q0,q1,q2])) k
theorem ofValue_fn (f:Nat) (cs:Array Value) (args:Array Value) (w:World):(Deferred.ofValue (.func (.func f) #[] cs) args).run P w= .ok { target:= .fn (.func f) cs,args:=args } w:=by
 simp[Deferred.ofValue]
theorem execCall {dst:Option Nat} {x:Operand} {xs:List Operand} {ats:Array TypeId} {gd:Option (Nat × Bool)} {f:Nat} {cs:List Value} {ev:Operand→Value} {w:World} (hent: ∀ vs w,(callFunc f vs).run P w= .ok (.enter f vs) w) (hx:ev x= .func (.func f) #[] cs.toArray):
  (execOp ev ⟨dst,.call { callee:= .value x,args:=xs.toArray,argTypes:=ats },ty,pos,af,gd⟩).run P w= .ok (.enter f (xs.map ev++cs).toArray) w:=by
 simp only[execOp,resolve,hx,Sem.run_bind,ofValue_fn,Result.andThen_ok,invoke,hent]
 simp
theorem opN_callC {dst:Option Nat} {x:Operand} {xs:List Operand} {ats:Array TypeId} {gd:Option (Nat × Bool)} {f:Nat} {cs:List PV} {L₁ LF:List Res} {Ψ:PV→List Res→Prop} {args:List PV} [hf:TFun P f]
  (hx:Le (ρ.ev x) (.clo f cs)) (hargs:xs.map ρ.ev++cs=args) (hp:L.Perm (L₁++LF)) (hc:PCalls P f args L₁ (fun r L'=>Ψ r (L'++LF))):
  OpN P ⟨dst,.call { callee:= .value x,args:=xs.toArray,argTypes:=ats },ty,pos,af,gd⟩ ρ L Ψ:=by
 refine OpN.perm hp fun a w g ha hi=>?_
 obtain⟨vs,h1,h2⟩:=(hx g _ (ha x (by simp[Op.operands,Call.operands]))).clo_inv
 have hvs:VRl g (xs.map a.eval++vs) args:=by
  subst hargs
  refine VRl.append ⟨by simp,fun i h1 h2=>?_⟩ h2
  simp only[List.getElem_map]
  exact ha _ (by simp[Op.operands,Call.operands])
 refine Oper.wq_of_run (execCall hf.out h1) ?_
 refine(hc _ w g LF hvs hi).mono ?_
 rintro e w' ⟨v,x,g',L',rfl,h2,h3,h4,h5,h6⟩
 exact⟨v,x,g',L'++LF,rfl,h2,h3,h4,h5,h6⟩
theorem PCalls.args {f:FuncId} {ys bs:List PV} {L₁:List Res} {R:PV→List Res→Prop} (hl:ys.length=bs.length) (h: ∀ i (h1:i < ys.length) (h2:i < bs.length),Le ys[i] bs[i]) (hc:PCalls P f bs L₁ R):PCalls P f ys L₁ R:=
 fun vs w g LF hv hi=>hc vs w g LF ⟨hv.len.trans hl,fun i h1 h2=>h i (by omega) h2 g _ (hv.at_ i h1 (by omega))⟩ hi
theorem s_callR {x:Operand} {xs:List Operand} {xa:Array Operand} {ats:Array TypeId} {f:Nat} {cs args:List PV} (L₁ LF:List Res) [hf:TFun P f]
  (hx:Le (ρ.ev x) (.clo f cs)) (hxa:xa=xs.toArray) (hargs:xs.map ρ.ev++cs=args) (hp:L.Perm (L₁++LF)) (R:PV→List Res→Prop) (hc:PCalls P f args L₁ R) (k: ∀ r L',R r L'→pops P N all K fl.tail os (upd ρ d r) (L'++LF)) (hd:Nat.blt d N=true:=by rfl) (hfl:fl.headD true=true:=by rfl):
  pops P N all K fl (⟨some d,.call { callee:= .value x,args:=xa,argTypes:=ats },ty,pos,af,none⟩::os) ρ L:=by
 subst hxa
 exact pops_n rfl (dlt hd) hfl (opN_callC hx hargs hp (hc.mono fun r L' h=>k r L' h))
theorem s_callV {x:Operand} {xs:List Operand} {xa:Array Operand} {ats:Array TypeId} {f:Nat} {cs args:List PV} {X:PV} [hf:TFun P f]
  (hx:Le (ρ.ev x) (.clo f cs)) (hxa:xa=xs.toArray) (hargs:xs.map ρ.ev++cs=args) (hc:Fn P f args X) (k:pops P N all K fl.tail os (upd ρ d X) L) (hd:Nat.blt d N=true:=by rfl):
  pops P N all K fl (⟨some d,.call { callee:= .value x,args:=xa,argTypes:=ats },ty,pos,af,none⟩::os) ρ L:=by
 subst hxa
 exact step_q hd (opN_callC hx hargs (.refl _) (L₁:= []) (hc.mono fun r L' ⟨e1,e2⟩=>by subst e1;subst e2;exact⟨rfl,rfl⟩)) k
end
end Go.Q
namespace Go.Q
open Go
theorem Step.comp {B B₁:List Nat} {w w₁ w₂:World} {g g₁ g₂:Gh} (h:Step B w g w₁ g₁) (k:Step B₁ w₁ g₁ w₂ g₂) (hB: ∀ b∈B₁,b < w.heap.size→b∈B):Step B w g w₂ g₂:=
 ⟨k.os.trans h.os,k.tape.trans h.tape,⟨k.output.1.trans h.output.1,Nat.le_trans h.output.2 k.output.2⟩,Nat.le_trans h.size k.size,
  fun b hb hn=>by rw[k.keep b (Nat.lt_of_lt_of_le hb h.size) (fun hm=>hn (hB b hm hb)),h.keep b hb hn],h.le.trans k.le,
  fun b hb hn=>by
   obtain⟨a1,a2⟩:=k.new b (Nat.lt_of_lt_of_le hb h.size) (fun hm=>hn (hB b hm hb))
   obtain⟨b1,b2⟩:=h.new b hb hn
   exact⟨fun o=>by rw[a1,b1],by rw[a2,b2]⟩⟩
theorem Step.put {B:List Nat} {w:World} {g:Gh} {l:Nat} (o:Obj) (hl:l∈B):Step B w g (w.putObj l o) g:=
 ⟨rfl,rfl,⟨rfl,Nat.le_refl _⟩,Nat.le_of_eq (by simp[World.putObj]),fun k _ hn=>World.putObj_heap_other (fun e=>hn (e ▸ hl)),.refl g,fun _ _ _=>⟨fun _=>rfl,rfl⟩⟩
theorem Inv.put {w:World} {g:Gh} {L:List Res} {l:Nat} (o:Obj) (hi:Inv w g L) (hH: ∀ o,g.H l o=none) (hM:g.M l=none) (hl:l∉blocks L):Inv (w.putObj l o) g L:=by
 have hk: ∀ k,k≠l→(w.putObj l o).heap[k]? =w.heap[k]?:=fun k hk=>World.putObj_heap_other hk
 refine⟨fun b i v h=>?_,fun b z h=>?_,fun r hr=>?_,hi.nodup,hi.glob⟩
 ·have:b≠l:=fun e=>by subst e;rw[hH]at h;cases h
  have h0:=hi.sat b i v h
  simp only[World.cell?]at h0 ⊢
  rw[hk b this];exact h0
 ·have:b≠l:=fun e=>by subst e;rw[hM]at h;cases h
  exact(hi.satM b z h).congr (hk b this)
 ·exact Res.holds_kept (.refl g) (hi.res r hr) fun b hb=>⟨hk b (fun e=>hl (List.mem_filterMap.2 ⟨r,hr,by rw[hb,e]⟩)),fun _=>rfl,rfl⟩
theorem Inv.putRaw {w:World} {g:Gh} {L:List Res} {l:Nat} {o:Obj} (o':Obj) (hi:Inv w g (.raw l o::L)):Inv (w.putObj l o') g (.raw l o'::L):=by
 obtain⟨h1,h2,h3⟩:=hi.res _ (List.mem_cons_self)
 have hnd:=hi.nodup
 simp only[blocks,List.filterMap_cons,Res.block]at hnd
 have hn:=(List.nodup_cons.1 hnd).1
 have k:=(hi.sub (List.sublist_cons_self _ _)).put o' h2 h3 hn
 refine⟨k.sat,k.satM,fun r hr=>?_,hi.nodup,hi.glob⟩
 rcases List.mem_cons.1 hr with rfl|hr
 ·exact⟨World.putObj_heap_same (Array.getElem?_eq_some_iff.1 h1).1,h2,h3⟩
 ·exact k.res r hr
theorem Inv.addRaw {w:World} {g:Gh} {L:List Res} {l:Nat} {o:Obj} (hi:Inv w g L) (h1:w.heap[l]? =some o) (h2: ∀ o,g.H l o=none) (h3:g.M l=none) (hl:l∉blocks L):Inv w g (.raw l o::L):=
 ⟨hi.sat,hi.satM,fun r hr=>by
  rcases List.mem_cons.1 hr with rfl|hr
  ·exact⟨h1,h2,h3⟩
  ·exact hi.res r hr,by simp only[blocks,List.filterMap_cons,Res.block];exact List.nodup_cons.2 ⟨hl,hi.nodup⟩,hi.glob⟩
theorem Inv.addKnow {w:World} {g:Gh} {L:List Res} {vs:List Value} {xs:List PV} (hi:Inv w g L) (h:VRl g vs xs):Inv w g (.know vs xs::L):=
 ⟨hi.sat,hi.satM,fun r hr=>by
  rcases List.mem_cons.1 hr with rfl|hr
  ·exact h
  ·exact hi.res r hr,hi.nodup,hi.glob⟩
theorem Inv.lt {w:World} {g:Gh} {L:List Res} (hi:Inv w g L) {b:Nat} (hb:b∈blocks L):b < w.heap.size:=by
 obtain⟨r,hr,e⟩:=List.mem_filterMap.1 hb
 exact Res.holds_lt (hi.res r hr) e
theorem Inv.fresh {w:World} {g:Gh} {L:List Res} (hi:Inv w g L) {b:Nat} (hb:w.heap.size≤b):(∀ o,g.H b o=none)∧g.M b=none:=by
 constructor
 ·intro o
  cases h:g.H b o with
  |none=>rfl
  |some v=>have:=hi.sat _ _ _ h;simp[World.cell?,Array.getElem?_eq_none hb]at this
 ·cases h:g.M b with
  |none=>rfl
  |some z=>exact absurd (hi.satM _ _ h).lt (by omega)
theorem Inv.allocO {w:World} {g:Gh} {L:List Res} (hi:Inv w g L) (o:Obj):Inv (w.alloc o) g L∧Step (blocks L) w g (w.alloc o) g:=by
 have hk: ∀ k,k < w.heap.size→(w.alloc o).heap[k]? =w.heap[k]?:=fun k hk=>by
  show(w.heap.push o)[k]? =_
  rw[Array.getElem?_push,if_neg (by omega)]
 refine⟨⟨fun b i v h=>?_,fun b z h=>(hi.satM b z h).congr (hk b (hi.satM b z h).lt),fun r hr=>?_,hi.nodup,hi.glob⟩,⟨rfl,rfl,⟨rfl,Nat.le_refl _⟩,by simp,fun k hlt _=>hk k hlt,.refl g,fun _ _ _=>⟨fun _=>rfl,rfl⟩⟩⟩
 ·have h0:=hi.sat b i v h
  have hb:b < w.heap.size:=by
   rcases Nat.lt_or_ge b w.heap.size with h'|h'
   ·exact h'
   ·simp[World.cell?,Array.getElem?_eq_none h']at h0
  simp only[World.cell?]at h0 ⊢
  rw[hk b hb];exact h0
 ·exact Res.holds_kept (.refl g) (hi.res r hr) fun b hb=>⟨hk b (hi.lt (List.mem_filterMap.2 ⟨r,hr,hb⟩)),fun _=>rfl,rfl⟩
def PYield (P:Program) (l:Nat) (args:List PV) (L:List Res) (R:Bool→List Res→Prop):Prop:=
 ∀ (vs:List Value) (w:World) (g:Gh) (LF:List Res),VRl g vs args→Inv w g (L++LF)→
   ∃ fn tmps assign body,(Instr.yield l vs.toArray).run P w= .ok (.round l fn tmps assign body) w∧
     RoundIn Fence.wide 0 P l fn tmps assign body w (fun e w'=> ∃ b g' L',e= .returned (.bool b)∧Inv w' g' (L'++LF)∧Step (blocks (L++LF)) w g w' g'∧Within w (L++LF) (L'++LF)∧R b L')
theorem PYield.mono {P:Program} {l:Nat} {args:List PV} {L:List Res} {R R':Bool→List Res→Prop} (h:PYield P l args L R) (hr: ∀ b L',R b L'→R' b L'):PYield P l args L R':=fun vs w g LF hv hi=>by
 obtain⟨fn,tmps,assign,body,h1,h2⟩:=h vs w g LF hv hi
 exact⟨fn,tmps,assign,body,h1,RoundIn.mono h2 fun e w' ⟨b,g',L',k1,k2,k3,k4,k5⟩=>⟨b,g',L',k1,k2,k3,k4,hr _ _ k5⟩⟩
section
variable {P:Program} {N:Nat} {all:Array Oper} {K:Env→List Res→Prop} {fl:List Bool} {os:List Oper} {ρ:Env} {L:List Res} {Q:PPost} {c:Code} {d:Nat} {ty:TypeId} {pos:String} {af:Array Edge}
theorem opN_yield {dst:Option Nat} {x:Operand} {xs:List Operand} {ats:Array TypeId} {gd:Option (Nat × Bool)} {l:Nat} {L₁ LF:List Res} {Ψ:PV→List Res→Prop} {args:List PV}
  (hx:ρ.ev x= .raw (.func (.yield l) #[] #[])) (hargs:xs.map ρ.ev=args) (hp:L.Perm (L₁++LF)) (hc:PYield P l args L₁ (fun b L'=>Ψ (.raw (.bool b)) (L'++LF))):
  OpN P ⟨dst,.call { callee:= .value x,args:=xs.toArray,argTypes:=ats },ty,pos,af,gd⟩ ρ L Ψ:=by
 refine OpN.perm hp fun a w g ha hi=>?_
 have h1:=evRaw ha (x:=x) (by simp[Op.operands,Call.operands]) hx
 have hvs:VRl g (xs.map a.eval) args:=by
  subst hargs
  refine⟨by simp,fun i h1 h2=>?_⟩
  simp only[List.getElem_map]
  exact ha _ (by simp[Op.operands,Call.operands])
 obtain⟨fn,tmps,assign,body,hy,hR⟩:=hc _ w g LF hvs hi
 have hr:(execOp a.eval ⟨dst,.call { callee:= .value x,args:=xs.toArray,argTypes:=ats },ty,pos,af,gd⟩).run P w= .ok (.round l fn tmps assign body) w:=by
  simp only[execOp,resolve,h1,Deferred.ofValue,Sem.run_bind,Sem.run_pure,Result.andThen_ok,invoke]
  simpa using hy
 refine Oper.wq_of_run hr ?_
 refine RoundIn.mono (F:=Fence.wide) (n:=0) hR ?_
 rintro e w' ⟨b,g',L',rfl,h2,h3,h4,h5⟩
 exact⟨.bool b,.raw (.bool b),g',L'++LF,rfl,.raw _,h2,h3,h4,h5⟩
theorem s_yield {x:Operand} {xs:List Operand} {xa:Array Operand} {ats:Array TypeId} {l:Nat} {args:List PV} (L₁ LF:List Res) (hx:ρ.ev x= .raw (.func (.yield l) #[] #[])) (hxa:xa=xs.toArray) (hargs:xs.map ρ.ev=args) (hp:L.Perm (L₁++LF))
  (R:Bool→List Res→Prop) (hc:PYield P l args L₁ R) (k: ∀ b L',R b L'→pops P N all K fl.tail os (upd ρ d (.raw (.bool b))) (L'++LF)) (hd:Nat.blt d N=true:=by rfl) (hfl:fl.headD true=true:=by rfl):
  pops P N all K fl (⟨some d,.call { callee:= .value x,args:=xa,argTypes:=ats },ty,pos,af,none⟩::os) ρ L:=by
 subst hxa
 exact pops_n rfl (dlt hd) hfl (opN_yield hx hargs hp (hc.mono fun b L' h=>k b L' h))
end
def PIter (P:Program) (f:Nat) (caps:List PV) {α:Type} (enc:α→List PV) (xs:List α):Prop:=
 ∀ (l:Nat) (J Jx:List α→List Res→Prop),
   (∀ pre x L,(pre++ [x]) <+:xs→J pre L→PYield P l (enc x) L (fun b L'=>(b=true∧J (pre++ [x]) L')∨(b=false∧Jx (pre++ [x]) L')))→
   ∀ L,J [] L→PCalls P f (.raw (.func (.yield l) #[] #[])::caps) L (fun _ L'=>J xs L'∨ ∃ pre,Jx pre L')
@[reducible] def updL:Env→List Nat→List PV→Env
 |ρ,p::ps,x::xs=>updL (upd ρ p x) ps xs
 |ρ,_,_=>ρ
@[reducible] def RoundQ {α σ:Type} (I Ix:List α→σ→Prop) (LL:σ→List Res→List Res) (LF:List Res) (pre:List α):PPost
 | .normal,_,L=> ∃ s,I pre s∧(LL s LF).Sublist L
 | .ret,_,L=> ∃ s,Ix pre s∧(LL s LF).Sublist L
 |_,_,_=>False
theorem slots_updL {g:Gh}: ∀ (ps:List Nat) (vs:List Value) (xs:List PV) (t:Array Value) (ρ:Env),VRl g vs xs→(∀ p∈ps,p < t.size)→(∀ i,VR g (t.getD i undef) (ρ i))→
  ((ps.zip vs).foldl (fun t (p:Nat × Value)=>t.setIfInBounds p.1 p.2) t).size=t.size∧ ∀ i,VR g (((ps.zip vs).foldl (fun t (p:Nat × Value)=>t.setIfInBounds p.1 p.2) t).getD i undef) (updL ρ ps xs i)
 | [],_,_,t,ρ,_,_,h=>⟨rfl,h⟩
 |p::ps,[],[],t,ρ,_,_,h=>⟨rfl,h⟩
 |p::ps,[],x::xs,t,ρ,hv,_,_=>by have:=hv.len;simp at this
 |p::ps,v::vs,[],t,ρ,hv,_,_=>by have:=hv.len;simp at this
 |p::ps,v::vs,x::xs,t,ρ,hv,hp,h=>by
  obtain⟨h1,h2⟩:=hv.uncons
  have:=slots_updL ps vs xs (t.setIfInBounds p v) (upd ρ p x) h2 (fun q hq=>by simpa using hp q (List.mem_cons_of_mem _ hq)) (fun i=>by
   by_cases e:i=p
   ·subst e
    have hlt:=hp i (List.mem_cons_self)
    rw[upd_self];simp[hlt];exact h1
   ·rw[upd_ne _ _ e]
    have:=h i
    simpa [Array.getElem?_setIfInBounds_ne (Ne.symm e)]using this)
  simpa using this
theorem VR.undef_any {g g':Gh} {x:PV} (h:VR g undef x):VR g' undef x:=by
 unfold undef at*
 cases h with
 |raw v=>exact .raw _
 |junk v=>exact .junk _
 |tuple hl h=>exact .tuple hl (fun i h1=>by simp at h1)
theorem callsIn_fen {ro:Option Nat} {n:Nat} {P:Program} {f:FuncId} {args:Array Value} {w:World} {R:Ending→World→Prop} (h:Calls P f args w R):CallsIn (Fen ro) n P f args w R:=
 (callsIn_wide (n:=n)).2 h
section
variable {P:Program} {N:Nat} {ρ:Env} {L:List Res} {Q:PPost}
theorem range_core {base ll D:Nat} {ro:Option Nat} {fn:FuncId} {ps:List Nat} {assign body:Code} {f:Nat} {caps:List PV} {vcaps:List Value} {α σ:Type} {enc:α→List PV} {xs:List α}
  {I Ix:List α→σ→Prop} {LL:σ→List Res→List Res} {s0:σ} {LF:List Res} {mark:List Deferred} {a:Act} {w w1:World} {g g1:Gh}
  (hit:PIter P f caps enc xs) (henc: ∀ x,(enc x).length=ps.length) (hps: ∀ p∈ps,p < N)
  (hLL: ∀ s LF',LL s LF'=LL s []++LF') (h0:I [] s0)
  (hbody: ∀ pre x s LF',(pre++ [x]) <+:xs→I pre s→pwp P N assign (PThen (pwp P N body (RoundQ I Ix LL LF' (pre++ [x]))) (fun _ _ _=>False)) (updL ρ ps (enc x)) (LL s LF'))
  (hdone: ∀ s,I xs s→Q .normal ρ (LL s LF)) (hstop: ∀ pre s,Ix pre s→Q .ret ρ (LL s LF))
  (hi0:Inv w g (LL s0 LF)) (hcap:VRl g1 vcaps caps)
  (c1:w1.heap[ll]? =some (.loop { state:= .ready,pending:=none,fn,tmps:=a.tmps,params:=ps.toArray,assign,body,defers:=D })) (c2:w.heap.size≤ll)
  (c3:Inv w1 g1 (LL s0 LF)) (c4:Step (blocks (LL s0 LF)) w g w1 g1) (c5:(∀ o,g1.H ll o=none)∧g1.M ll=none) (c6:Agr base g1 N { a with defers:=mark++a.defers } ρ):
  CallsIn (Fen ro) 0 P f (#[.func (.yield ll) #[] #[]]++vcaps.toArray) w1 (rangePost (Fen ro) 0 P ll (Lift base N w g (LL s0 LF) Q) { a with defers:=mark++a.defers }):=by
 obtain⟨rec,hrec⟩: ∃ rec:LoopState→Option Code→Loop,rec=fun st pe=>{ state:=st,pending:=pe,fn,tmps:=a.tmps,params:=ps.toArray,assign,body,defers:=D }:=⟨_,rfl⟩
 replace c1:w1.heap[ll]? =some (.loop (rec .ready none)):=by rw[hrec];exact c1
 let kn:Res:= .know a.tmps.toList ((List.range N).map ρ)
 have hsz:a.tmps.size=N:=c6.size
 have hkn:VRl g1 a.tmps.toList ((List.range N).map ρ):=⟨by simp[hsz],fun i h1 h2=>by
  have:=c6.slot i
  simp at h1 h2 ⊢
  simpa [h1]using this⟩
 have hbig: ∀ g',g1.le g'→ ∀ i,N≤i→VR g' (a.tmps.getD i undef) (ρ i):=fun g' _ i hi=>by
  have:=c6.slot i
  have e:a.tmps.getD i undef=undef:=by simp[Array.getElem?_eq_none (show a.tmps.size≤i by omega)]
  change VR g1 (a.tmps.getD i undef) (ρ i)at this
  rw[e]at this ⊢
  exact this.undef_any
 have hbig': ∀ g' i,N≤i→VR g' (a.tmps.getD i undef) (ρ i):=fun g' i hi=>by
  have:=c6.slot i
  have e:a.tmps.getD i undef=undef:=by simp[Array.getElem?_eq_none (show a.tmps.size≤i by omega)]
  change VR g1 (a.tmps.getD i undef) (ρ i)at this
  rw[e]at this ⊢
  exact this.undef_any
 have hln:ll∉blocks (LL s0 LF):=fun h=>by have:=hi0.lt h;omega
 have hiJ:Inv w1 g1 ((.raw ll (.loop (rec .ready none))::kn::LL s0 LF)++ []):=by
  rw[List.append_nil]
  exact(c3.addKnow hkn).addRaw c1 c5.1 c5.2 hln
 have hcall:=hit ll (fun pre L'=> ∃ s,I pre s∧L'= .raw ll (.loop (rec .ready none))::kn::LL s LF) (fun pre L'=> ∃ s,Ix pre s∧L'= .raw ll (.loop (rec .done (some .ret)))::kn::LL s LF) (by
  rintro pre x L1 hpre ⟨s,hI,rfl⟩ vs' w2 g2 LF2 hv hi2
  obtain⟨hl2,hH2,hM2⟩:=hi2.res _ (List.mem_cons_self)
  have hlt2:=(Array.getElem?_eq_some_iff.1 hl2).1
  have hk2:VRl g2 a.tmps.toList ((List.range N).map ρ):=hi2.res kn (by simp)
  have hnd2:=hi2.nodup
  have hLLa: ∀ s,LL s LF++LF2=LL s (LF++LF2):=fun s=>by rw[hLL s LF,hLL s (LF++LF2),List.append_assoc]
  have hi3:Inv w2 g2 (LL s (LF++LF2)):=hi2.sub (by
   rw[←hLLa]
   simp only[List.cons_append]
   exact .cons _ (.cons _ (.refl _)))
  have hln2:ll∉blocks (LL s (LF++LF2)):=by
   rw[←hLLa]
   simp only[blocks,List.cons_append,List.filterMap_cons,Res.block]at hnd2
   exact(List.nodup_cons.1 hnd2).1
  have hvl:vs'.length=ps.length:=by rw[hv.len,henc]
  have hy:=run_yield (P:=P) (args:=vs'.toArray) hl2 (by rw[hrec];simp[hvl])
  rw[hrec]at hy
  refine⟨fn,_,assign,body,hy,?_⟩
  have hfold:((ps.toArray.zip vs'.toArray).foldl (fun tmps (x:Nat × Value)=>tmps.setIfInBounds x.1 x.2) a.tmps)=(ps.zip vs').foldl (fun tmps (x:Nat × Value)=>tmps.setIfInBounds x.1 x.2) a.tmps:=by simp
  have hslot:=slots_updL ps vs' (enc x) a.tmps ρ hv (fun p hp=>by rw[hsz];exact hps p hp) (fun i=>by
   rcases Nat.lt_or_ge i N with h'|h'
   ·have:=hk2.at_ i (by simpa [hsz]using h') (by simpa using h')
    simp at this
    simpa [hsz,h']using this
   ·exact hbig' g2 i h')
  refine roundIn_of_wpIn (F:=Fence.wide) trivial ?_
  have hb:=hbody pre x s (LF++LF2) hpre hI (some ll) w2.heap.size { tmps:=(ps.zip vs').foldl (fun tmps (x:Nat × Value)=>tmps.setIfInBounds x.1 x.2) a.tmps,defers:= [] } w2 g2
   ⟨fun l e=>by cases e;exact⟨hln2,_,hl2⟩,Nat.le_refl _,⟨by rw[hslot.1,hsz],.nil _ _,hslot.2⟩,hi3⟩
  rw[←hfold]at hb
  refine wpIn_mono hb ?_
  have hB: ∀ b∈blocks (LL s (LF++LF2)),b∈blocks ((.raw ll (.loop (rec .ready none))::kn::LL s LF)++LF2):=fun b hb=>by
   rw[←hLLa]at hb
   simp only[blocks,List.cons_append,List.filterMap_cons,Res.block,kn]at hb ⊢
   exact List.mem_cons_of_mem _ hb
  have hlB:ll∈blocks ((.raw ll (.loop (rec .ready none))::kn::LL s LF)++LF2):=by simp[blocks,Res.block]
  rintro e a1 w3 ⟨ρ3,g3,L3,k1,k2,k3,k4,k5⟩
  cases e with
  |normal=>
   have hl3:w3.heap[ll]? =some (.loop (rec .ready none)):=(k3.keep ll hlt2 hln2).trans hl2
   obtain⟨n1,n2⟩:=k3.new ll hlt2 hln2
   have hln3:ll∉blocks L3:=fun h=>hln2 (k4 ll h hlt2)
   have hH3: ∀ o,g3.H ll o=none:=fun o=>by rw[n1,hH2]
   have hM3:g3.M ll=none:=by rw[n2,hM2]
   refine⟨_,run_beginRound hl3 (by rw[hrec]),?_⟩
   obtain⟨rb,hrb⟩: ∃ rb:Loop,rb= { rec .ready none with state:= .busy }:=⟨_,rfl⟩
   rw[←hrb]
   have hlt3:=(Array.getElem?_eq_some_iff.1 hl3).1
   have hl3':(w3.putObj ll (.loop rb)).heap[ll]? =some (.loop rb):=World.putObj_heap_same hlt3
   have hsz3:(w3.putObj ll (.loop rb)).heap.size=w3.heap.size:=by simp[World.putObj]
   refine wpIn_mono (k5 (some ll) w2.heap.size a1 (w3.putObj ll (.loop rb)) g3 ⟨fun l e=>by cases e;exact⟨hln3,_,hl3'⟩,by rw[hsz3];exact k3.size,k1,k2.put _ hH3 hM3 hln3⟩) ?_
   have st3:Step (blocks ((.raw ll (.loop (rec .ready none))::kn::LL s LF)++LF2)) w2 g2 (w3.putObj ll (.loop rb)) g3:=(k3.grow hB).comp (.put (B:= [ll]) _ (by simp)) (fun b hb _=>by simp at hb;subst hb;exact hlB)
   rintro e a4 w4 ⟨ρ4,g4,L4,m1,m2,m3,m4,m5⟩
   have hl4:w4.heap[ll]? =some (.loop rb):=(m3.keep ll (by rw[hsz3];exact hlt3) hln3).trans hl3'
   obtain⟨n3,n4⟩:=m3.new ll (by rw[hsz3];exact hlt3) hln3
   have hln4:ll∉blocks L4:=fun h=>hln3 (m4 ll h (by rw[hsz3];exact hlt3))
   have hH4: ∀ o,g4.H ll o=none:=fun o=>by rw[n3,hH3]
   have hM4:g4.M ll=none:=by rw[n4,hM3]
   have hlt4:=(Array.getElem?_eq_some_iff.1 hl4).1
   have fin: ∀ (o:Obj) (s':σ),(LL s' (LF++LF2)).Sublist L4→
     Inv (w4.putObj ll o) g4 ((.raw ll o::kn::LL s' LF)++LF2)∧Step (blocks ((.raw ll (.loop (rec .ready none))::kn::LL s LF)++LF2)) w2 g2 (w4.putObj ll o) g4∧Within w2 ((.raw ll (.loop (rec .ready none))::kn::LL s LF)++LF2) ((.raw ll o::kn::LL s' LF)++LF2):=fun o s' hsub=>by
    have hin: ∀ b∈blocks (LL s' (LF++LF2)),b < w2.heap.size→b∈blocks (LL s (LF++LF2)):=fun b hb hlt=>
     k4 b (m4 b ((blocks_sublist hsub).subset hb) (by rw[hsz3];exact Nat.lt_of_lt_of_le hlt k3.size)) hlt
    refine⟨?_,?_,?_⟩
    ·have i4:=(m2.put o hH4 hM4 hln4).sub hsub
     have i5:=(i4.addKnow ((hk2.mono k3.le).mono m3.le)).addRaw (World.putObj_heap_same hlt4) hH4 hM4 (fun h=>hln4 ((blocks_sublist hsub).subset h))
     have e:(.raw ll o::kn::LL s' LF)++LF2= .raw ll o::kn::LL s' (LF++LF2):=by simp only[List.cons_append,hLLa]
     rw[e];exact i5
    ·refine(st3.comp m3 fun b hb hlt=>?_).comp (.put (B:= [ll]) _ (by simp)) (fun b hb _=>by simp at hb;subst hb;exact hlB)
     exact hB b (k4 b hb hlt)
    ·intro b hb hlt
     simp only[List.cons_append,hLLa]at hb
     simp only[blocks,List.filterMap_cons,Res.block,kn]at hb
     rcases List.mem_cons.1 hb with rfl|hb
     ·exact hlB
     ·exact hB b (hin b hb hlt)
   cases e with
   |normal=>
    obtain⟨s',hI',hsub⟩:=m5
    have hr:=run_endRound (P:=P) none hl4
    have e1:({ rb with state:=if(none:Option Code).isNone=true then .ready else .done,pending:=none }:Loop)=rec .ready none:=by rw[hrb,hrec];rfl
    rw[e1]at hr
    obtain⟨f1,f2,f3⟩:=fin (.loop (rec .ready none)) s' hsub
    exact⟨_,_,hr,true,g4,_,rfl,f1,f2,f3,.inl ⟨rfl,s',hI',rfl⟩⟩
   |ret=>
    obtain⟨s',hI',hsub⟩:=m5
    have hr:=run_endRound (P:=P) (some .ret) hl4
    have e1:({ rb with state:=if(some Code.ret:Option Code).isNone=true then .ready else .done,pending:=some .ret }:Loop)=rec .done (some .ret):=by rw[hrb,hrec];rfl
    rw[e1]at hr
    obtain⟨f1,f2,f3⟩:=fin (.loop (rec .done (some .ret))) s' hsub
    exact⟨_,_,hr,false,g4,_,rfl,f1,f2,f3,.inr ⟨rfl,s',hI',rfl⟩⟩
   |_=>exact m5.elim
  |_=>exact k5.elim) (.raw ll (.loop (rec .ready none))::kn::LL s0 LF) ⟨s0,h0,rfl⟩ (.func (.yield ll) #[] #[]::vcaps) w1 g1 [] (.cons (.raw _) hcap) hiJ
 have eargs:(#[Value.func (.yield ll) #[] #[]]++vcaps.toArray)=(Value.func (.yield ll) #[] #[]::vcaps).toArray:=by simp
 rw[eargs]
 refine CallsIn.mono (callsIn_fen hcall) ?_
 rintro e w2 ⟨v,x,g2,L2,rfl,hv,hi2,hs2,hw2,hJ⟩
 rw[List.append_nil]at hi2 hs2 hw2
 rw[List.append_nil]at hw2
 have W1: ∀ b∈blocks (.raw ll (.loop (rec .ready none))::kn::LL s0 LF),b < w.heap.size→b∈blocks (LL s0 LF):=fun b hb hlt=>by
  simp only[blocks,List.filterMap_cons,Res.block,kn]at hb
  rcases List.mem_cons.1 hb with rfl|hb
  ·omega
  ·exact hb
 have fin: ∀ (s:σ) (o o':Obj),L2= .raw ll o::kn::LL s LF→Inv (w2.putObj ll o') g2 (LL s LF)∧Step (blocks (LL s0 LF)) w g (w2.putObj ll o') g2∧Within w (LL s0 LF) (LL s LF):=fun s o o' e=>by
  subst e
  refine⟨(hi2.putRaw o').sub (.cons _ (.cons _ (.refl _))),(c4.comp hs2 W1).comp (.put (B:= [ll]) _ (by simp)) (fun b hb hlt=>by simp at hb;omega),fun b hb hlt=>?_⟩
  exact W1 b (hw2 b (by simp only[blocks,List.filterMap_cons,Res.block,kn];exact List.mem_cons_of_mem _ hb) (Nat.lt_of_lt_of_le hlt c4.size)) hlt
 rcases hJ with ⟨s,hI,e2⟩|⟨pre,s,hIx,e2⟩
 ·obtain⟨hl2,_,_⟩:=hi2.res _ (by rw[e2];exact List.mem_cons_self)
  obtain⟨f1,f2,f3⟩:=fin s _ (.loop { rec .ready none with state:= .exhausted }) e2
  have hr:=run_endLoop (P:=P) hl2 (by rw[hrec];simp)
  exact⟨none,_,by rw[hr,hrec],ρ,g2,_,c6.mono hs2.le,f1,f2,f3,hdone s hI⟩
 ·obtain⟨hl2,_,_⟩:=hi2.res _ (by rw[e2];exact List.mem_cons_self)
  obtain⟨f1,f2,f3⟩:=fin s _ (.loop { rec .done (some .ret)with state:= .exhausted }) e2
  have hr:=run_endLoop (P:=P) hl2 (by rw[hrec];simp)
  exact⟨some .ret,_,by rw[hr,hrec],wpIn_ret ⟨ρ,g2,_,c6.mono hs2.le,f1,f2,f3,hstop pre s hIx⟩⟩
theorem VR.ev {base:Nat} {g:Gh} {a:Act} (h:Agr base g N a ρ) (x:Operand):VR g (a.eval x) (ρ.ev x):=by
 cases x with
 |tmp t=>exact h.slot t
 |const v=>exact .raw v
 |global k=>exact .raw _
 |func f=>exact .raw _
theorem pwp_rangeFunc {g0:Operand} {pa:Array Tmp} {assign body:Code} {f:Nat} {caps:List PV} {α σ:Type} {enc:α→List PV} {xs:List α} [hf:TFun P f]
  (hit:PIter P f caps enc xs) (ps:List Nat) (I Ix:List α→σ→Prop) (LL:σ→List Res→List Res) (s0:σ) (LF:List Res)
  (hg:Le (ρ.ev g0) (.clo f caps)) (hpa:pa=ps.toArray) (henc: ∀ x,(enc x).length=ps.length) (hps: ∀ p∈ps,p < N)
  (hLL: ∀ s LF',LL s LF'=LL s []++LF') (hL:(LL s0 LF).Sublist L) (h0:I [] s0)
  (hbody: ∀ pre x s LF',(pre++ [x]) <+:xs→I pre s→pwp P N assign (PThen (pwp P N body (RoundQ I Ix LL LF' (pre++ [x]))) (fun _ _ _=>False)) (updL ρ ps (enc x)) (LL s LF'))
  (hdone: ∀ s,I xs s→Q .normal ρ (LL s LF)) (hstop: ∀ pre s,Ix pre s→Q .ret ρ (LL s LF)):pwp P N (.rangeFunc g0 pa assign body) Q ρ L:=by
 refine pwp_weaken (ρ':=ρ) (fun i=> .inl rfl) hL ?_
 subst hpa
 intro ro base a w g hs
 refine wpIn_rangeFunc (F:=Fen ro) (n:=0) fun fn _=>?_
 obtain⟨vcaps,hv1,hv2⟩:=(hg g _ (VR.ev hs.agr g0)).clo_inv
 have hd:(Fen ro).depth.isSome=true→1≤0:=fun h=>by simp[Fen,Fence.wide]at h
 have hres: ∀ (e:Act) (ll:Nat) (w:World),e.tmps=a.tmps→(resolve a.eval (rangeCall g0 ll) 0).run P w= .ok { target:= .fn (.func f) vcaps.toArray,args:= #[.func (.yield ll) #[] #[]] } w:=fun e ll w _=>by
  simp only[resolve,rangeCall,hv1,Deferred.ofValue,Sem.run_pure]
  simp[Act.eval]
 cases ro with
 |none=>
  obtain⟨i1,s1⟩:=hs.inv.allocO (.deferred (some []))
  have hD:(w.alloc (.deferred (some []))).heap[w.heap.size]? =some (.deferred (some [])):=by show(w.heap.push _)[w.heap.size]? =_;simp
  obtain⟨hH0,hM0⟩:=hs.inv.fresh (b:=w.heap.size) (Nat.le_refl _)
  let g1:Gh:={ g with M:=fun b=>if b=w.heap.size then some .mark else g.M b }
  have hle:g.le g1:=⟨fun _ _ _ h=>h,fun b z h=>by
   show(if b=w.heap.size then some .mark else g.M b)=_
   rw[if_neg (fun e=>by rw[e,hM0]at h;cases h)];exact h⟩
  have i2:Inv (w.alloc (.deferred (some []))) g1 (LL s0 LF):=⟨i1.sat,fun b z h=>by
   change (if b=w.heap.size then some .mark else g.M b)=some z at h
   split at h
   ·rename_i e;subst e;cases h;exact hD
   ·exact i1.satM b z h,fun r hr=>Res.holds_kept hle (i1.res r hr) fun b hb=>⟨rfl,fun _=>rfl,by
     show(if b=w.heap.size then some .mark else g.M b)=_
     rw[if_neg]
     intro e
     have:=hs.inv.lt (List.mem_filterMap.2 ⟨r,hr,hb⟩)
     omega⟩,i1.nodup,i1.glob.mono hle⟩
  have s2:Step (blocks (LL s0 LF)) w g (w.alloc (.deferred (some []))) g1:=⟨s1.os,s1.tape,s1.output,s1.size,s1.keep,hle,fun k hk hn=>⟨fun _=>rfl,by
   show(if k=w.heap.size then some .mark else g.M k)=_
   rw[if_neg (by omega)]⟩⟩
  let o:Obj:= .loop { state:= .ready,pending:=none,fn,tmps:=a.tmps,params:=ps.toArray,assign,body,defers:=w.heap.size }
  obtain⟨i3,s3⟩:=i2.allocO o
  have hsz1:(w.alloc (.deferred (some []))).heap.size=w.heap.size+1:=by simp
  refine⟨w.heap.size+1,[markOf w.heap.size],(w.alloc (.deferred (some []))).alloc o,_,(w.alloc (.deferred (some []))).alloc o,f,#[.func (.yield (w.heap.size+1)) #[] #[]]++vcaps.toArray,(w.alloc (.deferred (some []))).alloc o,run_enterLoop_outer _ _ _ _ _,hres a _ _ rfl,fun _ _=>trivial,?_,hd,?_⟩
  ·simp only[invoke,hf.out]
  ·refine range_core (g1:=g1) (mark:= [markOf w.heap.size]) (D:=w.heap.size) (fn:=fn) (enc:=enc) hit henc hps hLL h0 hbody hdone hstop hs.inv (hv2.mono hle) ?_ (by omega) i3 (s2.comp s3 (fun b hb _=>hb)) ?_ ?_
   ·have:((w.alloc (.deferred (some []))).alloc o).heap[(w.alloc (.deferred (some []))).heap.size]? =some o:=World.alloc_heap_new _ o
    rw[hsz1]at this;exact this
   ·exact i2.fresh (by rw[hsz1];exact Nat.le_refl _)
   ·refine⟨hs.agr.size,⟨?_⟩,fun i=>(hs.agr.slot i).mono hle⟩
    obtain⟨Ds,e1,e2,e3⟩:=hs.agr.defers.out
    refine⟨w.heap.size::Ds,by simp[e1],List.nodup_cons.2 ⟨fun hm=>?_,e2⟩,fun D hD=>?_⟩
    ·have:=(e3 _ hm).2;rw[hM0]at this;cases this
    ·rcases List.mem_cons.1 hD with rfl|hD
     ·exact⟨hs.low,by show(if w.heap.size=w.heap.size then some .mark else g.M w.heap.size)=_;simp⟩
     ·exact⟨(e3 D hD).1,hle.M _ _ (e3 D hD).2⟩
 |some l₀=>
  obtain⟨hn,r₀,hr₀⟩:=hs.ro l₀ rfl
  let o:Obj:= .loop { state:= .ready,pending:=none,fn,tmps:=a.tmps,params:=ps.toArray,assign,body,defers:=r₀.defers }
  obtain⟨i3,s3⟩:=hs.inv.allocO o
  refine⟨w.heap.size,[],w.alloc o,_,w.alloc o,f,#[.func (.yield w.heap.size) #[] #[]]++vcaps.toArray,w.alloc o,run_enterLoop_inner hr₀ _ _ _ _ _,hres a _ _ rfl,fun _ _=>trivial,?_,hd,?_⟩
  ·simp only[invoke,hf.out]
  ·refine range_core (g1:=g) (mark:= []) (D:=r₀.defers) (fn:=fn) (enc:=enc) hit henc hps hLL h0 hbody hdone hstop hs.inv hv2 ?_ (Nat.le_refl _) i3 s3 ?_ ?_
   ·show(w.heap.push o)[_]? =_;simp[o]
   ·exact hs.inv.fresh (Nat.le_refl _)
   ·exact⟨hs.agr.size,hs.agr.defers,hs.agr.slot⟩
end
end Go.Q
