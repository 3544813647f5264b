/- Contracts: equality of patches and sets; sets that are kept and put into (the reference's layers 16 and 17). -/
import Derived.Test.YtmkdlelpipefbaaGreatDoorUah
import Derived.Test.YtmkdlelpipefbaaGreatDoorUae
import Derived.Test.YtmkdlelpipefbaaGreatDoorUaf
set_option linter.unusedSimpArgs false
set_option linter.unusedVariables false
namespace Go.Proofs
open Go Go.Q
attribute [local irreducible] pwp pops PCalls OpN
theorem pat_ext {a b:Pat} (h1:a.author=b.author) (h2:a.message=b.message) (h3:a.time=b.time) (h4:a.deps=b.deps) (h5:a.changes=b.changes):a=b:=by
 cases a;cases b;simp_all
instance SameP_ct (a b:Pat):FnC Tryz.prog 62 [.agg (ePat a),.agg (ePat b)] (.raw (.bool (decide (a=b)))):=⟨by
 refine fn_of Tryz.func62 Tryz.ntmps62 rfl (rs:= [.tmp 4]) rfl rfl fun hb LF=>?_
 have hlen:a.changes.length≤140737488355328:=((hb (.agg (ePat a)) (by simp)).agg_at (c:= .slice (a.changes.map eChg) .ro) (by simp[ePat])).slice_map
 have no: ∀ {q:Prop},(a=b→ ¬q)→q→Le (.raw (.bool false)) (.raw (.bool (decide (a=b)))):=fun h hq=> .of_eq (by rw[decide_eq_false (fun e=>h e hq)])
 refine walkb fun p=>?_
 refine walkbp fun q=>?_
 iterate 4
  refine pops_if (fun hp=>by
   refine walkp ?_
   refine end1 (no (fun e=>?_) hp)
   simp[e]) (fun hp=>?_)
  refine walkp ?_
 refine pwp_condN (fun h=>?_) (fun h=>?_)
 ·refine walk ?_
  refine end1 (no (fun e=>?_) h)
  simp[e]
 ·refine walk ?_
  have hl:a.changes.length=b.changes.length:=by omega
  refine pwp_loopS (σ:=Nat) (fun k=>k≤a.changes.length∧a.changes.take k=b.changes.take k) (fun k=>a.changes.length - k) (fun k=> [(2,.raw (.pointer (some ⟨p,0,none⟩))),(3,.raw (.pointer (some ⟨q,0,none⟩))),(5,.raw (.int .i64 k))]) (fun _=> .box q 44 (ePat b):: .box p 44 (ePat a)::LF) 0 ⟨by simp,by simp⟩ ⟨rfl,rfl,rfl⟩ (.refl _) ?_
  rintro k ⟨hk,he⟩
  refine walk ?_
  refine pwp_condD (fun hc=>?_) (fun hc=>?_)
  ·refine walk ?_
   refine pwp_condN (fun h2=>?_) (fun h2=>?_)
   ·refine walk ?_
    refine end1 (no (fun e=>?_) h2)
    simp[e]
   ·refine walk ?_
    refine⟨k+1,⟨by omega,?_⟩,by dsimp only;omega,⟨rfl,rfl,rfl⟩,.refl _⟩
    rw[List.take_succ_eq_append_getElem (by omega),List.take_succ_eq_append_getElem (by omega),he,h2]
  ·refine walk ?_
   refine end1 (.of_eq ?_)
   have h5:a.changes=b.changes:=by
    rw[List.take_of_length_le (by omega),List.take_of_length_le (by omega)]at he
    exact he
   have:a=b:=by
    apply pat_ext<;>simp_all
   simp[this]⟩
theorem sto_ext {a b:Sto} (h1:a.id=b.id) (h2:a.patch=b.patch):a=b:=by
 cases a;cases b;simp_all
instance SameSet_ct (l m:List Sto) (t u:Tag):FnC Tryz.prog 30 [.slice (l.map eSto) t,.slice (m.map eSto) u] (.raw (.bool (decide (l=m)))):=⟨by
 refine fn_of Tryz.func30 Tryz.ntmps30 rfl (rs:= [.tmp 4]) rfl rfl fun hb LF=>?_
 have hlen:l.length≤140737488355328:=(hb (.slice (l.map eSto) t) (by simp)).slice_map
 refine walk ?_
 refine pwp_condN (fun h1=>?_) (fun h1=>?_)
 ·refine walk ?_
  refine end1 (.of_eq ?_)
  have: ¬l=m:=fun e=>h1 (by rw[e])
  simp[this]
 ·refine walk ?_
  have hl:l.length=m.length:=by omega
  refine pwp_loopS (σ:=Nat) (fun k=>k≤l.length∧l.take k=m.take k) (fun k=>l.length - k) (fun k=> [(0,.slice (l.map eSto) t),(1,.slice (m.map eSto) u),(5,.raw (.int .i64 k))]) (fun _=>LF) 0 ⟨by simp,by simp⟩ ⟨rfl,rfl,rfl⟩ (.refl _) ?_
  rintro k ⟨hk,he⟩
  refine walk ?_
  refine pwp_condD (fun hc=>?_) (fun hc=>?_)
  ·refine walk ?_
   refine pops_if (fun hp=>?_) (fun hp=>?_)
   ·refine walkp ?_
    refine end1 (.of_eq ?_)
    have: ¬l=m:=fun e=>by simp[e]at hp
    simp[this]
   ·refine walkp ?_
    refine pwp_condN (fun h2=>?_) (fun h2=>?_)
    ·refine walk ?_
     refine end1 (.of_eq ?_)
     have: ¬l=m:=fun e=>h2 (by simp[e])
     simp[this]
    ·refine walk ?_
     refine⟨k+1,⟨by omega,?_⟩,by dsimp only;omega,⟨rfl,rfl,rfl⟩,.refl _⟩
     have h3:l[k]=m[k]:=sto_ext (by simpa using hp) h2
     rw[List.take_succ_eq_append_getElem (by omega),List.take_succ_eq_append_getElem (by omega),he,h3]
  ·refine walk ?_
   refine end1 (.of_eq ?_)
   have:l=m:=by
    rw[List.take_of_length_le (by omega),List.take_of_length_le (by omega)]at he
    exact he
   simp[this]⟩
def keepS (s:List Sto) (l:List Dig):List Sto:=s.filter fun x=>decide (x.id∈l)
instance Keep_ct (s:List Sto) (l:List Dig) (t u:Tag) [hs:Small (s.length≤1000000)]:FnC Tryz.prog 61 [.slice (s.map eSto) t,.slice (l.map eDig) u] (.slice ((keepS s l).map eSto) .ro):=⟨by
 refine fn_of Tryz.func61 Tryz.ntmps61 rfl (rs:= [.tmp 4]) rfl rfl fun hb LF=>?_
 have hlen:s.length≤1000000:=hs.out
 refine walk ?_
 refine pwp_tok 37 ?_
 refine pwp_loopS (σ:=Nat × Tag) (fun k=>k.1≤s.length) (fun k=>s.length - k.1) (fun k=> [(0,.slice (s.map eSto) t),(1,.slice (l.map eDig) u),(5,.slice ((keepS (s.take k.1) l).map eSto) k.2),(6,.raw (.int .i64 k.1))]) (fun k=> .tok k.2 (keepS (s.take k.1) l).length 37::LF) (0,.nil) (by simp) ⟨rfl,rfl,rfl,rfl⟩ (.refl _) ?_
 rintro⟨k,v⟩ hk
 dsimp only at hk
 refine walk ?_
 refine pwp_condD (fun hc=>?_) (fun hc=>?_)
 ·have hl:(keepS (s.take k) l).length≤k:=Nat.le_trans (List.length_filter_le _ _) (by simp;omega)
  have e:keepS (s.take (k+1)) l=keepS (s.take k) l++keepS [s[k]] l:=by
   rw[List.take_succ_eq_append_getElem (by omega)];simp only[keepS,List.filter_append]
  refine walk ?_
  refine pwp_condD (fun h=>?_) (fun h=>?_)
  ·refine walka fun v'=>?_
   have e2:keepS [s[k]] l= [s[k]]:=by simp[keepS,h]
   rw[e2]at e
   refine⟨(k+1,v'),by dsimp only;omega,by dsimp only;omega,⟨rfl,rfl,by dsimp only;rw[e];rfl,rfl⟩,by dsimp only;rw[e];exact .refl _⟩
  ·refine walk ?_
   have e2:keepS [s[k]] l= []:=by simp[keepS,h]
   rw[e2,List.append_nil]at e
   refine⟨(k+1,v),by dsimp only;omega,by dsimp only;omega,⟨rfl,rfl,by dsimp only;rw[e];rfl,rfl⟩,by dsimp only;rw[e];exact .refl _⟩
 ·refine walk ?_
  refine end1 (.ros ?_)
  rw[List.take_of_length_le (by omega)]⟩
end Go.Proofs
namespace Go.Proofs
open Go Go.Q
attribute [local irreducible] pwp pops PCalls OpN
theorem all_true_of {α:Type} {l:List α} {q:α→Bool} (h: ∀ i (h:i < l.length),q l[i]=true):l.all q=true:=by
 rw[List.all_eq_true];intro x hx
 obtain⟨i,hi,rfl⟩:=List.mem_iff_getElem.1 hx
 exact h i hi
theorem all_false_of {α:Type} {l:List α} {q:α→Bool} {k:Nat} (hk:k < l.length) (h:q l[k]=false):l.all q=false:=by
 rw[List.all_eq_false];exact⟨_,List.getElem_mem hk,by simp[h]⟩
theorem upto_succ {α:Type} {l:List α} {q:α→Bool} {k:Nat} (he: ∀ i (h:i < l.length),i < k→q l[i]=true) (hk:k < l.length) (h:q l[k]=true): ∀ i (h:i < l.length),i < k+1→q l[i]=true:=fun i hi hik=>by
 rcases Nat.lt_or_ge i k with h'|h'
 ·exact he i hi h'
 ·have:i=k:=by omega
  subst this;exact h
def rCleanC (m n:Int) (c:UInt8):Bool:=!decide ((c.toNat:Int)=m)&&!decide ((c.toNat:Int)=n)
def rClean (s:Str) (m n:Int):Bool:=s.all (rCleanC m n)
instance clean_ct (s:Str) (m n:Int):FnC Tryz.prog 264 [.str s,.raw (.int .u8 m),.raw (.int .u8 n)] (.raw (.bool (rClean s m n))):=⟨by
 refine fn_of Tryz.func264 Tryz.ntmps264 rfl (rs:= [.tmp 6]) rfl rfl fun hb LF=>?_
 have hlen:s.length≤140737488355328:=(hb (.str s) (by simp)).str_len
 refine walk ?_
 refine pwp_loopS (σ:=Nat) (fun k=>k≤s.length∧ ∀ i (h:i < s.length),i < k→rCleanC m n s[i]=true) (fun k=>s.length - k) (fun k=> [(0,.str s),(1,.raw (.int .u8 m)),(2,.raw (.int .u8 n)),(7,.raw (.int .i64 k))]) (fun _=>LF) 0 ⟨by simp,by simp⟩ ⟨rfl,rfl,rfl,rfl⟩ (.refl _) ?_
 rintro k ⟨hk,he⟩
 refine walk ?_
 refine pwp_condD (fun hc=>?_) (fun hc=>?_)
 ·have hlt:k < s.length:=by omega
  refine walk ?_
  repeat' (first|(refine pwp_condD (fun h=>?_) (fun h=>?_)<;>refine walk ?_)|(refine pwp_condN (fun h=>?_) (fun h=>?_)<;>refine walk ?_)|(refine pwp_condB (fun h=>?_) (fun h=>?_)<;>refine walk ?_)|(refine pops_if (fun h=>?_) (fun h=>?_)<;>(have h2:=h;(try simp only[decide_eq_true_eq,decide_eq_false_iff_not,Bool.not_eq_true',Bool.not_eq_false']at h2);refine walkp ?_)))
  all_goals first
   |(refine⟨k+1,⟨by omega,upto_succ he hlt ?_⟩,by dsimp only;omega,⟨rfl,rfl,rfl,rfl⟩,.refl _⟩;simp_all[rCleanC];done)
   |(refine end1 (.of_eq ?_);have:rCleanC m n s[k]=false:=by simp_all[rCleanC]
     rw[rClean,all_false_of hlt this])
 ·refine walk ?_
  refine end1 (.of_eq ?_)
  rw[rClean,all_true_of fun i h=>he i h (by omega)]⟩
def rValid (s:Str):Bool:=decide ((s.length:Int)≤1000)&&rClean s 10 0
instance Valid_ct (s:Str):FnC Tryz.prog 257 [.str s] (.raw (.bool (rValid s))):=⟨by
 refine fn_of Tryz.func257 Tryz.ntmps257 rfl (rs:= [.tmp 2]) rfl rfl fun hb LF=>?_
 refine walk ?_
 repeat' (first|(refine pwp_condD (fun h=>?_) (fun h=>?_)<;>refine walk ?_)|(refine pwp_condN (fun h=>?_) (fun h=>?_)<;>refine walk ?_)|(refine pwp_condB (fun h=>?_) (fun h=>?_)<;>refine walk ?_)|(refine pops_if (fun h=>?_) (fun h=>?_)<;>(have h2:=h;(try simp only[decide_eq_true_eq,decide_eq_false_iff_not,Bool.not_eq_true',Bool.not_eq_false']at h2);refine walkp ?_)))
 all_goals (refine end1 (.of_eq ?_);first|(simp_all[rValid];done)|grind [rValid])⟩
def rNameC (c:UInt8):Bool:=(decide (97≤(c.toNat:Int))&&decide ((c.toNat:Int)≤122))||(decide (65≤(c.toNat:Int))&&decide ((c.toNat:Int)≤90))||(decide (48≤(c.toNat:Int))&&decide ((c.toNat:Int)≤57))||decide ((c.toNat:Int)=46)||decide ((c.toNat:Int)=95)||decide ((c.toNat:Int)=45)
def rName (s:Str):Bool:=s.all rNameC&&decide (1≤(s.length:Int))&&decide ((s.length:Int)≤40)&&!decide (s= [46])&&!decide (s= [46,46])
set_option maxHeartbeats 1000000 in
instance Name_ct (s:Str):FnC Tryz.prog 175 [.str s] (.raw (.bool (rName s))):=⟨by
 refine fn_of Tryz.func175 Tryz.ntmps175 rfl (rs:= [.tmp 2]) rfl rfl fun hb LF=>?_
 have hlen:s.length≤140737488355328:=(hb (.str s) (by simp)).str_len
 refine walk ?_
 refine pwp_loopS (σ:=Nat) (fun k=>k≤s.length∧ ∀ i (h:i < s.length),i < k→rNameC s[i]=true) (fun k=>s.length - k) (fun k=> [(0,.str s),(3,.raw (.int .i64 k))]) (fun _=>LF) 0 ⟨by simp,by simp⟩ ⟨rfl,rfl⟩ (.refl _) ?_
 rintro k ⟨hk,he⟩
 refine walk ?_
 refine pwp_condD (fun hc=>?_) (fun hc=>?_)
 ·have hlt:k < s.length:=by omega
  refine walk ?_
  repeat' (first|(refine pwp_condD (fun h=>?_) (fun h=>?_)<;>refine walk ?_)|(refine pwp_condN (fun h=>?_) (fun h=>?_)<;>refine walk ?_)|(refine pwp_condB (fun h=>?_) (fun h=>?_)<;>refine walk ?_)|(refine pops_if (fun h=>?_) (fun h=>?_)<;>(have h2:=h;(try simp only[decide_eq_true_eq,decide_eq_false_iff_not,Bool.not_eq_true',Bool.not_eq_false']at h2);refine walkp ?_)))
  all_goals first
   |(refine⟨k+1,⟨by omega,upto_succ he hlt ?_⟩,by dsimp only;omega,⟨rfl,rfl⟩,.refl _⟩;clear he hc;grind [rNameC])
   |(refine end1 (.of_eq ?_);have:rNameC s[k]=false:=by clear he hc;grind [rNameC]
     rw[rName,all_false_of hlt this];rfl)
 ·have hall:s.all rNameC=true:=all_true_of fun i h=>he i h (by omega)
  refine walk ?_
  repeat' (first|(refine pwp_condD (fun h=>?_) (fun h=>?_)<;>refine walk ?_)|(refine pwp_condN (fun h=>?_) (fun h=>?_)<;>refine walk ?_)|(refine pwp_condB (fun h=>?_) (fun h=>?_)<;>refine walk ?_)|(refine pops_if (fun h=>?_) (fun h=>?_)<;>(have h2:=h;(try simp only[decide_eq_true_eq,decide_eq_false_iff_not,Bool.not_eq_true',Bool.not_eq_false']at h2);refine walkp ?_)))
  all_goals (refine end1 (.of_eq ?_);first|(simp_all[rName];done)|grind [rName])⟩
def rLines (l:List Str):Int:=if(l.length:Int)=0 then 1 else if 2000 < (l.length:Int)then 4 else if l.all rValid then 0 else 3
instance lines_ct (l:List Str) (t:Tag):FnC Tryz.prog 237 [.slice (l.map eS) t] (.raw (.int .i64 (rLines l))):=⟨by
 refine fn_of Tryz.func237 Tryz.ntmps237 rfl (rs:= [.tmp 2]) rfl rfl fun hb LF=>?_
 have hlen:l.length≤140737488355328:=(hb (.slice (l.map eS) t) (by simp)).slice_map
 refine walk ?_
 refine pwp_condD (fun h1=>?_) (fun h1=>?_)
 ·refine walk ?_
  refine end1 (.of_eq ?_)
  simp[rLines,h1]
 refine walk ?_
 refine pwp_condD (fun h2=>?_) (fun h2=>?_)
 ·refine walk ?_
  refine end1 (.of_eq ?_)
  simp only[rLines,h1,h2,if_true,if_false]
 refine walk ?_
 refine pwp_loopS (σ:=Nat) (fun k=>k≤l.length∧ ∀ i (h:i < l.length),i < k→rValid l[i]=true) (fun k=>l.length - k) (fun k=> [(0,.slice (l.map eS) t),(3,.raw (.int .i64 k))]) (fun _=>LF) 0 ⟨by simp,by simp⟩ ⟨rfl,rfl⟩ (.refl _) ?_
 rintro k ⟨hk,he⟩
 refine walk ?_
 refine pwp_condD (fun hc=>?_) (fun hc=>?_)
 ·have hlt:k < l.length:=by omega
  refine walk ?_
  refine pwp_condB (fun h=>?_) (fun h=>?_)
  ·refine walk ?_
   refine end1 (.of_eq ?_)
   simp only[rLines,h1,h2,if_false]
   rw[all_false_of hlt (by simpa using h)];rfl
  ·refine walk ?_
   exact⟨k+1,⟨by omega,upto_succ he hlt (by simpa using h)⟩,by dsimp only;omega,⟨rfl,rfl⟩,.refl _⟩
 ·refine walk ?_
  refine end1 (.of_eq ?_)
  simp only[rLines,h1,h2,if_false]
  rw[all_true_of fun i h=>he i h (by omega)];rfl⟩
end Go.Proofs
namespace Go.Proofs
open Go Go.Q
attribute [local irreducible] pwp pops PCalls OpN
def rRest (c:Chg):Chg:=
 { kind:=c.kind,file:=if 2≤c.kind∧c.kind≤6 then Ident.zero else c.file,type:=if c.kind=1 then 0 else c.type,parent:=if c.kind=2 then Ident.zero else c.parent,name:=if c.kind=2 then []else c.name,
   mode:=if c.kind=3 then 0 else c.mode,data:=if c.kind=4 then []else c.data,after:=if c.kind=5∨c.kind=6 then Ident.zero else c.after,before:=if c.kind=5∨c.kind=6 then Ident.zero else c.before,
   lines:=if c.kind=5 then []else c.lines,over:=if c.kind≠1∧c.kind≠5 then []else c.over }
set_option maxHeartbeats 1000000 in
instance rest_ct (c:Chg):FnC Tryz.prog 236 [.agg (eChg c)] (.agg (eChg (rRest c))):=⟨by
 refine fn_of Tryz.func236 Tryz.ntmps236 rfl (rs:= [.cell 2 88]) rfl rfl fun hb LF=>?_
 refine walkb fun b=>?_
 refine walkbp fun b2=>?_
 repeat' (first|(refine pwp_condD (fun h=>?_) (fun h=>?_)<;>((try dsimp only at h);first|(exfalso;omega;done)|refine walk ?_))|(refine pwp_condN (fun h=>?_) (fun h=>?_)<;>((try dsimp only at h);first|(exfalso;omega;done)|refine walk ?_))|(refine pwp_condB (fun h=>?_) (fun h=>?_)<;>((try dsimp only at h);first|(exfalso;omega;done)|refine walk ?_))|(refine pops_if (fun h=>?_) (fun h=>?_)<;>(have h2:=h;(try simp only[decide_eq_true_eq,decide_eq_false_iff_not,Bool.not_eq_true',Bool.not_eq_false']at h2);first|(exfalso;omega;done)|refine walkp ?_)))
 all_goals (refine endC rfl (.of_eq (congrArg (fun c=>PV.agg (eChg c)) ?_));simp only[rRest,Chg.mk.injEq];and_intros<;>first|trivial|rfl|(split<;>first|rfl|(exfalso;omega)))⟩
def rEmpty (c:Chg):Bool:=decide (c.file=Ident.zero)&&decide (c.type=0)&&decide (c.parent=Ident.zero)&&decide (c.name= [])&&decide (c.mode=0)&&decide (c.data= [])&&decide (c.after=Ident.zero)&&decide (c.before=Ident.zero)&&decide ((c.lines.length:Int)=0)&&decide ((c.over.length:Int)=0)
set_option maxHeartbeats 1000000 in
instance empty_ct (c:Chg):FnC Tryz.prog 235 [.agg (eChg c)] (.raw (.bool (rEmpty c))):=⟨by
 refine fn_of Tryz.func235 Tryz.ntmps235 rfl (rs:= [.tmp 2]) rfl rfl fun hb LF=>?_
 refine walkb fun b=>?_
 iterate 9
  refine pops_if (fun hp=>?_) (fun hp=>by
   refine walkp ?_
   refine end1 (.of_eq ?_)
   simp_all[rEmpty])
  refine walkp ?_
 refine end1 (.of_eq ?_)
 simp_all[rEmpty]⟩
end Go.Proofs
namespace Go.Proofs
open Go Go.Q
attribute [local irreducible] pwp pops PCalls OpN
def rFields (c:Chg):Int:=
 if c.kind < 1∨7 < c.kind then 8 else
 if rEmpty (rRest c)=false then 1 else
 if c.kind=1∧(c.type < 1∨4 < c.type)then 8 else
 if c.kind=2∧rName c.name=false then 5 else
 if c.kind=3∧(c.mode < 0∨511 < c.mode)then 2 else
 if 65536 < (c.data.length:Int)then 4 else
 if c.kind=5 then rLines c.lines else
 if c.kind=7∧(c.over.length:Int)=0 then 1 else
 if 400 < (c.over.length:Int)then 4 else
 if rAsc c.over=false then 9 else 0
set_option maxHeartbeats 1000000 in
instance fields_ct (c:Chg):FnC Tryz.prog 215 [.agg (eChg c)] (.raw (.int .i64 (rFields c))):=⟨by
 refine fn_of Tryz.func215 Tryz.ntmps215 rfl (rs:= [.tmp 2]) rfl rfl fun hb LF=>?_
 refine walkb fun b=>?_
 refine pops_cutE [(10,.raw (.bool (decide (c.kind < 1∨7 < c.kind)))),(1,.raw (.pointer (some ⟨b,0,none⟩)))] (.box b 88 (eChg c)::LF) ?_ ?_
 ·repeat' (first|(refine pwp_condD (fun h=>?_) (fun h=>?_)<;>refine walk ?_)|(refine pwp_condN (fun h=>?_) (fun h=>?_)<;>refine walk ?_)|(refine pwp_condB (fun h=>?_) (fun h=>?_)<;>refine walk ?_)|(refine pops_if (fun h=>?_) (fun h=>?_)<;>(have h2:=h;(try simp only[decide_eq_true_eq,decide_eq_false_iff_not,Bool.not_eq_true',Bool.not_eq_false']at h2);refine walkp ?_)))
  all_goals (refine⟨⟨holdsB (by rfl) ?_,rfl⟩,.refl _⟩;first|(simp_all;done)|(simp_all;omega)|grind)
 refine walk ?_
 refine pwp_condD (fun h1=>?_) (fun h1=>?_)
 ·refine walk ?_
  refine end1 (.of_eq ?_)
  rw[rFields,if_pos h1]
 refine walk ?_
 refine pwp_condB (fun h2=>?_) (fun h2=>?_)
 ·refine walk ?_
  refine end1 (.of_eq ?_)
  simp only[Bool.not_eq_true']at h2
  rw[rFields,if_neg h1,if_pos h2]
 replace h2: ¬rEmpty (rRest c)=false:=by simpa using h2
 refine walk ?_
 refine pops_cutE [(27,.raw (.bool (decide (c.kind=1∧(c.type < 1∨4 < c.type))))),(1,.raw (.pointer (some ⟨b,0,none⟩)))] (.box b 88 (eChg c)::LF) ?_ ?_
 ·repeat' (first|(refine pwp_condD (fun h=>?_) (fun h=>?_)<;>refine walk ?_)|(refine pwp_condN (fun h=>?_) (fun h=>?_)<;>refine walk ?_)|(refine pwp_condB (fun h=>?_) (fun h=>?_)<;>refine walk ?_)|(refine pops_if (fun h=>?_) (fun h=>?_)<;>(have h2:=h;(try simp only[decide_eq_true_eq,decide_eq_false_iff_not,Bool.not_eq_true',Bool.not_eq_false']at h2);refine walkp ?_)))
  all_goals (refine⟨⟨holdsB (by rfl) ?_,rfl⟩,.refl _⟩;first|(simp_all;done)|(simp_all;omega)|grind)
 refine walk ?_
 refine pwp_condD (fun h3=>?_) (fun h3=>?_)
 ·refine walk ?_
  refine end1 (.of_eq ?_)
  rw[rFields,if_neg h1,if_neg h2,if_pos h3]
 refine walk ?_
 refine pops_cutE [(36,.raw (.bool (decide (c.kind=2∧rName c.name=false)))),(1,.raw (.pointer (some ⟨b,0,none⟩)))] (.box b 88 (eChg c)::LF) ?_ ?_
 ·repeat' (first|(refine pwp_condD (fun h=>?_) (fun h=>?_)<;>refine walk ?_)|(refine pwp_condN (fun h=>?_) (fun h=>?_)<;>refine walk ?_)|(refine pwp_condB (fun h=>?_) (fun h=>?_)<;>refine walk ?_)|(refine pops_if (fun h=>?_) (fun h=>?_)<;>(have h2:=h;(try simp only[decide_eq_true_eq,decide_eq_false_iff_not,Bool.not_eq_true',Bool.not_eq_false']at h2);refine walkp ?_)))
  all_goals (refine⟨⟨holdsB (by rfl) ?_,rfl⟩,.refl _⟩;first|(simp_all;done)|(simp_all;omega)|grind)
 refine walk ?_
 refine pwp_condD (fun h4=>?_) (fun h4=>?_)
 ·refine walk ?_
  refine end1 (.of_eq ?_)
  rw[rFields,if_neg h1,if_neg h2,if_neg h3,if_pos h4]
 refine walk ?_
 refine pops_cutE [(49,.raw (.bool (decide (c.kind=3∧(c.mode < 0∨511 < c.mode))))),(1,.raw (.pointer (some ⟨b,0,none⟩)))] (.box b 88 (eChg c)::LF) ?_ ?_
 ·repeat' (first|(refine pwp_condD (fun h=>?_) (fun h=>?_)<;>refine walk ?_)|(refine pwp_condN (fun h=>?_) (fun h=>?_)<;>refine walk ?_)|(refine pwp_condB (fun h=>?_) (fun h=>?_)<;>refine walk ?_)|(refine pops_if (fun h=>?_) (fun h=>?_)<;>(have h2:=h;(try simp only[decide_eq_true_eq,decide_eq_false_iff_not,Bool.not_eq_true',Bool.not_eq_false']at h2);refine walkp ?_)))
  all_goals (refine⟨⟨holdsB (by rfl) ?_,rfl⟩,.refl _⟩;first|(simp_all;done)|(simp_all;omega)|grind)
 refine walk ?_
 refine pwp_condD (fun h5=>?_) (fun h5=>?_)
 ·refine walk ?_
  refine end1 (.of_eq ?_)
  rw[rFields,if_neg h1,if_neg h2,if_neg h3,if_neg h4,if_pos h5]
 refine walk ?_
 refine pwp_condD (fun h6=>?_) (fun h6=>?_)
 ·refine walk ?_
  refine end1 (.of_eq ?_)
  rw[rFields,if_neg h1,if_neg h2,if_neg h3,if_neg h4,if_neg h5,if_pos h6]
 refine walk ?_
 refine pwp_condD (fun h7=>?_) (fun h7=>?_)
 ·refine walk ?_
  refine end1 (.of_eq ?_)
  rw[rFields,if_neg h1,if_neg h2,if_neg h3,if_neg h4,if_neg h5,if_neg h6,if_pos h7]
 refine walk ?_
 refine pops_cutE [(68,.raw (.bool (decide (c.kind=7∧(c.over.length:Int)=0)))),(1,.raw (.pointer (some ⟨b,0,none⟩)))] (.box b 88 (eChg c)::LF) ?_ ?_
 ·repeat' (first|(refine pwp_condD (fun h=>?_) (fun h=>?_)<;>refine walk ?_)|(refine pwp_condN (fun h=>?_) (fun h=>?_)<;>refine walk ?_)|(refine pwp_condB (fun h=>?_) (fun h=>?_)<;>refine walk ?_)|(refine pops_if (fun h=>?_) (fun h=>?_)<;>(have h2:=h;(try simp only[decide_eq_true_eq,decide_eq_false_iff_not,Bool.not_eq_true',Bool.not_eq_false']at h2);refine walkp ?_)))
  all_goals (refine⟨⟨holdsB (by rfl) ?_,rfl⟩,.refl _⟩;first|(simp_all;done)|(simp_all;omega)|grind)
 refine walk ?_
 refine pwp_condD (fun h8=>?_) (fun h8=>?_)
 ·refine walk ?_
  refine end1 (.of_eq ?_)
  rw[rFields,if_neg h1,if_neg h2,if_neg h3,if_neg h4,if_neg h5,if_neg h6,if_neg h7,if_pos h8]
 refine walk ?_
 refine pwp_condD (fun h9=>?_) (fun h9=>?_)
 ·refine walk ?_
  refine end1 (.of_eq ?_)
  rw[rFields,if_neg h1,if_neg h2,if_neg h3,if_neg h4,if_neg h5,if_neg h6,if_neg h7,if_neg h8,if_pos h9]
 refine walk ?_
 refine pwp_condB (fun h=>?_) (fun h=>?_)
 ·refine walk ?_
  refine end1 (.of_eq ?_)
  simp only[Bool.not_eq_true']at h
  rw[rFields,if_neg h1,if_neg h2,if_neg h3,if_neg h4,if_neg h5,if_neg h6,if_neg h7,if_neg h8,if_neg h9,if_pos h]
 ·refine walk ?_
  refine end1 (.of_eq ?_)
  replace h: ¬rAsc c.over=false:=by simpa using h
  rw[rFields,if_neg h1,if_neg h2,if_neg h3,if_neg h4,if_neg h5,if_neg h6,if_neg h7,if_neg h8,if_neg h9,if_neg h]⟩
end Go.Proofs
namespace Go.Proofs
open Go Go.Q
attribute [local irreducible] pwp pops PCalls OpN
def firstErr {α:Type} (f:α→Int):List α→Int
 | []=>0
 |x::l=>if f x=0 then firstErr f l else f x
theorem firstErr_zero {α:Type} {f:α→Int}: ∀ {l:List α},(∀ i (h:i < l.length),f l[i]=0)→firstErr f l=0
 | [],_=>rfl
 |x::l,h=>by
  have h0:=h 0 (by simp)
  simp only[List.getElem_cons_zero]at h0
  rw[firstErr,if_pos h0]
  exact firstErr_zero fun i hi=>by have:=h (i+1) (by simpa using hi);simpa using this
theorem firstErr_at {α:Type} {f:α→Int}: ∀ {l:List α} {k:Nat} (hk:k < l.length),(∀ i (h:i < l.length),i < k→f l[i]=0)→f l[k]≠0→firstErr f l=f l[k]
 |x::l,0,hk,_,hn=>by simp only[List.getElem_cons_zero]at hn ⊢;rw[firstErr,if_neg hn]
 |x::l,k+1,hk,h,hn=>by
  have h0:=h 0 (by simp) (by omega)
  simp only[List.getElem_cons_zero]at h0
  simp only[List.getElem_cons_succ]at hn ⊢
  rw[firstErr,if_pos h0]
  exact firstErr_at (by simpa using hk) (fun i hi hik=>by have:=h (i+1) (by simpa using hi) (by omega);simpa using this) hn
theorem upto_succ0 {α:Type} {l:List α} {f:α→Int} {k:Nat} (he: ∀ i (h:i < l.length),i < k→f l[i]=0) (hk:k < l.length) (h:f l[k]=0): ∀ i (h:i < l.length),i < k+1→f l[i]=0:=fun i hi hik=>by
 rcases Nat.lt_or_ge i k with h'|h'
 ·exact he i hi h'
 ·have:i=k:=by omega
  subst this;exact h
def rRoot:Ident:=⟨Dig.zero,-1⟩
def rRefF (c:Chg) (own:List Atm):Int:=if 2≤c.kind∧c.kind≤6 then rOne c.file own (rFitsFile c.kind (rGet own c.file))else 0
def rRefP (c:Chg) (own:List Atm):Int:=if c.kind=2∧c.parent≠rRoot then rOne c.parent own (rDirectory (rGet own c.parent))else 0
def rRefE (c:Chg) (own:List Atm) (x:Ident):Int:=rOne x own (decide (x=c.file)||rFitsEnd c.file (rGet own x))
def rRefO (c:Chg) (own:List Atm) (x:Ident):Int:=rOne x own (rFitsOver c.kind c.file (rGet own x))
def rRefEs (c:Chg) (own:List Atm):Int:=if rText c.kind=true then firstErr (rRefE c own) [c.after,c.before]else 0
def rRefs (c:Chg) (own:List Atm):Int:=
 if rRefF c own≠0 then rRefF c own else if rRefP c own≠0 then rRefP c own else if rRefEs c own≠0 then rRefEs c own else
 if firstErr (rRefO c own) c.over≠0 then firstErr (rRefO c own) c.over else if c.kind=2∧c.parent=c.file then 20 else
 if(rText c.kind=true∧c.after=c.before)∧(c.kind=6∨c.after≠c.file)then 1 else 0
set_option maxHeartbeats 2000000 in
instance references_ct (c:Chg) (own:List Atm) (t:Tag):FnC Tryz.prog 216 [.agg (eChg c),.slice (own.map eAtm) t] (.raw (.int .i64 (rRefs c own))):=⟨by
 refine fn_of Tryz.func216 Tryz.ntmps216 rfl (rs:= [.tmp 4]) rfl rfl fun hb LF=>?_
 have hlen:c.over.length≤140737488355328:=((hb (.agg (eChg c)) (by simp)).agg_at (c:= .slice (c.over.map eIdent) .ro) (by simp[eChg])).slice_map
 refine walkb fun b=>?_
 refine pops_cutE [(20,.raw (.bool (decide (2≤c.kind∧c.kind≤6)))),(1,.slice (own.map eAtm) t),(2,.raw (.pointer (some ⟨b,0,none⟩)))] (.box b 88 (eChg c)::LF) ?_ ?_
 ·repeat' (first|(refine pwp_condD (fun h=>?_) (fun h=>?_)<;>refine walk ?_)|(refine pwp_condN (fun h=>?_) (fun h=>?_)<;>refine walk ?_)|(refine pwp_condB (fun h=>?_) (fun h=>?_)<;>refine walk ?_)|(refine pops_if (fun h=>?_) (fun h=>?_)<;>(have h2:=h;(try simp only[decide_eq_true_eq,decide_eq_false_iff_not,Bool.not_eq_true',Bool.not_eq_false']at h2);refine walkp ?_)))
  all_goals (refine⟨⟨holdsB (by rfl) ?_,rfl,rfl⟩,.refl _⟩;first|(simp_all;done)|(simp_all;omega)|grind)
 refine walk ?_
 refine pwp_join (rRefF c own=0) [(1,.slice (own.map eAtm) t),(2,.raw (.pointer (some ⟨b,0,none⟩)))] (.box b 88 (eChg c)::LF) ?_ fun hF=>?_
 ·refine pwp_condD (fun h=>?_) (fun h=>?_)
  ·refine walk ?_
   have e:rRefF c own=rOne c.file own (rFitsFile c.kind (rGet own c.file)):=by rw[rRefF,if_pos h]
   refine pwp_condN (fun h'=>?_) (fun h'=>?_)
   ·refine walk ?_
    refine end1 (.of_eq ?_)
    rw[rRefs,if_pos (by rw[e];exact h'),e]
   ·refine walk ?_
    exact⟨e.trans h',⟨rfl,rfl⟩,.refl _⟩
  ·refine walk ?_
   exact⟨by rw[rRefF,if_neg h],⟨rfl,rfl⟩,.refl _⟩
 refine walk ?_
 refine pops_cutE [(43,.raw (.bool (decide (c.kind=2∧c.parent≠rRoot)))),(1,.slice (own.map eAtm) t),(2,.raw (.pointer (some ⟨b,0,none⟩)))] (.box b 88 (eChg c)::LF) ?_ ?_
 ·repeat' (first|(refine pwp_condD (fun h=>?_) (fun h=>?_)<;>refine walk ?_)|(refine pwp_condN (fun h=>?_) (fun h=>?_)<;>refine walk ?_)|(refine pwp_condB (fun h=>?_) (fun h=>?_)<;>refine walk ?_)|(refine pops_if (fun h=>?_) (fun h=>?_)<;>(have h2:=h;(try simp only[decide_eq_true_eq,decide_eq_false_iff_not,Bool.not_eq_true',Bool.not_eq_false']at h2);refine walkp ?_)))
  all_goals (refine⟨⟨holdsB (by rfl) ?_,rfl,rfl⟩,.refl _⟩;simp_all[rRoot])
 refine walk ?_
 refine pwp_join (rRefP c own=0) [(1,.slice (own.map eAtm) t),(2,.raw (.pointer (some ⟨b,0,none⟩)))] (.box b 88 (eChg c)::LF) ?_ fun hP=>?_
 ·refine pwp_condD (fun h=>?_) (fun h=>?_)
  ·refine walkb fun b2=>?_
   have e:rRefP c own=rOne c.parent own (rDirectory (rGet own c.parent)):=by rw[rRefP,if_pos h]
   refine pops_if (fun hp=>?_) (fun hp=>?_)
   ·refine walkp ?_
    have e2:rDirectory (rGet own c.parent)=decide ((rGet own c.parent).type=4):=by rw[rDirectory,hp,Bool.true_and]
    rw[e2]at e
    refine pwp_condN (fun h'=>?_) (fun h'=>?_)
    ·refine walk ?_
     refine end1 (.of_eq ?_)
     rw[rRefs,if_neg (by simp[hF]),if_pos (by rw[e];exact h'),e]
    ·refine walk ?_
     exact⟨e.trans h',⟨rfl,rfl⟩,.cons _ (.refl _)⟩
   ·refine walkp ?_
    have e2:rDirectory (rGet own c.parent)=false:=by rw[rDirectory,hp,Bool.false_and]
    rw[e2]at e
    refine pwp_condN (fun h'=>?_) (fun h'=>?_)
    ·refine walk ?_
     refine end1 (.of_eq ?_)
     rw[rRefs,if_neg (by simp[hF]),if_pos (by rw[e];exact h'),e]
    ·refine walk ?_
     exact⟨e.trans h',⟨rfl,rfl⟩,.cons _ (.refl _)⟩
  ·refine walk ?_
   exact⟨by rw[rRefP,if_neg h],⟨rfl,rfl⟩,.refl _⟩
 refine walk ?_
 refine pwp_join (rRefEs c own=0) [(1,.slice (own.map eAtm) t),(2,.raw (.pointer (some ⟨b,0,none⟩)))] (.box b 88 (eChg c)::LF) ?_ fun hE=>?_
 ·refine pwp_condB (fun h=>?_) (fun h=>?_)
  ·refine walk ?_
   have e:rRefEs c own=firstErr (rRefE c own) [c.after,c.before]:=by rw[rRefEs,if_pos h]
   generalize hends: [c.after,c.before]=ends at e
   have hl2:ends.length=2:=by rw[←hends];rfl
   refine pwp_loopS (σ:=Nat) (fun k=>k≤2∧ ∀ i (h:i < ends.length),i < k→rRefE c own ends[i]=0) (fun k=>2 - k) (fun k=> [(1,.slice (own.map eAtm) t),(2,.raw (.pointer (some ⟨b,0,none⟩))),(8,.slice (ends.map eIdent) .ro),(9,.raw (.int .i64 k))]) (fun _=> .box b 88 (eChg c)::LF) 0 ⟨by simp,by simp⟩ ⟨rfl,rfl,by rw[←hends];rfl,rfl⟩ (.refl _) ?_
   rintro k ⟨hk,he⟩
   refine walk ?_
   refine pwp_condD (fun hc=>?_) (fun hc=>?_)
   ·have hlt:k < ends.length:=by omega
    refine walk ?_
    refine pops_if (fun hp=>?_) (fun hp=>?_)
    ·refine walkp ?_
     have e2:rRefE c own ends[k]=rOne ends[k] own true:=by rw[rRefE,hp,Bool.true_or]
     refine pwp_condN (fun h'=>?_) (fun h'=>?_)
     ·refine walk ?_
      refine end1 (.of_eq ?_)
      have e3:rRefEs c own=rOne ends[k] own true:=by rw[e,firstErr_at hlt he (by rw[e2];exact h'),e2]
      rw[rRefs,if_neg (by simp[hF]),if_neg (by simp[hP]),if_pos (by rw[e3];exact h'),e3]
     ·refine walk ?_
      exact⟨k+1,⟨by omega,upto_succ0 he hlt (e2.trans h')⟩,by dsimp only;omega,⟨rfl,rfl,rfl,rfl⟩,.refl _⟩
    ·refine walkp ?_
     have e2:rRefE c own ends[k]=rOne ends[k] own (rFitsEnd c.file (rGet own ends[k])):=by rw[rRefE,hp,Bool.false_or]
     refine pwp_condN (fun h'=>?_) (fun h'=>?_)
     ·refine walk ?_
      refine end1 (.of_eq ?_)
      have e3:rRefEs c own=rOne ends[k] own (rFitsEnd c.file (rGet own ends[k])):=by rw[e,firstErr_at hlt he (by rw[e2];exact h'),e2]
      rw[rRefs,if_neg (by simp[hF]),if_neg (by simp[hP]),if_pos (by rw[e3];exact h'),e3]
     ·refine walk ?_
      exact⟨k+1,⟨by omega,upto_succ0 he hlt (e2.trans h')⟩,by dsimp only;omega,⟨rfl,rfl,rfl,rfl⟩,.refl _⟩
   ·refine walk ?_
    exact⟨by rw[e,firstErr_zero fun i h=>he i h (by omega)],⟨rfl,rfl⟩,.refl _⟩
  ·refine walk ?_
   exact⟨by rw[rRefEs,if_neg (by simp[h])],⟨rfl,rfl⟩,.refl _⟩
 refine walk ?_
 refine pwp_loopS (σ:=Nat) (fun k=>k≤c.over.length∧ ∀ i (h:i < c.over.length),i < k→rRefO c own c.over[i]=0) (fun k=>c.over.length - k) (fun k=> [(1,.slice (own.map eAtm) t),(2,.raw (.pointer (some ⟨b,0,none⟩))),(11,.raw (.int .i64 k))]) (fun _=> .box b 88 (eChg c)::LF) 0 ⟨by simp,by simp⟩ ⟨rfl,rfl,rfl⟩ (.refl _) ?_
 rintro k ⟨hk,he⟩
 refine walk ?_
 refine pwp_condD (fun hc=>?_) (fun hc=>?_)
 ·have hlt:k < c.over.length:=by omega
  refine walk ?_
  refine pwp_condN (fun h'=>?_) (fun h'=>?_)
  ·refine walk ?_
   refine end1 (.of_eq ?_)
   have e3:firstErr (rRefO c own) c.over=rRefO c own c.over[k]:=firstErr_at hlt he h'
   rw[rRefs,if_neg (by simp[hF]),if_neg (by simp[hP]),if_neg (by simp[hE]),if_pos (by rw[e3];exact h'),e3];rfl
  ·refine walk ?_
   exact⟨k+1,⟨by omega,upto_succ0 he hlt h'⟩,by dsimp only;omega,⟨rfl,rfl,rfl⟩,.refl _⟩
 have hO:firstErr (rRefO c own) c.over=0:=firstErr_zero fun i h=>he i h (by omega)
 refine walk ?_
 refine pops_cutE [(140,.raw (.bool (decide (c.kind=2∧c.parent=c.file)))),(2,.raw (.pointer (some ⟨b,0,none⟩)))] (.box b 88 (eChg c)::LF) ?_ ?_
 ·repeat' (first|(refine pwp_condD (fun h=>?_) (fun h=>?_)<;>refine walk ?_)|(refine pwp_condN (fun h=>?_) (fun h=>?_)<;>refine walk ?_)|(refine pwp_condB (fun h=>?_) (fun h=>?_)<;>refine walk ?_)|(refine pops_if (fun h=>?_) (fun h=>?_)<;>(have h2:=h;(try simp only[decide_eq_true_eq,decide_eq_false_iff_not,Bool.not_eq_true',Bool.not_eq_false']at h2);refine walkp ?_)))
  all_goals (refine⟨⟨holdsB (by rfl) ?_,rfl⟩,.refl _⟩;first|(simp_all;done)|(simp_all;omega)|grind)
 refine walk ?_
 refine pwp_condD (fun h1=>?_) (fun h1=>?_)
 ·refine walk ?_
  refine end1 (.of_eq ?_)
  rw[rRefs,if_neg (by simp[hF]),if_neg (by simp[hP]),if_neg (by simp[hE]),if_neg (by simp[hO]),if_pos h1]
 refine walk ?_
 refine pops_cutE [(162,.raw (.bool (decide ((rText c.kind=true∧c.after=c.before)∧(c.kind=6∨c.after≠c.file))))),(2,.raw (.pointer (some ⟨b,0,none⟩)))] (.box b 88 (eChg c)::LF) ?_ ?_
 ·repeat' (first|(refine pwp_condD (fun h=>?_) (fun h=>?_)<;>refine walk ?_)|(refine pwp_condN (fun h=>?_) (fun h=>?_)<;>refine walk ?_)|(refine pwp_condB (fun h=>?_) (fun h=>?_)<;>refine walk ?_)|(refine pops_if (fun h=>?_) (fun h=>?_)<;>(have h2:=h;(try simp only[decide_eq_true_eq,decide_eq_false_iff_not,Bool.not_eq_true',Bool.not_eq_false']at h2);refine walkp ?_)))
  all_goals (refine⟨⟨holdsB (by rfl) ?_,rfl⟩,.refl _⟩;first|(simp_all;done)|(simp_all;omega)|grind)
 refine walk ?_
 refine pwp_condD (fun h2=>?_) (fun h2=>?_)
 ·refine walk ?_
  refine end1 (.of_eq ?_)
  rw[rRefs,if_neg (by simp[hF]),if_neg (by simp[hP]),if_neg (by simp[hE]),if_neg (by simp[hO]),if_neg h1,if_pos h2]
 ·refine walk ?_
  refine end1 (.of_eq ?_)
  rw[rRefs,if_neg (by simp[hF]),if_neg (by simp[hP]),if_neg (by simp[hE]),if_neg (by simp[hO]),if_neg h1,if_neg h2]⟩
end Go.Proofs
namespace Go.Proofs
open Go Go.Q
attribute [local irreducible] pwp pops PCalls OpN
def rDepE (l:List Dig) (i:Nat):Int:=if l.getD i Dig.zero=Dig.zero then 1 else if 0 < (i:Int)∧0≤cmpD (l.getD (i - 1) Dig.zero) (l.getD i Dig.zero)then 9 else 0
def rDeps (l:List Dig):Int:=if 100 < (l.length:Int)then 4 else firstErr (rDepE l) (List.range l.length)
instance deps_ct (l:List Dig) (t:Tag):FnC Tryz.prog 176 [.slice (l.map eDig) t] (.raw (.int .i64 (rDeps l))):=⟨by
 refine fn_of Tryz.func176 Tryz.ntmps176 rfl (rs:= [.tmp 2]) rfl rfl fun hb LF=>?_
 have hlen:l.length≤140737488355328:=(hb (.slice (l.map eDig) t) (by simp)).slice_map
 refine walk ?_
 refine pwp_condD (fun h1=>?_) (fun h1=>?_)
 ·refine walk ?_
  refine end1 (.of_eq ?_)
  rw[rDeps,if_pos h1]
 refine walk ?_
 refine pwp_loopS (σ:=Nat) (fun k=>k≤l.length∧ ∀ i (h:i < (List.range l.length).length),i < k→rDepE l (List.range l.length)[i]=0) (fun k=>l.length - k) (fun k=> [(0,.slice (l.map eDig) t),(3,.raw (.int .i64 k))]) (fun _=>LF) 0 ⟨by simp,by simp⟩ ⟨rfl,rfl⟩ (.refl _) ?_
 rintro k ⟨hk,he⟩
 refine walk ?_
 refine pwp_condD (fun hc=>?_) (fun hc=>?_)
 ·have hlt:k < l.length:=by omega
  have hltr:k < (List.range l.length).length:=by simpa using hlt
  have ek:(List.range l.length)[k]=k:=by simp
  have e0:l.getD k Dig.zero=l[k]:=by simp[List.getD,hlt]
  refine walk ?_
  refine pwp_condD (fun h2=>?_) (fun h2=>?_)
  ·refine walk ?_
   refine end1 (.of_eq ?_)
   have e:rDepE l (List.range l.length)[k]=1:=by rw[ek,rDepE,e0,if_pos h2]
   rw[rDeps,if_neg h1,firstErr_at hltr he (by rw[e];decide),e]
  refine walk ?_
  refine pops_if (fun hp=>?_) (fun hp=>?_)
  ·have hp':0 < (k:Int):=of_decide_eq_true hp
   refine walkp ?_
   have e1:l.getD (k - 1) Dig.zero=l[((k:Int) - 1).toNat]:=by
    have:((k:Int) - 1).toNat=k - 1:=by omega
    simp only[this]
    have h':k - 1 < l.length:=by omega
    simp[List.getD,h']
   refine pwp_condD (fun h3=>?_) (fun h3=>?_)
   ·refine walk ?_
    refine end1 (.of_eq ?_)
    have e:rDepE l (List.range l.length)[k]=9:=by rw[ek,rDepE,e0,e1,if_neg h2,if_pos ⟨hp',h3⟩]
    rw[rDeps,if_neg h1,firstErr_at hltr he (by rw[e];decide),e]
   ·refine walk ?_
    have e:rDepE l (List.range l.length)[k]=0:=by rw[ek,rDepE,e0,e1,if_neg h2,if_neg (fun h=>h3 h.2)]
    exact⟨k+1,⟨by omega,upto_succ0 he hltr e⟩,by dsimp only;omega,⟨rfl,rfl⟩,.refl _⟩
  ·have hp': ¬0 < (k:Int):=of_decide_eq_false hp
   refine walkp ?_
   have e:rDepE l (List.range l.length)[k]=0:=by rw[ek,rDepE,e0,if_neg h2,if_neg (fun h=>hp' h.1)]
   exact⟨k+1,⟨by omega,upto_succ0 he hltr e⟩,by dsimp only;omega,⟨rfl,rfl⟩,.refl _⟩
 ·refine walk ?_
  refine end1 (.of_eq ?_)
  rw[rDeps,if_neg h1,firstErr_zero fun i h=>he i h (by simp at h;omega)]⟩
def rLineA (c:Chg) (first:Int) (i:Nat):Atm:={ Atm.zero with id:=⟨Dig.zero,first+i⟩,kind:=5,file:=c.file,text:=c.lines.getD i [] }
def rEdgeA (c:Chg) (first:Int) (i:Nat):Atm:={ Atm.zero with id:=⟨Dig.zero,first+c.lines.length+i⟩,kind:=6,file:=c.file,src:=if 0 < (i:Int)then⟨Dig.zero,first+i - 1⟩else c.after,dst:=if(i:Int) < c.lines.length then⟨Dig.zero,first+i⟩else c.before }
def rMade (c:Chg) (first:Int):List Atm:=
 if c.kind=1 then [{ Atm.zero with id:=⟨Dig.zero,first⟩,kind:=1,file:=⟨Dig.zero,first⟩,type:=c.type }]else
 if c.kind=2 then [{ Atm.zero with id:=⟨Dig.zero,first⟩,kind:=2,file:=c.file,parent:=c.parent,name:=c.name,over:=c.over }]else
 if c.kind=3 then [{ Atm.zero with id:=⟨Dig.zero,first⟩,kind:=3,file:=c.file,mode:=c.mode,over:=c.over }]else
 if c.kind=4 then [{ Atm.zero with id:=⟨Dig.zero,first⟩,kind:=4,file:=c.file,data:=c.data,over:=c.over }]else
 if c.kind=6 then [{ Atm.zero with id:=⟨Dig.zero,first⟩,kind:=6,file:=c.file,src:=c.after,dst:=c.before,over:=c.over }]else
 if c.kind=7 then [{ Atm.zero with id:=⟨Dig.zero,first⟩,kind:=7,over:=c.over }]else
 (List.range c.lines.length).map (rLineA c first)++(List.range (c.lines.length+1)).map (rEdgeA c first)
theorem rMade_len (c:Chg) (first:Int):(rMade c first).length≤2*c.lines.length+1:=by
 unfold rMade
 repeat' split
 all_goals first|(simp only[List.length_cons,List.length_nil];omega)|(simp only[List.length_append,List.length_map,List.length_range];omega)
set_option maxHeartbeats 2000000 in
instance Made_ct (c:Chg) (first:Int) [hs:Small (c.lines.length≤2000∧0≤first∧first≤1000000000)]:FnC Tryz.prog 217 [.agg (eChg c),.raw (.int .i64 first)] (.slice ((rMade c first).map eAtm) .ro):=⟨by
 refine fn_of Tryz.func217 Tryz.ntmps217 rfl (rs:= [.tmp 4]) rfl rfl fun hb LF=>?_
 obtain⟨hl,hf0,hf1⟩:=hs.out
 refine walkb fun b=>?_
 refine walkbp fun b2=>?_
 refine pwp_condD (fun h1=>?_) (fun h1=>?_)
 ·refine walk ?_
  refine end1 (.of_eq ?_)
  rw[rMade,if_pos h1];rfl
 refine walk ?_
 refine pwp_condD (fun h2=>?_) (fun h2=>?_)
 ·refine walk ?_
  refine end1 (.of_eq ?_)
  rw[rMade,if_neg h1,if_pos h2];rfl
 refine walk ?_
 refine pwp_condD (fun h3=>?_) (fun h3=>?_)
 ·refine walk ?_
  refine end1 (.of_eq ?_)
  rw[rMade,if_neg h1,if_neg h2,if_pos h3];rfl
 refine walk ?_
 refine pwp_condD (fun h4=>?_) (fun h4=>?_)
 ·refine walk ?_
  refine end1 (.of_eq ?_)
  rw[rMade,if_neg h1,if_neg h2,if_neg h3,if_pos h4];rfl
 refine walk ?_
 refine pwp_condD (fun h6=>?_) (fun h6=>?_)
 ·refine walk ?_
  refine end1 (.of_eq ?_)
  rw[rMade,if_neg h1,if_neg h2,if_neg h3,if_neg h4,if_pos h6];rfl
 refine walk ?_
 refine pwp_condD (fun h7=>?_) (fun h7=>?_)
 ·refine walk ?_
  refine end1 (.of_eq ?_)
  rw[rMade,if_neg h1,if_neg h2,if_neg h3,if_neg h4,if_neg h6,if_pos h7];rfl
 refine walk ?_
 refine pwp_tok 172 ?_
 refine pwp_loopS (σ:=Nat × Tag) (fun k=>k.1≤c.lines.length) (fun k=>c.lines.length - k.1) (fun k=> [(1,.raw (.int .i64 first)),(2,.raw (.pointer (some ⟨b,0,none⟩))),(6,.slice (((List.range k.1).map (rLineA c first)).map eAtm) k.2),(7,.raw (.int .i64 c.lines.length)),(8,.raw (.int .i64 k.1))]) (fun k=> .tok k.2 ((List.range k.1).map (rLineA c first)).length 172:: .box b 88 (eChg c)::LF) (0,.nil) (by simp) ⟨rfl,rfl,rfl,rfl,rfl⟩ (.cons_cons _ (.cons _ (.refl _))) ?_
 rintro⟨k,v⟩ hk
 dsimp only at hk
 refine walk ?_
 refine pwp_condD (fun hc=>?_) (fun hc=>?_)
 ·have hlt:k < c.lines.length:=by omega
  have hll:((List.range k).map (rLineA c first)).length=k:=by simp
  generalize hB:(List.range k).map (rLineA c first)=B at hll ⊢
  refine walkn ?_
  refine pwp_drawN 14 ?_ ?_
  ·decide+kernel
  refine walkap fun v'=>?_
  have e:(List.range (k+1)).map (rLineA c first)=(List.range k).map (rLineA c first)++ [rLineA c first k]:=by rw[List.range_succ,List.map_append];rfl
  rw[hB]at e
  have e2:rLineA c first k= { Atm.zero with id:=⟨Dig.zero,first+k⟩,kind:=5,file:=c.file,text:=c.lines[k] }:=by simp[rLineA,List.getD,hlt]
  rw[e2]at e
  refine⟨(k+1,v'),by dsimp only;omega,by dsimp only;omega,⟨rfl,rfl,by dsimp only;rw[e];rfl,rfl,rfl⟩,by dsimp only;rw[e];exact .refl _⟩
 have hkk:k=c.lines.length:=by omega
 subst hkk
 refine walk ?_
 generalize hA:(List.range c.lines.length).map (rLineA c first)=A
 have hAl:A.length=c.lines.length:=by rw[←hA];simp
 refine pwp_loopS (σ:=Nat × Tag) (fun k=>k.1≤c.lines.length+1) (fun k=>c.lines.length+1 - k.1) (fun k=> [(1,.raw (.int .i64 first)),(2,.raw (.pointer (some ⟨b,0,none⟩))),(6,.slice ((A++(List.range k.1).map (rEdgeA c first)).map eAtm) k.2),(7,.raw (.int .i64 c.lines.length)),(9,.raw (.int .i64 k.1))]) (fun k=> .tok k.2 (A++(List.range k.1).map (rEdgeA c first)).length 172:: .box b 88 (eChg c)::LF) (0,v) (by simp) ⟨rfl,rfl,by simp only[List.range_zero,List.map_nil,List.append_nil];rfl,rfl,rfl⟩ (by simp only[List.range_zero,List.map_nil,List.append_nil];exact .refl _) ?_
 rintro⟨k,v⟩ hk
 dsimp only at hk
 refine walk ?_
 refine pwp_condD (fun hc=>?_) (fun hc=>?_)
 ·have hll:(A++(List.range k).map (rEdgeA c first)).length=c.lines.length+k:=by simp[hAl]
  have e:A++(List.range (k+1)).map (rEdgeA c first)=(A++(List.range k).map (rEdgeA c first))++ [rEdgeA c first k]:=by rw[List.range_succ,List.map_append,List.append_assoc];rfl
  generalize hB:A++(List.range k).map (rEdgeA c first)=B at hll e ⊢
  refine walkb fun b3=>?_
  refine pwp_condD (fun h8=>?_) (fun h8=>?_)
  ·refine walk ?_
   refine pwp_condD (fun h9=>?_) (fun h9=>?_)
   ·refine walka fun v'=>?_
    have e2:rEdgeA c first k= { Atm.zero with id:=⟨Dig.zero,first+c.lines.length+k⟩,kind:=6,file:=c.file,src:=⟨Dig.zero,first+k - 1⟩,dst:=⟨Dig.zero,first+k⟩ }:=by rw[rEdgeA,if_pos h8,if_pos h9]
    rw[e2]at e
    refine⟨(k+1,v'),by dsimp only;omega,by dsimp only;omega,⟨rfl,rfl,by dsimp only;rw[e];rfl,rfl,rfl⟩,by dsimp only;rw[e];exact .cons _ (.refl _)⟩
   ·refine walka fun v'=>?_
    have e2:rEdgeA c first k= { Atm.zero with id:=⟨Dig.zero,first+c.lines.length+k⟩,kind:=6,file:=c.file,src:=⟨Dig.zero,first+k - 1⟩,dst:=c.before }:=by rw[rEdgeA,if_pos h8,if_neg h9]
    rw[e2]at e
    refine⟨(k+1,v'),by dsimp only;omega,by dsimp only;omega,⟨rfl,rfl,by dsimp only;rw[e];rfl,rfl,rfl⟩,by dsimp only;rw[e];exact .cons _ (.refl _)⟩
  ·refine walk ?_
   refine pwp_condD (fun h9=>?_) (fun h9=>?_)
   ·refine walka fun v'=>?_
    have e2:rEdgeA c first k= { Atm.zero with id:=⟨Dig.zero,first+c.lines.length+k⟩,kind:=6,file:=c.file,src:=c.after,dst:=⟨Dig.zero,first+k⟩ }:=by rw[rEdgeA,if_neg h8,if_pos h9]
    rw[e2]at e
    refine⟨(k+1,v'),by dsimp only;omega,by dsimp only;omega,⟨rfl,rfl,by dsimp only;rw[e];rfl,rfl,rfl⟩,by dsimp only;rw[e];exact .cons _ (.refl _)⟩
   ·refine walka fun v'=>?_
    have e2:rEdgeA c first k= { Atm.zero with id:=⟨Dig.zero,first+c.lines.length+k⟩,kind:=6,file:=c.file,src:=c.after,dst:=c.before }:=by rw[rEdgeA,if_neg h8,if_neg h9]
    rw[e2]at e
    refine⟨(k+1,v'),by dsimp only;omega,by dsimp only;omega,⟨rfl,rfl,by dsimp only;rw[e];rfl,rfl,rfl⟩,by dsimp only;rw[e];exact .cons _ (.refl _)⟩
 ·refine walk ?_
  refine end1 (.ros ?_)
  have hkk:k=c.lines.length+1:=by omega
  subst hkk
  rw[rMade,if_neg h1,if_neg h2,if_neg h3,if_neg h4,if_neg h6,if_neg h7,hA]⟩
end Go.Proofs
namespace Go.Proofs
open Go Go.Q
attribute [local irreducible] pwp pops PCalls OpN
theorem rFields_lines {c:Chg} (h:rFields c=0):c.lines.length≤2000:=by
 unfold rFields at h
 split at h
 ·omega
 split at h
 ·omega
 rename_i h2
 split at h
 ·omega
 split at h
 ·omega
 split at h
 ·omega
 split at h
 ·omega
 split at h
 ·unfold rLines at h
  split at h
  ·omega
  split at h
  ·omega
  ·omega
 ·rename_i h7
  simp only[Bool.not_eq_false,rEmpty,Bool.and_eq_true,decide_eq_true_eq,rRest,h7,if_false]at h2
  omega
def rChanges:List Chg→List Atm→List Atm × Int
 | [],own=>(own,0)
 |c::l,own=>if rFields c≠0 then([],rFields c)else if rRefs c own≠0 then([],rRefs c own)else rChanges l (own++rMade c own.length)
theorem rChanges_step {l:List Chg} {k:Nat} (hk:k < l.length) (own:List Atm):rChanges (l.drop k) own=if rFields l[k]≠0 then([],rFields l[k])else if rRefs l[k] own≠0 then([],rRefs l[k] own)else rChanges (l.drop (k+1)) (own++rMade l[k] own.length):=by
 rw[List.drop_eq_getElem_cons hk,rChanges]
set_option maxHeartbeats 1000000 in
instance changes_ct (l:List Chg) (t:Tag) [hs:Small (l.length≤400)]:FnC Tryz.prog 177 [.slice (l.map eChg) t] (.tuple [.slice ((rChanges l []).1.map eAtm) .ro,.raw (.int .i64 (rChanges l []).2)]):=⟨by
 refine fn_of Tryz.func177 Tryz.ntmps177 rfl (rs:= [.tmp 2,.tmp 3]) rfl rfl fun hb LF=>?_
 have hl:=hs.out
 refine walk ?_
 refine pwp_tok 172 ?_
 refine pwp_loopS (σ:=Nat × Tag × List Atm) (fun k=>k.1≤l.length∧k.2.2.length≤k.1*4001∧rChanges l []=rChanges (l.drop k.1) k.2.2) (fun k=>l.length - k.1) (fun k=> [(0,.slice (l.map eChg) t),(4,.slice (k.2.2.map eAtm) k.2.1),(5,.raw (.int .i64 k.1))]) (fun k=> .tok k.2.1 k.2.2.length 172::LF) (0,.nil,[]) ⟨by simp,by simp,by simp⟩ ⟨rfl,rfl,rfl⟩ (.refl _) ?_
 rintro⟨k,v,own⟩ ⟨hk,hlen,he⟩
 dsimp only at hk hlen he
 refine walk ?_
 refine pwp_condD (fun hc=>?_) (fun hc=>?_)
 ·have hlt:k < l.length:=by omega
  rw[rChanges_step hlt]at he
  refine walk ?_
  refine pwp_condN (fun h1=>?_) (fun h1=>?_)
  ·refine walk ?_
   rw[if_pos h1]at he
   refine end2 (.tuple2 ?_ (.of_eq ?_))
   ·rw[he];exact .ro _ _
   ·rw[he]
  rw[if_neg (by simp[h1])]at he
  refine walk ?_
  refine pwp_condN (fun h2=>?_) (fun h2=>?_)
  ·refine walk ?_
   rw[if_pos h2]at he
   refine end2 (.tuple2 ?_ (.of_eq ?_))
   ·rw[he];exact .ro _ _
   ·rw[he]
  rw[if_neg (by simp[h2])]at he
  have hll:l[k].lines.length≤2000:=rFields_lines h1
  have hmm:=rMade_len l[k] own.length
  have:Small (l[k].lines.length≤2000∧(0:Int)≤own.length∧(own.length:Int)≤1000000000):=⟨hll,by omega,by omega⟩
  refine walka fun v'=>?_
  refine⟨(k+1,v',own++rMade l[k] own.length),⟨by dsimp only;omega,by dsimp only;rw[List.length_append];omega,he⟩,by dsimp only;omega,⟨rfl,rfl,rfl⟩,.refl _⟩
 ·refine walk ?_
  have hkk:l.drop k= []:=List.drop_eq_nil_of_le (by omega)
  rw[hkk]at he
  refine end2 (.tuple2 ?_ (.of_eq ?_))
  ·rw[he];exact .ro _ _
  ·rw[he];rfl⟩
def rCheckP (p:Pat):List Atm × Int:=
 if rName p.author=false then([],5)else if 1000 < (p.message.length:Int)then([],4)else if p.time < 0∨1099511627776 < p.time then([],2)else
 if rDeps p.deps≠0 then([],rDeps p.deps)else if(p.changes.length:Int)=0 then([],1)else if 400 < (p.changes.length:Int)then([],4)else rChanges p.changes []
instance checkP_ct (p:Pat):FnC Tryz.prog 142 [.agg (ePat p)] (.tuple [.slice ((rCheckP p).1.map eAtm) .ro,.raw (.int .i64 (rCheckP p).2)]):=⟨by
 refine fn_of Tryz.func142 Tryz.ntmps142 rfl (rs:= [.tmp 2,.tmp 3]) rfl rfl fun hb LF=>?_
 refine walkb fun b=>?_
 refine pwp_condB (fun h1=>?_) (fun h1=>?_)
 ·refine walk ?_
  rw[rCheckP,if_pos (by simpa using h1)]
  refine end2 ?_;exact .tuple2 (.ro _ _) (.refl _)
 rw[rCheckP,if_neg (by simpa using h1)]
 refine walk ?_
 refine pwp_condD (fun h2=>?_) (fun h2=>?_)
 ·refine walk ?_
  rw[if_pos h2]
  refine end2 ?_;exact .tuple2 (.ro _ _) (.refl _)
 rw[if_neg h2]
 refine walk ?_
 refine pops_cutE [(20,.raw (.bool (decide (p.time < 0∨1099511627776 < p.time)))),(1,.raw (.pointer (some ⟨b,0,none⟩)))] (.box b 44 (ePat p)::LF) ?_ ?_
 ·repeat' (first|(refine pwp_condD (fun h=>?_) (fun h=>?_)<;>refine walk ?_)|(refine pwp_condN (fun h=>?_) (fun h=>?_)<;>refine walk ?_)|(refine pwp_condB (fun h=>?_) (fun h=>?_)<;>refine walk ?_)|(refine pops_if (fun h=>?_) (fun h=>?_)<;>(have h2:=h;(try simp only[decide_eq_true_eq,decide_eq_false_iff_not,Bool.not_eq_true',Bool.not_eq_false']at h2);refine walkp ?_)))
  all_goals (refine⟨⟨holdsB (by rfl) ?_,rfl⟩,.refl _⟩;first|(simp_all;done)|(simp_all;omega)|grind)
 refine walk ?_
 refine pwp_condD (fun h3=>?_) (fun h3=>?_)
 ·refine walk ?_
  rw[if_pos h3]
  refine end2 ?_;exact .tuple2 (.ro _ _) (.refl _)
 rw[if_neg h3]
 refine walk ?_
 refine pwp_condN (fun h4=>?_) (fun h4=>?_)
 ·refine walk ?_
  rw[if_pos h4]
  refine end2 ?_;exact .tuple2 (.ro _ _) (.refl _)
 rw[if_neg (by simp[h4])]
 refine walk ?_
 refine pwp_condD (fun h5=>?_) (fun h5=>?_)
 ·refine walk ?_
  rw[if_pos h5]
  refine end2 ?_;exact .tuple2 (.ro _ _) (.refl _)
 rw[if_neg h5]
 refine walk ?_
 refine pwp_condD (fun h6=>?_) (fun h6=>?_)
 ·refine walk ?_
  rw[if_pos h6]
  refine end2 ?_;exact .tuple2 (.ro _ _) (.refl _)
 rw[if_neg h6]
 have:Small (p.changes.length≤400):=⟨by omega⟩
 refine walk ?_
 refine end2 ?_;exact .refl _⟩
end Go.Proofs
namespace Go.Proofs
open Go Go.Q
attribute [local irreducible] pwp pops PCalls OpN
def rDecF:Nat→Nat→Str
 |0,n=> [UInt8.ofNat (48+n)]
 |f+1,n=>if n < 10 then [UInt8.ofNat (48+n)]else rDecF f (n / 10)++ [UInt8.ofNat (48+n % 10)]
theorem rDecF_eq: ∀ (f n:Nat),n≤f→rDecF f n=rDecF n n
 |0,n,h=>by have:n=0:=by omega
            subst this;rfl
 |f+1,n,h=>by
  by_cases hn:n < 10
  ·cases n with
   |zero=>simp[rDecF]
   |succ m=>simp only[rDecF,hn,if_true]
  ·obtain⟨m,rfl⟩: ∃ m,n=m+1:=⟨n - 1,by omega⟩
   simp only[rDecF,hn,if_false]
   rw[rDecF_eq f ((m+1) / 10) (by omega),rDecF_eq m ((m+1) / 10) (by omega)]
def rDec (n:Nat):Str:=rDecF n n
theorem rDec_small {n:Nat} (h:n < 10):rDec n= [UInt8.ofNat (48+n)]:=by
 unfold rDec
 cases n with
 |zero=>simp[rDecF]
 |succ m=>simp only[rDecF,h,if_true]
theorem rDec_big {n:Nat} (h: ¬n < 10):rDec n=rDec (n / 10)++ [UInt8.ofNat (48+n % 10)]:=by
 obtain⟨m,rfl⟩: ∃ m,n=m+1:=⟨n - 1,by omega⟩
 unfold rDec
 simp only[rDecF,h,if_false]
 rw[rDecF_eq m ((m+1) / 10) (by omega)]
theorem rDec_len: ∀ (m n:Nat),n < 10 ^ (m+1)→(rDec n).length≤m+1
 |0,n,h=>by rw[rDec_small (by omega)];simp
 |m+1,n,h=>by
  by_cases hn:n < 10
  ·rw[rDec_small hn];simp
  ·rw[rDec_big hn,List.length_append]
   have:=rDec_len m (n / 10) (by rw[Nat.div_lt_iff_lt_mul (by omega)];rw[Nat.pow_succ]at h;omega)
   simp only[List.length_cons,List.length_nil];omega
theorem rDec_len15 {n:Nat} (h:n≤140737488355328):(rDec n).length≤15:=rDec_len 14 n (by omega)
theorem Decimal_nat: ∀ (n:Nat),n≤140737488355328→Q.Fn Tryz.prog 243 [.raw (.int .i64 (n:Int))] (.str (rDec n)):=by
 intro n
 induction n using Nat.strongRecOn with
 |_ n ih=>
 intro hn
 have ih': ∀ m:Nat,[Small (m < n)]→FnC Tryz.prog 243 [.raw (.int .i64 (m:Int))] (.str (rDec m)):=fun m h=>⟨ih m h.out (by have:=h.out;omega)⟩
 refine fn_of Tryz.func243 Tryz.ntmps243 rfl (rs:= [.tmp 2]) rfl rfl fun hb LF=>?_
 refine walk ?_
 refine pwp_condD (fun h2=>?_) (fun h2=>?_)
 ·refine walk ?_
  refine end1 (.of_eq ?_)
  rw[rDec_small (by omega)]
 ·have:Small (n / 10 < n):=⟨by omega⟩
  have hl:=rDec_len15 (n:=n / 10) (by omega)
  refine walk ?_
  refine s_quo (n:=10) (by rfl) (by rfl) (by decide) (by omega) ?_
  refine walkp ?_
  refine s_rem (n:=10) (by rfl) (by rfl) (by decide) ?_
  refine walkp ?_
  refine end1 (.of_eq ?_)
  rw[rDec_big (n:=n) (by omega)]
def rDecI (n:Int):Str:=if n < 0 then 45::rDec (-n).toNat else rDec n.toNat
theorem rDecI_len {n:Int} (h: -140737488355328≤n∧n≤140737488355328):(rDecI n).length≤16:=by
 unfold rDecI
 split
 ·have:=rDec_len15 (n:=(-n).toNat) (by omega)
  simp only[List.length_cons];omega
 ·have:=rDec_len15 (n:=n.toNat) (by omega)
  omega
instance Decimal_ct (n:Int) [hs:Small (-140737488355328≤n∧n≤140737488355328)]:FnC Tryz.prog 243 [.raw (.int .i64 n)] (.str (rDecI n)):=⟨by
 obtain⟨h0,h1⟩:=hs.out
 by_cases hn:n < 0
 ·have h3:FnC Tryz.prog 243 [.raw (.int .i64 (-n))] (.str (rDec (-n).toNat)):=⟨by
   have:=Decimal_nat (-n).toNat (by omega)
   rwa [show(((-n).toNat:Nat):Int)= -n by omega]at this⟩
  refine fn_of Tryz.func243 Tryz.ntmps243 rfl (rs:= [.tmp 2]) rfl rfl fun hb LF=>?_
  refine walk ?_
  refine pwp_condD (fun h1=>?_) (fun h1=>?_)
  ·refine walk ?_
   refine pwp_condD (fun h2=>?_) (fun h2=>?_)
   ·omega
   ·have hl:=rDec_len15 (n:=(-n).toNat) (by omega)
    refine walk ?_
    refine end1 (.of_eq ?_)
    rw[rDecI,if_pos hn];rfl
  ·omega
 ·have:=Decimal_nat n.toNat (by omega)
  rw[show((n.toNat:Nat):Int)=n by omega]at this
  rw[rDecI,if_neg hn];exact this⟩
def sAtom (s:Str):Sx:= .mk false s []
def sList (l:List Sx):Sx:= .mk true [] l
def rInt (n:Int):Sx × Int:=if n < -1099511627776∨1099511627776 < n then(Sx.zero,2)else(sAtom (rDecI n),0)
instance Int_ct (n:Int):FnC Tryz.prog 223 [.raw (.int .i64 n)] (.tuple [.agg (eSx (rInt n).1),.raw (.int .i64 (rInt n).2)]):=⟨by
 refine fn_of Tryz.func223 Tryz.ntmps223 rfl (rs:= [.cell 2 197,.tmp 3]) rfl rfl fun hb LF=>?_
 refine walkb fun b=>?_
 refine pops_cutE [(9,.raw (.bool (decide (n < -1099511627776∨1099511627776 < n)))),(0,.raw (.int .i64 n)),(2,.raw (.pointer (some ⟨b,0,none⟩)))] (.box b 197 (eSx Sx.zero)::LF) ?_ ?_
 ·repeat' (first|(refine pwp_condD (fun h=>?_) (fun h=>?_)<;>refine walk ?_)|(refine pwp_condN (fun h=>?_) (fun h=>?_)<;>refine walk ?_)|(refine pwp_condB (fun h=>?_) (fun h=>?_)<;>refine walk ?_)|(refine pops_if (fun h=>?_) (fun h=>?_)<;>(have h2:=h;(try simp only[decide_eq_true_eq,decide_eq_false_iff_not,Bool.not_eq_true',Bool.not_eq_false']at h2);refine walkp ?_)))
  all_goals (refine⟨⟨holdsB (by rfl) ?_,rfl,rfl⟩,.refl _⟩;first|(simp_all;done)|(simp_all;omega)|grind)
 refine walk ?_
 refine pwp_condD (fun h=>?_) (fun h=>?_)
 ·refine walk ?_
  refine endC1 rfl (.of_eq ?_)
  rw[rInt,if_pos h]
 ·have:Small (-140737488355328≤n∧n≤140737488355328):=⟨by omega⟩
  refine walk ?_
  refine endC1 rfl (.of_eq ?_)
  rw[rInt,if_neg h];rfl⟩
instance atomS_ct (s:Str):FnC Tryz.prog 182 [.str s] (.agg (eSx (sAtom s))):=⟨by
 refine fn_of Tryz.func182 Tryz.ntmps182 rfl (rs:= [.cell 2 197]) rfl rfl fun hb LF=>?_
 refine walkb fun b=>?_
 refine endC rfl (.of_eq ?_)
 rfl⟩
instance listS_ct (l:List Sx) (t:Tag):FnC Tryz.prog 181 [.slice (l.map eSx) t] (.agg (eSx (sList l))):=⟨by
 refine fn_of Tryz.func181 Tryz.ntmps181 rfl (rs:= [.cell 2 197]) rfl rfl fun hb LF=>?_
 refine walkb fun b=>?_
 refine endC rfl (.of_eq ?_)
 rfl⟩
def sNum (n:Int):Sx:=(rInt n).1
instance numberS_ct (n:Int):FnC Tryz.prog 183 [.raw (.int .i64 n)] (.agg (eSx (sNum n))):=⟨by
 refine fn_of Tryz.func183 Tryz.ntmps183 rfl (rs:= [.cell 2 197]) rfl rfl fun hb LF=>?_
 refine walkb fun b=>?_
 refine walkbp fun b2=>?_
 refine endC rfl (.of_eq ?_)
 rfl⟩
instance Bytes_ct (d:Dig):FnC Tryz.prog 218 [.agg (eDig d)] (.str d.bs):=⟨by
 refine fn_of Tryz.func218 Tryz.ntmps218 rfl (rs:= [.tmp 2]) rfl rfl fun hb LF=>?_
 refine walkb fun b=>?_
 refine end1 (.of_eq ?_)
 rfl⟩
def sDig (d:Dig):Sx:=if d=Dig.zero then sAtom []else sAtom d.bs
instance digestS_ct (d:Dig):FnC Tryz.prog 178 [.agg (eDig d)] (.agg (eSx (sDig d))):=⟨by
 refine fn_of Tryz.func178 Tryz.ntmps178 rfl (rs:= [.cell 2 197]) rfl rfl fun hb LF=>?_
 refine walkb fun b=>?_
 refine walkbp fun b2=>?_
 refine pwp_condD (fun h=>?_) (fun h=>?_)
 ·refine walk ?_
  refine endC rfl (.of_eq ?_)
  rw[sDig,if_pos h]
 ·refine walk ?_
  refine endC rfl (.of_eq ?_)
  rw[sDig,if_neg h]⟩
def sRef (x:Ident):Sx:=sList [sDig x.patch,sNum x.n]
instance referenceS_ct (x:Ident):FnC Tryz.prog 219 [.agg (eIdent x)] (.agg (eSx (sRef x))):=⟨by
 refine fn_of Tryz.func219 Tryz.ntmps219 rfl (rs:= [.cell 2 197]) rfl rfl fun hb LF=>?_
 refine walkbn fun b=>?_
 refine walkbnp fun b2=>?_
 refine pwp_drawN 8 ?_ ?_
 ·decide+kernel
 refine walkp ?_
 refine endC rfl (.of_eq ?_)
 rfl⟩
def sOver (l:List Ident):Sx:=sList (l.map sRef)
instance overS_ct (l:List Ident) (t:Tag) [hs:Small (l.length≤1000000)]:FnC Tryz.prog 220 [.slice (l.map eIdent) t] (.agg (eSx (sOver l))):=⟨by
 refine fn_of Tryz.func220 Tryz.ntmps220 rfl (rs:= [.cell 2 197]) rfl rfl fun hb LF=>?_
 have hlen:=hs.out
 refine walkb fun b=>?_
 refine pwp_tok 3 ?_
 refine pwp_loopS (σ:=Nat × Tag × List Sx) (fun k=>k.1≤l.length∧k.2.2=(l.take k.1).map sRef) (fun k=>l.length - k.1) (fun k=> [(0,.slice (l.map eIdent) t),(2,.raw (.pointer (some ⟨b,0,none⟩))),(3,.slice (k.2.2.map eSx) k.2.1),(4,.raw (.int .i64 k.1))]) (fun k=> .tok k.2.1 k.2.2.length 3:: .box b 197 (eSx Sx.zero)::LF) (0,.nil,[]) ⟨by simp,by simp⟩ ⟨rfl,rfl,rfl,rfl⟩ (.refl _) ?_
 rintro⟨k,v,out⟩ ⟨hk,he⟩
 dsimp only at hk he
 have hol:out.length=k:=by rw[he];simp;omega
 refine walk ?_
 refine pwp_condD (fun hc=>?_) (fun hc=>?_)
 ·have hlt:k < l.length:=by omega
  refine walka fun v'=>?_
  refine⟨(k+1,v',out++ [sRef l[k]]),⟨by dsimp only;omega,?_⟩,by dsimp only;omega,⟨rfl,rfl,rfl,rfl⟩,.refl _⟩
  dsimp only
  rw[List.take_succ_eq_append_getElem hlt,List.map_append,he];rfl
 ·refine walk ?_
  refine endC rfl (.of_eq ?_)
  rw[List.take_of_length_le (by omega)]at he
  rw[sOver,←he]⟩
end Go.Proofs
namespace Go.Proofs
open Go Go.Q
attribute [local irreducible] pwp pops PCalls OpN
def wfX:Nat→Sx→Prop
 |0,_=>False
 |d+1,x=>(x.isList=false∧x.list= []∧x.atom.length≤65536)∨(x.isList=true∧x.atom= []∧ ∀ y∈x.list,wfX d y)
def ndX:Nat→Sx→Nat
 |0,_=>0
 |d+1,x=>if x.isList then 1+(x.list.map (ndX d)).sum else 1
def encX:Nat→Sx→Str
 |0,_=> []
 |d+1,x=>if x.isList then 40::(x.list.flatMap (encX d)++ [41])else rDec x.atom.length++58::x.atom
theorem sum_take_le {l:List Nat} {k:Nat}:(l.take k).sum≤l.sum:=by
 conv=>rhs;rw[←List.take_append_drop k l,List.sum_append]
 omega
set_option maxHeartbeats 1000000 in
theorem count_fn: ∀ (d:Nat) (x:Sx) (limit depth:Int),wfX d x→(ndX d x:Int)≤limit→limit≤1000000→(d:Int)≤depth→depth≤1000→Q.Fn Tryz.prog 241 [.agg (eSx x),.raw (.int .i64 limit),.raw (.int .i64 depth)] (.raw (.int .i64 (ndX d x:Int)))
 |0,x,limit,depth,hw,_,_,_,_=>hw.elim
 |d+1,x,limit,depth,hw,hn,hl,hd,hd2=>by
  have ih: ∀ (y:Sx) (lim dep:Int),[Small (wfX d y∧(ndX d y:Int)≤lim∧lim≤1000000∧(d:Int)≤dep∧dep≤1000)]→FnC Tryz.prog 241 [.agg (eSx y),.raw (.int .i64 lim),.raw (.int .i64 dep)] (.raw (.int .i64 (ndX d y:Int))):=fun y lim dep h=>⟨by
   obtain⟨h1,h2,h3,h4,h5⟩:=h.out
   exact count_fn d y lim dep h1 h2 h3 h4 h5⟩
  have hpos:1≤ndX (d+1) x:=by unfold ndX;split<;>omega
  refine fn_of Tryz.func241 Tryz.ntmps241 rfl (rs:= [.tmp 6]) rfl rfl fun hb LF=>?_
  refine walkb fun b=>?_
  refine pops_if (fun hp=>?_) (fun hp=>?_)
  ·have:=of_decide_eq_true hp;omega
  refine walkp ?_
  refine pwp_condD (fun h1=>?_) (fun h1=>?_)
  ·omega
  refine walk ?_
  refine pwp_condB (fun h2=>?_) (fun h2=>?_)
  ·refine walk ?_
   refine end1 (.of_eq ?_)
   have:x.isList=false:=by simpa using h2
   simp[ndX,this]
  have hL:x.isList=true:=by simpa using h2
  rcases hw with ⟨h3,_⟩|⟨_,_,hw⟩
  ·rw[hL]at h3;cases h3
  have hnd:ndX (d+1) x=1+(x.list.map (ndX d)).sum:=by simp[ndX,hL]
  rw[hnd]at hn ⊢
  have hlen:x.list.length≤140737488355328:=by
   have:=(hb (.agg (eSx x)) (by simp)).agg_at (c:= .slice (x.list.map eSx) .ro) (by rw[eSx_eq];simp)
   exact this.slice_map
  refine walk ?_
  refine pwp_loopS (σ:=Nat) (fun k=>k≤x.list.length) (fun k=>x.list.length - k) (fun k=> [(1,.raw (.int .i64 limit)),(2,.raw (.int .i64 depth)),(3,.raw (.pointer (some ⟨b,0,none⟩))),(7,.raw (.int .i64 ((1+((x.list.map (ndX d)).take k).sum:Nat):Int))),(8,.raw (.int .i64 k))]) (fun _=> .box b 197 (eSx x)::LF) 0 (by simp) ⟨rfl,rfl,rfl,by simp;rfl,rfl⟩ (.refl _) ?_
  intro k hk
  have hsk:=sum_take_le (l:=x.list.map (ndX d)) (k:=k)
  have hsk1:=sum_take_le (l:=x.list.map (ndX d)) (k:=k+1)
  refine walk ?_
  refine pops_if (fun hp=>?_) (fun hp=>?_)
  ·have hc:=of_decide_eq_true hp
   have hlt:k < x.list.length:=by omega
   have e:((x.list.map (ndX d)).take (k+1)).sum=((x.list.map (ndX d)).take k).sum+ndX d x.list[k]:=by
    rw[List.take_succ_eq_append_getElem (by simpa using hlt),List.sum_append];simp
   refine walkp ?_
   refine pwp_condD (fun h4=>?_) (fun h4=>?_)
   ·have:Small (wfX d x.list[k]∧(ndX d x.list[k]:Int)≤limit - ((1+((x.list.map (ndX d)).take k).sum:Nat):Int)∧limit - ((1+((x.list.map (ndX d)).take k).sum:Nat):Int)≤1000000∧(d:Int)≤depth - 1∧depth - 1≤1000):=⟨hw _ (List.getElem_mem hlt),by omega,by omega,by omega,by omega⟩
    refine walk ?_
    refine⟨k+1,by omega,by dsimp only;omega,⟨rfl,rfl,rfl,?_,rfl⟩,.refl _⟩
    show PV.raw (Value.int .i64 _)=PV.raw (Value.int .i64 _)
    rw[e];congr 2;omega
   ·omega
  ·have hc:=of_decide_eq_false hp
   refine walkp ?_
   refine end1 (.of_eq ?_)
   rw[List.take_of_length_le (by simp;omega)]
set_option maxHeartbeats 1000000 in
theorem check_fn: ∀ (d:Nat) (x:Sx),wfX d x→Q.Fn Tryz.prog 242 [.agg (eSx x)] (.raw (.int .i64 0))
 |0,x,hw=>hw.elim
 |d+1,x,hw=>by
  have ih: ∀ (y:Sx),[Small (wfX d y)]→FnC Tryz.prog 242 [.agg (eSx y)] (.raw (.int .i64 0)):=fun y h=>⟨check_fn d y h.out⟩
  refine fn_of Tryz.func242 Tryz.ntmps242 rfl (rs:= [.tmp 2]) rfl rfl fun hb LF=>?_
  have hlen:x.list.length≤140737488355328:=by
   have:=(hb (.agg (eSx x)) (by simp)).agg_at (c:= .slice (x.list.map eSx) .ro) (by rw[eSx_eq];simp)
   exact this.slice_map
  refine walkb fun b=>?_
  refine pwp_condB (fun h2=>?_) (fun h2=>?_)
  ·have hL:x.isList=false:=by simpa using h2
   rcases hw with ⟨_,h3,h4⟩|⟨h3,_⟩
   ·refine walk ?_
    refine pwp_condD (fun h5=>?_) (fun h5=>?_)
    ·rw[h3]at h5;simp at h5
    refine walk ?_
    refine pwp_condD (fun h6=>?_) (fun h6=>?_)
    ·omega
    refine walk ?_
    exact end1 (.refl _)
   ·rw[hL]at h3;cases h3
  have hL:x.isList=true:=by simpa using h2
  rcases hw with ⟨h3,_⟩|⟨_,ha,hw⟩
  ·rw[hL]at h3;cases h3
  refine walk ?_
  refine pwp_condN (fun h5=>?_) (fun h5=>?_)
  ·exact absurd ha h5
  refine walk ?_
  refine pwp_loopS (σ:=Nat) (fun k=>k≤x.list.length) (fun k=>x.list.length - k) (fun k=> [(1,.raw (.pointer (some ⟨b,0,none⟩))),(3,.raw (.int .i64 k))]) (fun _=> .box b 197 (eSx x)::LF) 0 (by simp) ⟨rfl,rfl⟩ (.refl _) ?_
  intro k hk
  refine walk ?_
  refine pwp_condD (fun hc=>?_) (fun hc=>?_)
  ·have hlt:k < x.list.length:=by omega
   have:Small (wfX d x.list[k]):=⟨hw _ (List.getElem_mem hlt)⟩
   refine walk ?_
   exact⟨k+1,by omega,by dsimp only;omega,⟨rfl,rfl⟩,.refl _⟩
  ·refine walk ?_
   exact end1 (.refl _)
def okX (x:Sx):Prop:=wfX 8 x∧ndX 8 x≤20000
instance CheckX_ct (x:Sx) [hs:Small (okX x)]:FnC Tryz.prog 221 [.agg (eSx x)] (.raw (.int .i64 0)):=⟨by
 obtain⟨h1,h2⟩:=hs.out
 have i1:FnC Tryz.prog 241 [.agg (eSx x),.raw (.int .i64 20000),.raw (.int .i64 12)] (.raw (.int .i64 (ndX 8 x:Int))):=⟨count_fn 8 x 20000 12 h1 (by omega) (by omega) (by omega) (by omega)⟩
 have i2:FnC Tryz.prog 242 [.agg (eSx x)] (.raw (.int .i64 0)):=⟨check_fn 8 x h1⟩
 refine fn_of Tryz.func221 Tryz.ntmps221 rfl (rs:= [.tmp 2]) rfl rfl fun hb LF=>?_
 refine walkb fun b=>?_
 refine pwp_condD (fun h=>?_) (fun h=>?_)
 ·omega
 refine walk ?_
 exact end1 (.refl _)⟩
theorem flatMap_take_succ {α β:Type} {l:List α} {f:α→List β} {k:Nat} (h:k < l.length):(l.take (k+1)).flatMap f=(l.take k).flatMap f++f l[k]:=by
 rw[List.take_succ_eq_append_getElem h,List.flatMap_append];simp
theorem flatMap_take_len {α β:Type} {l:List α} {f:α→List β} {k:Nat}:((l.take k).flatMap f).length≤(l.flatMap f).length:=by
 conv=>rhs;rw[←List.take_append_drop k l,List.flatMap_append,List.length_append]
 omega
theorem flatMap_elem_len {α β:Type} {l:List α} {f:α→List β} {a:α} (h:a∈l):(f a).length≤(l.flatMap f).length:=by
 induction l with
 |nil=>cases h
 |cons x l ih=>
  rw[List.flatMap_cons,List.length_append]
  rcases List.mem_cons.1 h with rfl|h
  ·omega
  ·have:=ih h;omega
set_option maxHeartbeats 1000000 in
theorem encode_fn: ∀ (d:Nat) (x:Sx),wfX d x→(encX d x).length≤1000000000→Q.Fn Tryz.prog 222 [.agg (eSx x)] (.str (encX d x))
 |0,x,hw,_=>hw.elim
 |d+1,x,hw,hl=>by
  have ih: ∀ (y:Sx),[Small (wfX d y∧(encX d y).length≤1000000000)]→FnC Tryz.prog 222 [.agg (eSx y)] (.str (encX d y)):=fun y h=>⟨encode_fn d y h.out.1 h.out.2⟩
  refine fn_of Tryz.func222 Tryz.ntmps222 rfl (rs:= [.tmp 2]) rfl rfl fun hb LF=>?_
  have hlen:x.list.length≤140737488355328:=by
   have:=(hb (.agg (eSx x)) (by simp)).agg_at (c:= .slice (x.list.map eSx) .ro) (by rw[eSx_eq];simp)
   exact this.slice_map
  refine walkb fun b=>?_
  refine pwp_condB (fun h2=>?_) (fun h2=>?_)
  ·have hL:x.isList=false:=by simpa using h2
   rcases hw with ⟨_,h3,h4⟩|⟨h3,_⟩
   ·have:Small (-140737488355328≤(x.atom.length:Int)∧(x.atom.length:Int)≤140737488355328):=⟨by omega,by omega⟩
    have hd:=rDecI_len (n:=(x.atom.length:Int)) ⟨by omega,by omega⟩
    refine walk ?_
    refine end1 (.of_eq ?_)
    have e:rDecI (x.atom.length:Int)=rDec x.atom.length:=by
     rw[rDecI,if_neg (by omega)];rfl
    simp[encX,hL,e]
   ·rw[hL]at h3;cases h3
  have hL:x.isList=true:=by simpa using h2
  rcases hw with ⟨h3,_⟩|⟨_,ha,hw⟩
  ·rw[hL]at h3;cases h3
  have he:encX (d+1) x=40::(x.list.flatMap (encX d)++ [41]):=by simp[encX,hL]
  rw[he]at hl ⊢
  simp only[List.length_cons,List.length_append,List.length_nil]at hl
  refine walk ?_
  refine pwp_loopS (σ:=Nat × Str) (fun k=>k.1≤x.list.length∧k.2=40::(x.list.take k.1).flatMap (encX d)) (fun k=>x.list.length - k.1) (fun k=> [(1,.raw (.pointer (some ⟨b,0,none⟩))),(3,.str k.2),(4,.raw (.int .i64 k.1))]) (fun _=> .box b 197 (eSx x)::LF) (0,[40]) ⟨by simp,by simp⟩ ⟨rfl,rfl,rfl⟩ (.refl _) ?_
  rintro⟨k,s⟩ ⟨hk,hs⟩
  dsimp only at hk hs
  have hsl:s.length≤1+(x.list.flatMap (encX d)).length:=by
   rw[hs,List.length_cons]
   have:=flatMap_take_len (l:=x.list) (f:=encX d) (k:=k)
   omega
  refine walk ?_
  refine pwp_condD (fun hc=>?_) (fun hc=>?_)
  ·have hlt:k < x.list.length:=by omega
   have hel:(encX d x.list[k]).length≤(x.list.flatMap (encX d)).length:=flatMap_elem_len (List.getElem_mem hlt)
   have:Small (wfX d x.list[k]∧(encX d x.list[k]).length≤1000000000):=⟨hw _ (List.getElem_mem hlt),by omega⟩
   refine walk ?_
   refine⟨(k+1,s++encX d x.list[k]),⟨by dsimp only;omega,?_⟩,by dsimp only;omega,⟨rfl,rfl,rfl⟩,.refl _⟩
   dsimp only
   rw[flatMap_take_succ hlt,hs,List.cons_append]
  ·refine walk ?_
   refine end1 (.of_eq ?_)
   rw[hs,List.take_of_length_le (by omega)];rfl
instance EncodeX_ct (x:Sx) [hs:Small (okX x∧(encX 8 x).length≤1000000000)]:FnC Tryz.prog 180 [.agg (eSx x)] (.tuple [.str (encX 8 x),.raw (.int .i64 0)]):=⟨by
 obtain⟨h1,h2⟩:=hs.out
 have:Small (okX x):=⟨h1⟩
 have i2:FnC Tryz.prog 222 [.agg (eSx x)] (.str (encX 8 x)):=⟨encode_fn 8 x h1.1 h2⟩
 refine fn_of Tryz.func180 Tryz.ntmps180 rfl (rs:= [.tmp 2,.tmp 3]) rfl rfl fun hb LF=>?_
 refine walkb fun b=>?_
 refine end2 ?_
 exact .refl _⟩
end Go.Proofs
namespace Go.Proofs
open Go Go.Q
attribute [local irreducible] pwp pops PCalls OpN
def sChg1 (c:Chg):List Sx:=if 2≤c.kind∧c.kind≤6 then [sRef c.file]else []
def sChg2 (c:Chg):List Sx:=if c.kind=1 then [sNum c.type]else if c.kind=2 then [sRef c.parent,sAtom c.name]else if c.kind=3 then [sNum c.mode]else if c.kind=4 then [sAtom c.data]else if c.kind=5∨c.kind=6 then [sRef c.after,sRef c.before]else []
def sChg3 (c:Chg):List Sx:=if c.kind=5 then [sList (c.lines.map sAtom)]else if c.kind≠1 then [sOver c.over]else []
def sChg (c:Chg):Sx:=sList (([sNum c.kind]++sChg1 c++sChg2 c)++sChg3 c)
theorem sChg1_len (c:Chg):(sChg1 c).length≤1:=by unfold sChg1;split<;>simp
theorem sChg2_len (c:Chg):(sChg2 c).length≤2:=by
 unfold sChg2
 repeat' split
 all_goals simp
set_option maxHeartbeats 2000000 in
instance changeS_ct (c:Chg) [hs:Small (c.lines.length≤100000∧c.over.length≤100000)]:FnC Tryz.prog 179 [.agg (eChg c)] (.agg (eSx (sChg c))):=⟨by
 refine fn_of Tryz.func179 Tryz.ntmps179 rfl (rs:= [.cell 2 197]) rfl rfl fun hb LF=>?_
 obtain⟨hl1,hl2⟩:=hs.out
 have i1:Small (c.over.length≤1000000):=⟨by omega⟩
 have hc1:=sChg1_len c
 have hc2:=sChg2_len c
 refine walkbn fun b=>?_
 refine s_alloc fun b2=>?_
 refine walktp fun t=>?_
 refine pops_cutE [(17,.raw (.bool (decide (2≤c.kind∧c.kind≤6)))),(1,.raw (.pointer (some ⟨b,0,none⟩))),(2,.raw (.pointer (some ⟨b2,0,none⟩))),(3,.slice ([sNum c.kind].map eSx) t)] (.tok t [sNum c.kind].length 3:: .box b2 197 (eSx Sx.zero):: .box b 88 (eChg c)::LF) ?_ ?_
 ·repeat' (first|(refine pwp_condD (fun h=>?_) (fun h=>?_)<;>refine walk ?_)|(refine pwp_condN (fun h=>?_) (fun h=>?_)<;>refine walk ?_)|(refine pwp_condB (fun h=>?_) (fun h=>?_)<;>refine walk ?_)|(refine pops_if (fun h=>?_) (fun h=>?_)<;>(have h2:=h;(try simp only[decide_eq_true_eq,decide_eq_false_iff_not,Bool.not_eq_true',Bool.not_eq_false']at h2);refine walkp ?_)))
  all_goals (refine⟨⟨holdsB (by rfl) ?_,rfl,rfl,rfl⟩,.refl _⟩;first|(simp_all;done)|(simp_all;omega)|grind)
 refine walk ?_
 refine pwp_joinG (σ:=Tag × List Sx) (fun s=>s.2= [sNum c.kind]++sChg1 c) (fun s=> [(1,.raw (.pointer (some ⟨b,0,none⟩))),(2,.raw (.pointer (some ⟨b2,0,none⟩))),(3,.slice (s.2.map eSx) s.1)]) (fun s=> .tok s.1 s.2.length 3:: .box b2 197 (eSx Sx.zero):: .box b 88 (eChg c)::LF) ?_ ?_
 ·refine pwp_condD (fun h=>?_) (fun h=>?_)
  ·refine walka fun t'=>?_
   exact⟨(t',[sNum c.kind]++ [sRef c.file]),by dsimp only;rw[sChg1,if_pos h],⟨rfl,rfl,rfl⟩,.refl _⟩
  ·refine walk ?_
   exact⟨(t,[sNum c.kind]),by dsimp only;rw[sChg1,if_neg h];rfl,⟨rfl,rfl,rfl⟩,.refl _⟩
 rintro⟨t,out⟩ ho
 dsimp only at ho
 have hol:out.length≤2:=by rw[ho,List.length_append,List.length_singleton];omega
 refine walk ?_
 refine pwp_joinG (σ:=Tag × List Sx) (fun s=>s.2= [sNum c.kind]++sChg1 c++sChg2 c) (fun s=> [(1,.raw (.pointer (some ⟨b,0,none⟩))),(2,.raw (.pointer (some ⟨b2,0,none⟩))),(3,.slice (s.2.map eSx) s.1)]) (fun s=> .tok s.1 s.2.length 3:: .box b2 197 (eSx Sx.zero):: .box b 88 (eChg c)::LF) ?_ ?_
 ·refine pwp_condD (fun h1=>?_) (fun h1=>?_)
  ·refine walka fun t'=>?_
   exact⟨(t',out++ [sNum c.type]),by dsimp only;rw[sChg2,if_pos h1,ho],⟨rfl,rfl,rfl⟩,.refl _⟩
  refine walk ?_
  refine pwp_condD (fun h2=>?_) (fun h2=>?_)
  ·refine walkn ?_
   refine pwp_drawN 8 ?_ ?_
   ·decide+kernel
   refine walkap fun t'=>?_
   exact⟨(t',out++ [sRef c.parent,sAtom c.name]),by dsimp only;rw[sChg2,if_neg h1,if_pos h2,ho],⟨rfl,rfl,rfl⟩,.refl _⟩
  refine walk ?_
  refine pwp_condD (fun h3=>?_) (fun h3=>?_)
  ·refine walka fun t'=>?_
   exact⟨(t',out++ [sNum c.mode]),by dsimp only;rw[sChg2,if_neg h1,if_neg h2,if_pos h3,ho],⟨rfl,rfl,rfl⟩,.refl _⟩
  refine walk ?_
  refine pwp_condD (fun h4=>?_) (fun h4=>?_)
  ·refine walka fun t'=>?_
   exact⟨(t',out++ [sAtom c.data]),by dsimp only;rw[sChg2,if_neg h1,if_neg h2,if_neg h3,if_pos h4,ho],⟨rfl,rfl,rfl⟩,.refl _⟩
  refine walk ?_
  refine pwp_condD (fun h5=>?_) (fun h5=>?_)
  ·refine walkn ?_
   refine pwp_cond (t:=true) (by show PV.raw (.bool (decide (c.kind=5)))=_;rw[decide_eq_true h5]) (fun _=>?_) (by simp)
   refine walkn ?_
   refine pwp_drawN 8 ?_ ?_
   ·decide+kernel
   refine walkap fun t'=>?_
   exact⟨(t',out++ [sRef c.after,sRef c.before]),by dsimp only;rw[sChg2,if_neg h1,if_neg h2,if_neg h3,if_neg h4,if_pos (.inl h5),ho],⟨rfl,rfl,rfl⟩,.refl _⟩
  refine walk ?_
  refine pwp_condD (fun h6=>?_) (fun h6=>?_)
  ·refine walkn ?_
   refine pwp_drawN 8 ?_ ?_
   ·decide+kernel
   refine walkap fun t'=>?_
   exact⟨(t',out++ [sRef c.after,sRef c.before]),by dsimp only;rw[sChg2,if_neg h1,if_neg h2,if_neg h3,if_neg h4,if_pos (.inr h6),ho],⟨rfl,rfl,rfl⟩,.refl _⟩
  ·refine walk ?_
   exact⟨(t,out),by dsimp only;rw[sChg2,if_neg h1,if_neg h2,if_neg h3,if_neg h4,if_neg (by rintro(h|h);exact h5 h;exact h6 h),List.append_nil,ho],⟨rfl,rfl,rfl⟩,.refl _⟩
 clear ho hol
 rintro⟨t,out⟩ ho
 dsimp only at ho
 have hol:out.length≤4:=by rw[ho,List.length_append,List.length_append,List.length_singleton];omega
 refine walk ?_
 refine pwp_condD (fun h5=>?_) (fun h5=>?_)
 ·refine walk ?_
  refine pwp_tok 3 ?_
  refine pwp_loopS (σ:=Nat × Tag × List Sx) (fun k=>k.1≤c.lines.length∧k.2.2=(c.lines.take k.1).map sAtom) (fun k=>c.lines.length - k.1) (fun k=> [(1,.raw (.pointer (some ⟨b,0,none⟩))),(2,.raw (.pointer (some ⟨b2,0,none⟩))),(3,.slice (out.map eSx) t),(4,.slice (k.2.2.map eSx) k.2.1),(5,.raw (.int .i64 k.1))]) (fun k=> .tok k.2.1 k.2.2.length 3:: .tok t out.length 3:: .box b2 197 (eSx Sx.zero):: .box b 88 (eChg c)::LF) (0,.nil,[]) ⟨by simp,by simp⟩ ⟨rfl,rfl,rfl,rfl,rfl⟩ (.refl _) ?_
  rintro⟨k,v,l⟩ ⟨hk,he⟩
  dsimp only at hk he
  have hll:l.length=k:=by rw[he];simp;omega
  refine walk ?_
  refine pwp_condD (fun hc=>?_) (fun hc=>?_)
  ·have hlt:k < c.lines.length:=by omega
   refine walka fun v'=>?_
   refine⟨(k+1,v',l++ [sAtom c.lines[k]]),⟨by dsimp only;omega,?_⟩,by dsimp only;omega,⟨rfl,rfl,rfl,rfl,rfl⟩,.refl _⟩
   dsimp only
   rw[List.take_succ_eq_append_getElem hlt,List.map_append,he];rfl
  ·refine walka fun v'=>?_
   refine endC rfl (.of_eq ?_)
   rw[List.take_of_length_le (by omega)]at he
   rw[sChg,sChg3,if_pos h5,←he,ho]
 ·refine walk ?_
  refine pwp_condN (fun h6=>?_) (fun h6=>?_)
  ·refine walka fun v'=>?_
   refine endC rfl (.of_eq ?_)
   rw[sChg,sChg3,if_neg h5,if_pos h6,ho]
  ·refine walk ?_
   refine endC rfl (.of_eq ?_)
   rw[sChg,sChg3,if_neg h5,if_neg (by simp[h6]),List.append_nil,ho]⟩
def sPat (p:Pat):Sx:=sList [sAtom [113,117,105,108,116,49],sAtom p.author,sAtom p.message,sNum p.time,sList (p.deps.map sDig),sList (p.changes.map sChg)]
def rEnc (p:Pat):Str:=encX 8 (sPat p)
structure encOk (p:Pat):Prop where
 deps:p.deps.length≤100000
 chgs:p.changes.length≤100000
 chg: ∀ c∈p.changes,c.lines.length≤100000∧c.over.length≤100000
 ok:okX (sPat p)
 len:(rEnc p).length≤1000000000
def rEncode (p:Pat):Str × Int:=if 65536 < ((rEnc p).length:Int)then([],4)else(rEnc p,0)
set_option maxHeartbeats 1000000 in
instance encodeP_ct (p:Pat) [hs:Small (encOk p)]:FnC Tryz.prog 143 [.agg (ePat p)] (.tuple [.str (rEncode p).1,.raw (.int .i64 (rEncode p).2)]):=⟨by
 refine fn_of Tryz.func143 Tryz.ntmps143 rfl (rs:= [.tmp 2,.tmp 3]) rfl rfl fun hb LF=>?_
 have hd:=hs.out.deps
 have hch:=hs.out.chgs
 refine walkb fun b=>?_
 refine pwp_tok 3 ?_
 refine pwp_tok 3 ?_
 refine pwp_loopS (σ:=Nat × Tag × List Sx) (fun k=>k.1≤p.deps.length∧k.2.2=(p.deps.take k.1).map sDig) (fun k=>p.deps.length - k.1) (fun k=> [(1,.raw (.pointer (some ⟨b,0,none⟩))),(4,.slice (k.2.2.map eSx) k.2.1),(5,.slice [] .nil),(6,.raw (.int .i64 k.1))]) (fun k=> .tok k.2.1 k.2.2.length 3:: .tok .nil 0 3:: .box b 44 (ePat p)::LF) (0,.nil,[]) ⟨by simp,by simp⟩ ⟨rfl,rfl,rfl,rfl⟩ (.refl _) ?_
 rintro⟨k,v,l⟩ ⟨hk,he⟩
 dsimp only at hk he
 have hll:l.length=k:=by rw[he];simp;omega
 refine walk ?_
 refine pwp_condD (fun hc=>?_) (fun hc=>?_)
 ·have hlt:k < p.deps.length:=by omega
  refine walka fun v'=>?_
  refine⟨(k+1,v',l++ [sDig p.deps[k]]),⟨by dsimp only;omega,?_⟩,by dsimp only;omega,⟨rfl,rfl,rfl,rfl⟩,.refl _⟩
  dsimp only
  rw[List.take_succ_eq_append_getElem hlt,List.map_append,he];rfl
 rw[List.take_of_length_le (by omega)]at he
 clear hll
 refine walk ?_
 refine pwp_loopS (σ:=Nat × Tag × List Sx) (fun k=>k.1≤p.changes.length∧k.2.2=(p.changes.take k.1).map sChg) (fun k=>p.changes.length - k.1) (fun k=> [(1,.raw (.pointer (some ⟨b,0,none⟩))),(4,.slice (l.map eSx) v),(5,.slice (k.2.2.map eSx) k.2.1),(7,.raw (.int .i64 k.1))]) (fun k=> .tok k.2.1 k.2.2.length 3:: .box b 44 (ePat p)::LF) (0,.nil,[]) ⟨by simp,by simp⟩ ⟨rfl,rfl,rfl,rfl⟩ (.cons _ (.refl _)) ?_
 rintro⟨k,v,m⟩ ⟨hk,hm⟩
 dsimp only at hk hm
 have hml:m.length=k:=by rw[hm];simp;omega
 refine walk ?_
 refine pwp_condD (fun hc=>?_) (fun hc=>?_)
 ·have hlt:k < p.changes.length:=by omega
  have:Small (p.changes[k].lines.length≤100000∧p.changes[k].over.length≤100000):=⟨hs.out.chg _ (List.getElem_mem hlt)⟩
  refine walka fun v'=>?_
  refine⟨(k+1,v',m++ [sChg p.changes[k]]),⟨by dsimp only;omega,?_⟩,by dsimp only;omega,⟨rfl,rfl,rfl,rfl⟩,.refl _⟩
  dsimp only
  rw[List.take_succ_eq_append_getElem hlt,List.map_append,hm];rfl
 rw[List.take_of_length_le (by omega)]at hm
 have e:sPat p=sList [sAtom [113,117,105,108,116,49],sAtom p.author,sAtom p.message,sNum p.time,sList l,sList m]:=by rw[sPat,←he,←hm]
 have i1:Small (okX (sList [sAtom [113,117,105,108,116,49],sAtom p.author,sAtom p.message,sNum p.time,sList l,sList m])∧(encX 8 (sList [sAtom [113,117,105,108,116,49],sAtom p.author,sAtom p.message,sNum p.time,sList l,sList m])).length≤1000000000):=by
  rw[←e];exact⟨hs.out.ok,hs.out.len⟩
 refine walk ?_
 refine pwp_condD (fun h=>?_) (fun h=>?_)
 ·refine walk ?_
  refine end2 ?_
  rw[←e]at h
  have h':65536 < ((rEnc p).length:Int):=h
  rw[rEncode,if_pos h']
  exact .refl _
 ·refine walk ?_
  refine end2 ?_
  rw[←e]at h
  have h': ¬65536 < ((rEnc p).length:Int):=h
  rw[rEncode,if_neg h',rEnc,e]
  exact .refl _⟩
end Go.Proofs
namespace Go.Proofs
open Go Go.Q
attribute [local irreducible] pwp pops PCalls OpN
theorem zvof {P:Program} {E:Nat} {α:Type} {ev:α→PV} {a0:α} {v:Value} (h:(P.info? E).bind (·.zero)=some v) (hv: ∀ g,VR g v (ev a0)):ZV P E ev a0:=⟨by
 obtain⟨i,h1,h2⟩:=Option.bind_eq_some_iff.1 h
 exact⟨i,v,h1,h2,hv⟩⟩
instance :TMap Tryz.prog 68 25 4:=⟨by kernel_rfl⟩
instance :TMap Tryz.prog 65 25 31:=⟨by kernel_rfl⟩
instance :TMap Tryz.prog 137 25 120:=⟨by kernel_rfl⟩
instance :TMap Tryz.prog 161 3 3:=⟨by kernel_rfl⟩
instance :TMap Tryz.prog 200 3 203:=⟨by kernel_rfl⟩
instance :ZV Tryz.prog 4 vBool false:=zvof (v:= .bool false) (by kernel_rfl) fun _=> .raw _
instance :ZV Tryz.prog 3 vInt 0:=zvof (v:= .int .i64 0) (by kernel_rfl) fun _=> .raw _
instance :ZV Tryz.prog 31 (vSl eDig) []:=zvof (v:= .slice none 0 0) (by kernel_rfl) fun _=> .nilR
instance :ZV Tryz.prog 120 (vSl eAtm) []:=zvof (v:= .slice none 0 0) (by kernel_rfl) fun _=> .nilR
instance :ZV Tryz.prog 203 vId (.raw .nilFunc):=zvof (v:= .nilFunc) (by kernel_rfl) fun _=> .raw _
instance :MapForm Tryz.prog 68 kDig vBool:=⟨trivial⟩
instance :MapForm Tryz.prog 65 kDig (vSl eDig):=⟨trivial⟩
instance :MapForm Tryz.prog 137 kDig (vSl eAtm):=⟨trivial⟩
instance :MapForm Tryz.prog 161 kInt vInt:=⟨trivial⟩
instance :MapForm Tryz.prog 200 kInt vId:=⟨trivial⟩
theorem zero1 {P:Program} {T:Nat} {v:Value} {x:PV} (h:(P.info? T).bind (·.zero)=some v) (hc:v.cells= #[v]) (hv: ∀ g,VR g v x):ZeroE P T [x]:=⟨by
 obtain⟨i,h1,h2⟩:=Option.bind_eq_some_iff.1 h
 exact⟨i,v,[v],h1,h2,hc,fun g=> .cons (hv g) (.nil g)⟩⟩
instance :ZeroE Tryz.prog 3 [.raw (.int .i64 0)]:=zero1 (v:= .int .i64 0) (by kernel_rfl) rfl fun _=> .raw _
instance :ZeroE Tryz.prog 120 [.slice [] .nil]:=zero1 (v:= .slice none 0 0) (by kernel_rfl) rfl fun _=> .nilN none (by simp)
instance :ZeroE Tryz.prog 89 [.slice [] .nil]:=zero1 (v:= .slice none 0 0) (by kernel_rfl) rfl fun _=> .nilN none (by simp)
instance :ZeroE Tryz.prog 68 [.raw (.map none)]:=zero1 (v:= .map none) (by kernel_rfl) rfl fun _=> .raw _
instance :ZeroE Tryz.prog 65 [.raw (.map none)]:=zero1 (v:= .map none) (by kernel_rfl) rfl fun _=> .raw _
instance (a b:List UInt8) (t u:Tag):ExtC Tryz.prog 127 [.slice (a.map eBy) t,.slice (b.map eBy) u] (.raw (.int .i64 (cmpL a b))):=extC_compare Tryz.func127 (by kernel_rfl) (by kernel_rfl) (by kernel_rfl) (by kernel_rfl) a b t u
instance (s:Str) (c:Int):ExtC Tryz.prog 245 [.str s,.raw (.int .u8 c)] (.raw (.int .i64 (Lib.indexByte s c.toNat.toUInt8))):=extC_indexByte Tryz.func245 (by kernel_rfl) (by kernel_rfl) (by kernel_rfl) (by kernel_rfl) s c
instance bCompare_ct (a b:List UInt8) (t u:Tag):FnC Tryz.prog 94 [.slice (a.map eBy) t,.slice (b.map eBy) u] (.raw (.int .i64 (cmpL a b))):=⟨by
 refine fn_of Tryz.func94 Tryz.ntmps94 rfl (rs:= [.tmp 4]) rfl rfl fun hb LF=>?_
 refine wf ?_
 exact end1 (.refl _)⟩
instance pCompare_ct (a b:Dig):FnC Tryz.prog 52 [.agg (eDig a),.agg (eDig b)] (.raw (.int .i64 (cmpD a b))):=⟨by
 refine fn_of Tryz.func52 Tryz.ntmps52 rfl (rs:= [.tmp 4]) rfl rfl fun hb LF=>?_
 refine wf ?_
 refine end1 (.of_eq ?_)
 rfl⟩
instance isNaN_ct (a:Int):FnC Tryz.prog 228 [.raw (.int .i64 a)] (.raw (.bool false)):=⟨by
 refine fn_of Tryz.func228 Tryz.ntmps228 rfl (rs:= [.tmp 2]) rfl rfl fun hb LF=>?_
 refine wf ?_
 refine end1 (.of_eq ?_)
 simp⟩
def cmpInt (a b:Int):Int:=if a < b then -1 else if b < a then 1 else 0
instance cmpInt_ct (a b:Int):FnC Tryz.prog 196 [.raw (.int .i64 a),.raw (.int .i64 b)] (.raw (.int .i64 (cmpInt a b))):=⟨by
 refine fn_of Tryz.func196 Tryz.ntmps196 rfl (rs:= [.tmp 4]) rfl rfl fun hb LF=>?_
 refine wf ?_
 refine pwp_condD (fun h=>?_) (fun h=>?_)
 ·refine wf ?_
  refine end1 (.of_eq ?_)
  rw[cmpInt,if_pos h]
 refine wf ?_
 refine pwp_condD (fun h2=>?_) (fun h2=>?_)
 ·refine wf ?_
  refine end1 (.of_eq ?_)
  rw[cmpInt,if_neg h,if_pos h2]
 ·refine wf ?_
  refine end1 (.of_eq ?_)
  rw[cmpInt,if_neg h,if_neg h2]⟩
instance piCompare_ct (a b:Ident):FnC Tryz.prog 157 [.agg (eIdent a),.agg (eIdent b)] (.raw (.int .i64 (cmpI a b))):=⟨by
 refine fn_of Tryz.func157 Tryz.ntmps157 rfl (rs:= [.tmp 4]) rfl rfl fun hb LF=>?_
 refine wf ?_
 have e:cmpL a.patch.bs b.patch.bs=cmpD a.patch b.patch:=rfl
 rw[e]
 refine pwp_condN (fun h=>?_) (fun h=>?_)
 ·refine wf ?_
  refine end1 (.of_eq ?_)
  rw[cmpI,if_pos h]
 ·refine wf ?_
  refine end1 (.of_eq ?_)
  rw[cmpI,if_neg (by simp[h])];rfl⟩
end Go.Proofs
namespace Go.Proofs
open Go Go.Q
attribute [local irreducible] pwp pops PCalls OpN
instance own_ct (x:Ident):FnC Tryz.prog 50 [.agg (eIdent x)] (.raw (.bool (decide (x.patch=Dig.zero)))):=⟨by
 refine fn_of Tryz.func50 Tryz.ntmps50 rfl (rs:= [.tmp 2]) rfl rfl fun hb LF=>?_
 refine wf ?_
 exact end1 (.refl _)⟩
instance pRoot_ct:FnC Tryz.prog 87 [] (.agg (eIdent ⟨Dig.zero,-1⟩)):=⟨by
 refine fn_of Tryz.func87 Tryz.ntmps87 rfl (rs:= [.cell 0 84]) rfl rfl fun hb LF=>?_
 refine wfb fun b=>?_
 exact endC rfl (.refl _)⟩
instance slIndexByte_ct (s:Str) (c:Int):FnC Tryz.prog 227 [.str s,.raw (.int .u8 c)] (.raw (.int .i64 (Lib.indexByte s c.toNat.toUInt8))):=⟨by
 refine fn_of Tryz.func227 Tryz.ntmps227 rfl (rs:= [.tmp 4]) rfl rfl fun hb LF=>?_
 refine wf ?_
 exact end1 (.refl _)⟩
instance sIndexByte_ct (s:Str) (c:Int):FnC Tryz.prog 195 [.str s,.raw (.int .u8 c)] (.raw (.int .i64 (Lib.indexByte s c.toNat.toUInt8))):=⟨by
 refine fn_of Tryz.func195 Tryz.ntmps195 rfl (rs:= [.tmp 4]) rfl rfl fun hb LF=>?_
 refine wf ?_
 exact end1 (.refl _)⟩
theorem indexByte_neg (c:UInt8): ∀ l:List UInt8,Lib.indexByte l c < 0↔c∉l
 | []=>by simp[Lib.indexByte]
 |b::l=>by
  have h:=Lib.indexByte_ge l c
  have ih:=indexByte_neg c l
  unfold Lib.indexByte
  by_cases e:b=c
  ·subst e;simp
  ·have e2: ¬c=b:=fun h=>e h.symm
   have d:(b==c)=false:=by simp[e]
   simp only[d,Bool.false_eq_true,if_false,List.mem_cons,e2,false_or]
   rw[←ih]
   split
   ·rename_i h2
    have h2:Lib.indexByte l c= -1:=by simpa using h2
    omega
   ·rename_i h2
    have h2:Lib.indexByte l c≠ -1:=by simpa using h2
    omega
theorem rClean_mem (s:Str) (m n:UInt8):rClean s m.toNat n.toNat=(decide (m∉s)&&decide (n∉s)):=by
 unfold rClean
 induction s with
 |nil=>simp
 |cons a s ih=>
  simp only[List.all_cons,ih,rCleanC,List.mem_cons,not_or]
  have e1:((a.toNat:Int)=m.toNat)↔a=m:=⟨fun h=>UInt8.toNat.inj (by omega),fun h=>by rw[h]⟩
  have e2:((a.toNat:Int)=n.toNat)↔a=n:=⟨fun h=>UInt8.toNat.inj (by omega),fun h=>by rw[h]⟩
  simp only[e1,e2]
  grind
theorem rValid_eq (s:Str):rValid s=(decide ((s.length:Int)≤1000)&&decide (Lib.indexByte s 10 < 0)&&decide (Lib.indexByte s 0 < 0)):=by
 have h:rClean s 10 0=(decide (10∉s)&&decide (0∉s)):=rClean_mem s 10 0
 have a1:decide (Lib.indexByte s 10 < 0)=decide (10∉s):=by rw[decide_eq_decide];exact indexByte_neg 10 s
 have a2:decide (Lib.indexByte s 0 < 0)=decide (0∉s):=by rw[decide_eq_decide];exact indexByte_neg 0 s
 rw[rValid,h,a1,a2,Bool.and_assoc]
instance pValid_ct (s:Str):FnC Tryz.prog 156 [.str s] (.raw (.bool (rValid s))):=⟨by
 refine fn_of Tryz.func156 Tryz.ntmps156 rfl (rs:= [.tmp 2]) rfl rfl fun hb LF=>?_
 have e:=rValid_eq s
 have c1:((10:Int).toNat).toUInt8=10:=rfl
 have c2:((0:Int).toNat).toUInt8=0:=rfl
 refine wf ?_
 repeat' (first|(refine pwp_condD (fun h=>?_) (fun h=>?_)<;>refine wf ?_)|(refine pwp_condN (fun h=>?_) (fun h=>?_)<;>refine wf ?_)|(refine pwp_condB (fun h=>?_) (fun h=>?_)<;>refine wf ?_)|(refine pops_if (fun h=>?_) (fun h=>?_)<;>(have h2:=h;(try simp only[decide_eq_true_eq,decide_eq_false_iff_not,Bool.not_eq_true',Bool.not_eq_false']at h2);refine wf ?_)))
 all_goals (refine end1 (.of_eq ?_);rw[e];simp only[c1,c2]at*;first|(simp_all;done)|grind)⟩
set_option maxHeartbeats 1000000 in
instance isName_ct (s:Str):FnC Tryz.prog 154 [.str s] (.raw (.bool (rName s))):=⟨by
 refine fn_of Tryz.func154 Tryz.ntmps154 rfl (rs:= [.tmp 2]) rfl rfl fun hb LF=>?_
 have hlen:s.length≤140737488355328:=(hb (.str s) (by simp)).str_len
 refine wf ?_
 refine pwp_loopS (σ:=Nat) (fun k=>k≤s.length∧ ∀ i (h:i < s.length),i < k→rNameC s[i]=true) (fun k=>s.length - k) (fun k=> [(0,.str s),(6,.raw (.int .i64 s.length)),(7,.raw (.int .i64 k))]) (fun _=>LF) 0 ⟨by simp,by simp⟩ ⟨rfl,rfl,rfl⟩ (.refl _) ?_
 rintro k ⟨hk,he⟩
 refine wf ?_
 refine pwp_condD (fun hc=>?_) (fun hc=>?_)
 ·have hlt:k < s.length:=by omega
  refine wf ?_
  refine pops_cutE [(46,.raw (.bool (!rNameC s[k]))),(0,.str s),(6,.raw (.int .i64 s.length)),(7,.raw (.int .i64 k))] (LF) ?_ ?_
  ·repeat' (first|(refine pwp_condD (fun h=>?_) (fun h=>?_)<;>refine wf ?_)|(refine pwp_condN (fun h=>?_) (fun h=>?_)<;>refine wf ?_)|(refine pwp_condB (fun h=>?_) (fun h=>?_)<;>refine wf ?_)|(refine pops_if (fun h=>?_) (fun h=>?_)<;>(have h2:=h;(try simp only[decide_eq_true_eq,decide_eq_false_iff_not,Bool.not_eq_true',Bool.not_eq_false']at h2);refine wf ?_)))
   all_goals (refine⟨⟨holdsB (by rfl) ?_,rfl,rfl,rfl⟩,.refl _⟩;(clear he hc;grind [rNameC]))
  refine wf ?_
  refine pwp_condB (fun h=>?_) (fun h=>?_)
  ·refine wf ?_
   refine end1 (.of_eq ?_)
   have:rNameC s[k]=false:=by simpa using h
   rw[rName,all_false_of hlt this];rfl
  ·refine wf ?_
   exact⟨k+1,⟨by omega,upto_succ he hlt (by simpa using h)⟩,by dsimp only;omega,⟨rfl,rfl,rfl⟩,.refl _⟩
 ·have hall:s.all rNameC=true:=all_true_of fun i h=>he i h (by omega)
  have e1:decide (1≤(s.length:Int))=!decide (s= []):=by cases s<;>simp;omega
  refine wf ?_
  repeat' (first|(refine pwp_condD (fun h=>?_) (fun h=>?_)<;>refine wf ?_)|(refine pwp_condN (fun h=>?_) (fun h=>?_)<;>refine wf ?_)|(refine pwp_condB (fun h=>?_) (fun h=>?_)<;>refine wf ?_)|(refine pops_if (fun h=>?_) (fun h=>?_)<;>(have h2:=h;(try simp only[decide_eq_true_eq,decide_eq_false_iff_not,Bool.not_eq_true',Bool.not_eq_false']at h2);refine wf ?_)))
  all_goals (refine end1 (.of_eq ?_);rw[rName,hall,e1];clear he hall hb;first|(simp_all;done)|grind)⟩
end Go.Proofs
namespace Go.Proofs
open Go Go.Q
attribute [local irreducible] pwp pops PCalls OpN
def idxL {α:Type} [DecidableEq α] (v:α):List α→Int
 | []=> -1
 |a::l=>if v=a then 0 else if idxL v l= -1 then -1 else idxL v l+1
theorem idxL_ge {α:Type} [DecidableEq α] (v:α): ∀ l:List α,-1≤idxL v l
 | []=>by simp[idxL]
 |a::l=>by
  have:=idxL_ge v l
  unfold idxL;split
  ·omega
  ·split<;>omega
theorem idxL_mem {α:Type} [DecidableEq α] (v:α): ∀ l:List α,0≤idxL v l↔v∈l
 | []=>by simp[idxL]
 |a::l=>by
  have h:=idxL_ge v l
  have ih:=idxL_mem v l
  unfold idxL
  by_cases e:v=a
  ·simp[e]
  ·simp only[e,if_false,List.mem_cons,false_or]
   rw[←ih]
   split<;>omega
theorem idxL_at {α:Type} [DecidableEq α] (v:α): ∀ {l:List α} {k:Nat} (h:k < l.length),l[k]=v→(∀ i (hi:i < l.length),i < k→l[i]≠v)→idxL v l=k
 |a::l,0,_,e,_=>by simp only[List.getElem_cons_zero]at e;simp[idxL,e]
 |a::l,k+1,h,e,hb=>by
  have h0:a≠v:=hb 0 (by simp) (by omega)
  have ih:=idxL_at v (l:=l) (k:=k) (by simpa using h) (by simpa using e) (fun i hi hk=>by have:=hb (i+1) (by simpa using hi) (by omega);simpa using this)
  unfold idxL
  rw[if_neg (Ne.symm h0),ih,if_neg (by omega)];omega
theorem idxL_none {α:Type} [DecidableEq α] (v:α) {l:List α} (h: ∀ i (hi:i < l.length),l[i]≠v):idxL v l= -1:=by
 have h1:=idxL_ge v l
 have h2: ¬0≤idxL v l:=fun h'=>by
  obtain⟨i,hi,e⟩:=List.mem_iff_getElem.1 ((idxL_mem v l).1 h')
  exact h i hi e
 omega
instance IndexI_ct (l:List Int) (v:Int) (t:Tag):FnC Tryz.prog 226 [.slice (l.map eI) t,.raw (.int .i64 v)] (.raw (.int .i64 (idxL v l))):=⟨by
 refine fn_of Tryz.func226 Tryz.ntmps226 rfl (rs:= [.tmp 4]) rfl rfl fun hb LF=>?_
 have hlen:l.length≤140737488355328:=(hb (.slice (l.map eI) t) (by simp)).slice_map
 refine wf ?_
 refine pwp_loopS (σ:=Nat) (fun k=>k≤l.length∧ ∀ i (h:i < l.length),i < k→l[i]≠v) (fun k=>l.length - k) (fun k=> [(0,.slice (l.map eI) t),(1,.raw (.int .i64 v)),(7,.raw (.int .i64 l.length)),(8,.raw (.int .i64 k))]) (fun _=>LF) 0 ⟨by simp,by simp⟩ ⟨rfl,rfl,rfl,rfl⟩ (.refl _) ?_
 rintro k ⟨hk,he⟩
 refine wf ?_
 refine pwp_condD (fun hc=>?_) (fun hc=>?_)
 ·have hlt:k < l.length:=by omega
  refine wf ?_
  refine pwp_condD (fun h=>?_) (fun h=>?_)
  ·refine wf ?_
   refine end1 (.of_eq ?_)
   rw[idxL_at v hlt h.symm he]
  ·refine wf ?_
   refine⟨k+1,⟨by omega,fun i hi hik=>?_⟩,by dsimp only;omega,⟨rfl,rfl,rfl,rfl⟩,.refl _⟩
   rcases Nat.lt_or_ge i k with h'|h'
   ·exact he i hi h'
   ·have:i=k:=by omega
    subst this;exact fun e=>h e.symm
 ·refine wf ?_
  refine end1 (.of_eq ?_)
  rw[idxL_none v fun i hi=>he i hi (by omega)]⟩
instance ContainsI_ct (l:List Int) (v:Int) (t:Tag):FnC Tryz.prog 194 [.slice (l.map eI) t,.raw (.int .i64 v)] (.raw (.bool (decide (v∈l)))):=⟨by
 refine fn_of Tryz.func194 Tryz.ntmps194 rfl (rs:= [.tmp 4]) rfl rfl fun hb LF=>?_
 refine wf ?_
 refine end1 (.of_eq ?_)
 have:=idxL_mem v l
 simp only[this]⟩
instance has_ct (l:List Int) (k:Int) (t:Tag):FnC Tryz.prog 193 [.slice (l.map eI) t,.pt [.raw (.int .i64 k)] 0] (.raw (.bool (decide (k∈l)))):=⟨by
 refine fn_of Tryz.func193 Tryz.ntmps193 rfl (rs:= [.tmp 3]) rfl rfl fun hb LF=>?_
 refine wf ?_
 exact end1 (.refl _)⟩
def rTidy1 (c:Chg):Bool:=decide (c.kind∈ [1])||decide (c.type=0)
def rTidy2 (c:Chg):Bool:=decide (c.kind∈ [2,3,4,5,6])||decide (c.file=Ident.zero)
def rTidy3 (c:Chg):Bool:=decide (c.kind∈ [2])||(decide (c.parent=Ident.zero)&&decide (c.name= []))
def rTidy4 (c:Chg):Bool:=decide (c.kind∈ [3])||decide (c.mode=0)
def rTidy5 (c:Chg):Bool:=decide (c.kind∈ [4])||decide (c.data= [])
def rTidy6 (c:Chg):Bool:=decide (c.kind∈ [5,6])||(decide (c.after=Ident.zero)&&decide (c.before=Ident.zero))
def rTidy7 (c:Chg):Bool:=decide (c.kind∈ [5])||decide ((c.lines.length:Int)=0)
def rTidy8 (c:Chg):Bool:=decide (c.kind∈ [2,3,4,6,7])||decide ((c.over.length:Int)=0)
def rTidy (c:Chg):Bool:=rTidy1 c&&rTidy2 c&&rTidy3 c&&rTidy4 c&&rTidy5 c&&rTidy6 c&&rTidy7 c&&rTidy8 c
set_option maxHeartbeats 4000000 in
instance tidy_ct (c:Chg):FnC Tryz.prog 155 [.agg (eChg c)] (.raw (.bool (rTidy c))):=⟨by
 refine fn_of Tryz.func155 Tryz.ntmps155 rfl (rs:= [.tmp 2]) rfl rfl fun hb LF=>?_
 refine wz fun b3=>?_
 refine pwp_freezeD 3 ?_
 refine wz fun b=>?_
 refine pwp_seq ?_
 refine pwp_region (by kernel_rfl) ?_
 refine pops_cutM 19 [(28,.raw (.bool (rTidy1 c&&rTidy2 c))),(1,.pt (eChg c) 0),(4,.clo 193 [.pt [.raw (.int .i64 c.kind)] 0]),(5,.raw (.pointer (some ⟨b,0,none⟩)))] (.box b 84 (eIdent Ident.zero)::LF) ?_ ?_
 ·refine wf ?_
  repeat' (first|(refine pwp_condD (fun h=>?_) (fun h=>?_)<;>refine wf ?_)|(refine pwp_condN (fun h=>?_) (fun h=>?_)<;>refine wf ?_)|(refine pwp_condB (fun h=>?_) (fun h=>?_)<;>refine wf ?_)|(refine pops_if (fun h=>?_) (fun h=>?_)<;>(have h2:=h;(try simp only[decide_eq_true_eq,decide_eq_false_iff_not,Bool.not_eq_true',Bool.not_eq_false']at h2);refine wf ?_)))
  all_goals (refine⟨⟨holdsB (by rfl) ?_,rfl,rfl,rfl⟩,.refl _⟩;(simp only[rTidy1,rTidy2];first|(simp_all;done)|grind))
 refine pops_cutM 16 [(44,.raw (.bool (rTidy1 c&&rTidy2 c&&rTidy3 c))),(1,.pt (eChg c) 0),(4,.clo 193 [.pt [.raw (.int .i64 c.kind)] 0]),(5,.raw (.pointer (some ⟨b,0,none⟩)))] (.box b 84 (eIdent Ident.zero)::LF) ?_ ?_
 ·refine wf ?_
  repeat' (first|(refine pwp_condD (fun h=>?_) (fun h=>?_)<;>refine wf ?_)|(refine pwp_condN (fun h=>?_) (fun h=>?_)<;>refine wf ?_)|(refine pwp_condB (fun h=>?_) (fun h=>?_)<;>refine wf ?_)|(refine pops_if (fun h=>?_) (fun h=>?_)<;>(have h2:=h;(try simp only[decide_eq_true_eq,decide_eq_false_iff_not,Bool.not_eq_true',Bool.not_eq_false']at h2);refine wf ?_)))
  all_goals (refine⟨⟨holdsB (by rfl) ?_,rfl,rfl,rfl⟩,.refl _⟩;(simp only[rTidy3];first|(simp_all;done)|grind))
 refine pops_cutM 10 [(54,.raw (.bool (rTidy1 c&&rTidy2 c&&rTidy3 c&&rTidy4 c))),(1,.pt (eChg c) 0),(4,.clo 193 [.pt [.raw (.int .i64 c.kind)] 0]),(5,.raw (.pointer (some ⟨b,0,none⟩)))] (.box b 84 (eIdent Ident.zero)::LF) ?_ ?_
 ·refine wf ?_
  repeat' (first|(refine pwp_condD (fun h=>?_) (fun h=>?_)<;>refine wf ?_)|(refine pwp_condN (fun h=>?_) (fun h=>?_)<;>refine wf ?_)|(refine pwp_condB (fun h=>?_) (fun h=>?_)<;>refine wf ?_)|(refine pops_if (fun h=>?_) (fun h=>?_)<;>(have h2:=h;(try simp only[decide_eq_true_eq,decide_eq_false_iff_not,Bool.not_eq_true',Bool.not_eq_false']at h2);refine wf ?_)))
  all_goals (refine⟨⟨holdsB (by rfl) ?_,rfl,rfl,rfl⟩,.refl _⟩;(simp only[rTidy4];first|(simp_all;done)|grind))
 refine pops_cutM 10 [(64,.raw (.bool (rTidy1 c&&rTidy2 c&&rTidy3 c&&rTidy4 c&&rTidy5 c))),(1,.pt (eChg c) 0),(4,.clo 193 [.pt [.raw (.int .i64 c.kind)] 0]),(5,.raw (.pointer (some ⟨b,0,none⟩)))] (.box b 84 (eIdent Ident.zero)::LF) ?_ ?_
 ·refine wf ?_
  repeat' (first|(refine pwp_condD (fun h=>?_) (fun h=>?_)<;>refine wf ?_)|(refine pwp_condN (fun h=>?_) (fun h=>?_)<;>refine wf ?_)|(refine pwp_condB (fun h=>?_) (fun h=>?_)<;>refine wf ?_)|(refine pops_if (fun h=>?_) (fun h=>?_)<;>(have h2:=h;(try simp only[decide_eq_true_eq,decide_eq_false_iff_not,Bool.not_eq_true',Bool.not_eq_false']at h2);refine wf ?_)))
  all_goals (refine⟨⟨holdsB (by rfl) ?_,rfl,rfl,rfl⟩,.refl _⟩;(simp only[rTidy5];first|(simp_all;done)|grind))
 refine pops_cutM 17 [(81,.raw (.bool (rTidy1 c&&rTidy2 c&&rTidy3 c&&rTidy4 c&&rTidy5 c&&rTidy6 c))),(1,.pt (eChg c) 0),(4,.clo 193 [.pt [.raw (.int .i64 c.kind)] 0]),(5,.raw (.pointer (some ⟨b,0,none⟩)))] (.box b 84 (eIdent Ident.zero)::LF) ?_ ?_
 ·refine wf ?_
  repeat' (first|(refine pwp_condD (fun h=>?_) (fun h=>?_)<;>refine wf ?_)|(refine pwp_condN (fun h=>?_) (fun h=>?_)<;>refine wf ?_)|(refine pwp_condB (fun h=>?_) (fun h=>?_)<;>refine wf ?_)|(refine pops_if (fun h=>?_) (fun h=>?_)<;>(have h2:=h;(try simp only[decide_eq_true_eq,decide_eq_false_iff_not,Bool.not_eq_true',Bool.not_eq_false']at h2);refine wf ?_)))
  all_goals (refine⟨⟨holdsB (by rfl) ?_,rfl,rfl,rfl⟩,.refl _⟩;(simp only[rTidy6];first|(simp_all;done)|grind))
 refine pops_cutM 11 [(92,.raw (.bool (rTidy1 c&&rTidy2 c&&rTidy3 c&&rTidy4 c&&rTidy5 c&&rTidy6 c&&rTidy7 c))),(1,.pt (eChg c) 0),(4,.clo 193 [.pt [.raw (.int .i64 c.kind)] 0]),(5,.raw (.pointer (some ⟨b,0,none⟩)))] (.box b 84 (eIdent Ident.zero)::LF) ?_ ?_
 ·refine wf ?_
  repeat' (first|(refine pwp_condD (fun h=>?_) (fun h=>?_)<;>refine wf ?_)|(refine pwp_condN (fun h=>?_) (fun h=>?_)<;>refine wf ?_)|(refine pwp_condB (fun h=>?_) (fun h=>?_)<;>refine wf ?_)|(refine pops_if (fun h=>?_) (fun h=>?_)<;>(have h2:=h;(try simp only[decide_eq_true_eq,decide_eq_false_iff_not,Bool.not_eq_true',Bool.not_eq_false']at h2);refine wf ?_)))
  all_goals (refine⟨⟨holdsB (by rfl) ?_,rfl,rfl,rfl⟩,.refl _⟩;(simp only[rTidy7];first|(simp_all;done)|grind))
 refine wf ?_
 repeat' (first|(refine pwp_condD (fun h=>?_) (fun h=>?_)<;>refine wf ?_)|(refine pwp_condN (fun h=>?_) (fun h=>?_)<;>refine wf ?_)|(refine pwp_condB (fun h=>?_) (fun h=>?_)<;>refine wf ?_)|(refine pops_if (fun h=>?_) (fun h=>?_)<;>(have h2:=h;(try simp only[decide_eq_true_eq,decide_eq_false_iff_not,Bool.not_eq_true',Bool.not_eq_false']at h2);refine wf ?_)))
 all_goals (refine end1 (.of_eq ?_);simp only[rTidy,rTidy8];first|(simp_all;done)|grind)⟩
end Go.Proofs
