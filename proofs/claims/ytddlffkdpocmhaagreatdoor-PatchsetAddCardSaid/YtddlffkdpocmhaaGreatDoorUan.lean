/- Contracts of the program: lists of digests; sets of some patches; a search's start, its states, its next question. -/
import Derived.Test.YtddlffkdpocmhaaGreatDoorUam
import Derived.Test.YtddlffkdpocmhaaGreatDoorUal
import Derived.Test.YtddlffkdpocmhaaGreatDoorUad
import Derived.Lib.Overlaps
import Derived.Laws.Externs
set_option linter.unusedSimpArgs false
set_option linter.unusedVariables false
namespace Go.Proofs
open Go Go.Q
attribute [local irreducible] pwp pops PCalls OpN
def idxD (l:List Dig) (d:Dig):Int:=if d∈l then(l.idxOf d:Int)else -1
theorem idxOf_first {l:List Dig} {d:Dig} {k:Nat} (hk:k < l.length) (hn:d∉l.take k) (e:d=l[k]):l.idxOf d=k:=by
 induction l generalizing k with
 |nil=>simp at hk
 |cons x l ih=>
  cases k with
  |zero=>simp at e;subst e;simp
  |succ k=>
   simp only[List.take_succ_cons,List.mem_cons,not_or]at hn
   have:=ih (k:=k) (by simpa using hk) hn.2 (by simpa using e)
   rw[List.idxOf_cons,beq_eq_false_iff_ne.2 (Ne.symm hn.1),cond_false,this]
instance IndexD_ct (l:List Dig) (d:Dig) (t:Tag):FnC Tryz.prog 78 [.slice (l.map eDig) t,.agg (eDig d)] (.raw (.int .i64 (idxD l d))):=⟨by
 refine fn_of Tryz.func78 Tryz.ntmps78 rfl (rs:= [.tmp 4]) rfl rfl fun hb LF=>?_
 have hlen:l.length≤140737488355328:=(hb (.slice (l.map eDig) t) (by simp)).slice_map
 refine wf ?_
 refine pwp_loopS (σ:=Nat) (fun k=>k≤l.length∧d∉l.take k) (fun k=>l.length - k) (fun k=> [(0,.slice (l.map eDig) t),(3,.pt (eDig d) 0),(7,.raw (.int .i64 l.length)),(8,.raw (.int .i64 k))]) (fun _=>LF) 0 ⟨by simp,by simp⟩ ⟨rfl,rfl,rfl,rfl⟩ (.refl _) ?_
 rintro k ⟨hk,hn⟩
 refine wf ?_
 refine pwp_condD (fun hc=>?_) (fun hc=>?_)
 ·have hlt:k < l.length:=by omega
  refine wf ?_
  refine pwp_condD (fun h=>?_) (fun h=>?_)
  ·refine wf ?_
   refine end1 (.of_eq ?_)
   rw[idxD,if_pos (h ▸ List.getElem_mem hlt),idxOf_first hlt hn h]
  ·refine wf ?_
   refine⟨k+1,⟨by omega,?_⟩,by dsimp only;omega,⟨rfl,rfl,rfl,rfl⟩,.refl _⟩
   rw[List.take_succ_eq_append_getElem hlt,List.mem_append,List.mem_singleton]
   rintro(h'|h')
   ·exact hn h'
   ·exact h h'
 ·refine wf ?_
  refine end1 (.of_eq ?_)
  rw[List.take_of_length_le (by omega)]at hn
  rw[idxD,if_neg hn]⟩
instance ContainsD_ct (l:List Dig) (d:Dig) (t:Tag):FnC Tryz.prog 33 [.slice (l.map eDig) t,.agg (eDig d)] (.raw (.bool (decide (d∈l)))):=⟨by
 refine fn_of Tryz.func33 Tryz.ntmps33 rfl (rs:= [.tmp 4]) rfl rfl fun hb LF=>?_
 refine wf ?_
 refine end1 (.of_eq ?_)
 by_cases h:d∈l<;>simp[idxD,h]⟩
instance EqualD_ct (l m:List Dig) (t u:Tag):FnC Tryz.prog 55 [.slice (l.map eDig) t,.slice (m.map eDig) u] (.raw (.bool (decide (l=m)))):=⟨by
 refine fn_of Tryz.func55 Tryz.ntmps55 rfl (rs:= [.tmp 4]) rfl rfl fun hb LF=>?_
 have hlen:l.length≤140737488355328:=(hb (.slice (l.map eDig) t) (by simp)).slice_map
 refine wf ?_
 refine pwp_condN (fun h=>?_) (fun h=>?_)
 ·refine wf ?_
  refine end1 (.of_eq ?_)
  have: ¬l=m:=fun e=>by subst e;exact h rfl
  simp[this]
 have hlm:l.length=m.length:=by omega
 refine wf ?_
 refine pwp_loopS (σ:=Nat) (fun k=>k≤l.length∧l.take k=m.take k) (fun k=>l.length - k) (fun k=> [(0,.slice (l.map eDig) t),(1,.slice (m.map eDig) u),(12,.raw (.int .i64 l.length)),(13,.raw (.int .i64 k))]) (fun _=>LF) 0 ⟨by simp,by simp⟩ ⟨rfl,rfl,rfl,rfl⟩ (.refl _) ?_
 rintro k ⟨hk,he⟩
 refine wf ?_
 refine pwp_condD (fun hc=>?_) (fun hc=>?_)
 ·have hlt:k < l.length:=by omega
  have hltm:k < m.length:=by omega
  refine wf ?_
  refine pwp_condN (fun h=>?_) (fun h=>?_)
  ·refine wf ?_
   refine end1 (.of_eq ?_)
   have: ¬l=m:=fun e=>by subst e;exact h rfl
   simp[this]
  ·refine wf ?_
   refine⟨k+1,⟨by omega,?_⟩,by dsimp only;omega,⟨rfl,rfl,rfl,rfl⟩,.refl _⟩
   rw[List.take_succ_eq_append_getElem hlt,List.take_succ_eq_append_getElem hltm,he,h]
 ·refine wf ?_
  refine end1 (.of_eq ?_)
  rw[List.take_of_length_le (by omega),List.take_of_length_le (by omega)]at he
  simp[he]⟩
instance KeepP_ct (s:List Sto) (l:List Dig) (t u:Tag) [hs:Small (s.length≤1000000)]:FnC Tryz.prog 60 [.slice (s.map eSto) t,.slice (l.map eDig) u] (.slice ((keepS s l).map eSto) .ro):=⟨by
 refine fn_of Tryz.func60 Tryz.ntmps60 rfl (rs:= [.tmp 4]) rfl rfl fun hb LF=>?_
 have hlen:s.length≤1000000:=hs.out
 refine wf ?_
 refine pwp_tok 37 ?_
 refine pwp_loopS (σ:=Nat × Tag) (fun k=>k.1≤s.length) (fun k=>s.length - k.1) (fun k=> [(1,.slice (l.map eDig) u),(5,.slice ((keepS (s.take k.1) l).map eSto) k.2),(8,.slice (s.map eSto) t),(9,.raw (.int .i64 s.length)),(10,.raw (.int .i64 k.1))]) (fun k=> .tok k.2 (keepS (s.take k.1) l).length 37::LF) (0,.nil) (by simp) ⟨rfl,rfl,rfl,rfl,rfl⟩ (.refl _) ?_
 rintro⟨k,v⟩ hk
 dsimp only at hk
 refine wf ?_
 refine pwp_condD (fun hc=>?_) (fun hc=>?_)
 ·have hl:(keepS (s.take k) l).length≤k:=Nat.le_trans (List.length_filter_le _ _) (by simp;omega)
  have e:keepS (s.take (k+1)) l=keepS (s.take k) l++keepS [s[k]] l:=by
   rw[List.take_succ_eq_append_getElem (by omega)];simp only[keepS,List.filter_append]
  refine wz fun b7=>?_
  refine pwp_freezeD 7 ?_
  refine wf ?_
  refine pwp_condD (fun h=>?_) (fun h=>?_)
  ·refine wfa fun v'=>?_
   have e2:keepS [s[k]] l= [s[k]]:=by simp[keepS,h]
   rw[e2]at e
   refine⟨(k+1,v'),by dsimp only;omega,by dsimp only;omega,⟨rfl,by dsimp only;rw[e];rfl,rfl,rfl,rfl⟩,by dsimp only;rw[e];exact .refl _⟩
  ·refine wf ?_
   have e2:keepS [s[k]] l= []:=by simp[keepS,h]
   rw[e2,List.append_nil]at e
   refine⟨(k+1,v),by dsimp only;omega,by dsimp only;omega,⟨rfl,by dsimp only;rw[e];rfl,rfl,rfl,rfl⟩,by dsimp only;rw[e];exact .refl _⟩
 ·refine wf ?_
  refine end1 (.ros ?_)
  rw[List.take_of_length_le (by omega)]⟩
end Go.Proofs
namespace Go.Proofs
open Go Go.Q
end Go.Proofs
namespace Go.Proofs
open Go Go.Q
attribute [local irreducible] pwp pops PCalls OpN
end Go.Proofs
namespace Go.Proofs
open Go Go.Q
attribute [local irreducible] pwp pops PCalls OpN
def idxF {α:Type} (p:α→Bool) (l:List α):Int:=if l.any p=true then(l.findIdx p:Int)else -1
theorem findIdx_first {α:Type} {p:α→Bool} {l:List α} {k:Nat} (hk:k < l.length) (hn:(l.take k).any p=false) (e:p l[k]=true):l.findIdx p=k:=by
 refine List.findIdx_eq hk |>.2 ⟨e,fun j hj=>?_⟩
 have:=List.any_eq_false.1 hn (l[j]) (List.mem_take_iff_getElem.2 ⟨j,by omega,rfl⟩)
 simpa using this
theorem indexD_fn (F:Nat) (cs:List PV) (p:Dig→Bool) [hF:TFun Tryz.prog F] [hp: ∀ d,FnC Tryz.prog F (.agg (eDig d)::cs) (.raw (.bool (p d)))] (l:List Dig) (t:Tag):
  FnC Tryz.prog 79 [.slice (l.map eDig) t,.clo F cs] (.raw (.int .i64 (idxF p l))):=⟨by
 refine fn_of Tryz.func79 Tryz.ntmps79 rfl (rs:= [.tmp 4]) rfl rfl fun hb LF=>?_
 have hlen:l.length≤140737488355328:=(hb (.slice (l.map eDig) t) (by simp)).slice_map
 refine wf ?_
 refine pwp_loopS (σ:=Nat) (fun k=>k≤l.length∧(l.take k).any p=false) (fun k=>l.length - k) (fun k=> [(0,.slice (l.map eDig) t),(1,.clo F cs),(7,.raw (.int .i64 l.length)),(8,.raw (.int .i64 k))]) (fun _=>LF) 0 ⟨by simp,by simp⟩ ⟨rfl,rfl,rfl,rfl⟩ (.refl _) ?_
 rintro k ⟨hk,hn⟩
 refine wf ?_
 refine pwp_condD (fun hc=>?_) (fun hc=>?_)
 ·have hlt:k < l.length:=by omega
  refine wf ?_
  refine pwp_condB (fun h=>?_) (fun h=>?_)
  ·refine wf ?_
   refine end1 (.of_eq ?_)
   have e:l.any p=true:=List.any_eq_true.2 ⟨l[k],List.getElem_mem hlt,h⟩
   rw[idxF,if_pos e,findIdx_first hlt hn h]
  ·refine wf ?_
   refine⟨k+1,⟨by omega,?_⟩,by dsimp only;omega,⟨rfl,rfl,rfl,rfl⟩,.refl _⟩
   rw[List.take_succ_eq_append_getElem hlt,List.any_append,hn]
   simp[h]
 ·refine wf ?_
  refine end1 (.of_eq ?_)
  rw[List.take_of_length_le (by omega)]at hn
  rw[idxF,if_neg (by simp[hn])]⟩
theorem containsD_fn (F:Nat) (cs:List PV) (p:Dig→Bool) [hF:TFun Tryz.prog F] [hp: ∀ d,FnC Tryz.prog F (.agg (eDig d)::cs) (.raw (.bool (p d)))] (l:List Dig) (t:Tag):
  FnC Tryz.prog 35 [.slice (l.map eDig) t,.clo F cs] (.raw (.bool (l.any p))):=⟨by
 have i1: ∀ t,FnC Tryz.prog 79 [.slice (l.map eDig) t,.clo F cs] (.raw (.int .i64 (idxF p l))):=indexD_fn F cs p l
 refine fn_of Tryz.func35 Tryz.ntmps35 rfl (rs:= [.tmp 4]) rfl rfl fun hb LF=>?_
 refine wf ?_
 refine end1 (.of_eq ?_)
 cases h:l.any p<;>simp[idxF,h]⟩
theorem indexS_fn (F:Nat) (cs:List PV) (p:Sto→Bool) [hF:TFun Tryz.prog F] [hp: ∀ d,FnC Tryz.prog F (.agg (eSto d)::cs) (.raw (.bool (p d)))] (l:List Sto) (t:Tag):
  FnC Tryz.prog 80 [.slice (l.map eSto) t,.clo F cs] (.raw (.int .i64 (idxF p l))):=⟨by
 refine fn_of Tryz.func80 Tryz.ntmps80 rfl (rs:= [.tmp 4]) rfl rfl fun hb LF=>?_
 have hlen:l.length≤140737488355328:=(hb (.slice (l.map eSto) t) (by simp)).slice_map
 refine wf ?_
 refine pwp_loopS (σ:=Nat) (fun k=>k≤l.length∧(l.take k).any p=false) (fun k=>l.length - k) (fun k=> [(0,.slice (l.map eSto) t),(1,.clo F cs),(7,.raw (.int .i64 l.length)),(8,.raw (.int .i64 k))]) (fun _=>LF) 0 ⟨by simp,by simp⟩ ⟨rfl,rfl,rfl,rfl⟩ (.refl _) ?_
 rintro k ⟨hk,hn⟩
 refine wf ?_
 refine pwp_condD (fun hc=>?_) (fun hc=>?_)
 ·have hlt:k < l.length:=by omega
  refine wf ?_
  refine pwp_condB (fun h=>?_) (fun h=>?_)
  ·refine wf ?_
   refine end1 (.of_eq ?_)
   have e:l.any p=true:=List.any_eq_true.2 ⟨l[k],List.getElem_mem hlt,h⟩
   rw[idxF,if_pos e,findIdx_first hlt hn h]
  ·refine wf ?_
   refine⟨k+1,⟨by omega,?_⟩,by dsimp only;omega,⟨rfl,rfl,rfl,rfl⟩,.refl _⟩
   rw[List.take_succ_eq_append_getElem hlt,List.any_append,hn]
   simp[h]
 ·refine wf ?_
  refine end1 (.of_eq ?_)
  rw[List.take_of_length_le (by omega)]at hn
  rw[idxF,if_neg (by simp[hn])]⟩
end Go.Proofs
namespace Go.Proofs
open Go Go.Q
attribute [local irreducible] pwp pops PCalls OpN
theorem indexDR_fn (F:Nat) (cs:List PV) (p:Dig→Bool) (LR:List Res) [hF:TFun Tryz.prog F] (hp: ∀ d,PCalls Tryz.prog F (.agg (eDig d)::cs) LR (fun r L'=>r= .raw (.bool (p d))∧L'=LR)) (l:List Dig) (t:Tag):
  PCalls Tryz.prog 79 [.slice (l.map eDig) t,.clo F cs] LR (fun r L'=>r= .raw (.int .i64 (idxF p l))∧L'=LR):=by
 refine pcalls_bd Tryz.func79 rfl Tryz.ntmps79 (rs:= [.tmp 4]) rfl rfl fun hb LF=>?_
 have hlen:l.length≤140737488355328:=(hb (.slice (l.map eDig) t) (by simp)).slice_map
 refine wf ?_
 refine pwp_loopS (σ:=Nat) (fun k=>k≤l.length∧(l.take k).any p=false) (fun k=>l.length - k) (fun k=> [(0,.slice (l.map eDig) t),(1,.clo F cs),(7,.raw (.int .i64 l.length)),(8,.raw (.int .i64 k))]) (fun _=>LR++LF) 0 ⟨by simp,by simp⟩ ⟨rfl,rfl,rfl,rfl⟩ (.refl _) ?_
 rintro k ⟨hk,hn⟩
 refine wf ?_
 refine pwp_condD (fun hc=>?_) (fun hc=>?_)
 ·have hlt:k < l.length:=by omega
  refine wf ?_
  refine s_callR (xs:= [.tmp 15]) LR LF (f:=F) (cs:=cs) (.refl _) rfl rfl (.refl _) _ (hp l[k]) fun r L' ⟨e1,e2⟩=>?_
  subst e1 e2
  refine wf ?_
  refine wf ?_
  refine pwp_condB (fun h=>?_) (fun h=>?_)
  ·refine wf ?_
   have e:l.any p=true:=List.any_eq_true.2 ⟨l[k],List.getElem_mem hlt,h⟩
   exact⟨trivial,_,_,.cons (.tmp 4) .nil,.refl _,by rw[idxF,if_pos e,findIdx_first hlt hn h];rfl,rfl⟩
  ·refine wf ?_
   refine⟨k+1,⟨by omega,?_⟩,by dsimp only;omega,⟨rfl,rfl,rfl,rfl⟩,.refl _⟩
   rw[List.take_succ_eq_append_getElem hlt,List.any_append,hn]
   simp[h]
 ·refine wf ?_
  rw[List.take_of_length_le (by omega)]at hn
  exact⟨trivial,_,_,.cons (.tmp 4) .nil,.refl _,by rw[idxF,if_neg (by simp[hn])];rfl,rfl⟩
theorem containsDR_fn (F:Nat) (cs:List PV) (p:Dig→Bool) (LR:List Res) [hF:TFun Tryz.prog F] (hp: ∀ d,PCalls Tryz.prog F (.agg (eDig d)::cs) LR (fun r L'=>r= .raw (.bool (p d))∧L'=LR)) (l:List Dig) (t:Tag):
  PCalls Tryz.prog 35 [.slice (l.map eDig) t,.clo F cs] LR (fun r L'=>r= .raw (.bool (l.any p))∧L'=LR):=by
 refine pcalls_bd Tryz.func35 rfl Tryz.ntmps35 (rs:= [.tmp 4]) rfl rfl fun hb LF=>?_
 refine wf ?_
 refine s_callR (xs:= [.tmp 5,.tmp 6]) LR LF (f:=79) (cs:= []) (le_func _) rfl rfl (.refl _) _ (indexDR_fn F cs p LR hp l t) fun r L' ⟨e1,e2⟩=>?_
 subst e1 e2
 refine wf ?_
 refine wf ?_
 refine⟨trivial,_,_,.cons (.tmp 4) .nil,.refl _,?_,rfl⟩
 show PV.raw (.bool (decide (0≤idxF p l)))=_
 cases h:l.any p<;>simp[idxF,h]
theorem indexSR_fn (F:Nat) (cs:List PV) (p:Sto→Bool) (LR:List Res) [hF:TFun Tryz.prog F] (hp: ∀ d,PCalls Tryz.prog F (.agg (eSto d)::cs) LR (fun r L'=>r= .raw (.bool (p d))∧L'=LR)) (l:List Sto) (t:Tag):
  PCalls Tryz.prog 80 [.slice (l.map eSto) t,.clo F cs] LR (fun r L'=>r= .raw (.int .i64 (idxF p l))∧L'=LR):=by
 refine pcalls_bd Tryz.func80 rfl Tryz.ntmps80 (rs:= [.tmp 4]) rfl rfl fun hb LF=>?_
 have hlen:l.length≤140737488355328:=(hb (.slice (l.map eSto) t) (by simp)).slice_map
 refine wf ?_
 refine pwp_loopS (σ:=Nat) (fun k=>k≤l.length∧(l.take k).any p=false) (fun k=>l.length - k) (fun k=> [(0,.slice (l.map eSto) t),(1,.clo F cs),(7,.raw (.int .i64 l.length)),(8,.raw (.int .i64 k))]) (fun _=>LR++LF) 0 ⟨by simp,by simp⟩ ⟨rfl,rfl,rfl,rfl⟩ (.refl _) ?_
 rintro k ⟨hk,hn⟩
 refine wf ?_
 refine pwp_condD (fun hc=>?_) (fun hc=>?_)
 ·have hlt:k < l.length:=by omega
  refine wf ?_
  refine s_callR (xs:= [.tmp 15]) LR LF (f:=F) (cs:=cs) (.refl _) rfl rfl (.refl _) _ (hp l[k]) fun r L' ⟨e1,e2⟩=>?_
  subst e1 e2
  refine wf ?_
  refine wf ?_
  refine pwp_condB (fun h=>?_) (fun h=>?_)
  ·refine wf ?_
   have e:l.any p=true:=List.any_eq_true.2 ⟨l[k],List.getElem_mem hlt,h⟩
   exact⟨trivial,_,_,.cons (.tmp 4) .nil,.refl _,by rw[idxF,if_pos e,findIdx_first hlt hn h];rfl,rfl⟩
  ·refine wf ?_
   refine⟨k+1,⟨by omega,?_⟩,by dsimp only;omega,⟨rfl,rfl,rfl,rfl⟩,.refl _⟩
   rw[List.take_succ_eq_append_getElem hlt,List.any_append,hn]
   simp[h]
 ·refine wf ?_
  rw[List.take_of_length_le (by omega)]at hn
  exact⟨trivial,_,_,.cons (.tmp 4) .nil,.refl _,by rw[idxF,if_neg (by simp[hn])];rfl,rfl⟩
theorem idxF_append {α:Type} (p:α→Bool) (l:List α) (x:α):idxF p (l++ [x])=if l.any p=true then idxF p l else if p x=true then(l.length:Int)else -1:=by
 unfold idxF
 rw[List.any_append,List.findIdx_append]
 by_cases h:l.any p=true
 ·have h2:l.findIdx p < l.length:=List.findIdx_lt_length.2 (List.any_eq_true.1 h)
  rw[if_pos h,if_pos h,if_pos h2,if_pos (by simp[h])]
 ·have h2: ¬l.findIdx p < l.length:=fun h'=>h (List.any_eq_true.2 (List.findIdx_lt_length.1 h'))
  rw[if_neg h,if_neg h2]
  cases hx:p x with
  |true=>simp[h,hx]
  |false=>simp[h,hx]
def eligR (out:List Dig) (x:Sto):Bool:=decide (¬x.id∈out∧allIn out (rNeeds x.patch)=true)
theorem idxF_range {α:Type} (p:α→Bool) (l:List α): -1≤idxF p l∧idxF p l < l.length∧(l.any p=true→0≤idxF p l):=by
 unfold idxF
 by_cases h:l.any p=true
 ·rw[if_pos h]
  have:=List.findIdx_lt_length.2 (List.any_eq_true.1 h)
  exact⟨by omega,by omega,fun _=>by omega⟩
 ·rw[if_neg h]
  exact⟨by omega,by omega,fun h'=>absurd h' h⟩
theorem rPick_first {s:List Sto} (h:Asc (ids s)) (out:List Dig):rPick s out=idxF (eligR out) s:=by
 have key: ∀ n,n≤s.length→(List.range n).foldl (rBetter s out) (-1)=idxF (eligR out) (s.take n):=fun n=>by
  induction n with
  |zero=>intro _;rfl
  |succ n ih=>
   intro hn
   have hlt:n < s.length:=by omega
   have e0:s.getD n Sto.zero=s[n]:=by simp[List.getD,hlt]
   rw[foldl_range_succ,ih (by omega),List.take_succ_eq_append_getElem hlt,idxF_append,rBetter,e0]
   obtain⟨r1,r2,r3⟩:=idxF_range (eligR out) (s.take n)
   rw[List.length_take]at r2
   by_cases ha:(s.take n).any (eligR out)=true
   ·have r3:=r3 ha
    generalize idxF (eligR out) (s.take n)=k at*
    rw[if_pos ha,if_neg]
    rintro⟨_,h2⟩
    rcases h2 with h2|h2
    ·omega
    ·have hk:k.toNat < s.length:=by omega
     have e1:s.getD k.toNat Sto.zero=s[k.toNat]:=by simp[List.getD,hk]
     rw[e1]at h2
     have:=List.pairwise_iff_getElem.1 h k.toNat n (by simpa [ids]using hk) (by simpa [ids]using hlt) (by omega)
     simp only[ids,List.getElem_map]at this
     exact Dig.lt_asymm this h2
   ·have hk:idxF (eligR out) (s.take n)= -1:=by unfold idxF;rw[if_neg ha]
    rw[if_neg ha,hk]
    by_cases he: ¬s[n].id∈out∧allIn out (rNeeds s[n].patch)=true
    ·rw[if_pos ⟨he,.inl (by omega)⟩,if_pos (by simpa [eligR]using he),List.length_take,Nat.min_eq_left (by omega)]
    ·rw[if_neg (fun h'=>he h'.1),if_neg (by simpa [eligR]using he)]
 have:=key s.length (Nat.le_refl _)
 rwa [List.take_length]at this
theorem mGet_gr {s:List Sto} (h:Asc (ids s)) {x:Sto} (hx:x∈s):mGet x.id (gr s)=some (rNeeds x.patch):=by
 have key: ∀ n,n≤s.length→ ∀ i (hi:i < s.length),i < n→mGet s[i].id (gr (s.take n))=some (rNeeds s[i].patch):=fun n=>by
  induction n with
  |zero=>intro _ i _ h';omega
  |succ n ih=>
   intro hn i hi hin
   have hlt:n < s.length:=by omega
   rw[gr_take hlt,mGet_mSet]
   by_cases e:i=n
   ·subst e;rw[if_pos rfl]
   ·have hp:=List.pairwise_iff_getElem.1 h i n (by simpa [ids]using hi) (by simpa [ids]using hlt) (by omega)
    simp only[ids,List.getElem_map]at hp
    rw[if_neg (fun e'=>Dig.lt_irrefl _ (e' ▸ hp))]
    exact ih (by omega) i hi (by omega)
 obtain⟨i,hi,rfl⟩:=List.mem_iff_getElem.1 hx
 have:=key s.length (Nat.le_refl _) i hi hi
 rwa [List.take_length]at this
theorem order11_fn (m:Nat) (done:List (Dig × Bool)) (d:Dig):PCalls Tryz.prog 104 [.agg (eDig d),.pt [.raw (.map (some m))] 0] [.map m (eMap kDig vBool done)] (fun r L'=>r= .raw (.bool (!(mGet d done).getD false))∧L'= [.map m (eMap kDig vBool done)]):=by
 refine pcalls_bd Tryz.func104 rfl Tryz.ntmps104 (rs:= [.tmp 3]) rfl rfl fun hb LF=>?_
 refine wf ?_
 exact⟨trivial,_,_,.cons (.tmp 3) .nil,.refl _,rfl,rfl⟩
def eligP (G:List (Dig × List Dig)) (done:List (Dig × Bool)) (x:Sto):Bool:=!(mGet x.id done).getD false&&!(((mGet x.id G).getD []).any fun d=>!(mGet d done).getD false)
theorem order1_fn (m:Nat) (G:List (Dig × List Dig)) (done:List (Dig × Bool)) (x:Sto):PCalls Tryz.prog 103 [.agg (eSto x),.pt [.raw (.map (some m))] 0,.pt [.fmap (eMap kDig (vSl eDig) G)] 0] [.map m (eMap kDig vBool done)] (fun r L'=>r= .raw (.bool (eligP G done x))∧L'= [.map m (eMap kDig vBool done)]):=by
 refine pcalls_bd Tryz.func103 rfl Tryz.ntmps103 (rs:= [.tmp 4]) rfl rfl fun hb LF=>?_
 refine wf ?_
 refine pops_if (fun hp=>?_) (fun hp=>?_)
 ·have h0:(mGet x.id done).getD false=false:=by simpa using hp
  refine wf ?_
  refine s_callR (xs:= [.tmp 14,.tmp 15]) [.map m (eMap kDig vBool done)] LF (f:=35) (cs:= []) (le_func _) rfl rfl (.refl _) _ (containsDR_fn 104 [.pt [.raw (.map (some m))] 0] (fun d=>!(mGet d done).getD false) [.map m (eMap kDig vBool done)] (order11_fn m done) ((mGet x.id G).getD []) .ro) fun r L' ⟨e1,e2⟩=>?_
  subst e1 e2
  refine wf ?_
  refine wf ?_
  exact⟨trivial,_,_,.cons (.tmp 4) .nil,.refl _,by rw[eligP,h0];rfl,rfl⟩
 ·have h0:(mGet x.id done).getD false=true:=by simpa using hp
  refine wf ?_
  exact⟨trivial,_,_,.cons (.tmp 4) .nil,.refl _,by rw[eligP,h0];rfl,rfl⟩
theorem idxF_congr {α:Type} {p q:α→Bool}: ∀ {l:List α},(∀ x∈l,p x=q x)→idxF p l=idxF q l:=fun {l} h=>by
 have h1:l.any p=l.any q:=by
  rw[Bool.eq_iff_iff,List.any_eq_true,List.any_eq_true]
  exact⟨fun⟨x,hx,e⟩=>⟨x,hx,(h x hx) ▸ e⟩,fun⟨x,hx,e⟩=>⟨x,hx,(h x hx).symm ▸ e⟩⟩
 have h2:l.findIdx p=l.findIdx q:=by
  clear h1
  induction l with
  |nil=>rfl
  |cons x l ih=>
   rw[List.findIdx_cons,List.findIdx_cons,h x (by simp),ih fun y hy=>h y (List.mem_cons_of_mem _ hy)]
 unfold idxF
 rw[h1,h2]
theorem elig_eq {s:List Sto} (h:Asc (ids s)) {done:List (Dig × Bool)} {out:List Dig} (hm:MetOk done out) {x:Sto} (hx:x∈s):eligP (gr s) done x=eligR out x:=by
 unfold eligP eligR
 rw[hm x.id,mGet_gr h hx,Option.getD_some]
 have e:((rNeeds x.patch).any fun d=>!(mGet d done).getD false)=!allIn out (rNeeds x.patch):=by
  rw[allIn,List.not_all_eq_any_not]
  congr 1
  funext d
  rw[hm d]
 rw[e,Bool.not_not]
 by_cases h1:x.id∈out<;>simp[h1]
set_option maxHeartbeats 2000000 in
theorem orderP_fn (s:List Sto) (t:Tag) (hg:goodS s) (ha:Asc (ids s)):FnC Tryz.prog 58 [.slice (s.map eSto) t] (.slice ((rOrder s).map eDig) .ro):=⟨by
 have h8:=hg.1
 have i1:Small (goodS s):=⟨hg⟩
 refine fn_of Tryz.func58 Tryz.ntmps58 rfl (rs:= [.tmp 2]) rfl rfl fun hb LF=>?_
 refine wf ?_
 refine s_alloc fun b3=>?_
 refine wo ?_
 refine pops_nil ?_
 refine pwp_freezeD 3 ?_
 refine wf ?_
 refine s_makeMap fun m=>?_
 refine wf ?_
 refine s_alloc fun b4=>?_
 refine wo ?_
 refine pops_nil ?_
 refine pwp_freezeD 4 ?_
 refine wf ?_
 refine pwp_tok 32 ?_
 refine pwp_perm (.swap _ _ _) ?_
 refine pwp_loopS (σ:=Nat × List Dig × Tag × List (Dig × Bool)) (fun k=>k.1≤s.length∧k.2.1.length=k.1∧MetOk k.2.2.2 k.2.1∧rOrder s=rOrd s (s.length - k.1) k.2.1) (fun k=>s.length - k.1) (fun k=> [(0,.slice (s.map eSto) t),(3,.pt [.fmap (eMap kDig (vSl eDig) (gr s))] 0),(4,.pt [.raw (.map (some m))] 0),(5,.slice (k.2.1.map eDig) k.2.2.1),(11,.raw (.int .i64 s.length)),(12,.raw (.int .i64 k.1))]) (fun k=> .map m (eMap kDig vBool k.2.2.2):: .tok k.2.2.1 k.2.1.length 32::LF) (0,[],.nil,[]) ⟨by simp,rfl,fun d=>by simp[mGet],rfl⟩ ⟨rfl,rfl,rfl,rfl,rfl,rfl⟩ (.refl _) ?_
 rintro⟨k,out,u,done⟩ ⟨hk,hol,hmo,hro⟩
 dsimp only at hk hol hmo hro ⊢
 refine wf ?_
 refine pwp_condD (fun hc=>?_) (fun hc=>?_)
 ·have hlt:k < s.length:=by omega
  have hpk:idxF (eligP (gr s) done) s=rPick s out:=by rw[rPick_first ha,idxF_congr fun x hx=>elig_eq ha hmo hx]
  have hrs:rOrd s (s.length - k) out=if rPick s out < 0 then out else rOrd s (s.length - (k+1)) (out++ [(s.getD (rPick s out).toNat Sto.zero).id]):=by
   rw[show s.length - k=(s.length - (k+1))+1 by omega,rOrd]
  have hrr:=rBetter_range (s:=s) (out:=out) s.length
  change -1≤rPick s out∧rPick s out < s.length at hrr
  refine wf ?_
  refine s_callR (xs:= [.tmp 14,.tmp 15]) [.map m (eMap kDig vBool done)] (.tok u out.length 32::LF) (f:=80) (cs:= []) (le_func _) rfl rfl (.refl _) _ (indexSR_fn 103 [.pt [.raw (.map (some m))] 0,.pt [.fmap (eMap kDig (vSl eDig) (gr s))] 0] (eligP (gr s) done) [.map m (eMap kDig vBool done)] (order1_fn m (gr s) done) s t) fun r L' ⟨e1,e2⟩=>?_
  subst e1 e2
  rw[hpk,List.cons_append,List.nil_append]
  generalize hpp:rPick s out=i at hrr hrs ⊢
  refine wf ?_
  refine wf ?_
  refine pwp_condD (fun hi=>?_) (fun hi=>?_)
  ·refine wf ?_
   refine end1 (.ros ?_)
   rw[hro,hrs,if_pos (by omega)]
  ·obtain⟨j,rfl⟩: ∃ j:Nat,i=(j:Int):=⟨i.toNat,by omega⟩
   have hj:j < s.length:=by omega
   rw[if_neg hi,Int.toNat_natCast,show s.getD j Sto.zero=s[j] by simp[List.getD,hj]]at hrs
   refine wn ?_
   refine pwp_drawN 6 ?_ ?_
   ·decide+kernel
   refine wf ?_
   refine wfa fun u'=>?_
   refine⟨(k+1,out++ [s[j].id],u',mSet s[j].id true done),⟨by dsimp only;omega,by dsimp only;rw[List.length_append,hol];rfl,hmo.add _,by dsimp only;rw[hro,hrs]⟩,by dsimp only;omega,⟨rfl,rfl,rfl,rfl,rfl,rfl⟩,.refl _⟩
 ·have hkk:k=s.length:=by omega
  refine wf ?_
  refine end1 (.ros ?_)
  rw[hro,show s.length - k=0 by omega,rOrd]⟩
end Go.Proofs
namespace Go.Proofs
open Go Go.Q
structure Ranked (s:List Sto) (r:Dig→Nat):Prop where
 asc:Asc (ids s)
 close: ∀ x∈s,∀ d∈rNeeds x.patch,d∈ids s
 rank: ∀ x∈s,∀ d∈rNeeds x.patch,r d < r x.id
theorem Ranked.pick {s:List Sto} {r:Dig→Nat} (h:Ranked s r) {out:List Dig} (hlt:out.length < s.length):0≤rPick s out:=by
 rw[rPick_first h.asc]
 refine(idxF_range (eligR out) s).2.2 ?_
 have hmiss: ∃ x∈s,x.id∉out:=Classical.byContradiction fun hn=>by
  have hall: ∀ d∈ids s,d∈out:=fun d hd=>by
   obtain⟨x,hx,rfl⟩:=List.mem_map.1 hd
   exact Classical.byContradiction fun h'=>hn ⟨x,hx,h'⟩
  have:=nodup_len h.asc.nodup (m:=out) hall
  rw[ids_len]at this;omega
 have key: ∀ n,∀ x∈s,x.id∉out→r x.id=n→ ∃ y∈s,eligR out y=true:=fun n=>by
  induction n using Nat.strongRecOn with
  |_ n ih=>
   intro x hx hxo hn
   by_cases ha: ∀ d∈rNeeds x.patch,d∈out
   ·exact⟨x,hx,decide_eq_true ⟨hxo,List.all_eq_true.2 fun d hd=>decide_eq_true (ha d hd)⟩⟩
   ·obtain⟨d,hd,hdo⟩: ∃ d∈rNeeds x.patch,d∉out:=Classical.byContradiction fun hn=>ha fun d hd=>Classical.byContradiction fun h'=>hn ⟨d,hd,h'⟩
    obtain⟨y,hy,rfl⟩:=List.mem_map.1 (h.close x hx d hd)
    exact ih (r y.id) (hn ▸ h.rank x hx _ hd) y hy hdo rfl
 obtain⟨x,hx,hxo⟩:=hmiss
 obtain⟨y,hy,he⟩:=key _ x hx hxo rfl
 exact List.any_eq_true.2 ⟨y,hy,he⟩
theorem Ranked.order {s:List Sto} {r:Dig→Nat} (h:Ranked s r):(rOrder s).length=s.length:=by
 have key: ∀ n out,out.length+n=s.length→(rOrd s n out).length=s.length:=fun n=>by
  induction n with
  |zero=>intro out ho;rw[rOrd];omega
  |succ n ih=>
   intro out ho
   have hp:=h.pick (out:=out) (by omega)
   rw[rOrd,if_neg (by omega)]
   exact ih _ (by rw[List.length_append,List.length_singleton];omega)
 exact key _ [] (by simp)
theorem check_of_valid {s:List Sto} (v:Valid s):rCheckS s=0:=by
 have h8:=v.close.1.1
 have h1:firstErr (rChkE s) (List.range s.length)=0:=firstErr_zero fun i hi=>by
  have hi':i < s.length:=by simpa using hi
  have e0:s.getD i Sto.zero=s[i]:=by simp[List.getD,hi']
  obtain⟨a1,a2⟩:=v.id s[i] (List.getElem_mem hi')
  rw[List.getElem_range,rChkE,e0,if_neg (by simp[a1]),if_neg (by simp[a2]),if_neg]
  rintro⟨h1,h2⟩
  have hi0:0 < i:=by omega
  have e1:s.getD (i - 1) Sto.zero=s[i - 1]'(by omega):=by
   have h':i - 1 < s.length:=by omega
   simp[List.getD,h']
  have hp:=List.pairwise_iff_getElem.1 v.asc (i - 1) i (by simp[ids];omega) (by simpa [ids]using hi') (by omega)
  simp only[ids,List.getElem_map]at hp
  rw[e1,a2]at h2
  have hp:cmpD (s[i - 1]'(by omega)).id s[i].id < 0:=hp
  omega
 have h2:s.all (fun x=>allIn (ids s) (rNeeds x.patch))=true:=List.all_eq_true.2 fun x hx=>List.all_eq_true.2 fun d hd=>decide_eq_true (v.close.2 x hx d hd)
 have h3:=v.order
 unfold rCheckS
 rw[if_neg (by omega),if_neg (by simp[h1]),if_neg (by simp[h2]),if_neg (by omega)]
 exact firstErr_zero fun i hi=>v.refs _ (List.getElem_mem hi)
theorem mem_keepS {s:List Sto} {C:List Dig} {x:Sto}:x∈keepS s C↔x∈s∧x.id∈C:=by simp[keepS]
theorem mem_ids_keep {s:List Sto} {C:List Dig} {d:Dig}:d∈ids (keepS s C)↔d∈ids s∧d∈C:=by
 constructor
 ·intro h
  obtain⟨x,hx,rfl⟩:=List.mem_map.1 h
  obtain⟨h1,h2⟩:=mem_keepS.1 hx
  exact⟨List.mem_map.2 ⟨x,h1,rfl⟩,h2⟩
 ·rintro⟨h1,h2⟩
  obtain⟨x,hx,rfl⟩:=List.mem_map.1 h1
  exact List.mem_map.2 ⟨x,mem_keepS.2 ⟨hx,h2⟩,rfl⟩
theorem ids_keep_sub (s:List Sto) (C:List Dig):(ids (keepS s C)).Sublist (ids s):=(List.filter_sublist).map _
theorem getS_keep {C:List Dig} {d:Dig} (hd:d∈C): ∀ s:List Sto,getS (keepS s C) d=getS s d
 | []=>rfl
 |x::s=>by
  by_cases hx:x.id=d
  ·have e:keepS (x::s) C=x::keepS s C:=by
    unfold keepS;rw[List.filter_cons_of_pos (by simpa using hx ▸ hd)]
   rw[e,getS,getS,if_pos hx,if_pos hx]
  ·have e2:getS (x::s) d=getS s d:=by rw[getS,if_neg hx]
   by_cases hc:x.id∈C
   ·have e:keepS (x::s) C=x::keepS s C:=by
     unfold keepS;rw[List.filter_cons_of_pos (by simpa using hc)]
    rw[e,e2,getS,if_neg hx,getS_keep hd s]
   ·have e:keepS (x::s) C=keepS s C:=by
     unfold keepS;rw[List.filter_cons_of_neg (by simpa using hc)]
    rw[e,e2,getS_keep hd s]
theorem foreign_needs {p:Pat} (hid:(rId p).2=0) {c:Chg} (hc:c∈p.changes) {y:Ident} (hy:y∈rIds c) (ho:rOther y=true):y.patch∈rNeeds p:=by
 have he: ¬(rEncodeP p).2≠0:=fun h=>by rw[rId,if_pos h]at hid;exact h hid
 rw[rNeeds,if_neg he,needs_mem]
 exact .inr ⟨c,hc,List.mem_map.2 ⟨y,List.mem_filter.2 ⟨hy,ho⟩,rfl⟩⟩
theorem rRefsS_congr {s t:List Sto} {p:Pat} {id:Dig} (hid:(rId p).2=0) (h: ∀ d∈rNeeds p,getS s d=getS t d):rRefsS s p id=rRefsS t p id:=by
 refine firstErr_congr fun c hc=>?_
 have hat: ∀ y∈rIds c,rOther y=true→rAtom s y=rAtom t y:=fun y hy ho=>by
  unfold rAtom rAtomsOf
  rw[h _ (foreign_needs hid hc hy ho)]
 have e1:rChgF s c=rChgF t c:=by
  unfold rChgF
  split
  ·rename_i h;rw[hat _ (by simp[rIds]) h]
  ·rfl
 have e2:rChgP s c=rChgP t c:=by
  unfold rChgP
  split
  ·rename_i h;rw[hat _ (by simp[rIds]) h]
  ·rfl
 have e3: ∀ y∈rIds c,rEndE s y c.file id=rEndE t y c.file id:=fun y hy=>by
  unfold rEndE
  split
  ·rfl
  ·rename_i h
   rw[hat y hy (by simpa using fun h'=>h (.inl h'))]
 have e4:firstErr (rChgO s c id) c.over=firstErr (rChgO t c id) c.over:=firstErr_congr fun y hy=>by
  unfold rChgO
  split
  ·rfl
  ·rename_i h
   rw[hat y (by simp[rIds,hy]) (by simpa using h)]
 unfold rChgE
 rw[e1,e2,e3 _ (by simp[rIds]),e3 _ (by simp[rIds]),e4]
theorem Valid.keep {s:List Sto} (v:Valid s) {C:List Dig} (hC: ∀ x∈s,x.id∈C→ ∀ d∈rNeeds x.patch,d∈C):Valid (keepS s C):=by
 have hlen:(keepS s C).length≤s.length:=List.length_filter_le _ _
 have hcl: ∀ x∈keepS s C,∀ d∈rNeeds x.patch,d∈ids (keepS s C):=fun x hx d hd=>by
  obtain⟨h1,h2⟩:=mem_keepS.1 hx
  exact mem_ids_keep.2 ⟨v.close.2 x h1 d hd,hC x h1 h2 d hd⟩
 have hasc:Asc (ids (keepS s C)):=List.Pairwise.sublist (ids_keep_sub s C) v.asc
 refine⟨⟨⟨Nat.le_trans hlen v.close.1.1,fun x hx=>v.close.1.2 x (mem_keepS.1 hx).1⟩,hcl⟩,fun x hx=>v.id x (mem_keepS.1 hx).1,hasc,?_,fun x hx=>?_⟩
 ·have hr:Ranked (keepS s C) (rankS s):=⟨hasc,hcl,fun x hx d hd=>v.rank (mem_keepS.1 hx).1 hd⟩
  exact Nat.le_of_eq hr.order.symm
 ·obtain⟨h1,h2⟩:=mem_keepS.1 hx
  rw[rRefsS_congr (v.id x h1).1 fun d hd=>getS_keep (hC x h1 h2 d hd) s]
  exact v.refs x h1
end Go.Proofs
namespace Go.Proofs
open Go Go.Q
theorem putS_perm (s:List Sto) (x:Sto):(putS s x).Perm (x::s):=by
 unfold putS
 refine List.perm_middle.trans ?_
 rw[List.takeWhile_append_dropWhile]
theorem mem_putS {s:List Sto} {x y:Sto}:y∈putS s x↔y=x∨y∈s:=by
 rw[(putS_perm s x).mem_iff,List.mem_cons]
theorem mem_ids_putS {s:List Sto} {x:Sto} {d:Dig}:d∈ids (putS s x)↔d=x.id∨d∈ids s:=by
 unfold ids
 rw[((putS_perm s x).map _).mem_iff,List.map_cons,List.mem_cons]
theorem putS_len (s:List Sto) (x:Sto):(putS s x).length=s.length+1:=by
 rw[(putS_perm s x).length_eq,List.length_cons]
theorem drop_lt {x:Sto}: ∀ {s:List Sto},Asc (ids s)→x.id∉ids s→ ∀ y∈s.dropWhile (fun y=>decide (cmpD y.id x.id < 0)),Dig.lt x.id y.id
 | [],_,_,y,hy=>by cases hy
 |z::s,ha,hx,y,hy=>by
  have ha':Asc (ids s):=(List.pairwise_cons.1 ha).2
  by_cases hz:cmpD z.id x.id < 0
  ·rw[List.dropWhile_cons_of_pos (by simpa using hz)]at hy
   exact drop_lt ha' (fun h=>hx (List.mem_cons_of_mem _ h)) y hy
  ·rw[List.dropWhile_cons_of_neg (by simpa using hz)]at hy
   have hzx:Dig.lt x.id z.id:=by
    rcases Dig.tri x.id z.id with h|h|h
    ·exact h
    ·exact absurd (by rw[h];exact List.mem_cons_self) hx
    ·exact absurd h hz
   rcases List.mem_cons.1 hy with rfl|hy
   ·exact hzx
   ·exact Dig.lt_trans hzx ((List.pairwise_cons.1 ha).1 y.id (List.mem_map.2 ⟨y,hy,rfl⟩))
theorem take_lt {x:Sto}: ∀ {s:List Sto},∀ y∈s.takeWhile (fun y=>decide (cmpD y.id x.id < 0)),Dig.lt y.id x.id
 | [],y,hy=>by cases hy
 |z::s,y,hy=>by
  by_cases hz:cmpD z.id x.id < 0
  ·rw[List.takeWhile_cons_of_pos (by simpa using hz)]at hy
   rcases List.mem_cons.1 hy with rfl|hy
   ·exact hz
   ·exact take_lt y hy
  ·rw[List.takeWhile_cons_of_neg (by simpa using hz)]at hy
   cases hy
theorem putS_asc {s:List Sto} {x:Sto} (ha:Asc (ids s)) (hx:x.id∉ids s):Asc (ids (putS s x)):=by
 have e:ids (putS s x)=ids (s.takeWhile fun y=>decide (cmpD y.id x.id < 0))++x.id::ids (s.dropWhile fun y=>decide (cmpD y.id x.id < 0)):=by
  unfold putS ids;rw[List.map_append,List.map_cons]
 have e2:ids s=ids (s.takeWhile fun y=>decide (cmpD y.id x.id < 0))++ids (s.dropWhile fun y=>decide (cmpD y.id x.id < 0)):=by
  unfold ids;rw[←List.map_append,List.takeWhile_append_dropWhile]
 have hp:=ha
 rw[e2]at hp
 obtain⟨p1,p2,p3⟩:=List.pairwise_append.1 hp
 rw[e]
 refine List.pairwise_append.2 ⟨p1,List.pairwise_cons.2 ⟨fun d hd=>?_,p2⟩,fun a h b hb=>?_⟩
 ·obtain⟨y,hy,rfl⟩:=List.mem_map.1 hd
  exact drop_lt ha hx y hy
 ·rcases List.mem_cons.1 hb with rfl|hb
  ·obtain⟨y,hy,rfl⟩:=List.mem_map.1 h
   exact take_lt y hy
  ·exact p3 a h b hb
theorem getS_in: ∀ {s:List Sto},Asc (ids s)→ ∀ {x:Sto},x∈s→getS s x.id=some x.patch
 | [],_,x,h=>by cases h
 |y::s,ha,x,h=>by
  by_cases e:y.id=x.id
  ·rw[getS,if_pos e]
   rcases List.mem_cons.1 h with rfl|h
   ·rfl
   ·have:=(List.pairwise_cons.1 ha).1 x.id (List.mem_map.2 ⟨x,h,rfl⟩)
    change Dig.lt y.id x.id at this
    rw[e]at this
    exact absurd this (Dig.lt_irrefl _)
  ·rw[getS,if_neg e]
   rcases List.mem_cons.1 h with rfl|h
   ·exact absurd rfl e
   ·exact getS_in (List.pairwise_cons.1 ha).2 h
theorem getS_out {s:List Sto} {d:Dig} (h:d∉ids s):getS s d=none:=by
 cases hg:getS s d with
 |none=>rfl
 |some p=>
  obtain⟨x,hx,rfl,_⟩:=getS_mem hg
  exact absurd (List.mem_map.2 ⟨x,hx,rfl⟩) h
theorem getS_isSome {s:List Sto} (ha:Asc (ids s)) (d:Dig):(getS s d).isSome=decide (d∈ids s):=by
 by_cases h:d∈ids s
 ·obtain⟨x,hx,rfl⟩:=List.mem_map.1 h
  rw[getS_in ha hx];simp[h]
 ·rw[getS_out h];simp[h]
theorem getS_put {s:List Sto} {x:Sto} (ha:Asc (ids s)) (hx:x.id∉ids s) {d:Dig} (hd:d≠x.id):getS (putS s x) d=getS s d:=by
 by_cases h:d∈ids s
 ·obtain⟨y,hy,rfl⟩:=List.mem_map.1 h
  rw[getS_in ha hy,getS_in (putS_asc ha hx) (mem_putS.2 (.inr hy))]
 ·rw[getS_out h,getS_out fun h'=>(mem_ids_putS.1 h').elim hd h]
theorem keep_put {s:List Sto} {x:Sto} (hx:x.id∉ids s):keepS (putS s x) (ids s)=s:=by
 have h: ∀ l:List Sto,(∀ y∈l,y∈s)→l.filter (fun y=>decide (y.id∈ids s))=l:=fun l hl=>by
  rw[List.filter_eq_self]
  intro y hy
  exact decide_eq_true (List.mem_map.2 ⟨y,hl y hy,rfl⟩)
 have e: ∀ l:List Sto,keepS l (ids s)=l.filter (fun y=>decide (y.id∈ids s)):=fun l=>rfl
 rw[e,putS,List.filter_append,List.filter_cons_of_neg (by simpa using hx),h _ fun y hy=>(List.takeWhile_sublist _).subset hy,h _ fun y hy=>(List.dropWhile_sublist _).subset hy,List.takeWhile_append_dropWhile]
structure Fresh (s:List Sto) (x:Sto):Prop where
 id:(rId x.patch).2=0∧(rId x.patch).1=x.id
 new:x.id∉ids s
 needs: ∀ d∈rNeeds x.patch,d∈ids s
 refs:rRefsS s x.patch x.id=0
 great:rGreat x.patch=false
theorem Valid.put {s:List Sto} (v:Valid s) {x:Sto} (f:Fresh s x) (hl:s.length < 40):Valid (putS s x):=by
 have hcl: ∀ y∈putS s x,∀ d∈rNeeds y.patch,d∈ids (putS s x):=fun y hy d hd=>by
  rcases mem_putS.1 hy with rfl|hy
  ·exact mem_ids_putS.2 (.inr (f.needs d hd))
  ·exact mem_ids_putS.2 (.inr (v.close.2 y hy d hd))
 have hasc:=putS_asc v.asc f.new
 have hget: ∀ d∈ids s,Go.Proofs.getS (putS s x) d=Go.Proofs.getS s d:=fun d hd=>getS_put v.asc f.new fun e=>f.new (e ▸ hd)
 refine⟨⟨⟨by rw[putS_len];omega,fun y hy=>?_⟩,hcl⟩,fun y hy=>?_,hasc,?_,fun y hy=>?_⟩
 ·rcases mem_putS.1 hy with rfl|hy
  ·exact f.great
  ·exact v.close.1.2 y hy
 ·rcases mem_putS.1 hy with rfl|hy
  ·exact f.id
  ·exact v.id y hy
 ·have hr:Ranked (putS s x) (fun d=>if d=x.id then(rOrder s).length+1 else rankS s d):=by
   refine⟨hasc,hcl,fun y hy d hd=>?_⟩
   rcases mem_putS.1 hy with rfl|hy
   ·have hne:d≠y.id:=fun e=>f.new (e ▸ f.needs d hd)
    simp only[if_true,if_neg hne]
    have:rankS s d≤(rOrder s).length:=by
     unfold rankS;exact List.idxOf_le_length
    omega
   ·have hne:d≠x.id:=fun e=>f.new (e ▸ v.close.2 y hy d hd)
    have hne2:y.id≠x.id:=fun e=>f.new (e ▸ List.mem_map.2 ⟨y,hy,rfl⟩)
    simp only[if_neg hne,if_neg hne2]
    exact v.rank hy hd
  exact Nat.le_of_eq hr.order.symm
 ·rcases mem_putS.1 hy with rfl|hy
  ·rw[rRefsS_congr f.id.1 fun d hd=>hget d (f.needs d hd)]
   exact f.refs
  ·rw[rRefsS_congr (v.id y hy).1 fun d hd=>hget d (v.close.2 y hy d hd)]
   exact v.refs y hy
theorem Valid.rAdd_ok {s:List Sto} (v:Valid s) {p:Pat} (hg:rGreat p=false) (h:(rAdd s p).2.2=0):Fresh s ⟨(rId p).1,p⟩∧rAdd s p=(putS s ⟨(rId p).1,p⟩,(rId p).1,0):=by
 unfold rAdd at h ⊢
 by_cases h1:(rId p).2≠0
 ·rw[if_pos h1]at h;exact absurd h h1
 rw[if_neg h1]at h ⊢
 by_cases h2:(Go.Proofs.getS s (rId p).1).isSome=true
 ·rw[if_pos h2]at h
  split at h<;>exact absurd h (by decide)
 rw[if_neg h2]at h ⊢
 by_cases h3:allIn (ids s) (rNeeds p)=false
 ·rw[if_pos h3]at h;exact absurd h (by decide)
 rw[if_neg h3]at h ⊢
 by_cases h4:rRefsS s p (rId p).1≠0
 ·rw[if_pos h4]at h;exact absurd h h4
 rw[if_neg h4]at h ⊢
 by_cases h5:400≤(s.length:Int)
 ·rw[if_pos h5]at h;exact absurd h (by decide)
 rw[if_neg h5]
 refine⟨⟨⟨by simpa using h1,rfl⟩,fun hn=>?_,fun d hd=>?_,by simpa using h4,hg⟩,rfl⟩
 ·rw[getS_isSome v.asc]at h2
  exact h2 (decide_eq_true hn)
 ·have h3:allIn (ids s) (rNeeds p)=true:=by simpa using h3
  simpa using List.all_eq_true.1 h3 d hd
theorem rAdd_bad {s:List Sto} {p:Pat} (h:(rAdd s p).2.2≠0):(rAdd s p).1= []∧(rAdd s p).2.1=Dig.zero:=by
 unfold rAdd at h ⊢
 repeat' split
 all_goals first|exact⟨rfl,rfl⟩|skip
 all_goals (exfalso;simp_all)
theorem Valid.rAdd_again {s:List Sto} (v:Valid s) {p:Pat} (f:Fresh s ⟨(rId p).1,p⟩):rAdd (putS s ⟨(rId p).1,p⟩) p=([],Dig.zero,6):=by
 have hin:(⟨(rId p).1,p⟩:Sto)∈putS s ⟨(rId p).1,p⟩:=mem_putS.2 (.inl rfl)
 have hg:=getS_in (putS_asc v.asc f.new) hin
 change Go.Proofs.getS _ (rId p).1=some p at hg
 have h1: ¬(rId p).2≠0:=by have:=f.id.1;simpa using this
 rw[rAdd,if_neg h1,hg,if_pos (by rfl),if_pos (by rfl)]
end Go.Proofs
namespace Go.Proofs
open Go Go.Q
attribute [local irreducible] pwp pops PCalls OpN
theorem kIdx_none {κ:Type} [DecidableEq κ] {k:κ}: ∀ {l:List κ},k∉l→kIdx k l=none
 | [],_=>rfl
 |a::l,h=>by
  have h1:k≠a:=fun e=>h (by simp[e])
  rw[kIdx,if_neg h1,kIdx_none fun h'=>h (List.mem_cons_of_mem _ h')];rfl
theorem gr_append: ∀ (s:List Sto) (m:List (Dig × List Dig)),(∀ x∈s,x.id∉m.map (·.1))→(ids s).Nodup→s.foldl (fun m x=>mSet x.id (rNeeds x.patch) m) m=m++s.map fun x=>(x.id,rNeeds x.patch)
 | [],m,_,_=>by simp
 |x::s,m,h,hn=>by
  have hn2:=List.pairwise_cons.1 hn
  rw[List.foldl_cons,mSet_keys_new _ _ (kIdx_none (h x (by simp))),gr_append s _ (fun y hy=>?_) hn2.2]
  ·simp
  ·rw[List.map_append,List.mem_append]
   rintro(h2|h2)
   ·exact h y (by simp[hy]) h2
   ·have e:y.id=x.id:=by simpa using h2
    exact hn2.1 y.id (List.mem_map.2 ⟨y,hy,rfl⟩) e.symm
theorem gr_map {s:List Sto} (h:Asc (ids s)):gr s=s.map fun x=>(x.id,rNeeds x.patch):=by
 rw[gr,gr_append s [] (by simp) h.nodup,List.nil_append]
theorem gK_gr {s:List Sto} (h:Asc (ids s)) {i:Nat} (hi:i < s.length):gK (gr s) i=s[i].id∧gV (gr s) i=rNeeds s[i].patch:=by
 have e:(gr s).getD i (Dig.zero,[])=(s[i].id,rNeeds s[i].patch):=by
  rw[gr_map h];simp[List.getD,hi]
 exact⟨by rw[gK,e],by rw[gV,e]⟩
theorem gV_out {s:List Sto} (h:Asc (ids s)) {i:Nat} (hi: ¬i < s.length):gV (gr s) i= []:=by
 have e:(gr s).getD i (Dig.zero,[])=(Dig.zero,[]):=by
  rw[gr_map h,List.getD,List.getElem?_eq_none (by rw[List.length_map];omega)];rfl
 rw[gV,e]
theorem gr_len {s:List Sto} (h:Asc (ids s)):(gr s).length=s.length:=by rw[gr_map h,List.length_map]
theorem Valid.turned_of {s:List Sto} (v:Valid s) {done:List Nat} {m:List (Dig × (List Dig × Tag))} (hn:done.Nodup) (hd: ∀ i,i∈done↔i < (gr s).length) (h:TInv (gr s) done Dig.zero [] [] m):Turned (Go.Proofs.ndS s) (ids s) (m.map fun e=>(e.1,e.2.1)):=by
 have hl:=gr_len v.asc
 have hval: ∀ x,ndT m x=lstT (gr s) done x:=fun x=>by have:=h.val x;simpa using this
 refine⟨fun d=>?_,fun x y=>?_,fun x=>?_⟩
 ·rw[mGet_map,Option.isSome_map]
  have:=h.is d
  by_cases hd2:d∈ids s
  ·obtain⟨x,hx,rfl⟩:=List.mem_map.1 hd2
   obtain⟨i,hi,rfl⟩:=List.mem_iff_getElem.1 hx
   rw[decide_eq_true hd2]
   exact this.2 (.inl ⟨i,(hd i).2 (by omega),.inl (gK_gr v.asc hi).1.symm⟩)
  ·rw[decide_eq_false hd2]
   cases hm:(mGet d m).isSome with
   |false=>rfl
   |true=>
    rcases this.1 hm with ⟨i,hi,h2⟩|h2
    ·have hi2:i < s.length:=by have:=(hd i).1 hi;omega
     obtain⟨e1,e2⟩:=gK_gr v.asc hi2
     rcases h2 with h2|h2
     ·exact absurd (by rw[h2,e1];exact List.mem_map.2 ⟨s[i],List.getElem_mem hi2,rfl⟩) hd2
     ·rw[e2]at h2
      exact absurd (v.close.2 _ (List.getElem_mem hi2) d h2) hd2
    ·cases h2
 ·rw[ndG_map,hval]
  unfold lstT
  constructor
  ·intro hy
   obtain⟨i,hi,rfl⟩:=List.mem_map.1 hy
   obtain⟨h1,h2⟩:=List.mem_filter.1 hi
   have hi2:i < s.length:=by have:=(hd i).1 h1;omega
   obtain⟨e1,e2⟩:=gK_gr v.asc hi2
   have h2:=of_decide_eq_true h2
   rw[e2]at h2
   rw[e1]
   exact⟨List.mem_map.2 ⟨s[i],List.getElem_mem hi2,rfl⟩,by rw[v.ndS (List.getElem_mem hi2)];exact h2⟩
  ·rintro⟨hy,hx⟩
   obtain⟨z,hz,rfl⟩:=List.mem_map.1 hy
   obtain⟨i,hi,rfl⟩:=List.mem_iff_getElem.1 hz
   obtain⟨e1,e2⟩:=gK_gr v.asc hi
   rw[v.ndS hz]at hx
   exact List.mem_map.2 ⟨i,List.mem_filter.2 ⟨(hd i).2 (by omega),decide_eq_true (by rw[e2];exact hx)⟩,e1⟩
 ·rw[ndG_map]
  have h1:=h.len x
  have h2:=done_len hn (n:=(gr s).length) fun i hi=>(hd i).1 hi
  have:=v.close.1.1
  omega
theorem needs_len {s:List Sto} (v:Valid s) {x:Sto} (hx:x∈s):(rNeeds x.patch).length≤40:=by
 have h1:=nodup_len (rNeeds_asc x.patch).nodup (fun d hd=>v.close.2 x hx d hd)
 have:=v.close.1.1
 rw[ids_len]at h1
 omega
theorem pcalls_le {P:Program} {f:FuncId} {args:List PV} {L:List Res} {R R':PV→List Res→Prop} (h:PCalls P f args L R) (hr: ∀ x L',R x L'→ ∃ y,Le x y∧R' y L'):PCalls P f args L R':=by
 unfold PCalls at h ⊢
 intro vs w g LF hv hi
 refine(h vs w g LF hv hi).mono ?_
 rintro e w' ⟨v,x,g',L',h1,h2,h3,h4,h5,h6⟩
 obtain⟨y,hy,h7⟩:=hr x L' h6
 exact⟨v,y,g',L',h1,hy g' v h2,h3,h4,h5,h7⟩
theorem turnedV_fn (s:List Sto) (v:Valid s):PCalls Tryz.prog 101 [.fmap (eMap kDig (vSl eDig) (gr s))] [] (fun r L'=>(∃ T,r= .fmap (eMap kDig (vSl eDig) T)∧Turned (ndS s) (ids s) T)∧L'= []):=by
 have hl:=gr_len v.asc
 have h40:=v.close.1.1
 refine pcalls_le (turned_fn (gr s) (by omega) (fun i=>?_) (fun i=>?_)) ?_
 ·by_cases hi:i < s.length
  ·rw[(gK_gr v.asc hi).2];exact(rNeeds_asc _).nodup
  ·rw[gV_out v.asc hi];exact .nil
 ·by_cases hi:i < s.length
  ·rw[(gK_gr v.asc hi).2];have:=needs_len v (List.getElem_mem hi);omega
  ·rw[gV_out v.asc hi];simp
 ·rintro x L' ⟨⟨m,done,rfl,h1,h2,h3⟩,rfl⟩
  exact⟨_,le_tg m,⟨_,rfl,v.turned_of h1 h2 h3⟩,rfl⟩
set_option maxHeartbeats 1000000 in
instance UsersP_ct (s:List Sto) (l:List Dig) (t u:Tag) [hs:Small (Valid s)] [hl:Small (l.length≤400)]:FnC Tryz.prog 53 [.slice (s.map eSto) t,.slice (l.map eDig) u] (.tuple [.slice ((rUsers s l).1.map eDig) .ro,.raw (.int .i64 (rUsers s l).2)]):=⟨by
 have v:=hs.out
 have h40:=v.close.1.1
 have i1:Small (goodS s):=⟨v.close.1⟩
 refine fn_of Tryz.func53 Tryz.ntmps53 rfl (rs:= [.tmp 4,.tmp 5]) rfl rfl fun hb LF=>?_
 refine wf ?_
 refine s_callR (xs:= [.tmp 10]) [] LF (f:=101) (cs:= []) (le_func _) rfl rfl (.refl _) _ (turnedV_fn s v) fun r L' ⟨⟨T,e1,hT⟩,e2⟩=>?_
 subst e1;rw[e2,List.nil_append]
 obtain⟨e1,e2⟩:=v.turned hT l
 have i2:=fun t=>reached_fn T (ids s) (hT.ok (by rw[ids_len];omega)) l t hl.out
 refine wf ?_
 refine pwp_condB (fun h=>?_) (fun h=>?_)
 ·have h0:(clG T (ids s) l).2=false:=by simpa using h
  rw[if_pos h0]at e2
  have e3:(rUsers s l).1= []:=by
   unfold rUsers at e2 ⊢
   split
   ·rfl
   ·rename_i h3
    rw[if_neg h3]at e2
    simp at e2
  refine wf ?_
  refine end2 ?_
  rw[e2,e3]
  exact .tuple2 (.ro _ _) (.refl _)
 ·have h0:(clG T (ids s) l).2=true:=by simpa using h
  rw[h0]at e2
  simp at e2
  refine wf ?_
  refine end2 ?_
  rw[e2,←e1]
  exact .refl _⟩
instance KnowsP_ct (s:List Sto) (p q:Dig) (t:Tag) [hs:Small (Valid s)]:FnC Tryz.prog 56 [.slice (s.map eSto) t,.agg (eDig p),.agg (eDig q)] (.raw (.bool (rKnows s p q))):=⟨by
 have v:=hs.out
 have cx:=fun t u=>ClosureP_ct s [p] t u (hl:=⟨by simp⟩)
 rw[v.knows]
 refine fn_of Tryz.func56 Tryz.ntmps56 rfl (rs:= [.tmp 6]) rfl rfl fun hb LF=>?_
 refine wf ?_
 refine pops_if (fun hp=>?_) (fun hp=>?_)
 ·refine wf ?_
  refine end1 (.of_eq ?_)
  rw[hp];rfl
 ·refine wf ?_
  refine end1 (.of_eq ?_)
  rw[hp];rfl⟩
set_option maxHeartbeats 1000000 in
instance Users17_ct (s:List Sto) (l:List Dig) (t u:Tag) [hs:Small (closeS s)] [hl:Small (l.length≤400)]:FnC Tryz.prog 54 [.slice (s.map eSto) t,.slice (l.map eDig) u] (.tuple [.slice ((rUsers s l).1.map eDig) .ro,.raw (.int .i64 (rUsers s l).2)]):=⟨by
 have hcl:=hs.out
 have h40:=hcl.1.1
 have hl4:=hl.out
 refine fn_of Tryz.func54 Tryz.ntmps54 rfl (rs:= [.tmp 4,.tmp 5]) rfl rfl fun hb LF=>?_
 refine walk ?_
 refine pwp_condB (fun h=>?_) (fun h=>?_)
 ·refine walk ?_
  refine end2 ?_
  rw[rUsers,if_pos (by simpa using h)]
  exact .tuple2 (.ro _ _) (.refl _)
 rw[rUsers,if_neg (by simpa using h)]
 refine walk ?_
 have hsm: ∀ n,((s.take n).foldl (useS s l) []).length≤40:=fun n=>hcl.small (foldUse_asc .nil) fun d hd=>by
  rcases mem_foldUse.1 hd with h'|⟨x,hx,rfl,_⟩
  ·cases h'
  ·exact List.mem_map.2 ⟨x,List.mem_of_mem_take hx,rfl⟩
 refine pwp_loopS (σ:=Nat × List Dig × Tag) (fun k=>k.1≤s.length∧k.2.1=(s.take k.1).foldl (useS s l) []) (fun k=>s.length - k.1) (fun k=> [(0,.slice (s.map eSto) t),(1,.slice (l.map eDig) u),(6,.slice (k.2.1.map eDig) k.2.2),(7,.raw (.int .i64 k.1))]) (fun _=>LF) (0,[],.nil) ⟨by simp,by simp⟩ ⟨rfl,rfl,rfl,rfl⟩ (.refl _) ?_
 rintro⟨k,out,w⟩ ⟨hk,ho⟩
 dsimp only at hk ho ⊢
 refine walk ?_
 refine pwp_condD (fun hc=>?_) (fun hc=>?_)
 ·have hlt:k < s.length:=by omega
  have hoa:Asc out:=by rw[ho];exact foldUse_asc .nil
  have hoi: ∀ d∈out,d∈ids s:=fun d hd=>by
   rw[ho]at hd
   rcases mem_foldUse.1 hd with h'|⟨x,hx,rfl,_⟩
   ·cases h'
   ·exact List.mem_map.2 ⟨x,List.mem_of_mem_take hx,rfl⟩
  have hxi:s[k].id∈ids s:=List.mem_map.2 ⟨s[k],List.getElem_mem hlt,rfl⟩
  refine walk ?_
  refine pwp_loopS (σ:=Nat × List Dig × Tag) (fun j=>j.1≤l.length∧j.2.1=useS s (l.take j.1) out s[k]) (fun j=>l.length - j.1) (fun j=> [(0,.slice (s.map eSto) t),(1,.slice (l.map eDig) u),(6,.slice (j.2.1.map eDig) j.2.2),(7,.raw (.int .i64 k)),(8,.slice ((cloS s s[k].id).map eDig) .ro),(10,.raw (.int .i64 j.1))]) (fun _=>LF) (0,out,w) ⟨by simp,by simp[useS]⟩ ⟨rfl,rfl,rfl,rfl,rfl,rfl⟩ (.refl _) ?_
  rintro⟨j,o2,w2⟩ ⟨hj,hj2⟩
  dsimp only at hj hj2 ⊢
  have hsm2:o2.length≤40:=hcl.small (by rw[hj2];exact useS_asc hoa) fun d hd=>by
   rw[hj2]at hd
   rcases mem_useS.1 hd with h'|⟨rfl,_⟩
   ·exact hoi d h'
   ·exact hxi
  have i2:Small (o2.length≤1000000):=⟨by omega⟩
  refine walk ?_
  refine pwp_condD (fun hc2=>?_) (fun hc2=>?_)
  ·have hlt2:j < l.length:=by omega
   have hst:useS s (l.take (j+1)) out s[k]=if l[j]∈cloS s s[k].id then withD o2 s[k].id else o2:=by
    rw[List.take_succ_eq_append_getElem hlt2,useS,List.foldl_append,hj2];rfl
   refine walk ?_
   refine pwp_condD (fun h3=>?_) (fun h3=>?_)
   ·refine walk ?_
    exact⟨(j+1,withD o2 s[k].id,.ro),⟨by dsimp only;omega,by rw[hst,if_pos h3]⟩,by dsimp only;omega,⟨rfl,rfl,rfl,rfl,rfl,rfl⟩,.refl _⟩
   ·refine walk ?_
    exact⟨(j+1,o2,w2),⟨by dsimp only;omega,by rw[hst,if_neg h3]⟩,by dsimp only;omega,⟨rfl,rfl,rfl,rfl,rfl,rfl⟩,.refl _⟩
  ·rw[List.take_of_length_le (by omega)]at hj2
   refine walk ?_
   refine⟨(k+1,o2,w2),⟨by dsimp only;omega,?_⟩,by dsimp only;omega,⟨rfl,rfl,rfl,rfl⟩,.refl _⟩
   dsimp only
   rw[List.take_succ_eq_append_getElem hlt,List.foldl_append,←ho,hj2];rfl
 ·rw[List.take_of_length_le (by omega)]at ho
  refine walk ?_
  refine end2 ?_
  rw[ho]
  exact .tuple2 (.ro _ _) (.refl _)⟩
instance Knows17_ct (s:List Sto) (p q:Dig) (t:Tag) [hs:Small (closeS s)]:FnC Tryz.prog 57 [.slice (s.map eSto) t,.agg (eDig p),.agg (eDig q)] (.raw (.bool (rKnows s p q))):=⟨by
 refine fn_of Tryz.func57 Tryz.ntmps57 rfl (rs:= [.tmp 6]) rfl rfl fun hb LF=>?_
 unfold rKnows
 refine wf ?_
 repeat' (first|(refine pwp_condD (fun h=>?_) (fun h=>?_)<;>refine wf ?_)|(refine pwp_condN (fun h=>?_) (fun h=>?_)<;>refine wf ?_)|(refine pwp_condB (fun h=>?_) (fun h=>?_)<;>refine wf ?_)|(refine pops_if (fun h=>?_) (fun h=>?_)<;>(have h2:=h;(try simp only[decide_eq_true_eq,decide_eq_false_iff_not,Bool.not_eq_true',Bool.not_eq_false']at h2);refine wf ?_)))
 all_goals (refine end1 (.of_eq ?_);first|(simp_all;done)|grind)⟩
end Go.Proofs
namespace Go.Q
open Go
section
variable {P:Program} {N:Nat} {all:Array Oper} {K:Env→List Res→Prop} {fl:List Bool} {os:List Oper} {ρ:Env} {L:List Res} {d:Nat} {ty:TypeId} {pos:String} {af:Array Edge}
theorem opN_toBytes {S T:TypeId} [hS:TStr P S] [hT:TByt P T] {x:Operand} {s:Str} {ax:PV} {dst:Option Nat} {gd:Option (Nat × Bool)} (hx:ρ.ev x=ax) [jx:IsStr ax s] (hs:s.length≤maxN) {Ψ:PV→List Res→Prop}
  (k: ∀ t',Ψ (.slice (s.map eBy) t') (.tok t' s.length 1::L)):OpN P ⟨dst,.convert S T x,ty,pos,af,gd⟩ ρ L Ψ:=by
 intro a w g ha hi
 obtain⟨E,e1,e2⟩:=hT.out
 have h1:=jx.out g _ (hx ▸ ha x (by simp[Op.operands]))
 let nc:=grownCap w s.length 0 E
 have hnc:s.length≤nc:=grownCap_ge w _ _ _
 let vs:List Value:=s.map fun b=>Value.int .u8 (b.toNat:Int)
 have hvl:vs.length=s.length:=by simp[vs]
 have hsz:(bytesRow (sB s) nc).size=nc:=by simp[bytesRow];omega
 have hrow: ∀ j (h:j < vs.length),(bytesRow (sB s) nc)[j]? =some vs[j]:=fun j h=>by
  have h':j < s.length:=by omega
  rw[bytesRow,Array.getElem?_append_left (by simp;exact h')]
  simp[vs,sB,h']
 have hr:(execOp a.eval ⟨dst,.convert S T x,ty,pos,af,gd⟩).run P w= .ok (.value (.slice (some ⟨w.heap.size,0,none⟩) s.length nc)) (w.drew.alloc (.cells (bytesRow (sB s) nc) E ((bytesRow (sB s) nc).size,(bytesRow (sB s) nc).size+1))):=by
  show(do pure (Next.value (←convert S T (a.eval x))):Sem Next).run P w=_
  rw[h1]
  have:=run_bytes_of_string (P:=P) w S T E (sB s) hS.out e1 e2
  rw[sB_size]at this
  rw[Sem.run_bind,this]
  rfl
 have hvr:VRl g vs (s.map eBy).flatten:=by
  have e: ∀ l:Str,(l.map eBy).flatten=(l.map fun b=>Value.int .u8 (b.toNat:Int)).map .raw:=fun l=>by
   induction l with
   |nil=>rfl
   |cons b l ih=>rw[List.map_cons,List.flatten_cons,ih];rfl
  rw[e];exact VRl.raws g vs
 have hH0: ∀ o,g.H w.heap.size o=none:=fun o=>by
  cases h:g.H w.heap.size o with
  |none=>rfl
  |some v=>have:=hi.sat _ _ _ h;simp[World.cell?]at this
 have hM0:g.M w.heap.size=none:=by
  cases h:g.M w.heap.size with
  |none=>rfl
  |some v=>exact absurd (hi.satM _ _ h).lt (Nat.lt_irrefl _)
 have hle:=Gh.le_lay (g:=g) (b:=w.heap.size) (from_:=0) (us:=vs) (fun o _=>hH0 o)
 have hget: ∀ (o:Obj) b,b < w.heap.size→(w.drew.alloc o).heap[b]? =w.heap[b]?:=fun o b hb=>by
  show(w.heap.push o)[b]? =_
  rw[Array.getElem?_push,if_neg (by omega)]
 have hlast: ∀ (o:Obj),(w.drew.alloc o).heap[w.heap.size]? =some o:=fun o=>by show(w.heap.push o)[w.heap.size]? =_;simp
 have key:=(hi.tok 1).repl (w':=w.drew.alloc (.cells (bytesRow (sB s) nc) E ((bytesRow (sB s) nc).size,(bytesRow (sB s) nc).size+1))) (g':=g.lay w.heap.size 0 vs) (r':= .tok (.own w.heap.size nc) s.length 1) .here rfl rfl ⟨rfl,Nat.le_succ _⟩ (by simp) hle
  (fun k hk _=>hget _ k hk) (fun k hk _=>⟨fun o=>Gh.lay_out (fun h=>by have:=h.1;omega),rfl⟩)
  (fun b₂ o v hv=>by
   by_cases hin:b₂=w.heap.size∧0≤o∧o < 0+vs.length
   ·obtain⟨rfl,_,h4⟩:=hin
    have hj:o < vs.length:=by omega
    have:=Gh.lay_in (g:=g) (b:=w.heap.size) (from_:=0) hj
    rw[Nat.zero_add,hv]at this
    cases this
    simp only[World.cell?,hlast,Option.isSome_none,Bool.false_eq_true,if_false]
    exact hrow o hj
   ·rw[Gh.lay_out hin]at hv
    have h3:=hi.sat b₂ o v hv
    have hb2:b₂ < w.heap.size:=by
     rcases Nat.lt_or_ge b₂ w.heap.size with h'|h'
     ·exact h'
     ·simp[World.cell?,Array.getElem?_eq_none h']at h3
    simp only[World.cell?]at h3 ⊢
    rw[hget _ b₂ hb2];exact h3)
  (fun b₂ es hM=>(hi.satM b₂ es hM).congr (hget _ b₂ (hi.satM b₂ es hM).lt))
  ⟨_,E,_,hlast _,by rw[hsz,Nat.mul_one],hnc,fun o ho=>by
   rw[Gh.lay_out (fun h=>by have:=h.2.2;omega)]
   exact hH0 o,hM0,.inr (Nat.le_refl _)⟩ (fun b₂ hb₂=> .inr (by simp[Res.block]at hb₂;omega))
 refine Oper.wq_of_run hr ?_
 refine⟨_,.slice (s.map eBy) (.own w.heap.size nc),_,_,rfl,?_,key.1,key.2.1,key.2.2,k _⟩
 have:=VR.of_cells (g:=g.lay w.heap.size 0 vs) (xs:=s.map eBy) (t:= .own w.heap.size nc) (sz:=1) (b:=w.heap.size) (off:=0) (cap:=nc) (fun e he=>by obtain⟨b,_,rfl⟩:=List.mem_map.1 he;rfl) (by simpa using hnc) (by simpa using hs) (us:=vs) (hvr.mono hle) (fun j hj=>Gh.lay_in hj) (fun b' cap' e=>by cases e;exact⟨rfl,rfl,rfl⟩) (by simp)
 simpa using this
theorem s_toBytes {S T:TypeId} [hS:TStr P S] [hT:TByt P T] {x:Operand} {s:Str} {ax:PV} (hx:ρ.ev x=ax) [jx:IsStr ax s] (hs:s.length≤140737488355328)
  (k: ∀ t',pops P N all K fl.tail os (upd ρ d (.slice (s.map eBy) t')) (.tok t' s.length 1::L)) (hd:Nat.blt d N=true:=by rfl) (hfl:fl.headD true=true:=by rfl):pops P N all K fl (⟨some d,.convert S T x,ty,pos,af,none⟩::os) ρ L:=
 pops_n rfl (dlt hd) hfl (opN_toBytes hx hs k)
end
end Go.Q
namespace Go.Q
open Go
theorem Inv.lendRow {w:World} {g:Gh} {r E sz cap:Nat} {xs:List (List PV)} {rest:List PV} {LF:List Res} (hi:Inv w g (.box r E (xs.flatten++rest)::LF)) (hs: ∀ e∈xs,e.length=sz) (hc:xs.length≤cap) (hm:xs.length≤maxN∧xs.length*sz≤maxN):
  ∃ g',g.le g'∧Inv w g' []∧VR g' (.slice (some ⟨r,0,none⟩) xs.length cap) (.slice xs .ro):=by
 obtain⟨us,h1,h2,h3,h4⟩:=hi.res _ (List.mem_cons_self)
 have hlen:us.length=(xs.flatten++rest).length:=h2.len
 let u:=us.take xs.flatten.length
 have hul:u.length=xs.flatten.length:=by
  simp only[u,List.length_take,hlen,List.length_append];omega
 have hu:VRl g u xs.flatten:=⟨hul,fun i k1 k2=>by
  have:=h2.at_ i (by rw[hlen,List.length_append];omega) (by rw[List.length_append];omega)
  rw[List.getElem_append_left k2]at this
  simpa [u]using this⟩
 have hle:=Gh.le_lay (g:=g) (b:=r) (from_:=0) (us:=u) (fun o _=>h3 o)
 have hcell: ∀ j (h:j < u.length),w.cell? ⟨r,j,none⟩=some u[j]:=fun j h=>by
  have hj:j < us.length:=by rw[hlen,List.length_append];omega
  simp only[World.cell?,h1,Option.isSome_none,Bool.false_eq_true,if_false,List.getElem?_toArray]
  rw[List.getElem?_eq_getElem hj]
  simp[u]
 refine⟨g.lay r 0 u,hle,⟨fun b o v hv=>?_,hi.satM,by simp,by simp[blocks],hi.glob.mono hle⟩,?_⟩
 ·by_cases hin:b=r∧0≤o∧o < 0+u.length
  ·obtain⟨rfl,_,h5⟩:=hin
   have hj:o < u.length:=by omega
   have:=Gh.lay_in (g:=g) (b:=b) (from_:=0) hj
   rw[Nat.zero_add,hv]at this
   cases this
   exact hcell o hj
  ·rw[Gh.lay_out hin]at hv
   exact hi.sat b o v hv
 ·exact VR.of_cells (g:=g.lay r 0 u) (t:= .ro) (sz:=sz) (b:=r) (off:=0) (cap:=cap) hs hc hm (us:=u) (hu.mono hle) (fun j hj=>Gh.lay_in hj) (fun b' cap' e=>by cases e) (by simp)
theorem VRl.repl {g g':Gh} {vs:List Value} {ps bs:List PV} {a b:PV} (hv:VRl g vs (ps++a::bs)) (hle:g.le g') (h: ∀ v,VR g v a→VR g' v b):VRl g' vs (ps++b::bs):=
 ⟨by rw[hv.len];simp,fun i k1 k2=>by
  have h0:=hv.at_ i k1 (by simpa using k2)
  by_cases hi1:i < ps.length
  ·rw[List.getElem_append_left hi1]at h0 ⊢;exact h0.mono hle
  ·rw[List.getElem_append_right (by omega)]at h0 ⊢
   by_cases hi2:i - ps.length=0
   ·have e1: ∀ (a:PV),(a::bs)[i - ps.length]'(by simp[hi2])=a:=fun a=>by simp[hi2]
    rw[e1]at h0 ⊢
    exact h _ h0
   ·obtain⟨m,hm'⟩: ∃ m,i - ps.length=m+1:=⟨i - ps.length - 1,by omega⟩
    simp only[hm',List.getElem_cons_succ]at h0 ⊢
    exact h0.mono hle⟩
theorem PCalls.lend {P:Program} {f:Nat} {X:Value} {r E sz n cap:Nat} {xs:List (List PV)} {rest:List PV} (ps bs:List PV) (hs: ∀ e∈xs,e.length=sz) (hn:xs.length=n) (hc:n≤cap) (hm:n≤maxN∧n*sz≤maxN)
  (h:Fn P f (ps++ .slice xs .ro::bs) (.raw X)):PCalls P f (ps++ .raw (.slice (some ⟨r,0,none⟩) n cap)::bs) [.box r E (xs.flatten++rest)] (fun x L'=>x= .raw X∧L'= [.box r E (xs.flatten++rest)]):=by
 intro vs w g LF hv hi
 subst hn
 obtain⟨g',hle,hi',hsl⟩:=hi.lendRow hs hc hm
 have hv':VRl g' vs (ps++ .slice xs .ro::bs):=hv.repl hle fun v hv=>by rw[hv.raw_inv];exact hsl
 refine(h vs w g' [] hv' (by simpa using hi')).mono ?_
 rintro e w' ⟨v,x,g'',L',rfl,k2,k3,k4,k5,rfl,rfl⟩
 have hk: ∀ k,k < w.heap.size→w'.heap[k]? =w.heap[k]?:=fun k hk=>k4.keep k hk (by simp[blocks])
 exact⟨v,.raw X,g,_,rfl,by rw[k2.raw_inv];exact .raw _,hi.later hk,⟨k4.os,k4.tape,k4.output,k4.size,fun k h _=>hk k h,.refl g,fun _ _ _=>⟨fun _=>rfl,rfl⟩⟩,.refl _ _,rfl,rfl⟩
theorem Inv.boxRaw {w:World} {g:Gh} {r E:Nat} {cs:List PV} {LF:List Res} (hi:Inv w g (.box r E cs::LF)): ∃ us:List Value,VRl g us cs∧Inv w g (.raw r (.cells us.toArray E (0,0))::LF):=by
 obtain⟨us,h1,h2,h3,h4⟩:=hi.res _ (List.mem_cons_self)
 refine⟨us,h2,hi.sat,hi.satM,fun x hx=>?_,hi.nodup,hi.glob⟩
 rcases List.mem_cons.1 hx with rfl|hx
 ·exact⟨h1,h3,h4⟩
 ·exact hi.res x (List.mem_cons_of_mem _ hx)
theorem Inv.rawBox {w:World} {g:Gh} {r E:Nat} {cur:Array Value} {cs:List PV} {LF:List Res} (hi:Inv w g (.raw r (.cells cur E (0,0))::LF)) (h:VRl g cur.toList cs):Inv w g (.box r E cs::LF):=by
 obtain⟨h1,h3,h4⟩:=hi.res _ (List.mem_cons_self)
 refine⟨hi.sat,hi.satM,fun x hx=>?_,hi.nodup,hi.glob⟩
 rcases List.mem_cons.1 hx with rfl|hx
 ·exact⟨cur.toList,by simpa using h1,h,h3,h4⟩
 ·exact hi.res x (List.mem_cons_of_mem _ hx)
inductive RowB (E sz:Nat):Value→List (List PV)→List Res→Prop
 |nil (o:Option Addr) (ho: ∀ a,o=some a→a.spot=none):RowB E sz (.slice o 0 0) [] []
 |row {r n cap:Nat} {xs:List (List PV)} {rest:List PV} (hn:xs.length=n) (hl:n≤cap) (hs: ∀ e∈xs,e.length=sz) (hc:xs.flatten.length+rest.length=cap*sz):RowB E sz (.slice (some ⟨r,0,none⟩) n cap) xs [.box r E (xs.flatten++rest)]
theorem RowB.slice {E sz:Nat} {v:Value} {xs:List (List PV)} {R:List Res} (h:RowB E sz v xs R):(∃ o c,v= .slice o xs.length c)∧ ∀ e∈xs,e.length=sz:=by
 cases h with
 |nil o ho=>exact⟨⟨_,_,rfl⟩,by simp⟩
 |row hn hl hs hc=>subst hn;exact⟨⟨_,_,rfl⟩,hs⟩
theorem RowB.open {E sz:Nat} {v:Value} {xs:List (List PV)} {R LF:List Res} {w:World} {g:Gh} (h:RowB E sz v xs R) (hi:Inv w g (R++LF)): ∃ us R₁,VRl g us xs.flatten∧RowG E sz v xs.length us R₁∧Inv w g (R₁++LF)∧blocks R₁=blocks R:=by
 cases h with
 |nil o ho=>exact⟨[],[],.nil g,.nil o ho,hi,rfl⟩
 |row hn hl hs hc=>
  rename_i r n cap rest
  subst hn
  obtain⟨us,h1,h2⟩:=Inv.boxRaw hi
  have hfl:=flatten_len hs
  have hul:us.length=xs.flatten.length+rest.length:=by rw[h1.len,List.length_append]
  refine⟨us.take (xs.length*sz),_,⟨by rw[List.length_take,hul,hfl];omega,fun i k1 k2=>?_⟩,.row hl (by rw[List.size_toArray,hul,hc]) (by rw[List.length_take,hul,hfl];omega) (by simp),h2,rfl⟩
  have:=h1.at_ i (by rw[hul];omega) (by rw[List.length_append];omega)
  rw[List.getElem_append_left k2]at this
  simpa using this
theorem RowB.close {E sz:Nat} {v:Value} {xs:List (List PV)} {us:List Value} {R LF:List Res} {w:World} {g:Gh} {n:Nat} (hn:xs.length=n) (hs: ∀ e∈xs,e.length=sz) (h:RowG E sz v n us R) (hu:VRl g us xs.flatten) (hi:Inv w g (R++LF)): ∃ R',RowB E sz v xs R'∧Inv w g (R'++LF)∧blocks R'=blocks R:=by
 have hfl:=flatten_len hs
 cases h with
 |nil o ho=>
  have hx:xs= []:=List.eq_nil_of_length_eq_zero hn
  subst hx
  exact⟨[],.nil o ho,hi,rfl⟩
 |row hl hc hu' hcur=>
  subst hn
  rename_i r cap cur
  have hcl:cur.toList.length=cap*sz:=by simpa using hc
  have hle:xs.length*sz≤cap*sz:=Nat.mul_le_mul_right _ hl
  have hv:VRl g cur.toList (xs.flatten++(cur.toList.drop (xs.length*sz)).map .raw):=by
   conv=>lhs;rw[←List.take_append_drop (xs.length*sz) cur.toList]
   rw[hcur]
   exact hu.append (VRl.raws g _)
  exact⟨_,.row rfl hl hs (by rw[List.length_map,List.length_drop,hcl,hfl];omega),Inv.rawBox hi hv,rfl⟩
theorem RowB.lend {P:Program} {f E sz:Nat} {X v:Value} {xs:List (List PV)} {R:List Res} (hr:RowB E sz v xs R) (ps bs:List PV) (hm:xs.length≤maxN∧xs.length*sz≤maxN) (h:Fn P f (ps++ .slice xs .ro::bs) (.raw X)):
  PCalls P f (ps++ .raw v::bs) R (fun x L'=>x= .raw X∧L'=R):=by
 cases hr with
 |nil o ho=>
  intro vs w g LF hv hi
  exact h vs w g LF (hv.repl (.refl g) fun v hv=>by rw[hv.raw_inv];exact .nilR) hi
 |row hn hl hs hc=>
  subst hn
  exact PCalls.lend ps bs hs rfl hl hm h
section
variable {P:Program} {N:Nat} {all:Array Oper} {K:Env→List Res→Prop} {fl:List Bool} {os:List Oper} {ρ:Env} {L:List Res} {d:Nat} {ty:TypeId} {pos:String} {af:Array Edge}
theorem s_appB {T T₂ E E₂ sz by_:Nat} {α:Type} {f:α→List PV} [hT:TRw P T E sz by_] [h2:TSl P T₂ E₂] [hf:Len f sz] [hff:FlatF f] {x y:Operand} {v:Value} {xs:List (List PV)} {m:List α} {t:Tag} {R LF:List Res} (F:List Res→List Res)
  (hx:ρ.ev x= .raw v) (hy:ρ.ev y= .slice (m.map f) t) (hv:RowB E sz v xs R) (hp:L.Perm (R++LF)) (hq: ∀ R',(R'++LF).Perm (F R')) (hb:(xs.length+m.length)*by_≤140737488355328) (hm:xs.length+m.length≤140737488355328)
  (k: ∀ v' R',RowB E sz v' (xs++m.map f) R'→pops P N all K fl.tail os (upd ρ d (.raw v')) (F R')) (hd:Nat.blt d N=true:=by rfl) (hfl:fl.headD true=true:=by rfl):
  pops P N all K fl (⟨some d,.call { callee:= .builtin .append,args:= #[x,y],argTypes:= #[T,T₂] },ty,pos,af,none⟩::os) ρ L:=
 pops_n rfl (dlt hd) hfl (OpN.perm hp fun a w g ha hi=>by
  have h1:=evRaw ha (x:=x) (by simp[Op.operands,Call.operands]) hx
  have h3:=ha y (by simp[Op.operands,Call.operands])
  rw[hy]at h3
  have hms: ∀ e∈m.map f,e.length=sz:=fun e he=>by obtain⟨a,_,rfl⟩:=List.mem_map.1 he;exact hf.out a
  obtain⟨base,cap,e,_,_,hnone,_,_,us,hus,hcell⟩:=h3.slice_cells (sz:=sz) hms
  rw[List.length_map]at e
  have hvl:us.length=m.length*sz:=by rw[hus.len,flatten_len hms,List.length_map]
  obtain⟨us0,R₁,q1,q2,q3,q4⟩:=hv.open hi
  have hone: ∀ x∈us,x.oneCell'=true:=hus.one (fun c hc=>by
   obtain⟨e,he,hce⟩:=List.mem_flatten.1 hc
   obtain⟨a,_,rfl⟩:=List.mem_map.1 he
   exact hff.out a c hce)
  obtain⟨v',w',R',p1,p2,p3,p4,p5⟩:=app_coreG (P:=P) (T:=T) (T₂:=T₂) (ty:=ty) (.inr ⟨_,h2.out⟩) (.slice base m.length cap) us q3 q2 (fun _=>rfl) hvl hone (fun w' hs'=>by
   cases base with
   |none=>
    have h0:=(hnone rfl).1
    have hm0:m= []:=by simpa using h0
    have:us= []:=List.eq_nil_of_length_eq_zero (by rw[hvl,hm0];simp)
    rw[this];rfl
   |some ad=>
    obtain⟨b,o,s⟩:=ad
    obtain⟨hsp,hH⟩:=hcell _ rfl
    show(loadCells _ (m.length*sz)).run P w'=_
    rw[←hvl]
    exact loadCells_of (hsp.imp_left fun h=>us_nil hus h.1) fun j hj=>hs' _ _ _ (hH j hj)) hb hm
  obtain⟨R₂,z1,z2,z3⟩:=RowB.close (xs:=xs++m.map f) (n:=xs.length+m.length) (by simp) (fun e he=>(List.mem_append.1 he).elim (hv.slice.2 e) (hms e)) p2 (by rw[List.flatten_append];exact q1.append hus) p3
  have hbl: ∀ (A B:List Res),blocks A=blocks B→blocks (A++LF)=blocks (B++LF):=fun A B h=>by
   simp only[blocks,List.filterMap_append]at h ⊢;rw[h]
  refine Oper.wq_of_run (show(do pure (.value (←Builtin.append_ #[T,T₂] ty (#[x,y].map a.eval))):Sem Next).run P w= .ok (.value v') w' by
   simp only[List.map_toArray,List.map_cons,List.map_nil,h1,e,Sem.run_bind,p1,Result.andThen_ok,Sem.run_pure]) ?_
  refine⟨_,.raw v',g,F R₂,rfl,.raw _,z2.perm (hq R₂),?_,?_,k v' R₂ z1⟩
  ·rw[←hbl _ _ q4];exact p4
  ·intro b hb' hlt
   rw[←hbl _ _ q4]
   have hb2:b∈blocks (R'++LF):=by rw[←hbl _ _ z3];exact((hq R₂).filterMap _).symm.subset hb'
   exact p5 b hb2 hlt)
end
end Go.Q
namespace Go.Q
open Go
def splice (X:List Value) (o:Nat) (cs:List Value):List Value:=X.take o++cs++X.drop (o+cs.length)
def CellsAt (cur:Array Value) (o:Nat) (cs:List Value):Prop:= ∀ j (h:j < cs.length),cur.toList[o+j]? =some cs[j]
theorem CellsAt.cell {w:World} {b E o:Nat} {fr:Nat × Nat} {cur:Array Value} {cs:List Value} (h:CellsAt cur o cs) (hb:w.heap[b]? =some (.cells cur E fr)): ∀ j (hj:j < cs.length),w.cell? ⟨b,o+j,none⟩=some cs[j]:=fun j hj=>by
 have:=h j hj
 simp only[World.cell?,hb,Option.isSome_none,Bool.false_eq_true,if_false]
 simpa using this
section
variable {P:Program} {N:Nat} {all:Array Oper} {K:Env→List Res→Prop} {fl:List Bool} {os:List Oper} {ρ:Env} {L:List Res} {d:Nat} {ty:TypeId} {pos:String} {af:Array Edge}
theorem s_capR {T:TypeId} {E:Nat} [hT:TSl P T E] {x:Operand} {a:Option Addr} {n c:Nat} (hx:ρ.ev x= .raw (.slice a n c)) (k:pops P N all K fl.tail os (upd ρ d (.raw (.int .i64 c))) L) (hd:Nat.blt d N=true:=by rfl):
  pops P N all K fl (⟨some d,.call { callee:= .builtin .cap,args:= #[x],argTypes:= #[T] },ty,pos,af,none⟩::os) ρ L:=
 step_q hd (qop_of_run fun a' w g ha hi=>⟨.int .i64 c,by
  have h1:=evRaw ha (x:=x) (by simp[Op.operands,Call.operands]) hx
  have he:execOp a'.eval ⟨some d,.call { callee:= .builtin .cap,args:= #[x],argTypes:= #[T] },ty,pos,af,none⟩=(do pure (.value (←Builtin.cap_ #[T] ty (#[x].map a'.eval)))):=rfl
  rw[he]
  simp[Builtin.cap_,h1,run_und hT.out,goInt],.raw _⟩) k
theorem s_cutAny {T E sz by_:Nat} [hT:TSl P T E] [hE:TSz P E sz by_] {x y:Operand} {b:Option Addr} {kk:IntKind} {n c i:Nat} (hx:ρ.ev x= .raw (.slice b n c)) (hy:ρ.ev y= .raw (.int kk (i:Int))) (hi:i≤n) (hn:n≤c)
  (k: ∀ u,pops P N all K fl.tail os (upd ρ d (.raw u)) L) (hd:Nat.blt d N=true:=by rfl):pops P N all K fl (⟨some d,.slice T x (some y) none none,ty,pos,af,none⟩::os) ρ L:=by
 let u:Value:=if c=i then .slice b (n - i) (c - i)else .slice (b.map (·.add (i*sz))) (n - i) (c - i)
 refine step_q (x:= .raw u) hd (qop_of_run fun a w g ha hI=>?_) (k u)
 have e1:=evRaw ha (x:=x) (by simp[Op.operands]) hx
 have e2:=evRaw ha (x:=y) (by simp[Op.operands]) hy
 refine⟨u,?_,.raw _⟩
 have hbounds:(Instr.sliceBounds true n c (some (a.eval y)) none none).run P w= .ok (i,n,c) w:=by
  unfold Instr.sliceBounds
  simp[e2,Instr.sliceBound,asIntOf]
  omega
 show(do pure (Next.value (←Instr.sliceAt T (a.eval x) (some (a.eval y)) none none)):Sem Next).run P w=_
 simp only[Instr.sliceAt,Sem.run_bind,run_underlying hT.out,Result.andThen_ok,Instr.slice,e1,hbounds,TSz.run hE,Sem.run_pure,u]
 by_cases h:c=i
 ·cases b<;>simp[h]
 ·cases b<;>simp[h]
theorem s_cutC {T E sz by_:Nat} [hT:TSl P T E] [hE:TSz P E sz by_] {x:Operand} {lo hi:Option Operand} {r off n c:Nat} (i j:Nat) (hx:ρ.ev x= .raw (.slice (some ⟨r,off,none⟩) n c)) (hij:i≤j) (hj:j≤c) (hc:i < c) (hnc:n≤c)
  (hlo: ∀ o,lo=some o→ ∃ k,ρ.ev o= .raw (.int k i)) (hlo':lo=none→i=0) (hhi: ∀ o,hi=some o→ ∃ k,ρ.ev o= .raw (.int k j)) (hhi':hi=none→j=n)
  (k:pops P N all K fl.tail os (upd ρ d (.raw (.slice (some ⟨r,off+i*sz,none⟩) (j - i) (c - i)))) L) (hd:Nat.blt d N=true:=by rfl):
  pops P N all K fl (⟨some d,.slice T x lo hi none,ty,pos,af,none⟩::os) ρ L:=
 step_q hd (qop_of_run fun a w g ha hI=>by
  have e1:=evRaw ha (x:=x) (by simp[Op.operands]) hx
  have hbl: ∀ o,lo=some o→ ∃ k,a.eval o= .int k i:=fun o e=>by
   obtain⟨k,hk⟩:=hlo o e
   exact⟨k,evRaw ha (by simp[Op.operands,e]) hk⟩
  have hbh: ∀ o,hi=some o→ ∃ k,a.eval o= .int k j:=fun o e=>by
   obtain⟨k,hk⟩:=hhi o e
   exact⟨k,evRaw ha (by simp[Op.operands,e]) hk⟩
  have hbounds:(Instr.sliceBounds true n c (lo.map a.eval) (hi.map a.eval) none).run P w= .ok (i,j,c) w:=by
   unfold Instr.sliceBounds
   cases lo with
   |none=>
    have:=hlo' rfl;subst this
    cases hi with
    |none=>have:=hhi' rfl;subst this;simp
    |some o=>
     obtain⟨k,hk⟩:=hbh o rfl
     simp[hk,Instr.sliceBound,asIntOf]
     omega
   |some o=>
    obtain⟨k,hk⟩:=hbl o rfl
    cases hi with
    |none=>
     have:=hhi' rfl;subst this
     simp[hk,Instr.sliceBound,asIntOf]
     omega
    |some o'=>
     obtain⟨k',hk'⟩:=hbh o' rfl
     simp[hk,hk',Instr.sliceBound,asIntOf]
     rw[if_pos (by omega)]
     simp
     omega
  refine⟨.slice (some ⟨r,off+i*sz,none⟩) (j - i) (c - i),?_,.raw _⟩
  show(do pure (Next.value (←Instr.sliceAt T (a.eval x) (lo.map a.eval) (hi.map a.eval) none)):Sem Next).run P w=_
  simp only[Instr.sliceAt,Sem.run_bind,run_underlying hT.out,Result.andThen_ok,Instr.slice,e1,hbounds,TSz.run hE,Sem.run_pure]
  rw[if_neg (by omega)]
  simp[add_plain]) k
theorem s_copyR {T T₂ E sz by_:Nat} [hT:TRw P T E sz by_] {x y:Operand} {r o dn dc b o2 sn sc:Nat} {cur:Array Value} (cs:List Value) {L':List Res} (F:Res→List Res)
  (hx:ρ.ev x= .raw (.slice (some ⟨r,o,none⟩) dn dc)) (hy:ρ.ev y= .raw (.slice (some ⟨b,o2,none⟩) sn sc)) (hp:L.Perm (.raw r (.cells cur E (0,0))::L')) (hq: ∀ c,(c::L').Perm (F c))
  (hl:cs.length=Nat.min sn dn*sz) (hone: ∀ x∈cs,x.oneCell'=true) (hfit:o+cs.length≤cur.size)
  (hs: ∃ cur2 E2 fr,Res.raw b (.cells cur2 E2 fr)∈(Res.raw r (.cells cur E (0,0))::L')∧CellsAt cur2 o2 cs)
  (k:pops P N all K fl.tail os (upd ρ d (.raw (.int .i64 (Nat.min sn dn:Nat)))) (F (.raw r (.cells (splice cur.toList o cs).toArray E (0,0))))) (hd:Nat.blt d N=true:=by rfl) (hfl:fl.headD true=true:=by rfl):
  pops P N all K fl (⟨some d,.call { callee:= .builtin .copy,args:= #[x,y],argTypes:= #[T,T₂] },ty,pos,af,none⟩::os) ρ L:=
 pops_n rfl (dlt hd) hfl (OpN.perm hp fun a w g ha hi=>by
  have h1:=evRaw ha (x:=x) (by simp[Op.operands,Call.operands]) hx
  have h2:=evRaw ha (x:=y) (by simp[Op.operands,Call.operands]) hy
  obtain⟨i,z,t1,t2,t3,t4,t5,t6,t7,t8⟩:=hT.out
  obtain⟨k1,k2,k3,k4,k5⟩:=hi.rawHead
  obtain⟨cur2,E2,fr,hm,hc⟩:=hs
  have hb:=(hi.res _ hm).1
  have hload:(loadCells ⟨b,o2,none⟩ (Nat.min sn dn*sz)).run P w= .ok cs.toArray w:=by
   rw[←hl];exact loadCells_run (hc.cell hb)
  obtain⟨w',hrun,hb',hos,htp,hout,hsz,hk⟩:=storeCells_run (P:=P) cs w cur.toList o 0 (by simpa using k1) (by simpa using hfit) hone
  have he:execOp a.eval ⟨some d,.call { callee:= .builtin .copy,args:= #[x,y],argTypes:= #[T,T₂] },ty,pos,af,none⟩=(do pure (.value (←Builtin.copy_ #[T,T₂] ty (#[x,y].map a.eval)))):=rfl
  have hr:(execOp a.eval ⟨some d,.call { callee:= .builtin .copy,args:= #[x,y],argTypes:= #[T,T₂] },ty,pos,af,none⟩).run P w= .ok (.value (.int .i64 (Nat.min sn dn:Nat))) w':=by
   rw[he]
   simp[Builtin.copy_,h1,h2,run_underlying t1,sizeOf,typeInfo,t2,t3,Builtin.lenOf,Builtin.firstCells,hload,hrun,goInt]
  rw[Nat.add_zero]at hb'
  refine Oper.wq_of_run hr ?_
  exact⟨_,.raw _,g,_,rfl,.raw _,(hi.turnRaw hb' hk).perm (hq _),⟨hos,htp,hout,Nat.le_of_eq hsz.symm,fun b _ hn=>hk b (fun e=>hn (by simp[blocks,Res.block,e])),.refl g,fun _ _ _=>⟨fun _=>rfl,rfl⟩⟩,
   fun b hb _=>by
    have:=(blocks_perm (hq _)).symm.subset hb
    simpa [blocks,Res.block]using this,k⟩)
theorem s_appRR {T T₂ E E₂ sz by_:Nat} [hT:TRw P T E sz by_] [h2:TSl P T₂ E₂] {x y:Operand} {v:Value} {n m b o2 sc:Nat} {us vs:List Value} {R LF:List Res} (F:List Res→List Res)
  (hx:ρ.ev x= .raw v) (hy:ρ.ev y= .raw (.slice (some ⟨b,o2,none⟩) m sc)) (hv:RowG E sz v n us R) (hp:L.Perm (R++LF)) (hq: ∀ R',(R'++LF).Perm (F R'))
  (hvl:vs.length=m*sz) (hone: ∀ x∈vs,x.oneCell'=true) (hs: ∃ cur2 E2 fr,Res.raw b (.cells cur2 E2 fr)∈LF∧CellsAt cur2 o2 vs) (hb:(n+m)*by_≤140737488355328) (hm:n+m≤140737488355328)
  (k: ∀ v' R',RowG E sz v' (n+m) (us++vs) R'→pops P N all K fl.tail os (upd ρ d (.raw v')) (F R')) (hd:Nat.blt d N=true:=by rfl) (hfl:fl.headD true=true:=by rfl):
  pops P N all K fl (⟨some d,.call { callee:= .builtin .append,args:= #[x,y],argTypes:= #[T,T₂] },ty,pos,af,none⟩::os) ρ L:=
 pops_n rfl (dlt hd) hfl (OpN.perm hp fun a w g ha hi=>by
  have h1:=evRaw ha (x:=x) (by simp[Op.operands,Call.operands]) hx
  have h3:=evRaw ha (x:=y) (by simp[Op.operands,Call.operands]) hy
  obtain⟨cur2,E2,fr,hm2,hc⟩:=hs
  have hbk:=(hi.res _ (List.mem_append_right _ hm2)).1
  obtain⟨v',w',R',q1,q2,q3,q4,q5⟩:=app_coreH (P:=P) (T:=T) (T₂:=T₂) (ty:=ty) (.inr ⟨_,h2.out⟩) (.slice (some ⟨b,o2,none⟩) m sc) vs hi hv (fun _=>rfl) hvl hone (fun w' e=>by
   show(loadCells _ (m*sz)).run P w'=_
   rw[←hvl]
   exact loadCells_run (hc.cell (e ▸ hbk))) hb hm
  refine Oper.wq_of_run (show(do pure (.value (←Builtin.append_ #[T,T₂] ty (#[x,y].map a.eval))):Sem Next).run P w= .ok (.value v') w' by
   simp only[List.map_toArray,List.map_cons,List.map_nil,h1,h3,Sem.run_bind,q1,Result.andThen_ok,Sem.run_pure]) ?_
  exact⟨v',.raw v',g,F R',rfl,.raw _,q3.perm (hq R'),q4,fun b hb hlt=>q5 b ((blocks_perm (hq R')).symm.subset hb) hlt,k v' R' q2⟩)
theorem s_appZ {T T₂ E sz by_:Nat} [hT:TRw P T E sz by_] {kk:IntKind} (h2:P.underlying T₂=some (.int .i64)) {x y:Operand} {r o n m c:Nat} {us:List Value} {cur:Array Value} {L':List Res}
  (hx:ρ.ev x= .raw (.slice (some ⟨r,o,none⟩) n c)) (hy:ρ.ev y= .raw (.int kk (m:Int))) (hm:Res.raw r (.cells cur E (0,0))∈L) (hl:L=L') (hu:us.length=n*sz) (hc:CellsAt cur o us) (h0:0 < m) (hn:c < n+m) (hb:(n+m)*by_≤140737488355328) (hbm:n+m≤140737488355328)
  (k: ∀ r' nc (zs:List Value),n+m≤nc→(us++zs).length=nc*sz→pops P N all K fl.tail os (upd ρ d (.raw (.slice (some ⟨r',0,none⟩) (n+m) nc))) (.raw r' (.cells (us++zs).toArray E (0,0))::L')) (hd:Nat.blt d N=true:=by rfl) (hfl:fl.headD true=true:=by rfl):
  pops P N all K fl (⟨some d,.call { callee:= .builtin .append,args:= #[x,y],argTypes:= #[T,T₂] },ty,pos,af,none⟩::os) ρ L:=
 pops_n rfl (dlt hd) hfl (fun a w g ha hi=>by
  have h1:=evRaw ha (x:=x) (by simp[Op.operands,Call.operands]) hx
  have h3:=evRaw ha (x:=y) (by simp[Op.operands,Call.operands]) hy
  obtain⟨i,z,t1,t2,t3,t4,t5,t6,t7,t8⟩:=hT.out
  have hbk:=(hi.res _ hm).1
  have hload: ∀ w',w'.heap=w.heap→(loadCells ⟨r,o,none⟩ (n*sz)).run P w'= .ok us.toArray w':=fun w' e=>by
   rw[←hu];exact loadCells_run (hc.cell (e ▸ hbk))
  have hw:IntKind.i64.wrap (m:Int)=m:=by rw[IntKind.wrap_i64];omega
  have h63': ¬(9223372036854775807 < ((n:Int)+(m:Int))):=by omega
  have h48': ¬(281474976710656 < Builtin.nextslicecap (n+m) c*i.bytes):=by
   rw[t4]
   have:Builtin.nextslicecap (n+m) c*by_≤2*140737488355328:=by
    calc Builtin.nextslicecap (n+m) c*by_≤(2*(n+m))*by_:=Nat.mul_le_mul_right _ (nextslicecap_le hn)
     _=2*((n+m)*by_):=by rw[Nat.mul_assoc]
     _≤2*140737488355328:=Nat.mul_le_mul_left _ hb
   omega
  have h48i: ¬(281474976710656 < (m:Int)*(i.bytes:Int)):=by
   rw[←Int.natCast_mul,t4]
   have:m*by_≤(n+m)*by_:=Nat.mul_le_mul_right _ (by omega)
   omega
  have hneg: ¬((m:Int) < 0):=by omega
  have hns: ¬(m*sz=0):=Nat.mul_ne_zero (by omega) t7
  have hle: ¬(n+m≤c):=by omega
  obtain⟨zs,hzs⟩: ∃ zs:List Value,zs=(Builtin.zeroCells z.cells m).toList++(Builtin.zeroCells z.cells (grownCap w (n+m) c E - (n+m))).toList:=⟨_,rfl⟩
  have hr:(execOp a.eval ⟨some d,.call { callee:= .builtin .append,args:= #[x,y],argTypes:= #[T,T₂] },ty,pos,af,none⟩).run P w= .ok (.value (.slice (some ⟨w.heap.size,0,none⟩) (n+m) (grownCap w (n+m) c E))) (w.drew.alloc (.cells (us++zs).toArray E (0,0))):=by
   have f1:=hload w.drew rfl
   show(do pure (.value (←Builtin.append_ #[T,T₂] ty (#[x,y].map a.eval))):Sem Next).run P w=_
   simp[Builtin.append_,h1,h3,run_underlying t1,run_underlying h2,sizeOf,typeInfo,zeroValue,t2,t3,t5,asInt,asIntOf,hw,hneg,h48i,hns,hle,h63',h48',Question.forced,Builtin.firstCells,f1,newRow,grownCap,hzs]
   congr 2
   apply Array.ext'
   simp[grownCap]
  have hge:=grownCap_ge w (n+m) c E
  have hlen:(us++zs).length=grownCap w (n+m) c E*sz:=by
   have e1: ∀ m,(Builtin.zeroCells z.cells m).toList.length=m*sz:=fun m=>by rw[Array.length_toList,size_zeroCells,t6]
   rw[hzs,List.length_append,List.length_append,e1,e1,hu,←Nat.add_mul,←Nat.add_mul]
   congr 1;omega
  obtain⟨j1,j2,j3⟩:=grown_row (R:= []) (LF:=L) hi (.cells (us++zs).toArray E (0,0))
  refine Oper.wq_of_run hr ?_
  subst hl
  exact⟨_,.raw _,g,_,rfl,.raw _,j1,j2,j3,k _ _ zs hge hlen⟩)
theorem s_overlaps {f:Nat} {fn:Func} {T B E sz by_:Nat} (hf:P.funcs[f]? =some fn) (hn:(fn.name== "runtime.NumGoroutine")=false) (hb:fn.body.isNone=true) (h1:Extern.findNext fn=none) (h2:Extern.find fn=some (Extern.SlicesOverlaps.overlaps #[T,T] #[B]))
  [hT:TSl P T E] [hE:TSz P E sz by_] {ats:Array TypeId} {x y:Operand} {rv o n c r o2 n2 c2 Ev Er:Nat} {cv cr:Array Value} {L':List Res} (hx:ρ.ev x= .raw (.slice (some ⟨rv,o,none⟩) n c)) (hy:ρ.ev y= .raw (.slice (some ⟨r,o2,none⟩) n2 c2))
  (hp:L.Perm (.raw rv (.cells cv Ev (0,0)):: .raw r (.cells cr Er (0,0))::L')) (hk:cr.size≠0) (k:pops P N all K fl.tail os (upd ρ d (.raw (.bool false))) L) (hd:Nat.blt d N=true:=by rfl):
  pops P N all K fl (⟨some d,.call { callee:= .value (.func f),args:= #[x,y],argTypes:=ats },ty,pos,af,none⟩::os) ρ L:=
 step_q hd (qop_of_run fun a w g ha hi=>by
  have e1:=evRaw ha (x:=x) (by simp[Op.operands,Call.operands]) hx
  have e2:=evRaw ha (x:=y) (by simp[Op.operands,Call.operands]) hy
  have hi2:=hi.perm hp
  obtain⟨q1,_,_,q4,q5⟩:=hi2.rawHead
  obtain⟨p1,_⟩:=q5.rawHead
  have hne:rv≠r:=fun e=>q4 (by simp[blocks,Res.block,e])
  refine⟨.bool false,?_,.raw _⟩
  have he:execOp a.eval ⟨some d,.call { callee:= .value (.func f),args:= #[x,y],argTypes:=ats },ty,pos,af,none⟩=callFunc f (#[]++ #[x,y].map a.eval++ #[]):=rfl
  rw[he]
  have hcall:(callFunc f #[.slice (some ⟨rv,o,none⟩) n c,.slice (some ⟨r,o2,none⟩) n2 c2]).run P w= .ok (.value (.bool false)) w:=by
   rw[run_callFunc_extern hf hn hb h1 h2,Lib.run_overlaps_apart w T B E hT.out sz (TSz.run hE) ⟨rv,o,none⟩ ⟨r,o2,none⟩ n c n2 c2 hne Ev Er cv.size cr.size (by simp[World.shape?,q1]) (by simp[World.shape?,p1]) hk (by simp[World.frozen?,q1]) (by simp[World.frozen?,q1])]
   rfl
  simpa [e1,e2]using hcall) k
end
end Go.Q
